/- ChangeReplays of kingpostlaw58: part 1 of its proof (merged and shortened by program). -/
import Derived.Test.YtmliacdegmklaaaGreatDoorProg
import Derived.WalkKit
import Derived.WalkSpells
import Derived.WalkLawsBesides
import Derived.Lib.Hide
import Derived.Deep.QuietTactic
import Derived.BigQuiet
import Derived.OwnWalk
import Derived.RangeFuncNested
import Derived.RangeFuncBound
import Derived.RangeFuncCalls
import Derived.RangeFuncLeaves
import Derived.Shelf.Abstract
import Derived.OwnWalkIn
import Derived.TacticsInMore
import Derived.LoopNIn
import Derived.LoopIn
import Derived.StillTailTactics
import Derived.OrdersIn
import Derived.BigRegionIn
import Derived.Deep.RegionWith
import Derived.Maps.AppendAt
import Derived.Laws.AppendOwn
set_option linter.unusedVariables false
set_option linter.unusedSimpArgs false
set_option linter.defProp false
set_option maxHeartbeats 8000000
set_option maxRecDepth 100000
open Go.RowKit Go.Shelf Go.Proofs.Tryz
open Array renaming getElem?_eq_some_iff→Vz
open Bool renaming false→Vp,true→Vv,and_eq_true_iff→Vw
open Go renaming World→Vl,Value→Vr,undef→Vs,wpOp_step→Vx,Calls→VC,maxLen→VJ,TypeId→VK,Addr→VM,Rows→VP
open Go.AllReady renaming cons→VH,nil→VO
open Go.Ending renaming returned→VV
open Go.IntKind renaming i64→VA
open Go.IntWalk renaming i64_in→VI
open Go.Lib renaming hid→Vk
open Go.RowKit renaming intOf→VG,Below→VL
open Go.Value renaming slice→VQ,string→VR,bool→VS,pointer→VT,int→VU,agg→VW,tuple→VX
open Go.World renaming alloc_heap_new→Vy,size_alloc→VF
open List renaming getD_eq_getElem?_getD→Vn,getElem?_eq_getElem→Vt,length_map→Vu,length_append→VD
open Nat renaming le_refl→Vm,le_trans→VB,mul_comm→VE
open Option renaming none→Vo,some→Vq
open Option.some renaming inj→VN
namespace Go.Proofs.YtmliacdegmklaaaGreatDoor
theorem _root_.Go.RowKit.Hid.o{p:Prop}(h:Go.RowKit.Hid p):p:=h
theorem VY{p:Prop}(h:p:=by omega):p:=h
theorem VZ{p:Prop}(h:p:=by kernel_rfl):p:=h
theorem V0{p:Prop}(h:p:=by decide):p:=h
theorem V5{p:Prop}(h:p:=by simp):p:=h
theorem V6{p:Prop}(h:p:=by cases h):p:=h
theorem V7{p:Prop}(h:p:=by simp[VG];omega):p:=h
theorem V8{p:Prop}(h:p:=by rw[decide_eq_false_iff_not];omega):p:=h
theorem V9{p:Prop}(h:p:=by rw[HR.o];rfl):p:=h
theorem Wa{p:Prop}(h:p:=by simp;omega):p:=h
theorem Wb{p:Prop}(h:p:=by rw[beq_eq_false_iff_ne];intro e;exact hc0 (UInt8.toNat.inj (by show c0.toNat=45;exact Int.ofNat.inj e))):p:=h
theorem Wc{p:Prop}(h:p:=by unfold VJ;omega):p:=h
theorem Wd{p:Prop}(h:p:=by assumption):p:=h
theorem We{p:Prop}(h:p:=by rw[beq_eq_false_iff_ne];omega):p:=h
theorem Wf{p:Prop}(h:p:=by rw[Addr.add_lit,Nat.zero_add,(ah.new wr 3 [VU VA (x:Int)]).cell];exact hj):p:=h
theorem Wg{p:Prop}(h:p:=by first|with_reducible exact xn _ _ _ _|with_reducible exact DG _ _ _ _|with_reducible exact zy _ _ _ _|with_reducible exact Cq _ _ _ _):p:=h
theorem Wh{p:Prop}(h:p:=by rw[decide_eq_true_eq];omega):p:=h
theorem Wi{p:Prop}(h:p:=by first|omega|(simp;done)|(simp;omega)):p:=h
theorem Wj{p:Prop}(h:p:=by simp; omega):p:=h
theorem Wk{p:Prop}(h:p:=by rw[HE.o];rfl):p:=h
theorem Wl{p:Prop}(h:p:=by simp[MapKept.IsKey]):p:=h
theorem Wm{p:Prop}(h:p:=by rw[ka,VD,List.length_singleton,show((j:Int)-6).toNat=b by omega];exact sM HVV.o (Az hb HXV.o)):p:=h
theorem Wn{p:Prop}(h:p:=by rfl):p:=h
theorem Wo{p:Prop}(h:p:=by rw[<-hW0];exact(Below.refl _ _).alloc (Vm _) _):p:=h
theorem Wp{p:Prop}(h:p:=by unfold Func.isWrapper;first|(rw[if_pos (by decide+kernel)];kernel_rfl)|(rw[if_neg (by decide+kernel)];exact⟨rfl,rfl⟩)):p:=h
theorem Wq{p:Prop}(h:p:=by decide +kernel):p:=h
theorem Wr{p:Prop}(h:p:=by have:=fR hn;simp at this hr;omega):p:=h
theorem Ws{p:Prop}(h:p:=by rw[<-hW0];exact((Below.refl _ _).alloc (Vm _) _).alloc (by simp) _):p:=h
theorem Wt{p:Prop}(h:p:=by rw[MakeChecks.laidMetH_plain _ _ _ (by kernel_rfl)];exact laidMet_laidAll _ (by kernel_rfl) (by kernel_rfl)):p:=h
theorem Wu{p:Prop}(h:p:=by rw[getD_replicate_false] at hl;cases hl):p:=h
theorem Wv{p:Prop}(h:p:=by rw[HV.o];rfl):p:=h
theorem Ww{p:Prop}(h:p:=by first|omega|(simp;done)|(simp[World.setCell];omega)):p:=h
theorem Wx{p:Prop}(h:p:=by show c0.toNat=45;exact Int.ofNat.inj e):p:=h
theorem Wy{p:Prop}(h:p:=by simpa using h):p:=h
theorem Wz{p:Prop}(h:p:=by rw[<-hB,bB (λr hr=>hw r (List.mem_of_mem_drop hr)),List.length_drop,hn]):p:=h
theorem WA{p:Prop}(h:p:=by simp only[Nat.min_def];split <;>omega):p:=h
theorem WB{p:Prop}(h:p:=by rw[decide_eq_false_iff_not];exact h1):p:=h
theorem WC{p:Prop}(h:p:=by simp [VG]; omega):p:=h
theorem WD{p:Prop}(h:p:=by have:=HN.o;omega):p:=h
theorem WE{p:Prop}(h:p:=by rw[hnum];rfl):p:=h
theorem WG{p:Prop}(h:p:=by first|exact HX.o|exact below_drewN HX.o _|exact Below.refl _ _):p:=h
theorem WH{p:Prop}(h:p:=by rw[hk];rfl):p:=h
theorem WI{p:Prop}(h:p:=by have:=hne _ h;simp at this;omega):p:=h
theorem WJ{p:Prop}(h:p:=by rw[decide_eq_false_iff_not];exact h2):p:=h
theorem WK{p:Prop}(h:p:=by rw[List.length_take];omega):p:=h
theorem WL{p:Prop}(h:p:=by unfold gC;rw[h];rfl):p:=h
theorem WM{p:Prop}(h:p:=by unfold dK;rw[h];rfl):p:=h
theorem WN{p:Prop}(h:p:=by decide+kernel):p:=h
theorem WO{p:Prop}(h:p:=by simp[ByteArray.size]):p:=h
theorem WQ{p:Prop}(h:p:=by simp[Value.oneCell']):p:=h
theorem WR{p:Prop}(h:p:=by simp[Act.eval,Act.put]):p:=h
theorem WS{p:Prop}(h:p:=by first|rfl|(simp only[World.drewN_drewN];rfl)):p:=h
theorem WT{p:Prop}(h:p:=by rw[<-hW0];exact EC.new w _):p:=h
theorem WU{p:Prop}(h:p:=by rw[decide_eq_false_iff_not];exact h3):p:=h
theorem WV{p:Prop}(h:p:=by first|rfl|trivial):p:=h
theorem WW{p:Prop}(h:p:=by rw[bne_iff_ne];omega):p:=h
theorem WX{p:Prop}(h:p:=by simp[ByteArray.getElem_eq_getElem_data]):p:=h
theorem WY{p:Prop}(h:p:=by simp_all):p:=h
theorem WZ{p:Prop}(h:p:=by have:=ah.new (w.alloc (Obj.cells #[VS Vp,VQ Vo 0 0] 308)) 308 [VS s,VQ Vo 0 0];simpa using this):p:=h
theorem Xa{p:Prop}(h:p:=by rw[inv.size];omega):p:=h
theorem Xb{p:Prop}(h:p:=by rw[bne_iff_ne];intro e;exact hc (UInt8.toNat.inj (by show c.toNat=47;exact Int.ofNat.inj e))):p:=h
theorem Xc{p:Prop}(h:p:=by simp [aW, Act.put, d2, rT, d0]):p:=h
theorem Xd{p:Prop}(h:p:=by rw[decide_eq_false_iff_not];exact h4):p:=h
theorem Xe{p:Prop}(h:p:=by rw[bB (qH hw hx i),lX rows i x (by omega),hn]):p:=h
theorem Xf{p:Prop}(h:p:=by first | assumption | simp_all):p:=h
theorem Xg{p:Prop}(h:p:=by rw[OpenClaim.pre_eq_preRow];exact lifted os started H enc F):p:=h
theorem Xh{p:Prop}(h:p:=by injection e with e;injection e with e1 e2;exact⟨e1,e2⟩):p:=h
theorem Xi{p:Prop}(h:p:=by rw[Vu];exact hi):p:=h
theorem Xj{p:Prop}(h:p:=by simp at hD;omega):p:=h
theorem Xk{p:Prop}(h:p:=by rw[<-HVS.o,HR.o];unfold sN;rw[List.map_append];rfl):p:=h
theorem Xl{p:Prop}(h:p:=by simpa using hi):p:=h
theorem Xm{p:Prop}(h:p:=by simp only[List.size_toArray,hx,hm];omega):p:=h
theorem Xn{p:Prop}(h:p:=by rw[Vu];exact hlen):p:=h
theorem Xo{p:Prop}(h:p:=by rw[Array.length_toList];exact h):p:=h
theorem Xp{p:Prop}(h:p:=by obtain⟨_,_,_,h2,h3,_⟩:=hr;unfold VJ at h3;omega):p:=h
theorem Xq{p:Prop}(h:p:=by rw[gP hk hl] at h;cases h):p:=h
theorem Xr{p:Prop}(h:p:=by rw[HF.o];rfl):p:=h
theorem Xs{p:Prop}(h:p:=by first|omega|(simp;omega)):p:=h
theorem Xt{p:Prop}(h:p:=by rw[h3];cases cs;simp_all):p:=h
theorem Xu{p:Prop}(h:p:=by rw[decide_eq_false_iff_not];exact h5):p:=h
theorem Xv{p:Prop}(h:p:=by rw[<-List.flatten_append,List.take_append_drop]):p:=h
theorem Xw{p:Prop}(h:p:=by simp[hx]):p:=h
theorem Xx{p:Prop}(h:p:=by rw[ai] at hw2;exact hw2):p:=h
theorem Xy{p:Prop}(h:p:=by intro u hu;simp at hu;subst hu;rfl):p:=h
theorem Xz{p:Prop}(h:p:=by have:=HXX.o;have:=HYY.o;omega):p:=h
theorem XA{p:Prop}(h:p:=by have:=hne _ h;simp at this):p:=h
theorem XB{p:Prop}(h:p:=by have:=HK.o;have:=HYL.o;omega):p:=h
theorem XC{p:Prop}(h:p:=by rw[e];rfl):p:=h
theorem XD{p:Prop}(h:p:=by rw[ai];omega):p:=h
theorem XE{p:Prop}(h:p:=by rw[Vu];exact h0):p:=h
theorem XF{p:Prop}(h:p:=by rw[hz2];omega):p:=h
theorem XG{p:Prop}(h:p:=by rw[bne_iff_ne];exact hc0):p:=h
theorem XH{p:Prop}(h:p:=by have:=HM.o.num.lt;simp;omega):p:=h
theorem XI{p:Prop}(h:p:=by rw[VD];have:=HK.o;simp;omega):p:=h
theorem XJ{p:Prop}(h:p:=by simpa using hl):p:=h
theorem XK{p:Prop}(h:p:=by simpa using hx):p:=h

theorem XL{p:Prop}(h:p:=by
 unfold fv
 rw[Vn]
 rcases Nat.lt_or_ge k l.length with hk|hk
 ·rw[Vt hk];exact h _ (List.getElem_mem hk)
 ·rw[List.getElem?_eq_none hk];decide):p:=h
theorem XM{p:Prop}(h:p:=by
 by_cases hd:d=0
 ·subst hd;rw[dR];exact ih h.yR
 ·rw[iK hd];exact⟨h,yD hd⟩):p:=h
theorem XN{p:Prop}(h:p:=by
 obtain⟨A,cap,rfl,h1,h2,hc⟩:=h
 refine⟨A,cap,rfl,h1,h2,λhn=> ?_⟩
 obtain⟨b,off,e,hb,hcell⟩:=hc hn
 exact⟨b,off,e,VY,hcell⟩):p:=h
theorem XO{p:Prop}(h:p:=by
 go_wp2
 go_ret
 exact⟨rfl,rfl⟩):p:=h
theorem XP{p:Prop}(h:p:=by
 have hz:((fv l k:Int)==0)=Vp:=We
 have H0:=Vk h0
 clear h0 hcell
 go_wp2
 go_ret
 exact⟨by rw[yq VY H0.o ht.o];rfl,rfl⟩):p:=h
theorem XQ{p:Prop}(h:p:=by
 go_wp2
 go_ret
 exact⟨by have:=ht.o;simp[od] at this;rw[this];rfl,rfl⟩):p:=h
theorem XR{p:Prop}(h:p:=by
 unfold fv
 simp only[Vn,List.getElem?_set]
 by_cases h:j=k
 ·subst h;simp[hj]
 ·simp[h,Ne.symm h]):p:=h
theorem XS{p:Prop}(h:p:=by
 simp only[List.length_set] at hk
 rw[ie hj,Array.getElem?_setIfInBounds]
 by_cases hkj:j=k
 ·subst hkj;simp[h1];omega
 ·rw[if_neg hkj,if_neg (Ne.symm hkj)];exact hc k hk):p:=h
theorem XT{p:Prop}(h:p:=by
 simp[World.setCell,Array.getElem?_modify,hh]):p:=h
theorem XU{p:Prop}(h:p:=by
 have h':=h
 obtain⟨cur,hh,h1,h2,h3,hc⟩:=h
 exact⟨_,cap,rfl,h2,h3,λ_=>⟨g,0,rfl,hg,λj hj=>by rw[Nat.zero_add];exact h'.cell hj⟩⟩):p:=h
theorem XV{p:Prop}(h:p:=by
 intro d hd
 rcases List.mem_or_eq_of_mem_set hd with h1|h1
 ·exact h d h1
 ·rw[h1];exact hx):p:=h
theorem XW{p:Prop}(h:p:=by
 have:sh (fv u) j k=fv u' (j+k):=(hsame _ VY).symm
 rw[this];exact he):p:=h
theorem XX{p:Prop}(h:p:=by
 obtain rfl:k=v.length+1:=VY
 go_wp2
 go_ret
 exact⟨c,u',rfl,hrel⟩):p:=h
theorem XY{p:Prop}(h:p:=by
 go_wp2_with fail
 rw[E1.o]
 go_ret
 exact⟨q-1,_,rfl,HL.o.1,VY,WS⟩):p:=h
theorem XZ{p:Prop}(h:p:=by
 go_wp2_with fail
 rw[E1.o]
 exact⟨⟨q-1,r+v1,_,rfl,by go_num,⟨HL.o.2,HL.o.1,VY,hB0⟩,WS⟩,V7⟩):p:=h
theorem Ya{p:Prop}(h:p:=by
 simpa using this):p:=h
theorem Yb{p:Prop}(h:p:=by
 have hr:=run_endLoop (P:=P) hl (by rw[hR];simp)
 exact⟨Vq c,_,by rw[hr,hR],hstop _ c k _ (Vm _) hk (hIx _ _ _ _ hi (aE.putObj _ hl rfl VY)) ((World.putObj_heap_other VY).trans hd)⟩):p:=h
theorem Yc{p:Prop}(h:p:=by
 have hr:=run_endLoop (P:=P) hl (by rw[hR];simp)
 exact⟨Vo,_,by rw[hr,hR],hdone _ _ (Vm _) (hI _ _ _ hi (aE.putObj _ hl rfl VY)) ((World.putObj_heap_other VY).trans hd)⟩):p:=h
theorem Yd{p:Prop}(h:p:=by
 obtain⟨hk3,hi3⟩:=hp
 obtain⟨W4,hr,hs,hl4,hd4⟩:=fin (Vq (.goto t)) W3 hk3
 exact⟨_,_,hr,.inr ⟨rfl,.goto t,hIx _ _ _ _ hi3 hs,hl4,hd4⟩⟩):p:=h
theorem Ye{p:Prop}(h:p:=by
 obtain⟨hk3,hi3⟩:=hp
 obtain⟨W4,hr,hs,hl4,hd4⟩:=fin (Vq (.exit id)) W3 hk3
 exact⟨_,_,hr,.inr ⟨rfl,.exit id,hIx _ _ _ _ hi3 hs,hl4,hd4⟩⟩):p:=h
theorem Yf{p:Prop}(h:p:=by
 obtain⟨hk3,hi3⟩:=hp
 obtain⟨W4,hr,hs,hl4,hd4⟩:=fin (Vq .ret) W3 hk3
 exact⟨_,_,hr,.inr ⟨rfl,.ret,hIx _ _ _ _ hi3 hs,hl4,hd4⟩⟩):p:=h
theorem Yg{p:Prop}(h:p:=by
 obtain⟨hk3,hi3⟩:=hp
 obtain⟨W4,hr,hs,hl4,hd4⟩:=fin Vo W3 hk3
 exact⟨_,_,hr,.inl ⟨rfl,hI _ _ _ hi3 hs,hl4,hd4⟩⟩):p:=h
theorem Yh{p:Prop}(h:p:=by
 have:=Vy (w.alloc (.deferred (Vq []))) (.loop (R .ready Vo))
 rwa[VF,hW1] at this):p:=h
theorem Yi{p:Prop}(h:p:=by
 gi_wp2
 go_end0
 exact⟨⟨_,rfl⟩,.inl hj⟩):p:=h
theorem Yj{p:Prop}(h:p:=by
 constructor <;>constructor <;>intro _<;>omega):p:=h
theorem Yk{p:Prop}(h:p:=by
 refine wpAny_ready (rs:=[9]) VZ V5 ?_
 refine VH rfl (λK hK=> ?_) ?_
 ·go_simp
  refine hK _ _ ?_
  clear hK K
  refine wpAny_ready (rs:=[10]) VZ V5 ?_
  refine VH rfl (λK hK=> ?_) ?_
  ·go_simp
   refine hK _ _ ?_
   clear hK K
   refine wpAny_done VZ ?_ _
   gi_wp2
   exact kZ HN.o
  exact VO
 exact VO):p:=h
theorem Yl{p:Prop}(h:p:=by
 refine wpAny_ready (rs:=[10]) VZ V5 ?_
 refine VH rfl (λK hK=> ?_) ?_
 ·go_simp
  refine hK _ _ ?_
  clear hK K
  refine wpAny_done VZ ?_ _
  gi_wp2
  exact kZ HN.o
 exact VO):p:=h
theorem Ym{p:Prop}(h:p:=by
 gi_wp2
 refine⟨λh=>V6,hR.mono ?_⟩
 rintro e W3 (⟨rfl,hJ3⟩|⟨rfl,hJx3⟩)
 ·gi_wp2
  go_roundw
  case rel=>exact⟨k+1,VY,V5,hJ3⟩
  case measure=>simp[VG];omega
 ·gi_wp2
  refine bodyPost_ret (results_none rfl _ _ _) rfl ?_
  exact⟨⟨_,rfl⟩,.inr ⟨k,hlt,hJx3⟩⟩):p:=h
theorem Yn{p:Prop}(h:p:=by
 refine wpAny_ready (rs:=[11]) VZ V5 ?_
 refine VH rfl (λK hK=> ?_) ?_
 ·go_simp
  refine hK _ _ ?_
  clear hK K
  refine wpAny_done VZ ?_ _
  gi_wp2
  exact nQ HN.o
 exact VO):p:=h
theorem Yo{p:Prop}(h:p:=by
 rw[hu]
 calc 10^(k%9)<=10^8:=Nat.pow_le_pow_right V0 VY
  _=100000000:=rfl):p:=h
theorem Yp{p:Prop}(h:p:=by
 refine wpAny_ready (rs:=[11]) VZ V5 ?_
 refine VH rfl (λK hK=> ?_) ?_
 ·go_simp
  refine hK _ _ ?_
  clear hK K
  refine wpAny_done VZ ?_ _
  gi_wp2
  exact ud hk3.o HN.o
 exact VO):p:=h
theorem Yq{p:Prop}(h:p:=by
 clear h
 go_enter func295,ntmps295
 go_wp2
 exact bodyPost_ret (v:= VX #[VU VA 0,VU VA 0,VS Vp]) (by simp[results,results295,go_sem]) rfl ⟨rfl,Below.refl _ _⟩):p:=h
theorem Yr{p:Prop}(h:p:=by
 rcases hown'.2 with⟨hv,_⟩|⟨g,cap,cur,hv,_⟩
 ·exact⟨_,_,_,hv⟩
 ·exact⟨_,_,_,hv⟩):p:=h
theorem Ys{p:Prop}(h:p:=by
 by_cases h10:n<10
 ·rw[Lib.nDigits_small h10];omega
 ·rw[Lib.nDigits,dif_neg h10]
  have:n/10<10^k:=by rw[Nat.div_lt_iff_lt_mul V0];rw[Nat.pow_succ] at h;exact h
  have hk1:1<=k:=by
   rcases Nat.eq_zero_or_pos k with h0|h0
   ·subst h0;simp at this;omega
   ·exact h0
  have:=ih (n/10) hk1 this
  omega):p:=h
theorem Yt{p:Prop}(h:p:=by
 have hci:=Vk (jo (fv l (l.length-1-k)) W2 VY VY (HT.o.below hi2.low (Vm _)))
 have HI:=Vk hi2
 clear hi2
 obtain⟨n,hn⟩:∃n,fv l (l.length-1-k)=n:=⟨_,rfl⟩
 rw[hn] at hci hfv hshort⊢
 have HN:=Vk hn
 clear hn
 by_cases hk0:k=0
 ·subst hk0
  have ht:decide (((l.length-1-0:Nat):Int)<(l.length:Int)-1)=Vp:=V8
  gi_wp2_with(refine⟨trivial,?_⟩;first|(gi_at_call 182;refine(CallsIn.inRound lp (callsIn_wide.2 hci.o)).mono ?_;rintro e W3 ⟨rfl,hB3⟩;have H3:=Vk (HI.o.stays (aE.be hB3 (Vm _)) hsz);have c3:=H3.o.x.dX)|(gi_at_call 181;skip))
  have h3:=H3.o
  obtain⟨p,hp,hb3⟩:=h3.bd
  have hsz3:=h3.low.size
  refine(CallsIn.inRound lp (callsIn_wide.2 (jl w.heap.size (w.heap.size+1) _ p [] _ (tx (Lib.itoa (n:Int))) W3 hb3 hp mZ (by rw[Lib.byteCells_length,VD,ai];omega) hsz3))).mono ?_
  rintro e W6 ⟨rfl,hb6,hk6⟩
  clear h3 hp hb3
  gi_wp2
  refine sP HI.o ((bz.be hB3 hsz).trans hk6) ?_
  have e1:lY l (0+1)=lY l 0++Lib.itoa n:=by
   show lY l 0++pG Vv _=_
   rw[HN.o];rfl
  rw[e1,<-List.append_assoc,cP]
  exact hb6
 ·have ht:decide (((l.length-1-k:Nat):Int)<(l.length:Int)-1)=Vv:=Wh
  obtain⟨c,hc⟩:∃c:Nat,9-(Lib.itoa (n:Int)).length=c:=⟨_,rfl⟩
  have hcI:(9:Int)-((Lib.itoa (n:Int)).length:Int)=(c:Int):=VY
  have hc9:c<=9:=VY
  have HC:=Vk hc
  clear hc
  gi_wp2_with(refine⟨trivial,?_⟩;first|(gi_at_call 182;refine(CallsIn.inRound lp (callsIn_wide.2 hci.o)).mono ?_;rintro e W3 ⟨rfl,hB3⟩;have H3:=Vk (HI.o.stays (aE.be hB3 (Vm _)) hsz);have c3:=H3.o.x.dX)|(gi_at_call 348;refine(CallsIn.inRound lp (callsIn_wide.2 (strings_Repeat ⟨#[48]⟩ c _ VY (by show 1*c<=_;omega)))).mono ?_;rintro e W4 ⟨rfl,hB4⟩)|(gi_at_call 181;skip))
  have h3:=H3.o
  have h4:=h3.stays (aE.be hB4 (Vm _)) h3.low.size
  have k4:=(bz.be (b:=w.heap.size+1) hB3 hsz).trans (bz.be hB4 h3.low.size)
  obtain⟨p,hp,hb4⟩:=h4.bd
  have hsz4:=h4.low.size
  refine(CallsIn.inRound lp (callsIn_wide.2 (jl w.heap.size (w.heap.size+1) _ p [] _ (tx (Lib.repeatL [48] c)) W4 hb4 hp mZ (by rw[Lib.byteCells_length,VD,ai,iH];omega) hsz4))).mono ?_
  rintro e W5 ⟨rfl,hb5,hk5⟩
  have HK5:=Vk (k4.trans hk5)
  have hsz5:=(h4.low.trans hk5.low).size
  clear h3 h4 hp hb4 k4 hk5
  gi_wp2_with(refine⟨trivial,?_⟩;gi_at_call 181;skip)
  refine(CallsIn.inRound lp (callsIn_wide.2 (jl w.heap.size (w.heap.size+1) _ _ [] _ (tx (Lib.itoa (n:Int))) W5 hb5 (.inr rfl) mZ (by rw[VD,Lib.byteCells_length,VD,Lib.strCells_length,ai,ai,iH];omega) hsz5))).mono ?_
  rintro e W6 ⟨rfl,hb6,hk6⟩
  gi_wp2
  refine sP HI.o (HK5.o.trans hk6) ?_
  have e1:lY l (k+1)=lY l k++Lib.repeatL [48] c++Lib.itoa n:=by
   show lY l k++pG (k==0) _=_
   have e0:(k==0)=Vp:=by simpa using hk0
   rw[HN.o,e0,List.append_assoc,<-HC.o];rfl
  rw[e1,<-List.append_assoc,<-List.append_assoc,cP,cP]
  exact hb6):p:=h
theorem Yu{p:Prop}(h:p:=by
 have e:fv (m++[d]) ((m++[d]).length-1)=d:=by unfold fv;simp
 rw[e];omega):p:=h
theorem Yv{p:Prop}(h:p:=by
 go_enter func298,ntmps298
 go_wp2_with(first|(go_at_call 334;refine cw.o.mono ?_;rintro e w1 ⟨rfl,hB1⟩)|(go_at_call 243;refine(dD _ _).mono ?_;rintro e w2 ⟨rfl,rfl⟩))
 go_ret2
 rw[HR.o]
 exact⟨rfl,HB0.o.trans (hB1.mono HB0.o.size)⟩):p:=h
theorem Yw{p:Prop}(h:p:=by
  have hw4 : k < s.length := by rw [ai] at hw2; exact hw2
  go_wp2
  all_goals first
    | (have hr : k = 0 \/ 8 < k \/ (1 < k /\ s.head? = Vq 48) := by
         first
           | omega
           | (rename_i h; simp only [beq_iff_eq] at h; omega)
           | (rename_i h; rcases h with (h | h) | h
              · simp only [beq_iff_eq] at h; omega
              · omega
              · exact .inr (.inr ⟨VY, mF Wy⟩))
           | (rename_i h _; rcases h with (h | h) | h
              · simp only [beq_iff_eq] at h; omega
              · omega
              · exact .inr (.inr ⟨VY, mF Wy⟩))
           | (rename_i h _ _; simp only [beq_iff_eq] at h; omega)
           | (rename_i h _; simp only [beq_iff_eq] at h; omega)
           | (rename_i h _ _ _; simp only [beq_iff_eq] at h; omega)
           | (rename_i h _ _ _ _; simp only [beq_iff_eq] at h; omega)
       exact bodyPost_ret (v := nN s) (by rw [oG HL.o hr]; simp [results, results292, go_sem]) rfl ⟨rfl, Below.refl _ _⟩)
    | (have hr : ¬ (k = 0 \/ 8 < k \/ (1 < k /\ s.head? = Vq 48)) := by
         first
           | omega
           | (rename_i h _ _; have h48 := tB (s := s) (by simpa using h.2); rintro (h1 | h1 | ⟨_, h1⟩) <;> first | omega | exact h48 h1)
       go_quiet (fail)
       go_wp2
       exact bodyPost_ret (v := nN s) (by rw [ou HL.o hr]; simp [lv, results, results292, go_sem]) rfl ⟨rfl, below_drewN (Below.refl _ _) _⟩)):p:=h
theorem Yx{p:Prop}(h:p:=by
  simp only [beq_iff_eq] at h; omega):p:=h
theorem Yy{p:Prop}(h:p:=by
 have h45:((((tx (c0::r))[0]'WO).toNat:Int)==45)=Vp:=Wb
 clear hok ho hn hc0
 exact cT):p:=h
theorem Yz{p:Prop}(h:p:=by
 have h45:((((tx (c0::r))[0]'WO).toNat:Int)==45)=Vp:=Wb
 clear hok ho hn hd hc0
 exact cT):p:=h
theorem YA{p:Prop}(h:p:=by
 have h45:((((tx (c0::r))[0]'WO).toNat:Int)==45)=Vp:=Wb
 clear hok ho hn hd2 hg hd hc0
 exact cT):p:=h
theorem YB{p:Prop}(h:p:=by
 rcases hwhy with hw|⟨hw2,hw3⟩|⟨hw2,hw3⟩
 ·go_wp2
  go_ret
  exact⟨cE (by rw[HR.o]),rfl⟩
 ·have hw4:k<s.length:=Xx
  go_wp2
  go_ret
  exact⟨cE (by rw[HR.o]),rfl⟩
 ·have hw4:k<s.length:=Xx
  go_wp2
  go_ret
  exact⟨cE (by rw[HR.o]),rfl⟩):p:=h
theorem YC{p:Prop}(h:p:=by
 subst hi
 cases neg
 all_goals
  try have hz1:=hz1 rfl
  exact gU):p:=h
theorem YE{p:Prop}(h:p:=by
 go_wp2_with(first|(go_at_call 182;refine ci.o.mono ?_;rintro e W1 ⟨rfl,hB1⟩;have hz1:=hB1.size)|(go_at_call 119;refine(j6 B b 2 num _ (Lib.itoa n) W1 (HW.o.below hB1) VY VY).mono ?_;rintro e W2 ⟨rfl,hw2,hk2⟩))
 refine⟨HN.o _ ((HK.o.trans (bz.be hB1 VY)).trans hk2) (by rw[HES.o.1,HES.o.2];exact hw2),V7⟩):p:=h
theorem YF{p:Prop}(h:p:=by
 obtain⟨k,hk,rfl,hall⟩:=hrel
 by_cases hlt:k<s.length
 ·have hb:k<(tx s).size:=by rw[ai];exact hlt
  have hx:(tx s)[k]'hb=s[k]:=rfl
  cases hn:oW s[k] with
  |true=>
   have hnx:Gk s (VU VA ((k:Int)+1)):=⟨k+1,VY,V5,by rw[List.take_succ_eq_append_getElem hlt,List.all_append,hall];simp[hn]⟩
   have HNX:=Vk hnx
   have hr:(97<=(((tx s)[k]'hb).toNat:Int)/\(((tx s)[k]'hb).toNat:Int)<=122)\/(65<=(((tx s)[k]'hb).toNat:Int)/\(((tx s)[k]'hb).toNat:Int)<=90)\/(48<=(((tx s)[k]'hb).toNat:Int)/\(((tx s)[k]'hb).toNat:Int)<=57):=by
    rw[hx]
    unfold oW at hn
    simp only[Bool.or_eq_true,Bool.and_eq_true,decide_eq_true_eq] at hn
    omega
   clear hnx hn hall hx
   rcases hr with⟨h1,h2⟩|⟨h1,h2⟩|⟨h1,h2⟩
   ·go_wp2
    all_goals first
     |exact⟨HNX.o,V7⟩
     |(exfalso;omega)
   ·go_wp2
    all_goals first
     |exact⟨HNX.o,V7⟩
     |(exfalso;omega)
   ·go_wp2
    all_goals first
     |exact⟨HNX.o,V7⟩
     |(exfalso;omega)
  |false=>
   have HR:=Vk (show pH s=Vp by
    unfold pH
    have:s.all oW=Vp:=by
     rw[Bool.eq_false_iff]
     intro h
     rw[List.all_eq_true] at h
     have:=h _ (List.getElem_mem hlt)
     rw[hn] at this;cases this
    rw[this];rfl)
   have hr:((((tx s)[k]'hb).toNat:Int)<48)\/(57<(((tx s)[k]'hb).toNat:Int)/\(((tx s)[k]'hb).toNat:Int)<65)\/(90<(((tx s)[k]'hb).toNat:Int)/\(((tx s)[k]'hb).toNat:Int)<97)\/(122<(((tx s)[k]'hb).toNat:Int)):=by
    rw[hx]
    unfold oW at hn
    simp only[Bool.or_eq_false_iff,Bool.and_eq_false_iff,decide_eq_false_iff_not] at hn
    omega
   clear hn hall hx
   rcases hr with h1|⟨h1,h2⟩|⟨h1,h2⟩|h1
   ·go_wp2
    all_goals first
     |(go_ret;exact⟨V9,rfl⟩)
     |(exfalso;omega)
   ·go_wp2
    all_goals first
     |(go_ret;exact⟨V9,rfl⟩)
     |(exfalso;omega)
   ·go_wp2
    all_goals first
     |(go_ret;exact⟨V9,rfl⟩)
     |(exfalso;omega)
   ·go_wp2
    all_goals first
     |(go_ret;exact⟨V9,rfl⟩)
     |(exfalso;omega)
 ·have e:s.take k=s:=List.take_of_length_le VY
  rw[e] at hall
  have HA:=Vk hall
  have hlt':decide ((k:Int)<(s.length:Int))=Vp:=V8
  clear hall e
  cases s with
  |nil=>
   go_wp2
   go_ret
   exact⟨rfl,rfl⟩
  |cons b r=>
   have HR:=Vk (show pH (b::r)=decide ((r.length:Int)+1<=16) by
    unfold pH
    rw[HA.o]
    simp
    omega)
   have hle:(r.length:Int)+1<=(k:Int):=by simp at hlt;omega
   have hlt2:decide ((k:Int)<(r.length:Int)+1)=Vp:=V8
   go_wp2
   go_ret
   exact⟨V9,rfl⟩):p:=h
theorem YG{p:Prop}(h:p:=by
 clear h1 X h7 h8 hl h4
 go_enter func124,ntmps124
 go_wp2
 go_ret
 exact⟨rfl,HS.o,bO.set w lo 0 _⟩):p:=h
theorem YH{p:Prop}(h:p:=by
 go_wp2
 go_ret
 exact⟨rfl,by rw[HR.o];exact HS.o Vv,K2.o.trans (bO.set _ lo 1 _)⟩):p:=h
theorem YI{p:Prop}(h:p:=by
 have:(w.setRow n cs).heap[c]?=w.heap[c]?:=by simp only[World.setRow,Array.getElem?_modify];rw[if_neg (Ne.symm hn)]
 exact this.trans h):p:=h
theorem YJ{p:Prop}(h:p:=by
 rintro a' w' ⟨v,rfl,hx,hv,hf⟩
 refine ih _ _ w' (inv.set hi hin) (sU hin Xa hun' hu) ⟨hD _ _ hI.d hx,λj hj hl=> ?_,λj k hj hk hjk h1 h2 h3 h4=> ?_⟩
 ·by_cases hji:j=i
  ·subst hji;simpa using hv
  ·rw[getD_set_ne Vp (Ne.symm hji)] at hl
   simp only[if_neg hji]
   exact hV _ _ _ _ (hI.v j hj hl) hx
 ·by_cases hji:j=i
  ·subst hji
   rw[getD_set_ne Vp hjk] at h4
   simp only[if_pos,if_neg (Ne.symm hjk)]
   obtain⟨b,rfl,hb⟩:=hf h1
   obtain⟨b',e',hb'⟩:=hfr k _ _ hk h2 (hI.v k hk h4)
   rw[e']
   intro h;injection h with h;injection h with h;injection h with h;omega
  ·rw[getD_set_ne Vp (Ne.symm hji)] at h3
   by_cases hki:k=i
   ·subst hki
    simp only[if_pos,if_neg hji]
    obtain⟨b,rfl,hb⟩:=hf h2
    obtain⟨b',e',hb'⟩:=hfr j _ _ hj h1 (hI.v j hj h3)
    rw[e']
    intro h;injection h with h;injection h with h;injection h with h;omega
   ·rw[getD_set_ne Vp (Ne.symm hki)] at h4
    simp only[if_neg hji,if_neg hki]
    exact hI.ne j k hj hk hjk h1 h2 h3 h4):p:=h
theorem YK{p:Prop}(h:p:=by
 rcases Nat.lt_or_ge i n with h|h
 ·exact h
 ·exact absurd hi (tail_waits hs hc hn inv (n-i0) i0 rfl hi0 (getD_in hi0s hun0) i h)):p:=h
theorem YL{p:Prop}(h:p:=by
 have ho:ops[i0]?=Vq (ops[i0]'VY):=Array.getElem?_eq_getElem VY
 have:i0∈Region.ready md ops listed:=mem_ready.2 ⟨getD_in hi0s hun0,_,ho,λe he _=>hbef _ (lV hlex hi0 ho e he)⟩
 rw[h0] at this;cases this):p:=h
theorem YM{p:Prop}(h:p:=by
 exact tail vs w hI.d (λi hi=>hI.v i hi (hall i hi)) (λi j hi hj hij h1 h2=>hI.ne i j hi hj hij h1 h2 (hall i hi) (hall j hj))):p:=h
theorem YN{p:Prop}(h:p:=by
 apply Array.ext
 ·simp[inv.size];omega
 ·intro i h1 h2
  rw[inv.size] at h1
  by_cases hi:i<n
  ·have:=hall i hi
   simp[inv.size,h1] at this
   rw[Array.getElem_append_left Xl]
   simp[this]
  ·have:=inv.tail i VY h1
   simp[inv.size,h1] at this
   rw[Array.getElem_append_right Xl]
   simp[this]):p:=h
theorem YO{p:Prop}(h:p:=by
 exact⟨hl,.inl h0⟩):p:=h
theorem YP{p:Prop}(h:p:=by
 obtain⟨_,⟨rfl,_⟩|⟨g,cap,cur,rfl,_⟩⟩:=h
 ·exact⟨_,_,_,rfl⟩
 ·exact⟨_,_,_,rfl⟩):p:=h
theorem YQ{p:Prop}(h:p:=by
 exact⟨Vo,0,by rw[h0],VY,Wc,λhp=>VY⟩):p:=h
theorem YR{p:Prop}(h:p:=by
 go_enter func351,ntmps351
 go_wp2
 go_ret2
 exact⟨vU E1.o rfl,rfl⟩):p:=h
theorem YS{p:Prop}(h:p:=by
 rw[dZ];unfold fv
 rw[Vn,List.getElem?_append_right (by rw[bA];omega),bA];simp):p:=h
theorem YT{p:Prop}(h:p:=by
 rw[dZ];unfold fv;simp[List.getElem?_append_left,bA,hi]):p:=h
theorem YU{p:Prop}(h:p:=by
 go_wp2
 go_ret
 exact⟨V9,rfl⟩):p:=h
theorem YV{p:Prop}(h:p:=by
 unfold ah at *;simp[World.setCell,Array.getElem?_modify,h]):p:=h
theorem YW{p:Prop}(h:p:=by
 go_enter func197,ntmps197
 go_wp2
 go_ret
 exact⟨V9,eH _ _ _⟩):p:=h
theorem YX{p:Prop}(h:p:=by
 rintro e W1 ⟨rfl,hX⟩
 exact hK _ _ ⟨ti a b c w.heap.size _,by simp[d0,d1,ti],hX,rfl,λh=>V6⟩):p:=h
theorem YY{p:Prop}(h:p:=by
 rintro e W1 ⟨rfl,hX⟩
 exact hK _ _ ⟨ti a b c w.heap.size _,by simp[d0,ti],hX,rfl,λh=>V6⟩):p:=h
theorem YZ{p:Prop}(h:p:=by
 simp only[ti] at d0
 go_simp
 exact hK _ _ ⟨ti a b c w.heap.size _,by simp[d0,ti],Ext.aB _,rfl,λh=>V6⟩):p:=h
theorem Y1{p:Prop}(h:p:=by
 refine Vx rfl (λK hK=> ?_)
 go_simp
 exact hK _ _ ⟨_,rfl,Ext.aB _,rfl,λh=>V6⟩):p:=h
theorem Y4{p:Prop}(h:p:=by
 refine Vx rfl (λK hK=> ?_)
 go_simp
 exact hK _ _ ⟨_,rfl,(Below.refl _ _).alloc (Vm _) _,⟨_,rfl,hD.size,ah.new _ _ _⟩,λ_=>⟨_,rfl,Vm _⟩⟩):p:=h
theorem Y5{p:Prop}(h:p:=by
 simp[List.getD,Vt hi]):p:=h
theorem Y6{p:Prop}(h:p:=by
 have HP:=Vk (show lh r x y k=Vp by rw[HO.o,t1,t2,t3,t4];rfl)
 gi_wp2_with(first
  |(refine⟨trivial,?_⟩;gi_at_call 193;refine(CallsIn.inRound l (callsIn_wide.2 (bH own _))).mono ?_;rintro e W3 ⟨rfl,hX3⟩;have E3:Ext W2 (W3.alloc (.cells (lI own.x own.y).toArray 229)):=hX3.tr ((Below.refl _ _).alloc (Vm _) _);have Q3:=ah.new W3 229 (lI own.x own.y))
  |(refine bL (aY _ _) rfl 227 (.tmp 7) rfl W.heap.size rfl 227 _ (0,0) _ (R2.ext E3) underlying227 rfl VZ ?_)
  |(refine⟨trivial,?_⟩;gi_at_call 195;refine(CallsIn.inRound l (callsIn_wide.2 (jh (er r k) own beh _ hox hoy hbx hby))).mono ?_;rintro e W5 ⟨rfl,hX5⟩;have E5:=E3.tr hX5;have cA5:=λi=>(R2.ext E5).cell i;have cP5:=λi=>(P2.ext E5).cell i;have cQ5:=λi=>(Q3.ext hX5).cell i;have S5:=S2.stays (E5.stays (n0:=0) (Nat.zero_le _));have cS5:=S5.cell;have fS5:=S5.frozen))
 exact⟨E5.keeps,sQ I2.o HP.o E5⟩):p:=h
theorem Y7{p:Prop}(h:p:=by
 have HP:=Vk (show lh r x y k=Vv by rw[HO.o,t1,t2,t3,t4];rfl)
 gi_wp2_with(first
  |(refine⟨trivial,?_⟩;gi_at_call 193;refine(CallsIn.inRound l (callsIn_wide.2 (bH own _))).mono ?_;rintro e W3 ⟨rfl,hX3⟩;have E3:Ext W2 (W3.alloc (.cells (lI own.x own.y).toArray 229)):=hX3.tr ((Below.refl _ _).alloc (Vm _) _);have Q3:=ah.new W3 229 (lI own.x own.y))
  |(refine bL (aY _ _) rfl 227 (.tmp 7) rfl W.heap.size rfl 227 _ (0,0) _ (R2.ext E3) underlying227 rfl VZ ?_)
  |(refine⟨trivial,?_⟩;gi_at_call 195;refine(CallsIn.inRound l (callsIn_wide.2 (jh (er r k) own beh _ hox hoy hbx hby))).mono ?_;rintro e W5 ⟨rfl,hX5⟩;have E5:=E3.tr hX5;have cA5:=λi=>(R2.ext E5).cell i;have cP5:=λi=>(P2.ext E5).cell i;have cQ5:=λi=>(Q3.ext hX5).cell i;have S5:=S2.stays (E5.stays (n0:=0) (Nat.zero_le _));have cS5:=S5.cell;have fS5:=S5.frozen))
 refine⟨E5.keeps.trans (KeepsOthers.setCell _ _ _),?_⟩
 have I5:=I2.o.stays (E5.stays (n0:=w.heap.size) (by have:=I2.o.low.size;omega)) (Vm _)
 refine⟨I5.p.dx V5 _,?_,I5.it.dx V5 _,?_,?_⟩
 ·rw[np,if_pos HP.o,HOD.o];exact S5.put _
 ·exact I5.sl.below ((Below.refl _ _).setCell (p:=⟨w.heap.size+1,0,Vo⟩) V5 _)
 ·exact I5.low.setCell (p:=⟨w.heap.size+1,0,Vo⟩) V5 _):p:=h
theorem Y9{p:Prop}(h:p:=by
 gi_wp2_with(first
  |(refine⟨trivial,?_⟩;gi_at_call 193;refine(CallsIn.inRound l (callsIn_wide.2 (bH own _))).mono ?_;rintro e W3 ⟨rfl,hX3⟩;have E3:Ext W2 (W3.alloc (.cells (lI own.x own.y).toArray 229)):=hX3.tr ((Below.refl _ _).alloc (Vm _) _);have Q3:=ah.new W3 229 (lI own.x own.y))
  |(refine bL (aY _ _) rfl 227 (.tmp 7) rfl W.heap.size rfl 227 _ (0,0) _ (R2.ext E3) underlying227 rfl VZ ?_)
  |(refine⟨trivial,?_⟩;gi_at_call 195;refine(CallsIn.inRound l (callsIn_wide.2 (jh (er r k) own beh _ hox hoy hbx hby))).mono ?_;rintro e W5 ⟨rfl,hX5⟩;have E5:=E3.tr hX5;have cA5:=λi=>(R2.ext E5).cell i;have cP5:=λi=>(P2.ext E5).cell i;have cQ5:=λi=>(Q3.ext hX5).cell i;have S5:=S2.stays (E5.stays (n0:=0) (Nat.zero_le _));have cS5:=S5.cell;have fS5:=S5.frozen))
 exact⟨E5.keeps,sQ I2.o HP.o E5⟩):p:=h
theorem Za{p:Prop}(h:p:=by
  refine Vx rfl (λK hK => ?_)
  go_simp
  exact hK _ _ ⟨_, rfl, (Below.refl _ _).alloc (Vm _) _, ⟨_, rfl, hD.size, ah.new _ _ _⟩, λ_ => ⟨_, rfl, Vm _⟩⟩):p:=h
theorem Zb{p:Prop}(h:p:=by
  refine Vx rfl (λK hK => ?_)
  go_simp
  exact hK _ _ ⟨_, rfl, Ext.aB _, rfl, λh => V6⟩):p:=h
theorem Zc{p:Prop}(h:p:=by
 obtain⟨h1,h2,h3⟩:=h
 refine⟨h1,h2,λhn=> ?_⟩
 obtain⟨b,off,e,hB,hc⟩:=h3 hn
 refine⟨b,off,e,VY,λi hi=> ?_⟩
 obtain⟨Ai,ci,h4,h5⟩:=hc i hi
 exact⟨Ai,ci,h4,h5.more hb⟩):p:=h
theorem Zd{p:Prop}(h:p:=by
 go_wp2_with(go_at_call 198;go_must(refine ca.o.mono ?_);rintro e W1 ⟨rfl,hX1⟩)
 go_ret
 exact⟨by rw[HP.o];rfl,HLOW.o.tr hX1⟩):p:=h
theorem Ze{p:Prop}(h:p:=by
 have HZ:=Vk (show zm rs i k=Vp by rw[HOP.o];rfl)
 clear HOP
 go_wp2
 refine⟨HNX.o HZ.o _ (Below.refl _ _),V7⟩):p:=h
theorem Zf{p:Prop}(h:p:=by
 go_wp2_with(go_at_call 294;refine K1.o.mono ?_;rintro e w1 ⟨rfl,hB1⟩)
 go_ret2
 rw[HR.o]
 exact⟨rfl,hB1⟩):p:=h
theorem Zg{p:Prop}(h:p:=by
 go_enter func271,ntmps271
 go_wp2_with(first
  |(go_at_call 242;go_must(refine cr.o.mono ?_);rintro e W1 ⟨x,y,rfl,hp,hX1⟩;obtain⟨n',d',e1,rfl,rfl⟩:=hp rfl;rw[HC.o] at e1;obtain⟨rfl,rfl⟩:n=n'/\d=d':=by{injection e1 with e1;injection e1 with e2 e3;exact⟨e2,e3⟩})
  |(go_at_call 243;go_must(refine(dD _ _).mono ?_);rintro e W2 ⟨rfl,rfl⟩;rw[HO.o]))
 go_ret
 exact⟨V9,hX1⟩):p:=h
theorem Zh{p:Prop}(h:p:=by
 go_enter func201,ntmps201
 go_wp2_with(first
  |(go_at_call 240;go_must(refine KN.o.mono ?_);rintro e W1 ⟨rfl,hX1⟩;have q1:=λi=>(R1.o.ext hX1).cell i;have HX1:=Vk (Ext.tr E2.o hX1);have HR:=Vk (R1.o.ext hX1);clear hX1)
  |(go_at_call 241;((with_reducible refine(K1.o _ HX1.o).mono ?_);rintro e W2 ⟨rfl,hX2⟩;have q2:=λi=>(HR.o.ext hX2).cell i;have HX2:=Vk (Ext.tr HX1.o hX2);clear hX2))
  |(go_at_call 241;((with_reducible refine(K2.o _ HX2.o).mono ?_);rintro e W3 ⟨rfl,hX3⟩)))
 go_ret
 exact⟨Wv,Ext.tr HX2.o hX3⟩):p:=h
theorem Zi{p:Prop}(h:p:=by
 refine⟨⟨k+1,VY,V5,?_,eE HXW.o hgr' (λq hq=>(ak HOW.o q hq).1)⟩,V7⟩
 rw[HQ.o,aD,List.map_append,List.flatten_append,VD]
 exact hown'):p:=h
theorem Zj{p:Prop}(h:p:=by
 rw[hm]
 have HQ:=Vk hq2
 have HM:=Vk hm
 have HD:=Vk hd
 clear hcell hsl hq hq2 hm hd hle
 go_wp2
 go_round
 case rel=>exact⟨k+1,VY,by go_num,by rw[HQ.o,HM.o,HD.o]⟩
 case measure=>simp[VG];omega):p:=h
theorem Zk{p:Prop}(h:p:=by
 rintro a' w' ⟨v,rfl,hv⟩
 refine ih _ _ w' (inv.set hi hin) (sU hin Xa hun' hu) ?_
 rw[yu Xa]
 exact hv):p:=h
theorem Zl{p:Prop}(h:p:=by
 rw[h] at hh
 injection hh with hh;injection hh with _ h2 _
 exact hne h2):p:=h
theorem Zm{p:Prop}(h:p:=by
 go_ret
 exact⟨V9,E0.o⟩):p:=h
theorem Zn{p:Prop}(h:p:=by
 go_wp2
 go_quiet (fail)
 go_wp2
 refine⟨⟨k+1,VY,V5,below_drewN (HEX.o _) _,λj hj=> ?_⟩,V7⟩
 by_cases hjk:j=k
 ·rw[hjk];exact HZ.o
 ·exact HA.o j VY):p:=h
theorem Zo{p:Prop}(h:p:=by
 clear hbad
 go_wp2
 go_ret
 exact⟨Wk,E0.o.tr (HEX.o _)⟩):p:=h
theorem Zp{p:Prop}(h:p:=by
 go_wp2
 go_ret
 exact⟨Wk,HX.o⟩):p:=h
theorem Zq{p:Prop}(h:p:=by
 have HE:=Vk (HV.o 2 (by rw[HF.o,if_neg VY,if_pos (.inr b4)]) V0)
 go_wp2
 go_ret
 exact⟨Wk,EX.o _⟩):p:=h
theorem Zr{p:Prop}(h:p:=by
 have HE:=Vk (HV.o 2 (by rw[HF.o,if_neg VY,if_pos (.inl b3)]) V0)
 go_wp2
 go_ret
 exact⟨Wk,EX.o _⟩):p:=h
theorem Zs{p:Prop}(h:p:=by
 have HE:=Vk (HV.o 8 (by rw[HF.o,if_pos (.inr b2)]) V0)
 go_wp2
 go_ret
 exact⟨Wk,EX.o _⟩):p:=h
theorem Zt{p:Prop}(h:p:=by
 have d1:decide (kd<1)=Vv:=by rw[decide_eq_true_eq];exact b1
 have HE:=Vk (HV.o 8 (by rw[HF.o,if_pos (.inl b1)]) V0)
 go_wp2
 go_ret
 exact⟨Wk,EX.o _⟩):p:=h
theorem Zu{p:Prop}(h:p:=by
 go_enter func144,ntmps144
 go_wp2_with(first
  |(go_at_call 183;go_must(refine K1.o.mono ?_);rintro e W1 ⟨rfl,hX1⟩)
  |(go_at_call 206;go_must(refine(K3.o _).mono ?_);rintro e W3 ⟨rfl,rfl⟩)
  |(go_at_call 205;go_must(refine(K2.o _ hX1).mono ?_);rintro e W2 ⟨rfl,hX2⟩))
 go_ret
 exact⟨Wv,Ext.tr hX1 hX2⟩):p:=h
theorem Zv{p:Prop}(h:p:=by
 go_wp2_with(go_at_call 146;go_must(refine(gL _ _ _ _).mono ?_);rintro e W1 ⟨rfl,rfl⟩;rw[t1])
 go_ret
 exact⟨rfl,rfl⟩):p:=h
theorem Zw{p:Prop}(h:p:=by
 rw[rounds_succ]
 go_wp2
 rw[rounds_succ]
 go_wp2
 rw[rounds_succ]
 go_wp2
 go_ret
 exact⟨V9,rfl⟩):p:=h
theorem Zx{p:Prop}(h:p:=by
 rw[rounds_succ]
 go_wp2
 rw[rounds_succ]
 go_wp2
 go_ret
 exact⟨V9,rfl⟩):p:=h
theorem Zy{p:Prop}(h:p:=by
 rw[rounds_succ]
 go_wp2
 go_ret
 exact⟨V9,rfl⟩):p:=h
theorem Zz{p:Prop}(h:p:=by
 go_enter func73,ntmps73
 go_wp2_with(go_at_call 143;go_must(refine(je _ _ _ _).mono ?_);rintro e W1 ⟨rfl,rfl⟩;first|rw[t1]|rw[t2]|rw[t3]|rw[t4]|skip)
 go_ret
 exact⟨V9,E0.o⟩):p:=h
theorem ZA{p:Prop}(h:p:=by
 go_wp2_with(go_at_call 64;go_must(refine(gI _ _ _ _).mono ?_);rintro e W1 ⟨rfl,rfl⟩;rw[tb])
 refine⟨⟨k+1,VY,V5,trivial,λj hj=> ?_⟩,V7⟩
 by_cases hjk:j=k
 ·rw[hjk];exact HZ.o
 ·exact HA.o j VY):p:=h
theorem ZB{p:Prop}(h:p:=by
 go_wp2_with(go_at_call 64;go_must(refine(gI _ _ _ _).mono ?_);rintro e W1 ⟨rfl,rfl⟩;rw[tb])
 go_ret
 exact⟨Wk,rfl⟩):p:=h
theorem ZC{p:Prop}(h:p:=by
 have:=hcell (k-1) VY 0 V0
 rwa[eX VY,Nat.one_mul,Nat.add_zero] at this):p:=h
theorem ZD{p:Prop}(h:p:=by
 rw[bB (λr hr=>hw r (List.mem_of_mem_take hr)),List.length_take,Nat.min_eq_left hm]):p:=h
theorem ZF{p:Prop}(h:p:=by
 obtain⟨s,_,rfl⟩:=List.mem_map.1 hr;simp at hu;rcases hu with rfl|rfl|rfl|rfl|rfl<;>rfl):p:=h
theorem ZG{p:Prop}(h:p:=by
 obtain⟨s,_,rfl⟩:=List.mem_map.1 hr;simp at hu;rcases hu with rfl|rfl|rfl<;>rfl):p:=h
theorem ZH{p:Prop}(h:p:=by
 clear hA1 hRG hpos
 go_wp2_with(first
  |(refine wpList_append_own _ rfl _ _ 22 rfl W0.heap.size 80 i0 (VQ Vo 0 0) 1 24 underlying22 I0.o I1.o I2.o I3.o rfl V0 _ _ _ rfl HO2.o ⟨W1.heap.size,0,Vo⟩ 1 1 [VQ A1 ring.length c1] rfl rfl (Vl.news_of_block (cs:=#[VQ A1 ring.length c1]) (t:=80) (fr:=(0,0)) NB.o) Xy Wc VY (VB HX.o.size HW2.o.size) ?_;intro v' w2 hown hgrow _;have HOW:=Vk hown;have HGR:=Vk hgrow;obtain⟨A3,n3,c3,hv3⟩:=nk.of hown;subst hv3;have b3:=((HBX.o.below HW2.o HBX.o.lt).grown HO2.o hgrow V0).cell;have f3:=((HBX.o.below HW2.o HBX.o.lt).grown HO2.o hgrow V0).frozen;clear hown hgrow)
  |(go_at_call 149;go_must(refine KC.o.mono ?_);rintro e W1 ⟨v1,rfl,ho1,hX1⟩;obtain⟨A1,c1,hv1,_⟩:=aG ho1 (Vu _) (dI ring);subst hv1;have b1:=(HBX.o.below hX1 HBX.o.lt).cell;have HO1:=Vk ho1;have HW2:=Vk (hX1.tr ((Below.refl _ _).alloc (Vm _) (.cells #[VQ A1 ring.length c1] 80)));have b2:=(HBX.o.below HW2.o HBX.o.lt).cell;have HO2:=Vk (aF HO.o HW2.o);have NB:=Vk (Bx.new W1 80 (VQ A1 ring.length c1));have HV1:=Vk (dz (aF ho1 ((Below.refl _ _).alloc (Vm _) (.cells #[VQ A1 ring.length c1] 80))) HX.o.size);clear ho1 hX1))
 go_round
 case rel=>exact⟨k+1,_,_,VY,by go_num,rfl,rfl,HA1.o.trans (by first|rfl|simp[IntWalk.i64_left]),Al HX.o HBX.o HO.o HVL.o HVR.o HW2.o (by rw[HRG.o];exact HV1.o) HOW.o HGR.o HPB.o⟩
 case measure=>simp[VG];omega):p:=h
theorem ZI{p:Prop}(h:p:=by
 all_goals
  intro v' w1 hown hgrow hnil
  go_wp2
  go_ret
  exact HF.o v' w1 hown hgrow):p:=h
theorem ZJ{p:Prop}(h:p:=by
 intro v' w1 hown hgrow hnil
 go_wp2
 go_ret
 exact HF.o v' w1 (by rw[Nat.zero_add];exact hown) hgrow):p:=h
theorem ZL{p:Prop}(h:p:=by
 intro v' w1 hown hgrow
 rw[HM.o] at hown
 refine⟨v',rfl,by simpa using hown,(Below.refl base w).grown hgrow hbw (λq hq=>(ak HO.o q hq).1)⟩):p:=h
theorem ZM{p:Prop}(h:p:=by
 intro W hW hbW
 refine⟨_,rfl,⟨hlenF,.inr ⟨g,cap,_,by rw[hm],hb,setRow_heap (by rw[hW];exact hh1) _,hroom2,Wc,hc2,htk⟩⟩,af (hbW hb1) (Vm _) _⟩):p:=h
theorem ZN{p:Prop}(h:p:=by
 rw[rA Xm (by simp only[List.size_toArray,hBl,h3];omega),hB,List.size_toArray]):p:=h
theorem ZO{p:Prop}(h:p:=by
 intro t u hu
 have ht:t<B.length:=(List.getElem?_eq_some_iff.1 hu).1
 rw[<-hB,<-kg hw VY,List.getElem?_drop,<-h4,List.getElem?_take] at hu
 rw[if_pos (by rw[hBl] at ht;omega)] at hu
 rw[show w.cell? ⟨g,i*5+t,Vo⟩=cur[i*5+t]? by simp[World.cell?,hh]]
 simpa using hu):p:=h
theorem ZP{p:Prop}(h:p:=by
 intro u hu
 rw[<-hB] at hu
 obtain⟨r,hr,hur⟩:=List.mem_flatten.1 hu
 exact hone r (List.mem_of_mem_drop hr) u hur):p:=h
theorem ZQ{p:Prop}(h:p:=by
 rw[uS Xm (by simp only[List.size_toArray,hBl,hRl];omega),hB,List.size_toArray]):p:=h
theorem ZR{p:Prop}(h:p:=by
 rw[<-hROW,Array.toList_append,Array.toList_append,List.append_assoc,List.take_left' hol]):p:=h
theorem ZS{p:Prop}(h:p:=by
 intro t u hu
 have ht:t<B.length:=(List.getElem?_eq_some_iff.1 hu).1
 rw[<-hB,<-kg hw VY,List.getElem?_drop,<-h4,List.getElem?_take] at hu
 rw[if_pos (by rw[hBl] at ht;omega)] at hu
 rw[show w.cell? ⟨g,i*1+t,Vo⟩=cur[i*1+t]? by simp[World.cell?,hh]]
 simpa using hu):p:=h
theorem ZT{p:Prop}(h:p:=by
 all_goals simp[go_sem, *]):p:=h
theorem ZV{p:Prop}(h:p:=by
 go_wp2_with fail
 go_quiet (fail)
 go_wp2
 exact⟨⟨m+1,VY,V5,below_drewN HX.o _⟩,V7⟩):p:=h
theorem ZW{p:Prop}(h:p:=by
 go_wp2
 go_ret
 exact⟨rfl,HX.o⟩):p:=h
theorem ZX{p:Prop}(h:p:=by
 have tlt:decide ((m:Int)<(l.length:Int))=Vp:=decide_eq_false VY
 go_wp2
 go_ret
 exact⟨rfl,HX.o⟩):p:=h
theorem ZY{p:Prop}(h:p:=by
 rwa[eX hj,Nat.one_mul,Nat.add_zero] at this):p:=h
theorem ZZ{p:Prop}(h:p:=by
 rw[aC q];rw[aa q] at hk;exact a k hk hh):p:=h
theorem Z6{p:Prop}(h:p:=by
 rw[aa (k:=10) V0,hL];intro h;cases h):p:=h
theorem Z7{p:Prop}(h:p:=by
 go_simp
 exact hK _ _ ⟨v,by simp[aW,ht],hn⟩):p:=h
theorem Z8{p:Prop}(h:p:=by
 refine Vx rfl (λK hK=> ?_)
 go_simp
 exact hK _ _ ⟨_,by simp[aW,ju],HI.o.pure V0 rfl⟩):p:=h
theorem Z9{p:Prop}(h:p:=by
 refine Vx rfl (λK hK=> ?_)
 go_simp
 exact hK _ _ ⟨_,by simp[aW,uv],HI.o.pure V0 rfl⟩):p:=h
theorem a0a{p:Prop}(h:p:=by
 refine Vx rfl (λK hK=> ?_)
 go_simp
 exact hK _ _ ⟨_,by simp[aW,qS],HI.o.pure V0 rfl⟩):p:=h
theorem a0b{p:Prop}(h:p:=by
 clear hs
 go_enter func224,ntmps224
 go_wp2
 go_ret
 exact⟨rfl,rfl⟩):p:=h
theorem a0c{p:Prop}(h:p:=by
 rw[aC e];rw[aa e] at hm;exact h.vals m hm hl):p:=h
theorem a0d{p:Prop}(h:p:=by
 injection e with e;injection e with e;injection e with e
 have:=hr.lt
 omega):p:=h
theorem a0e{p:Prop}(h:p:=by
 rw[Vn,List.getElem?_eq_none VY];exact Nat.zero_le _):p:=h
theorem a0f{p:Prop}(h:p:=by
 clear hne ha hb
 go_enter func316,ntmps316
 go_wp2
 go_ret
 exact⟨HQ.o,Below.refl _ _⟩):p:=h
theorem a0g{p:Prop}(h:p:=by
 go_wp2_with(go_at_call 311;go_must(refine CT.o.mono ?_);rintro e W1 ⟨rfl,rfl⟩)
 go_ret
 exact HS.o):p:=h
theorem a0h{p:Prop}(h:p:=by
 go_wp2_with fail
 go_quiet ((go_at_call 313;exact Calls.quiet_of_same (vT _ w.heap.size _ b k sb VY)))
 go_wp2
 have ep:((fv a i:Int)*(fv b k:Int))=((fv a i*fv b k:Nat):Int):=V5
 rw[ep] at lD⊢
 have e1:((fv u' (i+k):Int)+((fv a i*fv b k:Nat):Int)+c)/1000000=(((fv u' (i+k)+fv a i*fv b k+c)/1000000:Nat):Int):=VY
 have e2:((fv u' (i+k):Int)+((fv a i*fv b k:Nat):Int)+c)%1000000=(((fv u' (i+k)+fv a i*fv b k+c)%1000000:Nat):Int):=VY
 rw[e1,e2]
 exact⟨HN.o _,V7⟩):p:=h
theorem a0i{p:Prop}(h:p:=by
 rw[Vn,Vt Xo]
 simp[ByteArray.getElem_eq_getElem_data]):p:=h
theorem a0j{p:Prop}(h:p:=by
 have HF:=Vk hfin
 rw[hq] at CT
 clear hM hk hM2 hsl hst hq hl51 r1 r2 r3 hxx hfin
 go_wp2_with(go_at_call 311;go_loud (refine CT.o.mono ?_);rintro e W1 ⟨rfl,rfl⟩)
 have q0:=HQ0.o
 have q1:=HQ1.o
 exact bodyPost_ret (v:= VW #[VS Vp,VQ A4 q c4]) (by simp[results,results282,go_sem,q0,q1]) rfl HF.o):p:=h
theorem a0k{p:Prop}(h:p:=by
 have hne:=ak hM2.own
 have h3:=bf (bf (bf hM2.own (p:=⟨w.heap.size+1,1,Vo⟩) (λh=>XA) (VQ A4 q c4)) (p:=⟨w.heap.size,0,Vo⟩) (λh=>WI) (VS Vp)) (p:=⟨w.heap.size,1,Vo⟩) (λh=>WI) (VQ A4 q c4)
 subst hq
 exact(dh h3 rfl).trimmed):p:=h
theorem a0l{p:Prop}(h:p:=by
 obtain⟨e,rfl⟩:∃e:Nat,k=(e:Int):=⟨k.toNat,VY⟩
 obtain⟨b,hb⟩:∃b,e-6=b:=⟨_,rfl⟩
 have w1:VA.wrap ((e:Int)-6)=(e:Int)-6:=VI _ VY
 have hmx:max (0:Int) ((e:Int)-6)=(b:Int):=VY
 have hey:e<=z.size:=VY
 clear hM hk
 go_wp2_with fail
 go_loopw [5,6] (λn i wi=>G8 z wr b e n i wi) (λ_ i _=>((e:Int)-VG i).toNat)
 case atStart=>exact⟨0,b,rfl,rfl,Vm _,VY,V5,V5,rfl⟩
 case round=>
  obtain⟨x,j,rfl,rfl,hbj,hje,hx,hxv,rfl⟩:=hrel
  have HXV:=Vk hxv
  clear hxv
  by_cases hlt:j<e
  ·have hjy:j<z.size:=VY
   have hd:=YD.o j (Nat.zero_le _) hjy hjy
   obtain⟨c,hc⟩:∃c:Nat,((z[j]'hjy).toNat:Int)=c:=⟨_,rfl⟩
   rw[hc] at hd
   obtain⟨g,rfl⟩:∃g:Nat,c=48+g:=⟨c-48,VY⟩
   have hx6:=nS hx VY
   have NX:=Vk (yU (c:=g) hx hbj VY)
   have hq:(((z[j]'hjy).toNat:Int)-48)%256=(g:Int):=by rw[hc];omega
   have hu:VA.wrap (g:Int)=g:=VI _ VY
   have NVV:=Vk (rd_val HXV.o (iL hjy hc) hbj)
   clear hc hx
   go_wp2
   exact⟨⟨10*x+g,j+1,V5,V5,VY,VY,NX.o,NVV.o,rfl⟩,V7⟩
  ·obtain rfl:j=e:=VY
   have hx6:=nS hx VY
   have hfl:¬(j:Int)<j:=VY
   have hres:=HM.o.num.cell 1
   have hfr:=HM.o.num.frozen 1
   have hbx:VL (w.heap.size+2) wr (wr.alloc (.cells #[VU VA (x:Int)] 3)):=(Below.refl _ _).alloc (by have:=HM.o.num.lt;omega) _
   have HOX:=Vk (aF HM.o.own ((Below.refl _ _).alloc (Vm _) (.cells #[VU VA (x:Int)] 3)))
   have hbase:w.heap.size+2<=(wr.alloc (.cells #[VU VA (x:Int)] 3)).heap.size:=XH
   have hll:l.length<=100:=by have:=HK.o;omega
   have HN:=Vk (oO HM.o hx6)
   clear hx hbx
   go_wp2_with(at_builtin;(refine wpList_append_own _ rfl _ _ _ rfl (w.heap.size+2) 3 i0 _ 1 8 underlying25 I0.o I1.o I2.o I3.o rfl VY _ _ _ rfl HOX.o ⟨wr.heap.size,0,Vo⟩ 1 1 [VU VA (x:Int)] rfl Wn (λj u hj=>Wf) WQ Wc VY hbase ?_);intro v' w' hown' hgr' hnil;obtain⟨A4,n4,c4,e4⟩:=nk.of hown';subst e4;obtain⟨hn0,hn1,hn2⟩:=HN.o _ w' hown' hgr';have HN2:=Vk hn2;clear hn2)
   exact⟨⟨(j:Int)-6,_,l++[x],rfl,XI,VY,Wm,HN2.o⟩,V7⟩):p:=h
theorem a0m{p:Prop}(h:p:=by
 have HF:=Vk hfin
 rw[hq] at CT
 clear hM hk hM2 hsl hst hq hl51 r1 r2 r3 hxx hfin
 go_wp2_with(go_at_call 311;go_loud (refine CT.o.mono ?_);rintro e W1 ⟨rfl,rfl⟩)
 have q0:=HQ0.o
 have q1:=HQ1.o
 exact bodyPost_ret (v:= VW #[VS Vv,VQ A4 q c4]) (by simp[results,results282,go_sem,q0,q1]) rfl HF.o):p:=h
theorem a0n{p:Prop}(h:p:=by
 have hne:=ak hM2.own
 have h3:=bf (bf (bf hM2.own (p:=⟨w.heap.size+1,1,Vo⟩) (λh=>XA) (VQ A4 q c4)) (p:=⟨w.heap.size,0,Vo⟩) (λh=>WI) (VS Vv)) (p:=⟨w.heap.size,1,Vo⟩) (λh=>WI) (VQ A4 q c4)
 subst hq
 exact(dh h3 rfl).trimmed):p:=h
theorem a0o{p:Prop}(h:p:=by
 obtain⟨e,rfl⟩:∃e:Nat,k=(e:Int):=⟨k.toNat,VY⟩
 obtain⟨b,hb⟩:∃b,e-6=b:=⟨_,rfl⟩
 have w1:VA.wrap ((e:Int)-6)=(e:Int)-6:=VI _ VY
 have hmx:max (0:Int) ((e:Int)-6)=(b:Int):=VY
 have hey:e<=y.size:=VY
 clear hM hk
 go_wp2_with fail
 go_loopw [5,6] (λn i wi=>G8 y wr b e n i wi) (λ_ i _=>((e:Int)-VG i).toNat)
 case atStart=>exact⟨0,b,rfl,rfl,Vm _,VY,V5,V5,rfl⟩
 case round=>
  obtain⟨x,j,rfl,rfl,hbj,hje,hx,hxv,rfl⟩:=hrel
  have HXV:=Vk hxv
  clear hxv
  by_cases hlt:j<e
  ·have hjy:j<y.size:=VY
   have hd:=YD.o j (Nat.zero_le _) hjy hjy
   obtain⟨c,hc⟩:∃c:Nat,((y[j]'hjy).toNat:Int)=c:=⟨_,rfl⟩
   rw[hc] at hd
   obtain⟨g,rfl⟩:∃g:Nat,c=48+g:=⟨c-48,VY⟩
   have hx6:=nS hx VY
   have NX:=Vk (yU (c:=g) hx hbj VY)
   have hq:(((y[j]'hjy).toNat:Int)-48)%256=(g:Int):=by rw[hc];omega
   have hu:VA.wrap (g:Int)=g:=VI _ VY
   have NVV:=Vk (rd_val HXV.o (iL hjy hc) hbj)
   clear hc hx
   go_wp2
   exact⟨⟨10*x+g,j+1,V5,V5,VY,VY,NX.o,NVV.o,rfl⟩,V7⟩
  ·obtain rfl:j=e:=VY
   have hx6:=nS hx VY
   have hfl:¬(j:Int)<j:=VY
   have hres:=HM.o.num.cell 1
   have hfr:=HM.o.num.frozen 1
   have hbx:VL (w.heap.size+2) wr (wr.alloc (.cells #[VU VA (x:Int)] 3)):=(Below.refl _ _).alloc (by have:=HM.o.num.lt;omega) _
   have HOX:=Vk (aF HM.o.own ((Below.refl _ _).alloc (Vm _) (.cells #[VU VA (x:Int)] 3)))
   have hbase:w.heap.size+2<=(wr.alloc (.cells #[VU VA (x:Int)] 3)).heap.size:=XH
   have hll:l.length<=100:=by have:=HK.o;omega
   have HN:=Vk (oO HM.o hx6)
   clear hx hbx
   go_wp2_with(at_builtin;(refine wpList_append_own _ rfl _ _ _ rfl (w.heap.size+2) 3 i0 _ 1 8 underlying25 I0.o I1.o I2.o I3.o rfl VY _ _ _ rfl HOX.o ⟨wr.heap.size,0,Vo⟩ 1 1 [VU VA (x:Int)] rfl Wn (λj u hj=>Wf) WQ Wc VY hbase ?_);intro v' w' hown' hgr' hnil;obtain⟨A4,n4,c4,e4⟩:=nk.of hown';subst e4;obtain⟨hn0,hn1,hn2⟩:=HN.o _ w' hown' hgr';have HN2:=Vk hn2;clear hn2)
   exact⟨⟨(j:Int)-6,_,l++[x],rfl,XI,VY,Wm,HN2.o⟩,V7⟩):p:=h
theorem a0p{p:Prop}(h:p:=by
 cases p
 ·rw[eq_comm,decide_eq_false_iff_not]
  intro e
  obtain⟨_,h⟩:=h45.1 e
  simp[h] at hpp
 ·rw[eq_comm,decide_eq_true_eq]
  exact h45.2 ⟨hp,beq_iff_eq.1 hpp⟩):p:=h
theorem a0q{p:Prop}(h:p:=by
 intro m h1 h2 h3
 subst hy
 rw[ByteArray.getElem_extract]
 exact hd (f+m) VY VY VY):p:=h
theorem a0r{p:Prop}(h:p:=by
 subst h48
 have hop:o+1<=P:=by
  rcases Nat.lt_or_ge o P with h|h
  ·exact h
  ·exact absurd HO.o (by rw[show o=P by omega];exact HPV.o)
 have hz2:¬z=1:=VY
 clear hz
 go_wp2
 exact⟨⟨o+1,hop,by rw[show 6*i-(o+1)=z-1 by have:=HZ.o;omega],λj hj=>(Nat.lt_or_ge j o).elim (λe=>HBO.o j e) (λe=>(show j=o by omega)▸HO.o),trivial⟩,by simp[JU];omega⟩):p:=h
theorem a0s{p:Prop}(h:p:=by
 have hsl:=(HS.o.below HX0.o).below (hW.ext.mono VY)
 obtain⟨_,_,e,_,_,hac⟩:=hsl
 injection e with e1 e2 e3
 clear e2
 subst e1 e3
 obtain⟨_,_,e,_,hcell⟩:=hac WD
 injection e with e
 injection e with e1 e2
 subst e1 e2
 have hci:=hcell i WD
 have hxi:fv l i<1000000:=aI hc.small i
 obtain⟨x,hx⟩:∃x,fv l i=x:=⟨_,rfl⟩
 rw[hx] at hci hxi
 have HXI:=Vk hx
 clear hcell hac hW hbx hx
 go_wp2_with fail
 go_loopw [5,6] (λx' k wi=>∃(j:Nat) (ys:List Nat),j<=6/\k=VU VA ((j:Int)+1)/\x'=VU VA ((x/10^j:Nat):Int)/\zW w0 (w.heap.size+1) l (6*i+j) ys wi) (λ_ k _=>7-(VG k).toNat)
 case atStart=>exact⟨0,xs,VY,rfl,V5,HW.o⟩
 case round=>
  obtain⟨j,ys,hj,rfl,rfl,hY⟩:=hrel
  have HY:=Vk hY
  obtain⟨d,hd⟩:∃d,x/10^j=d:=⟨_,rfl⟩
  have hd6:d<1000000:=by rw[<-hd];exact Nat.lt_of_le_of_lt (Nat.div_le_self _ _) hxi
  by_cases hj6:j<6
  ·obtain⟨m,hm⟩:∃m,6*n-1-(6*i+j)=m:=⟨_,rfl⟩
   have hm6:m<ys.length:=by rw[hY.len,HN.o];omega
   have hcm:=hY.row.cell hm6
   have hfm:=hY.row.frozen m
   have e1:6*(n:Int)-6*i-((j:Int)+1)=(m:Int):=VY
   have hmn:m<6*n:=VY
   have hdig:48+d%10=48+iz l (6*i+j):=by rw[mI _ _ _ hj6,HXI.o,hd]
   have NX:=Vk (hY.next (by rw[HN.o];omega) (x:=48+d%10) (j:=m) hdig (by rw[HN.o];exact hm.symm))
   have hdv:d/10=x/10^(j+1):=by rw[<-hd,Nat.div_div_eq_div_mul,Nat.pow_succ]
   have HDV:=Vk hdv
   obtain⟨c,hc⟩:∃c,48+d%10=c:=⟨_,rfl⟩
   have e2:48+(d:Int)%10=(c:Int):=VY
   have hcs:c<256:=VY
   obtain⟨o,ho⟩:∃o,fv ys m=o:=⟨_,rfl⟩
   rw[ho] at hcm
   rw[hc] at NX
   rw[hd]
   clear hY hm6 hdig hdv hc ho hd hm
   go_wp2
   exact⟨⟨j+1,_,VY,V5,by rw[<-HDV.o];simp,NX.o⟩,V7⟩
  ·obtain rfl:j=6:=VY
   clear hY hd
   go_wp2_with fail
   exact⟨⟨i+1,ys,VY,V5,by have:=HY.o;rwa[show 6*(i+1)=6*i+6 by omega]⟩,V7⟩):p:=h
theorem a0t{p:Prop}(h:p:=by
 rw[e] at hm'
 rw[beq_eq_false_iff_ne]
 intro e2
 rw[e2] at hm'
 exact hm' rfl):p:=h
theorem a0u{p:Prop}(h:p:=by
 go_wp2_with fail
 go_quiet (fail)
 go_wp2
 refine bodyPost_ret (gZ rfl _ _ _) rfl ?_
 exact⟨V9,below_drewN HX.o _⟩):p:=h
theorem a0v{p:Prop}(h:p:=by
 obtain rfl:k=z.size:=VY
 have HR:=Vk (show aM z=(Vp,z,⟨#[]⟩,Vp) from HY.o.2 HN.o)
 go_wp2
 refine bodyPost_ret (gZ rfl _ _ _) rfl ?_
 exact⟨V9,HX.o⟩):p:=h
theorem a0w{p:Prop}(h:p:=by
 have h2:(if(z.data.toList.head?==Vq 45)=Vv then z.extract 1 z.size else z).size<=z.size:=by
  split
  ·rw[ByteArray.size_extract];omega
  ·exact Vm _
 exact key _ _ _ h2):p:=h
theorem a0x{p:Prop}(h:p:=by
 go_enter func280,ntmps280
 go_wp2_with(first
  |(go_at_call 309;have hX:=HX1;clear HX1;refine(KB.o _).mono ?_;rintro e W2 ⟨rfl,hX2⟩;have HX2:=Vk (hX.o.tr hX2);clear hX2)
  |(go_at_call 309;go_must(refine KA.o.mono ?_);rintro e W1 ⟨rfl,hX1⟩;have HX1:=Vk hX1;clear hX1))
 go_ret
 exact⟨rfl,HX2.o⟩):p:=h
theorem a0y{p:Prop}(h:p:=by
 have hu:VA.wrap (g:Int)=g:=VI _ VY
 clear e
 go_wp2
 exact⟨⟨k+1,by rw[HS.o,HV.o];simp,by go_num,VY,HX.o⟩,V7⟩):p:=h
theorem a0z{p:Prop}(h:p:=by
 clear h
 go_enter func310,ntmps310
 go_wp2
 go_ret2
 exact⟨⟨_,_,rfl,λh=>V6,V0⟩,Below.refl _ _⟩):p:=h
theorem a0A{p:Prop}(h:p:=by
 go_enter func281, ntmps281
 go_wp2_with (first
   | (go_at_call 310; have hX := HX1; clear HX1; refine (KB.o _).mono ?_; rintro e W2 ⟨⟨z2, ok2, rfl, h2, h2b⟩, hX2⟩; have HX2 := Vk (hX.o.tr hX2); have H2 := Vk h2; clear hX2 h2)
   | (go_at_call 310; go_must (refine KA.o.mono ?_); rintro e W1 ⟨⟨z, ok, rfl, h1, h1b⟩, hX1⟩; have HX1 := Vk hX1; have H1 := Vk h1; clear hX1 h1))
 all_goals first
   | (go_ret3
      exact ⟨⟨_, _, _, rfl, h1b, h2b, λh => ⟨H1.o Xf, H2.o Xf⟩⟩, HX2.o⟩)
   | (go_ret3
      exact ⟨⟨_, _, _, rfl, V0, V0, λh => V6⟩, HX1.o⟩)):p:=h
theorem a0B{p:Prop}(h:p:=by
 go_enter func84,ntmps84
 go_wp2
 go_ret
 exact⟨by rw[HR.o];first|rfl|simp,rfl⟩):p:=h
theorem a0C{p:Prop}(h:p:=by
 go_enter func38,ntmps38
 go_wp2
 refine wp_loop_rounds 2 ?_
 rw[rounds_succ]
 go_wp2_with(go_at_call 84;refine(mK _ _).mono ?_;rintro e w1 ⟨rfl,rfl⟩)
 go_ret
 exact⟨V9,rfl⟩):p:=h
theorem a0D{p:Prop}(h:p:=by
 intro m hm
 have:=hc i Xi m hm
 rw[hr,VE] at this
 exact this):p:=h
theorem a0E{p:Prop}(h:p:=by
 go_enter func115,ntmps115
 go_wp2_with(go_at_call 116;go_must(refine(j9 _ _ _ _).mono ?_);rintro e W1 ⟨rfl,rfl⟩)
 go_ret
 exact⟨rfl,rfl⟩):p:=h
theorem a0F{p:Prop}(h:p:=by
 simp only[Bool.and_eq_true,decide_eq_true_eq]
 omega):p:=h
theorem a0G{p:Prop}(h:p:=by
 go_enter func52,ntmps52
 go_wp2
 go_ret
 exact⟨V9,E0.o⟩):p:=h
theorem a0H{p:Prop}(h:p:=by
 go_wp2_with(go_at_call 47;go_must(refine(gN _ _ _ _).mono ?_);rintro e W1 ⟨rfl,rfl⟩;rw[tb])
 go_quiet (fail)
 go_wp2
 refine⟨⟨k+1,VY,V5,by first|exact HX.o|exact below_drewN HX.o _,λj hj=> ?_⟩,V7⟩
 by_cases hjk:j=k
 ·rw[hjk];exact HZ.o
 ·exact HA.o j VY):p:=h
theorem a0I{p:Prop}(h:p:=by
 refine wpAny_done VZ ?_ _
 cases hs:qF e (fN e)
 ·have HF:=Vk (show eJ e=9 by unfold eJ;rw[if_neg VY,hs];rfl)
  try rw[hs]
  go_wp2
  go_ret
  exact⟨Xr,HB2.o⟩
 ·have HF:=Vk (show eJ e=0 by unfold eJ;rw[if_neg VY,if_pos hs])
  try rw[hs]
  go_wp2
  go_ret
  exact⟨Xr,HB2.o⟩):p:=h
theorem a0J{p:Prop}(h:p:=by
 go_enter func42,ntmps42
 go_wp2
 go_ret
 exact⟨Xr,(Below.refl _ _).alloc (Vm _) _⟩):p:=h
theorem a0K{p:Prop}(h:p:=by
 rw[aa VY] at hl;rw[aC VY];exact h.rds k hk hl):p:=h
theorem a0L{p:Prop}(h:p:=by
 go_wp2_with(first
  |(at_builtin;(refine wpList_append_own _ rfl _ _ _ rfl w.heap.size 3 i0 _ 1 8 underlying25 I0.o I1.o I2.o I3.o rfl VY _ _ _ rfl HOX.o ⟨wr.heap.size,0,Vo⟩ 1 1 [VU VA (x:Int)] rfl Wn (λj u hj=>Wf) WQ Wc VY hbase1 ?_);intro v' w' hown' hgr' hnil)
  |(go_at_call 313;first|((with_reducible refine C1.o.mono ?_);rintro e W1 ⟨rfl,rfl⟩)|((with_reducible refine C2.o.mono ?_);rintro e W1 ⟨rfl,rfl⟩)))
 exact⟨by rw[e2];exact ARM.o _ _ hown' hgr',V7⟩):p:=h
theorem a0M{p:Prop}(h:p:=by
 have:(a.head?==Vq 48)=Vp:=by rw[beq_eq_false_iff_ne];exact h1
 rw[this];rfl):p:=h
theorem a0N{p:Prop}(h:p:=by
 intro e
 apply h2
 rw[List.head?_eq_getElem?,Vt VY]
 congr 1
 apply UInt8.toNat_inj.1
 show _=48
 omega):p:=h
theorem a0O{p:Prop}(h:p:=by
 subst hcc
 go_wp2_with fail
 go_ret2
 exact⟨rfl,X2.o⟩):p:=h
theorem a0P{p:Prop}(h:p:=by
 rw[List.head?_cons]
 congr 1
 apply UInt8.toNat_inj.1
 unfold iD at h6
 show _=48
 omega):p:=h
theorem a0Q{p:Prop}(h:p:=by
 go_enter func277,ntmps277
 go_wp2_with(first
  |(go_at_call 253;fail)
  |(go_at_call 250;go_must(refine KS.o.mono ?_);unfold pM;rintro e W1 ⟨rfl,hX1⟩;have HX1:=Vk hX1;clear hX1))
 all_goals
  go_ret3
  exact⟨⟨_,_,_,rfl,λh=>V6⟩,HX1.o⟩):p:=h
theorem a0R{p:Prop}(h:p:=by
 subst hcc
 go_wp2_with fail
 go_ret2
 exact⟨rfl,X3.o⟩):p:=h
theorem a0S{p:Prop}(h:p:=by
 refine Vx rfl (λK hK=> ?_)
 go_simp
 exact hK _ _ ⟨_,by simp[aW,pS],HI.o.pure V0 rfl⟩):p:=h
theorem a0T{p:Prop}(h:p:=by
 simp only[Option.getD_some] at this
 rw[this];simp):p:=h
theorem a0U{p:Prop}(h:p:=by
 go_ret
 exact⟨rfl,E0.o.tr HX4.o⟩):p:=h
theorem a0V{p:Prop}(h:p:=by
 go_wp2_with(go_at_call 108;fail)
 refine(KP.o _ HX4.o).mono ?_
 rintro e W2 ⟨rfl,hX5⟩
 have HX5:=Vk (HX4.o.tr hX5)
 have c5:=HB.o _ HX5.o
 clear hX5 c4
 go_wp2_with(go_at_call 109;go_loud (refine(KR.o _ HX5.o).mono ?_);rintro e W3 ⟨rfl,hX6⟩;have HX6:=Vk (HX5.o.tr hX6);clear hX6)
 go_ret
 exact⟨rfl,E0.o.tr HX6.o⟩):p:=h
theorem a0W{p:Prop}(h:p:=by
 go_wp2
 go_ret
 exact⟨rfl,E0.o.tr HX.o⟩):p:=h
theorem a0X{p:Prop}(h:p:=by
 have h1:=Ip h hi
 have h2:=Ip h (Nat.mod_lt (i+1) (by omega:r.length>0))
 rw[iZ,Ci VY VY VY VY]):p:=h
theorem a0Y{p:Prop}(h:p:=by
 obtain rfl:k=l.length:=VY
 have hv:v=0:=by rw[HV.o];exact bh A1.o
 subst hv
 go_wp2
 go_ret
 exact⟨rfl,HX.o⟩):p:=h
theorem a0Z{p:Prop}(h:p:=by
 go_wp2
 go_ret
 exact⟨⟨_,rfl,λh=>V6⟩,X2.o⟩):p:=h
theorem a00{p:Prop}(h:p:=by
 all_goals
  go_wp2_with fail
  go_ret
  exact⟨⟨_,rfl,λh=>V6⟩,HX.o⟩):p:=h
theorem a01{p:Prop}(h:p:=by
 go_wp2_with fail
 go_ret
 exact⟨⟨_,rfl,λh=>absurd h V0⟩,E0.o.tr X2.o⟩):p:=h
theorem a02{p:Prop}(h:p:=by
 subst e
 rw[if_neg VY]
 simp only[Option.map_some,zT,Nat.zero_mul,Nat.add_zero]):p:=h
theorem a03{p:Prop}(h:p:=by
  go_simp
  exact hK _ _ ⟨_, by simp [aW, IY], hI.read V0 rfl⟩):p:=h
theorem a04{p:Prop}(h:p:=by
  go_simp
  exact hK _ _ ⟨_, by simp [aW, Hf], hI.read V0 rfl⟩):p:=h
theorem a05{p:Prop}(h:p:=by
 unfold DataW.trod at h
 rw[ht] at h
 split at h<;>simp_all):p:=h
theorem a06{p:Prop}(h:p:=by
 have hl:j<ew.length:=hj
 unfold uV
 rw[Nat.add_comm,List.getElem?_cons_succ,List.getElem?_map,Vt hl]
 simp[List.getD,Vt hl]):p:=h
theorem a07{p:Prop}(h:p:=by
 rw[MakeChecks.laidMetH_plain _ _ _ VZ] at hL
 refine⟨?_,?_,?_,?_,?_⟩
 ·obtain⟨g,t,cs,fuel,p,h1,h2,h3,h4⟩:=Lib.laidMet.reads hL (n:= "internal/strconv.uint64pow10") (d:=Lib.tabData .u64 Lib.pow10Tab) (List.mem_of_getElem? (i:=2) VZ)
  obtain rfl:=VN (MY.symm.trans h1)
  obtain rfl:=VN (My.symm.trans h2)
  have:=Lib.cells_of_tab underlying352 underlying314 tK vZ h4
  show W.var? prog _=Vq _
  rw[h3,<-this]
 ·exact Go.Proofs.cell_of_shapedOpen_int (zero:=#[.int .i64 0]) (t:=3) hS (of_decide_eq_true VZ) VZ rfl VZ VZ underlying3
 ·obtain⟨g,t,cs,fuel,p,h1,h2,h3,h4⟩:=Lib.laidMet.reads hL (n:= "strconv.ErrSyntax") (d:=VP.laid_strconv_ErrSyntax) (List.mem_of_getElem? (i:=5) VZ)
  obtain rfl:=VN (Nx.symm.trans h1)
  obtain rfl:=VN (MZ.symm.trans h2)
  obtain⟨u,v,hc⟩:=iface_of_trod underlying212 h4
  exact⟨u,v,Xt⟩
 ·obtain⟨g,t,cs,fuel,p,h1,h2,h3,h4⟩:=Lib.laidMet.reads hL (n:= "strconv.ErrRange") (d:=VP.laid_strconv_ErrRange) (List.mem_of_getElem? (i:=4) VZ)
  obtain rfl:=VN (NH.symm.trans h1)
  obtain rfl:=VN (MF.symm.trans h2)
  obtain⟨u,v,hc⟩:=iface_of_trod underlying212 h4
  exact⟨u,v,Xt⟩
 ·obtain⟨g,t,cs,fuel,p,h1,h2,h3,h4⟩:=Lib.laidMet.reads hL (n:= "kingpost/timber.words") (d:= .agg uV) (List.mem_of_getElem? (i:=6) VZ)
  obtain rfl:=VN (CO.symm.trans h1)
  obtain rfl:=VN (Na.symm.trans h2)
  intro j hj
  obtain⟨f2,d,q,hd,ht⟩:=Lib.array_elem underlying158 h4 (1+j) VY
  rw[vj j hj] at hd
  obtain⟨s,hc,hx,_⟩:=DataW.trod_string underlying9 ht
  have hds:(DataW.lit (.string (ew.getD j [])):DataW Unit)= .lit (.string s.data.toList):=(VN hd).trans (Prod.mk.inj hx).1
  have hs:ew.getD j []=s.data.toList:=by
   injection hds with h;injection h
  rw[nM,Nat.mul_one] at hc
  rw[Vl.var?_cell CO h3 (1+j),hs,lr]
  have h0:((cs.toList.drop (1+j)).take 1)[0]?=Vq (.string s):=by rw[hc];rfl
  simpa[List.getElem?_take,List.getElem?_drop] using h0):p:=h
theorem a08{p:Prop}(h:p:=by
 obtain⟨⟨z,t⟩,hz⟩:=Option.isSome_iff_exists.1 (show((((begin prog (λ_ _=>0) default).world.heap[8]?).bind Obj.row?).isSome=Vv) from VZ)
 obtain⟨cs,hc,_⟩:=hS.1 8 z t (of_decide_eq_true VZ) hz
 have:=(Vz.1 hc).1
 omega):p:=h
theorem a09{p:Prop}(h:p:=by
 simp only[Lit.wf,Bool.and_eq_true,decide_eq_true_eq] at h
 have h0:(IntKind.u8.min:Int)=0:=V0
 have h1:(IntKind.u8.max:Int)=255:=V0
 exact⟨n.toNat,VY,VY⟩):p:=h
theorem a1a{p:Prop}(h:p:=by
 refine⟨ok_one VZ rfl (okWide_bool_mk underlying4 _),_,[],([]++(p0++(p1++[])))++[],⟨[]++(p0++(p1++[])),[],trodAll_append (hread _ (λ_ _=>rfl)) (trodAll_cons_mk (shut_bool underlying4 _) trodAll_mk0),rfl,rfl,?_,?_⟩,?_⟩
 ·intro b off hx
  have hin2:MemPlace.cell b off∈p0++(p1++[])++[]:=XK
  rw[hb.frozen (hlt _ hin2)]
  exact hfz b off hin2
 ·intro ha;cases ha
 ·intro x hx _
  simpa using hx):p:=h
theorem a1b{p:Prop}(h:p:=by
 exact trodAll_cons_mk (WideElems.Trod_stays iq VZ (of_decide_eq_true VZ) h0 (λx hx=>hb.same (hlt x Xw)) (λx hx=>hsp x Xw)) (trodAll_cons_mk (WideElems.Trod_stays iq VZ (of_decide_eq_true VZ) h1 (λx hx=>hb.same (hlt x Xw)) (λx hx=>hsp x Xw)) trodAll_mk0)):p:=h
theorem a1c{p:Prop}(h:p:=by
 simp only[List.append_nil,VP.uptoBulkAll] at hsm
 omega):p:=h
theorem a1d{p:Prop}(h:p:=by
 exact(show prog.wantsStandIn 38=Vp by kernel_rfl)):p:=h
theorem a1e{p:Prop}(h:p:=by
 have q:=hcu i (by rw[Vu];exact hui) 0 V0
 rw[Nat.one_mul,Nat.add_zero] at q
 rw[q,Vn,List.getElem?_map,<-hu,Vn,Vt hui]
 rfl):p:=h
theorem a1f{p:Prop}(h:p:=by
 go_wp2_with(go_at_call 7;go_must(refine(KA.o _ X1.o).mono ?_);rintro r2 W2 ⟨rfl,hX2⟩)
 go_ret
 exact⟨rfl,E0.o.tr (X1.o.tr hX2)⟩):p:=h
end Go.Proofs.YtmliacdegmklaaaGreatDoor
open Go.Proofs.YtmliacdegmklaaaGreatDoor
namespace Kp
abbrev B:Nat:=1000000000
def S(f:Nat->Nat):Nat->Nat
 |0=>0
 |n+1=>S f n+f n*B^n
def GI(f:Nat->Nat):S f 0=0:=rfl
def bR(f:Nat->Nat)(n:Nat):S f (n+1)=S f n+f n*B^n:=rfl
def CF(n:Nat):0<B^n:=Nat.pow_pos V0
def dV{f g:Nat->Nat}{n:Nat}(h:∀k,k<n->f k=g k):S f n=S g n:=by
 induction n with
 |zero=>rfl
 |succ n ih=>rw[bR,bR,ih (λk hk=>h k VY),h n VY]
def sB{f:Nat->Nat}{n:Nat}(h:∀k,k<n->f k<B):S f n<B^n:=by
 induction n with
 |zero=>simp[S]
 |succ n ih=>
  rw[bR,Nat.pow_succ];have h1:=ih (λk hk=>h k VY);have h2:f n+1<=B:=h n VY;have h3:(f n+1)*B^n<=B*B^n:=Nat.mul_le_mul_right _ h2;rw[Nat.add_mul,Nat.one_mul,VE B] at h3;omega
def q8{f:Nat->Nat}{n:Nat}(h:∀k,k<n->f k=0):S f n=0:=by
 induction n with
 |zero=>rfl
 |succ n ih=>rw[bR,ih (λk hk=>h k VY),h n VY];simp
def pj(f:Nat->Nat)(m n:Nat):S f (m+n)=S f m+B^m*S (λk=>f (m+k)) n:=by
 induction n with
 |zero=>simp[S]
 |succ n ih=>
  rw[<-Nat.add_assoc,bR,ih,bR,Nat.mul_add,Nat.pow_add];have:f (m+n)*(B^m*B^n)=B^m*(f (m+n)*B^n):=by
   rw[Nat.mul_left_comm]
  omega
def Rh{f:Nat->Nat}{m n:Nat}(h:m<=n)(hz:∀k,m<=k->k<n->f k=0):S f n=S f m:=by
 obtain⟨d,rfl⟩:∃d,n=m+d:=⟨n-m,VY⟩;rw[pj,q8 (f:=λk=>f (m+k)) (λk hk=>hz _ VY VY)];simp
def Tm{f g:Nat->Nat}{n:Nat}(hf:∀k,k<n->f k<B)(hg:∀k,k<n->g k<B)(h:S f n=S g n):∀k,k<n->f k=g k:=by
 induction n with
 |zero=>intro k hk;omega
 |succ n ih=>
  rw[bR,bR] at h;have h1:=sB (λk (hk:k<n)=>hf k VY);have h2:=sB (λk (hk:k<n)=>hg k VY);have hp:=CF n;have e1:(S f n+f n*B^n)/B^n=f n:=by
   rw[Nat.add_mul_div_right _ _ hp,Nat.div_eq_of_lt h1];omega
  have e2:(S g n+g n*B^n)/B^n=g n:=by
   rw[Nat.add_mul_div_right _ _ hp,Nat.div_eq_of_lt h2];omega
  have e:f n=g n:=by rw[<-e1,<-e2,h]
  rw[e] at h;have h3:S f n=S g n:=VY;intro k hk;by_cases hkn:k=n
  ·rw[hkn];exact e
  ·exact ih (λk hk=>hf k VY) (λk hk=>hg k VY) h3 k VY
def JV{X V U c P q xi vi ui c':Nat}(h:X+q*V=U+c*P)(hs:xi+q*vi+c=ui+c'*B):
  (X+xi*P)+q*(V+vi*P)=(U+ui*P)+c'*(P*B):=by
 have h1:=congrArg (· *P) hs;simp only[Nat.add_mul] at h1;rw[Nat.mul_add];have e1:q*(vi*P)=q*vi*P:=(Nat.mul_assoc _ _ _).symm;have e2:c'*(P*B)=c'*B*P:=by rw[VE P B,Nat.mul_assoc]
 rw[e1,e2];omega
def zM{X V U c P q xi vi ui c':Nat}(h:X+c*P=U+q*V)(hs:xi+c'*B=ui+q*vi+c):
  (X+xi*P)+c'*(P*B)=(U+ui*P)+q*(V+vi*P):=by
 have h1:=congrArg (· *P) hs;simp only[Nat.add_mul] at h1;rw[Nat.mul_add];have e1:q*(vi*P)=q*vi*P:=(Nat.mul_assoc _ _ _).symm;have e2:c'*(P*B)=c'*B*P:=by rw[VE P B,Nat.mul_assoc]
 rw[e1,e2];omega
def Iv{X V U q P:Nat}{c:Nat}(h:X+q*V=U+c*P)(hX:X<P)(_hU:U<P):(c=0↔q*V<=U):=by
 constructor
 ·intro hc;subst hc;omega
 ·intro hq;by_cases hc:c=0
  ·exact hc
  ·exfalso;have:1*P<=c*P:=Nat.mul_le_mul_right _ VY;omega
def zB{X Y V U q c d P:Nat}(h:X+q*V=U+c*P)(h2:Y+d*P=X+q*V)(hY:Y<P)(hU:U<P):Y=U:=by
 have h3:Y+d*P=U+c*P:=VY;have e1:(Y+d*P)%P=Y:=by rw[Nat.add_mul_mod_self_right,Nat.mod_eq_of_lt hY]
 have e2:(U+c*P)%P=U:=by rw[Nat.add_mul_mod_self_right,Nat.mod_eq_of_lt hU]
 rw[<-e1,h3,e2]
def Ik{U V t q v1 P:Nat}(hU:U<(t+1)*P)(hV:v1*P<=V)(hq:t<(q+1)*v1):U<(q+1)*V:=by
 have h1:(t+1)*P<=(q+1)*v1*P:=Nat.mul_le_mul_right _ VY;have h2:(q+1)*(v1*P)<=(q+1)*V:=Nat.mul_le_mul_left _ hV;rw[<-Nat.mul_assoc] at h2;omega
def MS{U V t q r v1 v2 u2 P:Nat}(ht:q*v1+r=t)(hU:U<(t*B+u2+1)*P)(hV:(v1*B+v2)*P<=V)
  (hg:r*B+u2<q*v2):U<q*V:=by
 have h1:q*((v1*B+v2)*P)<=q*V:=Nat.mul_le_mul_left _ hV;have h2:t*B+u2+1<=q*(v1*B+v2):=by
  have:t*B=q*(v1*B)+r*B:=by rw[<-ht,Nat.add_mul,Nat.mul_assoc]
  rw[Nat.mul_add];omega
 have h3:(t*B+u2+1)*P<=q*(v1*B+v2)*P:=Nat.mul_le_mul_right _ h2;rw[Nat.mul_assoc] at h3;omega
def OX{U V q:Nat}(hU:U<B*V)(hq:B<=q):U<q*V:=
 Nat.lt_of_lt_of_le hU (Nat.mul_le_mul_right _ hq)
def fv(l:List Nat):Nat->Nat:=λk=>l.getD k 0
def val(l:List Nat):Nat:=S (fv l) l.length
def Small(l:List Nat):Prop:=∀d,d∈l->d<B
def px(l:List Nat):Prop:=∀d,l.getLast?=Vq d->d≠0
structure Canon(l:List Nat):Prop where
 small:Small l
 trim:px l
def aA{l:List Nat}(h:Small l)(k:Nat):fv l k<B:=by
 exact XL
def mD{l:List Nat}{k:Nat}(h:l.length<=k):fv l k=0:=by
 unfold fv;rw[Vn,List.getElem?_eq_none h];rfl
def lP{l:List Nat}{k:Nat}(h:k<l.length):fv l k=l[k]:=by
 unfold fv;rw[Vn,Vt h];rfl
def j2{l:List Nat}{n:Nat}(h:l.length<=n):S (fv l) n=val l:=Rh h (λ_ hk _=>mD hk)
def q9{l:List Nat}(h:Small l):val l<B^l.length:=sB (λk _=>aA h k)
def DK(l:List Nat)(d:Nat):val (l++[d])=val l+d*B^l.length:=by
 unfold val;rw[VD];show S _ (l.length+1)=_;rw[bR,dV (g:=fv l)]
 ·unfold fv;simp
 ·intro k hk;unfold fv;simp[List.getElem?_append_left hk]
def pk(l:List Nat):val (l++[0])=val l:=by rw[DK];simp
def Small.snoc{l:List Nat}{d:Nat}(h:Small l)(hd:d<B):Small (l++[d]):=by
 intro x hx;rcases List.mem_append.1 hx with hx|hx
 ·exact h x hx
 ·rw[List.mem_singleton.1 hx];exact hd
def Small.yR{l:List Nat}{d:Nat}(h:Small (l++[d])):Small l:=λx hx=>h x Xw
def mM(l:List Nat):l=[]\/∃m d,l=m++[d]:=by
 rcases List.eq_nil_or_concat l with h|⟨m,d,h⟩
 ·exact .inl h
 ·exact .inr ⟨m,d,Wy⟩
def px.last{l:List Nat}{d:Nat}(h:px (l++[d])):d≠0:=h d V5
def pY:px []:=by intro d h;simp at h
def yD{l:List Nat}{d:Nat}(h:d≠0):px (l++[d]):=by intro x hx;simp at hx;omega
def uX{l:List Nat}(h:px l)(hl:l≠[]):B^(l.length-1)<=val l:=by
 rcases mM l with rfl|⟨m,d,rfl⟩
 ·exact absurd rfl hl
 ·rw[DK];have hd:=h.last;have:1*B^m.length<=d*B^m.length:=Nat.mul_le_mul_right _ VY;simp only[VD,List.length_singleton,Nat.add_sub_cancel];omega
def Gx{l:List Nat}(h:px l)(hl:l≠[]):0<val l:=Nat.lt_of_lt_of_le (CF _) (uX h hl)
def val_eq_zero{l:List Nat}(h:px l):val l=0↔l=[]:=by
 constructor
 ·intro h0;by_cases hl:l=[]
  ·exact hl
  ·have:=Gx h hl;omega
 ·rintro rfl;rfl
def bP{a b:List Nat}(ha:Small a)(hb:px b)(h:a.length<b.length):val a<val b:=by
 have h1:=q9 ha;have h2:=uX hb (by rintro rfl;simp at h);have h3:B^a.length<=B^(b.length-1):=Nat.pow_le_pow_right V0 VY;omega
def az(l:List Nat):List Nat:=(l.reverse.dropWhile (· ==0)).reverse
def dR(l:List Nat):az (l++[0])=az l:=by unfold az;simp
def iK{l:List Nat}{d:Nat}(h:d≠0):az (l++[d])=l++[d]:=by unfold az;simp[h]
def od:az []=[]:=rfl
def eS{p:List Nat->Prop}(h0:p [])(hs:∀l d,p l->p (l++[d]))(l:List Nat):p l:=by
 have:∀m:List Nat,p m.reverse:=by
  intro m
  induction m with
  |nil=>exact h0
  |cons d m ih=>rw[List.reverse_cons];exact hs _ _ ih
 have h:=this l.reverse;rwa[List.reverse_reverse] at h
def gR(l:List Nat):val (az l)=val l:=by
 refine eS (p:=λl=>val (az l)=val l) rfl (λl d ih=> ?_) l;by_cases hd:d=0
 ·subst hd;rw[dR,pk,ih]
 ·rw[iK hd]
def qy(l:List Nat):∃m,l=az l++List.replicate m 0:=by
 refine eS (p:=λl=>∃m,l=az l++List.replicate m 0) ⟨0,rfl⟩ (λl d ih=> ?_) l;by_cases hd:d=0
 ·subst hd;obtain⟨m,hm⟩:=ih;refine⟨m+1,?_⟩;rw[dR,List.replicate_succ',<-List.append_assoc,<-hm]
 ·exact⟨0,by rw[iK hd];simp⟩
def ei{l:List Nat}(h:Small l):Canon (az l):=by
 revert h;refine eS (p:=λl=>Small l->Canon (az l)) (λ_=>⟨λd h=>by simp[od] at h,pY⟩) (λl d ih h=> ?_) l;exact XM
def Ro{f g:Nat->Nat}{n i:Nat}(hi:i<n)(hf:∀k,k<n->f k<B)(he:∀k,i<k->k<n->f k=g k)(hlt:f i<g i):S f n<S g n:=by
 obtain⟨d,rfl⟩:∃d,n=(i+1)+d:=⟨n-(i+1),VY⟩;rw[pj f (i+1),pj g (i+1),dV (f:=λk=>f (i+1+k)) (g:=λk=>g (i+1+k)) (λk hk=>he _ VY VY),bR,bR];have h1:=sB (n:=i) (λk hk=>hf k VY);have h2:(f i+1)*B^i<=g i*B^i:=Nat.mul_le_mul_right _ hlt;rw[Nat.add_mul,Nat.one_mul] at h2;omega
def sh(f:Nat->Nat)(i:Nat):Nat->Nat:=λk=>f (i+k)
def PX(f:Nat->Nat)(i n:Nat):S (sh f i) (n+1)=f i+B*S (sh f (i+1)) n:=by
 have h:=pj (sh f i) 1 n;rw[Nat.add_comm 1 n] at h;rw[h,bR,GI,Nat.zero_add,Nat.pow_zero,Nat.mul_one,Nat.pow_one];have:S (λk=>sh f i (1+k)) n=S (sh f (i+1)) n:=dV (λk _=>by unfold sh;congr 1;omega);rw[this];unfold sh;simp
def Gc{d T Q r a n:Nat}(h:T=d*Q+r)(hn:n=a+r*B):
  a+B*T=d*(n/d+B*Q)+n%d:=by
 have h1:d*(n/d)+n%d=n:=Nat.div_add_mod n d;have h2:B*T=d*(B*Q)+B*r:=by rw[h,Nat.mul_add,Nat.mul_left_comm]
 rw[Nat.mul_add,VE r B] at *;omega
def Ob{d r a n:Nat}(hr:r<d)(ha:a<B)(hn:n=a+r*B):n/d<B/\n%d<d:=by
 refine⟨?_,Nat.mod_lt _ VY⟩;rw[Nat.div_lt_iff_lt_mul VY];have:(r+1)*B<=d*B:=Nat.mul_le_mul_right _ hr;rw[Nat.add_mul,Nat.one_mul,VE d B] at this;omega
def BN{X c O x V P:Nat}(h:X+c*(P*B)=O+x*V)(hO:O<P)(hV:V<P)(hx:x<B):c=0:=by
 by_cases hc:c=0
 ·exact hc
 ·exfalso;have h1:1*(P*B)<=c*(P*B):=Nat.mul_le_mul_right _ VY;have h2:x*V<=x*P:=Nat.mul_le_mul_left _ VY;have h3:(x+1)*P<=B*P:=Nat.mul_le_mul_right _ hx;rw[Nat.add_mul,Nat.one_mul,VE B P] at h3;omega
def Fo{f g:Nat->Nat}{m j n:Nat}(hm:j+n<=m)(hlo:∀k,k<j->g k=f k)(hhi:∀k,j+n<=k->k<m->g k=f k):
  S g m+B^j*S (sh f j) n=S f m+B^j*S (sh g j) n:=by
 obtain⟨d,rfl⟩:∃d,m=(j+n)+d:=⟨m-(j+n),VY⟩;rw[pj g,pj f,pj g j n,pj f j n,dV (f:=λk=>g (j+n+k)) (g:=λk=>f (j+n+k)) (λk hk=>hhi _ VY VY),dV (f:=g) (g:=f) (n:=j) (λk hk=>hlo k hk)];show _+B^j*S (sh g j) n+_+B^j*S (sh f j) n=_+B^j*S (sh f j) n+_+B^j*S (sh g j) n;omega
def F4{a b f Q R:Nat}(hf:0<f)(_hb:0<b)(h:a*f=Q*(b*f)+R)(hR:R<b*f):Q=a/b/\R=(a%b)*f:=by
 have h1:Q*b<=a:=by
  have:(Q*b)*f<=a*f:=by rw[Nat.mul_assoc];omega
  exact Nat.le_of_mul_le_mul_right this hf
 have h2:a<(Q+1)*b:=by
  have:a*f<((Q+1)*b)*f:=by rw[Nat.mul_assoc,Nat.add_mul,Nat.one_mul];omega
  exact Nat.lt_of_mul_lt_mul_right this
 have hQ:Q=a/b:=by
  rw[eq_comm];refine Nat.div_eq_of_lt_le ?_ ?_
  ·rw[VE] at h1;rwa[VE]
  ·exact h2
 refine⟨hQ,?_⟩;have h3:=Nat.div_add_mod a b;rw[<-hQ] at h3;have h4:(b*Q+a%b)*f=a*f:=by rw[h3]
 rw[Nat.add_mul] at h4;have h5:Q*(b*f)=b*Q*f:=by rw[<-Nat.mul_assoc,VE Q b]
 omega
end Kp
namespace Go.Proofs.YtmliacdegmklaaaGreatDoor
section
open Kp
def Ad{k:IntKind}{a b:Int}(h:a=b):Ending.returned (.int k a)=VV (.int k b):=by rw[h]
def bE(w:Vl)(b0:Nat)(v:Vr)(l:List Nat):Prop:=
 ∃A cap,v=VQ A l.length cap/\l.length<=cap/\cap<=VJ/\
  (0<l.length->∃b off,A=Vq ⟨b,off,Vo⟩/\b<b0/\∀j,j<l.length->w.cell? ⟨b,off+j,Vo⟩=Vq (VU VA (fv l j)))
def bE.keep{w w':Vl}{b0:Nat}{v:Vr}{l:List Nat}(h:bE w b0 v l)(hk:∀p:VM,p.block<b0->w'.cell? p=w.cell? p):bE w' b0 v l:=by
 obtain⟨A,cap,rfl,h1,h2,hc⟩:=h;refine⟨A,cap,rfl,h1,h2,λhn=> ?_⟩;obtain⟨b,off,e,hb,hcell⟩:=hc hn;exact⟨b,off,e,hb,λj hj=>(hk _ hb).trans (hcell j hj)⟩
def bE.more{w:Vl}{b0 b1:Nat}{v:Vr}{l:List Nat}(h:bE w b0 v l)(hb:b0<=b1):bE w b1 v l:=by
 exact XN
def bE.below{w w':Vl}{b0:Nat}{v:Vr}{l:List Nat}(h:bE w b0 v l)(hb:VL b0 w w'):bE w' b0 v l:=h.keep λ_ hp=>hb.cell hp
def bE.len{w:Vl}{b0:Nat}{v:Vr}{l:List Nat}(h:bE w b0 v l):l.length<=9223372036854775807:=by
 obtain⟨_,_,_,h1,h2,_⟩:=h;unfold VJ at h2;omega
def vJ(w:Vl)(b0:Nat)(v:Vr)(l:List Nat)(i:Nat)(h:bE w b0 v l)(hi:i<=4611686018427387904):
  VC prog 346 #[v,VU VA i] w λe w'=>e=VV (VU VA (fv l i))/\w=w':=by
 obtain⟨A,cap,rfl,hl,hm,hc⟩:=h;unfold VJ at hm;by_cases hlt:i<l.length
 ·obtain⟨b,off,rfl,_,hcell⟩:=hc VY;have hx:=hcell i hlt;clear hcell;go_enter func346,ntmps346;exact XO
 ·go_enter func346,ntmps346;go_wp2;go_ret;exact⟨Ad (by rw[mD VY];rfl),rfl⟩
def JU:Vr->Nat
 | VQ _ n _=>n
 |_=>0
def yc{l:List Nat}{k:Nat}(hk:k<l.length)(h0:fv l k=0)(h:az (l.take (k+1))=az l):az (l.take k)=az l:=by
 rw[<-h,List.take_succ_eq_append_getElem hk];rw[lP hk] at h0;rw[h0,dR]
def yq{l:List Nat}{k:Nat}(hk:k<l.length)(h0:fv l k≠0)(h:az (l.take (k+1))=az l):(az l).length=k+1:=by
 rw[<-h,List.take_succ_eq_append_getElem hk];rw[lP hk] at h0;rw[iK h0];simp;omega
def DZ(w:Vl)(A:Option VM)(cap:Nat)(l:List Nat)(h1:l.length<=cap)(h2:cap<=VJ)
  (hc:0<l.length->∃b off,A=Vq ⟨b,off,Vo⟩/\∀j,j<l.length->w.cell? ⟨b,off+j,Vo⟩=Vq (VU VA (fv l j))):
  VC prog 326 #[VQ A l.length cap] w λe w'=>e=VV (VQ A (az l).length cap)/\w=w':=by
 unfold VJ at h2;go_enter func326,ntmps326;go_wp2
 go_loop [0] (λv=>∃k:Nat,k<=l.length/\v=VQ A k cap/\Hid (az (l.take k)=az l)) (λv=>JU v)
 case atStart=>exact⟨l.length,Vm _,rfl,by simp[Hid]⟩
 case round=>
  obtain⟨k,hk,rfl,ht⟩:=hrel;rcases k with _|k
  ·exact XQ
  ·obtain⟨b,off,rfl,hcell⟩:=hc VY;have hx:=hcell k VY;by_cases h0:fv l k=0
   ·have hz:((fv l k:Int)==0)=Vv:=by rw[h0];rfl
    have H0:=Vk h0;clear h0 hcell;go_wp2
    go_round
    case rel=>exact⟨k,VY,rfl,yc VY H0.o ht.o⟩
    case measure=>simp[JU]
   ·exact XP
end
section
open Kp
def Row(w:Vl)(g cap:Nat)(l:List Nat):Prop:=
 ∃cur:Array Vr,w.heap[g]?=Vq (.cells cur 3 (0,0))/\cur.size=cap/\l.length<=cap/\cap<=VJ/\∀j,j<l.length->cur[j]?=Vq (VU VA (fv l j))
def Row.lt{w:Vl}{g cap:Nat}{l:List Nat}(h:Row w g cap l):g<w.heap.size:=by
 obtain⟨cur,hh,_⟩:=h;exact(Vz.1 hh).1
def Row.cell{w:Vl}{g cap:Nat}{l:List Nat}(h:Row w g cap l){j:Nat}(hj:j<l.length):w.cell? ⟨g,j,Vo⟩=Vq (VU VA (fv l j)):=by
 obtain⟨cur,hh,_,_,_,hc⟩:=h;simp[World.cell?,hh,hc j hj]
def Row.frozen{w:Vl}{g cap:Nat}{l:List Nat}(h:Row w g cap l)(j:Nat):w.frozen? ⟨g,j,Vo⟩=Vp:=by
 obtain⟨cur,hh,_⟩:=h;simp[World.frozen?,hh]
def ie{l:List Nat}{j x k:Nat}(hj:j<l.length):fv (l.set j x) k=if k=j then x else fv l k:=by
 exact XR
def Row.set{w:Vl}{g cap:Nat}{l:List Nat}(h:Row w g cap l){j:Nat}(hj:j<l.length)(x:Nat):Row (w.setCell ⟨g,j,Vo⟩ (VU VA x)) g cap (l.set j x):=by
 obtain⟨cur,hh,h1,h2,h3,hc⟩:=h;refine⟨cur.setIfInBounds j (VU VA x),?_,by simp[h1],by simpa using h2,h3,λk hk=> ?_⟩
 ·exact XT
 ·exact XS
def Row.keep{w w':Vl}{g cap:Nat}{l:List Nat}(h:Row w g cap l)(hk:w'.heap[g]?=w.heap[g]?):Row w' g cap l:=by
 obtain⟨cur,hh,r⟩:=h;exact⟨cur,hk.trans hh,r⟩
def Row.drew{w:Vl}{g cap:Nat}{l:List Nat}(h:Row w g cap l):Row w.drew g cap l:=h
def Row.drewN{w:Vl}{g cap:Nat}{l:List Nat}(h:Row w g cap l)(n:Nat):Row (w.drewN n) g cap l:=h
def Row.sl{w:Vl}{g cap b0:Nat}{l:List Nat}(h:Row w g cap l)(hg:g<b0):bE w b0 (VQ (Vq ⟨g,0,Vo⟩) l.length cap) l:=by
 exact XU
structure dO(g:Nat)(w w':Vl):Prop where
 os:w'.os=w.os
 tape:w'.tape=w.tape
 output:w'.output=w.output
 size:w'.heap.size=w.heap.size
 block:∀k,k≠g->w'.heap[k]?=w.heap[k]?
def dO.refl(g:Nat)(w:Vl):dO g w w:=⟨rfl,rfl,rfl,rfl,λ_ _=>rfl⟩
def dO.drewN{g:Nat}{w w':Vl}(h:dO g w w')(n:Nat):dO g w (w'.drewN n):=⟨h.os,h.tape,h.output,h.size,h.block⟩
def dO.drew{g:Nat}{w w':Vl}(h:dO g w w'):dO g w w'.drew:=⟨h.os,h.tape,h.output,h.size,h.block⟩
def dO.set{g:Nat}{w w':Vl}(h:dO g w w')(j:Nat)(x:Vr):dO g w (w'.setCell ⟨g,j,Vo⟩ x):=
 ⟨h.os,h.tape,h.output,by simpa[World.setCell] using h.size,λk hk=>(Below.heap_setCell w' ⟨g,j,Vo⟩ x k hk).trans (h.block k hk)⟩
def dO.trans{g:Nat}{a b c:Vl}(h:dO g a b)(k:dO g b c):dO g a c:=
 ⟨k.os.trans h.os,k.tape.trans h.tape,k.output.trans h.output,k.size.trans h.size,λi hi=>(k.block i hi).trans (h.block i hi)⟩
def dO.cell{g:Nat}{w w':Vl}(h:dO g w w'){p:VM}(hp:p.block≠g):w'.cell? p=w.cell? p:=World.cell?_of_block (h.block _ hp)
def dO.sl{g b0:Nat}{w w':Vl}(h:dO g w w'){v:Vr}{l:List Nat}(hs:bE w b0 v l)(hb:b0<=g):bE w' b0 v l:=hs.keep λp hp=>h.cell VY
def dO.below{g b0:Nat}{w w':Vl}(h:dO g w w')(hb:b0<=g):VL b0 w w':=
 ⟨h.os,h.tape,h.output,by rw[h.size];exact Vm _,λk hk=>h.block k VY⟩
def zK{w:Vl}{p:VM}{v:Vr}(h:w.cell? p=Vq v):p.block<w.heap.size:=by
 rcases Nat.lt_or_ge p.block w.heap.size with hlt|hge
 ·exact hlt
 ·unfold World.cell? at h;rw[Array.getElem?_eq_none hge] at h;simp at h
def Ka(w:Vl)(g:Nat)(v:Vr)(l:List Nat):Prop:=
 ∃A cap,v=VQ A l.length cap/\l.length<=cap/\cap<=VJ/\
  (0<l.length->∃b off,A=Vq ⟨b,off,Vo⟩/\b≠g/\∀j,j<l.length->w.cell? ⟨b,off+j,Vo⟩=Vq (VU VA (fv l j)))
def Ka.all{w:Vl}{g:Nat}{v:Vr}{l:List Nat}(h:Ka w g v l):bE w w.heap.size v l:=by
 obtain⟨A,cap,rfl,h1,h2,hc⟩:=h;refine⟨A,cap,rfl,h1,h2,λhn=> ?_⟩;obtain⟨b,off,e,hb,hcell⟩:=hc hn;exact⟨b,off,e,zK (hcell 0 hn),hcell⟩
def dO.SW{g:Nat}{w w':Vl}(h:dO g w w'){v:Vr}{l:List Nat}(hs:Ka w g v l):Ka w' g v l:=by
 obtain⟨A,cap,rfl,h1,h2,hc⟩:=hs;refine⟨A,cap,rfl,h1,h2,λhn=> ?_⟩;obtain⟨b,off,e,hb,hcell⟩:=hc hn;exact⟨b,off,e,hb,λj hj=>(h.cell hb).trans (hcell j hj)⟩
def bE.dx{w:Vl}{b0 g:Nat}{v:Vr}{l:List Nat}(h:bE w b0 v l)(hg:b0<=g):Ka w g v l:=by
 exact XN
def Row.SW{w:Vl}{g g' cap:Nat}{l:List Nat}(h:Row w g cap l)(hg:g≠g'):Ka w g' (VQ (Vq ⟨g,0,Vo⟩) l.length cap) l:=by
 exact XU
end
section
open Kp
def cD{n:Int}(h0: -9223372036854775808<=n)(h1:n<=9223372036854775807):VA.wrap n=n:=VI _ VY
def oD(w:Vl)(g cap:Nat)(u v:List Nat)(j q k c:Nat)(u':List Nat)(w':Vl):Prop:=
 Row w' g cap u'/\u'.length=u.length/\Small u'/\(∀i,i<j\/j+k<=i->fv u' i=fv u i)/\
  S (sh (fv u') j) k+q*S (fv v) k=S (sh (fv u) j) k+c*B^k/\c<=2000000010/\dO g w w'
def NN(w:Vl)(g cap:Nat)(u v:List Nat)(j q:Nat)(c i:Vr)(w':Vl):Prop:=
 ∃(k cN:Nat) (u':List Nat),k<=v.length+1/\i=VU VA k/\c=VU VA cN/\oD w g cap u v j q k cN u' w'
def NA(w:Vl)(g cap:Nat)(u v:List Nat)(j q:Nat)(e:Ending)(w':Vl):Prop:=
 ∃(c:Nat) (u':List Nat),e=VV (VS (decide (0<c)))/\oD w g cap u v j q (v.length+1) c u' w'
def Ev(w:Vl)(b0:Nat)(v:Vr)(l:List Nat)(i:Nat)(h:bE w b0 v l)(hi:i<=4611686018427387904):
  VC prog 346 #[v,VU VA i] w λe w'=>e=VV (VU VA (fv l i))/\w'=w:=
 (vJ w b0 v l i h hi).mono λ_ _ h=>⟨h.1,h.2.symm⟩
def oh{q x:Nat}(hq:q<=2000000000)(hx:x<1000000000):0<=(q:Int)*(x:Int)/\(q:Int)*(x:Int)<=2000000000000000000:=by
 have h:q*x<=2000000000*1000000000:=Nat.mul_le_mul hq VY;have e:((q*x:Nat):Int)=(q:Int)*(x:Int):=V5;omega
def C6{l:List Nat}{j k x:Nat}(h:j+k<l.length):S (sh (fv (l.set (j+k) x)) j) (k+1)=S (sh (fv l) j) k+x*B^k:=by
 rw[bR,dV (g:=sh (fv l) j)]
 ·have:sh (fv (l.set (j+k) x)) j k=x:=by unfold sh;rw[ie h,if_pos rfl]
  rw[this]
 ·intro i hi;unfold sh;rw[ie h,if_neg VY]
def Small.set{l:List Nat}(h:Small l){j x:Nat}(hx:x<B):Small (l.set j x):=by
 exact XV
def xW{w wr:Vl}{g cap:Nat}{u v u':List Nat}{j q k c x c':Nat}(n:Nat)(H:oD w g cap u v j q k c u' wr)(hj:j+k<u.length)
  (hx:x<1000000000)(hc':c'<=2000000010)(he:x+q*fv v k+c=fv u' (j+k)+c'*1000000000):
  oD w g cap u v j q (k+1) c' (u'.set (j+k) x) ((wr.drewN n).setCell ⟨g,j+k,Vo⟩ (VU VA x)):=by
 obtain⟨hR,hl,hS,hsame,heq,hc,hO⟩:=H;refine⟨(hR.drewN n).set VY x,XJ,Small.set hS hx,λi hi=> ?_,?_,hc',(hO.drewN n).set _ _⟩
 ·rw[ie VY,if_neg VY];exact hsame i VY
 ·rw[C6 VY,bR (fv v),bR (sh (fv u) j),Nat.pow_succ];refine JV heq ?_;exact XW
def LN{a c p:Nat}(h:(a:Int)-c-p<0)(hc:c<=2000000010)(hp:p<=2000000000000000000):
  ∃c' x:Nat,(-((a:Int)-c-p)+1000000000-1)/1000000000=c'/\(a:Int)-c-p+(c':Int)*1000000000=x/\x<1000000000/\c'<=2000000010/\x+p+c=a+c'*1000000000:=by
 refine⟨((-((a:Int)-c-p)+1000000000-1)/1000000000).toNat,((a:Int)-c-p+((-((a:Int)-c-p)+1000000000-1)/1000000000)*1000000000).toNat,?_,?_,?_,?_,?_⟩<;>omega
def MB(w:Vl)(g cap:Nat)(u v:List Nat)(vv:Vr)(j q:Nat)(hr:Row w g cap u)(hv:Ka w g vv v)(hu:Small u)(hvs:Small v)
  (hj:j+v.length+1<=u.length)(hq:q<=2000000000)(hlen:u.length<=4294967296):
  VC prog 332 #[VQ (Vq ⟨g,0,Vo⟩) u.length cap,vv,VU VA j,VU VA q] w (NA w g cap u v j q):=by
 have hcap:u.length<=cap/\cap<=9223372036854775807:=Xp;obtain⟨A,vcap,rfl,hv1,hv2,hvc⟩:=id hv;unfold VJ at hv2;go_enter func332,ntmps332;go_wp2;go_loopw [9,15] (λc i wr=>NN w g cap u v j q c i wr) (λ_ i _=>v.length+1-(VG i).toNat)
 case atStart=>exact⟨0,0,u,VY,rfl,rfl,hr,rfl,hu,λ_ _=>rfl,by simp[S],VY,dO.refl _ _⟩
 case round=>
  obtain⟨k,c,u',hk,rfl,rfl,hrel⟩:=hrel;obtain⟨hR,hl,hS,hsame,heq,hc,hO⟩:=id hrel;by_cases hlt:k<v.length+1
  ·have hx:=hR.cell (j:=j+k) VY;have hfr:=hR.frozen (j+k);have hub:fv u' (j+k)<1000000000:=aA hS (j+k);have hvb:fv v k<1000000000:=aA hvs k;obtain⟨hp0,lD⟩:=oh hq hvb;have hsv:=(hO.SW hv).all;have w1:VA.wrap ((j:Int)+k)=j+k:=cD VY VY;have w1a:0<=(j:Int)+k:=VY;have w1b:((j:Int)+k).toNat=j+k:=VY;have w2:VA.wrap ((fv u' (j+k):Int)-c)=fv u' (j+k)-c:=cD VY VY;have w3:VA.wrap ((q:Int)*(fv v k:Int))=q*fv v k:=cD VY VY;have w4:VA.wrap ((fv u' (j+k):Int)-c-(q:Int)*(fv v k:Int))=fv u' (j+k)-c-q*fv v k:=cD VY VY;have w1c:(j:Int)+k<u.length:=VY;have H:=Vk hrel;clear hrel heq hsame hl hS hR hO;go_wp2_with fail
   go_quiet ((go_at_call 346;exact Calls.quiet_of_same (Ev _ _ _ v k hsv VY)))
   go_wp2
   ·have hneg:(fv u' (j+k):Int)-c-(q:Int)*(fv v k:Int)<0:=Wd;have ep:((q:Int)*(fv v k:Int))=((q*fv v k:Nat):Int):=V5;rw[ep] at hneg lD⊢;obtain⟨c',x,e1,e2,hx1,hc1,he⟩:=LN hneg hc VY;rw[e1,e2];exact⟨⟨k+1,c',_,VY,by go_num,rfl,xW nq H.o VY hx1 hc1 he⟩,V7⟩
   ·have hpos:0<=(fv u' (j+k):Int)-c-(q:Int)*(fv v k:Int):=Wd;have ep:((q:Int)*(fv v k:Int))=((q*fv v k:Nat):Int):=V5;rw[ep] at hpos lD⊢;have e2:(fv u' (j+k):Int)-c-((q*fv v k:Nat):Int)=((fv u' (j+k)-c-q*fv v k:Nat):Int):=VY;rw[e2];exact⟨⟨k+1,0,_,VY,by go_num,rfl,xW nq H.o VY VY VY VY⟩,V7⟩
  ·exact XX
end
section
open Kp
def kY(w:Vl)(g cap:Nat)(u v:List Nat)(j q k c:Nat)(u':List Nat)(w':Vl):Prop:=
 Row w' g cap u'/\u'.length=u.length/\Small u'/\(∀i,i<j\/j+k<=i->fv u' i=fv u i)/\
  S (sh (fv u') j) k+c*B^k=S (sh (fv u) j) k+q*S (fv v) k/\c<=2000000010/\dO g w w'
def Md(w:Vl)(g cap:Nat)(u v:List Nat)(j q:Nat)(c i:Vr)(w':Vl):Prop:=
 ∃(k cN:Nat) (u':List Nat),k<=v.length+1/\i=VU VA k/\c=VU VA cN/\kY w g cap u v j q k cN u' w'
def MQ(w:Vl)(g cap:Nat)(u v:List Nat)(j q:Nat)(e:Ending)(w':Vl):Prop:=
 ∃(c:Nat) (u':List Nat),e=VV (VQ (Vq ⟨g,0,Vo⟩) u.length cap)/\kY w g cap u v j q (v.length+1) c u' w'
def yf{w wr:Vl}{g cap:Nat}{u v u':List Nat}{j q k c x c':Nat}(n:Nat)(H:kY w g cap u v j q k c u' wr)(hj:j+k<u.length)
  (hx:x<1000000000)(hc':c'<=2000000010)(he:x+c'*1000000000=fv u' (j+k)+q*fv v k+c):
  kY w g cap u v j q (k+1) c' (u'.set (j+k) x) ((wr.drewN n).setCell ⟨g,j+k,Vo⟩ (VU VA x)):=by
 obtain⟨hR,hl,hS,hsame,heq,hc,hO⟩:=H;refine⟨(hR.drewN n).set VY x,XJ,Small.set hS hx,λi hi=> ?_,?_,hc',(hO.drewN n).set _ _⟩
 ·rw[ie VY,if_neg VY];exact hsame i VY
 ·rw[C6 VY,bR (fv v),bR (sh (fv u) j),Nat.pow_succ];refine zM heq ?_;exact XW
def Bg(w:Vl)(g cap:Nat)(u v:List Nat)(vv:Vr)(j q:Nat)(hr:Row w g cap u)(hv:Ka w g vv v)(hu:Small u)(hvs:Small v)
  (hj:j+v.length+1<=u.length)(hq:q<=2000000000)(hlen:u.length<=4294967296):
  VC prog 333 #[VQ (Vq ⟨g,0,Vo⟩) u.length cap,vv,VU VA j,VU VA q] w (MQ w g cap u v j q):=by
 have hcap:u.length<=cap/\cap<=9223372036854775807:=Xp;obtain⟨A,vcap,rfl,hv1,hv2,hvc⟩:=id hv;unfold VJ at hv2;go_enter func333,ntmps333;go_wp2;go_loopw [9,15] (λc i wr=>Md w g cap u v j q c i wr) (λ_ i _=>v.length+1-(VG i).toNat)
 case atStart=>exact⟨0,0,u,VY,rfl,rfl,hr,rfl,hu,λ_ _=>rfl,by simp[S],VY,dO.refl _ _⟩
 case round=>
  obtain⟨k,c,u',hk,rfl,rfl,hrel⟩:=hrel;obtain⟨hR,hl,hS,hsame,heq,hc,hO⟩:=id hrel;by_cases hlt:k<v.length+1
  ·have hx:=hR.cell (j:=j+k) VY;have hfr:=hR.frozen (j+k);have hub:fv u' (j+k)<1000000000:=aA hS (j+k);have hvb:fv v k<1000000000:=aA hvs k;obtain⟨hp0,lD⟩:=oh hq hvb;have hsv:=(hO.SW hv).all;have w1:VA.wrap ((j:Int)+k)=j+k:=cD VY VY;have w1a:0<=(j:Int)+k:=VY;have w1b:((j:Int)+k).toNat=j+k:=VY;have w3:VA.wrap ((q:Int)*(fv v k:Int))=q*fv v k:=cD VY VY;have w2:VA.wrap ((fv u' (j+k):Int)+(q:Int)*(fv v k:Int))=fv u' (j+k)+q*fv v k:=cD VY VY;have w4:VA.wrap ((fv u' (j+k):Int)+(q:Int)*(fv v k:Int)+c)=fv u' (j+k)+q*fv v k+c:=cD VY VY;have w1c:(j:Int)+k<u.length:=VY;have H:=Vk hrel;clear hrel heq hsame hl hS hR hO;go_wp2_with fail
   go_quiet ((go_at_call 346;exact Calls.quiet_of_same (Ev _ _ _ v k hsv VY)))
   go_wp2;have ep:((q:Int)*(fv v k:Int))=((q*fv v k:Nat):Int):=V5;rw[ep] at lD⊢;have e1:((fv u' (j+k):Int)+((q*fv v k:Nat):Int)+c)/1000000000=(((fv u' (j+k)+q*fv v k+c)/1000000000:Nat):Int):=VY;have e2:((fv u' (j+k):Int)+((q*fv v k:Nat):Int)+c)%1000000000=(((fv u' (j+k)+q*fv v k+c)%1000000000:Nat):Int):=VY;rw[e1,e2];exact⟨⟨k+1,_,_,VY,by go_num,rfl,yf nq H.o VY VY VY VY⟩,V7⟩
  ·exact XX
end
section
open Kp
def AD(U V un u1 v1 q r:Nat):Prop:=
 q*v1+r=un*1000000000+u1/\U<(q+1)*V/\q<=2000000000/\r<1000000000
def OJ(w:Vl)(U V un u1 v1:Nat)(q r:Vr)(w':Vl):Prop:=
 ∃qN rN n:Nat,q=VU VA qN/\r=VU VA rN/\AD U V un u1 v1 qN rN/\w'=w.drewN n
def Qa(w:Vl)(U V:Nat)(e:Ending)(w':Vl):Prop:=
 ∃q n:Nat,e=VV (VU VA q)/\U<(q+1)*V/\q<=2000000000/\w'=w.drewN n
def Pc{v:List Nat}(hn:2<=v.length):fv v (v.length-1)*B^(v.length-1)<=val v/\(fv v (v.length-1)*B+fv v (v.length-2))*B^(v.length-2)<=val v:=by
 obtain⟨m,hm⟩:∃m,v.length=m+2:=⟨v.length-2,VY⟩;unfold val;rw[hm,bR,bR];show fv v (m+1)*B^(m+1)<=_/\(fv v (m+1)*B+fv v m)*B^m<=_;refine⟨Nat.le_add_left _ _,?_⟩;rw[Nat.pow_succ,Nat.add_mul];have:fv v (m+1)*(B^m*B)=fv v (m+1)*B*B^m:=by rw[VE (B^m),Nat.mul_assoc]
 omega
def Qs{u:List Nat}{j n:Nat}(hu:Small u)(hn:2<=n):
  S (sh (fv u) j) (n+1)<(fv u (j+n)*B+fv u (j+n-1)+1)*B^(n-1)/\
  S (sh (fv u) j) (n+1)<((fv u (j+n)*B+fv u (j+n-1))*B+fv u (j+n-2)+1)*B^(n-2):=by
 obtain⟨m,rfl⟩:∃m,n=m+2:=⟨n-2,VY⟩;have h1:S (sh (fv u) j) (m+1)<B^(m+1):=sB (λk _=>aA hu _);have h0:S (sh (fv u) j) m<B^m:=sB (λk _=>aA hu _);rw[bR,bR (sh (fv u) j) (m+1)];show S (sh (fv u) j) (m+1)+fv u (j+(m+1))*B^(m+1)+fv u (j+(m+2))*B^(m+2)<(fv u (j+(m+2))*B+fv u (j+(m+1))+1)*B^(m+1)/\
  S (sh (fv u) j) (m+1)+fv u (j+(m+1))*B^(m+1)+fv u (j+(m+2))*B^(m+2)<((fv u (j+(m+2))*B+fv u (j+(m+1)))*B+fv u (j+m)+1)*B^m
 generalize fv u (j+(m+2))=a;generalize fv u (j+(m+1))=b;have ea:a*B^(m+2)=a*B*B^(m+1):=by rw[Nat.pow_succ B (m+1),VE (B^(m+1)),Nat.mul_assoc]
 constructor
 ·rw[Nat.add_mul,Nat.add_mul,Nat.one_mul,ea];omega
 ·rw[bR];show S (sh (fv u) j) m+fv u (j+m)*B^m+b*B^(m+1)+a*B^(m+2)<_;generalize fv u (j+m)=c;have e1:((a*B+b)*B+c+1)*B^m=a*B^(m+2)+b*B^(m+1)+c*B^m+B^m:=by
   rw[ea,Nat.pow_succ,Nat.add_mul,Nat.add_mul,Nat.one_mul,Nat.add_mul,Nat.add_mul];have x1:a*B*B*B^m=a*B*(B^m*B):=by rw[Nat.mul_assoc (a*B),VE B (B^m)]
   have x2:b*B*B^m=b*(B^m*B):=by rw[Nat.mul_assoc,VE B (B^m)]
   omega
  rw[e1];omega
def Jg{U V un u1 v1 P:Nat}(hU:U<(un*B+u1+1)*P)(hV:v1*P<=V)(hb:v1<1000000000)(hub:u1<1000000000)(h1:1<=v1)(htop:un<=v1):
  AD U V un u1 v1 ((un*1000000000+u1)/v1) ((un*1000000000+u1)%v1):=by
 obtain⟨t,ht⟩:∃t,un*B+u1=t:=⟨_,rfl⟩;rw[ht] at hU;have ht2:un*1000000000+u1=t:=ht;unfold AD;rw[ht2];have hdm:=Nat.div_add_mod t v1;have hm:=Nat.mod_lt t h1;refine⟨by rw[VE];exact hdm,Ik hU hV ?_,?_,VY⟩
 ·rw[Nat.add_mul,Nat.one_mul,VE];omega
 ·have:t<=2000000000*v1:=VY;exact Nat.div_le_of_le_mul (by rw[VE];exact this)
def Kz{U V un u1 u2 v1 v2 q r P:Nat}(hs:U<((un*B+u1)*B+u2+1)*P)(hv:(v1*B+v2)*P<=V)(hU:U<B*V)(h:AD U V un u1 v1 q r)
  (hc:1000000000<=q\/r*1000000000+u2<q*v2):
  1<=q/\U<(q-1+1)*V/\(q-1)*v1+(r+v1)=un*1000000000+u1:=by
 obtain⟨he,hlt,hq,hr⟩:=h;have h1:1<=q:=by
  rcases hc with hc|hc
  ·omega
  ·rcases Nat.eq_zero_or_pos q with h0|h0
   ·subst h0;omega
   ·exact h0
 refine⟨h1,?_,?_⟩
 ·rw[Nat.sub_add_cancel h1];rcases hc with hc|hc
  ·exact OX hU hc
  ·exact MS he hs hv hc
 ·have:q*v1=(q-1)*v1+v1:=by
   rw[<-Nat.succ_mul,Nat.succ_eq_add_one,Nat.sub_add_cancel h1]
  omega
def Pv{un u1 v1:Nat}(h1:un<1000000000)(h2:u1<1000000000)(h3:1<=v1):
  VA.wrap (((un:Int)*1000000000+u1).tdiv v1)=(((un*1000000000+u1)/v1:Nat):Int):=by
 rw[IntWalk.i64_quo _ _ ⟨VY,VY,VY⟩];simp
def Qf{un u1 v1:Nat}:((un:Int)*1000000000+u1).tmod v1=(((un*1000000000+u1)%v1:Nat):Int):=by
 rw[IntWalk.rem_in _ _ VY];simp
def zj(w:Vl)(g ucap:Nat)(u v:List Nat)(A:Option VM)(vcap j b0:Nat)(hr:Row w g ucap u)(hv:bE w b0 (VQ A v.length vcap) v)(hu:Small u)(hvs:Small v)
  (hn:2<=v.length)(hj:j+v.length<u.length)(_hlen:u.length<=4294967296)(h1:1<=fv v (v.length-1))(htop:fv u (j+v.length)<=fv v (v.length-1))
  (hU:S (sh (fv u) j) (v.length+1)<B*val v):
  VC prog 331 #[VQ (Vq ⟨g,0,Vo⟩) u.length ucap,VQ A v.length vcap,VU VA j] w (Qa w (S (sh (fv u) j) (v.length+1)) (val v)):=by
 have hcap:u.length<=ucap/\ucap<=9223372036854775807:=Xp;obtain⟨A',vcap',e,hv1,hv2,hvc⟩:=hv;injection e with e1 e2 e3
 subst e1 e3;obtain⟨b,off,rfl,_,hvcell⟩:=hvc VY;unfold VJ at hv2;have sg:=Qs (j:=j) hu hn;have vt:=Pc hn;have c0:=hr.cell hj;have c1:=hr.cell (j:=j+v.length-1) VY;have c2:=hr.cell (j:=j+v.length-2) VY;have d1:=hvcell (v.length-1) VY;have d2:=hvcell (v.length-2) VY;have bu0:fv u (j+v.length)<1000000000:=aA hu _;have bu1:fv u (j+v.length-1)<1000000000:=aA hu _;have bu2:fv u (j+v.length-2)<1000000000:=aA hu _;have bv1:fv v (v.length-1)<1000000000:=aA hvs _;have bv2:fv v (v.length-2)<1000000000:=aA hvs _;have hstart:=Vk (Jg sg.1 vt.1 bv1 bu1 h1 htop);have hless:=Vk (λq r=>Kz (q:=q) (r:=r) sg.2 vt.2 hU);clear hvcell hvc hr hU htop hvs hu sg vt;generalize S (sh (fv u) j) (v.length+1)=U at *;generalize val v=V at *;generalize fv u (j+v.length)=un at *;generalize fv u (j+v.length-1)=u1 at *;generalize fv u (j+v.length-2)=u2 at *;generalize fv v (v.length-1)=v1 at *;generalize fv v (v.length-2)=v2 at *;have y1:un<1000000000:=VY;have y2:u1<1000000000:=VY;have y3:1<=v1:=VY;have hv0:¬v1=0:=VY;have x1:(j:Int)+v.length<u.length:=VY;have x2:(j:Int)+v.length-1<u.length:=VY;have x3:0<=(j:Int)+v.length-1:=VY;have x4:0<=(v.length:Int)-1:=VY;have x5:(v.length:Int)-1<v.length:=VY;have w1:VA.wrap ((j:Int)+v.length)=j+v.length:=cD VY VY;have w1b:((j:Int)+v.length).toNat=j+v.length:=VY;have w2:VA.wrap ((j:Int)+v.length-1)=j+v.length-1:=cD VY VY;have w2b:((j:Int)+v.length-1).toNat=j+v.length-1:=VY;have w3:VA.wrap ((un:Int)*1000000000)=un*1000000000:=cD VY VY;have w4:VA.wrap ((un:Int)*1000000000+u1)=un*1000000000+u1:=cD VY VY;have w5:VA.wrap ((v.length:Int)-1)=v.length-1:=cD VY VY;have w5b:((v.length:Int)-1).toNat=v.length-1:=VY;have w6:=Pv (un:=un) (u1:=u1) (v1:=v1) y1 y2 y3;have w7:=Qf (un:=un) (u1:=u1) (v1:=v1);go_enter func331,ntmps331;go_wp2_with fail
 go_quiet (fail)
 go_wp2_with fail
 go_quiet (fail)
 go_wp2_with fail
 clear w1 w1b w2 w2b w3 w4 w6 w7 w5 w5b x1 x2 x3 x4 x5;go_loopw [9,10] (λq r wr=>OJ w U V un u1 v1 q r wr) (λq _ _=>(VG q).toNat)
 case atStart=>exact⟨_,_,_,rfl,rfl,hstart.o,World.drewN_drewN _ _ _⟩
 case round=>
  obtain⟨q,r,n,rfl,rfl,hrel,rfl⟩:=hrel;obtain⟨_,_,hq,hr⟩:=id hrel;have H:=Vk hrel;clear hrel hstart;have p1:=oh hq bv2;by_cases hA:1000000000<=q
  ·have hl:=hless.o q r H.o (.inl hA);have HL:=Vk hl.2;have hq1:=hl.1;clear hl;have hA':(1000000000:Int)<=q:=VY;have x4:0<=(v.length:Int)-1:=VY;have x5:(v.length:Int)-1<v.length:=VY;have e1:(q:Int)-1=((q-1:Nat):Int):=VY;have E1:=Vk e1;clear e1;have hB0:r+v1<1000000000\/¬r+v1<1000000000:=VY;have w8:VA.wrap ((q:Int)-1)=q-1:=cD VY VY;have w9:VA.wrap ((r:Int)+v1)=r+v1:=cD VY VY;have w5:VA.wrap ((v.length:Int)-1)=v.length-1:=cD VY VY;have w5b:((v.length:Int)-1).toNat=v.length-1:=VY;rcases hB0 with hB0|hB0
   ·have hB:(r:Int)+v1<1000000000:=VY;have hB2:decide ((1000000000:Int)<=(r:Int)+v1)=Vp:=Wa;go_wp2_with fail
    go_quiet (fail)
    go_wp2_with fail
    go_quiet (fail)
    clear w8 w9 w5 w5b;exact XZ
   ·have hB:(1000000000:Int)<=(r:Int)+v1:=VY;have hB2:decide ((1000000000:Int)<=(r:Int)+v1)=Vv:=Wa;go_wp2_with fail
    go_quiet (fail)
    go_wp2_with fail
    go_quiet (fail)
    clear w8 w9 w5 w5b;exact XY
  ·by_cases hC:r*1000000000+u2<q*v2
   ·have hl:=hless.o q r H.o (.inr hC);have HL:=Vk hl.2;have hq1:=hl.1;clear hl;have hC':(r:Int)*1000000000+u2<(q:Int)*v2:=by
     have:((q*v2:Nat):Int)=(q:Int)*v2:=V5;omega
    have x4:0<=(v.length:Int)-1:=VY;have x5:(v.length:Int)-1<v.length:=VY;have x6:0<=(v.length:Int)-2:=VY;have x7:(v.length:Int)-2<v.length:=VY;have x8:0<=(j:Int)+v.length-2:=VY;have x9:(j:Int)+v.length-2<u.length:=VY;have hr':(r:Int)<1000000000:=VY;have hA1:decide ((1000000000:Int)<=q)=Vp:=Wa;have y6:((v.length:Int)-2).toNat=v.length-2:=VY;have y8:((j:Int)+v.length-2).toNat=j+v.length-2:=VY;have w10:VA.wrap ((v.length:Int)-2)=v.length-2:=cD VY VY;have w11:VA.wrap ((j:Int)+v.length)=j+v.length:=cD VY VY;have w12:VA.wrap ((j:Int)+v.length-2)=j+v.length-2:=cD VY VY;have w13:VA.wrap ((q:Int)*v2)=q*v2:=cD VY VY;have w14:VA.wrap ((r:Int)*1000000000)=r*1000000000:=cD VY VY;have w15:VA.wrap ((r:Int)*1000000000+u2)=r*1000000000+u2:=cD VY VY;have e1:(q:Int)-1=((q-1:Nat):Int):=VY;have E1:=Vk e1;clear e1;have hB0:r+v1<1000000000\/¬r+v1<1000000000:=VY;have w8:VA.wrap ((q:Int)-1)=q-1:=cD VY VY;have w9:VA.wrap ((r:Int)+v1)=r+v1:=cD VY VY;have w5:VA.wrap ((v.length:Int)-1)=v.length-1:=cD VY VY;have w5b:((v.length:Int)-1).toNat=v.length-1:=VY;rcases hB0 with hB0|hB0
    ·have hB:(r:Int)+v1<1000000000:=VY;have hB2:decide ((1000000000:Int)<=(r:Int)+v1)=Vp:=Wa;go_wp2_with fail
     go_quiet (fail)
     go_wp2_with fail
     go_quiet (fail)
     clear w8 w9 w5 w5b w10 w11 w12 w13 w14 w15 y6 y8;exact XZ
    ·have hB:(1000000000:Int)<=(r:Int)+v1:=VY;have hB2:decide ((1000000000:Int)<=(r:Int)+v1)=Vv:=Wa;go_wp2_with fail
     go_quiet (fail)
     go_wp2_with fail
     go_quiet (fail)
     clear w8 w9 w5 w5b w10 w11 w12 w13 w14 w15 y6 y8;exact XY
   ·have hC':¬(r:Int)*1000000000+u2<(q:Int)*v2:=by
     have:((q*v2:Nat):Int)=(q:Int)*v2:=V5;omega
    have hC2:decide ((r:Int)*1000000000+u2<(q:Int)*v2)=Vp:=Wa;have x4:0<=(v.length:Int)-1:=VY;have x5:(v.length:Int)-1<v.length:=VY;have x6:0<=(v.length:Int)-2:=VY;have x7:(v.length:Int)-2<v.length:=VY;have x8:0<=(j:Int)+v.length-2:=VY;have x9:(j:Int)+v.length-2<u.length:=VY;have hr':(r:Int)<1000000000:=VY;have hA1:decide ((1000000000:Int)<=q)=Vp:=Wa;have y6:((v.length:Int)-2).toNat=v.length-2:=VY;have y8:((j:Int)+v.length-2).toNat=j+v.length-2:=VY;have w10:VA.wrap ((v.length:Int)-2)=v.length-2:=cD VY VY;have w11:VA.wrap ((j:Int)+v.length)=j+v.length:=cD VY VY;have w12:VA.wrap ((j:Int)+v.length-2)=j+v.length-2:=cD VY VY;have w13:VA.wrap ((q:Int)*v2)=q*v2:=cD VY VY;have w14:VA.wrap ((r:Int)*1000000000)=r*1000000000:=cD VY VY;have w15:VA.wrap ((r:Int)*1000000000+u2)=r*1000000000+u2:=cD VY VY;go_wp2_with fail
    go_quiet (fail)
    clear w10 w11 w12 w13 w14 w15 y6 y8;go_wp2_with fail
    go_ret;exact⟨q,_,rfl,H.o.2.1,VY,WS⟩
end
section
open Kp
def dS:(prog.info? 3).map (λi=>(i.zero,i.size,i.bytes))=Vq (Vq (VU VA 0),1,8):=VZ
def tQ{w:Vl}{base g cap n:Nat}{xs:List Vr}{l:List Nat}(h:w.ownsRow base 3 1 (VQ (Vq ⟨g,0,Vo⟩) n cap) n xs)(hn:l.length=n)
  (hx:∀j,j<l.length->xs[j]?=Vq (VU VA (fv l j))):Row w g cap l:=by
 obtain⟨hl,h|⟨g',cap',cur,e,hb,hh,h1,h2,h3,h4⟩⟩:=h
 ·obtain⟨h,_⟩:=h;cases h
 ·injection e with e1 e2 e3
  injection e1 with e1
  injection e1 with e1
  subst e1 e3;refine⟨cur,hh,VY,VY,h2,λj hj=> ?_⟩;have:=hx j hj;rw[<-h4,List.getElem?_take,if_pos VY] at this;exact Ya
def Ez{w:Vl}{base g cap:Nat}{l:List Nat}(h:Row w g cap l)(hb:base<=g):
  w.ownsRow base 3 1 (VQ (Vq ⟨g,0,Vo⟩) l.length cap) l.length (l.map λ(d:Nat)=>Value.int .i64 (d:Int)):=by
 obtain⟨cur,hh,h1,h2,h3,hc⟩:=h;refine⟨V5,.inr ⟨g,cap,cur,rfl,hb,hh,h2,h3,VY,?_⟩⟩;apply List.ext_getElem?;intro j;rw[List.getElem?_take];by_cases hj:j<l.length
 ·rw[if_pos VY,List.getElem?_map,Vt hj];have:=hc j hj;rw[lP hj] at this;exact Ya
 ·rw[if_neg VY,List.getElem?_map,List.getElem?_eq_none VY];rfl
def me(n k:Nat):fv (List.replicate n 0) k=0:=by
 unfold fv;rw[Vn,List.getElem?_replicate];split <;>rfl
def rz(n:Nat):Small (List.replicate n 0):=by
 intro d hd;rw[List.eq_of_mem_replicate hd];decide
def lk{w:Vl}{base g n:Nat}(h:w.ownsRow base 3 1 (VQ (Vq ⟨g,0,Vo⟩) n n) n (madeCells (Value.int .i64 0).cells (n*1)).toList):Row w g n (List.replicate n 0):=by
 refine tQ h V5 (λj hj=> ?_);simp at hj;rw[me];simp[madeCells,Value.cells,hj,Nat.mod_one]
def aR(l:List Nat):(az l).length<=l.length:=by
 obtain⟨m,hm⟩:=qy l;have:=congrArg List.length hm;simp at this;omega
def vR{l:List Nat}{j:Nat}(hj:j<(az l).length):fv (az l) j=fv l j:=by
 obtain⟨m,hm⟩:=qy l;have hl:=aR l;have:l[j]?=(az l)[j]?:=by
  have e:l[j]?=(az l++List.replicate m 0)[j]?:=by rw[<-hm]
  rw[e,List.getElem?_append_left hj]
 unfold fv;rw[Vn,Vn,this]
def Row.trimmed{w:Vl}{g cap:Nat}{l:List Nat}(h:Row w g cap l):Row w g cap (az l):=by
 have hl:=aR l;obtain⟨cur,hh,h1,h2,h3,hc⟩:=h;exact⟨cur,hh,h1,VY,h3,λj hj=>by rw[vR hj];exact hc j VY⟩
def kH{w:Vl}{g cap n:Nat}{l:List Nat}(h:Row w g cap l)(hn:l.length=n):
  VC prog 326 #[VQ (Vq ⟨g,0,Vo⟩) n cap] w λe w'=>e=VV (VQ (Vq ⟨g,0,Vo⟩) (az l).length cap)/\w=w':=by
 subst hn;have h':=h;obtain⟨cur,hh,h1,h2,h3,hc⟩:=h;exact DZ w _ cap l h2 h3 (λ_=>⟨g,0,rfl,λj hj=>by rw[Nat.zero_add];exact h'.cell hj⟩)
def qA(w1:Vl)(g n:Nat)(a b:List Nat)(i:Nat)(out:List Nat)(w':Vl):Prop:=
 Row w' g n out/\out.length=n/\Small out/\(∀k,i+b.length<=k->fv out k=0)/\S (fv out) n=S (fv a) i*val b/\dO g w1 w'
def JL(w1:Vl)(g n:Nat)(a b:List Nat)(i:Vr)(w':Vl):Prop:=
 ∃(k:Nat) (out:List Nat),k<=a.length/\i=VU VA k/\qA w1 g n a b k out w'
def Qd(w0:Vl)(g cap:Nat)(u v:List Nat)(j q:Nat)(c i:Vr)(w':Vl):Prop:=
 ∃(k cN:Nat) (u':List Nat),k<=v.length+1/\i=VU VA k/\c=VU VA cN/\kY w0 g cap u v j q k cN u' w'
def Hw{w1 wo wr:Vl}{g n:Nat}{a b out out':List Nat}{i c:Nat}(hn:n=a.length+b.length+1)(hi:i<a.length)(ha:Small a)(hb:Small b)(h:qA w1 g n a b i out wo)
  (hr:kY wo g n out b i (fv a i) (b.length+1) c out' wr):qA w1 g n a b (i+1) out' wr:=by
 obtain⟨hR,hl,hS,hz,he,hO⟩:=h;obtain⟨hR',hl',hS',hsame,he',hc,hO'⟩:=hr;have hx:fv a i<B:=aA ha i;have hV:S (fv b) (b.length+1)=val b:=j2 VY;have hO1:S (sh (fv out) i) (b.length+1)<B^b.length:=by
  rw[bR];have:sh (fv out) i b.length=0:=hz _ VY;rw[this,Nat.zero_mul,Nat.add_zero];exact sB (λk _=>aA hS _)
 rw[hV,Nat.pow_succ] at he';have hc0:=BN he' hO1 (q9 hb) hx;subst hc0;have ht:=Fo (f:=fv out) (g:=fv out') (m:=n) (j:=i) (n:=b.length+1) VY (λk hk=>hsame k (.inl hk)) (λk hk _=>hsame k (.inr hk));refine⟨hR',VY,hS',λk hk=> ?_,?_,hO.trans hO'⟩
 ·rw[hsame k (.inr VY)];exact hz k VY
 ·rw[bR (fv a),Nat.add_mul,<-he];have e1:S (sh (fv out') i) (b.length+1)=S (sh (fv out) i) (b.length+1)+fv a i*val b:=VY;rw[e1,Nat.mul_add] at ht;have e2:B^i*(fv a i*val b)=fv a i*B^i*val b:=by rw[<-Nat.mul_assoc,VE (B^i)]
  omega
def Jd(w0 w:Vl)(v:Vr)(l:List Nat):Prop:=
 ∃g cap,v=VQ (Vq ⟨g,0,Vo⟩) l.length cap/\w0.heap.size<=g/\Row w g cap l
def xh(w:Vl)(a b:List Nat)(e:Ending)(w':Vl):Prop:=
 ∃v l,e=VV v/\Jd w w' v l/\Canon l/\val l=val a*val b/\l.length<=a.length+b.length+1/\VL w.heap.size w w'
def rj(w:Vl)(a b:List Nat)(va vb:Vr)(ha:bE w w.heap.size va a)(hb:bE w w.heap.size vb b)(hsa:Small a)(hsb:Small b)(hla:a.length<=1000000)(hlb:b.length<=1000000):
  VC prog 329 #[va,vb] w (xh w a b):=by
 obtain⟨A,ca,rfl,ha1,ha2,hac⟩:=id ha;obtain⟨A',cb,rfl,hb1,hb2,hbc⟩:=id hb;unfold VJ at ha2 hb2;obtain⟨i0,hi,hz0,hz1,hz2⟩:=info_parts dS;go_enter func329,ntmps329;go_wp2_with(at_make;refine wpList_make_full _ rfl _ _ 25 rfl w.heap.size 3 i0 (VU VA 0) 1 underlying25 hi hz0 hz1 .i64 .i64 _ _ (a.length+b.length+1) rfl rfl VY VY XF Wc (Vm _) ?_;intro w1 hown hgrow)
 have hrow:=lk hown;have hbel:VL w.heap.size w w1:=(Below.refl _ w).grown hgrow (Vm _) V5;have sa1:=ha.below hbel;have sb1:=hb.below hbel;have hstart:qA w1 w.heap.size (a.length+b.length+1) a b 0 (List.replicate (a.length+b.length+1) 0) w1:=
  ⟨hrow,V5,rz _,λ_ _=>me _ _,by rw[q8 (λk _=>me _ k),GI,Nat.zero_mul],dO.refl _ _⟩
 clear hown hgrow hrow ha hb hi hz0 hz1 hz2 hac hbc;go_loopw [20] (λi wr=>JL w1 w.heap.size (a.length+b.length+1) a b i wr) (λi _=>a.length-(VG i).toNat)
 case atStart=>exact⟨0,_,VY,rfl,hstart⟩
 case round=>
  obtain⟨i,out,hi,rfl,hrel⟩:=hrel;clear hstart;obtain⟨wo,rfl⟩:∃wo:Vl,wo=wr:=⟨_,rfl⟩;obtain⟨hR,hl,hS,hz,he,hO⟩:=id hrel;by_cases hlt:i<a.length
  ·have sa:=hO.sl sa1 (Vm _);have sb:=hO.sl sb1 (Vm _);have hxb:fv a i<1000000000:=aA hsa i;have h0:kY wo w.heap.size (a.length+b.length+1) out b i (fv a i) 0 0 out wo:=⟨hR,rfl,hS,λ_ _=>rfl,by simp[S],VY,dO.refl _ _⟩;obtain⟨_,_,e,_,_,hac⟩:=sa;injection e with e1 e2 e3
   subst e1 e3;obtain⟨ba,oa,rfl,_,hcell⟩:=hac VY;have hc:=hcell i hlt;have H:=Vk hrel;clear hcell hac hrel he hz hR hO sa1 sb1;go_wp2_with fail
   go_loopw [8,28] (λc k wi=>Qd wo w.heap.size (a.length+b.length+1) out b i (fv a i) c k wi) (λ_ k _=>b.length+1-(VG k).toNat)
   case atStart=>exact⟨0,0,out,VY,rfl,rfl,h0⟩
   case round=>
    obtain⟨k,c,u',hk,rfl,rfl,hin⟩:=hrel;clear h0;obtain⟨hR,hl',hS',hsame,heq,hc',hO⟩:=id hin;by_cases hkl:k<b.length+1
    ·have hx:=hR.cell (j:=i+k) VY;have hfr:=hR.frozen (i+k);have hub:fv u' (i+k)<1000000000:=aA hS' (i+k);have hvb:fv b k<1000000000:=aA hsb k;obtain⟨hp0,lD⟩:=oh (q:=fv a i) VY hvb;have hsv:=hO.sl sb (Vm _);have w1:VA.wrap ((i:Int)+k)=i+k:=cD VY VY;have w1a:0<=(i:Int)+k:=VY;have w1b:((i:Int)+k).toNat=i+k:=VY;have w1c:(i:Int)+k<a.length+b.length+1:=VY;have w3:VA.wrap ((fv a i:Int)*(fv b k:Int))=fv a i*fv b k:=cD VY VY;have w2:VA.wrap ((fv u' (i+k):Int)+(fv a i:Int)*(fv b k:Int))=fv u' (i+k)+fv a i*fv b k:=cD VY VY;have w4:VA.wrap ((fv u' (i+k):Int)+(fv a i:Int)*(fv b k:Int)+c)=fv u' (i+k)+fv a i*fv b k+c:=cD VY VY;have HI:=Vk hin;clear hin heq hsame hl' hS' hR hO;go_wp2_with fail
     go_quiet ((go_at_call 346;exact Calls.quiet_of_same (Ev _ w.heap.size _ b k hsv VY)))
     go_wp2;have ep:((fv a i:Int)*(fv b k:Int))=((fv a i*fv b k:Nat):Int):=V5;rw[ep] at lD⊢;have e1:((fv u' (i+k):Int)+((fv a i*fv b k:Nat):Int)+c)/1000000000=(((fv u' (i+k)+fv a i*fv b k+c)/1000000000:Nat):Int):=VY;have e2:((fv u' (i+k):Int)+((fv a i*fv b k:Nat):Int)+c)%1000000000=(((fv u' (i+k)+fv a i*fv b k+c)%1000000000:Nat):Int):=VY;rw[e1,e2];exact⟨⟨k+1,_,_,VY,by go_num,rfl,yf nq HI.o VY VY VY VY⟩,V7⟩
    ·obtain rfl:k=b.length+1:=VY;have hnext:=Vk (Hw rfl hlt hsa hsb H.o hin);clear hin heq hsame hl' hS' hR hO;go_wp2_with fail
     exact⟨⟨i+1,u',VY,by go_num,hnext.o⟩,V7⟩
  ·obtain rfl:i=a.length:=VY;have hfin:xh w a b (VV (VQ (Vq ⟨w.heap.size,0,Vo⟩) (az out).length (a.length+b.length+1))) wo:=by
    refine⟨_,az out,rfl,⟨_,_,rfl,Vm _,?_⟩,ei hS,?_,?_,hbel.trans (hO.below (Vm _))⟩
    ·exact hR.trimmed
    ·rw[gR];show S (fv out) out.length=S (fv a) a.length*val b;rw[hl,he]
    ·exact VB (aR _) VY
   have HF:=Vk hfin;have HT:=Vk (kH hR hl);clear hfin hrel he hz hR hO sa1 sb1 hl;go_wp2_with(go_at_call 326;refine HT.o.mono ?_;rintro e w' ⟨rfl,rfl⟩)
   go_ret;exact HF.o
end
section
structure aE(n0:Nat)(W W':Vl):Prop where
 os:W'.os=W.os
 tape:W'.tape=W.tape
 output:W'.output=W.output
 size:W.heap.size<=W'.heap.size
 low:∀b,b<n0->W'.heap[b]?=W.heap[b]?
 cells:∀(b:Nat) (cs:Array Vr) (t:VK) (m:Nat×Nat),W.heap[b]?=Vq (Obj.cells cs t m)->W'.heap[b]?=Vq (Obj.cells cs t m)
def aE.be{n0:Nat}{W W':Vl}(h:VL W.heap.size W W')(hn:n0<=W.heap.size):aE n0 W W':=
 ⟨h.os,h.tape,h.output,h.size,λb hb=>h.block b VY,λb cs t m hb=>(h.block b (Vz.1 hb).1).trans hb⟩
def aE.putObj{n0 l:Nat}{W:Vl}{o:Obj}(o':Obj)(hl:W.heap[l]?=Vq o)(ho:o.isCells=Vp)(hn:n0<=l):aE n0 W (W.putObj l o'):=
 ⟨rfl,rfl,rfl,V5,λb hb=>World.putObj_heap_other VY,λb cs t m hb=>(World.putObj_heap_other (λe=>by subst e;rw[hb] at hl;cases hl;cases ho)).trans hb⟩
def aE.trans{n0:Nat}{A B C:Vl}(h:aE n0 A B)(k:aE n0 B C):aE n0 A C:=
 ⟨k.os.trans h.os,k.tape.trans h.tape,k.output.trans h.output,VB h.size k.size,λb hb=>(k.low b hb).trans (h.low b hb),λb cs t m hb=>k.cells b cs t m (h.cells b cs t m hb)⟩
def aE.below{n0:Nat}{W W':Vl}(h:aE n0 W W'):VL n0 W W':=⟨h.os,h.tape,h.output,h.size,h.low⟩
def aE.cell{n0:Nat}{W W':Vl}(h:aE n0 W W'){p:VM}{v:Vr}(hc:W.cell? p=Vq v):W'.cell? p=Vq v:=by
 unfold World.cell? at hc⊢;cases ho:W.heap[p.block]? with
 |none=>rw[ho] at hc;simp at hc
 |some o=>
  cases o with
  |cells cs t m=>rw[ho] at hc;rw[h.cells _ _ _ _ ho];exact hc
  |_=>rw[ho] at hc;simp at hc
def DX(P:Program)(g:Nat)(lb:Array Vr)(X:Nat->Array Vr->Prop)(M:Vl->Prop)(N:Nat):Prop:=
 ∀(m l:Nat) (J Jx:Nat->Vl->Prop) (W:Vl),
  (∀k W1,J k W1->M W1)->(∀k W1 W2,J k W1->VL W1.heap.size W1 W2->J k W2)->(∀k W1 W2,Jx k W1->VL W1.heap.size W1 W2->Jx k W2)->
  (∀k x W1,k<N->X k x->J k W1->YieldAt Fence.wide (m-1) P l x W1 λe W'=>(e=VV (VS Vv)/\J (k+1) W')\/(e=VV (VS Vp)/\Jx k W'))->
  J 0 W->CallsIn Fence.wide m P g (#[.func (.yield l) #[] #[]]++lb) W λe W'=>(∃v,e=VV v)/\(J N W'\/∃k,k<N/\Jx k W')
def mf(I:Nat->Vl->Prop)(Ix:Code->Nat->Vl->Prop)(k:Nat)(W:Vl):Exit->Act->Vl->Prop
 | .normal,_,W'=>KeepsOthers W W'/\I (k+1) W'
 | .ret,_,W'=>KeepsOthers W W'/\Ix .ret k W'
 | .exit id,_,W'=>KeepsOthers W W'/\Ix (.exit id) k W'
 | .goto t,_,W'=>KeepsOthers W W'/\Ix (.goto t) k W'
 | .panic _,_,_=>False
 | .outgrown,_,_=>False
variable {P : Program}
def fe{n:Nat}{g:Operand}{ps:Array Tmp}{assign body:Code}{Q:Exit->Act->Vl->Prop}{a:Act}{w:Vl}
  {gf:Nat}{lb:Array Vr}(hg:a.eval g= .func (.func gf) #[] lb)(eg:∀args w,(callFunc gf args).run P w= .ok (.enter gf args) w)
  {X:Nat->Array Vr->Prop}{M:Vl->Prop}{N:Nat}(hseq:DX P gf lb X M N)(hps:∀k x,X k x->x.size=ps.size)
  (I:Nat->Vl->Prop)(Ix:Code->Nat->Vl->Prop)(hI:∀k W W',I k W->aE w.heap.size W W'->I k W')(hIx:∀c k W W',Ix c k W->aE w.heap.size W W'->Ix c k W')
  (hM:∀k W,I k W->M W)(h0:I 0 w)
  (hround:∀(l k:Nat) (x:Array Vr) (W:Vl) (K:Act->Vl->Prop),k<N->X k x->I k W->
   (∀a',(∀W2,I k W2->w.heap.size<W2.heap.size->body.wpIn (Fence.wide.inRound l) (n-1-1) P (mf I Ix k W2) a' W2)->K a' W)->
   assign.wpIn (Fence.wide.inRound l) (n-1-1) P (Exit.then K (λ_ _ _=>False)) {tmps:=(ps.zip x).foldl (λt (p,v)=>t.setIfInBounds p v) a.tmps,defers:=[]} W)
  (hdone:∀(D:Nat) (W:Vl),w.heap.size<=D->I N W->W.heap[D]?=Vq (.deferred (Vq []))->Q .normal {a with defers:={target:= .collected D,args:=#[]}::a.defers} W)
  (hstop:∀(D:Nat) (c:Code) (k:Nat) (W:Vl),w.heap.size<=D->k<N->Ix c k W->W.heap[D]?=Vq (.deferred (Vq []))->c.wpIn Fence.wide n P Q {a with defers:={target:= .collected D,args:=#[]}::a.defers} W):
  (Code.rangeFunc g ps assign body).wpIn Fence.wide n P Q a w:=by
 refine wpIn_rangeFunc ?_;intro fn hfn;obtain⟨R,hR⟩:∃R:LoopState->Option Code->Loop,R=λst pe=>{state:=st,pending:=pe,fn,tmps:=a.tmps,params:=ps,assign,body,defers:=w.heap.size}:=⟨_,rfl⟩
 obtain⟨W1,hW1⟩:∃W1,(w.alloc (.deferred (Vq []))).alloc (.loop (R .ready Vo))=W1:=⟨_,rfl⟩;have hL:W1.heap[w.heap.size+1]?=Vq (.loop (R .ready Vo)):=by
  exact Yh
 have hD:W1.heap[w.heap.size]?=Vq (.deferred (Vq [])):=by
  rw[<-hW1];exact(Below.heap_alloc _ _ _ V5).trans (Vy w _)
 have hb1:VL w.heap.size w W1:=by rw[<-hW1];exact((Below.refl _ w).alloc (Vm _) _).alloc V5 _
 have hI1:I 0 W1:=hI 0 _ _ h0 (aE.be hb1 (Vm _));refine⟨w.heap.size+1,[{target:= .collected w.heap.size,args:=#[]}],W1,{target:= .fn (.func gf) lb,args:=#[.func (.yield (w.heap.size+1)) #[] #[]]},W1,gf,
  #[.func (.yield (w.heap.size+1)) #[] #[]]++lb,W1,?_,?_,?_,?_,?_,?_⟩
 ·rw[<-hW1,hR];exact run_enterLoop_outer _ _ _ _ _
 ·simp only[resolve,hg];simp[go_sem]
 ·intro _ _;trivial
 ·simp[invoke,go_sem,eg]
 ·intro h;cases h
 ·have recKeep:∀{A C:Vl} {st:LoopState} {pe:Option Code},A.heap[w.heap.size+1]?=Vq (.loop (R st pe))->VL A.heap.size A C->C.heap[w.heap.size+1]?=Vq (.loop (R st pe)):=
   λh hb=>(hb.block _ (Vz.1 h).1).trans h
  have defKeep:∀{A C:Vl},A.heap[w.heap.size]?=Vq (.deferred (Vq []))->VL A.heap.size A C->C.heap[w.heap.size]?=Vq (.deferred (Vq [])):=
   λh hb=>(hb.block _ (Vz.1 h).1).trans h
  refine(hseq (n-1) (w.heap.size+1)
   (λk W=>I k W/\W.heap[w.heap.size+1]?=Vq (.loop (R .ready Vo))/\W.heap[w.heap.size]?=Vq (.deferred (Vq [])))
   (λk W=>∃c,Ix c k W/\W.heap[w.heap.size+1]?=Vq (.loop (R .done (Vq c)))/\W.heap[w.heap.size]?=Vq (.deferred (Vq [])))
   W1 (λk W h=>hM k W h.1)
   (λk A C h hb=>⟨hI k _ _ h.1 (aE.be hb (by have:=(Vz.1 h.2.2).1;omega)),recKeep h.2.1 hb,defKeep h.2.2 hb⟩)
   (λk A C h hb=>by
    obtain⟨c,h1,h2,h3⟩:=h;exact⟨c,hIx c k _ _ h1 (aE.be hb (by have:=(Vz.1 h3).1;omega)),recKeep h2 hb,defKeep h3 hb⟩)
   ?_ ⟨hI1,hL,hD⟩).mono ?_
  ·rintro k x W hk hx ⟨hi,hl,hd⟩;have hlt:w.heap.size+1<W.heap.size:=(Vz.1 hl).1;have hy:=run_yield (P:=P) (args:=x) hl (by rw[hR];exact hps k x hx);rw[hR] at hy;refine⟨fn,_,assign,body,hy,roundIn_of_wpIn hfn (hround _ k x W _ hk hx hi λa' hbody=>⟨_,run_beginRound hl (by rw[hR]),?_⟩)⟩;obtain⟨W2,hW2⟩:∃W2,W.putObj (w.heap.size+1) (.loop {R .ready Vo with state:= .busy})=W2:=⟨_,rfl⟩;rw[hW2];have hl2:W2.heap[w.heap.size+1]?=Vq (.loop {R .ready Vo with state:= .busy}):=by rw[<-hW2];exact World.putObj_heap_same hlt
   have hd2:W2.heap[w.heap.size]?=Vq (.deferred (Vq [])):=by rw[<-hW2];exact(World.putObj_heap_other VY).trans hd
   have hi2:I k W2:=by rw[<-hW2];exact hI k _ _ hi (aE.putObj _ hl rfl VY)
   refine wpIn_mono (hbody W2 hi2 (by have:=(Vz.1 hl2).1;omega)) ?_;have fin:∀(jump:Option Code) (W3:Vl),KeepsOthers W2 W3->∃W4,(Instr.endRound (w.heap.size+1) jump).run P W3= .ok (VS jump.isNone) W4/\aE w.heap.size W3 W4/\
     W4.heap[w.heap.size+1]?=Vq (.loop (R (if jump.isNone then .ready else .done) jump))/\W4.heap[w.heap.size]?=Vq (.deferred (Vq [])):=λjump W3 hk3=>by
    have hl3:=hk3.same _ _ hl2 rfl;have hr:=run_endRound (P:=P) jump hl3;refine⟨_,hr,aE.putObj _ hl3 rfl VY,?_,(World.putObj_heap_other VY).trans (hk3.same _ _ hd2 rfl)⟩;rw[World.putObj_heap_same (Vz.1 hl3).1,hR]
   rintro e a3 W3 hp;cases e with
   |normal=>
    exact Yg
   |ret=>
    exact Yf
   |exit id=>
    exact Ye
   |goto t=>
    exact Yd
   |panic ch=>exact hp.elim
   |outgrown=>exact hp.elim
  ·rintro e W2 ⟨⟨v,rfl⟩,(⟨hi,hl,hd⟩|⟨k,hk,c,hi,hl,hd⟩)⟩
   ·exact Yc
   ·exact Yb
end
section
attribute [local go_sem] Oper.semAt_some
def GK(Bs:Nat)(A:Option VM)(n cap:Nat)(Y:Nat->Int->Prop)(W:Vl):Prop:=
 W.cell? ⟨Bs,0,Vo⟩=Vq (VQ A n cap)/\(0<n->∃b off,A=Vq ⟨b,off,Vo⟩/\∀j,j<n->∃x:Int,W.cell? ⟨b,off+j,Vo⟩=Vq (VU VA x)/\Y j x)
def TX(n:Nat)(Y:Nat->Int->Prop)(k:Nat)(x:Array Vr):Prop:=∃v:Int,Y (n-1-k) v/\x=#[VU VA ((n-1-k:Nat):Int),VU VA v]
def fQ(Bs:Nat)(A:Option VM)(n cap:Nat)(Y:Nat->Int->Prop)(hn:n<=4294967296):
  DX prog 347 #[VT (Vq ⟨Bs,0,Vo⟩)] (TX n Y) (GK Bs A n cap Y) n:=by
 intro m l J Jx W hM hJ hJx hY h0;refine callsIn_of_wp func347 rfl trivial ?_ rfl;have hc0:=(hM 0 W h0).1;simp only[ntmps347,List.size_toArray,List.length_cons,List.length_nil,Nat.reduceAdd,Nat.reduceSub,Array.replicate_succ,Array.replicate_zero,List.push_toArray,List.append_toArray,List.nil_append,List.cons_append]
 gi_wp2
 gi_loopw [3] (λi wr=>∃k:Nat,k<=n/\i=VU VA ((n:Int)-1-k)/\J k wr) (λi _=>(VG i+1).toNat)
 case atStart=>exact⟨0,VY,V5,h0⟩
 case round=>
  obtain⟨k,hk,rfl,hj⟩:=hrel;obtain⟨hc,hcs⟩:=hM k wr hj;by_cases hlt:k<n
  ·obtain⟨b,off,rfl,hcell⟩:=hcs VY;obtain⟨x,hx,hYx⟩:=hcell (n-1-k) VY;obtain⟨fn,tmps,assign,body,hy,hR⟩:=hY k _ wr hlt ⟨x,hYx,rfl⟩ hj;have e1:((n-1-k:Nat):Int)=(n:Int)-1-k:=VY;rw[e1] at hy;have e2:((n:Int)-1-k).toNat=n-1-k:=VY;have e3:0<=(n:Int)-1-k:=VY;have e4:(n:Int)-1-k<n:=VY;have e5:decide ((k:Int)<=(n:Int)-1)=Vv:=Wa;clear hcell hcs e1
   gi_wp2
   refine⟨λh=>V6,hR.mono ?_⟩;rintro e W3 (⟨rfl,hJ3⟩|⟨rfl,hJx3⟩)
   ·gi_wp2
    go_roundw
    case rel=>exact⟨k+1,VY,Wa,hJ3⟩
    case measure=>simp[VG];omega
   ·gi_wp2
    refine bodyPost_ret (results_none rfl _ _ _) rfl ?_;exact⟨⟨_,rfl⟩,.inr ⟨k,hlt,hJx3⟩⟩
  ·obtain rfl:k=n:=VY;have e1:¬(0<=(k:Int)-1-k):=VY;exact Yi
def ir(w:Vl)(A:Option VM)(n cap:Nat):
  VC prog 330 #[VQ A n cap] w λe w'=>e=VV (.func (.func 347) #[] #[VT (Vq ⟨w.heap.size,0,Vo⟩)])/\w'=w.alloc (.cells #[VQ A n cap] 25):=by
 go_enter func330,ntmps330;go_wp2;go_ret;exact⟨rfl,rfl⟩
end
section
open Kp
attribute [local go_sem] Oper.semAt_some
def Qo(w:Vl)(x y z:Obj):(((w.alloc x).alloc y).alloc z).heap[w.heap.size]?=Vq x:=by
 rw[Below.heap_alloc _ _ _ Wa,Below.heap_alloc _ _ _ V5];exact Vy w x
def GX(w:Vl)(x y z:Obj):(((w.alloc x).alloc y).alloc z).heap[w.heap.size+1]?=Vq y:=by
 rw[Below.heap_alloc _ _ _ V5];have:=Vy (w.alloc x) y;rwa[VF] at this
def Qh(w:Vl)(x y z:Obj):(((w.alloc x).alloc y).alloc z).heap[w.heap.size+2]?=Vq z:=by
 have:=Vy ((w.alloc x).alloc y) z;rwa[VF,VF] at this
def qV(w:Vl)(x y z:Obj):VL w.heap.size w (((w.alloc x).alloc y).alloc z):=
 (((Below.refl _ _).alloc (Vm _) _).alloc V5 _).alloc Wa _
def Ab(w:Vl)(a b:List Nat)(e:Ending)(w':Vl):Prop:=
 ∃c:Int,e=VV (VU VA c)/\(c<0↔val a<val b)/\(0<c↔val b<val a)/\VL w.heap.size w w'
def Qr{a b:List Nat}(ha:Canon a)(hb:Canon b)(h:a.length≠b.length):
  ((a.length:Int)-b.length<0↔val a<val b)/\(0<(a.length:Int)-b.length↔val b<val a):=by
 rcases Nat.lt_or_gt_of_ne h with h|h
 ·have:=bP ha.small hb.trim h;exact Yj
 ·have:=bP hb.small ha.trim h;exact Yj
def Sy{a b:List Nat}{i:Nat}(ha:Canon a)(hb:Canon b)(hl:a.length=b.length)(hi:i<a.length)(hs:∀k,i<k->k<a.length->fv a k=fv b k)(hne:fv a i≠fv b i):
  ((fv a i:Int)-fv b i<0↔val a<val b)/\(0<(fv a i:Int)-fv b i↔val b<val a):=by
 unfold val;rw[<-hl];rcases Nat.lt_or_gt_of_ne hne with h|h
 ·have:=Ro hi (λk _=>aA ha.small k) hs h;exact Yj
 ·have:=Ro hi (λk _=>aA hb.small k) (λk h1 h2=>(hs k h1 h2).symm) h;exact Yj
def Lp{a b:List Nat}(hl:a.length=b.length)(hs:∀k,k<a.length->fv a k=fv b k):val a=val b:=by
 unfold val;rw[<-hl];exact dV hs
def AA(w:Vl)(a b:List Nat)(va vb:Vr)(ha:bE w w.heap.size va a)(hb:bE w w.heap.size vb b)(hca:Canon a)(hcb:Canon b)(hne:a.length≠b.length):
  VC prog 327 #[va,vb] w (Ab w a b):=by
 have hc:=Vk (Qr hca hcb hne);obtain⟨A,ca,rfl,ha1,ha2,hac⟩:=ha;obtain⟨A',cb,rfl,hb1,hb2,hbc⟩:=hb;unfold VJ at ha2 hb2;clear hac hbc;have hne':((a.length:Int) !=b.length)=Vv:=WW;clear hne;go_enter func327,ntmps327;go_wp2;exact bodyPost_ret (v:= VU VA ((a.length:Int)-b.length)) (by simp[results,results327,go_sem]) rfl ⟨_,rfl,hc.o.1,hc.o.2,by exact((Below.refl _ _).alloc (Vm _) _).alloc V5 _⟩
def bE.stays{n0 b0:Nat}{W W':Vl}{v:Vr}{l:List Nat}(h:bE W b0 v l)(hs:aE n0 W W'):bE W' b0 v l:=by
 obtain⟨A,cap,rfl,h1,h2,hc⟩:=h;refine⟨A,cap,rfl,h1,h2,λhn=> ?_⟩;obtain⟨b,off,e,hb,hcell⟩:=hc hn;exact⟨b,off,e,hb,λj hj=>hs.cell (hcell j hj)⟩
structure E9(w:Vl)(a b:List Nat)(A:Option VM)(ca:Nat)(A':Option VM)(cb:Nat)(k:Nat)(W:Vl):Prop where
 box:W.heap[w.heap.size]?=Vq (.cells #[VQ A' b.length cb] 25 (0,0))
 res:W.heap[w.heap.size+1]?=Vq (.cells #[VU VA 0] 3 (0,0))
 it:W.heap[w.heap.size+2]?=Vq (.cells #[VQ A a.length ca] 25 (0,0))
 sa:bE W w.heap.size (VQ A a.length ca) a
 sb:bE W w.heap.size (VQ A' b.length cb) b
 same:∀j,a.length-k<=j->j<a.length->fv a j=fv b j
 low:VL w.heap.size w W
def E9.stays{w:Vl}{a b:List Nat}{A:Option VM}{ca:Nat}{A':Option VM}{cb k n0:Nat}{W W':Vl}(h:E9 w a b A ca A' cb k W)(hs:aE n0 W W')(hn:w.heap.size<=n0):E9 w a b A ca A' cb k W':=
 ⟨hs.cells _ _ _ _ h.box,hs.cells _ _ _ _ h.res,hs.cells _ _ _ _ h.it,h.sa.stays hs,h.sb.stays hs,h.same,h.low.trans (hs.below.mono hn)⟩
structure Gp(w:Vl)(a b:List Nat)(c:Code)(k:Nat)(W:Vl):Prop where
 ret:c= .ret
 res:∃x:Int,W.heap[w.heap.size+1]?=Vq (.cells #[VU VA x] 3 (0,0))/\(x<0↔val a<val b)/\(0<x↔val b<val a)
 low:VL w.heap.size w W
def Gp.stays{w:Vl}{a b:List Nat}{c:Code}{k n0:Nat}{W W':Vl}(h:Gp w a b c k W)(hs:aE n0 W W')(hn:w.heap.size<=n0):Gp w a b c k W':=by
 obtain⟨e,⟨x,hx,h1,h2⟩,hl⟩:=h;exact⟨e,⟨x,hs.cells _ _ _ _ hx,h1,h2⟩,hl.trans (hs.below.mono hn)⟩
def cell_of_heap{W:Vl}{b:Nat}{v:Vr}{t:VK}(h:W.heap[b]?=Vq (.cells #[v] t (0,0))):W.cell? ⟨b,0,Vo⟩=Vq v:=by simp[World.cell?,h]
def frozen_of_heap{W:Vl}{b:Nat}{v:Vr}{t:VK}(h:W.heap[b]?=Vq (.cells #[v] t (0,0))):W.frozen? ⟨b,0,Vo⟩=Vp:=by simp[World.frozen?,h]
def E9.back{w:Vl}{a b:List Nat}{A:Option VM}{ca:Nat}{A':Option VM}{cb k:Nat}{W:Vl}(h:E9 w a b A ca A' cb k W):
  GK (w.heap.size+2) A a.length ca (λj x=>x=fv a j) W:=by
 refine⟨cell_of_heap h.it,λhn=> ?_⟩;obtain⟨_,_,e,_,_,hc⟩:=h.sa;injection e with e1 e2 e3
 subst e1 e3;obtain⟨b,off,e,_,hcell⟩:=hc hn;exact⟨b,off,e,λj hj=>⟨_,hcell j hj,rfl⟩⟩
def zx(w:Vl)(a b:List Nat)(va vb:Vr)(ha:bE w w.heap.size va a)(hb:bE w w.heap.size vb b)(hca:Canon a)(hcb:Canon b)(hl:a.length=b.length)(hlen:a.length<=4294967296):
  VC prog 327 #[va,vb] w (Ab w a b):=by
 obtain⟨A,ca,rfl,ha1,ha2,hac⟩:=id ha;obtain⟨A',cb,rfl,hb1,hb2,hbc⟩:=id hb;unfold VJ at ha2 hb2;refine(callsIn_wide (n:=9)).1 (callsIn_of_wp_marks func327 rfl trivial ?_);simp only[ntmps327,List.size_toArray,List.length_cons,List.length_nil,Nat.reduceAdd,Nat.reduceSub,Array.replicate_succ,Array.replicate_zero,List.push_toArray,List.append_toArray,List.nil_append,List.cons_append];have hne':((a.length:Int) !=b.length)=Vp:=by rw[hl];simp
 have HL:=Vk hl;clear hl hac hbc;gi_wp2_with(refine⟨trivial,?_⟩;gi_at_call 330;refine(callsIn_wide.2 (ir _ _ _ _)).mono ?_;rintro e w' ⟨rfl,rfl⟩)
 refine fe (gf:=347) (lb:=#[VT (Vq ⟨w.heap.size+2,0,Vo⟩)]) rfl (enters_of func347 VZ rfl)
  (fQ (w.heap.size+2) A a.length ca (λj x=>x=fv a j) hlen) (λk x ⟨_,_,e⟩=>XC)
  (E9 w a b A ca A' cb) (Gp w a b) (λk W W' h hs=>h.stays hs Wa) (λc k W W' h hs=>h.stays hs Wa) (λk W h=>h.back) ?start ?round ?done ?stop
 case start=>
  refine⟨Qo _ _ _ _,GX _ _ _ _,Qh _ _ _ _,?_,?_,λj h1 h2=>VY,qV _ _ _ _⟩
  ·exact ha.below (qV _ _ _ _)
  ·exact hb.below (qV _ _ _ _)
 case round=>
  intro l k x W K hk hx hi hK;obtain⟨v,rfl,rfl⟩:=hx;have HK:=Vk hK;clear hK
  gi_wp2
  refine HK.o _ (λW2 hi2 _=> ?_);clear HK hi;have hl:=HL.o;have c1:=cell_of_heap hi2.box;have c2:=cell_of_heap hi2.res;have f2:=frozen_of_heap hi2.res;obtain⟨_,_,e,_,_,hbc⟩:=hi2.sb;injection e with e1 e2 e3
  subst e1 e3;obtain⟨bb,bo,rfl,_,hcell⟩:=hbc VY;have hx:=hcell (a.length-1-k) VY;clear hcell hbc;have i1:((a.length-1-k:Nat):Int)<b.length:=VY;have ba:fv a (a.length-1-k)<1000000000:=aA hca.small _;have bb1:fv b (a.length-1-k)<1000000000:=aA hcb.small _;by_cases hne:fv a (a.length-1-k)=fv b (a.length-1-k)
  ·have hne':((fv a (a.length-1-k):Int) !=fv b (a.length-1-k))=Vp:=by rw[hne];simp
   have hsame:∀j,a.length-(k+1)<=j->j<a.length->fv a j=fv b j:=λj h1 h2=>by
    by_cases hj:j=a.length-1-k
    ·rw[hj];exact hne
    ·exact hi2.same j VY h2
   have HN:E9 w a b A ca (Vq ⟨bb,bo,Vo⟩) cb (k+1) W2:=⟨hi2.box,hi2.res,hi2.it,hi2.sa,hi2.sb,hsame,hi2.low⟩;clear hne hsame hl
   gi_wp2
   exact⟨KeepsOthers.refl _,HN⟩
  ·have hne':((fv a (a.length-1-k):Int) !=fv b (a.length-1-k))=Vv:=WW;have hat:=Vk (Sy hca hcb hl (i:=a.length-1-k) VY (λj h1 h2=>hi2.same j VY h2) hne);clear hne hl
   gi_wp2
   exact⟨KeepsOthers.setCell _ _ _,rfl,⟨_,by have:=hi2.res;simp[World.setCell,Array.getElem?_modify,this],hat.o.1,hat.o.2⟩,hi2.low.setCell (p:=⟨w.heap.size+1,0,Vo⟩) V5 _⟩
 case done=>
  intro D W hD hi hK;have c2:=cell_of_heap hi.res;have f2:=frozen_of_heap hi.res;have hv:=Lp HL.o (λk hk=>hi.same k VY hk)
  gi_wp2
  refine⟨V5,.inl ⟨_,_,rfl,run_takeDeferred ((KeepsOthers.setCell _ _ _).same D _ hK rfl),?_⟩⟩;have hc:=(aE.putObj (n0:=w.heap.size) (.deferred Vo) ((KeepsOthers.setCell W ⟨w.heap.size+1,0,Vo⟩ (VU VA 0)).same D _ hK rfl) rfl Xj).cell (World.cell?_setCell_same' W ⟨w.heap.size+1,0,Vo⟩ (VU VA 0) (by rw[c2];rfl));have hB:VL w.heap.size w ((W.setCell ⟨w.heap.size+1,0,Vo⟩ (VU VA 0)).putObj D (.deferred Vo)):=
   (hi.low.setCell (p:=⟨w.heap.size+1,0,Vo⟩) V5 _).trans (aE.putObj (n0:=w.heap.size) (.deferred Vo) ((KeepsOthers.setCell W ⟨w.heap.size+1,0,Vo⟩ (VU VA 0)).same D _ hK rfl) rfl Xj).below
  exact⟨VU VA 0,by simp[results,results327,go_sem,hc],0,rfl,by rw[hv];omega,by rw[hv];omega,hB⟩
 case stop=>
  rintro D c k W hD hk ⟨rfl,⟨x,hx,h1,h2⟩,hl⟩ hK
  gi_wp2
  refine⟨V5,.inl ⟨_,_,rfl,run_takeDeferred hK,?_⟩⟩;have hs:=aE.putObj (n0:=w.heap.size) (.deferred Vo) hK rfl Xj;have hc:=hs.cell (cell_of_heap hx);exact⟨VU VA x,by simp[results,results327,go_sem,hc],x,rfl,h1,h2,hl.trans hs.below⟩
def jq(w:Vl)(a b:List Nat)(va vb:Vr)(ha:bE w w.heap.size va a)(hb:bE w w.heap.size vb b)(hca:Canon a)(hcb:Canon b)(hlen:a.length<=4294967296):
  VC prog 327 #[va,vb] w (Ab w a b):=by
 by_cases hl:a.length=b.length
 ·exact zx w a b va vb ha hb hca hcb hl hlen
 ·exact AA w a b va vb ha hb hca hcb hl
end
section
def iU(ops:Array Oper):Bool:=ops.all λo=>match o.op with| .defer _=>Vp|_=>Vv
def mG{ops:Array Oper}(h:iU ops=Vv){i:Nat}{o:Oper}(hi:ops[i]?=Vq o)(c:Call):o.op≠ .defer c:=by
 intro e;unfold iU at h;rw[Array.all_eq_true] at h;obtain⟨hlt,hv⟩:=Vz.1 hi;have:=h i hlt;rw[hv,e] at this;cases this
variable {P : Program} {Q : Exit → Act → Vl → Prop}
def rD{n:Nat}{row:String}{args:Array Vr}{w:Vl}{R:Vr->Vl->Prop}(h:VP P row args w R):RowsIn Fence.wide n P row args w R:=
 λc cs _=>let⟨v,w',r,s⟩:=h c cs;⟨v,w',r,stepsIn_wide.2 s⟩
def Oper.Cj{l n:Nat}{o:Oper}{a:Act}{w:Vl}{K:Act->Vl->Prop}(hd:∀c,o.op≠ .defer c)(h:o.wp P a w K Q):o.wpIn (Fence.wide.inRound l) n P a w K Q:=by
 unfold Oper.wpIn;refine⟨λ_ _=>trivial,?_⟩;show Oper.uponIn _ _ _ _ _ _ _ ((o.semAt (Vq l) a.eval).run P w);rw[Oper.semAt_some l a.eval o hd];unfold Oper.wp at h;generalize(execOp a.eval o).run P w=r at *;cases r with
 |ok x w'=>
  cases x with
  |value v=>exact h
  |skip=>exact h
  |defer d=>exact h
  |enter f args=>exact⟨λh=>V6,CallsIn.inRound l (callsIn_wide.2 h)⟩
  |row row args=>exact⟨λh=>V6,rD (n:=n-1) h⟩
  |_=>exact h.elim
 |halt x w'=>
  cases x with
  |panic v=>exact h
  |_=>exact h.elim
def gQ{l n:Nat}{md:Region.Mode}{ops:Array Oper}(hd:iU ops=Vv)(hlo:¬LetsOut Q):
  ∀(fuel:Nat) (listed:Array Bool) (a:Act) (w:Vl),wpAny P md ops Q fuel listed a w->wpAnyIn (Fence.wide.inRound l) n P md ops Q fuel listed a w
 |0,_,_,_,h=>h
 |fuel+1,listed,a,w,h=>by
  refine⟨h.1,λi hi=> ?_⟩;have h2:=h.2 i hi;unfold wpOp at h2;unfold wpOpIn;cases ho:ops[i]? with
  |none=>rw[ho] at h2;exact gQ hd hlo fuel _ _ _ h2
  |some o=>
   rw[ho] at h2;simp only at h2⊢;split
   ·rename_i hw;rw[if_pos hw] at h2;rcases h2 with h2|⟨_,h2⟩
    ·exact Oper.Cj (λc=>mG hd ho c) (Oper.wp_mono (λa' w' h3=>gQ hd hlo fuel _ _ _ h3) h2)
    ·exact absurd h2 hlo
   ·rename_i hw;rw[if_neg hw] at h2;exact⟨λ_ _=>trivial,gQ hd hlo fuel _ _ _ h2⟩
def mL(R:Act->Vl->Prop):Exit->Act->Vl->Prop
 | .normal,a,w=>R a w
 |_,_,_=>False
def cL{R:Act->Vl->Prop}{a:Act}{w:Vl}(h:R a w):mL R .normal a w:=h
def FK{n:Nat}{c:Code}{a:Act}{w:Vl}(h:c.wp P (mL (Q .normal)) a w):c.wpIn Fence.wide n P Q a w:=
 wpIn_wide.2 (wp_mono h λe _ _ h=>by cases e<;>first|exact h|exact h.elim)
end
section
open Kp
attribute [local go_sem] Oper.semAt_some
def Bx(W:Vl)(b:Nat)(t:VK)(v:Vr):Prop:=W.heap[b]?=Vq (.cells #[v] t (0,0))
def Bx.cell{W:Vl}{b:Nat}{t:VK}{v:Vr}(h:Bx W b t v):W.cell? ⟨b,0,Vo⟩=Vq v:=cell_of_heap h
def Bx.frozen{W:Vl}{b:Nat}{t:VK}{v:Vr}(h:Bx W b t v):W.frozen? ⟨b,0,Vo⟩=Vp:=frozen_of_heap h
def Bx.stays{n0:Nat}{W W':Vl}{b:Nat}{t:VK}{v:Vr}(h:Bx W b t v)(hs:aE n0 W W'):Bx W' b t v:=hs.cells _ _ _ _ h
def Bx.lt{W:Vl}{b:Nat}{t:VK}{v:Vr}(h:Bx W b t v):b<W.heap.size:=(Vz.1 h).1
def Bx.dx{W:Vl}{b:Nat}{t:VK}{v:Vr}(h:Bx W b t v){p:VM}(hp:b≠p.block)(u:Vr):Bx (W.setCell p u) b t v:=(Below.heap_setCell W p u b hp).trans h
def Bx.put{W:Vl}{b:Nat}{t:VK}{v:Vr}(h:Bx W b t v)(u:Vr):Bx (W.setCell ⟨b,0,Vo⟩ u) b t u:=by
 unfold Bx at h⊢;simp[World.setCell,Array.getElem?_modify,h]
def Bx.alloc{W:Vl}{b:Nat}{t:VK}{v:Vr}(h:Bx W b t v)(o:Obj):Bx (W.alloc o) b t v:=(Below.heap_alloc W o b h.lt).trans h
def Bx.drew{W:Vl}{b:Nat}{t:VK}{v:Vr}(h:Bx W b t v):Bx W.drew b t v:=h
def Bx.drewN{W:Vl}{b:Nat}{t:VK}{v:Vr}(h:Bx W b t v)(n:Nat):Bx (W.drewN n) b t v:=h
def Bx.below{B0:Nat}{W W':Vl}{b:Nat}{t:VK}{v:Vr}(h:Bx W b t v)(hb:VL B0 W W')(hlt:b<B0):Bx W' b t v:=(hb.block b hlt).trans h
def Bx.new(W:Vl)(t:VK)(v:Vr):Bx (W.alloc (.cells #[v] t)) W.heap.size t v:=Vy W _
def Bx.at_{W:Vl}{t:VK}{v:Vr}{n:Nat}(h:W.heap.size=n):Bx (W.alloc (.cells #[v] t)) n t v:=by subst h;exact Bx.new W t v
def Row.stays{n0:Nat}{W W':Vl}{g cap:Nat}{l:List Nat}(h:Row W g cap l)(hs:aE n0 W W'):Row W' g cap l:=by
 obtain⟨cur,hh,r⟩:=h;exact⟨cur,hs.cells _ _ _ _ hh,r⟩
def Row.dx{W:Vl}{g cap:Nat}{l:List Nat}(h:Row W g cap l){p:VM}(hp:g≠p.block)(u:Vr):Row (W.setCell p u) g cap l:=h.keep (Below.heap_setCell W p u g hp)
def Row.alloc{W:Vl}{g cap:Nat}{l:List Nat}(h:Row W g cap l)(o:Obj):Row (W.alloc o) g cap l:=h.keep (Below.heap_alloc W o g h.lt)
def Row.below{B0:Nat}{W W':Vl}{g cap:Nat}{l:List Nat}(h:Row W g cap l)(hb:VL B0 W W')(hlt:g<B0):Row W' g cap l:=h.keep (hb.block g hlt)
structure QX(w:Vl)(a:List Nat)(d:Nat)(A:Option VM)(ca:Nat)(k:Nat)(q:List Nat)(r:Nat)(W:Vl):Prop where
 bd:Bx W w.heap.size 3 (VU VA d)
 bq:Bx W (w.heap.size+1) 25 (VQ (Vq ⟨w.heap.size+2,0,Vo⟩) a.length a.length)
 row:Row W (w.heap.size+2) a.length q
 br:Bx W (w.heap.size+3) 3 (VU VA r)
 it:Bx W (w.heap.size+4) 25 (VQ A a.length ca)
 sa:bE W w.heap.size (VQ A a.length ca) a
 len:q.length=a.length
 small:Small q
 lt:r<d
 eq:S (sh (fv a) (a.length-k)) k=d*S (sh (fv q) (a.length-k)) k+r
 low:VL w.heap.size w W
def QX.stays{w:Vl}{a:List Nat}{d:Nat}{A:Option VM}{ca k:Nat}{q:List Nat}{r n0:Nat}{W W':Vl}(h:QX w a d A ca k q r W)(hs:aE n0 W W')(hn:w.heap.size<=n0):QX w a d A ca k q r W':=
 ⟨h.bd.stays hs,h.bq.stays hs,h.row.stays hs,h.br.stays hs,h.it.stays hs,h.sa.stays hs,h.len,h.small,h.lt,h.eq,h.low.trans (hs.below.mono hn)⟩
def M8(w:Vl)(a:List Nat)(d:Nat)(A:Option VM)(ca:Nat)(k:Nat)(W:Vl):Prop:=∃q r,QX w a d A ca k q r W
def ug{W:Vl}{Bs:Nat}{A:Option VM}{ca b0:Nat}{a:List Nat}(hb:Bx W Bs 25 (VQ A a.length ca))(hs:bE W b0 (VQ A a.length ca) a):
  GK Bs A a.length ca (λj x=>x=fv a j) W:=by
 refine⟨hb.cell,λhn=> ?_⟩;obtain⟨_,_,e,_,_,hc⟩:=hs;injection e with e1 e2 e3
 subst e1 e3;obtain⟨b,off,e,_,hcell⟩:=hc hn;exact⟨b,off,e,λj hj=>⟨_,hcell j hj,rfl⟩⟩
def Qb{w W:Vl}{a:List Nat}{d:Nat}{A:Option VM}{ca k:Nat}{q:List Nat}{r:Nat}(h:QX w a d A ca k q r W)(hk:k<a.length)(ha:Small a):
  (fv a (a.length-1-k)+r*1000000000)/d<1000000000/\
  QX w a d A ca (k+1) (q.set (a.length-1-k) ((fv a (a.length-1-k)+r*1000000000)/d)) ((fv a (a.length-1-k)+r*1000000000)%d)
   ((W.setCell ⟨w.heap.size+2,a.length-1-k,Vo⟩ (VU VA ((fv a (a.length-1-k)+r*1000000000)/d:Nat))).setCell ⟨w.heap.size+3,0,Vo⟩ (VU VA ((fv a (a.length-1-k)+r*1000000000)%d:Nat))):=by
 obtain⟨bd,bq,row,br,it,sa,len,small,lt,eq,low⟩:=h;have hb:=aA ha (a.length-1-k);have hs:=Ob lt hb rfl;have e1:a.length-(k+1)=a.length-1-k:=VY;have e2:a.length-k=(a.length-1-k)+1:=VY;refine⟨hs.1,(bd.dx V5 _).dx V5 _,(bq.dx V5 _).dx V5 _,(row.set VY _).dx V5 _,(br.dx V5 _).put _,(it.dx V5 _).dx V5 _,?_,by simpa using len,Small.set small hs.1,hs.2,?_,?_⟩
 ·exact sa.keep λp hp=>(World.cell?_setCell_other _ _ _ _ (λe=>by subst e;simp at hp;omega)).trans (World.cell?_setCell_other _ _ _ _ (λe=>by subst e;simp at hp;omega))
 ·rw[e1,PX,PX,<-e2];have e3:fv (q.set (a.length-1-k) ((fv a (a.length-1-k)+r*1000000000)/d)) (a.length-1-k)=(fv a (a.length-1-k)+r*1000000000)/d:=by rw[ie VY,if_pos rfl]
  have e4:S (sh (fv (q.set (a.length-1-k) ((fv a (a.length-1-k)+r*1000000000)/d))) (a.length-k)) k=S (sh (fv q) (a.length-k)) k:=dV (λi _=>by unfold sh;rw[ie VY,if_neg VY]);rw[e3,e4];exact Gc eq rfl
 ·exact(low.setCell (p:=⟨w.heap.size+2,_,Vo⟩) V5 _).setCell (p:=⟨w.heap.size+3,0,Vo⟩) V5 _
def kZ{w W:Vl}{a:List Nat}{d:Nat}{A:Option VM}{ca k:Nat}{q:List Nat}{r g1 o1 g2 o2:Nat}{v1 v2:Vr}
  (h:QX w a d A ca (k+1) q r ((W.setCell ⟨g1,o1,Vo⟩ v1).setCell ⟨g2,o2,Vo⟩ v2)):
  KeepsOthers W ((W.setCell ⟨g1,o1,Vo⟩ v1).setCell ⟨g2,o2,Vo⟩ v2).drew/\M8 w a d A ca (k+1) ((W.setCell ⟨g1,o1,Vo⟩ v1).setCell ⟨g2,o2,Vo⟩ v2).drew:=
 ⟨((KeepsOthers.setCell _ _ _).trans (KeepsOthers.setCell _ _ _)).trans (KeepsOthers.drew _),q,r,h.bd,h.bq,h.row,h.br,h.it,h.sa,h.len,h.small,h.lt,h.eq,⟨h.low.os,h.low.tape,h.low.output,h.low.size,h.low.block⟩⟩
def pL(n:Nat):Array Vr:=madeCells (Value.int .i64 0).cells n
def lz(n:Nat)(hn:n<=1000000000)(W:Vl):
  (Instr.makeSlice 25 (VU VA (n:Int)) (VU VA (n:Int))).run prog W= .ok (VQ (Vq ⟨W.heap.size,0,Vo⟩) n n) (W.alloc (.cells (pL n) 3)):=by
 obtain⟨i0,hi,hz0,hz1,hz2⟩:=info_parts dS;have hr:=run_make (P:=prog) W 25 3 i0 _ underlying25 hi hz0 .i64 .i64 n n VY VY XF VY;simp only[Int.toNat_natCast,hz1,Nat.mul_one] at hr;exact hr
def re(W:Vl)(n:Nat)(hn:n<=1000000000):Row (W.alloc (.cells (pL n) 3)) W.heap.size n (List.replicate n 0):=by
 refine⟨pL n,Vy W _,by simp[pL,size_madeCells],V5,Wc,λj hj=> ?_⟩;simp at hj;rw[me];simp[pL,madeCells,Value.cells,hj,Nat.mod_one]
def JR{a r d:Nat}(h1:a<1000000000)(h2:r<1000000000)(h3:1<=d):
  VA.wrap (((a:Int)+(r:Int)*1000000000).tdiv d)=(((a+r*1000000000)/d:Nat):Int):=by
 rw[IntWalk.i64_quo _ _ ⟨VY,VY,VY⟩];simp
def Kc{a r d:Nat}:((a:Int)+(r:Int)*1000000000).tmod d=(((a+r*1000000000)%d:Nat):Int):=by
 rw[IntWalk.rem_in _ _ VY];simp
def row_one(X:Vl)(r:Nat):Row (X.alloc (.cells #[VU VA r] 3)) X.heap.size 1 [r]:=by
 refine⟨#[VU VA r],Vy X _,rfl,V5,Wc,λj hj=> ?_⟩;have:j=0:=by simpa using hj
 subst this;rfl
def MV(w:Vl)(a:List Nat)(d:Nat)(e:Ending)(w':Vl):Prop:=
 ∃vq vr ql rl,e=VV (VX #[vq,vr])/\Jd w w' vq ql/\Canon ql/\val ql=val a/d/\Jd w w' vr rl/\Canon rl/\val rl=val a%d/\VL w.heap.size w w'
def QM{a q:List Nat}{d r:Nat}(hl:q.length=a.length)(hr:r<d)(he:S (sh (fv a) (a.length-a.length)) a.length=d*S (sh (fv q) (a.length-a.length)) a.length+r):
  val q=val a/d/\r=val a%d:=by
 have e1:S (sh (fv a) (a.length-a.length)) a.length=val a:=dV (λk _=>by unfold sh;congr 1;omega);have e2:S (sh (fv q) (a.length-a.length)) a.length=val q:=by unfold val;rw[hl];exact dV (λk _=>by unfold sh;congr 1;omega)
 rw[e1,e2] at he;rw[he];constructor
 ·rw[Nat.mul_add_div VY,Nat.div_eq_of_lt hr,Nat.add_zero]
 ·rw[Nat.mul_add_mod,Nat.mod_eq_of_lt hr]
def val_one(r:Nat):val [r]=r:=by simp[val,S,fv]
def Se{w W:Vl}{a:List Nat}{d:Nat}{A:Option VM}{ca:Nat}{q:List Nat}{r D:Nat}(h:QX w a d A ca a.length q r W)(hd1:d<1000000000)(hD:w.heap.size<=D)(hK:W.heap[D]?=Vq (.deferred (Vq []))):
  ((W.alloc (.cells #[VU VA r] 3)).setCell ⟨w.heap.size+1,0,Vo⟩ (VQ (Vq ⟨w.heap.size+2,0,Vo⟩) (az q).length a.length)).drew.heap[D]?=Vq (.deferred (Vq []))/\
  (((W.alloc (.cells #[VU VA r] 3)).setCell ⟨w.heap.size+1,0,Vo⟩ (VQ (Vq ⟨w.heap.size+2,0,Vo⟩) (az q).length a.length)).drew.putObj D (.deferred Vo)).cell? ⟨w.heap.size+1,0,Vo⟩=Vq (VQ (Vq ⟨w.heap.size+2,0,Vo⟩) (az q).length a.length)/\
  MV w a d (VV (VX #[VQ (Vq ⟨w.heap.size+2,0,Vo⟩) (az q).length a.length,VQ (Vq ⟨W.heap.size,0,Vo⟩) (az [r]).length 1])) (((W.alloc (.cells #[VU VA r] 3)).setCell ⟨w.heap.size+1,0,Vo⟩ (VQ (Vq ⟨w.heap.size+2,0,Vo⟩) (az q).length a.length)).drew.putObj D (.deferred Vo)):=by
 obtain⟨X,hX⟩:∃X,((W.alloc (.cells #[VU VA r] 3)).setCell ⟨w.heap.size+1,0,Vo⟩ (VQ (Vq ⟨w.heap.size+2,0,Vo⟩) (az q).length a.length)).drew=X:=⟨_,rfl⟩;have hwW:w.heap.size<W.heap.size:=h.bd.lt;have k1:X.heap[D]?=Vq (.deferred (Vq [])):=by
  rw[<-hX];exact(((KeepsOthers.alloc _ _).trans (KeepsOthers.setCell _ _ _)).trans (KeepsOthers.drew _)).same D _ hK rfl
 have k2:Bx X (w.heap.size+1) 25 (VQ (Vq ⟨w.heap.size+2,0,Vo⟩) (az q).length a.length):=by rw[<-hX];exact((h.bq.alloc _).put _).drew
 have k3:Row X (w.heap.size+2) a.length q:=by rw[<-hX];exact((h.row.alloc _).dx V5 _).drew
 have k4:Row X W.heap.size 1 [r]:=by
  rw[<-hX];exact((row_one W r).dx (by have:=h.bq.lt;simp;omega) _).drew
 have k5:VL w.heap.size w X:=by
  rw[<-hX];exact(((h.low.alloc VY _).setCell (p:=⟨w.heap.size+1,0,Vo⟩) V5 _)).drew
 rw[hX];have hs:=aE.putObj (n0:=w.heap.size) (.deferred Vo) k1 rfl hD;obtain⟨v1,v2⟩:=QM h.len h.lt h.eq;have hr1:Small [r]:=by
  intro x hx;have e:x=r:=XK;have:=h.lt;rw[e];show r<1000000000;omega
 refine⟨k1,hs.cell k2.cell,_,_,az q,az [r],rfl,⟨_,_,rfl,VY,(k3.stays hs).trimmed⟩,ei h.small,by rw[gR];exact v1,⟨_,_,rfl,VY,(k4.stays hs).trimmed⟩,ei hr1,by rw[gR,val_one];exact v2,k5.trans hs.below⟩
def we(w:Vl)(a:List Nat)(va:Vr)(d:Nat)(ha:bE w w.heap.size va a)(hsa:Small a)(hd0:1<=d)(hd1:d<1000000000)(hlen:a.length<=2000000):
  VC prog 328 #[va,VU VA d] w (MV w a d):=by
 obtain⟨A,ca,rfl,ha1,ha2,hac⟩:=id ha;clear hac;unfold VJ at ha2;refine(callsIn_wide (n:=9)).1 (callsIn_of_wp_marks func328 rfl trivial ?_);simp only[ntmps328,List.size_toArray,List.length_cons,List.length_nil,Nat.reduceAdd,Nat.reduceSub,Array.replicate_succ,Array.replicate_zero,List.push_toArray,List.append_toArray,List.nil_append,List.cons_append];have hmk:=lz a.length VY;gi_wp2_with(refine⟨trivial,?_⟩;gi_at_call 330;refine(callsIn_wide.2 (ir _ _ _ _)).mono ?_;rintro e w' ⟨rfl,rfl⟩)
 refine fe (gf:=347) (lb:=#[VT (Vq ⟨w.heap.size+4,0,Vo⟩)]) rfl (enters_of func347 VZ rfl)
  (fQ (w.heap.size+4) A a.length ca (λj x=>x=fv a j) VY) (λk x ⟨_,_,e⟩=>XC)
  (M8 w a d A ca) (λ_ _ _=>False) (λk W W' ⟨q,r,h⟩ hs=>⟨q,r,h.stays hs Wa⟩) (λc k W W' h hs=>h) (λk W ⟨q,r,h⟩=>ug h.it h.sa) ?start ?round ?done ?stop
 case start=>
  have hB:VL w.heap.size w (((((w.alloc (.cells #[VU VA d] 3)).alloc (.cells #[VQ (Vq ⟨w.heap.size+1+1,0,Vo⟩) a.length a.length] 25)).alloc (.cells (pL a.length) 3)).alloc (.cells #[VU VA 0] 3)).alloc (.cells #[VQ A a.length ca] 25)):=
   (qV w _ _ _).trans ((((Below.refl _ _).alloc Wa _).alloc Wa _))
  refine⟨List.replicate a.length 0,0,((((Bx.new w _ _).alloc _).alloc _).alloc _).alloc _,(((Bx.at_ V5).alloc _).alloc _).alloc _,?_,(Bx.at_ V5).alloc _,Bx.at_ V5,ha.below hB,V5,rz _,VY,by simp[S],hB⟩;have:=re ((w.alloc (.cells #[VU VA d] 3)).alloc (.cells #[VQ (Vq ⟨w.heap.size+1+1,0,Vo⟩) a.length a.length] 25)) a.length VY;simp only[VF] at this;exact(this.alloc _).alloc _
 case round=>
  intro l k x W K hk hx hi hK;obtain⟨v,rfl,rfl⟩:=hx;have HK:=Vk hK;clear hK
  gi_wp2
  refine HK.o _ (λW2 hi2 _=> ?_);clear HK hi;obtain⟨q,r,h⟩:=hi2;have hn:=Qb h hk hsa;have b0:=h.bd.cell;have b1:=h.bq.cell;have b2:=h.br.cell;have f2:=h.br.frozen;have f3:=h.row.frozen (a.length-1-k);have b3:=h.row.cell (j:=a.length-1-k) (by rw[h.len];omega);have ba:fv a (a.length-1-k)<1000000000:=aA hsa _;have hr:r<d:=h.lt;have i1:((a.length-1-k:Nat):Int)<a.length:=VY;have HN:=Vk hn.2;have hq:=hn.1;clear hn;have hd2:¬d=0:=VY;have hrb:r<1000000000:=VY;have hrd:r*1000000000<1000000000000000000:=VY;have w6:=JR (a:=fv a (a.length-1-k)) ba hrb hd0;have w7:=Kc (a:=fv a (a.length-1-k)) (r:=r) (d:=d)
  gi_wp2
  refine wpIn_region_any VZ (gQ VZ (by rintro⟨_,_,h⟩;exact h) _ _ _ _ ?_)
  try(change wpAny _ _ _ _ _ _ _ (Vl.drew _))
  refine wpAny_take (i:=1) (v:= ?va1) rfl VZ VZ VZ (λ_ _ _ h=>h) (Or.inl ⟨Wn,?hya1⟩) ?_
  case hya1=>(intro w;go_simp;try with_reducible rfl)
  refine wpAny_take (i:=2) (v:= ?va2) rfl VZ VZ VZ (λ_ _ _ h=>h) (Or.inl ⟨Wn,?hya2⟩) ?_
  case hya2=>(intro w;go_simp;try with_reducible rfl)
  refine wpAny_take (i:=5) (v:= ?va3) rfl VZ VZ VZ (λ_ _ _ h=>h) (Or.inl ⟨Wn,?hya3⟩) ?_
  case hya3=>(intro w;go_simp;try with_reducible rfl)
  refine wpAny_ready (rs:=[0,3,6]) VZ V5 ?_;refine VH rfl (λK hK=> ?_) ?_
  ·go_simp;refine hK _ _ ?_;clear hK K;refine wpAny_ready (rs:=[3,6]) VZ V5 ?_;refine VH rfl (λK hK=> ?_) ?_
   ·go_simp;refine hK _ _ ?_;clear hK K;refine wpAny_take (i:=4) (v:= ?va4) rfl VZ VZ VZ (λ_ _ _ h=>h) (Or.inl ⟨Wn,?hya4⟩) ?_
    case hya4=>(intro w;go_simp;try with_reducible rfl)
    refine wpAny_take (i:=8) (v:= ?va5) rfl VZ VZ VZ (λ_ _ _ h=>h) (Or.inl ⟨Wn,?hya5⟩) ?_
    case hya5=>(intro w;go_simp;try with_reducible rfl)
    refine wpAny_ready (rs:=[6,9]) VZ V5 ?_;refine VH rfl (λK hK=> ?_) ?_
    ·go_simp;refine hK _ _ ?_;clear hK K;refine wpAny_take (i:=7) (v:= ?va6) rfl VZ VZ VZ (λ_ _ _ h=>h) (Or.inl ⟨Wn,?hya6⟩) ?_
     case hya6=>(intro w;go_simp;try with_reducible rfl)
     exact Yk
    refine VH rfl (λK hK=> ?_) ?_
    ·go_simp;refine hK _ _ ?_;clear hK K;refine wpAny_ready (rs:=[6]) VZ V5 ?_;refine VH rfl (λK hK=> ?_) ?_
     ·go_simp;refine hK _ _ ?_;clear hK K;refine wpAny_take (i:=7) (v:= ?va7) rfl VZ VZ VZ (λ_ _ _ h=>h) (Or.inl ⟨Wn,?hya7⟩) ?_
      case hya7=>(intro w;go_simp;try with_reducible rfl)
      exact Yl
     exact VO
    exact VO
   refine VH rfl (λK hK=> ?_) ?_
   ·go_simp;refine hK _ _ ?_;clear hK K;refine wpAny_take (i:=7) (v:= ?va8) rfl VZ VZ VZ (λ_ _ _ h=>h) (Or.inl ⟨Wn,?hya8⟩) ?_
    case hya8=>(intro w;go_simp;try with_reducible rfl)
    refine wpAny_ready (rs:=[3]) VZ V5 ?_;refine VH rfl (λK hK=> ?_) ?_
    ·go_simp;refine hK _ _ ?_;clear hK K;refine wpAny_take (i:=4) (v:= ?va9) rfl VZ VZ VZ (λ_ _ _ h=>h) (Or.inl ⟨Wn,?hya9⟩) ?_
     case hya9=>(intro w;go_simp;try with_reducible rfl)
     refine wpAny_take (i:=8) (v:= ?va10) rfl VZ VZ VZ (λ_ _ _ h=>h) (Or.inl ⟨Wn,?hya10⟩) ?_
     case hya10=>(intro w;go_simp;try with_reducible rfl)
     exact Yk
    exact VO
   exact VO
  refine VH rfl (λK hK=> ?_) ?_
  ·go_simp;refine hK _ _ ?_;clear hK K;refine wpAny_take (i:=4) (v:= ?va11) rfl VZ VZ VZ (λ_ _ _ h=>h) (Or.inl ⟨Wn,?hya11⟩) ?_
   case hya11=>(intro w;go_simp;try with_reducible rfl)
   refine wpAny_ready (rs:=[0,6]) VZ V5 ?_;refine VH rfl (λK hK=> ?_) ?_
   ·go_simp;refine hK _ _ ?_;clear hK K;refine wpAny_take (i:=8) (v:= ?va12) rfl VZ VZ VZ (λ_ _ _ h=>h) (Or.inl ⟨Wn,?hya12⟩) ?_
    case hya12=>(intro w;go_simp;try with_reducible rfl)
    refine wpAny_ready (rs:=[6,9]) VZ V5 ?_;refine VH rfl (λK hK=> ?_) ?_
    ·go_simp;refine hK _ _ ?_;clear hK K;refine wpAny_take (i:=7) (v:= ?va13) rfl VZ VZ VZ (λ_ _ _ h=>h) (Or.inl ⟨Wn,?hya13⟩) ?_
     case hya13=>(intro w;go_simp;try with_reducible rfl)
     exact Yk
    refine VH rfl (λK hK=> ?_) ?_
    ·go_simp;refine hK _ _ ?_;clear hK K;refine wpAny_ready (rs:=[6]) VZ V5 ?_;refine VH rfl (λK hK=> ?_) ?_
     ·go_simp;refine hK _ _ ?_;clear hK K;refine wpAny_take (i:=7) (v:= ?va14) rfl VZ VZ VZ (λ_ _ _ h=>h) (Or.inl ⟨Wn,?hya14⟩) ?_
      case hya14=>(intro w;go_simp;try with_reducible rfl)
      exact Yl
     exact VO
    exact VO
   refine VH rfl (λK hK=> ?_) ?_
   ·go_simp;refine hK _ _ ?_;clear hK K;refine wpAny_take (i:=7) (v:= ?va15) rfl VZ VZ VZ (λ_ _ _ h=>h) (Or.inl ⟨Wn,?hya15⟩) ?_
    case hya15=>(intro w;go_simp;try with_reducible rfl)
    refine wpAny_ready (rs:=[0]) VZ V5 ?_;refine VH rfl (λK hK=> ?_) ?_
    ·go_simp;refine hK _ _ ?_;clear hK K;refine wpAny_take (i:=8) (v:= ?va16) rfl VZ VZ VZ (λ_ _ _ h=>h) (Or.inl ⟨Wn,?hya16⟩) ?_
     case hya16=>(intro w;go_simp;try with_reducible rfl)
     exact Yk
    exact VO
   exact VO
  refine VH rfl (λK hK=> ?_) ?_
  ·go_simp;refine hK _ _ ?_;clear hK K;refine wpAny_take (i:=7) (v:= ?va17) rfl VZ VZ VZ (λ_ _ _ h=>h) (Or.inl ⟨Wn,?hya17⟩) ?_
   case hya17=>(intro w;go_simp;try with_reducible rfl)
   refine wpAny_ready (rs:=[0,3]) VZ V5 ?_;refine VH rfl (λK hK=> ?_) ?_
   ·go_simp;refine hK _ _ ?_;clear hK K;refine wpAny_ready (rs:=[3]) VZ V5 ?_;refine VH rfl (λK hK=> ?_) ?_
    ·go_simp;refine hK _ _ ?_;clear hK K;refine wpAny_take (i:=4) (v:= ?va18) rfl VZ VZ VZ (λ_ _ _ h=>h) (Or.inl ⟨Wn,?hya18⟩) ?_
     case hya18=>(intro w;go_simp;try with_reducible rfl)
     refine wpAny_take (i:=8) (v:= ?va19) rfl VZ VZ VZ (λ_ _ _ h=>h) (Or.inl ⟨Wn,?hya19⟩) ?_
     case hya19=>(intro w;go_simp;try with_reducible rfl)
     exact Yk
    exact VO
   refine VH rfl (λK hK=> ?_) ?_
   ·go_simp;refine hK _ _ ?_;clear hK K;refine wpAny_take (i:=4) (v:= ?va20) rfl VZ VZ VZ (λ_ _ _ h=>h) (Or.inl ⟨Wn,?hya20⟩) ?_
    case hya20=>(intro w;go_simp;try with_reducible rfl)
    refine wpAny_ready (rs:=[0]) VZ V5 ?_;refine VH rfl (λK hK=> ?_) ?_
    ·go_simp;refine hK _ _ ?_;clear hK K;refine wpAny_take (i:=8) (v:= ?va21) rfl VZ VZ VZ (λ_ _ _ h=>h) (Or.inl ⟨Wn,?hya21⟩) ?_
     case hya21=>(intro w;go_simp;try with_reducible rfl)
     exact Yk
    exact VO
   exact VO
  exact VO
 case done=>
  rintro D W hD ⟨q,r,h⟩ hK;have hrow:=h.row;have hq:=h.len;have b1:=h.bq.cell;have f1:=h.bq.frozen;have b2:=h.br.cell;have hrb:r<1000000000:=by have:=h.lt;omega
  have b1':∀o,(W.alloc o).cell? ⟨w.heap.size+1,0,Vo⟩=Vq (VQ (Vq ⟨w.heap.size+2,0,Vo⟩) a.length a.length):=λo=>(h.bq.alloc o).cell
  have f1':∀o,(W.alloc o).frozen? ⟨w.heap.size+1,0,Vo⟩=Vp:=λo=>(h.bq.alloc o).frozen
  have b2':∀o,(W.alloc o).cell? ⟨w.heap.size+3,0,Vo⟩=Vq (VU VA r):=λo=>(h.br.alloc o).cell
  have hone:∀X:Vl,Row (X.alloc (.cells #[VU VA r] 3)) X.heap.size 1 [r]:=λX=>row_one X r
  have HO:=Vk hone;have HR:=Vk hrow;have HQ:=Vk hq;have HE:=Vk (Se h hd1 Xj hK);clear hone hrow hq hmk
  gi_wp2
  refine FK ?_;go_region_with (go_at_call 326;first|((with_reducible refine(kH (g:=w.heap.size+2) (l:=q) (Row.drew HR.o) HQ.o).mono ?_);rintro e w' ⟨rfl,rfl⟩)|((with_reducible refine(kH (g:=w.heap.size+2) (l:=q) (Row.drew (HR.o.alloc _)) HQ.o).mono ?_);rintro e w' ⟨rfl,rfl⟩)|((with_reducible refine(kH (l:=[r]) (n:=1) (Row.drew (HO.o W)) (List.length_singleton)).mono ?_);rintro e w' ⟨rfl,rfl⟩))
  all_goals
   refine cL ?_
   gi_wp2
   refine⟨V5,.inl ⟨_,_,rfl,run_takeDeferred HE.o.1,?_⟩⟩;exact⟨VX #[VQ (Vq ⟨w.heap.size+2,0,Vo⟩) (az q).length a.length,VQ (Vq ⟨W.heap.size,0,Vo⟩) (az [r]).length 1],by simp[results,results328,go_sem,HE.o.2.1],HE.o.2.2⟩
 case stop=>
  rintro D c k W hD hk h;exact h.elim
end
end Go.Proofs.YtmliacdegmklaaaGreatDoor
namespace Kp
structure J6(A V n k:Nat)(u q:List Nat):Prop where
 small:Small u
 smallq:Small q
 len:u.length=q.length+n
 hk:k<=q.length
 eq:A=S (fv u) u.length+B^(q.length-k)*S (sh (fv q) (q.length-k)) k*V
 zero:∀i,q.length-k+n<=i->fv u i=0
 seg:S (sh (fv u) (q.length-k)) n<V
def BE(f:Nat->Nat)(n:Nat):f n*B^n<=S f (n+1):=by rw[bR];exact Nat.le_add_left _ _
def Hh{l:List Nat}{j x k:Nat}(hj:j<l.length):fv (l.set j x) k=if k=j then x else fv l k:=by
 exact XR
def Small.Ux{l:List Nat}(h:Small l){j x:Nat}(hx:x<B):Small (l.set j x):=by
 exact XV
def J6.lt{A V n k:Nat}{u q:List Nat}(h:J6 A V n k u q)(hk:k<q.length):S (sh (fv u) (q.length-1-k)) (n+1)<B*V:=by
 have hs:=h.seg;have e:q.length-k=(q.length-1-k)+1:=VY;rw[e] at hs;rw[PX];have hb:fv u (q.length-1-k)<B:=aA h.small _;have:B*(S (sh (fv u) (q.length-1-k+1)) n+1)<=B*V:=Nat.mul_le_mul_left _ hs;rw[Nat.mul_add] at this;omega
def J6.top{A V n k:Nat}{u q v:List Nat}(h:J6 A V n k u q)(hk:k<q.length)(hv:Small v)(hn:v.length=n)(h1:1<=n)(hV:val v=V):fv u (q.length-1-k+n)<=fv v (n-1):=by
 have hl:=h.lt hk;have ht:fv u (q.length-1-k+n)*B^n<=S (sh (fv u) (q.length-1-k)) (n+1):=BE (sh (fv u) (q.length-1-k)) n;obtain⟨m,rfl⟩:∃m,n=m+1:=⟨n-1,VY⟩;have hVlt:V<(fv v m+1)*B^m:=by
  rw[<-hV];unfold val;rw[hn,bR,Nat.add_mul,Nat.one_mul];have:S (fv v) m<B^m:=sB (λk _=>aA hv k);omega
 have h3:B*V<B*((fv v m+1)*B^m):=Nat.mul_lt_mul_of_pos_left hVlt V0;have e:B*((fv v m+1)*B^m)=(fv v m+1)*B^(m+1):=by rw[Nat.pow_succ,Nat.mul_left_comm,VE B]
 rw[e] at h3;have h4:fv u (q.length-1-k+(m+1))*B^(m+1)<(fv v m+1)*B^(m+1):=VY;have h5:=Nat.lt_of_mul_lt_mul_right h4;show _<=fv v m;omega
def J6.step{A V n k d X:Nat}{u u3 q:List Nat}(h:J6 A V n k u q)(hk:k<q.length)(hV:V<B^n)
  (hl:u3.length=u.length)(hs:Small u3)(hsame:∀i,i<q.length-1-k\/q.length-1-k+(n+1)<=i->fv u3 i=fv u i)
  (hX:S (sh (fv u3) (q.length-1-k)) (n+1)=X)(he:X+d*V=S (sh (fv u) (q.length-1-k)) (n+1))(hlt:S (sh (fv u) (q.length-1-k)) (n+1)<(d+1)*V):
  d<B/\J6 A V n (k+1) u3 (q.set (q.length-1-k) d):=by
 have hltB:=h.lt hk;obtain⟨j,hj⟩:∃j,q.length-1-k=j:=⟨_,rfl⟩;have e1:q.length-(k+1)=j:=VY;have e2:q.length-k=j+1:=VY;obtain⟨hsm,hsq,hlen,hkq,heq,hz,hseg⟩:=h;rw[hj] at hsame hX he hlt hltB⊢;rw[e2] at heq hz hseg;have hXV:X<V:=by rw[Nat.add_mul,Nat.one_mul] at hlt;omega
 have hVpos:0<V:=VY;have hd:d<B:=by
  have:d*V<B*V:=VY;exact Nat.lt_of_mul_lt_mul_right this
 refine⟨hd,hs,Small.Ux hsq hd,by simpa[hl] using hlen,Wa,?_,?_,?_⟩
 ·rw[List.length_set,e1,hl];have ht:=Fo (f:=fv u) (g:=fv u3) (m:=u.length) (j:=j) (n:=n+1) VY (λi hi=>hsame i (.inl hi)) (λi hi _=>hsame i (.inr hi));have q1:S (sh (fv (q.set j d)) j) (k+1)=d+B*S (sh (fv q) (j+1)) k:=by
   rw[PX,Hh VY,if_pos rfl,dV (g:=sh (fv q) (j+1))];intro i _;unfold sh;rw[Hh VY,if_neg VY]
  rw[q1,heq];rw[hX,<-he] at ht;have x1:B^j*(d+B*S (sh (fv q) (j+1)) k)*V=B^j*(d*V)+B^(j+1)*S (sh (fv q) (j+1)) k*V:=by
   rw[Nat.mul_add,Nat.add_mul,Nat.pow_succ,Nat.mul_assoc (B^j) d V,Nat.mul_assoc (B^j) B]
  rw[x1];have x2:B^j*(X+d*V)=B^j*X+B^j*(d*V):=Nat.mul_add _ _ _;omega
 ·rw[List.length_set,e1];intro i hi;by_cases hin:i=j+n
  ·subst hin;have h1:fv u3 (j+n)*B^n<=X:=by rw[<-hX];exact BE (sh (fv u3) j) n
   rcases Nat.eq_zero_or_pos (fv u3 (j+n)) with h0|h0
   ·exact h0
   ·have:1*B^n<=fv u3 (j+n)*B^n:=Nat.mul_le_mul_right _ h0;omega
  ·rw[hsame i (.inr VY)];exact hz i VY
 ·rw[List.length_set,e1];have:S (sh (fv u3) j) n<=X:=by rw[<-hX,bR];exact Nat.le_add_right _ _
  omega
def J6.done{a b f n:Nat}{u q:List Nat}(h:J6 (a*f) (b*f) n q.length u q)(hf:0<f)(hb:0<b):val q=a/b/\val u=(a%b)*f:=by
 obtain⟨hsm,hsq,hlen,hkq,heq,hz,hseg⟩:=h;rw[Nat.sub_self] at heq hz hseg;have e0:∀g:Nat->Nat,sh g 0=g:=λg=>by funext k;unfold sh;rw[Nat.zero_add]
 rw[e0,Nat.pow_zero,Nat.one_mul] at heq;rw[e0] at hseg;have hR:S (fv u) u.length=S (fv u) n:=Rh VY (λi hi _=>hz i VY);have:=F4 (Q:=S (fv q) q.length) (R:=S (fv u) u.length) hf hb (by rw[heq,Nat.add_comm]) (by rw[hR];exact hseg);exact this
def J6.start{A V n:Nat}{u:List Nat}{mq:Nat}(hu:Small u)(hl:u.length=mq+n)(hA:val u=A)(hz:fv u (u.length-1)=0)(h1:1<=n)(hV:B^(n-1)<=V):
  J6 A V n 0 u (List.replicate mq 0):=by
 refine⟨hu,?_,XJ,Nat.zero_le _,?_,?_,?_⟩
 ·intro d hd;rw[List.eq_of_mem_replicate hd];decide
 ·simp[S];rw[<-hA];rfl
 ·intro i hi;simp at hi;exact mD VY
 ·simp;obtain⟨m,rfl⟩:∃m,n=m+1:=⟨n-1,VY⟩;rw[bR];have:sh (fv u) mq m=0:=by
   have:u.length-1=mq+m:=VY;rw[this] at hz;exact hz
  rw[this,Nat.zero_mul,Nat.add_zero];have h2:S (sh (fv u) mq) m<B^m:=sB (λk _=>aA hu _);show _<V;exact Nat.lt_of_lt_of_le h2 hV
end Kp
namespace Go.Proofs.YtmliacdegmklaaaGreatDoor
section
open Kp
def bE.new{w:Vl}{v:Vr}{l:List Nat}(h:bE w w.heap.size v l)(o:Obj):bE (w.alloc o) (w.alloc o).heap.size v l:=
 (h.below ((Below.refl _ _).alloc (Vm _) o)).more V5
def bE.grow{w w':Vl}{v:Vr}{l:List Nat}(h:bE w w.heap.size v l)(hb:VL w.heap.size w w'):bE w' w'.heap.size v l:=(h.below hb).more hb.size
def Jd.sl{w w':Vl}{v:Vr}{l:List Nat}(h:Jd w w' v l):bE w' w'.heap.size v l:=by
 obtain⟨g,cap,rfl,hg,hr⟩:=h;exact hr.sl hr.lt
def oE(w:Vl)(a b:List Nat)(e:Ending)(w':Vl):Prop:=
 ∃vq vr ql rl,e=VV (VX #[vq,vr])/\bE w' w'.heap.size vq ql/\Canon ql/\val ql=val a/val b/\bE w' w'.heap.size vr rl/\Canon rl/\val rl=val a%val b/\VL w.heap.size w w'
def H7:Canon []:=⟨λ_ h=>V6,pY⟩
def PE(w:Vl)(b0:Nat):bE w b0 (VQ Vo 0 0) []:=⟨Vo,0,rfl,V5,by simp[VJ],λh=>by simp at h⟩
def DS(w:Vl)(a b:List Nat)(va vb:Vr)(ha:bE w w.heap.size va a)(hb:bE w w.heap.size vb b)(hca:Canon a)(hcb:Canon b)(hlen:a.length<=1000000)(hlt:val a<val b):
  VC prog 297 #[va,vb] w (oE w a b):=by
 have hcmp:=Vk (jq (w.alloc (.cells #[VQ Vo 0 0] 25)) a b va vb (ha.new _) (hb.new _) hca hcb VY);have HA:=Vk ha;obtain⟨A,ca,rfl,_,_,hac⟩:=ha;obtain⟨A',cb,rfl,_,_,hbc⟩:=hb;clear hac hbc;go_enter func297,ntmps297;go_wp2_with(go_at_call 327;refine hcmp.o.mono ?_;rintro e w1 ⟨c,rfl,h1,h2,hB⟩;have hc:c<0:=h1.2 hlt;clear h1 h2;have b1:=((Bx.new w 25 (VQ Vo 0 0)).below hB V5).cell;have f1:=((Bx.new w 25 (VQ Vo 0 0)).below hB V5).frozen)
 have hfin:oE w a b (VV (VX #[VQ Vo 0 0,VQ A a.length ca])) (w1.setCell ⟨w.heap.size,0,Vo⟩ (VQ Vo 0 0)):=by
  have hb1:VL w.heap.size w (w1.setCell ⟨w.heap.size,0,Vo⟩ (VQ Vo 0 0)):=(((Below.refl _ _).alloc (Vm _) _).trans (hB.mono V5)).setCell (p:=⟨w.heap.size,0,Vo⟩) (Vm _) _;exact⟨_,_,[],a,rfl,PE _ _,H7,by rw[Nat.div_eq_of_lt hlt];rfl,HA.o.grow hb1,hca,(Nat.mod_eq_of_lt hlt).symm,hb1⟩
 have hcell:=World.cell?_setCell_same' w1 ⟨w.heap.size,0,Vo⟩ (VQ Vo 0 0) (by rw[b1];rfl);exact bodyPost_ret (v:= VX #[VQ Vo 0 0,VQ A a.length ca]) (by simp[results,results297,go_sem,hcell]) rfl hfin
def FQ(w:Vl)(a:List Nat)(d:Nat)(va vb:Vr)(ha:bE w w.heap.size va a)(hb:bE w w.heap.size vb [d])(hca:Canon a)(hcb:Canon [d])(hlen:a.length<=1000000)(hge:val [d]<=val a):
  VC prog 297 #[va,vb] w (oE w a [d]):=by
 have hcmp:=Vk (jq (w.alloc (.cells #[VQ Vo 0 0] 25)) a [d] va vb (ha.new _) (hb.new _) hca hcb VY);have hd1:d<1000000000:=hcb.small d V5;have hd0:1<=d:=by have:d≠0:=px.last (l:=[]) hcb.trim;omega
 have HA:=Vk ha;obtain⟨A,ca,rfl,_,_,hac⟩:=ha;obtain⟨A',cb,rfl,_,_,hbc⟩:=hb;obtain⟨bb,bo,rfl,hbb,hcell⟩:=hbc V5;have hx:w.cell? ⟨bb,bo,Vo⟩=Vq (VU VA d):=hcell 0 V5;clear hac hbc hcell;go_enter func297,ntmps297;go_wp2_with(first
  |(go_at_call 327;refine hcmp.o.mono ?_;rintro e w1 ⟨c,rfl,h1,h2,hB⟩;have hc:¬c<0:=λh=>absurd (h1.1 h) VY;clear h1 h2;have b1:=((Bx.new w 25 (VQ Vo 0 0)).below hB V5);have x1:w1.cell? ⟨bb,bo,Vo⟩=Vq (VU VA d):=((hB.cell (p:=⟨bb,bo,Vo⟩) Wa).trans (Vl.cell?_alloc_lt w _ ⟨bb,bo,Vo⟩ hbb)).trans hx)
  |(go_at_call 328;refine(we w1 a _ d (HA.o.grow (((Below.refl _ _).alloc (Vm _) _).trans (hB.mono V5))) hca.small hd0 hd1 VY).mono ?_;rintro e w2 ⟨vq,vr,ql,rl,rfl,hq,hcq,hvq,hr,hcr,hvr,hB2⟩;obtain⟨gq,cq,rfl,hgq,hrq⟩:=hq;obtain⟨gr,cr,rfl,hgr,hrr⟩:=hr;have bx2:=b1.below hB2 b1.lt;have b2:=bx2.cell;have f2:=bx2.frozen))
 have hne1:gq≠w.heap.size:=by have:=b1.lt;omega
 have hne2:gr≠w.heap.size:=by have:=b1.lt;omega
 have hcell:=World.cell?_setCell_same' w2 ⟨w.heap.size,0,Vo⟩ (VQ (Vq ⟨gq,0,Vo⟩) ql.length cq) (by rw[b2];rfl);have hb1:VL w.heap.size w (w2.setCell ⟨w.heap.size,0,Vo⟩ (VQ (Vq ⟨gq,0,Vo⟩) ql.length cq)):=
  ((((Below.refl _ _).alloc (Vm _) _).trans (hB.mono V5)).trans (hB2.mono (by have:=b1.lt;omega))).setCell (p:=⟨w.heap.size,0,Vo⟩) (Vm _) _
 have hfin:oE w a [d] (VV (VX #[VQ (Vq ⟨gq,0,Vo⟩) ql.length cq,VQ (Vq ⟨gr,0,Vo⟩) rl.length cr])) (w2.setCell ⟨w.heap.size,0,Vo⟩ (VQ (Vq ⟨gq,0,Vo⟩) ql.length cq)):=by
  have r1:=hrq.dx (p:=⟨w.heap.size,0,Vo⟩) hne1 (VQ (Vq ⟨gq,0,Vo⟩) ql.length cq);have r2:=hrr.dx (p:=⟨w.heap.size,0,Vo⟩) hne2 (VQ (Vq ⟨gq,0,Vo⟩) ql.length cq);exact⟨_,_,ql,rl,rfl,r1.sl r1.lt,hcq,by rw[val_one];exact hvq,r2.sl r2.lt,hcr,by rw[val_one];exact hvr,hb1⟩
 exact bodyPost_ret (v:= VX #[VQ (Vq ⟨gq,0,Vo⟩) ql.length cq,VQ (Vq ⟨gr,0,Vo⟩) rl.length cr]) (by simp[results,results297,go_sem,hcell]) rfl hfin
end
section
open Kp
def Bx.only{g:Nat}{W W':Vl}{b:Nat}{t:VK}{v:Vr}(h:Bx W b t v)(ho:dO g W W')(hb:b≠g):Bx W' b t v:=(ho.block b hb).trans h
def Row.only{g g' cap:Nat}{W W':Vl}{l:List Nat}(h:Row W g' cap l)(ho:dO g W W')(hb:g'≠g):Row W' g' cap l:=h.keep (ho.block g' hb)
def dO.again{g:Nat}{W W':Vl}{b:Nat}{t:VK}{v:Vr}(ho:dO g W W')(h:Bx W' b t v):dO g W (W'.setCell ⟨b,0,Vo⟩ v):=by
 refine⟨ho.os,ho.tape,ho.output,by simpa[World.setCell] using ho.size,λk hk=> ?_⟩;by_cases hb:k=b
 ·subst hb;rw[<-ho.block k hk];exact(h.put v).trans h.symm
 ·exact(Below.heap_setCell W' ⟨b,0,Vo⟩ v k hb).trans (ho.block k hk)
def dO.others{g:Nat}{W W':Vl}(ho:dO g W W'){cs:Array Vr}{t:VK}{m:Nat×Nat}(hg:W.heap[g]?=Vq (.cells cs t m)):KeepsOthers W W':=
 ⟨by rw[ho.size];exact Vm _,λk o hk hc=>by
  by_cases e:k=g
  ·subst e;rw[hg] at hk;cases hk;cases hc
  ·exact(ho.block k e).trans hk⟩
structure Pj(w:Vl)(nb gu cu gb cv:Nat)(tv:List Nat)(A mq m:Nat)(k:Nat)(u q:List Nat)(W:Vl):Prop where
 bq:Bx W w.heap.size 25 (VQ (Vq ⟨nb+2,0,Vo⟩) mq mq)
 bu:Bx W nb 25 (VQ (Vq ⟨gu,0,Vo⟩) m cu)
 bv:Bx W (nb+1) 25 (VQ (Vq ⟨gb,0,Vo⟩) tv.length cv)
 it:Bx W (nb+3) 25 (VQ (Vq ⟨nb+2,0,Vo⟩) mq mq)
 ru:Row W gu cu u
 rv:Row W gb cv tv
 rq:Row W (nb+2) mq q
 lu:u.length=m
 lq:q.length=mq
 dm:J6 A (val tv) tv.length k u q
 low:VL w.heap.size w W
def Pj.stays{w:Vl}{nb gu cu gb cv:Nat}{tv:List Nat}{A mq m k:Nat}{u q:List Nat}{n0:Nat}{W W':Vl}(h:Pj w nb gu cu gb cv tv A mq m k u q W)(hs:aE n0 W W')(hn:w.heap.size<=n0):
  Pj w nb gu cu gb cv tv A mq m k u q W':=
 ⟨h.bq.stays hs,h.bu.stays hs,h.bv.stays hs,h.it.stays hs,h.ru.stays hs,h.rv.stays hs,h.rq.stays hs,h.lu,h.lq,h.dm,h.low.trans (hs.below.mono hn)⟩
def R9(w:Vl)(nb gu cu gb cv:Nat)(tv:List Nat)(A mq m:Nat)(k:Nat)(W:Vl):Prop:=∃u q,Pj w nb gu cu gb cv tv A mq m k u q W
def Pj.back{w:Vl}{nb gu cu gb cv:Nat}{tv:List Nat}{A mq m k:Nat}{u q:List Nat}{W:Vl}(h:Pj w nb gu cu gb cv tv A mq m k u q W):
  GK (nb+3) (Vq ⟨nb+2,0,Vo⟩) mq mq (λ_ _=>True) W:=
 ⟨h.it.cell,λ_=>⟨nb+2,0,rfl,λj hj=>⟨_,by rw[Nat.zero_add];exact h.rq.cell (by rw[h.lq];exact hj),trivial⟩⟩⟩
structure Ol(W:Vl)(gu cu:Nat)(tv u:List Nat)(j:Nat)(d:Nat)(x:List Nat)(W':Vl):Prop where
 row:Row W' gu cu x
 len:x.length=u.length
 small:Small x
 same:∀i,i<j\/j+(tv.length+1)<=i->fv x i=fv u i
 seg:S (sh (fv x) j) (tv.length+1)=S (sh (fv u) j) (tv.length+1)
 lt:S (sh (fv u) j) (tv.length+1)<(d+1)*val tv
 bound:d<=2000000000
 only:dO gu W W'
def Oq(W:Vl)(gu cu:Nat)(tv u:List Nat)(j:Nat)(d:Vr)(W':Vl):Prop:=∃dN x,d=VU VA (dN:Nat)/\Ol W gu cu tv u j dN x W'
def vu{l:List Nat}:S (fv l) (l.length+1)=val l:=j2 VY
def Ol.less{W W1 W2 W3:Vl}{gu cu:Nat}{tv u x y z:List Nat}{j d c c2:Nat}(h:Ol W gu cu tv u j d x W1)(ht:oD W1 gu cu x tv j d (tv.length+1) c y W2)
  (hr:kY W2 gu cu y tv j d (tv.length+1) c2 z W3)(hc:0<c):1<=d/\Ol W gu cu tv u j (d-1) z W3:=by
 obtain⟨row,len,small,same,seg,lt,bound,only⟩:=h;obtain⟨tR,tl,tS,tsame,teq,tc,tO⟩:=ht;obtain⟨rR,rl,rS,rsame,req,rc,rO⟩:=hr;rw[vu] at teq req;have hU:S (sh (fv x) j) (tv.length+1)<B^(tv.length+1):=sB (λk _=>aA small _);have hX:S (sh (fv y) j) (tv.length+1)<B^(tv.length+1):=sB (λk _=>aA tS _);have hZ:S (sh (fv z) j) (tv.length+1)<B^(tv.length+1):=sB (λk _=>aA rS _);have hbig:S (sh (fv x) j) (tv.length+1)<d*val tv:=by
  have:=Iv teq hX hU;rcases Nat.lt_or_ge (S (sh (fv x) j) (tv.length+1)) (d*val tv) with h|h
  ·exact h
  ·have:=this.2 h;omega
 have hz:S (sh (fv z) j) (tv.length+1)=S (sh (fv x) j) (tv.length+1):=zB teq req hZ hU;have h1:1<=d:=by
  rcases Nat.eq_zero_or_pos d with h0|h0
  ·subst h0;omega
  ·exact h0
 refine⟨h1,rR,VY,rS,λi hi=> ?_,by rw[hz,seg],by rw[Nat.sub_add_cancel h1,<-seg];exact hbig,VY,(only.trans tO).trans rO⟩;rw[rsame i hi,tsame i hi,same i hi]
def Pj.next{w W W1 W2:Vl}{nb gu cu gb cv:Nat}{tv:List Nat}{A mq m k d:Nat}{u q x y:List Nat}(h:Pj w nb gu cu gb cv tv A mq m k u q W)(hk:k<mq)(htv:Small tv)
  (hgw:w.heap.size<gu)(hgu:gu<nb)(hgb:gb<nb)(hne:gu≠gb)(hwn:w.heap.size<nb)
  (hi:Ol W gu cu tv u (mq-1-k) d x W1)(ht:oD W1 gu cu x tv (mq-1-k) d (tv.length+1) 0 y W2):
  d<1000000000/\KeepsOthers W (W2.setCell ⟨nb+2,mq-1-k,Vo⟩ (VU VA d))/\Pj w nb gu cu gb cv tv A mq m (k+1) y (q.set (mq-1-k) d) (W2.setCell ⟨nb+2,mq-1-k,Vo⟩ (VU VA d)):=by
 obtain⟨row,len,small,same,seg,lt,bound,only⟩:=hi;obtain⟨tR,tl,tS,tsame,teq,tc,tO⟩:=ht;have lq:=h.lq;subst lq;rw[vu,seg,Nat.zero_mul,Nat.add_zero] at teq;have hO:dO gu W W2:=only.trans tO;obtain⟨hd,hM⟩:=h.dm.step hk (q9 htv) VY tS (λi hi=>by rw[tsame i hi,same i hi]) rfl teq lt;obtain⟨cur,hcur,_⟩:=h.ru;refine⟨hd,(hO.others hcur).trans (KeepsOthers.setCell _ _ _),(h.bq.only hO VY).dx Wa _,(h.bu.only hO VY).dx V5 _,(h.bv.only hO VY).dx V5 _,(h.it.only hO VY).dx V5 _,
  tR.dx Wa _,(h.rv.only hO VY).dx Wa _,(h.rq.only hO VY).set VY d,by have:=h.lu;omega,V5,hM,?_⟩
 exact(h.low.trans (hO.below VY)).setCell (p:=⟨nb+2,_,Vo⟩) Wa _
end
section
open Kp
attribute [local go_sem] Oper.semAt_some
def EP{t:Nat}(h1:1<=t)(h2:t<1000000000):∃f:Nat,(1000000000:Int)/((t:Int)+1)=f/\1<=f/\f<1000000000:=by
 refine⟨1000000000/(t+1),V5,?_,?_⟩
 ·exact(Nat.le_div_iff_mul_le VY).2 VY
 ·exact Nat.div_lt_self VY VY
def Oe{w:Vl}{base g cap:Nat}{l:List Nat}(h:w.ownsRow base 3 1 (VQ (Vq ⟨g,0,Vo⟩) (l.length+1) cap) (l.length+1) ((l.map λ(d:Nat)=>Value.int .i64 (d:Int))++[VU VA 0])):Row w g cap (l++[0]):=by
 refine tQ h V5 (λj hj=> ?_);simp only[VD,List.length_singleton] at hj;by_cases hlt:j<l.length
 ·rw[List.getElem?_append_left (by simpa using hlt),List.getElem?_map,Vt hlt];have:fv (l++[0]) j=l[j]:=by unfold fv;simp[List.getElem?_append_left hlt,hlt]
  rw[this];rfl
 ·have e:j=l.length:=VY;subst e;have:fv (l++[0]) l.length=0:=by unfold fv;simp
  rw[this];simp
def Ec(w:Vl)(a b:List Nat)(va vb:Vr)(ha:bE w w.heap.size va a)(hb:bE w w.heap.size vb b)(hca:Canon a)(hcb:Canon b)(hlen:a.length<=400000)(h2:2<=b.length)(hge:val b<=val a):
  VC prog 297 #[va,vb] w (oE w a b):=by
 have hbl:b.length<=a.length:=by
  rcases Nat.lt_or_ge a.length b.length with h|h
  ·have:=bP hca.small hcb.trim h;omega
  ·exact h
 have hcmp:=Vk (jq (w.alloc (.cells #[VQ Vo 0 0] 25)) a b va vb (ha.new _) (hb.new _) hca hcb VY);have HA:=Vk ha;have HB:=Vk hb;obtain⟨A,ca,rfl,_,_,hac⟩:=ha;obtain⟨A',cb,rfl,hb1,hb2,hbc⟩:=hb;clear hac;obtain⟨bb,bo,rfl,hbb,hcell⟩:=hbc VY;have hx:=hcell (b.length-1) VY;have ht1:1<=fv b (b.length-1):=by
  rcases mM b with rfl|⟨m,d,rfl⟩
  ·simp at h2
  ·have:=hcb.trim.last;exact Yu
 have ht2:fv b (b.length-1)<1000000000:=aA hcb.small _;clear hbc hcell;unfold VJ at *;have hb1e:((b.length:Int)==1)=Vp:=We;refine(callsIn_wide (n:=9)).1 (callsIn_of_wp_marks func297 rfl trivial ?_);simp only[ntmps297,List.size_toArray,List.length_cons,List.length_nil,Nat.reduceAdd,Nat.reduceSub,Array.replicate_succ,Array.replicate_zero,List.push_toArray,List.append_toArray,List.nil_append,List.cons_append];gi_wp2_with(refine⟨trivial,?_⟩;gi_at_call 327;refine(callsIn_wide.2 hcmp.o).mono ?_;clear hcmp;rintro e w1 ⟨c,rfl,h1,h2,hB⟩;have hc:¬c<0:=(λh=>absurd (h1.1 h) VY);clear h1 h2;have b1:=((Bx.new w 25 (VQ Vo 0 0)).below hB V5);have x1:w1.cell? ⟨bb,bo+(b.length-1),Vo⟩=Vq (VU VA (fv b (b.length-1))):=((hB.cell (p:=⟨bb,bo+(b.length-1),Vo⟩) Wa).trans (Vl.cell?_alloc_lt w _ ⟨bb,bo+(b.length-1),Vo⟩ hbb)).trans hx)
 obtain⟨f,hf,hf1,hf2⟩:=EP ht1 ht2;rw[hf];have hB1:VL w.heap.size w w1:=((Below.refl _ _).alloc (Vm _) _).trans (hB.mono V5);have hN1:w.heap.size<w1.heap.size:=b1.lt;have fsm:Small [f]:=by intro x hx;rw[List.mem_singleton.1 hx];exact hf2
 have one1:=row_one w1 f;refine⟨trivial,(callsIn_wide.2 (rj (w1.alloc (.cells #[VU VA f] 3)) a [f] _ _ ((HA.o.grow hB1).new _) (one1.sl one1.lt) hca.small fsm VY V5)).mono ?_⟩;rintro e w2 ⟨v,l,rfl,⟨gu,cu,rfl,hgu,hru⟩,hcl,hvl,hll,hB2⟩;have hgu':w1.heap.size<gu:=by simp at hgu;omega
 have hll':l.length<=a.length+2:=by simp at hll;omega
 have hB02:VL w.heap.size w w2:=hB1.trans (((Below.refl _ _).alloc VY _).trans (hB2.mono Wa));have b2:=(b1.alloc (.cells #[VU VA f] 3)).below hB2 Wa;have hown:=Ez (base:=w1.heap.size+1) hru hgu';obtain⟨i0,hi,hz0,hz1,hz2⟩:=info_parts dS;have hN2:w1.heap.size+1<=w2.heap.size:=by have:=hB2.size;simpa using this
 have H:=Vk hf;clear hf x1 hx;gi_wp2_with(gi_at_builtin;refine wpListIn_append_own _ rfl _ _ 25 rfl (w1.heap.size+1) 3 i0 (VU VA 0) 1 8 underlying25 hi hz0 hz1 hz2 rfl V0 _ _ _ rfl (hown.alloc _) ⟨w2.heap.size,0,Vo⟩ 1 1 [VU VA 0] rfl rfl (cell_one_new _ _ _) WQ Wc VY Wa ?_;intro v' w3 hown3 hgrow _;obtain⟨gv,capv,rfl⟩:=ownsRow_succ hown3)
 have hru3:Row w3 gv capv (l++[0]):=Oe hown3;have hgv:w1.heap.size+1<=gv:=(hown3.lt gv rfl).1;have hgl:gv<w3.heap.size:=hru3.lt;have hB03:VL w.heap.size w w3:=(hB02.alloc VY _).grown hgrow Wa (λk e=>by have e':gu=k:=VN e;omega);have b3:Bx w3 w.heap.size 25 (VQ Vo 0 0):=(hgrow.block _ Wa (λe=>by have e':w.heap.size=gu:=VN e;omega)).trans (b2.alloc _);have one3:=row_one w3 f;have hN3:w.heap.size<w3.heap.size:=b3.lt;clear hgrow hown3 hown hru b2 one1 b1 hB2;refine⟨trivial,(callsIn_wide.2 (rj (w3.alloc (.cells #[VU VA f] 3)) b [f] _ _ ((HB.o.grow hB03).new _) (one3.sl one3.lt) hcb.small fsm VY V5)).mono ?_⟩;rintro e w4 ⟨v,tv,rfl,⟨gb,cv,rfl,hgb,hrv⟩,hcv,hvv,hlv,hB4⟩;have hgb':w3.heap.size<gb:=by simp at hgb;omega
 have hlv':tv.length<=b.length+2:=by simp at hlv;omega
 have hru4:=(hru3.alloc (.cells #[VU VA f] 3)).below hB4 Wa;have b4:=(b3.alloc (.cells #[VU VA f] 3)).below hB4 Wa;have hB04:VL w.heap.size w w4:=hB03.trans (((Below.refl _ _).alloc VY _).trans (hB4.mono Wa));have hN4:w3.heap.size+1<=w4.heap.size:=by have:=hB4.size;simpa using this
 have hgbl:gb<w4.heap.size:=hrv.lt;clear b3 hru3 one3 hB4 hB03 hB02 hi hz0 hz1 hz2;have c0:=b4.cell;have f0:=b4.frozen;have hla:a.length<=l.length:=by
  rcases Nat.lt_or_ge l.length a.length with h|h
  ·have h1:=bP hcl.small hca.trim h;have h3:val a*1<=val a*f:=Nat.mul_le_mul_left _ hf1;rw[hvl,val_one] at h1;omega
  ·exact h
 have hnot:decide ((l.length:Int)+1<(a.length:Int)+1)=Vp:=Wa;gi_wp2_with fail
 gi_loopw [44] (λ_ wr=>wr=((w4.alloc (.cells #[VQ (Vq ⟨gv,0,Vo⟩) (l.length+1) capv] 25)).alloc (.cells #[VQ (Vq ⟨gb,0,Vo⟩) tv.length cv] 25))) (λ_ _=>0)
 case atStart=>rfl
 case round=>
  subst hrel;have hvge:val b<=val tv:=by rw[hvv,val_one];exact Nat.le_mul_of_pos_right _ hf1
  have htb:b.length<=tv.length:=by
   rcases Nat.lt_or_ge tv.length b.length with h|h
   ·have:=bP hcv.small hcb.trim h;omega
   ·exact h
  have htl:tv.length<=l.length:=by
   rcases Nat.lt_or_ge l.length tv.length with h|h
   ·have h1:=bP hcl.small hcv.trim h;rw[hvl,hvv] at h1;have:val b*val [f]<=val a*val [f]:=Nat.mul_le_mul_right _ hge;omega
   ·exact h
  obtain⟨mq,hmq⟩:∃mq,l.length+1=mq+tv.length:=⟨l.length+1-tv.length,VY⟩;have em:(l.length:Int)+1-tv.length=(mq:Int):=VY;have hmk:=lz mq VY;rw[<-em] at hmk;have HM:=Vk hmq;have HE:=Vk em;have hlt4:w.heap.size<w4.heap.size:=VY;have hne4:¬w.heap.size=w4.heap.size:=VY;have hne5:¬w.heap.size=w4.heap.size+1:=VY;have hne6:¬w.heap.size=w4.heap.size+1+1:=VY;have hl4:w.heap.size<w4.heap.size+1:=VY;have hl5:w.heap.size<w4.heap.size+1+1:=VY;clear hmq em hnot;gi_wp2_with(refine⟨trivial,?_⟩;gi_at_call 330;refine(callsIn_wide.2 (ir _ _ _ _)).mono ?_;rintro e w' ⟨rfl,rfl⟩)
  have hmq:=HM.o;refine fe (gf:=347) (lb:=#[VT (Vq ⟨w4.heap.size+3,0,Vo⟩)]) rfl (enters_of func347 VZ rfl)
   (fQ (w4.heap.size+3) (Vq ⟨w4.heap.size+2,0,Vo⟩) mq mq (λ_ _=>True) VY) (λk x ⟨_,_,e⟩=>XC)
   (R9 w w4.heap.size gv capv gb cv tv (val a*f) mq (l.length+1)) (λ_ _ _=>False) (λk W W' ⟨u,q,h⟩ hs=>⟨u,q,h.stays hs Wa⟩) (λc k W W' h hs=>h) (λk W ⟨u,q,h⟩=>h.back) ?start ?round ?done ?stop
  case start=>
   have hsz:(w4.setCell ⟨w.heap.size,0,Vo⟩ (VQ (Vq ⟨w4.heap.size+1+1,0,Vo⟩) mq mq)).heap.size=w4.heap.size:=by simp[World.setCell]
   have hz:=re (((w4.setCell ⟨w.heap.size,0,Vo⟩ (VQ (Vq ⟨w4.heap.size+1+1,0,Vo⟩) mq mq)).alloc (.cells #[VQ (Vq ⟨gv,0,Vo⟩) (l.length+1) capv] 25)).alloc (.cells #[VQ (Vq ⟨gb,0,Vo⟩) tv.length cv] 25)) mq VY;simp only[VF,hsz] at hz;have hsm:Small (l++[0]):=hcl.small.snoc V0;refine⟨l++[0],List.replicate mq 0,((((b4.put _).alloc _).alloc _).alloc _).alloc _,(((Bx.at_ hsz).alloc _).alloc _).alloc _,((Bx.at_ (by simp[hsz])).alloc _).alloc _,Bx.at_ (by simp[hsz]),?_,?_,hz.alloc _,V5,V5,?_,?_⟩
   ·exact((((hru4.dx Wa _).alloc _).alloc _).alloc _).alloc _
   ·exact((((hrv.dx Wa _).alloc _).alloc _).alloc _).alloc _
   ·refine J6.start hsm Wa (by rw[pk,hvl,val_one]) (by unfold fv;simp) VY (uX hcv.trim (by intro h0;rw[h0,List.length_nil] at htb;omega))
   ·have h1:VL w.heap.size w (w4.setCell ⟨w.heap.size,0,Vo⟩ (VQ (Vq ⟨w4.heap.size+1+1,0,Vo⟩) mq mq)):=hB04.setCell (p:=⟨w.heap.size,0,Vo⟩) (Vm _) _;exact(((h1.alloc (by rw[hsz];omega) _).alloc (by simp[hsz];omega) _).alloc (by simp[hsz];omega) _).alloc (by simp[hsz];omega) _
  case round=>
   have hn2:2<=tv.length:=VY;have hgw:w.heap.size<gv:=VY;have hguN:gv<w4.heap.size:=VY;have hgg:gv≠gb:=VY;have hm4:l.length+1<=500000:=VY;have hv1:1<=fv tv (tv.length-1):=by
    rcases mM tv with rfl|⟨m,d,rfl⟩
    ·exact absurd hn2 V5
    ·have:=hcv.trim.last;exact Yu
   have hvs:=hcv.small;clear hvge htb htl hmk HE hla c0 f0 b4 hru4 hrv hcl hvl hvv hcv hll hlv hll' hlv' hgu hgu' hgb hgb' hgv hgl hB04 hB1 hB hN1 hN2 hN3 hN4 ht1 ht2 fsm H HA HB hca hcb hbb hb1 hb2 hc hb1e hbl hge h2 hlen;intro lp k x W K hk hx hi hK;obtain⟨v,_,rfl⟩:=hx;have HK:=Vk hK;clear hK
   gi_wp2
   refine HK.o _ (λW2 hi2 _=> ?_);clear HK hi;obtain⟨u,q,h⟩:=hi2;have c1:=h.bq.cell;have c2:=h.bu.cell;have c3:=h.bv.cell;have hlu:=h.lu;have hlq:=h.lq;have hdl:=h.dm.len;have htop:=h.dm.top (v:=tv) VY hvs rfl VY rfl;have hlt:=h.dm.lt VY;rw[hlq] at htop hlt;have HE1:=Vk (zj W2 gv capv u tv (Vq ⟨gb,0,Vo⟩) cv (mq-1-k) W2.heap.size h.ru (h.rv.sl h.rv.lt) h.dm.small hvs hn2 VY VY hv1 htop hlt);have h':=Vk h;rw[hlu] at HE1;have HDL:=Vk hdl;have HLQ:=Vk hlq;have HLU:=Vk hlu;have hml:mq<=500000:=VY;clear htop hlt hlu hlq hdl h hmq;gi_wp2_with(refine⟨trivial,?_⟩;gi_at_call 331;refine(CallsIn.inRound lp (callsIn_wide.2 HE1.o)).mono ?_;clear HE1;rintro e w5 ⟨d,n5,rfl,hd1,hd2,rfl⟩)
   have HD:=Vk hd1;clear hd1
   gi_loopw [10] (λd wr=>Oq W2 gv capv tv u (mq-1-k) d wr) (λd _=>(VG d).toNat)
   case atStart=>exact⟨d,u,rfl,h'.o.ru,rfl,h'.o.dm.small,λ_ _=>rfl,rfl,HD.o,hd2,(dO.refl _ _).drewN n5⟩
   case round=>
    obtain⟨d',x,rfl,hrel⟩:=hrel;clear HD hd2;have e1:=(h'.o.bu.only hrel.only VY);have e2:=(h'.o.bv.only hrel.only VY);have g1:=e1.cell;have g2:=e2.cell;have g3:=e1.frozen;have HT:=Vk (MB wr gv capv x tv (VQ (Vq ⟨gb,0,Vo⟩) tv.length cv) (mq-1-k) d' hrel.row ((h'.o.rv.only hrel.only (Ne.symm hgg)).SW (Ne.symm hgg)) hrel.small hvs (by have:=hrel.len;have:=HLU.o;have:=HM.o;omega) hrel.bound (by have:=hrel.len;have:=HLU.o;omega));rw[hrel.len,HLU.o] at HT;have HR:=Vk hrel;clear hrel;gi_wp2_with fail
    refine⟨trivial,(CallsIn.inRound lp (callsIn_wide.2 HT.o)).mono ?_⟩;clear HT;rintro e w6 ⟨c,y,rfl,ht⟩;have O6:=HR.o.only.trans ht.2.2.2.2.2.2;have p1:=h'.o.bq.only O6 VY;have p2:=h'.o.bu.only O6 VY;have p3:=h'.o.bv.only O6 VY;have q1:=p1.cell;have q2:=p2.cell;have q2f:=p2.frozen;have q3:=p3.cell;by_cases hc0:c=0
    ·subst hc0;have hn:=h'.o.next hk hvs hgw hguN hgbl hgg hlt4 HR.o ht;have hd9:=hn.1;have HN:=Vk hn.2;have z1:=(h'.o.rq.only O6 VY).cell (j:=mq-1-k) (by rw[h'.o.lq];omega);have z2:=(h'.o.rq.only O6 VY).frozen (mq-1-k);have i1:((mq-1-k:Nat):Int)<mq:=VY;clear ht O6 p1 p2 p3 hn e1 e2;gi_wp2_with fail
     exact⟨HN.o.1,_,_,HN.o.2⟩
    ·have hcp:0<c:=VY;have hcb:decide (0<c)=Vv:=by simpa using hcp
     have hyl:=ht.2.1;have hxl:=HR.o.len;have HRS:=Vk (Bg w6 gv capv y tv (VQ (Vq ⟨gb,0,Vo⟩) tv.length cv) (mq-1-k) d' ht.1 ((h'.o.rv.only O6 (Ne.symm hgg)).SW (Ne.symm hgg)) ht.2.2.1 hvs (by have:=HLU.o;have:=HM.o;omega) HR.o.bound (by have:=HLU.o;omega));rw[hyl,hxl,HLU.o] at HRS;have HTk:=Vk ht;have HY:Hid (y.length=l.length+1):=by rw[hyl,hxl,HLU.o];exact Vk rfl
     have hdb:=HR.o.bound;clear ht p1 p3 hyl hxl e1 e2 hc0;gi_wp2_with(refine⟨trivial,?_⟩;gi_at_call 333;refine(CallsIn.inRound lp (callsIn_wide.2 HRS.o)).mono ?_;clear HRS;rintro e w7 ⟨c2,z,rfl,hr7⟩;have hless:=HR.o.less HTk.o hr7 hcp;have hle1:=hless.1;have HL:=Vk hless.2;have y2:=p2.only hr7.2.2.2.2.2.2 VY;have y2c:=y2.cell;have y2f:=y2.frozen;clear hless hr7)
     rw[HY.o];have hfin:=HL.o;have e9:(d':Int)-1=((d'-1:Nat):Int):=VY;rw[e9];exact⟨⟨d'-1,z,rfl,hfin.row.dx (p:=⟨w4.heap.size,0,Vo⟩) Wa _,hfin.len,hfin.small,hfin.same,hfin.seg,hfin.lt,hfin.bound,hfin.only.again y2⟩,V7⟩
  case done=>
   rintro D W hD ⟨u,q,h⟩ hK;have hsm:=h.dm.small;have hbl4:0<val b:=Nat.lt_of_lt_of_le (by decide:0<1) (VB (Nat.one_le_pow _ _ V0) (uX hcb.trim (by intro h0;rw[h0,List.length_nil] at h2;omega)));have hdone:val q=val a/val b/\val u=(val a%val b)*f:=by
    have hd:=h.dm;rw[hvv,val_one] at hd;rw[<-h.lq] at hd;exact hd.done hf1 hbl4
   have hT:=Vk (kH h.ru h.lu);have hru:=h.ru.trimmed;have hlt:(az u).length<=l.length+1:=by have:=aR u;have:=h.lu;omega
   have hDS:=Vk (we W (az u) (VQ (Vq ⟨gv,0,Vo⟩) (az u).length capv) f (hru.sl hru.lt) (ei hsm).small hf1 hf2 VY);have c2:=h.bu.cell;have HH:=Vk h;have HDn:=Vk hdone;clear hvge htb htl hmk HE hla c0 f0 b4 hru4 hrv hcl hvl hvv hcv hll hlv hll' hlv' hgu hgu' hgb hgb' hgv hgl hB04 hB1 hB hN1 hN2 hN3 hN4 ht1 ht2 fsm H HA HB hca hcb hbb hb1 hb2 hc hb1e hbl hge h2 h hdone hru hsm hbl4 hmq HM;gi_wp2_with(first
    |(refine⟨trivial,?_⟩;gi_at_call 328;refine(callsIn_wide.2 hDS.o).mono ?_;clear hDS;rintro e w6 ⟨vq,vr,ql,rl,rfl,⟨gq,cq,rfl,hgq,hrq⟩,hcq,hvq,⟨gr,cr,rfl,hgr,hrr⟩,hcr,hvr,hB6⟩;have p1:=HH.o.bq.below hB6 HH.o.bq.lt;have q1:=p1.cell;have q2:=p1.frozen;have hT2:=Vk (kH (HH.o.rq.below hB6 HH.o.rq.lt) HH.o.lq))
    |(refine⟨trivial,?_⟩;gi_at_call 326;have _t:=hT;refine(callsIn_wide.2 hT.o).mono ?_;clear hT;rintro e w' ⟨rfl,rfl⟩)
    |(refine⟨trivial,?_⟩;gi_at_call 326;refine(callsIn_wide.2 hT2.o).mono ?_;clear hT2;rintro e w' ⟨rfl,rfl⟩))
   obtain⟨X,hX⟩:∃X,w6.setCell ⟨w.heap.size,0,Vo⟩ (VQ (Vq ⟨w4.heap.size+2,0,Vo⟩) (az q).length mq)=X:=⟨_,rfl⟩;have hWw:w.heap.size<W.heap.size:=HH.o.bq.lt;have hDk:w6.heap[D]?=Vq (.deferred (Vq [])):=(hB6.block D (Vz.1 hK).1).trans hK;have k1:X.heap[D]?=Vq (.deferred (Vq [])):=by rw[<-hX];exact(KeepsOthers.setCell _ _ _).same D _ hDk rfl
   have k2:Bx X w.heap.size 25 (VQ (Vq ⟨w4.heap.size+2,0,Vo⟩) (az q).length mq):=by rw[<-hX];exact p1.put _
   have k3:Row X (w4.heap.size+2) mq (az q):=by rw[<-hX];exact((HH.o.rq.below hB6 HH.o.rq.lt).dx Wa _).trimmed
   have k4:Row X gq cq ql:=by rw[<-hX];exact hrq.dx Wa _
   have k5:VL w.heap.size w X:=by rw[<-hX];exact(HH.o.low.trans (hB6.mono VY)).setCell (p:=⟨w.heap.size,0,Vo⟩) (Vm _) _
   rw[hX];have hs:=aE.putObj (n0:=w.heap.size) (.deferred Vo) k1 rfl Xj;have hcl:=hs.cell k2.cell;refine⟨V5,.inl ⟨_,_,rfl,run_takeDeferred k1,?_⟩⟩;have r1:=k3.stays hs;have r2:=k4.stays hs;refine⟨VX #[VQ (Vq ⟨w4.heap.size+2,0,Vo⟩) (az q).length mq,VQ (Vq ⟨gq,0,Vo⟩) ql.length cq],by simp[results,results297,go_sem,hcl],_,_,az q,ql,rfl,r1.sl r1.lt,ei HH.o.dm.smallq,?_,r2.sl r2.lt,hcq,?_,k5.trans hs.below⟩
   ·rw[gR];exact HDn.o.1
   ·rw[hvq,gR,HDn.o.2,Nat.mul_div_cancel _ hf1]
  case stop=>
   rintro D c k W hD hk h;exact h.elim
def E6(w:Vl)(a b:List Nat)(va vb:Vr)(ha:bE w w.heap.size va a)(hb:bE w w.heap.size vb b)(hca:Canon a)(hcb:Canon b)(hlen:a.length<=400000)(hb0:b≠[]):
  VC prog 297 #[va,vb] w (oE w a b):=by
 rcases Nat.lt_or_ge (val a) (val b) with hlt|hge
 ·exact DS w a b va vb ha hb hca hcb VY hlt
 ·match b,hb0 with
  |[d],_=>exact FQ w a d va vb ha hb hca hcb VY hge
  |d::d2::r,_=>exact Ec w a _ va vb ha hb hca hcb hlen V5 hge
end
end Go.Proofs.YtmliacdegmklaaaGreatDoor
namespace Kp
def val_inj{a b:List Nat}(ha:Canon a)(hb:Canon b)(h:val a=val b):a=b:=by
 have hl:a.length=b.length:=by
  rcases Nat.lt_trichotomy a.length b.length with hlt|heq|hgt
  ·have:=bP ha.small hb.trim hlt;omega
  ·exact heq
  ·have:=bP hb.small ha.trim hgt;omega
 unfold val at h;rw[<-hl] at h;have hk:=Tm (λk _=>aA ha.small k) (λk _=>aA hb.small k) h;refine List.ext_getElem hl (λi h1 h2=> ?_);have:=hk i h1;rwa[lP h1,lP h2] at this
open Classical in
noncomputable def cH(n:Nat):List Nat:=if h:∃l,Canon l/\val l=n then Classical.choose h else []
def mE{l:List Nat}{n:Nat}(h:Canon l)(hv:val l=n):cH n=l:=by
 have hx:∃l,Canon l/\val l=n:=⟨l,h,hv⟩;unfold cH;rw[dif_pos hx];have:=Classical.choose_spec hx;exact val_inj this.1 h (this.2.trans hv.symm)
end Kp
namespace Go.Proofs.YtmliacdegmklaaaGreatDoor
section
variable {P : Program} {ops : Array Oper} {Q : Exit → Act → Vl → Prop} {md : Region.Mode}
abbrev Ext(w w':Vl):Prop:=VL w.heap.size w w'
def Ext.size{w w':Vl}(h:Ext w w'):w.heap.size<=w'.heap.size:=Below.size h
def wk(listed:Array Bool):Nat->Nat
 |0=>0
 |n+1=>wk listed n+if listed.getD n Vp=Vv then 0 else 1
def nF{listed:Array Bool}{n:Nat}(h:wk listed n=0):∀i,i<n->listed.getD i Vp=Vv:=by
 induction n with
 |zero=>intro i hi;omega
 |succ n ih=>
  rw[wk] at h;intro i hi;by_cases hin:i=n
  ·subst hin;by_cases hl:listed.getD i Vp=Vv
   ·exact hl
   ·rw[if_neg hl] at h;omega
  ·exact ih VY i VY
def tj{listed:Array Bool}{n m:Nat}(h:wk listed n=m+1):∃i,i<n/\listed.getD i Vp=Vp/\∀j,j<i->listed.getD j Vp=Vv:=by
 induction n generalizing m with
 |zero=>rw[wk] at h;omega
 |succ n ih=>
  rw[wk] at h;by_cases h0:wk listed n=0
  ·have hl:¬listed.getD n Vp=Vv:=λhl=>by rw[if_pos hl] at h;omega
   exact⟨n,VY,XJ,nF h0⟩
  ·obtain⟨i,hi,h1,h2⟩:=ih (m:=wk listed n-1) VY;exact⟨i,VY,h1,h2⟩
def sU{listed:Array Bool}{n i m:Nat}(hi:i<n)(hs:n<=listed.size)(hl:listed.getD i Vp=Vp)(h:wk listed n=m+1):wk (listed.setIfInBounds i Vv) n=m:=by
 have key:∀n,n<=listed.size->wk (listed.setIfInBounds i Vv) n+(if i<n then 1 else 0)=wk listed n:=by
  intro n
  induction n with
  |zero=>intro _;rw[wk,wk];simp
  |succ n ih=>
   intro hs;have:=ih VY;rw[wk,wk];by_cases hin:i=n
   ·subst hin;have e:(listed.setIfInBounds i Vv).getD i Vp=Vv:=by simp[show i<listed.size by omega]
    rw[if_pos e,hl];simp at this⊢;omega
   ·rw[getD_set_ne Vp hin];by_cases hlt:i<n
    ·rw[if_pos hlt] at this;rw[if_pos (show i<n+1 by omega)];omega
    ·rw[if_neg hlt] at this;rw[if_neg (show¬i<n+1 by omega)];omega
 have:=key n hs;rw[if_pos hi] at this;omega
structure S9(n:Nat)(D:Vl->Prop)(V:Nat->Vr->Vl->Prop)(fr:Nat->Bool)(listed:Array Bool)(vs:Nat->Vr)(w:Vl):Prop where
 d:D w
 v:∀i,i<n->listed.getD i Vp=Vv->V i (vs i) w
 ne:∀i j,i<n->j<n->i≠j->fr i=Vv->fr j=Vv->listed.getD i Vp=Vv->listed.getD j Vp=Vv->vs i≠vs j
def Mc(ops:Array Oper)(n:Nat):Bool:=(List.range n).all λi=>((ops[i]?).map λo=>o.after.all λe=>decide (e.on<i)).getD Vp
def lV{n i:Nat}{o:Oper}(h:Mc ops n=Vv)(hi:i<n)(ho:ops[i]?=Vq o):∀e∈o.after,e.on<i:=by
 have:=List.all_eq_true.1 h i (List.mem_range.2 hi);rw[ho] at this;simp only[Option.map_some,Option.getD_some] at this;intro e he;have:=Array.all_eq_true_iff_forall_mem.1 this e he;exact Ya
def EI{n:Nat}{tl:List Oper}(F:(Nat->Vr)->Act)(D:Vl->Prop)(V:Nat->Vr->Vl->Prop)(fr:Nat->Bool)
  (hs:Region.sinkB md ops n=Vv)(hc:Region.chainB md ops n=Vv)(hn:n<ops.size)
  (hseq:Region.seqB md ops (ops.size-n) n (Array.replicate n Vv++Array.replicate (ops.size-n) Vp)=Vv)(hlex:Mc ops n=Vv)
  (htl:tl.length=ops.size-n)(htl':∀j,tl[j]?=ops[n+j]?)
  (hD:∀w w',D w->Ext w w'->D w')(hV:∀i v w w',V i v w->Ext w w'->V i v w')
  (hfr:∀i v w,i<n->fr i=Vv->V i v w->∃b,v=VT (Vq ⟨b,0,Vo⟩)/\b<w.heap.size)
  (step:∀i o vs w,i<n->ops[i]?=Vq o->D w->(∀e∈o.after,Region.binds md e=Vv->V e.on (vs e.on) w)->
   wpOp P ops Q i (λa' w'=>∃v,a'=F (λj=>if j=i then v else vs j)/\Ext w w'/\V i v w'/\(fr i=Vv->∃b,v=VT (Vq ⟨b,0,Vo⟩)/\w.heap.size<=b)) (F vs) w)
  (tail:∀vs w,D w->(∀i,i<n->V i (vs i) w)->(∀i j,i<n->j<n->i≠j->fr i=Vv->fr j=Vv->vs i≠vs j)->wpList P ops Q tl (F vs) w):
  ∀(f:Nat) (listed:Array Bool) (vs:Nat->Vr) (w:Vl),HeadInv md ops n listed->wk listed n=f->S9 n D V fr listed vs w->wpAny P md ops Q (f+(ops.size-n)) listed (F vs) w:=by
 intro f
 induction f with
 |zero=>
  intro listed vs w inv hu hI;have hall:=nF hu;have he:listed=Array.replicate n Vv++Array.replicate (ops.size-n) Vp:=by
   exact YN
  rw[Nat.zero_add,<-htl];refine wpAny_of_seq tl n listed (F vs) w htl' (by rw[htl,he];exact hseq) ?_;exact YM
 |succ f ih=>
  intro listed vs w inv hu hI;obtain⟨i0,hi0,hun0,hbef⟩:=tj hu;have hi0s:i0<listed.size:=Xa;rw[show f+1+(ops.size-n)=(f+(ops.size-n))+1 by omega];refine⟨λh0=> ?_,λi hi=> ?_⟩
  ·exact YL
  ·have hin:i<n:=by
    exact YK
   obtain⟨hun,o,ho,hdep⟩:=mem_ready.1 hi;have hun':=getD_both hun;refine wpOp_mono ?_ (step i o vs w hin ho hI.d (λe he hb=>hI.v _ (by have:=lV hlex hin ho e he;omega) (hdep e he hb)));exact YJ
def Sg:Exit->Act->Vl->Prop:=λ_ _ _=>False
def GF:¬LetsOut Sg:=λ⟨_,_,h⟩=>h
def Oper.Ni{o:Oper}{a:Act}{w:Vl}{K:Act->Vl->Prop}(h:o.wp P a w K Sg):o.wp P a w K Q:=by
 unfold Oper.wp at *;generalize(execOp a.eval o).run P w=r at *;cases r with
 |ok x w'=>
  cases x with
  |value v=>exact h
  |skip=>exact h
  |defer d=>exact h
  |enter f args=>exact VC.mono h (λe w'' he=>by cases e<;>first|exact he|exact absurd he GF|exact he.elim)
  |row row args=>exact h
  |_=>exact h.elim
 |halt x w'=>
  cases x with
  |panic v=>exact h.elim
  |_=>exact h.elim
structure kj(P:Program)(Fc:Fence)(mm:Nat):Prop where
 op:∀(o:Oper) (a:Act) (w:Vl) (K:Act->Vl->Prop) (Q:Exit->Act->Vl->Prop),(∀c,o.op≠ .defer c)->o.wp P a w K Q->o.wpIn Fc mm P a w K Q
 fn:∀f,Fc.fn f
def aY(l mm:Nat):kj P (Fence.wide.inRound l) mm:=⟨λ_ _ _ _ _ hd h=>Oper.Cj hd h,λ_=>trivial⟩
def Cs(mm:Nat):kj P Fence.wide mm:=by
 refine⟨λo a w K Q hd h=>⟨λ_ _=>trivial,?_⟩,λ_=>trivial⟩;show Oper.uponIn _ _ _ _ _ _ _ ((o.semAt Vo a.eval).run P w);unfold Oper.wp at h;have e:o.semAt Vo a.eval=execOp a.eval o:=rfl;rw[e];generalize(execOp a.eval o).run P w=r at *;cases r with
 |ok x w'=>
  cases x with
  |value v=>exact h
  |skip=>exact h
  |defer d=>exact h
  |enter f args=>exact⟨λh=>V6,callsIn_wide.2 h⟩
  |row row args=>exact⟨λh=>V6,rD (n:=mm-1) h⟩
  |_=>exact h.elim
 |halt x w'=>
  cases x with
  |panic v=>exact h
  |_=>exact h.elim
def rU{Fc:Fence}{mm:Nat}(hP:kj P Fc mm)(hnd:iU ops=Vv){i:Nat}{K:Act->Vl->Prop}{a:Act}{w:Vl}(h:wpOp P ops Sg i K a w):wpOpIn Fc mm P ops Q i K a w:=by
 unfold wpOp at h;unfold wpOpIn;cases ho:ops[i]? with
 |none=>rw[ho] at h;exact h
 |some o=>
  rw[ho] at h;simp only at h⊢;split
  ·rename_i hw;rw[if_pos hw] at h;rcases h with h|⟨_,h⟩
   ·exact hP.op o a w K Q (λc=>mG hnd ho c) (Oper.Ni h)
   ·exact absurd h GF
  ·rename_i hw;rw[if_neg hw] at h;exact⟨λf _=>hP.fn f,h⟩
def kx{Fc:Fence}{mm:Nat}(hP:kj P Fc mm):∀(l:List Oper) (k:Nat) (listed:Array Bool) (a:Act) (w:Vl),(∀j,l[j]?=ops[k+j]?)->
  Region.seqB md ops l.length k listed=Vv->wpListIn Fc mm P ops Q l a w->wpAnyIn Fc mm P md ops Q l.length listed a w
 |[],_,_,_,_,_,hB,h=>⟨by simpa[Region.seqB] using hB,h⟩
 |o::l,k,listed,a,w,hl,hB,h=>by
  have h0:ops[k]?=Vq o:=by simpa using(hl 0).symm
  simp only[List.length_cons,Region.seqB,Bool.and_eq_true,decide_eq_true_eq] at hB;refine⟨λh1=>(by rw[hB.1] at h1;cases h1),λi hi=> ?_⟩;rw[hB.1] at hi;have hik:i=k:=Xl;subst hik;have hw:wpOpIn Fc mm P ops Q i (wpListIn Fc mm P ops Q l) a w:=by unfold wpOpIn;simp only[h0];exact h
  exact wpOpIn_mono (λa' w' h'=>kx hP l (i+1) _ a' w' (λj=>by have:=hl (j+1);simpa[Nat.add_assoc,Nat.add_comm 1 j] using this) hB.2 h') hw
def Af{Fc:Fence}{mm:Nat}(hP:kj P Fc mm)(hnd:iU ops=Vv){n:Nat}{tl:List Oper}(F:(Nat->Vr)->Act)(D:Vl->Prop)(V:Nat->Vr->Vl->Prop)(fr:Nat->Bool)
  (hs:Region.sinkB md ops n=Vv)(hc:Region.chainB md ops n=Vv)(hn:n<ops.size)
  (hseq:Region.seqB md ops (ops.size-n) n (Array.replicate n Vv++Array.replicate (ops.size-n) Vp)=Vv)(hlex:Mc ops n=Vv)
  (htl:tl.length=ops.size-n)(htl':∀j,tl[j]?=ops[n+j]?)
  (hD:∀w w',D w->Ext w w'->D w')(hV:∀i v w w',V i v w->Ext w w'->V i v w')
  (hfr:∀i v w,i<n->fr i=Vv->V i v w->∃b,v=VT (Vq ⟨b,0,Vo⟩)/\b<w.heap.size)
  (step:∀i o vs w,i<n->ops[i]?=Vq o->D w->(∀e∈o.after,Region.binds md e=Vv->V e.on (vs e.on) w)->
   wpOp P ops Sg i (λa' w'=>∃v,a'=F (λj=>if j=i then v else vs j)/\Ext w w'/\V i v w'/\(fr i=Vv->∃b,v=VT (Vq ⟨b,0,Vo⟩)/\w.heap.size<=b)) (F vs) w)
  (tail:∀vs w,D w->(∀i,i<n->V i (vs i) w)->(∀i j,i<n->j<n->i≠j->fr i=Vv->fr j=Vv->vs i≠vs j)->wpListIn Fc mm P ops Q tl (F vs) w):
  ∀(f:Nat) (listed:Array Bool) (vs:Nat->Vr) (w:Vl),HeadInv md ops n listed->wk listed n=f->S9 n D V fr listed vs w->wpAnyIn Fc mm P md ops Q (f+(ops.size-n)) listed (F vs) w:=by
 intro f
 induction f with
 |zero=>
  intro listed vs w inv hu hI;have hall:=nF hu;have he:listed=Array.replicate n Vv++Array.replicate (ops.size-n) Vp:=by
   exact YN
  rw[Nat.zero_add,<-htl];refine kx hP tl n listed (F vs) w htl' (by rw[htl,he];exact hseq) ?_;exact YM
 |succ f ih=>
  intro listed vs w inv hu hI;obtain⟨i0,hi0,hun0,hbef⟩:=tj hu;have hi0s:i0<listed.size:=Xa;rw[show f+1+(ops.size-n)=(f+(ops.size-n))+1 by omega];refine⟨λh0=> ?_,λi hi=> ?_⟩
  ·exact YL
  ·have hin:i<n:=by
    exact YK
   obtain⟨hun,o,ho,hdep⟩:=mem_ready.1 hi;have hun':=getD_both hun;refine wpOpIn_mono ?_ (rU hP hnd (step i o vs w hin ho hI.d (λe he hb=>hI.v _ (by have:=lV hlex hin ho e he;omega) (hdep e he hb))));exact YJ
def qu(m n:Nat):wk (Array.replicate m Vp) n=n:=by
 induction n with
 |zero=>rfl
 |succ n ih=>rw[wk,ih,getD_replicate_false];simp
def IL(ops:Array Oper)(n:Nat):Bool:=
 decide (n<ops.size)&&Region.sinkB .any ops n&&Region.chainB .any ops n&&Region.seqB .any ops (ops.size-n) n (Array.replicate n Vv++Array.replicate (ops.size-n) Vp)&&Mc ops n
def bM{l:List Oper}(n:Nat)(F:(Nat->Vr)->Act)(D:Vl->Prop)(V:Nat->Vr->Vl->Prop)(fr:Nat->Bool)(hB:IL l.toArray n=Vv)
  (hD:∀w w',D w->Ext w w'->D w')(hV:∀i v w w',V i v w->Ext w w'->V i v w')
  (hfr:∀i v w,i<n->fr i=Vv->V i v w->∃b,v=VT (Vq ⟨b,0,Vo⟩)/\b<w.heap.size)
  (step:∀i vs w,i<n->D w->(∀j,Region.waitsFor .any l.toArray i j=Vv->V j (vs j) w)->
   wpOp P l.toArray Q i (λa' w'=>∃v,a'=F (λj=>if j=i then v else vs j)/\Ext w w'/\V i v w'/\(fr i=Vv->∃b,v=VT (Vq ⟨b,0,Vo⟩)/\w.heap.size<=b)) (F vs) w)
  (tail:∀vs w,D w->(∀i,i<n->V i (vs i) w)->(∀i j,i<n->j<n->i≠j->fr i=Vv->fr j=Vv->vs i≠vs j)->wpList P l.toArray Q (l.drop n) (F vs) w)
  (vs:Nat->Vr)(w:Vl)(h0:D w):wpAny P .any l.toArray Q l.toArray.size (Array.replicate l.toArray.size Vp) (F vs) w:=by
 simp only[IL,Bool.and_eq_true,decide_eq_true_eq] at hB;obtain⟨⟨⟨⟨hn,hs⟩,hc⟩,hseq⟩,hlex⟩:=hB;have:=EI (tl:=l.drop n) F D V fr hs hc hn hseq hlex V5 (λj=>by simp[List.getElem?_drop]) hD hV hfr
  (λi o vs w hi ho hd hdep=>step i vs w hi hd (λj hj=>by
   obtain⟨oj,hoj,e,he,hb,rfl⟩:=Region.waitsFor_spec hj;obtain rfl:=VN (ho.symm.trans hoj);exact hdep e he hb)) tail n (Array.replicate l.toArray.size Vp) vs w
  ⟨V5,λj oj _ hl=>Wu,λt _ ht=>getD_in (by simpa using ht) (getD_replicate_false _ _)⟩ (qu _ _)
  ⟨h0,λi _ hl=>Wu,λi j _ _ _ _ _ hl=>Wu⟩
 rwa[show n+(l.toArray.size-n)=l.toArray.size by omega] at this
def mW{Fc:Fence}{mm:Nat}(hP:kj P Fc mm){l:List Oper}(hnd:iU l.toArray=Vv)(n:Nat)(F:(Nat->Vr)->Act)(D:Vl->Prop)(V:Nat->Vr->Vl->Prop)(fr:Nat->Bool)(hB:IL l.toArray n=Vv)
  (hD:∀w w',D w->Ext w w'->D w')(hV:∀i v w w',V i v w->Ext w w'->V i v w')
  (hfr:∀i v w,i<n->fr i=Vv->V i v w->∃b,v=VT (Vq ⟨b,0,Vo⟩)/\b<w.heap.size)
  (step:∀i vs w,i<n->D w->(∀j,Region.waitsFor .any l.toArray i j=Vv->V j (vs j) w)->
   wpOp P l.toArray Sg i (λa' w'=>∃v,a'=F (λj=>if j=i then v else vs j)/\Ext w w'/\V i v w'/\(fr i=Vv->∃b,v=VT (Vq ⟨b,0,Vo⟩)/\w.heap.size<=b)) (F vs) w)
  (tail:∀vs w,D w->(∀i,i<n->V i (vs i) w)->(∀i j,i<n->j<n->i≠j->fr i=Vv->fr j=Vv->vs i≠vs j)->wpListIn Fc mm P l.toArray Q (l.drop n) (F vs) w)
  (vs:Nat->Vr)(w:Vl)(h0:D w):wpAnyIn Fc mm P .any l.toArray Q l.toArray.size (Array.replicate l.toArray.size Vp) (F vs) w:=by
 simp only[IL,Bool.and_eq_true,decide_eq_true_eq] at hB;obtain⟨⟨⟨⟨hn,hs⟩,hc⟩,hseq⟩,hlex⟩:=hB;have:=Af hP hnd (tl:=l.drop n) F D V fr hs hc hn hseq hlex V5 (λj=>by simp[List.getElem?_drop]) hD hV hfr
  (λi o vs w hi ho hd hdep=>step i vs w hi hd (λj hj=>by
   obtain⟨oj,hoj,e,he,hb,rfl⟩:=Region.waitsFor_spec hj;obtain rfl:=VN (ho.symm.trans hoj);exact hdep e he hb)) tail n (Array.replicate l.toArray.size Vp) vs w
  ⟨V5,λj oj _ hl=>Wu,λt _ ht=>getD_in (by simpa using ht) (getD_replicate_false _ _)⟩ (qu _ _)
  ⟨h0,λi _ hl=>Wu,λi j _ _ _ _ _ hl=>Wu⟩
 rwa[show n+(l.toArray.size-n)=l.toArray.size by omega] at this
def pn{Fc:Fence}{mm:Nat}(hP:kj P Fc mm){R:Act->Vl->Prop}(hnd:iU ops=Vv):∀(l:List Oper) (k:Nat) (a:Act) (w:Vl),(∀j,j<l.length->l[j]?=ops[k+j]?)->wpList P ops (mL R) l a w->wpListIn Fc mm P ops (Exit.then R (λ_ _ _=>False)) l a w
 |[],_,_,_,_,h=>h
 |o::l,k,a,w,hl,h=>by
  have h0:ops[k]?=Vq o:=by simpa using(hl 0 V5).symm
  have hr:=λa w=>pn hP hnd l (k+1) a w (R:=R) (λj hj=>by have:=hl (j+1) Wa;simpa[Nat.add_assoc,Nat.add_comm 1 j] using this)
  unfold wpList at h;unfold wpListIn;split
  ·rename_i hw;rw[if_pos hw] at h;rcases h with h|⟨_,_,_,h⟩
   ·refine hP.op o a w _ _ (λc=>mG hnd h0 c) ?_;refine Oper.Ni (Oper.wp_mono hr ?_);unfold Oper.wp at *;generalize(execOp a.eval o).run P w=r at *;cases r with
    |ok x w'=>
     cases x with
     |enter f args=>exact VC.mono h (λe w'' he=>by cases e<;>first|exact he|(obtain⟨_,_,he⟩:=he;exact he.elim)|exact he.elim)
     |_=>exact h
    |halt x w'=>
     cases x with
     |panic v=>exact h.elim
     |_=>exact h.elim
   ·exact h.elim
  ·rename_i hw;rw[if_neg hw] at h;exact⟨λf _=>hP.fn f,hr _ _ h⟩
def cM{Fc:Fence}{mm:Nat}(hP:kj P Fc mm){id:Nat}{l:List Oper}{a:Act}{w:Vl}(hnd:iU l.toArray=Vv)(h:wpList P l.toArray (mL (Q .normal)) l a w):(Code.region id l.toArray Vp).wpIn Fc mm P Q a w:=
 wpIn_mono (wpIn_region_lit (pn hP hnd l 0 a w (λj _=>V5) h)) (λe a w q=>by cases e<;>first|exact q|exact q.elim)
def bL{Fc:Fence}{mm:Nat}(hP:kj P Fc mm){rest:List Oper}{o:Oper}{a:Act}{w:Vl}(hgd:o.guard=Vo)(ty:VK)(x:Operand)(ho:o.op= .load ty x)
  (g:Nat)(hx:a.eval x=VT (Vq ⟨g,0,Vo⟩))(t:VK)(cs:Array Vr)(fr:Nat×Nat)(d:TypeDesc)(hg:w.heap[g]?=Vq (.cells cs t fr))
  (hu:P.underlying ty=Vq d)(hd:(match d with| .struct _| .array _ _=>Vv|_=>Vp)=Vv)(hi:(P.info? ty).map (·.size)=Vq cs.size)
  (h:wpListIn Fc mm P ops Q rest (a.put o.dst (VW cs)) w):wpListIn Fc mm P ops Q (o::rest) a w:=
 wpListIn_plain hgd λ_ hK=>hP.op _ _ _ _ _ (by rw[ho];intro c h;cases h) (wp_load_row ty x ho g hx t cs fr d hg hu hd hi (hK _ _ h))
def ks{i:Nat}{o:Oper}{a:Act}{w:Vl}{K:Act->Vl->Prop}(ho:ops[i]?=Vq o)(hg:o.guard=Vo)(h:o.wp P a w K Q):wpOp P ops Q i K a w:=by
 unfold wpOp;simp only[ho,Region.wanted,hg,if_true];exact .inl h
def Ext.aB(w:Vl):Ext w w:=Below.refl _ _
def Ext.tr{a b c:Vl}(h:Ext a b)(k:Ext b c):Ext a c:=h.trans (k.mono h.size)
def Ext.dr(w:Vl):Ext w w.drew:=(Below.refl _ _).drew
end
section
open Kp
def ak{w:Vl}{base:Nat}{e:VK}{n s:Nat}{v:Vr}{xs:List Vr}(h:w.ownsRow base e s v n xs):∀k,v.ownBlock=Vq k->base<=k/\k<w.heap.size:=by
 obtain⟨_,⟨rfl,_⟩|⟨g,cap,cur,rfl,hb,hh,_⟩⟩:=h
 ·intro k hk;cases hk
 ·intro k hk;have:g=k:=by simpa[Value.ownBlock] using hk
  subst this;exact⟨hb,(Vz.1 hh).1⟩
def aF{w w':Vl}{base:Nat}{e:VK}{n s:Nat}{v:Vr}{xs:List Vr}(h:w.ownsRow base e s v n xs)(hx:Ext w w'):w'.ownsRow base e s v n xs:=by
 obtain⟨hl,h0|⟨g,cap,cur,rfl,hb,hh,h1⟩⟩:=h
 ·exact YO
 ·exact⟨hl,.inr ⟨g,cap,cur,rfl,hb,(hx.block g (Vz.1 hh).1).trans hh,h1⟩⟩
def uM{w w':Vl}{n0 base:Nat}{e:VK}{n s:Nat}{v:Vr}{xs:List Vr}(h:w.ownsRow base e s v n xs)(hs:aE n0 w w'):w'.ownsRow base e s v n xs:=by
 obtain⟨hl,h0|⟨g,cap,cur,rfl,hb,hh,h1⟩⟩:=h
 ·exact YO
 ·exact⟨hl,.inr ⟨g,cap,cur,rfl,hb,hs.cells _ _ _ _ hh,h1⟩⟩
def bf{w:Vl}{base:Nat}{e:VK}{n s:Nat}{v:Vr}{xs:List Vr}(h:w.ownsRow base e s v n xs){p:VM}(hp:v.ownBlock≠Vq p.block)(x:Vr):(w.setCell p x).ownsRow base e s v n xs:=by
 obtain⟨hl,h0|⟨g,cap,cur,rfl,hb,hh,h1⟩⟩:=h
 ·exact YO
 ·refine⟨hl,.inr ⟨g,cap,cur,rfl,hb,(Below.heap_setCell _ _ _ _ (λe=>hp ?_)).trans hh,h1⟩⟩;rw[e];rfl
def eE{w0 w w':Vl}{row:Option Nat}(h:Ext w0 w)(hg:w.grownBy w' row)(hr:∀k,row=Vq k->w0.heap.size<=k):Ext w0 w':=
 VL.grown h hg (Below.size h) hr
def nk(v:Vr):Prop:=∃A n c,v=VQ A n c
def nk.of{w:Vl}{base:Nat}{e:VK}{n s:Nat}{v:Vr}{xs:List Vr}(h:w.ownsRow base e s v n xs):nk v:=by
 exact YP
def bV(f:Nat->Nat×Nat)(k:Nat):List Nat:=(List.range k).map λi=>(f (i+1)).1
def dZ(f:Nat->Nat×Nat)(k:Nat):bV f (k+1)=bV f k++[(f (k+1)).1]:=by
 unfold bV;rw[List.range_succ,List.map_append];rfl
def bA(f:Nat->Nat×Nat)(k:Nat):(bV f k).length=k:=by unfold bV;rw[Vu,List.length_range]
abbrev sN(l:List Nat):List Vr:=l.map λ(d:Nat)=>Value.int .i64 (d:Int)
def UB(w:Vl)(f:Nat->Nat×Nat)(n:Nat)(v c i:Vr)(wr:Vl):Prop:=
 ∃k:Nat,k<=n/\i=VU VA (k:Int)/\c=VU VA ((f k).2:Int)/\wr.ownsRow w.heap.size 3 1 v k (sN (bV f k))/\Ext w wr
def dh{w:Vl}{base n:Nat}{v:Vr}{l:List Nat}(h:w.ownsRow base 3 1 v n (sN l))(hn:l.length=n):bE w w.heap.size v l:=by
 subst hn;obtain⟨hl,⟨rfl,h0⟩|⟨g,cap,cur,rfl,hb,hh,h1,h2,h3,h4⟩⟩:=h
 ·exact YQ
 ·refine⟨_,cap,rfl,h1,h2,λhp=>⟨g,0,rfl,(Vz.1 hh).1,λj hj=> ?_⟩⟩;have h5:(sN l)[j]?=Vq (VU VA (fv l j)):=by rw[List.getElem?_map,Vt hj,lP hj];rfl
  rw[<-h4,List.getElem?_take,if_pos VY] at h5;rw[Nat.zero_add];simpa[World.cell?,hh] using h5
end
section
variable {P : Program}
def fO{n:Nat}{g:Operand}{ps:Array Tmp}{assign body:Code}{Q:Exit->Act->Vl->Prop}{a:Act}{w:Vl}
  {gf:Nat}{lb:Array Vr}(hg:a.eval g= .func (.func gf) #[] lb)(eg:∀args w,(callFunc gf args).run P w= .ok (.enter gf args) w)
  {X:Nat->Array Vr->Prop}{M:Vl->Prop}{N:Nat}(hseq:DX P gf lb X M N)(hps:∀k x,X k x->x.size=ps.size)
  (I:Nat->Vl->Prop)(Ix:Code->Nat->Vl->Prop)(hI:∀k W W',I k W->aE w.heap.size W W'->I k W')(hIx:∀c k W W',Ix c k W->aE w.heap.size W W'->Ix c k W')
  (hM:∀k W,I k W->M W)(h0:I 0 w)
  (hround:∀(l k:Nat) (x:Array Vr) (W:Vl) (K:Act->Vl->Prop),k<N->X k x->I k W->
   (∀a' W1,Ext W W1->(∀W2,aE w.heap.size W1 W2->w.heap.size<W2.heap.size->body.wpIn (Fence.wide.inRound l) (n-1-1) P (mf I Ix k W2) a' W2)->K a' W1)->
   assign.wpIn (Fence.wide.inRound l) (n-1-1) P (Exit.then K (λ_ _ _=>False)) {tmps:=(ps.zip x).foldl (λt (p,v)=>t.setIfInBounds p v) a.tmps,defers:=[]} W)
  (hdone:∀(D:Nat) (W:Vl),w.heap.size<=D->I N W->W.heap[D]?=Vq (.deferred (Vq []))->Q .normal {a with defers:={target:= .collected D,args:=#[]}::a.defers} W)
  (hstop:∀(D:Nat) (c:Code) (k:Nat) (W:Vl),w.heap.size<=D->k<N->Ix c k W->W.heap[D]?=Vq (.deferred (Vq []))->c.wpIn Fence.wide n P Q {a with defers:={target:= .collected D,args:=#[]}::a.defers} W):
  (Code.rangeFunc g ps assign body).wpIn Fence.wide n P Q a w:=by
 refine wpIn_rangeFunc ?_;intro fn hfn;obtain⟨R,hR⟩:∃R:LoopState->Option Code->Loop,R=λst pe=>{state:=st,pending:=pe,fn,tmps:=a.tmps,params:=ps,assign,body,defers:=w.heap.size}:=⟨_,rfl⟩
 obtain⟨W1,hW1⟩:∃W1,(w.alloc (.deferred (Vq []))).alloc (.loop (R .ready Vo))=W1:=⟨_,rfl⟩;have hL:W1.heap[w.heap.size+1]?=Vq (.loop (R .ready Vo)):=by
  exact Yh
 have hD:W1.heap[w.heap.size]?=Vq (.deferred (Vq [])):=by
  rw[<-hW1];exact(Below.heap_alloc _ _ _ V5).trans (Vy w _)
 have hb1:VL w.heap.size w W1:=by rw[<-hW1];exact((Below.refl _ w).alloc (Vm _) _).alloc V5 _
 have hI1:I 0 W1:=hI 0 _ _ h0 (aE.be hb1 (Vm _));refine⟨w.heap.size+1,[{target:= .collected w.heap.size,args:=#[]}],W1,{target:= .fn (.func gf) lb,args:=#[.func (.yield (w.heap.size+1)) #[] #[]]},W1,gf,
  #[.func (.yield (w.heap.size+1)) #[] #[]]++lb,W1,?_,?_,?_,?_,?_,?_⟩
 ·rw[<-hW1,hR];exact run_enterLoop_outer _ _ _ _ _
 ·simp only[resolve,hg];simp[go_sem]
 ·intro _ _;trivial
 ·simp[invoke,go_sem,eg]
 ·intro h;cases h
 ·have recKeep:∀{A C:Vl} {st:LoopState} {pe:Option Code},A.heap[w.heap.size+1]?=Vq (.loop (R st pe))->VL A.heap.size A C->C.heap[w.heap.size+1]?=Vq (.loop (R st pe)):=
   λh hb=>(hb.block _ (Vz.1 h).1).trans h
  have defKeep:∀{A C:Vl},A.heap[w.heap.size]?=Vq (.deferred (Vq []))->VL A.heap.size A C->C.heap[w.heap.size]?=Vq (.deferred (Vq [])):=
   λh hb=>(hb.block _ (Vz.1 h).1).trans h
  refine(hseq (n-1) (w.heap.size+1)
   (λk W=>I k W/\W.heap[w.heap.size+1]?=Vq (.loop (R .ready Vo))/\W.heap[w.heap.size]?=Vq (.deferred (Vq [])))
   (λk W=>∃c,Ix c k W/\W.heap[w.heap.size+1]?=Vq (.loop (R .done (Vq c)))/\W.heap[w.heap.size]?=Vq (.deferred (Vq [])))
   W1 (λk W h=>hM k W h.1)
   (λk A C h hb=>⟨hI k _ _ h.1 (aE.be hb (by have:=(Vz.1 h.2.2).1;omega)),recKeep h.2.1 hb,defKeep h.2.2 hb⟩)
   (λk A C h hb=>by
    obtain⟨c,h1,h2,h3⟩:=h;exact⟨c,hIx c k _ _ h1 (aE.be hb (by have:=(Vz.1 h3).1;omega)),recKeep h2 hb,defKeep h3 hb⟩)
   ?_ ⟨hI1,hL,hD⟩).mono ?_
  ·rintro k x W hk hx ⟨hi,hl,hd⟩;have hlt:w.heap.size+1<W.heap.size:=(Vz.1 hl).1;have hy:=run_yield (P:=P) (args:=x) hl (by rw[hR];exact hps k x hx);rw[hR] at hy;refine⟨fn,_,assign,body,hy,roundIn_of_wpIn hfn (hround _ k x W _ hk hx hi λa' V1 hV1 hbody=>⟨_,run_beginRound (recKeep hl hV1) (by rw[hR]),?_⟩)⟩;have hlv:=recKeep hl hV1;have hdv:=defKeep hd hV1;have hltv:w.heap.size+1<V1.heap.size:=(Vz.1 hlv).1;obtain⟨W2,hW2⟩:∃W2,V1.putObj (w.heap.size+1) (.loop {R .ready Vo with state:= .busy})=W2:=⟨_,rfl⟩;rw[hW2];have hl2:W2.heap[w.heap.size+1]?=Vq (.loop {R .ready Vo with state:= .busy}):=by rw[<-hW2];exact World.putObj_heap_same hltv
   have hd2:W2.heap[w.heap.size]?=Vq (.deferred (Vq [])):=by rw[<-hW2];exact(World.putObj_heap_other VY).trans hdv
   have hi2:aE w.heap.size V1 W2:=by rw[<-hW2];exact aE.putObj _ hlv rfl VY
   refine wpIn_mono (hbody W2 hi2 (by have:=(Vz.1 hl2).1;omega)) ?_;have fin:∀(jump:Option Code) (W3:Vl),KeepsOthers W2 W3->∃W4,(Instr.endRound (w.heap.size+1) jump).run P W3= .ok (VS jump.isNone) W4/\aE w.heap.size W3 W4/\
     W4.heap[w.heap.size+1]?=Vq (.loop (R (if jump.isNone then .ready else .done) jump))/\W4.heap[w.heap.size]?=Vq (.deferred (Vq [])):=λjump W3 hk3=>by
    have hl3:=hk3.same _ _ hl2 rfl;have hr:=run_endRound (P:=P) jump hl3;refine⟨_,hr,aE.putObj _ hl3 rfl VY,?_,(World.putObj_heap_other VY).trans (hk3.same _ _ hd2 rfl)⟩;rw[World.putObj_heap_same (Vz.1 hl3).1,hR]
   rintro e a3 W3 hp;cases e with
   |normal=>
    exact Yg
   |ret=>
    exact Yf
   |exit id=>
    exact Ye
   |goto t=>
    exact Yd
   |panic ch=>exact hp.elim
   |outgrown=>exact hp.elim
  ·rintro e W2 ⟨⟨v,rfl⟩,(⟨hi,hl,hd⟩|⟨k,hk,c,hi,hl,hd⟩)⟩
   ·exact Yc
   ·exact Yb
end
section
variable {P : Program} {ops : Array Oper} {Q : Exit → Act → Vl → Prop} {md : Region.Mode}
abbrev fx(L:Nat->Bool)(i:Nat):Nat->Bool:=λj=>if j=i then Vv else L j
abbrev aW(vs:Nat->Vr)(i:Nat)(v:Vr):Nat->Vr:=λj=>if j=i then v else vs j
def yu{listed:Array Bool}{i:Nat}(h:i<listed.size):(λj=>(listed.setIfInBounds i Vv).getD j Vp)=fx (λj=>listed.getD j Vp) i:=by
 funext j
 unfold fx;by_cases hji:j=i
 ·subst hji;simp[h]
 ·rw[if_neg hji,getD_set_ne Vp (Ne.symm hji)]
def qW{Fc:Fence}{mm:Nat}(hP:kj P Fc mm)(hnd:iU ops=Vv){n:Nat}{tl:List Oper}(F:(Nat->Vr)->Act)(I:(Nat->Bool)->(Nat->Vr)->Vl->Prop)
  (hs:Region.sinkB md ops n=Vv)(hc:Region.chainB md ops n=Vv)(hn:n<ops.size)
  (hseq:Region.seqB md ops (ops.size-n) n (Array.replicate n Vv++Array.replicate (ops.size-n) Vp)=Vv)(hlex:Mc ops n=Vv)
  (htl:tl.length=ops.size-n)(htl':∀j,tl[j]?=ops[n+j]?)
  (step:∀i o L vs w,i<n->ops[i]?=Vq o->L i=Vp->I L vs w->(∀e∈o.after,Region.binds md e=Vv->L e.on=Vv)->
   wpOp P ops Sg i (λa' w'=>∃v,a'=F (aW vs i v)/\I (fx L i) (aW vs i v) w') (F vs) w)
  (tail:∀L vs w,(∀i,i<n->L i=Vv)->I L vs w->wpListIn Fc mm P ops Q tl (F vs) w):
  ∀(f:Nat) (listed:Array Bool) (vs:Nat->Vr) (w:Vl),HeadInv md ops n listed->wk listed n=f->I (λj=>listed.getD j Vp) vs w->wpAnyIn Fc mm P md ops Q (f+(ops.size-n)) listed (F vs) w:=by
 intro f
 induction f with
 |zero=>
  intro listed vs w inv hu hI;have hall:=nF hu;have he:listed=Array.replicate n Vv++Array.replicate (ops.size-n) Vp:=by
   exact YN
  rw[Nat.zero_add,<-htl];refine kx hP tl n listed (F vs) w htl' (by rw[htl,he];exact hseq) ?_;exact tail _ vs w hall hI
 |succ f ih=>
  intro listed vs w inv hu hI;obtain⟨i0,hi0,hun0,hbef⟩:=tj hu;have hi0s:i0<listed.size:=Xa;rw[show f+1+(ops.size-n)=(f+(ops.size-n))+1 by omega];refine⟨λh0=> ?_,λi hi=> ?_⟩
  ·exact YL
  ·have hin:i<n:=by
    exact YK
   obtain⟨hun,o,ho,hdep⟩:=mem_ready.1 hi;have hun':=getD_both hun;refine wpOpIn_mono ?_ (rU hP hnd (step i o _ vs w hin ho hun' hI (λe he hb=>hdep e he hb)));exact Zk
def zS{Fc:Fence}{mm:Nat}(hP:kj P Fc mm){l:List Oper}(hnd:iU l.toArray=Vv)(n:Nat)(F:(Nat->Vr)->Act)(I:(Nat->Bool)->(Nat->Vr)->Vl->Prop)(hB:IL l.toArray n=Vv)
  (step:∀i L vs w,i<n->L i=Vp->I L vs w->(∀j,Region.waitsFor .any l.toArray i j=Vv->L j=Vv)->
   wpOp P l.toArray Sg i (λa' w'=>∃v,a'=F (aW vs i v)/\I (fx L i) (aW vs i v) w') (F vs) w)
  (tail:∀L vs w,(∀i,i<n->L i=Vv)->I L vs w->wpListIn Fc mm P l.toArray Q (l.drop n) (F vs) w)
  (vs:Nat->Vr)(w:Vl)(h0:I (λ_=>Vp) vs w):wpAnyIn Fc mm P .any l.toArray Q l.toArray.size (Array.replicate l.toArray.size Vp) (F vs) w:=by
 simp only[IL,Bool.and_eq_true,decide_eq_true_eq] at hB;obtain⟨⟨⟨⟨hn,hs⟩,hc⟩,hseq⟩,hlex⟩:=hB;have:=qW hP hnd (tl:=l.drop n) F I hs hc hn hseq hlex V5 (λj=>by simp[List.getElem?_drop])
  (λi o L vs w hi ho hL hd hdep=>step i L vs w hi hL hd (λj hj=>by
   obtain⟨oj,hoj,e,he,hb,rfl⟩:=Region.waitsFor_spec hj;obtain rfl:=VN (ho.symm.trans hoj);exact hdep e he hb)) tail n (Array.replicate l.toArray.size Vp) vs w
  ⟨V5,λj oj _ hl=>Wu,λt _ ht=>getD_in (by simpa using ht) (getD_replicate_false _ _)⟩ (qu _ _)
  (by simpa only[getD_replicate_false] using h0)
 rwa[show n+(l.toArray.size-n)=l.toArray.size by omega] at this
end
section
variable {P : Program}
abbrev Oz(D:Nat):Deferred:={target:= .collected D,args:=#[]}
def Mk(n0:Nat)(ds:List Deferred)(W:Vl):Prop:=∃Ds:List Nat,Ds.Nodup/\ds=Ds.map Oz/\∀D∈Ds,n0<=D/\W.heap[D]?=Vq (.deferred (Vq []))
def Mk.nil(n0:Nat)(W:Vl):Mk n0 [] W:=⟨[],List.nodup_nil,rfl,λ_ h=>V6⟩
def Mk.keeps{n0:Nat}{ds:List Deferred}{W W':Vl}(h:Mk n0 ds W)(hk:KeepsOthers W W'):Mk n0 ds W':=by
 obtain⟨Ds,h1,h2,h3⟩:=h;exact⟨Ds,h1,h2,λD hD=>⟨(h3 D hD).1,hk.same D _ (h3 D hD).2 rfl⟩⟩
def Mk.stays{n0:Nat}{ds:List Deferred}{w W W':Vl}(h:Mk n0 ds W)(hw:∀D,Oz D∈ds->D<w.heap.size)(hs:aE w.heap.size W W'):Mk n0 ds W':=by
 obtain⟨Ds,h1,h2,h3⟩:=h;subst h2;exact⟨Ds,h1,rfl,λD hD=>⟨(h3 D hD).1,(hs.low D (hw D (List.mem_map.2 ⟨D,hD,rfl⟩))).trans (h3 D hD).2⟩⟩
def Mk.lt{n0:Nat}{ds:List Deferred}{W:Vl}(h:Mk n0 ds W){D:Nat}(hD:Oz D∈ds):D<W.heap.size:=by
 obtain⟨Ds,h1,rfl,h3⟩:=h;obtain⟨D',hm,e⟩:=List.mem_map.1 hD;obtain rfl:D'=D:=by injection e with e1;injection e1
 exact(Vz.1 (h3 D' hm).2).1
def Mk.cons{n0:Nat}{ds:List Deferred}{w W:Vl}{D:Nat}(h:Mk n0 ds W)(hw:∀D,Oz D∈ds->D<w.heap.size)(hD:w.heap.size<=D)(hn:n0<=D)(hb:W.heap[D]?=Vq (.deferred (Vq []))):Mk n0 (Oz D::ds) W:=by
 obtain⟨Ds,h1,rfl,h3⟩:=h;refine⟨D::Ds,List.nodup_cons.2 ⟨λhm=> ?_,h1⟩,rfl,λE hE=> ?_⟩
 ·have:=hw D (List.mem_map.2 ⟨D,hm,rfl⟩);omega
 ·rcases List.mem_cons.1 hE with rfl|hE
  ·exact⟨hn,hb⟩
  ·exact h3 E hE
def aE.refl(n0:Nat)(W:Vl):aE n0 W W:=⟨rfl,rfl,rfl,Vm _,λ_ _=>rfl,λ_ _ _ _ h=>h⟩
def Mk.leaves{Fc:Fence}{n:Nat}{fn:Func}{tmps:Array Vr}{R:Ending->Vl->Prop}{n0:Nat}{ds:List Deferred}{W:Vl}(h:Mk n0 ds W)
  (hR:∀W',aE n0 W W'->LeavesIn Fc n P fn tmps R [] .returning W'):LeavesInM Fc n P fn tmps R ds .returning W:=by
 obtain⟨Ds,h1,rfl,h3⟩:=h
 induction Ds generalizing W with
 |nil=>exact hR W (aE.refl _ _)
 |cons D Ds ih=>
  have hD:=h3 D V5;have hs:=aE.putObj (n0:=n0) (.deferred Vo) hD.2 rfl hD.1;refine⟨V5,.inl ⟨D,_,rfl,run_takeDeferred hD.2,ih (λW' hW'=>hR W' (hs.trans hW')) (List.nodup_cons.1 h1).2 (λE hE=> ?_)⟩⟩;refine⟨(h3 E (List.mem_cons_of_mem _ hE)).1,(World.putObj_heap_other λe=> ?_).trans (h3 E (List.mem_cons_of_mem _ hE)).2⟩;subst e;exact(List.nodup_cons.1 h1).1 hE
end
section
variable {P : Program} {ops : Array Oper} {Q : Exit → Act → Vl → Prop} {md : Region.Mode}
def Ry(md:Region.Mode)(ops:Array Oper)(n:Nat):Bool:=(List.range n).all λi=>((ops[i]?).map λo=>o.after.all λe=>decide (e.on<i)|| !Region.binds md e).getD Vp
def JJ{n i:Nat}{o:Oper}(h:Ry md ops n=Vv)(hi:i<n)(ho:ops[i]?=Vq o):∀e∈o.after,Region.binds md e=Vv->e.on<i:=by
 have:=List.all_eq_true.1 h i (List.mem_range.2 hi);rw[ho] at this;simp only[Option.map_some,Option.getD_some] at this;intro e he hb;have:=Array.all_eq_true_iff_forall_mem.1 this e he;rw[hb] at this;exact Ya
def TI(ops:Array Oper)(n:Nat):Bool:=
 decide (n<ops.size)&&Region.sinkB .any ops n&&Region.chainB .any ops n&&Region.seqB .any ops (ops.size-n) n (Array.replicate n Vv++Array.replicate (ops.size-n) Vp)&&Ry .any ops n
def vf{n:Nat}{tl:List Oper}(F:(Nat->Vr)->Act)(I:(Nat->Bool)->(Nat->Vr)->Vl->Prop)
  (hs:Region.sinkB md ops n=Vv)(hc:Region.chainB md ops n=Vv)(hn:n<ops.size)
  (hseq:Region.seqB md ops (ops.size-n) n (Array.replicate n Vv++Array.replicate (ops.size-n) Vp)=Vv)(hlex:Ry md ops n=Vv)
  (htl:tl.length=ops.size-n)(htl':∀j,tl[j]?=ops[n+j]?)
  (step:∀i o L vs w,i<n->ops[i]?=Vq o->L i=Vp->I L vs w->(∀e∈o.after,Region.binds md e=Vv->L e.on=Vv)->
   wpOp P ops Q i (λa' w'=>∃v,a'=F (aW vs i v)/\I (fx L i) (aW vs i v) w') (F vs) w)
  (tail:∀L vs w,(∀i,i<n->L i=Vv)->I L vs w->wpList P ops Q tl (F vs) w):
  ∀(f:Nat) (listed:Array Bool) (vs:Nat->Vr) (w:Vl),HeadInv md ops n listed->wk listed n=f->I (λj=>listed.getD j Vp) vs w->wpAny P md ops Q (f+(ops.size-n)) listed (F vs) w:=by
 intro f
 induction f with
 |zero=>
  intro listed vs w inv hu hI;have hall:=nF hu;have he:listed=Array.replicate n Vv++Array.replicate (ops.size-n) Vp:=by
   exact YN
  rw[Nat.zero_add,<-htl];refine wpAny_of_seq tl n listed (F vs) w htl' (by rw[htl,he];exact hseq) ?_;exact tail _ vs w hall hI
 |succ f ih=>
  intro listed vs w inv hu hI;obtain⟨i0,hi0,hun0,hbef⟩:=tj hu;have hi0s:i0<listed.size:=Xa;rw[show f+1+(ops.size-n)=(f+(ops.size-n))+1 by omega];refine⟨λh0=> ?_,λi hi=> ?_⟩
  ·have ho:ops[i0]?=Vq (ops[i0]'VY):=Array.getElem?_eq_getElem VY;have:i0∈Region.ready md ops listed:=mem_ready.2 ⟨getD_in hi0s hun0,_,ho,λe he hb=>hbef _ (JJ hlex hi0 ho e he hb)⟩;rw[h0] at this;cases this
  ·have hin:i<n:=by
    exact YK
   obtain⟨hun,o,ho,hdep⟩:=mem_ready.1 hi;have hun':=getD_both hun;refine wpOp_mono ?_ (step i o _ vs w hin ho hun' hI (λe he hb=>hdep e he hb));exact Zk
def bW{l:List Oper}(n:Nat)(F:(Nat->Vr)->Act)(I:(Nat->Bool)->(Nat->Vr)->Vl->Prop)(hB:TI l.toArray n=Vv)
  (step:∀i L vs w,i<n->L i=Vp->I L vs w->(∀j,Region.waitsFor .any l.toArray i j=Vv->L j=Vv)->
   wpOp P l.toArray Q i (λa' w'=>∃v,a'=F (aW vs i v)/\I (fx L i) (aW vs i v) w') (F vs) w)
  (tail:∀L vs w,(∀i,i<n->L i=Vv)->I L vs w->wpList P l.toArray Q (l.drop n) (F vs) w)
  (vs:Nat->Vr)(w:Vl)(h0:I (λ_=>Vp) vs w):wpAny P .any l.toArray Q l.toArray.size (Array.replicate l.toArray.size Vp) (F vs) w:=by
 simp only[TI,Bool.and_eq_true,decide_eq_true_eq] at hB;obtain⟨⟨⟨⟨hn,hs⟩,hc⟩,hseq⟩,hlex⟩:=hB;have:=vf (tl:=l.drop n) F I hs hc hn hseq hlex V5 (λj=>by simp[List.getElem?_drop])
  (λi o L vs w hi ho hL hd hdep=>step i L vs w hi hL hd (λj hj=>by
   obtain⟨oj,hoj,e,he,hb,rfl⟩:=Region.waitsFor_spec hj;obtain rfl:=VN (ho.symm.trans hoj);exact hdep e he hb)) tail n (Array.replicate l.toArray.size Vp) vs w
  ⟨V5,λj oj _ hl=>Wu,λt _ ht=>getD_in (by simpa using ht) (getD_replicate_false _ _)⟩ (qu _ _)
  (by simpa only[getD_replicate_false] using h0)
 rwa[show n+(l.toArray.size-n)=l.toArray.size by omega] at this
end
section
def ij{L:Nat->Bool}{vs val:Nat->Vr}{i:Nat}{v:Vr}(h:∀k,L k=Vv->vs k=val k)(hv:v=val i):∀k,fx L i k=Vv->aW vs i v k=val k:=by
 intro k hk;unfold aW;by_cases e:k=i
 ·rw[if_pos e,hv,e]
 ·rw[if_neg e];refine h k ?_;simpa[fx,e] using hk
def aa{L:Nat->Bool}{i k:Nat}(h:k≠i):fx L i k=L k:=by unfold fx;rw[if_neg h]
def dn{L:Nat->Bool}{i:Nat}:fx L i i=Vv:=by unfold fx;rw[if_pos rfl]
def aC{vs:Nat->Vr}{i k:Nat}{v:Vr}(h:k≠i):aW vs i v k=vs k:=by unfold aW;rw[if_neg h]
def cF{vs:Nat->Vr}{i:Nat}{v:Vr}:aW vs i v i=v:=by unfold aW;rw[if_pos rfl]
structure dF(W0:Vl)(val:Nat->Vr)(own:Vr->Vl->Prop)(e:Vr)(p:VM)(ic:Nat)(lo:List Nat)(L:Nat->Bool)(vs:Nat->Vr)(W:Vl):Prop where
 vals:∀k,L k=Vv->k<ic\/ic+3<=k->vs k=val k
 early:L ic=Vv->∀k∈lo,L k=Vv
 mv:L (ic+1)=Vv->L ic=Vv
 ex:L (ic+2)=Vv->L (ic+1)=Vv
 st:L (ic+6)=Vv->L (ic+2)=Vv
 mem:∃v W1,Ext W0 W1/\(L ic=Vv->own v W1/\vs ic=VX #[v,e])/\(L (ic+1)=Vv->vs (ic+1)=VX #[v,e])/\(L (ic+2)=Vv->vs (ic+2)=v)/\W=if L (ic+6)=Vv then W1.setCell p v else W1
variable {W0 W : Vl} {val : Nat → Vr} {own : Vr → Vl → Prop} {e : Vr} {p : VM} {ic : Nat} {lo : List Nat} {L : Nat → Bool} {vs : Nat → Vr}
def dF.start(h:Ext W0 W):dF W0 val own e p ic lo (λ_=>Vp) (λ_=>Vs) W:=
 ⟨λ_ h=>V6,λh=>V6,λh=>V6,λh=>V6,λh=>V6,Vs,W,h,λh=>V6,λh=>V6,λh=>V6,V5⟩
def dF.pure(h:dF W0 val own e p ic lo L vs W){i:Nat}(hi:i<ic\/i=ic+3\/i=ic+4\/i=ic+5){v:Vr}(hv:v=val i):dF W0 val own e p ic lo (fx L i) (aW vs i v) W:=by
 have n0:ic≠i:=VY;have n1:ic+1≠i:=VY;have n2:ic+2≠i:=VY;have n6:ic+6≠i:=VY;obtain⟨a,b,c,d,f,v1,W1,m1,m2,m3,m4,m5⟩:=h;refine⟨λk hk hh=> ?_,?_,?_,?_,?_,v1,W1,m1,?_⟩
 ·by_cases q:k=i
  ·subst q;rw[cF];exact hv
  ·exact ZZ
 ·rw[aa n0];intro h k hk;by_cases q:k=i
  ·subst q;exact dn
  ·rw[aa q];exact b h k hk
 ·rw[aa n1,aa n0];exact c
 ·rw[aa n2,aa n1];exact d
 ·rw[aa n6,aa n2];exact f
 ·rw[aa n0,aa n1,aa n2,aa n6,aC n0,aC n1,aC n2];exact⟨m2,m3,m4,m5⟩
def dF.ext(h:dF W0 val own e p ic lo L vs W)(hL:L ic=Vp):Ext W0 W:=by
 obtain⟨a,b,c,d,f,v1,W1,m1,m2,m3,m4,m5⟩:=h;have:¬L (ic+6)=Vv:=λh=>by rw[c (d (f h))] at hL;cases hL
 rw[if_neg this] at m5;rw[m5];exact m1
def dF.load(h:dF W0 val own e p ic lo L vs W){k:Nat}(hk:k∈lo)(hL:L k=Vp):Ext W0 W:=by
 refine h.ext ?_;cases q:L ic with
 |false=>rfl
 |true=>rw[h.early q k hk] at hL;cases hL
def dF.call(h:dF W0 val own e p ic lo L vs W)(hL:L ic=Vp)(hlo:∀k∈lo,L k=Vv){W':Vl}{v:Vr}(hx:Ext W W')(ho:own v W'):dF W0 val own e p ic lo (fx L ic) (aW vs ic (VX #[v,e])) W':=by
 have he:=h.ext hL;obtain⟨a,b,c,d,f,v1,W1,m1,m2,m3,m4,m5⟩:=h;have f1:L (ic+1)=Vp:=by cases q:L (ic+1) with|false=>rfl|true=>rw[c q] at hL;cases hL
 have f2:L (ic+2)=Vp:=by cases q:L (ic+2) with|false=>rfl|true=>rw[d q] at f1;cases f1
 have f6:L (ic+6)=Vp:=by cases q:L (ic+6) with|false=>rfl|true=>rw[f q] at f2;cases f2
 have n1:ic+1≠ic:=VY;have n2:ic+2≠ic:=VY;have n6:ic+6≠ic:=VY;refine⟨λk hk hh=> ?_,?_,?_,?_,?_,v,W',he.tr hx,?_⟩
 ·have q:k≠ic:=VY;exact ZZ
 ·intro _ k hk;by_cases q:k=ic
  ·subst q;exact dn
  ·rw[aa q];exact hlo k hk
 ·intro _;exact dn
 ·rw[aa n2,aa n1,f2];intro h;cases h
 ·rw[aa n6,f6];intro h;cases h
 ·rw[aa n1,aa n2,aa n6,f1,f2,f6,cF];exact⟨λ_=>⟨ho,rfl⟩,λh=>V6,λh=>V6,rfl⟩
def dF.move(h:dF W0 val own e p ic lo L vs W)(hL:L (ic+1)=Vp)(hc:L ic=Vv):dF W0 val own e p ic lo (fx L (ic+1)) (aW vs (ic+1) (vs ic)) W:=by
 obtain⟨a,b,c,d,f,v1,W1,m1,m2,m3,m4,m5⟩:=h;have f2:L (ic+2)=Vp:=by cases q:L (ic+2) with|false=>rfl|true=>rw[d q] at hL;cases hL
 have f6:L (ic+6)=Vp:=by cases q:L (ic+6) with|false=>rfl|true=>rw[f q] at f2;cases f2
 have n0:ic≠ic+1:=VY;have n2:ic+2≠ic+1:=VY;have n6:ic+6≠ic+1:=VY;refine⟨λk hk hh=> ?_,?_,?_,?_,?_,v1,W1,m1,?_⟩
 ·have q:k≠ic+1:=VY;exact ZZ
 ·rw[aa n0];intro h k hk;by_cases q:k=ic+1
  ·subst q;exact dn
  ·rw[aa q];exact b h k hk
 ·intro _;rw[aa n0];exact hc
 ·intro _;exact dn
 ·rw[aa n6,f6];intro h;cases h
 ·rw[aa n0,aa n2,aa n6,f2,cF,aC n0];exact⟨m2,λ_=>(m2 hc).2,λh=>V6,m5⟩
def dF.first(h:dF W0 val own e p ic lo L vs W)(hL:L (ic+2)=Vp)(hc:L (ic+1)=Vv):∃v,vs (ic+1)=VX #[v,e]/\dF W0 val own e p ic lo (fx L (ic+2)) (aW vs (ic+2) v) W:=by
 obtain⟨a,b,c,d,f,v1,W1,m1,m2,m3,m4,m5⟩:=h;have f6:L (ic+6)=Vp:=by cases q:L (ic+6) with|false=>rfl|true=>rw[f q] at hL;cases hL
 have n0:ic≠ic+2:=VY;have n1:ic+1≠ic+2:=VY;have n6:ic+6≠ic+2:=VY;refine⟨v1,m3 hc,λk hk hh=> ?_,?_,?_,?_,?_,v1,W1,m1,?_⟩
 ·by_cases q:k=ic+2
  ·omega
  ·exact ZZ
 ·rw[aa n0];intro h k hk;by_cases q:k=ic+2
  ·subst q;exact dn
  ·rw[aa q];exact b h k hk
 ·rw[aa n1,aa n0];exact c
 ·intro _;rw[aa n1];exact hc
 ·intro _;exact dn
 ·rw[aa n0,aa n1,aa n6,aC n0,aC n1,cF];exact⟨m2,m3,λ_=>rfl,m5⟩
def dF.Uq(h:dF W0 val own e p ic lo L vs W)(hc:L (ic+1)=Vv):∃v,vs (ic+1)=VX #[v,e]:=by
 obtain⟨a,b,c,d,f,v1,W1,m1,m2,m3,m4,m5⟩:=h;exact⟨v1,m3 hc⟩
def dF.store(h:dF W0 val own e p ic lo L vs W)(hL:L (ic+6)=Vp)(hc:L (ic+2)=Vv)(hv:val (ic+6)=Vs):Ext W0 W/\own (vs (ic+2)) W/\dF W0 val own e p ic lo (fx L (ic+6)) (aW vs (ic+6) Vs) (W.setCell p (vs (ic+2))):=by
 obtain⟨a,b,c,d,f,v1,W1,m1,m2,m3,m4,m5⟩:=h;have n0:ic≠ic+6:=VY;have n1:ic+1≠ic+6:=VY;have n2:ic+2≠ic+6:=VY;rw[if_neg (by rw[hL];decide)] at m5;subst m5;refine⟨m1,by rw[m4 hc];exact(m2 (c (d hc))).1,λk hk hh=> ?_,?_,?_,?_,?_,v1,W,m1,?_⟩
 ·by_cases q:k=ic+6
  ·subst q;rw[cF];exact hv.symm
  ·exact ZZ
 ·rw[aa n0];intro h k hk;by_cases q:k=ic+6
  ·subst q;exact dn
  ·rw[aa q];exact b h k hk
 ·rw[aa n1,aa n0];exact c
 ·rw[aa n2,aa n1];exact d
 ·intro _;rw[aa n2];exact hc
 ·rw[aa n0,aa n1,aa n2,dn,aC n0,aC n1,aC n2];exact⟨m2,m3,m4,by rw[if_pos rfl,m4 hc]⟩
def dF.done(h:dF W0 val own e p ic lo L vs W)(hL:∀i,i<ic+7->L i=Vv):vs (ic+3)=val (ic+3)/\∃v W1,Ext W0 W1/\own v W1/\W=W1.setCell p v:=by
 obtain⟨a,b,c,d,f,v1,W1,m1,m2,m3,m4,m5⟩:=h;rw[if_pos (hL _ VY)] at m5;exact⟨a _ (hL _ VY) VY,v1,W1,m1,(m2 (hL _ VY)).1,m5⟩
end
end Go.Proofs.YtmliacdegmklaaaGreatDoor
namespace Kp
abbrev B6:Nat:=1000000
def S6(f:Nat->Nat):Nat->Nat
 |0=>0
 |n+1=>S6 f n+f n*B6^n
def au(l:List Nat):Nat:=S6 (fv l) l.length
def kP(l:List Nat):Prop:=∀d,d∈l->d<B6
structure aZ(l:List Nat):Prop where
 small:kP l
 trim:px l
def dJ(a b:List Nat):Nat->Nat×Nat
 |0=>(0,0)
 |k+1=>((fv a k+fv b k+(dJ a b k).2)%1000000,(fv a k+fv b k+(dJ a b k).2)/1000000)
def dd(a b:List Nat):Nat->Nat×Nat
 |0=>(0,0)
 |k+1=>(if fv b k+(dd a b k).2<=fv a k then fv a k-(fv b k+(dd a b k).2) else fv a k+1000000-(fv b k+(dd a b k).2),if fv b k+(dd a b k).2<=fv a k then 0 else 1)
def cO(f:Nat->Nat)(n:Nat):S6 f (n+1)=S6 f n+f n*B6^n:=rfl
def N5(n:Nat):0<B6^n:=Nat.pow_pos V0
def jg{f g:Nat->Nat}{n:Nat}(h:∀k,k<n->f k=g k):S6 f n=S6 g n:=by
 induction n with
 |zero=>rfl
 |succ n ih=>rw[cO,cO,ih (λk hk=>h k VY),h n VY]
def Gg{f:Nat->Nat}{n:Nat}(h:∀k,k<n->f k<B6):S6 f n<B6^n:=by
 induction n with
 |zero=>simp[S6]
 |succ n ih=>
  rw[cO,Nat.pow_succ];have h1:=ih (λk hk=>h k VY);have h2:f n+1<=B6:=h n VY;have h3:(f n+1)*B6^n<=B6*B6^n:=Nat.mul_le_mul_right _ h2;rw[Nat.add_mul,Nat.one_mul,VE B6] at h3;omega
def tL{f:Nat->Nat}{n:Nat}(h:∀k,k<n->f k=0):S6 f n=0:=by
 induction n with
 |zero=>rfl
 |succ n ih=>rw[cO,ih (λk hk=>h k VY),h n VY];simp
def zb(f:Nat->Nat)(m n:Nat):S6 f (m+n)=S6 f m+B6^m*S6 (λk=>f (m+k)) n:=by
 induction n with
 |zero=>simp[S6]
 |succ n ih=>
  rw[<-Nat.add_assoc,cO,ih,cO,Nat.mul_add,Nat.pow_add];have:f (m+n)*(B6^m*B6^n)=B6^m*(f (m+n)*B6^n):=by
   rw[Nat.mul_left_comm]
  omega
def RQ{f:Nat->Nat}{m n:Nat}(h:m<=n)(hz:∀k,m<=k->k<n->f k=0):S6 f n=S6 f m:=by
 obtain⟨d,rfl⟩:∃d,n=m+d:=⟨n-m,VY⟩;rw[zb,tL (f:=λk=>f (m+k)) (λk hk=>hz _ VY VY)];simp
def aI{l:List Nat}(h:kP l)(k:Nat):fv l k<B6:=by
 exact XL
def eW{l:List Nat}{n:Nat}(h:l.length<=n):S6 (fv l) n=au l:=RQ h (λ_ hk _=>mD hk)
def sZ{l:List Nat}(h:kP l):au l<B6^l.length:=Gg (λk _=>aI h k)
def ka(l:List Nat)(d:Nat):au (l++[d])=au l+d*B6^l.length:=by
 unfold au;rw[VD];show S6 _ (l.length+1)=_;rw[cO,jg (g:=fv l)]
 ·unfold fv;simp
 ·intro k hk;unfold fv;simp[List.getElem?_append_left hk]
def uB(l:List Nat):au (l++[0])=au l:=by rw[ka];simp
def kP.yR{l:List Nat}{d:Nat}(h:kP (l++[d])):kP l:=λx hx=>h x Xw
def sL{l:List Nat}(h:px l)(hl:l≠[]):B6^(l.length-1)<=au l:=by
 rcases mM l with rfl|⟨m,d,rfl⟩
 ·exact absurd rfl hl
 ·rw[ka];have hd:=h.last;have:1*B6^m.length<=d*B6^m.length:=Nat.mul_le_mul_right _ VY;simp only[VD,List.length_singleton,Nat.add_sub_cancel];omega
def nH{l:List Nat}(h:px l)(hl:l≠[]):0<au l:=Nat.lt_of_lt_of_le (N5 _) (sL h hl)
def gW{a b:List Nat}(ha:kP a)(hb:px b)(h:a.length<b.length):au a<au b:=by
 have h1:=sZ ha;have h2:=sL hb (by rintro rfl;simp at h);have h3:B6^a.length<=B6^(b.length-1):=Nat.pow_le_pow_right V0 VY;omega
def en(l:List Nat):au (az l)=au l:=by
 refine eS (p:=λl=>au (az l)=au l) rfl (λl d ih=> ?_) l;by_cases hd:d=0
 ·subst hd;rw[dR,uB,ih]
 ·rw[iK hd]
def du{l:List Nat}(h:kP l):aZ (az l):=by
 revert h;refine eS (p:=λl=>kP l->aZ (az l)) (λ_=>⟨λd h=>by simp[od] at h,pY⟩) (λl d ih h=> ?_) l;exact XM
def MN{f g:Nat->Nat}{n i:Nat}(hi:i<n)(hf:∀k,k<n->f k<B6)(he:∀k,i<k->k<n->f k=g k)(hlt:f i<g i):S6 f n<S6 g n:=by
 obtain⟨d,rfl⟩:∃d,n=(i+1)+d:=⟨n-(i+1),VY⟩;rw[zb f (i+1),zb g (i+1),jg (f:=λk=>f (i+1+k)) (g:=λk=>g (i+1+k)) (λk hk=>he _ VY VY),cO,cO];have h1:=Gg (n:=i) (λk hk=>hf k VY);have h2:(f i+1)*B6^i<=g i*B6^i:=Nat.mul_le_mul_right _ hlt;rw[Nat.add_mul,Nat.one_mul] at h2;omega
def P6{a b:List Nat}{i:Nat}(ha:aZ a)(hb:aZ b)(hl:a.length=b.length)(hi:i<a.length)(hs:∀k,i<k->k<a.length->fv a k=fv b k)(hne:fv a i≠fv b i):
  ((fv a i:Int)-fv b i<0↔au a<au b)/\(0<(fv a i:Int)-fv b i↔au b<au a):=by
 unfold au;rw[<-hl];rcases Nat.lt_or_gt_of_ne hne with h|h
 ·have:=MN hi (λk _=>aI ha.small k) hs h;exact Yj
 ·have:=MN hi (λk _=>aI hb.small k) (λk h1 h2=>(hs k h1 h2).symm) h;exact Yj
def JK{a b:List Nat}(hl:a.length=b.length)(hs:∀k,k<a.length->fv a k=fv b k):au a=au b:=by
 unfold au;rw[<-hl];exact jg hs
def qs{a b:List Nat}(ha:kP a)(hb:kP b)(k:Nat):(dd a b k).2<=1/\(dd a b (k+1)).1<1000000:=by
 have key:∀k,(dd a b k).2<=1:=by
  intro k;cases k with
  |zero=>exact Nat.zero_le _
  |succ k=>show(if _ then 0 else 1)<=1;split <;>omega
 refine⟨key k,?_⟩;have h1:fv a k<1000000:=aI ha _;have h2:fv b k<1000000:=aI hb _;have h3:=key k;rw[dd];dsimp only;by_cases h:fv b k+(dd a b k).2<=fv a k
 ·rw[if_pos h];omega
 ·rw[if_neg h];omega
def La{a b:List Nat}(ha:kP a)(hb:kP b)(k:Nat):S6 (fv (bV (dd a b) k)) k+S6 (fv b) k=S6 (fv a) k+(dd a b k).2*B6^k:=by
 induction k with
 |zero=>rfl
 |succ k ih=>
  have e:S6 (fv (bV (dd a b) (k+1))) k=S6 (fv (bV (dd a b) k)) k:=jg λi hi=>by
   exact YT
  have e2:fv (bV (dd a b) (k+1)) k=(dd a b (k+1)).1:=by
   exact YS
  rw[cO,cO,cO,e,e2,Nat.pow_succ];have h1:fv a k<1000000:=aI ha _;have h2:fv b k<1000000:=aI hb _;have hc:=(qs ha hb k).1;have h:(dd a b (k+1)).1+fv b k+(dd a b k).2=fv a k+(dd a b (k+1)).2*1000000:=by
   rw[dd];dsimp only;by_cases h:fv b k+(dd a b k).2<=fv a k
   ·rw[if_pos h,if_pos h];omega
   ·rw[if_neg h,if_neg h];omega
  have h3:=congrArg (· *B6^k) h;simp only[Nat.add_mul] at h3;have h4:(dd a b (k+1)).2*(B6^k*B6)=(dd a b (k+1)).2*1000000*B6^k:=by
   show _=(dd a b (k+1)).2*B6*B6^k;rw[VE (B6^k) B6,<-Nat.mul_assoc]
  rw[h4];generalize(dd a b (k+1)).2*1000000*B6^k=u at *;generalize(dd a b (k+1)).1*B6^k=v at *;generalize fv a k*B6^k=p at *;generalize fv b k*B6^k=q at *;generalize(dd a b k).2*B6^k=r at *;omega
def yZ{a b:List Nat}(ha:kP a)(hb:kP b)(k:Nat):(dJ a b k).2<=1/\(dJ a b (k+1)).1<1000000:=by
 have key:∀k,(dJ a b k).2<=1:=by
  intro k;cases k with
  |zero=>exact Nat.zero_le _
  |succ k=>
   induction k with
   |zero=>
    have h1:=aI ha 0;have h2:=aI hb 0;show(fv a 0+fv b 0+0)/1000000<=1;have h1':fv a 0<1000000:=h1;have h2':fv b 0<1000000:=h2;omega
   |succ k ih=>
    have h1:fv a (k+1)<1000000:=aI ha _;have h2:fv b (k+1)<1000000:=aI hb _;show(fv a (k+1)+fv b (k+1)+(dJ a b (k+1)).2)/1000000<=1;omega
 exact⟨key k,Nat.mod_lt _ V0⟩
end Kp
namespace Go.Proofs.YtmliacdegmklaaaGreatDoor
section
open Kp
def nf(w:Vl)(b0:Nat)(v:Vr)(l:List Nat)(i:Nat)(h:bE w b0 v l)(hi:i<=4611686018427387904):
  VC prog 313 #[v,VU VA i] w λe w'=>e=VV (VU VA (fv l i))/\w=w':=by
 obtain⟨A,cap,rfl,hl,hm,hc⟩:=h;unfold VJ at hm;by_cases hlt:i<l.length
 ·obtain⟨b,off,rfl,_,hcell⟩:=hc VY;have hx:=hcell i hlt;clear hcell;go_enter func313,ntmps313;exact XO
 ·go_enter func313,ntmps313;go_wp2;go_ret;exact⟨Ad (by rw[mD VY];rfl),rfl⟩
def vT(w:Vl)(b0:Nat)(v:Vr)(l:List Nat)(i:Nat)(h:bE w b0 v l)(hi:i<=4611686018427387904):
  VC prog 313 #[v,VU VA i] w λe w'=>e=VV (VU VA (fv l i))/\w'=w:=
 (nf w b0 v l i h hi).mono λ_ _ h=>⟨h.1,h.2.symm⟩
def Mi(v:Vr)(l:List Nat):Vr:=match v with
 | VQ A _ cap=> VQ A (az l).length cap
 |v=>v
def bE.trimmed{w:Vl}{b0:Nat}{v:Vr}{l:List Nat}(h:bE w b0 v l):bE w b0 (Mi v l) (az l):=by
 obtain⟨A,cap,rfl,h1,h2,hc⟩:=h;have hle:=aR l;refine⟨A,cap,rfl,VB hle h1,h2,λhp=> ?_⟩;obtain⟨b,o,e,hb,hc'⟩:=hc VY;exact⟨b,o,e,hb,λj hj=>by rw[vR hj];exact hc' j VY⟩
def dE(w:Vl)(b0:Nat)(v:Vr)(l:List Nat)(h:bE w b0 v l):
  VC prog 311 #[v] w λe w'=>e=VV (Mi v l)/\w=w':=by
 obtain⟨A,cap,rfl,h1,h2,hc⟩:=h;unfold Mi;unfold VJ at h2;have hlen:=aR l;go_enter func311,ntmps311;go_wp2;go_loopw [3] (λv wr=>∃k:Nat,k<=l.length/\v=VU VA (k:Int)/\Hid (az (l.take k)=az l)/\w=wr) (λv _=>(VG v).toNat)
 case atStart=>exact⟨l.length,Vm _,rfl,by simp[Hid],rfl⟩
 case round=>
  obtain⟨k,hk,rfl,ht,rfl⟩:=hrel;rcases k with _|k
  ·exact XQ
  ·obtain⟨b,off,rfl,_,hcell⟩:=hc VY;have hx:=hcell k VY;by_cases h0:fv l k=0
   ·have hz:((fv l k:Int)==0)=Vv:=by rw[h0];rfl
    have H0:=Vk h0;clear h0 hcell;go_wp2;exact⟨⟨k,VY,by go_num,yc VY H0.o ht.o,trivial⟩,by simp[VG]⟩
   ·exact XP
end
section
open Kp
def zZ(a b:List Nat)(e:Ending):Prop:=∃c:Int,e=VV (VU VA c)/\(c<0->au a<au b)/\(¬c<0->au b<=au a/\b.length<=a.length)
def vC(w:Vl)(a b:List Nat)(va vb:Vr)(ha:bE w w.heap.size va a)(hb:bE w w.heap.size vb b)(hca:aZ a)(hcb:aZ b):
  VC prog 316 #[va,vb] w λe w'=>zZ a b e/\Ext w w':=by
 have HA:=Vk (show∀W,Ext w W->bE W w.heap.size va a fromλW h=>ha.below h);have HB:=Vk (show∀W,Ext w W->bE W w.heap.size vb b fromλW h=>hb.below h);obtain⟨A,ca,rfl,ha1,ha2,_⟩:=id ha;obtain⟨A',cb,rfl,hb1,hb2,_⟩:=id hb;unfold VJ at ha2 hb2;have HN:=Vk (show au a<au b->zZ a b (VV (VU VA (-1))) fromλh=>⟨_,rfl,λ_=>h,λh=>absurd V0 h⟩);have HP:=Vk (show au b<=au a/\b.length<=a.length->zZ a b (VV (VU VA 1)) fromλh=>⟨_,rfl,λh=>absurd h V0,λ_=>h⟩);have HZ:=Vk (show au b<=au a/\b.length<=a.length->zZ a b (VV (VU VA 0)) fromλh=>⟨_,rfl,λh=>absurd h V0,λ_=>h⟩);by_cases hne:a.length=b.length
 ·have E:=Vk hne;obtain⟨n,hn⟩:∃n,a.length=n:=⟨_,rfl⟩;have hbn:b.length=n:=VY;rw[hbn] at HB;rw[hn] at HA;rw[hn,hbn];have HLA:=Vk hn;have HLB:=Vk hbn;have hn6:n<=9223372036854775807:=VY;have w1:VA.wrap ((n:Int)-1)=(n:Int)-1:=VI _ VY;clear ha hb ha1 ha2 hb1 hb2 hne hn hbn;go_enter func316,ntmps316;go_wp2;go_loopw [5] (λi wr=>∃k:Nat,k<=n/\i=VU VA ((k:Int)-1)/\Ext w wr/\Hid (∀m,k<=m->m<a.length->fv a m=fv b m)) (λi _=>(VG i+1).toNat)
  case atStart=>exact⟨n,Vm _,rfl,Below.refl _ _,λm h1 h2=>by have:=HLA.o;omega⟩
  case round=>
   obtain⟨k,hk,rfl,hX,hs⟩:=hrel;have HX:=Vk hX;rcases k with _|k
   ·have HQ:=Vk (HZ.o ⟨Nat.le_of_eq (JK E.o λm hm=>hs.o m (Nat.zero_le _) hm).symm,Nat.le_of_eq E.o.symm⟩);clear hX;go_wp2;go_ret;exact⟨HQ.o,HX.o⟩
   ·obtain⟨_,_,e,_,_,q⟩:=HA.o wr hX;injection e with e1 _ e3
    subst e1 e3;obtain⟨b1,o1,rfl,_,c1⟩:=q (by have:=HLA.o;omega);have c1:=c1 k (by have:=HLA.o;omega);obtain⟨_,_,e,_,_,q⟩:=HB.o wr hX;injection e with e1 _ e3
    subst e1 e3;obtain⟨b2,o2,rfl,_,c2⟩:=q (by have:=HLB.o;omega);have c2:=c2 k (by have:=HLB.o;omega);have ek:((k+1:Nat):Int)-1=(k:Int):=VY;rw[ek];have w2:VA.wrap ((k:Int)-1)=(k:Int)-1:=VI _ VY;have hka:k<a.length:=by have:=HLA.o;omega
    have HC:=Vk (λh=>P6 hca hcb E.o hka (λm h1 h2=>hs.o m VY h2) h);obtain⟨x,hx⟩:∃x,fv a k=x:=⟨_,rfl⟩;obtain⟨y,hy⟩:∃y,fv b k=y:=⟨_,rfl⟩;rw[hx] at c1;rw[hy] at c2;have HXX:=Vk hx;have HYY:=Vk hy;clear hX q hka;rcases Nat.lt_trichotomy x y with h|h|h
    ·have HQ:=Vk (HN.o ((HC.o Xz).1.1 Xz));clear hx hy;go_wp2_with fail
     go_quiet (fail)
     go_wp2;go_ret;exact⟨HQ.o,below_drewN HX.o _⟩
    ·have t1:¬x<y:=VY;have t2:¬y<x:=VY;have HQ:=Vk (show∀m,k<=m->m<a.length->fv a m=fv b m fromλm h1 h2=>by
      by_cases e:m=k
      ·rw[e];have:=HXX.o;have:=HYY.o;omega
      ·exact hs.o m VY h2)
     clear h hx hy;go_wp2_with fail
     go_quiet (fail)
     go_wp2_with fail
     go_quiet (fail)
     go_wp2
     go_round
     case rel=>exact⟨k,VY,rfl,below_drewN HX.o _,HQ⟩
     case measure=>simp[VG]
    ·have t1:¬x<y:=VY;have HQ:=Vk (HP.o ⟨Nat.le_of_lt ((HC.o Xz).2.1 Xz),Nat.le_of_eq E.o.symm⟩);clear hx hy;go_wp2_with fail
     go_quiet (fail)
     go_wp2_with fail
     go_quiet (fail)
     go_wp2;go_ret;exact⟨HQ.o,below_drewN (below_drewN HX.o _) _⟩
 ·have hne':((a.length:Int) !=b.length)=Vv:=WW;by_cases hlt:a.length<b.length
  ·have HQ:=Vk (HN.o (gW hca.small hcb.trim hlt));exact a0f
  ·have HQ:=Vk (HP.o ⟨Nat.le_of_lt (gW hcb.small hca.trim VY),VY⟩);exact a0f
end
end Go.Proofs.YtmliacdegmklaaaGreatDoor
namespace Kp
def Sb{l:List Nat}{j x n:Nat}(hj:j<n)(hn:n<=l.length):S6 (fv (l.set j x)) n+fv l j*B6^j=S6 (fv l) n+x*B6^j:=by
 induction n with
 |zero=>omega
 |succ n ih=>
  rw[cO,cO];by_cases e:j=n
  ·subst e;rw[ie VY,if_pos rfl,jg (g:=fv l) (λk hk=>by rw[ie VY,if_neg VY])];omega
  ·have:=ih VY VY;rw[ie VY,if_neg VY];omega
def kP.set{l:List Nat}(h:kP l){j x:Nat}(hx:x<B6):kP (l.set j x):=by
 exact XV
def kP.T2(n:Nat):kP (List.replicate n 0):=by
 intro d hd;rw[List.eq_of_mem_replicate hd];decide
structure GO(a b:List Nat)(i k c:Nat)(out:List Nat):Prop where
 len:out.length=a.length+b.length+1
 small:kP out
 eq:S6 (fv out) (a.length+b.length+1)+c*B6^(i+k)=S6 (fv a) i*au b+fv a i*B6^i*S6 (fv b) k
 carry:c<=1000000000000
structure Kt(b:List Nat):Prop where
 limb:∀k,fv b k<1000000000000
 val:au b<B6^(b.length+1)
def kP.Vc{b:List Nat}(h:kP b):Kt b:=
 ⟨λk=>Nat.lt_trans (aI h k) V0,Nat.lt_of_lt_of_le (sZ h) (Nat.pow_le_pow_right V0 VY)⟩
def P7{g:Nat}(h:g<1000000000000):Kt [g]:=by
 refine⟨λk=> ?_,?_⟩
 ·cases k with
  |zero=>exact h
  |succ k=>rw[mD V5];decide
 ·show S6 (fv [g]) 1<B6^2;simp[S6,fv];omega
def GO.next{a b:List Nat}{i k c:Nat}{out:List Nat}(h:GO a b i k c out)(ha:kP a)(hb:Kt b)(hk:i+k<a.length+b.length+1):
  GO a b i (k+1) ((fv out (i+k)+fv a i*fv b k+c)/1000000) (out.set (i+k) ((fv out (i+k)+fv a i*fv b k+c)%1000000)):=by
 obtain⟨len,small,eq,carry⟩:=h;have h1:fv a i<1000000:=aI ha i;have h2:fv out (i+k)<1000000:=aI small _;have h3:=hb.limb k;have h4:fv a i*fv b k<=999999*999999999999:=Nat.mul_le_mul VY VY;obtain⟨n,hn⟩:∃n,fv out (i+k)+fv a i*fv b k+c=n:=⟨_,rfl⟩;rw[hn];refine⟨by rw[List.length_set];exact len,small.set (Nat.mod_lt _ V0),?_,VY⟩;have e:=Sb (l:=out) (j:=i+k) (x:=n%1000000) hk VY;have d:=Nat.div_add_mod n 1000000;have e2:n/1000000*B6^(i+(k+1))=1000000*(n/1000000)*B6^(i+k):=by
  rw[<-Nat.add_assoc,Nat.pow_succ,VE (B6^(i+k)) B6,<-Nat.mul_assoc,VE _ B6]
 have e3:fv a i*B6^i*S6 (fv b) (k+1)=fv a i*B6^i*S6 (fv b) k+fv a i*fv b k*B6^(i+k):=by
  rw[cO,Nat.mul_add,Nat.pow_add]
  congr 1
  rw[VE (fv b k),Nat.mul_assoc,<-Nat.mul_assoc (B6^i),VE _ (fv b k),<-Nat.mul_assoc]
 rw[e2,e3];have e4:n*B6^(i+k)=1000000*(n/1000000)*B6^(i+k)+n%1000000*B6^(i+k):=by rw[<-Nat.add_mul,d]
 have e5:n*B6^(i+k)=fv out (i+k)*B6^(i+k)+fv a i*fv b k*B6^(i+k)+c*B6^(i+k):=by rw[<-hn,Nat.add_mul,Nat.add_mul]
 omega
def GO.inside{a b:List Nat}{i k c:Nat}{out:List Nat}(h:GO a b i k c out)(ha:kP a)(hb:Kt b)(hi:i<a.length)(hk:b.length<=k)(hc:0<c):i+k<a.length+b.length+1:=by
 rcases Nat.lt_or_ge (i+k) (a.length+b.length+1) with h1|h1
 ·exact h1
 exfalso;have eq:=h.eq;rw[eW hk,<-Nat.add_mul,<-cO] at eq;have h2:S6 (fv a) (i+1)<B6^(i+1):=Gg (λk _=>aI ha k);have h3:S6 (fv a) (i+1)*au b<B6^(i+1)*B6^(b.length+1):=Nat.mul_lt_mul'' h2 hb.val;rw[<-Nat.pow_add] at h3;have h4:B6^(i+1+(b.length+1))<=B6^(i+k):=Nat.pow_le_pow_right V0 VY;have h5:1*B6^(i+k)<=c*B6^(i+k):=Nat.mul_le_mul_right _ hc;omega
def GO.row{a b:List Nat}{i k:Nat}{out:List Nat}(h:GO a b i k 0 out)(hk:b.length<=k):GO a b (i+1) 0 0 out:=by
 refine⟨h.len,h.small,?_,VY⟩;have eq:=h.eq;rw[eW hk,<-Nat.add_mul,<-cO] at eq;simp only[Nat.zero_mul,Nat.add_zero] at eq⊢;rw[eq];simp[S6]
def GO.start(a b:List Nat):GO a b 0 0 0 (List.replicate (a.length+b.length+1) 0):=
 ⟨V5,kP.T2 _,by rw[tL (λk _=>me _ k)];simp[S6],VY⟩
def GO.done{a b:List Nat}{out:List Nat}(h:GO a b a.length 0 0 out):au out=au a*au b:=by
 have:=h.eq;rw[mD (Vm _)] at this;simp only[Nat.zero_mul,Nat.add_zero] at this;unfold au;rw[h.len,this];rfl
def kJ{r b:List Nat}(hr:aZ r)(hb:kP b)(h:au r<=au b):r.length<=b.length:=by
 rcases Nat.lt_or_ge b.length r.length with hlt|hge
 ·have:=gW hb hr.trim hlt;omega
 ·exact hge
def Uo{b r:List Nat}{m:Nat}(hb:kP b)(hl:b.length=m+2)(hrl:r.length<=m+3):
  ((fv r (m+2)*1000000+fv r (m+1))*1000000+fv r m)/(fv b (m+1)*1000000+fv b m+1)*au b<=au r:=by
 have e1:au r=S6 (fv r) (m+3):=(eW hrl).symm;have e2:au b=S6 (fv b) (m+2):=by unfold au;rw[hl]
 rw[e1,e2];simp only[cO];have h0:S6 (fv b) m<B6^m:=Gg (λk _=>aI hb k);obtain⟨t,ht⟩:∃t,fv b (m+1)*1000000+fv b m+1=t:=⟨_,rfl⟩;obtain⟨u,hu⟩:∃u,(fv r (m+2)*1000000+fv r (m+1))*1000000+fv r m=u:=⟨_,rfl⟩;rw[ht,hu];have h1:S6 (fv b) m+fv b m*B6^m+fv b (m+1)*B6^(m+1)<=t*B6^m:=by
  rw[<-ht,Nat.pow_succ,Nat.add_mul,Nat.add_mul,Nat.one_mul,VE (B6^m) B6,<-Nat.mul_assoc];have:fv b (m+1)*B6*B6^m=fv b (m+1)*1000000*B6^m:=rfl;omega
 have h2:u*B6^m<=S6 (fv r) m+fv r m*B6^m+fv r (m+1)*B6^(m+1)+fv r (m+2)*B6^(m+2):=by
  have e3:fv r (m+1)*B6^(m+1)=fv r (m+1)*1000000*B6^m:=by rw[Nat.pow_succ,VE (B6^m) B6,<-Nat.mul_assoc]
  have e4:fv r (m+2)*B6^(m+2)=fv r (m+2)*1000000*1000000*B6^m:=by
   rw[Nat.pow_succ,Nat.pow_succ,VE (B6^m*B6) B6,VE (B6^m) B6,<-Nat.mul_assoc,<-Nat.mul_assoc]
  rw[e3,e4,<-hu,Nat.add_mul,Nat.add_mul,Nat.add_mul];omega
 have h3:u/t*t<=u:=Nat.div_mul_le_self _ _;refine VB (Nat.mul_le_mul_left _ h1) (VB ?_ h2);rw[<-Nat.mul_assoc];exact Nat.mul_le_mul_right _ h3
def oq(x:Nat)(l:List Nat):au (x::l)=x+1000000*au l:=by
 unfold au;rw[List.length_cons,Nat.add_comm l.length 1,zb];have:S6 (λk=>fv (x::l) (1+k)) l.length=S6 (fv l) l.length:=jg (λk _=>by unfold fv;rw[Nat.add_comm];rfl);rw[this];simp[S6,fv]
def R7{z V R l:Nat}(h:l+z*V=R)(hR:R<1000000*V):z<1000000:=by
 rcases Nat.lt_or_ge z 1000000 with h1|h1
 ·exact h1
 ·have:=Nat.mul_le_mul_right V h1;omega
end Kp
namespace Go.Proofs.YtmliacdegmklaaaGreatDoor
section
open Kp
def SS(z:ByteArray)(f k:Nat):Prop:=∀m (_:f<=m) (_:m<k) (h:m<z.size),48<=((z[m]'h).toNat:Int)/\((z[m]'h).toNat:Int)<=57
structure MD(z:ByteArray):Prop where
 ex:∃f,f<=1/\f<z.size/\SS z f z.size/\z.size-f<=300/\(f=1↔∃h:0<z.size,((z[0]'h).toNat:Int)=45)
def cJ(z:ByteArray):Nat->Nat
 |0=>0
 |k+1=>10*cJ z k+((z.data.toList.getD k 0).toNat-48)
def iL{z:ByteArray}{k g:Nat}(h:k<z.size)(hg:((z[k]'h).toNat:Int)=((48+g:Nat):Int)):cJ z (k+1)=10*cJ z k+g:=by
 have e:z.data.toList.getD k 0=z[k]'h:=by
  exact a0i
 show 10*cJ z k+((z.data.toList.getD k 0).toNat-48)=_;rw[e];omega
structure Em(z:ByteArray):Prop where
 pos:0<z.size
 len:z.size<=300
 all:SS z 0 z.size
 lead:∀h:0<z.size,1<z.size->((z[0]'h).toNat:Int)≠48
def Em.at{z:ByteArray}(h:Em z){k:Nat}(hk:k<z.size):∃g:Nat,g<=9/\((z[k]'hk).toNat:Int)=((48+g:Nat):Int):=by
 have:=h.all k (Nat.zero_le _) hk hk;exact⟨(z[k]'hk).toNat-48,VY,VY⟩
end
end Go.Proofs.YtmliacdegmklaaaGreatDoor
