/- ChangeLogs of kingpostlaw58: part 1 of its proof (merged and shortened by program). -/
import Derived.WalkSpells
import Derived.WalkLawsBesides
import Derived.BigQuiet
import Derived.RangeFuncNested
import Derived.RangeFuncBound
import Derived.OwnWalkIn
import Derived.TacticsInMore
import Derived.LoopNIn
import Derived.LoopIn
import Derived.StillTailTactics
import Derived.Shelf.Strings.SlTrimAscii
import Derived.Lib.OwnKind
import Derived.Lib.BufferKept
import Derived.Test.YtalhfkdhdggdaaaGreatDoorL00
set_option linter.unusedVariables false
set_option linter.unusedSimpArgs false
set_option linter.defProp false
set_option maxHeartbeats 8000000
set_option maxRecDepth 100000
open Go.RowKit Go.Shelf Go.Proofs.Tryz
open And renaming intro→Ci
open Array renaming replicate→E7
open Bool renaming false→AM,true→AL
open ByteArray renaming size→OY
open Decidable renaming decide→AQ
open Go renaming World→V,Value→AN,Calls→AZ,TypeId→Bb,Addr→An,maxLen→BM,undef→Ba,Ending→CI,wpList→CQ,MemPlace→Dw,KeepsOthers→GF,MapEntry→FG,DataW→D6,Operand→F0,Act→BV
open Go.Act renaming put→G7
open Go.Builtin renaming zeroCells→Is,append_→JN
open Go.DataW renaming trod→ET
open Go.Ending renaming returned→Ac
open Go.Fence renaming wide→Ha
open Go.IntKind renaming i64→G
open Go.Lib renaming hasPrefix→DH,cut→Bj,compareInt→Dv,itoa→CY,decDigits→ES,split→Da,byteCells→IV
open Go.MapKept renaming IsKey→MV
open Go.Proofs.Tryz renaming prog→AO,underlying54→Cc,underlying34→DV,underlying25→FD,underlying3→GQ
open Go.Region renaming wanted→Ir
open Go.RowKit renaming intOf→B8,Below→At
open Go.Value renaming agg→Ea,oneCell'→Ks,slice→FO,ownBlock→Hv,int→Gr,slice→AK,string→AT,bool→AU,pointer→Ap,int→M,agg→AW,tuple→BO
open Go.World renaming setCell→Di,cell?→Dx,setRow→F8,frozen?→Hb
open List renaming replicate→F7,range→G8,getD→Gs,length→ln
open Nat renaming gcd→DO,reduceAdd→Hw
open Option renaming none→O,some→Q,getD→FF
open Or renaming inl→Cf
open UInt8 renaming ofNat→GR
namespace Go.Proofs.YtalhfkdhdggdaaaGreatDoor
theorem _root_.Go.RowKit.Hid.o{p:Prop}(h:Go.RowKit.Hid p):p:=h
theorem _root_.Go.Calls.q{P f a w v}{S:Go.World→Prop}{R:Go.Ending→Go.World→Prop}(h:Go.Calls P f a w λx w'=>x=v∧S w')(k:∀w',S w'→R v w'):Go.Calls P f a w R:=h.mono λ_ _ h=>h.1▸k _ h.2
theorem _root_.Go.CallsIn.q{b n P f a w v}{S:Go.World→Prop}{R:Go.Ending→Go.World→Prop}(h:Go.CallsIn b n P f a w λx w'=>x=v∧S w')(k:∀w',S w'→R v w'):Go.CallsIn b n P f a w R:=h.mono λ_ _ h=>h.1▸k _ h.2
section
variable{p:Prop}
def F:=@rfl
theorem Lc{b:Sort _}(a:b):∃x,x=a:=⟨a,rfl⟩
theorem AP{b:Sort _}(a:b):∃x,a=x:=⟨a,rfl⟩
def D(h:p:=by omega):=h
def U(h:p:=by kernel_rfl):=h
def Z(h:p:=by decide):=h
def AV(h:p:=by simp):=h
def Aq(h:p:=by cases h):=h
def Bm(h:p:=by simp[B8];omega):=h
def Al(h:p:=by grind):=h
def Fo(h:p:=by rw[HR.o];rfl):=h
def Bk(h:p:=by simp;omega):=h
def BE(h:p:=by rfl):=h
def DI(h:p:=by assumption):=h
def Et(h:p:=by rw[CX];omega):=h
def Fp(h:p:=by unfold BM;omega):=h
def TQ(h:p:=by first|exact H.o|exact H.put _ _|exact(H.put _ _).put _ _):=h
def eU(h:p:=by first|with_reducible exact fy _ _ _ _|with_reducible exact XO _ _ _ _|with_reducible exact a1b _ _ _ _|with_reducible exact qv _ _ _ _):=h
def GG(h:p:=by decide+kernel):=h
def PY(h:p:=by first|omega|(simp;done)|(simp;omega)):=h
def Kw(h:p:=by rw[f.o];rfl):=h
def Hi(h:p:=by rw[CK];omega):=h
def yM(h:p:=by rw[CK];intro e;exact a (Wd (by exact xz e))):=h
def Gh(h:p:=by simp; omega):=h
def Ik(h:p:=by decide +kernel):=h
def ZL(h:p:=by rw[OV,IU,(Az.new wr 3 [M G (x:Int)]).cell];exact E):=h
def TP(h:p:=by rw[<-o];exact(Ad _ _).alloc (AS _) _):=h
def Kv(h:p:=by rw[u.o];rfl):=h
def Nr(h:p:=by have:=B.o;omega):=h
def MX(h:p:=by simp [B8]; omega):=h
def Ns(h:p:=by unfold Cz;rw[h];rfl):=h
def TU(h:p:=by first|exact Xq _ _|exact Ext.B9 _):=h
def TV(h:p:=by unfold rE;rw[f.o];kernel_rfl):=h
def MY(h:p:=by rw[H.o];rfl):=h
def IW(h:p:=by simp[MV]):=h
def RH(h:p:=by rwa[Bz (by decide)] at e):=h
def fC(h:p:=by first|exact m.o|exact below_drewN m.o _|exact Ad _ _):=h
def Pc(h:p:=by unfold FQ;rw[h];rfl):=h
def Us(h:p:=by first|exact Ext.B9 _|exact Xq _ _):=h
def NF(h:p:=by rw[Cx];omega):=h
def TW(h:p:=by rw[<-o];exact EC.new w _):=h
def Oa(h:p:=by simpa using h):=h
def ZP(h:p:=by first|omega|(simp;done)|(simp[Di];omega)):=h
def Ut(h:p:=by grind [getD_replicate_false]):=h
def yV(h:p:=by first|exact JC.ext i.o HX1.o|exact JC.ext i.o (Ext.tr HX1.o ((Ad _ _).alloc (AS _) _))):=h
def fD(h:p:=by have⟨q1,q2⟩:=r.o;subst q1 q2;kernel_rfl):=h
def ZQ(h:p:=by first|exact H.o|exact H.put _ _):=h
def mR(h:p:=by rw[<-d];exact((Ad _ _).alloc (AS _) _).alloc (by simp) _):=h
def Uu(h:p:=by unfold numsOf;rw[hk];simp):=h
def TX(h:p:=by rw[HF.o];rfl):=h
def ZR(h:p:=by rw[show JH [1] _=0 by decide];grind):=h
def fE(h:p:=by first | assumption | simp_all):=h
def Nt(h:p:=by grind [Fb]):=h
def RJ(h:p:=by simp at t;omega):=h
def fF(h:p:=by rw[g.1,g.2];exact t):=h
def Up(h:p:=by have:=uw hn;grind):=h
def Wy(h:p:=by rw[iz hk r] at h;cases h):=h
def mQ(h:p:=by first|rfl|(simp only[xy];rfl)):=h
def Uq(h:p:=by unfold El;rw[hk];simp):=h
def QM(h:p:=by rw[BL];omega):=h
def eu(h:p:=by rw[DJ] at g;exact g):=h
def TR(h:p:=by first|rfl|trivial):=h
def TS(h:p:=by simp[B8]<;>omega):=h
def QN(h:p:=by rw[DJ];omega):=h
def ew(h:p:=by intro u hu;simp at hu;subst hu;rfl):=h
def Wz(h:p:=by grind [a.size]):=h
def ey(h:p:=by have:=R.o;have:=S.o;omega):=h
def TT(h:p:=by rw[CX];exact h1):=h
def PZ(h:p:=by rw[hk];rfl):=h
def Pb(h:p:=by grind [FQ]):=h
def QO(h:p:=by grind [DJ]):=h
def QP(h:p:=by simp[Ks]):=h
def yS(h:p:=by exact xz e):=h
def ZM(h:p:=by rw[BL];exact hi):=h
def Ur(h:p:=by rw[CX];exact h2):=h
def XA(h:p:=by simp[Act.eval,G7]):=h
def ZN(h:p:=by simp[OY]):=h
def RE(h:p:=by grind [Cz]):=h
def A:=@Go.Lib.hid
def AS:=@Nat.le_refl
def Ad:=@Below.refl
def CX:=@decide_eq_false_iff_not
def BL:=@List.length_map
def DC:=@Go.wpOp_step
def Bv:=@List.getElem?_eq_getElem
def CK:=@beq_eq_false_iff_ne
def CM:=@List.getD_eq_getElem?_getD
def Bq:=@Go.World.alloc_heap_new
def Af:=@if_neg
def BJ:=@Nat.le_trans
def Aj:=@if_pos
def C7:=@Go.wpList_store_row
def Cx:=@decide_eq_true_eq
def Bw:=@decide_eq_false
def Ee:=@Array.getElem?_eq_some_iff
def Bp:=@Go.bodyPost_ret
def D5:=@Go.World.size_alloc
def Ce:=@Go.wpList_load_row
def CP:=@decide_eq_true
def Dj:=@Nat.lt_of_lt_of_le
def C9:=@beq_iff_eq
def DF:=@Go.IntWalk.i64_in
def FN:=@List.length_append
def Df:=@Go.AllReady.cons
def De:=@Go.callsIn_wide
def FV:=@List.drop_succ_cons
def DL:=@Nat.mul_comm
def Ey:=@List.getElem_mem
def D8:=@Nat.zero_le
def Ez:=@Bool.and_eq_true
def Cd:=@bne_iff_ne
def F5:=@Go.AllReady.nil
def Gp:=@Go.RowKit.Below.heap_setCell
def Gq:=@Go.KeepsOthers.setCell
def Gz:=@Nat.mul_le_mul_right
def Dh:=@Nat.add_zero
def IT:=@Array.getElem?_modify
def FX:=@List.length_cons
def F6:=@Go.wpAny_ready
def DM:=@Go.info_parts
def Jf:=@List.length_eq_zero_iff
def DW:=@Go.wpAny_take
def FY:=@List.drop_zero
def JJ:=@List.mem_iff_getElem
def JK:=@Nat.pow_le_pow_right
def LN:=@Go.CallsIn.inRound
def Ij:=@of_decide_eq_false
def Fz:=@Go.wp_region_any
def Qx:=@List.take_succ_eq_append_getElem
def FM:=@Nat.le_of_lt
def Jh:=@of_decide_eq_true
def Ht:=@Nat.lt_or_ge
def IU:=@Nat.zero_add
def JM:=@Bool.eq_iff_iff
def Hu:=@Bool.true_and
def Ku:=@List.getElem?_map
def Ry:=@ByteArray.getElem_eq_getElem_data
def MW:=@List.length_pos_iff
def Nn:=@List.size_toArray
def Ln:=@Go.wpList_append_own
def No:=@List.append_assoc
def Uc:=@Go.getD_replicate_false
def Jy:=@List.length_nil
def Qy:=@List.take_of_length_le
def H7:=@Nat.one_mul
def LO:=@List.cons_append
def LP:=@Go.rounds_succ
def Ji:=@Bool.false_and
def Kr:=@Option.some.inj
def FZ:=@Go.Proofs.enters_of
def OW:=@Go.Calls.quiet_of_same
def QA:=@List.length_take
def OX:=@Array.replicate_succ
def Jg:=@List.mem_map
def JL:=@Go.wpList_build
def PO:=@Nat.le_of_ble_eq_true
def Hh:=@Nat.mod_lt
def Lm:=@List.nil_append
def QB:=@List.flatten_append
def PQ:=@Array.replicate_zero
def QC:=@Bool.or_eq_false_iff
def dw:=@Array.all_eq_true_iff_forall_mem
def Kt:=@List.mem_cons
def Ej:=@Ne.symm
def PR:=@List.append_toArray
def TH:=@Go.Lib.byteCells_length
def PN:=@List.all_eq_true
def Nk:=@List.take_length
def WY:=@List.take_append_drop
def OV:=@Go.Addr.add_lit
def Kq:=@Nat.add_mul
def Nl:=@List.length_set
def PS:=@List.push_toArray
def TK:=@Go.Lib.decDigits_length
def SE:=@List.mem_of_mem_take
def PT:=@Go.DataW.trod_struct
def R8:=@Go.callsIn_of_wp_marks
def Wd:=@UInt8.toNat.inj
def QJ:=@Bool.or_eq_true
def PU:=@List.map_append
def PV:=@Go.run_takeDeferred
def PW:=@List.not_mem_nil
def PX:=@Go.results_cell_row
def TL:=@Go.World.block_lt_of_cell?
def QK:=@Go.wp_loop_rounds
def SF:=@List.length_drop
def SG:=@Go.World.cell?_of_block
def SH:=@List.mem_of_getElem?
def SI:=@List.mem_of_mem_drop
def NC:=@Nat.pow_succ
def OZ:=@Nat.mul_le_mul
def QD:=@List.any_eq_true
def S7:=@List.take_succ_cons
def WZ:=@List.sublist_flatten_of_mem
def Qz:=@Go.World.ownsRow_nil
def Wa:=@Go.World.putObj_heap_other
def QE:=@Go.run_underlying
def TJ:=@List.mem_cons_of_mem
def NA:=@Go.wp_load_row
def QF:=@List.mem_append
def QG:=@List.head?_cons
def QH:=@UInt8.toNat_inj
def Np:=@Nat.add_comm
def R7:=@decide_eq_decide
def S8:=@List.mem_flatten
def Wb:=@List.getElem?_eq_some_iff
def lT:=@List.drop_eq_getElem_cons
def Z4:=@Go.wpAny_done
def Lo:=@Go.RowKit.Below.drew
def S9:=@Bool.not_eq_true'
def Wc:=@Bool.and_eq_false_iff
def TI:=@Nat.eq_zero_or_pos
def Ud:=@Nat.mod_eq_of_lt
def Ue:=@Go.RowKit.Below.heap_alloc
def Rz:=@beq_self_eq_true
def RC:=@List.take_zero
def ZA:=@Int.tmod_eq_emod_of_nonneg
def Wq:=@List.head?_eq_getElem?
def SK:=@List.append_nil
def ZB:=@Go.World.cell?_setCell_other
def Uj:=@Nat.gcd_zero_right
def Uk:=@List.getElem?_take
def RD:=@Nat.gcd_comm
def xz:=@Int.ofNat.inj
def ZC:=@List.mem_of_mem_eraseIdx
def TO:=@Go.heap_alloc_old
def Ul:=@Go.Result.andThen_ok
def Wr:=@List.any_eq_false
def Ws:=@Nat.mul_le_mul_left
def ZD:=@Array.length_toList
def eF:=@ByteArray.size_extract
def SL:=@List.all_cons
def SN:=@List.map_cons
def ZF:=@Nat.div_eq_of_lt
def Um:=@Option.getD_some
def ZG:=@Nat.div_lt_iff_lt_mul
def yA:=@List.mem_or_eq_of_mem_set
def yB:=@Array.getElem?_eq_getElem
def b5r:=@List.getElem?_append_left
def dz:=@List.getLast?_eq_getElem?
def eA:=@Classical.byContradiction
def Ui:=@Go.wpIn_region_any
def xy:=@Go.World.drewN_drewN
def We:=@Option.some.injEq
def Wh:=@Go.getD_set_ne
def Wi:=@List.flatten_cons
def Z6:=@Lib.OthersKept.refl
def Z7:=@Go.ByteArray.toList_eq
def Wj:=@Go.wpList_make_full
def Nq:=@or_false
def Wk:=@Nat.lt_succ_self
def Wm:=@Bool.not_eq_true
def eB:=@Classical.axiomOfChoice
def Wn:=@Go.step_append_room
def Wo:=@Nat.succ_le_succ
def SJ:=@Nat.mul_one
def TN:=@Nat.zero_mul
def R9:=@Go.RowKit.Below.size
def Z8:=@List.getElem?_drop
def lV:=@Nat.div_div_eq_div_mul
def eC:=@Nat.div_add_mod
def Wp:=@Nat.mul_assoc
def eD:=@List.length_singleton
def eE:=@List.getElem?_eq_none
def lU:=@Nat.lt_of_mul_lt_mul_right
def dx:=@Go.Region.waitsFor_spec
def TM:=@Go.wpStill_nil
def dy:=@Go.WideElems.Trod_stays
def Uf:=@Nat.le_of_eq
def Ug:=@Go.Sem.run_bind
def Uh:=@Go.Sem.run_pure
def Z5:=@List.map_toArray
def mA:=@Go.World.cell?_setCell_same'
def mB:=@List.pairwise_iff_getElem
def QL:=@congrArg
def mC:=@Nat.lt_succ_iff_lt_or_eq
def ZK:=@Int.natCast_mul
def eO:=@Array.ext_getElem?
def eP:=@Int.lt_or_lt_of_ne
def Un:=@Go.RowKit.Below.alloc
def eQ:=@Int.toNat_natCast
def mD:=@Option.map_eq_some_iff
def eR:=@Nat.lt_trichotomy
def eS:=@List.foldl_append
def mE:=@Bool.eq_false_iff
def mF:=@Go.MapKept.run_getObj_map
def mG:=@List.getElem_cons_zero
def mH:=@Go.run_storeCells_at
def Wu:=@List.map_nil
def Uo:=@Go.getD_in
def Wv:=@Go.wpStill_step
def yJ:=@Array.getElem?_setIfInBounds_ne
def yK:=@List.eraseIdx_eq_take_drop_succ
def yL:=@UInt8.le_iff_toNat_le
def mI:=@List.mem_append_right
def mJ:=@ByteArray.size_append
def eT:=@List.mem_flatMap
def Ww:=@Go.mem_ready
def eH:=@List.isEmpty_iff
def lZ:=@Go.IntWalk.i64_left
def ZI:=@Go.RowKit.Below.setCell
def eI:=@Go.Lib.count_one
def ZJ:=@Nat.gcd_rec
def yD:=@List.count_eq_zero_of_not_mem
def Wt:=@Go.wpList_step
def yE:=@Go.IntWalk.i64_quo
def lg:=@List.take_left'
def eJ:=@Go.run_loadVar_row
def lh:=@Go.run_callFunc_extern
def yF:=@Go.Lib.strCells_length
def lj:=@Go.MapKept.run_findKey
def lk:=@List.length_flatten
def eK:=@List.map_set
def b5v:=@Nat.add_mul_mod_self_right
def lr:=@Nat.lt_or_gt_of_ne
def b5z:=@List.takeWhile_cons_of_pos
def lv:=@List.drop_drop
def eL:=@Go.heap_alloc_new
def lz:=@Bool.false_eq_true
def yG:=@Go.World.ownsRow_made
def eM:=@Bool.and_assoc
def eN:=@Bool.not_false
def yH:=@Nat.lt_of_le_of_lt
def yI:=@List.eq_append_cons_of_mem
def b5s:=@Int.mul_pos_of_neg_of_neg
def b5t:=@Int.mul_neg_of_neg_of_pos
def b5u:=@Int.mul_neg_of_pos_of_neg
def ZH:=@Nat.pow_pos
def lW:=@List.flatMap_cons
def lX:=@Go.DataW.trod_string
def lY:=@Go.World.cells?_some
def SO:=@if_true
def yC:=@List.take_add_one
def eG:=@Prod.mk.injEq
def eV:=@List.any_cons
def eW:=@ByteArray.ext
def mK:=@Go.KeepsOthers.drew
def eX:=@Nat.succ_mul
def eY:=@Nat.ne_of_lt
def eZ:=@Go.wpList_plain
def ef:=@List.map_map
def mL:=@List.any_append
def yN:=@List.all_append
def yO:=@Nat.min_eq_left
def mM:=@Go.IntWalk.rem_in
def eh:=@Nat.pow_add
def Wx:=@if_false
def yP:=@List.mem_range
def mN:=@Int.natAbs_mul
def mO:=@Go.growslice_fits
def mP:=@Go.run_append_own
def en:=@Prod.mk.inj
def b5w:=@Go.tail_waits
def eo:=@decide_not
def yT(h:p:=by
 unfold I
 rw[CM]
 rcases Ht k _ with hk|hk
 .rw[Bv hk];exact h _ (Ey hk)
 grind):=h
def yU(h:p:=by
 by_cases hd:d=0
 .subst hd;rw[Xr];exact a h.pK
 rw[Xx hd];exact⟨h,oW hd⟩):=h
def ZO(h:p:=by
 go_wp2
 go_ret
 exact⟨F,F⟩):=h
def yQ(h:p:=by
 have hz:((I l k:Int)==0)=AM:=Hi
 have d:=A a
 clear a c
 go_wp2
 go_ret
 exact⟨by rw[a0o D d.o f.o];rfl,rfl⟩):=h
def yR(h:p:=by
 go_wp2
 go_ret
 exact⟨by have:=f.o;simp[jV] at this;rw[this];rfl,rfl⟩):=h
def yt(h:p:=by
 have h':=h
 obtain⟨cur,hh,h1,h2,h3,hc⟩:=h
 exact⟨_,R,F,h2,h3,λ_=>⟨g,0,rfl,a,λj hj=>by rw[IU];exact h'.cell hj⟩⟩):=h
def mV(h:p:=by
 intro d hd
 rcases yA hd with h1|h1
 .exact h d h1
 grind):=h
def yu(h:p:=by
 obtain rfl:k=ln v+1:=D
 go_wp2
 go_ret
 exact⟨c,a,F,hrel⟩):=h
def yv(h:p:=by
 go_wp2_with fail
 rw[P.o]
 go_ret
 exact⟨q-1,_,F,o.1,D,mQ⟩):=h
def yx(h:p:=by
 go_wp2_with fail
 rw[P.o]
 exact⟨⟨q-1,r+v1,_,F,by go_num,⟨o.2,o.1,D,a⟩,mQ⟩,Bm⟩):=h
def mW(h:p:=by
 gi_wp2
 go_end0
 exact⟨⟨_,F⟩,.inl c⟩):=h
def XB(h:p:=by
 refine F6 (rs:=[9]) U AV ?_
 refine Df F (λK b=> ?_) ?_
 .go_simp
  refine b _ _ ?_
  clear b K
  refine F6 (rs:=[10]) U AV ?_
  refine Df F (λK b=> ?_) ?_
  .go_simp
   refine b _ _ ?_
   clear b K
   refine Z4 U ?_ _
   gi_wp2
   exact uz u.o
  exact F5
 exact F5):=h
def yy(h:p:=by
 refine F6 (rs:=[10]) U AV ?_
 refine Df F (λK b=> ?_) ?_
 .go_simp
  refine b _ _ ?_
  clear b K
  refine Z4 U ?_ _
  gi_wp2
  exact uz u.o
 exact F5):=h
def yz(h:p:=by
 gi_wp2
 refine⟨λh=>Aq,hR.mono ?_⟩
 rintro e W3 (⟨rfl,hJ3⟩|⟨rfl,hJx3⟩)
 .gi_wp2
  go_roundw
  case rel=>exact⟨k+1,D,AV,hJ3⟩
  simp[B8];omega
 gi_wp2
 refine Bp (results_none F _ _ _) F ?_
 exact⟨⟨_,F⟩,.inr ⟨k,d,hJx3⟩⟩):=h
def mX(h:p:=by
 refine F6 (rs:=[11]) U AV ?_
 refine Df F (λK a=> ?_) ?_
 .go_simp
  refine a _ _ ?_
  clear a K
  refine Z4 U ?_ _
  gi_wp2
  exact jM z.o
 exact F5):=h
def mY(h:p:=by
 refine F6 (rs:=[11]) U AV ?_
 refine Df F (λK a=> ?_) ?_
 .go_simp
  refine a _ _ ?_
  clear a K
  refine Z4 U ?_ _
  gi_wp2
  exact b2P ah.o z.o
 exact F5):=h
def z8(h:p:=by
 clear h
 go_enter func321,ntmps321
 go_wp2
 exact Bp (v:= BO #[M G 0,M G 0,AU AM]) (by simp[results,results321,go_sem]) F ⟨F,Ad _ _⟩):=h
def zA(h:p:=by
 rcases l.2 with⟨hv,_⟩|⟨g,R,cur,hv,_⟩
 .exact⟨_,_,_,hv⟩
 exact⟨_,_,_,hv⟩):=h
def zB(h:p:=by
 have hci:=A (U6 (I l (ln l-1-k)) L D D (S.below m.low (AS _)))
 have f:=A m
 clear m
 have⟨n,hn⟩:=AP (I l (ln l-1-k))
 rw[hn] at hci y R⊢
 have HN:=A hn
 clear hn
 by_cases hk0:k=0
 .subst hk0
  have B:AQ (((ln l-1-0:Nat):Int)<(ln l:Int)-1)=AM:=Et
  gi_wp2_with(refine⟨trivial,?_⟩;first|(gi_at_call 179;refine(LN i (De.2 hci.o)).q λW3 hB3=>?_;have H3:=A (f.stays (CN.Iv hB3 (AS _)) s);have c3:=H3.x.Hl)|(gi_at_call 178;skip))
  have h3:=H3.o
  obtain⟨p,g,hb3⟩:=h3.bd
  have hsz3:=h3.low.size
  refine(LN i (De.2 (Y1 w.1.size (w.1.size+1) _ p [] _ (tx (CY (n:Int))) W3 hb3 g bE (by rw[TH,FN,DJ];omega) hsz3))).q ?_
  rintro W6 ⟨hb6,hk6⟩
  clear h3 g hb3
  gi_wp2
  refine vz f.o ((DQ.Iv hB3 s).trans hk6) ?_
  have e1:Fj l (0+1)=Fj l 0++CY n:=by
   show Fj l 0++OQ AL _=_
   rw[HN.o];rfl
  rw[e1,<-No,VF]
  exact hb6
 have B:AQ (((ln l-1-k:Nat):Int)<(ln l:Int)-1)=AL:=NF
 obtain⟨c,hc⟩:∃c:Nat,9-(CY (n:Int)).length=c:=⟨_,F⟩
 have hcI:(9:Int)-((CY (n:Int)).length:Int)=(c:Int):=D
 have hc9:c<=9:=D
 have HC:=A hc
 clear hc
 gi_wp2_with(refine⟨trivial,?_⟩;first|(gi_at_call 179;refine(LN i (De.2 hci.o)).q λW3 hB3=>?_;have H3:=A (f.stays (CN.Iv hB3 (AS _)) s);have c3:=H3.x.Hl)|(gi_at_call 364;refine(LN i (De.2 (strings_Repeat ⟨#[48]⟩ c _ D (by show 1*c<=_;omega)))).q λW4 hB4=>?_)|(gi_at_call 178;skip))
 have h3:=H3.o
 have h4:=h3.stays (CN.Iv hB4 (AS _)) h3.low.size
 have k4:=(DQ.Iv (b:=w.1.size+1) hB3 s).trans (DQ.Iv hB4 h3.low.size)
 obtain⟨p,g,hb4⟩:=h4.bd
 have hsz4:=h4.low.size
 refine(LN i (De.2 (Y1 w.1.size (w.1.size+1) _ p [] _ (tx (Lib.repeatL [48] c)) W4 hb4 g bE (by rw[TH,FN,DJ,ae];omega) hsz4))).q ?_
 rintro W5 ⟨hb5,hk5⟩
 have HK5:=A (k4.trans hk5)
 have hsz5:=(h4.low.trans hk5.low).size
 clear h3 h4 g hb4 k4 hk5
 gi_wp2_with(refine⟨trivial,?_⟩;gi_at_call 178;skip)
 refine(LN i (De.2 (Y1 w.1.size (w.1.size+1) _ _ [] _ (tx (CY (n:Int))) W5 hb5 (.inr F) bE (by rw[FN,TH,FN,yF,DJ,DJ,ae];omega) hsz5))).q ?_
 rintro W6 ⟨hb6,hk6⟩
 gi_wp2
 refine vz f.o (HK5.trans hk6) ?_
 have e1:Fj l (k+1)=Fj l k++Lib.repeatL [48] c++CY n:=by
  show Fj l k++OQ (k==0) _=_
  have e0:(k==0)=AM:=by simpa using hk0
  rw[HN.o,e0,No,<-HC.o];rfl
 rw[e1,<-No,<-No,VF,VF]
 exact hb6):=h
def zC(h:p:=by
 have e:I (m++[d]) ((m++[d]).length-1)=d:=by unfold I;simp
 rw[e];omega):=h
def zD(h:p:=by
 go_enter func324,ntmps324
 go_wp2_with(first|(go_at_call 352;refine k.q λw1 hB1=>?_)|(go_at_call 253;refine(aX _ _).mono ?_;rintro e w2 ⟨rfl,rfl⟩))
 go_ret2
 rw[f.o]
 exact⟨F,d.trans (hB1.mono d.size)⟩):=h
def zE(h:p:=by
  have hw4 : k < ln s := by rw [DJ] at m; exact m
  go_wp2
  all_goals first
    | (have b : k = 0 \/ 8 < k \/ (1 < k /\ s.head? = Q 48) := by
         first
           | omega
           | (rename_i h; simp only [C9] at h; omega)
           | (rename_i h; rcases h with (h | h) | h
              . simp only [C9] at h; omega
              . omega
              exact .inr (.inr ⟨D, UF Oa⟩))
           | (rename_i h _; rcases h with (h | h) | h
              . simp only [C9] at h; omega
              . omega
              exact .inr (.inr ⟨D, UF Oa⟩))
           | (rename_i h _ _; simp only [C9] at h; omega)
           | (rename_i h _; simp only [C9] at h; omega)
           | (rename_i h _ _ _; simp only [C9] at h; omega)
           | (rename_i h _ _ _ _; simp only [C9] at h; omega)
       exact Bp (v := My s) (by rw [jb f.o b]; simp [results, results318, go_sem]) F ⟨F, Ad _ _⟩)
    | (have b : ¬ (k = 0 \/ 8 < k \/ (1 < k /\ s.head? = Q 48)) := by
         first
           | omega
           | (rename_i h _ _; have g := kN (s := s) (by simpa using h.2); rintro (h1 | h1 | ⟨_, h1⟩) <;> first | omega | exact g h1)
       go_quiet (fail)
       go_wp2
       exact Bp (v := My s) (by rw [jZ f.o b]; simp [UD, results, results318, go_sem]) F ⟨F, below_drewN (Ad _ _) _⟩)):=h
def fL(h:p:=by
  simp only [C9] at h; omega):=h
def Uv(h:p:=by
 have hx:=Qc 45 r
 exact aW):=h
def zF(h:p:=by
 have ho:Ag (45::r)=r:=rfl
 have hok:Fb (45::r)=AM:=Nt
 have HOK:=A hok
 have HZ:=A (show Dp (45::r)=(0,0) by grind [Dp])
 have HV:=A (K9 hn)
 have hr':ln a<=1000000:=Up
 have hx':=Qc 47 a
 have HV2:=A (K9 b)
 have hx:=Qc 45 r
 exact aW):=h
def XC(h:p:=by
 have h45:((((tx (c0::r))[0]' ZN).toNat:Int)==45)=AM:=yM
 exact aW):=h
def zG(h:p:=by
 have hok:Fb (c0::r)=AM:=Nt
 have HOK:=A hok
 have HZ:=A (show Dp (c0::r)=(0,0) by grind [Dp])
 have HV:=A (K9 hn)
 have hr':ln b<=1000000:=Up
 have hx':=Qc 47 b
 have HV2:=A (K9 c)
 have h45:((((tx (c0::r))[0]' ZN).toNat:Int)==45)=AM:=yM
 exact aW):=h
def zH(h:p:=by
 rcases x with hw|⟨g,o⟩|⟨g,o⟩
 .go_wp2
  go_ret
  exact⟨LV (by rw[HR.o]),F⟩
 .have q:k<ln s:=eu
  go_wp2
  go_ret
  exact⟨LV (by rw[HR.o]),F⟩
 have q:k<ln s:=eu
 go_wp2
 go_ret
 exact⟨LV (by rw[HR.o]),F⟩):=h
def XD(h:p:=by
 subst hi
 cases neg
 all_goals
  try have u:=u rfl
  exact af):=h
def zI(h:p:=by
 unfold Hd at h
 simp[QJ,C9] at h
 rcases h with((((h|h)|h)|h)|h)|h<;>subst h<;>decide+kernel):=h
def fM(h:p:=by
 unfold Gc
 repeat' split
 all_goals decide):=h
def fG(h:p:=by
 simp[EU,El,Cj,numsOf,rE,rW,GD,Qk,b,a,BZ,Dd]):=h
def ya(h:p:=by
 obtain⟨p,hp,hB,v,hb,hown,hne⟩:=h
 exact⟨p,hp,hB,v,by simp[Di,IT,hb],kV hown hne _,hne⟩):=h
def yb(h:p:=by
 have e:l.take k=l:=Qy D
 rw[e] at hw
 have j:=A hw
 have hlt':AQ ((k:Int)<(ln l:Int))=AM:=Et
 clear hw
 go_wp2
 go_end0
 exact⟨F,j.o,d⟩):=h
def yc(h:p:=by
 go_wp2_with(first|(go_at_call 179;refine u.q λW1 f=>?_;have ac:=f.size)|(go_at_call 107;refine(Jn B b 2 num _ (CY n) W1 (j.below f) D D).q ?_;rintro S ⟨t,x⟩))
 refine⟨E.o _ ((z.trans (DQ.Iv f D)).trans x) fF,Bm⟩):=h
def ye(h:p:=by
 obtain⟨k,hk,rfl,hall⟩:=hrel
 by_cases hlt:k<ln s
 .have hb:k<(tx s).size:=by rw[DJ];exact hlt
  have hx:(tx s)[k]'hb=s[k]:=rfl
  cases hn:WA s[k] with
  |true=>
   have hnx:iV s (M G ((k:Int)+1)):=⟨k+1,D,AV,by rw[Qx hlt,yN,hall];simp[hn]⟩
   have HNX:=A hnx
   have hr:(97<=(((tx s)[k]'hb).toNat:Int)/\(((tx s)[k]'hb).toNat:Int)<=122)\/(65<=(((tx s)[k]'hb).toNat:Int)/\(((tx s)[k]'hb).toNat:Int)<=90)\/(48<=(((tx s)[k]'hb).toNat:Int)/\(((tx s)[k]'hb).toNat:Int)<=57):=by
    rw[hx]
    unfold WA at hn
    simp only[QJ,Ez,Cx] at hn
    omega
   clear hnx hn hall hx
   rcases hr with⟨h1,h2⟩|⟨h1,h2⟩|⟨h1,h2⟩
   .go_wp2
    all_goals first
     |exact⟨HNX.o,Bm⟩
     |(exfalso;omega)
   .go_wp2
    all_goals first
     |exact⟨HNX.o,Bm⟩
     |(exfalso;omega)
   go_wp2
   all_goals first
    |exact⟨HNX.o,Bm⟩
    |(exfalso;omega)
  |false=>
   have HR:=A (show IY s=AM by
    unfold IY
    have:s.all WA=AM:=by
     rw[mE]
     intro h
     rw[PN] at h
     have:=h _ (Ey hlt)
     rw[hn] at this;cases this
    rw[this];rfl)
   have hr:((((tx s)[k]'hb).toNat:Int)<48)\/(57<(((tx s)[k]'hb).toNat:Int)/\(((tx s)[k]'hb).toNat:Int)<65)\/(90<(((tx s)[k]'hb).toNat:Int)/\(((tx s)[k]'hb).toNat:Int)<97)\/(122<(((tx s)[k]'hb).toNat:Int)):=by
    rw[hx]
    unfold WA at hn
    simp only[QC,Wc,CX] at hn
    omega
   clear hn hall hx
   rcases hr with h1|⟨h1,h2⟩|⟨h1,h2⟩|h1
   .go_wp2
    all_goals first
     |(go_ret;exact⟨Fo,rfl⟩)
     |(exfalso;omega)
   .go_wp2
    all_goals first
     |(go_ret;exact⟨Fo,rfl⟩)
     |(exfalso;omega)
   .go_wp2
    all_goals first
     |(go_ret;exact⟨Fo,rfl⟩)
     |(exfalso;omega)
   go_wp2
   all_goals first
    |(go_ret;exact⟨Fo,rfl⟩)
    |(exfalso;omega)
 have e:s.take k=s:=Qy D
 rw[e] at hall
 have HA:=A hall
 have hlt':AQ ((k:Int)<(ln s:Int))=AM:=Et
 clear hall e
 cases s with
 |nil=>
  go_wp2
  go_ret
  exact⟨F,F⟩
 |cons b r=>
  have HR:=A (show IY (b::r)=AQ ((ln r:Int)+1<=16) by
   unfold IY
   rw[HA.o]
   simp
   omega)
  have hle:(ln r:Int)+1<=(k:Int):=by simp at hlt;omega
  have hlt2:AQ ((k:Int)<(ln r:Int)+1)=AM:=Et
  go_wp2
  go_ret
  exact⟨Fo,rfl⟩):=h
def yf(h:p:=by
 clear h1 X c g i l
 go_enter func92,ntmps92
 go_wp2
 go_ret
 exact⟨F,f.o,F2.set w lo 0 _⟩):=h
def yg(h:p:=by
 go_wp2
 go_ret
 exact⟨F,by rw[c.o];exact j.o AL,k.trans (F2.set _ lo 1 _)⟩):=h
def yh(h:p:=by
 have:=PN.1 h i (yP.2 hi)
 grind [Array.all_eq_true_iff_forall_mem]):=h
def yj(h:p:=by
 rintro a' w' ⟨v,rfl,hx,hv,hf⟩
 refine R _ _ w' (a.set hi r) (vu r Wz N hu) ⟨I _ _ c.d hx,λj hj hl=> ?_,λj k hj hk hjk h1 h2 h3 h4=> ?_⟩
 .by_cases hji:j=i
  .grind
  rw[Wh AM D] at hl
  simp[Af hji]
  exact L _ _ _ _ (c.v j hj hl) hx
 by_cases hji:j=i
 .subst hji
  rw[Wh AM hjk] at h4
  have⟨b',e',hb'⟩:=H k _ _ hk h2 (c.v k hk h4)
  grind
 rw[Wh AM D] at h3
 by_cases hki:k=i
 .have⟨b',e',hb'⟩:=H j _ _ hj h1 (c.v j hj h3)
  grind
 rw[Wh AM D] at h4
 simp[Af hji,Af hki]
 exact c.ne j k hj hk hjk h1 h2 h3 h4):=h
def fH(h:p:=by
 rcases Ht i n with h|h
 .exact h
 exact absurd hi (b5w A z hn a _ g F s (Uo t u) i h)):=h
def mS(h:p:=by
 have l:ops[g]?=Q _:=yB D
 have:g∈Region.ready md ops ac:=Ww.2 ⟨Uo t u,_,l,λe d _=>E _ (jF x s l e d)⟩
 grind):=h
def yk(h:p:=by
 exact tail C w c.d (λi hi=>c.v i hi (q i hi)) (λi j hi hj hij h1 h2=>c.ne i j hi hj hij h1 h2 (q i hi) (q j hj))):=h
def fI(h:p:=by
 apply Array.ext
 .grind [a.size]
 intro i h1 h2
 rw[a.size] at h1
 by_cases hi:i<n
 .have:=q i hi
  simp[a.size] at this
  grind
 have:=a.tail i D h1
 simp[a.size] at this
 grind):=h
def TZ(h:p:=by
 exact⟨a,.inl b⟩):=h
def mT(h:p:=by
 exact⟨O,0,by rw[b],D,Al,λd=>D⟩):=h
def fJ(h:p:=by
 rw[Sh];unfold I;simp[b5r,LX,hi]):=h
def Kx(h:p:=by
 go_wp2
 go_ret
 exact⟨Fo,rfl⟩):=h
def fK(h:p:=by
 go_enter func190,ntmps190
 go_wp2
 go_ret
 exact⟨Fo,GB _ _ _⟩):=h
def yl(h:p:=by
 rintro e W1 ⟨rfl,hX⟩
 exact f _ _ ⟨N8 a b c w.1.size _,by simp[d,d1,N8],hX,rfl,λh=>Aq⟩):=h
def mU(h:p:=by
 rintro e W1 ⟨rfl,hX⟩
 exact f _ _ ⟨N8 a b c w.1.size _,by simp[d,N8],hX,rfl,λh=>Aq⟩):=h
def ym(h:p:=by
 simp only[N8] at d
 go_simp
 exact f _ _ ⟨N8 a b c w.1.size _,by simp[d,N8],Ext.B9 _,rfl,λh=>Aq⟩):=h
def yn(h:p:=by
 refine DC F (λK f=> ?_)
 go_simp
 exact f _ _ ⟨_,F,Ext.B9 _,F,λh=>Aq⟩):=h
def yo(h:p:=by
 go_simp
 exact hK _ _ ⟨_,F,(Ad _ _).alloc (AS _) _,⟨_,F,f.size,Az.new _ _ _⟩,λ_=>⟨_,rfl,AS _⟩⟩):=h
def Ek(h:p:=by
 go_simp
 exact hK _ _ ⟨_,F,Ext.B9 _,F,λh=>Aq⟩):=h
def yq(h:p:=by
 have HP:=A (show Oz r x y k=AM by rw[m.o,I,X,t3,t4];rfl)
 gi_wp2_with(first
  |(refine⟨trivial,?_⟩;gi_at_call 186;refine(LN l (De.2 (Me Ag _))).q λJ hX3=>?_;have E3:Ext W2 (J.alloc (.cells (FL Ag.x Ag.y).toArray 203)):=hX3.tr ((Ad _ _).alloc (AS _) _);have Q3:=Az.new J 203 (FL Ag.x Ag.y))
  |(refine Xp (NR _ _) rfl 201 (.tmp 7) rfl W.1.size rfl 201 _ (0,0) _ (b.ext E3) underlying201 rfl U ?_)
  |(refine⟨trivial,?_⟩;gi_at_call 188;refine(LN l (De.2 (Y6 (FK r k) Ag a _ C E f g))).q λW5 hX5=>?_;have E5:=E3.tr hX5;have cA5:=λi=>(b.ext E5).cell i;have cP5:=λi=>(N.ext E5).cell i;have cQ5:=λi=>(Q3.ext hX5).cell i;have S5:=s.stays (E5.stays (n0:=0) (D8 _));have cS5:=S5.cell;have fS5:=S5.frozen))
 exact⟨E5.keeps,vy q.o HP.o E5⟩):=h
def yr(h:p:=by
 have HP:=A (show Oz r x y k=AL by rw[m.o,I,X,t3,t4];rfl)
 gi_wp2_with(first
  |(refine⟨trivial,?_⟩;gi_at_call 186;refine(LN l (De.2 (Me Ag _))).q λJ hX3=>?_;have E3:Ext W2 (J.alloc (.cells (FL Ag.x Ag.y).toArray 203)):=hX3.tr ((Ad _ _).alloc (AS _) _);have Q3:=Az.new J 203 (FL Ag.x Ag.y))
  |(refine Xp (NR _ _) rfl 201 (.tmp 7) rfl W.1.size rfl 201 _ (0,0) _ (b.ext E3) underlying201 rfl U ?_)
  |(refine⟨trivial,?_⟩;gi_at_call 188;refine(LN l (De.2 (Y6 (FK r k) Ag a _ C E f g))).q λW5 hX5=>?_;have E5:=E3.tr hX5;have cA5:=λi=>(b.ext E5).cell i;have cP5:=λi=>(N.ext E5).cell i;have cQ5:=λi=>(Q3.ext hX5).cell i;have S5:=s.stays (E5.stays (n0:=0) (D8 _));have cS5:=S5.cell;have fS5:=S5.frozen))
 refine⟨E5.keeps.trans (Gq _ _ _),?_⟩
 have I5:=q.stays (E5.stays (n0:=w.1.size) (by have:=q.low.size;omega)) (AS _)
 refine⟨I5.p.Bo AV _,?_,I5.it.Bo AV _,?_,?_⟩
 .rw[MO,Aj HP.o,ab.o];exact S5.put _
 .exact I5.sl.below ((Ad _ _).setCell (p:=⟨w.1.size+1,0,O⟩) AV _)
 exact I5.low.setCell (p:=⟨w.1.size+1,0,O⟩) AV _):=h
def yW(h:p:=by
 gi_wp2_with(first
  |(refine⟨trivial,?_⟩;gi_at_call 186;refine(LN l (De.2 (Me Ag _))).q λJ hX3=>?_;have E3:Ext W2 (J.alloc (.cells (FL Ag.x Ag.y).toArray 203)):=hX3.tr ((Ad _ _).alloc (AS _) _);have Q3:=Az.new J 203 (FL Ag.x Ag.y))
  |(refine Xp (NR _ _) rfl 201 (.tmp 7) rfl W.1.size rfl 201 _ (0,0) _ (b.ext E3) underlying201 rfl U ?_)
  |(refine⟨trivial,?_⟩;gi_at_call 188;refine(LN l (De.2 (Y6 (FK r k) Ag a _ C E f g))).q λW5 hX5=>?_;have E5:=E3.tr hX5;have cA5:=λi=>(b.ext E5).cell i;have cP5:=λi=>(N.ext E5).cell i;have cQ5:=λi=>(Q3.ext hX5).cell i;have S5:=s.stays (E5.stays (n0:=0) (D8 _));have cS5:=S5.cell;have fS5:=S5.frozen))
 exact⟨E5.keeps,vy q.o HP.o E5⟩):=h
def yX(h:p:=by
  refine DC F (λK a => ?_)
  go_simp
  exact a _ _ ⟨_, F, (Ad _ _).alloc (AS _) _, ⟨_, F, b.size, Az.new _ _ _⟩, λ_ => ⟨_, rfl, AS _⟩⟩):=h
def yY(h:p:=by
  refine DC F (λK a => ?_)
  go_simp
  exact a _ _ ⟨_, F, Ext.B9 _, F, λh => Aq⟩):=h
def yZ(h:p:=by
 obtain⟨h1,h2,h3⟩:=h
 refine⟨h1,h2,λhn=> ?_⟩
 have⟨b,off,e,hB,hc⟩:=h3 hn
 refine⟨b,off,e,D,λi hi=> ?_⟩
 have⟨H,E,h4,h5⟩:=hc i hi
 exact⟨H,E,h4,h5.more a⟩):=h
def zk(h:p:=by
 go_wp2_with(go_at_call 191;refine ca.q λW1 N=>?_)
 go_ret
 exact⟨by rw[K.o];rfl,n.tr N⟩):=h
def zl(h:p:=by
 have r:=A (show SQ rs i k=AM by rw[a.o];rfl)
 clear a
 go_wp2
 refine⟨ai.o r.o _ (Ad _ _),Bm⟩):=h
def zm(h:p:=by
 go_simp
 exact hK _ _ ⟨_,by simp[d0],Ext.B9 _,rfl,λh=>Aq⟩):=h
def zn(h:p:=by
 go_wp2_with(go_at_call 320;refine d.q λw1 hB1=>?_)
 go_ret2
 rw[c.o]
 exact⟨F,hB1⟩):=h
def zo(h:p:=by
 rcases hO with rfl|⟨rfl,rfl⟩
 all_goals
  go_enter func298,ntmps298
  exact a3P):=h
def me(h:p:=by
 go_enter func297,ntmps297
 go_wp2_with(first
  |(go_at_call 252;refine i.mono ?_;rintro e W1 ⟨x,y,rfl,l,j⟩;obtain⟨n',d',e1,rfl,rfl⟩:=l F;rw[r.o] at e1;obtain⟨rfl,rfl⟩:n=n'/\d=d':=by{injection e1 with e1;injection e1 with e2 e3;exact⟨e2,e3⟩})
  |(go_at_call 253;refine(aX _ _).mono ?_;rintro e W2 ⟨rfl,rfl⟩;rw[s.o]))
 go_ret
 exact⟨Fo,j⟩):=h
def zp(h:p:=by
 go_enter func194,ntmps194
 go_wp2_with(first
  |(go_at_call 250;refine r.q λW1 f=>?_;have N:=λi=>(B.ext f).cell i;have l:=A (Ext.tr k.o f);have HR:=A (B.ext f);clear f)
  |(go_at_call 251;((with_reducible refine(z.o _ l.o).q λK m=>?_);have q2:=λi=>(HR.ext m).cell i;have HX2:=A (Ext.tr l.o m);clear m))
  |(go_at_call 251;((with_reducible refine(F.o _ HX2.o).q λW3 hX3=>?_))))
 go_ret
 exact⟨Kv,Ext.tr HX2.o hX3⟩):=h
def zq(h:p:=by
 refine⟨⟨k+1,D,AV,?_,KY a.o L (λq f=>(DS n.o q f).1)⟩,Bm⟩
 rw[HQ.o,Cg,PU,QB,FN]
 exact X):=h
def zr(h:p:=by
 rw[hm]
 have HQ:=A y
 have l:=A hm
 have HD:=A j
 clear hcell g f y hm j o
 go_wp2
 go_round
 case rel=>exact⟨k+1,D,by go_num,by rw[HQ.o,l.o,HD.o]⟩
 simp[B8];omega):=h
def zt(h:p:=by
 rintro a' w' ⟨v,rfl,hv⟩
 refine B _ _ w' (a.set hi b) (vu b Wz m hu) ?_
 grind [a0n]):=h
def Tb(h:p:=by
 go_ret
 exact⟨Fo,a.o⟩):=h
def zu(h:p:=by
 go_wp2
 go_quiet (fail)
 go_wp2
 refine⟨⟨k+1,D,AV,below_drewN (H.o _) _,λj E=> ?_⟩,Bm⟩
 by_cases hjk:j=k
 .rw[hjk];exact S.o
 exact s.o j D):=h
def mf(h:p:=by
 clear n
 go_wp2
 go_ret
 exact⟨Kw,a.tr (H.o _)⟩):=h
def fT(h:p:=by
 go_wp2
 go_ret
 exact⟨Kw,a.o⟩):=h
def mg(h:p:=by
 go_wp2
 go_ret
 exact⟨Fo,Ext.B9 _⟩):=h
def zv(h:p:=by
 have f:=A (r.o 2 (by rw[n.o,Af D,Aj (.inr v)]) Z)
 go_wp2
 go_ret
 exact⟨Kw,q.o _⟩):=h
def zw(h:p:=by
 have f:=A (r.o 2 (by rw[n.o,Af D,Aj (.inl u)]) Z)
 go_wp2
 go_ret
 exact⟨Kw,q.o _⟩):=h
def zx(h:p:=by
 have f:=A (r.o 8 (by rw[n.o,Aj (.inr t)]) Z)
 go_wp2
 go_ret
 exact⟨Kw,q.o _⟩):=h
def zy(h:p:=by
 have d1:AQ (g<1)=AL:=by rw[Cx];exact z
 have f:=A (r.o 8 (by rw[n.o,Aj (.inl z)]) Z)
 go_wp2
 go_ret
 exact⟨Kw,q.o _⟩):=h
def a00(h:p:=by
 go_enter func126,ntmps126
 go_wp2_with(first
  |(go_at_call 180;refine i.q λW1 f=>?_)
  |(go_at_call 199;refine(o.o _).mono ?_;rintro e W3 ⟨rfl,rfl⟩)
  |(go_at_call 198;refine(K2.o _ f).q λs l=>?_))
 go_ret
 exact⟨Kv,Ext.tr f l⟩):=h
def a01(h:p:=by
 go_wp2_with(go_at_call 128;refine(Xt _ _ _ _).mono ?_;rintro e W1 ⟨rfl,rfl⟩;rw[d])
 go_ret
 exact⟨F,F⟩):=h
def a02(h:p:=by
 rw[LP]
 go_wp2
 rw[LP]
 go_wp2
 rw[LP]
 go_wp2
 go_ret
 exact⟨Fo,rfl⟩):=h
def ZT(h:p:=by
 rw[LP]
 go_wp2
 go_ret
 exact⟨Fo,rfl⟩):=h
def a03(h:p:=by
 go_enter func74,ntmps74
 go_wp2_with(go_at_call 125;refine(ah _ _ _ _).mono ?_;rintro e W1 ⟨rfl,rfl⟩;first|rw[b]|rw[c]|rw[d]|rw[f]|skip)
 go_ret
 exact⟨Fo,a.o⟩):=h
def a04(h:p:=by
 go_wp2_with(go_at_call 65;refine(aY _ _ _ _).mono ?_;rintro e W1 ⟨rfl,rfl⟩;rw[c])
 refine⟨⟨k+1,D,AV,trivial,λj v=> ?_⟩,Bm⟩
 by_cases hjk:j=k
 .rw[hjk];exact s.o
 exact g.o j D):=h
def a05(h:p:=by
 go_wp2_with(go_at_call 65;refine(aY _ _ _ _).mono ?_;rintro e W1 ⟨rfl,rfl⟩;rw[c])
 go_ret
 exact⟨Kw,rfl⟩):=h
def zP(h:p:=by
 have e:rows.flatten=(rows.take m).flatten++(rows.drop m).flatten:=by rw[<-QB,WY]
 have hl:(rows.take m).flatten.length=m*k:=by
  rw[LF (λr hr=>hw r (SE hr)),QA,yO hm]
 grind):=h
def zQ(h:p:=by
 obtain⟨s,_,rfl⟩:=Jg.1 a;simp at hu;rcases hu with rfl|rfl|rfl|rfl|rfl<;>rfl):=h
def zR(h:p:=by
 obtain⟨s,_,rfl⟩:=Jg.1 a;simp at hu;rcases hu with rfl|rfl|rfl<;>rfl):=h
def zS(h:p:=by
 obtain⟨i,hi,rfl⟩:=JJ.1 a
 have⟨ga,gc,e,_⟩:=h.2 i (by rw[<-h.1];exact hi)
 grind):=h
def zT(h:p:=by
 obtain⟨a,b,c,d,f,v1,W1,m1,m2,m3,m4,m5⟩:=h
 refine⟨λk hk hh=> ?_,?_,?_,?_,?_,v1,W1,m1,?_⟩
 .grind
 .grind
 .grind
 .grind
 .grind
 grind):=h
def ma(h:p:=by
 obtain⟨a,b,c,d,f,v1,W1,m1,m2,m3,m4,m5⟩:=h
 grind):=h
def fO(h:p:=by
 rw[Bz (k:=10) Z,d];intro h;cases h):=h
def mb(h:p:=by
 go_simp
 exact hK _ _ ⟨v,by simp[B7,ht],hn⟩):=h
def mc(h:p:=by
 go_simp
 exact hK _ _ ⟨_,by simp[B7,Kl],HI.pure Z rfl⟩):=h
def fP(h:p:=by
 go_simp
 exact hK _ _ ⟨_,by simp[B7,Jz],HI.pure Z rfl⟩):=h
def zU(h:p:=by
 have HMM:=A n
 clear n r HW
 subst o
 go_enter func136,ntmps136
 go_wp2_with(go_at_call 207;refine E.q λW1 hX1=>?_;have HX1:=A hX1;have Y:=(q.ext hX1).cell 6;clear hX1)
 clear Y
 have⟨W0,o⟩:=AP (w.alloc (.cells (Ah e g) 54))
 rw[o] at J q s HX1
 simp only[o] at R N
 clear o E
 rw[<-HMM.o]
 refine Fz U (Qf 15
  (λL B W=>FR W0 (Jz c w.1.size e a.za (ln j.BT) a.zc m) (λv W1=>Fx v/\(DU (ln j.BT) m=0->W1.ownsRow w.1.size 45 3 v (CC (Fq j.BT) m [M G e.Be,M G e.Eg,M G e.Ef]).length (CC (Fq j.BT) m [M G e.Be,M G e.Eg,M G e.Ef]).flatten)) (M G (DU (ln j.BT) m)) ⟨c,6,O⟩ 8 [4,5,7] L B W) U ?_ ?_ _ (λ_=>FR.BI (HX1.tr (Ext.dr _))))
 .exact a4x
 exact a4y):=h
def fQ(h:p:=by
 go_simp
 exact hK _ _ ⟨_,by simp[B7,If],HI.pure Z rfl⟩):=h
def zV(h:p:=by
 clear a
 go_enter func270,ntmps270
 go_wp2
 go_ret
 exact⟨F,F⟩):=h
def fR(h:p:=by
 rw[DP e];rw[Bz e] at hm;exact h.Bg m hm a):=h
def zW(h:p:=by
 injection e with e;injection e with e;injection e with e
 have:=b.lt
 omega):=h
def zX(h:p:=by
 clear v j l
 go_enter func291,ntmps291
 go_wp2
 go_ret
 exact⟨c.o,Ad _ _⟩):=h
def zY(h:p:=by
 go_wp2_with(go_at_call 286;refine CT.mono ?_;rintro e W1 ⟨rfl,rfl⟩)
 go_ret
 exact HS.o):=h
def zZ(h:p:=by
 go_wp2_with fail
 go_quiet ((go_at_call 288;exact OW (wM _ w.1.size _ b k sb D)))
 go_wp2
 have ep:((I a i:Int)*(I b k:Int))=((I a i*I b k:Nat):Int):=AV
 rw[ep] at EZ⊢
 have r:((I g (i+k):Int)+((I a i*I b k:Nat):Int)+c)/1000000=(((I g (i+k)+I a i*I b k+c)/1000000:Nat):Int):=D
 have x:((I g (i+k):Int)+((I a i*I b k:Nat):Int)+c)%1000000=(((I g (i+k)+I a i*I b k+c)%1000000:Nat):Int):=D
 rw[r,x]
 exact⟨HN.o _,Bm⟩):=h
def zb(h:p:=by
 rcases Ht o P with h|h
 .exact h
 exact absurd E.o (by rw[show o=P by omega];exact ai.o)):=h
def ze(h:p:=by
 have hsl:=(HS.below H.o).below (f.ext.mono D)
 obtain⟨_,_,e,_,_,r⟩:=hsl
 injection e with e1 e2 e3
 clear e2
 subst e1 e3
 have⟨_,_,e,_,hcell⟩:=r Nr
 injection e with e
 injection e with e1 e2
 subst e1 e2
 have hci:=hcell i Nr
 have hxi:I l i<1000000:=GS t.Bf i
 have⟨x,hx⟩:=AP (I l i)
 rw[hx] at hci hxi
 have HXI:=A hx
 clear hcell r f u hx
 go_wp2_with fail
 go_loopw [5,6] (λx' k N=>∃(j:Nat) (ys:List Nat),j<=6/\k=M G ((j:Int)+1)/\x'=M G ((x/10^j:Nat):Int)/\SR J (w.1.size+1) l (6*i+j) ys N) (λ_ k _=>7-(B8 k).toNat)
 case atStart=>exact⟨0,Y,D,rfl,AV,g.o⟩
 obtain⟨j,ys,K,rfl,rfl,hY⟩:=hrel
 have HY:=A hY
 have⟨d,hd⟩:=AP (x/10^j)
 have hd6:d<1000000:=by rw[<-hd];exact yH (Nat.div_le_self _ _) hxi
 by_cases hj6:j<6
 .have⟨m,hm⟩:=AP (6*n-1-(6*i+j))
  have hm6:m<ln ys:=by rw[hY.len,B.o];omega
  have hcm:=hY.row.cell hm6
  have hfm:=hY.row.frozen m
  have e1:6*(n:Int)-6*i-((j:Int)+1)=(m:Int):=D
  have hmn:m<6*n:=D
  have hdig:48+d%10=48+JH l (6*i+j):=by rw[Ye _ _ _ hj6,HXI.o,hd]
  have NX:=A (hY.next (by rw[B.o];omega) (x:=48+d%10) (j:=m) hdig (by rw[B.o];exact hm.symm))
  have hdv:d/10=x/10^(j+1):=by rw[<-hd,lV,NC]
  have HDV:=A hdv
  have⟨c,t⟩:=AP (48+d%10)
  have e2:48+(d:Int)%10=(c:Int):=D
  have hcs:c<256:=D
  have⟨o,W⟩:=AP (I ys m)
  rw[W] at hcm
  rw[t] at NX
  rw[hd]
  clear hY hm6 hdig hdv t W hd hm
  go_wp2
  exact⟨⟨j+1,_,D,AV,by rw[<-HDV.o];simp,NX.o⟩,Bm⟩
 obtain rfl:j=6:=D
 clear hY hd
 go_wp2_with fail
 exact⟨⟨i+1,ys,D,AV,by have:=HY.o;rwa[show 6*(i+1)=6*i+6 by omega]⟩,Bm⟩):=h
def zf(h:p:=by
 have hu:G.wrap (g:Int)=g:=DF _ D
 have NVV:=A (rd_val Y.o (bB hjy t) aa)
 clear t hx
 go_wp2
 exact⟨⟨10*x+g,j+1,AV,AV,D,D,NX.o,NVV.o,rfl⟩,Bm⟩):=h
def zg(h:p:=by
 go_wp2_with fail
 go_quiet (fail)
 go_wp2
 refine Bp (j5 F _ _ _) F ?_
 exact⟨Fo,below_drewN d.o _⟩):=h
def zh(h:p:=by
 obtain rfl:k=z.size:=D
 have HR:=A (show Cq z=(AM,z,⟨#[]⟩,AM) from j.2 a.o)
 go_wp2
 refine Bp (j5 F _ _ _) F ?_
 exact⟨Fo,d.o⟩):=h
def zi(h:p:=by
 have h2:(if(z.data.toList.head?==Q 45)=AL then z.extract 1 z.size else z).size<=z.size:=by
  split
  .rw[eF];omega
  exact AS _
 exact key _ _ _ h2):=h
def Ta(h:p:=by
 go_wp2
 go_ret
 exact⟨F,a.o⟩):=h
def zj(h:p:=by
 go_enter func240,ntmps240
 go_wp2_with(first
  |(go_at_call 284;have hX:=HX1;clear HX1;refine(d.o _).q λW2 hX2=>?_;have HX2:=A (hX.tr hX2);clear hX2)
  |(go_at_call 284;refine c.q λW1 hX1=>?_;have HX1:=A hX1;clear hX1))
 go_ret
 exact⟨F,HX2.o⟩):=h
def zJ(h:p:=by
 have hu:G.wrap (g:Int)=g:=DF _ D
 clear e
 go_wp2
 exact⟨⟨k+1,by rw[d.o,u.o];simp,by go_num,D,a.o⟩,Bm⟩):=h
def zK(h:p:=by
 clear h
 go_enter func285,ntmps285
 go_wp2
 go_ret2
 exact⟨⟨_,_,F,λh=>Aq,Z⟩,Ad _ _⟩):=h
def zL(h:p:=by
 go_enter func241, ntmps241
 go_wp2_with (first
   | (go_at_call 285; have hX := HX1; clear HX1; refine (d.o _).mono ?_; rintro e W2 ⟨⟨z2, ok2, rfl, h2, h2b⟩, hX2⟩; have HX2 := A (hX.tr hX2); have H2 := A h2; clear hX2 h2)
   | (go_at_call 285; refine c.mono ?_; rintro e W1 ⟨⟨z, ok, rfl, h1, h1b⟩, hX1⟩; have HX1 := A hX1; have H1 := A h1; clear hX1 h1))
 all_goals first
   | (go_ret3
      exact ⟨⟨_, _, _, F, h1b, h2b, λh => ⟨H1.o fE, H2.o fE⟩⟩, HX2.o⟩)
   | (go_ret3
      exact ⟨⟨_, _, _, F, Z, Z, λh => Aq⟩, HX1.o⟩)):=h
def zM(h:p:=by
 go_enter func55,ntmps55
 go_wp2
 go_ret
 exact⟨by rw[a.o];first|rfl|simp,rfl⟩):=h
def fN(h:p:=by
 go_enter func24,ntmps24
 go_wp2
 refine QK 2 ?_
 rw[LP]
 go_wp2_with(go_at_call 55;refine(bN _ _).mono ?_;rintro e w1 ⟨rfl,rfl⟩)
 go_ret
 exact⟨Fo,rfl⟩):=h
def XE(h:p:=by
 rw[D5] at this
 exact this):=h
def mZ(h:p:=by
 intro m hm
 have:=a i ZM m hm
 rw[c,DL] at this
 exact this):=h
def ZS(h:p:=by
 go_enter func155,ntmps155
 go_wp2_with(go_at_call 156;refine(ux _ _ _ _).mono ?_;rintro e W1 ⟨rfl,rfl⟩)
 go_ret
 exact⟨F,F⟩):=h
def SP(h:p:=by
 go_enter func85,ntmps85
 go_wp2
 go_ret
 exact⟨Fo,n.o⟩):=h
def zO(h:p:=by
 go_wp2_with(go_at_call 80;refine(U5 _ _ _ _).mono ?_;rintro e W1 ⟨rfl,rfl⟩;rw[a])
 go_quiet (fail)
 go_wp2
 refine⟨⟨k+1,D,AV,by first|exact m.o|exact below_drewN m.o _,λj o=> ?_⟩,Bm⟩
 by_cases hjk:j=k
 .rw[hjk];exact z.o
 exact g.o j D):=h
def XF(h:p:=by
 all_goals simp[go_sem, *]):=h
def fU(h:p:=by
 exact⟨po _ _ _ _ _,qo _ _ _ _ _,⟨_,_,F,F,qg _ _ _ _ _,qh _ _ _ _ _⟩,vB _ _ _ _ _⟩):=h
def fV(h:p:=by
 exact⟨po _ _ _ _ _,qo _ _ _ _ _,⟨_,_,F,F,qh _ _ _ _ _,qg _ _ _ _ _⟩,vB _ _ _ _ _⟩):=h
def mn(h:p:=by
 refine Z4 U ?_ _
 cases hs:Ja e (GH e)
 .have HF:=A (show Fs e=9 by unfold Fs;rw[Af D,hs];rfl)
  try rw[hs]
  go_wp2
  go_ret
  exact⟨TX,HB2.o⟩
 have HF:=A (show Fs e=0 by unfold Fs;rw[Af D,Aj hs])
 try rw[hs]
 go_wp2
 go_ret
 exact⟨TX,HB2.o⟩):=h
def a0D(h:p:=by
 simp[Instr.sliceAt,Instr.slice,Instr.sliceBounds,Instr.sliceBound,QE hu,sizeOf,typeInfo,d,asIntOf]
 grind):=h
def a0E(h:p:=by
 obtain⟨A',h1,h2⟩:=h;exact⟨A',h1,(h2.below hx).more hx.size⟩):=h
def XG(h:p:=by
 rw[c] at n m⊢
 have n:=A n
 have m:=A m
 clear L C k s H y E R u Z hz aa hn t x c d S Y z hk K T l v
 exact vA):=h
def a0F(h:p:=by
 clear L C k s H y E R u Z hz aa hn t x c d S Y z hk K T l v
 exact vA):=h
def mo(h:p:=by
 have ac:=A (UC (X:=X) z l C k F (jO h1 h2 v E (λ_ _ q=>⟨q.p,q.u,q.o,q.z,q.b,q.l,q.s⟩)))
 clear h1 h2 L C k s H y E R u Z hz aa hn t x c d S Y z hk K T l v
 exact pH):=h
def XH(h:p:=by
 go_simp
 exact hK _ _ ⟨_,by simp[B7,Hp],HI.pure Z rfl⟩):=h
def mr(h:p:=by
 go_ret
 exact⟨F,a.tr u.o⟩):=h
def a0G(h:p:=by
 go_wp2_with(go_at_call 148;fail)
 refine(KP.o _ u.o).q λW2 ad=>?_
 have Z:=A (u.tr ad)
 have c5:=E.o _ Z.o
 clear ad c4
 go_wp2_with(go_at_call 149;refine(KR.o _ Z.o).q λJ hX6=>?_;have HX6:=A (Z.tr hX6);clear hX6)
 go_ret
 exact⟨F,a.tr HX6.o⟩):=h
def mu(h:p:=by
 go_wp2
 go_ret
 exact⟨F,a.tr c.o⟩):=h
def a0H(h:p:=by
 go_wp2_with(first
  |(at_builtin;(refine Ln _ F _ _ _ F w.1.size 3 i0 _ 1 8 FD Z.o I1.o I2.o I3.o F D _ _ _ F L.o ⟨wr.1.size,0,O⟩ 1 1 [M G (x:Int)] F BE (λj u E=>ZL) QP Fp D aa ?_);intro v' w' s o aq)
  |(go_at_call 288;first|((with_reducible refine C1.o.mono ?_);rintro e W1 ⟨rfl,rfl⟩)|((with_reducible refine K.o.mono ?_);rintro e W1 ⟨rfl,rfl⟩)))
 exact⟨by rw[e2];exact Y.o _ _ s o,by grind [B8]⟩):=h
def mw(h:p:=by
 subst d
 go_wp2_with fail
 go_ret2
 exact⟨F,m.o⟩):=h
def a0I(h:p:=by
 go_enter func330,ntmps330
 go_wp2_with(first
  |(go_at_call 173;fail)
  |(go_at_call 170;refine k.mono ?_;unfold UK;rintro e W1 ⟨rfl,a⟩;have c:=A a;clear a))
 all_goals
  go_ret3
  exact⟨⟨_,_,_,F,λh=>Aq⟩,c.o⟩):=h
def mz(h:p:=by
 subst f
 go_wp2_with fail
 go_ret2
 exact⟨F,J.o⟩):=h
def a0J(h:p:=by
 obtain rfl:k=ln l:=D
 have a:v=0:=by rw[R.o];exact KH s.o
 subst a
 go_wp2
 go_ret
 exact⟨F,d.o⟩):=h
def a0K(h:p:=by
 by_cases g2:m<b.size
 .go_wp2
  go_ret
  exact⟨by rw[q.o (.inr g2)];rfl,j.o⟩
 go_wp2
 go_ret
 exact⟨by rw[S.o D];rfl,j.o⟩):=h
def a0L(h:p:=by
 go_wp2_with(go_at_call 272;refine S.q λW3 hX3=>?_;have X3:=A (K.tr hX3);clear hX3)
 go_ret
 exact⟨MY,X3.o⟩):=h
def a0M(h:p:=by
 have H:=A (show E=2 by rw[b,Aj rfl])
 clear b
 go_wp2_with fail
 go_ret
 exact⟨MY,c.tr q.o⟩):=h
def a0N(h:p:=by
 go_simp
 exact r _ _ ⟨_,F,c.up Z Z Z (by exact Iw) AV⟩):=h
def a0O(h:p:=by
 have t:(g !=0)=AL:=Cd.2 h1
 have e:=A (λW (h:Ext W0 W) L=>Ky.bad (X:=X) (L:=L) (show FC j b us=1 by unfold FC;rw[d,Aj h1]) Z (c.tr h))):=h
def a0P(h:p:=by
 go_wp2_with(first
  |(refine Ce rfl 54 _ rfl _ rfl 54 _ (0,0) _ H.o Cc rfl U ?_)
  |(go_at_call 60;refine s.q ?_;rintro W5 ⟨t,L⟩;have c2:=t.iU;have c3:=t.Zt;have HW5:=A t;have K5:=A L;clear t L))
 go_quiet (fail)
 go_wp2
 go_ret2
 rw[W.o]
 exact⟨F,below_drewN (S.trans K5.low) _⟩):=h
def a0Q(h:p:=by
 clear hn h1 K k z y N ae
 go_wp2
 go_quiet (fail)
 go_wp2
 go_meet
 exact⟨HE.o _,below_drewN q.o _⟩):=h
def n8(h:p:=by
 go_wp2
 go_quiet (fail)
 go_wp2
 go_ret2
 rw[c.o]
 exact⟨F,below_drewN q.o _⟩):=h
def mh(h:p:=by
  refine DC F (λK c => ?_)
  go_simp
  exact c _ _ ⟨_, by simp [B7, Od], b.pure D rfl⟩):=h
def mi(h:p:=by
  go_simp
  exact o _ _ ⟨_, by simp [B7, Sb], e.pure Z rfl⟩):=h
def a06(h:p:=by
 go_simp
 exact r _ _ ⟨_,by simp[B7,d,Oc],b.pure Z rfl⟩):=h
def mj(h:p:=by
 go_simp
 exact r _ _ ⟨_,by simp[B7,Oc],b.pure Z rfl⟩):=h
def a07(h:p:=by
 split at h
 .obtain⟨g,h1,h2⟩:=h;exact⟨g,h1,h2.ext hx⟩
 exact h):=h
def ZU(h:p:=by
 go_simp
 exact b _ _ ⟨_,by simp[B7,Ie],Ext.B9 _,rfl,λh=>Aq⟩):=h
def ml(h:p:=by
 go_wp2
 go_ret2
 rw[J.o]
 exact⟨F,af.tr ac.o⟩):=h
def a08(h:p:=by
 have e1:(48:UInt8).toNat=48:=rfl
 have e2:(57:UInt8).toNat=57:=rfl
 omega):=h
def a09(h:p:=by
 rw[e]
 clear e h
 go_enter func97,ntmps97
 go_wp2
 go_ret
 exact⟨F,F⟩):=h
def a0A(h:p:=by
 go_wp2_with fail
 go_quiet (fail)
 go_wp2
 exact⟨⟨m+1,D,AV,below_drewN HX.o _⟩,Bm⟩):=h
def a0B(h:p:=by
 have tlt:AQ ((m:Int)<(ln l:Int))=AM:=Bw D
 go_wp2
 go_ret
 exact⟨F,HX.o⟩):=h
def a0C(h:p:=by
 have⟨u,v,f⟩:=iface_of_trod underlying185 c
 exact⟨u,v,by rw[b];cases cs;simp_all⟩):=h
end
end Go.Proofs.YtalhfkdhdggdaaaGreatDoor
open Go.Proofs.YtalhfkdhdggdaaaGreatDoor
variable{ac:Array Bool}{lb args cs tmps:Array AN}{z:Int}{q a out ad ag tv:List Nat}{ds s:List UInt8}{xs rest bs' bs:List AN}{n m c d v1 r k b i x j b0 g R g' un u1 base n0 gf N ca cb B0 Bs J bi nb gu cu gb cv blk mm:Nat}{aa A':Option An}{w w' wr W Y:V}{t T e:Bb}{p:An}
namespace Kp
abbrev B:Nat:=1000000000
def S(f:Nat->Nat):Nat->Nat
 |0=>0
 |n+1=>S f n+f n*B^n
def sB(f:Nat->Nat):S f 0=0:=rfl
theorem GA(f:Nat->Nat)(n:Nat):S f (n+1)=S f n+f n*B^n:=rfl
def a9A(n:Nat):0<B^n:=ZH Z
theorem MF{f g:Nat->Nat}(h:∀k,k<n->f k=g k):S f n=S g n:=by
 induction n with
 |zero=>rfl
 |succ n a=>grind [GA]
theorem PG{f:Nat->Nat}(h:∀k,k<n->f k<B):S f n<B^n:=by
 induction n with
 |zero=>simp[S]
 |succ n b=>
  rw[GA];have h2:=h n D;have a:(f n+1)*B^n<=B*B^n:=Gz _ h2
  grind
theorem kL{f:Nat->Nat}(h:∀k,k<n->f k=0):S f n=0:=by
 induction n with
 |zero=>rfl
 |succ n a=>grind [GA]
theorem Qu(f:Nat->Nat)(m n:Nat):S f (m+n)=S f m+B^m*S (λk=>f (m+k)) n:=by
 induction n with
 |zero=>simp[S]
 |succ n a=>
  grind [GA]
theorem xA{f:Nat->Nat}(h:m<=n)(a:∀k,m<=k->k<n->f k=0):S f n=S f m:=by
 obtain⟨d,rfl⟩:∃d,n=m+d:=⟨n-m,D⟩
 grind [Qu,kL]
theorem b42{f g:Nat->Nat}(a:∀k,k<n->f k<B)(b:∀k,k<n->g k<B)(h:S f n=S g n):∀k,k<n->f k=g k:=by
 induction n with
 |zero=>grind
 |succ n e=>
  rw[GA,GA] at h;have h1:=PG (λk (hk:k<n)=>a k D);have h2:=PG (λk (hk:k<n)=>b k D);have c:(S f n+f n*B^n)/B^n=f n:=by
   grind [Nat.add_mul_div_right,Nat.div_eq_of_lt]
  have d:(S g n+g n*B^n)/B^n=g n:=by
   grind [Nat.add_mul_div_right,Nat.div_eq_of_lt]
  grind
def a1j{X b a c P q g f e d:Nat}(h:X+c*P=a+q*b)(i:g+d*B=e+q*f+c):
  (X+g*P)+d*(P*B)=(a+e*P)+q*(b+f*P):=by
 grind
theorem a5x{X b a q P:Nat}(h:X+q*b=a+c*P)(f:X<P)(e:a<P):(c=0↔q*b<=a):=by
 constructor
 .grind
 intro g;by_cases d:c=0
 .exact d
 have:1*P<=c*P:=Gz _ D;omega
def a0x{X Y b a q c d P:Nat}(h:X+q*b=a+c*P)(h2:Y+d*P=X+q*b)(f:Y<P)(e:a<P):Y=a:=by
 grind [Nat.add_mul_mod_self_right,Nat.mod_eq_of_lt]
def a69{b a t q v1 P:Nat}(d:b<(t+1)*P)(c:v1*P<=a)(e:t<(q+1)*v1):b<(q+1)*a:=by
 have h1:(t+1)*P<=(q+1)*v1*P:=Gz _ D;have h2:(q+1)*(v1*P)<=(q+1)*a:=Ws _ c
 grind
def a8M{c b t q r v1 v2 a P:Nat}(h:q*v1+r=t)(f:c<(t*B+a+1)*P)(d:(v1*B+v2)*P<=b)
  (g:r*B+a<q*v2):c<q*b:=by
 have h1:q*((v1*B+v2)*P)<=q*b:=Ws _ d;have h2:t*B+a+1<=q*(v1*B+v2):=by
  grind
 have e:(t*B+a+1)*P<=q*(v1*B+v2)*P:=Gz _ h2
 grind
def b0Y{a b q:Nat}(c:a<B*b)(d:B<=q):a<q*b:=
 Dj c (Gz _ d)
def I(l:List Nat):Nat->Nat:=λk=>l.getD k 0
def val(l:List Nat):Nat:=S (I l) (ln l)
def Small(l:List Nat):Prop:=∀d,d∈l->d<B
def N5(l:List Nat):Prop:=∀d,l.getLast?=Q d->d≠0
structure Canon(l:List Nat):Prop where
 Bf:Small l
 trim:N5 l
theorem Du{l:List Nat}(h:Small l)(k:Nat):I l k<B:=by
 exact yT
theorem UN{l:List Nat}(h:ln l<=k):I l k=0:=by
 grind [I]
theorem ON{l:List Nat}(h:k<ln l):I l k=l[k]:=by
 grind [I]
theorem YK{l:List Nat}(h:ln l<=n):S (I l) n=val l:=xA h (λ_ hk _=>UN hk)
theorem WH{l:List Nat}(h:Small l):val l<B^ln l:=PG (λk _=>Du h k)
def pL(l:List Nat)(d:Nat):val (l++[d])=val l+d*B^ln l:=by
 unfold val;rw[FN];show S _ (ln l+1)=_
 grind [GA,MF,I]
theorem vH(l:List Nat):val (l++[0])=val l:=by rw[pL];simp
theorem Small.snoc{l:List Nat}(h:Small l)(a:d<B):Small (l++[d]):=by
 intro x hx;rcases QF.1 hx with hx|hx
 .exact h x hx
 grind
theorem Small.pK{l:List Nat}(h:Small (l++[d])):Small l:=λx hx=>h x (by simp[hx])
def bR(l:List Nat):l=[]\/∃m d,l=m++[d]:=by
 rcases List.eq_nil_or_concat l with h|⟨m,d,h⟩
 .grind
 grind
theorem N5.last{l:List Nat}(h:N5 (l++[d])):d≠0:=h d AV
def cj:N5 []:=by intro d h;grind
theorem oW{l:List Nat}(h:d≠0):N5 (l++[d]):=by intro x hx;grind
def XL{l:List Nat}(h:N5 l)(b:l≠[]):B^(ln l-1)<=val l:=by
 rcases bR l with rfl|⟨m,d,rfl⟩
 .grind
 rw[pL];have a:=h.last;have:1*B^ln m<=d*B^ln m:=Gz _ D
 grind
theorem tI{l:List Nat}(h:N5 l)(a:l≠[]):0<val l:=Dj (a9A _) (XL h a)
def val_eq_zero{l:List Nat}(h:N5 l):val l=0↔l=[]:=by
 constructor
 .grind [tI]
 rintro rfl;rfl
def Rf{a b:List Nat}(c:Small a)(d:N5 b)(h:ln a<ln b):val a<val b:=by
 have h1:=WH c;have h2:=XL d Al;have e:B^ln a<=B^(ln b-1):=JK Z D;omega
def Bn(l:List Nat):List Nat:=(l.reverse.dropWhile (· ==0)).reverse
theorem Xr(l:List Nat):Bn (l++[0])=Bn l:=by unfold Bn;simp
theorem Xx{l:List Nat}(h:d≠0):Bn (l++[d])=l++[d]:=by unfold Bn;simp[h]
theorem jV:Bn []=[]:=rfl
def Xs{p:List Nat->Prop}(a:p [])(b:∀l d,p l->p (l++[d]))(l:List Nat):p l:=by
 have:∀m:List Nat,p m.reverse:=by
  intro m
  induction m<;>grind
 have h:=this l.reverse
 grind
def Sn(l:List Nat):val (Bn l)=val l:=by
 refine Xs (p:=λl=>val (Bn l)=val l) F (λl d a=> ?_) l
 grind [Xr,vH,Xx]
def vN(l:List Nat):∃m,l=Bn l++F7 m 0:=by
 refine Xs (p:=λl=>∃m,l=Bn l++F7 m 0) ⟨0,F⟩ (λl d a=> ?_) l;by_cases b:d=0
 .obtain⟨m,hm⟩:=a;refine⟨m+1,?_⟩
  grind [Xr,List.replicate_succ']
 exact⟨0,by grind [Xx]⟩
def Sm{l:List Nat}(h:Small l):Canon (Bn l):=by
 revert h;refine Xs (p:=λl=>Small l->Canon (Bn l)) (λ_=>⟨λd h=>by grind [jV],cj⟩) (λl d a h=> ?_) l;exact yU
theorem xG{f g:Nat->Nat}(hi:i<n)(b:∀k,k<n->f k<B)(a:∀k,i<k->k<n->f k=g k)(c:f i<g i):S f n<S g n:=by
 obtain⟨d,rfl⟩:∃d,n=(i+1)+d:=⟨n-(i+1),D⟩;rw[Qu f _,Qu g _,MF (f:=λk=>f (i+1+k)) (λk hk=>a _ D D),GA,GA];have h1:=PG (n:=i) (λk hk=>b k D);have h2:(f i+1)*B^i<=g i*B^i:=Gz _ c
 grind
def sh(f:Nat->Nat)(i:Nat):Nat->Nat:=λk=>f (i+k)
def aU(f:Nat->Nat)(i n:Nat):S (sh f i) (n+1)=f i+B*S (sh f (i+1)) n:=by
 have h:=Qu (sh f i) 1 n;rw[Np 1 n] at h;rw[h,GA,sB];have:S (λk=>sh f i (1+k)) n=S (sh f (i+1)) n:=MF (λk _=>by unfold sh;grind);rw[this];unfold sh;simp
def a4c{d T ab r a n:Nat}(h:T=d*ab+r)(hn:n=a+r*B):
  a+B*T=d*(n/d+B*ab)+n%d:=by
 grind [Nat.div_add_mod]
def a7U{d r a n:Nat}(c:r<d)(b:a<B)(hn:n=a+r*B):n/d<B/\n%d<d:=by
 refine⟨?_,Hh _ D⟩;rw[ZG D]
 grind
def a2t{X c b x a P:Nat}(h:X+c*(P*B)=b+x*a)(f:b<P)(g:a<P)(hx:x<B):c=0:=by
 by_cases d:c=0
 .exact d
 have h1:1*(P*B)<=c*(P*B):=Gz _ D;have h2:x*a<=x*P:=Ws _ D;have e:(x+1)*P<=B*P:=Gz _ hx
 grind
theorem iK{f g:Nat->Nat}(hm:j+n<=m)(b:∀k,k<j->g k=f k)(a:∀k,j+n<=k->k<m->g k=f k):
  S g m+B^j*S (sh f j) n=S f m+B^j*S (sh g j) n:=by
 obtain⟨d,rfl⟩:∃d,m=(j+n)+d:=⟨m-(j+n),D⟩;rw[Qu g,Qu f,Qu g j n,Qu f j n,MF (f:=λk=>g (j+n+k)) (λk hk=>a _ D D),MF (λk hk=>b k hk)];show _+B^j*S (sh g j) n+_+B^j*S _ n=_+B^j*S (sh f j) n+_+B^j*S _ n;omega
def a3p{a b f ab R:Nat}(c:0<f)(d:0<b)(h:a*f=ab*(b*f)+R)(g:R<b*f):ab=a/b/\R=(a%b)*f:=by
 have h1:=by
  have:(ab*b)*f<=a*f:=Al;exact Nat.le_of_mul_le_mul_right this c
 have h2:=by
  have:a*f<((ab+1)*b)*f:=Al;exact lU this
 have e:ab=a/b:=by
  rw[eq_comm];refine Nat.div_eq_of_lt_le ?_ ?_
  .grind
  grind
 grind [Nat.div_add_mod]
structure Nz(aa a n k:Nat)(u q:List Nat):Prop where
 Bf:Small u
 b3d:Small q
 len:ln u=ln q+n
 hk:k<=ln q
 eq:aa=S (I u) (ln u)+B^(ln q-k)*S (sh (I q) (ln q-k)) k*a
 zero:∀i,ln q-k+n<=i->I u i=0
 WV:S (sh (I u) (ln q-k)) n<a
def q8(f:Nat->Nat)(n:Nat):f n*B^n<=S f (n+1):=by rw[GA];grind
theorem sC{l:List Nat}(a:j<ln l):I (l.set j x) k=if k=j then x else I l k:=by
 unfold I
 grind
theorem Small.b4l{l:List Nat}(h:Small l)(hx:x<B):Small (l.set j x):=by
 exact mV
def Nz.lt{aa a n k:Nat}{u q:List Nat}(h:Nz aa a n k u q)(hk:k<ln q):S (sh (I u) (ln q-1-k)) (n+1)<B*a:=by
 have c:=h.WV;rw[aU];have b:I u (ln q-1-k)<B:=Du h.Bf _
 grind
def Nz.top{aa a n k:Nat}{u q v:List Nat}(h:Nz aa a n k u q)(hk:k<ln q)(d:Small v)(hn:ln v=n)(h1:1<=n)(c:val v=a):I u (ln q-1-k+n)<=I v (n-1):=by
 have j:=h.lt hk;have l:I u (ln q-1-k+n)*B^n<=S _ _:=q8 (sh (I u) _) n;obtain⟨m,rfl⟩:∃m,n=m+1:=⟨n-1,D⟩;have i:a<(I v m+1)*B^m:=by
  rw[<-c];unfold val;rw[hn,GA,Kq];have:S _ m<B^m:=PG (λk _=>Du d k);omega
 have f:B*a<B*((I v m+1)*B^m):=Al;have e:B*((I v m+1)*B^m)=(I v m+1)*B^(m+1):=Al;have b:I u (ln q-1-k+(m+1))*B^(m+1)<(I v m+1)*B^(m+1):=D;have g:=lU b
 grind
def Nz.step{aa b n k d X:Nat}{u a q:List Nat}(h:Nz aa b n k u q)(hk:k<ln q)(z:b<B^n)
  (F:ln a=ln u)(w:Small a)(f:∀i,i<ln q-1-k\/ln q-1-k+(n+1)<=i->I a i=I u i)
  (e:S (sh (I a) (ln q-1-k)) (n+1)=X)(o:X+d*b=S (sh (I u) (ln q-1-k)) (n+1))(t:S (sh (I u) (ln q-1-k)) (n+1)<(d+1)*b):
  d<B/\Nz aa b n (k+1) a (q.set (ln q-1-k) d):=by
 have v:=h.lt hk;have⟨j,s⟩:=AP (ln q-1-k);have l:ln q-(k+1)=j:=D;have y:ln q-k=j+1:=D;obtain⟨K,x,H,E,C,L,J⟩:=h;rw[s] at f e o t v⊢;have A:X<b:=Al;have g:=by
  have:d*b<B*b:=D;exact lU this
 refine⟨g,w,Small.b4l x g,Al,Al,?_,?_,?_⟩
 .have ht:=iK (m:=ln u) D (λi hi=>f i (.inl hi)) (λi hi _=>f i (.inr hi));have N:S (sh (I (q.set j d)) j) (k+1)=d+B*S (sh (I q) (j+1)) k:=by
   rw[aU,sC D,Aj rfl,MF];intro i _;unfold sh;rw[sC D,Af D]
  grind
 .intro i hi;by_cases r:i=j+n
  .subst r;have h1:I a (j+n)*B^n<=X:=by rw[<-e];exact q8 (sh (I a) j) n
   rcases TI _ with c|c
   .exact c
   have:1*B^n<=I a _*B^n:=Gz _ c;omega
  grind
 rw[Nl,l];have:S (sh (I a) j) n<=X:=by rw[<-e,GA];grind
 omega
def Nz.done{a b f n:Nat}{u q:List Nat}(h:Nz (a*f) (b*f) n (ln q) u q)(i:0<f)(e:0<b):val q=a/b/\val u=(a%b)*f:=by
 obtain⟨r,s,o,m,c,k,j⟩:=h;rw[Nat.sub_self] at c k j;have d:∀g,sh g 0=g:=λg=>by unfold sh;grind
 rw[d,Nat.pow_zero,H7] at c;have l:S (I u) (ln u)=S (I u) n:=by grind [xA]
 have:=a3p i e (by rw[c,Np]) Al;exact this
def Nz.BI{aa b n:Nat}{u:List Nat}{a:Nat}(hu:Small u)(g:ln u=a+n)(e:val u=aa)(c:I u (ln u-1)=0)(h1:1<=n)(f:B^(n-1)<=b):
  Nz aa b n 0 u (F7 a 0):=by
 refine⟨hu,?_,Al,D8 _,?_,?_,?_⟩
 .intro d hd;grind
 .simp[S];rw[<-e];rfl
 .grind [UN]
 obtain⟨m,rfl⟩:∃m,n=m+1:=⟨n-1,D⟩;rw[GA];have:sh (I u) a m=0:=by
  have:ln u-1=a+m:=D;rw[this] at c;exact c
 have h2:S (sh (I u) a) m<B^m:=PG (λk _=>Du hu _)
 grind
theorem val_inj{a b:List Nat}(c:Canon a)(d:Canon b)(h:val a=val b):a=b:=by
 have e:ln a=ln b:=by
  rcases eR _ _ with g|j|f
  .have:=Rf c.Bf d.trim g;omega
  .grind
  have:=Rf d.Bf c.trim f;omega
 unfold val at h;rw[<-e] at h;have hk:=b42 (λk _=>Du c.Bf k) (λk _=>Du d.Bf k) h;refine List.ext_getElem e (λi h1 h2=> ?_);have:=hk i h1;rwa[ON h1,ON h2] at this
open Classical in
noncomputable def Io(n:Nat):List Nat:=if h:∃l,Canon l/\val l=n then Classical.choose h else []
theorem bJ{l:List Nat}(h:Canon l)(a:val l=n):Io n=l:=by
 have hx:∃l,Canon l/\val l=n:=Al;unfold Io
 grind [val_inj]
end Kp
namespace Go.Proofs.YtalhfkdhdggdaaaGreatDoor
section
open Kp
def gQ{k:IntKind}{a b:Int}(h:a=b):Ending.returned (.int k a)=Ac (.int k b):=by rw[h]
def BH(w:V)(b0:Nat)(v:AN)(l:List Nat):Prop:=
 ∃aa R,v=AK aa (ln l) R/\ln l<=R/\R<=BM/\
  (0<ln l->∃b off,aa=Q ⟨b,off,O⟩/\b<b0/\∀j,j<ln l->w.cell? ⟨b,off+j,O⟩=Q (M G (I l j)))
theorem BH.keep{v:AN}{l:List Nat}(h:BH w b0 v l)(hk:∀p:An,p.block<b0->w'.cell? p=w.cell? p):BH w' b0 v l:=by
 obtain⟨aa,R,rfl,h1,h2,c⟩:=h;refine⟨aa,R,F,h1,h2,λhn=> ?_⟩;have⟨b,off,e,a,d⟩:=c hn;exact⟨b,off,e,a,λj f=>(hk _ a).trans (d j f)⟩
theorem BH.more{b0 a:Nat}{v:AN}{l:List Nat}(h:BH w b0 v l)(c:b0<=a):BH w a v l:=by
 obtain⟨aa,R,rfl,h1,h2,d⟩:=h;refine⟨aa,R,F,h1,h2,λhn=> ?_⟩;have⟨b,off,e,c,f⟩:=d hn;exact⟨b,off,e,D,f⟩
theorem BH.below{v:AN}{l:List Nat}(h:BH w b0 v l)(a:At b0 w w'):BH w' b0 v l:=h.keep λ_ b=>a.cell b
theorem BH.len{v:AN}{l:List Nat}(h:BH w b0 v l):ln l<=9223372036854775807:=by
 obtain⟨_,_,_,h1,h2,_⟩:=h;unfold BM at h2;omega
theorem kO(w:V)(b0:Nat)(v:AN)(l:List Nat)(i:Nat)(h:BH w b0 v l)(hi:i<=4611686018427387904):
  AZ AO 362 #[v,M G i] w λe w'=>e=Ac (M G (I l i))/\w=w':=by
 obtain⟨aa,R,rfl,d,hm,a⟩:=h;unfold BM at hm;by_cases c:i<ln l
 .obtain⟨b,off,rfl,_,hcell⟩:=a D;have hx:=hcell i c;clear hcell;go_enter func362,ntmps362;exact ZO
 go_enter func362,ntmps362;go_wp2;go_ret;exact⟨gQ (by rw[UN D];rfl),F⟩
def VC:AN->Nat
 | AK _ n _=>n
 |_=>0
theorem oh{l:List Nat}(hk:k<ln l)(a:I l k=0)(h:Bn (l.take (k+1))=Bn l):Bn (l.take k)=Bn l:=by
 rw[<-h,Qx hk];rw[ON hk] at a;rw[a,Xr]
theorem a0o{l:List Nat}(hk:k<ln l)(a:I l k≠0)(h:Bn (l.take (k+1))=Bn l):(Bn l).length=k+1:=by
 rw[<-h,Qx hk];rw[ON hk] at a;rw[Xx a];simp;omega
def pf(w:V)(aa:Option An)(R:Nat)(l:List Nat)(h1:ln l<=R)(h2:R<=BM)
  (g:0<ln l->∃b off,aa=Q ⟨b,off,O⟩/\∀j,j<ln l->w.cell? ⟨b,off+j,O⟩=Q (M G (I l j))):
  AZ AO 344 #[AK aa (ln l) R] w λe w'=>e=Ac (AK aa (Bn l).length R)/\w=w':=by
 unfold BM at h2;go_enter func344,ntmps344;go_wp2
 go_loop [0] (λv=>∃k:Nat,k<=ln l/\v=AK aa k R/\Hid (Bn (l.take k)=Bn l)) (λv=>VC v)
 case atStart=>exact⟨ln l,AS _,F,by simp[Hid]⟩
 obtain⟨k,hk,rfl,f⟩:=hrel;rcases k with _|k
 .exact yR
 obtain⟨b,off,rfl,c⟩:=g D;have hx:=c k D;by_cases a:I l k=0
 .have hz:((I l k:Int)==0)=AL:=by rw[a];rfl
  have d:=A a;clear a c;go_wp2
  go_round
  case rel=>exact⟨k,D,rfl,oh D d f⟩
  simp[VC]
 exact yQ
def Row(w:V)(g R:Nat)(l:List Nat):Prop:=
 ∃cur:Array AN,w.1[g]?=Q (.cells cur 3 (0,0))/\cur.size=R/\ln l<=R/\R<=BM/\∀j,j<ln l->cur[j]?=Q (M G (I l j))
theorem Row.lt{l:List Nat}(h:Row w g R l):g<w.1.size:=by
 obtain⟨cur,a,_⟩:=h
 grind
theorem Row.cell{l:List Nat}(h:Row w g R l)(c:j<ln l):w.cell? ⟨g,j,O⟩=Q (M G (I l j)):=by
 obtain⟨cur,b,_,_,_,a⟩:=h;simp[Dx,b,a j c]
theorem Row.frozen{l:List Nat}(h:Row w g R l)(j:Nat):w.frozen? ⟨g,j,O⟩=AM:=by
 obtain⟨cur,a,_⟩:=h;simp[Hb,a]
theorem Nb{l:List Nat}(a:j<ln l):I (l.set j x) k=if k=j then x else I l k:=by
 unfold I
 grind
theorem Row.set{l:List Nat}(h:Row w g R l)(c:j<ln l)(x:Nat):Row (w.setCell ⟨g,j,O⟩ (M G x)) g R (l.set j x):=by
 obtain⟨cur,b,h1,h2,a,d⟩:=h;refine⟨cur.setIfInBounds j (M G x),?_,by simp[h1],Al,a,λk hk=> ?_⟩
 .simp[Di,IT,b]
 rw[Nb c]
 grind
theorem Row.keep{l:List Nat}(h:Row w g R l)(hk:w'.1[g]?=w.1[g]?):Row w' g R l:=by
 obtain⟨cur,a,r⟩:=h;exact⟨cur,hk.trans a,r⟩
theorem Row.drew{l:List Nat}(h:Row w g R l):Row w.drew g R l:=h
theorem Row.drewN{l:List Nat}(h:Row w g R l)(n:Nat):Row (w.drewN n) g R l:=h
theorem Row.sl{l:List Nat}(h:Row w g R l)(a:g<b0):BH w b0 (AK (Q ⟨g,0,O⟩) (ln l) R) l:=by
 exact yt
structure EO(g:Nat)(w w':V):Prop where
 os:w'.os=w.os
 tape:w'.tape=w.tape
 output:w'.output=w.output
 size:w'.1.size=w.1.size
 block:∀k,k≠g->w'.1[k]?=w.1[k]?
theorem EO.refl(g:Nat)(w:V):EO g w w:=⟨rfl,rfl,rfl,rfl,λ_ _=>rfl⟩
theorem EO.drewN(h:EO g w w')(n:Nat):EO g w (w'.drewN n):=⟨h.os,h.tape,h.output,h.size,h.block⟩
theorem EO.drew(h:EO g w w'):EO g w w'.drew:=⟨h.os,h.tape,h.output,h.size,h.block⟩
theorem EO.set(h:EO g w w')(j:Nat)(x:AN):EO g w (w'.setCell ⟨g,j,O⟩ x):=
 ⟨h.os,h.tape,h.output,by simpa[Di] using h.size,λk hk=>(Gp w' _ x k hk).trans (h.block k hk)⟩
theorem EO.trans{a b c:V}(h:EO g a b)(k:EO g b c):EO g a c:=
 ⟨k.os.trans h.os,k.tape.trans h.tape,k.output.trans h.output,k.size.trans h.size,λi hi=>(k.block i hi).trans (h.block i hi)⟩
theorem EO.cell(h:EO g w w')(a:p.block≠g):w'.cell? p=w.cell? p:=SG (h.block _ a)
theorem EO.sl(h:EO g w w'){v:AN}{l:List Nat}(a:BH w b0 v l)(b:b0<=g):BH w' b0 v l:=a.keep λp c=>h.cell D
theorem EO.below(h:EO g w w')(a:b0<=g):At b0 w w':=
 ⟨h.os,h.tape,h.output,by rw[h.size];grind,λk hk=>h.block k D⟩
theorem gH{v:AN}(h:w.cell? p=Q v):p.block<w.1.size:=by
 rcases Ht p.block w.1.size with b|a
 .grind
 unfold Dx at h;rw[Array.getElem?_eq_none a] at h;simp at h
def Nv(w:V)(g:Nat)(v:AN)(l:List Nat):Prop:=
 ∃aa R,v=AK aa (ln l) R/\ln l<=R/\R<=BM/\
  (0<ln l->∃b off,aa=Q ⟨b,off,O⟩/\b≠g/\∀j,j<ln l->w.cell? ⟨b,off+j,O⟩=Q (M G (I l j)))
theorem Nv.all{v:AN}{l:List Nat}(h:Nv w g v l):BH w w.1.size v l:=by
 obtain⟨aa,R,rfl,h1,h2,c⟩:=h;refine⟨aa,R,F,h1,h2,λhn=> ?_⟩;have⟨b,off,e,d,a⟩:=c hn;exact⟨b,off,e,gH (a 0 hn),a⟩
theorem EO.WS(h:EO g w w'){v:AN}{l:List Nat}(i:Nv w g v l):Nv w' g v l:=by
 obtain⟨aa,R,rfl,h1,h2,c⟩:=i;refine⟨aa,R,F,h1,h2,λhn=> ?_⟩;have⟨b,off,e,a,d⟩:=c hn;exact⟨b,off,e,a,λj f=>(h.cell a).trans (d j f)⟩
theorem BH.Bo{v:AN}{l:List Nat}(h:BH w b0 v l)(b:b0<=g):Nv w g v l:=by
 obtain⟨aa,R,rfl,h1,h2,a⟩:=h;refine⟨aa,R,F,h1,h2,λhn=> ?_⟩
 grind
theorem Row.WS{l:List Nat}(h:Row w g R l)(a:g≠g'):Nv w g' (AK (Q ⟨g,0,O⟩) (ln l) R) l:=by
 exact yt
def EN{n:Int}(a: -9223372036854775808<=n)(h1:n<=9223372036854775807):G.wrap n=n:=DF _ D
def Vx(w:V)(g R:Nat)(u v:List Nat)(j q k c:Nat)(a:List Nat)(w':V):Prop:=
 Row w' g R a/\ln a=ln u/\Small a/\(∀i,i<j\/j+k<=i->I a i=I u i)/\
  S (sh (I a) j) k+q*S (I v) k=S (sh (I u) j) k+c*B^k/\c<=2000000010/\EO g w w'
def a9b(w:V)(g R:Nat)(u v:List Nat)(j q:Nat)(c i:AN)(w':V):Prop:=
 ∃(k a:Nat) (b:List Nat),k<=ln v+1/\i=M G k/\c=M G a/\Vx w g R u v j q k a b w'
def a6v(w:V)(g R:Nat)(u v:List Nat)(j q:Nat)(e:CI)(w':V):Prop:=
 ∃(c:Nat) (a:List Nat),e=Ac (AU (AQ (0<c)))/\Vx w g R u v j q (ln v+1) c a w'
def iJ(w:V)(b0:Nat)(v:AN)(l:List Nat)(i:Nat)(h:BH w b0 v l)(hi:i<=4611686018427387904):
  AZ AO 362 #[v,M G i] w λe w'=>e=Ac (M G (I l i))/\w'=w:=
 by grind [kO]
def bj{q x:Nat}(a:q<=2000000000)(hx:x<1000000000):0<=(q:Int)*(x:Int)/\(q:Int)*(x:Int)<=2000000000000000000:=by
 have h:q*x<=2000000000*1000000000:=OZ a D
 grind
theorem qB{l:List Nat}(h:j+k<ln l):S (sh (I (l.set (j+k) x)) j) (k+1)=S (sh (I l) j) k+x*B^k:=by
 rw[GA,MF]
 .have:sh (I (l.set (j+k) x)) j k=x:=by unfold sh;rw[Nb h,Aj rfl]
  rw[this]
 intro i hi;unfold sh;rw[Nb h,Af D]
theorem Small.set{l:List Nat}(h:Small l)(hx:x<B):Small (l.set j x):=by
 exact mV
theorem nZ{u v a:List Nat}{j q k c x b:Nat}(n:Nat)(H:Vx w g R u v j q k c a wr)(t:j+k<ln u)
  (hx:x<1000000000)(l:b<=2000000010)(r:x+q*I v k+c=I a (j+k)+b*1000000000):
  Vx w g R u v j q (k+1) b (a.set (j+k) x) ((wr.drewN n).setCell ⟨g,j+k,O⟩ (M G x)):=by
 obtain⟨e,y,f,m,s,o,d⟩:=H;refine⟨(e.drewN n).set D x,Al,Small.set f hx,λi hi=> ?_,?_,l,(d.drewN n).set _ _⟩
 .rw[Nb D];grind
 rw[qB D,GA _,GA _];have:sh (I u) j k=I a _:=(m _ D).symm
 grind
def a9h{a c p:Nat}(h:(a:Int)-c-p<0)(d:c<=2000000010)(e:p<=2000000000000000000):
  ∃b x:Nat,(-((a:Int)-c-p)+1000000000-1)/1000000000=b/\(a:Int)-c-p+(b:Int)*1000000000=x/\x<1000000000/\b<=2000000010/\x+p+c=a+b*1000000000:=by
 refine⟨((-((a:Int)-c-p)+1000000000-1)/1000000000).toNat,((a:Int)-c-p+((-((a)-c-p)+1000000000-1)/1000000000)*1000000000).toNat,?_,?_,?_,?_,?_⟩<;>omega
def a94(w:V)(g R:Nat)(u v:List Nat)(n:AN)(j q:Nat)(J:Row w g R u)(m:Nv w g n v)(hu:Small u)(P:Small v)
  (W:j+ln v+1<=ln u)(E:q<=2000000000)(X:ln u<=4294967296):
  AZ AO 350 #[AK (Q ⟨g,0,O⟩) (ln u) R,n,M G j,M G q] w (a6v w g R u v j q):=by
 obtain⟨aa,af,rfl,ac,ad,ae⟩:=id m;go_wp2;go_loopw [9,15] (λc i wr=>a9b w g R u v j q c i wr) (λ_ i _=>ln v+1-(B8 i).toNat)
 case atStart=>exact⟨0,0,u,D,rfl,rfl,J,rfl,hu,λ_ _=>rfl,by simp[S],D,EO.refl _ _⟩
 obtain⟨k,c,a,hk,rfl,rfl,hrel⟩:=hrel;have⟨e,B,l,K,z,s,f⟩:=id hrel;by_cases Y:k<ln v+1
 .have hx:=e.cell (j:=j+k) D;have U:=e.frozen (j+k);have ab:I a (j+k)<1000000000:=Du l (j+k);have N:I v k<1000000000:=Du P k;have⟨Z,EZ⟩:=bj E N;have L:=(f.WS m).all;have H:=A hrel;clear hrel z K B l e f;go_wp2_with fail
  go_quiet ((exact OW (iJ _ _ _ v k L D)))
  go_wp2
  .have hneg:(I a (j+k):Int)-c-(q)*(I v k)<0:=Al;have d:((q:Int)*(I v k))=((q*I v k:Nat)):=AV;rw[d] at hneg EZ⊢;have⟨o,x,r,b,T,t,y⟩:=a9h hneg s D;rw[r,b];exact⟨⟨k+1,o,_,D,by go_num,rfl,nZ nq H D T t y⟩,by grind [B8]⟩
  have C:0<=(I a (j+k):Int)-c-(q)*(I v k):=Al;have d:((q:Int)*(I v k))=((q*I v k:Nat)):=AV;rw[d] at C EZ⊢;have b:(I a (j+k):Int)-c-((q*I v k:Nat))=((I a (j+k)-c-q*I v k:Nat)):=D;rw[b];exact⟨⟨k+1,0,_,D,by go_num,rfl,nZ nq H D D D D⟩,by grind [B8]⟩
 exact yu
def T1(w:V)(g R:Nat)(u v:List Nat)(j q k c:Nat)(a:List Nat)(w':V):Prop:=
 Row w' g R a/\ln a=ln u/\Small a/\(∀i,i<j\/j+k<=i->I a i=I u i)/\
  S (sh (I a) j) k+c*B^k=S (sh (I u) j) k+q*S (I v) k/\c<=2000000010/\EO g w w'
def a8I(w:V)(g R:Nat)(u v:List Nat)(j q:Nat)(c i:AN)(w':V):Prop:=
 ∃(k a:Nat) (b:List Nat),k<=ln v+1/\i=M G k/\c=M G a/\T1 w g R u v j q k a b w'
def a7o(w:V)(g R:Nat)(u v:List Nat)(j q:Nat)(e:CI)(w':V):Prop:=
 ∃(c:Nat) (a:List Nat),e=Ac (AK (Q ⟨g,0,O⟩) (ln u) R)/\T1 w g R u v j q (ln v+1) c a w'
theorem nT{u v a:List Nat}{j q k c x b:Nat}(n:Nat)(H:T1 w g R u v j q k c a wr)(y:j+k<ln u)
  (hx:x<1000000000)(m:b<=2000000010)(o:x+b*1000000000=I a (j+k)+q*I v k+c):
  T1 w g R u v j q (k+1) b (a.set (j+k) x) ((wr.drewN n).setCell ⟨g,j+k,O⟩ (M G x)):=by
 obtain⟨f,s,l,d,r,t,e⟩:=H;refine⟨(f.drewN n).set D x,by simpa using s,Small.set l hx,λi hi=> ?_,?_,m,(e.drewN n).set _ _⟩
 .rw[Nb D,Af D];exact d i D
 rw[qB D,GA (I v),GA (sh (I u) j),NC];refine a1j r ?_;have:sh (I u) j k=I a (j+k):=(d _ D).symm;rw[this];exact o
def a1x(w:V)(g R:Nat)(u v:List Nat)(m:AN)(j q:Nat)(f:Row w g R u)(l:Nv w g m v)(hu:Small u)(J:Small v)
  (P:j+ln v+1<=ln u)(y:q<=2000000000)(T:ln u<=4294967296):
  AZ AO 351 #[AK (Q ⟨g,0,O⟩) (ln u) R,m,M G j,M G q] w (a7o w g R u v j q):=by
 have L:ln u<=R/\R<=9223372036854775807:=by obtain⟨_,_,_,h2,s,_⟩:=f;unfold BM at s;omega
 obtain⟨aa,ab,rfl,Y,C,Z⟩:=id l;unfold BM at C;go_enter func351,ntmps351;go_wp2;go_loopw [9,15] (λc i wr=>a8I w g R u v j q c i wr) (λ_ i _=>ln v+1-(B8 i).toNat)
 case atStart=>exact⟨0,0,u,D,rfl,rfl,f,rfl,hu,λ_ _=>rfl,by simp[S],D,EO.refl _ _⟩
 obtain⟨k,c,a,hk,rfl,rfl,hrel⟩:=hrel;have⟨b,x,e,z,t,K,d⟩:=id hrel;by_cases U:k<ln v+1
 .have hx:=b.cell (j:=j+k) D;have N:=b.frozen (j+k);have X:I a (j+k)<1000000000:=Du e (j+k);have E:I v k<1000000000:=Du J k;have⟨W,EZ⟩:=bj y E;have B:=(d.WS l).all;have w1:G.wrap ((j:Int)+k)=j+k:=EN D D;have ac:0<=(j:Int)+k:=D;have ad:((j:Int)+k).toNat=j+k:=D;have w3:G.wrap ((q:Int)*(I v k:Int))=q*I v k:=EN D D;have w2:G.wrap ((I a (j+k):Int)+(q:Int)*(I v k:Int))=I a (j+k)+q*I v k:=EN D D;have w4:G.wrap ((I a (j+k):Int)+(q:Int)*(I v k:Int)+c)=I a (j+k)+q*I v k+c:=EN D D;have ae:(j:Int)+k<ln u:=D;have H:=A hrel;clear hrel t z x e b d;go_wp2_with fail
  go_quiet ((go_at_call 362;exact OW (iJ _ _ _ v k B D)))
  go_wp2;have r:((q:Int)*(I v k:Int))=((q*I v k:Nat):Int):=AV;rw[r] at EZ⊢;have n:((I a (j+k):Int)+((q*I v k:Nat):Int)+c)/1000000000=(((I a (j+k)+q*I v k+c)/1000000000:Nat):Int):=D;have o:((I a (j+k):Int)+((q*I v k:Nat):Int)+c)%1000000000=(((I a (j+k)+q*I v k+c)%1000000000:Nat):Int):=D;rw[n,o];exact⟨⟨k+1,_,_,D,by go_num,rfl,nT nq H D D D D⟩,Bm⟩
 exact yu
def Zb(a b un u1 v1 q r:Nat):Prop:=
 q*v1+r=un*1000000000+u1/\a<(q+1)*b/\q<=2000000000/\r<1000000000
def b2C(w:V)(c d un u1 v1:Nat)(q r:AN)(w':V):Prop:=
 ∃a b n:Nat,q=M G a/\r=M G b/\Zb c d un u1 v1 a b/\w'=w.drewN n
def b06(w:V)(a b:Nat)(e:CI)(w':V):Prop:=
 ∃q n:Nat,e=Ac (M G q)/\a<(q+1)*b/\q<=2000000000/\w'=w.drewN n
def b1n{v:List Nat}(hn:2<=ln v):I v (ln v-1)*B^(ln v-1)<=val v/\(I v (ln v-1)*B+I v (ln v-2))*B^(ln v-2)<=val v:=by
 obtain⟨m,hm⟩:∃m,ln v=m+2:=⟨ln v-2,D⟩;unfold val;rw[hm,GA,GA];show I v (m+1)*B^(m+1)<=_/\(I v (m+1)*B+I v m)*B^m<=_;refine⟨Nat.le_add_left _ _,?_⟩;rw[NC,Kq];have:I v (m+1)*(B^m*B)=I v (m+1)*B*B^m:=by rw[DL (B^m),Wp]
 omega
theorem b0M{u:List Nat}(hu:Small u)(hn:2<=n):
  S (sh (I u) j) (n+1)<(I u (j+n)*B+I u (j+n-1)+1)*B^(n-1)/\
  S (sh (I u) j) (n+1)<((I u (j+n)*B+I u (j+n-1))*B+I u (j+n-2)+1)*B^(n-2):=by
 obtain⟨m,rfl⟩:∃m,n=m+2:=⟨n-2,D⟩;have h1:S (sh (I u) j) (m+1)<B^(m+1):=PG (λk _=>Du hu _);have e:S (sh (I u) j) m<B^m:=PG (λk _=>Du hu _);rw[GA,GA (sh (I u) j) (m+1)];show S (sh (I u) j) (m+1)+I u (j+(m+1))*B^(m+1)+I u (j+(m+2))*B^(m+2)<(I u (j+(m+2))*B+I u (j+(m+1))+1)*B^(m+1)/\
  S (sh (I u) j) (m+1)+I u (j+(m+1))*B^(m+1)+I u (j+(m+2))*B^(m+2)<((I u (j+(m+2))*B+I u (j+(m+1)))*B+I u (j+m)+1)*B^m
 generalize I u (j+(m+2))=a;generalize I u (j+(m+1))=b;have ea:a*B^(m+2)=a*B*B^(m+1):=by rw[NC B (m+1),DL (B^(m+1)),Wp]
 constructor
 .rw[Kq,Kq,H7,ea];omega
 rw[GA];show S (sh (I u) j) m+I u (j+m)*B^m+b*B^(m+1)+a*B^(m+2)<_;generalize I u (j+m)=c;have d:((a*B+b)*B+c+1)*B^m=a*B^(m+2)+b*B^(m+1)+c*B^m+B^m:=by
  rw[ea,NC,Kq,Kq,H7,Kq,Kq];have x1:a*B*B*B^m=a*B*(B^m*B):=by rw[Wp (a*B),DL B (B^m)]
  have f:b*B*B^m=b*(B^m*B):=by rw[Wp,DL B (B^m)]
  omega
 rw[d];omega
def a6a{a b un u1 v1 P:Nat}(c:a<(un*B+u1+1)*P)(e:v1*P<=b)(i:v1<1000000000)(k:u1<1000000000)(h1:1<=v1)(j:un<=v1):
  Zb a b un u1 v1 ((un*1000000000+u1)/v1) ((un*1000000000+u1)%v1):=by
 have⟨t,d⟩:=AP (un*B+u1);rw[d] at c;have g:un*1000000000+u1=t:=d;unfold Zb;rw[g];have f:=eC t v1;have hm:=Hh t h1;refine⟨by rw[DL];exact f,a69 c e ?_,?_,D⟩
 .rw[Kq,H7,DL];omega
 have:t<=2000000000*v1:=D;exact Nat.div_le_of_le_mul (by rw[DL];exact this)
def a98{b c un u1 e v1 v2 q r P:Nat}(i:b<((un*B+u1)*B+e+1)*P)(j:(v1*B+v2)*P<=c)(f:b<B*c)(h:Zb b c un u1 v1 q r)
  (a:1000000000<=q\/r*1000000000+e<q*v2):
  1<=q/\b<(q-1+1)*c/\(q-1)*v1+(r+v1)=un*1000000000+u1:=by
 obtain⟨g,k,l,m⟩:=h;have h1:1<=q:=by
  rcases a with a|a
  .omega
  rcases TI q with d|d
  .subst d;omega
  exact d
 refine⟨h1,?_,?_⟩
 .rw[Nat.sub_add_cancel h1];rcases a with a|a
  .exact b0Y f a
  exact a8M g i j a
 have:q*v1=(q-1)*v1+v1:=by
  rw[<-eX,Nat.succ_eq_add_one,Nat.sub_add_cancel h1]
 omega
theorem b1g(h1:un<1000000000)(h2:u1<1000000000)(a:1<=v1):
  G.wrap (((un:Int)*1000000000+u1).tdiv v1)=(((un*1000000000+u1)/v1:Nat):Int):=by
 rw[yE _ _ ⟨D,D,D⟩];simp
theorem b0x:((un:Int)*1000000000+u1).tmod v1=(((un*1000000000+u1)%v1:Nat):Int):=by
 rw[mM _ _ D];simp
def a1a(w:V)(g s:Nat)(u v:List Nat)(aa:Option An)(ae j b0:Nat)(k:Row w g s u)(hv:BH w b0 (AK aa (ln v) ae) v)(hu:Small u)(W:Small v)
  (hn:2<=ln v)(hj:j+ln v<ln u)(ar:ln u<=4294967296)(h1:1<=I v (ln v-1))(ac:I u (j+ln v)<=I v (ln v-1))
  (Y:S (sh (I u) j) (ln v+1)<B*val v):
  AZ AO 349 #[AK (Q ⟨g,0,O⟩) (ln u) s,AK aa (ln v) ae,M G j] w (b06 w (S (sh (I u) j) (ln v+1)) (val v)):=by
 have ay:ln u<=s/\s<=9223372036854775807:=by obtain⟨_,_,_,h2,h3,_⟩:=k;unfold BM at h3;omega
 obtain⟨A',aB,e,aA,ao,ad⟩:=hv;injection e with d e2 e3
 subst d e3;obtain⟨b,off,rfl,_,U⟩:=ad D;unfold BM at ao;have sg:=b0M (j:=j) hu hn;have X:=b1n hn;have c0:=k.cell hj;have c1:=k.cell (j:=j+ln v-1) D;have c2:=k.cell (j:=j+ln v-2) D;have d1:=U (ln v-1) D;have d2:=U (ln v-2) D;have au:I u (j+ln v)<1000000000:=Du hu _;have ah:I u (j+ln v-1)<1000000000:=Du hu _;have av:I u (j+ln v-2)<1000000000:=Du hu _;have ai:I v (ln v-1)<1000000000:=Du W _;have aj:I v (ln v-2)<1000000000:=Du W _;have ab:=A (a6a sg.1 X.1 ai ah h1 ac);have Z:=A (λq r=>a98 (q:=q) (r:=r) sg.2 X.2 Y);clear U ad k Y ac W hu sg X;generalize S (sh (I u) j) (ln v+1)=af at *;generalize val v=ag at *;generalize I u (j+ln v)=un at *;generalize I u (j+ln v-1)=u1 at *;generalize I u (j+ln v-2)=c at *;generalize I v (ln v-1)=v1 at *;generalize I v (ln v-2)=v2 at *;have y1:un<1000000000:=D;have y2:u1<1000000000:=D;have y3:1<=v1:=D;have az:¬v1=0:=D;have x1:(j:Int)+ln v<ln u:=D;have x2:(j:Int)+ln v-1<ln u:=D;have x3:0<=(j:Int)+ln v-1:=D;have J:0<=(ln v:Int)-1:=D;have K:(ln v:Int)-1<ln v:=D;have w1:G.wrap ((j:Int)+ln v)=j+ln v:=EN D D;have ap:((j:Int)+ln v).toNat=j+ln v:=D;have w2:G.wrap ((j:Int)+ln v-1)=j+ln v-1:=EN D D;have aq:((j:Int)+ln v-1).toNat=j+ln v-1:=D;have w3:G.wrap ((un:Int)*1000000000)=un*1000000000:=EN D D;have w4:G.wrap ((un:Int)*1000000000+u1)=un*1000000000+u1:=EN D D;have f:G.wrap ((ln v:Int)-1)=ln v-1:=EN D D;have i:((ln v:Int)-1).toNat=ln v-1:=D;have w6:=b1g (un:=un) (u1:=u1) (v1:=v1) y1 y2 y3;have w7:=b0x (un:=un) (u1:=u1) (v1:=v1);go_enter func349,ntmps349;go_wp2_with fail
 go_quiet (fail)
 go_wp2_with fail
 go_quiet (fail)
 go_wp2_with fail
 clear w1 ap w2 aq w3 w4 w6 w7 f i x1 x2 x3 J K;go_loopw [9,10] (λq r wr=>b2C w af ag un u1 v1 q r wr) (λq _ _=>(B8 q).toNat)
 case atStart=>exact⟨_,_,_,F,F,ab,xy _ _ _⟩
 obtain⟨q,r,n,rfl,rfl,hrel,rfl⟩:=hrel;have⟨_,_,hq,k⟩:=id hrel;have H:=A hrel;clear hrel ab;have p1:=bj hq aj;by_cases hA:1000000000<=q
 .have hl:=Z q r H (.inl hA);have o:=A hl.2;have am:=hl.1;clear hl;have aw:(1000000000:Int)<=q:=D;have J:0<=(ln v:Int)-1:=D;have K:(ln v:Int)-1<ln v:=D;have d:(q:Int)-1=((q-1:Nat):Int):=D;have P:=A d;clear d;have a:r+v1<1000000000\/¬r+v1<1000000000:=D;have l:G.wrap ((q:Int)-1)=q-1:=EN D D;have m:G.wrap ((r:Int)+v1)=r+v1:=EN D D;have f:G.wrap ((ln v:Int)-1)=ln v-1:=EN D D;have i:((ln v:Int)-1).toNat=ln v-1:=D;rcases a with a|a
  .have R:(r:Int)+v1<1000000000:=D;have T:AQ ((1000000000:Int)<=(r:Int)+v1)=AM:=Bk;go_wp2_with fail
   go_quiet (fail)
   go_wp2_with fail
   go_quiet (fail)
   clear l m f i;exact yx
  have R:(1000000000:Int)<=(r:Int)+v1:=D;have T:AQ ((1000000000:Int)<=(r:Int)+v1)=AL:=Bk;go_wp2_with fail
  go_quiet (fail)
  go_wp2_with fail
  go_quiet (fail)
  clear l m f i;exact yv
 by_cases hC:r*1000000000+c<q*v2
 .have hl:=Z q r H (.inr hC);have o:=A hl.2;have am:=hl.1;clear hl;have al:(r:Int)*1000000000+c<(q:Int)*v2:=by
   have:((q*v2:Nat):Int)=(q:Int)*v2:=AV;omega
  have J:0<=(ln v:Int)-1:=D;have K:(ln v:Int)-1<ln v:=D;have x6:0<=(ln v:Int)-2:=D;have x7:(ln v:Int)-2<ln v:=D;have x8:0<=(j:Int)+ln v-2:=D;have x9:(j:Int)+ln v-2<ln u:=D;have an:(r:Int)<1000000000:=D;have ak:AQ ((1000000000:Int)<=q)=AM:=Bk;have L:((ln v:Int)-2).toNat=ln v-2:=D;have N:((j:Int)+ln v-2).toNat=j+ln v-2:=D;have t:G.wrap ((ln v:Int)-2)=ln v-2:=EN D D;have x:G.wrap ((j:Int)+ln v)=j+ln v:=EN D D;have y:G.wrap ((j:Int)+ln v-2)=j+ln v-2:=EN D D;have z:G.wrap ((q:Int)*v2)=q*v2:=EN D D;have C:G.wrap ((r:Int)*1000000000)=r*1000000000:=EN D D;have E:G.wrap ((r:Int)*1000000000+c)=r*1000000000+c:=EN D D;have d:(q:Int)-1=((q-1:Nat):Int):=D;have P:=A d;clear d;have a:r+v1<1000000000\/¬r+v1<1000000000:=D;have l:G.wrap ((q:Int)-1)=q-1:=EN D D;have m:G.wrap ((r:Int)+v1)=r+v1:=EN D D;have f:G.wrap ((ln v:Int)-1)=ln v-1:=EN D D;have i:((ln v:Int)-1).toNat=ln v-1:=D;rcases a with a|a
  .have R:(r:Int)+v1<1000000000:=D;have T:AQ ((1000000000:Int)<=(r:Int)+v1)=AM:=Bk;go_wp2_with fail
   go_quiet (fail)
   go_wp2_with fail
   go_quiet (fail)
   clear l m f i t x y z C E L N;exact yx
  have R:(1000000000:Int)<=(r:Int)+v1:=D;have T:AQ ((1000000000:Int)<=(r:Int)+v1)=AL:=Bk;go_wp2_with fail
  go_quiet (fail)
  go_wp2_with fail
  go_quiet (fail)
  clear l m f i t x y z C E L N;exact yv
 have al:¬(r:Int)*1000000000+c<(q:Int)*v2:=by
  have:((q*v2:Nat):Int)=(q:Int)*v2:=AV;omega
 have ax:AQ ((r:Int)*1000000000+c<(q:Int)*v2)=AM:=Bk;have J:0<=(ln v:Int)-1:=D;have K:(ln v:Int)-1<ln v:=D;have x6:0<=(ln v:Int)-2:=D;have x7:(ln v:Int)-2<ln v:=D;have x8:0<=(j:Int)+ln v-2:=D;have x9:(j:Int)+ln v-2<ln u:=D;have an:(r:Int)<1000000000:=D;have ak:AQ ((1000000000:Int)<=q)=AM:=Bk;have L:((ln v:Int)-2).toNat=ln v-2:=D;have N:((j:Int)+ln v-2).toNat=j+ln v-2:=D;have t:G.wrap ((ln v:Int)-2)=ln v-2:=EN D D;have x:G.wrap ((j:Int)+ln v)=j+ln v:=EN D D;have y:G.wrap ((j:Int)+ln v-2)=j+ln v-2:=EN D D;have z:G.wrap ((q:Int)*v2)=q*v2:=EN D D;have C:G.wrap ((r:Int)*1000000000)=r*1000000000:=EN D D;have E:G.wrap ((r:Int)*1000000000+c)=r*1000000000+c:=EN D D;go_wp2_with fail
 go_quiet (fail)
 clear t x y z C E L N;go_wp2_with fail
 go_ret;exact⟨q,_,F,H.2.1,D,mQ⟩
def OG:(AO.info? 3).map (λi=>(i.zero,i.size,i.bytes))=Q (Q (M G 0),1,8):=U
theorem wH{l:List Nat}(h:w.ownsRow base 3 1 (AK (Q ⟨g,0,O⟩) n R) n xs)(hn:ln l=n)
  (hx:∀j,j<ln l->xs[j]?=Q (M G (I l j))):Row w g R l:=by
 obtain⟨q,h|⟨g',d,cur,e,m,c,h1,h2,i,k⟩⟩:=h
 .grind
 injection e with a f b
 injection a with a
 injection a with a
 subst a b;refine⟨cur,c,D,D,h2,λj o=> ?_⟩
 grind
theorem a4i{l:List Nat}(h:Row w g R l)(b:base<=g):
  w.ownsRow base 3 1 (AK (Q ⟨g,0,O⟩) (ln l) R) (ln l) (l.map λ(d:Nat)=>Gr .i64 (d:Int)):=by
 obtain⟨cur,c,h1,h2,a,e⟩:=h;refine⟨AV,.inr ⟨g,R,cur,rfl,b,c,h2,a,D,?_⟩⟩;apply List.ext_getElem?;intro j;by_cases f:j<ln l
 .grind [ON]
 grind
theorem Vg(n k:Nat):I (F7 n 0) k=0:=by
 grind [I]
def wB(n:Nat):Small (F7 n 0):=by
 intro d a
 grind
theorem aq(h:w.ownsRow base 3 1 (AK (Q ⟨g,0,O⟩) n n) n (madeCells (Gr .i64 0).cells (n*1)).toList):Row w g n (F7 n 0):=by
 refine wH h AV (λj a=> ?_);simp at a;rw[Vg];simp[madeCells,Value.cells,a,Nat.mod_one]
theorem Lt(l:List Nat):(Bn l).length<=ln l:=by
 have⟨m,hm⟩:=vN l
 grind
theorem kX{l:List Nat}(a:j<(Bn l).length):I (Bn l) j=I l j:=by
 have⟨m,hm⟩:=vN l
 grind [I]
theorem Row.trimmed{l:List Nat}(h:Row w g R l):Row w g R (Bn l):=by
 have e:=Lt l;obtain⟨cur,b,h1,h2,a,c⟩:=h;exact⟨cur,b,h1,D,a,λj d=>by grind [kX]⟩
theorem U9{l:List Nat}(h:Row w g R l)(hn:ln l=n):
  AZ AO 344 #[AK (Q ⟨g,0,O⟩) n R] w λe w'=>e=Ac (AK (Q ⟨g,0,O⟩) (Bn l).length R)/\w=w':=by
 subst hn;have a:=h;obtain⟨cur,f,h1,h2,b,d⟩:=h;exact pf w _ R l h2 b (λ_=>⟨g,0,rfl,λj c=>by rw[IU];exact a.cell c⟩)
def cW(w1:V)(g n:Nat)(a b:List Nat)(i:Nat)(out:List Nat)(w':V):Prop:=
 Row w' g n out/\ln out=n/\Small out/\(∀k,i+ln b<=k->I out k=0)/\S (I out) n=S (I a) i*val b/\EO g w1 w'
def a6g(w1:V)(g n:Nat)(a b:List Nat)(i:AN)(w':V):Prop:=
 ∃(k:Nat) (out:List Nat),k<=ln a/\i=M G k/\cW w1 g n a b k out w'
def b0b(d:V)(g R:Nat)(u v:List Nat)(j q:Nat)(c i:AN)(w':V):Prop:=
 ∃(k a:Nat) (b:List Nat),k<=ln v+1/\i=M G k/\c=M G a/\T1 d g R u v j q k a b w'
theorem a5G{w1 j wr:V}{a b out f:List Nat}(hn:n=ln a+ln b+1)(hi:i<ln a)(v:Small a)(w:Small b)(h:cW w1 g n a b i out j)
  (x:T1 j g n out b i (I a i) (ln b+1) c f wr):cW w1 g n a b (i+1) f wr:=by
 obtain⟨z,F,s,y,E,l⟩:=h;obtain⟨r,G,t,e,d,A,o⟩:=x;have hx:=Du v i;have u:S _ (ln b+1)=val b:=YK D;have q:S (sh (I out) i) (ln b+1)<B^ln b:=by
  rw[GA];have:sh (I out) i (ln b)=0:=y _ D;rw[this,TN];exact PG (λk _=>Du s _)
 rw[u] at d;have C:=a2t d q (WH w) hx;have H:=iK (m:=n) D (λk hk=>e k (.inl hk)) (λk hk _=>e k (.inr hk));refine⟨r,D,t,λk hk=> ?_,?_,l.trans o⟩
 .grind
 rw[GA _]
 grind
def VB(a w:V)(v:AN)(l:List Nat):Prop:=
 ∃g R,v=AK (Q ⟨g,0,O⟩) (ln l) R/\a.1.size<=g/\Row w g R l
def nh(w:V)(a b:List Nat)(e:CI)(w':V):Prop:=
 ∃v l,e=Ac v/\VB w w' v l/\Canon l/\val l=val a*val b/\ln l<=ln a+ln b+1/\At w.1.size w w'
def kE(w:V)(a b:List Nat)(C E:AN)(u:BH w w.1.size C a)(x:BH w w.1.size E b)(z:Small a)(B:Small b)(az:ln a<=1000000)(aA:ln b<=1000000):
  AZ AO 347 #[C,E] w (nh w a b):=by
 obtain⟨aa,ca,rfl,an,ao,v⟩:=id u;obtain⟨A',cb,rfl,ap,ar,au⟩:=id x;have⟨i0,hi,ai,aj,ak⟩:=DM OG;go_enter func347,ntmps347;go_wp2_with(refine Wj _ rfl _ _ 25 rfl w.1.size 3 i0 (M G 0) 1 FD hi ai aj .i64 .i64 _ _ (ln a+ln b+1) rfl rfl D D (by rw[ak];omega) Fp (AS _) ?_;intro w1 ac X)
 have ad:=aq ac;have o:At w.1.size w w1:=(Ad _ w).grown X (AS _) AV;have al:=u.below o;have am:=x.below o;have af:cW w1 w.1.size (ln a+ln b+1) a b 0 (F7 (ln a+ln b+1) 0) w1:=
  ⟨ad,AV,wB _,λ_ _=>Vg _ _,by rw[kL (λk _=>Vg _ k),sB,TN],EO.refl _ _⟩
 go_loopw [20] (λi wr=>a6g w1 w.1.size (ln a+ln b+1) a b i wr) (λi _=>ln a-(B8 i).toNat)
 case atStart=>exact⟨0,_,D,rfl,af⟩
 obtain⟨i,out,hi,rfl,hrel⟩:=hrel;obtain⟨l,rfl⟩:∃l:V,l=wr:=⟨_,F⟩;have⟨d,y,s,hz,T,f⟩:=id hrel;by_cases Z:i<ln a
 .have sa:=f.sl al (AS _);have sb:=f.sl am (AS _);have aD:I a i<1000000000:=Du z i;have R:T1 l w.1.size (ln a+ln b+1) out b i (I a i) 0 0 out l:=⟨d,F,s,λ_ _=>rfl,by simp[S],D,EO.refl _ _⟩;obtain⟨_,_,e,_,_,v⟩:=sa;injection e with n r N
  subst n N;obtain⟨ba,oa,rfl,_,aw⟩:=v D;have H:=A hrel;go_wp2_with fail
  go_loopw [8,28] (λc k wi=>b0b l w.1.size (ln a+ln b+1) out b i (I a i) c k wi) (λ_ k _=>ln b+1-(B8 k).toNat)
  case atStart=>exact⟨0,0,out,D,rfl,rfl,R⟩
  obtain⟨k,c,g,hk,rfl,rfl,m⟩:=hrel;have⟨d,Y,t,ae,U,av,f⟩:=id m;by_cases ay:k<ln b+1
  .have hx:=d.cell (j:=i+k) D;have ax:=d.frozen (i+k);have aC:I g (i+k)<1000000000:=Du t (i+k);have ah:I b k<1000000000:=Du B k;have⟨aB,EZ⟩:=bj (q:=I a i) D ah;have ag:=f.sl sb (AS _);have K:=A m;clear m U ae Y t d f;go_wp2_with fail
   go_quiet ((exact OW (iJ _ w.1.size _ b k ag D)))
   go_wp2;have P:((I a i:Int)*(I b k:Int))=((I a i*I b k:Nat):Int):=AV;rw[P] at EZ⊢;have n:((I g (i+k):Int)+((I a i*I b k:Nat):Int)+c)/1000000000=(((I g (i+k)+I a i*I b k+c)/1000000000:Nat):Int):=D;have r:((I g (i+k):Int)+((I a i*I b k:Nat):Int)+c)%1000000000=(((I g (i+k)+I a i*I b k+c)%1000000000:Nat):Int):=D;rw[n,r];exact⟨⟨k+1,_,_,D,by go_num,rfl,nT nq K D D D D⟩,by grind [B8]⟩
  obtain rfl:k=ln b+1:=D;have ab:=A (a5G F Z z B H m);go_wp2_with fail
  exact⟨⟨i+1,g,D,by go_num,ab⟩,by grind [B8]⟩
 obtain rfl:i=ln a:=D;have W:nh w a b (Ac (AK (Q ⟨w.1.size,0,O⟩) (Bn out).length (ln a+ln b+1))) l:=by
  refine⟨_,Bn out,F,⟨_,_,F,AS _,?_⟩,Sm s,?_,?_,o.trans (f.below (AS _))⟩
  .exact d.trimmed
  .rw[Sn];show S (I out) (ln out)=S (I a) (ln a)*val b;rw[y,T]
  grind [Nat.le_trans,Lt]
 have J:=A W;have L:=A (U9 d y);go_wp2_with(refine L.mono ?_;rintro e w' ⟨rfl,rfl⟩)
 go_ret;exact J
end
section
structure CN(n0:Nat)(W Y:V):Prop where
 os:Y.os=W.os
 tape:Y.tape=W.tape
 output:Y.output=W.output
 size:W.1.size<=Y.1.size
 low:∀b,b<n0->Y.1[b]?=W.1[b]?
 cells:∀(b:Nat) (cs:Array AN) (t:Bb) (m:Nat×Nat),W.1[b]?=Q (Obj.cells cs t m)->Y.1[b]?=Q (Obj.cells cs t m)
theorem CN.Iv(h:At W.1.size W Y)(hn:n0<=W.1.size):CN n0 W Y:=
 ⟨h.os,h.tape,h.output,h.size,λb a=>h.block b D,λb cs t m a=>(h.block b (Ee.1 a).1).trans a⟩
theorem CN.putObj{n0 l:Nat}{o:Obj}(f:Obj)(c:W.1[l]?=Q o)(d:o.isCells=AM)(hn:n0<=l):CN n0 W (W.putObj l f):=
 ⟨rfl,rfl,rfl,AV,λb a=>Wa D,λb cs t m a=>(Wa (λe=>by subst e;rw[a] at c;cases c;cases d)).trans a⟩
theorem CN.trans{aa B C:V}(h:CN n0 aa B)(k:CN n0 B C):CN n0 aa C:=
 ⟨k.os.trans h.os,k.tape.trans h.tape,k.output.trans h.output,BJ h.size k.size,λb a=>(k.low b a).trans (h.low b a),λb cs t m a=>k.cells b cs t m (h.cells b cs t m a)⟩
theorem CN.below(h:CN n0 W Y):At n0 W Y:=⟨h.os,h.tape,h.output,h.size,h.low⟩
theorem CN.cell(h:CN n0 W Y){v:AN}(a:W.cell? p=Q v):Y.cell? p=Q v:=by
 unfold Dx at a⊢;cases b:W.1[p.block]? with
 |none=>rw[b] at a;grind
 |some o=>
  cases o with
  |cells cs t m=>rw[b] at a;rw[h.cells _ _ _ _ b];exact a
  |_=>rw[b] at a;grind
def XT(P:Program)(g:Nat)(lb:Array AN)(X:Nat->Array AN->Prop)(c:V->Prop)(N:Nat):Prop:=
 ∀(m l:Nat) (J b:Nat->V->Prop) (W:V),
  (∀k W1,J k W1->c W1)->(∀k W1 a,J k W1->At W1.1.size W1 a->J k a)->(∀k W1 a,b k W1->At W1.1.size W1 a->b k a)->
  (∀k x W1,k<N->X k x->J k W1->YieldAt Ha (m-1) P l x W1 λe Y=>(e=Ac (AU AL)/\J (k+1) Y)\/(e=Ac (AU AM)/\b k Y))->
  J 0 W->CallsIn Ha m P g (#[.func (.yield l) #[] #[]]++lb) W λe Y=>(∃v,e=Ac v)/\(J N Y\/∃k,k<N/\b k Y)
def Vk(I:Nat->V->Prop)(a:Code->Nat->V->Prop)(k:Nat)(W:V):Exit->BV->V->Prop
 | .normal,_,Y=>GF W Y/\I (k+1) Y
 | .ret,_,Y=>GF W Y/\a .ret k Y
 | .exit b,_,Y=>GF W Y/\a (.exit b) k Y
 | .goto t,_,Y=>GF W Y/\a (.goto t) k Y
 | .panic _,_,_=>False
 | .outgrown,_,_=>False
variable {P : Program}
theorem VJ{g:F0}{S:Array Tmp}{assign body:Code}{ab:Exit->BV->V->Prop}{a:BV}
  (hg:a.eval g= .func (.func gf) #[] lb)(eg:∀args w,(callFunc gf args).run P w= .ok (.enter gf args) w)
  {X:Nat->Array AN->Prop}{ac:V->Prop}(ar:XT P gf lb X ac N)(av:∀k x,X k x->x.size=S.size)
  (I:Nat->V->Prop)(z:Code->Nat->V->Prop)(H:∀k W Y,I k W->CN w.1.size W Y->I k Y)(A:∀c k W Y,z c k W->CN w.1.size W Y->z c k Y)
  (hM:∀k W,I k W->ac W)(h0:I 0 w)
  (aq:∀(l k:Nat) (x:Array AN) (W:V) (K:BV->V->Prop),k<N->X k x->I k W->
   (∀a' W1,At W.1.size W W1->(∀d,CN w.1.size W1 d->w.1.size<d.1.size->body.wpIn (Ha.inRound l) (n-1-1) P (Vk I z k d) a' d)->K a' W1)->
   assign.wpIn (Ha.inRound l) (n-1-1) P (Exit.then K (λ_ _ _=>False)) {tmps:=(S.zip x).foldl (λt (p,v)=>t.setIfInBounds p v) a.tmps,defers:=[]} W)
  (al:∀(J:Nat) (W:V),w.1.size<=J->I N W->W.1[J]?=Q (.deferred (Q []))->ab .normal {a with defers:={target:= .collected J,args:=#[]}::a.defers} W)
  (au:∀(J:Nat) (c:Code) (k:Nat) (W:V),w.1.size<=J->k<N->z c k W->W.1[J]?=Q (.deferred (Q []))->c.wpIn Ha n P ab {a with defers:={target:= .collected J,args:=#[]}::a.defers} W):
  (Code.rangeFunc g S assign body).wpIn Ha n P ab a w:=by
 refine wpIn_rangeFunc ?_;intro fn am;obtain⟨R,B⟩:∃R:LoopState->Option Code->Loop,R=λst Z=>{state:=st,pending:=Z,fn,tmps:=a.tmps,params:=S,assign,body,defers:=w.1.size}:=⟨_,F⟩
 obtain⟨W1,U⟩:=AP ((w.alloc (.deferred (Q []))).alloc (.loop (R .ready O)));have hL:=by
  have:=Bq (w.alloc (.deferred (Q []))) (.loop (R .ready O));rwa[D5,U] at this
 have hD:W1.1[w.1.size]?=Q (.deferred (Q [])):=by
  grind [Below.heap_alloc,World.alloc_heap_new]
 have ai:At w.1.size w W1:=by rw[<-U];exact((Ad _ w).alloc (AS _) _).alloc AV _
 have ah:=H 0 _ _ h0 (CN.Iv ai (AS _));refine⟨w.1.size+1,[{target:= .collected w.1.size,args:=#[]}],W1,{target:= .fn (.func gf) lb,args:=#[.func (.yield (w.1.size+1)) #[] #[]]},W1,gf,
  #[.func (.yield (w.1.size+1)) #[] #[]]++lb,W1,?_,?_,?_,?_,?_,?_⟩
 .rw[<-U,B];exact run_enterLoop_outer _ _ _ _ _
 .simp[resolve,hg];simp[go_sem]
 .intro _ _;trivial
 .simp[invoke,eg]
 .intro h;cases h
 have T:∀{aa C:V} {st:LoopState} {Z:Option Code},aa.1[w.1.size+1]?=Q (.loop (R st Z))->At _ aa C->C.1[w.1.size+1]?=Q _:=
  λh f=>(f.block _ (Ee.1 h).1).trans h
 have ad:∀{aa C:V},aa.1[w.1.size]?=Q (.deferred (Q []))->At _ aa C->C.1[w.1.size]?=Q _:=
  λh f=>(f.block _ (Ee.1 h).1).trans h
 refine(ar _ _
  (λk W=>I k W/\W.1[w.1.size+1]?=Q _/\W.1[w.1.size]?=Q _)
  (λk W=>∃c,z c k W/\W.1[w.1.size+1]?=Q (.loop (R .done (Q c)))/\W.1[w.1.size]?=Q _)
  W1 (λk W h=>hM k W h.1)
  (λk aa C h f=>⟨H k _ _ h.1 (CN.Iv f Al),T h.2.1 f,ad h.2.2 f⟩)
  (λk aa C h f=>by
   obtain⟨c,h1,h2,h3⟩:=h;exact⟨c,A c k _ _ h1 (CN.Iv f Al),T h2 f,ad h3 f⟩)
  ?_ ⟨ah,hL,hD⟩).mono ?_
 .rintro k x W hk hx ⟨hi,m,L⟩;have hy:=run_yield (P:=P) (args:=x) m Al;rw[B] at hy;refine⟨fn,_,assign,body,hy,roundIn_of_wpIn am (aq _ k x W _ hk hx hi λa' V1 ae aj=>⟨_,run_beginRound (T m ae) (by rw[B]),?_⟩)⟩;have ap:=T m ae;obtain⟨d,af⟩:=AP (V1.putObj (w.1.size+1) (.loop {R .ready O with state:= .busy}));rw[af];have ao:d.1[w.1.size+1]?=Q (.loop {R .ready O with state:= .busy}):=by grind [World.putObj_heap_same]
  have ak:d.1[w.1.size]?=Q (.deferred (Q [])):=by grind [World.putObj_heap_other]
  have an:CN w.1.size V1 d:=by rw[<-af];exact CN.putObj _ ap F D
  refine wpIn_mono (aj d an Al) ?_;have fin:∀(E:Option Code) (j:V),GF d j->∃o,(Instr.endRound _ E).run P j= .ok _ o/\CN w.1.size j o/\
    o.1[w.1.size+1]?=Q (.loop (R (if E.isNone then .ready else .done) E))/\o.1[w.1.size]?=Q _:=λE j i=>by
   have ag:=i.same _ _ ao F;have b:=run_endRound (P:=P) E ag;refine⟨_,b,CN.putObj _ ag F D,?_,(Wa D).trans (i.same _ _ ak F)⟩
   grind [World.putObj_heap_same]
  rintro e a3 j y;cases e with
  |normal=>
   obtain⟨i,r⟩:=y;obtain⟨o,b,u,s,q⟩:=fin O j i;exact⟨_,_,b,.inl ⟨F,H _ _ _ r u,s,q⟩⟩
  |ret=>
   obtain⟨i,r⟩:=y;obtain⟨o,b,u,s,q⟩:=fin _ j i;exact⟨_,_,b,.inr ⟨F,.ret,A _ _ _ _ r u,s,q⟩⟩
  |exit id=>
   obtain⟨i,r⟩:=y;obtain⟨o,b,u,s,q⟩:=fin _ j i;exact⟨_,_,b,.inr ⟨F,.exit id,A _ _ _ _ r u,s,q⟩⟩
  |goto t=>
   obtain⟨i,r⟩:=y;obtain⟨o,b,u,s,q⟩:=fin _ j i;exact⟨_,_,b,.inr ⟨F,.goto t,A _ _ _ _ r u,s,q⟩⟩
  |panic ch=>exact y.elim
  |outgrown=>exact y.elim
 rintro e d ⟨⟨v,rfl⟩,(⟨hi,m,L⟩|⟨k,hk,c,hi,m,L⟩)⟩
 .have b:=run_endLoop (P:=P) m Al;exact⟨O,_,by rw[b,B],al _ _ (AS _) (H _ _ _ hi (CN.putObj _ m rfl D)) ((Wa D).trans L)⟩
 have b:=run_endLoop (P:=P) m Al;exact⟨Q c,_,by rw[b,B],au _ c k _ (AS _) hk (A _ _ _ _ hi (CN.putObj _ m rfl D)) ((Wa D).trans L)⟩
theorem VM{g:F0}{e:Array Tmp}{assign body:Code}{ab:Exit->BV->V->Prop}{a:BV}
  (u:a.eval g= .func (.func gf) #[] lb)(j:∀args w,(callFunc gf args).run P w= .ok (.enter gf args) w)
  {X:Nat->Array AN->Prop}{f:V->Prop}(C:XT P gf lb X f N)(z:∀k x,X k x->x.size=e.size)
  (I:Nat->V->Prop)(d:Code->Nat->V->Prop)(i:∀k W Y,I k W->CN w.1.size W Y->I k Y)(o:∀c k W Y,d c k W->CN w.1.size W Y->d c k Y)
  (q:∀k W,I k W->f W)(m:I 0 w)
  (A:∀(l k:Nat) (x:Array AN) (W:V) (K:BV->V->Prop),k<N->X k x->I k W->
   (∀a',(∀b,I k b->w.1.size<b.1.size->body.wpIn (Ha.inRound l) (n-1-1) P (Vk I d k b) a' b)->K a' W)->
   assign.wpIn (Ha.inRound l) (n-1-1) P (Exit.then K (λ_ _ _=>False)) {tmps:=(e.zip x).foldl (λt (p,v)=>t.setIfInBounds p v) a.tmps,defers:=[]} W)
  (s:∀(J:Nat) (W:V),w.1.size<=J->I N W->W.1[J]?=Q (.deferred (Q []))->ab .normal {a with defers:={target:= .collected J,args:=#[]}::a.defers} W)
  (D:∀(J:Nat) (c:Code) (k:Nat) (W:V),w.1.size<=J->k<N->d c k W->W.1[J]?=Q (.deferred (Q []))->c.wpIn Ha n P ab {a with defers:={target:= .collected J,args:=#[]}::a.defers} W):
  (Code.rangeFunc g e assign body).wpIn Ha n P ab a w:=
 VJ u j C z I d i o q m (λl k x W K hk hx hi h=>A l k x W K hk hx hi λa' r=>h a' W (Ad _ _) λb B y=>r b (i _ _ _ hi B) y) s D
end
section
def Pv(ops:Array Oper):Bool:=ops.all λo=>match o.op with| .defer _=>AM|_=>AL
theorem jH{ops:Array Oper}(h:Pv ops=AL){o:Oper}(hi:ops[i]?=Q o)(c:Call):o.op≠ .defer c:=by
 unfold Pv at h
 grind
variable {P : Program} {ab : Exit → BV → V → Prop}
theorem ve{row:String}{R:AN->V->Prop}(h:Rows P row args w R):RowsIn Ha n P row args w R:=
 λc cs _=>let⟨v,w',r,s⟩:=h c cs;⟨v,w',r,stepsIn_wide.2 s⟩
theorem Oper.qI{l n:Nat}{o:Oper}{a:BV}{K:BV->V->Prop}(b:∀c,o.op≠ .defer c)(h:o.wp P a w K ab):o.wpIn (Ha.inRound l) n P a w K ab:=by
 refine⟨λ_ _=>trivial,?_⟩;show Oper.uponIn _ _ _ _ _ _ _ ((o.semAt (Q l) _).run P w);rw[Oper.semAt_some l _ o b];unfold Oper.wp at h;generalize(execOp _ o).run P w=r at *;cases r with
 |ok x w'=>
  cases x with
  |value v=>exact h
  |skip=>exact h
  |defer d=>exact h
  |enter f args=>exact⟨λh=>Aq,LN l (De.2 h)⟩
  |row row args=>exact⟨λh=>Aq,ve h⟩
  |_=>exact h.elim
 |halt x w'=>
  cases x with
  |panic v=>exact h
  |_=>exact h.elim
def VK{l n:Nat}{md:Region.Mode}{ops:Array Oper}(d:Pv ops=AL)(e:¬LetsOut ab):
  ∀(b:Nat) (ac:Array Bool) (a:BV) (w:V),wpAny P md ops ab b ac a w->wpAnyIn (Ha.inRound l) n P md ops ab b ac a w
 |0,_,_,_,h=>h
 |b+1,ac,a,w,h=>by
  refine⟨h.1,λi hi=> ?_⟩;have h2:=h.2 i hi;unfold wpOp at h2;unfold wpOpIn;cases f:ops[i]? with
  |none=>rw[f] at h2;exact VK d e b _ _ _ h2
  |some o=>
   rw[f] at h2;simp at h2⊢;split
   .rename_i hw;rw[Aj hw] at h2;rcases h2 with h2|⟨_,h2⟩
    .exact Oper.qI (λc=>jH d f c) (Oper.wp_mono (λa' w' g=>VK d e b _ _ _ g) h2)
    grind
   rename_i hw;rw[Af hw] at h2;exact⟨λ_ _=>trivial,VK d e b _ _ _ h2⟩
def bD(R:BV->V->Prop):Exit->BV->V->Prop
 | .normal,a,w=>R a w
 |_,_,_=>False
theorem Tx{R:BV->V->Prop}{a:BV}(h:R a w):bD R .normal a w:=h
theorem a4P{c:Code}{a:BV}(h:c.wp P (bD (ab .normal)) a w):c.wpIn Ha n P ab a w:=
 wpIn_wide.2 (wp_mono h λe _ _ h=>by cases e<;>first|exact h|exact h.elim)
end
section
variable {P : Program} {ops : Array Oper} {ab : Exit → BV → V → Prop} {md : Region.Mode}
abbrev Ext(w w':V):Prop:=At w.1.size w w'
theorem Ext.size(h:Ext w w'):w.1.size<=w'.1.size:=R9 h
def JS(ac:Array Bool):Nat->Nat
 |0=>0
 |n+1=>JS ac n+if ac.getD n AM=AL then 0 else 1
theorem Yc(h:JS ac n=0):∀i,i<n->ac.getD i AM=AL:=by
 induction n with
 |zero=>omega
 |succ n a=>
  rw[JS] at h
  grind
theorem dY(h:JS ac n=m+1):∃i,i<n/\ac.getD i AM=AM/\∀j,j<i->ac.getD j AM=AL:=by
 induction n generalizing m with
 |zero=>grind [JS]
 |succ n a=>
  rw[JS] at h;by_cases b:JS ac n=0
  .grind [Yc]
  have⟨i,hi,h1,h2⟩:=a (m:=JS ac n-1) D
  grind
theorem vu(hi:i<n)(c:n<=ac.size)(b:ac.getD i AM=AM)(h:JS ac n=m+1):JS (ac.setIfInBounds i AL) n=m:=by
 have key:∀n,n<=ac.size->JS (ac.setIfInBounds i AL) n+(if i<n then 1 else 0)=JS ac n:=by
  intro n
  induction n with
  |zero=>grind [JS]
  |succ n d=>
   rw[JS,JS];by_cases a:i=n
   .have e:(ac.setIfInBounds i AL).getD i AM=AL:=by simp[show i<ac.size by omega]
    grind
   rw[Wh AM a]
   grind
 grind
structure xR(n:Nat)(J:V->Prop)(a:Nat->AN->V->Prop)(fr:Nat->Bool)(ac:Array Bool)(C:Nat->AN)(w:V):Prop where
 d:J w
 v:∀i,i<n->ac.getD i AM=AL->a i (C i) w
 ne:∀i j,i<n->j<n->i≠j->fr i=AL->fr j=AL->ac.getD i AM=AL->ac.getD j AM=AL->C i≠C j
def Xh(ops:Array Oper)(n:Nat):Bool:=(G8 n).all λi=>((ops[i]?).map λo=>o.after.all λe=>AQ (e.on<i)).getD AM
theorem jF{o:Oper}(h:Xh ops n=AL)(hi:i<n)(a:ops[i]?=Q o):∀e∈o.after,e.on<i:=by
 exact yh
theorem a4R{tl:List Oper}(y:(Nat->AN)->BV)(J:V->Prop)(m:Nat->AN->V->Prop)(fr:Nat->Bool)
  (A:Region.sinkB md ops n=AL)(z:Region.chainB md ops n=AL)(hn:n<ops.size)
  (X:Region.seqB md ops (ops.size-n) n (E7 n AL++E7 (ops.size-n) AM)=AL)(x:Xh ops n=AL)
  (S:ln tl=ops.size-n)(T:∀j,tl[j]?=ops[n+j]?)
  (I:∀w w',J w->Ext w w'->J w')(L:∀i v w w',m i v w->Ext w w'->m i v w')
  (H:∀i v w,i<n->fr i=AL->m i v w->∃b,v=Ap (Q ⟨b,0,O⟩)/\b<w.1.size)
  (step:∀i o C w,i<n->ops[i]?=Q o->J w->(∀e∈o.after,Region.binds md e=AL->m e.on (C e.on) w)->
   wpOp P ops ab i (λa' w'=>∃v,a'=y (λj=>if j=i then v else C j)/\Ext w w'/\m i v w'/\(fr i=AL->∃b,v=Ap (Q ⟨b,0,O⟩)/\w.1.size<=b)) (y C) w)
  (tail:∀C w,J w->(∀i,i<n->m i (C i) w)->(∀i j,i<n->j<n->i≠j->fr i=AL->fr j=AL->C i≠C j)->CQ P ops ab tl (y C) w):
  ∀(f:Nat) (ac:Array Bool) (C:Nat->AN) (w:V),HeadInv md ops n ac->JS ac n=f->xR n J m fr ac C w->wpAny P md ops ab (f+(ops.size-n)) ac (y C) w:=by
 intro f
 induction f with
 |zero=>
  intro ac C w a hu c;have q:=Yc hu;have d:ac=E7 n AL++E7 (ops.size-n) AM:=by
   exact fI
  rw[IU,<-S];refine wpAny_of_seq tl n ac _ w T Al ?_;exact yk
 |succ f R=>
  intro ac C w a hu c;have⟨g,s,u,E⟩:=dY hu;have t:g<ac.size:=Wz;rw[show f+1+(ops.size-n)=(f+(ops.size-n))+1 by omega];refine⟨λW=> ?_,λi hi=> ?_⟩
  .exact mS
  have r:i<n:=by
   exact fH
  have⟨U,o,l,K⟩:=Ww.1 hi;have N:=getD_both U;refine wpOp_mono ?_ (step i o C w r l c.d (λe d B=>c.v _ (by have:=jF x r l e d;omega) (K e d B)));exact yj
def TB:Exit->BV->V->Prop:=λ_ _ _=>False
theorem tM:¬LetsOut TB:=λ⟨_,_,h⟩=>h
theorem Oper.uG{o:Oper}{a:BV}{K:BV->V->Prop}(h:o.wp P a w K TB):o.wp P a w K ab:=by
 unfold Oper.wp at *;generalize(execOp _ o).run P w=r at *;cases r with
 |ok x w'=>
  cases x with
  |value v=>exact h
  |skip=>exact h
  |defer d=>exact h
  |enter f args=>exact Calls.mono h (λe c b=>by cases e<;>first|exact b|exact absurd b tM|exact b.elim)
  |row row args=>exact h
  |_=>exact h.elim
 |halt x w'=>
  cases x with
  |panic v=>exact h.elim
  |_=>exact h.elim
structure Ow(P:Program)(b:Fence)(mm:Nat):Prop where
 op:∀(o:Oper) (a:BV) (w:V) (K:BV->V->Prop) (ab:Exit->BV->V->Prop),(∀c,o.op≠ .defer c)->o.wp P a w K ab->o.wpIn b mm P a w K ab
 fn:∀f,b.fn f
def NR(l mm:Nat):Ow P (Ha.inRound l) mm:=⟨λ_ _ _ _ _ a h=>Oper.qI a h,λ_=>trivial⟩
def a2k(mm:Nat):Ow P Ha mm:=by
 refine⟨λo a w K ab b h=>⟨λ_ _=>trivial,?_⟩,λ_=>trivial⟩;show Oper.uponIn _ _ _ _ _ _ _ ((o.semAt O _).run P w);unfold Oper.wp at h;have e:o.semAt O a.eval=execOp _ o:=rfl;rw[e];generalize(execOp _ o).run P w=r at *;cases r with
 |ok x w'=>
  cases x with
  |value v=>exact h
  |skip=>exact h
  |defer d=>exact h
  |enter f args=>exact⟨λh=>Aq,De.2 h⟩
  |row row args=>exact⟨λh=>Aq,ve h⟩
  |_=>exact h.elim
 |halt x w'=>
  cases x with
  |panic v=>exact h
  |_=>exact h.elim
theorem vf{b:Fence}(d:Ow P b mm)(g:Pv ops=AL){K:BV->V->Prop}{a:BV}(h:wpOp P ops TB i K a w):wpOpIn b mm P ops ab i K a w:=by
 unfold wpOp at h;unfold wpOpIn;cases e:ops[i]? with
 |none=>grind
 |some o=>
  rw[e] at h;simp at h⊢;split
  .rename_i hw;rw[Aj hw] at h;rcases h with h|⟨_,h⟩
   .exact d.op o a w K ab (λc=>jH g e c) (Oper.uG h)
   grind [tM]
  rename_i hw;rw[Af hw] at h;exact⟨λf _=>d.fn f,h⟩
theorem j9{b:Fence}(g:Ow P b mm):∀(l:List Oper) (k:Nat) (ac:Array Bool) (a:BV) (w:V),(∀j,l[j]?=ops[k+j]?)->
  Region.seqB md ops (ln l) k ac=AL->wpListIn b mm P ops ab l a w->wpAnyIn b mm P md ops ab (ln l) ac a w
 |[],_,_,_,_,_,c,h=>⟨by grind [Region.seqB],h⟩
 |o::l,k,ac,a,w,d,c,h=>by
  have f:=by simpa using(d 0).symm
  simp[FX,Region.seqB,Ez] at c;refine⟨λh1=>Al,λi hi=> ?_⟩;have m:i=k:=Al;subst m;have hw:wpOpIn b mm P ops ab i (wpListIn b mm P ops ab l) a w:=by unfold wpOpIn;simp[f];exact h
  exact wpOpIn_mono (λa' w' e=>j9 g l _ _ a' w' (λj=>by have:=d (j+1);grind) c.2 e) hw
theorem a1h{B:Fence}(K:Ow P B mm)(U:Pv ops=AL){tl:List Oper}(y:(Nat->AN)->BV)(J:V->Prop)(m:Nat->AN->V->Prop)(fr:Nat->Bool)
  (A:Region.sinkB md ops n=AL)(z:Region.chainB md ops n=AL)(hn:n<ops.size)
  (aa:Region.seqB md ops (ops.size-n) n (E7 n AL++E7 (ops.size-n) AM)=AL)(x:Xh ops n=AL)
  (W:ln tl=ops.size-n)(X:∀j,tl[j]?=ops[n+j]?)
  (I:∀w w',J w->Ext w w'->J w')(L:∀i v w w',m i v w->Ext w w'->m i v w')
  (H:∀i v w,i<n->fr i=AL->m i v w->∃b,v=Ap (Q ⟨b,0,O⟩)/\b<w.1.size)
  (step:∀i o C w,i<n->ops[i]?=Q o->J w->(∀e∈o.after,Region.binds md e=AL->m e.on (C e.on) w)->
   wpOp P ops TB i (λa' w'=>∃v,a'=y (λj=>if j=i then v else C j)/\Ext w w'/\m i v w'/\(fr i=AL->∃b,v=Ap (Q ⟨b,0,O⟩)/\w.1.size<=b)) (y C) w)
  (tail:∀C w,J w->(∀i,i<n->m i (C i) w)->(∀i j,i<n->j<n->i≠j->fr i=AL->fr j=AL->C i≠C j)->wpListIn B mm P ops ab tl (y C) w):
  ∀(f:Nat) (ac:Array Bool) (C:Nat->AN) (w:V),HeadInv md ops n ac->JS ac n=f->xR n J m fr ac C w->wpAnyIn B mm P md ops ab (f+(ops.size-n)) ac (y C) w:=by
 intro f
 induction f with
 |zero=>
  intro ac C w a hu c;have q:=Yc hu;have d:ac=E7 n AL++E7 (ops.size-n) AM:=by
   exact fI
  rw[IU,<-W];refine j9 K tl n ac _ w X Al ?_;exact yk
 |succ f R=>
  intro ac C w a hu c;have⟨g,s,u,E⟩:=dY hu;have t:g<ac.size:=Wz;rw[show f+1+(ops.size-n)=(f+(ops.size-n))+1 by omega];refine⟨λZ=> ?_,λi hi=> ?_⟩
  .exact mS
  have r:i<n:=by
   exact fH
  have⟨Y,o,l,T⟩:=Ww.1 hi;have N:=getD_both Y;refine wpOpIn_mono ?_ (vf K U (step i o C w r l c.d (λe d S=>c.v _ (by have:=jF x r l e d;omega) (T e d S))));exact yj
def cT(m n:Nat):JS (E7 m AM) n=n:=by
 induction n with
 |zero=>rfl
 |succ n a=>grind [JS,getD_replicate_false]
def SX(ops:Array Oper)(n:Nat):Bool:=
 AQ (n<ops.size)&&Region.sinkB .any ops n&&Region.chainB .any ops n&&Region.seqB .any ops (ops.size-n) n (E7 n AL++E7 (ops.size-n) AM)&&Xh ops n
def VV{l:List Oper}(n:Nat)(c:(Nat->AN)->BV)(J:V->Prop)(a:Nat->AN->V->Prop)(fr:Nat->Bool)(d:SX l.toArray n=AL)
  (k:∀w w',J w->Ext w w'->J w')(m:∀i v w w',a i v w->Ext w w'->a i v w')
  (s:∀i v w,i<n->fr i=AL->a i v w->∃b,v=Ap (Q ⟨b,0,O⟩)/\b<w.1.size)
  (step:∀i C w,i<n->J w->(∀j,Region.waitsFor .any l.toArray i j=AL->a j (C j) w)->
   wpOp P l.toArray ab i (λa' w'=>∃v,a'=c (λj=>if j=i then v else C j)/\Ext w w'/\a i v w'/\(fr i=AL->∃b,v=Ap (Q ⟨b,0,O⟩)/\w.1.size<=b)) (c C) w)
  (tail:∀C w,J w->(∀i,i<n->a i (C i) w)->(∀i j,i<n->j<n->i≠j->fr i=AL->fr j=AL->C i≠C j)->CQ P l.toArray ab (l.drop n) (c C) w)
  (C:Nat->AN)(w:V)(g:J w):wpAny P .any l.toArray ab l.toArray.size (E7 l.toArray.size AM) (c C) w:=by
 simp[SX,Ez,Cx] at d;obtain⟨⟨⟨⟨hn,y⟩,q⟩,z⟩,x⟩:=d;have:=a4R c J a fr y q hn z x AV (λj=>Al) k m s
  (λi o C w hi F r D=>step i C w hi r (λj u=>by
   obtain⟨A,G,e,E,B,rfl⟩:=dx u
   grind)) tail n (E7 l.toArray.size AM) C w
  ⟨AV,λj A _ f=>Ut,λt _ H=>Uo Al (Uc _ _)⟩ (cT _ _)
  ⟨g,λi _ f=>Ut,λi j _ _ _ _ _ f=>Ut⟩
 grind
def Mx:List Oper->Nat->Nat->(Nat->AN)->BV->BV
 |o::l,n+1,i,C,a=>Mx l n (i+1) C (a.put o.dst (C i))
 |_,_,_,_,a=>a
def a74(a:BV)(d:Option Tmp):∃v,a.put d v=a:=by
 cases d with
 |none=>exact⟨Ba,F⟩
 |some d=>
  refine⟨a.tmps.getD d Ba,?_⟩;simp only[G7]
  congr 1
  apply eO;intro k;by_cases h:d=k
  .subst h;by_cases hk:d<a.tmps.size<;>simp[hk]
  rw[yJ h]
def YM(a:BV):∀(l:List Oper) (n i:Nat),∃C,Mx l n i C a=a
 |[],n,i=>⟨λ_=>Ba,by cases n<;>rfl⟩
 |o::l,0,i=>⟨λ_=>Ba,rfl⟩
 |o::l,n+1,i=>by
  have⟨v,c⟩:=a74 a o.dst;have⟨C,h⟩:=YM a l n (i+1);refine⟨λj=>if j=i then v else C j,?_⟩;show Mx l n (i+1) _ (a.put o.dst (if i=i then v else C i))=a;rw[Aj rfl,c];have e:∀(l:List Oper) n k b,i<k->Mx l n k (λj=>if j=i then v else C j) b=Mx l n k C b:=by
   intro l
   induction l with
   |nil=>intro n k b _;cases n<;>rfl
   |cons o l d=>
    intro n k b hk;cases n with
    |zero=>rfl
    |succ n=>
     show Mx l n (k+1) _ (b.put o.dst (if k=i then v else C k))=Mx l n (k+1) C (b.put o.dst (C k));rw[Af D,d n (k+1) _ D]
  rw[e l n (i+1) a D];exact h
def Pq{l:List Oper}(n:Nat){a:BV}{d:(Nat->AN)->BV}(J:V->Prop)(c:Nat->AN->V->Prop)(fr:Nat->Bool)(f:SX l.toArray n=AL)
  (g:∀w w',J w->Ext w w'->J w')(m:∀i v w w',c i v w->Ext w w'->c i v w')
  (o:∀i v w,i<n->fr i=AL->c i v w->∃b,v=Ap (Q ⟨b,0,O⟩)/\b<w.1.size)
  (step:∀i C w,i<n->J w->(∀j,Region.waitsFor .any l.toArray i j=AL->c j (C j) w)->
   wpOp P l.toArray ab i (λa' w'=>∃v,a'=d (λj=>if j=i then v else C j)/\Ext w w'/\c i v w'/\(fr i=AL->∃b,v=Ap (Q ⟨b,0,O⟩)/\w.1.size<=b)) (d C) w)
  (tail:∀C w,J w->(∀i,i<n->c i (C i) w)->(∀i j,i<n->j<n->i≠j->fr i=AL->fr j=AL->C i≠C j)->CQ P l.toArray ab (l.drop n) (d C) w)
  (w:V)(e:J w)(k:∀C,Mx l n 0 C a=d C:=by intro C;simp only[Mx,G7];go_simp;rfl):wpAny P .any l.toArray ab l.toArray.size (E7 l.toArray.size AM) a w:=by
 have⟨C,h⟩:=YM a l n 0;have:=VV n d J c fr f g m o step tail C w e;rwa[<-k,h] at this
theorem a0q{f:Fence}(q:Ow P f mm){l:List Oper}(E:Pv l.toArray=AL)(n:Nat)(d:(Nat->AN)->BV)(J:V->Prop)(c:Nat->AN->V->Prop)(fr:Nat->Bool)(g:SX l.toArray n=AL)
  (m:∀w w',J w->Ext w w'->J w')(r:∀i v w w',c i v w->Ext w w'->c i v w')
  (A:∀i v w,i<n->fr i=AL->c i v w->∃b,v=Ap (Q ⟨b,0,O⟩)/\b<w.1.size)
  (step:∀i C w,i<n->J w->(∀j,Region.waitsFor .any l.toArray i j=AL->c j (C j) w)->
   wpOp P l.toArray TB i (λa' w'=>∃v,a'=d (λj=>if j=i then v else C j)/\Ext w w'/\c i v w'/\(fr i=AL->∃b,v=Ap (Q ⟨b,0,O⟩)/\w.1.size<=b)) (d C) w)
  (tail:∀C w,J w->(∀i,i<n->c i (C i) w)->(∀i j,i<n->j<n->i≠j->fr i=AL->fr j=AL->C i≠C j)->wpListIn f mm P l.toArray ab (l.drop n) (d C) w)
  (C:Nat->AN)(w:V)(k:J w):wpAnyIn f mm P .any l.toArray ab l.toArray.size (E7 l.toArray.size AM) (d C) w:=by
 simp only[SX,Ez,Cx] at g;obtain⟨⟨⟨⟨hn,H⟩,u⟩,I⟩,D⟩:=g;have:=a1h q E (tl:=l.drop n) d J c fr H u hn I D AV (λj=>by simp[Z8]) m r A
  (λi o C w hi F x y=>step i C w hi x (λj B=>by
   obtain⟨L,G,e,z,s,rfl⟩:=dx B;obtain rfl:=Kr (F.symm.trans G);exact y e z s)) tail n (E7 l.toArray.size AM) C w
  ⟨AV,λj L _ a=>(by rw[Uc] at a;cases a),λt _ K=>Uo (by simpa using K) (Uc _ _)⟩ (cT _ _)
  ⟨k,λi _ a=>(by rw[Uc] at a;cases a),λi j _ _ _ _ _ a=>(by rw[Uc] at a;cases a)⟩
 rwa[show n+(l.toArray.size-n)=l.toArray.size by omega] at this
theorem vF{d:Fence}(b:Ow P d mm){R:BV->V->Prop}(i:Pv ops=AL):∀(l:List Oper) (k:Nat) (a:BV) (w:V),(∀j,j<ln l->l[j]?=ops[k+j]?)->CQ P ops (bD R) l a w->wpListIn d mm P ops (Exit.then R (λ_ _ _=>False)) l a w
 |[],_,_,_,_,h=>h
 |o::l,k,a,w,g,h=>by
  have n:=by simpa using(g 0 AV).symm
  have m:=λa w=>vF b i l (k+1) a w (R:=R) (λj s=>by have:=g (j+1) Al;grind)
  unfold CQ at h;unfold wpListIn;split
  .rename_i hw;rw[Aj hw] at h;rcases h with h|⟨_,_,_,h⟩
   .refine b.op o a w _ _ (λc=>jH i n c) ?_;refine Oper.uG (Oper.wp_mono m ?_);unfold Oper.wp at *;generalize(execOp _ o).run P w=r at *;cases r with
    |ok x w'=>
     cases x with
     |enter f args=>exact Calls.mono h (λe t q=>by cases e<;>first|exact q)
     |_=>exact h
    |halt x w'=>
     cases x with
     |panic v=>exact h.elim
     |_=>exact h.elim
   exact h.elim
  rename_i hw;rw[Af hw] at h;exact⟨λf _=>b.fn f,m _ _ h⟩
theorem VG{b:Fence}(c:Ow P b mm){f:Nat}{l:List Oper}{a:BV}(d:Pv l.toArray=AL)(h:CQ P l.toArray (bD (ab .normal)) l a w):(Code.region f l.toArray AM).wpIn b mm P ab a w:=
 wpIn_mono (wpIn_region_lit (vF c d l 0 a w (λj _=>AV) h)) (λe a w q=>by cases e<;>first|exact q|exact q.elim)
theorem Xp{b:Fence}(e:Ow P b mm){rest:List Oper}{o:Oper}{a:BV}(j:o.guard=O)(ty:Bb)(x:F0)(k:o.op= .load ty x)
  (g:Nat)(hx:a.eval x=Ap (Q ⟨g,0,O⟩))(t:Bb)(cs:Array AN)(fr:Nat×Nat)(d:TypeDesc)(i:w.1[g]?=Q (.cells cs t fr))
  (hu:P.underlying ty=Q d)(f:(match d with| .struct _| .array _ _=>AL|_=>AM)=AL)(hi:(P.info? ty).map (·.size)=Q cs.size)
  (h:wpListIn b mm P ops ab rest (a.put o.dst (AW cs)) w):wpListIn b mm P ops ab (o::rest) a w:=
 wpListIn_plain j λ_ c=>e.op _ _ _ _ _ Al (NA ty x k g hx t cs fr d i hu f hi (c _ _ h))
theorem YB{o:Oper}{a:BV}{K:BV->V->Prop}(c:ops[i]?=Q o)(b:o.guard=O)(h:o.wp P a w K ab):wpOp P ops ab i K a w:=by
 unfold wpOp;simp[Ir]
 grind
theorem Ext.B9(w:V):Ext w w:=Ad _ _
theorem Ext.tr{a b c:V}(h:Ext a b)(k:Ext b c):Ext a c:=h.trans (k.mono h.size)
theorem Ext.dr(w:V):Ext w w.drew:=(Ad _ _).drew
theorem jD{e:Fence}(o:Ow P e mm){l:List Oper}(r:Pv l.toArray=AL)(n:Nat){a:BV}{d:(Nat->AN)->BV}(J:V->Prop)(c:Nat->AN->V->Prop)(fr:Nat->Bool)(g:SX l.toArray n=AL)
  (k:∀w w',J w->Ext w w'->J w')(p:∀i v w w',c i v w->Ext w w'->c i v w')
  (q:∀i v w,i<n->fr i=AL->c i v w->∃b,v=Ap (Q ⟨b,0,O⟩)/\b<w.1.size)
  (step:∀i C w,i<n->J w->(∀j,Region.waitsFor .any l.toArray i j=AL->c j (C j) w)->
   wpOp P l.toArray TB i (λa' w'=>∃v,a'=d (λj=>if j=i then v else C j)/\Ext w w'/\c i v w'/\(fr i=AL->∃b,v=Ap (Q ⟨b,0,O⟩)/\w.1.size<=b)) (d C) w)
  (tail:∀C w,J w->(∀i,i<n->c i (C i) w)->(∀i j,i<n->j<n->i≠j->fr i=AL->fr j=AL->C i≠C j)->wpListIn e mm P l.toArray ab (l.drop n) (d C) w)
  (w:V)(f:J w)(m:∀C,Mx l n 0 C a=d C:=by intro C;simp only[Mx,G7];go_simp;rfl):wpAnyIn e mm P .any l.toArray ab l.toArray.size (E7 l.toArray.size AM) a w:=by
 have⟨C,h⟩:=YM a l n 0;have:=a0q o r n d J c fr g k p q step tail C w f;rwa[<-m,h] at this
end
section
variable {P : Program} {ops : Array Oper} {ab : Exit → BV → V → Prop} {md : Region.Mode}
abbrev Cn(L:Nat->Bool)(i:Nat):Nat->Bool:=λj=>if j=i then AL else L j
abbrev B7(C:Nat->AN)(i:Nat)(v:AN):Nat->AN:=λj=>if j=i then v else C j
theorem a0n(h:i<ac.size):(λj=>(ac.setIfInBounds i AL).getD j AM)=Cn (λj=>ac.getD j AM) i:=by
 funext j
 unfold Cn;by_cases a:j=i
 .subst a;simp[h]
 rw[Af a,Wh AM (Ej a)]
theorem b2K{k:Fence}(y:Ow P k mm)(K:Pv ops=AL){tl:List Oper}(c:(Nat->AN)->BV)(I:(Nat->Bool)->(Nat->AN)->V->Prop)
  (A:Region.sinkB md ops n=AL)(z:Region.chainB md ops n=AL)(hn:n<ops.size)
  (U:Region.seqB md ops (ops.size-n) n (E7 n AL++E7 (ops.size-n) AM)=AL)(x:Xh ops n=AL)
  (N:ln tl=ops.size-n)(R:∀j,tl[j]?=ops[n+j]?)
  (step:∀i o L C w,i<n->ops[i]?=Q o->L i=AM->I L C w->(∀e∈o.after,Region.binds md e=AL->L e.on=AL)->
   wpOp P ops TB i (λa' w'=>∃v,a'=c (B7 C i v)/\I (Cn L i) (B7 C i v) w') (c C) w)
  (tail:∀L C w,(∀i,i<n->L i=AL)->I L C w->wpListIn k mm P ops ab tl (c C) w):
  ∀(f:Nat) (ac:Array Bool) (C:Nat->AN) (w:V),HeadInv md ops n ac->JS ac n=f->I (λj=>ac.getD j AM) C w->wpAnyIn k mm P md ops ab (f+(ops.size-n)) ac (c C) w:=by
 intro f
 induction f with
 |zero=>
  intro ac C w a hu r;have q:=Yc hu;have d:ac=E7 n AL++E7 (ops.size-n) AM:=by
   exact fI
  rw[IU,<-N];refine j9 y tl n ac _ w R Al ?_
  grind
 |succ f B=>
  intro ac C w a hu r;have⟨g,s,u,E⟩:=dY hu;have t:g<ac.size:=Wz;rw[show f+1+(ops.size-n)=(f+(ops.size-n))+1 by omega];refine⟨λT=> ?_,λi hi=> ?_⟩
  .exact mS
  have b:i<n:=by
   exact fH
  have⟨S,o,l,J⟩:=Ww.1 hi;have m:=getD_both S;refine wpOpIn_mono ?_ (vf y K (step i o _ C w b l m r (λe d H=>J e d H)));exact zt
theorem a1F{b:Fence}(f:Ow P b mm){l:List Oper}(r:Pv l.toArray=AL)(n:Nat)(a:(Nat->AN)->BV)(I:(Nat->Bool)->(Nat->AN)->V->Prop)(c:SX l.toArray n=AL)
  (step:∀i L C w,i<n->L i=AM->I L C w->(∀j,Region.waitsFor .any l.toArray i j=AL->L j=AL)->
   wpOp P l.toArray TB i (λa' w'=>∃v,a'=a (B7 C i v)/\I (Cn L i) (B7 C i v) w') (a C) w)
  (tail:∀L C w,(∀i,i<n->L i=AL)->I L C w->wpListIn b mm P l.toArray ab (l.drop n) (a C) w)
  (C:Nat->AN)(w:V)(y:I (λ_=>AM) C w):wpAnyIn b mm P .any l.toArray ab l.toArray.size (E7 l.toArray.size AM) (a C) w:=by
 simp[SX,Ez,Cx] at c;obtain⟨⟨⟨⟨hn,s⟩,g⟩,u⟩,q⟩:=c;have:=b2K f r a I s g hn u q AV (λj=>Al)
  (λi o L C w hi E d k A=>step i L C w hi d k (λj m=>by
   obtain⟨x,F,e,B,z,rfl⟩:=dx m
   grind)) tail n (E7 l.toArray.size AM) C w
  ⟨AV,λj x _ D=>Ut,λt _ G=>Uo Al (Uc _ _)⟩ (cT _ _)
  Ut
 grind
end
section
variable {P : Program}
abbrev QY(J:Nat):Deferred:={target:= .collected J,args:=#[]}
def Mk(n0:Nat)(ds:List Deferred)(W:V):Prop:=∃a:List Nat,a.Nodup/\ds=a.map QY/\∀J∈a,n0<=J/\W.1[J]?=Q (.deferred (Q []))
theorem Mk.nil(n0:Nat)(W:V):Mk n0 [] W:=⟨[],List.nodup_nil,rfl,λ_ h=>Aq⟩
theorem Mk.keeps{ds:List Deferred}(h:Mk n0 ds W)(hk:GF W Y):Mk n0 ds Y:=by
 obtain⟨c,h1,h2,a⟩:=h;exact⟨c,h1,h2,λJ b=>⟨(a J b).1,hk.same J _ (a J b).2 F⟩⟩
theorem Mk.stays{ds:List Deferred}(h:Mk n0 ds W)(hw:∀J,QY J∈ds->J<w.1.size)(d:CN w.1.size W Y):Mk n0 ds Y:=by
 obtain⟨c,h1,h2,b⟩:=h;subst h2;exact⟨c,h1,F,λJ a=>⟨(b J a).1,(d.low J (hw J (Jg.2 ⟨J,a,F⟩))).trans (b J a).2⟩⟩
theorem Mk.lt{ds:List Deferred}(h:Mk n0 ds W)(c:QY J∈ds):J<W.1.size:=by
 obtain⟨a,h1,rfl,b⟩:=h
 grind
theorem Mk.cons{ds:List Deferred}(h:Mk n0 ds W)(hw:∀J,QY J∈ds->J<w.1.size)(c:w.1.size<=J)(hn:n0<=J)(e:W.1[J]?=Q (.deferred (Q []))):Mk n0 (QY J::ds) W:=by
 obtain⟨a,h1,rfl,b⟩:=h;refine⟨J::a,List.nodup_cons.2 ⟨λhm=> ?_,h1⟩,F,λE d=> ?_⟩
 .have:=hw J (Jg.2 ⟨J,hm,F⟩);omega
 grind
theorem CN.refl(n0:Nat)(W:V):CN n0 W W:=⟨rfl,rfl,rfl,AS _,λ_ _=>rfl,λ_ _ _ _ h=>h⟩
theorem Mk.leaves{d:Fence}{fn:Func}{R:CI->V->Prop}{ds:List Deferred}(h:Mk n0 ds W)
  (g:∀Y,CN n0 W Y->LeavesIn d n P fn tmps R [] .returning Y):LeavesInM d n P fn tmps R ds .returning W:=by
 obtain⟨c,h1,rfl,a⟩:=h
 induction c generalizing W with
 |nil=>exact g W (CN.refl _ _)
 |cons J c k=>
  have b:=a J AV;have j:=CN.putObj (.deferred O) b.2 F b.1;refine⟨AV,.inl ⟨J,_,rfl,PV b.2,k (λY i=>g Y (j.trans i)) (List.nodup_cons.1 h1).2 (λE f=> ?_)⟩⟩;refine⟨(a E (TJ _ f)).1,(Wa λe=> ?_).trans (a E (TJ _ f)).2⟩
  grind
end
section
variable {P : Program} {ops : Array Oper} {ab : Exit → BV → V → Prop} {md : Region.Mode}
def kc(md:Region.Mode)(ops:Array Oper)(n:Nat):Bool:=(G8 n).all λi=>((ops[i]?).map λo=>o.after.all λe=>AQ (e.on<i)|| !Region.binds md e).getD AM
theorem a6D{o:Oper}(h:kc md ops n=AL)(hi:i<n)(a:ops[i]?=Q o):∀e∈o.after,Region.binds md e=AL->e.on<i:=by
 exact yh
def XW(ops:Array Oper)(n:Nat):Bool:=
 AQ (n<ops.size)&&Region.sinkB .any ops n&&Region.chainB .any ops n&&Region.seqB .any ops (ops.size-n) n (E7 n AL++E7 (ops.size-n) AM)&&kc .any ops n
theorem a0R{tl:List Oper}(c:(Nat->AN)->BV)(I:(Nat->Bool)->(Nat->AN)->V->Prop)
  (A:Region.sinkB md ops n=AL)(z:Region.chainB md ops n=AL)(hn:n<ops.size)
  (R:Region.seqB md ops (ops.size-n) n (E7 n AL++E7 (ops.size-n) AM)=AL)(E:kc md ops n=AL)
  (H:ln tl=ops.size-n)(J:∀j,tl[j]?=ops[n+j]?)
  (step:∀i o L C w,i<n->ops[i]?=Q o->L i=AM->I L C w->(∀e∈o.after,Region.binds md e=AL->L e.on=AL)->
   wpOp P ops ab i (λa' w'=>∃v,a'=c (B7 C i v)/\I (Cn L i) (B7 C i v) w') (c C) w)
  (tail:∀L C w,(∀i,i<n->L i=AL)->I L C w->CQ P ops ab tl (c C) w):
  ∀(f:Nat) (ac:Array Bool) (C:Nat->AN) (w:V),HeadInv md ops n ac->JS ac n=f->I (λj=>ac.getD j AM) C w->wpAny P md ops ab (f+(ops.size-n)) ac (c C) w:=by
 intro f
 induction f with
 |zero=>
  intro ac C w a hu r;have q:=Yc hu;have d:ac=E7 n AL++E7 (ops.size-n) AM:=by
   exact fI
  rw[IU,<-H];refine wpAny_of_seq tl n ac _ w J Al ?_
  grind
 |succ f B=>
  intro ac C w a hu r;have⟨g,s,u,x⟩:=dY hu;have t:g<ac.size:=Wz;rw[show f+1+(ops.size-n)=(f+(ops.size-n))+1 by omega];refine⟨λN=> ?_,λi hi=> ?_⟩
  .have k:ops[g]?=Q _:=yB D;have:=Ww.2 ⟨Uo t u,_,k,λe d l=>x _ (a6D E s k e d l)⟩
   grind
  have b:i<n:=by
   exact fH
  have⟨K,o,k,y⟩:=Ww.1 hi;have m:=getD_both K;refine wpOp_mono ?_ (step i o _ C w b k m r (λe d l=>y e d l));exact zt
def bF{l:List Oper}(n:Nat)(a:(Nat->AN)->BV)(I:(Nat->Bool)->(Nat->AN)->V->Prop)(b:XW l.toArray n=AL)
  (step:∀i L C w,i<n->L i=AM->I L C w->(∀j,Region.waitsFor .any l.toArray i j=AL->L j=AL)->
   wpOp P l.toArray ab i (λa' w'=>∃v,a'=a (B7 C i v)/\I (Cn L i) (B7 C i v) w') (a C) w)
  (tail:∀L C w,(∀i,i<n->L i=AL)->I L C w->CQ P l.toArray ab (l.drop n) (a C) w)
  (C:Nat->AN)(w:V)(s:I (λ_=>AM) C w):wpAny P .any l.toArray ab l.toArray.size (E7 l.toArray.size AM) (a C) w:=by
 simp[XW,Ez,Cx] at b;obtain⟨⟨⟨⟨hn,m⟩,d⟩,q⟩,k⟩:=b;have:=a0R a I m d hn q k AV (λj=>Al)
  (λi o L C w hi A c f x=>step i L C w hi c f (λj g=>by
   obtain⟨r,B,e,y,u,rfl⟩:=dx g
   grind)) tail n (E7 l.toArray.size AM) C w
  ⟨AV,λj r _ z=>Ut,λt _ D=>Uo Al (Uc _ _)⟩ (cT _ _)
  Ut
 grind
def Qf{l:List Oper}(n:Nat){a:BV}{b:(Nat->AN)->BV}(I:(Nat->Bool)->(Nat->AN)->V->Prop)(d:XW l.toArray n=AL)
  (step:∀i L C w,i<n->L i=AM->I L C w->(∀j,Region.waitsFor .any l.toArray i j=AL->L j=AL)->
   wpOp P l.toArray ab i (λa' w'=>∃v,a'=b (B7 C i v)/\I (Cn L i) (B7 C i v) w') (b C) w)
  (tail:∀L C w,(∀i,i<n->L i=AL)->I L C w->CQ P l.toArray ab (l.drop n) (b C) w)
  (w:V)(c:∀C,I (λ_=>AM) C w)(e:∀C,Mx l n 0 C a=b C:=by intro C;simp only[Mx,G7];go_simp;rfl):wpAny P .any l.toArray ab l.toArray.size (E7 l.toArray.size AM) a w:=by
 have⟨C,h⟩:=YM a l n 0;have:=bF n b I d step tail C w (c C)
 grind
def Mp{L:Nat->Bool}{q k:Nat}(h:L k=AL):Cn L q k=AL:=by unfold Cn;split <;>first|rfl|exact h
end
section
theorem Pw{L:Nat->Bool}{C val:Nat->AN}{v:AN}(h:∀k,L k=AL->C k=val k)(a:v=val i):∀k,Cn L i k=AL->B7 C i v k=val k:=by
 grind
theorem Bz{L:Nat->Bool}(h:k≠i):Cn L i k=L k:=Al
theorem Vb{L:Nat->Bool}:Cn L i i=AL:=Al
theorem DP{C:Nat->AN}{v:AN}(h:k≠i):B7 C i v k=C k:=Al
theorem Iw{C:Nat->AN}{v:AN}:B7 C i v i=v:=Al
structure FR(W0:V)(val:Nat->AN)(Ag:AN->V->Prop)(e:AN)(p:An)(ic:Nat)(lo:List Nat)(L:Nat->Bool)(C:Nat->AN)(W:V):Prop where
 Bg:∀k,L k=AL->k<ic\/ic+3<=k->C k=val k
 early:L ic=AL->∀k∈lo,L k=AL
 mv:L (ic+1)=AL->L ic=AL
 ex:L (ic+2)=AL->L (ic+1)=AL
 st:L (ic+6)=AL->L (ic+2)=AL
 mem:∃v W1,Ext W0 W1/\(L ic=AL->Ag v W1/\C ic=BO #[v,e])/\(L (ic+1)=AL->C (ic+1)=BO #[v,e])/\(L (ic+2)=AL->C (ic+2)=v)/\W=if L (ic+6)=AL then W1.setCell p v else W1
variable {W0 W : V} {val : Nat → AN} {Ag : AN → V → Prop} {e : AN} {p : An} {ic : Nat} {lo : List Nat} {L : Nat → Bool} {C : Nat → AN}
def FR.BI(h:Ext W0 W):FR W0 val Ag e p ic lo (λ_=>AM) C W:=
 ⟨λ_ h=>Aq,λh=>Aq,λh=>Aq,λh=>Aq,λh=>Aq,Ba,W,h,λh=>Aq,λh=>Aq,λh=>Aq,AV⟩
theorem FR.pure(h:FR W0 val Ag e p ic lo L C W)(hi:i<ic\/i=ic+3\/i=ic+4\/i=ic+5){v:AN}(g:v=val i):FR W0 val Ag e p ic lo (Cn L i) (B7 C i v) W:=by
 exact zT
theorem FR.ext(h:FR W0 val Ag e p ic lo L C W)(g:L ic=AM):Ext W0 W:=by
 exact ma
theorem FR.load(h:FR W0 val Ag e p ic lo L C W)(hk:k∈lo)(a:L k=AM):Ext W0 W:=by
 refine h.ext ?_;cases q:L ic with
 |false=>rfl
 |true=>rw[h.early q k hk] at a;cases a
theorem FR.call(h:FR W0 val Ag e p ic lo L C W)(g:L ic=AM)(l:∀k∈lo,L k=AL){v:AN}(hx:Ext W Y)(m:Ag v Y):FR W0 val Ag e p ic lo (Cn L ic) (B7 C ic (BO #[v,e])) Y:=by
 have i:=h.ext g;obtain⟨a,b,c,d,f,v1,W1,n,o,q,r,s⟩:=h;refine⟨λk hk j=> ?_,?_,?_,?_,?_,v,Y,i.tr hx,?_⟩
 .grind
 .grind
 .grind
 .grind
 .grind
 grind
def FR.move(h:FR W0 val Ag e p ic lo L C W)(g:L (ic+1)=AM)(i:L ic=AL):FR W0 val Ag e p ic lo (Cn L (ic+1)) (B7 C (ic+1) (C ic)) W:=by
 exact zT
def FR.first(h:FR W0 val Ag e p ic lo L C W)(l:L (ic+2)=AM)(g:L (ic+1)=AL):∃v,C (ic+1)=BO #[v,e]/\FR W0 val Ag e p ic lo (Cn L (ic+2)) (B7 C (ic+2) v) W:=by
 obtain⟨a,b,c,d,f,v1,W1,i,n,j,o,q⟩:=h;refine⟨v1,j g,λk hk m=> ?_,?_,?_,?_,?_,v1,W1,i,?_⟩
 .grind
 .grind
 .grind
 .grind
 .grind
 grind
def FR.lK(h:FR W0 val Ag e p ic lo L C W)(g:L (ic+1)=AL):∃v,C (ic+1)=BO #[v,e]:=by
 exact ma
def FR.store(h:FR W0 val Ag e p ic lo L C W)(j:L (ic+6)=AM)(l:L (ic+2)=AL)(n:val (ic+6)=Ba):Ext W0 W/\Ag (C (ic+2)) W/\FR W0 val Ag e p ic lo (Cn L (ic+6)) (B7 C (ic+6) Ba) (W.setCell p (C (ic+2))):=by
 obtain⟨a,b,c,d,f,v1,W1,g,o,q,r,i⟩:=h;rw[Af Al] at i;subst i;refine⟨g,Al,λk hk m=> ?_,?_,?_,?_,?_,v1,W,g,?_⟩
 .grind
 .grind
 .grind
 .grind
 .grind
 grind
def FR.done(h:FR W0 val Ag e p ic lo L C W)(g:∀i,i<ic+7->L i=AL):C (ic+3)=val (ic+3)/\∃v W1,Ext W0 W1/\Ag v W1/\W=W1.setCell p v:=by
 exact ma
end
def a2c{P:Program}{ab:Exit->BV->V->Prop}{l:List Oper}(n:Nat)(c:(Nat->AN)->BV)(J:V->Prop)(a:Nat->AN->V->Prop)(fr:Nat->Bool)(f:XW l.toArray n=AL)
  (m:∀w w',J w->Ext w w'->J w')(o:∀i v w w',a i v w->Ext w w'->a i v w')
  (r:∀i v w,i<n->fr i=AL->a i v w->∃b,v=Ap (Q ⟨b,0,O⟩)/\b<w.1.size)
  (step:∀i C w,i<n->J w->(∀j,j<n->Region.waitsFor .any l.toArray i j=AL->a j (C j) w)->
   wpOp P l.toArray ab i (λa' w'=>∃v,a'=c (λj=>if j=i then v else C j)/\Ext w w'/\a i v w'/\(fr i=AL->∃b,v=Ap (Q ⟨b,0,O⟩)/\w.1.size<=b)) (c C) w)
  (tail:∀C w,J w->(∀i,i<n->a i (C i) w)->(∀i j,i<n->j<n->i≠j->fr i=AL->fr j=AL->C i≠C j)->CQ P l.toArray ab (l.drop n) (c C) w)
  (C:Nat->AN)(w:V)(e:J w):wpAny P .any l.toArray ab l.toArray.size (E7 l.toArray.size AM) (c C) w:=by
 refine bF n c (λL C w=>J w/\(∀i,i<n->L i=AL->a i (C i) w)/\(∀i j,i<n->j<n->i≠j->fr i=AL->fr j=AL->L i=AL->L j=AL->C i≠C j)) f ?_ ?_ C w ⟨e,λi _ h=>Aq,λi j _ _ _ _ _ h=>Aq⟩
 .intro i L C w hi hL hI hd;obtain⟨d,k,s⟩:=hI;refine wpOp_mono ?_ (step i C w hi d (λj g hw=>k j g (hd j hw)));rintro a' w' ⟨v,rfl,hx,t,q⟩
  grind
 grind
def al{P:Program}{ab:Exit->BV->V->Prop}{l:List Oper}(n:Nat){a:BV}{d:(Nat->AN)->BV}(J:V->Prop)(c:Nat->AN->V->Prop)(fr:Nat->Bool)(f:XW l.toArray n=AL)
  (g:∀w w',J w->Ext w w'->J w')(k:∀i v w w',c i v w->Ext w w'->c i v w')
  (m:∀i v w,i<n->fr i=AL->c i v w->∃b,v=Ap (Q ⟨b,0,O⟩)/\b<w.1.size)
  (step:∀i C w,i<n->J w->(∀j,j<n->Region.waitsFor .any l.toArray i j=AL->c j (C j) w)->
   wpOp P l.toArray ab i (λa' w'=>∃v,a'=d (λj=>if j=i then v else C j)/\Ext w w'/\c i v w'/\(fr i=AL->∃b,v=Ap (Q ⟨b,0,O⟩)/\w.1.size<=b)) (d C) w)
  (tail:∀C w,J w->(∀i,i<n->c i (C i) w)->(∀i j,i<n->j<n->i≠j->fr i=AL->fr j=AL->C i≠C j)->CQ P l.toArray ab (l.drop n) (d C) w)
  (w:V)(e:J w)(o:∀C,Mx l n 0 C a=d C:=by intro C;simp only[Mx,G7];go_simp;rfl):wpAny P .any l.toArray ab l.toArray.size (E7 l.toArray.size AM) a w:=by
 have⟨C,h⟩:=YM a l n 0;have:=a2c n d J c fr f g k m step tail C w e
 grind
section
attribute [local go_sem] Oper.semAt_some
def aL(Bs:Nat)(aa:Option An)(n R:Nat)(Y:Nat->Int->Prop)(W:V):Prop:=
 W.cell? ⟨Bs,0,O⟩=Q (AK aa n R)/\(0<n->∃b off,aa=Q ⟨b,off,O⟩/\∀j,j<n->∃x:Int,W.cell? ⟨b,off+j,O⟩=Q (M G x)/\Y j x)
def b4I(n:Nat)(Y:Nat->Int->Prop)(k:Nat)(x:Array AN):Prop:=∃v:Int,Y (n-1-k) v/\x=#[M G ((n-1-k:Nat):Int),M G v]
def Xu(Bs:Nat)(aa:Option An)(n R:Nat)(Y:Nat->Int->Prop)(hn:n<=4294967296):
  XT AO 363 #[Ap (Q ⟨Bs,0,O⟩)] (b4I n Y) (aL Bs aa n R Y) n:=by
 intro m l J u W f B C s d;refine callsIn_of_wp func363 F trivial ?_ F;have H:=(f 0 W d).1;simp only[ntmps363,Nn,FX,Jy,Hw,Nat.reduceSub,OX,PQ,PS,PR,Lm,LO]
 gi_wp2
 gi_loopw [3] (λi wr=>∃k:Nat,k<=n/\i=M G ((n:Int)-1-k)/\J k wr) (λi _=>(B8 i+1).toNat)
 case atStart=>exact⟨0,D,AV,d⟩
 obtain⟨k,hk,rfl,c⟩:=hrel;have⟨E,g⟩:=f k wr c;by_cases j:k<n
 .obtain⟨b,off,rfl,hcell⟩:=g D;have⟨x,hx,t⟩:=hcell (n-1-k) D;have⟨fn,tmps,assign,body,hy,r⟩:=s k _ wr j ⟨x,t,F⟩ c;have a:((n-1-k:Nat):Int)=(n:Int)-1-k:=D;rw[a] at hy;have w:((n:Int)-1-k).toNat=n-1-k:=D;have y:0<=(n:Int)-1-k:=D;have z:(n:Int)-1-k<n:=D;have A:AQ ((k:Int)<=(n:Int)-1)=AL:=Bk;clear hcell g a
  gi_wp2
  refine⟨λh=>Aq,r.mono ?_⟩;rintro e v (⟨rfl,o⟩|⟨rfl,q⟩)
  .gi_wp2
   go_roundw
   case rel=>exact⟨k+1,D,Bk,o⟩
   simp[B8];omega
  gi_wp2
  refine Bp (results_none F _ _ _) F ?_;exact⟨⟨_,F⟩,.inr ⟨k,j,q⟩⟩
 obtain rfl:k=n:=D;have a:¬(0<=(k:Int)-1-k):=D;exact mW
def Xw(w:V)(aa:Option An)(n R:Nat):
  AZ AO 348 #[AK aa n R] w λe w'=>e=Ac (.func (.func 363) #[] #[Ap (Q ⟨w.1.size,0,O⟩)])/\w'=w.alloc (.cells #[AK aa n R] 25):=by
 go_enter func348,ntmps348;go_wp2;go_ret;exact⟨F,F⟩
end
section
open Kp
attribute [local go_sem] Oper.semAt_some
def b1H(w:V)(x y z:Obj):(((w.alloc x).alloc y).alloc z).1[w.1.size]?=Q x:=by
 grind [Below.heap_alloc,World.alloc_heap_new]
def rM(w:V)(x y z:Obj):(((w.alloc x).alloc y).alloc z).1[w.1.size+1]?=Q y:=by
 rw[Ue _ _ _ AV];have:=Bq (w.alloc x) y;rwa[D5] at this
def b1r(w:V)(x y z:Obj):(((w.alloc x).alloc y).alloc z).1[w.1.size+2]?=Q z:=by
 have:=Bq ((w.alloc x).alloc y) z;rwa[D5,D5] at this
def WD(w:V)(x y z:Obj):At w.1.size w (((w.alloc x).alloc y).alloc z):=
 (((Ad _ _).alloc (AS _) _).alloc AV _).alloc Bk _
def gi(w:V)(a b:List Nat)(e:CI)(w':V):Prop:=
 ∃c:Int,e=Ac (M G c)/\(c<0↔val a<val b)/\(0<c↔val b<val a)/\At w.1.size w w'
def b1T{a b:List Nat}(c:Canon a)(d:Canon b)(h:ln a≠ln b):
  ((ln a:Int)-ln b<0↔val a<val b)/\(0<(ln a:Int)-ln b↔val b<val a):=by
 rcases lr h with h|h
 .have:=Rf c.Bf d.trim h
  grind
 have:=Rf d.Bf c.trim h
 grind
theorem b2T{a b:List Nat}(d:Canon a)(e:Canon b)(g:ln a=ln b)(hi:i<ln a)(c:∀k,i<k->k<ln a->I a k=I b k)(f:I a i≠I b i):
  ((I a i:Int)-I b i<0↔val a<val b)/\(0<(I a i:Int)-I b i↔val b<val a):=by
 unfold val;rcases lr f with h|h
 .have:=xG hi (λk _=>Du d.Bf k) c h
  grind
 have:=xG hi (λk _=>Du e.Bf k) (λk h1 h2=>(c k h1 h2).symm) h
 grind
def a6u{a b:List Nat}(c:ln a=ln b)(d:∀k,k<ln a->I a k=I b k):val a=val b:=by
 grind [val,MF]
theorem a1H(w:V)(a b:List Nat)(d e:AN)(f:BH w w.1.size d a)(j:BH w w.1.size e b)(m:Canon a)(n:Canon b)(o:ln a≠ln b):
  AZ AO 345 #[d,e] w (gi w a b):=by
 have c:=A (b1T m n o);obtain⟨aa,ca,rfl,q,g,i⟩:=f;obtain⟨A',cb,rfl,r,k,l⟩:=j;unfold BM at g k;clear i l;go_wp2;exact Bp (by simp[results,go_sem]) F ⟨_,F,c.1,c.2,by exact((Ad _ _).alloc (AS _) _).alloc AV _⟩
theorem BH.stays{v:AN}{l:List Nat}(h:BH W b0 v l)(g:CN n0 W Y):BH Y b0 v l:=by
 obtain⟨aa,R,rfl,h1,h2,c⟩:=h;refine⟨aa,R,F,h1,h2,λhn=> ?_⟩;have⟨b,off,e,a,d⟩:=c hn;exact⟨b,off,e,a,λj f=>g.cell (d j f)⟩
structure Tg(w:V)(a b:List Nat)(aa:Option An)(ca:Nat)(A':Option An)(cb:Nat)(k:Nat)(W:V):Prop where
 box:W.1[w.1.size]?=Q (.cells #[AK A' (ln b) cb] 25 (0,0))
 res:W.1[w.1.size+1]?=Q (.cells #[M G 0] 3 (0,0))
 it:W.1[w.1.size+2]?=Q (.cells #[AK aa (ln a) ca] 25 (0,0))
 sa:BH W w.1.size (AK aa (ln a) ca) a
 sb:BH W w.1.size (AK A' (ln b) cb) b
 same:∀j,ln a-k<=j->j<ln a->I a j=I b j
 low:At w.1.size w W
theorem Tg.stays{a b:List Nat}(h:Tg w a b aa ca A' cb k W)(c:CN n0 W Y)(hn:w.1.size<=n0):Tg w a b aa ca A' cb k Y:=
 ⟨c.cells _ _ _ _ h.box,c.cells _ _ _ _ h.res,c.cells _ _ _ _ h.it,h.sa.stays c,h.sb.stays c,h.same,h.low.trans (c.below.mono hn)⟩
structure aF(w:V)(a b:List Nat)(c:Code)(k:Nat)(W:V):Prop where
 ret:c= .ret
 res:∃x:Int,W.1[w.1.size+1]?=Q (.cells #[M G x] 3 (0,0))/\(x<0↔val a<val b)/\(0<x↔val b<val a)
 low:At w.1.size w W
theorem aF.stays{a b:List Nat}{c:Code}(h:aF w a b c k W)(d:CN n0 W Y)(hn:w.1.size<=n0):aF w a b c k Y:=by
 obtain⟨e,⟨x,hx,h1,h2⟩,f⟩:=h;exact⟨e,⟨x,d.cells _ _ _ _ hx,h1,h2⟩,f.trans (d.below.mono hn)⟩
theorem cell_of_heap{v:AN}(h:W.1[b]?=Q (.cells #[v] t (0,0))):W.cell? ⟨b,0,O⟩=Q v:=by simp[Dx,h]
theorem frozen_of_heap{v:AN}(h:W.1[b]?=Q (.cells #[v] t (0,0))):W.frozen? ⟨b,0,O⟩=AM:=by simp[Hb,h]
theorem Tg.back{a b:List Nat}(h:Tg w a b aa ca A' cb k W):
  aL (w.1.size+2) aa (ln a) ca (λj x=>x=I a j) W:=by
 refine⟨cell_of_heap h.it,λhn=> ?_⟩;obtain⟨_,_,e,_,_,c⟩:=h.sa
 grind
theorem a1B(w:V)(a b:List Nat)(H L:AN)(s:BH w w.1.size H a)(y:BH w w.1.size L b)(z:Canon a)(B:Canon b)(g:ln a=ln b)(ac:ln a<=4294967296):
  AZ AO 345 #[H,L] w (gi w a b):=by
 obtain⟨aa,ca,rfl,ae,af,Z⟩:=id s;obtain⟨A',cb,rfl,ag,ah,m⟩:=id y;refine(De (n:=9)).1 (R8 func345 F trivial ?_);simp[ntmps345,Nn,FX,Jy,OX];have C:((ln a) !=ln b)=AM:=Al;have r:=A g;clear g Z m;gi_wp2_with(refine⟨trivial,?_⟩;refine(De.2 (Xw _ _ _ _)).mono ?_;rintro e w' ⟨rfl,rfl⟩)
 refine VM F (FZ func363 U F)
  (Xu _ aa _ ca _ ac) (λk x ⟨_,_,e⟩=>Al)
  (Tg w a b aa ca A' cb) (aF w a b) (λk W Y h i=>h.stays i Bk) (λc k W Y h i=>h.stays i Bk) (λk W h=>h.back) ?BI ?round ?done ?stop
 case BI=>
  refine⟨b1H _ _ _ _,rM _ _ _ _,b1r _ _ _ _,?_,?_,λj h1 h2=>D,WD _ _ _ _⟩
  .exact s.below (WD _ _ _ _)
  exact y.below (WD _ _ _ _)
 case round=>
  intro l k x W K hk hx hi f;obtain⟨v,rfl,rfl⟩:=hx;have N:=A f;clear f
  gi_wp2
  refine N _ (λQ d _=> ?_);have g:=r.o;have c1:=cell_of_heap d.box;have c2:=cell_of_heap d.res;have T:=frozen_of_heap d.res;obtain⟨_,_,e,_,_,m⟩:=d.sb;injection e with R e2 S
  subst R S;obtain⟨bb,bo,rfl,_,ab⟩:=m D;have hx:=ab (ln a-1-k) D;have i1:((ln a-1-k))<ln b:=D;have ba:I a (ln a-1-k)<1000000000:=Du z.Bf _;have ad:I b (ln a-1-k)<1000000000:=Du B.Bf _;by_cases q:I a (ln a-1-k)=I b (ln a-1-k)
  .have C:((I a (ln a-1-k)) !=I b (ln a-1-k))=AM:=Al;have E:∀j,ln a-(k+1)<=j->j<ln a->I a j=I b j:=λj h1 h2=>by
    by_cases hj:j=ln a-1-k
    .grind
    exact d.same j D h2
   have P:Tg w a b aa ca _ cb _ Q:=⟨d.box,d.res,d.it,d.sa,d.sb,E,d.low⟩;clear q E g
   gi_wp2
   exact⟨KeepsOthers.refl _,P⟩
  have C:((I a (ln a-1-k)) !=I b (ln a-1-k))=AL:=Al;have u:=A (b2T z B g D (λj h1 h2=>d.same j D h2) q);clear q g
  gi_wp2
  exact⟨Gq _ _ _,F,⟨_,by have:=d.res;simp[Di,IT,this],u.1,u.2⟩,d.low.setCell AV _⟩
 case done=>
  intro J W t hi f;have c2:=cell_of_heap hi.res;have T:=frozen_of_heap hi.res;have hv:=a6u r (λk hk=>hi.same k D hk)
  gi_wp2
  refine⟨AV,.inl ⟨_,_,rfl,PV ((Gq _ _ _).same J _ f rfl),?_⟩⟩;have o:=(CN.putObj (.deferred O) ((Gq W ⟨w.1.size+1,0,O⟩ (M G 0)).same J _ f F) F RJ).cell (mA W _ _ Al);have X:=
   (hi.low.setCell (p:=⟨w.1.size+1,0,O⟩) AV _).trans (CN.putObj (.deferred O) ((Gq W _ (M G 0)).same J _ f F) F RJ).below
  exact⟨M G 0,by simp[results,go_sem,o],0,rfl,Al,Al,X⟩
 rintro J c k W t hk ⟨rfl,⟨x,hx,h1,h2⟩,g⟩ f
 gi_wp2
 refine⟨AV,.inl ⟨_,_,rfl,PV f,?_⟩⟩;have i:=CN.putObj (n0:=w.1.size) (.deferred O) f F RJ;have o:=i.cell (cell_of_heap hx);exact⟨M G x,by simp[results,go_sem,o],x,rfl,h1,h2,g.trans i.below⟩
def Xz(w:V)(a b:List Nat)(c d:AN)(e:BH w w.1.size c a)(f:BH w w.1.size d b)(g:Canon a)(h:Canon b)(i:ln a<=4294967296):
  AZ AO 345 #[c,d] w (gi w a b):=by
 grind [a1B,a1H]
def Bx(W:V)(b:Nat)(t:Bb)(v:AN):Prop:=W.1[b]?=Q (.cells #[v] t (0,0))
theorem Bx.cell{v:AN}(h:Bx W b t v):W.cell? ⟨b,0,O⟩=Q v:=cell_of_heap h
theorem Bx.frozen{v:AN}(h:Bx W b t v):W.frozen? ⟨b,0,O⟩=AM:=frozen_of_heap h
theorem Bx.stays{v:AN}(h:Bx W b t v)(a:CN n0 W Y):Bx Y b t v:=a.cells _ _ _ _ h
theorem Bx.lt{v:AN}(h:Bx W b t v):b<W.1.size:=(Ee.1 h).1
theorem Bx.Bo{v:AN}(h:Bx W b t v)(a:b≠p.block)(u:AN):Bx (W.setCell p u) b t v:=(Gp W p u b a).trans h
theorem Bx.put{v:AN}(h:Bx W b t v)(u:AN):Bx (W.setCell ⟨b,0,O⟩ u) b t u:=by
 unfold Bx at h⊢;simp[Di,IT,h]
theorem Bx.alloc{v:AN}(h:Bx W b t v)(o:Obj):Bx (W.alloc o) b t v:=(Ue W o b h.lt).trans h
theorem Bx.drew{v:AN}(h:Bx W b t v):Bx W.drew b t v:=h
theorem Bx.drewN{v:AN}(h:Bx W b t v)(n:Nat):Bx (W.drewN n) b t v:=h
theorem Bx.below{v:AN}(h:Bx W b t v)(a:At B0 W Y)(c:b<B0):Bx Y b t v:=(a.block b c).trans h
theorem Bx.new(W:V)(t:Bb)(v:AN):Bx (W.alloc (.cells #[v] t)) W.1.size t v:=Bq W _
theorem Bx.at_{v:AN}(h:W.1.size=n):Bx (W.alloc (.cells #[v] t)) n t v:=by subst h;exact Bx.new W t v
theorem Row.stays{l:List Nat}(h:Row W g R l)(b:CN n0 W Y):Row Y g R l:=by
 obtain⟨cur,a,r⟩:=h;exact⟨cur,b.cells _ _ _ _ a,r⟩
theorem Row.Bo{l:List Nat}(h:Row W g R l)(a:g≠p.block)(u:AN):Row (W.setCell p u) g R l:=h.keep (Gp W p u g a)
theorem Row.alloc{l:List Nat}(h:Row W g R l)(o:Obj):Row (W.alloc o) g R l:=h.keep (Ue W o g h.lt)
theorem Row.below{l:List Nat}(h:Row W g R l)(a:At B0 W Y)(b:g<B0):Row Y g R l:=h.keep (a.block g b)
structure TC(w:V)(a:List Nat)(d:Nat)(aa:Option An)(ca:Nat)(k:Nat)(q:List Nat)(r:Nat)(W:V):Prop where
 bd:Bx W w.1.size 3 (M G d)
 bq:Bx W (w.1.size+1) 25 (AK (Q ⟨w.1.size+2,0,O⟩) (ln a) (ln a))
 row:Row W (w.1.size+2) (ln a) q
 br:Bx W (w.1.size+3) 3 (M G r)
 it:Bx W (w.1.size+4) 25 (AK aa (ln a) ca)
 sa:BH W w.1.size (AK aa (ln a) ca) a
 len:ln q=ln a
 Bf:Small q
 lt:r<d
 eq:S (sh (I a) (ln a-k)) k=d*S (sh (I q) (ln a-k)) k+r
 low:At w.1.size w W
theorem TC.stays(h:TC w a d aa ca k q r W)(b:CN n0 W Y)(hn:w.1.size<=n0):TC w a d aa ca k q r Y:=
 ⟨h.bd.stays b,h.bq.stays b,h.row.stays b,h.br.stays b,h.it.stays b,h.sa.stays b,h.len,h.Bf,h.lt,h.eq,h.low.trans (b.below.mono hn)⟩
def uY(w:V)(a:List Nat)(d:Nat)(aa:Option An)(ca:Nat)(k:Nat)(W:V):Prop:=∃q r,TC w a d aa ca k q r W
theorem fW(f:Bx W Bs 25 (AK aa (ln a) ca))(k:BH W b0 (AK aa (ln a) ca) a):
  aL Bs aa (ln a) ca (λj x=>x=I a j) W:=by
 refine⟨f.cell,λhn=> ?_⟩;obtain⟨_,_,e,_,_,g⟩:=k;injection e with c l d
 subst c d;have⟨b,off,e,_,h⟩:=g hn;exact⟨b,off,e,λj i=>⟨_,h j i,rfl⟩⟩
theorem a9S(h:TC w a d aa ca k q r W)(hk:k<ln a)(m:Small a):
  (I a (ln a-1-k)+r*1000000000)/d<1000000000/\
  TC w a d aa ca (k+1) (q.set (ln a-1-k) ((I a (ln a-1-k)+r*1000000000)/d)) ((I a (ln a-1-k)+r*1000000000)%d)
   ((W.setCell ⟨w.1.size+2,ln a-1-k,O⟩ (M G ((I a (ln a-1-k)+r*1000000000)/d:Nat))).setCell ⟨w.1.size+3,0,O⟩ (M G ((I a (ln a-1-k)+r*1000000000)%d:Nat))):=by
 obtain⟨bd,bq,row,br,it,sa,len,Bf,lt,eq,low⟩:=h;have n:=Du m (ln a-1-k);have b:=a7U lt n F;have f:ln a-(k+1)=ln a-1-k:=D;have g:ln a-k=(ln a-1-k)+1:=D;refine⟨b.1,(bd.Bo AV _).Bo AV _,(bq.Bo AV _).Bo AV _,(row.set D _).Bo AV _,(br.Bo AV _).put _,(it.Bo AV _).Bo AV _,?_,by simpa using len,Small.set Bf b.1,b.2,?_,?_⟩
 .exact sa.keep λp c=>(ZB _ _ _ _ (λe=>by subst e;simp at c;omega)).trans (ZB _ _ _ _ (λe=>by subst e;simp at c;omega))
 .rw[f,aU,aU,<-g];have j:I (q.set (ln a-1-k) ((I a (ln a-1-k)+r*1000000000)/d)) (ln a-1-k)=(I a (ln a-1-k)+r*1000000000)/d:=by rw[Nb D,Aj rfl]
  have l:S (sh (I (q.set (ln a-1-k) ((I a (ln a-1-k)+r*1000000000)/d))) (ln a-k)) k=S (sh (I q) (ln a-k)) k:=MF (λi _=>by unfold sh;rw[Nb D,Af D]);rw[j,l];exact a4c eq F
 exact(low.setCell (p:=⟨w.1.size+2,_,O⟩) AV _).setCell (p:=⟨w.1.size+3,0,O⟩) AV _
theorem uz{r b e c f:Nat}{v1 v2:AN}
  (h:TC w a d aa ca (k+1) q r ((W.setCell ⟨b,e,O⟩ v1).setCell ⟨c,f,O⟩ v2)):
  GF W ((W.setCell ⟨b,e,O⟩ v1).setCell ⟨c,f,O⟩ v2).drew/\uY w a d aa ca (k+1) ((W.setCell ⟨b,e,O⟩ v1).setCell ⟨c,f,O⟩ v2).drew:=
 ⟨((Gq _ _ _).trans (Gq _ _ _)).trans (mK _),q,r,h.bd,h.bq,h.row,h.br,h.it,h.sa,h.len,h.Bf,h.lt,h.eq,⟨h.low.os,h.low.tape,h.low.output,h.low.size,h.low.block⟩⟩
def UL(n:Nat):Array AN:=madeCells (Gr .i64 0).cells n
def jC(n:Nat)(hn:n<=1000000000)(W:V):
  (Instr.makeSlice 25 (M G (n:Int)) (M G (n:Int))).run AO W= .ok (AK (Q ⟨W.1.size,0,O⟩) n n) (W.alloc (.cells (UL n) 3)):=by
 have⟨e,hi,b,c,d⟩:=DM OG;have a:=run_make (P:=AO) W 25 3 e _ FD hi b .i64 .i64 n n D D (by rw[d];omega) D;simp only[eQ,c,SJ] at a;exact a
def kF(W:V)(n:Nat)(hn:n<=1000000000):Row (W.alloc (.cells (UL n) 3)) W.1.size n (F7 n 0):=by
 refine⟨UL n,Bq W _,by simp[UL,size_madeCells],AV,Fp,λj a=> ?_⟩;simp at a;rw[Vg];simp[UL,madeCells,Value.cells,a,Nat.mod_one]
def a52{a r d:Nat}(h1:a<1000000000)(h2:r<1000000000)(b:1<=d):
  G.wrap (((a:Int)+(r:Int)*1000000000).tdiv d)=(((a+r*1000000000)/d:Nat):Int):=by
 rw[yE _ _ ⟨D,D,D⟩];simp
def a5p{a r d:Nat}:((a:Int)+(r:Int)*1000000000).tmod d=(((a+r*1000000000)%d:Nat):Int):=by
 rw[mM _ _ D];simp
def row_one(X:V)(r:Nat):Row (X.alloc (.cells #[M G r] 3)) X.1.size 1 [r]:=by
 refine⟨#[M G r],Bq X _,F,AV,Fp,λj a=> ?_⟩;have:j=0:=by simpa using a
 subst this;rfl
def uO(w:V)(a:List Nat)(d:Nat)(e:CI)(w':V):Prop:=
 ∃f g b c,e=Ac (BO #[f,g])/\VB w w' f b/\Canon b/\val b=val a/d/\VB w w' g c/\Canon c/\val c=val a%d/\At w.1.size w w'
theorem b0u(g:ln q=ln a)(c:r<d)(b:S (sh (I a) (ln a-ln a)) (ln a)=d*S (sh (I q) (ln a-ln a)) (ln a)+r):
  val q=val a/d/\r=val a%d:=by
 have e:S (sh (I a) (ln a-ln a)) (ln a)=val a:=MF (λk _=>by unfold sh;congr 1;omega);have f:S (sh (I q) (ln a-ln a)) (ln a)=val q:=by unfold val;rw[g];exact MF (λk _=>by unfold sh;congr 1;omega)
 rw[e,f] at b;rw[b];constructor
 .rw[Nat.mul_add_div D,ZF c,Dh]
 rw[Nat.mul_add_mod,Ud c]
def val_one(r:Nat):val [r]=r:=by simp[val,S,I]
theorem b2g(h:TC w a d aa ca (ln a) q r W)(m:d<1000000000)(f:w.1.size<=J)(g:W.1[J]?=Q (.deferred (Q []))):
  ((W.alloc (.cells #[M G r] 3)).setCell ⟨w.1.size+1,0,O⟩ (AK (Q ⟨w.1.size+2,0,O⟩) (Bn q).length (ln a))).drew.1[J]?=Q (.deferred (Q []))/\
  (((W.alloc (.cells #[M G r] 3)).setCell ⟨w.1.size+1,0,O⟩ (AK (Q ⟨w.1.size+2,0,O⟩) (Bn q).length (ln a))).drew.putObj J (.deferred O)).cell? ⟨w.1.size+1,0,O⟩=Q (AK (Q ⟨w.1.size+2,0,O⟩) (Bn q).length (ln a))/\
  uO w a d (Ac (BO #[AK (Q ⟨w.1.size+2,0,O⟩) (Bn q).length (ln a),AK (Q ⟨W.1.size,0,O⟩) (Bn [r]).length 1])) (((W.alloc (.cells #[M G r] 3)).setCell ⟨w.1.size+1,0,O⟩ (AK (Q ⟨w.1.size+2,0,O⟩) (Bn q).length (ln a))).drew.putObj J (.deferred O)):=by
 have⟨X,b⟩:=AP (((W.alloc (.cells #[M G r] 3)).setCell ⟨w.1.size+1,0,O⟩ (AK (Q ⟨w.1.size+2,0,O⟩) (Bn q).length (ln a))).drew);have n:w.1.size<W.1.size:=h.bd.lt;have k1:X.1[J]?=Q (.deferred (Q [])):=by
  rw[<-b];exact(((KeepsOthers.alloc _ _).trans (Gq _ _ _)).trans (mK _)).same J _ g F
 have k2:Bx X (w.1.size+1) 25 (AK (Q ⟨w.1.size+2,0,O⟩) (Bn q).length (ln a)):=by rw[<-b];exact((h.bq.alloc _).put _).drew
 have j:Row X (w.1.size+2) (ln a) q:=by rw[<-b];exact((h.row.alloc _).Bo AV _).drew
 have k:Row X W.1.size 1 [r]:=by
  rw[<-b];exact((row_one W r).Bo (by have:=h.bq.lt;simp;omega) _).drew
 have l:At w.1.size w X:=by
  rw[<-b];exact(((h.low.alloc D _).setCell (p:=⟨w.1.size+1,0,O⟩) AV _)).drew
 rw[b];have c:=CN.putObj (n0:=w.1.size) (.deferred O) k1 F f;have⟨v1,v2⟩:=b0u h.len h.lt h.eq;have i:Small [r]:=by
  intro x hx;have e:x=r:=by simpa using hx
  have:=h.lt;rw[e];show r<1000000000;omega
 refine⟨k1,c.cell k2.cell,_,_,Bn q,Bn [r],F,⟨_,_,F,D,(j.stays c).trimmed⟩,Sm h.Bf,by rw[Sn];exact v1,⟨_,_,F,D,(k.stays c).trimmed⟩,Sm i,by rw[Sn,val_one];exact v2,l.trans c.below⟩
def nA(w:V)(a:List Nat)(R:AN)(d:Nat)(C:BH w w.1.size R a)(P:Small a)(ad:1<=d)(ae:d<1000000000)(am:ln a<=2000000):
  AZ AO 346 #[R,M G d] w (uO w a d):=by
 obtain⟨aa,ca,rfl,ak,ab,ac⟩:=id C;clear ac;unfold BM at ab;refine(De (n:=9)).1 (R8 func346 F trivial ?_);simp only[ntmps346,Nn,FX,Jy,Hw,Nat.reduceSub,OX,PQ,PS,PR,Lm,LO];have ag:=jC (ln a) D;gi_wp2_with(refine⟨trivial,?_⟩;gi_at_call 348;refine(De.2 (Xw _ _ _ _)).mono ?_;rintro e w' ⟨rfl,rfl⟩)
 refine VM (gf:=363) (lb:=#[Ap (Q ⟨w.1.size+4,0,O⟩)]) F (FZ func363 U F)
  (Xu (w.1.size+4) aa (ln a) ca (λj x=>x=I a j) D) (λk x ⟨_,_,e⟩=>by rw[e];rfl)
  (uY w a d aa ca) (λ_ _ _=>False) (λk W Y ⟨q,r,h⟩ N=>⟨q,r,h.stays N Bk⟩) (λc k W Y h N=>h) (λk W ⟨q,r,h⟩=>fW h.it h.sa) ?BI ?round ?done ?stop
 case BI=>
  have B:At w.1.size w (((((w.alloc (.cells #[M G d] 3)).alloc (.cells #[AK (Q ⟨w.1.size+1+1,0,O⟩) (ln a) (ln a)] 25)).alloc (.cells (UL (ln a)) 3)).alloc (.cells #[M G 0] 3)).alloc (.cells #[AK aa (ln a) ca] 25)):=
   (WD w _ _ _).trans ((((Ad _ _).alloc Bk _).alloc Bk _))
  refine⟨F7 (ln a) 0,0,((((Bx.new w _ _).alloc _).alloc _).alloc _).alloc _,(((Bx.at_ AV).alloc _).alloc _).alloc _,?_,(Bx.at_ AV).alloc _,Bx.at_ AV,C.below B,AV,wB _,D,by simp[S],B⟩;have:=kF ((w.alloc (.cells #[M G d] 3)).alloc (.cells #[AK (Q ⟨w.1.size+1+1,0,O⟩) (ln a) (ln a)] 25)) (ln a) D;simp only[D5] at this;exact(this.alloc _).alloc _
 case round=>
  intro l k x W K hk hx hi b;obtain⟨v,rfl,rfl⟩:=hx;have s:=A b;clear b
  gi_wp2
  refine s _ (λW2 af _=> ?_);clear s hi;obtain⟨q,r,h⟩:=af;have hn:=a9S h hk P;have b0:=h.bd.cell;have Z:=h.bq.cell;have b2:=h.br.cell;have f2:=h.br.frozen;have f3:=h.row.frozen (ln a-1-k);have b3:=h.row.cell (j:=ln a-1-k) (by rw[h.len];omega);have ba:I a (ln a-1-k)<1000000000:=Du P _;have hr:r<d:=h.lt;have i1:((ln a-1-k:Nat):Int)<ln a:=D;have u:=A hn.2;have m:=hn.1;clear hn;have al:¬d=0:=D;have H:r<1000000000:=D;have an:r*1000000000<1000000000000000000:=D;have w6:=a52 (a:=I a (ln a-1-k)) ba H ad;have w7:=a5p (a:=I a (ln a-1-k)) (r:=r) (d:=d)
  gi_wp2
  refine Ui U (VK U (by rintro⟨_,_,h⟩;exact h) _ _ _ _ ?_)
  try(change wpAny _ _ _ _ _ _ _ (World.drew _))
  refine DW (i:=1) (v:= ?va1) F U U U (λ_ _ _ h=>h) (Cf ⟨BE,?hya1⟩) ?_
  case hya1=>(intro w;go_simp;try with_reducible rfl)
  refine DW (i:=2) (v:= ?va2) F U U U (λ_ _ _ h=>h) (Cf ⟨BE,?hya2⟩) ?_
  case hya2=>(intro w;go_simp;try with_reducible rfl)
  refine DW (i:=5) (v:= ?va3) F U U U (λ_ _ _ h=>h) (Cf ⟨BE,?hya3⟩) ?_
  case hya3=>(intro w;go_simp;try with_reducible rfl)
  refine F6 (rs:=[0,3,6]) U AV ?_;refine Df F (λK b=> ?_) ?_
  .go_simp;refine b _ _ ?_;clear b K;refine F6 (rs:=[3,6]) U AV ?_;refine Df F (λK b=> ?_) ?_
   .go_simp;refine b _ _ ?_;clear b K;refine DW (i:=4) (v:= ?va4) F U U U (λ_ _ _ h=>h) (Cf ⟨BE,?hya4⟩) ?_
    case hya4=>(intro w;go_simp;try with_reducible rfl)
    refine DW (i:=8) (v:= ?va5) F U U U (λ_ _ _ h=>h) (Cf ⟨BE,?hya5⟩) ?_
    case hya5=>(intro w;go_simp;try with_reducible rfl)
    refine F6 (rs:=[6,9]) U AV ?_;refine Df F (λK b=> ?_) ?_
    .go_simp;refine b _ _ ?_;clear b K;refine DW (i:=7) (v:= ?va6) F U U U (λ_ _ _ h=>h) (Cf ⟨BE,?hya6⟩) ?_
     case hya6=>(intro w;go_simp;try with_reducible rfl)
     exact XB
    refine Df F (λK b=> ?_) ?_
    .go_simp;refine b _ _ ?_;clear b K;refine F6 (rs:=[6]) U AV ?_;refine Df F (λK b=> ?_) ?_
     .go_simp;refine b _ _ ?_;clear b K;refine DW (i:=7) (v:= ?va7) F U U U (λ_ _ _ h=>h) (Cf ⟨BE,?hya7⟩) ?_
      case hya7=>(intro w;go_simp;try with_reducible rfl)
      exact yy
     exact F5
    exact F5
   refine Df F (λK b=> ?_) ?_
   .go_simp;refine b _ _ ?_;clear b K;refine DW (i:=7) (v:= ?va8) F U U U (λ_ _ _ h=>h) (Cf ⟨BE,?hya8⟩) ?_
    case hya8=>(intro w;go_simp;try with_reducible rfl)
    refine F6 (rs:=[3]) U AV ?_;refine Df F (λK b=> ?_) ?_
    .go_simp;refine b _ _ ?_;clear b K;refine DW (i:=4) (v:= ?va9) F U U U (λ_ _ _ h=>h) (Cf ⟨BE,?hya9⟩) ?_
     case hya9=>(intro w;go_simp;try with_reducible rfl)
     refine DW (i:=8) (v:= ?va10) F U U U (λ_ _ _ h=>h) (Cf ⟨BE,?hya10⟩) ?_
     case hya10=>(intro w;go_simp;try with_reducible rfl)
     exact XB
    exact F5
   exact F5
  refine Df F (λK b=> ?_) ?_
  .go_simp;refine b _ _ ?_;clear b K;refine DW (i:=4) (v:= ?va11) F U U U (λ_ _ _ h=>h) (Cf ⟨BE,?hya11⟩) ?_
   case hya11=>(intro w;go_simp;try with_reducible rfl)
   refine F6 (rs:=[0,6]) U AV ?_;refine Df F (λK b=> ?_) ?_
   .go_simp;refine b _ _ ?_;clear b K;refine DW (i:=8) (v:= ?va12) F U U U (λ_ _ _ h=>h) (Cf ⟨BE,?hya12⟩) ?_
    case hya12=>(intro w;go_simp;try with_reducible rfl)
    refine F6 (rs:=[6,9]) U AV ?_;refine Df F (λK b=> ?_) ?_
    .go_simp;refine b _ _ ?_;clear b K;refine DW (i:=7) (v:= ?va13) F U U U (λ_ _ _ h=>h) (Cf ⟨BE,?hya13⟩) ?_
     case hya13=>(intro w;go_simp;try with_reducible rfl)
     exact XB
    refine Df F (λK b=> ?_) ?_
    .go_simp;refine b _ _ ?_;clear b K;refine F6 (rs:=[6]) U AV ?_;refine Df F (λK b=> ?_) ?_
     .go_simp;refine b _ _ ?_;clear b K;refine DW (i:=7) (v:= ?va14) F U U U (λ_ _ _ h=>h) (Cf ⟨BE,?hya14⟩) ?_
      case hya14=>(intro w;go_simp;try with_reducible rfl)
      exact yy
     exact F5
    exact F5
   refine Df F (λK b=> ?_) ?_
   .go_simp;refine b _ _ ?_;clear b K;refine DW (i:=7) (v:= ?va15) F U U U (λ_ _ _ h=>h) (Cf ⟨BE,?hya15⟩) ?_
    case hya15=>(intro w;go_simp;try with_reducible rfl)
    refine F6 (rs:=[0]) U AV ?_;refine Df F (λK b=> ?_) ?_
    .go_simp;refine b _ _ ?_;clear b K;refine DW (i:=8) (v:= ?va16) F U U U (λ_ _ _ h=>h) (Cf ⟨BE,?hya16⟩) ?_
     case hya16=>(intro w;go_simp;try with_reducible rfl)
     exact XB
    exact F5
   exact F5
  refine Df F (λK b=> ?_) ?_
  .go_simp;refine b _ _ ?_;clear b K;refine DW (i:=7) (v:= ?va17) F U U U (λ_ _ _ h=>h) (Cf ⟨BE,?hya17⟩) ?_
   case hya17=>(intro w;go_simp;try with_reducible rfl)
   refine F6 (rs:=[0,3]) U AV ?_;refine Df F (λK b=> ?_) ?_
   .go_simp;refine b _ _ ?_;clear b K;refine F6 (rs:=[3]) U AV ?_;refine Df F (λK b=> ?_) ?_
    .go_simp;refine b _ _ ?_;clear b K;refine DW (i:=4) (v:= ?va18) F U U U (λ_ _ _ h=>h) (Cf ⟨BE,?hya18⟩) ?_
     case hya18=>(intro w;go_simp;try with_reducible rfl)
     refine DW (i:=8) (v:= ?va19) F U U U (λ_ _ _ h=>h) (Cf ⟨BE,?hya19⟩) ?_
     case hya19=>(intro w;go_simp;try with_reducible rfl)
     exact XB
    exact F5
   refine Df F (λK b=> ?_) ?_
   .go_simp;refine b _ _ ?_;clear b K;refine DW (i:=4) (v:= ?va20) F U U U (λ_ _ _ h=>h) (Cf ⟨BE,?hya20⟩) ?_
    case hya20=>(intro w;go_simp;try with_reducible rfl)
    refine F6 (rs:=[0]) U AV ?_;refine Df F (λK b=> ?_) ?_
    .go_simp;refine b _ _ ?_;clear b K;refine DW (i:=8) (v:= ?va21) F U U U (λ_ _ _ h=>h) (Cf ⟨BE,?hya21⟩) ?_
     case hya21=>(intro w;go_simp;try with_reducible rfl)
     exact XB
    exact F5
   exact F5
  exact F5
 case done=>
  rintro J W t ⟨q,r,h⟩ b;have L:=h.row;have m:=h.len;have Z:=h.bq.cell;have f1:=h.bq.frozen;have b2:=h.br.cell;have H:r<1000000000:=by have:=h.lt;omega
  have ah:∀o,(W.alloc o).cell? ⟨w.1.size+1,0,O⟩=Q (AK (Q ⟨w.1.size+2,0,O⟩) (ln a) (ln a)):=λo=>(h.bq.alloc o).cell
  have aj:∀o,(W.alloc o).frozen? ⟨w.1.size+1,0,O⟩=AM:=λo=>(h.bq.alloc o).frozen
  have ai:∀o,(W.alloc o).cell? ⟨w.1.size+3,0,O⟩=Q (M G r):=λo=>(h.br.alloc o).cell
  have E:∀X:V,Row (X.alloc (.cells #[M G r] 3)) X.1.size 1 [r]:=λX=>row_one X r
  have T:=A E;have z:=A L;have y:=A m;have f:=A (b2g h ae RJ b);clear E L m ag
  gi_wp2
  refine a4P ?_;go_region_with (go_at_call 344;first|((with_reducible refine(U9 (g:=w.1.size+2) (l:=q) (Row.drew z.o) y.o).mono ?_);rintro e w' ⟨rfl,rfl⟩)|((with_reducible refine(U9 (g:=w.1.size+2) (l:=q) (Row.drew (z.o.alloc _)) y.o).mono ?_);rintro e w' ⟨rfl,rfl⟩)|((with_reducible refine(U9 (l:=[r]) (n:=1) (Row.drew (T.o W)) (eD)).mono ?_);rintro e w' ⟨rfl,rfl⟩))
  all_goals
   refine Tx ?_
   gi_wp2
   refine⟨AV,.inl ⟨_,_,rfl,PV f.1,?_⟩⟩;exact⟨BO #[AK (Q ⟨w.1.size+2,0,O⟩) (Bn q).length (ln a),AK (Q ⟨W.1.size,0,O⟩) (Bn [r]).length 1],by simp[results,results346,go_sem,f.2.1],f.2.2⟩
 rintro J c k W t hk h;exact h.elim
end
end Go.Proofs.YtalhfkdhdggdaaaGreatDoor
namespace Kp
section
open Go
def CJ(b:UInt8):Bool:=48<=b&&b<=57
def Th:List UInt8:=[48,49,50,51,52,53,54,55,56,57]
def qP(b:UInt8):Th.contains b=CJ b:=by
 have h:∀n:Fin 256,Th.contains (GR n.1)=CJ (GR n.1):=GG;have:=h ⟨b.toNat,b.toNat_lt⟩;simpa using this
theorem oD(l:List UInt8):Lib.trimS l Th=[]↔l.all CJ=AL:=by
 have h1:∀m,Lib.trimLeftS m Th=[]↔m.all CJ=AL:=by
  intro m;unfold Lib.trimLeftS;simp only[qP]
  induction m with
  |nil=>simp
  |cons b m d=>
   by_cases a:CJ b=AL
   .simp[a,d]
   simp[a]
 unfold Lib.trimS;rw[h1];unfold Lib.trimRightS;simp only[qP];constructor
 .intro h;rw[PN] at h⊢;intro b a;have h2:∀m:List UInt8,(∀x∈m.dropWhile (λx=>CJ x),CJ x=AL)->∀x∈m,CJ x=AL:=by
   intro m
   induction m with
   |nil=>grind
   |cons c m d=>
    grind [CJ,List.dropWhile_cons_of_pos,List.dropWhile_cons_of_neg]
  exact h2 _ (λx hx=>h x (List.mem_reverse.2 hx)) b (List.mem_reverse.2 a)
 grind [List.dropWhile_suffix]
def Ag(l:List UInt8):List UInt8:=Lib.trimPrefix l [45]
def Eu(l:List UInt8):Bool:=(Ag l).all CJ&& !(Ag l).isEmpty&&(!((Ag l).head?==Q 48)||l==[48])
def IN(l:List UInt8):Int:=if Eu l then(if 300<(Ag l).length then 4 else 0) else 11
def a6Y{l r:List UInt8}{c:UInt8}(h:Ag l=c::r)(a:c=48)(b:¬l=[48]):IN l=11:=by
 grind [IN,Eu]
def pJ{l r:List UInt8}{c:UInt8}(h:Ag l=c::r)(a:(!(Lib.trimS (c::r) Th).isEmpty)=AL):IN l=11:=by
 have:(c::r).all CJ=AM:=by
  grind [oD]
 grind [IN,Eu]
def bt{l r:List UInt8}{c:UInt8}(h:Ag l=c::r)(a:¬c=48\/l=[48])(b:(!(Lib.trimS (c::r) Th).isEmpty)=AM):IN l=if 300<ln r+1 then 4 else 0:=by
 grind [oD,Eu,IN]
def xJ{c:UInt8}(h:(c.toNat:Int)=48):c=48:=Wd Al
def Cv(b:UInt8):Nat:=b.toNat-48
theorem Py{b:UInt8}(h:CJ b=AL):Cv b<10/\48<=b.toNat/\b.toNat<=57:=by
 grind [CJ,UInt8.le_iff_toNat_le,Cv]
def BY(l:List UInt8):Nat:=l.foldl (λa b=>a*10+Cv b) 0
theorem nL(l:List UInt8)(b:UInt8):BY (l++[b])=BY l*10+Cv b:=by simp[BY]
def a0p{b:UInt8}(h:CJ b=AL):Lib.digitVal b=Q (Cv b):=by
 have:=Py h;unfold Lib.digitVal;rw[Aj D];rfl
def a3F(l:List UInt8)(h:l.all CJ=AL):∀c,Lib.decFrom c l=Q (l.foldl (λa b=>a*10+Cv b) c):=by
 induction l with
 |nil=>intro c;rfl
 |cons b r d=>
  simp[SL,Ez] at h;simp[Lib.decFrom,a0p h.1]
  grind
def jj{l:List UInt8}(h:l.all CJ=AL)(hn:l≠[]):Lib.decNat l=Q (BY l):=by
 unfold Lib.decNat;rw[Af Al,a3F l h];rfl
def dg(l:List UInt8)(p:Nat):Nat:=Cv (l.getD (ln l-1-p) 48)
def low(l:List UInt8):Nat->Nat
 |0=>0
 |i+1=>low l i+dg l i*10^i
def jP(l:List UInt8):∀a:Nat,l.foldl (λa b=>a*10+Cv b) a=a*10^ln l+BY l:=by
 induction l with
 |nil=>grind [BY]
 |cons b r c=>
  have e:BY (b::r)=r.foldl _ _:=rfl
  grind
theorem VQ(b:UInt8)(r:List UInt8):BY (b::r)=Cv b*10^ln r+BY r:=by
 have:=jP r (Cv b);unfold BY at *
 grind
def a7e(b:UInt8)(r:List UInt8)(i:Nat)(hi:i<=ln r):low (b::r) i=low r i:=by
 induction i with
 |zero=>rfl
 |succ i a=>
  grind [low,dg]
def b0C(l:List UInt8):low l (ln l)=BY l:=by
 induction l with
 |nil=>rfl
 |cons b r a=>
  rw[FX,low,a7e b r _ (AS _),VQ];have:dg (b::r) (ln r)=Cv b:=by grind [dg]
  grind
def wY{l:List UInt8}(h:l.all CJ=AL)(i:Nat):dg l i<10:=by
 unfold dg;rw[CM];cases hx:l[ln l-1-i]? with
 |none=>decide
 |some b=>
  grind [Py]
structure Ub(l:List UInt8)(i:Nat)(ad:List Nat):Prop where
 Bf:Small ad
 eq:S (I ad) (ln ad)=low l i
 part:I ad (i/9)<10^(i%9)
 zero:∀k,i/9<k->I ad k=0
def a9T(i:Nat):10^(i%9)*B^(i/9)=10^i:=by
 have:B=10^9:=rfl;rw[this,<-Nat.pow_mul,<-eh]
 grind
theorem a5V{f g:Nat->Nat}(b:j<n)(a:∀k,k≠j->g k=f k)(hx:g j=f j+x):S g n=S f n+x*B^j:=by
 have h:=iK (m:=n) (j:=j) (n:=1) D (λk hk=>a k D) (λk hk _=>a k D);have e:∀h,S (sh h j) 1=h j:=λh=>by unfold S S sh;simp
 grind
theorem Ub.step{l:List UInt8}(h:Ub l i ad)(c:l.all CJ=AL)(hn:i/9<ln ad)(f:ln ag=ln ad)
  (a:∀k,k≠i/9->I ag k=I ad k)(hx:I ag (i/9)=I ad (i/9)+dg l i*10^(i%9)):Ub l (i+1) ag:=by
 have g:=wY c i;have m:I ag (i/9)<10^(i%9+1):=by
  have:dg l i*10^(i%9)<=9*10^(i%9):=Gz _ D;have:=h.part;omega
 have j:I ag (i/9)<B:=by
  have:10^(i%9+1)<=10^9:=JK Z D
  grind
 refine⟨?_,?_,?_,?_⟩
 .intro x hx';have⟨k,hk,e⟩:=JJ.1 hx';rw[<-e,<-ON hk];by_cases d:k=i/9
  .grind
  rw[a k d];exact Du h.Bf k
 .rw[f,a5V hn a hx,h.eq,low,Wp,a9T]
 .by_cases h8:i%9=8
  .have e1:(i+1)/9=i/9+1:=D;have b:(i+1)%9=0:=D;rw[b,a _ D,h.zero _ D];decide
  grind
 intro k hk;have:i/9<k:=D;rw[a k D];exact h.zero k this
def Ub.BI(l:List UInt8)(n:Nat):Ub l 0 (F7 n 0):=by
 have a:∀k,I (F7 n 0) k=0:=λk=>by unfold I;grind
 refine⟨λd b=>Al,?_,Al,λk _=>a k⟩;rw[kL (λk _=>a k)];rfl
abbrev By:Type:=List UInt8
structure Ed where
 Ab:Int
 Ae:Int
 sx:Int
 sy:Int
 ID:Int
 II:Int
 DX:Bool
 I9:Int
 IF:Int
 EL:Int
 E9:By
 E8:By
 EE:By
 EK:By
 Be:Int
 Eg:Int
 Ef:Int
 Ch:Int
 Ck:Int
 Co:Int
 Cp:Int
 Cr:Int
 Aa:List (Int×Int)
 FJ:Int
 FI:Int
 FH:By
 I8:Int
 I7:Int
 Hz:Int
 IG:Int
 IC:Int
 GW:Int
 GU:Int
 Gb:Int
 GY:Int
 Av:Int
 Ct:By
def BZ:Ed:=⟨0,0,0,0,0,0,AM,0,0,0,[],[],[],[],0,0,0,0,0,0,0,0,[],0,0,[],0,0,0,0,0,0,0,0,0,0,[]⟩
def GH(e:Ed):Ed:=
 if e.Ab=1 then{BZ with Ab:=e.Ab,Ct:=e.Ct}
 else if e.Ab=2 then{BZ with Ab:=e.Ab,Ae:=e.Ae,sx:=e.sx,sy:=e.sy,ID:=e.ID,II:=e.II,DX:=e.DX,I9:=e.I9,IF:=e.IF}
 else if e.Ab=3\/e.Ab=12 then{BZ with Ab:=e.Ab,Ae:=e.Ae,Av:=e.Av}
 else if e.Ab=4\/e.Ab=8 then{BZ with Ab:=e.Ab,Av:=e.Av}
 else if e.Ab=5 then{BZ with Ab:=e.Ab,Ae:=e.Ae,EL:=e.EL,E9:=e.E9,E8:=e.E8,EE:=e.EE,EK:=e.EK}
 else if e.Ab=6 then{BZ with Ab:=e.Ab,Be:=e.Be,Eg:=e.Eg,Ef:=e.Ef}
 else if e.Ab=7 then{BZ with Ab:=e.Ab,Ae:=e.Ae,Ch:=e.Ch,Ck:=e.Ck,Co:=e.Co,Cp:=e.Cp,Cr:=e.Cr,Aa:=e.Aa}
 else if e.Ab=9 then{BZ with Ab:=e.Ab,GW:=e.GW,GU:=e.GU,Gb:=e.Gb,GY:=e.GY}
 else if e.Ab=10 then{BZ with Ab:=e.Ab,Ae:=e.Ae,FJ:=e.FJ,FI:=e.FI,FH:=e.FH}
 else if e.Ab=11 then{BZ with Ab:=e.Ab,I8:=e.I8,I7:=e.I7,Hz:=e.Hz,IG:=e.IG,IC:=e.IC}
 else{BZ with Ab:=e.Ab}
def GK(bs s:By):By:=if bs=[] then s else bs++32::s
def D7(bs:By)(ws:List By):By:=ws.foldl GK bs
theorem Qg(bs:By)(w:By)(ws:List By):D7 bs (w::ws)=D7 (GK bs w) ws:=rfl
theorem YL(bs:By)(a b:List By):D7 bs (a++b)=D7 (D7 bs a) b:=by simp[D7]
def Rw(ws:List By):By:=ws.flatMap (λw=>32::w)
theorem nE{bs:By}(h:bs≠[])(ws:List By):D7 bs ws=bs++Rw ws:=by
 induction ws generalizing bs with
 |nil=>simp[D7,Rw]
 |cons w ws a=>
  rw[Qg];unfold GK;rw[Af h,a AV];simp[Rw]
theorem YC{s:By}(h:(32:UInt8)∉s):Da s [32]=[s]:=by
 unfold Da;rw[eI,yD h];rfl
def a6R{a r:By}(h:(32:UInt8)∉a):Lib.index (a++32::r) [32]=(ln a:Int):=by
 induction a with
 |nil=>grind [Lib.index]
 |cons b a c=>
  grind [Lib.index]
theorem bU{a r:By}(h:(32:UInt8)∉a):Da (a++32::r) [32]=a::Da r [32]:=by
 unfold Da;rw[eI,eI,List.count_append,yD h,List.count_cons_self,IU,Np];rw[Np 1];simp[Lib.splitK];rw[a6R h];simp
theorem a2A(w:By)(ws:List By)(h:∀x∈w::ws,(32:UInt8)∉x):Da (w++Rw ws) [32]=w::ws:=by
 induction ws generalizing w with
 |nil=>grind [Rw,YC]
 |cons v ws a=>
  grind [Rw,bU]
def Dy:List By:=[[99,111,109,109,111,110],[104,105,112,106,97,99,107],[118,97,108,108,101,121,106,97,99,107],[99,114,105,112,112,108,101],[111,116,104,101,114],[104,105,112],[118,97,108,108,101,121],[114,105,100,103,101],[112,117,114,108,105,110],[112,108,97,116,101],[116,114,105,109,109,101,114],[104,101,97,100,101,114]]
abbrev Qt:By:=[110,97,109,101]
abbrev P5:By:=[115,105,100,101]
abbrev Ql:By:=[115,112,97,99,105,110,103]
abbrev MC:By:=[112,117,114,108,105,110]
abbrev LY:By:=[111,112,101,110,105,110,103]
abbrev LI:By:=[115,105,122,101]
abbrev Jv:By:=[98,97,114]
abbrev P4:By:=[107,101,114,102]
abbrev Q4:By:=[116,105,108,101]
abbrev ML:By:=[108,111,97,100]
abbrev MN:By:=[115,112,97,110]
abbrev OJ:By:=[114,101,109,111,118,101]
def kindOf(w:By):Int:=
 if w=Qt then 1
 else if w=P5 then 2
 else if w=Ql then 3
 else if w=MC then 4
 else if w=LY then 5
 else if w=LI then 6
 else if w=Jv then 7
 else if w=P4 then 8
 else if w=Q4 then 9
 else if w=ML then 10
 else if w=MN then 11
 else if w=OJ then 12
 else 0
def Hd(n:Int):Bool:=n==4||n==5||n==6||n==7||n==10||n==11
def Gc(n:Int):By:=
 if n=4 then MC
 else if n=5 then LY
 else if n=6 then LI
 else if n=7 then Jv
 else if n=10 then ML
 else if n=11 then MN
 else []
def aI(w:By):Int:=
 if w=MC then 4
 else if w=LY then 5
 else if w=LI then 6
 else if w=Jv then 7
 else if w=ML then 10
 else if w=MN then 11
 else 0
def LJ(z:Int):By:=Dy.getD (z-1).toNat []
def Kj(w:By):Int:=if w∈Dy then(Dy.idxOf w:Int) else -1
theorem wF(h1:1<=z)(h2:z<=12):1+Kj (LJ z)=z:=by
 have h:∀n:Fin 12,1+Kj (Dy.getD n.1 [])=(n.1)+1:=GG;have:=h ⟨(z-1).toNat,D⟩;unfold LJ;rw[this];show((z-1).toNat)+1=z;omega
theorem a2Z(h1:1<=z)(h2:z<=12):(32:UInt8)∉LJ z:=by
 have h:∀n:Fin 12,(32)∉Dy.getD n.1 []:=GG;exact h ⟨(z-1).toNat,D⟩
def bC{n:Int}(h:Hd n=AL):aI (Gc n)=n:=by
 exact zI
def a41(n:Int):(32:UInt8)∉Gc n:=by
 exact fM
def WA(b:UInt8):Bool:=(AQ (97<=b.toNat)&&AQ (b.toNat<=122))||(AQ (65<=b.toNat)&&AQ (b.toNat<=90))||(AQ (48<=b.toNat)&&AQ (b.toNat<=57))
def IY(s:By):Bool:=s.all WA&& !s.isEmpty&&AQ (ln s<=16)
def a3f{s:By}(h:IY s=AL):(32:UInt8)∉s:=by
 unfold IY at h;simp[Ez,PN] at h;intro hm;have:=h.1.1 _ hm;revert this;decide
def Dd(l:List Int):List By:=l.map CY
def Ev(l:List (Int×Int)):List Int:=l.flatMap (λg=>[g.1,g.2])
def TE(b:Bool):Int:=if b then 1 else 0
def Cj(e:Ed):List Int:=
 if e.Ab=1 then []
 else if e.Ab=2 then [e.Ae,e.sx,e.sy,e.ID,e.II,e.I9,e.IF,TE e.DX]
 else if e.Ab=3 then [e.Ae,e.Av]
 else if e.Ab=4 then [e.Av]
 else if e.Ab=5 then [e.Ae,e.EL]
 else if e.Ab=6 then [e.Eg,e.Ef]
 else if e.Ab=7 then [e.Ae,e.Ch,e.Ck,e.Co,e.Cp,e.Cr]++Ev e.Aa
 else if e.Ab=8 then [e.Av]
 else if e.Ab=9 then [e.GW,e.GU,e.Gb,e.GY]
 else if e.Ab=10 then [e.Ae,e.FJ,e.FI]
 else if e.Ab=11 then [e.I8,e.I7,e.Hz,e.IG,e.IC]
 else [e.Ae]
def numsOf(e:Ed):List By:=
 if e.Ab=5 then [e.E9,e.E8,e.EE,e.EK]
 else if e.Ab=10 then [e.FH]
 else []
def El(e:Ed):List By:=
 if e.Ab=1 then [Qt,e.Ct]
 else if e.Ab=2 then [P5]
 else if e.Ab=3 then [Ql]
 else if e.Ab=4 then [MC]
 else if e.Ab=5 then [LY]
 else if e.Ab=6 then [LI,LJ e.Be]
 else if e.Ab=7 then [Jv]
 else if e.Ab=8 then [P4]
 else if e.Ab=9 then [Q4]
 else if e.Ab=10 then [ML]
 else if e.Ab=11 then [MN]
 else [OJ,Gc e.Av]
def EU(e:Ed):List By:=El e++Dd (Cj e)++numsOf e
def Ic(n:Int):Bool:=AQ (n< -1073741824)||AQ (1073741824<n)
def Gv(x:Int)(l:List Int):Int:=if l.any Ic then 2 else x
def FT(b:By->Int)(x:Int)(l:List By):Int:=l.foldl (λx a=>if x=0 then b a else x) x
open Classical in
noncomputable def Dr(a:By->Int)(e:Ed):By×Int:=
 if e.Ab<1\/12<e.Ab then([],8)
 else if¬e=GH e then([],9)
 else if e.Ab=1/\IY e.Ct=AM then([],13)
 else if(e.Ab=6/\(e.Be<1\/12<e.Be))\/(e.Ab=12/\Hd e.Av=AM) then([],8)
 else if 16<ln e.Aa then([],4)
 else if¬Gv 0 (Cj e)=0 then([],Gv 0 (Cj e))
 else if¬FT a 0 (numsOf e)=0 then([],FT a 0 (numsOf e))
 else(D7 [] (EU e),0)
abbrev DR:Type:=List By×Bool
def rW(r:DR):By×DR:=match r.1 with
 |[]=>([],([],AL))
 |w::t=>(w,(t,r.2))
def Mv(w:By):Int×Bool:=match Lib.atoiAll w with
 | .ok v=>(v,AM)
 | .range=>(Lib.atoiSat w,AL)
 |_=>(0,AL)
def rI(r:DR):Int×DR:=((Mv (rW r).1).1,((rW r).2.1,(rW r).2.2||(Mv (rW r).1).2))
def rG:Nat->DR->List (Int×Int)×DR
 |0,r=>([],r)
 |n+1,r=>match r.1 with
  |[]=>([],r)
  |_::_=>(((rI r).1,(rI (rI r).2).1)::(rG n (rI (rI r).2).2).1,(rG n (rI (rI r).2).2).2)
def GD:Nat->DR->List Int×DR
 |0,r=>([],r)
 |n+1,r=>((rI r).1::(GD n (rI r).2).1,(GD n (rI r).2).2)
def UZ:Nat->DR->List By×DR
 |0,r=>([],r)
 |n+1,r=>((rW r).1::(UZ n (rW r).2).1,(UZ n (rW r).2).2)
def rE(r:DR):Ed×DR:=
 let k:=kindOf (rW r).1
 let r1:=(rW r).2
 let e:Ed:={BZ with Ab:=k}
 if k=1 then({e with Ct:=(rW r1).1},(rW r1).2)
 else if k=2 then
  let l:=(GD 8 r1).1
  ({e with Ae:=l.getD 0 0,sx:=l.getD 1 0,sy:=l.getD 2 0,ID:=l.getD 3 0,II:=l.getD 4 0,I9:=l.getD 5 0,IF:=l.getD 6 0,DX:=l.getD 7 0==1},(GD 8 r1).2)
 else if k=3 then({e with Ae:=(GD 2 r1).1.getD 0 0,Av:=(GD 2 r1).1.getD 1 0},(GD 2 r1).2)
 else if k=4\/k=8 then({e with Av:=(rI r1).1},(rI r1).2)
 else if k=5 then
  let l:=(GD 2 r1).1
  let ws:=(UZ 4 (GD 2 r1).2).1
  ({e with Ae:=l.getD 0 0,EL:=l.getD 1 0,E9:=ws.getD 0 [],E8:=ws.getD 1 [],EE:=ws.getD 2 [],EK:=ws.getD 3 []},(UZ 4 (GD 2 r1).2).2)
 else if k=6 then
  let l:=(GD 2 (rW r1).2).1
  ({e with Be:=1+Kj (rW r1).1,Eg:=l.getD 0 0,Ef:=l.getD 1 0},(GD 2 (rW r1).2).2)
 else if k=7 then
  let l:=(GD 6 r1).1
  let r2:=(GD 6 r1).2
  ({e with Ae:=l.getD 0 0,Ch:=l.getD 1 0,Ck:=l.getD 2 0,Co:=l.getD 3 0,Cp:=l.getD 4 0,Cr:=l.getD 5 0,Aa:=(rG (ln r2.1) r2).1},(rG (ln r2.1) r2).2)
 else if k=9 then
  let l:=(GD 4 r1).1
  ({e with GW:=l.getD 0 0,GU:=l.getD 1 0,Gb:=l.getD 2 0,GY:=l.getD 3 0},(GD 4 r1).2)
 else if k=10 then
  let l:=(GD 3 r1).1
  ({e with Ae:=l.getD 0 0,FJ:=l.getD 1 0,FI:=l.getD 2 0,FH:=(rW (GD 3 r1).2).1},(rW (GD 3 r1).2).2)
 else if k=11 then
  let l:=(GD 5 r1).1
  ({e with I8:=l.getD 0 0,I7:=l.getD 1 0,Hz:=l.getD 2 0,IG:=l.getD 3 0,IC:=l.getD 4 0},(GD 5 r1).2)
 else if k=12 then({e with Av:=aI (rW r1).1,Ae:=(rI (rW r1).2).1},(rI (rW r1).2).2)
 else(e,r1)
open Classical in
noncomputable def QZ(a:By->Int)(s:By):Ed×Int:=
 if 65536<ln s then(BZ,4)
 else if(rE (Da s [32],AM)).2.2=AL\/¬(rE (Da s [32],AM)).2.1=[] then(BZ,3)
 else if¬Dr a (rE (Da s [32],AM)).1=(s,0) then(BZ,3)
 else((rE (Da s [32],AM)).1,0)
theorem VW(h:i<10):CJ (GR (48+i))=AL/\Cv (GR (48+i))=i:=by
 have a:∀n:Fin 10,CJ (GR (48+n.1))=AL/\Cv (GR (48+n.1))=n.1:=GG;exact a ⟨i,h⟩
theorem Qe(u:Nat):(ES u).all CJ=AL/\BY (ES u)=u/\ES u≠[]:=by
 induction u using Nat.strongRecOn with
 |_ u a=>
  rw[ES];split
  .rename_i h;have⟨h1,h2⟩:=VW h;exact⟨Al,by show 0*10+Cv _=u;omega,AV⟩
  grind [VW,nL]
def Yj(n k:Nat)(hk:1<=k)(h:n<10^k):Lib.nDigits n<=k:=by
 induction k generalizing n with
 |zero=>omega
 |succ k b=>
  by_cases a:n<10
  .grind [Lib.nDigits_small]
  rw[Lib.nDigits]
  grind
theorem qf{n:Int}(h:Ic n=AM):(CY n).length<=11:=by
 unfold Ic at h;simp[QC,CX] at h;unfold CY;split
 .have:=Yj n.natAbs 10 D D
  grind [Lib.decDigits_length]
 have:=Yj n.toNat 10 D D
 grind [Lib.decDigits_length]
def kG(n:Int):Lib.atoi (CY n)=Q n:=by
 unfold CY;split
 .have⟨a,b,c⟩:=Qe n.natAbs;simp[Lib.atoi,jj a c]
  grind
 have⟨a,b,c⟩:=Qe n.toNat;cases d:ES _ with
 |nil=>grind
 |cons x r=>
  rw[d] at a b c;have hx:CJ x=AL:=Al;have h1:(x==45)=AM:=by rw[CK];intro e;subst e;revert hx;decide
  have h2:(x==43)=AM:=by rw[CK];intro e;subst e;revert hx;decide
  simp[Lib.atoi,jj a c]
  grind
theorem a3m{n:Int}(h:Ic n=AM):Mv (CY n)=(n,AM):=by
 unfold Mv;rw[Lib.atoiAll_short _ (by grind [qf]),kG];rfl
theorem a4p(n:Int):(32:UInt8)∉CY n:=by
 have h:∀u,(32)∉ES u:=by
  intro u hm;have⟨a,_,_⟩:=Qe u;rw[PN] at a;have:=a _ hm;revert this;decide
 grind [CY]
def Qk{n:Int}(h:Ic n=AM)(t:List By)(b:Bool):rI (CY n::t,b)=(n,(t,b)):=by
 grind [rI,rW,a3m]
def a9N{l:List (Int×Int)}(h:(Ev l).any Ic=AM)(b:Bool)(n:Nat)(hn:ln l<=n):rG n (Dd (Ev l),b)=(l,([],b)):=by
 induction l generalizing n with
 |nil=>cases n<;>rfl
 |cons g l a=>
  cases n with
  |zero=>simp at hn
  |succ n=>
   simp only[Ev,lW,LO,Lm,eV,QC] at h;have:=a (by simpa[Ev] using h.2.2) n (by simpa using hn);simp only[Ev,Dd,lW,LO,Lm,SN,rG,Qk h.1,Qk h.2.1] at this⊢;rw[this]
structure PL(a:By->Int)(e:Ed):Prop where
 k1:1<=e.Ab
 k2:e.Ab<=12
 used:e=GH e
 nm:e.Ab=1->IY e.Ct=AL
 size:e.Ab=6->1<=e.Be/\e.Be<=12
 rem:e.Ab=12->Hd e.Av=AL
 Aa:ln e.Aa<=16
 ints:(Cj e).any Ic=AM
 nums:FT a 0 (numsOf e)=0
def qL{a:By->Int}{e:Ed}{t:By}(h:Dr a e=(t,0)):PL a e/\t=D7 [] (EU e):=by
 unfold Dr at h;split at h
 .grind
 split at h
 .grind
 split at h
 .grind
 split at h
 .grind
 split at h
 .grind
 split at h
 .grind
 split at h
 .grind
 rename_i h1 h2 b c d f g;simp only[eG] at h;refine⟨⟨D,D,Classical.not_not.1 h2,λhk=> ?_,D,λhk=> ?_,D,?_,D⟩,h.1.symm⟩;all_goals grind [Gv]
def qT{b:By->Int}{e:Ed}(h:PL b e):Dr b e=(D7 [] (EU e),0):=by
 unfold Dr;rw[Af (by have:=h.k1;have:=h.k2;omega),Af (λx=>x h.used),Af (λx=>by rw[h.nm x.1] at x;grind),Af,Af (by have:=h.Aa;omega),Af,Af (λx=>x h.nums)]
 .intro x;exact x (by unfold Gv;rw[h.ints];rfl)
 rintro(⟨hk,a⟩|⟨hk,a⟩)
 .have:=h.size hk;omega
 rw[h.rem hk] at a;cases a
theorem rY{b:By->Int}{x:Int}(l:List By)(h:¬x=0):FT b x l=x:=by
 induction l with
 |nil=>rfl
 |cons a l c=>unfold FT at *;grind
def b2A{c:By->Int}{l:List By}(h:FT c 0 l=0):∀a∈l,c a=0:=by
 induction l with
 |nil=>grind
 |cons b l f=>
  have e:FT c 0 (b::l)=FT c (c b) l:=by simp[FT]
  by_cases d:c b=0
  .grind
  grind [rY]
theorem qM(a b:List Int):Dd (a++b)=Dd a++Dd b:=by simp[Dd]
def uE(b:Bool):(TE b==1)=b:=by cases b<;>rfl
def a6s{f:By->Int}{e:Ed}(h:PL f e):rE (EU e,AM)=(e,([],AM)):=by
 obtain⟨k1,k2,hu,j,d,c,-,b,-⟩:=h;obtain⟨Ab,Ae,sx,sy,ID,II,DX,I9,IF,EL,E9,E8,EE,EK,Be,Eg,Ef,Ch,Ck,Co,Cp,Cr,Aa,FJ,FI,FH,I8,I7,Hz,IG,IC,GW,GU,Gb,GY,Av,Ct⟩:=e;simp only at k1 k2 j d c;have hk:Ab=1\/Ab=2\/Ab=3\/Ab=4\/Ab=5\/Ab=6\/Ab=7\/Ab=8\/Ab=9\/Ab=10\/Ab=11\/Ab=12:=D;rcases hk with rfl|rfl|rfl|rfl|rfl|rfl|rfl|rfl|rfl|rfl|rfl|rfl
 all_goals
  simp only[GH,BZ,Int.reduceEq,reduceIte,or_self,or_true,Nq,Ed.mk.injEq,true_and,and_true] at hu;simp only[Cj,Int.reduceEq,reduceIte] at b
 all_goals
  repeat(obtain⟨hx,hu⟩:=hu;subst hx)
  subst hu;simp only[eV,List.any_nil,mL,QC,and_true] at b
 .have a:kindOf Qt=1:=GG;simp[EU,El,Cj,numsOf,rE,rW,a,BZ,Dd]
 .have a:kindOf P5=2:=GG;simp[EU,El,Cj,numsOf,rE,rW,GD,Qk,b,a,BZ,Dd,uE]
 .have a:kindOf Ql=3:=GG;exact fG
 .have a:kindOf MC=4:=GG;simp[EU,El,Cj,numsOf,rE,rW,Qk,b,a,BZ,Dd]
 .have a:kindOf LY=5:=GG;simp[EU,El,Cj,numsOf,rE,rW,UZ,GD,Qk,b,a,BZ,Dd]
 .have a:kindOf LI=6:=GG;have⟨m,n⟩:=d F;simp[EU,El,Cj,numsOf,rE,rW,GD,Qk,b,a,BZ,Dd,wF m n]
 .have a:kindOf Jv=7:=GG;have i:=a9N b.2 AM (Dd (Ev Aa)).length (by
   have:∀l:List (Int×Int),ln l<=(Ev l).length:=by
    intro l
    induction l with
    |nil=>simp
    |cons g l k=>simp[Ev] at k⊢;omega
   grind [Dd])
  simp[EU,El,Cj,numsOf,rE,rW,GD,Qk,b.1,a,BZ,Dd] at i⊢
  grind
 .have a:kindOf P4=8:=GG;simp[EU,El,Cj,numsOf,rE,rW,Qk,b,a,BZ,Dd]
 .have a:kindOf Q4=9:=GG;exact fG
 .have a:kindOf ML=10:=GG;exact fG
 .have a:kindOf MN=11:=GG;exact fG
 have a:kindOf OJ=12:=GG;simp[EU,El,Cj,numsOf,rE,rW,Qk,b,a,BZ,Dd,bC (c rfl)]
def Yk(b:By->Int):Prop:=∀a,b a=0->(32:UInt8)∉a
theorem a2e{b:By->Int}{e:Ed}(h:PL b e):∀x∈El e,(32:UInt8)∉x:=by
 have hn:=h.nm;have a:=h.size;unfold El;intro x;split
 .rename_i hk;intro hx;simp only[Kt,PW,Nq] at hx;rcases hx with rfl|rfl
  .decide
  exact a3f (hn hk)
 repeat(split;· intro hx;simp only[Kt,PW,Nq] at hx;subst hx;decide)
 split
 .rename_i hk;intro hx;simp only[Kt,PW,Nq] at hx;rcases hx with rfl|rfl
  .decide
  exact a2Z (a hk).1 (a hk).2
 repeat(split;· intro hx;simp only[Kt,PW,Nq] at hx;subst hx;decide)
 intro hx;simp only[Kt,PW,Nq] at hx;rcases hx with rfl|rfl
 .decide
 exact a41 _
def a3Z{a:By->Int}(b:Yk a){e:Ed}(h:PL a e):∀x∈EU e,(32:UInt8)∉x:=by
 intro x hx;rcases QF.1 hx with hx|hx
 .grind [a2e,Dd,a4p]
 exact b x (b2A h.nums x hx)
def bG(e:Ed):∃b w ws,El e=(b::w)::ws:=by
 have:∀l,El e=l->∃b w ws,l=(b::w)::ws:=by
  unfold El
  repeat' split
  all_goals grind
 grind
def wD{a:By->Int}(c:Yk a){e:Ed}(h:PL a e):Da (D7 [] (EU e)) [32]=EU e:=by
 have d:=a3Z c h;have⟨b,w,ws,f⟩:=bG e
 grind [EU,Cj,Qg,GK,nE,a2A]
theorem a5n{ws:List By}(h:∀x∈ws,ln x<=m):(Rw ws).length<=ln ws*(m+1):=by
 induction ws with
 |nil=>simp[Rw]
 |cons w ws a=>
  grind [Rw,Nat.add_mul]
def a66{a:By->Int}{e:Ed}(h:PL a e):(El e).length<=2/\∀x∈El e,ln x<=16:=by
 have hn:=h.nm;have f:=h.size;have b:∀z,(LJ z).length<=16:=by
  intro z;unfold LJ;rw[CM];cases hx:Dy[(z-1).toNat]? with
  |none=>simp
  |some x=>
   have:∀y∈Dy,ln y<=16:=GG;exact this x (SH hx)
 have d:∀n,(Gc n).length<=16:=by
  intro n;exact fM
 have c:e.Ab=1->ln e.Ct<=16:=λhk=>by
  have:=hn hk;unfold IY at this;simp only[Ez,Cx] at this;exact this.2
 have key:∀l,El e=l->ln l<=2/\∀x∈l,ln x<=16:=by
  intro l;unfold El
  repeat' split
  all_goals
   intro h;subst h;refine⟨AV,λx hx=> ?_⟩;simp only[Kt,PW,Nq] at hx
  .rcases hx with rfl|rfl
   .decide
   exact c DI
  all_goals first
   |(subst hx;decide)
   |(rcases hx with rfl|rfl<;>first|decide|exact b _|exact d _)
 exact key _ F
def a8k{a:By->Int}{e:Ed}(h:PL a e):(Cj e).length<=38:=by
 have:=h.Aa;have c:(Ev e.Aa).length=2*ln e.Aa:=by
  unfold Ev
  induction e.Aa with
  |nil=>rfl
  |cons g l b=>simp[b];omega
 unfold Cj
 repeat' split
 all_goals simp
 omega
def a7u{c:By->Int}{e:Ed}(h:PL c e)(hn:∀a∈numsOf e,ln a<=700):(D7 [] (EU e)).length<=65536:=by
 have⟨b,w,ws,f⟩:=bG e;have hw:EU e=(b::w)::(ws++Dd (Cj e)++numsOf e):=by grind [EU]
 have⟨h1,h2⟩:=a66 h;rw[hw,Qg];have d:GK [] _=b::w:=rfl;rw[d,nE AV];have hi:=a8k h;have i:=a5n (ws:=ws++Dd (Cj e)++numsOf e) (m:=700) (λx hx=>by
  rcases QF.1 hx with hx|hx
  .rcases QF.1 hx with hx|hx
   .grind
   obtain⟨n,hm,rfl⟩:=Jg.1 hx;have g:Ic n=AM:=by
    have:=h.ints
    grind
   grind [qf]
  grind)
 grind [Dd,numsOf]
def sN{b:By->Int}(d:Yk b){e:Ed}{t:By}(h:Dr b e=(t,0))(hn:∀a∈numsOf e,ln a<=700):QZ b t=(e,0)/\ln t<=65536:=by
 obtain⟨c,rfl⟩:=qL h;have f:=a7u c hn;refine⟨?_,f⟩;unfold QZ;rw[wD d c,a6s c,Af D,Af AV,Af (λx=>x D)]
end
end Kp
namespace Go.Proofs.YtalhfkdhdggdaaaGreatDoor
section
open Kp
abbrev tx(l:List UInt8):ByteArray:=⟨l.toArray⟩
def ME(l:List UInt8):(tx l).data.toList=l:=AV
theorem DJ(l:List UInt8):(tx l).size=ln l:=ZN
def Sy(s:ByteArray):tx s.data.toList=s:=by cases s;simp
def a1t(l:List UInt8)(w:V)(a:ln l<=1000000):
  AZ AO 360 #[AT (tx l),AT ⟨#[48,49,50,51,52,53,54,55,56,57]⟩] w λe w'=>e=Ac (AT (tx (Lib.trimS l Th)))/\At w.1.size w w':=by
 have h:=Go.Proofs.Any.strings_Trim_laid a9R U (tx l) ⟨#[48,49,50,51,52,53,54,55,56,57]⟩ w QN Z (ascii_of_all Z);rw[ME] at h;exact h
def LV{k:IntKind}{a b:Int}(h:a=b):Ending.returned (.int k a)=Ac (.int k b):=by rw[h]
def nJ(l:List UInt8)(w:V)(m:ln l<=1000000):
  AZ AO 342 #[AT (tx l)] w λe w'=>e=Ac (M G (IN l))/\At w.1.size w w':=by
 have i:=A (strings_TrimPrefix (tx l) (tx [45]) w);have⟨ds,f⟩:=AP (Ag l);have k:ln ds<=ln l:=by rw[<-f];unfold Ag Lib.trimPrefix;split <;>simp
 have j:Lib.trimPrefix l [45]=ds:=f;have a:=A f;rw[j] at i;clear f j;cases ds with
 |nil=>
  go_enter func342,ntmps342;go_wp2_with(go_at_call 253;refine i.mono ?_;rintro e w' ⟨rfl,rfl⟩)
  go_ret;exact⟨LV (by unfold IN Eu;rw[a.o];rfl),Ad _ _⟩
 |cons c r=>
  go_enter func342,ntmps342;go_wp2_with(first|(go_at_call 253;refine i.mono ?_;rintro e w' ⟨rfl,rfl⟩)|(go_at_call 360;refine(a1t (c::r) _ (by simp at k⊢;omega)).q λw2 b=>?_))
  .go_ret;exact⟨LV (pJ a DI).symm,b⟩
  .have hl0:l=[48]:=DI;have g:300<(ln r:Int)+1:=DI;go_ret;exact⟨LV (by rw[bt a.o (.inr hl0) DI,Aj D]),b⟩
  .have hl0:l=[48]:=DI;have g:(ln r:Int)+1<=300:=DI;go_ret;exact⟨LV (by rw[bt a.o (.inr hl0) DI,Af D]),b⟩
  .have d:(c.toNat:Int)=48:=DI;go_ret;exact⟨LV (a6Y a (xJ d) DI).symm,Ad _ _⟩
  .go_ret;exact⟨LV (pJ a DI).symm,b⟩
  .have d:¬(c.toNat:Int)=48:=DI;have g:300<(ln r:Int)+1:=DI;go_ret;exact⟨LV (by rw[bt a.o (.inl (λh=>d (by rw[h];rfl))) DI,Aj D]),b⟩
  have d:¬(c.toNat:Int)=48:=DI;have g:(ln r:Int)+1<=300:=DI;go_ret;exact⟨LV (by rw[bt a.o (.inl (λh=>d (by rw[h];rfl))) DI,Af D]),b⟩
theorem BH.new{v:AN}{l:List Nat}(h:BH w w.1.size v l)(o:Obj):BH (w.alloc o) (w.alloc o).1.size v l:=
 (h.below ((Ad _ _).alloc (AS _) o)).more AV
theorem BH.grow{v:AN}{l:List Nat}(h:BH w w.1.size v l)(a:At w.1.size w w'):BH w' w'.1.size v l:=(h.below a).more a.size
theorem VB.sl{v:AN}{l:List Nat}(h:VB w w' v l):BH w' w'.1.size v l:=by
 obtain⟨g,R,rfl,b,a⟩:=h;exact a.sl a.lt
def Vu(w:V)(a b:List Nat)(e:CI)(w':V):Prop:=
 ∃f g c d,e=Ac (BO #[f,g])/\BH w' w'.1.size f c/\Canon c/\val c=val a/val b/\BH w' w'.1.size g d/\Canon d/\val d=val a%val b/\At w.1.size w w'
def a5a:Canon []:=⟨λ_ h=>Aq,cj⟩
def b0S(w:V)(b0:Nat):BH w b0 (AK O 0 0) []:=⟨O,0,rfl,AV,Al,λh=>Al⟩
def a1R(w:V)(a b:List Nat)(g i:AN)(f:BH w w.1.size g a)(n:BH w w.1.size i b)(k:Canon a)(o:Canon b)(v:ln a<=1000000)(l:val a<val b):
  AZ AO 323 #[g,i] w (Vu w a b):=by
 have r:=A (Xz (w.alloc (.cells #[AK O 0 0] 25)) a b g i (f.new _) (n.new _) k o D);have m:=A f;obtain⟨aa,ca,rfl,_,_,u⟩:=f;go_enter func323,ntmps323;go_wp2_with(refine r.mono ?_;rintro e w1 ⟨c,rfl,h1,h2,d⟩;have t:=((Bx.new w 25 _).below d AV).cell;have f1:=((Bx.new w 25 _).below d AV).frozen)
 have s:Vu w a b (Ac (BO #[AK O 0 0,AK aa (ln a) ca])) (w1.setCell ⟨w.1.size,0,O⟩ (AK O 0 0)):=by
  have j:At _ w (w1.setCell _ (AK O 0 0)):=(((Ad _ _).alloc (AS _) _).trans (d.mono AV)).setCell (p:=⟨w.1.size,0,O⟩) (AS _) _;exact⟨_,_,[],a,F,b0S _ _,a5a,by rw[ZF l];rfl,m.grow j,k,(Ud l).symm,j⟩
 have q:=mA w1 ⟨w.1.size,0,O⟩ (AK O 0 0) Al;exact Bp (by simp[results,go_sem,q]) F s
def a4u(w:V)(a:List Nat)(d:Nat)(n o:AN)(s:BH w w.1.size n a)(t:BH w w.1.size o [d])(u:Canon a)(k:Canon [d])(ab:ln a<=1000000)(Y:val [d]<=val a):
  AZ AO 323 #[n,o] w (Vu w a [d]):=by
 have H:=A (Xz (w.alloc (.cells #[AK O 0 0] 25)) a [d] n o (s.new _) (t.new _) u k D);have L:=k.Bf d AV;have K:1<=d:=by have:=N5.last (l:=[]) k.trim;omega
 have x:=A s;obtain⟨A',cb,rfl,_,_,G⟩:=t;obtain⟨y,z,rfl,E,m⟩:=G AV;have hx:=m 0 AV;go_enter func323,ntmps323;go_wp2_with(first
  |(refine H.mono ?_;rintro e w1 ⟨c,rfl,h1,h2,j⟩;have i:=((Bx.new w 25 _).below j AV);have x1:=((j.cell (p:=⟨y,z,O⟩) Bk).trans (World.cell?_alloc_lt w _ _ E)).trans hx)
  |(refine(nA w1 a _ d (x.grow (((Ad _ _).alloc (AS _) _).trans (j.mono AV))) u.Bf K L D).mono ?_;rintro e w2 ⟨vq,vr,f,v,rfl,R,I,ac,S,J,ad,r⟩;obtain⟨b,g,rfl,Z,T⟩:=R;obtain⟨gr,B,rfl,aa,U⟩:=S;have q:=i.below r i.lt;have W:=q.cell;have X:=q.frozen))
 have N:b≠w.1.size:=by have:=i.lt;omega
 have P:gr≠w.1.size:=by have:=i.lt;omega
 have m:=mA w2 ⟨w.1.size,0,O⟩ (AK (Q ⟨b,0,O⟩) (ln f) g) Al;have C:At _ w (w2.setCell _ (AK (Q ⟨b,0,O⟩) (ln f) g)):=
  ((((Ad _ _).alloc (AS _) _).trans (j.mono AV)).trans (r.mono (by have:=i.lt;omega))).setCell (p:=⟨w.1.size,0,O⟩) (AS _) _
 have M:Vu w a [d] (Ac (BO #[AK (Q ⟨b,0,O⟩) (ln f) g,AK (Q ⟨gr,0,O⟩) (ln v) B])) (w2.setCell ⟨w.1.size,0,O⟩ (AK (Q ⟨b,0,O⟩) (ln f) g)):=by
  have r1:=T.Bo (p:=⟨w.1.size,0,O⟩) N (AK (Q ⟨b,0,O⟩) (ln f) g);have r2:=U.Bo (p:=⟨w.1.size,0,O⟩) P (AK (Q ⟨b,0,O⟩) (ln f) g);exact⟨_,_,f,v,F,r1.sl r1.lt,I,by rw[val_one];grind,r2.sl r2.lt,J,by rw[val_one];grind,C⟩
 exact Bp (by simp[results,go_sem,m]) F M
theorem Bx.only{v:AN}(h:Bx W b t v)(c:EO g W Y)(a:b≠g):Bx Y b t v:=(c.block b a).trans h
theorem Row.only{l:List Nat}(h:Row W g' R l)(b:EO g W Y)(a:g'≠g):Row Y g' R l:=h.keep (b.block g' a)
theorem EO.again{v:AN}(a:EO g W Y)(h:Bx Y b t v):EO g W (Y.setCell ⟨b,0,O⟩ v):=by
 refine⟨a.os,a.tape,a.output,by simpa[Di] using a.size,λk hk=> ?_⟩;by_cases c:k=b
 .subst c;rw[<-a.block k hk];exact(h.put v).trans h.symm
 exact(Gp Y _ v k c).trans (a.block k hk)
theorem EO.Gi(a:EO g W Y){m:Nat×Nat}(c:W.1[g]?=Q (.cells cs t m)):GF W Y:=
 ⟨by rw[a.size];grind,λk o hk b=>by
  by_cases e:k=g
  .subst e;rw[c] at hk;cases hk;cases b
  exact(a.block k e).trans hk⟩
structure Rc(w:V)(nb gu cu gb cv:Nat)(tv:List Nat)(aa a m:Nat)(k:Nat)(u q:List Nat)(W:V):Prop where
 bq:Bx W w.1.size 25 (AK (Q ⟨nb+2,0,O⟩) a a)
 bu:Bx W nb 25 (AK (Q ⟨gu,0,O⟩) m cu)
 bv:Bx W (nb+1) 25 (AK (Q ⟨gb,0,O⟩) (ln tv) cv)
 it:Bx W (nb+3) 25 (AK (Q ⟨nb+2,0,O⟩) a a)
 ru:Row W gu cu u
 rv:Row W gb cv tv
 rq:Row W (nb+2) a q
 lu:ln u=m
 lq:ln q=a
 dm:Nz aa (val tv) (ln tv) k u q
 low:At w.1.size w W
theorem Rc.stays{aa b m k:Nat}{u q:List Nat}(h:Rc w nb gu cu gb cv tv aa b m k u q W)(a:CN n0 W Y)(hn:w.1.size<=n0):
  Rc w nb gu cu gb cv tv aa b m k u q Y:=
 ⟨h.bq.stays a,h.bu.stays a,h.bv.stays a,h.it.stays a,h.ru.stays a,h.rv.stays a,h.rq.stays a,h.lu,h.lq,h.dm,h.low.trans (a.below.mono hn)⟩
def b2a(w:V)(nb gu cu gb cv:Nat)(tv:List Nat)(aa a m:Nat)(k:Nat)(W:V):Prop:=∃u q,Rc w nb gu cu gb cv tv aa a m k u q W
theorem Rc.back{aa a m k:Nat}{u q:List Nat}(h:Rc w nb gu cu gb cv tv aa a m k u q W):
  aL (nb+3) (Q ⟨nb+2,0,O⟩) a a (λ_ _=>True) W:=
 ⟨h.it.cell,λ_=>⟨nb+2,0,rfl,λj b=>⟨_,by rw[IU];exact h.rq.cell (by rw[h.lq];exact b),trivial⟩⟩⟩
structure XZ(W:V)(gu cu:Nat)(tv u:List Nat)(j:Nat)(d:Nat)(x:List Nat)(Y:V):Prop where
 row:Row Y gu cu x
 len:ln x=ln u
 Bf:Small x
 same:∀i,i<j\/j+(ln tv+1)<=i->I x i=I u i
 WV:S (sh (I x) j) (ln tv+1)=S (sh (I u) j) (ln tv+1)
 lt:S (sh (I u) j) (ln tv+1)<(d+1)*val tv
 bound:d<=2000000000
 only:EO gu W Y
def a7g(W:V)(gu cu:Nat)(tv u:List Nat)(j:Nat)(d:AN)(Y:V):Prop:=∃a x,d=M G (a:Nat)/\XZ W gu cu tv u j a x Y
def wV{l:List Nat}:S (I l) (ln l+1)=val l:=YK D
theorem XZ.less{W W1 b e:V}{tv u x y z:List Nat}{j d c c2:Nat}(h:XZ W gu cu tv u j d x W1)(q:Vx W1 gu cu x tv j d (ln tv+1) c y b)
  (o:T1 b gu cu y tv j d (ln tv+1) c2 z e)(A:0<c):1<=d/\XZ W gu cu tv u j (d-1) z e:=by
 obtain⟨row,len,Bf,same,WV,lt,bound,only⟩:=h;obtain⟨H,tl,v,K,a,J,t⟩:=q;obtain⟨s,F,g,G,l,E,r⟩:=o;rw[wV] at a l;have f:S (sh (I x) j) _<B^(ln tv+1):=PG (λk _=>Du Bf _);have m:S (sh (I y) j) _<B^(ln tv+1):=PG (λk _=>Du v _);have n:S (sh (I z) j) _<B^(ln tv+1):=PG (λk _=>Du g _);have w:S (sh (I x) j) (ln tv+1)<d*val tv:=by
  have:=a5x a m f
  grind
 have C:=a0x a l n f;have h1:1<=d:=by
  grind
 refine⟨h1,s,D,g,λi hi=> ?_,Al,Al,D,(only.trans t).trans r⟩
 grind
theorem Rc.next{w W W1 c:V}{aa b m k d:Nat}{u q x y:List Nat}(h:Rc w nb gu cu gb cv tv aa b m k u q W)(hk:k<b)(n:Small tv)
  (z:w.1.size<gu)(v:gu<nb)(t:gb<nb)(A:gu≠gb)(B:w.1.size<nb)
  (hi:XZ W gu cu tv u (b-1-k) d x W1)(l:Vx W1 gu cu x tv (b-1-k) d (ln tv+1) 0 y c):
  d<1000000000/\GF W (c.setCell ⟨nb+2,b-1-k,O⟩ (M G d))/\Rc w nb gu cu gb cv tv aa b m (k+1) y (q.set (b-1-k) d) (c.setCell ⟨nb+2,b-1-k,O⟩ (M G d)):=by
 obtain⟨row,len,Bf,same,WV,lt,bound,only⟩:=hi;obtain⟨r,tl,s,E,e,C,o⟩:=l;have lq:=h.lq;subst lq;rw[wV,WV,TN] at e;have a:=only.trans o;have⟨j,f⟩:=h.dm.step hk (WH n) D s (λi hi=>Al) F e lt;obtain⟨cur,g,_⟩:=h.ru;refine⟨j,(a.Gi g).trans (Gq _ _ _),(h.bq.only a D).Bo Al _,(h.bu.only a D).Bo AV _,(h.bv.only a D).Bo AV _,(h.it.only a D).Bo AV _,
  r.Bo Al _,(h.rv.only a D).Bo Al _,(h.rq.only a D).set D d,by have:=h.lu;omega,AV,f,?_⟩
 exact(h.low.trans (a.below D)).setCell Al _
end
section
open Kp
attribute [local go_sem] Oper.semAt_some
def kg(Bs:Nat)(l:List UInt8)(W:V):Prop:=W.cell? ⟨Bs,0,O⟩=Q (AT (tx l))
def xX(l:List UInt8)(k:Nat)(x:Array AN):Prop:=x=#[M G (k:Int),M G (dg l k:Int)]
theorem b4v{l:List UInt8}(hk:k<ln l):dg l k=Cv (l[ln l-1-k]' D):=by
 unfold dg;rw[CM,Bv D];rfl
def a1y(Bs:Nat)(l:List UInt8)(hn:ln l<=1000000)(a:l.all CJ=AL):
  XT AO 361 #[Ap (Q ⟨Bs,0,O⟩)] (xX l) (kg Bs l) (ln l):=by
 intro m x J s W f v w j b;refine callsIn_of_wp func361 F trivial ?_ F;have q:=f 0 W b;unfold kg at q;simp only[ntmps361,Nn,FX,Jy,Hw,Nat.reduceSub,OX,PQ,PS,PR,Lm,LO]
 gi_wp2
 gi_loopw [6] (λi wr=>∃k:Nat,k<=ln l/\i=M G (k:Int)/\J k wr) (λi _=>((ln l:Int)-B8 i).toNat)
 case atStart=>exact⟨0,D,AV,b⟩
 obtain⟨k,hk,rfl,c⟩:=hrel;have o:=f k wr c;unfold kg at o;by_cases d:k<ln l
 .have⟨fn,tmps,assign,body,hy,hR⟩:=j k _ wr d F c;have t:((ln l:Int)-1-k).toNat=ln l-1-k:=D;have g:ln l-1-k<(tx l).size:=QN;have u:((((tx l)[ln l-1-k]'g).toNat:Int)-48)%256=(dg l k:Int):=by
   have hx:(tx l)[ln l-1-k]'g=l[ln l-1-k]' D:=rfl;rw[hx,b4v d];have:=Py (PN.1 a _ (Ey (n:=ln l-1-k) (h:=D)));unfold Cv at *;omega
  have r:=A a;clear a;exact yz
 obtain rfl:k=ln l:=D;exact mW
def a4j(w:V)(s:ByteArray):
  AZ AO 343 #[AT s] w λe w'=>e=Ac (.func (.func 361) #[] #[Ap (Q ⟨w.1.size,0,O⟩)])/\w'=w.alloc (.cells #[AT s] 9):=by
 go_enter func343,ntmps343;go_wp2;go_ret;exact⟨F,F⟩
def CO(W:V)(b:Nat)(t:Bb)(u v:AN):Prop:=W.1[b]?=Q (.cells #[u,v] t (0,0))
theorem CO.cell0{u v:AN}(h:CO W b t u v):W.cell? ⟨b,0,O⟩=Q u:=by unfold CO at h;simp[Dx,h]
theorem CO.Hl{u v:AN}(h:CO W b t u v):W.cell? ⟨b,1,O⟩=Q v:=by unfold CO at h;simp[Dx,h]
theorem CO.frozen{u v:AN}(h:CO W b t u v)(i:Nat):W.frozen? ⟨b,i,O⟩=AM:=by unfold CO at h;simp[Hb,h]
theorem CO.stays{u v:AN}(h:CO W b t u v)(a:CN n0 W Y):CO Y b t u v:=a.cells _ _ _ _ h
theorem CO.lt{u v:AN}(h:CO W b t u v):b<W.1.size:=(Ee.1 h).1
theorem CO.Bo{u v:AN}(h:CO W b t u v)(a:b≠p.block)(x:AN):CO (W.setCell p x) b t u v:=(Gp W p x b a).trans h
theorem CO.Kn{u v:AN}(h:CO W b t u v)(x:AN):CO (W.setCell ⟨b,0,O⟩ x) b t x v:=by
 unfold CO at h⊢;simp[Di,IT,h]
theorem CO.PK{u v:AN}(h:CO W b t u v)(x:AN):CO (W.setCell ⟨b,1,O⟩ x) b t u x:=by
 unfold CO at h⊢;simp[Di,IT,h]
theorem CO.alloc{u v:AN}(h:CO W b t u v)(o:Obj):CO (W.alloc o) b t u v:=(Ue W o b h.lt).trans h
theorem CO.drew{u v:AN}(h:CO W b t u v):CO W.drew b t u v:=h
theorem CO.at_{u v:AN}(h:W.1.size=n):CO (W.alloc (.cells #[u,v] t)) n t u v:=by subst h;exact Bq W _
structure Nx(w:V)(ds:List UInt8)(neg:Bool)(n:Nat)(k:Nat)(ad:List Nat)(u:Nat)(W:V):Prop where
 res:CO W w.1.size 341 (AU AM) (AK O 0 0)
 row:Row W (w.1.size+1) n ad
 x:CO W (w.1.size+2) 341 (AU neg) (AK (Q ⟨w.1.size+1,0,O⟩) n n)
 unit:Bx W (w.1.size+3) 3 (M G u)
 it:Bx W (w.1.size+4) 9 (AT (tx ds))
 len:ln ad=n
 hu:k%9≠0->u=10^(k%9)
 m:Ub ds k ad
 low:At w.1.size w W
theorem Nx.stays{neg:Bool}{u n0:Nat}(h:Nx w ds neg n k ad u W)(a:CN n0 W Y)(hn:w.1.size<=n0):Nx w ds neg n k ad u Y:=
 ⟨h.res.stays a,h.row.stays a,h.x.stays a,h.unit.stays a,h.it.stays a,h.len,h.hu,h.m,h.low.trans (a.below.mono hn)⟩
def iH(w:V)(ds:List UInt8)(neg:Bool)(n:Nat)(k:Nat)(W:V):Prop:=∃ad u,Nx w ds neg n k ad u W
theorem re{neg:Bool}{u:Nat}(h:Nx w ds neg n k ad u W)(c:ds.all CJ=AL)(hk:k/9<n)(hu:u=10^(k%9)):
  Nx w ds neg n (k+1) (ad.set (k/9) (I ad (k/9)+dg ds k*u)) (u*10) ((W.setCell ⟨w.1.size+1,k/9,O⟩ (M G ((I ad (k/9):Int)+(dg ds k:Int)*u))).setCell ⟨w.1.size+3,0,O⟩ (M G ((u:Int)*10))):=by
 obtain⟨res,row,x,unit,it,len,_,m,low⟩:=h;have a:((I ad (k/9):Int)+(dg ds k:Int)*u)=((I ad (k/9)+dg ds k*u:Nat):Int):=AV;have b:((u:Int)*10)=((u*10:Nat):Int):=AV;rw[a,b];refine⟨(res.Bo AV _).Bo AV _,(row.set D _).Bo AV _,(x.Bo AV _).Bo AV _,(unit.Bo AV _).put _,(it.Bo AV _).Bo AV _,by simpa using len,?_,?_,?_⟩
 .intro h9;rw[hu,<-NC]
  congr 1;omega
 .refine m.step c D AV (λj d=>by rw[Nb D,Af d]) ?_;rw[Nb D,Aj rfl,hu]
 exact(low.setCell (p:=⟨w.1.size+1,_,O⟩) AV _).setCell (p:=⟨w.1.size+3,0,O⟩) AV _
theorem b2Y{neg:Bool}{u:Nat}(h:Nx w ds neg n k ad u W)(hk:k%9=0):
  Nx w ds neg n k ad 1 (W.setCell ⟨w.1.size+3,0,O⟩ (M G 1)):=
 ⟨h.res.Bo AV _,h.row.Bo AV _,h.x.Bo AV _,h.unit.put _,h.it.Bo AV _,h.len,λh=>absurd hk h,h.m,h.low.setCell (p:=⟨w.1.size+3,0,O⟩) AV _⟩
theorem Nx.drew{neg:Bool}{u:Nat}(h:Nx w ds neg n k ad u W):Nx w ds neg n k ad u W.drew:=
 ⟨h.res,h.row,h.x,h.unit,h.it,h.len,h.hu,h.m,h.low.drew⟩
theorem jM{neg:Bool}{u a c b d:Nat}{v1 v2:AN}
  (h:Nx w ds neg n k ad u ((W.setCell ⟨a,c,O⟩ v1).setCell ⟨b,d,O⟩ v2)):
  GF W ((W.setCell ⟨a,c,O⟩ v1).setCell ⟨b,d,O⟩ v2).drew/\iH w ds neg n k ((W.setCell ⟨a,c,O⟩ v1).setCell ⟨b,d,O⟩ v2).drew:=
 ⟨((Gq _ _ _).trans (Gq _ _ _)).trans (mK _),_,_,h.drew⟩
theorem b2P{w W0 W:V}{neg:Bool}{u a c b d:Nat}{v1 v2:AN}(hk:GF W0 W)
  (h:Nx w ds neg n k ad u ((W.setCell ⟨a,c,O⟩ v1).setCell ⟨b,d,O⟩ v2)):
  GF W0 ((W.setCell ⟨a,c,O⟩ v1).setCell ⟨b,d,O⟩ v2).drew/\iH w ds neg n k ((W.setCell ⟨a,c,O⟩ v1).setCell ⟨b,d,O⟩ v2).drew:=
 ⟨hk.trans (jM h).1,(jM h).2⟩
def uu(w:V)(s:List UInt8)(e:CI)(w':V):Prop:=
 ∃v l,e=Ac (AW #[AU (DH s [45]),v])/\VB w w' v l/\Canon l/\val l=BY (Ag s)/\ln l<=(Ag s).length/\At w.1.size w w'
def YE(w:V)(s:List UInt8)(B:(Ag s).all CJ=AL)(hl:ln s<=1000000):
  AZ AO 322 #[AT (tx s)] w (uu w s):=by
 have⟨ds,g⟩:=AP (Ag s);have⟨neg,E⟩:=AP (DH s [45]);have am:ln ds<=ln s:=by rw[<-g];unfold Ag Lib.trimPrefix;split <;>simp
 have T:Lib.trimPrefix s [45]=ds:=g;have hcut:∀W,AZ AO 316 #[AT (tx s),AT ⟨#[45]⟩] W λe w'=>e=Ac (BO #[AT (tx ds),AU neg])/\w'=W:=λW=>by
  have:=strings_CutPrefix (tx s) (tx [45]) W;rw[ME,ME,T,E] at this;exact this
 rw[g] at B;have N:=A g;have ae:=A E;have o:=A B;have ab:=A hcut;clear g T E hcut B;have w1:((ln ds:Int)+9-1)/9=(((ln ds+8)/9:Nat):Int):=D;have⟨n,hn⟩:=AP ((ln ds+8)/9);rw[hn] at w1;have ac:=A hn;have ap:n<=1000000:=D;have aq:ln ds<=n*9:=D;clear hn;have ao:=jC n D;refine(De (n:=9)).1 (R8 func322 F trivial ?_);simp only[ntmps322,Nn,FX,Jy,Hw,Nat.reduceSub,OX,PQ,PS,PR,Lm,LO];gi_wp2_with(refine⟨trivial,?_⟩;first|(gi_at_call 316;refine(De.2 (ab _)).mono ?_;rintro e w' ⟨rfl,rfl⟩)|(gi_at_call 343;refine(De.2 (a4j _ _)).mono ?_;rintro e w' ⟨rfl,rfl⟩))
 refine VM (gf:=361) (lb:=#[Ap (Q ⟨w.1.size+4,0,O⟩)]) F (FZ func361 U F)
  (a1y (w.1.size+4) ds D o) (λk x e=>by rw[e];rfl)
  (iH w ds neg n) (λ_ _ _=>False) (λk W Y ⟨q,r,h⟩ b=>⟨q,r,h.stays b Bk⟩) (λc k W Y h b=>h) (λk W ⟨q,r,h⟩=>h.it.cell) ?BI ?round ?done ?stop
 case BI=>
  have hB:At w.1.size w (((((w.alloc (.cells #[AU AM,AK O 0 0] 341)).alloc (.cells (UL n) 3)).alloc (.cells #[AU neg,AK (Q ⟨w.1.size+1,0,O⟩) n n] 341)).alloc (.cells #[M G 1] 3)).alloc (.cells #[AT (tx ds)] 9)):=
   (WD w _ _ _).trans ((((Ad _ _).alloc Bk _).alloc Bk _))
  refine⟨F7 n 0,1,((((CO.at_ F).alloc _).alloc _).alloc _).alloc _,?_,((CO.at_ AV).alloc _).alloc _,(Bx.at_ AV).alloc _,Bx.at_ AV,AV,λh=>absurd rfl h,Ub.BI ds n,hB⟩;have:=kF (w.alloc (.cells #[AU AM,AK O 0 0] 341)) n D;simp only[D5] at this;exact((this.alloc _).alloc _).alloc _
 case round=>
  intro l k x W K hk hx hi a;unfold xX at hx;subst hx;have R:=A a;clear a
  gi_wp2
  refine R _ (λS ag _=> ?_);clear R hi;obtain⟨ad,u,h⟩:=ag;have aa:k/9<n:=D;have al:=wY o k;have an:I ad (k/9)<1000000000:=Du h.m.Bf _;have hq:((k:Int)/9).toNat=k/9:=D;have i0:0<=(k:Int)/9:=D;have i1:(k:Int)/9<n:=D;by_cases d:k%9=0
  .have h1:=b2Y h d;have⟨W3,y⟩:=AP (S.setCell ⟨w.1.size+3,0,O⟩ (M G 1));have ah:=A (show GF S W3 by rw[<-y];exact Gq _ _ _);rw[y] at h1;have⟨u1,H⟩:=Lc (1:Nat);rw[<-H] at h1;have hu:u1=10^(k%9):=by rw[d,H]
   clear H;have z:=A (re h1 o aa hu);have f2:=h.unit.frozen;have b2:=h.unit.cell;have L:u1<=100000000:=by
    rw[hu]
    calc 10^(k%9)<=10^8:=JK Z D
     _=100000000:=rfl
   have C:dg ds k*u1<=900000000:=by
    calc dg ds k*u1<=9*100000000:=OZ D L
     _=900000000:=rfl
   have ai:(dg ds k:Int)*(u1:Int)<=900000000:=by rw[<-ZK];omega
   have aj:0<=(dg ds k:Int)*(u1:Int):=by rw[<-ZK];omega
   have b0:=h1.x.Hl;have b1:=h1.unit.cell;have f1:=h1.unit.frozen;have f3:=h1.row.frozen (k/9);have b3:=h1.row.cell (j:=k/9) (by rw[h1.len];omega);have wq:G.wrap ((k:Int)/9)=(k:Int)/9:=EN D D;have w5:G.wrap ((dg ds k:Int)*(u1:Int))=dg ds k*u1:=EN D D;have w6:G.wrap ((I ad (k/9):Int)+(dg ds k:Int)*(u1:Int))=I ad (k/9)+dg ds k*u1:=EN D D;have w7:G.wrap ((u1:Int)*10)=u1*10:=EN D D;have ht:((k:Int)%9==0)=AL:=by rw[C9];omega
   have af:=A y;clear h h1 d y hu C
   gi_wp2
   rw[af.o];refine Ui U (VK U (by rintro⟨_,_,h⟩;exact h) _ _ _ _ ?_)
   try(change wpAny _ _ _ _ _ _ _ (World.drew _))
   refine DW (i:=0) (v:= ?vc1) F U U U (λ_ _ _ h=>h) (Cf ⟨BE,?hyc1⟩) ?_
   case hyc1=>(intro w;go_simp;try with_reducible rfl)
   refine DW (i:=2) (v:= ?vc2) F U U U (λ_ _ _ h=>h) (Cf ⟨BE,?hyc2⟩) ?_
   case hyc2=>(intro w;go_simp;try with_reducible rfl)
   refine DW (i:=3) (v:= ?vc3) F U U U (λ_ _ _ h=>h) (Cf ⟨BE,?hyc3⟩) ?_
   case hyc3=>(intro w;go_simp;try with_reducible rfl)
   refine DW (i:=6) (v:= ?vc4) F U U U (λ_ _ _ h=>h) (Cf ⟨BE,?hyc4⟩) ?_
   case hyc4=>(intro w;go_simp;try with_reducible rfl)
   refine F6 (rs:=[1,7]) U AV ?_;refine Df F (λK a=> ?_) ?_
   .go_simp;refine a _ _ ?_;clear a K;refine DW (i:=4) (v:= ?vc5) F U U U (λ_ _ _ h=>h) (Cf ⟨BE,?hyc5⟩) ?_
    case hyc5=>(intro w;go_simp;try with_reducible rfl)
    refine F6 (rs:=[5,7]) U AV ?_;refine Df F (λK a=> ?_) ?_
    .go_simp;refine a _ _ ?_;clear a K;refine F6 (rs:=[7]) U AV ?_;refine Df F (λK a=> ?_) ?_
     .go_simp;refine a _ _ ?_;clear a K;refine DW (i:=8) (v:= ?vc6) F U U U (λ_ _ _ h=>h) (Cf ⟨BE,?hyc6⟩) ?_
      case hyc6=>(intro w;go_simp;try with_reducible rfl)
      refine DW (i:=9) (v:= ?vc7) F U U U (λ_ _ _ h=>h) (Cf ⟨BE,?hyc7⟩) ?_
      case hyc7=>(intro w;go_simp;try with_reducible rfl)
      refine DW (i:=10) (v:= ?vc8) F U U U (λ_ _ _ h=>h) (Cf ⟨BE,?hyc8⟩) ?_
      case hyc8=>(intro w;go_simp;try with_reducible rfl)
      exact mY
     exact F5
    refine Df F (λK a=> ?_) ?_
    .go_simp;refine a _ _ ?_;clear a K;refine DW (i:=8) (v:= ?vc9) F U U U (λ_ _ _ h=>h) (Cf ⟨BE,?hyc9⟩) ?_
     case hyc9=>(intro w;go_simp;try with_reducible rfl)
     refine F6 (rs:=[5]) U AV ?_;refine Df F (λK a=> ?_) ?_
     .go_simp;refine a _ _ ?_;clear a K;refine DW (i:=9) (v:= ?vc10) F U U U (λ_ _ _ h=>h) (Cf ⟨BE,?hyc10⟩) ?_
      case hyc10=>(intro w;go_simp;try with_reducible rfl)
      refine DW (i:=10) (v:= ?vc11) F U U U (λ_ _ _ h=>h) (Cf ⟨BE,?hyc11⟩) ?_
      case hyc11=>(intro w;go_simp;try with_reducible rfl)
      exact mY
     exact F5
    exact F5
   refine Df F (λK a=> ?_) ?_
   .go_simp;refine a _ _ ?_;clear a K;refine DW (i:=8) (v:= ?vc12) F U U U (λ_ _ _ h=>h) (Cf ⟨BE,?hyc12⟩) ?_
    case hyc12=>(intro w;go_simp;try with_reducible rfl)
    refine F6 (rs:=[1]) U AV ?_;refine Df F (λK a=> ?_) ?_
    .go_simp;refine a _ _ ?_;clear a K;refine DW (i:=4) (v:= ?vc13) F U U U (λ_ _ _ h=>h) (Cf ⟨BE,?hyc13⟩) ?_
     case hyc13=>(intro w;go_simp;try with_reducible rfl)
     refine F6 (rs:=[5]) U AV ?_;refine Df F (λK a=> ?_) ?_
     .go_simp;refine a _ _ ?_;clear a K;refine DW (i:=9) (v:= ?vc14) F U U U (λ_ _ _ h=>h) (Cf ⟨BE,?hyc14⟩) ?_
      case hyc14=>(intro w;go_simp;try with_reducible rfl)
      refine DW (i:=10) (v:= ?vc15) F U U U (λ_ _ _ h=>h) (Cf ⟨BE,?hyc15⟩) ?_
      case hyc15=>(intro w;go_simp;try with_reducible rfl)
      exact mY
     exact F5
    exact F5
   exact F5
  have hu:=h.hu d;have z:=A (re h o aa hu);have L:u<=100000000:=by
   rw[hu]
   calc 10^(k%9)<=10^8:=JK Z D
    _=100000000:=rfl
  have C:dg ds k*u<=900000000:=by
   calc dg ds k*u<=9*100000000:=OZ D L
    _=900000000:=rfl
  have ai:(dg ds k:Int)*(u:Int)<=900000000:=by rw[<-ZK];omega
  have aj:0<=(dg ds k:Int)*(u:Int):=by rw[<-ZK];omega
  have b0:=h.x.Hl;have b1:=h.unit.cell;have f1:=h.unit.frozen;have f3:=h.row.frozen (k/9);have b3:=h.row.cell (j:=k/9) (by rw[h.len];omega);have wq:G.wrap ((k:Int)/9)=(k:Int)/9:=EN D D;have w5:G.wrap ((dg ds k:Int)*(u:Int))=dg ds k*u:=EN D D;have w6:G.wrap ((I ad (k/9):Int)+(dg ds k:Int)*(u:Int))=I ad (k/9)+dg ds k*u:=EN D D;have w7:G.wrap ((u:Int)*10)=u*10:=EN D D;have ht:((k:Int)%9==0)=AM:=Hi;clear h d hu C
  gi_wp2
  refine Ui U (VK U (by rintro⟨_,_,h⟩;exact h) _ _ _ _ ?_)
  try(change wpAny _ _ _ _ _ _ _ (World.drew _))
  refine DW (i:=0) (v:= ?vb1) F U U U (λ_ _ _ h=>h) (Cf ⟨BE,?hyb1⟩) ?_
  case hyb1=>(intro w;go_simp;try with_reducible rfl)
  refine DW (i:=2) (v:= ?vb2) F U U U (λ_ _ _ h=>h) (Cf ⟨BE,?hyb2⟩) ?_
  case hyb2=>(intro w;go_simp;try with_reducible rfl)
  refine DW (i:=3) (v:= ?vb3) F U U U (λ_ _ _ h=>h) (Cf ⟨BE,?hyb3⟩) ?_
  case hyb3=>(intro w;go_simp;try with_reducible rfl)
  refine DW (i:=6) (v:= ?vb4) F U U U (λ_ _ _ h=>h) (Cf ⟨BE,?hyb4⟩) ?_
  case hyb4=>(intro w;go_simp;try with_reducible rfl)
  refine F6 (rs:=[1,7]) U AV ?_;refine Df F (λK a=> ?_) ?_
  .go_simp;refine a _ _ ?_;clear a K;refine DW (i:=4) (v:= ?vb5) F U U U (λ_ _ _ h=>h) (Cf ⟨BE,?hyb5⟩) ?_
   case hyb5=>(intro w;go_simp;try with_reducible rfl)
   refine F6 (rs:=[5,7]) U AV ?_;refine Df F (λK a=> ?_) ?_
   .go_simp;refine a _ _ ?_;clear a K;refine F6 (rs:=[7]) U AV ?_;refine Df F (λK a=> ?_) ?_
    .go_simp;refine a _ _ ?_;clear a K;refine DW (i:=8) (v:= ?vb6) F U U U (λ_ _ _ h=>h) (Cf ⟨BE,?hyb6⟩) ?_
     case hyb6=>(intro w;go_simp;try with_reducible rfl)
     refine DW (i:=9) (v:= ?vb7) F U U U (λ_ _ _ h=>h) (Cf ⟨BE,?hyb7⟩) ?_
     case hyb7=>(intro w;go_simp;try with_reducible rfl)
     refine DW (i:=10) (v:= ?vb8) F U U U (λ_ _ _ h=>h) (Cf ⟨BE,?hyb8⟩) ?_
     case hyb8=>(intro w;go_simp;try with_reducible rfl)
     exact mX
    exact F5
   refine Df F (λK a=> ?_) ?_
   .go_simp;refine a _ _ ?_;clear a K;refine DW (i:=8) (v:= ?vb9) F U U U (λ_ _ _ h=>h) (Cf ⟨BE,?hyb9⟩) ?_
    case hyb9=>(intro w;go_simp;try with_reducible rfl)
    refine F6 (rs:=[5]) U AV ?_;refine Df F (λK a=> ?_) ?_
    .go_simp;refine a _ _ ?_;clear a K;refine DW (i:=9) (v:= ?vb10) F U U U (λ_ _ _ h=>h) (Cf ⟨BE,?hyb10⟩) ?_
     case hyb10=>(intro w;go_simp;try with_reducible rfl)
     refine DW (i:=10) (v:= ?vb11) F U U U (λ_ _ _ h=>h) (Cf ⟨BE,?hyb11⟩) ?_
     case hyb11=>(intro w;go_simp;try with_reducible rfl)
     exact mX
    exact F5
   exact F5
  refine Df F (λK a=> ?_) ?_
  .go_simp;refine a _ _ ?_;clear a K;refine DW (i:=8) (v:= ?vb12) F U U U (λ_ _ _ h=>h) (Cf ⟨BE,?hyb12⟩) ?_
   case hyb12=>(intro w;go_simp;try with_reducible rfl)
   refine F6 (rs:=[1]) U AV ?_;refine Df F (λK a=> ?_) ?_
   .go_simp;refine a _ _ ?_;clear a K;refine DW (i:=4) (v:= ?vb13) F U U U (λ_ _ _ h=>h) (Cf ⟨BE,?hyb13⟩) ?_
    case hyb13=>(intro w;go_simp;try with_reducible rfl)
    refine F6 (rs:=[5]) U AV ?_;refine Df F (λK a=> ?_) ?_
    .go_simp;refine a _ _ ?_;clear a K;refine DW (i:=9) (v:= ?vb14) F U U U (λ_ _ _ h=>h) (Cf ⟨BE,?hyb14⟩) ?_
     case hyb14=>(intro w;go_simp;try with_reducible rfl)
     refine DW (i:=10) (v:= ?vb15) F U U U (λ_ _ _ h=>h) (Cf ⟨BE,?hyb15⟩) ?_
     case hyb15=>(intro w;go_simp;try with_reducible rfl)
     exact mX
    exact F5
   exact F5
  exact F5
 case done=>
  rintro J W t ⟨ad,u,h⟩ a;have c1:=h.x.Hl;have c0:=h.x.cell0;have f1:=h.x.frozen 1;have d0:=h.res.cell0;have d1:=h.res.Hl;have g0:=h.res.frozen 0;have g1:=h.res.frozen 1;have ak:=h.row;have P:=A h;clear h;gi_wp2_with(refine⟨trivial,?_⟩;gi_at_call 344;refine(De.2 (U9 ak P.len)).mono ?_;rintro e w' ⟨rfl,rfl⟩)
  have m:=P.o;have⟨X,f⟩:=AP (((W.setCell ⟨w.1.size+2,1,O⟩ (AK (Q ⟨w.1.size+1,0,O⟩) (Bn ad).length n)).setCell ⟨w.1.size,0,O⟩ (AU neg)).setCell ⟨w.1.size,1,O⟩ (AK (Q ⟨w.1.size+1,0,O⟩) (Bn ad).length n));have k1:X.1[J]?=Q (.deferred (Q [])):=by
   rw[<-f];exact(((Gq _ _ _).trans (Gq _ _ _)).trans (Gq _ _ _)).same J _ a F
  have k2:CO X w.1.size 341 (AU neg) (AK (Q ⟨w.1.size+1,0,O⟩) (Bn ad).length n):=by
   rw[<-f];exact((m.res.Bo AV _).Kn _).PK _
  have k3:Row X (w.1.size+1) n ad:=by rw[<-f];exact((m.row.Bo AV _).Bo AV _).Bo AV _
  have k5:At w.1.size w X:=by
   rw[<-f];exact((m.low.setCell (p:=⟨w.1.size+2,1,O⟩) AV _).setCell (p:=⟨w.1.size,0,O⟩) AV _).setCell (p:=⟨w.1.size,1,O⟩) AV _
  rw[f];refine⟨AV,.inl ⟨_,_,rfl,PV k1,?_⟩⟩;have b:=CN.putObj (n0:=w.1.size) (.deferred O) k1 F RJ;have q0:=(k2.stays b).cell0;have q1:=(k2.stays b).Hl;have hm:=m.m;refine⟨AW #[AU neg,AK (Q ⟨w.1.size+1,0,O⟩) (Bn ad).length n],by simp[results,results322,go_sem,q0,q1],_,Bn ad,by rw[ae.o],⟨_,_,rfl,D,(k3.stays b).trimmed⟩,Sm hm.Bf,?_,?_,k5.trans b.below⟩
  .rw[Sn,N.o,<-b0C];exact hm.eq
  have:=Lt ad;have:=m.len;have:=ac.o;rw[N.o];omega
 intro J c k W t hk h;exact h.elim
def a48{t:Nat}(h1:1<=t)(h2:t<1000000000):∃f:Nat,(1000000000:Int)/((t:Int)+1)=f/\1<=f/\f<1000000000:=by
 refine⟨1000000000/(t+1),AV,?_,?_⟩
 .exact(Nat.le_div_iff_mul_le D).2 D
 exact Nat.div_lt_self D D
theorem a8Y{l:List Nat}(h:w.ownsRow base 3 1 (AK (Q ⟨g,0,O⟩) (ln l+1) R) (ln l+1) ((l.map λ(d:Nat)=>Gr .i64 (d:Int))++[M G 0])):Row w g R (l++[0]):=by
 grind [wH,I]
def a3D(w:V)(a b:List Nat)(va vb:AN)(ha:BH w w.heap.size va a)(hb:BH w w.heap.size vb b)(ac:Canon a)(B:Canon b)(bF:ln a<=400000)(h2:2<=ln b)(aB:val b<=val a):
  AZ AO 323 #[va,vb] w (Vu w a b):=by
 have a5:ln b<=ln a:=by
  rcases Ht (ln a) (ln b) with h|h
  ·have:=Rf ac.Bf B.trim h;omega
  ·exact h
 have a9:=A (Xz (w.alloc (.cells #[AK O 0 0] 25)) a b va vb (ha.new _) (hb.new _) ac B D);have HA:=A ha;have HB:=A hb;obtain⟨aa,ca,rfl,_,_,bz⟩:=ha;obtain⟨A',cb,rfl,a1,a3,a4⟩:=hb;clear bz;obtain⟨bb,bo,rfl,az,a8⟩:=a4 D;have hx:=a8 (ln b-1) D;have aO:1<=I b (ln b-1):=by
  rcases bR b with rfl|⟨m,d,rfl⟩
  ·simp at h2
  ·have:=B.trim.last;exact zC
 have aP:I b (ln b-1)<1000000000:=Du B.Bf _;clear a4 a8;unfold BM at *;have a2:((ln b:Int)==1)=AM:=Hi;refine(De (n:=9)).1 (R8 func323 F trivial ?_);simp only[ntmps323,Nn,FX,Jy,Hw,Nat.reduceSub,OX,PQ,PS,PR,Lm,LO];gi_wp2_with(refine⟨trivial,?_⟩;gi_at_call 345;refine(De.2 a9.o).mono ?_;clear a9;rintro e w1 ⟨c,rfl,h1,h2,hB⟩;have hc:¬c<0:=(λh=>absurd (h1.1 h) D);clear h1 h2;have b1:=((Bx.new w 25 (AK O 0 0)).below hB AV);have x1:w1.cell? ⟨bb,bo+(ln b-1),O⟩=Q (M G (I b (ln b-1))):=((hB.cell (p:=⟨bb,bo+(ln b-1),O⟩) Bk).trans (World.cell?_alloc_lt w _ ⟨bb,bo+(ln b-1),O⟩ az)).trans hx)
 obtain⟨f,hf,ag,bg⟩:=a48 aO aP;rw[hf];have an:At w.heap.size w w1:=((Ad _ _).alloc (AS _) _).trans (hB.mono AV);have aX:w.heap.size<w1.heap.size:=b1.lt;have am:Small [f]:=by intro x hx;rw[List.mem_singleton.1 hx];exact bg
 have OR:=row_one w1 f;refine⟨trivial,(De.2 (kE (w1.alloc (.cells #[M G f] 3)) a [f] _ _ ((HA.o.grow an).new _) (OR.sl OR.lt) ac.Bf am D AV)).mono ?_⟩;rintro e w2 ⟨v,l,rfl,⟨gu,cu,rfl,aD,ad⟩,T,aj,aG,ao⟩;have aE:w1.heap.size<gu:=by simp at aD;omega
 have bl:ln l<=ln a+2:=by simp at aG;omega
 have aV:At w.heap.size w w2:=an.trans (((Ad _ _).alloc D _).trans (ao.mono Bk));have b2:=(b1.alloc (.cells #[M G f] 3)).below ao Bk;have bp:=a4i (base:=w1.heap.size+1) ad aE;obtain⟨i0,hi,bs,bt,bu⟩:=DM OG;have aY:w1.heap.size+1<=w2.heap.size:=by have:=ao.size;simpa using this
 have H:=A hf;clear hf x1 hx;gi_wp2_with(gi_at_builtin;refine wpListIn_append_own _ F _ _ 25 F (w1.heap.size+1) 3 i0 (M G 0) 1 8 FD hi bs bt bu F Z _ _ _ F (bp.alloc _) ⟨w2.heap.size,0,O⟩ 1 1 [M G 0] F F (cell_one_new _ _ _) QP Fp D Bk ?_;intro v' E aq aC _;obtain⟨o,C,rfl⟩:=ownsRow_succ aq)
 have aM:Row E o C (l++[0]):=a8Y aq;have bj:w1.heap.size+1<=o:=(aq.lt o F).1;have bi:o<E.heap.size:=aM.lt;have ax:At w.heap.size w E:=(aV.alloc D _).grown aC Bk (λk e=>by have e':gu=k:=Kr e;omega);have b3:Bx E w.heap.size 25 (AK O 0 0):=(aC.block _ Bk (λe=>by have e':w.heap.size=gu:=Kr e;omega)).trans (b2.alloc _);have Tt:=row_one E f;have aZ:w.heap.size<E.heap.size:=b3.lt;clear aC aq bp ad b2 OR b1 ao;refine⟨trivial,(De.2 (kE (E.alloc (.cells #[M G f] 3)) b [f] _ _ ((HB.o.grow ax).new _) (Tt.sl Tt.lt) B.Bf am D AV)).mono ?_⟩;rintro e i ⟨v,tv,rfl,⟨gb,cv,rfl,aA,ar⟩,ab,al,aJ,ae⟩;have bh:E.heap.size<gb:=by simp at aA;omega
 have bm:ln tv<=ln b+2:=by simp at aJ;omega
 have aN:=(aM.alloc (.cells #[M G f] 3)).below ae Bk;have b4:=(b3.alloc (.cells #[M G f] 3)).below ae Bk;have ay:At w.heap.size w i:=ax.trans (((Ad _ _).alloc D _).trans (ae.mono Bk));have a0:E.heap.size+1<=i.heap.size:=by have:=ae.size;simpa using this
 have bB:gb<i.heap.size:=ar.lt;clear b3 aM Tt ae ax aV hi bs bt bu;have c0:=b4.cell;have f0:=b4.frozen;have bk:ln a<=ln l:=by
  rcases Ht (ln l) (ln a) with h|h
  ·have h1:=Rf T.Bf ac.trim h;have h3:val a*1<=val a*f:=Ws _ ag;rw[aj,val_one] at h1;omega
  ·exact h
 have bH:AQ ((ln l:Int)+1<(ln a:Int)+1)=AM:=Bk;gi_wp2_with fail
 gi_loopw [44] (λ_ wr=>wr=((i.alloc (.cells #[AK (Q ⟨o,0,O⟩) (ln l+1) C] 25)).alloc (.cells #[AK (Q ⟨gb,0,O⟩) (ln tv) cv] 25))) (λ_ _=>0)
 case atStart=>rfl
 case round=>
  subst hrel;have br:val b<=val tv:=by rw[al,val_one];exact Nat.le_mul_of_pos_right _ ag
  have aQ:ln b<=ln tv:=by
   rcases Ht (ln tv) (ln b) with h|h
   ·have:=Rf ab.Bf B.trim h;omega
   ·exact h
  have bq:ln tv<=ln l:=by
   rcases Ht (ln l) (ln tv) with h|h
   ·have h1:=Rf T.Bf ab.trim h;rw[aj,al] at h1;have:val b*val [f]<=val a*val [f]:=Gz _ aB;omega
   ·exact h
  obtain⟨g,ai⟩:∃g,ln l+1=g+ln tv:=⟨ln l+1-ln tv,D⟩;have em:(ln l:Int)+1-ln tv=(g:Int):=D;have aK:=jC g D;rw[<-em] at aK;have HM:=A ai;have HE:=A em;have bG:w.heap.size<i.heap.size:=D;have bZ:¬w.heap.size=i.heap.size:=D;have b0:¬w.heap.size=i.heap.size+1:=D;have b5:¬w.heap.size=i.heap.size+1+1:=D;have bU:w.heap.size<i.heap.size+1:=D;have bV:w.heap.size<i.heap.size+1+1:=D;clear ai em bH;gi_wp2_with(refine⟨trivial,?_⟩;gi_at_call 348;refine(De.2 (Xw _ _ _ _)).mono ?_;rintro e w' ⟨rfl,rfl⟩)
  have ai:=HM.o;refine VM (gf:=363) (lb:=#[Ap (Q ⟨i.heap.size+3,0,O⟩)]) F (FZ func363 U F)
   (Xu (i.heap.size+3) (Q ⟨i.heap.size+2,0,O⟩) g g (λ_ _=>True) D) (λk x ⟨_,_,e⟩=>by rw[e];rfl)
   (b2a w i.heap.size o C gb cv tv (val a*f) g (ln l+1)) (λ_ _ _=>False) (λk W Y ⟨u,q,h⟩ hs=>⟨u,q,h.stays hs Bk⟩) (λc k W Y h hs=>h) (λk W ⟨u,q,h⟩=>h.back) ?BI ?round ?done ?stop
  case BI=>
   have N:(i.setCell ⟨w.heap.size,0,O⟩ (AK (Q ⟨i.heap.size+1+1,0,O⟩) g g)).heap.size=i.heap.size:=by simp[Di]
   have hz:=kF (((i.setCell ⟨w.heap.size,0,O⟩ (AK (Q ⟨i.heap.size+1+1,0,O⟩) g g)).alloc (.cells #[AK (Q ⟨o,0,O⟩) (ln l+1) C] 25)).alloc (.cells #[AK (Q ⟨gb,0,O⟩) (ln tv) cv] 25)) g D;simp only[D5,N] at hz;have au:Small (l++[0]):=T.Bf.snoc Z;refine⟨l++[0],F7 g 0,((((b4.put _).alloc _).alloc _).alloc _).alloc _,(((Bx.at_ N).alloc _).alloc _).alloc _,((Bx.at_ (by simp[N])).alloc _).alloc _,Bx.at_ (by simp[N]),?_,?_,hz.alloc _,AV,AV,?_,?_⟩
   ·exact((((aN.Bo Bk _).alloc _).alloc _).alloc _).alloc _
   ·exact((((ar.Bo Bk _).alloc _).alloc _).alloc _).alloc _
   ·refine Nz.BI au Bk (by rw[vH,aj,val_one]) (by unfold I;simp) D (XL ab.trim (by intro h0;rw[h0,Jy] at aQ;omega))
   ·have h1:At w.heap.size w (i.setCell ⟨w.heap.size,0,O⟩ (AK (Q ⟨i.heap.size+1+1,0,O⟩) g g)):=ay.setCell (p:=⟨w.heap.size,0,O⟩) (AS _) _;exact(((h1.alloc (by rw[N];omega) _).alloc (by simp[N];omega) _).alloc (by simp[N];omega) _).alloc (by simp[N];omega) _
  case round=>
   have bn:2<=ln tv:=D;have bD:w.heap.size<o:=D;have bC:o<i.heap.size:=D;have ah:o≠gb:=D;have bX:ln l+1<=500000:=D;have bJ:1<=I tv (ln tv-1):=by
    rcases bR tv with rfl|⟨m,d,rfl⟩
    ·exact absurd bn AV
    ·have:=ab.trim.last;exact zC
   have ak:=ab.Bf;clear br aQ bq aK HE bk c0 f0 b4 aN ar T aj al ab aG aJ bl bm aD aE aA bh bj bi ay an hB aX aY aZ a0 aO aP am H HA HB ac B az a1 a3 hc a2 a5 aB h2 bF;intro lp k x W K hk hx hi hK;obtain⟨v,_,rfl⟩:=hx;have HK:=A hK;clear hK
   gi_wp2
   refine HK.o _ (λW2 bE _=> ?_);clear HK hi;obtain⟨u,q,h⟩:=bE;have c1:=h.bq.cell;have c2:=h.bu.cell;have c3:=h.bv.cell;have aI:=h.lu;have aH:=h.lq;have be:=h.dm.len;have aR:=h.dm.top (v:=tv) D ak F D F;have ap:=h.dm.lt D;rw[aH] at aR ap;have av:=A (a1a W2 o C u tv (Q ⟨gb,0,O⟩) cv (g-1-k) W2.heap.size h.ru (h.rv.sl h.rv.lt) h.dm.Bf ak bn D D bJ aR ap);have r:=A h;rw[aI] at av;have bL:=A be;have bM:=A aH;have R:=A aI;have bY:g<=500000:=D;clear aR ap aI aH be h ai;gi_wp2_with(refine⟨trivial,?_⟩;gi_at_call 349;refine(LN lp (De.2 av.o)).mono ?_;clear av;rintro e w5 ⟨d,n5,rfl,bc,bd,rfl⟩)
   have HD:=A bc;clear bc
   gi_loopw [10] (λd wr=>a7g W2 o C tv u (g-1-k) d wr) (λd _=>(B8 d).toNat)
   case atStart=>exact⟨d,u,F,r.o.ru,F,r.o.dm.Bf,λ_ _=>rfl,rfl,HD.o,bd,(EO.refl _ _).drewN n5⟩
   case round=>
    obtain⟨d',x,rfl,hrel⟩:=hrel;clear HD bd;have e1:=(r.o.bu.only hrel.only D);have e2:=(r.o.bv.only hrel.only D);have g1:=e1.cell;have g2:=e2.cell;have g3:=e1.frozen;have HT:=A (a94 wr o C x tv (AK (Q ⟨gb,0,O⟩) (ln tv) cv) (g-1-k) d' hrel.row ((r.o.rv.only hrel.only (Ej ah)).WS (Ej ah)) hrel.Bf ak (by have:=hrel.len;have:=R.o;have:=HM.o;omega) hrel.bound (by have:=hrel.len;have:=R.o;omega));rw[hrel.len,R.o] at HT;have HR:=A hrel;clear hrel;gi_wp2_with fail
    refine⟨trivial,(LN lp (De.2 HT.o)).mono ?_⟩;clear HT;rintro e w6 ⟨c,y,rfl,P⟩;have S:=HR.o.only.trans P.2.2.2.2.2.2;have p1:=r.o.bq.only S D;have p2:=r.o.bu.only S D;have p3:=r.o.bv.only S D;have q1:=p1.cell;have q2:=p2.cell;have b8:=p2.frozen;have q3:=p3.cell;by_cases a7:c=0
    ·subst a7;have hn:=r.o.next hk ak bD bC bB ah bG HR.o P;have bP:=hn.1;have HN:=A hn.2;have z1:=(r.o.rq.only S D).cell (j:=g-1-k) (by rw[r.o.lq];omega);have z2:=(r.o.rq.only S D).frozen (g-1-k);have i1:((g-1-k:Nat):Int)<g:=D;clear P S p1 p2 p3 hn e1 e2;gi_wp2_with fail
     exact⟨HN.o.1,_,_,HN.o.2⟩
    ·have ba:0<c:=D;have B:AQ (0<c)=AL:=by simpa using ba
     have aT:=P.2.1;have aS:=HR.o.len;have aw:=A (a1x w6 o C y tv (AK (Q ⟨gb,0,O⟩) (ln tv) cv) (g-1-k) d' P.1 ((r.o.rv.only S (Ej ah)).WS (Ej ah)) P.2.2.1 ak (by have:=R.o;have:=HM.o;omega) HR.o.bound (by have:=R.o;omega));rw[aT,aS,R.o] at aw;have bv:=A P;have HY:Hid (ln y=ln l+1):=by rw[aT,aS,R.o];exact A F
     have bQ:=HR.o.bound;clear P p1 p3 aT aS e1 e2 a7;gi_wp2_with(refine⟨trivial,?_⟩;gi_at_call 351;refine(LN lp (De.2 aw.o)).mono ?_;clear aw;rintro e w7 ⟨c2,z,rfl,aL⟩;have aF:=HR.o.less bv.o aL ba;have bW:=aF.1;have HL:=A aF.2;have y2:=p2.only aL.2.2.2.2.2.2 D;have b9:=y2.cell;have cc:=y2.frozen;clear aF aL)
     rw[HY.o];have L:=HL.o;have e9:(d':Int)-1=((d'-1:Nat):Int):=D;rw[e9];exact⟨⟨d'-1,z,F,L.row.Bo (p:=⟨i.heap.size,0,O⟩) Bk _,L.len,L.Bf,L.same,L.WV,L.lt,L.bound,L.only.again y2⟩,by grind [B8]⟩
  case done=>
   rintro J W t ⟨u,q,h⟩ hK;have au:=h.dm.Bf;have a6:0<val b:=Dj (by decide:0<1) (BJ (Nat.one_le_pow _ _ Z) (XL B.trim Al));have bf:val q=val a/val b/\val u=(val a%val b)*f:=by
    have hd:=h.dm;rw[al,val_one] at hd;rw[<-h.lq] at hd;exact hd.done ag a6
   have hT:=A (U9 h.ru h.lu);have ad:=h.ru.trimmed;have ap:(Bn u).length<=ln l+1:=by have:=Lt u;have:=h.lu;omega
   have aW:=A (nA W (Bn u) (AK (Q ⟨o,0,O⟩) (Bn u).length C) f (ad.sl ad.lt) (Sm au).Bf ag bg D);have c2:=h.bu.cell;have s:=A h;have aU:=A bf;clear br aQ bq aK HE bk c0 f0 b4 aN ar T aj al ab aG aJ bl bm aD aE aA bh bj bi ay an hB aX aY aZ a0 aO aP am H HA HB ac B az a1 a3 hc a2 a5 aB h2 h bf ad au a6 ai HM;gi_wp2_with(first
    |(refine⟨trivial,?_⟩;gi_at_call 346;refine(De.2 aW.o).mono ?_;clear aW;rintro e w6 ⟨vq,vr,ql,rl,rfl,⟨gq,cq,rfl,bS,bI⟩,bA,bK,⟨gr,cr,rfl,bT,b6⟩,bO,b7,af⟩;have p1:=s.o.bq.below af s.o.bq.lt;have q1:=p1.cell;have q2:=p1.frozen;have bx:=A (U9 (s.o.rq.below af s.o.rq.lt) s.o.lq))
    |(refine⟨trivial,?_⟩;refine(De.2 hT.o).mono ?_;clear hT;rintro e w' ⟨rfl,rfl⟩)
    |(refine⟨trivial,?_⟩;refine(De.2 bx.o).mono ?_;rintro e w' ⟨rfl,rfl⟩))
   obtain⟨X,hX⟩:=AP (w6.setCell ⟨w.heap.size,0,O⟩ (AK (Q ⟨i.heap.size+2,0,O⟩) (Bn q).length g));have bN:w.heap.size<W.heap.size:=s.o.bq.lt;have bw:w6.heap[J]?=Q (.deferred (Q [])):=(af.block J (Ee.1 hK).1).trans hK;have k1:X.heap[J]?=Q (.deferred (Q [])):=by rw[<-hX];exact(Gq _ _ _).same J _ bw F
   have k2:Bx X w.heap.size 25 (AK (Q ⟨i.heap.size+2,0,O⟩) (Bn q).length g):=by rw[<-hX];exact p1.put _
   have k3:Row X (i.heap.size+2) g (Bn q):=by rw[<-hX];exact((s.o.rq.below af s.o.rq.lt).Bo Al _).trimmed
   have k4:Row X gq cq ql:=by grind [bI.Bo]
   have k5:At w.heap.size w X:=by rw[<-hX];exact(s.o.low.trans (af.mono D)).setCell (p:=⟨w.heap.size,0,O⟩) (AS _) _
   rw[hX];have hs:=CN.putObj (n0:=w.heap.size) (.deferred O) k1 F RJ;have T:=hs.cell k2.cell;refine⟨AV,.inl ⟨_,_,rfl,PV k1,?_⟩⟩;have r1:=k3.stays hs;have r2:=k4.stays hs;refine⟨BO #[AK (Q ⟨i.heap.size+2,0,O⟩) (Bn q).length g,AK (Q ⟨gq,0,O⟩) (ln ql) cq],by simp[results,results323,go_sem,T],_,_,Bn q,ql,rfl,r1.sl r1.lt,Sm s.o.dm.b3d,?_,r2.sl r2.lt,bA,?_,k5.trans hs.below⟩
   ·rw[Sn];exact aU.o.1
   ·rw[bK,Sn,aU.o.2,Nat.mul_div_cancel _ ag]
  grind
def a4m(w:V)(a b:List Nat)(c e:AN)(f:BH w w.1.size c a)(g:BH w w.1.size e b)(i:Canon a)(j:Canon b)(m:ln a<=400000)(l:b≠[]):
  AZ AO 323 #[c,e] w (Vu w a b):=by
 rcases Ht _ _ with n|k
 .exact a1R w a b c e f g i j D n
 match b,l with
 |[d],_=>exact a4u w a d c e f g i j D k
 |d::d2::r,_=>exact a3D w a _ c e f g i j m AV k
end
section
open Kp
theorem a5s{P:Program}{n:String}(h:w.var? P n=Q cs)(c:At B0 w w')(d:w.1.size<=B0):w'.var? P n=Q cs:=by
 unfold World.var? at h⊢;cases b:P.globalNamed n with
 |none=>rw[b] at h;cases h
 |some g=>
  rw[b] at h;simp only[Option.bind_some] at h⊢;have e:g<w.1.size:=by
   rcases Ht g w.1.size with a|a
   .exact a
   rw[Array.getElem?_eq_none a] at h;cases h
  rw[c.block g D];exact h
theorem below_drewN(h:At B0 w w')(n:Nat):At B0 w (w'.drewN n):=⟨h.os,h.tape,h.output,h.size,h.block⟩
def Fu(a b:List UInt8):Int:=if IN a=0 then IN b else IN a
def Rm(a b:List UInt8)(w:V)(i:ln a<=1000000)(j:ln b<=1000000):
  AZ AO 320 #[AT (tx a),AT (tx b)] w λe w'=>e=Ac (M G (Fu a b))/\At w.1.size w w':=by
 by_cases c:IN a=0
 .have g:(IN a !=0)=AM:=by simp[c]
  have d:=A c;clear c;go_enter func320,ntmps320;go_wp2_with(go_at_call 342;refine(nJ _ _ DI).mono ?_;first|(rintro e w1 ⟨rfl,f⟩))
  go_ret;exact⟨LV (by unfold Fu;rw[d.o,Aj rfl]),Below.trans DI (Below.mono DI (R9 DI))⟩
 have g:(IN a !=0)=AL:=by simpa using c
 have d:=A c;clear c;go_enter func320,ntmps320;go_wp2_with(go_at_call 342;refine(nJ _ _ DI).mono ?_;first|(rintro e w1 ⟨rfl,f⟩))
 go_ret;exact⟨LV (by unfold Fu;rw[Af d.o]),f⟩
def num(l:List UInt8):Int:=if DH l [45] then -(BY (Ag l):Int) else BY (Ag l)
def a7l{l:List UInt8}(h:Eu l=AL):Lib.atoi l=Q (num l):=by
 unfold Eu at h;simp only[Ez,S9] at h;obtain⟨⟨g,i⟩,_⟩:=h;have j:Ag l≠[]:=by intro e;rw[e] at i;simp at i
 have d:=jj g j;unfold num;cases l with
 |nil=>exact absurd F j
 |cons b r=>
  by_cases f:b=45
  .subst f;have a:DH (45::r) [45]=AL:=by simp[DH]
   have c:Ag (45::r)=r:=by unfold Ag Lib.trimPrefix;rw[Aj a];rfl
   rw[c] at d;rw[a,c];simp[Lib.atoi,d]
  have a:DH (b::r) [45]=AM:=by simp[DH,List.isPrefixOf,Ej f]
  have c:Ag (b::r)=b::r:=by unfold Ag Lib.trimPrefix;rw[a];rfl
  rw[c] at d g;rw[a,c];have k:b≠43:=by
   intro e;subst e;simp[CJ] at g
  simp[Lib.atoi,d,f,k]
def nX(a b:List UInt8)(w:V)(h:18<ln a\/18<ln b)(c:ln a<=1000000)(d:ln b<=1000000):
  AZ AO 321 #[AT (tx a),AT (tx b),M G 18] w λe w'=>e=Ac (BO #[M G 0,M G 0,AU AM])/\At w.1.size w w':=by
 by_cases h1:18<ln a
 .exact z8
 have h2:18<ln b:=D;exact z8
def a57(a:List UInt8)(c:ln a<=18)(b:Eu a=AL)(w:V):
  AZ AO 168 #[AT (tx a)] w λe w'=>e=Ac (BO #[M G (num a),.nilIface])/\At w.1.size w w':=
 (strconv_Atoi (tx a) (num a) (by rw[DJ];exact c) (by rw[ME];exact a7l b) w).mono λ_ _ ⟨h1,t,h2⟩=>⟨h1,by rw[h2];exact Lib.bytesWorld_below _ _ _⟩
def jQ(a b:List UInt8)(w:V)(i:ln a<=18)(j:ln b<=18)(d:Eu a=AL)(f:Eu b=AL):
  AZ AO 321 #[AT (tx a),AT (tx b),M G 18] w λe w'=>e=Ac (BO #[M G (num a),M G (num b),AU AL])/\At w.1.size w w':=by
 have k:=λW=>run_eql_nil_nil (P:=AO) W 185 U
 go_enter func321,ntmps321;go_wp2_with(go_at_call 168;refine(a57 _ DI DI _).q λw1 g=>?_)
 go_quiet (fail)
 go_wp2;have c:At w.1.size w w1:=Below.trans DI (Below.mono DI (R9 DI));exact Bp (v:= BO #[M G (num a),M G (num b),AU AL]) (by simp[results,results321,go_sem]) F ⟨F,below_drewN c _⟩
def Bd(B b:Nat)(T:Bb)(p:AN)(rest bs:List AN)(w:V):Prop:=
 B<=b/\∃v,w.1[b]?=Q (.cells (p::v::rest).toArray T (0,0))/\w.ownsRow B 5 1 v (ln bs) bs/\v.ownBlock≠Q b
structure WO(T:Bb)(n:Nat):Prop where
 b4d:liesAt AO AO.depth T (n/AO.cellsOf T) 0 112 1=AL
 ne:T≠5
def bE:WO 112 2:=⟨U,Z⟩
def jg:WO 114 4:=⟨U,Z⟩
def XU(b:Nat)(p:AN):Prop:=p=Ap O\/p=Ap (Q ⟨b,0,O⟩)
abbrev E6(b:Nat):AN:= Ap (Q ⟨b,0,O⟩)
def vQ:(AO.info? 112).map (·.size)=Q 2:=U
def pG:(AO.info? 5).map (λi=>(i.zero,i.size,i.bytes))=Q (Q (M .u8 0),1,1):=U
theorem VN{p v:AN}(h:w.1[b]?=Q (.cells (p::v::rest).toArray T (0,0))):w.cell? ⟨b,0,O⟩=Q p:=by simp[Dx,h]
theorem VU{p v:AN}(h:w.1[b]?=Q (.cells (p::v::rest).toArray T (0,0))):w.cell? ⟨b,1,O⟩=Q v:=by simp[Dx,h]
theorem jS(h:w.1[b]?=Q (.cells cs T (0,0)))(i:Nat):w.frozen? ⟨b,i,O⟩=AM:=by simp[Hb,h]
theorem a4K{cs:List AN}(h:w.1[b]?=Q (.cells cs.toArray T (0,0))):w.shape? b=Q (T,ln cs):=by simp[World.shape?,h]
def a3U(b:Nat)(w:V)(c:w.cell? ⟨b,0,O⟩=Q (E6 b)):
  AZ AO 245 #[E6 b] w λe w'=>e=Ac (BO #[])/\w'=w:=by
 have⟨j,a,_⟩:=mD.1 vQ;go_enter func245,ntmps245;go_wp2;rw[Lib.run_neq_ptr_same w _ underlying109 a];go_wp2;go_end0;exact⟨F,F⟩
def a2o(b:Nat)(T:Bb)(n:Nat)(w:V)(g:w.cell? ⟨b,0,O⟩=Q (Ap O))(c:w.shape? b=Q (T,n))(hn:2<=n)(d:WO T n)(i:w.frozen? ⟨b,0,O⟩=AM):
  AZ AO 245 #[E6 b] w λe w'=>e=Ac (BO #[])/\w'=w.setCell ⟨b,0,O⟩ (E6 b):=by
 have⟨j,a,f⟩:=mD.1 vQ;go_enter func245,ntmps245;go_wp2;rw[Lib.run_to_unsafe w ⟨b,0,O⟩ underlying109 underlying302 a (by rw[f];decide) c (by show 0<n;omega)];simp only[Result.andThen];rw[Oper.upon_value];go_wp2;rw[lh func292 U U U (e:=Extern.AbiNoEscape.same) U];rw[Lib.run_noEscape];simp only[Result.andThen];rw[Oper.upon_value];go_wp2;rw[Lib.run_from_unsafe w ⟨b,0,O⟩ underlying302 underlying109 a c d.b4d];simp only[Result.andThen];rw[Oper.upon_value];go_wp2;go_end0;exact⟨F,F⟩
theorem a6O{p v:AN}(h:w.1[b]?=Q (.cells (p::v::rest).toArray T (0,0)))(x:AN):
  (w.setCell ⟨b,0,O⟩ x).1[b]?=Q (.cells (x::v::rest).toArray T (0,0)):=by simp[Di,IT,h]
theorem a5l{p v:AN}(h:w.1[b]?=Q (.cells (p::v::rest).toArray T (0,0)))(x:AN):
  (w.setCell ⟨b,1,O⟩ x).1[b]?=Q (.cells (p::x::rest).toArray T (0,0)):=by simp[Di,IT,h]
theorem kV{B b i n:Nat}{v:AN}(h:w.ownsRow B 5 1 v n xs)(a:v.ownBlock≠Q b)(x:AN):(w.setCell ⟨b,i,O⟩ x).ownsRow B 5 1 v n xs:=
 h.kept (row:=Q b) ⟨rfl,rfl,rfl,by simp[Di],λk _ hk=>Gp _ _ _ _ (λe=>hk (by simp[e]))⟩ (Or.inr a)
structure DQ(B b:Nat)(w w':V):Prop where
 low:At B w w'
 kept:Lib.OthersKept 5 (Q b) w w'
def DQ.trans{B b:Nat}{a c d:V}(h:DQ B b a c)(k:DQ B b c d):DQ B b a d:=⟨h.low.trans k.low,h.kept.trans k.kept⟩
theorem DQ.refl(B b:Nat)(w:V):DQ B b w w:=⟨Ad _ _,Z6 _ _ _⟩
theorem DQ.Gi{B b:Nat}(h:DQ B b w w'){m:Nat×Nat}(d:w.1[b]?=Q (.cells cs t m)):GF w w':=
 ⟨h.low.size,λk o hk a=>h.kept k o hk (λe=>by cases e;rw[d] at hk;cases hk;cases a) (λc f e=>by subst e;cases a)⟩
def oZ(B b:Nat)(T:Bb)(p:AN)(rest bs:List AN)(w:V)(h:Bd B b T p rest bs w)(i:XU b p)(g:WO T (ln rest+2)):
  AZ AO 245 #[E6 b] w λe w'=>e=Ac (BO #[])/\Bd B b T (E6 b) rest bs w'/\DQ B b w w':=by
 obtain⟨c,v,a,f,d⟩:=h;rcases i with rfl|rfl
 .refine(a2o b T (ln rest+2) w (VN a) (a4K a) D g (jS a 0)).mono ?_;rintro e w' ⟨rfl,rfl⟩;exact⟨F,⟨c,v,a6O a _,kV f d _,d⟩,(Ad _ _).setCell (p:=⟨b,0,O⟩) c _,(Z6 _ _ _).setCell ⟨b,0,O⟩ F _⟩
 refine(a3U b w (VN a)).mono ?_;rintro e w' ⟨rfl,rfl⟩;exact⟨F,⟨c,v,a,f,d⟩,DQ.refl _ _ _⟩
theorem ur{B b:Nat}{p v v':AN}(e:B<=b)(a:w.1[b]?=Q (.cells (p::v::rest).toArray T (0,0)))(d:w.ownsRow B 5 1 v' (ln bs') bs')(f:T≠5):
  Bd B b T p rest bs' (w.setCell ⟨b,1,O⟩ v'):=by
 have c:=Lib.ownBlock_ne d a f;exact⟨e,v',a5l a _,kV d c _,c⟩
def Y1(B b:Nat)(T:Bb)(p:AN)(rest bs:List AN)(s:ByteArray)(w:V)(h:Bd B b T p rest bs w)(t:XU b p)(n:WO T (ln rest+2))(D:ln bs+s.size<=140737488355328)(C:B<=w.1.size):
  AZ AO 178 #[E6 b,AT s] w λe w'=>e=Ac (BO #[M G s.size,.nilIface])/\Bd B b T (E6 b) rest (bs++Lib.strCells s) w'/\DQ B b w w':=by
 obtain⟨z,hi,u,x,y⟩:=DM pG;go_enter func178,ntmps178;go_wp2_with(go_at_call 245;refine(oZ B b T p rest bs _ h t n).mono ?_)
 rintro e w1 ⟨rfl,h1,d⟩;obtain⟨m,v,c,i,r⟩:=h1;have c0:=VN c;have c1:=VU c;go_wp2_with(at_builtin;refine Lib.wpList_append_own_string _ F _ _ 110 9 F B 5 z underlying110 underlying9 hi u x y _ _ _ F i s F ?c3 ?c4 ?c5 ?_)
 case c3=>unfold BM;omega
 case c4=>omega
 case c5=>have:=d.low.size;omega
 intro v' w2 l f _;have q:b<w1.1.size:=(Ee.1 c).1;have a:w2.1[b]?=Q (.cells (E6 b::v::rest).toArray T (0,0)):=by
  rw[f.block b q (λe=>r e.symm)];exact c
 have A:=VN a;have d1:=VU a;have f1:=jS a 1;obtain⟨j,o,R,rfl⟩:∃j o R,v'=AK j o R:=by
  exact zA
 go_wp2;go_ret2;refine⟨F,?_,?_,?_⟩
 .exact ur m a (bs':=bs++Lib.strCells s) (by simpa[yF] using l) n.ne
 .exact(d.low.grown f (by have:=d.low.size;omega) (λk hk=>(i.lt k hk).1)).setCell (p:=⟨b,1,O⟩) m _
 exact(d.kept.grown f (Lib.ownsRow_kind i)).setCell ⟨b,1,O⟩ F _
def o7(B b:Nat)(T:Bb)(p:AN)(rest bs:List AN)(c:Int)(w:V)(h:Bd B b T p rest bs w)(y:XU b p)(r:WO T (ln rest+2))(I:ln bs+1<=140737488355328)(H:B<=w.1.size):
  AZ AO 177 #[E6 b,M .u8 c] w λe w'=>e=Ac .nilIface/\Bd B b T (E6 b) rest (bs++[M .u8 c]) w'/\DQ B b w w':=by
 obtain⟨D,hi,z,A,C⟩:=DM pG;go_enter func177,ntmps177;go_wp2_with(go_at_call 245;refine(oZ B b T p rest bs _ h y r).mono ?_)
 rintro e w1 ⟨rfl,h1,a⟩;obtain⟨q,v,f,n,x⟩:=h1;have c0:=VN f;have c1:=VU f;go_wp2_with(at_builtin;refine Ln _ F _ _ 110 F B 5 D (M .u8 0) 1 1 underlying110 hi z A C F Z _ _ _ F (n.alloc _) ⟨w1.1.size,0,O⟩ 1 1 [M .u8 c] F F ?c1 ?c2 ?c3 ?c4 ?c5 ?_)
 case c1=>
  intro j u i
  match j,i with
  |0,i=>simp at i;subst i;simp[Addr.add]
 case c2=>intro u hu;simp at hu;subst hu;rfl
 case c3=>unfold BM;omega
 case c4=>omega
 case c5=>have:=a.low.size;simp;omega
 intro v' w2 l m _;have t:b<w1.1.size:=(Ee.1 f).1;have d:w2.1[b]?=Q (.cells (E6 b::v::rest).toArray T (0,0)):=by
  rw[m.block b Bk (λe=>x e.symm),Lib.alloc_old w1 _ b t];exact f
 have E:=VN d;have d1:=VU d;have f1:=jS d 1;obtain⟨o,s,R,rfl⟩:∃o s R,v'=AK o s R:=by
  exact zA
 go_wp2;go_ret;refine⟨F,?_,?_,?_⟩
 .exact ur q d (bs':=bs++[M .u8 c]) (by simpa using l) r.ne
 .exact((a.low.alloc (by have:=a.low.size;omega) _).grown m (by have:=a.low.size;simp;omega) (λk hk=>(n.lt k hk).1)).setCell (p:=⟨b,1,O⟩) q _
 exact((a.kept.alloc _).grown m (Lib.ownsRow_kind (n.alloc _))).setCell ⟨b,1,O⟩ F _
def a77(B b:Nat)(T:Bb)(p:AN)(rest bs:List AN)(w:V)(h:Bd B b T p rest bs w):
  AZ AO 176 #[E6 b] w λe w'=>e=Ac (M G (ln bs))/\w'=w:=by
 obtain⟨k,v,d,f,j⟩:=h;have c1:=VU d;obtain⟨c,R,rfl⟩:∃c R,v=AK c (ln bs) R:=by
  rcases f.2 with⟨a,i⟩|⟨g,R,cur,a,_⟩
  .exact⟨_,_,by rw[a,i]⟩
  exact⟨_,_,a⟩
 clear d f j;go_enter func176,ntmps176;go_wp2;go_ret;exact⟨F,F⟩
def jW(B b:Nat)(T:Bb)(p:AN)(rest:List AN)(l:List UInt8)(w:V)(h:Bd B b T p rest (IV l) w)(c:l≠[]):
  AZ AO 61 #[E6 b] w λe w'=>e=Ac (AT (tx l))/\DQ B b w w':=by
 obtain⟨z,v,k,a,s⟩:=h;have o:ln l≠0:=by simpa using c
 rw[TH] at a;obtain⟨g,R,cur,rfl,i,f,q,d,m,t⟩:∃g R cur,v=AK (Q ⟨g,0,O⟩) (ln l) R/\B<=g/\w.1[g]?=Q (.cells cur 5 (0,0))/\ln l<=R/\R<=BM/\cur.size=R*1/\cur.toList.take (ln l*1)=IV l:=by
  rcases a.2 with⟨_,y⟩|⟨g,R,cur,u,r⟩
  .exact absurd y o
  exact⟨g,R,cur,u,r⟩
 have c1:w.drew.cell? ⟨b,1,O⟩=Q (AK (Q ⟨g,0,O⟩) (ln l) R):=VU (w:=w.drew) k;have A:(Builtin.unsafeSliceData_ #[110] 156 #[AK (Q ⟨g,0,O⟩) (ln l) R]).run AO w.drew= .ok (Ap (Q ⟨g,0,O⟩)) w.drew:=
  Lib.run_unsafeSliceData_row _ _ _ _ _ _ D
 have C:(Builtin.unsafeString_ #[156,3] 9 #[Ap (Q ⟨g,0,O⟩),M G (ln l)]).run AO w.drew= .ok (AT (tx l)) (w.drew.freeze ⟨g,0,O⟩ (ln l)):=by
  refine Lib.run_unsafeString_row w.drew 156 3 9 5 underlying156 U g cur.size (by have n:w.drew.1[g]?=Q (.cells cur 5 (0,0)):=f;simp[World.shape?,n]) l c D (by unfold BM at d;omega) ?_;intro j x hx;have:=a.cells (g:=g) F j (M .u8 x.toNat) (by simp[IV,hx]);exact this
 clear a t s d q m;have E:AO.follows .mixedOrders=AL:=U;go_enter func61,ntmps61;go_wp2;go_region_o
 all_goals(go_wp2;go_ret;exact⟨F,Lib.below_freeze (Lo (Ad B w)) (p:=⟨g,0,O⟩) i _,(Z6 _ _ _).drew.freeze ⟨g,0,O⟩ _ ⟨_,_,f⟩⟩)
theorem DS{n s:Nat}{v:AN}(h:w.ownsRow base e s v n xs):∀k,v.ownBlock=Q k->base<=k/\k<w.1.size:=by
 obtain⟨_,⟨rfl,_⟩|⟨g,R,cur,rfl,a,b,_⟩⟩:=h;all_goals grind [Hv]
theorem EV{n s:Nat}{v:AN}(h:w.ownsRow base e s v n xs)(hx:Ext w w'):w'.ownsRow base e s v n xs:=by
 obtain⟨a,b|⟨g,R,cur,rfl,d,c,h1⟩⟩:=h
 .exact TZ
 exact⟨a,.inr ⟨g,R,cur,F,d,(hx.block g (Ee.1 c).1).trans c,h1⟩⟩
theorem nF{n s:Nat}{v:AN}(h:w.ownsRow base e s v n xs)(f:CN n0 w w'):w'.ownsRow base e s v n xs:=by
 obtain⟨a,b|⟨g,R,cur,rfl,c,d,h1⟩⟩:=h
 .exact TZ
 exact⟨a,.inr ⟨g,R,cur,F,c,f.cells _ _ _ _ d,h1⟩⟩
theorem Jo{n s:Nat}{v:AN}(h:w.ownsRow base e s v n xs)(f:v.ownBlock≠Q p.block)(x:AN):(w.setCell p x).ownsRow base e s v n xs:=by
 obtain⟨a,b|⟨g,R,cur,rfl,c,d,h1⟩⟩:=h
 .exact TZ
 refine⟨a,.inr ⟨g,R,cur,F,c,(Gp _ _ _ _ (λe=>f ?_)).trans d,h1⟩⟩;rw[e];rfl
def KY{a w w':V}{row:Option Nat}(h:Ext a w)(b:w.grownBy w' row)(c:∀k,row=Q k->a.1.size<=k):Ext a w':=
 At.grown h b (R9 h) c
def Fx(v:AN):Prop:=∃aa n c,v=AK aa n c
theorem Fx.of{n s:Nat}{v:AN}(h:w.ownsRow base e s v n xs):Fx v:=by
 obtain⟨_,⟨rfl,_⟩|⟨g,R,cur,rfl,_⟩⟩:=h
 .exact⟨_,_,_,F⟩
 exact⟨_,_,_,F⟩
def Cs(f:Nat->Nat×Nat)(k:Nat):List Nat:=(G8 k).map λi=>(f (i+1)).1
def Sh(f:Nat->Nat×Nat)(k:Nat):Cs f (k+1)=Cs f k++[(f (k+1)).1]:=by
 grind [Cs,List.range_succ]
theorem LX(f:Nat->Nat×Nat)(k:Nat):(Cs f k).length=k:=by grind [Cs]
abbrev Ls(l:List Nat):List AN:=l.map λ(d:Nat)=>Gr .i64 (d:Int)
def lN(w:V)(f:Nat->Nat×Nat)(n:Nat)(v c i:AN)(wr:V):Prop:=
 ∃k:Nat,k<=n/\i=M G (k:Int)/\c=M G ((f k).2:Int)/\wr.ownsRow w.1.size 3 1 v k (Ls (Cs f k))/\Ext w wr
theorem Sk{v:AN}{l:List Nat}(h:w.ownsRow base 3 1 v n (Ls l))(hn:ln l=n):BH w w.1.size v l:=by
 subst hn;obtain⟨m,⟨rfl,b⟩|⟨g,R,cur,rfl,i,a,h1,h2,c,e⟩⟩:=h
 .exact mT
 refine⟨_,R,F,h1,h2,λd=>⟨g,0,rfl,(Ee.1 a).1,λj k=> ?_⟩⟩;have f:(Ls l)[j]?=Q (M G (I l j)):=by grind [ON]
 grind [Dx]
def Yu(z:ByteArray)(f k:Nat):Prop:=∀m (_:f<=m) (_:m<k) (h:m<z.size),48<=((z[m]'h).toNat:Int)/\((z[m]'h).toNat:Int)<=57
structure Xm(z:ByteArray):Prop where
 ex:∃f,f<=1/\f<z.size/\Yu z f z.size/\z.size-f<=300/\(f=1↔∃h:0<z.size,((z[0]'h).toNat:Int)=45)
def CZ(z:ByteArray):Nat->Nat
 |0=>0
 |k+1=>10*CZ z k+((z.data.toList.getD k 0).toNat-48)
theorem bB{z:ByteArray}(h:k<z.size)(a:((z[k]'h).toNat:Int)=((48+g:Nat):Int)):CZ z (k+1)=10*CZ z k+g:=by
 have e:z.data.toList.getD k 0=z[k]'h:=by
  rw[CM,Bv (by exact h)];simp[Ry]
 grind [CZ]
structure Lq(z:ByteArray):Prop where
 pos:0<z.size
 len:z.size<=300
 all:Yu z 0 z.size
 DY:∀h:0<z.size,1<z.size->((z[0]'h).toNat:Int)≠48
theorem Lq.at{z:ByteArray}(h:Lq z)(hk:k<z.size):∃g:Nat,g<=9/\((z[k]'hk).toNat:Int)=((48+g:Nat):Int):=by
 have:=h.all k (D8 _) hk hk;exact⟨(z[k]'hk).toNat-48,D,D⟩
end
section
open Kp
attribute [local go_sem] Oper.semAt_some
abbrev CA(w:V):Prop:=Lib.TabIs AO w "internal/strconv.uint64pow10" .u64 Lib.pow10Tab
theorem CA.below(h:CA w)(b:At B0 w w')(a:w.1.size<=B0):CA w':=a5s h b a
def U6(n:Int)(w:V)(a: -9223372036854775808<=n)(h1:n<=9223372036854775807)(d:CA w):
  AZ AO 179 #[M G n] w λe w'=>e=Ac (AT (tx (CY n)))/\At w.1.size w w':=
 (strconv_Itoa n a h1 w d).mono λ_ _ ⟨e,k,os,hw⟩=>⟨e,by rw[hw];exact⟨F,F,F,by simp[Sort.grow,World.drewN],λb c=>by simp[Sort.grow,World.drewN,Array.getElem?_append,c]⟩⟩
def jd(n k:Nat)(hk:1<=k)(h:n<10^k):Lib.nDigits n<=k:=by
 induction k generalizing n with
 |zero=>omega
 |succ k d=>
  by_cases b:n<10
  .rw[Lib.nDigits_small b];omega
  rw[Lib.nDigits,dif_neg b];have:n/10<10^k:=by rw[ZG Z];rw[NC] at h;exact h
  have c:1<=k:=by
   rcases TI k with a|a
   .subst a;simp at this;omega
   exact a
  have:=d (n/10) c this;omega
def bI(n:Nat)(h:n<1000000000):(CY (n:Int)).length<=9:=by
 unfold CY;rw[Af D,eQ,TK];exact jd n 9 Z h
def tB(n:Int):CY n≠[]:=by
 unfold CY;split
 .simp
 intro h;have:=QL List.length h;rw[TK,Lib.nDigits] at this;split at this<;>simp at this
def OQ(first:Bool)(n:Nat):List UInt8:=if first then CY n else Lib.repeatL [48] (9-(CY n).length)++CY n
def Fj(l:List Nat):Nat->List UInt8
 |0=>[]
 |k+1=>Fj l k++OQ (k==0) (I l (ln l-1-k))
def Yy(l:List Nat):List UInt8:=if l=[] then [48] else Fj l (ln l)
theorem ae(c:Nat):(Lib.repeatL [48] c).length=c:=by
 induction c with
 |zero=>rfl
 |succ c a=>simp[Lib.repeatL,a]
theorem a8n{b:Bool}(h:n<1000000000):(OQ b n).length<=9:=by
 have:=bI n h;unfold OQ;split
 .exact this
 simp[ae];omega
def dS{l:List Nat}(h:Small l)(k:Nat):(Fj l k).length<=9*k:=by
 induction k with
 |zero=>simp[Fj]
 |succ k a=>
  have:=a8n (b:=k==0) (Du h (ln l-1-k));simp[Fj];omega
theorem uI{l:List Nat}(hk:0<k):Fj l k≠[]:=by
 cases k with
 |zero=>omega
 |succ k=>
  intro h;simp[Fj,OQ] at h;obtain⟨_,h⟩:=h;split at h
  .exact tB _ h
  simp at h;exact tB _ h.2
def VF(a b:List UInt8):IV (a++b)=IV a++IV b:=by simp[IV]
theorem a0g{n0 B n:Nat}{v:AN}(h:w.ownsRow B 5 1 v n xs)(d:CN n0 w w'):w'.ownsRow B 5 1 v n xs:=by
 obtain⟨a,h|⟨g,R,cur,e,b,c,r⟩⟩:=h
 .exact⟨a,.inl h⟩
 exact⟨a,.inr ⟨g,R,cur,e,b,d.cells _ _ _ _ c,r⟩⟩
theorem Bd.stays{B b n0:Nat}{p:AN}(h:Bd B b T p rest bs w)(a:CN n0 w w'):Bd B b T p rest bs w':=by
 obtain⟨c,v,d,f,e⟩:=h;exact⟨c,v,a.cells _ _ _ _ d,a0g f a,e⟩
theorem Bd.below{B b:Nat}{p:AN}(h:Bd B b T p rest bs w)(a:At w.1.size w w'):Bd B b T p rest bs w':=
 h.stays (CN.Iv a (AS _))
theorem CO.bd{B b c:Nat}{u v:AN}(h:CO w c t u v)(hk:DQ B b w w')(a:c≠b)(d:t≠5):CO w' c t u v:=
 hk.kept c _ h (λe=>a (by cases e;rfl)) (λcs f e=>d (by cases e;rfl))
theorem Bx.bd{B b c:Nat}{v:AN}(h:Bx w c t v)(hk:DQ B b w w')(a:c≠b)(d:t≠5):Bx w' c t v:=
 hk.kept c _ h (λe=>a (by cases e;rfl)) (λcs f e=>d (by cases e;rfl))
def Ol(neg:Bool):List UInt8:=if neg then [45] else []
def gV(neg:Bool):(Ol neg).length<=1:=by cases neg<;>simp[Ol]
def L7(neg:Bool)(l:List Nat):List UInt8:=if l=[] then [48] else Ol neg++Fj l (ln l)
def ow(l:List Nat):L7 AM l=Yy l:=by unfold L7 Yy Ol;simp
structure Rd(neg:Bool)(bi:Nat)(w:V)(l:List Nat)(aa:Option An)(ca:Nat)(k:Nat)(W:V):Prop where
 x:CO W w.1.size 341 (AU neg) (AK aa (ln l) ca)
 bd:∃p,XU (w.1.size+1) p/\Bd w.1.size (w.1.size+1) 112 p [] (IV (Ol neg++Fj l k)) W
 it:Bx W bi 25 (AK aa (ln l) ca)
 bi:w.1.size+2<=bi
 low:At w.1.size w W
theorem Rd.stays{neg:Bool}{l:List Nat}(h:Rd neg bi w l aa ca k W)(a:CN n0 W Y)(hn:w.1.size<=n0):Rd neg bi w l aa ca k Y:=by
 obtain⟨p,c,b⟩:=h.bd;exact⟨h.x.stays a,⟨p,c,b.stays a⟩,h.it.stays a,h.bi,h.low.trans (a.below.mono hn)⟩
theorem Rd.sl{neg:Bool}{l:List Nat}(h:Rd neg bi w l aa ca k W)(a:BH w w.1.size (AK aa (ln l) ca) l):BH W w.1.size (AK aa (ln l) ca) l:=a.below h.low
theorem vz{neg:Bool}{w b a:V}{l:List Nat}(h:Rd neg bi w l aa ca k b)(hk:DQ w.1.size (w.1.size+1) b a)
  (c:Bd w.1.size (w.1.size+1) 112 (E6 (w.1.size+1)) [] (IV (Ol neg++Fj l (k+1))) a):
  GF b a/\Rd neg bi w l aa ca (k+1) a:=by
 obtain⟨p,f,e,v,d,_⟩:=h.bd;exact⟨hk.Gi d,h.x.bd hk D Z,⟨_,.inr F,c⟩,h.it.bd hk (by have:=h.bi;omega) Z,h.bi,h.low.trans hk.low⟩
theorem DQ.Iv{B b:Nat}(h:At w.1.size w w')(a:B<=w.1.size):DQ B b w w':=
 ⟨h.mono a,(Z6 _ _ _).below h⟩
def tj(w:V)(neg:Bool)(l:List Nat)(e:CI)(w':V):Prop:=e=Ac (AT (tx (L7 neg l)))/\At w.1.size w w'
def a4g(w:V)(neg:Bool)(aa:Option An)(ca:Nat):AZ AO 352 #[AW #[AU neg,AK aa 0 ca]] w (tj w neg []):=by
 go_enter func352,ntmps352;go_wp2;go_ret;exact⟨F,(Ad _ _).alloc (AS _) _⟩
def a4e(w:V)(neg:Bool)(l:List Nat)(v:AN)(C:BH w w.1.size v l)(a:Small l)(am:ln l<=1000000)(B:CA w):
  AZ AO 352 #[AW #[AU neg,v]] w (tj w neg l):=by
 obtain⟨aa,ca,rfl,aj,ab,ac⟩:=id C;clear ac;unfold BM at ab;by_cases z:l=[]
 .subst z;exact a4g w neg aa ca
 have P:0<ln l:=MW.2 z;have G:=A z;have S:=A B;have u:=A a;clear z B a;have al:((ln l:Int)==0)=AM:=Hi;refine(De (n:=9)).1 (R8 func352 F trivial ?_);simp only[ntmps352,Nn,FX,Jy,Hw,Nat.reduceSub,OX,PQ,PS,PR,Lm,LO];cases neg with
 |false=>
  gi_wp2_with(refine⟨trivial,?_⟩;gi_at_call 348;refine(De.2 (Xw _ _ _ _)).mono ?_;rintro e w' ⟨rfl,rfl⟩)
  refine VM (gf:=363) (lb:=#[Ap (Q ⟨w.1.size+2,0,O⟩)]) F (FZ func363 U F)
   (Xu (w.1.size+2) aa (ln l) ca (λj x=>x=I l j) D) (λk x ⟨_,_,e⟩=>by rw[e];rfl)
   (Rd AM (w.1.size+2) w l aa ca) (λ_ _ _=>False) (λk W Y h a=>h.stays a Bk) (λc k W Y h a=>h) (λk W h=>fW h.it (h.sl C)) ?BI ?round ?done ?stop
  case BI=>
   have hB:=WD w (.cells #[AU AM,AK aa (ln l) ca] 341) (.cells #[Ap O,AK O 0 0] 112) (.cells #[AK aa (ln l) ca] 25);refine⟨((CO.at_ F).alloc _).alloc _,⟨_,.inl F,D,AK O 0 0,?_,⟨rfl,.inl ⟨rfl,rfl⟩⟩,by simp[Hv]⟩,Bx.at_ AV,D,hB⟩;exact rM _ _ _ _
  case round=>
   intro i k x W K hk hx hi d;obtain⟨v,rfl,rfl⟩:=hx;have o:=A d;clear d
   gi_wp2
   refine o _ (λL m _=> ?_);clear o hi;have s:=m.low.size;have y:I l (ln l-1-k)<1000000000:=Du u _;have R:=bI _ y;have ag:=dS u k;have af:=gV AM;exact zB
  case done=>
   rintro J W t h d;obtain⟨p,g,r⟩:=h.bd;have cs:=A (jW w.1.size (w.1.size+1) _ p [] (Ol AM++Fj l (ln l)) W r (λh=>uI P (List.append_eq_nil_iff.1 h).2));have f:=A h;clear h r;gi_wp2_with(refine⟨trivial,?_⟩;gi_at_call 61;refine(De.2 cs).q λw' q=>?_)
   have k1:w'.1[J]?=Q (.deferred (Q [])):=q.kept J _ d (λe=>by cases e;simp at t;omega) (λc X e=>by cases e);refine⟨AV,.inl ⟨_,_,rfl,PV k1,?_⟩⟩;have a:=CN.putObj (n0:=w.1.size) (.deferred O) k1 F RJ;refine⟨AT (tx (Ol AM++Fj l (ln l))),by simp[results,results352,go_sem],?_,f.low.trans (q.low.trans a.below)⟩;unfold L7;rw[Af G.o]
  case stop=>intro J c k W t hk h;exact h.elim
 |true=>
  have b0:=A (show Bd w.1.size (w.1.size+1) 112 (Ap O) [] (IV []) ((w.alloc (.cells #[AU AL,AK aa (ln l) ca] 341)).alloc (.cells #[Ap O,AK O 0 0] 112)) from
   ⟨D,AK O 0 0,by have:=Bq (w.alloc (.cells #[AU AL,AK aa (ln l) ca] 341)) (.cells #[Ap O,AK O 0 0] 112);rw[D5] at this;exact this,⟨F,.inl ⟨F,F⟩⟩,by simp[Hv]⟩)
  have T:=A (show CO ((w.alloc (.cells #[AU AL,AK aa (ln l) ca] 341)).alloc (.cells #[Ap O,AK O 0 0] 112)) w.1.size 341 (AU AL) (AK aa (ln l) ca) from(CO.at_ F).alloc _);have H:=A (show At w.1.size w ((w.alloc (.cells #[AU AL,AK aa (ln l) ca] 341)).alloc (.cells #[Ap O,AK O 0 0] 112)) from((Ad _ _).alloc (AS _) _).alloc AV _);have cb:=A (o7 w.1.size (w.1.size+1) _ (Ap O) [] (IV []) 45 _ b0 (.inl F) bE (by simp[IV]) H.size);gi_wp2_with(refine⟨trivial,?_⟩;first
   |(gi_at_call 348;refine(De.2 (Xw _ _ _ _)).mono ?_;rintro e w' ⟨rfl,rfl⟩)
   |(gi_at_call 177;refine(De.2 cb).q ?_;rintro W1 ⟨ad,E⟩;have M:=A (T.bd E D Z);have ah:=E.low.size;have ak:=M.Hl))
  have ai:w.1.size+2<=W1.1.size:=by simp at ah;omega
  refine VM (gf:=363) (lb:=#[Ap (Q ⟨W1.1.size,0,O⟩)]) F (FZ func363 U F)
   (Xu (W1.1.size) aa (ln l) ca (λj x=>x=I l j) D) (λk x ⟨_,_,e⟩=>by rw[e];rfl)
   (Rd AL (W1.1.size) w l aa ca) (λ_ _ _=>False) (λk W Y h a=>h.stays a Bk) (λc k W Y h a=>h) (λk W h=>fW h.it (h.sl C)) ?BI ?round ?done ?stop
  case BI=>
   have N:At W1.1.size W1 (W1.alloc (.cells #[AK aa (ln l) ca] 25)):=(Ad _ _).alloc (AS _) _;exact⟨M.alloc _,⟨_,.inr F,ad.below N⟩,Bx.at_ F,ai,(H.trans E.low).trans (N.mono D)⟩
  case round=>
   intro i k x W K hk hx hi d;obtain⟨v,rfl,rfl⟩:=hx;have o:=A d;clear d
   gi_wp2
   refine o _ (λL m _=> ?_);clear o hi;have s:=m.low.size;have y:I l (ln l-1-k)<1000000000:=Du u _;have R:=bI _ y;have ag:=dS u k;have af:=gV AL;exact zB
  case done=>
   rintro J W t h d;obtain⟨p,g,r⟩:=h.bd;have cs:=A (jW w.1.size (w.1.size+1) _ p [] (Ol AL++Fj l (ln l)) W r (λh=>uI P (List.append_eq_nil_iff.1 h).2));have f:=A h;clear h r;gi_wp2_with(refine⟨trivial,?_⟩;gi_at_call 61;refine(De.2 cs).q λw' q=>?_)
   have k1:w'.1[J]?=Q (.deferred (Q [])):=q.kept J _ d (λe=>by cases e;simp at t;omega) (λc X e=>by cases e);refine⟨AV,.inl ⟨_,_,rfl,PV k1,?_⟩⟩;have a:=CN.putObj (n0:=w.1.size) (.deferred O) k1 F RJ;refine⟨AT (tx (Ol AL++Fj l (ln l))),by simp[results,results352,go_sem],?_,f.low.trans (q.low.trans a.below)⟩;unfold L7;rw[Af G.o]
  case stop=>intro J c k W t hk h;exact h.elim
end
section
open Kp
def Tm(l:List Nat):List UInt8×Int:=if 300<(Ag (Yy l)).length then([],4) else(Yy l,0)
def Qn(w:V)(r:List UInt8×Int)(e:CI)(w':V):Prop:=e=Ac (BO #[AT (tx r.1),M G r.2])/\At w.1.size w w'
def UG(l:List UInt8):(Ag l).length<=ln l:=by unfold Ag Lib.trimPrefix;split <;>simp
def aX(s:List UInt8)(w:V):AZ AO 253 #[AT (tx s),AT ⟨#[45]⟩] w λe w'=>e=Ac (AT (tx (Ag s)))/\w'=w:=by
 have:=strings_TrimPrefix (tx s) (tx [45]) w;rw[ME,ME] at this;exact this
def Nh(neg:Bool)(l:List Nat):List UInt8×Int:=if 300<(Ag (L7 neg l)).length then([],4) else(L7 neg l,0)
def a3q(l:List Nat):Nh AM l=Tm l:=by unfold Nh Tm;rw[ow]
def b13(neg:Bool){l:List Nat}(h:Small l):(L7 neg l).length<=9*ln l+2:=by
 unfold L7;split
 .simp
 have:=dS h (ln l);have:=gV neg;rw[FN];omega
def wG(w:V)(neg:Bool)(l:List Nat)(v:AN)(b:BH w w.1.size v l)(c:Small l)(q:ln l<=1000000)(j:CA w):
  AZ AO 324 #[AW #[AU neg,v]] w (Qn w (Nh neg l)):=by
 obtain⟨aa,ca,rfl,m,n,o⟩:=id b;clear o m n;have a:At w.1.size w (w.alloc (.cells #[AU neg,AK aa (ln l) ca] 341)):=(Ad _ _).alloc (AS _) _;have i:BH (w.alloc (.cells #[AU neg,AK aa (ln l) ca] 341)) (w.alloc (.cells #[AU neg,AK aa (ln l) ca] 341)).1.size (AK aa (ln l) ca) l:=b.new _;have k:=A (a4e _ neg l _ i c q (j.below a (AS _)));have h1:=b13 neg c;have h2:=UG (L7 neg l);have d:=A a;clear b i c j a;by_cases g:300<(Ag (L7 neg l)).length
 .have f:=A (show Nh neg l=([],4) by unfold Nh;rw[Aj g]);exact zD
 have f:=A (show Nh neg l=(L7 neg l,0) by unfold Nh;rw[Af g]);exact zD
def a1w(w:V)(l:List Nat)(v:AN)(a:BH w w.1.size v l)(c:Small l)(b:ln l<=1000000)(d:CA w):
  AZ AO 324 #[AW #[AU AM,v]] w (Qn w (Tm l)):=by
 rw[<-a3q];exact wG w AM l v a c b d
noncomputable def LM(a b:List UInt8):List UInt8×Int:=
 if Fu a b=0 then(if ln a<=18/\ln b<=18 then(CY (DO (BY (Ag a)) (BY (Ag b)):Nat),0) else Tm (Io (DO (BY (Ag a)) (BY (Ag b))))) else([],Fu a b)
def U8{a b:List UInt8}(h:Fu a b=0):IN a=0/\IN b=0:=by
 unfold Fu at h;split at h
 .rename_i h1;exact⟨h1,h⟩
 rename_i h1;exact absurd h h1
def NZ{a:List UInt8}(h:IN a=0):Eu a=AL/\(Ag a).length<=300:=by
 unfold IN at h;split at h
 .rename_i h1;split at h
  .omega
  exact⟨h1,D⟩
 omega
def Pp{a:List UInt8}(h:Eu a=AL):(Ag a).all CJ=AL:=by
 unfold Eu at h;simp only[Ez] at h;exact h.1.1
def UA{l:List UInt8}(h:l.all CJ=AL):BY l<10^ln l:=by
 induction l with
 |nil=>decide
 |cons b r a=>
  simp only[SL,Ez] at h;have h1:=(Py h.1).1;have h2:=a h.2;rw[VQ,FX,NC];have:Cv b*10^ln r<=9*10^ln r:=Gz _ D;omega
def dJ(l:List UInt8):(num l).natAbs=BY (Ag l):=by unfold num;split <;>simp
def ud{l:List UInt8}(h:Eu l=AL)(a:ln l<=18):(num l).natAbs<1000000000000000000:=by
 rw[dJ];have h1:=UA (Pp h);have h2:=UG l;have:10^(Ag l).length<=10^18:=JK Z D;exact Dj h1 this
def uW(w:V)(g:Nat)(x y:AN)(wr:V):Prop:=
 ∃a b:Int,x=M G a/\y=M G b/\a.natAbs<1000000000000000000/\b.natAbs<1000000000000000000/\DO a.natAbs b.natAbs=g/\At w.1.size w wr
theorem a9O{b a:Int}(e:¬a=0)(hy:a.natAbs<1000000000000000000)(d:DO b.natAbs a.natAbs=g)(c:At w.1.size w wr):
  uW w g (M G a) (M G (b.tmod a)) (wr.drewN n)/\(b.tmod a).natAbs<a.natAbs:=by
 have h1:(b.tmod a).natAbs=b.natAbs%a.natAbs:=Int.natAbs_tmod _ _;have h2:b.natAbs%a.natAbs<a.natAbs:=Hh _ D;refine⟨⟨a,_,F,F,hy,D,?_,below_drewN c _⟩,D⟩;rw[h1,RD,<-ZJ,RD];exact d
def b0d(a b:List UInt8)(w:V)(f:ln a<=1000000)(g:ln b<=1000000)(h:Fu a b≠0):
  AZ AO 296 #[AT (tx a),AT (tx b)] w (Qn w (LM a b)):=by
 have c:=A (show LM a b=([],Fu a b) by unfold LM;rw[Af h]);have e:(Fu a b !=0)=AL:=Oa;clear h;go_enter func296,ntmps296;go_wp2_with(go_at_call 320;refine(Rm _ _ _ DI DI).q λw1 d=>?_)
 go_ret2;rw[c.o];exact⟨F,d⟩
def tU(a b:List UInt8)(w:V)(k:ln a<=18)(l:ln b<=18)(h:Fu a b=0)(m:CA w):
  AZ AO 296 #[AT (tx a),AT (tx b)] w (Qn w (LM a b)):=by
 have g:=A (show LM a b=(CY (DO (BY (Ag a)) (BY (Ag b)):Nat),0) by unfold LM;rw[Aj h,Aj ⟨k,l⟩]);have⟨ca,cb⟩:=U8 h;have v:=(NZ ca).1;have z:=(NZ cb).1;have H:(Fu a b !=0)=AM:=Oa;have K:ln a<=1000000:=D;have L:ln b<=1000000:=D;have r:=A (ud v k);have s:=A (ud z l);have t:=A m;clear h ca cb m;go_enter func296,ntmps296;go_wp2_with(first|(go_at_call 320;refine(Rm _ _ _ DI DI).q λw1 i=>?_)|(go_at_call 321;refine(jQ _ _ _ DI DI DI DI).q λw2 C=>?_))
 have B:=i.trans (C.mono i.size);go_loopw [7,8] (λx y wr=>uW w (DO (BY (Ag a)) (BY (Ag b))) x y wr) (λ_ y _=>(B8 y).natAbs)
 case atStart=>exact⟨_,_,F,F,r,s,by rw[dJ,dJ],B⟩
 obtain⟨o,q,rfl,rfl,hx,hy,c,d⟩:=hrel;by_cases f:q=0
 .subst f;rw[Int.natAbs_zero,Uj] at c;have⟨e,j⟩:=AP (DO (BY (Ag a)) (BY (Ag b)));rw[j] at c g;have N:max o (-o)=(e:Int):=D;have J:e<1000000000000000000:=D;have u:=A (U6 (e:Int) wr D D (t.below d (AS _)));clear c j hx hy;go_wp2_with(go_at_call 179;refine u.q λP E=>?_)
  go_ret2;rw[g.o];exact⟨F,d.trans (E.mono d.size)⟩
 have hn:=A (λn=>a9O (n:=n) f hy c d);have I:(q !=0)=AL:=by simpa using f
 clear c;go_wp2;go_quiet (fail)
 go_roundw
 case rel=>exact⟨_,_,_,_,_,_,_,_,(hn _).1,F⟩
 exact(hn 0).2
def lB(v:AN)(w:V):Nat:=
 match v with
 | AK (Q a) n _=>S (λj=>match w.cell? ⟨a.block,a.off+j,O⟩ with|some (.int _ x)=>x.toNat|_=>0) n
 |_=>0
theorem rJ{v:AN}{l:List Nat}(h:BH w b0 v l):lB v w=val l:=by
 obtain⟨aa,R,rfl,_,_,c⟩:=h;by_cases a:0<ln l
 .obtain⟨b,off,rfl,_,hcell⟩:=c a;unfold lB val;refine MF (λj d=> ?_);simp only;rw[hcell j d];simp
 have:l=[]:=by simpa using a
 subst this;cases aa<;>rfl
structure uM(w:V)(g:Nat)(x y:AN)(wr:V):Prop where
 ex:∃a b,BH wr wr.1.size x a/\BH wr wr.1.size y b/\Canon a/\Canon b/\ln a<=400000/\ln b<=400000/\DO (val a) (val b)=g
 low:At w.1.size w wr
def a5N{r b:List Nat}(e:Canon r)(a:Canon b)(h:val r<val b):ln r<=ln b:=by
 rcases Ht (ln b) (ln r) with d|c
 .have:=Rf a.Bf e.trim d;omega
 exact c
def a8X(a b:List UInt8)(w:V)(ha:ln a<=1000000)(hb:ln b<=1000000)(ar:18<ln a\/18<ln b)(h:Fu a b=0)(ht:CA w):
  AZ AO 296 #[AT (tx a),AT (tx b)] w (Qn w (LM a b)):=by
 have v:=A (show LM a b=Tm (Io (DO (BY (Ag a)) (BY (Ag b)))) by unfold LM;rw[Aj h,Af D]);have⟨ca,cb⟩:=U8 h;have⟨C,la⟩:=NZ ca;have⟨E,lb⟩:=NZ cb;have da:=Pp C;have db:=Pp E;have h':(Fu a b !=0)=AM:=Oa;have av:∀(p:Bool) (aa:Option An) (n c:Nat) (W:V),(Instr.field 341 (AW #[AU p,AK aa n c]) 1).run AO W= .ok (AK aa n c) W:=λ_ _ _ _ _=>U
 have HT:=A ht;have ad:=A la;have ae:=A lb;clear h ca cb ht C E la lb;go_enter func296,ntmps296;go_wp2_with(first|(go_at_call 320;refine(Rm _ _ _ DI DI).q λw1 l=>?_)|(go_at_call 321;refine(nX _ _ _ DI DI DI).q λw2 r=>?_)|(go_at_call 322;refine(YE _ _ DI DI).mono ?_;rintro e i ⟨v3,o,rfl,⟨H,z,rfl,aw,s⟩,L,ab,ak,J⟩;have ah:=A ab;clear ab))
 rename_i wa la I B ax t N al K aj _ _;have hB:=((l.trans (r.mono l.size)).trans (K.mono (by have:=l.size;have:=r.size;omega))).trans (J.mono (by have:=l.size;have:=r.size;have:=K.size;omega));have T:BH i i.1.size (AK (Q ⟨I,0,O⟩) (ln la) B) la:=(t.sl t.lt).grow J;have X:BH i i.1.size (AK (Q ⟨H,0,O⟩) (ln o) z) o:=s.sl s.lt;have Z:uM w (DO (BY (Ag a)) (BY (Ag b))) (AK (Q ⟨I,0,O⟩) (ln la) B) (AK (Q ⟨H,0,O⟩) (ln o) z) i:=
  ⟨⟨la,o,T,X,N,L,by have:=ad.o;omega,by have:=ae.o;omega,by rw[aj.o,ah.o]⟩,hB⟩
 have af:=A Z;clear Z T X t s al ak N L;go_loopw [10,11] (λx y wr=>uM w (DO (BY (Ag a)) (BY (Ag b))) x y wr) (λ_ y wr=>lB y wr)
 case atStart=>exact af
 obtain⟨⟨a',d,sx,sy,q,j,lx,ly,g⟩,f⟩:=hrel;have u:=rJ sy;obtain⟨Ay,aq,rfl,aD,an,_⟩:=id sy;obtain⟨Ax,ap,rfl,aC,am,_⟩:=id sx;unfold BM at an am;have ao:=A sx;have ag:=A sy;have ai:=A u;by_cases k:d=[]
 .subst k;have e1:val ([]:List Nat)=0:=rfl;rw[e1,Uj] at g;have R:=bJ q g;rw[R] at v;have cr:=A (a1w wr a' _ sx q.Bf D (HT.below f (AS _)));clear g R sx sy u;go_wp2_with(go_at_call 324;refine cr.q λw4 m=>?_)
  go_ret2;rw[v.o];exact⟨F,f.trans (m.mono f.size)⟩
 have ay:0<ln d:=MW.2 k;have az:AQ (0<(ln d:Int))=AL:=NF;have cd:=A (a4m wr a' d _ _ sx sy q j lx k);have HG:=A g;clear sx sy u g;go_wp2_with(go_at_call 323;refine cd.mono ?_;rintro e w4 ⟨vq,vr,ql,rl,rfl,aA,au,aB,Y,P,ac,m⟩)
 have S:val rl<val d:=by rw[ac];exact Hh _ (tI j.trim k)
 refine⟨⟨⟨d,rl,ag.grow m,Y,j,P,ly,?_,?_⟩,f.trans (m.mono f.size)⟩,?_⟩
 .have:=a5N P j S;omega
 .rw[ac,RD,<-ZJ,RD];exact HG
 rw[rJ Y,ai.o];exact S
def b0l(a b:List UInt8)(w:V)(c:ln a<=1000000)(d:ln b<=1000000)(e:CA w):
  AZ AO 296 #[AT (tx a),AT (tx b)] w (Qn w (LM a b)):=by
 by_cases h:Fu a b=0
 .by_cases h18:ln a<=18/\ln b<=18
  .exact tU a b w h18.1 h18.2 h e
  exact a8X a b w c d D h e
 exact b0d a b w c d h
def DY(s:List UInt8):List UInt8:=s.takeWhile CJ
def DT(s:List UInt8):Option (Nat×List UInt8):=
 if(DY s).length=0\/8<(DY s).length\/(1<(DY s).length/\s.head?=Q 48) then O else Q (BY (DY s),s.drop (DY s).length)
theorem kA(h:(s.take k).all CJ=AL)(hk:k<=ln s):k<=(DY s).length:=by
 induction s generalizing k with
 |nil=>grind
 |cons b r a=>
  cases k with
  |zero=>omega
  |succ k=>
   grind [DY,List.takeWhile_cons_of_pos]
theorem Su(s:List UInt8):(DY s).all CJ=AL:=by
 unfold DY
 induction s with
 |nil=>rfl
 |cons b r a=>
  grind [CJ,List.takeWhile_cons_of_pos,List.takeWhile_cons_of_neg]
theorem jv(s:List UInt8):s.take (DY s).length=DY s:=by
 have:DY s<+:s:=List.takeWhile_prefix _;obtain⟨t,a⟩:=this
 grind
theorem oL(h:(s.take k).all CJ=AL)(hk:k<ln s)(b:CJ s[k]=AM):(DY s).length=k:=by
 have h1:=kA h D;rcases Ht k (DY s).length with h2|h2
 .have h3:=Su s;have a:s[k]∈DY s:=by
   have e:(DY s)[k]=s[k]:=by
    grind [jv]
   grind
  grind
 omega
theorem qb(h:(s.take (ln s)).all CJ=AL):(DY s).length=ln s:=by
 have h1:=kA h (AS _)
 grind [DY,List.takeWhile_prefix]
def ub(s:List UInt8)(n i:AN):Prop:=
 ∃k:Nat,k<=ln s/\k<=9/\n=M G (BY (s.take k):Int)/\i=M G (k:Int)/\(s.take k).all CJ=AL
theorem bP(hk:k<ln s):BY (s.take (k+1))=BY (s.take k)*10+Cv s[k]:=by
 rw[Qx hk,nL]
theorem pS(hk:k<ln s)(h:(s.take k).all CJ=AL)(a:CJ s[k]=AL):(s.take (k+1)).all CJ=AL:=by
 grind [List.take_succ_eq_append_getElem]
theorem dR(b:UInt8):CJ b=(AQ (48<=(b.toNat:Int))&&AQ ((b.toNat:Int)<=57)):=by
 have h:∀n:Fin 256,CJ (GR n.1)=(AQ (48<=((GR n.1).toNat:Int))&&AQ (((GR n.1).toNat:Int)<=57)):=GG;have:=h ⟨b.toNat,b.toNat_lt⟩;simpa using this
def My(s:List UInt8):AN:=match DT s with|none=> BO #[M G 0,AT ⟨#[]⟩,AU AM]|some (n,r)=> BO #[M G n,AT (tx r),AU AL]
theorem jb(h:(k<=8/\(DY s).length=k)\/(k=9/\8<(DY s).length))(hk:k=0\/8<k\/(1<k/\s.head?=Q 48)):My s=BO #[M G 0,AT ⟨#[]⟩,AU AM]:=by
 unfold My DT
 grind
theorem jZ(h:(k<=8/\(DY s).length=k)\/(k=9/\8<(DY s).length))(hk:¬(k=0\/8<k\/(1<k/\s.head?=Q 48))):My s=BO #[M G (BY (s.take k)),AT (tx (s.drop k)),AU AL]:=by
 unfold My DT;rcases h with⟨h1,h2⟩|⟨h1,h2⟩
 .rw[Af Al,<-jv s,h2];simp
 omega
theorem UF{h:0<(tx s).size}(a:(((tx s)[0]'h).toNat:Int)=48):s.head?=Q 48:=by
 cases s with
 |nil=>grind [DJ]
 |cons b r=>simp[QG];rw[xJ (c:=b) a]
theorem kN{h:0<(tx s).size}(a:¬(((tx s)[0]'h).toNat:Int)=48):¬s.head?=Q 48:=by
 cases s with
 |nil=>grind
 |cons b r=>
  simp[QG,We];intro e;subst e;exact a F
theorem UD(s:List UInt8)(k:Nat):(tx s).extract k (ln s)=tx (s.drop k):=by
 grind [Lib.extract_eq,List.take_of_length_le]
def vo (s : List UInt8) (w : V) (R : ln s <= 1000000) :
    AZ AO 318 #[AT (tx s)] w λe w' => e =Ac (My s) /\ At w.1.size w w' := by
  go_enter func318, ntmps318;go_wp2
  go_loop [5, 6] (λn i => ub s n i) (λ_ i => ((10 : Int) - B8 i).toNat)
  case atStart => exact ⟨0, D, D, rfl, rfl, rfl⟩
  case round =>
    obtain ⟨k, hk, O, rfl, rfl, c⟩ := hrel;by_cases l : k < ln s /\ k <= 8 /\ ∃ h : k < ln s, CJ (s[k]'h) = AL
    . obtain ⟨a, N, _, d⟩ := l
      have j : k < (tx s).size := by rw [DJ]; exact a
      have hx : (tx s)[k]'j = s[k] := rfl;have u := Py d;have d1 : 48 <= (((tx s)[k]'j).toNat : Int) := by rw [hx]; omega
      have d2 : (((tx s)[k]'j).toNat : Int) <= 57 := by rw [hx]; omega
      have K : ((((tx s)[k]'j).toNat : Int) - 48) % 256 = (Cv s[k] : Int) := by rw [hx]; unfold Cv; omega
      have x := UA c;have P : BY (s.take k) < 1000000000 := Dj x (show 10 ^ (s.take k).length <= 10 ^ 9 from JK Z (by rw [QA]; omega));have y : ub s (M G (10 * (BY (s.take k) : Int) + ((((tx s)[k]'j).toNat : Int) - 48))) (M G ((k : Int) + 1)) := ⟨k + 1, D, D, by rw [bP a, hx]; congr 1; unfold Cv; omega, AV, pS a c d⟩;have C := A y;have L : Cv s[k] < 10 := u.1;clear y x u hx c d;go_wp2;exact ⟨C, MX⟩
    have t : (k <= 8 /\ (DY s).length = k) \/ (k = 9 /\ 8 < (DY s).length) := by
      by_cases H : k = 9
      . exact .inr ⟨H, by have := kA c hk; omega⟩
      refine .inl ⟨D, ?_⟩
      by_cases a : k < ln s
      . refine oL c a ?_
        cases d : CJ s[k] with
        | false => rfl
        | true => exact absurd ⟨a, D, a, d⟩ l
      have e : k = ln s := by omega
      rw [e] at c; rw [e]; exact qb c
    have z : k < ln s -> k <= 8 -> ∃ h : k < ln s, CJ (s[k]'h) = AM := λa E => ⟨a, by
      cases d : CJ s[k] with
      | false => rfl
      | true => exact absurd ⟨a, E, a, d⟩ l⟩
    have f := A t;have J := A c;clear l t c;have I : (¬ k < ln s) \/ (k = 9 /\ k < ln s) \/ (k <= 8 /\ ∃ h : k < (tx s).size, (((tx s)[k]'h).toNat : Int) < 48) \/ (k <= 8 /\ ∃ h : k < (tx s).size, 57 < (((tx s)[k]'h).toNat : Int)) := by
      by_cases h1 : k < ln s
      . by_cases h2 : k <= 8
        . obtain ⟨_, o⟩ := z h1 h2
          have r : k < (tx s).size := by rw [DJ]; exact h1
          rw [dR] at o;simp only [Wc, CX] at o;rcases o with h | h
          . exact .inr (.inr (.inl ⟨h2, r, by show ((s[k]).toNat : Int) < 48; omega⟩))
          exact .inr (.inr (.inr ⟨h2, r, by show 57 < ((s[k]).toNat : Int); omega⟩))
        exact .inr (.inl ⟨D, h1⟩)
      exact .inl h1
    clear z;rcases I with hw | ⟨q, m⟩ | ⟨q, m, B⟩ | ⟨q, m, B⟩
    . skip
      go_wp2;all_goals first
        | (have b : k = 0 \/ 8 < k \/ (1 < k /\ s.head? = Q 48) := by
             first
               | omega
               | (rename_i h; simp only [C9] at h; omega)
               | (rename_i h; rcases h with (h | h) | h
                  .exact fL
                  . omega
                  exact .inr (.inr ⟨D, UF Oa⟩))
               | (rename_i h _; rcases h with (h | h) | h
                  .exact fL
                  . omega
                  exact .inr (.inr ⟨D, UF Oa⟩))
               | (rename_i h _ _; simp only [C9] at h; omega)
               | (rename_i h _; simp only [C9] at h; omega)
               | (rename_i h _ _ _; simp only [C9] at h; omega)
               | (rename_i h _ _ _ _; simp only [C9] at h; omega)
           exact Bp (v := My s) (by rw [jb f.o b]; simp [results, results318, go_sem]) F ⟨F, Ad _ _⟩)
        | (have b : ¬ (k = 0 \/ 8 < k \/ (1 < k /\ s.head? = Q 48)) := by
             first
               | omega
               | (rename_i h _ _; have g := kN (s := s) (by simpa using h.2); rintro (h1 | h1 | ⟨_, h1⟩) <;> first | omega | exact g h1)
           go_quiet (fail)
           go_wp2;exact Bp (v := My s) (by rw [jZ f.o b]; simp [UD, results, results318, go_sem]) F ⟨F, below_drewN (Ad _ _) _⟩)
    . have B : 8 < (k : Int) := by omega
      clear q;go_wp2;all_goals first
        | (have b : k = 0 \/ 8 < k \/ (1 < k /\ s.head? = Q 48) := by
             first
               | omega
               | (rename_i h; simp only [C9] at h; omega)
               | (rename_i h; rcases h with (h | h) | h
                  .exact fL
                  . omega
                  exact .inr (.inr ⟨D, UF Oa⟩))
               | (rename_i h _; rcases h with (h | h) | h
                  .exact fL
                  . omega
                  exact .inr (.inr ⟨D, UF Oa⟩))
               | (rename_i h _ _; simp only [C9] at h; omega)
               | (rename_i h _; simp only [C9] at h; omega)
               | (rename_i h _ _ _; simp only [C9] at h; omega)
               | (rename_i h _ _ _ _; simp only [C9] at h; omega)
           exact Bp (v := My s) (by rw [jb f.o b]; simp [results, results318, go_sem]) F ⟨F, Ad _ _⟩)
        | (have b : ¬ (k = 0 \/ 8 < k \/ (1 < k /\ s.head? = Q 48)) := by
             first
               | omega
               | (rename_i h _ _; have g := kN (s := s) (by simpa using h.2); rintro (h1 | h1 | ⟨_, h1⟩) <;> first | omega | exact g h1)
           go_quiet (fail)
           go_wp2;exact Bp (v := My s) (by rw [jZ f.o b]; simp [UD, results, results318, go_sem]) F ⟨F, below_drewN (Ad _ _) _⟩)
    .exact zE
    exact zE
theorem Ps{r:List UInt8}(h:DT s=Q (n,r)):n<1000000000:=by
 unfold DT at h;split at h
 .cases h
 simp[We,eG] at h;have h1:=UA (Su s);have:10^(DY s).length<=10^8:=JK Z D;omega
theorem uw{r:List UInt8}(h:DT s=Q (n,r)):ln r<=ln s:=by
 grind [DT]
def uR(w:V)(g:Nat)(x y:AN)(wr:V):Prop:=
 ∃a b:Nat,x=M G a/\y=M G b/\a<1000000000/\b<1000000000/\DO a b=g/\At w.1.size w wr
def a7i(a b:Nat)(w:V)(j:a<1000000000)(k:b<1000000000):
  AZ AO 319 #[M G a,M G b] w λe w'=>e=Ac (M G (DO a b:Nat))/\At w.1.size w w':=by
 go_wp2;go_loopw [0,1] (λx y wr=>uR w _ x y wr) (λ_ y _=>(B8 y).natAbs)
 case atStart=>exact⟨a,b,F,F,j,k,F,Ad _ _⟩
 obtain⟨x,y,rfl,rfl,hx,hy,d,c⟩:=hrel;by_cases i:y=0
 .subst i;rw[Uj] at d;have f:=A d;go_wp2;go_ret;exact⟨LV (by rw[f.o]),c⟩
 have hm:((x:Int).tmod (y))=((x%y:Nat)):=Al;have l:x%y<y:=Hh _ D;have hn:=A (λn=>show uR w (DO a b) _ (M G ((x:Int).tmod (y))) _ from⟨y,x%y,F,by rw[hm],hy,D,by grind [Nat.gcd_comm,Nat.gcd_rec],below_drewN c n⟩);have g:=A (show(B8 (M G ((x:Int).tmod (y)))).natAbs<(B8 (M G (y))).natAbs by grind [B8]);go_wp2;go_quiet (fail)
 go_roundw
 case rel=>exact⟨_,_,_,_,_,_,_,_,hn _,F⟩
 exact g
def Fb(a:List UInt8):Bool:=match DT (Ag a) with
 |none=>AM
 |some (n,r)=>if(Ag a).length<ln a/\n=0 then AM else match r with
  |[]=>AL
  |c::b=>if c=47 then(match DT b with
    |none=>AM
    |some (d,q)=>q.isEmpty&&AQ (2<=d)&&AQ (DO n d=1)) else AM
def UP(a:List UInt8):Int×Int:=match DT (Ag a) with
 |none=>(0,0)
 |some (n,r)=>((if(Ag a).length<ln a then -(n:Int) else n),match r with
  |[]=>1
  |_::b=>match DT b with
   |none=>0
   |some (d,_)=>(d:Int))
def Dp(a:List UInt8):Int×Int:=if Fb a then UP a else(0,0)
def JV(w:V)(a:List UInt8)(e:CI)(w':V):Prop:=∃x y:Int,e=Ac (BO #[AW #[M G x,M G y],AU (Fb a)])/\Dp a=(x,y)/\At w.1.size w w'
theorem kI(a:List UInt8):(∃r,a=45::r/\Ag a=r)\/(Ag a=a/\∀b,a.head?=Q b->b≠45):=by
 cases a with
 |nil=>exact .inr ⟨F,λb h=>Aq⟩
 |cons c r=>
  by_cases d:c=45
  .subst d;exact .inl ⟨r,F,F⟩
  unfold Ag Lib.trimPrefix;have:DH (c::r) [45]=AM:=by simp[DH,List.isPrefixOf,Ej d]
  grind
theorem Xv(h:DT s=O):My s=BO #[M G 0,AT ⟨#[]⟩,AU AM]:=by grind [My]
theorem K9{r:List UInt8}(h:DT s=Q (n,r)):My s=BO #[M G n,AT (tx r),AU AL]:=by grind [My]
theorem CO.below{u v:AN}(h:CO W b t u v)(a:At B0 W Y)(c:b<B0):CO Y b t u v:=(a.block b c).trans h
theorem Y8{B:Nat}(h:At B w W)(b:At W.1.size W Y)(a:B<=W.1.size):At B w Y:=h.trans (b.mono a)
def Qc(c:UInt8)(r:List UInt8):(tx (c::r)).extract 1 (ln r+1)=tx r:=by
 have:=UD (c::r) 1
 grind
def Sq{c:UInt8}{r:List UInt8}(h:c≠45):Ag (c::r)=c::r:=by
 rcases kI (c::r) with⟨a,e,_⟩|⟨e,_⟩
 .grind
 grind
theorem tJ{a:BV}{x y:Int}{b:Bool}(c:CO W blk 308 (M G x) (M G y))
  (h2:a.tmps[2]?=Q (Ap (Q ⟨blk,0,O⟩)))(d:a.tmps[3]?=Q (AU b))(f:a.defers=[])(g:Fb s=b)(h:Dp s=(x,y))(e:At w.1.size w W):
  bodyPost AO f295 (JV w s) .ret a W:=by
 have c0:=c.cell0;have c1:=c.Hl;refine Bp ?_ f ⟨x,y,by rw[g],h,e⟩;simp[results,go_sem,h2,d,c0,c1]
def aW{p:Prop}(h:p:=by
 go_enter func295,ntmps295;go_wp2_with(first
  |(go_at_call 318;refine(vo _ _ DI).mono ?_;first
    |(rintro e w1 ⟨rfl,hB1⟩;rw[HV.o];have X1:=A ((CO.at_ F).below hB1 AV);have c0:=X1.cell0;have c1:=X1.Hl;have f0:=X1.frozen 0;have f1:=X1.frozen 1;have l1:=X1.lt)
    |(rintro e w2 ⟨rfl,hB2⟩;rw[HV2.o];have X2:=A (((X1.alloc _).below hB2 Bk));have Y2:=A ((CO.at_ F).below hB2 AV);have d0:=X2.cell0;have d1:=X2.Hl;have g0:=X2.frozen 0;have g1:=X2.frozen 1;have e0:=Y2.cell0;have e1:=Y2.Hl;have k0:=Y2.frozen 0;have k1:=Y2.frozen 1;have l2:=Y2.lt))
  |(go_at_call 319;refine(a7i _ _ _ DI DI).q λw3 hB3=>?_;have X3:=A ((X2.Bo (p:=⟨w1.1.size,1,O⟩) Bk _).below hB3 (by simpa[Di] using by omega));have Y3:=A ((Y2.PK _).below hB3 (by simpa[Di] using l2));have m0:=X3.cell0;have m1:=X3.Hl;have n0:=X3.frozen 0;have n1:=X3.frozen 1;have o0:=Y3.cell0;have o1:=Y3.Hl;have q0:=Y3.frozen 0;have q1:=Y3.frozen 1))
 refine tJ (blk:=w.1.size) ?nofX F F F HOK HZ ?nofB
 case nofX=>repeat first|with_reducible apply CO.Kn|with_reducible apply CO.PK|with_reducible apply CO.Bo|with_reducible apply CO.alloc|with_reducible exact X3.o|with_reducible exact X2.o|with_reducible exact X1.o|omega|(simp;done)|(simp;omega)
 case nofB=>repeat first|with_reducible refine ZI ?_ PY _|with_reducible refine Un ?_ PY _|with_reducible refine Y8 ?_ DI ZP|with_reducible exact Ad _ _):p:=h
def a1g(r:List UInt8)(w:V)(c:ln r<=1000000)(hn:DT r=O):AZ AO 295 #[AT (tx (45::r))] w (JV w (45::r)):=by
 have b:Ag (45::r)=r:=rfl;have a:Fb (45::r)=AM:=Nt;have HOK:=A a;have HZ:=A (show Dp (45::r)=(0,0) by grind [Dp]);have HV:=A (Xv hn);exact Uv
def a1l(r:List UInt8)(w:V)(d:ln r<=1000000)(n:Nat)(q:List UInt8)(hn:DT r=Q (n,q))(b:n=0):AZ AO 295 #[AT (tx (45::r))] w (JV w (45::r)):=by
 have c:Ag (45::r)=r:=rfl;have a:Fb (45::r)=AM:=Nt;have HOK:=A a;have HZ:=A (show Dp (45::r)=(0,0) by grind [Dp]);have HV:=A (K9 hn);exact Uv
def a1v(r:List UInt8)(w:V)(f:ln r<=1000000)(n:Nat)(hn:DT r=Q (n,[]))(b:n≠0):AZ AO 295 #[AT (tx (45::r))] w (JV w (45::r)):=by
 have d:Ag (45::r)=r:=rfl;have a:Fb (45::r)=AL:=Nt;have HOK:=A a;have HZ:=A (show Dp (45::r)=((-(n:Int)),1) by grind [Dp,UP]);have HV:=A (K9 hn);have c:=Ps hn;exact Uv
def b2O(r:List UInt8)(w:V)(i:ln r<=1000000)(n:Nat)(c:UInt8)(a:List UInt8)(hn:DT r=Q (n,(c::a)))(f:n≠0)(b:c≠47):AZ AO 295 #[AT (tx (45::r))] w (JV w (45::r)):=by
 have g:Ag (45::r)=r:=rfl;have d:Fb (45::r)=AM:=Nt;have HOK:=A d;have HZ:=A (show Dp (45::r)=(0,0) by grind [Dp]);have HV:=A (K9 hn);have j:((((tx (c::a))[0]' ZN).toNat:Int) !=47)=AL:=by rw[Cd];intro e;exact b (Wd yS)
 exact Uv
def a0f(r:List UInt8)(w:V)(g:ln r<=1000000)(n:Nat)(a:List UInt8)(hn:DT r=Q (n,(47::a)))(d:n≠0)(b:DT a=O):AZ AO 295 #[AT (tx (45::r))] w (JV w (45::r)):=by
 have f:Ag (45::r)=r:=rfl;have c:Fb (45::r)=AM:=Nt;have HOK:=A c;have HZ:=A (show Dp (45::r)=(0,0) by grind [Dp]);have HV:=A (K9 hn);have i:ln a<=1000000:=Up;have j:=Qc 47 a;have HV2:=A (Xv b);exact Uv
def a0s(r:List UInt8)(w:V)(g:ln r<=1000000)(n:Nat)(a:List UInt8)(hn:DT r=Q (n,(47::a)))(f:n≠0)(d:Nat)(c:UInt8)(q:List UInt8)(b:DT a=Q (d,(c::q))):AZ AO 295 #[AT (tx (45::r))] w (JV w (45::r)):=by
 exact zF
def a0a(r:List UInt8)(w:V)(g:ln r<=1000000)(n:Nat)(a:List UInt8)(hn:DT r=Q (n,(47::a)))(f:n≠0)(d:Nat)(b:DT a=Q (d,[]))(c:¬2<=d):AZ AO 295 #[AT (tx (45::r))] w (JV w (45::r)):=by
 exact zF
def a0V(r:List UInt8)(w:V)(m:ln r<=1000000)(n:Nat)(a:List UInt8)(hn:DT r=Q (n,(47::a)))(j:n≠0)(d:Nat)(b:DT a=Q (d,[]))(f:2<=d)(i:¬DO n d=1):AZ AO 295 #[AT (tx (45::r))] w (JV w (45::r)):=by
 have l:Ag (45::r)=r:=rfl;have c:Fb (45::r)=AM:=Nt;have HOK:=A c;have HZ:=A (show Dp (45::r)=(0,0) by grind [Dp]);have HV:=A (K9 hn);have k:=Ps hn;have o:ln a<=1000000:=Up;have q:=Qc 47 a;have HV2:=A (K9 b);have g:=Ps b;have s:AQ ((d:Int)<2)=AM:=Al;exact Uv
def a4E(r:List UInt8)(w:V)(k:ln r<=1000000)(n:Nat)(b:List UInt8)(hn:DT r=Q (n,(47::b)))(j:n≠0)(d:Nat)(a:DT b=Q (d,[]))(g:2<=d)(i:DO n d=1):AZ AO 295 #[AT (tx (45::r))] w (JV w (45::r)):=by
 have c:Ag (45::r)=r:=rfl;have f:Fb (45::r)=AL:=by unfold Fb;simp[c,hn,j,a,i,g]
 have HOK:=A f;have HZ:=A (show Dp (45::r)=((-(n:Int)),(d:Int)) by unfold Dp;rw[f];unfold UP;simp[c,hn,a]);have HV:=A (K9 hn);have m:=Ps hn;have t:G.wrap (-(n:Int))= -(n:Int):=EN D D;have s:((n:Int)==0)=AM:=Hi;have o:ln b<=1000000:=by have:=uw hn;simp at this k;omega
 have q:=Qc 47 b;have HV2:=A (K9 a);have l:=Ps a;exact Uv
def a1c(c0:UInt8)(r:List UInt8)(w:V)(d:(c0::r).length<=1000000)(a:c0≠45)(hn:DT (c0::r)=O):AZ AO 295 #[AT (tx (c0::r))] w (JV w (c0::r)):=by
 have c:Ag _=(c0::r):=Sq a;have b:Fb (c0::r)=AM:=Nt;have HOK:=A b;have HZ:=A (show Dp (c0::r)=(0,0) by grind [Dp]);have HV:=A (Xv hn);exact XC
def a3K(c0:UInt8)(r:List UInt8)(w:V)(d:(c0::r).length<=1000000)(a:c0≠45)(n:Nat)(hn:DT (c0::r)=Q (n,[])):AZ AO 295 #[AT (tx (c0::r))] w (JV w (c0::r)):=by
 have c:Ag _=(c0::r):=Sq a;have b:Fb (c0::r)=AL:=Nt;have HOK:=A b;have HZ:=A (show Dp (c0::r)=((n:Int),1) by grind [Dp,UP]);have HV:=A (K9 hn);exact XC
def b2M(c0:UInt8)(r:List UInt8)(w:V)(i:(c0::r).length<=1000000)(a:c0≠45)(n:Nat)(c:UInt8)(b:List UInt8)(hn:DT (c0::r)=Q (n,(c::b)))(d:c≠47):AZ AO 295 #[AT (tx (c0::r))] w (JV w (c0::r)):=by
 have g:Ag _=(c0::r):=Sq a;have f:Fb (c0::r)=AM:=Nt;have HOK:=A f;have HZ:=A (show Dp (c0::r)=(0,0) by grind [Dp]);have HV:=A (K9 hn);have j:((((tx (c::b))[0]' ZN).toNat:Int) !=47)=AL:=by rw[Cd];intro e;exact d (Wd yS)
 exact XC
def a0k(c0:UInt8)(r:List UInt8)(w:V)(g:(c0::r).length<=1000000)(a:c0≠45)(n:Nat)(b:List UInt8)(hn:DT (c0::r)=Q (n,(47::b)))(c:DT b=O):AZ AO 295 #[AT (tx (c0::r))] w (JV w (c0::r)):=by
 have f:Ag _=(c0::r):=Sq a;have d:Fb (c0::r)=AM:=Nt;have HOK:=A d;have HZ:=A (show Dp (c0::r)=(0,0) by grind [Dp]);have HV:=A (K9 hn);have i:ln b<=1000000:=Up;have j:=Qc 47 b;have HV2:=A (Xv c);exact XC
def a1U(c0:UInt8)(r:List UInt8)(w:V)(i:(c0::r).length<=1000000)(a:c0≠45)(n:Nat)(b:List UInt8)(hn:DT (c0::r)=Q (n,(47::b)))(d:Nat)(f:UInt8)(q:List UInt8)(c:DT b=Q (d,(f::q))):AZ AO 295 #[AT (tx (c0::r))] w (JV w (c0::r)):=by
 have g:Ag _=(c0::r):=Sq a;exact zG
def a0c(c0:UInt8)(r:List UInt8)(w:V)(i:(c0::r).length<=1000000)(a:c0≠45)(n:Nat)(b:List UInt8)(hn:DT (c0::r)=Q (n,(47::b)))(d:Nat)(c:DT b=Q (d,[]))(f:¬2<=d):AZ AO 295 #[AT (tx (c0::r))] w (JV w (c0::r)):=by
 have g:Ag (c0::r)=(c0::r):=Sq a;exact zG
def a0U(c0:UInt8)(r:List UInt8)(w:V)(m:(c0::r).length<=1000000)(a:c0≠45)(n:Nat)(b:List UInt8)(hn:DT (c0::r)=Q (n,(47::b)))(d:Nat)(c:DT b=Q (d,[]))(g:2<=d)(j:¬DO n d=1):AZ AO 295 #[AT (tx (c0::r))] w (JV w (c0::r)):=by
 have l:Ag (c0::r)=(c0::r):=Sq a;have f:Fb (c0::r)=AM:=Nt;have HOK:=A f;have HZ:=A (show Dp (c0::r)=(0,0) by grind [Dp]);have HV:=A (K9 hn);have k:=Ps hn;have o:ln b<=1000000:=Up;have q:=Qc 47 b;have HV2:=A (K9 c);have i:=Ps c;have s:AQ ((d:Int)<2)=AM:=Al;exact XC
def a4A(c0:UInt8)(r:List UInt8)(w:V)(m:(c0::r).length<=1000000)(a:c0≠45)(n:Nat)(b:List UInt8)(hn:DT (c0::r)=Q (n,(47::b)))(d:Nat)(c:DT b=Q (d,[]))(g:2<=d)(j:DO n d=1):AZ AO 295 #[AT (tx (c0::r))] w (JV w (c0::r)):=by
 have l:Ag (c0::r)=(c0::r):=Sq a;have f:Fb (c0::r)=AL:=Nt;have HOK:=A f;have HZ:=A (show Dp (c0::r)=((n:Int),(d:Int)) by grind [Dp,UP]);have HV:=A (K9 hn);have k:=Ps hn;have o:ln b<=1000000:=Up;have q:=Qc 47 b;have HV2:=A (K9 c);have i:=Ps c;exact XC
def b1C(w:V):AZ AO 295 #[AT (tx [])] w (JV w []):=by
 have b:=A (show Fb []=AM by rfl);have c:=A (Xv (s:=[]) BE);have e:([]:List UInt8).length<=1000000:=AV;go_enter func295,ntmps295;go_wp2_with(go_at_call 318;refine(vo [] _ e).q λw1 d=>?_;rw[c.o];have a:=A ((CO.at_ F).below d AV);have c0:=a.cell0;have c1:=a.Hl;have f:=a.frozen 0;have f1:=a.frozen 1;have l1:=a.lt)
 refine tJ (blk:=w.1.size) (x:=0) (y:=0) ?nofX F F F b F ?nofB
 case nofX=>repeat first|with_reducible apply CO.Kn|with_reducible apply CO.PK|with_reducible exact a.o
 case nofB=>repeat first|with_reducible refine ZI ?_ PY _|with_reducible refine Un ?_ PY _|with_reducible refine Y8 ?_ DI ZP|with_reducible exact Ad _ _
def jE(a:List UInt8)(w:V)(h:ln a<=1000000):AZ AO 295 #[AT (tx a)] w (JV w a):=by
 cases a with
 |nil=>exact b1C w
 |cons c0 r=>
  by_cases f:c0=45
  .subst f;have g:ln r<=1000000:=by simp at h;omega
   cases hn:DT r with
   |none=>exact a1g r w g hn
   |some p=>
    obtain⟨n,q⟩:=p;by_cases i:n=0
    .exact a1l r w g n q hn i
    cases q with
    |nil=>exact a1v r w g n hn i
    |cons c b=>
     by_cases k:c=47
     .subst k;cases e:DT b with
      |none=>exact a0f r w g n b hn i e
      |some p=>
       obtain⟨d,q⟩:=p;cases q with
       |cons l q=>exact a0s r w g n b hn i d l q e
       |nil=>
        by_cases j:2<=d
        .by_cases hg:DO n d=1
         .exact a4E r w g n b hn i d e j hg
         exact a0V r w g n b hn i d e j hg
        exact a0a r w g n b hn i d e j
     exact b2O r w g n c b hn i k
  cases hn:DT (c0::r) with
  |none=>exact a1c c0 r w h f hn
  |some p=>
   obtain⟨n,q⟩:=p;cases q with
   |nil=>exact a3K c0 r w h f n hn
   |cons c b=>
    by_cases k:c=47
    .subst k;cases e:DT b with
     |none=>exact a0k c0 r w h f n b hn e
     |some p=>
      obtain⟨d,q⟩:=p;cases q with
      |cons l q=>exact a1U c0 r w h f n b hn d l q e
      |nil=>
       by_cases j:2<=d
       .by_cases hg:DO n d=1
        .exact a4A c0 r w h f n b hn d e j hg
        exact a0U c0 r w h f n b hn d e j hg
       exact a0c c0 r w h f n b hn d e j
    exact b2M c0 r w h f n c b hn k
def Hn(s:List UInt8):Nat:=if 1<(DY s).length/\s.head?=Q 48 then 0 else(DY s).length
def uV(s:List UInt8)(i:AN):Prop:=∃k:Nat,k<=ln s/\i=M G (k:Int)/\(s.take k).all CJ=AL
def a2V(s:List UInt8)(w:V)(C:ln s<=1000000):
  AZ AO 317 #[AT (tx s)] w λe w'=>e=Ac (M G (Hn s))/\w'=w:=by
 go_enter func317,ntmps317;go_wp2
 go_loop [3] (λi=>uV s i) (λi=>((ln s:Int)-B8 i).toNat)
 case atStart=>exact⟨0,D,rfl,rfl⟩
 obtain⟨k,hk,rfl,c⟩:=hrel;by_cases l:∃h:k<ln s,CJ (s[k]'h)=AL
 .obtain⟨f,a⟩:=l;have n:k<(tx s).size:=by rw[DJ];exact f
  have hx:(tx s)[k]'n=s[k]:=rfl;have z:=Py a;have d1:48<=(((tx s)[k]'n).toNat:Int):=by rw[hx];omega
  have d2:(((tx s)[k]'n).toNat:Int)<=57:=by rw[hx];omega
  have v:uV s (M G ((k:Int)+1)):=⟨k+1,D,AV,pS f c a⟩;have y:=A v;clear v z hx c a;go_wp2;exact⟨y,Bm⟩
 have u:(DY s).length=k:=by
  by_cases f:k<ln s
  .refine oL c f ?_;cases a:CJ s[k] with
   |false=>rfl
   |true=>exact absurd ⟨f,a⟩ l
  have e:k=ln s:=D;rw[e] at c;rw[e];exact qb c
 have x:(¬k<ln s)\/(∃h:k<(tx s).size,(((tx s)[k]'h).toNat:Int)<48)\/(∃h:k<(tx s).size,57<(((tx s)[k]'h).toNat:Int)):=by
  by_cases h1:k<ln s
  .have hdb:CJ s[k]=AM:=by
    cases a:CJ s[k] with
    |false=>rfl
    |true=>exact absurd ⟨h1,a⟩ l
   have d:k<(tx s).size:=by rw[DJ];exact h1
   rw[dR] at hdb;simp only[Wc,CX] at hdb;rcases hdb with h|h
   .exact .inr (.inl ⟨d,by show((s[k]).toNat:Int)<48;omega⟩)
   exact .inr (.inr ⟨d,by show 57<((s[k]).toNat:Int);omega⟩)
  exact .inl h1
 have t:=A u;clear l u c;by_cases j:1<k/\s.head?=Q 48
 .obtain⟨h1,h48⟩:=j;have HR:=A (show Hn s=0 by unfold Hn;rw[t.o,Aj ⟨h1,h48⟩]);have m:0<(tx s).size:=QN;have B:((((tx s)[0]'m).toNat:Int)==48)=AL:=by
   rw[C9];cases s with
   |nil=>cases h48
   |cons b r=>simp only[QG,We] at h48;subst h48;rfl
  clear h48;have d:AQ (1<(k:Int))=AL:=NF;rcases x with hw|⟨g,o⟩|⟨g,o⟩
  .go_wp2;go_ret;exact⟨LV Fo,F⟩
  .have q:k<ln s:=eu;go_wp2;go_ret;exact⟨LV Fo,F⟩
  have q:k<ln s:=eu;go_wp2;go_ret;exact⟨LV Fo,F⟩
 have HR:=A (show Hn s=k by unfold Hn;rw[t.o,Af j]);by_cases h1:1<k
 .have h48:¬s.head?=Q 48:=λh=>j ⟨h1,h⟩
  have m:0<(tx s).size:=QN;have B:((((tx s)[0]'m).toNat:Int)==48)=AM:=by
   rw[CK];intro e;exact h48 (UF e)
  have d:AQ (1<(k:Int))=AL:=NF;clear j h48;exact zH
 have d:AQ (1<(k:Int))=AM:=Et;clear j;exact zH
end
end Go.Proofs.YtalhfkdhdggdaaaGreatDoor
namespace Kp
abbrev B6:Nat:=1000000
def S6(f:Nat->Nat):Nat->Nat
 |0=>0
 |n+1=>S6 f n+f n*B6^n
def BC(l:List Nat):Nat:=S6 (I l) (ln l)
def E4(l:List Nat):Prop:=∀d,d∈l->d<B6
structure EJ(l:List Nat):Prop where
 Bf:E4 l
 trim:N5 l
def F9(a b:List Nat):Nat->Nat×Nat
 |0=>(0,0)
 |k+1=>((I a k+I b k+(F9 a b k).2)%1000000,(I a k+I b k+(F9 a b k).2)/1000000)
def ER(a b:List Nat):Nat->Nat×Nat
 |0=>(0,0)
 |k+1=>(if I b k+(ER a b k).2<=I a k then I a k-(I b k+(ER a b k).2) else I a k+1000000-(I b k+(ER a b k).2),if I b k+(ER a b k).2<=I a k then 0 else 1)
theorem LG(f:Nat->Nat)(n:Nat):S6 f (n+1)=S6 f n+f n*B6^n:=rfl
def a8W(n:Nat):0<B6^n:=ZH Z
theorem Ss{f g:Nat->Nat}(h:∀k,k<n->f k=g k):S6 f n=S6 g n:=by
 induction n with
 |zero=>rfl
 |succ n a=>grind [LG]
theorem aG{f:Nat->Nat}(h:∀k,k<n->f k<B6):S6 f n<B6^n:=by
 induction n with
 |zero=>simp[S6]
 |succ n b=>
  rw[LG];have h2:=h n D;have a:(f n+1)*B6^n<=B6*B6^n:=Gz _ h2
  grind
theorem nD{f:Nat->Nat}(h:∀k,k<n->f k=0):S6 f n=0:=by
 induction n with
 |zero=>rfl
 |succ n a=>grind [LG]
theorem Zr(f:Nat->Nat)(m n:Nat):S6 f (m+n)=S6 f m+B6^m*S6 (λk=>f (m+k)) n:=by
 induction n with
 |zero=>simp[S6]
 |succ n a=>
  rw[<-Nat.add_assoc,LG,LG]
  grind
theorem b3e{f:Nat->Nat}(h:m<=n)(a:∀k,m<=k->k<n->f k=0):S6 f n=S6 f m:=by
 obtain⟨d,rfl⟩:∃d,n=m+d:=⟨n-m,D⟩
 grind [Zr,nD]
theorem GS{l:List Nat}(h:E4 l)(k:Nat):I l k<B6:=by
 exact yT
theorem VT{l:List Nat}(h:ln l<=n):S6 (I l) n=BC l:=b3e h (λ_ hk _=>UN hk)
def dV{l:List Nat}(h:E4 l):BC l<B6^ln l:=aG (λk _=>GS h k)
def cE(l:List Nat)(d:Nat):BC (l++[d])=BC l+d*B6^ln l:=by
 unfold BC;rw[FN];show S6 _ (ln l+1)=_
 grind [LG,Ss,I]
theorem b2Q(l:List Nat):BC (l++[0])=BC l:=by rw[cE];simp
theorem E4.pK{l:List Nat}(h:E4 (l++[d])):E4 l:=λx hx=>h x (by simp[hx])
def dd{l:List Nat}(h:N5 l)(b:l≠[]):B6^(ln l-1)<=BC l:=by
 rcases bR l with rfl|⟨m,d,rfl⟩
 .grind
 rw[cE];have a:=h.last;have:1*B6^ln m<=d*B6^ln m:=Gz _ D
 grind
def YX{l:List Nat}(h:N5 l)(a:l≠[]):0<BC l:=Dj (a8W _) (dd h a)
def j6{a b:List Nat}(c:E4 a)(d:N5 b)(h:ln a<ln b):BC a<BC b:=by
 have h1:=dV c;have h2:=dd d Al;have e:B6^ln a<=B6^(ln b-1):=JK Z D;omega
theorem Sl(l:List Nat):BC (Bn l)=BC l:=by
 refine Xs (p:=λl=>BC (Bn l)=BC l) F (λl d a=> ?_) l
 grind [Xr,b2Q,Xx]
def U4{l:List Nat}(h:E4 l):EJ (Bn l):=by
 revert h;refine Xs (p:=λl=>E4 l->EJ (Bn l)) (λ_=>⟨λd h=>by grind [jV],cj⟩) (λl d a h=> ?_) l;exact yU
theorem uF{f g:Nat->Nat}(hi:i<n)(b:∀k,k<n->f k<B6)(a:∀k,i<k->k<n->f k=g k)(c:f i<g i):S6 f n<S6 g n:=by
 obtain⟨d,rfl⟩:∃d,n=(i+1)+d:=⟨n-(i+1),D⟩;rw[Zr f _,Zr g _,Ss (f:=λk=>f (i+1+k)) (λk hk=>a _ D D),LG,LG];have h1:=aG (n:=i) (λk hk=>b k D);have h2:(f i+1)*B6^i<=g i*B6^i:=Gz _ c
 grind
theorem b0y{a b:List Nat}(d:EJ a)(e:EJ b)(g:ln a=ln b)(hi:i<ln a)(c:∀k,i<k->k<ln a->I a k=I b k)(f:I a i≠I b i):
  ((I a i:Int)-I b i<0↔BC a<BC b)/\(0<(I a i:Int)-I b i↔BC b<BC a):=by
 unfold BC;rcases lr f with h|h
 .have:=uF hi (λk _=>GS d.Bf k) c h
  grind
 have:=uF hi (λk _=>GS e.Bf k) (λk h1 h2=>(c k h1 h2).symm) h
 grind
def a5C{a b:List Nat}(c:ln a=ln b)(d:∀k,k<ln a->I a k=I b k):BC a=BC b:=by
 grind [BC,Ss]
def Yg{a b:List Nat}(c:E4 a)(d:E4 b)(k:Nat):(ER a b k).2<=1/\(ER a b (k+1)).1<1000000:=by
 have key:∀k,(ER a b k).2<=1:=by
  intro k;cases k with
  |zero=>exact D8 _
  |succ k=>show(if _ then 0 else 1)<=1;grind
 have h1:I a k<1000000:=GS c _;rw[ER]
 grind
def a8V{a b:List Nat}(d:E4 a)(c:E4 b)(k:Nat):S6 (I (Cs (ER a b) k)) k+S6 (I b) k=S6 (I a) k+(ER a b k).2*B6^k:=by
 induction k with
 |zero=>rfl
 |succ k j=>
  have e:S6 (I (Cs (ER a b) (k+1))) k=S6 (I (Cs (ER a b) k)) k:=Ss λi hi=>by
   exact fJ
  have f:I (Cs (ER a b) (k+1)) k=(ER a b (k+1)).1:=by
   rw[Sh];unfold I
   grind [LX]
  rw[LG,LG,LG];have h2:I b k<1000000:=GS c _;have g:=(Yg d c k).1;have h:(ER a b (k+1)).1+I b k+(ER a b k).2=I a k+(ER a b (k+1)).2*1000000:=by
   rw[ER]
   grind
  grind
theorem gO{a b:List Nat}(c:E4 a)(d:E4 b)(k:Nat):(F9 a b k).2<=1/\(F9 a b (k+1)).1<1000000:=by
 have key:∀k,(F9 a b k).2<=1:=by
  intro k;cases k with
  |zero=>exact D8 _
  |succ k=>
   induction k with
   |zero=>
    have h1:=GS c 0;have h2:=GS d 0;show(I a 0+I b 0+0)/1000000<=1
    grind
   |succ k e=>
    grind [GS,F9]
 exact⟨key k,Hh _ Z⟩
theorem b2q{l:List Nat}(a:j<n)(hn:n<=ln l):S6 (I (l.set j x)) n+I l j*B6^j=S6 (I l) n+x*B6^j:=by
 induction n with
 |zero=>omega
 |succ n b=>
  rw[LG,LG];by_cases e:j=n
  .subst e;rw[Nb D,Aj rfl,Ss (λk hk=>by rw[Nb D,Af D])];omega
  rw[Nb D,Af D];omega
theorem E4.set{l:List Nat}(h:E4 l)(hx:x<B6):E4 (l.set j x):=by
 exact mV
def E4.b4P(n:Nat):E4 (F7 n 0):=by
 intro d a
 grind
structure NQ(a b:List Nat)(i k c:Nat)(out:List Nat):Prop where
 len:ln out=ln a+ln b+1
 Bf:E4 out
 eq:S6 (I out) (ln a+ln b+1)+c*B6^(i+k)=S6 (I a) i*BC b+I a i*B6^i*S6 (I b) k
 carry:c<=1000000000000
structure Xg(b:List Nat):Prop where
 xQ:∀k,I b k<1000000000000
 val:BC b<B6^(ln b+1)
def E4.b5m{b:List Nat}(h:E4 b):Xg b:=
 ⟨λk=>Nat.lt_trans (GS h k) Z,Dj (dV h) (JK Z D)⟩
theorem b0W(h:g<1000000000000):Xg [g]:=by
 refine⟨λk=> ?_,?_⟩
 .cases k with
  |zero=>exact h
  |succ k=>grind [UN]
 show S6 _ 1<B6^2;simp[S6,I];omega
theorem NQ.next{a b:List Nat}(h:NQ a b i k c out)(f:E4 a)(g:Xg b)(hk:i+k<ln a+ln b+1):
  NQ a b i (k+1) ((I out (i+k)+I a i*I b k+c)/1000000) (out.set (i+k) ((I out (i+k)+I a i*I b k+c)%1000000)):=by
 obtain⟨len,Bf,eq,carry⟩:=h;have h1:I a i<1000000:=GS f i;have h2:I out (i+k)<1000000:=GS Bf _;have m:=g.xQ k;have o:I a i*I b k<=999999*999999999999:=OZ D D;have⟨n,hn⟩:=AP (I out (i+k)+I a i*I b k+c);refine⟨Al,Bf.set (Hh _ Z),?_,D⟩;have e:=b2q (l:=out) (x:=n%1000000) hk D;have d:=eC n 1000000;have j:I a i*B6^i*S6 (I b) (k+1)=I a i*B6^i*S6 (I b) k+I a i*I b k*B6^(i+k):=by
  rw[LG]
  grind
 grind
theorem NQ.inside{a b:List Nat}(h:NQ a b i k c out)(e:E4 a)(f:Xg b)(hi:i<ln a)(hk:ln b<=k)(g:0<c):i+k<ln a+ln b+1:=by
 rcases Ht _ _ with h1|h1
 .exact h1
 have eq:=h.eq;rw[VT hk,<-Kq,<-LG] at eq;have h2:S6 _ _<B6^(i+1):=aG (λk _=>GS e k);have d:=Nat.mul_lt_mul'' h2 f.val;rw[<-eh] at d;have j:B6^(i+1+(ln b+1))<=B6^(i+k):=JK Z D;have l:1*B6^(i+k)<=c*B6^(i+k):=Gz _ g;omega
theorem NQ.row{a b:List Nat}(h:NQ a b i k 0 out)(hk:ln b<=k):NQ a b (i+1) 0 0 out:=by
 refine⟨h.len,h.Bf,?_,D⟩;have eq:=h.eq;rw[VT hk] at eq
 grind [S6]
def NQ.BI(a b:List Nat):NQ a b 0 0 0 (F7 (ln a+ln b+1) 0):=
 ⟨AV,E4.b4P _,by grind [nD,Vg,S6],D⟩
theorem NQ.done{a b:List Nat}(h:NQ a b (ln a) 0 0 out):BC out=BC a*BC b:=by
 have:=h.eq;simp[TN,Dh] at this;unfold BC;rw[h.len,this];rfl
def Y9{r b:List Nat}(d:EJ r)(a:E4 b)(h:BC r<=BC b):ln r<=ln b:=by
 rcases Ht _ _ with c|e
 .have:=j6 a d.trim c;omega
 grind
theorem b4q{b r:List Nat}(f:E4 b)(n:ln b=m+2)(g:ln r<=m+3):
  ((I r (m+2)*1000000+I r (m+1))*1000000+I r m)/(I b (m+1)*1000000+I b m+1)*BC b<=BC r:=by
 have c:=(VT g).symm;have d:BC b=S6 (I b) (m+2):=by grind [BC]
 rw[c,d];have l:S6 _ m<B6^m:=aG (λk _=>GS f k);have⟨t,a⟩:=AP (I b (m+1)*1000000+I b m+1);have⟨u,hu⟩:=AP ((I r (m+2)*1000000+I r (m+1))*1000000+I r m);rw[a,hu];have h1:S6 (I b) m+I b m*B6^m+I b (m+1)*B6^(m+1)<=t*B6^m:=by
  rw[<-a,NC]
  grind
 have h2:u*B6^m<=S6 (I r) m+I r m*B6^m+I r (m+1)*B6^(m+1)+I r (m+2)*B6^(m+2):=by
  have i:I r (m+1)*B6^(m+1)=I r (m+1)*1000000*B6^m:=Al;have j:I r (m+2)*B6^(m+2)=I r (m+2)*1000000*1000000*B6^m:=by
   grind
  grind [Nat.add_mul]
 have e:u/t*t<=u:=Nat.div_mul_le_self _ _;refine BJ (Ws _ h1) (BJ ?_ h2);rw[<-Wp];exact Gz _ e
theorem bT(x:Nat)(l:List Nat):BC (x::l)=x+1000000*BC l:=by
 unfold BC;rw[FX,Np _ 1,Zr];have:S6 (λk=>I (x::l) (1+k)) (ln l)=S6 (I l) _:=Ss (λk _=>by unfold I;grind);rw[this];simp[S6,I]
def b2y{z a R l:Nat}(h:l+z*a=R)(b:R<1000000*a):z<1000000:=by
 rcases Ht z _ with h1|h1
 .exact h1
 have:=Gz a h1;omega
end Kp
namespace Go.Proofs.YtalhfkdhdggdaaaGreatDoor
section
open Kp
theorem bK(w:V)(b0:Nat)(v:AN)(l:List Nat)(i:Nat)(h:BH w b0 v l)(hi:i<=4611686018427387904):
  AZ AO 288 #[v,M G i] w λe w'=>e=Ac (M G (I l i))/\w=w':=by
 obtain⟨aa,R,rfl,d,hm,a⟩:=h;unfold BM at hm;by_cases c:i<ln l
 .obtain⟨b,off,rfl,_,hcell⟩:=a D;have hx:=hcell i c;clear hcell;go_enter func288,ntmps288;exact ZO
 go_enter func288,ntmps288;go_wp2;go_ret;exact⟨gQ (by rw[UN D];rfl),F⟩
def wM(w:V)(b0:Nat)(v:AN)(l:List Nat)(i:Nat)(h:BH w b0 v l)(hi:i<=4611686018427387904):
  AZ AO 288 #[v,M G i] w λe w'=>e=Ac (M G (I l i))/\w'=w:=
 (bK w b0 v l i h hi).mono λ_ _ h=>⟨h.1,h.2.symm⟩
def QT(v:AN)(l:List Nat):AN:=match v with
 | AK aa _ R=> AK aa (Bn l).length R
 |v=>v
theorem BH.trimmed{v:AN}{l:List Nat}(h:BH w b0 v l):BH w b0 (QT v l) (Bn l):=by
 obtain⟨aa,R,rfl,h1,h2,c⟩:=h;have g:=Lt l;refine⟨aa,R,F,BJ g h1,h2,λi=> ?_⟩;have⟨b,o,e,a,d⟩:=c D;exact⟨b,o,e,a,λj f=>by rw[kX f];exact d j D⟩
def Ri(w:V)(b0:Nat)(v:AN)(l:List Nat)(h:BH w b0 v l):
  AZ AO 286 #[v] w λe w'=>e=Ac (QT v l)/\w=w':=by
 obtain⟨aa,R,rfl,h1,h2,g⟩:=h;unfold QT;unfold BM at h2;have i:=Lt l;go_enter func286,ntmps286;go_wp2;go_loopw [3] (λv wr=>∃k:Nat,k<=ln l/\v=M G (k:Int)/\Hid (Bn (l.take k)=Bn l)/\w=wr) (λv _=>(B8 v).toNat)
 case atStart=>exact⟨ln l,AS _,F,by simp[Hid],rfl⟩
 obtain⟨k,hk,rfl,f,rfl⟩:=hrel;rcases k with _|k
 .exact yR
 obtain⟨b,off,rfl,_,c⟩:=g D;have hx:=c k D;by_cases a:I l k=0
 .have hz:((I l k:Int)==0)=AL:=by rw[a];rfl
  have d:=A a;clear a c;go_wp2;exact⟨⟨k,D,by go_num,oh D d f,trivial⟩,by simp[B8]⟩
 exact yQ
def Zd(a b:List Nat)(e:CI):Prop:=∃c:Int,e=Ac (M G c)/\(c<0->BC a<BC b)/\(¬c<0->BC b<=BC a/\ln b<=ln a)
def wS(w:V)(a b:List Nat)(B C:AN)(j:BH w w.1.size B a)(l:BH w w.1.size C b)(t:EJ a)(u:EJ b):
  AZ AO 291 #[B,C] w λe w'=>Zd a b e/\Ext w w':=by
 have H:=A (show∀W,Ext w W->BH W w.1.size B a fromλW h=>j.below h);have J:=A (show∀W,Ext w W->BH W w.1.size C b fromλW h=>l.below h);obtain⟨aa,ca,rfl,ab,T,_⟩:=id j;obtain⟨A',cb,rfl,ac,U,_⟩:=id l;unfold BM at T U;have N:=A (show BC a<BC b->Zd a b (Ac (M G (-1))) fromλh=>⟨_,rfl,λ_=>h,λh=>absurd Z h⟩);have P:=A (show BC b<=BC a/\ln b<=ln a->Zd a b (Ac (M G 1)) fromλh=>⟨_,rfl,λh=>absurd h Z,λ_=>h⟩);have Y:=A (show BC b<=BC a/\ln b<=ln a->Zd a b (Ac (M G 0)) fromλh=>⟨_,rfl,λh=>absurd h Z,λ_=>h⟩);by_cases v:ln a=ln b
 .have E:=A v;have⟨n,hn⟩:=AP (ln a);have o:ln b=n:=D;rw[o] at J;rw[hn] at H;rw[hn,o];have f:=A hn;have L:=A o;have ae:n<=9223372036854775807:=D;have w1:G.wrap ((n:Int)-1)=(n:Int)-1:=DF _ D;clear j l ab T ac U v hn o;go_enter func291,ntmps291;go_wp2;go_loopw [5] (λi wr=>∃k:Nat,k<=n/\i=M G ((k:Int)-1)/\Ext w wr/\Hid (∀m,k<=m->m<ln a->I a m=I b m)) (λi _=>(B8 i+1).toNat)
  case atStart=>exact⟨n,AS _,F,Ad _ _,λm h1 h2=>by have:=f.o;omega⟩
  obtain⟨k,hk,rfl,d,z⟩:=hrel;have g:=A d;rcases k with _|k
  .have c:=A (Y ⟨Uf (a5C E λm hm=>z m (D8 _) hm).symm,Uf E.symm⟩);clear d;go_wp2;go_ret;exact⟨c,g⟩
  have⟨_,_,e,_,_,q⟩:=H wr d;injection e with r _ s
  subst r s;obtain⟨b1,o1,rfl,_,c1⟩:=q (by have:=f.o;omega);have c1:=c1 k (by have:=f.o;omega);have⟨_,_,e,_,_,q⟩:=J wr d;injection e with r _ s
  subst r s;obtain⟨b2,o2,rfl,_,c2⟩:=q (by have:=L.o;omega);have c2:=c2 k (by have:=L.o;omega);have ek:((k+1:Nat):Int)-1=(k:Int):=D;rw[ek];have w2:G.wrap ((k:Int)-1)=(k:Int)-1:=DF _ D;have X:k<ln a:=by have:=f.o;omega
  have K:=A (λh=>b0y t u E X (λm h1 h2=>z m D h2) h);have⟨x,hx⟩:=AP (I a k);have⟨y,hy⟩:=AP (I b k);rw[hx] at c1;rw[hy] at c2;have R:=A hx;have S:=A hy;clear d q X;rcases eR x y with h|h|h
  .have c:=A (N ((K ey).1.1 ey));clear hx hy;go_wp2_with fail
   go_quiet (fail)
   go_wp2;go_ret;exact⟨c,below_drewN g _⟩
  .have t1:¬x<y:=D;have t2:¬y<x:=D;have c:=A (show∀m,k<=m->m<ln a->I a m=I b m fromλm h1 h2=>by
    by_cases e:m=k
    .rw[e];have:=R.o;have:=S.o;omega
    exact z m D h2)
   clear h hx hy;go_wp2_with fail
   go_quiet (fail)
   go_wp2_with fail
   go_quiet (fail)
   go_wp2
   go_round
   case rel=>exact⟨k,D,rfl,below_drewN g _,c⟩
   simp[B8]
  have t1:¬x<y:=D;have c:=A (P ⟨FM ((K ey).2.1 ey),Uf E.symm⟩);clear hx hy;go_wp2_with fail
  go_quiet (fail)
  go_wp2_with fail
  go_quiet (fail)
  go_wp2;go_ret;exact⟨c,below_drewN (below_drewN g _) _⟩
 have af:((ln a:Int) !=ln b)=AL:=by rw[Cd];omega
 by_cases ad:ln a<ln b
 .have c:=A (N (j6 t.Bf u.trim ad));exact zX
 have c:=A (P ⟨FM (j6 u.Bf t.trim D),D⟩);exact zX
end
end Go.Proofs.YtalhfkdhdggdaaaGreatDoor
namespace Go.RowKit
def Hid.now{aa:V}{P:V->Prop}(h:Hid (∀W,Ext aa W->P W)):P aa:=h _ (Ext.B9 _)
end Go.RowKit
