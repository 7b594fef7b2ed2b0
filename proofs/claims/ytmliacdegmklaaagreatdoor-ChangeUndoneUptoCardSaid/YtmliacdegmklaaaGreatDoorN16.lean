/- ChangeUndone of kingpostlaw58: part 16 of its proof (merged and shortened by program). -/
import Derived.Test.YtmliacdegmklaaaGreatDoorN12
import Derived.Test.YtmliacdegmklaaaGreatDoorN13
set_option linter.unusedVariables false
set_option linter.unusedSimpArgs false
set_option linter.defProp false
set_option maxHeartbeats 8000000
set_option maxRecDepth 100000
open Go.RowKit Go.Shelf Go.Proofs.Tryz
open Array renaming getElem?_eq_some_iff→VF
open Bool renaming false→Vw,true→VD
open Go renaming World→Vt,Value→Vy,undef→VB,wpOp_step→VE,Calls→VJ,maxLen→VP,TypeId→VR,Addr→VT
open Go.AllReady renaming cons→VO,nil→VU
open Go.Ending renaming returned→V0
open Go.IntKind renaming i64→VH
open Go.IntWalk renaming i64_in→VQ
open Go.Lib renaming hid→Vs
open Go.RowKit renaming intOf→VN,Below→VS
open Go.Value renaming slice→VV,string→VW,bool→VX,pointer→VY,int→VZ,agg→V5,tuple→V6
open Go.World renaming alloc_heap_new→VG,size_alloc→VK
open List renaming getD_eq_getElem?_getD→Vv,getElem?_eq_getElem→VA,length_map→VC,length_append→VM,length→ln
open Nat renaming le_refl→Vu,le_trans→VI,mul_comm→VL
open Option renaming none→Vx,some→Vz
open Go.Proofs.YtmliacdegmklaaaGreatDoor
variable{k i:Nat}{p:Prop}
namespace Go.Proofs.YtmliacdegmklaaaGreatDoor
section
open Kp
def Se:Array Vy:=#[.nilFunc,.func (.func 87) #[] #[],.func (.func 88) #[] #[],.func (.func 89) #[] #[],.func (.func 90) #[] #[],.func (.func 91) #[] #[],.func (.func 93) #[] #[],.func (.func 94) #[] #[],.func (.func 96) #[] #[],.func (.func 97) #[] #[],.func (.func 98) #[] #[],.func (.func 100) #[] #[],.func (.func 101) #[] #[]]
def Cw(w:Vt):VJ prog 43 #[] w λe w'=>e=V0 (V5 Se)/\Ext w w':=by
 have hh:=VG w (.cells #[.nilFunc,.nilFunc,.nilFunc,.nilFunc,.nilFunc,.nilFunc,.nilFunc,.nilFunc,.nilFunc,.nilFunc,.nilFunc,.nilFunc,.nilFunc] 99);have hx:Ext w ((w.alloc (.cells #[.nilFunc,.nilFunc,.nilFunc,.nilFunc,.nilFunc,.nilFunc,.nilFunc,.nilFunc,.nilFunc,.nilFunc,.nilFunc,.nilFunc,.nilFunc] 99)).setRow w.heap.size Se):=ah ((Below.refl _ _).alloc (Vu _) _) (Vu _) _;have HH:=Vs hh;have HX:=Vs hx;clear hh hx;go_enter func43,ntmps43;go_wp2_with(refine wpList_store_row rfl 99 _ _ rfl w.heap.size Se rfl rfl 99 _ HH.o V8 V8 V8 ?_)
 refine bodyPost_ret (results_cell_row rfl _ _ _ _ _ (0,0) _ rfl (setRow_heap HH.o _) underlying99 rfl V8) rfl ⟨rfl,HX.o⟩
end
section
open Kp
def nR{rs:List (List Sd)}(h:ln rs.flatten<=1000000)(k:Nat):(rs.getD k []).length<=1000000:=by
 by_cases hk:k<ln rs
 ·rw[Vv,VA hk];exact VI (List.sublist_flatten_of_mem (List.getElem_mem hk)).length_le h
 ·exact Z8
end
section
open Kp
attribute [local go_sem] aM gY eP eN eV eK dY eT eO eU eZ
def eE(n:Nat):Bool:=(decide (20<n)&&decide (n<299))||decide (604<n)
def J7(s:ByteArray)(w:Vt):VJ prog 84 #[VW s] w λe w'=>e=V0 (VX (eE s.size))/\w'=w:=by
 by_cases h1:s.size<=20
 ·have HR:=Vs (show eE s.size=Vw by unfold eE;simp;omega);go_enter func84,ntmps84;go_wp2;go_ret;exact⟨by rw[HR.o];simp;omega,rfl⟩
 by_cases h2:s.size<299
 ·have HR:=Vs (show eE s.size=VD by unfold eE;simp;omega);have t1:decide (20<(s.size:Int))=VD:=Wn;exact a0v
 ·have HR:=Vs (show eE s.size=decide (604<(s.size:Int)) by unfold eE;rw[Bool.eq_iff_iff];simp;omega);have t1:decide (20<(s.size:Int))=VD:=Wn;have t2:decide ((s.size:Int)<299)=Vw:=Wd;exact a0v
def AI(w:Vt)(c cap:Nat)(T:VR)(x y:Int)(s:By)(hr:bZ w c T [VZ VH x,VZ VH y,VW (tx s)]):
  VJ prog 39 #[VV (Vz ⟨c,0,Vx⟩) 1 cap] w λe w'=>e=V0 (VX (decide (50<ln s)))/\w'=w:=by
 have c2:w.cell? ⟨c,2,Vx⟩=Vz (VW (tx s)):=by rw[hr.cell];rfl
 clear hr;by_cases h:50<ln s
 ·have HR:=Vs (show decide (50<ln s)=VD by simpa using h);go_enter func39,ntmps39;go_wp2;refine wp_loop_rounds 2 ?_;exact Zw
 ·have HR:=Vs (show decide (50<ln s)=Vw by simpa using h);go_enter func39,ntmps39;go_wp2;refine wp_loop_rounds 2 ?_;exact Zv
def kW(a b c d:By):Bool:=eE (ln a)||eE (ln b)||eE (ln c)||eE (ln d)
def mB(s:By)(w:Vt):VJ prog 84 #[VW (tx s)] w λe w'=>e=V0 (VX (eE (ln s)))/\w'=w:=by
 have:=J7 (tx s) w;rw[ak] at this;exact this
def sw(w:Vt)(k cap:Nat)(T:VR)(x:Int)(a b c d:By)(hr:bZ w k T [VZ VH x,VW (tx a),VW (tx b),VW (tx c),VW (tx d)]):
  VJ prog 38 #[VV (Vz ⟨k,0,Vx⟩) 1 cap] w λe w'=>e=V0 (VX (kW a b c d))/\w'=w:=by
 have c1:w.cell? ⟨k,1,Vx⟩=Vz (VW (tx a)):=by rw[hr.cell];rfl
 have c2:w.cell? ⟨k,2,Vx⟩=Vz (VW (tx b)):=by rw[hr.cell];rfl
 have c3:w.cell? ⟨k,3,Vx⟩=Vz (VW (tx c)):=by rw[hr.cell];rfl
 have c4:w.cell? ⟨k,4,Vx⟩=Vz (VW (tx d)):=by rw[hr.cell];rfl
 clear hr;cases ta:eE (ln a)
 ·cases tb:eE (ln b)
  ·cases tc:eE (ln c)
   ·cases td:eE (ln d)
    ·have HR:=Vs (show kW a b c d=Vw by unfold kW;simp[ta,tb,tc,td]);go_enter func38,ntmps38;go_wp2;refine wp_loop_rounds 2 ?_;rw[rounds_succ];go_wp2_with(go_at_call 84;refine(mB _ _).mono ?_;rintro e w1 ⟨rfl,rfl⟩)
     exact Zw
    ·have HR:=Vs (show kW a b c d=VD by unfold kW;simp[td]);exact a0w
   ·have HR:=Vs (show kW a b c d=VD by unfold kW;simp[tc]);exact a0w
  ·have HR:=Vs (show kW a b c d=VD by unfold kW;simp[tb]);exact a0w
 ·have HR:=Vs (show kW a b c d=VD by unfold kW;simp[ta]);exact a0w
def bZ.Uo(w:Vt)(o o2:Obj)(T:VR)(l:List Vy):bZ (((w.alloc o).alloc o2).alloc (.cells l.toArray T)) (w.heap.size+1+1) T l:=by
 have:=bZ.RI (w.alloc o) o2 T l;exact YG
def dt(e:Ed):Bool:=decide (40<ln e.text)||decide (17<ln e.gaps)||kW e.oleft e.oright e.olow e.ohigh||decide (50<ln e.lweight)
def pg(w:Vt)(e:Ed)(ga:Option VT)(gc:Nat):
  VJ prog 16 #[V5 (aE e (VV ga (ln e.gaps) gc))] w λr w'=>r=V0 (VX (dt e))/\VS w.heap.size w w':=by
 have HB0:=Vs (show VS w.heap.size w (w.alloc (.cells (aE e (VV ga (ln e.gaps) gc)) 68)) from(Below.refl _ _).alloc (Vu _) _);by_cases h1:40<ln e.text
 ·have HR:=Vs (show dt e=VD by unfold dt;simp[h1]);go_enter func16,ntmps16;go_wp2;go_ret;exact⟨We,HB0.o⟩
 by_cases h2:17<ln e.gaps
 ·have HR:=Vs (show dt e=VD by unfold dt;simp[h2]);go_enter func16,ntmps16;go_wp2;go_ret;exact⟨We,HB0.o⟩
 cases h3:kW e.oleft e.oright e.olow e.ohigh
 ·have HR:=Vs (show dt e=(decide (40<(ln e.text:Int))||decide (17<(ln e.gaps:Int))||decide (50<ln e.lweight)) by unfold dt;rw[h3,Bool.eq_iff_iff];simp;omega);go_enter func16,ntmps16;go_wp2_with(first
   |(go_at_call 38;go_must(refine(sw _ _ _ 57 e.oside e.oleft e.oright e.olow e.ohigh (bZ.RI w _ _ _)).mono ?_);rintro r W1 ⟨rfl,rfl⟩)
   |(go_at_call 39;go_must(refine(AI _ _ _ 64 e.lkind e.lside e.lweight (bZ.Uo w _ _ _ _)).mono ?_);rintro r W1 ⟨rfl,rfl⟩))
  go_ret;exact⟨We,(HB0.o.alloc Wa _).alloc Wf _⟩
 ·have HR:=Vs (show dt e=VD by unfold dt;simp[h3]);go_enter func16,ntmps16;go_wp2_with(go_at_call 38;go_must(refine(sw _ _ _ 57 e.oside e.oleft e.oright e.olow e.ohigh (bZ.RI w _ _ _)).mono ?_);rintro r W1 ⟨rfl,rfl⟩)
  go_ret;exact⟨We,HB0.o.alloc Wa _⟩
end
section
open Kp
def iC(t:Tl):dM t=if t.width<1\/2000<t.width\/t.length<1\/2000<t.length\/t.lap<0\/t.length<=t.lap\/t.tail<0\/1000<t.tail then 2 else 0:=by
 unfold dM aP;by_cases h:t.width<1\/2000<t.width\/t.length<1\/2000<t.length\/t.lap<0\/t.length<=t.lap\/t.tail<0\/1000<t.tail
 ·rw[if_pos h,if_neg];exact a0z
 ·rw[if_neg h,if_pos];exact a0z
def Al(t:Tl)(w:Vt):VJ prog 52 #[V5 (T9 t).toArray] w λe w'=>e=V0 (VZ VH (dM t))/\Ext w w':=by
 have E0:=Vs (show Ext w (w.alloc (.cells (T9 t).toArray 30)) from(Below.refl _ _).alloc (Vu _) _);by_cases h1:t.width<1
 ·have HR:=Vs (show dM t=2 by rw[iC,if_pos V7]);have d1:decide (t.width<1)=VD:=by rw[decide_eq_true_eq];exact h1
  exact a0A
 by_cases h2:2000<t.width
 ·have HR:=Vs (show dM t=2 by rw[iC,if_pos V7]);have d1:decide (t.width<1)=Vw:=WE;have d2:decide (2000<t.width)=VD:=by rw[decide_eq_true_eq];exact h2
  exact a0A
 by_cases h3:t.length<1
 ·have HR:=Vs (show dM t=2 by rw[iC,if_pos V7]);have d1:decide (t.width<1)=Vw:=WE;have d2:decide (2000<t.width)=Vw:=WM;have d3:decide (t.length<1)=VD:=by rw[decide_eq_true_eq];exact h3
  exact a0A
 by_cases h4:2000<t.length
 ·have HR:=Vs (show dM t=2 by rw[iC,if_pos V7]);have d1:decide (t.width<1)=Vw:=WE;have d2:decide (2000<t.width)=Vw:=WM;have d3:decide (t.length<1)=Vw:=WV;have d4:decide (2000<t.length)=VD:=by rw[decide_eq_true_eq];exact h4
  exact a0A
 by_cases h5:t.lap<0
 ·have HR:=Vs (show dM t=2 by rw[iC,if_pos V7]);have d1:decide (t.width<1)=Vw:=WE;have d2:decide (2000<t.width)=Vw:=WM;have d3:decide (t.length<1)=Vw:=WV;have d4:decide (2000<t.length)=Vw:=Xd;have d5:decide (t.lap<0)=VD:=by rw[decide_eq_true_eq];exact h5
  exact a0A
 by_cases h6:t.length<=t.lap
 ·have HR:=Vs (show dM t=2 by rw[iC,if_pos V7]);have d1:decide (t.width<1)=Vw:=WE;have d2:decide (2000<t.width)=Vw:=WM;have d3:decide (t.length<1)=Vw:=WV;have d4:decide (2000<t.length)=Vw:=Xd;have d5:decide (t.lap<0)=Vw:=Xu;have d6:decide (t.length<=t.lap)=VD:=by rw[decide_eq_true_eq];exact h6
  exact a0A
 by_cases h7:t.tail<0
 ·have HR:=Vs (show dM t=2 by rw[iC,if_pos V7]);have d1:decide (t.width<1)=Vw:=WE;have d2:decide (2000<t.width)=Vw:=WM;have d3:decide (t.length<1)=Vw:=WV;have d4:decide (2000<t.length)=Vw:=Xd;have d5:decide (t.lap<0)=Vw:=Xu;have d6:decide (t.length<=t.lap)=Vw:=by rw[decide_eq_false_iff_not];exact h6
  have d7:decide (t.tail<0)=VD:=by rw[decide_eq_true_eq];exact h7
  exact a0A
 by_cases h8:1000<t.tail
 ·have HR:=Vs (show dM t=2 by rw[iC,if_pos V7]);have d1:decide (t.width<1)=Vw:=WE;have d2:decide (2000<t.width)=Vw:=WM;have d3:decide (t.length<1)=Vw:=WV;have d4:decide (2000<t.length)=Vw:=Xd;have d5:decide (t.lap<0)=Vw:=Xu;have d6:decide (t.length<=t.lap)=Vw:=by rw[decide_eq_false_iff_not];exact h6
  have d7:decide (t.tail<0)=Vw:=by rw[decide_eq_false_iff_not];exact h7
  have d8:decide (1000<t.tail)=VD:=by rw[decide_eq_true_eq];exact h8
  exact a0A
 ·have HR:=Vs (show dM t=0 by rw[iC,if_neg V7]);have d1:decide (t.width<1)=Vw:=WE;have d2:decide (2000<t.width)=Vw:=WM;have d3:decide (t.length<1)=Vw:=WV;have d4:decide (2000<t.length)=Vw:=Xd;have d5:decide (t.lap<0)=Vw:=Xu;have d6:decide (t.length<=t.lap)=Vw:=by rw[decide_eq_false_iff_not];exact h6
  have d7:decide (t.tail<0)=Vw:=by rw[decide_eq_false_iff_not];exact h7
  have d8:decide (1000<t.tail)=Vw:=by rw[decide_eq_false_iff_not];exact h8
  exact a0A
end
section
open Kp
def kD(r:List Sd)(k:Nat):Bool:=(oW r k*oW r k+o6 r k*o6 r k !=1)||(lM r k==0)
def iz(r:List Sd):Bool:= !cz (kD r) (ln r)&&decide (4<=ln r)
def Bq(w:Vt)(A:Option VT)(cap:Nat)(r:List Sd)(h:bJ 7 w w.heap.size A cap (aD r))(hn:ln r<=1000000):
  VJ prog 106 #[VV A (ln r) cap] w λx w'=>x=V0 (VX (iz r))/\Ext w w':=by
 have h1:=h.1;have h2:=h.2.1;rw[VC] at h1;unfold VP at h2;have HL:=Vs (λ(W:Vt) (hx:Ext w W)=>((h.below hx).more hx.size:bJ 7 W W.heap.size A cap (aD r)));clear h;obtain⟨v,hv⟩:∃v,iz r=v:=⟨_,rfl⟩;rw[hv];have HV:=Vs hv;clear hv;go_enter func106,ntmps106;go_wp2;go_loopw [3] (λi wr=>∃k:Nat,i=VZ VH (k:Int)/\k<=ln r/\Ext w wr/\∀j,j<k->kD r j=Vw) (λi _=>((ln r:Int)-VN i).toNat)
 case atStart=>exact⟨0,rfl,V7,Below.refl _ _,λj h=>V7⟩
 case round=>
  obtain⟨k,rfl,hk,hX,hall⟩:=hrel;have HX:=Vs hX;have HA:=Vs hall;clear hall;by_cases hlt:k<ln r
  ·have KD:=Vs (xY wr A cap r (HL.o _ hX) k hlt);have KT:=Vs (λ(W:Vt) (hx:Ext w W)=>tY W A cap r (HL.o _ hx) hn k hlt);have HB:=Vs (show kD r k=((oW r k*oW r k+o6 r k*o6 r k !=1)||(lM r k==0)) from rfl);have HF:=Vs (λh:kD r k=VD=>show v=Vw by rw[<-HV.o];unfold iz;rw[dI hlt h];rfl);obtain⟨x1,x2⟩:=JT (VH.wrap ((aQ r k).x-(aq r k).x));obtain⟨y1,y2⟩:=JT (VH.wrap ((aQ r k).y-(aq r k).y));obtain⟨x,hx⟩:∃x,oW r k=x:=⟨_,rfl⟩;obtain⟨y,hy⟩:∃y,o6 r k=y:=⟨_,rfl⟩;change -1<=oW r k at x1;change oW r k<=1 at x2;change -1<=o6 r k at y1;change o6 r k<=1 at y2;rw[hx] at x1 x2 KD HB;rw[hy] at y1 y2 KD HB;clear hx hy hX;have sx:=UY x1 x2;have sy:=UY y1 y2;have w1:VH.wrap (x*x)=x*x:=VQ _ V7;have w2:VH.wrap (y*y)=y*y:=VQ _ V7;have w3:VH.wrap (x*x+y*y)=x*x+y*y:=VQ _ V7;obtain⟨b,hb⟩:∃b,(x*x+y*y !=1)=b:=⟨_,rfl⟩;obtain⟨t,ht⟩:∃t,lM r k=t:=⟨_,rfl⟩;rw[ht] at KT HB;obtain⟨c,hc⟩:∃c,(t==0)=c:=⟨_,rfl⟩;rw[hb,hc] at HB;clear ht;cases b with
   |true=>
    have hf:=HF.o HB.o;subst hf;go_wp2_with(go_at_call 170;go_must(refine KD.o.mono ?_);rintro e W1 ⟨rfl,hX1⟩;have HX1:=Vs (Ext.tr HX.o hX1);clear hX1)
    go_ret;exact⟨rfl,HX1.o⟩
   |false=>
    cases c with
    |true=>
     have hf:=HF.o HB.o;subst hf;go_wp2_with(first
      |(go_at_call 171;refine(KT.o _ HX1.o).mono ?_;rintro e W2 ⟨rfl,hX2⟩;have HX2:=Vs (Ext.tr HX1.o hX2);clear hX2)
      |(go_at_call 170;go_must(refine KD.o.mono ?_);rintro e W1 ⟨rfl,hX1⟩;have HX1:=Vs (Ext.tr HX.o hX1);clear hX1))
     go_ret;exact⟨rfl,HX2.o⟩
    |false=>
     have HN:=Vs HB.o;go_wp2_with(first
      |(go_at_call 171;refine(KT.o _ HX1.o).mono ?_;rintro e W2 ⟨rfl,hX2⟩;have HX2:=Vs (Ext.tr HX1.o hX2);clear hX2)
      |(go_at_call 170;go_must(refine KD.o.mono ?_);rintro e W1 ⟨rfl,hX1⟩;have HX1:=Vs (Ext.tr HX.o hX1);clear hX1))
     exact⟨⟨k+1,by go_num,V7,HX2.o,λj hj=>by
      rcases Nat.lt_succ_iff_lt_or_eq.1 hj with h|rfl
      ·exact HA.o j h
      ·exact HN.o⟩,Wc⟩
  ·obtain rfl:k=ln r:=V7;have hq:v=decide (4<=ln r):=by rw[<-HV.o];unfold iz;rw[bh HA.o];simp
   have t1:decide ((ln r:Int)>=4)=v:=by rw[hq];congr 1;simp only[ge_iff_le,eq_iff_iff];omega
   clear hq;exact ZR
end
section
open Kp
def mI(rs:List (List Sd))(k m:Nat):Bool:= !(m==k)&&(nf (lj (rs.getD m []) (aq (rs.getD k []) 0).x (aq (rs.getD k []) 0).y) (rs.getD m []).length !=(m==0))
def nU(rs:List (List Sd))(k:Nat):Bool:=decide (1<=k)&&(decide (0<=lK (rs.getD k []) (rs.getD k []).length)||cz (mI rs k) (ln rs))
def ux(rs:List (List Sd)):Bool:=decide (0<lK (rs.getD 0 []) (rs.getD 0 []).length)&& !cz (nU rs) (ln rs)
def Pj(rs:List (List Sd)):∀j,j<1->nU rs j=Vw:=λj h=>by
 obtain rfl:j=0:=V7;simp[nU]
theorem QP(h:p:=by
  have HU:=Vs (jh (P:=λj=>mI rs k j=Vw) A2.o (HOB.o.trans rfl));go_wp2_with fail
  go_region_held3(λw'=>Ext wr w') (first|exact hx1|exact Ext.dr wr) (first|(go_at_call 174;go_must(refine(KIm.o _ (Ext.dr wr)).mono ?_);rintro e W3 ⟨rfl,hX4⟩;have hx1:Ext wr W3:=(Ext.dr wr).tr hX4;clear hX4))
  go_wp2
  go_round
  case rel=>exact⟨m+1,by go_num,V7,HX3.o.tr hx1,HU.o⟩
  case measure=>simp[VN];omega):p:=h
theorem M1(h:p:=by
  have hvf:=HBAD.o (by rw[HOFF.o];exact dI hlt2 (HOB.o.trans rfl));subst hvf;go_wp2_with fail
  go_region_held3(λw'=>Ext wr w') (first|exact hx1|exact Ext.dr wr) (first|(go_at_call 174;go_must(refine(KIm.o _ (Ext.dr wr)).mono ?_);rintro e W3 ⟨rfl,hX4⟩;have hx1:Ext wr W3:=(Ext.dr wr).tr hX4;clear hX4))
  go_wp2;go_ret;exact⟨rfl,HX3.o.tr hx1⟩):p:=h
def C6(w:Vt)(A:Option VT)(cap:Nat)(rs:List (List Sd))(hr:fj w w.heap.size A cap rs)(hp:0<ln rs)(hne:∀r∈rs,r≠[])(hlen:∀k,(rs.getD k []).length<=1000000):
  VJ prog 108 #[VV A (ln rs) cap] w λx w'=>x=V0 (VX (ux rs))/\Ext w w':=by
 have h1:=hr.1;have h2:=hr.2.1;unfold VP at h2;obtain⟨b,off,f,rfl,hb,hf⟩:=FK hr hp;have HF:=Vs hf;have KT:=Vs (λ(W:Vt) (h:Ext w W) (k:Nat) (hk:k<ln rs)=>Fb W (f k).1 (f k).2 (rs.getD k []) (hf W h k hk).2 (hlen k));have KI:=Vs (λ(W:Vt) (h:Ext w W) (k:Nat) (hk:k<ln rs)=>CH W (f k).1 (f k).2 (rs.getD k []) (hf W h k hk).2);have HNE:=Vs hne;have c0:=(hf w (Below.refl _ _) 0 hp).1;rw[Nat.add_zero] at c0;have hp':(0:Int)<(ln rs:Int):=V7;clear hr hf hne hlen;obtain⟨v,hv⟩:∃v,ux rs=v:=⟨_,rfl⟩;rw[hv];have hv0:v=(decide (0<lK (rs.getD 0 []) (rs.getD 0 []).length)&& !cz (nU rs) (ln rs)):=hv.symm;clear hv;have KT0:=KT.o w (Below.refl _ _) 0 hp;obtain⟨z0,hz0⟩:∃z,lK (rs.getD 0 []) (rs.getD 0 []).length=z:=⟨_,rfl⟩;rw[hz0] at hv0 KT0;obtain⟨n0,hn0⟩:∃n,(rs.getD 0 []).length=n:=⟨_,rfl⟩;rw[hn0] at c0 KT0;have KT0:=Vs KT0;clear hn0 hz0;by_cases hz:0<z0
 case neg=>
  have t0:decide (z0<=0)=VD:=decide_eq_true V7;have hvf:v=Vw:=by rw[hv0,decide_eq_false hz];rfl
  subst hvf;clear hv0 hz;go_enter func108,ntmps108;go_wp2_with(go_at_call 173;go_must(refine KT0.o.mono ?_);rintro e W1 ⟨rfl,hX1⟩;have HX1:=Vs hX1;clear hX1)
  go_ret;exact⟨rfl,HX1.o⟩
 have t0:decide (z0<=0)=Vw:=decide_eq_false V7;rw[decide_eq_true hz,Bool.true_and] at hv0;have HV:=Vs hv0;clear hv0 hz;go_enter func108,ntmps108;go_wp2_with(go_at_call 173;go_must(refine KT0.o.mono ?_);rintro e W1 ⟨rfl,hX1⟩;have HX1:=Vs hX1;clear hX1)
 clear KT0 c0;go_loopw [3] (λi wr=>∃k:Nat,1<=k/\i=VZ VH (k:Int)/\k<=ln rs/\Ext w wr/\∀j,j<k->nU rs j=Vw) (λi _=>((ln rs:Int)-VN i).toNat)
 case atStart=>exact⟨1,V7,rfl,V7,HX1.o,Pj rs⟩
 case round=>
  obtain⟨k,hk0,rfl,hk,hX,hA1⟩:=hrel;have HX:=Vs hX;have A1:=Vs hA1;clear hA1;by_cases hlt:k<ln rs
  ·have c0:=(HF.o wr hX k hlt).1;have KTk:=KT.o wr hX k hlt;have hrp:=M9 HNE.o hlt;have hoff:nU rs k=(decide (0<=lK (rs.getD k []) (rs.getD k []).length)||cz (mI rs k) (ln rs)):=by unfold nU;rw[decide_eq_true hk0,Bool.true_and]
   have HBAD:=Vs (λh:nU rs k=VD=>show v=Vw by rw[HV.o,dI hlt h];rfl);have HOK:=Vs (λh:nU rs k=Vw=>jh (P:=λj=>nU rs j=Vw) A1.o h);obtain⟨z,hz⟩:∃z,lK (rs.getD k []) (rs.getD k []).length=z:=⟨_,rfl⟩;rw[hz] at hoff KTk;obtain⟨n0,hn0⟩:∃n,(rs.getD k []).length=n:=⟨_,rfl⟩;rw[hn0] at c0 KTk hrp;obtain⟨bk,ok,hA,_⟩:=fe (HF.o _ hX k hlt).2 (by rw[hn0];exact hrp);rw[hA] at c0 KTk;have HA:=Vs hA;clear hA;have KTk:=Vs KTk;have HN0:=Vs hn0;clear hX hn0 hz;by_cases hz:0<=z
   case pos=>
    have t1:decide (z>=0)=VD:=decide_eq_true hz;have hvf:=HBAD.o (by rw[hoff,decide_eq_true hz];rfl);subst hvf;clear hoff hz;go_wp2_with(go_at_call 173;go_must(refine KTk.o.mono ?_);rintro e W2 ⟨rfl,hX2⟩;have HX2:=Vs (Ext.tr HX.o hX2);clear hX2)
    go_ret;exact⟨rfl,HX2.o⟩
   have t1:decide (z>=0)=Vw:=decide_eq_false hz;rw[decide_eq_false hz,Bool.false_or] at hoff;have HOFF:=Vs hoff;clear hoff hz;go_wp2_with(go_at_call 173;go_must(refine KTk.o.mono ?_);rintro e W2 ⟨rfl,hX2⟩;have HX2:=Vs (Ext.tr HX.o hX2);clear hX2)
   clear c0 KTk;go_loopw [4] (λi wr=>∃m:Nat,i=VZ VH (m:Int)/\m<=ln rs/\Ext w wr/\∀j,j<m->mI rs k j=Vw) (λi _=>((ln rs:Int)-VN i).toNat)
   case atStart=>exact⟨0,rfl,V7,HX2.o,λj h=>V7⟩
   case round=>
    obtain⟨m,rfl,hm,hX3,hA2⟩:=hrel;have HX3:=Vs hX3;have A2:=Vs hA2;clear hA2;by_cases hlt2:m<ln rs
    ·by_cases hmk:m=k
     ·have t1:((m:Int) !=(k:Int))=Vw:=by rw[hmk];simp
      have HU:=Vs (jh (P:=λj=>mI rs k j=Vw) A2.o (by unfold mI;rw[hmk];simp));clear hX3;go_wp2_with fail
      go_quiet (fail)
      go_wp2;exact⟨⟨m+1,by go_num,V7,below_drewN HX3.o _,HU.o⟩,Wc⟩
     ·have t1:((m:Int) !=(k:Int))=VD:=WX;obtain⟨bk2,ok2,hA,hbk,hck⟩:=fe (HF.o _ hX3 k hlt).2 (by rw[HN0.o];exact hrp);obtain⟨rfl,rfl⟩:bk=bk2/\ok=ok2:=by have:=HA.o.symm.trans hA;injection this with this;injection this with h1 h2;exact⟨h1,h2⟩
      clear hA;obtain⟨x0,x1,_⟩:=hck 0 (by rw[HN0.o];exact hrp);rw[Nat.zero_mul,Nat.add_zero] at x0 x1;have cm:=λw' (h:Ext wr w')=>(HF.o w' (hX3.tr h) m hlt2).1
      have ck:=λw' (h:Ext wr w')=>(HF.o w' (hX3.tr h) k hlt).1
      have KIm:=λW (h:Ext wr W)=>KI.o W (hX3.tr h) m hlt2 (aq (rs.getD k []) 0).x (aq (rs.getD k []) 0).y
      have hob:mI rs k m=(nf (lj (rs.getD m []) (aq (rs.getD k []) 0).x (aq (rs.getD k []) 0).y) (rs.getD m []).length !=(m==0)):=by unfold mI;rw[beq_eq_false_iff_ne.2 hmk];rfl
      obtain⟨sx,hsx⟩:∃x,(aq (rs.getD k []) 0).x=x:=⟨_,rfl⟩;obtain⟨sy,hsy⟩:∃x,(aq (rs.getD k []) 0).y=x:=⟨_,rfl⟩;rw[hsx] at x0;rw[hsy] at x1;simp only[hsx,hsy] at KIm hob;obtain⟨q,hq⟩:∃q,nf (lj (rs.getD m []) sx sy) (rs.getD m []).length=q:=⟨_,rfl⟩;simp only[hq] at KIm hob;obtain⟨nm,hnm⟩:∃n,(rs.getD m []).length=n:=⟨_,rfl⟩;simp only[hnm] at cm KIm;simp only[HN0.o,HA.o] at ck;have KIm:=Vs KIm;have cx:=λw' (h:Ext wr w')=>(h.cell (p:=⟨bk,ok,Vx⟩) hbk).trans x0
      have cy:=λw' (h:Ext wr w')=>(h.cell (p:=⟨bk,ok+1,Vx⟩) hbk).trans x1
      have hrp':(0:Int)<(n0:Int):=V7;obtain⟨e,he⟩:∃e,(m==0)=e:=⟨_,rfl⟩;rw[he] at hob;have te:((m:Int)==0)=e:=by rw[<-he,Bool.eq_iff_iff,beq_iff_eq,beq_iff_eq];omega
      have HOB:=Vs hob;clear hX3 hck x0 x1 hnm hq hsx hsy he hob;cases q<;>cases e
      ·exact QP
      ·exact M1
      ·exact M1
      ·exact QP
    ·obtain rfl:m=ln rs:=V7;have HK:=Vs (HOK.o (by rw[HOFF.o];exact bh A2.o));go_wp2;exact⟨⟨k+1,V7,by go_num,V7,HX3.o,HK.o⟩,Wc⟩
  ·obtain rfl:k=ln rs:=V7;have hvt:v=VD:=by rw[HV.o,bh A1.o];rfl
   subst hvt;exact ZR
end
section
open Kp
open Classical in
noncomputable def xB(rs:List (List Sd)):Bool:=decide (∃k m q u,k<ln rs/\m<(rs.getD k []).length/\k<=q/\q<ln rs/\u<(rs.getD q []).length/\mo rs k m q u=VD)
open Classical in
def SS{rs:List (List Sd)}{b:Bool}(h:Ri rs b):b=xB rs:=by
 unfold xB;cases b
 ·symm
  rw[decide_eq_false_iff_not];rintro⟨k,m,q,u,hk,hm,hq,hl,hu,hh⟩;have:=h.2 rfl k hk m hm q hq hl u hu;rw[this] at hh;cases hh
 ·symm
  rw[decide_eq_true_eq];exact h.1 rfl
noncomputable def pG(rs:List (List Sd)):Int:=
 if rs.any (·.isEmpty)||rs.isEmpty then 5
 else if 24<ln rs.flatten then 4
 else if rs.flatten.any λs=> !aJ s then 2
 else if rs.any λr=> !iz r then 14
 else if xB rs then 15
 else if !ux rs|| !qJ rs then 14
 else 0
theorem Un{rs:List (List Sd)}(h:rs.getD k []=[])(hk:k<ln rs):pG rs=5:=by
 unfold pG;have:rs.any (·.isEmpty)=VD:=by
  rw[List.any_eq_true];refine⟨rs[k],List.getElem_mem hk,?_⟩;rw[Vv,VA hk] at h;simp only[Option.getD_some] at h;rw[h];rfl
 rw[this];rfl
def SF{rs:List (List Sd)}(hne:∀r∈rs,r≠[])(hp:0<ln rs):pG rs=(if 24<ln rs.flatten then 4 else if rs.flatten.any (λs=> !aJ s) then 2 else if rs.any (λr=> !iz r) then 14 else if xB rs then 15 else if !ux rs|| !qJ rs then 14 else 0):=by
 unfold pG;have h1:rs.any (·.isEmpty)=Vw:=by
  rw[List.any_eq_false];intro r hr h;exact hne r hr (List.isEmpty_iff.1 h)
 have h2:rs.isEmpty=Vw:=by cases rs with
  |nil=>simp at hp
  |cons=>rfl
 rw[h1,h2];rfl
theorem Gp{r:List Sd}(h:i<ln r):aq r i∈r:=by
 unfold aq;rw[Vv,VA h];exact List.getElem_mem h
theorem od{rs:List (List Sd)}(h:k<ln rs):rs.getD k []∈rs:=by
 rw[Vv,VA h];exact List.getElem_mem h
def LJ{rs:List (List Sd)}{k m:Nat}(hk:k<ln rs)(hm:m<(rs.getD k []).length)(h:aJ (aq (rs.getD k []) m)=Vw):(rs.flatten.any λs=> !aJ s)=VD:=by
 rw[List.any_eq_true];exact⟨_,List.mem_flatten.2 ⟨_,od hk,Gp hm⟩,by rw[h];rfl⟩
def Bk{rs:List (List Sd)}(h:∀j,j<ln rs->∀i,i<(rs.getD j []).length->aJ (aq (rs.getD j []) i)=VD):(rs.flatten.any λs=> !aJ s)=Vw:=by
 rw[List.any_eq_false];intro s hs;obtain⟨r,hr,hsr⟩:=List.mem_flatten.1 hs;obtain⟨j,hj,rfl⟩:=List.mem_iff_getElem.1 hr;obtain⟨i,hi,rfl⟩:=List.mem_iff_getElem.1 hsr;have:=h j hj i (by rw[Vv,VA hj];exact hi);unfold aq at this;rw[Vv,Vv,VA hj] at this;simp only[Option.getD_some] at this;rw[VA hi] at this;exact a0Q
theorem MV{rs:List (List Sd)}(hk:k<ln rs)(h:iz (rs.getD k [])=Vw):(rs.any λr=> !iz r)=VD:=by
 rw[List.any_eq_true];exact⟨_,od hk,by rw[h];rfl⟩
def CY{rs:List (List Sd)}(h:∀j,j<ln rs->iz (rs.getD j [])=VD):(rs.any λr=> !iz r)=Vw:=by
 rw[List.any_eq_false];intro r hr;obtain⟨j,hj,rfl⟩:=List.mem_iff_getElem.1 hr;have:=h j hj;rw[Vv,VA hj] at this;exact a0Q
def uK(w:Vt)(A:Option VT)(cap:Nat)(rs:List (List Sd))(hr:fj w w.heap.size A cap rs)(hfl:ln rs.flatten<=1000000):
  VJ prog 46 #[V5 #[VV A (ln rs) cap]] w λx w'=>x=V0 (VZ VH (pG rs))/\Ext w w':=by
 have h1:=hr.1;have h2:=hr.2.1;unfold VP at h2;have E0:=Vs (show Ext w (w.alloc (.cells #[VV A (ln rs) cap] 24)) from(Below.refl _ _).alloc (Vu _) _);have R0:=Vs (Bx.new w 24 (VV A (ln rs) cap));obtain⟨v,hv⟩:∃v,pG rs=v:=⟨_,rfl⟩;rw[hv];have HV:=Vs hv;clear hv;by_cases hp:ln rs=0
 ·rw[hp] at E0 R0;have c0:=R0.o.cell;rw[hp];clear hr;go_enter func46,ntmps46;have hv:v=5:=by rw[<-HV.o,List.length_eq_zero_iff.1 hp];rfl
  subst hv;go_wp2;go_ret;exact⟨rfl,E0.o⟩
 have hp:0<ln rs:=V7;have hr0:=(hr.below E0.o).more E0.o.size;obtain⟨b,off,f,hA,hb,hf⟩:=FK hr0 hp;have HF:=Vs hf;have HLN:=Vs (nR hfl);have KC:=Vs (λ(W:Vt) (h:Ext (w.alloc (.cells #[VV A (ln rs) cap] 24)) W)=>zU W A cap rs ((hr0.below h).more h.size) hp (nR hfl));have KP:=Vs (λ(hne:∀r∈rs,r≠[]) (W:Vt) (h:Ext (w.alloc (.cells #[VV A (ln rs) cap] 24)) W)=>C6 W A cap rs ((hr0.below h).more h.size) hp hne (nR hfl));have KR:=Vs (λ(W:Vt) (h:Ext (w.alloc (.cells #[VV A (ln rs) cap] 24)) W)=>AZ W A cap rs ((hr0.below h).more h.size) hp (nR hfl));have KS:=Vs (λ(W:Vt) (h:Ext (w.alloc (.cells #[VV A (ln rs) cap] 24)) W) (k:Nat) (hk:k<ln rs)=>Bq W (f k).1 (f k).2 (rs.getD k []) (hf W h k hk).2 (nR hfl k));have HFL:=Vs hfl;subst hA;clear hr hr0 hf hfl;go_enter func46,ntmps46;have c0:=R0.o.cell;have hpne:((ln rs:Int)==0)=Vw:=beq_eq_false_iff_ne.2 V7;have hpn:¬rs=[]:=by intro h;rw[h] at hp;simp at hp
 go_upto_block 0 with(fail)
 obtain⟨w0,hw0⟩:∃w0,w.alloc (.cells #[VV (Vz ⟨b,off,Vx⟩) (ln rs) cap] 24)=w0:=⟨_,rfl⟩;simp only[hw0] at E0 R0 HF KC KP KR KS hb⊢;clear hw0 c0;have hB:=λW (h:Ext w0 W)=>(R0.o.below h R0.o.lt).cell
 have HB:=Vs hB;clear hB;go_cut [3] (λs wx=>s=VZ VH (ln rs.flatten:Int)/\(∀r∈rs,r≠[])/\Ext w0 wx)
 case first =>
  go_wp2_with fail
  go_loopw [3,4] (λs i wr=>∃k:Nat,k<=ln rs/\i=VZ VH (k:Int)/\s=VZ VH ((rs.take k).flatten.length:Int)/\Ext w0 wr/\∀m,m<k->rs.getD m []≠[]) (λ_ i _=>((ln rs:Int)-VN i).toNat)
  case atStart=>exact⟨0,V7,rfl,Wa,Below.refl _ _,λm hm=>V7⟩
  case round=>
   obtain⟨k,hk,rfl,rfl,hX,hall⟩:=hrel;have HX:=Vs hX;have HA:=Vs hall;have c0:=HB.o _ hX;by_cases hlt:k<ln rs
   ·have c1:=(HF.o _ hX k hlt).1;have hq:=dE hlt;have hle:=eG rs (k+1);have hq2:((rs.take (k+1)).flatten.length:Int)=((rs.take k).flatten.length:Int)+((rs.getD k []).length:Int):=by rw[hq];simp
    obtain⟨m,hm⟩:∃m,(rs.take k).flatten.length=m:=⟨_,rfl⟩;obtain⟨d,hd⟩:∃d,(rs.getD k []).length=d:=⟨_,rfl⟩;rw[hd] at c1;have hs:m+d<=1000000:=by have:=HFL.o;rw[hm,hd] at hq2;omega
    rw[hm];have HQ:=Vs hq2;have HM:=Vs hm;have HD:=Vs hd;clear hq hq2 hm hd hle hX hall;by_cases h0:d=0
    ·subst h0;have hv:=Un (List.length_eq_zero_iff.1 HD.o) hlt;rw[HV.o] at hv;subst hv;exact a0H
    ·have tz:((d:Int)==0)=Vw:=Wj;have HN:=Vs (show∀j,j<k+1->rs.getD j []≠[] fromλj hj=>by
      by_cases hjk:j=k
      ·rw[hjk];intro e;have hz:=HD.o;rw[e] at hz;exact h0 hz.symm
      ·exact HA.o j V7)
     clear h0;go_wp2
     go_round
     case rel=>exact⟨k+1,V7,by go_num,by rw[HQ.o,HM.o,HD.o],HX.o,HN.o⟩
     case measure=>simp[VN];omega
   ·obtain rfl:k=ln rs:=V7;have hne:∀r∈rs,r≠[]:=by
     intro r hr;obtain⟨i,hi,rfl⟩:=List.mem_iff_getElem.1 hr;have:=HA.o i hi;rw[Vv,VA hi] at this;exact this
    have HNE:=Vs hne;rw[List.take_length];obtain⟨m,hm⟩:∃m,ln rs.flatten=m:=⟨_,rfl⟩;rw[hm];have HM:=Vs hm;clear hm hX hall hne;go_wp2_with fail
    go_meet;exact⟨by rw[HM.o],HNE.o,HX.o⟩
 case rest=>
  obtain⟨rfl,hne,hX⟩:=hcut;have HX:=Vs hX;have KP:=Vs (KP.o hne);have hv1:=HV.o;rw[SF hne hp] at hv1;obtain⟨m,hm⟩:∃m,ln rs.flatten=m:=⟨_,rfl⟩;rw[hm] at hv1;rw[hm];clear hX hm;by_cases h24:24<m
  ·have t4:decide ((m:Int)>24)=VD:=decide_eq_true V7;rw[if_pos h24] at hv1;subst hv1;clear hne;exact a0H
  have t4:decide ((m:Int)>24)=Vw:=decide_eq_false V7;rw[if_neg h24] at hv1;have HV1:=Vs hv1;have HNE:=Vs hne;clear hne hv1
  go_upto_block 2 with(fail)
  go_cut [] (λwx=>(∀j,j<ln rs->∀i,i<(rs.getD j []).length->aJ (aq (rs.getD j []) i)=VD)/\Ext w0 wx)
  case first =>
   go_wp2_with fail
   go_loopw [5] (λi wr=>∃k:Nat,i=VZ VH (k:Int)/\k<=ln rs/\Ext w0 wr/\∀j,j<k->∀i,i<(rs.getD j []).length->aJ (aq (rs.getD j []) i)=VD) (λi _=>((ln rs:Int)-VN i).toNat)
   case atStart=>exact⟨0,rfl,V7,HX.o,λj h=>V7⟩
   case round=>
    obtain⟨k,rfl,hk,hX2,hA1⟩:=hrel;have HX2:=Vs hX2;have A1:=Vs hA1;clear hA1;have c0:=HB.o _ hX2;by_cases hlt:k<ln rs
    ·obtain⟨n,hn⟩:∃n,(rs.getD k []).length=n:=⟨_,rfl⟩;have HN:=Vs hn;have hn6:n<=1000000:=by rw[<-hn];exact HLN.o k
     clear hX2 hn;go_wp2_with fail
     clear c0;go_loopw [6] (λi wr=>∃m:Nat,i=VZ VH (m:Int)/\m<=n/\Ext w0 wr/\∀i,i<m->aJ (aq (rs.getD k []) i)=VD) (λi _=>((n:Int)-VN i).toNat)
     case atStart=>exact⟨0,rfl,V7,HX2.o,λj h=>V7⟩
     case round=>
      obtain⟨m,rfl,hm,hX3,hA2⟩:=hrel;have HX3:=Vs hX3;have A2:=Vs hA2;clear hA2;have c0:=HB.o _ hX3;have c1:=(HF.o _ hX3 k hlt).1;rw[HN.o] at c1;by_cases hlt2:m<n
      ·obtain⟨bk,ok,hA,hbk,hck⟩:=fe (HF.o _ hX3 k hlt).2 (by rw[HN.o];omega);obtain⟨y0,y1,y2,y3,y4,y5,y6⟩:=hck m (by rw[HN.o];exact hlt2);rw[hA] at c1;have hb2:=λh:aJ (aq (rs.getD k []) m)=Vw=>(if_pos (LJ hlt (by rw[HN.o];exact hlt2) h)).symm.trans HV1.o
       have hok:=λh:aJ (aq (rs.getD k []) m)=VD=>jh (P:=λi=>aJ (aq (rs.getD k []) i)=VD) A2.o h
       obtain⟨q,hq⟩:∃q,aJ (aq (rs.getD k []) m)=q:=⟨_,rfl⟩;rw[hq] at hb2 hok;have HB2:=Vs hb2;have HOK:=Vs hok;clear hb2 hok;obtain⟨s,hs⟩:∃s,aq (rs.getD k []) m=s:=⟨_,rfl⟩;rw[hs] at hq;have KRG:=DH s;rw[hq] at KRG;rw[hs] at y0 y1 y2 y3 y4 y5 y6;obtain⟨sx,sy,sr,su,sg,sp,so⟩:=s;dsimp only at y0 y1 y2 y3 y4 y5 y6;have KRG:=Vs KRG;clear hX3 hA hbk hck hs hq;cases q
       ·have hv:=HB2.o rfl;subst hv;go_wp2_with(go_at_call 105;go_must(refine(KRG.o _).mono ?_);rintro e W1 ⟨rfl,hX4⟩;have HX4:=Vs (HX3.o.tr hX4);clear hX4)
        exact a0R
       ·have hok:=HOK.o rfl;have HOK2:=Vs hok;clear hok;go_wp2_with(go_at_call 105;go_must(refine(KRG.o _).mono ?_);rintro e W1 ⟨rfl,hX4⟩;have HX4:=Vs (HX3.o.tr hX4);clear hX4)
        exact⟨⟨m+1,by go_num,V7,HX4.o,HOK2.o⟩,Wc⟩
      ·obtain rfl:m=n:=V7;have HK:=Vs (jh (P:=λj=>∀i,i<(rs.getD j []).length->aJ (aq (rs.getD j []) i)=VD) A1.o (λi hi=>A2.o i (by rw[<-HN.o];exact hi)));clear hX3;go_wp2;exact⟨⟨k+1,by go_num,V7,HX3.o,HK.o⟩,Wc⟩
    ·obtain rfl:k=ln rs:=V7;clear hX2;go_wp2_with fail
     go_meet;exact⟨A1.o,HX2.o⟩
  case rest=>
   obtain⟨hrg,hcut⟩:=hcut;have HX:=Vs hcut;have hv2:=HV1.o;rw[Bk hrg] at hv2;have HV2:=Vs hv2;clear hcut hrg hv2
   go_upto_block 6 with(fail)
   go_cut [] (λwx=>(∀j,j<ln rs->iz (rs.getD j [])=VD)/\Ext w0 wx)
   case first =>
    go_wp2_with fail
    go_loopw [7] (λi wr=>∃k:Nat,i=VZ VH (k:Int)/\k<=ln rs/\Ext w0 wr/\∀j,j<k->iz (rs.getD j [])=VD) (λi _=>((ln rs:Int)-VN i).toNat)
    case atStart=>exact⟨0,rfl,V7,HX.o,λj h=>V7⟩
    case round=>
     obtain⟨k,rfl,hk,hX3,hA1⟩:=hrel;have HX3:=Vs hX3;have A1:=Vs hA1;clear hA1;have c0:=HB.o _ hX3;by_cases hlt:k<ln rs
     ·have c1:=(HF.o _ hX3 k hlt).1;have KSk:=Vs (KS.o _ hX3 k hlt);have hb2:=λh:iz (rs.getD k [])=Vw=>(if_pos (MV hlt h)).symm.trans HV2.o
      have hok:=λh:iz (rs.getD k [])=VD=>jh (P:=λj=>iz (rs.getD j [])=VD) A1.o h
      obtain⟨q,hq⟩:∃q,iz (rs.getD k [])=q:=⟨_,rfl⟩;rw[hq] at hb2 hok KSk;have HB2:=Vs hb2;have HOK:=Vs hok;clear hb2 hok hq;obtain⟨ring,hring⟩:∃r,rs.getD k []=r:=⟨_,rfl⟩;obtain⟨fa,hfa⟩:∃x,(f k).1=x:=⟨_,rfl⟩;obtain⟨fc,hfc⟩:∃x,(f k).2=x:=⟨_,rfl⟩;rw[hring,hfa,hfc] at c1 KSk;clear hX3 hring hfa hfc;cases q
      ·have hv:=HB2.o rfl;subst hv;go_wp2_with(go_at_call 106;go_must(refine KSk.o.mono ?_);rintro e W1 ⟨rfl,hX4⟩;have HX4:=Vs (HX3.o.tr hX4);clear hX4)
       exact a0R
      ·have hok:=HOK.o rfl;have HOK2:=Vs hok;clear hok;go_wp2_with(go_at_call 106;go_must(refine KSk.o.mono ?_);rintro e W1 ⟨rfl,hX4⟩;have HX4:=Vs (HX3.o.tr hX4);clear hX4)
       exact⟨⟨k+1,by go_num,V7,HX4.o,HOK2.o⟩,Wc⟩
     ·obtain rfl:k=ln rs:=V7;clear hX3;go_wp2_with fail
      go_meet;exact⟨A1.o,HX3.o⟩
   case rest=>
    obtain⟨hsh,hcut⟩:=hcut;have HX:=Vs hcut;have c0:=HB.o _ hcut;have hv3:=HV2.o;rw[CY hsh] at hv3;simp only[Bool.false_eq_true,if_false] at hv3;have HV3:=Vs hv3;clear hcut hsh hv3;go_wp2_with(go_at_call 107;fail)
    refine(KC.o _ HX.o).mono ?_;rintro e W1 ⟨⟨q,rfl,hq⟩,hX4⟩;have HX4:=Vs (HX.o.tr hX4);have c4:=HB.o _ HX4.o;have hv4:=HV3.o;rw[<-SS hq.o] at hv4;clear hX4 c0 hq;obtain⟨q2,hq2⟩:∃q,ux rs=q:=⟨_,rfl⟩;obtain⟨q3,hq3⟩:∃q,qJ rs=q:=⟨_,rfl⟩;rw[hq2,hq3] at hv4;rw[hq2] at KP;rw[hq3] at KR;clear hq2 hq3;cases q
    ·cases q2
     ·obtain rfl:(14:Int)=v:=hv4;go_wp2_with(go_at_call 108;go_loud (refine(KP.o _ HX4.o).mono ?_);rintro e W2 ⟨rfl,hX5⟩;have HX5:=Vs (HX4.o.tr hX5);have c5:=HB.o _ HX5.o;clear hX5 c4)
      go_ret;exact⟨rfl,E0.o.tr HX5.o⟩
     ·cases q3
      ·obtain rfl:(14:Int)=v:=hv4;exact a0S
      ·obtain rfl:(0:Int)=v:=hv4;exact a0S
    ·obtain rfl:(15:Int)=v:=hv4;go_wp2_with fail
     exact a0R
end
section
open Kp
def Ju(r:List Sd):Prop:=∀i,i<ln r->aJ (aq r i)=VD
theorem Jn{r:List Sd}(h:Ju r)(hi:i<ln r):0<=(aq r i).x/\(aq r i).x<=65536/\0<=(aq r i).y/\(aq r i).y<=65536:=by
 have:=h i hi;unfold aJ aP at this;simp only[Bool.and_eq_true,decide_eq_true_eq] at this;omega
theorem PZ{r:List Sd}(hi:i<ln r):aQ r ((i+ln r-1)%ln r)=aq r i:=by
 rw[je]
 congr 1
 rcases Nat.eq_zero_or_pos i with rfl|h
 ·rw[Nat.zero_add,Nat.mod_eq_of_lt (by omega:ln r-1<ln r),show ln r-1+1=ln r by omega,Nat.mod_self]
 ·rw[show i+ln r-1=(i-1)+ln r by omega,Nat.add_mod_right,Nat.mod_eq_of_lt (by omega:i-1<ln r),show i-1+1=i by omega,Nat.mod_eq_of_lt hi]
def DC{a b:Int}(h1:0<=a)(h2:a<=65536)(h3:0<=b)(h4:b<=65536):VH.wrap (a-b)=a-b:=VQ _ V7
theorem zJ{r:List Sd}(h:Ju r)(hi:i<ln r):oW r i=pK (mT r i):=by
 unfold oW mT;exact a0T
theorem Ap{r:List Sd}(h:Ju r)(hi:i<ln r):o6 r i=pK (pF r i):=by
 unfold o6 pF;exact a0T
theorem tK{r:List Sd}(hi:i<ln r):mT r ((i+ln r-1)%ln r)=uX r i/\pF r ((i+ln r-1)%ln r)=zD r i:=by
 unfold mT pF uX zD;rw[PZ hi,yV];exact⟨rfl,rfl⟩
def iK(n:Int):(pK n=0↔n=0)/\(pK n=1↔0<n)/\(pK n= -1↔n<0):=by unfold pK;split <;>(try split)<;>omega
def sj(n:Int):(pK n=0/\n=0)\/(pK n=1/\0<n)\/(pK n= -1/\n<0):=by unfold pK;split <;>(try split)<;>omega
theorem Gd{r:List Sd}(h:Ju r)(hi:i<ln r):lM r i=pK (uX r i)*pK (pF r i)-pK (zD r i)*pK (mT r i):=by
 have hp:=Nat.mod_lt (i+ln r-1) (by omega:ln r>0);unfold lM;rw[zJ h hp,Ap h hp,zJ h hi,Ap h hi,(tK hi).1,(tK hi).2];rcases sj (uX r i) with⟨a,_⟩|⟨a,_⟩|⟨a,_⟩<;>rcases sj (zD r i) with⟨b,_⟩|⟨b,_⟩|⟨b,_⟩<;>rcases sj (mT r i) with⟨c,_⟩|⟨c,_⟩|⟨c,_⟩<;>rcases sj (pF r i) with⟨d,_⟩|⟨d,_⟩|⟨d,_⟩<;>rw[a,b,c,d]<;>decide+kernel
theorem AL{r:List Sd}(h:Ju r)(hi:i<ln r)(hb:kD r i=Vw):(pK (mT r i)*pK (mT r i)+pK (pF r i)*pK (pF r i)=1)/\lM r i≠0:=by
 unfold kD at hb;rw[Bool.or_eq_false_iff] at hb;rw[zJ h hi,Ap h hi] at hb;exact⟨by simpa using hb.1,by simpa using hb.2⟩
theorem GM{r:List Sd}(h:Ju r)(hi:i<ln r)(hb:∀j,j<ln r->kD r j=Vw):(mT r i=0/\pF r i≠0/\uX r i≠0/\zD r i=0)\/(mT r i≠0/\pF r i=0/\uX r i=0/\zD r i≠0):=by
 have hp:=Nat.mod_lt (i+ln r-1) (by omega:ln r>0);obtain⟨h1,h2⟩:=AL h hi (hb i hi);obtain⟨h3,_⟩:=AL h hp (hb _ hp);rw[(tK hi).1,(tK hi).2] at h3;rw[Gd h hi] at h2;rcases sj (uX r i) with⟨a,a'⟩|⟨a,a'⟩|⟨a,a'⟩<;>rcases sj (zD r i) with⟨b,b'⟩|⟨b,b'⟩|⟨b,b'⟩<;>rcases sj (mT r i) with⟨c,c'⟩|⟨c,c'⟩|⟨c,c'⟩<;>rcases sj (pF r i) with⟨d,d'⟩|⟨d,d'⟩|⟨d,d'⟩<;>rw[c,d] at h1<;>rw[a,b] at h3<;>rw[a,b,c,d] at h2<;>omega
def yh{r:List Sd}(h:Ju r)(hs:iz r=VD):cH r=VD/\∀j,j<ln r->kD r j=Vw:=by
 unfold iz at hs;rw[Bool.and_eq_true,Bool.not_eq_true'] at hs;have hb:=pz hs.1;refine⟨?_,hb⟩;unfold cH;rw[hs.2,Bool.true_and,bh]
 ·rfl
 intro i hi;unfold nW;rcases GM h hi hb with⟨a,b,c,d⟩|⟨a,b,c,d⟩
 ·rw[a,beq_eq_false_iff_ne.2 b,beq_eq_false_iff_ne.2 c];rfl
 ·rw[b,beq_eq_false_iff_ne.2 a,c];rfl
theorem Oy{r:List Sd}(h:Ju r)(hb:∀j,j<ln r->kD r j=Vw)(hi:i<ln r):GR r i= !decide (lM r i<0):=by
 unfold GR;rw[Gd h hi];rcases GM h hi hb with⟨a,b,c,d⟩|⟨a,b,c,d⟩
 ·rw[a,d,(iK 0).1.2 rfl];simp only[Int.mul_zero,Int.sub_zero];rcases Int.lt_or_lt_of_ne c with c|c<;>rcases Int.lt_or_lt_of_ne b with b|b
  ·rw[(iK _).2.2.2 c,(iK _).2.2.2 b,decide_eq_true (Int.mul_pos_of_neg_of_neg c b)];rfl
  ·rw[(iK _).2.2.2 c,(iK _).2.1.2 b,decide_eq_false (by have:=Int.mul_neg_of_neg_of_pos c b;omega)];rfl
  ·rw[(iK _).2.1.2 c,(iK _).2.2.2 b,decide_eq_false (by have:=Int.mul_neg_of_pos_of_neg c b;omega)];rfl
  ·rw[(iK _).2.1.2 c,(iK _).2.1.2 b,decide_eq_true (Int.mul_pos c b)];rfl
 ·rw[b,c,(iK 0).1.2 rfl];simp only[Int.zero_mul,Int.zero_sub];rcases Int.lt_or_lt_of_ne d with d|d<;>rcases Int.lt_or_lt_of_ne a with a|a
  ·rw[(iK _).2.2.2 d,(iK _).2.2.2 a,decide_eq_false (by have:=Int.mul_pos_of_neg_of_neg d a;omega)];rfl
  ·rw[(iK _).2.2.2 d,(iK _).2.1.2 a,decide_eq_true (by have:=Int.mul_neg_of_neg_of_pos d a;omega)];rfl
  ·rw[(iK _).2.1.2 d,(iK _).2.2.2 a,decide_eq_true (by have:=Int.mul_neg_of_pos_of_neg d a;omega)];rfl
  ·rw[(iK _).2.1.2 d,(iK _).2.1.2 a,decide_eq_false (by have:=Int.mul_pos d a;omega)];rfl
theorem Q1{r:List Sd}(h:Ju r)(hb:∀j,j<ln r->kD r j=Vw)(hi:i<ln r):sE r i=lV r i:=by
 unfold sE lV;rw[Oy h hb hi,Bool.not_not]
 congr 1
 rw[Bool.or_comm (aq r i).gable]
 congr 1
 rw[Bool.eq_iff_iff,bne_iff_ne,bne_iff_ne];exact ne_comm
end
section
open Kp
def T3{r:List Sd}(h:Ju r)(hn:ln r<=24):∀k,k<=ln r->lK r k=rj (λi=>(aq r i).x*(aQ r i).y-(aq r i).y*(aQ r i).x) k/\ -(8589934592*(k:Int))<=lK r k/\lK r k<=8589934592*(k:Int):=by
 intro k hk
 induction k with
 |zero=>exact⟨rfl,by simp[lK],by simp[lK]⟩
 |succ k ih=>
  obtain⟨e,b1,b2⟩:=ih V7;have h1:=Jn h (show k<ln r by omega);have h2:=Jn h (Nat.mod_lt (k+1) (by omega:ln r>0));rw[<-je] at h2;have p1:0<=(aq r k).x*(aQ r k).y:=Int.mul_nonneg h1.1 h2.2.2.1;have p2:(aq r k).x*(aQ r k).y<=65536*65536:=Int.mul_le_mul h1.2.1 h2.2.2.2 h2.2.2.1 V9;have p3:0<=(aQ r k).x*(aq r k).y:=Int.mul_nonneg h2.1 h1.2.2.1;have p4:(aQ r k).x*(aq r k).y<=65536*65536:=Int.mul_le_mul h2.2.1 h1.2.2.2 h1.2.2.1 V9;have e2:(aq r k).y*(aQ r k).x=(aQ r k).x*(aq r k).y:=Int.mul_comm _ _;rw[lK,rj,<-e,e2];generalize(aq r k).x*(aQ r k).y=P at *;generalize(aQ r k).x*(aq r k).y=Q at *;have w1:wrap64 P=P:=IntWalk.wrap64_in _ V7;have w2:wrap64 Q=Q:=IntWalk.wrap64_in _ V7;have w3:wrap64 (lK r k+P)=lK r k+P:=IntWalk.wrap64_in _ V7;have w4:wrap64 (lK r k+P-Q)=lK r k+P-Q:=IntWalk.wrap64_in _ V7;rw[w1,w2,w3,w4];refine⟨V7,V7,V7⟩
def Px{r:List Sd}(h:Ju r)(hn:ln r<=24):lK r (ln r)=qx r:=(T3 h hn _ (Vu _)).1
def Ob(r:List Sd)(x y:Int)(k:Nat):lj r x y k=Kp.kS r x y k:=by
 unfold lj Kp.kS mT;rcases Int.lt_trichotomy (aq r k).x (aQ r k).x with a|a|a
 ·rw[beq_eq_false_iff_ne.2 V7,beq_eq_false_iff_ne.2 V7];rfl
 ·rw[a];have e1:((aQ r k).x==(aQ r k).x)=VD:=Wa;have e2:((aQ r k).x-(aQ r k).x==0)=VD:=Wa;rw[e1,e2];simp only[Bool.true_and,gt_iff_lt,Bool.and_assoc]
  congr 1
  rw[Bool.eq_iff_iff];simp only[Bool.and_eq_true,decide_eq_true_eq,bne_iff_ne,ne_eq,decide_eq_decide];omega
 ·rw[beq_eq_false_iff_ne.2 V7,beq_eq_false_iff_ne.2 V7];rfl
def Je(r:List Sd)(x y:Int):nf (lj r x y) (ln r)=jY r x y:=Fz λi _=>Ob r x y i
structure Fit(rs:List (List Sd)):Prop where
 pos:0<ln rs
 len:∀k,(rs.getD k []).length<=24
 rg:∀k,k<ln rs->Ju (rs.getD k [])
 sh:∀k,k<ln rs->∀j,j<(rs.getD k []).length->kD (rs.getD k []) j=Vw
def Io{rs:List (List Sd)}(h:Fit rs)(hp:ux rs=VD):fD rs=VD:=by
 unfold ux at hp;rw[Bool.and_eq_true,decide_eq_true_eq,Bool.not_eq_true'] at hp;obtain⟨h0,hall⟩:=hp;have hoff:=pz hall;unfold fD;rw[bh]
 ·rfl
 intro i hi;unfold Ib;rw[<-Px (h.rg i hi) (h.len i)];by_cases hi0:i=0
 ·subst hi0;rw[decide_eq_true h0,bh (λk _=>Wa)]
  rfl
 ·have:=hoff i hi;unfold nU at this;rw[decide_eq_true V7,Bool.true_and,Bool.or_eq_false_iff,decide_eq_false_iff_not] at this;rw[decide_eq_false V7,beq_eq_false_iff_ne.2 hi0,bh]
  ·rfl
  intro k hk;have hb:=pz this.2 k hk;unfold mI at hb;rw[Je] at hb;rw[Bool.or_false];exact hb
def Jo{rs:List (List Sd)}(h:Fit rs)(hr:qJ rs=VD):gC rs=VD:=by
 unfold qJ at hr;rw[Bool.and_eq_true] at hr;unfold gC;rw[Bool.and_eq_true];refine⟨?_,hr.2⟩;rw[<-hr.1]
 congr 1
 exact vD λk hk=>vD λi hi=>Q1 (h.rg k hk) (h.sh k hk) hi
def lexB(a b:Nat×Nat×pq):Prop:=a.1<b.1\/a.1=b.1/\a.2.1<b.2.1
def PQ(rs:List (List Sd))(N:Nat):(∀x∈ky rs N,x.1<N/\x.2.1<(rs.getD x.1 []).length/\x.2.2=lv (rs.getD x.1 []) x.2.1)/\List.Pairwise lexB (ky rs N):=by
 induction N with
 |zero=>exact⟨λx h=>by simp[ky] at h,List.Pairwise.nil⟩
 |succ N ih=>
  have hr:∀x∈iJ N (rs.getD N []) (rs.getD N []).length,x.1=N/\x.2.1<(rs.getD N []).length/\x.2.2=lv (rs.getD N []) x.2.1:=by
   intro x hx;unfold iJ at hx;obtain⟨i,hi,rfl⟩:=List.mem_map.1 hx;exact⟨rfl,List.mem_range.1 hi,rfl⟩
  rw[ky];refine⟨λx hx=> ?_,?_⟩
  ·rcases List.mem_append.1 hx with h|h
   ·obtain⟨a,b,c⟩:=ih.1 x h;exact⟨V7,b,c⟩
   ·obtain⟨a,b,c⟩:=hr x h;rw[a];exact⟨V7,b,c⟩
  ·rw[List.pairwise_append];refine⟨ih.2,?_,λa ha b hb=> .inl ?_⟩
   ·unfold iJ;rw[List.pairwise_map];exact List.pairwise_lt_range.imp λh=> .inr ⟨rfl,h⟩
   ·rw[(hr b hb).1];exact(ih.1 a ha).1
def Eh(a b:pq):eo a b=eo b a:=by
 unfold eo;rw[Bool.eq_iff_iff];exact a0z
def QV{rs:List (List Sd)}{a b:Nat×Nat×pq}(ha:a.2.1<(rs.getD a.1 []).length/\a.2.2=lv (rs.getD a.1 []) a.2.1)(hb:b.2.2=lv (rs.getD b.1 []) b.2.1)(hl:lexB b a):uC rs a b=mo rs b.1 b.2.1 a.1 a.2.1:=by
 unfold uC mo;rw[ha.2,hb,Eh]
 congr 2
 rcases hl with h|⟨h,h2⟩
 ·have e1:(a.1==b.1)=Vw:=beq_eq_false_iff_ne.2 V7;have e2:(b.1==a.1)=Vw:=beq_eq_false_iff_ne.2 V7;rw[e1,e2];rfl
 ·have hlt:=ha.1;rw[h];simp only[BEq.rfl,Bool.true_and];rw[Bool.eq_iff_iff];simp only[Bool.or_eq_true,Bool.and_eq_true,beq_iff_eq,decide_eq_true_eq];omega
def EF{rs:List (List Sd)}(h:xB rs=Vw):ff rs=Vw:=by
 have hno:∀k m q u,k<ln rs->m<(rs.getD k []).length->k<=q->q<ln rs->u<(rs.getD q []).length->mo rs k m q u=Vw:=by
  intro k m q u h1 h2 h3 h4 h5;cases hh:mo rs k m q u with
  |false=>rfl
  |true=>
   exfalso;unfold xB at h;rw[decide_eq_false_iff_not] at h;exact h ⟨k,m,q,u,h1,h2,h3,h4,h5,hh⟩
 obtain⟨hok,hpw⟩:=PQ rs (ln rs);unfold ff;refine bh λi hi=>bh λk hk=> ?_
 have hkl:k<(ky rs (ln rs)).length:=V7;have hl:=(List.pairwise_iff_getElem.1 hpw) k i hkl hi hk;rw[Vv,Vv,VA hi,VA hkl];simp only[Option.getD_some];obtain⟨a1,a2,a3⟩:=hok _ (List.getElem_mem hi);obtain⟨b1,b2,b3⟩:=hok _ (List.getElem_mem hkl);rw[QV ⟨a2,a3⟩ b3 hl];exact hno _ _ _ _ b1 b2 (by rcases hl with h|⟨h,_⟩<;>omega) a1 a2
def Iy{c:Prop}[Decidable c]{a b:Int}(ha:a≠0)(h:(if c then a else b)=0):¬c/\b=0:=by
 by_cases hc:c
 ·rw[if_pos hc] at h;exact absurd h ha
 ·rw[if_neg hc] at h;exact⟨hc,h⟩
def Pn{rs:List (List Sd)}(h:pG rs=0):dv rs=0:=by
 unfold pG at h;obtain⟨h1,h⟩:=Iy V9 h;obtain⟨h2,h⟩:=Iy V9 h;obtain⟨h3,h⟩:=Iy V9 h;obtain⟨h4,h⟩:=Iy V9 h;obtain⟨h5,h⟩:=Iy V9 h;obtain⟨h6,h⟩:=Iy V9 h;rw[Bool.not_eq_true] at h1 h3 h4 h5 h6;rw[Bool.or_eq_false_iff,Bool.not_eq_false',Bool.not_eq_false'] at h6;have hpos:0<ln rs:=by
  cases rs with
  |nil=>simp at h1
  |cons=>simp
 have hrg:∀k,k<ln rs->Ju (rs.getD k []):=by
  intro k hk i hi;have:=List.any_eq_false.1 h3 _ (List.mem_flatten.2 ⟨_,od hk,Gp hi⟩);exact XY
 have hsp:∀k,k<ln rs->iz (rs.getD k [])=VD:=by
  intro k hk;have:=List.any_eq_false.1 h4 _ (od hk);exact XY
 have hlen:∀k,(rs.getD k []).length<=24:=by
  intro k;by_cases hk:k<ln rs
  ·exact VI (List.sublist_flatten_of_mem (od hk)).length_le V7
  ·exact Z8
 have hf:Fit rs:=⟨hpos,hlen,hrg,λk hk=>(yh (hrg k hk) (hsp k hk)).2⟩;have h4':(rs.any λr=> !cH r)=Vw:=by
  rw[List.any_eq_false];intro r hr;obtain⟨k,hk,rfl⟩:=List.mem_iff_getElem.1 hr;have:=(yh (hrg k hk) (hsp k hk)).1;rw[Vv,VA hk] at this;exact a0Q
 unfold dv;rw[h1,if_neg h2,h3,h4',EF h5,Io hf h6.1,Jo hf h6.2]
 rfl
end
section
open Kp
theorem sR(h:p:=by
  go_enter func117,ntmps117;go_wp2;go_ret;exact⟨by rw[HV.o]<;>rfl,E0.o⟩):p:=h
def Cp(a b:Aw)(w:Vt):VJ prog 117 #[V5 (j9 a).toArray,V5 (j9 b).toArray] w λx w'=>x=V0 (VX (decide (qF a b<0)))/\Ext w w':=by
 have E0:=Vs (fh w (.cells (j9 a).toArray 66) (.cells (j9 b).toArray 66));have RA:=((ai.new w 66 (j9 a)).ext ((Below.refl _ _).alloc (Vu _) (.cells (j9 b).toArray 66)));have RB:=ai.new (w.alloc (.cells (j9 a).toArray 66)) 66 (j9 b);rw[VK] at RB;have ca:=λi=>RA.cell i
 have cb:=λi=>RB.cell i
 obtain⟨v,hv⟩:∃v,decide (qF a b<0)=v:=⟨_,rfl⟩;rw[hv];unfold qF DK at hv;clear RA RB;by_cases h1:a.width=b.width
 case neg=>
  have t1:(a.width !=b.width)=VD:=bne_iff_ne.2 h1;have HV:=Vs (show v=decide (a.width<b.width) by rw[<-hv,if_pos V7];exact decide_eq_decide.2 V7);clear hv h1;exact sR
 have t1:(a.width !=b.width)=Vw:=by simpa using h1
 rw[if_neg V7] at hv;by_cases h2:a.depth=b.depth
 case neg=>
  have t2:(a.depth !=b.depth)=VD:=bne_iff_ne.2 h2;have HV:=Vs (show v=decide (a.depth<b.depth) by rw[<-hv,if_pos V7];exact decide_eq_decide.2 V7);clear hv h1 h2;exact sR
 have t2:(a.depth !=b.depth)=Vw:=by simpa using h2
 rw[if_neg V7] at hv;by_cases h3:a.spacing=b.spacing
 case neg=>
  have t3:(a.spacing !=b.spacing)=VD:=bne_iff_ne.2 h3;have HV:=Vs (show v=decide (a.spacing<b.spacing) by rw[<-hv,if_pos V7];exact decide_eq_decide.2 V7);clear hv h1 h2 h3;exact sR
 have t3:(a.spacing !=b.spacing)=Vw:=by simpa using h3
 rw[if_neg V7] at hv;have HV:=Vs (show v=decide (a.load<b.load) by rw[<-hv];exact decide_eq_decide.2 V7);clear hv h1 h2 h3;exact sR
def Mb(l:List Aw)(k:Nat):jM l k=(if !jZ (l.getD k nI) then 2 else if decide (0<k)&& !decide (qF (l.getD (k-1) nI) (l.getD k nI)<0) then 10 else 0):=by
 unfold jM;have e2:(0<k/\0<=qF (l.getD (k-1) nI) (l.getD k nI))↔(decide (0<k)&& !decide (qF (l.getD (k-1) nI) (l.getD k nI)<0))=VD:=by
  simp only[Bool.and_eq_true,decide_eq_true_eq,Bool.not_eq_true',decide_eq_false_iff_not];omega
 simp only[e2]
def Fy(w:Vt)(A:Option VT)(cap:Nat)(l:List Aw)(hl:bJ 5 w w.heap.size A cap (bF l)):
  VJ prog 54 #[VV A (ln l) cap] w λx w'=>x=V0 (VZ VH (gG l))/\Ext w w':=by
 have h1:=hl.1;have h2:=hl.2.1;rw[VC] at h1;unfold VP at h2;have HL:=Vs (λ(W:Vt) (hx:Ext w W)=>((hl.below hx).more hx.size:bJ 5 W W.heap.size A cap (bF l)));clear hl;obtain⟨v,hv⟩:∃v,gG l=v:=⟨_,rfl⟩;rw[hv];have hv0:v=(if 4096<ln l then 4 else aV (jM l) (ln l)):=hv.symm;clear hv;by_cases h64:4096<ln l
 case pos=>
  have t5:decide ((ln l:Int)>4096)=VD:=decide_eq_true V7;rw[if_pos h64] at hv0;subst hv0;clear h64;go_enter func54,ntmps54;go_wp2;go_ret;exact⟨rfl,Below.refl _ _⟩
 have t5:decide ((ln l:Int)>4096)=Vw:=decide_eq_false V7;rw[if_neg h64] at hv0;have HV:=Vs hv0;clear h64 hv0;go_enter func54,ntmps54;go_wp2;go_loopw [3] (λi wr=>∃k:Nat,i=VZ VH (k:Int)/\k<=ln l/\Ext w wr/\∀j,j<k->jM l j=0) (λi _=>((ln l:Int)-VN i).toNat)
 case atStart=>exact⟨0,rfl,V7,Below.refl _ _,λj h=>V7⟩
 case round=>
  obtain⟨k,rfl,hk,hX,hA1⟩:=hrel;have HX:=Vs hX;have A1:=Vs hA1;clear hA1;by_cases hlt:k<ln l
  ·obtain⟨b,off,rfl,hb,hc⟩:=Mj (HL.o _ hX) V7;obtain⟨y0,y1,y2,y3,y4⟩:=hc k hlt;have HC:=Vs hc;have HB:=Vs hb;have HF:=Vs (λ(z:Int) (h:jM l k=z) (hz:z≠0)=>show v=z by rw[HV.o,<-h];exact bS hlt A1.o (by rw[h];exact hz));have HOK:=Vs (λh:jM l k=0=>jh (P:=λj=>jM l j=0) A1.o h);have he:=Mb l k;obtain⟨x,hx⟩:∃x,l.getD k nI=x:=⟨_,rfl⟩;rw[hx] at y0 y1 y2 y3 y4 he;obtain⟨xw,xd,xs,xl,xp⟩:=x;dsimp only at y0 y1 y2 y3 y4;have KC:=Vs (λW=>rh xw xd xs xl W);have hrg:jZ ⟨xw,xd,xs,xl,xp⟩=((aP xw 1 1000&&aP xd 1 1000&&aP xs 1 65536&&aP xl 0 1048576)&&aP xp 1 65536):=rfl;obtain⟨p,hp⟩:∃p,aP xp 1 65536=p:=⟨_,rfl⟩;have KO:=Vs (λW=>km xp 1 65536 W);simp only[hp] at KO;rw[hp] at hrg;obtain⟨cc,hcc⟩:∃c,(aP xw 1 1000&&aP xd 1 1000&&aP xs 1 65536&&aP xl 0 1048576)=c:=⟨_,rfl⟩;have hc5:zw xw xd xs xl=(if cc=VD then 0 else 2):=by unfold zw;rw[hcc]
   simp only[hc5] at KC;rw[hcc] at hrg;rw[hrg] at he;clear hX hc hb hx hc5 hp hcc hrg;cases cc
   case false=>
    have hv:=HF.o 2 (he.trans rfl) V9;subst hv;clear he;go_wp2_with fail
    go_quiet ((go_at_call 115;exact Calls.quiet_of_same (KC.o _)))
    go_wp2;go_ret;exact⟨rfl,below_drewN HX.o _⟩
   cases p
   case false=>
    have hv:=HF.o 2 (he.trans rfl) V9;subst hv;clear he;go_wp2_with fail
    go_quiet ((first|(go_at_call 115;exact Calls.quiet_of_same (KC.o _))|(go_at_call 116;exact Calls.quiet_of_same (KO.o _))))
    go_wp2;go_ret;exact⟨rfl,below_drewN HX.o _⟩
   have he2:jM l k=(if decide (0<k)&& !decide (qF (l.getD (k-1) nI) ⟨xw,xd,xs,xl,xp⟩<0) then 10 else 0):=he;have HE1:=Vs he2;clear he he2;go_wp2_with fail
   go_quiet ((first|(go_at_call 115;exact Calls.quiet_of_same (KC.o _))|(go_at_call 116;exact Calls.quiet_of_same (KO.o _))))
   by_cases hk0:k=0
   ·subst hk0;have HO:=Vs (HOK.o HE1.o);go_wp2_with fail
    go_quiet (fail)
    go_wp2;exact⟨⟨1,by go_num,V7,below_drewN HX.o _,HO.o⟩,Wc⟩
   ·have t5:decide ((k:Int)>0)=VD:=decide_eq_true V7;have t6:0<k:=V7;have he2:=HE1.o;rw[decide_eq_true t6,Bool.true_and] at he2;have w1:VH.wrap ((k:Int)-1)=((k-1:Nat):Int):=by rw[VQ _ V7];omega
    have hkl:k-1<ln l:=V7;obtain⟨z0,z1,z2,z3,z4⟩:=HC.o (k-1) hkl;obtain⟨v',hv'⟩:∃x,l.getD (k-1) nI=x:=⟨_,rfl⟩;rw[hv'] at z0 z1 z2 z3 z4 he2;obtain⟨k1,hk1⟩:∃q,k-1=q:=⟨_,rfl⟩;rw[hk1] at w1 hkl z0 z1 z2 z3 z4;have KBF:=λW=>Cp v' ⟨xw,xd,xs,xl,xp⟩ W
    obtain⟨q,hq⟩:∃q,decide (qF v' ⟨xw,xd,xs,xl,xp⟩<0)=q:=⟨_,rfl⟩;simp only[hq] at KBF;rw[hq] at he2;clear hq;obtain⟨vw,vd,vs,vl,vp⟩:=v';dsimp only at z0 z1 z2 z3 z4;have KBF:=Vs KBF;have HE2:=Vs he2;have a0:=λw' (h:Ext wr w')=>(h.cell (p:=⟨b,off+k*5,Vx⟩) HB.o).trans y0
    have b0:=λw' (h:Ext wr w')=>(h.cell (p:=⟨b,off+k1*5,Vx⟩) HB.o).trans z0
    have a1:=λw' (h:Ext wr w')=>(h.cell (p:=⟨b,off+k*5+1,Vx⟩) HB.o).trans y1
    have b1:=λw' (h:Ext wr w')=>(h.cell (p:=⟨b,off+k1*5+1,Vx⟩) HB.o).trans z1
    have a2:=λw' (h:Ext wr w')=>(h.cell (p:=⟨b,off+k*5+2,Vx⟩) HB.o).trans y2
    have b2:=λw' (h:Ext wr w')=>(h.cell (p:=⟨b,off+k1*5+2,Vx⟩) HB.o).trans z2
    have a3:=λw' (h:Ext wr w')=>(h.cell (p:=⟨b,off+k*5+3,Vx⟩) HB.o).trans y3
    have b3:=λw' (h:Ext wr w')=>(h.cell (p:=⟨b,off+k1*5+3,Vx⟩) HB.o).trans z3
    have a4:=λw' (h:Ext wr w')=>(h.cell (p:=⟨b,off+k*5+4,Vx⟩) HB.o).trans y4
    have b4:=λw' (h:Ext wr w')=>(h.cell (p:=⟨b,off+k1*5+4,Vx⟩) HB.o).trans z4
    clear z0 z1 z2 z3 z4 y0 y1 y2 y3 y4 hv' hk1 hk0 he2;go_wp2_with fail
    cases q
    ·have hv:=HF.o 10 HE2.o V9;subst hv
     go_region_held3(λw'=>Ext wr w') (first|exact hx1|exact below_drewN (below_drewN (Below.refl _ _) _) _|exact Ext.tr (below_drewN (Below.refl _ _) _) (Ext.dr _)) (first|(go_at_call 117;go_must(refine(KBF.o _).mono ?_);rintro e W3 ⟨rfl,hX4⟩;have hx1:Ext wr W3:=Ext.tr (Ext.tr (below_drewN (Below.refl _ _) _) (Ext.dr _)) hX4;clear hX4))
     go_wp2;go_ret;exact⟨rfl,HX.o.tr hx1⟩
    ·have HO:=Vs (HOK.o HE2.o)
     go_region_held3(λw'=>Ext wr w') (first|exact hx1|exact below_drewN (below_drewN (Below.refl _ _) _) _|exact Ext.tr (below_drewN (Below.refl _ _) _) (Ext.dr _)) (first|(go_at_call 117;go_must(refine(KBF.o _).mono ?_);rintro e W3 ⟨rfl,hX4⟩;have hx1:Ext wr W3:=Ext.tr (Ext.tr (below_drewN (Below.refl _ _) _) (Ext.dr _)) hX4;clear hX4))
     go_wp2
     go_round
     case rel=>exact⟨k+1,by go_num,V7,HX.o.tr hx1,HO.o⟩
     case measure=>simp[VN];omega
  ·exact a0U
end
section
open Kp
def L7(l:List Sz)(k:Nat):jT l k=(if decide ((l.getD k iI).kind<1)||decide ((l.getD k iI).kind>12) then 8 else if !(aP (l.getD k iI).width 1 1000&&aP (l.getD k iI).depth 1 1000) then 2 else if cz (λm=>(l.getD m iI).kind==(l.getD k iI).kind) k then 7 else 0):=by
 unfold jT aP;dsimp only;have e1:((l.getD k iI).kind<1\/13<=(l.getD k iI).kind)↔(decide ((l.getD k iI).kind<1)||decide ((l.getD k iI).kind>12))=VD:=by
  simp only[Bool.or_eq_true,decide_eq_true_eq];omega
 have e2:(min (l.getD k iI).width (l.getD k iI).depth<1\/1000<max (l.getD k iI).width (l.getD k iI).depth)↔(!(decide (1<=(l.getD k iI).width)&&decide ((l.getD k iI).width<=1000)&&(decide (1<=(l.getD k iI).depth)&&decide ((l.getD k iI).depth<=1000))))=VD:=by
  simp only[Bool.not_eq_true',Bool.and_eq_false_iff,decide_eq_false_iff_not];omega
 simp only[e1,e2]
theorem sP(h:p:=by
  have he:=HE.o;simp at he;have hv:=HF.o _ he V9;subst hv;clear he;go_wp2_with(go_at_call 112;go_must(refine(qA _ _).mono ?_);rintro e W1 ⟨rfl,rfl⟩)
  go_ret;exact⟨rfl,HX.o⟩):p:=h
def D6(w:Vt)(A:Option VT)(cap:Nat)(l:List Sz)(hl:bJ 3 w w.heap.size A cap (bL l)):
  VJ prog 50 #[VV A (ln l) cap] w λx w'=>x=V0 (VZ VH (fW l))/\Ext w w':=by
 have h1:=hl.1;have h2:=hl.2.1;rw[VC] at h1;unfold VP at h2;have HL:=Vs (λ(W:Vt) (hx:Ext w W)=>((hl.below hx).more hx.size:bJ 3 W W.heap.size A cap (bL l)));clear hl;obtain⟨v,hv⟩:∃v,fW l=v:=⟨_,rfl⟩;rw[hv];have HV:=Vs (show aV (jT l) (ln l)=v from hv);clear hv;go_enter func50,ntmps50;go_wp2;go_loopw [3] (λi wr=>∃k:Nat,i=VZ VH (k:Int)/\k<=ln l/\Ext w wr/\∀j,j<k->jT l j=0) (λi _=>((ln l:Int)-VN i).toNat)
 case atStart=>exact⟨0,rfl,V7,Below.refl _ _,λj h=>V7⟩
 case round=>
  obtain⟨k,rfl,hk,hX,hA1⟩:=hrel;have HX:=Vs hX;have A1:=Vs hA1;clear hA1;by_cases hlt:k<ln l
  ·obtain⟨b,off,rfl,hb,hc⟩:=Dr (HL.o _ hX) V7;obtain⟨c0,c1,c2⟩:=hc k hlt;have HF:=Vs (λ(z:Int) (h:jT l k=z) (hz:z≠0)=>show v=z by rw[<-HV.o,<-h];exact bS hlt A1.o (by rw[h];exact hz));have HOK:=Vs (λh:jT l k=0=>jh (P:=λj=>jT l j=0) A1.o h);have he:=L7 l k;obtain⟨kd,hkd⟩:∃x,(l.getD k iI).kind=x:=⟨_,rfl⟩;obtain⟨wd,hwd⟩:∃x,(l.getD k iI).width=x:=⟨_,rfl⟩;obtain⟨dp,hdp⟩:∃x,(l.getD k iI).depth=x:=⟨_,rfl⟩;have HKD:=Vs hkd;rw[hkd,hwd,hdp] at he;rw[hkd] at c0;rw[hwd] at c1;rw[hdp] at c2;obtain⟨p1,t1⟩:∃p,decide (kd<1)=p:=⟨_,rfl⟩;obtain⟨p2,t2⟩:∃p,decide (kd>12)=p:=⟨_,rfl⟩;obtain⟨p3,t3⟩:∃p,aP wd 1 1000=p:=⟨_,rfl⟩;obtain⟨p4,t4⟩:∃p,aP dp 1 1000=p:=⟨_,rfl⟩;rw[t1,t2,t3,t4] at he;have HE:=Vs he;have hl2:∀q,q=ln l->0<q:=λq h=>V7
   clear hX hc hkd hwd hdp hb he;cases p1
   case true=>exact sP
   cases p2
   case true=>exact sP
   cases p3
   ·exact sP
   cases p4
   ·exact sP
   have HE2:=Vs (show jT l k=(if cz (λm=>(l.getD m iI).kind==kd) k then 7 else 0) from HE.o);go_wp2_with(go_at_call 112;go_must(refine(qA _ _).mono ?_);rintro e W1 ⟨rfl,rfl⟩)
   go_loopw [4] (λi wr=>∃m:Nat,i=VZ VH (m:Int)/\m<=k/\Ext w wr/\∀j,j<m->((l.getD j iI).kind==kd)=Vw) (λi _=>((k:Int)-VN i).toNat)
   case atStart=>exact⟨0,rfl,V7,HX.o,λj h=>V7⟩
   case round=>
    obtain⟨m,rfl,hm,hX3,hA2⟩:=hrel;have HX3:=Vs hX3;have A2:=Vs hA2;clear hA2;by_cases hlt2:m<k
    ·obtain⟨b',off',e,hb,hc⟩:=Dr (HL.o _ hX3) V7;injection e with e
     injection e with e1 e2
     subst e1;subst e2;have d0:=(hc m V7).1;have d1:=(hc k hlt).1;rw[HKD.o] at d1;have hml:m<ln l:=V7;have hf7:=λh:((l.getD m iI).kind==kd)=VD=>HF.o 7 (show jT l k=7 by rw[HE2.o,dI hlt2 h];rfl) V9
     have hok2:=λh:((l.getD m iI).kind==kd)=Vw=>jh (P:=λj=>((l.getD j iI).kind==kd)=Vw) A2.o h
     obtain⟨q,hq⟩:∃q,(l.getD m iI).kind=q:=⟨_,rfl⟩;rw[hq] at hf7 hok2 d0;obtain⟨p,hp⟩:∃p,(q==kd)=p:=⟨_,rfl⟩;rw[hp] at hf7 hok2;have HF7:=Vs hf7;have HOK2:=Vs hok2;clear hX3 hc hb c0 c1 c2 hf7 hok2 hq;cases p
     ·have hok:=HOK2.o rfl;have HO:=Vs hok;clear hok;go_wp2_with fail
      go_quiet (fail)
      go_wp2;exact⟨⟨m+1,by go_num,V7,below_drewN HX3.o _,HO.o⟩,Wc⟩
     ·have hv:=HF7.o rfl;subst hv;go_wp2_with fail
      go_quiet (fail)
      go_wp2;go_ret;exact⟨rfl,below_drewN HX3.o _⟩
    ·obtain rfl:m=k:=V7;have hok:=HOK.o (by rw[HE2.o,bh A2.o];rfl);have HO:=Vs hok;clear hok;go_wp2;exact⟨⟨m+1,by go_num,V7,HX3.o,HO.o⟩,Wc⟩
  ·obtain rfl:k=ln l:=V7;have hv:v=0:=by rw[<-HV.o];exact be A1.o
   subst hv;exact ZR
end
end Go.Proofs.YtmliacdegmklaaaGreatDoor
