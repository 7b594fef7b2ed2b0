/- ChangeReplays of kingpostlaw58: part 14 of its proof (merged and shortened by program). -/
import Derived.Test.YtmliacdegmklaaaGreatDoorM04
import Derived.Test.YtmliacdegmklaaaGreatDoorM05
set_option linter.unusedVariables false
set_option linter.unusedSimpArgs false
set_option linter.defProp false
set_option maxHeartbeats 8000000
set_option maxRecDepth 100000
open Go.RowKit Go.Shelf Go.Proofs.Tryz
open Array renaming getElem?_eq_some_iff→Vz
open Bool renaming false→Vp,true→Vv,and_eq_true_iff→Vw
open Go renaming World→Vl,Value→Vr,undef→Vs,wpOp_step→Vx,Calls→VC,maxLen→VJ,TypeId→VK,Addr→VM,Rows→VP
open Go.AllReady renaming cons→VH,nil→VO
open Go.Ending renaming returned→VV
open Go.IntKind renaming i64→VA
open Go.IntWalk renaming i64_in→VI
open Go.Lib renaming hid→Vk
open Go.RowKit renaming intOf→VG,Below→VL
open Go.Value renaming slice→VQ,string→VR,bool→VS,pointer→VT,int→VU,agg→VW,tuple→VX
open Go.World renaming alloc_heap_new→Vy,size_alloc→VF
open List renaming getD_eq_getElem?_getD→Vn,getElem?_eq_getElem→Vt,length_map→Vu,length_append→VD
open Nat renaming le_refl→Vm,le_trans→VB,mul_comm→VE
open Option renaming none→Vo,some→Vq
open Option.some renaming inj→VN
open Go.Proofs.YtmliacdegmklaaaGreatDoor
namespace Go.Proofs.YtmliacdegmklaaaGreatDoor
section
open Kp
def OC(w:Vl)(n:Nat)(i:Vr)(wr:Vl):Prop:=∃k:Nat,k<=n/\i=VU VA (k:Int)/\Ext w wr
def oz{p:Prop}(h:p:=by
  rw[run_neq_struct,run_equalIn_agg _ _ _ _ _ VZ VZ];simp only[Program.fieldsOf,U];simp[go_sem,Result.andThen,underlying3,isAgg3,underlying4,isAgg4,underlying55,isAgg55]):p:=h
def dY{w wr:Vl}{b o:Nat}{v:Option Vr}(hX:Ext w wr)(hB:b<w.heap.size)(h:w.cell? ⟨b,o,Vo⟩=v):wr.cell? ⟨b,o,Vo⟩=v:=(hX.cell (p:=⟨b,o,Vo⟩) hB).trans h
def Ov(f:FuncId)(t:VK)(k:Nat):Prop:=∀(w:Vl) (A A':Option VM) (cap cap':Nat) (rows:List (List Vr)),bK k w w.heap.size A cap rows->bK k w w.heap.size A' cap' rows->dj k rows->
  (∀r∈rows,∀W,(binOp .neq t (VW r.toArray) (VW r.toArray)).run prog W= .ok (VS Vp) W)->
  VC prog f #[VQ A rows.length cap,VQ A' rows.length cap'] w λe w'=>e=VV (VS Vv)/\Ext w w'
def Bv{p:Prop}(h:p:=by
  obtain⟨m,hm,rfl,hX⟩:=hrel;have HX:=Vk hX;clear hX;by_cases hlt:m<rows.length
  ·obtain⟨b,off,rfl,hB,hc⟩:=H3.o VY;obtain⟨b',off',rfl,hB',hc'⟩:=H4.o VY;obtain⟨r,hr⟩:∃r,rows.getD m []=r:=⟨_,rfl⟩;have hmem:r∈rows:=by rw[<-hr,Vn,Vt hlt];exact List.getElem_mem hlt
   have hlen:=HW.o r hmem;have hself:=HS.o r hmem
   try have c0:=dY HX.o hB (hc m hlt 0 V0)
   try have d0:=dY HX.o hB' (hc' m hlt 0 V0)
   try rw[hr,VE] at c0 d0
   try have c1:=dY HX.o hB (hc m hlt 1 V0)
   try have d1:=dY HX.o hB' (hc' m hlt 1 V0)
   try rw[hr,VE] at c1 d1
   try have c2:=dY HX.o hB (hc m hlt 2 V0)
   try have d2:=dY HX.o hB' (hc' m hlt 2 V0)
   try rw[hr,VE] at c2 d2
   try have c3:=dY HX.o hB (hc m hlt 3 V0)
   try have d3:=dY HX.o hB' (hc' m hlt 3 V0)
   try rw[hr,VE] at c3 d3
   try have c4:=dY HX.o hB (hc m hlt 4 V0)
   try have d4:=dY HX.o hB' (hc' m hlt 4 V0)
   try rw[hr,VE] at c4 d4
   try have c5:=dY HX.o hB (hc m hlt 5 V0)
   try have d5:=dY HX.o hB' (hc' m hlt 5 V0)
   try rw[hr,VE] at c5 d5
   try have c6:=dY HX.o hB (hc m hlt 6 V0)
   try have d6:=dY HX.o hB' (hc' m hlt 6 V0)
   try rw[hr,VE] at c6 d6
   rw[Nat.add_zero] at c0 d0;clear hr hc hc' hmem;rcases r with _|⟨x0,_|⟨x1,_|⟨x2,_|⟨x3,_|⟨x4,_|⟨x5,_|⟨x6,_|⟨x7,r⟩⟩⟩⟩⟩⟩⟩⟩<;>first|(exfalso;simp only[List.length_cons,List.length_nil] at hlen;omega)|skip
   clear hlen;have tlt:decide ((m:Int)<(rows.length:Int))=Vv:=decide_eq_true VY;have e3:(m:Int)<(rows.length:Int):=VY;exact ZV
  ·have tlt:decide ((m:Int)<(rows.length:Int))=Vp:=decide_eq_false VY;go_wp2;go_ret;exact⟨rfl,HX.o⟩):p:=h
def qf{p:Prop}(h:p:=by
  obtain⟨h1,h2,h3⟩:=hr;obtain⟨h1',h2',h3'⟩:=hr';unfold VJ at h2 h2';have H3:=Vk h3;have H4:=Vk h3';have HW:=Vk hw;have HS:=Vk hs;clear h3 h3' hw hs;go_wp2;go_loopw [13] (λi wr=>OC w rows.length i wr) (λi _=>((rows.length:Int)-VG i).toNat)
  case atStart=>exact⟨0,VY,rfl,Ext.aB _⟩
  case round=>exact Bv):p:=h
def xz(x0:Int)(x1:Int)(x2:Int)(W:Vl):(binOp .neq 59 (VW #[VU VA x0,VU VA x1,VU VA x2]) (VW #[VU VA x0,VU VA x1,VU VA x2])).run prog W= .ok (VS Vp) W:=by
 have U:=underlying59;exact oz
def M9:Ov 32 59 3:=by
 intro w A A' cap cap' rows hr hr' hw hs;go_enter func32,ntmps32;exact qf
def yB(x0:Int)(x1:Int)(x2:List UInt8)(W:Vl):(binOp .neq 64 (VW #[VU VA x0,VU VA x1,VR (tx x2)]) (VW #[VU VA x0,VU VA x1,VR (tx x2)])).run prog W= .ok (VS Vp) W:=by
 have U:=underlying64;exact oz
def Nz:Ov 34 64 3:=by
 intro w A A' cap cap' rows hr hr' hw hs;go_enter func34,ntmps34;exact qf
def xA(x0:Int)(x1:List UInt8)(x2:List UInt8)(x3:List UInt8)(x4:List UInt8)(W:Vl):(binOp .neq 57 (VW #[VU VA x0,VR (tx x1),VR (tx x2),VR (tx x3),VR (tx x4)]) (VW #[VU VA x0,VR (tx x1),VR (tx x2),VR (tx x3),VR (tx x4)])).run prog W= .ok (VS Vp) W:=by
 have U:=underlying57;exact oz
def LJ:Ov 31 57 5:=by
 intro w A A' cap cap' rows hr hr' hw hs;go_enter func31,ntmps31;exact qf
def yv(x0:Int)(x1:Int)(x2:Int)(x3:Int)(x4:Bool)(x5:Int)(x6:Int)(W:Vl):(binOp .neq 54 (VW #[VU VA x0,VU VA x1,VU VA x2,VU VA x3,VS x4,VU VA x5,VU VA x6]) (VW #[VU VA x0,VU VA x1,VU VA x2,VU VA x3,VS x4,VU VA x5,VU VA x6])).run prog W= .ok (VS Vp) W:=by
 have U:=underlying54;exact oz
def KM:Ov 27 54 7:=by
 intro w A A' cap cap' rows hr hr' hw hs;go_enter func27,ntmps27;exact qf
def xB(x0:Int)(x1:Int)(x2:Int)(x3:Int)(x4:Int)(W:Vl):(binOp .neq 66 (VW #[VU VA x0,VU VA x1,VU VA x2,VU VA x3,VU VA x4]) (VW #[VU VA x0,VU VA x1,VU VA x2,VU VA x3,VU VA x4])).run prog W= .ok (VS Vp) W:=by
 have U:=underlying66;exact oz
def Mv:Ov 35 66 5:=by
 intro w A A' cap cap' rows hr hr' hw hs;go_enter func35,ntmps35;exact qf
end
section
open Kp
def ID(w:Vl)(A A':Option VM)(cap cap':Nat)(r:List Sd)(h:bK 7 w w.heap.size A cap (aD r))(h':bK 7 w w.heap.size A' cap' (aD r)):
  VC prog 26 #[VQ A r.length cap,VQ A' r.length cap'] w λe w'=>e=VV (VS Vv)/\Ext w w':=by
 have K:=KM w A A' cap cap' (aD r) h h' (dI r) (λx hx W=>by
  obtain⟨s,_,rfl⟩:=List.mem_map.1 hx;exact yv _ _ _ _ _ _ _ W)
 rw[show(aD r).length=r.length from Vu _] at K;have K:=Vk K;clear h h';go_enter func26,ntmps26;go_wp2_with(go_at_call 27;go_must(refine K.o.mono ?_);rintro e W1 ⟨rfl,hX⟩)
 go_ret;exact⟨rfl,hX⟩
def MK(w:Vl)(A A':Option VM)(cap cap':Nat)(rs:List (List Sd))(hr:eB w w.heap.size A cap rs)(hr':eB w w.heap.size A' cap' rs):
  VC prog 30 #[VQ A rs.length cap,VQ A' rs.length cap',.func (.func 26) #[] #[]] w λe w'=>e=VV (VS Vv)/\Ext w w':=by
 obtain⟨h1,h2,h3⟩:=hr;obtain⟨h1',h2',h3'⟩:=hr';unfold VJ at h2 h2';have H3:=Vk h3;have H4:=Vk h3';have g1:=enters_of func26 VZ rfl;clear h3 h3';go_enter func30,ntmps30;go_wp2;go_loopw [17] (λi wr=>OC w rs.length i wr) (λi _=>((rs.length:Int)-VG i).toNat)
 case atStart=>exact⟨0,VY,rfl,Ext.aB _⟩
 case round=>
  obtain⟨m,hm,rfl,hX⟩:=hrel;have HX:=Vk hX;clear hX;by_cases hlt:m<rs.length
  ·obtain⟨b,off,rfl,hB,hc⟩:=H3.o VY;obtain⟨b',off',rfl,hB',hc'⟩:=H4.o VY;obtain⟨Ai,ci,c0,hs⟩:=hc m hlt;obtain⟨Ai',ci',d0,hs'⟩:=hc' m hlt;obtain⟨ring,hring⟩:∃ring,rs.getD m []=ring:=⟨_,rfl⟩;rw[hring] at c0 d0 hs hs';have c1:=(HX.o.cell (p:=⟨b,off+m,Vo⟩) hB).trans c0;have d1:=(HX.o.cell (p:=⟨b',off'+m,Vo⟩) hB').trans d0;have K:=Vk (ID wr Ai Ai' ci ci' ring ((hs.below HX.o).more HX.o.size) ((hs'.below HX.o).more HX.o.size));clear hring hc hc' c0 d0 hs hs';have tlt:decide ((m:Int)<(rs.length:Int))=Vv:=decide_eq_true VY;have e3:(m:Int)<(rs.length:Int):=VY;go_wp2_with(go_at_call 26;go_must(refine K.o.mono ?_);rintro e W1 ⟨rfl,hX1⟩)
   exact⟨⟨m+1,VY,V5,HX.o.tr hX1⟩,V7⟩
  ·have tlt:decide ((m:Int)<(rs.length:Int))=Vp:=decide_eq_false VY;exact ZW
end
section
open Kp
def Sa:Array Vr:=#[.nilFunc,.func (.func 87) #[] #[],.func (.func 88) #[] #[],.func (.func 89) #[] #[],.func (.func 90) #[] #[],.func (.func 91) #[] #[],.func (.func 93) #[] #[],.func (.func 94) #[] #[],.func (.func 96) #[] #[],.func (.func 97) #[] #[],.func (.func 98) #[] #[],.func (.func 100) #[] #[],.func (.func 101) #[] #[]]
def DO(w:Vl):VC prog 43 #[] w λe w'=>e=VV (VW Sa)/\Ext w w':=by
 have hh:=Vy w (.cells #[.nilFunc,.nilFunc,.nilFunc,.nilFunc,.nilFunc,.nilFunc,.nilFunc,.nilFunc,.nilFunc,.nilFunc,.nilFunc,.nilFunc,.nilFunc] 99);have hx:Ext w ((w.alloc (.cells #[.nilFunc,.nilFunc,.nilFunc,.nilFunc,.nilFunc,.nilFunc,.nilFunc,.nilFunc,.nilFunc,.nilFunc,.nilFunc,.nilFunc,.nilFunc] 99)).setRow w.heap.size Sa):=af ((Below.refl _ _).alloc (Vm _) _) (Vm _) _;have HH:=Vk hh;have HX:=Vk hx;clear hh hx;go_enter func43,ntmps43;go_wp2_with(refine wpList_store_row rfl 99 _ _ rfl w.heap.size Sa rfl rfl 99 _ HH.o VZ VZ VZ ?_)
 refine bodyPost_ret (results_cell_row rfl _ _ _ _ _ (0,0) _ rfl (setRow_heap HH.o _) underlying99 rfl VZ) rfl ⟨rfl,HX.o⟩
end
section
open Kp
def Qt(n:Int): -9223372036854775808<=VA.wrap n/\VA.wrap n<=9223372036854775807:=by
 rw[IntWalk.i64_left];unfold RowKit.wrap64;omega
end
section
open Kp
def gZ{fn:Func}{t u v x:Tmp}(h:fn.results=#[.tmp t,.tmp u,.tmp v,.tmp x])(tmps:Array Vr)(P:Program)(w:Vl):
  (results fn tmps).run P w= .ok (VX #[tmps.getD t Vs,tmps.getD u Vs,tmps.getD v Vs,tmps.getD x Vs]) w:=by
 simp[results,h]
end
section
open Kp
def nu(y:ByteArray):Nat:=y.data.toList.findIdx (· ==47)
def aM(z:ByteArray):Bool×ByteArray×ByteArray×Bool:=
 let m:=z.data.toList.head?==Vq 45
 let y:=if m then z.extract 1 z.size else z
 if nu y<y.size then(m,y.extract 0 (nu y),y.extract (nu y+1) y.size,Vv) else(m,y,⟨#[]⟩,Vp)
def pM(v:Bool×ByteArray×ByteArray×Bool):Vr:= VX #[VS v.1,VR v.2.1,VR v.2.2.1,VS v.2.2.2]
def Mz{y:ByteArray}{k:Nat}(hk:k<y.size)(h:∀m (hm:m<k),((y[m]'VY).toNat:Int)≠47)(h2:((y[k]'hk).toNat:Int)=47):nu y=k:=by
 unfold nu;have hk':k<y.data.toList.length:=by rw[Array.length_toList];exact hk
 rw[List.findIdx_eq hk'];refine⟨?_,λm hm=> ?_⟩
 ·have e:y[k]'hk=y.data.toList[k]:=WX;rw[e] at h2;rw[beq_iff_eq];exact UInt8.toNat_inj.1 (by have:(47:UInt8).toNat=47:=rfl;omega)
 ·have hm':=h m hm;have e:y[m]'VY=y.data.toList[m]'(by rw[Array.length_toList];exact Nat.lt_trans hm hk):=WX;exact a0t
def Fh{y:ByteArray}(h:∀m (hm:m<y.size),((y[m]'hm).toNat:Int)≠47):nu y=y.size:=by
 unfold nu;have hl:y.data.toList.length=y.size:=Array.length_toList;rw[<-hl,List.findIdx_eq_length];intro x hx;obtain⟨m,hm,rfl⟩:=List.mem_iff_getElem.1 hx;have hm2:m<y.size:=hl▸hm;have hm':=h m hm2;have e:y[m]'hm2=y.data.toList[m]:=WX;exact a0t
end
section
open Kp
def EO(y:ByteArray)(k:Nat):Prop:=∀m (_:m<k) (h:m<y.size),((y[m]'h).toNat:Int)≠47
def vW{z y:ByteArray}{g:Bool}(hg:(z.data.toList.head?==Vq 45)=g)(hy:(if g then z.extract 1 z.size else z)=y):
  (∀k (hk:k<y.size),EO y k->((y[k]'hk).toNat:Int)=47->aM z=(g,y.extract 0 k,y.extract (k+1) y.size,Vv))/\(EO y y.size->aM z=(g,y,⟨#[]⟩,Vp)):=by
 have hv:aM z=if nu y<y.size then(g,y.extract 0 (nu y),y.extract (nu y+1) y.size,Vv) else(g,y,⟨#[]⟩,Vp):=by
  unfold aM;simp only[hg,hy]
 refine⟨λk hk hn h=> ?_,λhn=> ?_⟩
 ·rw[hv,Mz hk (λm hm=>hn m hm VY) h,if_pos hk]
 ·rw[hv,Fh (λm hm=>hn m hm hm),if_neg (Nat.lt_irrefl _)]
def PR{z:ByteArray}(hp:0<z.size):(z.data.toList.head?==Vq 45)=(((z[0]'hp).toNat:Int)==45):=by
 have hl:0<z.data.toList.length:=by rw[Array.length_toList];exact hp
 have e:z[0]'hp=z.data.toList[0]:=WX;rw[e,List.head?_eq_getElem?,Vt hl,Bool.eq_iff_iff,beq_iff_eq,beq_iff_eq];constructor
 ·intro h;injection h with h;rw[h];rfl
 ·intro h;congr 1;exact UInt8.toNat_inj.1 (by have:(45:UInt8).toNat=45:=rfl;omega)
def nY(z:ByteArray)(w:Vl)(hs:z.size<=1000000):VC prog 250 #[VR z] w λx w'=>x=VV (pM (aM z))/\Ext w w':=by
 by_cases h0:z.size=0
 ·have hz:z.data.toList=[]:=List.length_eq_zero_iff.1 (by rw[Array.length_toList];exact h0);have HY:=Vk (vW (z:=z) (y:=z) (g:=Vp) (by rw[hz];rfl) rfl);clear hz;go_enter func250,ntmps250;go_wp2;go_loopw [8] (λi wr=>∃k:Nat,i=VU VA (k:Int)/\k<=z.size/\Ext w wr/\EO z k) (λi _=>((z.size:Int)-VG i).toNat)
  case atStart=>exact⟨0,rfl,VY,Below.refl _ _,λm hm _=>VY⟩
  case round=>
   obtain⟨k,rfl,hk,hX,hno⟩:=hrel;have HX:=Vk hX;have HN:=Vk hno;clear hX hno;by_cases hlt:k<z.size
   ·exact absurd hlt VY
   ·exact a0v
 have hp:0<z.size:=VY;obtain⟨p2,t2⟩:∃p,(((z[0]'hp).toNat:Int)==45)=p:=⟨_,rfl⟩;obtain⟨y,hy⟩:∃y,z.extract 1 z.size=y:=⟨_,rfl⟩;have hys:y.size<=z.size:=by rw[<-hy];simp
 have hyl:y.size<=1000000:=VY;have hh:=(PR hp).trans t2;cases p2 with
 |false=>
  have HY:=Vk (vW hh rfl);clear hy hys hyl hh;go_enter func250,ntmps250;go_wp2;go_loopw [8] (λi wr=>∃k:Nat,i=VU VA (k:Int)/\k<=z.size/\Ext w wr/\EO z k) (λi _=>((z.size:Int)-VG i).toNat)
  case atStart=>exact⟨0,rfl,VY,Below.refl _ _,λm hm _=>VY⟩
  case round=>
   obtain⟨k,rfl,hk,hX,hno⟩:=hrel;have HX:=Vk hX;have HN:=Vk hno;clear hX hno;by_cases hlt:k<z.size
   ·obtain⟨p,tp⟩:∃p,(((z[k]'hlt).toNat:Int)==47)=p:=⟨_,rfl⟩;have HP:=Vk tp;cases p with
    |true=>
     have HR:=Vk (show aM z=(Vp,z.extract 0 k,z.extract (k+1) z.size,Vv) from HY.o.1 k hlt HN.o (beq_iff_eq.1 HP.o));exact a0u
    |false=>
     have HNN:=Vk (show EO z (k+1) fromλm hm h=>by
      by_cases e:m=k
      ·subst e;exact beq_eq_false_iff_ne.1 HP.o
      ·exact HN.o m VY h)
     go_wp2;exact⟨⟨k+1,by go_num,VY,HX.o,HNN.o⟩,V7⟩
   ·exact a0v
 |true=>
  have HY:=Vk (vW hh hy);clear hh;go_enter func250,ntmps250;go_wp2;go_loopw [8] (λi wr=>∃k:Nat,i=VU VA (k:Int)/\k<=y.size/\Ext w wr/\EO y k) (λi _=>((y.size:Int)-VG i).toNat)
  case atStart=>exact⟨0,rfl,VY,Below.refl _ _,λm hm _=>VY⟩
  case round=>
   obtain⟨k,rfl,hk,hX,hno⟩:=hrel;have HX:=Vk hX;have HN:=Vk hno;clear hX hno;by_cases hlt:k<y.size
   ·obtain⟨p,tp⟩:∃p,(((y[k]'hlt).toNat:Int)==47)=p:=⟨_,rfl⟩;have HP:=Vk tp;cases p with
    |true=>
     have HR:=Vk (show aM z=(Vv,y.extract 0 k,y.extract (k+1) y.size,Vv) from HY.o.1 k hlt HN.o (beq_iff_eq.1 HP.o));exact a0u
    |false=>
     have HNN:=Vk (show EO y (k+1) fromλm hm h=>by
      by_cases e:m=k
      ·subst e;exact beq_eq_false_iff_ne.1 HP.o
      ·exact HN.o m VY h)
     go_wp2;exact⟨⟨k+1,by go_num,VY,HX.o,HNN.o⟩,V7⟩
   ·obtain rfl:k=y.size:=VY;have HR:=Vk (show aM z=(Vv,y,⟨#[]⟩,Vp) from HY.o.2 HN.o);go_wp2;refine bodyPost_ret (gZ rfl _ _ _) rfl ?_;exact⟨V9,HX.o⟩
end
section
open Kp
structure Dg(z:ByteArray):Prop where
 pos:0<z.size
 lead:∀h:0<z.size,1<z.size->((z[0]'h).toNat:Int)≠48
 all:∀m (h:m<z.size),48<=((z[m]'h).toNat:Int)/\((z[m]'h).toNat:Int)<=57
def Uv(z:ByteArray)(x:Ending):Prop:=∃b:Bool,x=VV (VS b)/\(b=Vv↔Dg z)
def UF(z:ByteArray)(k:Nat):Prop:=∀m (_:m<k) (h:m<z.size),48<=((z[m]'h).toNat:Int)/\((z[m]'h).toNat:Int)<=57
def uK (z : ByteArray) (w : Vl) (hs : z.size <= 1000000) : VC prog 251 #[VR z] w λx w' => Uv z x /\ Ext w w' := by
  have HN := Vk (show ¬ Dg z -> Uv z (VV (VS Vp)) fromλhn => ⟨_, rfl, ⟨λh => V6, λh => absurd h hn⟩⟩);obtain ⟨n, hn⟩ : ∃ n, z.size = n := ⟨_, rfl⟩;by_cases h0 : n = 0
  · have hz0 : z.size = 0 := hn.trans h0
    clear hn h0;go_enter func251, ntmps251;go_wp2;go_ret;exact ⟨HN.o (λh => by have := h.pos; omega), Below.refl _ _⟩
  have hp : 0 < z.size := VY;obtain ⟨p1, t1⟩ : ∃ p, decide ((n : Int) > 1) = p := ⟨_, rfl⟩;obtain ⟨p2, t2⟩ : ∃ p, (((z[0]'hp).toNat : Int) == 48) = p := ⟨_, rfl⟩;have t0 : ((n : Int) == 0) = Vp := beq_eq_false_iff_ne.2 VY;have hn6 : n <= 1000000 := VY;have HY := Vk (show (p1 = Vp \/ p2 = Vp) -> UF z z.size -> Uv z (VV (VS Vv)) fromλh ha => ⟨_, rfl, ⟨λ_ => ⟨hp, λ_ h1 => by
    rcases h with h | h
    · rw [h] at t1; have := of_decide_eq_false t1; omega
    · rw [h] at t2; exact beq_eq_false_iff_ne.1 t2, λm hm => ha m hm hm⟩, λ_ => rfl⟩⟩)
  have HL := Vk (show p1 = Vv -> p2 = Vv -> ¬ Dg z fromλh1 h2 h => by
    rw [h1] at t1; rw [h2] at t2; have := of_decide_eq_true t1; exact h.lead hp VY (beq_iff_eq.1 t2))
  have HZ := Vk hn;clear h0;cases p1 <;> cases p2
  all_goals
    go_enter func251, ntmps251;go_wp2
    first
      | (go_ret
         exact ⟨HN.o (by first | exact HL.o rfl rfl | exact HL.o trivial trivial | exact HL.o V5 V5 | exact HL.o), Below.refl _ _⟩)
      | (go_loopw [3] (λi wr => ∃ k : Nat, i =VU VA (k : Int) /\ k <= n /\ Ext w wr /\ UF z k) (λi _ => ((n : Int) - VG i).toNat)
         case atStart => exact ⟨0, rfl, VY, Below.refl _ _, λm hm _ => VY⟩
         case round =>
           obtain ⟨k, rfl, hk, hX, ha⟩ := hrel;have HX := Vk hX;have HA := Vk ha;clear hX ha;by_cases hlt : k < n
           · have hb : k < z.size := by omega
             obtain ⟨q1, s1⟩ : ∃ p, decide (((z[k]'hb).toNat : Int) < 48) = p := ⟨_, rfl⟩;obtain ⟨q2, s2⟩ : ∃ p, decide (((z[k]'hb).toNat : Int) > 57) = p := ⟨_, rfl⟩;have S1 := Vk s1;have S2 := Vk s2;cases q1 with
             | true =>
               go_wp2;go_ret;exact ⟨HN.o (λh => by have := h.all k Wd; have := of_decide_eq_true S1.o; omega), HX.o⟩
             | false =>
               cases q2 with
               | true =>
                 go_wp2;go_ret;exact ⟨HN.o (λh => by have := h.all k Wd; have := of_decide_eq_true S2.o; omega), HX.o⟩
               | false =>
                 have HK := Vk (show UF z (k + 1) fromλm hm h => by
                   by_cases e : m = k
                   · subst e
                     have a1 := of_decide_eq_false S1.o;have a2 := of_decide_eq_false S2.o;exact ⟨VY, VY⟩
                   · exact HA.o m VY h)
                 go_wp2;exact ⟨⟨k + 1, by go_num, VY, HX.o, HK.o⟩, WC⟩
           · obtain rfl : k = n := by omega
             have HT := Vk (HY.o (by first | exact .inl rfl | exact .inr rfl | simp) (HZ.o ▸ HA.o));go_wp2;go_ret;exact ⟨HT.o, HX.o⟩)
end
section
open Kp
def pN(v:Bool×ByteArray×ByteArray×Bool):ByteArray:=if v.1 then(⟨#[45]⟩:ByteArray)++v.2.1 else v.2.1
def pD(v:Bool×ByteArray×ByteArray×Bool):ByteArray:=if v.2.2.2 then v.2.2.1 else⟨#[49]⟩
def lg(z:ByteArray):(aM z).2.1.size<=z.size:=by
 have key:∀(y:ByteArray) (q:Nat) (m:Bool),y.size<=z.size->(if q<y.size then(m,y.extract 0 q,y.extract (q+1) y.size,Vv) else(m,y,(⟨#[]⟩:ByteArray),Vp)).2.1.size<=z.size:=by
  intro y q m hy;split
  ·show(y.extract 0 q).size<=z.size;rw[ByteArray.size_extract];omega
  ·exact hy
 exact a0w
def nv(z:ByteArray)(w:Vl)(hs:z.size<=1000000):VC prog 255 #[VR z] w λx w'=>x=VV (VX #[VR (pN (aM z)),VR (pD (aM z))])/\Ext w w':=by
 have KS:=Vk (nY z w hs);have hn:=lg z;obtain⟨⟨g,n,d,sl⟩,hv⟩:∃v,aM z=v:=⟨_,rfl⟩;rw[hv] at KS hn;dsimp only at hn;rw[hv];clear hv;cases g<;>cases sl
 all_goals
  go_enter func255,ntmps255;go_wp2_with(go_at_call 250;go_must(refine KS.o.mono ?_);unfold pM;rintro e W1 ⟨rfl,hX1⟩;have HX1:=Vk hX1;clear hX1)
  go_ret2;exact⟨rfl,HX1.o⟩
end
section
open Kp
def Qq{n:Int}(h0: -9223372036854775808<=n)(h1:n<=9223372036854775807):(tx (Lib.itoa n)).size<=1000:=by
 rw[ai];unfold Lib.itoa;split
 ·have:=pA n.natAbs 20 V0 VY;rw[List.length_cons,Lib.decDigits_length];omega
 ·have:=pA n.toNat 20 V0 VY;rw[Lib.decDigits_length];omega
end
section
open Kp
def nO(z:ByteArray)(w:Vl)(h:Em z):VC prog 309 #[VR z] w λx w'=>x=VV (VU VA 0)/\Ext w w':=by
 obtain⟨n,hn⟩:∃n,z.size=n:=⟨_,rfl⟩;have hp:0<z.size:=h.pos;have hn3:n<=300:=by have:=h.len;omega
 have H:=Vk h;obtain⟨p1,t1⟩:∃p,(((z[0]'hp).toNat:Int)==45)=p:=⟨_,rfl⟩;obtain⟨p2,t2⟩:∃p,(((z[0]'hp).toNat:Int)==48)=p:=⟨_,rfl⟩;obtain⟨p3,t3⟩:∃p,decide ((n:Int)>1)=p:=⟨_,rfl⟩;obtain rfl:p1=Vp:=by
  cases p1
  ·rfl
  ·obtain⟨g,hg,e⟩:=h.at hp;have:=beq_iff_eq.1 t1;omega
 have h00:((0:Int)==(n:Int))=Vp:=beq_eq_false_iff_ne.2 VY;have h23:¬(p2=Vv/\p3=Vv):=by
  rintro⟨rfl,rfl⟩;exact h.lead hp (by have:=of_decide_eq_true t3;omega) (beq_iff_eq.1 t2)
 have H23:=Vk h23;have HN:=Vk hn;clear h h23;cases p2<;>cases p3
 case true.true=>exact absurd ⟨rfl,rfl⟩ H23.o
 all_goals
  go_enter func309,ntmps309;go_wp2;go_loopw [4] (λi wr=>∃k:Nat,i=VU VA (k:Int)/\k<=n/\Ext w wr) (λi _=>((n:Int)-VG i).toNat)
  case atStart=>exact⟨0,rfl,VY,Below.refl _ _⟩
  case round=>
   obtain⟨k,rfl,hk,hX⟩:=hrel;have HX:=Vk hX;clear hX;by_cases hlt:k<n
   ·have hb:k<z.size:=VY;obtain⟨g,hg,e⟩:=H.o.at hb;have q1:decide (((z[k]'hb).toNat:Int)<48)=Vp:=decide_eq_false VY;have q2:decide (((z[k]'hb).toNat:Int)>57)=Vp:=decide_eq_false VY;clear e;go_wp2;exact⟨⟨k+1,by go_num,VY,HX.o⟩,V7⟩
   ·obtain rfl:k=n:=VY;have t9:¬300<(k:Int)-0:=VY;exact ZW
def EY(a b:ByteArray)(w:Vl)(ha:Em a)(hb:Em b):VC prog 280 #[VR a,VR b] w λx w'=>x=VV (VU VA 0)/\Ext w w':=by
 have KA:=Vk (nO a w ha);have KB:=Vk (λW=>nO b W hb);exact a0x
def qO{z:ByteArray}(h:Em z){k:Nat}(hk:k<=z.size):cJ z k<10^k:=by
 induction k with
 |zero=>exact Nat.one_pos
 |succ k ih=>
  obtain⟨g,hg,e⟩:=h.at (k:=k) VY;rw[iL VY e,Nat.pow_succ];have:=ih VY;omega
def GU{k:Nat}(h:k<=17):(10:Nat)^k<=100000000000000000:=Nat.pow_le_pow_right V0 h
def RH(z:ByteArray)(x:Ending):Prop:=∃(v:Int) (ok:Bool),x=VV (VX #[VU VA v,VS ok])/\(ok=Vv->v=(cJ z z.size:Int))/\v.natAbs<3000000000000000000
def rL(y:ByteArray)(w:Vl)(h:Em y):VC prog 310 #[VR y] w λx w'=>RH y x/\Ext w w':=by
 have hp:=h.pos;have hs:y.size<=1000000:=by have:=h.len;omega
 by_cases h17:17<y.size
 ·exact a0z
 have H:=Vk h;have p1:(((y[0]'hp).toNat:Int)==45)=Vp:=by
  obtain⟨g,hg,e⟩:=h.at hp;rw[beq_eq_false_iff_ne];omega
 clear h;go_enter func310,ntmps310;go_wp2;go_loopw [4,5] (λn i wr=>∃(k:Nat),n=VU VA (cJ y k:Nat)/\i=VU VA (k:Int)/\k<=y.size/\Ext w wr) (λ_ i _=>((y.size:Int)-VG i).toNat)
 case atStart=>exact⟨0,rfl,rfl,VY,Below.refl _ _⟩
 case round=>
  obtain⟨k,rfl,rfl,hk,hX⟩:=hrel;have HX:=Vk hX;have hv:=Nat.lt_of_lt_of_le (qO H.o hk) (GU VY);obtain⟨v,hvv⟩:∃v,cJ y k=v:=⟨_,rfl⟩;rw[hvv] at hv⊢;have HV:=Vk hvv;clear hX hvv;by_cases hlt:k<y.size
  ·obtain⟨g,hg,e⟩:=H.o.at hlt;have HS:=Vk (iL hlt e);have hd:(((y[k]'hlt).toNat:Int)-48)%256=(g:Int):=by rw[e];omega
   have q:(((y[k]'hlt).toNat:Int) !=45)=Vv:=WW;exact a0y
  ·obtain rfl:k=y.size:=VY;go_wp2;go_ret2;exact⟨⟨_,_,rfl,λ_=>by rw[HV.o],VY⟩,HX.o⟩
def Up(a b:ByteArray)(x:Ending):Prop:=∃(u v:Int) (ok:Bool),x=VV (VX #[VU VA u,VU VA v,VS ok])/\u.natAbs<3000000000000000000/\v.natAbs<3000000000000000000/\(ok=Vv->u=(cJ a a.size:Int)/\v=(cJ b b.size:Int))
def IP (a b : ByteArray) (w : Vl) (ha : Em a) (hb : Em b) : VC prog 281 #[VR a, VR b] w λx w' => Up a b x /\ Ext w w' := by
  have KA := Vk (rL a w ha);have KB := Vk (λW => rL b W hb);exact a0A
end
section
open Kp
def Em.JT{z:ByteArray}(h:Em z):MD z:=
 ⟨⟨0,VY,h.pos,h.all,by have:=h.len;omega,⟨λe=>absurd e V0,λ⟨hp,e⟩=>by have:=h.all 0 (Vm _) hp hp;omega⟩⟩⟩
def Li(z:Int):(tx (Lib.itoa z)).toList=[49]↔z=1:=by
 have h1:Lib.itoa 1=[49]:=WN;rw[ByteArray.toList_eq,bn,<-h1];constructor
 ·intro h;have:=congrArg Lib.atoi h;rw[yd,yd] at this;exact VN this
 ·rintro rfl;rfl
def T0(a b:ByteArray)(e:Ending):Prop:=∃(t:ByteArray) (k:Int),e=VV (VX #[VR t,VU VA k])/\t.size<=1000/\(t.toList=[49]↔Nat.gcd (cJ a a.size) (cJ b b.size)=1)
structure NV(w:Vl)(g:Nat)(x y:Vr)(wr:Vl):Prop where
 ex:∃a b,bE wr wr.heap.size x a/\bE wr wr.heap.size y b/\aZ a/\aZ b/\a.length<=51/\b.length<=51/\Nat.gcd (au a) (au b)=g
 low:Ext w wr
def IV(a b:ByteArray)(w:Vl)(da:Em a)(db:Em b)(ht:aU w):VC prog 254 #[VR a,VR b] w λe w'=>T0 a b e/\Ext w w':=by
 have KB:=Vk (EY a b w da db);have ha:a.size<=1000000:=by have:=da.len;omega
 have hb:b.size<=1000000:=by have:=db.len;omega
 obtain⟨g,hg⟩:∃g,Nat.gcd (cJ a a.size) (cJ b b.size)=g:=⟨_,rfl⟩;have DA:=Vk da;have DB:=Vk db;have HG:=Vk hg;have HZ:=Vk (show∀z:Int,z.natAbs=g->0<=z->((tx (Lib.itoa z)).toList=[49]↔Nat.gcd (cJ a a.size) (cJ b b.size)=1) fromλz h h0=>by
  rw[hg,Li];omega)
 clear da db hg;have HT:=Vk ht;have HA:=Vk ha;have HB:=Vk hb;have hfd:∀(p:Bool) (v:Vr) (W:Vl),(Instr.field 308 (VW #[VS p,v]) 1).run prog W= .ok v W:=λ_ _ _=>VZ
 clear ht;go_enter func254,ntmps254;go_wp2_with(first
  |(go_at_call 281;fail)
  |(go_at_call 280;go_loud (refine KB.o.mono ?_);rintro e W1 ⟨rfl,hX1⟩;have X1:=Vk hX1;clear hX1))
 ·refine(IP a b W1 DA.o DB.o).mono ?_;rintro e W2 ⟨⟨x,y,ok,rfl,hx,hy,hv⟩,hX2⟩;have X2:=Vk (X1.o.tr hX2);have HV:=Vk hv;clear hX2 hv;cases ok
  ·go_wp2_with(first
    |(go_at_call 282;go_loud (refine(uN W3 b DB.o.JT).mono ?_);rintro e W4 ⟨s4,v4,l4,rfl,hs4,hc4,hl4,hX4,hv4⟩;have V4:=Vk (hv4 DB.o.all);clear hv4;have X4:=Vk (X3.o.tr hX4))
    |(go_at_call 282;go_loud (refine(uN W2 a DA.o.JT).mono ?_);rintro e W3 ⟨s3,v3,l3,rfl,hs3,hc3,hl3,hX3,hv3⟩;have V3:=Vk (hv3 DA.o.all);clear hv3;have X3:=Vk (X2.o.tr hX3)))
   have ST:=Vk (show NV w g v3 v4 W4 from⟨⟨l3,l4,hs3.grow hX4,hs4,hc3,hc4,hl3,hl4,by rw[V3.o,V4.o];exact HG.o⟩,X4.o⟩);clear hs3 hs4 hc3 hc4 hl3 hl4;go_loopw [10,11] (λx y wr=>NV w g x y wr) (λ_ y wr=>GY y wr)
   case atStart=>exact ST.o
   case round=>
    obtain⟨⟨p,q,sx,sy,cx,cy,lx,ly,hgv⟩,hX⟩:=hrel;have HGV:=Vk hgv;clear hgv;have hvy:=qn sy;obtain⟨Ay,cpy,rfl,hy1,hy2,_⟩:=id sy;obtain⟨Ax,cpx,rfl,hx1,hx2,_⟩:=id sx;unfold VJ at hy2 hx2;have HSY:=Vk sy;have HVY:=Vk hvy;have HX:=Vk hX;by_cases hq0:q=[]
    ·subst hq0;have CW:=Vk (DL wr Vp _ p sx cx VY);clear sx sy hvy hX;go_wp2_with(go_at_call 284;go_loud (refine CW.o.mono ?_);rintro e W5 ⟨t,rfl,_,ht5,hX5,ht1⟩)
     go_ret2;exact⟨⟨_,_,rfl,VY,by rw[ht1 V5,HG.o,<-HGV.o];show _↔Nat.gcd (au p) 0=1;rw[Nat.gcd_zero_right]⟩,HX.o.tr hX5⟩
    ·have hpos:0<q.length:=List.length_pos_iff.2 hq0;have hpos':decide (0<(q.length:Int))=Vv:=Wh;have CD:=Vk (zn wr p q _ _ sx sy cx.small cy VY VY hq0);clear sx sy hvy hX;go_wp2_with(go_at_call 283;go_loud (refine CD.o.mono ?_);rintro e W5 ⟨vq,vr,rl,rfl,hsr,hcr,hvr,hX5⟩)
     refine⟨⟨⟨q,rl,HSY.o.grow hX5,hsr,cy,hcr,ly,?_,by rw[hvr,Nat.gcd_comm,<-Nat.gcd_rec,Nat.gcd_comm];exact HGV.o⟩,HX.o.tr hX5⟩,?_⟩
     ·have:=kJ hcr cy.small (by rw[hvr];exact Nat.le_of_lt (Nat.mod_lt _ (nH cy.trim hq0)));omega
     ·rw[qn hsr,HVY.o,hvr];exact Nat.mod_lt _ (nH cy.trim hq0)
  ·go_wp2_with fail
   go_loopw [7,8] (λu v wr=>∃p q:Int,u=VU VA p/\v=VU VA q/\p.natAbs<3000000000000000000/\q.natAbs<3000000000000000000/\Nat.gcd p.natAbs q.natAbs=g/\Ext w wr) (λ_ v _=>(VG v).natAbs)
   case atStart=>exact⟨x,y,rfl,rfl,hx,hy,by rw[(HV.o V5).1,(HV.o V5).2,Int.natAbs_natCast,Int.natAbs_natCast];exact HG.o,X2.o⟩
   case round=>
    obtain⟨p,q,rfl,rfl,hp,hq,hgv,hX⟩:=hrel;have HGV:=Vk hgv;clear hgv;have HX:=Vk hX;clear hX;by_cases h0:q=0
    ·subst h0;have HGP:=Vk (show(max p (-p)).natAbs=g by have h:=HGV.o;simp at h;omega);have HP0:=Vk (show 0<=max p (-p) by omega);have hmx:(max p (-p)).natAbs<3000000000000000000:=VY;have w1:VA.wrap (-p)= -p:=VI _ VY;obtain⟨z,hz⟩:∃z,max p (-p)=z:=⟨_,rfl⟩;rw[hz] at hmx HGP HP0;go_wp2_with(go_at_call 182;go_loud (refine(jo z wr VY VY (HT.o.below HX.o (Vm _))).mono ?_);rintro e W3 ⟨rfl,hX3⟩)
     go_ret2;exact⟨⟨_,_,rfl,Qq VY VY,HZ.o z HGP.o HP0.o⟩,HX.o.tr hX3⟩
    ·have h1:(p.tmod q).natAbs=p.natAbs%q.natAbs:=Int.natAbs_tmod _ _;have h2:p.natAbs%q.natAbs<q.natAbs:=Nat.mod_lt _ VY;have w1:VA.wrap (p.tmod q)=p.tmod q:=VI _ VY;have t0:(q !=0)=Vv:=bne_iff_ne.2 h0;have H1:=Vk (show(p.tmod q).natAbs<q.natAbs by omega);obtain⟨r,hr⟩:∃r,p.tmod q=r:=⟨_,rfl⟩;have HGR:=Vk (show Nat.gcd q.natAbs (p.tmod q).natAbs=g by rw[h1,Nat.gcd_comm,<-Nat.gcd_rec,Nat.gcd_comm];exact HGV.o);rw[hr] at w1 H1 HGR;clear h1 h2;go_wp2_with fail
     go_quiet (fail)
     go_wp2
     go_round
     case rel=>exact⟨q,r,rfl,rfl,hq,by have:=H1.o;omega,HGR.o,below_drewN HX.o _⟩
     case measure=>simp[VG];exact H1.o
end
section
open Kp
def Dg.iD{z:ByteArray}(h:Dg z)(hs:z.size<=300):Em z:=⟨h.pos,hs,λm _ _ hm=>h.all m hm,h.lead⟩
def yT{k:Nat}(h:k<=9):(10:Nat)^k<=1000000000:=Nat.pow_le_pow_right V0 h
def kS(y:ByteArray)(w:Vl)(h:Em y)(h9:y.size<=9):VC prog 253 #[VR y] w λx w'=>x=VV (VU VA (cJ y y.size:Nat))/\Ext w w':=by
 have H:=Vk h;clear h;go_enter func253,ntmps253;go_wp2;go_loopw [3,4] (λn i wr=>∃(k:Nat),n=VU VA (cJ y k:Nat)/\i=VU VA (k:Int)/\k<=y.size/\Ext w wr) (λ_ i _=>((y.size:Int)-VG i).toNat)
 case atStart=>exact⟨0,rfl,rfl,VY,Below.refl _ _⟩
 case round=>
  obtain⟨k,rfl,rfl,hk,hX⟩:=hrel;have HX:=Vk hX;have hv:=Nat.lt_of_lt_of_le (qO H.o hk) (yT VY);obtain⟨v,hvv⟩:∃v,cJ y k=v:=⟨_,rfl⟩;rw[hvv] at hv⊢;have HV:=Vk hvv;clear hX hvv;by_cases hlt:k<y.size
  ·obtain⟨g,hg,e⟩:=H.o.at hlt;have HS:=Vk (iL hlt e);have hd:(((y[k]'hlt).toNat:Int)-48)%256=(g:Int):=by rw[e];omega
   exact a0y
  ·obtain rfl:k=y.size:=VY;go_wp2;go_ret;exact⟨Wv,HX.o⟩
def IJ(a b:Nat)(w:Vl)(hb:b<1000000000000000000):VC prog 252 #[VU VA (a:Int),VU VA (b:Int)] w λx w'=>x=VV (VU VA (Nat.gcd a b:Nat))/\Ext w w':=by
 obtain⟨g,hg⟩:∃g,Nat.gcd a b=g:=⟨_,rfl⟩;rw[hg];have HG:=Vk hg;clear hg;go_enter func252,ntmps252;go_wp2;go_loopw [0,1] (λx y wr=>∃p q:Nat,x=VU VA (p:Int)/\y=VU VA (q:Int)/\q<1000000000000000000/\Nat.gcd p q=g/\Ext w wr) (λ_ y _=>(VG y).natAbs)
 case atStart=>exact⟨a,b,rfl,rfl,hb,HG.o,Below.refl _ _⟩
 case round=>
  obtain⟨p,q,rfl,rfl,hq,hg,hX⟩:=hrel;have HX:=Vk hX;have HV:=Vk hg;clear hX hg;by_cases h0:q=0
  ·subst h0;go_wp2;go_ret;exact⟨by rw[<-HV.o,Nat.gcd_zero_right];rfl,HX.o⟩
  ·obtain⟨r,hr⟩:∃r,p%q=r:=⟨_,rfl⟩;have h1:(p:Int).tmod q=(r:Int):=by rw[IntWalk.rem_in _ _ VY,<-hr];simp
   have h2:r<q:=by rw[<-hr];exact Nat.mod_lt _ VY
   have HGR:=Vk (show Nat.gcd q r=g by rw[<-hr,Nat.gcd_comm,<-Nat.gcd_rec,Nat.gcd_comm];exact HV.o);have w1:VA.wrap (r:Int)=r:=VI _ VY;have t0:((q:Int) !=0)=Vv:=bne_iff_ne.2 VY;have h00:¬(q:Int)=0:=VY;clear hr;go_wp2_with fail
   go_quiet (fail)
   go_wp2
   go_round
   case rel=>exact⟨q,r,rfl,rfl,VY,HGR.o,below_drewN HX.o _⟩
   case measure=>simp[VG];exact h2
end
section
open Kp
def qo(z:ByteArray):(aM z).2.2.1.size<=z.size:=by
 have key:∀(y:ByteArray) (q:Nat) (m:Bool),y.size<=z.size->(if q<y.size then(m,y.extract 0 q,y.extract (q+1) y.size,Vv) else(m,y,(⟨#[]⟩:ByteArray),Vp)).2.2.1.size<=z.size:=by
  intro y q m hy;split
  ·show(y.extract (q+1) y.size).size<=z.size;rw[ByteArray.size_extract];omega
  ·exact Nat.zero_le _
 exact a0w
structure T4(z:ByteArray):Prop where
 pos:0<z.size
 num:0<(pN (aM z)).size
 den:0<(pD (aM z)).size
def vD(g sl p1 p2 p3 p4 p5 p6:Bool):Bool:= !(sl&&(p1||p2))&& !(g&&p3)&& !p4&& !p5&&(!sl||p6)
def jF(z:ByteArray):Prop:=
 let v:=aM z
 Dg v.2.1/\(v.2.2.2=Vv->Dg v.2.2.1)/\vD v.1 v.2.2.2 (v.2.2.1.toList==[48]) (v.2.2.1.toList==[49]) (v.2.1.toList==[48]) (decide (300<v.2.1.size)) (decide (300<v.2.2.1.size)) (Nat.gcd (cJ v.2.1 v.2.1.size) (cJ v.2.2.1 v.2.2.1.size)==1)=Vv
def jF.num{z:ByteArray}(h:jF z):T4 z:=by
 obtain⟨h1,h2,_⟩:=h;have hn:=lg z;have:=h1.pos;refine⟨VY,?_,?_⟩
 ·unfold pN;split
  ·rw[ByteArray.size_append];omega
  ·exact h1.pos
 ·unfold pD;split
  ·exact(h2 Wd).pos
  ·decide
def Rr(z:ByteArray)(e:Ending):Prop:=∃k:Int,e=VV (VU VA k)/\(k=0↔jF z)
def jr (z : ByteArray) (w : Vl) (hs : z.size <= 1000000) (ht : aU w) : VC prog 227 #[VR z] w λe w' => Rr z e /\ Ext w w' := by
  have HT := Vk ht;have KS := Vk (nY z w hs);have hn := lg z;have hd := qo z;have HO := Vk (show jF z ↔ jF z from Iff.rfl);unfold Rr;unfold jF at HO ⊢;obtain ⟨⟨g, n, d, sl⟩, hv⟩ : ∃ v, aM z = v := ⟨_, rfl⟩;rw [hv] at KS hn hd ⊢;dsimp only at hn hd ⊢;clear hv ht HO;have hnn : n.size <= 1000000 := VY;have hdd : d.size <= 1000000 := VY;have DN := Vk (λW => uK n W hnn);have DD := Vk (λW => uK d W hdd);obtain ⟨p1, h1⟩ : ∃ p, (d.toList == [48]) = p := ⟨_, rfl⟩;obtain ⟨p2, h2⟩ : ∃ p, (d.toList == [49]) = p := ⟨_, rfl⟩;obtain ⟨p3, h3⟩ : ∃ p, (n.toList == [48]) = p := ⟨_, rfl⟩;obtain ⟨p4, h4⟩ : ∃ p, decide (300 < n.size) = p := ⟨_, rfl⟩;obtain ⟨p5, h5⟩ : ∃ p, decide (300 < d.size) = p := ⟨_, rfl⟩;obtain ⟨q, hq⟩ : ∃ q, Nat.gcd (cJ n n.size) (cJ d d.size) = q := ⟨_, rfl⟩;obtain ⟨p6, h6⟩ : ∃ p, (q == 1) = p := ⟨_, rfl⟩;rw [h1, h2, h3, h4, h5, hq, h6];have h4i : decide (300 < (n.size : Int)) = p4 := by rw [<- h4]; simp; omega
  have h5i : decide (300 < (d.size : Int)) = p5 := by rw [<- h5]; simp; omega
  have h6i : ((q : Int) != 1) = !p6 := by
    rw [<- h6]; cases hb : (q == 1)
    · rw [beq_eq_false_iff_ne] at hb; rw [Bool.not_false, bne_iff_ne]; omega
    · rw [beq_iff_eq] at hb; subst hb; rfl
  have HT6 := Vk (show ∀ t : ByteArray, (t.toList = [49] ↔ Nat.gcd (cJ n n.size) (cJ d d.size) = 1) -> (t.toList == [49]) = p6 fromλt h => by
    rw [hq] at h; rw [<- h6, Bool.eq_iff_iff, beq_iff_eq, beq_iff_eq]; exact h)
  have HQ := Vk hq;have hq18 : q.gcd 0 = q := Nat.gcd_zero_right q;clear hq h4 h5 h6 hq18;cases g <;> cases sl
  all_goals
    go_enter func227, ntmps227;go_wp2_with (go_at_call 250; go_must (refine KS.o.mono ?_); unfold pM; rintro e W1 ⟨rfl, hX1⟩; have HX1 := Vk hX1; clear hX1)
    refine (DN.o W1).mono ?_;rintro e W2 ⟨⟨b, rfl, hb⟩, hX2⟩;have X2 := Vk (HX1.o.tr hX2);have HB := Vk hb;clear hX2 hb;cases b
  all_goals (cases p4 <;> cases p5)
  all_goals go_wp2_with (first
      | (go_at_call 254; go_loud (refine (IV n d _ ((HB.o.1 V5).iD (by have := of_decide_eq_false h4i; omega)) ((HB3.o.1 (by first | simp | assumption)).iD (by have := of_decide_eq_false h5i; omega)) (HT.o.below X3.o (Vm _))).mono ?_); rintro e W4 ⟨⟨t, k, rfl, _, ht⟩, hX4⟩; have X4 := Vk (X3.o.tr hX4); have ht6 := HT6.o t ht; clear hX4 ht)
      | (go_at_call 252; go_loud (refine (IJ (cJ n n.size) (cJ d d.size) _ (by have := Nat.lt_of_lt_of_le (qO D3.o (Vm _)) (yT VY); omega)).mono ?_); rw [HQ.o]; rintro e W6 ⟨rfl, hX6⟩; have X6 := Vk (X5.o.tr hX6); clear hX6)
      | (go_at_call 253; have D3 := Vk ((HB3.o.1 (by first | simp | assumption)).iD VY); (with_reducible refine (kS d _ D3.o VY).mono ?_); rintro e W5 ⟨rfl, hX5⟩; have X5 := Vk (X4.o.tr hX5); clear hX5)
      | (go_at_call 253; go_loud (refine (kS n _ ((HB.o.1 V5).iD VY) VY).mono ?_); rintro e W4 ⟨rfl, hX4⟩; have X4 := Vk (X3.o.tr hX4); clear hX4)
      | (go_at_call 251; go_loud (refine (DD.o _).mono ?_); rintro e W3 ⟨⟨b3, rfl, hb3⟩, hX3⟩; have X3 := Vk (X2.o.tr hX3); have HB3 := Vk hb3; clear hX3 hb3))
  all_goals go_ret
  all_goals refine ⟨?_, by first | exact X2.o | exact X3.o | exact X4.o | exact X6.o⟩
  all_goals first
    | (refine ⟨0, rfl, ⟨λ_ => ⟨HB.o.1 ?_, λh => ?_, ?_⟩, λ_ => rfl⟩⟩
       · first | rfl | trivial
       · first | (cases h; done) | (apply HB3.o.1; first | rfl | trivial | assumption)
       · simp_all [vD]; done)
    | (refine ⟨_, rfl, ⟨λh => absurd h V0, λ⟨h, _⟩ => ?_⟩⟩
       have hh := HB.o.2 h;cases hh; done)
    | (refine ⟨_, rfl, ⟨λh => absurd h V0, λ⟨_, _, h⟩ => ?_⟩⟩
       simp_all [vD]; done)
    | (refine ⟨_, rfl, ⟨λh => absurd h V0, λ⟨_, h, _⟩ => ?_⟩⟩
       have hh := HB3.o.2 (h (by first | rfl | trivial))
       simp_all; done)
    | trace_state
end
section
open Kp
def Tw(z:ByteArray)(e:Ending):Prop:=∃(a b:ByteArray) (k:Int),e=VV (VX #[VR a,VR b,VU VA k])/\(jF z->k=0/\a=pN (aM z)/\b=pD (aM z))
def pZ(z:ByteArray)(w:Vl)(hs:z.size<=1000000)(ht:aU w):VC prog 228 #[VR z] w λe w'=>Tw z e/\Ext w w':=by
 have KC:=Vk (jr z w hs ht);have KP:=Vk (λW=>nv z W hs);go_enter func228,ntmps228;go_wp2_with(first
  |(go_at_call 255;go_loud (refine(KP.o _).mono ?_);rintro e W2 ⟨rfl,hX2⟩;have X2:=Vk (X1.o.tr hX2))
  |(go_at_call 227;go_loud (refine KC.o.mono ?_);rintro e W1 ⟨⟨k,rfl,hk⟩,hX1⟩;have X1:=Vk hX1;have HK:=Vk hk;clear hX1 hk))
 ·go_ret3
  exact⟨⟨_,_,_,rfl,λh=>absurd (HK.o.2 h) WY⟩,X1.o⟩
 ·go_ret3
  exact⟨⟨_,_,_,rfl,λ_=>⟨rfl,rfl,rfl⟩⟩,X2.o⟩
def Hl(z:ByteArray):(pN (aM z)).size<=z.size+1:=by
 have h:=lg z;unfold pN;split
 ·rw[ByteArray.size_append];show 1+_<=_;omega
 ·omega
def G7(z:ByteArray):(pD (aM z)).size<=z.size+1:=by
 have h:=qo z;unfold pD;split
 ·omega
 ·show 1<=_;omega
end
section
open Kp
def Uj(ts:List ByteArray):List Vr:=ts.map Vr.string
def M4{ts:List ByteArray}{i:Nat}(h:i<ts.length):(Uj ts)[i]?=Vq (VR (ts.getD i ⟨#[]⟩)):=by
 unfold Uj;rw[List.getElem?_map,Vt h];simp[List.getD,h]
end
section
open Kp
attribute [local go_sem] aS ki fZ fW fX fV eQ gm gH gz gj
def ej(n:Nat):Bool:=(decide (20<n)&&decide (n<299))||decide (604<n)
def Ns(s:ByteArray)(w:Vl):VC prog 84 #[VR s] w λe w'=>e=VV (VS (ej s.size))/\w'=w:=by
 by_cases h1:s.size<=20
 ·have HR:=Vk (show ej s.size=Vp by unfold ej;simp;omega);go_enter func84,ntmps84;go_wp2;go_ret;exact⟨by rw[HR.o];simp;omega,rfl⟩
 by_cases h2:s.size<299
 ·have HR:=Vk (show ej s.size=Vv by unfold ej;simp;omega);have t1:decide (20<(s.size:Int))=Vv:=Wh;exact a0B
 ·have HR:=Vk (show ej s.size=decide (604<(s.size:Int)) by unfold ej;rw[Bool.eq_iff_iff];simp;omega);have t1:decide (20<(s.size:Int))=Vv:=Wh;have t2:decide ((s.size:Int)<299)=Vp:=V8;exact a0B
def DJ(w:Vl)(c cap:Nat)(T:VK)(x y:Int)(s:By)(hr:cK w c T [VU VA x,VU VA y,VR (tx s)]):
  VC prog 39 #[VQ (Vq ⟨c,0,Vo⟩) 1 cap] w λe w'=>e=VV (VS (decide (50<s.length)))/\w'=w:=by
 have c2:w.cell? ⟨c,2,Vo⟩=Vq (VR (tx s)):=by rw[hr.cell];rfl
 clear hr;by_cases h:50<s.length
 ·have HR:=Vk (show decide (50<s.length)=Vv by simpa using h);go_enter func39,ntmps39;go_wp2;refine wp_loop_rounds 2 ?_;exact Zy
 ·have HR:=Vk (show decide (50<s.length)=Vp by simpa using h);go_enter func39,ntmps39;go_wp2;refine wp_loop_rounds 2 ?_;exact Zx
def kU(a b c d:By):Bool:=ej a.length||ej b.length||ej c.length||ej d.length
def mK(s:By)(w:Vl):VC prog 84 #[VR (tx s)] w λe w'=>e=VV (VS (ej s.length))/\w'=w:=by
 have:=Ns (tx s) w;rw[ai] at this;exact this
def rZ(w:Vl)(k cap:Nat)(T:VK)(x:Int)(a b c d:By)(hr:cK w k T [VU VA x,VR (tx a),VR (tx b),VR (tx c),VR (tx d)]):
  VC prog 38 #[VQ (Vq ⟨k,0,Vo⟩) 1 cap] w λe w'=>e=VV (VS (kU a b c d))/\w'=w:=by
 have c1:w.cell? ⟨k,1,Vo⟩=Vq (VR (tx a)):=by rw[hr.cell];rfl
 have c2:w.cell? ⟨k,2,Vo⟩=Vq (VR (tx b)):=by rw[hr.cell];rfl
 have c3:w.cell? ⟨k,3,Vo⟩=Vq (VR (tx c)):=by rw[hr.cell];rfl
 have c4:w.cell? ⟨k,4,Vo⟩=Vq (VR (tx d)):=by rw[hr.cell];rfl
 clear hr;cases ta:ej a.length
 ·cases tb:ej b.length
  ·cases tc:ej c.length
   ·cases td:ej d.length
    ·have HR:=Vk (show kU a b c d=Vp by unfold kU;simp[ta,tb,tc,td]);go_enter func38,ntmps38;go_wp2;refine wp_loop_rounds 2 ?_;rw[rounds_succ];go_wp2_with(go_at_call 84;refine(mK _ _).mono ?_;rintro e w1 ⟨rfl,rfl⟩)
     exact Zy
    ·have HR:=Vk (show kU a b c d=Vv by unfold kU;simp[td]);exact a0C
   ·have HR:=Vk (show kU a b c d=Vv by unfold kU;simp[tc]);exact a0C
  ·have HR:=Vk (show kU a b c d=Vv by unfold kU;simp[tb]);exact a0C
 ·have HR:=Vk (show kU a b c d=Vv by unfold kU;simp[ta]);exact a0C
def cK.Uz(w:Vl)(o o2:Obj)(T:VK)(l:List Vr):cK (((w.alloc o).alloc o2).alloc (.cells l.toArray T)) (w.heap.size+1+1) T l:=by
 have:=cK.RW (w.alloc o) o2 T l;rw[VF] at this;exact this
def dA(e:Ed):Bool:=decide (40<e.text.length)||decide (17<e.gaps.length)||kU e.oleft e.oright e.olow e.ohigh||decide (50<e.lweight.length)
def wR(w:Vl)(e:Ed)(ga:Option VM)(gc:Nat):
  VC prog 16 #[VW (aL e (VQ ga e.gaps.length gc))] w λr w'=>r=VV (VS (dA e))/\VL w.heap.size w w':=by
 have HB0:=Vk (show VL w.heap.size w (w.alloc (.cells (aL e (VQ ga e.gaps.length gc)) 68)) from(Below.refl _ _).alloc (Vm _) _);by_cases h1:40<e.text.length
 ·have HR:=Vk (show dA e=Vv by unfold dA;simp[h1]);go_enter func16,ntmps16;go_wp2;go_ret;exact⟨V9,HB0.o⟩
 by_cases h2:17<e.gaps.length
 ·have HR:=Vk (show dA e=Vv by unfold dA;simp[h2]);go_enter func16,ntmps16;go_wp2;go_ret;exact⟨V9,HB0.o⟩
 cases h3:kU e.oleft e.oright e.olow e.ohigh
 ·have HR:=Vk (show dA e=(decide (40<(e.text.length:Int))||decide (17<(e.gaps.length:Int))||decide (50<e.lweight.length)) by unfold dA;rw[h3,Bool.eq_iff_iff];simp;omega);go_enter func16,ntmps16;go_wp2_with(first
   |(go_at_call 38;go_must(refine(rZ _ _ _ 57 e.oside e.oleft e.oright e.olow e.ohigh (cK.RW w _ _ _)).mono ?_);rintro r W1 ⟨rfl,rfl⟩)
   |(go_at_call 39;go_must(refine(DJ _ _ _ 64 e.lkind e.lside e.lweight (cK.Uz w _ _ _ _)).mono ?_);rintro r W1 ⟨rfl,rfl⟩))
  go_ret;exact⟨V9,(HB0.o.alloc V5 _).alloc Wa _⟩
 ·have HR:=Vk (show dA e=Vv by unfold dA;simp[h3]);go_enter func16,ntmps16;go_wp2_with(go_at_call 38;go_must(refine(rZ _ _ _ 57 e.oside e.oleft e.oright e.olow e.ohigh (cK.RW w _ _ _)).mono ?_);rintro r W1 ⟨rfl,rfl⟩)
  go_ret;exact⟨V9,HB0.o.alloc V5 _⟩
end
section
open Kp
def hH(t:Tl):dL t=if t.width<1\/2000<t.width\/t.length<1\/2000<t.length\/t.lap<0\/t.length<=t.lap\/t.tail<0\/1000<t.tail then 2 else 0:=by
 unfold dL aO;by_cases h:t.width<1\/2000<t.width\/t.length<1\/2000<t.length\/t.lap<0\/t.length<=t.lap\/t.tail<0\/1000<t.tail
 ·rw[if_pos h,if_neg];exact a0F
 ·rw[if_neg h,if_pos];exact a0F
def ze(t:Tl)(w:Vl):VC prog 52 #[VW (Uh t).toArray] w λe w'=>e=VV (VU VA (dL t))/\Ext w w':=by
 have E0:=Vk (show Ext w (w.alloc (.cells (Uh t).toArray 30)) from(Below.refl _ _).alloc (Vm _) _);by_cases h1:t.width<1
 ·have HR:=Vk (show dL t=2 by rw[hH,if_pos VY]);have d1:decide (t.width<1)=Vv:=by rw[decide_eq_true_eq];exact h1
  exact a0G
 by_cases h2:2000<t.width
 ·have HR:=Vk (show dL t=2 by rw[hH,if_pos VY]);have d1:decide (t.width<1)=Vp:=WB;have d2:decide (2000<t.width)=Vv:=by rw[decide_eq_true_eq];exact h2
  exact a0G
 by_cases h3:t.length<1
 ·have HR:=Vk (show dL t=2 by rw[hH,if_pos VY]);have d1:decide (t.width<1)=Vp:=WB;have d2:decide (2000<t.width)=Vp:=WJ;have d3:decide (t.length<1)=Vv:=by rw[decide_eq_true_eq];exact h3
  exact a0G
 by_cases h4:2000<t.length
 ·have HR:=Vk (show dL t=2 by rw[hH,if_pos VY]);have d1:decide (t.width<1)=Vp:=WB;have d2:decide (2000<t.width)=Vp:=WJ;have d3:decide (t.length<1)=Vp:=WU;have d4:decide (2000<t.length)=Vv:=by rw[decide_eq_true_eq];exact h4
  exact a0G
 by_cases h5:t.lap<0
 ·have HR:=Vk (show dL t=2 by rw[hH,if_pos VY]);have d1:decide (t.width<1)=Vp:=WB;have d2:decide (2000<t.width)=Vp:=WJ;have d3:decide (t.length<1)=Vp:=WU;have d4:decide (2000<t.length)=Vp:=Xd;have d5:decide (t.lap<0)=Vv:=by rw[decide_eq_true_eq];exact h5
  exact a0G
 by_cases h6:t.length<=t.lap
 ·have HR:=Vk (show dL t=2 by rw[hH,if_pos VY]);have d1:decide (t.width<1)=Vp:=WB;have d2:decide (2000<t.width)=Vp:=WJ;have d3:decide (t.length<1)=Vp:=WU;have d4:decide (2000<t.length)=Vp:=Xd;have d5:decide (t.lap<0)=Vp:=Xu;have d6:decide (t.length<=t.lap)=Vv:=by rw[decide_eq_true_eq];exact h6
  exact a0G
 by_cases h7:t.tail<0
 ·have HR:=Vk (show dL t=2 by rw[hH,if_pos VY]);have d1:decide (t.width<1)=Vp:=WB;have d2:decide (2000<t.width)=Vp:=WJ;have d3:decide (t.length<1)=Vp:=WU;have d4:decide (2000<t.length)=Vp:=Xd;have d5:decide (t.lap<0)=Vp:=Xu;have d6:decide (t.length<=t.lap)=Vp:=by rw[decide_eq_false_iff_not];exact h6
  have d7:decide (t.tail<0)=Vv:=by rw[decide_eq_true_eq];exact h7
  exact a0G
 by_cases h8:1000<t.tail
 ·have HR:=Vk (show dL t=2 by rw[hH,if_pos VY]);have d1:decide (t.width<1)=Vp:=WB;have d2:decide (2000<t.width)=Vp:=WJ;have d3:decide (t.length<1)=Vp:=WU;have d4:decide (2000<t.length)=Vp:=Xd;have d5:decide (t.lap<0)=Vp:=Xu;have d6:decide (t.length<=t.lap)=Vp:=by rw[decide_eq_false_iff_not];exact h6
  have d7:decide (t.tail<0)=Vp:=by rw[decide_eq_false_iff_not];exact h7
  have d8:decide (1000<t.tail)=Vv:=by rw[decide_eq_true_eq];exact h8
  exact a0G
 ·have HR:=Vk (show dL t=0 by rw[hH,if_neg VY]);have d1:decide (t.width<1)=Vp:=WB;have d2:decide (2000<t.width)=Vp:=WJ;have d3:decide (t.length<1)=Vp:=WU;have d4:decide (2000<t.length)=Vp:=Xd;have d5:decide (t.lap<0)=Vp:=Xu;have d6:decide (t.length<=t.lap)=Vp:=by rw[decide_eq_false_iff_not];exact h6
  have d7:decide (t.tail<0)=Vp:=by rw[decide_eq_false_iff_not];exact h7
  have d8:decide (1000<t.tail)=Vp:=by rw[decide_eq_false_iff_not];exact h8
  exact a0G
end
end Go.Proofs.YtmliacdegmklaaaGreatDoor
