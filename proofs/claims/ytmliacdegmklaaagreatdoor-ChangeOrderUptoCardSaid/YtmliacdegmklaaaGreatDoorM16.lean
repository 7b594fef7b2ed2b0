/- ChangeReplays of kingpostlaw58: part 16 of its proof (merged and shortened by program). -/
import Derived.Test.YtmliacdegmklaaaGreatDoorM08
import Derived.Test.YtmliacdegmklaaaGreatDoorM12
import Derived.Test.YtmliacdegmklaaaGreatDoorM13
import Derived.Test.YtmliacdegmklaaaGreatDoorM14
set_option linter.unusedVariables false
set_option linter.unusedSimpArgs false
set_option linter.defProp false
set_option maxHeartbeats 8000000
set_option maxRecDepth 100000
open Go.RowKit Go.Shelf Go.Proofs.Tryz
open Array renaming getElem?_eq_some_iff→Vz
open Bool renaming false→Vp,true→Vv,and_eq_true_iff→Vw
open Go renaming World→Vl,Value→Vr,undef→Vs,wpOp_step→Vx,Calls→VC,maxLen→VJ,TypeId→VK,Addr→VM,Rows→VP
open Go.AllReady renaming cons→VH,nil→VO
open Go.Ending renaming returned→VV
open Go.IntKind renaming i64→VA
open Go.IntWalk renaming i64_in→VI
open Go.Lib renaming hid→Vk
open Go.RowKit renaming intOf→VG,Below→VL
open Go.Value renaming slice→VQ,string→VR,bool→VS,pointer→VT,int→VU,agg→VW,tuple→VX
open Go.World renaming alloc_heap_new→Vy,size_alloc→VF
open List renaming getD_eq_getElem?_getD→Vn,getElem?_eq_getElem→Vt,length_map→Vu,length_append→VD
open Nat renaming le_refl→Vm,le_trans→VB,mul_comm→VE
open Option renaming none→Vo,some→Vq
open Option.some renaming inj→VN
open Go.Proofs.YtmliacdegmklaaaGreatDoor
namespace Go.Proofs.YtmliacdegmklaaaGreatDoor
section
open Kp
def qC{w:Vl}{B:Nat}{ga:Option VM}{gc:Nat}{l:List (Int×Int)}(h:bK 2 w B ga gc (di l)):cj w B ga gc l:=by
 obtain⟨h1,h2,h3⟩:=h;rw[Vu] at h1 h3;refine⟨h1,h2,λhn=> ?_⟩;obtain⟨b,off,e,hB,hc⟩:=h3 hn;refine⟨b,off,e,hB,λj hj=> ?_⟩;have c0:=hc j hj 0 V0;have c1:=hc j hj 1 V0;rw[mB hj] at c0 c1;have e1:l.getD j (0,0)=l[j]:=by rw[Vn,Vt hj];rfl
 rw[e1] at c0 c1;exact⟨c0,c1⟩
def Hy(w:Vl)(x:Br)(ga ga':Option VM)(gc gc':Nat)(h:bK 2 w w.heap.size ga gc (di x.gaps))(h':bK 2 w w.heap.size ga' gc' (di x.gaps)):
  VC prog 28 #[VW (qU x ga gc).toArray,VW (qU x ga' gc').toArray] w λe w'=>e=VV (VS Vv)/\Ext w w':=by
 obtain⟨W0,hW0⟩:∃W0,(w.alloc (.cells (qU x ga gc).toArray 62)).alloc (.cells (qU x ga' gc').toArray 62)=W0:=⟨_,rfl⟩;have e0:Ext w W0:=Ws;have E0:=Vk e0;have RA:ah W0 w.heap.size 62 (qU x ga gc):=by rw[<-hW0];exact(ah.new w _ _).ext ((Below.refl _ _).alloc (Vm _) _)
 have RB:ah W0 (w.heap.size+1) 62 (qU x ga' gc'):=by
  have h:=ah.new (w.alloc (.cells (qU x ga gc).toArray 62)) 62 (qU x ga' gc');rw[VF] at h;rw[<-hW0];exact h
 have K:=xQ W0 ga ga' gc gc' x.gaps x.gaps ((qC ((h.below e0).more e0.size))) ((qC ((h'.below e0).more e0.size)));rw[beq_self_eq_true] at K;have KK:=Vk K;have HW:=Vk hW0;have cA:=RA.cell;have cB:=RB.cell;clear K hW0 e0 h h' RA RB;go_enter func28,ntmps28;go_wp2_with(fail)
 rw[show(w.alloc (.cells #[VU VA x.width,VU VA x.depth,VU VA x.length,VU VA x.count,VU VA x.cost,VQ ga x.gaps.length gc] 62)).alloc (.cells #[VU VA x.width,VU VA x.depth,VU VA x.length,VU VA x.count,VU VA x.cost,VQ ga' x.gaps.length gc'] 62)=W0 from HW.o];go_wp2_with(go_at_call 29;go_must(refine KK.o.mono ?_);rintro e W1 ⟨rfl,hX1⟩)
 go_ret;exact⟨rfl,E0.o.tr hX1⟩
def Lq(w:Vl)(A A':Option VM)(cap cap':Nat)(l:List Br)(hr:fk w w.heap.size A cap l)(hr':fk w w.heap.size A' cap' l):
  VC prog 33 #[VQ A l.length cap,VQ A' l.length cap',.func (.func 28) #[] #[]] w λe w'=>e=VV (VS Vv)/\Ext w w':=by
 obtain⟨h1,h2,h3⟩:=hr;obtain⟨h1',h2',h3'⟩:=hr';unfold VJ at h2 h2';have H3:=Vk h3;have H4:=Vk h3';have g1:=enters_of func28 VZ rfl;clear h3 h3';go_enter func33,ntmps33;go_wp2;go_loopw [17] (λi wr=>OC w l.length i wr) (λi _=>((l.length:Int)-VG i).toNat)
 case atStart=>exact⟨0,VY,rfl,Ext.aB _⟩
 case round=>
  obtain⟨m,hm,rfl,hX⟩:=hrel;have HX:=Vk hX;clear hX;by_cases hlt:m<l.length
  ·obtain⟨b,off,rfl,hB,hc⟩:=H3.o VY;obtain⟨b',off',rfl,hB',hc'⟩:=H4.o VY;obtain⟨ga,gc,c,hs⟩:=hc m hlt;obtain⟨ga',gc',d,hs'⟩:=hc' m hlt;obtain⟨x,hx⟩:∃x,l.getD m oe=x:=⟨_,rfl⟩;rw[hx] at c d hs hs';have c0:=(HX.o.cell (p:=⟨b,off+6*m+0,Vo⟩) hB).trans (c 0 V0);have d0:=(HX.o.cell (p:=⟨b',off'+6*m+0,Vo⟩) hB').trans (d 0 V0);have c1:=(HX.o.cell (p:=⟨b,off+6*m+1,Vo⟩) hB).trans (c 1 V0);have d1:=(HX.o.cell (p:=⟨b',off'+6*m+1,Vo⟩) hB').trans (d 1 V0);have c2:=(HX.o.cell (p:=⟨b,off+6*m+2,Vo⟩) hB).trans (c 2 V0);have d2:=(HX.o.cell (p:=⟨b',off'+6*m+2,Vo⟩) hB').trans (d 2 V0);have c3:=(HX.o.cell (p:=⟨b,off+6*m+3,Vo⟩) hB).trans (c 3 V0);have d3:=(HX.o.cell (p:=⟨b',off'+6*m+3,Vo⟩) hB').trans (d 3 V0);have c4:=(HX.o.cell (p:=⟨b,off+6*m+4,Vo⟩) hB).trans (c 4 V0);have d4:=(HX.o.cell (p:=⟨b',off'+6*m+4,Vo⟩) hB').trans (d 4 V0);have c5:=(HX.o.cell (p:=⟨b,off+6*m+5,Vo⟩) hB).trans (c 5 V0);have d5:=(HX.o.cell (p:=⟨b',off'+6*m+5,Vo⟩) hB').trans (d 5 V0);rw[VE] at c0 d0 c1 d1 c2 d2 c3 d3 c4 d4 c5 d5;rw[Nat.add_zero] at c0 d0;have KS:=Vk (λ(W:Vl) (h:Ext wr W)=>Hy W x ga ga' gc gc' ((hs.below (HX.o.tr h)).more (HX.o.tr h).size) ((hs'.below (HX.o.tr h)).more (HX.o.tr h).size));have hbw:b<wr.heap.size:=Nat.lt_of_lt_of_le hB HX.o.size;have hbw':b'<wr.heap.size:=Nat.lt_of_lt_of_le hB' HX.o.size;clear hx hc hc' c d hs hs';have tlt:decide ((m:Int)<(l.length:Int))=Vv:=decide_eq_true VY;have e3:(m:Int)<(l.length:Int):=VY;have HA:=Vk (λo p=>(show Ext wr ((wr.alloc o).alloc p) from((Below.refl _ _).alloc (Vm _) _).alloc V5 _));go_wp2_with(go_at_call 28;go_must(refine(KS.o _ (HA.o _ _)).mono ?_);rintro e W1 ⟨rfl,hX1⟩)
   exact⟨⟨m+1,VY,V5,HX.o.tr ((HA.o _ _).tr hX1)⟩,V7⟩
  ·exact ZX
end
section
open Kp
def UR{x:Int}(h1: -1<=x)(h2:x<=1):0<=x*x/\x*x<=1:=by
 rcases(show x= -1\/x=0\/x=1 by omega) with rfl|rfl|rfl<;>decide
end
section
open Kp
def jm(P:Prop)(x:Ending):Prop:=∃b:Bool,x=VV (VS b)/\(b=Vp->P)
structure Kx(rs:List (List Sd)):Prop where
 f:rs.flatten.length<=40
 n:rs.length<=40
def BB(w:Vl)(A:Option VM)(cap:Nat)(rs:List (List Sd))(hr:eB w w.heap.size A cap rs)(n:Int)(hbig:rs.flatten.length<=4000000000):
  VC prog 102 #[VW #[VQ A rs.length cap],VU VA n] w λx w'=>jm (Kx rs) x/\Ext w w':=by
 have h1:=hr.1;have h2:=hr.2.1;unfold VJ at h2;have E0:=Vk (show Ext w (w.alloc (.cells #[VQ A rs.length cap] 24)) from(Below.refl _ _).alloc (Vm _) _);have R0:=Vk (Bx.new w 24 (VQ A rs.length cap));have Z0:=Vk (show w.heap.size<(w.alloc (.cells #[VQ A rs.length cap] 24)).heap.size by simp);have HR:=Vk ((hr.below E0.o).more (B':=(w.alloc (.cells #[VQ A rs.length cap] 24)).heap.size) V5);clear hr;go_enter func102,ntmps102;go_wp2;obtain⟨w0,hw0⟩:∃w0,w.alloc (.cells #[VQ A rs.length cap] 24)=w0:=⟨_,rfl⟩;simp only[hw0] at E0 R0 Z0 HR⊢;clear hw0;have c0:=R0.o.cell
 go_loop [5,6] (λs i=>∃k:Nat,k<=rs.length/\i=VU VA (k:Int)/\s=VU VA ((rs.take k).flatten.length:Int)) (λ_ i=>((rs.length:Int)-VG i).toNat)
 case atStart=>exact⟨0,VY,rfl,V5⟩
 case round=>
  obtain⟨k,hk,rfl,rfl⟩:=hrel;by_cases hlt:k<rs.length
  ·obtain⟨b,off,rfl,hB,hcell⟩:=HR.o.2.2 VY;obtain⟨Ai,ci,c1,hsl⟩:=hcell k hlt;have hq:=dB hlt;have hle:=eo rs (k+1);have hq2:((rs.take (k+1)).flatten.length:Int)=((rs.take k).flatten.length:Int)+((rs.getD k []).length:Int):=by rw[hq];simp
   obtain⟨m,hm⟩:∃m,(rs.take k).flatten.length=m:=⟨_,rfl⟩;obtain⟨d,hd⟩:∃d,(rs.getD k []).length=d:=⟨_,rfl⟩;rw[hd] at c1;have hs:m+d<=4000000000:=by rw[hm,hd] at hq2;omega
   exact Zj
  ·obtain rfl:k=rs.length:=VY;have ht:(rs.take rs.length).flatten.length=rs.flatten.length:=by rw[List.take_length]
   rw[ht];clear ht;obtain⟨m,hm⟩:∃m,rs.flatten.length=m:=⟨_,rfl⟩;rw[hm] at hbig⊢;obtain⟨p1,lD⟩:∃p,decide ((m:Int)>n)=p:=⟨_,rfl⟩;obtain⟨p2,qG⟩:∃p,decide ((m:Int)<=24)=p:=⟨_,rfl⟩;obtain⟨p3,hp3⟩:∃p,decide ((m:Int)>40)=p:=⟨_,rfl⟩;obtain⟨p4,hp4⟩:∃p,decide ((rs.length:Int)>40)=p:=⟨_,rfl⟩;have HM:=Vk hm;have H3:=Vk hp3;have H4:=Vk hp4;clear hm;have fin:∀{b:Bool},(b=Vp->p3=Vp/\p4=Vp)->(b=Vp->Kx rs):=λh hb=>by
    obtain⟨a,c⟩:=h hb;have h3:=H3.o;rw[a] at h3;have h4:=H4.o;rw[c] at h4;have:=of_decide_eq_false h3;have:=of_decide_eq_false h4;have hm:=HM.o;exact⟨VY,VY⟩
   cases p1<;>cases p2<;>cases p3<;>cases p4
   all_goals
    go_wp2;go_ret
    first|exact⟨⟨_,rfl,λ_=>trivial⟩,E0.o⟩|(refine⟨⟨_,rfl,fin ?_⟩,E0.o⟩;simp)
end
section
open Kp
def nG{rs:List (List Sd)}(h:rs.flatten.length<=1000000)(k:Nat):(rs.getD k []).length<=1000000:=by
 by_cases hk:k<rs.length
 ·rw[Vn,Vt hk];exact VB (List.sublist_flatten_of_mem (List.getElem_mem hk)).length_le h
 ·exact a0e
end
section
open Kp
def Av(b:UInt8)(l:By):Lib.index (b::l) [47]=if b=47 then 0 else if Lib.index l [47]== -1 then -1 else Lib.index l [47]+1:=by
 rw[Lib.index];by_cases h:b=47
 ·subst h;simp[List.isPrefixOf]
 ·have:List.isPrefixOf [47] (b::l)=Vp:=by simp[List.isPrefixOf];exactλe=>h e.symm
  rw[this,if_neg h];rfl
def OY(l:By):Lib.index l [47]=if l.findIdx (· ==47)<l.length then(l.findIdx (· ==47):Int) else -1:=by
 induction l with
 |nil=>rfl
 |cons b l ih=>
  rw[Av,ih,List.findIdx_cons];by_cases h:b=47
  ·subst h;simp
  ·have hb:(b==47)=Vp:=Wy;rw[if_neg h,hb];simp only[cond_false,List.length_cons,Nat.add_lt_add_iff_right];by_cases hk:l.findIdx (· ==47)<l.length
   ·rw[if_pos hk,if_pos hk,if_neg V5];omega
   ·rw[if_neg hk,if_neg hk];rfl
def yp(l:By):Lib.cut l [47]=if l.findIdx (· ==47)<l.length then(l.take (l.findIdx (· ==47)),l.drop (l.findIdx (· ==47)+1),Vv) else(l,[],Vp):=by
 unfold Lib.cut;rw[OY];by_cases hk:l.findIdx (· ==47)<l.length
 ·rw[if_pos hk,if_pos hk,if_pos VY];rfl
 ·rw[if_neg hk,if_neg hk,if_neg VY]
def eY(a:By):own a=if a.head?==Vq 45 then a.drop 1 else a:=by
 unfold own Lib.trimPrefix Lib.hasPrefix;cases a with
 |nil=>rfl
 |cons b l=>
  by_cases h:b=45
  ·subst h;simp
  ·have e1:List.isPrefixOf [45] (b::l)=Vp:=by simp[List.isPrefixOf];exactλe=>h e.symm
   have e2:((b::l).head?==Vq 45)=Vp:=Wy;simp only[e1,e2]
   rfl
def lj(a:By):Lib.hasPrefix a [45]=(a.head?==Vq 45):=by
 unfold Lib.hasPrefix;cases a with
 |nil=>rfl
 |cons b l=>
  by_cases h:b=45
  ·subst h;simp
  ·have e1:List.isPrefixOf [45] (b::l)=Vp:=by simp[List.isPrefixOf];exactλe=>h e.symm
   have e2:((b::l).head?==Vq 45)=Vp:=Wy;rw[e1,e2]
def th(a:By):(own (Lib.cut a [47]).1=(Lib.cut (own a) [47]).1)/\(Lib.cut a [47]).2=(Lib.cut (own a) [47]).2/\Lib.hasPrefix (Lib.cut a [47]).1 [45]=(a.head?==Vq 45):=by
 cases a with
 |nil=>exact⟨rfl,rfl,rfl⟩
 |cons b l=>
  by_cases h:b=45
  ·subst h;have ho:own (45::l)=l:=by rw[eY];rfl
   rw[ho];have hc:Lib.cut (45::l) [47]=(45::(Lib.cut l [47]).1,(Lib.cut l [47]).2):=by
    rw[yp,yp,List.findIdx_cons];have e:((45:UInt8)==47)=Vp:=V0;rw[e];simp only[cond_false,List.length_cons,Nat.add_lt_add_iff_right];by_cases hk:l.findIdx (· ==47)<l.length
    ·rw[if_pos hk,if_pos hk];rfl
    ·rw[if_neg hk,if_neg hk]
   rw[hc];refine⟨by rw[eY];rfl,rfl,by rw[lj];rfl⟩
  ·have e2:((b::l).head?==Vq 45)=Vp:=Wy;have ho:own (b::l)=b::l:=by rw[eY,e2];rfl
   have hh:((Lib.cut (b::l) [47]).1.head?==Vq 45)=Vp:=by
    rw[yp,List.findIdx_cons];by_cases h7:b=47
    ·subst h7;rfl
    ·have e:(b==47)=Vp:=by simpa using h7
     rw[e];simp only[cond_false];split
     ·simpa using h
     ·exact e2
   rw[ho,e2];exact⟨by rw[eY,hh];rfl,rfl,by rw[lj];exact hh⟩
def O1(s:By)(k:Nat):(tx s).extract 0 k=tx (s.take k):=by
 apply ByteArray.ext;apply Array.ext';rw[ByteArray.data_extract,Array.toList_extract];simp
def kh(a:By):aM (tx a)=(a.head?==Vq 45,tx (Lib.cut (own a) [47]).1,tx (Lib.cut (own a) [47]).2.1,(Lib.cut (own a) [47]).2.2):=by
 have hy:(if((tx a).data.toList.head?==Vq 45)=Vv then(tx a).extract 1 (tx a).size else tx a)=tx (own a):=by
  rw[bn,eY];cases h:(a.head?==Vq 45) with
  |true=>rw[if_pos rfl,if_pos rfl,ai];exact lv a 1
  |false=>rfl
 have hm:((tx a).data.toList.head?==Vq 45)=(a.head?==Vq 45):=by rw[bn]
 unfold aM;dsimp only;rw[hy,hm];unfold nu;rw[bn,ai,yp];by_cases hk:(own a).findIdx (· ==47)<(own a).length
 ·rw[if_pos hk,if_pos hk,O1 _ _,lv]
 ·rw[if_neg hk,if_neg hk]
def pF(l:By):(tx l).toList=l:=by rw[ByteArray.toList_eq,bn]
def iR(l:By)(m:Nat)(h:m<(tx l).size):(tx l)[m]'h=l[m]'(by rw[ai] at h;exact h):=by
 simp[ByteArray.getElem_eq_getElem_data]
def xg{l:By}(h:l.all fJ=Vv):lead l=l:=by
 unfold lead
 induction l with
 |nil=>rfl
 |cons b l ih=>
  simp only[List.all_cons,Bool.and_eq_true] at h;rw[List.takeWhile_cons,if_pos h.1,ih h.2]
def yV{l:By}(h:Dg (tx l)):pO l=Vv/\l.all fJ=Vv:=by
 have hall:l.all fJ=Vv:=by
  rw[List.all_eq_true];intro b hb;obtain⟨m,hm,rfl⟩:=List.mem_iff_getElem.1 hb;have:=h.all m (by rw[ai];exact hm);rw[iR] at this;rw[AN];simp[this]
 have hl:lead l=l:=xg hall;have hp:=h.pos;rw[ai] at hp;have hr:jY l=l.length:=by
  unfold jY;rw[hl];split
  ·rename_i hc;exfalso;have:=h.lead (by rw[ai];exact hp) (by rw[ai];exact hc.1);rw[iR] at this;cases l with
   |nil=>simp at hp
   |cons b l=>simp at hc;simp[hc.2] at this
  ·rfl
 refine⟨?_,hall⟩;exact gP VY VY
def PG(l:By):∀k,k<=l.length->cJ (tx l) k=aw (l.take k):=by
 intro k hk
 induction k with
 |zero=>simp[cJ,aw]
 |succ k ih=>
  rw[cJ,ih VY,mX (show k<l.length by omega),bn,Vn,Vt VY];simp only[Option.getD_some];unfold iD;omega
def ji(l:By):cJ (tx l) (tx l).size=aw l:=by
 rw[ai,PG l _ (Vm _),List.take_length]
def Gm{n:By}(h1:pO (own n)=Vv)(h2:(own n).all fJ=Vv)(h3:¬(Lib.hasPrefix n [45]=Vv/\own n=[48])):aT n=Vv:=by
 unfold aT;rw[h2,Bool.true_and];unfold pO at h1;simp only[Bool.and_eq_true,decide_eq_true_eq] at h1;cases ho:own n with
 |nil=>rw[ho] at h1;exact absurd rfl h1.1
 |cons b l=>
  simp only[List.isEmpty_cons,Bool.not_false,Bool.true_and,List.head?_cons];by_cases hb:b=48
  ·subst hb;have hl:l=[]:=by
    rw[ho] at h1 h2;have hld:lead (48::l)=48::l:=xg h2;have:=h1.1;unfold jY at this;rw[hld] at this;cases l with
    |nil=>rfl
    |cons c l=>exact absurd (by rw[if_pos ⟨V5,rfl⟩]) this
   subst hl;have hnp:Lib.hasPrefix n [45]=Vp:=by
    cases hq:Lib.hasPrefix n [45] with
    |false=>rfl
    |true=>exact absurd ⟨hq,ho⟩ h3
   have:own n=n:=by rw[eY,<-lj,hnp];rfl
   rw[<-this,ho];rfl
  ·have:(Vq b==Vq (48:UInt8))=Vp:=by simpa using hb
   rw[this];rfl
def MC:Jq (cH 1)=([49],0):=by
 have hc:cH 1=[1]:=mE (l:=[1]) ⟨λd hd=>by rw[List.mem_singleton.1 hd];decide,by unfold px;decide⟩ V0;rw[hc];decide+kernel
def vO{a:By}(h:jF (tx a)):bS a=0:=by
 unfold jF at h;rw[kh] at h;dsimp only at h;obtain⟨h1,h2,h3⟩:=h;obtain⟨co,c2,cp⟩:=th a;rw[ji,ji,ai,ai,pF,pF] at h3;obtain⟨gn,an⟩:=yV h1;have hcut:dP a=(if(Lib.cut a [47]).2.2=Vp then Vq ((Lib.cut a [47]).1,[49]) else Vq ((Lib.cut a [47]).1,(Lib.cut a [47]).2.1))/\((Lib.cut a [47]).2.2=Vv->pO (Lib.cut a [47]).2.1=Vv/\(Lib.cut a [47]).2.1.all fJ=Vv/\(Lib.cut a [47]).2.1≠[48]/\(Lib.cut a [47]).2.1≠[49]/\Nat.gcd (aw (own (Lib.cut a [47]).1)) (aw (Lib.cut a [47]).2.1)=1)/\(own (Lib.cut a [47]).1).length<=300/\(Lib.cut a [47]).2.1.length<=300/\¬(Lib.hasPrefix (Lib.cut a [47]).1 [45]=Vv/\own (Lib.cut a [47]).1=[48]):=by
  rw[cp,co,c2];unfold vD at h3;simp only[Bool.and_eq_true,Bool.not_eq_true',decide_eq_false_iff_not,Bool.or_eq_true,Bool.and_eq_false_iff,Bool.or_eq_false_iff,beq_eq_false_iff_ne,beq_iff_eq] at h3;obtain⟨⟨⟨⟨q1,q2⟩,q3⟩,q4⟩,q5⟩:=h3;have hsl:(Lib.cut (own a) [47]).2.2=Vv->pO (Lib.cut (own a) [47]).2.1=Vv/\(Lib.cut (own a) [47]).2.1.all fJ=Vv/\(Lib.cut (own a) [47]).2.1≠[48]/\(Lib.cut (own a) [47]).2.1≠[49]/\Nat.gcd (aw (Lib.cut (own a) [47]).1) (aw (Lib.cut (own a) [47]).2.1)=1:=by
   intro hs;obtain⟨g2,a2⟩:=yV (h2 hs);rw[hs] at q1 q5;simp at q1 q5;exact⟨g2,a2,q1.1,q1.2,q5⟩
  have hno:¬((a.head?==Vq 45)=Vv/\(Lib.cut (own a) [47]).1=[48]):=by
   rintro⟨e1,e2⟩;rcases q2 with q|q
   ·exact q (beq_iff_eq.1 e1)
   ·exact q e2
  refine⟨?_,hsl,VY,VY,hno⟩;unfold dP;dsimp only;rw[cp,co,c2,gn];rw[if_neg (λe=>by rcases e with e|e<;>first|exact hno e|cases e)];cases hs:(Lib.cut (own a) [47]).2.2 with
  |false=>rfl
  |true=>
   obtain⟨g2,a2,n48,n49,_⟩:=hsl hs;rw[if_neg V5,if_neg (by rw[g2];simp[n48,n49]),if_neg V5]
 obtain⟨hc,hsl,l1,l2,hno⟩:=hcut;unfold bS;rw[hc];cases hs:(Lib.cut a [47]).2.2 with
 |false=>
  rw[if_pos rfl];dsimp only;split
  ·rfl
  ·rw[if_neg Wa,if_pos rfl]
 |true=>
  obtain⟨g2,a2,n48,n49,hg⟩:=hsl hs;rw[if_neg V5];dsimp only;split
  ·rfl
  ·rw[if_neg VY];have f1:aT (Lib.cut a [47]).1=Vv:=Gm (by rw[co];exact gn) (by rw[co];exact an) hno;have hod:own (Lib.cut a [47]).2.1=(Lib.cut a [47]).2.1:=by
    rw[eY];cases hd:(Lib.cut a [47]).2.1 with
    |nil=>rfl
    |cons b l=>
     rw[hd] at a2;simp only[List.all_cons,Bool.and_eq_true] at a2;have hb:=ky a2.1;have:((b::l).head?==Vq 45)=Vp:=by
      rw[List.head?_cons,beq_eq_false_iff_ne];intro e;injection e with e
      subst e;exact absurd hb.2.1 V0
     rw[this];rfl
   have f2:aT (Lib.cut a [47]).2.1=Vv:=Gm (by rw[hod];exact g2) (by rw[hod];exact a2) (by rw[hod];exactλh=>n48 h.2);have k1:jB (Lib.cut a [47]).1=0:=by unfold jB;rw[if_pos f1,if_neg VY]
   have k2:jB (Lib.cut a [47]).2.1=0:=by unfold jB;rw[if_pos f2,hod,if_neg VY]
   have hgt:pr (Lib.cut a [47]).1 (Lib.cut a [47]).2.1=([49],0):=by
    unfold pr dv;rw[k1,k2,hod,hg,if_pos rfl,if_pos rfl,MC];split
    ·decide+kernel
    ·rfl
   rw[hgt,if_neg V5]
end
section
open Kp
structure yr(a:By):Prop where
 all:a.all fJ=Vv
 ne:a≠[]
 lead:a.head?≠Vq 48\/a=[48]
def Sj{b:UInt8}(h:fJ b=Vv):(Vq b==Vq (45:UInt8))=Vp:=by
 rw[beq_eq_false_iff_ne];intro e;injection e with e
 subst e;exact absurd (ky h).2.1 V0
def yr.head{a:By}(h:yr a):(a.head?==Vq 45)=Vp:=by
 cases a with
 |nil=>rfl
 |cons b r=>
  have:=h.all;simp only[List.all_cons,Bool.and_eq_true] at this;exact Sj this.1
def yr.own{a:By}(h:yr a):own a=a:=by rw[eY,h.head];rfl
def yr.pre{a:By}(h:yr a):Lib.hasPrefix a [45]=Vp:=by rw[lj,h.head]
def yr.form{a:By}(h:yr a):aT a=Vv:=by
 unfold aT;rw[h.own,h.all,Bool.true_and];have hne:a.isEmpty=Vp:=by cases a with|nil=>exact absurd rfl h.ne|cons b r=>rfl
 rw[hne];rcases h.lead with h1|h1
 ·exact a0M
 ·rw[h1];rfl
def iW(a:By):own (45::a)=a:=by rw[eY];rfl
def qb(a:By):Lib.hasPrefix (45::a) [45]=Vv:=by rw[lj];rfl
def yr.neg{a:By}(h:yr a)(h0:a≠[48]):aT (45::a)=Vv:=by
 unfold aT;rw[iW,h.all,Bool.true_and];have hne:a.isEmpty=Vp:=by cases a with|nil=>exact absurd rfl h.ne|cons b r=>rfl
 rw[hne];have h1:a.head?≠Vq 48:=h.lead.resolve_right h0;exact a0M
def mw{a:By}(h:aT a=Vv):yr a\/∃r,a=45::r/\yr r/\r≠[48]:=by
 unfold aT at h;simp only[Bool.and_eq_true,Bool.not_eq_true',Bool.or_eq_true,beq_iff_eq,beq_eq_false_iff_ne] at h;obtain⟨⟨h1,h2⟩,h3⟩:=h;have hne:own a≠[]:=by intro e;rw[e] at h2;cases h2
 by_cases hd:(a.head?==Vq 45)=Vv
 ·cases a with
  |nil=>cases hd
  |cons b r=>
   have hb:b=45:=by simpa using hd
   subst hb;rw[iW] at h1 hne h3;have h48:r.head?≠Vq 48:=by
    rcases h3 with h3|h3
    ·exact h3
    ·injection h3 with h3 _;exact absurd h3 V0
   exact .inr ⟨r,rfl,⟨h1,hne,.inl h48⟩,λe=>h48 XC⟩
 ·have ho:own a=a:=by rw[eY,if_neg hd]
  rw[ho] at h1 hne h3;exact .inl ⟨h1,hne,h3⟩
def oJ(t:ByteArray)(v:Int):Prop:=∃a:By,t=tx a/\aT a=Vv/\(own a).length<=300/\num a=v
def rh{a:By}(h:yr a)(hl:a.length<=300):oJ (tx a) (aw a):=
 ⟨a,rfl,h.form,by rw[h.own];exact hl,by unfold num;rw[h.pre,h.own];rfl⟩
def EJ{a:By}(h:yr a)(hl:a.length<=300)(h0:aw a≠0):oJ (tx (45::a)) (-(aw a:Int)):=
 ⟨45::a,rfl,h.neg (by rintro rfl;exact h0 V0),by rw[iW];exact hl,by unfold num;rw[qb,iW];rfl⟩
def S0{a:By}(h:yr a)(hl:a.length<=300)(s:Bool)(hs:s=Vv->aw a≠0):oJ (if s then⟨#[45]⟩++tx a else tx a) (if s then -(aw a:Int) else aw a):=by
 cases s with
 |false=>exact rh h hl
 |true=>exact EJ h hl (hs rfl)
def OI:oJ ⟨#[48]⟩ 0:=rh (a:=[48]) ⟨V0,V0,.inr rfl⟩ V0
theorem oJ.size{t:ByteArray}{v:Int}(h:oJ t v):0<t.size/\t.size<=301:=by
 obtain⟨a,rfl,h1,h2,_⟩:=h;rw[ai];have:=Cy a;refine⟨?_,VY⟩;rcases mw h1 with h|⟨r,rfl,_⟩
 ·exact List.length_pos_iff.2 h.ne
 ·simp
def oL{a:By}(h:aT a=Vv)(hl:(own a).length<=300):jB a=0:=by unfold jB;rw[if_pos h,if_neg VY]
def xy(x y:By):aw (x++y)=aw x*10^y.length+aw y:=by
 induction x with
 |nil=>simp[aw]
 |cons b x ih=>rw[List.cons_append,gD,gD,ih,VD,Nat.pow_add,Nat.add_mul,Nat.mul_assoc];omega
def yk(u:Nat)(h:u≠0):(Lib.decDigits u).head?≠Vq 48:=by
 induction u using Nat.strongRecOn with
 |_ u ih=>
  rw[Lib.decDigits];split
  ·rename_i h10;intro e;have:=(ke h10).2;simp only[List.head?_cons,Option.some.injEq] at e;rw[e] at this;have h48:iD 48=0:=V0;omega
  ·rename_i h10;have:=ih (u/10) VY VY;obtain⟨_,_,c⟩:=dC (u/10);cases hd:Lib.decDigits (u/10) with
   |nil=>exact absurd hd c
   |cons b r=>rw[hd] at this;simpa using this
def El(u:Nat):yr (Lib.decDigits u):=by
 obtain⟨a,b,c⟩:=dC u;refine⟨a,c,?_⟩;by_cases h:u=0
 ·subst h;exact .inr WN
 ·exact .inl (yk u h)
def Hg{z:Int}(h0: -9223372036854775808<=z)(h1:z<=9223372036854775807):oJ (tx (Lib.itoa z)) z:=by
 have hl:∀u:Nat,u<10^20->(Lib.decDigits u).length<=300:=λu hu=>by
  rw[Lib.decDigits_length];exact VB (Ag u 20 V0 hu) V0
 have hv:∀u:Nat,aw (Lib.decDigits u)=u:=λu=>(dC u).2.1
 unfold Lib.itoa;split
 ·rename_i h;have:=EJ (El z.natAbs) (hl _ VY) (by rw[hv];omega);rw[hv,show -(z.natAbs:Int)=z by omega] at this;exact this
 ·rename_i h;have:=rh (El z.toNat) (hl _ VY);rw[hv,show(z.toNat:Int)=z by omega] at this;exact this
def Cx{l:List Nat}(h:kP l):∀q,iz l q=au l/10^q%10:=by
 induction l with
 |nil=>intro q;unfold iz;simp[fv,au,S6]
 |cons x l ih=>
  intro q;have hx:x<1000000:=h x V5;have ih:=ih (λd hd=>h d (by simp[hd]));rw[oq];by_cases hq:q<6
  ·unfold iz;rw[Nat.div_eq_of_lt hq,Nat.mod_eq_of_lt hq];show x/10^q%10=_;have e:(1000000:Nat)=10^q*(10*10^(5-q)):=by
    rw[<-Nat.pow_succ',<-Nat.pow_add,show q+(5-q+1)=6 by omega]
   rw[e,Nat.mul_assoc,Nat.add_mul_div_left _ _ (Nat.pow_pos V0),Nat.mul_assoc 10,Nat.add_mul_mod_self_left]
  ·obtain⟨r,rfl⟩:∃r,q=r+6:=⟨q-6,VY⟩;have e:iz (x::l) (r+6)=iz l r:=by
    unfold iz;rw[show(r+6)/6=r/6+1 by omega,show(r+6)%6=r%6 by omega];rfl
   have e6:(10:Nat)^6=1000000:=V0;rw[e,ih,Nat.pow_add,VE (10^r),<-Nat.div_div_eq_div_mul,e6,Nat.add_mul_div_left _ _ V0,Nat.div_eq_of_lt hx,Nat.zero_add]
def C9{v z:Nat}:∀n,z<=n->v<10^n->(∀q,z<=q->q<n->v/10^q%10=0)->v<10^z:=by
 intro n
 induction n with
 |zero=>
  intro h1 h2 _;obtain rfl:z=0:=VY;exact h2
 |succ m ih=>
  intro h1 h2 h3;by_cases e:z=m+1
  ·rw[e];exact h2
  ·refine ih VY ?_ (λq a b=>h3 q a VY);have h4:=h3 m VY VY;have h5:v/10^m<10:=by
    rw[Nat.div_lt_iff_lt_mul (Nat.pow_pos V0),<-Nat.pow_succ'];exact h2
   have h6:v/10^m=0:=(Nat.mod_eq_of_lt h5).symm.trans h4;rcases Nat.div_eq_zero_iff.1 h6 with h|h
   ·exact absurd h (Nat.ne_of_gt (Nat.pow_pos V0))
   ·exact h
def Pn{l xs:List Nat}{o z:Nat}{S:ByteArray}(hc:aZ l)(hz:6*l.length-o=z)(hd:∀q,q<6*l.length->fv xs (6*l.length-1-q)=48+iz l q)(hb:∀j,j<o->fv xs j=48)(ho:o<6*l.length)(hne:fv xs o≠48)
  (hS:strOfNums ((List.range z).map λj=>((fv xs (o+j):Nat):Int))=S):∃a:By,S=tx a/\yr a/\aw a=au l/\a.length=z:=by
 have hat:∀k,k<z->fv xs (o+k)=48+iz l (z-1-k):=λk hk=>by
  rw[<-hd (z-1-k) VY,show 6*l.length-1-(z-1-k)=o+k by omega]
 have hlt:∀q,iz l q<10:=λq=>Nat.mod_lt _ V0
 obtain⟨a,ha⟩:∃a:By,(List.range z).map (λj=>UInt8.ofNat (48+iz l (z-1-j)))=a:=⟨_,rfl⟩;have hl:a.length=z:=by rw[<-ha];simp
 have hgt:∀k (h:k<a.length),a[k]=UInt8.ofNat (48+iz l (z-1-k)):=λk h=>by
  subst ha;simp
 have hSa:S=tx a:=by
  rw[<-hS,<-ha];apply ByteArray.ext;apply Array.toList_inj.1;rw[strOfNums_data,bn,List.map_map];apply List.map_congr_left;intro j hj;simp only[List.mem_range] at hj;show UInt8.ofNat ((fv xs (o+j):Nat):Int).toNat=_;rw[Int.toNat_natCast,hat j hj]
 have hzp:0<z:=VY;refine⟨a,hSa,⟨?_,?_,?_⟩,?_,hl⟩
 ·rw[List.all_eq_true];intro b hb;obtain⟨m,hm,rfl⟩:=List.mem_iff_getElem.1 hb;rw[hgt m hm];exact(ke (hlt _)).1
 ·intro e;rw[e] at hl;simp at hl;omega
 ·left
  rw[List.head?_eq_getElem?,Vt VY,hgt 0 VY];intro e;injection e with e
  have h2:=(ke (hlt (z-1-0))).2;rw[e] at h2;have h3:iD 48=0:=V0;have h4:=hat 0 hzp;rw[Nat.add_zero] at h4;omega
 ·have hV:au l<10^z:=by
   refine C9 (6*l.length) VY ?_ (λq h1 h2=> ?_)
   ·have:=sZ hc.small;have e:B6=10^6:=V0;rw[e,<-Nat.pow_mul] at this;exact this
   ·rw[<-Cx hc.small];have h3:=hd q h2;rw[hb _ VY] at h3;omega
  have key:∀k,k<=z->aw (a.take k)=au l/10^(z-k):=by
   intro k
   induction k with
   |zero=>intro _;rw[Nat.sub_zero,Nat.div_eq_of_lt hV];rfl
   |succ k ih=>
    intro hk;rw[mX (show k<a.length by omega),ih VY,hgt k VY,(ke (hlt _)).2,Cx hc.small,show z-k=(z-1-k)+1 by omega,Nat.pow_succ,<-Nat.div_div_eq_div_mul,show z-(k+1)=z-1-k by omega];omega
  have:=key z (Vm _);rw[<-hl,List.take_length,hl,Nat.sub_self,Nat.pow_zero,Nat.div_one] at this;exact this
structure wF(z:ByteArray)(f:Nat):Prop where
 f1:f<=1
 pos:f<z.size
 len:z.size-f<=300
 all:SS z f z.size
 minus:f=1↔∃h:0<z.size,((z[0]'h).toNat:Int)=45
 lead:∀h:f<z.size,1<z.size->((z[f]'h).toNat:Int)≠48
def wF.JT{z:ByteArray}{f:Nat}(h:wF z f):MD z:=⟨⟨f,h.f1,h.pos,h.all,h.len,h.minus⟩⟩
def yN{a:By}(h:a.all fJ=Vv)(m:Nat)(hm:m<a.length):48<=((a[m]).toNat:Int)/\((a[m]).toNat:Int)<=57:=by
 rw[List.all_eq_true] at h;have:=ky (h _ (List.getElem_mem hm));omega
def zD{a:By}(h:aT a=Vv)(hl:(own a).length<=300):wF (tx a) (if Lib.hasPrefix a [45] then 1 else 0):=by
 rcases mw h with h|⟨r,rfl,h,h48⟩
 ·rw[h.own] at hl;rw[h.pre];have hp:=List.length_pos_iff.2 h.ne;refine⟨V0,by rw[ai];exact hp,by rw[ai];exact hl,λm _ _ hm=> ?_,⟨λe=>absurd e V0,λ⟨hp,e⟩=> ?_⟩,λhp h1=> ?_⟩
  ·rw[iR];exact yN h.all m _
  ·rw[iR] at e;have:=yN h.all 0 (by rwa[ai] at hp);omega
  ·rw[ai] at h1;show((tx a)[0].toNat:Int)≠48;rw[iR];rcases h.lead with h2|h2
   ·exact a0N
   ·rw[h2] at h1;simp at h1
 ·rw[iW] at hl;rw[qb];have hp:=List.length_pos_iff.2 h.ne;refine⟨V0,by rw[ai];simp;omega,by rw[ai];simp;omega,λm h1 _ hm=> ?_,⟨λ_=>⟨by rw[ai];simp,by rw[iR];rfl⟩,λ_=>rfl⟩,λqG h1=> ?_⟩
  ·rw[iR];simp only[if_true] at h1;obtain⟨k,rfl⟩:∃k,m=k+1:=⟨m-1,VY⟩;rw[ai] at hm;simp only[List.length_cons] at hm;rw[List.getElem_cons_succ];exact yN h.all k VY
  ·show((tx (45::r))[1].toNat:Int)≠48;rw[iR,List.getElem_cons_succ];have h2:=h.lead.resolve_right h48;exact a0N
def Tf{a:By}(h:aT a=Vv):Fg (tx a)=Lib.hasPrefix a [45]/\Km (tx a)=aw (own a):=by
 have h1:Fg (tx a)=Lib.hasPrefix a [45]:=by unfold Fg;rw[bn,lj]
 refine⟨h1,?_⟩;unfold Km;rw[h1];rcases mw h with h|⟨r,rfl,h,h48⟩
 ·rw[h.pre,h.own];exact ji a
 ·rw[qb,iW,if_pos rfl,ai,lv];exact ji r
def sD(z:ByteArray):Nat->Nat
 |0=>0
 |k+1=>if z.data.toList.getD k 0=45 then sD z k else 10*sD z k+((z.data.toList.getD k 0).toNat-48)
def GS{z:ByteArray}{k:Nat}(h:k<z.size)(hg:((z[k]'h).toNat:Int)=45):sD z (k+1)=sD z k:=by
 have e:z.data.toList.getD k 0=z[k]'h:=by
  exact a0i
 show(if z.data.toList.getD k 0=45 then _ else _)=_;rw[e,if_pos (by apply UInt8.toNat_inj.1;show _=45;omega)]
def tH{z:ByteArray}{k g:Nat}(h:k<z.size)(hg:((z[k]'h).toNat:Int)=((48+g:Nat):Int)):sD z (k+1)=10*sD z k+g:=by
 have e:z.data.toList.getD k 0=z[k]'h:=by
  exact a0i
 show(if z.data.toList.getD k 0=45 then _ else 10*sD z k+((z.data.toList.getD k 0).toNat-48))=_;rw[e,if_neg (by intro e2;rw[e2] at hg;have:(45:UInt8).toNat=45:=rfl;omega)];omega
def Kv{a:By}(h:a.all fJ=Vv):∀k,k<=a.length->sD (tx a) k=aw (a.take k)/\sD (tx (45::a)) (k+1)=aw (a.take k):=by
 intro k
 induction k with
 |zero=>intro _;exact⟨rfl,rfl⟩
 |succ k ih=>
  intro hk;obtain⟨h1,h2⟩:=ih VY;have hd:=yN h k VY;have hg:((a[k]'VY).toNat:Int)=((48+iD a[k]:Nat):Int):=by unfold iD;omega
  rw[mX (show k<a.length by omega)];refine⟨?_,?_⟩
  ·rw[tH (g:=iD a[k]) XD (by rw[iR];exact hg),h1];omega
  ·rw[tH (g:=iD a[k]) (by rw[ai];simp;omega) (by rw[iR];exact hg),h2];omega
def Sq{a:By}(h:aT a=Vv):sD (tx a) (tx a).size=aw (own a):=by
 rw[ai];rcases mw h with h|⟨r,rfl,h,_⟩
 ·rw[(Kv h.all _ (Vm _)).1,List.take_length,h.own]
 ·rw[List.length_cons,(Kv h.all _ (Vm _)).2,List.take_length,iW]
end
section
open Kp
def UM(v:Int)(w:Vl)(e:Ending)(w':Vl):Prop:=∃t:ByteArray,e=VV (VR t)/\oJ t v/\Ext w w'
def Et(w:Vl)(s:Bool)(v:Vr)(l:List Nat)(hs:bE w w.heap.size v l)(hc:aZ l)(hl:l.length<=50):
  VC prog 284 #[VW #[VS s,v]] w (UM (kQ s l) w):=by
 obtain⟨A,ca,rfl,ha1,ha2,hac⟩:=id hs;unfold VJ at ha2;by_cases h0:l.length=0
 ·obtain rfl:l=[]:=List.length_eq_zero_iff.1 h0;clear hac;go_enter func284,ntmps284;go_wp2_with fail
  go_ret;exact⟨_,rfl,by rw[show kQ s []=0 by cases s<;>rfl];exact OI,(Below.refl _ _).alloc (Vm _) _⟩
 obtain⟨b,off,rfl,hbw,_⟩:=hac VY;obtain⟨i0,hi,hz0,hz1,hz2⟩:=info_parts Gi;obtain⟨p,hp,hpd⟩:=GM hc VY;have HV0:=Vk (show au l≠0 from Nat.ne_of_gt (nH hc.trim (by rintro rfl;exact h0 rfl)));obtain⟨n,hn⟩:∃n,l.length=n:=⟨_,rfl⟩;have HN:=Vk hn;have HPD:=Vk hpd;have HP:=Vk hp;rw[hn] at ha1 hl h0⊢;have HS:=Vk hs;clear hs hn hpd hp hac;go_enter func284,ntmps284;go_wp2_with(at_make;refine wpList_make_full _ rfl _ _ 119 rfl (w.heap.size+1) 5 i0 (VU .u8 0) 1 underlying119 hi hz0 hz1 .i64 .i64 _ _ (6*n) rfl rfl VY VY XF Wc V5 ?_;intro w1 hown hgrow)
 have hrow:=ah.new w 308 [VS s,VQ (Vq ⟨b,off,Vo⟩) n ca];have hb1:VL (w.heap.size+1) (w.alloc (Obj.cells #[VS s,VQ (Vq ⟨b,off,Vo⟩) n ca] 308)) w1:=(Below.refl _ _).grown hgrow V5 (λ_ h=>V6);simp only[VF] at hown⊢;have HBX:=Vk (show ah (w.alloc (Obj.cells #[VS s,VQ (Vq ⟨b,off,Vo⟩) n ca] 308)) w.heap.size 308 [VS s,VQ (Vq ⟨b,off,Vo⟩) n ca] from hrow);have HX0:=Vk (show VL w.heap.size w (w.alloc (Obj.cells #[VS s,VQ (Vq ⟨b,off,Vo⟩) n ca] 308)) from(Below.refl _ _).alloc (Vm _) _);obtain⟨w0,hw0⟩:∃w0,w.alloc (Obj.cells #[VS s,VQ (Vq ⟨b,off,Vo⟩) n ca] 308)=w0:=⟨_,rfl⟩;rw[hw0] at hb1 HBX HX0;have ST:=Vk (show zW w0 (w.heap.size+1) l (6*0) (List.replicate (6*n) 0) w1 from⟨xv hown,by rw[List.length_replicate,HN.o],λq hq=>VY,hb1⟩);clear hown hgrow hrow hb1 hw0 hi hz0 hz1 hz2;go_loopw [4] (λi wr=>∃(k:Nat) (xs:List Nat),k<=n/\i=VU VA (k:Int)/\zW w0 (w.heap.size+1) l (6*k) xs wr) (λi _=>n-(VG i).toNat)
 case atStart=>exact⟨0,_,VY,rfl,ST.o⟩
 case round=>
  obtain⟨i,xs,hi,rfl,hW⟩:=hrel;have hbx:=HBX.o.below hW.ext (Nat.lt_succ_self _);have hc1:=hbx.cell 1;have HW:=Vk hW;by_cases hlt:i<n
  ·exact a0s
  ·obtain rfl:i=n:=VY;have hc0:=hbx.cell 0;have hxw:Ext w wr:=HX0.o.trans (hW.ext.mono VY);have HXW:=Vk hxw;obtain⟨P,hP⟩:∃P,6*i-1-p=P:=⟨_,rfl⟩;have hPl:P<6*i:=by have:=HP.o;rw[HN.o] at this;omega
   have HPV:=Vk (show fv xs P≠48 by
    have:=hW.iD p (by have:=HP.o;rwa[HN.o] at this);rw[HN.o,hP] at this;rw[this];have:=HPD.o;omega)
   clear hW hbx hxw hP;go_wp2_with fail
   go_loopw [3] (λv wi=>∃o:Nat,o<=P/\v=VQ (Vq ⟨w.heap.size+1,o,Vo⟩) (6*i-o) (6*i-o)/\(∀j,j<o->fv xs j=48)/\wi=wr) (λv _=>JU v)
   case atStart=>exact⟨0,VY,rfl,λj hj=>VY,rfl⟩
   case round=>
    obtain⟨o,ho,rfl,hbo,rfl⟩:=hrel;have HBO:=Vk hbo;clear hbo;have hol:o<xs.length:=by rw[HW.o.len,HN.o];omega
    have hco:=HW.o.row.cell hol;obtain⟨y,hy⟩:∃y,fv xs o=y:=⟨_,rfl⟩;rw[hy] at hco;have HO:=Vk hy;obtain⟨z,hz⟩:∃z,6*i-o=z:=⟨_,rfl⟩;have HZ:=Vk hz;rw[hz];have hz1:1<=z:=VY;clear hol hy;by_cases h48:y=48
    ·exact a0r
    ·obtain⟨ns,hns⟩:∃ns,(List.range z).map (λj=>((fv xs (o+j):Nat):Int))=ns:=⟨_,rfl⟩;have hnl:ns.length=z:=by rw[<-hns];simp
     have hcv:=run_convert_bytes_arg (P:=prog) wr 119 5 underlying119 underlying5 (w.heap.size+1) o z z ns hnl (λj hj=>by
      rw[HW.o.row.cell (by rw[HW.o.len,HN.o];omega),<-hns];simp[List.getD,hj]) 9 underlying9
     obtain⟨S,hS⟩:∃S,strOfNums ns=S:=⟨_,rfl⟩;have HSZ:=Vk (show S.size=z by rw[<-hS,strOfNums_size,hnl]);rw[hS] at hcv;have HZB:=Vk (show z<=6*i by omega);have HON:=Vk (show∃a:By,S=tx a/\yr a/\aw a=au l/\a.length=z from Pn (o:=o) hc (by rw[HN.o];exact hz) (λq hq=>HW.o.iD q (by rwa[HN.o] at hq)) HBO.o (by rw[HN.o];omega) (by rw[HO.o];exact h48) (by rw[hns];exact hS));clear hz hns hnl hS;cases s with
     |false=>
      go_wp2;refine bodyPost_ret (v:= VR S) (by simp[results,results284,go_sem]) rfl ?_;obtain⟨a,e1,e2,e3,e4⟩:=HON.o;exact⟨S,rfl,by rw[e1,show kQ Vp l=(aw a:Int) by rw[e3];rfl];exact rh e2 (by have:=HZB.o;omega),HXW.o⟩
     |true=>
      have hsz:=HSZ.o;have hzb:z<=600000:=by have:=HZB.o;omega
      go_wp2;refine bodyPost_ret (v:= VR (⟨#[45]⟩++S)) (by simp[results,results284,go_sem]) rfl ?_;obtain⟨a,e1,e2,e3,e4⟩:=HON.o;exact⟨_,rfl,by rw[e1,show kQ Vv l= -(aw a:Int) by rw[e3];rfl];exact EJ (a:=a) e2 (by have:=HZB.o;omega) (by rw[e3];exact HV0.o),HXW.o⟩
end
section
open Kp
def wF.iD{z:ByteArray}{f:Nat}(h:wF z f){k:Nat}(hk:k<z.size):(((z[k]'hk).toNat:Int)=45/\f=1/\k=0)\/∃g:Nat,g<=9/\((z[k]'hk).toNat:Int)=((48+g:Nat):Int):=by
 by_cases hf:f<=k
 ·have:=h.all k hf hk hk;exact .inr ⟨(z[k]'hk).toNat-48,VY,VY⟩
 ·have h1:=h.f1;have e1:f=1:=VY;have e2:k=0:=VY;subst e2;obtain⟨_,e⟩:=h.minus.1 e1;exact .inl ⟨e,e1,rfl⟩
def wF.TG{z:ByteArray}(h:wF z 0):Em z:=⟨h.pos,by have:=h.len;omega,h.all,h.lead⟩
def TJ{z:ByteArray}{f:Nat}(h:wF z f){k:Nat}(hk:k<=z.size):sD z k<10^k:=by
 induction k with
 |zero=>exact Nat.one_pos
 |succ k ih=>
  have:=ih VY;rcases h.iD (show k<z.size by omega) with⟨e,_,_⟩|⟨g,hg,e⟩
  ·rw[GS VY e,Nat.pow_succ];omega
  ·rw[tH VY e,Nat.pow_succ];omega
def FO(z:ByteArray)(f:Nat)(w:Vl)(h:wF z f):VC prog 309 #[VR z] w λx w'=>x=VV (VU VA 0)/\Ext w w':=by
 have hf:=h.f1;by_cases h0:f=0
 ·subst h0;exact nO z w h.TG
 obtain rfl:f=1:=VY;obtain⟨n,hn⟩:∃n,z.size=n:=⟨_,rfl⟩;have hp:0<z.size:=by have:=h.pos;omega
 have lD:1<z.size:=h.pos;have hn3:n<=301:=by have:=h.len;omega
 have hn1:1<n:=VY;have t1:(((z[0]'hp).toNat:Int)==45)=Vv:=by
  obtain⟨_,e⟩:=h.minus.1 rfl;exact beq_iff_eq.2 e
 have t2:(((z[1]'lD).toNat:Int)==48)=Vp:=beq_eq_false_iff_ne.2 (h.lead lD lD);have h00:((1:Int)==(n:Int))=Vp:=beq_eq_false_iff_ne.2 VY;have t3:decide ((n:Int)>1)=Vv:=decide_eq_true VY;have H:=Vk h.all;have HN:=Vk hn;clear h hf h0;go_enter func309,ntmps309;go_wp2;go_loopw [4] (λi wr=>∃k:Nat,1<=k/\i=VU VA (k:Int)/\k<=n/\Ext w wr) (λi _=>((n:Int)-VG i).toNat)
 case atStart=>exact⟨1,Vm _,rfl,VY,Below.refl _ _⟩
 case round=>
  obtain⟨k,hk0,rfl,hk,hX⟩:=hrel;have HX:=Vk hX;clear hX;by_cases hlt:k<n
  ·have hb:k<z.size:=VY;have hd:=H.o k hk0 hb hb;have q1:decide (((z[k]'hb).toNat:Int)<48)=Vp:=decide_eq_false VY;have q2:decide (((z[k]'hb).toNat:Int)>57)=Vp:=decide_eq_false VY;clear hd;go_wp2;exact⟨⟨k+1,VY,by go_num,VY,HX.o⟩,V7⟩
  ·obtain rfl:k=n:=VY;have t9:¬300<(k:Int)-1:=VY;exact ZW
def T3(z:ByteArray)(f:Nat):Int:=if f=1 then -(sD z z.size:Int) else sD z z.size
def M7(v:Int)(x:Ending):Prop:=∃(u:Int) (ok:Bool),x=VV (VX #[VU VA u,VS ok])/\(ok=Vv->u=v)/\u.natAbs<3000000000000000000
def Gb(z:ByteArray)(f:Nat)(w:Vl)(h:wF z f):VC prog 310 #[VR z] w λx w'=>M7 (T3 z f) x/\Ext w w':=by
 have hf:=h.f1;have hp:0<z.size:=by have:=h.pos;omega
 have hs:z.size<=1000000:=by have:=h.len;omega
 by_cases h17:17<z.size
 ·exact a0z
 have H:=Vk h;obtain⟨p1,t1⟩:∃p,(((z[0]'hp).toNat:Int)==45)=p:=⟨_,rfl⟩;have HV:=Vk (show T3 z f=if p1 then -(sD z z.size:Int) else sD z z.size by
  unfold T3;cases p1 with
  |true=>rw[if_pos (h.minus.2 ⟨hp,beq_iff_eq.1 t1⟩)];rfl
  |false=>rw[if_neg (λe=>by obtain⟨_,e2⟩:=h.minus.1 e;exact beq_eq_false_iff_ne.1 t1 e2)];rfl)
 clear h;cases p1;all_goals
  go_enter func310,ntmps310;go_wp2;go_loopw [4,5] (λn i wr=>∃(k:Nat),n=VU VA (sD z k:Nat)/\i=VU VA (k:Int)/\k<=z.size/\Ext w wr) (λ_ i _=>((z.size:Int)-VG i).toNat)
  case atStart=>exact⟨0,rfl,rfl,VY,Below.refl _ _⟩
  case round=>
   obtain⟨k,rfl,rfl,hk,hX⟩:=hrel;have HX:=Vk hX;have hv:=Nat.lt_of_lt_of_le (TJ H.o hk) (GU VY);obtain⟨v,hvv⟩:∃v,sD z k=v:=⟨_,rfl⟩;rw[hvv] at hv⊢;have HS0:=Vk hvv;clear hX hvv;by_cases hlt:k<z.size
   ·by_cases h45:((z[k]'hlt).toNat:Int)=45
    ·have HS:=Vk (GS hlt h45);have q:(((z[k]'hlt).toNat:Int) !=45)=Vp:=by rw[bne_eq_false_iff_eq];exact h45
     clear h45;go_wp2;exact⟨⟨k+1,by rw[HS.o,HS0.o],by go_num,VY,HX.o⟩,V7⟩
    ·obtain⟨g,hg,e⟩:=(H.o.iD hlt).resolve_left (λh=>h45 h.1);have HS:=Vk (tH hlt e);have hd:(((z[k]'hlt).toNat:Int)-48)%256=(g:Int):=by rw[e];omega
     have q:(((z[k]'hlt).toNat:Int) !=45)=Vv:=WW;have hu:VA.wrap (g:Int)=g:=VI _ VY;clear e h45;go_wp2;exact⟨⟨k+1,by rw[HS.o,HS0.o];simp,by go_num,VY,HX.o⟩,V7⟩
   ·obtain rfl:k=z.size:=VY;have w3:VA.wrap (-(v:Int))= -(v:Int):=VI _ VY;go_wp2;go_ret2;exact⟨⟨_,_,rfl,λ_=>by rw[HV.o,HS0.o];rfl,VY⟩,HX.o⟩
def pK{z:ByteArray}{v:Int}(w:Vl)(h:oJ z v):VC prog 309 #[VR z] w λx w'=>x=VV (VU VA 0)/\Ext w w':=by
 obtain⟨a,rfl,h1,h2,_⟩:=h;exact FO _ _ w (zD h1 h2)
def uf{z:ByteArray}{v:Int}(w:Vl)(h:oJ z v):VC prog 310 #[VR z] w λx w'=>M7 v x/\Ext w w':=by
 obtain⟨a,rfl,h1,h2,rfl⟩:=h;have e:T3 (tx a) (if Lib.hasPrefix a [45] then 1 else 0)=num a:=by
  unfold T3 num;rw[Sq h1];cases Lib.hasPrefix a [45]<;>rfl
 rw[<-e];exact Gb _ _ w (zD h1 h2)
def oJ.JT{z:ByteArray}{v:Int}(h:oJ z v):MD z:=by
 obtain⟨a,rfl,h1,h2,_⟩:=h;exact(zD h1 h2).JT
def oP{z:ByteArray}{v:Int}(w:Vl)(h:oJ z v):VC prog 282 #[VR z] w (pw v 51 w):=by
 refine(Jh w z h.JT).mono ?_;rintro e w' ⟨u,l,rfl,h1,h2,h3,h4,h5⟩;obtain⟨a,rfl,k1,k2,rfl⟩:=h;obtain⟨s1,s2⟩:=Tf k1;refine⟨_,_,_,rfl,h1,h2,h3,?_,h4⟩;unfold kQ num;rw[h5,s1,s2]
def xk{a b:ByteArray}{u v:Int}(w:Vl)(ha:oJ a u)(hb:oJ b v):VC prog 280 #[VR a,VR b] w λx w'=>x=VV (VU VA 0)/\Ext w w':=by
 have KA:=Vk (pK w ha);have KB:=Vk (λW=>pK W hb);clear ha hb;exact a0x
def Un(u v:Int)(x:Ending):Prop:=∃(p q:Int) (ok:Bool),x=VV (VX #[VU VA p,VU VA q,VS ok])/\p.natAbs<3000000000000000000/\q.natAbs<3000000000000000000/\(ok=Vv->p=u/\q=v)
def A0 {a b : ByteArray} {u v : Int} (w : Vl) (ha : oJ a u) (hb : oJ b v) : VC prog 281 #[VR a, VR b] w λx w' => Un u v x /\ Ext w w' := by
  have KA := Vk (uf w ha);have KB := Vk (λW => uf W hb);clear ha hb;exact a0A
end
section
open Kp
def CN(w:Vl)(s:Bool)(v:Vr)(l:List Nat)(hs:bE w w.heap.size v l)(hc:aZ l)(hl:l.length<=50):
  VC prog 339 #[VW #[VS s,v]] w λe w'=>(∃t:ByteArray,e=VV (VX #[VR t,VU VA 0])/\oJ t (kQ s l))/\Ext w w':=by
 obtain⟨A,ca,rfl,ha1,ha2,hac⟩:=id hs;have HS:=Vk (λo=>Et (w.alloc o) s _ l (hs.new o) hc hl);clear hac hs;go_enter func339,ntmps339;go_wp2_with(first
  |(go_at_call 309;go_loud (refine(pK W1 HI.o).mono ?_);rintro e W2 ⟨rfl,hX2⟩;have HX2:=Vk (HX1.o.tr hX2);clear hX2)
  |(go_at_call 284;go_loud (refine(HS.o _).mono ?_);rintro e W1 ⟨t,rfl,hi,hX1⟩;have HI:=Vk hi;have HX1:=Vk (Ext.tr ((Below.refl _ _).alloc (Vm _) _) hX1);clear hX1 hi))
 go_ret2;exact⟨⟨_,rfl,HI.o⟩,HX2.o⟩
def PK{s:Bool}{l:List Nat}{z:Int}(hc:aZ l)(h:kQ s l=z)(hz:z.natAbs<10^60):l.length<=50:=by
 rcases Nat.lt_or_ge 50 l.length with h1|h1
 ·have hne:l≠[]:=by rintro rfl;simp at h1
  have h2:=sL hc.trim hne;have h3:au l=z.natAbs:=by rw[<-h];unfold kQ;split <;>simp
  have h4:B6^10<=B6^(l.length-1):=Nat.pow_le_pow_right V0 VY;have h5:B6^10=10^60:=WN;omega
 ·exact h1
def At{a b:ByteArray}{u v:Int}(ha:oJ a u)(hb:oJ b v)(h:a.size+b.size<=18): -1000000000000000000<=u*v/\u*v<=1000000000000000000:=by
 obtain⟨a,rfl,f1,_,rfl⟩:=ha;obtain⟨b,rfl,f2,_,rfl⟩:=hb;rw[ai,ai] at h;exact iX f1 f2 h
def xE{a b:ByteArray}{u v:Int}(w:Vl)(ha:oJ a u)(hb:oJ b v)(hz:(u*v).natAbs<10^60)(ht:aU w):VC prog 306 #[VR a,VR b] w λe w'=>(∃t:ByteArray,e=VV (VX #[VR t,VU VA 0])/\oJ t (u*v))/\Ext w w':=by
 have KB:=Vk (xk w ha hb);have KT:=Vk (λW=>A0 W ha hb);have HT:=Vk ht;have HA:=Vk ha;have HB:=Vk hb;have HZ:=Vk hz;have HM:=Vk (At ha hb);have hsa:=ha.size;have hsb:=hb.size;clear ht ha hb hz;obtain⟨p18,h18⟩:∃p,decide ((a.size:Int)+(b.size:Int)<=18)=p:=⟨_,rfl⟩;have H18:=Vk h18;go_enter func306,ntmps306;go_wp2_with(first
  |(go_at_call 281;fail)
  |(go_at_call 280;go_loud (refine KB.o.mono ?_);rintro e W1 ⟨rfl,hX1⟩;have X1:=Vk hX1;clear hX1))
 refine(KT.o W1).mono ?_;rintro e W2 ⟨⟨x,y,ok,rfl,hx,hy,hv⟩,hX2⟩;have X2:=Vk (X1.o.tr hX2);have HV:=Vk hv;clear hX2 hv;obtain⟨z,hz⟩:∃z,VA.wrap (x*y)=z:=⟨_,rfl⟩;have hzb:=Qt (x*y);rw[hz] at hzb;obtain⟨hz0,hz1⟩:=hzb;have HZV:=Vk (show ok=Vv->p18=Vv->z=u*v fromλh1 h2=>by
  obtain⟨rfl,rfl⟩:=HV.o h1;have:=HM.o (by have:=H18.o;rw[h2,decide_eq_true_eq] at this;omega);rw[<-hz];exact VI _ VY)
 cases ok<;>cases p18
 all_goals go_wp2_with(first
 |(go_at_call 339;go_loud (refine(CN W5 s5 v5 l5 hs5 hc5 (PK hc5 hl5v HZ.o)).mono ?_);rintro e W6 ⟨⟨t,rfl,ht6⟩,hX6⟩;have HX6:=Vk (((X4.o.tr hX5)).tr hX6))
 |(go_at_call 340;go_loud (refine(MR W4 s3 s4 l3 l4 v3 v4 51 (hs3.grow hX4) hs4 hc3 hc4 hl3 hl4 V0).mono ?_);rintro e W5 ⟨s5,v5,l5,rfl,hs5,hc5,hl5,hl5v,hX5⟩;rw[hv3,hv4] at hl5v)
 |(go_at_call 282;go_loud (refine(oP W3 HB.o).mono ?_);rintro e W4 ⟨s4,v4,l4,rfl,hs4,hc4,hl4,hv4,hX4⟩;have X4:=Vk (X3.o.tr hX4))
 |(go_at_call 282;go_loud (refine(oP W2 HA.o).mono ?_);rintro e W3 ⟨s3,v3,l3,rfl,hs3,hc3,hl3,hv3,hX3⟩;have X3:=Vk (X2.o.tr hX3))
 |(go_at_call 182;go_loud (refine(jo z W2 hz0 hz1 (HT.o.below X2.o (Vm _))).mono ?_);rintro e W3 ⟨rfl,hX3⟩;have X3:=Vk (X2.o.tr hX3)))
 all_goals go_ret2
 all_goals first
  |exact⟨⟨_,rfl,by rw[hl5v] at ht6;exact ht6⟩,HX6.o⟩
  |exact⟨⟨_,rfl,by rw[<-HZV.o WV WV];exact Hg hz0 hz1⟩,X3.o⟩
def L7{s:Bool}{l:List Nat}{u v:Int}(hc:aZ l)(h:kQ s l=u+ -v):lB u v=if l.length=0 then 0 else if s then -1 else 1:=by
 unfold lB;by_cases h0:l.length=0
 ·obtain rfl:l=[]:=List.length_eq_zero_iff.1 h0;have:kQ s []=0:=by cases s<;>rfl
  have e1:([]:List Nat).length=0:=rfl;rw[if_neg VY,if_neg VY,if_pos e1]
 ·have hp:=nH hc.trim (by rintro rfl;exact h0 rfl);rw[if_neg h0];cases s with
  |true=>
   have:kQ Vv l= -(au l:Int):=rfl;rw[if_pos VY];rfl
  |false=>
   have:kQ Vp l=(au l:Int):=rfl;rw[if_neg VY,if_pos VY];rfl
def AG{a b:ByteArray}{u v:Int}(w:Vl)(ha:oJ a u)(hb:oJ b v):VC prog 279 #[VR a,VR b] w λe w'=>e=VV (VX #[VU VA (lB u v),VU VA 0])/\Ext w w':=by
 have KB:=Vk (xk w ha hb);have KT:=Vk (λW=>A0 W ha hb);have HA:=Vk ha;have HB:=Vk hb;clear ha hb;obtain⟨c,hc⟩:∃c,lB u v=c:=⟨_,rfl⟩;rw[hc];have HC:=Vk hc;clear hc;go_enter func279,ntmps279;go_wp2_with(first
  |(go_at_call 281;fail)
  |(go_at_call 280;go_loud (refine KB.o.mono ?_);rintro e W1 ⟨rfl,hX1⟩;have X1:=Vk hX1;clear hX1))
 refine(KT.o W1).mono ?_;rintro e W2 ⟨⟨x,y,ok,rfl,hx,hy,hv⟩,hX2⟩;have X2:=Vk (X1.o.tr hX2);have HV:=Vk hv;clear hX2 hv;cases ok
 ·go_wp2_with(first
   |(go_at_call 307;go_loud (refine(Lh W5 s3 s5 l3 l5 v3 v5 51 (hs3.grow (hX4.trans (hX5.mono hX4.size))) hs5 hc3 hc5 hl3 hl5 V0).mono ?_);rintro e W6 ⟨s6,v6,l6,rfl,hs6,hc6,hl6,hv6,hX6⟩;rw[hv3,hv5,hv4] at hv6;have HR:=Vk (L7 hc6 hv6);clear hv6;obtain⟨A6,c6,e6,_,_,_⟩:=id hs6;subst e6;have X6:=Vk ((X4.o.tr hX5).tr hX6))
   |(go_at_call 308;go_loud (refine(wD W4 s4 v4 l4 51 hs4 hc4 hl4).mono ?_);rintro e W5 ⟨s5,v5,l5,rfl,hs5,hc5,hl5,hv5,hX5⟩)
   |(go_at_call 282;go_loud (refine(oP W3 HB.o).mono ?_);rintro e W4 ⟨s4,v4,l4,rfl,hs4,hc4,hl4,hv4,hX4⟩;have X4:=Vk (X3.o.tr hX4))
   |(go_at_call 282;go_loud (refine(oP W2 HA.o).mono ?_);rintro e W3 ⟨s3,v3,l3,rfl,hs3,hc3,hl3,hv3,hX3⟩;have X3:=Vk (X2.o.tr hX3)))
  all_goals go_ret2
  all_goals refine⟨?_,X6.o.alloc X6.o.size _⟩
  all_goals rw[<-HC.o,HR.o]
  all_goals first
   |rfl
   |(simp_all;done)
   |trace_state
 ·obtain⟨rfl,rfl⟩:=HV.o rfl;have hcc:=HC.o;unfold lB at hcc;by_cases h1:x<y
  ·rw[if_pos h1] at hcc;exact a0O
  ·rw[if_neg h1] at hcc;by_cases h2:y<x
   ·rw[if_pos h2] at hcc;exact a0O
   ·rw[if_neg h2] at hcc;exact a0O
end
section
open Kp
def Ku{l:By}(h:Dg (tx l)):yr l:=by
 obtain⟨_,h2⟩:=yV h;have hp:=h.pos;rw[ai] at hp;refine⟨h2,List.length_pos_iff.1 hp,?_⟩;by_cases h1:1<l.length
 ·left
  have:=h.lead (by rw[ai];exact hp) (by rw[ai];exact h1);rw[iR] at this;rw[List.head?_eq_getElem?,Vt hp];intro e;injection e with e
  rw[e] at this;exact this rfl
 ·obtain⟨b,rfl⟩:∃b,l=[b]:=List.length_eq_one_iff.1 VY;by_cases e:b=48
  ·right;rw[e]
  ·left;simpa using e
def Eg(z:ByteArray):Int:=if(aM z).1 then -(cJ (aM z).2.1 (aM z).2.1.size:Int) else cJ (aM z).2.1 (aM z).2.1.size
def BZ(z:ByteArray):Nat:=if(aM z).2.2.2 then cJ (aM z).2.2.1 (aM z).2.2.1.size else 1
def nT{z:ByteArray}(h:jF z):oJ (pN (aM z)) (Eg z)/\oJ (pD (aM z)) (BZ z:Nat):=by
 unfold jF at h;unfold pN pD Eg BZ;obtain⟨⟨g,n,d,sl⟩,hv⟩:∃v,aM z=v:=⟨_,rfl⟩;rw[hv] at h⊢;dsimp only at h⊢;obtain⟨h1,h2,h3⟩:=h;unfold vD at h3;simp only[Bool.and_eq_true,Bool.not_eq_true',decide_eq_false_iff_not,Bool.or_eq_true,Bool.and_eq_false_iff,beq_eq_false_iff_ne,beq_iff_eq] at h3;obtain⟨⟨⟨⟨q1,q2⟩,q3⟩,q4⟩,q5⟩:=h3;rw[<-lr n] at h1 q2 q3⊢;rw[<-lr d] at h2 q4⊢;obtain⟨a,ha⟩:∃a:By,n.data.toList=a:=⟨_,rfl⟩;obtain⟨b,hb⟩:∃a:By,d.data.toList=a:=⟨_,rfl⟩;rw[ha] at h1 q2 q3⊢;rw[hb] at h2 q4⊢;rw[ai] at q3 q4;have da:=Ku h1;refine⟨?_,?_⟩
 ·rw[ji];refine S0 da VY g (λhg h0=> ?_);rcases q2 with q|q
  ·rw[hg] at q;cases q
  ·apply q;rw[pF];rcases da.lead with h|h
   ·exfalso;have:=da.all;have hne:=da.ne
    match a,hne with
    |c::r,_=>
     simp only[List.all_cons,Bool.and_eq_true] at this;rw[gD] at h0;have h5:=ky this.1;have h6:iD c=0:=by
      rcases Nat.eq_zero_or_pos (iD c) with h|h
      ·exact h
      ·have:=Nat.mul_pos h (Nat.pow_pos (a:=10) (n:=r.length) V0);omega
     apply h;exact a0P
   ·exact h
 ·cases sl with
  |false=>exact rh (a:=[49]) ⟨V0,V0,.inl V0⟩ V0
  |true=>
   rw[if_pos rfl,if_pos rfl,ji];exact rh (Ku (h2 rfl)) VY
def Q1(u v:Int)(x:Ending):Prop:=∃(a b:Int) (ok:Bool),x=VV (VX #[VU VA a,VU VA b,VS ok])/\(ok=Vv->a=u/\b=v/\a.natAbs<1000000000/\b.natAbs<1000000000)
def Q8(z:ByteArray)(x:Ending):Prop:=Q1 (Eg z) ((BZ z:Nat):Int) x
def xC(z:ByteArray)(w:Vl)(hs:z.size<=1000000)(h:jF z):VC prog 277 #[VR z] w λx w'=>Q8 z x/\Ext w w':=by
 have KS:=Vk (nY z w hs);unfold jF at h;show VC prog _ _ _ (λx w'=>Q1 (Eg z) ((BZ z:Nat):Int) x/\Ext w w');unfold Eg BZ;obtain⟨⟨g,n,d,sl⟩,hv⟩:∃v,aM z=v:=⟨_,rfl⟩;rw[hv] at h KS⊢;dsimp only at h⊢;obtain⟨h1,h2,h3⟩:=h;clear h3 hv;have D1:=Vk h1;have D2:=Vk h2;clear h1 h2;obtain⟨p,hp⟩:∃p,cJ n n.size=p:=⟨_,rfl⟩;obtain⟨q,hq⟩:∃q,cJ d d.size=q:=⟨_,rfl⟩;have HP:=Vk (show n.size<=9->p<1000000000 fromλh9=>by rw[<-hp];exact Nat.lt_of_lt_of_le (qO (D1.o.iD VY) (Vm _)) (yT h9));have HQ:=Vk (show sl=Vv->d.size<=9->q<1000000000 fromλhs h9=>by rw[<-hq];exact Nat.lt_of_lt_of_le (qO ((D2.o hs).iD VY) (Vm _)) (yT h9));have S1:=Vk (λW (h9:n.size<=9)=>show VC prog 253 #[VR n] W (λx w'=>x=VV (VU VA (p:Nat))/\Ext W w') by rw[<-hp];exact kS n W (D1.o.iD VY) h9);have S2:=Vk (λW (hs:sl=Vv) (h9:d.size<=9)=>show VC prog 253 #[VR d] W (λx w'=>x=VV (VU VA (q:Nat))/\Ext W w') by rw[<-hq];exact kS d W ((D2.o hs).iD VY) h9);rw[hp,hq];clear hp hq;by_cases h9n:n.size<=9
 case neg=>
  have t9:(n.size:Int)>9:=VY;exact a0Q
 by_cases h9d:d.size<=9
 case neg=>
  have t9:(d.size:Int)>9:=VY;have t8:¬(n.size:Int)>9:=VY;exact a0Q
 have t9:¬(d.size:Int)>9:=VY;have t8:¬(n.size:Int)>9:=VY;have hpb:=HP.o h9n;have w1:VA.wrap (-(p:Int))= -(p:Int):=VI _ VY;cases sl with
 |false=>
  cases g;all_goals
   go_enter func277,ntmps277;go_wp2_with(first
    |(go_at_call 253;go_loud (refine(S1.o _ h9n).mono ?_);rintro e W2 ⟨rfl,hX2⟩;have HX2:=Vk (HX1.o.tr hX2);clear hX2)
    |(go_at_call 250;go_must(refine KS.o.mono ?_);unfold pM;rintro e W1 ⟨rfl,hX1⟩;have HX1:=Vk hX1;clear hX1))
   go_ret3
   exact⟨⟨_,_,_,rfl,λ_=>⟨rfl,rfl,VY,V0⟩⟩,HX2.o⟩
 |true=>
  have hqb:=HQ.o rfl h9d;cases g;all_goals
   go_enter func277,ntmps277;go_wp2_with(first
    |(go_at_call 253;have hX:=HX2;clear HX2;go_loud (refine(S2.o _ WV h9d).mono ?_);rintro e W3 ⟨rfl,hX3⟩;have HX3:=Vk (hX.o.tr hX3);clear hX3)
    |(go_at_call 253;go_loud (refine(S1.o _ h9n).mono ?_);rintro e W2 ⟨rfl,hX2⟩;have HX2:=Vk (HX1.o.tr hX2);clear hX2)
    |(go_at_call 250;go_must(refine KS.o.mono ?_);unfold pM;rintro e W1 ⟨rfl,hX1⟩;have HX1:=Vk hX1;clear hX1))
   go_ret3
   exact⟨⟨_,_,_,rfl,λ_=>⟨rfl,rfl,VY,VY⟩⟩,HX3.o⟩
def Mx(a b:ByteArray)(w:Vl)(ha:a.size<=1000000)(hb:b.size<=1000000)(oa:jF a)(ob:jF b)(ht:aU w):VC prog 276 #[VR a,VR b] w λe w'=>e=VV (VU VA 0)/\Ext w w':=by
 have KA:=Vk (jr a w ha ht);have HT:=Vk ht;have OA:=Vk oa;have OB:=Vk ob;clear oa ob;go_enter func276,ntmps276;go_wp2_with(first
  |(go_at_call 227;have hX:=X1;clear X1;go_loud (refine(jr b _ hb (HT.o.below hX.o (Vm _))).mono ?_);rintro e W2 ⟨⟨k2,rfl,hk2⟩,hX2⟩;obtain rfl:=hk2.2 OB.o;clear hk2;have X2:=Vk (hX.o.tr hX2))
  |(go_at_call 227;go_loud (refine KA.o.mono ?_);rintro e W1 ⟨⟨k,rfl,hk⟩,hX1⟩;obtain rfl:=hk.2 OA.o;clear hk;have X1:=Vk hX1;clear hX1))
 go_ret;exact⟨rfl,X2.o⟩
def wX{a b c d:ByteArray}{u v x y:Int}(w:Vl)(ha:oJ a u)(hb:oJ b v)(hc:oJ c x)(hd:oJ d y)(h1:(u*v).natAbs<10^60)(h2:(x*y).natAbs<10^60)(ht:aU w):VC prog 278 #[VR a,VR b,VR c,VR d] w λe w'=>(∃s t:ByteArray,e=VV (VX #[VR s,VR t,VU VA 0])/\oJ s (u*v)/\oJ t (x*y))/\Ext w w':=by
 have KA:=Vk (xE w ha hb h1 ht);have HT:=Vk ht;have KB:=Vk (λW (h:Ext w W)=>xE W hc hd h2 (HT.o.below h (Vm _)));clear ha hb hc hd h1 h2;go_enter func278,ntmps278;go_wp2_with(first
  |(go_at_call 306;have hX:=X1;clear X1;go_loud (refine(KB.o _ hX.o).mono ?_);rintro e W2 ⟨⟨t2,rfl,ht2⟩,hX2⟩;have HT2:=Vk ht2;clear ht2;have X2:=Vk (hX.o.tr hX2))
  |(go_at_call 306;go_loud (refine KA.o.mono ?_);rintro e W1 ⟨⟨t1,rfl,ht1⟩,hX1⟩;have HT1:=Vk ht1;clear ht1;have X1:=Vk hX1;clear hX1))
 go_ret3
 exact⟨⟨_,_,rfl,HT1.o,HT2.o⟩,X2.o⟩
def lR(a b:ByteArray):Int:=lB (Eg a*(BZ b:Nat)) (Eg b*(BZ a:Nat))
def xT{x y:Int}(hx:x.natAbs<1000000000)(hy:y.natAbs<1000000000): -1000000000000000000<=x*y/\x*y<=1000000000000000000:=by
 have h:(x*y).natAbs<=1000000000*1000000000:=by rw[Int.natAbs_mul];exact Nat.mul_le_mul VY VY
 omega
def Am(a b:ByteArray)(w:Vl)(ha:a.size<=100000)(hb:b.size<=100000)(oa:jF a)(ob:jF b)(h1:(Eg a*(BZ b:Nat)).natAbs<10^60)(h2:(Eg b*(BZ a:Nat)).natAbs<10^60)(ht:aU w):VC prog 249 #[VR a,VR b] w λe w'=>e=VV (VX #[VU VA (lR a b),VU VA 0])/\Ext w w':=by
 have KC:=Vk (Mx a b w VY VY oa ob ht);have IA:=Vk (λW=>xC a W VY oa);have IB:=Vk (λW=>xC b W VY ob);have PA:=Vk (λW=>nv a W VY);have PB:=Vk (λW=>nv b W VY);obtain⟨i1,i2⟩:=nT oa;obtain⟨i3,i4⟩:=nT ob;obtain⟨c,hc⟩:∃c,lR a b=c:=⟨_,rfl⟩;rw[hc];unfold lR at hc;unfold Q8 at IA IB;obtain⟨na,hna'⟩:∃x,pN (aM a)=x:=⟨_,rfl⟩;obtain⟨da,hda'⟩:∃x,pD (aM a)=x:=⟨_,rfl⟩;obtain⟨nb,hnb'⟩:∃x,pN (aM b)=x:=⟨_,rfl⟩;obtain⟨db,hdb'⟩:∃x,pD (aM b)=x:=⟨_,rfl⟩;rw[hna'] at PA i1;rw[hda'] at PA i2;rw[hnb'] at PB i3;rw[hdb'] at PB i4;obtain⟨n1,e1⟩:∃x,Eg a=x:=⟨_,rfl⟩;obtain⟨n2,e2⟩:∃x,Eg b=x:=⟨_,rfl⟩;obtain⟨d1,e3⟩:∃x:Int,((BZ a:Nat):Int)=x:=⟨_,rfl⟩;obtain⟨d2,e4⟩:∃x:Int,((BZ b:Nat):Int)=x:=⟨_,rfl⟩;rw[e1] at i1 h1 hc IA;rw[e2] at i3 h2 hc IB;rw[e3] at i2 h2 hc IA;rw[e4] at i4 h1 hc IB;have PP:=Vk (λW (h:Ext w W)=>wX W i1 i4 i3 i2 h1 h2 (ht.below h (Vm _)));have HC:=Vk hc;clear hna' hda' hnb' hdb' ht i1 i2 i3 i4 e1 e2 e3 e4 h1 h2 hc oa ob;go_enter func249,ntmps249;go_wp2_with(go_at_call 276;go_loud (refine KC.o.mono ?_);rintro e W1 ⟨rfl,hX1⟩;have X1:=Vk hX1;clear hX1)
 refine(IA.o W1).mono ?_;rintro e W2 ⟨⟨x1,y1,ok1,rfl,ha2⟩,hX2⟩;have X2:=Vk (X1.o.tr hX2);have HA2:=Vk ha2;clear hX2 ha2;go_wp2_with(fail)
 refine(IB.o W2).mono ?_;rintro e W3 ⟨⟨x2,y2,ok2,rfl,hb2⟩,hX3⟩;have X3:=Vk (X2.o.tr hX3);have HB2:=Vk hb2;clear hX3 hb2;by_cases hok:ok1=Vv/\ok2=Vv
 ·obtain⟨rfl,rfl⟩:=hok;obtain⟨rfl,rfl,b1,b2⟩:=HA2.o rfl;obtain⟨rfl,rfl,b3,b4⟩:=HB2.o rfl;have m1:=xT b1 b4;have m2:=xT b3 b2;have w1:VA.wrap (x1*y2)=x1*y2:=VI _ VY;have w2:VA.wrap (x2*y1)=x2*y1:=VI _ VY;have hcc:=HC.o;unfold lB at hcc;obtain⟨u,hu⟩:∃u,x1*y2=u:=⟨_,rfl⟩;obtain⟨v,hv⟩:∃v,x2*y1=v:=⟨_,rfl⟩;rw[hu,hv] at hcc;rw[hu] at w1;rw[hv] at w2;by_cases g1:u<v
  ·rw[if_pos g1] at hcc;exact a0R
  ·rw[if_neg g1] at hcc;by_cases g2:v<u
   ·rw[if_pos g2] at hcc;exact a0R
   ·rw[if_neg g2] at hcc;exact a0R
 ·have HK:=Vk hok;obtain⟨u,hu⟩:∃u,VA.wrap (x1*y2)=u:=⟨_,rfl⟩;obtain⟨v,hv⟩:∃v,VA.wrap (x2*y1)=v:=⟨_,rfl⟩;clear hok;cases ok1<;>cases ok2
  case true.true=>exact absurd ⟨rfl,rfl⟩ HK.o
  all_goals go_wp2_with(first
   |(go_at_call 279;go_loud (refine(AG _ hs.o ht.o).mono ?_);rw[HC.o];rintro e W7 ⟨rfl,hX7⟩;have X7:=Vk (X6.o.tr hX7))
   |(go_at_call 278;go_loud (refine(PP.o _ X5.o).mono ?_);rintro e W6 ⟨⟨s,t,rfl,hs,ht⟩,hX6⟩;have hs:=Vk hs;have ht:=Vk ht;have X6:=Vk (X5.o.tr hX6))
   |(go_at_call 255;with_reducible refine(PB.o _).mono ?_;rintro e W5 ⟨rfl,hX5⟩;have X5:=Vk (X4.o.tr hX5))
   |(go_at_call 255;go_loud (refine(PA.o _).mono ?_);rintro e W4 ⟨rfl,hX4⟩;have X4:=Vk (X3.o.tr hX4)))
  all_goals go_ret2
  all_goals exact⟨rfl,X7.o⟩
end
section
open Kp
def kA(r:List Sd)(k:Nat):Bool:=(oU r k*oU r k+oQ r k*oQ r k !=1)||(lS r k==0)
def iy(r:List Sd):Bool:= !cC (kA r) r.length&&decide (4<=r.length)
def BY(w:Vl)(A:Option VM)(cap:Nat)(r:List Sd)(h:bK 7 w w.heap.size A cap (aD r))(hn:r.length<=1000000):
  VC prog 106 #[VQ A r.length cap] w λx w'=>x=VV (VS (iy r))/\Ext w w':=by
 have h1:=h.1;have h2:=h.2.1;rw[Vu] at h1;unfold VJ at h2;have HL:=Vk (λ(W:Vl) (hx:Ext w W)=>((h.below hx).more hx.size:bK 7 W W.heap.size A cap (aD r)));clear h;obtain⟨v,hv⟩:∃v,iy r=v:=⟨_,rfl⟩;rw[hv];have HV:=Vk hv;clear hv;go_enter func106,ntmps106;go_wp2;go_loopw [3] (λi wr=>∃k:Nat,i=VU VA (k:Int)/\k<=r.length/\Ext w wr/\∀j,j<k->kA r j=Vp) (λi _=>((r.length:Int)-VG i).toNat)
 case atStart=>exact⟨0,rfl,VY,Below.refl _ _,λj h=>VY⟩
 case round=>
  obtain⟨k,rfl,hk,hX,hall⟩:=hrel;have HX:=Vk hX;have HA:=Vk hall;clear hall;by_cases hlt:k<r.length
  ·have KD:=Vk (xx wr A cap r (HL.o _ hX) k hlt);have KT:=Vk (λ(W:Vl) (hx:Ext w W)=>vy W A cap r (HL.o _ hx) hn k hlt);have HB:=Vk (show kA r k=((oU r k*oU r k+oQ r k*oQ r k !=1)||(lS r k==0)) from rfl);have HF:=Vk (λh:kA r k=Vv=>show v=Vp by rw[<-HV.o];unfold iy;rw[dH hlt h];rfl);obtain⟨x1,x2⟩:=L8 (VA.wrap ((aP r k).x-(aq r k).x));obtain⟨y1,y2⟩:=L8 (VA.wrap ((aP r k).y-(aq r k).y));obtain⟨x,hx⟩:∃x,oU r k=x:=⟨_,rfl⟩;obtain⟨y,hy⟩:∃y,oQ r k=y:=⟨_,rfl⟩;change -1<=oU r k at x1;change oU r k<=1 at x2;change -1<=oQ r k at y1;change oQ r k<=1 at y2;rw[hx] at x1 x2 KD HB;rw[hy] at y1 y2 KD HB;clear hx hy hX;have sx:=UR x1 x2;have sy:=UR y1 y2;have w1:VA.wrap (x*x)=x*x:=VI _ VY;have w2:VA.wrap (y*y)=y*y:=VI _ VY;have w3:VA.wrap (x*x+y*y)=x*x+y*y:=VI _ VY;obtain⟨b,hb⟩:∃b,(x*x+y*y !=1)=b:=⟨_,rfl⟩;obtain⟨t,ht⟩:∃t,lS r k=t:=⟨_,rfl⟩;rw[ht] at KT HB;obtain⟨c,hc⟩:∃c,(t==0)=c:=⟨_,rfl⟩;rw[hb,hc] at HB;clear ht;cases b with
   |true=>
    have hf:=HF.o HB.o;subst hf;go_wp2_with(go_at_call 170;go_must(refine KD.o.mono ?_);rintro e W1 ⟨rfl,hX1⟩;have HX1:=Vk (Ext.tr HX.o hX1);clear hX1)
    go_ret;exact⟨rfl,HX1.o⟩
   |false=>
    cases c with
    |true=>
     have hf:=HF.o HB.o;subst hf;go_wp2_with(first
      |(go_at_call 171;refine(KT.o _ HX1.o).mono ?_;rintro e W2 ⟨rfl,hX2⟩;have HX2:=Vk (Ext.tr HX1.o hX2);clear hX2)
      |(go_at_call 170;go_must(refine KD.o.mono ?_);rintro e W1 ⟨rfl,hX1⟩;have HX1:=Vk (Ext.tr HX.o hX1);clear hX1))
     go_ret;exact⟨rfl,HX2.o⟩
    |false=>
     have HN:=Vk HB.o;go_wp2_with(first
      |(go_at_call 171;refine(KT.o _ HX1.o).mono ?_;rintro e W2 ⟨rfl,hX2⟩;have HX2:=Vk (Ext.tr HX1.o hX2);clear hX2)
      |(go_at_call 170;go_must(refine KD.o.mono ?_);rintro e W1 ⟨rfl,hX1⟩;have HX1:=Vk (Ext.tr HX.o hX1);clear hX1))
     exact⟨⟨k+1,by go_num,VY,HX2.o,λj hj=>by
      rcases Nat.lt_succ_iff_lt_or_eq.1 hj with h|rfl
      ·exact HA.o j h
      ·exact HN.o⟩,V7⟩
  ·obtain rfl:k=r.length:=VY;have hq:v=decide (4<=r.length):=by rw[<-HV.o];unfold iy;rw[bt HA.o];simp
   have t1:decide ((r.length:Int)>=4)=v:=by rw[hq];congr 1;simp only[ge_iff_le,eq_iff_iff];omega
   clear hq;exact ZW
end
section
open Kp
def mN(rs:List (List Sd))(k m:Nat):Bool:= !(m==k)&&(np (lF (rs.getD m []) (aq (rs.getD k []) 0).x (aq (rs.getD k []) 0).y) (rs.getD m []).length !=(m==0))
def nz(rs:List (List Sd))(k:Nat):Bool:=decide (1<=k)&&(decide (0<=lK (rs.getD k []) (rs.getD k []).length)||cC (mN rs k) rs.length)
def vI(rs:List (List Sd)):Bool:=decide (0<lK (rs.getD 0 []) (rs.getD 0 []).length)&& !cC (nz rs) rs.length
def OZ(rs:List (List Sd)):∀j,j<1->nz rs j=Vp:=λj h=>by
 obtain rfl:j=0:=VY;simp[nz]
def Rn{p:Prop}(h:p:=by
  have HU:=Vk (jw (P:=λj=>mN rs k j=Vp) A2.o (HOB.o.trans rfl));go_wp2_with fail
  go_region_held3(λw'=>Ext wr w') (first|exact hx1|exact Ext.dr wr) (first|(go_at_call 174;go_must(refine(KIm.o _ (Ext.dr wr)).mono ?_);rintro e W3 ⟨rfl,hX4⟩;have hx1:Ext wr W3:=(Ext.dr wr).tr hX4;clear hX4))
  go_wp2
  go_round
  case rel=>exact⟨m+1,by go_num,VY,HX3.o.tr hx1,HU.o⟩
  case measure=>simp[VG];omega):p:=h
def LG{p:Prop}(h:p:=by
  have hvf:=HBAD.o (by rw[HOFF.o];exact dH hlt2 (HOB.o.trans rfl));subst hvf;go_wp2_with fail
  go_region_held3(λw'=>Ext wr w') (first|exact hx1|exact Ext.dr wr) (first|(go_at_call 174;go_must(refine(KIm.o _ (Ext.dr wr)).mono ?_);rintro e W3 ⟨rfl,hX4⟩;have hx1:Ext wr W3:=(Ext.dr wr).tr hX4;clear hX4))
  go_wp2;go_ret;exact⟨rfl,HX3.o.tr hx1⟩):p:=h
def CQ(w:Vl)(A:Option VM)(cap:Nat)(rs:List (List Sd))(hr:eB w w.heap.size A cap rs)(hp:0<rs.length)(hne:∀r∈rs,r≠[])(hlen:∀k,(rs.getD k []).length<=1000000):
  VC prog 108 #[VQ A rs.length cap] w λx w'=>x=VV (VS (vI rs))/\Ext w w':=by
 have h1:=hr.1;have h2:=hr.2.1;unfold VJ at h2;obtain⟨b,off,f,rfl,hb,hf⟩:=GC hr hp;have HF:=Vk hf;have KT:=Vk (λ(W:Vl) (h:Ext w W) (k:Nat) (hk:k<rs.length)=>F9 W (f k).1 (f k).2 (rs.getD k []) (hf W h k hk).2 (hlen k));have KI:=Vk (λ(W:Vl) (h:Ext w W) (k:Nat) (hk:k<rs.length)=>Bq W (f k).1 (f k).2 (rs.getD k []) (hf W h k hk).2);have HNE:=Vk hne;have c0:=(hf w (Below.refl _ _) 0 hp).1;rw[Nat.add_zero] at c0;have hp':(0:Int)<(rs.length:Int):=VY;clear hr hf hne hlen;obtain⟨v,hv⟩:∃v,vI rs=v:=⟨_,rfl⟩;rw[hv];have hv0:v=(decide (0<lK (rs.getD 0 []) (rs.getD 0 []).length)&& !cC (nz rs) rs.length):=hv.symm;clear hv;have KT0:=KT.o w (Below.refl _ _) 0 hp;obtain⟨z0,hz0⟩:∃z,lK (rs.getD 0 []) (rs.getD 0 []).length=z:=⟨_,rfl⟩;rw[hz0] at hv0 KT0;obtain⟨n0,hn0⟩:∃n,(rs.getD 0 []).length=n:=⟨_,rfl⟩;rw[hn0] at c0 KT0;have KT0:=Vk KT0;clear hn0 hz0;by_cases hz:0<z0
 case neg=>
  have t0:decide (z0<=0)=Vv:=decide_eq_true VY;have hvf:v=Vp:=by rw[hv0,decide_eq_false hz];rfl
  subst hvf;clear hv0 hz;go_enter func108,ntmps108;go_wp2_with(go_at_call 173;go_must(refine KT0.o.mono ?_);rintro e W1 ⟨rfl,hX1⟩;have HX1:=Vk hX1;clear hX1)
  go_ret;exact⟨rfl,HX1.o⟩
 have t0:decide (z0<=0)=Vp:=decide_eq_false VY;rw[decide_eq_true hz,Bool.true_and] at hv0;have HV:=Vk hv0;clear hv0 hz;go_enter func108,ntmps108;go_wp2_with(go_at_call 173;go_must(refine KT0.o.mono ?_);rintro e W1 ⟨rfl,hX1⟩;have HX1:=Vk hX1;clear hX1)
 clear KT0 c0;go_loopw [3] (λi wr=>∃k:Nat,1<=k/\i=VU VA (k:Int)/\k<=rs.length/\Ext w wr/\∀j,j<k->nz rs j=Vp) (λi _=>((rs.length:Int)-VG i).toNat)
 case atStart=>exact⟨1,VY,rfl,VY,HX1.o,OZ rs⟩
 case round=>
  obtain⟨k,hk0,rfl,hk,hX,hA1⟩:=hrel;have HX:=Vk hX;have A1:=Vk hA1;clear hA1;by_cases hlt:k<rs.length
  ·have c0:=(HF.o wr hX k hlt).1;have KTk:=KT.o wr hX k hlt;have hrp:=Kr HNE.o hlt;have hoff:nz rs k=(decide (0<=lK (rs.getD k []) (rs.getD k []).length)||cC (mN rs k) rs.length):=by unfold nz;rw[decide_eq_true hk0,Bool.true_and]
   have HBAD:=Vk (λh:nz rs k=Vv=>show v=Vp by rw[HV.o,dH hlt h];rfl);have HOK:=Vk (λh:nz rs k=Vp=>jw (P:=λj=>nz rs j=Vp) A1.o h);obtain⟨z,hz⟩:∃z,lK (rs.getD k []) (rs.getD k []).length=z:=⟨_,rfl⟩;rw[hz] at hoff KTk;obtain⟨n0,hn0⟩:∃n,(rs.getD k []).length=n:=⟨_,rfl⟩;rw[hn0] at c0 KTk hrp;obtain⟨bk,ok,hA,_⟩:=fM (HF.o _ hX k hlt).2 (by rw[hn0];exact hrp);rw[hA] at c0 KTk;have HA:=Vk hA;clear hA;have KTk:=Vk KTk;have HN0:=Vk hn0;clear hX hn0 hz;by_cases hz:0<=z
   case pos=>
    have t1:decide (z>=0)=Vv:=decide_eq_true hz;have hvf:=HBAD.o (by rw[hoff,decide_eq_true hz];rfl);subst hvf;clear hoff hz;go_wp2_with(go_at_call 173;go_must(refine KTk.o.mono ?_);rintro e W2 ⟨rfl,hX2⟩;have HX2:=Vk (Ext.tr HX.o hX2);clear hX2)
    go_ret;exact⟨rfl,HX2.o⟩
   have t1:decide (z>=0)=Vp:=decide_eq_false hz;rw[decide_eq_false hz,Bool.false_or] at hoff;have HOFF:=Vk hoff;clear hoff hz;go_wp2_with(go_at_call 173;go_must(refine KTk.o.mono ?_);rintro e W2 ⟨rfl,hX2⟩;have HX2:=Vk (Ext.tr HX.o hX2);clear hX2)
   clear c0 KTk;go_loopw [4] (λi wr=>∃m:Nat,i=VU VA (m:Int)/\m<=rs.length/\Ext w wr/\∀j,j<m->mN rs k j=Vp) (λi _=>((rs.length:Int)-VG i).toNat)
   case atStart=>exact⟨0,rfl,VY,HX2.o,λj h=>VY⟩
   case round=>
    obtain⟨m,rfl,hm,hX3,hA2⟩:=hrel;have HX3:=Vk hX3;have A2:=Vk hA2;clear hA2;by_cases hlt2:m<rs.length
    ·by_cases hmk:m=k
     ·have t1:((m:Int) !=(k:Int))=Vp:=by rw[hmk];simp
      have HU:=Vk (jw (P:=λj=>mN rs k j=Vp) A2.o (by unfold mN;rw[hmk];simp));clear hX3;go_wp2_with fail
      go_quiet (fail)
      go_wp2;exact⟨⟨m+1,by go_num,VY,below_drewN HX3.o _,HU.o⟩,V7⟩
     ·have t1:((m:Int) !=(k:Int))=Vv:=WW;obtain⟨bk2,ok2,hA,hbk,hck⟩:=fM (HF.o _ hX3 k hlt).2 (by rw[HN0.o];exact hrp);obtain⟨rfl,rfl⟩:bk=bk2/\ok=ok2:=by have:=HA.o.symm.trans hA;injection this with this;injection this with h1 h2;exact⟨h1,h2⟩
      clear hA;obtain⟨x0,x1,_⟩:=hck 0 (by rw[HN0.o];exact hrp);rw[Nat.zero_mul,Nat.add_zero] at x0 x1;have cm:=λw' (h:Ext wr w')=>(HF.o w' (hX3.tr h) m hlt2).1
      have ck:=λw' (h:Ext wr w')=>(HF.o w' (hX3.tr h) k hlt).1
      have KIm:=λW (h:Ext wr W)=>KI.o W (hX3.tr h) m hlt2 (aq (rs.getD k []) 0).x (aq (rs.getD k []) 0).y
      have hob:mN rs k m=(np (lF (rs.getD m []) (aq (rs.getD k []) 0).x (aq (rs.getD k []) 0).y) (rs.getD m []).length !=(m==0)):=by unfold mN;rw[beq_eq_false_iff_ne.2 hmk];rfl
      obtain⟨sx,hsx⟩:∃x,(aq (rs.getD k []) 0).x=x:=⟨_,rfl⟩;obtain⟨sy,hsy⟩:∃x,(aq (rs.getD k []) 0).y=x:=⟨_,rfl⟩;rw[hsx] at x0;rw[hsy] at x1;simp only[hsx,hsy] at KIm hob;obtain⟨q,hq⟩:∃q,np (lF (rs.getD m []) sx sy) (rs.getD m []).length=q:=⟨_,rfl⟩;simp only[hq] at KIm hob;obtain⟨nm,hnm⟩:∃n,(rs.getD m []).length=n:=⟨_,rfl⟩;simp only[hnm] at cm KIm;simp only[HN0.o,HA.o] at ck;have KIm:=Vk KIm;have cx:=λw' (h:Ext wr w')=>(h.cell (p:=⟨bk,ok,Vo⟩) hbk).trans x0
      have cy:=λw' (h:Ext wr w')=>(h.cell (p:=⟨bk,ok+1,Vo⟩) hbk).trans x1
      have hrp':(0:Int)<(n0:Int):=VY;obtain⟨e,he⟩:∃e,(m==0)=e:=⟨_,rfl⟩;rw[he] at hob;have te:((m:Int)==0)=e:=by rw[<-he,Bool.eq_iff_iff,beq_iff_eq,beq_iff_eq];omega
      have HOB:=Vk hob;clear hX3 hck x0 x1 hnm hq hsx hsy he hob;cases q<;>cases e
      ·exact Rn
      ·exact LG
      ·exact LG
      ·exact Rn
    ·obtain rfl:m=rs.length:=VY;have HK:=Vk (HOK.o (by rw[HOFF.o];exact bt A2.o));go_wp2;exact⟨⟨k+1,VY,by go_num,VY,HX3.o,HK.o⟩,V7⟩
  ·obtain rfl:k=rs.length:=VY;have hvt:v=Vv:=by rw[HV.o,bt A1.o];rfl
   subst hvt;exact ZW
end
section
open Kp
open Classical in
noncomputable def xS(rs:List (List Sd)):Bool:=decide (∃k m q u,k<rs.length/\m<(rs.getD k []).length/\k<=q/\q<rs.length/\u<(rs.getD q []).length/\mz rs k m q u=Vv)
open Classical in
def Td{rs:List (List Sd)}{b:Bool}(h:Sh rs b):b=xS rs:=by
 unfold xS;cases b
 ·symm
  rw[decide_eq_false_iff_not];rintro⟨k,m,q,u,hk,hm,hq,hl,hu,hh⟩;have:=h.2 rfl k hk m hm q hq hl u hu;rw[this] at hh;cases hh
 ·symm
  rw[decide_eq_true_eq];exact h.1 rfl
noncomputable def pq(rs:List (List Sd)):Int:=
 if rs.any (·.isEmpty)||rs.isEmpty then 5
 else if 24<rs.flatten.length then 4
 else if rs.flatten.any λs=> !aJ s then 2
 else if rs.any λr=> !iy r then 14
 else if xS rs then 15
 else if !vI rs|| !qD rs then 14
 else 0
def UE{rs:List (List Sd)}{k:Nat}(h:rs.getD k []=[])(hk:k<rs.length):pq rs=5:=by
 unfold pq;have:rs.any (·.isEmpty)=Vv:=by
  rw[List.any_eq_true];refine⟨rs[k],List.getElem_mem hk,?_⟩;rw[Vn,Vt hk] at h;simp only[Option.getD_some] at h;rw[h];rfl
 rw[this];rfl
def To{rs:List (List Sd)}(hne:∀r∈rs,r≠[])(hp:0<rs.length):pq rs=(if 24<rs.flatten.length then 4 else if rs.flatten.any (λs=> !aJ s) then 2 else if rs.any (λr=> !iy r) then 14 else if xS rs then 15 else if !vI rs|| !qD rs then 14 else 0):=by
 unfold pq;have h1:rs.any (·.isEmpty)=Vp:=by
  rw[List.any_eq_false];intro r hr h;exact hne r hr (List.isEmpty_iff.1 h)
 have h2:rs.isEmpty=Vp:=by cases rs with
  |nil=>simp at hp
  |cons=>rfl
 rw[h1,h2];rfl
def GW{r:List Sd}{i:Nat}(h:i<r.length):aq r i∈r:=by
 unfold aq;rw[Vn,Vt h];exact List.getElem_mem h
def nZ{rs:List (List Sd)}{k:Nat}(h:k<rs.length):rs.getD k []∈rs:=by
 rw[Vn,Vt h];exact List.getElem_mem h
def LS{rs:List (List Sd)}{k m:Nat}(hk:k<rs.length)(hm:m<(rs.getD k []).length)(h:aJ (aq (rs.getD k []) m)=Vp):(rs.flatten.any λs=> !aJ s)=Vv:=by
 rw[List.any_eq_true];exact⟨_,List.mem_flatten.2 ⟨_,nZ hk,GW hm⟩,by rw[h];rfl⟩
def Dv{rs:List (List Sd)}(h:∀j,j<rs.length->∀i,i<(rs.getD j []).length->aJ (aq (rs.getD j []) i)=Vv):(rs.flatten.any λs=> !aJ s)=Vp:=by
 rw[List.any_eq_false];intro s hs;obtain⟨r,hr,hsr⟩:=List.mem_flatten.1 hs;obtain⟨j,hj,rfl⟩:=List.mem_iff_getElem.1 hr;obtain⟨i,hi,rfl⟩:=List.mem_iff_getElem.1 hsr;have:=h j hj i (by rw[Vn,Vt hj];exact hi);unfold aq at this;rw[Vn,Vn,Vt hj] at this;simp only[Option.getD_some] at this;rw[Vt hi] at this;exact a0T
def Od{rs:List (List Sd)}{k:Nat}(hk:k<rs.length)(h:iy (rs.getD k [])=Vp):(rs.any λr=> !iy r)=Vv:=by
 rw[List.any_eq_true];exact⟨_,nZ hk,by rw[h];rfl⟩
def CH{rs:List (List Sd)}(h:∀j,j<rs.length->iy (rs.getD j [])=Vv):(rs.any λr=> !iy r)=Vp:=by
 rw[List.any_eq_false];intro r hr;obtain⟨j,hj,rfl⟩:=List.mem_iff_getElem.1 hr;have:=h j hj;rw[Vn,Vt hj] at this;exact a0T
def vh(w:Vl)(A:Option VM)(cap:Nat)(rs:List (List Sd))(hr:eB w w.heap.size A cap rs)(hfl:rs.flatten.length<=1000000):
  VC prog 46 #[VW #[VQ A rs.length cap]] w λx w'=>x=VV (VU VA (pq rs))/\Ext w w':=by
 have h1:=hr.1;have h2:=hr.2.1;unfold VJ at h2;have E0:=Vk (show Ext w (w.alloc (.cells #[VQ A rs.length cap] 24)) from(Below.refl _ _).alloc (Vm _) _);have R0:=Vk (Bx.new w 24 (VQ A rs.length cap));obtain⟨v,hv⟩:∃v,pq rs=v:=⟨_,rfl⟩;rw[hv];have HV:=Vk hv;clear hv;by_cases hp:rs.length=0
 ·rw[hp] at E0 R0;have c0:=R0.o.cell;rw[hp];clear hr;go_enter func46,ntmps46;have hv:v=5:=by rw[<-HV.o,List.length_eq_zero_iff.1 hp];rfl
  subst hv;go_wp2;go_ret;exact⟨rfl,E0.o⟩
 have hp:0<rs.length:=VY;have hr0:=(hr.below E0.o).more E0.o.size;obtain⟨b,off,f,hA,hb,hf⟩:=GC hr0 hp;have HF:=Vk hf;have HLN:=Vk (nG hfl);have KC:=Vk (λ(W:Vl) (h:Ext (w.alloc (.cells #[VQ A rs.length cap] 24)) W)=>zA W A cap rs ((hr0.below h).more h.size) hp (nG hfl));have KP:=Vk (λ(hne:∀r∈rs,r≠[]) (W:Vl) (h:Ext (w.alloc (.cells #[VQ A rs.length cap] 24)) W)=>CQ W A cap rs ((hr0.below h).more h.size) hp hne (nG hfl));have KR:=Vk (λ(W:Vl) (h:Ext (w.alloc (.cells #[VQ A rs.length cap] 24)) W)=>BC W A cap rs ((hr0.below h).more h.size) hp (nG hfl));have KS:=Vk (λ(W:Vl) (h:Ext (w.alloc (.cells #[VQ A rs.length cap] 24)) W) (k:Nat) (hk:k<rs.length)=>BY W (f k).1 (f k).2 (rs.getD k []) (hf W h k hk).2 (nG hfl k));have HFL:=Vk hfl;subst hA;clear hr hr0 hf hfl;go_enter func46,ntmps46;have c0:=R0.o.cell;have hpne:((rs.length:Int)==0)=Vp:=beq_eq_false_iff_ne.2 VY;have hpn:¬rs=[]:=by intro h;rw[h] at hp;simp at hp
 go_upto_block 0 with(fail)
 obtain⟨w0,hw0⟩:∃w0,w.alloc (.cells #[VQ (Vq ⟨b,off,Vo⟩) rs.length cap] 24)=w0:=⟨_,rfl⟩;simp only[hw0] at E0 R0 HF KC KP KR KS hb⊢;clear hw0 c0;have hB:=λW (h:Ext w0 W)=>(R0.o.below h R0.o.lt).cell
 have HB:=Vk hB;clear hB;go_cut [3] (λs wx=>s=VU VA (rs.flatten.length:Int)/\(∀r∈rs,r≠[])/\Ext w0 wx)
 case first =>
  go_wp2_with fail
  go_loopw [3,4] (λs i wr=>∃k:Nat,k<=rs.length/\i=VU VA (k:Int)/\s=VU VA ((rs.take k).flatten.length:Int)/\Ext w0 wr/\∀m,m<k->rs.getD m []≠[]) (λ_ i _=>((rs.length:Int)-VG i).toNat)
  case atStart=>exact⟨0,VY,rfl,V5,Below.refl _ _,λm hm=>VY⟩
  case round=>
   obtain⟨k,hk,rfl,rfl,hX,hall⟩:=hrel;have HX:=Vk hX;have HA:=Vk hall;have c0:=HB.o _ hX;by_cases hlt:k<rs.length
   ·have c1:=(HF.o _ hX k hlt).1;have hq:=dB hlt;have hle:=eo rs (k+1);have hq2:((rs.take (k+1)).flatten.length:Int)=((rs.take k).flatten.length:Int)+((rs.getD k []).length:Int):=by rw[hq];simp
    obtain⟨m,hm⟩:∃m,(rs.take k).flatten.length=m:=⟨_,rfl⟩;obtain⟨d,hd⟩:∃d,(rs.getD k []).length=d:=⟨_,rfl⟩;rw[hd] at c1;have hs:m+d<=1000000:=by have:=HFL.o;rw[hm,hd] at hq2;omega
    rw[hm];have HQ:=Vk hq2;have HM:=Vk hm;have HD:=Vk hd;clear hq hq2 hm hd hle hX hall;by_cases h0:d=0
    ·subst h0;have hv:=UE (List.length_eq_zero_iff.1 HD.o) hlt;rw[HV.o] at hv;subst hv;exact a0W
    ·have tz:((d:Int)==0)=Vp:=We;have HN:=Vk (show∀j,j<k+1->rs.getD j []≠[] fromλj hj=>by
      by_cases hjk:j=k
      ·rw[hjk];intro e;have hz:=HD.o;rw[e] at hz;exact h0 hz.symm
      ·exact HA.o j VY)
     clear h0;go_wp2
     go_round
     case rel=>exact⟨k+1,VY,by go_num,by rw[HQ.o,HM.o,HD.o],HX.o,HN.o⟩
     case measure=>simp[VG];omega
   ·obtain rfl:k=rs.length:=VY;have hne:∀r∈rs,r≠[]:=by
     intro r hr;obtain⟨i,hi,rfl⟩:=List.mem_iff_getElem.1 hr;have:=HA.o i hi;rw[Vn,Vt hi] at this;exact this
    have HNE:=Vk hne;rw[List.take_length];obtain⟨m,hm⟩:∃m,rs.flatten.length=m:=⟨_,rfl⟩;rw[hm];have HM:=Vk hm;clear hm hX hall hne;go_wp2_with fail
    go_meet;exact⟨by rw[HM.o],HNE.o,HX.o⟩
 case rest=>
  obtain⟨rfl,hne,hX⟩:=hcut;have HX:=Vk hX;have KP:=Vk (KP.o hne);have hv1:=HV.o;rw[To hne hp] at hv1;obtain⟨m,hm⟩:∃m,rs.flatten.length=m:=⟨_,rfl⟩;rw[hm] at hv1;rw[hm];clear hX hm;by_cases h24:24<m
  ·have t4:decide ((m:Int)>24)=Vv:=decide_eq_true VY;rw[if_pos h24] at hv1;subst hv1;clear hne;exact a0W
  have t4:decide ((m:Int)>24)=Vp:=decide_eq_false VY;rw[if_neg h24] at hv1;have HV1:=Vk hv1;have HNE:=Vk hne;clear hne hv1
  go_upto_block 2 with(fail)
  go_cut [] (λwx=>(∀j,j<rs.length->∀i,i<(rs.getD j []).length->aJ (aq (rs.getD j []) i)=Vv)/\Ext w0 wx)
  case first =>
   go_wp2_with fail
   go_loopw [5] (λi wr=>∃k:Nat,i=VU VA (k:Int)/\k<=rs.length/\Ext w0 wr/\∀j,j<k->∀i,i<(rs.getD j []).length->aJ (aq (rs.getD j []) i)=Vv) (λi _=>((rs.length:Int)-VG i).toNat)
   case atStart=>exact⟨0,rfl,VY,HX.o,λj h=>VY⟩
   case round=>
    obtain⟨k,rfl,hk,hX2,hA1⟩:=hrel;have HX2:=Vk hX2;have A1:=Vk hA1;clear hA1;have c0:=HB.o _ hX2;by_cases hlt:k<rs.length
    ·obtain⟨n,hn⟩:∃n,(rs.getD k []).length=n:=⟨_,rfl⟩;have HN:=Vk hn;have hn6:n<=1000000:=by rw[<-hn];exact HLN.o k
     clear hX2 hn;go_wp2_with fail
     clear c0;go_loopw [6] (λi wr=>∃m:Nat,i=VU VA (m:Int)/\m<=n/\Ext w0 wr/\∀i,i<m->aJ (aq (rs.getD k []) i)=Vv) (λi _=>((n:Int)-VG i).toNat)
     case atStart=>exact⟨0,rfl,VY,HX2.o,λj h=>VY⟩
     case round=>
      obtain⟨m,rfl,hm,hX3,hA2⟩:=hrel;have HX3:=Vk hX3;have A2:=Vk hA2;clear hA2;have c0:=HB.o _ hX3;have c1:=(HF.o _ hX3 k hlt).1;rw[HN.o] at c1;by_cases hlt2:m<n
      ·obtain⟨bk,ok,hA,hbk,hck⟩:=fM (HF.o _ hX3 k hlt).2 (by rw[HN.o];omega);obtain⟨y0,y1,y2,y3,y4,y5,y6⟩:=hck m (by rw[HN.o];exact hlt2);rw[hA] at c1;have hb2:=λh:aJ (aq (rs.getD k []) m)=Vp=>(if_pos (LS hlt (by rw[HN.o];exact hlt2) h)).symm.trans HV1.o
       have hok:=λh:aJ (aq (rs.getD k []) m)=Vv=>jw (P:=λi=>aJ (aq (rs.getD k []) i)=Vv) A2.o h
       obtain⟨q,hq⟩:∃q,aJ (aq (rs.getD k []) m)=q:=⟨_,rfl⟩;rw[hq] at hb2 hok;have HB2:=Vk hb2;have HOK:=Vk hok;clear hb2 hok;obtain⟨s,hs⟩:∃s,aq (rs.getD k []) m=s:=⟨_,rfl⟩;rw[hs] at hq;have KRG:=Co s;rw[hq] at KRG;rw[hs] at y0 y1 y2 y3 y4 y5 y6;obtain⟨sx,sy,sr,su,sg,sp,so⟩:=s;dsimp only at y0 y1 y2 y3 y4 y5 y6;have KRG:=Vk KRG;clear hX3 hA hbk hck hs hq;cases q
       ·have hv:=HB2.o rfl;subst hv;go_wp2_with(go_at_call 105;go_must(refine(KRG.o _).mono ?_);rintro e W1 ⟨rfl,hX4⟩;have HX4:=Vk (HX3.o.tr hX4);clear hX4)
        exact a0U
       ·have hok:=HOK.o rfl;have HOK2:=Vk hok;clear hok;go_wp2_with(go_at_call 105;go_must(refine(KRG.o _).mono ?_);rintro e W1 ⟨rfl,hX4⟩;have HX4:=Vk (HX3.o.tr hX4);clear hX4)
        exact⟨⟨m+1,by go_num,VY,HX4.o,HOK2.o⟩,V7⟩
      ·obtain rfl:m=n:=VY;have HK:=Vk (jw (P:=λj=>∀i,i<(rs.getD j []).length->aJ (aq (rs.getD j []) i)=Vv) A1.o (λi hi=>A2.o i (by rw[<-HN.o];exact hi)));clear hX3;go_wp2;exact⟨⟨k+1,by go_num,VY,HX3.o,HK.o⟩,V7⟩
    ·obtain rfl:k=rs.length:=VY;clear hX2;go_wp2_with fail
     go_meet;exact⟨A1.o,HX2.o⟩
  case rest=>
   obtain⟨hrg,hcut⟩:=hcut;have HX:=Vk hcut;have hv2:=HV1.o;rw[Dv hrg] at hv2;have HV2:=Vk hv2;clear hcut hrg hv2
   go_upto_block 6 with(fail)
   go_cut [] (λwx=>(∀j,j<rs.length->iy (rs.getD j [])=Vv)/\Ext w0 wx)
   case first =>
    go_wp2_with fail
    go_loopw [7] (λi wr=>∃k:Nat,i=VU VA (k:Int)/\k<=rs.length/\Ext w0 wr/\∀j,j<k->iy (rs.getD j [])=Vv) (λi _=>((rs.length:Int)-VG i).toNat)
    case atStart=>exact⟨0,rfl,VY,HX.o,λj h=>VY⟩
    case round=>
     obtain⟨k,rfl,hk,hX3,hA1⟩:=hrel;have HX3:=Vk hX3;have A1:=Vk hA1;clear hA1;have c0:=HB.o _ hX3;by_cases hlt:k<rs.length
     ·have c1:=(HF.o _ hX3 k hlt).1;have KSk:=Vk (KS.o _ hX3 k hlt);have hb2:=λh:iy (rs.getD k [])=Vp=>(if_pos (Od hlt h)).symm.trans HV2.o
      have hok:=λh:iy (rs.getD k [])=Vv=>jw (P:=λj=>iy (rs.getD j [])=Vv) A1.o h
      obtain⟨q,hq⟩:∃q,iy (rs.getD k [])=q:=⟨_,rfl⟩;rw[hq] at hb2 hok KSk;have HB2:=Vk hb2;have HOK:=Vk hok;clear hb2 hok hq;obtain⟨ring,hring⟩:∃r,rs.getD k []=r:=⟨_,rfl⟩;obtain⟨fa,hfa⟩:∃x,(f k).1=x:=⟨_,rfl⟩;obtain⟨fc,hfc⟩:∃x,(f k).2=x:=⟨_,rfl⟩;rw[hring,hfa,hfc] at c1 KSk;clear hX3 hring hfa hfc;cases q
      ·have hv:=HB2.o rfl;subst hv;go_wp2_with(go_at_call 106;go_must(refine KSk.o.mono ?_);rintro e W1 ⟨rfl,hX4⟩;have HX4:=Vk (HX3.o.tr hX4);clear hX4)
       exact a0U
      ·have hok:=HOK.o rfl;have HOK2:=Vk hok;clear hok;go_wp2_with(go_at_call 106;go_must(refine KSk.o.mono ?_);rintro e W1 ⟨rfl,hX4⟩;have HX4:=Vk (HX3.o.tr hX4);clear hX4)
       exact⟨⟨k+1,by go_num,VY,HX4.o,HOK2.o⟩,V7⟩
     ·obtain rfl:k=rs.length:=VY;clear hX3;go_wp2_with fail
      go_meet;exact⟨A1.o,HX3.o⟩
   case rest=>
    obtain⟨hsh,hcut⟩:=hcut;have HX:=Vk hcut;have c0:=HB.o _ hcut;have hv3:=HV2.o;rw[CH hsh] at hv3;simp only[Bool.false_eq_true,if_false] at hv3;have HV3:=Vk hv3;clear hcut hsh hv3;go_wp2_with(go_at_call 107;fail)
    refine(KC.o _ HX.o).mono ?_;rintro e W1 ⟨⟨q,rfl,hq⟩,hX4⟩;have HX4:=Vk (HX.o.tr hX4);have c4:=HB.o _ HX4.o;have hv4:=HV3.o;rw[<-Td hq.o] at hv4;clear hX4 c0 hq;obtain⟨q2,hq2⟩:∃q,vI rs=q:=⟨_,rfl⟩;obtain⟨q3,hq3⟩:∃q,qD rs=q:=⟨_,rfl⟩;rw[hq2,hq3] at hv4;rw[hq2] at KP;rw[hq3] at KR;clear hq2 hq3;cases q
    ·cases q2
     ·obtain rfl:(14:Int)=v:=hv4;go_wp2_with(go_at_call 108;go_loud (refine(KP.o _ HX4.o).mono ?_);rintro e W2 ⟨rfl,hX5⟩;have HX5:=Vk (HX4.o.tr hX5);have c5:=HB.o _ HX5.o;clear hX5 c4)
      go_ret;exact⟨rfl,E0.o.tr HX5.o⟩
     ·cases q3
      ·obtain rfl:(14:Int)=v:=hv4;exact a0V
      ·obtain rfl:(0:Int)=v:=hv4;exact a0V
    ·obtain rfl:(15:Int)=v:=hv4;go_wp2_with fail
     exact a0U
end
section
open Kp
def Iu(r:List Sd):Prop:=∀i,i<r.length->aJ (aq r i)=Vv
def Ip{r:List Sd}(h:Iu r){i:Nat}(hi:i<r.length):0<=(aq r i).x/\(aq r i).x<=65536/\0<=(aq r i).y/\(aq r i).y<=65536:=by
 have:=h i hi;unfold aJ aO at this;simp only[Bool.and_eq_true,decide_eq_true_eq] at this;omega
def QJ{r:List Sd}{i:Nat}(hi:i<r.length):aP r ((i+r.length-1)%r.length)=aq r i:=by
 rw[iZ]
 congr 1
 rcases Nat.eq_zero_or_pos i with rfl|h
 ·rw[Nat.zero_add,Nat.mod_eq_of_lt (by omega:r.length-1<r.length),show r.length-1+1=r.length by omega,Nat.mod_self]
 ·rw[show i+r.length-1=(i-1)+r.length by omega,Nat.add_mod_right,Nat.mod_eq_of_lt (by omega:i-1<r.length),show i-1+1=i by omega,Nat.mod_eq_of_lt hi]
def Ci{a b:Int}(h1:0<=a)(h2:a<=65536)(h3:0<=b)(h4:b<=65536):VA.wrap (a-b)=a-b:=VI _ VY
def yW{r:List Sd}(h:Iu r){i:Nat}(hi:i<r.length):oU r i=pI (mS r i):=by
 unfold oU mS;exact a0X
def Ac{r:List Sd}(h:Iu r){i:Nat}(hi:i<r.length):oQ r i=pI (pR r i):=by
 unfold oQ pR;exact a0X
def sS{r:List Sd}{i:Nat}(hi:i<r.length):mS r ((i+r.length-1)%r.length)=uU r i/\pR r ((i+r.length-1)%r.length)=AP r i:=by
 unfold mS pR uU AP;rw[QJ hi,zE];exact⟨rfl,rfl⟩
def iB(n:Int):(pI n=0↔n=0)/\(pI n=1↔0<n)/\(pI n= -1↔n<0):=by unfold pI;split <;>(try split)<;>omega
def sf(n:Int):(pI n=0/\n=0)\/(pI n=1/\0<n)\/(pI n= -1/\n<0):=by unfold pI;split <;>(try split)<;>omega
def GJ{r:List Sd}(h:Iu r){i:Nat}(hi:i<r.length):lS r i=pI (uU r i)*pI (pR r i)-pI (AP r i)*pI (mS r i):=by
 have hp:=Nat.mod_lt (i+r.length-1) (by omega:r.length>0);unfold lS;rw[yW h hp,Ac h hp,yW h hi,Ac h hi,(sS hi).1,(sS hi).2];rcases sf (uU r i) with⟨a,_⟩|⟨a,_⟩|⟨a,_⟩<;>rcases sf (AP r i) with⟨b,_⟩|⟨b,_⟩|⟨b,_⟩<;>rcases sf (mS r i) with⟨c,_⟩|⟨c,_⟩|⟨c,_⟩<;>rcases sf (pR r i) with⟨d,_⟩|⟨d,_⟩|⟨d,_⟩<;>rw[a,b,c,d]<;>decide+kernel
def Bm{r:List Sd}(h:Iu r){i:Nat}(hi:i<r.length)(hb:kA r i=Vp):(pI (mS r i)*pI (mS r i)+pI (pR r i)*pI (pR r i)=1)/\lS r i≠0:=by
 unfold kA at hb;rw[Bool.or_eq_false_iff] at hb;rw[yW h hi,Ac h hi] at hb;exact⟨by simpa using hb.1,by simpa using hb.2⟩
def GD{r:List Sd}(h:Iu r){i:Nat}(hi:i<r.length)(hb:∀j,j<r.length->kA r j=Vp):(mS r i=0/\pR r i≠0/\uU r i≠0/\AP r i=0)\/(mS r i≠0/\pR r i=0/\uU r i=0/\AP r i≠0):=by
 have hp:=Nat.mod_lt (i+r.length-1) (by omega:r.length>0);obtain⟨h1,h2⟩:=Bm h hi (hb i hi);obtain⟨h3,_⟩:=Bm h hp (hb _ hp);rw[(sS hi).1,(sS hi).2] at h3;rw[GJ h hi] at h2;rcases sf (uU r i) with⟨a,a'⟩|⟨a,a'⟩|⟨a,a'⟩<;>rcases sf (AP r i) with⟨b,b'⟩|⟨b,b'⟩|⟨b,b'⟩<;>rcases sf (mS r i) with⟨c,c'⟩|⟨c,c'⟩|⟨c,c'⟩<;>rcases sf (pR r i) with⟨d,d'⟩|⟨d,d'⟩|⟨d,d'⟩<;>rw[c,d] at h1<;>rw[a,b] at h3<;>rw[a,b,c,d] at h2<;>omega
def xr{r:List Sd}(h:Iu r)(hs:iy r=Vv):cI r=Vv/\∀j,j<r.length->kA r j=Vp:=by
 unfold iy at hs;rw[Bool.and_eq_true,Bool.not_eq_true'] at hs;have hb:=pP hs.1;refine⟨?_,hb⟩;unfold cI;rw[hs.2,Bool.true_and,bt]
 ·rfl
 intro i hi;unfold nI;rcases GD h hi hb with⟨a,b,c,d⟩|⟨a,b,c,d⟩
 ·rw[a,beq_eq_false_iff_ne.2 b,beq_eq_false_iff_ne.2 c];rfl
 ·rw[b,beq_eq_false_iff_ne.2 a,c];rfl
def QQ{r:List Sd}(h:Iu r)(hb:∀j,j<r.length->kA r j=Vp){i:Nat}(hi:i<r.length):Gh r i= !decide (lS r i<0):=by
 unfold Gh;rw[GJ h hi];rcases GD h hi hb with⟨a,b,c,d⟩|⟨a,b,c,d⟩
 ·rw[a,d,(iB 0).1.2 rfl];simp only[Int.mul_zero,Int.sub_zero];rcases Int.lt_or_lt_of_ne c with c|c<;>rcases Int.lt_or_lt_of_ne b with b|b
  ·rw[(iB _).2.2.2 c,(iB _).2.2.2 b,decide_eq_true (Int.mul_pos_of_neg_of_neg c b)];rfl
  ·rw[(iB _).2.2.2 c,(iB _).2.1.2 b,decide_eq_false (by have:=Int.mul_neg_of_neg_of_pos c b;omega)];rfl
  ·rw[(iB _).2.1.2 c,(iB _).2.2.2 b,decide_eq_false (by have:=Int.mul_neg_of_pos_of_neg c b;omega)];rfl
  ·rw[(iB _).2.1.2 c,(iB _).2.1.2 b,decide_eq_true (Int.mul_pos c b)];rfl
 ·rw[b,c,(iB 0).1.2 rfl];simp only[Int.zero_mul,Int.zero_sub];rcases Int.lt_or_lt_of_ne d with d|d<;>rcases Int.lt_or_lt_of_ne a with a|a
  ·rw[(iB _).2.2.2 d,(iB _).2.2.2 a,decide_eq_false (by have:=Int.mul_pos_of_neg_of_neg d a;omega)];rfl
  ·rw[(iB _).2.2.2 d,(iB _).2.1.2 a,decide_eq_true (by have:=Int.mul_neg_of_neg_of_pos d a;omega)];rfl
  ·rw[(iB _).2.1.2 d,(iB _).2.2.2 a,decide_eq_true (by have:=Int.mul_neg_of_pos_of_neg d a;omega)];rfl
  ·rw[(iB _).2.1.2 d,(iB _).2.1.2 a,decide_eq_false (by have:=Int.mul_pos d a;omega)];rfl
def Rt{r:List Sd}(h:Iu r)(hb:∀j,j<r.length->kA r j=Vp){i:Nat}(hi:i<r.length):sG r i=lN r i:=by
 unfold sG lN;rw[QQ h hb hi,Bool.not_not]
 congr 1
 rw[Bool.or_comm (aq r i).gable]
 congr 1
 rw[Bool.eq_iff_iff,bne_iff_ne,bne_iff_ne];exact ne_comm
end
section
open Kp
def TQ{r:List Sd}(h:Iu r)(hn:r.length<=24):∀k,k<=r.length->lK r k=qZ (λi=>(aq r i).x*(aP r i).y-(aq r i).y*(aP r i).x) k/\ -(8589934592*(k:Int))<=lK r k/\lK r k<=8589934592*(k:Int):=by
 intro k hk
 induction k with
 |zero=>exact⟨rfl,by simp[lK],by simp[lK]⟩
 |succ k ih=>
  obtain⟨e,b1,b2⟩:=ih VY;have h1:=Ip h (show k<r.length by omega);have h2:=Ip h (Nat.mod_lt (k+1) (by omega:r.length>0));rw[<-iZ] at h2;have p1:0<=(aq r k).x*(aP r k).y:=Int.mul_nonneg h1.1 h2.2.2.1;have p2:(aq r k).x*(aP r k).y<=65536*65536:=Int.mul_le_mul h1.2.1 h2.2.2.2 h2.2.2.1 V0;have p3:0<=(aP r k).x*(aq r k).y:=Int.mul_nonneg h2.1 h1.2.2.1;have p4:(aP r k).x*(aq r k).y<=65536*65536:=Int.mul_le_mul h2.2.1 h1.2.2.2 h1.2.2.1 V0;have e2:(aq r k).y*(aP r k).x=(aP r k).x*(aq r k).y:=Int.mul_comm _ _;rw[lK,qZ,<-e,e2];generalize(aq r k).x*(aP r k).y=P at *;generalize(aP r k).x*(aq r k).y=Q at *;have w1:wrap64 P=P:=IntWalk.wrap64_in _ VY;have w2:wrap64 Q=Q:=IntWalk.wrap64_in _ VY;have w3:wrap64 (lK r k+P)=lK r k+P:=IntWalk.wrap64_in _ VY;have w4:wrap64 (lK r k+P-Q)=lK r k+P-Q:=IntWalk.wrap64_in _ VY;rw[w1,w2,w3,w4];refine⟨VY,VY,VY⟩
def QC{r:List Sd}(h:Iu r)(hn:r.length<=24):lK r r.length=qp r:=(TQ h hn _ (Vm _)).1
def P8(r:List Sd)(x y:Int)(k:Nat):lF r x y k=lh r x y k:=by
 unfold lF lh mS;rcases Int.lt_trichotomy (aq r k).x (aP r k).x with a|a|a
 ·rw[beq_eq_false_iff_ne.2 VY,beq_eq_false_iff_ne.2 VY];rfl
 ·rw[a];have e1:((aP r k).x==(aP r k).x)=Vv:=V5;have e2:((aP r k).x-(aP r k).x==0)=Vv:=V5;rw[e1,e2];simp only[Bool.true_and,gt_iff_lt,Bool.and_assoc]
  congr 1
  rw[Bool.eq_iff_iff];simp only[Bool.and_eq_true,decide_eq_true_eq,bne_iff_ne,ne_eq,decide_eq_decide];omega
 ·rw[beq_eq_false_iff_ne.2 VY,beq_eq_false_iff_ne.2 VY];rfl
def J7(r:List Sd)(x y:Int):np (lF r x y) r.length=j1 r x y:=E8 λi _=>P8 r x y i
structure Fit(rs:List (List Sd)):Prop where
 pos:0<rs.length
 len:∀k,(rs.getD k []).length<=24
 rg:∀k,k<rs.length->Iu (rs.getD k [])
 sh:∀k,k<rs.length->∀j,j<(rs.getD k []).length->kA (rs.getD k []) j=Vp
def I6{rs:List (List Sd)}(h:Fit rs)(hp:vI rs=Vv):eI rs=Vv:=by
 unfold vI at hp;rw[Bool.and_eq_true,decide_eq_true_eq,Bool.not_eq_true'] at hp;obtain⟨h0,hall⟩:=hp;have hoff:=pP hall;unfold eI;rw[bt]
 ·rfl
 intro i hi;unfold IU;rw[<-QC (h.rg i hi) (h.len i)];by_cases hi0:i=0
 ·subst hi0;rw[decide_eq_true h0,bt (λk _=>V5)]
  rfl
 ·have:=hoff i hi;unfold nz at this;rw[decide_eq_true VY,Bool.true_and,Bool.or_eq_false_iff,decide_eq_false_iff_not] at this;rw[decide_eq_false VY,beq_eq_false_iff_ne.2 hi0,bt]
  ·rfl
  intro k hk;have hb:=pP this.2 k hk;unfold mN at hb;rw[J7] at hb;rw[Bool.or_false];exact hb
def J5{rs:List (List Sd)}(h:Fit rs)(hr:qD rs=Vv):fU rs=Vv:=by
 unfold qD at hr;rw[Bool.and_eq_true] at hr;unfold fU;rw[Bool.and_eq_true];refine⟨?_,hr.2⟩;rw[<-hr.1]
 congr 1
 exact tI λk hk=>tI λi hi=>Rt (h.rg k hk) (h.sh k hk) hi
def lexB(a b:Nat×Nat×o7):Prop:=a.1<b.1\/a.1=b.1/\a.2.1<b.2.1
def P5(rs:List (List Sd))(N:Nat):(∀x∈kB rs N,x.1<N/\x.2.1<(rs.getD x.1 []).length/\x.2.2=lA (rs.getD x.1 []) x.2.1)/\List.Pairwise lexB (kB rs N):=by
 induction N with
 |zero=>exact⟨λx h=>by simp[kB] at h,List.Pairwise.nil⟩
 |succ N ih=>
  have hr:∀x∈iE N (rs.getD N []) (rs.getD N []).length,x.1=N/\x.2.1<(rs.getD N []).length/\x.2.2=lA (rs.getD N []) x.2.1:=by
   intro x hx;unfold iE at hx;obtain⟨i,hi,rfl⟩:=List.mem_map.1 hx;exact⟨rfl,List.mem_range.1 hi,rfl⟩
  rw[kB];refine⟨λx hx=> ?_,?_⟩
  ·rcases List.mem_append.1 hx with h|h
   ·obtain⟨a,b,c⟩:=ih.1 x h;exact⟨VY,b,c⟩
   ·obtain⟨a,b,c⟩:=hr x h;rw[a];exact⟨VY,b,c⟩
  ·rw[List.pairwise_append];refine⟨ih.2,?_,λa ha b hb=> .inl ?_⟩
   ·unfold iE;rw[List.pairwise_map];exact List.pairwise_lt_range.imp λh=> .inr ⟨rfl,h⟩
   ·rw[(hr b hb).1];exact(ih.1 a ha).1
def Fx(a b:o7):ee a b=ee b a:=by
 unfold ee;rw[Bool.eq_iff_iff];exact a0F
def RT{rs:List (List Sd)}{a b:Nat×Nat×o7}(ha:a.2.1<(rs.getD a.1 []).length/\a.2.2=lA (rs.getD a.1 []) a.2.1)(hb:b.2.2=lA (rs.getD b.1 []) b.2.1)(hl:lexB b a):uh rs a b=mz rs b.1 b.2.1 a.1 a.2.1:=by
 unfold uh mz;rw[ha.2,hb,Fx]
 congr 2
 rcases hl with h|⟨h,h2⟩
 ·have e1:(a.1==b.1)=Vp:=beq_eq_false_iff_ne.2 VY;have e2:(b.1==a.1)=Vp:=beq_eq_false_iff_ne.2 VY;rw[e1,e2];rfl
 ·have hlt:=ha.1;rw[h];simp only[BEq.rfl,Bool.true_and];rw[Bool.eq_iff_iff];simp only[Bool.or_eq_true,Bool.and_eq_true,beq_iff_eq,decide_eq_true_eq];omega
def FD{rs:List (List Sd)}(h:xS rs=Vp):ey rs=Vp:=by
 have hno:∀k m q u,k<rs.length->m<(rs.getD k []).length->k<=q->q<rs.length->u<(rs.getD q []).length->mz rs k m q u=Vp:=by
  intro k m q u h1 h2 h3 h4 h5;cases hh:mz rs k m q u with
  |false=>rfl
  |true=>
   exfalso;unfold xS at h;rw[decide_eq_false_iff_not] at h;exact h ⟨k,m,q,u,h1,h2,h3,h4,h5,hh⟩
 obtain⟨hok,hpw⟩:=P5 rs rs.length;unfold ey;refine bt λi hi=>bt λk hk=> ?_
 have hkl:k<(kB rs rs.length).length:=VY;have hl:=(List.pairwise_iff_getElem.1 hpw) k i hkl hi hk;rw[Vn,Vn,Vt hi,Vt hkl];simp only[Option.getD_some];obtain⟨a1,a2,a3⟩:=hok _ (List.getElem_mem hi);obtain⟨b1,b2,b3⟩:=hok _ (List.getElem_mem hkl);rw[RT ⟨a2,a3⟩ b3 hl];exact hno _ _ _ _ b1 b2 (by rcases hl with h|⟨h,_⟩<;>omega) a1 a2
def Hv{c:Prop}[Decidable c]{a b:Int}(ha:a≠0)(h:(if c then a else b)=0):¬c/\b=0:=by
 by_cases hc:c
 ·rw[if_pos hc] at h;exact absurd h ha
 ·rw[if_neg hc] at h;exact⟨hc,h⟩
def PW{rs:List (List Sd)}(h:pq rs=0):dw rs=0:=by
 unfold pq at h;obtain⟨h1,h⟩:=Hv V0 h;obtain⟨h2,h⟩:=Hv V0 h;obtain⟨h3,h⟩:=Hv V0 h;obtain⟨h4,h⟩:=Hv V0 h;obtain⟨h5,h⟩:=Hv V0 h;obtain⟨h6,h⟩:=Hv V0 h;rw[Bool.not_eq_true] at h1 h3 h4 h5 h6;rw[Bool.or_eq_false_iff,Bool.not_eq_false',Bool.not_eq_false'] at h6;have hpos:0<rs.length:=by
  cases rs with
  |nil=>simp at h1
  |cons=>simp
 have hrg:∀k,k<rs.length->Iu (rs.getD k []):=by
  intro k hk i hi;have:=List.any_eq_false.1 h3 _ (List.mem_flatten.2 ⟨_,nZ hk,GW hi⟩);exact Ya
 have hsp:∀k,k<rs.length->iy (rs.getD k [])=Vv:=by
  intro k hk;have:=List.any_eq_false.1 h4 _ (nZ hk);exact Ya
 have hlen:∀k,(rs.getD k []).length<=24:=by
  intro k;by_cases hk:k<rs.length
  ·exact VB (List.sublist_flatten_of_mem (nZ hk)).length_le VY
  ·exact a0e
 have hf:Fit rs:=⟨hpos,hlen,hrg,λk hk=>(xr (hrg k hk) (hsp k hk)).2⟩;have h4':(rs.any λr=> !cI r)=Vp:=by
  rw[List.any_eq_false];intro r hr;obtain⟨k,hk,rfl⟩:=List.mem_iff_getElem.1 hr;have:=(xr (hrg k hk) (hsp k hk)).1;rw[Vn,Vt hk] at this;exact a0T
 unfold dw;rw[h1,if_neg h2,h3,h4',FD h5,I6 hf h6.1,J5 hf h6.2]
 rfl
end
section
open Kp
def tG{p:Prop}(h:p:=by
  go_enter func117,ntmps117;go_wp2;go_ret;exact⟨by rw[HV.o]<;>rfl,E0.o⟩):p:=h
def Bw(a b:Aw)(w:Vl):VC prog 117 #[VW (j7 a).toArray,VW (j7 b).toArray] w λx w'=>x=VV (VS (decide (p9 a b<0)))/\Ext w w':=by
 have E0:=Vk (eH w (.cells (j7 a).toArray 66) (.cells (j7 b).toArray 66));have RA:=((ah.new w 66 (j7 a)).ext ((Below.refl _ _).alloc (Vm _) (.cells (j7 b).toArray 66)));have RB:=ah.new (w.alloc (.cells (j7 a).toArray 66)) 66 (j7 b);rw[VF] at RB;have ca:=λi=>RA.cell i
 have cb:=λi=>RB.cell i
 obtain⟨v,hv⟩:∃v,decide (p9 a b<0)=v:=⟨_,rfl⟩;rw[hv];unfold p9 En at hv;clear RA RB;by_cases h1:a.width=b.width
 case neg=>
  have t1:(a.width !=b.width)=Vv:=bne_iff_ne.2 h1;have HV:=Vk (show v=decide (a.width<b.width) by rw[<-hv,if_pos VY];exact decide_eq_decide.2 VY);clear hv h1;exact tG
 have t1:(a.width !=b.width)=Vp:=by simpa using h1
 rw[if_neg VY] at hv;by_cases h2:a.depth=b.depth
 case neg=>
  have t2:(a.depth !=b.depth)=Vv:=bne_iff_ne.2 h2;have HV:=Vk (show v=decide (a.depth<b.depth) by rw[<-hv,if_pos VY];exact decide_eq_decide.2 VY);clear hv h1 h2;exact tG
 have t2:(a.depth !=b.depth)=Vp:=by simpa using h2
 rw[if_neg VY] at hv;by_cases h3:a.spacing=b.spacing
 case neg=>
  have t3:(a.spacing !=b.spacing)=Vv:=bne_iff_ne.2 h3;have HV:=Vk (show v=decide (a.spacing<b.spacing) by rw[<-hv,if_pos VY];exact decide_eq_decide.2 VY);clear hv h1 h2 h3;exact tG
 have t3:(a.spacing !=b.spacing)=Vp:=by simpa using h3
 rw[if_neg VY] at hv;have HV:=Vk (show v=decide (a.load<b.load) by rw[<-hv];exact decide_eq_decide.2 VY);clear hv h1 h2 h3;exact tG
def NM(l:List Aw)(k:Nat):jS l k=(if !jV (l.getD k nJ) then 2 else if decide (0<k)&& !decide (p9 (l.getD (k-1) nJ) (l.getD k nJ)<0) then 10 else 0):=by
 unfold jS;have e2:(0<k/\0<=p9 (l.getD (k-1) nJ) (l.getD k nJ))↔(decide (0<k)&& !decide (p9 (l.getD (k-1) nJ) (l.getD k nJ)<0))=Vv:=by
  simp only[Bool.and_eq_true,decide_eq_true_eq,Bool.not_eq_true',decide_eq_false_iff_not];omega
 simp only[e2]
def F6(w:Vl)(A:Option VM)(cap:Nat)(l:List Aw)(hl:bK 5 w w.heap.size A cap (bI l)):
  VC prog 54 #[VQ A l.length cap] w λx w'=>x=VV (VU VA (gA l))/\Ext w w':=by
 have h1:=hl.1;have h2:=hl.2.1;rw[Vu] at h1;unfold VJ at h2;have HL:=Vk (λ(W:Vl) (hx:Ext w W)=>((hl.below hx).more hx.size:bK 5 W W.heap.size A cap (bI l)));clear hl;obtain⟨v,hv⟩:∃v,gA l=v:=⟨_,rfl⟩;rw[hv];have hv0:v=(if 4096<l.length then 4 else aV (jS l) l.length):=hv.symm;clear hv;by_cases h64:4096<l.length
 case pos=>
  have t5:decide ((l.length:Int)>4096)=Vv:=decide_eq_true VY;rw[if_pos h64] at hv0;subst hv0;clear h64;go_enter func54,ntmps54;go_wp2;go_ret;exact⟨rfl,Below.refl _ _⟩
 have t5:decide ((l.length:Int)>4096)=Vp:=decide_eq_false VY;rw[if_neg h64] at hv0;have HV:=Vk hv0;clear h64 hv0;go_enter func54,ntmps54;go_wp2;go_loopw [3] (λi wr=>∃k:Nat,i=VU VA (k:Int)/\k<=l.length/\Ext w wr/\∀j,j<k->jS l j=0) (λi _=>((l.length:Int)-VG i).toNat)
 case atStart=>exact⟨0,rfl,VY,Below.refl _ _,λj h=>VY⟩
 case round=>
  obtain⟨k,rfl,hk,hX,hA1⟩:=hrel;have HX:=Vk hX;have A1:=Vk hA1;clear hA1;by_cases hlt:k<l.length
  ·obtain⟨b,off,rfl,hb,hc⟩:=NT (HL.o _ hX) VY;obtain⟨y0,y1,y2,y3,y4⟩:=hc k hlt;have HC:=Vk hc;have HB:=Vk hb;have HF:=Vk (λ(z:Int) (h:jS l k=z) (hz:z≠0)=>show v=z by rw[HV.o,<-h];exact bQ hlt A1.o (by rw[h];exact hz));have HOK:=Vk (λh:jS l k=0=>jw (P:=λj=>jS l j=0) A1.o h);have he:=NM l k;obtain⟨x,hx⟩:∃x,l.getD k nJ=x:=⟨_,rfl⟩;rw[hx] at y0 y1 y2 y3 y4 he;obtain⟨xw,xd,xs,xl,xp⟩:=x;dsimp only at y0 y1 y2 y3 y4;have KC:=Vk (λW=>rn xw xd xs xl W);have hrg:jV ⟨xw,xd,xs,xl,xp⟩=((aO xw 1 1000&&aO xd 1 1000&&aO xs 1 65536&&aO xl 0 1048576)&&aO xp 1 65536):=rfl;obtain⟨p,hp⟩:∃p,aO xp 1 65536=p:=⟨_,rfl⟩;have KO:=Vk (λW=>j9 xp 1 65536 W);simp only[hp] at KO;rw[hp] at hrg;obtain⟨cc,hcc⟩:∃c,(aO xw 1 1000&&aO xd 1 1000&&aO xs 1 65536&&aO xl 0 1048576)=c:=⟨_,rfl⟩;have hc5:AO xw xd xs xl=(if cc=Vv then 0 else 2):=by unfold AO;rw[hcc]
   simp only[hc5] at KC;rw[hcc] at hrg;rw[hrg] at he;clear hX hc hb hx hc5 hp hcc hrg;cases cc
   case false=>
    have hv:=HF.o 2 (he.trans rfl) V0;subst hv;clear he;go_wp2_with fail
    go_quiet ((go_at_call 115;exact Calls.quiet_of_same (KC.o _)))
    go_wp2;go_ret;exact⟨rfl,below_drewN HX.o _⟩
   cases p
   case false=>
    have hv:=HF.o 2 (he.trans rfl) V0;subst hv;clear he;go_wp2_with fail
    go_quiet ((first|(go_at_call 115;exact Calls.quiet_of_same (KC.o _))|(go_at_call 116;exact Calls.quiet_of_same (KO.o _))))
    go_wp2;go_ret;exact⟨rfl,below_drewN HX.o _⟩
   have he2:jS l k=(if decide (0<k)&& !decide (p9 (l.getD (k-1) nJ) ⟨xw,xd,xs,xl,xp⟩<0) then 10 else 0):=he;have HE1:=Vk he2;clear he he2;go_wp2_with fail
   go_quiet ((first|(go_at_call 115;exact Calls.quiet_of_same (KC.o _))|(go_at_call 116;exact Calls.quiet_of_same (KO.o _))))
   by_cases hk0:k=0
   ·subst hk0;have HO:=Vk (HOK.o HE1.o);go_wp2_with fail
    go_quiet (fail)
    go_wp2;exact⟨⟨1,by go_num,VY,below_drewN HX.o _,HO.o⟩,V7⟩
   ·have t5:decide ((k:Int)>0)=Vv:=decide_eq_true VY;have t6:0<k:=VY;have he2:=HE1.o;rw[decide_eq_true t6,Bool.true_and] at he2;have w1:VA.wrap ((k:Int)-1)=((k-1:Nat):Int):=by rw[VI _ VY];omega
    have hkl:k-1<l.length:=VY;obtain⟨z0,z1,z2,z3,z4⟩:=HC.o (k-1) hkl;obtain⟨v',hv'⟩:∃x,l.getD (k-1) nJ=x:=⟨_,rfl⟩;rw[hv'] at z0 z1 z2 z3 z4 he2;obtain⟨k1,hk1⟩:∃q,k-1=q:=⟨_,rfl⟩;rw[hk1] at w1 hkl z0 z1 z2 z3 z4;have KBF:=λW=>Bw v' ⟨xw,xd,xs,xl,xp⟩ W
    obtain⟨q,hq⟩:∃q,decide (p9 v' ⟨xw,xd,xs,xl,xp⟩<0)=q:=⟨_,rfl⟩;simp only[hq] at KBF;rw[hq] at he2;clear hq;obtain⟨vw,vd,vs,vl,vp⟩:=v';dsimp only at z0 z1 z2 z3 z4;have KBF:=Vk KBF;have HE2:=Vk he2;have a0:=λw' (h:Ext wr w')=>(h.cell (p:=⟨b,off+k*5,Vo⟩) HB.o).trans y0
    have b0:=λw' (h:Ext wr w')=>(h.cell (p:=⟨b,off+k1*5,Vo⟩) HB.o).trans z0
    have a1:=λw' (h:Ext wr w')=>(h.cell (p:=⟨b,off+k*5+1,Vo⟩) HB.o).trans y1
    have b1:=λw' (h:Ext wr w')=>(h.cell (p:=⟨b,off+k1*5+1,Vo⟩) HB.o).trans z1
    have a2:=λw' (h:Ext wr w')=>(h.cell (p:=⟨b,off+k*5+2,Vo⟩) HB.o).trans y2
    have b2:=λw' (h:Ext wr w')=>(h.cell (p:=⟨b,off+k1*5+2,Vo⟩) HB.o).trans z2
    have a3:=λw' (h:Ext wr w')=>(h.cell (p:=⟨b,off+k*5+3,Vo⟩) HB.o).trans y3
    have b3:=λw' (h:Ext wr w')=>(h.cell (p:=⟨b,off+k1*5+3,Vo⟩) HB.o).trans z3
    have a4:=λw' (h:Ext wr w')=>(h.cell (p:=⟨b,off+k*5+4,Vo⟩) HB.o).trans y4
    have b4:=λw' (h:Ext wr w')=>(h.cell (p:=⟨b,off+k1*5+4,Vo⟩) HB.o).trans z4
    clear z0 z1 z2 z3 z4 y0 y1 y2 y3 y4 hv' hk1 hk0 he2;go_wp2_with fail
    cases q
    ·have hv:=HF.o 10 HE2.o V0;subst hv
     go_region_held3(λw'=>Ext wr w') (first|exact hx1|exact below_drewN (below_drewN (Below.refl _ _) _) _|exact Ext.tr (below_drewN (Below.refl _ _) _) (Ext.dr _)) (first|(go_at_call 117;go_must(refine(KBF.o _).mono ?_);rintro e W3 ⟨rfl,hX4⟩;have hx1:Ext wr W3:=Ext.tr (Ext.tr (below_drewN (Below.refl _ _) _) (Ext.dr _)) hX4;clear hX4))
     go_wp2;go_ret;exact⟨rfl,HX.o.tr hx1⟩
    ·have HO:=Vk (HOK.o HE2.o)
     go_region_held3(λw'=>Ext wr w') (first|exact hx1|exact below_drewN (below_drewN (Below.refl _ _) _) _|exact Ext.tr (below_drewN (Below.refl _ _) _) (Ext.dr _)) (first|(go_at_call 117;go_must(refine(KBF.o _).mono ?_);rintro e W3 ⟨rfl,hX4⟩;have hx1:Ext wr W3:=Ext.tr (Ext.tr (below_drewN (Below.refl _ _) _) (Ext.dr _)) hX4;clear hX4))
     go_wp2
     go_round
     case rel=>exact⟨k+1,by go_num,VY,HX.o.tr hx1,HO.o⟩
     case measure=>simp[VG];omega
  ·exact a0Y
end
section
open Kp
def Og(l:List Sz)(k:Nat):jT l k=(if decide ((l.getD k iF).kind<1)||decide ((l.getD k iF).kind>12) then 8 else if !(aO (l.getD k iF).width 1 1000&&aO (l.getD k iF).depth 1 1000) then 2 else if cC (λm=>(l.getD m iF).kind==(l.getD k iF).kind) k then 7 else 0):=by
 unfold jT aO;dsimp only;have e1:((l.getD k iF).kind<1\/13<=(l.getD k iF).kind)↔(decide ((l.getD k iF).kind<1)||decide ((l.getD k iF).kind>12))=Vv:=by
  simp only[Bool.or_eq_true,decide_eq_true_eq];omega
 have e2:(min (l.getD k iF).width (l.getD k iF).depth<1\/1000<max (l.getD k iF).width (l.getD k iF).depth)↔(!(decide (1<=(l.getD k iF).width)&&decide ((l.getD k iF).width<=1000)&&(decide (1<=(l.getD k iF).depth)&&decide ((l.getD k iF).depth<=1000))))=Vv:=by
  simp only[Bool.not_eq_true',Bool.and_eq_false_iff,decide_eq_false_iff_not];omega
 simp only[e1,e2]
def tE{p:Prop}(h:p:=by
  have he:=HE.o;simp at he;have hv:=HF.o _ he V0;subst hv;clear he;go_wp2_with(go_at_call 112;go_must(refine(qj _ _).mono ?_);rintro e W1 ⟨rfl,rfl⟩)
  go_ret;exact⟨rfl,HX.o⟩):p:=h
def FJ(w:Vl)(A:Option VM)(cap:Nat)(l:List Sz)(hl:bK 3 w w.heap.size A cap (bN l)):
  VC prog 50 #[VQ A l.length cap] w λx w'=>x=VV (VU VA (fy l))/\Ext w w':=by
 have h1:=hl.1;have h2:=hl.2.1;rw[Vu] at h1;unfold VJ at h2;have HL:=Vk (λ(W:Vl) (hx:Ext w W)=>((hl.below hx).more hx.size:bK 3 W W.heap.size A cap (bN l)));clear hl;obtain⟨v,hv⟩:∃v,fy l=v:=⟨_,rfl⟩;rw[hv];have HV:=Vk (show aV (jT l) l.length=v from hv);clear hv;go_enter func50,ntmps50;go_wp2;go_loopw [3] (λi wr=>∃k:Nat,i=VU VA (k:Int)/\k<=l.length/\Ext w wr/\∀j,j<k->jT l j=0) (λi _=>((l.length:Int)-VG i).toNat)
 case atStart=>exact⟨0,rfl,VY,Below.refl _ _,λj h=>VY⟩
 case round=>
  obtain⟨k,rfl,hk,hX,hA1⟩:=hrel;have HX:=Vk hX;have A1:=Vk hA1;clear hA1;by_cases hlt:k<l.length
  ·obtain⟨b,off,rfl,hb,hc⟩:=B7 (HL.o _ hX) VY;obtain⟨c0,c1,c2⟩:=hc k hlt;have HF:=Vk (λ(z:Int) (h:jT l k=z) (hz:z≠0)=>show v=z by rw[<-HV.o,<-h];exact bQ hlt A1.o (by rw[h];exact hz));have HOK:=Vk (λh:jT l k=0=>jw (P:=λj=>jT l j=0) A1.o h);have he:=Og l k;obtain⟨kd,hkd⟩:∃x,(l.getD k iF).kind=x:=⟨_,rfl⟩;obtain⟨wd,hwd⟩:∃x,(l.getD k iF).width=x:=⟨_,rfl⟩;obtain⟨dp,hdp⟩:∃x,(l.getD k iF).depth=x:=⟨_,rfl⟩;have HKD:=Vk hkd;rw[hkd,hwd,hdp] at he;rw[hkd] at c0;rw[hwd] at c1;rw[hdp] at c2;obtain⟨p1,t1⟩:∃p,decide (kd<1)=p:=⟨_,rfl⟩;obtain⟨p2,t2⟩:∃p,decide (kd>12)=p:=⟨_,rfl⟩;obtain⟨p3,t3⟩:∃p,aO wd 1 1000=p:=⟨_,rfl⟩;obtain⟨p4,t4⟩:∃p,aO dp 1 1000=p:=⟨_,rfl⟩;rw[t1,t2,t3,t4] at he;have HE:=Vk he;have hl2:∀q,q=l.length->0<q:=λq h=>VY
   clear hX hc hkd hwd hdp hb he;cases p1
   case true=>exact tE
   cases p2
   case true=>exact tE
   cases p3
   ·exact tE
   cases p4
   ·exact tE
   have HE2:=Vk (show jT l k=(if cC (λm=>(l.getD m iF).kind==kd) k then 7 else 0) from HE.o);go_wp2_with(go_at_call 112;go_must(refine(qj _ _).mono ?_);rintro e W1 ⟨rfl,rfl⟩)
   go_loopw [4] (λi wr=>∃m:Nat,i=VU VA (m:Int)/\m<=k/\Ext w wr/\∀j,j<m->((l.getD j iF).kind==kd)=Vp) (λi _=>((k:Int)-VG i).toNat)
   case atStart=>exact⟨0,rfl,VY,HX.o,λj h=>VY⟩
   case round=>
    obtain⟨m,rfl,hm,hX3,hA2⟩:=hrel;have HX3:=Vk hX3;have A2:=Vk hA2;clear hA2;by_cases hlt2:m<k
    ·obtain⟨b',off',e,hb,hc⟩:=B7 (HL.o _ hX3) VY;injection e with e
     injection e with e1 e2
     subst e1;subst e2;have d0:=(hc m VY).1;have d1:=(hc k hlt).1;rw[HKD.o] at d1;have hml:m<l.length:=VY;have hf7:=λh:((l.getD m iF).kind==kd)=Vv=>HF.o 7 (show jT l k=7 by rw[HE2.o,dH hlt2 h];rfl) V0
     have hok2:=λh:((l.getD m iF).kind==kd)=Vp=>jw (P:=λj=>((l.getD j iF).kind==kd)=Vp) A2.o h
     obtain⟨q,hq⟩:∃q,(l.getD m iF).kind=q:=⟨_,rfl⟩;rw[hq] at hf7 hok2 d0;obtain⟨p,hp⟩:∃p,(q==kd)=p:=⟨_,rfl⟩;rw[hp] at hf7 hok2;have HF7:=Vk hf7;have HOK2:=Vk hok2;clear hX3 hc hb c0 c1 c2 hf7 hok2 hq;cases p
     ·have hok:=HOK2.o rfl;have HO:=Vk hok;clear hok;go_wp2_with fail
      go_quiet (fail)
      go_wp2;exact⟨⟨m+1,by go_num,VY,below_drewN HX3.o _,HO.o⟩,V7⟩
     ·have hv:=HF7.o rfl;subst hv;go_wp2_with fail
      go_quiet (fail)
      go_wp2;go_ret;exact⟨rfl,below_drewN HX3.o _⟩
    ·obtain rfl:m=k:=VY;have hok:=HOK.o (by rw[HE2.o,bt A2.o];rfl);have HO:=Vk hok;clear hok;go_wp2;exact⟨⟨m+1,by go_num,VY,HX3.o,HO.o⟩,V7⟩
  ·obtain rfl:k=l.length:=VY;have hv:v=0:=by rw[<-HV.o];exact bh A1.o
   subst hv;exact ZW
end
end Go.Proofs.YtmliacdegmklaaaGreatDoor
