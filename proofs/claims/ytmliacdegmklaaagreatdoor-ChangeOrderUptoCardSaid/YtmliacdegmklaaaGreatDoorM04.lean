/- ChangeReplays of kingpostlaw58: part 4 of its proof (merged and shortened by program). -/
import Derived.WideMake
import Derived.MapKept
import Derived.Laws.StructEq
import Derived.Laws.CopyRow
import Derived.Deep.DeepCutAuto
import Derived.Test.YtmliacdegmklaaaGreatDoorM02
set_option linter.unusedVariables false
set_option linter.unusedSimpArgs false
set_option linter.defProp false
set_option maxHeartbeats 8000000
set_option maxRecDepth 100000
open Go.RowKit Go.Shelf Go.Proofs.Tryz
open Array renaming getElem?_eq_some_iff→Vz
open Bool renaming false→Vp,true→Vv,and_eq_true_iff→Vw
open Go renaming World→Vl,Value→Vr,undef→Vs,wpOp_step→Vx,Calls→VC,maxLen→VJ,TypeId→VK,Addr→VM,Rows→VP
open Go.AllReady renaming cons→VH,nil→VO
open Go.Ending renaming returned→VV
open Go.IntKind renaming i64→VA
open Go.IntWalk renaming i64_in→VI
open Go.Lib renaming hid→Vk
open Go.RowKit renaming intOf→VG,Below→VL
open Go.Value renaming slice→VQ,string→VR,bool→VS,pointer→VT,int→VU,agg→VW,tuple→VX
open Go.World renaming alloc_heap_new→Vy,size_alloc→VF
open List renaming getD_eq_getElem?_getD→Vn,getElem?_eq_getElem→Vt,length_map→Vu,length_append→VD
open Nat renaming le_refl→Vm,le_trans→VB,mul_comm→VE
open Option renaming none→Vo,some→Vq
open Option.some renaming inj→VN
open Go.Proofs.YtmliacdegmklaaaGreatDoor
namespace Go.Proofs.YtmliacdegmklaaaGreatDoor
section
open Kp
def oI(B b:Nat)(wide num:Int)(bs:By)(w:Vl):Prop:=
 ∃p,CZ b p/\Bd B b 123 p [VU VA wide,VU VA num] (Lib.byteCells bs) w
def oI.heap{B b:Nat}{wide num:Int}{bs:By}{w:Vl}(h:oI B b wide num bs w):∃p v,w.heap[b]?=Vq (.cells #[p,v,VU VA wide,VU VA num] 123 (0,0)):=by
 obtain⟨p,_,_,v,hb,_⟩:=h;exact⟨p,v,hb⟩
def oI.Q0{B b:Nat}{wide num:Int}{bs:By}{w:Vl}(h:oI B b wide num bs w):w.cell? ⟨b,2,Vo⟩=Vq (VU VA wide):=by
 obtain⟨p,v,hb⟩:=h.heap;simp[World.cell?,hb]
def oI.T8{B b:Nat}{wide num:Int}{bs:By}{w:Vl}(h:oI B b wide num bs w):w.cell? ⟨b,3,Vo⟩=Vq (VU VA num):=by
 obtain⟨p,v,hb⟩:=h.heap;simp[World.cell?,hb]
def oI.frozen{B b:Nat}{wide num:Int}{bs:By}{w:Vl}(h:oI B b wide num bs w)(i:Nat):w.frozen? ⟨b,i,Vo⟩=Vp:=by
 obtain⟨p,v,hb⟩:=h.heap;simp[World.frozen?,hb]
def oI.lt{B b:Nat}{wide num:Int}{bs:By}{w:Vl}(h:oI B b wide num bs w):b<w.heap.size:=by
 obtain⟨p,v,hb⟩:=h.heap;exact(Vz.1 hb).1
def oI.low{B b:Nat}{wide num:Int}{bs:By}{w:Vl}(h:oI B b wide num bs w):B<=b:=by
 obtain⟨p,_,hB,_⟩:=h;exact hB
def oI.UH{B b:Nat}{wide num:Int}{bs:By}{w:Vl}(h:oI B b wide num bs w)(x:Int):oI B b x num bs (w.setCell ⟨b,2,Vo⟩ (VU VA x)):=by
 obtain⟨p,hp,hB,v,hb,hown,hne⟩:=h;exact⟨p,hp,hB,v,by simp[World.setCell,Array.getElem?_modify,hb],yL hown hne _,hne⟩
def oI.keep{B b:Nat}{wide num:Int}{bs:By}{w:Vl}(h:oI B b wide num bs w)(i:Nat)(x:Vr):bz B b w (w.setCell ⟨b,i,Vo⟩ x):=
 ⟨(Below.refl _ _).setCell (p:=⟨b,i,Vo⟩) h.low _,(Lib.OthersKept.refl _ _ _).setCell ⟨b,i,Vo⟩ rfl _⟩
def oI.below{B b:Nat}{wide num:Int}{bs:By}{w w':Vl}(h:oI B b wide num bs w)(hs:VL w.heap.size w w'):oI B b wide num bs w':=by
 obtain⟨p,hp,hb⟩:=h;exact⟨p,hp,hb.below hs⟩
structure Gl(w:Vl):Prop where
 pow:aU w
 maxl:eO w
 syn:∃tp p,w.var? prog "strconv.ErrSyntax" =Vq #[.iface tp p]
 rng:∃tp p,w.var? prog "strconv.ErrRange" =Vq #[.iface tp p]
 wrd:∀j,j<12->w.cell? ⟨0,1+j,Vo⟩=Vq (VR (tx (ew.getD j [])))
def tT{n:String}{g:Nat}(hg:prog.globalNamed n=Vq g){w w':Vl}{cs:Array Vr}(h:w.var? prog n=Vq cs){B:Nat}(hb:VL B w w')(hB:g<B):w'.var? prog n=Vq cs:=by
 unfold Vl.var? at h⊢;rw[hg] at h⊢;simp only[Option.bind_some] at h⊢;rw[hb.block g hB];exact h
def Gl.keep{w w':Vl}(h:Gl w){B:Nat}(hb:VL B w w')(hB:9<=B):Gl w':=by
 obtain⟨h1,⟨m,h2⟩,⟨t3,p3,h3⟩,⟨t4,p4,h4⟩,h5⟩:=h;exact⟨tT (g:=6) VZ h1 hb VY,⟨m,(hb.cell (by show 1<B;omega)).trans h2⟩,
  ⟨t3,p3,tT (g:=4) VZ h3 hb VY⟩,⟨t4,p4,tT (g:=5) VZ h4 hb VY⟩,
  λj hj=>(hb.cell (by show 0<B;omega)).trans (h5 j hj)⟩
def tD(B b:Nat)(wide num:Int)(bs:By)(w:Vl)(e:Ending)(w':Vl):Prop:=
 e=VV (VX #[])/\oI B b wide num bs w'/\bz B b w w'
def j6(B b:Nat)(wide num:Int)(bs s:By)(w:Vl)(h:oI B b wide num bs w)(hlen:bs.length+s.length<=100000000)(hBw:B<=w.heap.size):
  VC prog 119 #[sY b,VR (tx s)] w (tD B b wide num (qJ bs s) w):=by
 obtain⟨p,hp,hb⟩:=h;have cl:=Vk (MI B b _ p _ _ w hb);rw[Lib.byteCells_length] at cl;by_cases h0:bs=[]
 ·have t0:¬0<bs.length:=by rw[h0];simp
  have HE:=Vk (show qJ bs s=bs++s by unfold qJ;rw[if_pos h0,h0];rfl);have cs:=Vk (jl B b _ p _ _ (tx s) w hb hp pE (by rw[Lib.byteCells_length,ai];omega) hBw);clear h0 hb hp;go_enter func119,ntmps119;go_wp2_with(first|(go_at_call 179;refine cl.o.mono ?_;rintro e w1 ⟨rfl,rfl⟩)|(go_at_call 181;refine cs.o.mono ?_;rintro e w2 ⟨rfl,hb2,hk2⟩))
  go_end0;refine⟨rfl,?_,hk2⟩;rw[HE.o];refine⟨_,.inr rfl,?_⟩;rw[cP];exact hb2
 ·have t0:0<bs.length:=List.length_pos_iff.2 h0;have HE:=Vk (show qJ bs s=bs++[32]++s by unfold qJ;rw[if_neg h0];simp);have cb:=Vk (xX B b _ p _ _ 32 w hb hp pE (by rw[Lib.byteCells_length];omega) hBw);clear h0 hb hp;go_enter func119,ntmps119;go_wp2_with(first|(go_at_call 179;refine cl.o.mono ?_;rintro e w1 ⟨rfl,rfl⟩)|(go_at_call 180;refine cb.o.mono ?_;rintro e w2 ⟨rfl,hb2,hk2⟩;have hz2:=hk2.low.size)|(go_at_call 181;refine(jl B b _ _ _ _ (tx s) _ hb2 (.inr rfl) pE (by rw[VD,Lib.byteCells_length,ai];simp;omega) VY).mono ?_;rintro e w3 ⟨rfl,hb3,hk3⟩))
  go_end0;refine⟨rfl,?_,hk2.trans hk3⟩;rw[HE.o];refine⟨_,.inr rfl,?_⟩;rw[cP,cP];exact hb3
def cK(w:Vl)(c:Nat)(T:VK)(l:List Vr):Prop:=w.heap[c]?=Vq (.cells l.toArray T (0,0))
def cK.bd{B b c:Nat}{T:VK}{l:List Vr}{w w':Vl}(h:cK w c T l)(hk:bz B b w w')(hc:c≠b)(ht:T≠5):cK w' c T l:=
 hk.kept c _ h (λe=>hc (by cases e;rfl)) (λcs fz e=>ht (by cases e;rfl))
def cK.cell{w:Vl}{c:Nat}{T:VK}{l:List Vr}(h:cK w c T l)(i:Nat):w.cell? ⟨c,i,Vo⟩=l[i]?:=by unfold cK at h;simp[World.cell?,h]
def cK.below{w w':Vl}{c:Nat}{T:VK}{l:List Vr}{B0:Nat}(h:cK w c T l)(hb:VL B0 w w')(hc:c<B0):cK w' c T l:=(hb.block c hc).trans h
def cK.lt{w:Vl}{c:Nat}{T:VK}{l:List Vr}(h:cK w c T l):c<w.heap.size:=(Vz.1 h).1
abbrev SJ(l:List Int):List Vr:=l.map (VU VA ·)
def bj(n:Int):Prop:= -9223372036854775808<=n/\n<=9223372036854775807
def Cw(bs s:By):(qJ bs s).length<=bs.length+s.length+1:=by
 unfold qJ;split
 ·omega
 ·simp;omega
def pz{n:Int}(h:bj n):(Lib.itoa n).length<=20:=by
 obtain⟨h0,h1⟩:=h;unfold Lib.itoa;split
 ·have:=Ag n.natAbs 19 V0 VY;rw[List.length_cons,Lib.decDigits_length];omega
 ·have:=Ag n.toNat 19 V0 VY;rw[Lib.decDigits_length];omega
def wQ{l:List Int}(h:∀n∈l,bj n)(bs:By):(eD bs (qB l)).length<=bs.length+21*l.length:=by
 induction l generalizing bs with
 |nil=>simp[qB,eD]
 |cons n l ih=>
  have h1:=pz (h n V5);have h2:=Cw bs (Lib.itoa n);have h3:=ih (λm hm=>h m (by simp[hm])) (qJ bs (Lib.itoa n));simp only[qB,List.map_cons,FU,List.length_cons] at h3⊢;omega
def rr{α:Type}{l:List α}{k:Nat}(h:k<l.length):l.take (k+1)=l.take k++[l[k]]:=List.take_succ_eq_append_getElem h
def II(x:Int)(l:List Int)(n:Int):o8 x (l++[n])=if C8 n then 2 else o8 x l:=by
 unfold o8;rw[List.any_append,List.any_cons,List.any_nil,Bool.or_false];generalize l.any C8=a;generalize C8 n=b;cases a<;>cases b<;>rfl
def Fu(bs:By)(ws:List By)(s:By):eD bs (ws++[s])=qJ (eD bs ws) s:=by rw[Jr];rfl
structure Lc(B b:Nat)(wide num:Int)(bs:By)(l:List Int)(w:Vl)(i:Vr)(wr:Vl):Prop where
 ex:∃k:Nat,k<=l.length/\i=VU VA (k:Int)/\oI B b (o8 wide (l.take k)) num (eD bs (qB (l.take k))) wr
 keep:bz B b w wr
def yy(B b c:Nat)(T:VK)(wide num:Int)(bs:By)(l:List Int)(cap:Nat)(w:Vl)(h:oI B b wide num bs w)(hr:cK w c T (SJ l))(hc:c≠b)(hT:T≠5)
  (hl:∀n∈l,bj n)(hlen:bs.length+21*l.length<=10000000)(hBw:B<=w.heap.size)(hg:Gl w)(hB:9<=B):
  VC prog 120 #[sY b,VQ (Vq ⟨c,0,Vo⟩) l.length cap] w (tD B b (o8 wide l) num (eD bs (qB l)) w):=by
 have hll:l.length<=10000000:=VY;have HST:=Vk (show Lc B b wide num bs l w (VU VA 0) w from⟨⟨0,VY,rfl,by simp only[List.take_zero];exact h⟩,bz.refl _ _ _⟩);have HG:=Vk hg;have HR:=Vk hr;have HL:=Vk hl;clear h hg hr hl;go_enter func120,ntmps120;go_wp2;go_loopw [8] (λi wr=>Lc B b wide num bs l w i wr) (λi _=>((l.length:Int)-VG i).toNat)
 case atStart=>exact HST.o
 case round=>
  obtain⟨⟨k,hk,rfl,hw⟩,hkp⟩:=hrel;have hsz:=hkp.low.size;by_cases hlt:k<l.length
  ·have hrow:=HR.o.bd hkp hc hT;have hcell:wr.cell? ⟨c,k,Vo⟩=Vq (VU VA l[k]):=by rw[hrow.cell];simp[hlt]
   have hin:=HL.o l[k] (List.getElem_mem hlt);have hgr:=HG.o.keep hkp.low hB;have h20:=pz hin;have hwl:(eD bs (qB (l.take k))).length<=bs.length+21*k:=by
    have:=wQ (l:=l.take k) (λn hn=>HL.o n (List.mem_of_mem_take hn)) bs;rw[List.length_take] at this;omega
   have HES:=Vk (show o8 wide (l.take (k+1))=(if C8 l[k] then 2 else o8 wide (l.take k))/\eD bs (qB (l.take (k+1)))=qJ (eD bs (qB (l.take k))) (Lib.itoa l[k]) by
    rw[rr hlt,II,KH];exact⟨rfl,by show eD bs (_++[Lib.itoa l[k]])=_;rw[Fu]⟩)
   obtain⟨n,hn⟩:∃n,l[k]=n:=⟨_,rfl⟩;rw[hn] at hcell hin h20 HES;have hnext:∀W',bz B b wr W'->oI B b (o8 wide (l.take (k+1))) num (eD bs (qB (l.take (k+1)))) W'->Lc B b wide num bs l w (VU VA ((k:Int)+1)) W':=
    λW' hk' hw'=>⟨⟨k+1,VY,V5,hw'⟩,hkp.trans hk'⟩
   have HN:=Vk hnext;have HKP:=Vk hkp;have hc2:=hw.Q0;have hf2:=hw.frozen 2;clear hn hrow hnext hkp;obtain⟨hin1,hin2⟩:=hin;cases ho:C8 n with
   |true=>
    have ho':n< -1073741824\/1073741824<n:=by unfold C8 at ho;simpa using ho
    have HW:=Vk (hw.UH 2);have HK:=Vk (hw.keep 2 (VU VA 2));have hgr':=Vk (hgr.keep HK.o.low hB);have hz2:(wr.setCell ⟨b,2,Vo⟩ (VU VA 2)).heap.size=wr.heap.size:=by simp[World.setCell]
    have ci:=Vk (jo n (wr.setCell ⟨b,2,Vo⟩ (VU VA 2)) VY VY hgr'.o.pow);rw[ho] at HES;clear hw hgr;rcases ho' with ho'|ho'
    ·exact YE
    ·exact YE
   |false=>
    have ho':¬n< -1073741824/\¬1073741824<n:=by unfold C8 at ho;simpa using ho
    obtain⟨ho1,ho2⟩:=ho';have HW:=Vk hw;have ci:=Vk (jo n wr VY VY hgr.pow);rw[ho] at HES;clear hw hgr;go_wp2_with(first|(go_at_call 182;refine ci.o.mono ?_;rintro e W1 ⟨rfl,hB1⟩;have hz1:=hB1.size)|(go_at_call 119;refine(j6 B b _ num _ (Lib.itoa n) W1 (HW.o.below hB1) VY VY).mono ?_;rintro e W2 ⟨rfl,hw2,hk2⟩))
    refine⟨HN.o _ ((bz.be hB1 VY).trans hk2) (by rw[HES.o.1,HES.o.2];exact hw2),V7⟩
  ·have e:l.take k=l:=List.take_of_length_le VY;rw[e] at hw;have HW:=Vk hw;have hlt':decide ((k:Int)<(l.length:Int))=Vp:=V8;clear hw;go_wp2;go_end0;exact⟨rfl,HW.o,hkp⟩
abbrev wC(l:List By):List Vr:=l.map (λa=> VR (tx a))
def Gk(s:By)(i:Vr):Prop:=∃k:Nat,k<=s.length/\i=VU VA (k:Int)/\(s.take k).all oW=Vv
def FG(s:By)(w:Vl)(hs:s.length<=1000000):
  VC prog 56 #[VR (tx s)] w λe w'=>e=VV (VS (pH s))/\w'=w:=by
 go_enter func56,ntmps56;go_wp2
 go_loop [7] (λi=>Gk s i) (λi=>((s.length:Int)-VG i).toNat)
 case atStart=>exact⟨0,VY,rfl,rfl⟩
 case round=>
  exact YF
end
section
open Kp
def dG{T kt et:VK}{d:TypeDesc}(hm:prog.underlying T=Vq (.map kt et))(hk:prog.underlying kt=Vq d)(w:Vl)(es es':Array MapEntry)(c:Nat)(k v:Vr)(hi:MapKept.IsKey d k)
  (hf:Instr.findNow d k es.toList 0=Vq Vo)(he:es.push {key:=k,val:=v,born:=c}=es'):
  (Instr.mapUpdate T (.map (Vq w.heap.size)) k v).run prog (w.alloc (.map es c))= .ok () (w.alloc (.map es' (c+1))):=by
 have hb:(w.alloc (.map es c)).heap[w.heap.size]?=Vq (.map es c):=Vy w _;have hc:(Instr.checkKey Vp 10000 kt k).run prog (w.alloc (.map es c))= .ok () (w.alloc (.map es c)):=MapKept.run_checkKey hk hi Vp 9999;subst he;simp[Instr.mapUpdate,run_underlying hm,MapKept.run_getObj_map hb,hc,MapKept.run_findKey hk hf,MapKept.run_setObj_map _ hb,Result.andThen];unfold Vl.alloc
 congr 1
 apply Array.ext_getElem?;intro k;simp only[Array.getElem?_setIfInBounds,Array.getElem?_push,Array.size_push];by_cases hk:k=w.heap.size
 ·subst hk;simp
 ·simp[hk,Ne.symm hk]
def Di{T kt et:VK}{d:TypeDesc}(hm:prog.underlying T=Vq (.map kt et))(hk:prog.underlying kt=Vq d)(w:Vl)(b c:Nat)(es:Array MapEntry)(hb:w.heap[b]?=Vq (.map es c))(k:Vr)(hi:MapKept.IsKey d k)(com:Bool)
  {r:Option (Nat×Vr)}(hf:Instr.findNow d k es.toList 0=Vq r){z:Vr}(hz:(zeroValue et).run prog w= .ok z w):
  (Instr.lookup T (.map (Vq b)) k com).run prog w= .ok (if com then VX #[(r.map (·.2)).getD z,VS r.isSome] else(r.map (·.2)).getD z) w:=by
 have hc:(Instr.checkKey es.isEmpty 10000 kt k).run prog w= .ok () w:=MapKept.run_checkKey hk hi es.isEmpty 9999;cases r with
 |none=>simp[Instr.lookup,run_underlying hm,MapKept.run_getObj_map hb,hc,MapKept.run_findKey hk hf,hz,Result.andThen]
 |some p=>simp[Instr.lookup,run_underlying hm,MapKept.run_getObj_map hb,hc,MapKept.run_findKey hk hf,Result.andThen]
abbrev UN:Array MapEntry:=#[]
abbrev TA:Array MapEntry:=#[{key:= VU VA 4,val:= VR ⟨#[112,117,114,108,105,110]⟩,born:=0}]
abbrev Tn:Array MapEntry:=#[{key:= VU VA 4,val:= VR ⟨#[112,117,114,108,105,110]⟩,born:=0},{key:= VU VA 5,val:= VR ⟨#[111,112,101,110,105,110,103]⟩,born:=1}]
abbrev Tx:Array MapEntry:=#[{key:= VU VA 4,val:= VR ⟨#[112,117,114,108,105,110]⟩,born:=0},{key:= VU VA 5,val:= VR ⟨#[111,112,101,110,105,110,103]⟩,born:=1},{key:= VU VA 6,val:= VR ⟨#[115,105,122,101]⟩,born:=2}]
abbrev Ub:Array MapEntry:=#[{key:= VU VA 4,val:= VR ⟨#[112,117,114,108,105,110]⟩,born:=0},{key:= VU VA 5,val:= VR ⟨#[111,112,101,110,105,110,103]⟩,born:=1},{key:= VU VA 6,val:= VR ⟨#[115,105,122,101]⟩,born:=2},{key:= VU VA 7,val:= VR ⟨#[98,97,114]⟩,born:=3}]
abbrev TK:Array MapEntry:=#[{key:= VU VA 4,val:= VR ⟨#[112,117,114,108,105,110]⟩,born:=0},{key:= VU VA 5,val:= VR ⟨#[111,112,101,110,105,110,103]⟩,born:=1},{key:= VU VA 6,val:= VR ⟨#[115,105,122,101]⟩,born:=2},{key:= VU VA 7,val:= VR ⟨#[98,97,114]⟩,born:=3},{key:= VU VA 10,val:= VR ⟨#[108,111,97,100]⟩,born:=4}]
abbrev Lg:Array MapEntry:=#[{key:= VU VA 4,val:= VR ⟨#[112,117,114,108,105,110]⟩,born:=0},{key:= VU VA 5,val:= VR ⟨#[111,112,101,110,105,110,103]⟩,born:=1},{key:= VU VA 6,val:= VR ⟨#[115,105,122,101]⟩,born:=2},{key:= VU VA 7,val:= VR ⟨#[98,97,114]⟩,born:=3},{key:= VU VA 10,val:= VR ⟨#[108,111,97,100]⟩,born:=4},{key:= VU VA 11,val:= VR ⟨#[115,112,97,110]⟩,born:=5}]
abbrev Ur:Array MapEntry:=#[]
abbrev S7:Array MapEntry:=#[{key:= VR ⟨#[110,97,109,101]⟩,val:= VU VA 1,born:=0}]
abbrev TC:Array MapEntry:=#[{key:= VR ⟨#[110,97,109,101]⟩,val:= VU VA 1,born:=0},{key:= VR ⟨#[115,105,100,101]⟩,val:= VU VA 2,born:=1}]
abbrev Ta:Array MapEntry:=#[{key:= VR ⟨#[110,97,109,101]⟩,val:= VU VA 1,born:=0},{key:= VR ⟨#[115,105,100,101]⟩,val:= VU VA 2,born:=1},{key:= VR ⟨#[115,112,97,99,105,110,103]⟩,val:= VU VA 3,born:=2}]
abbrev Th:Array MapEntry:=#[{key:= VR ⟨#[110,97,109,101]⟩,val:= VU VA 1,born:=0},{key:= VR ⟨#[115,105,100,101]⟩,val:= VU VA 2,born:=1},{key:= VR ⟨#[115,112,97,99,105,110,103]⟩,val:= VU VA 3,born:=2},{key:= VR ⟨#[112,117,114,108,105,110]⟩,val:= VU VA 4,born:=3}]
abbrev TB:Array MapEntry:=#[{key:= VR ⟨#[110,97,109,101]⟩,val:= VU VA 1,born:=0},{key:= VR ⟨#[115,105,100,101]⟩,val:= VU VA 2,born:=1},{key:= VR ⟨#[115,112,97,99,105,110,103]⟩,val:= VU VA 3,born:=2},{key:= VR ⟨#[112,117,114,108,105,110]⟩,val:= VU VA 4,born:=3},{key:= VR ⟨#[111,112,101,110,105,110,103]⟩,val:= VU VA 5,born:=4}]
abbrev Tk:Array MapEntry:=#[{key:= VR ⟨#[110,97,109,101]⟩,val:= VU VA 1,born:=0},{key:= VR ⟨#[115,105,100,101]⟩,val:= VU VA 2,born:=1},{key:= VR ⟨#[115,112,97,99,105,110,103]⟩,val:= VU VA 3,born:=2},{key:= VR ⟨#[112,117,114,108,105,110]⟩,val:= VU VA 4,born:=3},{key:= VR ⟨#[111,112,101,110,105,110,103]⟩,val:= VU VA 5,born:=4},{key:= VR ⟨#[115,105,122,101]⟩,val:= VU VA 6,born:=5}]
abbrev Ts:Array MapEntry:=#[{key:= VR ⟨#[110,97,109,101]⟩,val:= VU VA 1,born:=0},{key:= VR ⟨#[115,105,100,101]⟩,val:= VU VA 2,born:=1},{key:= VR ⟨#[115,112,97,99,105,110,103]⟩,val:= VU VA 3,born:=2},{key:= VR ⟨#[112,117,114,108,105,110]⟩,val:= VU VA 4,born:=3},{key:= VR ⟨#[111,112,101,110,105,110,103]⟩,val:= VU VA 5,born:=4},{key:= VR ⟨#[115,105,122,101]⟩,val:= VU VA 6,born:=5},{key:= VR ⟨#[98,97,114]⟩,val:= VU VA 7,born:=6}]
abbrev T7:Array MapEntry:=#[{key:= VR ⟨#[110,97,109,101]⟩,val:= VU VA 1,born:=0},{key:= VR ⟨#[115,105,100,101]⟩,val:= VU VA 2,born:=1},{key:= VR ⟨#[115,112,97,99,105,110,103]⟩,val:= VU VA 3,born:=2},{key:= VR ⟨#[112,117,114,108,105,110]⟩,val:= VU VA 4,born:=3},{key:= VR ⟨#[111,112,101,110,105,110,103]⟩,val:= VU VA 5,born:=4},{key:= VR ⟨#[115,105,122,101]⟩,val:= VU VA 6,born:=5},{key:= VR ⟨#[98,97,114]⟩,val:= VU VA 7,born:=6},{key:= VR ⟨#[107,101,114,102]⟩,val:= VU VA 8,born:=7}]
abbrev Tq:Array MapEntry:=#[{key:= VR ⟨#[110,97,109,101]⟩,val:= VU VA 1,born:=0},{key:= VR ⟨#[115,105,100,101]⟩,val:= VU VA 2,born:=1},{key:= VR ⟨#[115,112,97,99,105,110,103]⟩,val:= VU VA 3,born:=2},{key:= VR ⟨#[112,117,114,108,105,110]⟩,val:= VU VA 4,born:=3},{key:= VR ⟨#[111,112,101,110,105,110,103]⟩,val:= VU VA 5,born:=4},{key:= VR ⟨#[115,105,122,101]⟩,val:= VU VA 6,born:=5},{key:= VR ⟨#[98,97,114]⟩,val:= VU VA 7,born:=6},{key:= VR ⟨#[107,101,114,102]⟩,val:= VU VA 8,born:=7},{key:= VR ⟨#[116,105,108,101]⟩,val:= VU VA 9,born:=8}]
abbrev QR:Array MapEntry:=#[{key:= VR ⟨#[110,97,109,101]⟩,val:= VU VA 1,born:=0},{key:= VR ⟨#[115,105,100,101]⟩,val:= VU VA 2,born:=1},{key:= VR ⟨#[115,112,97,99,105,110,103]⟩,val:= VU VA 3,born:=2},{key:= VR ⟨#[112,117,114,108,105,110]⟩,val:= VU VA 4,born:=3},{key:= VR ⟨#[111,112,101,110,105,110,103]⟩,val:= VU VA 5,born:=4},{key:= VR ⟨#[115,105,122,101]⟩,val:= VU VA 6,born:=5},{key:= VR ⟨#[98,97,114]⟩,val:= VU VA 7,born:=6},{key:= VR ⟨#[107,101,114,102]⟩,val:= VU VA 8,born:=7},{key:= VR ⟨#[116,105,108,101]⟩,val:= VU VA 9,born:=8},{key:= VR ⟨#[108,111,97,100]⟩,val:= VU VA 10,born:=9}]
abbrev Rj:Array MapEntry:=#[{key:= VR ⟨#[110,97,109,101]⟩,val:= VU VA 1,born:=0},{key:= VR ⟨#[115,105,100,101]⟩,val:= VU VA 2,born:=1},{key:= VR ⟨#[115,112,97,99,105,110,103]⟩,val:= VU VA 3,born:=2},{key:= VR ⟨#[112,117,114,108,105,110]⟩,val:= VU VA 4,born:=3},{key:= VR ⟨#[111,112,101,110,105,110,103]⟩,val:= VU VA 5,born:=4},{key:= VR ⟨#[115,105,122,101]⟩,val:= VU VA 6,born:=5},{key:= VR ⟨#[98,97,114]⟩,val:= VU VA 7,born:=6},{key:= VR ⟨#[107,101,114,102]⟩,val:= VU VA 8,born:=7},{key:= VR ⟨#[116,105,108,101]⟩,val:= VU VA 9,born:=8},{key:= VR ⟨#[108,111,97,100]⟩,val:= VU VA 10,born:=9},{key:= VR ⟨#[115,112,97,110]⟩,val:= VU VA 11,born:=10}]
abbrev uG:Array MapEntry:=#[{key:= VR ⟨#[110,97,109,101]⟩,val:= VU VA 1,born:=0},{key:= VR ⟨#[115,105,100,101]⟩,val:= VU VA 2,born:=1},{key:= VR ⟨#[115,112,97,99,105,110,103]⟩,val:= VU VA 3,born:=2},{key:= VR ⟨#[112,117,114,108,105,110]⟩,val:= VU VA 4,born:=3},{key:= VR ⟨#[111,112,101,110,105,110,103]⟩,val:= VU VA 5,born:=4},{key:= VR ⟨#[115,105,122,101]⟩,val:= VU VA 6,born:=5},{key:= VR ⟨#[98,97,114]⟩,val:= VU VA 7,born:=6},{key:= VR ⟨#[107,101,114,102]⟩,val:= VU VA 8,born:=7},{key:= VR ⟨#[116,105,108,101]⟩,val:= VU VA 9,born:=8},{key:= VR ⟨#[108,111,97,100]⟩,val:= VU VA 10,born:=9},{key:= VR ⟨#[115,112,97,110]⟩,val:= VU VA 11,born:=10},{key:= VR ⟨#[114,101,109,111,118,101]⟩,val:= VU VA 12,born:=11}]
def sn(w:Vl):VC prog 55 #[] w λe w'=>e=VV (.map (Vq w.heap.size))/\w'=w.alloc (.map Lg 6):=by
 have hmm:=@run_makeMap prog;have u0:=dG (T:=114) underlying114 underlying3 w UN TA 0 (VU VA 4) (VR ⟨#[112,117,114,108,105,110]⟩) Wl rfl rfl;have u1:=dG (T:=114) underlying114 underlying3 w TA Tn 1 (VU VA 5) (VR ⟨#[111,112,101,110,105,110,103]⟩) Wl rfl rfl;have u2:=dG (T:=114) underlying114 underlying3 w Tn Tx 2 (VU VA 6) (VR ⟨#[115,105,122,101]⟩) Wl rfl rfl;have u3:=dG (T:=114) underlying114 underlying3 w Tx Ub 3 (VU VA 7) (VR ⟨#[98,97,114]⟩) Wl rfl rfl;have u4:=dG (T:=114) underlying114 underlying3 w Ub TK 4 (VU VA 10) (VR ⟨#[108,111,97,100]⟩) Wl rfl rfl;have u5:=dG (T:=114) underlying114 underlying3 w TK Lg 5 (VU VA 11) (VR ⟨#[115,112,97,110]⟩) Wl rfl rfl;go_enter func55,ntmps55;exact XO
def F5(w:Vl):VC prog 123 #[] w λe w'=>e=VV (.map (Vq w.heap.size))/\w'=w.alloc (.map uG 12):=by
 have hmm:=@run_makeMap prog;have u0:=dG (T:=166) underlying166 underlying9 w Ur S7 0 (VR ⟨#[110,97,109,101]⟩) (VU VA 1) Wl VZ rfl;have u1:=dG (T:=166) underlying166 underlying9 w S7 TC 1 (VR ⟨#[115,105,100,101]⟩) (VU VA 2) Wl VZ rfl;have u2:=dG (T:=166) underlying166 underlying9 w TC Ta 2 (VR ⟨#[115,112,97,99,105,110,103]⟩) (VU VA 3) Wl VZ rfl;have u3:=dG (T:=166) underlying166 underlying9 w Ta Th 3 (VR ⟨#[112,117,114,108,105,110]⟩) (VU VA 4) Wl VZ rfl;have u4:=dG (T:=166) underlying166 underlying9 w Th TB 4 (VR ⟨#[111,112,101,110,105,110,103]⟩) (VU VA 5) Wl VZ rfl;have u5:=dG (T:=166) underlying166 underlying9 w TB Tk 5 (VR ⟨#[115,105,122,101]⟩) (VU VA 6) Wl VZ rfl;have u6:=dG (T:=166) underlying166 underlying9 w Tk Ts 6 (VR ⟨#[98,97,114]⟩) (VU VA 7) Wl VZ rfl;have u7:=dG (T:=166) underlying166 underlying9 w Ts T7 7 (VR ⟨#[107,101,114,102]⟩) (VU VA 8) Wl VZ rfl;have u8:=dG (T:=166) underlying166 underlying9 w T7 Tq 8 (VR ⟨#[116,105,108,101]⟩) (VU VA 9) Wl VZ rfl;have u9:=dG (T:=166) underlying166 underlying9 w Tq QR 9 (VR ⟨#[108,111,97,100]⟩) (VU VA 10) Wl VZ rfl;have u10:=dG (T:=166) underlying166 underlying9 w QR Rj 10 (VR ⟨#[115,112,97,110]⟩) (VU VA 11) Wl VZ rfl;have u11:=dG (T:=166) underlying166 underlying9 w Rj uG 11 (VR ⟨#[114,101,109,111,118,101]⟩) (VU VA 12) Wl VZ rfl;go_enter func123,ntmps123;exact XO
theorem Lj(n:Int):Instr.findNow (.int .i64) (.int .i64 n) Lg.toList 0=Vq (if n=4 then Vq (0,.string (tx jd)) else if n=5 then Vq (1,.string (tx fP)) else if n=6 then Vq (2,.string (tx o6)) else if n=7 then Vq (3,.string (tx wv)) else if n=10 then Vq (4,.string (tx ph)) else if n=11 then Vq (5,.string (tx pg)) else Vo):=by
 simp only[Instr.findNow,Instr.sameNow,if_true]
 by_cases h4:n=4
 ·subst h4;rfl
 by_cases h5:n=5
 ·subst h5;rfl
 by_cases h6:n=6
 ·subst h6;rfl
 by_cases h7:n=7
 ·subst h7;rfl
 by_cases h10:n=10
 ·subst h10;rfl
 by_cases h11:n=11
 ·subst h11;rfl
 have b4:(n==4)=Vp:=by simpa using h4
 have b5:(n==5)=Vp:=by simpa using h5
 have b6:(n==6)=Vp:=by simpa using h6
 have b7:(n==7)=Vp:=by simpa using h7
 have b10:(n==10)=Vp:=by simpa using h10
 have b11:(n==11)=Vp:=by simpa using h11
 simp[b4,b5,b6,b7,b10,b11,h4,h5,h6,h7,h10,h11]
theorem D8(w:Vl)(b c:Nat)(hb:w.heap[b]?=Vq (.map Lg c))(n:Int)(com:Bool):
  (Instr.lookup 114 (.map (Vq b)) (.int .i64 n) com).run prog w= .ok (if com then .tuple #[.string (tx (zP n)),.bool (yn n)] else .string (tx (zP n))) w:=by
 have hz:(zeroValue 9).run prog w= .ok (.string ⟨#[]⟩) w:=by kernel_rfl
 rw[Di underlying114 underlying3 w b c Lg hb (.int .i64 n) (by simp[MapKept.IsKey]) com (Lj n) hz]
 unfold zP yn
 congr 1
 by_cases h4:n=4
 ·subst h4;rfl
 by_cases h5:n=5
 ·subst h5;rfl
 by_cases h6:n=6
 ·subst h6;rfl
 by_cases h7:n=7
 ·subst h7;rfl
 by_cases h10:n=10
 ·subst h10;rfl
 by_cases h11:n=11
 ·subst h11;rfl
 have hb:(n==4||n==5||n==6||n==7||n==10||n==11)=Vp:=by simp[h4,h5,h6,h7,h10,h11]
 rw[hb]
 simp only[h4,h5,h6,h7,h10,h11,if_false]
 rfl
def jA(a b:By):(tx a==tx b)=decide (a=b):=by
 rw[beq_toListBytes,ByteArray.toList_eq,ByteArray.toList_eq,bn,bn,Bool.eq_iff_iff];simp
theorem ML(s:By):Instr.findNow .string (.string (tx s)) uG.toList 0=Vq (if s=vB then Vq (0,.int .i64 1) else if s=tX then Vq (1,.int .i64 2) else if s=kC then Vq (2,.int .i64 3) else if s=jd then Vq (3,.int .i64 4) else if s=fP then Vq (4,.int .i64 5) else if s=o6 then Vq (5,.int .i64 6) else if s=wv then Vq (6,.int .i64 7) else if s=pU then Vq (7,.int .i64 8) else if s=uW then Vq (8,.int .i64 9) else if s=ph then Vq (9,.int .i64 10) else if s=pg then Vq (10,.int .i64 11) else if s=ig then Vq (11,.int .i64 12) else Vo):=by
 have bname:(tx s==⟨#[110,97,109,101]⟩)=decide (s=vB):=jA s vB
 have bside:(tx s==⟨#[115,105,100,101]⟩)=decide (s=tX):=jA s tX
 have bspacing:(tx s==⟨#[115,112,97,99,105,110,103]⟩)=decide (s=kC):=jA s kC
 have bpurlin:(tx s==⟨#[112,117,114,108,105,110]⟩)=decide (s=jd):=jA s jd
 have bopening:(tx s==⟨#[111,112,101,110,105,110,103]⟩)=decide (s=fP):=jA s fP
 have bsize:(tx s==⟨#[115,105,122,101]⟩)=decide (s=o6):=jA s o6
 have bbar:(tx s==⟨#[98,97,114]⟩)=decide (s=wv):=jA s wv
 have bkerf:(tx s==⟨#[107,101,114,102]⟩)=decide (s=pU):=jA s pU
 have btile:(tx s==⟨#[116,105,108,101]⟩)=decide (s=uW):=jA s uW
 have bload:(tx s==⟨#[108,111,97,100]⟩)=decide (s=ph):=jA s ph
 have bspan:(tx s==⟨#[115,112,97,110]⟩)=decide (s=pg):=jA s pg
 have bremove:(tx s==⟨#[114,101,109,111,118,101]⟩)=decide (s=ig):=jA s ig
 simp only[Instr.findNow,Instr.sameNow,bname,bside,bspacing,bpurlin,bopening,bsize,bbar,bkerf,btile,bload,bspan,bremove]
 by_cases hname:s=vB
 ·rw[if_pos hname];simp only[decide_eq_true hname]
 rw[if_neg hname];simp only[decide_eq_false hname]
 by_cases hside:s=tX
 ·rw[if_pos hside];simp only[decide_eq_true hside]
 rw[if_neg hside];simp only[decide_eq_false hside]
 by_cases hspacing:s=kC
 ·rw[if_pos hspacing];simp only[decide_eq_true hspacing]
 rw[if_neg hspacing];simp only[decide_eq_false hspacing]
 by_cases hpurlin:s=jd
 ·rw[if_pos hpurlin];simp only[decide_eq_true hpurlin]
 rw[if_neg hpurlin];simp only[decide_eq_false hpurlin]
 by_cases hopening:s=fP
 ·rw[if_pos hopening];simp only[decide_eq_true hopening]
 rw[if_neg hopening];simp only[decide_eq_false hopening]
 by_cases hsize:s=o6
 ·rw[if_pos hsize];simp only[decide_eq_true hsize]
 rw[if_neg hsize];simp only[decide_eq_false hsize]
 by_cases hbar:s=wv
 ·rw[if_pos hbar];simp only[decide_eq_true hbar]
 rw[if_neg hbar];simp only[decide_eq_false hbar]
 by_cases hkerf:s=pU
 ·rw[if_pos hkerf];simp only[decide_eq_true hkerf]
 rw[if_neg hkerf];simp only[decide_eq_false hkerf]
 by_cases htile:s=uW
 ·rw[if_pos htile];simp only[decide_eq_true htile]
 rw[if_neg htile];simp only[decide_eq_false htile]
 by_cases hload:s=ph
 ·rw[if_pos hload];simp only[decide_eq_true hload]
 rw[if_neg hload];simp only[decide_eq_false hload]
 by_cases hspan:s=pg
 ·rw[if_pos hspan];simp only[decide_eq_true hspan]
 rw[if_neg hspan];simp only[decide_eq_false hspan]
 by_cases hremove:s=ig
 ·rw[if_pos hremove];simp only[decide_eq_true hremove]
 rw[if_neg hremove];simp only[decide_eq_false hremove]
theorem LL(w:Vl)(b c:Nat)(hb:w.heap[b]?=Vq (.map uG c))(s:By):
  (Instr.lookup 166 (.map (Vq b)) (.string (tx s)) Vp).run prog w= .ok (.int .i64 (kindOf s)) w:=by
 have hz:(zeroValue 3).run prog w= .ok (.int .i64 0) w:=by kernel_rfl
 rw[Di underlying166 underlying9 w b c uG hb (.string (tx s)) (by simp[MapKept.IsKey]) Vp (ML s) hz]
 unfold kindOf
 congr 1
 by_cases hname:s=vB
 ·rw[if_pos hname,if_pos hname];rfl
 rw[if_neg hname,if_neg hname]
 by_cases hside:s=tX
 ·rw[if_pos hside,if_pos hside];rfl
 rw[if_neg hside,if_neg hside]
 by_cases hspacing:s=kC
 ·rw[if_pos hspacing,if_pos hspacing];rfl
 rw[if_neg hspacing,if_neg hspacing]
 by_cases hpurlin:s=jd
 ·rw[if_pos hpurlin,if_pos hpurlin];rfl
 rw[if_neg hpurlin,if_neg hpurlin]
 by_cases hopening:s=fP
 ·rw[if_pos hopening,if_pos hopening];rfl
 rw[if_neg hopening,if_neg hopening]
 by_cases hsize:s=o6
 ·rw[if_pos hsize,if_pos hsize];rfl
 rw[if_neg hsize,if_neg hsize]
 by_cases hbar:s=wv
 ·rw[if_pos hbar,if_pos hbar];rfl
 rw[if_neg hbar,if_neg hbar]
 by_cases hkerf:s=pU
 ·rw[if_pos hkerf,if_pos hkerf];rfl
 rw[if_neg hkerf,if_neg hkerf]
 by_cases htile:s=uW
 ·rw[if_pos htile,if_pos htile];rfl
 rw[if_neg htile,if_neg htile]
 by_cases hload:s=ph
 ·rw[if_pos hload,if_pos hload];rfl
 rw[if_neg hload,if_neg hload]
 by_cases hspan:s=pg
 ·rw[if_pos hspan,if_pos hspan];rfl
 rw[if_neg hspan,if_neg hspan]
 by_cases hremove:s=ig
 ·rw[if_pos hremove,if_pos hremove];rfl
 rw[if_neg hremove,if_neg hremove]
 rfl
end
section
open Kp
attribute [local go_sem] aS gO ia kp kv kE km kF kL kD ki fZ fW fX fV gx gy gw fD fu fG fF fL eQ gm gH gz gh gB gG gi gE iu gY gX iv eV gj
def iA(w:Vl)(c:Nat)(e:Ed)(g:Vr):Prop:=w.heap[c]?=Vq (.cells (aL e g) 68 (0,0))
def iA.cell{w:Vl}{c:Nat}{e:Ed}{g:Vr}(h:iA w c e g)(i:Nat):w.cell? ⟨c,i,Vo⟩=(aL e g)[i]?:=by unfold iA at h;simp[World.cell?,h]
def iA.bd{B b c:Nat}{e:Ed}{g:Vr}{w w':Vl}(h:iA w c e g)(hk:bz B b w w')(hc:c≠b):iA w' c e g:=
 hk.kept c _ h (λe=>hc (by cases e;rfl)) (λcs fz e=>by cases e)
def iA.below{w w':Vl}{c:Nat}{e:Ed}{g:Vr}{B0:Nat}(h:iA w c e g)(hb:VL B0 w w')(hc:c<B0):iA w' c e g:=(hb.block c hc).trans h
def iA.lt{w:Vl}{c:Nat}{e:Ed}{g:Vr}(h:iA w c e g):c<w.heap.size:=(Vz.1 h).1
def iA.new(w:Vl)(e:Ed)(g:Vr):iA (w.alloc (.cells (aL e g) 68)) w.heap.size e g:=Vy w _
def iA.alloc{w:Vl}{c:Nat}{e:Ed}{g:Vr}(h:iA w c e g)(o:Obj):iA (w.alloc o) c e g:=(Below.heap_alloc w o c h.lt).trans h
def cK.new(w:Vl)(T:VK)(l:List Vr):cK (w.alloc (.cells l.toArray T)) w.heap.size T l:=Vy w _
def oI.alloc{B b:Nat}{wide num:Int}{bs:By}{w:Vl}(h:oI B b wide num bs w)(o:Obj):oI B b wide num bs (w.alloc o):=h.below ((Below.refl _ _).alloc (Vm _) _)
def bz.alloc{B b:Nat}(w:Vl)(hB:B<=w.heap.size)(o:Obj):bz B b w (w.alloc o):=bz.be ((Below.refl _ _).alloc (Vm _) _) hB
structure NU(e:Ed):Prop where
 ints:∀n∈iN e,bj n
 nums:∀a∈numsOf e,a.length<=1000
 text:e.text.length<=1000
def Gf(B b:Nat)(e:Ed)(w:Vl)(r:Ending)(w':Vl):Prop:=tD B b (o8 0 (iN e)) (UA bS 0 (numsOf e)) (eD [] (iY e)) w r w'
def PO(B b:Nat)(e:Ed)(ga:Option VM)(gl gc:Nat)(w:Vl)(h:oI B b 0 0 [] w)(hs:NU e)(hk:e.kind=8)(hg:Gl w)(hB:9<=B)(hBw:B<=w.heap.size):
  VC prog 58 #[sY b,VW (aL e (VQ ga gl gc))] w (Gf B b e w):=by
 have k1:(e.kind==1)=Vp:=WH;have k2:(e.kind==2)=Vp:=WH;have k3:(e.kind==3)=Vp:=WH;have k4:(e.kind==4)=Vp:=WH;have k5:(e.kind==5)=Vp:=WH;have k6:(e.kind==6)=Vp:=WH;have k7:(e.kind==7)=Vp:=WH;have k8:(e.kind==8)=Vv:=WH;have k9:(e.kind==9)=Vp:=WH;have k10:(e.kind==10)=Vp:=WH;have k11:(e.kind==11)=Vp:=WH;have k12:(e.kind==12)=Vp:=WH;have HI:=Vk (show iN e=[e.number] by unfold iN;rw[hk];simp);have HNM:=Vk (show numsOf e=[] by unfold numsOf;rw[hk];simp);have HH:=Vk (show qg e=[pU] by unfold qg;rw[hk];simp);have hin:∀n∈([e.number]:List Int),bj n:=by have:=hs.ints;rw[HI.o] at this;exact this
 have hnu:∀a∈([]:List By),a.length<=1000:=by have:=hs.nums;rw[HNM.o] at this;exact this
 have htx:=hs.text;have hbl:=h.lt;have HA:=Vk (h.alloc (.cells (aL e (VQ ga gl gc)) 68));have E0:=Vk (iA.new w e (VQ ga gl gc));have HK0:=Vk (bz.alloc (B:=B) (b:=b) w hBw (.cells (aL e (VQ ga gl gc)) 68));have HG:=Vk hg;have HIN:=Vk hin;have HNU:=Vk hnu;clear h hs hg hk hin hnu;go_enter func58,ntmps58;go_wp2_with(first
  |(go_at_call 119;refine(j6 B b 0 0 [] pU _ HA.o V0 Wa).mono ?_;rintro r W1 ⟨rfl,hw1,hk1⟩;have E1:=Vk (E0.o.bd hk1 VY);have ec1:=λi=>E1.o.cell i;have hz1:=hk1.low.size;simp only[VF] at hz1;have HW1:=Vk hw1;have HK1:=Vk (HK0.o.trans hk1);clear hw1 hk1)
  |(go_at_call 120;go_must(refine(yy B b _ 3 0 0 _ [e.number] _ _ (HW1.o.alloc _) (cK.new W1 _ (SJ [e.number])) (by have:=HW1.o.lt;omega) V0 HIN.o (by show _+21*1<=_;decide) Wa ((HG.o.keep HK1.o.low hB).keep ((Below.refl _ _).alloc (Vm _) _) VY) hB).mono ?_);rintro r W2 ⟨rfl,hw2,hk2⟩))
 go_end0;refine⟨rfl,?_,(HK1.o.trans (bz.alloc W1 VY _)).trans hk2⟩;rw[HI.o,HNM.o];unfold iY;rw[HI.o,HNM.o,HH.o];simp only[List.append_nil];exact hw2
end
section
open Kp
attribute [local go_sem] aS gO ia gx gy gw fD fu fG fF fL eQ eV
def Gl.drew{w:Vl}(h:Gl w):Gl w.drew:=h.keep (B:=9) (Below.refl 9 w).drew (Vm _)
def Ll(n:Int):(zP n).length<=16:=by
 unfold zP
 repeat' split
 all_goals decide
def Mt(B b:Nat)(e:Ed)(ga:Option VM)(gl gc:Nat)(w:Vl)(h:oI B b 0 0 [] w)(hs:NU e)(hk:e.kind=12)(hg:Gl w)(hB:9<=B)(hBw:B<=w.heap.size):
  VC prog 58 #[sY b,VW (aL e (VQ ga gl gc))] w (Gf B b e w):=by
 have k1:(e.kind==1)=Vp:=WH;have k2:(e.kind==2)=Vp:=WH;have k3:(e.kind==3)=Vp:=WH;have k4:(e.kind==4)=Vp:=WH;have k5:(e.kind==5)=Vp:=WH;have k6:(e.kind==6)=Vp:=WH;have k7:(e.kind==7)=Vp:=WH;have k8:(e.kind==8)=Vp:=WH;have k9:(e.kind==9)=Vp:=WH;have k10:(e.kind==10)=Vp:=WH;have k11:(e.kind==11)=Vp:=WH;have k12:(e.kind==12)=Vv:=WH;have HI:=Vk (show iN e=[e.index] by unfold iN;rw[hk];simp);have HNM:=Vk (show numsOf e=[] by unfold numsOf;rw[hk];simp);have HH:=Vk (show qg e=[ig,zP e.number] by unfold qg;rw[hk];simp);have HIN:=Vk (show∀n∈([e.index]:List Int),bj n by have:=hs.ints;rw[HI.o] at this;exact this);have hrl:=Ll e.number;have hbl:=h.lt;have HA:=Vk (h.alloc (.cells (aL e (VQ ga gl gc)) 68));have E0:=Vk (iA.new w e (VQ ga gl gc));have HK0:=Vk (bz.alloc (B:=B) (b:=b) w hBw (.cells (aL e (VQ ga gl gc)) 68));have HG:=Vk hg;clear h hs hg hk;go_enter func58,ntmps58;go_upto_region 3 with(go_at_call 119;refine(j6 B b 0 0 [] ig _ HA.o V0 Wa).mono ?_;rintro r W1 ⟨rfl,hw1,hk1⟩;have E1:=Vk (E0.o.bd hk1 VY);have ec1:=λi=>E1.o.cell i;have hz1:=hk1.low.size;simp only[VF] at hz1;have HW1:=Vk hw1;have HK1:=Vk (HK0.o.trans hk1);clear hw1 hk1)
 go_region_with (first
  |(go_at_call 55;go_loud (refine(sn _).mono ?_;rintro r W2 ⟨rfl,hW2⟩;have HB2:=Vk (show VL W1.heap.size W1 W2 by rw[hW2];exact(Below.refl _ W1).drew.alloc (Vm _) _);have hlk:=D8 W2 W1.heap.size 6 (by rw[hW2];exact Vy W1.drew _) e.number Vp;have E2:=Vk (E1.o.below HB2.o E1.o.lt);have ec2:=λi=>E2.o.cell i;have hz2:=HB2.o.size;simp only[Bool.false_eq_true,if_false] at hlk;clear hW2))
  |(go_at_call 119;go_loud (refine(j6 B b 0 0 _ (zP e.number) _ (HW1.o.below HB2.o) (by show 6+_<=_;omega) VY).mono ?_;rintro r W3 ⟨rfl,hw3,hk3⟩;have E3:=Vk (E2.o.bd hk3 VY);have ec3:=λi=>E3.o.cell i;have hz3:=hk3.low.size;have HW3:=Vk hw3;have HK3:=Vk ((HK1.o.trans (bz.be HB2.o VY)).trans hk3);clear hw3 hk3)))
 all_goals
  go_wp2_with(go_at_call 120;go_must(refine(yy B b _ 3 0 0 _ [e.index] _ _ (HW3.o.alloc _) (cK.new W3 _ (SJ [e.index])) (by have:=HW3.o.lt;omega) V0 HIN.o (by have:=Cw (qJ [] ig) (zP e.number);have h4:(qJ [] ig).length=6:=rfl;show _+21*1<=_;omega) Wa ((HG.o.keep HK3.o.low hB).keep ((Below.refl _ _).alloc (Vm _) _) VY) hB).mono ?_);rintro r W4 ⟨rfl,hw4,hk4⟩)
  go_end0;refine⟨rfl,?_,(HK3.o.trans (bz.alloc W3 VY _)).trans hk4⟩;rw[HI.o,HNM.o];unfold iY;rw[HI.o,HNM.o,HH.o];simp only[List.append_nil];exact hw4
end
section
open Kp
structure fY(B N b:Nat)(r:sH)(w:Vl):Prop where
 lo:B<=b
 hi:b<N
 ex:∃sb off cap,w.heap[b]?=Vq (.cells #[VQ (Vq ⟨sb,off,Vo⟩) r.1.length cap,VS r.2] 128 (0,0))/\sb≠b/\sb<N/\r.1.length<=cap/\cap<=1000000/\
  (∃cur:Array Vr,w.heap[sb]?=Vq (.cells cur 9 (0,0)))/\∀j (hj:j<r.1.length),w.cell? ⟨sb,off+j,Vo⟩=Vq (VR (tx (r.1[j]'hj)))
 len:∀x∈r.1,x.length<=100000
def fY.dx{B N b:Nat}{r:sH}{w:Vl}(h:fY B N b r w){p:VM}(hp:N<=p.block)(x:Vr):fY B N b r (w.setCell p x):=by
 obtain⟨lo,hi,⟨sb,off,cap,h1,h2,h3,h4,h5,⟨cur,h7⟩,h8⟩,hl⟩:=h;exact⟨lo,hi,⟨sb,off,cap,(Below.heap_setCell w p x b VY).trans h1,h2,h3,h4,h5,⟨cur,(Below.heap_setCell w p x sb VY).trans h7⟩,λj hj=>by
  rw[World.cell?_setCell_other]
  ·exact h8 j hj
  ·intro e;have e1:p.block=sb:=congrArg VM.block e;omega⟩,hl⟩
structure bO(B b:Nat)(w w':Vl):Prop where
 low:VL B w w'
 others:∀k,k<w.heap.size->k≠b->w'.heap[k]?=w.heap[k]?
def bO.refl(B b:Nat)(w:Vl):bO B b w w:=⟨Below.refl _ _,λ_ _ _=>rfl⟩
def bO.trans{B b:Nat}{u v w:Vl}(h:bO B b u v)(k:bO B b v w):bO B b u w:=
 ⟨h.low.trans k.low,λj hj hb=>(k.others j (Nat.lt_of_lt_of_le hj h.low.size) hb).trans (h.others j hj hb)⟩
def bO.be{B b:Nat}{w w':Vl}(h:VL w.heap.size w w')(hB:B<=w.heap.size):bO B b w w':=⟨h.mono hB,λk hk _=>h.block k hk⟩
def bO.set{B b:Nat}(w:Vl)(hB:B<=b)(i:Nat)(x:Vr):bO B b w (w.setCell ⟨b,i,Vo⟩ x):=
 ⟨(Below.refl _ _).setCell (p:=⟨b,i,Vo⟩) hB _,λk _ hk=>Below.heap_setCell w ⟨b,i,Vo⟩ x k hk⟩
def fY.below{B N b:Nat}{r:sH}{w w':Vl}(h:fY B N b r w)(hb:VL w.heap.size w w'):fY B N b r w':=by
 obtain⟨lo,hi,⟨sb,off,cap,h1,h2,h3,h4,h5,⟨cur,h7⟩,h8⟩,hl⟩:=h;have l1:b<w.heap.size:=(Vz.1 h1).1;have l2:sb<w.heap.size:=(Vz.1 h7).1;exact⟨lo,hi,⟨sb,off,cap,(hb.block b l1).trans h1,h2,h3,h4,h5,⟨cur,(hb.block sb l2).trans h7⟩,λj hj=>(hb.cell l2).trans (h8 j hj)⟩,hl⟩
def fY.lt{B N b:Nat}{r:sH}{w:Vl}(h:fY B N b r w):b<w.heap.size:=by
 obtain⟨lo,hi,⟨sb,off,cap,h1,_⟩,hl⟩:=h;exact(Vz.1 h1).1
def Hc(B N b:Nat)(v:Vr)(r:sH)(w:Vl)(e:Ending)(w':Vl):Prop:=e=VV v/\fY B N b r w'/\bO B b w w'
def uj(B N b:Nat)(r:sH)(w:Vl)(h:fY B N b r w):
  VC prog 124 #[sY b] w (Hc B N b (VR (tx (rW r).1)) (rW r).2 w):=by
 obtain⟨ws,wrong⟩:=r;obtain⟨lo,hi,⟨sb,off,cap,h1,h2,h3,h4,h5,⟨cur,h7⟩,h8⟩,hl⟩:=h;have X:eN w b 128 (VQ (Vq ⟨sb,off,Vo⟩) ws.length cap) (VS wrong):=h1;have c0:=X.cell0;have c1:=X.dX;have f0:=X.frozen 0;have f1:=X.frozen 1;cases ws with
 |nil=>
  have HX:=Vk X;have HS:=Vk (show fY B N b ([],Vv) (w.setCell ⟨b,1,Vo⟩ (VS Vv)) from⟨lo,hi,⟨sb,off,cap,X.qe _,h2,h3,h4,h5,⟨cur,(Below.heap_setCell w ⟨b,1,Vo⟩ _ sb h2).trans h7⟩,λj hj=>absurd hj V5⟩,hl⟩);clear h1 X h7 h8 hl;go_enter func124,ntmps124;go_wp2;go_ret;exact⟨rfl,HS.o,bO.set w lo 1 _⟩
 |cons s t=>
  have hc:=h8 0 V5;simp only[List.getElem_cons_zero,Nat.add_zero] at hc;have h4':t.length+1<=cap:=by simpa using h4
  by_cases hcap:cap=1
  ·subst hcap;have ht0:t=[]:=List.length_eq_zero_iff.1 VY;subst ht0;have HS:=Vk (show fY B N b ([],wrong) (w.setCell ⟨b,0,Vo⟩ (VQ (Vq ⟨sb,off,Vo⟩) 0 0)) from⟨lo,hi,⟨sb,off,0,X.mQ _,h2,h3,V5,VY,⟨cur,(Below.heap_setCell w ⟨b,0,Vo⟩ _ sb h2).trans h7⟩,λj hj=>absurd hj V5⟩,λx hx=>by cases hx⟩);exact YG
  ·have HS:=Vk (show fY B N b (t,wrong) (w.setCell ⟨b,0,Vo⟩ (VQ (Vq ⟨sb,off+1,Vo⟩) t.length (cap-1))) from⟨lo,hi,⟨sb,off+1,cap-1,X.mQ _,h2,h3,by show t.length<=_;omega,VY,⟨cur,(Below.heap_setCell w ⟨b,0,Vo⟩ _ sb h2).trans h7⟩,λj hj=>by
    have:=h8 (j+1) (by simp;exact hj);simp only[List.getElem_cons_succ] at this;rw[show off+1+j=off+(j+1) by omega];rw[World.cell?_setCell_other]
    ·exact this
    ·intro e;exact h2 (congrArg VM.block e).symm⟩,λx hx=>hl x (List.mem_cons_of_mem _ hx)⟩)
   have hcap0:(cap-1==0)=Vp:=We;have hcap1:¬cap-1=0:=VY;exact YG
def SF(w:Vl)(s:By)(e:Ending)(w':Vl):Prop:=
 ∃ev,e=VV (VX #[VU VA (nw s).1,ev])/\(((nw s).2=Vp/\ev= .nilIface)\/((nw s).2=Vv/\∃t p,ev= .iface t p))/\VL w.heap.size w w'
def M1(s:By)(w:Vl)(hs:s.length<=100000)(hg:Gl w):VC prog 187 #[VR (tx s)] w (SF w s):=by
 cases ha:Lib.atoiAll s
 ·rename_i v;have hv:nw s=(v,Vp):=by unfold nw;rw[ha]
  refine(strconv_Atoi_ok (tx s) XD v (by rw[bn];exact ha) w).mono ?_;rintro e w' ⟨rfl,hw⟩;refine⟨_,by rw[hv],.inl ⟨by rw[hv],rfl⟩,?_⟩;rcases hw with rfl|⟨t,rfl⟩
  ·exact Below.refl _ _
  ·exact Lib.bytesWorld_below _ _ _
 ·have hv:nw s=(0,Vv):=by unfold nw;rw[ha]
  obtain⟨tp,p,hvar⟩:=hg.syn;refine(strconv_Atoi_syntax_var (tx s) XD (by rw[bn];exact ha.trans rfl) tp p w hvar).mono ?_;rintro e w' ⟨N,rfl,_,_,hB⟩;exact⟨_,by rw[hv],.inr ⟨by rw[hv],_,_,rfl⟩,hB⟩
 ·have hv:nw s=(Lib.atoiSat s,Vv):=by unfold nw;rw[ha]
  obtain⟨tp,p,hvar⟩:=hg.rng;refine(strconv_Atoi_range_var (tx s) XD (by rw[bn];exact ha) tp p w hvar).mono ?_;rintro e w' ⟨N,rfl,_,_,hB⟩;exact⟨_,by rw[hv,bn],.inr ⟨by rw[hv],_,_,rfl⟩,hB⟩
def fY.Kl{B N b:Nat}{r:sH}{w:Vl}(h:fY B N b r w)(x:Bool):fY B N b (r.1,x) (w.setCell ⟨b,1,Vo⟩ (VS x)):=by
 obtain⟨lo,hi,⟨sb,off,cap,h1,h2,h3,h4,h5,⟨cur,h7⟩,h8⟩,hl⟩:=h;have X:eN w b 128 (VQ (Vq ⟨sb,off,Vo⟩) r.1.length cap) (VS r.2):=h1;exact⟨lo,hi,⟨sb,off,cap,X.qe _,h2,h3,h4,h5,⟨cur,(Below.heap_setCell w ⟨b,1,Vo⟩ _ sb h2).trans h7⟩,λj hj=>by
  rw[World.cell?_setCell_other]
  ·exact h8 j hj
  ·intro e;exact h2 (congrArg VM.block e).symm⟩,hl⟩
def fY.cells{B N b:Nat}{r:sH}{w:Vl}(h:fY B N b r w):w.cell? ⟨b,1,Vo⟩=Vq (VS r.2)/\w.frozen? ⟨b,1,Vo⟩=Vp/\∃A c,w.cell? ⟨b,0,Vo⟩=Vq (VQ A r.1.length c):=by
 obtain⟨lo,hi,⟨sb,off,cap,h1,_⟩,hl⟩:=h;have X:eN w b 128 (VQ (Vq ⟨sb,off,Vo⟩) r.1.length cap) (VS r.2):=h1;exact⟨X.dX,X.frozen 1,_,_,X.cell0⟩
def RU{B N b:Nat}{r:sH}{w:Vl}(h:fY B N b r w):(rW r).1.length<=100000:=by
 obtain⟨ws,x⟩:=r;cases ws with
 |nil=>simp[rW]
 |cons s t=>exact h.len s (List.mem_cons_self ..)
def JW(B N b:Nat)(r:sH)(w:Vl)(h:fY B N b r w)(hg:Gl w)(hB:9<=B)(hBw:B<=w.heap.size):
  VC prog 125 #[sY b] w (Hc B N b (VU VA (rI r).1) (rI r).2 w):=by
 have hc:=Vk (uj B N b r w h);have hl:=RU h;have hnil:=λW=>run_eql_nil_nil (P:=prog) W 212 VZ
 have HG:=Vk hg;have lo:=h.lo;clear h hg;go_enter func125,ntmps125;go_upto_region 2 with(first
  |(go_at_call 124;refine hc.o.mono ?_;rintro e w1 ⟨rfl,h1,h2⟩;have H1:=Vk h1;have K1:=Vk h2;clear h1 h2)
  |(go_at_call 187;refine(M1 _ _ hl (HG.o.keep K1.o.low hB)).mono ?_;rintro e w2 ⟨ev,rfl,hev,hB2⟩;have H2:=Vk (H1.o.below hB2);have K2:=Vk (K1.o.trans (bO.be hB2 (by have:=K1.o.low.size;omega)));have HEV:=Vk hev;clear hev))
 obtain⟨c1,f1,_⟩:=H2.o.cells;have HS:=Vk (λx=>(H2.o.Kl x));cases hr:(rW r).2.2 with
 |true=>
  have HR:=Vk (show(rI r).2=((rW r).2.1,Vv) by unfold rI;rw[hr];rfl);rw[hr] at c1;exact YH
 |false=>
  rw[hr] at c1;rcases HEV.o with⟨hv,rfl⟩|⟨hv,t,p,rfl⟩
  ·have HR:=Vk (show(rI r).2=((rW r).2.1,Vp) by unfold rI;rw[hr,hv];rfl);clear HEV;go_wp2;go_ret;exact⟨rfl,by rw[HR.o];exact HS.o Vp,K2.o.trans (bO.set _ lo 1 _)⟩
  ·have HR:=Vk (show(rI r).2=((rW r).2.1,Vv) by unfold rI;rw[hr,hv];rfl);clear HEV;exact YH
end
section
open Kp
attribute [local go_sem] aS gO ia fD fu fG fF fL eQ
def cj(w:Vl)(B:Nat)(ga:Option VM)(gc:Nat)(l:List (Int×Int)):Prop:=
 l.length<=gc/\gc<=VJ/\(0<l.length->∃gb go,ga=Vq ⟨gb,go,Vo⟩/\gb<B/\∀j (hj:j<l.length),w.cell? ⟨gb,go+2*j,Vo⟩=Vq (VU VA (l[j]'hj).1)/\w.cell? ⟨gb,go+2*j+1,Vo⟩=Vq (VU VA (l[j]'hj).2))
def cj.below{w w':Vl}{B:Nat}{ga:Option VM}{gc:Nat}{l:List (Int×Int)}(h:cj w B ga gc l)(hb:VL B w w'):cj w' B ga gc l:=by
 refine⟨h.1,h.2.1,λh0=> ?_⟩;obtain⟨gb,go,e,hg,hc⟩:=h.2.2 h0;exact⟨gb,go,e,hg,λj hj=>⟨(hb.cell hg).trans (hc j hj).1,(hb.cell hg).trans (hc j hj).2⟩⟩
def cj.more{w:Vl}{B B':Nat}{ga:Option VM}{gc:Nat}{l:List (Int×Int)}(h:cj w B ga gc l)(hb:B<=B'):cj w B' ga gc l:=by
 refine⟨h.1,h.2.1,λh0=> ?_⟩;obtain⟨gb,go,e,hg,hc⟩:=h.2.2 h0;exact⟨gb,go,e,VY,hc⟩
def cK.RW(w:Vl)(o:Obj)(T:VK)(l:List Vr):cK ((w.alloc o).alloc (.cells l.toArray T)) (w.heap.size+1) T l:=by
 have:=cK.new (w.alloc o) T l;rw[VF] at this;exact this
end
section
open Kp
def Eh(k:Int):(Ng k).kind=k:=rfl
attribute [local go_sem] aS gO ia kp kv kE km kF kL kD ki fZ fW fX fV gx gy gw fD fu fG fF fL eQ gm gH gz gh gB gG gi gE iu gY gX iv eV gj Eh fg kX kW jZ
def EC(w:Vl)(c:Nat)(C:Array Vr):Prop:=w.heap[c]?=Vq (.cells C 68 (0,0))
def EC.cell{w:Vl}{c:Nat}{C:Array Vr}(h:EC w c C)(i:Nat):w.cell? ⟨c,i,Vo⟩=C[i]?:=by unfold EC at h;simp[World.cell?,h]
def EC.frozen{w:Vl}{c:Nat}{C:Array Vr}(h:EC w c C)(i:Nat):w.frozen? ⟨c,i,Vo⟩=Vp:=by unfold EC at h;simp[World.frozen?,h]
def EC.heap{w:Vl}{c:Nat}{C:Array Vr}(h:EC w c C):w.heap[c]?=Vq (.cells C 68 (0,0)):=h
def EC.lt{w:Vl}{c:Nat}{C:Array Vr}(h:EC w c C):c<w.heap.size:=(Vz.1 h).1
def EC.put{w:Vl}{c:Nat}{C:Array Vr}(h:EC w c C)(i:Nat)(x:Vr):EC (w.setCell ⟨c,i,Vo⟩ x) c (C.setIfInBounds i x):=by unfold EC at *;simp[World.setCell,Array.getElem?_modify,h]
def EC.dx{w:Vl}{c:Nat}{C:Array Vr}(h:EC w c C){p:VM}(hp:c≠p.block)(x:Vr):EC (w.setCell p x) c C:=(Below.heap_setCell w p x c hp).trans h
def EC.keep{B b:Nat}{w w':Vl}{c:Nat}{C:Array Vr}(h:EC w c C)(hk:bO B b w w')(hc:c≠b):EC w' c C:=(hk.others c h.lt hc).trans h
def EC.alloc{w:Vl}{c:Nat}{C:Array Vr}(h:EC w c C)(o:Obj):EC (w.alloc o) c C:=(Below.heap_alloc w o c h.lt).trans h
def EC.new(w:Vl)(C:Array Vr):EC (w.alloc (.cells C 68)) w.heap.size C:=Vy w _
def fY.alloc{B N b:Nat}{r:sH}{w:Vl}(h:fY B N b r w)(o:Obj):fY B N b r (w.alloc o):=h.below ((Below.refl _ _).alloc (Vm _) _)
def bO.alloc{B b:Nat}{u w:Vl}(h:bO B b u w)(hB:B<=w.heap.size)(o:Obj):bO B b u (w.alloc o):=h.trans (bO.be ((Below.refl _ _).alloc (Vm _) _) hB)
def bO.dx{B b:Nat}{u w:Vl}(h:bO B b u w){p:VM}(hp:u.heap.size<=p.block)(hB:B<=p.block)(x:Vr):bO B b u (w.setCell p x):=
 ⟨h.low.setCell hB x,λk hk hb=>(Below.heap_setCell w p x k VY).trans (h.others k hk hb)⟩
def bO.row{B b:Nat}{u w:Vl}(h:bO B b u w){n:Nat}(hp:u.heap.size<=n)(hB:B<=n)(cs:Array Vr):bO B b u (w.setRow n cs):=
 ⟨af h.low hB cs,λk hk hb=>by
  have:(w.setRow n cs).heap[k]?=w.heap[k]?:=by simp only[World.setRow,Array.getElem?_modify];rw[if_neg VY]
  rw[this];exact h.others k hk hb⟩
def fY.row{B N b:Nat}{r:sH}{w:Vl}(h:fY B N b r w){n:Nat}(hn:N<=n)(cs:Array Vr):fY B N b r (w.setRow n cs):=by
 obtain⟨lo,hi,⟨sb,off,cap,h1,h2,h3,h4,h5,⟨cur,h7⟩,h8⟩,hl⟩:=h;have hh:∀k,k≠n->(w.setRow n cs).heap[k]?=w.heap[k]?:=λk hk=>by simp only[World.setRow,Array.getElem?_modify];rw[if_neg (Ne.symm hk)]
 exact⟨lo,hi,⟨sb,off,cap,(hh b VY).trans h1,h2,h3,h4,h5,⟨cur,(hh sb VY).trans h7⟩,λj hj=>(World.cell?_of_block (hh sb VY)).trans (h8 j hj)⟩,hl⟩
def putAt(old:Array Vr)(o:Nat)(cells:Array Vr):Array Vr:=(old.toList.take (o+0)++cells.toList++old.toList.drop (o+0+cells.toList.length)).toArray
def qk(w:Vl)(g o:Nat)(t ty:VK)(old cells:Array Vr)(hg:w.heap[g]?=Vq (.cells old t (0,0)))(hi:(prog.info? ty).map (·.size)=Vq cells.size)
  (ho:o+cells.size<=old.size)(h1:cells.all (·.oneCell')=Vv):(storeVar ty ⟨g,o,Vo⟩ (VW cells)).run prog w= .ok () (w.setRow g (putAt old o cells)):=by
 have:=run_storeCells_at (P:=prog) g o t cells.toList 0 old w hg Wa (λv hv=>(Array.all_eq_true_iff_forall_mem.1 h1) v (by simpa using hv));cases hq:prog.info? ty with
 |none=>simp[hq] at hi
 |some i=>
  have hs:cells.size=i.size:=by simp[hq] at hi;omega
  unfold putAt;simp[storeVar,sizeOf,typeInfo,hq,Value.cells,hs] at this⊢;exact this
def dW{ops:Array Oper}{rest:List Oper}{o:Oper}{a:Act}{w:Vl}{Q:Exit->Act->Vl->Prop}(hgd:o.guard=Vo)(ty:VK)(x y:Operand)(ho:o.op= .store ty x y)
  (g off:Nat)(cells:Array Vr)(hx:a.eval x=VT (Vq ⟨g,off,Vo⟩))(hy:a.eval y=VW cells)
  (t:VK)(old:Array Vr)(hg:w.heap[g]?=Vq (.cells old t (0,0)))(hi:(prog.info? ty).map (·.size)=Vq cells.size)
  (hold:off+cells.size<=old.size)(h1:cells.all (·.oneCell')=Vv)
  (h:wpList prog ops Q rest (a.put o.dst Vs) (w.setRow g (putAt old off cells))):wpList prog ops Q (o::rest) a w:=by
 refine wpList_plain hgd λ_ hK=> ?_
 unfold Oper.wp execOp;simp only[ho,hx,hy,Instr.storeAt,Instr.sureAddr,Sem.run_bind,Sem.run_pure,Result.andThen_ok,qk w g off t ty old cells hg hi hold h1];exact hK _ _ h
def EC.Tr{w:Vl}{c n:Nat}{C:Array Vr}(h:EC w c C)(hn:c≠n)(cs:Array Vr):EC (w.setRow n cs) c C:=by
 exact YI
def all_nil(P:Int->Prop):∀n∈([]:List Int),P n:=λ_ h=>V6
def all_cons{P:Int->Prop}{a:Int}{l:List Int}(h:P a)(k:∀n∈l,P n):∀n∈a::l,P n:=λn hn=>by
 rcases List.mem_cons.1 hn with rfl|hn
 ·exact h
 ·exact k n hn
def lM(w:Vl)(B:Nat):cj w B Vo 0 []:=⟨Vm _,Wc,λh=>absurd h V5⟩
end
section
open Kp
def Jy(l:By):(tx l).toList=l:=by rw[ByteArray.toList_eq,bn]
def Hn(x y u v:Int)(W:Vl):(binOp .neq 84 (VW #[VU VA x,VU VA y]) (VW #[VU VA u,VU VA v])).run prog W= .ok (VS (!(x==u&&y==v))) W:=by
 rw[run_neq_struct,run_equalIn_agg _ _ _ _ _ VZ VZ];simp only[Program.fieldsOf,underlying84];cases hx:(x==u)<;>cases hy:(y==v)<;>simp[go_sem,hx,hy,Result.andThen,underlying3,isAgg3]
attribute [local go_sem] Result.andThen Jy underlying3 isAgg3 underlying4 isAgg4 underlying55 isAgg55
def uE(a b:Ed):Bool:=(a.sx==b.sx)&&(a.sy==b.sy)&&(a.srise==b.srise)&&(a.srun==b.srun)&&(a.gable==b.gable)&&(a.splate==b.splate)&&(a.sover==b.sover)
theorem CP(a b:Ed)(W:Vl):(binOp .eql 54 (.agg #[.int .i64 a.sx,.int .i64 a.sy,.int .i64 a.srise,.int .i64 a.srun,.bool a.gable,.int .i64 a.splate,.int .i64 a.sover]) (.agg #[.int .i64 b.sx,.int .i64 b.sy,.int .i64 b.srise,.int .i64 b.srun,.bool b.gable,.int .i64 b.splate,.int .i64 b.sover])).run prog W= .ok (.bool (uE a b)) W:=by
 rw[run_eql_struct,run_equalIn_agg _ _ _ _ _ (by kernel_rfl) (by kernel_rfl)]
 simp only[Program.fieldsOf,underlying54]
 unfold uE
 cases h:(a.sx==b.sx)
 case' true=>cases h:(a.sy==b.sy)
 case' true=>cases h:(a.srise==b.srise)
 case' true=>cases h:(a.srun==b.srun)
 case' true=>cases h:(a.gable==b.gable)
 case' true=>cases h:(a.splate==b.splate)
 case' true=>cases h:(a.sover==b.sover)
 all_goals simp[go_sem, *]
def FL(a b:Ed):Bool:=(a.oside==b.oside)&&(a.oleft==b.oleft)&&(a.oright==b.oright)&&(a.olow==b.olow)&&(a.ohigh==b.ohigh)
theorem GN(a b:Ed)(W:Vl):(binOp .eql 57 (.agg #[.int .i64 a.oside,.string (tx a.oleft),.string (tx a.oright),.string (tx a.olow),.string (tx a.ohigh)]) (.agg #[.int .i64 b.oside,.string (tx b.oleft),.string (tx b.oright),.string (tx b.olow),.string (tx b.ohigh)])).run prog W= .ok (.bool (FL a b)) W:=by
 rw[run_eql_struct,run_equalIn_agg _ _ _ _ _ (by kernel_rfl) (by kernel_rfl)]
 simp only[Program.fieldsOf,underlying57]
 unfold FL
 cases h:(a.oside==b.oside)
 case' true=>cases h:(a.oleft==b.oleft)
 case' true=>cases h:(a.oright==b.oright)
 case' true=>cases h:(a.olow==b.olow)
 case' true=>cases h:(a.ohigh==b.ohigh)
 all_goals simp[go_sem, *]
def vL(a b:Ed):Bool:=(a.zkind==b.zkind)&&(a.zwidth==b.zwidth)&&(a.zdepth==b.zdepth)
theorem CL(a b:Ed)(W:Vl):(binOp .eql 59 (.agg #[.int .i64 a.zkind,.int .i64 a.zwidth,.int .i64 a.zdepth]) (.agg #[.int .i64 b.zkind,.int .i64 b.zwidth,.int .i64 b.zdepth])).run prog W= .ok (.bool (vL a b)) W:=by
 rw[run_eql_struct,run_equalIn_agg _ _ _ _ _ (by kernel_rfl) (by kernel_rfl)]
 simp only[Program.fieldsOf,underlying59]
 unfold vL
 cases h:(a.zkind==b.zkind)
 case' true=>cases h:(a.zwidth==b.zwidth)
 case' true=>cases h:(a.zdepth==b.zdepth)
 all_goals simp[go_sem, *]
def uz(a b:Ed):Bool:=(a.lkind==b.lkind)&&(a.lside==b.lside)&&(a.lweight==b.lweight)
theorem CV(a b:Ed)(W:Vl):(binOp .eql 64 (.agg #[.int .i64 a.lkind,.int .i64 a.lside,.string (tx a.lweight)]) (.agg #[.int .i64 b.lkind,.int .i64 b.lside,.string (tx b.lweight)])).run prog W= .ok (.bool (uz a b)) W:=by
 rw[run_eql_struct,run_equalIn_agg _ _ _ _ _ (by kernel_rfl) (by kernel_rfl)]
 simp only[Program.fieldsOf,underlying64]
 unfold uz
 cases h:(a.lkind==b.lkind)
 case' true=>cases h:(a.lside==b.lside)
 case' true=>cases h:(a.lweight==b.lweight)
 all_goals simp[go_sem, *]
def F7(a b:Ed):Bool:=(a.awidth==b.awidth)&&(a.adepth==b.adepth)&&(a.aspacing==b.aspacing)&&(a.aload==b.aload)&&(a.aspan==b.aspan)
theorem Gv(a b:Ed)(W:Vl):(binOp .eql 66 (.agg #[.int .i64 a.awidth,.int .i64 a.adepth,.int .i64 a.aspacing,.int .i64 a.aload,.int .i64 a.aspan]) (.agg #[.int .i64 b.awidth,.int .i64 b.adepth,.int .i64 b.aspacing,.int .i64 b.aload,.int .i64 b.aspan])).run prog W= .ok (.bool (F7 a b)) W:=by
 rw[run_eql_struct,run_equalIn_agg _ _ _ _ _ (by kernel_rfl) (by kernel_rfl)]
 simp only[Program.fieldsOf,underlying66]
 unfold F7
 cases h:(a.awidth==b.awidth)
 case' true=>cases h:(a.adepth==b.adepth)
 case' true=>cases h:(a.aspacing==b.aspacing)
 case' true=>cases h:(a.aload==b.aload)
 case' true=>cases h:(a.aspan==b.aspan)
 all_goals simp[go_sem, *]
def vE(a b:Ed):Bool:=(a.twidth==b.twidth)&&(a.tlength==b.tlength)&&(a.tlap==b.tlap)&&(a.ttail==b.ttail)
theorem BH(a b:Ed)(W:Vl):(binOp .eql 30 (.agg #[.int .i64 a.twidth,.int .i64 a.tlength,.int .i64 a.tlap,.int .i64 a.ttail]) (.agg #[.int .i64 b.twidth,.int .i64 b.tlength,.int .i64 b.tlap,.int .i64 b.ttail])).run prog W= .ok (.bool (vE a b)) W:=by
 rw[run_eql_struct,run_equalIn_agg _ _ _ _ _ (by kernel_rfl) (by kernel_rfl)]
 simp only[Program.fieldsOf,underlying30]
 unfold vE
 cases h:(a.twidth==b.twidth)
 case' true=>cases h:(a.tlength==b.tlength)
 case' true=>cases h:(a.tlap==b.tlap)
 case' true=>cases h:(a.ttail==b.ttail)
 all_goals simp[go_sem, *]
def qF(a b:Ed):Bool:=
 (a.kind==b.kind)&&(a.index==b.index)&&uE a b&&FL a b&&vL a b&&(a.bwidth==b.bwidth)&&(a.bdepth==b.bdepth)&&(a.blength==b.blength)&&(a.bcount==b.bcount)&&(a.bcost==b.bcost)&&(a.gaps==b.gaps)&&uz a b&&F7 a b&&vE a b&&(a.number==b.number)&&(a.text==b.text)
def Jb(a b:Ed):qF a b=Vv↔a=b:=by
 unfold qF uE FL vL uz F7 vE;simp only[Bool.and_eq_true,beq_iff_eq];constructor
 ·intro h;cases a;cases b;simp only[Ed.mk.injEq] at h⊢;simp only[h,and_self]
 ·intro h;subst h;simp
end
section
open Kp
structure T5(w:Vl)(a b:List (Int×Int))(i:Vr)(wr:Vl):Prop where
 ex:∃k:Nat,k<=a.length/\i=VU VA (k:Int)/\a.take k=b.take k
 low:VL w.heap.size w wr
def xQ(w:Vl)(ga gb:Option VM)(ca cb:Nat)(a b:List (Int×Int))(ha:cj w w.heap.size ga ca a)(hb:cj w w.heap.size gb cb b):
  VC prog 29 #[VQ ga a.length ca,VQ gb b.length cb] w λe w'=>e=VV (VS (a==b))/\VL w.heap.size w w':=by
 have la:=ha.1;have lb:=hb.1;have ca':=ha.2.1;have cb':=hb.2.1;unfold VJ at ca' cb';have HA:=Vk ha;have HB:=Vk hb;clear ha hb;by_cases hl:a.length=b.length
 ·have hl':((a.length:Int) !=(b.length:Int))=Vp:=by rw[bne_eq_false_iff_eq,hl]
  have HL:=Vk hl;clear hl;go_enter func29,ntmps29;go_wp2;go_loopw [13] (λi wr=>T5 w a b i wr) (λi _=>((a.length:Int)-VG i).toNat)
  case atStart=>exact⟨⟨0,VY,rfl,V5⟩,Below.refl _ _⟩
  case round=>
   obtain⟨⟨k,hk,rfl,he⟩,hBr⟩:=hrel;by_cases hlt:k<a.length
   ·have hltb:k<b.length:=by rw[<-HL.o];exact hlt
    obtain⟨_,_,hxa⟩:=HA.o.below hBr;obtain⟨_,_,hxb⟩:=HB.o.below hBr;obtain⟨ba,oa,rfl,_,cea⟩:=hxa VY;obtain⟨bb,ob,rfl,_,ceb⟩:=hxb VY;obtain⟨a1,a2⟩:=cea k hlt;obtain⟨b1,b2⟩:=ceb k hltb;rw[VE] at a1 a2 b1 b2;obtain⟨x,y,hxy⟩:∃x y,a[k]=(x,y):=⟨_,_,rfl⟩;obtain⟨u,v,huv⟩:∃u v,b[k]=(u,v):=⟨_,_,rfl⟩;rw[hxy] at a1 a2;rw[huv] at b1 b2;have hnq:=λW=>Hn x y u v W
    cases hq:(x==u&&y==v) with
    |true=>
     have HN:=Vk (λn=>(show T5 w a b (VU VA ((k:Int)+1)) (wr.drewN n) from⟨⟨k+1,VY,V5,by
      rw[rr hlt,rr hltb,he,hxy,huv];simp only[Bool.and_eq_true,beq_iff_eq] at hq;rw[hq.1,hq.2]⟩,below_drewN hBr n⟩))
     rw[hq] at hnq;clear hq he cea ceb hxa hxb hxy huv;go_wp2;go_quiet (fail)
     go_wp2;exact⟨HN.o _,V7⟩
    |false=>
     have HN:=Vk (show(a==b)=Vp by
      rw[beq_eq_false_iff_ne];intro h;subst h;rw[hxy] at huv;simp only[Prod.mk.injEq] at huv;rw[huv.1,huv.2] at hq;simp at hq)
     rw[hq] at hnq;clear hq he cea ceb hxa hxb hxy huv;go_wp2;go_quiet (fail)
     go_wp2;go_ret;exact⟨by rw[HN.o];rfl,below_drewN hBr _⟩
   ·have HN:=Vk (show(a==b)=Vv by
     rw[beq_iff_eq];have e1:a.take k=a:=List.take_of_length_le VY;have e2:b.take k=b:=List.take_of_length_le (by have:=HL.o;omega);rw[e1,e2] at he;exact he)
    have hlt':decide ((k:Int)<(a.length:Int))=Vp:=V8;clear he;go_wp2;go_ret;exact⟨by rw[HN.o];rfl,hBr⟩
 ·have hl':((a.length:Int) !=(b.length:Int))=Vv:=WW;have HN:=Vk (show(a==b)=Vp by rw[beq_eq_false_iff_ne];intro h;exact hl (by rw[h]));clear hl;go_enter func29,ntmps29;go_wp2;go_ret;exact⟨by rw[HN.o];rfl,Below.refl _ _⟩
end
section
open Kp
attribute [local go_sem] aS gO ia kp kv kE km kF kL kD ki fZ fW fX fV gx gy gw fD fu fG fF fL eQ gm gH gz gh gB gG gi gE iu gY gX iv eV gj fg kX kW jZ
def Ey(w:Vl)(B:Nat):cj w B Vo 0 []:=⟨Vm _,Wc,λh=>absurd h V5⟩
def Fl(w:Vl)(e:Ed)(r:Ending)(w':Vl):Prop:=∃gb cb,r=VV (VW (aL (fN e) (VQ gb (fN e).gaps.length cb)))/\cj w' w'.heap.size gb cb (fN e).gaps/\VL w.heap.size w w'
def Tu{a k:Int}(h:a=k)(n:Int):(a==n)=(k==n):=by rw[h]
def U4(k:Int)(e:Ed):Ed:={fN {e with kind:=k} with kind:=e.kind}
def Qz(e:Ed):(fN e).kind=e.kind:=by
 unfold fN;simp only[apply_ite Ed.kind,ite_self]
def T1{e:Ed}{k:Int}(h:e.kind=k):fN e=U4 k e:=by
 subst h;have h:({fN e with kind:=(fN e).kind}:Ed)=fN e:=rfl;rw[Qz] at h;exact h.symm
def RN{w W:Vl}{e U:Ed}{c:Array Vr}(hu:fN e=U)(h0:U.gaps=[])(hc:c=aL U df)(hB:VL w.heap.size w W):Fl w e (VV (VW c)) W:=by
 subst hu hc;exact⟨Vo,0,by rw[h0];rfl,by rw[h0];exact Ey _ _,hB⟩
def Sc{w W:Vl}{e U:Ed}{c:Array Vr}{ga:Option VM}{gc:Nat}(hu:fN e=U)(h0:U.gaps=e.gaps)(hc:c=aL U (VQ ga e.gaps.length gc))(hg:cj w w.heap.size ga gc e.gaps)(hB:VL w.heap.size w W):Fl w e (VV (VW c)) W:=by
 subst hu hc;exact⟨ga,gc,by rw[h0],by rw[h0];exact(hg.below hB).more hB.size,hB⟩
set_option maxHeartbeats 40000000 in
def uL(w:Vl)(e:Ed)(ga:Option VM)(gc:Nat)(hk:1<=e.kind/\e.kind<=12)(hg:cj w w.heap.size ga gc e.gaps):VC prog 86 #[VW (aL e (VQ ga e.gaps.length gc))] w (Fl w e):=by
 have mixed:prog.follows .mixedOrders=Vv:=VZ;have hx:e.kind=1\/e.kind=2\/e.kind=3\/e.kind=4\/e.kind=5\/e.kind=6\/e.kind=7\/e.kind=8\/e.kind=9\/e.kind=10\/e.kind=11\/e.kind=12:=VY;have HG:=Vk hg;clear hk hg;rcases hx with h|h|h|h|h|h|h|h|h|h|h|h
 all_goals
  have kk:=Tu h;have HU:=Vk (T1 h);clear h;go_enter func86,ntmps86;go_wp2_with(first
   |(refine wpList_build rfl 68 _ rfl VZ ?_;rw[show Value.agg (Option.getD (prog.built 68 _) #[])=VW (aL (Ng e.kind) df) from VZ])
   |(refine wpList_store_row rfl 68 _ _ rfl _ _ rfl rfl 68 _ Wg VZ VZ VZ ?_)
   |(refine wpList_load_row rfl 68 _ rfl _ rfl 68 _ (0,0) _ Wg underlying68 rfl VZ ?_))
 all_goals try(go_region_o<;>go_wp2_with(first
  |(refine wpList_build rfl 68 _ rfl VZ ?_;rw[show Value.agg (Option.getD (prog.built 68 _) #[])=VW (aL (Ng e.kind) df) from VZ])
  |(refine wpList_store_row rfl 68 _ _ rfl _ _ rfl rfl 68 _ Wg VZ VZ VZ ?_)
  |(refine wpList_load_row rfl 68 _ rfl _ rfl 68 _ (0,0) _ Wg underlying68 rfl VZ ?_)))
 all_goals
  refine bodyPost_ret (results_cell_row rfl _ _ _ _ _ (0,0) _ rfl (by first|with_reducible exact DG _ _ _ _|with_reducible exact setRow_heap (Cq _ _ _ _) _|with_reducible exact setRow_heap (DG _ _ _ _) _) underlying68 rfl VZ) rfl ?_
  first|refine RN HU.o Wn VZ ?_|refine Sc HU.o Wn VZ HG.o ?_
  repeat first|with_reducible refine af ?_ Wi _|with_reducible refine Below.drew ?_|with_reducible refine Below.alloc ?_ Wi _|with_reducible exact Below.refl _ _
end
section
open Kp
attribute [local go_sem] aS gO ia kp kv kE km kF kL kD ki fZ fW fX fV gx gy gw fD fu fG fF fL eQ gm gH gz gh gB gG gi gE iu gY gX iv eV gj
abbrev wW(e:Ed)(ga:Option VM)(gc:Nat):List Vr:=[VU VA e.bwidth,VU VA e.bdepth,VU VA e.blength,VU VA e.bcount,VU VA e.bcost,VQ ga e.gaps.length gc]
structure TO(w:Vl)(a b:Ed)(ga gb:Option VM)(ca cb:Nat)(s5 s6:Vr)(wx:Vl):Prop where
 ea:iA wx w.heap.size a (VQ ga a.gaps.length ca)
 eb:iA wx (w.heap.size+1) b (VQ gb b.gaps.length cb)
 bars:∃p q,s5=VT (Vq ⟨p,0,Vo⟩)/\s6=VT (Vq ⟨q,0,Vo⟩)/\cK wx p 62 (wW a ga ca)/\cK wx q 62 (wW b gb cb)
 low:VL w.heap.size w wx
def T6(w:Vl)(a b c d:Obj):((((w.alloc a).alloc b).alloc c).alloc d).heap[w.heap.size]?=Vq a:=by
 rw[heap_alloc_old _ _ (by first|(simp;done)|(simp;omega)),qG]
def TL(w:Vl)(a b c d:Obj):((((w.alloc a).alloc b).alloc c).alloc d).heap[w.heap.size+1]?=Vq b:=by
 rw[heap_alloc_old _ _ (by first|(simp;done)|(simp;omega)),DG]
def Tt(w:Vl)(a b c d:Obj):((((w.alloc a).alloc b).alloc c).alloc d).heap[w.heap.size+1+1]?=Vq c:=by
 rw[heap_alloc_old _ _ V5,xn]
def TP(w:Vl)(a b c d:Obj):((((w.alloc a).alloc b).alloc c).alloc d).heap[w.heap.size+1+1+1]?=Vq d:=by
 have:=heap_alloc_new (((w.alloc a).alloc b).alloc c) d;exact Ya
def LP(w:Vl)(a b c d:Obj):VL w.heap.size w ((((w.alloc a).alloc b).alloc c).alloc d).drew:=
 ((((((Below.refl _ _).alloc (Vm _) _).alloc V5 _).alloc Wa _).alloc Wa _)).drew
end
section
open Kp
attribute [local go_sem] aS gO ia kp kv kE km kF kL kD ki fZ fW fX fV gx gy gw fD fu fG fF fL eQ gm gH gz gh gB gG gi gE iu gY gX iv eV gj
def a1k{p:Prop}(h:p:=by
  subst hr;have qside:=λW=>CP a b W
  have gside:prog.eqGuardType prog.depth 54=Vp:=VZ;have qopn:=λW=>GN a b W
  have gopn:prog.eqGuardType prog.depth 57=Vp:=VZ;have qsize:=λW=>CL a b W
  have gsize:prog.eqGuardType prog.depth 59=Vp:=VZ;have qload:=λW=>CV a b W
  have gload:prog.eqGuardType prog.depth 64=Vp:=VZ;have qalw:=λW=>Gv a b W
  have galw:prog.eqGuardType prog.depth 66=Vp:=VZ;have qtile:=λW=>BH a b W
  have gtile:prog.eqGuardType prog.depth 30=Vp:=VZ;go_wp2_with(go_at_call 29;go_must(refine cg.o.mono ?_);rintro r W2 ⟨rfl,hB2⟩;have EA2:=Vk (EA.o.below hB2 lta);have EB2:=Vk (EB.o.below hB2 ltb);have eca2:=λi=>EA2.o.cell i;have ecb2:=λi=>EB2.o.cell i)
  go_ret
  first|exact⟨rfl,HLOW.o.trans (hB2.mono VY)⟩|exact⟨rfl,HLOW.o⟩):p:=h
end
end Go.Proofs.YtmliacdegmklaaaGreatDoor
