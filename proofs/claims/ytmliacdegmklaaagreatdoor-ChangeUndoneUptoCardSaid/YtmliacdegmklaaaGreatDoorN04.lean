/- ChangeUndone of kingpostlaw58: part 4 of its proof (merged and shortened by program). -/
import Derived.WideMake
import Derived.MapKept
import Derived.Laws.StructEq
import Derived.Laws.CopyRow
import Derived.Deep.DeepCutAuto
import Derived.Test.YtmliacdegmklaaaGreatDoorN02
set_option linter.unusedVariables false
set_option linter.unusedSimpArgs false
set_option linter.defProp false
set_option maxHeartbeats 8000000
set_option maxRecDepth 100000
open Go.RowKit Go.Shelf Go.Proofs.Tryz
open Array renaming getElem?_eq_some_iff→VF
open Bool renaming false→Vw,true→VD
open Go renaming World→Vt,Value→Vy,undef→VB,wpOp_step→VE,Calls→VJ,maxLen→VP,TypeId→VR,Addr→VT
open Go.AllReady renaming cons→VO,nil→VU
open Go.Ending renaming returned→V0
open Go.IntKind renaming i64→VH
open Go.IntWalk renaming i64_in→VQ
open Go.Lib renaming hid→Vs
open Go.RowKit renaming intOf→VN,Below→VS
open Go.Value renaming slice→VV,string→VW,bool→VX,pointer→VY,int→VZ,agg→V5,tuple→V6
open Go.World renaming alloc_heap_new→VG,size_alloc→VK
open List renaming getD_eq_getElem?_getD→Vv,getElem?_eq_getElem→VA,length_map→VC,length_append→VM,length→ln
open Nat renaming le_refl→Vu,le_trans→VI,mul_comm→VL
open Option renaming none→Vx,some→Vz
open Go.Proofs.YtmliacdegmklaaaGreatDoor
variable{cs C:Array Vy}{k a:Int}{n c B0 gc:Nat}{r:Option (Nat×Vy)}{ga:Option VT}{α:Type}{T:VR}{p:VT}{w w' u W:Vt}{g:Vy}
namespace Go.Proofs.YtmliacdegmklaaaGreatDoor
section
open Kp
def oR(B b:Nat)(wide num:Int)(bs:By)(w:Vt):Prop:=
 ∃p,BU b p/\Bd B b 123 p [VZ VH wide,VZ VH num] (Lib.byteCells bs) w
theorem oR.heap{B b:Nat}{wide num:Int}{bs:By}(h:oR B b wide num bs w):∃p v,w.heap[b]?=Vz (.cells #[p,v,VZ VH wide,VZ VH num] 123 (0,0)):=by
 obtain⟨p,_,_,v,hb,_⟩:=h;exact⟨p,v,hb⟩
theorem oR.Qy{B b:Nat}{wide num:Int}{bs:By}(h:oR B b wide num bs w):w.cell? ⟨b,2,Vx⟩=Vz (VZ VH wide):=by
 obtain⟨p,v,hb⟩:=h.heap;simp[World.cell?,hb]
theorem oR.S8{B b:Nat}{wide num:Int}{bs:By}(h:oR B b wide num bs w):w.cell? ⟨b,3,Vx⟩=Vz (VZ VH num):=by
 obtain⟨p,v,hb⟩:=h.heap;simp[World.cell?,hb]
theorem oR.frozen{B b:Nat}{wide num:Int}{bs:By}(h:oR B b wide num bs w)(i:Nat):w.frozen? ⟨b,i,Vx⟩=Vw:=by
 obtain⟨p,v,hb⟩:=h.heap;simp[World.frozen?,hb]
theorem oR.lt{B b:Nat}{wide num:Int}{bs:By}(h:oR B b wide num bs w):b<w.heap.size:=by
 obtain⟨p,v,hb⟩:=h.heap;exact(VF.1 hb).1
theorem oR.low{B b:Nat}{wide num:Int}{bs:By}(h:oR B b wide num bs w):B<=b:=by
 obtain⟨p,_,hB,_⟩:=h;exact hB
theorem oR.Po{B b:Nat}{wide num:Int}{bs:By}(h:oR B b wide num bs w)(x:Int):oR B b x num bs (w.setCell ⟨b,2,Vx⟩ (VZ VH x)):=by
 obtain⟨p,hp,hB,v,hb,hown,hne⟩:=h;exact⟨p,hp,hB,v,by simp[World.setCell,Array.getElem?_modify,hb],yK hown hne _,hne⟩
theorem oR.keep{B b:Nat}{wide num:Int}{bs:By}(h:oR B b wide num bs w)(i:Nat)(x:Vy):bm B b w (w.setCell ⟨b,i,Vx⟩ x):=
 ⟨(Below.refl _ _).setCell (p:=⟨b,i,Vx⟩) h.low _,(Lib.OthersKept.refl _ _ _).setCell ⟨b,i,Vx⟩ rfl _⟩
theorem oR.below{B b:Nat}{wide num:Int}{bs:By}(h:oR B b wide num bs w)(hs:VS w.heap.size w w'):oR B b wide num bs w':=by
 obtain⟨p,hp,hb⟩:=h;exact⟨p,hp,hb.below hs⟩
structure Gl(w:Vt):Prop where
 pow:aW w
 maxl:fG w
 syn:∃tp p,w.var? prog "strconv.ErrSyntax" =Vz #[.iface tp p]
 rng:∃tp p,w.var? prog "strconv.ErrRange" =Vz #[.iface tp p]
 wrd:∀j,j<12->w.cell? ⟨0,1+j,Vx⟩=Vz (VW (tx (mV.getD j [])))
theorem vI{n:String}{g:Nat}(hg:prog.globalNamed n=Vz g)(h:w.var? prog n=Vz cs){B:Nat}(hb:VS B w w')(hB:g<B):w'.var? prog n=Vz cs:=by
 unfold Vt.var? at h⊢;rw[hg] at h⊢;simp only[Option.bind_some] at h⊢;rw[hb.block g hB];exact h
theorem Gl.keep(h:Gl w){B:Nat}(hb:VS B w w')(hB:9<=B):Gl w':=by
 obtain⟨h1,⟨m,h2⟩,⟨t3,p3,h3⟩,⟨t4,p4,h4⟩,h5⟩:=h;exact⟨vI (g:=6) V8 h1 hb V7,⟨m,(hb.cell (by show 1<B;omega)).trans h2⟩,
  ⟨t3,p3,vI (g:=4) V8 h3 hb V7⟩,⟨t4,p4,vI (g:=5) V8 h4 hb V7⟩,
  λj hj=>(hb.cell (by show 0<B;omega)).trans (h5 j hj)⟩
def sY(B b:Nat)(wide num:Int)(bs:By)(w:Vt)(e:Ending)(w':Vt):Prop:=
 e=V0 (V6 #[])/\oR B b wide num bs w'/\bm B b w w'
def kg(B b:Nat)(wide num:Int)(bs s:By)(w:Vt)(h:oR B b wide num bs w)(hlen:ln bs+ln s<=100000000)(hBw:B<=w.heap.size):
  VJ prog 119 #[sV b,VW (tx s)] w (sY B b wide num (qu bs s) w):=by
 obtain⟨p,hp,hb⟩:=h;have cl:=Vs (Lj B b _ p _ _ w hb);rw[Lib.byteCells_length] at cl;by_cases h0:bs=[]
 ·have t0:¬0<ln bs:=by rw[h0];simp
  have HE:=Vs (show qu bs s=bs++s by unfold qu;rw[if_pos h0,h0];rfl);have cs:=Vs (jo B b _ p _ _ (tx s) w hb hp pC (by rw[Lib.byteCells_length,ak];omega) hBw);clear h0 hb hp;go_enter func119,ntmps119;go_wp2_with(first|(go_at_call 179;refine cl.o.mono ?_;rintro e w1 ⟨rfl,rfl⟩)|(go_at_call 181;refine cs.o.mono ?_;rintro e w2 ⟨rfl,hb2,hk2⟩))
  go_end0;refine⟨rfl,?_,hk2⟩;rw[HE.o];refine⟨_,.inr rfl,?_⟩;rw[cO];exact hb2
 ·have t0:0<ln bs:=List.length_pos_iff.2 h0;have HE:=Vs (show qu bs s=bs++[32]++s by unfold qu;rw[if_neg h0];simp);have cb:=Vs (yq B b _ p _ _ 32 w hb hp pC (by rw[Lib.byteCells_length];omega) hBw);clear h0 hb hp;go_enter func119,ntmps119;go_wp2_with(first|(go_at_call 179;refine cl.o.mono ?_;rintro e w1 ⟨rfl,rfl⟩)|(go_at_call 180;refine cb.o.mono ?_;rintro e w2 ⟨rfl,hb2,hk2⟩;have hz2:=hk2.low.size)|(go_at_call 181;refine(jo B b _ _ _ _ (tx s) _ hb2 (.inr rfl) pC (by rw[VM,Lib.byteCells_length,ak];simp;omega) V7).mono ?_;rintro e w3 ⟨rfl,hb3,hk3⟩))
  go_end0;refine⟨rfl,?_,hk2.trans hk3⟩;rw[HE.o];refine⟨_,.inr rfl,?_⟩;rw[cO,cO];exact hb3
def bZ(w:Vt)(c:Nat)(T:VR)(l:List Vy):Prop:=w.heap[c]?=Vz (.cells l.toArray T (0,0))
theorem bZ.bd{B b c:Nat}{l:List Vy}(h:bZ w c T l)(hk:bm B b w w')(hc:c≠b)(ht:T≠5):bZ w' c T l:=
 hk.kept c _ h (λe=>hc (by cases e;rfl)) (λcs fz e=>ht (by cases e;rfl))
theorem bZ.cell{l:List Vy}(h:bZ w c T l)(i:Nat):w.cell? ⟨c,i,Vx⟩=l[i]?:=by unfold bZ at h;simp[World.cell?,h]
theorem bZ.below{l:List Vy}(h:bZ w c T l)(hb:VS B0 w w')(hc:c<B0):bZ w' c T l:=(hb.block c hc).trans h
theorem bZ.lt{l:List Vy}(h:bZ w c T l):c<w.heap.size:=(VF.1 h).1
abbrev Ru(l:List Int):List Vy:=l.map (VZ VH ·)
def bj(n:Int):Prop:= -9223372036854775808<=n/\n<=9223372036854775807
def DG(bs s:By):(qu bs s).length<=ln bs+ln s+1:=by
 unfold qu;split
 ·omega
 ·simp;omega
def pI{n:Int}(h:bj n):(Lib.itoa n).length<=20:=by
 obtain⟨h0,h1⟩:=h;unfold Lib.itoa;split
 ·have:=zj n.natAbs 19 V9 V7;rw[List.length_cons,Lib.decDigits_length];omega
 ·have:=zj n.toNat 19 V9 V7;rw[Lib.decDigits_length];omega
def wh{l:List Int}(h:∀n∈l,bj n)(bs:By):(fk bs (qk l)).length<=ln bs+21*ln l:=by
 induction l generalizing bs with
 |nil=>simp[qk,fk]
 |cons n l ih=>
  have h1:=pI (h n Wa);have h2:=DG bs (Lib.itoa n);have h3:=ih (λm hm=>h m (by simp[hm])) (qu bs (Lib.itoa n));simp only[qk,List.map_cons,EZ,List.length_cons] at h3⊢;omega
theorem q9{l:List α}{k:Nat}(h:k<ln l):l.take (k+1)=l.take k++[l[k]]:=List.take_succ_eq_append_getElem h
def Ie(x:Int)(l:List Int)(n:Int):pj x (l++[n])=if Dk n then 2 else pj x l:=by
 unfold pj;rw[List.any_append,List.any_cons,List.any_nil,Bool.or_false];generalize l.any Dk=a;generalize Dk n=b;cases a<;>cases b<;>rfl
def Es(bs:By)(ws:List By)(s:By):fk bs (ws++[s])=qu (fk bs ws) s:=by rw[He];rfl
structure M5(B b:Nat)(wide num:Int)(bs:By)(l:List Int)(w:Vt)(i:Vy)(wr:Vt):Prop where
 ex:∃k:Nat,k<=ln l/\i=VZ VH (k:Int)/\oR B b (pj wide (l.take k)) num (fk bs (qk (l.take k))) wr
 keep:bm B b w wr
def xo(B b c:Nat)(T:VR)(wide num:Int)(bs:By)(l:List Int)(cap:Nat)(w:Vt)(h:oR B b wide num bs w)(hr:bZ w c T (Ru l))(hc:c≠b)(hT:T≠5)
  (hl:∀n∈l,bj n)(hlen:ln bs+21*ln l<=10000000)(hBw:B<=w.heap.size)(hg:Gl w)(hB:9<=B):
  VJ prog 120 #[sV b,VV (Vz ⟨c,0,Vx⟩) (ln l) cap] w (sY B b (pj wide l) num (fk bs (qk l)) w):=by
 have hll:ln l<=10000000:=V7;have HST:=Vs (show M5 B b wide num bs l w (VZ VH 0) w from⟨⟨0,V7,rfl,by simp only[List.take_zero];exact h⟩,bm.refl _ _ _⟩);have HG:=Vs hg;have HR:=Vs hr;have HL:=Vs hl;clear h hg hr hl;go_enter func120,ntmps120;go_wp2;go_loopw [8] (λi wr=>M5 B b wide num bs l w i wr) (λi _=>((ln l:Int)-VN i).toNat)
 case atStart=>exact HST.o
 case round=>
  obtain⟨⟨k,hk,rfl,hw⟩,hkp⟩:=hrel;have hsz:=hkp.low.size;by_cases hlt:k<ln l
  ·have hrow:=HR.o.bd hkp hc hT;have hcell:wr.cell? ⟨c,k,Vx⟩=Vz (VZ VH l[k]):=by rw[hrow.cell];simp[hlt]
   have hin:=HL.o l[k] (List.getElem_mem hlt);have hgr:=HG.o.keep hkp.low hB;have h20:=pI hin;have hwl:(fk bs (qk (l.take k))).length<=ln bs+21*k:=by
    have:=wh (l:=l.take k) (λn hn=>HL.o n (List.mem_of_mem_take hn)) bs;rw[List.length_take] at this;omega
   have HES:=Vs (show pj wide (l.take (k+1))=(if Dk l[k] then 2 else pj wide (l.take k))/\fk bs (qk (l.take (k+1)))=qu (fk bs (qk (l.take k))) (Lib.itoa l[k]) by
    rw[q9 hlt,Ie,LO];exact⟨rfl,by show fk bs (_++[Lib.itoa l[k]])=_;rw[Es]⟩)
   obtain⟨n,hn⟩:∃n,l[k]=n:=⟨_,rfl⟩;rw[hn] at hcell hin h20 HES;have hnext:∀W',bm B b wr W'->oR B b (pj wide (l.take (k+1))) num (fk bs (qk (l.take (k+1)))) W'->M5 B b wide num bs l w (VZ VH ((k:Int)+1)) W':=
    λW' hk' hw'=>⟨⟨k+1,V7,Wa,hw'⟩,hkp.trans hk'⟩
   have HN:=Vs hnext;have HKP:=Vs hkp;have hc2:=hw.Qy;have hf2:=hw.frozen 2;clear hn hrow hnext hkp;obtain⟨hin1,hin2⟩:=hin;cases ho:Dk n with
   |true=>
    have ho':n< -1073741824\/1073741824<n:=by unfold Dk at ho;simpa using ho
    have HW:=Vs (hw.Po 2);have HK:=Vs (hw.keep 2 (VZ VH 2));have hgr':=Vs (hgr.keep HK.o.low hB);have hz2:(wr.setCell ⟨b,2,Vx⟩ (VZ VH 2)).heap.size=wr.heap.size:=by simp[World.setCell]
    have ci:=Vs (jq n (wr.setCell ⟨b,2,Vx⟩ (VZ VH 2)) V7 V7 hgr'.o.pow);rw[ho] at HES;clear hw hgr;rcases ho' with ho'|ho'
    ·exact YB
    ·exact YB
   |false=>
    have ho':¬n< -1073741824/\¬1073741824<n:=by unfold Dk at ho;simpa using ho
    obtain⟨ho1,ho2⟩:=ho';have HW:=Vs hw;have ci:=Vs (jq n wr V7 V7 hgr.pow);rw[ho] at HES;clear hw hgr;go_wp2_with(first|(go_at_call 182;refine ci.o.mono ?_;rintro e W1 ⟨rfl,hB1⟩;have hz1:=hB1.size)|(go_at_call 119;refine(kg B b _ num _ (Lib.itoa n) W1 (HW.o.below hB1) V7 V7).mono ?_;rintro e W2 ⟨rfl,hw2,hk2⟩))
    refine⟨HN.o _ ((bm.aZ hB1 V7).trans hk2) (by rw[HES.o.1,HES.o.2];exact hw2),Wc⟩
  ·have e:l.take k=l:=List.take_of_length_le V7;rw[e] at hw;have HW:=Vs hw;have hlt':decide ((k:Int)<(ln l:Int))=Vw:=Wd;clear hw;go_wp2;go_end0;exact⟨rfl,HW.o,hkp⟩
abbrev wm(l:List By):List Vy:=l.map (λa=> VW (tx a))
def F4(s:By)(i:Vy):Prop:=∃k:Nat,k<=ln s/\i=VZ VH (k:Int)/\(s.take k).all pw=VD
def FF(s:By)(w:Vt)(hs:ln s<=1000000):
  VJ prog 56 #[VW (tx s)] w λe w'=>e=V0 (VX (pX s))/\w'=w:=by
 go_enter func56,ntmps56;go_wp2
 go_loop [7] (λi=>F4 s i) (λi=>((ln s:Int)-VN i).toNat)
 case atStart=>exact⟨0,V7,rfl,rfl⟩
 case round=>
  exact YC
end
section
open Kp
def dH{T kt et:VR}{d:TypeDesc}(hm:prog.underlying T=Vz (.map kt et))(hk:prog.underlying kt=Vz d)(w:Vt)(es es':Array MapEntry)(c:Nat)(k v:Vy)(hi:MapKept.IsKey d k)
  (hf:Instr.findNow d k es.toList 0=Vz Vx)(he:es.push {key:=k,val:=v,born:=c}=es'):
  (Instr.mapUpdate T (.map (Vz w.heap.size)) k v).run prog (w.alloc (.map es c))= .ok () (w.alloc (.map es' (c+1))):=by
 have hb:(w.alloc (.map es c)).heap[w.heap.size]?=Vz (.map es c):=VG w _;have hc:(Instr.checkKey Vw 10000 kt k).run prog (w.alloc (.map es c))= .ok () (w.alloc (.map es c)):=MapKept.run_checkKey hk hi Vw 9999;subst he;simp[Instr.mapUpdate,run_underlying hm,MapKept.run_getObj_map hb,hc,MapKept.run_findKey hk hf,MapKept.run_setObj_map _ hb,Result.andThen];unfold Vt.alloc
 congr 1
 apply Array.ext_getElem?;intro k;simp only[Array.getElem?_setIfInBounds,Array.getElem?_push,Array.size_push];by_cases hk:k=w.heap.size
 ·subst hk;simp
 ·simp[hk,Ne.symm hk]
theorem BA{T kt et:VR}{d:TypeDesc}(hm:prog.underlying T=Vz (.map kt et))(hk:prog.underlying kt=Vz d)(w:Vt)(b c:Nat)(es:Array MapEntry)(hb:w.heap[b]?=Vz (.map es c))(k:Vy)(hi:MapKept.IsKey d k)(com:Bool)
  (hf:Instr.findNow d k es.toList 0=Vz r){z:Vy}(hz:(zeroValue et).run prog w= .ok z w):
  (Instr.lookup T (.map (Vz b)) k com).run prog w= .ok (if com then V6 #[(r.map (·.2)).getD z,VX r.isSome] else(r.map (·.2)).getD z) w:=by
 have hc:(Instr.checkKey es.isEmpty 10000 kt k).run prog w= .ok () w:=MapKept.run_checkKey hk hi es.isEmpty 9999;cases r with
 |none=>simp[Instr.lookup,run_underlying hm,MapKept.run_getObj_map hb,hc,MapKept.run_findKey hk hf,hz,Result.andThen]
 |some p=>simp[Instr.lookup,run_underlying hm,MapKept.run_getObj_map hb,hc,MapKept.run_findKey hk hf,Result.andThen]
abbrev Uz:Array MapEntry:=#[]
abbrev SW:Array MapEntry:=#[{key:= VZ VH 4,val:= VW ⟨#[112,117,114,108,105,110]⟩,born:=0}]
abbrev Tv:Array MapEntry:=#[{key:= VZ VH 4,val:= VW ⟨#[112,117,114,108,105,110]⟩,born:=0},{key:= VZ VH 5,val:= VW ⟨#[111,112,101,110,105,110,103]⟩,born:=1}]
abbrev S0:Array MapEntry:=#[{key:= VZ VH 4,val:= VW ⟨#[112,117,114,108,105,110]⟩,born:=0},{key:= VZ VH 5,val:= VW ⟨#[111,112,101,110,105,110,103]⟩,born:=1},{key:= VZ VH 6,val:= VW ⟨#[115,105,122,101]⟩,born:=2}]
abbrev SM:Array MapEntry:=#[{key:= VZ VH 4,val:= VW ⟨#[112,117,114,108,105,110]⟩,born:=0},{key:= VZ VH 5,val:= VW ⟨#[111,112,101,110,105,110,103]⟩,born:=1},{key:= VZ VH 6,val:= VW ⟨#[115,105,122,101]⟩,born:=2},{key:= VZ VH 7,val:= VW ⟨#[98,97,114]⟩,born:=3}]
abbrev Sx:Array MapEntry:=#[{key:= VZ VH 4,val:= VW ⟨#[112,117,114,108,105,110]⟩,born:=0},{key:= VZ VH 5,val:= VW ⟨#[111,112,101,110,105,110,103]⟩,born:=1},{key:= VZ VH 6,val:= VW ⟨#[115,105,122,101]⟩,born:=2},{key:= VZ VH 7,val:= VW ⟨#[98,97,114]⟩,born:=3},{key:= VZ VH 10,val:= VW ⟨#[108,111,97,100]⟩,born:=4}]
abbrev MH:Array MapEntry:=#[{key:= VZ VH 4,val:= VW ⟨#[112,117,114,108,105,110]⟩,born:=0},{key:= VZ VH 5,val:= VW ⟨#[111,112,101,110,105,110,103]⟩,born:=1},{key:= VZ VH 6,val:= VW ⟨#[115,105,122,101]⟩,born:=2},{key:= VZ VH 7,val:= VW ⟨#[98,97,114]⟩,born:=3},{key:= VZ VH 10,val:= VW ⟨#[108,111,97,100]⟩,born:=4},{key:= VZ VH 11,val:= VW ⟨#[115,112,97,110]⟩,born:=5}]
abbrev UD:Array MapEntry:=#[]
abbrev SN:Array MapEntry:=#[{key:= VW ⟨#[110,97,109,101]⟩,val:= VZ VH 1,born:=0}]
abbrev TN:Array MapEntry:=#[{key:= VW ⟨#[110,97,109,101]⟩,val:= VZ VH 1,born:=0},{key:= VW ⟨#[115,105,100,101]⟩,val:= VZ VH 2,born:=1}]
abbrev TQ:Array MapEntry:=#[{key:= VW ⟨#[110,97,109,101]⟩,val:= VZ VH 1,born:=0},{key:= VW ⟨#[115,105,100,101]⟩,val:= VZ VH 2,born:=1},{key:= VW ⟨#[115,112,97,99,105,110,103]⟩,val:= VZ VH 3,born:=2}]
abbrev SO:Array MapEntry:=#[{key:= VW ⟨#[110,97,109,101]⟩,val:= VZ VH 1,born:=0},{key:= VW ⟨#[115,105,100,101]⟩,val:= VZ VH 2,born:=1},{key:= VW ⟨#[115,112,97,99,105,110,103]⟩,val:= VZ VH 3,born:=2},{key:= VW ⟨#[112,117,114,108,105,110]⟩,val:= VZ VH 4,born:=3}]
abbrev SZ:Array MapEntry:=#[{key:= VW ⟨#[110,97,109,101]⟩,val:= VZ VH 1,born:=0},{key:= VW ⟨#[115,105,100,101]⟩,val:= VZ VH 2,born:=1},{key:= VW ⟨#[115,112,97,99,105,110,103]⟩,val:= VZ VH 3,born:=2},{key:= VW ⟨#[112,117,114,108,105,110]⟩,val:= VZ VH 4,born:=3},{key:= VW ⟨#[111,112,101,110,105,110,103]⟩,val:= VZ VH 5,born:=4}]
abbrev TJ:Array MapEntry:=#[{key:= VW ⟨#[110,97,109,101]⟩,val:= VZ VH 1,born:=0},{key:= VW ⟨#[115,105,100,101]⟩,val:= VZ VH 2,born:=1},{key:= VW ⟨#[115,112,97,99,105,110,103]⟩,val:= VZ VH 3,born:=2},{key:= VW ⟨#[112,117,114,108,105,110]⟩,val:= VZ VH 4,born:=3},{key:= VW ⟨#[111,112,101,110,105,110,103]⟩,val:= VZ VH 5,born:=4},{key:= VW ⟨#[115,105,122,101]⟩,val:= VZ VH 6,born:=5}]
abbrev SX:Array MapEntry:=#[{key:= VW ⟨#[110,97,109,101]⟩,val:= VZ VH 1,born:=0},{key:= VW ⟨#[115,105,100,101]⟩,val:= VZ VH 2,born:=1},{key:= VW ⟨#[115,112,97,99,105,110,103]⟩,val:= VZ VH 3,born:=2},{key:= VW ⟨#[112,117,114,108,105,110]⟩,val:= VZ VH 4,born:=3},{key:= VW ⟨#[111,112,101,110,105,110,103]⟩,val:= VZ VH 5,born:=4},{key:= VW ⟨#[115,105,122,101]⟩,val:= VZ VH 6,born:=5},{key:= VW ⟨#[98,97,114]⟩,val:= VZ VH 7,born:=6}]
abbrev SI:Array MapEntry:=#[{key:= VW ⟨#[110,97,109,101]⟩,val:= VZ VH 1,born:=0},{key:= VW ⟨#[115,105,100,101]⟩,val:= VZ VH 2,born:=1},{key:= VW ⟨#[115,112,97,99,105,110,103]⟩,val:= VZ VH 3,born:=2},{key:= VW ⟨#[112,117,114,108,105,110]⟩,val:= VZ VH 4,born:=3},{key:= VW ⟨#[111,112,101,110,105,110,103]⟩,val:= VZ VH 5,born:=4},{key:= VW ⟨#[115,105,122,101]⟩,val:= VZ VH 6,born:=5},{key:= VW ⟨#[98,97,114]⟩,val:= VZ VH 7,born:=6},{key:= VW ⟨#[107,101,114,102]⟩,val:= VZ VH 8,born:=7}]
abbrev Tj:Array MapEntry:=#[{key:= VW ⟨#[110,97,109,101]⟩,val:= VZ VH 1,born:=0},{key:= VW ⟨#[115,105,100,101]⟩,val:= VZ VH 2,born:=1},{key:= VW ⟨#[115,112,97,99,105,110,103]⟩,val:= VZ VH 3,born:=2},{key:= VW ⟨#[112,117,114,108,105,110]⟩,val:= VZ VH 4,born:=3},{key:= VW ⟨#[111,112,101,110,105,110,103]⟩,val:= VZ VH 5,born:=4},{key:= VW ⟨#[115,105,122,101]⟩,val:= VZ VH 6,born:=5},{key:= VW ⟨#[98,97,114]⟩,val:= VZ VH 7,born:=6},{key:= VW ⟨#[107,101,114,102]⟩,val:= VZ VH 8,born:=7},{key:= VW ⟨#[116,105,108,101]⟩,val:= VZ VH 9,born:=8}]
abbrev QD:Array MapEntry:=#[{key:= VW ⟨#[110,97,109,101]⟩,val:= VZ VH 1,born:=0},{key:= VW ⟨#[115,105,100,101]⟩,val:= VZ VH 2,born:=1},{key:= VW ⟨#[115,112,97,99,105,110,103]⟩,val:= VZ VH 3,born:=2},{key:= VW ⟨#[112,117,114,108,105,110]⟩,val:= VZ VH 4,born:=3},{key:= VW ⟨#[111,112,101,110,105,110,103]⟩,val:= VZ VH 5,born:=4},{key:= VW ⟨#[115,105,122,101]⟩,val:= VZ VH 6,born:=5},{key:= VW ⟨#[98,97,114]⟩,val:= VZ VH 7,born:=6},{key:= VW ⟨#[107,101,114,102]⟩,val:= VZ VH 8,born:=7},{key:= VW ⟨#[116,105,108,101]⟩,val:= VZ VH 9,born:=8},{key:= VW ⟨#[108,111,97,100]⟩,val:= VZ VH 10,born:=9}]
abbrev QJ:Array MapEntry:=#[{key:= VW ⟨#[110,97,109,101]⟩,val:= VZ VH 1,born:=0},{key:= VW ⟨#[115,105,100,101]⟩,val:= VZ VH 2,born:=1},{key:= VW ⟨#[115,112,97,99,105,110,103]⟩,val:= VZ VH 3,born:=2},{key:= VW ⟨#[112,117,114,108,105,110]⟩,val:= VZ VH 4,born:=3},{key:= VW ⟨#[111,112,101,110,105,110,103]⟩,val:= VZ VH 5,born:=4},{key:= VW ⟨#[115,105,122,101]⟩,val:= VZ VH 6,born:=5},{key:= VW ⟨#[98,97,114]⟩,val:= VZ VH 7,born:=6},{key:= VW ⟨#[107,101,114,102]⟩,val:= VZ VH 8,born:=7},{key:= VW ⟨#[116,105,108,101]⟩,val:= VZ VH 9,born:=8},{key:= VW ⟨#[108,111,97,100]⟩,val:= VZ VH 10,born:=9},{key:= VW ⟨#[115,112,97,110]⟩,val:= VZ VH 11,born:=10}]
abbrev uM:Array MapEntry:=#[{key:= VW ⟨#[110,97,109,101]⟩,val:= VZ VH 1,born:=0},{key:= VW ⟨#[115,105,100,101]⟩,val:= VZ VH 2,born:=1},{key:= VW ⟨#[115,112,97,99,105,110,103]⟩,val:= VZ VH 3,born:=2},{key:= VW ⟨#[112,117,114,108,105,110]⟩,val:= VZ VH 4,born:=3},{key:= VW ⟨#[111,112,101,110,105,110,103]⟩,val:= VZ VH 5,born:=4},{key:= VW ⟨#[115,105,122,101]⟩,val:= VZ VH 6,born:=5},{key:= VW ⟨#[98,97,114]⟩,val:= VZ VH 7,born:=6},{key:= VW ⟨#[107,101,114,102]⟩,val:= VZ VH 8,born:=7},{key:= VW ⟨#[116,105,108,101]⟩,val:= VZ VH 9,born:=8},{key:= VW ⟨#[108,111,97,100]⟩,val:= VZ VH 10,born:=9},{key:= VW ⟨#[115,112,97,110]⟩,val:= VZ VH 11,born:=10},{key:= VW ⟨#[114,101,109,111,118,101]⟩,val:= VZ VH 12,born:=11}]
def sq(w:Vt):VJ prog 55 #[] w λe w'=>e=V0 (.map (Vz w.heap.size))/\w'=w.alloc (.map MH 6):=by
 have hmm:=@run_makeMap prog;have u0:=dH (T:=114) underlying114 underlying3 w Uz SW 0 (VZ VH 4) (VW ⟨#[112,117,114,108,105,110]⟩) Wr rfl rfl;have u1:=dH (T:=114) underlying114 underlying3 w SW Tv 1 (VZ VH 5) (VW ⟨#[111,112,101,110,105,110,103]⟩) Wr rfl rfl;have u2:=dH (T:=114) underlying114 underlying3 w Tv S0 2 (VZ VH 6) (VW ⟨#[115,105,122,101]⟩) Wr rfl rfl;have u3:=dH (T:=114) underlying114 underlying3 w S0 SM 3 (VZ VH 7) (VW ⟨#[98,97,114]⟩) Wr rfl rfl;have u4:=dH (T:=114) underlying114 underlying3 w SM Sx 4 (VZ VH 10) (VW ⟨#[108,111,97,100]⟩) Wr rfl rfl;have u5:=dH (T:=114) underlying114 underlying3 w Sx MH 5 (VZ VH 11) (VW ⟨#[115,112,97,110]⟩) Wr rfl rfl;go_enter func55,ntmps55;exact XM
def FA(w:Vt):VJ prog 123 #[] w λe w'=>e=V0 (.map (Vz w.heap.size))/\w'=w.alloc (.map uM 12):=by
 have hmm:=@run_makeMap prog;have u0:=dH (T:=166) underlying166 underlying9 w UD SN 0 (VW ⟨#[110,97,109,101]⟩) (VZ VH 1) Wr V8 rfl;have u1:=dH (T:=166) underlying166 underlying9 w SN TN 1 (VW ⟨#[115,105,100,101]⟩) (VZ VH 2) Wr V8 rfl;have u2:=dH (T:=166) underlying166 underlying9 w TN TQ 2 (VW ⟨#[115,112,97,99,105,110,103]⟩) (VZ VH 3) Wr V8 rfl;have u3:=dH (T:=166) underlying166 underlying9 w TQ SO 3 (VW ⟨#[112,117,114,108,105,110]⟩) (VZ VH 4) Wr V8 rfl;have u4:=dH (T:=166) underlying166 underlying9 w SO SZ 4 (VW ⟨#[111,112,101,110,105,110,103]⟩) (VZ VH 5) Wr V8 rfl;have u5:=dH (T:=166) underlying166 underlying9 w SZ TJ 5 (VW ⟨#[115,105,122,101]⟩) (VZ VH 6) Wr V8 rfl;have u6:=dH (T:=166) underlying166 underlying9 w TJ SX 6 (VW ⟨#[98,97,114]⟩) (VZ VH 7) Wr V8 rfl;have u7:=dH (T:=166) underlying166 underlying9 w SX SI 7 (VW ⟨#[107,101,114,102]⟩) (VZ VH 8) Wr V8 rfl;have u8:=dH (T:=166) underlying166 underlying9 w SI Tj 8 (VW ⟨#[116,105,108,101]⟩) (VZ VH 9) Wr V8 rfl;have u9:=dH (T:=166) underlying166 underlying9 w Tj QD 9 (VW ⟨#[108,111,97,100]⟩) (VZ VH 10) Wr V8 rfl;have u10:=dH (T:=166) underlying166 underlying9 w QD QJ 10 (VW ⟨#[115,112,97,110]⟩) (VZ VH 11) Wr V8 rfl;have u11:=dH (T:=166) underlying166 underlying9 w QJ uM 11 (VW ⟨#[114,101,109,111,118,101]⟩) (VZ VH 12) Wr V8 rfl;go_enter func123,ntmps123;exact XM
theorem Nk(n:Int):Instr.findNow (.int .i64) (.int .i64 n) MH.toList 0=Vz (if n=4 then Vz (0,.string (tx jf)) else if n=5 then Vz (1,.string (tx gz)) else if n=6 then Vz (2,.string (tx py)) else if n=7 then Vz (3,.string (tx wA)) else if n=10 then Vz (4,.string (tx px)) else if n=11 then Vz (5,.string (tx pk)) else Vx):=by
 simp only[Instr.findNow,Instr.sameNow,if_true]
 by_cases h4:n=4
 ·subst h4;rfl
 by_cases h5:n=5
 ·subst h5;rfl
 by_cases h6:n=6
 ·subst h6;rfl
 by_cases h7:n=7
 ·subst h7;rfl
 by_cases h10:n=10
 ·subst h10;rfl
 by_cases h11:n=11
 ·subst h11;rfl
 have b4:(n==4)=Vw:=by simpa using h4
 have b5:(n==5)=Vw:=by simpa using h5
 have b6:(n==6)=Vw:=by simpa using h6
 have b7:(n==7)=Vw:=by simpa using h7
 have b10:(n==10)=Vw:=by simpa using h10
 have b11:(n==11)=Vw:=by simpa using h11
 simp[b4,b5,b6,b7,b10,b11,h4,h5,h6,h7,h10,h11]
theorem Bz(w:Vt)(b c:Nat)(hb:w.heap[b]?=Vz (.map MH c))(n:Int)(com:Bool):
  (Instr.lookup 114 (.map (Vz b)) (.int .i64 n) com).run prog w= .ok (if com then .tuple #[.string (tx (yN n)),.bool (xt n)] else .string (tx (yN n))) w:=by
 have hz:(zeroValue 9).run prog w= .ok (.string ⟨#[]⟩) w:=by kernel_rfl
 rw[BA underlying114 underlying3 w b c MH hb (.int .i64 n) (by simp[MapKept.IsKey]) com (Nk n) hz]
 unfold yN xt
 congr 1
 by_cases h4:n=4
 ·subst h4;rfl
 by_cases h5:n=5
 ·subst h5;rfl
 by_cases h6:n=6
 ·subst h6;rfl
 by_cases h7:n=7
 ·subst h7;rfl
 by_cases h10:n=10
 ·subst h10;rfl
 by_cases h11:n=11
 ·subst h11;rfl
 have hb:(n==4||n==5||n==6||n==7||n==10||n==11)=Vw:=by simp[h4,h5,h6,h7,h10,h11]
 rw[hb]
 simp only[h4,h5,h6,h7,h10,h11,if_false]
 rfl
def jI(a b:By):(tx a==tx b)=decide (a=b):=by
 rw[beq_toListBytes,ByteArray.toList_eq,ByteArray.toList_eq,bf,bf,Bool.eq_iff_iff];simp
theorem Nf(s:By):Instr.findNow .string (.string (tx s)) uM.toList 0=Vz (if s=uI then Vz (0,.int .i64 1) else if s=uE then Vz (1,.int .i64 2) else if s=kE then Vz (2,.int .i64 3) else if s=jf then Vz (3,.int .i64 4) else if s=gz then Vz (4,.int .i64 5) else if s=py then Vz (5,.int .i64 6) else if s=wA then Vz (6,.int .i64 7) else if s=qp then Vz (7,.int .i64 8) else if s=uF then Vz (8,.int .i64 9) else if s=px then Vz (9,.int .i64 10) else if s=pk then Vz (10,.int .i64 11) else if s=iu then Vz (11,.int .i64 12) else Vx):=by
 have bname:(tx s==⟨#[110,97,109,101]⟩)=decide (s=uI):=jI s uI
 have bside:(tx s==⟨#[115,105,100,101]⟩)=decide (s=uE):=jI s uE
 have bspacing:(tx s==⟨#[115,112,97,99,105,110,103]⟩)=decide (s=kE):=jI s kE
 have bpurlin:(tx s==⟨#[112,117,114,108,105,110]⟩)=decide (s=jf):=jI s jf
 have bopening:(tx s==⟨#[111,112,101,110,105,110,103]⟩)=decide (s=gz):=jI s gz
 have bsize:(tx s==⟨#[115,105,122,101]⟩)=decide (s=py):=jI s py
 have bbar:(tx s==⟨#[98,97,114]⟩)=decide (s=wA):=jI s wA
 have bkerf:(tx s==⟨#[107,101,114,102]⟩)=decide (s=qp):=jI s qp
 have btile:(tx s==⟨#[116,105,108,101]⟩)=decide (s=uF):=jI s uF
 have bload:(tx s==⟨#[108,111,97,100]⟩)=decide (s=px):=jI s px
 have bspan:(tx s==⟨#[115,112,97,110]⟩)=decide (s=pk):=jI s pk
 have bremove:(tx s==⟨#[114,101,109,111,118,101]⟩)=decide (s=iu):=jI s iu
 simp only[Instr.findNow,Instr.sameNow,bname,bside,bspacing,bpurlin,bopening,bsize,bbar,bkerf,btile,bload,bspan,bremove]
 by_cases hname:s=uI
 ·rw[if_pos hname];simp only[decide_eq_true hname]
 rw[if_neg hname];simp only[decide_eq_false hname]
 by_cases hside:s=uE
 ·rw[if_pos hside];simp only[decide_eq_true hside]
 rw[if_neg hside];simp only[decide_eq_false hside]
 by_cases hspacing:s=kE
 ·rw[if_pos hspacing];simp only[decide_eq_true hspacing]
 rw[if_neg hspacing];simp only[decide_eq_false hspacing]
 by_cases hpurlin:s=jf
 ·rw[if_pos hpurlin];simp only[decide_eq_true hpurlin]
 rw[if_neg hpurlin];simp only[decide_eq_false hpurlin]
 by_cases hopening:s=gz
 ·rw[if_pos hopening];simp only[decide_eq_true hopening]
 rw[if_neg hopening];simp only[decide_eq_false hopening]
 by_cases hsize:s=py
 ·rw[if_pos hsize];simp only[decide_eq_true hsize]
 rw[if_neg hsize];simp only[decide_eq_false hsize]
 by_cases hbar:s=wA
 ·rw[if_pos hbar];simp only[decide_eq_true hbar]
 rw[if_neg hbar];simp only[decide_eq_false hbar]
 by_cases hkerf:s=qp
 ·rw[if_pos hkerf];simp only[decide_eq_true hkerf]
 rw[if_neg hkerf];simp only[decide_eq_false hkerf]
 by_cases htile:s=uF
 ·rw[if_pos htile];simp only[decide_eq_true htile]
 rw[if_neg htile];simp only[decide_eq_false htile]
 by_cases hload:s=px
 ·rw[if_pos hload];simp only[decide_eq_true hload]
 rw[if_neg hload];simp only[decide_eq_false hload]
 by_cases hspan:s=pk
 ·rw[if_pos hspan];simp only[decide_eq_true hspan]
 rw[if_neg hspan];simp only[decide_eq_false hspan]
 by_cases hremove:s=iu
 ·rw[if_pos hremove];simp only[decide_eq_true hremove]
 rw[if_neg hremove];simp only[decide_eq_false hremove]
theorem ML(w:Vt)(b c:Nat)(hb:w.heap[b]?=Vz (.map uM c))(s:By):
  (Instr.lookup 166 (.map (Vz b)) (.string (tx s)) Vw).run prog w= .ok (.int .i64 (kindOf s)) w:=by
 have hz:(zeroValue 3).run prog w= .ok (.int .i64 0) w:=by kernel_rfl
 rw[BA underlying166 underlying9 w b c uM hb (.string (tx s)) (by simp[MapKept.IsKey]) Vw (Nf s) hz]
 unfold kindOf
 congr 1
 by_cases hname:s=uI
 ·rw[if_pos hname,if_pos hname];rfl
 rw[if_neg hname,if_neg hname]
 by_cases hside:s=uE
 ·rw[if_pos hside,if_pos hside];rfl
 rw[if_neg hside,if_neg hside]
 by_cases hspacing:s=kE
 ·rw[if_pos hspacing,if_pos hspacing];rfl
 rw[if_neg hspacing,if_neg hspacing]
 by_cases hpurlin:s=jf
 ·rw[if_pos hpurlin,if_pos hpurlin];rfl
 rw[if_neg hpurlin,if_neg hpurlin]
 by_cases hopening:s=gz
 ·rw[if_pos hopening,if_pos hopening];rfl
 rw[if_neg hopening,if_neg hopening]
 by_cases hsize:s=py
 ·rw[if_pos hsize,if_pos hsize];rfl
 rw[if_neg hsize,if_neg hsize]
 by_cases hbar:s=wA
 ·rw[if_pos hbar,if_pos hbar];rfl
 rw[if_neg hbar,if_neg hbar]
 by_cases hkerf:s=qp
 ·rw[if_pos hkerf,if_pos hkerf];rfl
 rw[if_neg hkerf,if_neg hkerf]
 by_cases htile:s=uF
 ·rw[if_pos htile,if_pos htile];rfl
 rw[if_neg htile,if_neg htile]
 by_cases hload:s=px
 ·rw[if_pos hload,if_pos hload];rfl
 rw[if_neg hload,if_neg hload]
 by_cases hspan:s=pk
 ·rw[if_pos hspan,if_pos hspan];rfl
 rw[if_neg hspan,if_neg hspan]
 by_cases hremove:s=iu
 ·rw[if_pos hremove,if_pos hremove];rfl
 rw[if_neg hremove,if_neg hremove]
 rfl
end
section
open Kp
attribute [local go_sem] aM fC fH iy gU iA ik gW gV im gY eP eN eV eK eY eR eQ er eu ey eh ej dY eT eO eU eS eI eM eJ eX fm fu ft fo dX eZ
def iF(w:Vt)(c:Nat)(e:Ed)(g:Vy):Prop:=w.heap[c]?=Vz (.cells (aE e g) 68 (0,0))
theorem iF.cell{e:Ed}(h:iF w c e g)(i:Nat):w.cell? ⟨c,i,Vx⟩=(aE e g)[i]?:=by unfold iF at h;simp[World.cell?,h]
theorem iF.bd{B b c:Nat}{e:Ed}(h:iF w c e g)(hk:bm B b w w')(hc:c≠b):iF w' c e g:=
 hk.kept c _ h (λe=>hc (by cases e;rfl)) (λcs fz e=>by cases e)
theorem iF.below{e:Ed}(h:iF w c e g)(hb:VS B0 w w')(hc:c<B0):iF w' c e g:=(hb.block c hc).trans h
theorem iF.lt{e:Ed}(h:iF w c e g):c<w.heap.size:=(VF.1 h).1
def iF.new(w:Vt)(e:Ed)(g:Vy):iF (w.alloc (.cells (aE e g) 68)) w.heap.size e g:=VG w _
theorem iF.alloc{e:Ed}(h:iF w c e g)(o:Obj):iF (w.alloc o) c e g:=(Below.heap_alloc w o c h.lt).trans h
def bZ.new(w:Vt)(T:VR)(l:List Vy):bZ (w.alloc (.cells l.toArray T)) w.heap.size T l:=VG w _
theorem oR.alloc{B b:Nat}{wide num:Int}{bs:By}(h:oR B b wide num bs w)(o:Obj):oR B b wide num bs (w.alloc o):=h.below ((Below.refl _ _).alloc (Vu _) _)
def bm.alloc{B b:Nat}(w:Vt)(hB:B<=w.heap.size)(o:Obj):bm B b w (w.alloc o):=bm.aZ ((Below.refl _ _).alloc (Vu _) _) hB
structure MW(e:Ed):Prop where
 ints:∀n∈iO e,bj n
 nums:∀a∈numsOf e,ln a<=1000
 text:ln e.text<=1000
def F8(B b:Nat)(e:Ed)(w:Vt)(r:Ending)(w':Vt):Prop:=sY B b (pj 0 (iO e)) (Ud bU 0 (numsOf e)) (fk [] (jc e)) w r w'
def O9(B b:Nat)(e:Ed)(ga:Option VT)(gl gc:Nat)(w:Vt)(h:oR B b 0 0 [] w)(hs:MW e)(hk:e.kind=8)(hg:Gl w)(hB:9<=B)(hBw:B<=w.heap.size):
  VJ prog 58 #[sV b,V5 (aE e (VV ga gl gc))] w (F8 B b e w):=by
 have k1:(e.kind==1)=Vw:=WK;have k2:(e.kind==2)=Vw:=WK;have k3:(e.kind==3)=Vw:=WK;have k4:(e.kind==4)=Vw:=WK;have k5:(e.kind==5)=Vw:=WK;have k6:(e.kind==6)=Vw:=WK;have k7:(e.kind==7)=Vw:=WK;have k8:(e.kind==8)=VD:=WK;have k9:(e.kind==9)=Vw:=WK;have k10:(e.kind==10)=Vw:=WK;have k11:(e.kind==11)=Vw:=WK;have k12:(e.kind==12)=Vw:=WK;have HI:=Vs (show iO e=[e.number] by unfold iO;rw[hk];simp);have HNM:=Vs (show numsOf e=[] by unfold numsOf;rw[hk];simp);have HH:=Vs (show qb e=[qp] by unfold qb;rw[hk];simp);have hin:∀n∈([e.number]:List Int),bj n:=by have:=hs.ints;rw[HI.o] at this;exact this
 have hnu:∀a∈([]:List By),ln a<=1000:=by have:=hs.nums;rw[HNM.o] at this;exact this
 have htx:=hs.text;have hbl:=h.lt;have HA:=Vs (h.alloc (.cells (aE e (VV ga gl gc)) 68));have E0:=Vs (iF.new w e (VV ga gl gc));have HK0:=Vs (bm.alloc (B:=B) (b:=b) w hBw (.cells (aE e (VV ga gl gc)) 68));have HG:=Vs hg;have HIN:=Vs hin;have HNU:=Vs hnu;clear h hs hg hk hin hnu;go_enter func58,ntmps58;go_wp2_with(first
  |(go_at_call 119;refine(kg B b 0 0 [] qp _ HA.o V9 Wf).mono ?_;rintro r W1 ⟨rfl,hw1,hk1⟩;have E1:=Vs (E0.o.bd hk1 V7);have ec1:=λi=>E1.o.cell i;have hz1:=hk1.low.size;simp only[VK] at hz1;have HW1:=Vs hw1;have HK1:=Vs (HK0.o.trans hk1);clear hw1 hk1)
  |(go_at_call 120;go_must(refine(xo B b _ 3 0 0 _ [e.number] _ _ (HW1.o.alloc _) (bZ.new W1 _ (Ru [e.number])) (by have:=HW1.o.lt;omega) V9 HIN.o (by show _+21*1<=_;decide) Wf ((HG.o.keep HK1.o.low hB).keep ((Below.refl _ _).alloc (Vu _) _) V7) hB).mono ?_);rintro r W2 ⟨rfl,hw2,hk2⟩))
 go_end0;refine⟨rfl,?_,(HK1.o.trans (bm.alloc W1 V7 _)).trans hk2⟩;rw[HI.o,HNM.o];unfold jc;rw[HI.o,HNM.o,HH.o];simp only[List.append_nil];exact hw2
end
section
open Kp
attribute [local go_sem] aM fC fH eY eR eQ er eu ey eh ej dY dX
theorem Gl.drew(h:Gl w):Gl w.drew:=h.keep (B:=9) (Below.refl 9 w).drew (Vu _)
def Mm(n:Int):(yN n).length<=16:=by
 unfold yN
 repeat' split
 all_goals decide
def LW(B b:Nat)(e:Ed)(ga:Option VT)(gl gc:Nat)(w:Vt)(h:oR B b 0 0 [] w)(hs:MW e)(hk:e.kind=12)(hg:Gl w)(hB:9<=B)(hBw:B<=w.heap.size):
  VJ prog 58 #[sV b,V5 (aE e (VV ga gl gc))] w (F8 B b e w):=by
 have k1:(e.kind==1)=Vw:=WK;have k2:(e.kind==2)=Vw:=WK;have k3:(e.kind==3)=Vw:=WK;have k4:(e.kind==4)=Vw:=WK;have k5:(e.kind==5)=Vw:=WK;have k6:(e.kind==6)=Vw:=WK;have k7:(e.kind==7)=Vw:=WK;have k8:(e.kind==8)=Vw:=WK;have k9:(e.kind==9)=Vw:=WK;have k10:(e.kind==10)=Vw:=WK;have k11:(e.kind==11)=Vw:=WK;have k12:(e.kind==12)=VD:=WK;have HI:=Vs (show iO e=[e.index] by unfold iO;rw[hk];simp);have HNM:=Vs (show numsOf e=[] by unfold numsOf;rw[hk];simp);have HH:=Vs (show qb e=[iu,yN e.number] by unfold qb;rw[hk];simp);have HIN:=Vs (show∀n∈([e.index]:List Int),bj n by have:=hs.ints;rw[HI.o] at this;exact this);have hrl:=Mm e.number;have hbl:=h.lt;have HA:=Vs (h.alloc (.cells (aE e (VV ga gl gc)) 68));have E0:=Vs (iF.new w e (VV ga gl gc));have HK0:=Vs (bm.alloc (B:=B) (b:=b) w hBw (.cells (aE e (VV ga gl gc)) 68));have HG:=Vs hg;clear h hs hg hk;go_enter func58,ntmps58;go_upto_region 3 with(go_at_call 119;refine(kg B b 0 0 [] iu _ HA.o V9 Wf).mono ?_;rintro r W1 ⟨rfl,hw1,hk1⟩;have E1:=Vs (E0.o.bd hk1 V7);have ec1:=λi=>E1.o.cell i;have hz1:=hk1.low.size;simp only[VK] at hz1;have HW1:=Vs hw1;have HK1:=Vs (HK0.o.trans hk1);clear hw1 hk1)
 go_region_with (first
  |(go_at_call 55;go_loud (refine(sq _).mono ?_;rintro r W2 ⟨rfl,hW2⟩;have HB2:=Vs (show VS W1.heap.size W1 W2 by rw[hW2];exact(Below.refl _ W1).drew.alloc (Vu _) _);have hlk:=Bz W2 W1.heap.size 6 (by rw[hW2];exact VG W1.drew _) e.number Vw;have E2:=Vs (E1.o.below HB2.o E1.o.lt);have ec2:=λi=>E2.o.cell i;have hz2:=HB2.o.size;simp only[Bool.false_eq_true,if_false] at hlk;clear hW2))
  |(go_at_call 119;go_loud (refine(kg B b 0 0 _ (yN e.number) _ (HW1.o.below HB2.o) (by show 6+_<=_;omega) V7).mono ?_;rintro r W3 ⟨rfl,hw3,hk3⟩;have E3:=Vs (E2.o.bd hk3 V7);have ec3:=λi=>E3.o.cell i;have hz3:=hk3.low.size;have HW3:=Vs hw3;have HK3:=Vs ((HK1.o.trans (bm.aZ HB2.o V7)).trans hk3);clear hw3 hk3)))
 all_goals
  go_wp2_with(go_at_call 120;go_must(refine(xo B b _ 3 0 0 _ [e.index] _ _ (HW3.o.alloc _) (bZ.new W3 _ (Ru [e.index])) (by have:=HW3.o.lt;omega) V9 HIN.o (by have:=DG (qu [] iu) (yN e.number);have h4:(qu [] iu).length=6:=rfl;show _+21*1<=_;omega) Wf ((HG.o.keep HK3.o.low hB).keep ((Below.refl _ _).alloc (Vu _) _) V7) hB).mono ?_);rintro r W4 ⟨rfl,hw4,hk4⟩)
  go_end0;refine⟨rfl,?_,(HK3.o.trans (bm.alloc W3 V7 _)).trans hk4⟩;rw[HI.o,HNM.o];unfold jc;rw[HI.o,HNM.o,HH.o];simp only[List.append_nil];exact hw4
end
section
open Kp
structure gI(B N b:Nat)(r:sF)(w:Vt):Prop where
 lo:B<=b
 hi:b<N
 ex:∃sb off cap,w.heap[b]?=Vz (.cells #[VV (Vz ⟨sb,off,Vx⟩) (ln r.1) cap,VX r.2] 128 (0,0))/\sb≠b/\sb<N/\ln r.1<=cap/\cap<=1000000/\
  (∃cur:Array Vy,w.heap[sb]?=Vz (.cells cur 9 (0,0)))/\∀j (hj:j<ln r.1),w.cell? ⟨sb,off+j,Vx⟩=Vz (VW (tx (r.1[j]'hj)))
 len:∀x∈r.1,ln x<=100000
theorem gI.dz{B N b:Nat}{r:sF}(h:gI B N b r w)(hp:N<=p.block)(x:Vy):gI B N b r (w.setCell p x):=by
 obtain⟨lo,hi,⟨sb,off,cap,h1,h2,h3,h4,h5,⟨cur,h7⟩,h8⟩,hl⟩:=h;exact⟨lo,hi,⟨sb,off,cap,(Below.heap_setCell w p x b V7).trans h1,h2,h3,h4,h5,⟨cur,(Below.heap_setCell w p x sb V7).trans h7⟩,λj hj=>by
  rw[World.cell?_setCell_other]
  ·exact h8 j hj
  ·intro e;have e1:p.block=sb:=congrArg VT.block e;omega⟩,hl⟩
structure bK(B b:Nat)(w w':Vt):Prop where
 low:VS B w w'
 others:∀k,k<w.heap.size->k≠b->w'.heap[k]?=w.heap[k]?
def bK.refl(B b:Nat)(w:Vt):bK B b w w:=⟨Below.refl _ _,λ_ _ _=>rfl⟩
def bK.trans{B b:Nat}{u v w:Vt}(h:bK B b u v)(k:bK B b v w):bK B b u w:=
 ⟨h.low.trans k.low,λj hj hb=>(k.others j (Nat.lt_of_lt_of_le hj h.low.size) hb).trans (h.others j hj hb)⟩
theorem bK.aZ{B b:Nat}(h:VS w.heap.size w w')(hB:B<=w.heap.size):bK B b w w':=⟨h.mono hB,λk hk _=>h.block k hk⟩
def bK.set{B b:Nat}(w:Vt)(hB:B<=b)(i:Nat)(x:Vy):bK B b w (w.setCell ⟨b,i,Vx⟩ x):=
 ⟨(Below.refl _ _).setCell (p:=⟨b,i,Vx⟩) hB _,λk _ hk=>Below.heap_setCell w ⟨b,i,Vx⟩ x k hk⟩
theorem gI.below{B N b:Nat}{r:sF}(h:gI B N b r w)(hb:VS w.heap.size w w'):gI B N b r w':=by
 obtain⟨lo,hi,⟨sb,off,cap,h1,h2,h3,h4,h5,⟨cur,h7⟩,h8⟩,hl⟩:=h;have l1:b<w.heap.size:=(VF.1 h1).1;have l2:sb<w.heap.size:=(VF.1 h7).1;exact⟨lo,hi,⟨sb,off,cap,(hb.block b l1).trans h1,h2,h3,h4,h5,⟨cur,(hb.block sb l2).trans h7⟩,λj hj=>(hb.cell l2).trans (h8 j hj)⟩,hl⟩
theorem gI.lt{B N b:Nat}{r:sF}(h:gI B N b r w):b<w.heap.size:=by
 obtain⟨lo,hi,⟨sb,off,cap,h1,_⟩,hl⟩:=h;exact(VF.1 h1).1
def GS(B N b:Nat)(v:Vy)(r:sF)(w:Vt)(e:Ending)(w':Vt):Prop:=e=V0 v/\gI B N b r w'/\bK B b w w'
def vg(B N b:Nat)(r:sF)(w:Vt)(h:gI B N b r w):
  VJ prog 124 #[sV b] w (GS B N b (VW (tx (rW r).1)) (rW r).2 w):=by
 obtain⟨ws,wrong⟩:=r;obtain⟨lo,hi,⟨sb,off,cap,h1,h2,h3,h4,h5,⟨cur,h7⟩,h8⟩,hl⟩:=h;have X:fE w b 128 (VV (Vz ⟨sb,off,Vx⟩) (ln ws) cap) (VX wrong):=h1;have c0:=X.cell0;have c1:=X.dZ;have f0:=X.frozen 0;have f1:=X.frozen 1;cases ws with
 |nil=>
  have HX:=Vs X;have HS:=Vs (show gI B N b ([],VD) (w.setCell ⟨b,1,Vx⟩ (VX VD)) from⟨lo,hi,⟨sb,off,cap,X.p8 _,h2,h3,h4,h5,⟨cur,(Below.heap_setCell w ⟨b,1,Vx⟩ _ sb h2).trans h7⟩,λj hj=>absurd hj Wa⟩,hl⟩);clear h1 X h7 h8 hl;go_enter func124,ntmps124;go_wp2;go_ret;exact⟨rfl,HS.o,bK.set w lo 1 _⟩
 |cons s t=>
  have hc:=h8 0 Wa;simp only[List.getElem_cons_zero,Nat.add_zero] at hc;have h4':ln t+1<=cap:=by simpa using h4
  by_cases hcap:cap=1
  ·subst hcap;have ht0:t=[]:=List.length_eq_zero_iff.1 V7;subst ht0;have HS:=Vs (show gI B N b ([],wrong) (w.setCell ⟨b,0,Vx⟩ (VV (Vz ⟨sb,off,Vx⟩) 0 0)) from⟨lo,hi,⟨sb,off,0,X.mD _,h2,h3,Wa,V7,⟨cur,(Below.heap_setCell w ⟨b,0,Vx⟩ _ sb h2).trans h7⟩,λj hj=>absurd hj Wa⟩,λx hx=>by cases hx⟩);exact YE
  ·have HS:=Vs (show gI B N b (t,wrong) (w.setCell ⟨b,0,Vx⟩ (VV (Vz ⟨sb,off+1,Vx⟩) (ln t) (cap-1))) from⟨lo,hi,⟨sb,off+1,cap-1,X.mD _,h2,h3,by show ln t<=_;omega,V7,⟨cur,(Below.heap_setCell w ⟨b,0,Vx⟩ _ sb h2).trans h7⟩,λj hj=>by
    have:=h8 (j+1) (by simp;exact hj);simp only[List.getElem_cons_succ] at this;rw[show off+1+j=off+(j+1) by omega];rw[World.cell?_setCell_other]
    ·exact this
    ·intro e;exact h2 (congrArg VT.block e).symm⟩,λx hx=>hl x (List.mem_cons_of_mem _ hx)⟩)
   have hcap0:(cap-1==0)=Vw:=Wj;have hcap1:¬cap-1=0:=V7;exact YE
def R8(w:Vt)(s:By)(e:Ending)(w':Vt):Prop:=
 ∃ev,e=V0 (V6 #[VZ VH (nZ s).1,ev])/\(((nZ s).2=Vw/\ev= .nilIface)\/((nZ s).2=VD/\∃t p,ev= .iface t p))/\VS w.heap.size w w'
def MF(s:By)(w:Vt)(hs:ln s<=100000)(hg:Gl w):VJ prog 187 #[VW (tx s)] w (R8 w s):=by
 cases ha:Lib.atoiAll s
 ·rename_i v;have hv:nZ s=(v,Vw):=by unfold nZ;rw[ha]
  refine(strconv_Atoi_ok (tx s) XC v (by rw[bf];exact ha) w).mono ?_;rintro e w' ⟨rfl,hw⟩;refine⟨_,by rw[hv],.inl ⟨by rw[hv],rfl⟩,?_⟩;rcases hw with rfl|⟨t,rfl⟩
  ·exact Below.refl _ _
  ·exact Lib.bytesWorld_below _ _ _
 ·have hv:nZ s=(0,VD):=by unfold nZ;rw[ha]
  obtain⟨tp,p,hvar⟩:=hg.syn;refine(strconv_Atoi_syntax_var (tx s) XC (by rw[bf];exact ha.trans rfl) tp p w hvar).mono ?_;rintro e w' ⟨N,rfl,_,_,hB⟩;exact⟨_,by rw[hv],.inr ⟨by rw[hv],_,_,rfl⟩,hB⟩
 ·have hv:nZ s=(Lib.atoiSat s,VD):=by unfold nZ;rw[ha]
  obtain⟨tp,p,hvar⟩:=hg.rng;refine(strconv_Atoi_range_var (tx s) XC (by rw[bf];exact ha) tp p w hvar).mono ?_;rintro e w' ⟨N,rfl,_,_,hB⟩;exact⟨_,by rw[hv,bf],.inr ⟨by rw[hv],_,_,rfl⟩,hB⟩
theorem gI.MN{B N b:Nat}{r:sF}(h:gI B N b r w)(x:Bool):gI B N b (r.1,x) (w.setCell ⟨b,1,Vx⟩ (VX x)):=by
 obtain⟨lo,hi,⟨sb,off,cap,h1,h2,h3,h4,h5,⟨cur,h7⟩,h8⟩,hl⟩:=h;have X:fE w b 128 (VV (Vz ⟨sb,off,Vx⟩) (ln r.1) cap) (VX r.2):=h1;exact⟨lo,hi,⟨sb,off,cap,X.p8 _,h2,h3,h4,h5,⟨cur,(Below.heap_setCell w ⟨b,1,Vx⟩ _ sb h2).trans h7⟩,λj hj=>by
  rw[World.cell?_setCell_other]
  ·exact h8 j hj
  ·intro e;exact h2 (congrArg VT.block e).symm⟩,hl⟩
theorem gI.cells{B N b:Nat}{r:sF}(h:gI B N b r w):w.cell? ⟨b,1,Vx⟩=Vz (VX r.2)/\w.frozen? ⟨b,1,Vx⟩=Vw/\∃A c,w.cell? ⟨b,0,Vx⟩=Vz (VV A (ln r.1) c):=by
 obtain⟨lo,hi,⟨sb,off,cap,h1,_⟩,hl⟩:=h;have X:fE w b 128 (VV (Vz ⟨sb,off,Vx⟩) (ln r.1) cap) (VX r.2):=h1;exact⟨X.dZ,X.frozen 1,_,_,X.cell0⟩
theorem RD{B N b:Nat}{r:sF}(h:gI B N b r w):(rW r).1.length<=100000:=by
 obtain⟨ws,x⟩:=r;cases ws with
 |nil=>simp[rW]
 |cons s t=>exact h.len s (List.mem_cons_self ..)
def Hb(B N b:Nat)(r:sF)(w:Vt)(h:gI B N b r w)(hg:Gl w)(hB:9<=B)(hBw:B<=w.heap.size):
  VJ prog 125 #[sV b] w (GS B N b (VZ VH (rI r).1) (rI r).2 w):=by
 have hc:=Vs (vg B N b r w h);have hl:=RD h;have hnil:=λW=>run_eql_nil_nil (P:=prog) W 212 V8
 have HG:=Vs hg;have lo:=h.lo;clear h hg;go_enter func125,ntmps125;go_upto_region 2 with(first
  |(go_at_call 124;refine hc.o.mono ?_;rintro e w1 ⟨rfl,h1,h2⟩;have H1:=Vs h1;have K1:=Vs h2;clear h1 h2)
  |(go_at_call 187;refine(MF _ _ hl (HG.o.keep K1.o.low hB)).mono ?_;rintro e w2 ⟨ev,rfl,hev,hB2⟩;have H2:=Vs (H1.o.below hB2);have K2:=Vs (K1.o.trans (bK.aZ hB2 (by have:=K1.o.low.size;omega)));have HEV:=Vs hev;clear hev))
 obtain⟨c1,f1,_⟩:=H2.o.cells;have HS:=Vs (λx=>(H2.o.MN x));cases hr:(rW r).2.2 with
 |true=>
  have HR:=Vs (show(rI r).2=((rW r).2.1,VD) by unfold rI;rw[hr];rfl);rw[hr] at c1;exact YF
 |false=>
  rw[hr] at c1;rcases HEV.o with⟨hv,rfl⟩|⟨hv,t,p,rfl⟩
  ·have HR:=Vs (show(rI r).2=((rW r).2.1,Vw) by unfold rI;rw[hr,hv];rfl);clear HEV;go_wp2;go_ret;exact⟨rfl,by rw[HR.o];exact HS.o Vw,K2.o.trans (bK.set _ lo 1 _)⟩
  ·have HR:=Vs (show(rI r).2=((rW r).2.1,VD) by unfold rI;rw[hr,hv];rfl);clear HEV;exact YF
end
section
open Kp
attribute [local go_sem] aM fC fH er eu ey eh ej dY
def bz(w:Vt)(B:Nat)(ga:Option VT)(gc:Nat)(l:List (Int×Int)):Prop:=
 ln l<=gc/\gc<=VP/\(0<ln l->∃gb go,ga=Vz ⟨gb,go,Vx⟩/\gb<B/\∀j (hj:j<ln l),w.cell? ⟨gb,go+2*j,Vx⟩=Vz (VZ VH (l[j]'hj).1)/\w.cell? ⟨gb,go+2*j+1,Vx⟩=Vz (VZ VH (l[j]'hj).2))
theorem bz.below{B:Nat}{l:List (Int×Int)}(h:bz w B ga gc l)(hb:VS B w w'):bz w' B ga gc l:=by
 refine⟨h.1,h.2.1,λh0=> ?_⟩;obtain⟨gb,go,e,hg,hc⟩:=h.2.2 h0;exact⟨gb,go,e,hg,λj hj=>⟨(hb.cell hg).trans (hc j hj).1,(hb.cell hg).trans (hc j hj).2⟩⟩
theorem bz.more{B B':Nat}{l:List (Int×Int)}(h:bz w B ga gc l)(hb:B<=B'):bz w B' ga gc l:=by
 refine⟨h.1,h.2.1,λh0=> ?_⟩;obtain⟨gb,go,e,hg,hc⟩:=h.2.2 h0;exact⟨gb,go,e,V7,hc⟩
def bZ.RI(w:Vt)(o:Obj)(T:VR)(l:List Vy):bZ ((w.alloc o).alloc (.cells l.toArray T)) (w.heap.size+1) T l:=by
 have:=bZ.new (w.alloc o) T l;exact YG
end
section
open Kp
def Dt(k:Int):(J9 k).kind=k:=rfl
attribute [local go_sem] aM fC fH iy gU iA ik gW gV im gY eP eN eV eK eY eR eQ er eu ey eh ej dY eT eO eU eS eI eM eJ eX fm fu ft fo dX eZ Dt fN kU kR jV
def EC(w:Vt)(c:Nat)(C:Array Vy):Prop:=w.heap[c]?=Vz (.cells C 68 (0,0))
theorem EC.cell(h:EC w c C)(i:Nat):w.cell? ⟨c,i,Vx⟩=C[i]?:=by unfold EC at h;simp[World.cell?,h]
theorem EC.frozen(h:EC w c C)(i:Nat):w.frozen? ⟨c,i,Vx⟩=Vw:=by unfold EC at h;simp[World.frozen?,h]
theorem EC.heap(h:EC w c C):w.heap[c]?=Vz (.cells C 68 (0,0)):=h
theorem EC.lt(h:EC w c C):c<w.heap.size:=(VF.1 h).1
theorem EC.put(h:EC w c C)(i:Nat)(x:Vy):EC (w.setCell ⟨c,i,Vx⟩ x) c (C.setIfInBounds i x):=by unfold EC at *;simp[World.setCell,Array.getElem?_modify,h]
theorem EC.dz(h:EC w c C)(hp:c≠p.block)(x:Vy):EC (w.setCell p x) c C:=(Below.heap_setCell w p x c hp).trans h
theorem EC.keep{B b:Nat}(h:EC w c C)(hk:bK B b w w')(hc:c≠b):EC w' c C:=(hk.others c h.lt hc).trans h
theorem EC.alloc(h:EC w c C)(o:Obj):EC (w.alloc o) c C:=(Below.heap_alloc w o c h.lt).trans h
def EC.new(w:Vt)(C:Array Vy):EC (w.alloc (.cells C 68)) w.heap.size C:=VG w _
theorem gI.alloc{B N b:Nat}{r:sF}(h:gI B N b r w)(o:Obj):gI B N b r (w.alloc o):=h.below ((Below.refl _ _).alloc (Vu _) _)
theorem bK.alloc{B b:Nat}(h:bK B b u w)(hB:B<=w.heap.size)(o:Obj):bK B b u (w.alloc o):=h.trans (bK.aZ ((Below.refl _ _).alloc (Vu _) _) hB)
theorem bK.dz{B b:Nat}(h:bK B b u w)(hp:u.heap.size<=p.block)(hB:B<=p.block)(x:Vy):bK B b u (w.setCell p x):=
 ⟨h.low.setCell hB x,λk hk hb=>(Below.heap_setCell w p x k V7).trans (h.others k hk hb)⟩
theorem bK.row{B b:Nat}(h:bK B b u w)(hp:u.heap.size<=n)(hB:B<=n)(cs:Array Vy):bK B b u (w.setRow n cs):=
 ⟨ah h.low hB cs,λk hk hb=>by
  have:(w.setRow n cs).heap[k]?=w.heap[k]?:=by simp only[World.setRow,Array.getElem?_modify];rw[if_neg V7]
  rw[this];exact h.others k hk hb⟩
theorem gI.row{B N b:Nat}{r:sF}(h:gI B N b r w)(hn:N<=n)(cs:Array Vy):gI B N b r (w.setRow n cs):=by
 obtain⟨lo,hi,⟨sb,off,cap,h1,h2,h3,h4,h5,⟨cur,h7⟩,h8⟩,hl⟩:=h;have hh:∀k,k≠n->(w.setRow n cs).heap[k]?=w.heap[k]?:=λk hk=>by simp only[World.setRow,Array.getElem?_modify];rw[if_neg (Ne.symm hk)]
 exact⟨lo,hi,⟨sb,off,cap,(hh b V7).trans h1,h2,h3,h4,h5,⟨cur,(hh sb V7).trans h7⟩,λj hj=>(World.cell?_of_block (hh sb V7)).trans (h8 j hj)⟩,hl⟩
def putAt(old:Array Vy)(o:Nat)(cells:Array Vy):Array Vy:=(old.toList.take (o+0)++cells.toList++old.toList.drop (o+0+ln cells.toList)).toArray
def qt(w:Vt)(g o:Nat)(t ty:VR)(old cells:Array Vy)(hg:w.heap[g]?=Vz (.cells old t (0,0)))(hi:(prog.info? ty).map (·.size)=Vz cells.size)
  (ho:o+cells.size<=old.size)(h1:cells.all (·.oneCell')=VD):(storeVar ty ⟨g,o,Vx⟩ (V5 cells)).run prog w= .ok () (w.setRow g (putAt old o cells)):=by
 have:=run_storeCells_at (P:=prog) g o t cells.toList 0 old w hg Wf (λv hv=>(Array.all_eq_true_iff_forall_mem.1 h1) v (by simpa using hv));cases hq:prog.info? ty with
 |none=>simp[hq] at hi
 |some i=>
  have hs:cells.size=i.size:=by simp[hq] at hi;omega
  unfold putAt;simp[storeVar,sizeOf,typeInfo,hq,Value.cells,hs] at this⊢;exact this
theorem dW{ops:Array Oper}{rest:List Oper}{o:Oper}{a:Act}{Q:Exit->Act->Vt->Prop}(hgd:o.guard=Vx)(ty:VR)(x y:Operand)(ho:o.op= .store ty x y)
  (g off:Nat)(cells:Array Vy)(hx:a.eval x=VY (Vz ⟨g,off,Vx⟩))(hy:a.eval y=V5 cells)
  (t:VR)(old:Array Vy)(hg:w.heap[g]?=Vz (.cells old t (0,0)))(hi:(prog.info? ty).map (·.size)=Vz cells.size)
  (hold:off+cells.size<=old.size)(h1:cells.all (·.oneCell')=VD)
  (h:wpList prog ops Q rest (a.put o.dst VB) (w.setRow g (putAt old off cells))):wpList prog ops Q (o::rest) a w:=by
 refine wpList_plain hgd λ_ hK=> ?_
 unfold Oper.wp execOp;simp only[ho,hx,hy,Instr.storeAt,Instr.sureAddr,Sem.run_bind,Sem.run_pure,Result.andThen_ok,qt w g off t ty old cells hg hi hold h1];exact hK _ _ h
theorem EC.Tk(h:EC w c C)(hn:c≠n)(cs:Array Vy):EC (w.setRow n cs) c C:=by
 exact YH
def all_nil(P:Int->Prop):∀n∈([]:List Int),P n:=λ_ h=>Wb
theorem all_cons{P:Int->Prop}{l:List Int}(h:P a)(k:∀n∈l,P n):∀n∈a::l,P n:=λn hn=>by
 rcases List.mem_cons.1 hn with rfl|hn
 ·exact h
 ·exact k n hn
def lU(w:Vt)(B:Nat):bz w B Vx 0 []:=⟨Vu _,Wh,λh=>absurd h Wa⟩
end
section
open Kp
def I8(l:By):(tx l).toList=l:=by rw[ByteArray.toList_eq,bf]
def FI(x y u v:Int)(W:Vt):(binOp .neq 84 (V5 #[VZ VH x,VZ VH y]) (V5 #[VZ VH u,VZ VH v])).run prog W= .ok (VX (!(x==u&&y==v))) W:=by
 rw[run_neq_struct,run_equalIn_agg _ _ _ _ _ V8 V8];simp only[Program.fieldsOf,underlying84];cases hx:(x==u)<;>cases hy:(y==v)<;>simp[go_sem,hx,hy,Result.andThen,underlying3,isAgg3]
attribute [local go_sem] Result.andThen I8 underlying3 isAgg3 underlying4 isAgg4 underlying55 isAgg55
def nc(a b:Ed):Bool:=(a.sx==b.sx)&&(a.sy==b.sy)&&(a.srise==b.srise)&&(a.srun==b.srun)&&(a.gable==b.gable)&&(a.splate==b.splate)&&(a.sover==b.sover)
theorem Ck(a b:Ed)(W:Vt):(binOp .eql 54 (.agg #[.int .i64 a.sx,.int .i64 a.sy,.int .i64 a.srise,.int .i64 a.srun,.bool a.gable,.int .i64 a.splate,.int .i64 a.sover]) (.agg #[.int .i64 b.sx,.int .i64 b.sy,.int .i64 b.srise,.int .i64 b.srun,.bool b.gable,.int .i64 b.splate,.int .i64 b.sover])).run prog W= .ok (.bool (nc a b)) W:=by
 rw[run_eql_struct,run_equalIn_agg _ _ _ _ _ (by kernel_rfl) (by kernel_rfl)]
 simp only[Program.fieldsOf,underlying54]
 unfold nc
 cases h:(a.sx==b.sx)
 case' true=>cases h:(a.sy==b.sy)
 case' true=>cases h:(a.srise==b.srise)
 case' true=>cases h:(a.srun==b.srun)
 case' true=>cases h:(a.gable==b.gable)
 case' true=>cases h:(a.splate==b.splate)
 case' true=>cases h:(a.sover==b.sover)
 all_goals simp[go_sem, *]
def vB(a b:Ed):Bool:=(a.oside==b.oside)&&(a.oleft==b.oleft)&&(a.oright==b.oright)&&(a.olow==b.olow)&&(a.ohigh==b.ohigh)
theorem F7(a b:Ed)(W:Vt):(binOp .eql 57 (.agg #[.int .i64 a.oside,.string (tx a.oleft),.string (tx a.oright),.string (tx a.olow),.string (tx a.ohigh)]) (.agg #[.int .i64 b.oside,.string (tx b.oleft),.string (tx b.oright),.string (tx b.olow),.string (tx b.ohigh)])).run prog W= .ok (.bool (vB a b)) W:=by
 rw[run_eql_struct,run_equalIn_agg _ _ _ _ _ (by kernel_rfl) (by kernel_rfl)]
 simp only[Program.fieldsOf,underlying57]
 unfold vB
 cases h:(a.oside==b.oside)
 case' true=>cases h:(a.oleft==b.oleft)
 case' true=>cases h:(a.oright==b.oright)
 case' true=>cases h:(a.olow==b.olow)
 case' true=>cases h:(a.ohigh==b.ohigh)
 all_goals simp[go_sem, *]
def oo(a b:Ed):Bool:=(a.zkind==b.zkind)&&(a.zwidth==b.zwidth)&&(a.zdepth==b.zdepth)
theorem AQ(a b:Ed)(W:Vt):(binOp .eql 59 (.agg #[.int .i64 a.zkind,.int .i64 a.zwidth,.int .i64 a.zdepth]) (.agg #[.int .i64 b.zkind,.int .i64 b.zwidth,.int .i64 b.zdepth])).run prog W= .ok (.bool (oo a b)) W:=by
 rw[run_eql_struct,run_equalIn_agg _ _ _ _ _ (by kernel_rfl) (by kernel_rfl)]
 simp only[Program.fieldsOf,underlying59]
 unfold oo
 cases h:(a.zkind==b.zkind)
 case' true=>cases h:(a.zwidth==b.zwidth)
 case' true=>cases h:(a.zdepth==b.zdepth)
 all_goals simp[go_sem, *]
def tZ(a b:Ed):Bool:=(a.lkind==b.lkind)&&(a.lside==b.lside)&&(a.lweight==b.lweight)
theorem CI(a b:Ed)(W:Vt):(binOp .eql 64 (.agg #[.int .i64 a.lkind,.int .i64 a.lside,.string (tx a.lweight)]) (.agg #[.int .i64 b.lkind,.int .i64 b.lside,.string (tx b.lweight)])).run prog W= .ok (.bool (tZ a b)) W:=by
 rw[run_eql_struct,run_equalIn_agg _ _ _ _ _ (by kernel_rfl) (by kernel_rfl)]
 simp only[Program.fieldsOf,underlying64]
 unfold tZ
 cases h:(a.lkind==b.lkind)
 case' true=>cases h:(a.lside==b.lside)
 case' true=>cases h:(a.lweight==b.lweight)
 all_goals simp[go_sem, *]
def Ep(a b:Ed):Bool:=(a.awidth==b.awidth)&&(a.adepth==b.adepth)&&(a.aspacing==b.aspacing)&&(a.aload==b.aload)&&(a.aspan==b.aspan)
theorem FQ(a b:Ed)(W:Vt):(binOp .eql 66 (.agg #[.int .i64 a.awidth,.int .i64 a.adepth,.int .i64 a.aspacing,.int .i64 a.aload,.int .i64 a.aspan]) (.agg #[.int .i64 b.awidth,.int .i64 b.adepth,.int .i64 b.aspacing,.int .i64 b.aload,.int .i64 b.aspan])).run prog W= .ok (.bool (Ep a b)) W:=by
 rw[run_eql_struct,run_equalIn_agg _ _ _ _ _ (by kernel_rfl) (by kernel_rfl)]
 simp only[Program.fieldsOf,underlying66]
 unfold Ep
 cases h:(a.awidth==b.awidth)
 case' true=>cases h:(a.adepth==b.adepth)
 case' true=>cases h:(a.aspacing==b.aspacing)
 case' true=>cases h:(a.aload==b.aload)
 case' true=>cases h:(a.aspan==b.aspan)
 all_goals simp[go_sem, *]
def vJ(a b:Ed):Bool:=(a.twidth==b.twidth)&&(a.tlength==b.tlength)&&(a.tlap==b.tlap)&&(a.ttail==b.ttail)
theorem Cu(a b:Ed)(W:Vt):(binOp .eql 30 (.agg #[.int .i64 a.twidth,.int .i64 a.tlength,.int .i64 a.tlap,.int .i64 a.ttail]) (.agg #[.int .i64 b.twidth,.int .i64 b.tlength,.int .i64 b.tlap,.int .i64 b.ttail])).run prog W= .ok (.bool (vJ a b)) W:=by
 rw[run_eql_struct,run_equalIn_agg _ _ _ _ _ (by kernel_rfl) (by kernel_rfl)]
 simp only[Program.fieldsOf,underlying30]
 unfold vJ
 cases h:(a.twidth==b.twidth)
 case' true=>cases h:(a.tlength==b.tlength)
 case' true=>cases h:(a.tlap==b.tlap)
 case' true=>cases h:(a.ttail==b.ttail)
 all_goals simp[go_sem, *]
def gX(a b:Ed):Bool:=
 (a.kind==b.kind)&&(a.index==b.index)&&nc a b&&vB a b&&oo a b&&(a.bwidth==b.bwidth)&&(a.bdepth==b.bdepth)&&(a.blength==b.blength)&&(a.bcount==b.bcount)&&(a.bcost==b.bcost)&&(a.gaps==b.gaps)&&tZ a b&&Ep a b&&vJ a b&&(a.number==b.number)&&(a.text==b.text)
def Hu(a b:Ed):gX a b=VD↔a=b:=by
 unfold gX nc vB oo tZ Ep vJ;simp only[Bool.and_eq_true,beq_iff_eq];constructor
 ·intro h;cases a;cases b;simp only[Ed.mk.injEq] at h⊢;simp only[h,and_self]
 ·intro h;subst h;simp
end
section
open Kp
structure Ti(w:Vt)(a b:List (Int×Int))(i:Vy)(wr:Vt):Prop where
 ex:∃k:Nat,k<=ln a/\i=VZ VH (k:Int)/\a.take k=b.take k
 low:VS w.heap.size w wr
def ma(w:Vt)(ga gb:Option VT)(ca cb:Nat)(a b:List (Int×Int))(ha:bz w w.heap.size ga ca a)(hb:bz w w.heap.size gb cb b):
  VJ prog 29 #[VV ga (ln a) ca,VV gb (ln b) cb] w λe w'=>e=V0 (VX (a==b))/\VS w.heap.size w w':=by
 have la:=ha.1;have lb:=hb.1;have ca':=ha.2.1;have cb':=hb.2.1;unfold VP at ca' cb';have HA:=Vs ha;have HB:=Vs hb;clear ha hb;by_cases hl:ln a=ln b
 ·have hl':((ln a:Int) !=(ln b:Int))=Vw:=by rw[bne_eq_false_iff_eq,hl]
  have HL:=Vs hl;clear hl;go_enter func29,ntmps29;go_wp2;go_loopw [13] (λi wr=>Ti w a b i wr) (λi _=>((ln a:Int)-VN i).toNat)
  case atStart=>exact⟨⟨0,V7,rfl,Wa⟩,Below.refl _ _⟩
  case round=>
   obtain⟨⟨k,hk,rfl,he⟩,hBr⟩:=hrel;by_cases hlt:k<ln a
   ·have hltb:k<ln b:=by rw[<-HL.o];exact hlt
    obtain⟨_,_,hxa⟩:=HA.o.below hBr;obtain⟨_,_,hxb⟩:=HB.o.below hBr;obtain⟨ba,oa,rfl,_,cea⟩:=hxa V7;obtain⟨bb,ob,rfl,_,ceb⟩:=hxb V7;obtain⟨a1,a2⟩:=cea k hlt;obtain⟨b1,b2⟩:=ceb k hltb;rw[VL] at a1 a2 b1 b2;obtain⟨x,y,hxy⟩:∃x y,a[k]=(x,y):=⟨_,_,rfl⟩;obtain⟨u,v,huv⟩:∃u v,b[k]=(u,v):=⟨_,_,rfl⟩;rw[hxy] at a1 a2;rw[huv] at b1 b2;have hnq:=λW=>FI x y u v W
    cases hq:(x==u&&y==v) with
    |true=>
     have HN:=Vs (λn=>(show Ti w a b (VZ VH ((k:Int)+1)) (wr.drewN n) from⟨⟨k+1,V7,Wa,by
      rw[q9 hlt,q9 hltb,he,hxy,huv];simp only[Bool.and_eq_true,beq_iff_eq] at hq;rw[hq.1,hq.2]⟩,below_drewN hBr n⟩))
     rw[hq] at hnq;clear hq he cea ceb hxa hxb hxy huv;go_wp2;go_quiet (fail)
     go_wp2;exact⟨HN.o _,Wc⟩
    |false=>
     have HN:=Vs (show(a==b)=Vw by
      rw[beq_eq_false_iff_ne];intro h;subst h;rw[hxy] at huv;simp only[Prod.mk.injEq] at huv;rw[huv.1,huv.2] at hq;simp at hq)
     rw[hq] at hnq;clear hq he cea ceb hxa hxb hxy huv;go_wp2;go_quiet (fail)
     go_wp2;go_ret;exact⟨by rw[HN.o];rfl,below_drewN hBr _⟩
   ·have HN:=Vs (show(a==b)=VD by
     rw[beq_iff_eq];have e1:a.take k=a:=List.take_of_length_le V7;have e2:b.take k=b:=List.take_of_length_le (by have:=HL.o;omega);rw[e1,e2] at he;exact he)
    have hlt':decide ((k:Int)<(ln a:Int))=Vw:=Wd;clear he;go_wp2;go_ret;exact⟨by rw[HN.o];rfl,hBr⟩
 ·have hl':((ln a:Int) !=(ln b:Int))=VD:=WX;have HN:=Vs (show(a==b)=Vw by rw[beq_eq_false_iff_ne];intro h;exact hl (by rw[h]));clear hl;go_enter func29,ntmps29;go_wp2;go_ret;exact⟨by rw[HN.o];rfl,Below.refl _ _⟩
end
section
open Kp
attribute [local go_sem] aM fC fH iy gU iA ik gW gV im gY eP eN eV eK eY eR eQ er eu ey eh ej dY eT eO eU eS eI eM eJ eX fm fu ft fo dX eZ fN kU kR jV
def FD(w:Vt)(B:Nat):bz w B Vx 0 []:=⟨Vu _,Wh,λh=>absurd h Wa⟩
def EE(w:Vt)(e:Ed)(r:Ending)(w':Vt):Prop:=∃gb cb,r=V0 (V5 (aE (gx e) (VV gb (gx e).gaps.length cb)))/\bz w' w'.heap.size gb cb (gx e).gaps/\VS w.heap.size w w'
theorem Sr(h:a=k)(n:Int):(a==n)=(k==n):=by rw[h]
def Vm(k:Int)(e:Ed):Ed:={gx {e with kind:=k} with kind:=e.kind}
def PU(e:Ed):(gx e).kind=e.kind:=by
 unfold gx;simp only[apply_ite Ed.kind,ite_self]
theorem Tx{e:Ed}(h:e.kind=k):gx e=Vm k e:=by
 subst h;have h:({gx e with kind:=(gx e).kind}:Ed)=gx e:=rfl;rw[PU] at h;exact h.symm
theorem Rw{e U:Ed}{c:Array Vy}(hu:gx e=U)(h0:U.gaps=[])(hc:c=aE U df)(hB:VS w.heap.size w W):EE w e (V0 (V5 c)) W:=by
 subst hu hc;exact⟨Vx,0,by rw[h0];rfl,by rw[h0];exact FD _ _,hB⟩
theorem Sc{e U:Ed}{c:Array Vy}(hu:gx e=U)(h0:U.gaps=e.gaps)(hc:c=aE U (VV ga (ln e.gaps) gc))(hg:bz w w.heap.size ga gc e.gaps)(hB:VS w.heap.size w W):EE w e (V0 (V5 c)) W:=by
 subst hu hc;exact⟨ga,gc,by rw[h0],by rw[h0];exact(hg.below hB).more hB.size,hB⟩
set_option maxHeartbeats 40000000 in
def uT(w:Vt)(e:Ed)(ga:Option VT)(gc:Nat)(hk:1<=e.kind/\e.kind<=12)(hg:bz w w.heap.size ga gc e.gaps):VJ prog 86 #[V5 (aE e (VV ga (ln e.gaps) gc))] w (EE w e):=by
 have mixed:prog.follows .mixedOrders=VD:=V8;have hx:e.kind=1\/e.kind=2\/e.kind=3\/e.kind=4\/e.kind=5\/e.kind=6\/e.kind=7\/e.kind=8\/e.kind=9\/e.kind=10\/e.kind=11\/e.kind=12:=V7;have HG:=Vs hg;clear hk hg;rcases hx with h|h|h|h|h|h|h|h|h|h|h|h
 all_goals
  have kk:=Sr h;have HU:=Vs (Tx h);clear h;go_enter func86,ntmps86;go_wp2_with(first
   |(refine wpList_build rfl 68 _ rfl V8 ?_;rw[show Value.agg (Option.getD (prog.built 68 _) #[])=V5 (aE (J9 e.kind) df) from V8])
   |(refine wpList_store_row rfl 68 _ _ rfl _ _ rfl rfl 68 _ Wm V8 V8 V8 ?_)
   |(refine wpList_load_row rfl 68 _ rfl _ rfl 68 _ (0,0) _ Wm underlying68 rfl V8 ?_))
 all_goals try(go_region_o<;>go_wp2_with(first
  |(refine wpList_build rfl 68 _ rfl V8 ?_;rw[show Value.agg (Option.getD (prog.built 68 _) #[])=V5 (aE (J9 e.kind) df) from V8])
  |(refine wpList_store_row rfl 68 _ _ rfl _ _ rfl rfl 68 _ Wm V8 V8 V8 ?_)
  |(refine wpList_load_row rfl 68 _ rfl _ rfl 68 _ (0,0) _ Wm underlying68 rfl V8 ?_)))
 all_goals
  refine bodyPost_ret (results_cell_row rfl _ _ _ _ _ (0,0) _ rfl (by first|with_reducible exact Cr _ _ _ _|with_reducible exact setRow_heap (Bu _ _ _ _) _|with_reducible exact setRow_heap (Cr _ _ _ _) _) underlying68 rfl V8) rfl ?_
  first|refine Rw HU.o Wl V8 ?_|refine Sc HU.o Wl V8 HG.o ?_
  repeat first|with_reducible refine ah ?_ Wo _|with_reducible refine Below.drew ?_|with_reducible refine Below.alloc ?_ Wo _|with_reducible exact Below.refl _ _
end
section
open Kp
attribute [local go_sem] aM fC fH iy gU iA ik gW gV im gY eP eN eV eK eY eR eQ er eu ey eh ej dY eT eO eU eS eI eM eJ eX fm fu ft fo dX eZ
abbrev wD(e:Ed)(ga:Option VT)(gc:Nat):List Vy:=[VZ VH e.bwidth,VZ VH e.bdepth,VZ VH e.blength,VZ VH e.bcount,VZ VH e.bcost,VV ga (ln e.gaps) gc]
structure Gq(w:Vt)(a b:Ed)(ga gb:Option VT)(ca cb:Nat)(s5 s6:Vy)(wx:Vt):Prop where
 ea:iF wx w.heap.size a (VV ga (ln a.gaps) ca)
 eb:iF wx (w.heap.size+1) b (VV gb (ln b.gaps) cb)
 bars:∃p q,s5=VY (Vz ⟨p,0,Vx⟩)/\s6=VY (Vz ⟨q,0,Vx⟩)/\bZ wx p 62 (wD a ga ca)/\bZ wx q 62 (wD b gb cb)
 low:VS w.heap.size w wx
def Dd(w:Vt)(a b c d:Obj):((((w.alloc a).alloc b).alloc c).alloc d).heap[w.heap.size]?=Vz a:=by
 rw[heap_alloc_old _ _ (by first|(simp;done)|(simp;omega)),qw]
def AN(w:Vt)(a b c d:Obj):((((w.alloc a).alloc b).alloc c).alloc d).heap[w.heap.size+1]?=Vz b:=by
 rw[heap_alloc_old _ _ (by first|(simp;done)|(simp;omega)),Cr]
def Bw(w:Vt)(a b c d:Obj):((((w.alloc a).alloc b).alloc c).alloc d).heap[w.heap.size+1+1]?=Vz c:=by
 rw[heap_alloc_old _ _ Wa,wZ]
def Bp(w:Vt)(a b c d:Obj):((((w.alloc a).alloc b).alloc c).alloc d).heap[w.heap.size+1+1+1]?=Vz d:=by
 have:=heap_alloc_new (((w.alloc a).alloc b).alloc c) d;exact XY
def nO(w:Vt)(a b c d:Obj):VS w.heap.size w ((((w.alloc a).alloc b).alloc c).alloc d).drew:=
 ((((((Below.refl _ _).alloc (Vu _) _).alloc Wa _).alloc Wf _).alloc Wf _)).drew
end
section
open Kp
attribute [local go_sem] aM fC fH iy gU iA ik gW gV im gY eP eN eV eK eY eR eQ er eu ey eh ej dY eT eO eU eS eI eM eJ eX fm fu ft fo dX eZ
def sU{p:Prop}(h:p:=by
  subst hr;have qside:=λW=>Ck a b W
  have gside:prog.eqGuardType prog.depth 54=Vw:=V8;have qopn:=λW=>F7 a b W
  have gopn:prog.eqGuardType prog.depth 57=Vw:=V8;have qsize:=λW=>AQ a b W
  have gsize:prog.eqGuardType prog.depth 59=Vw:=V8;have qload:=λW=>CI a b W
  have gload:prog.eqGuardType prog.depth 64=Vw:=V8;have qalw:=λW=>FQ a b W
  have galw:prog.eqGuardType prog.depth 66=Vw:=V8;have qtile:=λW=>Cu a b W
  have gtile:prog.eqGuardType prog.depth 30=Vw:=V8;go_wp2_with(go_at_call 29;go_must(refine cg.o.mono ?_);rintro r W2 ⟨rfl,hB2⟩;have EA2:=Vs (EA.o.below hB2 lta);have EB2:=Vs (EB.o.below hB2 ltb);have eca2:=λi=>EA2.o.cell i;have ecb2:=λi=>EB2.o.cell i)
  go_ret
  first|exact⟨rfl,HLOW.o.trans (hB2.mono V7)⟩|exact⟨rfl,HLOW.o⟩):p:=h
end
end Go.Proofs.YtmliacdegmklaaaGreatDoor
