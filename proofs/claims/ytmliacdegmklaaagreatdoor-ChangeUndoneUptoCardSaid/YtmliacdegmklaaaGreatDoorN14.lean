/- ChangeUndone of kingpostlaw58: part 14 of its proof (merged and shortened by program). -/
import Derived.Deep.AppendLies
import Derived.Deep.RegionLaw
import Derived.Lib.SliceRun
import Derived.Shelf.RegionOpenPlain
import Derived.Lib.AppendZerosOnto
import Derived.Lib.Overlaps
import Derived.Shelf.Spec.SlicesInsert
import Derived.Shelf.Spec.SlicesInsertGrow
import Derived.Test.YtmliacdegmklaaaGreatDoorN04
import Derived.Test.YtmliacdegmklaaaGreatDoorN05
set_option linter.unusedVariables false
set_option linter.unusedSimpArgs false
set_option linter.defProp false
set_option maxHeartbeats 8000000
set_option maxRecDepth 100000
open Go.RowKit Go.Shelf Go.Proofs.Tryz
open Array renaming getElem?_eq_some_iff→VF
open Bool renaming false→Vw,true→VD
open Go renaming World→Vt,Value→Vy,undef→VB,wpOp_step→VE,Calls→VJ,maxLen→VP,TypeId→VR,Addr→VT
open Go.AllReady renaming cons→VO,nil→VU
open Go.Ending renaming returned→V0
open Go.IntKind renaming i64→VH
open Go.IntWalk renaming i64_in→VQ
open Go.Lib renaming hid→Vs
open Go.RowKit renaming intOf→VN,Below→VS
open Go.Value renaming slice→VV,string→VW,bool→VX,pointer→VY,int→VZ,agg→V5,tuple→V6
open Go.World renaming alloc_heap_new→VG,size_alloc→VK
open List renaming getD_eq_getElem?_getD→Vv,getElem?_eq_getElem→VA,length_map→VC,length_append→VM,length→ln
open Nat renaming le_refl→Vu,le_trans→VI,mul_comm→VL
open Option renaming none→Vx,some→Vz
open Go.Proofs.YtmliacdegmklaaaGreatDoor
variable{cur X:Array Vy}{z y:ByteArray}{ts:List ByteArray}{x xs vs L:List Vy}{k cap m i a b:Nat}{A:Option VT}{p:Prop}{α:Type}{e E t:VR}{w:Vt}
namespace Go.Proofs.YtmliacdegmklaaaGreatDoor
section
open Kp
def jG(rows:List (List Vy)):Prop:=∀r∈rows,∀u∈r,u.oneCell'=VD
def jG.flat{rows:List (List Vy)}(h:jG rows):∀u∈rows.flatten,u.oneCell'=VD:=by
 intro u hu;obtain⟨r,hr,hur⟩:=List.mem_flatten.1 hu;exact h r hr u hur
theorem bJ.NN{B cap:Nat}{rows:List (List Vy)}(h:bJ k w B Vx cap rows):rows=[]:=by
 cases rows with
 |nil=>rfl
 |cons r l=>
  obtain⟨b,off,e,_⟩:=h.2.2 Wa;cases e
theorem bJ.Rs{B:Nat}{p:VT}{rows:List (List Vy)}(h:bJ k w B (Vz p) cap rows)(hw:de k rows)(hk:0<k):
  ∀j u,rows.flatten[j]?=Vz u->w.cell? (p.add j)=Vz u:=by
 intro j u hj;have hpos:0<ln rows:=by
  cases rows with
  |nil=>simp at hj
  |cons=>simp
 obtain⟨b,off,e,_⟩:=id (h.2.2 hpos);cases e;exact h.cells hw hk j u hj
def Qe(f:FuncId)(t:VR)(k:Nat):Prop:=∀(w:Vt) (A:Option VT) (cap:Nat) (rows:List (List Vy)),bJ k w w.heap.size A cap rows->de k rows->jG rows->ln rows<=1000000->
  VJ prog f #[VV A (ln rows) cap] w λe w'=>∃v,e=V0 v/\w'.ownsRow w.heap.size t k v (ln rows) rows.flatten/\Ext w w'
theorem jX(h:p:=by
  have q:=λ(w:Vt) (a:Option VT) (n c n' c':Nat)=>Lib.run_eql_slice_nil w _ _ a n c n' c' U
  cases A with
  |none=>
   have:=hr.NN;subst this;clear hr hw h1 hlen;go_wp2;go_ret;exact⟨_,rfl,⟨rfl,.inl ⟨rfl,rfl⟩⟩,Ext.aC _⟩
  |some p=>
   have hnews:=Vs (hr.Rs hw V9);have hfl:=Vs (bt hw);have hone:=Vs h1.flat;clear hr hw h1;go_wp2_with(at_builtin;refine wpList_append_own _ rfl _ _ _ rfl w.heap.size _ i0 _ _ _ U hi hz0 hz1 hz2 rfl V9 _ _ _ rfl (Vt.ownsRow_made w #[] 0 (Vu _) (Nat.zero_le _) rfl) p (ln rows) cap rows.flatten rfl hfl.o ?qc2 hone.o ?qc4 ?qc5 ?qc6 ?_)
   case qc2=>
    intro j u hj;have:=hnews.o j u hj;revert this;obtain⟨b,off,x⟩:=p;intro this;exact Lib.cell?_alloc_some _ this
   case qc4=>unfold VP;omega
   case qc5=>omega
   case qc6=>simp
   intro v' w1 hown hgrow hnil;go_wp2;go_ret;refine⟨v',rfl,by simpa using hown,?_⟩;exact((Below.refl _ w).alloc (Vu _) _).grown hgrow Wa (by intro q hq;simp[Value.ownBlock] at hq;omega)):p:=h
def MG:(prog.info? 54).map (λi=>(i.zero,i.size,i.bytes))=Vz (Vz (V5 #[VZ VH 0,VZ VH 0,VZ VH 0,VZ VH 0,VX Vw,VZ VH 0,VZ VH 0]),7,56):=V8
def Ok:Qe 149 54 7:=by
 intro w A cap rows hr hw h1 hlen;obtain⟨i0,hi,hz0,hz1,hz2⟩:=info_parts MG;have U:=underlying80;go_enter func149,ntmps149;exact jX
def nY:(prog.info? 3).map (λi=>(i.zero,i.size,i.bytes))=Vz (Vz (VZ VH 0),1,8):=V8
def FP:Qe 152 3 1:=by
 intro w A cap rows hr hw h1 hlen;obtain⟨i0,hi,hz0,hz1,hz2⟩:=info_parts nY;have U:=underlying25;go_enter func152,ntmps152;exact jX
def uk:(prog.info? 57).map (λi=>(i.zero,i.size,i.bytes))=Vz (Vz (V5 #[VZ VH 0,VW {data:=#[]},VW {data:=#[]},VW {data:=#[]},VW {data:=#[]}]),5,72):=V8
def Ge:Qe 153 57 5:=by
 intro w A cap rows hr hw h1 hlen;obtain⟨i0,hi,hz0,hz1,hz2⟩:=info_parts uk;have U:=underlying26;go_enter func153,ntmps153;exact jX
def tQ:(prog.info? 59).map (λi=>(i.zero,i.size,i.bytes))=Vz (Vz (V5 #[VZ VH 0,VZ VH 0,VZ VH 0]),3,24):=V8
def GH:Qe 213 59 3:=by
 intro w A cap rows hr hw h1 hlen;obtain⟨i0,hi,hz0,hz1,hz2⟩:=info_parts tQ;have U:=underlying27;go_enter func213,ntmps213;exact jX
def uB:(prog.info? 62).map (λi=>(i.zero,i.size,i.bytes))=Vz (Vz (V5 #[VZ VH 0,VZ VH 0,VZ VH 0,VZ VH 0,VZ VH 0,VV Vx 0 0]),6,64):=V8
def Ga:Qe 157 62 6:=by
 intro w A cap rows hr hw h1 hlen;obtain⟨i0,hi,hz0,hz1,hz2⟩:=info_parts uB;have U:=underlying28;go_enter func157,ntmps157;exact jX
def uR:(prog.info? 64).map (λi=>(i.zero,i.size,i.bytes))=Vz (Vz (V5 #[VZ VH 0,VZ VH 0,VW {data:=#[]}]),3,32):=V8
def GC:Qe 158 64 3:=by
 intro w A cap rows hr hw h1 hlen;obtain⟨i0,hi,hz0,hz1,hz2⟩:=info_parts uR;have U:=underlying31;go_enter func158,ntmps158;exact jX
def om:(prog.info? 66).map (λi=>(i.zero,i.size,i.bytes))=Vz (Vz (V5 #[VZ VH 0,VZ VH 0,VZ VH 0,VZ VH 0,VZ VH 0]),5,40):=V8
def F9:Qe 159 66 5:=by
 intro w A cap rows hr hw h1 hlen;obtain⟨i0,hi,hz0,hz1,hz2⟩:=info_parts om;have U:=underlying32;go_enter func159,ntmps159;exact jX
end
section
open Kp
def eC(n:Nat)(i:Int):Int:=if 0<=i/\i<=(n:Int) then 0 else 6
def cF{α:Type}(l:List α)(i:Int)(x:α):List α:=if i=(ln l:Int) then l++[x] else l.set i.toNat x
theorem Kl{rows:List (List Vy)}(hw:de k rows)(hx:ln x=k)(m:Nat):de k (rows.set m x):=by
 intro r hr;rcases List.mem_or_eq_of_mem_set hr with h|h
 ·exact hw r h
 ·subst h;exact hx
theorem qT{rows:List (List Vy)}(hw:de k rows)(hm:m<=ln rows):rows.flatten.take (m*k)=(rows.take m).flatten:=by
 have e:rows.flatten=(rows.take m).flatten++(rows.drop m).flatten:=Xv;have hl:(rows.take m).flatten.length=m*k:=by
  exact ZB
 rw[e,List.take_left' hl]
theorem j7{rows:List (List Vy)}(hw:de k rows)(hm:m<=ln rows):rows.flatten.drop (m*k)=(rows.drop m).flatten:=by
 have e:rows.flatten=(rows.take m).flatten++(rows.drop m).flatten:=Xv;have hl:(rows.take m).flatten.length=m*k:=by
  exact ZB
 rw[e,List.drop_left' hl]
theorem Nc{rows:List (List Vy)}(hw:de k rows)(hm:m<ln rows)(x:List Vy):
  (rows.set m x).flatten=rows.flatten.take (m*k)++x++rows.flatten.drop (m*k+k):=by
 rw[List.set_eq_take_append_cons_drop,if_pos hm,List.flatten_append,List.flatten_cons,qT hw (Nat.le_of_lt hm),<-Nat.succ_mul,j7 hw hm,List.append_assoc]
theorem mO{base k n g cap m:Nat}{rows:List (List Vy)}(hb:base<=g)(hh:w.heap[g]?=Vz (.cells cur e (0,0)))(h1:n<=cap)(h2:cap<=VP)
  (h3:cur.size=cap*k)(h4:cur.toList.take (n*k)=rows.flatten)(hn:ln rows=n)(hw:de k rows)(hx:ln x=k)(hm:m<n):
  (w.setRow g (putAt cur (m*k) x.toArray)).ownsRow base e k (VV (Vz ⟨g,0,Vx⟩) n cap) n (rows.set m x).flatten:=by
 subst hn;have hmk:m*k+k<=ln rows*k:=by rw[<-Nat.succ_mul];exact Nat.mul_le_mul_right k hm
 have hck:ln rows*k<=cap*k:=Nat.mul_le_mul_right k h1;have hL:cur.toList=rows.flatten++cur.toList.drop (ln rows*k):=by rw[<-h4,List.take_append_drop]
 have hF:ln rows.flatten=ln rows*k:=bt hw;have hsz:ln cur.toList=cap*k:=by simp[h3]
 refine⟨by rw[bt (Kl hw hx m),List.length_set],.inr ⟨g,cap,_,rfl,hb,setRow_heap hh _,h1,h2,?_,?_⟩⟩
 ·unfold putAt;simp only[List.size_toArray,VM,List.length_take,List.length_drop,hsz,hx];omega
 ·unfold putAt;rw[Nc hw hm];simp only[Nat.add_zero];rw[hx];generalize cur.toList.drop (ln rows*k)=D at hL;have e1:(rows.flatten++D).take (m*k)=rows.flatten.take (m*k):=List.take_append_of_le_length V7;have e2:(rows.flatten++D).drop (m*k+k)=rows.flatten.drop (m*k+k)++D:=List.drop_append_of_le_length V7;rw[hL,e1,e2,<-List.append_assoc,List.take_left'];simp only[VM,List.length_take,List.length_drop,hx,hF];omega
end
section
open Kp
def PY(A:Option VT)(n cap B k:Nat)(E:VR)(rows:List (List Vy))(x:List Vy)(i:Nat)(v:Vy)(W:Vt):Prop:=
 match i with
 |0=>v=VV A n cap
 |1=>W.ownsRow B E k v n rows.flatten
 |2=>v=V5 x.toArray
 |_=>∃g,v=VV (Vz ⟨g,0,Vx⟩) 1 1/\ai W g E x
theorem kH{base n s:Nat}{v:Vy}(h:w.ownsRow base e s v n xs)(hn:0<n):
  ∃g cap cur,v=VV (Vz ⟨g,0,Vx⟩) n cap/\base<=g/\w.heap[g]?=Vz (.cells cur e (0,0))/\n<=cap/\cap<=VP/\cur.size=cap*s/\cur.toList.take (n*s)=xs:=by
 obtain⟨_,⟨_,h0⟩|⟨g,cap,cur,h⟩⟩:=h
 ·omega
 ·exact⟨g,cap,cur,h⟩
theorem dA{base base' n s:Nat}{v:Vy}(h:w.ownsRow base e s v n xs)(hb:base'<=base):w.ownsRow base' e s v n xs:=by
 obtain⟨hl,h0|⟨g,cap,cur,e,h1,h2⟩⟩:=h
 ·exact YN
 ·exact⟨hl,.inr ⟨g,cap,cur,e,VI hb h1,h2⟩⟩
theorem sO{n cap B k:Nat}{rows:List (List Vy)}{v:Vy}{W W':Vt}(h:PY A n cap B k E rows x i v W)(hx:Ext W W'):PY A n cap B k E rows x i v W':=by
 rcases(show i=0\/i=1\/i=2\/3<=i by omega) with rfl|rfl|rfl|hi
 ·exact h
 ·exact aO h hx
 ·exact h
 ·obtain⟨j,rfl⟩:∃j,i=j+3:=⟨i-3,V7⟩;obtain⟨g,e,hr⟩:=h;exact⟨g,e,hr.ext hx⟩
def Sm(A:Option VT)(n cap:Nat)(i:Int)(X:Vy)(g:Nat)(vs:Nat->Vy):Act:=⟨#[VV A n cap,VZ VH i,X,VB,VB,VY (Vz ⟨g,0,Vx⟩),VV Vx 0 0,VZ VH 0,VB,
 VX Vw,VZ VH i,VX Vw,VX Vw,VZ VH i,VV A n cap,VZ VH (n:Int),VX Vw,VX Vw,VX VD,VZ VH i,VV A n cap,VZ VH (n:Int),
 VX VD,vs 0,vs 1,vs 2,vs 3,VB,VB,VB,VB,VB,VB,VB,VB],[]⟩
def zH(w:Vt)(x:List Vy)(t:VR):∃W0,Hid (w.alloc (.cells x.toArray t)=W0)/\Hid (Ext w W0)/\Hid (ai W0 w.heap.size t x):=⟨_,Vs rfl,Vs ((Below.refl _ _).alloc (Vu _) _),Vs (ai.new w _ _)⟩
def qs{rows:List (List Vy)}{i:Int}(x:List Vy)(h:i=(ln rows:Int)):cF rows i x=rows++[x]:=if_pos h
theorem Nr{rows:List (List Vy)}(x:List Vy)(h:¬(m:Int)=(ln rows:Int)):cF rows (m:Int) x=rows.set m x:=if_neg h
theorem zB(h:p:=by
  obtain rfl:=HW0.o;rw[show eC (ln rows) i=6 from if_neg hi];by_cases hi0:i<0
  ·have t1:decide (i<0)=VD:=decide_eq_true hi0;clear hi hi0;go_wp2;go_ret2;exact⟨_,⟨_,_,_,rfl⟩,rfl,E0.o⟩
  ·have t1:decide (i<0)=Vw:=decide_eq_false hi0;have t2:decide (i>(ln rows:Int))=VD:=decide_eq_true V7;clear hi hi0;go_wp2;go_ret2;exact⟨_,⟨_,_,_,rfl⟩,rfl,E0.o⟩):p:=h
def Ku{m n cap k s:Nat}(hm:m<n)(h1:n<=cap)(hs:s=cap*k):m*k+k<=s:=by
 rw[hs,<-Nat.succ_mul];exact Nat.mul_le_mul_right k V7
theorem yS(h:p:=by
  obtain rfl:=HW0.o;have t3:(i==(ln rows:Int))=Vw:=beq_eq_false_iff_ne.2 hi2;obtain⟨m,rfl⟩:∃m:Nat,i=(m:Int):=⟨i.toNat,V7⟩;have hm:m<ln rows:=V7;rw[Nr _ hi2];have HW:=Vs hw;clear hi hi2 hw;have H1:=Vs hx1;go_wp2_with(first
   |(refine dW rfl _ _ _ rfl _ _ _ rfl rfl _ _ HH.o V8 HS.o (by simpa using H1.o) ?_)
   |(refine(KC.o _ E0.o).mono ?_;rintro e W1 ⟨v,rfl,ho,hX⟩;obtain⟨g,cp,cur,rfl,hb,hh,q1,q2,q3,q4⟩:=kH ho V7;have HH:=Vs hh;have HQ:=Vs q3;have HF:=Vs q4;have cR:=λi=>(R0.o.ext hX).cell i;have HX:=Vs (E0.o.tr hX);have HB:=Vs hb;have HS:=Vs (Ku hm q1 q3);clear ho hh q3 q4 hX hb))
  go_ret2;refine⟨_,⟨_,_,_,rfl⟩,rfl,?_,?_⟩
  ·exact mO (VI E0.o.size HB.o) HH.o q1 q2 HQ.o HF.o rfl HW.o rfl hm
  ·exact ah HX.o (VI E0.o.size HB.o) _):p:=h
theorem sM(h:p:=by
  intro i vs w' hi hD hd;unfold Sm;have cA:=λi=>(R0.o.ext hD).cell i
  rcases(show i=0\/i=1\/i=2\/i=3 by omega) with rfl|rfl|rfl|rfl<;>clear hi
  ·exact YZ
  ·refine VE rfl (λK hK=> ?_);have d0:=hd 0 V8;simp only[PY] at d0;have hE:=Vs (E0.o.tr hD);go_simp;refine(KC.o _ hE.o).mono ?_;rintro e W1 ⟨v,rfl,ho,hX⟩;exact hK _ _ ⟨v,by simp[d0],hX,dA ho hE.o.size,λh=>Wb⟩
  ·exact YZ
  ·refine VE rfl (λK hK=> ?_);have d2:=hd 2 V8;simp only[PY] at d2;go_simp;exact hK _ _ ⟨_,by simp[d2],(Below.refl _ _).alloc (Vu _) _,⟨_,rfl,ai.new _ _ _⟩,λh=>Wb⟩):p:=h
theorem tB(h:p:=by
  intro vs w' hD hV _;have v1:=hV 1 V7;obtain⟨g,v3,r3⟩:=hV 3 V7;simp only[PY] at v1;have HO:=Vs v1;have RG:=Vs r3;have HX:=Vs (E0.o.tr hD);have hone:=Vs (List.all_eq_true.1 hx1);clear hV v1 r3 hD hx1;unfold Sm;simp only[v3,List.drop_succ_cons,List.drop_zero];refine wpList_append_own _ rfl _ _ _ rfl w.heap.size _ i0 _ _ _ U I0.o I1.o I2.o I3.o rfl V9 _ _ _ rfl HO.o ⟨g,0,Vx⟩ 1 1 _ rfl rfl (Vt.news_of_block (t:=_) (fr:=(0,0)) RG.o) hone.o Wh V7 HX.o.size ?_;intro v' w1 hown hgrow hnil;go_wp2;go_ret2;exact⟨v',ng.of hown,rfl,by simpa using hown,ei HX.o hgrow (λq hq=>(az HO.o q hq).1)⟩):p:=h
def Nw(w:Vt)(A:Option VT)(cap:Nat)(rows:List (List Vy))(x0 x1 x2 x3 x4:Vy)(i:Int)(hr:bJ 5 w w.heap.size A cap rows)(hw:de 5 rows)(h1:jG rows)(hx1:[x0,x1,x2,x3,x4].all (·.oneCell')=VD)(hlen:ln rows<=1000000):
  VJ prog 92 #[VV A (ln rows) cap,VZ VH i,V5 #[x0,x1,x2,x3,x4]] w λe w'=>∃v,ng v/\e=V0 (V6 #[v,VZ VH (eC (ln rows) i)])/\(eC (ln rows) i=0->w'.ownsRow w.heap.size 57 5 v (cF rows i [x0,x1,x2,x3,x4]).length (cF rows i [x0,x1,x2,x3,x4]).flatten)/\Ext w w':=by
 obtain⟨W0,HW0,E0,R0⟩:=zH w [x0,x1,x2,x3,x4] 57;have HR:=Vs hr;clear hr;go_enter func92,ntmps92;by_cases hi:0<=i/\i<=(ln rows:Int)
 case neg=>exact zB
 have t1:decide (i<0)=Vw:=decide_eq_false V7;have t2:decide (i>(ln rows:Int))=Vw:=decide_eq_false V7;rw[show eC (ln rows) i=0 from if_pos hi];have KC:=Vs (λ(W:Vt) (h:Ext w W)=>Ge W A cap rows ((HR.o.below h).more h.size) hw h1 hlen);by_cases hi2:i=(ln rows:Int)
 case neg=>exact yS
 have t3:(i==(ln rows:Int))=VD:=beq_iff_eq.2 hi2;rw[qs _ hi2];obtain⟨i0,hI,hz0,hz1,hz2⟩:=info_parts uk;have I0:=Vs hI;have I1:=Vs hz0;have I2:=Vs hz1;have I3:=Vs hz2;have U:=underlying26;clear hI hz0 hz1 hz2 hi hi2;go_wp2_with fail
 rw[HW0.o];refine wp_region_any V8 (bO 4 (Sm A (ln rows) cap i (V5 #[x0,x1,x2,x3,x4]) w.heap.size) (λw'=>Ext W0 w') (PY A (ln rows) cap w.heap.size 5 57 rows [x0,x1,x2,x3,x4]) (λ_=>Vw) V8 (λ_ _ h k=>h.tr k) (λi v _ _ h k=>sO h k) (λ_ _ _ _ h=>Wb) ?_ ?_ (λ_=>VB) _ (Ext.dr W0))
 ·exact sM
 ·exact tB
def JP(w:Vt)(A:Option VT)(cap:Nat)(rows:List (List Vy))(x0 x1 x2:Vy)(i:Int)(hr:bJ 3 w w.heap.size A cap rows)(hw:de 3 rows)(h1:jG rows)(hx1:[x0,x1,x2].all (·.oneCell')=VD)(hlen:ln rows<=1000000):
  VJ prog 156 #[VV A (ln rows) cap,VZ VH i,V5 #[x0,x1,x2]] w λe w'=>∃v,ng v/\e=V0 (V6 #[v,VZ VH (eC (ln rows) i)])/\(eC (ln rows) i=0->w'.ownsRow w.heap.size 59 3 v (cF rows i [x0,x1,x2]).length (cF rows i [x0,x1,x2]).flatten)/\Ext w w':=by
 obtain⟨W0,HW0,E0,R0⟩:=zH w [x0,x1,x2] 59;have HR:=Vs hr;clear hr;go_enter func156,ntmps156;by_cases hi:0<=i/\i<=(ln rows:Int)
 case neg=>exact zB
 have t1:decide (i<0)=Vw:=decide_eq_false V7;have t2:decide (i>(ln rows:Int))=Vw:=decide_eq_false V7;rw[show eC (ln rows) i=0 from if_pos hi];have KC:=Vs (λ(W:Vt) (h:Ext w W)=>GH W A cap rows ((HR.o.below h).more h.size) hw h1 hlen);by_cases hi2:i=(ln rows:Int)
 case neg=>exact yS
 have t3:(i==(ln rows:Int))=VD:=beq_iff_eq.2 hi2;rw[qs _ hi2];obtain⟨i0,hI,hz0,hz1,hz2⟩:=info_parts tQ;have I0:=Vs hI;have I1:=Vs hz0;have I2:=Vs hz1;have I3:=Vs hz2;have U:=underlying27;clear hI hz0 hz1 hz2 hi hi2;go_wp2_with fail
 rw[HW0.o];refine wp_region_any V8 (bO 4 (Sm A (ln rows) cap i (V5 #[x0,x1,x2]) w.heap.size) (λw'=>Ext W0 w') (PY A (ln rows) cap w.heap.size 3 59 rows [x0,x1,x2]) (λ_=>Vw) V8 (λ_ _ h k=>h.tr k) (λi v _ _ h k=>sO h k) (λ_ _ _ _ h=>Wb) ?_ ?_ (λ_=>VB) _ (Ext.dr W0))
 ·exact sM
 ·exact tB
def MI(w:Vt)(A:Option VT)(cap:Nat)(rows:List (List Vy))(x0 x1 x2 x3 x4 x5:Vy)(i:Int)(hr:bJ 6 w w.heap.size A cap rows)(hw:de 6 rows)(h1:jG rows)(hx1:[x0,x1,x2,x3,x4,x5].all (·.oneCell')=VD)(hlen:ln rows<=1000000):
  VJ prog 95 #[VV A (ln rows) cap,VZ VH i,V5 #[x0,x1,x2,x3,x4,x5]] w λe w'=>∃v,ng v/\e=V0 (V6 #[v,VZ VH (eC (ln rows) i)])/\(eC (ln rows) i=0->w'.ownsRow w.heap.size 62 6 v (cF rows i [x0,x1,x2,x3,x4,x5]).length (cF rows i [x0,x1,x2,x3,x4,x5]).flatten)/\Ext w w':=by
 obtain⟨W0,HW0,E0,R0⟩:=zH w [x0,x1,x2,x3,x4,x5] 62;have HR:=Vs hr;clear hr;go_enter func95,ntmps95;by_cases hi:0<=i/\i<=(ln rows:Int)
 case neg=>exact zB
 have t1:decide (i<0)=Vw:=decide_eq_false V7;have t2:decide (i>(ln rows:Int))=Vw:=decide_eq_false V7;rw[show eC (ln rows) i=0 from if_pos hi];have KC:=Vs (λ(W:Vt) (h:Ext w W)=>Ga W A cap rows ((HR.o.below h).more h.size) hw h1 hlen);by_cases hi2:i=(ln rows:Int)
 case neg=>exact yS
 have t3:(i==(ln rows:Int))=VD:=beq_iff_eq.2 hi2;rw[qs _ hi2];obtain⟨i0,hI,hz0,hz1,hz2⟩:=info_parts uB;have I0:=Vs hI;have I1:=Vs hz0;have I2:=Vs hz1;have I3:=Vs hz2;have U:=underlying28;clear hI hz0 hz1 hz2 hi hi2;go_wp2_with fail
 rw[HW0.o];refine wp_region_any V8 (bO 4 (Sm A (ln rows) cap i (V5 #[x0,x1,x2,x3,x4,x5]) w.heap.size) (λw'=>Ext W0 w') (PY A (ln rows) cap w.heap.size 6 62 rows [x0,x1,x2,x3,x4,x5]) (λ_=>Vw) V8 (λ_ _ h k=>h.tr k) (λi v _ _ h k=>sO h k) (λ_ _ _ _ h=>Wb) ?_ ?_ (λ_=>VB) _ (Ext.dr W0))
 ·exact sM
 ·exact tB
def Le(w:Vt)(A:Option VT)(cap:Nat)(rows:List (List Vy))(x0 x1 x2:Vy)(i:Int)(hr:bJ 3 w w.heap.size A cap rows)(hw:de 3 rows)(h1:jG rows)(hx1:[x0,x1,x2].all (·.oneCell')=VD)(hlen:ln rows<=1000000):
  VJ prog 99 #[VV A (ln rows) cap,VZ VH i,V5 #[x0,x1,x2]] w λe w'=>∃v,ng v/\e=V0 (V6 #[v,VZ VH (eC (ln rows) i)])/\(eC (ln rows) i=0->w'.ownsRow w.heap.size 64 3 v (cF rows i [x0,x1,x2]).length (cF rows i [x0,x1,x2]).flatten)/\Ext w w':=by
 obtain⟨W0,HW0,E0,R0⟩:=zH w [x0,x1,x2] 64;have HR:=Vs hr;clear hr;go_enter func99,ntmps99;by_cases hi:0<=i/\i<=(ln rows:Int)
 case neg=>exact zB
 have t1:decide (i<0)=Vw:=decide_eq_false V7;have t2:decide (i>(ln rows:Int))=Vw:=decide_eq_false V7;rw[show eC (ln rows) i=0 from if_pos hi];have KC:=Vs (λ(W:Vt) (h:Ext w W)=>GC W A cap rows ((HR.o.below h).more h.size) hw h1 hlen);by_cases hi2:i=(ln rows:Int)
 case neg=>exact yS
 have t3:(i==(ln rows:Int))=VD:=beq_iff_eq.2 hi2;rw[qs _ hi2];obtain⟨i0,hI,hz0,hz1,hz2⟩:=info_parts uR;have I0:=Vs hI;have I1:=Vs hz0;have I2:=Vs hz1;have I3:=Vs hz2;have U:=underlying31;clear hI hz0 hz1 hz2 hi hi2;go_wp2_with fail
 rw[HW0.o];refine wp_region_any V8 (bO 4 (Sm A (ln rows) cap i (V5 #[x0,x1,x2]) w.heap.size) (λw'=>Ext W0 w') (PY A (ln rows) cap w.heap.size 3 64 rows [x0,x1,x2]) (λ_=>Vw) V8 (λ_ _ h k=>h.tr k) (λi v _ _ h k=>sO h k) (λ_ _ _ _ h=>Wb) ?_ ?_ (λ_=>VB) _ (Ext.dr W0))
 ·exact sM
 ·exact tB
end
section
open Kp
theorem zo{g o:Nat}(hh:w.heap[g]?=Vz (.cells cur t (0,0)))(h:o+ln vs<=cur.size)(h1:∀v∈vs,v.oneCell'=VD):
  w.setCells g o vs=w.setRow g (putAt cur o vs.toArray):=by
 have e1:=run_storeCells_cells (P:=prog) g o vs 0 w (λj hj=>by simp[World.cell?,hh];omega) (λj hj=>by simp[World.frozen?,hh]) h1;have e2:=run_storeCells_at (P:=prog) g o t vs 0 cur w hh V7 h1;rw[e1] at e2;have:=(Result.ok.inj e2).2;simpa[putAt] using this
theorem wN(w:Vt)(t e ty:VR)(z:Vy)(i0:TypeInfo)(ht:prog.underlying t=Vz (.slice e))(hi:prog.info? e=Vz i0)(hz:i0.zero=Vz z)(h1:z.cells.all (·.oneCell')=VD)(g o c:Nat)(cur:Array Vy)
  (hh:w.heap[g]?=Vz (.cells cur e (0,0)))(ho:o+z.cells.size≤cur.size):
  (Builtin.clear_ #[t] ty #[.slice (Vz ⟨g,o,Vx⟩) 1 c]).run prog w= .ok (.tuple #[]) (w.setRow g (putAt cur o z.cells)):=by
 have hzc:Builtin.zeroCells z.cells 1=z.cells:=by
  apply Array.ext
  ·simp[Builtin.zeroCells]
  ·intro i h1 h2
   simp[Builtin.zeroCells,Nat.mod_eq_of_lt h2]
   exact getElem!_pos z.cells i h2
 have hst:=run_storeCells_at (P:=prog) g o e z.cells.toList 0 cur w hh (by simpa using ho) (fun v hv=>(Array.all_eq_true_iff_forall_mem.1 h1) v (by simpa using hv))
 have hv:(zeroValue e).run prog w= .ok z w:=by simp[zeroValue,typeInfo,hi,hz]
 unfold putAt
 simp[Builtin.clear_,run_underlying ht,hv,hzc] at hst⊢
 simp[hst]
theorem Eg{rows:List (List Vy)}(hw:de k rows)(m:Nat):de k (rows.eraseIdx m):=λr hr=>hw r (List.mem_of_mem_eraseIdx hr)
theorem Jf{k n cap m:Nat}{rows:List (List Vy)}{z:Array Vy}(h1:n<=cap)(h3:cur.size=cap*k)(h4:cur.toList.take (n*k)=rows.flatten)(hn:ln rows=n)(hw:de k rows)(hm:m<n)(hz:z.size=k):
  (putAt (putAt cur (m*k) (rows.drop (m+1)).flatten.toArray) ((n-1)*k) z).size=cap*k/\(putAt (putAt cur (m*k) (rows.drop (m+1)).flatten.toArray) ((n-1)*k) z).toList.take ((n-1)*k)=(rows.eraseIdx m).flatten:=by
 subst hn;have hd:(rows.drop (m+1)).flatten.length=(ln rows-(m+1))*k:=by rw[bt (λr hr=>hw r (List.mem_of_mem_drop hr)),List.length_drop]
 have hF:ln rows.flatten=ln rows*k:=bt hw;have hsz:ln cur.toList=cap*k:=by simp[h3]
 have hck:ln rows*k<=cap*k:=Nat.mul_le_mul_right k h1;obtain⟨p,hp⟩:∃p,ln rows=m+1+p:=⟨ln rows-(m+1),V7⟩;have e1:ln rows-(m+1)=p:=V7;have e2:ln rows-1=m+p:=V7;have e3:ln rows*k=m*k+k+p*k:=by rw[hp,Nat.add_mul,Nat.add_mul,Nat.one_mul]
 have e4:(m+p)*k=m*k+p*k:=Nat.add_mul _ _ _;rw[e1] at hd;rw[e2,e4];have s1:(putAt cur (m*k) (rows.drop (m+1)).flatten.toArray).toList.length=cap*k:=by
  unfold putAt;simp only[VM,List.length_take,List.length_drop,hsz,hd];omega
 refine⟨?_,?_⟩
 ·unfold putAt at s1⊢;simp only[List.size_toArray,VM,List.length_take,List.length_drop,s1] at s1⊢;simp only[Array.length_toList,hz];omega
 ·have e5:(rows.eraseIdx m).flatten=rows.flatten.take (m*k)++(rows.drop (m+1)).flatten:=by
   rw[List.eraseIdx_eq_take_drop_succ,List.flatten_append,qT hw V7]
  have e6:rows.flatten.take (m*k)=cur.toList.take (m*k):=by rw[<-h4,List.take_take,Nat.min_eq_left V7]
  rw[e5,e6];generalize hY:putAt cur (m*k) (rows.drop (m+1)).flatten.toArray=Y at s1⊢;have e7:(putAt Y (m*k+p*k) z).toList.take (m*k+p*k)=Y.toList.take (m*k+p*k):=by
   unfold putAt;simp only[Nat.add_zero,List.append_assoc];rw[List.take_append_of_le_length (by rw[List.length_take,s1];omega),List.take_take,Nat.min_self]
  rw[e7,<-hY];unfold putAt;simp only[Nat.add_zero];rw[List.take_left'];simp only[VM,List.length_take,hsz,hd];omega
end
section
open Kp
def dV(n:Nat)(i:Int):Int:=if 0<=i/\i<(n:Int) then 0 else 6
theorem oC{t s:VR}{z:Vy}{k:Nat}{i0:TypeInfo}(U:prog.underlying s=Vz (.slice t))(hi:prog.info? t=Vz i0)(hz0:i0.zero=Vz z)(hk:z.cells.size=k)(hz:z.cells.all (·.oneCell')=VD){w:Vt}{g n cap m j:Nat}{cur:Array Vy}{rows:List (List Vy)}
  (hh:w.heap[g]?=Vz (.cells cur t (0,0)))(h1:n≤cap)(h3:cur.size=cap*k)(h4:cur.toList.take (n*k)=rows.flatten)(hn:rows.length=n)(hw:de k rows)(ho:jG rows)(hm:m<n)(hj:j=m+1):
  ∃news A W1 D,(if cap=j then(Vz ⟨g,0,Vx⟩:Option VT) else Vz ⟨g,j*k,Vx⟩)=Vz A∧Hid (news.length=(n-j)*k)∧Hid (∀t u,news[t]?=Vz u→w.drew.cell? (A.add t)=Vz u)∧Hid (∀u∈news,u.oneCell'=VD)∧
   Hid (∀t,t<news.length→(w.drew.cell? ⟨g,0+m*k+t,Vx⟩).isSome=VD∧w.drew.frozen? ⟨g,0+m*k+t,Vx⟩=Vw)∧Hid (w.drew.setCells g (0+m*k) news=W1)∧
   (∀ty,(Builtin.clear_ #[s] ty #[.slice (Vz ⟨g,(m+(n-j))*k,Vx⟩) (n-(m+(n-j))) (cap-(m+(n-j)))]).run prog W1= .ok (.tuple #[]) (W1.setRow g D))∧
   Hid (VS g w W1)∧(∃C,Hid (W1.heap[g]?=Vz (.cells C t (0,0))))∧Hid (D.size=cap*k∧D.toList.take ((n-1)*k)=(rows.eraseIdx m).flatten):=by
 subst hj
 obtain⟨p,rfl⟩:∃p,n=m+1+p:=⟨n-(m+1),by omega⟩
 have e1:m+1+p-(m+1)=p:=by omega
 have e2:m+1+p-(m+p)=1:=by omega
 have e3:m+1+p-1=m+p:=by omega
 have a1:(m+1+p)*k=m*k+k+p*k:=by rw[Nat.add_mul,Nat.add_mul,Nat.one_mul]
 have a2:(m+1)*k=m*k+k:=by rw[Nat.add_mul,Nat.one_mul]
 have a3:(m+p)*k=m*k+p*k:=Nat.add_mul _ _ _
 have hck:(m+1+p)*k≤cap*k:=Nat.mul_le_mul_right _ h1
 obtain⟨news,hnews⟩:∃news,(rows.drop (m+1)).flatten=news:=⟨_,rfl⟩
 have hnl:news.length=p*k:=by rw[←hnews,bt (fun r hr=>hw r (List.mem_of_mem_drop hr)),List.length_drop,hn,e1]
 have hcell:∀i,w.cell? ⟨g,i,Vx⟩=cur[i]?:=fun i=>by simp[World.cell?,hh]
 have s2:∀u∈news,u.oneCell'=VD:=by
  intro u hu
  rw[←hnews] at hu
  obtain⟨r,hr,hur⟩:=List.mem_flatten.1 hu
  exact ho r (List.mem_of_mem_drop hr) u hur
 have hd:=Jf (z:=z.cells) h1 h3 h4 hn hw hm hk
 rw[hnews,e3] at hd
 have c1:(putAt cur (m*k) news.toArray).size=cap*k:=by
  unfold putAt
  simp only[List.size_toArray,VM,List.length_take,List.length_drop,Array.length_toList,h3,hnl]
  omega
 have hrow:w.drew.setCells g (0+m*k) news=w.drew.setRow g (putAt cur (m*k) news.toArray):=by
  rw[Nat.zero_add]
  exact zo (t:=t) (w:=w.drew) hh (by rw[hnl,h3];omega) s2
 have hh1:(w.drew.setRow g (putAt cur (m*k) news.toArray)).heap[g]?=Vz (.cells (putAt cur (m*k) news.toArray) t (0,0)):=setRow_heap (w:=w.drew) hh _
 rw[e1,e2,e3]
 refine⟨news,if cap=m+1 then⟨g,0,Vx⟩ else⟨g,(m+1)*k,Vx⟩,_,_,by split <;>rfl,Vs hnl,Vs fun t u hu=> ?_,Vs s2,Vs fun t ht=> ?_,Vs hrow,fun ty=>wN _ s t ty z i0 U hi hz0 hz g _ _ _ hh1 (by rw[c1,hk,a3];omega),Vs (ah (Below.drew (Below.refl _ _)) (Vu _) _),⟨_,Vs hh1⟩,Vs (by rw[a3] at hd⊢;exact hd)⟩
 ·by_cases h:cap=m+1
  ·have h0:news.length=0:=by rw[hnl,show p=0 by omega,Nat.zero_mul]
   rw[List.length_eq_zero_iff.1 h0] at hu
   simp at hu
  ·have ht:t<news.length:=(List.getElem?_eq_some_iff.1 hu).1
   rw[←hnews,←j7 hw (by omega),List.getElem?_drop,←h4,List.getElem?_take,if_pos (by rw[hnl] at ht;omega)] at hu
   rw[if_neg h,Addr.add_lit]
   show w.cell? _=_
   rw[hcell]
   simpa using hu
 ·rw[hnl] at ht
  refine⟨?_,?_⟩
  ·show(w.cell? ⟨g,0+m*k+t,Vx⟩).isSome=VD
   rw[hcell]
   simp
   omega
  ·show w.frozen? ⟨g,0+m*k+t,Vx⟩=Vw
   simp[World.frozen?,hh]
def ID(f:FuncId)(t:VR)(k:Nat):Prop:=∀(w:Vt) (g n cap m j:Nat) (cur:Array Vy) (rows:List (List Vy)),w.heap[g]?=Vz (.cells cur t (0,0))->n<=cap->cap<=VP->cur.size=cap*k->cur.toList.take (n*k)=rows.flatten->
  ln rows=n->de k rows->jG rows->m<n->j=m+1->n<=1000000->
  VJ prog f #[VV (Vz ⟨g,0,Vx⟩) n cap,VZ VH (m:Int),VZ VH (j:Int)] w λe w'=>e=V0 (VV (Vz ⟨g,0,Vx⟩) (n-1) cap)/\VS g w w'/\
   ∃cur',w'.heap[g]?=Vz (.cells cur' t (0,0))/\cur'.size=cap*k/\cur'.toList.take ((n-1)*k)=(rows.eraseIdx m).flatten
theorem lQ(h:p:=by
  try simp only[Nat.mul_one] at hA hcl
  unfold VP at h2;have hjc:j<=cap:=V7;have hmc:m<=cap:=V7;have hlt:m<j:=V7;have hjn:j<=n:=V7;have heq:((m:Int)==(j:Int))=Vw:=beq_eq_false_iff_ne.2 V7;have HF:=Vs (show m+(n-j)=n-1 by omega);have mixed:prog.follows .mixedOrders=VD:=V8;clear hj U hi hz0 hz1 hz2 h3 h4 hh ho hw hn;go_wp2_with fail
  go_region_law_o(refine AR.o _ _ _ _ _ _ _ rfl rfl g 0 m cap WS A (n-j) (cap-j) news WS s1.o s0.o s2.o V7 s3.o ?_;rw[HW.o])
  go_wp2;go_ret;exact⟨Xs,ah HB.o (Vu _) _,_,setRow_heap HH.o _,HD.o⟩):p:=h
def Iz(f:FuncId)(t:VR)(k:Nat):Prop:=∀(w:Vt) (A:Option VT) (cap:Nat) (rows:List (List Vy)) (i:Int),bJ k w w.heap.size A cap rows->de k rows->jG rows->ln rows<=1000000->
  VJ prog f #[VV A (ln rows) cap,VZ VH i] w λe w'=>∃v,ng v/\e=V0 (V6 #[v,VZ VH (dV (ln rows) i)])/\(dV (ln rows) i=0->w'.ownsRow w.heap.size t k v (ln rows-1) (rows.eraseIdx i.toNat).flatten)/\Ext w w'
theorem lH(h:p:=by
  by_cases hi:0<=i/\i<(ln rows:Int)
  ·have t1:decide (i<0)=Vw:=decide_eq_false V7;have t2:decide (i>=(ln rows:Int))=Vw:=decide_eq_false V7;rw[show dV (ln rows) i=0 from if_pos hi];obtain⟨m,rfl⟩:∃m:Nat,i=(m:Int):=⟨i.toNat,V7⟩;have hm:m<ln rows:=V7;have HW:=Vs hw;have H1:=Vs h1;clear hi hr hw h1;go_wp2_with(first
    |(refine(KD.o W1 g (ln rows) cp m (m+1) cur rows HH.o q1 q2 HQ.o HF.o rfl HW.o H1.o hm rfl hlen).mono ?_;rintro e W2 ⟨rfl,hb2,cur2,hh2,hs2,ht2⟩;have HX2:=Vs (HX.o.trans (hb2.mono HB.o));have HH2:=Vs hh2;have HS2:=Vs hs2;have HT2:=Vs ht2;clear hb2 hh2 hs2 ht2)
    |(refine KC.o.mono ?_;rintro e W1 ⟨v,rfl,ho,hX⟩;obtain⟨g,cp,cur,rfl,hb,hh,q1,q2,q3,q4⟩:=kH ho V7;have HH:=Vs hh;have HQ:=Vs q3;have HF:=Vs q4;have HX:=Vs hX;have HB:=Vs hb;clear ho hh q3 q4 hX hb))
   go_ret2;refine⟨_,⟨_,_,_,rfl⟩,rfl,⟨?_,.inr ⟨g,cp,cur2,rfl,HB.o,HH2.o,V7,q2,HS2.o,HT2.o⟩⟩,HX2.o⟩;show(rows.eraseIdx m).flatten.length=_;rw[bt (Eg HW.o m),List.length_eraseIdx,if_pos hm]
  ·rw[show dV (ln rows) i=6 from if_neg hi];clear hr;by_cases hi0:i<0
   ·have t1:decide (i<0)=VD:=decide_eq_true hi0;clear hi hi0;go_wp2;go_ret2;exact⟨_,⟨_,_,_,rfl⟩,rfl,λh=>Wb,Ext.aC _⟩
   ·have t1:decide (i<0)=Vw:=decide_eq_false hi0;have t2:decide (i>=(ln rows:Int))=VD:=decide_eq_true V7;clear hi hi0;go_wp2;go_ret2;exact⟨_,⟨_,_,_,rfl⟩,rfl,λh=>Wb,Ext.aC _⟩):p:=h
theorem L8:ID 219 59 3:=by
 intro w g n cap m j cur rows hh h1 h2 h3 h4 hn hw ho hm hj hlen
 obtain⟨i0,hi,hz0,hz1,hz2⟩:=info_parts tQ
 have U:=underlying27
 obtain⟨news,A,W1,D,hA,s1,s0,s2,s3,HW,hcl,HB,⟨C,HH⟩,HD⟩:=oC (k:=3) U hi hz0 rfl (by kernel_rfl) hh h1 h3 h4 hn hw ho hm hj
 have AR:=Vs (fun ops o a w K Q E hg hop=>@step_append_room prog ops o a w K Q E hg (.tmp 22) (.tmp 25) 27 hop 59 i0 3 U hi hz1)
 go_enter func219,ntmps219
 exact lQ
def Nh:Iz 165 59 3:=by
 intro w A cap rows i hr hw h1 hlen;have KC:=Vs (GH w A cap rows hr hw h1 hlen);have KD:=Vs L8;go_enter func165,ntmps165;exact lH
theorem JZ:ID 218 57 5:=by
 intro w g n cap m j cur rows hh h1 h2 h3 h4 hn hw ho hm hj hlen
 obtain⟨i0,hi,hz0,hz1,hz2⟩:=info_parts uk
 have U:=underlying26
 obtain⟨news,A,W1,D,hA,s1,s0,s2,s3,HW,hcl,HB,⟨C,HH⟩,HD⟩:=oC (k:=5) U hi hz0 rfl (by kernel_rfl) hh h1 h3 h4 hn hw ho hm hj
 have AR:=Vs (fun ops o a w K Q E hg hop=>@step_append_room prog ops o a w K Q E hg (.tmp 22) (.tmp 25) 26 hop 57 i0 5 U hi hz1)
 go_enter func218,ntmps218
 exact lQ
def Lu:Iz 164 57 5:=by
 intro w A cap rows i hr hw h1 hlen;have KC:=Vs (Ge w A cap rows hr hw h1 hlen);have KD:=Vs JZ;go_enter func164,ntmps164;exact lH
theorem MY:ID 217 3 1:=by
 intro w g n cap m j cur rows hh h1 h2 h3 h4 hn hw ho hm hj hlen
 obtain⟨i0,hi,hz0,hz1,hz2⟩:=info_parts nY
 have U:=underlying25
 obtain⟨news,A,W1,D,hA,s1,s0,s2,s3,HW,hcl,HB,⟨C,HH⟩,HD⟩:=oC (k:=1) U hi hz0 rfl (by kernel_rfl) hh h1 h3 h4 hn hw ho hm hj
 have AR:=Vs (fun ops o a w K Q E hg hop=>@step_append_room prog ops o a w K Q E hg (.tmp 22) (.tmp 25) 25 hop 3 i0 1 U hi hz1)
 go_enter func217,ntmps217
 exact lQ
def Ls:Iz 163 3 1:=by
 intro w A cap rows i hr hw h1 hlen;have KC:=Vs (FP w A cap rows hr hw h1 hlen);have KD:=Vs MY;go_enter func163,ntmps163;exact lH
theorem Ky:ID 220 62 6:=by
 intro w g n cap m j cur rows hh h1 h2 h3 h4 hn hw ho hm hj hlen
 obtain⟨i0,hi,hz0,hz1,hz2⟩:=info_parts uB
 have U:=underlying28
 obtain⟨news,A,W1,D,hA,s1,s0,s2,s3,HW,hcl,HB,⟨C,HH⟩,HD⟩:=oC (k:=6) U hi hz0 rfl (by kernel_rfl) hh h1 h3 h4 hn hw ho hm hj
 have AR:=Vs (fun ops o a w K Q E hg hop=>@step_append_room prog ops o a w K Q E hg (.tmp 22) (.tmp 25) 28 hop 62 i0 6 U hi hz1)
 go_enter func220,ntmps220
 exact lQ
def JQ:Iz 166 62 6:=by
 intro w A cap rows i hr hw h1 hlen;have KC:=Vs (Ga w A cap rows hr hw h1 hlen);have KD:=Vs Ky;go_enter func166,ntmps166;exact lH
theorem KH:ID 221 64 3:=by
 intro w g n cap m j cur rows hh h1 h2 h3 h4 hn hw ho hm hj hlen
 obtain⟨i0,hi,hz0,hz1,hz2⟩:=info_parts uR
 have U:=underlying31
 obtain⟨news,A,W1,D,hA,s1,s0,s2,s3,HW,hcl,HB,⟨C,HH⟩,HD⟩:=oC (k:=3) U hi hz0 rfl (by kernel_rfl) hh h1 h3 h4 hn hw ho hm hj
 have AR:=Vs (fun ops o a w K Q E hg hop=>@step_append_room prog ops o a w K Q E hg (.tmp 22) (.tmp 25) 31 hop 64 i0 3 U hi hz1)
 go_enter func221,ntmps221
 exact lQ
def M8:Iz 167 64 3:=by
 intro w A cap rows i hr hw h1 hlen;have KC:=Vs (GC w A cap rows hr hw h1 hlen);have KD:=Vs KH;go_enter func167,ntmps167;exact lH
theorem Mo:ID 222 66 5:=by
 intro w g n cap m j cur rows hh h1 h2 h3 h4 hn hw ho hm hj hlen
 obtain⟨i0,hi,hz0,hz1,hz2⟩:=info_parts om
 have U:=underlying32
 obtain⟨news,A,W1,D,hA,s1,s0,s2,s3,HW,hcl,HB,⟨C,HH⟩,HD⟩:=oC (k:=5) U hi hz0 rfl (by kernel_rfl) hh h1 h3 h4 hn hw ho hm hj
 have AR:=Vs (fun ops o a w K Q E hg hop=>@step_append_room prog ops o a w K Q E hg (.tmp 22) (.tmp 25) 32 hop 66 i0 5 U hi hz1)
 go_enter func222,ntmps222
 exact lQ
def Ly:Iz 168 66 5:=by
 intro w A cap rows i hr hw h1 hlen;have KC:=Vs (F9 w A cap rows hr hw h1 hlen);have KD:=Vs Mo;go_enter func168,ntmps168;exact lH
end
section
open Kp
theorem fM(w:Vt)(dT sT ty elem:VR)(g o dLen dCap:Nat)(a:VT)(sLen sCap:Nat)(cur:Array Vy)(t:VR)(cs:List Vy)(k p:Nat)
  (hu:prog.underlying dT=Vz (.slice elem))(hs:(prog.info? elem).map (·.size)=Vz k)
  (hg:w.heap[g]?=Vz (.cells cur t (0,0)))(hp:Nat.min sLen dLen=p)(hn:cs.length=p*k)
  (hsrc:∀j v,cs[j]?=Vz v→w.cell? (a.add j)=Vz v)(hfit:o+cs.length≤cur.size)(h1:∀v∈cs,v.oneCell'=VD):
  (Builtin.copy_ #[dT,sT] ty #[.slice (Vz ⟨g,o,Vx⟩) dLen dCap,.slice (Vz a) sLen sCap]).run prog w=
   .ok (goInt p) (w.setRow g (putAt cur o cs.toArray)):=by
 have hl:=run_loadCells_list (P:=prog) w a cs hsrc
 have hst:=run_storeCells_at (P:=prog) g o t cs 0 cur w hg (by simpa using hfit) h1
 cases hq:prog.info? elem with
 |none=>simp[hq] at hs
 |some i=>
  have hi:i.size=k:=by simpa[hq] using hs
  have hl2:(loadCells a (p*k)).run prog w= .ok cs.toArray w:=by rw[←hn];exact hl
  unfold putAt
  simp[Builtin.copy_,run_underlying hu,Builtin.lenOf,Builtin.firstCells,sizeOf,typeInfo,hq,hi,hp,hl2] at hst⊢
  simp[hst]
def dn{α:Type}(l:List α)(i:Nat)(x:α):List α:=l.take i++x::l.drop i
theorem qm{rows:List (List Vy)}(hw:de k rows)(hx:ln x=k)(i:Nat):de k (dn rows i x):=by
 intro r hr;unfold dn at hr;rcases List.mem_append.1 hr with h|h
 ·exact hw r (List.mem_of_mem_take h)
 ·rcases List.mem_cons.1 h with rfl|h
  ·exact hx
  ·exact hw r (List.mem_of_mem_drop h)
theorem me(l:List α)(i:Nat)(x:α)(hi:i<=ln l):(dn l i x).length=ln l+1:=by
 unfold dn;simp only[VM,List.length_take,List.length_cons,List.length_drop];omega
theorem fK(h:a+X.size<=cur.size):(putAt cur a X).size=cur.size:=by
 unfold putAt;simp only[List.size_toArray,VM,List.length_take,List.length_drop,Array.length_toList];omega
theorem rQ{cur X B:Array Vy}(hab:a+X.size=b)(hb:b+B.size<=cur.size):
  (putAt (putAt cur b B) a X).toList=cur.toList.take a++X.toList++(B.toList++cur.toList.drop (b+B.size)):=by
 have hl:ln cur.toList=cur.size:=Array.length_toList;unfold putAt;simp only[Nat.add_zero,List.append_assoc,Array.length_toList];rw[hab,List.take_append_of_le_length Xn,List.take_take,Nat.min_eq_left V7,List.drop_left' Xn]
theorem uZ{cur X B:Array Vy}(hab:a+X.size=b)(hb:b+B.size<=cur.size):
  (putAt (putAt cur a X) b B).toList=cur.toList.take a++X.toList++(B.toList++cur.toList.drop (b+B.size)):=by
 have hl:ln cur.toList=cur.size:=Array.length_toList;have e1:(cur.toList.take a++X.toList).length=b:=by simp only[VM,List.length_take,Array.length_toList];omega
 unfold putAt;simp only[Nat.add_zero,Array.length_toList];rw[List.take_left' e1,<-List.drop_drop,List.drop_left' e1,hab,List.drop_drop,List.append_assoc,List.append_assoc]
theorem J6{rows:List (List Vy)}(hw:de k rows)(hi:i<=ln rows):
  (dn rows i x).flatten=rows.flatten.take (i*k)++x++(rows.drop i).flatten:=by
 unfold dn;rw[List.flatten_append,List.flatten_cons,qT hw hi,List.append_assoc]
theorem oS{k n i N:Nat}{rows:List (List Vy)}(hw:de k rows)(hn:ln rows=n)(hx:ln x=k)(hi:i<n)(h4:cur.toList.take (i*k)=rows.flatten.take (i*k))(hN:(n+1)*k<=cur.size)
  (hL:L=cur.toList.take (i*k)++x.toArray.toList++((rows.drop i).flatten.toArray.toList++cur.toList.drop N)):L.take ((n+1)*k)=(dn rows i x).flatten:=by
 subst hn;have hd:(rows.drop i).flatten.length=(ln rows-i)*k:=by rw[bt (λr hr=>hw r (List.mem_of_mem_drop hr)),List.length_drop]
 obtain⟨p,hp⟩:∃p,ln rows=i+p:=⟨ln rows-i,V7⟩;have e1:ln rows-i=p:=V7;have e3:(ln rows+1)*k=i*k+k+p*k:=by rw[hp,Nat.add_mul,Nat.add_mul,Nat.one_mul];omega
 rw[e1] at hd;rw[hL,J6 hw (Nat.le_of_lt hi),h4,<-List.append_assoc,List.take_left'];have hF:ln rows.flatten=ln rows*k:=bt hw;have e4:ln rows*k=i*k+p*k:=by rw[hp,Nat.add_mul]
 simp only[VM,List.length_take,hx,hd,hF];omega
end
section
open Kp
theorem Kq(w:Vt)(base n m vb vc:Nat)(v:Vy)(rows:List (List Vy))(x:List Vy)(ho:w.ownsRow base 66 5 v n rows.flatten)(hx:x.length=5)(h1x:∀u∈x,u.oneCell'=VD)(hxb:ai w vb 66 x)
  (hm:m=1)(hlen:n≤1000000)(hbw:base≤w.heap.size):
  VJ prog 162 #[v,.int .i64 (n:Int),.slice (Vz ⟨vb,0,Vx⟩) m vc] w fun e w'=>∃v',e= .returned v'∧w'.ownsRow base 66 5 v' (n+1) (rows++[x]).flatten∧VS base w w':=by
 obtain⟨i0,hi,hz0,hz1,hz2⟩:=info_parts om
 have z1:((m:Int)==0)=Vw:=beq_eq_false_iff_ne.2 (by omega)
 have HM:=Vs hm
 have HO:=Vs ho
 have HL:=Vs (show x.length=m*5 by rw[hx,hm])
 have HN:=Vs (Vt.news_of_block (cs:=x.toArray) (t:=66) (fr:=(0,0)) hxb)
 have H1:=Vs h1x
 have HI:=Vs hi
 have I1:=Vs hz0
 have I2:=Vs hz1
 have I3:=Vs hz2
 have hm1:m≤1:=by omega
 have hfin:∀v' (w1:Vt),w1.ownsRow base 66 5 v' (n+m) (rows.flatten++x)→w.grownBy w1 v.ownBlock→∃v'',Ending.returned v'= .returned v''∧w1.ownsRow base 66 5 v'' (n+1) (rows++[x]).flatten∧VS base w w1:=by
  intro v' w1 hown hgrow
  rw[HM.out] at hown
  refine⟨v',rfl,by simpa using hown,(Below.refl base w).grown hgrow hbw (fun q hq=>(az HO.out q hq).1)⟩
 have HF:=Vs hfin
 clear hfin hm hx h1x hxb hi hz0 hz1 hz2
 obtain⟨_,⟨rfl,rfl⟩|⟨g,cap,cur,rfl,hb,hh,h1,h2,h3,h4⟩⟩:=id ho
 ·clear ho
  go_enter func162,ntmps162
  go_wp2_with(at_builtin;refine wpList_append_own _ rfl _ _ 32 rfl base 66 i0 (.agg #[.int .i64 0,.int .i64 0,.int .i64 0,.int .i64 0,.int .i64 0]) 5 40 underlying32 HI.out I1.out I2.out I3.out rfl (by decide) _ 0 _ rfl HO.out ⟨vb,0,Vx⟩ m vc x rfl HL.out HN.out H1.out (by unfold VP;omega) (by omega) hbw ?_)
  intro v' w1 hown hgrow hnil
  go_wp2
  go_ret
  exact HF.out v' w1 (by rw[Nat.zero_add];exact hown) hgrow
 ·clear ho hh h3 h4
  unfold VP at h2
  go_enter func162,ntmps162
  go_wp2_with(at_builtin;refine wpList_append_own _ rfl _ _ 32 rfl base 66 i0 (.agg #[.int .i64 0,.int .i64 0,.int .i64 0,.int .i64 0,.int .i64 0]) 5 40 underlying32 HI.out I1.out I2.out I3.out rfl (by decide) _ n _ rfl HO.out ⟨vb,0,Vx⟩ m vc x rfl HL.out HN.out H1.out (by unfold VP;omega) (by omega) hbw ?_)
  all_goals
   intro v' w1 hown hgrow hnil
   go_wp2
   go_ret
   exact HF.out v' w1 hown hgrow
theorem EU(w:Vt)(base g n cap i m vb vc:Nat)(cur:Array Vy)(rows:List (List Vy))(x:List Vy)(hb:base≤g)(hh:w.heap[g]?=Vz (.cells cur 66 (0,0)))(h2:cap≤VP)(h3:cur.size=cap*5)(h4:cur.toList.take (n*5)=rows.flatten)
  (hn:rows.length=n)(hw:de 5 rows)(hone:jG rows)(hx:x.length=5)(h1x:∀u∈x,u.oneCell'=VD)(hxb:ai w vb 66 x)(hvb:vb≠g)(hm:m=1)(hin:i<n)(hroom:n+m≤cap)(hlen:n≤1000000):
  VJ prog 162 #[.slice (Vz ⟨g,0,Vx⟩) n cap,.int .i64 (i:Int),.slice (Vz ⟨vb,0,Vx⟩) m vc] w fun e w'=>∃v',e= .returned v'∧w'.ownsRow base 66 5 v' (n+1) (dn rows i x).flatten∧VS g w w':=by
 obtain⟨i0,hi,hz0,hz1,hz2⟩:=info_parts om
 unfold VP at h2
 have z1:((m:Int)==0)=Vw:=beq_eq_false_iff_ne.2 (by omega)
 have z2:((i:Int)==(n:Int))=Vw:=beq_eq_false_iff_ne.2 (by omega)
 have hsz:(prog.info? 66).map (·.size)=Vz 5:=by rw[hi];simp[hz1]
 have hso:∀w,(Go.sizeOf 66).run prog w= .ok 5 w:=fun w=>by simp[sizeOf,typeInfo,hi,hz1]
 have hfl:rows.flatten.length=n*5:=by rw[bt hw,hn]
 obtain⟨B,hB⟩:∃B,(rows.drop i).flatten=B:=⟨_,rfl⟩
 have hBl:B.length=(n-i)*5:=by rw[←hB,bt (fun r hr=>hw r (List.mem_of_mem_drop hr)),List.length_drop,hn]
 have h1B:∀u∈B,u.oneCell'=VD:=by
  intro u hu
  rw[←hB] at hu
  obtain⟨r,hr,hur⟩:=List.mem_flatten.1 hu
  exact hone r (List.mem_of_mem_drop hr) u hur
 have hsrc:∀t u,B[t]?=Vz u→w.cell? ⟨g,i*5+t,Vx⟩=Vz u:=by
  intro t u hu
  have ht:t<B.length:=(List.getElem?_eq_some_iff.1 hu).1
  rw[←hB,←j7 hw (by omega),List.getElem?_drop,←h4,List.getElem?_take] at hu
  rw[if_pos (by rw[hBl] at ht;omega)] at hu
  rw[show w.cell? ⟨g,i*5+t,Vx⟩=cur[i*5+t]? by simp[World.cell?,hh]]
  simpa using hu
 have hov:∀lb cb,(callFunc 215 #[.slice (Vz ⟨vb,0,Vx⟩) m vc,.slice (Vz ⟨g,(i+m)*5,Vx⟩) lb cb]).run prog w= .ok (.value (.bool Vw)) w:=fun lb cb=>by
  rw[run_callFunc_extern func215 (by kernel_rfl) (by kernel_rfl) (by kernel_rfl) (e:=Extern.SlicesOverlaps.overlaps #[32,32] #[4]) (by kernel_rfl),
   Lib.run_overlaps_apart w 32 4 66 underlying32 5 hso ⟨vb,0,Vx⟩ ⟨g,(i+m)*5,Vx⟩ m vc lb cb hvb 66 66 x.length cur.size (by unfold ai at hxb;simp[World.shape?,hxb]) (by simp[World.shape?,hh]) (by omega) (hxb.frozen _) (hxb.frozen _)]
  rfl
 have hcp1:∀ty dc sc,(Builtin.copy_ #[32,32] ty #[.slice (Vz ⟨g,(i+m)*5,Vx⟩) (n+m-(i+m)) dc,.slice (Vz ⟨g,i*5,Vx⟩) (n+m-i) sc]).run prog w.drew= .ok (goInt ((n-i:Nat):Int)) (w.drew.setRow g (putAt cur ((i+m)*5) B.toArray)):=fun ty dc sc=>
  fM w.drew _ _ ty 66 g ((i+m)*5) (n+m-(i+m)) dc ⟨g,i*5,Vx⟩ (n+m-i) sc cur 66 B 5 (n-i) underlying32 hsz hh (by simp only[Nat.min_def];split <;>omega) hBl
   (fun t u hu=>by rw[Addr.add_lit];exact hsrc t u hu) (by rw[hBl,h3];omega) h1B
 have c1:(putAt cur ((i+m)*5) B.toArray).size=cap*5:=by rw[fK (by simp[hBl,h3];omega),h3]
 obtain⟨W1,hW1⟩:∃W1,w.drew.setRow g (putAt cur ((i+m)*5) B.toArray)=W1:=⟨_,rfl⟩
 rw[hW1] at hcp1
 have hh1:W1.heap[g]?=Vz (.cells (putAt cur ((i+m)*5) B.toArray) 66 (0,0)):=by rw[←hW1];exact setRow_heap (w:=w.drew) hh _
 have hb1:VS g w W1:=by rw[←hW1];exact ah (Below.drew (Below.refl _ _)) (Vu _) _
 have hx1:ai W1 vb 66 x:=by
  have:(w.drew.setRow g (putAt cur ((i+m)*5) B.toArray)).heap[vb]?=w.heap[vb]?:=by simp only[World.setRow,Array.getElem?_modify];rw[if_neg (Ne.symm hvb)];rfl
  unfold ai
  rw[←hW1,this]
  exact hxb
 have hcp2:∀(W:Vt),W.heap=W1.heap→∀ty dc,(Builtin.copy_ #[32,32] ty #[.slice (Vz ⟨g,i*5,Vx⟩) (n+m-i) dc,.slice (Vz ⟨vb,0,Vx⟩) m vc]).run prog W= .ok (goInt m) (W.setRow g (putAt (putAt cur ((i+m)*5) B.toArray) (i*5) x.toArray)):=fun W hW ty dc=>
  fM W _ _ ty 66 g (i*5) (n+m-i) dc ⟨vb,0,Vx⟩ m vc _ 66 x 5 m underlying32 hsz (by rw[hW];exact hh1) (by simp only[Nat.min_def];split <;>omega) (by rw[hx,hm])
   (fun t u hu=>by rw[Addr.add_lit,Nat.zero_add];exact(World.cell?_of_block (by rw[hW])).trans ((hx1.cell t).trans hu)) (by rw[hx,c1];omega) h1x
 have hc2:(putAt (putAt cur ((i+m)*5) B.toArray) (i*5) x.toArray).size=cap*5:=by rw[fK (by rw[c1];simp[hx];omega),c1]
 have htk:(putAt (putAt cur ((i+m)*5) B.toArray) (i*5) x.toArray).toList.take ((n+1)*5)=(dn rows i x).flatten:=by
  refine oS (cur:=cur) hw hn hx hin ?_ (by rw[h3];omega) (N:=(i+m)*5+B.length) ?_
  ·rw[←h4,List.take_take,Nat.min_eq_left (by omega)]
  ·rw[rQ (by simp only[List.size_toArray,hx,hm];omega) (by simp only[List.size_toArray,hBl,h3];omega),hB,List.size_toArray]
 have hlenF:(dn rows i x).flatten.length=(n+1)*5:=by rw[bt (qm hw hx i),me rows i x (by omega),hn]
 have hroom2:n+1≤cap:=by omega
 have hfin:∀W:Vt,W.heap=W1.heap→(VS g w W1→VS g w W)→∃v',Ending.returned (.slice (Vz ⟨g,0,Vx⟩) (n+m) cap)= .returned v'∧(W.setRow g (putAt (putAt cur ((i+m)*5) B.toArray) (i*5) x.toArray)).ownsRow base 66 5 v' (n+1) (dn rows i x).flatten∧VS g w (W.setRow g (putAt (putAt cur ((i+m)*5) B.toArray) (i*5) x.toArray)):=by
  intro W hW hbW
  refine⟨_,rfl,⟨hlenF,.inr ⟨g,cap,_,by rw[hm],hb,setRow_heap (by rw[hW];exact hh1) _,hroom2,by unfold VP;omega,hc2,htk⟩⟩,ah (hbW hb1) (Vu _) _⟩
 have HF:=Vs hfin
 have H1:=Vs hcp1
 have H2:=Vs hcp2
 have mixed:prog.follows .mixedOrders=VD:=by kernel_rfl
 have q1:i≤n:=by omega
 have w1:VH.wrap ((i:Int)+(m:Int))=(i:Int)+(m:Int):=by rw[IntKind.wrap_i64];omega
 have w2:(0:Int)≤(i:Int)+(m:Int):=by omega
 have w3:((i:Int)+(m:Int)).toNat=i+m:=by omega
 have w4:(i:Int)≤(n:Int)+(m:Int):=by omega
 have q2:¬(cap=i+m):=by omega
 have q3:¬(cap=i):=by omega
 have q4:m≤1:=by omega
 have q5:1≤m:=by omega
 clear hfin hcp1 hcp2 hW1 hh1 hb1 hx1 c1 hc2 htk hlenF hroom2 hm hsrc h1B hBl hB hfl hsz hso h3 h4 hh hxb hx h1x hw hone hn hi hz0 hz1 hz2
 go_enter func162,ntmps162
 go_wp2_with(simp only[hov])
 go_region_law_o(refine step_copy_runI rfl _ _ 32 32 rfl _ _ (by simp[Act.eval,Act.put]) (by simp[Act.eval,Act.put]) (H1.out 3 (cap-(i+m)) (cap-i)) ?_)
 have hk2:=H2.out W1 rfl
 go_wp2
 go_ret
 exact HF.out _ rfl (fun h=>h)
theorem Hm(w:Vt)(base g n cap i m vb vc:Nat)(cur:Array Vy)(rows:List (List Vy))(x:List Vy)(hbw:base≤w.heap.size)(hh:w.heap[g]?=Vz (.cells cur 66 (0,0)))(h3:cur.size=cap*5)(h4:cur.toList.take (n*5)=rows.flatten)
  (hn:rows.length=n)(hw:de 5 rows)(hone:jG rows)(hx:x.length=5)(h1x:∀u∈x,u.oneCell'=VD)(hxb:ai w vb 66 x)(hm:m=1)(hin:i<n)(hnc:n≤cap)(hroom:cap<n+m)(hlen:n≤1000000):
  VJ prog 162 #[.slice (Vz ⟨g,0,Vx⟩) n cap,.int .i64 (i:Int),.slice (Vz ⟨vb,0,Vx⟩) m vc] w fun e w'=>∃v',e= .returned v'∧w'.ownsRow base 66 5 v' (n+1) (dn rows i x).flatten∧VS base w w':=by
 obtain⟨i0,hi,hz0,hz1,hz2⟩:=info_parts om
 have z1:((m:Int)==0)=Vw:=beq_eq_false_iff_ne.2 (by omega)
 have z2:((i:Int)==(n:Int))=Vw:=beq_eq_false_iff_ne.2 (by omega)
 have hsz:(prog.info? 66).map (·.size)=Vz 5:=by rw[hi];simp[hz1]
 have hgw:g<w.heap.size:=(VF.1 hh).1
 have hfl:rows.flatten.length=n*5:=by rw[bt hw,hn]
 obtain⟨B,hB⟩:∃B,(rows.drop i).flatten=B:=⟨_,rfl⟩
 have hBl:B.length=(n-i)*5:=by rw[←hB,bt (fun r hr=>hw r (List.mem_of_mem_drop hr)),List.length_drop,hn]
 have h1B:∀u∈B,u.oneCell'=VD:=by
  intro u hu
  rw[←hB] at hu
  obtain⟨r,hr,hur⟩:=List.mem_flatten.1 hu
  exact hone r (List.mem_of_mem_drop hr) u hur
 have hsrc:∀t u,B[t]?=Vz u→w.cell? ⟨g,i*5+t,Vx⟩=Vz u:=by
  intro t u hu
  have ht:t<B.length:=(List.getElem?_eq_some_iff.1 hu).1
  rw[←hB,←j7 hw (by omega),List.getElem?_drop,←h4,List.getElem?_take] at hu
  rw[if_pos (by rw[hBl] at ht;omega)] at hu
  rw[show w.cell? ⟨g,i*5+t,Vx⟩=cur[i*5+t]? by simp[World.cell?,hh]]
  simpa using hu
 have hol:(rows.flatten.take (i*5)).length=i*5:=by rw[List.length_take,hfl];omega
 have hold:(Builtin.firstCells i0.size i (.slice (Vz ⟨g,0,Vx⟩) i cap)).run prog w.drew= .ok (rows.flatten.take (i*5)).toArray w.drew:=by
  rw[hz1]
  exact run_firstCells_some w.drew 5 i ⟨g,0,Vx⟩ i cap (rows.flatten.take (i*5)) hol (fun t u hu=>by
   rw[Addr.add_lit,Nat.zero_add]
   have ht:t<i*5:=by rw[←hol];exact(List.getElem?_eq_some_iff.1 hu).1
   rw[List.getElem?_take,if_pos ht,←h4,List.getElem?_take,if_pos (by omega)] at hu
   show w.cell? ⟨g,t,Vx⟩=Vz u
   rw[show w.cell? ⟨g,t,Vx⟩=cur[t]? by simp[World.cell?,hh]]
   simpa using hu)
 have hik:i+(n+m-i)=n+m:=by omega
 have hkk:(n:Int)+(m:Int)-(i:Int)=((n+m-i:Nat):Int):=by omega
 obtain⟨G,hG⟩:∃G,grownCap w (n+m) cap 66=G:=⟨_,rfl⟩
 have hGn:n+m≤G:=by rw[←hG];exact grownCap_ge w _ _ _
 have hG63:G≤VP:=by rw[←hG];exact grownCap_le_maxLen w (n+m) cap 66 (by unfold VP;omega)
 obtain⟨ROW,hROW⟩:∃ROW:Array Vy,(rows.flatten.take (i*5)).toArray++Builtin.zeroCells (Value.cells (.agg #[.int .i64 0,.int .i64 0,.int .i64 0,.int .i64 0,.int .i64 0])) (n+m-i)++Builtin.zeroCells (Value.cells (.agg #[.int .i64 0,.int .i64 0,.int .i64 0,.int .i64 0,.int .i64 0])) (G-(n+m))=ROW:=⟨_,rfl⟩
 have hRl:ROW.size=G*5:=by
  rw[←hROW]
  simp only[Array.size_append,List.size_toArray,hol,Builtin.zeroCells,Array.size_map,Array.size_range]
  show i*5+(n+m-i)*5+(G-(n+m))*5=_
  omega
 have hRt:ROW.toList.take (i*5)=rows.flatten.take (i*5):=by
  rw[←hROW,Array.toList_append,Array.toList_append,List.append_assoc,List.take_left' hol]
 have hrz:∀ty,(Builtin.append_ #[32,3] ty #[.slice (Vz ⟨g,0,Vx⟩) i cap,.int .i64 ((n:Int)+(m:Int)-(i:Int))]).run prog w=
   .ok (.slice (Vz ⟨w.heap.size,0,Vx⟩) (n+m) G) (w.drew.alloc (.cells ROW 66)):=fun ty=>by
  have h:=Lib.run_append_grow_zeros w 32 3 ty 66 i0 _ .i64 .i64 underlying32 underlying3 hi hz0 (Vz ⟨g,0,Vx⟩) i cap _ hold (n+m-i) (by omega) (by omega) (by omega) (by omega) (by rw[hz2];omega) (by rw[hz2,hik];exact growslice_fits hroom (by omega))
  rw[hik,hG] at h
  rw[hkk,←hROW]
  exact h
 obtain⟨W1,hW1⟩:∃W1,w.drew.alloc (.cells ROW 66)=W1:=⟨_,rfl⟩
 rw[hW1] at hrz
 have hh1:W1.heap[w.heap.size]?=Vz (.cells ROW 66 (0,0)):=by rw[←hW1];exact VG w.drew _
 have hb1:VS w.heap.size w W1:=by rw[←hW1];exact(Below.drew (Below.refl _ _)).alloc (Vu _) _
 have hx1:ai W1 vb 66 x:=hxb.ext hb1
 have hg1:∀t u,w.cell? ⟨g,t,Vx⟩=Vz u→W1.cell? ⟨g,t,Vx⟩=Vz u:=fun t u h=>(hb1.cell hgw).trans h
 have hcpA:∀ty dc,(Builtin.copy_ #[32,32] ty #[.slice (Vz ⟨w.heap.size,i*5,Vx⟩) (n+m-i) dc,.slice (Vz ⟨vb,0,Vx⟩) m vc]).run prog W1= .ok (goInt m) (W1.setRow w.heap.size (putAt ROW (i*5) x.toArray)):=fun ty dc=>
  fM W1 _ _ ty 66 w.heap.size (i*5) (n+m-i) dc ⟨vb,0,Vx⟩ m vc _ 66 x 5 m underlying32 hsz hh1 (by simp only[Nat.min_def];split <;>omega) (by rw[hx,hm])
   (fun t u hu=>by rw[Addr.add_lit,Nat.zero_add];exact(hx1.cell t).trans hu) (by rw[hx,hRl];omega) h1x
 obtain⟨W2,hW2⟩:∃W2,W1.setRow w.heap.size (putAt ROW (i*5) x.toArray)=W2:=⟨_,rfl⟩
 rw[hW2] at hcpA
 have c1:(putAt ROW (i*5) x.toArray).size=G*5:=by rw[fK (by simp only[List.size_toArray,hx,hRl];omega),hRl]
 have hh2:W2.heap[w.heap.size]?=Vz (.cells (putAt ROW (i*5) x.toArray) 66 (0,0)):=by rw[←hW2];exact setRow_heap hh1 _
 have hb2:VS w.heap.size w W2:=by rw[←hW2];exact ah hb1 (Vu _) _
 have hcpB:∀ty dc sc,(Builtin.copy_ #[32,32] ty #[.slice (Vz ⟨w.heap.size,(i+m)*5,Vx⟩) (n+m-(i+m)) dc,.slice (Vz ⟨g,i*5,Vx⟩) (n-i) sc]).run prog W2.drew= .ok (goInt ((n-i:Nat):Int)) (W2.drew.setRow w.heap.size (putAt (putAt ROW (i*5) x.toArray) ((i+m)*5) B.toArray)):=fun ty dc sc=>
  fM W2.drew _ _ ty 66 w.heap.size ((i+m)*5) (n+m-(i+m)) dc ⟨g,i*5,Vx⟩ (n-i) sc _ 66 B 5 (n-i) underlying32 hsz hh2 (by simp only[Nat.min_def];split <;>omega) hBl
   (fun t u hu=>by rw[Addr.add_lit];exact(hb2.cell hgw).trans (hsrc t u hu)) (by rw[hBl,c1];omega) h1B
 have hc2:(putAt (putAt ROW (i*5) x.toArray) ((i+m)*5) B.toArray).size=G*5:=by rw[fK (by simp only[List.size_toArray,hBl,c1];omega),c1]
 have htk:(putAt (putAt ROW (i*5) x.toArray) ((i+m)*5) B.toArray).toList.take ((n+1)*5)=(dn rows i x).flatten:=by
  refine oS (cur:=ROW) hw hn hx hin hRt (by rw[hRl];omega) (N:=(i+m)*5+B.length) ?_
  rw[uZ (by simp only[List.size_toArray,hx,hm];omega) (by simp only[List.size_toArray,hBl,hRl];omega),hB,List.size_toArray]
 have hlenF:(dn rows i x).flatten.length=(n+1)*5:=by rw[bt (qm hw hx i),me rows i x (by omega),hn]
 have hG1:n+1≤G:=by omega
 have hfin:∃v',Ending.returned (.slice (Vz ⟨w.heap.size,0,Vx⟩) (n+m) G)= .returned v'∧(W2.drew.setRow w.heap.size (putAt (putAt ROW (i*5) x.toArray) ((i+m)*5) B.toArray)).ownsRow base 66 5 v' (n+1) (dn rows i x).flatten∧VS base w (W2.drew.setRow w.heap.size (putAt (putAt ROW (i*5) x.toArray) ((i+m)*5) B.toArray)):=
  ⟨_,rfl,⟨hlenF,.inr ⟨w.heap.size,G,_,by rw[hm],hbw,setRow_heap (w:=W2.drew) hh2 _,hG1,hG63,hc2,htk⟩⟩,ah ((Below.drew hb2).mono hbw) hbw _⟩
 have HF:=Vs hfin
 have HB:=Vs hcpB
 have mixed:prog.follows .mixedOrders=VD:=by kernel_rfl
 unfold VP at hG63
 have q1:i≤n:=by omega
 have w1:VH.wrap ((i:Int)+(m:Int))=(i:Int)+(m:Int):=by rw[IntKind.wrap_i64];omega
 have w2:(0:Int)≤(i:Int)+(m:Int):=by omega
 have w3:((i:Int)+(m:Int)).toNat=i+m:=by omega
 have w4:(i:Int)≤(n:Int)+(m:Int):=by omega
 have w5:(cap:Int)<(n:Int)+(m:Int):=by omega
 have q2:¬(G=i+m):=by omega
 have q3:¬(G=i):=by omega
 have q4:m≤1:=by omega
 have q5:1≤m:=by omega
 have q6:¬(cap=i):=by omega
 clear hfin hcpB hW1 hW2 hh1 hh2 hb1 hb2 hx1 hg1 c1 hc2 htk hlenF hG1 hm hsrc h1B hBl hB hfl hsz h3 h4 hh hxb hx h1x hw hone hn hi hz0 hz1 hz2 hold hol hik hkk hRl hRt hROW hG hgw
 go_enter func162,ntmps162
 go_wp2_with(at_builtin;refine Lib.wpList_append_run _ rfl _ _ _ _ rfl _ _ rfl rfl _ _ (hrz _) ?_)
 go_region_law_o(refine step_copy_runI rfl _ _ 32 32 rfl (.slice (Vz ⟨w.heap.size,(i+m)*5,Vx⟩) (n+m-(i+m)) (G-(i+m))) (.slice (Vz ⟨g,i*5,Vx⟩) (n-i) (cap-i)) (by simp[Act.eval,Act.put]) (by simp[Act.eval,Act.put]) (HB.out 3 (G-(i+m)) (cap-i)) ?_)
 go_wp2
 go_ret
 exact HF.out
def LR(w:Vt)(base n i vb vc:Nat)(v:Vy)(rows:List (List Vy))(x:List Vy)(ho:w.ownsRow base 66 5 v n rows.flatten)(hn:ln rows=n)(hw:de 5 rows)(hone:jG rows)
  (hx:ln x=5)(h1x:∀u∈x,u.oneCell'=VD)(hxb:ai w vb 66 x)(hvb:v.ownBlock≠Vz vb)(hi:i<=n)(hlen:n<=1000000)(hbw:base<=w.heap.size):
  VJ prog 162 #[v,VZ VH (i:Int),VV (Vz ⟨vb,0,Vx⟩) 1 vc] w λe w'=>∃v',e=V0 v'/\w'.ownsRow base 66 5 v' (n+1) (dn rows i x).flatten/\VS base w w':=by
 by_cases hin:i=n
 ·subst hin;have e:dn rows i x=rows++[x]:=by unfold dn;rw[<-hn,List.take_length,List.drop_length]
  rw[e];exact Kq w base i 1 vb vc v rows x ho hx h1x hxb rfl hlen hbw
 ·obtain⟨g,cap,cur,rfl,hb,hh,h1,h2,h3,h4⟩:=kH ho V7;by_cases hroom:n+1<=cap
  ·refine(EU w base g n cap i 1 vb vc cur rows x hb hh h2 h3 h4 hn hw hone hx h1x hxb (λe=>hvb XB) rfl V7 hroom hlen).mono ?_;rintro e w' ⟨v',rfl,h5,h6⟩;exact⟨v',rfl,h5,h6.mono hb⟩
  ·exact Hm w base g n cap i 1 vb vc cur rows x hbw hh h3 h4 hn hw hone hx h1x hxb rfl V7 h1 V7 hlen
theorem Me(w:Vt)(base n m vb vc:Nat)(v:Vy)(rows:List (List Vy))(x:List Vy)(ho:w.ownsRow base 3 1 v n rows.flatten)(hx:x.length=1)(h1x:∀u∈x,u.oneCell'=VD)(hxb:ai w vb 3 x)
  (hm:m=1)(hlen:n≤1000000)(hbw:base≤w.heap.size):
  VJ prog 151 #[v,.int .i64 (n:Int),.slice (Vz ⟨vb,0,Vx⟩) m vc] w fun e w'=>∃v',e= .returned v'∧w'.ownsRow base 3 1 v' (n+1) (rows++[x]).flatten∧VS base w w':=by
 obtain⟨i0,hi,hz0,hz1,hz2⟩:=info_parts nY
 have z1:((m:Int)==0)=Vw:=beq_eq_false_iff_ne.2 (by omega)
 have HM:=Vs hm
 have HO:=Vs ho
 have HL:=Vs (show x.length=m*1 by rw[hx,hm])
 have HN:=Vs (Vt.news_of_block (cs:=x.toArray) (t:=3) (fr:=(0,0)) hxb)
 have H1:=Vs h1x
 have HI:=Vs hi
 have I1:=Vs hz0
 have I2:=Vs hz1
 have I3:=Vs hz2
 have hm1:m≤1:=by omega
 have hfin:∀v' (w1:Vt),w1.ownsRow base 3 1 v' (n+m) (rows.flatten++x)→w.grownBy w1 v.ownBlock→∃v'',Ending.returned v'= .returned v''∧w1.ownsRow base 3 1 v'' (n+1) (rows++[x]).flatten∧VS base w w1:=by
  intro v' w1 hown hgrow
  rw[HM.out] at hown
  refine⟨v',rfl,by simpa using hown,(Below.refl base w).grown hgrow hbw (fun q hq=>(az HO.out q hq).1)⟩
 have HF:=Vs hfin
 clear hfin hm hx h1x hxb hi hz0 hz1 hz2
 obtain⟨_,⟨rfl,rfl⟩|⟨g,cap,cur,rfl,hb,hh,h1,h2,h3,h4⟩⟩:=id ho
 ·clear ho
  go_enter func151,ntmps151
  go_wp2_with(at_builtin;refine wpList_append_own _ rfl _ _ 25 rfl base 3 i0 (.int .i64 0) 1 8 underlying25 HI.out I1.out I2.out I3.out rfl (by decide) _ 0 _ rfl HO.out ⟨vb,0,Vx⟩ m vc x rfl HL.out HN.out H1.out (by unfold VP;omega) (by omega) hbw ?_)
  intro v' w1 hown hgrow hnil
  go_wp2
  go_ret
  exact HF.out v' w1 (by rw[Nat.zero_add];exact hown) hgrow
 ·clear ho hh h3 h4
  unfold VP at h2
  go_enter func151,ntmps151
  go_wp2_with(at_builtin;refine wpList_append_own _ rfl _ _ 25 rfl base 3 i0 (.int .i64 0) 1 8 underlying25 HI.out I1.out I2.out I3.out rfl (by decide) _ n _ rfl HO.out ⟨vb,0,Vx⟩ m vc x rfl HL.out HN.out H1.out (by unfold VP;omega) (by omega) hbw ?_)
  all_goals
   intro v' w1 hown hgrow hnil
   go_wp2
   go_ret
   exact HF.out v' w1 hown hgrow
theorem DT(w:Vt)(base g n cap i m vb vc:Nat)(cur:Array Vy)(rows:List (List Vy))(x:List Vy)(hb:base≤g)(hh:w.heap[g]?=Vz (.cells cur 3 (0,0)))(h2:cap≤VP)(h3:cur.size=cap*1)(h4:cur.toList.take (n*1)=rows.flatten)
  (hn:rows.length=n)(hw:de 1 rows)(hone:jG rows)(hx:x.length=1)(h1x:∀u∈x,u.oneCell'=VD)(hxb:ai w vb 3 x)(hvb:vb≠g)(hm:m=1)(hin:i<n)(hroom:n+m≤cap)(hlen:n≤1000000):
  VJ prog 151 #[.slice (Vz ⟨g,0,Vx⟩) n cap,.int .i64 (i:Int),.slice (Vz ⟨vb,0,Vx⟩) m vc] w fun e w'=>∃v',e= .returned v'∧w'.ownsRow base 3 1 v' (n+1) (dn rows i x).flatten∧VS g w w':=by
 obtain⟨i0,hi,hz0,hz1,hz2⟩:=info_parts nY
 unfold VP at h2
 have z1:((m:Int)==0)=Vw:=beq_eq_false_iff_ne.2 (by omega)
 have z2:((i:Int)==(n:Int))=Vw:=beq_eq_false_iff_ne.2 (by omega)
 have hsz:(prog.info? 3).map (·.size)=Vz 1:=by rw[hi];simp[hz1]
 have hso:∀w,(Go.sizeOf 3).run prog w= .ok 1 w:=fun w=>by simp[sizeOf,typeInfo,hi,hz1]
 have hfl:rows.flatten.length=n*1:=by rw[bt hw,hn]
 obtain⟨B,hB⟩:∃B,(rows.drop i).flatten=B:=⟨_,rfl⟩
 have hBl:B.length=(n-i)*1:=by rw[←hB,bt (fun r hr=>hw r (List.mem_of_mem_drop hr)),List.length_drop,hn]
 have h1B:∀u∈B,u.oneCell'=VD:=by
  intro u hu
  rw[←hB] at hu
  obtain⟨r,hr,hur⟩:=List.mem_flatten.1 hu
  exact hone r (List.mem_of_mem_drop hr) u hur
 have hsrc:∀t u,B[t]?=Vz u→w.cell? ⟨g,i*1+t,Vx⟩=Vz u:=by
  intro t u hu
  have ht:t<B.length:=(List.getElem?_eq_some_iff.1 hu).1
  rw[←hB,←j7 hw (by omega),List.getElem?_drop,←h4,List.getElem?_take] at hu
  rw[if_pos (by rw[hBl] at ht;omega)] at hu
  rw[show w.cell? ⟨g,i*1+t,Vx⟩=cur[i*1+t]? by simp[World.cell?,hh]]
  simpa using hu
 have hov:∀lb cb,(callFunc 211 #[.slice (Vz ⟨vb,0,Vx⟩) m vc,.slice (Vz ⟨g,(i+m)*1,Vx⟩) lb cb]).run prog w= .ok (.value (.bool Vw)) w:=fun lb cb=>by
  rw[run_callFunc_extern func211 (by kernel_rfl) (by kernel_rfl) (by kernel_rfl) (e:=Extern.SlicesOverlaps.overlaps #[25,25] #[4]) (by kernel_rfl),
   Lib.run_overlaps_apart w 25 4 3 underlying25 1 hso ⟨vb,0,Vx⟩ ⟨g,(i+m)*1,Vx⟩ m vc lb cb hvb 3 3 x.length cur.size (by unfold ai at hxb;simp[World.shape?,hxb]) (by simp[World.shape?,hh]) (by omega) (hxb.frozen _) (hxb.frozen _)]
  rfl
 have hcp1:∀ty dc sc,(Builtin.copy_ #[25,25] ty #[.slice (Vz ⟨g,(i+m)*1,Vx⟩) (n+m-(i+m)) dc,.slice (Vz ⟨g,i*1,Vx⟩) (n+m-i) sc]).run prog w.drew= .ok (goInt ((n-i:Nat):Int)) (w.drew.setRow g (putAt cur ((i+m)*1) B.toArray)):=fun ty dc sc=>
  fM w.drew _ _ ty 3 g ((i+m)*1) (n+m-(i+m)) dc ⟨g,i*1,Vx⟩ (n+m-i) sc cur 3 B 1 (n-i) underlying25 hsz hh (by simp only[Nat.min_def];split <;>omega) hBl
   (fun t u hu=>by rw[Addr.add_lit];exact hsrc t u hu) (by rw[hBl,h3];omega) h1B
 have c1:(putAt cur ((i+m)*1) B.toArray).size=cap*1:=by rw[fK (by simp[hBl,h3];omega),h3]
 obtain⟨W1,hW1⟩:∃W1,w.drew.setRow g (putAt cur ((i+m)*1) B.toArray)=W1:=⟨_,rfl⟩
 rw[hW1] at hcp1
 have hh1:W1.heap[g]?=Vz (.cells (putAt cur ((i+m)*1) B.toArray) 3 (0,0)):=by rw[←hW1];exact setRow_heap (w:=w.drew) hh _
 have hb1:VS g w W1:=by rw[←hW1];exact ah (Below.drew (Below.refl _ _)) (Vu _) _
 have hx1:ai W1 vb 3 x:=by
  have:(w.drew.setRow g (putAt cur ((i+m)*1) B.toArray)).heap[vb]?=w.heap[vb]?:=by simp only[World.setRow,Array.getElem?_modify];rw[if_neg (Ne.symm hvb)];rfl
  unfold ai
  rw[←hW1,this]
  exact hxb
 have hcp2:∀(W:Vt),W.heap=W1.heap→∀ty dc,(Builtin.copy_ #[25,25] ty #[.slice (Vz ⟨g,i*1,Vx⟩) (n+m-i) dc,.slice (Vz ⟨vb,0,Vx⟩) m vc]).run prog W= .ok (goInt m) (W.setRow g (putAt (putAt cur ((i+m)*1) B.toArray) (i*1) x.toArray)):=fun W hW ty dc=>
  fM W _ _ ty 3 g (i*1) (n+m-i) dc ⟨vb,0,Vx⟩ m vc _ 3 x 1 m underlying25 hsz (by rw[hW];exact hh1) (by simp only[Nat.min_def];split <;>omega) (by rw[hx,hm])
   (fun t u hu=>by rw[Addr.add_lit,Nat.zero_add];exact(World.cell?_of_block (by rw[hW])).trans ((hx1.cell t).trans hu)) (by rw[hx,c1];omega) h1x
 have hc2:(putAt (putAt cur ((i+m)*1) B.toArray) (i*1) x.toArray).size=cap*1:=by rw[fK (by rw[c1];simp[hx];omega),c1]
 have htk:(putAt (putAt cur ((i+m)*1) B.toArray) (i*1) x.toArray).toList.take ((n+1)*1)=(dn rows i x).flatten:=by
  refine oS (cur:=cur) hw hn hx hin ?_ (by rw[h3];omega) (N:=(i+m)*1+B.length) ?_
  ·rw[←h4,List.take_take,Nat.min_eq_left (by omega)]
  ·rw[rQ (by simp only[List.size_toArray,hx,hm];omega) (by simp only[List.size_toArray,hBl,h3];omega),hB,List.size_toArray]
 have hlenF:(dn rows i x).flatten.length=(n+1)*1:=by rw[bt (qm hw hx i),me rows i x (by omega),hn]
 have hroom2:n+1≤cap:=by omega
 have hfin:∀W:Vt,W.heap=W1.heap→(VS g w W1→VS g w W)→∃v',Ending.returned (.slice (Vz ⟨g,0,Vx⟩) (n+m) cap)= .returned v'∧(W.setRow g (putAt (putAt cur ((i+m)*1) B.toArray) (i*1) x.toArray)).ownsRow base 3 1 v' (n+1) (dn rows i x).flatten∧VS g w (W.setRow g (putAt (putAt cur ((i+m)*1) B.toArray) (i*1) x.toArray)):=by
  intro W hW hbW
  refine⟨_,rfl,⟨hlenF,.inr ⟨g,cap,_,by rw[hm],hb,setRow_heap (by rw[hW];exact hh1) _,hroom2,by unfold VP;omega,hc2,htk⟩⟩,ah (hbW hb1) (Vu _) _⟩
 have HF:=Vs hfin
 have H1:=Vs hcp1
 have H2:=Vs hcp2
 have mixed:prog.follows .mixedOrders=VD:=by kernel_rfl
 have q1:i≤n:=by omega
 have w1:VH.wrap ((i:Int)+(m:Int))=(i:Int)+(m:Int):=by rw[IntKind.wrap_i64];omega
 have w2:(0:Int)≤(i:Int)+(m:Int):=by omega
 have w3:((i:Int)+(m:Int)).toNat=i+m:=by omega
 have w4:(i:Int)≤(n:Int)+(m:Int):=by omega
 have q2:¬(cap=i+m):=by omega
 have q3:¬(cap=i):=by omega
 have q4:m≤1:=by omega
 have q5:1≤m:=by omega
 clear hfin hcp1 hcp2 hW1 hh1 hb1 hx1 c1 hc2 htk hlenF hroom2 hm hsrc h1B hBl hB hfl hsz hso h3 h4 hh hxb hx h1x hw hone hn hi hz0 hz1 hz2
 simp only[Nat.mul_one] at hov
 go_enter func151,ntmps151
 go_wp2_with(simp only[hov])
 go_region_law_o(refine step_copy_runI rfl _ _ 25 25 rfl _ _ (by simp[Act.eval,Act.put]) (by simp[Act.eval,Act.put]) (H1.out 3 (cap-(i+m)) (cap-i)) ?_)
 have hk2:=H2.out W1 rfl
 simp only[Nat.mul_one] at hk2
 go_wp2
 go_ret
 have hf:=HF.out _ rfl (fun h=>h)
 simp only[Nat.mul_one] at hf⊢
 exact hf
theorem Ho(w:Vt)(base g n cap i m vb vc:Nat)(cur:Array Vy)(rows:List (List Vy))(x:List Vy)(hbw:base≤w.heap.size)(hh:w.heap[g]?=Vz (.cells cur 3 (0,0)))(h3:cur.size=cap*1)(h4:cur.toList.take (n*1)=rows.flatten)
  (hn:rows.length=n)(hw:de 1 rows)(hone:jG rows)(hx:x.length=1)(h1x:∀u∈x,u.oneCell'=VD)(hxb:ai w vb 3 x)(hm:m=1)(hin:i<n)(hnc:n≤cap)(hroom:cap<n+m)(hlen:n≤1000000):
  VJ prog 151 #[.slice (Vz ⟨g,0,Vx⟩) n cap,.int .i64 (i:Int),.slice (Vz ⟨vb,0,Vx⟩) m vc] w fun e w'=>∃v',e= .returned v'∧w'.ownsRow base 3 1 v' (n+1) (dn rows i x).flatten∧VS base w w':=by
 obtain⟨i0,hi,hz0,hz1,hz2⟩:=info_parts nY
 have z1:((m:Int)==0)=Vw:=beq_eq_false_iff_ne.2 (by omega)
 have z2:((i:Int)==(n:Int))=Vw:=beq_eq_false_iff_ne.2 (by omega)
 have hsz:(prog.info? 3).map (·.size)=Vz 1:=by rw[hi];simp[hz1]
 have hgw:g<w.heap.size:=(VF.1 hh).1
 have hfl:rows.flatten.length=n*1:=by rw[bt hw,hn]
 obtain⟨B,hB⟩:∃B,(rows.drop i).flatten=B:=⟨_,rfl⟩
 have hBl:B.length=(n-i)*1:=by rw[←hB,bt (fun r hr=>hw r (List.mem_of_mem_drop hr)),List.length_drop,hn]
 have h1B:∀u∈B,u.oneCell'=VD:=by
  intro u hu
  rw[←hB] at hu
  obtain⟨r,hr,hur⟩:=List.mem_flatten.1 hu
  exact hone r (List.mem_of_mem_drop hr) u hur
 have hsrc:∀t u,B[t]?=Vz u→w.cell? ⟨g,i*1+t,Vx⟩=Vz u:=by
  intro t u hu
  have ht:t<B.length:=(List.getElem?_eq_some_iff.1 hu).1
  rw[←hB,←j7 hw (by omega),List.getElem?_drop,←h4,List.getElem?_take] at hu
  rw[if_pos (by rw[hBl] at ht;omega)] at hu
  rw[show w.cell? ⟨g,i*1+t,Vx⟩=cur[i*1+t]? by simp[World.cell?,hh]]
  simpa using hu
 have hol:(rows.flatten.take (i*1)).length=i*1:=by rw[List.length_take,hfl];omega
 have hold:(Builtin.firstCells i0.size i (.slice (Vz ⟨g,0,Vx⟩) i cap)).run prog w.drew= .ok (rows.flatten.take (i*1)).toArray w.drew:=by
  rw[hz1]
  exact run_firstCells_some w.drew 1 i ⟨g,0,Vx⟩ i cap (rows.flatten.take (i*1)) hol (fun t u hu=>by
   rw[Addr.add_lit,Nat.zero_add]
   have ht:t<i*1:=by rw[←hol];exact(List.getElem?_eq_some_iff.1 hu).1
   rw[List.getElem?_take,if_pos ht,←h4,List.getElem?_take,if_pos (by omega)] at hu
   show w.cell? ⟨g,t,Vx⟩=Vz u
   rw[show w.cell? ⟨g,t,Vx⟩=cur[t]? by simp[World.cell?,hh]]
   simpa using hu)
 have hik:i+(n+m-i)=n+m:=by omega
 have hkk:(n:Int)+(m:Int)-(i:Int)=((n+m-i:Nat):Int):=by omega
 obtain⟨G,hG⟩:∃G,grownCap w (n+m) cap 3=G:=⟨_,rfl⟩
 have hGn:n+m≤G:=by rw[←hG];exact grownCap_ge w _ _ _
 have hG63:G≤VP:=by rw[←hG];exact grownCap_le_maxLen w (n+m) cap 3 (by unfold VP;omega)
 obtain⟨ROW,hROW⟩:∃ROW:Array Vy,(rows.flatten.take (i*1)).toArray++Builtin.zeroCells (Value.cells (.int .i64 0)) (n+m-i)++Builtin.zeroCells (Value.cells (.int .i64 0)) (G-(n+m))=ROW:=⟨_,rfl⟩
 have hRl:ROW.size=G*1:=by
  rw[←hROW]
  simp only[Array.size_append,List.size_toArray,hol,Builtin.zeroCells,Array.size_map,Array.size_range]
  show i*1+(n+m-i)*1+(G-(n+m))*1=_
  omega
 have hRt:ROW.toList.take (i*1)=rows.flatten.take (i*1):=by
  rw[←hROW,Array.toList_append,Array.toList_append,List.append_assoc,List.take_left' hol]
 have hrz:∀ty,(Builtin.append_ #[25,3] ty #[.slice (Vz ⟨g,0,Vx⟩) i cap,.int .i64 ((n:Int)+(m:Int)-(i:Int))]).run prog w=
   .ok (.slice (Vz ⟨w.heap.size,0,Vx⟩) (n+m) G) (w.drew.alloc (.cells ROW 3)):=fun ty=>by
  have h:=Lib.run_append_grow_zeros w 25 3 ty 3 i0 _ .i64 .i64 underlying25 underlying3 hi hz0 (Vz ⟨g,0,Vx⟩) i cap _ hold (n+m-i) (by omega) (by omega) (by omega) (by omega) (by rw[hz2];omega) (by rw[hz2,hik];exact growslice_fits hroom (by omega))
  rw[hik,hG] at h
  rw[hkk,←hROW]
  exact h
 obtain⟨W1,hW1⟩:∃W1,w.drew.alloc (.cells ROW 3)=W1:=⟨_,rfl⟩
 rw[hW1] at hrz
 have hh1:W1.heap[w.heap.size]?=Vz (.cells ROW 3 (0,0)):=by rw[←hW1];exact VG w.drew _
 have hb1:VS w.heap.size w W1:=by rw[←hW1];exact(Below.drew (Below.refl _ _)).alloc (Vu _) _
 have hx1:ai W1 vb 3 x:=hxb.ext hb1
 have hg1:∀t u,w.cell? ⟨g,t,Vx⟩=Vz u→W1.cell? ⟨g,t,Vx⟩=Vz u:=fun t u h=>(hb1.cell hgw).trans h
 have hcpA:∀ty dc,(Builtin.copy_ #[25,25] ty #[.slice (Vz ⟨w.heap.size,i*1,Vx⟩) (n+m-i) dc,.slice (Vz ⟨vb,0,Vx⟩) m vc]).run prog W1= .ok (goInt m) (W1.setRow w.heap.size (putAt ROW (i*1) x.toArray)):=fun ty dc=>
  fM W1 _ _ ty 3 w.heap.size (i*1) (n+m-i) dc ⟨vb,0,Vx⟩ m vc _ 3 x 1 m underlying25 hsz hh1 (by simp only[Nat.min_def];split <;>omega) (by rw[hx,hm])
   (fun t u hu=>by rw[Addr.add_lit,Nat.zero_add];exact(hx1.cell t).trans hu) (by rw[hx,hRl];omega) h1x
 obtain⟨W2,hW2⟩:∃W2,W1.setRow w.heap.size (putAt ROW (i*1) x.toArray)=W2:=⟨_,rfl⟩
 rw[hW2] at hcpA
 have c1:(putAt ROW (i*1) x.toArray).size=G*1:=by rw[fK (by simp only[List.size_toArray,hx,hRl];omega),hRl]
 have hh2:W2.heap[w.heap.size]?=Vz (.cells (putAt ROW (i*1) x.toArray) 3 (0,0)):=by rw[←hW2];exact setRow_heap hh1 _
 have hb2:VS w.heap.size w W2:=by rw[←hW2];exact ah hb1 (Vu _) _
 have hcpB:∀ty dc sc,(Builtin.copy_ #[25,25] ty #[.slice (Vz ⟨w.heap.size,(i+m)*1,Vx⟩) (n+m-(i+m)) dc,.slice (Vz ⟨g,i*1,Vx⟩) (n-i) sc]).run prog W2.drew= .ok (goInt ((n-i:Nat):Int)) (W2.drew.setRow w.heap.size (putAt (putAt ROW (i*1) x.toArray) ((i+m)*1) B.toArray)):=fun ty dc sc=>
  fM W2.drew _ _ ty 3 w.heap.size ((i+m)*1) (n+m-(i+m)) dc ⟨g,i*1,Vx⟩ (n-i) sc _ 3 B 1 (n-i) underlying25 hsz hh2 (by simp only[Nat.min_def];split <;>omega) hBl
   (fun t u hu=>by rw[Addr.add_lit];exact(hb2.cell hgw).trans (hsrc t u hu)) (by rw[hBl,c1];omega) h1B
 have hc2:(putAt (putAt ROW (i*1) x.toArray) ((i+m)*1) B.toArray).size=G*1:=by rw[fK (by simp only[List.size_toArray,hBl,c1];omega),c1]
 have htk:(putAt (putAt ROW (i*1) x.toArray) ((i+m)*1) B.toArray).toList.take ((n+1)*1)=(dn rows i x).flatten:=by
  refine oS (cur:=ROW) hw hn hx hin hRt (by rw[hRl];omega) (N:=(i+m)*1+B.length) ?_
  rw[uZ (by simp only[List.size_toArray,hx,hm];omega) (by simp only[List.size_toArray,hBl,hRl];omega),hB,List.size_toArray]
 have hlenF:(dn rows i x).flatten.length=(n+1)*1:=by rw[bt (qm hw hx i),me rows i x (by omega),hn]
 have hG1:n+1≤G:=by omega
 have hfin:∃v',Ending.returned (.slice (Vz ⟨w.heap.size,0,Vx⟩) (n+m) G)= .returned v'∧(W2.drew.setRow w.heap.size (putAt (putAt ROW (i*1) x.toArray) ((i+m)*1) B.toArray)).ownsRow base 3 1 v' (n+1) (dn rows i x).flatten∧VS base w (W2.drew.setRow w.heap.size (putAt (putAt ROW (i*1) x.toArray) ((i+m)*1) B.toArray)):=
  ⟨_,rfl,⟨hlenF,.inr ⟨w.heap.size,G,_,by rw[hm],hbw,setRow_heap (w:=W2.drew) hh2 _,hG1,hG63,hc2,htk⟩⟩,ah ((Below.drew hb2).mono hbw) hbw _⟩
 have HF:=Vs hfin
 have HB:=Vs hcpB
 have mixed:prog.follows .mixedOrders=VD:=by kernel_rfl
 unfold VP at hG63
 have q1:i≤n:=by omega
 have w1:VH.wrap ((i:Int)+(m:Int))=(i:Int)+(m:Int):=by rw[IntKind.wrap_i64];omega
 have w2:(0:Int)≤(i:Int)+(m:Int):=by omega
 have w3:((i:Int)+(m:Int)).toNat=i+m:=by omega
 have w4:(i:Int)≤(n:Int)+(m:Int):=by omega
 have w5:(cap:Int)<(n:Int)+(m:Int):=by omega
 have q2:¬(G=i+m):=by omega
 have q3:¬(G=i):=by omega
 have q4:m≤1:=by omega
 have q5:1≤m:=by omega
 have q6:¬(cap=i):=by omega
 clear hfin hcpB hW1 hW2 hh1 hh2 hb1 hb2 hx1 hg1 c1 hc2 htk hlenF hG1 hm hsrc h1B hBl hB hfl hsz h3 h4 hh hxb hx h1x hw hone hn hi hz0 hz1 hz2 hold hol hik hkk hRl hRt hROW hG hgw
 simp only[Nat.mul_one] at hcpA
 go_enter func151,ntmps151
 go_wp2_with(at_builtin;refine Lib.wpList_append_run _ rfl _ _ _ _ rfl _ _ rfl rfl _ _ (hrz _) ?_)
 go_region_law_o(refine step_copy_runI rfl _ _ 25 25 rfl (.slice (Vz ⟨w.heap.size,(i+m)*1,Vx⟩) (n+m-(i+m)) (G-(i+m))) (.slice (Vz ⟨g,i*1,Vx⟩) (n-i) (cap-i)) (by simp[Act.eval,Act.put]) (by simp[Act.eval,Act.put]) (HB.out 3 (G-(i+m)) (cap-i)) ?_)
 go_wp2
 go_ret
 have hf:=HF.out
 simp only[Nat.mul_one] at hf⊢
 exact hf
def Mx(w:Vt)(base n i vb vc:Nat)(v:Vy)(rows:List (List Vy))(x:List Vy)(ho:w.ownsRow base 3 1 v n rows.flatten)(hn:ln rows=n)(hw:de 1 rows)(hone:jG rows)
  (hx:ln x=1)(h1x:∀u∈x,u.oneCell'=VD)(hxb:ai w vb 3 x)(hvb:v.ownBlock≠Vz vb)(hi:i<=n)(hlen:n<=1000000)(hbw:base<=w.heap.size):
  VJ prog 151 #[v,VZ VH (i:Int),VV (Vz ⟨vb,0,Vx⟩) 1 vc] w λe w'=>∃v',e=V0 v'/\w'.ownsRow base 3 1 v' (n+1) (dn rows i x).flatten/\VS base w w':=by
 by_cases hin:i=n
 ·subst hin;have e:dn rows i x=rows++[x]:=by unfold dn;rw[<-hn,List.take_length,List.drop_length]
  rw[e];exact Me w base i 1 vb vc v rows x ho hx h1x hxb rfl hlen hbw
 ·obtain⟨g,cap,cur,rfl,hb,hh,h1,h2,h3,h4⟩:=kH ho V7;by_cases hroom:n+1<=cap
  ·refine(DT w base g n cap i 1 vb vc cur rows x hb hh h2 h3 h4 hn hw hone hx h1x hxb (λe=>hvb XB) rfl V7 hroom hlen).mono ?_;rintro e w' ⟨v',rfl,h5,h6⟩;exact⟨v',rfl,h5,h6.mono hb⟩
  ·exact Ho w base g n cap i 1 vb vc cur rows x hbw hh h3 h4 hn hw hone hx h1x hxb rfl V7 h1 V7 hlen
end
section
open Kp
def Pe(n:Int): -9223372036854775808<=VH.wrap n/\VH.wrap n<=9223372036854775807:=by
 rw[IntWalk.i64_left];unfold RowKit.wrap64;omega
end
section
open Kp
def ir{fn:Func}{t u v x:Tmp}(h:fn.results=#[.tmp t,.tmp u,.tmp v,.tmp x])(tmps:Array Vy)(P:Program)(w:Vt):
  (results fn tmps).run P w= .ok (V6 #[tmps.getD t VB,tmps.getD u VB,tmps.getD v VB,tmps.getD x VB]) w:=by
 simp[results,h]
end
section
open Kp
def nK(y:ByteArray):Nat:=y.data.toList.findIdx (· ==47)
def aL(z:ByteArray):Bool×ByteArray×ByteArray×Bool:=
 let m:=z.data.toList.head?==Vz 45
 let y:=if m then z.extract 1 z.size else z
 if nK y<y.size then(m,y.extract 0 (nK y),y.extract (nK y+1) y.size,VD) else(m,y,⟨#[]⟩,Vw)
def pT(v:Bool×ByteArray×ByteArray×Bool):Vy:= V6 #[VX v.1,VW v.2.1,VW v.2.2.1,VX v.2.2.2]
theorem Lw(hk:k<y.size)(h:∀m (hm:m<k),((y[m]'V7).toNat:Int)≠47)(h2:((y[k]'hk).toNat:Int)=47):nK y=k:=by
 unfold nK;have hk':k<ln y.data.toList:=by rw[Array.length_toList];exact hk
 rw[List.findIdx_eq hk'];refine⟨?_,λm hm=> ?_⟩
 ·have e:y[k]'hk=y.data.toList[k]:=WY;rw[e] at h2;rw[beq_iff_eq];exact UInt8.toNat_inj.1 (by have:(47:UInt8).toNat=47:=rfl;omega)
 ·have hm':=h m hm;have e:y[m]'V7=y.data.toList[m]'(by rw[Array.length_toList];exact Nat.lt_trans hm hk):=WY;exact a0n
theorem E4(h:∀m (hm:m<y.size),((y[m]'hm).toNat:Int)≠47):nK y=y.size:=by
 unfold nK;have hl:ln y.data.toList=y.size:=Array.length_toList;rw[<-hl,List.findIdx_eq_length];intro x hx;obtain⟨m,hm,rfl⟩:=List.mem_iff_getElem.1 hx;have hm2:m<y.size:=hl▸hm;have hm':=h m hm2;have e:y[m]'hm2=y.data.toList[m]:=WY;exact a0n
end
section
open Kp
def DY(y:ByteArray)(k:Nat):Prop:=∀m (_:m<k) (h:m<y.size),((y[m]'h).toNat:Int)≠47
theorem tM{g:Bool}(hg:(z.data.toList.head?==Vz 45)=g)(hy:(if g then z.extract 1 z.size else z)=y):
  (∀k (hk:k<y.size),DY y k->((y[k]'hk).toNat:Int)=47->aL z=(g,y.extract 0 k,y.extract (k+1) y.size,VD))/\(DY y y.size->aL z=(g,y,⟨#[]⟩,Vw)):=by
 have hv:aL z=if nK y<y.size then(g,y.extract 0 (nK y),y.extract (nK y+1) y.size,VD) else(g,y,⟨#[]⟩,Vw):=by
  unfold aL;simp only[hg,hy]
 refine⟨λk hk hn h=> ?_,λhn=> ?_⟩
 ·rw[hv,Lw hk (λm hm=>hn m hm V7) h,if_pos hk]
 ·rw[hv,E4 (λm hm=>hn m hm hm),if_neg (Nat.lt_irrefl _)]
theorem P9(hp:0<z.size):(z.data.toList.head?==Vz 45)=(((z[0]'hp).toNat:Int)==45):=by
 have hl:0<ln z.data.toList:=by rw[Array.length_toList];exact hp
 have e:z[0]'hp=z.data.toList[0]:=WY;rw[e,List.head?_eq_getElem?,VA hl,Bool.eq_iff_iff,beq_iff_eq,beq_iff_eq];constructor
 ·intro h;injection h with h;rw[h];rfl
 ·intro h;congr 1;exact UInt8.toNat_inj.1 (by have:(45:UInt8).toNat=45:=rfl;omega)
def nT(z:ByteArray)(w:Vt)(hs:z.size<=1000000):VJ prog 250 #[VW z] w λx w'=>x=V0 (pT (aL z))/\Ext w w':=by
 by_cases h0:z.size=0
 ·have hz:z.data.toList=[]:=List.length_eq_zero_iff.1 (by rw[Array.length_toList];exact h0);have HY:=Vs (tM (z:=z) (y:=z) (g:=Vw) (by rw[hz];rfl) rfl);clear hz;go_enter func250,ntmps250;go_wp2;go_loopw [8] (λi wr=>∃k:Nat,i=VZ VH (k:Int)/\k<=z.size/\Ext w wr/\DY z k) (λi _=>((z.size:Int)-VN i).toNat)
  case atStart=>exact⟨0,rfl,V7,Below.refl _ _,λm hm _=>V7⟩
  case round=>
   obtain⟨k,rfl,hk,hX,hno⟩:=hrel;have HX:=Vs hX;have HN:=Vs hno;clear hX hno;by_cases hlt:k<z.size
   ·exact absurd hlt V7
   ·exact a0p
 have hp:0<z.size:=V7;obtain⟨p2,t2⟩:∃p,(((z[0]'hp).toNat:Int)==45)=p:=⟨_,rfl⟩;obtain⟨y,hy⟩:∃y,z.extract 1 z.size=y:=⟨_,rfl⟩;have hys:y.size<=z.size:=by rw[<-hy];simp
 have hyl:y.size<=1000000:=V7;have hh:=(P9 hp).trans t2;cases p2 with
 |false=>
  have HY:=Vs (tM hh rfl);clear hy hys hyl hh;go_enter func250,ntmps250;go_wp2;go_loopw [8] (λi wr=>∃k:Nat,i=VZ VH (k:Int)/\k<=z.size/\Ext w wr/\DY z k) (λi _=>((z.size:Int)-VN i).toNat)
  case atStart=>exact⟨0,rfl,V7,Below.refl _ _,λm hm _=>V7⟩
  case round=>
   obtain⟨k,rfl,hk,hX,hno⟩:=hrel;have HX:=Vs hX;have HN:=Vs hno;clear hX hno;by_cases hlt:k<z.size
   ·obtain⟨p,tp⟩:∃p,(((z[k]'hlt).toNat:Int)==47)=p:=⟨_,rfl⟩;have HP:=Vs tp;cases p with
    |true=>
     have HR:=Vs (show aL z=(Vw,z.extract 0 k,z.extract (k+1) z.size,VD) from HY.o.1 k hlt HN.o (beq_iff_eq.1 HP.o));exact a0o
    |false=>
     have HNN:=Vs (show DY z (k+1) fromλm hm h=>by
      by_cases e:m=k
      ·subst e;exact beq_eq_false_iff_ne.1 HP.o
      ·exact HN.o m V7 h)
     go_wp2;exact⟨⟨k+1,by go_num,V7,HX.o,HNN.o⟩,Wc⟩
   ·exact a0p
 |true=>
  have HY:=Vs (tM hh hy);clear hh;go_enter func250,ntmps250;go_wp2;go_loopw [8] (λi wr=>∃k:Nat,i=VZ VH (k:Int)/\k<=y.size/\Ext w wr/\DY y k) (λi _=>((y.size:Int)-VN i).toNat)
  case atStart=>exact⟨0,rfl,V7,Below.refl _ _,λm hm _=>V7⟩
  case round=>
   obtain⟨k,rfl,hk,hX,hno⟩:=hrel;have HX:=Vs hX;have HN:=Vs hno;clear hX hno;by_cases hlt:k<y.size
   ·obtain⟨p,tp⟩:∃p,(((y[k]'hlt).toNat:Int)==47)=p:=⟨_,rfl⟩;have HP:=Vs tp;cases p with
    |true=>
     have HR:=Vs (show aL z=(VD,y.extract 0 k,y.extract (k+1) y.size,VD) from HY.o.1 k hlt HN.o (beq_iff_eq.1 HP.o));exact a0o
    |false=>
     have HNN:=Vs (show DY y (k+1) fromλm hm h=>by
      by_cases e:m=k
      ·subst e;exact beq_eq_false_iff_ne.1 HP.o
      ·exact HN.o m V7 h)
     go_wp2;exact⟨⟨k+1,by go_num,V7,HX.o,HNN.o⟩,Wc⟩
   ·obtain rfl:k=y.size:=V7;have HR:=Vs (show aL z=(VD,y,⟨#[]⟩,Vw) from HY.o.2 HN.o);go_wp2;refine bodyPost_ret (ir rfl _ _ _) rfl ?_;exact⟨We,HX.o⟩
end
section
open Kp
structure Dg(z:ByteArray):Prop where
 pos:0<z.size
 lead:∀h:0<z.size,1<z.size->((z[0]'h).toNat:Int)≠48
 all:∀m (h:m<z.size),48<=((z[m]'h).toNat:Int)/\((z[m]'h).toNat:Int)<=57
def UX(z:ByteArray)(x:Ending):Prop:=∃b:Bool,x=V0 (VX b)/\(b=VD↔Dg z)
def Ug(z:ByteArray)(k:Nat):Prop:=∀m (_:m<k) (h:m<z.size),48<=((z[m]'h).toNat:Int)/\((z[m]'h).toNat:Int)<=57
def vC (z : ByteArray) (w : Vt) (hs : z.size <= 1000000) : VJ prog 251 #[VW z] w λx w' => UX z x /\ Ext w w' := by
  have HN := Vs (show ¬ Dg z -> UX z (V0 (VX Vw)) fromλhn => ⟨_, rfl, ⟨λh => Wb, λh => absurd h hn⟩⟩);obtain ⟨n, hn⟩ : ∃ n, z.size = n := ⟨_, rfl⟩;by_cases h0 : n = 0
  · have hz0 : z.size = 0 := hn.trans h0
    clear hn h0;go_enter func251, ntmps251;go_wp2;go_ret;exact ⟨HN.o (λh => by have := h.pos; omega), Below.refl _ _⟩
  have hp : 0 < z.size := V7;obtain ⟨p1, t1⟩ : ∃ p, decide ((n : Int) > 1) = p := ⟨_, rfl⟩;obtain ⟨p2, t2⟩ : ∃ p, (((z[0]'hp).toNat : Int) == 48) = p := ⟨_, rfl⟩;have t0 : ((n : Int) == 0) = Vw := beq_eq_false_iff_ne.2 V7;have hn6 : n <= 1000000 := V7;have HY := Vs (show (p1 = Vw \/ p2 = Vw) -> Ug z z.size -> UX z (V0 (VX VD)) fromλh ha => ⟨_, rfl, ⟨λ_ => ⟨hp, λ_ h1 => by
    rcases h with h | h
    · rw [h] at t1; have := of_decide_eq_false t1; omega
    · rw [h] at t2; exact beq_eq_false_iff_ne.1 t2, λm hm => ha m hm hm⟩, λ_ => rfl⟩⟩)
  have HL := Vs (show p1 = VD -> p2 = VD -> ¬ Dg z fromλh1 h2 h => by
    rw [h1] at t1; rw [h2] at t2; have := of_decide_eq_true t1; exact h.lead hp V7 (beq_iff_eq.1 t2))
  have HZ := Vs hn;clear h0;cases p1 <;> cases p2
  all_goals
    go_enter func251, ntmps251;go_wp2
    first
      | (go_ret
         exact ⟨HN.o (by first | exact HL.o rfl rfl | exact HL.o trivial trivial | exact HL.o Wa Wa | exact HL.o), Below.refl _ _⟩)
      | (go_loopw [3] (λi wr => ∃ k : Nat, i =VZ VH (k : Int) /\ k <= n /\ Ext w wr /\ Ug z k) (λi _ => ((n : Int) - VN i).toNat)
         case atStart => exact ⟨0, rfl, V7, Below.refl _ _, λm hm _ => V7⟩
         case round =>
           obtain ⟨k, rfl, hk, hX, ha⟩ := hrel;have HX := Vs hX;have HA := Vs ha;clear hX ha;by_cases hlt : k < n
           · have hb : k < z.size := by omega
             obtain ⟨q1, s1⟩ : ∃ p, decide (((z[k]'hb).toNat : Int) < 48) = p := ⟨_, rfl⟩;obtain ⟨q2, s2⟩ : ∃ p, decide (((z[k]'hb).toNat : Int) > 57) = p := ⟨_, rfl⟩;have S1 := Vs s1;have S2 := Vs s2;cases q1 with
             | true =>
               go_wp2;go_ret;exact ⟨HN.o (λh => by have := h.all k Wi; have := of_decide_eq_true S1.o; omega), HX.o⟩
             | false =>
               cases q2 with
               | true =>
                 go_wp2;go_ret;exact ⟨HN.o (λh => by have := h.all k Wi; have := of_decide_eq_true S2.o; omega), HX.o⟩
               | false =>
                 have HK := Vs (show Ug z (k + 1) fromλm hm h => by
                   by_cases e : m = k
                   · subst e
                     have a1 := of_decide_eq_false S1.o;have a2 := of_decide_eq_false S2.o;exact ⟨V7, V7⟩
                   · exact HA.o m V7 h)
                 go_wp2;exact ⟨⟨k + 1, by go_num, V7, HX.o, HK.o⟩, WI⟩
           · obtain rfl : k = n := by omega
             have HT := Vs (HY.o (by first | exact .inl rfl | exact .inr rfl | simp) (HZ.o ▸ HA.o));go_wp2;go_ret;exact ⟨HT.o, HX.o⟩)
end
section
open Kp
def pN(v:Bool×ByteArray×ByteArray×Bool):ByteArray:=if v.1 then(⟨#[45]⟩:ByteArray)++v.2.1 else v.2.1
def pD(v:Bool×ByteArray×ByteArray×Bool):ByteArray:=if v.2.2.2 then v.2.2.1 else⟨#[49]⟩
def kV(z:ByteArray):(aL z).2.1.size<=z.size:=by
 have key:∀(y:ByteArray) (q:Nat) (m:Bool),y.size<=z.size->(if q<y.size then(m,y.extract 0 q,y.extract (q+1) y.size,VD) else(m,y,(⟨#[]⟩:ByteArray),Vw)).2.1.size<=z.size:=by
  intro y q m hy;split
  ·show(y.extract 0 q).size<=z.size;rw[ByteArray.size_extract];omega
  ·exact hy
 exact a0q
def nA(z:ByteArray)(w:Vt)(hs:z.size<=1000000):VJ prog 255 #[VW z] w λx w'=>x=V0 (V6 #[VW (pN (aL z)),VW (pD (aL z))])/\Ext w w':=by
 have KS:=Vs (nT z w hs);have hn:=kV z;obtain⟨⟨g,n,d,sl⟩,hv⟩:∃v,aL z=v:=⟨_,rfl⟩;rw[hv] at KS hn;dsimp only at hn;rw[hv];clear hv;cases g<;>cases sl
 all_goals
  go_enter func255,ntmps255;go_wp2_with(go_at_call 250;go_must(refine KS.o.mono ?_);unfold pT;rintro e W1 ⟨rfl,hX1⟩;have HX1:=Vs hX1;clear hX1)
  go_ret2;exact⟨rfl,HX1.o⟩
end
section
open Kp
def Qh{n:Int}(h0: -9223372036854775808<=n)(h1:n<=9223372036854775807):(tx (Lib.itoa n)).size<=1000:=by
 rw[ak];unfold Lib.itoa;split
 ·have:=pP n.natAbs 20 V9 V7;rw[List.length_cons,Lib.decDigits_length];omega
 ·have:=pP n.toNat 20 V9 V7;rw[Lib.decDigits_length];omega
end
section
open Kp
def nB(z:ByteArray)(w:Vt)(h:DI z):VJ prog 309 #[VW z] w λx w'=>x=V0 (VZ VH 0)/\Ext w w':=by
 obtain⟨n,hn⟩:∃n,z.size=n:=⟨_,rfl⟩;have hp:0<z.size:=h.pos;have hn3:n<=300:=by have:=h.len;omega
 have H:=Vs h;obtain⟨p1,t1⟩:∃p,(((z[0]'hp).toNat:Int)==45)=p:=⟨_,rfl⟩;obtain⟨p2,t2⟩:∃p,(((z[0]'hp).toNat:Int)==48)=p:=⟨_,rfl⟩;obtain⟨p3,t3⟩:∃p,decide ((n:Int)>1)=p:=⟨_,rfl⟩;obtain rfl:p1=Vw:=by
  cases p1
  ·rfl
  ·obtain⟨g,hg,e⟩:=h.at hp;have:=beq_iff_eq.1 t1;omega
 have h00:((0:Int)==(n:Int))=Vw:=beq_eq_false_iff_ne.2 V7;have h23:¬(p2=VD/\p3=VD):=by
  rintro⟨rfl,rfl⟩;exact h.lead hp (by have:=of_decide_eq_true t3;omega) (beq_iff_eq.1 t2)
 have H23:=Vs h23;have HN:=Vs hn;clear h h23;cases p2<;>cases p3
 case true.true=>exact absurd ⟨rfl,rfl⟩ H23.o
 all_goals
  go_enter func309,ntmps309;go_wp2;go_loopw [4] (λi wr=>∃k:Nat,i=VZ VH (k:Int)/\k<=n/\Ext w wr) (λi _=>((n:Int)-VN i).toNat)
  case atStart=>exact⟨0,rfl,V7,Below.refl _ _⟩
  case round=>
   obtain⟨k,rfl,hk,hX⟩:=hrel;have HX:=Vs hX;clear hX;by_cases hlt:k<n
   ·have hb:k<z.size:=V7;obtain⟨g,hg,e⟩:=H.o.at hb;have q1:decide (((z[k]'hb).toNat:Int)<48)=Vw:=decide_eq_false V7;have q2:decide (((z[k]'hb).toNat:Int)>57)=Vw:=decide_eq_false V7;clear e;go_wp2;exact⟨⟨k+1,by go_num,V7,HX.o⟩,Wc⟩
   ·obtain rfl:k=n:=V7;have t9:¬300<(k:Int)-0:=V7;exact ZR
def EJ(a b:ByteArray)(w:Vt)(ha:DI a)(hb:DI b):VJ prog 280 #[VW a,VW b] w λx w'=>x=V0 (VZ VH 0)/\Ext w w':=by
 have KA:=Vs (nB a w ha);have KB:=Vs (λW=>nB b W hb);exact a0r
theorem qd(h:DI z)(hk:k<=z.size):cJ z k<10^k:=by
 induction k with
 |zero=>exact Nat.one_pos
 |succ k ih=>
  obtain⟨g,hg,e⟩:=h.at (k:=k) V7;rw[iR V7 e,Nat.pow_succ];have:=ih V7;omega
theorem FX(h:k<=17):(10:Nat)^k<=100000000000000000:=Nat.pow_le_pow_right V9 h
def Rh(z:ByteArray)(x:Ending):Prop:=∃(v:Int) (ok:Bool),x=V0 (V6 #[VZ VH v,VX ok])/\(ok=VD->v=(cJ z z.size:Int))/\v.natAbs<3000000000000000000
def rC(y:ByteArray)(w:Vt)(h:DI y):VJ prog 310 #[VW y] w λx w'=>Rh y x/\Ext w w':=by
 have hp:=h.pos;have hs:y.size<=1000000:=by have:=h.len;omega
 by_cases h17:17<y.size
 ·exact a0t
 have H:=Vs h;have p1:(((y[0]'hp).toNat:Int)==45)=Vw:=by
  obtain⟨g,hg,e⟩:=h.at hp;rw[beq_eq_false_iff_ne];omega
 clear h;go_enter func310,ntmps310;go_wp2;go_loopw [4,5] (λn i wr=>∃(k:Nat),n=VZ VH (cJ y k:Nat)/\i=VZ VH (k:Int)/\k<=y.size/\Ext w wr) (λ_ i _=>((y.size:Int)-VN i).toNat)
 case atStart=>exact⟨0,rfl,rfl,V7,Below.refl _ _⟩
 case round=>
  obtain⟨k,rfl,rfl,hk,hX⟩:=hrel;have HX:=Vs hX;have hv:=Nat.lt_of_lt_of_le (qd H.o hk) (FX V7);obtain⟨v,hvv⟩:∃v,cJ y k=v:=⟨_,rfl⟩;rw[hvv] at hv⊢;have HV:=Vs hvv;clear hX hvv;by_cases hlt:k<y.size
  ·obtain⟨g,hg,e⟩:=H.o.at hlt;have HS:=Vs (iR hlt e);have hd:(((y[k]'hlt).toNat:Int)-48)%256=(g:Int):=by rw[e];omega
   have q:(((y[k]'hlt).toNat:Int) !=45)=VD:=WX;exact a0s
  ·obtain rfl:k=y.size:=V7;go_wp2;go_ret2;exact⟨⟨_,_,rfl,λ_=>by rw[HV.o],V7⟩,HX.o⟩
def UN(a b:ByteArray)(x:Ending):Prop:=∃(u v:Int) (ok:Bool),x=V0 (V6 #[VZ VH u,VZ VH v,VX ok])/\u.natAbs<3000000000000000000/\v.natAbs<3000000000000000000/\(ok=VD->u=(cJ a a.size:Int)/\v=(cJ b b.size:Int))
def Iq (a b : ByteArray) (w : Vt) (ha : DI a) (hb : DI b) : VJ prog 281 #[VW a, VW b] w λx w' => UN a b x /\ Ext w w' := by
  have KA := Vs (rC a w ha);have KB := Vs (λW => rC b W hb);exact a0u
end
section
open Kp
theorem DI.G7(h:DI z):Kh z:=
 ⟨⟨0,V7,h.pos,h.all,by have:=h.len;omega,⟨λe=>absurd e V9,λ⟨hp,e⟩=>by have:=h.all 0 (Vu _) hp hp;omega⟩⟩⟩
def JR(z:Int):(tx (Lib.itoa z)).toList=[49]↔z=1:=by
 have h1:Lib.itoa 1=[49]:=Xf;rw[ByteArray.toList_eq,bf,<-h1];constructor
 ·intro h;have:=congrArg Lib.atoi h;rw[xj,xj] at this;exact Option.some.inj this
 ·rintro rfl;rfl
def SG(a b:ByteArray)(e:Ending):Prop:=∃(t:ByteArray) (k:Int),e=V0 (V6 #[VW t,VZ VH k])/\t.size<=1000/\(t.toList=[49]↔Nat.gcd (cJ a a.size) (cJ b b.size)=1)
structure U1(w:Vt)(g:Nat)(x y:Vy)(wr:Vt):Prop where
 ex:∃a b,bB wr wr.heap.size x a/\bB wr wr.heap.size y b/\aY a/\aY b/\ln a<=51/\ln b<=51/\Nat.gcd (al a) (al b)=g
 low:Ext w wr
def Ip(a b:ByteArray)(w:Vt)(da:DI a)(db:DI b)(ht:aW w):VJ prog 254 #[VW a,VW b] w λe w'=>SG a b e/\Ext w w':=by
 have KB:=Vs (EJ a b w da db);have ha:a.size<=1000000:=by have:=da.len;omega
 have hb:b.size<=1000000:=by have:=db.len;omega
 obtain⟨g,hg⟩:∃g,Nat.gcd (cJ a a.size) (cJ b b.size)=g:=⟨_,rfl⟩;have DA:=Vs da;have DB:=Vs db;have HG:=Vs hg;have HZ:=Vs (show∀z:Int,z.natAbs=g->0<=z->((tx (Lib.itoa z)).toList=[49]↔Nat.gcd (cJ a a.size) (cJ b b.size)=1) fromλz h h0=>by
  rw[hg,JR];omega)
 clear da db hg;have HT:=Vs ht;have HA:=Vs ha;have HB:=Vs hb;have hfd:∀(p:Bool) (v:Vy) (W:Vt),(Instr.field 308 (V5 #[VX p,v]) 1).run prog W= .ok v W:=λ_ _ _=>V8
 clear ht;go_enter func254,ntmps254;go_wp2_with(first
  |(go_at_call 281;fail)
  |(go_at_call 280;go_loud (refine KB.o.mono ?_);rintro e W1 ⟨rfl,hX1⟩;have X1:=Vs hX1;clear hX1))
 ·refine(Iq a b W1 DA.o DB.o).mono ?_;rintro e W2 ⟨⟨x,y,ok,rfl,hx,hy,hv⟩,hX2⟩;have X2:=Vs (X1.o.tr hX2);have HV:=Vs hv;clear hX2 hv;cases ok
  ·go_wp2_with(first
    |(go_at_call 282;go_loud (refine(tP W3 b DB.o.G7).mono ?_);rintro e W4 ⟨s4,v4,l4,rfl,hs4,hc4,hl4,hX4,hv4⟩;have V4:=Vs (hv4 DB.o.all);clear hv4;have X4:=Vs (X3.o.tr hX4))
    |(go_at_call 282;go_loud (refine(tP W2 a DA.o.G7).mono ?_);rintro e W3 ⟨s3,v3,l3,rfl,hs3,hc3,hl3,hX3,hv3⟩;have V3:=Vs (hv3 DA.o.all);clear hv3;have X3:=Vs (X2.o.tr hX3)))
   have ST:=Vs (show U1 w g v3 v4 W4 from⟨⟨l3,l4,hs3.grow hX4,hs4,hc3,hc4,hl3,hl4,by rw[V3.o,V4.o];exact HG.o⟩,X4.o⟩);clear hs3 hs4 hc3 hc4 hl3 hl4;go_loopw [10,11] (λx y wr=>U1 w g x y wr) (λ_ y wr=>Gu y wr)
   case atStart=>exact ST.o
   case round=>
    obtain⟨⟨p,q,sx,sy,cx,cy,lx,ly,hgv⟩,hX⟩:=hrel;have HGV:=Vs hgv;clear hgv;have hvy:=qf sy;obtain⟨Ay,cpy,rfl,hy1,hy2,_⟩:=id sy;obtain⟨Ax,cpx,rfl,hx1,hx2,_⟩:=id sx;unfold VP at hy2 hx2;have HSY:=Vs sy;have HVY:=Vs hvy;have HX:=Vs hX;by_cases hq0:q=[]
    ·subst hq0;have CW:=Vs (B4 wr Vw _ p sx cx V7);clear sx sy hvy hX;go_wp2_with(go_at_call 284;go_loud (refine CW.o.mono ?_);rintro e W5 ⟨t,rfl,_,ht5,hX5,ht1⟩)
     go_ret2;exact⟨⟨_,_,rfl,V7,by rw[ht1 Wa,HG.o,<-HGV.o];show _↔Nat.gcd (al p) 0=1;rw[Nat.gcd_zero_right]⟩,HX.o.tr hX5⟩
    ·have hpos:0<ln q:=List.length_pos_iff.2 hq0;have hpos':decide (0<(ln q:Int))=VD:=Wn;have CD:=Vs (zQ wr p q _ _ sx sy cx.small cy V7 V7 hq0);clear sx sy hvy hX;go_wp2_with(go_at_call 283;go_loud (refine CD.o.mono ?_);rintro e W5 ⟨vq,vr,rl,rfl,hsr,hcr,hvr,hX5⟩)
     refine⟨⟨⟨q,rl,HSY.o.grow hX5,hsr,cy,hcr,ly,?_,by rw[hvr,Nat.gcd_comm,<-Nat.gcd_rec,Nat.gcd_comm];exact HGV.o⟩,HX.o.tr hX5⟩,?_⟩
     ·have:=kq hcr cy.small (by rw[hvr];exact Nat.le_of_lt (Nat.mod_lt _ (nQ cy.trim hq0)));omega
     ·rw[qf hsr,HVY.o,hvr];exact Nat.mod_lt _ (nQ cy.trim hq0)
  ·go_wp2_with fail
   go_loopw [7,8] (λu v wr=>∃p q:Int,u=VZ VH p/\v=VZ VH q/\p.natAbs<3000000000000000000/\q.natAbs<3000000000000000000/\Nat.gcd p.natAbs q.natAbs=g/\Ext w wr) (λ_ v _=>(VN v).natAbs)
   case atStart=>exact⟨x,y,rfl,rfl,hx,hy,by rw[(HV.o Wa).1,(HV.o Wa).2,Int.natAbs_natCast,Int.natAbs_natCast];exact HG.o,X2.o⟩
   case round=>
    obtain⟨p,q,rfl,rfl,hp,hq,hgv,hX⟩:=hrel;have HGV:=Vs hgv;clear hgv;have HX:=Vs hX;clear hX;by_cases h0:q=0
    ·subst h0;have HGP:=Vs (show(max p (-p)).natAbs=g by have h:=HGV.o;simp at h;omega);have HP0:=Vs (show 0<=max p (-p) by omega);have hmx:(max p (-p)).natAbs<3000000000000000000:=V7;have w1:VH.wrap (-p)= -p:=VQ _ V7;obtain⟨z,hz⟩:∃z,max p (-p)=z:=⟨_,rfl⟩;rw[hz] at hmx HGP HP0;go_wp2_with(go_at_call 182;go_loud (refine(jq z wr V7 V7 (HT.o.below HX.o (Vu _))).mono ?_);rintro e W3 ⟨rfl,hX3⟩)
     go_ret2;exact⟨⟨_,_,rfl,Qh V7 V7,HZ.o z HGP.o HP0.o⟩,HX.o.tr hX3⟩
    ·have h1:(p.tmod q).natAbs=p.natAbs%q.natAbs:=Int.natAbs_tmod _ _;have h2:p.natAbs%q.natAbs<q.natAbs:=Nat.mod_lt _ V7;have w1:VH.wrap (p.tmod q)=p.tmod q:=VQ _ V7;have t0:(q !=0)=VD:=bne_iff_ne.2 h0;have H1:=Vs (show(p.tmod q).natAbs<q.natAbs by omega);obtain⟨r,hr⟩:∃r,p.tmod q=r:=⟨_,rfl⟩;have HGR:=Vs (show Nat.gcd q.natAbs (p.tmod q).natAbs=g by rw[h1,Nat.gcd_comm,<-Nat.gcd_rec,Nat.gcd_comm];exact HGV.o);rw[hr] at w1 H1 HGR;clear h1 h2;go_wp2_with fail
     go_quiet (fail)
     go_wp2
     go_round
     case rel=>exact⟨q,r,rfl,rfl,hq,by have:=H1.o;omega,HGR.o,below_drewN HX.o _⟩
     case measure=>simp[VN];exact H1.o
end
section
open Kp
theorem Dg.iL(h:Dg z)(hs:z.size<=300):DI z:=⟨h.pos,hs,λm _ _ hm=>h.all m hm,h.lead⟩
theorem Au(h:k<=9):(10:Nat)^k<=1000000000:=Nat.pow_le_pow_right V9 h
def kP(y:ByteArray)(w:Vt)(h:DI y)(h9:y.size<=9):VJ prog 253 #[VW y] w λx w'=>x=V0 (VZ VH (cJ y y.size:Nat))/\Ext w w':=by
 have H:=Vs h;clear h;go_enter func253,ntmps253;go_wp2;go_loopw [3,4] (λn i wr=>∃(k:Nat),n=VZ VH (cJ y k:Nat)/\i=VZ VH (k:Int)/\k<=y.size/\Ext w wr) (λ_ i _=>((y.size:Int)-VN i).toNat)
 case atStart=>exact⟨0,rfl,rfl,V7,Below.refl _ _⟩
 case round=>
  obtain⟨k,rfl,rfl,hk,hX⟩:=hrel;have HX:=Vs hX;have hv:=Nat.lt_of_lt_of_le (qd H.o hk) (Au V7);obtain⟨v,hvv⟩:∃v,cJ y k=v:=⟨_,rfl⟩;rw[hvv] at hv⊢;have HV:=Vs hvv;clear hX hvv;by_cases hlt:k<y.size
  ·obtain⟨g,hg,e⟩:=H.o.at hlt;have HS:=Vs (iR hlt e);have hd:(((y[k]'hlt).toNat:Int)-48)%256=(g:Int):=by rw[e];omega
   exact a0s
  ·obtain rfl:k=y.size:=V7;go_wp2;go_ret;exact⟨Wy,HX.o⟩
def Ii(a b:Nat)(w:Vt)(hb:b<1000000000000000000):VJ prog 252 #[VZ VH (a:Int),VZ VH (b:Int)] w λx w'=>x=V0 (VZ VH (Nat.gcd a b:Nat))/\Ext w w':=by
 obtain⟨g,hg⟩:∃g,Nat.gcd a b=g:=⟨_,rfl⟩;rw[hg];have HG:=Vs hg;clear hg;go_enter func252,ntmps252;go_wp2;go_loopw [0,1] (λx y wr=>∃p q:Nat,x=VZ VH (p:Int)/\y=VZ VH (q:Int)/\q<1000000000000000000/\Nat.gcd p q=g/\Ext w wr) (λ_ y _=>(VN y).natAbs)
 case atStart=>exact⟨a,b,rfl,rfl,hb,HG.o,Below.refl _ _⟩
 case round=>
  obtain⟨p,q,rfl,rfl,hq,hg,hX⟩:=hrel;have HX:=Vs hX;have HV:=Vs hg;clear hX hg;by_cases h0:q=0
  ·subst h0;go_wp2;go_ret;exact⟨by rw[<-HV.o,Nat.gcd_zero_right];rfl,HX.o⟩
  ·obtain⟨r,hr⟩:∃r,p%q=r:=⟨_,rfl⟩;have h1:(p:Int).tmod q=(r:Int):=by rw[IntWalk.rem_in _ _ V7,<-hr];simp
   have h2:r<q:=by rw[<-hr];exact Nat.mod_lt _ V7
   have HGR:=Vs (show Nat.gcd q r=g by rw[<-hr,Nat.gcd_comm,<-Nat.gcd_rec,Nat.gcd_comm];exact HV.o);have w1:VH.wrap (r:Int)=r:=VQ _ V7;have t0:((q:Int) !=0)=VD:=bne_iff_ne.2 V7;have h00:¬(q:Int)=0:=V7;clear hr;go_wp2_with fail
   go_quiet (fail)
   go_wp2
   go_round
   case rel=>exact⟨q,r,rfl,rfl,V7,HGR.o,below_drewN HX.o _⟩
   case measure=>simp[VN];exact h2
end
section
open Kp
def qg(z:ByteArray):(aL z).2.2.1.size<=z.size:=by
 have key:∀(y:ByteArray) (q:Nat) (m:Bool),y.size<=z.size->(if q<y.size then(m,y.extract 0 q,y.extract (q+1) y.size,VD) else(m,y,(⟨#[]⟩:ByteArray),Vw)).2.2.1.size<=z.size:=by
  intro y q m hy;split
  ·show(y.extract (q+1) y.size).size<=z.size;rw[ByteArray.size_extract];omega
  ·exact Nat.zero_le _
 exact a0q
structure Sv(z:ByteArray):Prop where
 pos:0<z.size
 num:0<(pN (aL z)).size
 den:0<(pD (aL z)).size
def vm(g sl p1 p2 p3 p4 p5 p6:Bool):Bool:= !(sl&&(p1||p2))&& !(g&&p3)&& !p4&& !p5&&(!sl||p6)
def jB(z:ByteArray):Prop:=
 let v:=aL z
 Dg v.2.1/\(v.2.2.2=VD->Dg v.2.2.1)/\vm v.1 v.2.2.2 (v.2.2.1.toList==[48]) (v.2.2.1.toList==[49]) (v.2.1.toList==[48]) (decide (300<v.2.1.size)) (decide (300<v.2.2.1.size)) (Nat.gcd (cJ v.2.1 v.2.1.size) (cJ v.2.2.1 v.2.2.1.size)==1)=VD
theorem jB.num(h:jB z):Sv z:=by
 obtain⟨h1,h2,_⟩:=h;have hn:=kV z;have:=h1.pos;refine⟨V7,?_,?_⟩
 ·unfold pN;split
  ·rw[ByteArray.size_append];omega
  ·exact h1.pos
 ·unfold pD;split
  ·exact(h2 Wi).pos
  ·decide
def Qt(z:ByteArray)(e:Ending):Prop:=∃k:Int,e=V0 (VZ VH k)/\(k=0↔jB z)
def js (z : ByteArray) (w : Vt) (hs : z.size <= 1000000) (ht : aW w) : VJ prog 227 #[VW z] w λe w' => Qt z e /\ Ext w w' := by
  have HT := Vs ht;have KS := Vs (nT z w hs);have hn := kV z;have hd := qg z;have HO := Vs (show jB z ↔ jB z from Iff.rfl);unfold Qt;unfold jB at HO ⊢;obtain ⟨⟨g, n, d, sl⟩, hv⟩ : ∃ v, aL z = v := ⟨_, rfl⟩;rw [hv] at KS hn hd ⊢;dsimp only at hn hd ⊢;clear hv ht HO;have hnn : n.size <= 1000000 := V7;have hdd : d.size <= 1000000 := V7;have DN := Vs (λW => vC n W hnn);have DD := Vs (λW => vC d W hdd);obtain ⟨p1, h1⟩ : ∃ p, (d.toList == [48]) = p := ⟨_, rfl⟩;obtain ⟨p2, h2⟩ : ∃ p, (d.toList == [49]) = p := ⟨_, rfl⟩;obtain ⟨p3, h3⟩ : ∃ p, (n.toList == [48]) = p := ⟨_, rfl⟩;obtain ⟨p4, h4⟩ : ∃ p, decide (300 < n.size) = p := ⟨_, rfl⟩;obtain ⟨p5, h5⟩ : ∃ p, decide (300 < d.size) = p := ⟨_, rfl⟩;obtain ⟨q, hq⟩ : ∃ q, Nat.gcd (cJ n n.size) (cJ d d.size) = q := ⟨_, rfl⟩;obtain ⟨p6, h6⟩ : ∃ p, (q == 1) = p := ⟨_, rfl⟩;rw [h1, h2, h3, h4, h5, hq, h6];have h4i : decide (300 < (n.size : Int)) = p4 := by rw [<- h4]; simp; omega
  have h5i : decide (300 < (d.size : Int)) = p5 := by rw [<- h5]; simp; omega
  have h6i : ((q : Int) != 1) = !p6 := by
    rw [<- h6]; cases hb : (q == 1)
    · rw [beq_eq_false_iff_ne] at hb; rw [Bool.not_false, bne_iff_ne]; omega
    · rw [beq_iff_eq] at hb; subst hb; rfl
  have HT6 := Vs (show ∀ t : ByteArray, (t.toList = [49] ↔ Nat.gcd (cJ n n.size) (cJ d d.size) = 1) -> (t.toList == [49]) = p6 fromλt h => by
    rw [hq] at h; rw [<- h6, Bool.eq_iff_iff, beq_iff_eq, beq_iff_eq]; exact h)
  have HQ := Vs hq;have hq18 : q.gcd 0 = q := Nat.gcd_zero_right q;clear hq h4 h5 h6 hq18;cases g <;> cases sl
  all_goals
    go_enter func227, ntmps227;go_wp2_with (go_at_call 250; go_must (refine KS.o.mono ?_); unfold pT; rintro e W1 ⟨rfl, hX1⟩; have HX1 := Vs hX1; clear hX1)
    refine (DN.o W1).mono ?_;rintro e W2 ⟨⟨b, rfl, hb⟩, hX2⟩;have X2 := Vs (HX1.o.tr hX2);have HB := Vs hb;clear hX2 hb;cases b
  all_goals (cases p4 <;> cases p5)
  all_goals go_wp2_with (first
      | (go_at_call 254; go_loud (refine (Ip n d _ ((HB.o.1 Wa).iL (by have := of_decide_eq_false h4i; omega)) ((HB3.o.1 (by first | simp | assumption)).iL (by have := of_decide_eq_false h5i; omega)) (HT.o.below X3.o (Vu _))).mono ?_); rintro e W4 ⟨⟨t, k, rfl, _, ht⟩, hX4⟩; have X4 := Vs (X3.o.tr hX4); have ht6 := HT6.o t ht; clear hX4 ht)
      | (go_at_call 252; go_loud (refine (Ii (cJ n n.size) (cJ d d.size) _ (by have := Nat.lt_of_lt_of_le (qd D3.o (Vu _)) (Au V7); omega)).mono ?_); rw [HQ.o]; rintro e W6 ⟨rfl, hX6⟩; have X6 := Vs (X5.o.tr hX6); clear hX6)
      | (go_at_call 253; have D3 := Vs ((HB3.o.1 (by first | simp | assumption)).iL V7); (with_reducible refine (kP d _ D3.o V7).mono ?_); rintro e W5 ⟨rfl, hX5⟩; have X5 := Vs (X4.o.tr hX5); clear hX5)
      | (go_at_call 253; go_loud (refine (kP n _ ((HB.o.1 Wa).iL V7) V7).mono ?_); rintro e W4 ⟨rfl, hX4⟩; have X4 := Vs (X3.o.tr hX4); clear hX4)
      | (go_at_call 251; go_loud (refine (DD.o _).mono ?_); rintro e W3 ⟨⟨b3, rfl, hb3⟩, hX3⟩; have X3 := Vs (X2.o.tr hX3); have HB3 := Vs hb3; clear hX3 hb3))
  all_goals go_ret
  all_goals refine ⟨?_, by first | exact X2.o | exact X3.o | exact X4.o | exact X6.o⟩
  all_goals first
    | (refine ⟨0, rfl, ⟨λ_ => ⟨HB.o.1 ?_, λh => ?_, ?_⟩, λ_ => rfl⟩⟩
       · first | rfl | trivial
       · first | (cases h; done) | (apply HB3.o.1; first | rfl | trivial | assumption)
       · simp_all [vm]; done)
    | (refine ⟨_, rfl, ⟨λh => absurd h V9, λ⟨h, _⟩ => ?_⟩⟩
       have hh := HB.o.2 h;cases hh; done)
    | (refine ⟨_, rfl, ⟨λh => absurd h V9, λ⟨_, _, h⟩ => ?_⟩⟩
       simp_all [vm]; done)
    | (refine ⟨_, rfl, ⟨λh => absurd h V9, λ⟨_, h, _⟩ => ?_⟩⟩
       have hh := HB3.o.2 (h (by first | rfl | trivial))
       simp_all; done)
    | trace_state
end
section
open Kp
def TX(z:ByteArray)(e:Ending):Prop:=∃(a b:ByteArray) (k:Int),e=V0 (V6 #[VW a,VW b,VZ VH k])/\(jB z->k=0/\a=pN (aL z)/\b=pD (aL z))
def qo(z:ByteArray)(w:Vt)(hs:z.size<=1000000)(ht:aW w):VJ prog 228 #[VW z] w λe w'=>TX z e/\Ext w w':=by
 have KC:=Vs (js z w hs ht);have KP:=Vs (λW=>nA z W hs);go_enter func228,ntmps228;go_wp2_with(first
  |(go_at_call 255;go_loud (refine(KP.o _).mono ?_);rintro e W2 ⟨rfl,hX2⟩;have X2:=Vs (X1.o.tr hX2))
  |(go_at_call 227;go_loud (refine KC.o.mono ?_);rintro e W1 ⟨⟨k,rfl,hk⟩,hX1⟩;have X1:=Vs hX1;have HK:=Vs hk;clear hX1 hk))
 ·go_ret3
  exact⟨⟨_,_,_,rfl,λh=>absurd (HK.o.2 h) WZ⟩,X1.o⟩
 ·go_ret3
  exact⟨⟨_,_,_,rfl,λ_=>⟨rfl,rfl,rfl⟩⟩,X2.o⟩
def Gv(z:ByteArray):(pN (aL z)).size<=z.size+1:=by
 have h:=kV z;unfold pN;split
 ·rw[ByteArray.size_append];show 1+_<=_;omega
 ·omega
def FM(z:ByteArray):(pD (aL z)).size<=z.size+1:=by
 have h:=qg z;unfold pD;split
 ·omega
 ·show 1<=_;omega
end
section
open Kp
def T6(ts:List ByteArray):List Vy:=ts.map Vy.string
theorem La(h:i<ln ts):(T6 ts)[i]?=Vz (VW (ts.getD i ⟨#[]⟩)):=by
 unfold T6;rw[List.getElem?_map,VA h];simp[List.getD,h]
end
end Go.Proofs.YtmliacdegmklaaaGreatDoor
