/- ChangeApplies of kingpostlaw58: part 5 of its proof (merged and shortened by program). -/
import Derived.Lib.AppendZeros
import Derived.Test.YtnepbjnlmkppmaaGreatDoorP02
import Derived.Test.YtnepbjnlmkppmaaGreatDoorP03
set_option linter.unusedVariables false
set_option linter.unusedSimpArgs false
set_option linter.defProp false
set_option maxHeartbeats 8000000
set_option maxRecDepth 100000
open Go.RowKit Go.Shelf Go.Proofs.Tryz
open Array renaming getElem?_eq_some_iff→XV
open Bool renaming false→O,true→Y
open Decidable renaming decide→YG
open Go renaming World→U,undef→M,Value→Z,wpOp_step→XR,Calls→XY,TypeId→Yj,maxLen→Yk,Addr→Ym
open Go.Ending renaming returned→YC
open Go.IntKind renaming i64→F
open Go.IntWalk renaming i64_in→Yh
open Go.Lib renaming hid→A
open Go.Proofs.Tryz renaming prog→Xz
open Go.RowKit renaming intOf→Yf,Below→Yl
open Go.Value renaming slice→V,bool→Yz,pointer→YA,int→G,agg→YE
open Go.World renaming alloc_heap_new→XZ
open List renaming getD_eq_getElem?_getD→XJ,getElem?_eq_getElem→XO,length_map→XP,length_append→Yc,length→ln
open Nat renaming le_refl→XE,mul_comm→Yd,le_trans→Ye
open Option renaming none→I,some→L
open Go.Proofs.YtnepbjnlmkppmaaGreatDoor
variable{tmps:Array Z}{m g:Bool}{y z:ByteArray}{N:List Nat}{r:List UInt8×Int}{l ag ar:List Z}{k n0 ac b i d j n base ae s it Q ab:Nat}{E T:Option Ym}{p:Prop}{α:Type}{w w' W W' W2 o W3:U}{u X ad:Z}{t e e':Yj}
namespace Go.Proofs.YtnepbjnlmkppmaaGreatDoor
section
open Kp
attribute [local go_sem] Oper.semAt_some
def dv(k:Nat)(rows:List (List Z)):Prop:=∀r∈rows,ln r=k
theorem bQ{f:α->List Z}(h:∀x,(f x).length=k)(l:List α):dv k (l.map f):=λr a=>by
 obtain⟨x,_,rfl⟩:=List.mem_map.1 a;exact h x
theorem bR.stays{B:Nat}{rows:List (List Z)}(h:bR k w B E ac rows)(d:dv k rows)(m:aI n0 w w'):bR k w' B E ac rows:=by
 obtain⟨h1,h2,g⟩:=h;refine⟨h1,h2,λn=> ?_⟩;obtain⟨b,off,e,l,f⟩:=g n;refine⟨b,off,e,l,λi hi j a=> ?_⟩;have c:=f i hi j a;have o:(rows.getD i []).length=k:=by
  rw[XJ,XO hi];exact d _ (List.getElem_mem hi)
 rw[XO (by rw[o];exact a)] at c⊢;exact m.cell c
def dB(r:List Sd):dv 7 (aE r):=bQ (f:=nQ) (λ_=>rfl) r
def MF(r:List Sd):Prop:=∀s∈r,co s.x/\co s.y
def ku{r:List Sd}(h:MF r)(i:Nat):co (au r i).x/\co (au r i).y:=by
 unfold au;by_cases hi:i<ln r
 ·rw[XJ,XO hi];exact h _ (List.getElem_mem hi)
 ·rw[XJ,List.getElem?_eq_none D];decide
def Bg(r:List Sd)(i:Nat):fV r i=au r ((i+ln r-1)%ln r):=rfl
def jU(r:List Sd)(i:Nat):aS r i=au r ((i+1)%ln r):=rfl
theorem vu{a B:Nat}{r:List Sd}(h:Bx W a 102 (V E (ln r) ac))(b:bR 7 W B E ac (aE r)):WU a E ac r W:=⟨h.cell,B,b⟩
theorem Ext.stays(h:Ext w w')(a:n0<=w.heap.size):aI n0 w w':=aI.aY h a
theorem Ext.keeps(h:Ext w w'):KeepsOthers w w':=⟨h.size,λb o a _=>(h.block b (XV.1 a).1).trans a⟩
structure VX(w:U)(E:Option Ym)(ac:Nat)(r:List Sd)(k:Nat)(W:U):Prop where
 sum:Bx W w.heap.size 3 (G F (rK (λi=>(au r i).x*(aS r i).y-(au r i).y*(aS r i).x) k))
 it:Bx W (w.heap.size+1) 102 (V E (ln r) ac)
 sl:bR 7 W w.heap.size E ac (aE r)
 low:Yl w.heap.size w W
theorem VX.stays{r:List Sd}(h:VX w E ac r k W)(a:aI n0 W W')(b:w.heap.size<=n0):VX w E ac r k W':=
 ⟨h.sum.stays a,h.it.stays a,h.sl.stays (dB r) a,h.low.trans (a.below.mono b)⟩
def Ik(s c:Int)(own a:Sd)(b:Nat):Nat->Z
 |0=> G F s
 |1=> YA (L ⟨b,7,I⟩)
 |2=> YE (nQ own).toArray
 |3=> YE (mi own.x own.y).toArray
 |4=> YA (L ⟨b,14,I⟩)
 |5=> YE (nQ a).toArray
 |6=> YE (mi a.x a.y).toArray
 |7=> G F c
 |_=> G F (s+c)
def Kg(w:U)(E:Option Ym)(ac:Nat)(r:List Sd)(hr:bR 7 w w.heap.size E ac (aE r))(z:MF r)(hn:ln r<=1000):
  XY Xz 191 #[V E (ln r) ac] w λe w'=>e=YC (G F (oD r))/\Ext w w':=by
 refine(callsIn_wide (n:=9)).1 (callsIn_of_wp_marks func191 H trivial ?_);simp only[ntmps191,List.size_toArray,List.length_cons,List.length_nil,Nat.reduceAdd,Nat.reduceSub,Array.replicate_succ,Array.replicate_zero,List.push_toArray,List.append_toArray,List.nil_append,List.cons_append];gi_wp2_with(refine⟨trivial,?_⟩;gi_at_call 185;refine(callsIn_wide.2 (lg _ _ _ _)).mono ?_;rintro e w' ⟨rfl,rfl⟩)
 refine iE (gf:=243) (lb:=#[YA (L ⟨w.heap.size+1,0,I⟩)]) H (enters_of func243 R H)
  (jY (w.heap.size+1) E ac r D) (λk x e=>Z4)
  (VX w E ac r) (λ_ _ _=>False) (λk W W' h o=>h.stays o YP) (λc k W W' h o=>h) (λk W h=>vu h.it h.sl) ?start ?round ?done ?stop
 case stop=>intro ah c k W t hk h;exact h.elim
 case start=>exact⟨(Bx.at_ H).alloc _,Bx.at_ YL,hr.below (gI _ _ _),gI _ _ _⟩
 case done=>
  intro ah W t hi hK;have c0:=hi.sum.cell;have HL:=A hi.low;clear hi
  gi_wp2
  refine⟨YL,.inl ⟨_,_,rfl,run_takeDeferred hK,?_⟩⟩;have o:=aI.putObj (n0:=w.heap.size) (.deferred I) hK H ZJ;exact⟨G F (oD r),by simp[results,results191,go_sem,oD],rfl,HL.o.trans o.below⟩
 case round=>
  intro l k x W ak hk hx hi hK;obtain rfl:=hx;have HK:=A hK;have RA:=A (ai.new W 215 (ko (fV r k) (au r k) (aS r k)));have Y:=A (show Ext W (W.alloc (.cells (ko (fV r k) (au r k) (aS r k)).toArray 215)) from(XI _ _).alloc (XE _) _);have P:=A hi;clear hK hi;refine du (bA _ _) R ?_;go_wp2_with(refine wpList_store_row rfl 215 (.tmp 5) (.tmp 9) rfl W.heap.size (ko (fV r k) (au r k) (aS r k)).toArray rfl rfl 215 _ (XZ _ _) R R R ?_;rw[gH _ _ _ _ rfl])
  refine dw (HK.o _ _ Y.o (λW2 J al=> ?_));have Q:=(P.o.stays (Y.o.stays (n0:=w.heap.size) (by have:=P.o.low.size;omega)) (XE _)).stays J YP;have R2:ai W2 W.heap.size 215 (ko (fV r k) (au r k) (aS r k)):=J.cells _ _ _ _ RA.o;clear HK P Y RA J;obtain⟨ad,ae⟩:=ku z k;obtain⟨B,C⟩:=ku z ((k+1)%ln r);rw[<-jU] at B C;obtain⟨own,q⟩:=aa (au r k);obtain⟨d,u⟩:=aa (aS r k);have N:=A (show rK (λi=>(au r i).x*(aS r i).y-(au r i).y*(aS r i).x) (k+1)=rK (λi=>(au r i).x*(aS r i).y-(au r i).y*(aS r i).x) k+(own.x*d.y-own.y*d.x) by rw[rK,q,u]);have af:=FW (n:=k) (m:=8589934592) (f:=λi=>(au r i).x*(aS r i).y-(au r i).y*(aS r i).x) (λi _=>by
   obtain⟨a1,a2⟩:=ku z i;obtain⟨b1,b2⟩:=ku z ((i+1)%ln r);rw[<-jU] at b1 b2;have T:=zA (a:=(au r i).x) (b:=(aS r i).y) (m:=65536) (n:=65536) D D;have S:=zA (a:=(au r i).y) (b:=(aS r i).x) (m:=65536) (n:=65536) D D;simp only[Int.reduceMul] at T S;show _<=(au r i).x*(aS r i).y-(au r i).y*(aS r i).x/\(au r i).x*(aS r i).y-(au r i).y*(aS r i).x<=_;omega)
  have ag: -8589934592<=own.x*d.y-own.y*d.x/\own.x*d.y-own.y*d.x<=8589934592:=by
   rw[q] at ad ae;rw[u] at B C;have T:=zA (a:=own.x) (b:=d.y) (m:=65536) (n:=65536) D D;have S:=zA (a:=own.y) (b:=d.x) (m:=65536) (n:=65536) D D;simp only[Int.reduceMul] at T S;omega
  have K:=Q.sum;obtain⟨s,o⟩:=aa (rK (λi=>(au r i).x*(aS r i).y-(au r i).y*(aS r i).x) k);rw[o] at N af K;have aj:F.wrap (s+(own.x*d.y-own.y*d.x))=s+(own.x*d.y-own.y*d.x):=Yh _ D;rw[q] at ad ae;rw[u] at B C;rw[q,u] at R2;obtain⟨c,ab⟩:=aa (own.x*d.y-own.y*d.x);rw[ab] at N aj;rw[q,u];have I2:=A Q;clear af ag o Q hn
  gi_wp2
  refine wpIn_region_any R (np (bA _ _) R 9 (λg=>⟨#[V E (ln r) ac,M,G F 0,YA (L ⟨w.heap.size,0,I⟩),M,YA (L ⟨W.heap.size,0,I⟩),V E (ln r) ac,.func (.func 243) #[] #[YA (L ⟨w.heap.size+1,0,I⟩)],G F (k:Int),YE (ko (fV r k) own d).toArray,g 0,g 1,g 2,g 3,g 4,g 5,g 6,g 7,g 8,M],[]⟩)
   (λw'=>Ext W2 w') (λi v _=>v=Ik s c own d W.heap.size i) (λ_=>O) R (λ_ _ h k=>h.tr k) (λ_ _ _ _ h _=>h) (λ_ _ _ _ h=>YM) ?step ?tail (λ_=>M) _ (Ext.dr W2))
  case step=>
   intro i g w' hi t j;have cA:=λi=>(R2.ext t).cell i
   have cS:=(K.stays (t.stays (n0:=0) (Nat.zero_le _))).cell;rcases(show i=0\/i=1\/i=2\/i=3\/i=4\/i=5\/i=6\/i=7\/i=8 by omega) with rfl|rfl|rfl|rfl|rfl|rfl|rfl|rfl|rfl<;>clear hi<;>refine XR rfl (λak hK=> ?_)
   ·exact a1k
   ·exact a1k
   ·have d1:=j 1 R;simp only[Ik] at d1;go_simp;exact hK _ _ ⟨_,by simp[d1,Ik],Ext.ah _,rfl,λh=>YM⟩
   ·have d2:=j 2 R;simp only[Ik] at d2;go_simp;refine(bW own _).mono ?_;rintro e W1 ⟨rfl,y⟩;exact hK _ _ ⟨_,by simp[d2,Ik],y,rfl,λh=>YM⟩
   ·exact a1k
   ·have d4:=j 4 R;simp only[Ik] at d4;go_simp;exact hK _ _ ⟨_,by simp[d4,Ik],Ext.ah _,rfl,λh=>YM⟩
   ·have d5:=j 5 R;simp only[Ik] at d5;go_simp;refine(bW d _).mono ?_;rintro e W1 ⟨rfl,y⟩;exact hK _ _ ⟨_,by simp[d5,Ik],y,rfl,λh=>YM⟩
   ·have d3:=j 3 R;have d6:=j 6 R;simp only[Ik] at d3 d6;go_simp;refine(tM own.x own.y d.x d.y _ D D D D).mono ?_;rintro e W1 ⟨rfl,y⟩;rw[ab];exact hK _ _ ⟨_,by simp[d3,d6,Ik],y,rfl,λh=>YM⟩
   ·have d0:=j 0 R;have d7:=j 7 R;simp only[Ik] at d0 d7;go_simp;exact hK _ _ ⟨_,by simp[d0,d7,Ik],Ext.ah _,rfl,λh=>YM⟩
  case tail=>
   intro g w' t hv _;have v8:=hv 8 YK;simp only[Ik] at v8;clear hv;have Z:=K.stays (t.stays (n0:=0) (Nat.zero_le _));have cS:=Z.cell;have fS:=Z.frozen;simp only[List.drop_succ_cons,List.drop_zero,v8];have HD:=A t;clear t
   gi_wp2
   have X:=I2.o.stays (HD.o.stays (n0:=w.heap.size) (by have:=I2.o.low.size;omega)) (XE _);refine⟨HD.o.keeps.trans (KeepsOthers.setCell _ _ _),?_,?_,?_,?_⟩
   ·rw[N.o];exact Z.put _
   ·exact X.it.eC YL _
   ·exact X.sl.below ((XI _ _).setCell (p:=⟨w.heap.size,0,I⟩) (XE _) _)
   ·exact X.low.setCell (p:=⟨w.heap.size,0,I⟩) (XE _) _
end
section
open Kp
attribute [local go_sem] Oper.semAt_some
structure Ui(w:U)(E:Option Ym)(ac:Nat)(r:List Sd)(x y:Int)(k:Nat)(W:U):Prop where
 p:ai W w.heap.size 217 (mi x y)
 odd:Bx W (w.heap.size+1) 4 (Yz (nY (lR r x y) k))
 it:Bx W (w.heap.size+2) 102 (V E r.length ac)
 sl:bR 7 W w.heap.size E ac (aE r)
 low:Yl w.heap.size w W
theorem ai.stays(h:ai W b t l)(a:aI n0 W W'):ai W' b t l:=a.cells _ _ _ _ h
theorem Ui.stays {w : World} {E : Option Addr} {ac : Nat} {r : List Sd} {x y : Int} {k n0 : Nat} {W W' : World} (h : Ui w E ac r x y k W) (a : aI n0 W W') (b : w.heap.size ≤ n0) : Ui w E ac r x y k W' :=
  ⟨h.p.stays a, h.odd.stays a, h.it.stays a, h.sl.stays (dB r) a, h.low.trans (a.below.mono b)⟩
theorem uR {w : World} {E : Option Addr} {ac : Nat} {r : List Sd} {x y : Int} {k : Nat} {W W' : World} (h : Ui w E ac r x y k W) (b : lR r x y k = false) (hx : Ext W W') : Ui w E ac r x y (k + 1) W' := by
  have a := h.stays (hx.stays (n0 := w.heap.size) (by have := h.low.size; omega)) (Nat.le_refl _)
  refine ⟨a.p, ?_, a.it, a.sl, a.low⟩
  rw [nY, b, if_neg (by decide)]; exact a.odd
def Js(a b:Int)(W:U):Sem.run Xz (Instr.field 217 (YE (mi a b).toArray) 0) W= .ok (G F a) W:=R
theorem tJ(w:U)(E:Option Ym)(ac:Nat)(r:List Sd)(x y:Int)(hr:bR 7 w w.heap.size E ac (aE r))(X:MF r)(hn:r.length≤1000):
  XY Xz 192 #[.slice E r.length ac,.agg (mi x y).toArray] w fun e w'=>e= .returned (.bool (kE r x y))∧Ext w w':=by
 refine(callsIn_wide (n:=9)).1 (callsIn_of_wp_marks func192 rfl trivial ?_)
 simp only[ntmps192,List.size_toArray,List.length_cons,List.length_nil,Nat.reduceAdd,Nat.reduceSub,Array.replicate_succ,Array.replicate_zero,List.push_toArray,List.append_toArray,List.nil_append,List.cons_append]
 gi_wp2_with(refine⟨trivial,?_⟩;gi_at_call 185;refine(callsIn_wide.2 (lg _ _ _ _)).mono ?_;rintro e w' ⟨rfl,rfl⟩)
 refine iE (gf:=243) (lb:=#[.pointer (L ⟨w.heap.size+2,0,I⟩)]) rfl (enters_of func243 (by kernel_rfl) rfl)
  (jY (w.heap.size+2) E ac r (by omega)) (fun k x e=>by rw[e];rfl)
  (Ui w E ac r x y) (fun _ _ _=>False) (fun k W W' h C=>h.stays C (by simp;omega)) (fun c k W W' h C=>h) (fun k W h=>vu h.it h.sl) ?start ?round ?done ?stop
 case stop=>intro ab c k W t hk h;exact h.elim
 case start=>exact⟨((ai.new _ _ _).ext (gI _ _ _)),((Bx.at_ (by simp)).alloc _),Bx.at_ (by simp),hr.below (B9 _ _ _ _),B9 _ _ _ _⟩
 case done=>
  intro ab W t hi j
  have c0:=hi.odd.cell
  have HL:=A hi.low
  clear hi
  gi_wp2
  refine⟨by simp,.inl ⟨_,_,rfl,run_takeDeferred j,?_⟩⟩
  have C:=aI.putObj (n0:=w.heap.size) (.deferred I) j rfl (by simp at t;omega)
  exact⟨.bool (kE r x y),by simp[results,results192,go_sem,kE],rfl,HL.out.trans C.below⟩
 case round=>
  intro l k z W ag hk hx hi j
  obtain rfl:=hx
  have HK:=A j
  have Z:=A (ai.new W 215 (ko (fV r k) (au r k) (aS r k)))
  have Q:=A (show Ext W (W.alloc (.cells (ko (fV r k) (au r k) (aS r k)).toArray 215)) from(XI _ _).alloc (XE _) _)
  have s:=A hi
  clear j hi
  refine du (bA _ _) (by kernel_rfl) ?_
  go_wp2_with(refine wpList_store_row rfl 215 (.tmp 7) (.tmp 12) rfl W.heap.size (ko (fV r k) (au r k) (aS r k)).toArray rfl rfl 215 _ (XZ _ _) (by kernel_rfl) (by kernel_rfl) (by kernel_rfl) ?_;rw[gH _ _ _ _ rfl])
  refine dw (HK.out _ _ Q.out (fun W2 M af=> ?_))
  have G:=(s.out.stays (Q.out.stays (n0:=w.heap.size) (by have:=s.out.low.size;omega)) (XE _)).stays M (by simp;omega)
  have b:ai W2 W.heap.size 215 (ko (fV r k) (au r k) (aS r k)):=M.cells _ _ _ _ Z.out
  have ae:=s.out.it.lt
  clear HK s Q Z M
  obtain⟨J,K⟩:=ku X k
  obtain⟨f,g⟩:=ku X ((k+1)%r.length)
  rw[←jU] at f g
  obtain⟨own,B⟩:=aa (au r k)
  obtain⟨a,F⟩:=aa (aS r k)
  have v:=A (show lR r x y k=(((a.x-own.x)==0)&&decide (x<own.x)&&(decide (y<own.y) !=decide (y<a.y))) by unfold lR ma;rw[B,F])
  rw[B] at J K
  rw[F] at f g
  rw[B,F] at b
  rw[B,F]
  have q:=A G
  obtain⟨o,S⟩:=aa (nY (lR r x y) k)
  have ad:=A S
  have m:=G.odd
  rw[S] at m
  have N:=G.p
  clear G S hn
  have cA:=fun i=>b.cell i
  have hf:=fun W=>Js (a.x-own.x) (a.y-own.y) W
  cases u:((a.x-own.x)==0)
  ·have d:=A (show lR r x y k=O by rw[v.out,u];rfl)
   gi_wp2_with(first
    |(refine⟨trivial,?_⟩;gi_at_call 186;refine(CallsIn.inRound l (callsIn_wide.2 (bW own _))).mono ?_;rintro e W3 ⟨rfl,hX3⟩;have E3:Ext W2 (W3.alloc (.cells (mi own.x own.y).toArray 217)):=hX3.tr ((XI _ _).alloc (XE _) _);have Q3:=ai.new W3 217 (mi own.x own.y))
    |(refine cD (bA _ _) rfl 215 (.tmp 7) rfl W.heap.size rfl 215 _ (0,0) _ (b.ext E3) underlying215 rfl (by kernel_rfl) ?_)
    |(refine⟨trivial,?_⟩;gi_at_call 188;refine(CallsIn.inRound l (callsIn_wide.2 (j5 (fV r k) own a _ J K f g))).mono ?_;rintro e W5 ⟨rfl,hX5⟩;have E5:=E3.tr hX5;have cA5:=fun i=>(b.ext E5).cell i;have cP5:=fun i=>(N.ext E5).cell i;have cQ5:=fun i=>(Q3.ext hX5).cell i;have S5:=m.stays (E5.stays (n0:=0) (Nat.zero_le _));have cS5:=S5.cell;have fS5:=S5.frozen))
   exact⟨E5.keeps,uR q.out d.out E5⟩
  cases P:decide (x<own.x)
  ·have d:=A (show lR r x y k=O by rw[v.out,u,P];rfl)
   gi_wp2_with(first
    |(refine⟨trivial,?_⟩;gi_at_call 186;refine(CallsIn.inRound l (callsIn_wide.2 (bW own _))).mono ?_;rintro e W3 ⟨rfl,hX3⟩;have E3:Ext W2 (W3.alloc (.cells (mi own.x own.y).toArray 217)):=hX3.tr ((XI _ _).alloc (XE _) _);have Q3:=ai.new W3 217 (mi own.x own.y))
    |(refine cD (bA _ _) rfl 215 (.tmp 7) rfl W.heap.size rfl 215 _ (0,0) _ (b.ext E3) underlying215 rfl (by kernel_rfl) ?_)
    |(refine⟨trivial,?_⟩;gi_at_call 188;refine(CallsIn.inRound l (callsIn_wide.2 (j5 (fV r k) own a _ J K f g))).mono ?_;rintro e W5 ⟨rfl,hX5⟩;have E5:=E3.tr hX5;have cA5:=fun i=>(b.ext E5).cell i;have cP5:=fun i=>(N.ext E5).cell i;have cQ5:=fun i=>(Q3.ext hX5).cell i;have S5:=m.stays (E5.stays (n0:=0) (Nat.zero_le _));have cS5:=S5.cell;have fS5:=S5.frozen))
   exact⟨E5.keeps,uR q.out d.out E5⟩
  cases T:decide (y<own.y)<;>cases t4:decide (y<a.y)
  ·have d:=A (show lR r x y k=O by rw[v.out,u,P,T,t4];rfl)
   gi_wp2_with(first
    |(refine⟨trivial,?_⟩;gi_at_call 186;refine(CallsIn.inRound l (callsIn_wide.2 (bW own _))).mono ?_;rintro e W3 ⟨rfl,hX3⟩;have E3:Ext W2 (W3.alloc (.cells (mi own.x own.y).toArray 217)):=hX3.tr ((XI _ _).alloc (XE _) _);have Q3:=ai.new W3 217 (mi own.x own.y))
    |(refine cD (bA _ _) rfl 215 (.tmp 7) rfl W.heap.size rfl 215 _ (0,0) _ (b.ext E3) underlying215 rfl (by kernel_rfl) ?_)
    |(refine⟨trivial,?_⟩;gi_at_call 188;refine(CallsIn.inRound l (callsIn_wide.2 (j5 (fV r k) own a _ J K f g))).mono ?_;rintro e W5 ⟨rfl,hX5⟩;have E5:=E3.tr hX5;have cA5:=fun i=>(b.ext E5).cell i;have cP5:=fun i=>(N.ext E5).cell i;have cQ5:=fun i=>(Q3.ext hX5).cell i;have S5:=m.stays (E5.stays (n0:=0) (Nat.zero_le _));have cS5:=S5.cell;have fS5:=S5.frozen))
   exact⟨E5.keeps,uR q.out d.out E5⟩
  ·have d:=A (show lR r x y k=Y by rw[v.out,u,P,T,t4];rfl)
   gi_wp2_with(first
    |(refine⟨trivial,?_⟩;gi_at_call 186;refine(CallsIn.inRound l (callsIn_wide.2 (bW own _))).mono ?_;rintro e W3 ⟨rfl,hX3⟩;have E3:Ext W2 (W3.alloc (.cells (mi own.x own.y).toArray 217)):=hX3.tr ((XI _ _).alloc (XE _) _);have Q3:=ai.new W3 217 (mi own.x own.y))
    |(refine cD (bA _ _) rfl 215 (.tmp 7) rfl W.heap.size rfl 215 _ (0,0) _ (b.ext E3) underlying215 rfl (by kernel_rfl) ?_)
    |(refine⟨trivial,?_⟩;gi_at_call 188;refine(CallsIn.inRound l (callsIn_wide.2 (j5 (fV r k) own a _ J K f g))).mono ?_;rintro e W5 ⟨rfl,hX5⟩;have E5:=E3.tr hX5;have cA5:=fun i=>(b.ext E5).cell i;have cP5:=fun i=>(N.ext E5).cell i;have cQ5:=fun i=>(Q3.ext hX5).cell i;have S5:=m.stays (E5.stays (n0:=0) (Nat.zero_le _));have cS5:=S5.cell;have fS5:=S5.frozen))
   refine⟨E5.keeps.trans (KeepsOthers.setCell _ _ _),?_⟩
   have I5:=q.out.stays (E5.stays (n0:=w.heap.size) (by have:=q.out.low.size;omega)) (XE _)
   refine⟨I5.p.eC (by simp) _,?_,I5.it.eC (by simp) _,?_,?_⟩
   ·rw[nY,XT d.out,ad.out];exact S5.put _
   ·exact I5.sl.below ((XI _ _).setCell (p:=⟨w.heap.size+1,0,I⟩) (by simp) _)
   ·exact I5.low.setCell (p:=⟨w.heap.size+1,0,I⟩) (by simp) _
  ·have d:=A (show lR r x y k=Y by rw[v.out,u,P,T,t4];rfl)
   gi_wp2_with(first
    |(refine⟨trivial,?_⟩;gi_at_call 186;refine(CallsIn.inRound l (callsIn_wide.2 (bW own _))).mono ?_;rintro e W3 ⟨rfl,hX3⟩;have E3:Ext W2 (W3.alloc (.cells (mi own.x own.y).toArray 217)):=hX3.tr ((XI _ _).alloc (XE _) _);have Q3:=ai.new W3 217 (mi own.x own.y))
    |(refine cD (bA _ _) rfl 215 (.tmp 7) rfl W.heap.size rfl 215 _ (0,0) _ (b.ext E3) underlying215 rfl (by kernel_rfl) ?_)
    |(refine⟨trivial,?_⟩;gi_at_call 188;refine(CallsIn.inRound l (callsIn_wide.2 (j5 (fV r k) own a _ J K f g))).mono ?_;rintro e W5 ⟨rfl,hX5⟩;have E5:=E3.tr hX5;have cA5:=fun i=>(b.ext E5).cell i;have cP5:=fun i=>(N.ext E5).cell i;have cQ5:=fun i=>(Q3.ext hX5).cell i;have S5:=m.stays (E5.stays (n0:=0) (Nat.zero_le _));have cS5:=S5.cell;have fS5:=S5.frozen))
   refine⟨E5.keeps.trans (KeepsOthers.setCell _ _ _),?_⟩
   have I5:=q.out.stays (E5.stays (n0:=w.heap.size) (by have:=q.out.low.size;omega)) (XE _)
   refine⟨I5.p.eC (by simp) _,?_,I5.it.eC (by simp) _,?_,?_⟩
   ·rw[nY,XT d.out,ad.out];exact S5.put _
   ·exact I5.sl.below ((XI _ _).setCell (p:=⟨w.heap.size+1,0,I⟩) (by simp) _)
   ·exact I5.low.setCell (p:=⟨w.heap.size+1,0,I⟩) (by simp) _
  ·have d:=A (show lR r x y k=O by rw[v.out,u,P,T,t4];rfl)
   gi_wp2_with(first
    |(refine⟨trivial,?_⟩;gi_at_call 186;refine(CallsIn.inRound l (callsIn_wide.2 (bW own _))).mono ?_;rintro e W3 ⟨rfl,hX3⟩;have E3:Ext W2 (W3.alloc (.cells (mi own.x own.y).toArray 217)):=hX3.tr ((XI _ _).alloc (XE _) _);have Q3:=ai.new W3 217 (mi own.x own.y))
    |(refine cD (bA _ _) rfl 215 (.tmp 7) rfl W.heap.size rfl 215 _ (0,0) _ (b.ext E3) underlying215 rfl (by kernel_rfl) ?_)
    |(refine⟨trivial,?_⟩;gi_at_call 188;refine(CallsIn.inRound l (callsIn_wide.2 (j5 (fV r k) own a _ J K f g))).mono ?_;rintro e W5 ⟨rfl,hX5⟩;have E5:=E3.tr hX5;have cA5:=fun i=>(b.ext E5).cell i;have cP5:=fun i=>(N.ext E5).cell i;have cQ5:=fun i=>(Q3.ext hX5).cell i;have S5:=m.stays (E5.stays (n0:=0) (Nat.zero_le _));have cS5:=S5.cell;have fS5:=S5.frozen))
   exact⟨E5.keeps,uR q.out d.out E5⟩
end
section
open Kp
attribute [local go_sem] Oper.semAt_some
structure SL(w:U)(E:Option Ym)(ac:Nat)(r:List Sd)(k:Nat)(W:U):Prop where
 res:Bx W w.heap.size 4 (Yz O)
 it:Bx W (w.heap.size+1) 102 (V E (ln r) ac)
 sl:bR 7 W w.heap.size E ac (aE r)
 low:Yl w.heap.size w W
 ok:∀j,j<k->nP r j=O
theorem SL.stays{r:List Sd}(h:SL w E ac r k W)(a:aI n0 W W')(b:w.heap.size<=n0):SL w E ac r k W':=
 ⟨h.res.stays a,h.it.stays a,h.sl.stays (dB r) a,h.low.trans (a.below.mono b),h.ok⟩
structure Uh(w:U)(r:List Sd)(c:Code)(k:Nat)(W:U):Prop where
 ret:c= .ret
 res:Bx W w.heap.size 4 (Yz O)
 low:Yl w.heap.size w W
 bad:nP r k=Y
theorem Uh.stays{r:List Sd}{c:Code}(h:Uh w r c k W)(a:aI n0 W W')(b:w.heap.size<=n0):Uh w r c k W':=
 ⟨h.ret,h.res.stays a,h.low.trans (a.below.mono b),h.bad⟩
def CK(a own b:Sd)(c lo:Nat):Nat->Z->U->Prop
 |0,v,_=>v=YA (L ⟨c,0,I⟩)
 |1,v,_=>v=YE (nQ a).toArray
 |2,v,_=>v=YE (mi a.x a.y).toArray
 |3,v,_=>v=YA (L ⟨c,7,I⟩)
 |4,v,_=>v=YE (nQ own).toArray
 |5,v,_=>v=YE (mi own.x own.y).toArray
 |6,v,_=>v=YE (mi (own.x-a.x) (own.y-a.y)).toArray
 |7,v,_=>v=YE (ko a own b).toArray
 |8,v,_=>v=YE (mi (b.x-own.x) (b.y-own.y)).toArray
 |_,v,w=>jB lo v w
theorem Rb{c own a:Sd}{b lo i:Nat}{v:Z}(h:CK c own a b lo i v w)(hx:Ext w w'):CK c own a b lo i v w':=by
 unfold CK at *;split at h<;>first|exact h|exact jB.ext h hx
abbrev four(W:U)(p q:Nat)(a b c d:Z):U:=(((W.setCell ⟨p,0,I⟩ a).setCell ⟨p,1,I⟩ b).setCell ⟨q,0,I⟩ c).setCell ⟨q,1,I⟩ d
def wU(W:U)(p q:Nat)(a b c d:Z):KeepsOthers W (four W p q a b c d):=((((KeepsOthers.setCell _ _ _).trans (KeepsOthers.setCell _ _ _)).trans (KeepsOthers.setCell _ _ _)).trans (KeepsOthers.setCell _ _ _))
theorem qE{B:Nat}{p q:Nat}(e:B<=p)(f:B<=q)(a b c d:Z):Yl B W (four W p q a b c d):=
 ((((XI _ _).setCell (p:=⟨p,0,I⟩) e _).setCell (p:=⟨p,1,I⟩) e _).setCell (p:=⟨q,0,I⟩) f _).setCell (p:=⟨q,1,I⟩) f _
theorem Ad{v:Z}(h:Bx W b t v){p q:Nat}(a:b<p)(c:b<q)(x y z u:Z):Bx (four W p q x y z u) b t v:=
 (((h.eC (p:=⟨p,0,I⟩) YP _).eC (p:=⟨p,1,I⟩) YP _).eC (p:=⟨q,0,I⟩) YP _).eC (p:=⟨q,1,I⟩) YP _
theorem Qj{r:List Sd}{p q:Nat}{a b c d:Z}{g:Act}(h:SL w E ac r k W)(hx:Ext W2 W)(f:nP r k=O)(i:W2.heap.size<=p)(n:W2.heap.size<=q)(l:w.heap.size+1<W2.heap.size):
  mw (SL w E ac r) (Uh w r) k W2 .normal g (four W p q a b c d):=by
 refine⟨hx.keeps.trans (wU _ _ _ _ _ _ _),Ad h.res D D _ _ _ _,Ad h.it D D _ _ _ _,h.sl.below (qE D D _ _ _ _),h.low.trans (qE D D _ _ _ _),λj m=> ?_⟩;by_cases e:j=k
 ·rw[e];exact f
 ·exact h.ok j D
theorem RT{r:List Sd}{p q:Nat}{a b c d:Z}{f:Act}(h:SL w E ac r k W)(hx:Ext W2 W)(e:nP r k=Y)(g:W2.heap.size<=p)(j:W2.heap.size<=q)(i:w.heap.size+1<W2.heap.size):
  mw (SL w E ac r) (Uh w r) k W2 .ret f ((four W p q a b c d).setCell ⟨w.heap.size,0,I⟩ (Yz O)):=by
 refine⟨(hx.keeps.trans (wU _ _ _ _ _ _ _)).trans (KeepsOthers.setCell _ _ _),H,(Ad h.res D D _ _ _ _).put _,(h.low.trans (qE D D _ _ _ _)).setCell (p:=⟨w.heap.size,0,I⟩) (XE _) _,e⟩
def xQ(w:U)(E:Option Ym)(ac:Nat)(r:List Sd)(b:ln r<4):
  XY Xz 117 #[V E (ln r) ac] w λe w'=>e=YC (Yz (cz r))/\Ext w w':=by
 have a:=A (show cz r=O by unfold cz;rw[show YG (4<=ln r)=O by rw[XL];omega];rfl);go_enter func117,ntmps117;go_wp2;exact bodyPost_ret (v:= Yz O) (by simp[results,results117,go_sem]) H ⟨by rw[a.o],(XI _ _).alloc (XE _) _⟩
def Ap (w : U) (E : Option Ym) (ac : Nat) (r : List Sd) (hr : bR 7 w w.heap.size E ac (aE r)) (hc : MF r) (hn : ln r <= 1000) (h4 : 4 <= ln r) :
    XY Xz 117 #[V E (ln r) ac] w λe w' => e =YC (Yz (cz r)) /\ Ext w w' := by
  have HR := A (show cz r = !cK (nP r) (ln r) by unfold cz; rw [show YG (4 <= ln r) = Y by rw [XX]; omega]; rfl);refine (callsIn_wide (n := 9)).1 (callsIn_of_wp_marks func117 H trivial ?_);simp only [ntmps117, List.size_toArray, List.length_cons, List.length_nil, Nat.reduceAdd, Nat.reduceSub, Array.replicate_succ, Array.replicate_zero, List.push_toArray, List.append_toArray, List.nil_append, List.cons_append];gi_wp2_with (refine ⟨trivial, ?_⟩; gi_at_call 185; refine (callsIn_wide.2 (lg _ _ _ _)).mono ?_; rintro e w' ⟨rfl, rfl⟩)
  refine iE (gf := 243) (lb := #[YA (L ⟨w.heap.size + 1, 0, I⟩)]) H (enters_of func243 R H)
    (jY (w.heap.size + 1) E ac r D) (λk x e => by rw [e]; rfl)
    (SL w E ac r) (Uh w r) (λk W W' h g => h.stays g Y7) (λc k W W' h g => h.stays g Y7) (λk W h => vu h.it h.sl) ?start ?round ?done ?stop
  case start => exact ⟨(Bx.at_ H).alloc _, Bx.at_ YL, hr.below (gI _ _ _), gI _ _ _, λj hj => D⟩
  case done =>
    intro ag W d hi a;have c0 := hi.res.cell;have f0 := hi.res.frozen;have z := A hi;have HA := A (show cz r = Y by rw [HR.o, bz hi.ok]; rfl);clear hi
    gi_wp2
    have aj := (KeepsOthers.setCell W ⟨w.heap.size, 0, I⟩ (Yz Y)).same ag _ a H;refine ⟨YL, .inl ⟨_, _, rfl, run_takeDeferred aj, ?_⟩⟩;have g := aI.putObj (n0 := w.heap.size) (.deferred I) aj H (by simp at d; omega);have hb := ((z.o.res.put (Yz Y)).stays g).cell;exact ⟨Yz Y, by simp [results, results117, go_sem, hb], by rw [HA.o], (z.o.low.setCell (p := ⟨w.heap.size, 0, I⟩) (XE _) _).trans g.below⟩
  case stop =>
    rintro ag c k W d hk ⟨rfl, ap, am, ao⟩ a;have HA := A (show cz r = O by rw [HR.o, dh hk ao]; rfl)
    gi_wp2
    refine ⟨YL, .inl ⟨_, _, rfl, run_takeDeferred a, ?_⟩⟩;have g := aI.putObj (n0 := w.heap.size) (.deferred I) a H (by simp at d; omega);have hb := (ap.stays g).cell;exact ⟨Yz O, by simp [results, results117, go_sem, hb], by rw [HA.o], am.trans g.below⟩
  case round =>
    intro l k x W m hk hx hi a;obtain rfl := hx;have HK := A a;have RA := A (ai.new W 215 (ko (fV r k) (au r k) (aS r k)));have EA := A (show Ext W (W.alloc (.cells (ko (fV r k) (au r k) (aS r k)).toArray 215)) from (XI _ _).alloc (XE _) _);have z := A hi;clear a hi;refine du (bA _ _) R ?_;go_wp2_with (refine wpList_store_row rfl 215 (.tmp 4) (.tmp 13) rfl W.heap.size (ko (fV r k) (au r k) (aS r k)).toArray rfl rfl 215 _ (XZ _ _) R R R ?_; rw [gH _ _ _ _ rfl])
    refine dw (HK.o _ _ EA.o (λW2 T aq => ?_));have ab := (z.o.stays (EA.o.stays (n0 := w.heap.size) (by have := z.o.low.size; omega)) (XE _)).stays T Y7;have R2 : ai W2 W.heap.size 215 (ko (fV r k) (au r k) (aS r k)) := T.cells _ _ _ _ RA.o;clear HK z EA RA T;obtain ⟨Z, P⟩ := ku hc ((k + ln r - 1) % ln r);obtain ⟨ae, af⟩ := ku hc k;obtain ⟨Q, S⟩ := ku hc ((k + 1) % ln r);rw [<- jU] at Q S;rw [<- Bg] at Z P;obtain ⟨own, C⟩ : ∃ o, au r k = o := ⟨_, H⟩;obtain ⟨f, J⟩ : ∃ o, aS r k = o := ⟨_, H⟩;obtain ⟨t, B⟩ : ∃ o, fV r k = o := ⟨_, H⟩;have HO := A (show nP r k = ((((f.x - own.x) == 0) == ((f.y - own.y) == 0)) || (((own.x - t.x) == 0) == ((f.x - own.x) == 0))) by unfold nP ma oT tj; rw [C, J, B]);rw [C] at ae af;rw [J] at Q S;rw [B] at Z P;rw [C, J, B] at R2;rw [C, J, B];have I2 := A ab;have hz := ab.it.lt;clear ab hn
    gi_wp2
    refine wpIn_region_any R (np (bA _ _) R 11 (λb => ⟨#[V E (ln r) ac, M, YA (L ⟨w.heap.size, 0, I⟩), M, YA (L ⟨W.heap.size, 0, I⟩), b 9, b 10, V E (ln r) ac, G F (ln r : Int), Yz (YG ((ln r : Int) < 4)), V E (ln r) ac, .func (.func 243) #[] #[YA (L ⟨w.heap.size + 1, 0, I⟩)], G F (k : Int), YE (ko t own f).toArray, b 0, b 1, b 2, b 3, b 4, b 5, b 6, b 7, b 8, M, M, M, M, M, M, M, M, M, M, M, M, M, M, M, M], []⟩)
      (λw' => Ext W2 w') (CK t own f W.heap.size W2.heap.size) (λi => i == 9 || i == 10) R (λ_ _ h k => h.tr k) (λ_ _ _ _ h k => Rb h k) ?fr ?step ?tail (λ_ => M) _ (Ext.dr W2))
    case fr =>
      intro i v w' hi hf s;simp only [Bool.or_eq_true, Yg] at hf;rcases hf with rfl | rfl <;> exact jB.lt s
    case step =>
      intro i b w' hi d u;have cA := λi => (R2.ext d).cell i
      rcases (show i = 0 \/ i = 1 \/ i = 2 \/ i = 3 \/ i = 4 \/ i = 5 \/ i = 6 \/ i = 7 \/ i = 8 \/ i = 9 \/ i = 10 by omega) with rfl | rfl | rfl | rfl | rfl | rfl | rfl | rfl | rfl | rfl | rfl <;> clear hi
      ·exact a1q
      · refine XR H (λm a => ?_)
        have d0 := u 0 R;simp only [CK] at d0;go_simp;exact a _ _ ⟨_, by simp [d0, CK], Ext.ah _, rfl, λh => YM⟩
      · refine XR H (λm a => ?_)
        have d1 := u 1 R;simp only [CK] at d1;go_simp;refine (bW t _).mono ?_;rintro e W1 ⟨rfl, y⟩;exact a _ _ ⟨_, by simp [d1, CK], y, rfl, λh => YM⟩
      ·exact a1q
      · refine XR H (λm a => ?_)
        have d3 := u 3 R;simp only [CK] at d3;go_simp;exact a _ _ ⟨_, by simp [d3, CK], Ext.ah _, rfl, λh => YM⟩
      · refine XR H (λm a => ?_)
        have d4 := u 4 R;simp only [CK] at d4;go_simp;refine (bW own _).mono ?_;rintro e W1 ⟨rfl, y⟩;exact a _ _ ⟨_, by simp [d4, CK], y, rfl, λh => YM⟩
      · refine XR H (λm a => ?_)
        have d2 := u 2 R;have d5 := u 5 R;simp only [CK] at d2 d5;go_simp;refine (vY _ _ _ _ _ Z P ae af).mono ?_;rintro e W1 ⟨rfl, y⟩;exact a _ _ ⟨_, by simp [d2, d5, CK], y, rfl, λh => YM⟩
      · refine lC H H ?_
        exact wp_load_row 215 (.tmp 4) H W.heap.size H 215 (ko t own f).toArray (0, 0) _ (R2.ext d) underlying215 H R ⟨_, H, Ext.ah _, H, λh => YM⟩
      · refine XR H (λm a => ?_)
        have d7 := u 7 R;simp only [CK] at d7;go_simp;refine (j5 t own f _ ae af Q S).mono ?_;rintro e W1 ⟨rfl, y⟩;exact a _ _ ⟨_, by simp [d7, CK], y, rfl, λh => YM⟩
      ·exact a1p
      ·exact a1p
    case tail =>
      intro b w' d s ak;have X := s 6 YK;have v8 := s 8 YK;obtain ⟨p, N, l9, r9⟩ := s 9 YK;obtain ⟨q, aa, ah, al⟩ := s 10 YK;have ad := ak 9 10 YK YK YK H H;simp only [CK] at X v8;clear s ak;rw [N, aa] at ad;have an : p ≠ q := λh => ad (by rw [h])
      have n1 : ¬ q = p := λh => an h.symm
      clear ad;have K := A (I2.o.stays (d.stays (n0 := w.heap.size) (by have := I2.o.low.size; omega)) (XE _));have hE := A d;have cp := λi => r9.cell i
      have cq := λi => al.cell i
      have fp := λi => r9.frozen i
      have fq := λi => al.frozen i
      have cr := K.o.res.cell;have fr := K.o.res.frozen;have n2 : ¬ w.heap.size = p := D;have n3 : ¬ w.heap.size = q := D;have n4 : ¬ p = w.heap.size := D;have n5 : ¬ q = w.heap.size := D;have n6 : ¬ w.heap.size + 1 = p := D;have n7 : ¬ w.heap.size + 1 = q := D;simp only [List.drop_succ_cons, List.drop_zero, N, aa, X, v8];clear N aa X v8 d;cases t1 : ((f.x - own.x) == 0) <;> cases t2 : ((f.y - own.y) == 0) <;> cases t3 : ((own.x - t.x) == 0)
      all_goals first
        | (have HP := A (show nP r k = O by rw [HO.o, t1, t2, t3]; rfl)
           gi_wp2
           exact Qj K.o hE.o HP.o l9 ah hz)
        | (have HP := A (show nP r k = Y by rw [HO.o, t1, t2, t3]; rfl)
           gi_wp2
           exact RT K.o hE.o HP.o l9 ah hz)
end
section
open Kp
def Cf(w:U)(E:Option Ym)(ac:Nat)(r:List Sd)(b:bR 7 w w.heap.size E ac (aE r))(a:MF r)(c:ln r<=1000):
  XY Xz 117 #[V E (ln r) ac] w λe w'=>e=YC (Yz (cz r))/\Ext w w':=by
 by_cases d:4<=ln r
 ·exact Ap w E ac r b a c d
 ·exact xQ w E ac r D
def gw(w:U)(B:Nat)(E:Option Ym)(ac:Nat)(rs:List (List Sd)):Prop:=
 ln rs<=ac/\ac<=Yk/\(0<ln rs->∃b off,E=L ⟨b,off,I⟩/\b<B/\∀i,i<ln rs->∃T Q,w.cell? ⟨b,off+i,I⟩=L (V T (rs.getD i []).length Q)/\bR 7 w B T Q (aE (rs.getD i [])))
theorem gw.below{B:Nat}{rs:List (List Sd)}(h:gw w B E ac rs)(c:Yl B w w'):gw w' B E ac rs:=by
 obtain⟨h1,h2,f⟩:=h;refine⟨h1,h2,λj=> ?_⟩;obtain⟨b,off,e,a,d⟩:=f j;refine⟨b,off,e,a,λi hi=> ?_⟩;obtain⟨T,Q,k,g⟩:=d i hi;exact⟨T,Q,(c.cell a).trans k,g.below c⟩
theorem gw.more{B B':Nat}{rs:List (List Sd)}(h:gw w B E ac rs)(a:B<=B'):gw w B' E ac rs:=by
 exact a1r
structure Ea(rs:List (List Sd)):Prop where
 ne:∀r∈rs,r≠[]
 co:∀r∈rs,MF r
 len:ln rs.flatten<=24
theorem Ea.ring{rs:List (List Sd)}(h:Ea rs)(hi:i<ln rs):rs.getD i []≠[]/\MF (rs.getD i [])/\(rs.getD i []).length<=24:=by
 have e:rs.getD i []=rs[i]:=by rw[XJ,XO hi];rfl
 rw[e];refine⟨h.ne _ (List.getElem_mem hi),h.co _ (List.getElem_mem hi),Ye ?_ h.len⟩;exact(List.sublist_flatten_of_mem (List.getElem_mem hi)).length_le
def Ea.count{rs:List (List Sd)}(h:Ea rs):ln rs<=24:=by
 have key:∀l:List (List Sd),(∀r∈l,r≠[])->ln l<=ln l.flatten:=by
  intro l
  induction l with
  |nil=>intro _;simp
  |cons a l d=>
   intro b;have h1:=d λr c=>b r (List.mem_cons_of_mem _ c)
   have h2:0<ln a:=List.length_pos_iff.2 (b a YL);rw[List.flatten_cons,Yc,List.length_cons];omega
 exact Ye (key rs h.ne) h.len
def Av(rs:List (List Sd))(i k:Nat):Bool:= !(k==i||i==0)&&(kE (rs.getD k []) (au (rs.getD i []) 0).x (au (rs.getD i []) 0).y !=(k==0))
def QR(rs:List (List Sd))(i:Nat):FV rs i=((YG (0<oD (rs.getD i [])) !=(i==0))||cK (Av rs i) (ln rs)):=rfl
structure Xj(w:U)(rs:List (List Sd))(i:Z)(wr:U):Prop where
 ex:∃k:Nat,k<=ln rs/\i=G F (k:Int)/\∀j,j<k->FV rs j=O
 low:Ext w wr
structure Uz(w:U)(rs:List (List Sd))(i:Nat)(k:Z)(wr:U):Prop where
 ex:∃m:Nat,m<=ln rs/\k=G F (m:Int)/\∀j,j<m->Av rs i j=O
 low:Ext w wr
def Ep(w:U)(E:Option Ym)(ac:Nat)(rs:List (List Sd))(C:gw w w.heap.size E ac rs)(Z:Ea rs):
  XY Xz 119 #[V E (ln rs) ac] w λe w'=>e=YC (Yz (gQ rs))/\Ext w w':=by
 have h1:=C.1;have h2:=C.2.1;unfold Yk at h2;have aG:=Z.count;have HR:=A C;clear C;go_enter func119,ntmps119;go_wp2;go_loopw [9] (λi wr=>Xj w rs i wr) (λi _=>((ln rs:Int)-Yf i).toNat)
 case atStart=>exact⟨⟨0,D,rfl,λj c=>D⟩,XI _ _⟩
 case round=>
  obtain⟨⟨i,hi,rfl,aj⟩,ag⟩:=hrel;have r:=A ag;have ak:=A aj;clear ag aj;by_cases v:i<ln rs
  ·obtain⟨b,off,rfl,hB,t⟩:=(HR.o.below r.o).2.2 D;obtain⟨T,Q,av,ad⟩:=t i v;obtain⟨al,ai,az⟩:=Z.ring v;have z:=r.o.size;obtain⟨ring,x⟩:=aa (rs.getD i []);rw[x] at av ad al ai az;have aC:=A x;have X:=A (show FV rs i=((YG (0<oD ring) !=(i==0))||cK (Av rs i) (ln rs)) by rw[QR,x]);clear x;have ca:=A (Kg wr T Q ring (ad.more z) ai D);clear t;obtain⟨d,hd⟩:=aa (YG (0<oD ring));obtain⟨e,P⟩:=aa (i==0);have tz:((i:Int)==0)=e:=by rw[<-P,Bool.eq_iff_iff];simp only[Yg];omega
   have HE:=A P;clear P;by_cases B:d=e
   ·have HF:=A (show(YG (0<oD ring) !=(i==0))=O by rw[hd,HE.o,B];simp);subst B;go_wp2_with(go_at_call 191;refine ca.o.mono ?_;rintro e W1 ⟨rfl,R⟩)
    go_loopw [22] (λk wq=>Uz wr rs i k wq) (λk _=>((ln rs:Int)-Yf k).toNat)
    case atStart=>exact⟨⟨0,D,rfl,λj c=>D⟩,R⟩
    case round=>
     obtain⟨⟨k,hk,rfl,am⟩,ao⟩:=hrel;have ah:=A am;have ae:=A ao;clear am ao;have H:=A (r.o.tr ae.o);by_cases K:k<ln rs
     ·obtain⟨b',ax,e',aF,t⟩:=(HR.o.below H.o).2.2 D;obtain⟨rfl,rfl⟩:b'=b/\ax=off:=by injection e' with e';injection e' with e3 e4;exact⟨e3.symm,e4.symm⟩
      obtain⟨Ak,ck,ar,M⟩:=t k K;obtain⟨ay,I,aA⟩:=Z.ring K;have y:=H.o.size;obtain⟨u,L⟩:=aa (rs.getD k []);rw[L] at ar M ay I aA;have a:=A (show Av rs i k=(!(k==i||i==0)&&(kE u (au ring 0).x (au ring 0).y !=(k==0))) by unfold Av;rw[L,aC.o]);have af:0<ln ring:=List.length_pos_iff.2 al;obtain⟨ba,oa,rfl,_,an⟩:=(ad.below (ae.o.mono z)).2.2 (by rw[XP];exact af);have c0:=λj (c:j<7)=>(an 0 (by rw[XP];exact af) j c).trans (by rw[kJ af])
      clear L t e' an;simp only[Nat.mul_zero,Nat.add_zero] at c0;have ap:=c0 0 YK;rw[Nat.add_zero] at ap;obtain⟨f,hf⟩:=aa (k==i);have tf:((k:Int)==(i:Int))=f:=by rw[<-hf,Bool.eq_iff_iff];simp only[Yg];omega
      obtain⟨g,N⟩:=aa (k==0);have tg:((k:Int)==0)=g:=by rw[<-N,Bool.eq_iff_iff];simp only[Yg];omega
      rw[hf,HE.o,N] at a;clear hf N;have aq:=A (λ(z:Av rs i k=O) (W:U) (hW:Ext wr W)=>show Uz _ rs i (G F ((k:Int)+1)) W from⟨⟨k+1,D,YL,λj c=>by
       by_cases aB:j=k
       ·rw[aB];exact z
       ·exact ah.o j D⟩,ae.o.tr hW⟩)
      cases f with
      |true=>
       exact a1t
      |false=>
       cases d with
       |true=>
        exact a1t
       |false=>
        obtain⟨o,ho⟩:=aa (au ring 0);rw[ho] at c0 ap a;clear ho;by_cases m:kE u o.x o.y=g
        ·have n:=A (show Av rs i k=O by rw[a.o,m];simp);clear a;go_wp2_with(first
          |(go_at_call 186;refine(bW o _).mono ?_;rintro e V1 ⟨rfl,l⟩;have s:=A (tJ V1 Ak ck u o.x o.y ((M.below (l.mono y)).more (Ye y l.size)) I D);rw[m] at s)
          |(go_at_call 192;refine s.o.mono ?_;rintro e V2 ⟨rfl,S⟩))
         refine⟨aq.o n.o _ (l.tr S),YO⟩
        ·have J:=A (show gQ rs=O by unfold gQ;rw[dh v (by rw[X.o,HF.o,dh K (by rw[a.o];simpa using m)];rfl)];rfl);obtain⟨q,hq⟩:=aa (kE u o.x o.y);rw[hq] at m;cases q<;>cases g<;>first|exact absurd rfl m|skip
         all_goals
          clear m a;go_wp2_with(first
           |(go_at_call 186;refine(bW o _).mono ?_;rintro e V1 ⟨rfl,l⟩;have s:=A (tJ V1 Ak ck u o.x o.y ((M.below (l.mono y)).more (Ye y l.size)) I D);rw[hq] at s)
           |(go_at_call 192;refine s.o.mono ?_;rintro e V2 ⟨rfl,S⟩))
          go_ret;exact⟨by rw[J.o];rfl,H.o.tr (l.tr S)⟩
     ·have n:=A (show FV rs i=O by rw[X.o,HF.o,bz (λj c=>ah.o j D)];rfl);have aE:YG ((k:Int)<(ln rs:Int))=O:=YU;go_wp2;refine⟨⟨⟨i+1,D,YL,λj c=> ?_⟩,H.o⟩,YO⟩;by_cases aw:j=i
      ·rw[aw];exact n.o
      ·exact ak.o j D
   ·have ab:(d !=e)=Y:=by simpa using B
    have J:=A (show gQ rs=O by unfold gQ;rw[dh v (by rw[X.o,hd,HE.o,ab];rfl)];rfl);clear B;cases d with
    |false=>
     cases e with
     |false=>cases ab
     |true=>
      exact a1s
    |true=>
     cases e with
     |true=>cases ab
     |false=>
      exact a1s
  ·have HA:=A (show gQ rs=Y by unfold gQ;rw[bz (λj c=>ak.o j D)];rfl);have aD:YG ((i:Int)<(ln rs:Int))=O:=YU;go_wp2;go_ret;exact⟨by rw[HA.o];rfl,r.o⟩
end
section
open Kp
theorem bI{rows:List (List Z)}(a:dv k rows):ln rows.flatten=ln rows*k:=by
 induction rows with
 |nil=>simp
 |cons r rows b=>
  rw[List.flatten_cons,Yc,b (λx hx=>a x (List.mem_cons_of_mem _ hx)),a r YL,List.length_cons,Nat.add_mul,Nat.one_mul,Nat.add_comm]
theorem IQ{rows:List (List Z)}(a:dv k rows)(hi:i<ln rows)(d:j<k):rows.flatten[k*i+j]?=(rows.getD i [])[j]?:=by
 induction rows generalizing i with
 |nil=>simp at hi
 |cons r rows c=>
  have b:ln r=k:=a r YL;rw[List.flatten_cons];cases i with
  |zero=>
   rw[Nat.mul_zero,Nat.zero_add,List.getElem?_append_left D];rfl
  |succ i=>
   have e:k*(i+1)+j=ln r+(k*i+j):=by rw[b,Nat.mul_add,Nat.mul_one];omega
   rw[e,List.getElem?_append_right D,Nat.add_sub_cancel_left,c (λx hx=>a x (List.mem_cons_of_mem _ hx)) ZF]
   rfl
theorem FR(hk:0<k)(a:j<n*k):∃i m,i<n/\m<k/\j=k*i+m:=
 ⟨j/k,j%k,(Nat.div_lt_iff_lt_mul hk).2 a,Nat.mod_lt _ hk,(Nat.div_add_mod j k).symm⟩
theorem bR.cells{B:Nat}{b off ac:Nat}{rows:List (List Z)}(h:bR k w B (L ⟨b,off,I⟩) ac rows)(a:dv k rows)(hk:0<k):
  ∀j u,rows.flatten[j]?=L u->w.cell? ((⟨b,off,I⟩:Ym).add j)=L u:=by
 intro j u d;have f:j<ln rows.flatten:=(List.getElem?_eq_some_iff.1 d).1;rw[bI a] at f;obtain⟨i,m,hi,c,rfl⟩:=FR hk f;obtain⟨n,l,e,_,g⟩:=h.2.2 D;obtain⟨rfl,rfl⟩:b=n/\off=l:=ZI;have:=g i hi m c;rw[<-IQ a hi c,d] at this;rw[Addr.add_lit,<-Nat.add_assoc];exact this
theorem bK{v:Z}{rows:List (List Z)}(h:w.ownsRow base e k v n rows.flatten)(l:ln rows=n)(c:dv k rows):
  ∃E ac,v=V E n ac/\bR k w w.heap.size E ac rows:=by
 subst l;obtain⟨r,⟨rfl,d⟩|⟨g,ac,cur,rfl,s,a,h1,h2,q,m⟩⟩:=h
 ·exact a08
 ·refine⟨_,ac,H,h1,h2,λb=>⟨g,0,rfl,(XV.1 a).1,λi hi j f=> ?_⟩⟩;rw[<-IQ c hi f,<-m];have o:k*i+j<ln rows*k:=by
   have:k*(i+1)<=k*ln rows:=Nat.mul_le_mul_left _ hi;rw[Nat.mul_add,Nat.mul_one] at this;rw[Yd (ln rows) k];omega
  rw[List.getElem?_take,XT o,Nat.zero_add];simp[World.cell?,a]
end
section
open Kp
theorem JD{a b:Nat}(h:Ext ((w.drewN a).drewN b) W):Ext w W:=
 (below_drewN (below_drewN (XI w.heap.size w) a) b).trans h
theorem fR{P:Program}{Q:Exit->Act->U->Prop}{b:List Oper}{c:Nat}{a:Act}(n:Nat)(d:P.follows .mixedOrders=Y)(e:Region.lexTailB .any b.toArray n=Y)
  (h:∀w2,Ext w w2->wpStill P b.toArray w2 (λa'=>wpList P b.toArray Q (b.drop n) a' w2) (b.take n) a):(Code.region c b.toArray Y).wp P Q a w:=
 wp_region_still_tail n d e (h _ (Ext.dr w))
theorem Gk{o:Obj}(h:Ext (w.alloc o) W):Ext w W:=((XI _ _).alloc (XE _) o).trans (h.mono YL)
theorem tQ{P:Program}{ops:Array Oper}{Q:Act->Prop}{l:List Oper}{a:Act}(h:∀b:Array Oper,b=ops->wpStill P b w Q l a):wpStill P ops w Q l a:=h ops rfl
theorem zy{a:Array Oper}{o:Oper}{b x:Bool}(c:o.guard=L (j,b))(f:(a[j]?).bind (·.dst)=L d)(e:tmps[d]?=L (Yz x)):Region.wanted o (yielded a tmps)=(x==b):=by
 unfold Region.wanted;rw[c];have hy:yielded a tmps j=L x:=by unfold yielded;rw[f];simp[e]
 simp[hy]
theorem s7{a:Array Oper}{o:Oper}{b x:Bool}(c:o.guard=L (j,b))(f:(a[j]?).bind (·.dst)=L d)(e:tmps[d]?=L (Yz x))(hx:(x==b)=O):¬Region.wanted o (yielded a tmps)=Y:=by
 rw[zy c f e,hx];decide
theorem iq{a:Array Oper}{o:Oper}{b x:Bool}(c:o.guard=L (j,b))(f:(a[j]?).bind (·.dst)=L d)(e:tmps[d]?=L (Yz x))(hx:(x==b)=Y):Region.wanted o (yielded a tmps)=Y:=by
 rw[zy c f e,hx]
end
end Go.Proofs.YtnepbjnlmkppmaaGreatDoor
