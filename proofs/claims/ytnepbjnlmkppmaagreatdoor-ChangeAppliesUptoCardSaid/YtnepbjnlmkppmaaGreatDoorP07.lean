/- ChangeApplies of kingpostlaw58: part 7 of its proof (merged and shortened by program). -/
import Derived.Laws.CopyRow
import Derived.Deep.Slices
import Derived.Deep.Fields
import Derived.OpenShut
import Derived.ChangeSame
import Derived.WideShapes
import Derived.Test.YtnepbjnlmkppmaaGreatDoorP02
set_option linter.unusedVariables false
set_option linter.unusedSimpArgs false
set_option linter.defProp false
set_option maxHeartbeats 8000000
set_option maxRecDepth 100000
open Go.RowKit Go.Shelf Go.Proofs.Tryz
open Array renaming getElem?_eq_some_iff→XV
open Bool renaming false→O,true→Y
open Go renaming World→U,undef→M,Value→Z,Calls→XY,TypeId→Yj,maxLen→Yk,Addr→Ym
open Go.Ending renaming returned→YC
open Go.IntKind renaming i64→F
open Go.Lib renaming hid→A
open Go.Proofs.Tryz renaming prog→Xz,underlying50→XB
open Go.RowKit renaming Below→Yl
open Go.Value renaming slice→V,string→Yy,bool→Yz,pointer→YA,int→G,agg→YE,tuple→YF
open Go.World renaming alloc_heap_new→XZ
open List renaming getElem?_eq_getElem→XO,length_map→XP,length→ln
open Nat renaming le_refl→XE,mul_comm→Yd
open Option renaming none→I,some→L
open Go.Proofs.YtnepbjnlmkppmaaGreatDoor
variable{C:Array Z}{l:List Z}{c n:Nat}{b:Type}{w u w':U}{a c1 c2 c3 c4:Z}{p:Ym}
namespace Go.Proofs.YtnepbjnlmkppmaaGreatDoor
section
open Kp
structure iN(B N b:Nat)(r:uo)(w:U):Prop where
 lo:B<=b
 hi:b<N
 ex:∃sb off a,w.heap[b]?=L (.cells #[V (L ⟨sb,off,I⟩) (ln r.1) a,Yz r.2] 106 (0,0))/\sb≠b/\sb<N/\ln r.1<=a/\a<=1000000/\
  (∃cur:Array Z,w.heap[sb]?=L (.cells cur 9 (0,0)))/\∀j (c:j<ln r.1),w.cell? ⟨sb,off+j,I⟩=L (Yy (tx (r.1[j]'c)))
 len:∀x∈r.1,ln x<=100000
theorem iN.eC{B N b:Nat}{r:uo}(h:iN B N b r w)(m:N<=p.block)(x:Z):iN B N b r (w.setCell p x):=by
 obtain⟨lo,hi,⟨sb,off,f,h1,h2,a,k,i,⟨cur,d⟩,l⟩,c⟩:=h;exact⟨lo,hi,⟨sb,off,f,(Below.heap_setCell w p x b D).trans h1,h2,a,k,i,⟨cur,(Below.heap_setCell w p x sb D).trans d⟩,λj g=>by
  rw[World.cell?_setCell_other]
  ·exact l j g
  ·intro e;have n:p.block=sb:=Yv Ym.block e;omega⟩,c⟩
structure cC(B b:Nat)(w w':U):Prop where
 low:Yl B w w'
 others:∀k,k<w.heap.size->k≠b->w'.heap[k]?=w.heap[k]?
def cC.refl(B b:Nat)(w:U):cC B b w w:=⟨XI _ _,λ_ _ _=>rfl⟩
def cC.trans{B b:Nat}{u v w:U}(h:cC B b u v)(k:cC B b v w):cC B b u w:=
 ⟨h.low.trans k.low,λj a c=>(k.others j (Nat.lt_of_lt_of_le a h.low.size) c).trans (h.others j a c)⟩
theorem cC.aY{B b:Nat}(h:Yl w.heap.size w w')(a:B<=w.heap.size):cC B b w w':=⟨h.mono a,λk hk _=>h.block k hk⟩
def cC.set{B b:Nat}(w:U)(a:B<=b)(i:Nat)(x:Z):cC B b w (w.setCell ⟨b,i,I⟩ x):=
 ⟨(XI _ _).setCell (p:=⟨b,i,I⟩) a _,λk _ hk=>Below.heap_setCell w ⟨b,i,I⟩ x k hk⟩
theorem iN.below{B N b:Nat}{r:uo}(h:iN B N b r w)(a:Yl w.heap.size w w'):iN B N b r w':=by
 obtain⟨lo,hi,⟨sb,off,f,h1,h2,d,k,i,⟨cur,c⟩,l⟩,e⟩:=h;have l1:b<w.heap.size:=(XV.1 h1).1;have l2:sb<w.heap.size:=(XV.1 c).1;exact⟨lo,hi,⟨sb,off,f,(a.block b l1).trans h1,h2,d,k,i,⟨cur,(a.block sb l2).trans c⟩,λj g=>(a.cell l2).trans (l j g)⟩,e⟩
theorem iN.lt{B N b:Nat}{r:uo}(h:iN B N b r w):b<w.heap.size:=by
 obtain⟨lo,hi,⟨sb,off,a,h1,_⟩,c⟩:=h;exact(XV.1 h1).1
def Iz(B N b:Nat)(v:Z)(r:uo)(w:U)(e:Ending)(w':U):Prop:=e=YC v/\iN B N b r w'/\cC B b w w'
def vV(B N b:Nat)(r:uo)(w:U)(h:iN B N b r w):
  XY Xz 107 #[ou b] w (Iz B N b (Yy (tx (rW r).1)) (rW r).2 w):=by
 obtain⟨o,m⟩:=r;obtain⟨lo,hi,⟨sb,off,c,h1,h2,l,n,q,⟨cur,d⟩,k⟩,g⟩:=h;have X:gR w b 106 (V (L ⟨sb,off,I⟩) (ln o) c) (Yz m):=h1;have a:=X.cell0;have c1:=X.fJ;have F:=X.frozen 0;have f1:=X.frozen 1;cases o with
 |nil=>
  have z:=A X;have i:=A (show iN B N b ([],Y) (w.setCell ⟨b,1,I⟩ (Yz Y)) from⟨lo,hi,⟨sb,off,c,X.ue _,h2,l,n,q,⟨cur,(Below.heap_setCell w ⟨b,1,I⟩ _ sb h2).trans d⟩,λj f=>absurd f YL⟩,g⟩);clear h1 X d k g;go_enter func107,ntmps107;go_wp2;go_ret;exact⟨H,i.o,cC.set w lo 1 _⟩
 |cons s t=>
  have v:=k 0 YL;simp only[List.getElem_cons_zero,Nat.add_zero] at v;have E:ln t+1<=c:=by simpa using n
  by_cases u:c=1
  ·subst u;have y:t=[]:=List.length_eq_zero_iff.1 D;subst y;have i:=A (show iN B N b ([],m) (w.setCell ⟨b,0,I⟩ (V (L ⟨sb,off,I⟩) 0 0)) from⟨lo,hi,⟨sb,off,0,X.nz _,h2,l,YL,D,⟨cur,(Below.heap_setCell w ⟨b,0,I⟩ _ sb h2).trans d⟩,λj f=>absurd f YL⟩,λx hx=>by cases hx⟩);exact a0Y
  ·have i:=A (show iN B N b (t,m) (w.setCell ⟨b,0,I⟩ (V (L ⟨sb,off+1,I⟩) (ln t) (c-1))) from⟨lo,hi,⟨sb,off+1,c-1,X.nz _,h2,l,by show ln t<=_;omega,D,⟨cur,(Below.heap_setCell w ⟨b,0,I⟩ _ sb h2).trans d⟩,λj f=>by
    have:=k (j+1) (by simp;exact f);simp only[List.getElem_cons_succ] at this;rw[show off+1+j=off+(j+1) by omega];rw[World.cell?_setCell_other]
    ·exact this
    ·intro e;exact h2 (Yv Ym.block e).symm⟩,λx hx=>g x (List.mem_cons_of_mem _ hx)⟩)
   have C:(c-1==0)=O:=Y4;have G:¬c-1=0:=D;exact a0Y
def TG(w:U)(s:K)(e:Ending)(w':U):Prop:=
 ∃a,e=YC (YF #[G F (n8 s).1,a])/\(((n8 s).2=O/\a= .nilIface)\/((n8 s).2=Y/\∃t p,a= .iface t p))/\Yl w.heap.size w w'
def OR(s:K)(w:U)(j:ln s<=100000)(g:Gl w):XY Xz 180 #[Yy (tx s)] w (TG w s):=by
 cases b:Lib.atoiAll s
 ·rename_i v;have a:n8 s=(v,O):=by unfold n8;rw[b]
  refine(strconv_Atoi_ok (tx s) ZB v (by rw[bH];exact b) w).mono ?_;rintro e w' ⟨rfl,i⟩;refine⟨_,by rw[a],.inl ⟨by rw[a],rfl⟩,?_⟩;rcases i with rfl|⟨t,rfl⟩
  ·exact XI _ _
  ·exact Lib.bytesWorld_below _ _ _
 ·have a:n8 s=(0,Y):=by unfold n8;rw[b]
  obtain⟨f,p,c⟩:=g.syn;refine(strconv_Atoi_syntax_var (tx s) ZB (by rw[bH];exact b.trans H) f p w c).mono ?_;rintro e w' ⟨N,rfl,_,_,d⟩;exact⟨_,by rw[a],.inr ⟨by rw[a],_,_,rfl⟩,d⟩
 ·have a:n8 s=(Lib.atoiSat s,Y):=by unfold n8;rw[b]
  obtain⟨f,p,c⟩:=g.rng;refine(strconv_Atoi_range_var (tx s) ZB (by rw[bH];exact b) f p w c).mono ?_;rintro e w' ⟨N,rfl,_,_,d⟩;exact⟨_,by rw[a,bH],.inr ⟨by rw[a],_,_,rfl⟩,d⟩
theorem iN.Po{B N b:Nat}{r:uo}(h:iN B N b r w)(x:Bool):iN B N b (r.1,x) (w.setCell ⟨b,1,I⟩ (Yz x)):=by
 obtain⟨lo,hi,⟨sb,off,a,h1,h2,c,k,i,⟨cur,f⟩,l⟩,d⟩:=h;have X:gR w b 106 (V (L ⟨sb,off,I⟩) (ln r.1) a) (Yz r.2):=h1;exact⟨lo,hi,⟨sb,off,a,X.ue _,h2,c,k,i,⟨cur,(Below.heap_setCell w ⟨b,1,I⟩ _ sb h2).trans f⟩,λj g=>by
  rw[World.cell?_setCell_other]
  ·exact l j g
  ·intro e;exact h2 (Yv Ym.block e).symm⟩,d⟩
theorem iN.cells{B N b:Nat}{r:uo}(h:iN B N b r w):w.cell? ⟨b,1,I⟩=L (Yz r.2)/\w.frozen? ⟨b,1,I⟩=O/\∃d c,w.cell? ⟨b,0,I⟩=L (V d (ln r.1) c):=by
 obtain⟨lo,hi,⟨sb,off,a,h1,_⟩,e⟩:=h;have X:gR w b 106 (V (L ⟨sb,off,I⟩) (ln r.1) a) (Yz r.2):=h1;exact⟨X.fJ,X.frozen 1,_,_,X.cell0⟩
theorem S8{B N b:Nat}{r:uo}(h:iN B N b r w):(rW r).1.length<=100000:=by
 obtain⟨a,x⟩:=r;cases a with
 |nil=>simp[rW]
 |cons s t=>exact h.len s (List.mem_cons_self ..)
def Jn(B N b:Nat)(r:uo)(w:U)(h:iN B N b r w)(i:Gl w)(s:9<=B)(y:B<=w.heap.size):
  XY Xz 108 #[ou b] w (Iz B N b (G F (rI r).1) (rI r).2 w):=by
 have u:=A (vV B N b r w h);have q:=S8 h;have C:=λW=>run_eql_nil_nil (P:=Xz) W 193 R
 have v:=A i;have lo:=h.lo;clear h i;go_enter func108,ntmps108;go_upto_region 2 with(first
  |(go_at_call 107;refine u.o.mono ?_;rintro e w1 ⟨rfl,h1,h2⟩;have o:=A h1;have g:=A h2;clear h1 h2)
  |(go_at_call 180;refine(OR _ _ q (v.o.keep g.o.low s)).mono ?_;rintro e w2 ⟨z,rfl,k,j⟩;have l:=A (o.o.below j);have n:=A (g.o.trans (cC.aY j (by have:=g.o.low.size;omega)));have f:=A k;clear k))
 obtain⟨c1,f1,_⟩:=l.o.cells;have m:=A (λx=>(l.o.Po x));cases a:(rW r).2.2 with
 |true=>
  have c:=A (show(rI r).2=((rW r).2.1,Y) by unfold rI;rw[a];rfl);rw[a] at c1;exact a0Z
 |false=>
  rw[a] at c1;rcases f.o with⟨d,rfl⟩|⟨d,t,p,rfl⟩
  ·have c:=A (show(rI r).2=((rW r).2.1,O) by unfold rI;rw[a,d];rfl);clear f;go_wp2;go_ret;exact⟨H,by rw[c.o];exact m.o O,n.o.trans (cC.set _ lo 1 _)⟩
  ·have c:=A (show(rI r).2=((rW r).2.1,Y) by unfold rI;rw[a,d];rfl);clear f;exact a0Z
end
section
open Kp
def Ej(k:Int):(Oq k).kind=k:=rfl
attribute [local go_sem] aF dG eV gJ il gL gK gM gN gW gZ en ef eh dZ dk eL eP dW dX dU dV eo dt eH eI dY eO eR eK eB eM ff eY fe eZ dd dP Ej gH j8 km jv
def EC(w:U)(c:Nat)(C:Array Z):Prop:=w.heap[c]?=L (.cells C 50 (0,0))
theorem EC.cell(h:EC w c C)(i:Nat):w.cell? ⟨c,i,I⟩=C[i]?:=by unfold EC at h;simp[World.cell?,h]
theorem EC.frozen(h:EC w c C)(i:Nat):w.frozen? ⟨c,i,I⟩=O:=by unfold EC at h;simp[World.frozen?,h]
theorem EC.heap(h:EC w c C):w.heap[c]?=L (.cells C 50 (0,0)):=h
theorem EC.lt(h:EC w c C):c<w.heap.size:=(XV.1 h).1
theorem EC.put(h:EC w c C)(i:Nat)(x:Z):EC (w.setCell ⟨c,i,I⟩ x) c (C.setIfInBounds i x):=by unfold EC at *;simp[World.setCell,Array.getElem?_modify,h]
theorem EC.eC(h:EC w c C)(a:c≠p.block)(x:Z):EC (w.setCell p x) c C:=(Below.heap_setCell w p x c a).trans h
theorem EC.keep{B b:Nat}(h:EC w c C)(hk:cC B b w w')(a:c≠b):EC w' c C:=(hk.others c h.lt a).trans h
theorem EC.alloc(h:EC w c C)(o:Obj):EC (w.alloc o) c C:=(Below.heap_alloc w o c h.lt).trans h
def EC.new(w:U)(C:Array Z):EC (w.alloc (.cells C 50)) w.heap.size C:=XZ w _
theorem iN.alloc{B N b:Nat}{r:uo}(h:iN B N b r w)(o:Obj):iN B N b r (w.alloc o):=h.below ((XI _ _).alloc (XE _) _)
theorem cC.alloc{B b:Nat}(h:cC B b u w)(a:B<=w.heap.size)(o:Obj):cC B b u (w.alloc o):=h.trans (cC.aY ((XI _ _).alloc (XE _) _) a)
theorem cC.eC{B b:Nat}(h:cC B b u w)(d:u.heap.size<=p.block)(c:B<=p.block)(x:Z):cC B b u (w.setCell p x):=
 ⟨h.low.setCell c x,λk hk a=>(Below.heap_setCell w p x k D).trans (h.others k hk a)⟩
theorem cC.row{B b:Nat}(h:cC B b u w)(d:u.heap.size<=n)(c:B<=n)(cs:Array Z):cC B b u (w.setRow n cs):=
 ⟨al h.low c cs,λk hk a=>by
  have:(w.setRow n cs).heap[k]?=w.heap[k]?:=by simp only[World.setRow,Array.getElem?_modify];rw[XQ D]
  rw[this];exact h.others k hk a⟩
theorem iN.row{B N b:Nat}{r:uo}(h:iN B N b r w)(o:N<=n)(cs:Array Z):iN B N b r (w.setRow n cs):=by
 obtain⟨lo,hi,⟨sb,off,f,h1,h2,c,l,i,⟨cur,e⟩,m⟩,d⟩:=h;have a:∀k,k≠n->(w.setRow n cs).heap[k]?=w.heap[k]?:=λk hk=>by simp only[World.setRow,Array.getElem?_modify];rw[XQ (Ne.symm hk)]
 exact⟨lo,hi,⟨sb,off,f,(a b D).trans h1,h2,c,l,i,⟨cur,(a sb D).trans e⟩,λj g=>(World.cell?_of_block (a sb D)).trans (m j g)⟩,d⟩
def putAt(a:Array Z)(o:Nat)(cells:Array Z):Array Z:=(a.toList.take (o+0)++cells.toList++a.toList.drop (o+0+ln cells.toList)).toArray
def qR(w:U)(g o:Nat)(t ty:Yj)(a cells:Array Z)(c:w.heap[g]?=L (.cells a t (0,0)))(hi:(Xz.info? ty).map (·.size)=L cells.size)
  (f:o+cells.size<=a.size)(h1:cells.all (·.oneCell')=Y):(storeVar ty ⟨g,o,I⟩ (YE cells)).run Xz w= .ok () (w.setRow g (putAt a o cells)):=by
 have:=run_storeCells_at (P:=Xz) g o t cells.toList 0 a w c YP (λv d=>(Array.all_eq_true_iff_forall_mem.1 h1) v (by simpa using d));cases b:Xz.info? ty with
 |none=>simp[b] at hi
 |some i=>
  have e:cells.size=i.size:=by simp[b] at hi;omega
  unfold putAt;simp[storeVar,sizeOf,typeInfo,b,Value.cells,e] at this⊢;exact this
theorem bZ{ops:Array Oper}{rest:List Oper}{o:Oper}{a:Act}{Q:Exit->Act->U->Prop}(e:o.guard=I)(ty:Yj)(x y:Operand)(f:o.op= .store ty x y)
  (g off:Nat)(cells:Array Z)(hx:a.eval x=YA (L ⟨g,off,I⟩))(hy:a.eval y=YE cells)
  (t:Yj)(b:Array Z)(d:w.heap[g]?=L (.cells b t (0,0)))(hi:(Xz.info? ty).map (·.size)=L cells.size)
  (i:off+cells.size<=b.size)(h1:cells.all (·.oneCell')=Y)
  (h:wpList Xz ops Q rest (a.put o.dst M) (w.setRow g (putAt b off cells))):wpList Xz ops Q (o::rest) a w:=by
 refine wpList_plain e λ_ c=> ?_
 unfold Oper.wp execOp;simp only[f,hx,hy,Instr.storeAt,Instr.sureAddr,Sem.run_bind,Sem.run_pure,Result.andThen_ok,qR w g off t ty b cells d hi i h1];exact c _ _ h
theorem EC.VP(h:EC w c C)(b:c≠n)(cs:Array Z):EC (w.setRow n cs) c C:=by
 exact a00
def all_nil(P:Int->Prop):∀n∈([]:List Int),P n:=λ_ h=>YM
def all_cons{P:Int->Prop}{a:Int}{l:List Int}(h:P a)(k:∀n∈l,P n):∀n∈a::l,P n:=λn b=>by
 rcases List.mem_cons.1 b with rfl|b
 ·exact h
 ·exact k n b
def vK(P:K->Prop):∀n∈([]:List K),P n:=λ_ h=>YM
def mL{P:K->Prop}{a:K}{l:List K}(h:P a)(k:∀n∈l,P n):∀n∈a::l,P n:=λn b=>by
 rcases List.mem_cons.1 b with rfl|b
 ·exact h
 ·exact k n b
def pF(w:U)(B:Nat):aT w B I 0 []:=⟨XE _,YR,λh=>absurd h YL⟩
end
section
open Kp Go.ChangeShapes Go.WideShapes Go.Deep
def aP:Xz.cellsOf 3=1:=R
def MX:Xz.cellsOf 4=1:=R
def mz:Xz.cellsOf 37=1:=R
def vI:Xz.cellsOf 9=1:=R
def Lp:Xz.cellsOf 42=1:=R
def yt:Xz.cellsOf 36=7:=R
def yQ:Xz.cellsOf 39=5:=R
def yY:Xz.cellsOf 41=3:=R
def zq:Xz.cellsOf 46=3:=R
def yB:Xz.cellsOf 48=5:=R
def yo:Xz.cellsOf 30=4:=R
def GF:Xz.cellsOf 135=2:=R
def yu:Xz.cellsOf 44=6:=R
def J5:Xz.cellsOf 50=37:=R
section
variable {g : Type} {E : Yj × Z → g} {w : U} {base : Nat} {B : Nat → Bool} {z : Bool}
def Rz{n:Int}(h:(Lit.int .i64 n).wf=Y):aZ n:=by
 simp only[Lit.wf,Bool.and_eq_true,XX] at h;exact h
theorem dC{c:Z}{x:DataW g×List MemPlace}(h:DataW.trod E Xz w base B z n 3 [c]=L x):∃k,c= .int .i64 k/\aZ k:=by
 obtain⟨k,b,_,a⟩:=DataW.trod_int underlying3 h;exact⟨k,by simpa using b,Rz a⟩
theorem U5{c:Z}{x:DataW g×List MemPlace}(h:DataW.trod E Xz w base B z n 4 [c]=L x):∃k,c= .bool k:=by
 obtain⟨k,a,_⟩:=DataW.trod_bool underlying4 h;exact⟨k,by simpa using a⟩
theorem Co{c:Z}{x:DataW g×List MemPlace}(h:DataW.trod E Xz w base B z n 37 [c]=L x):∃k:K,c= .string (tx k):=by
 obtain⟨k,a,_⟩:=DataW.trod_string underlying37 h;exact⟨k.data.toList,by rw[o6];simpa using a⟩
theorem Sl{c:Z}{x:DataW g×List MemPlace}(h:DataW.trod E Xz w base B z n 9 [c]=L x):∃k:K,c= .string (tx k):=by
 obtain⟨k,a,_⟩:=DataW.trod_string underlying9 h;exact⟨k.data.toList,by rw[o6];simpa using a⟩
theorem Rg{a:List b}{n i:Nat}(h:ln a=n)(hi:i<n):∃y,a[i]?=L y:=⟨_,XO D⟩
theorem jz{t:Yj}{m k:Nat}{b:Array Field}{f:Field}{a:List (DataW g×List MemPlace)}(h:ln a=b.size)
  (d:∀(i:Nat) (f:Field),b[i]?=L f->DataW.trod E Xz w base B z m f.type ((l.drop f.offset).take (Xz.cellsOf f.type))=a[i]?)(i:Nat)(hk:Xz.cellsOf t=k)(c:b[i]?=L f)(e:f.type=t):
  ∃y,a[i]?=L y/\DataW.trod E Xz w base B z m t ((l.drop f.offset).take k)=L y:=by
 obtain⟨y,hy⟩:=Rg h (XV.1 c).1;subst e hk;exact⟨y,hy,(d i f c).trans hy⟩
theorem M5{x:DataW g×List MemPlace}(h:DataW.trod E Xz w base B z n 135 [a,c1]=L x):∃(gf:Int) (d:Int),a= .int .i64 gf/\aZ gf/\c1= .int .i64 d/\aZ d:=by
 obtain⟨s,m,_,_,_,c,b⟩:=DataW.trod_struct underlying135 h;obtain⟨t,r,l⟩:=jz c b 0 aP H H;obtain⟨o,f,k⟩:=dC l;obtain⟨q,u,p⟩:=jz c b 1 aP H H;obtain⟨j,i,e⟩:=dC p;exact⟨o,j,f,k,i,e⟩
def addr_add(b o k:Nat):(⟨b,o,I⟩:Ym).add k=⟨b,o+k,I⟩:=by unfold Ym.add;split <;>simp_all
theorem Lt{c:Z}{x:DataW g×List MemPlace}(h:DataW.trod E Xz w base B z n 42 [c]=L x):
  ∃(J:Option Ym) (K:Nat) (u:List (Int×Int)),c= .slice J (ln u) K/\aT w w.heap.size J K u/\∀p∈u,aZ p.1/\aZ p.2:=by
 rcases open_slice underlying42 h with⟨y,_⟩|⟨a,len,M,m,n',ac,Pl,y,hb,r,P,V,hx,hi⟩
 ·obtain rfl:c= .slice I 0 0:=by simpa using y
  exact⟨I,0,[],H,pF _ _,λp d=>by cases d⟩
 ·obtain rfl:c= .slice (L a) len M:=by simpa using y
  have ab:len<=m:=by rw[V];split <;>omega
  have F:∀i,i<len->∃p:Int×Int,w.cell? (a.add (i*2))=L (.int .i64 p.1)/\w.cell? ((a.add (i*2)).add 1)=L (.int .i64 p.2)/\aZ p.1/\aZ p.2:=by
   intro i A;obtain⟨Q,N,W⟩:=hi i D;rw[GF] at N;obtain⟨_,R,G⟩:=U.cells?_some N
   match Q,R with
   |[u0,u1],_=>
    obtain⟨p,q,rfl,d,rfl,Y⟩:=M5 W;have e:=G 0 D;have h1:=G 1 D;have O:(a.add (i*2)).add 0=a.add (i*2):=by unfold Ym.add;simp
    rw[O] at e;exact⟨(p,q),e,h1,d,Y⟩
  have aa:∃f:Nat->Int×Int,∀i,i<len->w.cell? (a.add (i*2))=L (.int .i64 (f i).1)/\w.cell? ((a.add (i*2)).add 1)=L (.int .i64 (f i).2)/\aZ (f i).1/\aZ (f i).2:=
   ⟨λi=>if h:i<len then Classical.choose (F i h) else(0,0),λi A=>by
    have:=Classical.choose_spec (F i A);simpa only[dif_pos A] using this⟩
  obtain⟨f,t⟩:=aa;refine⟨L a,M,(List.range len).map f,YL,⟨a0a,P,λe=> ?_⟩,?_⟩
  ·have C:0<len:=by simpa using e
   obtain⟨b,o,s⟩:=a;cases s with
   |some k=>
    have:=(t 0 C).1;simp only[Nat.zero_mul,Ym.add,Yr] at this;simp only[World.cell?] at this;split at this<;>simp at this
   |none=>
    refine⟨b,o,H,?_,λj T=> ?_⟩
    ·have:=(t 0 C).1;rw[addr_add] at this;exact World.block_lt_of_cell? w _ this
    ·have X:j<len:=by simpa using T
     obtain⟨v,l,_⟩:=t j X;rw[addr_add] at v l;rw[addr_add] at l;rw[Yd] at v l;simp only[List.getElem_map,List.getElem_range];exact⟨v,l⟩
  ·intro p d;obtain⟨i,S,rfl⟩:=List.mem_map.1 d;exact(t i (by simpa using S)).2.2
theorem yU{a c1 c2 c3 c4 c5 d:Z}{x:DataW g×List MemPlace}(h:DataW.trod E Xz w base B z n 36 [a,c1,c2,c3,c4,c5,d]=L x):∃(sx:Int) (sy:Int) (srise:Int) (srun:Int) (gable:Bool) (splate:Int) (sover:Int),a= .int .i64 sx/\aZ sx/\c1= .int .i64 sy/\aZ sy/\c2= .int .i64 srise/\aZ srise/\c3= .int .i64 srun/\aZ srun/\c4= .bool gable/\c5= .int .i64 splate/\aZ splate/\d= .int .i64 sover/\aZ sover:=by
 obtain⟨xs,m,_,_,_,c,b⟩:=DataW.trod_struct underlying36 h;obtain⟨y0,W,s⟩:=jz c b 0 aP H H;obtain⟨u,j,I⟩:=dC s;obtain⟨Q,ab,M⟩:=jz c b 1 aP H H;obtain⟨l,k,e⟩:=dC M;obtain⟨Y,aa,P⟩:=jz c b 2 aP H H;obtain⟨F,D,o⟩:=dC P;obtain⟨y3,X,p⟩:=jz c b 3 aP H H;obtain⟨f,i,O⟩:=dC p;obtain⟨U,R,v⟩:=jz c b 4 MX H H;obtain⟨A,C⟩:=U5 v;obtain⟨T,S,J⟩:=jz c b 5 aP H H;obtain⟨r,N,y⟩:=dC J;obtain⟨y6,V,t⟩:=jz c b 6 aP H H;obtain⟨K,G,q⟩:=dC t;exact⟨u,l,F,f,A,r,K,j,I,k,e,D,o,i,O,C,N,y,G,q⟩
theorem rr{x:DataW g×List MemPlace}(h:DataW.trod E Xz w base B z n 39 [a,c1,c2,c3,c4]=L x):∃(oside:Int) (oleft:K) (oright:K) (olow:K) (ohigh:K),a= .int .i64 oside/\aZ oside/\c1= .string (tx oleft)/\c2= .string (tx oright)/\c3= .string (tx olow)/\c4= .string (tx ohigh):=by
 obtain⟨M,m,_,_,_,c,b⟩:=DataW.trod_struct underlying39 h;obtain⟨O,F,l⟩:=jz c b 0 aP H H;obtain⟨o,f,u⟩:=dC l;obtain⟨A,P,v⟩:=jz c b 1 mz H H;obtain⟨j,i⟩:=Co v;obtain⟨I,N,y⟩:=jz c b 2 mz H H;obtain⟨s,t⟩:=Co y;obtain⟨J,G,k⟩:=jz c b 3 mz H H;obtain⟨d,e⟩:=Co k;obtain⟨D,C,p⟩:=jz c b 4 mz H H;obtain⟨q,r⟩:=Co p;exact⟨o,j,s,d,q,f,u,i,t,e,r⟩
theorem zr{x:DataW g×List MemPlace}(h:DataW.trod E Xz w base B z n 41 [a,c1,c2]=L x):∃(zkind:Int) (zwidth:Int) (zdepth:Int),a= .int .i64 zkind/\aZ zkind/\c1= .int .i64 zwidth/\aZ zwidth/\c2= .int .i64 zdepth/\aZ zdepth:=by
 obtain⟨y,m,_,_,_,c,b⟩:=DataW.trod_struct underlying41 h;obtain⟨C,u,p⟩:=jz c b 0 aP H H;obtain⟨r,e,l⟩:=dC p;obtain⟨t,D,q⟩:=jz c b 1 aP H H;obtain⟨k,f,d⟩:=dC q;obtain⟨v,A,s⟩:=jz c b 2 aP H H;obtain⟨i,j,o⟩:=dC s;exact⟨r,k,i,e,l,f,d,j,o⟩
theorem yd{x:DataW g×List MemPlace}(h:DataW.trod E Xz w base B z n 46 [a,c1,c2]=L x):∃(lkind:Int) (lside:Int) (lweight:K),a= .int .i64 lkind/\aZ lkind/\c1= .int .i64 lside/\aZ lside/\c2= .string (tx lweight):=by
 obtain⟨v,m,_,_,_,c,b⟩:=DataW.trod_struct underlying46 h;obtain⟨A,t,o⟩:=jz c b 0 aP H H;obtain⟨q,e,l⟩:=dC o;obtain⟨s,C,p⟩:=jz c b 1 aP H H;obtain⟨k,f,d⟩:=dC p;obtain⟨u,y,r⟩:=jz c b 2 mz H H;obtain⟨i,j⟩:=Co r;exact⟨q,k,i,e,l,f,d,j⟩
theorem rn{x:DataW g×List MemPlace}(h:DataW.trod E Xz w base B z n 48 [a,c1,c2,c3,c4]=L x):∃(awidth:Int) (adepth:Int) (aspacing:Int) (aload:Int) (aspan:Int),a= .int .i64 awidth/\aZ awidth/\c1= .int .i64 adepth/\aZ adepth/\c2= .int .i64 aspacing/\aZ aspacing/\c3= .int .i64 aload/\aZ aload/\c4= .int .i64 aspan/\aZ aspan:=by
 obtain⟨P,m,_,_,_,c,b⟩:=DataW.trod_struct underlying48 h;obtain⟨R,K,q⟩:=jz c b 0 aP H H;obtain⟨r,j,A⟩:=dC q;obtain⟨G,S,C⟩:=jz c b 1 aP H H;obtain⟨l,k,d⟩:=dC C;obtain⟨N,Q,F⟩:=jz c b 2 aP H H;obtain⟨v,y,o⟩:=dC F;obtain⟨O,M,p⟩:=jz c b 3 aP H H;obtain⟨e,f,D⟩:=dC p;obtain⟨J,I,s⟩:=jz c b 4 aP H H;obtain⟨t,u,i⟩:=dC s;exact⟨r,l,v,e,t,j,A,k,d,y,o,f,D,u,i⟩
theorem zm{x:DataW g×List MemPlace}(h:DataW.trod E Xz w base B z n 30 [a,c1,c2,c3]=L x):∃(twidth:Int) (tlength:Int) (tlap:Int) (ttail:Int),a= .int .i64 twidth/\aZ twidth/\c1= .int .i64 tlength/\aZ tlength/\c2= .int .i64 tlap/\aZ tlap/\c3= .int .i64 ttail/\aZ ttail:=by
 obtain⟨G,m,_,_,_,c,b⟩:=DataW.trod_struct underlying30 h;obtain⟨K,C,s⟩:=jz c b 0 aP H H;obtain⟨u,i,p⟩:=dC s;obtain⟨A,M,t⟩:=jz c b 1 aP H H;obtain⟨o,j,d⟩:=dC t;obtain⟨F,I,y⟩:=jz c b 2 aP H H;obtain⟨k,l,q⟩:=dC y;obtain⟨J,D,r⟩:=jz c b 3 aP H H;obtain⟨e,f,v⟩:=dC r;exact⟨u,o,k,e,i,p,j,d,l,q,f,v⟩
theorem Ci{a c1 c2 c3 c4 c5:Z}{x:DataW g×List MemPlace}(h:DataW.trod E Xz w base B z n 44 [a,c1,c2,c3,c4,c5]=L x):∃(bwidth:Int) (bdepth:Int) (blength:Int) (bcount:Int) (bcost:Int) (e:Option Ym) (f:Nat) (d:List (Int×Int)),a= .int .i64 bwidth/\aZ bwidth/\c1= .int .i64 bdepth/\aZ bdepth/\c2= .int .i64 blength/\aZ blength/\c3= .int .i64 bcount/\aZ bcount/\c4= .int .i64 bcost/\aZ bcost/\c5= .slice e (ln d) f/\aT w w.heap.size e f d/\∀p∈d,aZ p.1/\aZ p.2:=by
 obtain⟨xs,m,_,_,_,c,b⟩:=DataW.trod_struct underlying44 h;obtain⟨y0,V,u⟩:=jz c b 0 aP H H;obtain⟨v,o,I⟩:=dC u;obtain⟨Q,ab,M⟩:=jz c b 1 aP H H;obtain⟨r,q,i⟩:=dC M;obtain⟨X,aa,P⟩:=jz c b 2 aP H H;obtain⟨G,F,s⟩:=dC P;obtain⟨Y,W,t⟩:=jz c b 3 aP H H;obtain⟨j,k,O⟩:=dC t;obtain⟨U,R,y⟩:=jz c b 4 aP H H;obtain⟨C,D,l⟩:=dC y;obtain⟨T,S,K⟩:=jz c b 5 Lp H H;obtain⟨e,f,d,N,A,J⟩:=Lt K;exact⟨v,r,G,j,C,e,f,d,o,I,q,i,F,s,k,O,D,l,N,A,J⟩
def jy{P:Int->Prop}{p:Prop}[Decidable p]{a b:List Int}(h1:∀n∈a,P n)(h2:∀n∈b,P n):∀n∈(if p then a else b),P n:=by split <;>assumption
theorem ae(h:ln l=n+1):∃a t,l=a::t/\ln t=n:=by
 cases l with
 |nil=>simp at h
 |cons a t=>exact⟨a,t,H,Zk⟩
def O8(b:Bool):aZ (Uj b):=by cases b<;>exact⟨YK,YK⟩
def MY{e:Ed}(hx:aZ e.index)(h1:aZ e.sx)(h2:aZ e.sy)(j:aZ e.srise)(z:aZ e.srun)(y:aZ e.splate)(B:aZ e.sover)(u:aZ e.oside)(E:aZ e.zwidth)(D:aZ e.zdepth)
  (h:aZ e.bwidth)(v:aZ e.bdepth)(C:aZ e.blength)(o:aZ e.bcount)(g:aZ e.bcost)(A:∀p∈e.gaps,aZ p.1/\aZ p.2)(l1:aZ e.lkind)(l2:aZ e.lside)
  (t:aZ e.awidth)(s:aZ e.adepth)(k:aZ e.aspacing)(i:aZ e.aload)(w:aZ e.aspan)(r:aZ e.twidth)(x:aZ e.tlength)(m:aZ e.tlap)(q:aZ e.ttail)(c:aZ e.number):∀n∈aN e,aZ n:=by
 have l:∀n∈[e.index,e.bwidth,e.bdepth,e.blength,e.bcount,e.bcost]++kF e.gaps,aZ n:=by
  intro n a;rcases List.mem_append.1 a with a|a
  ·exact(all_cons hx (all_cons h (all_cons v (all_cons C (all_cons o (all_cons g (all_nil _))))))) n a
  ·unfold kF at a;obtain⟨p,f,b⟩:=List.mem_flatMap.1 a;have d:=A p f;rcases List.mem_cons.1 b with rfl|b
   ·exact d.1
   ·rcases List.mem_cons.1 b with rfl|b
    ·exact d.2
    ·cases b
 unfold aN;refine jy (all_nil _) (jy (all_cons hx (all_cons h1 (all_cons h2 (all_cons j (all_cons z (all_cons y (all_cons B (all_cons (O8 _) (all_nil _)))))))))
  (jy (all_cons hx (all_cons c (all_nil _))) (jy (all_cons c (all_nil _)) (jy (all_cons hx (all_cons u (all_nil _))) (jy (all_cons E (all_cons D (all_nil _))) (jy l
  (jy (all_cons c (all_nil _)) (jy (all_cons r (all_cons x (all_cons m (all_cons q (all_nil _))))) (jy (all_cons hx (all_cons l1 (all_cons l2 (all_nil _))))
  (jy (all_cons t (all_cons s (all_cons k (all_cons i (all_cons w (all_nil _)))))) (all_cons hx (all_nil _))))))))))))
theorem GP{x:DataW g×List MemPlace}(hl:ln l=37)(hf:DataW.trod E Xz w base B z n 50 l=L x):
  ∃(e:Ed) (d:Option Ym) (f:Nat),l=(P e (.slice d (ln e.gaps) f)).toList/\aT w w.heap.size d f e.gaps/\(∀n∈aN e,aZ n)/\aZ e.index:=by
 obtain⟨a,l0,rfl,h0⟩:=ae hl;obtain⟨c1,l1,rfl,h1⟩:=ae h0;obtain⟨c2,l2,rfl,h2⟩:=ae h1;obtain⟨c3,l3,rfl,y⟩:=ae h2;obtain⟨c4,l4,rfl,T⟩:=ae y;obtain⟨c5,l5,rfl,S⟩:=ae T;obtain⟨c6,l6,rfl,N⟩:=ae S;obtain⟨c7,l7,rfl,A⟩:=ae N;obtain⟨c8,l8,rfl,O⟩:=ae A;obtain⟨c9,l9,rfl,Z⟩:=ae O;obtain⟨bR,bZ,rfl,M⟩:=ae Z;obtain⟨br,cd,rfl,Y⟩:=ae M;obtain⟨bf,bY,rfl,Q⟩:=ae Y;obtain⟨bG,bX,rfl,p⟩:=ae Q;obtain⟨cp,bV,rfl,j⟩:=ae p;obtain⟨bW,b0,rfl,t⟩:=ae j;obtain⟨bS,bk,rfl,X⟩:=ae t;obtain⟨bi,bJ,rfl,V⟩:=ae X;obtain⟨bD,cf,rfl,R⟩:=ae V;obtain⟨ck,bu,rfl,K⟩:=ae R;obtain⟨co,b6,rfl,k⟩:=ae K;obtain⟨bK,bM,rfl,r⟩:=ae k;obtain⟨bN,bh,rfl,u⟩:=ae r;obtain⟨bT,bI,rfl,W⟩:=ae u;obtain⟨cl,cg,rfl,J⟩:=ae W;obtain⟨bA,bv,rfl,q⟩:=ae J;obtain⟨cr,bw,rfl,i⟩:=ae q;obtain⟨bp,bF,rfl,U⟩:=ae i;obtain⟨ch,bl,rfl,I⟩:=ae U;obtain⟨bL,bo,rfl,F⟩:=ae I;obtain⟨bO,bm,rfl,o⟩:=ae F;obtain⟨cb,bH,rfl,s⟩:=ae o;obtain⟨bs,bB,rfl,G⟩:=ae s;obtain⟨bU,ca,rfl,v⟩:=ae G;obtain⟨bz,bn,rfl,C⟩:=ae v;obtain⟨bq,cn,rfl,D⟩:=ae C;obtain⟨bE,ax,rfl,aa⟩:=ae D;obtain rfl:ax=[]:=List.length_eq_zero_iff.1 aa;clear h0 h1 h2 y T S N A O Z M Y Q p j t X V R K k r u W J q i U I F o s G v C D aa;obtain⟨xs,m,_,_,_,c,b⟩:=DataW.trod_struct XB hf;obtain⟨y0,bx,g0⟩:=jz c b 0 aP H H;obtain⟨y1,cq,g1⟩:=jz c b 1 aP H H;obtain⟨y2,cm,g2⟩:=jz c b 2 yt H H;obtain⟨y3,bQ,g3⟩:=jz c b 3 yQ H H;obtain⟨y4,cc,g4⟩:=jz c b 4 yY H H;obtain⟨y5,bg,g5⟩:=jz c b 5 yu H H;obtain⟨y6,bP,g6⟩:=jz c b 6 zq H H;obtain⟨y7,bC,g7⟩:=jz c b 7 yB H H;obtain⟨y8,bj,g8⟩:=jz c b 8 yo H H;obtain⟨y9,ce,g9⟩:=jz c b 9 aP H H;obtain⟨cj,bt,an⟩:=jz c b 10 vI H H;obtain⟨a0,rfl,b1⟩:=dC g0;obtain⟨a1,rfl,h⟩:=dC g1;obtain⟨a2,a3,a4,a5,a6,a7,a8,rfl,b2,rfl,b3,rfl,b4,rfl,b5,rfl,rfl,b7,rfl,b8⟩:=yU g2;obtain⟨a9,af,aD,aH,ap,rfl,b9,rfl,rfl,rfl,rfl⟩:=rr g3;obtain⟨aO,bb,ad,rfl,ci,rfl,aX,rfl,ag⟩:=zr g4;obtain⟨aV,aE,aB,aC,aA,d,f,gl,rfl,bd,rfl,aQ,rfl,aK,rfl,aW,rfl,aq,rfl,bc,aM⟩:=Ci g5;obtain⟨aj,aJ,ah,rfl,aS,rfl,be,rfl⟩:=yd g6;obtain⟨aL,am,ak,ab,aw,rfl,ba,rfl,aG,rfl,au,rfl,aR,rfl,ai⟩:=rn g7;obtain⟨aU,al,aI,ar,rfl,av,rfl,ay,rfl,az,rfl,aY⟩:=zm g8;obtain⟨ao,rfl,ac⟩:=dC g9;obtain⟨aF,rfl⟩:=Sl an;exact⟨⟨a0,a1,a2,a3,a4,a5,a6,a7,a8,a9,af,aD,aH,ap,aO,bb,ad,aV,aE,aB,aC,aA,gl,aj,aJ,ah,aL,am,ak,ab,aw,aU,al,aI,ar,ao,aF⟩,d,f,H,bc,MY h b2 b3 b4 b5 b7 b8 b9 aX ag bd aQ aK aW aq aM aS be ba aG au aR ai av ay az aY ac,h⟩
def Hp(a:Array Z):(⟨a.toList⟩:Array Z)=a:=by cases a;rfl
def Jp{r:Reach}{j:Nat}{v:Z}{d:DataW g}{p:List MemPlace}(f:Z.okWide Xz w r j 50 v)(h:DataW.Trod E Xz w base B z 50 v d p):
  ∃(e:Ed) (a:Option Ym) (b:Nat),v= .agg (P e (.slice a (ln e.gaps) b))/\aT w w.heap.size a b e.gaps/\(∀n∈aN e,aZ n)/\aZ e.index:=by
 obtain⟨cs,rfl,i⟩:=okWide_struct XB f;obtain⟨l⟩:=cs;obtain⟨m,k⟩:=h;obtain⟨e,a,b,rfl,c⟩:=GP (i.trans J5) k;exact⟨e,a,b,by rw[Hp],c⟩
end
end
section
open Kp
attribute [local go_sem] aF dG eV gJ il gL gK gM gN gW gZ en ef eh dZ dk eL eP dW dX dU dV eo dt eH eI dY eO eR eK eB eM ff eY fe eZ dd dP
set_option maxHeartbeats 80000000 in
def Ua(w:U)(a b:Ed)(o m:Option Ym)(j n:Nat)(y:aT w w.heap.size o j a.gaps)(x:aT w w.heap.size m n b.gaps)(t0:(a.kind==b.kind)=Y)(J:(a.index==b.index)=Y)(M:(nU a b)=Y)(z:(vS a b)=Y)(S:(oh a b)=Y)(t5:(a.bwidth==b.bwidth)=Y)(t6:(a.bdepth==b.bdepth)=Y)(X:(a.blength==b.blength)=Y)(E:(a.bcount==b.bcount)=Y)(B:(a.bcost==b.bcost)=Y)(N:(a.gaps==b.gaps)=Y):
  XY Xz 62 #[YE (P a (V o (ln a.gaps) j)),YE (P b (V m (ln b.gaps) n))] w λe w'=>e=YC (Yz (im a b))/\Yl w.heap.size w w':=by
 have ac:Xz.follows .mixedOrders=Y:=R;have Q:=A y;have T:=A x;obtain⟨r,c⟩:=aa (im a b);rw[c];have u:=A c;clear y x c;go_enter func62,ntmps62;go_upto_region 1 with fail
 go_cut [5,6] (λZ C wx=>Ij w a b o m j n Z C wx)
 case first =>
  go_region_o
  all_goals go_wp2_with fail
  all_goals go_meet
  ·exact a2o
  ·exact a2n
 case rest=>
  obtain⟨ea,eb,⟨p,q,rfl,rfl,ra,rb⟩,d⟩:=hcut;have g:=A ea;have f:=A eb;have ad:=λi=>g.o.cell i
  have ab:=λi=>f.o.cell i
  have af:=λi=>bw.cell ra i
  have ae:=λi=>bw.cell rb i
  have l:=ea.lt;have t:=eb.lt;have v:=d.size;have s:=A (po wc o m j n a.gaps b.gaps ((Q.o.below d).more v) ((T.o.below d).more v));have k:=A d;clear ea eb ra rb d;have c:=u.o;clear u;unfold im at c;simp only[t0,J,M,z,S,t5,t6,X,E,B,N,Bool.true_and] at c;cases I:(wh a b)<;>simp only[I,Bool.false_and,Bool.true_and] at c
  case' true=>cases K:(Fq a b)<;>simp only[K,Bool.false_and,Bool.true_and] at c
  case' true=>cases F:(wM a b)<;>simp only[F,Bool.false_and,Bool.true_and] at c
  case' true=>cases G:(a.number==b.number)<;>simp only[G,Bool.false_and,Bool.true_and] at c
  case' true=>cases L:(a.text==b.text)<;>simp only[L,Bool.false_and,Bool.true_and] at c
  all_goals exact uy
end
section
open Kp
def yH(s:K):Lib.splitB (tx [32]) 0 (Lib.countB (tx s) (tx [32])) (tx s)=(Lib.split s [32]).map tx:=by
 have h:=Lib.splitB_data (tx [32]) 0 (Lib.countB (tx s) (tx [32])) (tx s);rw[bH,bH] at h;have a:Lib.countB (tx s) (tx [32])=Lib.count s [32]:=by unfold Lib.countB;rw[bH,bH]
 rw[a] at h⊢;have h2:Lib.split s [32]=(Lib.splitB (tx [32]) 0 (Lib.count s [32]) (tx s)).map (·.data.toList):=h.symm;rw[h2,List.map_map];have:(tx∘λx:ByteArray=>x.data.toList)=id:=by funext x;exact o6 x
 rw[this,List.map_id]
def zj(s:K):(Lib.split s [32]).length=Lib.countB (tx s) (tx [32])+1:=by
 have h:=Lib.splitB_all (tx [32]) YK 0 _ (tx s) H;rw[yH,XP] at h;exact h
def K7(s:K)(w:U)(b:ln s<=65536)(a:jE w):
  XY Xz 46 #[Yy (tx s),Yy ⟨#[32]⟩] w λe w'=>e=YC (V (L ⟨w.heap.size,0,I⟩) (Lib.split s [32]).length (Lib.split s [32]).length)/\w'=w.alloc (.cells (sY (Lib.split s [32])).toArray 9):=by
 obtain⟨m,a⟩:=a;refine(strings_Split (tx s) (tx [32]) m w ZB a YK).mono ?_;rintro e w' ⟨rfl,rfl⟩;rw[zj];refine⟨H,?_⟩;rw[yH,List.map_map]
 rfl
end
end Go.Proofs.YtnepbjnlmkppmaaGreatDoor

