/- ChangeLogs of kingpostlaw58: part 2 of its proof (merged and shortened by program). -/
import Derived.WideMake
import Derived.Test.YtalhfkdhdggdaaaGreatDoorL01
set_option linter.unusedVariables false
set_option linter.unusedSimpArgs false
set_option linter.defProp false
set_option maxHeartbeats 8000000
set_option maxRecDepth 100000
open Go.RowKit Go.Shelf Go.Proofs.Tryz
open And renaming intro→Ci
open Array renaming replicate→E7
open Bool renaming false→AM,true→AL
open ByteArray renaming size→OY
open Decidable renaming decide→AQ
open Go renaming World→V,Value→AN,Calls→AZ,TypeId→Bb,Addr→An,maxLen→BM,undef→Ba,Ending→CI,wpList→CQ,MemPlace→Dw,KeepsOthers→GF,MapEntry→FG,DataW→D6,Operand→F0,Act→BV
open Go.Act renaming put→G7
open Go.Builtin renaming zeroCells→Is,append_→JN
open Go.DataW renaming trod→ET
open Go.Ending renaming returned→Ac
open Go.Fence renaming wide→Ha
open Go.IntKind renaming i64→G
open Go.Lib renaming hasPrefix→DH,cut→Bj,compareInt→Dv,itoa→CY,decDigits→ES,split→Da,byteCells→IV
open Go.MapKept renaming IsKey→MV
open Go.Proofs.Tryz renaming prog→AO,underlying54→Cc,underlying34→DV,underlying25→FD,underlying3→GQ
open Go.Region renaming wanted→Ir
open Go.RowKit renaming intOf→B8,Below→At
open Go.Value renaming agg→Ea,oneCell'→Ks,slice→FO,ownBlock→Hv,int→Gr,slice→AK,string→AT,bool→AU,pointer→Ap,int→M,agg→AW,tuple→BO
open Go.World renaming setCell→Di,cell?→Dx,setRow→F8,frozen?→Hb
open List renaming replicate→F7,range→G8,getD→Gs,length→ln
open Nat renaming gcd→DO,reduceAdd→Hw
open Option renaming none→O,some→Q,getD→FF
open Or renaming inl→Cf
open UInt8 renaming ofNat→GR
open Go.Proofs.YtalhfkdhdggdaaaGreatDoor
variable{u cs:Array AN}{x y:ByteArray}{I:List Int}{s:List UInt8}{B0 blk n c k o f:Nat}{r:Option (List UInt8×List UInt8)}{d:Option An}{p:Prop}{C:Type}{g z:AN}{w w' W:V}{t T j q:Bb}{a:BV}
namespace Go.Proofs.YtalhfkdhdggdaaaGreatDoor
section
open Kp
theorem gK(a b:List UInt8):(Bj a b).1.length<=ln a/\(Bj a b).2.1.length<=ln a:=by
 grind [Bj]
abbrev En(w:V):Prop:=∃m:Int,w.cell? ⟨1,0,O⟩=Q (M G m)
theorem En.below(h:En w)(a:At B0 w w')(b:w.1.size<=B0):En w':=by
 obtain⟨m,hm⟩:=h;have:=gH hm;exact⟨m,(a.cell D).trans hm⟩
def a97(a:List UInt8)(w:V)(b:ln a<=1000000)(hm:En w):
  AZ AO 315 #[AT (tx a),AT ⟨#[47]⟩] w λe w'=>e=Ac (BO #[AT (tx (Bj a [47]).1),AT (tx (Bj a [47]).2.1),AU (Bj a [47]).2.2])/\At w.1.size w w':=by
 obtain⟨m,hm⟩:=hm;have h:=strings_Cut (tx a) (tx [47]) m w QO hm;exact h.mono λ_ _ ⟨h1,n,h2⟩=>⟨h1,by grind [below_drewN,Below.refl]⟩
def b2R(a:List UInt8)(w:V):
  AZ AO 316 #[AT (tx a),AT ⟨#[45]⟩] w λe w'=>e=Ac (BO #[AT (tx (Ag a)),AU (DH a [45])])/\w'=w:=by
 have h:=strings_CutPrefix (tx a) (tx [45]) w;exact h
def IL(s:List UInt8):Bool:=AQ (¬Hn s=0)&&AQ (¬Hn s<ln s)
theorem iz(a:¬Hn s=0)(h1:¬Hn s<ln s):IL s=AL:=by grind [IL]
def Dq(a:List UInt8):Option (List UInt8×List UInt8):=
 let n:=(Bj a [47]).1
 let d:=(Bj a [47]).2.1
 if IL (Ag n)=AM\/(DH n [45]=AL/\Ag n=[48]) then O
 else if(Bj a [47]).2.2=AM then Q (n,[49])
 else if IL d=AM\/d=[48]\/d=[49] then O
 else Q (n,d)
def gY (w : V) (r : Option (List UInt8 × List UInt8)) (e : CI) (w' : V) : Prop :=
  (match r with
   | none => e =Ac (BO #[AW #[AT ⟨#[]⟩, AT ⟨#[]⟩], AU AM])
   | some (n, d) => e =Ac (BO #[AW #[AT (tx n), AT (tx d)], AU AL])) /\ At w.1.size w w'
theorem a1f(f:r=O)(b:CO W blk 268 (AT ⟨#[]⟩) (AT ⟨#[]⟩))
  (h2:a.tmps[2]?=Q (Ap (Q ⟨blk,0,O⟩)))(c:a.tmps[3]?=Q (AU AM))(e:a.defers=[])(d:At w.1.size w W):
  bodyPost AO f294 (gY w r) .ret a W:=by
 have c0:=b.cell0;have c1:=b.Hl;subst f;refine Bp ?_ e ⟨F,d⟩;simp[results,go_sem,h2,c,c0,c1]
theorem a1i{n d:List UInt8}(g:r=Q (n,d))(b:CO W blk 268 (AT (tx n)) (AT (tx d)))
  (h2:a.tmps[2]?=Q (Ap (Q ⟨blk,0,O⟩)))(c:a.tmps[3]?=Q (AU AL))(f:a.defers=[])(e:At w.1.size w W):
  bodyPost AO f294 (gY w r) .ret a W:=by
 have c0:=b.cell0;have c1:=b.Hl;subst g;refine Bp ?_ f ⟨F,e⟩;simp[results,go_sem,h2,c,c0,c1]
theorem af(h:p:=by
 try clear hk
 try clear c
 try clear q
 try clear k
 clear hm h1 h2 f b g;go_enter func294,ntmps294;go_wp2_with(first
  |(go_at_call 315;refine(a97 a _ E (B.below ((Ad _ _).alloc (AS _) _) (AS _))).q λw1 hB1=>?_;rw[x.o,y.o,z.o];have X1:=A ((CO.at_ F).below hB1 AV);have c0:=X1.cell0;have c1:=X1.Hl;have f0:=X1.frozen 0;have f1:=X1.frozen 1;have l1:=X1.lt)
  |(go_at_call 316;refine(b2R _ _).mono ?_;rintro e w2 ⟨rfl,rfl⟩;rw[C.o,D.o])
  |(go_at_call 317;refine(a2V _ _ (by first|assumption|decide)).mono ?_;rintro e w2 ⟨rfl,rfl⟩))
 first
  |refine a1i (blk:=w.1.size) i ?cutX rfl rfl rfl ?cutB
  |refine a1f (blk:=w.1.size) i ?cutX rfl rfl rfl ?cutB
 case cutX=>repeat first|with_reducible apply CO.Kn|with_reducible apply CO.PK|with_reducible exact X1.o
 case cutB=>repeat first|with_reducible refine ZI ?_ PY _|with_reducible refine Un ?_ PY _|with_reducible refine Y8 ?_ DI ZP|with_reducible exact Ad _ _):p:=h
set_option maxHeartbeats 40000000 in
def a7b(a:List UInt8)(w:V)(E:ln a<=1000000)(hm:En w):AZ AO 294 #[AT (tx a)] w (gY w (Dq a)):=by
 have⟨n,h1⟩:=AP ((Bj a [47]).1);have⟨d,h2⟩:=AP ((Bj a [47]).2.1);have⟨v,f⟩:=AP ((Bj a [47]).2.2);have⟨o,b⟩:=AP (Ag n);have⟨neg,g⟩:=AP (DH n [45]);have P:ln o<=1000000:=by have:=UG n;have:=(gK a [47]).1;rw[h1] at this;rw[<-b];omega
 have N:ln d<=1000000:=by have:=(gK a [47]).2;rw[h2] at this;omega
 have x:=A h1;have y:=A h2;have z:=A f;have C:=A b;have D:=A g;have B:=A hm;by_cases hk:Hn o=0
 .
  have i:=A (show Dq a=O by unfold Dq;simp only[];rw[h1,h2,f,b,g];rw[Aj (.inl (by unfold IL;simp[hk]))]);have J:((Hn o:Int)==0)=AL:=by rw[C9];omega
  exact af
 have J:((Hn o:Int)==0)=AM:=Hi;by_cases r:Hn o<ln o
 .
  have i:=A (show Dq a=O by unfold Dq;simp only[];rw[h1,h2,f,b,g];rw[Aj (.inl (by unfold IL;simp[hk,r]))]);have j:AQ (Hn o<ln o)=AL:=NF;exact af
 have j:AQ (Hn o<ln o)=AM:=Et;by_cases c:neg=AL/\o=[48]
 .
  obtain⟨t,c⟩:=c;have i:=A (show Dq a=O by unfold Dq;simp only[];rw[h1,h2,f,b,g];rw[Aj (.inr ⟨t,c⟩)]);subst t;subst c;exact af
 have u:neg=AL->(o==[48])=AM:=λh=>by rw[CK];exactλe=>c ⟨h,e⟩
 cases hi:v with
 |false=>
  have i:=A (show Dq a=Q (n,[49]) by unfold Dq;simp only[];rw[h1,h2,f,b,g];rw[Af (λh=>h.elim (λh=>Wy) c)];rw[Aj hi]);exact XD
 |true=>
  have k:¬v=AM:=by rw[hi];decide
  by_cases q:Hn d=0
  .
   have i:=A (show Dq a=O by unfold Dq;simp only[];rw[h1,h2,f,b,g];rw[Af (λh=>h.elim (λh=>Wy) c)];rw[Af k];rw[Aj (.inl (by unfold IL;simp[q]))]);have H:((Hn d:Int)==0)=AL:=by rw[C9];omega
   exact XD
  have H:((Hn d:Int)==0)=AM:=Hi;by_cases s:Hn d<ln d
  .
   have i:=A (show Dq a=O by unfold Dq;simp only[];rw[h1,h2,f,b,g];rw[Af (λh=>h.elim (λh=>Wy) c)];rw[Af k];rw[Aj (.inl (by unfold IL;simp[q,s]))]);have I:AQ (Hn d<ln d)=AL:=NF;exact XD
  have I:AQ (Hn d<ln d)=AM:=Et;by_cases l:d=[48]
  .
   have i:=A (show Dq a=O by unfold Dq;simp only[];rw[h1,h2,f,b,g];rw[Af (λh=>h.elim (λh=>Wy) c)];rw[Af k];rw[Aj (.inr (.inl l))]);subst l;exact XD
  have K:(d==[48])=AM:=by rw[CK];exact l
  by_cases m:d=[49]
  .
   have i:=A (show Dq a=O by unfold Dq;simp only[];rw[h1,h2,f,b,g];rw[Af (λh=>h.elim (λh=>Wy) c)];rw[Af k];rw[Aj (.inr (.inr m))]);clear l;subst m;exact XD
  have L:(d==[49])=AM:=by rw[CK];exact m
  have i:=A (show Dq a=Q (n,d) by unfold Dq;simp only[];rw[h1,h2,f,b,g];rw[Af (λh=>h.elim (λh=>Wy) c)];rw[Af k];rw[Af (λh=>h.elim (λh=>by rw[iz q s] at h;cases h) (λh=>h.elim l m))]);exact XD
noncomputable def BF(a:List UInt8):Int:=match Dq a with
 |none=>11
 |some (n,d)=>
  if Fb a=AL then 0
  else if 300<(Ag n).length\/300<ln d then 4
  else if d=[49] then 0
  else if¬(LM n d).2=0\/¬(LM n d).1=[49] then 11
  else 0
def Ze(w:V)(a:List UInt8)(e:CI)(w':V):Prop:=∃x y:ByteArray,e=Ac (BO #[AW #[AT x,AT y],M G (BF a)])/\(BF a=0->∃n d,Dq a=Q (n,d)/\x=tx n/\y=tx d)/\At w.1.size w w'
theorem ug{c:Int}(i:BF s=c)(b:CO W blk 268 (AT x) (AT y))
  (h2:a.tmps[2]?=Q (Ap (Q ⟨blk,0,O⟩)))(e:a.tmps[3]?=Q (M G c))(g:a.defers=[])(j:c=0->∃n d,Dq s=Q (n,d)/\x=tx n/\y=tx d)(f:At w.1.size w W):
  bodyPost AO Tryz.f247 (Ze w s) .ret a W:=by
 have c0:=b.cell0;have c1:=b.Hl;refine Bp ?_ g ⟨x,y,by rw[i],Al,f⟩;simp[results,go_sem,h2,e,c0,c1]
def cO{a n d:List UInt8}(h:Dq a=Q (n,d)):ln n<=ln a/\ln d<=ln a+1:=by
 grind [gK,Dq]
theorem Sx(h:p:=by
 try clear E
 try clear f
 try clear i
 try clear m
 try clear j
 try clear hn
 clear hm u b;go_enter func247,ntmps247;go_wp2_with(first
  |(go_at_call 294;refine(a7b a _ q (z.below ((Ad _ _).alloc (AS _) _) (AS _))).mono ?_;rw[r.o];rintro e w1 ⟨rfl,hB1⟩;have X1:=A ((CO.at_ F).below hB1 AV);have c0:=X1.cell0;have c1:=X1.Hl;have f0:=X1.frozen 0;have f1:=X1.frozen 1;have l1:=X1.lt)
  |(go_at_call 295;refine(jE a _ q).mono ?_;rintro e w2 ⟨nx,ny,rfl,_,hB2⟩;rw[s.o];have X2:=A ((X1.alloc _).below hB2 Bk);have Y2:=A ((CO.at_ F).below hB2 AV);have d0:=X2.cell0;have d1:=X2.Hl;have g0:=X2.frozen 0;have g1:=X2.frozen 1;have e0:=Y2.cell0;have e1:=Y2.Hl;have l2:=Y2.lt;have l3:=X2.lt)
  |(go_at_call 253;refine(aX _ _).mono ?_;rintro e w5 ⟨rfl,rfl⟩;rw[B.o])
  |(go_at_call 296;refine(b0l _ _ _ DI DI (C.below (B0:=w.1.size) (by repeat first|with_reducible refine ZI ?_ PY _|with_reducible refine Un ?_ PY _|with_reducible refine Y8 ?_ DI ZP|with_reducible exact Ad _ _) (AS _))).mono ?_;rw[v.o];rintro e w3 ⟨rfl,hB3⟩;have X3:=A ((X2.alloc _).below hB3 Bk);have Y3:=A ((Y2.alloc _).below hB3 Bk);have m0:=X3.cell0;have m1:=X3.Hl;have n0:=X3.frozen 0;have n1:=X3.frozen 1;have o0:=Y3.cell0;have o1:=Y3.Hl))
 first
  |refine ug (blk:=w.1.size) (x:=⟨#[]⟩) (y:=⟨#[]⟩) c ?rrX rfl rfl rfl (λh=>absurd h Z) ?rrB
  |refine ug (blk:=w.1.size) (x:=tx _) (y:=tx _) c ?rrX rfl rfl rfl (λ_=>⟨_,_,r,rfl,rfl⟩) ?rrB
 case rrX=>repeat first|with_reducible apply CO.Kn|with_reducible apply CO.PK|with_reducible apply CO.Bo|with_reducible apply CO.alloc|with_reducible exact X3.o|with_reducible exact X2.o|with_reducible exact X1.o|omega|(simp;done)|(simp;omega)
 case rrB=>repeat first|with_reducible refine ZI ?_ PY _|with_reducible refine Un ?_ PY _|with_reducible refine Y8 ?_ DI ZP|with_reducible exact Ad _ _):p:=h
set_option maxHeartbeats 40000000 in
def bw(a:List UInt8)(w:V)(q:ln a<=300000)(hm:En w)(u:CA w):AZ AO 247 #[AT (tx a)] w (Ze w a):=by
 have z:=A hm;have C:=A u;cases b:Dq a with
 |none=>
  replace q:ln a<=1000000:=D
  have c:=A (show BF a=11 by unfold BF;rw[b]);have r:=A b;exact Sx
 |some p=>
  obtain⟨n,d⟩:=p;have E:=cO b;have L:ln n<=1000000:=D;have K:ln d<=1000000:=D
  replace q:ln a<=1000000:=D
  have r:=A b;by_cases hn:Fb a=AL
  .
   have c:=A (show BF a=0 by unfold BF;rw[b];simp only[];rw[Aj hn]);have s:=A hn;exact Sx
  have s:=A (show Fb a=AM by simpa using hn);have⟨o,f⟩:=AP (Ag n);have B:=A f;by_cases k:300<ln o
  .
   have c:=A (show BF a=4 by unfold BF;rw[b];simp only[];rw[Af hn];rw[f,Aj (.inl k)]);exact Sx
  by_cases l:300<ln d
  .
   have c:=A (show BF a=4 by unfold BF;rw[b];simp only[];rw[Af hn];rw[f,Aj (.inr l)]);exact Sx
  by_cases i:d=[49]
  .
   have c:=A (show BF a=0 by unfold BF;rw[b];simp only[];rw[Af hn];rw[f,Af (λh=>h.elim k l)];rw[Aj i]);subst i;exact Sx
  have H:(d==[49])=AM:=by rw[CK];exact i
  have⟨⟨g,t⟩,m⟩:=AP (LM n d);have v:=A m;by_cases j:t=0
  .by_cases h7:g=[49]
   .
    have c:=A (show BF a=0 by unfold BF;rw[b];simp only[];rw[Af hn];rw[f,Af (λh=>h.elim k l)];rw[Af i];rw[m,Af (λh=>h.elim (λx=>x j) (λx=>x h7))]);subst j;subst h7;exact Sx
   have c:=A (show BF a=11 by unfold BF;rw[b];simp only[];rw[Af hn];rw[f,Af (λh=>h.elim k l)];rw[Af i];rw[m,Aj (.inr h7)]);subst j;have J:(g==[49])=AM:=by rw[CK];exact h7
   exact Sx
  have c:=A (show BF a=11 by unfold BF;rw[b];simp only[];rw[Af hn];rw[f,Af (λh=>h.elim k l)];rw[Af i];rw[m,Aj (.inl j)]);have I:(t !=0)=AL:=by rw[Cd];exact j
  exact Sx
def jf(a:List UInt8)(w:V)(d:ln a<=300000)(hm:En w)(f:CA w):
  AZ AO 180 #[AT (tx a)] w λe w'=>e=Ac (M G (BF a))/\At w.1.size w w':=by
 have c:=A (bw a w d hm f);go_enter func180,ntmps180;go_wp2_with(refine c.mono ?_;rintro e w1 ⟨x,y,rfl,_,b⟩;have g:=b.size)
 go_ret;exact⟨F,by repeat first|grind|with_reducible refine Un ?_ Al _⟩
theorem nc(h:s.all CJ=AL):(32:UInt8)∉s:=by
 rw[PN] at h;intro hm;have:=h _ hm;revert this;decide
theorem vj(h:IL s=AL):s.all CJ=AL:=by
 unfold IL at h;simp[Ez] at h;obtain⟨a,h1⟩:=h;unfold Hn at a h1;split at a
 .grind
 grind [jv,Su]
def a5L{n:List UInt8}(h:(32:UInt8)∉Ag n):(32:UInt8)∉n:=by
 grind [kI]
def a6Q(a:List UInt8):((Bj a [47]).2.2=AM/\(Bj a [47]).1=a)\/((Bj a [47]).2.2=AL/\a=(Bj a [47]).1++47::(Bj a [47]).2.1):=by
 rcases Lib.index_spec a [47] with⟨h1,_⟩|⟨i,h1,h2,c,_⟩
 .grind [Bj]
 unfold Bj;unfold Lib.occAt at c;cases d:a.drop i with
 |nil=>grind
 |cons b r=>
  have e:a.drop (i+1)=r:=by
   have:=QL (List.drop 1) d
   grind [List.drop_drop]
  grind [List.take_append_drop]
def nK:Yk BF:=by
 intro a h;unfold BF at h;cases b:Dq a with
 |none=>grind
 |some p=>
  unfold Dq at b;simp only[] at b;split at b
  .cases b
  have hn:(32)∉(Bj a [47]).1:=a5L (nc (vj (by
   grind)))
  rcases a6Q a with⟨_,e⟩|⟨h2,e⟩
  .grind
  grind [nc,vj]
section
def Ah(e:Ed)(g:AN):Array AN:=#[M G e.Ab,M G e.Ae,M G e.sx,M G e.sy,M G e.ID,M G e.II,AU e.DX,M G e.I9,M G e.IF,M G e.EL,AT (tx e.E9),AT (tx e.E8),AT (tx e.EE),AT (tx e.EK),M G e.Be,M G e.Eg,M G e.Ef,M G e.Ch,M G e.Ck,M G e.Co,M G e.Cp,M G e.Cr,g,M G e.FJ,M G e.FI,AT (tx e.FH),M G e.I8,M G e.I7,M G e.Hz,M G e.IG,M G e.IC,M G e.GW,M G e.GU,M G e.Gb,M G e.GY,M G e.Av,AT (tx e.Ct)]
abbrev Dk:AN:= AK O 0 0
def NM(k:Int):Ed:={BZ with Ab:=k}
def Eb(e:Ed)(g:AN):(Ah e g).size=37:=rfl
attribute [local go_sem] Eb
def Hk(e:Ed)(g:AN):(Ah e g)[0]?=Q (M G e.Ab):=rfl
def J9(e:Ed)(g:AN):(Ah e g)[1]?=Q (M G e.Ae):=rfl
def MG(e:Ed)(g:AN):(Ah e g)[2]?=Q (M G e.sx):=rfl
def Ms(e:Ed)(g:AN):(Ah e g)[3]?=Q (M G e.sy):=rfl
def M9(e:Ed)(g:AN):(Ah e g)[4]?=Q (M G e.ID):=rfl
def MA(e:Ed)(g:AN):(Ah e g)[5]?=Q (M G e.II):=rfl
def MB(e:Ed)(g:AN):(Ah e g)[6]?=Q (AU e.DX):=rfl
def MH(e:Ed)(g:AN):(Ah e g)[7]?=Q (M G e.I9):=rfl
def Mt(e:Ed)(g:AN):(Ah e g)[8]?=Q (M G e.IF):=rfl
def Mr(e:Ed)(g:AN):(Ah e g)[9]?=Q (M G e.EL):=rfl
def M4(e:Ed)(g:AN):(Ah e g)[10]?=Q (AT (tx e.E9)):=rfl
def M6(e:Ed)(g:AN):(Ah e g)[11]?=Q (AT (tx e.E8)):=rfl
def M8(e:Ed)(g:AN):(Ah e g)[12]?=Q (AT (tx e.EE)):=rfl
def M0(e:Ed)(g:AN):(Ah e g)[13]?=Q (AT (tx e.EK)):=rfl
def Jm(e:Ed)(g:AN):(Ah e g)[14]?=Q (M G e.Be):=rfl
def Mo(e:Ed)(g:AN):(Ah e g)[15]?=Q (M G e.Eg):=rfl
def Mh(e:Ed)(g:AN):(Ah e g)[16]?=Q (M G e.Ef):=rfl
def M7(e:Ed)(g:AN):(Ah e g)[17]?=Q (M G e.Ch):=rfl
def Lw(e:Ed)(g:AN):(Ah e g)[18]?=Q (M G e.Ck):=rfl
def M5(e:Ed)(g:AN):(Ah e g)[19]?=Q (M G e.Co):=rfl
def Lx(e:Ed)(g:AN):(Ah e g)[20]?=Q (M G e.Cp):=rfl
def Ly(e:Ed)(g:AN):(Ah e g)[21]?=Q (M G e.Cr):=rfl
def I4(e:Ed)(g:AN):(Ah e g)[22]?=Q (g):=rfl
def Mf(e:Ed)(g:AN):(Ah e g)[23]?=Q (M G e.FJ):=rfl
def Mj(e:Ed)(g:AN):(Ah e g)[24]?=Q (M G e.FI):=rfl
def M3(e:Ed)(g:AN):(Ah e g)[25]?=Q (AT (tx e.FH)):=rfl
def Ml(e:Ed)(g:AN):(Ah e g)[26]?=Q (M G e.I8):=rfl
def Mn(e:Ed)(g:AN):(Ah e g)[27]?=Q (M G e.I7):=rfl
def Mm(e:Ed)(g:AN):(Ah e g)[28]?=Q (M G e.Hz):=rfl
def Mg(e:Ed)(g:AN):(Ah e g)[29]?=Q (M G e.IG):=rfl
def Mi(e:Ed)(g:AN):(Ah e g)[30]?=Q (M G e.IC):=rfl
def NW(e:Ed)(g:AN):(Ah e g)[31]?=Q (M G e.GW):=rfl
def NV(e:Ed)(g:AN):(Ah e g)[32]?=Q (M G e.GU):=rfl
def NY(e:Ed)(g:AN):(Ah e g)[33]?=Q (M G e.Gb):=rfl
def NU(e:Ed)(g:AN):(Ah e g)[34]?=Q (M G e.GY):=rfl
def Iy(e:Ed)(g:AN):(Ah e g)[35]?=Q (M G e.Av):=rfl
def LW(e:Ed)(g:AN):(Ah e g)[36]?=Q (AT (tx e.Ct)):=rfl
attribute [local go_sem] Hk J9 MG Ms M9 MA MB MH Mt Mr M4 M6 M8 M0 Jm Mo Mh M7 Lw M5 Lx Ly I4 Mf Mj M3 Ml Mn Mm Mg Mi NW NV NY NU Iy LW
theorem OE(c:Array AN)(t:Bb)(n:Nat)(cs:Array AN)(hn:n=w.1.size):(w.alloc (.cells c t)).setRow n cs=w.alloc (.cells cs t):=by
 subst hn;unfold F8 World.alloc
 congr 1
 apply eO;intro k;simp only[IT,Array.getElem?_push];by_cases hk:k=w.1.size
 .subst hk;simp
 simp[hk,Ej hk]
theorem Sg(o:Obj)(n:Nat)(cs:Array AN)(hn:n<w.1.size):(w.alloc o).setRow n cs=(w.setRow n cs).alloc o:=by
 unfold F8 World.alloc
 congr 1
 apply eO;intro k;simp only[IT,Array.getElem?_push,Array.size_modify];by_cases hk:k=w.1.size
 .subst hk;simp[eY hn]
 simp[hk]
def Sf(w:V)(n:Nat)(cs:Array AN):w.drew.setRow n cs=(w.setRow n cs).drew:=rfl
def Se(w:V)(k n:Nat)(cs:Array AN):(w.drewN k).setRow n cs=(w.setRow n cs).drewN k:=rfl
attribute [local go_sem] OE Sg Sf Se
theorem setRow_heap(h:w.1[n]?=Q (.cells u t (0,0)))(cs:Array AN):(w.setRow n cs).1[n]?=Q (.cells cs t (0,0)):=by
 simp[F8,IT,h]
theorem size_setRow(W:V)(c:Nat)(cs:Array AN):(W.setRow c cs).1.size=W.1.size:=by simp[F8]
theorem Hc(W:V){c b:Nat}(cs:Array AN)(h:b≠c):(W.setRow c cs).1[b]?=W.1[b]?:=by
 simp only[F8,IT];rw[Af (Ej h)]
theorem CL{B n:Nat}(h:At B w W)(hn:B<=n)(cs:Array AN):At B w (W.setRow n cs):=
 h.trans ⟨rfl,rfl,rfl,Uf (size_setRow _ _ _).symm,λk hk=>Hc _ _ D⟩
def EZ(w:V)(a b:Obj):((w.alloc a).alloc b).1[w.1.size]?=Q a:=by
 rw[TO _ _ AV,eL]
def Ge(w:V)(a b c:Obj):(((w.alloc a).alloc b).alloc c).1[w.1.size]?=Q a:=by
 rw[TO _ _ Bk,EZ]
def XO(w:V)(a b c:Obj):(((w.alloc a).alloc b).alloc c).1[w.1.size+1]?=Q b:=by
 rw[TO _ _ AV];have:=eL (w.alloc a) b;simpa using this
theorem fy(w:V)(a b c:Obj):(((w.alloc a).alloc b).alloc c).1[w.1.size+1+1]?=Q c:=by
 have:=eL ((w.alloc a).alloc b) c;simpa using this
def qv(w:V)(a b c:Obj):(((w.alloc a).alloc b).alloc c).drew.1[w.1.size+1]?=Q b:=XO w a b c
def a1b(w:V)(a b c:Obj):(((w.alloc a).alloc b).alloc c).drew.1[w.1.size+1+1]?=Q c:=fy w a b c
end
def DK(B b:Nat)(wide num:Int)(a:By)(w:V):Prop:=
 ∃p,XU b p/\Bd B b 114 p [M G wide,M G num] (IV a) w
theorem DK.dk{B b:Nat}{wide num:Int}{a:By}(h:DK B b wide num a w):∃p v,w.1[b]?=Q (.cells #[p,v,M G wide,M G num] 114 (0,0)):=by
 obtain⟨p,_,_,v,c,_⟩:=h;exact⟨p,v,c⟩
theorem DK.iU {B b : Nat} {wide num : Int} {a : By} {w : World} (h : DK B b wide num a w) : w.cell? ⟨b, 2, none⟩ = some (.int .i64 wide) := by
  obtain ⟨p, v, c⟩ := h.dk
  simp [World.cell?, c]
theorem DK.Zt {B b : Nat} {wide num : Int} {a : By} {w : World} (h : DK B b wide num a w) : w.cell? ⟨b, 3, none⟩ = some (.int .i64 num) := by
  obtain ⟨p, v, c⟩ := h.dk
  simp [World.cell?, c]
theorem DK.frozen {B b : Nat} {wide num : Int} {a : By} {w : World} (h : DK B b wide num a w) (i : Nat) : w.frozen? ⟨b, i, none⟩ = false := by
  obtain ⟨p, v, c⟩ := h.dk
  simp [World.frozen?, c]
theorem DK.lt {B b : Nat} {wide num : Int} {a : By} {w : World} (h : DK B b wide num a w) : b < w.heap.size := by
  obtain ⟨p, v, c⟩ := h.dk
  exact (Array.getElem?_eq_some_iff.1 c).1
theorem DK.low{B b:Nat}{wide num:Int}{a:By}(h:DK B b wide num a w):B<=b:=by
 obtain⟨p,_,c,_⟩:=h;exact c
theorem DK.aR{B b:Nat}{wide num:Int}{a:By}(h:DK B b wide num a w)(x:Int):DK B b x num a (w.setCell ⟨b,2,O⟩ (M G x)):=by
 exact ya
theorem DK.b5h{B b:Nat}{wide num:Int}{a:By}(h:DK B b wide num a w)(x:Int):DK B b wide x a (w.setCell ⟨b,3,O⟩ (M G x)):=by
 exact ya
theorem DK.keep{B b:Nat}{wide num:Int}{a:By}(h:DK B b wide num a w)(i:Nat)(x:AN):DQ B b w (w.setCell ⟨b,i,O⟩ x):=
 ⟨(Ad _ _).setCell (p:=⟨b,i,O⟩) h.low _,(Z6 _ _ _).setCell ⟨b,i,O⟩ rfl _⟩
theorem DK.below{B b:Nat}{wide num:Int}{a:By}(h:DK B b wide num a w)(e:At w.1.size w w'):DK B b wide num a w':=by
 obtain⟨p,d,c⟩:=h;exact⟨p,d,c.below e⟩
structure Gl(w:V):Prop where
 pow:CA w
 Tj:En w
 b5I:∃a p,w.var? AO "strconv.ErrSyntax" =Q #[.iface a p]
 b5L:∃a p,w.var? AO "strconv.ErrRange" =Q #[.iface a p]
 b5y:∀j,j<12->w.cell? ⟨0,1+j,O⟩=Q (AT (tx (Dy.getD j [])))
theorem kY{n:String}{g:Nat}(c:AO.globalNamed n=Q g)(h:w.var? AO n=Q cs){B:Nat}(b:At B w w')(a:g<B):w'.var? AO n=Q cs:=by
 unfold World.var? at h⊢;rw[c] at h⊢;simp only[Option.bind_some] at h⊢;rw[b.block g a];exact h
theorem Gl.keep(h:Gl w){B:Nat}(a:At B w w')(n:9<=B):Gl w':=by
 obtain⟨h1,⟨m,h2⟩,⟨k,f,b⟩,⟨l,i,c⟩,d⟩:=h;exact⟨kY (g:=6) U h1 a D,⟨m,(a.cell (by show 1<B;omega)).trans h2⟩,
  ⟨k,f,kY (g:=4) U b a D⟩,⟨l,i,kY (g:=5) U c a D⟩,
  λj e=>(a.cell (by show 0<B;omega)).trans (d j e)⟩
def Vr(B b:Nat)(wide num:Int)(a:By)(w:V)(e:CI)(w':V):Prop:=
 e=Ac (BO #[])/\DK B b wide num a w'/\DQ B b w w'
def Jn(B b:Nat)(wide num:Int)(a s:By)(w:V)(h:DK B b wide num a w)(r:ln a+ln s<=100000000)(l:B<=w.1.size):
  AZ AO 107 #[E6 b,AT (tx s)] w (Vr B b wide num (GK a s) w):=by
 obtain⟨p,g,d⟩:=h;have j:=A (a77 B b _ p _ _ w d);rw[TH] at j;by_cases c:a=[]
 .have q:¬0<ln a:=by rw[c];simp
  have i:=A (show GK a s=a++s by unfold GK;rw[Aj c,c];rfl);have cs:=A (Y1 B b _ p _ _ (tx s) w d g jg (by rw[TH,DJ];omega) l);clear c d g;go_enter func107,ntmps107;go_wp2_with(first|(go_at_call 176;refine j.mono ?_;rintro e w1 ⟨rfl,rfl⟩)|(go_at_call 178;refine cs.q ?_;rintro w2 ⟨k,f⟩))
  go_end0;refine⟨F,?_,f⟩;rw[i.o];refine⟨_,.inr F,?_⟩;rw[VF];exact k
 have q:0<ln a:=MW.2 c;have i:=A (show GK a s=a++[32]++s by unfold GK;rw[Af c];simp);have m:=A (o7 B b _ p _ _ 32 w d g jg (by rw[TH];omega) l);clear c d g;go_enter func107,ntmps107;go_wp2_with(first|(go_at_call 176;refine j.mono ?_;rintro e w1 ⟨rfl,rfl⟩)|(go_at_call 177;refine m.q ?_;rintro w2 ⟨k,f⟩;have t:=f.low.size)|(go_at_call 178;refine(Y1 B b _ _ _ _ (tx s) _ k (.inr F) jg (by rw[FN,TH,DJ];simp;omega) D).q ?_;rintro u ⟨n,o⟩))
 go_end0;refine⟨F,?_,f.trans o⟩;rw[i.o];refine⟨_,.inr F,?_⟩;rw[VF,VF];exact n
def Dc(w:V)(c:Nat)(T:Bb)(l:List AN):Prop:=w.1[c]?=Q (.cells l.toArray T (0,0))
theorem Dc.bd{B b c:Nat}{l:List AN}(h:Dc w c T l)(hk:DQ B b w w')(a:c≠b)(d:T≠5):Dc w' c T l:=
 hk.kept c _ h (λe=>a (by cases e;rfl)) (λcs f e=>d (by cases e;rfl))
theorem Dc.cell{l:List AN}(h:Dc w c T l)(i:Nat):w.cell? ⟨c,i,O⟩=l[i]?:=by unfold Dc at h;simp[Dx,h]
theorem Dc.below{l:List AN}(h:Dc w c T l)(a:At B0 w w')(b:c<B0):Dc w' c T l:=(a.block c b).trans h
theorem Dc.lt{l:List AN}(h:Dc w c T l):c<w.1.size:=(Ee.1 h).1
abbrev To(l:List Int):List AN:=l.map (M G ·)
def Bh(n:Int):Prop:= -9223372036854775808<=n/\n<=9223372036854775807
def cK(a s:By):(GK a s).length<=ln a+ln s+1:=by
 unfold GK;split
 .omega
 simp;omega
def jo{n:Int}(h:Bh n):(CY n).length<=20:=by
 obtain⟨a,h1⟩:=h;unfold CY;split
 .have:=Yj n.natAbs 19 Z D;rw[FX,TK];omega
 have:=Yj n.toNat 19 Z D;rw[TK];omega
def ai{l:List Int}(h:∀n∈l,Bh n)(a:By):(D7 a (Dd l)).length<=ln a+21*ln l:=by
 induction l generalizing a with
 |nil=>simp[Dd,D7]
 |cons n l c=>
  have h1:=jo (h n AV);have h2:=cK a (CY n);have b:=c (λm hm=>h m (by simp[hm])) (GK a (CY n));simp only[Dd,SN,Qg,FX] at b⊢;omega
theorem Sp{l:List C}(h:k<ln l):l.take (k+1)=l.take k++[l[k]]:=Qx h
def a5y(x:Int)(l:List Int)(n:Int):Gv x (l++[n])=if Ic n then 2 else Gv x l:=by
 unfold Gv;rw[mL,eV,List.any_nil,Bool.or_false];generalize l.any Ic=a;generalize Ic n=b;cases a<;>cases b<;>rfl
def bO(a:By)(ws:List By)(s:By):D7 a (ws++[s])=GK (D7 a ws) s:=by rw[YL];rfl
structure il(B b:Nat)(wide num:Int)(a:By)(l:List Int)(w:V)(i:AN)(wr:V):Prop where
 ex:∃k:Nat,k<=ln l/\i=M G (k:Int)/\DK B b (Gv wide (l.take k)) num (D7 a (Dd (l.take k))) wr
 keep:DQ B b w wr
def YH(B b c:Nat)(T:Bb)(wide num:Int)(a:By)(l:List Int)(o:Nat)(w:V)(h:DK B b wide num a w)(L:Dc w c T (To l))(X:c≠b)(W:T≠5)
  (J:∀n∈l,Bh n)(ak:ln a+21*ln l<=10000000)(ae:B<=w.1.size)(I:Gl w)(H:9<=B):
  AZ AO 108 #[E6 b,AK (Q ⟨c,0,O⟩) (ln l) o] w (Vr B b (Gv wide l) num (D7 a (Dd l)) w):=by
 have al:ln l<=10000000:=D;have R:=A (show il B b wide num a l w (M G 0) w from⟨⟨0,D,rfl,by simp only[RC];exact h⟩,DQ.refl _ _ _⟩);have N:=A I;have P:=A L;have C:=A J;clear h I L J;go_enter func108,ntmps108;go_wp2;go_loopw [8] (λi wr=>il B b wide num a l w i wr) (λi _=>((ln l:Int)-B8 i).toNat)
 case atStart=>exact R
 obtain⟨⟨k,hk,rfl,hw⟩,d⟩:=hrel;have ao:=d.low.size;by_cases y:k<ln l
 .have hrow:=P.bd d X W;have Y:wr.cell? ⟨c,k,O⟩=Q (M G l[k]):=by rw[hrow.cell];simp[y]
  have v:=C l[k] (Ey y);have s:=N.keep d.low H;have U:=jo v;have ap:(D7 a (Dd (l.take k))).length<=ln a+21*k:=by
   have:=ai (l:=l.take k) (λn hn=>C n (SE hn)) a;rw[QA] at this;omega
  have g:=A (show Gv wide (l.take (k+1))=(if Ic l[k] then 2 else Gv wide (l.take k))/\D7 a (Dd (l.take (k+1)))=GK (D7 a (Dd (l.take k))) (CY l[k]) by
   rw[Sp y,a5y,qM];exact⟨F,by show D7 a (_++[CY l[k]])=_;rw[bO]⟩)
  have⟨n,hn⟩:=AP (l[k]);rw[hn] at Y v U g;have K:∀r,DQ B b wr r->DK B b (Gv wide (l.take (k+1))) num (D7 a (Dd (l.take (k+1)))) r->il B b wide num a l w (M G ((k:Int)+1)) r:=
   λr aa ab=>⟨⟨k+1,D,AV,ab⟩,d.trans aa⟩
  have E:=A K;have ad:=A d;have af:=hw.iU;have ag:=hw.frozen 2;clear hn hrow K d;obtain⟨ah,aj⟩:=v;cases m:Ic n with
  |true=>
   have q:n< -1073741824\/1073741824<n:=by unfold Ic at m;simpa using m
   have j:=A (hw.aR 2);have z:=A (hw.keep 2 (M G 2));have Z:=A (s.keep z.low H);have aq:(wr.setCell ⟨b,2,O⟩ (M G 2)).1.size=wr.1.size:=by simp[Di]
   have u:=A (U6 n (wr.setCell ⟨b,2,O⟩ (M G 2)) D D Z.pow);rw[m] at g;clear hw s;rcases q with q|q
   .exact yc
   exact yc
  |false=>
   have q:¬n< -1073741824/\¬1073741824<n:=by unfold Ic at m;simpa using m
   obtain⟨am,an⟩:=q;have j:=A hw;have u:=A (U6 n wr D D s.pow);rw[m] at g;clear hw s;go_wp2_with(first|(go_at_call 179;refine u.q λW1 f=>?_;have ac:=f.size)|(go_at_call 107;refine(Jn B b _ num _ (CY n) W1 (j.below f) D D).q ?_;rintro S ⟨t,x⟩))
   refine⟨E _ ((DQ.Iv f D).trans x) fF,Bm⟩
 exact yb
def pC(x:Int)(l:List By)(a:By):FT BF x (l++[a])=if FT BF x l=0 then BF a else FT BF x l:=by unfold FT;rw[eS];rfl
def vD{l:List By}{m:Nat}(h:∀a∈l,ln a<=m)(b:By):(D7 b l).length<=ln b+(m+1)*ln l:=by
 induction l generalizing b with
 |nil=>simp[D7]
 |cons a l c=>
  have h1:=h a AV;have h2:=cK b a;have d:=c (λm hm=>h m (by simp[hm])) (GK b a);rw[Qg,FX,Nat.mul_succ];omega
abbrev Q9(l:List By):List AN:=l.map (λa=> AT (tx a))
structure ig(B b:Nat)(wide num:Int)(a:By)(l:List By)(w:V)(i:AN)(wr:V):Prop where
 ex:∃k:Nat,k<=ln l/\i=M G (k:Int)/\DK B b wide (FT BF num (l.take k)) (D7 a (l.take k)) wr
 keep:DQ B b w wr
def a5H(B b c:Nat)(T:Bb)(wide num:Int)(f:By)(l:List By)(o:Nat)(w:V)(h:DK B b wide num f w)(N:Dc w c T (Q9 l))(Y:c≠b)(X:T≠5)
  (K:∀a∈l,ln a<=1000)(ai:ln l<=100)(ah:ln f<=1000000)(ag:B<=w.1.size)(J:Gl w)(W:9<=B):
  AZ AO 109 #[E6 b,AK (Q ⟨c,0,O⟩) (ln l) o] w (Vr B b wide (FT BF num l) (D7 f l) w):=by
 have S:=A (show ig B b wide num f l w (M G 0) w from⟨⟨0,D,rfl,by simp only[RC];exact h⟩,DQ.refl _ _ _⟩);have P:=A J;have R:=A N;have C:=A K;clear h J N K;go_enter func109,ntmps109;go_wp2;go_loopw [9] (λi wr=>ig B b wide num f l w i wr) (λi _=>((ln l:Int)-B8 i).toNat)
 case atStart=>exact S
 obtain⟨⟨k,hk,rfl,hw⟩,d⟩:=hrel;have aj:=d.low.size;by_cases z:k<ln l
 .have hrow:=R.bd d Y X;have aa:wr.cell? ⟨c,k,O⟩=Q (AT (tx l[k])):=by rw[hrow.cell];simp[z]
  have ac:=C l[k] (Ey z);have v:=P.keep d.low W;have ak:(D7 f (l.take k)).length<=ln f+1001*k:=by
   have:=vD (l:=l.take k) (m:=1000) (λn hn=>C n (SE hn)) f;rw[QA] at this;have:min k (ln l)=k:=D
   simp_all
  have g:=A (show FT BF num (l.take (k+1))=(if FT BF num (l.take k)=0 then BF l[k] else FT BF num (l.take k))/\D7 f (l.take (k+1))=GK (D7 f (l.take k)) l[k] by
   rw[Sp z,pC,bO];exact⟨F,F⟩)
  have⟨a,I⟩:=AP (l[k]);rw[I] at aa ac g;have⟨x,hx⟩:=AP (FT BF num (l.take k));rw[hx] at g hw;have L:∀s,DQ B b wr s->DK B b wide (FT BF num (l.take (k+1))) (D7 f (l.take (k+1))) s->ig B b wide num f l w (M G ((k:Int)+1)) s:=
   λs ad ae=>⟨⟨k+1,D,AV,ae⟩,d.trans ad⟩
  have E:=A L;have H:=A (jf a wr D v.Tj v.pow);have j:=A hw;clear I hx hrow L d hw v;by_cases u:x=0
  .subst u;rw[Aj rfl] at g;go_wp2_with(first|(go_at_call 180;refine H.q λW1 r=>?_;have af:=r.size;have q:=A (j.below r);have Z:=q.Zt;have ab:=q.frozen 3)|(go_at_call 107;refine(Jn B b wide (BF a) _ a _ (q.b5h _) D (by simp[Di];omega)).q ?_;rintro U ⟨t,y⟩))
   refine⟨E _ (((DQ.Iv r D).trans (q.keep 3 _)).trans y) fF,Bm⟩
  have al:(x==0)=AM:=by rw[CK];exact u
  rw[Af u] at g;clear u;go_wp2_with(first|(go_at_call 180;refine H.q λW1 r=>?_;have af:=r.size;have q:=A (j.below r);have Z:=q.Zt;have ab:=q.frozen 3)|(go_at_call 107;refine(Jn B b wide x _ a _ q D D).q ?_;rintro U ⟨t,y⟩))
  refine⟨E _ ((DQ.Iv r D).trans y) fF,Bm⟩
 exact yb
def iV(s:By)(i:AN):Prop:=∃k:Nat,k<=ln s/\i=M G (k:Int)/\(s.take k).all WA=AL
def jm(s:By)(w:V)(a:ln s<=1000000):
  AZ AO 58 #[AT (tx s)] w λe w'=>e=Ac (AU (IY s))/\w'=w:=by
 go_enter func58,ntmps58;go_wp2
 go_loop [7] (λi=>iV s i) (λi=>((ln s:Int)-B8 i).toNat)
 case atStart=>exact⟨0,D,rfl,rfl⟩
 exact ye
theorem Sw{d:TypeDesc}(hm:AO.underlying T=Q (.map j q))(hk:AO.underlying j=Q d)(w:V)(a b:Array FG)(c:Nat)(k v:AN)(hi:MV d k)
  (g:Instr.findNow d k a.toList 0=Q O)(h:a.push {key:=k,val:=v,born:=c}=b):
  (Instr.mapUpdate T (.map (Q w.1.size)) k v).run AO (w.alloc (.map a c))= .ok () (w.alloc (.map b (c+1))):=by
 have e:(w.alloc (.map a c)).1[w.1.size]?=Q _:=Bq w _;have f:(Instr.checkKey AM 10000 j k).run AO (w.alloc (.map a c))= .ok () (w.alloc (.map a c)):=by grind [MapKept.run_checkKey]
 simp[Instr.mapUpdate,QE hm,mF e,f,lj hk g,MapKept.run_setObj_map _ e];unfold World.alloc
 congr 1
 grind
theorem qK{d:TypeDesc}(hm:AO.underlying T=Q (.map j q))(hk:AO.underlying j=Q d)(w:V)(b c:Nat)(a:Array FG)(f:w.1[b]?=Q (.map a c))(k:AN)(hi:MV d k)(e:Bool)
  {r:Option (Nat×AN)}(h:Instr.findNow d k a.toList 0=Q r)(i:(zeroValue q).run AO w= .ok z w):
  (Instr.lookup T (.map (Q b)) k e).run AO w= .ok (if e then BO #[(r.map (·.2)).getD z,AU r.isSome] else(r.map (·.2)).getD z) w:=by
 have g:(Instr.checkKey a.isEmpty 10000 j k).run AO w= .ok () w:=by grind [MapKept.run_checkKey]
 cases r with
 |none=>simp[Instr.lookup,QE hm,mF f,g,lj hk h,i]
 |some p=>simp[Instr.lookup,QE hm,mF f,g,lj hk h]
abbrev lA:Array FG:=#[]
def XY:Array FG:=lA.push {key:= M G 4,val:= AT ⟨#[112,117,114,108,105,110]⟩,born:=0}
def XX:Array FG:=XY.push {key:= M G 5,val:= AT ⟨#[111,112,101,110,105,110,103]⟩,born:=1}
def Xc:Array FG:=XX.push {key:= M G 6,val:= AT ⟨#[115,105,122,101]⟩,born:=2}
def Xn:Array FG:=Xc.push {key:= M G 7,val:= AT ⟨#[98,97,114]⟩,born:=3}
def Xd:Array FG:=Xn.push {key:= M G 10,val:= AT ⟨#[108,111,97,100]⟩,born:=4}
def V5:Array FG:=Xd.push {key:= M G 11,val:= AT ⟨#[115,112,97,110]⟩,born:=5}
abbrev xU:Array FG:=#[]
def kp:Array FG:=xU.push {key:= AT ⟨#[110,97,109,101]⟩,val:= M G 1,born:=0}
def kj:Array FG:=kp.push {key:= AT ⟨#[115,105,100,101]⟩,val:= M G 2,born:=1}
def lD:Array FG:=kj.push {key:= AT ⟨#[115,112,97,99,105,110,103]⟩,val:= M G 3,born:=2}
def kr:Array FG:=lD.push {key:= AT ⟨#[112,117,114,108,105,110]⟩,val:= M G 4,born:=3}
def ke:Array FG:=kr.push {key:= AT ⟨#[111,112,101,110,105,110,103]⟩,val:= M G 5,born:=4}
def kx:Array FG:=ke.push {key:= AT ⟨#[115,105,122,101]⟩,val:= M G 6,born:=5}
def kv:Array FG:=kx.push {key:= AT ⟨#[98,97,114]⟩,val:= M G 7,born:=6}
def ks:Array FG:=kv.push {key:= AT ⟨#[107,101,114,102]⟩,val:= M G 8,born:=7}
def ko:Array FG:=ks.push {key:= AT ⟨#[116,105,108,101]⟩,val:= M G 9,born:=8}
def ir:Array FG:=ko.push {key:= AT ⟨#[108,111,97,100]⟩,val:= M G 10,born:=9}
def im:Array FG:=ir.push {key:= AT ⟨#[115,112,97,110]⟩,val:= M G 11,born:=10}
def T6:Array FG:=im.push {key:= AT ⟨#[114,101,109,111,118,101]⟩,val:= M G 12,born:=11}
def jR(w:V):AZ AO 57 #[] w λe w'=>e=Ac (.map (Q w.1.size))/\w'=w.alloc (.map V5 6):=by
 have b:=@run_makeMap AO;have a:=@Sw _ _ _ _ underlying105 GQ w;have c:=a lA XY 0 _ _ IW F F;have u1:=a XY XX 1 _ _ IW F F;have d:=a XX Xc 2 _ _ IW F F;have f:=a Xc Xn 3 _ _ IW F F;have g:=a Xn Xd 4 _ _ IW F F;have i:=a Xd V5 5 _ _ IW F F;exact ZO
def jc(w:V):AZ AO 91 #[] w λe w'=>e=Ac (.map (Q w.1.size))/\w'=w.alloc (.map T6 12):=by
 have b:=@run_makeMap AO;have a:=@Sw _ _ _ _ underlying136 underlying9 w;have c:=a xU kp 0 _ _ IW U F;have u1:=a kp kj 1 _ _ IW U F;have g:=a kj lD 2 _ _ IW U F;have i:=a lD kr 3 _ _ IW U F;have j:=a kr ke 4 _ _ IW U F;have k:=a ke kx 5 _ _ IW U F;have l:=a kx kv 6 _ _ IW U F;have m:=a kv ks 7 _ _ IW U F;have n:=a ks ko 8 _ _ IW U F;have o:=a ko ir 9 _ _ IW U F;have d:=a ir im 10 _ _ IW U F;have f:=a im T6 11 _ _ IW U F;exact ZO
theorem b0n(n a:Int)(v:AN)(b:Nat)(c:List FG)(i:Nat):Instr.findNow (.int .i64) (.int .i64 n) ({key:= .int .i64 a,val:=v,born:=b}::c) i=if n=a then Q (Q (i,v)) else Instr.findNow (.int .i64) (.int .i64 n) c (i+1):=by
 grind [Instr.findNow,Instr.sameNow]
theorem pk(w:V)(b c:Nat)(k:w.heap[b]?=Q (.map V5 c))(n:Int)(a:Bool):
  (Instr.lookup 105 (.map (Q b)) (.int .i64 n) a).run AO w= .ok (if a then .tuple #[.string (tx (Gc n)),.bool (Hd n)] else .string (tx (Gc n))) w:=by
 have m:(zeroValue 9).run AO w= .ok (.string ⟨#[]⟩) w:=by kernel_rfl
 obtain⟨r,l,h1,h2⟩:∃r,Instr.findNow (.int .i64) (.int .i64 n) V5.toList 0=Q r∧(r.map (·.2)).getD _= .string (tx (Gc n))∧r.isSome=Hd n:=by
  show∃r,Instr.findNow _ _ [_,_,_,_,_,_] 0=Q r∧_
  simp[b0n]
  unfold Gc Hd
  by_cases h:n=4∨n=5∨n=6∨n=7∨n=10∨n=11
  ·rcases h with rfl|rfl|rfl|rfl|rfl|rfl<;>exact⟨_,rfl,rfl,rfl⟩
  ·simp[not_or] at h
   obtain⟨f,g,i,j,d,e⟩:=h
   simp[f,g,i,j,d,e]
   exact⟨O,rfl,rfl,by grind⟩
 grind [qK,underlying105,GQ,MV]
theorem iR(a b:By):(tx a==tx b)=AQ (a=b):=by
 rw[beq_toListBytes,JM];simp
def dt:List By->Nat->List FG
 |[],_=>[]
 |a::l,i=>{key:= AT (tx a),val:= M G (i+1),born:=i}::dt l (i+1)
theorem qt(s:By):∀l i,∃r,Instr.findNow .string (.string (tx s)) (dt l i) i=Q r∧(r.map (·.2)).getD (.int .i64 0)= .int .i64 (if s∈l then i+l.idxOf s+1 else 0)
 |[],i=>⟨O,rfl,rfl⟩
 |a::l,i=>by
  obtain⟨r,h1,h2⟩:=qt s l (i+1)
  by_cases h:s=a
  ·grind [dt,Instr.findNow,Instr.sameNow,iR]
  ·refine⟨r,by grind [dt,Instr.findNow,Instr.sameNow,iR],?_⟩
   grind
def a4f(s:By):kindOf s=((if s∈[Qt,P5,Ql,MC,LY,LI,Jv,P4,Q4,ML,MN,OJ] then 0+[Qt,P5,Ql,MC,LY,LI,Jv,P4,Q4,ML,MN,OJ].idxOf s+1 else 0:Nat):Int):=by
 by_cases h:s∈[Qt,P5,Ql,MC,LY,LI,Jv,P4,Q4,ML,MN,OJ]
 .simp[Kt,PW,Nq] at h;rcases h with rfl|rfl|rfl|rfl|rfl|rfl|rfl|rfl|rfl|rfl|rfl|rfl<;>decide+kernel
 simp[Kt,not_or] at h;simp[kindOf,h]
theorem a79(w:V)(b c:Nat)(a:w.heap[b]?=Q (.map T6 c))(s:By):
  (Instr.lookup 136 (.map (Q b)) (.string (tx s)) AM).run AO w= .ok (.int .i64 (kindOf s)) w:=by
 have d:(zeroValue 3).run AO w= .ok (.int .i64 0) w:=by kernel_rfl
 obtain⟨r,h1,h2⟩:=qt s [Qt,P5,Ql,MC,LY,LI,Jv,P4,Q4,ML,MN,OJ] 0
 rw[qK underlying136 underlying9 w b c T6 a _ (by simp[MV]) AM (show Instr.findNow .string _ _ 0=Q r from h1) d,a4f]
 grind
end
section
open Kp
attribute [local go_sem] Eb Iy Jm I4 LW Hk Lw Lx Ly M0 M3 M4 M5 M6 M7 M8 Mf NU NV NW NY Mg Mh Mi Mj Ml Mm Mn Mo J9 M9 MA MB Mr Ms Mt MG MH
def Fw(w:V)(c:Nat)(e:Ed)(g:AN):Prop:=w.1[c]?=Q (.cells (Ah e g) 54 (0,0))
theorem Fw.cell{e:Ed}(h:Fw w c e g)(i:Nat):w.cell? ⟨c,i,O⟩=(Ah e g)[i]?:=by unfold Fw at h;simp[Dx,h]
theorem Fw.bd{B b c:Nat}{e:Ed}(h:Fw w c e g)(hk:DQ B b w w')(a:c≠b):Fw w' c e g:=
 hk.kept c _ h (λe=>a Al) (λcs d e=>by cases e)
theorem Fw.below{e:Ed}(h:Fw w c e g)(a:At B0 w w')(b:c<B0):Fw w' c e g:=(a.block c b).trans h
theorem Fw.lt{e:Ed}(h:Fw w c e g):c<w.1.size:=(Ee.1 h).1
theorem Fw.new(w:V)(e:Ed)(g:AN):Fw (w.alloc (.cells (Ah e g) 54)) w.1.size e g:=Bq w _
theorem Fw.alloc{e:Ed}(h:Fw w c e g)(o:Obj):Fw (w.alloc o) c e g:=(Ue w o c h.lt).trans h
theorem Dc.new(w:V)(T:Bb)(l:List AN):Dc (w.alloc (.cells l.toArray T)) w.1.size T l:=Bq w _
theorem DK.alloc{B b:Nat}{wide num:Int}{a:By}(h:DK B b wide num a w)(o:Obj):DK B b wide num a (w.alloc o):=h.below ((Ad _ _).alloc (AS _) _)
def DQ.alloc{B b:Nat}(w:V)(a:B<=w.1.size)(o:Obj):DQ B b w (w.alloc o):=DQ.Iv ((Ad _ _).alloc (AS _) _) a
structure IH(e:Ed):Prop where
 ints:∀n∈Cj e,Bh n
 nums:∀a∈numsOf e,ln a<=1000
 Ct:ln e.Ct<=1000
def MJ(B b:Nat)(e:Ed)(w:V)(r:CI)(w':V):Prop:=Vr B b (Gv 0 (Cj e)) (FT BF 0 (numsOf e)) (D7 [] (EU e)) w r w'
theorem gA{B b:Nat}{a:By}{l:List Int}(d:Hid (∀n∈l,Bh n))(c:Hid (DK B b 0 0 a W))(g:ln a+21*ln l<=10000000)(i:B<=W.1.size)(f:Gl W)(e:9<=B)(hn:ln l=n):
  AZ AO 108 #[E6 b,AK (Q ⟨W.1.size,0,O⟩) n o] (W.alloc (.cells (To l).toArray 3)) (Vr B b (Gv 0 l) 0 (D7 a (Dd l)) (W.alloc (.cells (To l).toArray 3))):=by
 subst hn;exact YH B b _ 3 0 0 a l _ _ (c.alloc _) (Dc.new W _ _) (by have:=c.lt;omega) Z d g Bk (f.keep ((Ad _ _).alloc (AS _) _) D) e
theorem a5f{B b:Nat}{x:Int}{c:By}{l:List By}(e:Hid (∀a∈l,ln a<=1000))(d:Hid (DK B b x 0 c W))(j:ln l<=100)(i:ln c<=1000000)(k:B<=W.1.size)(g:Gl W)(f:9<=B)(hn:ln l=n):
  AZ AO 109 #[E6 b,AK (Q ⟨W.1.size,0,O⟩) n o] (W.alloc (.cells (Q9 l).toArray 41)) (Vr B b x (FT BF 0 l) (D7 c l) (W.alloc (.cells (Q9 l).toArray 41))):=by
 subst hn;exact a5H B b _ 41 x 0 c l _ _ (d.alloc _) (Dc.new W _ _) (by have:=d.lt;omega) Z e j i Bk (g.keep ((Ad _ _).alloc (AS _) _) D) f
theorem P7{B b:Nat}{e:Ed}{v:AN}{k:Int}{N H:List By}(h:DK B b 0 0 [] w)(c:IH e)(j:Gl w)(d:B<=w.1.size)(hk:e.Ab=k)(g:Cj e=I)(i:numsOf e=N)(f:El e=H):
  (∀m:Int,(e.Ab==m)=(k==m))/\Hid (Cj e=I)/\Hid (numsOf e=N)/\Hid (El e=H)/\Hid (∀n∈I,Bh n)/\Hid (∀a∈N,ln a<=1000)/\ln e.Ct<=1000/\b<w.1.size/\Hid (DK B b 0 0 [] (w.alloc (.cells (Ah e v) 54)))/\Hid (Fw (w.alloc (.cells (Ah e v) 54)) w.1.size e v)/\Hid (DQ B b w (w.alloc (.cells (Ah e v) 54)))/\Hid (Gl w):=by
 subst hk g i f;exact⟨λ_=>rfl,A rfl,A rfl,A rfl,A c.ints,A c.nums,c.Ct,h.lt,A (h.alloc _),A (Fw.new w e v),A (DQ.alloc w d _),A j⟩
theorem T7(h:p:=by
  obtain⟨hN,HI,HNM,HH,HIN,HNU,htx,hbl,HW,HE,HK,HG⟩:=j;clear h c hk a;go_enter func60,ntmps60;go_wp2_with(first
   |(go_at_call 109;refine(a5f HNU HW (PO F) (BJ (hl2 _) (PO F)) D (HG.keep HK.low g) g F).q ?_;rintro W3 ⟨hw3,hk3⟩;have HW:=A hw3;have HK:=A ((HK.trans (DQ.alloc W2 D _)).trans hk3);clear hw3 hk3)
   |(go_at_call 108;refine(gA HIN HW (PO F) D (HG.keep HK.low g) g F).q ?_;rintro W2 ⟨hw2,hk2⟩;have HE:=A ((HE.alloc _).bd hk2 D);have ec2:=λi=>HE.cell i;have hz2:=hk2.low.size;simp only[D5] at hz2;have hl2:=ai HIN;have HW:=A hw2;have HK:=A ((HK.trans (DQ.alloc W1 D _)).trans hk2);clear hw2 hk2 ec1)
   |(go_at_call 107;refine(k _ HW Z Bk).q ?_;rintro W1 ⟨hw1,hk1⟩;have HE:=A (HE.bd hk1 D);have ec1:=λi=>HE.cell i;have hz1:=hk1.low.size;simp only[D5] at hz1;have HW:=A hw1;have HK:=A (HK.trans hk1);clear hw1 hk1))
  go_end0;refine⟨F,?_,HK⟩;rw[HI.o,HNM.o];unfold EU;rw[HI.o,HNM.o,HH.o]
  first|exact HW|(simp only[SK];exact HW)|(rw[YL];exact HW)):p:=h
theorem b07(B b:Nat)(e:Ed)(d:Option An)(c f:Nat)(w:V)(h:DK B b 0 0 [] w)(z:IH e)(hk:e.Ab=1)(x:Gl w)(O:9<=B)(u:B<=w.1.size):
  AZ AO 60 #[E6 b,AW (Ah e (AK d c f))] w (MJ B b e w):=by
 have s:=P7 (v:= AK d c f) (I:=[]) (N:=[]) (H:=[Qt,e.Ct]) h z x u hk (by grind [Cj]) (by grind [numsOf]) (by grind [El]);obtain⟨P,n,r,m,J,K,R,Q,l,j,o,G⟩:=s;go_enter func60,ntmps60;go_wp2_with(first|(refine(Jn B b 0 0 _ _ _ t (by show 4+_<=_;omega) D).q ?_;rintro L ⟨C,y⟩)|(refine(Jn B b 0 0 [] Qt _ l Z Bk).q ?_;rintro W1 ⟨g,a⟩;have k:=A (j.bd a D);have M:=λi=>k.cell i;have E:=a.low.size;simp[D5] at E;have t:=A g;have q:=A (o.trans a);clear g a))
 go_end0;refine⟨F,?_,q.trans y⟩;unfold EU;rw[n.o,r.o,m.o];exact C
def a7D(B b:Nat)(e:Ed)(d:Option An)(l f:Nat)(w:V)(h:DK B b 0 0 [] w)(c:IH e)(hk:e.Ab=2)(n:e.DX=AL)(a:Gl w)(g:9<=B)(m:B<=w.1.size):
  AZ AO 60 #[E6 b,AW (Ah e (AK d l f))] w (MJ B b e w):=by
 have j:=P7 (v:= AK d l f) (I:=[e.Ae,e.sx,e.sy,e.ID,e.II,e.I9,e.IF,1]) (N:=[]) (H:=[P5]) h c a m hk (by unfold Cj;rw[hk];simp[n,TE]) Uu Uq;have k:=A (Jn B b 0 0 [] P5);exact T7
def a7T(B b:Nat)(e:Ed)(d:Option An)(l f:Nat)(w:V)(h:DK B b 0 0 [] w)(c:IH e)(hk:e.Ab=2)(n:e.DX=AM)(a:Gl w)(g:9<=B)(m:B<=w.1.size):
  AZ AO 60 #[E6 b,AW (Ah e (AK d l f))] w (MJ B b e w):=by
 have j:=P7 (v:= AK d l f) (I:=[e.Ae,e.sx,e.sy,e.ID,e.II,e.I9,e.IF,0]) (N:=[]) (H:=[P5]) h c a m hk (by unfold Cj;rw[hk];simp[n,TE]) Uu Uq;have k:=A (Jn B b 0 0 [] P5);exact T7
theorem b1P(B b:Nat)(e:Ed)(d:Option An)(l f:Nat)(w:V)(h:DK B b 0 0 [] w)(c:IH e)(hk:e.Ab=3)(a:Gl w)(g:9<=B)(m:B<=w.1.size):
  AZ AO 60 #[E6 b,AW (Ah e (AK d l f))] w (MJ B b e w):=by
 have j:=P7 (v:= AK d l f) (I:=[e.Ae,e.Av]) (N:=[]) (H:=[Ql]) h c a m hk (by grind [Cj]) (by grind [numsOf]) (by grind [El]);have k:=A (Jn B b 0 0 [] Ql);exact T7
theorem b0V(B b:Nat)(e:Ed)(d:Option An)(l f:Nat)(w:V)(h:DK B b 0 0 [] w)(c:IH e)(hk:e.Ab=4)(a:Gl w)(g:9<=B)(m:B<=w.1.size):
  AZ AO 60 #[E6 b,AW (Ah e (AK d l f))] w (MJ B b e w):=by
 have j:=P7 (v:= AK d l f) (I:=[e.Av]) (N:=[]) (H:=[MC]) h c a m hk (by grind [Cj]) (by grind [numsOf]) (by grind [El]);have k:=A (Jn B b 0 0 [] MC);exact T7
theorem b0K(B b:Nat)(e:Ed)(d:Option An)(l f:Nat)(w:V)(h:DK B b 0 0 [] w)(c:IH e)(hk:e.Ab=5)(a:Gl w)(g:9<=B)(m:B<=w.1.size):
  AZ AO 60 #[E6 b,AW (Ah e (AK d l f))] w (MJ B b e w):=by
 have j:=P7 (v:= AK d l f) (I:=[e.Ae,e.EL]) (N:=[e.E9,e.E8,e.EE,e.EK]) (H:=[LY]) h c a m hk (by unfold Cj;rw[hk];simp) Uu Uq;have k:=A (Jn B b 0 0 [] LY);exact T7
theorem b09(B b:Nat)(e:Ed)(d:Option An)(l f:Nat)(w:V)(h:DK B b 0 0 [] w)(c:IH e)(hk:e.Ab=8)(a:Gl w)(g:9<=B)(m:B<=w.1.size):
  AZ AO 60 #[E6 b,AW (Ah e (AK d l f))] w (MJ B b e w):=by
 have j:=P7 (v:= AK d l f) (I:=[e.Av]) (N:=[]) (H:=[P4]) h c a m hk (by grind [Cj]) (by grind [numsOf]) (by grind [El]);have k:=A (Jn B b 0 0 [] P4);exact T7
theorem b1A(B b:Nat)(e:Ed)(d:Option An)(l f:Nat)(w:V)(h:DK B b 0 0 [] w)(c:IH e)(hk:e.Ab=9)(a:Gl w)(g:9<=B)(m:B<=w.1.size):
  AZ AO 60 #[E6 b,AW (Ah e (AK d l f))] w (MJ B b e w):=by
 have j:=P7 (v:= AK d l f) (I:=[e.GW,e.GU,e.Gb,e.GY]) (N:=[]) (H:=[Q4]) h c a m hk (by grind [Cj]) (by grind [numsOf]) (by grind [El]);have k:=A (Jn B b 0 0 [] Q4);exact T7
theorem a9d(B b:Nat)(e:Ed)(d:Option An)(l f:Nat)(w:V)(h:DK B b 0 0 [] w)(c:IH e)(hk:e.Ab=10)(a:Gl w)(g:9<=B)(m:B<=w.1.size):
  AZ AO 60 #[E6 b,AW (Ah e (AK d l f))] w (MJ B b e w):=by
 have j:=P7 (v:= AK d l f) (I:=[e.Ae,e.FJ,e.FI]) (N:=[e.FH]) (H:=[ML]) h c a m hk (by unfold Cj;rw[hk];simp) Uu Uq;have k:=A (Jn B b 0 0 [] ML);exact T7
theorem a8b(B b:Nat)(e:Ed)(d:Option An)(c f:Nat)(w:V)(h:DK B b 0 0 [] w)(O:IH e)(hk:e.Ab=11)(K:Gl w)(j:9<=B)(J:B<=w.1.size):
  AZ AO 60 #[E6 b,AW (Ah e (AK d c f))] w (MJ B b e w):=by
 have z:=P7 (v:= AK d c f) (I:=[e.I8,e.I7,e.Hz,e.IG,e.IC]) (N:=[]) (H:=[MN]) h O K J hk (by unfold Cj;rw[hk];simp) Uu Uq;obtain⟨U,s,y,r,t,S,X,W,n,R,u,q⟩:=z;have o:=A (n.alloc (.cells (([M G e.I8,M G e.I7,M G e.Hz,M G e.IG,M G e.IC])).toArray 52));have l:=A (Dc.new (w.alloc (.cells (Ah e (AK d c f)) 54)) 52 [M G e.I8,M G e.I7,M G e.Hz,M G e.IG,M G e.IC]);have x:=A (u.trans (DQ.alloc _ Bk (.cells (([M G e.I8,M G e.I7,M G e.Hz,M G e.IG,M G e.IC])).toArray 52)));go_enter func60,ntmps60;go_wp2_with(first
  |(go_at_call 108;refine(gA t C (PO F) D (q.keep g.low j) j F).q ?_;rintro T ⟨P,L⟩)
  |(refine(Jn B b 0 0 [] MN _ o Z Bk).q ?_;rintro W1 ⟨k,a⟩;have m:=A (l.bd a Bk Z);have E:=λi=>m.cell i;simp only[D5] at E;have Q:=a.low.size;simp only[D5] at Q;have C:=A k;have g:=A (x.trans a);clear k a))
 go_end0;refine⟨F,?_,(g.trans (DQ.alloc W1 D _)).trans L⟩;unfold EU;rw[s.o,y.o,r.o];exact P
end
section
open Kp
attribute [local go_sem] Eb Iy Jm I4 Hk Lw Lx Ly M5 M7 Mh Mo J9
def th(w:V)(e:CI)(w':V):Prop:=
 ∃g o,e=Ac (AK (Q ⟨g,0,O⟩) 12 o)/\w.1.size<=g/\(∃cur:Array AN,w'.1[g]?=Q (.cells cur 9 (0,0)))/\(∀j,j<12->w'.cell? ⟨g,j,O⟩=Q (AT (tx (Dy.getD j []))))/\12<=o/\o<=BM/\At w.1.size w w'
def a2m(w:V)(m:Gl w):AZ AO 106 #[AK (Q ⟨0,1,O⟩) 12 12] w (th w):=by
 refine(slices_Clone_string 0 1 12 12 (Dy.map tx) w Z Z (λj a=> ?_)).mono ?_
 .have hj':j<12:=by simpa[Dy] using a
  rw[m.b5y j hj']
  congr 2
  rw[CM,CM,Ku];have:j<ln Dy:=hj';rw[Bv this];rfl
 rintro e w' ⟨v,rfl,r,x,i⟩;obtain⟨u,⟨c,d⟩|⟨g,o,cur,c,k,b,q,l,t,s⟩⟩:=r
 .cases d
 refine⟨g,o,by rw[c],k,⟨cur,b⟩,λj a=> ?_,q,l,i⟩;have h1:w'.cell? ⟨g,j,O⟩=cur[j]?:=by simp[Dx,b]
 rw[h1];have h2:(cur.toList.take (12*1))[j]?=((Dy.map tx).take 12 |>.map Value.string)[j]?:=by rw[s]
 rw[Uk,Aj D] at h2;rw[Array.getElem?_toList] at h2;rw[h2];have f:∀n:Fin 12,((Dy.map tx).take 12 |>.map Value.string)[n.1]?=Q (AT (tx (Dy.getD n.1 []))):=by
  intro n
  match n with
  |⟨0,_⟩=>rfl
  |⟨1,_⟩=>rfl
  |⟨2,_⟩=>rfl
  |⟨3,_⟩=>rfl
  |⟨4,_⟩=>rfl
  |⟨5,_⟩=>rfl
  |⟨6,_⟩=>rfl
  |⟨7,_⟩=>rfl
  |⟨8,_⟩=>rfl
  |⟨9,_⟩=>rfl
  |⟨10,_⟩=>rfl
  |⟨11,_⟩=>rfl
 exact f ⟨j,a⟩
def bh(w:V)(a:Gl w):AZ AO 59 #[] w (th w):=by
 have b:=A (a2m w a);clear a;go_enter func59,ntmps59;go_wp2_with(go_at_call 106;refine b.mono ?_;rintro e w1 ⟨g,o,rfl,h1,h2,c,d,f,h⟩)
 go_ret;exact⟨g,o,F,h1,h2,c,d,f,h⟩
theorem Gl.drew(h:Gl w):Gl w.drew:=h.keep (B:=9) (Ad 9 w).drew (AS _)
theorem b01(B b:Nat)(e:Ed)(d:Option An)(K f:Nat)(w:V)(h:DK B b 0 0 [] w)(T:IH e)(hk:e.Ab=6)(hz:1<=e.Be/\e.Be<=12)(L:Gl w)(q:9<=B)(ad:B<=w.1.size):
  AZ AO 60 #[E6 b,AW (Ah e (AK d K f))] w (MJ B b e w):=by
 have⟨hN,x,C,HH,aa,ai,ar,am,HA,E0,ab,u⟩:=P7 (v:= AK d K f) (I:=[e.Eg,e.Ef]) (N:=[]) (H:=[LI,LJ e.Be]) h T L ad hk (by unfold Cj;rw[hk];simp) Uu Uq;obtain⟨Y,ah⟩:=hz;obtain⟨j,s⟩:∃j:Nat,e.Be-1=(j:Int):=⟨(e.Be-1).toNat,D⟩;have S:j<12:=D;have c:=A (show Dy.getD j []=LJ e.Be by unfold LJ;rw[s];rfl);have aq:(LJ e.Be).length<=16:=by
  rw[<-c.o];have:∀n:Fin 12,(Dy.getD n.1 []).length<=16:=GG;exact this ⟨j,S⟩
 have au:G.wrap (e.Be-1)=(j:Int):=by rw[s];exact EN D D
 clear h T L hk s;go_enter func60,ntmps60;go_upto_region 26 with(go_at_call 107;refine(Jn B b 0 0 [] LI _ HA Z Bk).q ?_;rintro W1 ⟨U,k⟩;have m:=A (E0.bd k D);have aj:=λi=>m.cell i;have Y:=k.low.size;simp only[D5] at Y;have ac:=A U;have y:=A (ab.trans k);clear U k)
 go_region_with (first
  |(go_at_call 59;(refine(bh _ (u.keep y.low q).drew).mono ?_;rintro r W2 ⟨g,o,rfl,ao,⟨cur,ae⟩,P,ap,af,R⟩;have a:=A ((Ad _ W1).drew.trans R);have t:=A (m.below a m.lt);have ak:=λi=>t.cell i;have an:=P j S;have ah:=a.size;clear ae P R;unfold BM at af))
  |(go_at_call 107;(refine(Jn B b 0 0 _ (Dy.getD j []) _ (ac.below a) (by rw[c.o];show 4+_<=_;omega) D).q ?_;rintro J ⟨W,l⟩;have E3:=A (t.bd l D);have al:=λi=>E3.cell i;have av:=l.low.size;have E:=A W;have z:=A ((y.trans (DQ.Iv a D)).trans l);clear W l)))
 all_goals
  go_wp2_with(go_at_call 108;(refine(YH B b _ 3 0 0 _ [e.Eg,e.Ef] _ _ (E.alloc _) (Dc.new J _ (To [e.Eg,e.Ef])) (by have:=E.lt;omega) Z aa (by rw[c.o];have:=cK (GK [] LI) (LJ e.Be);have h4:(GK [] LI).length=4:=rfl;show _+21*2<=_;omega) Bk ((u.keep z.low q).keep ((Ad _ _).alloc (AS _) _) D) q).q ?_);rintro W4 ⟨X,ag⟩)
  go_end0;refine⟨F,?_,(z.trans (DQ.alloc J D _)).trans ag⟩;rw[x.o,C.o];unfold EU;rw[x.o,C.o,HH.o];rw[c.o] at X;simp only[SK];exact X
def a6t(n:Int):(Gc n).length<=16:=by
 exact fM
theorem a9F(B b:Nat)(e:Ed)(d:Option An)(t f:Nat)(w:V)(h:DK B b 0 0 [] w)(y:IH e)(hk:e.Ab=12)(x:Gl w)(u:9<=B)(W:B<=w.1.size):
  AZ AO 60 #[E6 b,AW (Ah e (AK d t f))] w (MJ B b e w):=by
 have⟨hN,m,o,P,R,ac,ai,ag,K,E,S,L⟩:=P7 (v:= AK d t f) (I:=[e.Ae]) (N:=[]) (H:=[OJ,Gc e.Av]) h y x W hk (by unfold Cj;rw[hk];simp) Uu Uq;have ah:=a6t e.Av;clear h y x hk;go_enter func60,ntmps60;go_upto_region 3 with(go_at_call 107;refine(Jn B b 0 0 [] OJ _ K Z Bk).q ?_;rintro W1 ⟨z,c⟩;have j:=A (E.bd c D);have ad:=λi=>j.cell i;have ab:=c.low.size;simp only[D5] at ab;have U:=A z;have T:=A (S.trans c);clear z c)
 go_region_with (first
  |(go_at_call 57;(refine(jR _).q λr k=>?_;have a:=A (show At W1.1.size W1 r by rw[k];exact(Ad _ W1).drew.alloc (AS _) _);have Y:=pk r W1.1.size 6 (by rw[k];exact Bq W1.drew _) e.Av AM;have l:=A (j.below a j.lt);have ae:=λi=>l.cell i;have aj:=a.size;simp only[lz,Wx] at Y;clear k))
  |(go_at_call 107;(refine(Jn B b 0 0 _ (Gc e.Av) _ (U.below a) (by show 6+_<=_;omega) D).q ?_;rintro s ⟨C,g⟩;have J:=A (l.bd g D);have af:=λi=>J.cell i;have ak:=g.low.size;have q:=A C;have n:=A ((T.trans (DQ.Iv a D)).trans g);clear C g)))
 all_goals
  go_wp2_with(go_at_call 108;(refine(YH B b _ 3 0 0 _ [e.Ae] _ _ (q.alloc _) (Dc.new s _ (To [e.Ae])) (by have:=q.lt;omega) Z R (by have:=cK (GK [] OJ) (Gc e.Av);have h4:(GK [] OJ).length=6:=rfl;show _+21*1<=_;omega) Bk ((L.keep n.low u).keep ((Ad _ _).alloc (AS _) _) D) u).q ?_);rintro W4 ⟨aa,X⟩)
  go_end0;refine⟨F,?_,(n.trans (DQ.alloc s D _)).trans X⟩;rw[m.o,o.o];unfold EU;rw[m.o,o.o,P.o];simp only[SK];exact aa
end
section
open Kp
attribute [local go_sem] Eb I4 Hk Lw Lx Ly M5 M7 J9
def C8(w:V)(B:Nat)(d:Option An)(f:Nat)(l:List (Int×Int)):Prop:=
 ln l<=f/\f<=BM/\(0<ln l->∃a go,d=Q ⟨a,go,O⟩/\a<B/\∀j (b:j<ln l),w.cell? ⟨a,go+2*j,O⟩=Q (M G (l[j]'b).1)/\w.cell? ⟨a,go+2*j+1,O⟩=Q (M G (l[j]'b).2))
theorem C8.below{B:Nat}{l:List (Int×Int)}(h:C8 w B d f l)(b:At B w w'):C8 w' B d f l:=by
 refine⟨h.1,h.2.1,λk=> ?_⟩;have⟨i,go,e,a,c⟩:=h.2.2 k;exact⟨i,go,e,a,λj g=>⟨(b.cell a).trans (c j g).1,(b.cell a).trans (c j g).2⟩⟩
theorem C8.more{B B':Nat}{l:List (Int×Int)}(h:C8 w B d f l)(c:B<=B'):C8 w B' d f l:=by
 refine⟨h.1,h.2.1,λa=> ?_⟩;have⟨b,go,e,i,g⟩:=h.2.2 a
 grind
theorem Dc.Xj(w:V)(o:Obj)(T:Bb)(l:List AN):Dc ((w.alloc o).alloc (.cells l.toArray T)) (w.1.size+1) T l:=by
 grind [Dc.new,World.size_alloc]
def nt(l:List (Int×Int))(g:Int×Int):Ev (l++[g])=Ev l++[g.1,g.2]:=by simp[Ev]
theorem fX(l:List (Int×Int)):(Ev l).length=2*ln l:=by
 unfold Ev
 induction l<;>grind
def a5v(x:Int)(a b:List Int):Gv x (a++b)=Gv (Gv x a) b:=by
 grind [Gv]
structure kh(B b:Nat)(e:Ed)(w:V)(i:AN)(wr:V):Prop where
 ex:∃k:Nat,k<=ln e.Aa/\i=M G (k:Int)/\DK B b (Gv 0 ([e.Ae,e.Ch,e.Ck,e.Co,e.Cp,e.Cr]++Ev (e.Aa.take k))) 0 (D7 [] (Jv::Dd ([e.Ae,e.Ch,e.Ck,e.Co,e.Cp,e.Cr]++Ev (e.Aa.take k)))) wr
 keep:DQ B b w wr
theorem a9u(B b:Nat)(e:Ed)(d:Option An)(f:Nat)(w:V)(h:DK B b 0 0 [] w)(R:IH e)(hk:e.Ab=7)(N:C8 w B d f e.Aa)(az:ln e.Aa<=16)(o:Gl w)(m:9<=B)(am:B<=w.1.size):
  AZ AO 60 #[E6 b,AW (Ah e (AK d (ln e.Aa) f))] w (MJ B b e w):=by
 have k1:(e.Ab==1)=AM:=PZ;have k2:(e.Ab==2)=AM:=PZ;have k3:(e.Ab==3)=AM:=PZ;have k4:(e.Ab==4)=AM:=PZ;have k5:(e.Ab==5)=AM:=PZ;have k6:(e.Ab==6)=AM:=PZ;have k7:(e.Ab==7)=AL:=PZ;have k8:(e.Ab==8)=AM:=PZ;have k9:(e.Ab==9)=AM:=PZ;have aF:(e.Ab==10)=AM:=PZ;have aG:(e.Ab==11)=AM:=PZ;have aH:(e.Ab==12)=AM:=PZ;have E:=A (show Cj e=[e.Ae,e.Ch,e.Ck,e.Co,e.Cp,e.Cr]++Ev e.Aa by unfold Cj;rw[hk];simp);have ag:=A (show numsOf e=[] by unfold numsOf;rw[hk];simp);have HH:=A (show El e=[Jv] by unfold El;rw[hk];simp);have j:=A (show∀n∈[e.Ae,e.Ch,e.Ck,e.Co,e.Cp,e.Cr]++Ev e.Aa,Bh n by have:=R.ints;rw[E.o] at this;exact this);have ac:=A (show∀n∈([e.Ae,e.Ch,e.Ck,e.Co,e.Cp,e.Cr]:List Int),Bh n fromλn hn=>j n (List.mem_append_left _ hn));have aA:=h.lt;have aa:=A ((h.alloc (.cells (Ah e (AK d (ln e.Aa) f)) 54)).alloc (.cells (([M G e.Ch,M G e.Ck,M G e.Co,M G e.Cp,M G e.Cr,AK d (ln e.Aa) f]:List AN)).toArray 48));have X:=A ((Fw.new w e (AK d (ln e.Aa) f)).alloc (.cells (([M G e.Ch,M G e.Ck,M G e.Co,M G e.Cp,M G e.Cr,AK d (ln e.Aa) f]:List AN)).toArray 48));have U:=A (Dc.new (w.alloc (.cells (Ah e (AK d (ln e.Aa) f)) 54)) 48 [M G e.Ch,M G e.Ck,M G e.Co,M G e.Cp,M G e.Cr,AK d (ln e.Aa) f]);have ae:=A ((DQ.alloc (B:=B) (b:=b) w am (.cells (Ah e (AK d (ln e.Aa) f)) 54)).trans (DQ.alloc (w.alloc (.cells (Ah e (AK d (ln e.Aa) f)) 54)) Bk (.cells (([M G e.Ch,M G e.Ck,M G e.Co,M G e.Cp,M G e.Cr,AK d (ln e.Aa) f]:List AN)).toArray 48)));have C:=A o;have ab:=A N;clear h R o hk N;go_enter func60,ntmps60;go_wp2_with(first
  |(go_at_call 107;refine(Jn B b 0 0 [] Jv _ aa Z Bk).q ?_;rintro W1 ⟨S,a⟩;have s:=A (U.bd a Bk Z);have J:=λi=>s.cell i;simp only[D5] at J;have Y:=A (X.bd a D);have al:=λi=>Y.cell i;have ax:=a.low.size;simp only[D5] at ax;have I:=A S;have H:=A (ae.trans a);clear S a)
  |(go_at_call 108;(refine(YH B b _ 3 0 0 _ [e.Ae,e.Ch,e.Ck,e.Co,e.Cp,e.Cr] _ _ (I.alloc _) (Dc.new W1 _ (To [e.Ae,e.Ch,e.Ck,e.Co,e.Cp,e.Cr])) (by have:=I.lt;omega) Z ac (by show _+21*6<=_;decide) Bk ((C.keep H.low m).keep ((Ad _ _).alloc (AS _) _) D) m).q ?_);rintro W2 ⟨T,q⟩;have W:=A ((s.below ((Ad _ _).alloc (AS _) _) s.lt).bd q Bk Z);have ak:=λi=>W.cell i;simp only[D5] at ak;have ay:=q.low.size;simp only[D5] at ay;have aj:=A T;have af:=A ((H.trans (DQ.alloc W1 D _)).trans q);clear T q J al))
 have ah:=A (show kh B b e w (M G 0) W2 from⟨⟨0,D,rfl,by exact aj⟩,af⟩);go_loopw [156] (λi wr=>kh B b e w i wr) (λi _=>((ln e.Aa:Int)-B8 i).toNat)
 case atStart=>exact ah
 obtain⟨⟨k,hk,rfl,hw⟩,c⟩:=hrel;have aD:=c.low.size;by_cases r:k<ln e.Aa
 .have⟨hgc1,hgc2,hgx⟩:=(ab.below c.low);obtain⟨gb,go,rfl,aB,an⟩:=hgx D;have⟨K,L⟩:=an k r;have z:=A (show e.Aa.take (k+1)=e.Aa.take k++[e.Aa[k]] from Sp r);have ar:e.Aa[k].1∈Ev e.Aa:=eT.2 ⟨e.Aa[k],Ey r,AV⟩;have au:e.Aa[k].2∈Ev e.Aa:=eT.2 ⟨e.Aa[k],Ey r,AV⟩;have P:∀n∈([e.Aa[k].1,e.Aa[k].2]:List Int),Bh n:=by
   intro n hn;simp only[Kt,PW,Nq] at hn;rcases hn with rfl|rfl
   .exact j _ (mI _ ar)
   exact j _ (mI _ au)
  obtain⟨x,y,aw⟩:∃x y,e.Aa[k]=(x,y):=⟨_,_,F⟩;rw[aw] at K L P z;have ad:=A P;have aC:(D7 [] (Jv::Dd ([e.Ae,e.Ch,e.Ck,e.Co,e.Cp,e.Cr]++Ev (e.Aa.take k)))).length<=3+21*38:=by
   rw[Qg];have:=ai (l:=[e.Ae,e.Ch,e.Ck,e.Co,e.Cp,e.Cr]++Ev (e.Aa.take k)) (λn hn=>j n (by
    rcases QF.1 hn with h|h
    .grind
    refine mI _ ?_;have⟨g,o,hn⟩:=eT.1 h;exact eT.2 ⟨g,SE o,hn⟩)) (GK [] Jv)
   grind [GK,List.length_append,fX,List.length_take]
  have HN:=A (λ(v:V) (ao:DQ B b wr v) (av:DK B b (Gv 0 ([e.Ae,e.Ch,e.Ck,e.Co,e.Cp,e.Cr]++Ev (e.Aa.take (k+1)))) 0 (D7 [] (Jv::Dd ([e.Ae,e.Ch,e.Ck,e.Co,e.Cp,e.Cr]++Ev (e.Aa.take (k+1))))) v)=>(show kh B b e w (M G ((k:Int)+1)) v from⟨⟨k+1,D,AV,av⟩,c.trans ao⟩));have u:=A hw;have t:=A c;rw[DL] at K L;go_wp2_with(go_at_call 108;(refine(YH B b _ 3 _ 0 _ [x,y] _ _ ((u.alloc _).alloc _) (Dc.Xj wr (.cells #[M G x,M G y] 142) _ (To [x,y])) D Z ad (by show _+21*2<=_;omega) Bk ((C.keep t.low m).keep (((Ad _ _).alloc (AS _) _).alloc AV _) D) m).q ?_);rintro W4 ⟨aE,ap⟩)
  refine⟨HN _ (((DQ.alloc wr D _).trans (DQ.alloc _ Bk _)).trans ap) ?_,by grind [B8]⟩;rw[z.o,nt,<-No,a5v]
  grind [D7,Dd,qM,Qg,YL]
 have aq:e.Aa.take k=e.Aa:=Qy D;rw[aq] at hw;have u:=A hw;have t:=A c;go_wp2;go_end0;refine⟨F,?_,t⟩;unfold EU;rw[E.o,ag.o,HH.o];simp only[SK];exact u
end
section
open Kp
section
def nl(l:By):(tx l).toList=l:=by rw[Z7]
def rQ(x y u v:Int)(W:V):(binOp .neq 142 (AW #[M G x,M G y]) (AW #[M G u,M G v])).run AO W= .ok (AU (!(x==u&&y==v))) W:=by
 cases hx:(x==u)<;>cases hy:(y==v)<;>simp[go_sem,hx,hy]
attribute [local go_sem] Result.andThen nl GQ isAgg3 underlying4 isAgg4 underlying41 isAgg41
def P6(a b:Ed):Bool:=(a.sx==b.sx)&&(a.sy==b.sy)&&(a.ID==b.ID)&&(a.II==b.II)&&(a.DX==b.DX)&&(a.I9==b.I9)&&(a.IF==b.IF)
theorem qw(a b:Ed)(W:V):(binOp .eql 40 (.agg #[.int .i64 a.sx,.int .i64 a.sy,.int .i64 a.ID,.int .i64 a.II,.bool a.DX,.int .i64 a.I9,.int .i64 a.IF]) (.agg #[.int .i64 b.sx,.int .i64 b.sy,.int .i64 b.ID,.int .i64 b.II,.bool b.DX,.int .i64 b.I9,.int .i64 b.IF])).run AO W= .ok (.bool (P6 a b)) W:=by
 unfold P6
 cases h:(a.sx==b.sx)
 case' true=>cases h:(a.sy==b.sy)
 case' true=>cases h:(a.ID==b.ID)
 case' true=>cases h:(a.II==b.II)
 case' true=>cases h:(a.DX==b.DX)
 case' true=>cases h:(a.I9==b.I9)
 case' true=>cases h:(a.IF==b.IF)
 all_goals simp[go_sem, *]
def Pd(a b:Ed):Bool:=(a.EL==b.EL)&&(a.E9==b.E9)&&(a.E8==b.E8)&&(a.EE==b.EE)&&(a.EK==b.EK)
theorem sF(a b:Ed)(W:V):(binOp .eql 43 (.agg #[.int .i64 a.EL,.string (tx a.E9),.string (tx a.E8),.string (tx a.EE),.string (tx a.EK)]) (.agg #[.int .i64 b.EL,.string (tx b.E9),.string (tx b.E8),.string (tx b.EE),.string (tx b.EK)])).run AO W= .ok (.bool (Pd a b)) W:=by
 unfold Pd
 cases h:(a.EL==b.EL)
 case' true=>cases h:(a.E9==b.E9)
 case' true=>cases h:(a.E8==b.E8)
 case' true=>cases h:(a.EE==b.EE)
 case' true=>cases h:(a.EK==b.EK)
 all_goals simp[go_sem, *]
def Q7(a b:Ed):Bool:=(a.Be==b.Be)&&(a.Eg==b.Eg)&&(a.Ef==b.Ef)
theorem qs(a b:Ed)(W:V):(binOp .eql 45 (.agg #[.int .i64 a.Be,.int .i64 a.Eg,.int .i64 a.Ef]) (.agg #[.int .i64 b.Be,.int .i64 b.Eg,.int .i64 b.Ef])).run AO W= .ok (.bool (Q7 a b)) W:=by
 unfold Q7
 cases h:(a.Be==b.Be)
 case' true=>cases h:(a.Eg==b.Eg)
 case' true=>cases h:(a.Ef==b.Ef)
 all_goals simp[go_sem, *]
def UO(a b:Ed):Bool:=(a.FJ==b.FJ)&&(a.FI==b.FI)&&(a.FH==b.FH)
theorem qQ(a b:Ed)(W:V):(binOp .eql 50 (.agg #[.int .i64 a.FJ,.int .i64 a.FI,.string (tx a.FH)]) (.agg #[.int .i64 b.FJ,.int .i64 b.FI,.string (tx b.FH)])).run AO W= .ok (.bool (UO a b)) W:=by
 unfold UO
 cases h:(a.FJ==b.FJ)
 case' true=>cases h:(a.FI==b.FI)
 case' true=>cases h:(a.FH==b.FH)
 all_goals simp[go_sem, *]
def Ti(a b:Ed):Bool:=(a.I8==b.I8)&&(a.I7==b.I7)&&(a.Hz==b.Hz)&&(a.IG==b.IG)&&(a.IC==b.IC)
theorem sU(a b:Ed)(W:V):(binOp .eql 52 (.agg #[.int .i64 a.I8,.int .i64 a.I7,.int .i64 a.Hz,.int .i64 a.IG,.int .i64 a.IC]) (.agg #[.int .i64 b.I8,.int .i64 b.I7,.int .i64 b.Hz,.int .i64 b.IG,.int .i64 b.IC])).run AO W= .ok (.bool (Ti a b)) W:=by
 unfold Ti
 cases h:(a.I8==b.I8)
 case' true=>cases h:(a.I7==b.I7)
 case' true=>cases h:(a.Hz==b.Hz)
 case' true=>cases h:(a.IG==b.IG)
 case' true=>cases h:(a.IC==b.IC)
 all_goals simp[go_sem, *]
def UQ(a b:Ed):Bool:=(a.GW==b.GW)&&(a.GU==b.GU)&&(a.Gb==b.Gb)&&(a.GY==b.GY)
theorem qU(a b:Ed)(W:V):(binOp .eql 30 (.agg #[.int .i64 a.GW,.int .i64 a.GU,.int .i64 a.Gb,.int .i64 a.GY]) (.agg #[.int .i64 b.GW,.int .i64 b.GU,.int .i64 b.Gb,.int .i64 b.GY])).run AO W= .ok (.bool (UQ a b)) W:=by
 unfold UQ
 cases h:(a.GW==b.GW)
 case' true=>cases h:(a.GU==b.GU)
 case' true=>cases h:(a.Gb==b.Gb)
 case' true=>cases h:(a.GY==b.GY)
 all_goals simp[go_sem, *]
def Ja(a b:Ed):Bool:=
 (a.Ab==b.Ab)&&(a.Ae==b.Ae)&&P6 a b&&Pd a b&&Q7 a b&&(a.Ch==b.Ch)&&(a.Ck==b.Ck)&&(a.Co==b.Co)&&(a.Cp==b.Cp)&&(a.Cr==b.Cr)&&(a.Aa==b.Aa)&&UO a b&&Ti a b&&UQ a b&&(a.Av==b.Av)&&(a.Ct==b.Ct)
def jx(a b:Ed):Ja a b=AL↔a=b:=by
 unfold Ja P6 Pd Q7 UO Ti UQ;constructor
 .cases a;cases b
  grind
 grind
end
structure xT(w:V)(a b:List (Int×Int))(i:AN)(wr:V):Prop where
 ex:∃k:Nat,k<=ln a/\i=M G (k:Int)/\a.take k=b.take k
 low:At w.1.size w wr
def bn(w:V)(d P:Option An)(L N:Nat)(a b:List (Int×Int))(q:C8 w w.1.size d L a)(r:C8 w w.1.size P N b):
  AZ AO 175 #[AK d (ln a) L,AK P (ln b) N] w λe w'=>e=Ac (AU (a==b))/\At w.1.size w w':=by
 have la:=q.1;have lb:=r.1;have U:=q.2.1;have X:=r.2.1;unfold BM at U X;have S:=A q;have T:=A r;clear q r;by_cases m:ln a=ln b
 .have aa:((ln a:Int) !=(ln b:Int))=AM:=by rw[bne_eq_false_iff_eq,m]
  have E:=A m;clear m;go_enter func175,ntmps175;go_wp2;go_loopw [13] (λi wr=>xT w a b i wr) (λi _=>((ln a:Int)-B8 i).toNat)
  case atStart=>exact⟨⟨0,D,rfl,AV⟩,Ad _ _⟩
  obtain⟨⟨k,hk,rfl,j⟩,l⟩:=hrel;by_cases z:k<ln a
  .have hltb:k<ln b:=by rw[<-E.o];exact z
   have⟨_,_,B⟩:=S.below l;have⟨_,_,C⟩:=T.below l;obtain⟨ba,oa,rfl,_,s⟩:=B D;obtain⟨bb,ob,rfl,_,t⟩:=C D;have⟨H,I⟩:=s k z;have⟨J,K⟩:=t k hltb;rw[DL] at H I J K;obtain⟨x,y,o⟩:∃x y,a[k]=(x,y):=⟨_,_,F⟩;obtain⟨u,v,f⟩:∃u v,b[k]=(u,v):=⟨_,_,F⟩;rw[o] at H I;rw[f] at J K;have R:=λW=>rQ x y u v W
   cases c:(x==u&&y==v) with
   |true=>
    have g:=A (λn=>(show xT w a b (M G ((k:Int)+1)) (wr.drewN n) from⟨⟨k+1,D,AV,by
     rw[Sp z,Sp hltb,j,o,f];simp only[Ez,C9] at c;rw[c.1,c.2]⟩,below_drewN l n⟩))
    rw[c] at R;clear c j s t B C o f;go_wp2;go_quiet (fail)
    go_wp2;exact⟨g _,Bm⟩
   |false=>
    have g:=A (show(a==b)=AM by
     rw[CK];intro h;subst h;rw[o] at f;simp only[eG] at f;rw[f.1,f.2] at c;simp at c)
    rw[c] at R;clear c j s t B C o f;go_wp2;go_quiet (fail)
    go_wp2;go_ret;exact⟨by rw[g.o];rfl,below_drewN l _⟩
  have g:=A (show(a==b)=AL by
   rw[C9];have Y:a.take k=a:=Qy D;have Z:b.take k=b:=Qy (by have:=E.o;omega);rw[Y,Z] at j;exact j)
  have ab:AQ ((k:Int)<(ln a:Int))=AM:=Et;clear j;go_wp2;go_ret;exact⟨by rw[g.o];rfl,l⟩
 have aa:((ln a:Int) !=(ln b:Int))=AL:=by rw[Cd];omega
 have g:=A (show(a==b)=AM by rw[CK];intro h;exact m (by rw[h]));clear m;go_enter func175,ntmps175;go_wp2;go_ret;exact⟨by rw[g.o];rfl,Ad _ _⟩
end
section
open Kp
attribute [local go_sem] Eb Iy Jm I4 LW Hk Lw Lx Ly M0 M3 M4 M5 M6 M7 M8 Mf NU NV NW NY Mg Mh Mi Mj Ml Mm Mn Mo J9 M9 MA MB Mr Ms Mt MG MH
abbrev Lj(e:Ed)(d:Option An)(f:Nat):List AN:=[M G e.Ch,M G e.Ck,M G e.Co,M G e.Cp,M G e.Cr,AK d (ln e.Aa) f]
structure Zv(w:V)(a b:Ed)(d g:Option An)(e f:Nat)(h i:AN)(c:V):Prop where
 ea:Fw c w.1.size a (AK d (ln a.Aa) e)
 eb:Fw c (w.1.size+1) b (AK g (ln b.Aa) f)
 CV:∃p q,h=Ap (Q ⟨p,0,O⟩)/\i=Ap (Q ⟨q,0,O⟩)/\Dc c p 48 (Lj a d e)/\Dc c q 48 (Lj b g f)
 low:At w.1.size w c
def po(w:V)(a b c d:Obj):((((w.alloc a).alloc b).alloc c).alloc d).1[w.1.size]?=Q a:=by
 rw[TO _ _ (by first|(simp;omega)),Ge]
def qo(w:V)(a b c d:Obj):((((w.alloc a).alloc b).alloc c).alloc d).1[w.1.size+1]?=Q b:=by
 rw[TO _ _ (by first|(simp;done)),XO]
def qh(w:V)(a b c d:Obj):((((w.alloc a).alloc b).alloc c).alloc d).1[w.1.size+1+1]?=Q c:=by
 grind [heap_alloc_old,fy]
def qg(w:V)(a b c d:Obj):((((w.alloc a).alloc b).alloc c).alloc d).1[w.1.size+1+1+1]?=Q d:=by
 have:=eL (((w.alloc a).alloc b).alloc c) d;simpa using this
def vB(w:V)(a b c d:Obj):At w.1.size w ((((w.alloc a).alloc b).alloc c).alloc d).drew:=
 ((((((Ad _ _).alloc (AS _) _).alloc AV _).alloc Bk _).alloc Bk _)).drew
theorem dO(h:p:=by
  subst c;have qside:=λW=>qw a b W
  have gside:AO.eqGuardType AO.depth 40=AM:=U;have qopn:=λW=>sF a b W
  have gopn:AO.eqGuardType AO.depth 43=AM:=U;have qsize:=λW=>qs a b W
  have gsize:AO.eqGuardType AO.depth 45=AM:=U;have qload:=λW=>qQ a b W
  have gload:AO.eqGuardType AO.depth 50=AM:=U;have qalw:=λW=>sU a b W
  have galw:AO.eqGuardType AO.depth 52=AM:=U;have qtile:=λW=>qU a b W
  have gtile:AO.eqGuardType AO.depth 30=AM:=U;go_wp2_with(go_at_call 175;refine n.q λW2 hB2=>?_;have EA2:=A (f.below hB2 t);have EB2:=A (g.below hB2 u);have eca2:=λi=>EA2.cell i;have ecb2:=λi=>EB2.cell i)
  go_ret
  first|exact⟨rfl,j.trans (hB2.mono D)⟩|exact⟨rfl,j⟩):p:=h
set_option maxHeartbeats 80000000 in
theorem b2b(w:V)(a b:Ed)(d o:Option An)(l m:Nat)(x:C8 w w.1.size d l a.Aa)(y:C8 w w.1.size o m b.Aa)(s:((a.Ab==b.Ab)&&(a.Ae==b.Ae)&&(P6 a b))=AM):
  AZ AO 104 #[AW (Ah a (AK d (ln a.Aa) l)),AW (Ah b (AK o (ln b.Aa) m))] w λe w'=>e=Ac (AU (Ja a b))/\At w.1.size w w':=by
 have R:AO.follows .mixedOrders=AL:=U;have B:=A x;have C:=A y;have⟨r,c⟩:=AP (Ja a b);rw[c];have v:=A c;clear x y c;go_enter func104,ntmps104;go_upto_region 1 with fail
 go_cut [5,6] (λE H L=>Zv w a b d o l m E H L)
 case first =>
  go_region_o
  all_goals go_wp2_with fail
  all_goals go_meet
  .exact fV
  exact fU
 obtain⟨ea,eb,⟨p,q,rfl,rfl,ra,rb⟩,k⟩:=hcut;have f:=A ea;have g:=A eb;have N:=λi=>f.cell i
 have P:=λi=>g.cell i
 have S:=λi=>Dc.cell ra i
 have T:=λi=>Dc.cell rb i
 have t:=ea.lt;have u:=eb.lt;have z:=k.size;have n:=A (bn wc d o l m a.Aa b.Aa ((B.below k).more z) ((C.below k).more z));have j:=A k;clear ea eb ra rb k;have c:=v.o;clear v;unfold Ja at c;cases I:(a.Ab==b.Ab)<;>simp only[I,Ji,Hu] at c s
 case' true=>cases J:(a.Ae==b.Ae)<;>simp only[J,Ji,Hu] at c s
 case' true=>have K:(P6 a b)=AM:=s
 case' true=>simp only[K,Ji] at c
 all_goals exact dO
set_option maxHeartbeats 80000000 in
theorem b3M(w:V)(a b:Ed)(d o:Option An)(l m:Nat)(x:C8 w w.1.size d l a.Aa)(y:C8 w w.1.size o m b.Aa)(I:(a.Ab==b.Ab)=AL)(J:(a.Ae==b.Ae)=AL)(K:(P6 a b)=AL)(s:((Pd a b)&&(Q7 a b)&&(a.Ch==b.Ch)&&(a.Ck==b.Ck))=AM):
  AZ AO 104 #[AW (Ah a (AK d (ln a.Aa) l)),AW (Ah b (AK o (ln b.Aa) m))] w λe w'=>e=Ac (AU (Ja a b))/\At w.1.size w w':=by
 have Y:AO.follows .mixedOrders=AL:=U;have B:=A x;have C:=A y;have⟨r,c⟩:=AP (Ja a b);rw[c];have v:=A c;clear x y c;go_enter func104,ntmps104;go_upto_region 1 with fail
 go_cut [5,6] (λE H S=>Zv w a b d o l m E H S)
 case first =>
  go_region_o
  all_goals go_wp2_with fail
  all_goals go_meet
  .exact fV
  exact fU
 obtain⟨ea,eb,⟨p,q,rfl,rfl,ra,rb⟩,k⟩:=hcut;have f:=A ea;have g:=A eb;have T:=λi=>f.cell i
 have X:=λi=>g.cell i
 have Z:=λi=>Dc.cell ra i
 have aa:=λi=>Dc.cell rb i
 have t:=ea.lt;have u:=eb.lt;have z:=k.size;have n:=A (bn wc d o l m a.Aa b.Aa ((B.below k).more z) ((C.below k).more z));have j:=A k;clear ea eb ra rb k;have c:=v.o;clear v;unfold Ja at c;simp only[I,J,K,Hu] at c;cases L:(Pd a b)<;>simp only[L,Ji,Hu] at c s
 case' true=>cases N:(Q7 a b)<;>simp only[N,Ji,Hu] at c s
 case' true=>cases P:(a.Ch==b.Ch)<;>simp only[P,Ji,Hu] at c s
 case' true=>have R:(a.Ck==b.Ck)=AM:=s
 case' true=>simp only[R,Ji] at c
 all_goals exact dO
end
end Go.Proofs.YtalhfkdhdggdaaaGreatDoor
