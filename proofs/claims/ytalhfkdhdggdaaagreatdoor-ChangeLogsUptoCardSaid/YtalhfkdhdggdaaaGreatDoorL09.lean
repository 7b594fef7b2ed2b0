/- ChangeLogs of kingpostlaw58: part 9 of its proof (merged and shortened by program). -/
import Derived.Test.YtalhfkdhdggdaaaGreatDoorRows
import Derived.Test.YtalhfkdhdggdaaaGreatDoorL07
import Derived.Test.YtalhfkdhdggdaaaGreatDoorL08
set_option linter.unusedVariables false
set_option linter.unusedSimpArgs false
set_option linter.defProp false
set_option maxHeartbeats 8000000
set_option maxRecDepth 100000
open Go.RowKit Go.Shelf Go.Proofs.Tryz
open And renaming intro→Ci
open Array renaming replicate→E7
open Bool renaming false→AM,true→AL
open ByteArray renaming size→OY
open Decidable renaming decide→AQ
open Go renaming World→V,Value→AN,Calls→AZ,TypeId→Bb,Addr→An,maxLen→BM,undef→Ba,Ending→CI,wpList→CQ,MemPlace→Dw,KeepsOthers→GF,MapEntry→FG,DataW→D6,Operand→F0,Act→BV
open Go.Act renaming put→G7
open Go.Builtin renaming zeroCells→Is,append_→JN
open Go.DataW renaming trod→ET
open Go.Ending renaming returned→Ac
open Go.Fence renaming wide→Ha
open Go.IntKind renaming i64→G
open Go.Lib renaming hasPrefix→DH,cut→Bj,compareInt→Dv,itoa→CY,decDigits→ES,split→Da,byteCells→IV
open Go.MapKept renaming IsKey→MV
open Go.Proofs.Tryz renaming prog→AO,underlying54→Cc,underlying34→DV,underlying25→FD,underlying3→GQ
open Go.Region renaming wanted→Ir
open Go.RowKit renaming intOf→B8,Below→At
open Go.Value renaming agg→Ea,oneCell'→Ks,slice→FO,ownBlock→Hv,int→Gr,slice→AK,string→AT,bool→AU,pointer→Ap,int→M,agg→AW,tuple→BO
open Go.World renaming setCell→Di,cell?→Dx,setRow→F8,frozen?→Hb
open List renaming replicate→F7,range→G8,getD→Gs,length→ln
open Nat renaming gcd→DO,reduceAdd→Hw
open Option renaming none→O,some→Q,getD→FF
open Or renaming inl→Cf
open UInt8 renaming ofNat→GR
open Go.Proofs.YtalhfkdhdggdaaaGreatDoor
variable{C cs:Array AN}{d:Bool}{E x y idx:Int}{xs r X:List AN}{c n L k b m base g q i ci:Nat}{N R:Option An}{p:Prop}{T α:Type}{z v' x0 u:AN}{w W wr W1 W0 K Y W' w':V}{t e:Bb}{j J:BG}{a a':BU}
namespace Go.Proofs.YtalhfkdhdggdaaaGreatDoor
section
open Kp
attribute [local go_sem] Eb Hj Iz J3 Ka Kb Kc Mg Mi Ml Mm Mn J8 Jp Kd Ke JD JE JF Kf Kg Kh
def b3j(l:List Aw)(x:Aw)(f:Nat):∀lo hi,lo<=hi->NN l x f lo hi<=hi:=by
 induction f with
 |zero=>intro lo hi h;exact h
 |succ f a=>
  intro lo hi h;unfold NN;split
  .split
   .exact a _ _ D
   exact BJ (a _ _ D) D
  exact h
def uC(l:List Aw)(x:Aw):LD l x<=ln l:=b3j l x _ 0 _ (D8 _)
theorem JC.aP(h:JC w c j a)(hn:c≠n)(cs:Array AN):JC (w.setRow n cs) c j a:=(Hc _ _ hn).trans h
def Qw(l:List Aw)(x:Aw):List Aw:=if Ma l x then l.set (LD l x) x else DZ l (LD l x) x
abbrev Ex(e:Ed):Aw:=⟨e.I8,e.I7,e.Hz,e.IG,e.IC⟩
def a5Y(w:V)(c:Nat)(j:BG)(a:BU)(e:Ed)(g:AN)(t:JC w c j a){X:Nat->Prop}(n:Bc X w c j a)(J:ln j.BW<=1000000):
  AZ AO 143 #[Ap (Q ⟨c,0,O⟩),AW (Ah e g)] w λx w'=>x=Ac (M G 0)/\∃a',Dl X c w w' {j with BW:=Qw j.BW (Ex e)} a':=by
 have ai:=t.lt;have⟨W0,o⟩:=AP (w.alloc (.cells (Ah e g) 54));have P:EC W0 w.1.size (Ah e g):=TW;have s:Ext w W0:=TP;have hJ:=t.ext s;have E:=(tE W0 a.sa a.sc (Em j.BW) ((n.s.below (s.mono (FM ai))).more (BJ (FM ai) s.size)) (G9 (f:=D4) (λ_=>rfl) _) (Zi _) (by rw[BL];exact J));rw[BL] at E;have E:=A E;have N:=A (G9 (f:=D4) (λ_=>rfl) j.BW:DG 5 (Em j.BW));have KS:=A (λ(W:V) (R:Option An) (ag:Nat) (h:BB 5 W W.1.size R ag (Em j.BW))=>a9a W R ag j.BW (Ex e) h J);have hI:=uC j.BW (Ex e);have H:Ma j.BW (Ex e)=AL->LD j.BW (Ex e)<ln j.BW:=λh=>by
  unfold Ma at h;rw[Ez] at h;exact Jh h.1
 have I:Qw j.BW (Ex e)=if Ma j.BW (Ex e) then j.BW.set (LD j.BW (Ex e)) (Ex e) else DZ j.BW (LD j.BW (Ex e)) (Ex e):=rfl;have⟨m,hm⟩:=AP (LD j.BW (Ex e));have⟨d,hd⟩:=AP (Ma j.BW (Ex e));rw[hm] at hI H I;rw[hd] at H I;simp only[hm,hd] at KS;rw[I];have HJ:=A hJ;have y:=A s;have S:=A P;have HW:=A o;have aC:=hJ.cell 14;have z:=λi=>P.cell i
 have r:=A (show(Em j.BW).length=ln j.BW by exact BL _);have an:=A J;cases d with
 |true=>
  have ax:=H F;have ao:=A ax;have aB:(m:Int)<(ln j.BW:Int):=D;rw[Aj rfl];have HF:=A (λ(W1:V) (v:AN) (hx:Ext w W1) (b:W1.ownsRow w.1.size 52 5 v (Em j.BW).length ((Em j.BW).set m (D4 (Ex e))).flatten)=>XQ (l:=j.BW.set m (Ex e)) t n hx (by
   have he:(Em j.BW).set m (D4 (Ex e))=Em (j.BW.set m (Ex e)):=by simp[eK]
   rw[he,r.o] at b;rw[BL,Nl];exact b))
  clear t n hJ P s hm hd I H J HW;subst o;go_enter func143,ntmps143;go_wp2_with(first
   |(refine OD rfl 52 _ _ rfl _ _ _ rfl rfl 52 _ ad U HS U ?_;have ae:=A ((HJ.ext (C)).aP ap (putAt cur (m*5) #[M G e.I8,M G e.I7,M G e.Hz,M G e.IG,M G e.IC]));have L:=ae.cell 14;have f3:=ae.frozen 14)
   |(go_at_call 213;have ac:=K;clear K;refine(KS _ _ _ ac).q λY k=>?_;have z2:=λi=>(S.ext (B.tr k)).cell i;have ad:=A ((k.block T (Ee.1 HH).1).trans HH);have C:=A (B.tr k);clear k)
   |(go_at_call 212;refine E.mono ?_;rintro e W1 ⟨v,rfl,b,q⟩;have az:=F1 b r N;obtain⟨T,cp,cur,rfl,n,hh,q1,q2,L,q4⟩:=Pr b D;have HH:=A hh;have HQ:=A L;have am:=A q4;have B:=A q;have HB:=A n;have HS:=A (show m*5+5<=cur.size by rw[L];omega);obtain⟨A',aw,hv,K⟩:=az;obtain⟨rfl,rfl⟩:Q ⟨T,0,O⟩=A'/\cp=aw:=(by injection hv with h1 h2 h3;exact⟨h1,h3⟩);have z1:=λi=>(S.ext q).cell i;have ap:=A (show c≠T by have:=y.size;omega);have af:=A (show w.1.size<=T by have:=y.size;omega);have au:=A q1;have av:=A q2;clear b hh q1 q2 L q4 q n hv))
  go_ret;exact⟨F,HF _ _ (CL (y.tr C) af _) (by rw[r.o];exact Xy af ad au av HQ am r N F ao)⟩
 |false=>
  rw[Af Z];have aj:DZ (Em j.BW) m (D4 (Ex e))=Em (DZ j.BW m (Ex e)):=by unfold DZ;simp[List.map_take,List.map_drop]
  have HF:=A (λ(W1:V) (v:AN) (hx:Ext w W1) (b:W1.ownsRow w.1.size 52 5 v (ln j.BW+1) (DZ (Em j.BW) m (D4 (Ex e))).flatten)=>XQ (l:=DZ j.BW m (Ex e)) t n hx (by
   rw[aj] at b;rw[BL,fu _ _ _ hI];exact b))
  have HI:=A hI;clear t n hJ P s hm hd I H J HW hI aj;have KI:=A (λ(W:V) (v:AN) (vb:Nat) (hx:Ext W0 W) (b:W.ownsRow W0.1.size 52 5 v (ln j.BW) (Em j.BW).flatten) (hr:Az W vb 52 (D4 (Ex e))) (ay:v.ownBlock≠Q vb)=>
   a8J W W0.1.size (ln j.BW) m vb 1 v (Em j.BW) (D4 (Ex e)) b r N (Zi _) rfl (by intro u hu;simp at hu;rcases hu with rfl|rfl|rfl|rfl|rfl<;>rfl) hr ay HI an hx.size)
  subst o;go_enter func143,ntmps143;go_wp2_with(first
   |(go_at_call 215;have ak:=al;clear al;refine(KI _ _ _ (C.tr ((Ad _ _).alloc (AS _) _)) (EV ak ((Ad _ _).alloc (AS _) _)) (Az.new _ _ _) (λh=>by have:=(DS ak _ h).2;omega)).mono ?_;rintro e W3 ⟨v3,rfl,ab,ah⟩;have⟨A3,n3,c3,aA⟩:=Fx.of ab;have aa:=A (((C.tr ((Ad _ _).alloc (AS _) _)).trans ah));have ar:=A ab;have L:=(HJ.ext aa).cell 14;have f3:=(HJ.ext aa).frozen 14;subst aA;clear ab ah)
   |(go_at_call 213;have ac:=K;clear K;refine(KS _ _ _ ac).q λY k=>?_;have z2:=λi=>(S.ext (B.tr k)).cell i;have al:=A (EV aq k);have C:=A (B.tr k);clear k)
   |(go_at_call 212;refine E.mono ?_;rintro e W1 ⟨v,rfl,b,q⟩;have⟨A1,c1,hv,K⟩:=F1 b r N;have B:=A q;have aq:=A b;subst hv;have z1:=λi=>(S.ext q).cell i;clear b q))
  go_ret;exact⟨F,HF _ _ (y.tr aa) (Lv ar y.size)⟩
end
section
open Kp
def QS(j:BG)(e:Ed):Int:=
 if e.Av=4 then Ec (ln j.BR) e.Ae else if e.Av=5 then Ec (ln j.Bi) e.Ae else if e.Av=6 then Ec (ln j.BT) e.Ae
 else if e.Av=7 then Ec (ln j.CV) e.Ae else if e.Av=10 then Ec (ln j.Bt) e.Ae else if e.Av=11 then Ec (ln j.BW) e.Ae else 8
def SS(j:BG)(e:Ed):BG:=
 if e.Av=4 then{j with BR:=j.BR.eraseIdx e.Ae.toNat} else if e.Av=5 then{j with Bi:=j.Bi.eraseIdx e.Ae.toNat} else if e.Av=6 then{j with BT:=j.BT.eraseIdx e.Ae.toNat}
 else if e.Av=7 then{j with CV:=j.CV.eraseIdx e.Ae.toNat} else if e.Av=10 then{j with Bt:=j.Bt.eraseIdx e.Ae.toNat} else if e.Av=11 then{j with BW:=j.BW.eraseIdx e.Ae.toNat} else j
def FQ(j:BG)(e:Ed):Int:=
 if e.Ab=2 then Le j.BK e.Ae else if e.Ab=4 then(if j.BR.contains e.Av then 7 else 0) else if e.Ab=5 then DU (ln j.Bi) e.Ae
 else if e.Ab=7 then DU (ln j.CV) e.Ae else if e.Ab=10 then DU (ln j.Bt) e.Ae else if e.Ab=12 then QS j e else 0
def Cz(j:BG)(e:Ed):BG:=
 if e.Ab=1 then{j with name:=e.Ct} else if e.Ab=2 then{j with BK:=Ft j.BK e.Ae (EH e)} else if e.Ab=3 then{j with Ki:=e.Ae,CF:=e.Av}
 else if e.Ab=4 then{j with BR:=DZ j.BR (j.BR.countP (· <e.Av)) e.Av} else if e.Ab=5 then{j with Bi:=CC j.Bi e.Ae ⟨e.EL,e.E9,e.E8,e.EE,e.EK⟩}
 else if e.Ab=6 then{j with BT:=CC j.BT (NG j.BT e.Be) ⟨e.Be,e.Eg,e.Ef⟩} else if e.Ab=7 then{j with CV:=CC j.CV e.Ae ⟨e.Ch,e.Ck,e.Co,e.Cp,e.Cr,e.Aa⟩}
 else if e.Ab=8 then{j with Nj:=e.Av} else if e.Ab=9 then{j with Fv:=⟨e.GW,e.GU,e.Gb,e.GY⟩} else if e.Ab=10 then{j with Bt:=CC j.Bt e.Ae ⟨e.FJ,e.FI,e.FH⟩}
 else if e.Ab=11 then{j with BW:=Qw j.BW (Ex e)} else if e.Ab=12 then SS j e else j
structure RQ(j:BG):Prop where
 r:ln j.BK<=1000
 rk:∀k,(j.BK.getD k []).length<=1000
 o:ln j.Bi<=1000000
 z:ln j.BT<=1000000
 b:ln j.CV<=1000000
 l:ln j.Bt<=1000000
 s:ln j.BW<=1000000
 u:ln j.BR<=1000000
theorem Yh{B:Nat}{l:List (Int×Int)}(h:C8 w B N L l):BB 2 w B N L (J6 l):=by
 obtain⟨h1,h2,a⟩:=h;refine⟨Al,h2,λhn=> ?_⟩
 grind
def b1x(w:V)(c:Nat)(j:BG)(a:BU)(e:Ed)(g:AN)(b:JC w c j a){X:Nat->Prop}(d:Bc X w c j a)(f:RQ j):
  AZ AO 144 #[Ap (Q ⟨c,0,O⟩),AW (Ah e g)] w λx w'=>x=Ac (M G (QS j e))/\CE c w w'/\(QS j e=0->∃a',Dl X c w w' (SS j e) a'):=by
 unfold QS SS;by_cases k:e.Av=4
 .simp[k];exact a7O w c j a e g b d f.u k
 by_cases l:e.Av=5
 .simp[l];exact a7q w c j a e g b d f.o l
 by_cases m:e.Av=6
 .simp[m];exact a8T w c j a e g b d f.z m
 by_cases n:e.Av=7
 .simp[n];exact a8N w c j a e g b d f.b n
 by_cases h:e.Av=10
 .simp[h];exact a7X w c j a e g b d f.l h
 by_cases i:e.Av=11
 .simp[i];exact a7Z w c j a e g b d f.s i
 refine(a86 w c e g b.lt k l m n h i).mono ?_
 grind
def b03(w:V)(c:Nat)(j:BG)(a:BU)(e:Ed)(N:Option An)(L:Nat)(hk:1<=e.Ab/\e.Ab<=12)(i:JC w c j a){X:Nat->Prop}(g:Bc X w c j a)(k:RQ j)(o:Fi j.BR=0)(m:BB 2 w c N L (J6 e.Aa))(n:∀W,Cu X c w W->BB 2 W W.1.size N L (J6 e.Aa))(hn:e.Ae<=9223372036854775807):
  ∃f,UW[e.Ab.toNat]?=Q (.func (.func f) #[] #[])/\(∀args w,(callFunc f args).run AO w= .ok (.enter f args) w)/\
   AZ AO f #[Ap (Q ⟨c,0,O⟩),AW (Ah e (AK N (ln e.Aa) L))] w λx w'=>x=Ac (M G (FQ j e))/\CE c w w'/\(FQ j e=0->∃a',Dl X c w w' (Cz j e) a'):=by
 obtain⟨k1,k2⟩:=hk;have same:∀{x:CI} {w':V} {j':BG},(x=Ac (M G 0)/\Dl X c w w' j' a)->x=Ac _/\CE c w w'/\((0:Int)=0->∃a',Dl X c w w' j' a'):=λh=>⟨h.1,h.2.1,λ_=>⟨a,h.2⟩⟩
 have l:∀{x:CI} {w':V} {j':BG},(x=Ac (M G 0)/\∃a',Dl X c w w' j' a')->x=Ac _/\CE c w w'/\((0:Int)=0->∃a',Dl X c w w' j' a'):=λh=>⟨h.1,h.2.elim λ_ h=>h.1,λ_=>h.2⟩
 rcases(show e.Ab=1\/e.Ab=2\/e.Ab=3\/e.Ab=4\/e.Ab=5\/e.Ab=6\/e.Ab=7\/e.Ab=8\/e.Ab=9\/e.Ab=10\/e.Ab=11\/e.Ab=12 by omega) with h|h|h|h|h|h|h|h|h|h|h|h
 .have b:FQ j e=0:=Pb;have d:Cz j e={j with name:=e.Ct}:=RE;rw[b,d,h];exact⟨_,F,FZ func130 U F,(b0O w c j a e _ i g).mono λ_ _ h=>same h⟩
 .have b:FQ j e=Le j.BK e.Ae:=Pb;have d:Cz j e={j with BK:=Ft j.BK e.Ae (EH e)}:=RE;rw[b,d,h];exact⟨_,F,FZ func131 U F,a5j w c j a e _ i g k.r k.rk hn⟩
 .have b:FQ j e=0:=Pb;have d:Cz j e={j with Ki:=e.Ae,CF:=e.Av}:=RE;rw[b,d,h];exact⟨_,F,FZ func132 U F,(b0w w c j a e _ i g).mono λ_ _ h=>same h⟩
 .have b:FQ j e=if j.BR.contains e.Av then 7 else 0:=Pb;have d:Cz j e={j with BR:=DZ j.BR (j.BR.countP (· <e.Av)) e.Av}:=RE;rw[h];refine⟨_,F,FZ func133 U F,(a2O w c j a e _ i g o).mono ?_⟩
  grind
 .have b:FQ j e=DU (ln j.Bi) e.Ae:=Pb;have d:Cz j e={j with Bi:=CC j.Bi e.Ae ⟨e.EL,e.E9,e.E8,e.EE,e.EK⟩}:=RE;rw[b,d,h];exact⟨_,F,FZ func134 U F,b0J w c j a e _ i g k.o⟩
 .have b:FQ j e=0:=Pb;have d:Cz j e={j with BT:=CC j.BT (NG j.BT e.Be) ⟨e.Be,e.Eg,e.Ef⟩}:=RE;rw[b,d,h];exact⟨_,F,FZ func136 U F,(a5z w c j a e _ i g k.z).mono λ_ _ h=>l h⟩
 .have b:FQ j e=DU (ln j.CV) e.Ae:=Pb;have d:Cz j e={j with CV:=CC j.CV e.Ae ⟨e.Ch,e.Ck,e.Co,e.Cp,e.Cr,e.Aa⟩}:=RE;rw[b,d,h];exact⟨_,F,FZ func137 U F,b1I w c j a e N L i g k.b m n⟩
 .have b:FQ j e=0:=Pb;have d:Cz j e={j with Nj:=e.Av}:=RE;rw[b,d,h];exact⟨_,F,FZ func139 U F,(b2B w c j a e _ i g).mono λ_ _ h=>same h⟩
 .have b:FQ j e=0:=Pb;have d:Cz j e={j with Fv:=⟨e.GW,e.GU,e.Gb,e.GY⟩}:=RE;rw[b,d,h];exact⟨_,F,FZ func140 U F,(b1e w c j a e _ i g).mono λ_ _ h=>same h⟩
 .have b:FQ j e=DU (ln j.Bt) e.Ae:=Pb;have d:Cz j e={j with Bt:=CC j.Bt e.Ae ⟨e.FJ,e.FI,e.FH⟩}:=RE;rw[b,d,h];exact⟨_,F,FZ func141 U F,b0g w c j a e _ i g k.l⟩
 .have b:FQ j e=0:=Pb;have d:Cz j e={j with BW:=Qw j.BW (Ex e)}:=Ns;rw[b,d,h];exact⟨_,F,FZ func143 U F,(a5Y w c j a e _ i g k.s).mono λ_ _ h=>l h⟩
 have b:FQ j e=QS j e:=Pb;have d:Cz j e=SS j e:=Ns;rw[b,d,h];exact⟨_,F,FZ func144 U F,b1x w c j a e _ i g k⟩
def MS{α:Type}(l:List α)(c:Nat)(x:α)(k:Nat):List α:=if c<k then DZ (l.take k) c x else l.take k
theorem nf(l:List α)(c:Nat)(x d:α)(hk:k<ln l):
  MS l c x (k+1)=MS l c x k++(if c=k then [x] else [])++[l.getD k d]:=by
 have a:l.take (k+1)=l.take k++[l.getD k d]:=by
  grind [List.take_add_one]
 unfold MS;rcases eR c k with h|h|h
 .grind [DZ]
 .grind [DZ]
 grind
theorem kW(l:List α)(c:Nat)(x:α)(a:c<=ln l):MS l c x (ln l)++(if c<ln l then [] else [x])=DZ l c x:=by
 unfold MS;by_cases h:c<ln l
 .grind
 grind [DZ]
theorem fl(l:List α)(c:Nat)(x:α)(k:Nat):(MS l c x k).length<=ln l+1:=by
 grind [MS,DZ]
theorem qJ(l:List α)(m:Nat)(x d:α)(hk:k<ln l):(l.set m x).take (k+1)=(l.set m x).take k++[if m=k then x else l.getD k d]:=by
 rw[yC]
 grind
theorem dF{l:List α}{d:α}(h:i<ln l):l.getD i d=l[i]:=Al
theorem b2l{l:List Int}(h:Fi l=0)(hi:i<k)(hk:k<ln l):l.getD i 0<l.getD k 0:=by
 have a:∀k,k+1<ln l->l.getD k 0<l.getD (k+1) 0:=by
  intro k hk;unfold Fi at h;split at h
  .omega
  have:=U1 h _ hk
  grind
 induction k<;>grind
theorem a9H{l:List Int}(h:∀i k,i<k->k<ln l->l.getD i 0<l.getD k 0)(n:Int):∀k,k<ln l->(k<l.countP (· <n)↔l.getD k 0<n):=by
 induction l with
 |nil=>grind
 |cons a l d=>
  intro k hk;have c:∀i k,i<k->k<ln l->l.getD i 0<l.getD k 0:=λi k a b=>h (i+1) (k+1) D Al
  rw[List.countP_cons];cases k<;>grind
theorem a5d{l:List Int}(h:Fi l=0)(n:Int)(hk:k<ln l):k<l.countP (· <n)↔l.getD k 0<n:=a9H (λ_ _ a b=>b2l h a b) n k hk
theorem b2j{l:List Sz}(h:JZ l=0)(z:Int)(hk:k<ln l):NG l z=(k:Int)↔(l.getD k Ca).Ab=z:=by
 have hu:∀i k,i<k->k<ln l->(l.getD i Ca).Ab≠(l.getD k Ca).Ab:=by
  intro i k hi hk;have:=U1 h k hk;unfold Lb at this;simp at this;split at this
  .grind
  split at this
  .grind
  split at this
  .grind
  rename_i b;intro d;exact b (J5 hi Al)
 unfold NG;constructor
 .intro hI;split at hI
  .omega
  by_cases hx:∃i,i<ln l/\(l.getD i Ca).Ab=z
  .obtain⟨i,hi,c⟩:=hx;have a:∀q,q<i->((l.getD q Ca).Ab==z)=AM:=Al;have:=gR hi a Al
   grind
  grind [kK]
 intro c;have a:∀q,q<k->((l.getD q Ca).Ab==z)=AM:=Al;have:=gR hk a Al
 grind
def Ym{a b:Aw}:Gm a b<0↔a.BX<b.BX\/a.BX=b.BX/\(a.C4<b.C4\/a.C4=b.C4/\(a.CF<b.CF\/a.CF=b.CF/\a.load<b.load)):=by
 unfold Gm JR Dv
 grind
def b1z{a b:Aw}:MP a b<0↔a.BX<b.BX\/a.BX=b.BX/\(a.C4<b.C4\/a.C4=b.C4/\(a.CF<b.CF\/a.CF=b.CF/\a.load<b.load)):=by
 unfold MP JR
 grind
theorem gM{l:List Aw}(h:Ip l=0)(hi:i<k)(hk:k<ln l):Gm (l.getD i Dm) (l.getD k Dm)<0:=by
 have b:∀k,k+1<ln l->Gm (l.getD k Dm) (l.getD (k+1) Dm)<0:=by
  intro k hk;unfold Ip at h;split at h
  .omega
  have:=U1 h _ hk;unfold Lf at this;split at this
  .omega
  split at this
  .omega
  rw[Ym,<-b1z]
  grind
 induction k with
 |zero=>omega
 |succ k c=>
  have a:=b k hk;rcases Ht i k with h1|h1
  .have h2:=c h1 D;rw[Ym] at a h2⊢;omega
  grind
def jn{a b c:Aw}(h:Gm a b<0)(h2:Gm b c<0\/Gm b c=0):Gm a c<0:=by
 have d:¬Gm c b<0:=by
  rcases h2 with h2|h2
  .rw[Ym] at h2⊢;omega
  rw[Ym];unfold Gm JR Dv at h2
  grind
 rw[Ym] at h d⊢;omega
def b2W{l:List Aw}(h:Ip l=0)(x:Aw)(f:Nat):∀lo hi,lo<=hi->hi<=ln l->hi-lo<=f->(∀i,i<lo->Gm (l.getD i Dm) x<0)->(∀i,hi<=i->i<ln l->¬Gm (l.getD i Dm) x<0)->
  ∀k,k<ln l->(k<NN l x f lo hi↔Gm (l.getD k Dm) x<0):=by
 induction f with
 |zero=>
  intro lo hi h1 h2 g c d k hk;obtain rfl:lo=hi:=D
  grind [sq]
 |succ f e=>
  intro lo hi h1 h2 g c d k hk;unfold NN;split
  .split
   .rename_i j b;refine e _ _ D h2 D (λi m=> ?_) d k hk;rcases Ht i _ with a|a
    .exact jn (gM h a D) (.inl b)
    obtain rfl:i=(lo+hi)/2:=D;exact b
   rename_i j b;refine e _ _ D D D c (λi m n q=> ?_) k hk;rcases Ht _ i with a|a
   .exact b (jn (gM h a n) (.inl q))
   obtain rfl:i=(lo+hi)/2:=D
   grind
  obtain rfl:lo=hi:=D;exact⟨c k,λq=>Nat.lt_of_not_le λr=>d k r hk q⟩
theorem iE{l:List Aw}(h:Ip l=0)(x:Aw)(hk:k<ln l):k<LD l x↔Gm (l.getD k Dm) x<0:=
 b2W h x _ 0 _ (D8 _) (AS _) D (λi hi=>D) (λi a b=>D) k hk
theorem b2p{l:List Aw}(h:Ip l=0)(x:Aw)(hk:k<ln l):Gm (l.getD k Dm) x=0↔LD l x=k/\Ma l x=AL:=by
 unfold Ma;constructor
 .intro h0;have h1:¬k<LD l x:=by grind [iE]
  have h2:LD l x=k:=by
   rcases Ht _ k with h2|h2
   .have:=λq=>Nat.lt_irrefl _ ((iE h x D).2 q)
    exact absurd (jn (gM h h2 hk) (.inr h0)) this
   omega
  grind
 grind
def nI(rs:List (List Sd)):Nat->Nat
 |0=>0
 |k+1=>nI rs k+(rs.getD k []).length
def uA{rs:List (List Sd)}{n:Int}(f:0<=n)(hn:n<=9223372036854775807)(c:∀k,(rs.getD k []).length<=1000):
  ∀k,(Gy rs n k).2=AQ (n<(nI rs k:Int))/\((Gy rs n k).2=AM->(Gy rs n k).1=n-nI rs k):=by
 intro k
 induction k with
 |zero=>exact⟨by rw[show AQ _=AM from Bw (by show¬n<((0));omega)];rfl,λ_=>(Int.sub_zero n).symm⟩
 |succ k d=>
  obtain⟨a,e⟩:=d;have hk:=c k;have⟨m,hm⟩:=AP ((rs.getD k []).length);have g:nI rs (k+1)=nI rs k+m:=by rw[nI,hm]
  have i:Gy rs n (k+1)=(G.wrap ((Gy rs n k).1-(m)),(Gy rs n k).2||(!(Gy rs n k).2&&AQ ((Gy rs n k).1<(m)))):=by rw[Gy,hm]
  cases b:(Gy rs n k).2 with
  |true=>
   grind
  |false=>
   rw[b] at a;have h2:=Ij a.symm;have hw:G.wrap _=n-nI rs k-(m):=DF _ D
   grind
def a5P{rs:List (List Sd)}{n:Int}(a:0<=n)(hn:n<=9223372036854775807)(b:∀k,(rs.getD k []).length<=1000)(s:Sd)(k:Nat):
  LZ rs n s k=if(nI rs k:Int)<=n/\n<(nI rs k:Int)+(rs.getD k []).length then(rs.getD k []).set (n-nI rs k).toNat s else rs.getD k []:=by
 have⟨c,d⟩:=uA a hn b k;unfold LZ
 grind
def a8l{rs:List (List Sd)}{n:Int}(hn:n<=9223372036854775807)(a:∀k,(rs.getD k []).length<=1000):Le rs n=if 0<=n/\n<(nI rs (ln rs):Int) then 0 else 6:=by
 unfold Le;by_cases b:n<0
 .grind
 rw[(uA D hn a _).1]
 grind
def Il(a:ByteArray):Nat:=if h:0<a.size then(if((a[0]'h).toNat:Int)==45 then a.size-1 else a.size) else 0
def UM(l:By):Il (tx l)=(Ag l).length:=by
 unfold Il;cases l with
 |nil=>rfl
 |cons b l=>
  rw[dif_pos (by rw[DJ];simp),Pz,Pu];simp only[DJ];show(if((b.toNat:Int)==45)=AL then _ else _)=(if(Q b==Q 45)=AL then _ else _:By).length;by_cases h:b=45
  .subst h;rfl
  have h1:((b.toNat:Int)==45)=AM:=by
   rw[CK];intro e;exact h (by apply QH.1;show b.toNat=45;omega)
  have h2:(Q b==Q (45:UInt8))=AM:=Oa;rw[h1,h2];rfl
def XR(a:By):pN (Cq (tx a))=tx (Bj a [47]).1:=by
 have⟨co,c2,d⟩:=dW a;rw[VY];unfold pN;dsimp only;rw[<-co,Pu,<-d];cases h:(Bj a [47]).1 with
 |nil=>rfl
 |cons b l=>
  rw[UH];by_cases c:b=45
  .subst c;rfl
  have h2:(Q b==Q (45:UInt8))=AM:=by simpa using c
  simp only[QG,h2]
  rfl
def a6N{l:List Ld}(h1:ln l<=64)(h2:∀j,j<ln l->Nc l j=0):J7 l=0:=by
 unfold J7;rw[Af D];exact KH h2
structure Ff(z:ByteArray):Prop where
 ok:IP z
 n:Il (pN (Cq z))<=12
 d:Il (pD (Cq z))<=12
def xH{t:ByteArray}{v:Int}(h:Fm t v)(h1:Il t<=12):v.natAbs<1000000000000:=by
 obtain⟨a,rfl,f,_,rfl⟩:=h;rw[UM] at h1;rw[dJ];have h2:=UA (Pp f);have b:(10:Nat)^(Ag a).length<=10^12:=JK Z h1;omega
def um{a b:ByteArray}(c:Ff a)(d:Ff b):(LS a*(LU b:Nat)).natAbs<10^60:=by
 have h1:=xH (Yd c.ok).1 c.n;have h2:=xH (Yd d.ok).2 d.d;rw[mN];have e:(LS a).natAbs*((LU b:Nat):Int).natAbs<=1000000000000*1000000000000:=OZ D D;exact yH e GG
def wA(z:ByteArray)(w:V)(g:z.size<=1000001)(d:0<z.size):AZ AO 303 #[AT z] w λx w'=>x=Ac (M G (Il z:Nat))/\w'=w:=by
 have⟨e,f⟩:=AP (((z[0]'d).toNat:Int)==45);have a:=A (show Il z=if e then z.size-1 else z.size by unfold Il;rw[dif_pos d,f]);have w1:G.wrap ((z.size:Int)-1)=(z.size:Int)-1:=DF _ D;have c:(z.size:Int)-1=((z.size-1:Nat):Int):=D;have b:=A c;clear c;cases e
 .go_enter func303,ntmps303;go_wp2;go_ret;exact⟨by rw[a.o];rfl,rfl⟩
 go_enter func303,ntmps303;go_wp2;go_ret;exact⟨by first|(rw[a.o,Aj rfl,<-b.o];rfl)|(rw[a.o,Aj trivial,<-b.o];rfl),rfl⟩
def vS(a b:ByteArray)(w:V)(f:a.size<=100000)(g:b.size<=100000)(sa:Ff a)(sb:Ff b)(h:CA w):AZ AO 272 #[AT a,AT b] w λe w'=>e=Ac (M G (JI a b))/\Ext w w':=by
 have c:=A (a1L a b w f g sa.ok sb.ok (um sa sb) (um sb sa) h);clear sa sb;go_enter func272,ntmps272;go_wp2_with(go_at_call 304;refine c.q λW1 d=>?_)
 go_ret;exact⟨F,d⟩
structure b5C(a b c d:ByteArray):Prop where
 sa:Ff a
 sb:Ff b
 sc:Ff c
 sd:Ff d
 ab:JI a b<0
 cd:JI c d<0
def Tp(o:Er):Prop:=b5C (tx o.left) (tx o.right) (tx o.low) (tx o.Eo)
def Tp.sh{o:Er}(h:Tp o):Ff (tx o.left)/\Ff (tx o.right)/\Ff (tx o.low)/\Ff (tx o.Eo):=⟨h.sa,h.sb,h.sc,h.sd⟩
def RU(a b:Er):Bool:=a.Ei==b.Ei&&AQ (JI (tx a.left) (tx b.right)<0)&&AQ (JI (tx b.left) (tx a.right)<0)&&AQ (JI (tx a.low) (tx b.Eo)<0)&&AQ (JI (tx b.low) (tx a.Eo)<0)
def a1Z(w:V)(f g:Er)(h:Rv f)(k:Rv g)(g1:Ff (tx f.left)/\Ff (tx f.right)/\Ff (tx f.low)/\Ff (tx f.Eo))(g2:Ff (tx g.left)/\Ff (tx g.right)/\Ff (tx g.low)/\Ff (tx g.Eo))(ht:CA w):AZ AO 229 #[AW #[M G f.Ei,AT (tx f.left),AT (tx f.right),AT (tx f.low),AT (tx f.Eo)],AW #[M G g.Ei,AT (tx g.left),AT (tx g.right),AT (tx g.low),AT (tx g.Eo)]] w λe w'=>e=Ac (AU (RU f g))/\Ext w w':=by
 obtain⟨h1,h2,h3,h4⟩:=h;obtain⟨k1,k2,k3,k4⟩:=k;obtain⟨s,a,b,c,d⟩:=f;obtain⟨n,a',j,l,m⟩:=g;unfold RU;dsimp only at h1 h2 h3 h4 k1 k2 k3 k4 g1 g2⊢;generalize tx a=a at *;generalize tx b=b at *;generalize tx c=c at *;generalize tx d=d at *;generalize tx a'=a' at *;generalize tx j=j at *;generalize tx l=l at *;generalize tx m=m at *;have o:=GB w (.cells #[M G s,AT a,AT b,AT c,AT d] 43) (.cells #[M G n,AT a',AT j,AT l,AT m] 43);have E:=(Az.new w 43 [M G s,AT a,AT b,AT c,AT d]).ext ((Ad _ _).alloc (AS _) (.cells #[M G n,AT a',AT j,AT l,AT m] 43));have v:=Az.new (w.alloc (.cells #[M G s,AT a,AT b,AT c,AT d] 43)) 43 [M G n,AT a',AT j,AT l,AT m];rw[D5] at v;have⟨U,z⟩:=AP ((w.alloc (.cells #[M G s,AT a,AT b,AT c,AT d] 43)).alloc (.cells #[M G n,AT a',AT j,AT l,AT m] 43));obtain⟨N,gb,L,gd⟩:=g1;obtain⟨ha,hb,hc,hd⟩:=g2;have q:=A (λx y W (hx:x.size<=604) (hy:y.size<=604) (sx:Ff x) (sy:Ff y) (h:Ext w W)=>vS x y W (BJ hx Z) (BJ hy Z) sx sy (ht.below h (AS _)));have K1:=A (λW h=>q a j W h1 k2 N hb h);have K2:=A (λW h=>q a' b W k1 h2 ha gb h);have K3:=A (λW h=>q c m W h3 k4 L hd h);have K4:=A (λW h=>q l d W k3 h4 hc gd h);clear q N gb L gd ha hb hc hd;have⟨r1,e1⟩:=AP (JI a j);have⟨r2,e2⟩:=AP (JI a' b);have⟨B,e3⟩:=AP (JI c m);have⟨r4,e4⟩:=AP (JI l d);rw[e1] at K1⊢;rw[e2] at K2⊢;rw[e3] at K3⊢;rw[e4] at K4⊢;clear e1 e2 e3 e4;rw[show((w.alloc (.cells #[M G s,AT a,AT b,AT c,AT d] 43)).alloc (.cells [Gr .i64 n,AT a',AT j,AT l,AT m].toArray 43))=U from z] at v;rw[z] at o E;have o:=A o;have X:=A z;have C:=A (λW (h:Ext U W)=>E.ext h);have D:=A (λW (h:Ext U W)=>v.ext h);clear z E v ht;by_cases hs:s=n
 case neg=>
  go_enter func229,ntmps229;go_wp2_with fail
  go_ret;exact⟨by rw[show(s==n)=AM from CK.2 hs];rfl,by rw[X.o];exact o⟩
 subst hs;have⟨b0,T⟩:=AP (s==s&&AQ (r1<0)&&AQ (r2<0)&&AQ (B<0)&&AQ (r4<0));have u:=A (show b0=(AQ (r1<0)&&AQ (r2<0)&&AQ (B<0)&&AQ (r4<0)) by rw[<-T];simp);rw[T];clear T;go_enter func229,ntmps229;go_wp2_with(go_at_call 272;fail)
 rw[X.o];refine(K1 _ o).q λW1 P=>?_;have F:=A (o.tr P);have J:=A P;have r:=λi=>(C _ J).cell i
 have t:=λi=>(D _ J).cell i
 clear P;by_cases ab:r1<0
 case neg=>
  go_wp2_with fail
  go_ret;exact⟨by rw[u.o,Bw (show¬r1<0 by omega)];simp,F.o⟩
 go_wp2_with(go_at_call 272;fail)
 clear r t;refine(K2 _ F).q λY R=>?_;have H:=A (F.tr R);have K:=A (J.tr R);have r:=λi=>(C _ K).cell i
 have t:=λi=>(D _ K).cell i
 clear R;by_cases ac:r2<0
 case neg=>
  go_wp2_with fail
  go_ret;exact⟨by rw[u.o,Bw (show¬r2<0 by omega)];simp,H.o⟩
 go_wp2_with(go_at_call 272;fail)
 clear r t;refine(K3 _ H).q λW3 S=>?_;have I:=A (H.tr S);have Z3:=A (K.tr S);have r:=λi=>(C _ Z3).cell i
 have t:=λi=>(D _ Z3).cell i
 clear S;by_cases ad:B<0
 case neg=>
  go_wp2_with fail
  go_ret;exact⟨by rw[u.o,Bw (show¬B<0 by omega)];simp,I.o⟩
 go_wp2_with(go_at_call 272;fail)
 clear r t;refine(K4 _ I).q λW4 aa=>?_;have X4:=A (I.tr aa);clear aa;go_wp2_with fail
 all_goals
  go_ret;exact⟨by rw[u.o];simp[*],X4.o⟩
def tY{a b:By}(h:tx a=tx b):a=b:=by
 grind
def L9(a:By):By:=(Bj a [47]).1
def JQ(a:By):By:=if(Bj a [47]).2.2=AL then(Bj a [47]).2.1 else [49]
def aK(a:By):pD (Cq (tx a))=tx (JQ a):=by
 have⟨_,c2,_⟩:=dW a;rw[VY];unfold pD JQ
 grind
structure b4m(a:By)(n:Int)(d:Nat):Prop where
 fn:Eu (L9 a)=AL
 fd:Eu (JQ a)=AL
 ln:(Ag (L9 a)).length<=12
 ld:(Ag (JQ a)).length<=12
 vn:num (L9 a)=n
 vd:num (JQ a)=(d:Int)
def ia{a:By}(h:Ff (tx a)):b4m a (LS (tx a)) (LU (tx a)):=by
 have⟨⟨x,c,f1,_,v1⟩,⟨y,d,e,_,v2⟩⟩:=Yd h.ok;have hn:=h.n;have b:=h.d;rw[XR] at c hn;rw[aK] at d b;rw[UM] at hn b;obtain rfl:=tY c;obtain rfl:=tY d;exact⟨f1,e,hn,b,v1,v2⟩
def a3W(x y:By)(h:x.all CJ=AL):(x++47::y).findIdx (· ==47)=ln x:=by
 induction x with
 |nil=>rfl
 |cons b x c=>
  simp[SL,Ez] at h;have a:(b==(47))=AM:=by
   rw[CK];rintro rfl;exact absurd h.1 Z
  grind
def tL(x y:By)(h:x.all CJ=AL):Bj (x++47::y) [47]=(x,y,AL):=by
 rw[Tc,a3W x y h];simp
theorem tH(x:By)(h:x.all CJ=AL):Bj x [47]=(x,[],AM):=by
 have:x.findIdx (· ==47)=ln x:=by
  rw[List.findIdx_eq_length];intro b a;rw[PN] at h;rw[CK];rintro rfl;exact absurd (h _ a) Z
 rw[Tc,Af D]
def YU(s:By):s=DY s++s.drop (DY s).length:=by
 unfold DY
 induction s with
 |nil=>rfl
 |cons b s a=>
  rw[List.takeWhile_cons]
  grind
def b40(a:By):LS (tx a)=if(a.head?==Q 45)=AL then -(BY (Bj (Ag a) [47]).1:Int) else BY (Bj (Ag a) [47]).1:=by
 unfold LS;rw[VY];rw[Qm]
def b3z(a:By):LU (tx a)=if(Bj (Ag a) [47]).2.2=AL then BY (Bj (Ag a) [47]).2.1 else 1:=by
 unfold LU;rw[VY];rw[Qm]
theorem bZ{s:By}{r:By}(h:DT s=Q (n,r)):n=BY (DY s)/\r=s.drop (DY s).length:=by
 grind [DT]
theorem a8H{a:By}(h:Fb a=AL):Dp a=(LS (tx a),((LU (tx a):Nat):Int)):=by
 unfold Dp;rw[Aj h,b40,b3z];unfold Fb at h;unfold UP;have j:((Ag a).length<ln a)=((a.head?==Q 45)=AL):=by
  rw[Pu];cases a<;>grind
 cases hn:DT _ with
 |none=>grind
 |some p=>
  obtain⟨n,r⟩:=p;rw[hn] at h;have⟨g,e⟩:=bZ hn;have b:=YU (Ag a);rw[<-e] at b;dsimp at h⊢;split at h
  .cases h
  cases r with
  |nil=>
   rw[tH _ (by grind [Su])]
   grind
  |cons c d=>
   dsimp at h⊢;split at h
   .rename_i hc;subst hc;rw[b,tL _ _ (Su _)];cases f:DT d with
    |none=>grind
    |some k=>
     have⟨k1,k2⟩:=bZ f;have i:=YU d
     grind
   grind
theorem a6W(x:Nat)(l:List Nat):val (x::l)=x+B*val l:=by
 unfold val;rw[FX,Np _ 1,Qu];have:S (λk=>I (x::l) (1+k)) (ln l)=S (I l) _:=MF (λk _=>by unfold I;grind);rw[this];simp[S,I]
def a89(n:Nat):∃l,Canon l/\val l=n:=by
 induction n using Nat.strongRecOn with
 |_ n f=>
  by_cases c:n=0
  .subst c;exact⟨[],⟨λd a=>Al,λd a=>Al⟩,F⟩
  have⟨l,b,e⟩:=f (n/B) (Nat.div_lt_self D Z);refine⟨n%B::l,⟨λd a=> ?_,λd a=> ?_⟩,?_⟩
  .rcases Kt.1 a with rfl|h
   .grind
   exact b.Bf d h
  .cases l with
   |nil=>
    have:n/B=0:=by rw[<-e];rfl
    grind
   |cons y l=>exact b.trim d Al
  grind [a6W]
def nB(n:Nat):Canon (Io n)/\val (Io n)=n:=by
 have⟨l,a,b⟩:=a89 n
 grind [bJ]
def a9K(n:Nat):CY (n:Int)=ES n:=by simp[CY]
theorem b4G(c:Nat):(Lib.repeatL [48] c).all CJ=AL/\BY (Lib.repeatL [48] c)=0:=by
 induction c with
 |zero=>exact⟨F,F⟩
 |succ c a=>
  have e:Lib.repeatL [48] (c+1)=48::Lib.repeatL _ c:=rfl;rw[e,VQ,SL,a.1];exact⟨F,by grind [Cv]⟩
theorem a8s(h:n<1000000000):(OQ AM n).all CJ=AL/\BY (OQ AM n)=n/\(OQ AM n).length=9:=by
 have c:=bI n h;have⟨a,b,_⟩:=Qe n
 grind [b4G,CY,OQ,ot,ae]
def a7k{l:List Nat}(g:Canon l):∀k,1<=k->k<=ln l->(Fj l k).all CJ=AL/\Fj l k≠[]/\(Fj l k).head?≠Q 48/\BY (Fj l k)=S (λi=>I l (ln l-k+i)) k:=by
 intro k
 induction k with
 |zero=>intro h;omega
 |succ k r=>
  intro _ hk;by_cases f:k=0
  .subst f;have e:Fj l 1=ES (I l (ln l-1)):=by
    show []++OQ AL (I l (ln l-1-0))=_;rw[Lm,Nat.sub_zero,<-a9K];rfl
   have q:I l (ln l-1)≠0:=g.trim _ (by rw[dz,Bv D,ON D]);have⟨a,b,c⟩:=Qe (I l (ln l-1));rw[e];exact⟨a,c,oF _ q,by rw[b];simp[S]⟩
  have⟨a,b,c,d⟩:=r D D;have e:Fj l (k+1)=Fj l k++OQ AM (I l (ln l-1-k)):=by
   show Fj l k++OQ (k==0) (I l (ln l-1-k))=_;rw[show(k==0)=AM from CK.2 f]
  have⟨s,t,u⟩:=a8s (Du g.Bf (ln l-1-k));rw[e];refine⟨by rw[yN,a,s];rfl,by simp[b],?_,?_⟩
  .cases hw:Fj l k with
   |nil=>exact absurd hw b
   |cons x y=>rw[hw] at c;exact c
  rw[ot,d,t,u,Np k 1,Qu];have m:S (λj=>I l (ln l-(1+k)+(1+j))) k=S (λi=>I l (ln l-k+i)) k:=MF λi hi=>by
   rw[show ln l-(1+k)+(1+i)=ln l-k+i by omega]
  rw[m];have n:S (λi=>I l (ln l-(1+k)+i)) 1=I l (ln l-1-k):=by
   simp only[S,Nat.pow_zero,SJ,IU,Dh];rw[show ln l-(1+k)=ln l-1-k by omega]
  rw[n,Nat.pow_one];have o:(10:Nat)^9=B:=Z;rw[o,DL,Np]
def pY{l:List Nat}(g:Canon l)(s:Bool):Eu (L7 s l)=AL/\num (L7 s l)=(if s then -(val l:Int) else val l)/\(ln l<=30->(Ag (L7 s l)).length<=300):=by
 unfold L7;split
 .rename_i h;subst h;refine⟨Z,?_,λ_=>Z⟩;cases s<;>rfl
 rename_i h;have i:=MW.2 h;have⟨a,b,c,d⟩:=a7k g _ i D;have f:Jj _:=⟨a,b,.inl c⟩;have j:BY (Fj l (ln l))=val l:=by
  rw[d];simp[val]
 have k:=dS g.Bf (ln l);cases s with
 |false=>
  have e:Ol AM++Fj l (ln l)=Fj l _:=rfl;rw[e];exact⟨f.form,by unfold num;rw[f.pre,f.Ag,j],λh=>by rw[f.Ag];omega⟩
 |true=>
  have e:Ol AL++Fj l (ln l)=45::Fj l _:=rfl;exact⟨f.neg (λe=>c Al),by grind [num,dK,Rq],λh=>by grind [Rq]⟩
theorem b1w(a b:By):(if(DH a [45] !=DH b [45])=AL then -((BY (Ag a)*BY (Ag b):Nat):Int) else((BY (Ag a)*BY (Ag b):Nat):Int))=num a*num b:=by
 grind [num]
def pz{a b:By}(c:Eu a=AL)(d:Eu b=AL)(la:(Ag a).length<=12)(lb:(Ag b).length<=12):(IK a b).2=0/\IN (IK a b).1=0/\num (IK a b).1=num a*num b:=by
 unfold IK Fu;rw[VZ c D,VZ d D,Aj rfl,Aj rfl];unfold QR;split
 .rename_i h;have n:=ak c d h;obtain⟨x,e,f,l,v⟩:=sK (z:=num a*num b) D D
  grind [VZ]
 obtain⟨g,i⟩:=nB _;have q:=UA (Pp c);have r:=UA (Pp d);have h1:(10)^(Ag a).length<=10^12:=JK D la;have h2:(10)^(Ag b).length<=10^12:=JK D lb;have j:BY (Ag a)*BY (Ag b)<=10^12*10^12:=OZ D D;have o:(Io (BY (Ag a)*BY (Ag b))).length<=30:=by
  obtain⟨l,e⟩:=AP (Io (BY (Ag a)*BY (Ag b)));rw[e] at g i⊢;rcases Ht 30 (ln l) with h|h
  .have hne:l≠[]:=Al;have k:=XL g.trim hne;have m:B^3<=B^(ln l-1):=JK AV D
   grind
  omega
 obtain⟨w1,w2,s⟩:=pY g (DH a [45] !=DH b [45]);unfold Nh
 grind [VZ,b1w]
def iA{a:By}{p:By×By}(h:Dq a=Q p):p=(L9 a,JQ a):=by
 unfold L9 JQ;unfold Dq at h
 grind
def pX{a:By}(h:IP (tx a)):F3 a=(L9 a,JQ a):=by
 have b:=uD h;unfold BF at b;unfold F3;cases c:Dq a with
 |none=>grind
 |some p=>rw[iA c];rfl
def St{a b:By}(d:Ff (tx a))(e:Ff (tx b)):Ga a b=(JI (tx a) (tx b),0):=by
 unfold Ga JI;split
 .grind [a8H]
 rw[pX d.ok,pX e.ok];have pa:=ia d;have c:=ia e;have⟨u1,g,i⟩:=pz pa.fn c.fd pa.ln c.ld;have⟨v1,v2,j⟩:=pz c.fn pa.fd c.ln pa.ld;have f:Ii (L9 a) (JQ a) (L9 b) (JQ b)=⟨(IK (L9 a) (JQ b)).1,(IK (L9 b) (JQ a)).1,0⟩:=by
  unfold Ii
  grind
 rw[f];rw[Af AV];unfold PC Fu;rw[g,v2,Aj rfl,Aj rfl,i,j,pa.vn,pa.vd,c.vn,c.vd]
def b12{a:By}(h:Ff (tx a)):Fh a=0:=by
 unfold Fh;rw[Aj (uD h.ok)];have b:=ia h;cases k:Dq a with
 |none=>rfl
 |some p=>
  rw[iA k];dsimp;have h1:=b.ln;have h2:(JQ a).length<=12:=by
   have:=b.ld;have q:Ag (JQ a)=JQ a:=by
    rcases YF b.fd with h|⟨r,e,f,j⟩
    .exact h.Ag
    exfalso;have d:=b.vd;rw[e] at d;unfold num at d;rw[dK,Rq] at d;simp[SO] at d;have i:=D;have:=f.DY.resolve_right j;have g:=f.all;have l:=f.ne
    match r,l with
    |c::t,_=>
     simp[SL,Ez] at g;rw[VQ] at i;have m:=Py g.1;have o:Cv c=0:=by
      rcases TI _ with h|h
      .exact h
      have:=Nat.mul_pos h (ZH (a:=10) (n:=ln t) D);omega
     apply this;rw[QG]
     congr 1
     apply QH.1
     grind [Cv]
   grind
  omega
def ti{a b:Er}(c:Tp a)(d:Tp b):JU a b=RU a b:=by
 unfold JU RU;rw[St c.sa d.sb,St d.sa c.sb,St c.sc d.sd,St d.sc c.sd]
theorem fZ(l:By):IL l=AL↔Dg (tx l):=by
 refine⟨λh=> ?_,λh=>(Vn h).1⟩;unfold IL at h;unfold Hn at h;have f:=YU l;split at h
 .grind
 rename_i a;have d:l.all CJ=AL:=by grind [Su]
 refine⟨QO,λc h1 e=>a ⟨QO,?_⟩,λm hm=> ?_⟩
 .rw[Pz] at e;cases l with
  |nil=>grind
  |cons b l=>
   rw[QG]
   congr 1
   apply QH.1
   grind
 grind [Pz,List.getElem_mem,dR]
open Classical in
def pW(l:By):AQ (Dg (tx l))=IL l:=by
 grind [fZ]
theorem uB{s:By}{r:By}(h:DT s=Q (n,r)):(DY s).length<=8:=by
 grind [DT]
def b0j{a:By}(h:Fb a=AL):(Bj (Ag a) [47]).1.length<=8/\(Bj (Ag a) [47]).2.1.length<=8/\((Bj (Ag a) [47]).2.2=AL->DO (BY (Bj (Ag a) [47]).1) (BY (Bj (Ag a) [47]).2.1)=1):=by
 unfold Fb at h;cases hn:DT (Ag a) with
 |none=>grind
 |some p=>
  obtain⟨n,r⟩:=p;rw[hn] at h;have f:=uB hn;have⟨i,e⟩:=bZ hn;have b:=YU (Ag a);rw[<-e] at b;dsimp at h;split at h
  .cases h
  cases r with
  |nil=>
   grind [tH,Su]
  |cons c d=>
   dsimp at h;split at h
   .rename_i hc;subst hc;rw[b,tL _ _ (Su _)];cases g:DT d with
    |none=>grind
    |some k=>
     have⟨k1,k2⟩:=bZ g;have j:=YU d;refine⟨f,?_,λ_=> ?_⟩
     .grind [uB]
     grind
   grind
def a8U{n d:By}(f1:Eu n=AL)(a:Eu d=AL)(l1:(Ag n).length<=300)(l2:(Ag d).length<=300):
  ((LM n d).2=0/\(LM n d).1=[49])↔DO (BY (Ag n)) (BY (Ag d))=1:=by
 unfold LM Fu;rw[VZ f1 l1,VZ a l2,Aj rfl,Aj rfl];generalize DO _ _=g;split
 .grind [pr,VS]
 refine⟨λh=> ?_,λh=>by grind [rC]⟩;have⟨b,c⟩:=nB g;unfold Tm at h;split at h
 .grind
 have w:=(pY b AM).2.1;have h2:Yy _=[49]:=h.2;rw[ow] at w;have e:num [49]=1:=Z
 grind
def b2r(a:By)(h:(Bj a [47]).2.2=AM):(Bj a [47]).2.1=[]:=by
 rw[Tc] at h⊢
 grind
def b1B{l:By}(h:l.all CJ=AL):Ag l=l:=by
 rw[Pu];cases l with
 |nil=>rfl
 |cons b l=>
  grind [uJ]
def Zh(a:By):VE (tx a)=BF a:=by
 have⟨co,c2,g⟩:=dW a;have o:=@b0j a;unfold VE;rw[VY];dsimp;rw[Qm,Qm,DJ,DJ,VS,VS,pW,pW,<-co,<-c2,<-g];rw[<-c2] at o;have r:=b2r a;unfold BF Dq;dsimp;generalize(Bj a _).1=n at *;generalize(Bj a _).2.1=d at *;generalize(Bj a _).2.2=sl at *;cases b:IL _ with
 |false=>simp[OU]
 |true=>
  have c:=(Vn ((fZ _).1 b)).2;by_cases z:DH n [45]=AL/\Ag n=[48]
  .rw[z.1,z.2];simp[OU]
  rw[Af (λe=>Al)];cases sl with
  |false=>
   by_cases m:300<(Ag n).length
   .unfold OU
    grind
   unfold OU
   grind
  |true=>
   rw[Af AV];cases l:IL d with
   |false=>simp[OU]
   |true=>
    have f:=(Vn ((fZ _).1 l)).2;by_cases i:d=[48]
    .rw[i];simp[OU]
    by_cases j:d=[49]
    .rw[j];simp[OU]
    by_cases m:300<(Ag n).length\/300<ln d
    .unfold OU
     grind
    have f1:=dG b c z;have s:=b1B f;have k:Eu d=AL:=dG Al Al Al;have q:=a8U f1 k D Al;by_cases e:DO (BY (Ag n)) (BY d)=1
    .unfold OU
     grind
    unfold OU
    grind
def b3I(z:ByteArray):VE z=0↔IP z:=by
 unfold VE IP;dsimp only;generalize Cq z=v;obtain⟨g,n,d,sl⟩:=v;dsimp only;generalize(d.toList==[48])=a;generalize(d.toList==[49])=b;generalize(n.toList==[48])=c;generalize AQ (300<n.size)=e;generalize AQ (300<d.size)=f;generalize(DO (CZ n n.size) (CZ d d.size)==1)=h;by_cases h1:Dg n<;>by_cases h2:Dg d<;>cases g<;>cases sl<;>cases e<;>cases f<;>cases h<;>cases a<;>cases b<;>cases c<;>simp[OU,WL,h1,h2]
def Yp{a:By}:BF a=0↔IP (tx a):=by rw[<-Zh];exact b3I _
noncomputable def OT(m:Nat)(a:By):Int:=if BF a≠0 then BF a else if m<(Ag (L9 a)).length\/m<(JQ a).length then 4 else 0
def pR{a:By}(h:BF a=0):Dq a=Q (L9 a,JQ a):=by
 unfold BF at h;cases b:Dq a with
 |none=>rw[b] at h;cases h
 |some p=>rw[iA b]
def iB(a:By):Fh a=OT 12 a:=by
 unfold Fh OT;by_cases h:BF a=0
 .rw[Aj h,pR h,Af (λq=>q h)]
 rw[Af h,Aj h]
def b3x(a:By):Kz a=if OT 20 a≠0 then OT 20 a else if DH a [45] then 2 else 0:=by
 unfold Kz OT;by_cases h:BF a=0
 .have hne:¬(BF a≠0):=λq=>q h
  rw[Af hne,Af hne];unfold Ua;rw[pR h];dsimp only;by_cases h2:20<(Ag (L9 a)).length\/20<(JQ a).length
  .rw[Aj h2,Aj D,Aj Z]
  rw[Af h2,Af D];simp
 rw[Aj h,Aj h,Aj h]
def a2p(s:By)(m:Nat)(w:V)(hs:ln s<=100000)(C:CA w):AZ AO 231 #[AT (tx s),M G (m:Int)] w λe w'=>e=Ac (M G (OT m s))/\Ext w w':=by
 have hz:(tx s).size<=100000:=by rw[DJ];exact hs
 have d:OT m s=if BF s≠0 then BF s else if m<Il (pN (Cq (tx s)))\/m<(pD (Cq (tx s))).size then 4 else 0:=by
  rw[show pN (Cq (tx s))=tx (L9 s) from XR s,aK,UM,DJ];rfl
 have k:=@Yp s;have o:=Zh s;have⟨c,L⟩:=AP (BF s);rw[L] at d k o;have⟨Z,J⟩:=AP (OT m s);rw[J] at d⊢;have⟨z,P⟩:=AP (tx s);rw[P] at hz d k o⊢;have r:=A (ji z w D C);rw[o] at r;have W:=A C;have X:=A (show z.size<=1000000 by omega);have ab:=rU z;have aa:=sP z;have⟨a,l⟩:=AP (pN (Cq z));have⟨b,n⟩:=AP (pD (Cq z));rw[l] at ab;rw[n] at aa;rw[l,n] at d;have E:=A l;have T:=A n;have g:=A d;clear l n C d o L J P;by_cases u:c=0
 .subst u;have B:IP z:=k.1 F;have N:=B.num;have v:=N.num;rw[E.o] at v;have U:=A B;have⟨R,t2⟩:=AP (((a[0]'v).toNat:Int)==45);have I:=A (show Il a=if R then a.size-1 else a.size by unfold Il;rw[dif_pos v,t2]);clear k B N;go_enter func231,ntmps231;go_wp2_with(go_at_call 103;refine r.q λW1 f=>?_;have i:=A f;clear f)
  refine(vM z W1 X (W.below i (AS _))).mono ?_;rintro e Y ⟨⟨x,y,c,rfl,h1⟩,K⟩;obtain⟨rfl,rfl,rfl⟩:=h1 U;rw[E.o,T.o];have j:=A (i.tr K);clear K h1;have q:=A (λ(h:m<Il a\/m<b.size)=>g.trans (by rw[Af AV,Aj h]:_=(4:Int)));have S:=A (λ(h:¬(m<Il a\/m<b.size))=>g.trans (by rw[Af AV,Af h]:_=(0:Int)));clear g;cases R
  .have hg:Il a=a.size:=I.o;by_cases g1:m<a.size
   .go_wp2;go_ret;exact⟨by rw[q.o (.inl D)];rfl,j⟩
   exact a0K
  have hg:Il a=a.size-1:=I.o;by_cases g1:m<a.size-1
  .go_wp2;go_ret;exact⟨by rw[q.o (.inl D)];rfl,j⟩
  exact a0K
 have t:(c !=0)=AL:=Cd.2 u;have H:=A (show Z=c by rw[g.o,Aj u]);go_enter func231,ntmps231;go_wp2_with(go_at_call 103;refine r.q λW1 f=>?_;have i:=A f;clear f)
 go_ret;exact⟨MY,i⟩
def a3X(a:By)(w:V)(r:ln a<=100000)(y:CA w):AZ AO 154 #[AT (tx a)] w λe w'=>e=Ac (M G (Kz a))/\Ext w w':=by
 have j:=A (a2p a 20 w r y);have d:=b3x a;have f:OT 20 a=0->IP (tx a):=λh=>Yp.1 (by
  unfold OT at h;by_cases q:BF a=0
  .exact q
  rw[Aj q] at h;exact h)
 have s:=λ(z:ByteArray) (i:tx a=z) (q:0<z.size)=>show(((z[0]'q).toNat:Int)==45)=DH a [45] by
  subst i;rw[UH];cases a with
  |nil=>exact absurd q Z
  |cons b l=>
   rw[Pz,QG,JM,C9,C9];constructor
   .intro e
    congr 1
    apply QH.1;have e:(b.toNat:Int)=45:=e;show b.toNat=45;omega
   intro e;injection e with e
   subst e
   rfl
 have B:(tx a).size<=100000:=by rw[DJ];exact r
 have⟨z,i⟩:=AP (tx a);have k:=s z i;rw[i] at j f B⊢;have⟨c,v⟩:=AP (OT 20 a);rw[v] at j d f;have⟨D,u⟩:=AP (Kz a);rw[u] at d⊢;have⟨p,x⟩:=AP (DH a [45]);rw[x] at d k;clear s r y i v u x;by_cases o:c=0
 .subst o;have C:=(f F).num.pos;have E:=k C;rw[Af AV] at d;have m:=A d;clear k f d;cases p;all_goals
   go_enter func154,ntmps154;go_wp2_with(go_at_call 231;refine j.q λW1 g=>?_;have n:=A g;clear g)
   go_ret;exact⟨by rw[m.o];rfl,n⟩
 have t:(c !=0)=AL:=Cd.2 o;rw[Aj o] at d;have m:=A d;clear k f d;go_enter func154,ntmps154;go_wp2_with(go_at_call 231;refine j.q λW1 g=>?_;have n:=A g;clear g)
 go_ret;exact⟨by rw[m.o];rfl,n⟩
def a4F(w:V)(R:Option An)(y:Nat)(l:List Ld)(u:BB 3 w w.1.size R y (I6 l))(L:∀i,i<ln l->(l.getD i Fl).La.length<=50)(N:CA w):
  AZ AO 86 #[AK R (ln l) y] w λx w'=>x=Ac (M G (J7 l))/\Ext w w':=by
 have h1:=u.1;have h2:=u.2.1;rw[BL] at h1;unfold BM at h2;have HL:=A (λ(W:V) (hx:Ext w W)=>((u.below hx).more hx.size:BB 3 W W.1.size R y (I6 l)));have HS:=A L;have HT:=A N;clear u L N;by_cases C:64<ln l
 .go_enter func86,ntmps86;go_wp2;go_ret;exact⟨by unfold J7;rw[Aj C];rfl,Ad _ _⟩
 have B:=A (λh=>a6N (l:=l) D h);have r:=A (λk (hk:k<ln l) (h:∀j,j<k->Nc l j=0) e (hn:e≠0) (a:Nc l k=e)=>show J7 l=e by
  unfold J7;rw[Af C,Im hk h (by rw[a];exact hn),a])
 have⟨E,I⟩:=AP (J7 l);rw[I] at B r⊢;clear I;go_enter func86,ntmps86;go_wp2;go_loopw [3] (λi wr=>∃k:Nat,i=M G (k:Int)/\k<=ln l/\Ext w wr/\∀j,j<k->Nc l j=0) (λi _=>((ln l:Int)-B8 i).toNat)
 case atStart=>exact⟨0,F,D,Ad _ _,λj h=>D⟩
 obtain⟨k,rfl,hk,g,H⟩:=hrel;have f:=A g;have d:=A H;clear H;by_cases n:k<ln l
 .obtain⟨b,off,rfl,hb,hc⟩:=qd (HL _ g) D;have⟨X,Y,y2⟩:=hc k n;have hw:=HS k n;have a:Nc l k=if(l.getD k Fl).Ab<1\/3<(l.getD k Fl).Ab then 8 else if(l.getD k Fl).Ei< -1\/24<=(l.getD k Fl).Ei then 2 else Kz (l.getD k Fl).La:=rfl;have⟨o,K⟩:=AP (l.getD k Fl);rw[K] at X Y y2 hw a;have s:=A (a3X o.La wr D (HT.below g (AS _)));obtain⟨q,sd,wt⟩:=o;dsimp only at X Y y2 s a;have e1:(k:Int)<(ln l:Int):=D;clear g hc K hb;by_cases S:1<=q/\q<=3
  .obtain⟨S,q2⟩:=S;by_cases T: -1<=sd/\sd<24
   .obtain⟨T,U⟩:=T;have t1:¬q<1:=D;have t2:¬3<q:=D;have t3:¬sd< -1:=D;have t4:¬24<=sd:=D;rw[Af D,Af D] at a;have⟨c,J⟩:=AP (Kz wt);rw[J] at a s;have HF:=A (λhn=>r k n d c hn a);have HU:=A (λh:c=0=>Jt (P:=λj=>Nc l j=0) d (a.trans h));clear a J;by_cases z:c=0
    .subst z;go_wp2_with(go_at_call 154;refine s.q λW1 m=>?_;have v:=A (f.tr m);clear m)
     exact⟨⟨k+1,by go_num,D,v,HU (by trivial)⟩,Bm⟩
    have t:(c !=0)=AL:=Cd.2 z;go_wp2_with(go_at_call 154;refine s.q λW1 m=>?_;have v:=A (f.tr m);clear m)
    go_ret;exact⟨by rw[HF.o z];rfl,v⟩
   rw[Af D,Aj D] at a;have HF:=A (r k n d 2 Z a);clear a;by_cases U:sd< -1;all_goals
    go_wp2_with fail
    go_ret;exact⟨TX,f⟩
  rw[Aj D] at a;have HF:=A (r k n d 8 Z a);clear a;by_cases U:q<1;all_goals
   go_wp2_with fail
   go_ret;exact⟨TX,f⟩
 obtain rfl:k=ln l:=D;clear g;go_wp2;go_ret;exact⟨by rw[B.o d.o];rfl,f⟩
def b45{a:By}(h:BF a=0)(h2:Fh a=0):Ff (tx a):=by
 have b:pN (Cq (tx a))=tx (L9 a):=XR a;rw[iB] at h2;unfold OT at h2;rw[Af (λq=>q h)] at h2;have c:¬(12<(Ag (L9 a)).length\/12<(JQ a).length):=λq=>by rw[Aj q] at h2;cases h2
 refine⟨Yp.1 h,?_,?_⟩
 .rw[b,UM];omega
 rw[aK,UM];have:=UG (JQ a);omega
def b2f{a:By}(h:BF a=0)(h2:12<Il (pN (Cq (tx a)))\/12<Il (pD (Cq (tx a)))):Fh a=4:=by
 rw[iB];unfold OT;rw[Af (λq=>q h),Aj];have b:pN (Cq (tx a))=tx (L9 a):=XR a;rw[b,UM,aK,UM] at h2;have:=UG (JQ a);omega
def b4s{a:By}(h:BF a=0)(h1:¬(12<Il (pN (Cq (tx a)))))(h2:¬(12<Il (pD (Cq (tx a))))):Fh a=0:=b12 ⟨Yp.1 h,D,D⟩
def b3D{l:List By}{k:Nat}{c:Int}(hk:k<l.length)(h:∀j,j<k->BF (l.getD j [])=0)(a:BF (l.getD k [])=c)(hn:c≠0):GZ l=c:=by
 unfold GZ;have e:=Im (f:=λi=>BF (l.getD i [])) hk h (by show BF (l.getD k [])≠0;rw[a];exact hn);rw[e,Aj (by show BF (l.getD k [])≠0;rw[a];exact hn)];exact a
def b2V{l:List By}{k:Nat}(hk:k<l.length)(h:∀j,j<l.length->BF (l.getD j [])=0)(h2:∀j,j<k->Fh (l.getD j [])=0)(a:Fh (l.getD k [])=4):GZ l=4:=by
 unfold GZ;have b:=KH (f:=λi=>BF (l.getD i [])) h;have e:=Im (f:=λi=>Fh (l.getD i [])) hk h2 (by show Fh (l.getD k [])≠0;rw[a];decide);rw[b,Af AV,e];exact a
def b3O{l:List By}(h:∀j,j<l.length->BF (l.getD j [])=0)(h2:∀j,j<l.length->Fh (l.getD j [])=0):GZ l=0:=by
 unfold GZ;rw[KH (f:=λi=>BF (l.getD i [])) h,Af AV];exact KH h2
theorem tZ{l:List By}(h:i<ln l):(dn (l.map tx))[i]?=Q (AT (tx (l.getD i []))):=by
 unfold dn;rw[Ku,Ku,Bv h];simp[Gs,h]
def a4V{T:Bb}(w:V)(g ah:Nat)(d:List By)(hr:Az w g T (dn (d.map tx)))(hs:∀i,i<ln d->(d.getD i []).length<=100000)(hl:ln d<=4)(aq:ln d<=ah)(ht:CA w):
  AZ AO 271 #[AK (Q ⟨g,0,O⟩) (ln d) ah] w λe w'=>e=Ac (M G (GZ d))/\Ext w w':=by
 have HR:=A hr;have J:=A hs;have HT:=A ht;have U:=A (λk c=>@b3D d k c);have X:=A (λk=>@b2V d k);have S:=A (@b3O d);have⟨E,hE⟩:=AP (GZ d);rw[hE] at U X S⊢;have⟨n,hn⟩:=AP (ln d);rw[hn] at hl aq J U X S⊢;have B:=A hn;clear hr hs ht hn hE;go_enter func271,ntmps271;go_wp2;go_loopw [3] (λi wr=>∃k:Nat,k<=n/\i=M G (k:Int)/\(∀j,j<k->BF (d.getD j [])=0)/\Ext w wr) (λi _=>n-(B8 i).toNat)
 case atStart=>exact⟨0,D,rfl,λj hj=>D,Ad _ _⟩
 obtain⟨k,hk,rfl,o,C⟩:=hrel;have L:=A C;have v:=A o;clear o;by_cases ai:k<n
 .have hc:=(HR.ext C).cell k;rw[tZ Nr] at hc;have ac:=J k ai;have N:=A (λc=>U k c ai v);have⟨b,aa⟩:=AP (d.getD k []);rw[aa] at hc ac N;have z:=A (ji (tx b) wr QN (HT.below C (AS _)));rw[Zh] at z;have⟨t,I⟩:=AP (tx b);rw[I] at hc z;have⟨c,ab⟩:=AP (BF b);rw[ab] at z N;have HU:=A (λh:c=0=>Jt (P:=λj=>BF (d.getD j [])=0) v (by show BF (d.getD k [])=0;rw[aa,ab,h]));clear C I aa ab;by_cases f:c=0
  .subst f;go_wp2_with(go_at_call 103;refine z.q λW1 l=>?_;have u:=A (L.tr l);clear l)
   exact⟨⟨k+1,D,by go_num,HU (by trivial),u⟩,Bm⟩
  have t:(c !=0)=AL:=Cd.2 f;have MM:=A (N c F f);go_wp2_with(go_at_call 103;refine z.q λW1 l=>?_;have u:=A (L.tr l);clear l)
  go_ret;exact⟨by rw[MM.o];rfl,u⟩
 obtain rfl:k=n:=D;clear C;go_wp2;go_loopw [5] (λi wi=>∃m:Nat,m<=k/\i=M G (m:Int)/\Ext w wi/\∀j,j<m->Fh (d.getD j [])=0) (λi _=>k-(B8 i).toNat)
 case atStart=>exact⟨0,D,rfl,L,λj hj=>D⟩
 obtain⟨m,hm,rfl,H,an⟩:=hrel;have K:=A an;clear an;have ag:=A H;by_cases ad:m<k
 .have hc:=(HR.ext H).cell m;rw[tZ Nr] at hc;have ac:=J m ad;have f:=v m ad;have R:=A (X m ad v K);have⟨s,af⟩:=AP (d.getD m []);rw[af] at hc ac f R;have o:IP (tx s):=Yp.1 f;have h4:=b2f f;have h5:=iB s;have ar:pN (Cq (tx s))=tx (L9 s):=XR s;have aw:=DJ s;have ao:=A (λh:Fh s=0=>Jt (P:=λj=>Fh (d.getD j [])=0) K (by show Fh (d.getD m [])=0;rw[af,h]));have r:=A (λ(x1:¬(12<Il (pN (Cq (tx s))))) (x2:¬(12<Il (pD (Cq (tx s)))))=>show Fh s=0 from b4s f x1 x2);have q:=A (λh=>R (h4 h));have⟨t,I⟩:=AP (tx s);rw[I] at hc o r q aw;have ae:=o.num;have av:=rU t;have au:=sP t;have⟨a,Y⟩:=AP (pN (Cq t));have⟨b,Z⟩:=AP (pD (Cq t));have aj:=ae.num;have ak:=ae.den;rw[Y] at av aj r q;rw[Z] at au ak r q;have KP:=A ((vM t _ D (HT.below H (AS _))).mono (λe w' ⟨⟨x,y,c,e1,h1⟩,h2⟩=>(by obtain⟨rfl,rfl,rfl⟩:=h1 o;rw[Y,Z] at e1;exact⟨e1,h2⟩:e=Ending.returned (BO #[AT a,AT b,M G 0])/\Ext _ w')));have⟨sa,al⟩:=AP (Il a);have⟨sb,am⟩:=AP (Il b);have DA:=A (λW=>wA a W D aj);have DB:=A (λW=>wA b W D ak);rw[al] at DA r q;rw[am] at DB r q;clear H I o ae Y Z al am h4 h5 ar af f R;go_wp2_with(first
   |(go_at_call 303;with_reducible refine(DB.o _).mono ?_;rintro e W3 ⟨rfl,rfl⟩)
   |(go_at_call 303;refine(DA _).mono ?_;rintro e W3 ⟨rfl,rfl⟩)
   |(go_at_call 273;refine KP.q λW1 l=>?_;have u:=A (ag.tr l);clear l))
  all_goals first
   |(go_ret;exact⟨by rw[q.o D];rfl,u⟩)
   |exact⟨⟨m+1,D,by go_num,u,ao (r D D)⟩,Bm⟩
   |trace_state
 obtain rfl:m=k:=D;clear H;have ap:=A (S v K);go_wp2;go_ret;exact⟨by rw[ap.o];rfl,ag⟩
def gE{l:List By}(h:GZ l=0):∀j,j<ln l->Ff (tx (l.getD j [])):=by
 unfold GZ at h;by_cases e:EI (λi=>BF (l.getD i [])) (ln l)=0
 .rw[Af (λq=>q e)] at h;exactλj a=>b45 (U1 e j a) (U1 h j a)
 rw[Aj e] at h;exact absurd h e
def a83(w:V)(o:Er)(h:Rv o)(z:CA w):AZ AO 228 #[AW #[M G o.Ei,AT (tx o.left),AT (tx o.right),AT (tx o.low),AT (tx o.Eo)]] w λe w'=>e=Ac (M G (Ep o))/\Ext w w':=by
 have f:Ep o=if GZ [o.left,o.right,o.low,o.Eo]≠0 then GZ [o.left,o.right,o.low,o.Eo] else if 0<=JI (tx o.left) (tx o.right)\/0<=JI (tx o.low) (tx o.Eo) then 10 else 0:=by
  unfold Ep;by_cases e:GZ [o.left,o.right,o.low,o.Eo]=0
  .have s:=gE e;rw[St (a:=o.left) (b:=o.right) (s 0 AV) (s 1 AV),St (a:=o.low) (b:=o.Eo) (s 2 AV) (s 3 AV)]
  rw[Aj e,Aj e]
 have r:=λ(W:V) g hr z=>a4V (T:=41) W g 4 [o.left,o.right,o.low,o.Eo] hr (λi hi=>by
  have q:=DJ;obtain⟨h1,h2,u,v⟩:=h;rw[q] at h1 h2 u v
  match i,hi with
  |0,_=>exact BJ h1 Z
  |1,_=>exact BJ h2 Z
  |2,_=>exact BJ u Z
  |3,_=>exact BJ v Z) AV AV z
 have m:=@gE [o.left,o.right,o.low,o.Eo];have⟨c0,ab⟩:=AP (GZ [o.left,o.right,o.low,o.Eo]);rw[ab] at f r m;have⟨E,aa⟩:=AP (Ep o);rw[aa] at f⊢;clear aa ab;simp only[List.map] at r;obtain⟨h1,h2,u,v⟩:=h;obtain⟨s,a,b,c,d⟩:=o;dsimp only at h1 h2 u v f r m⊢;have hA:c0=0->Ff (tx a):=λh=>m h 0 AV
 have hB:c0=0->Ff (tx b):=λh=>m h 1 AV
 have hC:c0=0->Ff (tx c):=λh=>m h 2 AV
 have hD:c0=0->Ff (tx d):=λh=>m h 3 AV
 clear m;generalize tx a=a at *;generalize tx b=b at *;generalize tx c=c at *;generalize tx d=d at *;have D:=(Ad w.1.size w).alloc (AS _) (.cells #[M G s,AT a,AT b,AT c,AT d] 43);have J:=Az.new w 43 [M G s,AT a,AT b,AT c,AT d];have⟨C,B⟩:=AP (w.alloc (.cells #[M G s,AT a,AT b,AT c,AT d] 43));have X:=Az.new C 41 (dn [a,b,c,d]);rw[show w.alloc (.cells [Gr .i64 s,AT a,AT b,AT c,AT d].toArray 43)=C from B] at J;rw[B] at D;have j:=D.alloc D.size (.cells #[AT a,AT b,AT c,AT d] 41);have KS:=A (show AZ AO 271 #[AK (Q ⟨C.1.size,0,O⟩) 4 4] (C.alloc (.cells #[AT a,AT b,AT c,AT d] 41)) _ from r _ _ X (z.below j (AS _)));have N:=A f;have HA:=A hA;have HB:=A hB;have HC:=A hC;have HD:=A hD;clear r f hA hB hC hD;have HT:=A z;have ag:=A j;have n:=A (J.ext ((Ad _ _).alloc (AS _) (.cells #[AT a,AT b,AT c,AT d] 41)));have ah:C.1.size=w.1.size+1:=by rw[<-B,D5]
 have af:=A B;have R:=A (λx y W (hx:x.size<=604) (hy:y.size<=604) (sx:Ff x) (sy:Ff y) (h:Ext w W)=>vS x y W (BJ hx Z) (BJ hy Z) sx sy (HT.below h (AS _)));clear D j X z B J;go_enter func228,ntmps228;go_wp2_with(go_at_call 271;fail)
 simp only[af.o,<-ah];refine KS.q λW1 l=>?_;have j:=A (Ext.tr ag l);have c1:=(n.ext l).cell 1;have c2:=(n.ext l).cell 2;have c3:=(n.ext l).cell 3;have c4:=(n.ext l).cell 4;have P:=A (λW h=>(n.ext l).ext (w':=W) h);clear l;by_cases k:c0=0
 case neg=>
  have t:(c0 !=0)=AL:=Cd.2 k;have H:=A (show E=c0 by rw[N.o,Aj k]);go_wp2_with fail
  go_ret;exact⟨MY,j⟩
 have SA:=A (HA k);have SB:=A (HB k);have SC:=A (HC k);have SD:=A (HD k);subst k;have f:=N.o;rw[Af AV] at f;have⟨k2,ac⟩:=AP (JI a b);have U:=A (R a b _ h1 h2 SA SB j);have⟨k3,L⟩:=AP (JI c d);rw[ac] at U f;rw[L] at f;have ae:=A L;have I:=A f;clear ac L f;go_wp2_with(go_at_call 272;fail)
 refine U.q λY F=>?_;have K:=A (j.tr F);have d3:=(P _ F).cell 3;have d4:=(P _ F).cell 4;clear F c1 c2 c3 c4;by_cases hk:0<=k2
 .have H:=A (show E=10 by rw[I.o,Aj (.inl hk)]);go_wp2_with fail
  go_ret;exact⟨MY,K⟩
 have S:=A (R c d _ u v SC SD K);rw[ae.o] at S;by_cases ad:0<=k3
 .have H:=A (show E=10 by rw[I.o,Aj (.inr ad)]);exact a0L
 have H:=A (show E=0 by rw[I.o,Af (λq=>q.elim hk ad)]);exact a0L
def XJ{o:Er}(h:Ep o=0):Tp o:=by
 unfold Ep at h;by_cases e:GZ [o.left,o.right,o.low,o.Eo]=0
 .have s:=gE e;rw[Af (λq=>q e),St (a:=o.left) (b:=o.right) (s 0 AV) (s 1 AV),St (a:=o.low) (b:=o.Eo) (s 2 AV) (s 3 AV)] at h;by_cases q:0<=JI (tx o.left) (tx o.right)\/0<=JI (tx o.low) (tx o.Eo)
  .rw[Aj q] at h;cases h
  exact⟨s 0 AV,s 1 AV,s 2 AV,s 3 AV,D,D⟩
 rw[Aj e] at h;exact absurd h e
def a0h (w : V) (R : Option An) (Y : Nat) (l : List Er) (C : BB 5 w w.1.size R Y (Fa l)) (hs : ln l <= 32 -> ∀ i, i < ln l -> Rv (l.getD i Bu)) (ht : CA w) :
    AZ AO 150 #[AK R (ln l) Y] w λx w' => x =Ac (BO #[AU (F4 l).1, M G (F4 l).2]) /\ Ext w w' := by
  have h1 := C.1;have h2 := C.2.1;rw [BL] at h1;unfold BM at h2;by_cases aa : 32 < ln l
  . clear C hs
    go_enter func150, ntmps150;go_wp2;go_ret2;exact ⟨by unfold F4; rw [Aj aa]; rfl, Ad _ _⟩
  have S := A (hs D);have HT := A ht;have HL := A (λ(W : V) (hx : Ext w W) => ((C.below hx).more hx.size : BB 5 W W.1.size R Y (Fa l)));have HN := A (λk (hk : k < ln l) (h : ∀ j, j < k -> Ep (l.getD j Bu) = 0) c (g : Ep (l.getD k Bu) = c) (hn : c ≠ 0) => show F4 l = (AM, c) by
    unfold F4;have e := Im (f := λi => Ep (l.getD i Bu)) hk h (by show Ep (l.getD k Bu) ≠ 0; rw [g]; exact hn);have e2 : EI (λi => Ep (l.getD i Bu)) (ln l) = c := e.trans g;rw [Af aa, e2, Aj hn])
  have O := A (λ(h : ∀ j, j < ln l -> Ep (l.getD j Bu) = 0) => show F4 l = (Sa l, 0) by
    unfold F4; rw [Af aa, KH (f := λi => Ep (l.getD i Bu)) h, Af AV])
  have ap := A (λ(h : ∀ j, j < ln l -> Ep (l.getD j Bu) = 0) (h2 : ∀ i, i < ln l -> ∀ j, j < i -> RU (l.getD i Bu) (l.getD j Bu) = AM) => show F4 l = (AL, 0) by
    rw [O.o h]; unfold Sa;rw [Hy λi hi => Hy λk hk => by rw [ti (XJ (h i hi)) (XJ (h k D))]; exact h2 i hi k hk]
    rfl)
  have aq := A (λ(h : ∀ j, j < ln l -> Ep (l.getD j Bu) = 0) m n (hm : m < ln l) (hn : n < m) (h2 : RU (l.getD m Bu) (l.getD n Bu) = AL) => show F4 l = (AM, 0) by
    rw [O.o h]; unfold Sa;have e : Cm (λi => Cm (λk => JU (l.getD i Bu) (l.getD k Bu)) i) (ln l) = AL := J5 (p := λi => Cm (λk => JU (l.getD i Bu) (l.getD k Bu)) i) hm (J5 (p := λk => JU (l.getD m Bu) (l.getD k Bu)) hn (by rw [ti (XJ (h m hm)) (XJ (h n D))]; exact h2));rw [e]
    rfl)
  obtain ⟨DB, ab⟩ : ∃ d, (F4 l).1 = d := ⟨_, F⟩;obtain ⟨DE, ac⟩ : ∃ d, (F4 l).2 = d := ⟨_, F⟩;have Q := A (λb c (h : F4 l = (b, c)) => (⟨by rw [<- ab, h], by rw [<- ac, h]⟩ : DB = b /\ DE = c));rw [ab, ac];clear ab ac O;have KO := A (λi (hi : i < ln l) W (h : Ext w W) => a83 W _ (S i hi) (HT.below h (AS _)));have KV := A (λi j (hi : i < ln l) (s : j < ln l) (oi : Tp (l.getD i Bu)) (oj : Tp (l.getD j Bu)) W (h : Ext w W) => a1Z W _ _ (S i hi) (S j s) oi.sh oj.sh (HT.below h (AS _)));clear C hs ht;go_enter func150, ntmps150;go_wp2;go_loopw [4] (λi wr => ∃ k : Nat, i =M G (k : Int) /\ k <= ln l /\ (∀ j, j < k -> Ep (l.getD j Bu) = 0) /\ Ext w wr) (λi _ => ((ln l : Int) - B8 i).toNat)
  case atStart => exact ⟨0, F, D, λj s => D, Ad _ _⟩
  case round =>
    obtain ⟨k, rfl, hk, ao, y⟩ := hrel;have v := A ao;clear ao;have T := A y;by_cases ae : k < ln l
    . obtain ⟨b, off, rfl, hb, g⟩ := cL (HL _ y) D
      obtain ⟨E, H, I, J, K⟩ := g k ae;have a := A (KO k ae _ y);obtain ⟨o, r⟩ : ∃ n, l.getD k Bu = n := ⟨_, F⟩;rw [r] at E H I J K a;have HO := A r;obtain ⟨c, L⟩ : ∃ c, Ep o = c := ⟨_, F⟩;rw [L] at a;have HM := A (λhn => HN k ae v c (by rw [r, L]) hn);have HU := A (λh : c = 0 => Jt (P := λj => Ep (l.getD j Bu) = 0) v (by show Ep (l.getD k Bu) = 0; rw [r, L, h]));obtain ⟨sd, s1, s2, s3, s4⟩ := o;dsimp only at E H I J K a;have e1 : (k : Int) < (ln l : Int) := D;clear y g r hb L;by_cases Z : c = 0
      . subst Z
        go_wp2_with (go_at_call 228; refine a.mono ?_; rintro e W1 ⟨rfl, z⟩; have X := A (T.tr z); clear z)
        exact ⟨⟨k + 1, by go_num, D, HU (by trivial), X⟩, MX⟩
      have t : (c != 0) = AL := Cd.2 Z
      have q := A (Q _ _ (HM Z));go_wp2_with (go_at_call 228; refine a.mono ?_; rintro e W1 ⟨rfl, z⟩; have X := A (T.tr z); clear z)
      go_ret2;exact ⟨by rw [q.1, q.2]; rfl, X⟩
    obtain rfl : k = ln l := by omega
    clear y;have ai := A (λi hi => XJ (v i hi));go_wp2;go_loopw [6] (λi wi => ∃ m : Nat, i =M G (m : Int) /\ m <= ln l /\ (∀ i, i < m -> ∀ j, j < i -> RU (l.getD i Bu) (l.getD j Bu) = AM) /\ Ext w wi) (λi _ => ((ln l : Int) - B8 i).toNat)
    case atStart => exact ⟨0, F, D, λi hi => D, T⟩
    case round =>
      obtain ⟨m, rfl, hm, u, ad⟩ := hrel;have ag := A u;clear u;have aj := A ad;by_cases N : m < ln l
      . clear ad
        have e1 : (m : Int) < (ln l : Int) := D;go_wp2;go_loopw [7] (λi wi => ∃ n : Nat, i =M G (n : Int) /\ n <= m /\ (∀ j, j < n -> RU (l.getD m Bu) (l.getD j Bu) = AM) /\ Ext w wi) (λi _ => ((m : Int) - B8 i).toNat)
        case atStart => exact ⟨0, F, D, λj s => D, aj⟩
        case round =>
          obtain ⟨n, rfl, hn, am, B⟩ := hrel;have af := A am;clear am;have ak := A B;by_cases ar : n < m
          . obtain ⟨b, off, rfl, hb, g⟩ := cL (HL _ B) D
            obtain ⟨E, H, I, J, K⟩ := g m N;obtain ⟨z0, z1, z2, z3, z4⟩ := g n D;have a := A (λW h => KV m n N D (ai m N) (ai n D) W (B.tr h));obtain ⟨ov, u⟩ : ∃ x, RU (l.getD m Bu) (l.getD n Bu) = x := ⟨_, F⟩;rw [u] at a;have ah := A u;clear u;obtain ⟨o, r⟩ : ∃ n, l.getD m Bu = n := ⟨_, F⟩;rw [r] at E H I J K a;obtain ⟨sd, s1, s2, s3, s4⟩ := o;obtain ⟨o, an⟩ : ∃ x, l.getD n Bu = x := ⟨_, F⟩;rw [an] at z0 z1 z2 z3 z4 a;obtain ⟨rd, r1, r2, r3, r4⟩ := o;dsimp only at E H I J K z0 z1 z2 z3 z4 a;have e2 : (n : Int) < (m : Int) := D;have e3 : (n : Int) < (ln l : Int) := D;clear B g r an hb;go_wp2_with fail
            go_still_tail 8, U
            all_goals go_simp
            go_wp2_with (go_at_call 229; refine (a _ (Ext.dr wr)).mono ?_; rintro e W4 ⟨rfl, al⟩; have X4 := A (ak.tr (Ext.tr (Ext.dr wr) al)); clear al)
            all_goals first
              | (have q := A (Q _ _ (aq v m n N ar (ah.trans DI)))
                 go_ret2;exact ⟨by rw [q.1, q.2]; rfl, X4⟩)
              | exact ⟨⟨n + 1, by go_num, D, λj s => (by
                  by_cases e : j = n
                  . rw [e]; exact ah.trans DI
                  exact af j D), X4⟩, MX⟩
              | trace_state
          obtain rfl : n = m := by omega
          clear B;go_wp2;exact ⟨⟨n + 1, by go_num, D, λi hi j s => (by
            by_cases e : i = n
            . subst e; exact af j s
            exact ag i D j s), ak⟩, MX⟩
      obtain rfl : m = ln l := by omega
      clear ad;go_wp2;have q := A (Q _ _ (ap v ag));go_ret2;exact ⟨by rw [q.1, q.2]; rfl, aj⟩
end
section
open Kp Go.ChangeShapes Go.WideShapes Go.Deep
section
def a54:AO.cellsOf 34=15:=U
def a5k:AO.cellsOf 24=1:=U
def a6X:AO.cellsOf 22=1:=U
def a4D:AO.cellsOf 117=1:=U
def a5I:AO.cellsOf 25=1:=U
def a6n:AO.cellsOf 26=1:=U
def a5g:AO.cellsOf 27=1:=U
def a5w:AO.cellsOf 28=1:=U
def a5M:AO.cellsOf 31=1:=U
def a6V:AO.cellsOf 32=1:=U
section
variable {H : Type} {aa : Bb × AN → H} {w : V} {base : Nat} {sp : Nat → Bool} {ac : Bool}
def a5S{a:An}{v:AN}(h:w.cell? a=Q v):a.spot=O:=by
 unfold Dx at h;split at h
 .split at h
  .cases h
  rename_i b;simpa using b
 cases h
def a95(d:D6 H):1<=Rows.uptoBulk d:=by
 cases d with
 |lit l=>cases l<;>simp[Rows.uptoBulk]
 |_=>simp[Rows.uptoBulk]
theorem YW(l:List (D6 H)):ln l<=Rows.uptoBulkAll l:=by
 induction l with
 |nil=>simp
 |cons d l a=>simp only[FX,Rows.uptoBulkAll];have:=a95 d;omega
def kU{l:List (D6 H)}{d:D6 H}(h:d∈l):Rows.uptoBulk d<=Rows.uptoBulkAll l:=by
 induction l with
 |nil=>cases h
 |cons e l a=>
  simp only[Rows.uptoBulkAll];rcases Kt.1 h with rfl|h
  .omega
  have:=a h;omega
theorem Qi{st E:Bb}(hu:AO.underlying st=Q (.slice E))(hk:AO.cellsOf E=k)(L:0<k)(row:T->List AN)(N:T)(P:T->D6 H->Prop)
  (ae:∀(n:Nat) (cs:List AN) (y:D6 H×List Dw),ln cs=k->ET aa AO w base sp ac n E cs=Q y->∃t,cs=row t/\P t y.1)
  {c:AN}{x:D6 H×List Dw}(h:ET aa AO w base sp ac n st [c]=Q x):
  ∃(R:Option An) (q:Nat) (l:List T),c= .slice R (ln l) q/\BB k w w.1.size R q (l.map row)/\∃C:List (D6 H),ln C=ln l/\Rows.uptoBulkAll C<=Rows.uptoBulk x.1/\∀(i:Nat) d,C[i]?=Q d->P (l.getD i N) d:=by
 rcases open_slice hu h with⟨J,_⟩|⟨a,len,q,m,n',u,Pl,J,hb,hl,hm,ab,hx,hi⟩
 .obtain rfl:c= .slice O 0 0:=by simpa using J
  exact⟨O,0,[],F,⟨AV,by simp[BM],λh=>by simp at h⟩,[],F,D8 _,λi d h=>by simp at h⟩
 obtain rfl:c= .slice (Q a) len q:=by simpa using J
 have af:len<=m:=by rw[ab];split <;>omega
 have S:∀i,i<len->∃t:T,(∀j,j<k->w.cell? ((a.add (i*k)).add j)=(row t)[j]?)/\P t (u i):=by
  intro i g;have⟨cs',r,W⟩:=hi i D;rw[hk] at r;have⟨_,V,I⟩:=lY r;obtain⟨t,rfl,hp⟩:=ae _ _ _ V W;exact⟨t,I,hp⟩
 have Z:∃f:Nat->T,∀i,i<len->(∀j,j<k->w.cell? ((a.add (i*k)).add j)=(row (f i))[j]?)/\P (f i) (u i):=
  ⟨λi=>if h:i<len then Classical.choose (S i h) else N,λi g=>by
   have:=Classical.choose_spec (S i g);simpa only[dif_pos g] using this⟩
 obtain⟨f,B⟩:=Z;have I:∀i,i<len->((G8 len).map f).getD i N=f i:=λi g=>by simp[Gs,g]
 refine⟨Q a,q,(G8 len).map f,AV,⟨by simpa using hl,hm,λX=> ?_⟩,(G8 len).map u,AV,?_,λi d K=> ?_⟩
 .have h0':0<len:=by simpa using X
  have ad:∃v,(row (f 0))[0]?=Q v:=by
   have⟨cs',r,W⟩:=hi 0 D;rw[hk] at r;have⟨_,V,Y⟩:=lY r;have h1:=(B 0 h0').1 0 L;rw[Y 0 L] at h1;exact⟨cs'[0]' D,h1.symm.trans (Bv D)⟩
  obtain⟨v,hv⟩:=ad;obtain⟨b,o,s⟩:=a;have A:=(B 0 h0').1 0 L;rw[hv] at A;have hs:s=O:=by
   have:=a5S A;cases s with
   |none=>rfl
   |some z=>exfalso;simp[Addr.add] at this
  subst hs;rw[addr_add,addr_add] at A;refine⟨b,o,F,TL w _ A,λi g j hj=> ?_⟩;have U:i<len:=by simpa using g
  have:=(B i U).1 j hj;rw[addr_add,addr_add,DL] at this;have e:(((G8 len).map f).map row).getD i []=row (f i):=by rw[CM,Ku,Ku,List.getElem?_range U];rfl
  rw[this,e]
 .rw[hx];simp only[Rows.uptoBulk];omega
 have g:i<len:=by
  have:=(Wb.1 K).1;simpa using this
 rw[I i g];have:d=u i:=by rw[Ku,List.getElem?_range g] at K;simpa using K.symm
 rw[this];exact(B i g).2
theorem a3O{c:AN}{x:D6 H×List Dw}(h:ET aa AO w base sp ac n 25 [c]=Q x):
  ∃(R:Option An) (a:Nat) (l:List Int),c= .slice R (ln l) a/\BB 1 w w.1.size R a (Cy l):=by
 have⟨R,a,l,h1,h2,_⟩:=Qi FD FP Z (λn=>[Gr .i64 n]) 0 (λ_ _=>True) (λn cs y b d=>by
  match cs,b with
  |[c],_=>grind [Gj]) h
 grind
theorem a2L{c:AN}{x:D6 H×List Dw}(h:ET aa AO w base sp ac n 117 [c]=Q x):
  ∃(R:Option An) (a:Nat) (l:List Sd),c= .slice R (ln l) a/\BB 7 w w.1.size R a (Cg l)/\ln l<=Rows.uptoBulk x.1:=by
 have⟨R,a,l,h1,h2,q,r,s,_⟩:=Qi underlying117 pA Z FA ⟨0,0,0,0,AM,0,0⟩ (λ_ _=>True) (λn cs y k m=>by
  match cs,k with
  |[c0,c1,c2,c3,c4,c5,o],_=>obtain⟨b,d,e,f,g,i,j,rfl,_,rfl,_,rfl,_,rfl,_,rfl,rfl,_,rfl,_⟩:=oH m;exact⟨⟨b,d,e,f,g,i,j⟩,F,trivial⟩) h
 grind [YW]
theorem a1z{c:AN}{x:D6 H×List Dw}(h:ET aa AO w base sp ac n 26 [c]=Q x):
  ∃(R:Option An) (a:Nat) (l:List Er),c= .slice R (ln l) a/\BB 5 w w.1.size R a (Fa l)/\ln l<=Rows.uptoBulk x.1:=by
 have⟨R,a,l,h1,h2,k,m,o,_⟩:=Qi underlying26 nN Z Hs Bu (λ_ _=>True) (λn cs y i j=>by
  match cs,i with
  |[c0,c1,c2,c3,c4],_=>obtain⟨b,d,e,f,g,rfl,_,rfl,rfl,rfl,rfl⟩:=vO j;exact⟨⟨b,d,e,f,g⟩,F,trivial⟩) h
 grind [YW]
theorem a2K{c:AN}{x:D6 H×List Dw}(h:ET aa AO w base sp ac n 27 [c]=Q x):
  ∃(R:Option An) (a:Nat) (l:List Sz),c= .slice R (ln l) a/\BB 3 w w.1.size R a (Fq l)/\ln l<=Rows.uptoBulk x.1:=by
 have⟨R,a,l,h1,h2,i,j,k,_⟩:=Qi underlying27 pF Z JT ⟨0,0,0⟩ (λ_ _=>True) (λn cs y f g=>by
  match cs,f with
  |[c0,c1,c2],_=>obtain⟨b,d,e,rfl,_,rfl,_,rfl,_⟩:=oU g;exact⟨⟨b,d,e⟩,F,trivial⟩) h
 grind [YW]
theorem a2H{c:AN}{x:D6 H×List Dw}(h:ET aa AO w base sp ac n 31 [c]=Q x):
  ∃(R:Option An) (a:Nat) (l:List Ld),c= .slice R (ln l) a/\BB 3 w w.1.size R a (I6 l)/\ln l<=Rows.uptoBulk x.1:=by
 have⟨R,a,l,h1,h2,i,j,k,_⟩:=Qi underlying31 nv Z Oh Fl (λ_ _=>True) (λn cs y f g=>by
  match cs,f with
  |[c0,c1,c2],_=>obtain⟨b,d,e,rfl,_,rfl,_,rfl⟩:=nV g;exact⟨⟨b,d,e⟩,F,trivial⟩) h
 grind [YW]
theorem a1r{c:AN}{x:D6 H×List Dw}(h:ET aa AO w base sp ac n 32 [c]=Q x):
  ∃(R:Option An) (a:Nat) (l:List Aw),c= .slice R (ln l) a/\BB 5 w w.1.size R a (Em l)/\ln l<=Rows.uptoBulk x.1:=by
 have⟨R,a,l,h1,h2,k,m,o,_⟩:=Qi underlying32 nO Z D4 ⟨0,0,0,0,0⟩ (λ_ _=>True) (λn cs y i j=>by
  match cs,i with
  |[c0,c1,c2,c3,c4],_=>obtain⟨b,d,e,f,g,rfl,_,rfl,_,rfl,_,rfl,_,rfl,_⟩:=vK j;exact⟨⟨b,d,e,f,g⟩,F,trivial⟩) h
 grind [YW]
theorem a6G{c:AN}{x:D6 H×List Dw}(h:ET aa AO w base sp ac n 28 [c]=Q x):
  ∃(R:Option An) (a:Nat) (l:List Br),c= .slice R (ln l) a/\Jr w w.1.size R a l:=by
 obtain⟨R,a,l,h1,⟨h2,r,s⟩,C,I,_,u⟩:=Qi underlying28 oM Z (λt=>JP t.1 t.2.1 t.2.2) (Fy,O,0) (λt _=>BB 2 w _ t.2.1 t.2.2 (J6 t.1.Aa)) (λn cs y A B=>by
  match cs,A with
  |[c0,c1,c2,c3,c4,c5],_=>obtain⟨d,f,g,k,m,N,L,q,rfl,_,rfl,_,rfl,_,rfl,_,rfl,_,rfl,z,_⟩:=pP B;exact⟨(⟨d,f,g,k,m,q⟩,N,L),F,Yh z⟩) h
 refine⟨R,a,l.map (·.1),Al,Al,r,λE=> ?_⟩;obtain⟨b,off,e,v,J⟩:=s Al;refine⟨b,off,e,v,λi hi=> ?_⟩;rw[BL] at hi;have o:(l.map (·.1)).getD i Fy=(l.getD i (Fy,O,0)).1:=Al;refine⟨(l.getD i (Fy,O,0)).2.1,(l.getD i (Fy,O,0)).2.2,λj K=> ?_,?_⟩
 .grind
 rw[o];exact u i _ (Bv D)
theorem om(f:T->Nat)(b:T):∀(l:List T) (a:List (D6 H)),ln a=ln l->(∀(i:Nat) d,a[i]?=Q d->f (l.getD i b)<=Rows.uptoBulk d)->(l.map f).sum<=Rows.uptoBulkAll a
 |[],_,_,_=>AV
 |t::l,[],h,_=>Al
 |t::l,d::a,h,hi=>by
  have e:=hi 0 d F;have g:=om f b l a Al (λi d c=>hi (i+1) d c)
  grind [Rows.uptoBulkAll]
theorem a4Q{c:AN}{x:D6 H×List Dw}(h:ET aa AO w base sp ac n 22 [c]=Q x):
  ∃(R:Option An) (a:Nat) (rs:List (List Sd)),c= .slice R (ln rs) a/\Ew w w.1.size R a rs/\ln rs.flatten<=Rows.uptoBulk x.1:=by
 obtain⟨R,a,l,h1,⟨h2,m,o⟩,j,q,r,g⟩:=Qi underlying22 a4D Z (λt=>[FO t.2.1 (ln t.1) t.2.2]) ([],O,0) (λt d=>BB 7 w _ t.2.1 t.2.2 (Cg t.1)/\ln t.1<=Rows.uptoBulk d) (λn cs y u z=>by
  match cs,u with
  |[c0],_=>obtain⟨R,a,l,rfl,v,f⟩:=a2L z;exact⟨(l,R,a),F,v,f⟩) h
 refine⟨R,a,l.map (·.1),Al,⟨Al,m,λA=> ?_⟩,?_⟩
 .obtain⟨b,off,e,f,hc⟩:=o Al;refine⟨b,off,e,f,λi hi=> ?_⟩;rw[BL] at hi;have k:(l.map (·.1)).getD i []=(l.getD i ([],O,0)).1:=Al;refine⟨(l.getD i ([],O,0)).2.1,(l.getD i ([],O,0)).2.2,?_,?_⟩
  .grind
  rw[k];exact(g i _ (Bv D)).1
 rw[lk,ef];exact BJ (om _ _ l j q (λi d s=>(g i d s).2)) r
theorem a6Z{l:List AN}{x:D6 H×List Dw}(Y:ln l=15)(W:ET aa AO w base sp ac n 34 l=Q x):
  ∃(j:BG) (a:BU),l=(P j a).toList/\EP w w.1.size j a/\ln j.BK.flatten<=Rows.uptoBulk x.1:=by
 obtain⟨c0,l0,rfl,B⟩:=Db Y;obtain⟨c1,l1,rfl,h1⟩:=Db B;obtain⟨c2,l2,rfl,h2⟩:=Db h1;obtain⟨c3,l3,rfl,K⟩:=Db h2;obtain⟨c4,l4,rfl,L⟩:=Db K;obtain⟨c5,l5,rfl,N⟩:=Db L;obtain⟨c6,l6,rfl,R⟩:=Db N;obtain⟨c7,l7,rfl,S⟩:=Db R;obtain⟨c8,l8,rfl,T⟩:=Db S;obtain⟨c9,l9,rfl,U⟩:=Db T;obtain⟨af,aB,rfl,C⟩:=Db U;obtain⟨ag,aC,rfl,D⟩:=Db C;obtain⟨ah,aD,rfl,E⟩:=Db D;obtain⟨ai,aE,rfl,I⟩:=Db E;obtain⟨aj,ae,rfl,J⟩:=Db I;obtain rfl:ae=[]:=Jf.1 J;have⟨xs,m,_,hx,_,c,b⟩:=PT DV W;have⟨y0,am,g⟩:=Cw c b 0 fe F F;have⟨y1,an,i⟩:=Cw c b 1 a5k F F;have⟨y2,aq,q⟩:=Cw c b 2 FP F F;have⟨y3,ar,r⟩:=Cw c b 3 FP F F;have⟨y4,au,s⟩:=Cw c b 4 a5I F F;have⟨y5,av,t⟩:=Cw c b 5 a6n F F;have⟨y6,aw,u⟩:=Cw c b 6 a5g F F;have⟨y7,ax,v⟩:=Cw c b 7 a5w F F;have⟨y8,ay,y⟩:=Cw c b 8 FP F F;have⟨y9,az,z⟩:=Cw c b 9 gJ F F;have⟨aF,ao,k⟩:=Cw c b 10 a5M F F;have⟨aG,ap,o⟩:=Cw c b 11 a6V F F;have⟨xp,mp,_,al,_,Z,X⟩:=PT underlying24 i;have⟨z0,aA,A⟩:=Cw Z X 0 a6X F F;obtain⟨nm,rfl⟩:=wX g;obtain⟨pa,pc,rs,rfl,hr,ak⟩:=a4Q A;obtain⟨og,rfl,_⟩:=Gj q;obtain⟨sg,rfl,_⟩:=Gj r;obtain⟨ua,uc,us,rfl,hu⟩:=a3O s;obtain⟨oa,oc,os,rfl,ho,_⟩:=a1z t;obtain⟨za,zc,zs,rfl,hz,_⟩:=a2K u;obtain⟨ba,bc,d,rfl,V⟩:=a6G v;obtain⟨kf,rfl,_⟩:=Gj y;obtain⟨t0,t1,t2,t3,rfl,_,rfl,_,rfl,_,rfl,_⟩:=nQ z;obtain⟨la,lc,ls,rfl,ab,_⟩:=a2H k;obtain⟨sa,sc,ss,rfl,ad,_⟩:=a1r o;refine⟨⟨nm,rs,og,sg,us,os,zs,d,kf,⟨t0,t1,t2,t3⟩,ls,ss⟩,⟨pa,pc,ua,uc,oa,oc,za,zc,ba,bc,la,lc,sa,sc⟩,F,⟨hr,hu,ho,hz,V,ab,ad⟩,?_⟩;have e:z0.1∈xp.map (·.1):=Al;have f:y1.1∈xs.map (·.1):=Al;have b1:=kU e;have b2:=kU f
 grind [Rows.uptoBulk]
end
end
end
section
open Kp
attribute [local go_sem] Eb Hj Iz J3 Hk Ka Kb Kc J8 Jp Kd Ke JD JE JF Kf Kg Kh
def CG:BG:=⟨[],[],0,0,[],[],[],[],0,⟨0,0,0,0⟩,[],[]⟩
def Cl:BU:=⟨O,0,O,0,O,0,O,0,O,0,O,0,O,0⟩
def sQ(w:V)(B:Nat):EP w B CG Cl:=
 ⟨⟨Z,Z,λh=>absurd h Z⟩,⟨Z,Z,λh=>absurd h Z⟩,⟨Z,Z,λh=>absurd h Z⟩,⟨Z,Z,λh=>absurd h Z⟩,
  ⟨Z,Z,λh=>absurd h Z⟩,⟨Z,Z,λh=>absurd h Z⟩,⟨Z,Z,λh=>absurd h Z⟩⟩
theorem Rl(X:Nat->Prop)(w:V)(B:Nat):Bc X w B CG Cl:=⟨sQ _ _,λ_ _=>sQ _ _⟩
def Iu{fn:Func}{p u:Tmp}(h:fn.results=#[.cell p 34,.tmp u])(tmps:Array AN)(w:V)(g:Nat)(cs:Array AN)
  (c:tmps.getD p Ba=Ap (Q ⟨g,0,O⟩))(a:w.1[g]?=Q (.cells cs 34 (0,0)))(hi:(AO.info? 34).map (·.size)=Q cs.size):
  (results fn tmps).run AO w= .ok (BO #[AW cs,tmps.getD u Ba]) w:=by
 have d:tmps[p]?.getD Ba=Ap (Q ⟨g,0,O⟩):=by simpa using c
 have b:=eJ (P:=AO) w g 34 34 cs (0,0) _ a DV F hi;simp[results,h,d,asAddr,b,Result.andThen]
noncomputable def Hf(j:BG)(e:Ed):Int:=if Eh j≠0 then 1 else if Fs e≠0 then Fs e else if FQ j e≠0 then FQ j e else Eh (Cz j e)
noncomputable def IX(j:BG)(e:Ed):BG:=if Hf j e=0 then Cz j e else CG
structure Tq(j:BG)(e:Ed):Prop where
 sm:Ll j
 ln:Eh j=0->RQ j
 b5E:Eh j=0->Ll (Cz j e)
 idx:e.Ae<=9223372036854775807
def nd{e:Ed}(h:Fs e=0):1<=e.Ab/\e.Ab<=12:=by
 unfold Fs at h;split at h
 .cases h
 omega
theorem b1t(h:Eh j=0):Fi j.BR=0:=by
 unfold Eh at h;split at h
 .cases h
 split at h
 .contradiction
 split at h
 .cases h
 split at h
 .cases h
 split at h
 .contradiction
 rename_i h1;exact Classical.not_not.1 h1
def QW(b:Nat)(e:Ed)(g:AN)(f:Nat):Nat->AN
 |0=> AW UW
 |1=> Ap (Q ⟨b,0,O⟩)
 |2=> M G e.Ab
 |3=> .func (.func f) #[] #[]
 |_=> AW (Ah e g)
def b3y{k:Int}(h1:1<=k)(h2:k<=12){v:AN}(a:UW[k.toNat]?=Q v)(W:V):Sem.run AO (Instr.index 131 (AW UW) (M G k)) W= .ok v W:=by
 rcases(show k=1\/k=2\/k=3\/k=4\/k=5\/k=6\/k=7\/k=8\/k=9\/k=10\/k=11\/k=12 by omega) with h|h|h|h|h|h|h|h|h|h|h|h
 all_goals
  subst h;injection a with a
  subst a
  kernel_rfl
def XN(X:Nat->Prop)(w:V)(j:BG)(e:Ed)(x:CI)(w':V):Prop:=
 ∃a',x=Ac (BO #[AW (P (IX j e) a'),M G (Hf j e)])/\Ext w w'/\Bc X w' w'.1.size (IX j e) a'
def ng(w:V)(j:BG)(a:BU)(e:Ed)(N:Option An)(L:Nat){X:Nat->Prop}(S:Bc X w w.1.size j a)(hg:C8 w w.1.size N L e.Aa)(am:∀W,Cu X w.1.size w W->C8 W W.1.size N L e.Aa)(al:∀b,X b->b<w.1.size)(av:Tq j e)(hm:En w)(ht:CA w):
  AZ AO 42 #[AW (P j a),AW (Ah e (AK N (ln e.Aa) L))] w (XN X w j e):=by
 have⟨W0,t⟩:=AP (((w.alloc (.cells (P j a) 34)).alloc (.cells (Ah e (AK N (ln e.Aa) L)) 54)).alloc (.cells (P CG Cl) 34));have aw:W0.1.size=w.1.size+3:=by rw[<-t];simp
 have J:Ext w W0:=by rw[<-t];exact(((Ad _ _).alloc (AS _) _).alloc AV _).alloc Bk _
 have hJ:JC W0 w.1.size j a:=by rw[<-t];exact JC.ext (JC.ext (Bq w _) ((Ad _ _).alloc (AS _) _)) ((Ad _ _).alloc (AS _) _)
 have hZ:EC W0 (w.1.size+1) (Ah e (AK N (ln e.Aa) L)):=by
  rw[<-t];have:=EC.new (w.alloc (.cells (P j a) 34)) (Ah e (AK N (ln e.Aa) L));rw[D5] at this;exact this.alloc _
 have hR:JC W0 (w.1.size+1+1) CG Cl:=by
  rw[<-t];have:=Bq ((w.alloc (.cells (P j a) 34)).alloc (.cells (Ah e (AK N (ln e.Aa) L)) 54)) (.cells (P CG Cl) 34);rw[D5,D5] at this;exact this
 have H:=A hJ;have HZ:=A hZ;have r:=A hR;have q:=A J;have HW:=A (show((w.alloc (.cells (P j a) 34)).alloc (.cells (Ah e (AK N (ln e.Aa) L)) 54)).alloc (.cells #[AT {data:=#[]},AK O 0 0,M G 0,M G 0,AK O 0 0,AK O 0 0,AK O 0 0,AK O 0 0,M G 0,M G 0,M G 0,M G 0,M G 0,AK O 0 0,AK O 0 0] 34)=W0 from t);have aO:=A aw;have ap:=A av;have KJ:=A (λ(W:V) (h:Ext W0 W)=>VR W j a (S.toEP.grow (J.tr h)) av.sm (hm.below (J.tr h) (AS _)) (ht.below (J.tr h) (AS _)));have HG:=A (λ(W:V) (h:Ext W0 W)=>((hg.below (J.tr h)).more (J.tr h).size:C8 W W.1.size N L e.Aa));have KF:=A (λ(W:V) (h:Ext W0 W)=>fx W e N L (HG W h));have⟨x,hx⟩:=AP (Eh j);have HX:=A hx;simp only[hx] at KJ;have hz:=aw;clear aw hJ hZ hR J av;by_cases ao:x=0
 .subst ao;have⟨y,hy⟩:=AP (Fs e);simp only[hy] at KF;by_cases ah:y=0
  .subst ah;have⟨k1,k2⟩:=nd hy;have aF:=b1t hx;have KX:=λ(W:V) (h:Ext W0 W)=>b03 W w.1.size j a e N L ⟨k1,k2⟩ (H.ext h) (S.below (q.tr h)) (ap.ln hx) aF (Yh (hg.below (q.tr h))) (λW' hO=>Yh (am W' (hO.below (q.tr h)))) ap.idx
   have⟨f,hf,eg,_⟩:=KX W0 (Ad _ _);have ak:=A (λ(W:V) (h:Ext W0 W)=>(show AZ AO f #[Ap (Q ⟨w.1.size,0,O⟩),AW (Ah e (AK N (ln e.Aa) L))] W λx w'=>x=Ac (M G (FQ j e))/\CE w.1.size W w'/\(FQ j e=0->∃a',Dl X w.1.size W w' (Cz j e) a') from by
    have⟨f',aC,_,hc⟩:=KX W h;rw[hf] at aC;injection aC with h1
    injection h1 with h2
    injection h2 with h3
    subst h3;exact hc))
   have aG:=A (b3y k1 k2 hf);have EG:=A eg;have HK:=A (Ci k1 k2);have HM:=A hm;have HT:=A ht;have ar:=A hx;have aB:=A hy;have aH:=A al;clear hx hy aF KX hf eg S hg am al hm ht t;go_enter func42,ntmps42;go_upto_region 1 with(fail)
   rw[HW.o];go_wp2_with(first
    |(go_at_call 41;refine(KJ _ (Ad _ _)).q λW1 d=>?_;have ad:=A (r.ext d);have aj:=A (HZ.ext d);have ay:=A (H.ext d);have I:=A d;clear d)
    |(go_at_call 56;refine(KF _ I).q λY R=>?_;have aq:=A (Ext.tr I R);have aP:=R;clear R)
    |(refine Ce rfl 34 _ rfl _ rfl 34 _ (0,0) _ H DV rfl U ?_)
    |(refine Ce rfl 54 _ rfl _ rfl 54 _ (0,0) _ aj Cc rfl U ?_))
   refine Fz U (Pq 5
    (λw'=>Ext W0 w') (λi v _=>v=QW (w.1.size+1) e (AK N (ln e.Aa) L) f i) (λ_=>AM) U (λ_ _ h k=>h.tr k) (λ_ _ _ _ h _=>h) (λ_ _ _ _ h=>Aq) ?step ?tail _ (aq.tr (Ext.dr _)))
   case step=>
    intro i vs w' hi hD hd;rcases(show i=0\/i=1\/i=2\/i=3\/i=4 by omega) with rfl|rfl|rfl|rfl|rfl<;>clear hi<;>refine DC rfl (λK hK=> ?_)
    .go_simp;refine(a3R _).q λs aJ=>?_;exact hK _ _ ⟨_,F,aJ,F,λh=>Aq⟩
    .exact Ek
    .have d1:=hd 1 U;simp only[QW] at d1;have m:=(HZ.ext hD).cell 0;go_simp;exact hK _ _ ⟨QW (w.1.size+1) e (AK N (ln e.Aa) L) f 2,by simp[QW,d1],Ext.B9 _,rfl,λh=>Aq⟩
    .have d0:=hd 0 U;have d2:=hd 2 U;simp only[QW] at d0 d2;have aQ:=aG.o;go_simp;exact hK _ _ ⟨QW (w.1.size+1) e (AK N (ln e.Aa) L) f 3,by simp[QW,d0,d2],Ext.B9 _,rfl,λh=>Aq⟩
    exact NA 54 (.tmp 3) F (w.1.size+1) F 54 _ (0,0) _ (HZ.ext hD) Cc F U (hK _ _ ⟨QW (w.1.size+1) e (AK N (ln e.Aa) L) f 4,by simp[QW,G7,B7],Ext.B9 _,rfl,λh=>Aq⟩)
   case tail=>
    intro vs w' hD hV _;have v3:=hV 3 D;have v4:=hV 4 D;simp only[QW] at v3 v4;have g:=A hD;have eg:=EG.o;clear hV hD;simp only[v3,v4,FV,FY];have⟨z,ab⟩:=AP (FQ j e);simp only[ab] at ak;by_cases ai:z=0
    .subst ai;have au:=A (λ(W:V) (a':BU) (h:Ext w W) (S:EP W W.1.size (Cz j e) a')=>VR W (Cz j e) a' S (ap.b5E ar) (HM.below h (AS _)) (HT.below h (AS _)));have⟨u,hu⟩:=AP (Eh (Cz j e));simp only[hu] at au;have c:Hf j e=u:=by unfold Hf;rw[ar.o,aB.o,ab,hu,Af Z,Af Z,Af Z]
     by_cases an:u=0
     .subst an;have l:IX j e=Cz j e:=by unfold IX;rw[c,Aj rfl]
      have n:=A (Ci c l);clear c l hu ab v3 v4;go_wp2_with(first
       |(go_at_call 41;have aI:=E;refine(au _ _ ((q.tr g).trans C.below) E.at_).q λW4 B=>?_;have ae:=A (JC.ext aa B);have az:=A (JC.ext (show JC s w.1.size (Cz j e) a' from ac) B);have af:=A B;clear B)
       |(go_at_fn f;refine(ak _ g).q ?_;rintro s ⟨o,ag⟩;have⟨a',T⟩:=ag F;have C:=A o;have E:=A T;have aa:=A ((o.Gi _ (r.ext g).lt D).trans (r.ext g));have ac:=A (show s.1[w.1.size]?=Q (.cells (P (Cz j e) a') 34 (0,0)) from T.2.1);clear o ag T)
       |(refine Ce rfl 34 _ rfl _ rfl 34 _ (0,0) _ az DV rfl U ?_)
       |(refine Ce rfl 34 _ rfl _ rfl 34 _ (0,0) _ ac DV rfl U ?_)
       |(refine C7 rfl 34 _ _ rfl _ _ rfl rfl 34 _ ae U U U ?_))
      refine Bp (Iu F _ _ _ _ F (setRow_heap ae _) U) F ?_;have aR:=(r.ext g).lt;have aN:Ext w W4:=Ext.tr ((q.tr g).trans C.below) af;have aD:∀b,b<s.1.size->b≠w.1.size+1+1->(W4.setRow (w.1.size+1+1) (P (Cz j e) a')).1[b]?=s.1[b]?:=by
       intro b aK aL;exact(Hc _ _ aL).trans (af.block b aK)
      have ax:s.1.size<=(W4.setRow (w.1.size+1+1) (P (Cz j e) a')).1.size:=BJ af.size (CL (Ad w.1.size W4) D _).size;have aE:∀b,(b<w.1.size/\¬X b)\/w'.1.size<=b->b≠w.1.size+1+1:=λb h=>by rcases h with h|h<;>omega
      have aM:∀b,(b<w.1.size/\¬X b)\/w'.1.size<=b->¬X b:=λb h hq=>by
       have:=aH b hq;rcases h with h|h
       .exact h.2 hq
       omega
      exact⟨a',by rw[n.1,n.2];rfl,CL aN D _,by rw[n.2];exact⟨E.2.2 _ ⟨ax,λb h1 h2=>aD b h1 (aE b h2)⟩,λW hO=>E.2.2 W ⟨BJ ax hO.1,λb h1 h2=>(hO.2 b (Dj h1 ax) (aM b h2)).trans (aD b h1 (aE b h2))⟩⟩⟩
     have aS:(u !=0)=AL:=by rw[Cd];exact an
     have l:IX j e=CG:=by unfold IX;rw[c,Af an]
     have n:=A (Ci c l);clear c l hu ab v3 v4 an;go_wp2_with(first
      |(go_at_call 41;have aI:=E;refine(au _ _ ((q.tr g).trans C.below) E.at_).q λW4 B=>?_;have ae:=A (JC.ext aa B);have az:=A (JC.ext (show JC s w.1.size (Cz j e) a' from ac) B);have af:=A B;clear B)
      |(go_at_fn f;refine(ak _ g).q ?_;rintro s ⟨o,ag⟩;have⟨a',T⟩:=ag F;have C:=A o;have E:=A T;have aa:=A ((o.Gi _ (r.ext g).lt D).trans (r.ext g));have ac:=A (show s.1[w.1.size]?=Q (.cells (P (Cz j e) a') 34 (0,0)) from T.2.1);clear o ag T)
      |(refine Ce rfl 34 _ rfl _ rfl 34 _ (0,0) _ ac DV rfl U ?_)
      |(refine JL rfl 34 _ rfl U ?_;rw[show Ea (FF (AO.built 34 _) #[])=AW (P CG Cl) from U])
      |(refine C7 rfl 34 _ _ rfl _ _ rfl rfl 34 _ ae U U U ?_))
     refine Bp (Iu F _ _ _ _ F (setRow_heap ae _) U) F ?_;exact⟨Cl,by rw[n.1,n.2];rfl,CL (Ext.tr ((q.tr g).trans C.below) af) D _,by rw[n.2];exact Rl _ _ _⟩
    have aV:(z !=0)=AL:=by rw[Cd];exact ai
    have c:Hf j e=z:=by unfold Hf;rw[ar.o,aB.o,ab,Af Z,Af Z,Aj ai]
    have l:IX j e=CG:=by unfold IX;rw[c,Af ai]
    have n:=A (Ci c l);clear c l ab v3 v4 ai;go_wp2_with(first
     |(go_at_fn f;refine(ak _ g).q ?_;rintro s ⟨o,_⟩;have C:=A o;have aa:=A ((o.Gi _ (r.ext g).lt D).trans (r.ext g));clear o)
     |(refine JL rfl 34 _ rfl U ?_;rw[show Ea (FF (AO.built 34 _) #[])=AW (P CG Cl) from U])
     |(refine C7 rfl 34 _ _ rfl _ _ rfl rfl 34 _ aa U U U ?_))
    refine Bp (Iu F _ _ _ _ F (setRow_heap aa _) U) F ?_;exact⟨Cl,by rw[n.1,n.2];rfl,CL ((q.tr g).trans C.below) D _,by rw[n.2];exact Rl _ _ _⟩
  have aU:(y !=0)=AL:=by rw[Cd];exact ah
  have c:Hf j e=y:=by unfold Hf;rw[hx,hy,Af Z,Aj ah]
  have l:IX j e=CG:=by unfold IX;rw[c,Af ah]
  unfold XN;rw[c,l];clear hx hy ah c l S hg am al hm ht t;go_enter func42,ntmps42;go_upto_region 1 with(fail)
  rw[HW.o];go_wp2_with(first
   |(go_at_call 41;refine(KJ _ (Ad _ _)).q λW1 d=>?_;have ad:=A (r.ext d);have aj:=A (HZ.ext d);have ay:=A (H.ext d);have I:=A d;clear d)
   |(go_at_call 56;refine(KF _ I).q λY R=>?_;have aA:=A (ad.ext R);have aq:=A (Ext.tr I R);clear R)
   |(refine Ce rfl 34 _ rfl _ rfl 34 _ (0,0) _ H DV rfl U ?_)
   |(refine Ce rfl 54 _ rfl _ rfl 54 _ (0,0) _ aj Cc rfl U ?_)
   |(refine JL rfl 34 _ rfl U ?_;rw[show Ea (FF (AO.built 34 _) #[])=AW (P CG Cl) from U])
   |(refine C7 rfl 34 _ _ rfl _ _ rfl rfl 34 _ aA U U U ?_))
  refine Bp (Iu F _ _ _ _ F (setRow_heap aA _) U) F ?_;exact⟨Cl,F,CL (q.tr aq) D _,Rl _ _ _⟩
 have aT:(x !=0)=AL:=by rw[Cd];exact ao
 have c:Hf j e=1:=by unfold Hf;rw[hx,Aj ao]
 have l:IX j e=CG:=by unfold IX;rw[c];rfl
 unfold XN;rw[c,l];clear hx ao c l S hg am al hm ht t;go_enter func42,ntmps42;go_upto_region 1 with(fail)
 rw[HW.o];go_wp2_with(first
  |(go_at_call 41;refine(KJ _ (Ad _ _)).q λW1 d=>?_;have ad:=A (r.ext d);have aj:=A (HZ.ext d);have ay:=A (H.ext d);have I:=A d;clear d)
  |(refine Ce rfl 34 _ rfl _ rfl 34 _ (0,0) _ H DV rfl U ?_)
  |(refine JL rfl 34 _ rfl U ?_;rw[show Ea (FF (AO.built 34 _) #[])=AW (P CG Cl) from U])
  |(refine C7 rfl 34 _ _ rfl _ _ rfl rfl 34 _ ad U U U ?_))
 refine Bp (Iu F _ _ _ _ F (setRow_heap ad _) U) F ?_;exact⟨Cl,F,CL (q.tr I) D _,Rl _ _ _⟩
end
section
open Kp
attribute [local go_sem] Eb Hj
theorem C8.off{B:Nat}{l:List (Int×Int)}(h:C8 w B N L l)(c:w.1.size<=W.1.size)(a:∀b,b<B->W.1[b]?=w.1[b]?):C8 W B N L l:=by
 have q:C8 {w with heap:=W.1} B N L l:=h.below ⟨F,F,F,c,a⟩;exact q
def a3Q(w:V)(j:BG)(a:BU)(e:Ed)(N:Option An)(L:Nat)(d:EP w w.1.size j a)(l:C8 w w.1.size N L e.Aa)(q:Tq j e)(hm:En w)(r:CA w):
  AZ AO 35 #[AW (P j a),AW (Ah e (AK N (ln e.Aa) L))] w λx w'=>x=Ac (M G (Hf j e))/\Ext w w':=by
 have c:Ext w ((w.alloc (.cells (P j a) 34)).alloc (.cells (Ah e (AK N (ln e.Aa) L)) 54)):=((Ad _ _).alloc (AS _) _).alloc AV _;have f:=A c;have s:=A (JC.ext (Bq w _:JC (w.alloc (.cells (P j a) 34)) w.1.size j a) ((Ad _ _).alloc (AS _) (.cells (Ah e (AK N (ln e.Aa) L)) 54)));have t:=A (show EC ((w.alloc (.cells (P j a) 34)).alloc (.cells (Ah e (AK N (ln e.Aa) L)) 54)) (w.1.size+1) (Ah e (AK N (ln e.Aa) L)) by
  have:=EC.new (w.alloc (.cells (P j a) 34)) (Ah e (AK N (ln e.Aa) L));rw[D5] at this;exact this)
 have i:=A (ng _ j a e N L (X:=λ_=>False) ((d.grow c).v (AS _) (λ_ _ h=>h)) ((l.below c).more c.size) (λW k=>((l.below c).off k.1 λb d=>k.2 b (Dj d c.size) id).more (BJ c.size k.1)) (λ_ h=>h.elim) q (hm.below c (AS _)) (r.below c (AS _)));have⟨z,m⟩:=AP (Hf j e);have⟨j',o⟩:=AP (IX j e);unfold XN at i;simp only[m,o] at i;rw[m];clear m o d l q hm r c;go_enter func35,ntmps35;go_wp2_with(first
  |(go_at_call 42;refine i.mono ?_;rintro x1 W1 ⟨a',rfl,n,_⟩;have g:=A n;clear n)
  |(refine Ce rfl 34 _ rfl _ rfl 34 _ (0,0) _ s DV rfl U ?_)
  |(refine Ce rfl 54 _ rfl _ rfl 54 _ (0,0) _ t Cc rfl U ?_)
  |(refine C7 rfl 34 _ _ rfl _ _ rfl rfl 34 _ (Bq W1 _) U U U ?_))
 go_ret;exact⟨F,CL ((f.tr g).alloc (f.tr g).size _) (f.tr g).size _⟩
end
section
open Kp
def JO(t e:Bb)(k:Nat):Prop:=AO.underlying t=Q (.slice e)∧∃(i:TypeInfo) (z:AN),AO.info? e=Q i∧i.zero=Q z∧i.size=k∧z.cells.size=k∧0<k∧i.bytes≤4096
theorem Ru{t e:Bb}{k b:Nat}{z:AN}(hu:AO.underlying t=Q (.slice e))(h:(AO.info? e).map (fun i=>(i.zero,i.size,i.bytes))=Q (Q z,k,b))(c:z.cells.size=k)(hk:0<k)(d:b≤4096):JO t e k:=by
 obtain⟨i,hi,a,h1,h2⟩:=DM h
 exact⟨hu,i,z,hi,a,h1,c,hk,by omega⟩
def T3:JO 25 3 1:=Ru FD Vd rfl Z Z
def xM:JO 26 43 5:=Ru underlying26 cn rfl Z Z
def Zy:JO 27 45 3:=Ru underlying27 cI rfl Z Z
def wk:JO 28 48 6:=Ru underlying28 cF rfl Z Z
def wv:JO 31 50 3:=Ru underlying31 cP rfl Z Z
def Uz:JO 32 52 5:=Ru underlying32 Vi rfl Z Z
def xF:JO 117 40 7:=Ru underlying117 rB rfl Z Z
def xN:JO 22 117 1:=Ru underlying22 nY rfl Z Z
theorem rm(T:JO t e k)(w:V)(base:Nat)(ty:Bb){v:AN}(a:w.ownsRow base e k v n xs){B:Nat}{rows:List (List AN)}(b:BB k w B R c rows)
  (hm:ln rows=m)(hw:DG k rows)(h1:GL rows)(f:n+m<=4000000)(o:base<=w.1.size):
  ∃v' w',(JN #[t,t] ty #[v,AK R m c]).run AO w= .ok v' w'/\w'.ownsRow base e k v' (n+m) (xs++rows.flatten)/\w.grownBy w' v.ownBlock:=by
 obtain⟨hu,i,z,hi,A,x,C,hk,j⟩:=T;subst hm;cases R with
 |none=>
  have d:rows=[]:=by
   cases rows with
   |nil=>rfl
   |cons r l=>obtain⟨_,_,e,_⟩:=b.2.2 AV;cases e
  subst d;refine⟨v,w,?_,Al,World.grownBy.refl _ _⟩;rcases a.2 with⟨rfl,rfl⟩|⟨g,D,cur,rfl,_,_,q,_⟩
  .simp[JN,QE hu,sizeOf,typeInfo,hi,Builtin.lenOf,Builtin.firstCells]
  simp[JN,QE hu,sizeOf,typeInfo,hi,Builtin.lenOf,Builtin.firstCells,q,storeCells]
 |some p=>
  obtain⟨v',w',h2,E,H,_⟩:=mP w base t ty e i z k _ hu hi A x F C hk v n xs a p _ c _ (LF hw) (b.ZW hw hk)
   (λu hu=>by obtain⟨r,s,y⟩:=S8.1 hu;exact h1 r s u y) (by grind [BM]) (BJ (OZ f j) Z) o
  grind
theorem a4a(T:JO t e k)(w:V)(ty:Bb)(l:w.1[g]?=Q (.cells #[] e (0,0)))(u:base<=g){B:Nat}{rows:List (List AN)}(a:BB k w B R c rows)
  (hm:ln rows=m)(hw:DG k rows)(h1:GL rows)(A:m<=4000000):
  ∃v' w',(JN #[t,t] ty #[AK (Q ⟨g,0,O⟩) 0 0,AK R m c]).run AO w= .ok v' w'/\w'.ownsRow base e k v' m rows.flatten/\Ext w w':=by
 have f:w.ownsRow base e k _ 0 []:=⟨AV,.inr ⟨g,0,#[],rfl,u,l,AS _,Al,AV,AV⟩⟩;have C:=(Ee.1 l).1;by_cases d:m=0
 .obtain⟨hu,i,z,hi,r,q,v,hk,j⟩:=T;obtain rfl:rows=[]:=Jf.1 (hm.trans d);subst d;refine⟨AK _ 0 0,w,?_,f,Ext.B9 _⟩;cases R with
  |none=>simp[JN,QE hu,sizeOf,typeInfo,hi,Builtin.lenOf,Builtin.firstCells,storeCells]
  |some p=>simp[JN,QE hu,sizeOf,typeInfo,hi,Builtin.lenOf,Builtin.firstCells,storeCells,loadCells,loadCellsFrom]
 obtain⟨v',w',n,h2,y⟩:=rm T w base ty f a hm hw h1 D D;obtain⟨hu,i,z,hi,r,q,v,hk,j⟩:=T;obtain⟨p,rfl⟩:∃p,R=Q p:=by obtain⟨b,off,e,_⟩:=a.2.2 D;grind
 have o:=run_append_grow (ty:=ty) w t e i z hu hi r ⟨g,0,O⟩ 0 0 [] AV AV p m c _ (by rw[LF hw,q,hm]) (a.ZW hw hk) D D (mO D (BJ (OZ (show 0+m<=4000000 by omega) j) Z));rw[n] at o;injection o with x s
 exact⟨v',w',n,Al,by rw[s];exact(Ad _ _).drew.alloc (AS _) _⟩
theorem b3C(T:JO t e k){o:Oper}{a:BV}{K:BV->V->Prop}{b:Exit->BV->V->Prop}(s x:F0)(i:o.op= .call {callee:= .builtin .append,args:=#[s,x],argTypes:=#[t,t]})
  (base:Nat){v:AN}(q:a.eval s=v)(j:w.ownsRow base e k v n xs){B:Nat}{rows:List (List AN)}(hx:a.eval x=AK R m c)(p:BB k w B R c rows)
  (hm:ln rows=m)(hw:DG k rows)(h1:GL rows)(f:n+m<=4000000)(g:base<=w.1.size)
  (h:∀v' w',w'.ownsRow base e k v' (n+m) (xs++rows.flatten)->w.grownBy w' v.ownBlock->K (a.put o.dst v') w'):Oper.wp AO o a w K b:=by
 have⟨v',w',l,h2,d⟩:=rm T w base o.type j p hm hw h1 f g;unfold Oper.wp execOp;simp[i,resolve,invoke,builtin,Ug,Uh,Ul,Z5,SN,Wu,q,hx,l];exact h v' w' h2 d
theorem dP(T:JO t e k){ops:Array Oper}{rest:List Oper}{o:Oper}{a:BV}{b:Exit->BV->V->Prop}(j:o.guard=O)(s x:F0)(l:o.op= .call {callee:= .builtin .append,args:=#[s,x],argTypes:=#[t,t]})
  (base:Nat){v:AN}(r:a.eval s=v)(p:w.ownsRow base e k v n xs){B:Nat}{rows:List (List AN)}(hx:a.eval x=AK R m c)(q:BB k w B R c rows)
  (hm:ln rows=m)(hw:DG k rows)(h1:GL rows)(f:n+m<=4000000)(i:base<=w.1.size)
  (h:∀v' w',w'.ownsRow base e k v' (n+m) (xs++rows.flatten)->w.grownBy w' v.ownBlock->CQ AO ops b rest (a.put o.dst v') w'):CQ AO ops b (o::rest) a w:=
 eZ j λ_ g=>b3C T s x l base r p hx q hm hw h1 f i (λv' w' h2 d=>g _ _ (h v' w' h2 d))
theorem b1l(h:Az w b e r):BB k w (b+1) (Q ⟨b,0,O⟩) 1 [r]:=
 ⟨AS _,by grind [BM],λ_=>⟨b,0,rfl,Wk b,λi hi j a=>by
  obtain rfl:i=0:=Al;rw[show 0+k*0+j=j by omega,h.cell j];rfl⟩⟩
def Si(w:V)(base:Nat)(e:Bb)(k:Nat)(a:base<=w.1.size):(w.alloc (.cells #[] e)).ownsRow base e k (AK (Q ⟨w.1.size,0,O⟩) 0 0) 0 []:=
 by grind [World.ownsRow_made]
theorem bm(T:JO t e k){ops:Array Oper}{rest:List Oper}{o:Oper}{a:BV}{A:Exit->BV->V->Prop}(E:o.guard=O)(s x:F0)(H:o.op= .call {callee:= .builtin .append,args:=#[s,x],argTypes:=#[t,t]})
  (base:Nat){v:AN}(J:a.eval s=v)(I:wr.ownsRow base e k v n xs)(C:Ext wr W1)(hw:w=W1.alloc (.cells r.toArray e))(hx:a.eval x=AK (Q ⟨q,0,O⟩) 1 1)(l:q=W1.1.size)(K:ln r=k)
  (h1:∀u∈r,u.oneCell'=AL)(B:n+1<=4000000)(j:base<=wr.1.size)
  (h:∀v' w',w'.ownsRow base e k v' (n+1) (xs++r)->At base wr w'->(∀g f m v' y z,f≠e->wr.ownsRow g f m v' y z->w'.ownsRow g f m v' y z)->CQ AO ops A rest (a.put o.dst v') w'):CQ AO ops A (o::rest) a w:=by
 subst hw l;have d:Ext wr (W1.alloc (.cells r.toArray e)):=C.tr ((Ad _ _).alloc (AS _) _);have i:=EV I d;refine dP T E s x H base J i hx (b1l (Az.new W1 e r)) F (λq l=>Al) (λq l=>Al) B (BJ j d.size) ?_;intro v' w' h2 c;refine h v' w' Al ?_ (λg f m v' y z G h=>VO (EV h d) i c G);exact(d.mono j).trans ⟨c.os,c.tape,c.output,c.size,λb D=>c.block b (Dj D (BJ j d.size)) (λq=>by have:=(DS i b q.symm).1;omega)⟩
theorem Mq(T:JO t e k){ops:Array Oper}{rest:List Oper}{o:Oper}{a:BV}{b:Exit->BV->V->Prop}(g:o.guard=O)(s x:F0)(i:o.op= .call {callee:= .builtin .append,args:=#[s,x],argTypes:=#[t,t]})
  (base:Nat){v:AN}(m:a.eval s=v)(j:wr.ownsRow base e k v n xs)(d:Ext wr W1)(hw:w=W1.alloc (.cells r.toArray e))(hx:a.eval x=AK (Q ⟨W1.1.size,0,O⟩) 1 1)(l:ln r=k)
  (h1:∀u∈r,u.oneCell'=AL)(c:n+1<=4000000)(f:base<=wr.1.size)
  (h:∀v' w',w'.ownsRow base e k v' (n+1) (xs++r)->At base wr w'->CQ AO ops b rest (a.put o.dst v') w'):CQ AO ops b (o::rest) a w:=
 by grind [bm]
theorem bz(T:JO t e k){ops:Array Oper}{rest:List Oper}{o:Oper}{a:BV}{d:Exit->BV->V->Prop}(j:o.guard=O)(s x:F0)(l:o.op= .call {callee:= .builtin .append,args:=#[s,x],argTypes:=#[t,t]})
  (g:Ext wr W1)(hw:w=W1.alloc (.cells #[] e))(u:a.eval s=AK (Q ⟨W1.1.size,0,O⟩) 0 0){rows:List (List AN)}(hx:a.eval x=AK R m c)(r:BB k wr wr.1.size R c rows)
  (hm:ln rows=m)(v:DG k rows)(h1:GL rows)(y:m<=4000000)
  (h:∀v' w',w'.ownsRow wr.1.size e k v' m rows.flatten->Ext wr w'->CQ AO ops d rest (a.put o.dst v') w'):CQ AO ops d (o::rest) a w:=by
 subst hw;have b:Ext wr (W1.alloc (.cells #[] e)):=g.tr ((Ad _ _).alloc (AS _) _);have f:=Si W1 _ e k g.size;refine dP T j s x l _ u f hx (r.below b) hm v h1 D b.size ?_;intro v' w' h2 i;exact h v' w' Al (KY b i (λq n=>(DS f q n).1))
def T4(w:V)(j:BG)(a:BU)(C:Array AN){X:Nat->Prop}{B:Nat}(d:Bc X w w.1.size j a)(c:B=w.1.size):∃W0,((w.alloc (.cells (P j a) 34)).alloc (.cells C 54)).alloc (.cells (P CG Cl) 34)=W0/\W0.1.size=B+3/\Ext w W0/\JC W0 B j a/\
  EC W0 (B+1) C/\JC W0 (B+1+1) CG Cl/\Bc X W0 B j a:=by
 subst c;have b:Ext w (((w.alloc (.cells (P j a) 34)).alloc (.cells C 54)).alloc (.cells (P CG Cl) 34)):=(((Ad _ _).alloc (AS _) _).alloc AV _).alloc Bk _;refine⟨_,F,AV,b,?_,?_,?_,d.below b⟩
 .exact JC.ext (JC.ext (Bq w _) ((Ad _ _).alloc (AS _) _)) ((Ad _ _).alloc (AS _) _)
 .have:=EC.new (w.alloc (.cells (P j a) 34)) C;rw[D5] at this;exact this.alloc _
 have:=Bq ((w.alloc (.cells (P j a) 34)).alloc (.cells C 54)) (.cells (P CG Cl) 34);rw[D5,D5] at this;exact this
theorem Qo(h:Hid (((w.alloc (.cells (P j a) 34)).alloc (.cells C 54)).alloc (.cells (P CG Cl) 34)=W0)):
  ((w.alloc (.cells (P j a) 34)).alloc (.cells C 54)).alloc (.cells #[AT {data:=#[]},AK O 0 0,M G 0,M G 0,AK O 0 0,AK O 0 0,AK O 0 0,AK O 0 0,M G 0,M G 0,M G 0,M G 0,M G 0,AK O 0 0,AK O 0 0] 34)=W0:=h.o
def Gg(X:Nat->Prop)(w:V)(E:Int)(J:BG)(x:CI)(w':V):Prop:=
 ∃a',x=Ac (BO #[AW (P (if E=0 then J else CG) a'),M G E])/\Ext w w'/\Bc X w' w'.1.size (if E=0 then J else CG) a'
theorem WI{X:Nat->Prop}(b:E≠0){B:Nat}(a:B=w.1.size)(hx:Ext w W)(C:Array AN):Gg X w E J (Ac (BO #[AW (P CG Cl),M G E])) (W.setRow (B+1+1) C):=
 ⟨Cl,Al,CL hx D _,by grind [Rl]⟩
theorem Bc.off{X:Nat->Prop}(h:∀c,K.1.size<=c.1.size->(∀b,b<K.1.size->¬X b->c.1[b]?=K.1[b]?)->EP c c.1.size J a):Bc X K K.1.size J a:=
 ⟨h K (AS _) (λ_ _ _=>rfl),λc d=>h c d.1 d.2⟩
theorem xL{X:Nat->Prop}(i:∀b,X b->b<w.1.size){B:Nat}(d:B=w.1.size)(k:W0.1.size=B+3)(c:Ext w W0)(h:Dl X B W0 Y J a')(C:Array AN):
  Ext w (Y.setRow (B+1+1) C)/\Bc X (Y.setRow (B+1+1) C) (Y.setRow (B+1+1) C).1.size J a':=by
 subst d;have f:Y.1.size<=(Y.setRow (w.1.size+1+1) C).1.size:=(CL (Ad w.1.size Y) D _).size;refine⟨CL (c.trans h.1.below) D _,Bc.off (λa h1 h2=>h.2.2 a ⟨BJ f h1,λb j g=> ?_⟩)⟩;have e:¬X b:=Al;refine(h2 b D e).trans ?_;simp[F8];grind
theorem UC{X:Nat->Prop}(d:∀b,X b->b<w.1.size){B:Nat}(c:B=w.1.size)(e:W0.1.size=B+3)(a:Ext w W0)(f:E=0)(h:Dl X B W0 Y J a'):
  Gg X w E J (Ac (BO #[AW (P J a'),M G 0])) (Y.setRow (B+1+1) (P J a')):=by
 obtain⟨h1,h2⟩:=xL d c e a h _;exact⟨a',Al,h1,Al⟩
def Yx(X:Nat->Prop)(w:V)(J:BG)(x:CI)(w':V):Prop:=∃a,x=Ac (AW (P J a))/\Ext w w'/\Bc X w' w'.1.size J a
theorem qW{X:Nat->Prop}(d:∀b,X b->b<w.1.size){B:Nat}(c:B=w.1.size)(e:W0.1.size=B+3)(a:Ext w W0)(h:Dl X B W0 Y J a'):Yx X w J (Ac (AW (P J a'))) (Y.setRow (B+1+1) (P J a')):=by
 obtain⟨h1,h2⟩:=xL d c e a h _;exact⟨a',F,h1,h2⟩
theorem XP{B i n:Nat}{v:AN}(a:Ext W0 W)(h:W0.1[n]?=Q (.cells cs t (0,0)))(hn:n≠B):(W.setCell ⟨B,i,O⟩ v).1[n]?=Q (.cells cs t (0,0)):=
 (Gp _ _ _ _ hn).trans ((a.block n (Ee.1 h).1).trans h)
theorem b0s{W0 c:V}{B i:Nat}{v x:AN}(d:CE B W0 c)(l:c.1[B]?=Q (.cells ((P j a).setIfInBounds i v) 34 (0,0)))(f:JC W0 B j a)(hi:(P j a)[i]?=Q x):
  Ext W0 (c.setCell ⟨B,i,O⟩ x)/\(c.setCell ⟨B,i,O⟩ x).setCell ⟨B,i,O⟩ v=c:=by
 have m:(P j a).setIfInBounds i x=P j a:=by
  grind
 have h1:(c.setCell ⟨B,i,O⟩ x).1[B]?=Q (.cells (P j a) 34 (0,0)):=by
  simp[Di]
  grind [Array.setIfInBounds_setIfInBounds]
 refine⟨⟨d.below.os,d.below.tape,d.below.output,by simpa[Di] using d.below.size,λb g=> ?_⟩,?_⟩
 .by_cases h:b=B
  .subst h;exact h1.trans f.symm
  exact(Gp _ _ _ _ h).trans (d.Gi b g h)
 have e:((c.setCell ⟨B,i,O⟩ x).setCell ⟨B,i,O⟩ v).1=c.1:=by
  apply eO;intro k;by_cases h:k=B
  .subst h;rw[l];have h2:=h1;generalize c.setCell _ x=K at h2⊢;simp only[Di,IT,h2];simp
  grind [Below.heap_setCell]
 show({c with heap:=((c.setCell _ x).setCell _ v).1})={c with heap:=c.1};rw[e]
theorem CE.grow(h:CE c w W)(e:c<=w.1.size)(a:At w.1.size W W'):CE c w W':=
 ⟨h.below.trans (a.mono e),λb d hn=>(a.block b d).trans (h.Gi b d hn)⟩
def Km(W:V)(B:Nat)(j:BG)(a:BU)(i:Nat)(v:AN):Prop:=W.1[B]?=Q (.cells ((P j a).setIfInBounds i v) 34 (0,0))
theorem Km.of{B i:Nat}(h:JC W B j a)(v:AN):Km (W.setCell ⟨B,i,O⟩ v) B j a i v:=by
 unfold Km;simp only[Di,IT,show W.1[B]?=Q _ from h];simp
theorem Km.put{B i:Nat}{v:AN}(h:Km W B j a i v)(v':AN):Km (W.setCell ⟨B,i,O⟩ v') B j a i v':=by
 unfold Km at *;simp only[Di,IT,h];simp
theorem Km.cell{B i:Nat}{v:AN}(h:Km W B j a i v)(hi:i<15):W.cell? ⟨B,i,O⟩=Q v/\W.frozen? ⟨B,i,O⟩=AM:=by
 unfold Km at h;refine⟨?_,by simp[Hb,h]⟩;simp[Dx,h,Hj,hi]
theorem Km.same{B i:Nat}{v:AN}(h:Km W B j a i v)(b:At n W W')(hn:B<n):Km W' B j a i v:=(b.block B hn).trans h
theorem Vl(h:p:=by
  go_wp2_with(first
   |(refine Ce rfl 34 _ rfl _ rfl 34 _ (0,0) _ aa DV rfl U ?_)
   |(refine C7 rfl 34 _ _ rfl _ _ rfl rfl 34 _ (XP (B:=B) f T D) U U U ?_))
  first
   |refine Bp (Iu rfl _ _ _ _ rfl (setRow_heap (XP (B:=B) f T D) _) U) rfl ?_
   |refine Bp (PX rfl _ _ _ _ _ (0,0) _ rfl (setRow_heap (XP (B:=B) f T D) _) DV rfl U) rfl ?_
  exact ab):p:=h
theorem U7(f:α->List AN)(l:List α)(x:α):((l++[x]).map f).flatten=(l.map f).flatten++f x:=Al
def OR{v:AN}(h:v.oneCell'=AL):∀u∈[v],u.oneCell'=AL:=Al
end
section
open Kp
attribute [local go_sem] Eb Hj Iy Iz J3 Ka Kb Kc J8 Jp Kd Ke JD JE JF Kf Kg Kh
def xm(W0:V)(l:List Int)(c:Nat)(x:Int)(v put i:AN)(wr:V):Prop:=
 ∃k:Nat,k<=ln l/\i=M G (k:Int)/\put=AU (AQ (c<k))/\wr.ownsRow W0.1.size 3 1 v (MS l c x k).length (Cy (MS l c x k)).flatten/\Ext W0 wr/\∀q,q<k->l.getD q 0≠x
theorem tF{l:List Int}(hk:k<ln l)(hy:l.getD k 0=y)(b:Ext W0 wr)(a:∀q,q<k->l.getD q 0≠x)(f:y≠x)
  {p:List Int}(i:MS l c x k++(if c=k then [x] else [])=p)(g:w'.ownsRow W0.1.size 3 1 v' (ln p+1) ((Cy p).flatten++[Gr .i64 y]))(d:At W0.1.size wr w'):xm W0 l c x v' (AU (AQ (c<k+1))) (M G ((k:Int)+1)) w':=by
 have e:MS l c x (k+1)=p++[y]:=by rw[nf l c x 0 hk,i,hy]
 refine⟨k+1,hk,AV,rfl,?_,b.trans d,λq j=> ?_⟩
 .rw[e,Cy,U7,FN];exact g
 by_cases h:q<k
 .exact a q h
 rw[show q=k by omega,hy];exact f
def a2E(w:V)(j:BG)(a:BU)(e:Ed)(g:AN){X:Nat->Prop}(aB:∀b,X b->b<w.1.size)(hb:Bc X w w.1.size j a)(n:Fi j.BR=0):
  AZ AO 160 #[AW (P j a),AW (Ah e g)] w (Gg X w (if j.BR.contains e.Av then 7 else 0) {j with BR:=DZ j.BR (j.BR.countP (· <e.Av)) e.Av}):=by
 obtain⟨B,L⟩:=Lc w.1.size;obtain⟨W0,hW,hs,K,hJ,hZ,hR,hv⟩:=T4 w j a (Ah e g) hb L;have az:=(vX n).2;obtain⟨c,u⟩:=AP (j.BR.countP (· <e.Av));have C:c<=ln j.BR:=u▸List.countP_le_length;have HP:=A (λk hk=>(a5d n e.Av (k:=k) hk));rw[u] at HP⊢;have HU:=A (λW (h:Ext W0 W)=>((hb.u.below (K.tr h)).more (K.tr h).size:BB 1 W W.1.size a.ua a.uc (Cy j.BR)));obtain⟨J,ah⟩:=AP ({j with BR:=DZ j.BR c e.Av});rw[ah];have HF:=A (λW1 v (h:Ext W0 W1) (ak:j.BR.contains e.Av=AM) (l:W1.ownsRow W0.1.size 3 1 v (Cy (DZ j.BR c e.Av)).length (Cy (DZ j.BR c e.Av)).flatten)=>(by
  obtain⟨a',aj⟩:=aH hJ hv h l;rw[ah] at aj;exact⟨a',aj.2.1,UC aB L hs K (E:=if j.BR.contains e.Av then 7 else 0) (by rw[ak];rfl) aj⟩:∃a',JC (W1.setCell ⟨B,4,O⟩ v) B J a'/\Gg X w (if j.BR.contains e.Av then 7 else 0) J (Ac (BO #[AW (P J a'),M G 0])) ((W1.setCell ⟨B,4,O⟩ v).setRow (B+1+1) (P J a'))))
 have an:=A (λW1 (h:Ext W0 W1) (ak:j.BR.contains e.Av=AL)=>(by rw[ak];exact WI Z L (K.tr h) _:Gg X w (if j.BR.contains e.Av then 7 else 0) J (Ac (BO #[AW (P CG Cl),M G 7])) (W1.setRow (B+1+1) (P CG Cl))));have ag:=A (λW (h:Ext W0 W)=>((hJ.ext h).cell 4).trans (J8 j a));have aw:=A (λW (h:Ext W0 W)=>((hZ.ext h).cell 35).trans (Iy e g));have aq:=A (show j.BR.contains e.Av=AL↔∃q,q<ln j.BR/\j.BR.getD q 0=e.Av by
  rw[List.contains_iff_mem,JJ];exact⟨λ⟨q,h1,h2⟩=>⟨q,h1,by rw[dF h1];exact h2⟩,λ⟨q,h1,h2⟩=>⟨q,h1,by rw[<-dF h1 (d:=0)];exact h2⟩⟩)
 obtain⟨aK,am⟩:=AP (Gg X w (if j.BR.contains e.Av then 7 else 0) J);rw[am] at HF an⊢;have HW:=A hW;have T:=A hR;have HJ:=A hJ;have HS:=A hs;have ap:=A C;have ar:=A az;have aG:=A am;clear ah hW hs K hJ hZ hR hv n u hb am;go_enter func160,ntmps160;go_upto_region 1 with(fail)
 rw[<-L];rw[Qo HW];clear L;go_wp2_with fail
 go_loopw [6,7,8] (λv put i wr=>xm W0 j.BR c e.Av v put i wr) (λ_ _ i _=>((ln j.BR:Int)-B8 i).toNat)
 case atStart=>exact⟨0,D8 _,F,AV,by unfold MS;rw[Af D];exact Si W0 _ _ _ (AS _),(Ad _ _).alloc (AS _) _,λq h=>D⟩
 obtain⟨k,hk,rfl,rfl,l,o,z⟩:=hrel;have s:=A o;have HN:=A z;have ai:=o.size;by_cases H:k<ln j.BR
 .obtain⟨y,hy⟩:=AP (j.BR.getD k 0);obtain⟨b,off,hA,ad,u⟩:=(HU.o W0 (Ext.B9 _)).2.2 QM;have HC:=A (λW (h:Ext W0 W)=>(⟨hA▸ag.o W h,aw.o W h,(h.cell ad).trans (by
   have:=u k (by rw[BL];exact H) 0 Z;rwa[Rh H,H7,Dh,hy] at this)⟩:W.cell? ⟨B,4,O⟩=Q (AK (Q ⟨b,off,O⟩) (ln j.BR) a.uc)/\W.cell? ⟨B+1,35,O⟩=Q (M G e.Av)/\W.cell? ⟨b,off+k,O⟩=Q (M G y)))
  obtain⟨q4,aF,c0⟩:=HC.o _ o;have af:=HP.o k H;have HY:=A hy;rw[hy] at af;have e1:(k:Int)<(ln j.BR:Int):=D;by_cases Y:y=e.Av
  .have HCT:=A (aq.o.2 ⟨k,H,hy.trans Y⟩);clear o l z hA ad u hy af;go_wp2_with fail
   go_quiet (fail)
   go_wp2_with(first
    |(refine JL rfl 34 _ rfl U ?_;rw[show Ea (FF (AO.built 34 _) #[])=AW (P CG Cl) from U])
    |(refine C7 rfl 34 _ _ rfl _ _ rfl rfl 34 _ (T.o.ext (below_drewN s.o _)) U U U ?_))
   refine Bp (Iu F _ _ _ _ F (setRow_heap (T.o.ext (below_drewN s.o _)) _) U) F ?_;exact an.o _ (below_drewN s.o _) HCT.o
  have t0:(y==e.Av)=AM:=CK.2 Y;have au:=A Y;have al:=fl j.BR c e.Av k;have aD:=ar.o;obtain⟨p,n⟩:=AP (MS j.BR c e.Av k);rw[n] at l al;have av:=A n;have HO:=A l;by_cases ae:c=k
  .have r:AQ (c<k)=AM:=Bw D;have t2:AQ (y>e.Av)=AL:=CP D;have ac:=A ae;clear o l z hA ad u hy af Y n ae;rw[r];go_wp2_with fail
   go_quiet (fail)
   go_wp2_with fail
   go_quiet (fail)
   go_wp2_with(first
    |(at_builtin;refine Mq T3 F _ _ F W0.1.size F ax.o (Ext.B9 _) F F F (OR F) D aC ?_;intro v2 w2 aE aA)
    |(at_builtin;refine Mq T3 F _ _ F W0.1.size F HO.o TU F F F (OR F) D ai ?_;intro v' w' x t;have ax:=A x;have f:=A (s.o.trans t);have ay:=A t;obtain⟨aM,aL,aI⟩:=HC.o _ f.o;have aC:=f.o.size;clear x t))
   refine⟨?_,Bm⟩;have:=tF H HY.o s.o HN.o au.o (c:=c) (p:=p++[e.Av]) (by rw[Aj ac.o,av.o]) (by rw[Cy,U7,FN];exact aE) (ay.o.trans aA);rwa[CP (by have:=ac.o;omega)] at this
  have ac:=A ae;obtain⟨d,r⟩:=AP (AQ (c<k));have t2:d=AM->AQ (y>e.Av)=AM:=λh=>Bw (by rw[h] at r;have:=Ij r;omega)
  have HD:=A (show AQ (c<k+1)=d by rw[<-r];congr 1;apply propext;omega);clear o l z hA ad u hy af Y n ae;rw[r];cases d
  case' false=>have t3:=t2 F
  all_goals
   clear t2;go_wp2_with fail
   go_quiet (fail)
   go_wp2_with fail
   go_quiet (fail)
   go_wp2_with(at_builtin;refine Mq T3 F _ _ F W0.1.size F HO.o TU F F F (OR F) D ai ?_;intro v' w' x t)
   refine⟨?_,Bm⟩;have:=tF H HY.o s.o HN.o au.o (c:=c) (p:=p) (by rw[Af ac.o,SK,av.o]) x t;rwa[HD.o] at this
 obtain rfl:k=ln j.BR:=D;have ao:=A (show j.BR.contains e.Av=AM from Wm _▸λh=>by obtain⟨q,h1,h2⟩:=aq.o.1 h;exact z q h1 h2);have q4:=ag.o _ o;have aF:=aw.o _ o;have al:=fl j.BR c e.Av (ln j.BR);have aD:=ar.o;have I:=A (kW j.BR c e.Av ap.o);obtain⟨p,n⟩:=AP (MS j.BR c e.Av (ln j.BR));rw[n] at l I al;obtain⟨R,m,c',rfl⟩:=NT l;have HO:=A l;have fz:=(HJ.o.ext o).frozen 4;by_cases C:c<ln j.BR
 .have r:AQ (c<ln j.BR)=AL:=CP C;rw[Aj C,SK] at I;obtain⟨a',N,S⟩:=HF.o _ _ o ao.o (by rw[<-I.o,BL];exact l);have aa:=A N;have ab:=A S;have f:=s;clear o l z N S n C;rw[r];exact Vl
 obtain rfl:c=ln j.BR:=by have:=ap.o;omega
 have r:AQ (ln j.BR<ln j.BR)=AM:=Bw D;rw[Af C] at I;clear l z n C;rw[r];go_upto_region 12 with(at_builtin;refine Mq T3 F _ _ F W0.1.size F HO.o TU F F F (OR F) D ai ?_;intro v' w' x t)
 obtain⟨A',m',c2,rfl⟩:=NT x;have f:=A (s.o.trans t);obtain⟨a',N,S⟩:=HF.o _ _ f.o ao.o (by rw[<-I.o,BL,FN,Cy,U7];exact x);have aa:=A N;have ab:=A S;have aJ:=(HJ.o.ext f.o).frozen 4;have aN:=ag.o _ f.o;clear x t N S;exact Vl
end
section
open Kp
attribute [local go_sem] Eb Hj Jm Iz J3 Ka Kb Kc Mh Mo J8 Jp Kd Ke JD JE JF Kf Kg Kh
def xu(W0:V)(l:List Sz)(m:Nat)(x:Sz)(v put i:AN)(wr:V):Prop:=
 ∃k:Nat,k<=ln l/\i=M G (k:Int)/\put=AU (AQ (m<k))/\wr.ownsRow W0.1.size 45 3 v ((l.set m x).take k).length (Fq ((l.set m x).take k)).flatten/\Ext W0 wr
theorem rH{l:List Sz}{x y:Sz}(hk:k<ln l)(a:Ext W0 wr){p:List Sz}(d:(l.set m x).take k=p)(hy:(if m=k then x else l.getD k Ca)=y)
  (c:w'.ownsRow W0.1.size 45 3 v' (ln p+1) ((Fq p).flatten++JT y))(b:At W0.1.size wr w'):xu W0 l m x v' (AU (AQ (m<k+1))) (M G ((k:Int)+1)) w':=by
 refine⟨k+1,hk,AV,rfl,?_,a.trans b⟩;rw[qJ l m x Ca hk,d,hy,Fq,U7,FN];exact c
def Tt(y:Sz):∀u∈JT y,u.oneCell'=AL:=λu hu=>by
 simp only[Kt,PW,Nq] at hu;rcases hu with rfl|rfl|rfl<;>rfl
def a5K(w:V)(j:BG)(a:BU)(e:Ed)(g:AN){X:Nat->Prop}(an:∀b,X b->b<w.1.size)(hb:Bc X w w.1.size j a)(n:JZ j.BT=0)(aj:ln j.BT<=1000000):
  AZ AO 161 #[AW (P j a),AW (Ah e g)] w (Yx X w {j with BT:=CC j.BT (NG j.BT e.Be) ⟨e.Be,e.Eg,e.Ef⟩}):=by
 obtain⟨B,L⟩:=Lc w.1.size;obtain⟨W0,hW,hs,K,N,hZ,hR,hv⟩:=T4 w j a (Ah e g) hb L;have hI:=rr (λi=>(j.BT.getD i Ca).Ab==e.Be) (ln j.BT);obtain⟨m,hm⟩:∃m:Nat,NG j.BT e.Be=m/\m<=ln j.BT:=by
  unfold NG;split
  .exact⟨_,F,AS _⟩
  exact⟨(Ho (λi=>(j.BT.getD i Ca).Ab==e.Be) (ln j.BT)).toNat,D,D⟩
 have al:=A hm.2;have hm:=hm.1;have HP:=A (λk hk=>(b2j n e.Be (k:=k) hk));obtain⟨x,hx⟩:∃x:Sz,(⟨e.Be,e.Eg,e.Ef⟩:Sz)=x:=⟨_,F⟩;rw[hm] at HP⊢;rw[hx];have HU:=A (λW (h:Ext W0 W)=>((hb.z.below (K.tr h)).more (K.tr h).size:BB 3 W W.1.size a.za a.zc (Fq j.BT)));obtain⟨J,ac⟩:=AP ({j with BT:=CC j.BT m x});rw[ac];have HF:=A (λW1 v (h:Ext W0 W1) (c:W1.ownsRow W0.1.size 45 3 v (Fq (CC j.BT m x)).length (Fq (CC j.BT m x)).flatten)=>(by
  obtain⟨a',ae⟩:=aE N hv h c;rw[ac] at ae;exact⟨a',ae.2.1,qW an L hs K ae⟩:∃a',JC (W1.setCell ⟨B,6,O⟩ v) B J a'/\Yx X w J (Ac (AW (P J a'))) ((W1.setCell ⟨B,6,O⟩ v).setRow (B+1+1) (P J a'))))
 have C:=A (λW (h:Ext W0 W)=>(⟨((N.ext h).cell 6).trans (JF j a),λi=>(hZ.ext h).cell i⟩:W.cell? ⟨B,6,O⟩=Q (AK a.za (ln j.BT) a.zc)/\∀i,W.cell? ⟨B+1,i,O⟩=(Ah e g)[i]?));have HW:=A hW;have T:=A hR;have HJ:=A N;have ai:=A hx;have ak:=A aj;clear ac hW hs K N hZ hR hv n hb hm hx hI aj;go_enter func161,ntmps161;go_upto_region 1 with(fail)
 rw[<-L];rw[Qo HW];clear L;go_wp2_with fail
 go_loopw [5,6,7] (λv put i wr=>xu W0 j.BT m x v put i wr) (λ_ _ i _=>((ln j.BT:Int)-B8 i).toNat)
 case atStart=>exact⟨0,D8 _,F,AV,Si W0 _ _ _ (AS _),(Ad _ _).alloc (AS _) _⟩
 obtain⟨k,hk,rfl,rfl,c,d⟩:=hrel;have I:=A d;have ad:=d.size;have af:((j.BT.set m x).take k).length<=ln j.BT:=by rw[QA,Nl];omega
 have ap:=ak.o;by_cases S:k<ln j.BT
 .obtain⟨y,hy⟩:=AP (j.BT.getD k Ca);obtain⟨b,off,Z,q,hc⟩:=fY (HU.o W0 (Ext.B9 _)) D;have HC:=A (λW (h:Ext W0 W)=>(by
   obtain⟨c0,c1,c2⟩:=hc k S;rw[hy] at c0 c1 c2;exact⟨Z▸(C.o W h).1,(C.o W h).2,(h.cell q).trans c0,(h.cell q).trans c1,(h.cell q).trans c2⟩:W.cell? ⟨B,6,O⟩=Q (AK (Q ⟨b,off,O⟩) (ln j.BT) a.zc)/\(∀i,W.cell? ⟨B+1,i,O⟩=(Ah e g)[i]?)/\W.cell? ⟨b,off+k*3,O⟩=Q (M G y.Ab)/\W.cell? ⟨b,off+k*3+1,O⟩=Q (M G y.BX)/\W.cell? ⟨b,off+k*3+2,O⟩=Q (M G y.C4)))
  obtain⟨q6,qe,c0,c1,c2⟩:=HC.o _ d;have z:=HP.o k S;rw[hy] at z;have HY:=A hy;have e1:(k:Int)<(ln j.BT:Int):=D;obtain⟨p,n⟩:=AP ((j.BT.set m x).take k);rw[n] at c af;have ah:=A n;have H:=A c;by_cases Y:m=k
  .have t0:(y.Ab==e.Be)=AL:=by rw[C9];exact z.1 D
   have E:=A Y;clear d c Z q hc hy z n Y;go_wp2_with fail
   go_quiet (fail)
   go_wp2_with(at_builtin;(refine Mq Zy F _ _ F W0.1.size F H.o TU (r:=JT ⟨e.Be,e.Eg,e.Ef⟩) F F F (Tt _) D ad ?_;intro v' w' l o))
   refine⟨?_,Bm⟩;rw[ai.o] at l;have:=rH S I.o ah.o (y:=x) (Aj E.o) l o;rwa[CP (by have:=E.o;omega)] at this
  have t0:(y.Ab==e.Be)=AM:=by rw[CK];intro h;have:=z.2 h;omega
  have E:=A Y;have HD:=A (show AQ (m<k+1)=AQ (m<k) by congr 1;apply propext;omega);clear d c Z q hc hy z n Y;go_wp2_with fail
  go_quiet (fail)
  go_wp2_with(at_builtin;(refine Mq Zy F _ _ F W0.1.size F H.o TU (r:=JT y) F F F (Tt _) D ad ?_;intro v' w' l o))
  refine⟨?_,Bm⟩;have:=rH S I.o ah.o (by rw[Af E.o,HY.o]) l o;rwa[HD.o] at this
 obtain rfl:k=ln j.BT:=D;obtain⟨q6,qe⟩:=C.o _ d;obtain⟨R,m',c',rfl⟩:=NT c;have fz:=(HJ.o.ext d).frozen 6;have hl:(j.BT.set m x).take (ln j.BT)=j.BT.set m x:=Qy (by rw[Nl];exact AS _);rw[hl] at c af;by_cases ag:m<ln j.BT
 .have t1:AQ (m<ln j.BT)=AL:=CP ag;have u:CC j.BT m x=j.BT.set m x:=by unfold CC;rw[Af D];rfl
  obtain⟨a',s,t⟩:=HF.o _ _ d (by rw[u,BL];exact c);have aa:=A s;have ab:=A t;have f:=I;clear d c s t hl u ag;rw[t1];exact Vl
 obtain rfl:m=ln j.BT:=by have:=al.o;omega
 have u:CC j.BT (ln j.BT) x=j.BT++[x]:=by unfold CC;rw[Aj rfl]
 rw[List.set_eq_of_length_le (AS _)] at c;have am:=A u;have H:=A c;have t1:AQ (ln j.BT<ln j.BT)=AM:=Bw D;clear c hl ag u af;rw[t1];go_upto_region 10 with(at_builtin;(refine Mq Zy F _ _ F W0.1.size F H.o TU (r:=JT ⟨e.Be,e.Eg,e.Ef⟩) F F F (Tt _) D ad ?_;intro v' w' l o))
 rw[ai.o] at l;obtain⟨A',m',c2,rfl⟩:=NT l;have f:=A (I.o.trans o);obtain⟨a',s,t⟩:=HF.o _ _ f.o (by rw[am.o,BL,FN,Fq,U7];exact l);have aa:=A s;have ab:=A t;have ao:=(HJ.o.ext f.o).frozen 6;have aq:=(C.o _ f.o).1;clear l o s t;exact Vl
end
section
open Kp
attribute [local go_sem] Eb Hj Iz J3 Ka Kb Kc Mg Mi Ml Mm Mn J8 Jp Kd Ke JD JE JF Kf Kg Kh
def Md(l:List Aw)(c:Nat)(d:Bool)(x:Aw)(k:Nat):List Aw:=if d then(l.set c x).take k else MS l c x k
theorem a7M{l:List Aw}{x:Aw}(hk:k<ln l):Md l c d x (k+1)=Md l c d x k++((if c=k then [x] else [])++(if d=AL/\c=k then [] else [l.getD k Dm])):=by
 unfold Md;cases d
 .rw[Af Z,Af Z,nf l c x Dm hk,Af (c:=AM=AL/\c=k) (λh=>Al),No]
 rw[qJ l c x Dm hk]
 grind
def b1i(l:List Aw)(c:Nat)(d:Bool)(x:Aw)(k:Nat):(Md l c d x k).length<=ln l+1:=by
 grind [Md,fl]
def QVq(W0:V)(l:List Aw)(c:Nat)(d:Bool)(x:Aw)(v put i:AN)(wr:V):Prop:=
 ∃k:Nat,k<=ln l/\i=M G (k:Int)/\put=AU (AQ (c<k))/\wr.ownsRow W0.1.size 52 5 v (Md l c d x k).length (Em (Md l c d x k)).flatten/\Ext W0 wr
theorem b0H{l:List Aw}{x y:Aw}(hk:k<ln l)(a:Ext W0 wr){p r:List Aw}(f:Md l c d x k=p)(hy:l.getD k Dm=y)(g:(if c=k then [x] else [])++(if d=AL/\c=k then [] else [y])=r)
  (e:w'.ownsRow W0.1.size 52 5 v' (ln p+ln r) ((Em p).flatten++(Em r).flatten))(b:At W0.1.size wr w'):QVq W0 l c d x v' (AU (AQ (c<k+1))) (M G ((k:Int)+1)) w':=by
 refine⟨k+1,hk,AV,rfl,?_,a.trans b⟩;rw[a7M hk];grind
def Xe(y:Aw):∀u∈D4 y,u.oneCell'=AL:=λu hu=>by
 simp[Kt,PW,Nq] at hu;rcases hu with rfl|rfl|rfl|rfl|rfl<;>rfl
def a6h(w:V)(j:BG)(a:BU)(e:Ed)(g:AN){X:Nat->Prop}(aB:∀b,X b->b<w.1.size)(hb:Bc X w w.1.size j a)(N:Ip j.BW=0)(aw:ln j.BW<=1000000):
  AZ AO 162 #[AW (P j a),AW (Ah e g)] w (Yx X w {j with BW:=Qw j.BW (Ex e)}):=by
 obtain⟨B,hB⟩:=Lc w.1.size;obtain⟨W0,hW,hs,e0,hJ,hZ,hR,hv⟩:=T4 w j a (Ah e g) hb hB;have o:=uC j.BW (Ex e);have ac:Ma j.BW (Ex e)=AL->LD j.BW (Ex e)<ln j.BW:=λh=>by
  unfold Ma at h;rw[Ez] at h;exact Jh h.1
 have HP:=A (λk hk=>Ci (iE N (Ex e) (k:=k) hk) (b2p N (Ex e) (k:=k) hk));unfold Qw;obtain⟨x,hx⟩:=AP (Ex e);rw[hx] at o ac HP⊢;obtain⟨c,l⟩:=AP (LD j.BW x);obtain⟨d,t⟩:=AP (Ma j.BW x);rw[l,t] at HP⊢;rw[l] at o ac;rw[t] at ac;have aq:=A o;have ax:=A ac;have HU:=A (λW (h:Ext W0 W)=>((hb.s.below (e0.tr h)).more (e0.tr h).size:BB 5 W W.1.size a.sa a.sc (Em j.BW)));obtain⟨L,hL⟩:=AP (if d=AL then j.BW.set c x else DZ j.BW c x);rw[hL];obtain⟨J,am⟩:=AP ({j with BW:=L});rw[am];have HF:=A (λW1 v (h:Ext W0 W1) (H:W1.ownsRow W0.1.size 52 5 v (Em L).length (Em L).flatten)=>(by
  obtain⟨a',ao⟩:=XQ hJ hv h H;rw[am] at ao;exact⟨a',ao.2.1,qW aB hB hs e0 ao⟩:∃a',JC (W1.setCell ⟨B,14,O⟩ v) B J a'/\Yx X w J (Ac (AW (P J a'))) ((W1.setCell ⟨B,14,O⟩ v).setRow (B+1+1) (P J a'))))
 have Y:=A (λW (h:Ext W0 W)=>(⟨((hJ.ext h).cell 14).trans (J3 j a),λi=>(hZ.ext h).cell i⟩:W.cell? ⟨B,14,O⟩=Q (AK a.sa (ln j.BW) a.sc)/\∀i,W.cell? ⟨B+1,i,O⟩=(Ah e g)[i]?));have HW:=A hW;have T:=A hR;have HJ:=A hJ;have ae:=A hx;have ay:=A aw;have ar:=A hL;clear am hW hs e0 hJ hZ hR hv N hb hx aw l t o ac hL;go_enter func162,ntmps162;go_upto_region 1 with(fail)
 rw[<-hB];rw[Qo HW];clear hB;go_wp2_with fail
 go_loopw [5,6,7] (λv put i wr=>QVq W0 j.BW c d x v put i wr) (λ_ _ i _=>((ln j.BW:Int)-B8 i).toNat)
 case atStart=>exact⟨0,D8 _,F,AV,by rw[show Md j.BW c d x 0=[] by unfold Md MS;rw[Af (Nat.not_lt_zero c)];split <;>rfl];exact Si W0 _ _ _ (AS _),(Ad _ _).alloc (AS _) _⟩
 obtain⟨k,hk,rfl,rfl,H,m⟩:=hrel;have HX:=A m;have af:=m.size;have aE:=b1i j.BW c d x k;have aP:=ay.o;by_cases ah:k<ln j.BW
 .obtain⟨y,hy⟩:=AP (j.BW.getD k Dm);obtain⟨b,off,hA,C,l⟩:=(HU.o W0 (Ext.B9 _)).2.2 QM;have l:=l k (by rw[BL];exact ah);rw[YN ah,hy,DL] at l;have aj:=λW (h:Ext wr W)=>(hA▸(Y.o W (m.tr h)).1:W.cell? ⟨B,14,O⟩=Q (AK (Q ⟨b,off,O⟩) (ln j.BW) a.sc))
  have qe:=λW (h:Ext wr W)=>(Y.o W (m.tr h)).2
  have c0:=λW (h:Ext wr W)=>(((m.tr h).cell C).trans (l 0 Z):W.cell? ⟨b,off+k*5,O⟩=Q (M G y.BX))
  have c1:=λW (h:Ext wr W)=>(((m.tr h).cell C).trans (l 1 Z):W.cell? ⟨b,off+k*5+1,O⟩=Q (M G y.C4))
  have c2:=λW (h:Ext wr W)=>(((m.tr h).cell C).trans (l 2 Z):W.cell? ⟨b,off+k*5+2,O⟩=Q (M G y.CF))
  have c3:=λW (h:Ext wr W)=>(((m.tr h).cell C).trans (l 3 Z):W.cell? ⟨b,off+k*5+3,O⟩=Q (M G y.load))
  have c4:=λW (h:Ext wr W)=>(((m.tr h).cell C).trans (l 4 Z):W.cell? ⟨b,off+k*5+4,O⟩=Q (M G y.span))
  obtain⟨ad,S⟩:=HP.o k ah;rw[hy] at ad S;have HY:=A hy;have e1:(k:Int)<(ln j.BW:Int):=D;obtain⟨p,N⟩:=AP (Md j.BW c d x k);rw[N] at H aE;have aH:=A N;have HO:=A H;have aT:=aj wr (Ext.B9 _);have HC:=A (λW (h:Ext W0 W)=>(⟨hA▸(Y.o W h).1,(Y.o W h).2,(h.cell C).trans (l 0 Z),(h.cell C).trans (l 1 Z),(h.cell C).trans (l 2 Z),(h.cell C).trans (l 3 Z),(h.cell C).trans (l 4 Z)⟩:W.cell? ⟨B,14,O⟩=Q (AK (Q ⟨b,off,O⟩) (ln j.BW) a.sc)/\(∀i,W.cell? ⟨B+1,i,O⟩=(Ah e g)[i]?)/\W.cell? ⟨b,off+k*5,O⟩=Q (M G y.BX)/\W.cell? ⟨b,off+k*5+1,O⟩=Q (M G y.C4)/\W.cell? ⟨b,off+k*5+2,O⟩=Q (M G y.CF)/\W.cell? ⟨b,off+k*5+3,O⟩=Q (M G y.load)/\W.cell? ⟨b,off+k*5+4,O⟩=Q (M G y.span)));obtain⟨n,hn⟩:=AP (Gm y (Ex e));rw[<-ae.o,hn] at ad S;have KO:=λW=>a1J y (Ex e) W
  simp only[hn] at KO;have KO:=A KO;have HS:=A (λ(r:List Aw) (v':AN) (w':V) (hr:(if c=k then [x] else [])++(if d=AL/\c=k then [] else [y])=r) s hg=>b0H (w':=w') (v':=v') ah m N hy hr s hg);clear m H hA C l hy N hn;go_wp2_with fail
  go_region_held3(λw'=>Ext wr w') (first|exact z|exact Ext.dr wr) (first|(go_at_call 232;refine(KO.o _).mono ?_;rintro ee W1 ⟨rfl,au⟩;have z:Ext wr W1:=(Ext.dr wr).tr au))
  have al:=A z;have aI:=aj W1 z;have be:=qe W1 z;have d0:=c0 W1 z;have d1:=c1 W1 z;have d2:=c2 W1 z;have d3:=c3 W1 z;have d4:=c4 W1 z;have an:=(HX.o.tr z).size;have ak:=A (EV HO.o z);have HD:=A (show c≠k->AQ (c<k+1)=AQ (c<k) fromλh=>by congr 1;apply propext;omega);clear aj qe c0 c1 c2 c3 c4 au z;by_cases E:c=k
  .have t3:AQ (c<k)=AM:=Bw D;have ap:=A (show AQ (c<k+1)=AL from CP D);have t1:AQ (n>=0)=AL:=CP D;cases t:d with
   |true=>
    have hn:=S.2 ⟨E,t⟩;have t2:(n !=0)=AM:=by rw[hn];rfl
    have I:=A (HS.o [x]);rw[Aj E,Aj ⟨t,E⟩] at I;rw[t3];clear ad S t hn E;go_wp2_with(at_builtin;refine Mq Uz F _ _ F W0.1.size F ak.o Us (r:=D4 (Ex e)) F F F (Xe _) D an ?_;intro v' w' s K)
    rw[ae.o] at s;have:=I.o v' w' F (by simpa[Em] using s) ((al.o.mono af).trans K);rw[ap.o] at this;exact⟨this,Bm⟩
   |false=>
    have t2:(n !=0)=AL:=Cd.2 (λh=>by have:=(S.1 h).2;rw[t] at this;cases this);have I:=A (HS.o [x,y]);rw[Aj E,Af (λh=>by have:=h.1;rw[t] at this;cases this)] at I;rw[t3];clear ad S t E;go_wp2_with(first
     |(at_builtin;refine Mq Uz F _ _ F W0.1.size F az.o Us (r:=D4 y) F F F (Xe _) D aC ?_;intro v2 w2 aF aA)
     |(at_builtin;refine Mq Uz F _ _ F W0.1.size F ak.o Us (r:=D4 (Ex e)) F F F (Xe _) D an ?_;intro v' w' s K;have az:=A s;have f:=A ((al.o.mono af).trans K);obtain⟨aQ,aS,aJ,aK,aL,aM,aN⟩:=HC.o _ (HX.o.trans f.o);have aC:=(HX.o.trans f.o).size;clear s K))
    have:=I.o v2 w2 F (by simpa[Em,ae.o] using aF) (f.o.trans aA);rw[ap.o] at this;exact⟨this,Bm⟩
  have t2:(n !=0)=AL:=Cd.2 (λh=>E (S.1 h).1);have I:=A (HS.o [y]);rw[Af E,Af (λh=>E h.2),HD.o E] at I;obtain⟨q,t3⟩:=AP (AQ (c<k));obtain⟨u,t1⟩:=AP (AQ (n>=0));have aG:u=q:=by rw[<-t1,<-t3];congr 1;apply propext;omega
  subst aG;rw[t3] at I⊢;clear ad S E;cases u;all_goals
   go_wp2_with(at_builtin;refine Mq Uz F _ _ F W0.1.size F ak.o Us (r:=D4 y) F F F (Xe _) D an ?_;intro v' w' s K)
   exact⟨I.o v' w' F (by simpa[Em] using s) ((al.o.mono af).trans K),Bm⟩
 obtain rfl:k=ln j.BW:=D;obtain⟨aj,qe⟩:=Y.o _ m;obtain⟨R,m',c',rfl⟩:=NT H;have fz:=(HJ.o.ext m).frozen 14;by_cases o:c<ln j.BW
 .have t1:AQ (c<ln j.BW)=AL:=CP o;have hl:Md j.BW c d x (ln j.BW)=L:=by
   rw[<-ar.o];unfold Md;have:=kW j.BW c x (FM o);rw[Aj o,SK] at this;split
   .exact Qy (by rw[Nl];exact AS _)
   exact this
  obtain⟨a',ag,ai⟩:=HF.o _ _ m (by rw[<-hl,BL];exact H);have aa:=A ag;have ab:=A ai;have f:=HX;clear m H ag ai hl o;rw[t1];exact Vl
 have aD:c=ln j.BW:=by have:=aq.o;omega
 have av:d=AM:=by cases t:d with|false=>rfl|true=>exact absurd (ax.o t) o
 have hl:Md j.BW c d x (ln j.BW)++[x]=L:=by
  rw[<-ar.o,av];unfold Md;have:=kW j.BW c x aq.o;rw[Af o] at this;rw[Af Z,Af Z];exact this
 have HL:=A hl;have t1:AQ (c<ln j.BW)=AM:=Bw o;have HO:=A H;clear H hl o av aD;rw[t1];go_upto_region 12 with(at_builtin;refine Mq Uz F _ _ F W0.1.size F HO.o Us (r:=D4 (Ex e)) F F F (Xe _) D af ?_;intro v' w' s K)
 rw[ae.o] at s;obtain⟨A',m',c2,rfl⟩:=NT s;have f:=A (HX.o.trans K);obtain⟨a',ag,ai⟩:=HF.o _ _ f.o (by rw[<-HL.o,BL,FN,Em,U7];exact s);have aa:=A ag;have ab:=A ai;have aO:=(HJ.o.ext f.o).frozen 14;have aR:=(Y.o _ f.o).1;exact Vl
end
section
open Kp
attribute [local go_sem] Eb Hj Iz J3 Ka Kb Kc J8 J9 M9 MA MB Jp Ms Mt Kd Ke JD JE JF MG MH Kf Kg Kh
def RT(rs:List (List Sd))(n:Int)(s:Sd)(k:Nat):List Sd:=if(nI rs k:Int)<=n/\n<(nI rs k:Int)+(rs.getD k []).length then(rs.getD k []).set (n-nI rs k).toNat s else rs.getD k []
def xj(W0:V)(rs:List (List Sd))(n:Int)(s:Sd)(v x f i:AN)(wr:V):Prop:=
 ∃k:Nat,k<=ln rs/\i=M G (k:Int)/\x=M G (nI rs k:Int)/\f=AU (AQ (0<=n)&&AQ (n<(nI rs k:Int)))/\Ext W0 wr/\
  ∃Bg,wr.ownsRow W0.1.size 117 1 v k Bg/\ln Bg=k/\∀i,i<k->wr.ownsRow W0.1.size 40 7 (Bg.getD i Ba) (RT rs n s i).length (Cg (RT rs n s i)).flatten
theorem b2D{W0 wr W1 w2:V}{rs:List (List Sd)}{n:Int}{s:Sd}{v' V1:AN}{Bg:List AN}(hk:k<ln rs)(hx:Ext W0 wr)(g:ln Bg=k)(o:∀i,i<k->wr.ownsRow W0.1.size 40 7 (Bg.getD i Ba) (RT rs n s i).length (Cg (RT rs n s i)).flatten)
  (h1:Ext wr W1)(l:W1.ownsRow W0.1.size 40 7 V1 (RT rs n s k).length (Cg (RT rs n s k)).flatten)(j:w2.ownsRow W0.1.size 117 1 v' (k+1) (Bg++[V1]))(f:At W0.1.size W1 w2)
  (m:∀b a c v' d e,a≠117->W1.ownsRow b a c v' d e->w2.ownsRow b a c v' d e):xj W0 rs n s v' (M G (nI rs (k+1):Int)) (AU (AQ (0<=n)&&AQ (n<(nI rs (k+1):Int)))) (M G ((k:Int)+1)) w2:=by
 refine⟨k+1,hk,AV,rfl,rfl,(hx.tr h1).trans f,_,j,by simp[g],λi hi=> ?_⟩
 grind [EV]
def a9l(rs:List (List Sd))(n:Int):Value.bool AM=AU (AQ (0<=n)&&AQ (n<(nI rs 0:Int))):=by
 by_cases h:0<=n
 .rw[Bw (show¬n<((nI rs 0)) fromλq=>by have:n<((0)):=q;omega),Bool.and_false]
 grind
def b41{rs:List (List Sd)}(a:∀k,(rs.getD k []).length<=1000)(k:Nat):nI rs k<=1000*k:=by
 induction k with
 |zero=>exact AS _
 |succ k b=>grind [nI]
def a61(w:V)(j:BG)(a:BU)(e:Ed)(g:AN){X:Nat->Prop}(aU:∀b,X b->b<w.1.size)(hb:Bc X w w.1.size j a)(a4:ln j.BK<=1000)(ad:∀k,(j.BK.getD k []).length<=1000)(hn:e.Ae<=9223372036854775807):
  AZ AO 159 #[AW (P j a),AW (Ah e g)] w (Gg X w (Le j.BK e.Ae) {j with BK:=Ft j.BK e.Ae (EH e)}):=by
 have⟨B,hB⟩:=Lc w.1.size;have⟨W0,hW,hs,e0,T,hZ,hR,hv⟩:=T4 w j a (Ah e g) hb hB;have⟨E,hE⟩:=AP (Le j.BK e.Ae);have⟨J,an⟩:=AP ({j with BK:=Ft j.BK e.Ae (EH e)});have aG:=A ((a8l hn ad).symm.trans hE);have aS:=A (λh0 k=>a5P h0 hn ad (EH e) k);rw[hE,an];have HU:=A (λW (h:Ext W0 W)=>((hb.p.below (e0.tr h)).more (e0.tr h).size:Ew W W.1.size a.pa a.pc j.BK));have HF:=A (λW1 R l (h:Ext W0 W1) (am:E=0) (aY:∀W,Jl X B W0.1.size (W1.setRow B (putAt (P j a) 1 #[AK R (Ft j.BK e.Ae (EH e)).length l])) W->Ew W W.1.size R l (Ft j.BK e.Ae (EH e)))=>(by
  have h1:CE B W0 (W1.setRow B (putAt (P j a) 1 #[AK R (Ft j.BK e.Ae (EH e)).length l])):=(CE.ext h T.lt).row _;have aq:Dl X B W0 (W1.setRow B (putAt (P j a) 1 #[AK R (Ft j.BK e.Ae (EH e)).length l])) {j with BK:=Ft j.BK e.Ae (EH e)} {a with pa:=R,pc:=l}:=by
   refine⟨h1,setRow_heap (T.ext h) _,λW s=> ?_⟩;have y:=hv.to T.lt h1.below s;exact⟨aY W s,y.u,y.o,y.z,y.b,y.l,y.s⟩
  rw[an] at aq;exact⟨_,aq.2.1,UC aU hB hs e0 am aq⟩:∃a',JC (W1.setRow B (putAt (P j a) 1 #[AK R (Ft j.BK e.Ae (EH e)).length l])) B J a'/\Gg X w E J (Ac (BO #[AW (P J a'),M G 0])) ((W1.setRow B (putAt (P j a) 1 #[AK R (Ft j.BK e.Ae (EH e)).length l])).setRow (B+1+1) (P J a'))))
 have aE:=A (λW1 (h:Ext W0 W1) (am:E=6)=>(by subst am;exact WI Z hB (e0.tr h) _:Gg X w E J (Ac (BO #[AW (P CG Cl),M G 6])) (W1.setRow (B+1+1) (P CG Cl))));have ag:=A (λW (h:Ext W0 W)=>(⟨((T.ext h).cell 1).trans (Jp j a),λi=>(hZ.ext h).cell i⟩:W.cell? ⟨B,1,O⟩=Q (AK a.pa (ln j.BK) a.pc)/\∀i,W.cell? ⟨B+1,i,O⟩=(Ah e g)[i]?));have HW:=A hW;have HR:=A hR;have HJ:=A T;have aJ:=A ad;have aR:=A hs;have aL:=A (b41 ad);clear an hW hs e0 T hZ hR hv hb hE ad;go_enter func159,ntmps159;go_upto_region 1 with(fail)
 rw[<-hB];rw[Qo HW];clear hB;go_wp2_with fail
 go_loopw [6,7,8,9] (λv x f i wr=>xj W0 j.BK e.Ae (EH e) v x f i wr) (λ_ _ _ i _=>((ln j.BK:Int)-B8 i).toNat)
 case atStart=>exact⟨0,D8 _,F,F,a9l _ _,(Ad _ _).alloc (AS _) _,[],Si W0 _ _ _ (AS _),F,λi h=>D⟩
 obtain⟨k,hk,rfl,rfl,rfl,d,Bg,Y,ab,ac⟩:=hrel;have u:=A d;have a3:=d.size;by_cases aB:k<ln j.BK
 .have⟨ring,hy⟩:=AP (j.BK.getD k []);have⟨b,off,s,al,hc⟩:=(HU.o W0 (Ext.B9 _)).2.2 D;have⟨Ai,ci,c0,af⟩:=hc k aB;have aX:=aJ.o k;have aV:=aL.o k;rw[hy] at c0 af aX;have HC:=A (λW (h:Ext W0 W)=>(⟨s▸(ag.o W h).1,(ag.o W h).2,(h.cell al).trans c0⟩:W.cell? ⟨B,1,O⟩=Q (AK (Q ⟨b,off,O⟩) (ln j.BK) a.pc)/\(∀i,W.cell? ⟨B+1,i,O⟩=(Ah e g)[i]?)/\W.cell? ⟨b,off+k,O⟩=Q (AK Ai (ln ring) ci)));have⟨q1,qe,d0⟩:=HC.o _ d;have⟨a5,a6,a2⟩:=HC.o (wr.alloc (.cells #[] 40)) (d.tr ((Ad _ _).alloc (AS _) _));have ay:=A ((af.below d).more d.size:BB 7 wr wr.1.size Ai ci (Cg ring));have e1:(k:Int)<(ln j.BK:Int):=D;have hN:nI j.BK (k+1)=nI j.BK k+ln ring:=by rw[nI,hy]
  have I:RT j.BK e.Ae (EH e) k=if(nI j.BK k:Int)<=e.Ae/\e.Ae<(nI j.BK k:Int)+ln ring then ring.set (e.Ae-nI j.BK k).toNat (EH e) else ring:=by unfold RT;rw[hy]
  have H:=A (λW1 w2 v' V1=>b2D (W1:=W1) (w2:=w2) (v':=v') (V1:=V1) aB d ab ac);rw[hN] at H;have⟨N,ao⟩:=AP (nI j.BK k);rw[ao] at I H aV⊢;have HO:=A Y;have w1:G.wrap ((N:Int)+(ln ring:Int))=(N:Int)+(ln ring:Int):=DF _ D;by_cases L:(N:Int)<=e.Ae/\e.Ae<(N:Int)+ln ring
  .obtain⟨m,hm⟩:∃m:Nat,e.Ae-(N:Int)=m:=⟨(e.Ae-N).toNat,D⟩;have t1:AQ (e.Ae>=(N:Int))=AL:=CP L.1;have t2:AQ (e.Ae<(N:Int)+(ln ring:Int))=AL:=CP L.2;have w2:G.wrap (e.Ae-(N:Int))=(m:Int):=by rw[hm];exact DF _ D
   rw[Aj L,hm,eQ] at I;have e2:(m:Int)<(ln ring:Int):=D;have aK:=A (show m<ln ring by omega);have ai:=A I;have HQ:=A (show(AQ (0<=e.Ae)&&AQ (e.Ae<((N+ln ring:Nat):Int)))=AL by rw[CP D,CP D];rfl);rw[HQ.o] at H;clear d Y s al hc hy c0 af ab ac ao hN I hm L HQ;go_wp2_with(first
    |(at_builtin;refine bm xN F _ _ F W0.1.size F ah.o (Ext.B9 _) (r:=[AK (Q ⟨gg,0,O⟩) (ln ring) cp]) F F (size_setRow _ _ _).symm F (OR F) D (BJ u.size ak.size) ?_;intro v' w' au ap ar)
    |(refine OD rfl 40 _ _ rfl _ _ _ rfl rfl 40 _ aw.o U aT.o U ?_;have ak:=A (CL (n:=gg) ae.o av.o (putAt cur (m*7) #[M G e.sx,M G e.sy,M G e.ID,M G e.II,AU e.DX,M G e.I9,M G e.IF]));have ah:=A (EV HO.o ak.o);have aj:=A (Xy (k:=7) (x:=FA (EH e)) (BJ u.size av.o) aw.o aN.o aO.o aP.o aQ.o (BL _) (JW _) F aK.o))
    |(at_builtin;refine bz xF F _ _ F (wr:=wr) Us F F F ay.o (BL _) (JW _) (iC _) D ?_;intro v1 W1 aa z;obtain⟨gg,cp,cur,rfl,az,hh,p1,p2,p3,p4⟩:=Pr aa D;have aw:=A hh;have aN:=A p1;have aO:=A p2;have aP:=A p3;have aQ:=A p4;have av:=A az;have ae:=A z;have aT:=A (show m*7+7<=cur.size by rw[p3];omega);obtain⟨-,a0,-⟩:=HC.o _ (u.tr z);clear aa z hh p1 p2 p3 p4 az))
   refine⟨by have:=H.o _ _ _ _ ak.o (by rw[ai.o,Nl,show Cg (ring.set m (EH e))=(Cg ring).set m (FA (EH e)) from eK ..];exact aj.o) au ap ar;rwa[Int.natCast_add] at this,Bm⟩
  have⟨p,t1⟩:=AP (AQ (e.Ae>=(N:Int)));have t2:p=AL->AQ (e.Ae<(N:Int)+(ln ring:Int))=AM:=λh=>Bw (λq=>L ⟨by rw[h] at t1;exact Jh t1,q⟩)
  rw[Af L] at I;have ai:=A I;have HQ:=A (show(AQ (0<=e.Ae)&&AQ (e.Ae<((N+ln ring:Nat):Int)))=(AQ (0<=e.Ae)&&AQ (e.Ae<(N:Int))) by
   by_cases h:0<=e.Ae
   .by_cases h2:e.Ae<(N:Int)
    .rw[CP h2,CP (show e.Ae<((N+ln ring:Nat):Int) by omega)]
    rw[Bw h2,Bw (show¬e.Ae<((N+ln ring:Nat):Int) by omega)]
   rw[Bw h,Ji,Ji])
  rw[HQ.o] at H;have⟨f,o⟩:=AP (AQ (0<=e.Ae)&&AQ (e.Ae<(N:Int)));rw[o] at H⊢;clear d Y s al hc hy c0 af ab ac ao hN I L HQ o;cases p
  case' true=>have t3:=t2 F
  all_goals
   clear t2;go_wp2_with(first
    |(at_builtin;refine bm xN F _ _ F W0.1.size F ah.o (Ext.B9 _) (r:=[AK A1 (ln ring) c1]) F F F F (OR F) D (BJ u.size ae.size) ?_;intro v' w' au ap ar)
    |(at_builtin;refine bz xF F _ _ F (wr:=wr) Us F F F ay.o (BL _) (JW _) (iC _) D ?_;intro v1 W1 aa z;obtain⟨A1,c1,rfl,-⟩:=F1 aa (BL _) (JW ring);have ae:=A z;have ah:=A (EV HO.o z);have aj:=A (Lv aa u.size);obtain⟨-,a0,-⟩:=HC.o _ (u.tr z);clear aa z))
   refine⟨by have:=H.o _ _ _ _ ae.o (by rw[ai.o];exact aj.o) au ap ar;rwa[Int.natCast_add] at this,Bm⟩
 obtain rfl:k=ln j.BK:=D;have⟨q1,qe⟩:=ag.o _ d;have S:=aG.o;by_cases o:0<=e.Ae/\e.Ae<(nI j.BK (ln j.BK):Int)
 .have t1:(AQ (0<=e.Ae)&&AQ (e.Ae<(nI j.BK (ln j.BK):Int)))=AL:=by rw[CP o.1,CP o.2];rfl
  rw[Aj o] at S;have aD:∀i,i<(Ft j.BK e.Ae (EH e)).length->(Ft j.BK e.Ae (EH e)).getD i []=RT j.BK e.Ae (EH e) i:=λi hi=>by
   rw[Rg] at hi;rw[ff _ _ _ hi,aS.o o.1 i];rfl
  have key:∀C W,Jl X B W0.1.size (wr.setRow B C) W->∀{t k K n xs},wr.ownsRow W0.1.size t k K n xs->W.ownsRow W0.1.size t k K n xs:=λC W s _ _ _ _ _ h=>
   Sr (ka h (.inr (λq=>by have:=(DS h B q).1;have:=aR.o;omega)) _) s
  have all:∀W,(∀{t k K n xs},wr.ownsRow W0.1.size t k K n xs->W.ownsRow W0.1.size t k K n xs)->∃R l,u6=AK R (Ft j.BK e.Ae (EH e)).length l/\Ew W W.1.size R l (Ft j.BK e.Ae (EH e)):=λW hk=>
   rg_of (Bg:=Bg) (by rw[Rg];exact hk Y) (by rw[Rg];exact ab) (λi hi=>by rw[aD i hi];exact hk (ac i (by rw[Rg] at hi;exact hi)))
  obtain⟨R,l,rfl,-⟩:=all wr (λh=>h);have⟨a',aA,aC⟩:=HF.o wr R l d S.symm (λW s=>by
   have⟨A',a1,aZ,aW⟩:=all W (key _ W s);injection aZ with h1 h2 y
   subst h1 y;exact aW)
  have aI:=A aA;have aM:=A aC;have aH:=A (HJ.ext d);have ax:=A ((Hc wr (c:=B) (b:=B+1+1) (putAt (P j a) 1 #[AK R (Ft j.BK e.Ae (EH e)).length l]) D).trans (HR.ext d));clear d Y ab ac aA aC key all aD o S;go_wp2_with(first
   |(refine OD rfl 24 _ _ rfl _ _ _ rfl rfl 34 _ aH.o U (PO U) U ?_)
   |(refine Ce rfl 34 _ rfl _ rfl 34 _ (0,0) _ aI.o DV rfl U ?_)
   |(refine C7 rfl 34 _ _ rfl _ _ rfl rfl 34 _ ax.o U U U ?_))
  refine Bp (Iu F _ _ _ _ F (setRow_heap ax.o _) U) F ?_;exact aM.o
 have t1:(AQ (0<=e.Ae)&&AQ (e.Ae<(nI j.BK (ln j.BK):Int)))=AM:=by
  by_cases h:0<=e.Ae
  .rw[Bw (λq=>o ⟨h,q⟩),Bool.and_false]
  rw[Bw h,Ji]
 rw[Af o] at S;have aF:=A S.symm;clear d Y ab ac o S;go_wp2_with(first
  |(rw[show Ea (FF (AO.built 34 _) #[])=AW (P CG Cl) from U])
  |(refine C7 rfl 34 _ _ rfl _ _ rfl rfl 34 _ (HR.ext u.o) U U U ?_))
 refine Bp (Iu F _ _ _ _ F (setRow_heap (HR.ext u.o) _) U) F ?_;exact aE.o _ u.o aF.o
end
section
open Kp
attribute [local go_sem] Hj Iz J3 Ka Kb Kc J8 Jp Kd Ke JD JE JF Kf Kg Kh
def V7(j:BG)(k:Int):Nat:=
 if k=4 then ln j.BR else if k=5 then ln j.Bi else if k=6 then ln j.BT else if k=7 then ln j.CV else if k=10 then ln j.Bt else ln j.BW
def a2M(w:V)(j:BG)(a:BU)(k:Int):AZ AO 233 #[AW (P j a),M G k] w λx w'=>x=Ac (M G (V7 j k))/\Ext w w':=by
 have h:=A (show Ext w (w.alloc (.cells (P j a) 34)) from(Ad _ _).alloc (AS _) _);have b:JC (w.alloc (.cells (P j a) 34)) w.1.size j a:=Bq w _;have m:=λi=>b.cell i
 clear b;rcases(show k=4\/k=5\/k=6\/k=7\/k=10\/(k≠4/\k≠5/\k≠6/\k≠7/\k≠10) by omega) with rfl|rfl|rfl|rfl|rfl|⟨d,e,f,g,c⟩
 case' inr.inr.inr.inr.inr=>
  have l:=A (show V7 j k=ln j.BW by unfold V7;rw[Af d,Af e,Af f,Af g,Af c]);rw[l.o];have o:=CK.2 d;have p:=CK.2 e;have q:=CK.2 f;have r:=CK.2 g;have n:=CK.2 c
 all_goals
  go_enter func233,ntmps233;go_wp2;go_ret;exact⟨F,h⟩
def jY(k:Int)(w:V):AZ AO 100 #[M G k] w λx w'=>x=Ac (AU (AQ (4<=k)&&AQ (k<=7)||k==10||k==11))/\w'=w:=by
 have⟨p,b⟩:=AP (AQ (k>=4));have⟨q,c⟩:=AP (AQ (k<=7));have⟨r,d⟩:=AP (k==10);have⟨s,e⟩:=AP (k==11);have a:=A (show(AQ (4<=k)&&AQ (k<=7)||k==10||k==11)=(p&&q||r||s) by rw[<-b,<-c,<-d,<-e]);rw[a.o];clear a;cases p<;>cases q<;>cases r<;>cases s
 all_goals
  go_enter func100,ntmps100;go_wp2;go_ret;exact⟨F,F⟩
theorem ue{e:Ed}{g:AN}{X:Nat->Prop}{rows:List (List AN)}{q:Int}(o:Bc X w w.1.size j a)(p:(P j a)[ci]?=Q (AK R n c))(s:BB k w w.1.size R c rows)(r:V7 j q=n):
  ∃B W0,B=w.1.size/\Ext w W0/\Bc X W0 B j a/\Hid (((w.alloc (.cells (P j a) 34)).alloc (.cells (Ah e g) 54)).alloc (.cells (P CG Cl) 34)=W0)/\Hid (JC W0 B j a)/\Hid (JC W0 (B+1+1) CG Cl)/\Hid (W0.1.size=B+3)
  /\Hid (∀W,Ext W0 W->W.cell? ⟨B,ci,O⟩=Q (AK R n c)/\∀i,W.cell? ⟨B+1,i,O⟩=(Ah e g)[i]?)/\Hid (∀W,Ext W0 W->BB k W W.1.size R c rows)/\Hid (∀W,Ext W0 W->W.frozen? ⟨B,ci,O⟩=AM)
  /\Hid (∀W,AZ AO 233 #[AW (P j a),M G q] W λx w'=>x=Ac (M G (n:Nat))/\Ext W w'):=by
 have⟨W0,l,t,b,d,m,f,u⟩:=T4 w j a (Ah e g) o F;exact⟨_,W0,F,b,u,A l,A d,A f,A t,A (λW h=>⟨((d.ext h).cell ci).trans p,λi=>(m.ext h).cell i⟩),A (λW h=>(s.below (b.tr h)).more (b.tr h).size),A (λW h=>(d.ext h).frozen ci),A (λW=>by rw[<-r];exact a2M W j a _)⟩
end
section
open Kp
attribute [local go_sem] Eb Hj I4 Iz J3 Hk Lw Lx Ly M0 M3 M4 M5 M6 M7 M8 Mf Ka Kb Kc Mj J8 J9 Mr Jp Kd Ke JD JE JF Kf Kg Kh
def b0P{m n k a z:Nat}(h:z=a*k)(hm:m<n)(hn:n<=a):m*k+k<=z:=by
 have:=Gz k (show m+1<=a by omega)
 grind
theorem uf{B:Nat}(h:Ext W0 W)(a:W0.1.size=B+3):CE B W0 W:=CE.ext h D
def Yv(W0:V)(B i:Nat)(j:BG)(a:BU)(t:Bb)(k n:Nat)(xs:List AN)(J:BG)(c:CI->V->Prop):Prop:=
 ∀b v,CE B W0 b->Km b B j a i v->b.ownsRow W0.1.size t k v n xs->∃a',JC b B J a'/\c (Ac (BO #[AW (P J a'),M G 0])) (b.setRow (B+1+1) (P J a'))
theorem b2d{l:Nat->Prop}{B i n k:Nat}{rows:List (List AN)}{f:CI->V->Prop}(hn:ln rows=n)
  (o:∀W1 v,Ext W0 W1->W1.ownsRow W0.1.size t k v (CC rows idx X).length (CC rows idx X).flatten->∃a',Dl l B W0 (W1.setCell ⟨B,i,O⟩ v) J a')(m:JC W0 B j a)(hi:(P j a)[i]?=Q x0)
  (p:¬(idx<0\/(n:Int)<idx)->∀b a',Dl l B W0 b J a'->f (Ac (BO #[AW (P J a'),M G 0])) (b.setRow (B+1+1) (P J a')))(r:¬(idx<0\/(n:Int)<idx)):
  (idx=(n:Int)->Yv W0 B i j a t k (n+1) (rows.flatten++X) J f)/\(¬idx=(n:Int)->Yv W0 B i j a t k n (rows.set idx.toNat X).flatten J f):=by
 subst hn;have key:∀b v,CE B W0 b->Km b B j a i v->b.ownsRow _ t k v _ _->∃a',JC b B J a'/\f _ _:=λb v c d e=>by
  have⟨h1,h2⟩:=b0s c d m hi;have⟨a',g⟩:=o _ v h1 (Jo e (λq=>by have:=(DS e _ q).1;have:=m.lt;grind) x0);rw[h2] at g;exact⟨a',g.2.1,p r _ _ g⟩
 refine⟨λh b v c d e=>key b v c d ?_,λh b v c d e=>key b v c d ?_⟩
 .rw[show CC rows idx X=rows++[X] from Aj h];grind
 rw[show CC rows idx X=rows.set _ X from Af h,Nl];exact e
theorem iF{e:Ed}{g:AN}{d:Nat->Prop}{E:Bb}{rows:List (List AN)}(q:Int)(hk:e.Ab=q)(z:∀b,d b->b<w.1.size)(C:Bc d w w.1.size j a)
  (t:(P j a)[ci]?=Q (AK R n c))(hn:ln rows=n)(N:BB k w w.1.size R c rows)(I:V7 j q=n)
  (H:∀{W0 W1 v},Ext w W0->JC W0 w.1.size j a->Bc d W0 w.1.size j a->Ext W0 W1->W1.ownsRow W0.1.size E k v (CC rows e.Ae X).length (CC rows e.Ae X).flatten->∃a',Dl d w.1.size W0 (W1.setCell ⟨w.1.size,ci,O⟩ v) J a'):
  ∃B W0 f,B=w.1.size/\Gg d w (DU n e.Ae) J=f/\Hid (((w.alloc (.cells (P j a) 34)).alloc (.cells (Ah e g) 54)).alloc (.cells (P CG Cl) 34)=W0)/\Hid (JC W0 B j a)/\Hid (JC W0 (B+1+1) CG Cl)/\Hid (W0.1.size=B+3)
  /\Hid (∀W,Ext W0 W->W.cell? ⟨B,ci,O⟩=Q (AK R n c)/\∀i,W.cell? ⟨B+1,i,O⟩=(Ah e g)[i]?)/\Hid (∀W,Ext W0 W->BB k W W.1.size R c rows)/\Hid (∀W,Ext W0 W->W.frozen? ⟨B,ci,O⟩=AM)
  /\Hid (∀W,AZ AO 233 #[AW (P j a),M G e.Ab] W λx w'=>x=Ac (M G (n:Nat))/\Ext W w')
  /\Hid (¬(e.Ae<0\/(n:Int)<e.Ae)->(e.Ae=(n:Int)->Yv W0 B ci j a E k (n+1) (rows.flatten++X) J f)/\(¬e.Ae=(n:Int)->Yv W0 B ci j a E k n (rows.set e.Ae.toNat X).flatten J f))
  /\Hid ((e.Ae<0\/(n:Int)<e.Ae)->∀W1,Ext W0 W1->f (Ac (BO #[AW (P CG Cl),M G 6])) (W1.setRow (B+1+1) (P CG Cl)))
  /\Hid (∀W,CE B W0 W->JC W (B+1+1) CG Cl)/\Hid (∀m:Int,(e.Ab==m)=(q==m)):=by
 subst hk;obtain⟨B,W0,rfl,o,S,u,l,r,s,h⟩:=ue C t N I;have T:=s.o;refine⟨_,W0,_,F,F,u,l,r,s,h.1,h.2.1,h.2.2.1,h.2.2.2,A (b2d hn (λW1 v h K=>H o l S h K) l t (λL U a' h=>UC z rfl T o (by unfold DU;grind) h)),A (λL W1 h=> ?_),A (λW h=>(h.Gi _ D D).trans r),A (λ_=>rfl)⟩;have y:DU n e.Ae=6:=by unfold DU;grind
 rw[y];exact WI Z F (o.tr h) _
theorem gj(h:p:=by
  obtain⟨B,W0,post,hB,hpost,HW,HJ,HR,HS0,HC0,HSL,HFZ,KL,HF,HBD,HRC,HN⟩:=d;rw[hpost];clear f hpost hk;have HWD:=A s.1;have HON:=A s.2;go_enter func164,ntmps164;go_upto_region 1 with(fail)
  rw[<-hB];rw[Qo HW];clear hB;have hN:=HN.o;by_cases hlow:e.Ae<0\/(n:Int)<e.Ae
  .have HB:=A (HBD hlow);have⟨p,t1⟩:=AP (AQ (e.Ae<0));have t2:p=AM->AQ (e.Ae>(n:Int))=AL:=λh=>CP (by rw[h] at t1;have:=Ij t1;omega)
   have qe:=(HC0 _ (Ext.B9 W0)).2;clear hlow;cases p
   case' false=>have t3:=t2 F
   all_goals
    clear t2;go_wp2_with(first
     |(go_at_call 233;refine(KL _).q λWl hX1=>?_;have HXL:=A hX1;have⟨ql,qel⟩:=HC0 _ hX1;have qm:=λt:Bb=>(HC0 (Wl.alloc (.cells #[] t)) (hX1.tr ((Ad _ _).alloc (AS _) _))).1;have qem:=λt:Bb=>(HC0 (Wl.alloc (.cells #[] t)) (hX1.tr ((Ad _ _).alloc (AS _) _))).2;clear hX1)
     |(refine Ce rfl 34 _ rfl _ rfl 34 _ (0,0) _ HJ DV rfl U ?_)
     |(refine JL rfl 34 _ rfl U ?_;rw[show Ea (FF (AO.built 34 _) #[])=AW (P CG Cl) from U])
     |(refine C7 rfl 34 _ _ rfl _ _ rfl rfl 34 _ (HR.ext HXL) U U U ?_))
    refine Bp (Iu F _ _ _ _ F (setRow_heap (HR.ext HXL) _) U) F ?_;exact HB _ HXL
  have t1:AQ (e.Ae<0)=AM:=Bw D;have t2:AQ (e.Ae>(n:Int))=AM:=Bw D;obtain⟨m,hm⟩:∃m:Nat,e.Ae=m:=⟨e.Ae.toNat,D⟩;have hmn:m<=n:=D;have t5:AQ (n<m)=AM:=Bw D;have t6:AQ ((m:Int)<0)=AM:=Bw D;have qe:=(HC0 _ (Ext.B9 W0)).2;have hs0:=HS0.o;by_cases hend:m=n
  .have t4:(e.Ae==(n:Int))=AL:=by rw[C9];omega
   have t7:(m==n)=AL:=C9.2 hend;have HF:=A ((HF hlow).1 D);clear hlow hmn hend;go_wp2_with(first
    |(refine Ce rfl 34 _ rfl _ rfl 34 _ (0,0) _ HJC DV rfl U ?_)
    |(refine C7 rfl 34 _ _ rfl _ _ rfl rfl 34 _ (HRC _ (HD3 _ _)) U U U ?_)
    |(at_builtin;refine bm l F _ _ F W0.1.size F (HO2 _) (Ext.B9 _) (r:=X) (by rw[x.o]) F AV y H D (HD1 _).below.size ?_;intro v2 Y ho2 hX2 _;obtain⟨A2,n2,c2,rfl⟩:=NT ho2;have HD3:=A (λc v=>((HD1 _).grow D hX2).put c v);have hjs:=Km.same (HJS _) hX2 D;have⟨q2,fz2⟩:=hjs.cell Z;have⟨a',hjc,hpo⟩:=HF _ _ (HD3 _ _) (hjs.put (AK A2 n2 c2)) (Jo ho2 (λq=>by have:=(DS ho2 _ q).1;simp only at this;omega) _);have HJC:=A hjc;have HPO:=A hpo;clear hX2 ho2 hjc hpo hjs)
    |(at_builtin;refine bz l F _ _ F (wr:=Wl) (Ext.B9 _) F F F (HSL _ HXL) k HWD HON D ?_;intro v1 W1 ho1 hX1;obtain⟨A1,n1,c1,rfl⟩:=NT ho1;have hX2:=HXL.tr hX1;have ho1:=Lv ho1 HXL.size;have HO2:=A (λc=>Jo ho1 (p:=⟨B,c,O⟩) (λq=>by have:=(DS ho1 _ q).1;simp only at this;omega) (AK A1 n1 c1));have⟨q1,qe1⟩:=HC0 _ hX2;have fz:=HFZ _ hX2;have HJS:=A (λc=>Km.of (HJ.ext hX2) (i:=c) (AK A1 n1 c1));have HD1:=A (λc=>(uf hX2 hs0).put c (AK A1 n1 c1));clear ho1 hX1 hX2)
    |(go_at_call 233;refine(KL _).q λWl hX1=>?_;have HXL:=A hX1;have⟨ql,qel⟩:=HC0 _ hX1;have qm:=λt:Bb=>(HC0 (Wl.alloc (.cells #[] t)) (hX1.tr ((Ad _ _).alloc (AS _) _))).1;have qem:=λt:Bb=>(HC0 (Wl.alloc (.cells #[] t)) (hX1.tr ((Ad _ _).alloc (AS _) _))).2;clear hX1)
    |(refine Ce rfl 34 _ rfl _ rfl 34 _ (0,0) _ HJ DV rfl U ?_))
   refine Bp (Iu F _ _ _ _ F (setRow_heap (HRC _ (HD3 _ _)) _) U) F ?_;exact HPO
  have t4:(e.Ae==(n:Int))=AM:=Hi;have HF:=A (by have:=(HF hlow).2 D;rwa[show e.Ae.toNat=m by omega] at this:Yv W0 B _ j a _ _ n ((_:List (List AN)).set m X).flatten J post);have e1:(m:Int)<(n:Int):=D;have hmn:m<n:=D;clear hlow hend;have t7:(m==n)=AM:=CK.2 D;go_wp2_with(first
   |(refine Ce rfl 34 _ rfl _ rfl 34 _ (0,0) _ HJC DV rfl U ?_)
   |(refine C7 rfl 34 _ _ rfl _ _ rfl rfl 34 _ (HRC _ (HD4 _ _)) U U U ?_)
   |(refine OD rfl _ _ _ rfl _ _ _ rfl rfl _ _ (HG1 _) U HG2 U ?_;(have⟨a',hjc,hpo⟩:=HF _ _ (HD4 _ _) (HJS4 _ _) (HG4 _);have HJC:=A hjc;have HPO:=A hpo;clear hjc hpo))
   |(at_builtin;refine bz l F _ _ F (wr:=Wl) (Ext.B9 _) F F F (HSL _ HXL) k HWD HON D ?_;intro v1 W1 ho1 hX1;have hX2:=HXL.tr hX1;have ho1:=Lv ho1 HXL.size;obtain⟨gg,c1,cur,rfl,hgb,hh,p1,p2,p3,p4⟩:=Pr ho1 D;have⟨q1,qe1⟩:=HC0 _ hX2;have fz:=HFZ _ hX2;have HD4:=A (λc cs=>((uf hX2 hs0).put c (AK (Q ⟨gg,0,O⟩) n c1)).grow D (CL (Ad W0.1.size _) hgb cs));have HJS4:=A (λc cs=>Km.same (Km.of (HJ.ext hX2) (i:=c) (AK (Q ⟨gg,0,O⟩) n c1)) (CL (Ad W0.1.size _) hgb cs) D);have hg1:=λc=>(Gp W1 ⟨B,c,O⟩ (AK (Q ⟨gg,0,O⟩) n c1) gg (by show gg≠B;omega)).trans hh;have HG1:=A hg1;have HG3:=A hgb;have HG2:=A (b0P p3 hmn p1);have hg4:=λc=>Xy hgb (hg1 c) p1 p2 p3 p4 k HWD y hmn;simp only[x.o] at hg4;have HG4:=A hg4;clear hg4 ho1 hX1 hX2 hgb hh p1 p2 p3 p4 hg1)
   |(go_at_call 233;refine(KL _).q λWl hX1=>?_;have HXL:=A hX1;have⟨ql,qel⟩:=HC0 _ hX1;have qm:=λt:Bb=>(HC0 (Wl.alloc (.cells #[] t)) (hX1.tr ((Ad _ _).alloc (AS _) _))).1;have qem:=λt:Bb=>(HC0 (Wl.alloc (.cells #[] t)) (hX1.tr ((Ad _ _).alloc (AS _) _))).2;clear hX1)
   |(refine Ce rfl 34 _ rfl _ rfl 34 _ (0,0) _ HJ DV rfl U ?_))
  refine Bp (Iu F _ _ _ _ F (setRow_heap (HRC _ (HD4 _ _)) _) U) F ?_;exact HPO):p:=h
def a3e(w:V)(j:BG)(a:BU)(e:Ed)(g:AN){z:Nat->Prop}(I:∀b,z b->b<w.1.size)(f:Bc z w w.1.size j a)(hk:e.Ab=5)(K:ln j.Bi<=1000000):
  AZ AO 164 #[AW (P j a),AW (Ah e g)] w (Gg z w (DU (ln j.Bi) e.Ae) {j with Bi:=CC j.Bi e.Ae ⟨e.EL,e.E9,e.E8,e.EE,e.EK⟩}):=by
 have⟨J,C⟩:=AP ({j with Bi:=CC j.Bi e.Ae ⟨e.EL,e.E9,e.E8,e.EE,e.EK⟩});rw[C];have d:=iF (g:=g) (J:=J) (X:=Hs ⟨e.EL,e.E9,e.E8,e.EE,e.EK⟩) 5 hk I f (JD j a) (BL _) f.o F (λ_ E N h L=>C▸Zz E N h (by rw[Fa,<-YR Hs];exact L));have k:=A ((BL _):(Fa j.Bi).length=_);generalize ln j.Bi=n at d k K⊢;have⟨X,o⟩:=Lc (Hs ⟨e.EL,e.E9,e.E8,e.EE,e.EK⟩:List AN);rw[<-o] at d;have l:=A xM;have s:=A (Ci (T0 j.Bi) (Zm j.Bi));have x:=A (show X.toArray=#[M G e.EL,AT (tx e.E9),AT (tx e.E8),AT (tx e.EE),AT _] by rw[o]);have y:=A (show ln X=5 by rw[o];rfl);have H:=A (show∀u∈X,u.oneCell'=AL by rw[o];simp[Ks]);exact gj
def a43(w:V)(j:BG)(a:BU)(e:Ed)(g:AN){z:Nat->Prop}(I:∀b,z b->b<w.1.size)(f:Bc z w w.1.size j a)(hk:e.Ab=10)(K:ln j.Bt<=1000000):
  AZ AO 164 #[AW (P j a),AW (Ah e g)] w (Gg z w (DU (ln j.Bt) e.Ae) {j with Bt:=CC j.Bt e.Ae ⟨e.FJ,e.FI,e.FH⟩}):=by
 have⟨J,C⟩:=AP ({j with Bt:=CC j.Bt e.Ae ⟨e.FJ,e.FI,e.FH⟩});rw[C];have d:=iF (g:=g) (J:=J) (X:=Oh ⟨e.FJ,e.FI,e.FH⟩) 10 hk I f (Iz j a) (BL _) f.l F (λ_ E N h L=>C▸aD E N h (by rw[I6,<-YR Oh];exact L));have k:=A ((BL _):(I6 j.Bt).length=_);generalize ln j.Bt=n at d k K⊢;have⟨X,o⟩:=Lc (Oh ⟨e.FJ,e.FI,e.FH⟩:List AN);rw[<-o] at d;have l:=A wv;have s:=A (Ci (UJ j.Bt) (Zp j.Bt));have x:=A (show X.toArray=#[M G e.FJ,M G e.FI,AT _] by rw[o]);have y:=A (show ln X=3 by rw[o];rfl);have H:=A (show∀u∈X,u.oneCell'=AL by rw[o];simp[Ks]);exact gj
def a3t(w:V)(j:BG)(a:BU)(e:Ed){z:Nat->Prop}(S:∀b,z b->b<w.1.size)(f:Bc z w w.1.size j a)(hk:e.Ab=7)(ab:ln j.CV<=1000000)(N:Option An)(L:Nat)(T:C8 w w.1.size N L e.Aa)(aa:∀W,Cu z w.1.size w W->C8 W W.1.size N L e.Aa):
  AZ AO 164 #[AW (P j a),AW (Ah e (AK N (ln e.Aa) L))] w (Gg z w (DU (ln j.CV) e.Ae) {j with CV:=CC j.CV e.Ae ⟨e.Ch,e.Ck,e.Co,e.Cp,e.Cr,e.Aa⟩}):=by
 have⟨rows,o,ac,ad⟩:=au f (AS _);have⟨J,I⟩:=AP ({j with CV:=CC j.CV e.Ae ⟨e.Ch,e.Ck,e.Co,e.Cp,e.Cr,e.Aa⟩});rw[I];have d:=iF (g:= AK N (ln e.Aa) L) (J:=J) (X:=JP ⟨e.Ch,e.Ck,e.Co,e.Cp,e.Cr,e.Aa⟩ N L) 7 hk S f (JE j a) o.1 ac F (λC R hv h ho=>I▸Zu R hv h ((o.below C).put e.Ae _ N L ((Yh T).below C)) (λW K=>(ad W (K.below C)).put e.Ae _ N L (Yh (aa W (K.below C)))) ho);have k:=A (o.1);generalize ln j.CV=n at d k ab⊢;have⟨X,E⟩:=Lc (JP ⟨e.Ch,e.Ck,e.Co,e.Cp,e.Cr,e.Aa⟩ N L:List AN);rw[<-E] at d;have l:=A wk;have s:=A (Ci o.wide o.one);have x:=A (show X.toArray=#[M G e.Ch,M G e.Ck,M G e.Co,M G e.Cp,M G e.Cr,AK N _ L] by rw[E]);have y:=A (show ln X=6 by rw[E];rfl);have H:=A (show∀u∈X,u.oneCell'=AL by rw[E];simp[Ks]);exact gj
end
section
open Kp
theorem a6E(T:JO t e k){o:Oper}{a:BV}{K:BV->V->Prop}{b:Exit->BV->V->Prop}(s x:F0)(l:o.op= .call {callee:= .builtin .append,args:=#[s,x],argTypes:=#[t,t]})
  (q:a.eval s=AK (Q ⟨g,0,O⟩) 0 0)(j:w.1[g]?=Q (.cells #[] e (0,0)))(i:base<=g){B:Nat}{rows:List (List AN)}(hx:a.eval x=AK R m c)(p:BB k w B R c rows)
  (hm:ln rows=m)(hw:DG k rows)(h1:GL rows)(f:m<=4000000)
  (h:∀v' w',w'.ownsRow base e k v' m rows.flatten->Ext w w'->K (a.put o.dst v') w'):Oper.wp AO o a w K b:=by
 have⟨v',w',n,h2,d⟩:=a4a T w o.type j i p hm hw h1 f;unfold Oper.wp execOp;simp[l,resolve,invoke,builtin,Ug,Uh,Ul,Z5,SN,Wu,q,hx,n];exact h v' w' h2 d
theorem a7W(T:JO t e k)(w:V){B:Nat}{rows:List (List AN)}(l:BB k w B R c rows)(hn:ln rows=n)(hi:i<=n):
  ∃a,(∀W,Sem.run AO (Instr.sliceAt t (AK R n c) O (Q (M G (i:Int))) O) W= .ok (AK a i c) W)/\BB k w B a c (rows.take i):=by
 obtain⟨hu,z,_,d,_,v,_,hk,_⟩:=T;obtain⟨h1,h2,f⟩:=l;refine⟨if c=0 then R else R.map (·.add 0),λW=> ?_,?_⟩
 .exact a0D
 have r:(rows.take i).length=i:=Al;refine⟨D,h2,λs=> ?_⟩;obtain⟨b,off,rfl,g,m⟩:=f D;refine⟨b,off,?_,g,λq u j o=> ?_⟩
 .grind [Addr.add]
 grind
theorem qc(T:JO t e k)(w:V){B:Nat}{rows:List (List AN)}(l:BB k w B R c rows)(hn:ln rows=n)(hi:i<=n):
  ∃a,(∀W,Sem.run AO (Instr.sliceAt t (AK R n c) (Q (M G (i:Int))) O O) W= .ok (AK a (n-i) (c-i)) W)/\BB k w B a (c-i) (rows.drop i):=by
 obtain⟨hu,z,_,d,_,v,_,hk,_⟩:=T;obtain⟨h1,h2,f⟩:=l;refine⟨if c=i then R else R.map (·.add (i*k)),λW=> ?_,?_⟩
 .exact a0D
 have r:(rows.drop i).length=n-i:=Al;refine⟨D,D,λs=> ?_⟩;obtain⟨b,off,rfl,g,m⟩:=f D;refine⟨b,off+k*i,?_,g,λq u j o=> ?_⟩
 .grind [Addr.add]
 grind
def Pn(B cell:Nat)(R:Option An)(n a i:Nat):Nat->AN
 |1=> Ap (Q ⟨B,cell,O⟩)
 |2=> AK R n a
 |3=> M G (i:Int)
 |6=> Ap (Q ⟨B,cell,O⟩)
 |7=> AK R n a
 |8=> M G (i:Int)
 |9=> M G ((i:Int)+1)
 |_=>Ba
def Rb(W0:V)(e:Bb)(k B cell:Nat)(R:Option An)(n b i:Nat)(rows:List (List AN)):Nat->AN->V->Prop
 |0,v,w=>∃g,v=AK (Q ⟨g,0,O⟩) 0 0/\W0.1.size<=g/\w.1[g]?=Q (.cells #[] e (0,0))
 |4,v,w=>∃a,v=AK a i b/\BB k w w.1.size a b (rows.take i)
 |5,v,w=>w.ownsRow W0.1.size e k v i (rows.take i).flatten
 |10,v,w=>∃a,v=AK a (n-(i+1)) (b-(i+1))/\BB k w w.1.size a (b-(i+1)) (rows.drop (i+1))
 |q,v,_=>v=Pn B cell R n b i q
theorem b0Z{k B cell:Nat}{n a i:Nat}{rows:List (List AN)}{v:AN}(h:Rb W0 e k B cell R n a i rows q v w)(hx:Ext w w'):Rb W0 e k B cell R n a i rows q v w':=by
 unfold Rb at *;split at h
 .obtain⟨g,h1,h2,h3⟩:=h;exact⟨g,h1,h2,(hx.block g (Ee.1 h3).1).trans h3⟩
 .exact a0E
 .grind [EV]
 .exact a0E
 grind
end
section
open Kp
attribute [local go_sem] Eb Iy Jm I4 LW Hk Lw Lx Ly M0 M3 M4 M5 M6 M7 M8 Mf NU NV NW NY Mg Mh Mi Mj Ml Mm Mn Mo J9 M9 MA MB Mr Ms Mt MG MH
def Xk(w:V)(l:List Int)(x:CI)(w':V):Prop:=∃R c,x=Ac (AK R (ln l) c)/\BB 1 w' w'.1.size R c (Cy l)/\Ext w w'
theorem sn{v:AN}{l:List Int}(h:w'.ownsRow base 3 1 v (ln l) (Cy l).flatten)(hx:Ext w w'):Xk w l (Ac v) w':=by
 obtain⟨R,c,rfl,h2⟩:=F1 h (by rw[BL]) (G9 (f:=λn:Int=>([M G n]:List AN)) (λ_=>rfl) l);exact⟨R,c,F,h2,hx⟩
def tA(l:List Int):(Cy l).flatten=l.map (Gr .i64):=by
 induction l with
 |nil=>rfl
 |cons x l a=>simp only[Cy,SN,Wi] at *;rw[a];rfl
def pU(w:V)(l:List Int)(base:Nat)(a:base<=w.1.size)(hn:ln l<=100):(w.alloc (.cells (l.map (Gr .i64)).toArray 3)).ownsRow base 3 1 (AK (Q ⟨w.1.size,0,O⟩) (ln l) (ln l)) (ln l) (Cy l).flatten:=by
 rw[tA];exact⟨AV,.inr ⟨w.1.size,ln l,(l.map (Gr .i64)).toArray,rfl,a,Bq w _,AS _,Fp,AV,by simp[Qy]⟩⟩
theorem a84{v:AN}(l:List Int)(hx:Ext w W)(hn:ln l<=100)(b:Nat)(c:b=W.1.size)(d:v=AK (Q ⟨b,0,O⟩) (ln l) (ln l))(a:W'=W.alloc (.cells (l.map (Gr .i64)).toArray 3)):Xk w l (Ac v) W':=by
 subst d a c;exact sn (pU W l 0 (D8 _) hn) (hx.tr ((Ad _ _).alloc (AS _) _))
def b1E(w:V)(e:Ed)(g:AN)(h1:1<=e.Ab/\e.Ab<=12)(j:e.Ab≠7):AZ AO 101 #[AW (Ah e g)] w (Xk w (Cj e)):=by
 have⟨l,a⟩:=Lc (Cj e);rw[<-a];rcases(show e.Ab=1\/(e.Ab=2/\e.DX=AL)\/(e.Ab=2/\e.DX=AM)\/e.Ab=3\/e.Ab=4\/e.Ab=5\/e.Ab=6\/e.Ab=8\/e.Ab=9\/e.Ab=10\/e.Ab=11\/e.Ab=12 by cases e.DX<;>simp <;>omega) with hk|⟨hk,b⟩|⟨hk,b⟩|hk|hk|hk|hk|hk|hk|hk|hk|hk
 all_goals
  clear h1 j
  first
   |simp[Cj,TE,hk,b] at a
   |simp[Cj,TE,hk] at a
  have d:=A a;have f:=A (show Ext w (w.alloc (.cells (Ah e g) 54)) from(Ad _ _).alloc (AS _) _);have c:=A (EC.new w (Ah e g));have ec:=λi=>c.cell i
  clear a;go_enter func101,ntmps101;go_wp2;go_ret;rw[d.o];exact a84 _ f AV (w.1.size+1) AV F F
theorem a9q(h:Az w b e [M G x,M G y]):BB 1 w (b+1) (Q ⟨b,0,O⟩) 2 (Cy [x,y]):=
 ⟨AS _,Fp,λ_=>⟨b,0,rfl,Wk b,λi hi j a=>by
  obtain rfl:j=0:=D;rcases(show i=0\/i=1 by simp at hi;omega) with rfl|rfl
  .rw[h.cell _];rfl
  rw[h.cell _];rfl⟩⟩
def b5F(W0:V)(e:Ed)(v i:AN)(wr:V):Prop:=
 ∃k:Nat,k<=ln e.Aa/\i=M G (k:Int)/\wr.ownsRow W0.1.size 3 1 v (6+2*k) (Cy ([e.Ae,e.Ch,e.Ck,e.Co,e.Cp,e.Cr]++Ev (e.Aa.take k))).flatten/\Ext W0 wr
def Ie(B k n L a go:Nat)(v:AN)(x y:Int):Nat->AN
 |0=>v
 |1=> Ap (Q ⟨B,17,O⟩)
 |2=> Ap (Q ⟨B,22,O⟩)
 |3=> AK (Q ⟨a,go,O⟩) n L
 |4=> M G (k:Int)
 |5=> Ap (Q ⟨a,go+k*2,O⟩)
 |6=> Ap (Q ⟨a,go+k*2,O⟩)
 |7=> M G x
 |8=> Ap (Q ⟨B,17,O⟩)
 |9=> Ap (Q ⟨B,22,O⟩)
 |10=> AK (Q ⟨a,go,O⟩) n L
 |11=> M G (k:Int)
 |12=> Ap (Q ⟨a,go+k*2,O⟩)
 |13=> Ap (Q ⟨a,go+k*2+1,O⟩)
 |14=> M G y
 |_=>Ba
def Lr(B k n L a go:Nat)(v:AN)(x y:Int):Nat->AN->V->Prop
 |15,u,w=>∃g,u=AK (Q ⟨g,0,O⟩) 2 2/\Az w g 3 [M G x,M G y]
 |q,u,_=>u=Ie B k n L a go v x y q
theorem b0c{B k n L a go:Nat}{v:AN}(h:Lr B k n L a go v x y q u w)(hx:Ext w w'):Lr B k n L a go v x y q u w':=by
 unfold Lr at *;exact a07
def b04(w:V)(e:Ed)(N:Option An)(L:Nat)(hg:C8 w w.1.size N L e.Aa)(hk:e.Ab=7)(ap:ln e.Aa<=16):AZ AO 101 #[AW (Ah e (AK N (ln e.Aa) L))] w (Xk w (Cj e)):=by
 obtain⟨B,o⟩:=Lc w.1.size;obtain⟨W0,j⟩:=AP (w.alloc (.cells (Ah e (AK N (ln e.Aa) L)) 54));have s:Ext w W0:=j▸(Ad _ _).alloc (AS _) _;have C:=A (show EC W0 B (Ah e (AK N (ln e.Aa) L)) by rw[<-j,o];exact EC.new w _);have HI:=A (show Cj e=[e.Ae,e.Ch,e.Ck,e.Co,e.Cp,e.Cr]++Ev e.Aa by unfold Cj;rw[hk];simp);have J:=A (λW (h:Ext W0 W)=>(hg.below (s.tr h):C8 W w.1.size N L e.Aa));have H:=A (λW (h:Ext W0 W)=>(C.o.ext h).cell);have af:=A s;have HW:=A j;have ec:=λi=>C.o.cell i
 clear hg j s;go_enter func101,ntmps101;go_upto_region 1 with(fail)
 rw[<-o];rw[show w.alloc (.cells (Ah e (AK N (ln e.Aa) L)) 54)=W0 from HW.o];clear o;go_wp2_with fail
 go_loopw [4,5] (λv i wr=>b5F W0 e v i wr) (λ_ i _=>((ln e.Aa:Int)-B8 i).toNat)
 case atStart=>exact⟨0,D8 _,F,by have:=pU W0 ([e.Ae,e.Ch,e.Ck,e.Co,e.Cp,e.Cr]++Ev (e.Aa.take 0)) W0.1.size (AS _) (by simp[Ev]);simpa[Ev] using this,(Ad _ _).alloc (AS _) _⟩
 obtain⟨k,au,rfl,g,c⟩:=hrel;have R:=A c;have HO:=A g;have aq:=c.size;have aj:=H.o _ c;by_cases u:k<ln e.Aa
 .obtain⟨hgc1,hgc2,t⟩:=J.o _ c;obtain⟨gb,go,rfl,ar,ak⟩:=t D;unfold BM at hgc2;have P:=A (λW (h:Ext W0 W)=>by
   obtain⟨_,_,t⟩:=J.o W h;obtain⟨an,ao,he,_,hc⟩:=t D;cases he;have:=hc k u;rw[DL] at this;exact this)
  have I:=A (show e.Aa.take (k+1)=e.Aa.take k++[e.Aa[k]] from Sp u);obtain⟨x,y,ac⟩:∃x y,e.Aa[k]=(x,y):=⟨_,_,F⟩;rw[ac] at P I;clear c g ac ak;go_upto_region 21 with(fail)
  refine Fz U (al 16
   (λw'=>Ext wr w') (λq v w=>Lr B k (ln e.Aa) L gb go u4 x y q v w) (λ_=>AM) U (λ_ _ h k=>h.tr k) (λ_ _ _ _ h k=>b0c h k) (λ_ _ _ _ h=>Aq) ?step ?tail _ (Ext.dr _))
  case step=>
   intro q vs w' z d a;have c:=R.o.tr d;have aj:=H.o _ c;obtain⟨g1,g2⟩:=P.o _ c;rcases(show q=0\/q=1\/q=2\/q=3\/q=4\/q=5\/q=6\/q=7\/q=8\/q=9\/q=10\/q=11\/q=12\/q=13\/q=14\/q=15 by omega) with rfl|rfl|rfl|rfl|rfl|rfl|rfl|rfl|rfl|rfl|rfl|rfl|rfl|rfl|rfl|rfl<;>clear z<;>refine DC rfl (λK b=> ?_)
   .exact ZU
   .exact ZU
   .have d1:=a 1 Z U;simp only[Lr,Ie] at d1;go_simp;exact b _ _ ⟨_,by simp[d1,B7,Ie],Ext.B9 _,rfl,λh=>Aq⟩
   .have d2:=a 2 Z U;simp only[Lr,Ie] at d2;go_simp;exact b _ _ ⟨_,by simp[d2,B7,Ie],Ext.B9 _,rfl,λh=>Aq⟩
   .exact ZU
   .have d3:=a 3 Z U;have d4:=a 4 Z U;simp only[Lr,Ie] at d3 d4;go_simp;exact b _ _ ⟨_,by simp[d3,d4,B7,Ie],Ext.B9 _,rfl,λh=>Aq⟩
   .have d5:=a 5 Z U;simp only[Lr,Ie] at d5;go_simp;exact b _ _ ⟨_,by simp[d5,B7,Ie],Ext.B9 _,rfl,λh=>Aq⟩
   .have d6:=a 6 Z U;simp only[Lr,Ie] at d6;go_simp;exact b _ _ ⟨_,by simp[d6,B7,Ie],Ext.B9 _,rfl,λh=>Aq⟩
   .exact ZU
   .have d8:=a 8 Z U;simp only[Lr,Ie] at d8;go_simp;exact b _ _ ⟨_,by simp[d8,B7,Ie],Ext.B9 _,rfl,λh=>Aq⟩
   .have d9:=a 9 Z U;simp only[Lr,Ie] at d9;go_simp;exact b _ _ ⟨_,by simp[d9,B7,Ie],Ext.B9 _,rfl,λh=>Aq⟩
   .exact ZU
   .have d10:=a 10 Z U;have T:=a 11 Z U;simp only[Lr,Ie] at d10 T;go_simp;exact b _ _ ⟨_,by simp[d10,T,B7,Ie],Ext.B9 _,rfl,λh=>Aq⟩
   .have d12:=a 12 Z U;simp only[Lr,Ie] at d12;go_simp;exact b _ _ ⟨_,by simp[d12,B7,Ie],Ext.B9 _,rfl,λh=>Aq⟩
   .have d13:=a 13 Z U;simp only[Lr,Ie] at d13;go_simp;exact b _ _ ⟨_,by simp[d13,B7,Ie],Ext.B9 _,rfl,λh=>Aq⟩
   have d7:=a 7 Z U;have X:=a 14 Z U;simp only[Lr,Ie] at d7 X;go_simp;exact b _ _ ⟨_,by simp[d7,X,B7],(Ad _ _).alloc (AS _) _,⟨_,rfl,Az.new _ _ _⟩,λh=>Aq⟩
  case tail=>
   intro vs w' d r _;have m:=r 0 Z;obtain⟨am,ai,ad⟩:=r 15 Z;simp only[Lr,Ie] at m;simp only[m,ai,FV,FY];have S:=A (R.o.tr d);have E:=A (EV HO.o d);have ah:=A (a9q ad);clear d r m ad;go_wp2_with(at_builtin;refine dP T3 F _ _ F W0.1.size F E.o F ah.o F (G9 (f:=λn:Int=>([M G n]:List AN)) (λ_=>rfl) [x,y]) (XM [x,y]) D S.o.size ?_;intro v2 Y ab aa;have ag:=A (KY S.o aa (λq z=>(DS E.o q z).1));have ae:=A ab;clear ab aa)
   refine⟨⟨k+1,u,AV,?_,ag.o⟩,Bm⟩;rw[I.o,nt,<-No,Cy,PU,QB];exact ae.o
 obtain rfl:k=ln e.Aa:=D;rw[Nk] at g;have HE:=A (sn (l:=[e.Ae,e.Ch,e.Ck,e.Co,e.Cp,e.Cr]++Ev e.Aa) (by rw[FN,fX,Np];rwa[Np] at g) (af.o.tr c));clear c g;go_wp2_with fail
 go_ret;rw[HI.o];exact HE.o
def a5J(w:V)(e:Ed)(N:Option An)(L:Nat)(c:C8 w w.1.size N L e.Aa)(h1:1<=e.Ab/\e.Ab<=12)(b:ln e.Aa<=16):AZ AO 101 #[AW (Ah e (AK N (ln e.Aa) L))] w (Xk w (Cj e)):=by
 by_cases a:e.Ab=7
 .exact b04 w e N L c a b
 exact b1E w e _ h1 a
end
section
open Kp
attribute [local go_sem] Eb Iy Jm I4 LW Hk M0 M3 M4 M6 M8 M9 MA MB MG MH
def Yn{s:By}(h:s≠[])(a:By):(tx s++(⟨#[32]⟩:ByteArray))++tx a=tx (GK s a):=by
 rw[show(⟨#[32]⟩:ByteArray)=tx [32] from rfl,ZV,ZV];unfold GK;rw[Af h];simp
def a81(s:By)(l:List Int)(x:Int):D7 s (Dd (l++[x]))=GK (D7 s (Dd l)) (CY x):=by
 unfold Dd;rw[PU];exact bO _ _ _
theorem a6j{a:List By}(h:¬FT BF 0 (a.take k)=0):FT BF 0 a=FT BF 0 (a.take k):=by
 conv=>lhs;rw[<-WY k a]
 unfold FT;rw[eS];exact rY _ h
def a9i(e:Ed):(numsOf e).length<=4:=by
 unfold numsOf
 repeat' split
 all_goals simp
theorem a5E{o:Obj}{l:List By}{a:By}(h:l[q]?=Q a):((w.alloc o).alloc (.cells (l.map λa=>Value.string (tx a)).toArray 41)).cell? ⟨w.1.size+1,q,O⟩=Q (AT (tx a)):=
 ((Dc.Xj w o 41 (l.map λa=>Value.string (tx a))).cell q).trans (by rw[Ku,h];rfl)
def b2h(n:Int):(AQ (4<=n)&&AQ (n<=7)||n==10||n==11)=Hd n:=by
 unfold Hd;rw[JM];simp;omega
def b3P{n:Int}(h:Hd n=AL):Ox n=Gc n/\(Gc n).length<=10/\0<=n/\n<=12:=by
 unfold Hd at h;simp only[QJ,C9] at h;rcases h with((((h|h)|h)|h)|h)|h<;>rw[h]<;>decide
def qn(z:Int):(LJ z).length<=10:=by
 unfold LJ;rw[CM];cases hx:Dy[(z-1).toNat]? with
 |none=>simp
 |some x=>exact(show∀y∈Dy,ln y<=10 by decide+kernel) x (SH hx)
def a3w{e:Ed}(h:ln e.Ct<=1000):(D7 [] (El e)).length<=1100:=by
 have hk:=qn e.Be;have a:(Gc e.Av).length<=10:=by
  exact fM
 unfold El
 repeat' split
 all_goals simp[D7,GK]<;>omega
def b1j{e:Ed}(h:¬16<ln e.Aa):(Cj e).length<=38:=by
 unfold Cj
 repeat' split
 all_goals simp[fX]
 omega
def vh(w:V):AZ AO 99 #[] w λx w'=>∃g,x=Ac (AK (Q ⟨g,0,O⟩) 12 12)/\Az w' g 9 (Dy.map λa=> AT (tx a))/\Ext w w':=by
 go_enter func99,ntmps99;go_wp2;go_ret;exact⟨w.1.size,F,Az.new w 9 (Dy.map λa=> AT (tx a)),(Ad _ _).alloc (AS _) _⟩
def a4o(w:V)(e:Ed)(N:Option An)(L:Nat)(d:C8 w w.1.size N L e.Aa)(b:¬Fs e=0):
  AZ AO 50 #[AW (Ah e (AK N (ln e.Aa) L))] w (WB w (Dr BF e)):=by
 have g:=A (qO b);have a:At w.1.size w (w.alloc (.cells (Ah e (AK N (ln e.Aa) L)) 54)):=(Ad _ _).alloc (AS _) _;have i:=A (jU (w.alloc (.cells (Ah e (AK N (ln e.Aa) L)) 54)) e N L ((d.below a).more AV));have k:(Fs e !=0)=AL:=by rw[Cd];exact b
 have c:=A a;have f:=A (EC.new w (Ah e (AK N (ln e.Aa) L)));clear d b a;go_enter func50,ntmps50;go_wp2_with(first
  |(refine Ce rfl 54 _ rfl _ rfl 54 _ (0,0) _ f Cc rfl U ?_)
  |(go_at_call 88;refine i.q λW1 j=>?_))
 go_ret2;rw[g.o];exact⟨F,c.trans (j.mono c.size)⟩
def a8m(w:V)(e:Ed)(N:Option An)(L:Nat)(hg:C8 w w.1.size N L e.Aa)(a9:IH e)(a1:CA w)(hp:3<=w.1.size)(hf:Fs e=0):
  AZ AO 50 #[AW (Ah e (AK N (ln e.Aa) L))] w (WB w (Dr BF e)):=by
 have⟨B,hB⟩:=Lc w.1.size;have⟨W0,hW⟩:=AP (w.alloc (.cells (Ah e (AK N (ln e.Aa) L)) 54));have av:Ext w W0:=hW▸(Ad _ _).alloc (AS _) _;have E0:=A (show EC W0 B (Ah e (AK N (ln e.Aa) L)) by rw[<-hW,hB];exact EC.new w _);have HG:=A (λW (h:Ext W0 W)=>((hg.below (av.tr h)).more (av.tr h).size:C8 W W.1.size N L e.Aa));have KF:=A (λW (h:Ext W0 W)=>(jU W e N L (HG W h)).mono λr w' h=>(⟨by rw[h.1,hf],h.2⟩:r=Ac (M G 0)/\Ext W w'));have⟨aa,ba⟩:=sY hf;have KW:=A (cC e.Ab ⟨D,aa.2⟩);have KI:=A (λW (h:Ext W0 W) z=>a5J W e N L (HG W h) aa z);have af:=A av;have HW:=A hW;have HK:=A aa;have HU:=A ba;have aq:=A a9;have HP:=A a1;clear hg hW av aa ba a9 a1 hf;go_enter func50,ntmps50;go_upto_region 1 with(fail)
 rw[<-hB];rw[show w.alloc (.cells (Ah e (AK N (ln e.Aa) L)) 54)=W0 from HW.o];clear hB
 go_upto_block 0 with(first
  |(refine Ce rfl 54 _ rfl _ rfl 54 _ (0,0) _ E0 Cc rfl U ?_)
  |(go_at_call 88;refine(KF _ (Ext.B9 _)).q λW1 aK=>?_;have bi:=A aK;have E1:=A (E0.ext aK);have bl:=λi=>E1.cell i;clear aK)
  |(go_at_call 48;refine(KW _).q λY aL=>?_;have ac:=A (bi.tr aL);have E2:=A (E1.ext aL);have bm:=λi=>E2.cell i;clear aL))
 go_cut [5] (λs5 wx=>s5=AT (tx (D7 [] (El e)))/\Ext W0 wx/\¬(e.Ab=1/\IY e.Ct=AM)/\¬((e.Ab=6/\(e.Be<1\/12<e.Be))\/(e.Ab=12/\Hd e.Av=AM))/\¬16<ln e.Aa)
 case first =>
  have⟨s,hs⟩:=AP (Ox e.Ab);have⟨P,S⟩:=HK.o;have aa:e.Ab=0\/e.Ab=1\/e.Ab=2\/e.Ab=3\/e.Ab=4\/e.Ab=5\/e.Ab=6\/e.Ab=7\/e.Ab=8\/e.Ab=9\/e.Ab=10\/e.Ab=11\/e.Ab=12:=D;have aB:ln s<=10/\s≠[]\/e.Ab=0:=by
   rw[<-hs];rcases aa with h|h|h|h|h|h|h|h|h|h|h|h|h<;>rw[h]<;>decide
  have⟨aB,am⟩:=aB.resolve_right D;have ae:=A am;have ao:=A (show El e=s::(if e.Ab=1 then [e.Ct] else if e.Ab=6 then [LJ e.Be] else if e.Ab=12 then [Gc e.Av] else []) by
   rw[<-hs];unfold El;rcases aa with h|h|h|h|h|h|h|h|h|h|h|h|h
   .omega
   all_goals rw[h];rfl)
  have aD:=A (λh7:e.Ab≠7=>(λh=>h7 (nM HU D):¬16<ln e.Aa));rw[hs];clear hs aa am;by_cases hn:e.Ab=1
  .have⟨b,j⟩:=AP (IY e.Ct);have bx:ln e.Ct<=1000:=aq.Ct;have KN:=A (λW=>(wC e.Ct W D).mono λr w' h=>(⟨by rw[h.1,j],h.2.symm⟩:r=Ac (AU b)/\W=w'));cases b
   .have J:=A (show Dr BF e=([],13) by unfold Dr;rw[Af D,Af (λx=>x HU.o),Aj ⟨hn,j⟩]);clear j P S;go_wp2_with(go_at_call 78;refine(KN _).mono ?_;rintro r W3 ⟨rfl,rfl⟩)
    go_ret2;rw[J.o];exact⟨F,af.tr ac⟩
   have c1:¬9223372036854775807<ln s+1:=D;have c2:¬9223372036854775807<ln s+1+ln e.Ct:=D;have HB:=A (show¬(e.Ab=1/\IY e.Ct=AM) by rw[j];simp);clear j P S;go_wp2_with(go_at_call 78;refine(KN _).mono ?_;rintro r W3 ⟨rfl,rfl⟩)
   go_meet;rw[Yn ae.o,ao.o,Aj hn];exact⟨F,ac,HB,D,aD D⟩
  have ab:=A (show¬(e.Ab=1/\IY e.Ct=AM) fromλh=>hn h.1);have k1:(e.Ab==1)=AM:=CK.2 hn;have aE:=A hn;clear hn;by_cases h6:e.Ab=6
  .by_cases hz1:e.Be<1
   .have J:=A (show Dr BF e=([],8) by unfold Dr;rw[Af D,Af (λx=>x HU.o),Af ab.o,Aj (.inl ⟨h6,.inl hz1⟩)]);have t1:AQ (e.Be<1)=AL:=CP hz1;clear hz1 P S;exact ml
   have t1:AQ (e.Be<1)=AM:=Bw hz1;by_cases an:12<e.Be
   .have J:=A (show Dr BF e=([],8) by unfold Dr;rw[Af D,Af (λx=>x HU.o),Af ab.o,Aj (.inl ⟨h6,.inr an⟩)]);have t2:AQ (e.Be>12)=AL:=CP an;clear hz1 an P S;exact ml
   have t2:AQ (e.Be>12)=AM:=Bw an;have HZ:=A (show¬((e.Ab=6/\(e.Be<1\/12<e.Be))\/(e.Ab=12/\Hd e.Av=AM)) by omega);obtain⟨m,hm⟩:∃m:Nat,e.Be=(m:Int)+1:=⟨(e.Be-1).toNat,D⟩;have br:m<12:=D;have bd:=A (show Dy.getD m []=LJ e.Be by unfold LJ;rw[hm];congr 1;omega);have HC:=A (λW g (h:Az W g 9 (Dy.map λa=> AT (tx a)))=>(by rw[h.cell,<-bd.o,Ku,CM,Bv (show m<ln Dy from br)];rfl:W.cell? ⟨g,m,O⟩=Q (AT (tx (LJ e.Be)))));have e1:(m:Int)<12:=D;have w1:G.wrap (m:Int)=(m:Int):=DF _ D;have c1:¬9223372036854775807<ln s+1:=D;have az:=qn e.Be;have bB:∀W,Ext Y W->W.cell? ⟨B,14,O⟩=Q (M G ((m:Int)+1)):=λW h=>((E2.ext h).cell 14).trans (by rw[Jm,hm])
   have⟨a,E⟩:=AP (LJ e.Be);rw[E] at HC az;have HA:=A E;have c2:¬9223372036854775807<ln s+1+ln a:=D;clear hz1 an P S E az;go_upto_region 12 with fail
   go_region_with (first|(go_at_call 99;refine(vh _).mono ?_;rintro ee W3 ⟨g,rfl,I,aw⟩;have bt:Ext Y W3:=(Ext.dr Y).tr aw;have hc:=HC _ _ I))
   all_goals go_wp2
   all_goals go_meet
   all_goals
    rw[Yn ae.o,ao.o,Af aE.o,Aj h6,HA.o];exact⟨F,ac.tr bt,ab,HZ,aD D⟩
  have k6:(e.Ab==6)=AM:=CK.2 h6;have aj:=A h6;clear h6;by_cases ad:e.Ab=12
  .have⟨b,j⟩:=AP (Hd e.Av);have KL:=A (λW=>((jY e.Av W).mono λr w' h=>⟨by rw[h.1,b2h,j],h.2.symm⟩:AZ AO 100 #[M G e.Av] W λr w'=>r=Ac (AU b)/\W=w'));cases b
   .have J:=A (show Dr BF e=([],8) by unfold Dr;rw[Af D,Af (λx=>x HU.o),Af ab.o,Aj (.inr ⟨ad,j⟩)]);clear j P S;go_wp2_with(go_at_call 100;refine(KL _).mono ?_;rintro r W3 ⟨rfl,rfl⟩)
    go_ret2;rw[J.o];exact⟨F,af.tr ac⟩
   have⟨a,E⟩:=AP (Gc e.Av);have⟨aP,a4,a5⟩:=b3P j;rw[E] at aP a4;have KA:=A (λW=>aP▸cC e.Av a5 W);have HA:=A E;have HB:=A j;have c1:¬9223372036854775807<ln s+1:=D;have c2:¬9223372036854775807<ln s+1+ln a:=D;clear j P S E aP a4 a5;go_wp2_with(first
    |(go_at_call 100;refine(KL _).mono ?_;rintro r W3 ⟨rfl,rfl⟩)
    |(go_at_call 48;refine(KA _).q λW4 ax=>?_))
   go_meet;rw[Yn ae.o,ao.o,Af aE.o,Af aj.o,Aj ad,HA.o];exact⟨F,ac.tr ax,ab,λh=>h.elim (λy=>aj y.1) (λy=>by have:=y.2.symm.trans HB;cases this),aD D⟩
  have bA:(e.Ab==12)=AM:=CK.2 ad;have aU:=A ad;by_cases z:16<ln e.Aa
  .have J:=A (show Dr BF e=([],4) by unfold Dr;rw[Af D,Af (λx=>x HU.o),Af ab.o,Af (λx=>x.elim (λy=>aj.o y.1) (λy=>ad y.1)),Aj z]);have t1:AQ ((ln e.Aa:Int)>16)=AL:=CP D;have t2:AQ (16<ln e.Aa)=AL:=CP z;clear ad P S z;exact ml
  have t1:AQ ((ln e.Aa:Int)>16)=AM:=Bw D;have t2:AQ (16<ln e.Aa)=AM:=Bw z;have aR:=A z;clear ad P S z;go_wp2;go_meet;rw[ao.o,Af aE.o,Af aj.o,Af aU.o];exact⟨F,ac,ab,λh=>h.elim (λy=>aj y.1) (λy=>aU y.1),aR⟩
 obtain⟨rfl,aM,hn,hz,z⟩:=hcut;have J:=A (qZ HK HU hn hz z);have aR:=A z;have⟨s,hs⟩:=AP (D7 [] (El e));have aB:=a3w (e:=e) aq.Ct;have am:s≠[]:=by
  have⟨b,w',ws,hh⟩:=bG e;rw[<-hs,hh,Qg];exact Yb (by unfold GK;rw[Aj rfl];simp) _
 rw[hs] at aB⊢;have HS:=A hs;have ae:=A am;have⟨l,hl⟩:=AP (Cj e);have bq:=b1j (e:=e) z;have bk:=A (λW h=>hl▸KI.o W h D);have bc:=A (show∀n∈l,Bh n from hl▸aq.ints);rw[hl] at bq;have HL:=A hl;have aW:=A aM;have bb:=A (E0.ext aM);clear bl bm hn hz z hs am hl aM;go_wp2_with(first
  |(refine Ce rfl 54 _ rfl _ rfl 54 _ (0,0) _ bb Cc rfl U ?_)
  |(go_at_call 101;refine(bk _ aW).mono ?_;rintro r W3 ⟨R,c,rfl,a8,aw⟩;have ar:=A (aW.tr aw);have aH:=A a8;clear aw a8))
 go_loopw [5,7] (λt i wr=>∃k:Nat,k<=ln l/\i=M G (k:Int)/\t=AT (tx (D7 s (Dd (l.take k))))/\Ext W3 wr/\∀n∈l.take k,Ic n=AM) (λ_ i _=>((ln l:Int)-B8 i).toNat)
 case atStart=>exact⟨0,D8 _,F,F,Ext.B9 _,λn h=>Aq⟩
 obtain⟨k,az,rfl,rfl,C,H⟩:=hrel;have HX:=A C;have aF:=A H;have aO:(D7 s (Dd (l.take k))).length<=2000:=by
  have:=ai (l:=l.take k) (λn hn=>bc n (SE hn)) s;rw[QA] at this;omega
 by_cases u:k<ln l
 .obtain⟨b,off,rfl,j,hc⟩:=aH.2.2 QM;have⟨x,hx⟩:=AP (l[k]);have ay:=(C.cell j).trans (hc k (by rw[BL];exact u) 0 Z);rw[Rh u,H7,Dh,dF u,hx] at ay;have e1:(k:Int)<(ln l:Int):=D;have bn:=aH.2.1;have bo:=aH.1;rw[BL] at bo;unfold BM at bn;have bj:=A (show x∈l from hx▸Ey u);have ak:=A (show l.take (k+1)=l.take k++[x] by rw[<-hx];exact Sp u);by_cases X:Ic x=AL
  .have HT2:=A (show Dr BF e=([],2) by
    have:Gv 0 (Cj e)=2:=by rw[HL.o];unfold Gv;rw[Aj (QD.2 ⟨x,bj.o,X⟩)]
    rw[J.o,this];rfl)
   have⟨p,hp⟩:=AP (AQ (x< -1073741824));have K:p=AM->AQ (x>1073741824)=AL:=λh=>by
    unfold Ic at X;rw[hp,h] at X;simpa using X
   clear X C H hx hc;cases p
   case' false=>have K:=K F
   all_goals
    go_wp2;go_ret2;rw[HT2.o];exact⟨F,af.tr (ar.tr HX)⟩
  have bf:=A (Wm _▸X:Ic x=AM);have aZ:¬x< -1073741824:=λh=>X (by unfold Ic;rw[CP h];rfl)
  have a0:¬1073741824<x:=λh=>X (by unfold Ic;rw[CP h,Bool.or_true])
  have t1:AQ (x< -1073741824)=AM:=Bw aZ;have t2:AQ (x>1073741824)=AM:=Bw a0;have KD:=A (a7N x D D);have bp:(CY x).length<=21:=Lib.itoa_length_le x D D;have⟨d,hd⟩:=AP (CY x);have⟨r,I⟩:=AP (D7 s (Dd (l.take k)));rw[hd] at bp KD;rw[I] at aO⊢;have a6:r≠[]:=I▸Yb ae _;have aG:=A (show tx r++(⟨#[32]⟩:ByteArray)++tx d=tx (D7 s (Dd (l.take (k+1)))) by rw[ak.o,a81,I,hd,Yn a6]);have c1:¬9223372036854775807<ln r+1:=D;have c2:¬9223372036854775807<ln r+1+ln d:=D;clear X aZ a0 C H hx hc hd I a6;go_wp2_with(go_at_call 102;refine(KD _).q λW4 ax=>?_;have ag:=A (HX.tr ax);clear ax)
  refine⟨⟨k+1,u,AV,by rw[aG.o],ag,λn hn=> ?_⟩,Bm⟩;rw[ak.o] at hn;rcases QF.1 hn with h|h
  .exact aF n h
  rw[List.mem_singleton.1 h];exact bf
 obtain rfl:k=ln l:=D;have⟨wa,bs⟩:=Lc wr;subst bs;rw[Nk] at aO aF⊢;have aI:=A (show Dr BF e=if¬FT BF 0 (numsOf e)=0 then([],FT BF 0 (numsOf e)) else(D7 [] (EU e),0) by
  have:Gv 0 (Cj e)=0:=by
   rw[HL.o];unfold Gv;rw[Af];rw[QD];rintro⟨n,h1,h2⟩;have:=h2.symm.trans (aF n h1);cases this
  rw[J.o,this];rfl)
 have⟨r,I⟩:=AP (D7 s (Dd l));rw[I] at aO⊢;have bh:=A (show r≠[] from I▸Yb ae _);have aV:=A (show D7 [] (EU e)=D7 r (numsOf e) by unfold EU;rw[YL,YL,HS.o,HL.o,I]);have aX:=aq.nums;have h4:=a9i e;have⟨f,T⟩:=Lc (numsOf e);rw[<-T] at aX h4 aI aV;have aQ:=A aX;have E5:=A (E0.ext (ar.tr C));have bu:=λi=>(E5.alloc (.cells #[] 41)).cell i
 have bg:=A (λW (h:Ext wa W)=>HP.below (af.tr ((ar.tr HX).tr h)) (AS _));have HA:=A (λW (h:Ext wa W)=>af.tr ((ar.tr HX).tr h));clear C H I;rcases(show e.Ab=5\/e.Ab=10\/(e.Ab≠5/\e.Ab≠10) by omega) with hk|hk|⟨hk,a2⟩
 case' inl=>
  have bv:=λi=>((E5.alloc (.cells #[] 41)).alloc (.cells #[AT (tx e.E9),AT (tx e.E8),AT (tx e.EE),AT (tx e.EK)] 41)).cell i
  simp[numsOf,hk] at T;have a3:ln f=4:=by rw[T];rfl
  have aC:=A (λk (h:k<ln f)=>(by omega:(k:Int)<4/\k<4))
 case' inr.inl=>
  simp[numsOf,hk] at T;have a3:ln f=1:=by rw[T];rfl
  have aC:=A (λk (h:k<ln f)=>(by omega:(k:Int)<1/\k<1))
 case' inr.inr=>
  have k5:(e.Ab==5)=AM:=CK.2 hk;have bz:(e.Ab==10)=AM:=CK.2 a2;simp[numsOf,hk,a2] at T;have a3:ln f=0:=by rw[T];rfl
  have aC:=A (λk (h:k<ln f)=>(by omega:(k:Int)<0/\k<0))
 all_goals
  have be:=A T;clear T;go_wp2;go_loopw [5,9,10] (λt i er wx=>∃k:Nat,k<=ln f/\i=M G (k:Int)/\t=AT (tx (D7 r (f.take k)))/\Ext wa wx/\FT BF 0 (f.take k)=0/\∀q a,f[q]?=Q a->wx.cell? ⟨wa.1.size+1,q,O⟩=Q (AT (tx a))) (λ_ i _ _=>((ln f:Int)-B8 i).toNat)
  case atStart=>
   refine⟨0,D8 _,F,F,?_,F,λq a K=> ?_⟩
   .first
     |exact(Ad _ _).alloc (AS _) _
     |exact((Ad _ _).alloc (AS _) _).alloc AV _
   rw[be.o] at K;have h1:=a5E (w:=wa) (o:= .cells #[] 41) K
   first
    |exact h1
    |cases K
  obtain⟨k,az,rfl,rfl,C,H,al⟩:=hrel;by_cases u:k<ln f
  .obtain⟨a,E⟩:∃a,f[k]?=Q a:=⟨_,Bv u⟩;have aY:ln a<=1000:=aQ a (SH E);have ay:=al k a E;have aS:=A al;have ag:=A C;have ak:=A (show f.take (k+1)=f.take k++[a] by rw[Sp u,(Wb.1 E).2]);have ap:=A (show FT BF 0 (f.take (k+1))=BF a by rw[ak.o,pC,Aj H]);have⟨e1,e2⟩:=aC k u;have KC:=A (Zh a▸ji (tx a) wr QN (bg _ C));have⟨v,hv⟩:=AP (BF a);rw[hv] at KC ap;by_cases h0:v=0
   .subst h0;have aN:=vD (l:=f.take k) (m:=1000) (λb j=>aQ b (SE j)) r;rw[QA] at aN;have⟨s2,aA⟩:=AP (D7 r (f.take k));rw[aA] at aN⊢;have a7:s2≠[]:=aA▸Yb bh _;have aG:=A (show tx s2++(⟨#[32]⟩:ByteArray)++tx a=tx (D7 r (f.take (k+1))) by rw[ak.o,bO,aA,Yn a7]);have c1:¬9223372036854775807<ln s2+1:=D;have c2:¬9223372036854775807<ln s2+1+ln a:=D;have aT:=A u;clear H al C E aA a7 hv u aN aY;go_wp2_with(go_at_call 103;refine KC.q λW5 ah=>?_;have bw:=(ah.cell (TL _ _ ay)).trans ay;have au:=A ah;clear ah)
    all_goals refine⟨⟨k+1,aT,AV,by rw[aG.o],ag.tr au,ap,λq b K=>(au.cell (TL _ _ (aS q b K))).trans (aS q b K)⟩,by have:=aT.o;simp[B8];omega⟩
   have K:(v !=0)=AL:=Cd.2 h0;have aJ:=A (show Dr BF e=([],v) by
    have h9:FT BF 0 f=v:=by rw[a6j (k:=k+1) (by rw[ap.o];exact h0),ap.o]
    rw[aI.o,h9,Aj h0])
   clear H al C E hv u aY h0;go_wp2_with(go_at_call 103;refine KC.q λW5 ah=>?_;have au:=A ah;clear ah)
   all_goals
    go_ret2;rw[aJ.o];exact⟨F,(HA _ ag).tr au⟩
  obtain rfl:k=ln f:=D;rw[Nk] at H⊢;have aJ:=A (show Dr BF e=(D7 r f,0) by rw[aI.o,Af (by rw[H];simp),aV.o]);have ag:=A (HA _ C);clear H al C u;go_wp2;go_ret2;rw[aJ.o];exact⟨F,ag⟩
def a50(w:V)(e:Ed)(N:Option An)(L:Nat)(b:C8 w w.1.size N L e.Aa)(f:IH e)(c:CA w)(d:3<=w.1.size):
  AZ AO 50 #[AW (Ah e (AK N (ln e.Aa) L))] w (WB w (Dr BF e)):=by
 by_cases a:Fs e=0
 .exact a8m w e N L b f c d a
 exact a4o w e N L b a
end
section
open Kp
def a9B:(AO.info? 9).map (λi=>(i.zero,i.size,i.bytes))=Q (Q (AT ⟨#[]⟩),1,16):=U
def uH:JO 90 9 1:=Ru underlying90 a9B rfl Z Z
def b1a(l:List By):DG 1 (WC l):=G9 (f:=λa:By=>([AT (tx a)]:List AN)) (λ_=>rfl) l
abbrev Ng(w:V)(R:Option An)(c:Nat)(l:List By):Prop:=BB 1 w w.1.size R c (WC l)
theorem Ng.at{l:List By}(h:Ng w R c l)(hi:i<ln l):∃b off,R=Q ⟨b,off,O⟩/\w.cell? ⟨b,off+i,O⟩=Q (AT (tx l[i])):=by
 obtain⟨b,off,e,-,a⟩:=h.2.2 QM;have:=a i ZM 0 Z;refine⟨b,off,e,?_⟩;simpa[hi] using this
def b4k(w:V)(s:By)(v f i:AN)(wr:V):Prop:=
 ∃(ws:List By) (a k:Nat),f=M G (a:Int)/\i=M G (k:Int)/\wr.ownsRow w.1.size 9 1 v (ln ws) (WC ws).flatten/\Ext w wr/\QV s ws a k/\ln ws<=k
def b1v(s:By)(a k:Nat):(tx s).extract a k=tx ((s.drop a).take (k-a)):=by
 apply eW;apply Array.ext';simp
def a4I(s:By)(w:V)(Z:ln s<=1000):AZ AO 47 #[AT (tx s)] w λx w'=>∃R c,x=Ac (AK R (Da s [32]).length c)/\Ng w' R c (Da s [32])/\Ext w w':=by
 have hz:=DJ s;have⟨z,r⟩:=AP (tx s);have H:=A r;have⟨n,hn⟩:=AP (ln s);have B:=A hn;rw[r,hn] at hz;rw[r];rw[hn] at Z;clear r hn;go_enter func47,ntmps47;go_wp2;go_loopw [3,4,5] (λv f i wr=>b4k w s v f i wr) (λ_ _ i _=>((n:Int)+1-B8 i).toNat)
 case atStart=>exact⟨[],0,0,F,F,Si w w.1.size 9 1 (AS _),(Ad _ _).alloc (AS _) _,.inl ⟨AS _,D8 _,AV,AV⟩,AS _⟩
 obtain⟨ws,a,k,rfl,rfl,g,hx,hi,hk⟩:=hrel;have X:=hx.size;obtain⟨R,m,c,rfl⟩:=NT g;have E:=A g;have u:=A hx;by_cases Y:k<=n
 .have hak:a<=k:=by have:=B.o;rcases hi with⟨h,_⟩|⟨h,_⟩<;>omega
  have l:k<n->k<z.size:=λh=>D
  have q:k<n->k<ln s:=λh=>Nr
  have o:∀(h:k<n),(z[k]'(l h)).toNat=(s[k]'(q h)).toNat:=λh=>by
   have:=H.o;subst this
   rfl
  by_cases d:∀h:k<ln s,s[k]=32
  .have t:=A (hi.cut (by rw[B.o];exact Y) d);have C:∀h:k<n,(z[k]'(l h)).toNat=32:=λh=>by rw[o h,d];rfl
   clear g hx hi o q d;by_cases j:k=n
   case' pos=>clear C;subst j
   case' neg=>
    have y:=l D;have t1:(((z[k]'y).toNat:Int)==32)=AL:=by rw[C9,C D];rfl
    clear C
   all_goals
    go_wp2_with(at_builtin;refine Mq uH F _ _ F w.1.size F E TU F F F (OR F) D X ?_;intro v' w' J I;have N:=A J;have S:=A (u.trans I);clear J I)
    refine⟨⟨ws++[(s.drop a).take (k-a)],k+1,k+1,by go_num,by go_num,?_,S,t,Bk⟩,TS⟩;have:=N.o;rw[<-H.o,b1v] at this;rw[U7,FN];exact this
  have j:k<n:=eA λh=>d λh2=>absurd (B.o▸h2) h
  have t:=A (hi.next (q j) (λh=>d λ_=>h));have y:=l j;have t1:(((z[k]'y).toNat:Int)==32)=AM:=by
   rw[CK];intro h;refine d λh2=> ?_
   have:=o j;exact Wd (a:=s[k]) (b:=32) (by show s[k].toNat=32;omega)
  clear g hx hi o q d;go_wp2;exact⟨⟨ws,a,k+1,F,by go_num,E,u,t,D⟩,Bm⟩
 rcases hi with⟨h,h2,_⟩|⟨h,h2⟩
 .rw[B.o] at h2;omega
 have⟨A',c',e,K⟩:=F1 g (BL _) (b1a _);injection e with T U W
 subst T U W;have P:=A K;have L:=A h2;clear g hx h h2 K;go_wp2;go_ret;rw[<-L.o];exact⟨_,_,F,P,u⟩
def a1d(s:By)(w:V)(J:ln s<=100000):AZ AO 169 #[AT (tx s)] w λx w'=>x=Ac (M G (GC s))/\Ext w w':=by
 have K:=DJ s;have⟨z,o⟩:=AP (tx s);have E:=A o;have⟨n,hn⟩:=AP (ln s);have r:=A hn;rw[o,hn] at K;rw[o];rw[hn] at J;clear o hn;go_enter func169,ntmps169;go_wp2;go_loopw [3,4,5] (λv m i wr=>∃(q k:Nat) (b:Bool),v=M G (q:Int)/\m=AU b/\i=M G (k:Int)/\MZ s k q b/\Ext w wr) (λ_ _ i _=>((n:Int)-B8 i).toNat)
 case atStart=>exact⟨0,0,AM,F,F,F,⟨D8 _,F,by split <;>rfl,D⟩,Ext.B9 _⟩
 obtain⟨q,k,b,rfl,rfl,rfl,hi,hx⟩:=hrel;have l:=A hx;have R:=hi.2.2.2;have P:k<=n:=r.o▸hi.1;by_cases H:k<n
 .have hb:k<z.size:=D;have u:k<ln s:=r.o▸H;have f:(z[k]'hb).toNat=s[k].toNat:=by
   have:=E.o;subst this
   rfl
  by_cases d:k=0/\s.head?=Q 45
  .obtain⟨rfl,h45⟩:=d;have g:=A (MZ.neg h45);have h1:s[0]=45:=by
    cases s with
    |nil=>cases h45
    |cons c t=>simpa using h45
   have j:(((z[0]'hb).toNat:Int)==45)=AL:=by rw[C9,f,h1];rfl
   have I:q=0:=by
    have:=hi.2.2.1;rw[Aj h45] at this;simpa using this.symm
   subst I;clear hi hx f h1 h45;go_wp2;exact⟨⟨0,1,AL,F,F,by go_num,g,l⟩,TS⟩
  have h1:k=0->s.head?≠Q 45:=λe h=>d ⟨e,h⟩
  have j:k=0->(((z[k]'hb).toNat:Int)==45)=AM:=λe=>by
   rw[CK,f];intro h;refine h1 e ?_;subst e;cases s with
   |nil=>cases u
   |cons c t=>
    have:c=45:=Wd (by show c.toNat=45;simp at h;omega);rw[this];rfl
  clear d;cases a:CJ s[k] with
  |true=>
   have g:=A (hi.more u h1 a);have h2:48<=((z[k]'hb).toNat:Int)/\((z[k]'hb).toNat:Int)<=57:=by
    unfold CJ at a;rw[f];simp only[Ez,Cx,yL] at a;exact a08
   obtain⟨h2,N⟩:=h2;have y:(Gr .i64 (min (10*(q:Int)+(((z[k]'hb).toNat:Int)-48)) 2147483648))=M G ((min (10*q+Cv s[k]) 2147483648:Nat):Int):=by
    unfold Cv
    congr 1
    omega
   have C:=A y;clear hi hx f a h1 y;by_cases d:k=0
   case' pos=>have L:=j d;subst d
   all_goals
    clear j;go_wp2;exact⟨⟨_,_,b,C,F,by go_num,g,l⟩,TS⟩
  |false=>
   have g:=A (hi.bad u h1 a);have h2:((z[k]'hb).toNat:Int)<48\/57<((z[k]'hb).toNat:Int):=by
    unfold CJ at a;rw[f];simp only[Wc,CX,yL] at a;exact a08
   clear hi hx f a h1;by_cases d:k=0
   case' pos=>have L:=j d;subst d
   all_goals
    clear j;rcases h2 with h2|h2
    all_goals
     go_wp2;go_ret;exact⟨by rw[g.o];rfl,l⟩
 obtain rfl:k=n:=D;have a:=(r.o▸hi:MZ s (ln s) q b).done;have B:=A a;clear hi hx a;cases b;all_goals
  go_wp2;go_ret;exact⟨by rw[B.o];simp,l.o⟩
def cM(w:V)(R:Option An)(c:Nat)(l:List By)(i:Nat)(h:Ng w R c l):AZ AO 97 #[AK R (ln l) c,M G (i:Int)] w λx w'=>x=Ac (AT (tx (l.getD i [])))/\w'=w:=by
 by_cases a:i<ln l
 .obtain⟨b,off,rfl,hc⟩:=h.at a;have e:l.getD i []=l[i]:=by simp[CM,a]
  exact a09
 have e:l.getD i []=[]:=by simp[CM,eE (show ln l<=i by omega)]
 exact a09
def a4H(w:V)(g:Nat)(s:By)(h:Az w g 9 (Dy.map λa=> AT (tx a))):AZ AO 98 #[AK (Q ⟨g,0,O⟩) 12 12,AT (tx s)] w λx w'=>x=Ac (M G (Kj s))/\w'=w:=by
 have f:∀i,i<12->w.cell? ⟨g,i,O⟩=Q (AT (tx (Dy.getD i []))):=λi hi=>by
  have l:i<ln Dy:=hi;rw[h.cell,Ku,Bv l,CM,Bv l];rfl
 have o:=A f;clear h f;go_enter func98,ntmps98;go_wp2;go_loopw [5] (λi wr=>∃k:Nat,i=M G (k:Int)/\k<=12/\wr=w/\∀j,j<k->Dy.getD j []≠s) (λi _=>((12:Int)-B8 i).toNat)
 case atStart=>exact⟨0,F,D,rfl,λj h=>D⟩
 obtain⟨k,rfl,hk,rfl,hn⟩:=hrel;by_cases m:k<12
 .have q:=o k m;by_cases b:Dy.getD k []=s
  .have c:=A (show Kj s=k by
    rw[<-b];exact(by decide+kernel:∀n:Fin 12,Kj (Dy.getD n.1 [])=n.1) ⟨k,m⟩)
   rw[b] at q;clear hn b;go_wp2;go_ret;exact⟨by rw[c.o];rfl,rfl⟩
  have r:=A (show∀j,j<k+1->Dy.getD j []≠s fromλj d=>by
   by_cases e:j=k
   .rw[e];exact b
   exact hn j D)
  have⟨u,hu⟩:=AP (Dy.getD k []);rw[hu] at q b;have t:(u==s)=AM:=CK.2 b;clear hn b hu;go_wp2;exact⟨⟨k+1,by go_num,D,by trivial,r⟩,TS⟩
 obtain rfl:k=12:=D;have c:=A (show Kj s= -1 by
  unfold Kj;rw[Af];intro h;have⟨j,d,e⟩:=JJ.1 h;exact hn j d (by rw[CM,Bv d];exact e))
 clear hn;go_wp2;go_ret;exact⟨by rw[c.o];rfl,rfl⟩
theorem py{l:List Int}(h:w.ownsRow base 3 1 (AK R m c) n (Cy l).flatten)(a:ln l=n):m=n:=by
 have⟨_,_,e,_⟩:=F1 h (by rw[BL];exact a) (G9 (f:=λn:Int=>([M G n]:List AN)) (λ_=>rfl) l);injection e
def Xa:AN->Nat
 | AK _ n _=>n
 |_=>0
def a1W(w:V)(R:Option An)(c:Nat)(l:List By)(h:Ng w R c l)(u:ln l<=1000)(I:∀x∈l,ln x<=100000):AZ AO 96 #[AK R (ln l) c,M G 8] w λx w'=>∃v,x=Ac v/\w'.ownsRow w.1.size 3 1 v (Ob l).length (Cy (Ob l)).flatten/\Ext w w':=by
 have N:=A (λW (hx:Ext w W)=>(show Ng W R c l from(h.below hx).more hx.size));have S:=A I;have⟨n,hn⟩:=AP (ln l);have B:=A hn;rw[hn] at u⊢;clear h I hn;go_enter func96,ntmps96;go_wp2;go_loopw [5,6] (λv i wr=>∃k:Nat,i=M G (k:Int)/\k<=n/\wr.ownsRow w.1.size 3 1 v k (Cy ((l.take k).map GC)).flatten/\Ext w wr) (λ_ i _=>((n:Int)-B8 i).toNat)
 case atStart=>exact⟨0,F,D,Si w w.1.size 3 1 (AS _),(Ad _ _).alloc (AS _) _⟩
 obtain⟨k,rfl,hk,a,hx⟩:=hrel;have E:=A hx;have t:=hx.size;obtain⟨K,m,c1,rfl⟩:=NT a;have g:=A a;by_cases Y:k<n
 .have hkl:k<ln l:=B.o▸Y;have⟨b,off,e,X⟩:=(N _ hx).at hkl;subst e;have o:=A (show Cy ((l.take (k+1)).map GC)=Cy ((l.take k).map GC)++[[M G (GC l[k])]] by rw[Qx hkl,PU,Cy,PU];rfl);have H:=A (λW=>a1d l[k] W (S _ (Ey hkl)));have⟨x,J⟩:=AP (l[k]);rw[J] at X o H;clear a hx J;go_wp2_with(first
   |(go_at_call 169;refine(H _).q λW1 s=>?_;have U:=A s;have aa:=s.size;clear s)
   |(at_builtin;refine Mq T3 F _ _ F w.1.size F g U F F F (OR F) D t ?_;intro v' w' d f;have j:=A d;have r:=A (E.trans f);clear d f))
  exact⟨⟨k+1,by go_num,D,by rw[o.o];simpa using j.o,r.o⟩,TS⟩
 obtain rfl:k=n:=D;have o:=A (show l.take k=l from Qy Nr);clear a hx;rw[o.o] at g;have C:=A (show Ob l=l.map GC++F7 (8-k) 0 by rw[<-B.o];rfl);go_wp2;go_loopw [5] (λv wr=>∃(q:Nat) (z:Option An) (c2:Nat),v=AK z (k+q) c2/\q<=8-k/\wr.ownsRow w.1.size 3 1 v (k+q) (Cy (l.map GC++F7 q 0)).flatten/\Ext w wr) (λv _=>8-Xa v)
 case atStart=>
  obtain rfl:=py g (by rw[BL];exact B);exact⟨0,K,c1,F,D8 _,by simpa using g.o,E⟩
 obtain⟨q,z,c2,rfl,hq,a,hx⟩:=hrel;have r:=A hx;have j:=A a;have t:=hx.size;by_cases Z:k+q<8
 .have HT2:=A (show Cy (l.map GC++F7 (q+1) 0)=Cy (l.map GC++F7 q 0)++[[M G 0]] by rw[List.replicate_succ',<-No,Cy,PU];rfl);clear a hx;go_wp2_with(at_builtin;refine Mq T3 F _ _ F w.1.size F j TU F F F (OR F) D t ?_;intro v' w' d f;obtain⟨L,m3,c3,rfl⟩:=NT d;have P:=A d;have T:=A (r.trans f);clear d f)
  have y:=P.o;rw[show(Cy (l.map GC++F7 q 0)).flatten++[M G 0]=(Cy (l.map GC++F7 (q+1) 0)).flatten by rw[HT2.o];simp] at y;obtain rfl:=py y (by have:=B.o;simp;omega);exact⟨⟨q+1,L,c3,F,D,y,T⟩,by simp[Xa];omega⟩
 clear a hx;go_wp2;go_ret;obtain rfl:q=8-k:=D;have a:=j.o;rw[<-C.o] at a;have u:(Ob l).length=k+(8-k):=by have:=B.o;rw[C.o];simp;omega
 rw[<-u] at a⊢;exact⟨_,F,a,r⟩
end
section
open Kp
attribute [local go_sem] Eb Iy Jm Se OE I4 LW Hk Sf Sg Lw Lx Ly M0 M3 M4 M5 M6 M7 M8 Mf NU NV NW NY Mg Mh Mi Mj Ml Mm Mn Mo J9 M9 MA MB Mr Ms Mt MG MH bA
section
structure QI(w:V)(y g m:Nat)(z:Nat->Int)(C:Array AN)(W:V):Prop where
 c:EC W y C
 r:EC W w.1.size (Ah BZ Dk)
 x:Ext w W
 yw:w.1.size<y
 gn:g≠y/\w.1.size<g
 n:∀i,i<m->W.cell? ⟨g,i,O⟩=Q (M G (z i))
section
variable {w W W' : V} {y g m : Nat} {z : Nat → Int} {C : Array AN}
theorem QI.ext(h:QI w y g m z C W)(hx:Ext W W'):QI w y g m z C W':=⟨(hx.block _ h.c.lt).trans h.c,(hx.block _ h.r.lt).trans h.r,h.x.tr hx,h.yw,h.gn,λi hi=>(hx.cell (p:=⟨g,i,O⟩) (TL W _ (h.n i hi))).trans (h.n i hi)⟩
theorem QI.low(h:QI w y g m z C W){N:Nat}(a:At N W W')(hy:y<N)(b:g<N):QI w y g m z C W':=⟨(a.block y hy).trans h.c,(a.block _ (Nat.lt_trans h.yw hy)).trans h.r,h.x.trans (a.mono (by have:=h.yw;omega)),h.yw,h.gn,λi hi=>(a.cell (p:=⟨g,i,O⟩) b).trans (h.n i hi)⟩
def QI.put(h:QI w y g m z C W)(i:Nat)(x:AN):QI w y g m z (C.setIfInBounds i x) (W.setCell ⟨y,i,O⟩ x):=
 ⟨h.c.put i x,h.r.Bo (p:=⟨y,i,O⟩) (eY h.yw) x,h.x.setCell (p:=⟨y,i,O⟩) (FM h.yw) x,h.yw,h.gn,λj b=>(SG (a:=⟨g,j,O⟩) (Gp W ⟨y,i,O⟩ x g h.gn.1)).trans (h.n j b)⟩
def QI.row(h:QI w y g m z C W)(cs:Array AN):QI w y g m z cs (W.setRow y cs):=
 ⟨h.c.xV cs,h.r.aP (eY h.yw) cs,CL h.x (FM h.yw) cs,h.yw,h.gn,λj b=>(SG (a:=⟨g,j,O⟩) (Hc W cs h.gn.1)).trans (h.n j b)⟩
def XK(w:V)(a b:Obj):((w.alloc a).alloc b).1[w.1.size+1]?=Q b:=by
 have:=Bq (w.alloc a) b;rwa[D5] at this
def QI.go(w:V)(k:Int):QI w (w.1.size+1) (w.1.size+2) 0 (λ_=>0) (Ah (NM k) Dk) ((w.alloc (.cells (Ah BZ Dk) 54)).alloc (.cells (Ah (NM k) Dk) 54)):=
 ⟨XK _ _ _,(EC.new w _).alloc _,((Ad _ _).alloc (AS _) _).alloc AV _,Wk _,⟨D,D⟩,λi hi=>absurd hi (Nat.not_lt_zero i)⟩
end
def WM(w:V)(e:Ed)(x:CI)(w':V):Prop:=∃N L,x=Ac (AW (Ah e (AK N (ln e.Aa) L)))/\(∀K:V,(∀k,w.1.size<=k->k<w'.1.size->K.1[k]?=w'.1[k]?)->w'.1.size<=K.1.size->C8 K K.1.size N L e.Aa)/\Ext w w'
theorem QI.fin{y g m:Nat}{z:Nat->Int}{e:Ed}(h:QI w y g m z C W)(h1:C=Ah e Dk)(a:e.Aa=[]):WM w e (Ac (AW C)) (W.setRow w.1.size C):=by
 subst h1;exact⟨O,0,by rw[a];rfl,λ_ _ _=>by rw[a];exact Rk _ _,CL h.x (AS _) _⟩
theorem QI.num{y g m:Nat}{z:Nat->Int}(h:QI w y g m z C W){l:List By}(hw:Ng W R c l)(f:ln l<=1000)(k:∀x∈l,ln x<=100000):AZ AO 96 #[AK R (ln l) c,M G 8] W λe W'=>∃g m c1,e=Ac (AK (Q ⟨g,0,O⟩) m c1)/\8<=m/\ln l<=m/\Ext W W'/\QI w y g m (λi=>GC (l.getD i [])) C W':=by
 refine(a1W W R c l hw f k).mono ?_;rintro e W' ⟨v,rfl,j,hx⟩;have hm:8<=(Ob l).length/\ln l<=(Ob l).length:=by unfold Ob;simp;omega
 obtain⟨g,c1,cur,rfl,n,d,-,-,-,b⟩:=Pr j D;have a:=h.ext hx;have hy:=h.c.lt;refine⟨g,_,c1,F,hm.1,hm.2,hx,a.c,a.r,a.x,a.yw,⟨D,by have:=h.yw;omega⟩,λi hi=> ?_⟩;rw[<-b0e];have:(Cy (Ob l)).flatten[i]?=Q (M G ((Ob l).getD i 0)):=by rw[tA];simp[CM,hi]
 rw[<-this,<-b];simp[Dx,d,hi]
theorem b1Y(w:V)(R:Option An)(c:Nat)(l:List By)(h:Ng w R c l)(s:l.length≤1000)(t:∀x∈l,x.length≤100000){k:Int}(hk:k=1∨k=4∨k=8∨k=2∨k=5∨k=9∨k=10∨k=11):
  AZ AO 49 #[.int .i64 k,.slice R l.length c] w (WM w (K7 k l)):=by
 have o:=A (fun y g m z C W (H:QI w y g m z C W)=>H.num ((h.below H.x).more H.x.size) s t)
 have f:=fun W (hx:Ext w W) (i:Nat)=>cM W R c l i ((h.below hx).more hx.size)
 obtain⟨n,hn⟩:=AP l.length
 obtain⟨z,q⟩:=AP (fun i=>GC (l.getD i []))
 obtain⟨u,hu⟩:=AP (fun i=>l.getD i [])
 rw[hn] at o f⊢
 rw[q] at o
 have f:=A (fun W (hx:Ext w W) (i:Nat)=>(show AZ AO 97 #[.slice R n c,.int .i64 (i:Int)] W fun x w'=>x= .returned (.string (tx (u i)))∧w'=W from by rw[←hu];exact f W hx i))
 have r:=A (Ci q hu)
 have H:=A (QI.go w k)
 clear h t s hn q hu
 rcases hk with rfl|rfl|rfl|rfl|rfl|rfl|rfl|rfl
 all_goals
  go_enter func49,ntmps49
  go_wp2_with(first
   |(go_at_call 96;refine(o.out _ _ _ _ _ _ H.out).mono ?_;rintro e W ⟨g,m,c1,rfl,I,J,v,a⟩;have H:=A a;have B:=fun i=>a.c.cell i;have E:=fun i=>a.c.frozen i;have n0:=a.n 0 (by omega);have K:0<m:=(by omega);have L:∀i:Int,i<8→i<(m:Int):=(fun i hi=>by omega);clear v a)
   |(go_at_call 97;refine(f.out _ H.out.x _).mono ?_;rintro e W' ⟨rfl,rfl⟩)
   |(refine U0 rfl _ rfl _ rfl ?_)
   |(refine Ce rfl 54 _ rfl _ rfl 54 _ (0,0) _ (EC.Es (QI.c (by first|exact H.out|exact H.out.put _ _|exact(H.out.put _ _).put _ _))) Cc rfl (by kernel_rfl) ?_)
   |(refine C7 rfl 54 _ _ rfl _ _ rfl rfl 54 _ (by first|exact XK _ _ _|exact EC.Es (QI.r (by first|exact H.out|exact H.out.put _ _|exact(H.out.put _ _).put _ _))) (by kernel_rfl) (by kernel_rfl) (by kernel_rfl) ?_))
  try exact Bp (PX rfl _ _ _ _ _ (0,0) _ rfl (setRow_heap (EC.Es (QI.r (by first|exact H.out|exact H.out.put _ _|exact(H.out.put _ _).put _ _))) _) Cc rfl (by kernel_rfl)) rfl (QI.fin (by first|exact H.out|exact H.out.put _ _|exact(H.out.put _ _).put _ _) (by obtain⟨q1,q2⟩:=r.out;subst q1 q2;kernel_rfl) rfl)
 all_goals
  first
   |refine On 24 (by kernel_rfl) (by decide+kernel) (fun b d=> ?_)
   |refine On 14 (by kernel_rfl) (by decide+kernel) (fun b d=> ?_)
   |refine On 17 (by kernel_rfl) (by decide+kernel) (fun b d=> ?_)
   |refine On 13 (by kernel_rfl) (by decide+kernel) (fun b d=> ?_)
   |refine On 10 (by kernel_rfl) (by decide+kernel) (fun b d=> ?_)
  have H:=A (QI.ext (by first|exact H.out|exact H.out.put _ _) d)
  have n0:=H.out.n 0 (by omega)
  have N:∀i,i<8→b.cell? ⟨g,i,O⟩=Q (.int .i64 (z i)):=fun i hi=>H.out.n i (by omega)
  have j:=fun i=>f.out b H.out.x i
  clear d
  simp only[S7,RC,FV,FY]
 iterate 24 still_step
 rotate_left
 iterate 4 still_step
 still_call (j 2)
 still_step
 still_call (j 3)
 still_step
 still_call (j 4)
 still_step
 still_call (j 5)
 iterate 2 still_step
 rotate_left
 iterate 14 still_step
 rotate_left
 iterate 7 still_step
 still_call (j 3)
 iterate 2 still_step
 rotate_left
 iterate 17 still_step
 all_goals
  refine TM ?_
  go_wp2_with(first
   |(refine Ce rfl 54 _ rfl _ rfl 54 _ (0,0) _ (EC.Es H.out.c) Cc rfl (by kernel_rfl) ?_)
   |(refine C7 rfl 54 _ _ rfl _ _ rfl rfl 54 _ (EC.Es H.out.r) (by kernel_rfl) (by kernel_rfl) (by kernel_rfl) ?_)
   |(refine OD rfl _ _ _ rfl _ _ _ rfl rfl 54 _ (EC.Es H.out.c) (by kernel_rfl) (PO (by kernel_rfl)) (by kernel_rfl) ?_;generalize a:F8 _ _ _=Y;have H:=A (show QI w _ _ _ _ _ Y by rw[←a];exact H.out.row _);clear a))
  exact Bp (PX rfl _ _ _ _ _ (0,0) _ rfl (setRow_heap (EC.Es H.out.r) _) Cc rfl (by kernel_rfl)) rfl (QI.fin H.out (by obtain⟨q1,q2⟩:=r.out;subst q1 q2;kernel_rfl) rfl)
end
theorem a9L(w:V)(R:Option An)(c:Nat)(l:List By)(h:Ng w R c l)(s:l.length≤1000)(t:∀x∈l,x.length≤100000){k:Int}(hk:k=3∨k=6):
  AZ AO 49 #[.int .i64 k,.slice R l.length c] w (WM w (K7 k l)):=by
 have j:=A (fun y g m z C W (H:QI w y g m z C W)=>H.num ((h.below H.x).more H.x.size) s t)
 have d:=fun W (hx:Ext w W) (i:Nat)=>cM W R c l i ((h.below hx).more hx.size)
 obtain⟨n,hn⟩:=AP l.length
 obtain⟨z,o⟩:=AP (fun i=>GC (l.getD i []))
 obtain⟨u,hu⟩:=AP (fun i=>l.getD i [])
 rw[hn] at j d⊢
 rw[o] at j
 have d:=A (fun W (hx:Ext w W) (i:Nat)=>(show AZ AO 97 #[.slice R n c,.int .i64 (i:Int)] W fun x w'=>x= .returned (.string (tx (u i)))∧w'=W from by rw[←hu];exact d W hx i))
 have r:=A (Ci o hu)
 have H:=A (QI.go w k)
 clear h t s hn o hu
 rcases hk with rfl|rfl
 all_goals
  go_enter func49,ntmps49
  go_wp2_with(first
   |(go_at_call 96;refine(j.out _ _ _ _ _ _ H.out).mono ?_;rintro e W ⟨g,m,c1,rfl,h8,aa,f,b⟩;have H:=A b;have S:=fun i=>b.c.cell i;have X:=fun i=>b.c.frozen i;have n0:=b.n 0 (by omega);have m0:0<m:=(by omega);have mm:∀i:Int,i<8→i<(m:Int):=(fun i hi=>by omega);clear f b)
   |(refine U0 rfl _ rfl _ rfl ?_)
   |(refine C7 rfl 54 _ _ rfl _ _ rfl rfl 54 _ (XK _ _ _) (by kernel_rfl) (by kernel_rfl) (by kernel_rfl) ?_))
 ·have nn:∀i,i<8→W.cell? ⟨g,i,O⟩=Q (.int .i64 (z i)):=fun i hi=>H.out.n i (by omega)
  have gy:=H.out.gn.1
  go_region
  all_goals
   go_wp2_with(first
    |(refine Ce rfl 54 _ rfl _ rfl 54 _ (0,0) _ (EC.Es ((H.out.put _ _).put _ _).c) Cc rfl (by kernel_rfl) ?_)
    |(refine C7 rfl 54 _ _ rfl _ _ rfl rfl 54 _ (EC.Es ((H.out.put _ _).put _ _).r) (by kernel_rfl) (by kernel_rfl) (by kernel_rfl) ?_))
   exact Bp (PX rfl _ _ _ _ _ (0,0) _ rfl (setRow_heap (EC.Es ((H.out.put _ _).put _ _).r) _) Cc rfl (by kernel_rfl)) rfl (QI.fin (by first|exact(H.out.put _ _).put _ _|exact((H.out.ext (Ext.dr _)).put _ _).put _ _|exact((H.out.ext (Xq _ _)).put _ _).put _ _) (by obtain⟨q1,q2⟩:=r.out;subst q1 q2;kernel_rfl) rfl)
 ·have ab:G.wrap (Kj (u 0)+1)=Kj (u 0)+1:=by have:=vR (u 0);exact EN (by omega) (by omega)
  have d1:=H.out.n 1 (by omega)
  have d2:=H.out.n 2 (by omega)
  have P:=H.out.x
  have q:Ext w W.drew:=P.tr (Ext.dr W)
  have v:=A (H.out.ext (Ext.dr W))
  have B:=A (fun K (J:Ext w K)=>d.out K J 0)
  go_region_held3(fun w'=>Ext w w'∧w'.cell? ⟨g,1,O⟩=Q (.int .i64 (z 1))∧w'.cell? ⟨g,2,O⟩=Q (.int .i64 (z 2))) (first|exact⟨q,d1,d2⟩|exact⟨f,E,I⟩|exact⟨a.out.x,a.out.n 1 (by omega),a.out.n 2 (by omega)⟩) (first
   |(go_at_call 98;refine(a4H _ _ (u 0) N).mono ?_;rintro e Y ⟨rfl,rfl⟩)
   |(go_at_call 97;refine(B.out _ (by first|exact f|exact q)).mono ?_;rintro e Y ⟨rfl,rfl⟩)
   |(go_at_call 99;refine(vh _).mono ?_;rintro e W1 ⟨gk,rfl,N,L⟩;have h1:=v.out.ext L;have f:=h1.x;have E:=h1.n 1 (by omega);have I:=h1.n 2 (by omega);have T:=fun i=>h1.c.cell i;have Z:=fun i=>h1.c.frozen i;have a:=A (((h1.put 14 (.int .i64 (Kj (u 0)+1))).put 15 (.int .i64 (z 1))).put 16 (.int .i64 (z 2)));clear h1))
  all_goals
   go_wp2_with(first
    |(refine Ce rfl 54 _ rfl _ rfl 54 _ (0,0) _ (EC.Es a.out.c) Cc rfl (by kernel_rfl) ?_)
    |(refine C7 rfl 54 _ _ rfl _ _ rfl rfl 54 _ (EC.Es a.out.r) (by kernel_rfl) (by kernel_rfl) (by kernel_rfl) ?_))
   exact Bp (PX rfl _ _ _ _ _ (0,0) _ rfl (setRow_heap (EC.Es a.out.r) _) Cc rfl (by kernel_rfl)) rfl (QI.fin a.out (by obtain⟨q1,q2⟩:=r.out;subst q1 q2;kernel_rfl) rfl)
def a7L{w:By}{k:Int}(h1:4<=k)(h2:k<=11):Ox k=w↔Nu w=k:=by
 rcases(show k=4\/k=5\/k=6\/k=7\/k=8\/k=9\/k=10\/k=11 by omega) with rfl|rfl|rfl|rfl|rfl|rfl|rfl|rfl
 all_goals
  constructor
  .intro h;subst h;decide+kernel
  intro h;unfold Nu at h;(repeat' split at h)<;>first|exact absurd h Z|(rename_i e;rw[e];rfl)
def a6z(w:V)(R:Option An)(c:Nat)(l:List By)(h:Ng w R c l)(E:ln l<=1000)(J:∀x∈l,ln x<=100000):
  AZ AO 49 #[M G 12,AK R (ln l) c] w (WM w (K7 12 l)):=by
 have r:=A (λy g m z C W (H:QI w y g m z C W)=>H.num ((h.below H.x).more H.x.size) E J);have j:=λW (hx:Ext w W) (i:Nat)=>cM W R c l i ((h.below hx).more hx.size)
 obtain⟨n,hn⟩:=AP (ln l);obtain⟨z,t⟩:=AP (λi=>GC (l.getD i []));obtain⟨u,hu⟩:=AP (λi=>l.getD i []);rw[hn] at r j⊢;rw[t] at r;have j:=A (λW (hx:Ext w W) (i:Nat)=>(show AZ AO 97 #[AK R n c,M G (i:Int)] W λx w'=>x=Ac (AT (tx (u i)))/\w'=W from by rw[<-hu];exact j W hx i));have K:=A (Ci t hu);have H:=A (QI.go w 12);clear h J E hn t hu;go_enter func49,ntmps49;go_wp2_with(first
  |(go_at_call 96;refine(r.o _ _ _ _ _ _ H.o).mono ?_;rintro e W ⟨g,m,c1,rfl,h8,ab,P,b⟩;have H:=A b;have v:=λi=>b.c.cell i;have B:=λi=>b.c.frozen i;have n0:=b.n 0 D;have m0:0<m:=D;have mm:∀i:Int,i<8->i<(m:Int):=(λi hi=>D);clear P b)
  |(refine U0 rfl _ rfl _ rfl ?_)
  |(refine C7 rfl 54 _ _ rfl _ _ rfl rfl 54 _ (XK _ _ _) U U U ?_))
 go_loopw [8] (λi wr=>∃k:Int,i=M G k/\4<=k/\k<=12/\QI w (w.1.size+1) g m z ((Ah (NM 12) Dk).setIfInBounds 35 (M G (RP (u 0) k))) wr) (λi _=>(12-B8 i).toNat)
 case atStart=>exact⟨4,F,Z,Z,by rw[b2v];exact H.o⟩
 obtain⟨k,rfl,L,aa,b⟩:=hrel;have a:=A b;by_cases N:k<=11
 .have KW:=A (λW=>cC k ⟨D,D⟩ W);obtain⟨q,I⟩:=AP (Ox k);have hw:=a7L (w:=u 0) L N;rw[I] at KW hw;clear b I;by_cases d:q=u 0
  .have X:(q==u 0)=AL:=C9.2 d;have s:=hw.1 d;clear hw d;go_wp2_with(first
    |(go_at_call 48;refine(KW.o _).mono ?_;rintro e W1 ⟨rfl,o⟩;have h1:=a.o.ext o;have f:=A h1;have v:=λi=>h1.c.cell i;have B:=λi=>h1.c.frozen i;clear h1 o)
    |(go_at_call 97;refine(j.o _ f.o.x 0).mono ?_;rintro e Y ⟨rfl,rfl⟩))
   exact⟨⟨k+1,by go_num,D,D,by rw[a7H s];simpa using f.o.put 35 (M G k)⟩,TS⟩
  have X:(q==u 0)=AM:=CK.2 d;have s:=tP (λe=>d (hw.2 e));clear hw d;go_wp2_with(first
   |(go_at_call 48;refine(KW.o _).mono ?_;rintro e W1 ⟨rfl,o⟩;have h1:=a.o.ext o;have f:=A h1;clear h1 o)
   |(go_at_call 97;refine(j.o _ f.o.x 0).mono ?_;rintro e Y ⟨rfl,rfl⟩))
  exact⟨⟨k+1,by go_num,D,D,by rw[s];exact f.o⟩,TS⟩
 obtain rfl:k=12:=D;have v:=λi=>a.o.c.cell i
 have B:=λi=>a.o.c.frozen i
 have nn:∀i,i<8->wr.cell? ⟨g,i,O⟩=Q (M G (z i)):=λi hi=>a.o.n i D
 clear b;go_wp2_with(first
  |(refine Ce rfl 54 _ rfl _ rfl 54 _ (0,0) _ (EC.Es (a.o.put _ _).c) Cc rfl U ?_)
  |(refine C7 rfl 54 _ _ rfl _ _ rfl rfl 54 _ (EC.Es (a.o.put _ _).r) U U U ?_))
 exact Bp (PX F _ _ _ _ _ (0,0) _ F (setRow_heap (EC.Es (a.o.put _ _).r) _) Cc F U) F (QI.fin (a.o.put _ _) (by rw[a9y];obtain⟨S,T⟩:=K.o;subst S T;kernel_rfl) F)
def b1D(w:V)(R:Option An)(c:Nat)(l:List By)(h:Ng w R c l)(S:ln l<=1000)(s:∀x∈l,ln x<=100000):
  AZ AO 49 #[M G 7,AK R (ln l) c] w (WM w (K7 7 l)):=by
 have J:=A (λy g m z C W (H:QI w y g m z C W)=>H.num ((h.below H.x).more H.x.size) S s);have I:=λW (hx:Ext w W) (i:Nat)=>cM W R c l i ((h.below hx).more hx.size)
 have⟨n,hn⟩:=AP (ln l);have⟨z,B⟩:=AP (λi=>GC (l.getD i []));have⟨u,hu⟩:=AP (λi=>l.getD i []);rw[hn] at J I⊢;rw[B] at J;have I:=A (λW (hx:Ext w W) (i:Nat)=>(show AZ AO 97 #[AK R n c,M G (i:Int)] W λx w'=>x=Ac (AT (tx (u i)))/\w'=W from by rw[<-hu];exact I W hx i));have HZ:=A (Ci B hu);have H:=A (QI.go w 7);have⟨P,o⟩:=AP (Oe (l.drop 6));have ax:n<=1000:=hn▸S;have v:ln P=(n-6)/2:=by rw[<-o,(WG _).1,SF,hn]
 have ak:=A (λj (hj:j<ln P)=>(show P[j]?=Q (z (6+2*j),z (6+2*j+1)) by
  rw[<-o,(WG _).2 j (by rw[<-(WG _).1,o];exact hj),<-B];simp only[CM,Z8,Nat.add_assoc]))
 have X:=A (show(K7 7 l).Aa=P from o);clear h s S hn B hu o;go_enter func49,ntmps49;go_wp2_with(first
  |(go_at_call 96;refine(J _ _ _ _ _ _ H).mono ?_;rintro e W ⟨g,m,c1,rfl,h8,aA,av,a⟩;have H:=A a;have cc:=λi=>a.c.cell i;have cf:=λi=>a.c.frozen i;have n0:=a.n 0 D;have m0:0<m:=D;have mm:∀i:Int,i<8->i<(m:Int):=(λi hi=>D);clear av a)
  |(refine U0 rfl _ rfl _ rfl ?_)
  |(refine C7 rfl 54 _ _ rfl _ _ rfl rfl 54 _ (XK _ _ _) U U U ?_))
 refine On 17 U U (λW3 ab=> ?_);have H:=A ((H.put _ _).ext ab);have n0:=H.n 0 D;have nn:∀i,i<8->W3.cell? ⟨g,i,O⟩=Q (M G (z i)):=λi hi=>H.n i D
 clear ab;simp only[S7,RC,FV,FY];iterate 17 still_step
 refine TM ?_;go_wp2_with(refine OD rfl _ _ _ rfl _ _ _ rfl rfl 54 _ (EC.Es H.c) U (PO U) U ?_;generalize a:F8 _ _ _=Y;have H:=A (show QI w _ _ _ _ _ Y by rw[<-a];exact H.row _);clear a)
 have⟨i0,ae,ag,ah,ai⟩:=DM pn;have I0:=A ae;have I1:=A ag;have I2:=A ah;have I3:=A ai;clear ae ag ah ai cc n0 nn;have HS:=A (show QI w (w.1.size+1) g m z (Ah (K7 7 l) Dk) Y by have:=H.o;have⟨q1,q2⟩:=HZ.o;subst q1 q2;exact this);have aa:=H.c.lt;have an:=TL Y _ (H.n 0 D);go_loopw [7] (λi wr=>∃(j q:Nat) (f:AN),i=M G (q:Int)/\q=6+2*j/\j<=ln P/\QI w (w.1.size+1) g m z (Ah (K7 7 l) f) wr/\Y.1.size<=wr.1.size/\wr.ownsRow Y.1.size 142 2 f j (Ju (P.take j))) (λi _=>((n:Int)+1-B8 i).toNat)
 case atStart=>exact⟨0,6,Dk,F,F,D8 _,HS,AS _,Qz _ _ _ _⟩
 obtain⟨j,q,f,rfl,r,hj,a,au,b⟩:=hrel;have d:=A a;have HO:=A b;have aB:=a.c.lt;by_cases aq:j<ln P
 .have t1:AQ ((q:Int)+1<(n:Int))=AL:=CP D;have e1:q<m:=D;have e3:q+1<n:=D;have e4:j<=1000:=D;have e2:(q:Int)+1<(m:Int):=D;have aw:=a.n q e1;have c2:=a.n (q+1) D;have ce:=a.c.cell 22;rw[I4] at ce;have HT:=A (show Ju (P.take (j+1))=Ju (P.take j)++[M G (z q),M G (z (q+1))] by
   have:=ak j aq;rw[yC,this,<-r,Option.toList_some,oR])
  have ay:(Ju (P.take j)).length=j*2:=by rw[a7I,QA];congr 1;omega
  have O1:=A (show wr.drew.ownsRow Y.1.size 142 2 f j (Ju (P.take j)) from b);have Z:=A r;have al:=A v;clear a b r v;go_wp2;have w1:G.wrap ((q:Int)+1)=(q:Int)+1:=EN D D;have w0:(0:Int)<=(q:Int)+1:=D
  go_region_law(first
   |(refine step_append_lies _ BE _ _ _ BE Y.1.size 142 i0 _ 2 16 underlying46 I0 I1 I2 I3 rfl D f j (Ju (P.take j)) BE (O1.alloc _) ⟨wr.1.size,0,O⟩ 1 1 [M G (z q),M G (z (q+1))] BE BE (V.news_of_block (cs:=#[M G (z q),M G (z (q+1))]) (t:=142) (fr:=(0,0)) (Bq wr.drew _)) QP D Fp D Bk (wr.1.size+1) AV ?_;intro gg am w4 af ad ao ar;have T:=A (((Ad Y.1.size wr).drew.alloc au (.cells #[M G (z q),M G (z (q+1))] 142)).trans ((Ad Y.1.size _).grown ad Bk (np O1)));have O4:=A af;have E:=A (d.low T aa an);have c4:=EC.cell E.c 22;have f4:=EC.frozen E.c 22;rw[I4] at c4;clear af ad ao ar))
  all_goals
   go_wp2;have h5:=E.put 22 (AK (Q ⟨gg,0,O⟩) (j+1) am);rw[oC] at h5;exact⟨⟨j+1,q+2,_,by go_num,by have:=Z.o;omega,D,h5,by have:=T.size;simp[Di];omega,by rw[HT.o];exact oI O4 (p:=⟨w.1.size+1,22,O⟩) aa _⟩,TS⟩
 have t1:AQ ((q:Int)+1<(n:Int))=AM:=Bw D;have e3:q<=2000:=D;obtain rfl:j=ln P:=D;rw[Nk] at b;obtain⟨N,L,rfl,ac⟩:=vE b;have aj:=A ac;have al:=A v;have az:(n:Int)<=(q:Int)+1:=D;have Z:=A r;clear a b ac v r;go_wp2_with(first
  |(refine Ce rfl 54 _ rfl _ rfl 54 _ (0,0) _ (EC.Es d.c) Cc rfl U ?_)
  |(refine C7 rfl 54 _ _ rfl _ _ rfl rfl 54 _ (EC.Es d.r) U U U ?_))
 refine Bp (PX F _ _ _ _ _ (0,0) _ F (setRow_heap (EC.Es d.r) _) Cc F U) F ⟨N,L,by rw[X.o],?_,CL d.x (AS _) _⟩;rw[X.o];intro K hV s;rw[size_setRow] at s;exact aj _ (λk hk ap=>(hV k D (by rw[size_setRow];exact ap)).trans (Hc _ _ D)) s
end
section
open Kp
attribute [local go_sem] Eb Se OE Sf Sg
def a4Y(w:V)(R:Option An)(c:Nat)(l:List By)(h:Ng w R c l)(a:ln l<=1000)(b:∀x∈l,ln x<=100000){k:Int}(h1:1<=k)(h2:k<=12):AZ AO 49 #[M G k,AK R (ln l) c] w (WM w (K7 k l)):=by
 by_cases f:k=7
 .subst f;exact b1D w R c l h a b
 by_cases d:k=12
 .subst d;exact a6z w R c l h a b
 by_cases e:k=3\/k=6
 .exact a9L w R c l h a b e
 exact b1Y w R c l h a b D
def iM:∀(l:By) (o:Option Nat),o.getD 0<=2147483648->(l.foldl O7 o).getD 0<=2147483648
 |[],o,h=>h
 |c::l,o,h=>iM l _ (by cases o<;>simp[O7];split <;>simp <;>omega)
theorem gZ(s:By):Bh (GC s):=by
 have h1:=iM s (Q 0) Z;have h2:=iM s.tail (Q 0) Z;unfold GC UY Bh;split <;>omega
def a5t{k:Int}{ws:List By}(k1:1<=k)(k2:k<=12)(h:∀x∈ws,ln x<=1000):IH (K7 k ws):=by
 have hw:∀i,(ws.getD i []).length<=1000:=λi=>by
  rw[CM];cases e:ws[i]? with
  |none=>exact D8 _
  |some x=>exact h x (SH e)
 have c:∀p∈Oe (ws.drop 6),Bh p.1/\Bh p.2:=by
  intro p c;have⟨j,b,e⟩:=JJ.1 c;have:=(WG (ws.drop 6)).2 j (by rw[<-(WG _).1];exact b);rw[Bv b,e] at this;injection this with this
  subst this;exact⟨gZ _,gZ _⟩
 rcases(show k=1\/k=2\/k=3\/k=4\/k=5\/k=6\/k=7\/k=8\/k=9\/k=10\/k=11\/k=12 by omega) with rfl|rfl|rfl|rfl|rfl|rfl|rfl|rfl|rfl|rfl|rfl|rfl
 all_goals
  unfold K7;refine⟨λn hn=> ?_,λa d=> ?_,?_⟩;all_goals try simp[Cj,Ev,BZ] at hn
  all_goals try simp[numsOf,BZ] at d
  all_goals grind [gZ,qC,BZ]
theorem a7h[Decidable p]{w:By}{a b:Int}(c:p->w=Ox a)(d:b=0\/w=Ox b):(if p then a else b)=0\/w=Ox (if p then a else b):=by
 split
 .rename_i h;exact .inr (c h)
 exact d
def b1s(w:By):kindOf w=0\/w=Ox (kindOf w):=by
 unfold kindOf
 repeat(refine a7h (λh=>h) ?_)
 exact .inl F
def a5W{w:By}{k:Int}(h1:1<=k)(h2:k<=12):w=Ox k↔kindOf w=k:=by
 constructor
 .rintro rfl;have:=(by decide+kernel:∀n:Fin 12,kindOf (Ox ((n.1+1:Nat):Int))=((n.1+1:Nat):Int)) ⟨(k-1).toNat,D⟩;rwa[show(((k-1).toNat+1:Nat):Int)=k by omega] at this
 rintro rfl;exact(b1s w).resolve_left D
structure PI(w:V)(R:Option An)(c:Nat)(l:List By)(W:V):Prop where
 z:EC W w.1.size (Ah BZ Dk)
 x:Ext w W
 l:Ng W R c l
theorem PI.ext{l:List By}(h:PI w R c l W)(hx:Ext W W'):PI w R c l W':=⟨(hx.block _ h.z.lt).trans h.z,h.x.tr hx,(h.l.below hx).more hx.size⟩
def a3b (s : By) (w : V) (hs : ln s <= 200) (hp : CA w) (h3 : 3 <= w.1.size) : AZ AO 20 #[AT (tx s)] w (iS w (Tv BF s)) := by
  have hz := DJ s;obtain ⟨d, tl, o⟩ := a9g s;have ad := λx (hx : x ∈ tl) => cG _ s (AS _) x (by rw [o]; exact TJ _ hx)
  have aq : ln tl <= 201 := by
    have h1 := jy s;rw [o, FX] at h1;have g : Lib.countB (tx s) (tx [32]) = Lib.count s [32] := by unfold Lib.countB; rw [ME, ME]
    rw [g, eI] at h1;have := List.count_le_length (a := (32 : UInt8)) (l := s);omega
  obtain ⟨K, hK⟩ : ∃ K, kindOf d = K := ⟨_, F⟩;have aa := λk h1 h2 => (a5W (w := d) (k := k) h1 h2)
  have ap := jL d;obtain ⟨E, J⟩ : ∃ E, K7 K tl = E := ⟨_, F⟩;obtain ⟨t, x, hT⟩ : ∃ t x, Dr BF E = (t, x) := ⟨_, _, F⟩;have hP : Tv BF s = if K = 0 then (BZ, 3) else if (t, x) = (s, 0) then (E, 0) else (BZ, 3) := by
    unfold Tv;rw [Af D, o, List.getD_cons_zero, List.tail_cons, hK, J, hT]
  rw [hK] at aa ap;have Y := A (a4I s (w.alloc (.cells (Ah BZ Dk) 54)) D);rw [o] at Y;have HP := A hP;have HT := A hT;have al := A aa;have HE := A J;have ao := A (λW (h : Ext w W) => hp.below h (AS _));have B := A (λk1 k2 => (a5t (k := K) k1 k2 (λx hx => by have := ad x hx; omega) : IH (K7 K tl)));have C := A (λW R c (h : Ng W R c tl) (k1 : 1 <= K) (k2 : K <= 12) => a4Y W R c tl h D (λx hx => by have := ad x hx; omega) k1 k2);rw [J] at B C;obtain ⟨z, T⟩ : ∃ z, tx s = z := ⟨_, F⟩;have HZ := A T;rw [T] at Y hz;rw [T];obtain ⟨n, hn⟩ : ∃ n, ln s = n := ⟨_, F⟩;rw [hn] at hz hs;have HN := A hn;have t0 : ¬ (n : Int) > 65536 := D;clear hn hK aa J hT hP o hp ad T;go_enter func20, ntmps20;go_wp2_with (go_at_call 47; refine Y.mono ?_; rintro e W1 ⟨R, c, rfl, ak, ab⟩; have H1 := A (show PI w R c (d :: tl) W1 from ⟨(ab.block _ (EC.new w _).lt).trans (EC.new w _), Ext.tr ((Ad _ _).alloc (AS _) _) ab, ak⟩); clear ak ab)
  go_loopw [5] (λi wr => ∃ k : Int, i =M G k /\ 1 <= k /\ k <= 13 /\ (K = 0 \/ k <= K \/ ¬ (t, x) = (s, (0 : Int))) /\ PI w R c (d :: tl) wr) (λi _ => (13 - B8 i).toNat)
  case atStart => exact ⟨1, F, Z, Z, D, H1⟩
  case round =>
    obtain ⟨k, rfl, k1, aw, S, f⟩ := hrel;have y := A f;have HO := A S;by_cases ae : k <= 12
    . obtain ⟨b, off, rfl, g⟩ := f.l.at (i := 0) AV
      rw [mG, Dh] at g;have KW := A (λW => cC k ⟨D, D⟩ W);have m := al k k1 ae;obtain ⟨q, ai⟩ : ∃ q, Ox k = q := ⟨_, F⟩;rw [ai] at KW m;clear f S ai;go_wp2_with fail
      go_region_held3 (λw' => w'.cell? ⟨b, off, O⟩ = Q (AT (tx d))) (first | exact cw | exact g) (first
        | (go_at_call 48; refine (KW _).mono ?_; rintro e W3 ⟨rfl, ac⟩; have u := A (y.ext ((Ext.dr wr).tr ac)); have cw : W3.cell? ⟨b, off, O⟩ = Q (AT (tx d)) := (ac.cell (p := ⟨b, off, O⟩) (TL wr _ g)).trans g; clear ac))
      by_cases hw : d = q
      . have tq : (d == q) = AL := C9.2 hw
        rw [show (!(d == q)) = AM by rw [tq]; rfl];obtain rfl := m.1 hw;obtain ⟨A', hr, aj⟩ := qc uH W3 u.l (n := ln tl + 1) AV (i := 1) D;rw [Nat.add_sub_cancel, show ((1 : Nat) : Int) = 1 from rfl] at hr;have C := A (C W3 A' (c - 1) aj k1 ae);have B := A (B k1 ae);obtain ⟨p1, t1⟩ : ∃ p, (x == 0) = p := ⟨_, F⟩;obtain ⟨p2, t2⟩ : ∃ p, (t == z.toList) = p := ⟨_, F⟩;have hd : (t, x) = (s, (0 : Int)) ↔ p1 = AL /\ p2 = AL := by
          rw [<- t1, <- t2, <- HZ.o, nl, C9, C9, eG, And.comm]
        have HD := A hd;clear m hw aj hd;cases p1 <;> cases p2
        all_goals
          go_wp2_with (first
            | (go_at_call 49; refine C.mono ?_; rintro e H ⟨N, L, rfl, ah, ag⟩; have af := A ah; have H4 := A (u.ext ag); clear ah ag)
            | (refine Ce rfl 54 _ rfl _ rfl 54 _ (0, 0) _ (EC.Es (by first | exact C6 | exact C5)) Cc rfl U ?_)
            | (refine C7 rfl 54 _ _ rfl _ _ rfl rfl 54 _ (Bq H _) U U U ?_
               generalize f : F8 _ _ (Ah E (AK N (ln E.Aa) L)) = I;have j := A (show Ext H I by rw [<- f]; exact CL ((Ad _ _).alloc (AS _) _) (AS _) _);have C5 := A (show EC I H.1.size (Ah E (AK N (ln E.Aa) L)) by rw [<- f]; exact setRow_heap (Bq H _) _);have X := A (H4.ext j);clear f)
            | (refine C7 rfl 54 _ _ rfl _ _ rfl rfl 54 _ (EC.Es v.z) U U U ?_)
            | (go_at_call 50; refine (a50 I E N L (af I (λk _ h => j.block k h) j.size) B (ao _ X.x) (BJ h3 X.x.size)).mono ?_; rintro r W6 ⟨rfl, P⟩; rw [HT.o]; have X6 := A P; have v := A (X.ext P); have C6 := A (C5.ext P); clear P))
          first
            | exact ⟨⟨K + 1, by go_num, D, D, .inr (.inr (λh => by simpa using HD.1 h)), v⟩, by simp [B8] <;> omega⟩
            | (refine Bp (jA rfl _ _ _ _ rfl (setRow_heap (EC.Es v.z) _) U) rfl ?_
               rw [HP.o, Af D, Aj (HD.2 AV)];have ar := j.size; have au := X6.size; have av := u.z.lt;exact ⟨N, L, F, af _ (λk h1 h2 => (Hc _ _ D).trans ((X6.block k D).trans (j.block k h2))) (by rw [size_setRow]; omega), CL v.x (AS _) _⟩)
      have tq : (d == q) = AM := CK.2 hw
      rw [show (!(d == q)) = AL by rw [tq]; rfl];have am := A (show K = 0 \/ k + 1 <= K \/ ¬ (t, x) = (s, (0 : Int)) by
        rcases HO.o with h | h | h
        . exact .inl h
        . exact .inr (.inl (by have : K ≠ k := λe => hw (m.2 e); omega))
        exact .inr (.inr h))
      clear m hw;go_wp2;exact ⟨⟨k + 1, by go_num, D, D, am, u⟩, by simp [B8] <;> omega⟩
    obtain rfl : k = 13 := by omega
    have an := A (show Tv BF s = (BZ, 3) by rw [HP.o]; rcases S with h | h | h; rw [Aj h]; omega; rw [Af h]; split <;> rfl);clear f S;go_wp2_with (first
      | (refine JL rfl 54 _ rfl U ?_; rw [show Ea (FF (AO.built 54 _) #[]) =AW (Ah BZ Dk) from U])
      | (refine C7 rfl 54 _ _ rfl _ _ rfl rfl 54 _ (EC.Es y.z) U U U ?_))
    refine Bp (jA F _ _ _ _ F (setRow_heap (EC.Es y.z) _) U) F ?_;rw [an.o];exact ⟨O, 0, F, Rk _ _, CL y.x (AS _) _⟩
end
end Go.Proofs.YtalhfkdhdggdaaaGreatDoor
