/- ChangeLogs of kingpostlaw58: part 6 of its proof (merged and shortened by program). -/
import Derived.Deep.Fields
import Derived.OpenShut
import Derived.Lib.ItoaLen
import Derived.Deep.AppendLies
import Derived.Test.YtalhfkdhdggdaaaGreatDoorL02
import Derived.Test.YtalhfkdhdggdaaaGreatDoorL03
set_option linter.unusedVariables false
set_option linter.unusedSimpArgs false
set_option linter.defProp false
set_option maxHeartbeats 8000000
set_option maxRecDepth 100000
open Go.RowKit Go.Shelf Go.Proofs.Tryz
open And renaming intro→Ci
open Array renaming replicate→E7
open Bool renaming false→AM,true→AL
open ByteArray renaming size→OY
open Decidable renaming decide→AQ
open Go renaming World→V,Value→AN,Calls→AZ,TypeId→Bb,Addr→An,maxLen→BM,undef→Ba,Ending→CI,wpList→CQ,MemPlace→Dw,KeepsOthers→GF,MapEntry→FG,DataW→D6,Operand→F0,Act→BV
open Go.Act renaming put→G7
open Go.Builtin renaming zeroCells→Is,append_→JN
open Go.DataW renaming trod→ET
open Go.Ending renaming returned→Ac
open Go.Fence renaming wide→Ha
open Go.IntKind renaming i64→G
open Go.Lib renaming hasPrefix→DH,cut→Bj,compareInt→Dv,itoa→CY,decDigits→ES,split→Da,byteCells→IV
open Go.MapKept renaming IsKey→MV
open Go.Proofs.Tryz renaming prog→AO,underlying54→Cc,underlying34→DV,underlying25→FD,underlying3→GQ
open Go.Region renaming wanted→Ir
open Go.RowKit renaming intOf→B8,Below→At
open Go.Value renaming agg→Ea,oneCell'→Ks,slice→FO,ownBlock→Hv,int→Gr,slice→AK,string→AT,bool→AU,pointer→Ap,int→M,agg→AW,tuple→BO
open Go.World renaming setCell→Di,cell?→Dx,setRow→F8,frozen?→Hb
open List renaming replicate→F7,range→G8,getD→Gs,length→ln
open Nat renaming gcd→DO,reduceAdd→Hw
open Option renaming none→O,some→Q,getD→FF
open Or renaming inl→Cf
open UInt8 renaming ofNat→GR
open Go.Proofs.YtalhfkdhdggdaaaGreatDoor
variable{C s:Array AN}{N R:Array FG}{k x y:Int}{li:List Int}{j:List AN}{c n J d q base:Nat}{I m:Option An}{c0 c1 c2 c3 c4 i g:AN}{w u w' W0 W o:V}{e:Bb}{p:An}{a:BV}
namespace Go.Proofs.YtalhfkdhdggdaaaGreatDoor
section
open Kp
structure EY(B N b:Nat)(r:DR)(w:V):Prop where
 lo:B<=b
 hi:b<N
 ex:∃sb off a,w.1[b]?=Q (.cells #[AK (Q ⟨sb,off,O⟩) (ln r.1) a,AU r.2] 93 (0,0))/\sb≠b/\sb<N/\ln r.1<=a/\a<=1000000/\
  (∃cur:Array AN,w.1[sb]?=Q (.cells cur 9 (0,0)))/\∀j (c:j<ln r.1),w.cell? ⟨sb,off+j,O⟩=Q (AT (tx (r.1[j]'c)))
 len:∀x∈r.1,ln x<=100000
theorem EY.Bo{B N b:Nat}{r:DR}(h:EY B N b r w)(n:N<=p.block)(x:AN):EY B N b r (w.setCell p x):=by
 obtain⟨lo,hi,⟨sb,off,a,h1,h2,c,d,f,⟨cur,g⟩,i⟩,l⟩:=h;exact⟨lo,hi,⟨sb,off,a,(Gp w p x b D).trans h1,h2,c,d,f,⟨cur,(Gp w p x sb D).trans g⟩,λj k=>by
  rw[ZB]
  .exact i j k
  intro e;have m:p.block=sb:=QL Addr.block e;omega⟩,l⟩
structure F2(B b:Nat)(w w':V):Prop where
 low:At B w w'
 Gi:∀k,k<w.1.size->k≠b->w'.1[k]?=w.1[k]?
theorem F2.refl(B b:Nat)(w:V):F2 B b w w:=⟨Ad _ _,λ_ _ _=>rfl⟩
def F2.trans{B b:Nat}{u v w:V}(h:F2 B b u v)(k:F2 B b v w):F2 B b u w:=
 ⟨h.low.trans k.low,λj c a=>(k.Gi j (Dj c h.low.size) a).trans (h.Gi j c a)⟩
theorem F2.Iv{B b:Nat}(h:At w.1.size w w')(a:B<=w.1.size):F2 B b w w':=⟨h.mono a,λk hk _=>h.block k hk⟩
def F2.set{B b:Nat}(w:V)(a:B<=b)(i:Nat)(x:AN):F2 B b w (w.setCell ⟨b,i,O⟩ x):=
 ⟨(Ad _ _).setCell (p:=⟨b,i,O⟩) a _,λk _ hk=>Gp w ⟨b,i,O⟩ x k hk⟩
theorem EY.below{B N b:Nat}{r:DR}(h:EY B N b r w)(a:At w.1.size w w'):EY B N b r w':=by
 obtain⟨lo,hi,⟨sb,off,d,h1,h2,e,f,g,⟨cur,c⟩,i⟩,l⟩:=h;have l1:b<w.1.size:=(Ee.1 h1).1;have l2:sb<w.1.size:=(Ee.1 c).1;exact⟨lo,hi,⟨sb,off,d,(a.block b l1).trans h1,h2,e,f,g,⟨cur,(a.block sb l2).trans c⟩,λj k=>(a.cell l2).trans (i j k)⟩,l⟩
theorem EY.lt{B N b:Nat}{r:DR}(h:EY B N b r w):b<w.1.size:=by
 obtain⟨lo,hi,⟨sb,off,a,h1,_⟩,c⟩:=h;exact(Ee.1 h1).1
def gG(B N b:Nat)(v:AN)(r:DR)(w:V)(e:CI)(w':V):Prop:=e=Ac v/\EY B N b r w'/\F2 B b w w'
def az(B N b:Nat)(r:DR)(w:V)(h:EY B N b r w):
  AZ AO 92 #[E6 b] w (gG B N b (AT (tx (rW r).1)) (rW r).2 w):=by
 obtain⟨ws,m⟩:=r;obtain⟨lo,hi,⟨sb,off,a,h1,h2,k,l,n,⟨cur,c⟩,g⟩,i⟩:=h;have X:CO w b 93 (AK (Q ⟨sb,off,O⟩) (ln ws) a) (AU m):=h1;have c0:=X.cell0;have c1:=X.Hl;have y:=X.frozen 0;have f1:=X.frozen 1;cases ws with
 |nil=>
  have v:=A X;have f:=A (show EY B N b ([],AL) (w.setCell ⟨b,1,O⟩ (AU AL)) from⟨lo,hi,⟨sb,off,a,X.PK _,h2,k,l,n,⟨cur,(Gp w ⟨b,1,O⟩ _ sb h2).trans c⟩,λj d=>absurd d AV⟩,i⟩);clear h1 X c g i;go_enter func92,ntmps92;go_wp2;go_ret;exact⟨F,f,F2.set w lo 1 _⟩
 |cons s t=>
  have o:=g 0 AV;simp only[mG,Dh] at o;have z:ln t+1<=a:=by simpa using l
  by_cases q:a=1
  .subst q;have u:t=[]:=Jf.1 D;subst u;have f:=A (show EY B N b ([],m) (w.setCell ⟨b,0,O⟩ (AK (Q ⟨sb,off,O⟩) 0 0)) from⟨lo,hi,⟨sb,off,0,X.Kn _,h2,k,AV,D,⟨cur,(Gp w ⟨b,0,O⟩ _ sb h2).trans c⟩,λj d=>absurd d AV⟩,λx hx=>by cases hx⟩);exact yf
  have f:=A (show EY B N b (t,m) (w.setCell ⟨b,0,O⟩ (AK (Q ⟨sb,off+1,O⟩) (ln t) (a-1))) from⟨lo,hi,⟨sb,off+1,a-1,X.Kn _,h2,k,by show ln t<=_;omega,D,⟨cur,(Gp w ⟨b,0,O⟩ _ sb h2).trans c⟩,λj d=>by
   have:=g (j+1) (by simp;exact d);simp only[List.getElem_cons_succ] at this;rw[show off+1+j=off+(j+1) by omega];rw[ZB]
   .exact this
   intro e;exact h2 (QL Addr.block e).symm⟩,λx hx=>i x (TJ _ hx)⟩)
  have C:(a-1==0)=AM:=Hi;have E:¬a-1=0:=D;exact yf
def a6b(B N b:Nat)(r:DR)(w:V)(h:EY B N b r w):
  AZ AO 94 #[E6 b] w (gG B N b (AT (tx (rW r).1)) (rW r).2 w):=by
 have a:=A (az B N b r w h);clear h;go_enter func94,ntmps94;go_wp2_with(go_at_call 92;refine a.q ?_;rintro w1 ⟨h1,h2⟩)
 go_ret;exact⟨F,h1,h2⟩
def b2S(w:V)(s:By)(e:CI)(w':V):Prop:=
 ∃a,e=Ac (BO #[M G (Mv s).1,a])/\(((Mv s).2=AM/\a= .nilIface)\/((Mv s).2=AL/\∃t p,a= .iface t p))/\At w.1.size w w'
def a7s(s:By)(w:V)(i:ln s<=100000)(g:Gl w):AZ AO 168 #[AT (tx s)] w (b2S w s):=by
 cases b:Lib.atoiAll s
 .rename_i v;have a:Mv s=(v,AM):=by unfold Mv;rw[b]
  refine(strconv_Atoi_ok (tx s) QN v (by rw[ME];exact b) w).q λw' hw=>?_;refine⟨_,by rw[a],.inl ⟨by rw[a],rfl⟩,?_⟩;rcases hw with rfl|⟨t,rfl⟩
  .exact Ad _ _
  exact Lib.bytesWorld_below _ _ _
 .have a:Mv s=(0,AL):=by unfold Mv;rw[b]
  obtain⟨f,p,d⟩:=g.b5I;refine(strconv_Atoi_syntax_var (tx s) QN (by rw[ME];exact b.trans F) f p w d).mono ?_;rintro e w' ⟨N,rfl,_,_,c⟩;exact⟨_,by rw[a],.inr ⟨by rw[a],_,_,rfl⟩,c⟩
 have a:Mv s=(Lib.atoiSat s,AL):=by unfold Mv;rw[b]
 obtain⟨f,p,d⟩:=g.b5L;refine(strconv_Atoi_range_var (tx s) QN (by rw[ME];exact b) f p w d).mono ?_;rintro e w' ⟨N,rfl,_,_,c⟩;exact⟨_,by rw[a,ME],.inr ⟨by rw[a],_,_,rfl⟩,c⟩
theorem EY.a8A{B N b:Nat}{r:DR}(h:EY B N b r w)(x:Bool):EY B N b (r.1,x) (w.setCell ⟨b,1,O⟩ (AU x)):=by
 obtain⟨lo,hi,⟨sb,off,a,h1,h2,c,d,f,⟨cur,g⟩,i⟩,l⟩:=h;have X:CO w b 93 (AK (Q ⟨sb,off,O⟩) (ln r.1) a) (AU r.2):=h1;exact⟨lo,hi,⟨sb,off,a,X.PK _,h2,c,d,f,⟨cur,(Gp w ⟨b,1,O⟩ _ sb h2).trans g⟩,λj k=>by
  rw[ZB]
  .exact i j k
  intro e;exact h2 (QL Addr.block e).symm⟩,l⟩
theorem EY.cells{B N b:Nat}{r:DR}(h:EY B N b r w):w.cell? ⟨b,1,O⟩=Q (AU r.2)/\w.frozen? ⟨b,1,O⟩=AM/\∃a c,w.cell? ⟨b,0,O⟩=Q (AK a (ln r.1) c):=by
 obtain⟨lo,hi,⟨sb,off,d,h1,_⟩,e⟩:=h;have X:CO w b 93 (AK (Q ⟨sb,off,O⟩) (ln r.1) d) (AU r.2):=h1;exact⟨X.Hl,X.frozen 1,_,_,X.cell0⟩
theorem b3F{B N b:Nat}{r:DR}(h:EY B N b r w):(rW r).1.length<=100000:=by
 obtain⟨ws,x⟩:=r;cases ws with
 |nil=>simp[rW]
 |cons s t=>exact h.len s (List.mem_cons_self ..)
def a5R(B N b:Nat)(r:DR)(w:V)(h:EY B N b r w)(n:Gl w)(s:9<=B)(z:B<=w.1.size):
  AZ AO 93 #[E6 b] w (gG B N b (M G (rI r).1) (rI r).2 w):=by
 have u:=A (az B N b r w h);have v:=b3F h;have C:=λW=>run_eql_nil_nil (P:=AO) W 185 U
 have q:=A n;have lo:=h.lo;clear h n;go_enter func93,ntmps93;go_upto_region 2 with(first
  |(go_at_call 92;refine u.q ?_;rintro w1 ⟨h1,h2⟩;have o:=A h1;have f:=A h2;clear h1 h2)
  |(go_at_call 168;refine(a7s _ _ v (q.keep f.low s)).mono ?_;rintro e w2 ⟨y,rfl,m,l⟩;have i:=A (o.below l);have k:=A (f.trans (F2.Iv l (by have:=f.low.size;omega)));have d:=A m;clear m))
 obtain⟨c1,f1,_⟩:=i.cells;have j:=A (λx=>(i.a8A x));cases a:(rW r).2.2 with
 |true=>
  have c:=A (show(rI r).2=((rW r).2.1,AL) by unfold rI;rw[a];rfl);rw[a] at c1;exact yg
 |false=>
  rw[a] at c1;rcases d.o with⟨g,rfl⟩|⟨g,t,p,rfl⟩
  .have c:=A (show(rI r).2=((rW r).2.1,AM) by unfold rI;rw[a,g];rfl);clear d;go_wp2;go_ret;exact⟨F,by rw[c.o];exact j AM,k.trans (F2.set _ lo 1 _)⟩
  have c:=A (show(rI r).2=((rW r).2.1,AL) by unfold rI;rw[a,g];rfl);clear d;exact yg
section
def bA(k:Int):(NM k).Ab=k:=rfl
attribute [local go_sem] Eb Hk J9 MG Ms M9 MA MB MH Mt Mr M4 M6 M8 M0 Jm Mo Mh M7 Lw M5 Lx Ly I4 Mf Mj M3 Ml Mn Mm Mg Mi NW NV NY NU Iy LW bA OE Sg Sf Se
def EC(w:V)(c:Nat)(C:Array AN):Prop:=w.1[c]?=Q (.cells C 54 (0,0))
theorem EC.cell(h:EC w c C)(i:Nat):w.cell? ⟨c,i,O⟩=C[i]?:=by unfold EC at h;simp[Dx,h]
theorem EC.frozen(h:EC w c C)(i:Nat):w.frozen? ⟨c,i,O⟩=AM:=by unfold EC at h;simp[Hb,h]
theorem EC.Es(h:EC w c C):w.1[c]?=Q (.cells C 54 (0,0)):=h
theorem EC.lt(h:EC w c C):c<w.1.size:=(Ee.1 h).1
theorem EC.put(h:EC w c C)(i:Nat)(x:AN):EC (w.setCell ⟨c,i,O⟩ x) c (C.setIfInBounds i x):=by unfold EC at *;simp[Di,IT,h]
theorem EC.Bo(h:EC w c C)(a:c≠p.block)(x:AN):EC (w.setCell p x) c C:=(Gp w p x c a).trans h
theorem EC.keep{B b:Nat}(h:EC w c C)(hk:F2 B b w w')(a:c≠b):EC w' c C:=(hk.Gi c h.lt a).trans h
theorem EC.alloc(h:EC w c C)(o:Obj):EC (w.alloc o) c C:=(Ue w o c h.lt).trans h
theorem EC.new(w:V)(C:Array AN):EC (w.alloc (.cells C 54)) w.1.size C:=Bq w _
theorem EY.alloc{B N b:Nat}{r:DR}(h:EY B N b r w)(o:Obj):EY B N b r (w.alloc o):=h.below ((Ad _ _).alloc (AS _) _)
theorem F2.alloc{B b:Nat}(h:F2 B b u w)(a:B<=w.1.size)(o:Obj):F2 B b u (w.alloc o):=h.trans (F2.Iv ((Ad _ _).alloc (AS _) _) a)
theorem F2.Bo{B b:Nat}(h:F2 B b u w)(d:u.1.size<=p.block)(a:B<=p.block)(x:AN):F2 B b u (w.setCell p x):=
 ⟨h.low.setCell a x,λk hk c=>(Gp w p x k D).trans (h.Gi k hk c)⟩
theorem F2.row{B b:Nat}(h:F2 B b u w)(d:u.1.size<=n)(a:B<=n)(cs:Array AN):F2 B b u (w.setRow n cs):=
 ⟨CL h.low a cs,λk hk c=>(Hc _ _ D).trans (h.Gi k hk c)⟩
theorem EY.row{B N b:Nat}{r:DR}(h:EY B N b r w)(hn:N<=n)(cs:Array AN):EY B N b r (w.setRow n cs):=by
 obtain⟨lo,hi,⟨sb,off,c,h1,h2,d,e,f,⟨cur,g⟩,i⟩,m⟩:=h;have a:=λk=>@Hc w n k cs
 exact⟨lo,hi,⟨sb,off,c,(a b D).trans h1,h2,d,e,f,⟨cur,(a sb D).trans g⟩,λj l=>(SG (a sb D)).trans (i j l)⟩,m⟩
def putAt(a:Array AN)(o:Nat)(cells:Array AN):Array AN:=(a.toList.take (o+0)++cells.toList++a.toList.drop (o+0+ln cells.toList)).toArray
def b2J(w:V)(g o:Nat)(t ty:Bb)(a cells:Array AN)(b:w.1[g]?=Q (.cells a t (0,0)))(hi:(AO.info? ty).map (·.size)=Q cells.size)
  (d:o+cells.size<=a.size)(h1:cells.all (·.oneCell')=AL):(storeVar ty ⟨g,o,O⟩ (AW cells)).run AO w= .ok () (w.setRow g (putAt a o cells)):=by
 have:=mH (P:=AO) g o t cells.toList 0 a w b Al (λv f=>(dw.1 h1) v Al);cases c:AO.info? ty with
 |none=>grind
 |some i=>
  have e:cells.size=i.size:=Al;unfold putAt;simp[storeVar,sizeOf,typeInfo,c,Value.cells] at this⊢
  grind
theorem OD{ops:Array Oper}{rest:List Oper}{o:Oper}{c:Exit->BV->V->Prop}(f:o.guard=O)(ty:Bb)(x y:F0)(i:o.op= .store ty x y)
  (g off:Nat)(cells:Array AN)(hx:a.eval x=Ap (Q ⟨g,off,O⟩))(hy:a.eval y=AW cells)
  (t:Bb)(b:Array AN)(e:w.1[g]?=Q (.cells b t (0,0)))(hi:(AO.info? ty).map (·.size)=Q cells.size)
  (j:off+cells.size<=b.size)(h1:cells.all (·.oneCell')=AL)
  (h:CQ AO ops c rest (a.put o.dst Ba) (w.setRow g (putAt b off cells))):CQ AO ops c (o::rest) a w:=by
 refine eZ f λ_ d=> ?_
 unfold Oper.wp execOp;simp[i,hx,hy,Instr.storeAt,Instr.sureAddr,Ug,Uh,Ul,b2J w g off t ty b cells e hi j h1];exact d _ _ h
theorem EC.xV(h:EC w c C)(cs:Array AN):EC (w.setRow c cs) c cs:=setRow_heap h cs
theorem EC.aP(h:EC w c C)(hn:c≠n)(cs:Array AN):EC (w.setRow n cs) c C:=(Hc _ _ hn).trans h
def all_nil(P:Int->Prop):∀n∈([]:List Int),P n:=Al
def all_cons{P:Int->Prop}{a:Int}{l:List Int}(h:P a)(k:∀n∈l,P n):∀n∈a::l,P n:=Al
def qy(P:By->Prop):∀n∈([]:List By),P n:=Al
theorem Rk(w:V)(B:Nat):C8 w B O 0 []:=⟨AS _,Al,λh=>absurd h AV⟩
def b3L(a b:By):(tx a=tx b)↔a=b:=by
 grind
def a96(s:By):Lib.idxOfS ((Dy.map tx).take 12) (tx s)=Kj s:=by
 by_cases a:s=[99,111,109,109,111,110]
 .subst a;decide+kernel
 by_cases e:s=[104,105,112,106,97,99,107]
 .subst e;decide+kernel
 by_cases l:s=[118,97,108,108,101,121,106,97,99,107]
 .subst l;decide+kernel
 by_cases b:s=[99,114,105,112,112,108,101]
 .subst b;decide+kernel
 by_cases f:s=[111,116,104,101,114]
 .subst f;decide+kernel
 by_cases d:s=[104,105,112]
 .subst d;decide+kernel
 by_cases k:s=[118,97,108,108,101,121]
 .subst k;decide+kernel
 by_cases i:s=[114,105,100,103,101]
 .subst i;decide+kernel
 by_cases h:s=[112,117,114,108,105,110]
 .subst h;decide+kernel
 by_cases g:s=[112,108,97,116,101]
 .subst g;decide+kernel
 by_cases j:s=[116,114,105,109,109,101,114]
 .subst j;decide+kernel
 by_cases c:s=[104,101,97,100,101,114]
 .subst c;decide+kernel
 have hn:s∉Dy:=by unfold Dy;simp[Kt];grind
 unfold Kj;rw[Af hn];unfold Lib.idxOfS Dy;simp[SN,Wu,S7,List.take_nil,Lib.idxFromS,b3L]
 grind
def vR(s:By): -1<=Kj s/\Kj s<=12:=by
 unfold Kj;split
 .rename_i h;have:=List.idxOf_lt_length_iff.2 h;have a:ln Dy=12:=rfl;omega
 omega
theorem EY.low{B N b c:Nat}{r:DR}(h:EY B N b r w)(a:At c w w')(n:N<=c):EY B N b r w':=by
 obtain⟨lo,hi,⟨sb,off,d,h1,h2,e,f,g,⟨cur,i⟩,k⟩,m⟩:=h;exact⟨lo,hi,⟨sb,off,d,(a.block b D).trans h1,h2,e,f,g,⟨cur,(a.block sb D).trans i⟩,λj l=>(a.cell Al).trans (k j l)⟩,m⟩
theorem F2.step{B b a:Nat}(h:F2 B b u w)(c:At a w w')(f:u.1.size<=a)(d:B<=a):F2 B b u w':=
 ⟨h.low.trans (c.mono d),λk hk e=>(c.block k D).trans (h.Gi k hk e)⟩
def Vt(B N b:Nat)(r:DR)(w:V)(e:CI)(w':V):Prop:=
 ∃I J,e=Ac (AW (Ah (rE r).1 (AK I (rE r).1.Aa.length J)))/\(∀w2:V,(∀k,N<=k->k<w'.1.size->w2.1[k]?=w'.1[k]?)->w'.1.size<=w2.1.size->C8 w2 w2.1.size I J (rE r).1.Aa)/\EY B N b (rE r).2 w'/\F2 B b w w'
theorem a5r(k:Int):AO.built 54 [(0,M G k)]=Q (Ah (NM k) Dk):=U
theorem U0{ops:Array Oper}{rest:List Oper}{o:Oper}{b:Exit->BV->V->Prop}(c:o.guard=O)(x:F0)(d:o.op= .build 54 #[(0,x)])(k:Int)(hx:a.eval x=M G k)
  (h:CQ AO ops b rest (a.put o.dst (AW (Ah (NM k) Dk))) w):CQ AO ops b (o::rest) a w:=by
 grind [wpList_build,a5r]
structure RI(B b:Nat)(w:V)(y:Nat)(C:Array AN)(r:DR)(W:V):Prop where
 rd:EY B w.1.size b r W
 c:EC W y C
 z:EC W w.1.size (Ah BZ Dk)
 k:F2 B b w W
 y:w.1.size<y
section
variable {B b y : Nat} {w W f : V} {C : Array AN} {r l : DR}
def RI.lt(h:RI B b w y C r W):b<w.1.size/\B<=b:=⟨h.rd.hi,h.rd.lo⟩
theorem RI.cast(h:RI B b w y C r W)(a:C=s):RI B b w y s r W:=a▸h
def RI.lQ(h:RI B b w y C r W)(h1:EY B w.1.size b l f)(k1:F2 B b W f):RI B b w y C l f:=by
 have:=h.lt;have:=h.y;exact⟨h1,h.c.keep k1 D,h.z.keep k1 D,h.k.trans k1,h.y⟩
def RI.put(h:RI B b w y C r W)(i:Nat)(x:AN):RI B b w y (C.setIfInBounds i x) r (W.setCell ⟨y,i,O⟩ x):=by
 have:=h.lt;have:=h.y;exact⟨h.rd.Bo (FM h.y) x,h.c.put i x,h.z.Bo (eY h.y) x,h.k.Bo (FM h.y) Al x,h.y⟩
def RI.row(h:RI B b w y C r W)(cs:Array AN):RI B b w y cs r (W.setRow y cs):=by
 have:=h.lt;have:=h.y;exact⟨h.rd.row D cs,h.c.xV cs,h.z.aP D cs,h.k.row D D cs,h.y⟩
theorem RI.low(h:RI B b w y C r W)(a:At (y+1) W f):RI B b w y C r f:=by
 have:=h.lt;have:=h.y;exact⟨h.rd.low a D,(a.block y D).trans h.c,(a.block _ D).trans h.z,h.k.step a D D,h.y⟩
theorem RI.ext(h:RI B b w y C r W)(hx:At W.1.size W f):RI B b w y C r f:=h.low (hx.mono h.c.lt)
def RI.grown(h:RI B b w y C r W){row:Option Nat}(a:W.grownBy f row)(c:∀k,row=Q k->y<k):RI B b w y C r f:=h.low ((Ad _ _).grown a h.c.lt c)
theorem RI.word(h:RI B b w y C r W):AZ AO 92 #[E6 b] W λe f=>e=Ac (AT (tx (rW r).1))/\RI B b w y C (rW r).2 f/\F2 B b W f:=
 (az B _ b _ _ h.rd).mono λ_ _ ⟨e,h1,k1⟩=>⟨e,h.lQ h1 k1,k1⟩
theorem RI.num(h:RI B b w y C r W):AZ AO 94 #[E6 b] W λe f=>e=Ac (AT (tx (rW r).1))/\RI B b w y C (rW r).2 f/\F2 B b W f:=
 (a6b B _ b _ _ h.rd).mono λ_ _ ⟨e,h1,k1⟩=>⟨e,h.lQ h1 k1,k1⟩
def RI.int(h:RI B b w y C r W)(c:Gl w)(a:9<=B):AZ AO 93 #[E6 b] W λe f=>e=Ac (M G (rI r).1)/\RI B b w y C (rI r).2 f/\F2 B b W f:=by
 have:=h.lt;have:=h.y;have:=h.c.lt;exact(a5R B _ b _ _ h.rd (c.keep h.k.low a) a D).mono λ_ _ ⟨e,h1,k1⟩=>⟨e,h.lQ h1 k1,k1⟩
def RI.fin(h:RI B b w y C l W)(h1:C=Ah (rE r).1 Dk)(h2:l=(rE r).2)(a:(rE r).1.Aa=[]):Vt B w.1.size b r w (Ac (AW C)) (W.setRow w.1.size C):=by
 have:=h.lt;subst h1 h2;exact⟨O,0,Al,λ_ _ _=>by grind [Rk],h.rd.row (AS _) _,h.k.row (AS _) D _⟩
theorem RI.go(h:EY B w.1.size b r w)(hk:kindOf (rW r).1=k)(d:W0=(w.alloc (.cells (Ah BZ Dk) 54)).alloc (.map T6 12)):
  AZ AO 92 #[E6 b] W0 λe W1=>e=Ac (AT (tx (rW r).1))/\(Instr.lookup 136 (.map (Q (w.1.size+1))) (AT (tx (rW r).1)) AM).run AO W1= .ok (M G k) W1/\RI B b w W1.1.size (Ah (NM k) Dk) (rW r).2 (W1.alloc (.cells (Ah (NM k) Dk) 54)):=by
 subst d hk;have j:=h.hi;have l:=h.lo;have c:=(h.alloc (.cells (Ah BZ Dk) 54)).alloc (.map T6 12);have i:=(((F2.refl B b w).alloc D (.cells (Ah BZ Dk) 54)).alloc Bk (.map T6 12));have a:=Bq (w.alloc (.cells (Ah BZ Dk) 54)) (.map T6 12);rw[D5] at a;refine(az B _ b _ _ c).mono λe W1 ⟨f,h1,k1⟩=> ?_
 have g:=k1.low.size;simp[D5] at g;exact⟨f,a79 W1 _ 12 ((k1.Gi _ AV D).trans a) _,h1.alloc _,EC.new W1 _,(((EC.new w _).alloc _).keep k1 D).alloc _,(i.trans k1).alloc D _,D⟩
end
theorem b36(B b:Nat)(r:DR)(w:V)(h:EY B w.1.size b r w)(hk:kindOf (rW r).1=k)(L:k=0\/k=1\/k=2\/k=3\/k=4\/k=5\/k=6\/k=8\/k=9\/k=10\/k=11)(s:Gl w)(o:9<=B):
  AZ AO 46 #[E6 b] w (Vt B w.1.size b r w):=by
 have S:=vR (rW (rW r).2).1;have X:G.wrap (1+Kj (rW (rW r).2).1)=1+Kj (rW (rW r).2).1:=EN D D;have f:=A hk;have c:=A (λW0=>RI.go (W0:=W0) h hk);have n:=A s;clear h s hk;rcases L with rfl|rfl|rfl|rfl|rfl|rfl|rfl|rfl|rfl|rfl|rfl
 all_goals
  go_enter func46,ntmps46;go_wp2_with(first
   |(go_at_call 93;refine(RI.int ZQ n o).q ?_;rintro W ⟨h,-⟩;have H:=A h;have d:=λi=>h.c.cell i;have l:=λi=>h.c.frozen i;clear h)
   |(go_at_call 94;refine H.num.q ?_;rintro W ⟨h,-⟩;have H:=A h;have d:=λi=>h.c.cell i;have l:=λi=>h.c.frozen i;clear h)
   |(go_at_call 95;refine(slices_Index_string g 0 12 J (Dy.map tx) (tx (rW (rW r).2).1) W Z Z (λj m=>by have x:j<12:=(by simpa[Dy] using m);rw[E.o j x];congr 2;simp only[CM,Ku];have M:j<ln Dy:=x;rw[Bv M];rfl)).mono ?_;rintro e N ⟨rfl,rfl⟩;rw[a96])
   |(go_at_call 92;refine H.word.q ?_;rintro W ⟨h,z⟩;have H:=A h;have d:=λi=>h.c.cell i;have l:=λi=>h.c.frozen i;(try have E:=A (λ(j:Nat) (m:j<12)=>(SG (a:=⟨g,0+j,O⟩) (z.Gi g K D)).trans (by simpa using C.o j m)));clear h z)
   |(go_at_call 59;refine(bh _ (n.keep H.k.low o)).mono ?_;rintro e W ⟨g,J,rfl,P,⟨cur,t⟩,u,Q,R,v⟩;have Y:=H.lt;have aa:=H.c.lt;have ab:=H.y;have H:=A (H.ext v);have K:g<W.1.size:=(Ee.1 t).1;have C:=A u;clear t u v)
   |(go_at_call 91;refine(jc _).q λW0 q=>?_;have c:=A (c W0 q);clear q)
   |(go_at_call 92;refine c.q ?_;rintro W ⟨T,h⟩;have H:=A h;clear h)
   |(refine U0 rfl _ rfl _ rfl ?_)
   |(refine Ce rfl 54 _ rfl _ rfl 54 _ (0,0) _ (EC.Es (RI.c TQ)) Cc rfl U ?_)
   |(refine C7 rfl 54 _ _ rfl _ _ rfl rfl 54 _ (by first|exact Bq W _|exact EC.Es (RI.z TQ)) U U U ?_)
   |(refine OD rfl _ _ _ rfl _ _ _ rfl rfl 54 _ (EC.Es (RI.c ZQ)) U (PO U) U ?_;generalize y:F8 _ _ _=I;have H:=A (show RI B b w _ _ _ I by rw[<-y];exact RI.row ZQ _);have d:=λi=>H.c.cell i;have l:=λi=>H.c.frozen i;clear y))
  refine Bp (PX F _ _ _ _ _ (0,0) _ F (setRow_heap (EC.Es (RI.z TQ)) _) Cc F U) F (RI.fin TQ TV TV TV)
end
def nH(a:List UInt8)(w:V)(k:ln a<=300000)(hm:En w)(i:CA w):AZ AO 252 #[AT (tx a)] w λe w'=>
  ∃x y:ByteArray,e=Ac (BO #[AT x,AT y,M G (BF a)])/\(BF a=0->∃n d,Dq a=Q (n,d)/\x=tx n/\y=tx d)/\Ext w w':=by
 have b:=A (bw a w k hm i);have⟨c,g⟩:=AP (BF a);unfold Ze at b;rw[g] at b⊢;clear hm i g;go_enter func252,ntmps252;go_wp2_with(go_at_call 247;refine b.mono ?_;rintro e W1 ⟨x,y,rfl,h,f⟩;have j:=A h;clear h)
 go_quiet (fail)
 go_wp2;refine Bp (v:= BO #[AT x,AT y,M G c]) ?_ F ⟨x,y,F,j,?_⟩
 .simp[results,results252,go_sem]
 exact below_drewN (f.alloc f.size _) _
noncomputable def Fh(a:List UInt8):Int:=if BF a=0 then(match Dq a with|none=>0|some (n,d)=>if 12<(Ag n).length\/12<ln d then 4 else 0) else BF a
def a2P(a:List UInt8)(w:V)(u:ln a<=300000)(hm:En w)(q:CA w):AZ AO 297 #[AT (tx a)] w λe w'=>e=Ac (M G (Fh a))/\Ext w w':=by
 have i:=A (nH a w u hm q);clear hm q;by_cases b:BF a=0
 .rw[b] at i;cases f:Dq a with
  |none=>
   have v:=A f;refine absurd f ?_;intro _;obtain⟨n,d,t⟩:∃n d,Dq a=Q (n,d):=by
    unfold BF at b;rw[f] at b;cases b
   rw[t] at f;cases f
  |some p=>
   obtain⟨n,d⟩:=p;have g:=A (show Fh a=if 12<(Ag n).length\/12<ln d then 4 else 0 by unfold Fh;rw[Aj b,f]);have r:=A f;clear b f;have⟨o,k⟩:=AP (Ag n);rw[k] at g;have s:=A k;clear k;by_cases h1:12<ln o
   .have HR:=A (show Fh a=4 by rw[g.o,Aj (.inl h1)]);exact me
   by_cases h2:12<ln d
   .have HR:=A (show Fh a=4 by rw[g.o,Aj (.inr h2)]);exact me
   have HR:=A (show Fh a=0 by rw[g.o,Af D]);exact me
 have HR:=A (show Fh a=BF a by unfold Fh;rw[Af b]);have⟨c,m⟩:=AP (BF a);rw[m] at i HR b;have z:(c !=0)=AL:=by rw[Cd];exact b
 clear m b;go_enter func297,ntmps297;go_wp2_with(go_at_call 252;refine i.mono ?_;rintro e W1 ⟨x,y,rfl,l,j⟩;clear l)
 go_ret;exact⟨Fo,j⟩
def a3s(B b:Nat)(e:Ed)(I:Option An)(J:Nat)(w:V)(h:DK B b 0 0 [] w)(f:IH e)(hk:1<=e.Ab/\e.Ab<=12)(j:e.Ab=6->1<=e.Be/\e.Be<=12)
  (i:C8 w B I J e.Aa)(g:ln e.Aa<=16)(d:Gl w)(a:9<=B)(c:B<=w.1.size):
  AZ AO 60 #[E6 b,AW (Ah e (AK I (ln e.Aa) J))] w (MJ B b e w):=by
 have hx:e.Ab=1\/e.Ab=2\/e.Ab=3\/e.Ab=4\/e.Ab=5\/e.Ab=6\/e.Ab=7\/e.Ab=8\/e.Ab=9\/e.Ab=10\/e.Ab=11\/e.Ab=12:=D;rcases hx with h1|h1|h1|h1|h1|h1|h1|h1|h1|h1|h1|h1
 .grind [b07]
 .cases hgb:e.DX with
  |true=>exact a7D B b e I _ J w h f h1 hgb d a c
  |false=>exact a7T B b e I _ J w h f h1 hgb d a c
 .grind [b1P]
 all_goals grind [b0V,b0K,b01,a9u,b09,b1A,a9d,a8b,a9F]
def Ox(k:Int):By:=([[],Qt,P5,Ql,MC,LY,LI,Jv,P4,Q4,ML,MN,OJ]:List By).getD k.toNat []
def cC(k:Int)(hk:0<=k/\k<=12)(w:V):AZ AO 48 #[M G k] w λx w'=>x=Ac (AT (tx (Ox k)))/\Ext w w':=by
 obtain⟨h1,h2⟩:=hk;rcases(show k=0\/k=1\/k=2\/k=3\/k=4\/k=5\/k=6\/k=7\/k=8\/k=9\/k=10\/k=11\/k=12 by omega) with rfl|rfl|rfl|rfl|rfl|rfl|rfl|rfl|rfl|rfl|rfl|rfl|rfl
 all_goals
  clear h1 h2;go_enter func48,ntmps48;go_wp2;go_ret;exact⟨F,(Ad _ _).alloc (AS _) _⟩
theorem wZ(c:d<10){g:Nat}(h:Az W g 5 [M .u8 (48+(d:Int))]):Sem.run AO (convert 110 9 (AK (Q ⟨g,0,O⟩) 1 1)) W= .ok (AT ⟨#[GR (48+d)]⟩) W:=by
 refine run_convert_bytes_back (P:=AO) _ 110 9 5 ⟨g,0,O⟩ 1 [GR (48+d)] underlying110 underlying5 underlying9 (λj b=> ?_);obtain rfl:j=0:=by simpa using b
 have a:((GR (48+d)).toNat:Int)=48+(d:Int):=by rw[UInt8.toNat_ofNat'];omega
 rw[mG,a];exact h.cell 0
def a7y(d:Nat)(a:d<10)(W:V):Sem.run AO (convert 110 9 (AK (Q ⟨W.1.size,0,O⟩) 1 1)) (W.alloc (.cells #[M .u8 (48+(d:Int))] 5))= .ok (AT ⟨#[GR (48+d)]⟩) (W.alloc (.cells #[M .u8 (48+(d:Int))] 5)):=wZ a (Az.new W 5 [M .u8 (48+(d:Int))])
theorem qa(a:d<10):IntKind.u8.wrap (48+(d:Int))=48+(d:Int):=by
 have:∀k:Fin 10,IntKind.u8.wrap (48+((k.1:Nat):Int))=48+((k.1:Nat):Int):=Z;exact this ⟨d,a⟩
def a4t(n:Nat)(hn:n<10)(w:V):AZ AO 102 #[M G (n:Int)] w λx w'=>x=Ac (AT (tx (ES n)))/\Ext w w':=by
 rw[Lib.decDigits_one hn];have d:AQ ((n:Int)<0)=AM:=Bw D;have e:AQ ((n:Int)<10)=AL:=CP D;have f:AQ (n<10)=AL:=CP hn;have w1:G.wrap (48+(n:Int))=48+(n:Int):=DF _ D;have w2:=qa hn;have b:=a7y n hn w;have⟨c,a⟩:=AP (GR (48+n));rw[a] at b⊢;clear a;go_enter func102,ntmps102;go_wp2;go_ret;exact⟨F,(Ad _ _).alloc (AS _) _⟩
def ZV(a b:By):tx a++tx b=tx (a++b):=by
 apply eW;simp[ByteArray.data_append]
def s7(m:Nat)(h:m<=4611686018427387904):(ES m).length<=20:=by
 rw[TK];exact Lib.nDigits_le20 m D
def Mc(n m d:Nat)(c:UInt8):Nat->AN
 |0=> M G (n:Int)
 |1=> M G (m:Int)
 |2=> AT (tx (ES m))
 |3=> M G (n:Int)
 |4=> M G (d:Int)
 |5=> M G (48+(d:Int))
 |6=> M .u8 (48+(d:Int))
 |8=> AT ⟨#[c]⟩
 |9=> AT (tx (ES m++[c]))
 |_=>Ba
def Og(n m d:Nat)(c:UInt8):Nat->AN->V->Prop
 |7,v,w=>∃g,v=AK (Q ⟨g,0,O⟩) 1 1/\Az w g 5 [M .u8 (48+(d:Int))]
 |q,v,_=>v=Mc n m d c q
theorem a9z{n m d:Nat}{c:UInt8}{v:AN}(h:Og n m d c q v w)(hx:Ext w w'):Og n m d c q v w':=by
 unfold Og at *;exact a07
def qV(b:Nat):∀(n:Nat),n<b->n<=4611686018427387904->∀w,AZ AO 102 #[M G (n:Int)] w λx w'=>x=Ac (AT (tx (ES n)))/\Ext w w':=by
 induction b with
 |zero=>intro n h;omega
 |succ b s=>
  intro n z hm w;by_cases hn:n<10
  .exact a4t n hn w
  have e:=A (show ES n=ES (n/10)++[GR (48+n%10)] by rw[ES,dif_neg hn]);rw[e.o];have f:=A (s (n/10) D D);have N:AQ ((n:Int)<0)=AM:=Bw D;have P:AQ ((n:Int)<10)=AM:=Bw D;have R:AQ (n<10)=AM:=Bw hn;have⟨d,a⟩:=AP (n%10);have o:d<10:=D;rw[a];have C:Int.tdiv (n:Int) 10=((n/10:Nat):Int):=(Int.ofNat_tdiv n 10).symm;have L:Int.tmod (n:Int) 10=(d:Int):=by rw[<-a];exact(Int.ofNat_tmod n 10).symm
  have I:G.wrap ((n/10:Nat):Int)=((n/10:Nat):Int):=DF _ D;have T:G.wrap (d:Int)=(d:Int):=DF _ D;have w1:G.wrap (48+(d:Int))=48+(d:Int):=DF _ D;have w2:=qa o;have⟨c,l⟩:=AP (GR (48+d));rw[l];have⟨m,r⟩:=AP (n/10);rw[r] at f C I⊢;have J:=s7 m D;clear a r z s hn e;go_enter func102,ntmps102;go_upto_region 5 with fail
  refine Fz U (al 10
   (λw'=>Ext w w') (λq v W=>Og n m d c q v W) (λ_=>AM) U (λ_ _ h k=>h.tr k) (λ_ _ _ _ h k=>a9z h k) (λ_ _ _ _ h=>Aq) ?step ?tail _ (Ext.dr _))
  case step=>
   intro q H w' B j a;rcases(show q=0\/q=1\/q=2\/q=3\/q=4\/q=5\/q=6\/q=7\/q=8\/q=9 by omega) with rfl|rfl|rfl|rfl|rfl|rfl|rfl|rfl|rfl|rfl<;>clear B<;>refine DC rfl (λK hK=> ?_)
   .exact Ek
   .have d0:=a 0 Z U;simp only[Og,Mc] at d0;go_simp;exact hK _ _ ⟨_,by simp[d0,B7,Mc],Ext.B9 _,rfl,λh=>Aq⟩
   .have d1:=a 1 Z U;simp only[Og,Mc] at d1;go_simp;refine(f _).q λW1 y=>?_;exact hK _ _ ⟨_,by simp[d1,B7,Mc],y,rfl,λh=>Aq⟩
   .exact Ek
   .have d3:=a 3 Z U;simp only[Og,Mc] at d3;go_simp;exact hK _ _ ⟨_,by simp[d3,B7,Mc],Ext.B9 _,rfl,λh=>Aq⟩
   .have d4:=a 4 Z U;simp only[Og,Mc] at d4;go_simp;exact hK _ _ ⟨_,by simp[d4,B7,Mc],Ext.B9 _,rfl,λh=>Aq⟩
   .have d5:=a 5 Z U;simp only[Og,Mc] at d5;go_simp;exact hK _ _ ⟨_,by simp[d5,B7,Mc],Ext.B9 _,rfl,λh=>Aq⟩
   .have d6:=a 6 Z U;simp only[Og,Mc] at d6;go_simp;exact hK _ _ ⟨_,by simp[d6,B7],(Ad _ _).alloc (AS _) _,⟨_,rfl,Az.new _ _ _⟩,λh=>Aq⟩
   .have⟨g7,d7,r7⟩:=a 7 Z U;have t:=wZ o r7;rw[l] at t;go_simp;exact hK _ _ ⟨_,by simp[d7,B7,Mc],Ext.B9 _,rfl,λh=>Aq⟩
   have d2:=a 2 Z U;have g:=a 8 Z U;simp only[Og,Mc] at d2 g;have E:tx (ES m)++(⟨#[c]⟩:ByteArray)=tx (ES m++[c]):=ZV _ _;have tl:¬9223372036854775807<(tx (ES m)).size+1:=QN;have S:¬9223372036854775807<(ES m).length+1:=D;go_simp;exact hK _ _ ⟨AT (tx (ES m++[c])),by simp[d2,g,E],Ext.B9 _,rfl,λh=>Aq⟩
  case tail=>
   intro H w' j u _;have i:=u 9 Z;simp only[Og,Mc] at i;simp only[i,FV,FY];go_wp2;go_ret;exact⟨F,j⟩
def a7N(n:Int)(b: -4611686018427387904<=n)(h1:n<=4611686018427387904)(w:V):AZ AO 102 #[M G n] w λx w'=>x=Ac (AT (tx (CY n)))/\Ext w w':=by
 by_cases hn:n<0
 .obtain⟨u,rfl⟩:∃u:Nat,n= -(u:Int):=⟨n.natAbs,D⟩;rw[Lib.itoa_neg u D];have a:=A (qV (u+1) u D D);have f:AQ (-(u:Int)<0)=AL:=CP hn;have e: - -(u:Int)=(u:Int):=D;have w1:G.wrap (u:Int)=(u:Int):=DF _ D;have d:=s7 u D;have i:(⟨#[45]⟩:ByteArray)++tx (ES u)=tx (45::ES u):=ZV [45] _;have tl:¬9223372036854775807<1+(tx (ES u)).size:=QN;have j:¬9223372036854775807<1+(ES u).length:=D;have g:0<u:=D;clear b h1 hn d;go_enter func102,ntmps102;go_wp2_with(go_at_call 102;refine(a _).q λW1 c=>?_)
  go_ret;exact⟨F,c⟩
 obtain⟨u,rfl⟩:∃u:Nat,n=(u:Int):=⟨n.toNat,D⟩;rw[Lib.itoa_nonneg];exact qV (u+1) u D D w
theorem nR(s:By):Lib.splitB (tx [32]) 0 (Lib.countB (tx s) (tx [32])) (tx s)=(Da s [32]).map tx:=by
 have h:=Lib.splitB_data (tx [32]) 0 (Lib.countB (tx s) (tx [32])) (tx s);have h2:Da s _=(Lib.splitB _ 0 _ _).map _:=h.symm;rw[h2,ef];have:(tx∘λx=>x.data.toList)=id:=by funext x;exact Sy x
 rw[this,List.map_id]
theorem jy(s:By):(Da s [32]).length=Lib.countB (tx s) (tx [32])+1:=by
 have h:=Lib.splitB_all (tx [32]) Z 0 _ (tx s) F
 grind [nR]
def a6M(s:By)(w:V)(a:ln s<=65536)(hm:En w):
  AZ AO 45 #[AT (tx s),AT ⟨#[32]⟩] w λe w'=>e=Ac (AK (Q ⟨w.1.size,0,O⟩) (Da s [32]).length (Da s [32]).length)/\w'=w.alloc (.cells (Q9 (Da s [32])).toArray 9):=by
 obtain⟨m,hm⟩:=hm;refine(strings_Split _ _ m w QO hm Z).mono ?_;rintro e w' ⟨rfl,rfl⟩;rw[jy];refine⟨F,?_⟩;rw[nR,ef]
 rfl
end
section
open Kp Go.ChangeShapes Go.WideShapes Go.Deep
section
def FP:AO.cellsOf 3=1:=U
def qi:AO.cellsOf 4=1:=U
def YP:AO.cellsOf 41=1:=U
def fe:AO.cellsOf 9=1:=U
def a5D:AO.cellsOf 46=1:=U
def pA:AO.cellsOf 40=7:=U
def nN:AO.cellsOf 43=5:=U
def pF:AO.cellsOf 45=3:=U
def nv:AO.cellsOf 50=3:=U
def nO:AO.cellsOf 52=5:=U
def gJ:AO.cellsOf 30=4:=U
def a4v:AO.cellsOf 142=2:=U
def oM:AO.cellsOf 48=6:=U
def oT:AO.cellsOf 54=37:=U
section
variable {H : Type} {E : Bb × AN → H} {w : V} {base : Nat} {L : Nat → Bool} {K : Bool}
theorem a9n{n:Int}(h:(Lit.int .i64 n).wf=AL):Bh n:=by
 simp[Lit.wf,Ez,Cx] at h;exact h
theorem Gj{c:AN}{x:D6 H×List Dw}(h:ET E AO w base L K n 3 [c]=Q x):∃k,c= .int .i64 k/\Bh k:=by
 grind [DataW.trod_int,GQ,a9n]
theorem wj{c:AN}{x:D6 H×List Dw}(h:ET E AO w base L K n 4 [c]=Q x):∃k,c= .bool k:=by
 grind [DataW.trod_bool,underlying4]
theorem xE{c:AN}{x:D6 H×List Dw}(h:ET E AO w base L K n 41 [c]=Q x):∃k:By,c= .string (tx k):=by
 have⟨k,a,_⟩:=lX underlying41 h;exact⟨k.data.toList,by rw[Sy];grind⟩
theorem wX{c:AN}{x:D6 H×List Dw}(h:ET E AO w base L K n 9 [c]=Q x):∃k:By,c= .string (tx k):=by
 have⟨k,a,_⟩:=lX underlying9 h;exact⟨k.data.toList,by rw[Sy];grind⟩
def Cw{t:Bb}{m k:Nat}{a:Array Field}{f:Field}{l:List AN}{j:List (D6 H×List Dw)}(d:ln j=a.size)
  (c:∀(i:Nat) (f:Field),a[i]?=Q f->ET E AO w base L K m f.type ((l.drop f.offset).take (AO.cellsOf f.type))=j[i]?)(i:Nat)(hk:AO.cellsOf t=k)(b:a[i]?=Q f)(e:f.type=t):
  ∃y,j[i]?=Q y/\ET E AO w base L K m t ((l.drop f.offset).take k)=Q y:=by
 grind
theorem a8K{x:D6 H×List Dw}(h:ET E AO w base L K n 142 [c0,c1]=Q x):∃(gf:Int) (a:Int),c0= .int .i64 gf/\Bh gf/\c1= .int .i64 a/\Bh a:=by
 have⟨j,m,_,_,_,c,b⟩:=PT underlying142 h;have⟨i,f,d⟩:=Cw c b 0 FP F F;have⟨k,g,e⟩:=Cw c b 1 FP F F
 grind [Gj]
theorem addr_add(b o k:Nat):(⟨b,o,O⟩:An).add k=⟨b,o+k,O⟩:=by grind [Addr.add]
theorem a67{c:AN}{x:D6 H×List Dw}(h:ET E AO w base L K n 46 [c]=Q x):
  ∃(I:Option An) (J:Nat) (d:List (Int×Int)),c= .slice I (ln d) J/\C8 w w.1.size I J d/\∀p∈d,Bh p.1/\Bh p.2:=by
 rcases open_slice underlying46 h with⟨y,_⟩|⟨a,len,g,m,X,P,R,y,S,U,hm,W,hx,hi⟩
 .obtain rfl:c= .slice O 0 0:=Al;exact⟨O,0,[],F,Rk _ _,λp e=>by cases e⟩
 obtain rfl:c= .slice (Q a) len g:=Al;have V:len<=m:=Al;have v:∀i,i<len->∃p:Int×Int,w.cell? (a.add (i*2))=Q (.int .i64 p.1)/\w.cell? ((a.add (i*2)).add 1)=Q (.int .i64 p.2)/\Bh p.1/\Bh p.2:=by
  intro i A;have⟨cs',t,N⟩:=hi i D;rw[a4v] at t;have⟨_,B,r⟩:=lY t
  match cs',B with
  |[Y,u1],_=>
   obtain⟨p,q,rfl,e,rfl,C⟩:=a8K N;have l:=r 0 D;have h1:=r 1 D;exact⟨(p,q),l,h1,e,C⟩
 have z:∃f:Nat->Int×Int,∀i,i<len->w.cell? (a.add (i*2))=Q (.int .i64 (f i).1)/\w.cell? ((a.add (i*2)).add 1)=Q (.int .i64 (f i).2)/\Bh (f i).1/\Bh (f i).2:=
  ⟨λi=>if h:i<len then Classical.choose (v i h) else(0,0),λi A=>by
   grind⟩
 obtain⟨f,u⟩:=z;refine⟨Q a,g,(G8 len).map f,AV,⟨Al,hm,λl=> ?_⟩,?_⟩
 .have h0':0<len:=Al;obtain⟨b,o,s⟩:=a;cases s with
  |some k=>
   have:=(u 0 h0').1;simp[Addr.add] at this;simp[Dx] at this;split at this<;>simp at this
  |none=>
   refine⟨b,o,F,?_,λj T=> ?_⟩
   .have:=(u 0 h0').1;exact TL w _ this
   grind [addr_add]
 grind
theorem oH{c0 c1 c2 c3 c4 c5 c:AN}{x:D6 H×List Dw}(h:ET E AO w base L K n 40 [c0,c1,c2,c3,c4,c5,c]=Q x):∃(sx:Int) (sy:Int) (ID:Int) (II:Int) (DX:Bool) (I9:Int) (IF:Int),c0= .int .i64 sx/\Bh sx/\c1= .int .i64 sy/\Bh sy/\c2= .int .i64 ID/\Bh ID/\c3= .int .i64 II/\Bh II/\c4= .bool DX/\c5= .int .i64 I9/\Bh I9/\c= .int .i64 IF/\Bh IF:=by
 have⟨j,m,_,_,_,b,a⟩:=PT underlying40 h;have⟨y0,T,D⟩:=Cw b a 0 FP F F;have⟨d,u,o⟩:=Gj D;have⟨y1,U,I⟩:=Cw b a 1 FP F F;have⟨e,v,p⟩:=Gj I;have⟨y2,V,J⟩:=Cw b a 2 FP F F;have⟨f,y,q⟩:=Gj J;have⟨y3,W,N⟩:=Cw b a 3 FP F F;have⟨g,z,r⟩:=Gj N;have⟨y4,X,P⟩:=Cw b a 4 qi F F;have⟨i,A⟩:=wj P;have⟨y5,Y,R⟩:=Cw b a 5 FP F F;have⟨k,B,s⟩:=Gj R;have⟨y6,Z,S⟩:=Cw b a 6 FP F F;have⟨l,C,t⟩:=Gj S;exact⟨d,e,f,g,i,k,l,u,o,v,p,y,q,z,r,A,B,s,C,t⟩
theorem vO{x:D6 H×List Dw}(h:ET E AO w base L K n 43 [c0,c1,c2,c3,c4]=Q x):∃(EL:Int) (E9:By) (E8:By) (EE:By) (EK:By),c0= .int .i64 EL/\Bh EL/\c1= .string (tx E9)/\c2= .string (tx E8)/\c3= .string (tx EE)/\c4= .string (tx EK):=by
 have⟨j,m,_,_,_,b,a⟩:=PT underlying43 h;have⟨t,o,c⟩:=Cw b a 0 FP F F;have⟨d,f,e⟩:=Gj c;have⟨u,p,g⟩:=Cw b a 1 YP F F;have⟨v,q,i⟩:=Cw b a 2 YP F F;have⟨y,r,k⟩:=Cw b a 3 YP F F;have⟨z,s,l⟩:=Cw b a 4 YP F F
 grind [xE]
theorem oU{x:D6 H×List Dw}(h:ET E AO w base L K n 45 [c0,c1,c2]=Q x):∃(Be:Int) (Eg:Int) (Ef:Int),c0= .int .i64 Be/\Bh Be/\c1= .int .i64 Eg/\Bh Eg/\c2= .int .i64 Ef/\Bh Ef:=by
 have⟨j,m,_,_,_,b,a⟩:=PT underlying45 h;have⟨k,f,c⟩:=Cw b a 0 FP F F;have⟨l,g,d⟩:=Cw b a 1 FP F F;have⟨o,i,e⟩:=Cw b a 2 FP F F
 grind [Gj]
theorem nV{x:D6 H×List Dw}(h:ET E AO w base L K n 50 [c0,c1,c2]=Q x):∃(FJ:Int) (FI:Int) (FH:By),c0= .int .i64 FJ/\Bh FJ/\c1= .int .i64 FI/\Bh FI/\c2= .string (tx FH):=by
 have⟨j,m,_,_,_,b,a⟩:=PT underlying50 h;have⟨s,p,c⟩:=Cw b a 0 FP F F;have⟨e,k,g⟩:=Gj c;have⟨t,q,d⟩:=Cw b a 1 FP F F;have⟨f,l,i⟩:=Gj d;have⟨u,r,o⟩:=Cw b a 2 YP F F
 grind [xE]
theorem vK{x:D6 H×List Dw}(h:ET E AO w base L K n 52 [c0,c1,c2,c3,c4]=Q x):∃(I8:Int) (I7:Int) (Hz:Int) (IG:Int) (IC:Int),c0= .int .i64 I8/\Bh I8/\c1= .int .i64 I7/\Bh I7/\c2= .int .i64 Hz/\Bh Hz/\c3= .int .i64 IG/\Bh IG/\c4= .int .i64 IC/\Bh IC:=by
 have⟨j,m,_,_,_,b,a⟩:=PT underlying52 h;have⟨P,C,c⟩:=Cw b a 0 FP F F;have⟨i,v,q⟩:=Gj c;have⟨R,D,d⟩:=Cw b a 1 FP F F;have⟨k,y,r⟩:=Gj d;have⟨S,I,e⟩:=Cw b a 2 FP F F;have⟨l,z,s⟩:=Gj e;have⟨T,J,f⟩:=Cw b a 3 FP F F;have⟨o,A,t⟩:=Gj f;have⟨U,N,g⟩:=Cw b a 4 FP F F;have⟨p,B,u⟩:=Gj g
 grind
theorem nQ{x:D6 H×List Dw}(h:ET E AO w base L K n 30 [c0,c1,c2,c3]=Q x):∃(GW:Int) (GU:Int) (Gb:Int) (GY:Int),c0= .int .i64 GW/\Bh GW/\c1= .int .i64 GU/\Bh GU/\c2= .int .i64 Gb/\Bh Gb/\c3= .int .i64 GY/\Bh GY:=by
 have⟨j,m,_,_,_,b,a⟩:=PT underlying30 h;have⟨o,g,c⟩:=Cw b a 0 FP F F;have⟨p,i,d⟩:=Cw b a 1 FP F F;have⟨q,k,e⟩:=Cw b a 2 FP F F;have⟨r,l,f⟩:=Cw b a 3 FP F F
 grind [Gj]
theorem pP{c0 c1 c2 c3 c4 c5:AN}{x:D6 H×List Dw}(h:ET E AO w base L K n 48 [c0,c1,c2,c3,c4,c5]=Q x):∃(Ch:Int) (Ck:Int) (Co:Int) (Cp:Int) (Cr:Int) (I:Option An) (J:Nat) (c:List (Int×Int)),c0= .int .i64 Ch/\Bh Ch/\c1= .int .i64 Ck/\Bh Ck/\c2= .int .i64 Co/\Bh Co/\c3= .int .i64 Cp/\Bh Cp/\c4= .int .i64 Cr/\Bh Cr/\c5= .slice I (ln c) J/\C8 w w.1.size I J c/\∀p∈c,Bh p.1/\Bh p.2:=by
 have⟨j,m,_,_,_,b,a⟩:=PT underlying48 h;have⟨Z,T,C⟩:=Cw b a 0 FP F F;have⟨d,u,k⟩:=Gj C;have⟨y1,U,D⟩:=Cw b a 1 FP F F;have⟨e,v,l⟩:=Gj D;have⟨y2,V,N⟩:=Cw b a 2 FP F F;have⟨f,y,o⟩:=Gj N;have⟨y3,W,P⟩:=Cw b a 3 FP F F;have⟨g,z,q⟩:=Gj P;have⟨y4,X,R⟩:=Cw b a 4 FP F F;have⟨i,A,r⟩:=Gj R;have⟨y5,Y,S⟩:=Cw b a 5 a5D F F;have⟨I,J,c,B,s,t⟩:=a67 S;exact⟨d,e,f,g,i,I,J,c,u,k,v,l,y,o,z,q,A,r,B,s,t⟩
def Pt{P:Int->Prop}{p:Prop}[Decidable p]{a b:List Int}(h1:∀n∈a,P n)(h2:∀n∈b,P n):∀n∈(if p then a else b),P n:=Al
theorem Db{l:List AN}(h:ln l=n+1):∃a t,l=a::t/\ln t=n:=by
 cases l<;>grind
def a8t(b:Bool):Bh (TE b):=by cases b<;>exact⟨Z,Z⟩
def a7Y{e:Ed}(hx:Bh e.Ae)(h1:Bh e.sx)(h2:Bh e.sy)(g:Bh e.ID)(h:Bh e.II)(i:Bh e.I9)(j:Bh e.IF)(k:Bh e.EL)(l:Bh e.Eg)(m:Bh e.Ef)
  (u:Bh e.Ch)(v:Bh e.Ck)(w:Bh e.Co)(x:Bh e.Cp)(y:Bh e.Cr)(z:∀p∈e.Aa,Bh p.1/\Bh p.2)(l1:Bh e.FJ)(l2:Bh e.FI)
  (a:Bh e.I8)(b:Bh e.I7)(c:Bh e.Hz)(d:Bh e.IG)(f:Bh e.IC)(q:Bh e.GW)(r:Bh e.GU)(s:Bh e.Gb)(t:Bh e.GY)(hn:Bh e.Av):∀n∈Cj e,Bh n:=by
 have o:∀n∈[e.Ae,e.Ch,e.Ck,e.Co,e.Cp,e.Cr]++Ev e.Aa,Bh n:=by
  intro n hm;rcases QF.1 hm with hm|hm
  .grind
  grind [Ev]
 refine Pt (all_nil _) (Pt (all_cons hx (all_cons h1 (all_cons h2 (all_cons g (all_cons h (all_cons i (all_cons j (all_cons (a8t _) (all_nil _)))))))))
  (Pt (all_cons hx (all_cons hn (all_nil _))) (Pt (all_cons hn (all_nil _)) (Pt (all_cons hx (all_cons k (all_nil _))) (Pt (all_cons l (all_cons m (all_nil _))) (Pt o
  (Pt (all_cons hn (all_nil _)) (Pt (all_cons q (all_cons r (all_cons s (all_cons t (all_nil _))))) (Pt (all_cons hx (all_cons l1 (all_cons l2 (all_nil _))))
  (Pt (all_cons a (all_cons b (all_cons c (all_cons d (all_cons f (all_nil _)))))) (all_cons hx (all_nil _))))))))))))
theorem wQ{l:List AN}{x:D6 H×List Dw}(hl:ln l=37)(hf:ET E AO w base L K n 54 l=Q x):
  ∃(e:Ed) (I:Option An) (J:Nat),l=(Ah e (.slice I (ln e.Aa) J)).toList/\C8 w w.1.size I J e.Aa/\(∀n∈Cj e,Bh n)/\Bh e.Ae:=by
 obtain⟨c0,l0,rfl,h0⟩:=Db hl;obtain⟨c1,l1,rfl,h1⟩:=Db h0;obtain⟨c2,l2,rfl,h2⟩:=Db h1;obtain⟨c3,l3,rfl,h3⟩:=Db h2;obtain⟨c4,l4,rfl,h4⟩:=Db h3;obtain⟨c5,l5,rfl,h5⟩:=Db h4;obtain⟨c6,l6,rfl,h6⟩:=Db h5;obtain⟨c7,l7,rfl,h7⟩:=Db h6;obtain⟨c8,l8,rfl,h8⟩:=Db h7;obtain⟨c9,l9,rfl,h9⟩:=Db h8;obtain⟨a1,bJ,rfl,aw⟩:=Db h9;obtain⟨a2,bK,rfl,ax⟩:=Db aw;obtain⟨a3,bL,rfl,ay⟩:=Db ax;obtain⟨a4,bM,rfl,az⟩:=Db ay;obtain⟨ba,bN,rfl,aA⟩:=Db az;obtain⟨bb,bO,rfl,aB⟩:=Db aA;obtain⟨bc,bP,rfl,aC⟩:=Db aB;obtain⟨bd,bQ,rfl,aD⟩:=Db aC;obtain⟨be,bR,rfl,aE⟩:=Db aD;obtain⟨bf,bS,rfl,aF⟩:=Db aE;obtain⟨bg,bT,rfl,aG⟩:=Db aF;obtain⟨bh,bU,rfl,aH⟩:=Db aG;obtain⟨bi,bV,rfl,aI⟩:=Db aH;obtain⟨bj,bW,rfl,aJ⟩:=Db aI;obtain⟨bk,bX,rfl,aK⟩:=Db aJ;obtain⟨bl,bY,rfl,aL⟩:=Db aK;obtain⟨bm,bZ,rfl,aM⟩:=Db aL;obtain⟨bn,b1,rfl,aN⟩:=Db aM;obtain⟨bo,b6,rfl,aO⟩:=Db aN;obtain⟨bp,ca,rfl,aP⟩:=Db aO;obtain⟨bq,cb,rfl,aQ⟩:=Db aP;obtain⟨br,cc,rfl,aR⟩:=Db aQ;obtain⟨bs,cd,rfl,aS⟩:=Db aR;obtain⟨bt,ce,rfl,aT⟩:=Db aS;obtain⟨bu,cf,rfl,aU⟩:=Db aT;obtain⟨bv,cg,rfl,aV⟩:=Db aU;obtain⟨bw,aZ,rfl,aW⟩:=Db aV;obtain rfl:aZ=[]:=Jf.1 aW;have⟨j,m,_,_,_,b,a⟩:=PT Cc hf;have⟨y0,bx,g0⟩:=Cw b a 0 FP F F;have⟨y1,bz,g1⟩:=Cw b a 1 FP F F;have⟨y2,bB,g2⟩:=Cw b a 2 pA F F;have⟨y3,bC,g3⟩:=Cw b a 3 nN F F;have⟨y4,bD,g4⟩:=Cw b a 4 pF F F;have⟨y5,bE,g5⟩:=Cw b a 5 oM F F;have⟨y6,bF,g6⟩:=Cw b a 6 nv F F;have⟨y7,bG,g7⟩:=Cw b a 7 nO F F;have⟨y8,bH,g8⟩:=Cw b a 8 gJ F F;have⟨y9,bI,g9⟩:=Cw b a 9 FP F F;have⟨ch,bA,av⟩:=Cw b a 10 fe F F;obtain⟨d,rfl,b0⟩:=Gj g0;obtain⟨f,rfl,c⟩:=Gj g1;obtain⟨u,R,Z,a5,a6,a7,a8,rfl,b2,rfl,b3,rfl,b4,rfl,b5,rfl,rfl,b7,rfl,b8⟩:=oH g2;obtain⟨a9,g,h,i,k,rfl,b9,rfl,rfl,rfl,rfl⟩:=vO g3;obtain⟨o,p,q,rfl,a0,rfl,aa,rfl,ab⟩:=oU g4;obtain⟨r,s,t,v,y,I,J,gl,rfl,ac,rfl,ad,rfl,ae,rfl,af,rfl,ag,rfl,aX,aY⟩:=pP g5;obtain⟨z,A,B,rfl,ah,rfl,ai,rfl⟩:=nV g6;obtain⟨C,D,N,P,S,rfl,aj,rfl,ak,rfl,al,rfl,am,rfl,an⟩:=vK g7;obtain⟨T,U,V,W,rfl,ao,rfl,ap,rfl,aq,rfl,ar⟩:=nQ g8;obtain⟨X,rfl,au⟩:=Gj g9;obtain⟨Y,rfl⟩:=wX av;exact⟨⟨d,f,u,R,Z,a5,a6,a7,a8,a9,g,h,i,k,o,p,q,r,s,t,v,y,gl,z,A,B,C,D,N,P,S,T,U,V,W,X,Y⟩,I,J,F,aX,a7Y c b2 b3 b4 b5 b7 b8 b9 aa ab ac ad ae af ag aY ah ai aj ak al am an ao ap aq ar au,c⟩
def a6m{r:Reach}{a:Nat}{v:AN}{d:D6 H}{p:List Dw}(f:Value.okWide AO w r a 54 v)(h:DataW.Trod E AO w base L K 54 v d p):
  ∃(e:Ed) (I:Option An) (J:Nat),v= .agg (Ah e (.slice I (ln e.Aa) J))/\C8 w w.1.size I J e.Aa/\(∀n∈Cj e,Bh n)/\Bh e.Ae:=by
 obtain⟨cs,rfl,c⟩:=okWide_struct Cc f;obtain⟨l⟩:=cs;obtain⟨g,b⟩:=h;obtain⟨e,I,J,rfl,i⟩:=wQ (c.trans oT) b
 grind
end
end
end
section
open Kp
attribute [local go_sem] Eb I4 LW M0 M3 M4 M6 M8 Mf Mj Mr
def Hm(n:Nat):Bool:=(AQ (20<n)&&AQ (n<299))||AQ (604<n)
def a9Z(s:ByteArray)(w:V):AZ AO 55 #[AT s] w λe w'=>e=Ac (AU (Hm s.size))/\w'=w:=by
 by_cases h1:s.size<=20
 .have a:=A (show Hm s.size=AM by unfold Hm;simp;omega);go_enter func55,ntmps55;go_wp2;go_ret;exact⟨by rw[a.o];simp;omega,rfl⟩
 by_cases h2:s.size<299
 .have a:=A (show Hm s.size=AL by unfold Hm;simp;omega);have b:AQ (20<(s.size:Int))=AL:=NF;exact zM
 have a:=A (show Hm s.size=AQ (604<(s.size:Int)) by unfold Hm;rw[JM];simp;omega);have b:AQ (20<(s.size:Int))=AL:=NF;have c:AQ ((s.size:Int)<299)=AM:=Et;exact zM
def a2R(w:V)(c b:Nat)(T:Bb)(x y:Int)(s:By)(a:Dc w c T [M G x,M G y,AT (tx s)]):
  AZ AO 25 #[AK (Q ⟨c,0,O⟩) 1 b] w λe w'=>e=Ac (AU (AQ (50<ln s)))/\w'=w:=by
 have c2:w.cell? ⟨c,2,O⟩=Q (AT (tx s)):=by rw[a.cell];rfl
 clear a;by_cases h:50<ln s
 .have HR:=A (show AQ (50<ln s)=AL by simpa using h);go_enter func25,ntmps25;go_wp2;refine QK 2 ?_;exact ZT
 have HR:=A (show AQ (50<ln s)=AM by simpa using h);go_enter func25,ntmps25;go_wp2;refine QK 2 ?_;rw[LP];go_wp2;exact ZT
def Mw(a b c d:By):Bool:=Hm (ln a)||Hm (ln b)||Hm (ln c)||Hm (ln d)
def bN(s:By)(w:V):AZ AO 55 #[AT (tx s)] w λe w'=>e=Ac (AU (Hm (ln s)))/\w'=w:=by
 have:=a9Z (tx s) w;rw[DJ] at this;exact this
def vZ(w:V)(k i:Nat)(T:Bb)(x:Int)(a b c d:By)(f:Dc w k T [M G x,AT (tx a),AT (tx b),AT (tx c),AT (tx d)]):
  AZ AO 24 #[AK (Q ⟨k,0,O⟩) 1 i] w λe w'=>e=Ac (AU (Mw a b c d))/\w'=w:=by
 have c1:w.cell? ⟨k,1,O⟩=Q (AT (tx a)):=by rw[f.cell];rfl
 have c2:w.cell? ⟨k,2,O⟩=Q (AT (tx b)):=by rw[f.cell];rfl
 have c3:w.cell? ⟨k,3,O⟩=Q (AT (tx c)):=by rw[f.cell];rfl
 have c4:w.cell? ⟨k,4,O⟩=Q (AT (tx d)):=by rw[f.cell];rfl
 clear f;cases g:Hm (ln a)
 .cases tb:Hm (ln b)
  .cases tc:Hm (ln c)
   .cases td:Hm (ln d)
    .have HR:=A (show Mw a b c d=AM by unfold Mw;simp[g,tb,tc,td]);go_enter func24,ntmps24;go_wp2;refine QK 2 ?_;rw[LP];go_wp2_with(go_at_call 55;refine(bN _ _).mono ?_;rintro e w1 ⟨rfl,rfl⟩)
     exact ZT
    have HR:=A (show Mw a b c d=AL by unfold Mw;simp[td]);exact fN
   have HR:=A (show Mw a b c d=AL by unfold Mw;simp[tc]);exact fN
  have HR:=A (show Mw a b c d=AL by unfold Mw;simp[tb]);exact fN
 have HR:=A (show Mw a b c d=AL by unfold Mw;simp[g]);exact fN
theorem Dc.b4r(w:V)(o a:Obj)(T:Bb)(l:List AN):Dc (((w.alloc o).alloc a).alloc (.cells l.toArray T)) (w.1.size+1+1) T l:=by
 have:=Dc.Xj (w.alloc o) a T l;exact XE
def Gu(e:Ed):Bool:=AQ (40<ln e.Ct)||AQ (17<ln e.Aa)||Mw e.E9 e.E8 e.EE e.EK||AQ (50<ln e.FH)
def vI(w:V)(e:Ed)(I:Option An)(J:Nat):
  AZ AO 5 #[AW (Ah e (AK I (ln e.Aa) J))] w λr w'=>r=Ac (AU (Gu e))/\At w.1.size w w':=by
 have a:=A (show At w.1.size w (w.alloc (.cells (Ah e (AK I (ln e.Aa) J)) 54)) from(Ad _ _).alloc (AS _) _);by_cases h1:40<ln e.Ct
 .have HR:=A (show Gu e=AL by unfold Gu;simp[h1]);go_enter func5,ntmps5;go_wp2;go_ret;exact⟨Fo,a⟩
 by_cases h2:17<ln e.Aa
 .have HR:=A (show Gu e=AL by unfold Gu;simp[h2]);go_enter func5,ntmps5;go_wp2;go_ret;exact⟨Fo,a⟩
 cases b:Mw e.E9 e.E8 e.EE e.EK
 .have HR:=A (show Gu e=(AQ (40<(ln e.Ct:Int))||AQ (17<(ln e.Aa:Int))||AQ (50<ln e.FH)) by unfold Gu;rw[b,JM];simp;omega);go_enter func5,ntmps5;go_wp2_with(first
   |(go_at_call 24;refine(vZ _ _ _ 43 e.EL e.E9 e.E8 e.EE e.EK (Dc.Xj w _ _ _)).mono ?_;rintro r W1 ⟨rfl,rfl⟩)
   |(go_at_call 25;refine(a2R _ _ _ 50 e.FJ e.FI e.FH (Dc.b4r w _ _ _ _)).mono ?_;rintro r W1 ⟨rfl,rfl⟩))
  go_ret;exact⟨Fo,(a.alloc AV _).alloc Bk _⟩
 have HR:=A (show Gu e=AL by unfold Gu;simp[b]);go_enter func5,ntmps5;go_wp2_with(go_at_call 24;refine(vZ _ _ _ 43 e.EL e.E9 e.E8 e.EE e.EK (Dc.Xj w _ _ _)).mono ?_;rintro r W1 ⟨rfl,rfl⟩)
 go_ret;exact⟨Fo,a.alloc AV _⟩
end
section
open Kp
attribute [local go_sem] Eb Iy Jm Se OE I4 LW Hk Sf Sg Lw Lx Ly M0 M3 M4 M5 M6 M7 M8 Mf NU NV NW NY Mg Mh Mi Mj Ml Mm Mn Mo J9 M9 MA MB Mr Ms Mt MG MH
theorem a3x(w:V)(B:Nat):C8 w B O 0 []:=⟨AS _,Al,λh=>absurd h AV⟩
def Zf(w:V)(e:Ed)(r:CI)(w':V):Prop:=∃m a,r=Ac (AW (Ah (GH e) (AK m (GH e).Aa.length a)))/\C8 w' w'.1.size m a (GH e).Aa/\At w.1.size w w'
def b48{a k:Int}(h:a=k)(n:Int):(a==n)=(k==n):=by rw[h]
def b5d(k:Int)(e:Ed):Ed:={GH {e with Ab:=k} with Ab:=e.Ab}
def b0U(e:Ed):(GH e).Ab=e.Ab:=by
 unfold GH;simp[apply_ite Ed.Ab,ite_self]
theorem b3W{e:Ed}(h:e.Ab=k):GH e=b5d k e:=by
 subst h;have h:({GH e with Ab:=(GH e).Ab})=GH e:=rfl;rw[b0U] at h;exact h.symm
theorem b3G{e a:Ed}{c:Array AN}(hu:GH e=a)(d:a.Aa=[])(f:c=Ah a Dk)(b:At w.1.size w W):Zf w e (Ac (AW c)) W:=by
 exact⟨O,0,Al,by grind [a3x],b⟩
theorem b2z{e a:Ed}{c:Array AN}(hu:GH e=a)(d:a.Aa=e.Aa)(f:c=Ah a (AK I (ln e.Aa) J))(g:C8 w w.1.size I J e.Aa)(b:At w.1.size w W):Zf w e (Ac (AW c)) W:=by
 subst hu f;exact⟨I,J,by rw[d],by rw[d];exact(g.below b).more b.size,b⟩
def sL{p:Prop}(h:p:=by
  rcases hx with h|h|h|h|h|h|h|h|h|h|h|h
  all_goals
   have kk:=b48 h;have HU:=A (b3W h);clear h;go_wp2_with(first
    |(refine JL rfl 54 _ rfl U ?_;rw[show Ea (FF (AO.built 54 _) #[])=AW (Ah (NM e.Ab) Dk) from U])
    |(refine C7 rfl 54 _ _ rfl _ _ rfl rfl 54 _ eU U U U ?_)
    |(refine Ce rfl 54 _ rfl _ rfl 54 _ (0,0) _ eU Cc rfl U ?_))
  all_goals try(go_region_o<;>go_wp2_with(first
   |(refine JL rfl 54 _ rfl U ?_;rw[show Ea (FF (AO.built 54 _) #[])=AW (Ah (NM e.Ab) Dk) from U])
   |(refine C7 rfl 54 _ _ rfl _ _ rfl rfl 54 _ eU U U U ?_)
   |(refine Ce rfl 54 _ rfl _ rfl 54 _ (0,0) _ eU Cc rfl U ?_)))
  all_goals
   refine Bp (PX F _ _ _ _ _ (0,0) _ F (by first|with_reducible exact XO _ _ _ _|with_reducible exact setRow_heap (qv _ _ _ _) _|with_reducible exact setRow_heap (XO _ _ _ _) _) Cc F U) F ?_
   first|refine b3G HU BE U ?_|refine b2z HU BE U a ?_
   repeat first|with_reducible refine CL ?_ PY _|with_reducible refine Lo ?_|with_reducible refine Un ?_ PY _|with_reducible exact Ad _ _):p:=h
set_option maxHeartbeats 40000000 in
def a8z(w:V)(e:Ed)(I:Option An)(J:Nat)(hk:1<=e.Ab/\e.Ab<=12)(b:C8 w w.1.size I J e.Aa):AZ AO 105 #[AW (Ah e (AK I (ln e.Aa) J))] w (Zf w e):=by
 have c:AO.follows .mixedOrders=AL:=U;have hx:e.Ab=1\/e.Ab=2\/e.Ab=3\/e.Ab=4\/e.Ab=5\/e.Ab=6\/e.Ab=7\/e.Ab=8\/e.Ab=9\/e.Ab=10\/e.Ab=11\/e.Ab=12:=D;have a:=A b;go_enter func105,ntmps105;exact sL
set_option maxHeartbeats 40000000 in
def a5B(w:V)(e:Ed)(I:Option An)(J:Nat)(hk:1<=e.Ab/\e.Ab<=12)(b:C8 w w.1.size I J e.Aa):AZ AO 158 #[AW (Ah e (AK I (ln e.Aa) J))] w (Zf w e):=by
 have c:AO.follows .mixedOrders=AL:=U;have hx:e.Ab=1\/e.Ab=2\/e.Ab=3\/e.Ab=4\/e.Ab=5\/e.Ab=6\/e.Ab=7\/e.Ab=8\/e.Ab=9\/e.Ab=10\/e.Ab=11\/e.Ab=12:=D;have a:=A b;clear hk b;go_enter func158,ntmps158;exact sL
end
section
open Kp
attribute [local go_sem] Eb Iy Jm I4 LW Hk Lw Lx Ly M0 M3 M4 M5 M6 M7 M8 Mf NU NV NW NY Mg Mh Mi Mj Ml Mm Mn Mo J9 M9 MA MB Mr Ms Mt MG MH
structure Yw(w:V)(e:Ed)(I m:Option An)(a b:Nat)(i:AN)(wr:V):Prop where
 ex:∃k:Nat,k<=ln e.Aa/\i=M G (k:Int)
 ra:Dc wr w.1.size 48 (Lj e I a)
 rb:Dc wr (w.1.size+1) 48 (Lj e m b)
 low:At w.1.size w wr
theorem Yw.b2w{w wr:V}{e:Ed}{a b:Nat}(h:Yw w e I m a b i wr){k:Nat}(hk:k<=ln e.Aa)(n:Nat):Yw w e I m a b (M G (k:Int)) (wr.drewN n):=
 ⟨⟨k,hk,rfl⟩,h.ra.below (below_drewN (Ad wr.1.size _) n) h.ra.lt,h.rb.below (below_drewN (Ad wr.1.size _) n) h.rb.lt,below_drewN h.low n⟩
def a4U(w:V)(e:Ed)(I m:Option An)(a b:Nat)(d:C8 w w.1.size I a e.Aa)(f:C8 w w.1.size m b e.Aa):
  AZ AO 51 #[AW (Lj e I a).toArray,AW (Lj e m b).toArray] w λr w'=>r=Ac (AU AL)/\At w.1.size w w':=by
 have la:=d.1;have lb:=f.1;have N:=d.2.1;have P:=f.2.1;unfold BM at N P;have C:=A d;have E:=A f;have L:=A (show Yw w e I m a b (M G 0) ((w.alloc (.cells (Lj e I a).toArray 48)).alloc (.cells (Lj e m b).toArray 48)) from
  ⟨⟨0,D,rfl⟩,by unfold Dc;rw[TO _ _ AV];exact Bq _ _,by have:=Bq (w.alloc (.cells (Lj e I a).toArray 48)) (.cells (Lj e m b).toArray 48);rw[D5] at this;exact this,((Ad _ _).alloc (AS _) _).alloc AV _⟩)
 clear d f;go_enter func51,ntmps51;go_wp2;go_loopw [5] (λi wr=>Yw w e I m a b i wr) (λi _=>((ln e.Aa:Int)-B8 i).toNat)
 case atStart=>exact L
 have K:=A hrel;obtain⟨⟨k,hk,rfl⟩,g,j,c⟩:=hrel;have X:=λi=>Dc.cell g i
 have Y:=λi=>Dc.cell j i
 by_cases v:k<ln e.Aa
 .have⟨_,_,hxa⟩:=C.below c;have⟨_,_,z⟩:=E.below c;obtain⟨ba,oa,rfl,_,t⟩:=hxa D;obtain⟨S,U,rfl,_,u⟩:=z D;have⟨l,o⟩:=t k v;have⟨q,s⟩:=u k v;rw[DL] at l o q s;obtain⟨x,y,B⟩:∃x y,e.Aa[k]=(x,y):=⟨_,_,F⟩;rw[B] at l o q s;have R:=λW=>rQ x y x y W
  simp only[Rz,Bool.and_self,Bool.not_true] at R;have J:=A (λn=>K.b2w (k:=k+1) D n);clear g j c t u hxa z B;go_wp2;go_quiet (fail)
  go_wp2;refine⟨?_,Bm⟩;exact J _
 have T:AQ ((k:Int)<(ln e.Aa:Int))=AM:=Et;have H:=A c;clear g j c;go_wp2;go_ret;exact⟨F,H⟩
def SU(a b:Ed):Bool:=(a.Ch==b.Ch)&&(a.Ck==b.Ck)&&(a.Co==b.Co)&&(a.Cp==b.Cp)&&(a.Cr==b.Cr)&&(a.Aa==b.Aa)
def a5h(a b:Ed):Ja a b=((a.Ab==b.Ab)&&(a.Ae==b.Ae)&&P6 a b&&Pd a b&&Q7 a b&&SU a b&&UO a b&&Ti a b&&UQ a b&&(a.Av==b.Av)&&(a.Ct==b.Ct)):=by
 unfold Ja SU;simp only[eM]
theorem WU{d:Bool}(h:(x==y)=d):(x !=y)= !d:=by rw[<-h];rfl
def a3C(w:V)(e f:Ed)(I m:Option An)(l i:Nat)(y:C8 w w.1.size I l e.Aa)(z:C8 w w.1.size m i f.Aa)(B:ln e.Aa=ln f.Aa->e.Aa=f.Aa):
  AZ AO 51 #[AW (Lj e I l).toArray,AW (Lj f m i).toArray] w λr w'=>r=Ac (AU (SU e f))/\At w.1.size w w':=by
 by_cases g:SU e f=AL
 .have h2:=g;unfold SU at h2;simp only[Ez,C9] at h2;obtain⟨⟨⟨⟨⟨n,h1⟩,h2⟩,o⟩,q⟩,j⟩:=h2;have H:Lj f m i=Lj e m i:=by unfold Lj;rw[n,h1,h2,o,q,j]
  rw[g,H];exact a4U w e I m l i y (j▸z)
 have s:=A (Wm _▸g:SU e f=AM);rw[s.o];have x:=((Ad w.1.size w).alloc (AS _) (.cells (Lj e I l).toArray 48)).alloc AV (.cells (Lj f m i).toArray 48);have E:=A x;unfold SU at g;have⟨t,n⟩:=AP (e.Ch==f.Ch);have⟨d1,h1⟩:=AP (e.Ck==f.Ck);have⟨d2,h2⟩:=AP (e.Co==f.Co);have⟨u,o⟩:=AP (e.Cp==f.Cp);have⟨v,q⟩:=AP (e.Cr==f.Cr);have j:t=AL->d1=AL->d2=AL->u=AL->v=AL->((ln e.Aa:Int)==(ln f.Aa:Int))=AM:=λa b c d k=>by
  rw[CK];intro J;have:=B D;rw[n,h1,h2,o,q,a,b,c,d,k,this] at g;simp at g
 have K:=WU n;have L:=WU h1;have N:=WU h2;have P:=WU o;have R:=WU q;have C:=λa b c d k=>WU (j a b c d k)
 clear g y z B x j s;cases t
 case' true=>cases d1
 case' true.true=>cases d2
 case' true.true.true=>cases u
 case' true.true.true.true=>cases v
 all_goals try(have S:=C rfl rfl rfl rfl rfl)
 all_goals
  clear C;go_enter func51,ntmps51;go_wp2;go_ret;exact⟨F,E⟩
def vL(w:V)(e f:Ed)(I m:Option An)(b a:Nat)(z:C8 w w.1.size I b e.Aa)(B:C8 w w.1.size m a f.Aa)(C:ln e.Aa=ln f.Aa->e.Aa=f.Aa):
  AZ AO 22 #[AW (Ah e (AK I (ln e.Aa) b)),AW (Ah f (AK m (ln f.Aa) a))] w λr w'=>r=Ac (AU (Ja e f))/\At w.1.size w w':=by
 have c:At w.1.size w ((w.alloc (.cells (Ah e (AK I (ln e.Aa) b)) 54)).alloc (.cells (Ah f (AK m (ln f.Aa) a)) 54)):=((Ad _ _).alloc (AS _) _).alloc AV _;have j:=A c;have d:=A ((Fw.new w e (AK I (ln e.Aa) b)).alloc (.cells (Ah f (AK m (ln f.Aa) a)) 54));have g:=A (show Fw ((w.alloc (.cells (Ah e (AK I (ln e.Aa) b)) 54)).alloc (.cells (Ah f (AK m (ln f.Aa) a)) 54)) (w.1.size+1) f (AK m (ln f.Aa) a) by
  have:=Fw.new (w.alloc (.cells (Ah e (AK I (ln e.Aa) b)) 54)) f (AK m (ln f.Aa) a);rw[D5] at this;exact this)
 have v:=A (a3C _ e f I m b a ((z.below c).more Bk) ((B.below c).more Bk) C);have ad:=λi=>d.cell i
 have af:=λi=>g.cell i
 have aa:=λW=>qw e f W
 have ak:AO.eqGuardType AO.depth 40=AM:=U;have Z:=λW=>sF e f W
 have aj:AO.eqGuardType AO.depth 43=AM:=U;have ab:=λW=>qs e f W
 have al:AO.eqGuardType AO.depth 45=AM:=U;have Y:=λW=>qQ e f W
 have ai:AO.eqGuardType AO.depth 50=AM:=U;have X:=λW=>sU e f W
 have ah:AO.eqGuardType AO.depth 52=AM:=U;have ac:=λW=>qU e f W
 have am:AO.eqGuardType AO.depth 30=AM:=U;have k:=a5h e f;have⟨F,S⟩:=AP (e.Ab==f.Ab);have⟨d1,h1⟩:=AP (e.Ae==f.Ae);have⟨d2,h2⟩:=AP (P6 e f);have⟨H,l⟩:=AP (Pd e f);have⟨J,n⟩:=AP (Q7 e f);have⟨K,o⟩:=AP (SU e f);have⟨L,q⟩:=AP (UO e f);have⟨N,s⟩:=AP (Ti e f);have⟨P,t⟩:=AP (UQ e f);have⟨R,T⟩:=AP (e.Av==f.Av);have⟨x,y⟩:=AP (e.Ct==f.Ct);rw[S,h1,h2,l,n,o,q,s,t,T,y] at k;rw[h2] at aa;rw[l] at Z;rw[n] at ab;rw[o] at v;rw[q] at Y;rw[s] at X;rw[t] at ac;rw[k];clear z B c C k h2 l n o q s t;have an:(tx e.Ct==tx f.Ct)=x:=by rw[iR,<-y,JM];simp
 cases F
 case' true=>cases d1
 case' true.true=>cases d2
 case' true.true.true=>cases H
 case' true.true.true.true=>cases J
 case' true.true.true.true.true=>cases K
 case' true.true.true.true.true.true=>cases L
 case' true.true.true.true.true.true.true=>cases N
 case' true.true.true.true.true.true.true.true=>cases P
 case' true.true.true.true.true.true.true.true.true=>cases R
 case' true.true.true.true.true.true.true.true.true.true=>cases x
 all_goals
  go_enter func22,ntmps22;go_wp2_with(go_at_call 51;refine v.q λW2 u=>?_;have D:=A (d.below u d.lt);have E:=A (g.below u g.lt);have ae:=λi=>D.cell i;have ag:=λi=>E.cell i)
  all_goals go_ret
  all_goals exact⟨rfl,by first|exact j|exact j.trans (u.mono j.size)⟩
def kQ(w:V)(e:Ed)(I m:Option An)(a b:Nat)(c:C8 w w.1.size I a e.Aa)(d:C8 w w.1.size m b e.Aa):
  AZ AO 22 #[AW (Ah e (AK I (ln e.Aa) a)),AW (Ah e (AK m (ln e.Aa) b))] w λr w'=>r=Ac (AU AL)/\At w.1.size w w':=by
 have h:=vL w e e I m a b c d (λ_=>rfl);rwa[(jx e e).2 rfl] at h
end
section
open Kp
attribute [local go_sem] Eb Iy Jm Se OE I4 LW Hk Sf Sg Lw Lx Ly M0 M3 M4 M5 M6 M7 M8 Mf NU NV NW NY Mg Mh Mi Mj Ml Mm Mn Mo J9 M9 MA MB Mr Ms Mt MG MH bA
def oC(E:Ed)(g a:AN):(Ah E g).setIfInBounds 22 a=Ah E a:=U
abbrev Ju(l:List (Int×Int)):List AN:=l.flatMap λp=>[M G p.1,M G p.2]
def a7I(l:List (Int×Int)):(Ju l).length=ln l*2:=by
 induction l with
 |nil=>rfl
 |cons p l a=>simp only[Ju,lW,FN,FX,Jy] at a⊢;omega
def oR(l:List (Int×Int))(x y:Int):Ju (l++[(x,y)])=Ju l++[M G x,M G y]:=by simp[Ju]
def a9m(l:List (Int×Int))(j:Nat)(a:j<ln l):(Ju l)[2*j]?=Q (M G (l[j]'a).1)/\(Ju l)[2*j+1]?=Q (M G (l[j]'a).2):=by
 induction l generalizing j with
 |nil=>simp at a
 |cons p l b=>
  cases j with
  |zero=>simp[Ju]
  |succ j=>
   have:=b j (by simpa using a);rw[show 2*(j+1)=2*j+2 by omega,show 2*j+2+1=2*j+1+2 by omega];simpa[Ju] using this
theorem vE{l:List (Int×Int)}(h:w.ownsRow base 142 2 g (ln l) (Ju l)):
  ∃I J,g=AK I (ln l) J/\∀w':V,(∀k,base<=k->k<w.1.size->w'.1[k]?=w.1[k]?)->w.1.size<=w'.1.size->C8 w' w'.1.size I J l:=by
 obtain⟨_,⟨b,i⟩|⟨m,f,cur,b,n,a,hn,o,s,r⟩⟩:=h
 .have hl:l=[]:=Jf.1 i;subst hl;exact⟨O,0,b,λw' _ _=>Rk _ _⟩
 refine⟨_,f,b,λw' hw t=>⟨hn,o,λ_=>⟨m,0,rfl,?_,λj q=> ?_⟩⟩⟩
 .have:=(Ee.1 a).1;omega
 have e:=(hw m n (Ee.1 a).1).trans a;have⟨c,d⟩:=a9m l j q;rw[<-r,List.getElem?_take_of_lt D] at c d;constructor
 .simp[Dx,e];simpa using c
 simp[Dx,e];simpa using d
theorem nS{B b base:Nat}{v:AN}(h:w.ownsRow base e 2 v n j)(hk:F2 B b w w')(i:b<base):w'.ownsRow base e 2 v n j:=by
 obtain⟨c,h|⟨g,d,cur,e,f,a,r⟩⟩:=h
 .exact⟨c,.inl h⟩
 exact⟨c,.inr ⟨g,d,cur,e,f,(hk.Gi g (Ee.1 a).1 D).trans a,r⟩⟩
theorem oI{v:AN}(h:w.ownsRow base e 2 v n j)(f:p.block<base)(x:AN):(w.setCell p x).ownsRow base e 2 v n j:=by
 obtain⟨a,h|⟨g,b,cur,e,c,d,r⟩⟩:=h
 .exact⟨a,.inl h⟩
 exact⟨a,.inr ⟨g,b,cur,e,c,(Gp w p x g D).trans d,r⟩⟩
theorem np{n s:Nat}{v:AN}(h:w.ownsRow base e s v n j):∀k,v.ownBlock=Q k->base<=k:=by
 obtain⟨c,⟨rfl,_⟩|⟨g,a,cur,rfl,b,r⟩⟩:=h
 .intro k hk;simp[Hv] at hk
 intro k hk;simp[Hv] at hk;omega
def Tr(b:Nat)(w:V):Nat:=match w.cell? ⟨b,0,O⟩ with
 |some (AK _ n _)=>n
 |_=>0
theorem EY.Tr{B N b:Nat}{r:DR}(h:EY B N b r w):Tr b w=ln r.1:=by
 obtain⟨_,_,d,c,a⟩:=h.cells;unfold Proofs.YtalhfkdhdggdaaaGreatDoor.Tr;rw[a]
def a7t(r:DR):(rW r).2.1.length=ln r.1-1:=by
 obtain⟨ws,x⟩:=r;cases ws<;>simp[rW]
def pI(r:DR):(rI r).2.1.length=ln r.1-1:=a7t r
theorem EY.words{B N b:Nat}{r:DR}(h:EY B N b r w):ln r.1<=1000000:=by
 obtain⟨lo,hi,⟨sb,off,a,h1,h2,c,d,e,_⟩,f⟩:=h;omega
def pn:(AO.info? 142).map (λi=>(i.zero,i.size,i.bytes))=Q (Q (AW #[M G 0,M G 0]),2,16):=U
theorem uP{r:DR}(h:r.1=[]):rG n r=([],r):=by
 cases n with
 |zero=>rfl
 |succ n=>simp only[rG];split <;>simp_all
theorem rn{r:DR}(h:0<ln r.1):rG (n+1) r=(((rI r).1,(rI (rI r).2).1)::(rG n (rI (rI r).2).2).1,(rG n (rI (rI r).2).2).2):=by
 simp only[rG];split <;>simp_all
def aM(B b Y:Nat)(w:V)(a:DR)(E:Ed)(wr:V):Prop:=
 ∃(n:Nat) (l:List (Int×Int)) (r:DR) (g:AN),rG (ln a.1) a=(l++(rG n r).1,(rG n r).2)/\ln r.1<=n/\RI B b w Y (Ah E g) r wr/\wr.ownsRow (Y+1) 142 2 g (ln l) (Ju l)/\ln l+ln r.1<=1000000
theorem aM.next{B b Y:Nat}{c:DR}{E:Ed}{l:List (Int×Int)}{r:DR}{g v:AN}(d:rG (ln c.1) c=(l++(rG n r).1,(rG n r).2))(hn:ln r.1<=n)(e:0<ln r.1)
  (h:RI B b w Y (Ah E g) (rI (rI r).2).2 o)(f:o.ownsRow (Y+1) 142 2 v (ln l+1) (Ju l++[M G (rI r).1,M G (rI (rI r).2).1]))
  (i:ln l+ln r.1<=1000000):aM B b Y w c E (o.setCell ⟨Y,22,O⟩ v)/\Tr b (o.setCell ⟨Y,22,O⟩ v)<ln r.1:=by
 have j:=pI r;have k:=pI (rI r).2;have a:=h.put 22 v;rw[oC] at a;refine⟨⟨n-1,l++[((rI r).1,(rI (rI r).2).1)],(rI (rI r).2).2,v,?_,D,a,?_,?_⟩,?_⟩
 .obtain⟨m,rfl⟩:∃m,n=m+1:=⟨n-1,D⟩;rw[rn e] at d;rw[d];simp
 .rw[oR,FN];exact oI f (p:=⟨Y,22,O⟩) (by show Y<Y+1;omega) v
 .simp only[FN,FX,Jy];omega
 rw[a.rd.Tr];omega
theorem b2e(B b:Nat)(r:DR)(w:V)(h:EY B w.1.size b r w)(hk:kindOf (rW r).1=7)(Y:Gl w)(z:9<=B):
  AZ AO 46 #[E6 b] w (Vt B w.1.size b r w):=by
 have f:=A hk;have d:=A (λW0=>RI.go (W0:=W0) h hk);have v:=A Y;clear h Y hk;go_enter func46,ntmps46;go_wp2_with(first
  |(go_at_call 93;refine(RI.int ZQ v z).q ?_;rintro W ⟨h,-⟩;have H:=A h;have cc:=λi=>h.c.cell i;have cf:=λi=>h.c.frozen i;clear h)
  |(go_at_call 91;refine(jc _).q λW0 X=>?_;have d:=A (d W0 X);clear X)
  |(go_at_call 92;refine d.q ?_;rintro W1 ⟨an,h⟩;have H:=A h;clear h)
  |(refine U0 rfl _ rfl _ rfl ?_)
  |(refine C7 rfl 54 _ _ rfl _ _ rfl rfl 54 _ (Bq W1 _) U U U ?_)
  |(refine OD rfl _ _ _ rfl _ _ _ rfl rfl 54 _ (EC.Es H.c) U (PO U) U ?_;generalize hq:F8 _ _ _=x;have H:=A (show RI B b w _ _ _ x by rw[<-hq];exact H.row _);clear hq))
 have h:RI B b w W1.1.size (Ah (rE r).1 Dk) (GD 6 (rW r).2).2 x:=H.cast TV;have e:rG (GD 6 (rW r).2).2.1.length (GD 6 (rW r).2).2=((rE r).1.Aa,(rE r).2):=TV;generalize(GD 6 (rW r).2).2=N at h e;have⟨⟨E,R⟩,C⟩:=AP (rE r);rw[C] at h e;have u:=A h;have S:=A (Ci C e);clear h C e H d f an;have⟨i0,ab,ad,ae,c⟩:=DM pn;have I0:=A ab;have I1:=A ad;have I2:=A ae;have I3:=A c;clear ab ad ae c
 go_frame
 go_loopw [] (λwr=>aM B b W1.1.size w N E wr) (λwr=>Tr b wr)
 case atStart=>exact⟨ln N.1,[],N,Dk,AV,AS _,u,Qz _ _ _ _,by have:=u.rd.words;simpa using this⟩
 clear u;obtain⟨n,l,r1,g,m,hn,h,j,am⟩:=hrel;obtain⟨_,_,af,cp,c0⟩:=h.rd.cells;have L:=h.rd.Tr;by_cases hw:0<ln r1.1
 .have ce:=h.c.cell 22;rw[I4] at ce;have au:=h.c.lt;have ai:=A m;have a:=A (h.ext (Lo (Ad _ _)));have O1:=A (show wr.drew.ownsRow (W1.1.size+1) 142 2 g (ln l) (Ju l) from j);have aj:=A L;clear m h j L;go_wp2
  go_region_law(first
   |(refine step_append_lies _ BE _ _ _ BE (W1.1.size+1) 142 i0 _ 2 16 underlying46 I0 I1 I2 I3 rfl D g (ln l) (Ju l) BE (T.alloc _) ⟨y.1.size,0,O⟩ 1 1 [M G (rI r1).1,M G (rI (rI r1).2).1] BE BE (V.news_of_block (cs:=#[M G (rI r1).1,M G (rI (rI r1).2).1]) (t:=142) (fr:=(0,0)) (Bq y _)) QP D Fp D (by have:=P.c.lt;simp;omega) (y.1.size+1) AV ?_;intro gg ar o ac aa ak ao;have s:=A ((P.ext ((Ad _ _).alloc (AS _) _)).grown aa (λk hk=>np T k hk));have O4:=A ac;have c4:=EC.cell s.c 22;have f4:=EC.frozen s.c 22;rw[I4] at c4;clear ac aa ak ao)
   |(go_simp;go_at_call 93;refine(q.int v z).q ?_;rintro y ⟨h,k⟩;have T:=A (nS O2 k (by have:=q.lt;have:=q.y;omega));have P:=A h;have c3:=h.c.cell 22;have aw:=h.c.lt;rw[I4] at c3;clear h k)
   |(go_simp;go_at_call 93;refine(a.int v z).q ?_;rintro x ⟨h,k⟩;have O2:=A (nS O1 k (by have:=a.lt;have:=a.y;omega));have q:=A h;have c2:=h.c.cell 22;have av:=h.c.lt;rw[I4] at c2;clear h k))
  all_goals go_wp2
  all_goals
   have⟨q1,q2⟩:=aM.next ai hn hw s O4 am;refine⟨q1,?_⟩;rw[aj.o];exact q2
 have K:r1.1=[]:=Jf.1 D;have aq:wr.cell? ⟨b,0,O⟩=Q (AK af 0 cp):=by rw[c0,K];rfl
 have ag:=A (show(l,r1)=(E.Aa,R) by rw[<-S.2,m,uP K];simp);obtain⟨I,J,rfl,Z⟩:=vE j;have ah:=A Z;have a:=A h;clear c0 m h j L hw K Z;go_wp2_with(first
  |(refine Ce rfl 54 _ rfl _ rfl 54 _ (0,0) _ (EC.Es a.c) Cc rfl U ?_)
  |(refine C7 rfl 54 _ _ rfl _ _ rfl rfl 54 _ (EC.Es a.z) U U U ?_))
 refine Bp (PX F _ _ _ _ _ (0,0) _ F (setRow_heap (EC.Es a.z) _) Cc F U) F ?_;unfold Vt;have⟨e1,e2⟩:=en ag;have:=a.lt;have:=a.y;subst e2;rw[S.1,<-e1];refine⟨I,J,F,λw2 ap c=>ah _ (λk hk al=> ?_) (by rw[size_setRow] at c;exact c),a.rd.row (AS _) _,a.k.row (AS _) D _⟩;rw[ap k D (by rw[size_setRow];exact al)];exact Hc _ _ D
end
section
open Kp Go.Maps
def gm:Keyed AO 3:=int_keyed GQ
noncomputable abbrev RO:AN->Option (D6 Unit×List Dw):=plainElem AO 9
def OS:D6 Unit:= .map [(.int .i64 4,.lit (.string MC)),(.int .i64 5,.lit (.string LY)),(.int .i64 6,.lit (.string LI)),(.int .i64 7,.lit (.string Jv)),(.int .i64 10,.lit (.string ML)),(.int .i64 11,.lit (.string MN))]
theorem Vf{w:V}{N R:Array FG}{c n:Nat}{a:D6 Unit}(h:(w.alloc (.map N c)).ownsMap AO 3 RO w.heap.size n a)(hn:n<BM)(k:Int)(s:By)
  (hk:keyOf AO 3 (.int .i64 k)=Q (.int .i64 k))(e:s.length≤1000)
  (hu:(Instr.mapUpdate 105 (.map (Q w.heap.size)) (.int .i64 k) (.string (tx s))).run AO (w.alloc (.map N c))= .ok () (w.alloc (.map R (c+1)))):
  (w.alloc (.map R (c+1))).ownsMap AO 3 RO w.heap.size (n+1) (a.put (.int .i64 k) (.lit (.string s))):=by
 obtain⟨w',d,b,_⟩:=h.update gm underlying105 hn hk (plainElem_string underlying9 (s:=tx s) (by grind [DJ,BM]))
 grind
theorem a8y (w : World) : (w.alloc (.map V5 6)).ownsMap Tryz.prog 3 RO w.heap.size 6 OS := by
  have a : ∀ k , -1000 ≤ k → k ≤ 1000 → keyOf Tryz.prog 3 (.int .i64 k) = some (.int .i64 k) := by grind [keyOf_int_mk, Tryz.underlying3, WalkArith.wf_i64]
  have m : ∀ n , n ≤ 10 → n < maxLen := by grind [maxLen]
  have g := Sw Tryz.underlying105 Tryz.underlying3 w lA XY 0 _ _ (by simp [MapKept.IsKey]) rfl rfl
  have u1 := Sw Tryz.underlying105 Tryz.underlying3 w XY XX 1 _ _ (by simp [MapKept.IsKey]) rfl rfl
  have i := Sw Tryz.underlying105 Tryz.underlying3 w XX Xc 2 _ _ (by simp [MapKept.IsKey]) rfl rfl
  have j := Sw Tryz.underlying105 Tryz.underlying3 w Xc Xn 3 _ _ (by simp [MapKept.IsKey]) rfl rfl
  have l := Sw Tryz.underlying105 Tryz.underlying3 w Xn Xd 4 _ _ (by simp [MapKept.IsKey]) rfl rfl
  have o := Sw Tryz.underlying105 Tryz.underlying3 w Xd V5 5 _ _ (by simp [MapKept.IsKey]) rfl rfl
  have b := World.ownsMap_made w Tryz.prog 3 RO
  have h1 := Vf b (m _ (by omega)) 4 MC (a _ (by omega) (by omega)) (by decide) g
  have h2 := Vf h1 (m _ (by omega)) 5 LY (a _ (by omega) (by omega)) (by decide) u1
  have c := Vf h2 (m _ (by omega)) 6 LI (a _ (by omega) (by omega)) (by decide) i
  have d := Vf c (m _ (by omega)) 7 Jv (a _ (by omega) (by omega)) (by decide) j
  have f := Vf d (m _ (by omega)) 10 ML (a _ (by omega) (by omega)) (by decide) l
  have q := Vf f (m _ (by omega)) 11 MN (a _ (by omega) (by omega)) (by decide) o
  have e : ((((((DataW.map []).put (.int .i64 4) (.lit (.string MC))).put (.int .i64 5) (.lit (.string LY))).put (.int .i64 6) (.lit (.string LI))).put (.int .i64 7) (.lit (.string Jv))).put (.int .i64 10) (.lit (.string ML))).put (.int .i64 11) (.lit (.string MN)) = OS := by kernel_rfl
  grind
theorem b1R{x:Int}{c:By}(b:Maps.has OS (.int .i64 x)=AL)(h:∀d,OS.atKey (.int .i64 x) d= .lit (.string c)):Hd x=AL∧c=Gc x:=by
 have hx:=by
  simp[Maps.has,OS,Lit.sameKey] at b
  omega
 have a:=h .nil
 rcases hx with rfl|rfl|rfl|rfl|rfl|rfl
 all_goals
  refine⟨rfl,?_⟩
  simp[D6.atKey,OS,Lit.sameKey] at a
  rw[←a];rfl
end
section
open Kp Go.Maps
attribute [local go_sem] Eb Iy Jm Se OE I4 LW Hk Sf Sg Lw Lx Ly M0 M3 M4 M5 M6 M7 M8 Mf NU NV NW NY Mg Mh Mi Mj Ml Mm Mn Mo J9 M9 MA MB Mr Ms Mt MG MH bA
def a5F(w:V)(p:An)(v:AN):w.grownBy (w.setCell p v) (Q p.block):=
 ⟨rfl,rfl,rfl,by simp[Di],λi _ hi=>Gp w p v i (λe=>hi (by rw[e]))⟩
theorem pg{v:AN}{z:D6 Unit×List Dw}(h:RO v=Q z):∃s:ByteArray,v= .string s∧z=(.lit (.string s.data.toList),[]):=by
 obtain⟨s,h1,h2,_⟩:=plainElem_string_inv underlying9 h
 exact⟨s,h1,h2⟩
structure PF(l:By)(left:Lit→Bool)(n:Int):Prop where
 hit:∀x,Hd x=AL→left (.int .i64 x)=AM→Gc x=l→n=x
 Ag:n=0∨(Hd n=AL∧Gc n=l)
theorem a7S(hx:Hd x=AL)(hy:Hd y=AL)(h:Gc x=Gc y):x=y:=by
 rw[<-bC hx,<-bC hy,h]
def PF.BI(l:By):PF l (Maps.has OS) 0:=by
 refine⟨λx hx a _=> ?_,.inl rfl⟩;unfold Hd at hx;simp only[QJ,C9] at hx;rcases hx with((((h|h)|h)|h)|h)|h<;>subst h<;>revert a<;>decide+kernel
theorem PF.a8w{l:By}{left:Lit→Bool}{n x:Int}(h:PF l left n)(hx:Hd x=AL)(hw:Gc x=l):PF l (fun z=>left z&& !z.sameKey (.int .i64 x)) x:=
 ⟨fun y hy _ a=>a7S hx hy (hw.trans a.symm),.inr ⟨hx,hw⟩⟩
theorem PF.a6l{l:By}{left:Lit→Bool}{n x:Int}(h:PF l left n)(hw:¬Gc x=l):PF l (fun z=>left z&& !z.sameKey (.int .i64 x)) n:=by
 refine⟨fun y hy a b=> ?_,h.Ag⟩
 by_cases c:y=x
 ·subst c;exact absurd b hw
 ·refine h.hit y hy ?_ b
  have:Lit.sameKey (.int .i64 y) (.int .i64 x)=AM:=by simp[Lit.sameKey,c]
  simp only[this,eN,Bool.and_true] at a
  exact a
def PF.done{l:By}{left:Lit->Bool}{n:Int}(h:PF l left n)(a:∀k,left k=AM):n=aI l:=by
 rcases h.Ag with b|⟨h1,h2⟩
 .subst b;unfold aI;split
  .rename_i hh;exact h.hit 4 F (a _) hh.symm
  split
  .rename_i hh;exact h.hit 5 F (a _) hh.symm
  split
  .rename_i hh;exact h.hit 6 F (a _) hh.symm
  split
  .rename_i hh;exact h.hit 7 F (a _) hh.symm
  split
  .rename_i hh;exact h.hit 10 F (a _) hh.symm
  split
  .rename_i hh;exact h.hit 11 F (a _) hh.symm
  rfl
 rw[<-h2,bC h1]
def xW(B b m y:Nat)(r2:DR)(l:By)(w:V)(wr:V):Prop:=
 ∃left a n,wr.ranges AO 3 RO m (m+1) 6 OS left a/\(∀k,left k=AL->Maps.has OS k=AL)/\PF l left n/\RI B b w y ((Ah (NM 12) Dk).setIfInBounds 35 (M G n)) r2 wr
theorem b0a(B b:Nat)(r:DR)(w:V)(h:EY B w.heap.size b r w)(hk:kindOf (rW r).1=12)(X:Gl w)(hB:9≤B):
  AZ AO 46 #[E6 b] w (Vt B w.heap.size b r w):=by
 have f:=A hk
 have t:=A (fun W0=>RI.go (W0:=W0) h hk)
 have HG:=A X
 clear h X hk
 go_enter func46,ntmps46
 go_wp2_with(first
  |(at_range;refine wpList_range_own _ rfl _ 105 rfl 3 9 gm underlying105 RO a.heap.size 6 OS rfl O3.out ?_;intro w0 C aj ao;rw[z3];rw[z3] at C ao)
  |(go_at_call 57;refine(jR _).mono ?_;rintro e u ⟨rfl,g⟩;have O3:=A (show u.ownsMap AO 3 RO a.heap.size 6 OS by rw[g];exact a8y a);have J:=A (show RI B b w W1.heap.size (Ah (NM 12) Dk) (rW (rW r).2).2 u by rw[g];exact I.out.ext ((Ad _ _).alloc (AS _) _));have z3:u.heap.size=a.heap.size+1:=(by rw[g];simp);clear g)
  |(go_at_call 92;refine H.out.word.mono ?_;rintro e a ⟨rfl,h,-⟩;have I:=A h;clear h)
  |(go_at_call 91;refine(jc _).mono ?_;rintro e W0 ⟨rfl,S⟩;have t:=A (t.out W0 S);clear S)
  |(go_at_call 92;refine t.out.mono ?_;rintro e W1 ⟨rfl,au,h⟩;have H:=A h;clear h)
  |(refine U0 rfl _ rfl _ rfl ?_)
  |(refine C7 rfl 54 _ _ rfl _ _ rfl rfl 54 _ (Bq W1 _) (by kernel_rfl) (by kernel_rfl) (by kernel_rfl) ?_))
 go_frame
 have aw:=I.out.c.lt
 have N:=A (show xW B b a.heap.size W1.heap.size (rW (rW r).2).2 (rW (rW r).2).1 w w0 from⟨_,_,0,C,fun k hk=>hk,PF.BI _,(J.out.grown aj (fun k hk=>by cases hk)).cast (by kernel_rfl)⟩)
 clear C H J
 go_loopw [5] (fun _ wr=>xW B b a.heap.size W1.heap.size (rW (rW r).2).2 (rW (rW r).2).1 w wr) (fun _ wr=>wr.rangeLeft a.heap.size (a.heap.size+1))
 case atStart=>exact N.out
 case round=>
  obtain⟨left,ag,n,ae,aa,hn,h⟩:=hrel
  have l:=A hn
  have j:=A aa
  have H:=A h
  have o:=A ae
  clear hn aa h ae N
  go_wp2_with(at_next;refine wpList_next_ranges _ rfl _ rfl 3 gm RO (fun x:Int=> .int .i64 x) (fun s:ByteArray=> .string s) (fun key kl z=>by obtain⟨x,hx,_⟩:=Maps.keyOf_int_inv GQ z;exact⟨x,hx⟩) (fun v y z=>by obtain⟨s,hs,_⟩:=pg z;exact⟨s,hs⟩) a.heap.size (a.heap.size+1) 6 OS left ag rfl o.out ?_ ?_)
  ·intro hc0 hl0
   have al:=l.out.done hl0
   subst al
   clear hl0 j o
   go_wp2_with(first
    |(refine Ce rfl 54 _ rfl _ rfl 54 _ (0,0) _ (EC.Es (d.out.put _ _).c) Cc rfl (by kernel_rfl) ?_)
    |(refine C7 rfl 54 _ _ rfl _ _ rfl rfl 54 _ (EC.Es (d.out.put _ _).z) (by kernel_rfl) (by kernel_rfl) (by kernel_rfl) ?_)
    |(go_at_call 93;refine(H.out.int HG.out hB).mono ?_;rintro e W5 ⟨rfl,h,-⟩;have d:=A h;have cc:=fun i=>h.c.cell i;have cf:=fun i=>h.c.frozen i;clear h))
   exact Bp (PX rfl _ _ _ _ _ (0,0) _ rfl (setRow_heap (EC.Es (d.out.put _ _).z) _) Cc rfl (by kernel_rfl)) rfl (RI.fin (d.out.put _ _) (by unfold rE;rw[f.out];kernel_rfl) (by unfold rE;rw[f.out];kernel_rfl) (by unfold rE;rw[f.out];kernel_rfl))
  ·intro x c kl yd yp w1 P Z ad R T D ac Y av ai
   obtain⟨x',aq,ak,_⟩:=Maps.keyOf_int_inv GQ Z
   cases aq
   subst ak
   obtain⟨s,an,hy⟩:=pg R
   cases an
   cases hy
   obtain⟨am,W⟩:=b1R (j.out _ ad) T
   have ah:c=tx (Gc x):=by rw[←W,Sy]
   subst ah
   have ar:=A ai
   have q:=A D
   have h1:=H.out.grown Y (fun k hk=>by cases hk;omega)
   have E:=A h1
   have ab:∀k,(left k&& !k.sameKey (.int .i64 x))=AL→Maps.has OS k=AL:=fun k hk=>j.out k (by simp only[Ez] at hk;exact hk.1)
   have K:=A ab
   have L:=A (show w1.rangeLeft a.heap.size (a.heap.size+1)<wr.rangeLeft a.heap.size (a.heap.size+1) by rw[D.left_eq,o.out.left_eq];exact ac)
   have cc:=fun i=>h1.c.cell i
   have cf:=fun i=>h1.c.frozen i
   clear Z ad R T D ac Y W ab h1
   by_cases hw:Gc x=(rW (rW r).2).1
   ·have ap:(Gc x==(rW (rW r).2).1)=AL:=by rw[C9];exact hw
    have m:=A (l.out.a8w am hw)
    clear hw
    go_wp2
    have af:=q.out.kept (a5F w1 ⟨W1.heap.size,35,O⟩ (.int .i64 x)) (fun e=>by have:=Kr e;simp at this;omega) (fun e=>by have:=Kr e;simp at this;omega)
    refine⟨⟨_,P,x,af,K.out,m.out,(E.out.put 35 _).cast (by simp)⟩,?_⟩
    have hm:=L.out
    rw[q.out.left_eq] at hm
    rw[af.left_eq];exact hm
   ·have ap:(Gc x==(rW (rW r).2).1)=AM:=by rw[CK];exact hw
    have m:=A (l.out.a6l hw)
    clear hw
    go_wp2
    exact⟨⟨_,P,n,q.out,K.out,m.out,E.out⟩,L.out⟩
end
section
open Kp
def a6f{p:Prop}[Decidable p]{a b:Int}(c:0<=a/\a<=12)(d:0<=b/\b<=12):0<=(if p then a else b)/\(if p then a else b)<=12:=Al
def jL(w:By):0<=kindOf w/\kindOf w<=12:=by
 repeat(refine a6f ⟨Z,Z⟩ ?_)
 grind
def a82(B b:Nat)(r:DR)(w:V)(h:EY B w.1.size b r w)(c:Gl w)(a:9<=B):AZ AO 46 #[E6 b] w (Vt B w.1.size b r w):=by
 have:=jL (rW r).1;by_cases e:kindOf (rW r).1=7
 .grind [b2e]
 by_cases d:kindOf (rW r).1=12
 .grind [b0a]
 exact b36 B b r w h F D c a
def Ok(r:DR):Prop:=∀x∈r.1,ln x<=1000
theorem Ok.word{r:DR}(h:Ok r):(rW r).1.length<=1000:=by
 obtain⟨ws,x⟩:=r;cases ws with
 |nil=>simp[rW]
 |cons s t=>exact h s (List.mem_cons_self ..)
theorem Ok.next{r:DR}(h:Ok r):Ok (rW r).2:=by
 obtain⟨ws,x⟩:=r;cases ws with
 |nil=>intro y hy;simp[rW] at hy
 |cons s t=>intro y hy;exact h y (TJ _ hy)
theorem Ok.b4t{r:DR}(h:Ok r):Ok (rI r).2:=h.next
theorem sZ(r:DR):Bh (rI r).1:=by
 show Bh (Mv _).1;generalize(rW r).1=s;unfold Mv Bh;cases a:Lib.atoiAll s
 .exact Lib.atoiAll_bounds a
 .grind
 exact Lib.atoiSat_bounds s
def b1S(n:Nat)(r:DR):∀p∈(rG n r).1,Bh p.1/\Bh p.2:=by
 induction n generalizing r with
 |zero=>intro p a;simp[rG] at a
 |succ n b=>
  by_cases h:0<ln r.1
  .rw[rn h];intro p a;rcases Kt.1 a with rfl|a
   .grind [sZ]
   grind
  grind [uP]
theorem qC(b:Bool):Bh (TE b):=by cases b<;>exact⟨Z,Z⟩
def qX{e:Ed}{li:List Int}{ln:List By}(hi:Cj e=li)(hn:numsOf e=ln)(h1:∀n∈li,Bh n)(h2:∀a∈ln,a.length<=1000)(b:e.Ct.length<=1000):IH e:=
 ⟨Al,Al,b⟩
def a3h(r:DR)(h:Ok r):IH (rE r).1:=by
 have:=jL (rW r).1;have⟨k,hk⟩:=AP (kindOf (rW r).1);unfold rE;simp only[hk];rcases(show k=0\/k=1\/k=2\/k=3\/k=4\/k=5\/k=6\/k=7\/k=8\/k=9\/k=10\/k=11\/k=12 by omega) with rfl|rfl|rfl|rfl|rfl|rfl|rfl|rfl|rfl|rfl|rfl|rfl|rfl
 all_goals
  have d:=λn r a b (h:(a,b)∈(rG n r).1)=>b1S n r _ h
  have e:Bh 0:=⟨Z,Z⟩;refine⟨λn hn=> ?_,λa c=> ?_,?_⟩;all_goals try simp[Cj,GD,UZ,BZ,Ev] at hn
  all_goals try simp[numsOf,GD,UZ,BZ] at c
  all_goals grind [sZ,qC,BZ,Ok.next,Ok.b4t,Ok.word]
end
end Go.Proofs.YtalhfkdhdggdaaaGreatDoor
