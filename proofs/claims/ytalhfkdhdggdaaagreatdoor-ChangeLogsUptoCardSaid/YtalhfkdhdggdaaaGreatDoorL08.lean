/- ChangeLogs of kingpostlaw58: part 8 of its proof (merged and shortened by program). -/
import Derived.Test.YtalhfkdhdggdaaaGreatDoorL04
import Derived.Test.YtalhfkdhdggdaaaGreatDoorL05
import Derived.Test.YtalhfkdhdggdaaaGreatDoorL06
set_option linter.unusedVariables false
set_option linter.unusedSimpArgs false
set_option linter.defProp false
set_option maxHeartbeats 8000000
set_option maxRecDepth 100000
open Go.RowKit Go.Shelf Go.Proofs.Tryz
open And renaming intro→Ci
open Array renaming replicate→E7
open Bool renaming false→AM,true→AL
open ByteArray renaming size→OY
open Decidable renaming decide→AQ
open Go renaming World→V,Value→AN,Calls→AZ,TypeId→Bb,Addr→An,maxLen→BM,undef→Ba,Ending→CI,wpList→CQ,MemPlace→Dw,KeepsOthers→GF,MapEntry→FG,DataW→D6,Operand→F0,Act→BV
open Go.Act renaming put→G7
open Go.Builtin renaming zeroCells→Is,append_→JN
open Go.DataW renaming trod→ET
open Go.Ending renaming returned→Ac
open Go.Fence renaming wide→Ha
open Go.IntKind renaming i64→G
open Go.Lib renaming hasPrefix→DH,cut→Bj,compareInt→Dv,itoa→CY,decDigits→ES,split→Da,byteCells→IV
open Go.MapKept renaming IsKey→MV
open Go.Proofs.Tryz renaming prog→AO,underlying54→Cc,underlying34→DV,underlying25→FD,underlying3→GQ
open Go.Region renaming wanted→Ir
open Go.RowKit renaming intOf→B8,Below→At
open Go.Value renaming agg→Ea,oneCell'→Ks,slice→FO,ownBlock→Hv,int→Gr,slice→AK,string→AT,bool→AU,pointer→Ap,int→M,agg→AW,tuple→BO
open Go.World renaming setCell→Di,cell?→Dx,setRow→F8,frozen?→Hb
open List renaming replicate→F7,range→G8,getD→Gs,length→ln
open Nat renaming gcd→DO,reduceAdd→Hw
open Option renaming none→O,some→Q,getD→FF
open Or renaming inl→Cf
open UInt8 renaming ofNat→GR
open Go.Proofs.YtalhfkdhdggdaaaGreatDoor
variable{x y a b:Int}{C i:Nat}{u d:Option An}{p:Prop}{w w2:V}
namespace Go.Proofs.YtalhfkdhdggdaaaGreatDoor
section
open Kp
def NN(l:List Aw)(x:Aw):Nat->Nat->Nat->Nat
 |0,lo,_=>lo
 |f+1,lo,hi=>if lo<hi then(if Gm (l.getD ((lo+hi)/2) Dm) x<0 then NN l x f ((lo+hi)/2+1) hi else NN l x f lo ((lo+hi)/2)) else lo
def LD(l:List Aw)(x:Aw):Nat:=NN l x (ln l) 0 (ln l)
def Ma(l:List Aw)(x:Aw):Bool:=AQ (LD l x<ln l)&&Gm (l.getD (LD l x) Dm) x==0
theorem sq(l:List Aw)(x:Aw)(f lo:Nat):NN l x f lo lo=lo:=by
 cases f with
 |zero=>rfl
 |succ f=>unfold NN;rw[Af D]
def b5K(W0:V)(l:List Aw)(x:Aw)(i j:AN)(wr:V):Prop:=
 ∃lo hi f:Nat,i=M G (lo:Int)/\j=M G (hi:Int)/\lo<=hi/\hi<=ln l/\hi-lo<=f/\NN l x f lo hi=LD l x/\Ext W0 wr
def a9a(w:V)(u:Option An)(C:Nat)(l:List Aw)(x:Aw)(hl:BB 5 w w.1.size u C (Em l))(ae:ln l<=1000000):
  AZ AO 213 #[AK u (ln l) C,AW (D4 x).toArray,.func (.func 214) #[] #[]] w λe w'=>e=Ac (BO #[M G (LD l x:Int),AU (Ma l x)])/\Ext w w':=by
 obtain⟨h1,h2,J⟩:=hl;rw[BL] at h1 J;unfold BM at h2;have⟨W0,z⟩:=AP (w.alloc (.cells (D4 x).toArray 52));have E:=A (show Ext w W0 by rw[<-z];exact(Ad _ _).alloc (AS _) _);have s:=A (show Az W0 w.1.size 52 (D4 x) by rw[<-z];exact Az.new w _ _);have HW:=A z;have g1:=FZ func214 U F;have N:=A J;clear J z;go_enter func213,ntmps213;go_wp2;rw[show w.alloc (.cells #[M G x.BX,M G x.C4,M G x.CF,M G x.load,M G x.span] 52)=W0 from HW.o];go_loopw [9,10] (λi j wr=>b5K W0 l x i j wr) (λi j _=>(B8 j-B8 i).toNat)
 case atStart=>exact⟨0,ln l,ln l,F,F,D,D,D,rfl,Ext.B9 _⟩
 obtain⟨lo,hi,f,rfl,rfl,af,ad,hf,T,X⟩:=hrel;have d:=A X;have P:=A T;clear X T;by_cases ac:lo<hi
 .obtain⟨b,off,rfl,hB,hcell0⟩:=N D;have m:=A (E.tr d);have g:b<wr.1.size:=Dj hB m.size;obtain⟨n,rfl⟩:∃n,f=n+1:=⟨f-1,D⟩;have Y:(lo+hi)/2<ln l:=D;have a:=A (λj L=>(m.cell (p:=⟨b,off+5*((lo+hi)/2)+j,O⟩) hB).trans (hcell0 ((lo+hi)/2) Y j L));have c0:=a 0 Z;have c1:=a 1 Z;have c2:=a 2 Z;have c3:=a 3 Z;have c4:=a 4 Z;rw[YN Y,DL] at c0 c1 c2 c3 c4;rw[Dh] at c0;have hu:NN l x (n+1) lo hi=if Gm (l.getD ((lo+hi)/2) Dm) x<0 then NN l x n ((lo+hi)/2+1) hi else NN l x n lo ((lo+hi)/2):=by
   rw[NN,Aj ac]
  rw[P.o] at hu;have⟨y,hy⟩:=AP (l.getD ((lo+hi)/2) Dm);rw[hy] at c0 c1 c2 c3 c4 hu;have r:=A (λW=>wJ y x W);have⟨c,q⟩:=AP (Gm y x);rw[q] at hu;simp only[q] at r;have R:=A hu;clear hy q hu hcell0;have e1:(((lo:Int)+(hi:Int))/2).toNat=(lo+hi)/2:=D;have e2:0<=((lo:Int)+(hi:Int))/2:=D;have e3:((lo:Int)+(hi:Int))/2<(ln l:Int):=D;go_wp2_with fail
  refine On 6 U U (λW2 k=> ?_);have t:Az W2 w.1.size 52 (D4 x):=s.ext (d.tr k);have q0:=(k.cell (p:=⟨b,off+(lo+hi)/2*5,O⟩) g).trans c0;have q1:=(k.cell (p:=⟨b,off+(lo+hi)/2*5+1,O⟩) g).trans c1;have q2:=(k.cell (p:=⟨b,off+(lo+hi)/2*5+2,O⟩) g).trans c2;have q3:=(k.cell (p:=⟨b,off+(lo+hi)/2*5+3,O⟩) g).trans c3;have q4:=(k.cell (p:=⟨b,off+(lo+hi)/2*5+4,O⟩) g).trans c4;have y0:=t.cell 0;have y1:=t.cell 1;have y2:=t.cell 2;have y3:=t.cell 3;have y4:=t.cell 4;have S:=A k;clear t k c0 c1 c2 c3 c4;simp only[S7,RC,FV,FY]
  repeat still_step
  refine TM ?_;by_cases B:c<0
  .have tc:AQ (c<0)=AL:=CP B;have I:=A (R.trans (Aj B));go_wp2_with(go_at_call 214;refine(r _).q λW3 K=>?_)
   exact⟨⟨(lo+hi)/2+1,hi,n,by rw[show((lo:Int)+(hi:Int))/2+1=(((lo+hi)/2+1:Nat):Int) by omega],rfl,D,D,D,I.symm,(d.tr S).tr K⟩,Bm⟩
  have tc:AQ (c<0)=AM:=Bw B;have I:=A (R.trans (Af B));go_wp2_with(go_at_call 214;refine(r _).q λW3 K=>?_)
  exact⟨⟨lo,(lo+hi)/2,n,F,by rw[show((lo:Int)+(hi:Int))/2=(((lo+hi)/2:Nat):Int) by omega],D,D,D,I.symm,(d.tr S).tr K⟩,Bm⟩
 obtain rfl:lo=hi:=D;have v:=A (show LD l x=lo by rw[<-P.o,sq]);by_cases hn:lo<ln l
 .obtain⟨b,off,rfl,hB,hcell0⟩:=N D;have m:=A (E.tr d);have g:b<wr.1.size:=Dj hB m.size;have a:=A (λj L=>(m.cell (p:=⟨b,off+5*lo+j,O⟩) hB).trans (hcell0 lo hn j L));have c0:=a 0 Z;have c1:=a 1 Z;have c2:=a 2 Z;have c3:=a 3 Z;have c4:=a 4 Z;rw[YN hn,DL] at c0 c1 c2 c3 c4;rw[Dh] at c0;have o:Ma l x=(Gm (l.getD lo Dm) x==0):=by unfold Ma;rw[v.o,CP hn,Hu]
  have⟨y,hy⟩:=AP (l.getD lo Dm);rw[hy] at c0 c1 c2 c3 c4 o;have r:=A (λW=>wJ y x W);have⟨c,q⟩:=AP (Gm y x);rw[q] at o;simp only[q] at r;have H:=A o;have t0:AQ ((lo:Int)<(ln l:Int))=AL:=CP D;have e3:(lo:Int)<(ln l:Int):=D;clear hy q o hcell0;have b0:=λw' (h:Ext wr w')=>(h.cell (p:=⟨b,off+lo*5,O⟩) g).trans c0
  have b1:=λw' (h:Ext wr w')=>(h.cell (p:=⟨b,off+lo*5+1,O⟩) g).trans c1
  have b2:=λw' (h:Ext wr w')=>(h.cell (p:=⟨b,off+lo*5+2,O⟩) g).trans c2
  have b3:=λw' (h:Ext wr w')=>(h.cell (p:=⟨b,off+lo*5+3,O⟩) g).trans c3
  have b4:=λw' (h:Ext wr w')=>(h.cell (p:=⟨b,off+lo*5+4,O⟩) g).trans c4
  have y0:=λw' (h:Ext wr w')=>(s.ext (d.tr h)).cell 0
  have y1:=λw' (h:Ext wr w')=>(s.ext (d.tr h)).cell 1
  have y2:=λw' (h:Ext wr w')=>(s.ext (d.tr h)).cell 2
  have y3:=λw' (h:Ext wr w')=>(s.ext (d.tr h)).cell 3
  have y4:=λw' (h:Ext wr w')=>(s.ext (d.tr h)).cell 4
  clear c0 c1 c2 c3 c4;go_wp2_with fail
  go_region_held3(λw'=>Ext wr w') (first|exact aa|exact Ext.dr wr) (first|(go_at_call 214;refine(r _).q λW1 ab=>?_;have aa:Ext wr W1:=(Ext.dr wr).tr ab))
  go_wp2;go_ret2;exact⟨by rw[v.o,H.o];rfl,m.tr aa⟩
 have o:Ma l x=AM:=by unfold Ma;rw[v.o,Bw hn,Ji]
 have H:=A o;have t0:AQ ((lo:Int)<(ln l:Int))=AM:=Bw D;have m:=A (E.tr d);clear o;go_wp2_with fail
 go_quiet (fail)
 go_wp2;go_ret2;exact⟨by rw[v.o,H.o];rfl,below_drewN m _⟩
def UW:Array AN:=#[.nilFunc,.func (.func 130) #[] #[],.func (.func 131) #[] #[],.func (.func 132) #[] #[],.func (.func 133) #[] #[],.func (.func 134) #[] #[],.func (.func 136) #[] #[],.func (.func 137) #[] #[],.func (.func 139) #[] #[],.func (.func 140) #[] #[],.func (.func 141) #[] #[],.func (.func 143) #[] #[],.func (.func 144) #[] #[]]
def a3R(w:V):AZ AO 77 #[] w λe w'=>e=Ac (AW UW)/\Ext w w':=by
 have c:=Bq w (.cells #[.nilFunc,.nilFunc,.nilFunc,.nilFunc,.nilFunc,.nilFunc,.nilFunc,.nilFunc,.nilFunc,.nilFunc,.nilFunc,.nilFunc,.nilFunc] 131);have hx:Ext w ((w.alloc (.cells #[.nilFunc,.nilFunc,.nilFunc,.nilFunc,.nilFunc,.nilFunc,.nilFunc,.nilFunc,.nilFunc,.nilFunc,.nilFunc,.nilFunc,.nilFunc] 131)).setRow _ UW):=CL ((Ad _ _).alloc (AS _) _) (AS _) _;have a:=A c;have b:=A hx;go_enter func77,ntmps77;go_wp2_with(refine C7 rfl 131 _ _ rfl _ UW rfl rfl 131 _ a U U U ?_)
 refine Bp (PX F _ _ _ _ _ _ _ F (setRow_heap a _) underlying131 F U) F ⟨F,b⟩
def vJ(n:Int)(w:V):AZ AO 152 #[M G n] w λe w'=>e=Ac (AU (N n 1 1000))/\w'=w:=by
 have a:N n 1 1000=(AQ (1<=n)&&AQ (n<=1000)):=rfl;rw[a];clear a;cases b:AQ (n>=1)<;>cases c:AQ (n<=1000)
 all_goals
  go_enter func152,ntmps152;go_wp2;go_ret;exact⟨F,F⟩
theorem fY{B:Nat}{l:List Sz}(h:BB 3 w B u C (Fq l))(f:0<ln l):
  ∃b off,u=Q ⟨b,off,O⟩/\b<B/\∀i,i<ln l->w.cell? ⟨b,off+i*3,O⟩=Q (M G (l.getD i Ca).Ab)/\w.cell? ⟨b,off+i*3+1,O⟩=Q (M G (l.getD i Ca).BX)/\w.cell? ⟨b,off+i*3+2,O⟩=Q (M G (l.getD i Ca).C4):=by
 obtain⟨h1,h2,a⟩:=h;have⟨b,off,e,c,d⟩:=a (by rw[BL];exact f);refine⟨b,off,e,c,λi hi=> ?_⟩;have q:∀m,m<3->w.cell? ⟨b,off+i*3+m,O⟩=(JT (l.getD i Ca))[m]?:=by
  intro m hm;have:=d i ZM m hm;rw[oS hi,DL] at this;exact this
 exact⟨q 0 Z,q 1 Z,q 2 Z⟩
theorem a7p{B:Nat}{l:List Aw}(h:BB 5 w B u C (Em l))(g:0<ln l):
  ∃b off,u=Q ⟨b,off,O⟩/\b<B/\∀i,i<ln l->w.cell? ⟨b,off+i*5,O⟩=Q (M G (l.getD i Dm).BX)/\w.cell? ⟨b,off+i*5+1,O⟩=Q (M G (l.getD i Dm).C4)/\w.cell? ⟨b,off+i*5+2,O⟩=Q (M G (l.getD i Dm).CF)/\w.cell? ⟨b,off+i*5+3,O⟩=Q (M G (l.getD i Dm).load)/\w.cell? ⟨b,off+i*5+4,O⟩=Q (M G (l.getD i Dm).span):=by
 obtain⟨h1,h2,d⟩:=h;have⟨b,off,e,f,a⟩:=d (by rw[BL];exact g);refine⟨b,off,e,f,λi hi=> ?_⟩;have c:(Em l).getD i []=D4 (l.getD i Dm):=by simp[Gs,Bv hi]
 have q:∀m,m<5->w.cell? ⟨b,off+i*5+m,O⟩=(D4 (l.getD i Dm))[m]?:=by
  exact mZ
 exact⟨q 0 Z,q 1 Z,q 2 Z,q 3 Z,q 4 Z⟩
def Zk(a b s l:Int):Int:=if(N a 1 1000&&N b 1 1000&&N s 1 65536&&N l 0 1048576)=AL then 0 else 2
def b2L(a b s l:Int)(w:V):AZ AO 155 #[M G a,M G b,M G s,M G l] w λx w'=>x=Ac (M G (Zk a b s l))/\w'=w:=by
 unfold Zk;cases c:N a 1 1000 with
 |false=>
  exact ZS
 |true=>
  cases d:N b 1 1000 with
  |false=>
   exact ZS
  |true=>
   cases f:N s 1 65536 with
   |false=>
    exact ZS
   |true=>
    cases g:N l 0 1048576 with
    |false=>
     exact ZS
    |true=>
     exact ZS
def fA(a:Aw):Nat->Int
 |0=>a.BX
 |1=>a.C4
 |2=>a.CF
 |_=>a.load
theorem Qv(h:x=y):Dv x y=0:=by unfold Dv;rw[Af D,Af D]
theorem iw(h:x≠y):Dv x y≠0:=by
 unfold Dv;split
 .decide
 rw[Aj D];decide
def b3n{a b:Aw}{k:Nat}(hk:k<4)(h:∀q,q<k->fA a q=fA b q)(hn:fA a k≠fA b k):Gm a b=Dv (fA a k) (fA b k):=by
 unfold Gm JR;rcases(show k=0\/k=1\/k=2\/k=3 by omega) with rfl|rfl|rfl|rfl
 .exact Aj (iw hn)
 .rw[@Qv a.BX b.BX (h 0 Z),Af Z];exact Aj (iw hn)
 .rw[@Qv a.BX b.BX (h 0 Z),@Qv a.C4 b.C4 (h 1 Z),Af Z,Af Z];exact Aj (iw hn)
 rw[@Qv a.BX b.BX (h 0 Z),@Qv a.C4 b.C4 (h 1 Z),@Qv a.CF b.CF (h 2 Z)];rfl
def b3g{a b:Aw}(h:∀q,q<4->fA a q=fA b q):Gm a b=0:=by
 unfold Gm JR;rw[@Qv a.BX b.BX (h 0 Z),@Qv a.C4 b.C4 (h 1 Z),@Qv a.CF b.CF (h 2 Z),@Qv a.load b.load (h 3 Z)];rfl
def FU(B:Nat)(a b:Aw):Nat->AN
 |0=> Ap (Q ⟨B,0,O⟩)
 |1=> M G (fA a 0)
 |2=> Ap (Q ⟨B,1,O⟩)
 |3=> M G (fA a 1)
 |4=> Ap (Q ⟨B,2,O⟩)
 |5=> M G (fA a 2)
 |6=> Ap (Q ⟨B,3,O⟩)
 |7=> M G (fA a 3)
 |9=> Ap (Q ⟨B+1,0,O⟩)
 |10=> M G (fA b 0)
 |11=> Ap (Q ⟨B+1,1,O⟩)
 |12=> M G (fA b 1)
 |13=> Ap (Q ⟨B+1,2,O⟩)
 |14=> M G (fA b 2)
 |15=> Ap (Q ⟨B+1,3,O⟩)
 |16=> M G (fA b 3)
 |_=>Ba
def lM(a:Aw)(v:AN)(w:V):Prop:=∃g,v=AK (Q ⟨g,0,O⟩) 4 4/\Az w g 3 [M G (fA a 0),M G (fA a 1),M G (fA a 2),M G (fA a 3)]
def NP(B:Nat)(a b:Aw):Nat->AN->V->Prop
 |8,v,w=>lM a v w
 |17,v,w=>lM b v w
 |18,v,w=>lM a v w
 |i,v,_=>v=FU B a b i
theorem b1Z{B:Nat}{a b:Aw}{v:AN}{w w':V}(h:NP B a b i v w)(hx:Ext w w'):NP B a b i v w':=by
 unfold NP at *;split at h<;>first|exact h|(obtain⟨g,e,c⟩:=h;exact⟨g,e,c.ext hx⟩)
def a1J(a b:Aw)(w:V):AZ AO 232 #[AW (D4 a).toArray,AW (D4 b).toArray] w λe w'=>e=Ac (M G (Gm a b))/\Ext w w':=by
 have⟨B,C⟩:=Lc w.1.size;have⟨W0,n⟩:=AP ((w.alloc (.cells (D4 a).toArray 52)).alloc (.cells (D4 b).toArray 52));have t:=A (show Ext w W0 by rw[<-n];exact((Ad _ _).alloc (AS _) _).alloc AV _);have j:=A (λW (h:Ext W0 W)=>(show Az W B 52 (D4 a)/\Az W (B+1) 52 (D4 b) from by
  rw[C];refine⟨Az.ext (by rw[<-n];exact(Az.new w _ _).ext ((Ad _ _).alloc (AS _) _)) h,Az.ext ?_ h⟩;have:=Az.new (w.alloc (.cells (D4 a).toArray 52)) 52 (D4 b);rw[D5] at this;rw[<-n];exact this))
 have HW:=A n;clear n;go_enter func232,ntmps232;go_upto_region 1 with(fail)
 rw[HW.o,<-C];clear C;refine Fz U (al 19
  (λw'=>Ext W0 w') (λi v w=>NP B a b i v w) (λ_=>AM) U (λ_ _ h k=>h.tr k) (λ_ _ _ _ h k=>b1Z h k) (λ_ _ _ _ h=>Aq) ?step ?tail _ (Ext.dr _))
 case step=>
  intro i vs w' hi g f;rcases(show i=0\/i=1\/i=2\/i=3\/i=4\/i=5\/i=6\/i=7\/i=8\/i=9\/i=10\/i=11\/i=12\/i=13\/i=14\/i=15\/i=16\/i=17\/i=18 by omega) with rfl|rfl|rfl|rfl|rfl|rfl|rfl|rfl|rfl|rfl|rfl|rfl|rfl|rfl|rfl|rfl|rfl|rfl|rfl<;>clear hi<;>refine DC rfl (λK c=> ?_)
  .go_simp;exact c _ _ ⟨FU B a b 0,F,Ext.B9 _,F,λh=>Aq⟩
  .have m:=(j _ g).1.cell 0;have o:=f 0 Z U;simp only[NP,FU] at o;go_simp;exact c _ _ ⟨FU B a b 1,by simp[o,FU,fA],Ext.B9 _,rfl,λh=>Aq⟩
  .go_simp;exact c _ _ ⟨FU B a b 2,F,Ext.B9 _,F,λh=>Aq⟩
  .have m:=(j _ g).1.cell 1;have d2:=f 2 Z U;simp only[NP,FU] at d2;go_simp;exact c _ _ ⟨FU B a b 3,by simp[d2,FU,fA],Ext.B9 _,rfl,λh=>Aq⟩
  .go_simp;exact c _ _ ⟨FU B a b 4,F,Ext.B9 _,F,λh=>Aq⟩
  .have m:=(j _ g).1.cell 2;have Y:=f 4 Z U;simp only[NP,FU] at Y;go_simp;exact c _ _ ⟨FU B a b 5,by simp[Y,FU,fA],Ext.B9 _,rfl,λh=>Aq⟩
  .go_simp;exact c _ _ ⟨FU B a b 6,F,Ext.B9 _,F,λh=>Aq⟩
  .have m:=(j _ g).1.cell 3;have d6:=f 6 Z U;simp only[NP,FU] at d6;go_simp;exact c _ _ ⟨FU B a b 7,by simp[d6,FU,fA],Ext.B9 _,rfl,λh=>Aq⟩
  .have d1:=f 1 Z U;have X:=f 3 Z U;have d5:=f 5 Z U;have d7:=f 7 Z U;simp only[NP,FU] at d1 X d5 d7;go_simp;exact c _ _ ⟨AK (Q ⟨w'.1.size,0,O⟩) 4 4,by simp[d1,X,d5,d7],(Ad _ _).alloc (AS _) _,⟨_,rfl,Az.new _ _ _⟩,λh=>Aq⟩
  .go_simp;exact c _ _ ⟨FU B a b 9,F,Ext.B9 _,F,λh=>Aq⟩
  .have m:=(j _ g).2.cell 0;have d9:=f 9 Z U;simp only[NP,FU] at d9;go_simp;exact c _ _ ⟨FU B a b 10,by simp[d9,FU,fA],Ext.B9 _,rfl,λh=>Aq⟩
  .go_simp;exact c _ _ ⟨FU B a b 11,F,Ext.B9 _,F,λh=>Aq⟩
  .have m:=(j _ g).2.cell 1;have L:=f 11 Z U;simp only[NP,FU] at L;go_simp;exact c _ _ ⟨FU B a b 12,by simp[L,FU,fA],Ext.B9 _,rfl,λh=>Aq⟩
  .go_simp;exact c _ _ ⟨FU B a b 13,F,Ext.B9 _,F,λh=>Aq⟩
  .have m:=(j _ g).2.cell 2;have P:=f 13 Z U;simp only[NP,FU] at P;go_simp;exact c _ _ ⟨FU B a b 14,by simp[P,FU,fA],Ext.B9 _,rfl,λh=>Aq⟩
  .go_simp;exact c _ _ ⟨FU B a b 15,F,Ext.B9 _,F,λh=>Aq⟩
  .have m:=(j _ g).2.cell 3;have S:=f 15 Z U;simp only[NP,FU] at S;go_simp;exact c _ _ ⟨FU B a b 16,by simp[S,FU,fA],Ext.B9 _,rfl,λh=>Aq⟩
  .have d10:=f 10 Z U;have N:=f 12 Z U;have R:=f 14 Z U;have T:=f 16 Z U;simp only[NP,FU] at d10 N R T;go_simp;exact c _ _ ⟨AK (Q ⟨w'.1.size,0,O⟩) 4 4,by simp[d10,N,R,T],(Ad _ _).alloc (AS _) _,⟨_,rfl,Az.new _ _ _⟩,λh=>Aq⟩
  have d8:=f 8 Z U;go_simp;exact c _ _ ⟨vs 8,AV,Ext.B9 _,d8,λh=>Aq⟩
 case tail=>
  intro vs w' g E _;have⟨d,e5,ra⟩:=E 18 Z;have⟨gb,e6,rb⟩:=E 17 Z;have aa:=A ra;have ab:=A rb;have u:=A g;clear E g ra rb;simp only[e5,e6,FV,FY];go_wp2_with fail
  go_loopw [7] (λi wr=>∃k:Nat,i=M G (k:Int)/\k<=4/\(∀q,q<k->fA a q=fA b q)/\Ext w' wr) (λi _=>((4:Int)-B8 i).toNat)
  case atStart=>exact⟨0,F,Z,λq h=>D,Ext.B9 _⟩
  obtain⟨k,rfl,hk,s,r⟩:=hrel;have l:=A r;have HQ:=A s;by_cases ac:k<4
  .have e4:(k:Int)<4:=D;have I:∀W,Ext w' W->W.cell? ⟨d,k,O⟩=Q (M G (fA a k)):=λW h=>((aa.ext h).cell k).trans (by rcases(show k=0\/k=1\/k=2\/k=3 by omega) with rfl|rfl|rfl|rfl<;>rfl)
   have J:∀W,Ext w' W->W.cell? ⟨gb,k,O⟩=Q (M G (fA b k)):=λW h=>((ab.ext h).cell k).trans (by rcases(show k=0\/k=1\/k=2\/k=3 by omega) with rfl|rfl|rfl|rfl<;>rfl)
   have c0:=I _ r;have o:=J _ r;have z:=A (λh=>b3n ac s (h:fA a k≠fA b k));have H:=A (λ(h:fA a k=fA b k) q (ad:q<k+1)=>(if e:q<k then s q e else by rw[show q=k by omega];exact h:fA a q=fA b q));have⟨x,hx⟩:=AP (fA a k);have⟨y,hy⟩:=AP (fA b k);rw[hx,hy] at z H;rw[hx] at c0;rw[hy] at o;clear r s I J hx hy;rcases Int.lt_trichotomy x y with h|h|h
   .have t1:AQ (x<y)=AL:=CP h;go_wp2_with fail
    go_quiet (fail)
    go_wp2;go_ret;exact⟨by rw[z.o D];unfold Dv;rw[Aj h];rfl,t.tr (u.tr (below_drewN l _))⟩
   .have t1:AQ (x<y)=AM:=Bw D;have t2:AQ (x>y)=AM:=Bw D;go_wp2_with fail
    go_quiet (fail)
    go_wp2_with fail
    go_quiet (fail)
    go_wp2;exact⟨⟨k+1,by go_num,D,H h,below_drewN l _⟩,Bm⟩
   have t1:AQ (x<y)=AM:=Bw D;have t2:AQ (x>y)=AL:=CP h;go_wp2_with fail
   go_quiet (fail)
   go_wp2_with fail
   go_quiet (fail)
   go_wp2;go_ret;exact⟨by rw[z.o D];unfold Dv;rw[Af D,Aj h];rfl,t.tr (u.tr (by first|exact below_drewN l _|exact below_drewN (below_drewN l _) _))⟩
  obtain rfl:k=4:=D;go_wp2;go_ret;exact⟨by rw[b3g HQ.o];rfl,t.tr (u.tr l)⟩
def Mb(r:List Sd):Prop:=∀i,i<ln r->Dn (BA r i)=AL
theorem Xo{r:List Sd}(h:Mb r)(hi:i<ln r):0<=(BA r i).x/\(BA r i).x<=65536/\0<=(BA r i).y/\(BA r i).y<=65536:=by
 have:=h i hi;unfold Dn N at this
 grind
theorem b1c{r:List Sd}(hi:i<ln r):Bl r ((i+ln r-1)%ln r)=BA r i:=by
 rw[Rn];rcases TI i with rfl|h
 .rw[IU,Ud (by omega:ln r-1<ln r),show ln r-1+1=ln r by omega,Nat.mod_self]
 rw[show i+ln r-1=(i-1)+ln r by omega,Nat.add_mod_right,Ud (by omega:i-1<ln r),show i-1+1=i by omega,Ud hi]
theorem qE(h1:0<=a)(h2:a<=65536)(c:0<=b)(d:b<=65536):G.wrap (a-b)=a-b:=DF _ D
theorem dC{r:List Sd}(h:Mb r)(hi:i<ln r):MU r i=GO (Ko r i):=by
 unfold MU Ko;have h1:=Xo h hi;have h2:=Xo h (Nat.mod_lt (i+1) (D:ln r>0));rw[Rn,qE D D D D]
theorem dZ{r:List Sd}(h:Mb r)(hi:i<ln r):MT r i=GO (N7 r i):=by
 unfold MT N7;have h1:=Xo h hi;have h2:=Xo h (Nat.mod_lt (i+1) (D:ln r>0));rw[Rn,qE D D D D]
theorem Vp{r:List Sd}(hi:i<ln r):Ko r ((i+ln r-1)%ln r)=Pg r i/\N7 r ((i+ln r-1)%ln r)=RR r i:=by
 grind [Ko,N7,Pg,RR,b1c,gN]
theorem P3(n:Int):(GO n=0↔n=0)/\(GO n=1↔0<n)/\(GO n= -1↔n<0):=by grind [GO]
def PD(n:Int):(GO n=0/\n=0)\/(GO n=1/\0<n)\/(GO n= -1/\n<0):=by grind [GO]
theorem gS{r:List Sd}(h:Mb r)(hi:i<ln r):OO r i=GO (Pg r i)*GO (N7 r i)-GO (RR r i)*GO (Ko r i):=by
 have e:=Hh (i+ln r-1) (by omega:ln r>0);unfold OO;rw[dC h e,dZ h e,dC h hi,dZ h hi,(Vp hi).1,(Vp hi).2];rcases PD _ with⟨a,_⟩|⟨a,_⟩|⟨a,_⟩<;>rcases PD _ with⟨b,_⟩|⟨b,_⟩|⟨b,_⟩<;>rcases PD _ with⟨c,_⟩|⟨c,_⟩|⟨c,_⟩<;>rcases PD _ with⟨d,_⟩|⟨d,_⟩|⟨d,_⟩<;>rw[a,b,c,d]<;>decide+kernel
theorem qH{r:List Sd}(h:Mb r)(hi:i<ln r)(a:OK r i=AM):(GO (Ko r i)*GO (Ko r i)+GO (N7 r i)*GO (N7 r i)=1)/\OO r i≠0:=by
 grind [OK,dC,dZ]
theorem Vq{r:List Sd}(h:Mb r)(hi:i<ln r)(l:∀j,j<ln r->OK r j=AM):(Ko r i=0/\N7 r i≠0/\Pg r i≠0/\RR r i=0)\/(Ko r i≠0/\N7 r i=0/\Pg r i=0/\RR r i≠0):=by
 have m:=Hh (i+ln r-1) (by omega:ln r>0);have⟨h1,h2⟩:=qH h hi (l i hi);have⟨k,_⟩:=qH h m (l _ m);rw[(Vp hi).1,(Vp hi).2] at k;rw[gS h hi] at h2;rcases PD _ with⟨a,a'⟩|⟨a,a'⟩|⟨a,a'⟩<;>rcases PD _ with⟨b,e⟩|⟨b,e⟩|⟨b,e⟩<;>rcases PD _ with⟨c,f⟩|⟨c,f⟩|⟨c,f⟩<;>rcases PD _ with⟨d,g⟩|⟨d,g⟩|⟨d,g⟩<;>rw[c,d] at h1<;>rw[a,b] at k<;>rw[a,b] at h2<;>omega
def oE{r:List Sd}(h:Mb r)(a:Jb r=AL):Gt r=AL/\∀j,j<ln r->OK r j=AM:=by
 unfold Jb at a;rw[Ez,S9] at a;have b:=bH a.1;unfold Gt;rw[Hy];all_goals grind [P8,Vq]
theorem b0m{r:List Sd}(h:Mb r)(e:∀j,j<ln r->OK r j=AM)(hi:i<ln r):aB r i= !AQ (OO r i<0):=by
 unfold aB;rw[gS h hi];rcases Vq h hi e with⟨a,b,c,d⟩|⟨a,b,c,d⟩
 .rw[a,d];rcases eP c with c|c<;>rcases eP b with b|b
  .grind [P3,Int.mul_pos_of_neg_of_neg]
  .rw[(P3 _).2.2.2 c,(P3 _).2.1.2 b,Bw (by have:=b5t c b;omega)];rfl
  .rw[(P3 _).2.1.2 c,(P3 _).2.2.2 b,Bw (by have:=b5u c b;omega)];rfl
  grind [P3,Int.mul_pos]
 rw[b,c];rcases eP d with d|d<;>rcases eP a with a|a
 .rw[(P3 _).2.2.2 d,(P3 _).2.2.2 a,Bw (by have:=b5s d a;omega)];rfl
 .grind [P3,Int.mul_neg_of_neg_of_pos]
 .grind [P3,Int.mul_neg_of_pos_of_neg]
 rw[(P3 _).2.1.2 d,(P3 _).2.1.2 a,Bw (by have:=Int.mul_pos d a;omega)];rfl
theorem b3h{r:List Sd}(h:Mb r)(a:∀j,j<ln r->OK r j=AM)(hi:i<ln r):PM r i=OL r i:=by
 unfold PM OL;rw[b0m h a hi]
 grind
def b3T{r:List Sd}(h:Mb r)(hn:ln r<=24):∀k,k<=ln r->Li r k=Nd (λi=>(BA r i).x*(Bl r i).y-(BA r i).y*(Bl r i).x) k/\ -(8589934592*(k:Int))<=Li r k/\Li r k<=8589934592*(k:Int):=by
 intro k hk
 induction k with
 |zero=>exact⟨F,by simp[Li],by simp[Li]⟩
 |succ k a=>
  have⟨e,b,c⟩:=a D;have h1:=Xo h (show k<ln r by omega);have h2:=Xo h (Hh (k+1) D);have f:=Int.mul_nonneg h1.1 h2.2.2.1;have g:=Int.mul_le_mul h1.2.1 h2.2.2.2 h2.2.2.1 Z;have j:=Int.mul_nonneg h2.1 h1.2.2.1;have l:=Int.mul_le_mul h2.2.1 h1.2.2.2 h1.2.2.1 Z;have d:(BA r k).y*(Bl r k).x=(Bl r k).x*(BA r k).y:=Al;rw[Li,Nd]
  grind [BA,Bl,wrap64]
def sV{r:List Sd}(h:Mb r)(hn:ln r<=24):Li r (ln r)=Q0 r:=(b3T h hn _ (AS _)).1
def b0o(r:List Sd)(x y:Int)(k:Nat):Qr r x y k=Oz r x y k:=by
 unfold Qr Oz Ko
 grind
def a6J(r:List Sd)(x y:Int):MO (Qr r x y) (ln r)=Rr r x y:=a3g λi _=>b0o r x y i
structure Fit(rs:List (List Sd)):Prop where
 pos:0<ln rs
 len:∀k,(rs.getD k []).length<=24
 rg:∀k,k<ln rs->Mb (rs.getD k [])
 sh:∀k,k<ln rs->∀j,j<(rs.getD k []).length->OK (rs.getD k []) j=AM
def lexB(a b:Nat×Nat×Gd):Prop:=a.1<b.1\/a.1=b.1/\a.2.1<b.2.1
def rF(rs:List (List Sd))(N:Nat):(∀x∈IZ rs N,x.1<N/\x.2.1<(rs.getD x.1 []).length/\x.2.2=Ia (rs.getD x.1 []) x.2.1)/\List.Pairwise lexB (IZ rs N):=by
 induction N with
 |zero=>grind [IZ,List.Pairwise.nil]
 |succ N c=>
  have f:∀x∈LH N (rs.getD N []) (rs.getD N []).length,x.1=N/\x.2.1<(rs.getD N []).length/\x.2.2=Ia (rs.getD N []) x.2.1:=by
   grind [LH]
  rw[IZ];refine⟨λx hx=> ?_,?_⟩
  .grind
  rw[List.pairwise_append];refine⟨c.2,?_,λa d b e=> .inl ?_⟩
  .unfold LH;rw[List.pairwise_map];exact List.pairwise_lt_range.imp λh=> .inr ⟨rfl,h⟩
  grind
def a3d(a b:Gd):Jq a b=Jq b a:=by
 unfold Jq
 grind
theorem uX{rs:List (List Sd)}{a b:Nat×Nat×Gd}(c:a.2.1<(rs.getD a.1 []).length/\a.2.2=Ia (rs.getD a.1 []) a.2.1)(e:b.2.2=Ia (rs.getD b.1 []) b.2.1)(d:lexB b a):Pf rs a b=OM rs b.1 b.2.1 a.1 a.2.1:=by
 unfold Pf OM;rw[c.2,a3d]
 congr 2
 rcases d with h|⟨h,h2⟩
 .grind
 grind
theorem a44{rs:List (List Sd)}(h:T5 rs=AM):OF rs=AM:=by
 have n:∀k m q u,k<ln rs->m<(rs.getD k []).length->k<=q->q<ln rs->u<(rs.getD q []).length->OM rs k m q u=AM:=by
  grind [T5]
 obtain⟨d,o⟩:=rF rs _;refine Hy λi hi=>Hy λk hk=> ?_
 have a:k<(IZ rs (ln rs)).length:=D;have c:=(mB.1 o) k i a hi hk;rw[CM,CM,Bv hi,Bv a];simp[Um];obtain⟨e,b,f⟩:=d _ (Ey hi);obtain⟨g,j,l⟩:=d _ (Ey a);rw[uX ⟨b,f⟩ l c];exact n _ _ _ _ g j (by rcases c with h|⟨h,_⟩<;>omega) e b
theorem lO(h:((a==0)==(b==0))=AM):¬(a=0↔b=0):=by
 grind
def o9{r:List Sd}(h:Mb r):Jb r=Gt r:=by
 rw[JM];refine⟨λe=>(oE h e).1,λe=> ?_⟩;unfold Gt at e;rw[Ez,S9] at e;have f:=bH e.2;unfold Jb;rw[e.1,Hy]
 .rfl
 intro i hi;have l:=Hh (i+ln r-1) (by omega:ln r>0);have a:=f i hi;have b:=f _ l;unfold P8 at a b;rw[(Vp hi).1,(Vp hi).2] at b;rw[QC] at a b;have m:=lO a.1;have n:=lO a.2;have o:=lO b.1;unfold OK;rw[dC h hi,dZ h hi,gS h hi];clear a b f e;rcases PD (Pg r i) with⟨a,a'⟩|⟨a,a'⟩|⟨a,a'⟩<;>rcases PD (RR r i) with⟨b,g⟩|⟨b,g⟩|⟨b,g⟩<;>rcases PD (Ko r i) with⟨c,j⟩|⟨c,j⟩|⟨c,j⟩<;>rcases PD (N7 r i) with⟨d,k⟩|⟨d,k⟩|⟨d,k⟩<;>first|grind
def px{rs:List (List Sd)}{N k m:Nat}(hk:k<N)(hm:m<(rs.getD k []).length):(k,m,Ia (rs.getD k []) m)∈IZ rs N:=by
 induction N with
 |zero=>omega
 |succ N a=>
  rw[IZ,QF];by_cases e:k=N
  .subst e;exact .inr (Jg.2 ⟨m,yP.2 hm,F⟩)
  grind
open Classical in
def a3z(rs:List (List Sd)):T5 rs=OF rs:=by
 cases h:T5 rs with
 |false=>grind [a44]
 |true=>
  have h:=Jh h;obtain⟨k,m,q,u,h1,h2,o,b,c,d⟩:=h;obtain⟨s,g⟩:=rF rs _;obtain⟨i,hi,l⟩:=JJ.1 (px h1 h2);obtain⟨j,f,n⟩:=JJ.1 (px b c);have r:lexB (k,m,Ia (rs.getD k []) m) (q,u,Ia (rs.getD q []) u):=by
   unfold lexB;by_cases e:k=q
   .unfold OM at d
    grind
   grind
  have p:i<j:=by
   rcases eR i j with a|a|a
   .exact a
   .grind [lexB]
   have:=mB.1 g j i f hi a
   grind [lexB]
  grind [OF,J5,uX]
def b4w{r:List Sd}(h:Mb r)(f:∀j,j<ln r->OK r j=AM)(m:ln r=4):Q0 r≠0:=by
 have g:=Vq h (i:=0) D f;have w1:=Vq h (i:=1) D f;have w2:=Vq h (i:=2) D f;have l:=Vq h (i:=3) D f
 match r,m with
 |[p,q,s,t],_=>
  simp only[Ko,N7,Pg,RR,BA,FK,Bl,FX,Jy] at g w1 w2 l;simp only[Q0,Nd,BA,Bl,FX,Jy];simp at g w1 w2 l⊢;have key:∀a b c d:Int,a≠b->c≠d->a*c-a*d-b*c+b*d≠0:=by
   intro a b c d h1 h2 e;have:=Int.mul_eq_zero.1 (show(a-b)*(c-d)=0 by grind);omega
  rcases g with⟨a,b,c,d⟩|⟨a,b,c,d⟩
  .have k:=key p.x s.x q.y p.y D D
   grind
  have k:=key p.x q.x p.y s.y D D
  grind
theorem a8h{rs:List (List Sd)}(hi:i<ln rs)(a:i≠0):(rs.getD 0 []).length+(rs.getD i []).length<=ln rs.flatten:=by
 cases rs with
 |nil=>grind
 |cons r t=>
  obtain⟨i,rfl⟩:∃k,i=k+1:=⟨i-1,D⟩;have:=(WZ (YS (rs:=t) (k:=i) Al)).length_le
  grind
def a6i{rs:List (List Sd)}(h:Fit rs)(f:∀k,k<ln rs->4<=(rs.getD k []).length)(g:ln rs.flatten<=8):Te rs=Na rs:=by
 have d:∀i,i<ln rs->Ts rs i=if i=0 then !AQ (0<Li (rs.getD 0 []) (rs.getD 0 []).length) else PE rs i:=by
  intro i hi;unfold Ts;rw[<-sV (h.rg i hi) (h.len i)];by_cases e:i=0
  .subst e;rw[Hy (λk _=>AV)]
   grind
  rw[Af e];have j:=a8h hi e;have a:=b4w (h.rg i hi) (h.sh i hi) Al;rw[<-sV (h.rg i hi) (h.len i)] at a;unfold PE;rw[CK.2 e,CP (by omega:1<=i)]
  congr 1
  .grind
  refine jr λk hk=> ?_
  unfold Rt;rw[a6J,Bool.or_false]
 unfold Te Na;rw[JM];simp[Ez,S9];constructor
 .grind [Hy,bH]
 intro b;have c:=bH b;refine⟨?_,Hy λi hi=> ?_⟩
 .have:=c 0 h.pos;rw[d 0 h.pos] at this
  grind
 by_cases e:i=0
 .grind [sM]
 grind
def a6p{rs:List (List Sd)}(h:Fit rs):Rx rs=Ot rs:=by
 unfold Rx Ot
 congr 2
 exact jr λk hk=>(jr λi hi=>b3h (h.rg k hk) (h.sh k hk) hi).symm
def sE{rs:List (List Sd)}(g:ln rs.flatten<=8\/24<ln rs.flatten):Lh rs=Fe rs:=by
 unfold Lh Fe;by_cases c1:(rs.any (·.isEmpty)||rs.isEmpty)=AL
 .grind
 rw[Af c1,Af c1];by_cases c2:24<ln rs.flatten
 .grind
 rw[Af c2,Af c2];by_cases c3:(rs.flatten.any λs=> !Dn s)=AL
 .grind
 rw[Af c3,Af c3];have f:0<ln rs:=by
  grind
 rw[Wm] at c3;have b:∀k,k<ln rs->Mb (rs.getD k []):=by
  intro k hk i hi
  grind [List.any_eq_false,List.mem_flatten,YS,sG]
 have e:∀r,r∈rs->∃k,k<ln rs/\rs.getD k []=r:=by
  intro r a;obtain⟨k,hk,rfl⟩:=JJ.1 a
  grind
 have d:(rs.any λr=> !Jb r)=(rs.any λr=> !Gt r):=by
  rw[JM];simp only[QD];constructor <;>rintro⟨r,a,j⟩<;>refine⟨r,a,?_⟩<;>obtain⟨k,hk,rfl⟩:=e r a
  .rwa[<-o9 (b k hk)]
  rwa[o9 (b k hk)]
 rw[d];by_cases c4:(rs.any λr=> !Gt r)=AL
 .grind
 rw[Af c4,Af c4,a3z];rw[Wm] at c4;have l:∀k,k<ln rs->Gt (rs.getD k [])=AL:=by
  grind
 have c:Fit rs:=⟨f,λk=>by
  by_cases hk:k<ln rs
  .exact BJ (WZ (YS hk)).length_le D
  grind,b,λk hk=>(oE (b k hk) Al).2⟩
 rw[a6i c (λk hk=>by grind [Gt]) D,a6p c]
theorem dM(h:p:=by
  go_enter func157,ntmps157;go_wp2;go_ret;exact⟨by rw[d.o]<;>rfl,j⟩):p:=h
def a2l(a b:Aw)(w:V):AZ AO 157 #[AW (D4 a).toArray,AW (D4 b).toArray] w λx w'=>x=Ac (AU (AQ (MP a b<0)))/\Ext w w':=by
 have j:=A (GB w (.cells (D4 a).toArray 52) (.cells (D4 b).toArray 52));have g:=((Az.new w 52 (D4 a)).ext ((Ad _ _).alloc (AS _) (.cells (D4 b).toArray 52)));have f:=Az.new (w.alloc (.cells (D4 a).toArray 52)) 52 (D4 b);rw[D5] at f;have n:=λi=>g.cell i
 have o:=λi=>f.cell i
 have⟨v,c⟩:=AP (AQ (MP a b<0));rw[c];unfold MP JR at c;clear g f;by_cases h1:a.BX=b.BX
 case neg=>
  have k:(a.BX !=b.BX)=AL:=Cd.2 h1;have d:=A (show v=AQ (a.BX<b.BX) by rw[<-c,Aj D];exact R7.2 D);clear c h1;exact dM
 have k:(a.BX !=b.BX)=AM:=by simpa using h1
 rw[Af D] at c;by_cases h2:a.C4=b.C4
 case neg=>
  have l:(a.C4 !=b.C4)=AL:=Cd.2 h2;have d:=A (show v=AQ (a.C4<b.C4) by rw[<-c,Aj D];exact R7.2 D);clear c h1 h2;exact dM
 have l:(a.C4 !=b.C4)=AM:=by simpa using h2
 rw[Af D] at c;by_cases e:a.CF=b.CF
 case neg=>
  have m:(a.CF !=b.CF)=AL:=Cd.2 e;have d:=A (show v=AQ (a.CF<b.CF) by rw[<-c,Aj D];exact R7.2 D);clear c h1 h2 e;exact dM
 have m:(a.CF !=b.CF)=AM:=by simpa using e
 rw[Af D] at c;have d:=A (show v=AQ (a.load<b.load) by rw[<-c];exact R7.2 D);clear c h1 h2 e;exact dM
def a8x(l:List Aw)(k:Nat):Lf l k=(if !Ro (l.getD k Dm) then 2 else if AQ (0<k)&& !AQ (MP (l.getD (k-1) Dm) (l.getD k Dm)<0) then 10 else 0):=by
 unfold Lf;have a:(0<k/\0<=MP (l.getD (k-1) Dm) (l.getD k Dm))↔(AQ (0<k)&& !AQ (MP (l.getD (k-1) Dm) (l.getD k Dm)<0))=AL:=by
  simp only[Ez,Cx,S9,CX];omega
 simp only[a]
def a3o(w:V)(u:Option An)(C:Nat)(l:List Aw)(U:BB 5 w w.1.size u C (Em l)):
  AZ AO 87 #[AK u (ln l) C] w λx w'=>x=Ac (M G (Ip l))/\Ext w w':=by
 have h1:=U.1;have h2:=U.2.1;rw[BL] at h1;unfold BM at h2;have HL:=A (λ(W:V) (hx:Ext w W)=>((U.below hx).more hx.size:BB 5 W W.1.size u C (Em l)));clear U;have⟨v,a⟩:=AP (Ip l);rw[a];have B:v=(if 4096<ln l then 4 else EI (Lf l) (ln l)):=a.symm;clear a;by_cases T:4096<ln l
 case pos=>
  have t5:AQ ((ln l:Int)>4096)=AL:=CP D;rw[Aj T] at B;subst B;clear T;go_enter func87,ntmps87;go_wp2;go_ret;exact⟨F,Ad _ _⟩
 have t5:AQ ((ln l:Int)>4096)=AM:=Bw D;rw[Af T] at B;have R:=A B;clear T B;go_enter func87,ntmps87;go_wp2;go_loopw [3] (λi wr=>∃k:Nat,i=M G (k:Int)/\k<=ln l/\Ext w wr/\∀j,j<k->Lf l j=0) (λi _=>((ln l:Int)-B8 i).toNat)
 case atStart=>exact⟨0,F,D,Ad _ _,λj h=>D⟩
 obtain⟨k,rfl,hk,hX,ae⟩:=hrel;have d:=A hX;have s:=A ae;clear ae;by_cases aj:k<ln l
 .obtain⟨b,off,rfl,hb,hc⟩:=a7p (HL _ hX) D;have⟨Y,y1,y2,y3,y4⟩:=hc k aj;have HC:=A hc;have c:=A hb;have HF:=A (λ(z:Int) (h:Lf l k=z) (hz:z≠0)=>show v=z by rw[R.o,<-h];exact Im aj s (by rw[h];exact hz));have ad:=A (λh:Lf l k=0=>Jt (P:=λj=>Lf l j=0) s h);have e:=a8x l k;have⟨x,hx⟩:=AP (l.getD k Dm);rw[hx] at Y y1 y2 y3 y4 e;obtain⟨o,g,n,m,r⟩:=x;dsimp only at Y y1 y2 y3 y4;have S:=A (λW=>b2L o g n m W);have X:Ro ⟨o,g,n,m,r⟩=((N o 1 1000&&N g 1 1000&&N n 1 65536&&N m 0 1048576)&&N r 1 65536):=rfl;have⟨p,hp⟩:=AP (N r 1 65536);have KO:=A (λW=>ux r 1 65536 W);simp only[hp] at KO;rw[hp] at X;have⟨cc,aa⟩:=AP (N o 1 1000&&N g 1 1000&&N n 1 65536&&N m 0 1048576);have af:Zk o g n m=(if cc=AL then 0 else 2):=by unfold Zk;rw[aa]
  simp only[af] at S;rw[aa] at X;rw[X] at e;clear hX hc hb hx af hp aa X;cases cc
  case false=>
   have a:=HF 2 (e.trans F) Z;subst a;clear e;go_wp2_with fail
   go_quiet ((go_at_call 155;exact OW (S _)))
   go_wp2;go_ret;exact⟨F,below_drewN d _⟩
  cases p
  case false=>
   have a:=HF 2 (e.trans F) Z;subst a;clear e;go_wp2_with fail
   go_quiet ((first|(go_at_call 155;exact OW (S _))|(go_at_call 156;exact OW (KO _))))
   go_wp2;go_ret;exact⟨F,below_drewN d _⟩
  have f:Lf l k=(if AQ (0<k)&& !AQ (MP (l.getD (k-1) Dm) ⟨o,g,n,m,r⟩<0) then 10 else 0):=e;have ab:=A f;clear e f;go_wp2_with fail
  go_quiet ((first|(go_at_call 155;exact OW (S _))|(go_at_call 156;exact OW (KO _))))
  by_cases ag:k=0
  .subst ag;have HO:=A (ad ab);go_wp2_with fail
   go_quiet (fail)
   go_wp2;exact⟨⟨1,by go_num,D,below_drewN d _,HO⟩,Bm⟩
  have t5:AQ ((k:Int)>0)=AL:=CP D;have t6:0<k:=D;have f:=ab.o;rw[CP t6,Hu] at f;have w1:G.wrap ((k:Int)-1)=((k-1:Nat):Int):=by rw[DF _ D];omega
  have ai:k-1<ln l:=D;have⟨H,I,J,K,L⟩:=HC (k-1) ai;have⟨v',ak⟩:=AP (l.getD (k-1) Dm);rw[ak] at H I J K L f;have⟨k1,ah⟩:=AP (k-1);rw[ah] at w1 ai H I J K L;have t:=λW=>a2l v' ⟨o,g,n,m,r⟩ W
  have⟨q,hq⟩:=AP (AQ (MP v' ⟨o,g,n,m,r⟩<0));simp only[hq] at t;rw[hq] at f;clear hq;obtain⟨vw,vd,vs,vl,vp⟩:=v';dsimp only at H I J K L;have t:=A t;have ac:=A f;have a0:=λw' (h:Ext wr w')=>(h.cell (p:=⟨b,off+k*5,O⟩) c).trans Y
  have b0:=λw' (h:Ext wr w')=>(h.cell (p:=⟨b,off+k1*5,O⟩) c).trans H
  have a1:=λw' (h:Ext wr w')=>(h.cell (p:=⟨b,off+k*5+1,O⟩) c).trans y1
  have b1:=λw' (h:Ext wr w')=>(h.cell (p:=⟨b,off+k1*5+1,O⟩) c).trans I
  have a2:=λw' (h:Ext wr w')=>(h.cell (p:=⟨b,off+k*5+2,O⟩) c).trans y2
  have b2:=λw' (h:Ext wr w')=>(h.cell (p:=⟨b,off+k1*5+2,O⟩) c).trans J
  have a3:=λw' (h:Ext wr w')=>(h.cell (p:=⟨b,off+k*5+3,O⟩) c).trans y3
  have b3:=λw' (h:Ext wr w')=>(h.cell (p:=⟨b,off+k1*5+3,O⟩) c).trans K
  have a4:=λw' (h:Ext wr w')=>(h.cell (p:=⟨b,off+k*5+4,O⟩) c).trans y4
  have b4:=λw' (h:Ext wr w')=>(h.cell (p:=⟨b,off+k1*5+4,O⟩) c).trans L
  clear H I J K L Y y1 y2 y3 y4 ak ah ag f;go_wp2_with fail
  cases q
  .have a:=HF 10 ac Z;subst a
   go_region_held3(λw'=>Ext wr w') (first|exact E|exact below_drewN (below_drewN (Ad _ _) _) _|exact Ext.tr (below_drewN (Ad _ _) _) (Ext.dr _)) (first|(go_at_call 157;refine(t _).q λW3 y=>?_;have E:Ext wr W3:=Ext.tr (Ext.tr (below_drewN (Ad _ _) _) (Ext.dr _)) y;clear y))
   go_wp2;go_ret;exact⟨F,d.tr E⟩
  have HO:=A (ad ac)
  go_region_held3(λw'=>Ext wr w') (first|exact E|exact below_drewN (below_drewN (Ad _ _) _) _|exact Ext.tr (below_drewN (Ad _ _) _) (Ext.dr _)) (first|(go_at_call 157;refine(t _).q λW3 y=>?_;have E:Ext wr W3:=Ext.tr (Ext.tr (below_drewN (Ad _ _) _) (Ext.dr _)) y;clear y))
  go_wp2
  go_round
  case rel=>exact⟨k+1,by go_num,D,d.tr E,HO⟩
  simp[B8];omega
 exact a0J
def a7z(l:List Sz)(k:Nat):Lb l k=(if AQ ((l.getD k Ca).Ab<1)||AQ ((l.getD k Ca).Ab>12) then 8 else if !(N (l.getD k Ca).BX 1 1000&&N (l.getD k Ca).C4 1 1000) then 2 else if Cm (λm=>(l.getD m Ca).Ab==(l.getD k Ca).Ab) k then 7 else 0):=by
 unfold Lb N;dsimp only;have a:((l.getD k Ca).Ab<1\/13<=(l.getD k Ca).Ab)↔(AQ ((l.getD k Ca).Ab<1)||AQ ((l.getD k Ca).Ab>12))=AL:=by
  simp only[QJ,Cx];omega
 have b:(min (l.getD k Ca).BX (l.getD k Ca).C4<1\/1000<max (l.getD k Ca).BX (l.getD k Ca).C4)↔(!(AQ (1<=(l.getD k Ca).BX)&&AQ ((l.getD k Ca).BX<=1000)&&(AQ (1<=(l.getD k Ca).C4)&&AQ ((l.getD k Ca).C4<=1000))))=AL:=by
  simp only[S9,Wc,CX];omega
 simp only[a,b]
theorem dD(h:p:=by
  have d:=R.o;simp at d;have c:=T _ d Z;subst c;clear d;go_wp2_with(go_at_call 152;refine(vJ _ _).mono ?_;rintro e W1 ⟨rfl,rfl⟩)
  go_ret;exact⟨F,a⟩):p:=h
def a4Z(w:V)(u:Option An)(C:Nat)(l:List Sz)(r:BB 3 w w.1.size u C (Fq l)):
  AZ AO 83 #[AK u (ln l) C] w λx w'=>x=Ac (M G (JZ l))/\Ext w w':=by
 have h1:=r.1;have h2:=r.2.1;rw[BL] at h1;unfold BM at h2;have U:=A (λ(W:V) (hx:Ext w W)=>((r.below hx).more hx.size:BB 3 W W.1.size u C (Fq l)));clear r;have⟨v,c⟩:=AP (JZ l);rw[c];have X:=A (show EI (Lb l) (ln l)=v from c);clear c;go_enter func83,ntmps83;go_wp2;go_loopw [3] (λi wr=>∃k:Nat,i=M G (k:Int)/\k<=ln l/\Ext w wr/\∀j,j<k->Lb l j=0) (λi _=>((ln l:Int)-B8 i).toNat)
 case atStart=>exact⟨0,F,D,Ad _ _,λj h=>D⟩
 obtain⟨k,rfl,hk,E,Y⟩:=hrel;have a:=A E;have t:=A Y;clear Y;by_cases J:k<ln l
 .obtain⟨b,off,rfl,hb,hc⟩:=fY (U _ E) D;have⟨c0,c1,c2⟩:=hc k J;have T:=A (λ(z:Int) (h:Lb l k=z) (hz:z≠0)=>show v=z by rw[<-X.o,<-h];exact Im J t (by rw[h];exact hz));have ad:=A (λh:Lb l k=0=>Jt (P:=λj=>Lb l j=0) t h);have d:=a7z l k;have⟨f,o⟩:=AP ((l.getD k Ca).Ab);have⟨wd,K⟩:=AP ((l.getD k Ca).BX);have⟨dp,I⟩:=AP ((l.getD k Ca).C4);have ac:=A o;rw[o,K,I] at d;rw[o] at c0;rw[K] at c1;rw[I] at c2;have⟨p1,t1⟩:=AP (AQ (f<1));have⟨p2,t2⟩:=AP (AQ (f>12));have⟨p3,t3⟩:=AP (N wd 1 1000);have⟨p4,t4⟩:=AP (N dp 1 1000);rw[t1,t2,t3,t4] at d;have R:=A d;have ag:∀q,q=ln l->0<q:=λq h=>D
  clear E hc o K I hb d;cases p1
  case true=>exact dD
  cases p2
  case true=>exact dD
  cases p3
  .exact dD
  cases p4
  .exact dD
  have S:=A (show Lb l k=(if Cm (λm=>(l.getD m Ca).Ab==f) k then 7 else 0) from R);go_wp2_with(go_at_call 152;refine(vJ _ _).mono ?_;rintro e W1 ⟨rfl,rfl⟩)
  go_loopw [4] (λi wr=>∃m:Nat,i=M G (m:Int)/\m<=k/\Ext w wr/\∀j,j<m->((l.getD j Ca).Ab==f)=AM) (λi _=>((k:Int)-B8 i).toNat)
  case atStart=>exact⟨0,F,D,a,λj h=>D⟩
  obtain⟨m,rfl,hm,H,aa⟩:=hrel;have B:=A H;have L:=A aa;clear aa;by_cases af:m<k
  .have⟨b',off',e,hb,hc⟩:=fY (U _ H) D;injection e with e
   injection e with e1 e2
   subst e1;subst e2;have d0:=(hc m D).1;have d1:=(hc k J).1;rw[ac.o] at d1;have ah:m<ln l:=D;have n:=λh:((l.getD m Ca).Ab==f)=AL=>T 7 (show Lb l k=7 by rw[S.o,J5 af h];rfl) Z
   have s:=λh:((l.getD m Ca).Ab==f)=AM=>Jt (P:=λj=>((l.getD j Ca).Ab==f)=AM) L h
   have⟨q,hq⟩:=AP ((l.getD m Ca).Ab);rw[hq] at n s d0;have⟨p,hp⟩:=AP (q==f);rw[hp] at n s;have ab:=A n;have ae:=A s;clear H hc hb c0 c1 c2 n s hq;cases p
   .have g:=ae F;have y:=A g;clear g;go_wp2_with fail
    go_quiet (fail)
    go_wp2;exact⟨⟨m+1,by go_num,D,below_drewN B _,y⟩,Bm⟩
   have c:=ab F;subst c;go_wp2_with fail
   go_quiet (fail)
   go_wp2;go_ret;exact⟨F,below_drewN B _⟩
  obtain rfl:m=k:=D;have g:=ad (by rw[S.o,Hy L.o];rfl);have y:=A g;clear g;go_wp2;exact⟨⟨m+1,by go_num,D,B,y⟩,Bm⟩
 obtain rfl:k=ln l:=D;have c:v=0:=by rw[<-X.o];exact KH t
 subst c;exact Ta
def UU(w:V)(n:Nat)(i:AN)(wr:V):Prop:=∃k:Nat,k<=n/\i=M G (k:Int)/\Ext w wr
theorem Vo(h:p:=by
  rw[run_neq_struct,run_equalIn_agg _ _ _ _ _ U U];simp only[Program.fieldsOf,a];simp[go_sem,Result.andThen,GQ,isAgg3,underlying4,isAgg4,underlying41,isAgg41]):p:=h
def MD{w wr:V}{b o:Nat}{v:Option AN}(c:Ext w wr)(a:b<w.1.size)(h:w.cell? ⟨b,o,O⟩=v):wr.cell? ⟨b,o,O⟩=v:=(c.cell a).trans h
def Yt(f:FuncId)(t:Bb)(k:Nat):Prop:=∀(w:V) (u a:Option An) (C b:Nat) (rows:List (List AN)),BB k w w.1.size u C rows->BB k w w.1.size a b rows->DG k rows->
  (∀r∈rows,∀W,(binOp .neq t (AW r.toArray) (AW r.toArray)).run AO W= .ok (AU AM) W)->
  AZ AO f #[AK u (ln rows) C,AK a (ln rows) b] w λe w'=>e=Ac (AU AL)/\Ext w w'
theorem a6w(h:p:=by
  obtain⟨m,hm,rfl,hX⟩:=hrel;have HX:=A hX;clear hX;by_cases hlt:m<ln rows
  .obtain⟨b,off,rfl,hB,hc⟩:=H3 D;obtain⟨b',off',rfl,hB',hc'⟩:=H4 D;have⟨r,a⟩:=AP (rows.getD m []);have hmem:r∈rows:=by rw[<-a,CM,Bv hlt];exact Ey hlt
   have hlen:=HW r hmem;have hself:=HS r hmem
   try have c0:=MD HX hB (hc m hlt 0 Z)
   try have d0:=MD HX hB' (hc' m hlt 0 Z)
   try rw[a,DL] at c0 d0
   try have c1:=MD HX hB (hc m hlt 1 Z)
   try have d1:=MD HX hB' (hc' m hlt 1 Z)
   try rw[a,DL] at c1 d1
   try have c2:=MD HX hB (hc m hlt 2 Z)
   try have d2:=MD HX hB' (hc' m hlt 2 Z)
   try rw[a,DL] at c2 d2
   try have c3:=MD HX hB (hc m hlt 3 Z)
   try have d3:=MD HX hB' (hc' m hlt 3 Z)
   try rw[a,DL] at c3 d3
   try have c4:=MD HX hB (hc m hlt 4 Z)
   try have d4:=MD HX hB' (hc' m hlt 4 Z)
   try rw[a,DL] at c4 d4
   try have c5:=MD HX hB (hc m hlt 5 Z)
   try have d5:=MD HX hB' (hc' m hlt 5 Z)
   try rw[a,DL] at c5 d5
   try have c6:=MD HX hB (hc m hlt 6 Z)
   try have d6:=MD HX hB' (hc' m hlt 6 Z)
   try rw[a,DL] at c6 d6
   rw[Dh] at c0 d0;clear a hc hc' hmem;rcases r with _|⟨x0,_|⟨x1,_|⟨x2,_|⟨x3,_|⟨x4,_|⟨x5,_|⟨x6,_|⟨x7,r⟩⟩⟩⟩⟩⟩⟩⟩<;>first|(exfalso;simp only[FX,Jy] at hlen;omega)|skip
   clear hlen;have tlt:AQ ((m:Int)<(ln rows:Int))=AL:=CP D;have e3:(m:Int)<(ln rows:Int):=D;exact a0A
  have tlt:AQ ((m:Int)<(ln rows:Int))=AM:=Bw D;go_wp2;go_ret;exact⟨F,HX⟩):p:=h
def a64(b:Int)(x1:Int)(c:Int)(W:V):(binOp .neq 45 (AW #[M G b,M G x1,M G c]) (AW #[M G b,M G x1,M G c])).run AO W= .ok (AU AM) W:=by
 have a:=underlying45;exact Vo
def a60(b:Int)(x1:Int)(c:List UInt8)(W:V):(binOp .neq 50 (AW #[M G b,M G x1,AT (tx c)]) (AW #[M G b,M G x1,AT (tx c)])).run AO W= .ok (AU AM) W:=by
 have a:=underlying50;exact Vo
def a5e(b:Int)(x1:List UInt8)(c:List UInt8)(d:List UInt8)(e:List UInt8)(W:V):(binOp .neq 43 (AW #[M G b,AT (tx x1),AT (tx c),AT (tx d),AT (tx e)]) (AW #[M G b,AT (tx x1),AT (tx c),AT (tx d),AT (tx e)])).run AO W= .ok (AU AM) W:=by
 have a:=underlying43;exact Vo
def a5q(b:Int)(x1:Int)(c:Int)(d:Int)(e:Bool)(f:Int)(g:Int)(W:V):(binOp .neq 40 (AW #[M G b,M G x1,M G c,M G d,AU e,M G f,M G g]) (AW #[M G b,M G x1,M G c,M G d,AU e,M G f,M G g])).run AO W= .ok (AU AM) W:=by
 have a:=underlying40;exact Vo
def a6K(b:Int)(x1:Int)(c:Int)(d:Int)(e:Int)(W:V):(binOp .neq 52 (AW #[M G b,M G x1,M G c,M G d,M G e]) (AW #[M G b,M G x1,M G c,M G d,M G e])).run AO W= .ok (AU AM) W:=by
 have a:=underlying52;exact Vo
def a5X(a x1 b c:Int)(W:V):(binOp .eql 30 (AW #[M G a,M G x1,M G b,M G c]) (AW #[M G a,M G x1,M G b,M G c])).run AO W= .ok (AU AL) W:=by
 simp[go_sem]
theorem Ya(h:p:=by
  obtain⟨h1,h2,h3⟩:=a;obtain⟨h1',h2',h3'⟩:=d;unfold BM at h2 h2';have H3:=A h3;have H4:=A h3';have HW:=A hw;have HS:=A c;clear h3 h3' hw c;go_wp2;go_loopw [5] (λi wr=>UU w (ln rows) i wr) (λi _=>((ln rows:Int)-B8 i).toNat)
  case atStart=>exact⟨0,D,rfl,Ext.B9 _⟩
  exact a6w):p:=h
def a6d:Yt 31 45 3:=by
 intro w u e C f rows a d hw c;go_enter func31,ntmps31;exact Ya
def a5m:Yt 33 50 3:=by
 intro w u e C f rows a d hw c;go_enter func33,ntmps33;exact Ya
def a65:Yt 34 52 5:=by
 intro w u e C f rows a d hw c;go_enter func34,ntmps34;exact Ya
def a4X:Yt 30 43 5:=by
 intro w u e C f rows a d hw c;go_enter func30,ntmps30;exact Ya
def a6A(b:Int)(x1:Int)(W:V):(binOp .neq 142 (AW #[M G b,M G x1]) (AW #[M G b,M G x1])).run AO W= .ok (AU AM) W:=by
 have a:=underlying142;exact Vo
def a2v:Yt 62 142 2:=by
 intro w u e C f rows a d hw c;go_enter func62,ntmps62;exact Ya
def a3A(w:V)(u g:Option An)(C j:Nat)(l:List Int)(y:BB 1 w w.1.size u C (Cy l))(z:BB 1 w w.1.size g j (Cy l)):
  AZ AO 29 #[AK u (ln l) C,AK g (ln l) j] w λe w'=>e=Ac (AU AL)/\Ext w w':=by
 obtain⟨h1,h2,c⟩:=y;obtain⟨s,t,d⟩:=z;rw[BL] at h1 c s d;unfold BM at h2 t;have o:=A c;have q:=A d;clear c d;go_enter func29,ntmps29;go_wp2;go_loopw [5] (λi wr=>UU w (ln l) i wr) (λi _=>((ln l:Int)-B8 i).toNat)
 case atStart=>exact⟨0,D,rfl,Ext.B9 _⟩
 obtain⟨m,hm,rfl,k⟩:=hrel;have HX:=A k;clear k;by_cases f:m<ln l
 .obtain⟨b,off,rfl,hB,hc⟩:=o D;obtain⟨r,B,rfl,v,n⟩:=q D;have c0:=MD HX hB (hc m f 0 Z);have a:=MD HX v (n m f 0 Z);rw[Rh f,H7,Dh] at c0 a;have⟨x,hx⟩:=AP (l.getD m 0);rw[hx] at c0 a;have E:wr.cell? ⟨b,off+m,O⟩=Q (M G x):=c0;have I:wr.cell? ⟨r,B+m,O⟩=Q (M G x):=a;have J:(x==x)=AL:=Rz x;clear hc n c0 a hx;have tlt:AQ ((m:Int)<(ln l:Int))=AL:=CP D;have H:(m:Int)<(ln l:Int):=D;exact a0A
 exact a0B
def a6L(w:V)(u j:Option An)(C k:Nat)(rs:List (List Sd))(hr:Ew w w.1.size u C rs)(ag:Ew w w.1.size j k rs):
  AZ AO 28 #[AW #[AK u (ln rs) C],AW #[AK j (ln rs) k]] w λe w'=>e=Ac (AU AL)/\Ext w w':=by
 have⟨W0,d⟩:=AP ((w.alloc (.cells #[AK u (ln rs) C] 24)).alloc (.cells #[AK j (ln rs) k] 24));have z:Ext w W0:=mR;have r:=A (λ(W:V) (h:Ext W0 W)=>(show W.cell? ⟨w.1.size,0,O⟩=Q (AK u (ln rs) C) by
  have q:Az W0 w.1.size 24 [AK u (ln rs) C]:=by rw[<-d];exact(Az.new w _ _).ext ((Ad _ _).alloc (AS _) _)
  exact(q.ext h).cell 0))
 have t:=A (λ(W:V) (h:Ext W0 W)=>(show W.cell? ⟨w.1.size+1,0,O⟩=Q (AK j (ln rs) k) by
  have q:Az W0 (w.1.size+1) 24 [AK j (ln rs) k]:=by
   have h:=Az.new (w.alloc (.cells #[AK u (ln rs) C] 24)) 24 [AK j (ln rs) k];rw[D5] at h;rw[<-d];exact h
  exact(q.ext h).cell 0))
 have Z:=A d;have a:=A z;obtain⟨h1,h2,B⟩:=hr;obtain⟨ak,ae,E⟩:=ag;unfold BM at h2 ae;have X:=A B;have Y:=A E;have a0:=r _ (Ext.B9 _);have b0:=t _ (Ext.B9 _);clear B E d z;go_enter func28,ntmps28;go_upto_region 1 with(fail)
 rw[Z.o];go_wp2;go_loopw [5] (λi wr=>UU W0 (ln rs) i wr) (λi _=>((ln rs:Int)-B8 i).toNat)
 case atStart=>exact⟨0,D,rfl,Ext.B9 _⟩
 obtain⟨m,hm,rfl,H⟩:=hrel;have c:=A H;clear H;have a1:=r _ c;have b1:=t _ c;by_cases K:m<ln rs
 .obtain⟨b,off,rfl,hB,hc⟩:=X D;obtain⟨b',ah,rfl,af,J⟩:=Y D;have⟨R,ci,c0,g⟩:=hc m K;have⟨S,ab,v,l⟩:=J m K;have⟨ring,P⟩:=AP (rs.getD m []);rw[P] at c0 v g l;have x:=A (λ(W:V) (h:Ext W0 W)=>((a.tr h).cell (p:=⟨b,off+m,O⟩) hB).trans c0);have y:=A (λ(W:V) (h:Ext W0 W)=>((a.tr h).cell (p:=⟨b',ah+m,O⟩) af).trans v);have c1:=x _ c;have d1:=y _ c;have g1:=g.1;have g2:=g.2.1;have ac:=l.1;have ad:=l.2.1;rw[BL] at g1 ac;unfold BM at g2 ad;have T:=A (λ(W:V) (h:Ext W0 W)=>((g.below (a.tr h)).more (a.tr h).size:BB 7 W W.1.size R ci (Cg ring)));have U:=A (λ(W:V) (h:Ext W0 W)=>((l.below (a.tr h)).more (a.tr h).size:BB 7 W W.1.size S ab (Cg ring)));have ai:AQ ((m:Int)<(ln rs:Int))=AL:=CP D;have e3:(m:Int)<(ln rs:Int):=D;clear P hc J c0 v g l;go_wp2_with fail
  go_quiet (fail)
  go_wp2;go_loopw [6] (λi wr=>UU W0 (ln ring) i wr) (λi _=>((ln ring:Int)-B8 i).toNat)
  case atStart=>exact⟨0,D,rfl,below_drewN c _⟩
  obtain⟨n,hn,rfl,I⟩:=hrel;have f:=A I;clear I;have a2:=r _ f;have b2:=t _ f;have c2:=x _ f;have d2:=y _ f;by_cases L:n<ln ring
  .obtain⟨p,o,rfl,-,hq⟩:=Oo (T _ f) D;obtain⟨p',o',rfl,-,N⟩:=Oo (U _ f) D;have h1:=hq n L;have h2:=N n L;have⟨s,g⟩:=AP (BA ring n);rw[g] at h1 h2;obtain⟨s0,s1,s2,s3,s4,s5,s6⟩:=h1;obtain⟨u0,u1,u2,u3,u4,u5,u6⟩:=h2;have al:=λaa=>a5q s.x s.y s.Mz s.run s.DX s.JG s.over aa
   have aj:AQ ((n:Int)<(ln ring:Int))=AL:=CP D;have e4:(n:Int)<(ln ring:Int):=D;clear g hq N;go_wp2_with fail
   go_quiet (fail)
   go_wp2;exact⟨⟨n+1,D,AV,below_drewN f _⟩,Bm⟩
  have aj:AQ ((n:Int)<(ln ring:Int))=AM:=Bw D;go_wp2;exact⟨⟨m+1,D,AV,f⟩,Bm⟩
 have ai:AQ ((m:Int)<(ln rs:Int))=AM:=Bw D;exact mu
end
section
open Kp
attribute [local go_sem] Eb Hk
def Fs(e:Ed):Int:=if e.Ab<1\/12<e.Ab then 8 else if Ja e (GH e)=AL then 0 else 9
theorem oG(h:p:=by
  by_cases h1:e.Ab<1
  .have HF:=A (show Fs e=8 by unfold Fs;rw[Aj (.inl h1)]);go_wp2;go_ret;exact⟨TX,(Ad _ _).alloc (AS _) _⟩
  by_cases h2:12<e.Ab
  .have HF:=A (show Fs e=8 by unfold Fs;rw[Aj (.inr h2)]);go_wp2;go_ret;exact⟨TX,(Ad _ _).alloc (AS _) _⟩
  have hB0:At w.1.size w (w.alloc (.cells (Ah e (AK d (ln e.Aa) a)) 54)):=(Ad _ _).alloc (AS _) _;have HGP:=A f;have HB0:=A hB0;have E0:=A (show Fw (w.alloc (.cells (Ah e (AK d (ln e.Aa) a)) 54)).drew w.1.size e (AK d (ln e.Aa) a) from Fw.new w e _);have mixed:AO.follows .mixedOrders=AL:=U;clear f hB0;go_upto_region 3 with fail
  refine Fz mixed ?_;refine F6 (rs:=[0,1]) U AV ?_;refine Df F (λK hK=> ?_) ?_
  .refine NA 54 _ F _ F 54 _ (0,0) _ E0 Cc F U ?_;refine hK _ _ ?_;clear hK K;refine F6 (rs:=[1]) U AV ?_;refine Df F (λK hK=> ?_) ?_
   .refine NA 54 _ F _ F 54 _ (0,0) _ E0 Cc F U ?_;refine hK _ _ ?_;clear hK K;refine F6 (rs:=[2]) U AV ?_;refine Df F (λK hK=> ?_) ?_
    .go_simp;refine(j _ ⟨D,D⟩ ((HGP.below (HB0.trans (Lo (Ad _ _)))).more AV)).mono ?_;rintro r W1 ⟨c,b,rfl,hgb,hB1⟩;have E1:=A (E0.below hB1 E0.lt);have HGB:=A hgb;have HB1:=A (HB0.trans ((Lo (Ad _ _)).trans (hB1.mono AV)));clear hgb hB1;refine hK _ _ ?_;clear hK K;refine F6 (rs:=[3]) U AV ?_;refine Df F (λK hK=> ?_) ?_
     .go_simp;refine(g _ c b ((HGP.below HB1).more HB1.size) HGB).q λW2 hB2=>?_;have HB2:=A (HB1.trans (hB2.mono HB1.size));clear hB2;refine hK _ _ ?_;clear hK K;refine DW (i:=4) (v:= ?vfrm1) F U U U (λ_ _ _ h=>h) (Cf ⟨BE,?hyfrm1⟩) ?_
      case hyfrm1=>(intro w;go_simp;try with_reducible rfl)
      exact mn
     exact F5
    exact F5
   exact F5
  refine Df F (λK hK=> ?_) ?_
  .refine NA 54 _ F _ F 54 _ (0,0) _ E0 Cc F U ?_;refine hK _ _ ?_;clear hK K;refine F6 (rs:=[0,2]) U AV ?_;refine Df F (λK hK=> ?_) ?_
   .refine NA 54 _ F _ F 54 _ (0,0) _ E0 Cc F U ?_;refine hK _ _ ?_;clear hK K;refine F6 (rs:=[2]) U AV ?_;refine Df F (λK hK=> ?_) ?_
    .go_simp;refine(j _ ⟨D,D⟩ ((HGP.below (HB0.trans (Lo (Ad _ _)))).more AV)).mono ?_;rintro r W1 ⟨c,b,rfl,hgb,hB1⟩;have E1:=A (E0.below hB1 E0.lt);have HGB:=A hgb;have HB1:=A (HB0.trans ((Lo (Ad _ _)).trans (hB1.mono AV)));clear hgb hB1;refine hK _ _ ?_;clear hK K;refine F6 (rs:=[3]) U AV ?_;refine Df F (λK hK=> ?_) ?_
     .go_simp;refine(g _ c b ((HGP.below HB1).more HB1.size) HGB).q λW2 hB2=>?_;have HB2:=A (HB1.trans (hB2.mono HB1.size));clear hB2;refine hK _ _ ?_;clear hK K;refine DW (i:=4) (v:= ?vfrm2) F U U U (λ_ _ _ h=>h) (Cf ⟨BE,?hyfrm2⟩) ?_
      case hyfrm2=>(intro w;go_simp;try with_reducible rfl)
      exact mn
     exact F5
    exact F5
   refine Df F (λK hK=> ?_) ?_
   .go_simp;refine(j _ ⟨D,D⟩ ((HGP.below (HB0.trans (Lo (Ad _ _)))).more AV)).mono ?_;rintro r W1 ⟨c,b,rfl,hgb,hB1⟩;have E1:=A (E0.below hB1 E0.lt);have HGB:=A hgb;have HB1:=A (HB0.trans ((Lo (Ad _ _)).trans (hB1.mono AV)));clear hgb hB1;refine hK _ _ ?_;clear hK K;refine F6 (rs:=[0]) U AV ?_;refine Df F (λK hK=> ?_) ?_
    .refine NA 54 _ F _ F 54 _ (0,0) _ E1 Cc F U ?_;refine hK _ _ ?_;clear hK K;refine F6 (rs:=[3]) U AV ?_;refine Df F (λK hK=> ?_) ?_
     .go_simp;refine(g _ c b ((HGP.below HB1).more HB1.size) HGB).q λW2 hB2=>?_;have HB2:=A (HB1.trans (hB2.mono HB1.size));clear hB2;refine hK _ _ ?_;clear hK K;refine DW (i:=4) (v:= ?vfrm3) F U U U (λ_ _ _ h=>h) (Cf ⟨BE,?hyfrm3⟩) ?_
      case hyfrm3=>(intro w;go_simp;try with_reducible rfl)
      exact mn
     exact F5
    exact F5
   exact F5
  exact F5):p:=h
def fx(w:V)(e:Ed)(d:Option An)(a:Nat)(f:C8 w w.1.size d a e.Aa):
  AZ AO 56 #[AW (Ah e (AK d (ln e.Aa) a))] w λr w'=>r=Ac (M G (Fs e))/\At w.1.size w w':=by
 have j:=A (λW (hk:1<=e.Ab/\e.Ab<=12) f=>a8z W e d a hk f);have g:=A (λW c b k l=>a90 W e (GH e) d c a b k l);go_enter func56,ntmps56;exact oG
def a9r(e:Ed)(h:ln e.Aa=(GH e).Aa.length):e.Aa=(GH e).Aa:=by
 by_cases a:(GH e).Aa=e.Aa
 .exact a.symm
 have b:(GH e).Aa=[]:=by
  unfold GH at *;simp only[apply_ite Ed.Aa] at *;by_cases h:e.Ab=7
  .simp[h] at a
  simp[h,BZ]
 rw[b] at h⊢;exact Jf.1 h
def jU(w:V)(e:Ed)(d:Option An)(a:Nat)(f:C8 w w.1.size d a e.Aa):
  AZ AO 88 #[AW (Ah e (AK d (ln e.Aa) a))] w λr w'=>r=Ac (M G (Fs e))/\At w.1.size w w':=by
 have j:=A (λW (hk:1<=e.Ab/\e.Ab<=12) f=>a5B W e d a hk f);have g:=A (λW c b k l=>vL W e (GH e) d c a b k l (a9r e));go_enter func88,ntmps88;exact oG
end
section
open Kp
attribute [local go_sem] Eb Iy Jm I4 LW Hk
def WB(w:V)(p:By×Int)(r:CI)(w':V):Prop:=r=Ac (BO #[AT (tx p.1),M G p.2])/\At w.1.size w w'
def qO{e:Ed}(h:¬Fs e=0):Dr BF e=([],Fs e):=by
 by_cases h1:e.Ab<1\/12<e.Ab
 .unfold Dr Fs;rw[Aj h1,Aj h1]
 by_cases a:Ja e (GH e)=AL
 .exact absurd (by unfold Fs;rw[Af h1,Aj a]) h
 unfold Dr Fs;rw[Af h1,Af h1,Aj (λb=>a ((jx _ _).2 b)),Af a]
def sY{e:Ed}(h:Fs e=0):(1<=e.Ab/\e.Ab<=12)/\e=GH e:=by
 unfold Fs at h;split at h
 .cases h
 rename_i h1;split at h
 .rename_i hs;exact⟨D,(jx _ _).1 hs⟩
 cases h
def a62(w:V)(e:Ed)(d:Option An)(a:Nat)(g:C8 w w.1.size d a e.Aa)(c:¬Fs e=0):
  AZ AO 26 #[AW (Ah e (AK d (ln e.Aa) a))] w (WB w (Dr BF e)):=by
 have j:=A (qO c);have b:At w.1.size w (w.alloc (.cells (Ah e (AK d (ln e.Aa) a)) 54)):=(Ad _ _).alloc (AS _) _;have k:=A (fx (w.alloc (.cells (Ah e (AK d (ln e.Aa) a)) 54)) e d a ((g.below b).more AV));have m:(Fs e !=0)=AL:=by rw[Cd];exact c
 have f:=A b;have i:=A (Fw.new w e (AK d (ln e.Aa) a));clear g c b;go_enter func26,ntmps26;go_wp2_with(first
  |(refine Ce rfl 54 _ rfl _ rfl 54 _ (0,0) _ i Cc rfl U ?_)
  |(go_at_call 56;refine k.q λW1 l=>?_))
 go_ret2;rw[j.o];exact⟨F,f.trans (l.mono f.size)⟩
def nM{e:Ed}(h:e=GH e)(b:0<ln e.Aa):e.Ab=7:=by
 by_cases a:e.Ab=7
 .exact a
 have c:(GH e).Aa=[]:=by
  unfold GH;simp only[apply_ite Ed.Aa];simp[a,BZ]
 have d:e.Aa=[]:=(QL Ed.Aa h).trans c;rw[d] at b;simp at b
structure b5b(w:V)(e:Ed)(g:AN)(b:AN)(a:V):Prop where
 ed:Fw a w.1.size e g
 ok:b=AU (Hd e.Av)
 low:At w.1.size w a
structure b5x(w:V)(e:Ed)(g:AN)(a:V):Prop where
 ed:Fw a w.1.size e g
 low:At w.1.size w a
def DK.fresh(w:V)(B:Nat)(a:B<=w.1.size):DK B w.1.size 0 0 [] (w.alloc (.cells #[Ap O,AK O 0 0,M G 0,M G 0] 114)):=
 ⟨Ap O,.inl rfl,a,AK O 0 0,Bq w _,Qz _ _ _ _,by simp[Hv]⟩
def a9o{a s:By}(h:a≠[]):GK a s≠[]:=by unfold GK;rw[Af h];simp
def Yb{a:By}(h:a≠[])(ws:List By):D7 a ws≠[]:=by
 induction ws generalizing a with
 |nil=>exact h
 |cons w ws b=>rw[Qg];exact b (a9o h)
def a8u(e:Ed):D7 [] (EU e)≠[]:=by
 have⟨b,w,ws,a⟩:=bG e;unfold EU;rw[a,LO,LO,Qg];exact Yb (by unfold GK;rw[Aj rfl];simp) _
def qZ{e:Ed}(hk:1<=e.Ab/\e.Ab<=12)(hu:e=GH e)(hn:¬(e.Ab=1/\IY e.Ct=AM))(b:¬((e.Ab=6/\(e.Be<1\/12<e.Be))\/(e.Ab=12/\Hd e.Av=AM)))(a:¬16<ln e.Aa):
  Dr BF e=if¬Gv 0 (Cj e)=0 then([],Gv 0 (Cj e)) else if¬FT BF 0 (numsOf e)=0 then([],FT BF 0 (numsOf e)) else(D7 [] (EU e),0):=by
 unfold Dr;rw[Af D,Af (λx=>x hu),Af hn,Af b,Af a]
def b1V(w:V)(e:Ed)(d:Option An)(f:Nat)(hg:C8 w w.1.size d f e.Aa)(az:IH e)(ax:Gl w)(X:9<=w.1.size)(hf:Fs e=0):
  AZ AO 26 #[AW (Ah e (AK d (ln e.Aa) f))] w (WB w (Dr BF e)):=by
 have af:At w.1.size w (w.alloc (.cells (Ah e (AK d (ln e.Aa) f)) 54)):=(Ad _ _).alloc (AS _) _;have cf:=A (fx (w.alloc (.cells (Ah e (AK d (ln e.Aa) f)) 54)) e d f ((hg.below af).more AV));have aF:(Fs e !=0)=AM:=by rw[hf];rfl
 have HF:=A hf;have HG:=A hg;have ar:=A af;have T:=A (Fw.new w e (AK d (ln e.Aa) f));have ac:=A az;have ab:=A ax;clear hg hf af az ax;go_enter func26,ntmps26;go_upto_region 4 with(first
  |(refine Ce rfl 54 _ rfl _ rfl 54 _ (0,0) _ T Cc rfl U ?_)
  |(go_at_call 56;refine cf.q λW1 Y=>?_;have Z:=A (T.below Y T.lt);have aD:=λi=>Z.cell i;have o:=Y.size;simp only[D5] at o;have aB:=A (ar.trans (Y.mono ar.size));clear Y))
 go_cut [6] (λs6 wx=>b5b w e (AK d (ln e.Aa) f) s6 wx)
 case first =>
  go_region_with (go_at_call 57;(refine(jR _).q λW2 ag=>?_;have au:=A (show At W1.1.size W1 W2 by rw[ag];exact(Ad _ W1).drew.alloc (AS _) _);have aG:=pk W2 W1.1.size 6 (by rw[ag];exact Bq W1.drew _) e.Av AL;have E2:=A (Z.below au Z.lt);have aK:=λi=>E2.cell i;simp only[SO] at aG;clear ag))
  all_goals go_wp2_with fail
  all_goals go_meet
  all_goals exact⟨E2,rfl,aB.trans (au.mono D)⟩
 obtain⟨ed,rfl,ao⟩:=hcut;have I:=A ed;have ec:=λi=>I.cell i
 have q:=A ao;have aH:=ao.size;clear ed ao aD;have⟨⟨am,an⟩,aA⟩:=sY HF;have v:=A aA;clear aA;by_cases hn:e.Ab=1/\IY e.Ct=AM
 .obtain⟨hn1,hn2⟩:=hn;have c:=A (show Dr BF e=([],13) by unfold Dr;rw[Af D,Af (λx=>x v.o),Aj ⟨hn1,hn2⟩]);have k1:(e.Ab==1)=AL:=by rw[C9];exact hn1
  have ap:ln e.Ct<=1000000:=by have:=ac.Ct;omega
  clear hn1;go_wp2_with(go_at_call 58;refine(jm e.Ct _ ap).mono ?_;rintro r W3 ⟨rfl,rfl⟩;rw[hn2])
  go_ret2;rw[c.o];exact⟨F,q⟩
 by_cases k:e.Ab=12/\Hd e.Av=AM
 .obtain⟨hr1,hr2⟩:=k;have c:=A (show Dr BF e=([],8) by unfold Dr;rw[Af D,Af (λx=>x v.o),Af hn,Aj (.inr ⟨hr1,hr2⟩)]);have k1:(e.Ab==1)=AM:=Hi;have R:(e.Ab==6)=AM:=Hi;have P:(e.Ab==12)=AL:=by rw[C9];exact hr1
  clear hn hr1;exact n8
 by_cases z:e.Ab=6/\e.Be<1
 .obtain⟨o,u⟩:=z;have c:=A (show Dr BF e=([],8) by unfold Dr;rw[Af D,Af (λx=>x v.o),Af hn,Aj (.inl ⟨o,.inl u⟩)]);have k1:(e.Ab==1)=AM:=Hi;have R:(e.Ab==6)=AL:=by rw[C9];exact o
  have kz:AQ (e.Be<1)=AL:=by rw[Cx];exact u
  clear hn k o;exact n8
 by_cases y:16<ln e.Aa
 .have hk7:=nM v D;have c:=A (show Dr BF e=([],4) by unfold Dr;rw[Af D,Af (λx=>x v.o),Af hn,Af D,Aj y]);have k1:(e.Ab==1)=AM:=Hi;have R:(e.Ab==6)=AM:=Hi;have P:(e.Ab==12)=AM:=Hi;clear hn k z hk7;exact n8
 by_cases N:e.Ab=6/\12<e.Be
 .obtain⟨o,u⟩:=N;have c:=A (show Dr BF e=([],8) by unfold Dr;rw[Af D,Af (λx=>x v.o),Af hn,Aj (.inl ⟨o,.inr u⟩)]);have k1:(e.Ab==1)=AM:=Hi;have R:(e.Ab==6)=AL:=by rw[C9];exact o
  have kz:AQ (e.Be<1)=AM:=Et;have aJ:AQ (12<e.Be)=AL:=by rw[Cx];exact u
  have c0:wc.drew.cell? ⟨w.1.size,0,O⟩=Q (M G e.Ab):=by have:=ec 0;rw[Hk] at this;exact this
  have J:wc.drew.cell? ⟨w.1.size,14,O⟩=Q (M G e.Be):=by have:=ec 14;rw[Jm] at this;exact this
  have GX:=A (ab.keep (q.trans (Lo (Ad _ _))) X);have E:w.1.size<wc.drew.1.size:=I.lt;clear hn o k z y;go_wp2
  go_region_held3(λB:V=>B.cell? ⟨w.1.size,0,O⟩=Q (M G e.Ab)/\B.cell? ⟨w.1.size,14,O⟩=Q (M G e.Be)) (first|exact⟨c0,J⟩|exact⟨d0,ad⟩) (first
   |(go_at_call 59;refine(bh _ GX).mono ?_;rintro r W3 ⟨g,C,rfl,ah,ai,aj,ak,al,j⟩;have d0:=(j.cell (p:=⟨w.1.size,0,O⟩) E).trans c0;have ad:=(j.cell (p:=⟨w.1.size,14,O⟩) E).trans J;have aa:=A (q.trans ((Lo (Ad _ _)).trans (j.mono D)));clear ah ai aj ak al j))
  all_goals go_wp2
  all_goals go_ret2
  all_goals rw[c.o]
  all_goals exact⟨rfl,aa⟩
 have HZ:=A (show e.Ab=6->1<=e.Be/\e.Be<=12 fromλK=>D);have c:=A (qZ ⟨am,an⟩ v hn (by rintro(⟨a,b⟩|⟨a,b⟩)<;>first|exact k ⟨a,b⟩|omega) y);have aE:ln e.Aa<=16:=D;have HK:=A (Ci am an)
 go_upto_block 0 with(fail)
 go_cut [] (λB=>b5x w e (AK d (ln e.Aa) f) B)
 case first =>
  have aM:AQ (16<(ln e.Aa:Int))=AM:=Et;by_cases K:e.Ab=6
  .have k1:(e.Ab==1)=AM:=Hi;have R:(e.Ab==6)=AL:=by rw[C9];exact K
   have P:(e.Ab==12)=AM:=Hi;have kz:AQ (e.Be<1)=AM:=Et;have aJ:AQ (12<e.Be)=AM:=Et;have c0:wc.drew.cell? ⟨w.1.size,0,O⟩=Q (M G e.Ab):=by have:=ec 0;rw[Hk] at this;exact this
   have J:wc.drew.cell? ⟨w.1.size,14,O⟩=Q (M G e.Be):=by have:=ec 14;rw[Jm] at this;exact this
   have GX:=A (ab.keep (q.trans (Lo (Ad _ _))) X);have E:w.1.size<wc.drew.1.size:=I.lt;clear hn K k z y N;go_wp2
   go_region_held3(λB:V=>B.cell? ⟨w.1.size,0,O⟩=Q (M G e.Ab)/\B.cell? ⟨w.1.size,14,O⟩=Q (M G e.Be)) (first|exact⟨c0,J⟩|exact⟨d0,ad⟩) (first
    |(go_at_call 59;refine(bh _ GX).mono ?_;rintro r W3 ⟨g,C,rfl,ah,ai,aj,ak,al,j⟩;have d0:=(j.cell (p:=⟨w.1.size,0,O⟩) E).trans c0;have ad:=(j.cell (p:=⟨w.1.size,14,O⟩) E).trans J;have aa:=A (q.trans ((Lo (Ad _ _)).trans (j.mono D)));have H:=A (Fw.below (show Fw wc.drew w.1.size e (AK d (ln e.Aa) f) from I) j E);have aL:=λi=>H.cell i;clear ah ai aj ak al j))
   all_goals go_wp2
   all_goals go_meet
   all_goals exact⟨H,aa⟩
  have R:(e.Ab==6)=AM:=Hi;have HE:=A (λn=>(show Fw (wc.drewN n) w.1.size e (AK d (ln e.Aa) f) from I));by_cases h1:e.Ab=1
  .have k1:(e.Ab==1)=AL:=by rw[C9];exact h1
   have P:(e.Ab==12)=AM:=Hi;have aI:IY e.Ct=AL:=by cases h:IY e.Ct with|true=>rfl|false=>exact absurd ⟨h1,h⟩ hn
   have ap:ln e.Ct<=1000000:=by have:=ac.Ct;omega
   clear hn h1 K k z y N;go_wp2_with(go_at_call 58;refine(jm e.Ct _ ap).mono ?_;rintro r W3 ⟨rfl,rfl⟩;rw[aI])
   go_quiet (fail)
   go_wp2;go_meet;exact⟨HE _,below_drewN q _⟩
  have k1:(e.Ab==1)=AM:=Hi;by_cases ae:e.Ab=12
  .have P:(e.Ab==12)=AL:=by rw[C9];exact ae
   have aN:Hd e.Av=AL:=by cases h:Hd e.Av with|true=>rfl|false=>exact absurd ⟨ae,h⟩ k
   exact a0Q
  have P:(e.Ab==12)=AM:=Hi;exact a0Q
 obtain⟨av,aq⟩:=hcut;have u:=aq.size;have L2:=A aq;have WF:=A (DK.fresh wc w.1.size u);have S:=A (L2.alloc u (.cells #[Ap O,AK O 0 0,M G 0,M G 0] 114));have H:=A (av.alloc (.cells #[Ap O,AK O 0 0,M G 0,M G 0] 114));have s:=A (a3s w.1.size wc.1.size e d f _ WF ac HK HZ (HG.below S) aE (ab.keep S X) X Bk);clear av aq hn k z N ec aH T aF am an y;by_cases m:Gv 0 (Cj e)=0
 .by_cases hnu:FT BF 0 (numsOf e)=0
  .have W:=A (c.trans (by rw[Af (λh=>h m),Af (λh=>h hnu)]));have l:=s.o;unfold MJ at l;rw[m,hnu] at l;clear s;have s:=A l;clear l m hnu;go_wp2_with(first
    |(refine Ce rfl 54 _ rfl _ rfl 54 _ (0,0) _ H Cc rfl U ?_)
    |(go_at_call 60;refine s.q ?_;rintro W5 ⟨t,L⟩;have c2:=t.iU;have c3:=t.Zt;obtain⟨p5,_,aw⟩:=t;have aC:=A aw;have K5:=A L;clear aw L)
    |(go_at_call 61;refine(jW _ _ _ _ _ _ _ aC (a8u e)).q λW6 ay=>?_;have K6:=A (K5.trans ay);clear ay))
   go_ret2;rw[W.o];exact⟨F,S.trans K6.low⟩
  have W:=A (c.trans (by rw[Af (λh=>h m),Aj hnu]));have t3:(FT BF 0 (numsOf e) !=0)=AL:=by rw[Cd];exact hnu
  have l:=s.o;unfold MJ at l;rw[m] at l;clear s;have s:=A l;clear l;clear hnu m;exact a0P
 have W:=A (c.trans (by rw[Aj m]));have t2:(Gv 0 (Cj e) !=0)=AL:=by rw[Cd];exact m
 clear m;exact a0P
def kZ(w:V)(e:Ed)(d:Option An)(a:Nat)(c:C8 w w.1.size d a e.Aa)(h:IH e)(g:Gl w)(f:9<=w.1.size):
  AZ AO 26 #[AW (Ah e (AK d (ln e.Aa) a))] w (WB w (Dr BF e)):=by
 by_cases b:Fs e=0
 .exact b1V w e d a c h g f b
 exact a62 w e d a c b
end
section
open Kp
attribute [local go_sem] Eb Se OE Sf Sg
def jA{fn:Func}{p u:Tmp}(h:fn.results=#[.cell p 54,.tmp u])(tmps:Array AN)(w:V)(g:Nat)(cs:Array AN)
  (c:tmps.getD p Ba=Ap (Q ⟨g,0,O⟩))(a:w.1[g]?=Q (.cells cs 54 (0,0)))(hi:(AO.info? 54).map (·.size)=Q cs.size):
  (results fn tmps).run AO w= .ok (BO #[AW cs,tmps.getD u Ba]) w:=by
 have d:=by simpa using c
 have b:=eJ w g 54 54 cs _ _ a Cc F hi;simp[results,h,d,asAddr,b]
def iS(w:V)(p:Ed×Int)(r:CI)(w':V):Prop:=
 ∃d a,r=Ac (BO #[AW (Ah p.1 (AK d (ln p.1.Aa) a)),M G p.2])/\C8 w' w'.1.size d a p.1.Aa/\At w.1.size w w'
theorem a3k(s:By)(a:ln s<=65536):(Da s [32]).length<=65537:=by
 grind [jy,Lib.count_one]
def b3o(w:V)(ws:List By)(h1:ln ws<=1000000)(h2:∀x∈ws,ln x<=100000):
  EY w.1.size (((w.alloc (.cells (Ah BZ Dk) 54)).alloc (.cells (Q9 ws).toArray 9)).alloc (.cells #[AK (Q ⟨w.1.size+1,0,O⟩) (ws).length (ws).length,AU AM] 93)).1.size (w.1.size+1+1) (ws,AM) (((w.alloc (.cells (Ah BZ Dk) 54)).alloc (.cells (Q9 ws).toArray 9)).alloc (.cells #[AK (Q ⟨w.1.size+1,0,O⟩) (ws).length (ws).length,AU AM] 93)):=by
 have a:=Bq ((w.alloc (.cells (Ah BZ Dk) 54)).alloc (.cells (Q9 ws).toArray 9)) (.cells #[AK (Q ⟨w.1.size+1,0,O⟩) (ln ws) (ln ws),AU AM] 93);have b:(((w.alloc (.cells (Ah BZ Dk) 54)).alloc (.cells (Q9 ws).toArray 9)).alloc (.cells #[AK (Q ⟨w.1.size+1,0,O⟩) (ws).length (ws).length,AU AM] 93)).1[w.1.size+1]?=Q (.cells (Q9 ws).toArray 9):=by
  rw[TO _ _ AV];have:=Bq (w.alloc (.cells (Ah BZ Dk) 54)) (.cells (Q9 ws).toArray 9)
  grind [World.size_alloc]
 simp only[D5] at a;refine⟨D,AV,⟨w.1.size+1,0,ln ws,a,D,AV,AS _,h1,⟨_,b⟩,λj c=> ?_⟩,h2⟩;rw[IU,Dc.cell b j]
 grind
def b37{s:By}{E:Ed}{R:DR}(b:ln s<=65536)(a:rE (Da s [32],AM)=(E,R)):
  QZ BF s=if R.2=AL\/¬R.1=[] then(BZ,3) else if¬Dr BF E=(s,0) then(BZ,3) else(E,0):=by
 unfold QZ
 grind
structure dj(w:V)(E:Ed)(R:DR)(d:Option An)(b y:Nat)(W:V):Prop where
 c1:W.cell? ⟨w.1.size+1+1,1,O⟩=Q (AU R.2)
 c0:∃u c,W.cell? ⟨w.1.size+1+1,0,O⟩=Q (AK u (ln R.1) c)
 z:EC W w.1.size (Ah BZ Dk)
 c:EC W y (Ah E (AK d (ln E.Aa) b))
 l:At w.1.size w W
 g:∀a:V,(∀k,w.1.size+3<=k->k<W.1.size->a.1[k]?=W.1[k]?)->W.1.size<=a.1.size->C8 a a.1.size d b E.Aa
theorem dj.ext{w W a:V}{E:Ed}{R:DR}{b y:Nat}(h:dj w E R d b y W)(hx:At W.1.size W a):dj w E R d b y a:=by
 have h1:=h.c1;obtain⟨u,c,g⟩:=h.c0;have e:=TL W _ h1;exact⟨(hx.cell e).trans h1,⟨u,c,(hx.cell (p:=⟨w.1.size+1+1,0,O⟩) e).trans g⟩,(hx.block _ h.z.lt).trans h.z,(hx.block _ h.c.lt).trans h.c,h.l.trans (hx.mono h.l.size),
  λf i j=>h.g f (λk h1 h2=>(i k h1 (Dj h2 hx.size)).trans (hx.block k h2)) (BJ hx.size j)⟩
theorem b0N{s:By}(f:ln s<=65536)(hx:∀x∈Da s [32],ln x<=1000)(v:Gl w)(l:9<=w.1.size){E:Ed}{R:DR}(r:rE (Da s [32],AM)=(E,R))
  (hw:w2=((w.alloc (.cells (Ah BZ Dk) 54)).alloc (.cells (Q9 (Da s [32])).toArray 9)).alloc (.cells #[AK (Q ⟨w.1.size+1,0,O⟩) (Da s [32]).length (Da s [32]).length,AU AM] 93)):
  AZ AO 46 #[E6 (w.1.size+1+1)] w2 λe g=>∃d a,e=Ac (AW (Ah E (AK d (ln E.Aa) a)))/\dj w E R d a g.1.size (g.alloc (.cells (Ah E (AK d (ln E.Aa) a)) 54)):=by
 have j:=b3o w (Da s [32]) (by grind [a3k]) (λx h=>Al);have y:EC w2 w.1.size (Ah BZ Dk):=by rw[hw];exact((EC.new w _).alloc _).alloc _
 have i:At w.1.size w w2:=by rw[hw];exact(((Ad _ _).alloc (AS _) _).alloc AV _).alloc Bk _
 have z:w2.1.size=w.1.size+3:=by rw[hw];simp
 rw[<-hw] at j;refine(a82 _ _ _ w2 j (v.keep i l) l).mono ?_;rintro e W ⟨d,a,m,n,o,b⟩;rw[r] at m n o;have f:=b.low.size;obtain⟨c1,-,u,c,c0⟩:=(o.alloc _).cells;exact⟨d,a,m,c1,⟨u,c,c0⟩,(y.keep b D).alloc _,EC.new W _,(i.trans b.low).alloc D _,λq t f=>n q (λk h1 h2=>(t k D Bk).trans (TO _ _ h2)) (by simp at f;omega)⟩
theorem Yl(h:p:=by
  go_enter func19,ntmps19;go_wp2_with(first
   |(go_at_call 45;refine I.q λW1 hW1=>?_;subst hW1)
   |(go_at_call 46;refine(z _ F).mono ?_;rintro e W3 ⟨d,gc,rfl,h⟩;have H:=A h;have c1:=h.c1;obtain⟨u,cp,c0⟩:=h.c0;(try rw[v.o] at c1);(try rw[r.o] at c0);clear h)
   |(refine JL rfl 54 _ rfl U ?_;rw[show Ea (FF (AO.built 54 _) #[])=AW (Ah BZ Dk) from U])
   |(go_at_call 26;refine(kZ _ E d gc (H.g _ (λ_ _ _=>rfl) (AS _)) C (B.keep H.l g) (BJ g H.l.size)).q λW5 hB5=>?_;rw[G.o];have H:=A (H.ext hB5);clear hB5)
   |(refine Ce rfl 54 _ rfl _ rfl 54 _ (0,0) _ (EC.Es H.c) Cc rfl U ?_)
   |(refine C7 rfl 54 _ _ rfl _ _ rfl rfl 54 _ (by first|exact(EC.Es H.z)|exact Bq W3 _) U U U ?_))
  refine Bp (jA F _ _ _ _ F (setRow_heap (EC.Es H.z) _) U) F ?_;rw[f.o]
  first
   |exact⟨O,0,rfl,Rk _ _,CL H.l (AS _) _⟩
   |exact⟨d,gc,rfl,H.g _ (λk h1 _=>Hc _ _ D) (Uf (size_setRow _ _ _).symm),CL H.l (AS _) _⟩):p:=h
def nu(s:By)(w:V)(m:ln s<=65536)(hx:∀x∈Da s [32],ln x<=1000)(j:Gl w)(g:9<=w.1.size):
  AZ AO 19 #[AT (tx s)] w (iS w (QZ BF s)):=by
 have I:=A (a6M s (w.alloc (.cells (Ah BZ Dk) 54)) m (j.keep ((Ad _ _).alloc (AS _) _) g).Tj);obtain⟨E,R,i⟩:∃E R,rE (Da s [32],AM)=(E,R):=⟨_,_,F⟩;have n:=a3h (Da s [32],AM) hx;rw[i] at n;have C:=A n;have c:=b37 m i;have z:=A (λw2=>b0N (w2:=w2) m hx j g i);have B:=A j;obtain⟨t,x,q⟩:∃t x,Dr BF E=(t,x):=⟨_,_,F⟩;rw[q] at c;have G:=A q;clear j hx i n q;obtain⟨ws,b⟩:=R;cases b
 case true=>
  have v:=A (show(ws,AL).2=AL from rfl);have f:=A (c.trans (Aj (Cf F)));clear c;exact Yl
 have v:=A (show(ws,AM).2=AM from rfl);cases ws
 case cons a l=>
  have r:=A (show(a::l,AM).1.length=ln l+1 from rfl);have f:=A (c.trans (Aj (Or.inr (λh=>Aq))));clear c;exact Yl
 have r:=A (show(([]:List By),AM).1.length=0 from rfl);have c:=c.trans (Af AV);by_cases y:x=0
 case neg=>
  have f:=A (c.trans (Aj (λh=>y (en h).2)));exact Yl
 subst y;by_cases o:t=s
 case neg=>
  have f:=A (c.trans (Aj (λh=>o (en h).1)));have J:(t==s)=AM:=CK.2 o;exact Yl
 subst o;have f:=A (c.trans (Af (λh=>h rfl)));exact Yl
theorem VH{ops:Array Oper}{rest:List Oper}{o:Oper}{a:BV}{b:Exit->BV->V->Prop}(hw:Ir o (yielded ops a.tmps)=AL)(x:F0)(e:o.op= .load 54 x)
  (g:Nat)(hx:a.eval x=Ap (Q ⟨g,0,O⟩))(cs:Array AN)(d:w.1[g]?=Q (.cells cs 54 (0,0)))(hi:(AO.info? 54).map (·.size)=Q cs.size)
  (h:CQ AO ops b rest (a.put o.dst (AW cs)) w):CQ AO ops b (o::rest) a w:=
 Wt λ_ c=>by
  rw[Aj hw];exact NA 54 x e g hx 54 cs (0,0) _ d Cc F hi (c _ _ h)
theorem vG{ops:Array Oper}{rest:List Oper}{o:Oper}{a:BV}{c:Exit->BV->V->Prop}(hw:Ir o (yielded ops a.tmps)=AL)(t:Bb)(b:Array (Nat×F0))(f:o.op= .build t b)
  (e:(AO.built t (b.map λ(i,x)=>(i,a.eval x)).toList).isSome=AL)
  (h:CQ AO ops c rest (a.put o.dst (AW ((AO.built t (b.map λ(i,x)=>(i,a.eval x)).toList).getD #[]))) w):CQ AO ops c (o::rest) a w:=
 Wt λ_ d=>by
  rw[Aj hw];exact wp_build t b f e (d _ _ h)
def MK:Ed:={NM 8 with Av:=3}
def V0:Ed:={NM 12 with Av:=5,Ae:=1}
abbrev iY:By:=[107,101,114,102,32,51]
abbrev b4g:By:=[114,101,109,111,118,101,32,111,112,101,110,105,110,103,32,49]
def b2k:CY 3=[51]:=GG
def b3R:CY 1=[49]:=GG
def qk:Dr BF MK=(iY,0):=by
 have a:PL BF MK:=⟨Z,Z,rfl,λh=>absurd h Z,λh=>absurd h Z,λh=>absurd h Z,Z,Z,rfl⟩;rw[qT a];have:EU MK=[P4,CY 3]:=rfl;rw[this,b2k];rfl
def a9j:Dr BF V0=(b4g,0):=by
 have a:PL BF V0:=⟨Z,Z,rfl,λh=>absurd h Z,λh=>absurd h Z,λ_=>Z,Z,Z,rfl⟩;rw[qT a];have:EU V0=[OJ,LY,CY 1]:=rfl;rw[this,b3R];rfl
def a8p:QZ BF iY=(MK,0):=(sN nK qk (λa h=>Aq)).1
def a3T:IH MK:=qX (li:=[3]) (ln:=[]) rfl rfl (all_cons ⟨Z,Z⟩ (all_nil _)) (qy _) (by show(0:Nat)<=1000;omega)
def a5o:IH V0:=qX (li:=[1]) (ln:=[]) rfl rfl (all_cons ⟨Z,Z⟩ (all_nil _)) (qy _) (by show(0:Nat)<=1000;omega)
def a2s{s:By}{m:Nat}(a:ln s<=m):∀x∈Da s [32],ln x<=m:=λx hx=>BJ (cG (ln s) s (AS _) x hx) a
def a55(w:V)(k:Gl w)(f:9<=w.1.size):AZ AO 6 #[] w λr w'=>r=Ac (AU AL)/\At w.1.size w w':=by
 have c1:=A (kZ w MK O 0 (Rk _ _) a3T k f);have l:=A k;clear k;go_enter func6,ntmps6;go_wp2_with(first
  |(go_at_call 22;(refine(kQ _ MK _ O _ 0 t (Rk _ _)).q λx o=>?_;have u:=A (n.trans (o.mono n.size));clear o))
  |(go_at_call 19;(refine(nu iY v Z (a2s (m:=1000) Z) (l.keep e f) D).mono ?_;rw[a8p];rintro r a ⟨d,b,rfl,q,j⟩;have s:=A (EC.new a (Ah MK (AK d (ln MK.Aa) b)));have n:=A ((e.trans (j.mono e.size)).alloc (by have:=j.size;omega) (.cells (Ah MK (AK d (ln MK.Aa) b)) 54));have t:=A ((q.below ((Ad a.1.size a).alloc (AS _) (.cells (Ah MK (AK d (ln MK.Aa) b)) 54))).more (by simp:a.1.size<=(a.alloc (.cells (Ah MK (AK d (ln MK.Aa) b)) 54)).1.size));clear q j))
  |(go_at_call 26;refine(kZ W1 V0 O 0 (Rk _ _) a5o (l.keep c f) D).mono ?_;rw[a9j];rintro r v ⟨rfl,i⟩;have z:=i.size;have e:=A (c.trans (i.mono c.size));clear i)
  |(go_at_call 26;refine c1.mono ?_;rw[qk];rintro r W1 ⟨rfl,g⟩;have y:=g.size;have c:=A g;clear g)
  |(refine VH BE _ rfl _ rfl _ (EC.Es s) U ?_)
  |(refine C7 rfl 54 _ _ rfl _ _ rfl rfl 54 _ (Bq a _) U U U ?_)
  |(refine vG BE 54 #[(0,.const (M G 12)),(9,.const (M G 5)),(1,.const (M G 1))] rfl U ?_;rw[show Ea (FF (AO.built 54 _) #[])=AW (Ah V0 Dk) from U])
  |(refine vG BE 54 #[(0,.const (M G 8)),(9,.const (M G 3))] rfl U ?_;rw[show Ea (FF (AO.built 54 _) #[])=AW (Ah MK Dk) from U]))
 go_ret;exact⟨F,u⟩
end
end Go.Proofs.YtalhfkdhdggdaaaGreatDoor
