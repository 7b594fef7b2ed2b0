/- ChangeApplies of kingpostlaw58: part 10 of its proof (merged and shortened by program). -/
import Derived.Lib.ItoaLen
import Derived.Test.YtnepbjnlmkppmaaGreatDoorP18
set_option linter.unusedVariables false
set_option linter.unusedSimpArgs false
set_option linter.defProp false
set_option maxHeartbeats 8000000
set_option maxRecDepth 100000
open Go.RowKit Go.Shelf Go.Proofs.Tryz
open Bool renaming false→O,true→Y
open Decidable renaming decide→YG
open Go renaming World→U,undef→M,Value→Z,wpOp_step→XR,Calls→XY,TypeId→Yj,maxLen→Yk,Addr→Ym
open Go.Ending renaming returned→YC
open Go.IntKind renaming i64→F
open Go.IntWalk renaming i64_in→Yh
open Go.Lib renaming hid→A
open Go.Proofs.Tryz renaming prog→Xz
open Go.RowKit renaming intOf→Yf
open Go.Value renaming slice→V,string→Yy,bool→Yz,int→G,agg→YE
open Go.World renaming size_alloc→Ya
open List renaming getD_eq_getElem?_getD→XJ,getElem?_eq_getElem→XO,length_map→XP,length→ln
open Nat renaming le_refl→XE,mul_comm→Yd
open Option renaming none→I,some→L
open Go.Proofs.YtnepbjnlmkppmaaGreatDoor
variable{d g q:Nat}{p:Prop}{c:UInt8}
namespace Go.Proofs.YtnepbjnlmkppmaaGreatDoor
section
open Kp
def Gr(k:Int):K:=([[],qd,nT,iF,iy,fD,lE,mH,qa,p8,lN,mU,iL]:List K).getD k.toNat []
def zl(k:Int)(hk:0<=k/\k<=12)(w:U):XY Xz 31 #[G F k] w λx w'=>x=YC (Yy (tx (Gr k)))/\Ext w w':=by
 obtain⟨h1,h2⟩:=hk;rcases(show k=0\/k=1\/k=2\/k=3\/k=4\/k=5\/k=6\/k=7\/k=8\/k=9\/k=10\/k=11\/k=12 by omega) with rfl|rfl|rfl|rfl|rfl|rfl|rfl|rfl|rfl|rfl|rfl|rfl|rfl
 all_goals
  clear h1 h2;go_enter func31,ntmps31;go_wp2;go_ret;exact⟨H,(XI _ _).alloc (XE _) _⟩
theorem SV(c:d<10){W:U}(h:ai W g 5 [G .u8 (48+(d:Int))]):Sem.run Xz (convert 83 9 (V (L ⟨g,0,I⟩) 1 1)) W= .ok (Yy ⟨#[UInt8.ofNat (48+d)]⟩) W:=by
 refine run_convert_bytes_back (P:=Xz) _ 83 9 5 ⟨g,0,I⟩ 1 [UInt8.ofNat (48+d)] underlying83 underlying5 underlying9 (λj b=> ?_);obtain rfl:j=0:=by simpa using b
 have a:((UInt8.ofNat (48+d)).toNat:Int)=48+(d:Int):=by rw[UInt8.toNat_ofNat'];omega
 rw[List.getElem_cons_zero,a];exact h.cell 0
def Pp(d:Nat)(a:d<10)(W:U):Sem.run Xz (convert 83 9 (V (L ⟨W.heap.size,0,I⟩) 1 1)) (W.alloc (.cells #[G .u8 (48+(d:Int))] 5))= .ok (Yy ⟨#[UInt8.ofNat (48+d)]⟩) (W.alloc (.cells #[G .u8 (48+(d:Int))] 5)):=SV a (ai.new W 5 [G .u8 (48+(d:Int))])
theorem DC(a:d<10):IntKind.u8.wrap (48+(d:Int))=48+(d:Int):=by
 have:∀k:Fin 10,IntKind.u8.wrap (48+((k.1:Nat):Int))=48+((k.1:Nat):Int):=YK;exact this ⟨d,a⟩
def Fs(n:Nat)(a:n<10)(w:U):XY Xz 36 #[G F (n:Int)] w λx w'=>x=YC (Yy (tx (Lib.decDigits n)))/\Ext w w':=by
 rw[Lib.decDigits_one a];have f:YG ((n:Int)<0)=O:=XU D;have g:YG ((n:Int)<10)=Y:=Yb D;have e:YG (n<10)=Y:=Yb a;have w1:F.wrap (48+(n:Int))=48+(n:Int):=Yh _ D;have w2:=DC a;have d:=Pp n a w;obtain⟨c,b⟩:=aa (UInt8.ofNat (48+n));rw[b] at d⊢;clear b;go_enter func36,ntmps36;go_wp2;go_ret;exact⟨H,(XI _ _).alloc (XE _) _⟩
def Bv(a b:K):tx a++tx b=tx (a++b):=by
 apply ByteArray.ext;simp[ByteArray.data_append]
def Jb(m:Nat)(h:m<=4611686018427387904):(Lib.decDigits m).length<=20:=by
 rw[Lib.decDigits_length];exact Lib.nDigits_le20 m D
def FL(n m d:Nat)(c:UInt8):Nat->Z
 |0=> G F (n:Int)
 |1=> G F (m:Int)
 |2=> Yy (tx (Lib.decDigits m))
 |3=> G F (n:Int)
 |4=> G F (d:Int)
 |5=> G F (48+(d:Int))
 |6=> G .u8 (48+(d:Int))
 |8=> Yy ⟨#[c]⟩
 |9=> Yy (tx (Lib.decDigits m++[c]))
 |_=>M
def LR(n m d:Nat)(c:UInt8):Nat->Z->U->Prop
 |7,v,w=>∃g,v=V (L ⟨g,0,I⟩) 1 1/\ai w g 5 [G .u8 (48+(d:Int))]
 |q,v,_=>v=FL n m d c q
theorem PN{n m d:Nat}{v:Z}{w w':U}(h:LR n m d c q v w)(hx:Ext w w'):LR n m d c q v w':=by
 unfold LR at *;exact a3k
def Ec(b:Nat):∀(n:Nat),n<b->n<=4611686018427387904->∀w,XY Xz 36 #[G F (n:Int)] w λx w'=>x=YC (Yy (tx (Lib.decDigits n)))/\Ext w w':=by
 induction b with
 |zero=>intro n h;omega
 |succ b B=>
  intro n P hm w;by_cases f:n<10
  ·exact Fs n f w
  ·have C:=A (show Lib.decDigits n=Lib.decDigits (n/10)++[UInt8.ofNat (48+n%10)] by rw[Lib.decDigits,dif_neg f]);rw[C.o];have j:=A (B (n/10) D D);have t1:YG ((n:Int)<0)=O:=XU D;have t2:YG ((n:Int)<10)=O:=XU D;have V:YG (n<10)=O:=XU f;obtain⟨d,a⟩:=aa (n%10);have g:d<10:=D;rw[a];have I:Int.tdiv (n:Int) 10=((n/10:Nat):Int):=(Int.ofNat_tdiv n 10).symm;have Z:Int.tmod (n:Int) 10=(d:Int):=by rw[<-a];exact(Int.ofNat_tmod n 10).symm
   have L:F.wrap ((n/10:Nat):Int)=((n/10:Nat):Int):=Yh _ D;have X:F.wrap (d:Int)=(d:Int):=Yh _ D;have w1:F.wrap (48+(d:Int))=48+(d:Int):=Yh _ D;have w2:=DC g;obtain⟨c,l⟩:=aa (UInt8.ofNat (48+d));rw[l];obtain⟨m,s⟩:=aa (n/10);rw[s] at j I L⊢;have ab:=Jb m D;clear a s P B f C;go_enter func36,ntmps36;go_upto_region 5 with fail
   refine wp_region_any R (fC 10 (λe=>⟨#[G F (n:Int),M,Yy {data:=#[]},G F (n:Int),Yz O,M,M,M,M,G F (n:Int),Yz O,M,M,M,M,M,e 0,e 1,e 2,e 3,e 4,e 5,e 6,e 7,e 8,e 9],[]⟩)
    (λw'=>Ext w w') (λq v W=>LR n m d c q v W) (λ_=>O) R (λ_ _ h k=>h.tr k) (λ_ _ _ _ h k=>PN h k) (λ_ _ _ _ h=>YM) ?step ?tail (λ_=>M) _ (Ext.dr _))
   case step=>
    intro q e w' Q t a;rcases(show q=0\/q=1\/q=2\/q=3\/q=4\/q=5\/q=6\/q=7\/q=8\/q=9 by omega) with rfl|rfl|rfl|rfl|rfl|rfl|rfl|rfl|rfl|rfl<;>clear Q<;>refine XR rfl (λac hK=> ?_)
    ·exact a1k
    ·have u:=a 0 YK R;simp only[LR,FL] at u;go_simp;exact hK _ _ ⟨_,by simp[u,bN,FL],Ext.ah _,rfl,λh=>YM⟩
    ·have d1:=a 1 YK R;simp only[LR,FL] at d1;go_simp;refine(j.o _).mono ?_;rintro ee W1 ⟨rfl,N⟩;exact hK _ _ ⟨_,by simp[d1,bN,FL],N,rfl,λh=>YM⟩
    ·exact a1k
    ·have y:=a 3 YK R;simp only[LR,FL] at y;go_simp;exact hK _ _ ⟨_,by simp[y,bN,FL],Ext.ah _,rfl,λh=>YM⟩
    ·have o:=a 4 YK R;simp only[LR,FL] at o;go_simp;exact hK _ _ ⟨_,by simp[o,bN,FL],Ext.ah _,rfl,λh=>YM⟩
    ·have E:=a 5 YK R;simp only[LR,FL] at E;go_simp;exact hK _ _ ⟨_,by simp[E,bN,FL],Ext.ah _,rfl,λh=>YM⟩
    ·have i:=a 6 YK R;simp only[LR,FL] at i;go_simp;exact hK _ _ ⟨_,by simp[i,bN],(XI _ _).alloc (XE _) _,⟨_,rfl,ai.new _ _ _⟩,λh=>YM⟩
    ·obtain⟨Y,K,T⟩:=a 7 YK R;have U:=SV g T;rw[l] at U;go_simp;exact hK _ _ ⟨_,by simp[K,bN,FL],Ext.ah _,rfl,λh=>YM⟩
    ·have d2:=a 2 YK R;have r:=a 8 YK R;simp only[LR,FL] at d2 r;have S:tx (Lib.decDigits m)++(⟨#[c]⟩:ByteArray)=tx (Lib.decDigits m++[c]):=Bv _ _;have tl:¬9223372036854775807<(tx (Lib.decDigits m)).size+1:=ZB;have ad:¬9223372036854775807<(Lib.decDigits m).length+1:=D;go_simp;exact hK _ _ ⟨Yy (tx (Lib.decDigits m++[c])),by simp[d2,r,S],Ext.ah _,rfl,λh=>YM⟩
   case tail=>
    intro e w' t J _;have z:=J 9 YK;simp only[LR,FL] at z;simp only[z,List.drop_succ_cons,List.drop_zero];go_wp2;go_ret;exact⟨H,t⟩
def Ox(n:Int)(b: -4611686018427387904<=n)(h1:n<=4611686018427387904)(w:U):XY Xz 36 #[G F n] w λx w'=>x=YC (Yy (tx (Lib.itoa n)))/\Ext w w':=by
 by_cases a:n<0
 ·obtain⟨u,rfl⟩:∃u:Nat,n= -(u:Int):=⟨n.natAbs,D⟩;rw[Lib.itoa_neg u D];have e:=A (Ec (u+1) u D D);have j:YG (-(u:Int)<0)=Y:=Yb a;have f: - -(u:Int)=(u:Int):=D;have w1:F.wrap (u:Int)=(u:Int):=Yh _ D;have d:=Jb u D;have i:(⟨#[45]⟩:ByteArray)++tx (Lib.decDigits u)=tx (45::Lib.decDigits u):=Bv [45] _;have tl:¬9223372036854775807<1+(tx (Lib.decDigits u)).size:=ZB;have k:¬9223372036854775807<1+(Lib.decDigits u).length:=D;have g:0<u:=D;clear b h1 a d;go_enter func36,ntmps36;go_wp2_with(go_at_call 36;refine(e.o _).mono ?_;rintro r W1 ⟨rfl,c⟩)
  go_ret;exact⟨H,c⟩
 ·obtain⟨u,rfl⟩:∃u:Nat,n=(u:Int):=⟨n.toNat,D⟩;rw[Lib.itoa_nonneg];exact Ec (u+1) u D D w
end
section
open Kp
def U2(w:U)(n:Nat)(i:Z)(wr:U):Prop:=∃k:Nat,k<=n/\i=G F (k:Int)/\Ext w wr
theorem pL(h:p:=by
  rw[run_neq_struct,run_equalIn_agg _ _ _ _ _ R R];simp only[Program.fieldsOf,a];simp[go_sem,Result.andThen,underlying3,isAgg3,underlying4,isAgg4,underlying37,isAgg37]):p:=h
def fK{w wr:U}{b o:Nat}{v:Option Z}(a:Ext w wr)(c:b<w.heap.size)(h:w.cell? ⟨b,o,I⟩=v):wr.cell? ⟨b,o,I⟩=v:=(a.cell (p:=⟨b,o,I⟩) c).trans h
def UK(f:FuncId)(t:Yj)(k:Nat):Prop:=∀(w:U) (b d:Option Ym) (a c:Nat) (rows:List (List Z)),bR k w w.heap.size b a rows->bR k w w.heap.size d c rows->dv k rows->
  (∀r∈rows,∀W,(binOp .neq t (YE r.toArray) (YE r.toArray)).run Xz W= .ok (Yz O) W)->
  XY Xz f #[V b (ln rows) a,V d (ln rows) c] w λe w'=>e=YC (Yz Y)/\Ext w w'
theorem Pr(h:p:=by
  obtain⟨m,hm,rfl,hX⟩:=hrel;have HX:=A hX;clear hX;by_cases hlt:m<ln rows
  ·obtain⟨b,off,rfl,hB,hc⟩:=H3.o D;obtain⟨b',off',rfl,hB',hc'⟩:=H4.o D;obtain⟨r,a⟩:=aa (rows.getD m []);have hmem:r∈rows:=by rw[<-a,XJ,XO hlt];exact List.getElem_mem hlt
   have hlen:=HW.o r hmem;have hself:=HS.o r hmem
   try have c0:=fK HX.o hB (hc m hlt 0 YK)
   try have d0:=fK HX.o hB' (hc' m hlt 0 YK)
   try rw[a,Yd] at c0 d0
   try have c1:=fK HX.o hB (hc m hlt 1 YK)
   try have d1:=fK HX.o hB' (hc' m hlt 1 YK)
   try rw[a,Yd] at c1 d1
   try have c2:=fK HX.o hB (hc m hlt 2 YK)
   try have d2:=fK HX.o hB' (hc' m hlt 2 YK)
   try rw[a,Yd] at c2 d2
   try have c3:=fK HX.o hB (hc m hlt 3 YK)
   try have d3:=fK HX.o hB' (hc' m hlt 3 YK)
   try rw[a,Yd] at c3 d3
   try have c4:=fK HX.o hB (hc m hlt 4 YK)
   try have d4:=fK HX.o hB' (hc' m hlt 4 YK)
   try rw[a,Yd] at c4 d4
   try have c5:=fK HX.o hB (hc m hlt 5 YK)
   try have d5:=fK HX.o hB' (hc' m hlt 5 YK)
   try rw[a,Yd] at c5 d5
   try have c6:=fK HX.o hB (hc m hlt 6 YK)
   try have d6:=fK HX.o hB' (hc' m hlt 6 YK)
   try rw[a,Yd] at c6 d6
   rw[Nat.add_zero] at c0 d0;clear a hc hc' hmem;rcases r with _|⟨x0,_|⟨x1,_|⟨x2,_|⟨x3,_|⟨x4,_|⟨x5,_|⟨x6,_|⟨x7,r⟩⟩⟩⟩⟩⟩⟩⟩<;>first|(exfalso;simp only[List.length_cons,List.length_nil] at hlen;omega)|skip
   clear hlen;have tlt:YG ((m:Int)<(ln rows:Int))=Y:=Yb D;have e3:(m:Int)<(ln rows:Int):=D;exact a3q
  ·have tlt:YG ((m:Int)<(ln rows:Int))=O:=XU D;go_wp2;go_ret;exact⟨H,HX.o⟩):p:=h
def Ly(b:Int)(d:Int)(c:Int)(W:U):(binOp .neq 41 (YE #[G F b,G F d,G F c]) (YE #[G F b,G F d,G F c])).run Xz W= .ok (Yz O) W:=by
 have a:=underlying41;exact pL
def JU(b:Int)(d:Int)(c:List UInt8)(W:U):(binOp .neq 46 (YE #[G F b,G F d,Yy (tx c)]) (YE #[G F b,G F d,Yy (tx c)])).run Xz W= .ok (Yz O) W:=by
 have a:=underlying46;exact pL
def J6(b:Int)(d:List UInt8)(c:List UInt8)(f:List UInt8)(e:List UInt8)(W:U):(binOp .neq 39 (YE #[G F b,Yy (tx d),Yy (tx c),Yy (tx f),Yy (tx e)]) (YE #[G F b,Yy (tx d),Yy (tx c),Yy (tx f),Yy (tx e)])).run Xz W= .ok (Yz O) W:=by
 have a:=underlying39;exact pL
def LJ(b:Int)(e:Int)(c:Int)(i:Int)(g:Bool)(d:Int)(f:Int)(W:U):(binOp .neq 36 (YE #[G F b,G F e,G F c,G F i,Yz g,G F d,G F f]) (YE #[G F b,G F e,G F c,G F i,Yz g,G F d,G F f])).run Xz W= .ok (Yz O) W:=by
 have a:=underlying36;exact pL
def Lj(b:Int)(d:Int)(c:Int)(f:Int)(e:Int)(W:U):(binOp .neq 48 (YE #[G F b,G F d,G F c,G F f,G F e]) (YE #[G F b,G F d,G F c,G F f,G F e])).run Xz W= .ok (Yz O) W:=by
 have a:=underlying48;exact pL
def JJ(a c b d:Int)(W:U):(binOp .eql 30 (YE #[G F a,G F c,G F b,G F d]) (YE #[G F a,G F c,G F b,G F d])).run Xz W= .ok (Yz Y) W:=by
 rw[run_eql_struct,run_equalIn_agg _ _ _ _ _ R R];simp only[Program.fieldsOf,underlying30];simp[go_sem,Result.andThen,underlying3,isAgg3]
end
section
open Kp
theorem ow(h:p:=by
  obtain⟨h1,h2,h3⟩:=a;obtain⟨h1',h2',h3'⟩:=e;unfold Yk at h2 h2';have H3:=A h3;have H4:=A h3';have HW:=A d;have HS:=A c;clear h3 h3' d c;go_wp2;go_loopw [5] (λi wr=>U2 w (ln rows) i wr) (λi _=>((ln rows:Int)-Yf i).toNat)
  case atStart=>exact⟨0,D,rfl,Ext.ah _⟩
  case round=>exact Pr):p:=h
def Ke:UK 41 41 3:=by
 intro w f g j k rows a e d c;go_enter func41,ntmps41;exact ow
def Jy:UK 43 46 3:=by
 intro w f g j k rows a e d c;go_enter func43,ntmps43;exact ow
def J8:UK 44 48 5:=by
 intro w f g j k rows a e d c;go_enter func44,ntmps44;exact ow
def Gn:UK 40 39 5:=by
 intro w f g j k rows a e d c;go_enter func40,ntmps40;exact ow
def LP(b:Int)(c:Int)(W:U):(binOp .neq 135 (YE #[G F b,G F c]) (YE #[G F b,G F c])).run Xz W= .ok (Yz O) W:=by
 have a:=underlying135;exact pL
def Cm:UK 104 135 2:=by
 intro w f g j k rows a e d c;go_enter func104,ntmps104;exact ow
def CC(w:U)(j k:Option Ym)(r s:Nat)(l:List Int)(B:bR 1 w w.heap.size j r (aU l))(J:bR 1 w w.heap.size k s (aU l)):
  XY Xz 39 #[V j (ln l) r,V k (ln l) s] w λe w'=>e=YC (Yz Y)/\Ext w w':=by
 obtain⟨h1,h2,d⟩:=B;obtain⟨C,y,f⟩:=J;rw[XP] at h1 d C f;unfold Yk at h2 y;have M:=A d;have t:=A f;clear d f;go_enter func39,ntmps39;go_wp2;go_loopw [5] (λi wr=>U2 w (ln l) i wr) (λi _=>((ln l:Int)-Yf i).toNat)
 case atStart=>exact⟨0,D,rfl,Ext.ah _⟩
 case round=>
  obtain⟨m,Q,rfl,o⟩:=hrel;have HX:=A o;clear o;by_cases g:m<ln l
  ·obtain⟨b,off,rfl,u,n⟩:=M.o D;obtain⟨K,E,rfl,v,q⟩:=t.o D;have a:=fK HX.o u (n m g 0 YK);have c:=fK HX.o v (q m g 0 YK);rw[je g,Nat.one_mul,Nat.add_zero] at a c;obtain⟨x,hx⟩:=aa (l.getD m 0);rw[hx] at a c;have P:wr.cell? ⟨b,off+m,I⟩=L (G F x):=a;have S:wr.cell? ⟨K,E+m,I⟩=L (G F x):=c;have R:(x==x)=Y:=Yt x;clear n q a c hx;have z:YG ((m:Int)<(ln l:Int))=Y:=Yb D;have N:(m:Int)<(ln l:Int):=D;exact a3q
  ·exact a3u
def Lv(w:U)(j k:Option Ym)(l r:Nat)(rs:List (List Sd))(hr:gw w w.heap.size j l rs)(ae:gw w w.heap.size k r rs):
  XY Xz 38 #[YE #[V j (ln rs) l],YE #[V k (ln rs) r]] w λe w'=>e=YC (Yz Y)/\Ext w w':=by
 obtain⟨d,u⟩:=aa ((w.alloc (.cells #[V j (ln rs) l] 24)).alloc (.cells #[V k (ln rs) r] 24));have M:Ext w d:=by rw[<-u];exact((XI _ _).alloc (XE _) _).alloc YL _
 have x:=A (λ(W:U) (h:Ext d W)=>(show W.cell? ⟨w.heap.size,0,I⟩=L (V j (ln rs) l) by
  have q:ai d w.heap.size 24 [V j (ln rs) l]:=by rw[<-u];exact(ai.new w _ _).ext ((XI _ _).alloc (XE _) _)
  exact(q.ext h).cell 0))
 have y:=A (λ(W:U) (h:Ext d W)=>(show W.cell? ⟨w.heap.size+1,0,I⟩=L (V k (ln rs) r) by
  have q:ai d (w.heap.size+1) 24 [V k (ln rs) r]:=by
   have h:=ai.new (w.alloc (.cells #[V j (ln rs) l] 24)) 24 [V k (ln rs) r];rw[Ya] at h;rw[<-u];exact h
  exact(q.ext h).cell 0))
 have HW:=A u;have c:=A M;obtain⟨h1,h2,J⟩:=hr;obtain⟨an,ah,K⟩:=ae;unfold Yk at h2 ah;have H3:=A J;have X:=A K;have a0:=x.o _ (Ext.ah _);have b0:=y.o _ (Ext.ah _);clear J K u M;go_enter func38,ntmps38;go_upto_region 1 with(fail)
 rw[HW.o];go_wp2;go_loopw [5] (λi wr=>U2 d (ln rs) i wr) (λi _=>((ln rs:Int)-Yf i).toNat)
 case atStart=>exact⟨0,D,rfl,Ext.ah _⟩
 case round=>
  obtain⟨m,hm,rfl,P⟩:=hrel;have a:=A P;clear P;have a1:=x.o _ a.o;have b1:=y.o _ a.o;by_cases B:m<ln rs
  ·obtain⟨b,off,rfl,hB,C⟩:=H3.o D;obtain⟨b',ad,rfl,ag,Q⟩:=X.o D;obtain⟨Ai,ci,z,g⟩:=C m B;obtain⟨ak,af,v,t⟩:=Q m B;obtain⟨ring,F⟩:=aa (rs.getD m []);rw[F] at z v g t;have S:=A (λ(W:U) (h:Ext d W)=>((c.o.tr h).cell (p:=⟨b,off+m,I⟩) hB).trans z);have N:=A (λ(W:U) (h:Ext d W)=>((c.o.tr h).cell (p:=⟨b',ad+m,I⟩) ag).trans v);have c1:=S.o _ a.o;have d1:=N.o _ a.o;have g1:=g.1;have g2:=g.2.1;have ab:=t.1;have aj:=t.2.1;rw[XP] at g1 ab;unfold Yk at g2 aj;have G3:=A (λ(W:U) (h:Ext d W)=>((g.below (c.o.tr h)).more (c.o.tr h).size:bR 7 W W.heap.size Ai ci (aE ring)));have G4:=A (λ(W:U) (h:Ext d W)=>((t.below (c.o.tr h)).more (c.o.tr h).size:bR 7 W W.heap.size ak af (aE ring)));have Z:YG ((m:Int)<(ln rs:Int))=Y:=Yb D;have e3:(m:Int)<(ln rs:Int):=D;clear F C Q z v g t;go_wp2_with fail
   go_quiet (fail)
   go_wp2;go_loopw [6] (λi wr=>U2 d (ln ring) i wr) (λi _=>((ln ring:Int)-Yf i).toNat)
   case atStart=>exact⟨0,D,rfl,below_drewN a.o _⟩
   case round=>
    obtain⟨n,hn,rfl,R⟩:=hrel;have f:=A R;clear R;have a2:=x.o _ f.o;have b2:=y.o _ f.o;have c2:=S.o _ f.o;have d2:=N.o _ f.o;by_cases G:n<ln ring
    ·obtain⟨p,o,rfl,-,T⟩:=gB (G3.o _ f.o) D;obtain⟨p',o',rfl,-,E⟩:=gB (G4.o _ f.o) D;have h1:=T n G;have h2:=E n G;obtain⟨s,g⟩:=aa (au ring n);rw[g] at h1 h2;obtain⟨s0,s1,s2,s3,s4,s5,s6⟩:=h1;obtain⟨u0,u1,u2,u3,u4,u5,u6⟩:=h2;have am:=λac=>LJ s.x s.y s.rise s.run s.gable s.plate s.over ac
     have al:YG ((n:Int)<(ln ring:Int))=Y:=Yb D;have e4:(n:Int)<(ln ring:Int):=D;clear g T E;go_wp2_with fail
     go_quiet (fail)
     go_wp2;exact⟨⟨n+1,D,YL,below_drewN f.o _⟩,YO⟩
    ·have al:YG ((n:Int)<(ln ring:Int))=O:=XU D;go_wp2;exact⟨⟨m+1,D,YL,f.o⟩,YO⟩
  ·have Z:YG ((m:Int)<(ln rs:Int))=O:=XU D;exact a2Y
end
end Go.Proofs.YtnepbjnlmkppmaaGreatDoor

