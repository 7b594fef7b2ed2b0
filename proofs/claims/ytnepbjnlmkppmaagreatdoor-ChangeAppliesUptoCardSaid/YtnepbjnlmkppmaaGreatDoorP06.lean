/- ChangeApplies of kingpostlaw58: part 6 of its proof (merged and shortened by program). -/
import Derived.Test.YtnepbjnlmkppmaaGreatDoorP02
import Derived.Test.YtnepbjnlmkppmaaGreatDoorP03
set_option linter.unusedVariables false
set_option linter.unusedSimpArgs false
set_option linter.defProp false
set_option maxHeartbeats 8000000
set_option maxRecDepth 100000
open Go.RowKit Go.Shelf Go.Proofs.Tryz
open Bool renaming false→O,true→Y
open Go renaming World→U,undef→M,Value→Z,Calls→XY,Addr→Ym
open Go.Ending renaming returned→YC
open Go.IntKind renaming i64→F
open Go.Lib renaming hid→A
open Go.Proofs.Tryz renaming prog→Xz
open Go.RowKit renaming Below→Yl
open Go.Value renaming slice→V,string→Yy,bool→Yz,int→G,agg→YE,tuple→YF
open List renaming length→ln
open Option renaming none→I,some→L
open Go.Proofs.YtnepbjnlmkppmaaGreatDoor
namespace Go.Proofs.YtnepbjnlmkppmaaGreatDoor
section
open Kp
def uZ(a:List UInt8)(w:U)(l:ln a<=300000)(f:jE w)(j:bE w):XY Xz 247 #[Yy (tx a)] w λe w'=>
  ∃x y:ByteArray,e=YC (YF #[Yy x,Yy y,G F (aC a)])/\(aC a=0->∃n d,eU a=L (n,d)/\x=tx n/\y=tx d)/\Ext w w':=by
 have b:=A (pB a w l f j);obtain⟨c,i⟩:=aa (aC a);unfold Aj at b;rw[i] at b⊢;clear f j i;go_enter func247,ntmps247;go_wp2_with(go_at_call 228;refine b.o.mono ?_;rintro e W1 ⟨x,y,rfl,h,g⟩;have k:=A h;clear h)
 go_quiet (fail)
 go_wp2;refine bodyPost_ret (v:= YF #[Yy x,Yy y,G F c]) ?_ H ⟨x,y,H,k.o,?_⟩
 ·simp[results,results247,go_sem]
 ·exact below_drewN (g.alloc g.size _) _
end
section
open Kp
noncomputable def iw(a:List UInt8):Int:=if aC a=0 then(match eU a with|none=>0|some (n,d)=>if 12<(own n).length\/12<ln d then 4 else 0) else aC a
def Eu(a:List UInt8)(w:U)(v:ln a<=300000)(m:jE w)(r:bE w):XY Xz 273 #[Yy (tx a)] w λe w'=>e=YC (G F (iw a))/\Ext w w':=by
 have i:=A (uZ a w v m r);clear m r;by_cases b:aC a=0
 ·rw[b] at i;cases f:eU a with
  |none=>
   have z:=A f;refine absurd f ?_;intro _;obtain⟨n,d,s⟩:∃n d,eU a=L (n,d):=by
    unfold aC at b;rw[f] at b;cases b
   rw[s] at f;cases f
  |some p=>
   obtain⟨n,d⟩:=p;have g:=A (show iw a=if 12<(own n).length\/12<ln d then 4 else 0 by unfold iw;rw[XT b,f]);have t:=A f;clear b f;obtain⟨o,l⟩:=aa (own n);rw[l] at g;have u:=A l;clear l;by_cases h1:12<ln o
   ·have HR:=A (show iw a=4 by rw[g.o,XT (.inl h1)]);exact a1v
   by_cases h2:12<ln d
   ·have HR:=A (show iw a=4 by rw[g.o,XT (.inr h2)]);exact a1v
   ·have HR:=A (show iw a=0 by rw[g.o,XQ D]);exact a1v
 ·have HR:=A (show iw a=aC a by unfold iw;rw[XQ b]);obtain⟨c,q⟩:=aa (aC a);rw[q] at i HR b;have B:(c !=0)=Y:=by rw[Yn];exact b
  clear q b;go_enter func273,ntmps273;go_wp2_with(go_at_call 247;refine i.o.mono ?_;rintro e W1 ⟨x,y,rfl,k,j⟩;clear k)
  go_ret;exact⟨YQ,j⟩
end
section
open Kp
attribute [local go_sem] aF dG eV gJ il gL gK gM gN gW gZ en ef eh dZ dk eL eP dW dX dU dV eo dt eH eI dY eO eR eK eB eM ff eY fe eZ dd dP
set_option maxHeartbeats 80000000 in
def TN(w:U)(a b:Ed)(u m:Option Ym)(j n:Nat)(z:aT w w.heap.size u j a.gaps)(y:aT w w.heap.size m n b.gaps)(N:(a.kind==b.kind)=Y)(E:(a.index==b.index)=Y)(F:(nU a b)=Y)(o:((vS a b)&&(oh a b)&&(a.bwidth==b.bwidth)&&(a.bdepth==b.bdepth))=O):
  XY Xz 62 #[YE (P a (V u (ln a.gaps) j)),YE (P b (V m (ln b.gaps) n))] w λe w'=>e=YC (Yz (im a b))/\Yl w.heap.size w w':=by
 have T:Xz.follows .mixedOrders=Y:=R;have G:=A z;have J:=A y;obtain⟨r,c⟩:=aa (im a b);rw[c];have v:=A c;clear z y c;go_enter func62,ntmps62;go_upto_region 1 with fail
 go_cut [5,6] (λK C Q=>Ij w a b u m j n K C Q)
 case first =>
  go_region_o
  all_goals go_wp2_with fail
  all_goals go_meet
  ·exact a2o
  ·exact a2n
 case rest=>
  obtain⟨ea,eb,⟨p,q,rfl,rfl,ra,rb⟩,d⟩:=hcut;have g:=A ea;have f:=A eb;have X:=λi=>g.o.cell i
  have S:=λi=>f.o.cell i
  have ab:=λi=>bw.cell ra i
  have Z:=λi=>bw.cell rb i
  have l:=ea.lt;have t:=eb.lt;have x:=d.size;have s:=A (po wc u m j n a.gaps b.gaps ((G.o.below d).more x) ((J.o.below d).more x));have k:=A d;clear ea eb ra rb d;have c:=v.o;clear v;unfold im at c;simp only[N,E,F,Bool.true_and] at c;cases B:(vS a b)<;>simp only[B,Bool.false_and,Bool.true_and] at c o
  case' true=>cases I:(oh a b)<;>simp only[I,Bool.false_and,Bool.true_and] at c o
  case' true=>cases M:(a.bwidth==b.bwidth)<;>simp only[M,Bool.false_and,Bool.true_and] at c o
  case' true=>have L:(a.bdepth==b.bdepth)=O:=o
  case' true=>simp only[L,Bool.false_and] at c
  all_goals exact uy
end
end Go.Proofs.YtnepbjnlmkppmaaGreatDoor
