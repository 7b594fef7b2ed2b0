/- ChangeApplies of kingpostlaw58: part 16 of its proof (merged and shortened by program). -/
import Derived.Laws.Rows
import Derived.Laws.Tables
import Derived.WideMake
import Derived.MapKept
import Derived.Laws.StructEq
import Derived.Deep.DeepCutAuto
import Derived.Test.YtnepbjnlmkppmaaGreatDoorP02
set_option linter.unusedVariables false
set_option linter.unusedSimpArgs false
set_option linter.defProp false
set_option maxHeartbeats 8000000
set_option maxRecDepth 100000
open Go.RowKit Go.Shelf Go.Proofs.Tryz
open Bool renaming false→O,true→Y
open Go renaming World→U,undef→M,Value→Z,Calls→XY,TypeId→Yj,Addr→Ym
open Go.Ending renaming returned→YC
open Go.IntKind renaming i64→F
open Go.Lib renaming hid→A
open Go.Proofs.Tryz renaming prog→Xz
open Go.RowKit renaming Below→Yl
open Go.Value renaming slice→V,bool→Yz,int→G,agg→YE
open List renaming length→ln
open Option renaming none→I,some→L
open Go.Proofs.YtnepbjnlmkppmaaGreatDoor
variable{q:Array Z}{s r:List UInt8}{l:List Z}{n b c k f:Nat}{d:Option Ym}{p:Prop}{o:Type}{j w w':U}{g:Z}{t:Yj}
namespace Go.Proofs.YtnepbjnlmkppmaaGreatDoor
section
open Kp
attribute [local go_sem] aF dG eV gJ il gL gK gM gN gW gZ en ef eh dZ dk eL eP dW dX dU dV eo dt eH eI dY eO eR eK eB eM ff eY fe eZ dd dP
set_option maxHeartbeats 80000000 in
def Te(w:U)(a b:Ed)(d n:Option Ym)(m o:Nat)(z:aT w w.heap.size d m a.gaps)(y:aT w w.heap.size n o b.gaps)(u:((a.kind==b.kind)&&(a.index==b.index)&&(nU a b))=O):
  XY Xz 62 #[YE (P a (V d (ln a.gaps) m)),YE (P b (V n (ln b.gaps) o))] w λe w'=>e=YC (Yz (im a b))/\Yl w.heap.size w w':=by
 have M:Xz.follows .mixedOrders=Y:=R;have F:=A z;have G:=A y;obtain⟨r,c⟩:=aa (im a b);rw[c];have v:=A c;clear z y c;go_enter func62,ntmps62;go_upto_region 1 with fail
 go_cut [5,6] (λI B K=>Ij w a b d n m o I B K)
 case first =>
  go_region_o
  all_goals go_wp2_with fail
  all_goals go_meet
  ·exact a2o
  ·exact a2n
 case rest=>
  obtain⟨ea,eb,⟨p,q,rfl,rfl,ra,rb⟩,j⟩:=hcut;have g:=A ea;have f:=A eb;have N:=λi=>g.o.cell i
  have L:=λi=>f.o.cell i
  have S:=λi=>bw.cell ra i
  have Q:=λi=>bw.cell rb i
  have l:=ea.lt;have t:=eb.lt;have x:=j.size;have s:=A (po wc d n m o a.gaps b.gaps ((F.o.below j).more x) ((G.o.below j).more x));have k:=A j;clear ea eb ra rb j;have c:=v.o;clear v;unfold im at c;cases J:(a.kind==b.kind)<;>simp only[J,Bool.false_and,Bool.true_and] at c u
  case' true=>cases C:(a.index==b.index)<;>simp only[C,Bool.false_and,Bool.true_and] at c u
  case' true=>have E:(nU a b)=O:=u
  case' true=>simp only[E,Bool.false_and] at c
  all_goals exact uy
end
end Go.Proofs.YtnepbjnlmkppmaaGreatDoor

