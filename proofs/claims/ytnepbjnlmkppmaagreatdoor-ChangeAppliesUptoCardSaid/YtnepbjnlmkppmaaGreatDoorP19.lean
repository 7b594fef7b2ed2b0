/- ChangeApplies of kingpostlaw58: part 19 of its proof (merged and shortened by program). -/
import Derived.Test.YtnepbjnlmkppmaaGreatDoorP02
set_option linter.unusedVariables false
set_option linter.unusedSimpArgs false
set_option linter.defProp false
set_option maxHeartbeats 8000000
set_option maxRecDepth 100000
open Go.RowKit Go.Shelf Go.Proofs.Tryz
open Bool renaming false→O,true→Y
open Go renaming World→U,undef→M,Value→Z,Calls→XY,Addr→Ym
open Go.Ending renaming returned→YC
open Go.IntKind renaming i64→F
open Go.Lib renaming hid→A
open Go.Proofs.Tryz renaming prog→Xz
open Go.RowKit renaming Below→Yl
open Go.Value renaming slice→V,bool→Yz,int→G,agg→YE
open List renaming length→ln
open Option renaming none→I,some→L
open Go.Proofs.YtnepbjnlmkppmaaGreatDoor
namespace Go.Proofs.YtnepbjnlmkppmaaGreatDoor
section
open Kp
attribute [local go_sem] aF dG eV gJ il gL gK gM gN gW gZ en ef eh dZ dk eL eP dW dX dU dV eo dt eH eI dY eO eR eK eB eM ff eY fe eZ dd dP
set_option maxHeartbeats 80000000 in
def T4(w:U)(a b:Ed)(u m:Option Ym)(j n:Nat)(z:aT w w.heap.size u j a.gaps)(y:aT w w.heap.size m n b.gaps)(X:(a.kind==b.kind)=Y)(G:(a.index==b.index)=Y)(I:(nU a b)=Y)(B:(vS a b)=Y)(L:(oh a b)=Y)(T:(a.bwidth==b.bwidth)=Y)(S:(a.bdepth==b.bdepth)=Y)(o:((a.blength==b.blength)&&(a.bcount==b.bcount)&&(a.bcost==b.bcost)&&(a.gaps==b.gaps))=O):
  XY Xz 62 #[YE (P a (V u (ln a.gaps) j)),YE (P b (V m (ln b.gaps) n))] w λe w'=>e=YC (Yz (im a b))/\Yl w.heap.size w w':=by
 have ac:Xz.follows .mixedOrders=Y:=R;have K:=A z;have M:=A y;obtain⟨r,c⟩:=aa (im a b);rw[c];have v:=A c;clear z y c;go_enter func62,ntmps62;go_upto_region 1 with fail
 go_cut [5,6] (λQ E Z=>Ij w a b u m j n Q E Z)
 case first =>
  go_region_o
  all_goals go_wp2_with fail
  all_goals go_meet
  ·exact a2o
  ·exact a2n
 case rest=>
  obtain⟨ea,eb,⟨p,q,rfl,rfl,ra,rb⟩,d⟩:=hcut;have g:=A ea;have f:=A eb;have ad:=λi=>g.o.cell i
  have ab:=λi=>f.o.cell i
  have af:=λi=>bw.cell ra i
  have ae:=λi=>bw.cell rb i
  have l:=ea.lt;have t:=eb.lt;have x:=d.size;have s:=A (po wc u m j n a.gaps b.gaps ((K.o.below d).more x) ((M.o.below d).more x));have k:=A d;clear ea eb ra rb d;have c:=v.o;clear v;unfold im at c;simp only[X,G,I,B,L,T,S,Bool.true_and] at c;cases N:(a.blength==b.blength)<;>simp only[N,Bool.false_and,Bool.true_and] at c o
  case' true=>cases F:(a.bcount==b.bcount)<;>simp only[F,Bool.false_and,Bool.true_and] at c o
  case' true=>cases C:(a.bcost==b.bcost)<;>simp only[C,Bool.false_and,Bool.true_and] at c o
  case' true=>have J:(a.gaps==b.gaps)=O:=o
  case' true=>simp only[J,Bool.false_and] at c
  all_goals exact uy
end
end Go.Proofs.YtnepbjnlmkppmaaGreatDoor

