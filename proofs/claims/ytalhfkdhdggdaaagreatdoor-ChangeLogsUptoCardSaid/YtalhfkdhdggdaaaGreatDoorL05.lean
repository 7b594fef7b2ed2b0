/- ChangeLogs of kingpostlaw58: part 5 of its proof (merged and shortened by program). -/
import Derived.Test.YtalhfkdhdggdaaaGreatDoorL02
set_option linter.unusedVariables false
set_option linter.unusedSimpArgs false
set_option linter.defProp false
set_option maxHeartbeats 8000000
set_option maxRecDepth 100000
open Go.RowKit Go.Shelf Go.Proofs.Tryz
open And renaming intro→Ci
open Array renaming replicate→E7
open Bool renaming false→AM,true→AL
open ByteArray renaming size→OY
open Decidable renaming decide→AQ
open Go renaming World→V,Value→AN,Calls→AZ,TypeId→Bb,Addr→An,maxLen→BM,undef→Ba,Ending→CI,wpList→CQ,MemPlace→Dw,KeepsOthers→GF,MapEntry→FG,DataW→D6,Operand→F0,Act→BV
open Go.Act renaming put→G7
open Go.Builtin renaming zeroCells→Is,append_→JN
open Go.DataW renaming trod→ET
open Go.Ending renaming returned→Ac
open Go.Fence renaming wide→Ha
open Go.IntKind renaming i64→G
open Go.Lib renaming hasPrefix→DH,cut→Bj,compareInt→Dv,itoa→CY,decDigits→ES,split→Da,byteCells→IV
open Go.MapKept renaming IsKey→MV
open Go.Proofs.Tryz renaming prog→AO,underlying54→Cc,underlying34→DV,underlying25→FD,underlying3→GQ
open Go.Region renaming wanted→Ir
open Go.RowKit renaming intOf→B8,Below→At
open Go.Value renaming agg→Ea,oneCell'→Ks,slice→FO,ownBlock→Hv,int→Gr,slice→AK,string→AT,bool→AU,pointer→Ap,int→M,agg→AW,tuple→BO
open Go.World renaming setCell→Di,cell?→Dx,setRow→F8,frozen?→Hb
open List renaming replicate→F7,range→G8,getD→Gs,length→ln
open Nat renaming gcd→DO,reduceAdd→Hw
open Option renaming none→O,some→Q,getD→FF
open Or renaming inl→Cf
open UInt8 renaming ofNat→GR
open Go.Proofs.YtalhfkdhdggdaaaGreatDoor
namespace Go.Proofs.YtalhfkdhdggdaaaGreatDoor
section
open Kp
attribute [local go_sem] Eb Iy Jm I4 LW Hk Lw Lx Ly M0 M3 M4 M5 M6 M7 M8 Mf NU NV NW NY Mg Mh Mi Mj Ml Mm Mn Mo J9 M9 MA MB Mr Ms Mt MG MH
set_option maxHeartbeats 80000000 in
theorem b2s(w:V)(a b:Ed)(m o:Option An)(k l:Nat)(x:C8 w w.1.size m k a.Aa)(y:C8 w w.1.size o l b.Aa)(I:(a.Ab==b.Ab)=AL)(J:(a.Ae==b.Ae)=AL)(L:(P6 a b)=AL)(N:(Pd a b)=AL)(P:(Q7 a b)=AL)(R:(a.Ch==b.Ch)=AL)(S:(a.Ck==b.Ck)=AL)(s:((a.Co==b.Co)&&(a.Cp==b.Cp)&&(a.Cr==b.Cr)&&(a.Aa==b.Aa))=AM):
  AZ AO 104 #[AW (Ah a (AK m (ln a.Aa) k)),AW (Ah b (AK o (ln b.Aa) l))] w λe w'=>e=Ac (AU (Ja a b))/\At w.1.size w w':=by
 have ac:AO.follows .mixedOrders=AL:=U;have B:=A x;have C:=A y;have⟨r,c⟩:=AP (Ja a b);rw[c];have v:=A c;clear x y c;go_enter func104,ntmps104;go_upto_region 1 with fail
 go_cut [5,6] (λE H Z=>Zv w a b m o k l E H Z)
 case first =>
  go_region_o
  all_goals go_wp2_with fail
  all_goals go_meet
  .exact fV
  exact fU
 obtain⟨ea,eb,⟨p,q,rfl,rfl,ra,rb⟩,d⟩:=hcut;have f:=A ea;have g:=A eb;have aa:=λi=>f.cell i
 have ab:=λi=>g.cell i
 have ad:=λi=>Dc.cell ra i
 have ae:=λi=>Dc.cell rb i
 have t:=ea.lt;have u:=eb.lt;have z:=d.size;have n:=A (bn wc m o k l a.Aa b.Aa ((B.below d).more z) ((C.below d).more z));have j:=A d;clear ea eb ra rb d;have c:=v.o;clear v;unfold Ja at c;simp only[I,J,L,N,P,R,S,Hu] at c;cases T:(a.Co==b.Co)<;>simp only[T,Ji,Hu] at c s
 case' true=>cases X:(a.Cp==b.Cp)<;>simp only[X,Ji,Hu] at c s
 case' true=>cases Y:(a.Cr==b.Cr)<;>simp only[Y,Ji,Hu] at c s
 case' true=>have K:(a.Aa==b.Aa)=AM:=s
 case' true=>simp only[K,Ji] at c
 all_goals exact dO
set_option maxHeartbeats 80000000 in
theorem b3B(w:V)(a b:Ed)(m o:Option An)(k l:Nat)(v:C8 w w.1.size m k a.Aa)(x:C8 w w.1.size o l b.Aa)(H:(a.Ab==b.Ab)=AL)(I:(a.Ae==b.Ae)=AL)(S:(P6 a b)=AL)(T:(Pd a b)=AL)(X:(Q7 a b)=AL)(Y:(a.Ch==b.Ch)=AL)(Z:(a.Ck==b.Ck)=AL)(t7:(a.Co==b.Co)=AL)(t8:(a.Cp==b.Cp)=AL)(t9:(a.Cr==b.Cr)=AL)(J:(a.Aa==b.Aa)=AL):
  AZ AO 104 #[AW (Ah a (AK m (ln a.Aa) k)),AW (Ah b (AK o (ln b.Aa) l))] w λe w'=>e=Ac (AU (Ja a b))/\At w.1.size w w':=by
 have ac:AO.follows .mixedOrders=AL:=U;have z:=A v;have B:=A x;have⟨r,c⟩:=AP (Ja a b);rw[c];have s:=A c;clear v x c;go_enter func104,ntmps104;go_upto_region 1 with fail
 go_cut [5,6] (λC E wx=>Zv w a b m o k l C E wx)
 case first =>
  go_region_o
  all_goals go_wp2_with fail
  all_goals go_meet
  .exact fV
  exact fU
 obtain⟨ea,eb,⟨p,q,rfl,rfl,ra,rb⟩,d⟩:=hcut;have f:=A ea;have g:=A eb;have aa:=λi=>f.cell i
 have ab:=λi=>g.cell i
 have ad:=λi=>Dc.cell ra i
 have ae:=λi=>Dc.cell rb i
 have t:=ea.lt;have u:=eb.lt;have y:=d.size;have n:=A (bn wc m o k l a.Aa b.Aa ((z.below d).more y) ((B.below d).more y));have j:=A d;clear ea eb ra rb d;have c:=s.o;clear s;unfold Ja at c;simp only[H,I,S,T,X,Y,Z,t7,t8,t9,J,Hu] at c;cases K:(UO a b)<;>simp only[K,Ji,Hu] at c
 case' true=>cases L:(Ti a b)<;>simp only[L,Ji,Hu] at c
 case' true=>cases N:(UQ a b)<;>simp only[N,Ji,Hu] at c
 case' true=>cases P:(a.Av==b.Av)<;>simp only[P,Ji,Hu] at c
 case' true=>cases R:(a.Ct==b.Ct)<;>simp only[R,Ji,Hu] at c
 all_goals exact dO
end
section
open Kp
def a90(w:V)(a b:Ed)(f g:Option An)(c d:Nat)(i:C8 w w.1.size f c a.Aa)(j:C8 w w.1.size g d b.Aa):
  AZ AO 104 #[AW (Ah a (AK f (ln a.Aa) c)),AW (Ah b (AK g (ln b.Aa) d))] w λe w'=>e=Ac (AU (Ja a b))/\At w.1.size w w':=by
 cases h:((a.Ab==b.Ab)&&(a.Ae==b.Ae)&&(P6 a b))
 .grind [b2b]
 cases h:((Pd a b)&&(Q7 a b)&&(a.Ch==b.Ch)&&(a.Ck==b.Ck))
 .grind [b3M]
 cases h:((a.Co==b.Co)&&(a.Cp==b.Cp)&&(a.Cr==b.Cr)&&(a.Aa==b.Aa))
 .grind [b2s]
 grind [b3B]
end
end Go.Proofs.YtalhfkdhdggdaaaGreatDoor
