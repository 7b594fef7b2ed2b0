/- ChangeUndone of kingpostlaw58: part 18 of its proof (merged and shortened by program). -/
import Derived.Deep.MidRow
import Derived.Test.YtmliacdegmklaaaGreatDoorN15
import Derived.Test.YtmliacdegmklaaaGreatDoorN16
import Derived.Test.YtmliacdegmklaaaGreatDoorN17
set_option linter.unusedVariables false
set_option linter.unusedSimpArgs false
set_option linter.defProp false
set_option maxHeartbeats 8000000
set_option maxRecDepth 100000
open Go.RowKit Go.Shelf Go.Proofs.Tryz
open Array renaming getElem?_eq_some_iff→VF
open Bool renaming false→Vw,true→VD
open Go renaming World→Vt,Value→Vy,undef→VB,wpOp_step→VE,Calls→VJ,maxLen→VP,TypeId→VR,Addr→VT
open Go.AllReady renaming cons→VO,nil→VU
open Go.Ending renaming returned→V0
open Go.IntKind renaming i64→VH
open Go.IntWalk renaming i64_in→VQ
open Go.Lib renaming hid→Vs
open Go.RowKit renaming intOf→VN,Below→VS
open Go.Value renaming slice→VV,string→VW,bool→VX,pointer→VY,int→VZ,agg→V5,tuple→V6
open Go.World renaming alloc_heap_new→VG,size_alloc→VK
open List renaming getD_eq_getElem?_getD→Vv,getElem?_eq_getElem→VA,length_map→VC,length_append→VM,length→ln
open Nat renaming le_refl→Vu,le_trans→VI,mul_comm→VL
open Option renaming none→Vx,some→Vz
open Go.Proofs.YtmliacdegmklaaaGreatDoor
variable{ds:Array Vy}{u:Bool}{us:List Bool}{cs r xs:List Vy}{gc cap n k i c m b base s g:Nat}{ga A L:Option VT}{α:Type}{t e:VR}{w w' W wr:Vt}{V lf v2 v5:Vy}{j:bI}{a a' aj:dS}
namespace Go.Proofs.YtmliacdegmklaaaGreatDoor
section
open Kp
def LH(j:bI)(e:Ed):Int:=
 if e.number=4 then dV (ln j.purlins) e.index else if e.number=5 then dV (ln j.openings) e.index else if e.number=6 then dV (ln j.sizes) e.index
 else if e.number=7 then dV (ln j.bars) e.index else if e.number=10 then dV (ln j.aG) e.index else if e.number=11 then dV (ln j.spans) e.index else 8
def Hy(j:bI)(e:Ed):bI:=
 if e.number=4 then{j with purlins:=j.purlins.eraseIdx e.index.toNat} else if e.number=5 then{j with openings:=j.openings.eraseIdx e.index.toNat} else if e.number=6 then{j with sizes:=j.sizes.eraseIdx e.index.toNat}
 else if e.number=7 then{j with bars:=j.bars.eraseIdx e.index.toNat} else if e.number=10 then{j with aG:=j.aG.eraseIdx e.index.toNat} else if e.number=11 then{j with spans:=j.spans.eraseIdx e.index.toNat} else j
def gD(j:bI)(e:Ed):Int:=
 if e.kind=2 then o8 j.rings e.index else if e.kind=4 then(if j.purlins.contains e.number then 7 else 0) else if e.kind=5 then eC (ln j.openings) e.index
 else if e.kind=7 then eC (ln j.bars) e.index else if e.kind=10 then eC (ln j.aG) e.index else if e.kind=12 then LH j e else 0
def dK(j:bI)(e:Ed):bI:=
 if e.kind=1 then{j with name:=e.text} else if e.kind=2 then{j with rings:=fR j.rings e.index (wB e)} else if e.kind=3 then{j with origin:=e.index,spacing:=e.number}
 else if e.kind=4 then{j with purlins:=dn j.purlins (j.purlins.countP (· <e.number)) e.number} else if e.kind=5 then{j with openings:=cF j.openings e.index ⟨e.oside,e.oleft,e.oright,e.olow,e.ohigh⟩}
 else if e.kind=6 then{j with sizes:=cF j.sizes (Rd j.sizes e.zkind) ⟨e.zkind,e.zwidth,e.zdepth⟩} else if e.kind=7 then{j with bars:=cF j.bars e.index ⟨e.bwidth,e.bdepth,e.blength,e.bcount,e.bcost,e.gaps⟩}
 else if e.kind=8 then{j with kerf:=e.number} else if e.kind=9 then{j with tile:=⟨e.twidth,e.tlength,e.tlap,e.ttail⟩} else if e.kind=10 then{j with aG:=cF j.aG e.index ⟨e.lkind,e.lside,e.lweight⟩}
 else if e.kind=11 then{j with spans:=xr j.spans (sK e)} else if e.kind=12 then Hy j e else j
structure MC(j:bI):Prop where
 r:ln j.rings<=1000
 rk:∀k,(j.rings.getD k []).length<=1000
 o:ln j.openings<=1000000
 z:ln j.sizes<=1000000
 b:ln j.bars<=1000000
 l:ln j.aG<=1000000
 s:ln j.spans<=1000000
 u:ln j.purlins<=1000000
theorem Ac{B:Nat}{l:List (Int×Int)}(h:bz w B ga gc l):bJ 2 w B ga gc (di l):=by
 obtain⟨h1,h2,h3⟩:=h;refine⟨by rw[VC];exact h1,h2,λhn=> ?_⟩;rw[VC] at hn;obtain⟨gb,go,e,hb,hc⟩:=h3 hn;refine⟨gb,go,e,hb,λi hi m hm=> ?_⟩;rw[VC] at hi;obtain⟨c0,c1⟩:=hc i hi;rw[mb hi,Vv,VA hi];rcases(show m=0\/m=1 by omega) with rfl|rfl
 ·exact c0
 ·exact c1
def OI(w:Vt)(c:Nat)(j:bI)(a:dS)(e:Ed)(g:Vy)(hc:JC w c j a){X:Nat->Prop}(hb:iD X w c j a)(hl:MC j):
  VJ prog 101 #[VY (Vz ⟨c,0,Vx⟩),V5 (aE e g)] w λx w'=>x=V0 (VZ VH (LH j e))/\fU c w w'/\(LH j e=0->∃a',nd X c w w' (Hy j e) a'):=by
 unfold LH Hy;by_cases h4:e.number=4
 ·simp only[h4,if_true];exact K8 w c j a e g hc hb hl.u h4
 by_cases h5:e.number=5
 ·simp only[h4,h5,if_true,if_false];exact Mp w c j a e g hc hb hl.o h5
 by_cases h6:e.number=6
 ·simp only[h4,h5,h6,if_true,if_false];exact Lv w c j a e g hc hb hl.z h6
 by_cases h7:e.number=7
 ·simp only[h4,h5,h6,h7,if_true,if_false];exact M6 w c j a e g hc hb hl.b h7
 by_cases h10:e.number=10
 ·simp only[h4,h5,h6,h7,h10,if_true,if_false];exact L9 w c j a e g hc hb hl.l h10
 by_cases h11:e.number=11
 ·simp only[h4,h5,h6,h7,h10,h11,if_true,if_false];exact Kz w c j a e g hc hb hl.s h11
 ·simp only[h4,h5,h6,h7,h10,h11,if_false];refine(JO w c e g hc.lt h4 h5 h6 h7 h10 h11).mono ?_;rintro x w' ⟨rfl,hB⟩;exact⟨rfl,hB,λh=>absurd h V9⟩
def Pw(w:Vt)(c:Nat)(j:bI)(a:dS)(e:Ed)(ga:Option VT)(gc:Nat)(hk:1<=e.kind/\e.kind<=12)(hc:JC w c j a){X:Nat->Prop}(hb:iD X w c j a)(hl:MC j)(hp:iT j.purlins=0)(hg:bJ 2 w c ga gc (di e.gaps))(hgv:∀W,Hn X c w W->bJ 2 W W.heap.size ga gc (di e.gaps))(hn:e.index<=9223372036854775807):
  ∃f,Se[e.kind.toNat]?=Vz (.func (.func f) #[] #[])/\(∀args w,(callFunc f args).run prog w= .ok (.enter f args) w)/\
   VJ prog f #[VY (Vz ⟨c,0,Vx⟩),V5 (aE e (VV ga (ln e.gaps) gc))] w λx w'=>x=V0 (VZ VH (gD j e))/\fU c w w'/\(gD j e=0->∃a',nd X c w w' (dK j e) a'):=by
 obtain⟨k1,k2⟩:=hk;have same:∀{x:Ending} {w':Vt} {j':bI},(x=V0 (VZ VH 0)/\nd X c w w' j' a)->x=V0 (VZ VH 0)/\fU c w w'/\((0:Int)=0->∃a',nd X c w w' j' a'):=λh=>⟨h.1,h.2.1,λ_=>⟨a,h.2⟩⟩
 have some':∀{x:Ending} {w':Vt} {j':bI},(x=V0 (VZ VH 0)/\∃a',nd X c w w' j' a')->x=V0 (VZ VH 0)/\fU c w w'/\((0:Int)=0->∃a',nd X c w w' j' a'):=λh=>⟨h.1,h.2.elim λ_ h=>h.1,λ_=>h.2⟩
 rcases(show e.kind=1\/e.kind=2\/e.kind=3\/e.kind=4\/e.kind=5\/e.kind=6\/e.kind=7\/e.kind=8\/e.kind=9\/e.kind=10\/e.kind=11\/e.kind=12 by omega) with h|h|h|h|h|h|h|h|h|h|h|h
 ·have hE:gD j e=0:=WN;have hJ:dK j e={j with name:=e.text}:=WO;rw[hE,hJ,h];exact⟨_,rfl,enters_of func87 V8 rfl,(Qd w c j a e _ hc hb).mono λ_ _ h=>same h⟩
 ·have hE:gD j e=o8 j.rings e.index:=WN;have hJ:dK j e={j with rings:=fR j.rings e.index (wB e)}:=WO;rw[hE,hJ,h];exact⟨_,rfl,enters_of func88 V8 rfl,Js w c j a e _ hc hb hl.r hl.rk hn⟩
 ·have hE:gD j e=0:=WN;have hJ:dK j e={j with origin:=e.index,spacing:=e.number}:=WO;rw[hE,hJ,h];exact⟨_,rfl,enters_of func89 V8 rfl,(N5 w c j a e _ hc hb).mono λ_ _ h=>same h⟩
 ·have hE:gD j e=if j.purlins.contains e.number then 7 else 0:=WN;have hJ:dK j e={j with purlins:=dn j.purlins (j.purlins.countP (· <e.number)) e.number}:=WO;rw[hE,hJ,h];refine⟨_,rfl,enters_of func90 V8 rfl,(Dm w c j a e _ hc hb hp).mono ?_⟩;rintro x w' ⟨e1,e2,e3⟩;refine⟨e1,e2,λh0=>e3 ?_⟩;cases hd:j.purlins.contains e.number with
  |false=>rfl
  |true=>rw[hd] at h0;cases h0
 ·have hE:gD j e=eC (ln j.openings) e.index:=WN;have hJ:dK j e={j with openings:=cF j.openings e.index ⟨e.oside,e.oleft,e.oright,e.olow,e.ohigh⟩}:=WO;rw[hE,hJ,h];exact⟨_,rfl,enters_of func91 V8 rfl,Pq w c j a e _ hc hb hl.o⟩
 ·have hE:gD j e=0:=WN;have hJ:dK j e={j with sizes:=cF j.sizes (Rd j.sizes e.zkind) ⟨e.zkind,e.zwidth,e.zdepth⟩}:=WO;rw[hE,hJ,h];exact⟨_,rfl,enters_of func93 V8 rfl,(Hc w c j a e _ hc hb hl.z).mono λ_ _ h=>some' h⟩
 ·have hE:gD j e=eC (ln j.bars) e.index:=WN;have hJ:dK j e={j with bars:=cF j.bars e.index ⟨e.bwidth,e.bdepth,e.blength,e.bcount,e.bcost,e.gaps⟩}:=WO;rw[hE,hJ,h];exact⟨_,rfl,enters_of func94 V8 rfl,OJ w c j a e ga gc hc hb hl.b hg hgv⟩
 ·have hE:gD j e=0:=WN;have hJ:dK j e={j with kerf:=e.number}:=WO;rw[hE,hJ,h];exact⟨_,rfl,enters_of func96 V8 rfl,(Pv w c j a e _ hc hb).mono λ_ _ h=>same h⟩
 ·have hE:gD j e=0:=WN;have hJ:dK j e={j with tile:=⟨e.twidth,e.tlength,e.tlap,e.ttail⟩}:=WO;rw[hE,hJ,h];exact⟨_,rfl,enters_of func97 V8 rfl,(Qi w c j a e _ hc hb).mono λ_ _ h=>same h⟩
 ·have hE:gD j e=eC (ln j.aG) e.index:=WN;have hJ:dK j e={j with aG:=cF j.aG e.index ⟨e.lkind,e.lside,e.lweight⟩}:=WO;rw[hE,hJ,h];exact⟨_,rfl,enters_of func98 V8 rfl,OH w c j a e _ hc hb hl.l⟩
 ·have hE:gD j e=0:=WN;have hJ:dK j e={j with spans:=xr j.spans (sK e)}:=WO;rw[hE,hJ,h];exact⟨_,rfl,enters_of func100 V8 rfl,(Iv w c j a e _ hc hb hl.s).mono λ_ _ h=>some' h⟩
 ·have hE:gD j e=LH j e:=WN;have hJ:dK j e=Hy j e:=WO;rw[hE,hJ,h];exact⟨_,rfl,enters_of func101 V8 rfl,OI w c j a e _ hc hb hl⟩
end
section
open Kp
structure Gs(l:List Ld):Prop where
 n:ln l<=66
 w:∀i,i<ln l->(l.getD i po).weight.length<=50
theorem De{B:Nat}{l:List Ld}(h:bJ 3 w B A cap (bW l))(hp:0<ln l):
  ∃b off,A=Vz ⟨b,off,Vx⟩/\b<B/\∀i,i<ln l->w.cell? ⟨b,off+i*3,Vx⟩=Vz (VZ VH (l.getD i po).kind)/\w.cell? ⟨b,off+i*3+1,Vx⟩=Vz (VZ VH (l.getD i po).side)/\w.cell? ⟨b,off+i*3+2,Vx⟩=Vz (VW (tx (l.getD i po).weight)):=by
 obtain⟨h1,h2,h3⟩:=h;obtain⟨b,off,e,hb,hc⟩:=h3 (by rw[VC];exact hp);refine⟨b,off,e,hb,λi hi=> ?_⟩;have hr:(bW l).getD i []=Qr (l.getD i po):=by simp[List.getD,VA hi]
 have q:∀m,m<3->w.cell? ⟨b,off+i*3+m,Vx⟩=(Qr (l.getD i po))[m]?:=by
  exact a0x
 exact⟨q 0 V9,q 1 V9,q 2 V9⟩
def zl (w : Vt) (A : Option VT) (cap : Nat) (l : List Ld) (hl : bJ 3 w w.heap.size A cap (bW l)) :
    VJ prog 39 #[VV A (ln l) cap] w λx w' => jv (Gs l) x /\ Ext w w' := by
  have h1 := hl.1;have h2 := hl.2.1;rw [VC] at h1;unfold VP at h2;have HL := Vs (λ(W : Vt) (hx : Ext w W) => ((hl.below hx).more hx.size : bJ 3 W W.heap.size A cap (bW l)));clear hl;have HT := Vs (show jv (Gs l) (V0 (VX VD)) from ⟨_, rfl, λh => Wb⟩);obtain ⟨p1, t1⟩ : ∃ p, decide ((ln l : Int) > 8) = p := ⟨_, rfl⟩;obtain ⟨p2, t2⟩ : ∃ p, decide ((ln l : Int) <= 64) = p := ⟨_, rfl⟩;obtain ⟨p3, t3⟩ : ∃ p, decide ((ln l : Int) > 66) = p := ⟨_, rfl⟩;have H3 := Vs t3;cases p3 with
  | true =>
    cases p1 <;> cases p2
    all_goals
      go_enter func39, ntmps39;go_wp2;go_ret;exact ⟨HT.o, Below.refl _ _⟩
  | false =>
    have HF := Vs (show (∀ i, i < ln l -> (l.getD i po).weight.length <= 50) -> jv (Gs l) (V0 (VX Vw)) fromλh => ⟨_, rfl, λ_ => ⟨by have := of_decide_eq_false H3.o; omega, h⟩⟩);cases p1 <;> cases p2
    all_goals
      go_enter func39, ntmps39
      first
        | (go_wp2
           go_ret;exact ⟨HT.o, Below.refl _ _⟩)
        | (go_wp2
           go_loopw [3] (λi wr => ∃ k : Nat, i =VZ VH (k : Int) /\ k <= ln l /\ Ext w wr /\ ∀ m, m < k -> (l.getD m po).weight.length <= 50) (λi _ => ((ln l : Int) - VN i).toNat)
           case atStart => exact ⟨0, rfl, V7, Below.refl _ _, λm hm => V7⟩
           case round =>
             obtain ⟨k, rfl, hk, hX, hall⟩ := hrel;have HX := Vs hX;have HA := Vs hall;by_cases hlt : k < ln l
             · obtain ⟨b, off, rfl, hb, hc⟩ := De (HL.o _ hX) V7
               have y2 := (hc k hlt).2.2;obtain ⟨s, hs⟩ : ∃ n, (l.getD k po).weight = n := ⟨_, rfl⟩;rw [hs] at y2;have hz := ak s;by_cases h50 : 50 < ln s
               · clear hX hc hs hb hall
                 go_wp2;go_ret;exact ⟨HT.o, HX.o⟩
               · have HN := Vs (show ∀ m, m < k + 1 -> (l.getD m po).weight.length <= 50 fromλm hm => by
                   by_cases e : m = k
                   · rw [e, hs]; omega
                   · exact HA.o m V7)
                 have hns : ¬ 50 < (ln s : Int) := V7;clear hX hc hs hb hall;go_wp2;exact ⟨⟨k + 1, by go_num, V7, HX.o, HN.o⟩, WI⟩
             · obtain rfl : k = ln l := by omega
               clear hall;go_wp2;go_ret;exact ⟨HF.o HA.o, HX.o⟩)
end
section
open Kp
structure mP(o:kN):Prop where
 a:eE (ln o.left)=Vw
 b:eE (ln o.right)=Vw
 c:eE (ln o.low)=Vw
 d:eE (ln o.high)=Vw
structure xm(l:List kN):Prop where
 n:ln l<=34
 w:∀i,i<ln l->i<7->mP (l.getD i eB)
 six:ln l<=6\/32<ln l
theorem qv{B:Nat}{l:List kN}(h:bJ 5 w B A cap (bw l))(hp:0<ln l):
  ∃b off,A=Vz ⟨b,off,Vx⟩/\b<B/\∀i,i<ln l->w.cell? ⟨b,off+i*5,Vx⟩=Vz (VZ VH (l.getD i eB).side)/\w.cell? ⟨b,off+i*5+1,Vx⟩=Vz (VW (tx (l.getD i eB).left))/\w.cell? ⟨b,off+i*5+2,Vx⟩=Vz (VW (tx (l.getD i eB).right))/\w.cell? ⟨b,off+i*5+3,Vx⟩=Vz (VW (tx (l.getD i eB).low))/\w.cell? ⟨b,off+i*5+4,Vx⟩=Vz (VW (tx (l.getD i eB).high)):=by
 obtain⟨h1,h2,h3⟩:=h;obtain⟨b,off,e,hb,hc⟩:=h3 (by rw[VC];exact hp);refine⟨b,off,e,hb,λi hi=> ?_⟩;have hr:(bw l).getD i []=vV (l.getD i eB):=by simp[List.getD,VA hi]
 have q:∀m,m<5->w.cell? ⟨b,off+i*5+m,Vx⟩=(vV (l.getD i eB))[m]?:=by
  exact a0x
 exact⟨q 0 V9,q 1 V9,q 2 V9,q 3 V9,q 4 V9⟩
def zp (w : Vt) (A : Option VT) (cap : Nat) (l : List kN) (hl : bJ 5 w w.heap.size A cap (bw l)) :
    VJ prog 38 #[VV A (ln l) cap] w λx w' => jv (xm l) x /\ Ext w w' := by
  have h1 := hl.1;have h2 := hl.2.1;rw [VC] at h1;unfold VP at h2;have HL := Vs (λ(W : Vt) (hx : Ext w W) => ((hl.below hx).more hx.size : bJ 5 W W.heap.size A cap (bw l)));clear hl;have HT := Vs (show jv (xm l) (V0 (VX VD)) from ⟨_, rfl, λh => Wb⟩);have HF := Vs (show ∀ b : Bool, (b = Vw -> xm l) -> jv (xm l) (V0 (VX b)) fromλb h => ⟨_, rfl, h⟩);go_enter func38, ntmps38;go_wp2;go_loopw [3] (λi wr => ∃ k : Nat, i =VZ VH (k : Int) /\ k <= ln l /\ k <= 7 /\ Ext w wr /\ ∀ m, m < k -> mP (l.getD m eB)) (λi _ => ((ln l : Int) - VN i).toNat)
  case atStart => exact ⟨0, rfl, V7, V7, Below.refl _ _, λm hm => V7⟩
  case round =>
    obtain ⟨k, rfl, hk, hk7, hX, hall⟩ := hrel;have HX := Vs hX;have HA := Vs hall;by_cases hlt : k < ln l /\ k < 7
    · obtain ⟨hlt, h7⟩ := hlt
      obtain ⟨b, off, rfl, hb, hc⟩ := qv (HL.o _ hX) V7;obtain ⟨_, y1, y2, y3, y4⟩ := hc k hlt;obtain ⟨o, ho⟩ : ∃ n, l.getD k eB = n := ⟨_, rfl⟩;rw [ho] at y1 y2 y3 y4;have HO := Vs ho;obtain ⟨sd, s1, s2, s3, s4⟩ := o;dsimp only at y1 y2 y3 y4;obtain ⟨b1, t1⟩ : ∃ b, eE (ln s1) = b := ⟨_, rfl⟩;obtain ⟨b2, t2⟩ : ∃ b, eE (ln s2) = b := ⟨_, rfl⟩;obtain ⟨b3, t3⟩ : ∃ b, eE (ln s3) = b := ⟨_, rfl⟩;obtain ⟨b4, t4⟩ : ∃ b, eE (ln s4) = b := ⟨_, rfl⟩;have H1 := Vs t1;have H2 := Vs t2;have H3 := Vs t3;have H4 := Vs t4;have e1 : (k : Int) < (ln l : Int) := V7;have e2 : decide ((k : Int) < 7) = VD := decide_eq_true V7;clear hX hc ho hb hall;by_cases hq : b1 = Vw /\ b2 = Vw /\ b3 = Vw /\ b4 = Vw
      · obtain ⟨rfl, rfl, rfl, rfl⟩ := hq
        have HN := Vs (show ∀ m, m < k + 1 -> mP (l.getD m eB) fromλm hm => by
          by_cases e : m = k
          · rw [e, HO.o]; exact ⟨H1.o, H2.o, H3.o, H4.o⟩
          · exact HA.o m V7)
        go_wp2_with (go_at_call 84; go_must (refine (mB _ _).mono ?_); rintro e W1 ⟨rfl, rfl⟩)
        exact ⟨⟨k + 1, by go_num, V7, V7, HX.o, HN.o⟩, WI⟩
      · cases b1 <;> cases b2 <;> cases b3 <;> cases b4
        all_goals first
          | exact absurd ⟨rfl, rfl, rfl, rfl⟩ hq
          | (clear hq
             go_wp2_with (go_at_call 84; go_must (refine (mB _ _).mono ?_); rintro e W1 ⟨rfl, rfl⟩)
             go_ret;exact ⟨HT.o, HX.o⟩)
    · have HN := Vs (show (ln l <= k \/ k = 7) from V7)
      obtain ⟨p1, q1⟩ : ∃ p, decide ((ln l : Int) > 6) = p := ⟨_, rfl⟩;obtain ⟨p2, q2⟩ : ∃ p, decide ((ln l : Int) <= 32) = p := ⟨_, rfl⟩;obtain ⟨p3, q3⟩ : ∃ p, decide ((ln l : Int) > 34) = p := ⟨_, rfl⟩;have HV := Vs (show ∀ b : Bool, (b = Vw -> p3 = Vw /\ (p1 = Vw \/ p2 = Vw)) -> jv (xm l) (V0 (VX b)) fromλb h => HF.o b (λhb => by
        obtain ⟨a, c⟩ := h hb;have a3 := of_decide_eq_false (q3.trans a);refine ⟨V7, λi hi hi7 => HA.o i (by rcases HN.o with h | h <;> omega), ?_⟩;rcases c with c | c
        · have := of_decide_eq_false (q1.trans c); omega
        · have := of_decide_eq_false (q2.trans c); omega))
      have hN := HN.o;clear hlt hX hall HN HA;rcases hN with hN | hN
      · obtain rfl : k = ln l := by omega
        clear hN hk hk7;cases p1 <;> cases p2 <;> cases p3
        all_goals
          go_wp2;go_ret;refine ⟨HV.o _ ?_, HX.o⟩;simp
      · subst hN
        clear hk7;cases q0 : decide ((7 : Int) < (ln l : Int)) <;> cases p1 <;> cases p2 <;> cases p3
        all_goals
          go_wp2;go_ret;refine ⟨HV.o _ ?_, HX.o⟩;simp
end
section
open Kp
structure uw(o:kN):Prop where
 a:(tx o.left).size<=604
 b:(tx o.right).size<=604
 c:(tx o.low).size<=604
 d:(tx o.high).size<=604
theorem dR(h:eE n=Vw):n<=604:=by
 unfold eE at h;simp at h;omega
def mP.sm{o:kN}(h:mP o):uw o:=⟨by rw[ak];exact dR h.a,by rw[ak];exact dR h.b,by rw[ak];exact dR h.c,by rw[ak];exact dR h.d⟩
end
section
open Kp
attribute [local go_sem] bM jQ jK jJ jO jN jR jL jP jS jU gi fX fZ gj gw
structure Tp(j:bI):Prop where
 name:ln j.name<=1000000
 rings:ln j.rings.flatten<=1000000
 ops:ln j.openings<=32->∀i,i<ln j.openings->uw (j.openings.getD i eB)
 aG:∀i,i<ln j.aG->(j.aG.getD i po).weight.length<=50
end
section
open Kp
attribute [local go_sem] bM jQ jK jJ jO jN jR jL jP jS jU gi fX fZ gj gw
structure yZ(j:bI):Prop where
 name:ln j.name<=40
 r:L6 j.rings
 u:ln j.purlins<=17
 o:xm j.openings
 z:ln j.sizes<=16
 b:GD j.bars
 l:Gs j.aG
 s:Gc (ln j.spans)
def Cn(w:Vt)(j:bI)(a:dS)(hb:fg w w.heap.size j a)(hbig:ln j.rings.flatten<=4000000000):
  VJ prog 44 #[V5 (cQ j a)] w λx w'=>jv (yZ j) x/\Ext w w':=by
 have E0:=Vs (show Ext w (w.alloc (.cells (cQ j a) 34)) from(Below.refl _ _).alloc (Vu _) _);have J0:JC (w.alloc (.cells (cQ j a) 34)) w.heap.size j a:=VG w _;obtain⟨w0,hw0⟩:∃w0,w.alloc (.cells (cQ j a) 34)=w0:=⟨_,rfl⟩;rw[hw0] at E0 J0;have HW0:=Vs hw0;have HC:=Vs (λW (h:Ext w0 W) i=>(JC.ext J0 h).cell i);have HB:=Vs (λW (h:Ext w0 W)=>hb.grow (E0.o.tr h));have X1:=Vs (Ext.aC w0);have KP:=Vs (λW (h:Ext w0 W)=>Ch W a.pa a.pc j.rings (HB.o W h).p 8 hbig);have KO:=Vs (λW (h:Ext w0 W)=>zp W a.oa a.oc j.openings (HB.o W h).o);have KB:=Vs (λW (h:Ext w0 W)=>Cf W a.ba a.bc j.bars (HB.o W h).b);have KL:=Vs (λW (h:Ext w0 W)=>zl W a.la a.lc j.aG (HB.o W h).l);have KS:=Vs (λW=>C7 W a.sa a.sc (ln j.spans));have GT:=Vs (show jv (yZ j) (V0 (VX VD)) from⟨_,rfl,λh=>Wb⟩);have hb0:=(HB.o w0 X1.o);have hul:=hb0.u.1;have hul2:=hb0.u.2.1;have hzl:=hb0.z.1;have hzl2:=hb0.z.2.1;rw[VC] at hul hzl;unfold VP at hul2 hzl2;clear hb hbig hw0 J0 hb0;by_cases g0:40<ln j.name
 case pos=>
  go_enter func44,ntmps44;go_wp2_with fail
  go_ret;exact⟨GT.o,by rw[HW0.o];exact E0.o⟩
 go_enter func44,ntmps44;go_wp2_with(go_at_call 102;fail)
 rw[HW0.o];refine(KP.o _ X1.o).mono ?_;rintro e W2 ⟨⟨b1,rfl,h1⟩,hX2⟩;have X2:=Vs (X1.o.tr hX2);have c2:=HC.o _ X2.o;have G1:=Vs h1;clear hX2 h1;cases b1
 case true=>
  go_wp2_with fail
  go_ret;exact⟨GT.o,E0.o.tr X2.o⟩
 by_cases g2:17<ln j.purlins
 case pos=>
  go_wp2_with fail
  go_ret;exact⟨GT.o,E0.o.tr X2.o⟩
 go_wp2_with(go_at_call 38;fail)
 refine(KO.o _ X2.o).mono ?_;rintro e W3 ⟨⟨b3,rfl,h3⟩,hX3⟩;have X3:=Vs (X2.o.tr hX3);have c3:=HC.o _ X3.o;have G3:=Vs h3;clear hX3 h3 c2;cases b3
 case true=>
  go_wp2_with fail
  go_ret;exact⟨GT.o,E0.o.tr X3.o⟩
 by_cases g4:16<ln j.sizes
 case pos=>
  go_wp2_with fail
  go_ret;exact⟨GT.o,E0.o.tr X3.o⟩
 go_wp2_with(go_at_call 103;fail)
 refine(KB.o _ X3.o).mono ?_;rintro e W4 ⟨⟨b5,rfl,h5⟩,hX4⟩;have X4:=Vs (X3.o.tr hX4);have c4:=HC.o _ X4.o;have G5:=Vs h5;clear hX4 h5 c3;cases b5
 case true=>
  go_wp2_with fail
  go_ret;exact⟨GT.o,E0.o.tr X4.o⟩
 go_wp2_with(go_at_call 39;fail)
 refine(KL.o _ X4.o).mono ?_;rintro e W5 ⟨⟨b6,rfl,h6⟩,hX5⟩;have X5:=Vs (X4.o.tr hX5);have c5:=HC.o _ X5.o;have G6:=Vs h6;clear hX5 h6 c4;cases b6
 case true=>
  go_wp2_with fail
  go_ret;exact⟨GT.o,E0.o.tr X5.o⟩
 go_wp2_with(go_at_call 104;go_loud (refine(KS.o _).mono ?_);rintro e W6 ⟨⟨b7,rfl,h7⟩,rfl⟩)
 go_ret;exact⟨⟨_,rfl,λh=>⟨V7,G1.o WW,V7,G3.o WW,V7,G5.o WW,G6.o WW,h7 (Bool.or_eq_false_iff.1 h).2⟩⟩,E0.o.tr X5.o⟩
end
section
open Kp
theorem dw{ops:Array Oper}{rest:List Oper}{o:Oper}{a:Act}{Q:Exit->Act->Vt->Prop}(hw:Region.wanted o (yielded ops a.tmps)=VD)(x:Operand)(ho:o.op= .load 34 x)
  (g:Nat)(hx:a.eval x=VY (Vz ⟨g,0,Vx⟩))(cs:Array Vy)(hg:w.heap[g]?=Vz (.cells cs 34 (0,0)))(hi:(prog.info? 34).map (·.size)=Vz cs.size)
  (h:wpList prog ops Q rest (a.put o.dst (V5 cs)) w):wpList prog ops Q (o::rest) a w:=
 wpList_step λ_ hK=>by
  rw[if_pos hw];exact wp_load_row 34 x ho g hx 34 cs (0,0) _ hg underlying34 rfl hi (hK _ _ h)
theorem yZ.NV(h:yZ j)(h32:ln j.openings<=32):∀i,i<ln j.openings->mP (j.openings.getD i eB):=by
 intro i hi;rcases h.o.six with h6|h6
 ·exact h.o.w i hi V7
 ·omega
theorem yZ.fw(h:yZ j):Tp j:=
 ⟨by have:=h.name;omega,by have:=h.r.f;omega,λh32 i hi=>(h.NV h32 i hi).sm,h.l.w⟩
structure uW(j:bI):Prop where
 gr:yZ j
 o:ln j.openings<=32
def TB(P:Prop)(x:Ending):Prop:=∃b:Bool,x=V0 (VX b)/\(b=VD->P)
end
section
open Kp
attribute [local go_sem] bM jQ jK jJ jO jN jR jL jP jS jU gi fX fZ gj gw
attribute [local go_sem] aM fC
def kM:bI:=⟨[],[],0,0,[],[],[],[],0,⟨0,0,0,0⟩,[],[]⟩
def lB:dS:=⟨Vx,0,Vx,0,Vx,0,Vx,0,Vx,0,Vx,0,Vx,0⟩
def GJ(w:Vt)(B:Nat):fg w B kM lB:=
 ⟨⟨V9,V9,λh=>absurd h V9⟩,⟨V9,V9,λh=>absurd h V9⟩,⟨V9,V9,λh=>absurd h V9⟩,⟨V9,V9,λh=>absurd h V9⟩,
  ⟨V9,V9,λh=>absurd h V9⟩,⟨V9,V9,λh=>absurd h V9⟩,⟨V9,V9,λh=>absurd h V9⟩⟩
def qK(X:Nat->Prop)(w:Vt)(B:Nat):iD X w B kM lB:=⟨GJ _ _,λ_ _=>GJ _ _⟩
def fP{fn:Func}{p u:Tmp}(h:fn.results=#[.cell p 34,.tmp u])(tmps:Array Vy)(w:Vt)(g:Nat)(cs:Array Vy)
  (hp:tmps.getD p VB=VY (Vz ⟨g,0,Vx⟩))(hg:w.heap[g]?=Vz (.cells cs 34 (0,0)))(hi:(prog.info? 34).map (·.size)=Vz cs.size):
  (results fn tmps).run prog w= .ok (V6 #[V5 cs,tmps.getD u VB]) w:=by
 have hp':tmps[p]?.getD VB=VY (Vz ⟨g,0,Vx⟩):=by simpa using hp
 have hl:=run_loadVar_row (P:=prog) w g 34 34 cs (0,0) _ hg underlying34 rfl hi;simp[results,h,hp',asAddr,hl,Result.andThen]
noncomputable def vW(j:bI)(e:Ed):Int:=if mF j≠0 then 1 else if fx e≠0 then fx e else if gD j e≠0 then gD j e else mF (dK j e)
noncomputable def th(j:bI)(e:Ed):bI:=if vW j e=0 then dK j e else kM
structure Fe(j:bI)(e:Ed):Prop where
 sm:nJ j
 ln:MC j
 sm':nJ (dK j e)
 idx:e.index<=9223372036854775807
def H9{e:Ed}(h:fx e=0):1<=e.kind/\e.kind<=12:=by
 unfold fx at h;split at h
 ·cases h
 ·omega
theorem OO(h:mF j=0):iT j.purlins=0:=by
 unfold mF at h;split at h
 ·cases h
 split at h
 ·contradiction
 split at h
 ·cases h
 split at h
 ·cases h
 split at h
 ·contradiction
 ·rename_i h1;exact Classical.not_not.1 h1
def NR(b:Nat)(e:Ed)(g:Vy)(f:Nat):Nat->Vy
 |0=> V5 Se
 |1=> VY (Vz ⟨b,0,Vx⟩)
 |2=> VZ VH e.kind
 |3=> .func (.func f) #[] #[]
 |_=> V5 (aE e g)
def TW{k:Int}(h1:1<=k)(h2:k<=12){v:Vy}(hv:Se[k.toNat]?=Vz v)(W:Vt):Sem.run prog (Instr.index 99 (V5 Se) (VZ VH k)) W= .ok v W:=by
 rcases(show k=1\/k=2\/k=3\/k=4\/k=5\/k=6\/k=7\/k=8\/k=9\/k=10\/k=11\/k=12 by omega) with h|h|h|h|h|h|h|h|h|h|h|h
 all_goals
  subst h;injection hv with hv
  subst hv
  kernel_rfl
def ve(X:Nat->Prop)(w:Vt)(j:bI)(e:Ed)(x:Ending)(w':Vt):Prop:=
 ∃a',x=V0 (V6 #[V5 (cQ (th j e) a'),VZ VH (vW j e)])/\Ext w w'/\iD X w' w'.heap.size (th j e) a'
def qW(w:Vt)(j:bI)(a:dS)(e:Ed)(ga:Option VT)(gc:Nat){X:Nat->Prop}(hb:iD X w w.heap.size j a)(hg:bz w w.heap.size ga gc e.gaps)(hgv:∀W,Hn X w.heap.size w W->bz W W.heap.size ga gc e.gaps)(hXw:∀b,X b->b<w.heap.size)(hok:Fe j e)(hm:fG w)(ht:aW w):
  VJ prog 19 #[V5 (cQ j a),V5 (aE e (VV ga (ln e.gaps) gc))] w (ve X w j e):=by
 obtain⟨W0,hW0⟩:∃W0,((w.alloc (.cells (cQ j a) 34)).alloc (.cells (aE e (VV ga (ln e.gaps) gc)) 68)).alloc (.cells (cQ kM lB) 34)=W0:=⟨_,rfl⟩;have hs0:W0.heap.size=w.heap.size+3:=by rw[<-hW0];simp
 have e0:Ext w W0:=by rw[<-hW0];exact(((Below.refl _ _).alloc (Vu _) _).alloc Wa _).alloc Wf _
 have hJ:JC W0 w.heap.size j a:=by rw[<-hW0];exact JC.ext (JC.ext (VG w _) ((Below.refl _ _).alloc (Vu _) _)) ((Below.refl _ _).alloc (Vu _) _)
 have hZ:EC W0 (w.heap.size+1) (aE e (VV ga (ln e.gaps) gc)):=by
  rw[<-hW0];have:=EC.new (w.alloc (.cells (cQ j a) 34)) (aE e (VV ga (ln e.gaps) gc));rw[VK] at this;exact this.alloc _
 have hR:JC W0 (w.heap.size+1+1) kM lB:=by
  rw[<-hW0];have:=VG ((w.alloc (.cells (cQ j a) 34)).alloc (.cells (aE e (VV ga (ln e.gaps) gc)) 68)) (.cells (cQ kM lB) 34);rw[VK,VK] at this;exact this
 have HJ:=Vs hJ;have HZ:=Vs hZ;have HR:=Vs hR;have HE0:=Vs e0;have HW:=Vs (show((w.alloc (.cells (cQ j a) 34)).alloc (.cells (aE e (VV ga (ln e.gaps) gc)) 68)).alloc (.cells #[VW {data:=#[]},VV Vx 0 0,VZ VH 0,VZ VH 0,VV Vx 0 0,VV Vx 0 0,VV Vx 0 0,VV Vx 0 0,VZ VH 0,VZ VH 0,VZ VH 0,VZ VH 0,VZ VH 0,VV Vx 0 0,VV Vx 0 0] 34)=W0 from hW0);have HS0:=Vs hs0;have HOK:=Vs hok;have KJ:=Vs (λ(W:Vt) (h:Ext W0 W)=>mG W j a (hb.tofg.grow (e0.tr h)) hok.sm (hm.below (e0.tr h) (Vu _)) (ht.below (e0.tr h) (Vu _)));have HG:=Vs (λ(W:Vt) (h:Ext W0 W)=>((hg.below (e0.tr h)).more (e0.tr h).size:bz W W.heap.size ga gc e.gaps));have KF:=Vs (λ(W:Vt) (h:Ext W0 W)=>B7 W e ga gc (HG.o W h));obtain⟨x,hx⟩:∃x,mF j=x:=⟨_,rfl⟩;have HX:=Vs hx;simp only[hx] at KJ;have hz:=hs0;clear hs0 hJ hZ hR e0 hok;by_cases hx0:x=0
 ·subst hx0;obtain⟨y,hy⟩:∃y,fx e=y:=⟨_,rfl⟩;simp only[hy] at KF;by_cases hy0:y=0
  ·subst hy0;obtain⟨k1,k2⟩:=H9 hy;have hpu:=OO hx;have KX:=λ(W:Vt) (h:Ext W0 W)=>Pw W w.heap.size j a e ga gc ⟨k1,k2⟩ (HJ.o.ext h) (hb.below (HE0.o.tr h)) HOK.o.ln hpu (Ac (hg.below (HE0.o.tr h))) (λW' hO=>Ac (hgv W' (hO.below (HE0.o.tr h)))) HOK.o.idx
   obtain⟨f,hf,eg,_⟩:=KX W0 (Below.refl _ _);have KCH:=Vs (λ(W:Vt) (h:Ext W0 W)=>(show VJ prog f #[VY (Vz ⟨w.heap.size,0,Vx⟩),V5 (aE e (VV ga (ln e.gaps) gc))] W λx w'=>x=V0 (VZ VH (gD j e))/\fU w.heap.size W w'/\(gD j e=0->∃a',nd X w.heap.size W w' (dK j e) a') from by
    obtain⟨f',hf',_,hc⟩:=KX W h;rw[hf] at hf';injection hf' with h1
    injection h1 with h2
    injection h2 with h3
    subst h3;exact hc))
   have HIX:=Vs (TW k1 k2 hf);have EG:=Vs eg;have HK:=Vs (And.intro k1 k2);have HM:=Vs hm;have HT:=Vs ht;have HXX:=Vs hx;have HYY:=Vs hy;have HXW:=Vs hXw;clear hx hy hpu KX hf eg hb hg hgv hXw hm ht hW0;go_enter func19,ntmps19;go_upto_region 1 with(fail)
   rw[HW.o];go_wp2_with(first
    |(go_at_call 25;go_must(refine(KJ.o _ (Below.refl _ _)).mono ?_);rintro x1 W1 ⟨rfl,hX1⟩;have HR1:=Vs (HR.o.ext hX1);have HZ1:=Vs (HZ.o.ext hX1);have HJ1:=Vs (HJ.o.ext hX1);have HX1:=Vs hX1;clear hX1)
    |(go_at_call 42;refine(KF.o _ HX1.o).mono ?_;rintro x2 W2 ⟨rfl,hX2⟩;have HX2:=Vs (Ext.tr HX1.o hX2);have hX02:=hX2;clear hX2)
    |(refine wpList_load_row rfl 34 _ rfl _ rfl 34 _ (0,0) _ HJ.o underlying34 rfl V8 ?_)
    |(refine wpList_load_row rfl 68 _ rfl _ rfl 68 _ (0,0) _ HZ1.o underlying68 rfl V8 ?_))
   refine wp_region_any V8 (bO 5 (λvs=>⟨#[V5 (cQ j a),V5 (aE e (VV ga (ln e.gaps) gc)),VY (Vz ⟨w.heap.size,0,Vx⟩),VY (Vz ⟨w.heap.size+1,0,Vx⟩),VY (Vz ⟨w.heap.size+1+1,0,Vx⟩),VZ VH 0,VZ VH 0,VB,VB,V5 (cQ j a),VZ VH 0,VX Vw,VB,V5 (aE e (VV ga (ln e.gaps) gc)),VZ VH 0,VZ VH 0,VX Vw,VB,VB,vs 0,vs 1,vs 2,vs 3,vs 4,VB,VB,VB,VB,VB,VB,VB,VB,VB,VB,VB,VB],[]⟩)
    (λw'=>Ext W0 w') (λi v _=>v=NR (w.heap.size+1) e (VV ga (ln e.gaps) gc) f i) (λ_=>Vw) V8 (λ_ _ h k=>h.tr k) (λ_ _ _ _ h _=>h) (λ_ _ _ _ h=>Wb) ?step ?tail (λ_=>VB) _ (HX2.o.tr (Ext.dr _)))
   case step=>
    intro i vs w' hi hD hd;rcases(show i=0\/i=1\/i=2\/i=3\/i=4 by omega) with rfl|rfl|rfl|rfl|rfl<;>clear hi
    ·refine VE rfl (λK hK=> ?_);go_simp;refine(Cw _).mono ?_;rintro x3 W3 ⟨rfl,hX3⟩;exact hK _ _ ⟨_,rfl,hX3,rfl,λh=>Wb⟩
    ·exact YZ
    ·refine VE rfl (λK hK=> ?_);have d1:=hd 1 V8;simp only[NR] at d1;have m:=(HZ.o.ext hD).cell 0;go_simp;exact hK _ _ ⟨NR (w.heap.size+1) e (VV ga (ln e.gaps) gc) f 2,by simp[NR,d1],Ext.aC _,rfl,λh=>Wb⟩
    ·refine VE rfl (λK hK=> ?_);have d0:=hd 0 V8;have d2:=hd 2 V8;simp only[NR] at d0 d2;have hix:=HIX.o;go_simp;exact hK _ _ ⟨NR (w.heap.size+1) e (VV ga (ln e.gaps) gc) f 3,by simp[NR,d0,d2],Ext.aC _,rfl,λh=>Wb⟩
    ·refine VE rfl (λK hK=> ?_);exact wp_load_row 68 (.tmp 3) rfl (w.heap.size+1) rfl 68 _ (0,0) _ (HZ.o.ext hD) underlying68 rfl V8 (hK _ _ ⟨NR (w.heap.size+1) e (VV ga (ln e.gaps) gc) f 4,by simp[NR,Act.put,bA],Ext.aC _,rfl,λh=>Wb⟩)
   case tail=>
    intro vs w' hD hV _;have v3:=hV 3 V7;have v4:=hV 4 V7;simp only[NR] at v3 v4;have HD:=Vs hD;have eg:=EG.o;clear hV hD;simp only[v3,v4,List.drop_succ_cons,List.drop_zero];obtain⟨z,hz0⟩:∃z,gD j e=z:=⟨_,rfl⟩;simp only[hz0] at KCH;by_cases hz1:z=0
    ·subst hz1;have KJ2:=Vs (λ(W:Vt) (a':dS) (h:Ext w W) (hb:fg W W.heap.size (dK j e) a')=>mG W (dK j e) a' hb HOK.o.sm' (HM.o.below h (Vu _)) (HT.o.below h (Vu _)));obtain⟨u,hu⟩:∃u,mF (dK j e)=u:=⟨_,rfl⟩;simp only[hu] at KJ2;have hE:vW j e=u:=by unfold vW;rw[HXX.o,HYY.o,hz0,hu,if_neg V9,if_neg V9,if_neg V9]
     by_cases hu0:u=0
     ·subst hu0;have hP:th j e=dK j e:=by unfold th;rw[hE,if_pos rfl]
      have HEP:=Vs (And.intro hE hP);clear hE hP hu hz0 v3 v4;go_wp2_with(first
       |(go_at_call 25;have hCHK:=HCH;refine(KJ2.o _ _ ((HE0.o.tr HD.o).trans HC.o.below) HCH.o.at_).mono ?_;rintro x4 W4 ⟨rfl,hX4⟩;have HR4:=Vs (JC.ext HR3.o hX4);have HJ4:=Vs (JC.ext (show JC W3 w.heap.size (dK j e) a' from HJ3.o) hX4);have HX4:=Vs hX4;clear hX4)
       |(go_at_fn f;go_must(refine(KCH.o _ HD.o).mono ?_);rintro x3 W3 ⟨rfl,hC,hJJ⟩;obtain⟨a',hch⟩:=hJJ rfl;have HC:=Vs hC;have HCH:=Vs hch;have HR3:=Vs ((hC.others _ (HR.o.ext HD.o).lt V7).trans (HR.o.ext HD.o));have HJ3:=Vs (show W3.heap[w.heap.size]?=Vz (.cells (cQ (dK j e) a') 34 (0,0)) from hch.2.1);clear hC hJJ hch)
       |(refine wpList_load_row rfl 34 _ rfl _ rfl 34 _ (0,0) _ HJ4.o underlying34 rfl V8 ?_)
       |(refine wpList_load_row rfl 34 _ rfl _ rfl 34 _ (0,0) _ HJ3.o underlying34 rfl V8 ?_)
       |(refine wpList_store_row rfl 34 _ _ rfl _ _ rfl rfl 34 _ HR4.o V8 V8 V8 ?_))
      refine bodyPost_ret (fP rfl _ _ _ _ rfl (setRow_heap HR4.o _) V8) rfl ?_;have hlt2:=(HR.o.ext HD.o).lt;have hx4:Ext w W4:=Ext.tr ((HE0.o.tr HD.o).trans HC.o.below) HX4.o;have hfr:∀b,b<W3.heap.size->b≠w.heap.size+1+1->(W4.setRow (w.heap.size+1+1) (cQ (dK j e) a')).heap[b]?=W3.heap[b]?:=by
       intro b hb1 hb2;have e1:(W4.setRow (w.heap.size+1+1) (cQ (dK j e) a')).heap[b]?=W4.heap[b]?:=by simp only[World.setRow,Array.getElem?_modify];rw[if_neg (Ne.symm hb2)]
       exact e1.trans (HX4.o.block b hb1)
      have hsz:W3.heap.size<=(W4.setRow (w.heap.size+1+1) (cQ (dK j e) a')).heap.size:=VI HX4.o.size (ah (Below.refl w.heap.size W4) V7 _).size;have hne:∀b,(b<w.heap.size/\¬X b)\/w'.heap.size<=b->b≠w.heap.size+1+1:=λb h=>by rcases h with h|h<;>omega
      have hnx:∀b,(b<w.heap.size/\¬X b)\/w'.heap.size<=b->¬X b:=λb h hq=>by
       have:=HXW.o b hq;rcases h with h|h
       ·exact h.2 hq
       ·omega
      exact⟨a',by rw[HEP.o.1,HEP.o.2];rfl,ah hx4 V7 _,by rw[HEP.o.2];exact⟨HCH.o.2.2 _ ⟨hsz,λb h1 h2=>hfr b h1 (hne b h2)⟩,λW hO=>HCH.o.2.2 W ⟨VI hsz hO.1,λb h1 h2=>(hO.2 b (Nat.lt_of_lt_of_le h1 hsz) (hnx b h2)).trans (hfr b h1 (hne b h2))⟩⟩⟩
     ·have tu0:(u !=0)=VD:=by rw[bne_iff_ne];exact hu0
      have hP:th j e=kM:=by unfold th;rw[hE,if_neg hu0]
      have HEP:=Vs (And.intro hE hP);clear hE hP hu hz0 v3 v4 hu0;go_wp2_with(first
       |(go_at_call 25;have hCHK:=HCH;refine(KJ2.o _ _ ((HE0.o.tr HD.o).trans HC.o.below) HCH.o.at_).mono ?_;rintro x4 W4 ⟨rfl,hX4⟩;have HR4:=Vs (JC.ext HR3.o hX4);have HJ4:=Vs (JC.ext (show JC W3 w.heap.size (dK j e) a' from HJ3.o) hX4);have HX4:=Vs hX4;clear hX4)
       |(go_at_fn f;go_must(refine(KCH.o _ HD.o).mono ?_);rintro x3 W3 ⟨rfl,hC,hJJ⟩;obtain⟨a',hch⟩:=hJJ rfl;have HC:=Vs hC;have HCH:=Vs hch;have HR3:=Vs ((hC.others _ (HR.o.ext HD.o).lt V7).trans (HR.o.ext HD.o));have HJ3:=Vs (show W3.heap[w.heap.size]?=Vz (.cells (cQ (dK j e) a') 34 (0,0)) from hch.2.1);clear hC hJJ hch)
       |(refine wpList_load_row rfl 34 _ rfl _ rfl 34 _ (0,0) _ HJ3.o underlying34 rfl V8 ?_)
       |(refine wpList_build rfl 34 _ rfl V8 ?_;rw[show Value.agg (Option.getD (prog.built 34 _) #[])=V5 (cQ kM lB) from V8])
       |(refine wpList_store_row rfl 34 _ _ rfl _ _ rfl rfl 34 _ HR4.o V8 V8 V8 ?_))
      refine bodyPost_ret (fP rfl _ _ _ _ rfl (setRow_heap HR4.o _) V8) rfl ?_;exact⟨lB,by rw[HEP.o.1,HEP.o.2];rfl,ah (Ext.tr ((HE0.o.tr HD.o).trans HC.o.below) HX4.o) V7 _,by rw[HEP.o.2];exact qK _ _ _⟩
    ·have tz0:(z !=0)=VD:=by rw[bne_iff_ne];exact hz1
     have hE:vW j e=z:=by unfold vW;rw[HXX.o,HYY.o,hz0,if_neg V9,if_neg V9,if_pos hz1]
     have hP:th j e=kM:=by unfold th;rw[hE,if_neg hz1]
     have HEP:=Vs (And.intro hE hP);clear hE hP hz0 v3 v4 hz1;go_wp2_with(first
      |(go_at_fn f;go_must(refine(KCH.o _ HD.o).mono ?_);rintro x3 W3 ⟨rfl,hC,_⟩;have HC:=Vs hC;have HR3:=Vs ((hC.others _ (HR.o.ext HD.o).lt V7).trans (HR.o.ext HD.o));clear hC)
      |(refine wpList_build rfl 34 _ rfl V8 ?_;rw[show Value.agg (Option.getD (prog.built 34 _) #[])=V5 (cQ kM lB) from V8])
      |(refine wpList_store_row rfl 34 _ _ rfl _ _ rfl rfl 34 _ HR3.o V8 V8 V8 ?_))
     refine bodyPost_ret (fP rfl _ _ _ _ rfl (setRow_heap HR3.o _) V8) rfl ?_;exact⟨lB,by rw[HEP.o.1,HEP.o.2];rfl,ah ((HE0.o.tr HD.o).trans HC.o.below) V7 _,by rw[HEP.o.2];exact qK _ _ _⟩
  ·have ty0:(y !=0)=VD:=by rw[bne_iff_ne];exact hy0
   have hE:vW j e=y:=by unfold vW;rw[hx,hy,if_neg V9,if_pos hy0]
   have hP:th j e=kM:=by unfold th;rw[hE,if_neg hy0]
   unfold ve;rw[hE,hP];clear hx hy hy0 hE hP hb hg hgv hXw hm ht hW0;go_enter func19,ntmps19;go_upto_region 1 with(fail)
   rw[HW.o];go_wp2_with(first
    |(go_at_call 25;go_must(refine(KJ.o _ (Below.refl _ _)).mono ?_);rintro x1 W1 ⟨rfl,hX1⟩;have HR1:=Vs (HR.o.ext hX1);have HZ1:=Vs (HZ.o.ext hX1);have HJ1:=Vs (HJ.o.ext hX1);have HX1:=Vs hX1;clear hX1)
    |(go_at_call 42;refine(KF.o _ HX1.o).mono ?_;rintro x2 W2 ⟨rfl,hX2⟩;have HR2:=Vs (HR1.o.ext hX2);have HX2:=Vs (Ext.tr HX1.o hX2);clear hX2)
    |(refine wpList_load_row rfl 34 _ rfl _ rfl 34 _ (0,0) _ HJ.o underlying34 rfl V8 ?_)
    |(refine wpList_load_row rfl 68 _ rfl _ rfl 68 _ (0,0) _ HZ1.o underlying68 rfl V8 ?_)
    |(refine wpList_build rfl 34 _ rfl V8 ?_;rw[show Value.agg (Option.getD (prog.built 34 _) #[])=V5 (cQ kM lB) from V8])
    |(refine wpList_store_row rfl 34 _ _ rfl _ _ rfl rfl 34 _ HR2.o V8 V8 V8 ?_))
   refine bodyPost_ret (fP rfl _ _ _ _ rfl (setRow_heap HR2.o _) V8) rfl ?_;exact⟨lB,rfl,ah (HE0.o.tr HX2.o) V7 _,qK _ _ _⟩
 ·have tx0:(x !=0)=VD:=by rw[bne_iff_ne];exact hx0
  have hE:vW j e=1:=by unfold vW;rw[hx,if_pos hx0]
  have hP:th j e=kM:=by unfold th;rw[hE];rfl
  unfold ve;rw[hE,hP];clear hx hx0 hE hP hb hg hgv hXw hm ht hW0;go_enter func19,ntmps19;go_upto_region 1 with(fail)
  rw[HW.o];go_wp2_with(first
   |(go_at_call 25;go_must(refine(KJ.o _ (Below.refl _ _)).mono ?_);rintro x1 W1 ⟨rfl,hX1⟩;have HR1:=Vs (HR.o.ext hX1);have HZ1:=Vs (HZ.o.ext hX1);have HJ1:=Vs (HJ.o.ext hX1);have HX1:=Vs hX1;clear hX1)
   |(refine wpList_load_row rfl 34 _ rfl _ rfl 34 _ (0,0) _ HJ.o underlying34 rfl V8 ?_)
   |(refine wpList_build rfl 34 _ rfl V8 ?_;rw[show Value.agg (Option.getD (prog.built 34 _) #[])=V5 (cQ kM lB) from V8])
   |(refine wpList_store_row rfl 34 _ _ rfl _ _ rfl rfl 34 _ HR1.o V8 V8 V8 ?_))
  refine bodyPost_ret (fP rfl _ _ _ _ rfl (setRow_heap HR1.o _) V8) rfl ?_;exact⟨lB,rfl,ah (HE0.o.tr HX1.o) V7 _,qK _ _ _⟩
end
section
open Kp
def Od{o:kN}(h:mP o):zV o:=
 ⟨by have:=dR h.a;omega,by have:=dR h.b;omega,by have:=dR h.c;omega,by have:=dR h.d;omega⟩
theorem uW.ops(h:uW j):∀o∈j.openings,zV o:=by
 intro o ho;obtain⟨i,hi,rfl⟩:=List.mem_iff_getElem.1 ho;have:=h.gr.NV h.o i hi;rw[Vv,VA hi] at this;exact Od this
theorem uW.aG(h:uW j):∀x∈j.aG,ln x.weight<=300000:=by
 intro x hx;obtain⟨i,hi,rfl⟩:=List.mem_iff_getElem.1 hx;have:=h.gr.l.w i hi;rw[Vv,VA hi] at this;exact VI this V9
theorem uW.sm(h:uW j):nJ j:=
 ⟨by have:=h.gr.name;omega,by have:=h.gr.r.f;omega,h.ops,h.aG⟩
def N1{rs:List (List Sd)}(k:Nat):(rs.getD k []).length<=ln rs.flatten:=by
 by_cases hk:k<ln rs
 ·rw[Vv,VA hk];exact(List.sublist_flatten_of_mem (List.getElem_mem hk)).length_le
 ·exact Z8
theorem uW.ln(h:uW j):MC j:=
 ⟨by have:=h.gr.r.n;omega,λk=>by have:=N1 (rs:=j.rings) k;have:=h.gr.r.f;omega,by have:=h.o;omega,by have:=h.gr.z;omega,by have:=h.gr.b.n;omega,by have:=h.gr.l.n;omega,by have:=h.gr.s.n;omega,by have:=h.gr.u;omega⟩
theorem DE{l:List α}{i:Int}{x y:α}(h:y∈cF l i x):y∈l\/y=x:=by
 unfold cF at h;split at h
 ·rcases List.mem_append.1 h with h|h
  ·exact .inl h
  ·exact .inr (List.mem_singleton.1 h)
 ·exact List.mem_or_eq_of_mem_set h
def EY(rs:List (List Sd))(n:Int)(s:Sd):(fR rs n s).flatten.length=ln rs.flatten:=by
 rw[List.length_flatten,List.length_flatten]
 congr 1
 apply List.ext_getElem?;intro k;rw[List.getElem?_map,List.getElem?_map];by_cases hk:k<ln rs
 ·have h1:=uf rs n s hk;have hl:k<(fR rs n s).length:=by unfold fR;simpa using hk
  rw[Vv,VA hl] at h1;rw[VA hl,VA hk];have h2:=ur rs n s k;rw[Vv,VA hk] at h2;simp only[Option.getD_some] at h1 h2;simp only[Option.map_some,h1,h2]
 ·have hl:¬k<(fR rs n s).length:=by unfold fR;simpa using hk
  rw[List.getElem?_eq_none V7,List.getElem?_eq_none V7]
def Mu{e:Ed}(h:dt e=Vw):zV ⟨e.oside,e.oleft,e.oright,e.olow,e.ohigh⟩:=by
 unfold dt kW at h;simp only[Bool.or_eq_false_iff,decide_eq_false_iff_not] at h;obtain⟨⟨⟨h1,h2⟩,⟨⟨h3,h4⟩,h5⟩,h6⟩,h7⟩:=h;exact⟨by have:=dR h3;show ln e.oleft<=_;omega,by have:=dR h4;show ln e.oright<=_;omega,by have:=dR h5;show ln e.olow<=_;omega,by have:=dR h6;show ln e.ohigh<=_;omega⟩
def Nb{e:Ed}(h:dt e=Vw):ln e.text<=40/\ln e.lweight<=50:=by
 unfold dt at h;simp only[Bool.or_eq_false_iff,decide_eq_false_iff_not] at h;omega
theorem QH{P:α->Prop}{c:Prop}[Decidable c]{a b:α}(h1:c->P a)(h2:¬c->P b):P (if c then a else b):=by
 by_cases h:c
 ·rw[if_pos h];exact h1 h
 ·rw[if_neg h];exact h2 h
theorem nJ.Tc{e:Ed}(h:nJ j)(hg:dt e=Vw):nJ (dK j e):=by
 obtain⟨h1,h2,h3,h4⟩:=h;have ht:=Nb hg;have hb:nJ j:=⟨h1,h2,h3,h4⟩;unfold dK Hy
 repeat' refine QH (P:=nJ) (λ_=> ?_) (λ_=> ?_)
 all_goals first
  |exact hb
  |exact⟨h1,h2,h3,h4⟩
  |exact⟨by show ln e.text<=_;omega,h2,h3,h4⟩
  |exact⟨h1,by show(fR _ _ _).flatten.length<=_;rw[EY];exact h2,h3,h4⟩
  |exact⟨h1,h2,λo ho=>(DE ho).elim (h3 o) (λq=>q▸Mu hg),h4⟩
  |exact⟨h1,h2,h3,λo ho=>(DE ho).elim (h4 o) (λq=>by rw[q];show ln e.lweight<=_;omega)⟩
  |exact⟨h1,h2,λo ho=>h3 o (List.mem_of_mem_eraseIdx ho),h4⟩
  |exact⟨h1,h2,h3,λo ho=>h4 o (List.mem_of_mem_eraseIdx ho)⟩
end
section
open Kp
structure Fl(n:Nat)(j:bI):Prop where
 r:ln j.rings<=1000
 rk:∀k,(j.rings.getD k []).length<=1000
 o:ln j.openings<=n
 z:ln j.sizes<=n
 b:ln j.bars<=n
 l:ln j.aG<=n
 s:ln j.spans<=n
 u:ln j.purlins<=n
theorem Fl.mono(h:Fl m j)(hn:m<=n):Fl n j:=
 ⟨h.r,h.rk,VI h.o hn,VI h.z hn,VI h.b hn,VI h.l hn,VI h.s hn,VI h.u hn⟩
theorem Fl.ln(h:Fl n j)(hn:n<=1000000):MC j:=
 ⟨h.r,h.rk,VI h.o hn,VI h.z hn,VI h.b hn,VI h.l hn,VI h.s hn,VI h.u hn⟩
theorem uW.l(h:uW j):Fl 4100 j:=
 ⟨h.ln.r,h.ln.rk,by have:=h.o;omega,by have:=h.gr.z;omega,by have:=h.gr.b.n;omega,by have:=h.gr.l.n;omega,by have:=h.gr.s.n;omega,by have:=h.gr.u;omega⟩
theorem tA(l:List α)(i:Int)(x:α):(cF l i x).length<=ln l+1:=by
 unfold cF;split <;>simp
theorem GG(l:List α)(i:Nat)(x:α):(dn l i x).length<=ln l+1:=by
 unfold dn;simp;omega
theorem mf(l:List α)(i:Nat):(l.eraseIdx i).length<=ln l:=by
 rw[List.length_eraseIdx];split <;>omega
def Nt(l:List Aw)(x:Aw):(xr l x).length<=ln l+1:=by
 unfold xr;split <;>first|(simp;done)|(exact GG _ _ _)|(simp;omega)
theorem Fl.Tc {n : Nat} {j : bI} {e : Ed} (h : Fl n j) : Fl (n + 1) (dK j e) := by
  obtain ⟨r, rk, o, z, b, l, s, u⟩ := h.mono (Nat.le_succ n)
  have hn := h
  have hj : Fl (n + 1) j := ⟨r, rk, o, z, b, l, s, u⟩
  unfold dK Hy
  repeat' refine QH (P := Fl (n + 1)) (fun _ => ?_) (fun _ => ?_)
  all_goals first
    | exact hj
    | exact ⟨r, rk, o, z, b, l, s, u⟩
    | exact ⟨by show (fR _ _ _).length ≤ _; rw [ki]; exact r, fun k => by
        show ((fR _ _ _).getD k []).length ≤ _
        by_cases hk : k < j.rings.length
        · rw [uf _ _ _ hk, ur]; exact rk k
        · rw [List.getD_eq_getElem?_getD, List.getElem?_eq_none (by rw [ki]; omega)]; exact Nat.zero_le _, o, z, b, l, s, u⟩
    | exact ⟨r, rk, o, z, b, l, s, Nat.le_trans (GG _ _ _) (Nat.succ_le_succ hn.u)⟩
    | exact ⟨r, rk, Nat.le_trans (tA _ _ _) (Nat.succ_le_succ hn.o), z, b, l, s, u⟩
    | exact ⟨r, rk, o, Nat.le_trans (tA _ _ _) (Nat.succ_le_succ hn.z), b, l, s, u⟩
    | exact ⟨r, rk, o, z, Nat.le_trans (tA _ _ _) (Nat.succ_le_succ hn.b), l, s, u⟩
    | exact ⟨r, rk, o, z, b, Nat.le_trans (tA _ _ _) (Nat.succ_le_succ hn.l), s, u⟩
    | exact ⟨r, rk, o, z, b, l, Nat.le_trans (Nt _ _) (Nat.succ_le_succ hn.s), u⟩
    | exact ⟨r, rk, o, z, b, l, s, Nat.le_trans (mf _ _) u⟩
    | exact ⟨r, rk, Nat.le_trans (mf _ _) o, z, b, l, s, u⟩
    | exact ⟨r, rk, o, Nat.le_trans (mf _ _) z, b, l, s, u⟩
    | exact ⟨r, rk, o, z, Nat.le_trans (mf _ _) b, l, s, u⟩
    | exact ⟨r, rk, o, z, b, Nat.le_trans (mf _ _) l, s, u⟩
    | exact ⟨r, rk, o, z, b, l, Nat.le_trans (mf _ _) s, u⟩
noncomputable def nN(j:bI)(e:Ed)(u:Bool):bI:=if u=VD then j else if vW j e=0 then th j e else j
noncomputable def dy(es:List Ed)(us:List Bool)(j:bI):Nat->bI
 |0=>j
 |n+1=>nN (dy es us j n) (es.getD n ef) (us.getD n Vw)
noncomputable def MZ(j:bI)(e:Ed)(u:Bool):Bool:= !u&&decide (vW j e≠0)
noncomputable def OV(es:List Ed)(us:List Bool)(j:bI):Nat->List Nat
 |0=>[]
 |n+1=>if MZ (dy es us j n) (es.getD n ef) (us.getD n Vw)=VD then OV es us j n++[n] else OV es us j n
theorem Lh{e:Ed}(h:vW j e=0):mF (th j e)=0/\th j e=dK j e:=by
 have h2:th j e=dK j e:=by unfold th;rw[if_pos h]
 refine⟨?_,h2⟩;rw[h2];unfold vW at h;split at h
 ·cases h
 ·split at h
  ·rename_i h3;exact absurd h h3
  ·split at h
   ·rename_i h3;exact absurd h h3
   ·exact h
theorem P5{es:List Ed}(h:mF j=0):∀n,mF (dy es us j n)=0:=by
 intro n
 induction n with
 |zero=>exact h
 |succ n ih=>
  show mF (nN _ _ _)=0;unfold nN;split
  ·exact ih
  ·split
   ·rename_i h2;exact(Lh h2).1
   ·exact ih
theorem D7{es:List Ed}(h1:nJ j)(h2:Fl m j)(hg:∀i,i<ln es->dt (es.getD i ef)=Vw):∀n,n<=ln es->nJ (dy es us j n)/\Fl (m+n) (dy es us j n):=by
 intro n
 induction n with
 |zero=>exactλ_=>⟨h1,h2⟩
 |succ n ih=>
  intro hn;obtain⟨a,b⟩:=ih V7;have hb:=b.mono (Nat.le_succ (m+n));show nJ (nN _ _ _)/\Fl (m+n+1) (nN _ _ _);unfold nN;split
  ·exact⟨a,hb⟩
  ·split
   ·rename_i h3;rw[(Lh h3).2];exact⟨a.Tc (hg n V7),b.Tc⟩
   ·exact⟨a,hb⟩
end
section
open Kp
def hH(w:Vt)(B:Nat)(A:Option VT)(cap:Nat)(l:List Ed):Prop:=
 ln l<=cap/\cap<=VP/\(0<ln l->∃b off,A=Vz ⟨b,off,Vx⟩/\b<B/\∀i,i<ln l->∃ga gc,w.rangeAt b (off+37*i) (aE (l.getD i ef) (VV ga (l.getD i ef).gaps.length gc)).toList/\bz w B ga gc (l.getD i ef).gaps)
theorem pn{B b o:Nat}(h:w.rangeAt b o cs)(hb:VS B w w')(hB:b<B):w'.rangeAt b o cs:=
 λj v hv=>(hb.cell hB).trans (h j v hv)
theorem hH.below{B:Nat}{l:List Ed}(h:hH w B A cap l)(hb:VS B w w'):hH w' B A cap l:=by
 refine⟨h.1,h.2.1,λh0=> ?_⟩;obtain⟨b,off,e,hB,hc⟩:=h.2.2 h0;refine⟨b,off,e,hB,λi hi=> ?_⟩;obtain⟨ga,gc,h1,h2⟩:=hc i hi;exact⟨ga,gc,pn h1 hb hB,h2.below hb⟩
theorem hH.more{B B':Nat}{l:List Ed}(h:hH w B A cap l)(hb:B<=B'):hH w B' A cap l:=by
 refine⟨h.1,h.2.1,λh0=> ?_⟩;obtain⟨b,off,e,hB,hc⟩:=h.2.2 h0;refine⟨b,off,e,V7,λi hi=> ?_⟩;obtain⟨ga,gc,h1,h2⟩:=hc i hi;exact⟨ga,gc,h1,h2.more hb⟩
theorem hH.grow{l:List Ed}(h:hH w w.heap.size A cap l)(hx:Ext w w'):hH w' w'.heap.size A cap l:=(h.below hx).more hx.size
theorem hH.at{B:Nat}{l:List Ed}(h:hH w B A cap l)(h0:0<ln l):∃(b off:Nat) (f:Nat->Option VT×Nat),A=Vz ⟨b,off,Vx⟩/\b<B/\
  ∀i,i<ln l->w.rangeAt b (off+37*i) (aE (l.getD i ef) (VV (f i).1 (l.getD i ef).gaps.length (f i).2)).toList/\bz w B (f i).1 (f i).2 (l.getD i ef).gaps:=by
 obtain⟨b,off,e,hB,hc⟩:=h.2.2 h0;refine⟨b,off,λi=>if hi:i<ln l then(Classical.choose (hc i hi),Classical.choose (Classical.choose_spec (hc i hi))) else(Vx,0),e,hB,λi hi=> ?_⟩;simp only[dif_pos hi];exact Classical.choose_spec (Classical.choose_spec (hc i hi))
theorem getD_take{l:List α}{d:α}(h:i<n):(l.take n).getD i d=l.getD i d:=by
 rw[Vv,List.getElem?_take_of_lt h,<-Vv]
theorem getD_drop{l:List α}{d:α}:(l.drop n).getD i d=l.getD (n+i) d:=by
 rw[Vv,List.getElem?_drop,<-Vv]
theorem hH.take{B:Nat}{l:List Ed}(h:hH w B A cap l)(hn:n<=ln l):hH w B A cap (l.take n):=by
 have hl:(l.take n).length=n:=Xn;have h1:=h.1;refine⟨V7,h.2.1,λh0=> ?_⟩;obtain⟨b,off,e,hB,hc⟩:=h.2.2 V7;refine⟨b,off,e,hB,λi hi=> ?_⟩;rw[getD_take V7];exact hc i V7
abbrev eW(l:List Bool):List (List Vy):=l.map λb=>[VX b]
structure Log where
 start:bI
 edits:List Ed
 undone:List Bool
structure kQ where
 ja:dS
 ea:Option VT
 ec:Nat
 ua:Option VT
 uc:Nat
def dL(l:Log)(a:kQ):Array Vy:=#[VW (tx l.start.name),VV a.ja.pa (ln l.start.rings) a.ja.pc,VZ VH l.start.origin,VZ VH l.start.spacing,VV a.ja.ua (ln l.start.purlins) a.ja.uc,VV a.ja.oa (ln l.start.openings) a.ja.oc,VV a.ja.za (ln l.start.sizes) a.ja.zc,VV a.ja.ba (ln l.start.bars) a.ja.bc,VZ VH l.start.kerf,VZ VH l.start.tile.width,VZ VH l.start.tile.length,VZ VH l.start.tile.lap,VZ VH l.start.tile.tail,VV a.ja.la (ln l.start.aG) a.ja.lc,VV a.ja.sa (ln l.start.spans) a.ja.sc,VV a.ea (ln l.edits) a.ec,VV a.ua (ln l.undone) a.uc]
def jn(l:Log)(a:kQ):(dL l a).size=17:=rfl
def kA(l:Log)(a:kQ):(dL l a)[15]?=Vz (VV a.ea (ln l.edits) a.ec):=rfl
def kI(l:Log)(a:kQ):(dL l a)[16]?=Vz (VV a.ua (ln l.undone) a.uc):=rfl
theorem RT(l:Log)(a:kQ)(h:i<15):(dL l a)[i]?=(cQ l.start a.ja)[i]?:=by
 rcases(show i=0\/i=1\/i=2\/i=3\/i=4\/i=5\/i=6\/i=7\/i=8\/i=9\/i=10\/i=11\/i=12\/i=13\/i=14 by omega) with h|h|h|h|h|h|h|h|h|h|h|h|h|h|h<;>subst h<;>rfl
def LC(w:Vt)(c:Nat)(l:Log)(a:kQ):Prop:=w.heap[c]?=Vz (.cells (dL l a) 38 (0,0))
theorem LC.ext{l:Log}{a:kQ}(h:LC w c l a)(hx:Ext w w'):LC w' c l a:=(hx.block c (VF.1 h).1).trans h
theorem LC.lt{l:Log}{a:kQ}(h:LC w c l a):c<w.heap.size:=(VF.1 h).1
theorem LC.cell{l:Log}{a:kQ}(h:LC w c l a)(i:Nat):w.cell? ⟨c,i,Vx⟩=(dL l a)[i]?:=by unfold LC at h;simp[World.cell?,h]
theorem LC.start{l:Log}{a:kQ}(h:LC w c l a):w.rangeAt c 0 (cQ l.start a.ja).toList:=by
 intro j v hv;have hj:j<15:=(List.getElem?_eq_some_iff.1 hv).1;rw[Nat.zero_add,h.cell,RT l a hj];simpa using hv
structure iH(w:Vt)(B:Nat)(l:Log)(a:kQ):Prop where
 j:fg w B l.start a.ja
 e:hH w B a.ea a.ec l.edits
 u:bJ 1 w B a.ua a.uc (eW l.undone)
theorem iH.below{B:Nat}{l:Log}{a:kQ}(h:iH w B l a)(hb:VS B w w'):iH w' B l a:=⟨h.j.below hb,h.e.below hb,h.u.below hb⟩
theorem iH.more{B B':Nat}{l:Log}{a:kQ}(h:iH w B l a)(hb:B<=B'):iH w B' l a:=⟨h.j.more hb,h.e.more hb,h.u.more hb⟩
theorem iH.grow{l:Log}{a:kQ}(h:iH w w.heap.size l a)(hx:Ext w w'):iH w' w'.heap.size l a:=(h.below hx).more hx.size
theorem jA{ops:Array Oper}{rest:List Oper}{o:Oper}{a:Act}{Q:Exit->Act->Vt->Prop}(hgd:o.guard=Vx)(x:Operand)(ho:o.op= .load 68 x)
  (b p:Nat)(hx:a.eval x=VY (Vz ⟨b,p,Vx⟩))(e:Ed)(g:Vy)(hc:w.rangeAt b p (aE e g).toList)
  (h:wpList prog ops Q rest (a.put o.dst (V5 (aE e g))) w):wpList prog ops Q (o::rest) a w:=
 wpList_load_mid hgd _ x ho b p hx (aE e g).toList _ hc underlying68 rfl V8 h
theorem dh{ops:Array Oper}{rest:List Oper}{o:Oper}{a:Act}{Q:Exit->Act->Vt->Prop}(hw:Region.wanted o (yielded ops a.tmps)=VD)(x:Operand)(ho:o.op= .load 34 x)
  (b p:Nat)(hx:a.eval x=VY (Vz ⟨b,p,Vx⟩))(j:bI)(d:dS)(hc:w.rangeAt b p (cQ j d).toList)
  (h:wpList prog ops Q rest (a.put o.dst (V5 (cQ j d))) w):wpList prog ops Q (o::rest) a w:=
 wpList_step λ_ hK=>by
  rw[if_pos hw];exact wp_load_mid _ x ho b p hx (cQ j d).toList _ hc underlying34 rfl V8 (hK _ _ h)
end
section
open Kp
theorem OC(h:mF j=0):ln j.openings<=32:=by
 by_cases h32:ln j.openings<=32
 ·exact h32
 ·exfalso;have hc:nF j.rings j.openings≠0:=by
   unfold nF;have hd:lC j.openings=(Vw,4):=by unfold lC;rw[if_pos V7]
   rw[hd,if_pos V9];decide
  unfold mF at h
  repeat' split at h
  all_goals first|contradiction|omega
structure j5(es:List Ed)(us:List Bool)(j:bI)(m:Nat):Prop where
 sm:nJ j
 ln:Fl m j
 mx:m+es.length<=1000000
 gr:∀i,i<es.length->dt (es.getD i ef)=Vw
 ix:∀i,i<es.length->(es.getD i ef).index<=9223372036854775807
 ok:mF j=0
 eq:us.length=es.length
 NV:es.length<=4096
def j5.ap{es:List Ed}{us:List Bool}{j:bI}{m:Nat}(h:j5 es us j m){i:Nat}(hi:i<es.length):Fe (dy es us j i) (es.getD i ef):=by
 obtain⟨a,b⟩:=D7 (us:=us) h.sm h.ln h.gr i (Nat.le_of_lt hi);have:=h.mx;exact⟨a,b.ln V7,a.Tc (h.gr i hi),h.ix i hi⟩
def j5.take{es:List Ed}{us:List Bool}{j:bI}{m:Nat}(h:j5 es us j m){k:Nat}(hk:k<=es.length):j5 (es.take k) (us.take k) j m:=by
 have hl:(es.take k).length=k:=Xn;have h1:=h.mx;have h2:=h.eq;have h3:=h.NV;refine⟨h.sm,h.ln,V7,λi hi=> ?_,λi hi=> ?_,h.ok,Xn,V7⟩
 ·rw[getD_take V7];exact h.gr i V7
 ·rw[getD_take V7];exact h.ix i V7
def j5.drop{es:List Ed}{us:List Bool}{j:bI}{m:Nat}(h:j5 es us j m){k:Nat}(hk:k<=es.length):j5 (es.drop k) (us.drop k) (dy es us j k) (m+k):=by
 have hl:(es.drop k).length=es.length-k:=List.length_drop;obtain⟨a,b⟩:=D7 (us:=us) h.sm h.ln h.gr k hk;have h1:=h.mx;have h2:=h.eq;have h3:=h.NV;refine⟨a,b,V7,λi hi=> ?_,λi hi=> ?_,P5 h.ok k,by rw[List.length_drop];omega,V7⟩
 ·rw[getD_drop];exact h.gr _ V7
 ·rw[getD_drop];exact h.ix _ V7
structure Sw(l:Log):Prop where
 j:yZ l.start
 e:∀i,i<ln l.edits->dt (l.edits.getD i ef)=Vw
 n:ln l.edits<=6
 u:ln l.undone<=6
structure LI(l:Log):Prop where
 gr:Sw l
 ok:mF l.start=0
 eq:ln l.undone=ln l.edits
def LI.fi{l:Log}(h:LI l):uW l.start:=⟨h.gr.j,OC h.ok⟩
def LI.rp{l:Log}(h:LI l)(hx:∀e∈l.edits,bj e.index):j5 l.edits l.undone l.start 4100:=by
 have:=h.gr.n;refine⟨h.fi.sm,h.fi.l,V7,h.gr.e,λi hi=> ?_,h.ok,h.eq,V7⟩;rw[Vv,VA hi];exact(hx _ (List.getElem_mem hi)).2
noncomputable def iN(es:List Ed)(us:List Bool)(j:bI)(n:Nat):List Int:=(OV es us j n).map (λ(i:Nat)=>(i:Int))
end
section
open Kp
def yr:(prog.info? 68).map (λi=>(i.zero,i.size,i.bytes))=Vz (Vz (V5 (aE ef (VV Vx 0 0))),37,360):=V8
def CV:Qe 40 68 37:=by
 intro w A cap rows hr hw h1 hlen;obtain⟨i0,hi,hz0,hz1,hz2⟩:=info_parts yr;have U:=underlying35;go_enter func40,ntmps40;exact jX
def xC:(prog.info? 4).map (λi=>(i.zero,i.size,i.bytes))=Vz (Vz (VX Vw),1,1):=V8
def BC:Qe 41 4 1:=by
 intro w A cap rows hr hw h1 hlen;obtain⟨i0,hi,hz0,hz1,hz2⟩:=info_parts xC;have U:=underlying36;go_enter func41,ntmps41;exact jX
def vY(w:Vt)(B:Nat)(rows:List (List Vy))(l:List Ed):Prop:=
 ln rows=ln l/\∀i,i<ln l->∃ga gc,rows.getD i []=(aE (l.getD i ef) (VV ga (l.getD i ef).gaps.length gc)).toList/\bz w B ga gc (l.getD i ef).gaps
theorem vY.below{B:Nat}{rows:List (List Vy)}{l:List Ed}(h:vY w B rows l)(hb:VS B w w'):vY w' B rows l:=
 ⟨h.1,λi hi=>by obtain⟨ga,gc,e,s⟩:=h.2 i hi;exact⟨ga,gc,e,s.below hb⟩⟩
theorem vY.more{B B':Nat}{rows:List (List Vy)}{l:List Ed}(h:vY w B rows l)(hb:B<=B'):vY w B' rows l:=
 ⟨h.1,λi hi=>by obtain⟨ga,gc,e,s⟩:=h.2 i hi;exact⟨ga,gc,e,s.more hb⟩⟩
theorem vY.at{B:Nat}{rows:List (List Vy)}{l:List Ed}(h:vY w B rows l)(hr:r∈rows):∃e ga gc,r=(aE e (VV ga (ln e.gaps) gc)).toList:=by
 obtain⟨i,hi,rfl⟩:=List.mem_iff_getElem.1 hr;obtain⟨ga,gc,e,_⟩:=h.2 i (by rw[<-h.1];exact hi);rw[Vv,VA hi] at e;exact⟨_,ga,gc,e⟩
theorem vY.wide{B:Nat}{rows:List (List Vy)}{l:List Ed}(h:vY w B rows l):de 37 rows:=by
 intro r hr;obtain⟨e,ga,gc,rfl⟩:=h.at hr
 rfl
theorem vY.one{B:Nat}{rows:List (List Vy)}{l:List Ed}(h:vY w B rows l):jG rows:=by
 intro r hr u hu;obtain⟨e,ga,gc,rfl⟩:=h.at hr;have:((aE e (VV ga (ln e.gaps) gc)).all λx=>x.oneCell')=VD:=V8;exact Array.all_eq_true_iff_forall_mem.1 this u (by simpa using hu)
theorem BI{B:Nat}{l:List Ed}(h:hH w B A cap l):∃rows,vY w B rows l/\bJ 37 w B A cap rows:=by
 have hg:∀i,∃p:Option VT×Nat,i<ln l->bz w B p.1 p.2 (l.getD i ef).gaps/\∀b off,A=Vz ⟨b,off,Vx⟩->w.rangeAt b (off+37*i) (aE (l.getD i ef) (VV p.1 (l.getD i ef).gaps.length p.2)).toList:=by
  intro i;by_cases hi:i<ln l
  ·obtain⟨b,off,e,_,hc⟩:=h.2.2 V7;obtain⟨ga,gc,h1,h2⟩:=hc i hi;refine⟨(ga,gc),λ_=>⟨h2,λb' off' e'=> ?_⟩⟩;rw[e] at e';injection e' with e'
   injection e' with e1 e2
   subst e1 e2;exact h1
  ·exact⟨(Vx,0),λh=>absurd h hi⟩
 obtain⟨f,hf⟩:=Classical.axiomOfChoice hg;have hat:∀i,i<ln l->((List.range (ln l)).map λi=>(aE (l.getD i ef) (VV (f i).1 (l.getD i ef).gaps.length (f i).2)).toList).getD i []=(aE (l.getD i ef) (VV (f i).1 (l.getD i ef).gaps.length (f i).2)).toList:=by
  intro i hi;simp[Vv,hi]
 refine⟨(List.range (ln l)).map λi=>(aE (l.getD i ef) (VV (f i).1 (l.getD i ef).gaps.length (f i).2)).toList,⟨Wa,λi hi=>⟨(f i).1,(f i).2,hat i hi,(hf i hi).1⟩⟩,by simpa using h.1,h.2.1,λh0=> ?_⟩;have h0':0<ln l:=by simpa using h0
 obtain⟨b,off,e,hB,_⟩:=h.2.2 h0';refine⟨b,off,e,hB,λi hi j hj=> ?_⟩;have hi':i<ln l:=Xl;rw[hat i hi'];have hl:j<(aE (l.getD i ef) (VV (f i).1 (l.getD i ef).gaps.length (f i).2)).toList.length:=hj;rw[VA hl];exact(hf i hi').2 b off e j _ (VA hl)
theorem MQ{B:Nat}{rows:List (List Vy)}{l:List Ed}(h:vY w B rows l)(hs:bJ 37 w B A cap rows):hH w B A cap l:=by
 obtain⟨h1,h2,h3⟩:=hs;rw[h.1] at h1;refine⟨h1,h2,λhn=> ?_⟩;obtain⟨b,off,e,hb,hc⟩:=h3 (by rw[h.1];exact hn);refine⟨b,off,e,hb,λi hi=> ?_⟩;obtain⟨ga,gc,q1,q2⟩:=h.2 i hi;refine⟨ga,gc,λj v hv=> ?_,q2⟩;have hj:j<37:=(List.getElem?_eq_some_iff.1 hv).1;rw[hc i (by rw[h.1];exact hi) j hj,q1];exact hv
end
section
open Kp
theorem lL{P:Program}(w:Vt)(base:Nat)(t ty e:VR)(i:TypeInfo)(z:Vy)(size bytes:Nat)(ht:P.underlying t=Vz (.slice e))(hi:P.info? e=Vz i)(hz:i.zero=Vz z)
  (hsize:i.size=size)(hby:i.bytes=bytes)(hzs:z.cells.size=size)(hsz:0<size)(v:Vy)(n:Nat)(xs:List Vy)(hown:w.ownsRow base e size v n xs)
  (a:VT)(m c:Nat)(news:List Vy)(hl:news.length=m*size)(hnews:∀j u,news[j]?=Vz u→w.cell? (a.add j)=Vz u)(h1:∀u∈news,u.oneCell'=VD)
  (h63:n+m≤VP)(hbytes:(n+m)*bytes≤140737488355328)(hbase:base≤w.heap.size):
  ∃v' w',(Builtin.append_ #[t,t] ty #[v,.slice (Vz a) m c]).run P w= .ok v' w'∧w'.ownsRow base e size v' (n+m) (xs++news)∧w.grownBy w' v.ownBlock∧∀k,v'.ownBlock=Vz k→v.ownBlock=Vz k∨w.heap.size≤k:=by
 obtain⟨v',w',hr,h2,h3,_⟩:=run_append_own (P:=P) w base t ty e i z size bytes ht hi hz hsize hby hzs hsz v n xs hown a m c news hl hnews h1 h63 hbytes hbase
 refine⟨v',w',hr,h2,h3,fun k hk=> ?_⟩
 rcases hown.2 with⟨rfl,rfl⟩|⟨g,cap,cur,rfl,hbg,hg,hnc,hcm,hcs,htake⟩
 ·obtain⟨v2,w2,hr2,h22,_⟩:=run_append_own (P:=P) w w.heap.size t ty e i z size bytes ht hi hz hsize hby hzs hsz (.slice Vx 0 0) 0 [] (World.ownsRow_nil w _ e size) a m c news hl hnews h1 h63 hbytes (Vu _)
  rw[hr] at hr2
  injection hr2 with e1 e2
  subst e1 e2
  exact .inr (h22.lt k hk).1
 ·by_cases hroom:n+m≤cap
  ·have hfit:n*i.size+news.length≤cur.size:=by rw[hl,hcs,hsize,←Nat.add_mul];exact Nat.mul_le_mul_right _ hroom
   have hr2:=run_append_room (P:=P) w t ty e i ht hi g n cap cur hg a m c news (by rw[hsize];exact hl) hnews h1 hroom hfit
   rw[hr] at hr2
   injection hr2 with e1 e2
   subst e1
   exact .inl hk
  ·have holds:∀j u,xs[j]?=Vz u→w.cell? ((⟨g,0,Vx⟩:VT).add j)=Vz u:=hown.cells (g:=g) rfl
   have h63':=h63
   simp only[VP] at h63'
   have hr2:=run_append_grow (P:=P) w t ty e i z ht hi hz ⟨g,0,Vx⟩ n cap xs (by rw[hsize];exact hown.1) holds a m c news (by rw[hsize];exact hl) hnews (by omega) (by omega) (growslice_fits (by omega) (by rw[hby];exact hbytes))
   rw[hr] at hr2
   injection hr2 with e1 e2
   subst e1
   simp[Value.ownBlock] at hk
   exact .inr (by omega)
theorem o7{P:Program}{w:Vt}{ops:Array Oper}{rest:List Oper}{o:Oper}{a:Act}{Q:Exit→Act→Vt→Prop}(hgd:o.guard=Vx)(s x:Operand)(t:VR)
  (ho:o.op= .call {callee:= .builtin .append,args:=#[s,x],argTypes:=#[t,t]})
  (base:Nat)(e:VR)(i:TypeInfo)(z:Vy)(size bytes:Nat)(ht:P.underlying t=Vz (.slice e))(hi:P.info? e=Vz i)(hz:i.zero=Vz z)
  (hsize:i.size=size)(hby:i.bytes=bytes)(hzs:z.cells.size=size)(hsz:0<size)
  (v:Vy)(n:Nat)(xs:List Vy)(hs:a.eval s=v)(hown:w.ownsRow base e size v n xs)
  (ad:VT)(m c:Nat)(news:List Vy)(hx:a.eval x= .slice (Vz ad) m c)(hl:news.length=m*size)(hnews:∀j u,news[j]?=Vz u→w.cell? (ad.add j)=Vz u)(h1:∀u∈news,u.oneCell'=VD)
  (h63:n+m≤VP)(hbytes:(n+m)*bytes≤140737488355328)(hbase:base≤w.heap.size)
  (h:∀v' w',w'.ownsRow base e size v' (n+m) (xs++news)→w.grownBy w' v.ownBlock→(∀k,v'.ownBlock=Vz k→v.ownBlock=Vz k∨w.heap.size≤k)→wpList P ops Q rest (a.put o.dst v') w'):wpList P ops Q (o::rest) a w:=by
 obtain⟨v',w',hr,h2,h3,h4⟩:=lL (P:=P) w base t o.type e i z size bytes ht hi hz hsize hby hzs hsz v n xs hown ad m c news hl hnews h1 h63 hbytes hbase
 refine wpList_plain hgd fun _ hK=> ?_
 unfold Oper.wp execOp
 simp only[ho,resolve,invoke,builtin,Sem.run_bind,Sem.run_pure,Result.andThen_ok,List.map_toArray,List.map_cons,List.map_nil,hs,hx,hr]
 exact hK _ _ (h v' w' h2 h3 h4)
def size_setRow(W:Vt)(c:Nat)(cs:Array Vy):(W.setRow c cs).heap.size=W.heap.size:=by simp[World.setRow]
theorem lI(W:Vt)(cs:Array Vy)(h:b≠c):(W.setRow c cs).heap[b]?=W.heap[b]?:=by
 simp only[World.setRow,Array.getElem?_modify];rw[if_neg (Ne.symm h)]
theorem iD.row{S:Nat->Prop}(h:iD S W W.heap.size j a)(hc:S c)(cs:Array Vy):iD S (W.setRow c cs) (W.setRow c cs).heap.size j a:=by
 have hs:=size_setRow W c cs;have hn:∀b,¬S b->(W.setRow c cs).heap[b]?=W.heap[b]?:=λb hb=>lI W cs (λe=>hb (e▸hc))
 exact⟨h.av _ ⟨V7,λb _ hb=>hn b hb⟩,λV hO=>h.av V ⟨by have:=hO.1;omega,λb hb hx=>(hO.2 b V7 hx).trans (hn b hx)⟩⟩
theorem iD.grown{S:Nat->Prop}{v v':Vy}(h:iD (λb=>S b\/v.ownBlock=Vz b) w w.heap.size j a)(hg:w.grownBy w' v.ownBlock)(hv:∀k,v'.ownBlock=Vz k->v.ownBlock=Vz k\/w.heap.size<=k):
  iD (λb=>S b\/v'.ownBlock=Vz b) w' w'.heap.size j a:=by
 have hs:=hg.size;refine⟨h.av w' ⟨hs,λb hb hn=>hg.block b hb (λe=>hn (.inr e.symm))⟩,λW hO=>h.av W ⟨VI hs hO.1,λb hb hn=>(hO.2 b V7 (λq=> ?_)).trans (hg.block b hb (λe=>hn (.inr e.symm)))⟩⟩;rcases q with q|q
 ·exact hn (.inl q)
 ·rcases hv b q with e|e
  ·exact hn (.inr e)
  ·omega
theorem JC.row(h:JC W b j a)(hne:b≠c)(cs:Array Vy):JC (W.setRow c cs) b j a:=(lI W cs hne).trans h
theorem Dl{B n k q:Nat}{t t':VR}(h:w.ownsRow B t k V n xs)(hq:w.heap[q]?=Vz (.cells ds t' (0,0)))(hne:t≠t')(cs:Array Vy):(w.setRow q cs).ownsRow B t k V n xs:=
 Dx h (.inr (mc h hq hne)) cs
theorem JC.grown(h:JC w b j a){v:Vy}(ho:w.ownsRow base e s v n xs)(hg:w.grownBy w' v.ownBlock)(hne:e≠34):JC w' b j a:=
 (hg.block b h.lt (λq=>mc ho h hne q.symm)).trans h
end
section
open Kp
attribute [local go_sem] bM aM
theorem bz.off{B:Nat}{l:List (Int×Int)}(h:bz w B ga gc l)(hs:w.heap.size<=W.heap.size)(hB:∀b,b<B->W.heap[b]?=w.heap[b]?):bz W B ga gc l:=by
 have q:bz {w with heap:=W.heap} B ga gc l:=h.below ⟨rfl,rfl,rfl,hs,hB⟩;exact q
def rP(w:Vt)(j:bI)(a:dS)(e:Ed)(ga:Option VT)(gc:Nat)(hb:fg w w.heap.size j a)(hg:bz w w.heap.size ga gc e.gaps)(hok:Fe j e)(hm:fG w)(ht:aW w):
  VJ prog 18 #[V5 (cQ j a),V5 (aE e (VV ga (ln e.gaps) gc))] w λx w'=>x=V0 (VZ VH (vW j e))/\Ext w w':=by
 have e0:Ext w ((w.alloc (.cells (cQ j a) 34)).alloc (.cells (aE e (VV ga (ln e.gaps) gc)) 68)):=((Below.refl _ _).alloc (Vu _) _).alloc Wa _;have HE0:=Vs e0;have HJ:=Vs (JC.ext (VG w _:JC (w.alloc (.cells (cQ j a) 34)) w.heap.size j a) ((Below.refl _ _).alloc (Vu _) (.cells (aE e (VV ga (ln e.gaps) gc)) 68)));have HZ:=Vs (show EC ((w.alloc (.cells (cQ j a) 34)).alloc (.cells (aE e (VV ga (ln e.gaps) gc)) 68)) (w.heap.size+1) (aE e (VV ga (ln e.gaps) gc)) by
  have:=EC.new (w.alloc (.cells (cQ j a) 34)) (aE e (VV ga (ln e.gaps) gc));rw[VK] at this;exact this)
 have KA:=Vs (qW _ j a e ga gc (X:=λ_=>False) ((hb.grow e0).v (Vu _) (λ_ _ h=>h)) ((hg.below e0).more e0.size) (λW hO=>((hg.below e0).off hO.1 λb hb=>hO.2 b (Nat.lt_of_lt_of_le hb e0.size) id).more (VI e0.size hO.1)) (λ_ h=>h.elim) hok (hm.below e0 (Vu _)) (ht.below e0 (Vu _)));obtain⟨z,hz⟩:∃z,vW j e=z:=⟨_,rfl⟩;obtain⟨j',hj⟩:∃z,th j e=z:=⟨_,rfl⟩;unfold ve at KA;simp only[hz,hj] at KA;rw[hz];clear hz hj hb hg hok hm ht e0;go_enter func18,ntmps18;go_wp2_with(first
  |(go_at_call 19;go_must(refine KA.o.mono ?_);rintro x1 W1 ⟨a',rfl,hX1,_⟩;have HX1:=Vs hX1;clear hX1)
  |(refine wpList_load_row rfl 34 _ rfl _ rfl 34 _ (0,0) _ HJ.o underlying34 rfl V8 ?_)
  |(refine wpList_load_row rfl 68 _ rfl _ rfl 68 _ (0,0) _ HZ.o underlying68 rfl V8 ?_)
  |(refine wpList_store_row rfl 34 _ _ rfl _ _ rfl rfl 34 _ (VG W1 _) V8 V8 V8 ?_))
 go_ret;exact⟨rfl,ah ((HE0.o.tr HX1.o).alloc (HE0.o.tr HX1.o).size _) (HE0.o.tr HX1.o).size _⟩
end
section
open Kp
attribute [local go_sem] bM aM jn kA kI
def yG{fn:Func}{p u v:Tmp}(h:fn.results=#[.cell p 34,.tmp u,.tmp v])(tmps:Array Vy)(w:Vt)(g:Nat)(cs:Array Vy)
  (hp:tmps.getD p VB=VY (Vz ⟨g,0,Vx⟩))(hg:w.heap[g]?=Vz (.cells cs 34 (0,0)))(hi:(prog.info? 34).map (·.size)=Vz cs.size):
  (results fn tmps).run prog w= .ok (V6 #[V5 cs,tmps.getD u VB,tmps.getD v VB]) w:=by
 have hp':tmps[p]?.getD VB=VY (Vz ⟨g,0,Vx⟩):=by simpa using hp
 have hl:=run_loadVar_row (P:=prog) w g 34 34 cs (0,0) _ hg underlying34 rfl hi;simp[results,h,hp',asAddr,hl,Result.andThen]
def vF(es:List Ed)(us:List Bool)(j:bI)(k:Nat):iN es us j (k+1)=if MZ (dy es us j k) (es.getD k ef) (us.getD k Vw)=VD then iN es us j k++[(k:Int)] else iN es us j k:=by
 unfold iN;show(if _ then _ else _:List Nat).map _=_;split <;>simp_all
def LP(es:List Ed)(us:List Bool)(j:bI):∀k,(OV es us j k).length<=k:=by
 intro k
 induction k with
 |zero=>exact Vu _
 |succ k ih=>
  show(if _ then _ else _:List Nat).length<=_;split
  ·rw[VM,List.length_singleton];omega
  ·omega
def Uw(X:Nat->Prop)(c:Nat)(b:Nat):Prop:=X b\/b=c\/b=c+1
structure F3(X:Nat->Prop)(w:Vt)(es:List Ed)(us:List Bool)(j:bI)(k:Nat)(lf:Vy)(wr:Vt):Prop where
 ext:Ext w wr
 big:w.heap.size+2<=wr.heap.size
 mem:∃aj,JC wr w.heap.size (dy es us j k) aj/\iD (λb=>Uw X w.heap.size b\/lf.ownBlock=Vz b) wr wr.heap.size (dy es us j k) aj
 res:JC wr (w.heap.size+1) kM lB
 own:wr.ownsRow (w.heap.size+2) 3 1 lf (iN es us j k).length (bG (iN es us j k)).flatten
theorem F3.same{X:Nat->Prop}{es:List Ed}(h:F3 X w es us j k lf wr)(hx:Ext wr W)(hu:us.getD k Vw=VD):F3 X w es us j (k+1) lf W:=by
 have e1:dy es us j (k+1)=dy es us j k:=by show nN _ _ _=_;unfold nN;rw[if_pos hu]
 have e2:iN es us j (k+1)=iN es us j k:=by rw[vF];unfold MZ;rw[hu];rfl
 obtain⟨aj,h1,h2⟩:=h.mem;exact⟨h.ext.tr hx,VI h.big hx.size,⟨aj,by rw[e1];exact JC.ext h1 hx,by rw[e1];exact h2.grow hx⟩,JC.ext h.res hx,by rw[e2];exact aO h.own hx⟩
theorem F3.pQ{X:Nat->Prop}{es:List Ed}(h:F3 X w es us j k lf wr)(hx:Ext wr W)(hu:us.getD k Vw=Vw)(hz:vW (dy es us j k) (es.getD k ef)=0)
  (hb:iD (λb=>Uw X w.heap.size b\/lf.ownBlock=Vz b) W W.heap.size (th (dy es us j k) (es.getD k ef)) a'):F3 X w es us j (k+1) lf (W.setRow w.heap.size (cQ (th (dy es us j k) (es.getD k ef)) a')):=by
 have e1:dy es us j (k+1)=th (dy es us j k) (es.getD k ef):=by show nN _ _ _=_;unfold nN;rw[hu,if_neg V9,if_pos hz]
 have e2:iN es us j (k+1)=iN es us j k:=by rw[vF];unfold MZ;rw[hu,hz];rfl
 obtain⟨aj,h1,h2⟩:=h.mem;have h3:=JC.ext h1 hx;refine⟨ah (h.ext.tr hx) (Vu _) _,?_,⟨a',?_,?_⟩,?_,?_⟩
 ·rw[size_setRow];exact VI h.big hx.size
 ·rw[e1];exact setRow_heap h3 _
 ·rw[e1];exact hb.row (.inl (.inr (.inl rfl))) _
 ·exact(JC.ext h.res hx).row V7 _
 ·rw[e2];exact Dl (aO h.own hx) h3 V9 _
theorem F3.Ul{X:Nat->Prop}{es:List Ed}{lf lf':Vy}{wr W W':Vt}(h:F3 X w es us j k lf wr)(hx:Ext wr W)(hu:us.getD k Vw=Vw)(hz:vW (dy es us j k) (es.getD k ef)≠0)
  (ho:W'.ownsRow (w.heap.size+2) 3 1 lf' ((iN es us j k).length+1) ((bG (iN es us j k)).flatten++[VZ VH (k:Int)]))(hg:W.grownBy W' lf.ownBlock)(hf:∀b,lf'.ownBlock=Vz b->lf.ownBlock=Vz b\/W.heap.size<=b):F3 X w es us j (k+1) lf' W':=by
 have e1:dy es us j (k+1)=dy es us j k:=by show nN _ _ _=_;unfold nN;rw[hu,if_neg V9,if_neg hz]
 have e2:iN es us j (k+1)=iN es us j k++[(k:Int)]:=by rw[vF];unfold MZ;rw[hu,decide_eq_true hz];rfl
 obtain⟨aj,h1,h2⟩:=h.mem;have h3:=JC.ext h1 hx;have ho1:=aO h.own hx;refine⟨ei (h.ext.tr hx) hg (λq hq=>VI V7 (az ho1 q hq).1),VI h.big (VI hx.size hg.size),⟨aj,?_,?_⟩,?_,?_⟩
 ·rw[e1];exact h3.grown ho1 hg V9
 ·rw[e1];exact(h2.grow hx).grown hg hf
 ·exact(JC.ext h.res hx).grown ho1 hg V9
 ·rw[e2,VM,show bG (iN es us j k++[(k:Int)])=bG (iN es us j k)++bG [(k:Int)] from List.map_append,List.flatten_append];exact ho
def Lx(X:Nat->Prop)(w:Vt)(es:List Ed)(us:List Bool)(j:bI)(x:Ending)(w':Vt):Prop:=
 ∃a' L lc,x=V0 (V6 #[V5 (cQ (dy es us j (ln es)) a'),VV L (iN es us j (ln es)).length lc,VZ VH 0])/\Ext w w'/\iD (λb=>X b\/(Value.slice L (iN es us j (ln es)).length lc).ownBlock=Vz b) w' w'.heap.size (dy es us j (ln es)) a'/\w'.ownsRow w.heap.size 3 1 (VV L (iN es us j (ln es)).length lc) (iN es us j (ln es)).length (bG (iN es us j (ln es))).flatten
theorem F3.done{X:Nat->Prop}{es:List Ed}{m lc:Nat}(h:F3 X w es us j n (VV L m lc) wr)(hb:iD (λb=>Uw X w.heap.size b\/(Value.slice L m lc).ownBlock=Vz b) wr wr.heap.size (dy es us j n) aj):
  m=(iN es us j n).length/\Ext w (wr.setRow (w.heap.size+1) (cQ (dy es us j n) aj))/\iD (λb=>X b\/(Value.slice L m lc).ownBlock=Vz b) (wr.setRow (w.heap.size+1) (cQ (dy es us j n) aj)) (wr.setRow (w.heap.size+1) (cQ (dy es us j n) aj)).heap.size (dy es us j n) aj
   /\(wr.setRow (w.heap.size+1) (cQ (dy es us j n) aj)).ownsRow w.heap.size 3 1 (VV L m lc) (iN es us j n).length (bG (iN es us j n)).flatten:=by
 have ho:=Dl h.own h.res V9 (cQ (dy es us j n) aj);obtain⟨L',lc',e,hs⟩:=aK ho (VC _) (bC (f:=λn=>[VZ VH n]) (λ_=>rfl) _);exact⟨by injection e,ah h.ext V7 _,(hb.row (.inl (.inr (.inr rfl))) _).mono (λb _ hb=>hb.imp .inl id),dA ho V7⟩
theorem DP (w : World) (j : bI) (a : dS) (es : List Ed) (us : List Bool) (A : Option Addr) (cap : Nat) (A' : Option Addr) (cap' m B : Nat) {X : Nat → Prop} (hb : iD X w w.heap.size j a) (hX : ∀ b, X b → b < w.heap.size)
    (he : hH w B A cap es) (hu : bJ 1 w B A' cap' (eW us)) (hB : B ≤ w.heap.size) (hBX : ∀ b, b < B → ¬ X b) (hr : j5 es us j m) (hm : fG w) (ht : aW w) :
    Calls Tryz.prog 8 #[.agg (cQ j a), .slice A es.length cap, .slice A' us.length cap'] w (Lx X w es us j) := by
  obtain ⟨W0, hW0⟩ : ∃ W0, (w.alloc (.cells (cQ j a) 34)).alloc (.cells (cQ kM lB) 34) = W0 := ⟨_, rfl⟩
  have hs0 : W0.heap.size = w.heap.size + 2 := by rw [← hW0]; simp
  have e0 : Ext w W0 := by rw [← hW0]; exact ((Below.refl _ _).alloc (Nat.le_refl _) _).alloc (by simp) _
  have hJ : JC W0 w.heap.size j a := by rw [← hW0]; exact JC.ext (World.alloc_heap_new w _) ((Below.refl _ _).alloc (Nat.le_refl _) _)
  have hR : JC W0 (w.heap.size + 1) kM lB := by
    rw [← hW0]
    have := World.alloc_heap_new (w.alloc (.cells (cQ j a) 34)) (.cells (cQ kM lB) 34)
    rw [World.size_alloc] at this
    exact this
  have HW := Lib.hid (show ((w.alloc (.cells (cQ j a) 34)).alloc (.cells #[.string { data := #[] }, .slice none 0 0, .int .i64 0, .int .i64 0, .slice none 0 0, .slice none 0 0, .slice none 0 0, .slice none 0 0, .int .i64 0, .int .i64 0, .int .i64 0, .int .i64 0, .int .i64 0, .slice none 0 0, .slice none 0 0] 34)) = W0 from hW0)
  have HJ := Lib.hid hJ
  have HE0 := Lib.hid e0
  have HX := Lib.hid hX
  have HR := Lib.hid hr
  have HE := Lib.hid he
  have HU := Lib.hid hu
  have HB := Lib.hid hB
  have HBX := Lib.hid hBX
  have HM := Lib.hid (fun (W : World) (h : Ext w W) => hm.below h (Nat.le_refl _))
  have HT := Lib.hid (fun (W : World) (h : Ext w W) => ht.below h (Nat.le_refl _))
  have H0 := Lib.hid (show F3 X w es us j 0 (.slice none 0 0) W0 from ⟨e0, by omega, ⟨a, hJ, ⟨hb.tofg.grow e0, fun W hO => hb.av W ⟨Nat.le_trans e0.size hO.1, fun b h1 h2 => (hO.2 b (by omega) (by
    rintro ((q | q | q) | q)
    · exact h2 q
    · omega
    · omega
    · cases q)).trans (e0.block b h1)⟩⟩⟩, hR, World.ownsRow_nil _ _ _ _⟩)
  have KJ := Lib.hid (mG W0 j a (hb.tofg.grow e0) hr.sm (HM.out _ e0) (HT.out _ e0))
  rw [hr.ok] at KJ
  have hlu := hr.eq
  have h4 := hr.NV
  rw [hlu]
  obtain ⟨i0, hi0, hz0, hz1, hz2⟩ := info_parts eA
  have I0 := Lib.hid hi0
  have I1 := Lib.hid hz0
  have I2 := Lib.hid hz1
  have I3 := Lib.hid hz2
  clear hJ hR hb hX he hu hB hBX hr hm ht hW0 hi0 hz0 hz1 hz2 hs0 e0 hlu
  go_enter Tryz.func8, Tryz.ntmps8
  go_upto_region 1 with (fail)
  rw [HW.out]
  go_wp2_with (first
    | (go_at_call 25; go_must (refine KJ.out.mono ?_); rintro x1 W1 ⟨rfl, hX1⟩; have HX1 := Lib.hid hX1; clear hX1)
    | (refine wpList_load_row rfl 34 _ rfl _ rfl 34 _ (0, 0) _ HJ.out Tryz.underlying34 rfl (by kernel_rfl) ?_))
  have H1 := Lib.hid (show F3 X w es us j 0 (.slice none 0 0) W1 by
    obtain ⟨aj, q1, q2⟩ := H0.out.mem
    exact ⟨H0.out.ext.tr HX1.out, Nat.le_trans H0.out.big HX1.out.size, ⟨aj, JC.ext q1 HX1.out, q2.grow HX1.out⟩, JC.ext H0.out.res HX1.out, aO H0.out.own HX1.out⟩)
  go_loopw [9, 33] (fun lf i wr => ∃ k : Nat, i = .int .i64 (k : Int) ∧ k ≤ es.length ∧ F3 X w es us j k lf wr) (fun _ i _ => ((es.length : Int) - intOf i).toNat)
  case atStart => exact ⟨0, rfl, by omega, H1.out⟩
  case round =>
    obtain ⟨k, rfl, hk, hI⟩ := hrel
    obtain ⟨L, ln, lc, hlf⟩ := ng.of hI.own
    subst hlf
    have HI := Lib.hid hI
    clear hI
    by_cases hlt : k < es.length
    · obtain ⟨b, off, f, hA, hbB, hc⟩ := HE.out.at (by omega)
      obtain ⟨hc1, hgp⟩ := hc k hlt
      obtain ⟨b', off', hA', hbB', hc'⟩ := HU.out.2.2 (by rw [List.length_map, HR.out.eq]; omega)
      subst hA hA'
      have hcu : w.cell? ⟨b', off' + k, none⟩ = some (.bool (us.getD k false)) := by
        have q := hc' k (by rw [List.length_map, HR.out.eq]; omega) 0 (by decide)
        rw [Nat.one_mul, Nat.add_zero] at q
        rw [q, List.getD_eq_getElem?_getD, List.getElem?_map, List.getD_eq_getElem?_getD, List.getElem?_eq_getElem (show k < us.length by rw [HR.out.eq]; omega)]
        rfl
      rw [Nat.mul_comm] at hc1
      have hbz : b < w.heap.size := Nat.lt_of_lt_of_le hbB HB.out
      have hbz' : b' < w.heap.size := Nat.lt_of_lt_of_le hbB' HB.out
      have HC1 := Lib.hid (fun (W : World) (h : Ext w W) => pn hc1 h hbz)
      have HCU := Lib.hid (fun (W : World) (h : Ext w W) => (Below.cell h hbz').trans hcu)
      have HGP := Lib.hid hgp
      obtain ⟨u, hu⟩ : ∃ u, us.getD k false = u := ⟨_, rfl⟩
      rw [hu] at HCU
      have HUK := Lib.hid hu
      obtain ⟨ed, hed⟩ : ∃ ed, es.getD k ef = ed := ⟨_, rfl⟩
      have HED := Lib.hid hed
      rw [hed] at HC1
      rw [hed] at HGP
      obtain ⟨g, hg⟩ : ∃ g, Value.slice (f k).1 ed.gaps.length (f k).2 = g := ⟨_, rfl⟩
      have HG := Lib.hid hg
      have HOC := Lib.hid (show ((aE ed g).all fun x => x.oneCell') = true by rw [← hg]; kernel_rfl)
      rw [hg] at HC1
      clear hc hc1 hgp hc' hcu hbB hbB' hu hed hg
      cases u with
      | true =>
        go_wp2_with (first
          | (refine jA rfl _ rfl b (off + k * 37) rfl _ _ (HC1.out _ HI.out.ext) ?_)
          | (refine wpList_store_row rfl 68 _ _ rfl _ _ rfl rfl 68 _ (World.alloc_heap_new _ _) (by kernel_rfl) (by kernel_rfl) HOC.out ?_
             generalize hW2 : World.setRow _ _ (aE ed g) = W2
             have X2 := Lib.hid (show Ext _ W2 from by rw [← hW2]; exact ah ((Below.refl _ _).alloc (Nat.le_refl _) _) (Nat.le_refl _) _)
             have cu := HCU.out _ (HI.out.ext.tr X2.out)
             clear hW2))
        exact ⟨⟨k + 1, by go_num, by omega, HI.out.same X2.out HUK.out⟩, by simp [intOf]; omega⟩
      | false =>
        obtain ⟨aj, q1, q2⟩ := HI.out.mem
        have J1 := Lib.hid q1
        have V1 := Lib.hid q2
        have hap := HR.out.ap hlt
        rw [HED.out] at hap
        have HAP := Lib.hid hap
        obtain ⟨jk, hjk⟩ : ∃ x, dy es us j k = x := ⟨_, rfl⟩
        have HJK := Lib.hid hjk
        rw [hjk] at J1 V1 HAP
        clear q1 q2 hap hjk
        go_wp2_with (first
          | (go_at_call 19; fail)
          | (refine jA rfl _ rfl b (off + k * 37) rfl _ _ (HC1.out _ HI.out.ext) ?_)
          | (refine wpList_load_row rfl 34 _ rfl _ rfl 34 _ (0, 0) _ J2.out Tryz.underlying34 rfl (by kernel_rfl) ?_)
          | (refine wpList_load_row rfl 68 _ rfl _ rfl 68 _ (0, 0) _ D2.out Tryz.underlying68 rfl (by kernel_rfl) ?_)
          | (refine wpList_store_row rfl 68 _ _ rfl _ _ rfl rfl 68 _ (World.alloc_heap_new _ _) (by kernel_rfl) (by kernel_rfl) HOC.out ?_
             generalize hW2 : World.setRow _ _ (aE ed g) = W2
             have X2 := Lib.hid (show Ext wr W2 from by rw [← hW2]; exact ah ((Below.refl _ _).alloc (Nat.le_refl _) _) (Nat.le_refl _) _)
             have D2 := Lib.hid (show EC W2 wr.heap.size (aE ed g) from by rw [← hW2]; exact setRow_heap (World.alloc_heap_new _ _) _)
             have J2 := Lib.hid (JC.ext J1.out X2.out)
             have cu := HCU.out _ (HI.out.ext.tr X2.out)
             clear hW2))
        have KA := Lib.hid (qW W2 jk aj ed (f k).1 (f k).2 (V1.out.grow X2.out) ((HGP.out.below ((HI.out.ext.tr X2.out).mono HB.out)).more (Nat.le_trans HB.out (HI.out.ext.tr X2.out).size))
          (fun W hO => (HGP.out.off (Nat.le_trans (HI.out.ext.tr X2.out).size hO.1) (fun q hq => (hO.2 q (Nat.lt_of_lt_of_le hq (Nat.le_trans HB.out (HI.out.ext.tr X2.out).size)) (by
            rintro ((h1 | h1 | h1) | h1)
            · exact HBX.out q hq h1
            · have := HB.out; omega
            · have := HB.out; omega
            · have h2 := (az HI.out.own q h1).1
              have := HB.out
              omega)).trans ((HI.out.ext.tr X2.out).block q (Nat.lt_of_lt_of_le hq HB.out)))).more (Nat.le_trans HB.out (Nat.le_trans (HI.out.ext.tr X2.out).size hO.1)))
          (fun q hq => by
            have h3 := HI.out.big
            have h4 := X2.out.size
            rcases hq with (h1 | h1 | h1) | h1
            · have := HX.out q h1; omega
            · omega
            · omega
            · have h2 := (az HI.out.own q h1).2; omega) HAP.out (HM.out _ (HI.out.ext.tr X2.out)) (HT.out _ (HI.out.ext.tr X2.out)))
        rw [HG.out] at KA
        obtain ⟨z, hz⟩ : ∃ z, vW jk ed = z := ⟨_, rfl⟩
        obtain ⟨j', hj'⟩ : ∃ z, th jk ed = z := ⟨_, rfl⟩
        have HZ := Lib.hid hz
        have HJ' := Lib.hid hj'
        unfold ve at KA
        rw [hz, hj'] at KA
        clear hz hj'
        refine KA.out.mono ?_
        rintro x3 W3 ⟨a', rfl, hX3, hb3⟩
        have X3 := Lib.hid (X2.out.tr hX3)
        have B3 := Lib.hid hb3
        clear hX3 hb3
        by_cases hz0 : z = 0
        · subst hz0
          go_wp2_with (first
            | (refine wpList_store_row rfl 34 _ _ rfl _ _ rfl rfl 34 _ (World.alloc_heap_new W3 _) (by kernel_rfl) (by kernel_rfl) (by kernel_rfl) ?_
               generalize hW4 : World.setRow _ W3.heap.size (cQ j' a') = W4
               have X34 := Lib.hid (show Ext W3 W4 by rw [← hW4]; exact ah ((Below.refl _ _).alloc (Nat.le_refl _) _) (Nat.le_refl _) _)
               have N4 := Lib.hid (show JC W4 W3.heap.size j' a' by unfold JC; rw [← hW4]; exact setRow_heap (World.alloc_heap_new W3 _) _)
               have X4 := Lib.hid (X3.out.tr X34.out)
               have J4 := Lib.hid (JC.ext J1.out X4.out)
               clear hW4)
            | (refine wpList_load_row rfl 34 _ rfl _ rfl 34 _ (0, 0) _ N4.out Tryz.underlying34 rfl (by kernel_rfl) ?_)
            | (refine wpList_store_row rfl 34 _ _ rfl _ _ rfl rfl 34 _ J4.out (by kernel_rfl) (by kernel_rfl) (by kernel_rfl) ?_))
          refine ⟨⟨k + 1, by go_num, by omega, ?_⟩, by simp [intOf]; omega⟩
          have q := HI.out.pQ X4.out HUK.out (a' := a') (by rw [HED.out, HJK.out]; exact HZ.out) (by rw [HED.out, HJK.out, HJ'.out]; exact B3.out.grow X34.out)
          rw [HED.out, HJK.out, HJ'.out] at q
          exact q
        · have tz : (z == 0) = false := by simpa using hz0
          have hll : (iN es us j k).length ≤ k := by unfold iN; rw [List.length_map]; exact LP _ _ _ _
          go_wp2_with (first
            | (refine wpList_store_row rfl 34 _ _ rfl _ _ rfl rfl 34 _ (World.alloc_heap_new W3 _) (by kernel_rfl) (by kernel_rfl) (by kernel_rfl) ?_
               generalize hW4 : World.setRow _ W3.heap.size (cQ j' a') = W4
               have X34 := Lib.hid (show Ext W3 W4 by rw [← hW4]; exact ah ((Below.refl _ _).alloc (Nat.le_refl _) _) (Nat.le_refl _) _)
               have X4 := Lib.hid (X3.out.tr X34.out)
               have HO4 := Lib.hid (aO HI.out.own X4.out)
               clear hW4)
            | (at_builtin; (refine o7 rfl _ _ _ rfl (w.heap.size + 2) 3 i0 _ 1 8 Tryz.underlying25 I0.out I1.out I2.out I3.out rfl (by omega) _ _ _ rfl (aO HO4.out ((Below.refl _ _).alloc (Nat.le_refl _) (.cells #[.int .i64 (k : Int)] 3))) ⟨W4.heap.size, 0, none⟩ 1 1 [.int .i64 (k : Int)] rfl (by rfl) (fun q u hq => by rw [Addr.add_lit, Nat.zero_add, (ai.new W4 3 [.int .i64 (k : Int)]).cell]; exact hq) (by simp [Value.oneCell']) (by unfold maxLen; omega) (by omega) (by have := HI.out.big; have := X4.out.size; simp; omega) ?_); intro v' w' hown' hgr' hfr; have HOW := Lib.hid hown'; have HGR := Lib.hid hgr'; have HFR := Lib.hid hfr; obtain ⟨A4, n4, c4, e4⟩ := ng.of hown'; subst e4; clear hown' hgr' hfr))
          exact ⟨⟨k + 1, by go_num, by omega, HI.out.Ul (X4.out.tr ((Below.refl _ _).alloc (Nat.le_refl _) _)) HUK.out (by rw [HED.out, HJK.out, HZ.out]; exact hz0) HOW.out HGR.out HFR.out⟩, by simp [intOf]; omega⟩
    · obtain rfl : k = es.length := by omega
      obtain ⟨aj, q1, q2⟩ := HI.out.mem
      have J1 := Lib.hid q1
      have V1 := Lib.hid q2
      clear q1 q2
      go_wp2_with (first
        | (refine wpList_load_row rfl 34 _ rfl _ rfl 34 _ (0, 0) _ J1.out Tryz.underlying34 rfl (by kernel_rfl) ?_)
        | (refine wpList_store_row rfl 34 _ _ rfl _ _ rfl rfl 34 _ HI.out.res (by kernel_rfl) (by kernel_rfl) (by kernel_rfl) ?_))
      refine bodyPost_ret (yG rfl _ _ _ _ rfl (setRow_heap HI.out.res _) (by kernel_rfl)) rfl ?_
      obtain ⟨e1, h1, h2, h3⟩ := HI.out.done V1.out
      subst e1
      exact ⟨aj, _, _, rfl, h1, h2, h3⟩
def xu (w : Vt) (l : Log) (a : kQ) (m B : Nat) {X : Nat -> Prop} (hb : iH w B l a) (hB : B <= w.heap.size) (hX : ∀ b, X b -> b < w.heap.size /\ B <= b) (hr : j5 l.edits l.undone l.start m) (hm : fG w) (ht : aW w) :
    VJ prog 9 #[V5 (dL l a)] w λx w' => ∃ a', x =V0 (V6 #[V5 (cQ (dy l.edits l.undone l.start l.edits.length) a'), VZ VH 0]) /\ Ext w w' /\ iD X w' w'.heap.size (dy l.edits l.undone l.start l.edits.length) a' := by
  obtain ⟨W0, hW0⟩ : ∃ W0, (w.alloc (.cells (dL l a) 38)).alloc (.cells (cQ kM lB) 34) = W0 := ⟨_, rfl⟩;have hs0 : W0.heap.size = w.heap.size + 2 := by rw [<- hW0]; simp
  have e0 : Ext w W0 := by rw [<- hW0]; exact ((Below.refl _ _).alloc (Vu _) _).alloc Wa _
  have hL : LC W0 w.heap.size l a := by rw [<- hW0]; exact LC.ext (VG w _) ((Below.refl _ _).alloc (Vu _) _)
  have hR : JC W0 (w.heap.size + 1) kM lB := by
    rw [<- hW0];have := VG (w.alloc (.cells (dL l a) 38)) (.cells (cQ kM lB) 34);rw [VK] at this;exact this
  have HW := Vs (show ((w.alloc (.cells (dL l a) 38)).alloc (.cells #[VW { data := #[] }, VV Vx 0 0, VZ VH 0, VZ VH 0, VV Vx 0 0, VV Vx 0 0, VV Vx 0 0, VV Vx 0 0, VZ VH 0, VZ VH 0, VZ VH 0, VZ VH 0, VZ VH 0, VV Vx 0 0, VV Vx 0 0] 34)) = W0 from hW0);have HL := Vs hL;have HR := Vs hR;have E0 := Vs e0;have c15 := hL.cell 15;have c16 := hL.cell 16;have KR := Vs (DP W0 l.start a.ja l.edits l.undone a.ea a.ec a.ua a.uc m B (X := λb => X b \/ b = w.heap.size + 1) ((((hb.j.v hB (X := λb => X b \/ b = w.heap.size + 1) (λb h1 h2 => by
    rcases h2 with h2 | h2
    · have := (hX b h2).2; omega
    · omega)).more hB)).grow e0) (λb h => by
    rcases h with h | h
    · have := (hX b h).1; omega
    · omega) (hb.e.below (e0.mono hB)) (hb.u.below (e0.mono hB)) (VI hB e0.size) (λb h1 h2 => by
    rcases h2 with h2 | h2
    · have := (hX b h2).2; omega
    · omega) hr (hm.below e0 (Vu _)) (ht.below e0 (Vu _)))
  obtain ⟨j', hj'⟩ : ∃ x, dy l.edits l.undone l.start l.edits.length = x := ⟨_, rfl⟩;obtain ⟨li, hli⟩ : ∃ x, iN l.edits l.undone l.start l.edits.length = x := ⟨_, rfl⟩;unfold Lx at KR;rw [hj', hli] at KR;rw [hj'];clear hL hR hW0 hb hr hm ht e0 hj' hli hs0 hX hB;go_enter func9, ntmps9;go_upto_region 1 with (fail)
  rw [HW.o];go_wp2_with (first
    | (go_at_call 8; fail)
    | (refine dh Wl _ rfl _ _ rfl _ _ HL.o.start ?_))
  refine KR.o.mono ?_;rintro x1 W1 ⟨a', L, lc, rfl, hX1, hb1, _⟩;have X1 := Vs hX1;have B1 := Vs hb1;clear hX1 hb1;go_wp2_with (first
    | (refine wpList_store_row rfl 34 _ _ rfl _ _ rfl rfl 34 _ (VG W1 _) V8 V8 V8 ?_
       generalize hW4 : World.setRow _ W1.heap.size (cQ j' a') = W4;have X14 := Vs (show Ext W1 W4 by rw [<- hW4]; exact ah ((Below.refl _ _).alloc (Vu _) _) (Vu _) _);have N4 := Vs (show JC W4 W1.heap.size j' a' by unfold JC; rw [<- hW4]; exact setRow_heap (VG W1 _) _);have R4 := Vs (JC.ext HR.o (X1.o.tr X14.o));clear hW4)
    | (refine wpList_load_row rfl 34 _ rfl _ rfl 34 _ (0, 0) _ N4.o underlying34 rfl V8 ?_)
    | (refine wpList_store_row rfl 34 _ _ rfl _ _ rfl rfl 34 _ R4.o V8 V8 V8 ?_))
  refine bodyPost_ret (fP rfl _ _ _ _ rfl (setRow_heap R4.o _) V8) rfl ?_;exact ⟨a', rfl, ah (E0.o.tr (X1.o.tr X14.o)) V7 _, ((B1.o.grow X14.o).row (.inl (.inr rfl)) _).mono (λb _ h => .inl (.inl h))⟩
end
section
open Kp
attribute [local go_sem] bM aM jn kA kI
def j1{fn:Func}{p u:Tmp}(h:fn.results=#[.cell p 38,.tmp u])(tmps:Array Vy)(w:Vt)(g:Nat)(cs:Array Vy)
  (hp:tmps.getD p VB=VY (Vz ⟨g,0,Vx⟩))(hg:w.heap[g]?=Vz (.cells cs 38 (0,0)))(hi:(prog.info? 38).map (·.size)=Vz cs.size):
  (results fn tmps).run prog w= .ok (V6 #[V5 cs,tmps.getD u VB]) w:=by
 have hp':tmps[p]?.getD VB=VY (Vz ⟨g,0,Vx⟩):=by simpa using hp
 have hl:=run_loadVar_row (P:=prog) w g 38 38 cs (0,0) _ hg underlying38 rfl hi;simp[results,h,hp',asAddr,hl,Result.andThen]
def AV(w:Vt)(l:Log)(a:kQ){m:Nat}(hb:iH w w.heap.size l a)(hr:j5 l.edits l.undone l.start m)(hm:fG w)(ht:aW w):
  VJ prog 76 #[V5 (dL l a)] w λx w'=>x=V0 (VX VD)/\Ext w w':=by
 have E0:=Vs (show Ext w (w.alloc (.cells (dL l a) 38)) from(Below.refl _ _).alloc (Vu _) _);have L0:LC (w.alloc (.cells (dL l a) 38)) w.heap.size l a:=VG w _;obtain⟨w0,hw0⟩:∃w0,w.alloc (.cells (dL l a) 38)=w0:=⟨_,rfl⟩;rw[hw0] at E0 L0;have HW0:=Vs hw0;have HL:=Vs (λW (h:Ext w0 W)=>LC.ext L0 h);have K:=mG w0 l.start a.ja (hb.grow E0.o).j hr.sm (hm.below E0.o (Vu _)) (ht.below E0.o (Vu _));rw[hr.ok] at K;have KJ:=Vs K;have he:=hr.eq;have hf:=hr.NV;have t1:((l.edits.length:Int)==(l.undone.length:Int))=VD:=by rw[he];exact beq_self_eq_true _
 have t2:decide ((l.edits.length:Int)<=4096)=VD:=decide_eq_true V7;have HT:=Vs (And.intro t1 t2);clear hb hr hm ht K hw0 L0 t1 t2 he hf;go_enter func76,ntmps76;go_wp2_with(first
  |(go_at_call 25;fail)
  |(rw[HW0.o];refine dh Wl _ rfl _ _ rfl _ _ (HL.o _ (Ext.aC _)).start ?_))
 refine KJ.o.mono ?_;rintro x1 W1 ⟨rfl,hX1⟩;have X1:=Vs hX1;have c15:=(HL.o _ hX1).cell 15;have c16:=(HL.o _ hX1).cell 16;have t1:=HT.o.1;have t2:=HT.o.2;clear hX1;go_wp2;go_ret;exact⟨rfl,E0.o.tr X1.o⟩
def tH(l:List Bool):(eW l).flatten=l.map (λb=>Vy.bool b):=by
 induction l with
 |nil=>rfl
 |cons x l ih=>show [Vy.bool x]++(eW l).flatten=_;rw[ih];rfl
def oO(l:List Bool):de 1 (eW l):=bC (f:=λb=>[Vy.bool b]) (λ_=>rfl) l
def LX(l:List Bool):jG (eW l):=λr hr u hu=>by
 obtain⟨s,_,rfl⟩:=List.mem_map.1 hr;simp at hu;subst hu;rfl
theorem LC.frozen{l:Log}{a:kQ}(h:LC w c l a)(i:Nat):w.frozen? ⟨c,i,Vx⟩=Vw:=by unfold LC at h;simp[World.frozen?,h]
theorem Hv{l:List Bool}(h:w.ownsRow base t 1 (VV (Vz ⟨g,0,Vx⟩) (ln l) cap) (ln l) (eW l).flatten)(hi:i<ln l)(b:Bool):
  (w.setCell ⟨g,i,Vx⟩ (VX b)).ownsRow base t 1 (VV (Vz ⟨g,0,Vx⟩) (ln l) cap) (l.set i b).length (eW (l.set i b)).flatten:=by
 obtain⟨hl,⟨h0,_⟩|⟨g',cap',cur,e,hb,hh,h1,h2,h3,h4⟩⟩:=h
 ·cases h0
 ·injection e with e1 e2 e3
  injection e1 with e1
  injection e1 with e1
  subst e1 e3;rw[List.length_set];refine⟨by rw[tH];simp,.inr ⟨g,cap,cur.setIfInBounds i (VX b),rfl,hb,?_,h1,h2,by simpa using h3,?_⟩⟩
  ·exact XR
  ·rw[tH] at h4⊢;rw[Nat.mul_one] at h4⊢;rw[Array.toList_setIfInBounds,List.take_set,h4,List.map_set]
def Qm(B c:Nat)(l:Log)(a:kQ)(n:Nat)(xs:List Vy):Nat->Vy->Vt->Prop
 |0,v,_=>v=VY (Vz ⟨c,15,Vx⟩)
 |1,v,_=>v=VV a.ea (ln l.edits) a.ec
 |2,v,W=>W.ownsRow B 68 37 v n xs
 |3,v,_=>v=VY (Vz ⟨c,16,Vx⟩)
 |4,v,_=>v=VV a.ua (ln l.undone) a.uc
 |5,v,W=>W.ownsRow B 4 1 v (ln l.undone) (eW l.undone).flatten
 |6,v,_=>v=VY (Vz ⟨c,15,Vx⟩)
 |_,_,_=>True
theorem Qg{B c:Nat}{l:Log}{a:kQ}:∀i v w w',Qm B c l a n xs i v w->Ext w w'->Qm B c l a n xs i v w':=by
 intro i v w w' h hx
 match i with
 |0=>exact h
 |1=>exact h
 |2=>exact aO h hx
 |3=>exact h
 |4=>exact h
 |5=>exact aO h hx
 |6=>exact h
 |_+7=>trivial
def Cl{g n c q:Nat}(h:(Value.slice (Vz ⟨g,0,Vx⟩) n c).ownBlock=Vz q):g=q:=by simpa[Value.ownBlock] using h
def QT(X:Nat->Prop)(w:Vt)(l:Log)(a:kQ):Prop:=∀W,Hn X w.heap.size w W->iH W W.heap.size l a
theorem QT.at_{X:Nat->Prop}{l:Log}{a:kQ}(h:QT X w l a):iH w w.heap.size l a:=h w ⟨Vu _,λ_ _ _=>rfl⟩
theorem QT.row{X:Nat->Prop}{l:Log}{a:kQ}(h:QT X w l a)(hc:X c)(cs:Array Vy):QT X (w.setRow c cs) l a:=by
 have hs:=size_setRow w c cs;exactλV hO=>h V ⟨by have:=hO.1;omega,λb hb hx=>(hO.2 b V7 hx).trans (lI w cs (λe=>hx (e▸hc)))⟩
def nC(B:Nat)(w:Vt)(l:Log)(x:Ending)(w':Vt):Prop:=∃a',x=V0 (V6 #[V5 (dL l a'),VZ VH 0])/\Ext w w'/\QT (λb=>B<=b/\b<w.heap.size+2) w' l a'
def lJ(l:Log)(i:Nat)(u:Bool):Log:={l with undone:=l.undone.set i u}
def nM:Log:=⟨kM,[],[]⟩
def nP:kQ:=⟨lB,Vx,0,Vx,0⟩
theorem oE{v:Vy}(h:w.ownsRow base e s v n xs)(hv:∀g,v.ownBlock=Vz g->W.heap[g]?=w.heap[g]?):W.ownsRow base e s v n xs:=by
 obtain⟨hl,h0|⟨g,cap,cur,rfl,hb,hh,h1⟩⟩:=h
 ·exact YN
 ·exact⟨hl,.inr ⟨g,cap,cur,rfl,hb,(hv g rfl).trans hh,h1⟩⟩
theorem vY.off{B:Nat}{rows:List (List Vy)}{l:List Ed}(h:vY w B rows l)(hs:w.heap.size<=W.heap.size)(hB:∀b,b<B->W.heap[b]?=w.heap[b]?):vY W B rows l:=
 ⟨h.1,λi hi=>by obtain⟨ga,gc,e,s⟩:=h.2 i hi;exact⟨ga,gc,e,s.off hs hB⟩⟩
def fV(W:Vt)(c:Nat)(v2 v5:Vy):Vt:=(W.setCell ⟨c,15,Vx⟩ v2).setCell ⟨c,16,Vx⟩ v5
theorem qO{v:Vy}(h:W.ownsRow base e s v n xs)(hc:c<base)(v2 v5:Vy):(fV W c v2 v5).ownsRow base e s v n xs:=by
 have q:∀m,v.ownBlock≠Vz (⟨c,m,Vx⟩:VT).block:=λm e=>by
  have:base<=c:=(az h c e).1;omega
 exact bP (bP h (q 15) _) (q 16) _
theorem q8(v2 v5:Vy)(h:g≠c):(fV W c v2 v5).heap[g]?=W.heap[g]?:=(Below.heap_setCell _ _ _ _ h).trans (Below.heap_setCell _ _ _ _ h)
theorem CK(h:Ext w W)(hc:w.heap.size<=c)(v2 v5:Vy):Ext w (fV W c v2 v5):=(h.setCell (p:=⟨c,15,Vx⟩) hc _).setCell (p:=⟨c,16,Vx⟩) hc _
theorem LC.Po{l l':Log}{a a':kQ}(h:LC W c l a)(hl:((dL l a).setIfInBounds 15 v2).setIfInBounds 16 v5=dL l' a'):LC (fV W c v2 v5) c l' a':=by
 unfold LC at *;rw[<-hl];simp[fV,World.setCell,Array.getElem?_modify,h]
def IQ(W:Vt)(c g i:Nat)(v2 v5:Vy)(u:Bool):Vt:=(fV W c v2 v5).setCell ⟨g,i,Vx⟩ (VX u)
theorem OM{w W0 W:Vt}{B:Nat}{l:Log}{a:kQ}{rows:List (List Vy)}(hb:iH w B l a)(hB:B<=w.heap.size)(he:vY w B rows l.edits)(h0:Ext w W0)(hs:W0.heap.size=w.heap.size+2)
  (hL:LC W0 w.heap.size l a)(hR:LC W0 (w.heap.size+1) nM nP)(hx:Ext W0 W)(o2:W.ownsRow W0.heap.size 68 37 v2 n rows.flatten)(hn:ln rows=n)(o5:W.ownsRow W0.heap.size 4 1 v5 (ln l.undone) (eW l.undone).flatten)(hi:i<ln l.undone):
  ∃(A2:Option VT) (c2 g c5:Nat) (a':kQ),v2=VV A2 n c2/\v5=VV (Vz ⟨g,0,Vx⟩) (ln l.undone) c5/\ln l.undone<=c5/\c5<=VP/\w.heap.size+2<=g/\
   (fV W w.heap.size v2 v5).cell? ⟨g,i,Vx⟩=Vz (VX (l.undone.getD i Vw))/\(fV W w.heap.size v2 v5).frozen? ⟨g,i,Vx⟩=Vw/\dL (lJ l i u) a'=dL l a'/\LC (IQ W w.heap.size g i v2 v5 u) w.heap.size l a'/\LC (IQ W w.heap.size g i v2 v5 u) (w.heap.size+1) nM nP/\
   Ext w ((IQ W w.heap.size g i v2 v5 u).setRow (w.heap.size+1) (dL l a'))/\QT (λb=>B<=b/\b<w.heap.size+2) ((IQ W w.heap.size g i v2 v5 u).setRow (w.heap.size+1) (dL l a')) (lJ l i u) a':=by
 obtain⟨A2,c2,rfl,s2⟩:=aK o2 hn he.wide;obtain⟨g,c5,cur,rfl,hg,hh,k1,k2,k3,k4⟩:=kH o5 V7;obtain⟨A5,c5',e5,s5⟩:=aK o5 (VC _) (oO _);injection e5 with e51 _ e53
 subst e51 e53;have b2:=az o2;obtain⟨a',ha⟩:∃x,({a with ea:=A2,ec:=c2,ua:=Vz ⟨g,0,Vx⟩,uc:=c5}:kQ)=x:=⟨_,rfl⟩;have hl:((dL l a).setIfInBounds 15 (VV A2 n c2)).setIfInBounds 16 (VV (Vz ⟨g,0,Vx⟩) (ln l.undone) c5)=dL l a':=by rw[<-ha,<-hn,he.1];rfl
 have hlu:dL (lJ l i u) a'=dL l a':=by
  show dL {l with undone:=l.undone.set i u} _=_;unfold dL;rw[List.length_set]
 have p2:=qO o2 (c:=w.heap.size) V7 (VV A2 n c2) (VV (Vz ⟨g,0,Vx⟩) (ln l.undone) c5);have p5:=qO o5 (c:=w.heap.size) V7 (VV A2 n c2) (VV (Vz ⟨g,0,Vx⟩) (ln l.undone) c5);have hg2:=q8 (W:=W) (c:=w.heap.size) (g:=g) (VV A2 n c2) (VV (Vz ⟨g,0,Vx⟩) (ln l.undone) c5) V7;have hr1:=q8 (W:=W) (c:=w.heap.size) (g:=w.heap.size+1) (VV A2 n c2) (VV (Vz ⟨g,0,Vx⟩) (ln l.undone) c5) V7;have hc:=LC.Po (LC.ext hL hx) hl;have hE:=CK (h0.tr hx) (Vu _) (VV A2 n c2) (VV (Vz ⟨g,0,Vx⟩) (ln l.undone) c5);unfold IQ;generalize fV W w.heap.size (VV A2 n c2) (VV (Vz ⟨g,0,Vx⟩) (ln l.undone) c5)=W2 at p2 p5 hg2 hr1 hc hE⊢;rw[hh] at hg2;have p2':=bP p2 (p:=⟨g,i,Vx⟩) (mc p2 hg2 V9) (VX u);have p5':=Hv p5 hi u;have hE':=hE.setCell (p:=⟨g,i,Vx⟩) (by show w.heap.size<=g;omega) (VX u);refine⟨A2,c2,g,c5,a',rfl,rfl,k1,k2,V7,?_,by simp[World.frozen?,hg2],hlu,?_,?_,ah hE' V7 _,?_⟩
 ·obtain⟨b,off,e,_,hc⟩:=s5.2.2 (by rw[VC];omega);injection e with e
  injection e with e1 e2
  subst e1 e2;have h2:=hc i Xi 0 V9;rw[Nat.zero_add,Nat.one_mul,Nat.add_zero,Vv,List.getElem?_map,VA hi] at h2;rw[Vv,VA hi];refine Eq.trans ?_ h2;simp[World.cell?,hg2,hh]
 ·unfold LC at *;rw[Below.heap_setCell _ _ _ _ (by show w.heap.size≠g;omega)];exact hc
 ·have hRW:=LC.ext hR hx;unfold LC at *;rw[Below.heap_setCell _ _ _ _ (by show w.heap.size+1≠g;omega),hr1];exact hRW
 ·have hxx:=ah hE' (n:=w.heap.size+1) V7 (dL l a');have nr:∀(q:Nat),W0.heap.size<=q->((W2.setCell ⟨g,i,Vx⟩ (VX u)).setRow (w.heap.size+1) (dL l a')).heap[q]?=(W2.setCell ⟨g,i,Vx⟩ (VX u)).heap[q]?:=λq h=>lI _ _ V7
  have r2:=oE p2' (λq hq=>nr q (b2 _ hq).1);have r5:=oE p5' (λq hq=>nr q (by have:=Cl hq;omega));generalize(W2.setCell ⟨g,i,Vx⟩ (VX u)).setRow (w.heap.size+1) (dL l a')=FW at r2 r5 hxx⊢;intro V hO;have hV:∀b,b<B->V.heap[b]?=w.heap[b]?:=λb h=>(hO.2 b (by have:=hxx.size;omega) (λq=>V7)).trans (hxx.block b V7)
  have hS:w.heap.size<=V.heap.size:=VI hxx.size hO.1;have v2:=oE (W:=V) r2 (λq hq=>hO.2 q (az r2 q hq).2 (λx=>by have:=(b2 q hq).1;omega));have v5:=oE (W:=V) r5 (λq hq=>hO.2 q (az r5 q hq).2 (λx=>by have:=Cl hq;omega));obtain⟨A3,c3,e3,s3⟩:=aK v2 hn he.wide;obtain⟨A6,c6,e6,s6⟩:=aK v5 (by rw[VC]) (oO _);injection e3 with e31 _ e33
  injection e6 with e61 _ e63
  subst e31 e33 e61 e63 ha;exact⟨(hb.j.off hS hV).more V7,MQ ((he.off hS hV).more V7) s3,s6⟩
def GN(w:Vt)(l:Log)(a:kQ):∃W0,(w.alloc (.cells (dL l a) 38)).alloc (.cells #[VW {data:=#[]},VV Vx 0 0,VZ VH 0,VZ VH 0,VV Vx 0 0,VV Vx 0 0,VV Vx 0 0,VV Vx 0 0,VZ VH 0,VZ VH 0,VZ VH 0,VZ VH 0,VZ VH 0,VV Vx 0 0,VV Vx 0 0,VV Vx 0 0,VV Vx 0 0] 38)=W0/\Ext w W0/\W0.heap.size=w.heap.size+2/\LC W0 w.heap.size l a/\LC W0 (w.heap.size+1) nM nP:=by
 refine⟨_,rfl,((Below.refl _ _).alloc (Vu _) _).alloc Wa _,Wa,LC.ext (VG w _) ((Below.refl _ _).alloc (Vu _) _),?_⟩;have:=VG (w.alloc (.cells (dL l a) 38)) (.cells (dL nM nP) 38);exact YG
def JF(w:Vt)(l:Log)(a:kQ)(i:Nat)(u:Bool){m B:Nat}(hbB:iH w B l a)(hBw:B<=w.heap.size)(hr:j5 l.edits l.undone l.start m)(hi:i<l.edits.length)(hu:l.undone.getD i Vw= !u)(hm:fG w)(ht:aW w):
  VJ prog 36 #[V5 (dL l a),VZ VH (i:Int),VX u] w (nC B w (lJ l i u)):=by
 have hb:=hbB.more hBw;obtain⟨W0,hW0,e0,hs0,hL,hR⟩:=GN w l a;have HW:=Vs hW0;have E0:=Vs e0;have HS:=Vs hs0;have HL:=Vs (λW (h:Ext W0 W)=>LC.ext hL h);have HL0:=Vs hL;have HR:=Vs hR;have KR:=Vs (AV W0 l a (hb.grow e0) hr (hm.below e0 (Vu _)) (ht.below e0 (Vu _)));obtain⟨rows,he,hsl⟩:=BI hbB.e;have hn:=he.1;have hui:i<l.undone.length:=by rw[hr.eq];exact hi
 have KE:=Vs (λW (h:Ext W0 W)=>CV W a.ea a.ec rows ((hsl.below ((e0.tr h).mono hBw)).more (VI hBw (e0.tr h).size)) he.wide he.one (by have:=hr.NV;omega));have KB:=Vs (λW (h:Ext W0 W)=>BC W a.ua a.uc (eW l.undone) ((hb.u.below (e0.tr h)).more (e0.tr h).size) (oO _) (LX _) (by have:=hr.NV;have:=hr.eq;rw[VC];omega));rw[hn] at KE;rw[VC] at KB;have HE:=Vs (λW v2 v5 (hx:Ext W0 W) o2 o5=>OM (u:=u) (i:=i) (n:=l.edits.length) (W:=W) (v2:=v2) (v5:=v5) hbB hBw he e0 hs0 hL hR hx o2 hn o5 hui);have t0:decide ((i:Int)<0)=Vw:=decide_eq_false V7;have t1:decide (l.edits.length<=i)=Vw:=decide_eq_false V7;have t2:(!u==u)=Vw:=by cases u<;>rfl
 obtain⟨bu,offu,hAu,hBu,hcu⟩:=hb.u.2.2 (by rw[VC];omega);have cu:w.cell? ⟨bu,offu+i,Vx⟩=Vz (VX (!u)):=by
  have q:=hcu i (by rw[VC];exact hui) 0 V9;rw[Nat.one_mul,Nat.add_zero] at q;rw[q,Vv,List.getElem?_map,<-hu,Vv,VA hui]
  rfl
 have CU:=Vs (λW (h:Ext W0 W)=>((e0.tr h).cell (p:=⟨bu,offu+i,Vx⟩) hBu).trans cu);have HA:=Vs hAu;have HT:=Vs (And.intro t0 (And.intro t1 t2));clear hW0 e0 hL hR hb hbB hBw hr hm ht he hsl hcu cu hAu hBu hu t0 t1 t2 hn hs0;go_enter func36,ntmps36;go_upto_region 1 with(fail)
 rw[HW.o];go_wp2_with(first
  |(go_at_call 76;fail)
  |(refine wpList_load_row rfl 38 _ rfl _ rfl 38 _ (0,0) _ HL0.o underlying38 rfl V8 ?_))
 refine KR.o.mono ?_;rintro x1 W1 ⟨rfl,hX1⟩;have X1:=Vs hX1;have c15:=(HL.o _ hX1).cell 15;have c16:=(HL.o _ hX1).cell 16;have cu:=CU.o _ hX1;rw[kI,HA.o] at c16;have t0:=HT.o.1;have t1:=HT.o.2.1;have t2:=HT.o.2.2;clear hX1;go_wp2_with fail
 refine wp_region_any V8 (bO 7 (λvs=>⟨#[V5 (dL l a),VZ VH (i:Int),VX u,VY (Vz ⟨w.heap.size,0,Vx⟩),VB,VB,VY (Vz ⟨w.heap.size+1,0,Vx⟩),VZ VH 0,VX Vw,V5 (dL l a),VX VD,VX Vw,VB,VX Vw,VZ VH (i:Int),VX Vw,VX Vw,VZ VH (i:Int),VY (Vz ⟨w.heap.size,15,Vx⟩),VV a.ea l.edits.length a.ec,VZ VH (l.edits.length:Int),VX Vw,VX Vw,VB,VX Vw,VY (Vz ⟨w.heap.size,16,Vx⟩),VV (Vz ⟨bu,offu,Vx⟩) l.undone.length a.uc,VZ VH (i:Int),VY (Vz ⟨bu,offu+i,Vx⟩),VX (!u),VX u,VX Vw,VB,vs 0,vs 1,vs 2,vs 3,vs 4,vs 5,vs 6,VB,VB,VB,VB,VB,VB,VB],[]⟩)
   (λw'=>Ext W0 w') (Qm W0.heap.size w.heap.size l a l.edits.length rows.flatten) (λ_=>Vw) V8 (λ_ _ h k=>h.tr k) Qg (λ_ _ _ _ h=>Wb) ?step ?tail (λ_=>VB) _ (X1.o.tr (Ext.dr _)))
 case step=>
  intro j vs w' hj hD hd;have l15:=(HL.o _ hD).cell 15;have l16:=(HL.o _ hD).cell 16;have HD:=Vs hD;clear hD;rcases(show j=0\/j=1\/j=2\/j=3\/j=4\/j=5\/j=6 by omega) with rfl|rfl|rfl|rfl|rfl|rfl|rfl<;>clear hj
  ·exact YZ
  ·refine VE rfl (λK hK=> ?_);have d0:=hd 0 V8;simp only[Qm] at d0;go_simp;exact hK _ _ ⟨_,by simp[d0],Ext.aC _,rfl,λh=>Wb⟩
  ·refine VE rfl (λK hK=> ?_);have d1:=hd 1 V8;simp only[Qm] at d1;go_simp;refine(KE.o _ HD.o).mono ?_;rintro x W2 ⟨v,rfl,ho,hX⟩;exact hK _ _ ⟨v,by simp[d1],hX,dA ho HD.o.size,λh=>Wb⟩
  ·exact YZ
  ·refine VE rfl (λK hK=> ?_);have d3:=hd 3 V8;simp only[Qm] at d3;go_simp;exact hK _ _ ⟨_,by simp[d3],Ext.aC _,rfl,λh=>Wb⟩
  ·refine VE rfl (λK hK=> ?_);have d4:=hd 4 V8;simp only[Qm] at d4;go_simp;refine(KB.o _ HD.o).mono ?_;rintro x W2 ⟨v,rfl,ho,hX⟩;exact hK _ _ ⟨v,by simp[d4],hX,dA ho HD.o.size,λh=>Wb⟩
  ·exact YZ
 case tail=>
  intro vs w' hD hV _;obtain⟨A2,c2,g,c5,a',e2,e5,k1,k2,k3,q1,q2,hl,hLC,hRC,hE,hX⟩:=HE.o w' _ _ hD (hV 2 V7) (hV 5 V7);rw[e2,e5] at q1 q2 hLC hRC hE hX;unfold IQ fV at hLC hRC hE hX;unfold fV at q1 q2;have hV6:=hV 6 V7;have m15:=(HL.o _ hD).cell 15;have m16:=(HL.o _ hD).cell 16;have f15:=LC.frozen (HL.o _ hD) 15;have f16:=LC.frozen (HL.o _ hD) 16;have HF:=Vs (And.intro hE hX);have HLC:=Vs hLC;have HRC:=Vs hRC;have HLL:=Vs hl;clear hV hD hl hLC hRC hE hX;have e6:=hV6;simp only[Qm] at e6;simp only[e2,e5,e6,List.drop_succ_cons,List.drop_zero];clear e2 e5 e6 hV6;go_wp2_with(first
   |(refine wpList_load_row rfl 38 _ rfl _ rfl 38 _ (0,0) _ HLC.o underlying38 rfl V8 ?_)
   |(refine wpList_store_row rfl 38 _ _ rfl _ _ rfl rfl 38 _ HRC.o V8 V8 V8 ?_))
  refine bodyPost_ret (j1 rfl _ _ _ _ rfl (setRow_heap HRC.o _) V8) rfl ?_;exact⟨a',by rw[HLL.o];rfl,HF.o.1,HF.o.2⟩
end
section
open Kp
attribute [local go_sem] bM jQ jK jJ jO jN jR jL jP jS jU gi fX fZ gj gw
def GY(w:Vt)(j:bI)(a a':dS)(hb:fg w w.heap.size j a)(hb':fg w w.heap.size j a'):
  VJ prog 37 #[V5 (cQ j a),V5 (cQ j a')] w λe w'=>e=V0 (VX VD)/\Ext w w':=by
 obtain⟨W0,hW0⟩:∃W0,(w.alloc (.cells (cQ j a) 34)).alloc (.cells (cQ j a') 34)=W0:=⟨_,rfl⟩;have e0:Ext w W0:=Ww;have E0:=Vs e0;have JA:=Vs (show JC W0 w.heap.size j a by rw[<-hW0];exact JC.ext (VG w _) ((Below.refl _ _).alloc (Vu _) _));have JB:=Vs (show JC W0 (w.heap.size+1) j a' by
  have h:=(VG (w.alloc (.cells (cQ j a) 34)) (.cells (cQ j a') 34));rw[VK] at h;rw[<-hW0];exact h)
 have B1:=Vs (hb.grow e0);have B2:=Vs (hb'.grow e0);have HW:=Vs hW0;have K0:=Vs (Jg W0 a.pa a'.pa a.pc a'.pc j.rings B1.o.p B2.o.p);have K1:=Vs (λ(W:Vt) (h:Ext W0 W)=>Cz W a.ua a'.ua a.uc a'.uc j.purlins (B1.o.grow h).u (B2.o.grow h).u);have K2:=Vs (λ(W:Vt) (h:Ext W0 W)=>(show VJ prog 79 #[VV a.oa (ln j.openings) a.oc,VV a'.oa (ln j.openings) a'.oc] W λe w'=>e=V0 (VX VD)/\Ext W w' from by
  have:=EO W a.oa a'.oa a.oc a'.oc (bw j.openings) (B1.o.grow h).o (B2.o.grow h).o (mK _) (λx hx V=>by obtain⟨s,_,rfl⟩:=List.mem_map.1 hx;exact yn _ _ _ _ _ V);rwa[VC] at this))
 have K3:=Vs (λ(W:Vt) (h:Ext W0 W)=>(show VJ prog 80 #[VV a.za (ln j.sizes) a.zc,VV a'.za (ln j.sizes) a'.zc] W λe w'=>e=V0 (VX VD)/\Ext W w' from by
  have:=Ik W a.za a'.za a.zc a'.zc (bL j.sizes) (B1.o.grow h).z (B2.o.grow h).z (Af _) (λx hx V=>by obtain⟨s,_,rfl⟩:=List.mem_map.1 hx;exact xE _ _ _ V);rwa[VC] at this))
 have K4:=Vs (λ(W:Vt) (h:Ext W0 W)=>Ij W a.ba a'.ba a.bc a'.bc j.bars (B1.o.grow h).b (B2.o.grow h).b);have K5:=Vs (λ(W:Vt) (h:Ext W0 W)=>(show VJ prog 82 #[VV a.la (ln j.aG) a.lc,VV a'.la (ln j.aG) a'.lc] W λe w'=>e=V0 (VX VD)/\Ext W w' from by
  have:=Jc W a.la a'.la a.lc a'.lc (bW j.aG) (B1.o.grow h).l (B2.o.grow h).l (oJ _) (λx hx V=>by obtain⟨s,_,rfl⟩:=List.mem_map.1 hx;exact wX _ _ _ V);rwa[VC] at this))
 have K6:=Vs (λ(W:Vt) (h:Ext W0 W)=>(show VJ prog 83 #[VV a.sa (ln j.spans) a.sc,VV a'.sa (ln j.spans) a'.sc] W λe w'=>e=V0 (VX VD)/\Ext W w' from by
  have:=IL W a.sa a'.sa a.sc a'.sc (bF j.spans) (B1.o.grow h).s (B2.o.grow h).s (Gm _) (λx hx V=>by obtain⟨s,_,rfl⟩:=List.mem_map.1 hx;exact xD _ _ _ _ _ V);rwa[VC] at this))
 have JX:=Vs (λ(W:Vt) (h:Ext W0 W)=>JA.o.ext h);have JY:=Vs (λ(W:Vt) (h:Ext W0 W)=>JB.o.ext h);have p0:=JA.o.cell;have q0:=JB.o.cell;have tile:=xU j.tile.width j.tile.length j.tile.lap j.tile.tail;clear hW0 e0 hb hb';go_enter func37,ntmps37;go_wp2_with(first
  |(go_at_call 83;go_must(refine(K6.o _ HX6.o).mono ?_);rintro e W7 ⟨rfl,hX⟩;have p7:=λi=>(JX.o W7 (Ext.tr HX6.o hX)).cell i;have q7:=λi=>(JY.o W7 (Ext.tr HX6.o hX)).cell i;have HX7:=Vs (Ext.tr HX6.o hX);clear hX)
  |(go_at_call 82;go_must(refine(K5.o _ HX5.o).mono ?_);rintro e W6 ⟨rfl,hX⟩;have p6:=λi=>(JX.o W6 (Ext.tr HX5.o hX)).cell i;have q6:=λi=>(JY.o W6 (Ext.tr HX5.o hX)).cell i;have HX6:=Vs (Ext.tr HX5.o hX);clear hX)
  |(go_at_call 81;go_must(refine(K4.o _ HX4.o).mono ?_);rintro e W5 ⟨rfl,hX⟩;have p5:=λi=>(JX.o W5 (Ext.tr HX4.o hX)).cell i;have q5:=λi=>(JY.o W5 (Ext.tr HX4.o hX)).cell i;have HX5:=Vs (Ext.tr HX4.o hX);clear hX)
  |(go_at_call 80;go_must(refine(K3.o _ HX3.o).mono ?_);rintro e W4 ⟨rfl,hX⟩;have p4:=λi=>(JX.o W4 (Ext.tr HX3.o hX)).cell i;have q4:=λi=>(JY.o W4 (Ext.tr HX3.o hX)).cell i;have HX4:=Vs (Ext.tr HX3.o hX);clear hX)
  |(go_at_call 79;go_must(refine(K2.o _ HX2.o).mono ?_);rintro e W3 ⟨rfl,hX⟩;have p3:=λi=>(JX.o W3 (Ext.tr HX2.o hX)).cell i;have q3:=λi=>(JY.o W3 (Ext.tr HX2.o hX)).cell i;have HX3:=Vs (Ext.tr HX2.o hX);clear hX)
  |(go_at_call 78;go_must(refine(K1.o _ HX1.o).mono ?_);rintro e W2 ⟨rfl,hX⟩;have p2:=λi=>(JX.o W2 (Ext.tr HX1.o hX)).cell i;have q2:=λi=>(JY.o W2 (Ext.tr HX1.o hX)).cell i;have HX2:=Vs (Ext.tr HX1.o hX);clear hX)
  |(go_at_call 77;rw[HW.o];go_must(refine K0.o.mono ?_);rintro e W1 ⟨rfl,hX⟩;have p1:=λi=>(JX.o W1 hX).cell i;have q1:=λi=>(JY.o W1 hX).cell i;have HX1:=Vs hX;clear hX))
 go_ret;exact⟨rfl,E0.o.tr HX7.o⟩
theorem np{P:Program}{op:Oper}{a:Act}{K:Act->Prop}(ty:VR)(x:Operand)(ho:op.op= .load ty x)
  (b o:Nat)(hx:a.eval x=VY (Vz ⟨b,o,Vx⟩))(cs:List Vy)(d:TypeDesc)(hc:w.rangeAt b o cs)
  (hu:P.underlying ty=Vz d)(hd:d.isRow=VD)(hi:(P.info? ty).map (·.size)=Vz (ln cs))
  (h:K (a.put op.dst (V5 cs.toArray))):op.still P a w K:=by
 unfold Oper.still execOp;simp only[ho,hx,Instr.loadAt,Instr.sureAddr,Sem.run_bind,Sem.run_pure,Result.andThen_ok,run_loadVar_mid w b o ty cs d hc hu hd hi];exact⟨rfl,h⟩
attribute [local go_sem] jn kA kI aM
def E7(w:Vt)(l:Log)(a a':kQ)(hb:iH w w.heap.size l a)(hb':iH w w.heap.size l a'):
  VJ prog 15 #[V5 (dL l a),V5 (dL l a')] w λe w'=>e=V0 (VX VD)/\Ext w w':=by
 obtain⟨W0,hW0⟩:∃W0,(w.alloc (.cells (dL l a) 38)).alloc (.cells (dL l a') 38)=W0:=⟨_,rfl⟩;have e0:Ext w W0:=Ww;have E0:=Vs e0;have LA:=Vs (λ(W:Vt) (h:Ext W0 W)=>(show LC W w.heap.size l a from LC.ext (by rw[<-hW0];exact LC.ext (VG w _) ((Below.refl _ _).alloc (Vu _) _)) h));have LB:=Vs (λ(W:Vt) (h:Ext W0 W)=>(show LC W (w.heap.size+1) l a' from LC.ext (by
  have h:=(VG (w.alloc (.cells (dL l a) 38)) (.cells (dL l a') 38));rw[VK] at h;rw[<-hW0];exact h) h))
 have B1:=Vs (λ(W:Vt) (h:Ext W0 W)=>hb.grow (e0.tr h));have B2:=Vs (λ(W:Vt) (h:Ext W0 W)=>hb'.grow (e0.tr h));have HW:=Vs hW0;have K0:=Vs (GY W0 l.start a.ja a'.ja (B1.o _ (Ext.aC _)).j (B2.o _ (Ext.aC _)).j);have h1:=hb.e.1;have h2:=hb.e.2.1;have h1':=hb'.e.1;have h2':=hb'.e.2.1;have g1:=hb.u.1;have g2:=hb.u.2.1;have g1':=hb'.u.1;have g2':=hb'.u.2.1;rw[VC] at g1 g1';unfold VP at h2 h2' g2 g2';clear hW0 e0 hb hb';go_enter func15,ntmps15;go_upto_region 1 with(fail)
 rw[HW.o];go_wp2_with(first
  |(go_at_call 37;fail)
  |(refine dh Wl _ rfl _ _ rfl _ _ (LA.o _ (Ext.aC _)).start ?_)
  |(refine dh Wl _ rfl _ _ rfl _ _ (LB.o _ (Ext.aC _)).start ?_))
 refine K0.o.mono ?_;rintro e W1 ⟨rfl,hX1⟩;have X1:=Vs hX1;have p5:=(LA.o _ hX1).cell 15;have p6:=(LA.o _ hX1).cell 16;have q5:=(LB.o _ hX1).cell 15;have q6:=(LB.o _ hX1).cell 16;clear hX1;go_wp2;go_loopw [5] (λi wr=>NT W0 (ln l.edits) i wr) (λi _=>((ln l.edits:Int)-VN i).toNat)
 case atStart=>exact⟨0,V7,rfl,X1.o⟩
 case round=>
  obtain⟨m,hm,rfl,hX⟩:=hrel;have HX:=Vs hX;have p5:=(LA.o _ hX).cell 15;have q5:=(LB.o _ hX).cell 15;clear hX;by_cases hlt:m<ln l.edits
  ·have tlt:decide ((m:Int)<(ln l.edits:Int))=VD:=decide_eq_true V7;have e3:(m:Int)<(ln l.edits:Int):=V7;go_wp2_with fail
   refine dx 10 V8 V8 (λW3 hW3=> ?_);have HX3:=Vs (HX.o.tr hW3);have p5:=(LA.o _ HX3.o).cell 15;have q5:=(LB.o _ HX3.o).cell 15;obtain⟨b,off,f,hA,-,hc⟩:=(B1.o _ HX3.o).e.at V7;obtain⟨b',off',f',hA',-,hc'⟩:=(B2.o _ HX3.o).e.at V7;obtain⟨c,g⟩:=hc m hlt;obtain⟨c',g'⟩:=hc' m hlt;obtain⟨ed,hed⟩:∃x,l.edits.getD m ef=x:=⟨_,rfl⟩;rw[hed] at c c' g g';have K:=Vs (rM W3 ed (f m).1 (f' m).1 (f m).2 (f' m).2 g g');obtain⟨v,hv⟩:∃v,Value.slice (f m).1 (ln ed.gaps) (f m).2=v:=⟨_,rfl⟩;obtain⟨v',hv'⟩:∃v,Value.slice (f' m).1 (ln ed.gaps) (f' m).2=v:=⟨_,rfl⟩;rw[hv,hv'] at K;rw[hv] at c;rw[hv'] at c';rw[kA,hA] at p5;rw[kA,hA'] at q5;rw[VL] at c c';have C:=Vs c;have C':=Vs c';clear hc hc' g g' c c' hW3 hed hv hv' hA hA';simp only[List.take_succ_cons,List.take_zero,List.drop_succ_cons,List.drop_zero];iterate 4 still_step
   refine wpStill_step (λK hK=> ?_);rw[if_pos Wl];refine np 68 _ rfl b (off+m*37) rfl (aE ed v).toList _ C.o underlying68 rfl V8 ?_;refine hK _ ?_;clear hK K;iterate 4 still_step
   refine wpStill_step (λK hK=> ?_);rw[if_pos Wl];refine np 68 _ rfl b' (off'+m*37) rfl (aE ed v').toList _ C'.o underlying68 rfl V8 ?_;refine hK _ ?_;clear hK K;refine wpStill_nil ?_;go_wp2_with(go_at_call 24;go_must(refine K.o.mono ?_);rintro e W4 ⟨rfl,hX4⟩)
   exact⟨⟨m+1,V7,Wa,HX3.o.tr hX4⟩,Wc⟩
  ·have tlt:decide ((m:Int)<(ln l.edits:Int))=Vw:=decide_eq_false V7;go_wp2;go_loopw [6] (λi wr=>NT W0 (ln l.undone) i wr) (λi _=>((ln l.undone:Int)-VN i).toNat)
   case atStart=>exact⟨0,V7,rfl,HX.o⟩
   case round=>
    obtain⟨n,hn,rfl,hX2⟩:=hrel;have HX2:=Vs hX2;have p6:=(LA.o _ hX2).cell 16;have q6:=(LB.o _ hX2).cell 16;clear hX2;by_cases hlt2:n<ln l.undone
    ·obtain⟨b,off,hA,-,hc⟩:=(B1.o _ HX2.o).u.2.2 (by rw[VC];omega);obtain⟨b',off',hA',-,hc'⟩:=(B2.o _ HX2.o).u.2.2 (by rw[VC];omega);have c:=hc n (by rw[VC];exact hlt2) 0 V9;have c':=hc' n (by rw[VC];exact hlt2) 0 V9;rw[Nat.one_mul,Nat.add_zero,Vv,List.getElem?_map,VA hlt2] at c c';have d0:wr.cell? ⟨b,off+n,Vx⟩=Vz (VX l.undone[n]):=c;have d1:wr.cell? ⟨b',off'+n,Vx⟩=Vz (VX l.undone[n]):=c';obtain⟨x,hx⟩:∃x,l.undone[n]=x:=⟨_,rfl⟩;rw[hx] at d0 d1;rw[kI,hA] at p6;rw[kI,hA'] at q6;have tlt2:decide ((n:Int)<(ln l.undone:Int))=VD:=decide_eq_true V7;have e4:(n:Int)<(ln l.undone:Int):=V7;clear hc hc' c c' hx hA hA';cases x;all_goals
      go_wp2_with fail
      go_quiet (fail)
      go_wp2;exact⟨⟨n+1,V7,Wa,below_drewN HX2.o _⟩,Wc⟩
    ·have tlt2:decide ((n:Int)<(ln l.undone:Int))=Vw:=decide_eq_false V7;go_wp2;go_ret;exact⟨rfl,E0.o.tr HX2.o⟩
end
section
open Kp
def BZ(a:ByteArray):Nat:=if h:0<a.size then(if((a[0]'h).toNat:Int)==45 then a.size-1 else a.size) else 0
def EN(l:By):BZ (tx l)=(own l).length:=by
 unfold BZ;cases l with
 |nil=>rfl
 |cons b l=>
  rw[dif_pos (by rw[ak];simp),iS,fO];simp only[ak];show(if((b.toNat:Int)==45)=VD then _ else _)=(if(Vz b==Vz 45)=VD then _ else _:By).length;by_cases h:b=45
  ·subst h;rfl
  ·have h1:((b.toNat:Int)==45)=Vw:=by
    rw[beq_eq_false_iff_ne];intro e;exact h (by apply UInt8.toNat_inj.1;show b.toNat=45;omega)
   have h2:(Vz b==Vz (45:UInt8))=Vw:=WB;rw[h1,h2];rfl
def Qn(a:By):pN (aL (tx a))=tx (Lib.cut a [47]).1:=by
 obtain⟨co,c2,cp⟩:=tE a;rw[kc];unfold pN;dsimp only;rw[<-co,fO,<-cp];cases h:(Lib.cut a [47]).1 with
 |nil=>rfl
 |cons b l=>
  rw[kZ];by_cases hb:b=45
  ·subst hb;rfl
  ·have h2:(Vz b==Vz (45:UInt8))=Vw:=by simpa using hb
   simp only[List.head?_cons,h2]
   rfl
theorem Rv{a:By}(h:jB (tx a))(h1:BZ (pN (aL (tx a)))<=m)(h2:(pD (aL (tx a))).size<=m):QN a<=m:=by
 have hc:=tU h;rw[Qn,EN] at h1;unfold QN;unfold bU at hc;cases hcu:dP a with
 |none=>rw[hcu] at hc;cases hc
 |some p=>
  have hp:p=((Lib.cut a [47]).1,if(Lib.cut a [47]).2.2=VD then(Lib.cut a [47]).2.1 else [49]):=by
   unfold dP at hcu;dsimp only at hcu;split at hcu
   ·cases hcu
   ·split at hcu
    ·rename_i q;injection hcu with e;rw[<-e,q];simp
    ·rename_i q;split at hcu
     ·cases hcu
     ·injection hcu with e;rw[<-e];simp at q;rw[q];simp
  subst hp;dsimp only;rw[kc] at h2;unfold pD at h2;dsimp only at h2;obtain⟨co,c2,cp⟩:=tE a;rw[c2];have:(if(Lib.cut (own a) [47]).2.2=VD then(Lib.cut (own a) [47]).2.1 else [49]).length<=m:=by
   split at h2
   ·rename_i q;rw[if_pos q];rwa[ak] at h2
   ·rename_i q;rw[if_neg q];exact h2
  omega
def CL(z:ByteArray)(m:Nat)(w:Vt)(hs:z.size<=100000)(ht:aW w):VJ prog 178 #[VW z,VZ VH (m:Int)] w λe w'=>
  (∃k:Int,e=V0 (VZ VH k)/\(k=0->jB z/\BZ (pN (aL z))<=m/\(pD (aL z)).size<=m))/\Ext w w':=by
 have KC:=Vs (js z w V7 ht);have HT:=Vs ht;have HZ:=Vs (show z.size<=1000000 by omega);have hpn:=Gv z;have hpd:=FM z;have HN:=Vs (λ(h:jB z)=>h.num);obtain⟨a,ha⟩:∃a,pN (aL z)=a:=⟨_,rfl⟩;obtain⟨b,hb⟩:∃b,pD (aL z)=b:=⟨_,rfl⟩;rw[ha] at hpn;rw[hb] at hpd;rw[ha,hb];have HA:=Vs ha;have HB:=Vs hb;clear ha hb ht;go_enter func178,ntmps178;go_wp2_with(go_at_call 227;go_loud (refine KC.o.mono ?_);rintro e W1 ⟨⟨k,rfl,hk⟩,hX1⟩;have X1:=Vs hX1;have HK:=Vs hk;clear hX1 hk)
 ·go_ret;exact⟨⟨_,rfl,λh=>WZ⟩,X1.o⟩
 ·have hok:=HK.o.1 WZ;have hnum:=HN.o hok;have hn1:=hnum.num;rw[HA.o] at hn1;refine(qo z W1 HZ.o (HT.o.below X1.o (Vu _))).mono ?_;rintro e W2 ⟨⟨x,y,c,rfl,h1⟩,hX2⟩;obtain⟨rfl,rfl,rfl⟩:=h1 hok;rw[HA.o,HB.o];have X2:=Vs (X1.o.tr hX2);have HO:=Vs hok;clear hX2 h1 hok hnum;obtain⟨p2,t2⟩:∃p,(((a[0]'hn1).toNat:Int)==45)=p:=⟨_,rfl⟩;have HG:=Vs (show BZ a=if p2 then a.size-1 else a.size by unfold BZ;rw[dif_pos hn1,t2]);cases p2
  ·by_cases g1:m<a.size
   ·exact a0V
   ·by_cases g2:m<b.size
    ·exact a0V
    ·go_wp2;go_ret;exact⟨⟨_,rfl,λ_=>⟨HO.o,by rw[HG.o,if_neg V9];omega,V7⟩⟩,X2.o⟩
  ·by_cases g1:m<a.size-1
   ·exact a0V
   ·by_cases g2:m<b.size
    ·exact a0V
    ·go_wp2;go_ret;exact⟨⟨_,rfl,λ_=>⟨HO.o,by rw[HG.o,if_pos trivial];omega,V7⟩⟩,X2.o⟩
def AT(a:By)(w:Vt)(hs:ln a<=100000)(ht:aW w):VJ prog 114 #[VW (tx a)] w λe w'=>(∃k:Int,e=V0 (VZ VH k)/\(k=0->CJ a=0))/\Ext w w':=by
 have KD:=Vs (CL (tx a) 20 w (by rw[ak];exact hs) ht);have HE:=Vs (λ(h:jB (tx a)/\BZ (pN (aL (tx a)))<=20/\(pD (aL (tx a))).size<=20) (h2:(a.head?==Vz 45)=Vw)=>show CJ a=0 by
  unfold CJ;rw[if_neg (λq=>q (tU h.1)),if_neg (Nat.not_lt.2 (Rv h.1 h.2.1 h.2.2)),kZ,h2];rfl)
 have HP:=Vs (λ(h:jB (tx a))=>h.num.pos);have HZ:=Vs (show(tx a).size<=100000 by rw[ak];exact hs);have HH:=Vs (λ(z:ByteArray) (hz:tx a=z) (q:0<z.size) (h:(((z[0]'q).toNat:Int)==45)=Vw)=>show(a.head?==Vz 45)=Vw by
  subst hz;cases a with
  |nil=>rfl
  |cons b l=>
   rw[iS] at h;have h1:¬((b.toNat:Int)=45):=WB;rw[List.head?_cons,beq_eq_false_iff_ne];intro e;injection e with e
   subst e;exact h1 rfl)
 obtain⟨z,hz⟩:∃z,tx a=z:=⟨_,rfl⟩;rw[hz] at KD HE HP HZ;have HH:=Vs (HH.o z hz);rw[hz];clear hs ht hz;go_enter func114,ntmps114;go_wp2_with(go_at_call 178;fail)
 refine KD.o.mono ?_;rintro e W1 ⟨⟨k,rfl,hk⟩,hX1⟩;have X1:=Vs hX1;have HK:=Vs hk;clear hX1 hk;by_cases hk0:k=0
 ·subst hk0;have hok:=HK.o rfl;have hp:=HP.o hok.1;have hz:=HZ.o;obtain⟨p2,t2⟩:∃p,(((z[0]'hp).toNat:Int)==45)=p:=⟨_,rfl⟩;have HQ:=Vs (λ(h:p2=Vw)=>HE.o hok (HH.o hp (t2.trans h)));clear hok;cases p2
  ·go_wp2;go_ret;exact⟨⟨_,rfl,λ_=>HQ.o trivial⟩,X1.o⟩
  ·go_wp2;go_ret;exact⟨⟨_,rfl,λh=>Wb⟩,X1.o⟩
 ·have t:(k !=0)=VD:=bne_iff_ne.2 hk0;go_wp2;go_ret;exact⟨⟨_,rfl,λh=>absurd h hk0⟩,X1.o⟩
def Jw{l:List Ld}(h1:ln l<=64)(h2:∀j,j<ln l->mX l j=0):gm l=0:=by
 unfold gm;rw[if_neg V7];exact be h2
theorem EL(w:Vt)(A:Option VT)(cap:Nat)(l:List Ld)(hl:bJ 3 w w.heap.size A cap (bW l))(hs:∀i,i<l.length→(l.getD i po).weight.length≤50)(ht:aW w):
  VJ prog 53 #[.slice A l.length cap] w fun x w'=>(∃k:Int,x= .returned (.int .i64 k)∧(k=0→gm l=0))∧Ext w w':=by
 have h1:=hl.1
 have h2:=hl.2.1
 rw[VC] at h1
 unfold VP at h2
 have HL:=Vs (fun(W:Vt) (hx:Ext w W)=>((hl.below hx).more hx.size:bJ 3 W W.heap.size A cap (bW l)))
 have HS:=Vs hs
 have HT:=Vs ht
 clear hl hs ht
 by_cases h64:64<l.length
 ·go_enter func53,ntmps53
  go_wp2
  go_ret
  exact⟨⟨_,rfl,fun h=>by cases h⟩,Below.refl _ _⟩
 have HV:=Vs (fun h=>Jw (l:=l) (by omega) h)
 go_enter func53,ntmps53
 go_wp2
 go_loopw [3] (fun i wr=>∃k:Nat,i= .int .i64 (k:Int)∧k≤l.length∧Ext w wr∧∀j,j<k→mX l j=0) (fun i _=>((l.length:Int)-VN i).toNat)
 case atStart=>exact⟨0,rfl,by omega,Below.refl _ _,fun j h=>by omega⟩
 case round=>
  obtain⟨k,rfl,hk,hX,hA⟩:=hrel
  have HX:=Vs hX
  have HA:=Vs hA
  clear hA
  by_cases hlt:k<l.length
  ·obtain⟨b,off,rfl,hb,hc⟩:=De (HL.out _ hX) (by omega)
   obtain⟨y0,y1,y2⟩:=hc k hlt
   have hw:=HS.out k hlt
   have he:mX l k=if(l.getD k po).kind<1∨3<(l.getD k po).kind then 8 else if(l.getD k po).side< -1∨24≤(l.getD k po).side then 2 else CJ (l.getD k po).weight:=rfl
   obtain⟨o,ho⟩:∃n,l.getD k po=n:=⟨_,rfl⟩
   rw[ho] at y0 y1 y2 hw he
   have K1:=Vs (AT o.weight wr (by omega) (HT.out.below hX (Vu _)))
   obtain⟨kd,sd,wt⟩:=o
   dsimp only at y0 y1 y2 K1 he
   have e1:(k:Int)<(l.length:Int):=by omega
   clear hX hc ho hb
   by_cases q1:1≤kd∧kd≤3
   ·obtain⟨q1,q2⟩:=q1
    by_cases q3: -1≤sd∧sd<24
    ·obtain⟨q3,q4⟩:=q3
     have t1:¬kd<1:=by omega
     have t2:¬3<kd:=by omega
     have t3:¬sd< -1:=by omega
     have t4:¬24≤sd:=by omega
     rw[if_neg (by omega),if_neg (by omega)] at he
     have HE:=Vs (fun h:CJ wt=0=>jh (P:=fun j=>mX l j=0) HA.out (he.trans h))
     clear he
     go_wp2_with(go_at_call 114;go_loud (refine K1.out.mono ?_);rintro e W1 ⟨⟨c,rfl,hc⟩,hX1⟩;have X1:=Vs (HX.out.tr hX1);have HC:=Vs hc;clear hX1 hc)
     ·go_ret
      exact⟨⟨_,rfl,fun h=>by simp_all⟩,X1.out⟩
     ·exact⟨⟨k+1,by go_num,by omega,X1.out,HE.out (HC.out (by simp_all))⟩,by simp[VN];omega⟩
    ·by_cases q4:sd< -1
     all_goals
      go_wp2_with fail
      go_ret
      exact⟨⟨_,rfl,fun h=>by cases h⟩,HX.out⟩
   ·by_cases q4:kd<1
    all_goals
     go_wp2_with fail
     go_ret
     exact⟨⟨_,rfl,fun h=>by cases h⟩,HX.out⟩
  ·obtain rfl:k=l.length:=by omega
   clear hX
   go_wp2
   go_ret
   exact⟨⟨_,rfl,fun _=>HV.out HA.out⟩,HX.out⟩
end
section
open Kp
structure fF(z:ByteArray):Prop where
 ok:jB z
 n:BZ (pN (aL z))<=12
 d:BZ (pD (aL z))<=12
def Qs{t:ByteArray}{v:Int}(h:oK t v)(h1:BZ t<=12):v.natAbs<1000000000000:=by
 obtain⟨a,rfl,f,_,rfl⟩:=h;rw[EN] at h1;rw[tI];have h2:=kB (cV f);have h3:(10:Nat)^(own a).length<=10^12:=Nat.pow_le_pow_right V9 h1;omega
def Nd{a b:ByteArray}(ha:fF a)(hb:fF b):(A8 a*(CF b:Nat)).natAbs<10^60:=by
 have h1:=Qs (nS ha.ok).1 ha.n;have h2:=Qs (nS hb.ok).2 hb.d;rw[Int.natAbs_mul];have h3:(A8 a).natAbs*((CF b:Nat):Int).natAbs<=1000000000000*1000000000000:=Nat.mul_le_mul V7 V7;exact Nat.lt_of_le_of_lt h3 Xf
def rV(z:ByteArray)(w:Vt)(hs:z.size<=1000001)(hp:0<z.size):VJ prog 248 #[VW z] w λx w'=>x=V0 (VZ VH (BZ z:Nat))/\w'=w:=by
 obtain⟨p2,t2⟩:∃p,(((z[0]'hp).toNat:Int)==45)=p:=⟨_,rfl⟩;have HS:=Vs (show BZ z=if p2 then z.size-1 else z.size by unfold BZ;rw[dif_pos hp,t2]);have w1:VH.wrap ((z.size:Int)-1)=(z.size:Int)-1:=VQ _ V7;have e1:(z.size:Int)-1=((z.size-1:Nat):Int):=V7;have H1:=Vs e1;clear e1;cases p2
 ·go_enter func248,ntmps248;go_wp2;go_ret;exact⟨by rw[HS.o];rfl,rfl⟩
 ·go_enter func248,ntmps248;go_wp2;go_ret;exact⟨by first|(rw[HS.o,if_pos rfl,<-H1.o];rfl)|(rw[HS.o,if_pos trivial,<-H1.o];rfl),rfl⟩
def qB(a b:ByteArray)(w:Vt)(ha:a.size<=100000)(hb:b.size<=100000)(sa:fF a)(sb:fF b)(ht:aW w):VJ prog 226 #[VW a,VW b] w λe w'=>e=V0 (VZ VH (lW a b))/\Ext w w':=by
 have KC:=Vs (yE a b w ha hb sa.ok sb.ok (Nd sa sb) (Nd sb sa) ht);clear sa sb;go_enter func226,ntmps226;go_wp2_with(go_at_call 249;go_loud (refine KC.o.mono ?_);rintro e W1 ⟨rfl,hX1⟩)
 go_ret;exact⟨rfl,hX1⟩
def Ec{T:VR}(w:Vt)(g cap:Nat)(ts:List ByteArray)(hr:ai w g T (T6 ts))(hs:∀i,i<ln ts->(ts.getD i ⟨#[]⟩).size<=100000)(hl:ln ts<=4)(hcap:ln ts<=cap)(ht:aW w):
  VJ prog 225 #[VV (Vz ⟨g,0,Vx⟩) (ln ts) cap] w λe w'=>(∃k:Int,e=V0 (VZ VH k)/\(k=0->∀i,i<ln ts->fF (ts.getD i ⟨#[]⟩)))/\Ext w w':=by
 have HR:=Vs hr;have HS:=Vs hs;have HT:=Vs ht;obtain⟨n,hn⟩:∃n,ln ts=n:=⟨_,rfl⟩;rw[hn] at hl hcap HS⊢;have HN:=Vs hn;clear hr hs ht hn;go_enter func225,ntmps225;go_wp2;go_loopw [3] (λi wr=>∃k:Nat,k<=n/\i=VZ VH (k:Int)/\(∀j,j<k->jB (ts.getD j ⟨#[]⟩))/\Ext w wr) (λi _=>n-(VN i).toNat)
 case atStart=>exact⟨0,V7,rfl,λj hj=>V7,Below.refl _ _⟩
 case round=>
  obtain⟨k,hk,rfl,hok,hX⟩:=hrel;have HX:=Vs hX;have HO:=Vs hok;clear hok;by_cases hlt:k<n
  ·have hc:=(HR.o.ext hX).cell k;rw[La WG] at hc;have hcs:=HS.o k hlt;obtain⟨t,htt⟩:∃t,ts.getD k ⟨#[]⟩=t:=⟨_,rfl⟩;rw[htt] at hc hcs;have HTT:=Vs htt;have KC:=Vs (js t wr V7 (HT.o.below hX (Vu _)));clear hX htt;go_wp2_with(go_at_call 227;go_loud (refine KC.o.mono ?_);rintro e W1 ⟨⟨c,rfl,hc0⟩,hX1⟩;have X1:=Vs (HX.o.tr hX1);have HC0:=Vs hc0;clear hX1 hc0)
   ·go_ret;exact⟨⟨_,rfl,λh=>absurd h WZ⟩,X1.o⟩
   ·refine⟨⟨k+1,V7,by go_num,λj hj=> ?_,X1.o⟩,Wc⟩;by_cases e:j=k
    ·rw[e,HTT.o];exact HC0.o.1 WZ
    ·exact HO.o j V7
  ·obtain rfl:k=n:=V7;clear hX;go_wp2;go_loopw [5] (λi wi=>∃m:Nat,m<=k/\i=VZ VH (m:Int)/\Ext w wi/\∀j,j<m->fF (ts.getD j ⟨#[]⟩)) (λi _=>k-(VN i).toNat)
   case atStart=>exact⟨0,V7,rfl,HX.o,λj hj=>V7⟩
   case round=>
    obtain⟨m,hm,rfl,hX2,hsh⟩:=hrel;have HSH:=Vs hsh;clear hsh;have HX2:=Vs hX2;by_cases hlt2:m<k
    ·have hc:=(HR.o.ext hX2).cell m;rw[La WG] at hc;have hcs:=HS.o m hlt2;have hok:=HO.o m hlt2;obtain⟨t,htt⟩:∃t,ts.getD m ⟨#[]⟩=t:=⟨_,rfl⟩;rw[htt] at hc hcs hok;have hnum:=hok.num;have hpn:=Gv t;have hpd:=FM t;obtain⟨a,ha⟩:∃a,pN (aL t)=a:=⟨_,rfl⟩;obtain⟨b,hb⟩:∃b,pD (aL t)=b:=⟨_,rfl⟩;have hn1:=hnum.num;have hn2:=hnum.den;rw[ha] at hpn hn1;rw[hb] at hpd hn2;have HNX:=Vs (show BZ a<=12->BZ b<=12->∀j,j<m+1->fF (ts.getD j ⟨#[]⟩) fromλx1 x2 j hj=>by
      by_cases e:j=m
      ·rw[e,htt];exact⟨hok,by rw[ha];exact x1,by rw[hb];exact x2⟩
      ·exact HSH.o j V7)
     have KP:=Vs ((qo t _ V7 (HT.o.below hX2 (Vu _))).mono (λe w' ⟨⟨x,y,c,e1,h1⟩,h2⟩=>(by obtain⟨rfl,rfl,rfl⟩:=h1 hok;rw[ha,hb] at e1;exact⟨e1,h2⟩:e=Ending.returned (V6 #[VW a,VW b,VZ VH 0])/\Ext _ w')));obtain⟨sa,hsa⟩:∃s,BZ a=s:=⟨_,rfl⟩;obtain⟨sb,hsb⟩:∃s,BZ b=s:=⟨_,rfl⟩;have DA:=Vs (λW=>rV a W V7 hn1);have DB:=Vs (λW=>rV b W V7 hn2);rw[hsa] at DA HNX;rw[hsb] at DB HNX;clear hX2 htt hok hnum ha hb hsa hsb;go_wp2_with(first
      |(go_at_call 248;with_reducible refine(DB.o _).mono ?_;rintro e W3 ⟨rfl,rfl⟩)
      |(go_at_call 248;go_loud (refine(DA.o _).mono ?_);rintro e W3 ⟨rfl,rfl⟩)
      |(go_at_call 228;go_loud (refine KP.o.mono ?_);rintro e W1 ⟨rfl,hX1⟩;have X1:=Vs (HX2.o.tr hX1);clear hX1))
     all_goals first
      |(go_ret;exact⟨⟨_,rfl,λh=>Wb⟩,X1.o⟩)
      |exact⟨⟨m+1,V7,by go_num,X1.o,HNX.o V7 V7⟩,Wc⟩
      |trace_state
    ·obtain rfl:m=k:=V7;clear hX2;go_wp2;go_ret;exact⟨⟨_,rfl,λ_ i hi=>HSH.o i WG⟩,HX2.o⟩
structure Ts(a b c d:ByteArray):Prop where
 sa:fF a
 sb:fF b
 sc:fF c
 sd:fF d
 ab:lW a b<0
 cd:lW c d<0
def qY(o:kN):Prop:=Ts (tx o.left) (tx o.right) (tx o.low) (tx o.high)
def qY.sh{o:kN}(h:qY o):fF (tx o.left)/\fF (tx o.right)/\fF (tx o.low)/\fF (tx o.high):=⟨h.sa,h.sb,h.sc,h.sd⟩
def Ki(w:Vt)(o:kN)(h:uw o)(ht:aW w):VJ prog 175 #[V5 #[VZ VH o.side,VW (tx o.left),VW (tx o.right),VW (tx o.low),VW (tx o.high)]] w λe w'=>(∃k:Int,e=V0 (VZ VH k)/\(k=0->Ts (tx o.left) (tx o.right) (tx o.low) (tx o.high)))/\Ext w w':=by
 obtain⟨h1,h2,h3,h4⟩:=h;obtain⟨s,a,b,c,d⟩:=o;dsimp only at h1 h2 h3 h4⊢;generalize tx a=a at *;generalize tx b=b at *;generalize tx c=c at *;generalize tx d=d at *;have X0:=(Below.refl w.heap.size w).alloc (Vu _) (.cells #[VZ VH s,VW a,VW b,VW c,VW d] 57);have R1:=ai.new w 57 [VZ VH s,VW a,VW b,VW c,VW d];obtain⟨w0,hw0⟩:∃w0,w.alloc (.cells #[VZ VH s,VW a,VW b,VW c,VW d] 57)=w0:=⟨_,rfl⟩;have R2:=ai.new w0 55 (T6 [a,b,c,d]);rw[show w.alloc (.cells [Value.int .i64 s,VW a,VW b,VW c,VW d].toArray 57)=w0 from hw0] at R1;rw[hw0] at X0;have X1:=X0.alloc X0.size (.cells #[VW a,VW b,VW c,VW d] 55);have KS:=Vs (show VJ prog 225 #[VV (Vz ⟨w0.heap.size,0,Vx⟩) 4 4] (w0.alloc (.cells #[VW a,VW b,VW c,VW d] 55)) _ from Ec _ _ 4 [a,b,c,d] R2 (λi hi=>by
  match i,hi with
  |0,_|1,_|2,_|3,_=>first|exact VI h1 V9|exact VI h2 V9|exact VI h3 V9|exact VI h4 V9) Wa Wa (ht.below X1 (Vu _)))
 have HT:=Vs ht;have HX1:=Vs X1;have HR1:=Vs (R1.ext ((Below.refl _ _).alloc (Vu _) (.cells #[VW a,VW b,VW c,VW d] 55)));have hw0s:w0.heap.size=w.heap.size+1:=by rw[<-hw0,VK]
 have HW0:=Vs hw0;have KC:=Vs (λx y W (hx:x.size<=604) (hy:y.size<=604) (sx:fF x) (sy:fF y) (h:Ext w W)=>qB x y W (VI hx V9) (VI hy V9) sx sy (HT.o.below h (Vu _)));clear X0 X1 R2 ht hw0 R1;go_enter func175,ntmps175;go_wp2_with(go_at_call 225;fail)
 simp only[HW0.o,<-hw0s];refine KS.o.mono ?_;rintro e W1 ⟨⟨k,rfl,hk0⟩,hX1⟩;have HK0:=Vs hk0;clear hk0;have X1:=Vs (Ext.tr HX1.o hX1);have c1:=(HR1.o.ext hX1).cell 1;have c2:=(HR1.o.ext hX1).cell 2;have c3:=(HR1.o.ext hX1).cell 3;have c4:=(HR1.o.ext hX1).cell 4;have HR2:=Vs (λW h=>(HR1.o.ext hX1).ext (w':=W) h);clear hX1;go_wp2_with(go_at_call 226;fail)
 ·go_ret;exact⟨⟨_,rfl,λh=>absurd h WZ⟩,X1.o⟩
 ·have HSH:=Vs (HK0.o WZ);have SA:=Vs (show fF a from HSH.o 0 (by first|decide|simp|omega));have SB:=Vs (show fF b from HSH.o 1 (by first|decide|simp|omega));have SC:=Vs (show fF c from HSH.o 2 (by first|decide|simp|omega));have SD:=Vs (show fF d from HSH.o 3 (by first|decide|simp|omega));refine(KC.o a b _ h1 h2 SA.o SB.o X1.o).mono ?_;obtain⟨k2,hk2⟩:∃k,lW a b=k:=⟨_,rfl⟩;rw[hk2];have HK2:=Vs hk2;clear hk2;rintro e W2 ⟨rfl,hX2⟩;have X2:=Vs (X1.o.tr hX2);have d3:=(HR2.o _ hX2).cell 3;have d4:=(HR2.o _ hX2).cell 4;clear hX2 c1 c2 c3 c4;by_cases hk:0<=k2
  ·go_wp2_with fail
   go_ret;exact⟨⟨_,rfl,λh=>Wb⟩,X2.o⟩
  ·obtain⟨k3,hk3⟩:∃k,lW c d=k:=⟨_,rfl⟩;have KD:=Vs (KC.o c d _ h3 h4 SC.o SD.o X2.o);rw[hk3] at KD;have HK3:=Vs hk3;clear hk3;have HKN:=Vs hk;go_wp2_with(go_at_call 226;go_loud (refine KD.o.mono ?_);rintro e W3 ⟨rfl,hX3⟩;have X3:=Vs (X2.o.tr hX3);clear hX3)
   all_goals go_ret
   all_goals first
    |exact⟨⟨_,rfl,λh=>absurd h V9⟩,X3.o⟩
    |exact⟨⟨_,rfl,λ_=>⟨SA.o,SB.o,SC.o,SD.o,by rw[HK2.o];have:=HKN.o;omega,by rw[HK3.o];omega⟩⟩,X3.o⟩
    |trace_state
def JJ(o1 o2:kN):Bool:=o1.side==o2.side&&decide (lW (tx o1.left) (tx o2.right)<0)&&decide (lW (tx o2.left) (tx o1.right)<0)&&decide (lW (tx o1.low) (tx o2.high)<0)&&decide (lW (tx o2.low) (tx o1.high)<0)
def zX(w:Vt)(o1 o2:kN)(h:uw o1)(k:uw o2)(g1:fF (tx o1.left)/\fF (tx o1.right)/\fF (tx o1.low)/\fF (tx o1.high))(g2:fF (tx o2.left)/\fF (tx o2.right)/\fF (tx o2.low)/\fF (tx o2.high))(ht:aW w):VJ prog 176 #[V5 #[VZ VH o1.side,VW (tx o1.left),VW (tx o1.right),VW (tx o1.low),VW (tx o1.high)],V5 #[VZ VH o2.side,VW (tx o2.left),VW (tx o2.right),VW (tx o2.low),VW (tx o2.high)]] w λe w'=>e=V0 (VX (JJ o1 o2))/\Ext w w':=by
 obtain⟨h1,h2,h3,h4⟩:=h;obtain⟨k1,k2,k3,k4⟩:=k;obtain⟨s,a,b,c,d⟩:=o1;obtain⟨s',a',b',c',d'⟩:=o2;unfold JJ;dsimp only at h1 h2 h3 h4 k1 k2 k3 k4 g1 g2⊢;generalize tx a=a at *;generalize tx b=b at *;generalize tx c=c at *;generalize tx d=d at *;generalize tx a'=a' at *;generalize tx b'=b' at *;generalize tx c'=c' at *;generalize tx d'=d' at *;have X0:=fh w (.cells #[VZ VH s,VW a,VW b,VW c,VW d] 57) (.cells #[VZ VH s',VW a',VW b',VW c',VW d'] 57);have R1:=(ai.new w 57 [VZ VH s,VW a,VW b,VW c,VW d]).ext ((Below.refl _ _).alloc (Vu _) (.cells #[VZ VH s',VW a',VW b',VW c',VW d'] 57));have R2:=ai.new (w.alloc (.cells #[VZ VH s,VW a,VW b,VW c,VW d] 57)) 57 [VZ VH s',VW a',VW b',VW c',VW d'];rw[VK] at R2;obtain⟨w0,hw0⟩:∃w0,(w.alloc (.cells #[VZ VH s,VW a,VW b,VW c,VW d] 57)).alloc (.cells #[VZ VH s',VW a',VW b',VW c',VW d'] 57)=w0:=⟨_,rfl⟩;obtain⟨ga,gb,gc,gd⟩:=g1;obtain⟨ha,hb,hc,hd⟩:=g2;have KC:=Vs (λx y W (hx:x.size<=604) (hy:y.size<=604) (sx:fF x) (sy:fF y) (h:Ext w W)=>qB x y W (VI hx V9) (VI hy V9) sx sy (ht.below h (Vu _)));have K1:=Vs (λW h=>KC.o a b' W h1 k2 ga hb h);have K2:=Vs (λW h=>KC.o a' b W k1 h2 ha gb h);have K3:=Vs (λW h=>KC.o c d' W h3 k4 gc hd h);have K4:=Vs (λW h=>KC.o c' d W k3 h4 hc gd h);clear KC ga gb gc gd ha hb hc hd;obtain⟨r1,e1⟩:∃r,lW a b'=r:=⟨_,rfl⟩;obtain⟨r2,e2⟩:∃r,lW a' b=r:=⟨_,rfl⟩;obtain⟨r3,e3⟩:∃r,lW c d'=r:=⟨_,rfl⟩;obtain⟨r4,e4⟩:∃r,lW c' d=r:=⟨_,rfl⟩;rw[e1] at K1⊢;rw[e2] at K2⊢;rw[e3] at K3⊢;rw[e4] at K4⊢;clear e1 e2 e3 e4;rw[show((w.alloc (.cells #[VZ VH s,VW a,VW b,VW c,VW d] 57)).alloc (.cells [Value.int .i64 s',VW a',VW b',VW c',VW d'].toArray 57))=w0 from hw0] at R2;rw[hw0] at X0 R1;have X0:=Vs X0;have HW0:=Vs hw0;have HA:=Vs (λW (h:Ext w0 W)=>R1.ext h);have HB:=Vs (λW (h:Ext w0 W)=>R2.ext h);clear hw0 R1 R2 ht;by_cases hs:s=s'
 case neg=>
  go_enter func176,ntmps176;go_wp2_with fail
  go_ret;exact⟨by rw[show(s==s')=Vw from beq_eq_false_iff_ne.2 hs];rfl,by rw[HW0.o];exact X0.o⟩
 subst hs;obtain⟨b0,hb0⟩:∃x,(s==s&&decide (r1<0)&&decide (r2<0)&&decide (r3<0)&&decide (r4<0))=x:=⟨_,rfl⟩;have HB0:=Vs (show b0=(decide (r1<0)&&decide (r2<0)&&decide (r3<0)&&decide (r4<0)) by rw[<-hb0];simp);rw[hb0];clear hb0;go_enter func176,ntmps176;go_wp2_with(go_at_call 226;fail)
 rw[HW0.o];refine(K1.o _ X0.o).mono ?_;rintro e W1 ⟨rfl,hX1⟩;have X1:=Vs (X0.o.tr hX1);have Z1:=Vs hX1;have cA:=λi=>(HA.o _ Z1.o).cell i
 have cB:=λi=>(HB.o _ Z1.o).cell i
 clear hX1;by_cases hk1:r1<0
 case neg=>
  go_wp2_with fail
  go_ret;exact⟨by rw[HB0.o,decide_eq_false (show¬r1<0 by omega)];simp,X1.o⟩
 go_wp2_with(go_at_call 226;fail)
 clear cA cB;refine(K2.o _ X1.o).mono ?_;rintro e W2 ⟨rfl,hX2⟩;have X2:=Vs (X1.o.tr hX2);have Z2:=Vs (Z1.o.tr hX2);have cA:=λi=>(HA.o _ Z2.o).cell i
 have cB:=λi=>(HB.o _ Z2.o).cell i
 clear hX2;by_cases hk2:r2<0
 case neg=>
  go_wp2_with fail
  go_ret;exact⟨by rw[HB0.o,decide_eq_false (show¬r2<0 by omega)];simp,X2.o⟩
 go_wp2_with(go_at_call 226;fail)
 clear cA cB;refine(K3.o _ X2.o).mono ?_;rintro e W3 ⟨rfl,hX3⟩;have X3:=Vs (X2.o.tr hX3);have Z3:=Vs (Z2.o.tr hX3);have cA:=λi=>(HA.o _ Z3.o).cell i
 have cB:=λi=>(HB.o _ Z3.o).cell i
 clear hX3;by_cases hk3:r3<0
 case neg=>
  go_wp2_with fail
  go_ret;exact⟨by rw[HB0.o,decide_eq_false (show¬r3<0 by omega)];simp,X3.o⟩
 go_wp2_with(go_at_call 226;fail)
 clear cA cB;refine(K4.o _ X3.o).mono ?_;rintro e W4 ⟨rfl,hX4⟩;have X4:=Vs (X3.o.tr hX4);clear hX4;go_wp2_with fail
 all_goals
  go_ret;exact⟨by rw[HB0.o];simp[*],X4.o⟩
def Um(l:List kN)(e:Ending):Prop:=∃(b:Bool) (k:Int),e=V0 (V6 #[VX b,VZ VH k])/\(k=0->ln l<=32/\(∀i,i<ln l->qY (l.getD i eB))/\(b=VD->∀i,i<ln l->∀j,j<i->JJ (l.getD i eB) (l.getD j eB)=Vw))
def wF (w : Vt) (A : Option VT) (cap : Nat) (l : List kN) (hl : bJ 5 w w.heap.size A cap (bw l)) (hs : ln l <= 32 -> ∀ i, i < ln l -> uw (l.getD i eB)) (ht : aW w) :
    VJ prog 110 #[VV A (ln l) cap] w λx w' => Um l x /\ Ext w w' := by
  have h1 := hl.1;have h2 := hl.2.1;rw [VC] at h1;unfold VP at h2;by_cases h32 : 32 < ln l
  · clear hl hs
    go_enter func110, ntmps110;go_wp2;go_ret2;exact ⟨⟨_, _, rfl, λh => Wb⟩, Below.refl _ _⟩
  have HS := Vs (hs V7);have HT := Vs ht;have HL := Vs (λ(W : Vt) (hx : Ext w W) => ((hl.below hx).more hx.size : bJ 5 W W.heap.size A cap (bw l)));have HN := Vs (show ∀ b k, k ≠ 0 -> Um l (V0 (V6 #[VX b, VZ VH k])) fromλb k h => ⟨b, k, rfl, λe => absurd e h⟩);have HF := Vs (show (∀ i, i < ln l -> qY (l.getD i eB)) -> ∀ b : Bool, (b = VD -> ∀ i, i < ln l -> ∀ j, j < i -> JJ (l.getD i eB) (l.getD j eB) = Vw) -> Um l (V0 (V6 #[VX b, VZ VH 0])) fromλh b hb => ⟨b, 0, rfl, λ_ => ⟨V7, h, hb⟩⟩);have KO := Vs (λi (hi : i < ln l) W (h : Ext w W) => Ki W _ (HS.o i hi) (HT.o.below h (Vu _)));have KV := Vs (λi j (hi : i < ln l) (hj : j < ln l) (oi : qY (l.getD i eB)) (oj : qY (l.getD j eB)) W (h : Ext w W) => zX W _ _ (HS.o i hi) (HS.o j hj) oi.sh oj.sh (HT.o.below h (Vu _)));clear hl hs ht;go_enter func110, ntmps110;go_wp2;go_loopw [4] (λi wr => ∃ k : Nat, i =VZ VH (k : Int) /\ k <= ln l /\ (∀ j, j < k -> qY (l.getD j eB)) /\ Ext w wr) (λi _ => ((ln l : Int) - VN i).toNat)
  case atStart => exact ⟨0, rfl, V7, λj hj => V7, Below.refl _ _⟩
  case round =>
    obtain ⟨k, rfl, hk, hoo, hX⟩ := hrel;have HOO := Vs hoo;clear hoo;have HX := Vs hX;by_cases hlt : k < ln l
    · obtain ⟨b, off, rfl, hb, hc⟩ := qv (HL.o _ hX) V7
      obtain ⟨y0, y1, y2, y3, y4⟩ := hc k hlt;have K1 := Vs (KO.o k hlt _ hX);obtain ⟨o, ho⟩ : ∃ n, l.getD k eB = n := ⟨_, rfl⟩;rw [ho] at y0 y1 y2 y3 y4 K1;have HO := Vs ho;obtain ⟨sd, s1, s2, s3, s4⟩ := o;dsimp only at y0 y1 y2 y3 y4 K1;have e1 : (k : Int) < (ln l : Int) := V7;clear hX hc ho hb;go_wp2_with (go_at_call 175; go_loud (refine K1.o.mono ?_); rintro e W1 ⟨⟨c, rfl, hc0⟩, hX1⟩; have HC0 := Vs hc0; have X1 := Vs (HX.o.tr hX1); clear hX1 hc0)
      · go_ret2
        exact ⟨HN.o _ _ WZ, X1.o⟩
      · have HC1 := Vs (HC0.o WZ)
        exact ⟨⟨k + 1, by go_num, V7, λj hj => (by
          by_cases e : j = k
          · rw [e, HO.o]; exact HC1.o
          · exact HOO.o j V7), X1.o⟩, WI⟩
    · obtain rfl : k = ln l := by omega
      clear hX;go_wp2;go_loopw [6] (λi wi => ∃ m : Nat, i =VZ VH (m : Int) /\ m <= ln l /\ (∀ i, i < m -> ∀ j, j < i -> JJ (l.getD i eB) (l.getD j eB) = Vw) /\ Ext w wi) (λi _ => ((ln l : Int) - VN i).toNat)
      case atStart => exact ⟨0, rfl, V7, λi hi => V7, HX.o⟩
      case round =>
        obtain ⟨m, rfl, hm, hov, hX2⟩ := hrel;have HOV := Vs hov;clear hov;have HX2 := Vs hX2;by_cases hlt2 : m < ln l
        · clear hX2
          have e1 : (m : Int) < (ln l : Int) := V7;go_wp2;go_loopw [7] (λi wi => ∃ n : Nat, i =VZ VH (n : Int) /\ n <= m /\ (∀ j, j < n -> JJ (l.getD m eB) (l.getD j eB) = Vw) /\ Ext w wi) (λi _ => ((m : Int) - VN i).toNat)
          case atStart => exact ⟨0, rfl, V7, λj hj => V7, HX2.o⟩
          case round =>
            obtain ⟨n, rfl, hn, hin, hX3⟩ := hrel;have HIN := Vs hin;clear hin;have HX3 := Vs hX3;by_cases hlt3 : n < m
            · obtain ⟨b, off, rfl, hb, hc⟩ := qv (HL.o _ hX3) V7
              obtain ⟨y0, y1, y2, y3, y4⟩ := hc m hlt2;obtain ⟨z0, z1, z2, z3, z4⟩ := hc n V7;have K1 := Vs (λW h => KV.o m n hlt2 V7 (HOO.o m hlt2) (HOO.o n V7) W (hX3.tr h));obtain ⟨ov, hov⟩ : ∃ x, JJ (l.getD m eB) (l.getD n eB) = x := ⟨_, rfl⟩;rw [hov] at K1;have HOV1 := Vs hov;clear hov;obtain ⟨o, ho⟩ : ∃ n, l.getD m eB = n := ⟨_, rfl⟩;rw [ho] at y0 y1 y2 y3 y4 K1;obtain ⟨sd, s1, s2, s3, s4⟩ := o;obtain ⟨o, ho2⟩ : ∃ x, l.getD n eB = x := ⟨_, rfl⟩;rw [ho2] at z0 z1 z2 z3 z4 K1;obtain ⟨rd, r1, r2, r3, r4⟩ := o;dsimp only at y0 y1 y2 y3 y4 z0 z1 z2 z3 z4 K1;have e2 : (n : Int) < (m : Int) := V7;have e3 : (n : Int) < (ln l : Int) := V7;clear hX3 hc ho ho2 hb;go_wp2_with fail
              go_still_tail 8, V8
              all_goals go_simp
              go_wp2_with (go_at_call 176; go_loud (refine (K1.o _ (Ext.dr wr)).mono ?_); rintro e W4 ⟨rfl, hX4⟩; have X4 := Vs (HX3.o.tr (Ext.tr (Ext.dr wr) hX4)); clear hX4)
              all_goals first
                | (go_ret2
                   exact ⟨HF.o HOO.o _ (λh => Wb), X4.o⟩)
                | exact ⟨⟨n + 1, by go_num, V7, λj hj => (by
                    by_cases e : j = n
                    · rw [e]; exact HOV1.o.trans Wi
                    · exact HIN.o j V7), X4.o⟩, WI⟩
                | trace_state
            · obtain rfl : n = m := by omega
              clear hX3;go_wp2;exact ⟨⟨n + 1, by go_num, V7, λi hi j hj => (by
                by_cases e : i = n
                · subst e; exact HIN.o j hj
                · exact HOV.o i V7 j hj), HX3.o⟩, WI⟩
        · obtain rfl : m = ln l := by omega
          clear hX2;go_wp2;go_ret2;exact ⟨HF.o HOO.o _ (λ_ => HOV.o), HX2.o⟩
end
section
open Kp
def E9{a b:By}(h:tx a=tx b):a=b:=by
 have:=congrArg (λz:ByteArray=>z.data.toList) h;simpa[bf] using this
def NQ(a:By):By:=(Lib.cut a [47]).1
def Ef(a:By):By:=if(Lib.cut a [47]).2.2=VD then(Lib.cut a [47]).2.1 else [49]
def T0(a:By):pD (aL (tx a))=tx (Ef a):=by
 obtain⟨_,c2,_⟩:=tE a;rw[kc];unfold pD Ef;dsimp only;rw[c2];split
 ·rfl
 ·rfl
structure UK(a:By)(n:Int)(d:Nat):Prop where
 fn:aT (NQ a)=VD
 fd:aT (Ef a)=VD
 ln:(own (NQ a)).length<=12
 ld:(own (Ef a)).length<=12
 vn:num (NQ a)=n
 vd:num (Ef a)=(d:Int)
def JN{a:By}(h:fF (tx a)):UK a (A8 (tx a)) (CF (tx a)):=by
 obtain⟨⟨x,e1,f1,_,v1⟩,⟨y,e2,f2,_,v2⟩⟩:=nS h.ok;have hn:=h.n;have hd:=h.d;rw[Qn] at e1 hn;rw[T0] at e2 hd;rw[EN] at hn hd;obtain rfl:=E9 e1;obtain rfl:=E9 e2;exact⟨f1,f2,hn,hd,v1,v2⟩
def C8(x y:By)(h:x.all gh=VD):(x++47::y).findIdx (· ==47)=ln x:=by
 induction x with
 |nil=>rfl
 |cons b x ih=>
  simp only[List.all_cons,Bool.and_eq_true] at h;have hb:(b==(47:UInt8))=Vw:=by
   rw[beq_eq_false_iff_ne];rintro rfl;exact absurd h.1 V9
  rw[List.cons_append,List.findIdx_cons,hb,ih h.2]
  rfl
def Pf(x y:By)(h:x.all gh=VD):Lib.cut (x++47::y) [47]=(x,y,VD):=by
 rw[xz,C8 x y h,if_pos Wa];simp
def PS(x:By)(h:x.all gh=VD):Lib.cut x [47]=(x,[],Vw):=by
 have:x.findIdx (· ==47)=ln x:=by
  rw[List.findIdx_eq_length];intro b hb;rw[List.all_eq_true] at h;rw[beq_eq_false_iff_ne];rintro rfl;exact absurd (h _ hb) V9
 rw[xz,this,if_neg V7]
def Bc(s:By):s=lead s++s.drop (lead s).length:=by
 unfold lead
 induction s with
 |nil=>rfl
 |cons b s ih=>
  rw[List.takeWhile_cons];split
  ·rw[List.cons_append,List.length_cons,List.drop_succ_cons,<-ih]
  ·rfl
def Tb(a:By):A8 (tx a)=if(a.head?==Vz 45)=VD then -(aw (Lib.cut (own a) [47]).1:Int) else aw (Lib.cut (own a) [47]).1:=by
 unfold A8;rw[kc];dsimp only;rw[jl]
def TE(a:By):CF (tx a)=if(Lib.cut (own a) [47]).2.2=VD then aw (Lib.cut (own a) [47]).2.1 else 1:=by
 unfold CF;rw[kc];dsimp only;rw[jl]
theorem xv{s:By}{r:By}(h:dk s=Vz (n,r)):n=aw (lead s)/\r=s.drop (lead s).length:=by
 unfold dk at h;split at h
 ·cases h
 ·injection h with h;injection h with h1 h2;exact⟨h1.symm,h2.symm⟩
def Ci{a:By}(h:bH a=VD):cZ a=(A8 (tx a),((CF (tx a):Nat):Int)):=by
 unfold cZ;rw[if_pos h,Tb,TE];unfold bH at h;unfold uu;have hsg:((own a).length<ln a)=((a.head?==Vz 45)=VD):=by
  rw[fO];cases a with
  |nil=>simp
  |cons b r=>by_cases hb:b=45<;>simp[hb]
 cases hn:dk (own a) with
 |none=>rw[hn] at h;cases h
 |some p=>
  obtain⟨n,r⟩:=p;rw[hn] at h;obtain⟨e1,e2⟩:=xv hn;have hap:=Bc (own a);rw[<-e2] at hap;dsimp only at h⊢;split at h
  ·cases h
  ·cases r with
   |nil=>
    rw[List.append_nil] at hap;rw[PS (own a) (by rw[hap];exact qn _)];dsimp only;rw[e1,<-hap];simp only[hsg];simp
   |cons c r'=>
    dsimp only at h⊢;split at h
    ·rename_i hc;subst hc;rw[hap,Pf _ _ (qn _)];cases hn2:dk r' with
     |none=>rw[hn2] at h;cases h
     |some p2=>
      obtain⟨d,q⟩:=p2;rw[hn2] at h;dsimp only at h;simp only[Bool.and_eq_true] at h;have hq:q=[]:=by cases q with
       |nil=>rfl
       |cons _ _=>simp at h
      obtain⟨k1,k2⟩:=xv hn2;have hap2:=Bc r';rw[<-k2,hq,List.append_nil] at hap2;dsimp only;rw[<-hap,e1,k1,<-hap2];simp only[hsg];simp
    ·cases h
def Jk(x:Nat)(l:List Nat):val (x::l)=x+B*val l:=by
 unfold val;rw[List.length_cons,Nat.add_comm (ln l) 1,pd];have:S (λk=>fv (x::l) (1+k)) (ln l)=S (fv l) (ln l):=dU (λk _=>by unfold fv;rw[Nat.add_comm];rfl);rw[this];simp[S,fv]
def Nq(n:Nat):∃l,Canon l/\val l=n:=by
 induction n using Nat.strongRecOn with
 |_ n ih=>
  by_cases h0:n=0
  ·subst h0;exact⟨[],⟨λd hd=>by simp at hd,λd hd=>by simp at hd⟩,rfl⟩
  ·obtain⟨l,hc,hv⟩:=ih (n/B) (Nat.div_lt_self V7 V9);refine⟨n%B::l,⟨λd hd=> ?_,λd hd=> ?_⟩,?_⟩
   ·rcases List.mem_cons.1 hd with rfl|h
    ·exact Nat.mod_lt _ V9
    ·exact hc.small d h
   ·cases l with
    |nil=>
     simp at hd;have:n/B=0:=by rw[<-hv];rfl
     have h3:=Nat.div_add_mod n B;rw[this] at h3;omega
    |cons y l=>exact hc.trim d (by simpa using hd)
   ·rw[Jk,hv,Nat.add_comm];exact Nat.div_add_mod n B
def FC(n:Nat):Canon (cI n)/\val (cI n)=n:=by
 obtain⟨l,hc,hv⟩:=Nq n;rw[mQ hc hv];exact⟨hc,hv⟩
def uA(n:Nat):Lib.itoa (n:Int)=Lib.decDigits n:=by unfold Lib.itoa;rw[if_neg V7,Int.toNat_natCast]
def TT(c:Nat):(Lib.repeatL [48] c).all gh=VD/\aw (Lib.repeatL [48] c)=0:=by
 induction c with
 |zero=>exact⟨rfl,rfl⟩
 |succ c ih=>
  have e:Lib.repeatL [48] (c+1)=48::Lib.repeatL [48] c:=rfl;rw[e,gE,List.all_cons,ih.1,ih.2];exact⟨rfl,by simp[show iL 48=0 by decide]⟩
theorem MU(h:n<1000000000):(pL Vw n).all gh=VD/\aw (pL Vw n)=n/\(pL Vw n).length=9:=by
 have h9:=mN n h;obtain⟨a,b,_⟩:=dB n;obtain⟨r1,r2⟩:=TT (9-(Lib.itoa n).length);have e:pL Vw n=Lib.repeatL [48] (9-(Lib.itoa n).length)++Lib.itoa n:=rfl;rw[e];refine⟨by rw[List.all_append,r1,uA,a];rfl,by rw[yu,r2,uA,b];omega,by rw[VM,iV];omega⟩
def MA{l:List Nat}(hc:Canon l):∀k,1<=k->k<=ln l->(lP l k).all gh=VD/\lP l k≠[]/\(lP l k).head?≠Vz 48/\aw (lP l k)=S (λi=>fv l (ln l-k+i)) k:=by
 intro k
 induction k with
 |zero=>intro h;omega
 |succ k ih=>
  intro _ hk;by_cases h0:k=0
  ·subst h0;have e:lP l 1=Lib.decDigits (fv l (ln l-1)):=by
    show []++pL VD (fv l (ln l-1-0))=_;rw[List.nil_append,Nat.sub_zero,<-uA];rfl
   have hne:fv l (ln l-1)≠0:=hc.trim _ (by rw[List.getLast?_eq_getElem?,VA V7,lT V7]);obtain⟨a,b,c⟩:=dB (fv l (ln l-1));rw[e];exact⟨a,c,xK _ hne,by rw[b];simp[S]⟩
  ·obtain⟨a,b,c,d⟩:=ih V7 V7;have e:lP l (k+1)=lP l k++pL Vw (fv l (ln l-1-k)):=by
    show lP l k++pL (k==0) (fv l (ln l-1-k))=_;rw[show(k==0)=Vw from beq_eq_false_iff_ne.2 h0]
   obtain⟨p1,p2,p3⟩:=MU (aB hc.small (ln l-1-k));rw[e];refine⟨by rw[List.all_append,a,p1];rfl,by simp[b],?_,?_⟩
   ·cases hw:lP l k with
    |nil=>exact absurd hw b
    |cons x y=>rw[hw] at c;exact c
   ·rw[yu,d,p2,p3,Nat.add_comm k 1,pd];have e2:S (λj=>fv l (ln l-(1+k)+(1+j))) k=S (λi=>fv l (ln l-k+i)) k:=dU λi hi=>by
     rw[show ln l-(1+k)+(1+i)=ln l-k+i by omega]
    rw[e2];have e3:S (λi=>fv l (ln l-(1+k)+i)) 1=fv l (ln l-1-k):=by
     simp only[S,Nat.pow_zero,Nat.mul_one,Nat.zero_add,Nat.add_zero];rw[show ln l-(1+k)=ln l-1-k by omega]
    rw[e3,Nat.pow_one];have e4:(10:Nat)^9=B:=V9;rw[e4,VL,Nat.add_comm]
def Ng{l:List Nat}(hc:Canon l)(s:Bool):aT (AD s l)=VD/\num (AD s l)=(if s then -(val l:Int) else val l)/\(ln l<=30->(own (AD s l)).length<=300):=by
 unfold AD;split
 ·rename_i h;subst h;refine⟨V9,?_,λ_=>V9⟩;have:num [48]=0:=V9;rw[this];cases s<;>rfl
 ·rename_i h;have hpos:=List.length_pos_iff.2 h;obtain⟨a,b,c,d⟩:=MA hc (ln l) hpos (Vu _);have hd:xZ (lP l (ln l)):=⟨a,b,.inl c⟩;have hv:aw (lP l (ln l))=val l:=by
   rw[d,Nat.sub_self];unfold val;exact dU λi _=>by rw[Nat.zero_add]
  have hlen:=sX hc.small (ln l);cases s with
  |false=>
   have e:JK Vw++lP l (ln l)=lP l (ln l):=rfl;rw[e];exact⟨hd.form,by unfold num;rw[hd.pre,hd.own,hv],λh=>by rw[hd.own];omega⟩
  |true=>
   have e:JK VD++lP l (ln l)=45::lP l (ln l):=rfl;rw[e];exact⟨hd.neg (λe=>c XB),by unfold num;rw[qa,jd,hv],λh=>by rw[jd];omega⟩
def OU(a b:By):(if(Lib.hasPrefix a [45] !=Lib.hasPrefix b [45])=VD then -((aw (own a)*aw (own b):Nat):Int) else((aw (own a)*aw (own b):Nat):Int))=num a*num b:=by
 unfold num;cases Lib.hasPrefix a [45]<;>cases Lib.hasPrefix b [45]<;>simp[Int.neg_mul,Int.mul_neg]
def Cy{a b:By}(fa:aT a=VD)(fb:aT b=VD)(la:(own a).length<=12)(lb:(own b).length<=12):(jE a b).2=0/\jC (jE a b).1=0/\num (jE a b).1=num a*num b:=by
 unfold jE du;rw[oP fa V7,oP fb V7,if_pos rfl,if_pos rfl];unfold wu;split
 ·rename_i h;have hb:=jg fa fb h;obtain⟨x,e,f,l,v⟩:=FG (z:=num a*num b) V7 V7;obtain rfl:=E9 e;exact⟨rfl,oP f l,v⟩
 ·obtain⟨hc,hv⟩:=FC (aw (own a)*aw (own b));have hn1:=kB (cV fa);have hn2:=kB (cV fb);have h1:(10:Nat)^(own a).length<=10^12:=Nat.pow_le_pow_right V9 la;have h2:(10:Nat)^(own b).length<=10^12:=Nat.pow_le_pow_right V9 lb;have h3:aw (own a)*aw (own b)<=10^12*10^12:=Nat.mul_le_mul V7 V7;have hl:(cI (aw (own a)*aw (own b))).length<=30:=by
   obtain⟨l,e⟩:∃l,cI (aw (own a)*aw (own b))=l:=⟨_,rfl⟩;rw[e] at hc hv⊢;rcases Nat.lt_or_ge 30 (ln l) with h|h
   ·have hne:l≠[]:=by rintro rfl;simp at h
    have h4:=vO hc.trim hne;have h5:B^3<=B^(ln l-1):=Nat.pow_le_pow_right V9 V7;have h6:B^3>10^12*10^12:=Xf;omega
   ·exact h
  obtain⟨w1,w2,w3⟩:=Ng hc (Lib.hasPrefix a [45] !=Lib.hasPrefix b [45]);have w3:=w3 hl;unfold qe;rw[if_neg V7];refine⟨rfl,oP w1 w3,?_⟩;rw[w2,hv];exact OU a b
def Gx{a:By}{p:By×By}(h:dP a=Vz p):p=(NQ a,Ef a):=by
 unfold NQ Ef;unfold dP at h;dsimp only at h;split at h
 ·cases h
 ·split at h
  ·rename_i q;injection h with e;rw[<-e,q];simp
  ·rename_i q;split at h
   ·cases h
   ·injection h with e;rw[<-e];simp at q;rw[q];simp
def Dq{a:By}(h:jB (tx a)):bD a=(NQ a,Ef a):=by
 have hc:=tU h;unfold bU at hc;unfold bD;cases hcu:dP a with
 |none=>rw[hcu] at hc;cases hc
 |some p=>rw[Gx hcu];rfl
def lN{a b:By}(ha:fF (tx a))(hb:fF (tx b)):gT a b=(lW (tx a) (tx b),0):=by
 unfold gT lW;split
 ·rename_i h;simp only[Bool.and_eq_true] at h;rw[Ci h.1,Ci h.2]
 ·rw[Dq ha.ok,Dq hb.ok];have pa:=JN ha;have pb:=JN hb;obtain⟨u1,u2,u3⟩:=Cy pa.fn pb.fd pa.ln pb.ld;obtain⟨v1,v2,v3⟩:=Cy pb.fn pa.fd pb.ln pa.ld;have hcr:tu (NQ a) (Ef a) (NQ b) (Ef b)=⟨(jE (NQ a) (Ef b)).1,(jE (NQ b) (Ef a)).1,0⟩:=by
   unfold tu;rw[if_neg (by rw[u1];simp),v1]
  dsimp only;rw[hcr];dsimp only;rw[if_neg Wa];unfold mZ du;rw[u2,v2,if_pos rfl,if_pos rfl,u3,v3,pa.vn,pa.vd,pb.vn,pb.vd]
def OE{a:By}(h:fF (tx a)):ml a=0:=by
 unfold ml;rw[if_pos (tU h.ok)];have hp:=JN h;cases hcu:dP a with
 |none=>rfl
 |some p=>
  rw[Gx hcu];dsimp only;have h1:=hp.ln;have h2:(Ef a).length<=12:=by
   have:=hp.ld;have hd:own (Ef a)=Ef a:=by
    rcases lX hp.fd with h|⟨r,e,hr,h48⟩
    ·exact h.own
    ·exfalso;have hv:=hp.vd;rw[e] at hv;unfold num at hv;rw[qa,jd] at hv;simp only[if_true] at hv;have h0:aw r=0:=V7;have:=hr.lead.resolve_right h48;have hall:=hr.all;have hne:=hr.ne
     match r,hne with
     |c::t,_=>
      simp only[List.all_cons,Bool.and_eq_true] at hall;rw[gE] at h0;have h5:=kx hall.1;have h6:iL c=0:=by
       rcases Nat.eq_zero_or_pos (iL c) with h|h
       ·exact h
       ·have:=Nat.mul_pos h (Nat.pow_pos (a:=10) (n:=ln t) V9);omega
      apply this;exact a0M
   rwa[hd] at this
  rw[if_neg V7]
def Rm{o:kN}(h:qY o):tD o=0:=by
 have hn:∀i,i<4->fF (tx ([o.left,o.right,o.low,o.high].getD i [])):=λi hi=>by
  match i,hi with
  |0,_=>exact h.sa
  |1,_=>exact h.sb
  |2,_=>exact h.sc
  |3,_=>exact h.sd
 have h0:jj [o.left,o.right,o.low,o.high]=0:=by
  unfold jj;have e1:aV (λi=>bU ([o.left,o.right,o.low,o.high].getD i [])) [o.left,o.right,o.low,o.high].length=0:=be λi hi=>tU (hn i hi).ok
  have e2:aV (λi=>ml ([o.left,o.right,o.low,o.high].getD i [])) [o.left,o.right,o.low,o.high].length=0:=be λi hi=>OE (hn i hi)
  rw[if_neg (by rw[e1];simp),e2]
 have h1:=h.ab;have h2:=h.cd;unfold tD;rw[if_neg (by rw[h0];simp),lN h.sa h.sb,lN h.sc h.sd,if_neg (by show¬(0<=lW _ _\/0<=lW _ _);omega)]
def RL{a b:kN}(ha:qY a)(hb:qY b):AB a b=JJ a b:=by
 unfold AB JJ;rw[lN ha.sa hb.sb,lN hb.sa ha.sb,lN ha.sc hb.sd,lN hb.sc ha.sd]
def PF{l:List kN}(h1:ln l<=32)(h2:∀i,i<ln l->qY (l.getD i eB))(h3:∀i,i<ln l->∀j,j<i->JJ (l.getD i eB) (l.getD j eB)=Vw):lC l=(VD,0):=by
 unfold lC;have e1:aV (λi=>tD (l.getD i eB)) (ln l)=0:=be λi hi=>Rm (h2 i hi)
 have e2:Fa l=VD:=by
  unfold Fa;rw[bh λi hi=>bh λk hk=>by rw[RL (h2 i hi) (h2 k V7)];exact h3 i hi k hk]
  rfl
 rw[if_neg V7,if_neg (by rw[e1];simp),e2]
def PR{rs:List (List Sd)}{l:List kN}(hp:dv rs=0)(h1:ln l<=32)(h2:∀i,i<ln l->qY (l.getD i eB))(h3:∀i,i<ln l->∀j,j<i->JJ (l.getD i eB) (l.getD j eB)=Vw)(h4:∀i,i<ln l->aP (l.getD i eB).side 0 ((ln rs.flatten:Int)-1)=VD):nF rs l=0:=by
 unfold nF;have ha:(l.any λo=> !aP o.side 0 ((ln rs.flatten:Int)-1))=Vw:=by
  rw[List.any_eq_false];intro o ho;obtain⟨i,hi,rfl⟩:=List.mem_iff_getElem.1 ho;have:=h4 i hi;rw[Vv,VA hi] at this;exact a0Q
 rw[PF h1 h2 h3,if_neg Wa,if_neg (by simp[hp]),ha]
 rfl
end
end Go.Proofs.YtmliacdegmklaaaGreatDoor
