/- ChangeUndone of kingpostlaw58: part 13 of its proof (merged and shortened by program). -/
import Derived.Test.YtmliacdegmklaaaGreatDoorN05
set_option linter.unusedVariables false
set_option linter.unusedSimpArgs false
set_option linter.defProp false
set_option maxHeartbeats 8000000
set_option maxRecDepth 100000
open Go.RowKit Go.Shelf Go.Proofs.Tryz
open Array renaming getElem?_eq_some_iff→VF
open Bool renaming false→Vw,true→VD
open Go renaming World→Vt,Value→Vy,undef→VB,wpOp_step→VE,Calls→VJ,maxLen→VP,TypeId→VR,Addr→VT
open Go.AllReady renaming cons→VO,nil→VU
open Go.Ending renaming returned→V0
open Go.IntKind renaming i64→VH
open Go.IntWalk renaming i64_in→VQ
open Go.Lib renaming hid→Vs
open Go.RowKit renaming intOf→VN,Below→VS
open Go.Value renaming slice→VV,string→VW,bool→VX,pointer→VY,int→VZ,agg→V5,tuple→V6
open Go.World renaming alloc_heap_new→VG,size_alloc→VK
open List renaming getD_eq_getElem?_getD→Vv,getElem?_eq_getElem→VA,length_map→VC,length_append→VM,length→ln
open Nat renaming le_refl→Vu,le_trans→VI,mul_comm→VL
open Option renaming none→Vx,some→Vz
open Go.Proofs.YtmliacdegmklaaaGreatDoor
variable{cap:Nat}{A:Option VT}{p:Prop}{w W':Vt}
namespace Go.Proofs.YtmliacdegmklaaaGreatDoor
section
open Kp
theorem fe{B:Nat}{r:List Sd}(h:bJ 7 w B A cap (aD r))(hp:0<ln r):
  ∃b off,A=Vz ⟨b,off,Vx⟩/\b<B/\∀i,i<ln r->w.cell? ⟨b,off+i*7,Vx⟩=Vz (VZ VH (aq r i).x)/\w.cell? ⟨b,off+i*7+1,Vx⟩=Vz (VZ VH (aq r i).y)/\
   w.cell? ⟨b,off+i*7+2,Vx⟩=Vz (VZ VH (aq r i).rise)/\w.cell? ⟨b,off+i*7+3,Vx⟩=Vz (VZ VH (aq r i).run)/\w.cell? ⟨b,off+i*7+4,Vx⟩=Vz (VX (aq r i).gable)/\
   w.cell? ⟨b,off+i*7+5,Vx⟩=Vz (VZ VH (aq r i).plate)/\w.cell? ⟨b,off+i*7+6,Vx⟩=Vz (VZ VH (aq r i).over):=by
 obtain⟨h1,h2,h3⟩:=h;obtain⟨b,off,e,hb,hc⟩:=h3 (by rw[VC];exact hp);refine⟨b,off,e,hb,λi hi=> ?_⟩;have q:∀m,m<7->w.cell? ⟨b,off+i*7+m,Vx⟩=(ni (aq r i))[m]?:=by
  intro m hm;have:=hc i Xi m hm;rw[ke hi,VL] at this;exact this
 exact⟨q 0 V9,q 1 V9,q 2 V9,q 3 V9,q 4 V9,q 5 V9,q 6 V9⟩
def pK(n:Int):Int:=if n<0 then -1 else if 0<n then 1 else 0
def uY(n:Int)(w:Vt):VJ prog 224 #[VZ VH n] w λx w'=>x=V0 (VZ VH (pK n))/\w'=w:=by
 by_cases h1:n<0
 ·have hs:pK n= -1:=if_pos h1;rw[hs];go_enter func224,ntmps224;exact XM
 ·by_cases h2:0<n
  ·have hs:pK n=1:=by unfold pK;rw[if_neg h1,if_pos h2]
   rw[hs];have t1:decide (n<0)=Vw:=decide_eq_false h1;have t2:decide (n>0)=VD:=decide_eq_true h2;exact Z4
  ·have hs:pK n=0:=by unfold pK;rw[if_neg h1,if_neg h2]
   rw[hs];have t1:decide (n<0)=Vw:=decide_eq_false h1;have t2:decide (n>0)=Vw:=decide_eq_false h2;exact Z4
def mw(w:Vt)(A:Option VT)(cap:Nat)(r:List Sd)(h:bJ 7 w w.heap.size A cap (aD r))(i:Nat)(hi:i<ln r):
  VJ prog 223 #[VV A (ln r) cap,VZ VH (i:Int)] w λx w'=>x=V0 (V6 #[VZ VH (aQ r i).x,VZ VH (aQ r i).y])/\Ext w w':=by
 have h1:=h.1;have h2:=h.2.1;rw[VC] at h1;unfold VP at h2;obtain⟨b,off,rfl,hb,hc⟩:=fe h V7;rw[je];have w1:VH.wrap ((i:Int)+1)=(i:Int)+1:=VQ _ V7;obtain⟨p,hp⟩:∃p,(i+1)%ln r=p:=⟨_,rfl⟩;have hpl:p<ln r:=by rw[<-hp];exact Nat.mod_lt _ V7
 have q1:((i:Int)+1).tmod (ln r:Int)=(p:Int):=by rw[Int.tmod_eq_emod_of_nonneg V7,<-hp];rfl
 have z1:((ln r:Int)==0)=Vw:=beq_eq_false_iff_ne.2 V7;have w2:VH.wrap (p:Int)=(p:Int):=VQ _ V7;obtain⟨c0,c1,_⟩:=hc p hpl;rw[hp];clear hp hc h;go_enter func223,ntmps223;go_wp2_with fail
 go_quiet (fail)
 go_wp2;go_ret2;exact⟨rfl,below_drewN (Below.refl _ _) _⟩
def oW(r:List Sd)(i:Nat):Int:=pK (VH.wrap ((aQ r i).x-(aq r i).x))
def o6(r:List Sd)(i:Nat):Int:=pK (VH.wrap ((aQ r i).y-(aq r i).y))
def JT(n:Int): -1<=pK n/\pK n<=1:=by unfold pK;split <;>(try split)<;>omega
def xY(w:Vt)(A:Option VT)(cap:Nat)(r:List Sd)(h:bJ 7 w w.heap.size A cap (aD r))(i:Nat)(hi:i<ln r):
  VJ prog 170 #[VV A (ln r) cap,VZ VH (i:Int)] w λx w'=>x=V0 (V6 #[VZ VH (oW r i),VZ VH (o6 r i)])/\Ext w w':=by
 have h1:=h.1;have h2:=h.2.1;rw[VC] at h1;unfold VP at h2;have KE:=Vs (mw w A cap r h i hi);obtain⟨b,off,rfl,hb,hc⟩:=fe h V7;have HB:=Vs hb;obtain⟨c0,c1,_⟩:=hc i hi;have HX:=Vs (show pK (VH.wrap ((aQ r i).x-(aq r i).x))=oW r i from rfl);have HY:=Vs (show pK (VH.wrap ((aQ r i).y-(aq r i).y))=o6 r i from rfl);obtain⟨x,hx⟩:∃x,oW r i=x:=⟨_,rfl⟩;obtain⟨y,hy⟩:∃y,o6 r i=y:=⟨_,rfl⟩;rw[hx] at HX;rw[hy] at HY;rw[hx,hy];have KS:=Vs (λ(W:Vt)=>uY (VH.wrap ((aQ r i).x-(aq r i).x)) W);have KT:=Vs (λ(W:Vt)=>uY (VH.wrap ((aQ r i).y-(aq r i).y)) W);rw[HX.o] at KS;rw[HY.o] at KT;clear hx hy hc h HX HY;go_enter func170,ntmps170;go_wp2_with(go_at_call 223;go_must(refine KE.o.mono ?_);rintro e W1 ⟨rfl,hX1⟩;have HX1:=Vs hX1;have d0:=(hX1.cell (p:=⟨b,off+i*7,Vx⟩) HB.o).trans c0;have d1:=(hX1.cell (p:=⟨b,off+i*7+1,Vx⟩) HB.o).trans c1;clear hX1;clear c0 c1)
 go_quiet ((go_at_call 224;first|exact Calls.quiet_of_same (KS.o _)|exact Calls.quiet_of_same (KT.o _)))
 go_wp2;go_ret2;exact⟨rfl,below_drewN HX1.o _⟩
def lM(r:List Sd)(i:Nat):Int:=wrap64 (wrap64 (oW r ((i+ln r-1)%ln r)*o6 r i)-wrap64 (o6 r ((i+ln r-1)%ln r)*oW r i))
def tY(w:Vt)(A:Option VT)(cap:Nat)(r:List Sd)(h:bJ 7 w w.heap.size A cap (aD r))(hn:ln r<=1000000)(i:Nat)(hi:i<ln r):
  VJ prog 171 #[VV A (ln r) cap,VZ VH (i:Int)] w λx w'=>x=V0 (VZ VH (lM r i))/\Ext w w':=by
 have h1:=h.1;have h2:=h.2.1;rw[VC] at h1;unfold VP at h2;have HL:=Vs h;have w1:VH.wrap ((i:Int)+ln r)=(i:Int)+ln r:=VQ _ V7;have w2:VH.wrap ((i:Int)+ln r-1)=(i:Int)+ln r-1:=VQ _ V7;obtain⟨p,hp⟩:∃p,(i+ln r-1)%ln r=p:=⟨_,rfl⟩;have hpl:p<ln r:=by rw[<-hp];exact Nat.mod_lt _ V7
 have q1:((i:Int)+ln r-1).tmod (ln r:Int)=(p:Int):=by rw[Int.tmod_eq_emod_of_nonneg V7,show((i:Int)+ln r-1)=((i+ln r-1:Nat):Int) by omega,<-hp];rfl
 have z1:((ln r:Int)==0)=Vw:=beq_eq_false_iff_ne.2 V7;have w3:VH.wrap (p:Int)=(p:Int):=VQ _ V7;have KD:=Vs (λ(W:Vt) (hx:Ext w W) (k:Nat) (hk:k<ln r)=>xY W A cap r ((h.below hx).more hx.size) k hk);obtain⟨x,hx⟩:∃x,oW r p=x:=⟨_,rfl⟩;obtain⟨y,hy⟩:∃y,o6 r p=y:=⟨_,rfl⟩;have bx:=JT (VH.wrap ((aQ r p).x-(aq r p).x));have KP:=Vs (KD.o w (Below.refl _ _) p hpl);have KI:=Vs (λ(W:Vt) (hx:Ext w W)=>KD.o W hx i hi);rw[hx,hy] at KP;obtain⟨u,hu⟩:∃u,oW r i=u:=⟨_,rfl⟩;obtain⟨v,hv⟩:∃v,o6 r i=v:=⟨_,rfl⟩;simp only[hu,hv] at KI;have HV:=Vs (show lM r i=wrap64 (wrap64 (x*v)-wrap64 (y*u)) by unfold lM;rw[hp,hx,hy,hu,hv]);rw[HV.o];clear hx hy hu hv hp h KD bx;go_enter func171,ntmps171;go_wp2_with(first
  |(go_at_call 170;have hX0:=hX1;clear hX1;refine(KI.o _ hX0).mono ?_;rintro e W2 ⟨rfl,hX2⟩;have hX12:=Ext.tr hX0 hX2)
  |(go_at_call 170;refine KP.o.mono ?_;rintro e W1 ⟨rfl,hX1⟩))
 go_ret;exact⟨rfl,hX12⟩
end
section
open Kp
def UY{x:Int}(h1: -1<=x)(h2:x<=1):0<=x*x/\x*x<=1:=by
 rcases(show x= -1\/x=0\/x=1 by omega) with rfl|rfl|rfl<;>decide
end
section
open Kp
theorem FK{rs:List (List Sd)}(hr:fj w w.heap.size A cap rs)(hp:0<ln rs):
  ∃b off,∃f:Nat->Option VT×Nat,A=Vz ⟨b,off,Vx⟩/\b<w.heap.size/\∀W,Ext w W->∀k,k<ln rs->W.cell? ⟨b,off+k,Vx⟩=Vz (VV (f k).1 (rs.getD k []).length (f k).2)/\bJ 7 W W.heap.size (f k).1 (f k).2 (aD (rs.getD k [])):=by
 obtain⟨b,off,e,hb,hc⟩:=hr.2.2 hp;have hx:∀k,∃p:Option VT×Nat,k<ln rs->w.cell? ⟨b,off+k,Vx⟩=Vz (VV p.1 (rs.getD k []).length p.2)/\bJ 7 w w.heap.size p.1 p.2 (aD (rs.getD k [])):=by
  intro k;by_cases hk:k<ln rs
  ·obtain⟨Ai,ci,h1,h2⟩:=hc k hk;exact⟨(Ai,ci),λ_=>⟨h1,h2⟩⟩
  ·exact⟨(Vx,0),λh=>absurd h hk⟩
 obtain⟨f,hf⟩:=Classical.axiomOfChoice hx;refine⟨b,off,f,e,hb,λW hW k hk=> ?_⟩;obtain⟨h1,h2⟩:=hf k hk;exact⟨(hW.cell hb).trans h1,(h2.below hW).more hW.size⟩
def M9{rs:List (List Sd)}(hne:∀r∈rs,r≠[]){k:Nat}(hk:k<ln rs):0<(rs.getD k []).length:=by
 rw[Vv,VA hk];exact List.length_pos_iff.2 (hne _ (List.getElem_mem hk))
end
section
open Kp
def jv(P:Prop)(x:Ending):Prop:=∃b:Bool,x=V0 (VX b)/\(b=Vw->P)
structure L6(rs:List (List Sd)):Prop where
 f:ln rs.flatten<=40
 n:ln rs<=40
def Ch(w:Vt)(A:Option VT)(cap:Nat)(rs:List (List Sd))(hr:fj w w.heap.size A cap rs)(n:Int)(hbig:ln rs.flatten<=4000000000):
  VJ prog 102 #[V5 #[VV A (ln rs) cap],VZ VH n] w λx w'=>jv (L6 rs) x/\Ext w w':=by
 have h1:=hr.1;have h2:=hr.2.1;unfold VP at h2;have E0:=Vs (show Ext w (w.alloc (.cells #[VV A (ln rs) cap] 24)) from(Below.refl _ _).alloc (Vu _) _);have R0:=Vs (Bx.new w 24 (VV A (ln rs) cap));have Z0:=Vs (show w.heap.size<(w.alloc (.cells #[VV A (ln rs) cap] 24)).heap.size by simp);have HR:=Vs ((hr.below E0.o).more (B':=(w.alloc (.cells #[VV A (ln rs) cap] 24)).heap.size) Wa);clear hr;go_enter func102,ntmps102;go_wp2;obtain⟨w0,hw0⟩:∃w0,w.alloc (.cells #[VV A (ln rs) cap] 24)=w0:=⟨_,rfl⟩;simp only[hw0] at E0 R0 Z0 HR⊢;clear hw0;have c0:=R0.o.cell
 go_loop [5,6] (λs i=>∃k:Nat,k<=ln rs/\i=VZ VH (k:Int)/\s=VZ VH ((rs.take k).flatten.length:Int)) (λ_ i=>((ln rs:Int)-VN i).toNat)
 case atStart=>exact⟨0,V7,rfl,Wa⟩
 case round=>
  obtain⟨k,hk,rfl,rfl⟩:=hrel;by_cases hlt:k<ln rs
  ·obtain⟨b,off,rfl,hB,hcell⟩:=HR.o.2.2 V7;obtain⟨Ai,ci,c1,hsl⟩:=hcell k hlt;have hq:=dE hlt;have hle:=eG rs (k+1);have hq2:((rs.take (k+1)).flatten.length:Int)=((rs.take k).flatten.length:Int)+((rs.getD k []).length:Int):=by rw[hq];simp
   obtain⟨m,hm⟩:∃m,(rs.take k).flatten.length=m:=⟨_,rfl⟩;obtain⟨d,hd⟩:∃d,(rs.getD k []).length=d:=⟨_,rfl⟩;rw[hd] at c1;have hs:m+d<=4000000000:=by rw[hm,hd] at hq2;omega
   exact Zh
  ·obtain rfl:k=ln rs:=V7;have ht:(rs.take (ln rs)).flatten.length=ln rs.flatten:=by rw[List.take_length]
   rw[ht];clear ht;obtain⟨m,hm⟩:∃m,ln rs.flatten=m:=⟨_,rfl⟩;rw[hm] at hbig⊢;obtain⟨p1,lA⟩:∃p,decide ((m:Int)>n)=p:=⟨_,rfl⟩;obtain⟨p2,qw⟩:∃p,decide ((m:Int)<=24)=p:=⟨_,rfl⟩;obtain⟨p3,hp3⟩:∃p,decide ((m:Int)>40)=p:=⟨_,rfl⟩;obtain⟨p4,hp4⟩:∃p,decide ((ln rs:Int)>40)=p:=⟨_,rfl⟩;have HM:=Vs hm;have H3:=Vs hp3;have H4:=Vs hp4;clear hm;have fin:∀{b:Bool},(b=Vw->p3=Vw/\p4=Vw)->(b=Vw->L6 rs):=λh hb=>by
    obtain⟨a,c⟩:=h hb;have h3:=H3.o;rw[a] at h3;have h4:=H4.o;rw[c] at h4;have:=of_decide_eq_false h3;have:=of_decide_eq_false h4;have hm:=HM.o;exact⟨V7,V7⟩
   cases p1<;>cases p2<;>cases p3<;>cases p4
   all_goals
    go_wp2;go_ret
    first|exact⟨⟨_,rfl,λ_=>trivial⟩,E0.o⟩|(refine⟨⟨_,rfl,fin ?_⟩,E0.o⟩;simp)
end
section
open Kp
structure DJ(W0:Vt)(t:VR)(zero rowa:List Vy)(val:Nat->Vy)(L:Nat->Bool)(vs:Nat->Vy)(W:Vt):Prop where
 vals:∀q,L q=VD->q<15->vs q=val q
 ext:Ext W0 W
 a:L 15=VD->∃pa,vs 15=VY (Vz ⟨pa,0,Vx⟩)/\W0.heap.size<=pa/\ai W pa t (if L 17=VD then rowa else zero)/\(L 16=VD->vs 16≠ VY (Vz ⟨pa,0,Vx⟩))
 b:L 16=VD->∃pb,vs 16=VY (Vz ⟨pb,0,Vx⟩)/\W0.heap.size<=pb/\ai W pb t zero
 st:L 17=VD->L 15=VD
variable {W0 W : Vt} {t : VR} {zero rowa : List Vy} {val : Nat → Vy} {L : Nat → Bool} {vs : Nat → Vy}
def DJ.start(h:Ext W0 W)(us:Nat->Vy):DJ W0 t zero rowa val (λ_=>Vw) us W:=
 ⟨λ_ h=>Wb,h,λh=>Wb,λh=>Wb,λh=>Wb⟩
def DJ.pure(h:DJ W0 t zero rowa val L vs W){q:Nat}(hq:q<15){v:Vy}(hv:v=val q):DJ W0 t zero rowa val (gF L q) (bA vs q v) W:=by
 have n15:15≠q:=V7;have n16:16≠q:=V7;have n17:17≠q:=V7;refine⟨λm hm hl=> ?_,h.ext,?_,?_,?_⟩
 ·by_cases e:m=q
  ·subst e;rw[cG];exact hv
  ·exact Z6
 ·rw[af n15,af n16,af n17,aU n15,aU n16];exact h.a
 ·rw[af n16,aU n16];exact h.b
 ·rw[af n17,af n15];exact h.st
theorem DJ.Vc(h:DJ W0 t zero rowa val L vs W)(hL:L 15=Vw)(hz:zero=zero)(hW:W'=W.alloc (.cells zero.toArray t)):DJ W0 t zero rowa val (gF L 15) (bA vs 15 (VY (Vz ⟨W.heap.size,0,Vx⟩))) W':=by
 subst hW;have h17:L 17=Vw:=by cases q:L 17 with|false=>rfl|true=>rw[h.st q] at hL;cases hL
 have hx:Ext W (W.alloc (.cells zero.toArray t)):=(Below.refl _ _).alloc (Vu _) _;refine⟨λm hm hl=> ?_,h.ext.tr hx,?_,?_,?_⟩
 ·have e:m≠15:=V7;exact Z6
 ·intro _;rw[cG,af (k:=17) V9,h17,af (k:=16) V9,aU (k:=16) V9];refine⟨_,rfl,h.ext.size,by rw[if_neg V9];exact ai.new _ _ _,λh16 e=> ?_⟩;obtain⟨pb,e2,_,hr⟩:=h.b h16;rw[e2] at e;exact Z7
 ·rw[af (k:=16) V9,aU (k:=16) V9];intro h16;obtain⟨pb,e2,hl,hr⟩:=h.b h16;exact⟨pb,e2,hl,hr.ext hx⟩
 ·rw[af (k:=17) V9,h17];intro h;cases h
theorem DJ.Vn(h:DJ W0 t zero rowa val L vs W)(hW:W'=W.alloc (.cells zero.toArray t)):DJ W0 t zero rowa val (gF L 16) (bA vs 16 (VY (Vz ⟨W.heap.size,0,Vx⟩))) W':=by
 subst hW;have hx:Ext W (W.alloc (.cells zero.toArray t)):=(Below.refl _ _).alloc (Vu _) _;refine⟨λm hm hl=> ?_,h.ext.tr hx,?_,?_,?_⟩
 ·have e:m≠16:=V7;exact Z6
 ·rw[af (k:=15) V9,af (k:=17) V9,aU (k:=15) V9,cG];intro h15;obtain⟨pa,e1,hl,hr,_⟩:=h.a h15;refine⟨pa,e1,hl,hr.ext hx,λ_ e=> ?_⟩;exact Z7
 ·intro _;rw[cG];exact⟨_,rfl,h.ext.size,ai.new _ _ _⟩
 ·rw[af (k:=17) V9,af (k:=15) V9];exact h.st
def DJ.store(h:DJ W0 t zero rowa val L vs W)(h15:L 15=VD){pa:Nat}(hp:vs 15=VY (Vz ⟨pa,0,Vx⟩)):DJ W0 t zero rowa val (gF L 17) (bA vs 17 VB) (W.setRow pa rowa.toArray):=by
 obtain⟨pa',e1,hl,hr,hne⟩:=h.a h15;obtain rfl:pa=pa':=by rw[hp] at e1;injection e1 with e1;injection e1 with e1;injection e1 with e1
 refine⟨λm hm hl=> ?_,ah h.ext hl _,?_,?_,?_⟩
 ·have e:m≠17:=V7;exact Z6
 ·rw[af (k:=15) V9,af (k:=16) V9,dj,aU (k:=15) V9,aU (k:=16) V9];intro _;exact⟨pa,hp,hl,by rw[if_pos rfl];exact setRow_heap hr _,hne⟩
 ·rw[af (k:=16) V9,aU (k:=16) V9];intro h16;obtain⟨pb,e2,hl2,hr2⟩:=h.b h16;have hpp:pb≠pa:=λe=>hne h16 (by rw[e2,e])
  have:(W.setRow pa rowa.toArray).heap[pb]?=W.heap[pb]?:=by simp only[World.setRow,Array.getElem?_modify];rw[if_neg (Ne.symm hpp)]
  exact⟨pb,e2,hl2,this.trans hr2⟩
 ·intro _;rw[af (k:=15) V9];exact h15
def pJ(bk ok n c k p:Nat)(r:List Sd):Nat->Vy
 |0=> VV (Vz ⟨bk,ok,Vx⟩) n c
 |1=> VZ VH (k:Int)
 |2=> VV (Vz ⟨bk,ok,Vx⟩) n c
 |3=> VZ VH (n:Int)
 |4=> VZ VH ((k:Int)+n)
 |5=> VZ VH ((k:Int)+n-1)
 |6=> VV (Vz ⟨bk,ok,Vx⟩) n c
 |7=> VZ VH (n:Int)
 |8=> VZ VH (p:Int)
 |9=> VY (Vz ⟨bk,ok+p*7,Vx⟩)
 |10=> V5 (ni (aq r p)).toArray
 |11=> VV (Vz ⟨bk,ok,Vx⟩) n c
 |12=> VZ VH (k:Int)
 |13=> VY (Vz ⟨bk,ok+k*7,Vx⟩)
 |14=> V5 (ni (aq r k)).toArray
 |_=>VB
theorem wpList_skip{P:Program}{ops:Array Oper}{rest:List Oper}{o:Oper}{a:Act}{Q:Exit->Act->Vt->Prop}(hg:Region.wanted o (yielded ops a.tmps)=Vw)(h:wpList P ops Q rest (a.put o.dst VB) w):wpList P ops Q (o::rest) a w:=
 wpList_step λ_ hK=>by
  rw[if_neg (by rw[hg];decide)];exact hK _ _ h
end
section
open Kp
theorem lS(h:p:=by
  go_enter func105,ntmps105;go_wp2_with(go_at_call 169;go_must(refine(GX _ _ _ _).mono ?_);rintro e W1 ⟨rfl,rfl⟩)
  go_ret;exact⟨Wa,E0.o⟩):p:=h
def DH(s:Sd)(w:Vt):VJ prog 105 #[V5 (ni s).toArray] w λx w'=>x=V0 (VX (aJ s))/\Ext w w':=by
 have R0:=ai.new w 54 (ni s);have E0:=Vs (show Ext w (w.alloc (.cells (ni s).toArray 54)) from(Below.refl _ _).alloc (Vu _) _);obtain⟨x,y,rise,run,gable,plate,over⟩:=s;cases gable;all_goals
  have c:=λi=>R0.cell i
  obtain⟨b0,t0⟩:∃b,aP x 0 65536=b:=⟨_,rfl⟩;obtain⟨b1,t1⟩:∃b,aP y 0 65536=b:=⟨_,rfl⟩;obtain⟨b2,t2⟩:∃b,aP plate 0 65536=b:=⟨_,rfl⟩;obtain⟨b3,t3⟩:∃b,aP over 0 65536=b:=⟨_,rfl⟩;obtain⟨b4,t4⟩:∃b,aP rise 1 48=b:=⟨_,rfl⟩;obtain⟨b5,t5⟩:∃b,aP run 1 48=b:=⟨_,rfl⟩;obtain⟨b6,t6⟩:∃b,(rise==0)=b:=⟨_,rfl⟩;obtain⟨b7,t7⟩:∃b,(run==0)=b:=⟨_,rfl⟩;unfold aJ;simp only[t0,t1,t2,t3,t4,t5,t6,t7,if_true,Bool.false_eq_true,if_false];cases b0
  ·exact lS
  cases b1
  ·exact lS
  cases b2
  ·exact lS
  cases b3
  ·exact lS
  cases b4<;>cases b6<;>exact lS
def lj(r:List Sd)(x y:Int)(k:Nat):Bool:=((aq r k).x==(aQ r k).x)&&decide ((aQ r k).x>x)&&decide (min (aq r k).y (aQ r k).y<=y)&&decide (y<max (aq r k).y (aQ r k).y)
theorem mi(h:p:=by
  go_wp2_with(go_at_call 223;go_must(refine KE.o.mono ?_);rintro e W1 ⟨rfl,hX1⟩;have HX1:=Vs (Ext.tr HX.o hX1);have d0:=(hX1.cell (p:=⟨b,off+k*7,Vx⟩) HB.o).trans c0;have d1:=(hX1.cell (p:=⟨b,off+k*7+1,Vx⟩) HB.o).trans c1;clear hX1;clear c0 c1)
  exact⟨⟨k+1,by rw[HO.o];simp,by go_num,V7,HX1.o⟩,Wc⟩):p:=h
def CH(w:Vt)(A:Option VT)(cap:Nat)(r:List Sd)(h:bJ 7 w w.heap.size A cap (aD r))(x y:Int):
  VJ prog 174 #[VV A (ln r) cap,VZ VH x,VZ VH y] w λe w'=>e=V0 (VX (nf (lj r x y) (ln r)))/\Ext w w':=by
 have h1:=h.1;have h2:=h.2.1;rw[VC] at h1;unfold VP at h2;have HL:=Vs (λ(W:Vt) (hx:Ext w W)=>((h.below hx).more hx.size:bJ 7 W W.heap.size A cap (aD r)));clear h;obtain⟨f,hf⟩:∃f,nf (lj r x y)=f:=⟨_,rfl⟩;have HS:=Vs (show∀k,f (k+1)=(if lj r x y k then !f k else f k) by rw[<-hf];intro k;rfl);have H0:=Vs (show f 0=Vw by rw[<-hf];rfl);rw[hf];clear hf;go_enter func174,ntmps174;go_wp2;go_loopw [7,8] (λs i wr=>∃k:Nat,s=VX (f k)/\i=VZ VH (k:Int)/\k<=ln r/\Ext w wr) (λ_ i _=>((ln r:Int)-VN i).toNat)
 case atStart=>exact⟨0,by rw[H0.o],rfl,V7,Below.refl _ _⟩
 case round=>
  obtain⟨k,rfl,rfl,hk,hX⟩:=hrel;have HX:=Vs hX;by_cases hlt:k<ln r
  ·obtain⟨b,off,rfl,hb,hc⟩:=fe (HL.o _ hX) V7;obtain⟨c0,c1,_⟩:=hc k hlt;have HB:=Vs hb;have KE:=Vs (mw wr _ cap r (HL.o _ hX) k hlt);have hs:=HS.o k;unfold lj at hs;obtain⟨u,hu⟩:∃u,(aQ r k).x=u:=⟨_,rfl⟩;obtain⟨v,hv⟩:∃u,(aQ r k).y=u:=⟨_,rfl⟩;obtain⟨ox,hox⟩:∃u,(aq r k).x=u:=⟨_,rfl⟩;obtain⟨oy,hoy⟩:∃u,(aq r k).y=u:=⟨_,rfl⟩;rw[hu,hv,hox,hoy] at hs;rw[hu,hv] at KE;rw[hox] at c0;rw[hoy] at c1;clear hc hX hb hu hv hox hoy;obtain⟨p1,lA⟩:∃p,(ox==u)=p:=⟨_,rfl⟩;obtain⟨p2,qw⟩:∃p,decide (u>x)=p:=⟨_,rfl⟩;obtain⟨p3,hp3⟩:∃p,decide (min oy v<=y)=p:=⟨_,rfl⟩;obtain⟨p4,hp4⟩:∃p,decide (y<max oy v)=p:=⟨_,rfl⟩;rw[lA,qw,hp3,hp4] at hs;obtain⟨o,ho⟩:∃o,f k=o:=⟨_,rfl⟩;rw[ho] at hs⊢;have HO:=Vs hs;clear hs ho;cases p1
   ·exact mi
   cases p2
   ·exact mi
   cases p3
   ·exact mi
   cases p4
   ·exact mi
   ·exact mi
  ·obtain rfl:k=ln r:=V7;exact ZR
def lK(r:List Sd):Nat->Int
 |0=>0
 |k+1=>wrap64 (wrap64 (lK r k+wrap64 ((aq r k).x*(aQ r k).y))-wrap64 ((aQ r k).x*(aq r k).y))
def Fb(w:Vt)(A:Option VT)(cap:Nat)(r:List Sd)(h:bJ 7 w w.heap.size A cap (aD r))(hn:ln r<=1000000):
  VJ prog 173 #[VV A (ln r) cap] w λx w'=>x=V0 (VZ VH (lK r (ln r)))/\Ext w w':=by
 have h1:=h.1;have h2:=h.2.1;rw[VC] at h1;unfold VP at h2;have HL:=Vs (λ(W:Vt) (hx:Ext w W)=>((h.below hx).more hx.size:bJ 7 W W.heap.size A cap (aD r)));clear h;obtain⟨f,hf⟩:∃f,lK r=f:=⟨_,rfl⟩;have HS:=Vs (show∀k,f (k+1)=wrap64 (wrap64 (f k+wrap64 ((aq r k).x*(aQ r k).y))-wrap64 ((aQ r k).x*(aq r k).y)) by rw[<-hf];intro k;rfl);have H0:=Vs (show f 0=0 by rw[<-hf];rfl);rw[hf];clear hf;go_enter func173,ntmps173;go_wp2;go_loopw [3,4] (λs i wr=>∃k:Nat,s=VZ VH (f k)/\i=VZ VH (k:Int)/\k<=ln r/\Ext w wr) (λ_ i _=>((ln r:Int)-VN i).toNat)
 case atStart=>exact⟨0,by rw[H0.o],rfl,V7,Below.refl _ _⟩
 case round=>
  obtain⟨k,rfl,rfl,hk,hX⟩:=hrel;have HX:=Vs hX;by_cases hlt:k<ln r
  ·obtain⟨b,off,rfl,hb,hc⟩:=fe (HL.o _ hX) V7;obtain⟨c0,c1,_⟩:=hc k hlt;have HB:=Vs hb;have KE:=Vs (mw wr _ cap r (HL.o _ hX) k hlt);have hs:=HS.o k;obtain⟨z,hz⟩:∃z,f k=z:=⟨_,rfl⟩;rw[hz] at hs⊢;have HO:=Vs hs;clear hc hX hb hs hz;go_wp2_with(go_at_call 223;go_must(refine KE.o.mono ?_);rintro e W1 ⟨rfl,hX1⟩;have HX1:=Vs (Ext.tr HX.o hX1);have d0:=(hX1.cell (p:=⟨b,off+k*7,Vx⟩) HB.o).trans c0;have d1:=(hX1.cell (p:=⟨b,off+k*7+1,Vx⟩) HB.o).trans c1;clear hX1;clear c0 c1)
   go_quiet (fail)
   go_wp2;exact⟨⟨k+1,by rw[HO.o],by go_num,V7,below_drewN HX1.o _⟩,Wc⟩
  ·obtain rfl:k=ln r:=V7;exact ZR
end
section
open Kp
theorem tF(h:p:=by
  go_enter func172,ntmps172;go_wp2_with(first
   |(go_at_call 223;have hX0:=hX1;clear hX1;refine(KF.o _ hX0.o).mono ?_;rintro e W2 ⟨rfl,hX2⟩;have HX2:=Vs (Ext.tr hX0.o hX2);have d0:=(HX2.o.cell (p:=⟨b,off+i*7,Vx⟩) HB.o).trans c0;have d1:=(HX2.o.cell (p:=⟨b,off+i*7+1,Vx⟩) HB.o).trans c1;have f0:=(HX2.o.cell (p:=⟨b',off'+k*7,Vx⟩) HB'.o).trans e0;have f1:=(HX2.o.cell (p:=⟨b',off'+k*7+1,Vx⟩) HB'.o).trans e1;clear c0 c1 e0 e1 hX2)
   |(go_at_call 223;refine KE.o.mono ?_;rintro e W1 ⟨rfl,hX1⟩;have hX1:=Vs hX1))
  simp only[List.append_eq,List.cons_append,List.nil_append];refine dx 66 V8 V8 (λW3 hW3=> ?_);have g0:=(hW3.cell (p:=⟨b,off+i*7,Vx⟩) (Nat.lt_of_lt_of_le HB.o HX2.o.size)).trans d0;have g1:=(hW3.cell (p:=⟨b,off+i*7+1,Vx⟩) (Nat.lt_of_lt_of_le HB.o HX2.o.size)).trans d1;have g2:=(hW3.cell (p:=⟨b',off'+k*7,Vx⟩) (Nat.lt_of_lt_of_le HB'.o HX2.o.size)).trans f0;have g3:=(hW3.cell (p:=⟨b',off'+k*7+1,Vx⟩) (Nat.lt_of_lt_of_le HB'.o HX2.o.size)).trans f1;have HX3:=Vs (HX2.o.tr hW3);clear hW3 d0 d1 f0 f1;refine rX (λOPS hOPS=> ?_);have D15:(OPS[15]?).bind (·.dst)=Vz 40:=by rw[hOPS];rfl
  have D32:(OPS[32]?).bind (·.dst)=Vz 57:=by rw[hOPS];rfl
  have D49:(OPS[49]?).bind (·.dst)=Vz 74:=by rw[hOPS];rfl
  clear hOPS;simp only[List.take_succ_cons,List.take_zero,List.drop_succ_cons,List.drop_zero];iterate 16 still_step
  iterate 15 (refine wpStill_step (λK hK=> ?_);(first|rw[if_neg (re rfl D15 rfl rfl)]|rw[if_pos (fL rfl D15 rfl rfl)]);go_simp;refine hK _ ?_;clear hK K)
  iterate 2 still_step
  iterate 15 (refine wpStill_step (λK hK=> ?_);(first|rw[if_neg (re rfl D32 rfl rfl)]|rw[if_pos (fL rfl D32 rfl rfl)]);go_simp;refine hK _ ?_;clear hK K)
  iterate 2 still_step
  iterate 15 (refine wpStill_step (λK hK=> ?_);(first|rw[if_neg (re rfl D49 rfl rfl)]|rw[if_pos (fL rfl D49 rfl rfl)]);go_simp;refine hK _ ?_;clear hK K)
  still_step
  refine wpStill_nil ?_;go_wp2;go_ret;exact⟨by rw[HV.o];simp,HX3.o⟩):p:=h
def Fh(w:Vt)(A:Option VT)(cap:Nat)(r:List Sd)(h:bJ 7 w w.heap.size A cap (aD r))(i:Nat)(hi:i<ln r)
  (A2:Option VT)(cap2:Nat)(r2:List Sd)(h2:bJ 7 w w.heap.size A2 cap2 (aD r2))(k:Nat)(hk:k<ln r2):
  VJ prog 172 #[VV A (ln r) cap,VZ VH (i:Int),VV A2 (ln r2) cap2,VZ VH (k:Int)] w λx w'=>x=V0 (VX (eo (lv r i) (lv r2 k)))/\Ext w w':=by
 have a1:=h.1;have a2:=h.2.1;have b1:=h2.1;have b2:=h2.2.1;rw[VC] at a1 b1;unfold VP at a2 b2;have KE:=Vs (mw w A cap r h i hi);have KF:=Vs (λ(W:Vt) (hx:Ext w W)=>mw W A2 cap2 r2 ((h2.below hx).more hx.size) k hk);obtain⟨b,off,rfl,hb,hc⟩:=fe h V7;obtain⟨b',off',rfl,hb',hc'⟩:=fe h2 V7;obtain⟨c0,c1,_⟩:=hc i hi;obtain⟨e0,e1,_⟩:=hc' k hk;have HB:=Vs hb;have HB':=Vs hb';obtain⟨x,hx⟩:∃x,(aQ r i).x=x:=⟨_,rfl⟩;obtain⟨y,hy⟩:∃y,(aQ r i).y=y:=⟨_,rfl⟩;obtain⟨u,hu⟩:∃u,(aQ r2 k).x=u:=⟨_,rfl⟩;obtain⟨v,hv⟩:∃v,(aQ r2 k).y=v:=⟨_,rfl⟩;have hq:eo (lv r i) (lv r2 k)=(decide (min (aq r i).x (aQ r i).x<=max (aq r2 k).x (aQ r2 k).x)&&decide (min (aq r2 k).x (aQ r2 k).x<=max (aq r i).x (aQ r i).x)&&decide (min (aq r i).y (aQ r i).y<=max (aq r2 k).y (aQ r2 k).y)&&decide (min (aq r2 k).y (aQ r2 k).y<=max (aq r i).y (aQ r i).y)):=rfl;obtain⟨vv,hvv⟩:∃vv,eo (lv r i) (lv r2 k)=vv:=⟨_,rfl⟩;rw[hvv] at hq⊢;rw[hx,hy,hu,hv] at hq;rw[hx,hy] at KE;simp only[hu,hv] at KF;obtain⟨ax,hax⟩:∃x,(aq r i).x=x:=⟨_,rfl⟩;obtain⟨ay,hay⟩:∃x,(aq r i).y=x:=⟨_,rfl⟩;obtain⟨bx,hbx⟩:∃x,(aq r2 k).x=x:=⟨_,rfl⟩;obtain⟨by',hby⟩:∃x,(aq r2 k).y=x:=⟨_,rfl⟩;rw[hax,hay,hbx,hby] at hq;rw[hax] at c0;rw[hay] at c1;rw[hbx] at e0;rw[hby] at e1;clear hvv hx hy hu hv hc hc' h h2 hb hb' hax hay hbx hby;obtain⟨m0,hm0⟩:∃m,min ax x=m:=⟨_,rfl⟩;obtain⟨m1,hm1⟩:∃m,max bx u=m:=⟨_,rfl⟩;obtain⟨m2,hm2⟩:∃m,min bx u=m:=⟨_,rfl⟩;obtain⟨m3,hm3⟩:∃m,max ax x=m:=⟨_,rfl⟩;obtain⟨m4,hm4⟩:∃m,min ay y=m:=⟨_,rfl⟩;obtain⟨m5,hm5⟩:∃m,max by' v=m:=⟨_,rfl⟩;obtain⟨m6,hm6⟩:∃m,min by' v=m:=⟨_,rfl⟩;obtain⟨m7,hm7⟩:∃m,max ay y=m:=⟨_,rfl⟩;rw[hm0,hm1,hm2,hm3,hm4,hm5,hm6,hm7] at hq;obtain⟨p1,lA⟩:∃p,decide (m0<=m1)=p:=⟨_,rfl⟩;obtain⟨p2,qw⟩:∃p,decide (m2<=m3)=p:=⟨_,rfl⟩;obtain⟨p3,hp3⟩:∃p,decide (m4<=m5)=p:=⟨_,rfl⟩;obtain⟨p4,hp4⟩:∃p,decide (m6<=m7)=p:=⟨_,rfl⟩;rw[lA,qw,hp3,hp4] at hq;have HV:=Vs hq;clear hq;cases p1
 ·exact tF
 cases p2
 ·exact tF
 cases p3
 ·exact tF
 exact tF
end
section
open Kp
def mo(rs:List (List Sd))(k m q u:Nat):Bool:=
 !((k==q)&&(decide (u<=m)||(u==m+1)||((m==0)&&((u:Int)==((rs.getD k []).length:Int)-1))))&&eo (lv (rs.getD k []) m) (lv (rs.getD q []) u)
def UR(rs:List (List Sd))(k m q:Nat):Prop:=∀u,u<(rs.getD q []).length->mo rs k m q u=Vw
def U6(rs:List (List Sd))(k m:Nat):Prop:=∀q,k<=q->q<ln rs->UR rs k m q
def Uh(rs:List (List Sd))(k:Nat):Prop:=∀m,m<(rs.getD k []).length->U6 rs k m
def Ri(rs:List (List Sd))(b:Bool):Prop:=
 (b=VD->∃k m q u,k<ln rs/\m<(rs.getD k []).length/\k<=q/\q<ln rs/\u<(rs.getD q []).length/\mo rs k m q u=VD)/\(b=Vw->∀k,k<ln rs->Uh rs k)
def jh{P:Nat->Prop}{n:Nat}(h:∀j,j<n->P j)(hn:P n):∀j,j<n+1->P j:=λj hj=>by
 rcases Nat.lt_succ_iff_lt_or_eq.1 hj with h'|rfl
 ·exact h j h'
 ·exact hn
theorem Nl(h:p:=by
  cases zz
  ·have hf:=HU.o (by rw[HH.o];simp);have HF4:=Vs hf;clear hf;go_wp2_with fail
   go_region_held3(λw'=>Ext wr w') (first|exact hx1|exact Ext.dr wr) (first|(go_at_call 172;go_must(refine(KQu.o _ (HX4.o.tr (Ext.dr wr))).mono ?_);rintro e W3 ⟨rfl,hX5⟩;have hx1:Ext wr W3:=(Ext.dr wr).tr hX5;clear hX5))
   go_wp2
   go_round
   case rel=>exact⟨u+1,by go_num,V7,HX4.o.tr hx1,HF4.o⟩
   case measure=>simp[VN];omega
  ·have ht:=HT.o (by rw[HH.o];simp);have HT4:=Vs ht;clear ht;go_wp2_with fail
   go_region_held3(λw'=>Ext wr w') (first|exact hx1|exact Ext.dr wr) (first|(go_at_call 172;go_must(refine(KQu.o _ (HX4.o.tr (Ext.dr wr))).mono ?_);rintro e W3 ⟨rfl,hX5⟩;have hx1:Ext wr W3:=(Ext.dr wr).tr hX5;clear hX5))
   go_wp2;go_ret;exact⟨⟨_,rfl,HT4.o⟩,HX4.o.tr hx1⟩):p:=h
theorem zx(h:p:=by
  have hf:=HU.o (by rw[HH.o];simp);have HF4:=Vs hf;clear hf;go_wp2;exact⟨⟨u+1,by go_num,V7,HX4.o,HF4.o⟩,Wc⟩):p:=h
def zU(w:Vt)(A:Option VT)(cap:Nat)(rs:List (List Sd))(hr:fj w w.heap.size A cap rs)(hp:0<ln rs)(hlen:∀k,(rs.getD k []).length<=1000000):
  VJ prog 107 #[VV A (ln rs) cap] w λx w'=>(∃b:Bool,x=V0 (VX b)/\Hid (Ri rs b))/\Ext w w':=by
 have h1:=hr.1;have h2:=hr.2.1;unfold VP at h2;obtain⟨b,off,f,rfl,hb,hf⟩:=FK hr hp;have HF:=Vs hf;have HLN:=Vs hlen;have KT:=Vs (λ(W:Vt) (h:Ext w W) (k:Nat) (hk:k<ln rs) (i:Nat) (hi:i<(rs.getD k []).length) (q:Nat) (hq:q<ln rs) (u:Nat) (hu:u<(rs.getD q []).length)=>Fh W (f k).1 (f k).2 (rs.getD k []) (hf W h k hk).2 i hi (f q).1 (f q).2 (rs.getD q []) (hf W h q hq).2 u hu);clear hr hf hlen;go_enter func107,ntmps107;go_wp2;go_loopw [3] (λi wr=>∃k:Nat,i=VZ VH (k:Int)/\k<=ln rs/\Ext w wr/\∀j,j<k->Uh rs j) (λi _=>((ln rs:Int)-VN i).toNat)
 case atStart=>exact⟨0,rfl,V7,Below.refl _ _,λj h=>V7⟩
 case round=>
  obtain⟨k,rfl,hk,hX,hA1⟩:=hrel;have HX:=Vs hX;have A1:=Vs hA1;clear hA1;by_cases hlt:k<ln rs
  ·obtain⟨n,hn⟩:∃n,(rs.getD k []).length=n:=⟨_,rfl⟩;obtain⟨fa,hfa⟩:∃x,(f k).1=x:=⟨_,rfl⟩;obtain⟨fc,hfc⟩:∃x,(f k).2=x:=⟨_,rfl⟩;have HC:=Vs (λW (h:Ext w W)=>(show W.cell? ⟨b,off+k,Vx⟩=Vz (VV fa n fc) by rw[<-hn,<-hfa,<-hfc];exact(HF.o W h k hlt).1));have hn6:n<=1000000:=hn▸HLN.o k;have HN:=Vs hn;have HA:=Vs hfa;have HCC:=Vs hfc;clear hX hn hfa hfc;go_wp2_with fail
   go_loopw [4] (λi wr=>∃m:Nat,i=VZ VH (m:Int)/\m<=n/\Ext w wr/\∀j,j<m->U6 rs k j) (λi _=>((n:Int)-VN i).toNat)
   case atStart=>exact⟨0,rfl,V7,HX.o,λj h=>V7⟩
   case round=>
    obtain⟨m,rfl,hm,hX2,hA2⟩:=hrel;have HX2:=Vs hX2;have A2:=Vs hA2;have c1:=HC.o _ hX2;clear hX2 hA2;by_cases hlt2:m<n
    ·go_wp2_with fail
     clear c1;go_loopw [5] (λi wr=>∃q:Nat,i=VZ VH (q:Int)/\q<=ln rs/\Ext w wr/\k<=q/\∀j,k<=j->j<q->UR rs k m j) (λi _=>((ln rs:Int)-VN i).toNat)
     case atStart=>exact⟨k,rfl,V7,HX2.o,Vu _,λj h1 h2=>V7⟩
     case round=>
      obtain⟨q,rfl,hq,hX3,hkq,hA3⟩:=hrel;have HX3:=Vs hX3;have A3:=Vs hA3;clear hX3 hA3;by_cases hlt3:q<ln rs
      ·obtain⟨n',hn'⟩:∃n,(rs.getD q []).length=n:=⟨_,rfl⟩;obtain⟨ga,hga⟩:∃x,(f q).1=x:=⟨_,rfl⟩;obtain⟨gc,hgc⟩:∃x,(f q).2=x:=⟨_,rfl⟩;have HD:=Vs (λW (h:Ext w W)=>(show W.cell? ⟨b,off+q,Vx⟩=Vz (VV ga n' gc) by rw[<-hn',<-hga,<-hgc];exact(HF.o W h q hlt3).1));have KQ:=KT.o;have KQ:=λ(W:Vt) (h:Ext w W)=>KT.o W h k hlt m (by rw[HN.o];exact hlt2) q hlt3
       simp only[hn',hga,hgc,HN.o,HA.o,HCC.o] at KQ;have KQ:=Vs KQ;have HN':=Vs hn';have hn7:n'<=1000000:=hn'▸HLN.o q;clear hn' hga hgc;go_wp2_with fail
       go_loopw [6] (λi wr=>∃u:Nat,i=VZ VH (u:Int)/\u<=n'/\Ext w wr/\∀j,j<u->mo rs k m q j=Vw) (λi _=>((n':Int)-VN i).toNat)
       case atStart=>exact⟨0,rfl,V7,HX3.o,λj h=>V7⟩
       case round=>
        obtain⟨u,rfl,hu,hX4,hA4⟩:=hrel;have HX4:=Vs hX4;have A4:=Vs hA4;have c1:=HC.o _ hX4;have c2:=HD.o _ hX4;clear hX4 hA4;by_cases hlt4:u<n'
        ·have KQu:=λW (h:Ext w W)=>KQ.o W h u hlt4
         obtain⟨zz,hzz⟩:∃z,eo (lv (rs.getD k []) m) (lv (rs.getD q []) u)=z:=⟨_,rfl⟩;simp only[hzz] at KQu;have KQu:=Vs KQu;have hit:mo rs k m q u=(!((k==q)&&(decide (u<=m)||(u==m+1)||((m==0)&&((u:Int)==(n:Int)-1))))&&zz):=by unfold mo;rw[hzz,HN.o]
         have HT:=Vs (λh:mo rs k m q u=VD=>(show Hid (Ri rs VD) from Vs ⟨λ_=>⟨k,m,q,u,hlt,by rw[HN.o];exact hlt2,hkq,hlt3,by rw[HN'.o];exact hlt4,h⟩,λh=>Wb⟩));have HU:=Vs (λh:mo rs k m q u=Vw=>jh (P:=λj=>mo rs k m q j=Vw) A4.o h);clear hzz;have w1:VH.wrap ((m:Int)+1)=(m:Int)+1:=VQ _ V7;have w2:VH.wrap ((n:Int)-1)=(n:Int)-1:=VQ _ V7;have a1:=λw' (h:Ext wr w')=>HC.o w' (HX4.o.tr h)
         have a2:=λw' (h:Ext wr w')=>HD.o w' (HX4.o.tr h)
         obtain⟨e1,t1⟩:∃e,((k:Int)==(q:Int))=e:=⟨_,rfl⟩;obtain⟨e2,t2⟩:∃e,decide ((u:Int)<=(m:Int))=e:=⟨_,rfl⟩;obtain⟨e3,t3⟩:∃e,((u:Int)==(m:Int)+1)=e:=⟨_,rfl⟩;obtain⟨e4,t4⟩:∃e,((m:Int)==0)=e:=⟨_,rfl⟩;obtain⟨e5,t5⟩:∃e,((u:Int)==(n:Int)-1)=e:=⟨_,rfl⟩;have s1:(k==q)=e1:=by rw[<-t1,Bool.eq_iff_iff,beq_iff_eq,beq_iff_eq];omega
         have s2:decide (u<=m)=e2:=by rw[<-t2];exact decide_eq_decide.2 V7
         have s3:(u==m+1)=e3:=by rw[<-t3,Bool.eq_iff_iff,beq_iff_eq,beq_iff_eq];omega
         have s4:(m==0)=e4:=by rw[<-t4,Bool.eq_iff_iff,beq_iff_eq,beq_iff_eq];omega
         rw[s1,s2,s3,s4,t5] at hit;have HH:=Vs hit;clear hit;cases e1
         ·exact Nl
         cases e2
         case true=>exact zx
         cases e3
         case true=>exact zx
         cases e4
         ·exact Nl
         cases e5
         ·exact Nl
         ·exact zx
        ·obtain rfl:u=n':=V7;have HQ:=Vs (show UR rs k m q fromλj hj=>A4.o j (by rw[<-HN'.o];exact hj));go_wp2;exact⟨⟨q+1,by go_num,V7,HX4.o,V7,λj h1 h2=>by
          rcases Nat.lt_succ_iff_lt_or_eq.1 h2 with h'|rfl
          ·exact A3.o j h1 h'
          ·exact HQ.o⟩,Wc⟩
      ·obtain rfl:q=ln rs:=V7;go_wp2;exact⟨⟨m+1,by go_num,V7,HX3.o,jh A2.o (λq hq hl=>A3.o q hq hl)⟩,Wc⟩
    ·obtain rfl:m=n:=V7;have HK:=Vs (show Uh rs k fromλj hj=>A2.o j (by rw[<-HN.o];exact hj));go_wp2;exact⟨⟨k+1,by go_num,V7,HX2.o,jh A1.o HK.o⟩,Wc⟩
  ·obtain rfl:k=ln rs:=V7;go_wp2;go_ret;exact⟨⟨_,rfl,Vs ⟨λh=>Wb,λ_=>A1.o⟩⟩,HX.o⟩
end
section
open Kp
def lV(r:List Sd)(m:Nat):Bool:=decide (lM r m<0)&&((eL r m).gable||(aq r m).gable||(eL r m).plate !=(aq r m).plate)
def qJ(rs:List (List Sd)):Bool:= !cz (λk=>cz (lV (rs.getD k [])) (rs.getD k []).length) (ln rs)&&ks rs (ln rs)
theorem Pr(h:p:=by
  intro i L vs W hi hL hI hd;have HI:=Vs hI;rcases(show i=0\/i=1\/i=2\/i=3\/i=4\/i=5\/i=6\/i=7\/i=8\/i=9\/i=10\/i=11\/i=12\/i=13\/i=14\/i=15\/i=16\/i=17 by omega) with rfl|rfl|rfl|rfl|rfl|rfl|rfl|rfl|rfl|rfl|rfl|rfl|rfl|rfl|rfl|rfl|rfl|rfl<;>clear hi hI
  ·exact a0P
  ·exact a0P
  ·exact a0P
  ·refine VE rfl (λK hK=> ?_);have d2:=HI.o.vals 2 (hd 2 V8) V9;simp only[pJ] at d2;go_simp;exact hK _ _ ⟨_,by simp[bA,pJ,d2],HI.o.pure V9 rfl⟩
  ·refine VE rfl (λK hK=> ?_);have d1:=HI.o.vals 1 (hd 1 V8) V9;simp only[pJ] at d1;have d3:=HI.o.vals 3 (hd 3 V8) V9;simp only[pJ] at d3;have w1:VH.wrap ((m:Int)+ln ring)=(m:Int)+ln ring:=VQ _ V7;go_simp;exact hK _ _ ⟨_,by simp[bA,pJ,d1,d3],HI.o.pure V9 rfl⟩
  ·refine VE rfl (λK hK=> ?_);have d4:=HI.o.vals 4 (hd 4 V8) V9;simp only[pJ] at d4;have w2:VH.wrap ((m:Int)+ln ring-1)=(m:Int)+ln ring-1:=VQ _ V7;go_simp;exact hK _ _ ⟨_,by simp[bA,pJ,d4],HI.o.pure V9 rfl⟩
  ·exact a0P
  ·refine VE rfl (λK hK=> ?_);have d6:=HI.o.vals 6 (hd 6 V8) V9;simp only[pJ] at d6;go_simp;exact hK _ _ ⟨_,by simp[bA,pJ,d6],HI.o.pure V9 rfl⟩
  ·refine VE rfl (λK hK=> ?_);have d5:=HI.o.vals 5 (hd 5 V8) V9;simp only[pJ] at d5;have d7:=HI.o.vals 7 (hd 7 V8) V9;simp only[pJ] at d7;have q1:=HQ1.o;have w3:VH.wrap (p:Int)=(p:Int):=VQ _ V7;have z1:((ln ring:Int)==0)=Vw:=beq_eq_false_iff_ne.2 V7;have z2:¬ring=[]:=by intro h;rw[h] at hlt2;simp at hlt2
   go_simp;exact hK _ _ ⟨_,by simp[bA,pJ,d5,d7],HI.o.pure V9 rfl⟩
  ·refine VE rfl (λK hK=> ?_);have d0:=HI.o.vals 0 (hd 0 V8) V9;simp only[pJ] at d0;have d8:=HI.o.vals 8 (hd 8 V8) V9;simp only[pJ] at d8;go_simp;exact hK _ _ ⟨_,by simp[bA,pJ,d0,d8],HI.o.pure V9 rfl⟩
  ·refine VE rfl (λK hK=> ?_);have d9:=HI.o.vals 9 (hd 9 V8) V9;simp only[pJ] at d9;obtain⟨y0,y1,y2,y3,y4,y5,y6⟩:=HC.o p hpl;have c0:=(HI.o.ext.cell (p:=⟨bk,ok+p*7,Vx⟩) HBK.o).trans y0;have c1:=(HI.o.ext.cell (p:=⟨bk,ok+p*7+1,Vx⟩) HBK.o).trans y1;have c2:=(HI.o.ext.cell (p:=⟨bk,ok+p*7+2,Vx⟩) HBK.o).trans y2;have c3:=(HI.o.ext.cell (p:=⟨bk,ok+p*7+3,Vx⟩) HBK.o).trans y3;have c4:=(HI.o.ext.cell (p:=⟨bk,ok+p*7+4,Vx⟩) HBK.o).trans y4;have c5:=(HI.o.ext.cell (p:=⟨bk,ok+p*7+5,Vx⟩) HBK.o).trans y5;have c6:=(HI.o.ext.cell (p:=⟨bk,ok+p*7+6,Vx⟩) HBK.o).trans y6;clear y0 y1 y2 y3 y4 y5 y6;go_simp;exact hK _ _ ⟨_,by simp[bA,pJ,d9],HI.o.pure V9 rfl⟩
  ·exact a0P
  ·exact a0P
  ·refine VE rfl (λK hK=> ?_);have d11:=HI.o.vals 11 (hd 11 V8) V9;simp only[pJ] at d11;have d12:=HI.o.vals 12 (hd 12 V8) V9;simp only[pJ] at d12;go_simp;exact hK _ _ ⟨_,by simp[bA,pJ,d11,d12],HI.o.pure V9 rfl⟩
  ·refine VE rfl (λK hK=> ?_);have d13:=HI.o.vals 13 (hd 13 V8) V9;simp only[pJ] at d13;obtain⟨y0,y1,y2,y3,y4,y5,y6⟩:=HC.o m hlt2;have c0:=(HI.o.ext.cell (p:=⟨bk,ok+m*7,Vx⟩) HBK.o).trans y0;have c1:=(HI.o.ext.cell (p:=⟨bk,ok+m*7+1,Vx⟩) HBK.o).trans y1;have c2:=(HI.o.ext.cell (p:=⟨bk,ok+m*7+2,Vx⟩) HBK.o).trans y2;have c3:=(HI.o.ext.cell (p:=⟨bk,ok+m*7+3,Vx⟩) HBK.o).trans y3;have c4:=(HI.o.ext.cell (p:=⟨bk,ok+m*7+4,Vx⟩) HBK.o).trans y4;have c5:=(HI.o.ext.cell (p:=⟨bk,ok+m*7+5,Vx⟩) HBK.o).trans y5;have c6:=(HI.o.ext.cell (p:=⟨bk,ok+m*7+6,Vx⟩) HBK.o).trans y6;clear y0 y1 y2 y3 y4 y5 y6;go_simp;exact hK _ _ ⟨_,by simp[bA,pJ,d13],HI.o.pure V9 rfl⟩
  ·refine VE rfl (λK hK=> ?_);go_simp;exact hK _ _ ⟨_,rfl,HI.o.Vc hL rfl rfl⟩
  ·refine VE rfl (λK hK=> ?_);go_simp;exact hK _ _ ⟨_,rfl,HI.o.Vn rfl⟩
  ·refine VE rfl (λK hK=> ?_);have d10:=HI.o.vals 10 (hd 10 V8) V9;simp only[pJ] at d10;have h15:=hd 15 V8;obtain⟨pa,e15,_,hr,_⟩:=HI.o.a h15;rw[if_neg (by rw[hL];decide)] at hr;exact wp_store_row 54 (.tmp 7) (.tmp 35) rfl pa (ni (aq ring p)).toArray e15 d10 54 _ hr V8 rfl V8 (hK _ _ ⟨VB,rfl,HI.o.store h15 e15⟩)):p:=h
theorem vK(h:p:=by
  have hv:=HF.o (by rw[BAD.o];simp);subst hv;go_wp2_with(first
   |(refine wpList_store_row rfl 54 _ _ rfl pb _ rfl rfl 54 _ RB.o V8 V8 V8 ?_)
   |(go_at_call 171;go_must(refine(KT.o _ (HX3.o.tr E2.o)).mono ?_);rintro x1 W3 ⟨rfl,hX4⟩;have HX4:=Vs (Ext.tr E2.o hX4);have ca:=λi=>(RA2.o.ext hX4).cell i;have cb:=λi=>(RB2.o.ext hX4).cell i;clear hX4))
  go_ret;exact⟨rfl,HX3.o.tr HX4.o⟩):p:=h
theorem AW(h:p:=by
  have hok:=HOK.o (by rw[BAD.o];simp);have HO:=Vs hok;clear hok;go_wp2_with(first
   |(refine wpList_store_row rfl 54 _ _ rfl pb _ rfl rfl 54 _ RB.o V8 V8 V8 ?_)
   |(go_at_call 171;go_must(refine(KT.o _ (HX3.o.tr E2.o)).mono ?_);rintro x1 W3 ⟨rfl,hX4⟩;have HX4:=Vs (Ext.tr E2.o hX4);have ca:=λi=>(RA2.o.ext hX4).cell i;have cb:=λi=>(RB2.o.ext hX4).cell i;clear hX4))
  go_round
  case rel=>exact⟨m+1,by rw[HG.o];simp,by go_num,V7,HX3.o.tr HX4.o,HO.o⟩
  case measure=>simp[VN];omega):p:=h
theorem Gf(h:p:=by
  have hok:=HOK.o (by rw[BAD.o];simp);have HO:=Vs hok;clear hok;go_wp2_with(first
   |(with_reducible show wpList _ _ _ ({dst:=Vz 45,op:=_,type:=_,pos:=_,after:=_,guard:=_}::_) _ _;refine wpList_skip V8 ?_)
   |(with_reducible show wpList _ _ _ ({dst:=Vz 46,op:=_,type:=_,pos:=_,after:=_,guard:=_}::_) _ _;refine wpList_skip V8 ?_)
   |(with_reducible show wpList _ _ _ ({dst:=Vz 47,op:=_,type:=_,pos:=_,after:=_,guard:=_}::_) _ _;refine wpList_skip V8 ?_)
   |(with_reducible show wpList _ _ _ ({dst:=Vz 48,op:=_,type:=_,pos:=_,after:=_,guard:=_}::_) _ _;refine wpList_skip V8 ?_)
   |(with_reducible show wpList _ _ _ ({dst:=Vz 49,op:=_,type:=_,pos:=_,after:=_,guard:=_}::_) _ _;refine wpList_skip V8 ?_)
   |(with_reducible show wpList _ _ _ ({dst:=Vz 50,op:=_,type:=_,pos:=_,after:=_,guard:=_}::_) _ _;refine wpList_skip V8 ?_)
   |(with_reducible show wpList _ _ _ ({dst:=Vz 51,op:=_,type:=_,pos:=_,after:=_,guard:=_}::_) _ _;refine wpList_skip V8 ?_)
   |(with_reducible show wpList _ _ _ ({dst:=Vz 52,op:=_,type:=_,pos:=_,after:=_,guard:=_}::_) _ _;refine wpList_skip V8 ?_)
   |(with_reducible show wpList _ _ _ ({dst:=Vz 53,op:=_,type:=_,pos:=_,after:=_,guard:=_}::_) _ _;refine wpList_skip V8 ?_)
   |(with_reducible show wpList _ _ _ ({dst:=Vz 54,op:=_,type:=_,pos:=_,after:=_,guard:=_}::_) _ _;refine wpList_skip V8 ?_)
   |(with_reducible show wpList _ _ _ ({dst:=Vz 55,op:=_,type:=_,pos:=_,after:=_,guard:=_}::_) _ _;refine wpList_skip V8 ?_)
   |(with_reducible show wpList _ _ _ ({dst:=Vz 56,op:=_,type:=_,pos:=_,after:=_,guard:=_}::_) _ _;refine wpList_skip V8 ?_)
   |(with_reducible show wpList _ _ _ ({dst:=Vz 57,op:=_,type:=_,pos:=_,after:=_,guard:=_}::_) _ _;refine wpList_skip V8 ?_)
   |(refine wpList_store_row rfl 54 _ _ rfl pb _ rfl rfl 54 _ RB.o V8 V8 V8 ?_)
   |(go_at_call 171;go_must(refine(KT.o _ (HX3.o.tr E2.o)).mono ?_);rintro x1 W3 ⟨rfl,hX4⟩;have HX4:=Vs (Ext.tr E2.o hX4);have ca:=λi=>(RA2.o.ext hX4).cell i;have cb:=λi=>(RB2.o.ext hX4).cell i;clear hX4))
  go_round
  case rel=>exact⟨m+1,by rw[HG.o];simp,by go_num,V7,HX3.o.tr HX4.o,HO.o⟩
  case measure=>simp[VN];omega):p:=h
theorem Qa(h:p:=by
  intro L vs W hL hI;have v14:=hI.vals 14 (hL 14 V7) V9;simp only[pJ] at v14;obtain⟨pa,e15,hpa,ra,hab⟩:=hI.a (hL 15 V7);rw[if_pos (hL 17 V7)] at ra;obtain⟨pb,e16,hpb,rb⟩:=hI.b (hL 16 V7);have hab:pa≠pb:=λe=>hab (hL 16 V7) (by rw[e16,e])
  have HD:=Vs hI.ext;have RA:=Vs ra;have RB:=Vs rb;clear hI ra rb;simp only[v14,e15,e16,List.drop_succ_cons,List.drop_zero];clear v14 e15 e16;have E2:=Vs (ah HD.o hpb (ni (aq ring m)).toArray);have RA2:=Vs (show ai (W.setRow pb (ni (aq ring m)).toArray) pa 54 (ni (aq ring p)) from(by
   have:(W.setRow pb (ni (aq ring m)).toArray).heap[pa]?=W.heap[pa]?:=by simp only[World.setRow,Array.getElem?_modify];rw[if_neg (Ne.symm hab)]
   exact this.trans RA.o))
  have RB2:=Vs (show ai (W.setRow pb (ni (aq ring m)).toArray) pb 54 (ni (aq ring m)) from setRow_heap RB.o _);obtain⟨sa,hsa⟩:∃x,aq ring p=x:=⟨_,rfl⟩;obtain⟨sb,hsb⟩:∃x,aq ring m=x:=⟨_,rfl⟩;have bad:=BAD0.o;have hgs:=HG2.o;rw[hsa,hsb] at bad;rw[hsb] at hgs;rw[ht] at bad;rw[hsa,hsb] at RA2;rw[hsb] at RB2 E2;rw[hsb];obtain⟨ax,ay,arise,arun,ag,apl,aov⟩:=sa;obtain⟨bx,by',brise,brun,bg,bpl,bov⟩:=sb;clear hsa hsb HC HQ1;have BAD:=Vs bad;have HG:=Vs hgs;clear bad hgs;cases t
  ·cases o2
   ·exact Gf
   ·exact Gf
  ·cases ag
   case true=>exact vK
   cases bg
   case true=>exact vK
   by_cases hap:apl=bpl
   ·subst hap;cases o2
    ·exact AW
    ·exact AW
   ·have tp:(apl !=bpl)=VD:=bne_iff_ne.2 hap;rw[tp] at BAD;clear hap;exact vK):p:=h
def AZ(w:Vt)(A:Option VT)(cap:Nat)(rs:List (List Sd))(hr:fj w w.heap.size A cap rs)(hp:0<ln rs)(hlen:∀k,(rs.getD k []).length<=1000000):
  VJ prog 109 #[VV A (ln rs) cap] w λx w'=>x=V0 (VX (qJ rs))/\Ext w w':=by
 have h1:=hr.1;have h2:=hr.2.1;unfold VP at h2;obtain⟨b,off,f,rfl,hb,hf⟩:=FK hr hp;have HF0:=Vs hf;have HLEN:=Vs hlen;clear hr hf hlen;obtain⟨v,hv⟩:∃v,qJ rs=v:=⟨_,rfl⟩;rw[hv];have HV:=Vs hv;clear hv;obtain⟨G,hG⟩:∃G,ks rs=G:=⟨_,rfl⟩;have HGG:=Vs hG;have G0:=Vs (show G 0=Vw by rw[<-hG];rfl);clear hG;go_enter func109,ntmps109;go_wp2;go_loopw [3,4] (λs i wr=>∃k:Nat,s=VX (G k)/\i=VZ VH (k:Int)/\k<=ln rs/\Ext w wr/\∀j,j<k->cz (lV (rs.getD j [])) (rs.getD j []).length=Vw) (λ_ i _=>((ln rs:Int)-VN i).toNat)
 case atStart=>exact⟨0,by rw[G0.o],rfl,V7,Below.refl _ _,λj h=>V7⟩
 case round=>
  obtain⟨k,rfl,rfl,hk,hX,hA1⟩:=hrel;have HX:=Vs hX;have A1:=Vs hA1;clear hA1;by_cases hlt:k<ln rs
  ·have c0:=(HF0.o wr hX k hlt).1;have HG1:=Vs (show G (k+1)=(G k||mg (rs.getD k []) (rs.getD k []).length) by rw[<-HGG.o];rfl);have HB1:=Vs (λh:cz (lV (rs.getD k [])) (rs.getD k []).length=VD=>show v=Vw by rw[<-HV.o];unfold qJ;rw[dI (p:=λk=>cz (lV (rs.getD k [])) (rs.getD k []).length) hlt h];rfl);have HA1:=Vs (λh:cz (lV (rs.getD k [])) (rs.getD k []).length=Vw=>jh (P:=λj=>cz (lV (rs.getD j [])) (rs.getD j []).length=Vw) A1.o h);obtain⟨ring,hring⟩:∃r,rs.getD k []=r:=⟨_,rfl⟩;rw[hring] at HG1 HB1 HA1;have HR:=Vs (λW (h:Ext w W)=>hring▸(HF0.o W h k hlt).2:∀W,Ext w W->bJ 7 W W.heap.size (f k).1 (f k).2 (aD ring));have hrl:ln ring<=1000000:=hring▸HLEN.o k;have hrc:ln ring<=(f k).2:=by have:=(HR.o wr hX).1;rw[VC] at this;exact this
   have hrm:=(HR.o wr hX).2.1;unfold VP at hrm;rw[hring] at c0;obtain⟨fa,hfa⟩:∃x,(f k).1=x:=⟨_,rfl⟩;obtain⟨fc,hfc⟩:∃x,(f k).2=x:=⟨_,rfl⟩;simp only[hfa,hfc] at c0 HR hrc hrm;obtain⟨gk,hgk⟩:∃x,G k=x:=⟨_,rfl⟩;rw[hgk] at HG1⊢;clear hX hring hfa hfc hgk;obtain⟨g,hg⟩:∃g:Nat->Bool,(λm=>gk||mg ring m)=g:=⟨_,rfl⟩;have HGS:=Vs (show∀m,g (m+1)=(g m|| !(aq ring m).gable) by rw[<-hg];intro m;show(gk||(mg ring m|| !(aq ring m).gable))=_;rw[Bool.or_assoc]);have HG0:=Vs (show g 0=gk by rw[<-hg];show(gk||Vw)=gk;simp);have HGE:=Vs (show G (k+1)=g (ln ring) by rw[<-hg];exact HG1.o);clear hg;go_wp2_with fail
   go_loopw [3,6] (λs i wr=>∃m:Nat,s=VX (g m)/\i=VZ VH (m:Int)/\m<=ln ring/\Ext w wr/\∀j,j<m->lV ring j=Vw) (λ_ i _=>((ln ring:Int)-VN i).toNat)
   case atStart=>exact⟨0,by rw[HG0.o],rfl,V7,HX.o,λj h=>V7⟩
   case round=>
    obtain⟨m,rfl,rfl,hm,hX3,hA2⟩:=hrel;have HX3:=Vs hX3;have A2:=Vs hA2;clear hA2;by_cases hlt2:m<ln ring
    ·obtain⟨bk,ok,rfl,hbk,hck⟩:=fe (HR.o _ hX3) V7;have HF:=Vs (λh:lV ring m=VD=>HB1.o (dI hlt2 h));have HOK:=Vs (λh:lV ring m=Vw=>jh (P:=λj=>lV ring j=Vw) A2.o h);have bad:lV ring m=(decide (lM ring m<0)&&((aq ring ((m+ln ring-1)%ln ring)).gable||(aq ring m).gable||(aq ring ((m+ln ring-1)%ln ring)).plate !=(aq ring m).plate)):=rfl;have hgs:=HGS.o m;obtain⟨p,hpe⟩:∃p,(m+ln ring-1)%ln ring=p:=⟨_,rfl⟩;rw[hpe] at bad;have hpl:p<ln ring:=by rw[<-hpe];exact Nat.mod_lt _ V7
     have q1:((m:Int)+ln ring-1).tmod (ln ring:Int)=(p:Int):=by rw[Int.tmod_eq_emod_of_nonneg V7,show((m:Int)+ln ring-1)=((m+ln ring-1:Nat):Int) by omega,<-hpe];rfl
     have HQ1:=Vs q1;have KT:=Vs (λ(W:Vt) (hx:Ext w W)=>tY W _ fc ring (HR.o W hx) hrl m hlt2);have HC:=Vs hck;have HBK:=Vs hbk;obtain⟨q,hq⟩:∃q,lM ring m=q:=⟨_,rfl⟩;simp only[hq] at KT;rw[hq] at bad;obtain⟨o2,ho2⟩:∃x,g m=x:=⟨_,rfl⟩;rw[ho2] at hgs⊢;have BAD0:=Vs bad;have HG2:=Vs hgs;clear hX3 hck hbk hq hpe q1 bad hgs ho2;obtain⟨t,ht⟩:∃t,decide (q<0)=t:=⟨_,rfl⟩;go_wp2_with fail
     refine wp_region_any V8 (cn 18 (λvs=>⟨#[VV (Vz ⟨b,off,Vx⟩) (ln rs) cap,VB,u2,VX o2,VZ VH (k:Int),VV (Vz ⟨bk,ok,Vx⟩) (ln ring) fc,VZ VH (m:Int),vs 15,vs 16,VZ VH (k:Int),VV (Vz ⟨b,off,Vx⟩) (ln rs) cap,VZ VH (ln rs:Int),VX VD,u13,u14,VV (Vz ⟨b,off,Vx⟩) (ln rs) cap,VZ VH (k:Int),VY (Vz ⟨b,off+k,Vx⟩),VV (Vz ⟨bk,ok,Vx⟩) (ln ring) fc,VZ VH (m:Int),VV (Vz ⟨bk,ok,Vx⟩) (ln ring) fc,VZ VH (ln ring:Int),VX VD,u23,u24,vs 0,vs 1,vs 2,vs 3,vs 4,vs 5,vs 6,vs 7,vs 8,vs 9,vs 10,vs 11,vs 12,vs 13,vs 14,u40,u41,u42,u43,u44,u45,u46,u47,u48,u49,u50,u51,u52,u53,u54,u55,u56,u57,u58,u59,u60,u61,u62,u63,u64,VB],[]⟩)
      (λL vs W=>DJ wr 54 (ni Qp) (ni (aq ring p)) (pJ bk ok (ln ring) fc m p ring) L vs W) V8 ?_ ?_ (λi=>match i with|0=>u25|1=>u26|2=>u27|3=>u28|4=>u29|5=>u30|6=>u31|7=>u32|8=>u33|9=>u34|10=>u35|11=>u36|12=>u37|13=>u38|14=>u39|15=>u7|16=>u8|_=>VB) _ (DJ.start (Ext.dr wr) _))
     ·exact Pr
     ·exact Qa
    ·obtain rfl:m=ln ring:=V7;have hk1:=HA1.o (bh A2.o);have HK1:=Vs hk1;clear hk1;go_wp2;exact⟨⟨k+1,by rw[HGE.o],by go_num,V7,HX3.o,HK1.o⟩,Wc⟩
  ·obtain rfl:k=ln rs:=V7;have hv:v=G (ln rs):=by rw[<-HV.o,<-HGG.o];unfold qJ;rw[bh A1.o];simp
   subst hv;exact ZR
end
end Go.Proofs.YtmliacdegmklaaaGreatDoor
