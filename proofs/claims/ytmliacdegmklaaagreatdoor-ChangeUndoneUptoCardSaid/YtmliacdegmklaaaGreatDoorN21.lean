/- ChangeUndone of kingpostlaw58: part 21 of its proof (merged and shortened by program). -/
import Derived.Test.YtmliacdegmklaaaGreatDoorRows
import Derived.Test.YtmliacdegmklaaaGreatDoorN18
set_option linter.unusedVariables false
set_option linter.unusedSimpArgs false
set_option linter.defProp false
set_option maxHeartbeats 8000000
set_option maxRecDepth 100000
open Go.RowKit Go.Shelf Go.Proofs.Tryz
open Array renaming getElem?_eq_some_iff→VF
open Bool renaming false→Vw,true→VD
open Go renaming World→Vt,Value→Vy,undef→VB,wpOp_step→VE,Calls→VJ,maxLen→VP,TypeId→VR,Addr→VT
open Go.AllReady renaming cons→VO,nil→VU
open Go.Ending renaming returned→V0
open Go.IntKind renaming i64→VH
open Go.IntWalk renaming i64_in→VQ
open Go.Lib renaming hid→Vs
open Go.RowKit renaming intOf→VN,Below→VS
open Go.Value renaming slice→VV,string→VW,bool→VX,pointer→VY,int→VZ,agg→V5,tuple→V6
open Go.World renaming alloc_heap_new→VG,size_alloc→VK
open List renaming getD_eq_getElem?_getD→Vv,getElem?_eq_getElem→VA,length_map→VC,length_append→VM,length→ln
open Nat renaming le_refl→Vu,le_trans→VI,mul_comm→VL
open Option renaming none→Vx,some→Vz
open Go.Proofs.YtmliacdegmklaaaGreatDoor
variable{k n:Nat}{T:Type}{c:Vy}
namespace Go.Proofs.YtmliacdegmklaaaGreatDoor
section
open Kp Go.ChangeShapes Go.WideShapes Go.Deep
def I6:prog.cellsOf 34=15:=V8
def IX:prog.cellsOf 24=1:=V8
def Jp:prog.cellsOf 22=1:=V8
def IV:prog.cellsOf 80=1:=V8
def Hf:prog.cellsOf 25=1:=V8
def IZ:prog.cellsOf 26=1:=V8
def IC:prog.cellsOf 27=1:=V8
def Iu:prog.cellsOf 28=1:=V8
def Ih:prog.cellsOf 31=1:=V8
def IW:prog.cellsOf 32=1:=V8
section
variable {H : Type} {enc : VR × Vy → H} {w : Vt} {base : Nat} {sp : Nat → Bool} {held : Bool}
def Ha{a:VT}{v:Vy}(h:w.cell? a=Vz v):a.spot=Vx:=by
 unfold World.cell? at h;split at h
 ·split at h
  ·cases h
  ·rename_i hh;simpa using hh
 ·cases h
def Mg(d:DataW H):1<=Rows.uptoBulk d:=by
 cases d with
 |lit l=>cases l<;>simp[Rows.uptoBulk]
 |_=>simp[Rows.uptoBulk]
def nH(l:List (DataW H)):ln l<=Rows.uptoBulkAll l:=by
 induction l with
 |nil=>simp
 |cons d l ih=>simp only[List.length_cons,Rows.uptoBulkAll];have:=Mg d;omega
def tW{l:List (DataW H)}{d:DataW H}(h:d∈l):Rows.uptoBulk d<=Rows.uptoBulkAll l:=by
 induction l with
 |nil=>cases h
 |cons e l ih=>
  simp only[Rows.uptoBulkAll];rcases List.mem_cons.1 h with rfl|h
  ·omega
  ·have:=ih h;omega
theorem fl{st et:VR}(hu:prog.underlying st=Vz (.slice et))(hk:prog.cellsOf et=k)(hk0:0<k)(row:T->List Vy)(t0:T)(P:T->DataW H->Prop)
  (open1:∀(n:Nat) (cs:List Vy) (y:DataW H×List MemPlace),ln cs=k->DataW.trod enc prog w base sp held n et cs=Vz y->∃t,cs=row t/\P t y.1)
  {x:DataW H×List MemPlace}(h:DataW.trod enc prog w base sp held n st [c]=Vz x):
  ∃(A:Option VT) (cap:Nat) (l:List T),c= .slice A (ln l) cap/\bJ k w w.heap.size A cap (l.map row)/\∃ds:List (DataW H),ln ds=ln l/\Rows.uptoBulkAll ds<=Rows.uptoBulk x.1/\∀(i:Nat) d,ds[i]?=Vz d->P (l.getD i t0) d:=by
 rcases open_slice hu h with⟨hc,_⟩|⟨a,len,cap,m,n',D,Pl,hc,hb,hl,hm,hmm,hx,hi⟩
 ·obtain rfl:c= .slice Vx 0 0:=by simpa using hc
  exact⟨Vx,0,[],rfl,⟨Wa,by simp[VP],λh=>by simp at h⟩,[],rfl,Nat.zero_le _,λi d h=>by simp at h⟩
 ·obtain rfl:c= .slice (Vz a) len cap:=by simpa using hc
  have hml:len<=m:=by rw[hmm];split <;>omega
  have each:∀i,i<len->∃t:T,(∀j,j<k->w.cell? ((a.add (i*k)).add j)=(row t)[j]?)/\P t (D i):=by
   intro i hil;obtain⟨cs',hcs,ht⟩:=hi i V7;rw[hk] at hcs;obtain⟨_,hlen,hat⟩:=Vt.cells?_some hcs;obtain⟨t,rfl,hp⟩:=open1 _ _ _ hlen ht;exact⟨t,hat,hp⟩
  have hch:∃f:Nat->T,∀i,i<len->(∀j,j<k->w.cell? ((a.add (i*k)).add j)=(row (f i))[j]?)/\P (f i) (D i):=
   ⟨λi=>if h:i<len then Classical.choose (each i h) else t0,λi hil=>by
    have:=Classical.choose_spec (each i hil);simpa only[dif_pos hil] using this⟩
  obtain⟨f,hf⟩:=hch;have hat:∀i,i<len->((List.range len).map f).getD i t0=f i:=λi hil=>by simp[List.getD,hil]
  refine⟨Vz a,cap,(List.range len).map f,Wa,⟨XI,hm,λh0=> ?_⟩,(List.range len).map D,Wa,?_,λi d hd=> ?_⟩
  ·have h0':0<len:=by simpa using h0
   have hrow:∃v,(row (f 0))[0]?=Vz v:=by
    obtain⟨cs',hcs,ht⟩:=hi 0 V7;rw[hk] at hcs;obtain⟨_,hlen,hat2⟩:=Vt.cells?_some hcs;have h1:=(hf 0 h0').1 0 hk0;rw[hat2 0 hk0] at h1;exact⟨cs'[0]'V7,h1.symm.trans (VA V7)⟩
   obtain⟨v,hv⟩:=hrow;obtain⟨b,o,s⟩:=a;have hc0:=(hf 0 h0').1 0 hk0;rw[hv] at hc0;have hs:s=Vx:=by
    have:=Ha hc0;cases s with
    |none=>rfl
    |some z=>exfalso;simp[VT.add] at this
   subst hs;rw[addr_add,addr_add] at hc0;refine⟨b,o,rfl,Vt.block_lt_of_cell? w _ hc0,λi hil j hj=> ?_⟩;have hil':i<len:=by simpa using hil
   have:=(hf i hil').1 j hj;rw[addr_add,addr_add,VL] at this;have e:(((List.range len).map f).map row).getD i []=row (f i):=by rw[Vv,List.getElem?_map,List.getElem?_map,List.getElem?_range hil'];rfl
   rw[this,e]
  ·rw[hx];simp only[Rows.uptoBulk];omega
  ·have hil:i<len:=by
    have:=(List.getElem?_eq_some_iff.1 hd).1;exact XY
   rw[hat i hil];have:d=D i:=by rw[List.getElem?_map,List.getElem?_range hil] at hd;simpa using hd.symm
   rw[this];exact(hf i hil).2
theorem BF{x:DataW H×List MemPlace}(h:DataW.trod enc prog w base sp held n 25 [c]=Vz x):
  ∃(A:Option VT) (cap:Nat) (l:List Int),c= .slice A (ln l) cap/\bJ 1 w w.heap.size A cap (bG l):=by
 obtain⟨A,cap,l,h1,h2,_⟩:=fl underlying25 aN V9 (λn:Int=>[Value.int .i64 n]) 0 (λ_ _=>True) (λn cs y hl ht=>by
  match cs,hl with
  |[c],_=>obtain⟨k,rfl,_⟩:=cT ht;exact⟨k,rfl,trivial⟩) h
 exact⟨A,cap,l,h1,h2⟩
theorem BN{x:DataW H×List MemPlace}(h:DataW.trod enc prog w base sp held n 80 [c]=Vz x):
  ∃(A:Option VT) (cap:Nat) (l:List Sd),c= .slice A (ln l) cap/\bJ 7 w w.heap.size A cap (aD l)/\ln l<=Rows.uptoBulk x.1:=by
 obtain⟨A,cap,l,h1,h2,ds,h3,h4,_⟩:=fl underlying80 xM V9 ni ⟨0,0,0,0,Vw,0,0⟩ (λ_ _=>True) (λn cs y hl ht=>by
  match cs,hl with
  |[c0,c1,c2,c3,c4,c5,c6],_=>obtain⟨a0,a1,a2,a3,a4,a5,a6,rfl,_,rfl,_,rfl,_,rfl,_,rfl,rfl,_,rfl,_⟩:=xT ht;exact⟨⟨a0,a1,a2,a3,a4,a5,a6⟩,rfl,trivial⟩) h
 exact⟨A,cap,l,h1,h2,by have:=nH ds;omega⟩
theorem DF{x:DataW H×List MemPlace}(h:DataW.trod enc prog w base sp held n 26 [c]=Vz x):
  ∃(A:Option VT) (cap:Nat) (l:List kN),c= .slice A (ln l) cap/\bJ 5 w w.heap.size A cap (bw l)/\ln l<=Rows.uptoBulk x.1:=by
 obtain⟨A,cap,l,h1,h2,ds,h3,h4,_⟩:=fl underlying26 xX V9 vV eB (λ_ _=>True) (λn cs y hl ht=>by
  match cs,hl with
  |[c0,c1,c2,c3,c4],_=>obtain⟨a0,a1,a2,a3,a4,rfl,_,rfl,rfl,rfl,rfl⟩:=qy ht;exact⟨⟨a0,a1,a2,a3,a4⟩,rfl,trivial⟩) h
 exact⟨A,cap,l,h1,h2,by have:=nH ds;omega⟩
theorem Dp{x:DataW H×List MemPlace}(h:DataW.trod enc prog w base sp held n 27 [c]=Vz x):
  ∃(A:Option VT) (cap:Nat) (l:List Sz),c= .slice A (ln l) cap/\bJ 3 w w.heap.size A cap (bL l)/\ln l<=Rows.uptoBulk x.1:=by
 obtain⟨A,cap,l,h1,h2,ds,h3,h4,_⟩:=fl underlying27 yd V9 GF ⟨0,0,0⟩ (λ_ _=>True) (λn cs y hl ht=>by
  match cs,hl with
  |[c0,c1,c2],_=>obtain⟨a0,a1,a2,rfl,_,rfl,_,rfl,_⟩:=ym ht;exact⟨⟨a0,a1,a2⟩,rfl,trivial⟩) h
 exact⟨A,cap,l,h1,h2,by have:=nH ds;omega⟩
theorem Du{x:DataW H×List MemPlace}(h:DataW.trod enc prog w base sp held n 31 [c]=Vz x):
  ∃(A:Option VT) (cap:Nat) (l:List Ld),c= .slice A (ln l) cap/\bJ 3 w w.heap.size A cap (bW l)/\ln l<=Rows.uptoBulk x.1:=by
 obtain⟨A,cap,l,h1,h2,ds,h3,h4,_⟩:=fl underlying31 yp V9 Qr po (λ_ _=>True) (λn cs y hl ht=>by
  match cs,hl with
  |[c0,c1,c2],_=>obtain⟨a0,a1,a2,rfl,_,rfl,_,rfl⟩:=wW ht;exact⟨⟨a0,a1,a2⟩,rfl,trivial⟩) h
 exact⟨A,cap,l,h1,h2,by have:=nH ds;omega⟩
theorem Cj{x:DataW H×List MemPlace}(h:DataW.trod enc prog w base sp held n 32 [c]=Vz x):
  ∃(A:Option VT) (cap:Nat) (l:List Aw),c= .slice A (ln l) cap/\bJ 5 w w.heap.size A cap (bF l)/\ln l<=Rows.uptoBulk x.1:=by
 obtain⟨A,cap,l,h1,h2,ds,h3,h4,_⟩:=fl underlying32 wY V9 j9 ⟨0,0,0,0,0⟩ (λ_ _=>True) (λn cs y hl ht=>by
  match cs,hl with
  |[c0,c1,c2,c3,c4],_=>obtain⟨a0,a1,a2,a3,a4,rfl,_,rfl,_,rfl,_,rfl,_,rfl,_⟩:=qE ht;exact⟨⟨a0,a1,a2,a3,a4⟩,rfl,trivial⟩) h
 exact⟨A,cap,l,h1,h2,by have:=nH ds;omega⟩
theorem Hp{x:DataW H×List MemPlace}(h:DataW.trod enc prog w base sp held n 28 [c]=Vz x):
  ∃(A:Option VT) (cap:Nat) (l:List Br),c= .slice A (ln l) cap/\fT w w.heap.size A cap l:=by
 obtain⟨A,cap,l,h1,⟨h2,h3,h4⟩,ds,h5,_,h7⟩:=fl underlying28 yb V9 (λt:Br×Option VT×Nat=>qU t.1 t.2.1 t.2.2) (oN,Vx,0) (λt _=>bJ 2 w w.heap.size t.2.1 t.2.2 (di t.1.gaps)) (λn cs y hl ht=>by
  match cs,hl with
  |[c0,c1,c2,c3,c4,c5],_=>obtain⟨a0,a1,a2,a3,a4,ga,gc,gl,rfl,_,rfl,_,rfl,_,rfl,_,rfl,_,rfl,hg,_⟩:=C4 ht;exact⟨(⟨a0,a1,a2,a3,a4,gl⟩,ga,gc),rfl,Ac hg⟩) h
 refine⟨A,cap,l.map (·.1),by rw[VC];exact h1,by rw[VC];simpa using h2,h3,λh0=> ?_⟩;rw[VC] at h0;obtain⟨b,off,e,hb,hc⟩:=h4 XD;refine⟨b,off,e,hb,λi hi=> ?_⟩;rw[VC] at hi;have e1:(l.map (·.1)).getD i oN=(l.getD i (oN,Vx,0)).1:=by rw[Vv,Vv,List.getElem?_map,VA hi];rfl
 refine⟨(l.getD i (oN,Vx,0)).2.1,(l.getD i (oN,Vx,0)).2.2,λj hj=> ?_,?_⟩
 ·rw[hc i Xi j hj,e1,Vv,Vv,List.getElem?_map,VA hi];rfl
 ·rw[e1];exact h7 i (ds[i]'V7) (VA V7)
theorem wV(f:T->Nat)(t0:T):∀(l:List T) (ds:List (DataW H)),ln ds=ln l->(∀(i:Nat) d,ds[i]?=Vz d->f (l.getD i t0)<=Rows.uptoBulk d)->(l.map f).sum<=Rows.uptoBulkAll ds
 |[],_,_,_=>Wa
 |t::l,[],h,_=>by simp at h
 |t::l,d::ds,h,hi=>by
  have h0:=hi 0 d rfl;have ih:=wV f t0 l ds WB (λi d hd=>hi (i+1) d hd);simp only[List.map_cons,List.sum_cons,Rows.uptoBulkAll];simp at h0;omega
theorem Fi{x:DataW H×List MemPlace}(h:DataW.trod enc prog w base sp held n 22 [c]=Vz x):
  ∃(A:Option VT) (cap:Nat) (rs:List (List Sd)),c= .slice A (ln rs) cap/\fj w w.heap.size A cap rs/\ln rs.flatten<=Rows.uptoBulk x.1:=by
 obtain⟨A,cap,l,h1,⟨h2,h3,h4⟩,ds,h5,h6,h7⟩:=fl underlying22 IV V9 (λt:List Sd×Option VT×Nat=>[Value.slice t.2.1 (ln t.1) t.2.2]) ([],Vx,0) (λt d=>bJ 7 w w.heap.size t.2.1 t.2.2 (aD t.1)/\ln t.1<=Rows.uptoBulk d) (λn cs y hl ht=>by
  match cs,hl with
  |[c0],_=>obtain⟨A,cap,l,rfl,hs,hb⟩:=BN ht;exact⟨(l,A,cap),rfl,hs,hb⟩) h
 refine⟨A,cap,l.map (·.1),by rw[VC];exact h1,⟨by rw[VC];simpa using h2,h3,λh0=> ?_⟩,?_⟩
 ·rw[VC] at h0;obtain⟨b,off,e,hb,hc⟩:=h4 XD;refine⟨b,off,e,hb,λi hi=> ?_⟩;rw[VC] at hi;have e1:(l.map (·.1)).getD i []=(l.getD i ([],Vx,0)).1:=by rw[Vv,Vv,List.getElem?_map,VA hi];rfl
  refine⟨(l.getD i ([],Vx,0)).2.1,(l.getD i ([],Vx,0)).2.2,?_,?_⟩
  ·have:=hc i Xi 0 V9;rw[Nat.one_mul,Nat.add_zero] at this;rw[this,e1,Vv,Vv,List.getElem?_map,VA hi];rfl
  ·rw[e1];exact(h7 i (ds[i]'V7) (VA V7)).1
 ·rw[List.length_flatten,List.map_map];exact VI (wV (λt:List Sd×Option VT×Nat=>ln t.1) ([],Vx,0) l ds h5 (λi d hd=>(h7 i d hd).2)) h6
theorem Hq{l:List Vy}{x:DataW H×List MemPlace}(hl:ln l=15)(hf:DataW.trod enc prog w base sp held n 34 l=Vz x):
  ∃(j:bI) (a:dS),l=(cQ j a).toList/\fg w w.heap.size j a/\ln j.rings.flatten<=Rows.uptoBulk x.1:=by
 obtain⟨c0,l0,rfl,h0⟩:=ae hl;obtain⟨c1,l1,rfl,h1⟩:=ae h0;obtain⟨c2,l2,rfl,h2⟩:=ae h1;obtain⟨c3,l3,rfl,h3⟩:=ae h2;obtain⟨c4,l4,rfl,h4⟩:=ae h3;obtain⟨c5,l5,rfl,h5⟩:=ae h4;obtain⟨c6,l6,rfl,h6⟩:=ae h5;obtain⟨c7,l7,rfl,h7⟩:=ae h6;obtain⟨c8,l8,rfl,h8⟩:=ae h7;obtain⟨c9,l9,rfl,h9⟩:=ae h8;obtain⟨c10,l10,rfl,h10⟩:=ae h9;obtain⟨c11,l11,rfl,h11⟩:=ae h10;obtain⟨c12,l12,rfl,h12⟩:=ae h11;obtain⟨c13,l13,rfl,h13⟩:=ae h12;obtain⟨c14,l14,rfl,h14⟩:=ae h13;obtain rfl:l14=[]:=List.length_eq_zero_iff.1 h14;clear h0 h1 h2 h3 h4 h5 h6 h7 h8 h9 h10 h11 h12 h13 h14;obtain⟨xs,m,_,hx,_,hlen,hg⟩:=DataW.trod_struct underlying34 hf;obtain⟨y0,hy0,g0⟩:=gQ hlen hg 0 uU rfl rfl;obtain⟨y1,hy1,g1⟩:=gQ hlen hg 1 IX rfl rfl;obtain⟨y2,hy2,g2⟩:=gQ hlen hg 2 aN rfl rfl;obtain⟨y3,hy3,g3⟩:=gQ hlen hg 3 aN rfl rfl;obtain⟨y4,hy4,g4⟩:=gQ hlen hg 4 Hf rfl rfl;obtain⟨y5,hy5,g5⟩:=gQ hlen hg 5 IZ rfl rfl;obtain⟨y6,hy6,g6⟩:=gQ hlen hg 6 IC rfl rfl;obtain⟨y7,hy7,g7⟩:=gQ hlen hg 7 Iu rfl rfl;obtain⟨y8,hy8,g8⟩:=gQ hlen hg 8 aN rfl rfl;obtain⟨y9,hy9,g9⟩:=gQ hlen hg 9 xQ rfl rfl;obtain⟨y10,hy10,g10⟩:=gQ hlen hg 10 Ih rfl rfl;obtain⟨y11,hy11,g11⟩:=gQ hlen hg 11 IW rfl rfl;obtain⟨xp,mp,_,hxp,_,hlenp,hgp⟩:=DataW.trod_struct underlying24 g1;obtain⟨z0,hz0,gp⟩:=gQ hlenp hgp 0 Jp rfl rfl;obtain⟨nm,rfl⟩:=QF g0;obtain⟨pa,pc,rs,rfl,hr,hbulk⟩:=Fi gp;obtain⟨og,rfl,_⟩:=cT g2;obtain⟨sg,rfl,_⟩:=cT g3;obtain⟨ua,uc,us,rfl,hu⟩:=BF g4;obtain⟨oa,oc,os,rfl,ho,_⟩:=DF g5;obtain⟨za,zc,zs,rfl,hz,_⟩:=Dp g6;obtain⟨ba,bc,bs,rfl,hb⟩:=Hp g7;obtain⟨kf,rfl,_⟩:=cT g8;obtain⟨t0,t1,t2,t3,rfl,_,rfl,_,rfl,_,rfl,_⟩:=xb g9;obtain⟨la,lc,ls,rfl,hls,_⟩:=Du g10;obtain⟨sa,sc,ss,rfl,hss,_⟩:=Cj g11;refine⟨⟨nm,rs,og,sg,us,os,zs,bs,kf,⟨t0,t1,t2,t3⟩,ls,ss⟩,⟨pa,pc,ua,uc,oa,oc,za,zc,ba,bc,la,lc,sa,sc⟩,rfl,⟨hr,hu,ho,hz,hb,hls,hss⟩,?_⟩;have e1:z0.1∈xp.map (·.1):=List.mem_map.2 ⟨z0,List.mem_of_getElem? hz0,rfl⟩;have e2:y1.1∈xs.map (·.1):=List.mem_map.2 ⟨y1,List.mem_of_getElem? hy1,rfl⟩;have b1:=tW e1;have b2:=tW e2;have d1:y1.1= .agg (xp.map (·.1)):=by rw[hxp]
 have d2:x.1= .agg (xs.map (·.1)):=by rw[hx]
 rw[d1] at b2;rw[d2];simp only[Rows.uptoBulk] at b2⊢;show ln rs.flatten<=_;omega
end
end
section
open Kp Go.ChangeShapes Go.WideShapes Go.Deep
def Jj:prog.cellsOf 38=17:=V8
def IY:prog.cellsOf 35=1:=V8
def GZ:prog.cellsOf 36=1:=V8
section
variable {H : Type} {enc : VR × Vy → H} {w : Vt} {base : Nat} {sp : Nat → Bool} {held : Bool}
theorem Bl{x:DataW H×List MemPlace}(h:DataW.trod enc prog w base sp held n 36 [c]=Vz x):
  ∃(A:Option VT) (cap:Nat) (l:List Bool),c= .slice A (ln l) cap/\bJ 1 w w.heap.size A cap (eW l):=by
 obtain⟨A,cap,l,h1,h2,_⟩:=fl underlying36 AK V9 (λb:Bool=>[Vy.bool b]) Vw (λ_ _=>True) (λn cs y hl ht=>by
  match cs,hl with
  |[c],_=>obtain⟨k,rfl⟩:=Ql ht;exact⟨k,rfl,trivial⟩) h
 exact⟨A,cap,l,h1,h2⟩
theorem Fo{x:DataW H×List MemPlace}(h:DataW.trod enc prog w base sp held n 35 [c]=Vz x):
  ∃(A:Option VT) (cap:Nat) (l:List Ed),c= .slice A (ln l) cap/\hH w w.heap.size A cap l/\∀e∈l,bj e.index:=by
 obtain⟨A,cap,l,h1,⟨h2,h3,h4⟩,ds,h5,_,h7⟩:=fl underlying35 xg V9 (λt:Ed×Option VT×Nat=>(aE t.1 (.slice t.2.1 (ln t.1.gaps) t.2.2)).toList) (ef,Vx,0) (λt _=>bz w w.heap.size t.2.1 t.2.2 t.1.gaps/\bj t.1.index) (λn cs y hl ht=>by
  obtain⟨e,ga,gc,he,hg,_,hi⟩:=uo hl ht;exact⟨(e,ga,gc),he,hg,hi⟩) h
 have e1:∀i,i<ln l->(l.map (·.1)).getD i ef=(l.getD i (ef,Vx,0)).1:=λi hi=>by
  rw[Vv,Vv,List.getElem?_map,VA hi];rfl
 refine⟨A,cap,l.map (·.1),by rw[VC];exact h1,⟨by rw[VC];simpa using h2,h3,λh0=> ?_⟩,λe he=> ?_⟩
 ·rw[VC] at h0;obtain⟨b,off,e,hb,hc⟩:=h4 XD;refine⟨b,off,e,hb,λi hi=> ?_⟩;rw[VC] at hi;refine⟨(l.getD i (ef,Vx,0)).2.1,(l.getD i (ef,Vx,0)).2.2,λj v hv=> ?_,?_⟩
  ·rw[e1 i hi] at hv;have hj:j<37:=(List.getElem?_eq_some_iff.1 hv).1;rw[hc i Xi j hj,<-hv]
   congr 1
   rw[Vv,Vv,List.getElem?_map,VA hi];rfl
  ·rw[e1 i hi];exact(h7 i (ds[i]'V7) (VA V7)).1
 ·obtain⟨i,hi,rfl⟩:=List.mem_iff_getElem.1 he;rw[VC] at hi;have:=(h7 i (ds[i]'V7) (VA V7)).2;rw[<-e1 i hi,Vv,VA Xi] at this;exact this
def Lk{r:Reach}{b0:Nat}{v:Vy}{d:DataW H}{p:List MemPlace}(hv:Vy.okWide prog w r b0 38 v)(h:DataW.Trod enc prog w base sp held 38 v d p):
  ∃(l:Log) (a:kQ),v= .agg (dL l a)/\iH w w.heap.size l a/\ln l.start.rings.flatten<=Rows.uptoBulk d/\∀e∈l.edits,bj e.index:=by
 obtain⟨cs,rfl,hsz⟩:=okWide_struct underlying38 hv;obtain⟨l⟩:=cs;have hl:ln l=17:=hsz.trans Jj;clear hsz hv;obtain⟨fuel,hf⟩:=h;obtain⟨xs,m,_,hx,_,hlen,hg⟩:=DataW.trod_struct underlying38 hf;obtain⟨y0,hy0,g0⟩:=gQ hlen hg 0 I6 rfl rfl;obtain⟨y1,hy1,g1⟩:=gQ hlen hg 1 IY rfl rfl;obtain⟨y2,hy2,g2⟩:=gQ hlen hg 2 GZ rfl rfl;have k1:(l.drop 15).take 1=[l[15]'V7]:=by
  rw[List.drop_eq_getElem_cons V7];rfl
 have k2:(l.drop 16).take 1=[l[16]'V7]:=by
  rw[List.drop_eq_getElem_cons V7];rfl
 obtain⟨j,a,hj,hja,hb⟩:=Hq (l:=l.take 15) Xn g0;have g1':DataW.trod enc prog w base sp held m 35 [l[15]'V7]=Vz y1:=k1▸g1;have g2':DataW.trod enc prog w base sp held m 36 [l[16]'V7]=Vz y2:=k2▸g2;obtain⟨ea,ec,es,he,hea,hix⟩:=Fo g1';obtain⟨ua,uc,us,hu,hua⟩:=Bl g2';have hl2:l=(dL ⟨j,es,us⟩ ⟨a,ea,ec,ua,uc⟩).toList:=by
  have q:l=l.take 15++(l.drop 15):=(List.take_append_drop 15 l).symm;rw[List.drop_eq_getElem_cons V7,List.drop_eq_getElem_cons V7,List.drop_of_length_le V7,he,hu] at q;rw[q,show l.take 15=(cQ j a).toList from hj]
  rfl
 refine⟨⟨j,es,us⟩,⟨a,ea,ec,ua,uc⟩,by rw[hl2,Gi],⟨hja,hea,hua⟩,?_,hix⟩;have b1:=tW (List.mem_map.2 ⟨y0,List.mem_of_getElem? hy0,rfl⟩:y0.1∈xs.map (·.1));have d2:d= .agg (xs.map (·.1)):=(Prod.mk.inj hx).1;rw[d2];simp only[Rows.uptoBulk];show ln j.rings.flatten<=_;omega
end
end
end Go.Proofs.YtmliacdegmklaaaGreatDoor
