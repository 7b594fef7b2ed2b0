/- ChangeOnly of kingpostlaw58: part 24 of its proof (merged and shortened by program). -/
import Derived.Test.YtnpihidbkhehjaaGreatDoorRows
import Derived.Test.YtnpihidbkhehjaaGreatDoorM23
set_option linter.unusedVariables false
set_option linter.unusedSimpArgs false
set_option linter.defProp false
set_option maxHeartbeats 8000000
set_option maxRecDepth 100000
open Go.RowKit Go.Shelf Go.Proofs.Tryz
open Array renaming getElem?_eq_some_iff→Od
open Bool renaming false→N1,true→Oc
open Go renaming World→NY,Value→N2,undef→N7,wpOp_step→Ob,Calls→Of,maxLen→Ol,TypeId→Oo
open Go.AllReady renaming cons→Oj,nil→Oq
open Go.IntKind renaming i64→Oe
open Go.IntWalk renaming i64_in→Om
open Go.Lib renaming hid→NW
open Go.RowKit renaming intOf→Oh,Below→On
open Go.World renaming size_alloc→Oi
open List renaming getD_eq_getElem?_getD→N8,length_map→N9,getElem?_eq_getElem→Oa
open Nat renaming le_refl→NZ,mul_comm→Og,le_trans→Ok
open Option renaming none→N0,some→N3
open Go.Proofs.YtnpihidbkhehjaaGreatDoor
namespace Go.Proofs.YtnpihidbkhehjaaGreatDoor
section
open Kp Go.ChangeShapes Go.WideShapes Go.Deep
theorem BX:prog.cellsOf 34=15:=Ou
theorem CF:prog.cellsOf 24=1:=Ou
theorem Cd:prog.cellsOf 22=1:=Ou
theorem Bo:prog.cellsOf 73=1:=Ou
theorem CY:prog.cellsOf 25=1:=Ou
theorem Be:prog.cellsOf 26=1:=Ou
theorem BP:prog.cellsOf 27=1:=Ou
theorem C0:prog.cellsOf 28=1:=Ou
theorem CI:prog.cellsOf 31=1:=Ou
theorem CC:prog.cellsOf 32=1:=Ou
section
variable {H : Type} {enc : Oo × N2 → H} {w : NY} {base : Nat} {sp : Nat → Bool} {held : Bool}
theorem Bt{a:Addr}{v:N2}(h:w.cell? a=N3 v):a.spot=N0:=by
 unfold World.cell? at h
 split at h
 ·split at h
  ·cases h
  ·rename_i hh;simpa using hh
 ·cases h
theorem FC(d:DataW H):1≤Rows.uptoBulk d:=by
 cases d with
 |lit l=>cases l<;>simp[Rows.uptoBulk]
 |_=>simp[Rows.uptoBulk]
theorem jR(l:List (DataW H)):l.length≤Rows.uptoBulkAll l:=by
 induction l with
 |nil=>simp
 |cons d l ih=>simp only[List.length_cons,Rows.uptoBulkAll];have:=FC d;omega
theorem xt{l:List (DataW H)}{d:DataW H}(h:d∈l):Rows.uptoBulk d≤Rows.uptoBulkAll l:=by
 induction l with
 |nil=>cases h
 |cons e l ih=>
  simp only[Rows.uptoBulkAll]
  rcases List.mem_cons.1 h with rfl|h
  ·omega
  ·have:=ih h;omega
theorem eH{T:Type}{st et:Oo}{k:Nat}(hu:prog.underlying st=N3 (.slice et))(hk:prog.cellsOf et=k)(hk0:0<k)(row:T→List N2)(t0:T)(P:T→DataW H→Prop)
  (open1:∀(n:Nat) (cs:List N2) (y:DataW H×List MemPlace),cs.length=k→DataW.trod enc prog w base sp held n et cs=N3 y→∃t,cs=row t∧P t y.1)
  {n:Nat}{c:N2}{x:DataW H×List MemPlace}(h:DataW.trod enc prog w base sp held n st [c]=N3 x):
  ∃(A:Option Addr) (cap:Nat) (l:List T),c= .slice A l.length cap∧bC k w w.heap.size A cap (l.map row)∧∃ds:List (DataW H),ds.length=l.length∧Rows.uptoBulkAll ds≤Rows.uptoBulk x.1∧∀(i:Nat) d,ds[i]?=N3 d→P (l.getD i t0) d:=by
 rcases open_slice hu h with⟨hc,_⟩|⟨a,len,cap,m,n',D,Pl,hc,hb,hl,hm,hmm,hx,hi⟩
 ·obtain rfl:c= .slice N0 0 0:=by simpa using hc
  exact⟨N0,0,[],rfl,⟨Ow,by simp[Ol],fun h=>by simp at h⟩,[],rfl,Nat.zero_le _,fun i d h=>by simp at h⟩
 ·obtain rfl:c= .slice (N3 a) len cap:=by simpa using hc
  have hml:len≤m:=by rw[hmm];split <;>omega
  have each:∀i,i<len→∃t:T,(∀j,j<k→w.cell? ((a.add (i*k)).add j)=(row t)[j]?)∧P t (D i):=by
   intro i hil
   obtain⟨cs',hcs,ht⟩:=hi i Ot
   rw[hk] at hcs
   obtain⟨_,hlen,hat⟩:=NY.cells?_some hcs
   obtain⟨t,rfl,hp⟩:=open1 _ _ _ hlen ht
   exact⟨t,hat,hp⟩
  have hch:∃f:Nat→T,∀i,i<len→(∀j,j<k→w.cell? ((a.add (i*k)).add j)=(row (f i))[j]?)∧P (f i) (D i):=
   ⟨fun i=>if h:i<len then Classical.choose (each i h) else t0,fun i hil=>by
    have:=Classical.choose_spec (each i hil)
    simpa only[dif_pos hil] using this⟩
  obtain⟨f,hf⟩:=hch
  have hat:∀i,i<len→((List.range len).map f).getD i t0=f i:=fun i hil=>by simp[List.getD,hil]
  refine⟨N3 a,cap,(List.range len).map f,Ow,⟨PO,hm,fun h0=> ?_⟩,(List.range len).map D,Ow,?_,fun i d hd=> ?_⟩
  ·have h0':0<len:=by simpa using h0
   have hrow:∃v,(row (f 0))[0]?=N3 v:=by
    obtain⟨cs',hcs,ht⟩:=hi 0 Ot
    rw[hk] at hcs
    obtain⟨_,hlen,hat2⟩:=NY.cells?_some hcs
    have h1:=(hf 0 h0').1 0 hk0
    rw[hat2 0 hk0] at h1
    exact⟨cs'[0]'Ot,h1.symm.trans (Oa Ot)⟩
   obtain⟨v,hv⟩:=hrow
   obtain⟨b,o,s⟩:=a
   have hc0:=(hf 0 h0').1 0 hk0
   rw[hv] at hc0
   have hs:s=N0:=by
    have:=Bt hc0
    cases s with
    |none=>rfl
    |some z=>exfalso;simp[Addr.add] at this
   subst hs
   rw[addr_add,addr_add] at hc0
   refine⟨b,o,rfl,NY.block_lt_of_cell? w _ hc0,fun i hil j hj=> ?_⟩
   have hil':i<len:=by simpa using hil
   have:=(hf i hil').1 j hj
   rw[addr_add,addr_add,Og] at this
   have e:(((List.range len).map f).map row).getD i []=row (f i):=by rw[N8,List.getElem?_map,List.getElem?_map,List.getElem?_range hil'];rfl
   rw[this,e]
  ·rw[hx]
   simp only[Rows.uptoBulk]
   omega
  ·have hil:i<len:=by
    have:=(List.getElem?_eq_some_iff.1 hd).1
    simpa using this
   rw[hat i hil]
   have:d=D i:=by rw[List.getElem?_map,List.getElem?_range hil] at hd;simpa using hd.symm
   rw[this];exact(hf i hil).2
theorem xa{n:Nat}{c:N2}{x:DataW H×List MemPlace}(h:DataW.trod enc prog w base sp held n 25 [c]=N3 x):
  ∃(A:Option Addr) (cap:Nat) (l:List Int),c= .slice A l.length cap∧bC 1 w w.heap.size A cap (bN l):=by
 obtain⟨A,cap,l,h1,h2,_⟩:=eH underlying25 aB Ov (fun n:Int=>[Value.int .i64 n]) 0 (fun _ _=>True) (fun n cs y hl ht=>by
  match cs,hl with
  |[c],_=>obtain⟨k,rfl,_⟩:=cj ht;exact⟨k,rfl,trivial⟩) h
 exact⟨A,cap,l,h1,h2⟩
theorem wm{n:Nat}{c:N2}{x:DataW H×List MemPlace}(h:DataW.trod enc prog w base sp held n 73 [c]=N3 x):
  ∃(A:Option Addr) (cap:Nat) (l:List Sd),c= .slice A l.length cap∧bC 7 w w.heap.size A cap (ak l)∧l.length≤Rows.uptoBulk x.1:=by
 obtain⟨A,cap,l,h1,h2,ds,h3,h4,_⟩:=eH underlying73 rJ Ov jF ⟨0,0,0,0,N1,0,0⟩ (fun _ _=>True) (fun n cs y hl ht=>by
  match cs,hl with
  |[c0,c1,c2,c3,c4,c5,c6],_=>obtain⟨a0,a1,a2,a3,a4,a5,a6,rfl,_,rfl,_,rfl,_,rfl,_,rfl,rfl,_,rfl,_⟩:=sj ht;exact⟨⟨a0,a1,a2,a3,a4,a5,a6⟩,rfl,trivial⟩) h
 exact⟨A,cap,l,h1,h2,by have:=jR ds;omega⟩
theorem wC{n:Nat}{c:N2}{x:DataW H×List MemPlace}(h:DataW.trod enc prog w base sp held n 26 [c]=N3 x):
  ∃(A:Option Addr) (cap:Nat) (l:List jD),c= .slice A l.length cap∧bC 5 w w.heap.size A cap (aO l)∧l.length≤Rows.uptoBulk x.1:=by
 obtain⟨A,cap,l,h1,h2,ds,h3,h4,_⟩:=eH underlying26 sn Ov qg fK (fun _ _=>True) (fun n cs y hl ht=>by
  match cs,hl with
  |[c0,c1,c2,c3,c4],_=>obtain⟨a0,a1,a2,a3,a4,rfl,_,rfl,rfl,rfl,rfl⟩:=lO ht;exact⟨⟨a0,a1,a2,a3,a4⟩,rfl,trivial⟩) h
 exact⟨A,cap,l,h1,h2,by have:=jR ds;omega⟩
theorem vP{n:Nat}{c:N2}{x:DataW H×List MemPlace}(h:DataW.trod enc prog w base sp held n 27 [c]=N3 x):
  ∃(A:Option Addr) (cap:Nat) (l:List Sz),c= .slice A l.length cap∧bC 3 w w.heap.size A cap (bt l)∧l.length≤Rows.uptoBulk x.1:=by
 obtain⟨A,cap,l,h1,h2,ds,h3,h4,_⟩:=eH underlying27 qR Ov z8 ⟨0,0,0⟩ (fun _ _=>True) (fun n cs y hl ht=>by
  match cs,hl with
  |[c0,c1,c2],_=>obtain⟨a0,a1,a2,rfl,_,rfl,_,rfl,_⟩:=sq ht;exact⟨⟨a0,a1,a2⟩,rfl,trivial⟩) h
 exact⟨A,cap,l,h1,h2,by have:=jR ds;omega⟩
theorem xR{n:Nat}{c:N2}{x:DataW H×List MemPlace}(h:DataW.trod enc prog w base sp held n 31 [c]=N3 x):
  ∃(A:Option Addr) (cap:Nat) (l:List Ld),c= .slice A l.length cap∧bC 3 w w.heap.size A cap (bD l)∧l.length≤Rows.uptoBulk x.1:=by
 obtain⟨A,cap,l,h1,h2,ds,h3,h4,_⟩:=eH underlying31 rX Ov Jc mD (fun _ _=>True) (fun n cs y hl ht=>by
  match cs,hl with
  |[c0,c1,c2],_=>obtain⟨a0,a1,a2,rfl,_,rfl,_,rfl⟩:=sB ht;exact⟨⟨a0,a1,a2⟩,rfl,trivial⟩) h
 exact⟨A,cap,l,h1,h2,by have:=jR ds;omega⟩
theorem wS{n:Nat}{c:N2}{x:DataW H×List MemPlace}(h:DataW.trod enc prog w base sp held n 32 [c]=N3 x):
  ∃(A:Option Addr) (cap:Nat) (l:List Aw),c= .slice A l.length cap∧bC 5 w w.heap.size A cap (aX l)∧l.length≤Rows.uptoBulk x.1:=by
 obtain⟨A,cap,l,h1,h2,ds,h3,h4,_⟩:=eH underlying32 rT Ov gF ⟨0,0,0,0,0⟩ (fun _ _=>True) (fun n cs y hl ht=>by
  match cs,hl with
  |[c0,c1,c2,c3,c4],_=>obtain⟨a0,a1,a2,a3,a4,rfl,_,rfl,_,rfl,_,rfl,_,rfl,_⟩:=lQ ht;exact⟨⟨a0,a1,a2,a3,a4⟩,rfl,trivial⟩) h
 exact⟨A,cap,l,h1,h2,by have:=jR ds;omega⟩
theorem CM{n:Nat}{c:N2}{x:DataW H×List MemPlace}(h:DataW.trod enc prog w base sp held n 28 [c]=N3 x):
  ∃(A:Option Addr) (cap:Nat) (l:List Br),c= .slice A l.length cap∧fo w w.heap.size A cap l:=by
 obtain⟨A,cap,l,h1,⟨h2,h3,h4⟩,ds,h5,_,h7⟩:=eH underlying28 rB Ov (fun t:Br×Option Addr×Nat=>mJ t.1 t.2.1 t.2.2) (mA,N0,0) (fun t _=>bC 2 w w.heap.size t.2.1 t.2.2 (dx t.1.gaps)) (fun n cs y hl ht=>by
  match cs,hl with
  |[c0,c1,c2,c3,c4,c5],_=>obtain⟨a0,a1,a2,a3,a4,ga,gc,gl,rfl,_,rfl,_,rfl,_,rfl,_,rfl,_,rfl,hg,_⟩:=xP ht;exact⟨(⟨a0,a1,a2,a3,a4,gl⟩,ga,gc),rfl,AT hg⟩) h
 refine⟨A,cap,l.map (·.1),by rw[N9];exact h1,by rw[N9];simpa using h2,h3,fun h0=> ?_⟩
 rw[N9] at h0
 obtain⟨b,off,e,hb,hc⟩:=h4 PR
 refine⟨b,off,e,hb,fun i hi=> ?_⟩
 rw[N9] at hi
 have e1:(l.map (·.1)).getD i mA=(l.getD i (mA,N0,0)).1:=by rw[N8,N8,List.getElem?_map,Oa hi];rfl
 refine⟨(l.getD i (mA,N0,0)).2.1,(l.getD i (mA,N0,0)).2.2,fun j hj=> ?_,?_⟩
 ·rw[hc i PM j hj,e1,N8,N8,List.getElem?_map,Oa hi];rfl
 ·rw[e1]
  exact h7 i (ds[i]'Ot) (Oa Ot)
theorem sw{T:Type}(f:T→Nat)(t0:T):∀(l:List T) (ds:List (DataW H)),ds.length=l.length→(∀(i:Nat) d,ds[i]?=N3 d→f (l.getD i t0)≤Rows.uptoBulk d)→(l.map f).sum≤Rows.uptoBulkAll ds
 |[],_,_,_=>Ow
 |t::l,[],h,_=>by simp at h
 |t::l,d::ds,h,hi=>by
  have h0:=hi 0 d rfl
  have ih:=sw f t0 l ds O5 (fun i d hd=>hi (i+1) d hd)
  simp only[List.map_cons,List.sum_cons,Rows.uptoBulkAll]
  simp at h0
  omega
theorem yE{n:Nat}{c:N2}{x:DataW H×List MemPlace}(h:DataW.trod enc prog w base sp held n 22 [c]=N3 x):
  ∃(A:Option Addr) (cap:Nat) (rs:List (List Sd)),c= .slice A rs.length cap∧dR w w.heap.size A cap rs∧rs.flatten.length≤Rows.uptoBulk x.1:=by
 obtain⟨A,cap,l,h1,⟨h2,h3,h4⟩,ds,h5,h6,h7⟩:=eH underlying22 Bo Ov (fun t:List Sd×Option Addr×Nat=>[N2.slice t.2.1 t.1.length t.2.2]) ([],N0,0) (fun t d=>bC 7 w w.heap.size t.2.1 t.2.2 (ak t.1)∧t.1.length≤Rows.uptoBulk d) (fun n cs y hl ht=>by
  match cs,hl with
  |[c0],_=>obtain⟨A,cap,l,rfl,hs,hb⟩:=wm ht;exact⟨(l,A,cap),rfl,hs,hb⟩) h
 refine⟨A,cap,l.map (·.1),by rw[N9];exact h1,⟨by rw[N9];simpa using h2,h3,fun h0=> ?_⟩,?_⟩
 ·rw[N9] at h0
  obtain⟨b,off,e,hb,hc⟩:=h4 PR
  refine⟨b,off,e,hb,fun i hi=> ?_⟩
  rw[N9] at hi
  have e1:(l.map (·.1)).getD i []=(l.getD i ([],N0,0)).1:=by rw[N8,N8,List.getElem?_map,Oa hi];rfl
  refine⟨(l.getD i ([],N0,0)).2.1,(l.getD i ([],N0,0)).2.2,?_,?_⟩
  ·have:=hc i PM 0 Ov
   rw[Nat.one_mul,Nat.add_zero] at this
   rw[this,e1,N8,N8,List.getElem?_map,Oa hi];rfl
  ·rw[e1]
   exact(h7 i (ds[i]'Ot) (Oa Ot)).1
 ·rw[List.length_flatten,List.map_map]
  exact Ok (sw (fun t:List Sd×Option Addr×Nat=>t.1.length) ([],N0,0) l ds h5 (fun i d hd=>(h7 i d hd).2)) h6
theorem Fb{r:Reach}{b0:Nat}{v:N2}{d:DataW H}{p:List MemPlace}(hv:N2.okWide prog w r b0 34 v)(h:DataW.Trod enc prog w base sp held 34 v d p):
  ∃(j:du) (a:fm),v= .agg (dy j a)∧bh w w.heap.size j a∧j.rings.flatten.length≤Rows.uptoBulk d:=by
 obtain⟨cs,rfl,hsz⟩:=okWide_struct underlying34 hv
 obtain⟨l⟩:=cs
 have hl:l.length=15:=hsz.trans BX
 clear hsz hv
 obtain⟨c0,l0,rfl,h0⟩:=aa hl
 obtain⟨c1,l1,rfl,h1⟩:=aa h0
 obtain⟨c2,l2,rfl,h2⟩:=aa h1
 obtain⟨c3,l3,rfl,h3⟩:=aa h2
 obtain⟨c4,l4,rfl,h4⟩:=aa h3
 obtain⟨c5,l5,rfl,h5⟩:=aa h4
 obtain⟨c6,l6,rfl,h6⟩:=aa h5
 obtain⟨c7,l7,rfl,h7⟩:=aa h6
 obtain⟨c8,l8,rfl,h8⟩:=aa h7
 obtain⟨c9,l9,rfl,h9⟩:=aa h8
 obtain⟨c10,l10,rfl,h10⟩:=aa h9
 obtain⟨c11,l11,rfl,h11⟩:=aa h10
 obtain⟨c12,l12,rfl,h12⟩:=aa h11
 obtain⟨c13,l13,rfl,h13⟩:=aa h12
 obtain⟨c14,l14,rfl,h14⟩:=aa h13
 obtain rfl:l14=[]:=List.length_eq_zero_iff.1 h14
 clear h0 h1 h2 h3 h4 h5 h6 h7 h8 h9 h10 h11 h12 h13 h14
 obtain⟨fuel,hf⟩:=h
 obtain⟨xs,m,_,hx,_,hlen,hg⟩:=DataW.trod_struct underlying34 hf
 obtain⟨y0,hy0,g0⟩:=fi hlen hg 0 oE rfl rfl
 obtain⟨y1,hy1,g1⟩:=fi hlen hg 1 CF rfl rfl
 obtain⟨y2,hy2,g2⟩:=fi hlen hg 2 aB rfl rfl
 obtain⟨y3,hy3,g3⟩:=fi hlen hg 3 aB rfl rfl
 obtain⟨y4,hy4,g4⟩:=fi hlen hg 4 CY rfl rfl
 obtain⟨y5,hy5,g5⟩:=fi hlen hg 5 Be rfl rfl
 obtain⟨y6,hy6,g6⟩:=fi hlen hg 6 BP rfl rfl
 obtain⟨y7,hy7,g7⟩:=fi hlen hg 7 C0 rfl rfl
 obtain⟨y8,hy8,g8⟩:=fi hlen hg 8 aB rfl rfl
 obtain⟨y9,hy9,g9⟩:=fi hlen hg 9 qQ rfl rfl
 obtain⟨y10,hy10,g10⟩:=fi hlen hg 10 CI rfl rfl
 obtain⟨y11,hy11,g11⟩:=fi hlen hg 11 CC rfl rfl
 obtain⟨xp,mp,_,hxp,_,hlenp,hgp⟩:=DataW.trod_struct underlying24 g1
 obtain⟨z0,hz0,gp⟩:=fi hlenp hgp 0 Cd rfl rfl
 obtain⟨nm,rfl⟩:=IZ g0
 obtain⟨pa,pc,rs,rfl,hr,hbulk⟩:=yE gp
 obtain⟨og,rfl,_⟩:=cj g2
 obtain⟨sg,rfl,_⟩:=cj g3
 obtain⟨ua,uc,us,rfl,hu⟩:=xa g4
 obtain⟨oa,oc,os,rfl,ho,_⟩:=wC g5
 obtain⟨za,zc,zs,rfl,hz,_⟩:=vP g6
 obtain⟨ba,bc,bs,rfl,hb⟩:=CM g7
 obtain⟨kf,rfl,_⟩:=cj g8
 obtain⟨t0,t1,t2,t3,rfl,_,rfl,_,rfl,_,rfl,_⟩:=rh g9
 obtain⟨la,lc,ls,rfl,hls,_⟩:=xR g10
 obtain⟨sa,sc,ss,rfl,hss,_⟩:=wS g11
 refine⟨⟨nm,rs,og,sg,us,os,zs,bs,kf,⟨t0,t1,t2,t3⟩,ls,ss⟩,⟨pa,pc,ua,uc,oa,oc,za,zc,ba,bc,la,lc,sa,sc⟩,rfl,⟨hr,hu,ho,hz,hb,hls,hss⟩,?_⟩
 have e1:z0.1∈xp.map (·.1):=List.mem_map.2 ⟨z0,List.mem_of_getElem? hz0,rfl⟩
 have e2:y1.1∈xs.map (·.1):=List.mem_map.2 ⟨y1,List.mem_of_getElem? hy1,rfl⟩
 have b1:=xt e1
 have b2:=xt e2
 have d1:y1.1= .agg (xp.map (·.1)):=by rw[hxp]
 have d2:d= .agg (xs.map (·.1)):=(Prod.mk.inj hx).1
 rw[d1] at b2
 rw[d2]
 simp only[Rows.uptoBulk] at b2⊢
 show rs.flatten.length≤_
 omega
end
end
section
open Kp
theorem eu{w:NY}{B:Nat}{A:Option Addr}{cap:Nat}{r:List Sd}(h:bC 7 w B A cap (ak r))(hp:0<r.length):
  ∃b off,A=N3 ⟨b,off,N0⟩∧b<B∧∀i,i<r.length→w.cell? ⟨b,off+i*7,N0⟩=N3 (.int .i64 (az r i).x)∧w.cell? ⟨b,off+i*7+1,N0⟩=N3 (.int .i64 (az r i).y)∧
   w.cell? ⟨b,off+i*7+2,N0⟩=N3 (.int .i64 (az r i).rise)∧w.cell? ⟨b,off+i*7+3,N0⟩=N3 (.int .i64 (az r i).run)∧w.cell? ⟨b,off+i*7+4,N0⟩=N3 (.bool (az r i).gable)∧
   w.cell? ⟨b,off+i*7+5,N0⟩=N3 (.int .i64 (az r i).plate)∧w.cell? ⟨b,off+i*7+6,N0⟩=N3 (.int .i64 (az r i).over):=by
 obtain⟨h1,h2,h3⟩:=h
 obtain⟨b,off,e,hb,hc⟩:=h3 (by rw[N9];exact hp)
 refine⟨b,off,e,hb,fun i hi=> ?_⟩
 have q:∀m,m<7→w.cell? ⟨b,off+i*7+m,N0⟩=(jF (az r i))[m]?:=by
  intro m hm
  have:=hc i PM m hm
  rw[gJ hi,Og] at this
  exact this
 exact⟨q 0 Ov,q 1 Ov,q 2 Ov,q 3 Ov,q 4 Ov,q 5 Ov,q 6 Ov⟩
def B8(n:Int):Int:=if n<0 then -1 else if 0<n then 1 else 0
theorem oZ(n:Int)(w:NY):Of prog 209 #[.int .i64 n] w fun x w'=>x= .returned (.int .i64 (B8 n))∧w'=w:=by
 by_cases h1:n<0
 ·have hs:B8 n= -1:=if_pos h1
  rw[hs]
  go_enter func209,ntmps209
  go_wp2
  go_ret
  exact⟨rfl,rfl⟩
 ·by_cases h2:0<n
  ·have hs:B8 n=1:=by unfold B8;rw[if_neg h1,if_pos h2]
   rw[hs]
   have t1:decide (n<0)=N1:=decide_eq_false h1
   have t2:decide (n>0)=Oc:=decide_eq_true h2
   clear hs
   go_enter func209,ntmps209
   go_wp2
   go_ret
   exact⟨rfl,rfl⟩
  ·have hs:B8 n=0:=by unfold B8;rw[if_neg h1,if_neg h2]
   rw[hs]
   have t1:decide (n<0)=N1:=decide_eq_false h1
   have t2:decide (n>0)=N1:=decide_eq_false h2
   clear hs
   go_enter func209,ntmps209
   go_wp2
   go_ret
   exact⟨rfl,rfl⟩
theorem iO(w:NY)(A:Option Addr)(cap:Nat)(r:List Sd)(h:bC 7 w w.heap.size A cap (ak r))(i:Nat)(hi:i<r.length):
  Of prog 208 #[.slice A r.length cap,.int .i64 (i:Int)] w fun x w'=>x= .returned (.tuple #[.int .i64 (bj r i).x,.int .i64 (bj r i).y])∧Ext w w':=by
 have h1:=h.1
 have h2:=h.2.1
 rw[N9] at h1
 unfold Ol at h2
 obtain⟨b,off,rfl,hb,hc⟩:=eu h Ot
 rw[j6]
 have w1:Oe.wrap ((i:Int)+1)=(i:Int)+1:=Om _ Ot
 obtain⟨p,hp⟩:∃p,(i+1)%r.length=p:=⟨_,rfl⟩
 have hpl:p<r.length:=by rw[←hp];exact Nat.mod_lt _ Ot
 have q1:((i:Int)+1).tmod (r.length:Int)=(p:Int):=by rw[Int.tmod_eq_emod_of_nonneg Ot,←hp];rfl
 have z1:((r.length:Int)==0)=N1:=beq_eq_false_iff_ne.2 Ot
 have w2:Oe.wrap (p:Int)=(p:Int):=Om _ Ot
 obtain⟨c0,c1,_⟩:=hc p hpl
 rw[hp]
 clear hp hc h
 go_enter func208,ntmps208
 go_wp2_with fail
 go_quiet (fail)
 go_wp2
 go_ret2
 exact⟨rfl,below_drewN (Below.refl _ _) _⟩
def qs(r:List Sd)(i:Nat):Int:=B8 (Oe.wrap ((bj r i).x-(az r i).x))
def qO(r:List Sd)(i:Nat):Int:=B8 (Oe.wrap ((bj r i).y-(az r i).y))
theorem DF(n:Int): -1≤B8 n∧B8 n≤1:=by unfold B8;split <;>(try split)<;>omega
theorem rH(w:NY)(A:Option Addr)(cap:Nat)(r:List Sd)(h:bC 7 w w.heap.size A cap (ak r))(i:Nat)(hi:i<r.length):
  Of prog 169 #[.slice A r.length cap,.int .i64 (i:Int)] w fun x w'=>x= .returned (.tuple #[.int .i64 (qs r i),.int .i64 (qO r i)])∧Ext w w':=by
 have h1:=h.1
 have h2:=h.2.1
 rw[N9] at h1
 unfold Ol at h2
 have KE:=NW (iO w A cap r h i hi)
 obtain⟨b,off,rfl,hb,hc⟩:=eu h Ot
 have HB:=NW hb
 obtain⟨c0,c1,_⟩:=hc i hi
 have HX:=NW (show B8 (Oe.wrap ((bj r i).x-(az r i).x))=qs r i from rfl)
 have HY:=NW (show B8 (Oe.wrap ((bj r i).y-(az r i).y))=qO r i from rfl)
 obtain⟨x,hx⟩:∃x,qs r i=x:=⟨_,rfl⟩
 obtain⟨y,hy⟩:∃y,qO r i=y:=⟨_,rfl⟩
 rw[hx] at HX
 rw[hy] at HY
 rw[hx,hy]
 have KS:=NW (fun(W:NY)=>oZ (Oe.wrap ((bj r i).x-(az r i).x)) W)
 have KT:=NW (fun(W:NY)=>oZ (Oe.wrap ((bj r i).y-(az r i).y)) W)
 rw[HX.out] at KS
 rw[HY.out] at KT
 clear hx hy hc h HX HY
 go_enter func169,ntmps169
 go_wp2_with(go_at_call 208;go_must(refine KE.out.mono ?_);rintro e W1 ⟨rfl,hX1⟩;have HX1:=NW hX1;have d0:=(hX1.cell (p:=⟨b,off+i*7,N0⟩) HB.out).trans c0;have d1:=(hX1.cell (p:=⟨b,off+i*7+1,N0⟩) HB.out).trans c1;clear hX1;clear c0 c1)
 go_quiet ((go_at_call 209;first|exact Calls.quiet_of_same (KS.out _)|exact Calls.quiet_of_same (KT.out _)))
 go_wp2
 go_ret2
 exact⟨rfl,below_drewN HX1.out _⟩
def AJ(r:List Sd)(i:Nat):Int:=wrap64 (wrap64 (qs r ((i+r.length-1)%r.length)*qO r i)-wrap64 (qO r ((i+r.length-1)%r.length)*qs r i))
theorem pE(w:NY)(A:Option Addr)(cap:Nat)(r:List Sd)(h:bC 7 w w.heap.size A cap (ak r))(hn:r.length≤1000000)(i:Nat)(hi:i<r.length):
  Of prog 170 #[.slice A r.length cap,.int .i64 (i:Int)] w fun x w'=>x= .returned (.int .i64 (AJ r i))∧Ext w w':=by
 have h1:=h.1
 have h2:=h.2.1
 rw[N9] at h1
 unfold Ol at h2
 have HL:=NW h
 have w1:Oe.wrap ((i:Int)+r.length)=(i:Int)+r.length:=Om _ Ot
 have w2:Oe.wrap ((i:Int)+r.length-1)=(i:Int)+r.length-1:=Om _ Ot
 obtain⟨p,hp⟩:∃p,(i+r.length-1)%r.length=p:=⟨_,rfl⟩
 have hpl:p<r.length:=by rw[←hp];exact Nat.mod_lt _ Ot
 have q1:((i:Int)+r.length-1).tmod (r.length:Int)=(p:Int):=by rw[Int.tmod_eq_emod_of_nonneg Ot,show((i:Int)+r.length-1)=((i+r.length-1:Nat):Int) by omega,←hp];rfl
 have z1:((r.length:Int)==0)=N1:=beq_eq_false_iff_ne.2 Ot
 have w3:Oe.wrap (p:Int)=(p:Int):=Om _ Ot
 have KD:=NW (fun(W:NY) (hx:Ext w W) (k:Nat) (hk:k<r.length)=>rH W A cap r ((h.below hx).more hx.size) k hk)
 obtain⟨x,hx⟩:∃x,qs r p=x:=⟨_,rfl⟩
 obtain⟨y,hy⟩:∃y,qO r p=y:=⟨_,rfl⟩
 have bx:=DF (Oe.wrap ((bj r p).x-(az r p).x))
 have KP:=NW (KD.out w (Below.refl _ _) p hpl)
 have KI:=NW (fun(W:NY) (hx:Ext w W)=>KD.out W hx i hi)
 rw[hx,hy] at KP
 obtain⟨u,hu⟩:∃u,qs r i=u:=⟨_,rfl⟩
 obtain⟨v,hv⟩:∃v,qO r i=v:=⟨_,rfl⟩
 simp only[hu,hv] at KI
 have HV:=NW (show AJ r i=wrap64 (wrap64 (x*v)-wrap64 (y*u)) by unfold AJ;rw[hp,hx,hy,hu,hv])
 rw[HV.out]
 clear hx hy hu hv hp h KD bx
 go_enter func170,ntmps170
 go_wp2_with(first
  |(go_at_call 169;have hX0:=hX1;clear hX1;refine(KI.out _ hX0).mono ?_;rintro e W2 ⟨rfl,hX2⟩;have hX12:=Ext.tr hX0 hX2)
  |(go_at_call 169;refine KP.out.mono ?_;rintro e W1 ⟨rfl,hX1⟩))
 go_ret
 exact⟨rfl,hX12⟩
end
section
open Kp
theorem xy(w:NY)(A:Option Addr)(cap:Nat)(r:List Sd)(h:bC 7 w w.heap.size A cap (ak r))(hn:r.length≤1000000):
  Of prog 172 #[.slice A r.length cap] w fun x w'=>(∃k:Int,x= .returned (.int .i64 k))∧Ext w w':=by
 have h1:=h.1
 have h2:=h.2.1
 rw[N9] at h1
 unfold Ol at h2
 have HL:=NW (fun(W:NY) (hx:Ext w W)=>((h.below hx).more hx.size:bC 7 W W.heap.size A cap (ak r)))
 clear h
 go_enter func172,ntmps172
 go_wp2
 go_loopw [3,4] (fun s i wr=>∃(z:Int) (k:Nat),s= .int .i64 z∧i= .int .i64 (k:Int)∧k≤r.length∧Ext w wr) (fun _ i _=>((r.length:Int)-Oh i).toNat)
 case atStart=>exact⟨0,0,rfl,rfl,Ot,Below.refl _ _⟩
 case round=>
  obtain⟨z,k,rfl,rfl,hk,hX⟩:=hrel
  have HX:=NW hX
  by_cases hlt:k<r.length
  ·obtain⟨b,off,rfl,hb,hc⟩:=eu (HL.out _ hX) Ot
   obtain⟨c0,c1,_⟩:=hc k hlt
   have HB:=NW hb
   have KE:=NW (iO wr _ cap r (HL.out _ hX) k hlt)
   clear hc hX hb
   go_wp2_with(go_at_call 208;go_must(refine KE.out.mono ?_);rintro e W1 ⟨rfl,hX1⟩;have HX1:=NW (Ext.tr HX.out hX1);have d0:=(hX1.cell (p:=⟨b,off+k*7,N0⟩) HB.out).trans c0;have d1:=(hX1.cell (p:=⟨b,off+k*7+1,N0⟩) HB.out).trans c1;clear hX1;clear c0 c1)
   go_quiet (fail)
   go_wp2
   exact⟨⟨_,k+1,rfl,by go_num,Ot,below_drewN HX1.out _⟩,Oy⟩
  ·obtain rfl:k=r.length:=Ot
   go_wp2
   go_ret
   exact⟨⟨_,rfl⟩,HX.out⟩
end
section
open Kp
theorem Nw{x:Int}(h1: -1≤x)(h2:x≤1):0≤x*x∧x*x≤1:=by
 rcases(show x= -1∨x=0∨x=1 by omega) with rfl|rfl|rfl<;>decide
theorem uL(w:NY)(A:Option Addr)(cap:Nat)(r:List Sd)(h:bC 7 w w.heap.size A cap (ak r))(hn:r.length≤1000000):
  Of prog 104 #[.slice A r.length cap] w fun x w'=>(∃b:Bool,x= .returned (.bool b))∧Ext w w':=by
 have h1:=h.1
 have h2:=h.2.1
 rw[N9] at h1
 unfold Ol at h2
 have HL:=NW (fun(W:NY) (hx:Ext w W)=>((h.below hx).more hx.size:bC 7 W W.heap.size A cap (ak r)))
 clear h
 go_enter func104,ntmps104
 go_wp2
 go_loopw [3] (fun i wr=>∃k:Nat,i= .int .i64 (k:Int)∧k≤r.length∧Ext w wr) (fun i _=>((r.length:Int)-Oh i).toNat)
 case atStart=>exact⟨0,rfl,Ot,Below.refl _ _⟩
 case round=>
  obtain⟨k,rfl,hk,hX⟩:=hrel
  have HX:=NW hX
  by_cases hlt:k<r.length
  ·have KD:=NW (rH wr A cap r (HL.out _ hX) k hlt)
   have KT:=NW (fun(W:NY) (hx:Ext w W)=>pE W A cap r (HL.out _ hx) hn k hlt)
   obtain⟨x1,x2⟩:=DF (Oe.wrap ((bj r k).x-(az r k).x))
   obtain⟨y1,y2⟩:=DF (Oe.wrap ((bj r k).y-(az r k).y))
   obtain⟨x,hx⟩:∃x,qs r k=x:=⟨_,rfl⟩
   obtain⟨y,hy⟩:∃y,qO r k=y:=⟨_,rfl⟩
   change -1≤qs r k at x1
   change qs r k≤1 at x2
   change -1≤qO r k at y1
   change qO r k≤1 at y2
   rw[hx] at x1 x2 KD
   rw[hy] at y1 y2 KD
   clear hx hy hX
   have sx:=Nw x1 x2
   have sy:=Nw y1 y2
   have w1:Oe.wrap (x*x)=x*x:=Om _ Ot
   have w2:Oe.wrap (y*y)=y*y:=Om _ Ot
   have w3:Oe.wrap (x*x+y*y)=x*x+y*y:=Om _ Ot
   obtain⟨b,hb⟩:∃b,(x*x+y*y !=1)=b:=⟨_,rfl⟩
   cases b with
   |true=>
    go_wp2_with(go_at_call 169;go_must(refine KD.out.mono ?_);rintro e W1 ⟨rfl,hX1⟩;have HX1:=NW (Ext.tr HX.out hX1);clear hX1)
    go_ret
    exact⟨⟨_,rfl⟩,HX1.out⟩
   |false=>
    go_wp2_with(first
     |(go_at_call 170;refine(KT.out _ HX1.out).mono ?_;rintro e W2 ⟨rfl,hX2⟩;have HX2:=NW (Ext.tr HX1.out hX2);clear hX2)
     |(go_at_call 169;go_must(refine KD.out.mono ?_);rintro e W1 ⟨rfl,hX1⟩;have HX1:=NW (Ext.tr HX.out hX1);clear hX1))
    ·go_ret
     exact⟨⟨_,rfl⟩,HX2.out⟩
    ·exact⟨⟨k+1,by go_num,Ot,HX2.out⟩,Oy⟩
  ·obtain rfl:k=r.length:=Ot
   go_wp2
   go_ret
   exact⟨⟨_,rfl⟩,HX.out⟩
end
section
open Kp
theorem uQ(s:Sd)(w:NY):Of prog 103 #[.agg (jF s).toArray] w fun x w'=>(∃b:Bool,x= .returned (.bool b))∧Ext w w':=by
 have R0:=af.new w 36 (jF s)
 have E0:=NW (show Ext w (w.alloc (.cells (jF s).toArray 36)) from(Below.refl _ _).alloc (NZ _) _)
 have c:=fun i=>R0.cell i
 obtain⟨x,y,rise,run,gable,plate,over⟩:=s
 obtain⟨b0,t0⟩:∃b,aF x 0 65536=b:=⟨_,rfl⟩
 obtain⟨b1,t1⟩:∃b,aF y 0 65536=b:=⟨_,rfl⟩
 obtain⟨b2,t2⟩:∃b,aF plate 0 65536=b:=⟨_,rfl⟩
 obtain⟨b3,t3⟩:∃b,aF over 0 65536=b:=⟨_,rfl⟩
 obtain⟨b4,t4⟩:∃b,aF rise 1 48=b:=⟨_,rfl⟩
 obtain⟨b5,t5⟩:∃b,aF run 1 48=b:=⟨_,rfl⟩
 obtain⟨b6,t6⟩:∃b,(rise==0)=b:=⟨_,rfl⟩
 obtain⟨b7,t7⟩:∃b,(run==0)=b:=⟨_,rfl⟩
 cases b0 with
 |false=>
  go_enter func103,ntmps103
  go_wp2_with(go_at_call 168;go_must(refine(eQ _ _ _ _).mono ?_);rintro e W1 ⟨rfl,rfl⟩)
  go_ret
  exact⟨⟨_,rfl⟩,E0.out⟩
 |true=>
  cases b1 with
  |false=>
   go_enter func103,ntmps103
   go_wp2_with(go_at_call 168;go_must(refine(eQ _ _ _ _).mono ?_);rintro e W1 ⟨rfl,rfl⟩)
   go_ret
   exact⟨⟨_,rfl⟩,E0.out⟩
  |true=>
   cases b2 with
   |false=>
    go_enter func103,ntmps103
    go_wp2_with(go_at_call 168;go_must(refine(eQ _ _ _ _).mono ?_);rintro e W1 ⟨rfl,rfl⟩)
    go_ret
    exact⟨⟨_,rfl⟩,E0.out⟩
   |true=>
    cases b3 with
    |false=>
     go_enter func103,ntmps103
     go_wp2_with(go_at_call 168;go_must(refine(eQ _ _ _ _).mono ?_);rintro e W1 ⟨rfl,rfl⟩)
     go_ret
     exact⟨⟨_,rfl⟩,E0.out⟩
    |true=>
     cases gable with
     |true=>
      cases b6 with
      |false=>
       go_enter func103,ntmps103
       go_wp2_with(go_at_call 168;go_must(refine(eQ _ _ _ _).mono ?_);rintro e W1 ⟨rfl,rfl⟩)
       go_ret
       exact⟨⟨_,rfl⟩,E0.out⟩
      |true=>
       go_enter func103,ntmps103
       go_wp2_with(go_at_call 168;go_must(refine(eQ _ _ _ _).mono ?_);rintro e W1 ⟨rfl,rfl⟩)
       go_ret
       exact⟨⟨_,rfl⟩,E0.out⟩
     |false=>
      cases b4 with
      |false=>
       go_enter func103,ntmps103
       go_wp2_with(go_at_call 168;go_must(refine(eQ _ _ _ _).mono ?_);rintro e W1 ⟨rfl,rfl⟩)
       go_ret
       exact⟨⟨_,rfl⟩,E0.out⟩
      |true=>
       go_enter func103,ntmps103
       go_wp2_with(go_at_call 168;go_must(refine(eQ _ _ _ _).mono ?_);rintro e W1 ⟨rfl,rfl⟩)
       go_ret
       exact⟨⟨_,rfl⟩,E0.out⟩
end
section
open Kp
theorem uO(w:NY)(A:Option Addr)(cap:Nat)(r:List Sd)(h:bC 7 w w.heap.size A cap (ak r))(x y:Int):
  Of prog 173 #[.slice A r.length cap,.int .i64 x,.int .i64 y] w fun e w'=>(∃b:Bool,e= .returned (.bool b))∧Ext w w':=by
 have h1:=h.1
 have h2:=h.2.1
 rw[N9] at h1
 unfold Ol at h2
 have HL:=NW (fun(W:NY) (hx:Ext w W)=>((h.below hx).more hx.size:bC 7 W W.heap.size A cap (ak r)))
 clear h
 go_enter func173,ntmps173
 go_wp2
 go_loopw [7,8] (fun s i wr=>∃(o:Bool) (k:Nat),s= .bool o∧i= .int .i64 (k:Int)∧k≤r.length∧Ext w wr) (fun _ i _=>((r.length:Int)-Oh i).toNat)
 case atStart=>exact⟨N1,0,rfl,rfl,Ot,Below.refl _ _⟩
 case round=>
  obtain⟨odd,k,rfl,rfl,hk,hX⟩:=hrel
  have HX:=NW hX
  by_cases hlt:k<r.length
  ·obtain⟨b,off,rfl,hb,hc⟩:=eu (HL.out _ hX) Ot
   obtain⟨c0,c1,_⟩:=hc k hlt
   have HB:=NW hb
   have KE:=NW (iO wr _ cap r (HL.out _ hX) k hlt)
   obtain⟨u,hu⟩:∃u,(bj r k).x=u:=⟨_,rfl⟩
   obtain⟨v,hv⟩:∃u,(bj r k).y=u:=⟨_,rfl⟩
   obtain⟨ox,hox⟩:∃u,(az r k).x=u:=⟨_,rfl⟩
   obtain⟨oy,hoy⟩:∃u,(az r k).y=u:=⟨_,rfl⟩
   rw[hu,hv] at KE
   rw[hox] at c0
   rw[hoy] at c1
   clear hc hX hb hu hv hox hoy
   obtain⟨p1,ja⟩:∃p,(ox==u)=p:=⟨_,rfl⟩
   obtain⟨p2,nl⟩:∃p,decide (u>x)=p:=⟨_,rfl⟩
   obtain⟨p3,hp3⟩:∃p,decide (min oy v≤y)=p:=⟨_,rfl⟩
   obtain⟨p4,hp4⟩:∃p,decide (y<max oy v)=p:=⟨_,rfl⟩
   cases p1 with
   |false=>
    go_wp2_with(go_at_call 208;go_must(refine KE.out.mono ?_);rintro e W1 ⟨rfl,hX1⟩;have HX1:=NW (Ext.tr HX.out hX1);have d0:=(hX1.cell (p:=⟨b,off+k*7,N0⟩) HB.out).trans c0;have d1:=(hX1.cell (p:=⟨b,off+k*7+1,N0⟩) HB.out).trans c1;clear hX1;clear c0 c1)
    exact⟨⟨_,k+1,rfl,by go_num,Ot,HX1.out⟩,Oy⟩
   |true=>
    cases p2 with
    |false=>
     go_wp2_with(go_at_call 208;go_must(refine KE.out.mono ?_);rintro e W1 ⟨rfl,hX1⟩;have HX1:=NW (Ext.tr HX.out hX1);have d0:=(hX1.cell (p:=⟨b,off+k*7,N0⟩) HB.out).trans c0;have d1:=(hX1.cell (p:=⟨b,off+k*7+1,N0⟩) HB.out).trans c1;clear hX1;clear c0 c1)
     exact⟨⟨_,k+1,rfl,by go_num,Ot,HX1.out⟩,Oy⟩
    |true=>
     cases p3 with
     |false=>
      go_wp2_with(go_at_call 208;go_must(refine KE.out.mono ?_);rintro e W1 ⟨rfl,hX1⟩;have HX1:=NW (Ext.tr HX.out hX1);have d0:=(hX1.cell (p:=⟨b,off+k*7,N0⟩) HB.out).trans c0;have d1:=(hX1.cell (p:=⟨b,off+k*7+1,N0⟩) HB.out).trans c1;clear hX1;clear c0 c1)
      exact⟨⟨_,k+1,rfl,by go_num,Ot,HX1.out⟩,Oy⟩
     |true=>
      cases p4 with
      |false=>
       go_wp2_with(go_at_call 208;go_must(refine KE.out.mono ?_);rintro e W1 ⟨rfl,hX1⟩;have HX1:=NW (Ext.tr HX.out hX1);have d0:=(hX1.cell (p:=⟨b,off+k*7,N0⟩) HB.out).trans c0;have d1:=(hX1.cell (p:=⟨b,off+k*7+1,N0⟩) HB.out).trans c1;clear hX1;clear c0 c1)
       exact⟨⟨_,k+1,rfl,by go_num,Ot,HX1.out⟩,Oy⟩
      |true=>
       go_wp2_with(go_at_call 208;go_must(refine KE.out.mono ?_);rintro e W1 ⟨rfl,hX1⟩;have HX1:=NW (Ext.tr HX.out hX1);have d0:=(hX1.cell (p:=⟨b,off+k*7,N0⟩) HB.out).trans c0;have d1:=(hX1.cell (p:=⟨b,off+k*7+1,N0⟩) HB.out).trans c1;clear hX1;clear c0 c1)
       exact⟨⟨_,k+1,rfl,by go_num,Ot,HX1.out⟩,Oy⟩
  ·obtain rfl:k=r.length:=Ot
   go_wp2
   go_ret
   exact⟨⟨_,rfl⟩,HX.out⟩
end
section
open Kp
theorem zY{w:NY}{A:Option Addr}{cap:Nat}{rs:List (List Sd)}(hr:dR w w.heap.size A cap rs)(hp:0<rs.length):
  ∃b off,∃f:Nat→Option Addr×Nat,A=N3 ⟨b,off,N0⟩∧b<w.heap.size∧∀W,Ext w W→∀k,k<rs.length→W.cell? ⟨b,off+k,N0⟩=N3 (.slice (f k).1 (rs.getD k []).length (f k).2)∧bC 7 W W.heap.size (f k).1 (f k).2 (ak (rs.getD k [])):=by
 obtain⟨b,off,e,hb,hc⟩:=hr.2.2 hp
 have hx:∀k,∃p:Option Addr×Nat,k<rs.length→w.cell? ⟨b,off+k,N0⟩=N3 (.slice p.1 (rs.getD k []).length p.2)∧bC 7 w w.heap.size p.1 p.2 (ak (rs.getD k [])):=by
  intro k
  by_cases hk:k<rs.length
  ·obtain⟨Ai,ci,h1,h2⟩:=hc k hk
   exact⟨(Ai,ci),fun _=>⟨h1,h2⟩⟩
  ·exact⟨(N0,0),fun h=>absurd h hk⟩
 obtain⟨f,hf⟩:=Classical.axiomOfChoice hx
 refine⟨b,off,f,e,hb,fun W hW k hk=> ?_⟩
 obtain⟨h1,h2⟩:=hf k hk
 exact⟨(hW.cell hb).trans h1,(h2.below hW).more hW.size⟩
theorem DT{rs:List (List Sd)}(hne:∀r∈rs,r≠[]){k:Nat}(hk:k<rs.length):0<(rs.getD k []).length:=by
 rw[N8,Oa hk]
 exact List.length_pos_iff.2 (hne _ (List.getElem_mem hk))
theorem tC(w:NY)(A:Option Addr)(cap:Nat)(rs:List (List Sd))(hr:dR w w.heap.size A cap rs)(hp:0<rs.length)(hne:∀r∈rs,r≠[])(hlen:∀k,(rs.getD k []).length≤1000000):
  Of prog 106 #[.slice A rs.length cap] w fun x w'=>(∃b:Bool,x= .returned (.bool b))∧Ext w w':=by
 have h1:=hr.1
 have h2:=hr.2.1
 unfold Ol at h2
 obtain⟨b,off,f,rfl,hb,hf⟩:=zY hr hp
 have HF:=NW hf
 have KT:=NW (fun(W:NY) (h:Ext w W) (k:Nat) (hk:k<rs.length)=>xy W (f k).1 (f k).2 (rs.getD k []) (hf W h k hk).2 (hlen k))
 have KI:=NW (fun(W:NY) (h:Ext w W) (k:Nat) (hk:k<rs.length)=>uO W (f k).1 (f k).2 (rs.getD k []) (hf W h k hk).2)
 have HNE:=NW hne
 have c0:=(hf w (Below.refl _ _) 0 hp).1
 rw[Nat.add_zero] at c0
 have hp':(0:Int)<(rs.length:Int):=Ot
 clear hr hf hne hlen
 obtain⟨n0,hn0⟩:∃n,(rs.getD 0 []).length=n:=⟨_,rfl⟩
 have KT0:=KT.out w (Below.refl _ _) 0 hp
 rw[hn0] at c0 KT0
 have KT0:=NW KT0
 clear hn0
 go_enter func106,ntmps106
 go_wp2_with(go_at_call 172;go_must(refine KT0.out.mono ?_);rintro e W1 ⟨⟨z,rfl⟩,hX1⟩;have HX1:=NW hX1;clear hX1)
 ·go_ret
  exact⟨⟨_,rfl⟩,HX1.out⟩
 clear KT0 c0
 go_loopw [3] (fun i wr=>∃k:Nat,1≤k∧i= .int .i64 (k:Int)∧k≤rs.length∧Ext w wr) (fun i _=>((rs.length:Int)-Oh i).toNat)
 case atStart=>exact⟨1,Ot,rfl,Ot,HX1.out⟩
 case round=>
  obtain⟨k,hk0,rfl,hk,hX⟩:=hrel
  have HX:=NW hX
  by_cases hlt:k<rs.length
  ·have c0:=(HF.out wr hX k hlt).1
   have KTk:=KT.out wr hX k hlt
   have hrp:=DT HNE.out hlt
   obtain⟨n0,hn0⟩:∃n,(rs.getD k []).length=n:=⟨_,rfl⟩
   rw[hn0] at c0 KTk hrp
   obtain⟨bk,ok,hA,_⟩:=eu (HF.out _ hX k hlt).2 (by rw[hn0];exact hrp)
   rw[hA] at c0 KTk
   have HA:=NW hA
   clear hA
   have KTk:=NW KTk
   have HN0:=NW hn0
   clear hX hn0
   go_wp2_with(go_at_call 172;go_must(refine KTk.out.mono ?_);rintro e W2 ⟨⟨z,rfl⟩,hX2⟩;have HX2:=NW (Ext.tr HX.out hX2);clear hX2)
   ·go_ret
    exact⟨⟨_,rfl⟩,HX2.out⟩
   clear c0 KTk
   go_loopw [4] (fun i wr=>∃m:Nat,i= .int .i64 (m:Int)∧m≤rs.length∧Ext w wr) (fun i _=>((rs.length:Int)-Oh i).toNat)
   case atStart=>exact⟨0,rfl,Ot,HX2.out⟩
   case round=>
    obtain⟨m,rfl,hm,hX3⟩:=hrel
    have HX3:=NW hX3
    by_cases hlt2:m<rs.length
    ·by_cases hmk:m=k
     ·have t1:((m:Int) !=(k:Int))=N1:=by rw[hmk];simp
      clear hX3
      go_wp2_with fail
      go_quiet (fail)
      go_wp2
      exact⟨⟨m+1,by go_num,Ot,below_drewN HX3.out _⟩,Oy⟩
     ·have t1:((m:Int) !=(k:Int))=Oc:=Ph
      obtain⟨bk2,ok2,hA,hbk,hck⟩:=eu (HF.out _ hX3 k hlt).2 (by rw[HN0.out];exact hrp)
      obtain⟨rfl,rfl⟩:bk=bk2∧ok=ok2:=by have:=HA.out.symm.trans hA;injection this with this;injection this with h1 h2;exact⟨h1,h2⟩
      clear hA
      obtain⟨x0,x1,_⟩:=hck 0 (by rw[HN0.out];exact hrp)
      rw[Nat.zero_mul,Nat.add_zero] at x0 x1
      have cm:=fun w' (h:Ext wr w')=>(HF.out w' (hX3.tr h) m hlt2).1
      have ck:=fun w' (h:Ext wr w')=>(HF.out w' (hX3.tr h) k hlt).1
      obtain⟨nm,hnm⟩:∃n,(rs.getD m []).length=n:=⟨_,rfl⟩
      have KIm:=fun W (h:Ext wr W) x y=>KI.out W (hX3.tr h) m hlt2 x y
      simp only[hnm] at cm KIm
      simp only[HN0.out,HA.out] at ck
      have KIm:=NW KIm
      have cx:=fun w' (h:Ext wr w')=>(h.cell (p:=⟨bk,ok,N0⟩) hbk).trans x0
      have cy:=fun w' (h:Ext wr w')=>(h.cell (p:=⟨bk,ok+1,N0⟩) hbk).trans x1
      have hrp':(0:Int)<(n0:Int):=Ot
      clear hX3 hck x0 x1 hnm
      go_wp2_with fail
      go_region_held3(fun w'=>Ext wr w') (first|exact hx1|exact Ext.dr wr) (first|(go_at_call 173;go_must(refine(KIm.out _ (Ext.dr wr) _ _).mono ?_);rintro e W3 ⟨⟨q,rfl⟩,hX4⟩;have hx1:Ext wr W3:=(Ext.dr wr).tr hX4;clear hX4))
      go_wp2
      ·go_ret
       exact⟨⟨_,rfl⟩,HX3.out.tr hx1⟩
      ·go_round
       case rel=>exact⟨m+1,by go_num,Ot,HX3.out.tr hx1⟩
       case measure=>simp[Oh];omega
    ·obtain rfl:m=rs.length:=Ot
     go_wp2
     exact⟨⟨k+1,Ot,by go_num,Ot,HX3.out⟩,Oy⟩
  ·obtain rfl:k=rs.length:=Ot
   go_wp2
   go_ret
   exact⟨⟨_,rfl⟩,HX.out⟩
end
section
open Kp
def gB(P:Prop)(x:Ending):Prop:=∃b:Bool,x= .returned (.bool b)∧(b=N1→P)
structure FF(rs:List (List Sd)):Prop where
 f:rs.flatten.length≤40
 n:rs.length≤40
theorem vQ(w:NY)(A:Option Addr)(cap:Nat)(rs:List (List Sd))(hr:dR w w.heap.size A cap rs)(n:Int)(hbig:rs.flatten.length≤4000000000):
  Of prog 45 #[.agg #[.slice A rs.length cap],.int .i64 n] w fun x w'=>gB (FF rs) x∧Ext w w':=by
 have h1:=hr.1
 have h2:=hr.2.1
 unfold Ol at h2
 have E0:=NW (show Ext w (w.alloc (.cells #[.slice A rs.length cap] 24)) from(Below.refl _ _).alloc (NZ _) _)
 have R0:=NW (Bx.new w 24 (.slice A rs.length cap))
 have Z0:=NW (show w.heap.size<(w.alloc (.cells #[.slice A rs.length cap] 24)).heap.size by simp)
 have HR:=NW ((hr.below E0.out).more (B':=(w.alloc (.cells #[.slice A rs.length cap] 24)).heap.size) Ow)
 clear hr
 go_enter func45,ntmps45
 go_wp2
 obtain⟨w0,hw0⟩:∃w0,w.alloc (.cells #[.slice A rs.length cap] 24)=w0:=⟨_,rfl⟩
 simp only[hw0] at E0 R0 Z0 HR⊢
 clear hw0
 have c0:=R0.out.cell
 go_loop [5,6] (fun s i=>∃k:Nat,k≤rs.length∧i= .int .i64 (k:Int)∧s= .int .i64 ((rs.take k).flatten.length:Int)) (fun _ i=>((rs.length:Int)-Oh i).toNat)
 case atStart=>exact⟨0,Ot,rfl,Ow⟩
 case round=>
  obtain⟨k,hk,rfl,rfl⟩:=hrel
  by_cases hlt:k<rs.length
  ·obtain⟨b,off,rfl,hB,hcell⟩:=HR.out.2.2 Ot
   obtain⟨Ai,ci,c1,hsl⟩:=hcell k hlt
   have hq:=cK hlt
   have hle:=dF rs (k+1)
   have hq2:((rs.take (k+1)).flatten.length:Int)=((rs.take k).flatten.length:Int)+((rs.getD k []).length:Int):=by rw[hq];simp
   obtain⟨m,hm⟩:∃m,(rs.take k).flatten.length=m:=⟨_,rfl⟩
   obtain⟨d,hd⟩:∃d,(rs.getD k []).length=d:=⟨_,rfl⟩
   rw[hd] at c1
   have hs:m+d≤4000000000:=by rw[hm,hd] at hq2;omega
   rw[hm]
   have HQ:=NW hq2
   have HM:=NW hm
   have HD:=NW hd
   clear hcell hsl hq hq2 hm hd hle
   go_wp2
   go_round
   case rel=>exact⟨k+1,Ot,by go_num,by rw[HQ.out,HM.out,HD.out]⟩
   case measure=>simp[Oh];omega
  ·obtain rfl:k=rs.length:=Ot
   have ht:(rs.take rs.length).flatten.length=rs.flatten.length:=by rw[List.take_length]
   rw[ht]
   clear ht
   obtain⟨m,hm⟩:∃m,rs.flatten.length=m:=⟨_,rfl⟩
   rw[hm] at hbig⊢
   obtain⟨p1,ja⟩:∃p,decide ((m:Int)>n)=p:=⟨_,rfl⟩
   obtain⟨p2,nl⟩:∃p,decide ((m:Int)≤24)=p:=⟨_,rfl⟩
   obtain⟨p3,hp3⟩:∃p,decide ((m:Int)>40)=p:=⟨_,rfl⟩
   obtain⟨p4,hp4⟩:∃p,decide ((rs.length:Int)>40)=p:=⟨_,rfl⟩
   have HM:=NW hm
   have H3:=NW hp3
   have H4:=NW hp4
   clear hm
   have fin:∀{b:Bool},(b=N1→p3=N1∧p4=N1)→(b=N1→FF rs):=fun h hb=>by
    obtain⟨a,c⟩:=h hb
    have h3:=H3.out;rw[a] at h3
    have h4:=H4.out;rw[c] at h4
    have:=of_decide_eq_false h3
    have:=of_decide_eq_false h4
    have hm:=HM.out
    exact⟨Ot,Ot⟩
   cases p1<;>cases p2<;>cases p3<;>cases p4
   all_goals
    go_wp2
    go_ret
    first|exact⟨⟨_,rfl,fun _=>trivial⟩,E0.out⟩|(refine⟨⟨_,rfl,fin ?_⟩,E0.out⟩;simp)
end
end Go.Proofs.YtnpihidbkhehjaaGreatDoor
