/- ChangeOnly of kingpostlaw58: part 15 of its proof (merged and shortened by program). -/
import Derived.Test.YtnpihidbkhehjaaGreatDoorM14
set_option linter.unusedVariables false
set_option linter.unusedSimpArgs false
set_option linter.defProp false
set_option maxHeartbeats 8000000
set_option maxRecDepth 100000
open Go.RowKit Go.Shelf Go.Proofs.Tryz
open Array renaming getElem?_eq_some_iff→Od
open Bool renaming false→N1,true→Oc
open Go renaming World→NY,Value→N2,undef→N7,wpOp_step→Ob,Calls→Of,maxLen→Ol,TypeId→Oo
open Go.AllReady renaming cons→Oj,nil→Oq
open Go.IntKind renaming i64→Oe
open Go.IntWalk renaming i64_in→Om
open Go.Lib renaming hid→NW
open Go.RowKit renaming intOf→Oh,Below→On
open Go.World renaming size_alloc→Oi
open List renaming getD_eq_getElem?_getD→N8,length_map→N9,getElem?_eq_getElem→Oa
open Nat renaming le_refl→NZ,mul_comm→Og,le_trans→Ok
open Option renaming none→N0,some→N3
open Go.Proofs.YtnpihidbkhehjaaGreatDoor
namespace Go.Proofs.YtnpihidbkhehjaaGreatDoor
section
open Kp
theorem Bx.grown{w w':NY}{b:Nat}{t:Oo}{u:N2}(h:Bx w b t u){base n s:Nat}{e:Oo}{v:N2}{xs:List N2}(ho:w.ownsRow base e s v n xs)(hg:w.grownBy w' v.ownBlock)(hne:t≠e):Bx w' b t u:=by
 refine(hg.block b h.lt (fun hb=> ?_)).trans h
 obtain⟨_,⟨rfl,_⟩|⟨g,cap,cur,rfl,_,hh,_⟩⟩:=ho
 ·cases hb
 ·have hbg:b=g:=by simpa[Value.ownBlock] using hb
  subst hbg
  unfold Bx at h
  rw[h] at hh
  injection hh with hh;injection hh with _ h2 _
  exact hne h2
theorem af.grown{w w':NY}{b:Nat}{t:Oo}{l:List N2}(h:af w b t l){base n s:Nat}{e:Oo}{v:N2}{xs:List N2}(ho:w.ownsRow base e s v n xs)(hg:w.grownBy w' v.ownBlock)(hne:t≠e):af w' b t l:=by
 refine(hg.block b h.lt (fun hb=> ?_)).trans h
 obtain⟨_,⟨rfl,_⟩|⟨g,cap,cur,rfl,_,hh,_⟩⟩:=ho
 ·cases hb
 ·have hbg:b=g:=by simpa[Value.ownBlock] using hb
  subst hbg
  unfold af at h
  rw[h] at hh
  injection hh with hh;injection hh with _ h2 _
  exact hne h2
theorem kS{w w':NY}{base' n' s':Nat}{e':Oo}{v':N2}{xs':List N2}(h:w.ownsRow base' e' s' v' n' xs'){base n s:Nat}{e:Oo}{v:N2}{xs:List N2}(ho:w.ownsRow base e s v n xs)(hg:w.grownBy w' v.ownBlock)(hne:e'≠e):w'.ownsRow base' e' s' v' n' xs':=by
 obtain⟨hl,h0|⟨g',cap',cur',rfl,hb',hh',h1'⟩⟩:=h
 ·exact⟨hl,.inl h0⟩
 ·refine⟨hl,.inr ⟨g',cap',cur',rfl,hb',(hg.block g' (Od.1 hh').1 (fun hb=> ?_)).trans hh',h1'⟩⟩
  obtain⟨_,⟨rfl,_⟩|⟨g,cap,cur,rfl,_,hh,_⟩⟩:=ho
  ·cases hb
  ·have hbg:g'=g:=by simpa[Value.ownBlock] using hb
   subst hbg
   rw[hh'] at hh
   injection hh with hh;injection hh with _ h2 _
   exact hne h2
theorem nu{w w':NY}{base n s:Nat}{e:Oo}{v:N2}{xs:List N2}(ho:w.ownsRow base e s v n xs)(hg:w.grownBy w' v.ownBlock):KeepsOthers w w':=by
 refine⟨hg.size,fun b o hb hc=>(hg.block b (Od.1 hb).1 (fun e'=> ?_)).trans hb⟩
 obtain⟨_,⟨rfl,_⟩|⟨g,cap,cur,rfl,_,hh,_⟩⟩:=ho
 ·cases e'
 ·have hbg:b=g:=by simpa[Value.ownBlock] using e'
  subst hbg
  rw[hb] at hh
  injection hh with hh;subst hh;cases hc
theorem nv{B:Nat}{w0 w w':NY}{base n s:Nat}{e:Oo}{v:N2}{xs:List N2}(h:On B w0 w)(ho:w.ownsRow base e s v n xs)(hg:w.grownBy w' v.ownBlock)(hB:B≤base)(hw:B≤w.heap.size):On B w0 w':=
 h.grown hg hw (fun k hk=>Ok hB (aE ho k hk).1)
theorem oK{w:NY}{base n s:Nat}{e:Oo}{v:N2}{xs:List N2}(h:w.ownsRow base e s v n xs):∃A m c,v= .slice A m c:=by
 obtain⟨_,⟨rfl,_⟩|⟨g,cap,cur,rfl,_⟩⟩:=h
 ·exact⟨_,_,_,rfl⟩
 ·exact⟨_,_,_,rfl⟩
abbrev CV(r i:Nat):List N2:=[.int .i64 (r:Int),.int .i64 (i:Int)]
abbrev iB(l:List (Nat×Nat×lN)):List (List N2):=l.map fun x=>qD x.2.2
abbrev iD(l:List (Nat×Nat×lN)):List (List N2):=l.map fun x=>CV x.1 x.2.1
theorem GO(l:List (Nat×Nat×lN)):cG 4 (iB l):=bz (f:=fun x:Nat×Nat×lN=>qD x.2.2) (fun _=>rfl) l
theorem GR(l:List (Nat×Nat×lN)):cG 2 (iD l):=bz (f:=fun x:Nat×Nat×lN=>CV x.1 x.2.1) (fun _=>rfl) l
theorem Fu:(prog.info? 199).map (fun i=>(i.zero,i.size,i.bytes))=N3 (N3 (.agg #[.int .i64 0,.int .i64 0,.int .i64 0,.int .i64 0]),4,32):=Ou
theorem zm:(prog.info? 202).map (fun i=>(i.zero,i.size,i.bytes))=N3 (N3 (.agg #[.int .i64 0,.int .i64 0]),2,16):=Ou
structure IV(b:Nat)(l:List (Nat×Nat×lN))(X Y:N2)(W:NY):Prop where
 ba:Bx W b 196 X
 bp:Bx W (b+1) 197 Y
 a:W.ownsRow (b+2) 199 4 X l.length (iB l).flatten
 p:W.ownsRow (b+2) 202 2 Y l.length (iD l).flatten
theorem IV.stays{b:Nat}{l:List (Nat×Nat×lN)}{X Y:N2}{n0:Nat}{W W':NY}(h:IV b l X Y W)(hs:al n0 W W'):IV b l X Y W':=
 ⟨h.ba.stays hs,h.bp.stays hs,o5 h.a hs,o5 h.p hs⟩
theorem IV.ext{b:Nat}{l:List (Nat×Nat×lN)}{X Y:N2}{W W':NY}(h:IV b l X Y W)(hx:Ext W W'):IV b l X Y W':=h.stays (hx.stays (n0:=0) (Nat.zero_le _))
structure NJ(w:NY)(A:Option Addr)(cap:Nat)(rs:List (List Sd))(k:Nat)(W:NY):Prop where
 ex:∃X Y,IV w.heap.size (jE rs k) X Y W
 rg:dR W w.heap.size A cap rs
 low:On w.heap.size w W
structure MG(w:NY)(it rb k:Nat)(ds:List Deferred)(Ai:Option Addr)(ci:Nat)(l:List (Nat×Nat×lN))(ring:List Sd)(j:Nat)(W:NY):Prop where
 ex:∃X Y,IV w.heap.size (l++gR k ring j) X Y W
 r:Bx W rb 3 (.int .i64 (k:Int))
 it:Bx W it 73 (.slice Ai ring.length ci)
 sl:bC 7 W w.heap.size Ai ci (ak ring)
 mks:Mk w.heap.size ds W
 low:On w.heap.size w W
theorem MG.stays{w w1:NY}{it rb k:Nat}{ds:List Deferred}{Ai:Option Addr}{ci:Nat}{l:List (Nat×Nat×lN)}{ring:List Sd}{j:Nat}{W W':NY}(h:MG w it rb k ds Ai ci l ring j W)(hw:∀D,Gj D∈ds→D<w1.heap.size)(hs:al w1.heap.size W W')(hn:w.heap.size≤w1.heap.size):MG w it rb k ds Ai ci l ring j W':=
 ⟨by obtain⟨X,Y,h⟩:=h.ex;exact⟨X,Y,h.stays hs⟩,h.r.stays hs,h.it.stays hs,h.sl.stays (cL ring) hs,h.mks.stays hw hs,h.low.trans (hs.below.mono hn)⟩
def Nx(X Y:N2)(k j:Nat)(ar rc:List N2):Nat→N2
 |0=>X
 |1=> .agg ar.toArray
 |2=> .agg rc.toArray
 |5=>Y
 |6=> .int .i64 (k:Int)
 |7=> .int .i64 (j:Int)
 |_=> .agg (CV k j).toArray
structure Bw(b it rb ab:Nat)(k j:Nat)(Ai:Option Addr)(ci:Nat)(ring:List Sd)(B0:Nat)(W0 W2:NY)(l:List (Nat×Nat×lN))(ar rc:List N2)(X Y:N2)(L:Nat→Bool)(vs:Nat→N2)(w:NY):Prop where
 ba:Bx w b 196 X
 bp:Bx w (b+1) 197 Y
 r:Bx w rb 3 (.int .i64 (k:Int))
 it:Bx w it 73 (.slice Ai ring.length ci)
 rar:af w ab 190 ar
 low:On B0 W0 w
 keep:KeepsOthers W2 w
 v:∀i,i<11→L i=Oc→i≠3→i≠4→i≠9→i≠10→vs i=Nx X Y k j ar rc i
 s3:L 3=Oc→L 4=N1→∃g,vs 3= .slice (N3 ⟨g,0,N0⟩) 1 1∧af w g 199 rc
 s9:L 9=Oc→L 10=N1→∃g,vs 9= .slice (N3 ⟨g,0,N0⟩) 1 1∧af w g 202 (CV k j)
 a:w.ownsRow (b+2) 199 4 (if L 4 then vs 4 else X) (if L 4 then l.length+1 else l.length) (if L 4 then(iB l).flatten++rc else(iB l).flatten)
 p:w.ownsRow (b+2) 202 2 (if L 10 then vs 10 else Y) (if L 10 then l.length+1 else l.length) (if L 10 then(iD l).flatten++CV k j else(iD l).flatten)
theorem Bw.sz{b it rb ab k j:Nat}{Ai:Option Addr}{ci:Nat}{ring:List Sd}{B0:Nat}{W0 W2:NY}{l:List (Nat×Nat×lN)}{ar rc:List N2}{X Y:N2}{L:Nat→Bool}{vs:Nat→N2}{w:NY}(h:Bw b it rb ab k j Ai ci ring B0 W0 W2 l ar rc X Y L vs w):b+2≤w.heap.size:=h.bp.lt
theorem Bw.step{b it rb ab k j:Nat}{Ai:Option Addr}{ci:Nat}{ring:List Sd}{B0:Nat}{W0 W2:NY}{l:List (Nat×Nat×lN)}{ar rc:List N2}{X Y:N2}{L:Nat→Bool}{vs:Nat→N2}{w w':NY}(h:Bw b it rb ab k j Ai ci ring B0 W0 W2 l ar rc X Y L vs w)
  (hx:Ext w w'){i:Nat}(hB:B0≤b){v:N2}(h4:i≠4)(h10:i≠10)(hv:i≠3→i≠9→v=Nx X Y k j ar rc i)
  (h3:i=3→∃g,v= .slice (N3 ⟨g,0,N0⟩) 1 1∧af w' g 199 rc)(h9:i=9→∃g,v= .slice (N3 ⟨g,0,N0⟩) 1 1∧af w' g 202 (CV k j)):
  Bw b it rb ab k j Ai ci ring B0 W0 W2 l ar rc X Y (gd L i) (bw vs i v) w':=by
 have hs:=hx.stays (n0:=0) (Nat.zero_le _)
 have hz:=h.sz
 have e4:gd L i 4=L 4:=by unfold gd;rw[if_neg (Ne.symm h4)]
 have e10:gd L i 10=L 10:=by unfold gd;rw[if_neg (Ne.symm h10)]
 have v4:bw vs i v 4=vs 4:=by unfold bw;rw[if_neg (Ne.symm h4)]
 have v10:bw vs i v 10=vs 10:=by unfold bw;rw[if_neg (Ne.symm h10)]
 refine⟨h.ba.stays hs,h.bp.stays hs,h.r.stays hs,h.it.stays hs,h.rar.ext hx,h.low.trans (hx.mono Ot),h.keep.trans hx.keeps,fun m hm hL n3 n4 n9 n10=> ?_,fun hL hL4=> ?_,fun hL hL10=> ?_,?_,?_⟩
 ·by_cases hmi:m=i
  ·subst hmi;simp only[bw,if_pos];exact hv n3 n9
  ·simp only[gd,if_neg hmi] at hL
   simp only[bw,if_neg hmi]
   exact h.v m hm hL n3 n4 n9 n10
 ·by_cases hmi:3=i
  ·subst hmi;simp only[bw,if_pos];exact h3 rfl
  ·simp only[gd,if_neg hmi] at hL
   simp only[bw,if_neg hmi]
   rw[e4] at hL4
   obtain⟨g,e,hr⟩:=h.s3 hL hL4
   exact⟨g,e,hr.ext hx⟩
 ·by_cases hmi:9=i
  ·subst hmi;simp only[bw,if_pos];exact h9 rfl
  ·simp only[gd,if_neg hmi] at hL
   simp only[bw,if_neg hmi]
   rw[e10] at hL10
   obtain⟨g,e,hr⟩:=h.s9 hL hL10
   exact⟨g,e,hr.ext hx⟩
 ·rw[e4,v4];exact bB h.a hx
 ·rw[e10,v10];exact bB h.p hx
theorem Bw.Mc{b it rb ab k j:Nat}{Ai:Option Addr}{ci:Nat}{ring:List Sd}{B0:Nat}{W0 W2:NY}{l:List (Nat×Nat×lN)}{ar rc:List N2}{X Y:N2}{L:Nat→Bool}{vs:Nat→N2}{w w':NY}(h:Bw b it rb ab k j Ai ci ring B0 W0 W2 l ar rc X Y L vs w)
  (hB:B0≤b)(hL4:L 4=N1){v:N2}(ho:w'.ownsRow (b+2) 199 4 v (l.length+1) ((iB l).flatten++rc))(hg:w.grownBy w' X.ownBlock):
  Bw b it rb ab k j Ai ci ring B0 W0 W2 l ar rc X Y (gd L 4) (bw vs 4 v) w':=by
 have hz:=h.sz
 have ha:=h.a
 rw[hL4] at ha
 simp only[if_neg (by decide:¬N1=Oc)] at ha
 refine⟨h.ba.grown ha hg Ov,h.bp.grown ha hg Ov,h.r.grown ha hg Ov,h.it.grown ha hg Ov,h.rar.grown ha hg Ov,nv h.low ha hg Ot Ot,h.keep.trans (nu ha hg),fun m hm hL n3 n4 n9 n10=> ?_,fun _ hL=> ?_,fun hL hL10=> ?_,?_,?_⟩
 ·simp only[gd,if_neg n4] at hL
  simp only[bw,if_neg n4]
  exact h.v m hm hL n3 n4 n9 n10
 ·simp[gd] at hL
 ·obtain⟨g,e,hr⟩:=h.s9 (by simpa[gd] using hL) (by simpa[gd] using hL10)
  exact⟨g,by simpa[bw] using e,hr.grown ha hg Ov⟩
 ·simpa[gd,bw] using ho
 ·have:=kS h.p ha hg Ov
  simpa[gd,bw] using this
theorem Bw.JH{b it rb ab k j:Nat}{Ai:Option Addr}{ci:Nat}{ring:List Sd}{B0:Nat}{W0 W2:NY}{l:List (Nat×Nat×lN)}{ar rc:List N2}{X Y:N2}{L:Nat→Bool}{vs:Nat→N2}{w w':NY}(h:Bw b it rb ab k j Ai ci ring B0 W0 W2 l ar rc X Y L vs w)
  (hB:B0≤b)(hL4:L 10=N1){v:N2}(ho:w'.ownsRow (b+2) 202 2 v (l.length+1) ((iD l).flatten++CV k j))(hg:w.grownBy w' Y.ownBlock):
  Bw b it rb ab k j Ai ci ring B0 W0 W2 l ar rc X Y (gd L 10) (bw vs 10 v) w':=by
 have hz:=h.sz
 have ha:=h.p
 rw[hL4] at ha
 simp only[if_neg (by decide:¬N1=Oc)] at ha
 refine⟨h.ba.grown ha hg Ov,h.bp.grown ha hg Ov,h.r.grown ha hg Ov,h.it.grown ha hg Ov,h.rar.grown ha hg Ov,nv h.low ha hg Ot Ot,h.keep.trans (nu ha hg),fun m hm hL n3 n4 n9 n10=> ?_,fun hL hL10=> ?_,fun _ hL=> ?_,?_,?_⟩
 ·simp only[gd,if_neg n10] at hL
  simp only[bw,if_neg n10]
  exact h.v m hm hL n3 n4 n9 n10
 ·obtain⟨g,e,hr⟩:=h.s3 (by simpa[gd] using hL) (by simpa[gd] using hL10)
  exact⟨g,by simpa[bw] using e,hr.grown ha hg Ov⟩
 ·simp[gd] at hL
 ·have:=kS h.a ha hg Ov
  simpa[gd,bw] using this
 ·simpa[gd,bw] using ho
theorem ye(rs:List (List Sd))(n:Nat)(hn:n≤rs.length):(jE rs n).length=(rs.take n).flatten.length:=by
 induction n with
 |zero=>rfl
 |succ n ih=>
  rw[jE,List.length_append,ih Ot,cK Ot,List.length_append]
  unfold gR;rw[N9,List.length_range]
theorem BD(k:Nat)(ring:List Sd)(j:Nat):(gR k ring j).length=j:=by unfold gR;rw[N9,List.length_range]
theorem yA(k:Nat)(ring:List Sd)(j:Nat):gR k ring (j+1)=gR k ring j++[(k,j,yF ring j)]:=by
 unfold gR;rw[List.range_succ,List.map_append];rfl
theorem Fo{rs:List (List Sd)}{n:Nat}(hn:n≤rs.length){x:Nat×Nat×lN}(h:x∈jE rs n):x.1<rs.length∧x.2.1<(rs.getD x.1 []).length:=by
 induction n with
 |zero=>cases h
 |succ n ih=>
  rw[jE] at h
  rcases List.mem_append.1 h with h|h
  ·exact ih Ot h
  ·unfold gR at h
   obtain⟨i,hi,rfl⟩:=List.mem_map.1 h
   exact⟨by show n<_;omega,List.mem_range.1 hi⟩
theorem rr{l:List (Nat×Nat×lN)}{i:Nat}(hi:i<l.length):(iB l).getD i []=qD (l.getD i nM).2.2:=by
 simp[List.getD,Oa hi]
theorem sI{l:List (Nat×Nat×lN)}{i:Nat}(hi:i<l.length):(iD l).getD i []=CV (l.getD i nM).1 (l.getD i nM).2.1:=by
 simp[List.getD,Oa hi]
end
end Go.Proofs.YtnpihidbkhehjaaGreatDoor
