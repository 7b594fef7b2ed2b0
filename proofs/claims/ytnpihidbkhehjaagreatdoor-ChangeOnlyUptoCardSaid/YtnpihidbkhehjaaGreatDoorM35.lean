/- ChangeOnly of kingpostlaw58: part 35 of its proof (merged and shortened by program). -/
import Derived.Deep.DeepCutAuto
import Derived.Test.YtnpihidbkhehjaaGreatDoorM22
set_option linter.unusedVariables false
set_option linter.unusedSimpArgs false
set_option linter.defProp false
set_option maxHeartbeats 8000000
set_option maxRecDepth 100000
open Go.RowKit Go.Shelf Go.Proofs.Tryz
open Array renaming getElem?_eq_some_iff→Od
open Bool renaming false→N1,true→Oc
open Go renaming World→NY,Value→N2,undef→N7,wpOp_step→Ob,Calls→Of,maxLen→Ol,TypeId→Oo
open Go.AllReady renaming cons→Oj,nil→Oq
open Go.IntKind renaming i64→Oe
open Go.IntWalk renaming i64_in→Om
open Go.Lib renaming hid→NW
open Go.RowKit renaming intOf→Oh,Below→On
open Go.World renaming size_alloc→Oi
open List renaming getD_eq_getElem?_getD→N8,length_map→N9,getElem?_eq_getElem→Oa
open Nat renaming le_refl→NZ,mul_comm→Og,le_trans→Ok
open Option renaming none→N0,some→N3
open Go.Proofs.YtnpihidbkhehjaaGreatDoor
namespace Go.Proofs.YtnpihidbkhehjaaGreatDoor
section
open Kp
attribute [local go_sem] PT P6 Qv QL QJ Qy QH QD QC QO QB Qc Qa Qn Qk Qj P8 P9 P3 P5 PX PZ P4 PW Qm Qe Qg P7 Qp Qr Qb Ql Qs Qh Qf Qu PV PY eh QQ QP Qw
theorem yD(w:NY)(B:Nat):cU w B N0 0 []:=⟨NZ _,OE,fun h=>absurd h Ow⟩
def zr(w:NY)(e:Ed)(r:Ending)(w':NY):Prop:=∃gb cb,r= .returned (.agg (aG (ey e) (.slice gb (ey e).gaps.length cb)))∧cU w' w'.heap.size gb cb (ey e).gaps∧On w.heap.size w w'
theorem Ml{a k:Int}(h:a=k)(n:Int):(a==n)=(k==n):=by rw[h]
def NT(k:Int)(e:Ed):Ed:={ey {e with kind:=k} with kind:=e.kind}
theorem Hq(e:Ed):(ey e).kind=e.kind:=by
 unfold ey
 simp only[apply_ite Ed.kind,ite_self]
theorem Lt{e:Ed}{k:Int}(h:e.kind=k):ey e=NT k e:=by
 subst h
 have h:({ey e with kind:=(ey e).kind}:Ed)=ey e:=rfl
 rw[Hq] at h
 exact h.symm
theorem Jz{w W:NY}{e U:Ed}{c:Array N2}(hu:ey e=U)(h0:U.gaps=[])(hc:c=aG U cD)(hB:On w.heap.size w W):zr w e (.returned (.agg c)) W:=by
 subst hu hc;exact⟨N0,0,by rw[h0];rfl,by rw[h0];exact yD _ _,hB⟩
theorem JL{w W:NY}{e U:Ed}{c:Array N2}{ga:Option Addr}{gc:Nat}(hu:ey e=U)(h0:U.gaps=e.gaps)(hc:c=aG U (.slice ga e.gaps.length gc))(hg:cU w w.heap.size ga gc e.gaps)(hB:On w.heap.size w W):zr w e (.returned (.agg c)) W:=by
 subst hu hc;exact⟨ga,gc,by rw[h0],by rw[h0];exact(hg.below hB).more hB.size,hB⟩
set_option maxHeartbeats 40000000 in
theorem pj(w:NY)(e:Ed)(ga:Option Addr)(gc:Nat)(hk:1≤e.kind∧e.kind≤12)(hg:cU w w.heap.size ga gc e.gaps):Of prog 67 #[.agg (aG e (.slice ga e.gaps.length gc))] w (zr w e):=by
 have mixed:prog.follows .mixedOrders=Oc:=Ou
 have hx:e.kind=1∨e.kind=2∨e.kind=3∨e.kind=4∨e.kind=5∨e.kind=6∨e.kind=7∨e.kind=8∨e.kind=9∨e.kind=10∨e.kind=11∨e.kind=12:=Ot
 have HG:=NW hg
 clear hk hg
 rcases hx with h|h|h|h|h|h|h|h|h|h|h|h
 all_goals
  have kk:=Ml h
  have HU:=NW (Lt h)
  clear h
  go_enter func67,ntmps67
  go_wp2_with(first
   |(refine wpList_build rfl 50 _ rfl Ou ?_;rw[show Value.agg (Option.getD (prog.built 50 _) #[])= .agg (aG (Gk e.kind) cD) from Ou])
   |(refine wpList_store_row rfl 50 _ _ rfl _ _ rfl rfl 50 _ OG Ou Ou Ou ?_)
   |(refine wpList_load_row rfl 50 _ rfl _ rfl 50 _ (0,0) _ OG underlying50 rfl Ou ?_))
 all_goals try(go_region_o<;>go_wp2_with(first
  |(refine wpList_build rfl 50 _ rfl Ou ?_;rw[show Value.agg (Option.getD (prog.built 50 _) #[])= .agg (aG (Gk e.kind) cD) from Ou])
  |(refine wpList_store_row rfl 50 _ _ rfl _ _ rfl rfl 50 _ OG Ou Ou Ou ?_)
  |(refine wpList_load_row rfl 50 _ rfl _ rfl 50 _ (0,0) _ OG underlying50 rfl Ou ?_)))
 all_goals
  refine bodyPost_ret (results_cell_row rfl _ _ _ _ _ (0,0) _ rfl (by first|with_reducible exact wE _ _ _ _|with_reducible exact setRow_heap (xI _ _ _ _) _|with_reducible exact setRow_heap (wE _ _ _ _) _) underlying50 rfl Ou) rfl ?_
  first|refine Jz HU.out OR Ou ?_|refine JL HU.out OR Ou HG.out ?_
  repeat first|with_reducible refine ah ?_ OI _|with_reducible refine Below.drew ?_|with_reducible refine Below.alloc ?_ OI _|with_reducible exact Below.refl _ _
end
section
open Kp
attribute [local go_sem] PT P6 Qv QL QJ Qy QH QD QC QO QB Qc Qa Qn Qk Qj P8 P9 P3 P5 PX PZ P4 PW Qm Qe Qg P7 Qp Qr Qb Ql Qs Qh Qf Qu PV PY
abbrev qt(e:Ed)(ga:Option Addr)(gc:Nat):List N2:=[.int .i64 e.bwidth,.int .i64 e.bdepth,.int .i64 e.blength,.int .i64 e.bcount,.int .i64 e.bcost,.slice ga e.gaps.length gc]
structure LY(w:NY)(a b:Ed)(ga gb:Option Addr)(ca cb:Nat)(s5 s6:N2)(wx:NY):Prop where
 ea:fj wx w.heap.size a (.slice ga a.gaps.length ca)
 eb:fj wx (w.heap.size+1) b (.slice gb b.gaps.length cb)
 bars:∃p q,s5= .pointer (N3 ⟨p,0,N0⟩)∧s6= .pointer (N3 ⟨q,0,N0⟩)∧bO wx p 44 (qt a ga ca)∧bO wx q 44 (qt b gb cb)
 low:On w.heap.size w wx
theorem MB(w:NY)(a b c d:Obj):((((w.alloc a).alloc b).alloc c).alloc d).heap[w.heap.size]?=N3 a:=by
 rw[heap_alloc_old _ _ (by first|(simp;done)|(simp;omega)),nl]
theorem Lf(w:NY)(a b c d:Obj):((((w.alloc a).alloc b).alloc c).alloc d).heap[w.heap.size+1]?=N3 b:=by
 rw[heap_alloc_old _ _ (by first|(simp;done)|(simp;omega)),wE]
theorem Mi(w:NY)(a b c d:Obj):((((w.alloc a).alloc b).alloc c).alloc d).heap[w.heap.size+1+1]?=N3 c:=by
 rw[heap_alloc_old _ _ Ow,rZ]
theorem LF(w:NY)(a b c d:Obj):((((w.alloc a).alloc b).alloc c).alloc d).heap[w.heap.size+1+1+1]?=N3 d:=by
 have:=heap_alloc_new (((w.alloc a).alloc b).alloc c) d
 simpa using this
theorem Fq(w:NY)(a b c d:Obj):On w.heap.size w ((((w.alloc a).alloc b).alloc c).alloc d).drew:=
 ((((((Below.refl _ _).alloc (NZ _) _).alloc Ow _).alloc OB _).alloc OB _)).drew
end
end Go.Proofs.YtnpihidbkhehjaaGreatDoor
