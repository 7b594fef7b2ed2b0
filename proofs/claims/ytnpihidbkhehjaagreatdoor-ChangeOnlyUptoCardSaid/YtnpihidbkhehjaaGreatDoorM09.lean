/- ChangeOnly of kingpostlaw58: part 9 of its proof (merged and shortened by program). -/
import Derived.Laws.CopyRow
import Derived.Deep.Slices
import Derived.Deep.Fields
import Derived.OpenShut
import Derived.ChangeSame
import Derived.WideShapes
import Derived.Laws.AppendOwn
import Derived.Test.YtnpihidbkhehjaaGreatDoorM08
set_option linter.unusedVariables false
set_option linter.unusedSimpArgs false
set_option linter.defProp false
set_option maxHeartbeats 8000000
set_option maxRecDepth 100000
open Go.RowKit Go.Shelf Go.Proofs.Tryz
open Array renaming getElem?_eq_some_iff→Od
open Bool renaming false→N1,true→Oc
open Go renaming World→NY,Value→N2,undef→N7,wpOp_step→Ob,Calls→Of,maxLen→Ol,TypeId→Oo
open Go.AllReady renaming cons→Oj,nil→Oq
open Go.IntKind renaming i64→Oe
open Go.IntWalk renaming i64_in→Om
open Go.Lib renaming hid→NW
open Go.RowKit renaming intOf→Oh,Below→On
open Go.World renaming size_alloc→Oi
open List renaming getD_eq_getElem?_getD→N8,length_map→N9,getElem?_eq_getElem→Oa
open Nat renaming le_refl→NZ,mul_comm→Og,le_trans→Ok
open Option renaming none→N0,some→N3
open Go.Proofs.YtnpihidbkhehjaaGreatDoor
namespace Go.Proofs.YtnpihidbkhehjaaGreatDoor
section
open Kp
theorem QR(k:Int):(Gk k).kind=k:=rfl
attribute [local go_sem] PT P6 Qv QL QJ Qy QH QD QC QO QB Qc Qa Qn Qk Qj P8 P9 P3 P5 PX PZ P4 PW Qm Qe Qg P7 Qp Qr Qb Ql Qs Qh Qf Qu PV PY QR eh QQ QP Qw
def EC(w:NY)(c:Nat)(C:Array N2):Prop:=w.heap[c]?=N3 (.cells C 50 (0,0))
theorem EC.cell{w:NY}{c:Nat}{C:Array N2}(h:EC w c C)(i:Nat):w.cell? ⟨c,i,N0⟩=C[i]?:=by unfold EC at h;simp[World.cell?,h]
theorem EC.frozen{w:NY}{c:Nat}{C:Array N2}(h:EC w c C)(i:Nat):w.frozen? ⟨c,i,N0⟩=N1:=by unfold EC at h;simp[World.frozen?,h]
theorem EC.heap{w:NY}{c:Nat}{C:Array N2}(h:EC w c C):w.heap[c]?=N3 (.cells C 50 (0,0)):=h
theorem EC.lt{w:NY}{c:Nat}{C:Array N2}(h:EC w c C):c<w.heap.size:=(Od.1 h).1
theorem EC.put{w:NY}{c:Nat}{C:Array N2}(h:EC w c C)(i:Nat)(x:N2):EC (w.setCell ⟨c,i,N0⟩ x) c (C.setIfInBounds i x):=by unfold EC at *;simp[World.setCell,Array.getElem?_modify,h]
theorem EC.cI{w:NY}{c:Nat}{C:Array N2}(h:EC w c C){p:Addr}(hp:c≠p.block)(x:N2):EC (w.setCell p x) c C:=(Below.heap_setCell w p x c hp).trans h
theorem EC.keep{B b:Nat}{w w':NY}{c:Nat}{C:Array N2}(h:EC w c C)(hk:be B b w w')(hc:c≠b):EC w' c C:=(hk.others c h.lt hc).trans h
theorem EC.alloc{w:NY}{c:Nat}{C:Array N2}(h:EC w c C)(o:Obj):EC (w.alloc o) c C:=(Below.heap_alloc w o c h.lt).trans h
theorem EC.new(w:NY)(C:Array N2):EC (w.alloc (.cells C 50)) w.heap.size C:=NY.alloc_heap_new w _
theorem eF.alloc{B N b:Nat}{r:nN}{w:NY}(h:eF B N b r w)(o:Obj):eF B N b r (w.alloc o):=h.below ((Below.refl _ _).alloc (NZ _) _)
theorem be.alloc{B b:Nat}{u w:NY}(h:be B b u w)(hB:B≤w.heap.size)(o:Obj):be B b u (w.alloc o):=h.trans (be.aH ((Below.refl _ _).alloc (NZ _) _) hB)
theorem be.cI{B b:Nat}{u w:NY}(h:be B b u w){p:Addr}(hp:u.heap.size≤p.block)(hB:B≤p.block)(x:N2):be B b u (w.setCell p x):=
 ⟨h.low.setCell hB x,fun k hk hb=>(Below.heap_setCell w p x k Ot).trans (h.others k hk hb)⟩
theorem be.row{B b:Nat}{u w:NY}(h:be B b u w){n:Nat}(hp:u.heap.size≤n)(hB:B≤n)(cs:Array N2):be B b u (w.setRow n cs):=
 ⟨ah h.low hB cs,fun k hk hb=>by
  have:(w.setRow n cs).heap[k]?=w.heap[k]?:=by simp only[World.setRow,Array.getElem?_modify];rw[if_neg Ot]
  rw[this];exact h.others k hk hb⟩
theorem eF.row{B N b:Nat}{r:nN}{w:NY}(h:eF B N b r w){n:Nat}(hn:N≤n)(cs:Array N2):eF B N b r (w.setRow n cs):=by
 obtain⟨lo,hi,⟨sb,off,cap,h1,h2,h3,h4,h5,⟨cur,h7⟩,h8⟩,hl⟩:=h
 have hh:∀k,k≠n→(w.setRow n cs).heap[k]?=w.heap[k]?:=fun k hk=>by simp only[World.setRow,Array.getElem?_modify];rw[if_neg (Ne.symm hk)]
 exact⟨lo,hi,⟨sb,off,cap,(hh b Ot).trans h1,h2,h3,h4,h5,⟨cur,(hh sb Ot).trans h7⟩,fun j hj=>(World.cell?_of_block (hh sb Ot)).trans (h8 j hj)⟩,hl⟩
def putAt(old:Array N2)(o:Nat)(cells:Array N2):Array N2:=(old.toList.take (o+0)++cells.toList++old.toList.drop (o+0+cells.toList.length)).toArray
theorem mb(w:NY)(g o:Nat)(t ty:Oo)(old cells:Array N2)(hg:w.heap[g]?=N3 (.cells old t (0,0)))(hi:(prog.info? ty).map (·.size)=N3 cells.size)
  (ho:o+cells.size≤old.size)(h1:cells.all (·.oneCell')=Oc):(storeVar ty ⟨g,o,N0⟩ (.agg cells)).run prog w= .ok () (w.setRow g (putAt old o cells)):=by
 have:=run_storeCells_at (P:=prog) g o t cells.toList 0 old w hg OB (fun v hv=>(Array.all_eq_true_iff_forall_mem.1 h1) v (by simpa using hv))
 cases hq:prog.info? ty with
 |none=>simp[hq] at hi
 |some i=>
  have hs:cells.size=i.size:=by simp[hq] at hi;omega
  unfold putAt
  simp[storeVar,sizeOf,typeInfo,hq,Value.cells,hs] at this⊢
  exact this
theorem cC{ops:Array Oper}{rest:List Oper}{o:Oper}{a:Act}{w:NY}{Q:Exit→Act→NY→Prop}(hgd:o.guard=N0)(ty:Oo)(x y:Operand)(ho:o.op= .store ty x y)
  (g off:Nat)(cells:Array N2)(hx:a.eval x= .pointer (N3 ⟨g,off,N0⟩))(hy:a.eval y= .agg cells)
  (t:Oo)(old:Array N2)(hg:w.heap[g]?=N3 (.cells old t (0,0)))(hi:(prog.info? ty).map (·.size)=N3 cells.size)
  (hold:off+cells.size≤old.size)(h1:cells.all (·.oneCell')=Oc)
  (h:wpList prog ops Q rest (a.put o.dst N7) (w.setRow g (putAt old off cells))):wpList prog ops Q (o::rest) a w:=by
 refine wpList_plain hgd fun _ hK=> ?_
 unfold Oper.wp execOp
 simp only[ho,hx,hy,Instr.storeAt,Instr.sureAddr,Sem.run_bind,Sem.run_pure,Result.andThen_ok,mb w g off t ty old cells hg hi hold h1]
 exact hK _ _ h
theorem EC.L6{w:NY}{c n:Nat}{C:Array N2}(h:EC w c C)(hn:c≠n)(cs:Array N2):EC (w.setRow n cs) c C:=by
 have:(w.setRow n cs).heap[c]?=w.heap[c]?:=by simp only[World.setRow,Array.getElem?_modify];rw[if_neg (Ne.symm hn)]
 exact this.trans h
theorem all_nil(P:Int→Prop):∀n∈([]:List Int),P n:=fun _ h=>Ox
theorem all_cons{P:Int→Prop}{a:Int}{l:List Int}(h:P a)(k:∀n∈l,P n):∀n∈a::l,P n:=fun n hn=>by
 rcases List.mem_cons.1 hn with rfl|hn
 ·exact h
 ·exact k n hn
theorem iY(w:NY)(B:Nat):cU w B N0 0 []:=⟨NZ _,OE,fun h=>absurd h Ow⟩
end
section
open Kp Go.ChangeShapes Go.WideShapes Go.Deep
theorem aB:prog.cellsOf 3=1:=Ou
theorem Ew:prog.cellsOf 4=1:=Ou
theorem iT:prog.cellsOf 37=1:=Ou
theorem oE:prog.cellsOf 9=1:=Ou
theorem Cl:prog.cellsOf 42=1:=Ou
theorem rJ:prog.cellsOf 36=7:=Ou
theorem sn:prog.cellsOf 39=5:=Ou
theorem qR:prog.cellsOf 41=3:=Ou
theorem rX:prog.cellsOf 46=3:=Ou
theorem rT:prog.cellsOf 48=5:=Ou
theorem qQ:prog.cellsOf 30=4:=Ou
theorem BJ:prog.cellsOf 77=2:=Ou
theorem rB:prog.cellsOf 44=6:=Ou
theorem Cc:prog.cellsOf 50=37:=Ou
section
variable {H : Type} {enc : Oo × N2 → H} {w : NY} {base : Nat} {sp : Nat → Bool} {held : Bool}
theorem G8{n:Int}(h:(Lit.int .i64 n).wf=Oc):aN n:=by
 simp only[Lit.wf,Bool.and_eq_true,decide_eq_true_eq] at h
 exact h
theorem cj{n:Nat}{c:N2}{x:DataW H×List MemPlace}(h:DataW.trod enc prog w base sp held n 3 [c]=N3 x):∃k,c= .int .i64 k∧aN k:=by
 obtain⟨k,hc,_,hw⟩:=DataW.trod_int underlying3 h
 exact⟨k,by simpa using hc,G8 hw⟩
theorem Mn{n:Nat}{c:N2}{x:DataW H×List MemPlace}(h:DataW.trod enc prog w base sp held n 4 [c]=N3 x):∃k,c= .bool k:=by
 obtain⟨k,hc,_⟩:=DataW.trod_bool underlying4 h
 exact⟨k,by simpa using hc⟩
theorem xm{n:Nat}{c:N2}{x:DataW H×List MemPlace}(h:DataW.trod enc prog w base sp held n 37 [c]=N3 x):∃k:By,c= .string (tx k):=by
 obtain⟨k,hc,_⟩:=DataW.trod_string underlying37 h
 exact⟨k.data.toList,by rw[lz];simpa using hc⟩
theorem IZ{n:Nat}{c:N2}{x:DataW H×List MemPlace}(h:DataW.trod enc prog w base sp held n 9 [c]=N3 x):∃k:By,c= .string (tx k):=by
 obtain⟨k,hc,_⟩:=DataW.trod_string underlying9 h
 exact⟨k.data.toList,by rw[lz];simpa using hc⟩
theorem GV{α:Type}{xs:List α}{n i:Nat}(h:xs.length=n)(hi:i<n):∃y,xs[i]?=N3 y:=⟨_,Oa Ot⟩
theorem fi{t:Oo}{m k:Nat}{fs:Array Field}{f:Field}{l:List N2}{xs:List (DataW H×List MemPlace)}(hlen:xs.length=fs.size)
  (hg:∀(i:Nat) (f:Field),fs[i]?=N3 f→DataW.trod enc prog w base sp held m f.type ((l.drop f.offset).take (prog.cellsOf f.type))=xs[i]?)(i:Nat)(hk:prog.cellsOf t=k)(hf:fs[i]?=N3 f)(ht:f.type=t):
  ∃y,xs[i]?=N3 y∧DataW.trod enc prog w base sp held m t ((l.drop f.offset).take k)=N3 y:=by
 obtain⟨y,hy⟩:=GV hlen (Od.1 hf).1
 subst ht hk
 exact⟨y,hy,(hg i f hf).trans hy⟩
theorem Db{n:Nat}{c0 c1:N2}{x:DataW H×List MemPlace}(h:DataW.trod enc prog w base sp held n 77 [c0,c1]=N3 x):∃(gf:Int) (gt:Int),c0= .int .i64 gf∧aN gf∧c1= .int .i64 gt∧aN gt:=by
 obtain⟨xs,m,_,_,_,hlen,hg⟩:=DataW.trod_struct underlying77 h
 obtain⟨y0,hy0,g0⟩:=fi hlen hg 0 aB rfl rfl
 obtain⟨a0,e0,b0⟩:=cj g0
 obtain⟨y1,hy1,g1⟩:=fi hlen hg 1 aB rfl rfl
 obtain⟨a1,e1,b1⟩:=cj g1
 exact⟨a0,a1,e0,b0,e1,b1⟩
theorem addr_add(b o k:Nat):(⟨b,o,N0⟩:Addr).add k=⟨b,o+k,N0⟩:=by unfold Addr.add;split <;>simp_all
theorem BR{n:Nat}{c:N2}{x:DataW H×List MemPlace}(h:DataW.trod enc prog w base sp held n 42 [c]=N3 x):
  ∃(ga:Option Addr) (gc:Nat) (gl:List (Int×Int)),c= .slice ga gl.length gc∧cU w w.heap.size ga gc gl∧∀p∈gl,aN p.1∧aN p.2:=by
 rcases open_slice underlying42 h with⟨hc,_⟩|⟨a,len,cap,m,n',D,Pl,hc,hb,hl,hm,hmm,hx,hi⟩
 ·obtain rfl:c= .slice N0 0 0:=by simpa using hc
  exact⟨N0,0,[],rfl,iY _ _,fun p hp=>by cases hp⟩
 ·obtain rfl:c= .slice (N3 a) len cap:=by simpa using hc
  have hml:len≤m:=by rw[hmm];split <;>omega
  have each:∀i,i<len→∃p:Int×Int,w.cell? (a.add (i*2))=N3 (.int .i64 p.1)∧w.cell? ((a.add (i*2)).add 1)=N3 (.int .i64 p.2)∧aN p.1∧aN p.2:=by
   intro i hil
   obtain⟨cs',hcs,ht⟩:=hi i Ot
   rw[BJ] at hcs
   obtain⟨_,hlen,hat⟩:=NY.cells?_some hcs
   match cs',hlen with
   |[u0,u1],_=>
    obtain⟨p,q,rfl,hp,rfl,hq⟩:=Db ht
    have h0:=hat 0 Ot
    have h1:=hat 1 Ot
    have e0:(a.add (i*2)).add 0=a.add (i*2):=by unfold Addr.add;simp
    rw[e0] at h0
    exact⟨(p,q),h0,h1,hp,hq⟩
  have hch:∃f:Nat→Int×Int,∀i,i<len→w.cell? (a.add (i*2))=N3 (.int .i64 (f i).1)∧w.cell? ((a.add (i*2)).add 1)=N3 (.int .i64 (f i).2)∧aN (f i).1∧aN (f i).2:=
   ⟨fun i=>if h:i<len then Classical.choose (each i h) else(0,0),fun i hil=>by
    have:=Classical.choose_spec (each i hil)
    simpa only[dif_pos hil] using this⟩
  obtain⟨f,hf⟩:=hch
  refine⟨N3 a,cap,(List.range len).map f,Ow,⟨PO,hm,fun h0=> ?_⟩,?_⟩
  ·have h0':0<len:=by simpa using h0
   obtain⟨b,o,s⟩:=a
   cases s with
   |some k=>
    have:=(hf 0 h0').1
    simp only[Nat.zero_mul,Addr.add,if_true] at this
    simp only[World.cell?] at this
    split at this<;>simp at this
   |none=>
    refine⟨b,o,rfl,?_,fun j hj=> ?_⟩
    ·have:=(hf 0 h0').1
     rw[addr_add] at this
     exact NY.block_lt_of_cell? w _ this
    ·have hj':j<len:=by simpa using hj
     obtain⟨q1,q2,_⟩:=hf j hj'
     rw[addr_add] at q1 q2
     rw[addr_add] at q2
     rw[Og] at q1 q2
     simp only[List.getElem_map,List.getElem_range]
     exact⟨q1,q2⟩
  ·intro p hp
   obtain⟨i,hir,rfl⟩:=List.mem_map.1 hp
   exact(hf i (by simpa using hir)).2.2
theorem sj{n:Nat}{c0 c1 c2 c3 c4 c5 c6:N2}{x:DataW H×List MemPlace}(h:DataW.trod enc prog w base sp held n 36 [c0,c1,c2,c3,c4,c5,c6]=N3 x):∃(sx:Int) (sy:Int) (srise:Int) (srun:Int) (gable:Bool) (splate:Int) (sover:Int),c0= .int .i64 sx∧aN sx∧c1= .int .i64 sy∧aN sy∧c2= .int .i64 srise∧aN srise∧c3= .int .i64 srun∧aN srun∧c4= .bool gable∧c5= .int .i64 splate∧aN splate∧c6= .int .i64 sover∧aN sover:=by
 obtain⟨xs,m,_,_,_,hlen,hg⟩:=DataW.trod_struct underlying36 h
 obtain⟨y0,hy0,g0⟩:=fi hlen hg 0 aB rfl rfl
 obtain⟨a0,e0,b0⟩:=cj g0
 obtain⟨y1,hy1,g1⟩:=fi hlen hg 1 aB rfl rfl
 obtain⟨a1,e1,b1⟩:=cj g1
 obtain⟨y2,hy2,g2⟩:=fi hlen hg 2 aB rfl rfl
 obtain⟨a2,e2,b2⟩:=cj g2
 obtain⟨y3,hy3,g3⟩:=fi hlen hg 3 aB rfl rfl
 obtain⟨a3,e3,b3⟩:=cj g3
 obtain⟨y4,hy4,g4⟩:=fi hlen hg 4 Ew rfl rfl
 obtain⟨a4,e4⟩:=Mn g4
 obtain⟨y5,hy5,g5⟩:=fi hlen hg 5 aB rfl rfl
 obtain⟨a5,e5,b5⟩:=cj g5
 obtain⟨y6,hy6,g6⟩:=fi hlen hg 6 aB rfl rfl
 obtain⟨a6,e6,b6⟩:=cj g6
 exact⟨a0,a1,a2,a3,a4,a5,a6,e0,b0,e1,b1,e2,b2,e3,b3,e4,e5,b5,e6,b6⟩
theorem lO{n:Nat}{c0 c1 c2 c3 c4:N2}{x:DataW H×List MemPlace}(h:DataW.trod enc prog w base sp held n 39 [c0,c1,c2,c3,c4]=N3 x):∃(oside:Int) (oleft:By) (oright:By) (olow:By) (ohigh:By),c0= .int .i64 oside∧aN oside∧c1= .string (tx oleft)∧c2= .string (tx oright)∧c3= .string (tx olow)∧c4= .string (tx ohigh):=by
 obtain⟨xs,m,_,_,_,hlen,hg⟩:=DataW.trod_struct underlying39 h
 obtain⟨y0,hy0,g0⟩:=fi hlen hg 0 aB rfl rfl
 obtain⟨a0,e0,b0⟩:=cj g0
 obtain⟨y1,hy1,g1⟩:=fi hlen hg 1 iT rfl rfl
 obtain⟨a1,e1⟩:=xm g1
 obtain⟨y2,hy2,g2⟩:=fi hlen hg 2 iT rfl rfl
 obtain⟨a2,e2⟩:=xm g2
 obtain⟨y3,hy3,g3⟩:=fi hlen hg 3 iT rfl rfl
 obtain⟨a3,e3⟩:=xm g3
 obtain⟨y4,hy4,g4⟩:=fi hlen hg 4 iT rfl rfl
 obtain⟨a4,e4⟩:=xm g4
 exact⟨a0,a1,a2,a3,a4,e0,b0,e1,e2,e3,e4⟩
theorem sq{n:Nat}{c0 c1 c2:N2}{x:DataW H×List MemPlace}(h:DataW.trod enc prog w base sp held n 41 [c0,c1,c2]=N3 x):∃(zkind:Int) (zwidth:Int) (zdepth:Int),c0= .int .i64 zkind∧aN zkind∧c1= .int .i64 zwidth∧aN zwidth∧c2= .int .i64 zdepth∧aN zdepth:=by
 obtain⟨xs,m,_,_,_,hlen,hg⟩:=DataW.trod_struct underlying41 h
 obtain⟨y0,hy0,g0⟩:=fi hlen hg 0 aB rfl rfl
 obtain⟨a0,e0,b0⟩:=cj g0
 obtain⟨y1,hy1,g1⟩:=fi hlen hg 1 aB rfl rfl
 obtain⟨a1,e1,b1⟩:=cj g1
 obtain⟨y2,hy2,g2⟩:=fi hlen hg 2 aB rfl rfl
 obtain⟨a2,e2,b2⟩:=cj g2
 exact⟨a0,a1,a2,e0,b0,e1,b1,e2,b2⟩
theorem sB{n:Nat}{c0 c1 c2:N2}{x:DataW H×List MemPlace}(h:DataW.trod enc prog w base sp held n 46 [c0,c1,c2]=N3 x):∃(lkind:Int) (lside:Int) (lweight:By),c0= .int .i64 lkind∧aN lkind∧c1= .int .i64 lside∧aN lside∧c2= .string (tx lweight):=by
 obtain⟨xs,m,_,_,_,hlen,hg⟩:=DataW.trod_struct underlying46 h
 obtain⟨y0,hy0,g0⟩:=fi hlen hg 0 aB rfl rfl
 obtain⟨a0,e0,b0⟩:=cj g0
 obtain⟨y1,hy1,g1⟩:=fi hlen hg 1 aB rfl rfl
 obtain⟨a1,e1,b1⟩:=cj g1
 obtain⟨y2,hy2,g2⟩:=fi hlen hg 2 iT rfl rfl
 obtain⟨a2,e2⟩:=xm g2
 exact⟨a0,a1,a2,e0,b0,e1,b1,e2⟩
theorem lQ{n:Nat}{c0 c1 c2 c3 c4:N2}{x:DataW H×List MemPlace}(h:DataW.trod enc prog w base sp held n 48 [c0,c1,c2,c3,c4]=N3 x):∃(awidth:Int) (adepth:Int) (aspacing:Int) (aload:Int) (aspan:Int),c0= .int .i64 awidth∧aN awidth∧c1= .int .i64 adepth∧aN adepth∧c2= .int .i64 aspacing∧aN aspacing∧c3= .int .i64 aload∧aN aload∧c4= .int .i64 aspan∧aN aspan:=by
 obtain⟨xs,m,_,_,_,hlen,hg⟩:=DataW.trod_struct underlying48 h
 obtain⟨y0,hy0,g0⟩:=fi hlen hg 0 aB rfl rfl
 obtain⟨a0,e0,b0⟩:=cj g0
 obtain⟨y1,hy1,g1⟩:=fi hlen hg 1 aB rfl rfl
 obtain⟨a1,e1,b1⟩:=cj g1
 obtain⟨y2,hy2,g2⟩:=fi hlen hg 2 aB rfl rfl
 obtain⟨a2,e2,b2⟩:=cj g2
 obtain⟨y3,hy3,g3⟩:=fi hlen hg 3 aB rfl rfl
 obtain⟨a3,e3,b3⟩:=cj g3
 obtain⟨y4,hy4,g4⟩:=fi hlen hg 4 aB rfl rfl
 obtain⟨a4,e4,b4⟩:=cj g4
 exact⟨a0,a1,a2,a3,a4,e0,b0,e1,b1,e2,b2,e3,b3,e4,b4⟩
theorem rh{n:Nat}{c0 c1 c2 c3:N2}{x:DataW H×List MemPlace}(h:DataW.trod enc prog w base sp held n 30 [c0,c1,c2,c3]=N3 x):∃(twidth:Int) (tlength:Int) (tlap:Int) (ttail:Int),c0= .int .i64 twidth∧aN twidth∧c1= .int .i64 tlength∧aN tlength∧c2= .int .i64 tlap∧aN tlap∧c3= .int .i64 ttail∧aN ttail:=by
 obtain⟨xs,m,_,_,_,hlen,hg⟩:=DataW.trod_struct underlying30 h
 obtain⟨y0,hy0,g0⟩:=fi hlen hg 0 aB rfl rfl
 obtain⟨a0,e0,b0⟩:=cj g0
 obtain⟨y1,hy1,g1⟩:=fi hlen hg 1 aB rfl rfl
 obtain⟨a1,e1,b1⟩:=cj g1
 obtain⟨y2,hy2,g2⟩:=fi hlen hg 2 aB rfl rfl
 obtain⟨a2,e2,b2⟩:=cj g2
 obtain⟨y3,hy3,g3⟩:=fi hlen hg 3 aB rfl rfl
 obtain⟨a3,e3,b3⟩:=cj g3
 exact⟨a0,a1,a2,a3,e0,b0,e1,b1,e2,b2,e3,b3⟩
theorem xP{n:Nat}{c0 c1 c2 c3 c4 c5:N2}{x:DataW H×List MemPlace}(h:DataW.trod enc prog w base sp held n 44 [c0,c1,c2,c3,c4,c5]=N3 x):∃(bwidth:Int) (bdepth:Int) (blength:Int) (bcount:Int) (bcost:Int) (ga:Option Addr) (gc:Nat) (gl:List (Int×Int)),c0= .int .i64 bwidth∧aN bwidth∧c1= .int .i64 bdepth∧aN bdepth∧c2= .int .i64 blength∧aN blength∧c3= .int .i64 bcount∧aN bcount∧c4= .int .i64 bcost∧aN bcost∧c5= .slice ga gl.length gc∧cU w w.heap.size ga gc gl∧∀p∈gl,aN p.1∧aN p.2:=by
 obtain⟨xs,m,_,_,_,hlen,hg⟩:=DataW.trod_struct underlying44 h
 obtain⟨y0,hy0,g0⟩:=fi hlen hg 0 aB rfl rfl
 obtain⟨a0,e0,b0⟩:=cj g0
 obtain⟨y1,hy1,g1⟩:=fi hlen hg 1 aB rfl rfl
 obtain⟨a1,e1,b1⟩:=cj g1
 obtain⟨y2,hy2,g2⟩:=fi hlen hg 2 aB rfl rfl
 obtain⟨a2,e2,b2⟩:=cj g2
 obtain⟨y3,hy3,g3⟩:=fi hlen hg 3 aB rfl rfl
 obtain⟨a3,e3,b3⟩:=cj g3
 obtain⟨y4,hy4,g4⟩:=fi hlen hg 4 aB rfl rfl
 obtain⟨a4,e4,b4⟩:=cj g4
 obtain⟨y5,hy5,g5⟩:=fi hlen hg 5 Cl rfl rfl
 obtain⟨ga,gc,gl,e5,b5,d5⟩:=BR g5
 exact⟨a0,a1,a2,a3,a4,ga,gc,gl,e0,b0,e1,b1,e2,b2,e3,b3,e4,b4,e5,b5,d5⟩
theorem eW{P:Int→Prop}{p:Prop}[Decidable p]{a b:List Int}(h1:∀n∈a,P n)(h2:∀n∈b,P n):∀n∈(if p then a else b),P n:=by split <;>assumption
theorem aa{l:List N2}{n:Nat}(h:l.length=n+1):∃a t,l=a::t∧t.length=n:=by
 cases l with
 |nil=>simp at h
 |cons a t=>exact⟨a,t,rfl,O5⟩
theorem Em(b:Bool):aN (Ns b):=by cases b<;>exact⟨Ov,Ov⟩
theorem Dl{e:Ed}(hx:aN e.index)(h1:aN e.sx)(h2:aN e.sy)(h3:aN e.srise)(h4:aN e.srun)(h5:aN e.splate)(h6:aN e.sover)(h7:aN e.oside)(h8:aN e.zwidth)(h9:aN e.zdepth)
  (b1:aN e.bwidth)(b2:aN e.bdepth)(b3:aN e.blength)(b4:aN e.bcount)(b5:aN e.bcost)(bg:∀p∈e.gaps,aN p.1∧aN p.2)(l1:aN e.lkind)(l2:aN e.lside)
  (a1:aN e.awidth)(a2:aN e.adepth)(a3:aN e.aspacing)(a4:aN e.aload)(a5:aN e.aspan)(t1:aN e.twidth)(t2:aN e.tlength)(t3:aN e.tlap)(t4:aN e.ttail)(hn:aN e.number):∀n∈gh e,aN n:=by
 have hbar:∀n∈[e.index,e.bwidth,e.bdepth,e.blength,e.bcount,e.bcost]++Ke e.gaps,aN n:=by
  intro n hm
  rcases List.mem_append.1 hm with hm|hm
  ·exact(all_cons hx (all_cons b1 (all_cons b2 (all_cons b3 (all_cons b4 (all_cons b5 (all_nil _))))))) n hm
  ·unfold Ke at hm
   obtain⟨p,hp,hq⟩:=List.mem_flatMap.1 hm
   have hg:=bg p hp
   rcases List.mem_cons.1 hq with rfl|hq
   ·exact hg.1
   ·rcases List.mem_cons.1 hq with rfl|hq
    ·exact hg.2
    ·cases hq
 unfold gh
 refine eW (all_nil _) (eW (all_cons hx (all_cons h1 (all_cons h2 (all_cons h3 (all_cons h4 (all_cons h5 (all_cons h6 (all_cons (Em _) (all_nil _)))))))))
  (eW (all_cons hx (all_cons hn (all_nil _))) (eW (all_cons hn (all_nil _)) (eW (all_cons hx (all_cons h7 (all_nil _))) (eW (all_cons h8 (all_cons h9 (all_nil _))) (eW hbar
  (eW (all_cons hn (all_nil _)) (eW (all_cons t1 (all_cons t2 (all_cons t3 (all_cons t4 (all_nil _))))) (eW (all_cons hx (all_cons l1 (all_cons l2 (all_nil _))))
  (eW (all_cons a1 (all_cons a2 (all_cons a3 (all_cons a4 (all_cons a5 (all_nil _)))))) (all_cons hx (all_nil _))))))))))))
theorem CN{r:Reach}{b0:Nat}{v:N2}{d:DataW H}{p:List MemPlace}(hv:N2.okWide prog w r b0 50 v)(h:DataW.Trod enc prog w base sp held 50 v d p):
  ∃(e:Ed) (ga:Option Addr) (gc:Nat),v= .agg (aG e (.slice ga e.gaps.length gc))∧cU w w.heap.size ga gc e.gaps∧(∀n∈gh e,aN n)∧aN e.index:=by
 obtain⟨cs,rfl,hsz⟩:=okWide_struct underlying50 hv
 obtain⟨l⟩:=cs
 have hl:l.length=37:=hsz.trans Cc
 clear hsz hv
 obtain⟨c0,l0,rfl,h0⟩:=aa hl
 obtain⟨c1,l1,rfl,h1⟩:=aa h0
 obtain⟨c2,l2,rfl,h2⟩:=aa h1
 obtain⟨c3,l3,rfl,h3⟩:=aa h2
 obtain⟨c4,l4,rfl,h4⟩:=aa h3
 obtain⟨c5,l5,rfl,h5⟩:=aa h4
 obtain⟨c6,l6,rfl,h6⟩:=aa h5
 obtain⟨c7,l7,rfl,h7⟩:=aa h6
 obtain⟨c8,l8,rfl,h8⟩:=aa h7
 obtain⟨c9,l9,rfl,h9⟩:=aa h8
 obtain⟨c10,l10,rfl,h10⟩:=aa h9
 obtain⟨c11,l11,rfl,h11⟩:=aa h10
 obtain⟨c12,l12,rfl,h12⟩:=aa h11
 obtain⟨c13,l13,rfl,h13⟩:=aa h12
 obtain⟨c14,l14,rfl,h14⟩:=aa h13
 obtain⟨c15,l15,rfl,h15⟩:=aa h14
 obtain⟨c16,l16,rfl,h16⟩:=aa h15
 obtain⟨c17,l17,rfl,h17⟩:=aa h16
 obtain⟨c18,l18,rfl,h18⟩:=aa h17
 obtain⟨c19,l19,rfl,h19⟩:=aa h18
 obtain⟨c20,l20,rfl,h20⟩:=aa h19
 obtain⟨c21,l21,rfl,h21⟩:=aa h20
 obtain⟨c22,l22,rfl,h22⟩:=aa h21
 obtain⟨c23,l23,rfl,h23⟩:=aa h22
 obtain⟨c24,l24,rfl,h24⟩:=aa h23
 obtain⟨c25,l25,rfl,h25⟩:=aa h24
 obtain⟨c26,l26,rfl,h26⟩:=aa h25
 obtain⟨c27,l27,rfl,h27⟩:=aa h26
 obtain⟨c28,l28,rfl,h28⟩:=aa h27
 obtain⟨c29,l29,rfl,h29⟩:=aa h28
 obtain⟨c30,l30,rfl,h30⟩:=aa h29
 obtain⟨c31,l31,rfl,h31⟩:=aa h30
 obtain⟨c32,l32,rfl,h32⟩:=aa h31
 obtain⟨c33,l33,rfl,h33⟩:=aa h32
 obtain⟨c34,l34,rfl,h34⟩:=aa h33
 obtain⟨c35,l35,rfl,h35⟩:=aa h34
 obtain⟨c36,l36,rfl,h36⟩:=aa h35
 obtain rfl:l36=[]:=List.length_eq_zero_iff.1 h36
 clear h0 h1 h2 h3 h4 h5 h6 h7 h8 h9 h10 h11 h12 h13 h14 h15 h16 h17 h18 h19 h20 h21 h22 h23 h24 h25 h26 h27 h28 h29 h30 h31 h32 h33 h34 h35 h36
 obtain⟨fuel,hf⟩:=h
 obtain⟨xs,m,_,_,_,hlen,hg⟩:=DataW.trod_struct underlying50 hf
 obtain⟨y0,hy0,g0⟩:=fi hlen hg 0 aB rfl rfl
 obtain⟨y1,hy1,g1⟩:=fi hlen hg 1 aB rfl rfl
 obtain⟨y2,hy2,g2⟩:=fi hlen hg 2 rJ rfl rfl
 obtain⟨y3,hy3,g3⟩:=fi hlen hg 3 sn rfl rfl
 obtain⟨y4,hy4,g4⟩:=fi hlen hg 4 qR rfl rfl
 obtain⟨y5,hy5,g5⟩:=fi hlen hg 5 rB rfl rfl
 obtain⟨y6,hy6,g6⟩:=fi hlen hg 6 rX rfl rfl
 obtain⟨y7,hy7,g7⟩:=fi hlen hg 7 rT rfl rfl
 obtain⟨y8,hy8,g8⟩:=fi hlen hg 8 qQ rfl rfl
 obtain⟨y9,hy9,g9⟩:=fi hlen hg 9 aB rfl rfl
 obtain⟨y10,hy10,g10⟩:=fi hlen hg 10 oE rfl rfl
 obtain⟨a0,rfl,b0⟩:=cj g0
 obtain⟨a1,rfl,b1⟩:=cj g1
 obtain⟨a2,a3,a4,a5,a6,a7,a8,rfl,b2,rfl,b3,rfl,b4,rfl,b5,rfl,rfl,b7,rfl,b8⟩:=sj g2
 obtain⟨a9,a10,a11,a12,a13,rfl,b9,rfl,rfl,rfl,rfl⟩:=lO g3
 obtain⟨a14,a15,a16,rfl,b14,rfl,b15,rfl,b16⟩:=sq g4
 obtain⟨a17,a18,a19,a20,a21,ga,gc,gl,rfl,b17,rfl,b18,rfl,b19,rfl,b20,rfl,b21,rfl,hgap,hgl⟩:=xP g5
 obtain⟨a23,a24,a25,rfl,b23,rfl,b24,rfl⟩:=sB g6
 obtain⟨a26,a27,a28,a29,a30,rfl,b26,rfl,b27,rfl,b28,rfl,b29,rfl,b30⟩:=lQ g7
 obtain⟨a31,a32,a33,a34,rfl,b31,rfl,b32,rfl,b33,rfl,b34⟩:=rh g8
 obtain⟨a35,rfl,b35⟩:=cj g9
 obtain⟨a36,rfl⟩:=IZ g10
 exact⟨⟨a0,a1,a2,a3,a4,a5,a6,a7,a8,a9,a10,a11,a12,a13,a14,a15,a16,a17,a18,a19,a20,a21,gl,a23,a24,a25,a26,a27,a28,a29,a30,a31,a32,a33,a34,a35,a36⟩,ga,gc,rfl,hgap,Dl b1 b2 b3 b4 b5 b7 b8 b9 b15 b16 b17 b18 b19 b20 b21 hgl b23 b24 b26 b27 b28 b29 b30 b31 b32 b33 b34 b35,b1⟩
end
end
section
variable {P : Program} {ops : Array Oper} {Q : Exit → Act → NY → Prop} {md : Region.Mode}
abbrev Ext(w w':NY):Prop:=On w.heap.size w w'
theorem Ext.size{w w':NY}(h:Ext w w'):w.heap.size≤w'.heap.size:=Below.size h
def qf(listed:Array Bool):Nat→Nat
 |0=>0
 |n+1=>qf listed n+if listed.getD n N1=Oc then 0 else 1
theorem jX{listed:Array Bool}{n:Nat}(h:qf listed n=0):∀i,i<n→listed.getD i N1=Oc:=by
 induction n with
 |zero=>intro i hi;omega
 |succ n ih=>
  rw[qf] at h
  intro i hi
  by_cases hin:i=n
  ·subst hin
   by_cases hl:listed.getD i N1=Oc
   ·exact hl
   ·rw[if_neg hl] at h;omega
  ·exact ih Ot i Ot
theorem nU{listed:Array Bool}{n m:Nat}(h:qf listed n=m+1):∃i,i<n∧listed.getD i N1=N1∧∀j,j<i→listed.getD j N1=Oc:=by
 induction n generalizing m with
 |zero=>rw[qf] at h;omega
 |succ n ih=>
  rw[qf] at h
  by_cases h0:qf listed n=0
  ·have hl:¬listed.getD n N1=Oc:=fun hl=>by rw[if_pos hl] at h;omega
   exact⟨n,Ot,PO,jX h0⟩
  ·obtain⟨i,hi,h1,h2⟩:=ih (m:=qf listed n-1) Ot
   exact⟨i,Ot,h1,h2⟩
theorem oe{listed:Array Bool}{n i m:Nat}(hi:i<n)(hs:n≤listed.size)(hl:listed.getD i N1=N1)(h:qf listed n=m+1):qf (listed.setIfInBounds i Oc) n=m:=by
 have key:∀n,n≤listed.size→qf (listed.setIfInBounds i Oc) n+(if i<n then 1 else 0)=qf listed n:=by
  intro n
  induction n with
  |zero=>intro _;rw[qf,qf];simp
  |succ n ih=>
   intro hs
   have:=ih Ot
   rw[qf,qf]
   by_cases hin:i=n
   ·subst hin
    have e:(listed.setIfInBounds i Oc).getD i N1=Oc:=by simp[show i<listed.size by omega]
    rw[if_pos e,hl]
    simp at this⊢;omega
   ·rw[getD_set_ne N1 hin]
    by_cases hlt:i<n
    ·rw[if_pos hlt] at this;rw[if_pos (show i<n+1 by omega)];omega
    ·rw[if_neg hlt] at this;rw[if_neg (show¬i<n+1 by omega)];omega
 have:=key n hs
 rw[if_pos hi] at this
 omega
structure Ln(n:Nat)(D:NY→Prop)(V:Nat→N2→NY→Prop)(fr:Nat→Bool)(listed:Array Bool)(vs:Nat→N2)(w:NY):Prop where
 d:D w
 v:∀i,i<n→listed.getD i N1=Oc→V i (vs i) w
 ne:∀i j,i<n→j<n→i≠j→fr i=Oc→fr j=Oc→listed.getD i N1=Oc→listed.getD j N1=Oc→vs i≠vs j
def E8(ops:Array Oper)(n:Nat):Bool:=(List.range n).all fun i=>((ops[i]?).map fun o=>o.after.all fun e=>decide (e.on<i)).getD N1
theorem iI{n i:Nat}{o:Oper}(h:E8 ops n=Oc)(hi:i<n)(ho:ops[i]?=N3 o):∀e∈o.after,e.on<i:=by
 have:=List.all_eq_true.1 h i (List.mem_range.2 hi)
 rw[ho] at this
 simp only[Option.map_some,Option.getD_some] at this
 intro e he
 have:=Array.all_eq_true_iff_forall_mem.1 this e he
 simpa using this
theorem yS{n:Nat}{tl:List Oper}(F:(Nat→N2)→Act)(D:NY→Prop)(V:Nat→N2→NY→Prop)(fr:Nat→Bool)
  (hs:Region.sinkB md ops n=Oc)(hc:Region.chainB md ops n=Oc)(hn:n<ops.size)
  (hseq:Region.seqB md ops (ops.size-n) n (Array.replicate n Oc++Array.replicate (ops.size-n) N1)=Oc)(hlex:E8 ops n=Oc)
  (htl:tl.length=ops.size-n)(htl':∀j,tl[j]?=ops[n+j]?)
  (hD:∀w w',D w→Ext w w'→D w')(hV:∀i v w w',V i v w→Ext w w'→V i v w')
  (hfr:∀i v w,i<n→fr i=Oc→V i v w→∃b,v= .pointer (N3 ⟨b,0,N0⟩)∧b<w.heap.size)
  (step:∀i o vs w,i<n→ops[i]?=N3 o→D w→(∀e∈o.after,Region.binds md e=Oc→V e.on (vs e.on) w)→
   wpOp P ops Q i (fun a' w'=>∃v,a'=F (fun j=>if j=i then v else vs j)∧Ext w w'∧V i v w'∧(fr i=Oc→∃b,v= .pointer (N3 ⟨b,0,N0⟩)∧w.heap.size≤b)) (F vs) w)
  (tail:∀vs w,D w→(∀i,i<n→V i (vs i) w)→(∀i j,i<n→j<n→i≠j→fr i=Oc→fr j=Oc→vs i≠vs j)→wpList P ops Q tl (F vs) w):
  ∀(f:Nat) (listed:Array Bool) (vs:Nat→N2) (w:NY),HeadInv md ops n listed→qf listed n=f→Ln n D V fr listed vs w→wpAny P md ops Q (f+(ops.size-n)) listed (F vs) w:=by
 intro f
 induction f with
 |zero=>
  intro listed vs w inv hu hI
  have hall:=jX hu
  have he:listed=Array.replicate n Oc++Array.replicate (ops.size-n) N1:=by
   apply Array.ext
   ·simp[inv.size];omega
   ·intro i h1 h2
    rw[inv.size] at h1
    by_cases hi:i<n
    ·have:=hall i hi
     simp[inv.size,h1] at this
     rw[Array.getElem_append_left Pz]
     simp[this]
    ·have:=inv.tail i Ot h1
     simp[inv.size,h1] at this
     rw[Array.getElem_append_right Pz]
     simp[this]
  rw[Nat.zero_add,←htl]
  refine wpAny_of_seq tl n listed (F vs) w htl' (by rw[htl,he];exact hseq) ?_
  exact tail vs w hI.d (fun i hi=>hI.v i hi (hall i hi)) (fun i j hi hj hij h1 h2=>hI.ne i j hi hj hij h1 h2 (hall i hi) (hall j hj))
 |succ f ih=>
  intro listed vs w inv hu hI
  obtain⟨i0,hi0,hun0,hbef⟩:=nU hu
  have hi0s:i0<listed.size:=Pg
  rw[show f+1+(ops.size-n)=(f+(ops.size-n))+1 by omega]
  refine⟨fun h0=> ?_,fun i hi=> ?_⟩
  ·have ho:ops[i0]?=N3 (ops[i0]'Ot):=Array.getElem?_eq_getElem Ot
   have:i0∈Region.ready md ops listed:=mem_ready.2 ⟨getD_in hi0s hun0,_,ho,fun e he _=>hbef _ (iI hlex hi0 ho e he)⟩
   rw[h0] at this;cases this
  ·have hin:i<n:=by
    rcases Nat.lt_or_ge i n with h|h
    ·exact h
    ·exact absurd hi (tail_waits hs hc hn inv (n-i0) i0 rfl hi0 (getD_in hi0s hun0) i h)
   obtain⟨hun,o,ho,hdep⟩:=mem_ready.1 hi
   have hun':=getD_both hun
   refine wpOp_mono ?_ (step i o vs w hin ho hI.d (fun e he hb=>hI.v _ (by have:=iI hlex hin ho e he;omega) (hdep e he hb)))
   rintro a' w' ⟨v,rfl,hx,hv,hf⟩
   refine ih _ _ w' (inv.set hi hin) (oe hin Pg hun' hu) ⟨hD _ _ hI.d hx,fun j hj hl=> ?_,fun j k hj hk hjk h1 h2 h3 h4=> ?_⟩
   ·by_cases hji:j=i
    ·subst hji;simpa using hv
    ·rw[getD_set_ne N1 (Ne.symm hji)] at hl
     simp only[if_neg hji]
     exact hV _ _ _ _ (hI.v j hj hl) hx
   ·by_cases hji:j=i
    ·subst hji
     rw[getD_set_ne N1 hjk] at h4
     simp only[if_pos,if_neg (Ne.symm hjk)]
     obtain⟨b,rfl,hb⟩:=hf h1
     obtain⟨b',e',hb'⟩:=hfr k _ _ hk h2 (hI.v k hk h4)
     rw[e']
     intro h;injection h with h;injection h with h;injection h with h;omega
    ·rw[getD_set_ne N1 (Ne.symm hji)] at h3
     by_cases hki:k=i
     ·subst hki
      simp only[if_pos,if_neg hji]
      obtain⟨b,rfl,hb⟩:=hf h2
      obtain⟨b',e',hb'⟩:=hfr j _ _ hj h1 (hI.v j hj h3)
      rw[e']
      intro h;injection h with h;injection h with h;injection h with h;omega
     ·rw[getD_set_ne N1 (Ne.symm hki)] at h4
      simp only[if_neg hji,if_neg hki]
      exact hI.ne j k hj hk hjk h1 h2 h3 h4
def JI:Exit→Act→NY→Prop:=fun _ _ _=>False
theorem AQ:¬LetsOut JI:=fun⟨_,_,h⟩=>h
theorem Oper.DL{o:Oper}{a:Act}{w:NY}{K:Act→NY→Prop}(h:o.wp P a w K JI):o.wp P a w K Q:=by
 unfold Oper.wp at *
 generalize(execOp a.eval o).run P w=r at *
 cases r with
 |ok x w'=>
  cases x with
  |value v=>exact h
  |skip=>exact h
  |defer d=>exact h
  |enter f args=>exact Of.mono h (fun e w'' he=>by cases e<;>first|exact he|exact absurd he AQ|exact he.elim)
  |row row args=>exact h
  |_=>exact h.elim
 |halt x w'=>
  cases x with
  |panic v=>exact h.elim
  |_=>exact h.elim
structure gP(P:Program)(Fc:Fence)(mm:Nat):Prop where
 op:∀(o:Oper) (a:Act) (w:NY) (K:Act→NY→Prop) (Q:Exit→Act→NY→Prop),(∀c,o.op≠ .defer c)→o.wp P a w K Q→o.wpIn Fc mm P a w K Q
 fn:∀f,Fc.fn f
theorem aJ(l mm:Nat):gP P (Fence.wide.inRound l) mm:=⟨fun _ _ _ _ _ hd h=>Oper.vm hd h,fun _=>trivial⟩
theorem wN(mm:Nat):gP P Fence.wide mm:=by
 refine⟨fun o a w K Q hd h=>⟨fun _ _=>trivial,?_⟩,fun _=>trivial⟩
 show Oper.uponIn _ _ _ _ _ _ _ ((o.semAt N0 a.eval).run P w)
 unfold Oper.wp at h
 have e:o.semAt N0 a.eval=execOp a.eval o:=rfl
 rw[e]
 generalize(execOp a.eval o).run P w=r at *
 cases r with
 |ok x w'=>
  cases x with
  |value v=>exact h
  |skip=>exact h
  |defer d=>exact h
  |enter f args=>exact⟨fun h=>Ox,callsIn_wide.2 h⟩
  |row row args=>exact⟨fun h=>Ox,nk (n:=mm-1) h⟩
  |_=>exact h.elim
 |halt x w'=>
  cases x with
  |panic v=>exact h
  |_=>exact h.elim
theorem mR{Fc:Fence}{mm:Nat}(hP:gP P Fc mm)(hnd:fO ops=Oc){i:Nat}{K:Act→NY→Prop}{a:Act}{w:NY}(h:wpOp P ops JI i K a w):wpOpIn Fc mm P ops Q i K a w:=by
 unfold wpOp at h
 unfold wpOpIn
 cases ho:ops[i]? with
 |none=>rw[ho] at h;exact h
 |some o=>
  rw[ho] at h
  simp only at h⊢
  split
  ·rename_i hw
   rw[if_pos hw] at h
   rcases h with h|⟨_,h⟩
   ·exact hP.op o a w K Q (fun c=>jd hnd ho c) (Oper.DL h)
   ·exact absurd h AQ
  ·rename_i hw
   rw[if_neg hw] at h
   exact⟨fun f _=>hP.fn f,h⟩
theorem ie{Fc:Fence}{mm:Nat}(hP:gP P Fc mm):∀(l:List Oper) (k:Nat) (listed:Array Bool) (a:Act) (w:NY),(∀j,l[j]?=ops[k+j]?)→
  Region.seqB md ops l.length k listed=Oc→wpListIn Fc mm P ops Q l a w→wpAnyIn Fc mm P md ops Q l.length listed a w
 |[],_,_,_,_,_,hB,h=>⟨by simpa[Region.seqB] using hB,h⟩
 |o::l,k,listed,a,w,hl,hB,h=>by
  have h0:ops[k]?=N3 o:=by simpa using(hl 0).symm
  simp only[List.length_cons,Region.seqB,Bool.and_eq_true,decide_eq_true_eq] at hB
  refine⟨fun h1=>(by rw[hB.1] at h1;cases h1),fun i hi=> ?_⟩
  rw[hB.1] at hi
  have hik:i=k:=Pz
  subst hik
  have hw:wpOpIn Fc mm P ops Q i (wpListIn Fc mm P ops Q l) a w:=by unfold wpOpIn;simp only[h0];exact h
  exact wpOpIn_mono (fun a' w' h'=>ie hP l (i+1) _ a' w' (fun j=>by have:=hl (j+1);simpa[Nat.add_assoc,Nat.add_comm 1 j] using this) hB.2 h') hw
theorem uR{Fc:Fence}{mm:Nat}(hP:gP P Fc mm)(hnd:fO ops=Oc){n:Nat}{tl:List Oper}(F:(Nat→N2)→Act)(D:NY→Prop)(V:Nat→N2→NY→Prop)(fr:Nat→Bool)
  (hs:Region.sinkB md ops n=Oc)(hc:Region.chainB md ops n=Oc)(hn:n<ops.size)
  (hseq:Region.seqB md ops (ops.size-n) n (Array.replicate n Oc++Array.replicate (ops.size-n) N1)=Oc)(hlex:E8 ops n=Oc)
  (htl:tl.length=ops.size-n)(htl':∀j,tl[j]?=ops[n+j]?)
  (hD:∀w w',D w→Ext w w'→D w')(hV:∀i v w w',V i v w→Ext w w'→V i v w')
  (hfr:∀i v w,i<n→fr i=Oc→V i v w→∃b,v= .pointer (N3 ⟨b,0,N0⟩)∧b<w.heap.size)
  (step:∀i o vs w,i<n→ops[i]?=N3 o→D w→(∀e∈o.after,Region.binds md e=Oc→V e.on (vs e.on) w)→
   wpOp P ops JI i (fun a' w'=>∃v,a'=F (fun j=>if j=i then v else vs j)∧Ext w w'∧V i v w'∧(fr i=Oc→∃b,v= .pointer (N3 ⟨b,0,N0⟩)∧w.heap.size≤b)) (F vs) w)
  (tail:∀vs w,D w→(∀i,i<n→V i (vs i) w)→(∀i j,i<n→j<n→i≠j→fr i=Oc→fr j=Oc→vs i≠vs j)→wpListIn Fc mm P ops Q tl (F vs) w):
  ∀(f:Nat) (listed:Array Bool) (vs:Nat→N2) (w:NY),HeadInv md ops n listed→qf listed n=f→Ln n D V fr listed vs w→wpAnyIn Fc mm P md ops Q (f+(ops.size-n)) listed (F vs) w:=by
 intro f
 induction f with
 |zero=>
  intro listed vs w inv hu hI
  have hall:=jX hu
  have he:listed=Array.replicate n Oc++Array.replicate (ops.size-n) N1:=by
   apply Array.ext
   ·simp[inv.size];omega
   ·intro i h1 h2
    rw[inv.size] at h1
    by_cases hi:i<n
    ·have:=hall i hi
     simp[inv.size,h1] at this
     rw[Array.getElem_append_left Pz]
     simp[this]
    ·have:=inv.tail i Ot h1
     simp[inv.size,h1] at this
     rw[Array.getElem_append_right Pz]
     simp[this]
  rw[Nat.zero_add,←htl]
  refine ie hP tl n listed (F vs) w htl' (by rw[htl,he];exact hseq) ?_
  exact tail vs w hI.d (fun i hi=>hI.v i hi (hall i hi)) (fun i j hi hj hij h1 h2=>hI.ne i j hi hj hij h1 h2 (hall i hi) (hall j hj))
 |succ f ih=>
  intro listed vs w inv hu hI
  obtain⟨i0,hi0,hun0,hbef⟩:=nU hu
  have hi0s:i0<listed.size:=Pg
  rw[show f+1+(ops.size-n)=(f+(ops.size-n))+1 by omega]
  refine⟨fun h0=> ?_,fun i hi=> ?_⟩
  ·have ho:ops[i0]?=N3 (ops[i0]'Ot):=Array.getElem?_eq_getElem Ot
   have:i0∈Region.ready md ops listed:=mem_ready.2 ⟨getD_in hi0s hun0,_,ho,fun e he _=>hbef _ (iI hlex hi0 ho e he)⟩
   rw[h0] at this;cases this
  ·have hin:i<n:=by
    rcases Nat.lt_or_ge i n with h|h
    ·exact h
    ·exact absurd hi (tail_waits hs hc hn inv (n-i0) i0 rfl hi0 (getD_in hi0s hun0) i h)
   obtain⟨hun,o,ho,hdep⟩:=mem_ready.1 hi
   have hun':=getD_both hun
   refine wpOpIn_mono ?_ (mR hP hnd (step i o vs w hin ho hI.d (fun e he hb=>hI.v _ (by have:=iI hlex hin ho e he;omega) (hdep e he hb))))
   rintro a' w' ⟨v,rfl,hx,hv,hf⟩
   refine ih _ _ w' (inv.set hi hin) (oe hin Pg hun' hu) ⟨hD _ _ hI.d hx,fun j hj hl=> ?_,fun j k hj hk hjk h1 h2 h3 h4=> ?_⟩
   ·by_cases hji:j=i
    ·subst hji;simpa using hv
    ·rw[getD_set_ne N1 (Ne.symm hji)] at hl
     simp only[if_neg hji]
     exact hV _ _ _ _ (hI.v j hj hl) hx
   ·by_cases hji:j=i
    ·subst hji
     rw[getD_set_ne N1 hjk] at h4
     simp only[if_pos,if_neg (Ne.symm hjk)]
     obtain⟨b,rfl,hb⟩:=hf h1
     obtain⟨b',e',hb'⟩:=hfr k _ _ hk h2 (hI.v k hk h4)
     rw[e']
     intro h;injection h with h;injection h with h;injection h with h;omega
    ·rw[getD_set_ne N1 (Ne.symm hji)] at h3
     by_cases hki:k=i
     ·subst hki
      simp only[if_pos,if_neg hji]
      obtain⟨b,rfl,hb⟩:=hf h2
      obtain⟨b',e',hb'⟩:=hfr j _ _ hj h1 (hI.v j hj h3)
      rw[e']
      intro h;injection h with h;injection h with h;injection h with h;omega
     ·rw[getD_set_ne N1 (Ne.symm hki)] at h4
      simp only[if_neg hji,if_neg hki]
      exact hI.ne j k hj hk hjk h1 h2 h3 h4
theorem ml(m n:Nat):qf (Array.replicate m N1) n=n:=by
 induction n with
 |zero=>rfl
 |succ n ih=>rw[qf,ih,getD_replicate_false];simp
def Cp(ops:Array Oper)(n:Nat):Bool:=
 decide (n<ops.size)&&Region.sinkB .any ops n&&Region.chainB .any ops n&&Region.seqB .any ops (ops.size-n) n (Array.replicate n Oc++Array.replicate (ops.size-n) N1)&&E8 ops n
theorem bA{l:List Oper}(n:Nat)(F:(Nat→N2)→Act)(D:NY→Prop)(V:Nat→N2→NY→Prop)(fr:Nat→Bool)(hB:Cp l.toArray n=Oc)
  (hD:∀w w',D w→Ext w w'→D w')(hV:∀i v w w',V i v w→Ext w w'→V i v w')
  (hfr:∀i v w,i<n→fr i=Oc→V i v w→∃b,v= .pointer (N3 ⟨b,0,N0⟩)∧b<w.heap.size)
  (step:∀i vs w,i<n→D w→(∀j,Region.waitsFor .any l.toArray i j=Oc→V j (vs j) w)→
   wpOp P l.toArray Q i (fun a' w'=>∃v,a'=F (fun j=>if j=i then v else vs j)∧Ext w w'∧V i v w'∧(fr i=Oc→∃b,v= .pointer (N3 ⟨b,0,N0⟩)∧w.heap.size≤b)) (F vs) w)
  (tail:∀vs w,D w→(∀i,i<n→V i (vs i) w)→(∀i j,i<n→j<n→i≠j→fr i=Oc→fr j=Oc→vs i≠vs j)→wpList P l.toArray Q (l.drop n) (F vs) w)
  (vs:Nat→N2)(w:NY)(h0:D w):wpAny P .any l.toArray Q l.toArray.size (Array.replicate l.toArray.size N1) (F vs) w:=by
 simp only[Cp,Bool.and_eq_true,decide_eq_true_eq] at hB
 obtain⟨⟨⟨⟨hn,hs⟩,hc⟩,hseq⟩,hlex⟩:=hB
 have:=yS (tl:=l.drop n) F D V fr hs hc hn hseq hlex Ow (fun j=>by simp[List.getElem?_drop]) hD hV hfr
  (fun i o vs w hi ho hd hdep=>step i vs w hi hd (fun j hj=>by
   obtain⟨oj,hoj,e,he,hb,rfl⟩:=Region.waitsFor_spec hj
   obtain rfl:=Option.some.inj (ho.symm.trans hoj)
   exact hdep e he hb)) tail n (Array.replicate l.toArray.size N1) vs w
  ⟨Ow,fun j oj _ hl=>OS,fun t _ ht=>getD_in (by simpa using ht) (getD_replicate_false _ _)⟩ (ml _ _)
  ⟨h0,fun i _ hl=>OS,fun i j _ _ _ _ _ hl=>OS⟩
 rwa[show n+(l.toArray.size-n)=l.toArray.size by omega] at this
theorem jg{Fc:Fence}{mm:Nat}(hP:gP P Fc mm){l:List Oper}(hnd:fO l.toArray=Oc)(n:Nat)(F:(Nat→N2)→Act)(D:NY→Prop)(V:Nat→N2→NY→Prop)(fr:Nat→Bool)(hB:Cp l.toArray n=Oc)
  (hD:∀w w',D w→Ext w w'→D w')(hV:∀i v w w',V i v w→Ext w w'→V i v w')
  (hfr:∀i v w,i<n→fr i=Oc→V i v w→∃b,v= .pointer (N3 ⟨b,0,N0⟩)∧b<w.heap.size)
  (step:∀i vs w,i<n→D w→(∀j,Region.waitsFor .any l.toArray i j=Oc→V j (vs j) w)→
   wpOp P l.toArray JI i (fun a' w'=>∃v,a'=F (fun j=>if j=i then v else vs j)∧Ext w w'∧V i v w'∧(fr i=Oc→∃b,v= .pointer (N3 ⟨b,0,N0⟩)∧w.heap.size≤b)) (F vs) w)
  (tail:∀vs w,D w→(∀i,i<n→V i (vs i) w)→(∀i j,i<n→j<n→i≠j→fr i=Oc→fr j=Oc→vs i≠vs j)→wpListIn Fc mm P l.toArray Q (l.drop n) (F vs) w)
  (vs:Nat→N2)(w:NY)(h0:D w):wpAnyIn Fc mm P .any l.toArray Q l.toArray.size (Array.replicate l.toArray.size N1) (F vs) w:=by
 simp only[Cp,Bool.and_eq_true,decide_eq_true_eq] at hB
 obtain⟨⟨⟨⟨hn,hs⟩,hc⟩,hseq⟩,hlex⟩:=hB
 have:=uR hP hnd (tl:=l.drop n) F D V fr hs hc hn hseq hlex Ow (fun j=>by simp[List.getElem?_drop]) hD hV hfr
  (fun i o vs w hi ho hd hdep=>step i vs w hi hd (fun j hj=>by
   obtain⟨oj,hoj,e,he,hb,rfl⟩:=Region.waitsFor_spec hj
   obtain rfl:=Option.some.inj (ho.symm.trans hoj)
   exact hdep e he hb)) tail n (Array.replicate l.toArray.size N1) vs w
  ⟨Ow,fun j oj _ hl=>OS,fun t _ ht=>getD_in (by simpa using ht) (getD_replicate_false _ _)⟩ (ml _ _)
  ⟨h0,fun i _ hl=>OS,fun i j _ _ _ _ _ hl=>OS⟩
 rwa[show n+(l.toArray.size-n)=l.toArray.size by omega] at this
theorem kQ{Fc:Fence}{mm:Nat}(hP:gP P Fc mm){R:Act→NY→Prop}(hnd:fO ops=Oc):∀(l:List Oper) (k:Nat) (a:Act) (w:NY),(∀j,j<l.length→l[j]?=ops[k+j]?)→wpList P ops (jj R) l a w→wpListIn Fc mm P ops (Exit.then R (fun _ _ _=>False)) l a w
 |[],_,_,_,_,h=>h
 |o::l,k,a,w,hl,h=>by
  have h0:ops[k]?=N3 o:=by simpa using(hl 0 Ow).symm
  have hr:=fun a w=>kQ hP hnd l (k+1) a w (R:=R) (fun j hj=>by have:=hl (j+1) OB;simpa[Nat.add_assoc,Nat.add_comm 1 j] using this)
  unfold wpList at h
  unfold wpListIn
  split
  ·rename_i hw
   rw[if_pos hw] at h
   rcases h with h|⟨_,_,_,h⟩
   ·refine hP.op o a w _ _ (fun c=>jd hnd h0 c) ?_
    refine Oper.DL (Oper.wp_mono hr ?_)
    unfold Oper.wp at *
    generalize(execOp a.eval o).run P w=r at *
    cases r with
    |ok x w'=>
     cases x with
     |enter f args=>exact Of.mono h (fun e w'' he=>by cases e<;>first|exact he|(obtain⟨_,_,he⟩:=he;exact he.elim)|exact he.elim)
     |_=>exact h
    |halt x w'=>
     cases x with
     |panic v=>exact h.elim
     |_=>exact h.elim
   ·exact h.elim
  ·rename_i hw
   rw[if_neg hw] at h
   exact⟨fun f _=>hP.fn f,hr _ _ h⟩
theorem bQ{Fc:Fence}{mm:Nat}(hP:gP P Fc mm){id:Nat}{l:List Oper}{a:Act}{w:NY}(hnd:fO l.toArray=Oc)(h:wpList P l.toArray (jj (Q .normal)) l a w):(Code.region id l.toArray N1).wpIn Fc mm P Q a w:=
 wpIn_mono (wpIn_region_lit (kQ hP hnd l 0 a w (fun j _=>Ow) h)) (fun e a w q=>by cases e<;>first|exact q|exact q.elim)
theorem aZ{Fc:Fence}{mm:Nat}(hP:gP P Fc mm){rest:List Oper}{o:Oper}{a:Act}{w:NY}(hgd:o.guard=N0)(ty:Oo)(x:Operand)(ho:o.op= .load ty x)
  (g:Nat)(hx:a.eval x= .pointer (N3 ⟨g,0,N0⟩))(t:Oo)(cs:Array N2)(fr:Nat×Nat)(d:TypeDesc)(hg:w.heap[g]?=N3 (.cells cs t fr))
  (hu:P.underlying ty=N3 d)(hd:(match d with| .struct _| .array _ _=>Oc|_=>N1)=Oc)(hi:(P.info? ty).map (·.size)=N3 cs.size)
  (h:wpListIn Fc mm P ops Q rest (a.put o.dst (.agg cs)) w):wpListIn Fc mm P ops Q (o::rest) a w:=
 wpListIn_plain hgd fun _ hK=>hP.op _ _ _ _ _ (by rw[ho];intro c h;cases h) (wp_load_row ty x ho g hx t cs fr d hg hu hd hi (hK _ _ h))
theorem gQ{i:Nat}{o:Oper}{a:Act}{w:NY}{K:Act→NY→Prop}(ho:ops[i]?=N3 o)(hg:o.guard=N0)(h:o.wp P a w K Q):wpOp P ops Q i K a w:=by
 unfold wpOp
 simp only[ho,Region.wanted,hg,if_true]
 exact .inl h
theorem Ext.an(w:NY):Ext w w:=Below.refl _ _
theorem Ext.tr{a b c:NY}(h:Ext a b)(k:Ext b c):Ext a c:=h.trans (k.mono h.size)
theorem Ext.dr(w:NY):Ext w w.drew:=(Below.refl _ _).drew
end
section
open Kp
theorem aE{w:NY}{base:Nat}{e:Oo}{n s:Nat}{v:N2}{xs:List N2}(h:w.ownsRow base e s v n xs):∀k,v.ownBlock=N3 k→base≤k∧k<w.heap.size:=by
 obtain⟨_,⟨rfl,_⟩|⟨g,cap,cur,rfl,hb,hh,_⟩⟩:=h
 ·intro k hk;cases hk
 ·intro k hk
  have:g=k:=by simpa[Value.ownBlock] using hk
  subst this
  exact⟨hb,(Od.1 hh).1⟩
theorem bB{w w':NY}{base:Nat}{e:Oo}{n s:Nat}{v:N2}{xs:List N2}(h:w.ownsRow base e s v n xs)(hx:Ext w w'):w'.ownsRow base e s v n xs:=by
 obtain⟨hl,h0|⟨g,cap,cur,rfl,hb,hh,h1⟩⟩:=h
 ·exact⟨hl,.inl h0⟩
 ·exact⟨hl,.inr ⟨g,cap,cur,rfl,hb,(hx.block g (Od.1 hh).1).trans hh,h1⟩⟩
theorem o5{w w':NY}{n0 base:Nat}{e:Oo}{n s:Nat}{v:N2}{xs:List N2}(h:w.ownsRow base e s v n xs)(hs:al n0 w w'):w'.ownsRow base e s v n xs:=by
 obtain⟨hl,h0|⟨g,cap,cur,rfl,hb,hh,h1⟩⟩:=h
 ·exact⟨hl,.inl h0⟩
 ·exact⟨hl,.inr ⟨g,cap,cur,rfl,hb,hs.cells _ _ _ _ hh,h1⟩⟩
theorem di{w:NY}{base:Nat}{e:Oo}{n s:Nat}{v:N2}{xs:List N2}(h:w.ownsRow base e s v n xs){p:Addr}(hp:v.ownBlock≠N3 p.block)(x:N2):(w.setCell p x).ownsRow base e s v n xs:=by
 obtain⟨hl,h0|⟨g,cap,cur,rfl,hb,hh,h1⟩⟩:=h
 ·exact⟨hl,.inl h0⟩
 ·refine⟨hl,.inr ⟨g,cap,cur,rfl,hb,(Below.heap_setCell _ _ _ _ (fun e=>hp ?_)).trans hh,h1⟩⟩
  rw[e];rfl
theorem eM{w0 w w':NY}{row:Option Nat}(h:Ext w0 w)(hg:w.grownBy w' row)(hr:∀k,row=N3 k→w0.heap.size≤k):Ext w0 w':=
 On.grown h hg (Below.size h) hr
def lW(v:N2):Prop:=∃A n c,v= .slice A n c
theorem lW.of{w:NY}{base:Nat}{e:Oo}{n s:Nat}{v:N2}{xs:List N2}(h:w.ownsRow base e s v n xs):lW v:=by
 obtain⟨_,⟨rfl,_⟩|⟨g,cap,cur,rfl,_⟩⟩:=h
 ·exact⟨_,_,_,rfl⟩
 ·exact⟨_,_,_,rfl⟩
def bK(f:Nat→Nat×Nat)(k:Nat):List Nat:=(List.range k).map fun i=>(f (i+1)).1
theorem ee(f:Nat→Nat×Nat)(k:Nat):bK f (k+1)=bK f k++[(f (k+1)).1]:=by
 unfold bK;rw[List.range_succ,List.map_append];rfl
theorem aY(f:Nat→Nat×Nat)(k:Nat):(bK f k).length=k:=by unfold bK;rw[N9,List.length_range]
abbrev oo(l:List Nat):List N2:=l.map fun(d:Nat)=>Value.int .i64 (d:Int)
def Nl(w:NY)(f:Nat→Nat×Nat)(n:Nat)(v c i:N2)(wr:NY):Prop:=
 ∃k:Nat,k≤n∧i= .int .i64 (k:Int)∧c= .int .i64 ((f k).2:Int)∧wr.ownsRow w.heap.size 3 1 v k (oo (bK f k))∧Ext w wr
theorem dX{w:NY}{base n:Nat}{v:N2}{l:List Nat}(h:w.ownsRow base 3 1 v n (oo l))(hn:l.length=n):aR w w.heap.size v l:=by
 subst hn
 obtain⟨hl,⟨rfl,h0⟩|⟨g,cap,cur,rfl,hb,hh,h1,h2,h3,h4⟩⟩:=h
 ·exact⟨N0,0,by rw[h0],Ot,OE,fun hp=>Ot⟩
 ·refine⟨_,cap,rfl,h1,h2,fun hp=>⟨g,0,rfl,(Od.1 hh).1,fun j hj=> ?_⟩⟩
  have h5:(oo l)[j]?=N3 (.int .i64 (fv l j)):=by rw[List.getElem?_map,Oa hj,jA hj];rfl
  rw[←h4,List.getElem?_take,if_pos Ot] at h5
  rw[Nat.zero_add]
  simpa[World.cell?,hh] using h5
end
section
open Kp
theorem oO{k:IntKind}{a b a' b':Int}(h1:a=a')(h2:b=b'):Ending.returned (.tuple #[.int k a,.int k b])= .returned (.tuple #[.int k a',.int k b']):=by rw[h1,h2]
theorem Bg(x y c:Nat)(w:NY)(hx:x<1000000000)(hy:y<1000000000)(hc:c≤1):
  Of prog 317 #[.int .i64 (x:Int),.int .i64 (y:Int),.int .i64 (c:Int)] w fun e w'=>e= .returned (.tuple #[.int .i64 (((x+y+c)%1000000000:Nat):Int),.int .i64 (((x+y+c)/1000000000:Nat):Int)])∧w'=w:=by
 have e1:((x:Int)+(y:Int)+(c:Int))%1000000000=(((x+y+c)%1000000000:Nat):Int):=Ot
 have e2:((x:Int)+(y:Int)+(c:Int))/1000000000=(((x+y+c)/1000000000:Nat):Int):=Ot
 have E1:=NW e1
 have E2:=NW e2
 clear e1 e2
 go_enter func317,ntmps317
 go_wp2
 go_ret2
 exact⟨oO E1.out E2.out,rfl⟩
theorem zu(x y c:Nat)(w:NY)(hx:x<1000000000)(hy:y<1000000000)(hc:c≤1):
  Of prog 318 #[.int .i64 (x:Int),.int .i64 (y:Int),.int .i64 (c:Int)] w fun e w'=>e= .returned (.tuple #[.int .i64 ((if y+c≤x then x-(y+c) else x+1000000000-(y+c):Nat):Int),.int .i64 ((if y+c≤x then 0 else 1:Nat):Int)])∧w'=w:=by
 by_cases h:y+c≤x
 ·have E1:=NW (show(x:Int)-y-c=((x-(y+c):Nat):Int) by omega)
  have t:decide (0≤(x:Int)-y-c)=Oc:=OH
  go_enter func318,ntmps318
  go_wp2
  go_ret2
  exact⟨oO E1.out rfl,rfl⟩
 ·have E1:=NW (show(x:Int)-y-c+1000000000=((x+1000000000-(y+c):Nat):Int) by omega)
  have t:decide (0≤(x:Int)-y-c)=N1:=Oz
  go_enter func318,ntmps318
  go_wp2
  go_ret2
  exact⟨oO E1.out rfl,rfl⟩
def kx(a b:List Nat):Nat→Nat×Nat
 |0=>(0,0)
 |k+1=>((fv a k+fv b k+(kx a b k).2)%1000000000,(fv a k+fv b k+(kx a b k).2)/1000000000)
def jz(a b:List Nat):Nat→Nat×Nat
 |0=>(0,0)
 |k+1=>(if fv b k+(jz a b k).2≤fv a k then fv a k-(fv b k+(jz a b k).2) else fv a k+1000000000-(fv b k+(jz a b k).2),if fv b k+(jz a b k).2≤fv a k then 0 else 1)
theorem Ei{a b:List Nat}(ha:Small a)(hb:Small b)(k:Nat):(kx a b k).2≤1∧(kx a b (k+1)).1<1000000000:=by
 have key:∀k,(kx a b k).2≤1:=by
  intro k
  cases k with
  |zero=>exact Nat.zero_le _
  |succ k=>
   induction k with
   |zero=>
    have h1:=ai ha 0
    have h2:=ai hb 0
    show(fv a 0+fv b 0+0)/1000000000≤1
    have h1':fv a 0<1000000000:=h1
    have h2':fv b 0<1000000000:=h2
    omega
   |succ k ih=>
    have h1:fv a (k+1)<1000000000:=ai ha _
    have h2:fv b (k+1)<1000000000:=ai hb _
    show(fv a (k+1)+fv b (k+1)+(kx a b (k+1)).2)/1000000000≤1
    omega
 exact⟨key k,Nat.mod_lt _ Ov⟩
theorem zq{a b:List Nat}(ha:Small a)(hb:Small b)(k:Nat):(jz a b k).2≤1∧(jz a b (k+1)).1<1000000000:=by
 have key:∀k,(jz a b k).2≤1:=by
  intro k
  cases k with
  |zero=>exact Nat.zero_le _
  |succ k=>show(if _ then 0 else 1)≤1;split <;>omega
 refine⟨key k,?_⟩
 have h1:fv a k<1000000000:=ai ha _
 have h2:fv b k<1000000000:=ai hb _
 have h3:=key k
 rw[jz]
 dsimp only
 by_cases h:fv b k+(jz a b k).2≤fv a k
 ·rw[if_pos h];omega
 ·rw[if_neg h];omega
theorem Hr{a b:List Nat}(k:Nat):S (fv (bK (kx a b) k)) k+(kx a b k).2*B^k=S (fv a) k+S (fv b) k:=by
 induction k with
 |zero=>rfl
 |succ k ih=>
  have e:S (fv (bK (kx a b) (k+1))) k=S (fv (bK (kx a b) k)) k:=dO fun i hi=>by
   rw[ee];unfold fv;simp[List.getElem?_append_left,aY,hi]
  have e2:fv (bK (kx a b) (k+1)) k=(kx a b (k+1)).1:=by
   rw[ee];unfold fv
   rw[N8,List.getElem?_append_right (by rw[aY];omega),aY];simp
  rw[bn,bn,bn,e,e2,Nat.pow_succ]
  have h:=Nat.div_add_mod (fv a k+fv b k+(kx a b k).2) 1000000000
  have h1:(kx a b (k+1)).1=(fv a k+fv b k+(kx a b k).2)%1000000000:=rfl
  have h2:(kx a b (k+1)).2=(fv a k+fv b k+(kx a b k).2)/1000000000:=rfl
  rw[←h1,←h2] at h
  have h3:=congrArg (· *B^k) h
  simp only[Nat.add_mul] at h3
  have h4:(kx a b (k+1)).2*(B^k*B)=1000000000*(kx a b (k+1)).2*B^k:=by
   show _=B*(kx a b (k+1)).2*B^k
   rw[Og (B^k) B,←Nat.mul_assoc,Og _ B]
  rw[h4]
  generalize 1000000000*(kx a b (k+1)).2*B^k=u at *
  generalize(kx a b (k+1)).1*B^k=v at *
  generalize fv a k*B^k=p at *
  generalize fv b k*B^k=q at *
  generalize(kx a b k).2*B^k=r at *
  omega
theorem Hu{a b:List Nat}(ha:Small a)(hb:Small b)(k:Nat):S (fv (bK (jz a b) k)) k+S (fv b) k=S (fv a) k+(jz a b k).2*B^k:=by
 induction k with
 |zero=>rfl
 |succ k ih=>
  have e:S (fv (bK (jz a b) (k+1))) k=S (fv (bK (jz a b) k)) k:=dO fun i hi=>by
   rw[ee];unfold fv;simp[List.getElem?_append_left,aY,hi]
  have e2:fv (bK (jz a b) (k+1)) k=(jz a b (k+1)).1:=by
   rw[ee];unfold fv
   rw[N8,List.getElem?_append_right (by rw[aY];omega),aY];simp
  rw[bn,bn,bn,e,e2,Nat.pow_succ]
  have h1:fv a k<1000000000:=ai ha _
  have h2:fv b k<1000000000:=ai hb _
  have hc:=(zq ha hb k).1
  have h:(jz a b (k+1)).1+fv b k+(jz a b k).2=fv a k+(jz a b (k+1)).2*1000000000:=by
   rw[jz]
   dsimp only
   by_cases h:fv b k+(jz a b k).2≤fv a k
   ·rw[if_pos h,if_pos h];omega
   ·rw[if_neg h,if_neg h];omega
  have h3:=congrArg (· *B^k) h
  simp only[Nat.add_mul] at h3
  have h4:(jz a b (k+1)).2*(B^k*B)=(jz a b (k+1)).2*1000000000*B^k:=by
   show _=(jz a b (k+1)).2*B*B^k
   rw[Og (B^k) B,←Nat.mul_assoc]
  rw[h4]
  generalize(jz a b (k+1)).2*1000000000*B^k=u at *
  generalize(jz a b (k+1)).1*B^k=v at *
  generalize fv a k*B^k=p at *
  generalize fv b k*B^k=q at *
  generalize(jz a b k).2*B^k=r at *
  omega
end
end Go.Proofs.YtnpihidbkhehjaaGreatDoor
