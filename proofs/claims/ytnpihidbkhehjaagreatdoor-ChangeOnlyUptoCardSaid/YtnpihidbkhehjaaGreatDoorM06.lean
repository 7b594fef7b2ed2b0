/- ChangeOnly of kingpostlaw58: part 6 of its proof (merged and shortened by program). -/
import Derived.Lib.Split
import Derived.Lib.SplitLaws
import Derived.Lib.AtoiAllCases
import Derived.Laws.Rows
import Derived.Laws.Tables
import Derived.Test.YtnpihidbkhehjaaGreatDoorM05
set_option linter.unusedVariables false
set_option linter.unusedSimpArgs false
set_option linter.defProp false
set_option maxHeartbeats 8000000
set_option maxRecDepth 100000
open Go.RowKit Go.Shelf Go.Proofs.Tryz
open Array renaming getElem?_eq_some_iff→Od
open Bool renaming false→N1,true→Oc
open Go renaming World→NY,Value→N2,undef→N7,wpOp_step→Ob,Calls→Of,maxLen→Ol,TypeId→Oo
open Go.AllReady renaming cons→Oj,nil→Oq
open Go.IntKind renaming i64→Oe
open Go.IntWalk renaming i64_in→Om
open Go.Lib renaming hid→NW
open Go.RowKit renaming intOf→Oh,Below→On
open Go.World renaming size_alloc→Oi
open List renaming getD_eq_getElem?_getD→N8,length_map→N9,getElem?_eq_getElem→Oa
open Nat renaming le_refl→NZ,mul_comm→Og,le_trans→Ok
open Option renaming none→N0,some→N3
open Go.Proofs.YtnpihidbkhehjaaGreatDoor
namespace Go.Proofs.YtnpihidbkhehjaaGreatDoor
section
open Kp
theorem tL(a sep:List UInt8):(Lib.cut a sep).1.length≤a.length∧(Lib.cut a sep).2.1.length≤a.length:=by
 unfold Lib.cut
 split
 ·simp;omega
 ·simp
abbrev fl(w:NY):Prop:=∃m:Int,w.cell? ⟨1,0,N0⟩=N3 (.int .i64 m)
theorem fl.below{w w':NY}(h:fl w){B0:Nat}(hb:On B0 w w')(hB:w.heap.size≤B0):fl w':=by
 obtain⟨m,hm⟩:=h
 have:=vg hm
 exact⟨m,(hb.cell Ot).trans hm⟩
theorem FL(a:List UInt8)(w:NY)(hs:a.length≤1000000)(hm:fl w):
  Of prog 255 #[.string (tx a),.string ⟨#[47]⟩] w fun e w'=>e= .returned (.tuple #[.string (tx (Lib.cut a [47]).1),.string (tx (Lib.cut a [47]).2.1),.bool (Lib.cut a [47]).2.2])∧On w.heap.size w w':=by
 obtain⟨m,hm⟩:=hm
 have h:=strings_Cut (tx a) (tx [47]) m w PL hm
 rw[bE,bE] at h
 exact h.mono fun _ _ ⟨h1,n,h2⟩=>⟨h1,by rw[h2];exact below_drewN (Below.refl _ _) n⟩
theorem oR(a:List UInt8)(w:NY):
  Of prog 256 #[.string (tx a),.string ⟨#[45]⟩] w fun e w'=>e= .returned (.tuple #[.string (tx (own a)),.bool (Lib.hasPrefix a [45])])∧w'=w:=by
 have h:=strings_CutPrefix (tx a) (tx [45]) w
 rw[bE,bE] at h
 exact h
def vy(s:List UInt8):Bool:=decide (¬iz s=0)&&decide (¬iz s<s.length)
theorem fu{s:List UInt8}(h0:¬iz s=0)(h1:¬iz s<s.length):vy s=Oc:=by unfold vy;simp[h0];omega
def dK(a:List UInt8):Option (List UInt8×List UInt8):=
 let n:=(Lib.cut a [47]).1
 let d:=(Lib.cut a [47]).2.1
 if vy (own n)=N1∨(Lib.hasPrefix n [45]=Oc∧own n=[48]) then N0
 else if(Lib.cut a [47]).2.2=N1 then N3 (n,[49])
 else if vy d=N1∨d=[48]∨d=[49] then N0
 else N3 (n,d)
def tD (w : NY) (r : Option (List UInt8 × List UInt8)) (e : Ending) (w' : NY) : Prop :=
  (match r with
   | none => e = .returned (.tuple #[.agg #[.string ⟨#[]⟩, .string ⟨#[]⟩], .bool N1])
   | some (n, d) => e = .returned (.tuple #[.agg #[.string (tx n), .string (tx d)], .bool Oc])) ∧ On w.heap.size w w'
theorem vf{w W:NY}{a:Act}{r:Option (List UInt8×List UInt8)}{blk:Nat}(hr:r=N0)(hX:dS W blk 244 (.string ⟨#[]⟩) (.string ⟨#[]⟩))
  (h2:a.tmps[2]?=N3 (.pointer (N3 ⟨blk,0,N0⟩)))(h3:a.tmps[3]?=N3 (.bool N1))(hd:a.defers=[])(hB:On w.heap.size w W):
  bodyPost prog Tryz.f227 (tD w r) .ret a W:=by
 have c0:=hX.cell0
 have c1:=hX.dv
 subst hr
 refine bodyPost_ret (v:= .tuple #[.agg #[.string ⟨#[]⟩,.string ⟨#[]⟩],.bool N1]) ?_ hd ⟨rfl,hB⟩
 simp[results,results227,go_sem,h2,h3,c0,c1]
theorem tV{w W:NY}{a:Act}{r:Option (List UInt8×List UInt8)}{blk:Nat}{n d:List UInt8}(hr:r=N3 (n,d))(hX:dS W blk 244 (.string (tx n)) (.string (tx d)))
  (h2:a.tmps[2]?=N3 (.pointer (N3 ⟨blk,0,N0⟩)))(h3:a.tmps[3]?=N3 (.bool Oc))(hd:a.defers=[])(hB:On w.heap.size w W):
  bodyPost prog Tryz.f227 (tD w r) .ret a W:=by
 have c0:=hX.cell0
 have c1:=hX.dv
 subst hr
 refine bodyPost_ret (v:= .tuple #[.agg #[.string (tx n),.string (tx d)],.bool Oc]) ?_ hd ⟨rfl,hB⟩
 simp[results,results227,go_sem,h2,h3,c0,c1]
theorem eV{p:Prop}(h:p:=by
 try clear hk
 try clear hz
 try clear hj
 try clear hi'
 clear hm h1 h2 h3 ho hp
 go_enter func227,ntmps227
 go_wp2_with(first
  |(go_at_call 255;refine(FL a _ hs (HM.out.below ((Below.refl _ _).alloc (NZ _) _) (NZ _))).mono ?_;rintro e w1 ⟨rfl,hB1⟩;rw[HC1.out,HC2.out,HC3.out];have X1:=NW ((dS.at_ rfl).below hB1 Ow);have c0:=X1.out.cell0;have c1:=X1.out.dv;have f0:=X1.out.frozen 0;have f1:=X1.out.frozen 1;have l1:=X1.out.lt)
  |(go_at_call 256;refine(oR _ _).mono ?_;rintro e w2 ⟨rfl,rfl⟩;rw[HO.out,HP.out])
  |(go_at_call 257;refine(vA _ _ (by first|assumption|decide)).mono ?_;rintro e w2 ⟨rfl,rfl⟩))
 first
  |refine tV (blk:=w.heap.size) HR.out ?cutX rfl rfl rfl ?cutB
  |refine vf (blk:=w.heap.size) HR.out ?cutX rfl rfl rfl ?cutB
 case cutX=>repeat first|with_reducible apply dS.jq|with_reducible apply dS.nK|with_reducible exact X1.out
 case cutB=>repeat first|with_reducible refine Below.setCell ?_ OI _|with_reducible refine Below.alloc ?_ OI _|with_reducible refine fy ?_ OD OU|with_reducible exact Below.refl _ _):p:=h
set_option maxHeartbeats 40000000 in
theorem Ec(a:List UInt8)(w:NY)(hs:a.length≤1000000)(hm:fl w):Of prog 227 #[.string (tx a)] w (tD w (dK a)):=by
 obtain⟨n,h1⟩:∃n,(Lib.cut a [47]).1=n:=⟨_,rfl⟩
 obtain⟨d,h2⟩:∃d,(Lib.cut a [47]).2.1=d:=⟨_,rfl⟩
 obtain⟨is,h3⟩:∃is,(Lib.cut a [47]).2.2=is:=⟨_,rfl⟩
 obtain⟨o,ho⟩:∃o,own n=o:=⟨_,rfl⟩
 obtain⟨neg,hp⟩:∃neg,Lib.hasPrefix n [45]=neg:=⟨_,rfl⟩
 have hol:o.length≤1000000:=by have:=lH n;have:=(tL a [47]).1;rw[h1] at this;rw[←ho];omega
 have hdl:d.length≤1000000:=by have:=(tL a [47]).2;rw[h2] at this;omega
 have HC1:=NW h1
 have HC2:=NW h2
 have HC3:=NW h3
 have HO:=NW ho
 have HP:=NW hp
 have HM:=NW hm
 by_cases hk:iz o=0
 ·
  have HR:=NW (show dK a=N0 by unfold dK;simp only[];rw[h1,h2,h3,ho,hp];rw[if_pos (.inl (by unfold vy;simp[hk]))])
  have k0:((iz o:Int)==0)=Oc:=by rw[beq_iff_eq];omega
  exact eV
 have k0:((iz o:Int)==0)=N1:=OF
 by_cases hl:iz o<o.length
 ·
  have HR:=NW (show dK a=N0 by unfold dK;simp only[];rw[h1,h2,h3,ho,hp];rw[if_pos (.inl (by unfold vy;simp[hk,hl]))])
  have kt:decide (iz o<o.length)=Oc:=OH
  exact eV
 have kt:decide (iz o<o.length)=N1:=Oz
 by_cases hz:neg=Oc∧o=[48]
 ·
  obtain⟨hneg,hz⟩:=hz
  have HR:=NW (show dK a=N0 by unfold dK;simp only[];rw[h1,h2,h3,ho,hp];rw[if_pos (.inr ⟨hneg,hz⟩)])
  subst hneg
  subst hz
  exact eV
 have hz1:neg=Oc→(o==[48])=N1:=fun h=>by rw[beq_eq_false_iff_ne];exact fun e=>hz ⟨h,e⟩
 cases hi:is with
 |false=>
  have HR:=NW (show dK a=N3 (n,[49]) by unfold dK;simp only[];rw[h1,h2,h3,ho,hp];rw[if_neg (fun h=>h.elim (fun h=>Pw) hz)];rw[if_pos hi])
  subst hi
  cases neg
  all_goals
   try have hz1:=hz1 rfl
   exact eV
 |true=>
  have hi':¬is=N1:=by rw[hi];decide
  by_cases hj:iz d=0
  ·
   have HR:=NW (show dK a=N0 by unfold dK;simp only[];rw[h1,h2,h3,ho,hp];rw[if_neg (fun h=>h.elim (fun h=>Pw) hz)];rw[if_neg hi'];rw[if_pos (.inl (by unfold vy;simp[hj]))])
   have j0:((iz d:Int)==0)=Oc:=by rw[beq_iff_eq];omega
   subst hi
   cases neg
   all_goals
    try have hz1:=hz1 rfl
    exact eV
  have j0:((iz d:Int)==0)=N1:=OF
  by_cases hm2:iz d<d.length
  ·
   have HR:=NW (show dK a=N0 by unfold dK;simp only[];rw[h1,h2,h3,ho,hp];rw[if_neg (fun h=>h.elim (fun h=>Pw) hz)];rw[if_neg hi'];rw[if_pos (.inl (by unfold vy;simp[hj,hm2]))])
   have jt:decide (iz d<d.length)=Oc:=OH
   subst hi
   cases neg
   all_goals
    try have hz1:=hz1 rfl
    exact eV
  have jt:decide (iz d<d.length)=N1:=Oz
  by_cases h48:d=[48]
  ·
   have HR:=NW (show dK a=N0 by unfold dK;simp only[];rw[h1,h2,h3,ho,hp];rw[if_neg (fun h=>h.elim (fun h=>Pw) hz)];rw[if_neg hi'];rw[if_pos (.inr (.inl h48))])
   subst h48
   subst hi
   cases neg
   all_goals
    try have hz1:=hz1 rfl
    exact eV
  have h48b:(d==[48])=N1:=by rw[beq_eq_false_iff_ne];exact h48
  by_cases h49:d=[49]
  ·
   have HR:=NW (show dK a=N0 by unfold dK;simp only[];rw[h1,h2,h3,ho,hp];rw[if_neg (fun h=>h.elim (fun h=>Pw) hz)];rw[if_neg hi'];rw[if_pos (.inr (.inr h49))])
   clear h48
   subst h49
   subst hi
   cases neg
   all_goals
    try have hz1:=hz1 rfl
    exact eV
  have h49b:(d==[49])=N1:=by rw[beq_eq_false_iff_ne];exact h49
  have HR:=NW (show dK a=N3 (n,d) by unfold dK;simp only[];rw[h1,h2,h3,ho,hp];rw[if_neg (fun h=>h.elim (fun h=>Pw) hz)];rw[if_neg hi'];rw[if_neg (fun h=>h.elim (fun h=>by rw[fu hj hm2] at h;cases h) (fun h=>h.elim h48 h49))])
  subst hi
  cases neg
  all_goals
   try have hz1:=hz1 rfl
   exact eV
end
end Go.Proofs.YtnpihidbkhehjaaGreatDoor
namespace Kp
section
open Go
abbrev By:Type:=List UInt8
structure Ed where
 kind:Int
 index:Int
 sx:Int
 sy:Int
 srise:Int
 srun:Int
 gable:Bool
 splate:Int
 sover:Int
 oside:Int
 oleft:By
 oright:By
 olow:By
 ohigh:By
 zkind:Int
 zwidth:Int
 zdepth:Int
 bwidth:Int
 bdepth:Int
 blength:Int
 bcount:Int
 bcost:Int
 gaps:List (Int×Int)
 lkind:Int
 lside:Int
 lweight:By
 awidth:Int
 adepth:Int
 aspacing:Int
 aload:Int
 aspan:Int
 twidth:Int
 tlength:Int
 tlap:Int
 ttail:Int
 number:Int
 text:By
def kA:Ed:=⟨0,0,0,0,0,0,N1,0,0,0,[],[],[],[],0,0,0,0,0,0,0,0,[],0,0,[],0,0,0,0,0,0,0,0,0,0,[]⟩
def ey(e:Ed):Ed:=
 if e.kind=1 then{kA with kind:=e.kind,text:=e.text}
 else if e.kind=2 then{kA with kind:=e.kind,index:=e.index,sx:=e.sx,sy:=e.sy,srise:=e.srise,srun:=e.srun,gable:=e.gable,splate:=e.splate,sover:=e.sover}
 else if e.kind=3∨e.kind=12 then{kA with kind:=e.kind,index:=e.index,number:=e.number}
 else if e.kind=4∨e.kind=8 then{kA with kind:=e.kind,number:=e.number}
 else if e.kind=5 then{kA with kind:=e.kind,index:=e.index,oside:=e.oside,oleft:=e.oleft,oright:=e.oright,olow:=e.olow,ohigh:=e.ohigh}
 else if e.kind=6 then{kA with kind:=e.kind,zkind:=e.zkind,zwidth:=e.zwidth,zdepth:=e.zdepth}
 else if e.kind=7 then{kA with kind:=e.kind,index:=e.index,bwidth:=e.bwidth,bdepth:=e.bdepth,blength:=e.blength,bcount:=e.bcount,bcost:=e.bcost,gaps:=e.gaps}
 else if e.kind=9 then{kA with kind:=e.kind,twidth:=e.twidth,tlength:=e.tlength,tlap:=e.tlap,ttail:=e.ttail}
 else if e.kind=10 then{kA with kind:=e.kind,index:=e.index,lkind:=e.lkind,lside:=e.lside,lweight:=e.lweight}
 else if e.kind=11 then{kA with kind:=e.kind,awidth:=e.awidth,adepth:=e.adepth,aspacing:=e.aspacing,aload:=e.aload,aspan:=e.aspan}
 else{kA with kind:=e.kind}
def lS(bs s:By):By:=if bs=[] then s else bs++32::s
def dH(bs:By)(ws:List By):By:=ws.foldl lS bs
theorem zC(bs:By)(w:By)(ws:List By):dH bs (w::ws)=dH (lS bs w) ws:=rfl
theorem CB(bs:By)(a b:List By):dH bs (a++b)=dH (dH bs a) b:=by simp[dH]
def jo:List By:=[[99,111,109,109,111,110],[104,105,112,106,97,99,107],[118,97,108,108,101,121,106,97,99,107],[99,114,105,112,112,108,101],[111,116,104,101,114],[104,105,112],[118,97,108,108,101,121],[114,105,100,103,101],[112,117,114,108,105,110],[112,108,97,116,101],[116,114,105,109,109,101,114],[104,101,97,100,101,114]]
abbrev pM:By:=[110,97,109,101]
abbrev pq:By:=[115,105,100,101]
abbrev gO:By:=[115,112,97,99,105,110,103]
abbrev fJ:By:=[112,117,114,108,105,110]
abbrev ew:By:=[111,112,101,110,105,110,103]
abbrev kN:By:=[115,105,122,101]
abbrev qH:By:=[98,97,114]
abbrev mc:By:=[107,101,114,102]
abbrev oN:By:=[116,105,108,101]
abbrev kE:By:=[108,111,97,100]
abbrev kD:By:=[115,112,97,110]
abbrev eS:By:=[114,101,109,111,118,101]
def kindOf(w:By):Int:=
 if w=pM then 1
 else if w=pq then 2
 else if w=gO then 3
 else if w=fJ then 4
 else if w=ew then 5
 else if w=kN then 6
 else if w=qH then 7
 else if w=mc then 8
 else if w=oN then 9
 else if w=kE then 10
 else if w=kD then 11
 else if w=eS then 12
 else 0
def sF(n:Int):Bool:=n==4||n==5||n==6||n==7||n==10||n==11
def ti(n:Int):By:=
 if n=4 then fJ
 else if n=5 then ew
 else if n=6 then kN
 else if n=7 then qH
 else if n=10 then kE
 else if n=11 then kD
 else []
def Lc(w:By):Int:=
 if w=fJ then 4
 else if w=ew then 5
 else if w=kN then 6
 else if w=qH then 7
 else if w=kE then 10
 else if w=kD then 11
 else 0
def LA(z:Int):By:=jo.getD (z-1).toNat []
def Jt(w:By):Int:=if w∈jo then(jo.idxOf w:Int) else -1
def qX(b:UInt8):Bool:=(decide (97≤b.toNat)&&decide (b.toNat≤122))||(decide (65≤b.toNat)&&decide (b.toNat≤90))||(decide (48≤b.toNat)&&decide (b.toNat≤57))
def xL(s:By):Bool:=s.all qX&& !s.isEmpty&&decide (s.length≤16)
def ma(l:List Int):List By:=l.map Lib.itoa
def Ke(l:List (Int×Int)):List Int:=l.flatMap (fun g=>[g.1,g.2])
def Ns(b:Bool):Int:=if b then 1 else 0
def gh(e:Ed):List Int:=
 if e.kind=1 then []
 else if e.kind=2 then [e.index,e.sx,e.sy,e.srise,e.srun,e.splate,e.sover,Ns e.gable]
 else if e.kind=3 then [e.index,e.number]
 else if e.kind=4 then [e.number]
 else if e.kind=5 then [e.index,e.oside]
 else if e.kind=6 then [e.zwidth,e.zdepth]
 else if e.kind=7 then [e.index,e.bwidth,e.bdepth,e.blength,e.bcount,e.bcost]++Ke e.gaps
 else if e.kind=8 then [e.number]
 else if e.kind=9 then [e.twidth,e.tlength,e.tlap,e.ttail]
 else if e.kind=10 then [e.index,e.lkind,e.lside]
 else if e.kind=11 then [e.awidth,e.adepth,e.aspacing,e.aload,e.aspan]
 else [e.index]
def numsOf(e:Ed):List By:=
 if e.kind=5 then [e.oleft,e.oright,e.olow,e.ohigh]
 else if e.kind=10 then [e.lweight]
 else []
def lB(e:Ed):List By:=
 if e.kind=1 then [pM,e.text]
 else if e.kind=2 then [pq]
 else if e.kind=3 then [gO]
 else if e.kind=4 then [fJ]
 else if e.kind=5 then [ew]
 else if e.kind=6 then [kN,LA e.zkind]
 else if e.kind=7 then [qH]
 else if e.kind=8 then [mc]
 else if e.kind=9 then [oN]
 else if e.kind=10 then [kE]
 else if e.kind=11 then [kD]
 else [eS,ti e.number]
def fL(e:Ed):List By:=lB e++ma (gh e)++numsOf e
def xD(n:Int):Bool:=decide (n< -1073741824)||decide (1073741824<n)
def kL(x:Int)(l:List Int):Int:=if l.any xD then 2 else x
def ML(chk:By→Int)(x:Int)(l:List By):Int:=l.foldl (fun x a=>if x=0 then chk a else x) x
abbrev nN:Type:=List By×Bool
def rW(r:nN):By×nN:=match r.1 with
 |[]=>([],([],Oc))
 |w::t=>(w,(t,r.2))
def jV(w:By):Int×Bool:=match Lib.atoiAll w with
 | .ok v=>(v,N1)
 | .range=>(Lib.atoiSat w,Oc)
 |_=>(0,Oc)
def rI(r:nN):Int×nN:=((jV (rW r).1).1,((rW r).2.1,(rW r).2.2||(jV (rW r).1).2))
def rG:Nat→nN→List (Int×Int)×nN
 |0,r=>([],r)
 |n+1,r=>match r.1 with
  |[]=>([],r)
  |_::_=>(((rI r).1,(rI (rI r).2).1)::(rG n (rI (rI r).2).2).1,(rG n (rI (rI r).2).2).2)
def qu:Nat→nN→List Int×nN
 |0,r=>([],r)
 |n+1,r=>((rI r).1::(qu n (rI r).2).1,(qu n (rI r).2).2)
def MI:Nat→nN→List By×nN
 |0,r=>([],r)
 |n+1,r=>((rW r).1::(MI n (rW r).2).1,(MI n (rW r).2).2)
def rE(r:nN):Ed×nN:=
 let k:=kindOf (rW r).1
 let r1:=(rW r).2
 let e:Ed:={kA with kind:=k}
 if k=1 then({e with text:=(rW r1).1},(rW r1).2)
 else if k=2 then
  let l:=(qu 8 r1).1
  ({e with index:=l.getD 0 0,sx:=l.getD 1 0,sy:=l.getD 2 0,srise:=l.getD 3 0,srun:=l.getD 4 0,splate:=l.getD 5 0,sover:=l.getD 6 0,gable:=l.getD 7 0==1},(qu 8 r1).2)
 else if k=3 then({e with index:=(qu 2 r1).1.getD 0 0,number:=(qu 2 r1).1.getD 1 0},(qu 2 r1).2)
 else if k=4∨k=8 then({e with number:=(rI r1).1},(rI r1).2)
 else if k=5 then
  let l:=(qu 2 r1).1
  let ws:=(MI 4 (qu 2 r1).2).1
  ({e with index:=l.getD 0 0,oside:=l.getD 1 0,oleft:=ws.getD 0 [],oright:=ws.getD 1 [],olow:=ws.getD 2 [],ohigh:=ws.getD 3 []},(MI 4 (qu 2 r1).2).2)
 else if k=6 then
  let l:=(qu 2 (rW r1).2).1
  ({e with zkind:=1+Jt (rW r1).1,zwidth:=l.getD 0 0,zdepth:=l.getD 1 0},(qu 2 (rW r1).2).2)
 else if k=7 then
  let l:=(qu 6 r1).1
  let r2:=(qu 6 r1).2
  ({e with index:=l.getD 0 0,bwidth:=l.getD 1 0,bdepth:=l.getD 2 0,blength:=l.getD 3 0,bcount:=l.getD 4 0,bcost:=l.getD 5 0,gaps:=(rG r2.1.length r2).1},(rG r2.1.length r2).2)
 else if k=9 then
  let l:=(qu 4 r1).1
  ({e with twidth:=l.getD 0 0,tlength:=l.getD 1 0,tlap:=l.getD 2 0,ttail:=l.getD 3 0},(qu 4 r1).2)
 else if k=10 then
  let l:=(qu 3 r1).1
  ({e with index:=l.getD 0 0,lkind:=l.getD 1 0,lside:=l.getD 2 0,lweight:=(rW (qu 3 r1).2).1},(rW (qu 3 r1).2).2)
 else if k=11 then
  let l:=(qu 5 r1).1
  ({e with awidth:=l.getD 0 0,adepth:=l.getD 1 0,aspacing:=l.getD 2 0,aload:=l.getD 3 0,aspan:=l.getD 4 0},(qu 5 r1).2)
 else if k=12 then({e with number:=Lc (rW r1).1,index:=(rI (rW r1).2).1},(rI (rW r1).2).2)
 else(e,r1)
end
section
open Go
theorem rD{i:Nat}(h:i<10):gz (UInt8.ofNat (48+i))=Oc∧kB (UInt8.ofNat (48+i))=i:=by
 have hh:∀n:Fin 10,gz (UInt8.ofNat (48+n.1))=Oc∧kB (UInt8.ofNat (48+n.1))=n.1:=PN
 exact hh ⟨i,h⟩
theorem jH(u:Nat):(Lib.decDigits u).all gz=Oc∧aC (Lib.decDigits u)=u∧Lib.decDigits u≠[]:=by
 induction u using Nat.strongRecOn with
 |_ u ih=>
  rw[Lib.decDigits]
  split
  ·rename_i h
   obtain⟨h1,h2⟩:=rD h
   exact⟨by rw[List.all_cons,h1];rfl,by show 0*10+kB _=u;rw[h2];omega,Ow⟩
  ·rename_i h
   obtain⟨a,b,_⟩:=ih (u/10) Ot
   obtain⟨h1,h2⟩:=rD (i:=u%10) Ot
   refine⟨by rw[List.all_append,a,List.all_cons,h1];rfl,?_,Ow⟩
   rw[pz,b,h2];omega
theorem AK(n k:Nat)(hk:1≤k)(h:n<10^k):Lib.nDigits n≤k:=by
 induction k generalizing n with
 |zero=>omega
 |succ k ih=>
  by_cases h10:n<10
  ·rw[Lib.nDigits_small h10];omega
  ·rw[Lib.nDigits,dif_neg h10]
   have:n/10<10^k:=by rw[Nat.div_lt_iff_lt_mul Ov];rw[Nat.pow_succ] at h;exact h
   have hk1:1≤k:=by
    rcases Nat.eq_zero_or_pos k with h0|h0
    ·subst h0;simp at this;omega
    ·exact h0
   have:=ih (n/10) hk1 this
   omega
theorem ry(n:Int):Lib.atoi (Lib.itoa n)=N3 n:=by
 unfold Lib.itoa
 split
 ·rename_i h
  obtain⟨a,b,c⟩:=jH n.natAbs
  simp only[Lib.atoi,beq_self_eq_true,if_true,kZ a c,b,Option.map_some]
  congr 1;omega
 ·rename_i h
  obtain⟨a,b,c⟩:=jH n.toNat
  cases hd:Lib.decDigits n.toNat with
  |nil=>exact absurd hd c
  |cons x r=>
   rw[hd] at a b c
   have hx:gz x=Oc:=by simp only[List.all_cons,Bool.and_eq_true] at a;exact a.1
   have h1:(x==45)=N1:=by rw[beq_eq_false_iff_ne];intro e;subst e;revert hx;decide
   have h2:(x==43)=N1:=by rw[beq_eq_false_iff_ne];intro e;subst e;revert hx;decide
   simp only[Lib.atoi,h1,h2,Bool.false_eq_true,if_false,kZ a c,b,Option.map_some]
   congr 1;omega
theorem F2(a b:List Int):ma (a++b)=ma a++ma b:=by simp[ma]
end
end Kp
namespace Go.Proofs.YtnpihidbkhehjaaGreatDoor
section
open Kp
noncomputable def bG(a:List UInt8):Int:=match dK a with
 |none=>11
 |some (n,d)=>
  if bf a=Oc then 0
  else if 300<(own n).length∨300<d.length then 4
  else if d=[49] then 0
  else if¬(mH n d).2=0∨¬(mH n d).1=[49] then 11
  else 0
def uG(w:NY)(a:List UInt8)(e:Ending)(w':NY):Prop:=∃x y:ByteArray,e= .returned (.tuple #[.agg #[.string x,.string y],.int .i64 (bG a)])∧(bG a=0→∃n d,dK a=N3 (n,d)∧x=tx n∧y=tx d)∧On w.heap.size w w'
theorem Dx{w W:NY}{a:Act}{s:List UInt8}{blk:Nat}{x y:ByteArray}{c:Int}(hr:bG s=c)(hX:dS W blk 244 (.string x) (.string y))
  (h2:a.tmps[2]?=N3 (.pointer (N3 ⟨blk,0,N0⟩)))(h3:a.tmps[3]?=N3 (.int .i64 c))(hd:a.defers=[])(hp:c=0→∃n d,dK s=N3 (n,d)∧x=tx n∧y=tx d)(hB:On w.heap.size w W):
  bodyPost prog f204 (uG w s) .ret a W:=by
 have c0:=hX.cell0
 have c1:=hX.dv
 refine bodyPost_ret (v:= .tuple #[.agg #[.string x,.string y],.int .i64 c]) ?_ hd ⟨x,y,by rw[hr],by rw[hr];exact hp,hB⟩
 simp[results,results204,go_sem,h2,h3,c0,c1]
theorem lv{a n d:List UInt8}(h:dK a=N3 (n,d)):n.length≤a.length∧d.length≤a.length+1:=by
 have hl:=tL a [47]
 unfold dK at h
 simp only[] at h
 split at h
 ·cases h
 split at h
 ·simp only[Option.some.injEq,Prod.mk.injEq] at h
  rw[←h.1,←h.2];exact⟨hl.1,Ow⟩
 split at h
 ·cases h
 ·simp only[Option.some.injEq,Prod.mk.injEq] at h
  rw[←h.1,←h.2];exact⟨hl.1,Ot⟩
theorem iv{p:Prop}(h:p:=by
 try clear hl
 try clear ho
 try clear h5
 try clear hg
 try clear h6
 try clear hn
 clear hm ht hc
 go_enter func204,ntmps204
 go_wp2_with(first
  |(go_at_call 227;refine(Ec a _ hs (HM.out.below ((Below.refl _ _).alloc (NZ _) _) (NZ _))).mono ?_;rw[HC.out];rintro e w1 ⟨rfl,hB1⟩;have X1:=NW ((dS.at_ rfl).below hB1 Ow);have c0:=X1.out.cell0;have c1:=X1.out.dv;have f0:=X1.out.frozen 0;have f1:=X1.out.frozen 1;have l1:=X1.out.lt)
  |(go_at_call 228;refine(iA a _ hs).mono ?_;rintro e w2 ⟨nx,ny,rfl,_,hB2⟩;rw[HN.out];have X2:=NW ((X1.out.alloc _).below hB2 OB);have Y2:=NW ((dS.at_ rfl).below hB2 Ow);have d0:=X2.out.cell0;have d1:=X2.out.dv;have g0:=X2.out.frozen 0;have g1:=X2.out.frozen 1;have e0:=Y2.out.cell0;have e1:=Y2.out.dv;have l2:=Y2.out.lt;have l3:=X2.out.lt)
  |(go_at_call 206;refine(cH _ _).mono ?_;rintro e w5 ⟨rfl,rfl⟩;rw[HO.out])
  |(go_at_call 229;refine(GY _ _ _ OD OD (HT.out.below (B0:=w.heap.size) (by repeat first|with_reducible refine Below.setCell ?_ OI _|with_reducible refine Below.alloc ?_ OI _|with_reducible refine fy ?_ OD OU|with_reducible exact Below.refl _ _) (NZ _))).mono ?_;rw[HG.out];rintro e w3 ⟨rfl,hB3⟩;have X3:=NW ((X2.out.alloc _).below hB3 OB);have Y3:=NW ((Y2.out.alloc _).below hB3 OB);have m0:=X3.out.cell0;have m1:=X3.out.dv;have n0:=X3.out.frozen 0;have n1:=X3.out.frozen 1;have o0:=Y3.out.cell0;have o1:=Y3.out.dv))
 first
  |refine Dx (blk:=w.heap.size) (x:=⟨#[]⟩) (y:=⟨#[]⟩) HR.out ?rrX rfl rfl rfl (fun h=>absurd h Ov) ?rrB
  |refine Dx (blk:=w.heap.size) (x:=tx _) (y:=tx _) HR.out ?rrX rfl rfl rfl (fun _=>⟨_,_,HC.out,rfl,rfl⟩) ?rrB
 case rrX=>repeat first|with_reducible apply dS.jq|with_reducible apply dS.nK|with_reducible apply dS.cI|with_reducible apply dS.alloc|with_reducible exact X3.out|with_reducible exact X2.out|with_reducible exact X1.out|omega|(simp;done)|(simp;omega)
 case rrB=>repeat first|with_reducible refine Below.setCell ?_ OI _|with_reducible refine Below.alloc ?_ OI _|with_reducible refine fy ?_ OD OU|with_reducible exact Below.refl _ _):p:=h
set_option maxHeartbeats 40000000 in
theorem kg(a:List UInt8)(w:NY)(hs:a.length≤300000)(hm:fl w)(ht:aL w):Of prog 204 #[.string (tx a)] w (uG w a):=by
 have HM:=NW hm
 have HT:=NW ht
 cases hc:dK a with
 |none=>
  replace hs:a.length≤1000000:=Ot
  have HR:=NW (show bG a=11 by unfold bG;rw[hc])
  have HC:=NW hc
  exact iv
 |some p=>
  obtain⟨n,d⟩:=p
  have hl:=lv hc
  have hnl:n.length≤1000000:=Ot
  have hdl:d.length≤1000000:=Ot
  replace hs:a.length≤1000000:=Ot
  have HC:=NW hc
  by_cases hn:bf a=Oc
  ·
   have HR:=NW (show bG a=0 by unfold bG;rw[hc];simp only[];rw[if_pos hn])
   have HN:=NW hn
   exact iv
  have HN:=NW (show bf a=N1 by simpa using hn)
  obtain⟨o,ho⟩:∃o,own n=o:=⟨_,rfl⟩
  have HO:=NW ho
  by_cases h3:300<o.length
  ·
   have HR:=NW (show bG a=4 by unfold bG;rw[hc];simp only[];rw[if_neg hn];rw[ho,if_pos (.inl h3)])
   exact iv
  by_cases h4:300<d.length
  ·
   have HR:=NW (show bG a=4 by unfold bG;rw[hc];simp only[];rw[if_neg hn];rw[ho,if_pos (.inr h4)])
   exact iv
  by_cases h5:d=[49]
  ·
   have HR:=NW (show bG a=0 by unfold bG;rw[hc];simp only[];rw[if_neg hn];rw[ho,if_neg (fun h=>h.elim h3 h4)];rw[if_pos h5])
   subst h5
   exact iv
  have h5b:(d==[49])=N1:=by rw[beq_eq_false_iff_ne];exact h5
  obtain⟨⟨g,ge⟩,hg⟩:∃p,mH n d=p:=⟨_,rfl⟩
  have HG:=NW hg
  by_cases h6:ge=0
  ·by_cases h7:g=[49]
   ·
    have HR:=NW (show bG a=0 by unfold bG;rw[hc];simp only[];rw[if_neg hn];rw[ho,if_neg (fun h=>h.elim h3 h4)];rw[if_neg h5];rw[hg,if_neg (fun h=>h.elim (fun x=>x h6) (fun x=>x h7))])
    subst h6
    subst h7
    exact iv
   ·
    have HR:=NW (show bG a=11 by unfold bG;rw[hc];simp only[];rw[if_neg hn];rw[ho,if_neg (fun h=>h.elim h3 h4)];rw[if_neg h5];rw[hg,if_pos (.inr h7)])
    subst h6
    have h7b:(g==[49])=N1:=by rw[beq_eq_false_iff_ne];exact h7
    exact iv
  ·
   have HR:=NW (show bG a=11 by unfold bG;rw[hc];simp only[];rw[if_neg hn];rw[ho,if_neg (fun h=>h.elim h3 h4)];rw[if_neg h5];rw[hg,if_pos (.inl h6)])
   have h6b:(ge !=0)=Oc:=by rw[bne_iff_ne];exact h6
   exact iv
theorem pf(a:List UInt8)(w:NY)(hs:a.length≤300000)(hm:fl w)(ht:aL w):
  Of prog 163 #[.string (tx a)] w fun e w'=>e= .returned (.int .i64 (bG a))∧On w.heap.size w w':=by
 have hr:=NW (kg a w hs hm ht)
 clear hm ht
 go_enter func163,ntmps163
 go_wp2_with(go_at_call 204;refine hr.out.mono ?_;rintro e w1 ⟨x,y,rfl,_,hB1⟩;have hz1:=hB1.size)
 go_ret
 exact⟨rfl,by repeat first|with_reducible refine Below.setCell ?_ OI _|with_reducible refine Below.alloc ?_ OI _|with_reducible refine fy ?_ OD OU|with_reducible exact Below.refl _ _⟩
end
section
open Kp
def aG(e:Ed)(g:N2):Array N2:=#[.int .i64 e.kind,.int .i64 e.index,.int .i64 e.sx,.int .i64 e.sy,.int .i64 e.srise,.int .i64 e.srun,.bool e.gable,.int .i64 e.splate,.int .i64 e.sover,.int .i64 e.oside,.string (tx e.oleft),.string (tx e.oright),.string (tx e.olow),.string (tx e.ohigh),.int .i64 e.zkind,.int .i64 e.zwidth,.int .i64 e.zdepth,.int .i64 e.bwidth,.int .i64 e.bdepth,.int .i64 e.blength,.int .i64 e.bcount,.int .i64 e.bcost,g,.int .i64 e.lkind,.int .i64 e.lside,.string (tx e.lweight),.int .i64 e.awidth,.int .i64 e.adepth,.int .i64 e.aspacing,.int .i64 e.aload,.int .i64 e.aspan,.int .i64 e.twidth,.int .i64 e.tlength,.int .i64 e.tlap,.int .i64 e.ttail,.int .i64 e.number,.string (tx e.text)]
abbrev cD:N2:= .slice N0 0 0
def Gk(k:Int):Ed:={kA with kind:=k}
theorem PT(e:Ed)(g:N2):(aG e g).size=37:=rfl
attribute [local go_sem] PT
theorem P6(e:Ed)(g:N2):(aG e g)[0]?=N3 (.int .i64 e.kind):=rfl
theorem Qv(e:Ed)(g:N2):(aG e g)[1]?=N3 (.int .i64 e.index):=rfl
theorem QL(e:Ed)(g:N2):(aG e g)[2]?=N3 (.int .i64 e.sx):=rfl
theorem QJ(e:Ed)(g:N2):(aG e g)[3]?=N3 (.int .i64 e.sy):=rfl
theorem Qy(e:Ed)(g:N2):(aG e g)[4]?=N3 (.int .i64 e.srise):=rfl
theorem QH(e:Ed)(g:N2):(aG e g)[5]?=N3 (.int .i64 e.srun):=rfl
theorem QD(e:Ed)(g:N2):(aG e g)[6]?=N3 (.bool e.gable):=rfl
theorem QC(e:Ed)(g:N2):(aG e g)[7]?=N3 (.int .i64 e.splate):=rfl
theorem QO(e:Ed)(g:N2):(aG e g)[8]?=N3 (.int .i64 e.sover):=rfl
theorem QB(e:Ed)(g:N2):(aG e g)[9]?=N3 (.int .i64 e.oside):=rfl
theorem Qc(e:Ed)(g:N2):(aG e g)[10]?=N3 (.string (tx e.oleft)):=rfl
theorem Qa(e:Ed)(g:N2):(aG e g)[11]?=N3 (.string (tx e.oright)):=rfl
theorem Qn(e:Ed)(g:N2):(aG e g)[12]?=N3 (.string (tx e.olow)):=rfl
theorem Qk(e:Ed)(g:N2):(aG e g)[13]?=N3 (.string (tx e.ohigh)):=rfl
theorem Qj(e:Ed)(g:N2):(aG e g)[14]?=N3 (.int .i64 e.zkind):=rfl
theorem P8(e:Ed)(g:N2):(aG e g)[15]?=N3 (.int .i64 e.zwidth):=rfl
theorem P9(e:Ed)(g:N2):(aG e g)[16]?=N3 (.int .i64 e.zdepth):=rfl
theorem P3(e:Ed)(g:N2):(aG e g)[17]?=N3 (.int .i64 e.bwidth):=rfl
theorem P5(e:Ed)(g:N2):(aG e g)[18]?=N3 (.int .i64 e.bdepth):=rfl
theorem PX(e:Ed)(g:N2):(aG e g)[19]?=N3 (.int .i64 e.blength):=rfl
theorem PZ(e:Ed)(g:N2):(aG e g)[20]?=N3 (.int .i64 e.bcount):=rfl
theorem P4(e:Ed)(g:N2):(aG e g)[21]?=N3 (.int .i64 e.bcost):=rfl
theorem PW(e:Ed)(g:N2):(aG e g)[22]?=N3 (g):=rfl
theorem Qm(e:Ed)(g:N2):(aG e g)[23]?=N3 (.int .i64 e.lkind):=rfl
theorem Qe(e:Ed)(g:N2):(aG e g)[24]?=N3 (.int .i64 e.lside):=rfl
theorem Qg(e:Ed)(g:N2):(aG e g)[25]?=N3 (.string (tx e.lweight)):=rfl
theorem P7(e:Ed)(g:N2):(aG e g)[26]?=N3 (.int .i64 e.awidth):=rfl
theorem Qp(e:Ed)(g:N2):(aG e g)[27]?=N3 (.int .i64 e.adepth):=rfl
theorem Qr(e:Ed)(g:N2):(aG e g)[28]?=N3 (.int .i64 e.aspacing):=rfl
theorem Qb(e:Ed)(g:N2):(aG e g)[29]?=N3 (.int .i64 e.aload):=rfl
theorem Ql(e:Ed)(g:N2):(aG e g)[30]?=N3 (.int .i64 e.aspan):=rfl
theorem Qs(e:Ed)(g:N2):(aG e g)[31]?=N3 (.int .i64 e.twidth):=rfl
theorem Qh(e:Ed)(g:N2):(aG e g)[32]?=N3 (.int .i64 e.tlength):=rfl
theorem Qf(e:Ed)(g:N2):(aG e g)[33]?=N3 (.int .i64 e.tlap):=rfl
theorem Qu(e:Ed)(g:N2):(aG e g)[34]?=N3 (.int .i64 e.ttail):=rfl
theorem PV(e:Ed)(g:N2):(aG e g)[35]?=N3 (.int .i64 e.number):=rfl
theorem PY(e:Ed)(g:N2):(aG e g)[36]?=N3 (.string (tx e.text)):=rfl
attribute [local go_sem] P6 Qv QL QJ Qy QH QD QC QO QB Qc Qa Qn Qk Qj P8 P9 P3 P5 PX PZ P4 PW Qm Qe Qg P7 Qp Qr Qb Ql Qs Qh Qf Qu PV PY
theorem eh{w:NY}(c:Array N2)(t:Oo)(n:Nat)(cs:Array N2)(hn:n=w.heap.size):(w.alloc (.cells c t)).setRow n cs=w.alloc (.cells cs t):=by
 subst hn
 unfold World.setRow NY.alloc
 congr 1
 apply Array.ext_getElem?
 intro k
 simp only[Array.getElem?_modify,Array.getElem?_push]
 by_cases hk:k=w.heap.size
 ·subst hk;simp
 ·simp[hk,Ne.symm hk]
theorem QQ{w:NY}(o:Obj)(n:Nat)(cs:Array N2)(hn:n<w.heap.size):(w.alloc o).setRow n cs=(w.setRow n cs).alloc o:=by
 unfold World.setRow NY.alloc
 congr 1
 apply Array.ext_getElem?
 intro k
 simp only[Array.getElem?_modify,Array.getElem?_push,Array.size_modify]
 by_cases hk:k=w.heap.size
 ·subst hk;simp[Nat.ne_of_lt hn]
 ·simp[hk]
theorem QP(w:NY)(n:Nat)(cs:Array N2):w.drew.setRow n cs=(w.setRow n cs).drew:=rfl
theorem Qw(w:NY)(k n:Nat)(cs:Array N2):(w.drewN k).setRow n cs=(w.setRow n cs).drewN k:=rfl
attribute [local go_sem] eh QQ QP Qw
theorem setRow_heap{w:NY}{n:Nat}{t:Oo}{old:Array N2}(h:w.heap[n]?=N3 (.cells old t (0,0)))(cs:Array N2):(w.setRow n cs).heap[n]?=N3 (.cells cs t (0,0)):=by
 simp[World.setRow,Array.getElem?_modify,h]
theorem ah{B n:Nat}{w W:NY}(h:On B w W)(hn:B≤n)(cs:Array N2):On B w (W.setRow n cs):=
 h.trans ⟨rfl,rfl,rfl,by simp[World.setRow],fun k hk=>by simp only[World.setRow,Array.getElem?_modify];rw[if_neg Ot]⟩
theorem ja(w:NY)(a b:Obj):((w.alloc a).alloc b).heap[w.heap.size]?=N3 a:=by
 rw[heap_alloc_old _ _ Ow,heap_alloc_new]
theorem nl(w:NY)(a b c:Obj):(((w.alloc a).alloc b).alloc c).heap[w.heap.size]?=N3 a:=by
 rw[heap_alloc_old _ _ OB,ja]
theorem wE(w:NY)(a b c:Obj):(((w.alloc a).alloc b).alloc c).heap[w.heap.size+1]?=N3 b:=by
 rw[heap_alloc_old _ _ Ow]
 have:=heap_alloc_new (w.alloc a) b
 simpa using this
theorem rZ(w:NY)(a b c:Obj):(((w.alloc a).alloc b).alloc c).heap[w.heap.size+1+1]?=N3 c:=by
 have:=heap_alloc_new ((w.alloc a).alloc b) c
 simpa using this
theorem xI(w:NY)(a b c:Obj):(((w.alloc a).alloc b).alloc c).drew.heap[w.heap.size+1]?=N3 b:=wE w a b c
theorem tA(w:NY)(a b c:Obj):(((w.alloc a).alloc b).alloc c).drew.heap[w.heap.size+1+1]?=N3 c:=rZ w a b c
end
end Go.Proofs.YtnpihidbkhehjaaGreatDoor
