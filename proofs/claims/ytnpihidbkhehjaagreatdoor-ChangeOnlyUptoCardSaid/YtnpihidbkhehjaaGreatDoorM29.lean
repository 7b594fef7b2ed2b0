/- ChangeOnly of kingpostlaw58: part 29 of its proof (merged and shortened by program). -/
import Derived.Lib.MinMax
import Derived.Laws.BytesArg
import Derived.Test.YtnpihidbkhehjaaGreatDoorM28
set_option linter.unusedVariables false
set_option linter.unusedSimpArgs false
set_option linter.defProp false
set_option maxHeartbeats 8000000
set_option maxRecDepth 100000
open Go.RowKit Go.Shelf Go.Proofs.Tryz
open Array renaming getElem?_eq_some_iff→Od
open Bool renaming false→N1,true→Oc
open Go renaming World→NY,Value→N2,undef→N7,wpOp_step→Ob,Calls→Of,maxLen→Ol,TypeId→Oo
open Go.AllReady renaming cons→Oj,nil→Oq
open Go.IntKind renaming i64→Oe
open Go.IntWalk renaming i64_in→Om
open Go.Lib renaming hid→NW
open Go.RowKit renaming intOf→Oh,Below→On
open Go.World renaming size_alloc→Oi
open List renaming getD_eq_getElem?_getD→N8,length_map→N9,getElem?_eq_getElem→Oa
open Nat renaming le_refl→NZ,mul_comm→Og,le_trans→Ok
open Option renaming none→N0,some→N3
open Go.Proofs.YtnpihidbkhehjaaGreatDoor
namespace Go.Proofs.YtnpihidbkhehjaaGreatDoor
section
open Kp
theorem tX(w:NY)(a b:List Nat)(va vb:N2)(ha:aR w w.heap.size va a)(hb:aR w w.heap.size vb b)(hsa:ij a)(hcb:aT b)(hla:a.length≤100000)(hlb:b.length≤100000)(hne:b≠[]):
  Of prog 272 #[va,vb] w (vF (aA a) (aA b) w):=by
 rcases b with _|⟨d,_|⟨d2,b⟩⟩
 ·exact absurd rfl hne
 ·have hd1:d<1000000:=hcb.small d Ow
  have hd0:1≤d:=Nat.pos_of_ne_zero (hcb.trim d rfl)
  have HC:=NW (wO w a va d ha hsa hd0 hd1 Ot)
  obtain⟨A',cb,rfl,hb1,hb2,hbc⟩:=id hb
  obtain⟨bb,ob,rfl,_,hcell⟩:=hbc Ow
  have hx:w.cell? ⟨bb,ob,N0⟩=N3 (.int .i64 d):=hcell 0 Ow
  obtain⟨A,ca,rfl,_,_,_⟩:=ha
  rw[jL]
  clear hb hbc hcell
  go_enter func272,ntmps272
  go_wp2_with(go_at_call 304;go_loud (refine HC.out.mono ?_);rintro e w1 ⟨vq,vr,l,rfl,h1,h2,h3,h4⟩)
  go_ret2
  exact⟨_,_,l,rfl,h1,h2,h3,h4⟩
 ·exact qy w a (d::d2::b) va vb ha hb hsa hcb hla hlb b.length Ow
end
section
open Kp
def Gf(z:ByteArray)(f k:Nat):Prop:=∀m (_:f≤m) (_:m<k) (h:m<z.size),48≤((z[m]'h).toNat:Int)∧((z[m]'h).toNat:Int)≤57
structure B7(z:ByteArray):Prop where
 ex:∃f,f≤1∧f<z.size∧Gf z f z.size∧z.size-f≤300∧(f=1↔∃h:0<z.size,((z[0]'h).toNat:Int)=45)
def dq(z:ByteArray):Nat→Nat
 |0=>0
 |k+1=>10*dq z k+((z.data.toList.getD k 0).toNat-48)
theorem iL{z:ByteArray}{k g:Nat}(h:k<z.size)(hg:((z[k]'h).toNat:Int)=((48+g:Nat):Int)):dq z (k+1)=10*dq z k+g:=by
 have e:z.data.toList.getD k 0=z[k]'h:=by
  rw[N8,Oa (by rw[Array.length_toList];exact h)]
  simp[ByteArray.getElem_eq_getElem_data]
 show 10*dq z k+((z.data.toList.getD k 0).toNat-48)=_
 rw[e];omega
structure yn(z:ByteArray):Prop where
 pos:0<z.size
 len:z.size≤300
 all:Gf z 0 z.size
 lead:∀h:0<z.size,1<z.size→((z[0]'h).toNat:Int)≠48
theorem yn.at{z:ByteArray}(h:yn z){k:Nat}(hk:k<z.size):∃g:Nat,g≤9∧((z[k]'hk).toNat:Int)=((48+g:Nat):Int):=by
 have:=h.all k (Nat.zero_le _) hk hk
 exact⟨(z[k]'hk).toNat-48,Ot,Ot⟩
end
section
open Kp
theorem af.nK{w:NY}{b:Nat}{T:Oo}{x y:N2}(h:af w b T [x,y])(v:N2):af (w.setCell ⟨b,1,N0⟩ v) b T [x,v]:=by
 unfold af at *;simp[World.setCell,Array.getElem?_modify,h]
theorem af.jq{w:NY}{b:Nat}{T:Oo}{x y:N2}(h:af w b T [x,y])(v:N2):af (w.setCell ⟨b,0,N0⟩ v) b T [v,y]:=by
 unfold af at *;simp[World.setCell,Array.getElem?_modify,h]
theorem af.below{B:Nat}{w w':NY}{b:Nat}{T:Oo}{l:List N2}(h:af w b T l)(hx:On B w w')(hb:b<B):af w' b T l:=(hx.block b hb).trans h
def gY(n:Nat)(w:NY)(e:Ending)(w':NY):Prop:=∃s v l,e= .returned (.agg #[.bool s,v])∧aR w' w'.heap.size v l∧aT l∧l.length≤n∧Ext w w'
def zt(z:ByteArray)(w:NY)(e:Ending)(w':NY):Prop:=∃s v l,e= .returned (.agg #[.bool s,v])∧aR w' w'.heap.size v l∧aT l∧l.length≤51∧Ext w w'∧(Gf z 0 z.size→aA l=dq z z.size)
theorem rd_val{y:ByteArray}{j b x g:Nat}(h:dq y j=dq y b*10^(j-b)+x)(hs:dq y (j+1)=10*dq y j+g)(hk:b≤j):dq y (j+1)=dq y b*10^(j+1-b)+(10*x+g):=by
 have e:(10:Nat)^(j+1-b)=10^(j-b)*10:=by rw[show j+1-b=(j-b)+1 by omega,Nat.pow_succ]
 rw[hs,h,e,←Nat.mul_assoc,Og _ 10];omega
theorem ES{y:ByteArray}{j b x:Nat}(hb:j-6=b)(h:dq y j=dq y b*10^(j-b)+x):dq y j=dq y b*1000000+x:=by
 by_cases h6:6≤j
 ·rw[h,show j-b=6 by omega]
 ·obtain rfl:b=0:=Ot
  rw[h];simp[dq]
theorem Ad{L V x nb nj N:Nat}(h1:V+B6^L*nj=N)(h2:nj=nb*1000000+x):V+x*B6^L+B6^(L+1)*nb=N:=by
 have e:B6^L*(nb*1000000)=B6^(L+1)*nb:=by rw[Nat.pow_succ,Nat.mul_assoc,Og nb]
 rw[←h1,h2,Nat.mul_add,e,Og x];omega
structure Kl(w:NY)(s:Bool)(v:N2)(l:List Nat)(wr:NY):Prop where
 res:af wr w.heap.size 302 [.bool N1,.slice N0 0 0]
 num:af wr (w.heap.size+1) 302 [.bool s,v]
 own:wr.ownsRow (w.heap.size+2) 3 1 v l.length (oo l)
 small:ij l
 ext:Ext w wr
def C9(w:NY)(s:Bool)(y:ByteArray)(e:N2)(wr:NY):Prop:=∃(k:Int) (v:N2) (l:List Nat),e= .int .i64 k∧k+6*(l.length:Int)=y.size∧ -6<k∧aA l+B6^l.length*dq y k.toNat=dq y y.size∧Kl w s v l wr
def I7(y:ByteArray)(W:NY)(s e:Nat)(n i:N2)(wi:NY):Prop:=∃x k:Nat,n= .int .i64 (x:Int)∧i= .int .i64 (k:Int)∧s≤k∧k≤e∧x<10^(k-s)∧dq y k=dq y s*10^(k-s)+x∧wi=W
theorem Dk{x k s c:Nat}(h:x<10^(k-s))(hk:s≤k)(hc:c≤9):10*x+c<10^(k+1-s):=by
 have:(10:Nat)^(k+1-s)=10^(k-s)*10:=by rw[←Nat.pow_succ];congr 1;omega
 omega
theorem uw{x d:Nat}(h:x<10^d)(hd:d≤6):x<1000000:=
 Nat.lt_of_lt_of_le h (Ok (Nat.pow_le_pow_right Ov hd) Ov)
theorem rV{w wr:NY}{s:Bool}{v:N2}{l:List Nat}{x:Nat}(h:Kl w s v l wr)(hx:x<1000000)(v':N2)(w':NY)
  (ho:w'.ownsRow (w.heap.size+2) 3 1 v' (l.length+1) (oo l++[.int .i64 (x:Int)]))(hg:(wr.alloc (.cells #[.int .i64 (x:Int)] 3)).grownBy w' v.ownBlock):
  w'.cell? ⟨w.heap.size+1,1,N0⟩=N3 v∧w'.frozen? ⟨w.heap.size+1,1,N0⟩=N1∧Kl w s v' (l++[x]) (w'.setCell ⟨w.heap.size+1,1,N0⟩ v'):=by
 have b1:On (w.heap.size+2) wr w':=((Below.refl _ _).alloc (by have:=h.num.lt;omega) _).grown hg (by have:=h.num.lt;simp;omega) (fun k e=>(aE h.own k e).1)
 have n1:=h.num.below b1 Ot
 have hne:=aE ho
 refine⟨n1.cell 1,n1.frozen 1,((h.res.below b1 Ot).cI Ow _),n1.nK _,?_,?_,(h.ext.trans (b1.mono Ot)).setCell (p:=⟨w.heap.size+1,1,N0⟩) Ow _⟩
 ·rw[List.length_append]
  have e:oo (l++[x])=oo l++[.int .i64 (x:Int)]:=by unfold oo;rw[List.map_append];rfl
  rw[e]
  exact di ho (fun h=>by have:=hne _ h;simp at this) _
 ·intro d hd
  rcases List.mem_append.1 hd with h1|h1
  ·exact h.small d h1
  ·rw[List.mem_singleton.1 h1];exact hx
theorem lh(w:NY)(z:ByteArray)(hz:B7 z):Of prog 271 #[.string z] w (zt z w):=by
 obtain⟨i0,hi,hz0,hz1,hz2⟩:=info_parts dW
 have I0:=NW hi
 have I1:=NW hz0
 have I2:=NW hz1
 have I3:=NW hz2
 obtain⟨f,hf1,hfz,hd,h300,h45⟩:=hz.ex
 have hp:0<z.size:=Ot
 obtain⟨y,hy⟩:∃y:ByteArray,z.extract f z.size=y:=⟨_,rfl⟩
 have hys:y.size=z.size-f:=by rw[←hy,ByteArray.size_extract,Nat.min_self]
 have hyd:Gf y 0 y.size:=by
  intro m h1 h2 h3
  subst hy
  rw[ByteArray.getElem_extract]
  exact hd (f+m) Ot Ot Ot
 obtain⟨p,hpp⟩:∃p,(((z[0]'hp).toNat:Int)==45)=p:=⟨_,rfl⟩
 have hpf:p=decide (f=1):=by
  cases p
  ·rw[eq_comm,decide_eq_false_iff_not]
   intro e
   obtain⟨_,h⟩:=h45.1 e
   simp[h] at hpp
  ·rw[eq_comm,decide_eq_true_eq]
   exact h45.2 ⟨hp,beq_iff_eq.1 hpp⟩
 have hfy:f=0→z=y:=by
  intro e;subst e;rw[←hy];simp[ByteArray.extract_zero_size]
 clear hi hz0 hz1 hz2 hz h45
 have YD:=NW hyd
 have HYS:=NW hys
 have hyl:y.size≤300:=Ot
 have hy0:0<y.size:=Ot
 have HFY:=NW hfy
 have START:=NW (show∀s,C9 w s y (.int .i64 (y.size:Int)) ((w.alloc (Obj.cells #[.bool N1,.slice N0 0 0] 302)).alloc (Obj.cells #[.bool s,.slice N0 0 0] 302)) from fun s=>
  ⟨_,_,[],rfl,Ow,Ot,by simp[aA,S6],(af.new w _ _).ext ((Below.refl _ _).alloc (NZ _) _),by have:=af.new (w.alloc (Obj.cells #[.bool N1,.slice N0 0 0] 302)) 302 [.bool s,.slice N0 0 0];simpa using this,⟨rfl,.inl ⟨rfl,rfl⟩⟩,(fun _ h=>Ox),((Below.refl _ _).alloc (NZ _) _).alloc Ow _⟩)
 clear hyd hfy
 clear hys
 cases p with
 |true=>
  obtain rfl:f=1:=by simpa using hpf.symm
  have HY:=NW hy
  clear hpf hy h300 hd
  go_enter func271,ntmps271
  go_wp2_with fail
  rw[HY.out,←HYS.out]
  have ST:=NW (START.out Oc)
  go_loopw [4] (fun e wr=>C9 w Oc y e wr) (fun e _=>(Oh e+6).toNat)
  case atStart=>exact ST.out
  case round=>
   obtain⟨k,v,l,rfl,hk,hk6,hV,hM⟩:=hrel
   have HVV:=NW hV
   clear hV
   have HM:=NW hM
   have HK:=NW hk
   have HYL:=NW hyl
   by_cases hpos:0<k
   ·obtain⟨e,rfl⟩:∃e:Nat,k=(e:Int):=⟨k.toNat,Ot⟩
    obtain⟨b,hb⟩:∃b,e-6=b:=⟨_,rfl⟩
    have w1:Oe.wrap ((e:Int)-6)=(e:Int)-6:=Om _ Ot
    have hmx:max (0:Int) ((e:Int)-6)=(b:Int):=Ot
    have hey:e≤y.size:=Ot
    clear hM hk
    go_wp2_with fail
    go_loopw [5,6] (fun n i wi=>I7 y wr b e n i wi) (fun _ i _=>((e:Int)-Oh i).toNat)
    case atStart=>exact⟨0,b,rfl,rfl,NZ _,Ot,Ow,Ow,rfl⟩
    case round=>
     obtain⟨x,j,rfl,rfl,hbj,hje,hx,hxv,rfl⟩:=hrel
     have HXV:=NW hxv
     clear hxv
     by_cases hlt:j<e
     ·have hjy:j<y.size:=Ot
      have hd:=YD.out j (Nat.zero_le _) hjy hjy
      obtain⟨c,hc⟩:∃c:Nat,((y[j]'hjy).toNat:Int)=c:=⟨_,rfl⟩
      rw[hc] at hd
      obtain⟨g,rfl⟩:∃g:Nat,c=48+g:=⟨c-48,Ot⟩
      have hx6:=uw hx Ot
      have NX:=NW (Dk (c:=g) hx hbj Ot)
      have hq:(((y[j]'hjy).toNat:Int)-48)%256=(g:Int):=by rw[hc];omega
      have hu:Oe.wrap (g:Int)=g:=Om _ Ot
      have NVV:=NW (rd_val HXV.out (iL hjy hc) hbj)
      clear hc hx
      go_wp2
      exact⟨⟨10*x+g,j+1,Ow,Ow,Ot,Ot,NX.out,NVV.out,rfl⟩,Oy⟩
     ·obtain rfl:j=e:=Ot
      have hx6:=uw hx Ot
      have hfl:¬(j:Int)<j:=Ot
      have hres:=HM.out.num.cell 1
      have hfr:=HM.out.num.frozen 1
      have hbx:On (w.heap.size+2) wr (wr.alloc (.cells #[.int .i64 (x:Int)] 3)):=(Below.refl _ _).alloc (by have:=HM.out.num.lt;omega) _
      have HOX:=NW (bB HM.out.own ((Below.refl _ _).alloc (NZ _) (.cells #[.int .i64 (x:Int)] 3)))
      have hbase:w.heap.size+2≤(wr.alloc (.cells #[.int .i64 (x:Int)] 3)).heap.size:=by have:=HM.out.num.lt;simp;omega
      have hll:l.length≤100:=by have:=HK.out;omega
      have HN:=NW (rV HM.out hx6)
      clear hx hbx
      go_wp2_with(at_builtin;(refine wpList_append_own _ rfl _ _ _ rfl (w.heap.size+2) 3 i0 _ 1 8 underlying25 I0.out I1.out I2.out I3.out rfl Ot _ _ _ rfl HOX.out ⟨wr.heap.size,0,N0⟩ 1 1 [.int .i64 (x:Int)] rfl OR (fun j u hj=>OJ) Pj OE Ot hbase ?_);intro v' w' hown' hgr' hnil;obtain⟨A4,n4,c4,e4⟩:=lW.of hown';subst e4;obtain⟨hn0,hn1,hn2⟩:=HN.out _ w' hown' hgr';have HN2:=NW hn2;clear hn2)
      exact⟨⟨(j:Int)-6,_,l++[x],rfl,by rw[List.length_append];have:=HK.out;simp;omega,Ot,Pb,HN2.out⟩,Oy⟩
   ·have hM2:=HM.out
    obtain⟨A4,n4,c4,e4⟩:=lW.of hM2.own
    subst e4
    have hsl:=dX hM2.own rfl
    have CT:=NW (show Of prog 303 #[.slice A4 n4 c4] wr fun e w'=>e= .returned (.slice A4 (aj l).length c4)∧wr=w' from dD wr _ _ l hsl)
    have hst:=hsl.trimmed
    obtain⟨q,hq⟩:∃q,(aj l).length=q:=⟨_,rfl⟩
    have hl51:(aj l).length≤51:=Ok (aI _) (by have:=HK.out;have:=HYL.out;omega)
    have hcl:=hM2.num.cell 1
    have r1:=hM2.num.nK (.slice A4 q c4)
    have r2:=hM2.res.cI (p:=⟨w.heap.size+1,1,N0⟩) Ow (.slice A4 q c4)
    have f1:=hM2.num.frozen 1
    have c0:=r1.cell 0
    have c1:=r1.cell 1
    have d0:=r2.cell 0
    have d1:=r2.cell 1
    have g0:=r2.frozen 0
    have g1:=r2.frozen 1
    have r3:=r2.lU (.bool Oc) (.slice A4 q c4)
    have HQ0:=NW (r3.cell 0)
    have HQ1:=NW (r3.cell 1)
    have hxx:Ext w (((wr.setCell ⟨w.heap.size+1,1,N0⟩ (.slice A4 q c4)).setCell ⟨w.heap.size,0,N0⟩ (.bool Oc)).setCell ⟨w.heap.size,1,N0⟩ (.slice A4 q c4)):=((hM2.ext.setCell (p:=⟨w.heap.size+1,1,N0⟩) Ow _).setCell (p:=⟨w.heap.size,0,N0⟩) Ow _).setCell (p:=⟨w.heap.size,1,N0⟩) Ow _
    have hfin:zt z w (.returned (.agg #[.bool Oc,.slice A4 q c4])) (((wr.setCell ⟨w.heap.size+1,1,N0⟩ (.slice A4 q c4)).setCell ⟨w.heap.size,0,N0⟩ (.bool Oc)).setCell ⟨w.heap.size,1,N0⟩ (.slice A4 q c4)):=by
     refine⟨_,_,aj l,rfl,?_,dE hM2.small,hl51,hxx,fun h=>absurd (h 0 (NZ _) hp hp) (by have:=beq_iff_eq.1 hpp;omega)⟩
     have hne:=aE hM2.own
     have h3:=di (di (di hM2.own (p:=⟨w.heap.size+1,1,N0⟩) (fun h=>by have:=hne _ h;simp at this) (.slice A4 q c4)) (p:=⟨w.heap.size,0,N0⟩) (fun h=>PK) (.bool Oc)) (p:=⟨w.heap.size,1,N0⟩) (fun h=>PK) (.slice A4 q c4)
     subst hq
     exact(dX h3 rfl).trimmed
    have HF:=NW hfin
    rw[hq] at CT
    clear hM hk hM2 hsl hst hq hl51 r1 r2 r3 hxx hfin
    go_wp2_with(go_at_call 303;go_loud (refine CT.out.mono ?_);rintro e W1 ⟨rfl,rfl⟩)
    have q0:=HQ0.out
    have q1:=HQ1.out
    exact bodyPost_ret (v:= .agg #[.bool Oc,.slice A4 q c4]) (by simp[results,results271,go_sem,q0,q1]) rfl HF.out
 |false=>
  have h0:f=0:=by
   have:¬f=1:=by simpa using hpf.symm
   omega
  obtain rfl:=HFY.out h0
  clear hpf hy h300 hd HFY
  have ST:=NW (START.out N1)
  go_enter func271,ntmps271
  go_wp2_with fail
  go_loopw [4] (fun e wr=>C9 w N1 z e wr) (fun e _=>(Oh e+6).toNat)
  case atStart=>exact ST.out
  case round=>
   obtain⟨k,v,l,rfl,hk,hk6,hV,hM⟩:=hrel
   have HVV:=NW hV
   clear hV
   have HM:=NW hM
   have HK:=NW hk
   have HYL:=NW hyl
   by_cases hpos:0<k
   ·obtain⟨e,rfl⟩:∃e:Nat,k=(e:Int):=⟨k.toNat,Ot⟩
    obtain⟨b,hb⟩:∃b,e-6=b:=⟨_,rfl⟩
    have w1:Oe.wrap ((e:Int)-6)=(e:Int)-6:=Om _ Ot
    have hmx:max (0:Int) ((e:Int)-6)=(b:Int):=Ot
    have hey:e≤z.size:=Ot
    clear hM hk
    go_wp2_with fail
    go_loopw [5,6] (fun n i wi=>I7 z wr b e n i wi) (fun _ i _=>((e:Int)-Oh i).toNat)
    case atStart=>exact⟨0,b,rfl,rfl,NZ _,Ot,Ow,Ow,rfl⟩
    case round=>
     obtain⟨x,j,rfl,rfl,hbj,hje,hx,hxv,rfl⟩:=hrel
     have HXV:=NW hxv
     clear hxv
     by_cases hlt:j<e
     ·have hjy:j<z.size:=Ot
      have hd:=YD.out j (Nat.zero_le _) hjy hjy
      obtain⟨c,hc⟩:∃c:Nat,((z[j]'hjy).toNat:Int)=c:=⟨_,rfl⟩
      rw[hc] at hd
      obtain⟨g,rfl⟩:∃g:Nat,c=48+g:=⟨c-48,Ot⟩
      have hx6:=uw hx Ot
      have NX:=NW (Dk (c:=g) hx hbj Ot)
      have hq:(((z[j]'hjy).toNat:Int)-48)%256=(g:Int):=by rw[hc];omega
      have hu:Oe.wrap (g:Int)=g:=Om _ Ot
      have NVV:=NW (rd_val HXV.out (iL hjy hc) hbj)
      clear hc hx
      go_wp2
      exact⟨⟨10*x+g,j+1,Ow,Ow,Ot,Ot,NX.out,NVV.out,rfl⟩,Oy⟩
     ·obtain rfl:j=e:=Ot
      have hx6:=uw hx Ot
      have hfl:¬(j:Int)<j:=Ot
      have hres:=HM.out.num.cell 1
      have hfr:=HM.out.num.frozen 1
      have hbx:On (w.heap.size+2) wr (wr.alloc (.cells #[.int .i64 (x:Int)] 3)):=(Below.refl _ _).alloc (by have:=HM.out.num.lt;omega) _
      have HOX:=NW (bB HM.out.own ((Below.refl _ _).alloc (NZ _) (.cells #[.int .i64 (x:Int)] 3)))
      have hbase:w.heap.size+2≤(wr.alloc (.cells #[.int .i64 (x:Int)] 3)).heap.size:=by have:=HM.out.num.lt;simp;omega
      have hll:l.length≤100:=by have:=HK.out;omega
      have HN:=NW (rV HM.out hx6)
      clear hx hbx
      go_wp2_with(at_builtin;(refine wpList_append_own _ rfl _ _ _ rfl (w.heap.size+2) 3 i0 _ 1 8 underlying25 I0.out I1.out I2.out I3.out rfl Ot _ _ _ rfl HOX.out ⟨wr.heap.size,0,N0⟩ 1 1 [.int .i64 (x:Int)] rfl OR (fun j u hj=>OJ) Pj OE Ot hbase ?_);intro v' w' hown' hgr' hnil;obtain⟨A4,n4,c4,e4⟩:=lW.of hown';subst e4;obtain⟨hn0,hn1,hn2⟩:=HN.out _ w' hown' hgr';have HN2:=NW hn2;clear hn2)
      exact⟨⟨(j:Int)-6,_,l++[x],rfl,by rw[List.length_append];have:=HK.out;simp;omega,Ot,Pb,HN2.out⟩,Oy⟩
   ·have hM2:=HM.out
    obtain⟨A4,n4,c4,e4⟩:=lW.of hM2.own
    subst e4
    have hsl:=dX hM2.own rfl
    have CT:=NW (show Of prog 303 #[.slice A4 n4 c4] wr fun e w'=>e= .returned (.slice A4 (aj l).length c4)∧wr=w' from dD wr _ _ l hsl)
    have hst:=hsl.trimmed
    obtain⟨q,hq⟩:∃q,(aj l).length=q:=⟨_,rfl⟩
    have hl51:(aj l).length≤51:=Ok (aI _) (by have:=HK.out;have:=HYL.out;omega)
    have hcl:=hM2.num.cell 1
    have r1:=hM2.num.nK (.slice A4 q c4)
    have r2:=hM2.res.cI (p:=⟨w.heap.size+1,1,N0⟩) Ow (.slice A4 q c4)
    have f1:=hM2.num.frozen 1
    have c0:=r1.cell 0
    have c1:=r1.cell 1
    have d0:=r2.cell 0
    have d1:=r2.cell 1
    have g0:=r2.frozen 0
    have g1:=r2.frozen 1
    have r3:=r2.lU (.bool N1) (.slice A4 q c4)
    have HQ0:=NW (r3.cell 0)
    have HQ1:=NW (r3.cell 1)
    have hxx:Ext w (((wr.setCell ⟨w.heap.size+1,1,N0⟩ (.slice A4 q c4)).setCell ⟨w.heap.size,0,N0⟩ (.bool N1)).setCell ⟨w.heap.size,1,N0⟩ (.slice A4 q c4)):=((hM2.ext.setCell (p:=⟨w.heap.size+1,1,N0⟩) Ow _).setCell (p:=⟨w.heap.size,0,N0⟩) Ow _).setCell (p:=⟨w.heap.size,1,N0⟩) Ow _
    have hfin:zt z w (.returned (.agg #[.bool N1,.slice A4 q c4])) (((wr.setCell ⟨w.heap.size+1,1,N0⟩ (.slice A4 q c4)).setCell ⟨w.heap.size,0,N0⟩ (.bool N1)).setCell ⟨w.heap.size,1,N0⟩ (.slice A4 q c4)):=by
     refine⟨_,_,aj l,rfl,?_,dE hM2.small,hl51,hxx,fun _=>by rw[ft];have h:=HVV.out;rw[show k.toNat=0 by omega] at h;simpa[dq] using h⟩
     have hne:=aE hM2.own
     have h3:=di (di (di hM2.own (p:=⟨w.heap.size+1,1,N0⟩) (fun h=>by have:=hne _ h;simp at this) (.slice A4 q c4)) (p:=⟨w.heap.size,0,N0⟩) (fun h=>PK) (.bool N1)) (p:=⟨w.heap.size,1,N0⟩) (fun h=>PK) (.slice A4 q c4)
     subst hq
     exact(dX h3 rfl).trimmed
    have HF:=NW hfin
    rw[hq] at CT
    clear hM hk hM2 hsl hst hq hl51 r1 r2 r3 hxx hfin
    go_wp2_with(go_at_call 303;go_loud (refine CT.out.mono ?_);rintro e W1 ⟨rfl,rfl⟩)
    have q0:=HQ0.out
    have q1:=HQ1.out
    exact bodyPost_ret (v:= .agg #[.bool N1,.slice A4 q c4]) (by simp[results,results271,go_sem,q0,q1]) rfl HF.out
theorem jx(w:NY)(z:ByteArray)(hz:B7 z):Of prog 271 #[.string z] w (gY 51 w):=
 (lh w z hz).mono fun _ _ ⟨s,v,l,h1,h2,h3,h4,h5,_⟩=>⟨s,v,l,h1,h2,h3,h4,h5⟩
end
section
open Kp
theorem IC:(prog.info? 5).map (fun i=>(i.zero,i.size,i.bytes))=N3 (N3 (.int .u8 0),1,1):=Ou
def oC(w:NY)(g:Nat)(l:List Nat):Prop:=
 ∃cur:Array N2,w.heap[g]?=N3 (.cells cur 5 (0,0))∧cur.size=l.length∧∀j,j<l.length→cur[j]?=N3 (.int .u8 (fv l j))
theorem oC.lt{w:NY}{g:Nat}{l:List Nat}(h:oC w g l):g<w.heap.size:=by
 obtain⟨cur,hh,_⟩:=h
 exact(Od.1 hh).1
theorem oC.cell{w:NY}{g:Nat}{l:List Nat}(h:oC w g l){j:Nat}(hj:j<l.length):w.cell? ⟨g,j,N0⟩=N3 (.int .u8 (fv l j)):=by
 obtain⟨cur,hh,_,hc⟩:=h
 simp[World.cell?,hh,hc j hj]
theorem oC.frozen{w:NY}{g:Nat}{l:List Nat}(h:oC w g l)(j:Nat):w.frozen? ⟨g,j,N0⟩=N1:=by
 obtain⟨cur,hh,_⟩:=h
 simp[World.frozen?,hh]
theorem oC.set{w:NY}{g:Nat}{l:List Nat}(h:oC w g l){j:Nat}(hj:j<l.length)(x:Nat):oC (w.setCell ⟨g,j,N0⟩ (.int .u8 x)) g (l.set j x):=by
 obtain⟨cur,hh,h1,hc⟩:=h
 refine⟨cur.setIfInBounds j (.int .u8 x),?_,by simp[h1],fun k hk=> ?_⟩
 ·simp[World.setCell,Array.getElem?_modify,hh]
 ·simp only[List.length_set] at hk
  rw[eY hj,Array.getElem?_setIfInBounds]
  by_cases hkj:j=k
  ·subst hkj;simp[h1];omega
  ·rw[if_neg hkj,if_neg (Ne.symm hkj)];exact hc k hk
theorem CE{w:NY}{base g n:Nat}(h:w.ownsRow base 5 1 (.slice (N3 ⟨g,0,N0⟩) n n) n (madeCells (Value.int .u8 0).cells (n*1)).toList):oC w g (List.replicate n 0):=by
 obtain⟨hl,h|⟨g',cap',cur,e,hb,hh,h1,h2,h3,h4⟩⟩:=h
 ·obtain⟨h,_⟩:=h;cases h
 ·injection e with e1 e2 e3
  injection e1 with e1
  injection e1 with e1
  subst e1 e3
  refine⟨cur,hh,OB,fun j hj=> ?_⟩
  simp at hj
  have:(madeCells (Value.int .u8 0).cells (n*1)).toList[j]?=N3 (.int .u8 (fv (List.replicate n 0) j)):=by
   rw[iU]
   simp[madeCells,Value.cells,hj,Nat.mod_one]
  rw[←h4,List.getElem?_take,if_pos Ot] at this
  simpa using this
def kC(l:List Nat)(q:Nat):Nat:=
 fv l (q/6)/10^(q%6)
  %10
structure Bm(w0:NY)(g:Nat)(l:List Nat)(d:Nat)(xs:List Nat)(wr:NY):Prop where
 row:oC wr g xs
 len:xs.length=6*l.length
 kB:∀q,q<d→fv xs (6*l.length-1-q)=48+kC l q
 ext:On g w0 wr
theorem Bm.next{w0:NY}{g:Nat}{l:List Nat}{d:Nat}{xs:List Nat}{wr:NY}(h:Bm w0 g l d xs wr)(hd:d<6*l.length){x j:Nat}(hx:x=48+kC l d)(hj:j=6*l.length-1-d):
  Bm w0 g l (d+1) (xs.set j x) (wr.setCell ⟨g,j,N0⟩ (.int .u8 (x:Int))):=by
 have hl:=h.len
 refine⟨h.row.set Ot x,by rw[List.length_set];exact hl,fun q hq=> ?_,h.ext.setCell (p:=⟨g,j,N0⟩) (NZ _) _⟩
 rw[eY Ot]
 by_cases e:q=d
 ·rw[if_pos Ot,hx,e]
 ·rw[if_neg Ot];exact h.kB q Ot
theorem ka(l:List Nat)(k j:Nat)(hj:j<6):kC l (6*k+j)=fv l k/10^j%10:=by
 unfold kC
 rw[show(6*k+j)/6=k by omega,Nat.mul_add_mod,Nat.mod_eq_of_lt hj]
theorem It{l:List Nat}(hc:aT l)(hl:0<l.length):∃q,q<6*l.length∧kC l q≠0:=by
 have ht:fv l (l.length-1)≠0:=hc.trim _ (by rw[List.getLast?_eq_getElem?,Oa Ot,jA Ot])
 have hs:fv l (l.length-1)<1000000:=aw hc.small _
 obtain⟨t,e⟩:∃t,fv l (l.length-1)=t:=⟨_,rfl⟩
 rw[e] at ht hs
 have key:∃r,r<6∧t/10^r%10≠0:=by
  apply Classical.byContradiction
  intro h
  have f:∀r,r<6→t/10^r%10=0:=fun r hr=>Classical.byContradiction fun h2=>h ⟨r,hr,h2⟩
  have f0:=f 0 Ov
  have f1:=f 1 Ov
  have f2:=f 2 Ov
  have f3:=f 3 Ov
  have f4:=f 4 Ov
  have f5:=f 5 Ov
  simp at f0 f1 f2 f3 f4 f5
  omega
 obtain⟨r,hr,h⟩:=key
 refine⟨6*(l.length-1)+r,Ot,?_⟩
 rw[ka _ _ _ hr,e]
 exact h
theorem Ms{t:Nat}(ht:t<1000000)(h:∀r,1≤r→r<6→t/10^r%10=0):t=t/10^0%10:=by
 have f1:=h 1 Ov Ov
 have f2:=h 2 Ov Ov
 have f3:=h 3 Ov Ov
 have f4:=h 4 Ov Ov
 have f5:=h 5 Ov Ov
 simp at f1 f2 f3 f4 f5⊢
 omega
theorem JD{l xs:List Nat}{o:Nat}(hc:aT l)(hd:∀q,q<6*l.length→fv xs (6*l.length-1-q)=48+kC l q)(hb:∀j,j<o→fv xs j=48)(ho:o<6*l.length)(hne:fv xs o≠48):
  (strOfNums ((List.range (6*l.length-o)).map fun j=>((fv xs (o+j):Nat):Int))).toList=[49]↔aA l=1:=by
 rw[ByteArray.toList_eq,strOfNums_data,List.map_map]
 constructor
 ·intro h
  have hz:6*l.length-o=1:=by simpa using congrArg List.length h
  have h0:=hd 0 Ot
  rw[show 6*l.length-1-0=o by omega] at h0
  rw[hz] at h
  have hlt:kC l 0<10:=Nat.mod_lt _ Ov
  have h1:kC l 0=1:=by
   have h2:UInt8.ofNat (fv xs o)=49:=by simpa[List.range_succ] using h
   have h3:=congrArg UInt8.toNat h2
   simp at h3
   omega
  have hq:∀q,1≤q→q<6*l.length→kC l q=0:=by
   intro q hq1 hq2
   have h2:=hd q hq2
   rw[hb _ Ot] at h2
   omega
  have hlen:l.length=1:=by
   apply Classical.byContradiction
   intro hl
   have ht:fv l (l.length-1)≠0:=hc.trim _ (by rw[List.getLast?_eq_getElem?,Oa Ot,jA Ot])
   apply ht
   rw[Ms (aw hc.small _) (fun r _ hr=>by rw[←ka l (l.length-1) r hr];exact hq _ Ot Ot),←ka l (l.length-1) 0 Ov]
   exact hq _ Ot Ot
  have h2:fv l 0=1:=by
   rw[Ms (aw hc.small 0) (fun r hr1 hr=>by rw[←ka l 0 r hr];exact hq _ Ot Ot),←ka l 0 0 Ov]
   exact h1
  match l,hlen with
  |[x],_=>rw[jL];exact h2
 ·intro h
  have hlen:l.length=1:=by
   have hne:l≠[]:=by rintro rfl;cases h
   have h1:=tG hc.trim hne
   rw[h] at h1
   rcases Nat.lt_or_ge l.length 2 with h2|h2
   ·have:=List.length_pos_iff.2 hne;omega
   ·have:B6^1≤B6^(l.length-1):=Nat.pow_le_pow_right Ov Ot
    have h3:B6^1=1000000:=Ov
    omega
  match l,hlen with
  |[x],_=>
   rw[jL] at h
   subst h
   have h5:=hd (5-o) (by show 5-o<6;omega)
   have ho6:o<6:=ho
   rw[show 6*([1]:List Nat).length-1-(5-o)=o from(by show 6-1-(5-o)=o;omega)] at h5
   have h6:o=5:=by
    rcases(show o=0∨o=1∨o=2∨o=3∨o=4∨o=5 by omega) with rfl|rfl|rfl|rfl|rfl|rfl
    ·exact absurd h5 (by rw[show kC [1] (5-0)=0 by decide];exact hne)
    ·exact absurd h5 (by rw[show kC [1] (5-1)=0 by decide];exact hne)
    ·exact absurd h5 (by rw[show kC [1] (5-2)=0 by decide];exact hne)
    ·exact absurd h5 (by rw[show kC [1] (5-3)=0 by decide];exact hne)
    ·exact absurd h5 (by rw[show kC [1] (5-4)=0 by decide];exact hne)
    ·rfl
   subst h6
   rw[show kC [1] (5-5)=1 by decide] at h5
   simp[List.range_succ,h5]
def Mj(n:Nat)(s:Bool)(l:List Nat)(w:NY)(e:Ending)(w':NY):Prop:=∃t:ByteArray,e= .returned (.string t)∧0<t.size∧t.size≤n∧Ext w w'∧(s=N1→(t.toList=[49]↔aA l=1))
theorem nD(w:NY)(s:Bool)(v:N2)(l:List Nat)(hs:aR w w.heap.size v l)(hc:aT l)(hl:l.length≤100000):
  Of prog 273 #[.agg #[.bool s,v]] w (Mj (6*l.length+1) s l w):=by
 obtain⟨A,ca,rfl,ha1,ha2,hac⟩:=id hs
 unfold Ol at ha2
 by_cases h0:l.length=0
 ·rw[h0]
  clear hac
  go_enter func273,ntmps273
  go_wp2_with fail
  go_ret
  obtain rfl:l=[]:=List.length_eq_zero_iff.1 h0
  exact⟨_,rfl,Ov,Ov,(Below.refl _ _).alloc (NZ _) _,fun _=>⟨fun h=>absurd h (by rw[ByteArray.toList_eq];decide),fun h=>Ox⟩⟩
 obtain⟨b,off,rfl,hbw,_⟩:=hac Ot
 obtain⟨i0,hi,hz0,hz1,hz2⟩:=info_parts IC
 obtain⟨p,hp,hpd⟩:=It hc Ot
 obtain⟨n,hn⟩:∃n,l.length=n:=⟨_,rfl⟩
 have HN:=NW hn
 have HPD:=NW hpd
 have HP:=NW hp
 rw[hn] at ha1 hl h0⊢
 have HS:=NW hs
 clear hs hn hpd hp hac
 go_enter func273,ntmps273
 go_wp2_with(at_make;refine wpList_make_full _ rfl _ _ 108 rfl (w.heap.size+1) 5 i0 (.int .u8 0) 1 underlying108 hi hz0 hz1 .i64 .i64 _ _ (6*n) rfl rfl Ot Ot PQ OE Ow ?_;intro w1 hown hgrow)
 have hrow:=af.new w 302 [.bool s,.slice (N3 ⟨b,off,N0⟩) n ca]
 have hb1:On (w.heap.size+1) (w.alloc (Obj.cells #[.bool s,.slice (N3 ⟨b,off,N0⟩) n ca] 302)) w1:=(Below.refl _ _).grown hgrow Ow (fun _ h=>Ox)
 simp only[Oi] at hown⊢
 have HBX:=NW (show af (w.alloc (Obj.cells #[.bool s,.slice (N3 ⟨b,off,N0⟩) n ca] 302)) w.heap.size 302 [.bool s,.slice (N3 ⟨b,off,N0⟩) n ca] from hrow)
 have HX0:=NW (show On w.heap.size w (w.alloc (Obj.cells #[.bool s,.slice (N3 ⟨b,off,N0⟩) n ca] 302)) from(Below.refl _ _).alloc (NZ _) _)
 obtain⟨w0,hw0⟩:∃w0,w.alloc (Obj.cells #[.bool s,.slice (N3 ⟨b,off,N0⟩) n ca] 302)=w0:=⟨_,rfl⟩
 rw[hw0] at hb1 HBX HX0
 have ST:=NW (show Bm w0 (w.heap.size+1) l (6*0) (List.replicate (6*n) 0) w1 from⟨CE hown,by rw[List.length_replicate,HN.out],fun q hq=>Ot,hb1⟩)
 clear hown hgrow hrow hb1 hw0 hi hz0 hz1 hz2
 go_loopw [4] (fun i wr=>∃(k:Nat) (xs:List Nat),k≤n∧i= .int .i64 (k:Int)∧Bm w0 (w.heap.size+1) l (6*k) xs wr) (fun i _=>n-(Oh i).toNat)
 case atStart=>exact⟨0,_,Ot,rfl,ST.out⟩
 case round=>
  obtain⟨i,xs,hi,rfl,hW⟩:=hrel
  have hbx:=HBX.out.below hW.ext (Nat.lt_succ_self _)
  have hc1:=hbx.cell 1
  have HW:=NW hW
  by_cases hlt:i<n
  ·have hsl:=(HS.out.below HX0.out).below (hW.ext.mono Ot)
   obtain⟨_,_,e,_,_,hac⟩:=hsl
   injection e with e1 e2 e3
   clear e2
   subst e1 e3
   obtain⟨_,_,e,_,hcell⟩:=hac O9
   injection e with e
   injection e with e1 e2
   subst e1 e2
   have hci:=hcell i O9
   have hxi:fv l i<1000000:=aw hc.small i
   obtain⟨x,hx⟩:∃x,fv l i=x:=⟨_,rfl⟩
   rw[hx] at hci hxi
   have HXI:=NW hx
   clear hcell hac hW hbx hx
   go_wp2_with fail
   go_loopw [5,6] (fun x' k wi=>∃(j:Nat) (ys:List Nat),j≤6∧k= .int .i64 ((j:Int)+1)∧x'= .int .i64 ((x/10^j:Nat):Int)∧Bm w0 (w.heap.size+1) l (6*i+j) ys wi) (fun _ k _=>7-(Oh k).toNat)
   case atStart=>exact⟨0,xs,Ot,rfl,Ow,HW.out⟩
   case round=>
    obtain⟨j,ys,hj,rfl,rfl,hY⟩:=hrel
    have HY:=NW hY
    obtain⟨d,hd⟩:∃d,x/10^j=d:=⟨_,rfl⟩
    have hd6:d<1000000:=by rw[←hd];exact Nat.lt_of_le_of_lt (Nat.div_le_self _ _) hxi
    by_cases hj6:j<6
    ·obtain⟨m,hm⟩:∃m,6*n-1-(6*i+j)=m:=⟨_,rfl⟩
     have hm6:m<ys.length:=by rw[hY.len,HN.out];omega
     have hcm:=hY.row.cell hm6
     have hfm:=hY.row.frozen m
     have e1:6*(n:Int)-6*i-((j:Int)+1)=(m:Int):=Ot
     have hmn:m<6*n:=Ot
     have hdig:48+d%10=48+kC l (6*i+j):=by rw[ka _ _ _ hj6,HXI.out,hd]
     have NX:=NW (hY.next (by rw[HN.out];omega) (x:=48+d%10) (j:=m) hdig (by rw[HN.out];exact hm.symm))
     have hdv:d/10=x/10^(j+1):=by rw[←hd,Nat.div_div_eq_div_mul,Nat.pow_succ]
     have HDV:=NW hdv
     obtain⟨c,hc⟩:∃c,48+d%10=c:=⟨_,rfl⟩
     have e2:48+(d:Int)%10=(c:Int):=Ot
     have hcs:c<256:=Ot
     obtain⟨o,ho⟩:∃o,fv ys m=o:=⟨_,rfl⟩
     rw[ho] at hcm
     rw[hc] at NX
     rw[hd]
     clear hY hm6 hdig hdv hc ho hd hm
     go_wp2
     exact⟨⟨j+1,_,Ot,Ow,by rw[←HDV.out];simp,NX.out⟩,Oy⟩
    ·obtain rfl:j=6:=Ot
     clear hY hd
     go_wp2_with fail
     exact⟨⟨i+1,ys,Ot,Ow,by have:=HY.out;rwa[show 6*(i+1)=6*i+6 by omega]⟩,Oy⟩
  ·obtain rfl:i=n:=Ot
   have hc0:=hbx.cell 0
   have hxw:Ext w wr:=HX0.out.trans (hW.ext.mono Ot)
   have HXW:=NW hxw
   obtain⟨P,hP⟩:∃P,6*i-1-p=P:=⟨_,rfl⟩
   have hPl:P<6*i:=by have:=HP.out;rw[HN.out] at this;omega
   have HPV:=NW (show fv xs P≠48 by
    have:=hW.kB p (by have:=HP.out;rwa[HN.out] at this)
    rw[HN.out,hP] at this
    rw[this];have:=HPD.out;omega)
   clear hW hbx hxw hP
   go_wp2_with fail
   go_loopw [3] (fun v wi=>∃o:Nat,o≤P∧v= .slice (N3 ⟨w.heap.size+1,o,N0⟩) (6*i-o) (6*i-o)∧(∀j,j<o→fv xs j=48)∧wi=wr) (fun v _=>Hp v)
   case atStart=>exact⟨0,Ot,rfl,fun j hj=>Ot,rfl⟩
   case round=>
    obtain⟨o,ho,rfl,hbo,rfl⟩:=hrel
    have HBO:=NW hbo
    clear hbo
    have hol:o<xs.length:=by rw[HW.out.len,HN.out];omega
    have hco:=HW.out.row.cell hol
    obtain⟨y,hy⟩:∃y,fv xs o=y:=⟨_,rfl⟩
    rw[hy] at hco
    have HO:=NW hy
    obtain⟨z,hz⟩:∃z,6*i-o=z:=⟨_,rfl⟩
    have HZ:=NW hz
    rw[hz]
    have hz1:1≤z:=Ot
    clear hol hy
    by_cases h48:y=48
    ·subst h48
     have hop:o+1≤P:=by
      rcases Nat.lt_or_ge o P with h|h
      ·exact h
      ·exact absurd HO.out (by rw[show o=P by omega];exact HPV.out)
     have hz2:¬z=1:=Ot
     clear hz
     go_wp2
     exact⟨⟨o+1,hop,by rw[show 6*i-(o+1)=z-1 by have:=HZ.out;omega],fun j hj=>(Nat.lt_or_ge j o).elim (fun e=>HBO.out j e) (fun e=>(show j=o by omega)▸HO.out),trivial⟩,by simp[Hp];omega⟩
    ·obtain⟨ns,hns⟩:∃ns,(List.range z).map (fun j=>((fv xs (o+j):Nat):Int))=ns:=⟨_,rfl⟩
     have hnl:ns.length=z:=by rw[←hns];simp
     have hcv:=run_convert_bytes_arg (P:=prog) wr 108 5 underlying108 underlying5 (w.heap.size+1) o z z ns hnl (fun j hj=>by
      rw[HW.out.row.cell (by rw[HW.out.len,HN.out];omega),←hns]
      simp[List.getD,hj]) 9 underlying9
     obtain⟨S,hS⟩:∃S,strOfNums ns=S:=⟨_,rfl⟩
     have HSZ:=NW (show S.size=z by rw[←hS,strOfNums_size,hnl])
     rw[hS] at hcv
     have HZB:=NW (show z≤6*i by omega)
     have HON:=NW (show S.toList=[49]↔aA l=1 by
      have h:=JD (o:=o) hc (fun q hq=>HW.out.kB q (by rwa[HN.out] at hq)) HBO.out (by rw[HN.out];omega) (by rw[HO.out];exact h48)
      rw[HN.out,hz,hns,hS] at h
      exact h)
     clear hz hns hnl hS
     cases s with
     |false=>
      go_wp2
      refine bodyPost_ret (v:= .string S) (by simp[results,results273,go_sem]) rfl ?_
      exact⟨S,rfl,by rw[HSZ.out];exact hz1,by rw[HSZ.out];have:=HZB.out;omega,HXW.out,fun _=>HON.out⟩
     |true=>
      have hsz:=HSZ.out
      have hzb:z≤600000:=by have:=HZB.out;omega
      go_wp2
      refine bodyPost_ret (v:= .string (⟨#[45]⟩++S)) (by simp[results,results273,go_sem]) rfl ?_
      exact⟨_,rfl,by rw[ByteArray.size_append,HSZ.out];omega,by rw[ByteArray.size_append,HSZ.out];have:=HZB.out;show 1+z≤_;omega,HXW.out,fun h=>Ox⟩
end
section
open Kp
def Np(w:NY)(a b:List Nat)(v c i:N2)(wr:NY):Prop:=
 ∃k:Nat,k≤max a.length b.length+1∧i= .int .i64 (k:Int)∧c= .int .i64 ((gw a b k).2:Int)∧wr.ownsRow w.heap.size 3 1 v k (oo (bK (gw a b) k))∧Ext w wr
theorem DH{a b:List Nat}(ha:ij a)(hb:ij b):(gw a b (max a.length b.length+1)).2=0:=by
 show(fv a (max a.length b.length)+fv b (max a.length b.length)+(gw a b (max a.length b.length)).2)/1000000=0
 rw[ju Ot,ju Ot]
 have:=(uN ha hb (max a.length b.length)).1
 omega
theorem yT(w:NY)(a b:List Nat)(va vb:N2)(ha:aR w w.heap.size va a)(hb:aR w w.heap.size vb b)(hsa:ij a)(hsb:ij b)(hla:a.length≤1000000)(hlb:b.length≤1000000):
  Of prog 326 #[va,vb] w (qY (fun l=>l.length≤max a.length b.length+1) w):=by
 obtain⟨i0,hi0,hz0,hz1,hz2⟩:=info_parts dW
 have I0:=NW hi0
 have I1:=NW hz0
 have I2:=NW hz1
 have I3:=NW hz2
 have HA:=NW ha
 have HB:=NW hb
 obtain⟨A,ca,rfl,ha1,ha2,_⟩:=id ha
 obtain⟨B',cb,rfl,hb1,hb2,_⟩:=id hb
 have HC:=NW (fun n=>dE (kU (fun k=>(uN hsa hsb k).2) n))
 have HM:=NW (fun k=>uN hsa hsb k)
 have HE:=NW (DH hsa hsb)
 have HSA:=NW hsa
 have HSB:=NW hsb
 unfold Ol at ha2 hb2
 clear ha hb hi0 hz0 hz1 hz2 hsa hsb
 go_enter func326,ntmps326
 go_wp2
 go_loopw [5,6,7] (fun v c i wr=>Np w a b v c i wr) (fun _ _ i _=>((max a.length b.length+1:Nat)-Oh i).toNat)
 case atStart=>exact⟨0,Ot,rfl,rfl,qU _ _,(Below.refl _ _).alloc (NZ _) _⟩
 case round=>
  obtain⟨k,hk,rfl,rfl,hown,hX⟩:=hrel
  have HO:=NW hown
  have HX:=NW hX
  have hs1:=(HA.out.below hX)
  have hs2:=(HB.out.below hX)
  have hbase:=hX.size
  clear hown hX
  by_cases hgo:k<a.length∨k<b.length∨0<(gw a b k).2
  ·have C1:=NW (jf wr _ _ a k hs1 Ot)
   have C2:=NW (jf wr _ _ b k hs2 Ot)
   have hkn:k+1≤max a.length b.length+1:=by
    rcases Nat.lt_or_ge k (max a.length b.length+1) with h|h
    ·omega
    ·have e:k=max a.length b.length+1:=Ot
     rw[e,HE.out] at hgo;omega
   have HR:=NW (ee (gw a b) k)
   have hx1:(gw a b (k+1)).1=(fv a k+fv b k+(gw a b k).2)%1000000:=rfl
   have hx2:(gw a b (k+1)).2=(fv a k+fv b k+(gw a b k).2)/1000000:=rfl
   have hxa:fv a k<1000000:=aw HSA.out k
   have hxb:fv b k<1000000:=aw HSB.out k
   have hxc:=(HM.out k).1
   obtain⟨p,hp⟩:∃x,fv a k=x:=⟨_,rfl⟩
   obtain⟨r,hr⟩:∃x,fv b k=x:=⟨_,rfl⟩
   obtain⟨c,hc⟩:∃x,(gw a b k).2=x:=⟨_,rfl⟩
   obtain⟨x,hx⟩:∃x,(gw a b (k+1)).1=x:=⟨_,rfl⟩
   obtain⟨y,hy⟩:∃y,(gw a b (k+1)).2=y:=⟨_,rfl⟩
   rw[hx,hp,hr,hc] at hx1
   rw[hy,hp,hr,hc] at hx2
   rw[hp] at C1 hxa
   rw[hr] at C2 hxb
   rw[hc] at hxc hgo
   rw[hc]
   rw[hx] at HR
   have HY:=NW hy
   have hbase1:w.heap.size≤(wr.alloc (.cells #[.int .i64 (x:Int)] 3)).heap.size:=OB
   have HOX:=NW (bB HO.out ((Below.refl _ _).alloc (NZ _) (.cells #[.int .i64 (x:Int)] 3)))
   obtain⟨vs,hvs⟩:∃vs,oo (bK (gw a b) k)=vs:=⟨_,rfl⟩
   rw[hvs] at HO HOX
   have HVS:=NW hvs
   have e1:((p:Int)+r+c)%1000000=(x:Int):=Ot
   have e2:((p:Int)+r+c)/1000000=(y:Int):=Ot
   have HK:=NW hkn
   have ARM:=NW (show∀(v':N2) (w':NY),w'.ownsRow w.heap.size 3 1 v' (k+1) (vs++[.int .i64 (x:Int)])→(wr.alloc (.cells #[.int .i64 (x:Int)] 3)).grownBy w' u5.ownBlock→Np w a b v' (.int .i64 (y:Int)) (.int .i64 ((k:Int)+1)) w' from fun v' w' hown' hgr'=>by
    refine⟨k+1,HK.out,Ow,by rw[HY.out],?_,eM (HX.out.alloc HX.out.size _) hgr' (fun q hq=>(aE HO.out q hq).1)⟩
    have e:oo (bK (gw a b) (k+1))=vs++[.int .i64 (x:Int)]:=Pq
    rw[e]
    exact hown')
   have hkb:k≤1000000:=Ot
   have hmx:((max a.length b.length+1:Nat):Int)-k≥1:=Ot
   clear hs1 hs2 hp hr hc hx hy hvs hx1 hx2 HR hkn hk
   have ga:∃t,decide (k<a.length)=t:=⟨_,rfl⟩
   obtain⟨ta,hta⟩:=ga
   obtain⟨tb,htb⟩:∃t,decide (k<b.length)=t:=⟨_,rfl⟩
   have htc:ta=N1→tb=N1→decide (0<c)=Oc:=by
    intro h1 h2
    subst h1 h2
    rw[decide_eq_false_iff_not] at hta htb
    rw[decide_eq_true_eq];omega
   have HTC:=NW htc
   clear htc hgo
   cases ta
   ·cases tb
    ·have tc:=HTC.out rfl rfl
     have tc2:decide (0<(c:Int))=Oc:=by rw[decide_eq_true_eq] at tc⊢;omega
     go_wp2_with(first
      |(at_builtin;(refine wpList_append_own _ rfl _ _ _ rfl w.heap.size 3 i0 _ 1 8 underlying25 I0.out I1.out I2.out I3.out rfl Ot _ _ _ rfl HOX.out ⟨wr.heap.size,0,N0⟩ 1 1 [.int .i64 (x:Int)] rfl OR (fun j u hj=>OJ) Pj OE Ot hbase1 ?_);intro v' w' hown' hgr' hnil)
      |(go_at_call 305;first|((with_reducible refine C1.out.mono ?_);rintro e W1 ⟨rfl,rfl⟩)|((with_reducible refine C2.out.mono ?_);rintro e W1 ⟨rfl,rfl⟩)))
     exact⟨by rw[e2];exact ARM.out _ _ hown' hgr',Oy⟩
    ·go_wp2_with(first
      |(at_builtin;(refine wpList_append_own _ rfl _ _ _ rfl w.heap.size 3 i0 _ 1 8 underlying25 I0.out I1.out I2.out I3.out rfl Ot _ _ _ rfl HOX.out ⟨wr.heap.size,0,N0⟩ 1 1 [.int .i64 (x:Int)] rfl OR (fun j u hj=>OJ) Pj OE Ot hbase1 ?_);intro v' w' hown' hgr' hnil)
      |(go_at_call 305;first|((with_reducible refine C1.out.mono ?_);rintro e W1 ⟨rfl,rfl⟩)|((with_reducible refine C2.out.mono ?_);rintro e W1 ⟨rfl,rfl⟩)))
     exact⟨by rw[e2];exact ARM.out _ _ hown' hgr',Oy⟩
   ·go_wp2_with(first
     |(at_builtin;(refine wpList_append_own _ rfl _ _ _ rfl w.heap.size 3 i0 _ 1 8 underlying25 I0.out I1.out I2.out I3.out rfl Ot _ _ _ rfl HOX.out ⟨wr.heap.size,0,N0⟩ 1 1 [.int .i64 (x:Int)] rfl OR (fun j u hj=>OJ) Pj OE Ot hbase1 ?_);intro v' w' hown' hgr' hnil)
     |(go_at_call 305;first|((with_reducible refine C1.out.mono ?_);rintro e W1 ⟨rfl,rfl⟩)|((with_reducible refine C2.out.mono ?_);rintro e W1 ⟨rfl,rfl⟩)))
    exact⟨by rw[e2];exact ARM.out _ _ hown' hgr',Oy⟩
  ·have g1:¬k<a.length:=Ot
   have g2:¬k<b.length:=Ot
   have hsn:=dX HO.out (aY (gw a b) k)
   have CT:=NW (dD wr wr.heap.size u5 (bK (gw a b) k) hsn)
   have HS:=NW (show qY (fun l=>l.length≤max a.length b.length+1) w (.returned (FN u5 (bK (gw a b) k))) wr from⟨_,_,rfl,hsn.trimmed,HC.out _,Ok (aI _) (by rw[aY];exact hk),HX.out,(zM HO.out).tr _⟩)
   obtain⟨c,hc⟩:∃x,(gw a b k).2=x:=⟨_,rfl⟩
   rw[hc] at hgo
   rw[hc]
   have g3:¬0<(c:Int):=Ot
   clear hsn hs1 hs2 hc hgo
   go_wp2_with(go_at_call 303;go_must(refine CT.out.mono ?_);rintro e W1 ⟨rfl,rfl⟩)
   go_ret
   exact HS.out
end
section
open Kp
theorem gY.of{n:Nat}{w w':NY}{s:Bool}{v:N2}{l:List Nat}(h1:aR w' w'.heap.size v l)(h2:aT l)(h3:l.length≤n)(h4:Ext w w'):gY n w (.returned (.agg #[.bool s,v])) w':=⟨s,v,l,rfl,h1,h2,h3,h4⟩
theorem pL(w:NY)(s:Bool)(v:N2)(l:List Nat)(n:Nat)(hs:aR w w.heap.size v l)(hc:aT l)(hl:l.length≤n):
  Of prog 300 #[.agg #[.bool s,v]] w (gY n w):=by
 obtain⟨A,ca,rfl,ha1,ha2,hac⟩:=id hs
 have HS:=NW (fun o1 o2=>(hs.new o1).new o2)
 clear hac hs
 by_cases h0:l.length=0
 ·obtain rfl:l=[]:=List.length_eq_zero_iff.1 h0
  go_enter func300,ntmps300
  go_wp2_with fail
  exact bodyPost_ret (v:= .agg #[.bool s,.slice A 0 ca]) (by simp[results,results300,go_sem]) rfl (gY.of (HS.out _ _) hc hl (dI _ _ _))
 ·go_enter func300,ntmps300
  go_wp2_with fail
  exact bodyPost_ret (v:= .agg #[.bool !s,.slice A l.length ca]) (by simp[results,results300,go_sem]) rfl (gY.of (HS.out _ _) hc hl (dI _ _ _))
def jK(p0 q1 q2:Nat)(m:Bool)(v1 v2:N2)(n:Nat):Nat→N2→NY→Prop
 |0,v,_=>v= .pointer (N3 ⟨p0,0,N0⟩)
 |1,v,_=>v= .bool m
 |2,v,_=>v= .pointer (N3 ⟨q1,1,N0⟩)
 |3,v,_=>v=v1
 |4,v,_=>v= .pointer (N3 ⟨q2,1,N0⟩)
 |5,v,_=>v=v2
 |6,v,w=>∃l,aR w w.heap.size v l∧aT l∧l.length≤n
 |7,v,w=>∃A c l,v= .agg #[.bool m,.slice A (List.length l) c]∧aR w w.heap.size (.slice A l.length c) l∧aT l∧l.length≤n
 |_,v,w=>∃b,v= .pointer (N3 ⟨b,0,N0⟩)∧q2+1<b∧af w b 302 [.bool N1,.slice N0 0 0]
theorem ow{p0 q1 q2:Nat}{m:Bool}{v1 v2:N2}{n:Nat}{i:Nat}{v:N2}{w w':NY}(h:jK p0 q1 q2 m v1 v2 n i v w)(hx:Ext w w'):jK p0 q1 q2 m v1 v2 n i v w':=by
 match i,h with
 |0,h|1,h|2,h|3,h|4,h|5,h=>exact h
 |6,h=>obtain⟨l,h1,h2⟩:=h;exact⟨l,h1.grow hx,h2⟩
 |7,h=>obtain⟨A,c,l,e,h1,h2⟩:=h;exact⟨A,c,l,e,h1.grow hx,h2⟩
 |_+8,h=>obtain⟨b,e,hb,h⟩:=h;exact⟨b,e,hb,h.ext hx⟩
theorem iN{w:NY}{b:Nat}{l:List Nat}{v v0:N2}{s:Bool}(h:aR w w.heap.size v l)(hr:af w b 302 [.bool s,v0])(hv:∀x,v0≠ .int .i64 x)(i:Nat)(x:N2):
  aR (w.setCell ⟨b,i,N0⟩ x) (w.setCell ⟨b,i,N0⟩ x).heap.size v l:=by
 obtain⟨A,cap,rfl,h1,h2,hc⟩:=h
 refine⟨A,cap,rfl,h1,h2,fun hn=> ?_⟩
 obtain⟨b',off,e,hb,hcell⟩:=hc hn
 refine⟨b',off,e,by simpa[World.setCell] using hb,fun j hj=> ?_⟩
 by_cases hbb:b'=b
 ·exfalso
  subst hbb
  have h5:=hcell j hj
  rw[hr.cell] at h5
  rcases(show off+j=0∨off+j=1∨2≤off+j by omega) with h6|h6|h6
  ·rw[h6] at h5;simp at h5
  ·rw[h6] at h5;simp at h5;exact hv _ h5
  ·rw[List.getElem?_eq_none (by simpa using h6)] at h5;cases h5
 ·rw[World.cell?_of_block (w:=w) (Below.heap_setCell _ _ _ _ hbb)]
  exact hcell j hj
theorem eO(A:Option Addr)(n c:Nat):∀x,N2.slice A n c≠ .int .i64 x:=fun _ h=>Ox
theorem zG (w : NY) (m : Bool) (a b : List Nat) (va vb : N2) (n : Nat) (ha : aR w w.heap.size va a) (hb : aR w w.heap.size vb b) (hca : aT a) (hcb : aT b) (hla : a.length ≤ n) (hlb : b.length ≤ n) (hn : n ≤ 400000) :
    Of prog 299 #[.agg #[.bool m, va], .agg #[.bool m, vb]] w (gY (n + 1) w) := by
  have HA := NW ha
  have HB := NW hb
  have E3 := NW (wK w (.cells #[.bool m, va] 302) (.cells #[.bool m, vb] 302) (.cells #[.bool N1, .slice N0 0 0] 302))
  have R1 := (af.new w 302 [.bool m, va]).ext (dI _ (.cells #[.bool m, vb] 302) (.cells #[.bool N1, .slice N0 0 0] 302))
  have R2 := (af.new (w.alloc (.cells #[.bool m, va] 302)) 302 [.bool m, vb]).ext ((Below.refl _ _).alloc (NZ _) (.cells #[.bool N1, .slice N0 0 0] 302))
  have R3 := af.new ((w.alloc (.cells #[.bool m, va] 302)).alloc (.cells #[.bool m, vb] 302)) 302 [.bool N1, .slice N0 0 0]
  rw [Oi] at R2
  rw [Oi, Oi] at R3
  obtain ⟨A, ca, rfl, _, _, _⟩ := id ha
  obtain ⟨A', cb, rfl, _, _, _⟩ := id hb
  obtain ⟨W0, hW0⟩ : ∃ W0, ((w.alloc (.cells #[.bool m, .slice A a.length ca] 302)).alloc (.cells #[.bool m, .slice A' b.length cb] 302)).alloc (.cells #[.bool N1, .slice N0 0 0] 302) = W0 := ⟨_, rfl⟩
  rw [hW0] at E3 R1 R2 R3
  have KC := NW (fun (W : NY) (h : Ext w W) => (yT W a b (.slice A a.length ca) (.slice A' b.length cb) (HA.out.grow h) (HB.out.grow h) hca.small hcb.small Ot Ot).mono (fun e w' ⟨v, l, h1, h2, h3, h4, h5, _⟩ => (⟨v, l, h1, h2, h3, Ok h4 Ot, h5⟩ : ∃ v l, e = Ending.returned v ∧ aR w' w'.heap.size v l ∧ aT l ∧ l.length ≤ n + 1 ∧ Ext W w')))
  have tm : (m == m) = Oc := Ow
  have HW0 := NW hW0
  clear hW0 ha hb hca hcb hla hlb
  go_enter func299, ntmps299
  go_wp2
  simp only [HW0.out]
  refine wp_region_any Ou (bA 8 (fun vs => ⟨#[.agg #[.bool m, .slice A a.length ca], .agg #[.bool m, .slice A' b.length cb], .pointer (N3 ⟨w.heap.size, 0, N0⟩), .pointer (N3 ⟨w.heap.size + 1, 0, N0⟩), .pointer (N3 ⟨w.heap.size + 1 + 1, 0, N0⟩), N7, .pointer (N3 ⟨w.heap.size, 0, N0⟩), .bool m, .pointer (N3 ⟨w.heap.size + 1, 0, N0⟩), .bool m, .bool Oc, vs 0, vs 1, vs 2, vs 3, vs 4, vs 5, vs 6, vs 7, N7, N7, N7, N7, N7, N7, N7, N7, N7, N7, N7, N7, N7, N7, N7, N7, N7, N7, N7, N7, N7, N7], []⟩)
    (fun w' => Ext W0 w') (jK (w.heap.size) (w.heap.size) (w.heap.size + 1) m (.slice A a.length ca) (.slice A' b.length cb) (n + 1)) (fun _ => N1) Ou (fun _ _ h k => h.tr k) (fun i v _ _ h k => ow h k) (fun _ _ _ _ h => Ox) ?step ?tail (fun _ => N7) _ (Ext.dr W0))
  case step =>
    intro i vs w' hi hD hd
    have hw0 : Ext W0 w' := hD
    have cA := fun i => (R1.ext hw0).cell i
    have cB := fun i => (R2.ext hw0).cell i
    rcases (show i = 0 ∨ i = 1 ∨ i = 2 ∨ i = 3 ∨ i = 4 ∨ i = 5 ∨ i = 6 ∨ i = 7 by omega) with rfl | rfl | rfl | rfl | rfl | rfl | rfl | rfl <;> clear hi
    all_goals refine Ob rfl (fun K hK => ?_)
    all_goals try (have d0 := hd 0 OO; simp only [jK] at d0)
    all_goals try (have d1 := hd 1 OO; simp only [jK] at d1)
    all_goals try (have d2 := hd 2 OO; simp only [jK] at d2)
    all_goals try (have d3 := hd 3 OO; simp only [jK] at d3)
    all_goals try (have d4 := hd 4 OO; simp only [jK] at d4)
    all_goals try (have d5 := hd 5 OO; simp only [jK] at d5)
    all_goals try (have x6 := hd 6 OO; obtain ⟨l6, h6, hc6, hl6⟩ := x6; obtain ⟨A6, c6, e6, _, _, _⟩ := id h6; have H6 := NW h6)
    all_goals clear hd
    all_goals go_simp
    all_goals first
      | exact hK _ _ ⟨_, Pt, Ext.an _, rfl, fun h => Ox⟩
      | (refine (KC.out _ (E3.out.tr hw0)).mono ?_
         rintro e W4 ⟨v, l4, rfl, hs, hc, hl, hX⟩
         exact hK _ _ ⟨v, Pt, hX, ⟨l4, hs, hc, hl⟩, fun h => Ox⟩)
      | exact hK _ _ ⟨.agg #[.bool m, .slice A6 l6.length c6], Pt, Ext.an _, ⟨A6, c6, l6, rfl, e6 ▸ H6.out, hc6, hl6⟩, fun h => Ox⟩
  case tail =>
    intro vs w' hD hv _
    have hw0 : Ext W0 w' := hD
    obtain ⟨A7, c7, l7, e7, hs, hc7, hl7⟩ := hv 7 Ov
    have HS := NW hs
    have r3 := R3.ext hw0
    have c0 := r3.cell 0
    have c1 := r3.cell 1
    have f0 := r3.frozen 0
    have f1 := r3.frozen 1
    have HR3 := NW r3
    clear hv hs r3
    simp only [List.drop_succ_cons, List.drop_zero]
    go_wp2
    have r4 := HR3.out.lU (.bool m) (.slice A7 l7.length c7)
    have q0 := r4.cell 0
    have q1 := r4.cell 1
    exact bodyPost_ret (v := .agg #[.bool m, .slice A7 l7.length c7]) (by simp [results, results299, go_sem, q0, q1]) rfl (gY.of (iN (iN HS.out HR3.out (eO _ _ _) _ _) (HR3.out.jq _) (eO _ _ _) _ _) hc7 hl7 (((E3.out.tr hw0).setCell (p := ⟨w.heap.size + 1 + 1, 0, N0⟩) OK _).setCell (p := ⟨w.heap.size + 1 + 1, 1, N0⟩) OK _))
def IQ(w W:NY)(n:Nat):Prop:=∃(mx my:Bool) (x y:List Nat) (Ax Ay:Option Addr) (cx cy:Nat),af W w.heap.size 302 [.bool mx,.slice Ax x.length cx]∧af W (w.heap.size+1) 302 [.bool my,.slice Ay y.length cy]∧
 af W (w.heap.size+1+1) 302 [.bool N1,.slice N0 0 0]∧Ext w W∧aR w w.heap.size (.slice Ax x.length cx) x∧aR w w.heap.size (.slice Ay y.length cy) y∧ij x∧ij y∧x.length≤n
theorem zl (w : NY) (m1 m2 : Bool) (a b : List Nat) (va vb : N2) (n : Nat) (ha : aR w w.heap.size va a) (hb : aR w w.heap.size vb b) (hca : aT a) (hcb : aT b) (hla : a.length ≤ n) (hlb : b.length ≤ n) (hn : n ≤ 400000) (hm : m1 ≠ m2) :
    Of prog 299 #[.agg #[.bool m1, va], .agg #[.bool m2, vb]] w (gY (n + 1) w) := by
  have HA := NW ha
  have HB := NW hb
  have E3 := NW (wK w (.cells #[.bool m1, va] 302) (.cells #[.bool m2, vb] 302) (.cells #[.bool N1, .slice N0 0 0] 302))
  have R1 := (af.new w 302 [.bool m1, va]).ext (dI _ (.cells #[.bool m2, vb] 302) (.cells #[.bool N1, .slice N0 0 0] 302))
  have R2 := (af.new (w.alloc (.cells #[.bool m1, va] 302)) 302 [.bool m2, vb]).ext ((Below.refl _ _).alloc (NZ _) (.cells #[.bool N1, .slice N0 0 0] 302))
  have R3 := af.new ((w.alloc (.cells #[.bool m1, va] 302)).alloc (.cells #[.bool m2, vb] 302)) 302 [.bool N1, .slice N0 0 0]
  rw [Oi] at R2
  rw [Oi, Oi] at R3
  obtain ⟨A, ca, rfl, _, _, _⟩ := id ha
  obtain ⟨A', cb, rfl, _, _, _⟩ := id hb
  obtain ⟨W0, hW0⟩ : ∃ W0, ((w.alloc (.cells #[.bool m1, .slice A a.length ca] 302)).alloc (.cells #[.bool m2, .slice A' b.length cb] 302)).alloc (.cells #[.bool N1, .slice N0 0 0] 302) = W0 := ⟨_, rfl⟩
  rw [hW0] at E3 R1 R2 R3
  have KS := NW (pP W0 a b _ _ (HA.out.grow E3.out) (HB.out.grow E3.out) hca hcb)
  have tm : (m1 == m2) = N1 := by rw [beq_eq_false_iff_ne]; exact hm
  have HW0 := NW hW0
  have HCA := NW hca
  have HCB := NW hcb
  have HR1 := NW R1
  have HR2 := NW R2
  have HR3 := NW R3
  clear hW0 ha hb hca hcb hm R1 R2 R3
  go_enter func299, ntmps299
  go_wp2_with (go_at_call 308; rw [HW0.out]; go_must (refine KS.out.mono ?_); rintro e X0 ⟨⟨c, rfl, _, _⟩, hX0⟩; have HX0 := NW hX0; have cA0 := (HR1.out.ext hX0).cell 0; have cA1 := (HR1.out.ext hX0).cell 1; have cB0 := (HR2.out.ext hX0).cell 0; have cB1 := (HR2.out.ext hX0).cell 1; have fA := fun i => (HR1.out.ext hX0).frozen i; have fB := fun i => (HR2.out.ext hX0).frozen i; clear hX0)
  case' _ =>
    have KEY : IQ w (((((X0.setCell ⟨w.heap.size, 0, N0⟩ (.bool m2)).setCell ⟨w.heap.size, 1, N0⟩ (.slice A' b.length cb)).setCell ⟨w.heap.size + 1, 0, N0⟩ (.bool m1)).setCell ⟨w.heap.size + 1, 1, N0⟩ (.slice A a.length ca))) n := by
      have x1 := HR1.out.ext HX0.out
      have x2 := HR2.out.ext HX0.out
      have x3 := HR3.out.ext HX0.out
      exact ⟨m2, m1, b, a, A', A, cb, ca, ((x1.lU _ _).cI Ow _).cI Ow _, ((x2.cI Ow _).cI Ow _).lU _ _, (((x3.cI OK _).cI OK _).cI Ow _).cI Ow _,
        ((((E3.out.tr HX0.out).setCell (p := ⟨w.heap.size, 0, N0⟩) Ow _).setCell (p := ⟨w.heap.size, 1, N0⟩) Ow _).setCell (p := ⟨w.heap.size + 1, 0, N0⟩) Ow _).setCell (p := ⟨w.heap.size + 1, 1, N0⟩) Ow _, HB.out, HA.out, HCB.out.small, HCA.out.small, hlb⟩
    generalize (((X0.setCell ⟨w.heap.size, 0, N0⟩ (.bool m2)).setCell ⟨w.heap.size, 1, N0⟩ (.slice A' b.length cb)).setCell ⟨w.heap.size + 1, 0, N0⟩ (.bool m1)).setCell ⟨w.heap.size + 1, 1, N0⟩ (.slice A a.length ca) = W1 at KEY ⊢
  rotate_left
  case' _ =>
    have KEY : IQ w X0 n := ⟨m1, m2, a, b, A, A', ca, cb, HR1.out.ext HX0.out, HR2.out.ext HX0.out, HR3.out.ext HX0.out, E3.out.tr HX0.out, HA.out, HB.out, HCA.out.small, HCB.out.small, hla⟩
    generalize X0 = W1 at KEY ⊢
  all_goals
    obtain ⟨mx, my, x, y, Ax, Ay, cx, cy, R1, R2, R3, hW1, hx, hy, hsx, hsy, hlx⟩ := KEY
    have HX := NW hx
    have HY := NW hy
    have E1 := NW hW1
    have KC := NW (fun (W : NY) (h : Ext w W) => (jS W x y (.slice Ax x.length cx) (.slice Ay y.length cy) (HX.out.grow h) (HY.out.grow h) hsx hsy Ot).mono (fun e w' ⟨v, l, h1, h2, h3, h4, h5, _⟩ => (⟨v, l, h1, h2, h3, by rw [h4]; exact Ok (aI _) (by rw [aY]; omega), h5⟩ : ∃ v l, e = Ending.returned v ∧ aR w' w'.heap.size v l ∧ aT l ∧ l.length ≤ n + 1 ∧ Ext W w')))
    clear hx hy hsx hsy hW1 hlx hla hlb KS HA HB HR1 HR2 HR3 HCA HCB HW0 E3
    first
      | refine wp_region_any Ou (bA 9 (fun vs => ⟨#[.agg #[.bool m1, .slice A a.length ca], .agg #[.bool m2, .slice A' b.length cb], .pointer (N3 ⟨w.heap.size, 0, N0⟩), .pointer (N3 ⟨w.heap.size + 1, 0, N0⟩), .pointer (N3 ⟨w.heap.size + 1 + 1, 0, N0⟩), vs 8, .pointer (N3 ⟨w.heap.size, 0, N0⟩), .bool m1, .pointer (N3 ⟨w.heap.size + 1, 0, N0⟩), .bool m2, .bool N1, N7, N7, N7, N7, N7, N7, N7, N7, .pointer (N3 ⟨w.heap.size, 1, N0⟩), .slice A a.length ca, .pointer (N3 ⟨w.heap.size + 1, 1, N0⟩), .slice A' b.length cb, .int .i64 c, .bool (decide (c < 0)), N7, N7, vs 0, vs 1, vs 2, vs 3, vs 4, vs 5, vs 6, vs 7, N7, N7, N7, N7, N7, N7], []⟩)
          (fun w' => Ext W1 w') (jK (w.heap.size) (w.heap.size) (w.heap.size + 1) mx (.slice Ax x.length cx) (.slice Ay y.length cy) (n + 1)) (fun i => i == 8) Ou (fun _ _ h k => h.tr k) (fun i v _ _ h k => ow h k) ?fr ?step ?tail (fun _ => N7) _ (Ext.dr W1))
      | refine wp_region_any Ou (bA 9 (fun vs => ⟨#[.agg #[.bool m1, .slice A a.length ca], .agg #[.bool m2, .slice A' b.length cb], .pointer (N3 ⟨w.heap.size, 0, N0⟩), .pointer (N3 ⟨w.heap.size + 1, 0, N0⟩), .pointer (N3 ⟨w.heap.size + 1 + 1, 0, N0⟩), vs 8, .pointer (N3 ⟨w.heap.size, 0, N0⟩), .bool m1, .pointer (N3 ⟨w.heap.size + 1, 0, N0⟩), .bool m2, .bool N1, N7, N7, N7, N7, N7, N7, N7, N7, .pointer (N3 ⟨w.heap.size, 1, N0⟩), .slice A a.length ca, .pointer (N3 ⟨w.heap.size + 1, 1, N0⟩), .slice A' b.length cb, .int .i64 c, .bool (decide (c < 0)), .agg #[.bool m2, .slice A' b.length cb], .agg #[.bool m1, .slice A a.length ca], vs 0, vs 1, vs 2, vs 3, vs 4, vs 5, vs 6, vs 7, N7, N7, N7, N7, N7, N7], []⟩)
          (fun w' => Ext W1 w') (jK (w.heap.size) (w.heap.size) (w.heap.size + 1) mx (.slice Ax x.length cx) (.slice Ay y.length cy) (n + 1)) (fun i => i == 8) Ou (fun _ _ h k => h.tr k) (fun i v _ _ h k => ow h k) ?fr ?step ?tail (fun _ => N7) _ (Ext.dr W1))
    case fr =>
      intro i v w' _ hf hv
      obtain rfl : i = 8 := by simpa using hf
      obtain ⟨b, e, _, h⟩ := hv
      exact ⟨b, e, h.lt⟩
    case step =>
      intro i vs w' hi hD hd
      have hw0 : Ext W1 w' := hD
      have cA := fun i => (R1.ext hw0).cell i
      have cB := fun i => (R2.ext hw0).cell i
      have h3 := (R3.ext hw0).lt
      rcases (show i = 0 ∨ i = 1 ∨ i = 2 ∨ i = 3 ∨ i = 4 ∨ i = 5 ∨ i = 6 ∨ i = 7 ∨ i = 8 by omega) with rfl | rfl | rfl | rfl | rfl | rfl | rfl | rfl | rfl <;> clear hi
      all_goals refine Ob rfl (fun K hK => ?_)
      all_goals try (have d0 := hd 0 OO; simp only [jK] at d0)
      all_goals try (have d1 := hd 1 OO; simp only [jK] at d1)
      all_goals try (have d2 := hd 2 OO; simp only [jK] at d2)
      all_goals try (have d3 := hd 3 OO; simp only [jK] at d3)
      all_goals try (have d4 := hd 4 OO; simp only [jK] at d4)
      all_goals try (have d5 := hd 5 OO; simp only [jK] at d5)
      all_goals try (have x6 := hd 6 OO; obtain ⟨l6, h6, hc6, hl6⟩ := x6; obtain ⟨A6, c6, e6, _, _, _⟩ := id h6; have H6 := NW h6)
      all_goals clear hd
      all_goals go_simp
      all_goals first
        | exact hK _ _ ⟨_, Pt, Ext.an _, rfl, fun h => Ox⟩
        | (refine (KC.out _ (E1.out.tr hw0)).mono ?_
           rintro e W4 ⟨v, l4, rfl, hs, hc, hl, hX⟩
           exact hK _ _ ⟨v, Pt, hX, ⟨l4, hs, hc, hl⟩, fun h => Ox⟩)
        | exact hK _ _ ⟨.agg #[.bool mx, .slice A6 l6.length c6], Pt, Ext.an _, ⟨A6, c6, l6, rfl, e6 ▸ H6.out, hc6, hl6⟩, fun h => Ox⟩
        | exact hK _ _ ⟨.pointer (N3 ⟨w'.heap.size, 0, N0⟩), Pt, (Below.refl _ _).alloc (NZ _) _, ⟨_, rfl, Ot, af.new _ _ _⟩, fun _ => ⟨_, rfl, NZ _⟩⟩
    case tail =>
      intro vs w' hD hv _
      have hw0 : Ext W1 w' := hD
      obtain ⟨A7, c7, l7, e7, hs, hc7, hl7⟩ := hv 7 Ov
      obtain ⟨b8, e8, hb8, r8⟩ := hv 8 Ov
      have HS := NW hs
      have r3 := R3.ext hw0
      have f8 := fun i => r8.frozen i
      have c80 := r8.cell 0
      have c81 := r8.cell 1
      have c30 := r3.cell 0
      have c31 := r3.cell 1
      have f3 := fun i => r3.frozen i
      have r9 := r8.lU (.bool mx) (.slice A7 l7.length c7)
      have r10 := r9.jq (.bool N1)
      have c90 := r9.cell 0
      have c91 := r9.cell 1
      have c100 := r10.cell 0
      have c101 := r10.cell 1
      have f9 := fun i => r9.frozen i
      have f10 := fun i => r10.frozen i
      have hne : ¬ w.heap.size + 1 + 1 = b8 := Ot
      have k3 := (r3.cI (p := ⟨b8, 0, N0⟩) OK (.bool mx)).cI (p := ⟨b8, 1, N0⟩) OK (.slice A7 l7.length c7)
      have k4 := k3.cI (p := ⟨b8, 0, N0⟩) OK (.bool N1)
      have g3 := fun i => k3.frozen i
      have k30 := k3.cell 0
      have k31 := k3.cell 1
      have k40 := k4.cell 0
      have k41 := k4.cell 1
      have g4 := fun i => k4.frozen i
      clear hv hs
      simp only [List.drop_succ_cons, List.drop_zero]
      have HW := NW hw0
      have HR8 := NW r8
      have HR9 := NW r9
      have HK3 := NW k3
      have HK4 := NW k4
      clear r8 r9 r10 k3 k4 r3 hw0
      by_cases hz : l7.length = 0
      · obtain rfl : l7 = [] := List.length_eq_zero_iff.1 hz
        go_wp2
        have s3 := iN (iN (iN HS.out HR8.out (eO _ _ _) 0 (.bool mx)) (HR8.out.jq _) (eO _ _ _) 1 (.slice A7 0 c7)) HR9.out (eO _ _ _) 0 (.bool N1)
        have j4 := HK4.out.lU (.bool N1) (.slice A7 0 c7)
        have q0 := j4.cell 0
        have q1 := j4.cell 1
        refine bodyPost_ret (v := .agg #[.bool N1, .slice A7 0 c7]) (by simp at q0 q1; simp [results, results299, go_sem, q0, q1]) rfl (gY.of (iN (iN s3 HK4.out (eO _ _ _) 0 (.bool N1)) (HK4.out.jq _) (eO _ _ _) 1 (.slice A7 0 c7)) hc7 hl7 ?_)
        exact (((((E1.out.tr HW.out).setCell (p := ⟨b8, 0, N0⟩) OK _).setCell (p := ⟨b8, 1, N0⟩) OK _).setCell (p := ⟨b8, 0, N0⟩) OK _).setCell (p := ⟨w.heap.size + 1 + 1, 0, N0⟩) OK _).setCell (p := ⟨w.heap.size + 1 + 1, 1, N0⟩) OK _
      · go_wp2
        have s2 := iN (iN HS.out HR8.out (eO _ _ _) 0 (.bool mx)) (HR8.out.jq _) (eO _ _ _) 1 (.slice A7 l7.length c7)
        have j3 := HK3.out.lU (.bool mx) (.slice A7 l7.length c7)
        have q0 := j3.cell 0
        have q1 := j3.cell 1
        refine bodyPost_ret (v := .agg #[.bool mx, .slice A7 l7.length c7]) (by simp [results, results299, go_sem, q0, q1]) rfl (gY.of (iN (iN s2 HK3.out (eO _ _ _) 0 (.bool mx)) (HK3.out.jq _) (eO _ _ _) 1 (.slice A7 l7.length c7)) hc7 hl7 ?_)
        exact ((((E1.out.tr HW.out).setCell (p := ⟨b8, 0, N0⟩) OK _).setCell (p := ⟨b8, 1, N0⟩) OK _).setCell (p := ⟨w.heap.size + 1 + 1, 0, N0⟩) OK _).setCell (p := ⟨w.heap.size + 1 + 1, 1, N0⟩) OK _
theorem Cm(w:NY)(m1 m2:Bool)(a b:List Nat)(va vb:N2)(n:Nat)(ha:aR w w.heap.size va a)(hb:aR w w.heap.size vb b)(hca:aT a)(hcb:aT b)(hla:a.length≤n)(hlb:b.length≤n)(hn:n≤400000):
  Of prog 299 #[.agg #[.bool m1,va],.agg #[.bool m2,vb]] w (gY (n+1) w):=by
 by_cases hm:m1=m2
 ·subst hm;exact zG w m1 a b va vb n ha hb hca hcb hla hlb hn
 ·exact zl w m1 m2 a b va vb n ha hb hca hcb hla hlb hn hm
end
end Go.Proofs.YtnpihidbkhehjaaGreatDoor
