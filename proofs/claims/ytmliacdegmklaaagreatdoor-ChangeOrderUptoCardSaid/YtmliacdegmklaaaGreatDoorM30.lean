/- ChangeOrder of kingpostlaw58: a further part of its proof (merged and shortened by program). -/
import Derived.BigQuiet
import Derived.Test.YtmliacdegmklaaaGreatDoorM20
set_option linter.unusedVariables false
set_option linter.unusedSimpArgs false
set_option linter.defProp false
set_option maxHeartbeats 8000000
set_option maxRecDepth 100000
open Go.RowKit Go.Shelf Go.Proofs.Tryz
open Array renaming getElem?_eq_some_iff→Vz
open Bool renaming false→Vp,true→Vv,and_eq_true_iff→Vw
open Go renaming World→Vl,Value→Vr,undef→Vs,wpOp_step→Vx,Calls→VC,maxLen→VJ,TypeId→VK,Addr→VM,Rows→VP
open Go.AllReady renaming cons→VH,nil→VO
open Go.Ending renaming returned→VV
open Go.IntKind renaming i64→VA
open Go.IntWalk renaming i64_in→VI
open Go.Lib renaming hid→Vk
open Go.RowKit renaming intOf→VG,Below→VL
open Go.Value renaming slice→VQ,string→VR,bool→VS,pointer→VT,int→VU,agg→VW,tuple→VX
open Go.World renaming alloc_heap_new→Vy,size_alloc→VF
open List renaming getD_eq_getElem?_getD→Vn,getElem?_eq_getElem→Vt,length_map→Vu,length_append→VD
open Nat renaming le_refl→Vm,le_trans→VB,mul_comm→VE
open Option renaming none→Vo,some→Vq
open Option.some renaming inj→VN
open Go.Proofs.YtmliacdegmklaaaGreatDoor
namespace Go.Proofs.YtmliacdegmklaaaGreatDoor
section
open Kp
def Ju:(prog.info? 68).map (λi=>(i.zero,i.size,i.bytes))=Vq (Vq (VW (aL dM (VQ Vo 0 0))),37,360):=VZ
def Cf:Ps 40 68 37:=by
 intro w A cap rows hr hw h1 hlen;obtain⟨i0,hi,hz0,hz1,hz2⟩:=info_parts Ju;have U:=underlying35;go_enter func40,ntmps40;exact jW
def I7:(prog.info? 4).map (λi=>(i.zero,i.size,i.bytes))=Vq (Vq (VS Vp),1,1):=VZ
def AW:Ps 41 4 1:=by
 intro w A cap rows hr hw h1 hlen;obtain⟨i0,hi,hz0,hz1,hz2⟩:=info_parts I7;have U:=underlying36;go_enter func41,ntmps41;exact jW
def wj(w:Vl)(B:Nat)(rows:List (List Vr))(l:List Ed):Prop:=
 rows.length=l.length/\∀i,i<l.length->∃ga gc,rows.getD i []=(aL (l.getD i dM) (VQ ga (l.getD i dM).gaps.length gc)).toList/\cj w B ga gc (l.getD i dM).gaps
def wj.below{w w':Vl}{B:Nat}{rows:List (List Vr)}{l:List Ed}(h:wj w B rows l)(hb:VL B w w'):wj w' B rows l:=
 ⟨h.1,λi hi=>by obtain⟨ga,gc,e,s⟩:=h.2 i hi;exact⟨ga,gc,e,s.below hb⟩⟩
def wj.more{w:Vl}{B B':Nat}{rows:List (List Vr)}{l:List Ed}(h:wj w B rows l)(hb:B<=B'):wj w B' rows l:=
 ⟨h.1,λi hi=>by obtain⟨ga,gc,e,s⟩:=h.2 i hi;exact⟨ga,gc,e,s.more hb⟩⟩
def wj.at{w:Vl}{B:Nat}{rows:List (List Vr)}{l:List Ed}(h:wj w B rows l){r:List Vr}(hr:r∈rows):∃e ga gc,r=(aL e (VQ ga e.gaps.length gc)).toList:=by
 obtain⟨i,hi,rfl⟩:=List.mem_iff_getElem.1 hr;obtain⟨ga,gc,e,_⟩:=h.2 i (by rw[<-h.1];exact hi);rw[Vn,Vt hi] at e;exact⟨_,ga,gc,e⟩
def wj.wide{w:Vl}{B:Nat}{rows:List (List Vr)}{l:List Ed}(h:wj w B rows l):dj 37 rows:=by
 intro r hr;obtain⟨e,ga,gc,rfl⟩:=h.at hr
 rfl
def wj.one{w:Vl}{B:Nat}{rows:List (List Vr)}{l:List Ed}(h:wj w B rows l):jH rows:=by
 intro r hr u hu;obtain⟨e,ga,gc,rfl⟩:=h.at hr;have:((aL e (VQ ga e.gaps.length gc)).all λx=>x.oneCell')=Vv:=VZ;exact Array.all_eq_true_iff_forall_mem.1 this u (by simpa using hu)
def C4{w:Vl}{B:Nat}{A:Option VM}{cap:Nat}{l:List Ed}(h:eU w B A cap l):∃rows,wj w B rows l/\bK 37 w B A cap rows:=by
 have hg:∀i,∃p:Option VM×Nat,i<l.length->cj w B p.1 p.2 (l.getD i dM).gaps/\∀b off,A=Vq ⟨b,off,Vo⟩->w.rangeAt b (off+37*i) (aL (l.getD i dM) (VQ p.1 (l.getD i dM).gaps.length p.2)).toList:=by
  intro i;by_cases hi:i<l.length
  ·obtain⟨b,off,e,_,hc⟩:=h.2.2 VY;obtain⟨ga,gc,h1,h2⟩:=hc i hi;refine⟨(ga,gc),λ_=>⟨h2,λb' off' e'=> ?_⟩⟩;rw[e] at e';injection e' with e'
   injection e' with e1 e2
   subst e1 e2;exact h1
  ·exact⟨(Vo,0),λh=>absurd h hi⟩
 obtain⟨f,hf⟩:=Classical.axiomOfChoice hg;have hat:∀i,i<l.length->((List.range l.length).map λi=>(aL (l.getD i dM) (VQ (f i).1 (l.getD i dM).gaps.length (f i).2)).toList).getD i []=(aL (l.getD i dM) (VQ (f i).1 (l.getD i dM).gaps.length (f i).2)).toList:=by
  intro i hi;simp[Vn,hi]
 refine⟨(List.range l.length).map λi=>(aL (l.getD i dM) (VQ (f i).1 (l.getD i dM).gaps.length (f i).2)).toList,⟨V5,λi hi=>⟨(f i).1,(f i).2,hat i hi,(hf i hi).1⟩⟩,by simpa using h.1,h.2.1,λh0=> ?_⟩;have h0':0<l.length:=by simpa using h0
 obtain⟨b,off,e,hB,_⟩:=h.2.2 h0';refine⟨b,off,e,hB,λi hi j hj=> ?_⟩;have hi':i<l.length:=Xl;rw[hat i hi'];have hl:j<(aL (l.getD i dM) (VQ (f i).1 (l.getD i dM).gaps.length (f i).2)).toList.length:=hj;rw[Vt hl];exact(hf i hi').2 b off e j _ (Vt hl)
def Mq{w:Vl}{B:Nat}{A:Option VM}{cap:Nat}{rows:List (List Vr)}{l:List Ed}(h:wj w B rows l)(hs:bK 37 w B A cap rows):eU w B A cap l:=by
 obtain⟨h1,h2,h3⟩:=hs;rw[h.1] at h1;refine⟨h1,h2,λhn=> ?_⟩;obtain⟨b,off,e,hb,hc⟩:=h3 (by rw[h.1];exact hn);refine⟨b,off,e,hb,λi hi=> ?_⟩;obtain⟨ga,gc,q1,q2⟩:=h.2 i hi;refine⟨ga,gc,λj v hv=> ?_,q2⟩;have hj:j<37:=(List.getElem?_eq_some_iff.1 hv).1;rw[hc i (by rw[h.1];exact hi) j hj,q1];exact hv
end
section
open Kp
attribute [local go_sem] bF aS fT iP iw
def mR{fn:Func}{p u:Tmp}(h:fn.results=#[.cell p 38,.tmp u])(tmps:Array Vr)(w:Vl)(g:Nat)(cs:Array Vr)
  (hp:tmps.getD p Vs=VT (Vq ⟨g,0,Vo⟩))(hg:w.heap[g]?=Vq (.cells cs 38 (0,0)))(hi:(prog.info? 38).map (·.size)=Vq cs.size):
  (results fn tmps).run prog w= .ok (VX #[VW cs,tmps.getD u Vs]) w:=by
 have hp':tmps[p]?.getD Vs=VT (Vq ⟨g,0,Vo⟩):=by simpa using hp
 have hl:=run_loadVar_row (P:=prog) w g 38 38 cs (0,0) _ hg underlying38 rfl hi;simp[results,h,hp',asAddr,hl,Result.andThen]
def Ef(w:Vl)(l:Log)(a:kT){m:Nat}(hb:gT w w.heap.size l a)(hr:jC l.edits l.undone l.start m)(hm:eO w)(ht:aU w):
  VC prog 76 #[VW (cW l a)] w λx w'=>x=VV (VS Vv)/\Ext w w':=by
 have E0:=Vk (show Ext w (w.alloc (.cells (cW l a) 38)) from(Below.refl _ _).alloc (Vm _) _);have L0:LC (w.alloc (.cells (cW l a) 38)) w.heap.size l a:=Vy w _;obtain⟨w0,hw0⟩:∃w0,w.alloc (.cells (cW l a) 38)=w0:=⟨_,rfl⟩;rw[hw0] at E0 L0;have HW0:=Vk hw0;have HL:=Vk (λW (h:Ext w0 W)=>LC.ext L0 h);have K:=mJ w0 l.start a.ja (hb.grow E0.o).j hr.sm (hm.below E0.o (Vm _)) (ht.below E0.o (Vm _));rw[hr.ok] at K;have KJ:=Vk K;have he:=hr.eq;have hf:=hr.Oy;have t1:((l.edits.length:Int)==(l.undone.length:Int))=Vv:=by rw[he];exact beq_self_eq_true _
 have t2:decide ((l.edits.length:Int)<=4096)=Vv:=decide_eq_true VY;have HT:=Vk (And.intro t1 t2);clear hb hr hm ht K hw0 L0 t1 t2 he hf;go_enter func76,ntmps76;go_wp2_with(first
  |(go_at_call 25;fail)
  |(rw[HW0.o];refine cz Wn _ rfl _ _ rfl _ _ (HL.o _ (Ext.aB _)).start ?_))
 refine KJ.o.mono ?_;rintro x1 W1 ⟨rfl,hX1⟩;have X1:=Vk hX1;have c15:=(HL.o _ hX1).cell 15;have c16:=(HL.o _ hX1).cell 16;have t1:=HT.o.1;have t2:=HT.o.2;clear hX1;go_wp2;go_ret;exact⟨rfl,E0.o.tr X1.o⟩
def tF(l:List Bool):(cU l).flatten=l.map (λb=>Vr.bool b):=by
 induction l with
 |nil=>rfl
 |cons x l ih=>show [Vr.bool x]++(cU l).flatten=_;rw[ih];rfl
def oK(l:List Bool):dj 1 (cU l):=bw (f:=λb=>[Vr.bool b]) (λ_=>rfl) l
def M5(l:List Bool):jH (cU l):=λr hr u hu=>by
 obtain⟨s,_,rfl⟩:=List.mem_map.1 hr;simp at hu;subst hu;rfl
def LC.frozen{w:Vl}{c:Nat}{l:Log}{a:kT}(h:LC w c l a)(i:Nat):w.frozen? ⟨c,i,Vo⟩=Vp:=by unfold LC at h;simp[World.frozen?,h]
def IN{w:Vl}{base g cap i:Nat}{t:VK}{l:List Bool}(h:w.ownsRow base t 1 (VQ (Vq ⟨g,0,Vo⟩) l.length cap) l.length (cU l).flatten)(hi:i<l.length)(b:Bool):
  (w.setCell ⟨g,i,Vo⟩ (VS b)).ownsRow base t 1 (VQ (Vq ⟨g,0,Vo⟩) l.length cap) (l.set i b).length (cU (l.set i b)).flatten:=by
 obtain⟨hl,⟨h0,_⟩|⟨g',cap',cur,e,hb,hh,h1,h2,h3,h4⟩⟩:=h
 ·cases h0
 ·injection e with e1 e2 e3
  injection e1 with e1
  injection e1 with e1
  subst e1 e3;rw[List.length_set];refine⟨by rw[tF];simp,.inr ⟨g,cap,cur.setIfInBounds i (VS b),rfl,hb,?_,h1,h2,by simpa using h3,?_⟩⟩
  ·exact XT
  ·rw[tF] at h4⊢;rw[Nat.mul_one] at h4⊢;rw[Array.toList_setIfInBounds,List.take_set,h4,List.map_set]
def Uy(B c:Nat)(l:Log)(a:kT)(n:Nat)(xs:List Vr):Nat->Vr->Vl->Prop
 |0,v,_=>v=VT (Vq ⟨c,15,Vo⟩)
 |1,v,_=>v=VQ a.ea l.edits.length a.ec
 |2,v,W=>W.ownsRow B 68 37 v n xs
 |3,v,_=>v=VT (Vq ⟨c,16,Vo⟩)
 |4,v,_=>v=VQ a.ua l.undone.length a.uc
 |5,v,W=>W.ownsRow B 4 1 v l.undone.length (cU l.undone).flatten
 |6,v,_=>v=VT (Vq ⟨c,15,Vo⟩)
 |_,_,_=>True
def Pt{B c:Nat}{l:Log}{a:kT}{n:Nat}{xs:List Vr}:∀i v w w',Uy B c l a n xs i v w->Ext w w'->Uy B c l a n xs i v w':=by
 intro i v w w' h hx
 match i with
 |0=>exact h
 |1=>exact h
 |2=>exact aF h hx
 |3=>exact h
 |4=>exact h
 |5=>exact aF h hx
 |6=>exact h
 |_+7=>trivial
def a1o{g n c q:Nat}(h:(Value.slice (Vq ⟨g,0,Vo⟩) n c).ownBlock=Vq q):g=q:=by simpa[Value.ownBlock] using h
def a1q(X:Nat->Prop)(w:Vl)(l:Log)(a:kT):Prop:=∀W,Jm X w.heap.size w W->gT W W.heap.size l a
def a1q.at_{X:Nat->Prop}{w:Vl}{l:Log}{a:kT}(h:a1q X w l a):gT w w.heap.size l a:=h w ⟨Vm _,λ_ _ _=>rfl⟩
def a1q.row{X:Nat->Prop}{w:Vl}{l:Log}{a:kT}(h:a1q X w l a){c:Nat}(hc:X c)(cs:Array Vr):a1q X (w.setRow c cs) l a:=by
 have hs:=size_setRow w c cs;exactλV hO=>h V ⟨by have:=hO.1;omega,λb hb hx=>(hO.2 b VY hx).trans (mn w cs (λe=>hx (e▸hc)))⟩
def kG(B:Nat)(w:Vl)(l:Log)(x:Ending)(w':Vl):Prop:=∃a',x=VV (VX #[VW (cW l a'),VU VA 0])/\Ext w w'/\a1q (λb=>B<=b/\b<w.heap.size+2) w' l a'
def mP(l:Log)(i:Nat)(u:Bool):Log:={l with undone:=l.undone.set i u}
def fH:Log:=⟨iM,[],[]⟩
def fo:kT:=⟨iO,Vo,0,Vo,0⟩
def oN{w W:Vl}{base n s:Nat}{e:VK}{v:Vr}{xs:List Vr}(h:w.ownsRow base e s v n xs)(hv:∀g,v.ownBlock=Vq g->W.heap[g]?=w.heap[g]?):W.ownsRow base e s v n xs:=by
 obtain⟨hl,h0|⟨g,cap,cur,rfl,hb,hh,h1⟩⟩:=h
 ·exact YO
 ·exact⟨hl,.inr ⟨g,cap,cur,rfl,hb,(hv g rfl).trans hh,h1⟩⟩
def wj.off{w W:Vl}{B:Nat}{rows:List (List Vr)}{l:List Ed}(h:wj w B rows l)(hs:w.heap.size<=W.heap.size)(hB:∀b,b<B->W.heap[b]?=w.heap[b]?):wj W B rows l:=
 ⟨h.1,λi hi=>by obtain⟨ga,gc,e,s⟩:=h.2 i hi;exact⟨ga,gc,e,s.off hs hB⟩⟩
def oT(W:Vl)(c:Nat)(v2 v5:Vr):Vl:=(W.setCell ⟨c,15,Vo⟩ v2).setCell ⟨c,16,Vo⟩ v5
def jb{W:Vl}{base c n s:Nat}{e:VK}{v:Vr}{xs:List Vr}(h:W.ownsRow base e s v n xs)(hc:c<base)(v2 v5:Vr):(oT W c v2 v5).ownsRow base e s v n xs:=by
 have q:∀m,v.ownBlock≠Vq (⟨c,m,Vo⟩:VM).block:=λm e=>by
  have:base<=c:=(ak h c e).1;omega
 exact bf (bf h (q 15) _) (q 16) _
def eA{W:Vl}{c g:Nat}(v2 v5:Vr)(h:g≠c):(oT W c v2 v5).heap[g]?=W.heap[g]?:=(Below.heap_setCell _ _ _ _ h).trans (Below.heap_setCell _ _ _ _ h)
def jf{w W:Vl}{c:Nat}(h:Ext w W)(hc:w.heap.size<=c)(v2 v5:Vr):Ext w (oT W c v2 v5):=(h.setCell (p:=⟨c,15,Vo⟩) hc _).setCell (p:=⟨c,16,Vo⟩) hc _
def LC.UH{W:Vl}{c:Nat}{l l':Log}{a a':kT}(h:LC W c l a){v2 v5:Vr}(hl:((cW l a).setIfInBounds 15 v2).setIfInBounds 16 v5=cW l' a'):LC (oT W c v2 v5) c l' a':=by
 unfold LC at *;rw[<-hl];simp[oT,World.setCell,Array.getElem?_modify,h]
def jc(W:Vl)(c g i:Nat)(v2 v5:Vr)(u:Bool):Vl:=(oT W c v2 v5).setCell ⟨g,i,Vo⟩ (VS u)
def PQ{w W0 W:Vl}{B:Nat}{l:Log}{a:kT}{i n:Nat}{u:Bool}{rows:List (List Vr)}{v2 v5:Vr}(hb:gT w B l a)(hB:B<=w.heap.size)(he:wj w B rows l.edits)(h0:Ext w W0)(hs:W0.heap.size=w.heap.size+2)
  (hL:LC W0 w.heap.size l a)(hR:LC W0 (w.heap.size+1) fH fo)(hx:Ext W0 W)(o2:W.ownsRow W0.heap.size 68 37 v2 n rows.flatten)(hn:rows.length=n)(o5:W.ownsRow W0.heap.size 4 1 v5 l.undone.length (cU l.undone).flatten)(hi:i<l.undone.length):
  ∃(A2:Option VM) (c2 g c5:Nat) (a':kT),v2=VQ A2 n c2/\v5=VQ (Vq ⟨g,0,Vo⟩) l.undone.length c5/\l.undone.length<=c5/\c5<=VJ/\w.heap.size+2<=g/\
   (oT W w.heap.size v2 v5).cell? ⟨g,i,Vo⟩=Vq (VS (l.undone.getD i Vp))/\(oT W w.heap.size v2 v5).frozen? ⟨g,i,Vo⟩=Vp/\cW (mP l i u) a'=cW l a'/\LC (jc W w.heap.size g i v2 v5 u) w.heap.size l a'/\LC (jc W w.heap.size g i v2 v5 u) (w.heap.size+1) fH fo/\
   Ext w ((jc W w.heap.size g i v2 v5 u).setRow (w.heap.size+1) (cW l a'))/\a1q (λb=>B<=b/\b<w.heap.size+2) ((jc W w.heap.size g i v2 v5 u).setRow (w.heap.size+1) (cW l a')) (mP l i u) a':=by
 obtain⟨A2,c2,rfl,s2⟩:=aG o2 hn he.wide;obtain⟨g,c5,cur,rfl,hg,hh,k1,k2,k3,k4⟩:=ml o5 VY;obtain⟨A5,c5',e5,s5⟩:=aG o5 (Vu _) (oK _);injection e5 with e51 _ e53
 subst e51 e53;have b2:=ak o2;obtain⟨a',ha⟩:∃x,({a with ea:=A2,ec:=c2,ua:=Vq ⟨g,0,Vo⟩,uc:=c5}:kT)=x:=⟨_,rfl⟩;have hl:((cW l a).setIfInBounds 15 (VQ A2 n c2)).setIfInBounds 16 (VQ (Vq ⟨g,0,Vo⟩) l.undone.length c5)=cW l a':=by rw[<-ha,<-hn,he.1];rfl
 have hlu:cW (mP l i u) a'=cW l a':=by
  show cW {l with undone:=l.undone.set i u} _=_;unfold cW;rw[List.length_set]
 have p2:=jb o2 (c:=w.heap.size) VY (VQ A2 n c2) (VQ (Vq ⟨g,0,Vo⟩) l.undone.length c5);have p5:=jb o5 (c:=w.heap.size) VY (VQ A2 n c2) (VQ (Vq ⟨g,0,Vo⟩) l.undone.length c5);have hg2:=eA (W:=W) (c:=w.heap.size) (g:=g) (VQ A2 n c2) (VQ (Vq ⟨g,0,Vo⟩) l.undone.length c5) VY;have hr1:=eA (W:=W) (c:=w.heap.size) (g:=w.heap.size+1) (VQ A2 n c2) (VQ (Vq ⟨g,0,Vo⟩) l.undone.length c5) VY;have hc:=LC.UH (LC.ext hL hx) hl;have hE:=jf (h0.tr hx) (Vm _) (VQ A2 n c2) (VQ (Vq ⟨g,0,Vo⟩) l.undone.length c5);unfold jc;generalize oT W w.heap.size (VQ A2 n c2) (VQ (Vq ⟨g,0,Vo⟩) l.undone.length c5)=W2 at p2 p5 hg2 hr1 hc hE⊢;rw[hh] at hg2;have p2':=bf p2 (p:=⟨g,i,Vo⟩) (lZ p2 hg2 V0) (VS u);have p5':=IN p5 hi u;have hE':=hE.setCell (p:=⟨g,i,Vo⟩) (by show w.heap.size<=g;omega) (VS u);refine⟨A2,c2,g,c5,a',rfl,rfl,k1,k2,VY,?_,by simp[World.frozen?,hg2],hlu,?_,?_,af hE' VY _,?_⟩
 ·obtain⟨b,off,e,_,hc⟩:=s5.2.2 (by rw[Vu];omega);injection e with e
  injection e with e1 e2
  subst e1 e2;have h2:=hc i Xi 0 V0;rw[Nat.zero_add,Nat.one_mul,Nat.add_zero,Vn,List.getElem?_map,Vt hi] at h2;rw[Vn,Vt hi];refine Eq.trans ?_ h2;simp[World.cell?,hg2,hh]
 ·unfold LC at *;rw[Below.heap_setCell _ _ _ _ (by show w.heap.size≠g;omega)];exact hc
 ·have hRW:=LC.ext hR hx;unfold LC at *;rw[Below.heap_setCell _ _ _ _ (by show w.heap.size+1≠g;omega),hr1];exact hRW
 ·have hxx:=af hE' (n:=w.heap.size+1) VY (cW l a');have nr:∀(q:Nat),W0.heap.size<=q->((W2.setCell ⟨g,i,Vo⟩ (VS u)).setRow (w.heap.size+1) (cW l a')).heap[q]?=(W2.setCell ⟨g,i,Vo⟩ (VS u)).heap[q]?:=λq h=>mn _ _ VY
  have r2:=oN p2' (λq hq=>nr q (b2 _ hq).1);have r5:=oN p5' (λq hq=>nr q (by have:=a1o hq;omega));generalize(W2.setCell ⟨g,i,Vo⟩ (VS u)).setRow (w.heap.size+1) (cW l a')=FW at r2 r5 hxx⊢;intro V hO;have hV:∀b,b<B->V.heap[b]?=w.heap[b]?:=λb h=>(hO.2 b (by have:=hxx.size;omega) (λq=>VY)).trans (hxx.block b VY)
  have hS:w.heap.size<=V.heap.size:=VB hxx.size hO.1;have v2:=oN (W:=V) r2 (λq hq=>hO.2 q (ak r2 q hq).2 (λx=>by have:=(b2 q hq).1;omega));have v5:=oN (W:=V) r5 (λq hq=>hO.2 q (ak r5 q hq).2 (λx=>by have:=a1o hq;omega));obtain⟨A3,c3,e3,s3⟩:=aG v2 hn he.wide;obtain⟨A6,c6,e6,s6⟩:=aG v5 (by rw[Vu]) (oK _);injection e3 with e31 _ e33
  injection e6 with e61 _ e63
  subst e31 e33 e61 e63 ha;exact⟨(hb.j.off hS hV).more VY,Mq ((he.off hS hV).more VY) s3,s6⟩
def yJ(w:Vl)(l:Log)(a:kT):∃W0,(w.alloc (.cells (cW l a) 38)).alloc (.cells #[VR {data:=#[]},VQ Vo 0 0,VU VA 0,VU VA 0,VQ Vo 0 0,VQ Vo 0 0,VQ Vo 0 0,VQ Vo 0 0,VU VA 0,VU VA 0,VU VA 0,VU VA 0,VU VA 0,VQ Vo 0 0,VQ Vo 0 0,VQ Vo 0 0,VQ Vo 0 0] 38)=W0/\Ext w W0/\W0.heap.size=w.heap.size+2/\LC W0 w.heap.size l a/\LC W0 (w.heap.size+1) fH fo:=by
 refine⟨_,rfl,((Below.refl _ _).alloc (Vm _) _).alloc V5 _,V5,LC.ext (Vy w _) ((Below.refl _ _).alloc (Vm _) _),?_⟩;have:=Vy (w.alloc (.cells (cW l a) 38)) (.cells (cW fH fo) 38);rw[VF] at this;exact this
def IC(w:Vl)(l:Log)(a:kT)(i:Nat)(u:Bool){m B:Nat}(hbB:gT w B l a)(hBw:B<=w.heap.size)(hr:jC l.edits l.undone l.start m)(hi:i<l.edits.length)(hu:l.undone.getD i Vp= !u)(hm:eO w)(ht:aU w):
  VC prog 36 #[VW (cW l a),VU VA (i:Int),VS u] w (kG B w (mP l i u)):=by
 have hb:=hbB.more hBw;obtain⟨W0,hW0,e0,hs0,hL,hR⟩:=yJ w l a;have HW:=Vk hW0;have E0:=Vk e0;have HS:=Vk hs0;have HL:=Vk (λW (h:Ext W0 W)=>LC.ext hL h);have HL0:=Vk hL;have HR:=Vk hR;have KR:=Vk (Ef W0 l a (hb.grow e0) hr (hm.below e0 (Vm _)) (ht.below e0 (Vm _)));obtain⟨rows,he,hsl⟩:=C4 hbB.e;have hn:=he.1;have hui:i<l.undone.length:=by rw[hr.eq];exact hi
 have KE:=Vk (λW (h:Ext W0 W)=>Cf W a.ea a.ec rows ((hsl.below ((e0.tr h).mono hBw)).more (VB hBw (e0.tr h).size)) he.wide he.one (by have:=hr.Oy;omega));have KB:=Vk (λW (h:Ext W0 W)=>AW W a.ua a.uc (cU l.undone) ((hb.u.below (e0.tr h)).more (e0.tr h).size) (oK _) (M5 _) (by have:=hr.Oy;have:=hr.eq;rw[Vu];omega));rw[hn] at KE;rw[Vu] at KB;have HE:=Vk (λW v2 v5 (hx:Ext W0 W) o2 o5=>PQ (u:=u) (i:=i) (n:=l.edits.length) (W:=W) (v2:=v2) (v5:=v5) hbB hBw he e0 hs0 hL hR hx o2 hn o5 hui);have t0:decide ((i:Int)<0)=Vp:=decide_eq_false VY;have t1:decide (l.edits.length<=i)=Vp:=decide_eq_false VY;have t2:(!u==u)=Vp:=by cases u<;>rfl
 obtain⟨bu,offu,hAu,hBu,hcu⟩:=hb.u.2.2 (by rw[Vu];omega);have cu:w.cell? ⟨bu,offu+i,Vo⟩=Vq (VS (!u)):=by
  exact a1e
 have CU:=Vk (λW (h:Ext W0 W)=>((e0.tr h).cell (p:=⟨bu,offu+i,Vo⟩) hBu).trans cu);have HA:=Vk hAu;have HT:=Vk (And.intro t0 (And.intro t1 t2));clear hW0 e0 hL hR hb hbB hBw hr hm ht he hsl hcu cu hAu hBu hu t0 t1 t2 hn hs0;go_enter func36,ntmps36;go_upto_region 1 with(fail)
 rw[HW.o];go_wp2_with(first
  |(go_at_call 76;fail)
  |(refine wpList_load_row rfl 38 _ rfl _ rfl 38 _ (0,0) _ HL0.o underlying38 rfl VZ ?_))
 refine KR.o.mono ?_;rintro x1 W1 ⟨rfl,hX1⟩;have X1:=Vk hX1;have c15:=(HL.o _ hX1).cell 15;have c16:=(HL.o _ hX1).cell 16;have cu:=CU.o _ hX1;rw[iw,HA.o] at c16;have t0:=HT.o.1;have t1:=HT.o.2.1;have t2:=HT.o.2.2;clear hX1;go_wp2_with fail
 refine wp_region_any VZ (bM 7 (λvs=>⟨#[VW (cW l a),VU VA (i:Int),VS u,VT (Vq ⟨w.heap.size,0,Vo⟩),Vs,Vs,VT (Vq ⟨w.heap.size+1,0,Vo⟩),VU VA 0,VS Vp,VW (cW l a),VS Vv,VS Vp,Vs,VS Vp,VU VA (i:Int),VS Vp,VS Vp,VU VA (i:Int),VT (Vq ⟨w.heap.size,15,Vo⟩),VQ a.ea l.edits.length a.ec,VU VA (l.edits.length:Int),VS Vp,VS Vp,Vs,VS Vp,VT (Vq ⟨w.heap.size,16,Vo⟩),VQ (Vq ⟨bu,offu,Vo⟩) l.undone.length a.uc,VU VA (i:Int),VT (Vq ⟨bu,offu+i,Vo⟩),VS (!u),VS u,VS Vp,Vs,vs 0,vs 1,vs 2,vs 3,vs 4,vs 5,vs 6,Vs,Vs,Vs,Vs,Vs,Vs,Vs],[]⟩)
   (λw'=>Ext W0 w') (Uy W0.heap.size w.heap.size l a l.edits.length rows.flatten) (λ_=>Vp) VZ (λ_ _ h k=>h.tr k) Pt (λ_ _ _ _ h=>V6) ?step ?tail (λ_=>Vs) _ (X1.o.tr (Ext.dr _)))
 case step=>
  intro j vs w' hj hD hd;have l15:=(HL.o _ hD).cell 15;have l16:=(HL.o _ hD).cell 16;have HD:=Vk hD;clear hD;rcases(show j=0\/j=1\/j=2\/j=3\/j=4\/j=5\/j=6 by omega) with rfl|rfl|rfl|rfl|rfl|rfl|rfl<;>clear hj
  ·exact Y1
  ·refine Vx rfl (λK hK=> ?_);have d0:=hd 0 VZ;simp only[Uy] at d0;go_simp;exact hK _ _ ⟨_,by simp[d0],Ext.aB _,rfl,λh=>V6⟩
  ·refine Vx rfl (λK hK=> ?_);have d1:=hd 1 VZ;simp only[Uy] at d1;go_simp;refine(KE.o _ HD.o).mono ?_;rintro x W2 ⟨v,rfl,ho,hX⟩;exact hK _ _ ⟨v,by simp[d1],hX,dz ho HD.o.size,λh=>V6⟩
  ·exact Y1
  ·refine Vx rfl (λK hK=> ?_);have d3:=hd 3 VZ;simp only[Uy] at d3;go_simp;exact hK _ _ ⟨_,by simp[d3],Ext.aB _,rfl,λh=>V6⟩
  ·refine Vx rfl (λK hK=> ?_);have d4:=hd 4 VZ;simp only[Uy] at d4;go_simp;refine(KB.o _ HD.o).mono ?_;rintro x W2 ⟨v,rfl,ho,hX⟩;exact hK _ _ ⟨v,by simp[d4],hX,dz ho HD.o.size,λh=>V6⟩
  ·exact Y1
 case tail=>
  intro vs w' hD hV _;obtain⟨A2,c2,g,c5,a',e2,e5,k1,k2,k3,q1,q2,hl,hLC,hRC,hE,hX⟩:=HE.o w' _ _ hD (hV 2 VY) (hV 5 VY);rw[e2,e5] at q1 q2 hLC hRC hE hX;unfold jc oT at hLC hRC hE hX;unfold oT at q1 q2;have hV6:=hV 6 VY;have m15:=(HL.o _ hD).cell 15;have m16:=(HL.o _ hD).cell 16;have f15:=LC.frozen (HL.o _ hD) 15;have f16:=LC.frozen (HL.o _ hD) 16;have HF:=Vk (And.intro hE hX);have HLC:=Vk hLC;have HRC:=Vk hRC;have HLL:=Vk hl;clear hV hD hl hLC hRC hE hX;have e6:=hV6;simp only[Uy] at e6;simp only[e2,e5,e6,List.drop_succ_cons,List.drop_zero];clear e2 e5 e6 hV6;go_wp2_with(first
   |(refine wpList_load_row rfl 38 _ rfl _ rfl 38 _ (0,0) _ HLC.o underlying38 rfl VZ ?_)
   |(refine wpList_store_row rfl 38 _ _ rfl _ _ rfl rfl 38 _ HRC.o VZ VZ VZ ?_))
  refine bodyPost_ret (mR rfl _ _ _ _ rfl (setRow_heap HRC.o _) VZ) rfl ?_;exact⟨a',by rw[HLL.o];rfl,HF.o.1,HF.o.2⟩
end
section
open Kp
attribute [local go_sem] bF aS fT iP iw
def kG.step{B:Nat}{w W0:Vl}{l:Log}{x:Ending}{W:Vl}(h0:Ext w W0)(hs:W0.heap.size=w.heap.size+2)(hB:B<=w.heap.size)(hR:LC W0 (w.heap.size+1) fH fo)(h:kG B W0 l x W):
  ∃a',x=VV (VX #[VW (cW l a'),VU VA 0])/\LC W (w.heap.size+1) fH fo/\∃W',W'=W.setRow (w.heap.size+1) (cW l a')/\LC W' (w.heap.size+1) l a'/\kG B w l (VV (VX #[VW (cW l a'),VU VA 0])) W':=by
 obtain⟨a',rfl,hx,hv⟩:=h;have r1:=LC.ext hR hx;refine⟨a',rfl,r1,_,rfl,setRow_heap r1 _,a',rfl,af (h0.tr hx) VY _,?_⟩;have hv':=a1q.row hv (c:=w.heap.size+1) (by constructor <;>omega) (cW l a');exactλV hO=>hv' V ⟨hO.1,λb hb hn=>hO.2 b hb (λq=>hn ⟨q.1,VY⟩)⟩
def Gu{p:Prop}(h:p:=by
  subst hq;obtain⟨W0,hW0,e0,hs0,hL,hR⟩:=yJ w l a;have HW:=Vk hW0;have HL0:=Vk hL;have HS:=Vk (λ(l':Log) (x:Ending) (W:Vl) (h:kG B W0 l' x W)=>kG.step e0 hs0 hB hR h);have KS:=Vk (IC W0 l a i _ (hb.below (e0.mono hB)) (VB hB e0.size) hr hi hu (hm.below e0 (Vm _)) (ht.below e0 (Vm _)));clear hW0 e0 hs0 hL hR hb hB hr hm ht hu;go_upto_region 1 with(fail)
  rw[HW.o];go_wp2_with(first
   |(go_at_call 36;fail)
   |(refine wpList_load_row rfl 38 _ rfl _ rfl 38 _ (0,0) _ HL0.o underlying38 rfl VZ ?_))
  refine KS.o.mono ?_;intro x1 W1 hp;obtain⟨a',rfl,r1,W2,hW2,n2,hP⟩:=HS.o _ _ _ hp;have R1:=Vk r1;have N2:=Vk n2;have HP:=Vk hP;have HW2:=Vk hW2;clear hp r1 n2 hP hW2;go_wp2_with(refine wpList_store_row rfl 38 _ _ rfl _ _ rfl rfl 38 _ R1.o VZ VZ VZ ?_;rw[<-HW2.o])
  refine bodyPost_ret (mR rfl _ _ _ _ rfl N2.o VZ) rfl ?_;exact HP.o):p:=h
def NP(w:Vl)(l:Log)(a:kT)(i:Nat){u:Bool}(hq:u=Vv){m B:Nat}(hb:gT w B l a)(hB:B<=w.heap.size)(hr:jC l.edits l.undone l.start m)(hi:i<l.edits.length)(hu:l.undone.getD i Vp= !u)(hm:eO w)(ht:aU w):
  VC prog 14 #[VW (cW l a),VU VA (i:Int)] w (kG B w (mP l i u)):=by
 go_enter func14,ntmps14;exact Gu
def LR(w:Vl)(l:Log)(a:kT)(i:Nat){u:Bool}(hq:u=Vp){m B:Nat}(hb:gT w B l a)(hB:B<=w.heap.size)(hr:jC l.edits l.undone l.start m)(hi:i<l.edits.length)(hu:l.undone.getD i Vp= !u)(hm:eO w)(ht:aU w):
  VC prog 13 #[VW (cW l a),VU VA (i:Int)] w (kG B w (mP l i u)):=by
 go_enter func13,ntmps13;exact Gu
def wA(w:Vl)(l:Log)(a:kT)(i:Nat){u:Bool}{m B:Nat}(hb:gT w B l a)(hB:B<=w.heap.size)(hr:jC l.edits l.undone l.start m)(hi:i<l.edits.length)(hu:l.undone.getD i Vp= !u)(hm:eO w)(ht:aU w):
  VC prog 12 #[VW (cW l a),VU VA (i:Int)] w (kG B w (mP l i u)):=by
 obtain⟨W0,hW0,e0,hs0,hL,hR⟩:=yJ w l a;have HW:=Vk hW0;have HL0:=Vk hL;have HS:=Vk (λ(l':Log) (x:Ending) (W:Vl) (h:kG B W0 l' x W)=>kG.step e0 hs0 hB hR h);have hui:i<l.undone.length:=by rw[hr.eq];exact hi
 have t1:decide ((i:Int)<(l.undone.length:Int))=Vv:=decide_eq_true VY;have e3:(i:Int)<(l.undone.length:Int):=VY;obtain⟨bu,offu,hAu,hBu,hcu⟩:=hb.u.2.2 (by rw[Vu];omega);have cu:W0.cell? ⟨bu,offu+i,Vo⟩=Vq (VS (!u)):=by
  rw[e0.cell (p:=⟨bu,offu+i,Vo⟩) (Nat.lt_of_lt_of_le hBu hB)];exact a1e
 have c16:=hL.cell 16;rw[iw,hAu] at c16;cases u;all_goals
  have KS:=Vk (by first
   |exact NP W0 l a i (u:=Vv) rfl (hb.below (e0.mono hB)) (VB hB e0.size) hr hi hu (hm.below e0 (Vm _)) (ht.below e0 (Vm _))
   |exact LR W0 l a i (u:=Vp) rfl (hb.below (e0.mono hB)) (VB hB e0.size) hr hi hu (hm.below e0 (Vm _)) (ht.below e0 (Vm _)))
  clear hW0 e0 hs0 hL hR hb hB hr hm ht hu hcu hAu hBu;go_enter func12,ntmps12;go_upto_region 1 with(fail)
  rw[HW.o];go_wp2_with(first
   |(go_at_call 14;fail)
   |(go_at_call 13;fail)
   |(refine wpList_load_row rfl 38 _ rfl _ rfl 38 _ (0,0) _ HL0.o underlying38 rfl VZ ?_))
  refine KS.o.mono ?_;intro x1 W1 hp;obtain⟨a',rfl,r1,W2,hW2,n2,hP⟩:=HS.o _ _ _ hp;have R1:=Vk r1;have N2:=Vk n2;have HP:=Vk hP;have HW2:=Vk hW2;clear hp r1 n2 hP hW2;go_wp2_with(refine wpList_store_row rfl 38 _ _ rfl _ _ rfl rfl 38 _ R1.o VZ VZ VZ ?_;rw[<-HW2.o])
  refine bodyPost_ret (mR rfl _ _ _ _ rfl N2.o VZ) rfl ?_;exact HP.o
end
section
open Kp
def nE{p:Prop}(h:p:=by
  obtain⟨h1,h2,h3⟩:=hr;obtain⟨h1',h2',h3'⟩:=hr';unfold VJ at h2 h2';have H3:=Vk h3;have H4:=Vk h3';have HW:=Vk hw;have HS:=Vk hs;clear h3 h3' hw hs;go_wp2;go_loopw [5] (λi wr=>OC w rows.length i wr) (λi _=>((rows.length:Int)-VG i).toNat)
  case atStart=>exact⟨0,VY,rfl,Ext.aB _⟩
  case round=>exact Bv):p:=h
def J9:Ov 80 59 3:=by
 intro w A A' cap cap' rows hr hr' hw hs;go_enter func80,ntmps80;exact nE
def Ij:Ov 82 64 3:=by
 intro w A A' cap cap' rows hr hr' hw hs;go_enter func82,ntmps82;exact nE
def Ie:Ov 83 66 5:=by
 intro w A A' cap cap' rows hr hr' hw hs;go_enter func83,ntmps83;exact nE
def EL:Ov 79 57 5:=by
 intro w A A' cap cap' rows hr hr' hw hs;go_enter func79,ntmps79;exact nE
def Ii(x0:Int)(x1:Int)(W:Vl):(binOp .neq 84 (VW #[VU VA x0,VU VA x1]) (VW #[VU VA x0,VU VA x1])).run prog W= .ok (VS Vp) W:=by
 have U:=underlying84;exact oz
def Bo:Ov 148 84 2:=by
 intro w A A' cap cap' rows hr hr' hw hs;go_enter func148,ntmps148;exact nE
def Bz(w:Vl)(A A':Option VM)(cap cap':Nat)(l:List Int)(hr:bK 1 w w.heap.size A cap (aX l))(hr':bK 1 w w.heap.size A' cap' (aX l)):
  VC prog 78 #[VQ A l.length cap,VQ A' l.length cap'] w λe w'=>e=VV (VS Vv)/\Ext w w':=by
 obtain⟨h1,h2,h3⟩:=hr;obtain⟨h1',h2',h3'⟩:=hr';rw[Vu] at h1 h3 h1' h3';unfold VJ at h2 h2';have H3:=Vk h3;have H4:=Vk h3';clear h3 h3';go_enter func78,ntmps78;go_wp2;go_loopw [5] (λi wr=>OC w l.length i wr) (λi _=>((l.length:Int)-VG i).toNat)
 case atStart=>exact⟨0,VY,rfl,Ext.aB _⟩
 case round=>
  obtain⟨m,hm,rfl,hX⟩:=hrel;have HX:=Vk hX;clear hX;by_cases hlt:m<l.length
  ·obtain⟨b,off,rfl,hB,hc⟩:=H3.o VY;obtain⟨b',off',rfl,hB',hc'⟩:=H4.o VY;have c0:=dY HX.o hB (hc m hlt 0 V0);have d0:=dY HX.o hB' (hc' m hlt 0 V0);rw[eX hlt,Nat.one_mul,Nat.add_zero] at c0 d0;obtain⟨x,hx⟩:∃x,l.getD m 0=x:=⟨_,rfl⟩;rw[hx] at c0 d0;have e0:wr.cell? ⟨b,off+m,Vo⟩=Vq (VU VA x):=c0;have f0:wr.cell? ⟨b',off'+m,Vo⟩=Vq (VU VA x):=d0;have tt:(x==x)=Vv:=beq_self_eq_true x;clear hc hc' c0 d0 hx;have tlt:decide ((m:Int)<(l.length:Int))=Vv:=decide_eq_true VY;have e3:(m:Int)<(l.length:Int):=VY;exact ZV
  ·exact ZX
def Jf(w:Vl)(A A':Option VM)(cap cap':Nat)(rs:List (List Sd))(hr:eB w w.heap.size A cap rs)(hr':eB w w.heap.size A' cap' rs):
  VC prog 77 #[VW #[VQ A rs.length cap],VW #[VQ A' rs.length cap']] w λe w'=>e=VV (VS Vv)/\Ext w w':=by
 obtain⟨W0,hW0⟩:∃W0,(w.alloc (.cells #[VQ A rs.length cap] 24)).alloc (.cells #[VQ A' rs.length cap'] 24)=W0:=⟨_,rfl⟩;have e0:Ext w W0:=Ws;have HA:=Vk (λ(W:Vl) (h:Ext W0 W)=>(show W.cell? ⟨w.heap.size,0,Vo⟩=Vq (VQ A rs.length cap) by
  have q:ah W0 w.heap.size 24 [VQ A rs.length cap]:=by rw[<-hW0];exact(ah.new w _ _).ext ((Below.refl _ _).alloc (Vm _) _)
  exact(q.ext h).cell 0))
 have HB:=Vk (λ(W:Vl) (h:Ext W0 W)=>(show W.cell? ⟨w.heap.size+1,0,Vo⟩=Vq (VQ A' rs.length cap') by
  have q:ah W0 (w.heap.size+1) 24 [VQ A' rs.length cap']:=by
   have h:=ah.new (w.alloc (.cells #[VQ A rs.length cap] 24)) 24 [VQ A' rs.length cap'];rw[VF] at h;rw[<-hW0];exact h
  exact(q.ext h).cell 0))
 have HW:=Vk hW0;have E0:=Vk e0;obtain⟨h1,h2,h3⟩:=hr;obtain⟨h1',h2',h3'⟩:=hr';unfold VJ at h2 h2';have H3:=Vk h3;have H4:=Vk h3';have a0:=HA.o _ (Ext.aB _);have b0:=HB.o _ (Ext.aB _);clear h3 h3' hW0 e0;go_enter func77,ntmps77;go_upto_region 1 with(fail)
 rw[HW.o];go_wp2;go_loopw [5] (λi wr=>OC W0 rs.length i wr) (λi _=>((rs.length:Int)-VG i).toNat)
 case atStart=>exact⟨0,VY,rfl,Ext.aB _⟩
 case round=>
  obtain⟨m,hm,rfl,hX⟩:=hrel;have HX:=Vk hX;clear hX;have a1:=HA.o _ HX.o;have b1:=HB.o _ HX.o;by_cases hlt:m<rs.length
  ·obtain⟨b,off,rfl,hB,hc⟩:=H3.o VY;obtain⟨b',off',rfl,hB',hc'⟩:=H4.o VY;obtain⟨Ai,ci,c0,hs⟩:=hc m hlt;obtain⟨Ai',ci',d0,hs'⟩:=hc' m hlt;obtain⟨ring,hring⟩:∃ring,rs.getD m []=ring:=⟨_,rfl⟩;rw[hring] at c0 d0 hs hs';have C0:=Vk (λ(W:Vl) (h:Ext W0 W)=>((E0.o.tr h).cell (p:=⟨b,off+m,Vo⟩) hB).trans c0);have D0:=Vk (λ(W:Vl) (h:Ext W0 W)=>((E0.o.tr h).cell (p:=⟨b',off'+m,Vo⟩) hB').trans d0);have c1:=C0.o _ HX.o;have d1:=D0.o _ HX.o;have g1:=hs.1;have g2:=hs.2.1;have g1':=hs'.1;have g2':=hs'.2.1;rw[Vu] at g1 g1';unfold VJ at g2 g2';have G3:=Vk (λ(W:Vl) (h:Ext W0 W)=>((hs.below (E0.o.tr h)).more (E0.o.tr h).size:bK 7 W W.heap.size Ai ci (aD ring)));have G4:=Vk (λ(W:Vl) (h:Ext W0 W)=>((hs'.below (E0.o.tr h)).more (E0.o.tr h).size:bK 7 W W.heap.size Ai' ci' (aD ring)));have tlt:decide ((m:Int)<(rs.length:Int))=Vv:=decide_eq_true VY;have e3:(m:Int)<(rs.length:Int):=VY;clear hring hc hc' c0 d0 hs hs';go_wp2_with fail
   go_quiet (fail)
   go_wp2;go_loopw [6] (λi wr=>OC W0 ring.length i wr) (λi _=>((ring.length:Int)-VG i).toNat)
   case atStart=>exact⟨0,VY,rfl,below_drewN HX.o _⟩
   case round=>
    obtain⟨n,hn,rfl,hX2⟩:=hrel;have HX2:=Vk hX2;clear hX2;have a2:=HA.o _ HX2.o;have b2:=HB.o _ HX2.o;have c2:=C0.o _ HX2.o;have d2:=D0.o _ HX2.o;by_cases hlt2:n<ring.length
    ·obtain⟨p,o,rfl,-,hq⟩:=fM (G3.o _ HX2.o) VY;obtain⟨p',o',rfl,-,hq'⟩:=fM (G4.o _ HX2.o) VY;have h1:=hq n hlt2;have h2:=hq' n hlt2;obtain⟨s,hs⟩:∃s,aq ring n=s:=⟨_,rfl⟩;rw[hs] at h1 h2;obtain⟨s0,s1,s2,s3,s4,s5,s6⟩:=h1;obtain⟨u0,u1,u2,u3,u4,u5,u6⟩:=h2;have hself:=λV=>yv s.x s.y s.rise s.run s.gable s.plate s.over V
     have tlt2:decide ((n:Int)<(ring.length:Int))=Vv:=decide_eq_true VY;have e4:(n:Int)<(ring.length:Int):=VY;clear hs hq hq';go_wp2_with fail
     go_quiet (fail)
     go_wp2;exact⟨⟨n+1,VY,V5,below_drewN HX2.o _⟩,V7⟩
    ·have tlt2:decide ((n:Int)<(ring.length:Int))=Vp:=decide_eq_false VY;go_wp2;exact⟨⟨m+1,VY,V5,HX2.o⟩,V7⟩
  ·have tlt:decide ((m:Int)<(rs.length:Int))=Vp:=decide_eq_false VY;exact a0W
end
section
open Kp
def Hz(w:Vl)(A A':Option VM)(cap cap':Nat)(l:List Br)(hr:fk w w.heap.size A cap l)(hr':fk w w.heap.size A' cap' l):
  VC prog 81 #[VQ A l.length cap,VQ A' l.length cap'] w λe w'=>e=VV (VS Vv)/\Ext w w':=by
 have h1:=hr.1;have h2:=hr.2.1;have h1':=hr'.1;have h2':=hr'.2.1;unfold VJ at h2 h2';have H3:=Vk (λ(W:Vl) (hx:Ext w W)=>((hr.below hx).more hx.size:fk W W.heap.size A cap l));have H4:=Vk (λ(W:Vl) (hx:Ext w W)=>((hr'.below hx).more hx.size:fk W W.heap.size A' cap' l));clear hr hr';go_enter func81,ntmps81;go_wp2;go_loopw [5] (λi wr=>OC w l.length i wr) (λi _=>((l.length:Int)-VG i).toNat)
 case atStart=>exact⟨0,VY,rfl,Ext.aB _⟩
 case round=>
  obtain⟨m,hm,rfl,hX⟩:=hrel;have HX:=Vk hX;clear hX;by_cases hlt:m<l.length
  ·have tlt:decide ((m:Int)<(l.length:Int))=Vv:=decide_eq_true VY;have e3:(m:Int)<(l.length:Int):=VY;obtain⟨b,off,f,rfl,-,-⟩:=oH (H3.o _ HX.o) VY;obtain⟨b',off',f',rfl,-,-⟩:=oH (H4.o _ HX.o) VY;go_wp2_with fail
   simp only[List.append_eq,List.cons_append,List.nil_append];refine dy 74 VZ VZ (λW3 hW3=> ?_);have HX3:=Vk (HX.o.tr hW3);obtain⟨_,_,f,e,-,hc⟩:=oH (H3.o _ HX3.o) VY;obtain⟨_,_,f',e',-,hc'⟩:=oH (H4.o _ HX3.o) VY;cases e;cases e';obtain⟨c,hs⟩:=hc m hlt;obtain⟨c',hs'⟩:=hc' m hlt;obtain⟨x,hx⟩:∃x,l.getD m oe=x:=⟨_,rfl⟩;rw[hx] at c c' hs hs';have c0:=c 0 V0;have c1:=c 1 V0;have c2:=c 2 V0;have c3:=c 3 V0;have c4:=c 4 V0;have c5:=c 5 V0;have d0:=c' 0 V0;have d1:=c' 1 V0;have d2:=c' 2 V0;have d3:=c' 3 V0;have d4:=c' 4 V0;have d5:=c' 5 V0;rw[Nat.add_zero] at c0 d0;have K:=Bo W3 (f m).1 (f' m).1 (f m).2 (f' m).2 (di x.gaps) hs hs' (Pr _) (λr hr V=>by obtain⟨s,_,rfl⟩:=List.mem_map.1 hr;exact Ii _ _ V);rw[show(di x.gaps).length=x.gaps.length from Vu _] at K;have KK:=Vk K;have t0:(x.width==x.width)=Vv:=beq_self_eq_true _;have t1:(x.depth==x.depth)=Vv:=beq_self_eq_true _;have t2:(x.length==x.length)=Vv:=beq_self_eq_true _;have t3:(x.count==x.count)=Vv:=beq_self_eq_true _;have t4:(x.cost==x.cost)=Vv:=beq_self_eq_true _;clear hW3 hc hc' c c' hs hs' K hx;refine rK (λOPS hOPS=> ?_);have D11:(OPS[11]?).bind (·.dst)=Vq 28:=by rw[hOPS];rfl
   have D24:(OPS[24]?).bind (·.dst)=Vq 41:=by rw[hOPS];rfl
   have D37:(OPS[37]?).bind (·.dst)=Vq 54:=by rw[hOPS];rfl
   have D50:(OPS[50]?).bind (·.dst)=Vq 67:=by rw[hOPS];rfl
   have D63:(OPS[63]?).bind (·.dst)=Vq 80:=by rw[hOPS];rfl
   clear hOPS;simp only[List.take_succ_cons,List.take_zero,List.drop_succ_cons,List.drop_zero];iterate 74 first
    |(refine wpStill_step (λK hK=> ?_);(first|rw[if_pos (eP rfl D11 rfl rfl)]|rw[if_pos (eP rfl D24 rfl rfl)]|rw[if_pos (eP rfl D37 rfl rfl)]|rw[if_pos (eP rfl D50 rfl rfl)]|rw[if_pos (eP rfl D63 rfl rfl)]);go_simp;refine hK _ ?_;clear hK K)
    |still_step
   refine wpStill_nil ?_;go_wp2_with(go_at_call 148;go_must(refine KK.o.mono ?_);rintro e W4 ⟨rfl,hX4⟩)
   exact⟨⟨m+1,VY,V5,HX3.o.tr hX4⟩,V7⟩
  ·exact ZX
end
section
open Kp
attribute [local go_sem] bF jR jN jU jK jI jO jP jM jL jQ fK fE fm fl ft
def Jo(w:Vl)(j:bC)(a a':dq)(hb:eC w w.heap.size j a)(hb':eC w w.heap.size j a'):
  VC prog 37 #[VW (bZ j a),VW (bZ j a')] w λe w'=>e=VV (VS Vv)/\Ext w w':=by
 obtain⟨W0,hW0⟩:∃W0,(w.alloc (.cells (bZ j a) 34)).alloc (.cells (bZ j a') 34)=W0:=⟨_,rfl⟩;have e0:Ext w W0:=Ws;have E0:=Vk e0;have JA:=Vk (show JC W0 w.heap.size j a by rw[<-hW0];exact JC.ext (Vy w _) ((Below.refl _ _).alloc (Vm _) _));have JB:=Vk (show JC W0 (w.heap.size+1) j a' by
  have h:=(Vy (w.alloc (.cells (bZ j a) 34)) (.cells (bZ j a') 34));rw[VF] at h;rw[<-hW0];exact h)
 have B1:=Vk (hb.grow e0);have B2:=Vk (hb'.grow e0);have HW:=Vk hW0;have K0:=Vk (Jf W0 a.pa a'.pa a.pc a'.pc j.rings B1.o.p B2.o.p);have K1:=Vk (λ(W:Vl) (h:Ext W0 W)=>Bz W a.ua a'.ua a.uc a'.uc j.purlins (B1.o.grow h).u (B2.o.grow h).u);have K2:=Vk (λ(W:Vl) (h:Ext W0 W)=>(show VC prog 79 #[VQ a.oa j.openings.length a.oc,VQ a'.oa j.openings.length a'.oc] W λe w'=>e=VV (VS Vv)/\Ext W w' from by
  have:=EL W a.oa a'.oa a.oc a'.oc (bD j.openings) (B1.o.grow h).o (B2.o.grow h).o (mH _) (λx hx V=>by obtain⟨s,_,rfl⟩:=List.mem_map.1 hx;exact xA _ _ _ _ _ V);rwa[Vu] at this))
 have K3:=Vk (λ(W:Vl) (h:Ext W0 W)=>(show VC prog 80 #[VQ a.za j.sizes.length a.zc,VQ a'.za j.sizes.length a'.zc] W λe w'=>e=VV (VS Vv)/\Ext W w' from by
  have:=J9 W a.za a'.za a.zc a'.zc (bN j.sizes) (B1.o.grow h).z (B2.o.grow h).z (zC _) (λx hx V=>by obtain⟨s,_,rfl⟩:=List.mem_map.1 hx;exact xz _ _ _ V);rwa[Vu] at this))
 have K4:=Vk (λ(W:Vl) (h:Ext W0 W)=>Hz W a.ba a'.ba a.bc a'.bc j.bars (B1.o.grow h).b (B2.o.grow h).b);have K5:=Vk (λ(W:Vl) (h:Ext W0 W)=>(show VC prog 82 #[VQ a.la j.aH.length a.lc,VQ a'.la j.aH.length a'.lc] W λe w'=>e=VV (VS Vv)/\Ext W w' from by
  have:=Ij W a.la a'.la a.lc a'.lc (bU j.aH) (B1.o.grow h).l (B2.o.grow h).l (oF _) (λx hx V=>by obtain⟨s,_,rfl⟩:=List.mem_map.1 hx;exact yB _ _ _ V);rwa[Vu] at this))
 have K6:=Vk (λ(W:Vl) (h:Ext W0 W)=>(show VC prog 83 #[VQ a.sa j.spans.length a.sc,VQ a'.sa j.spans.length a'.sc] W λe w'=>e=VV (VS Vv)/\Ext W w' from by
  have:=Ie W a.sa a'.sa a.sc a'.sc (bI j.spans) (B1.o.grow h).s (B2.o.grow h).s (Gz _) (λx hx V=>by obtain⟨s,_,rfl⟩:=List.mem_map.1 hx;exact xB _ _ _ _ _ V);rwa[Vu] at this))
 have JX:=Vk (λ(W:Vl) (h:Ext W0 W)=>JA.o.ext h);have JY:=Vk (λ(W:Vl) (h:Ext W0 W)=>JB.o.ext h);have p0:=JA.o.cell;have q0:=JB.o.cell;have tile:=xJ j.tile.width j.tile.length j.tile.lap j.tile.tail;clear hW0 e0 hb hb';go_enter func37,ntmps37;go_wp2_with(first
  |(go_at_call 83;go_must(refine(K6.o _ HX6.o).mono ?_);rintro e W7 ⟨rfl,hX⟩;have p7:=λi=>(JX.o W7 (Ext.tr HX6.o hX)).cell i;have q7:=λi=>(JY.o W7 (Ext.tr HX6.o hX)).cell i;have HX7:=Vk (Ext.tr HX6.o hX);clear hX)
  |(go_at_call 82;go_must(refine(K5.o _ HX5.o).mono ?_);rintro e W6 ⟨rfl,hX⟩;have p6:=λi=>(JX.o W6 (Ext.tr HX5.o hX)).cell i;have q6:=λi=>(JY.o W6 (Ext.tr HX5.o hX)).cell i;have HX6:=Vk (Ext.tr HX5.o hX);clear hX)
  |(go_at_call 81;go_must(refine(K4.o _ HX4.o).mono ?_);rintro e W5 ⟨rfl,hX⟩;have p5:=λi=>(JX.o W5 (Ext.tr HX4.o hX)).cell i;have q5:=λi=>(JY.o W5 (Ext.tr HX4.o hX)).cell i;have HX5:=Vk (Ext.tr HX4.o hX);clear hX)
  |(go_at_call 80;go_must(refine(K3.o _ HX3.o).mono ?_);rintro e W4 ⟨rfl,hX⟩;have p4:=λi=>(JX.o W4 (Ext.tr HX3.o hX)).cell i;have q4:=λi=>(JY.o W4 (Ext.tr HX3.o hX)).cell i;have HX4:=Vk (Ext.tr HX3.o hX);clear hX)
  |(go_at_call 79;go_must(refine(K2.o _ HX2.o).mono ?_);rintro e W3 ⟨rfl,hX⟩;have p3:=λi=>(JX.o W3 (Ext.tr HX2.o hX)).cell i;have q3:=λi=>(JY.o W3 (Ext.tr HX2.o hX)).cell i;have HX3:=Vk (Ext.tr HX2.o hX);clear hX)
  |(go_at_call 78;go_must(refine(K1.o _ HX1.o).mono ?_);rintro e W2 ⟨rfl,hX⟩;have p2:=λi=>(JX.o W2 (Ext.tr HX1.o hX)).cell i;have q2:=λi=>(JY.o W2 (Ext.tr HX1.o hX)).cell i;have HX2:=Vk (Ext.tr HX1.o hX);clear hX)
  |(go_at_call 77;rw[HW.o];go_must(refine K0.o.mono ?_);rintro e W1 ⟨rfl,hX⟩;have p1:=λi=>(JX.o W1 hX).cell i;have q1:=λi=>(JY.o W1 hX).cell i;have HX1:=Vk hX;clear hX))
 go_ret;exact⟨rfl,E0.o.tr HX7.o⟩
def nD{P:Program}{op:Oper}{a:Act}{w:Vl}{K:Act->Prop}(ty:VK)(x:Operand)(ho:op.op= .load ty x)
  (b o:Nat)(hx:a.eval x=VT (Vq ⟨b,o,Vo⟩))(cs:List Vr)(d:TypeDesc)(hc:w.rangeAt b o cs)
  (hu:P.underlying ty=Vq d)(hd:d.isRow=Vv)(hi:(P.info? ty).map (·.size)=Vq cs.length)
  (h:K (a.put op.dst (VW cs.toArray))):op.still P a w K:=by
 unfold Oper.still execOp;simp only[ho,hx,Instr.loadAt,Instr.sureAddr,Sem.run_bind,Sem.run_pure,Result.andThen_ok,run_loadVar_mid w b o ty cs d hc hu hd hi];exact⟨rfl,h⟩
attribute [local go_sem] fT iP iw aS
def RO(w:Vl)(l:Log)(a a':kT)(hb:gT w w.heap.size l a)(hb':gT w w.heap.size l a'):
  VC prog 15 #[VW (cW l a),VW (cW l a')] w λe w'=>e=VV (VS Vv)/\Ext w w':=by
 obtain⟨W0,hW0⟩:∃W0,(w.alloc (.cells (cW l a) 38)).alloc (.cells (cW l a') 38)=W0:=⟨_,rfl⟩;have e0:Ext w W0:=Ws;have E0:=Vk e0;have LA:=Vk (λ(W:Vl) (h:Ext W0 W)=>(show LC W w.heap.size l a from LC.ext (by rw[<-hW0];exact LC.ext (Vy w _) ((Below.refl _ _).alloc (Vm _) _)) h));have LB:=Vk (λ(W:Vl) (h:Ext W0 W)=>(show LC W (w.heap.size+1) l a' from LC.ext (by
  have h:=(Vy (w.alloc (.cells (cW l a) 38)) (.cells (cW l a') 38));rw[VF] at h;rw[<-hW0];exact h) h))
 have B1:=Vk (λ(W:Vl) (h:Ext W0 W)=>hb.grow (e0.tr h));have B2:=Vk (λ(W:Vl) (h:Ext W0 W)=>hb'.grow (e0.tr h));have HW:=Vk hW0;have K0:=Vk (Jo W0 l.start a.ja a'.ja (B1.o _ (Ext.aB _)).j (B2.o _ (Ext.aB _)).j);have h1:=hb.e.1;have h2:=hb.e.2.1;have h1':=hb'.e.1;have h2':=hb'.e.2.1;have g1:=hb.u.1;have g2:=hb.u.2.1;have g1':=hb'.u.1;have g2':=hb'.u.2.1;rw[Vu] at g1 g1';unfold VJ at h2 h2' g2 g2';clear hW0 e0 hb hb';go_enter func15,ntmps15;go_upto_region 1 with(fail)
 rw[HW.o];go_wp2_with(first
  |(go_at_call 37;fail)
  |(refine cz Wn _ rfl _ _ rfl _ _ (LA.o _ (Ext.aB _)).start ?_)
  |(refine cz Wn _ rfl _ _ rfl _ _ (LB.o _ (Ext.aB _)).start ?_))
 refine K0.o.mono ?_;rintro e W1 ⟨rfl,hX1⟩;have X1:=Vk hX1;have p5:=(LA.o _ hX1).cell 15;have p6:=(LA.o _ hX1).cell 16;have q5:=(LB.o _ hX1).cell 15;have q6:=(LB.o _ hX1).cell 16;clear hX1;go_wp2;go_loopw [5] (λi wr=>OC W0 l.edits.length i wr) (λi _=>((l.edits.length:Int)-VG i).toNat)
 case atStart=>exact⟨0,VY,rfl,X1.o⟩
 case round=>
  obtain⟨m,hm,rfl,hX⟩:=hrel;have HX:=Vk hX;have p5:=(LA.o _ hX).cell 15;have q5:=(LB.o _ hX).cell 15;clear hX;by_cases hlt:m<l.edits.length
  ·have tlt:decide ((m:Int)<(l.edits.length:Int))=Vv:=decide_eq_true VY;have e3:(m:Int)<(l.edits.length:Int):=VY;go_wp2_with fail
   refine dy 10 VZ VZ (λW3 hW3=> ?_);have HX3:=Vk (HX.o.tr hW3);have p5:=(LA.o _ HX3.o).cell 15;have q5:=(LB.o _ HX3.o).cell 15;obtain⟨b,off,f,hA,-,hc⟩:=(B1.o _ HX3.o).e.at VY;obtain⟨b',off',f',hA',-,hc'⟩:=(B2.o _ HX3.o).e.at VY;obtain⟨c,g⟩:=hc m hlt;obtain⟨c',g'⟩:=hc' m hlt;obtain⟨ed,hed⟩:∃x,l.edits.getD m dM=x:=⟨_,rfl⟩;rw[hed] at c c' g g';have K:=Vk (rP W3 ed (f m).1 (f' m).1 (f m).2 (f' m).2 g g');obtain⟨v,hv⟩:∃v,Value.slice (f m).1 ed.gaps.length (f m).2=v:=⟨_,rfl⟩;obtain⟨v',hv'⟩:∃v,Value.slice (f' m).1 ed.gaps.length (f' m).2=v:=⟨_,rfl⟩;rw[hv,hv'] at K;rw[hv] at c;rw[hv'] at c';rw[iP,hA] at p5;rw[iP,hA'] at q5;rw[VE] at c c';have C:=Vk c;have C':=Vk c';clear hc hc' g g' c c' hW3 hed hv hv' hA hA';simp only[List.take_succ_cons,List.take_zero,List.drop_succ_cons,List.drop_zero];iterate 4 still_step
   refine wpStill_step (λK hK=> ?_);rw[if_pos Wn];refine nD 68 _ rfl b (off+m*37) rfl (aL ed v).toList _ C.o underlying68 rfl VZ ?_;refine hK _ ?_;clear hK K;iterate 4 still_step
   refine wpStill_step (λK hK=> ?_);rw[if_pos Wn];refine nD 68 _ rfl b' (off'+m*37) rfl (aL ed v').toList _ C'.o underlying68 rfl VZ ?_;refine hK _ ?_;clear hK K;refine wpStill_nil ?_;go_wp2_with(go_at_call 24;go_must(refine K.o.mono ?_);rintro e W4 ⟨rfl,hX4⟩)
   exact⟨⟨m+1,VY,V5,HX3.o.tr hX4⟩,V7⟩
  ·have tlt:decide ((m:Int)<(l.edits.length:Int))=Vp:=decide_eq_false VY;go_wp2;go_loopw [6] (λi wr=>OC W0 l.undone.length i wr) (λi _=>((l.undone.length:Int)-VG i).toNat)
   case atStart=>exact⟨0,VY,rfl,HX.o⟩
   case round=>
    obtain⟨n,hn,rfl,hX2⟩:=hrel;have HX2:=Vk hX2;have p6:=(LA.o _ hX2).cell 16;have q6:=(LB.o _ hX2).cell 16;clear hX2;by_cases hlt2:n<l.undone.length
    ·obtain⟨b,off,hA,-,hc⟩:=(B1.o _ HX2.o).u.2.2 (by rw[Vu];omega);obtain⟨b',off',hA',-,hc'⟩:=(B2.o _ HX2.o).u.2.2 (by rw[Vu];omega);have c:=hc n (by rw[Vu];exact hlt2) 0 V0;have c':=hc' n (by rw[Vu];exact hlt2) 0 V0;rw[Nat.one_mul,Nat.add_zero,Vn,List.getElem?_map,Vt hlt2] at c c';have d0:wr.cell? ⟨b,off+n,Vo⟩=Vq (VS l.undone[n]):=c;have d1:wr.cell? ⟨b',off'+n,Vo⟩=Vq (VS l.undone[n]):=c';obtain⟨x,hx⟩:∃x,l.undone[n]=x:=⟨_,rfl⟩;rw[hx] at d0 d1;rw[iw,hA] at p6;rw[iw,hA'] at q6;have tlt2:decide ((n:Int)<(l.undone.length:Int))=Vv:=decide_eq_true VY;have e4:(n:Int)<(l.undone.length:Int):=VY;clear hc hc' c c' hx hA hA';cases x;all_goals
      go_wp2_with fail
      go_quiet (fail)
      go_wp2;exact⟨⟨n+1,VY,V5,below_drewN HX2.o _⟩,V7⟩
    ·have tlt2:decide ((n:Int)<(l.undone.length:Int))=Vp:=decide_eq_false VY;go_wp2;go_ret;exact⟨rfl,E0.o.tr HX2.o⟩
end
end Go.Proofs.YtmliacdegmklaaaGreatDoor
namespace Go.RowKit
def Hid.now{A:Vl}{P:Vl->Prop}(h:Hid (∀W,Ext A W->P W)):P A:=h.o _ (Ext.aB _)
end Go.RowKit
namespace Go.Proofs.YtmliacdegmklaaaGreatDoor
section
open Kp
def jC.set{l:Log}{m:Nat}(h:jC l.edits l.undone l.start m)(i:Nat)(u:Bool):jC (mP l i u).edits (mP l i u).undone (mP l i u).start m:=
 ⟨h.sm,h.ln,h.mx,h.gr,h.ix,h.ok,(List.length_set ..).trans h.eq,h.Oy⟩
def UL{l:Log}{i:Nat}(u:Bool)(hi:i<l.undone.length):(mP l i u).undone.getD i Vp=u:=by
 show(l.undone.set i u).getD i Vp=u;simp[Vn,hi]
def Ug{l:Log}{i k:Nat}(u:Bool)(h:i≠k):(mP l i u).undone.getD k Vp=l.undone.getD k Vp:=by
 show(l.undone.set i u).getD k Vp=_;simp[Vn,h]
def Tp{l:Log}{i:Nat}{u:Bool}(hi:i<l.undone.length)(hu:l.undone.getD i Vp= !u):mP (mP l i u) i (!u)=l:=by
 show{l with undone:=(l.undone.set i u).set i (!u)}=l;rw[List.set_set,<-hu,Vn,Vt hi,Option.getD_some,List.set_getElem_self]
def set_comm{l:Log}{i k:Nat}{u v:Bool}(h:i≠k):mP (mP l i u) k v=mP (mP l k v) i u:=by
 show({l with undone:=(l.undone.set i u).set k v}:Log)={l with undone:=(l.undone.set k v).set i u};rw[List.set_comm _ _ h]
def al{A B:Vl}{P:Vl->Prop}(h:Hid (∀W,Ext A W->P W))(y:Hid (Ext A B)):Hid (∀W,Ext B W->P W):=Vk (λW k=>h.o W (y.o.tr k))
def a1l{ops:Array Oper}{rest:List Oper}{o:Oper}{b:Act}{w:Vl}{Q:Exit->Act->Vl->Prop}(hw:Region.wanted o (yielded ops b.tmps)=Vv)(x:Operand)(ho:o.op= .load 38 x)
  (g:Nat)(hx:b.eval x=VT (Vq ⟨g,0,Vo⟩))(l:Log){a:kT}(hg:LC w g l a)(h:wpList prog ops Q rest (b.put o.dst (VW (cW l a))) w):wpList prog ops Q (o::rest) b w:=
 wpList_step λ_ hK=>by
  rw[if_pos hw];exact wp_load_row 38 x ho g hx 38 _ (0,0) _ hg underlying38 rfl VZ (hK _ _ h)
def bm{ops:Array Oper}{rest:List Oper}{o:Oper}{b:Act}{w:Vl}{Q:Exit->Act->Vl->Prop}{t:VK}{cs0 cs:Array Vr}{x y:Operand}(hg:o.guard=Vo)(ho:o.op= .store t x y)(hx:b.eval x=VT (Vq ⟨w.heap.size,0,Vo⟩))(hy:b.eval y=VW cs)
  (hi:(prog.info? t).map (·.size)=Vq cs.size)(h0:cs0.size=cs.size)(h1:cs.all (λx=>x.oneCell')=Vv)
  (h:∀W,Hid (Ext w W)->Hid (W.heap[w.heap.size]?=Vq (.cells cs t (0,0)))->wpList prog ops Q rest (b.put o.dst Vs) W):wpList prog ops Q (o::rest) b (w.alloc (.cells cs0 t)):=
 wpList_store_row hg t x y ho _ cs hx hy t cs0 (Vy w _) hi h0 h1 (h _ (Vk (af ((Below.refl _ _).alloc (Vm _) _) (Vm _) _)) (Vk (setRow_heap (Vy w _) _)))
end
section
open Kp
attribute [local go_sem] bF fT iP iw
set_option maxHeartbeats 40000000 in
def Au(w:Vl)(l:Log)(a:kT)(n1 n2:Nat)(hn1:n1<=255)(hn2:n2<=255)(hb:gT w w.heap.size l a)(hbig:l.start.rings.flatten.length<=4000000000)(hix:∀e∈l.edits,bj e.index)(hg:Gl w)(hB:9<=w.heap.size):
  VC prog 4 #[VW (cW l a),VU .u8 (n1:Int),VU .u8 (n2:Int)] w λr w'=>r=VV (VS Vv)/\Ext w w':=by
 have E0:Ext w (w.alloc (.cells (cW l a) 38)):=(Below.refl _ _).alloc (Vm _) _;have L0:LC (w.alloc (.cells (cW l a) 38)) w.heap.size l a:=Vy w _;obtain⟨w0,hw0⟩:∃w0,w.alloc (.cells (cW l a) 38)=w0:=⟨_,rfl⟩;rw[hw0] at E0 L0;have HW0:=Vk hw0;have E0:=Vk E0;have HL0:=Vk L0;have HL:=Vk (λW (h:Ext w0 W)=>LC.ext L0 h);have HB:=Vk (λW (h:Ext w0 W)=>hb.grow (E0.o.tr h));have HG:=Vk (λW (h:Ext w0 W)=>hg.keep (E0.o.tr h) hB);have KR:=Vk (qt w0 l a (HB.o _ (Ext.aB _)) hbig (HG.o _ (Ext.aB _)).pow);have KA:=Vk (λW (h:Ext w0 W)=>xe W (HG.o W h) (VB hB (E0.o.tr h).size));have KO:=Vk (λW (h:Ext w0 W) (l':Log) (a':kT) (i:Nat) (u:Bool) (hl:gT W W.heap.size l' a') (hr:jC l'.edits l'.undone l'.start 4100) (hi:i<l'.edits.length) (hu:l'.undone.getD i Vp= !u)=>wA W l' a' i hl (Vm _) hr hi hu (HG.o W h).maxl (HG.o W h).pow);have HIX:=Vk hix;clear hb hg hw0 hbig hix L0;have g1:=enters_of func12 VZ rfl;go_enter func4,ntmps4;go_wp2_with(first
  |(go_at_call 6;fail)
  |(rw[HW0.o];refine wpList_load_row rfl 38 _ rfl _ rfl 38 _ (0,0) _ HL0.o underlying38 rfl VZ ?_))
 try rw[HW0.o]
 refine KR.o.mono ?_;rintro r1 W1 ⟨⟨b1,rfl,h1⟩,hX1⟩;have X1:=Vk hX1;have H1:=Vk h1;clear hX1 h1;cases b1
 case false=>
  exact a1f
 have HOK:=Vk (H1.o WV);have hsix:=HOK.o.gr.n;have heq:=HOK.o.eq;have HRP:=Vk (HOK.o.rp HIX.o);have c15:=(HL.o _ X1.o).cell 15;have c16:=(HL.o _ X1.o).cell 16;by_cases h2:l.edits.length<2
 ·have t2:decide ((l.edits.length:Int)<2)=Vv:=decide_eq_true VY;exact a1f
 have t2:decide ((l.edits.length:Int)<2)=Vp:=decide_eq_false VY;obtain⟨i,hi⟩:∃i,n1%l.edits.length=i:=⟨_,rfl⟩;obtain⟨k,hk⟩:∃k,n2%l.edits.length=k:=⟨_,rfl⟩;have hil:i<l.edits.length:=by rw[<-hi];exact Nat.mod_lt _ VY
 have hkl:k<l.edits.length:=by rw[<-hk];exact Nat.mod_lt _ VY
 have hiI:(n1:Int)%(l.edits.length:Int)=(i:Int):=by rw[<-hi];simp
 have hkI:(n2:Int)%(l.edits.length:Int)=(k:Int):=by rw[<-hk];simp
 have hz:((l.edits.length:Int)==0)=Vp:=by simp;intro h;rw[h] at h2;exact h2 V0
 clear hi hk;go_wp2_with fail
 go_quiet (fail)
 simp only[hiI,hkI];have hx0:∀q,Ext w0 (W1.drewN q):=λq=>below_drewN X1.o q
 obtain⟨u,hu⟩:∃u,l.undone.getD i Vp= !u:=⟨!(l.undone.getD i Vp),V5⟩;obtain⟨v,hv⟩:∃u,l.undone.getD k Vp= !u:=⟨!(l.undone.getD k Vp),V5⟩;have hiu:i<l.undone.length:=VY;have hku:k<l.undone.length:=VY;obtain⟨lx,hlx⟩:∃x,mP l i u=x:=⟨_,rfl⟩;have RX:=Vk (HRP.o.set i u);have UX:=Vk (show(mP l i u).undone.getD i Vp= !(!u) by rw[UL u hiu,Bool.not_not]);have BX:=Vk (Tp hiu hu);have GX:=Vk (show i<(mP l i u).edits.length from hil);rw[hlx] at RX UX BX GX;have HU:=Vk hu;have HV:=Vk hv;have HLX:=Vk hlx;have HIL:=Vk hil;have HKL:=Vk hkl;have HKU:=Vk hku;clear c15 c16 hu hv hlx hiu hku;generalize hWd:W1.drewN _=Wdr;have HX:=Vk (λW (h:Ext Wdr W)=>((hWd▸hx0 _:Ext w0 Wdr).tr h));have NL:=Vk (λW (h:Ext Wdr W)=>HL.o W (HX.o W h));have LL:=Vk (λW (h:Ext Wdr W)=>HB.o W (HX.o W h));clear hWd hx0 X1;go_wp2_with(first
  |(go_at_call 12;fail)
  |(refine a1l Wn _ rfl _ rfl _ (NL.now) ?_))
 refine(KO.o _ (HX.now) l a i u (LL.now) HRP.o HIL.o HU.o).mono ?_;rw[HLX.o];rintro r2 W2 ⟨ax,rfl,hY,hx⟩;have Y:=Vk hY;have LX:=Vk (λW (h:Ext W2 W)=>hx.at_.grow h);clear hY hx;have HX:=al HX Y;have NL:=al NL Y;have LL:=al LL Y;go_wp2_with(first
  |(go_at_call 12;fail)
  |(refine bm Wn Wn Wn Wn VZ VZ VZ ?_;intro W3 Y nx)
  |(refine a1l Wn _ rfl _ rfl _ nx.o ?_))
 have NX:=Vk (λW (h:Ext W3 W)=>LC.ext nx.o h);have HX:=al HX Y;have NL:=al NL Y;have LL:=al LL Y;have LX:=al LX Y;refine(KO.o _ (HX.now) lx ax i (!u) (LX.now) RX.o GX.o UX.o).mono ?_;rw[BX.o];rintro r4 W4 ⟨ay,rfl,hY,hx⟩;have Y:=Vk hY;have LY:=Vk (λW (h:Ext W4 W)=>hx.at_.grow h);clear hY hx;have HX:=al HX Y;have NL:=al NL Y;have LL:=al LL Y;have LX:=al LX Y;have NX:=al NX Y;go_wp2_with(first
  |(go_at_call 15;fail)
  |(refine bm Wn Wn Wn Wn VZ VZ VZ ?_;intro W5 Y ny)
  |(refine a1l Wn _ rfl _ rfl _ ny.o ?_)
  |(refine a1l Wn _ rfl _ rfl _ (NL.o _ Y.o) ?_))
 have HX:=al HX Y;have NL:=al NL Y;have LL:=al LL Y;have LX:=al LX Y;have NX:=al NX Y;have LY:=al LY Y;refine(RO W5 l ay a (LY.now) (LL.now)).mono ?_;rintro r6 W6 ⟨rfl,hY⟩;have Y:=Vk hY;clear hY LY;have HX:=al HX Y;have NL:=al NL Y;have LL:=al LL Y;have LX:=al LX Y;have NX:=al NX Y;by_cases hik:i=k
 ·have t3:((i:Int)==(k:Int))=Vv:=by rw[hik];exact beq_self_eq_true _
  go_wp2_with(go_at_call 7;go_must(refine(KA.o _ (HX.now)).mono ?_);rintro r7 W7 ⟨rfl,hX7⟩)
  go_ret;exact⟨rfl,E0.o.tr ((HX.now).tr hX7)⟩
 have t3:((i:Int)==(k:Int))=Vp:=beq_eq_false_iff_ne.2 (λh=>hik VY);obtain⟨lu,hlu⟩:∃x,mP lx k v=x:=⟨_,rfl⟩;obtain⟨lv,hlv⟩:∃x,mP l k v=x:=⟨_,rfl⟩;have VQX:=Vk (show lx.undone.getD k Vp= !v by rw[<-HLX.o,Ug u hik,HV.o]);have KX:=Vk (show k<lx.edits.length by rw[<-HLX.o];exact HKL.o);have CM:=Vk (show mP lv i u=lu by rw[<-hlu,<-hlv,<-HLX.o];exact(set_comm hik).symm);have RV:=Vk (show jC lv.edits lv.undone lv.start 4100 by rw[<-hlv];exact HRP.o.set k v);have UV:=Vk (show lv.undone.getD i Vp= !u by rw[<-hlv,Ug v (Ne.symm hik),HU.o]);have IV:=Vk (show i<lv.edits.length by rw[<-hlv];exact HIL.o);have RU:=Vk (show jC lu.edits lu.undone lu.start 4100 by rw[<-hlu];exact RX.o.set k v);have HLU:=Vk hlu;have HLV:=Vk hlv;clear hlu hlv hik;go_wp2_with(first
  |(go_at_call 12;fail)
  |(refine a1l Wn _ rfl _ rfl _ (NX.now) ?_))
 refine(KO.o _ (HX.now) lx ax k v (LX.now) RX.o KX.o VQX.o).mono ?_;rw[HLU.o];rintro r7 W7 ⟨au,rfl,hY,hx⟩;have Y:=Vk hY;have LU:=Vk (λW (h:Ext W7 W)=>hx.at_.grow h);clear hY hx LX NX;have HX:=al HX Y;have NL:=al NL Y;have LL:=al LL Y;go_wp2_with(first
  |(go_at_call 12;fail)
  |(refine bm Wn Wn Wn Wn VZ VZ VZ ?_;intro W8 Y nu)
  |(refine a1l Wn _ rfl _ rfl _ (NL.o _ Y.o) ?_))
 have NU:=Vk (λW (h:Ext W8 W)=>LC.ext nu.o h);have HX:=al HX Y;have NL:=al NL Y;have LL:=al LL Y;have LU:=al LU Y;refine(KO.o _ (HX.now) l a k v (LL.now) HRP.o HKL.o HV.o).mono ?_;rw[HLV.o];rintro r9 W9 ⟨av,rfl,hY,hx⟩;have Y:=Vk hY;have LV:=Vk (λW (h:Ext W9 W)=>hx.at_.grow h);clear hY hx NL LL;have HX:=al HX Y;have LU:=al LU Y;have NU:=al NU Y;go_wp2_with(first
  |(go_at_call 12;fail)
  |(refine bm Wn Wn Wn Wn VZ VZ VZ ?_;intro W10 Y nv)
  |(refine a1l Wn _ rfl _ rfl _ nv.o ?_))
 have HX:=al HX Y;have LU:=al LU Y;have NU:=al NU Y;have LV:=al LV Y;refine(KO.o _ (HX.now) lv av i u (LV.now) RV.o IV.o UV.o).mono ?_;rw[CM.o];rintro r11 W11 ⟨aw,rfl,hY,hx⟩;have Y:=Vk hY;have LW:=Vk (λW (h:Ext W11 W)=>hx.at_.grow h);clear hY hx LV;have HX:=al HX Y;have LU:=al LU Y;have NU:=al NU Y;go_wp2_with(first
  |(go_at_call 9;fail)
  |(refine bm Wn Wn Wn Wn VZ VZ VZ ?_;intro W12 Y nw)
  |(refine a1l Wn _ rfl _ rfl _ (NU.o _ Y.o) ?_))
 have NW:=Vk (λW (h:Ext W12 W)=>LC.ext nw.o h);have HX:=al HX Y;have LU:=al LU Y;have NU:=al NU Y;have LW:=al LW Y;obtain⟨js,hjs⟩:∃x,bT lu.edits lu.undone lu.start lu.edits.length=x:=⟨_,rfl⟩;have KS:=Vk (λW (h:Ext w0 W) a' (hl:gT W W.heap.size lu a')=>yC W lu a' 4100 W.heap.size (X:=λ_=>False) hl (Vm _) (λ_ h=>h.elim) RU.o (HG.o W h).maxl (HG.o W h).pow);rw[hjs] at KS;clear hjs;refine(KS.o _ (HX.now) au (LU.now)).mono ?_;rintro r13 W13 ⟨aj,rfl,hY,hx⟩;have Y:=Vk hY;have BS:=Vk (λW (h:Ext W13 W)=>hx.toeC.grow h);clear hY hx;have HX:=al HX Y;have LU:=al LU Y;have NU:=al NU Y;have LW:=al LW Y;have NW:=al NW Y;go_wp2_with(first
  |(go_at_call 9;fail)
  |(refine bm Wn Wn Wn Wn VZ VZ VZ ?_;intro W14 Y ns)
  |(refine a1l Wn _ rfl _ rfl _ (NW.o _ Y.o) ?_))
 have NS:=Vk (λW (h:Ext W14 W)=>JC.ext ns.o h);have HX:=al HX Y;have LU:=al LU Y;have NU:=al NU Y;have LW:=al LW Y;have NW:=al NW Y;have BS:=al BS Y;refine(KS.o _ (HX.now) aw (LW.now)).mono ?_;rintro r15 W15 ⟨at',rfl,hY,hx⟩;have Y:=Vk hY;have BT:=Vk (λW (h:Ext W15 W)=>hx.toeC.grow h);clear hY hx;have HX:=al HX Y;have LU:=al LU Y;have NU:=al NU Y;have LW:=al LW Y;have NW:=al NW Y;have BS:=al BS Y;have NS:=al NS Y;go_wp2_with(first
  |(go_at_call 15;fail)
  |(refine bm Wn Wn Wn Wn VZ VZ VZ ?_;intro W16 Y nt)
  |(refine a1l Wn _ rfl _ rfl _ (NU.o _ Y.o) ?_)
  |(refine a1l Wn _ rfl _ rfl _ (NW.o _ Y.o) ?_))
 have HX:=al HX Y;have LU:=al LU Y;have LW:=al LW Y;have BS:=al BS Y;have NS:=al NS Y;have BT:=al BT Y;refine(RO W16 lu au aw (LU.now) (LW.now)).mono ?_;rintro r17 W17 ⟨rfl,hY⟩;have Y:=Vk hY;have NT:=Vk (JC.ext nt.o hY);clear hY;have HX:=al HX Y;have BS:=al BS Y;have NS:=al NS Y;have BT:=al BT Y;go_wp2_with(first
  |(go_at_call 10;fail)
  |(refine ff Wn _ rfl _ rfl _ (NS.now) VZ ?_)
  |(refine ff Wn _ rfl _ rfl _ NT.o VZ ?_))
 refine(xY W17 js aj at' (BS.now) (BT.now)).mono ?_;rintro r18 W18 ⟨rfl,hX18⟩;go_wp2_with(go_at_call 7;go_must(refine(KA.o _ (HX.o _ hX18)).mono ?_);rintro r19 W19 ⟨rfl,hX19⟩)
 go_ret;exact⟨rfl,E0.o.tr ((HX.o _ hX18).tr hX19)⟩
end
end Go.Proofs.YtmliacdegmklaaaGreatDoor
