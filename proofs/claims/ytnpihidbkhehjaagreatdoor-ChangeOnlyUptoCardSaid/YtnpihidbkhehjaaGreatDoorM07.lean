/- ChangeOnly of kingpostlaw58: part 7 of its proof (merged and shortened by program). -/
import Derived.WideMake
import Derived.MapKept
import Derived.Laws.StructEq
import Derived.Test.YtnpihidbkhehjaaGreatDoorM06
set_option linter.unusedVariables false
set_option linter.unusedSimpArgs false
set_option linter.defProp false
set_option maxHeartbeats 8000000
set_option maxRecDepth 100000
open Go.RowKit Go.Shelf Go.Proofs.Tryz
open Array renaming getElem?_eq_some_iff→Od
open Bool renaming false→N1,true→Oc
open Go renaming World→NY,Value→N2,undef→N7,wpOp_step→Ob,Calls→Of,maxLen→Ol,TypeId→Oo
open Go.AllReady renaming cons→Oj,nil→Oq
open Go.IntKind renaming i64→Oe
open Go.IntWalk renaming i64_in→Om
open Go.Lib renaming hid→NW
open Go.RowKit renaming intOf→Oh,Below→On
open Go.World renaming size_alloc→Oi
open List renaming getD_eq_getElem?_getD→N8,length_map→N9,getElem?_eq_getElem→Oa
open Nat renaming le_refl→NZ,mul_comm→Og,le_trans→Ok
open Option renaming none→N0,some→N3
open Go.Proofs.YtnpihidbkhehjaaGreatDoor
namespace Go.Proofs.YtnpihidbkhehjaaGreatDoor
section
open Kp
def j9(B b:Nat)(wide num:Int)(bs:By)(w:NY):Prop:=
 ∃p,wJ b p∧Bd B b 112 p [.int .i64 wide,.int .i64 num] (Lib.byteCells bs) w
theorem j9.heap{B b:Nat}{wide num:Int}{bs:By}{w:NY}(h:j9 B b wide num bs w):∃p v,w.heap[b]?=N3 (.cells #[p,v,.int .i64 wide,.int .i64 num] 112 (0,0)):=by
 obtain⟨p,_,_,v,hb,_⟩:=h
 exact⟨p,v,hb⟩
theorem j9.IX{B b:Nat}{wide num:Int}{bs:By}{w:NY}(h:j9 B b wide num bs w):w.cell? ⟨b,2,N0⟩=N3 (.int .i64 wide):=by
 obtain⟨p,v,hb⟩:=h.heap
 simp[World.cell?,hb]
theorem j9.LP{B b:Nat}{wide num:Int}{bs:By}{w:NY}(h:j9 B b wide num bs w):w.cell? ⟨b,3,N0⟩=N3 (.int .i64 num):=by
 obtain⟨p,v,hb⟩:=h.heap
 simp[World.cell?,hb]
theorem j9.frozen{B b:Nat}{wide num:Int}{bs:By}{w:NY}(h:j9 B b wide num bs w)(i:Nat):w.frozen? ⟨b,i,N0⟩=N1:=by
 obtain⟨p,v,hb⟩:=h.heap
 simp[World.frozen?,hb]
theorem j9.lt{B b:Nat}{wide num:Int}{bs:By}{w:NY}(h:j9 B b wide num bs w):b<w.heap.size:=by
 obtain⟨p,v,hb⟩:=h.heap
 exact(Od.1 hb).1
theorem j9.low{B b:Nat}{wide num:Int}{bs:By}{w:NY}(h:j9 B b wide num bs w):B≤b:=by
 obtain⟨p,_,hB,_⟩:=h;exact hB
theorem j9.M8{B b:Nat}{wide num:Int}{bs:By}{w:NY}(h:j9 B b wide num bs w)(x:Int):j9 B b x num bs (w.setCell ⟨b,2,N0⟩ (.int .i64 x)):=by
 obtain⟨p,hp,hB,v,hb,hown,hne⟩:=h
 exact⟨p,hp,hB,v,by simp[World.setCell,Array.getElem?_modify,hb],sZ hown hne _,hne⟩
theorem j9.keep{B b:Nat}{wide num:Int}{bs:By}{w:NY}(h:j9 B b wide num bs w)(i:Nat)(x:N2):aK B b w (w.setCell ⟨b,i,N0⟩ x):=
 ⟨(Below.refl _ _).setCell (p:=⟨b,i,N0⟩) h.low _,(Lib.OthersKept.refl _ _ _).setCell ⟨b,i,N0⟩ rfl _⟩
theorem j9.below{B b:Nat}{wide num:Int}{bs:By}{w w':NY}(h:j9 B b wide num bs w)(hs:On w.heap.size w w'):j9 B b wide num bs w':=by
 obtain⟨p,hp,hb⟩:=h
 exact⟨p,hp,hb.below hs⟩
structure Gl(w:NY):Prop where
 pow:aL w
 maxl:fl w
 syn:∃tp p,w.var? prog "strconv.ErrSyntax" =N3 #[.iface tp p]
 rng:∃tp p,w.var? prog "strconv.ErrRange" =N3 #[.iface tp p]
 wrd:∀j,j<12→w.cell? ⟨0,1+j,N0⟩=N3 (.string (tx (jo.getD j [])))
theorem pA{n:String}{g:Nat}(hg:prog.globalNamed n=N3 g){w w':NY}{cs:Array N2}(h:w.var? prog n=N3 cs){B:Nat}(hb:On B w w')(hB:g<B):w'.var? prog n=N3 cs:=by
 unfold NY.var? at h⊢
 rw[hg] at h⊢
 simp only[Option.bind_some] at h⊢
 rw[hb.block g hB];exact h
theorem Gl.keep{w w':NY}(h:Gl w){B:Nat}(hb:On B w w')(hB:9≤B):Gl w':=by
 obtain⟨h1,⟨m,h2⟩,⟨t3,p3,h3⟩,⟨t4,p4,h4⟩,h5⟩:=h
 exact⟨pA (g:=6) Ou h1 hb Ot,⟨m,(hb.cell (by show 1<B;omega)).trans h2⟩,
  ⟨t3,p3,pA (g:=4) Ou h3 hb Ot⟩,⟨t4,p4,pA (g:=5) Ou h4 hb Ot⟩,
  fun j hj=>(hb.cell (by show 0<B;omega)).trans (h5 j hj)⟩
def nV(B b:Nat)(wide num:Int)(bs:By)(w:NY)(e:Ending)(w':NY):Prop:=
 e= .returned (.tuple #[])∧j9 B b wide num bs w'∧aK B b w w'
theorem gM(B b:Nat)(wide num:Int)(bs s:By)(w:NY)(h:j9 B b wide num bs w)(hlen:bs.length+s.length≤100000000)(hBw:B≤w.heap.size):
  Of prog 117 #[nZ b,.string (tx s)] w (nV B b wide num (lS bs s) w):=by
 obtain⟨p,hp,hb⟩:=h
 have cl:=NW (Dh B b _ p _ _ w hb)
 rw[Lib.byteCells_length] at cl
 by_cases h0:bs=[]
 ·have t0:¬0<bs.length:=by rw[h0];simp
  have HE:=NW (show lS bs s=bs++s by unfold lS;rw[if_pos h0,h0];rfl)
  have cs:=NW (fP B b _ p _ _ (tx s) w hb hp kT (by rw[Lib.byteCells_length,av];omega) hBw)
  clear h0 hb hp
  go_enter func117,ntmps117
  go_wp2_with(first|(go_at_call 178;refine cl.out.mono ?_;rintro e w1 ⟨rfl,rfl⟩)|(go_at_call 180;refine cs.out.mono ?_;rintro e w2 ⟨rfl,hb2,hk2⟩))
  go_end0
  refine⟨rfl,?_,hk2⟩
  rw[HE.out]
  refine⟨_,.inr rfl,?_⟩
  rw[bT];exact hb2
 ·have t0:0<bs.length:=List.length_pos_iff.2 h0
  have HE:=NW (show lS bs s=bs++[32]++s by unfold lS;rw[if_neg h0];simp)
  have cb:=NW (rf B b _ p _ _ 32 w hb hp kT (by rw[Lib.byteCells_length];omega) hBw)
  clear h0 hb hp
  go_enter func117,ntmps117
  go_wp2_with(first|(go_at_call 178;refine cl.out.mono ?_;rintro e w1 ⟨rfl,rfl⟩)|(go_at_call 179;refine cb.out.mono ?_;rintro e w2 ⟨rfl,hb2,hk2⟩;have hz2:=hk2.low.size)|(go_at_call 180;refine(fP B b _ _ _ _ (tx s) _ hb2 (.inr rfl) kT (by rw[List.length_append,Lib.byteCells_length,av];simp;omega) Ot).mono ?_;rintro e w3 ⟨rfl,hb3,hk3⟩))
  go_end0
  refine⟨rfl,?_,hk2.trans hk3⟩
  rw[HE.out]
  refine⟨_,.inr rfl,?_⟩
  rw[bT,bT];exact hb3
def bO(w:NY)(c:Nat)(T:Oo)(l:List N2):Prop:=w.heap[c]?=N3 (.cells l.toArray T (0,0))
theorem bO.bd{B b c:Nat}{T:Oo}{l:List N2}{w w':NY}(h:bO w c T l)(hk:aK B b w w')(hc:c≠b)(ht:T≠5):bO w' c T l:=
 hk.kept c _ h (fun e=>hc (by cases e;rfl)) (fun cs fz e=>ht (by cases e;rfl))
theorem bO.cell{w:NY}{c:Nat}{T:Oo}{l:List N2}(h:bO w c T l)(i:Nat):w.cell? ⟨c,i,N0⟩=l[i]?:=by unfold bO at h;simp[World.cell?,h]
theorem bO.below{w w':NY}{c:Nat}{T:Oo}{l:List N2}{B0:Nat}(h:bO w c T l)(hb:On B0 w w')(hc:c<B0):bO w' c T l:=(hb.block c hc).trans h
theorem bO.lt{w:NY}{c:Nat}{T:Oo}{l:List N2}(h:bO w c T l):c<w.heap.size:=(Od.1 h).1
abbrev Jw(l:List Int):List N2:=l.map (.int .i64 ·)
def aN(n:Int):Prop:= -9223372036854775808≤n∧n≤9223372036854775807
theorem xQ(bs s:By):(lS bs s).length≤bs.length+s.length+1:=by
 unfold lS
 split
 ·omega
 ·simp;omega
theorem kW{n:Int}(h:aN n):(Lib.itoa n).length≤20:=by
 obtain⟨h0,h1⟩:=h
 unfold Lib.itoa
 split
 ·have:=AK n.natAbs 19 Ov Ot
  rw[List.length_cons,Lib.decDigits_length];omega
 ·have:=AK n.toNat 19 Ov Ot
  rw[Lib.decDigits_length];omega
theorem qM{l:List Int}(h:∀n∈l,aN n)(bs:By):(dH bs (ma l)).length≤bs.length+21*l.length:=by
 induction l generalizing bs with
 |nil=>simp[ma,dH]
 |cons n l ih=>
  have h1:=kW (h n Ow)
  have h2:=xQ bs (Lib.itoa n)
  have h3:=ih (fun m hm=>h m (by simp[hm])) (lS bs (Lib.itoa n))
  simp only[ma,List.map_cons,zC,List.length_cons] at h3⊢
  omega
theorem mK{α:Type}{l:List α}{k:Nat}(h:k<l.length):l.take (k+1)=l.take k++[l[k]]:=List.take_succ_eq_append_getElem h
theorem BO(x:Int)(l:List Int)(n:Int):kL x (l++[n])=if xD n then 2 else kL x l:=by
 unfold kL
 rw[List.any_append,List.any_cons,List.any_nil,Bool.or_false]
 generalize l.any xD=a
 generalize xD n=b
 cases a<;>cases b<;>rfl
theorem zB(bs:By)(ws:List By)(s:By):dH bs (ws++[s])=lS (dH bs ws) s:=by rw[CB];rfl
structure EU(B b:Nat)(wide num:Int)(bs:By)(l:List Int)(w:NY)(i:N2)(wr:NY):Prop where
 ex:∃k:Nat,k≤l.length∧i= .int .i64 (k:Int)∧j9 B b (kL wide (l.take k)) num (dH bs (ma (l.take k))) wr
 keep:aK B b w wr
theorem rY(B b c:Nat)(T:Oo)(wide num:Int)(bs:By)(l:List Int)(cap:Nat)(w:NY)(h:j9 B b wide num bs w)(hr:bO w c T (Jw l))(hc:c≠b)(hT:T≠5)
  (hl:∀n∈l,aN n)(hlen:bs.length+21*l.length≤10000000)(hBw:B≤w.heap.size)(hg:Gl w)(hB:9≤B):
  Of prog 118 #[nZ b,.slice (N3 ⟨c,0,N0⟩) l.length cap] w (nV B b (kL wide l) num (dH bs (ma l)) w):=by
 have hll:l.length≤10000000:=Ot
 have HST:=NW (show EU B b wide num bs l w (.int .i64 0) w from⟨⟨0,Ot,rfl,by simp only[List.take_zero];exact h⟩,aK.refl _ _ _⟩)
 have HG:=NW hg
 have HR:=NW hr
 have HL:=NW hl
 clear h hg hr hl
 go_enter func118,ntmps118
 go_wp2
 go_loopw [8] (fun i wr=>EU B b wide num bs l w i wr) (fun i _=>((l.length:Int)-Oh i).toNat)
 case atStart=>exact HST.out
 case round=>
  obtain⟨⟨k,hk,rfl,hw⟩,hkp⟩:=hrel
  have hsz:=hkp.low.size
  by_cases hlt:k<l.length
  ·have hrow:=HR.out.bd hkp hc hT
   have hcell:wr.cell? ⟨c,k,N0⟩=N3 (.int .i64 l[k]):=by rw[hrow.cell];simp[hlt]
   have hin:=HL.out l[k] (List.getElem_mem hlt)
   have hgr:=HG.out.keep hkp.low hB
   have h20:=kW hin
   have hwl:(dH bs (ma (l.take k))).length≤bs.length+21*k:=by
    have:=qM (l:=l.take k) (fun n hn=>HL.out n (List.mem_of_mem_take hn)) bs
    rw[List.length_take] at this
    omega
   have HES:=NW (show kL wide (l.take (k+1))=(if xD l[k] then 2 else kL wide (l.take k))∧dH bs (ma (l.take (k+1)))=lS (dH bs (ma (l.take k))) (Lib.itoa l[k]) by
    rw[mK hlt,BO,F2]
    exact⟨rfl,by show dH bs (_++[Lib.itoa l[k]])=_;rw[zB]⟩)
   obtain⟨n,hn⟩:∃n,l[k]=n:=⟨_,rfl⟩
   rw[hn] at hcell hin h20 HES
   have hnext:∀W',aK B b wr W'→j9 B b (kL wide (l.take (k+1))) num (dH bs (ma (l.take (k+1)))) W'→EU B b wide num bs l w (.int .i64 ((k:Int)+1)) W':=
    fun W' hk' hw'=>⟨⟨k+1,Ot,Ow,hw'⟩,hkp.trans hk'⟩
   have HN:=NW hnext
   have HKP:=NW hkp
   have hc2:=hw.IX
   have hf2:=hw.frozen 2
   clear hn hrow hnext hkp
   obtain⟨hin1,hin2⟩:=hin
   cases ho:xD n with
   |true=>
    have ho':n< -1073741824∨1073741824<n:=by unfold xD at ho;simpa using ho
    have HW:=NW (hw.M8 2)
    have HK:=NW (hw.keep 2 (.int .i64 2))
    have hgr':=NW (hgr.keep HK.out.low hB)
    have hz2:(wr.setCell ⟨b,2,N0⟩ (.int .i64 2)).heap.size=wr.heap.size:=by simp[World.setCell]
    have ci:=NW (fT n (wr.setCell ⟨b,2,N0⟩ (.int .i64 2)) Ot Ot hgr'.out.pow)
    rw[ho] at HES
    clear hw hgr
    rcases ho' with ho'|ho'
    ·go_wp2_with(first|(go_at_call 181;refine ci.out.mono ?_;rintro e W1 ⟨rfl,hB1⟩;have hz1:=hB1.size)|(go_at_call 117;refine(gM B b 2 num _ (Lib.itoa n) W1 (HW.out.below hB1) Ot Ot).mono ?_;rintro e W2 ⟨rfl,hw2,hk2⟩))
     refine⟨HN.out _ ((HK.out.trans (aK.aH hB1 Ot)).trans hk2) (by rw[HES.out.1,HES.out.2];exact hw2),Oy⟩
    ·go_wp2_with(first|(go_at_call 181;refine ci.out.mono ?_;rintro e W1 ⟨rfl,hB1⟩;have hz1:=hB1.size)|(go_at_call 117;refine(gM B b 2 num _ (Lib.itoa n) W1 (HW.out.below hB1) Ot Ot).mono ?_;rintro e W2 ⟨rfl,hw2,hk2⟩))
     refine⟨HN.out _ ((HK.out.trans (aK.aH hB1 Ot)).trans hk2) (by rw[HES.out.1,HES.out.2];exact hw2),Oy⟩
   |false=>
    have ho':¬n< -1073741824∧¬1073741824<n:=by unfold xD at ho;simpa using ho
    obtain⟨ho1,ho2⟩:=ho'
    have HW:=NW hw
    have ci:=NW (fT n wr Ot Ot hgr.pow)
    rw[ho] at HES
    clear hw hgr
    go_wp2_with(first|(go_at_call 181;refine ci.out.mono ?_;rintro e W1 ⟨rfl,hB1⟩;have hz1:=hB1.size)|(go_at_call 117;refine(gM B b _ num _ (Lib.itoa n) W1 (HW.out.below hB1) Ot Ot).mono ?_;rintro e W2 ⟨rfl,hw2,hk2⟩))
    refine⟨HN.out _ ((aK.aH hB1 Ot).trans hk2) (by rw[HES.out.1,HES.out.2];exact hw2),Oy⟩
  ·have e:l.take k=l:=List.take_of_length_le Ot
   rw[e] at hw
   have HW:=NW hw
   have hlt':decide ((k:Int)<(l.length:Int))=N1:=Oz
   clear hw
   go_wp2
   go_end0
   exact⟨rfl,HW.out,hkp⟩
abbrev qo(l:List By):List N2:=l.map (fun a=> .string (tx a))
def IU(s:By)(i:N2):Prop:=∃k:Nat,k≤s.length∧i= .int .i64 (k:Int)∧(s.take k).all qX=Oc
theorem yJ(s:By)(w:NY)(hs:s.length≤1000000):
  Of prog 31 #[.string (tx s)] w fun e w'=>e= .returned (.bool (xL s))∧w'=w:=by
 go_enter func31,ntmps31
 go_wp2
 go_loop [7] (fun i=>IU s i) (fun i=>((s.length:Int)-Oh i).toNat)
 case atStart=>exact⟨0,Ot,rfl,rfl⟩
 case round=>
  obtain⟨k,hk,rfl,hall⟩:=hrel
  by_cases hlt:k<s.length
  ·have hb:k<(tx s).size:=by rw[av];exact hlt
   have hx:(tx s)[k]'hb=s[k]:=rfl
   cases hn:qX s[k] with
   |true=>
    have hnx:IU s (.int .i64 ((k:Int)+1)):=⟨k+1,Ot,Ow,by rw[List.take_succ_eq_append_getElem hlt,List.all_append,hall];simp[hn]⟩
    have HNX:=NW hnx
    have hr:(97≤(((tx s)[k]'hb).toNat:Int)∧(((tx s)[k]'hb).toNat:Int)≤122)∨(65≤(((tx s)[k]'hb).toNat:Int)∧(((tx s)[k]'hb).toNat:Int)≤90)∨(48≤(((tx s)[k]'hb).toNat:Int)∧(((tx s)[k]'hb).toNat:Int)≤57):=by
     rw[hx]
     unfold qX at hn
     simp only[Bool.or_eq_true,Bool.and_eq_true,decide_eq_true_eq] at hn
     omega
    clear hnx hn hall hx
    rcases hr with⟨h1,h2⟩|⟨h1,h2⟩|⟨h1,h2⟩
    ·go_wp2
     all_goals first
      |exact⟨HNX.out,Oy⟩
      |(exfalso;omega)
    ·go_wp2
     all_goals first
      |exact⟨HNX.out,Oy⟩
      |(exfalso;omega)
    ·go_wp2
     all_goals first
      |exact⟨HNX.out,Oy⟩
      |(exfalso;omega)
   |false=>
    have HR:=NW (show xL s=N1 by
     unfold xL
     have:s.all qX=N1:=by
      rw[Bool.eq_false_iff]
      intro h
      rw[List.all_eq_true] at h
      have:=h _ (List.getElem_mem hlt)
      rw[hn] at this;cases this
     rw[this];rfl)
    have hr:((((tx s)[k]'hb).toNat:Int)<48)∨(57<(((tx s)[k]'hb).toNat:Int)∧(((tx s)[k]'hb).toNat:Int)<65)∨(90<(((tx s)[k]'hb).toNat:Int)∧(((tx s)[k]'hb).toNat:Int)<97)∨(122<(((tx s)[k]'hb).toNat:Int)):=by
     rw[hx]
     unfold qX at hn
     simp only[Bool.or_eq_false_iff,Bool.and_eq_false_iff,decide_eq_false_iff_not] at hn
     omega
    clear hn hall hx
    rcases hr with h1|⟨h1,h2⟩|⟨h1,h2⟩|h1
    ·go_wp2
     all_goals first
      |(go_ret;exact⟨OA,rfl⟩)
      |(exfalso;omega)
    ·go_wp2
     all_goals first
      |(go_ret;exact⟨OA,rfl⟩)
      |(exfalso;omega)
    ·go_wp2
     all_goals first
      |(go_ret;exact⟨OA,rfl⟩)
      |(exfalso;omega)
    ·go_wp2
     all_goals first
      |(go_ret;exact⟨OA,rfl⟩)
      |(exfalso;omega)
  ·have e:s.take k=s:=List.take_of_length_le Ot
   rw[e] at hall
   have HA:=NW hall
   have hlt':decide ((k:Int)<(s.length:Int))=N1:=Oz
   clear hall e
   cases s with
   |nil=>
    go_wp2
    go_ret
    exact⟨rfl,rfl⟩
   |cons b r=>
    have HR:=NW (show xL (b::r)=decide ((r.length:Int)+1≤16) by
     unfold xL
     rw[HA.out]
     simp
     omega)
    have hle:(r.length:Int)+1≤(k:Int):=by simp at hlt;omega
    have hlt2:decide ((k:Int)<(r.length:Int)+1)=N1:=Oz
    go_wp2
    go_ret
    exact⟨OA,rfl⟩
end
section
open Kp
theorem cM{T kt et:Oo}{d:TypeDesc}(hm:prog.underlying T=N3 (.map kt et))(hk:prog.underlying kt=N3 d)(w:NY)(es es':Array MapEntry)(c:Nat)(k v:N2)(hi:MapKept.IsKey d k)
  (hf:Instr.findNow d k es.toList 0=N3 N0)(he:es.push {key:=k,val:=v,born:=c}=es'):
  (Instr.mapUpdate T (.map (N3 w.heap.size)) k v).run prog (w.alloc (.map es c))= .ok () (w.alloc (.map es' (c+1))):=by
 have hb:(w.alloc (.map es c)).heap[w.heap.size]?=N3 (.map es c):=NY.alloc_heap_new w _
 have hc:(Instr.checkKey N1 10000 kt k).run prog (w.alloc (.map es c))= .ok () (w.alloc (.map es c)):=MapKept.run_checkKey hk hi N1 9999
 subst he
 simp[Instr.mapUpdate,run_underlying hm,MapKept.run_getObj_map hb,hc,MapKept.run_findKey hk hf,MapKept.run_setObj_map _ hb,Result.andThen]
 unfold NY.alloc
 congr 1
 apply Array.ext_getElem?
 intro k
 simp only[Array.getElem?_setIfInBounds,Array.getElem?_push,Array.size_push]
 by_cases hk:k=w.heap.size
 ·subst hk;simp
 ·simp[hk,Ne.symm hk]
theorem xz{T kt et:Oo}{d:TypeDesc}(hm:prog.underlying T=N3 (.map kt et))(hk:prog.underlying kt=N3 d)(w:NY)(b c:Nat)(es:Array MapEntry)(hb:w.heap[b]?=N3 (.map es c))(k:N2)(hi:MapKept.IsKey d k)(com:Bool)
  {r:Option (Nat×N2)}(hf:Instr.findNow d k es.toList 0=N3 r){z:N2}(hz:(zeroValue et).run prog w= .ok z w):
  (Instr.lookup T (.map (N3 b)) k com).run prog w= .ok (if com then .tuple #[(r.map (·.2)).getD z,.bool r.isSome] else(r.map (·.2)).getD z) w:=by
 have hc:(Instr.checkKey es.isEmpty 10000 kt k).run prog w= .ok () w:=MapKept.run_checkKey hk hi es.isEmpty 9999
 cases r with
 |none=>simp[Instr.lookup,run_underlying hm,MapKept.run_getObj_map hb,hc,MapKept.run_findKey hk hf,hz,Result.andThen]
 |some p=>simp[Instr.lookup,run_underlying hm,MapKept.run_getObj_map hb,hc,MapKept.run_findKey hk hf,Result.andThen]
abbrev Ni:Array MapEntry:=#[]
abbrev Mz:Array MapEntry:=#[{key:= .int .i64 4,val:= .string ⟨#[112,117,114,108,105,110]⟩,born:=0}]
abbrev Lk:Array MapEntry:=#[{key:= .int .i64 4,val:= .string ⟨#[112,117,114,108,105,110]⟩,born:=0},{key:= .int .i64 5,val:= .string ⟨#[111,112,101,110,105,110,103]⟩,born:=1}]
abbrev LU:Array MapEntry:=#[{key:= .int .i64 4,val:= .string ⟨#[112,117,114,108,105,110]⟩,born:=0},{key:= .int .i64 5,val:= .string ⟨#[111,112,101,110,105,110,103]⟩,born:=1},{key:= .int .i64 6,val:= .string ⟨#[115,105,122,101]⟩,born:=2}]
abbrev Mp:Array MapEntry:=#[{key:= .int .i64 4,val:= .string ⟨#[112,117,114,108,105,110]⟩,born:=0},{key:= .int .i64 5,val:= .string ⟨#[111,112,101,110,105,110,103]⟩,born:=1},{key:= .int .i64 6,val:= .string ⟨#[115,105,122,101]⟩,born:=2},{key:= .int .i64 7,val:= .string ⟨#[98,97,114]⟩,born:=3}]
abbrev LZ:Array MapEntry:=#[{key:= .int .i64 4,val:= .string ⟨#[112,117,114,108,105,110]⟩,born:=0},{key:= .int .i64 5,val:= .string ⟨#[111,112,101,110,105,110,103]⟩,born:=1},{key:= .int .i64 6,val:= .string ⟨#[115,105,122,101]⟩,born:=2},{key:= .int .i64 7,val:= .string ⟨#[98,97,114]⟩,born:=3},{key:= .int .i64 10,val:= .string ⟨#[108,111,97,100]⟩,born:=4}]
abbrev EN:Array MapEntry:=#[{key:= .int .i64 4,val:= .string ⟨#[112,117,114,108,105,110]⟩,born:=0},{key:= .int .i64 5,val:= .string ⟨#[111,112,101,110,105,110,103]⟩,born:=1},{key:= .int .i64 6,val:= .string ⟨#[115,105,122,101]⟩,born:=2},{key:= .int .i64 7,val:= .string ⟨#[98,97,114]⟩,born:=3},{key:= .int .i64 10,val:= .string ⟨#[108,111,97,100]⟩,born:=4},{key:= .int .i64 11,val:= .string ⟨#[115,112,97,110]⟩,born:=5}]
abbrev M5:Array MapEntry:=#[]
abbrev Mv:Array MapEntry:=#[{key:= .string ⟨#[110,97,109,101]⟩,val:= .int .i64 1,born:=0}]
abbrev LG:Array MapEntry:=#[{key:= .string ⟨#[110,97,109,101]⟩,val:= .int .i64 1,born:=0},{key:= .string ⟨#[115,105,100,101]⟩,val:= .int .i64 2,born:=1}]
abbrev Me:Array MapEntry:=#[{key:= .string ⟨#[110,97,109,101]⟩,val:= .int .i64 1,born:=0},{key:= .string ⟨#[115,105,100,101]⟩,val:= .int .i64 2,born:=1},{key:= .string ⟨#[115,112,97,99,105,110,103]⟩,val:= .int .i64 3,born:=2}]
abbrev Mr:Array MapEntry:=#[{key:= .string ⟨#[110,97,109,101]⟩,val:= .int .i64 1,born:=0},{key:= .string ⟨#[115,105,100,101]⟩,val:= .int .i64 2,born:=1},{key:= .string ⟨#[115,112,97,99,105,110,103]⟩,val:= .int .i64 3,born:=2},{key:= .string ⟨#[112,117,114,108,105,110]⟩,val:= .int .i64 4,born:=3}]
abbrev LS:Array MapEntry:=#[{key:= .string ⟨#[110,97,109,101]⟩,val:= .int .i64 1,born:=0},{key:= .string ⟨#[115,105,100,101]⟩,val:= .int .i64 2,born:=1},{key:= .string ⟨#[115,112,97,99,105,110,103]⟩,val:= .int .i64 3,born:=2},{key:= .string ⟨#[112,117,114,108,105,110]⟩,val:= .int .i64 4,born:=3},{key:= .string ⟨#[111,112,101,110,105,110,103]⟩,val:= .int .i64 5,born:=4}]
abbrev Md:Array MapEntry:=#[{key:= .string ⟨#[110,97,109,101]⟩,val:= .int .i64 1,born:=0},{key:= .string ⟨#[115,105,100,101]⟩,val:= .int .i64 2,born:=1},{key:= .string ⟨#[115,112,97,99,105,110,103]⟩,val:= .int .i64 3,born:=2},{key:= .string ⟨#[112,117,114,108,105,110]⟩,val:= .int .i64 4,born:=3},{key:= .string ⟨#[111,112,101,110,105,110,103]⟩,val:= .int .i64 5,born:=4},{key:= .string ⟨#[115,105,122,101]⟩,val:= .int .i64 6,born:=5}]
abbrev Ll:Array MapEntry:=#[{key:= .string ⟨#[110,97,109,101]⟩,val:= .int .i64 1,born:=0},{key:= .string ⟨#[115,105,100,101]⟩,val:= .int .i64 2,born:=1},{key:= .string ⟨#[115,112,97,99,105,110,103]⟩,val:= .int .i64 3,born:=2},{key:= .string ⟨#[112,117,114,108,105,110]⟩,val:= .int .i64 4,born:=3},{key:= .string ⟨#[111,112,101,110,105,110,103]⟩,val:= .int .i64 5,born:=4},{key:= .string ⟨#[115,105,122,101]⟩,val:= .int .i64 6,born:=5},{key:= .string ⟨#[98,97,114]⟩,val:= .int .i64 7,born:=6}]
abbrev LK:Array MapEntry:=#[{key:= .string ⟨#[110,97,109,101]⟩,val:= .int .i64 1,born:=0},{key:= .string ⟨#[115,105,100,101]⟩,val:= .int .i64 2,born:=1},{key:= .string ⟨#[115,112,97,99,105,110,103]⟩,val:= .int .i64 3,born:=2},{key:= .string ⟨#[112,117,114,108,105,110]⟩,val:= .int .i64 4,born:=3},{key:= .string ⟨#[111,112,101,110,105,110,103]⟩,val:= .int .i64 5,born:=4},{key:= .string ⟨#[115,105,122,101]⟩,val:= .int .i64 6,born:=5},{key:= .string ⟨#[98,97,114]⟩,val:= .int .i64 7,born:=6},{key:= .string ⟨#[107,101,114,102]⟩,val:= .int .i64 8,born:=7}]
abbrev Ls:Array MapEntry:=#[{key:= .string ⟨#[110,97,109,101]⟩,val:= .int .i64 1,born:=0},{key:= .string ⟨#[115,105,100,101]⟩,val:= .int .i64 2,born:=1},{key:= .string ⟨#[115,112,97,99,105,110,103]⟩,val:= .int .i64 3,born:=2},{key:= .string ⟨#[112,117,114,108,105,110]⟩,val:= .int .i64 4,born:=3},{key:= .string ⟨#[111,112,101,110,105,110,103]⟩,val:= .int .i64 5,born:=4},{key:= .string ⟨#[115,105,122,101]⟩,val:= .int .i64 6,born:=5},{key:= .string ⟨#[98,97,114]⟩,val:= .int .i64 7,born:=6},{key:= .string ⟨#[107,101,114,102]⟩,val:= .int .i64 8,born:=7},{key:= .string ⟨#[116,105,108,101]⟩,val:= .int .i64 9,born:=8}]
abbrev Jb:Array MapEntry:=#[{key:= .string ⟨#[110,97,109,101]⟩,val:= .int .i64 1,born:=0},{key:= .string ⟨#[115,105,100,101]⟩,val:= .int .i64 2,born:=1},{key:= .string ⟨#[115,112,97,99,105,110,103]⟩,val:= .int .i64 3,born:=2},{key:= .string ⟨#[112,117,114,108,105,110]⟩,val:= .int .i64 4,born:=3},{key:= .string ⟨#[111,112,101,110,105,110,103]⟩,val:= .int .i64 5,born:=4},{key:= .string ⟨#[115,105,122,101]⟩,val:= .int .i64 6,born:=5},{key:= .string ⟨#[98,97,114]⟩,val:= .int .i64 7,born:=6},{key:= .string ⟨#[107,101,114,102]⟩,val:= .int .i64 8,born:=7},{key:= .string ⟨#[116,105,108,101]⟩,val:= .int .i64 9,born:=8},{key:= .string ⟨#[108,111,97,100]⟩,val:= .int .i64 10,born:=9}]
abbrev IN:Array MapEntry:=#[{key:= .string ⟨#[110,97,109,101]⟩,val:= .int .i64 1,born:=0},{key:= .string ⟨#[115,105,100,101]⟩,val:= .int .i64 2,born:=1},{key:= .string ⟨#[115,112,97,99,105,110,103]⟩,val:= .int .i64 3,born:=2},{key:= .string ⟨#[112,117,114,108,105,110]⟩,val:= .int .i64 4,born:=3},{key:= .string ⟨#[111,112,101,110,105,110,103]⟩,val:= .int .i64 5,born:=4},{key:= .string ⟨#[115,105,122,101]⟩,val:= .int .i64 6,born:=5},{key:= .string ⟨#[98,97,114]⟩,val:= .int .i64 7,born:=6},{key:= .string ⟨#[107,101,114,102]⟩,val:= .int .i64 8,born:=7},{key:= .string ⟨#[116,105,108,101]⟩,val:= .int .i64 9,born:=8},{key:= .string ⟨#[108,111,97,100]⟩,val:= .int .i64 10,born:=9},{key:= .string ⟨#[115,112,97,110]⟩,val:= .int .i64 11,born:=10}]
abbrev o8:Array MapEntry:=#[{key:= .string ⟨#[110,97,109,101]⟩,val:= .int .i64 1,born:=0},{key:= .string ⟨#[115,105,100,101]⟩,val:= .int .i64 2,born:=1},{key:= .string ⟨#[115,112,97,99,105,110,103]⟩,val:= .int .i64 3,born:=2},{key:= .string ⟨#[112,117,114,108,105,110]⟩,val:= .int .i64 4,born:=3},{key:= .string ⟨#[111,112,101,110,105,110,103]⟩,val:= .int .i64 5,born:=4},{key:= .string ⟨#[115,105,122,101]⟩,val:= .int .i64 6,born:=5},{key:= .string ⟨#[98,97,114]⟩,val:= .int .i64 7,born:=6},{key:= .string ⟨#[107,101,114,102]⟩,val:= .int .i64 8,born:=7},{key:= .string ⟨#[116,105,108,101]⟩,val:= .int .i64 9,born:=8},{key:= .string ⟨#[108,111,97,100]⟩,val:= .int .i64 10,born:=9},{key:= .string ⟨#[115,112,97,110]⟩,val:= .int .i64 11,born:=10},{key:= .string ⟨#[114,101,109,111,118,101]⟩,val:= .int .i64 12,born:=11}]
theorem nA(w:NY):Of prog 59 #[] w fun e w'=>e= .returned (.map (N3 w.heap.size))∧w'=w.alloc (.map EN 6):=by
 have hmm:=@run_makeMap prog
 have u0:=cM (T:=103) underlying103 underlying3 w Ni Mz 0 (.int .i64 4) (.string ⟨#[112,117,114,108,105,110]⟩) OM rfl rfl
 have u1:=cM (T:=103) underlying103 underlying3 w Mz Lk 1 (.int .i64 5) (.string ⟨#[111,112,101,110,105,110,103]⟩) OM rfl rfl
 have u2:=cM (T:=103) underlying103 underlying3 w Lk LU 2 (.int .i64 6) (.string ⟨#[115,105,122,101]⟩) OM rfl rfl
 have u3:=cM (T:=103) underlying103 underlying3 w LU Mp 3 (.int .i64 7) (.string ⟨#[98,97,114]⟩) OM rfl rfl
 have u4:=cM (T:=103) underlying103 underlying3 w Mp LZ 4 (.int .i64 10) (.string ⟨#[108,111,97,100]⟩) OM rfl rfl
 have u5:=cM (T:=103) underlying103 underlying3 w LZ EN 5 (.int .i64 11) (.string ⟨#[115,112,97,110]⟩) OM rfl rfl
 go_enter func59,ntmps59
 go_wp2
 go_ret
 exact⟨rfl,rfl⟩
theorem yy(w:NY):Of prog 121 #[] w fun e w'=>e= .returned (.map (N3 w.heap.size))∧w'=w.alloc (.map o8 12):=by
 have hmm:=@run_makeMap prog
 have u0:=cM (T:=155) underlying155 underlying9 w M5 Mv 0 (.string ⟨#[110,97,109,101]⟩) (.int .i64 1) OM Ou rfl
 have u1:=cM (T:=155) underlying155 underlying9 w Mv LG 1 (.string ⟨#[115,105,100,101]⟩) (.int .i64 2) OM Ou rfl
 have u2:=cM (T:=155) underlying155 underlying9 w LG Me 2 (.string ⟨#[115,112,97,99,105,110,103]⟩) (.int .i64 3) OM Ou rfl
 have u3:=cM (T:=155) underlying155 underlying9 w Me Mr 3 (.string ⟨#[112,117,114,108,105,110]⟩) (.int .i64 4) OM Ou rfl
 have u4:=cM (T:=155) underlying155 underlying9 w Mr LS 4 (.string ⟨#[111,112,101,110,105,110,103]⟩) (.int .i64 5) OM Ou rfl
 have u5:=cM (T:=155) underlying155 underlying9 w LS Md 5 (.string ⟨#[115,105,122,101]⟩) (.int .i64 6) OM Ou rfl
 have u6:=cM (T:=155) underlying155 underlying9 w Md Ll 6 (.string ⟨#[98,97,114]⟩) (.int .i64 7) OM Ou rfl
 have u7:=cM (T:=155) underlying155 underlying9 w Ll LK 7 (.string ⟨#[107,101,114,102]⟩) (.int .i64 8) OM Ou rfl
 have u8:=cM (T:=155) underlying155 underlying9 w LK Ls 8 (.string ⟨#[116,105,108,101]⟩) (.int .i64 9) OM Ou rfl
 have u9:=cM (T:=155) underlying155 underlying9 w Ls Jb 9 (.string ⟨#[108,111,97,100]⟩) (.int .i64 10) OM Ou rfl
 have u10:=cM (T:=155) underlying155 underlying9 w Jb IN 10 (.string ⟨#[115,112,97,110]⟩) (.int .i64 11) OM Ou rfl
 have u11:=cM (T:=155) underlying155 underlying9 w IN o8 11 (.string ⟨#[114,101,109,111,118,101]⟩) (.int .i64 12) OM Ou rfl
 go_enter func121,ntmps121
 go_wp2
 go_ret
 exact⟨rfl,rfl⟩
theorem DC(n:Int):Instr.findNow (.int .i64) (.int .i64 n) EN.toList 0=N3 (if n=4 then N3 (0,.string (tx fJ)) else if n=5 then N3 (1,.string (tx ew)) else if n=6 then N3 (2,.string (tx kN)) else if n=7 then N3 (3,.string (tx qH)) else if n=10 then N3 (4,.string (tx kE)) else if n=11 then N3 (5,.string (tx kD)) else N0):=by
 simp only[Instr.findNow,Instr.sameNow,if_true]
 by_cases h4:n=4
 ·subst h4;rfl
 by_cases h5:n=5
 ·subst h5;rfl
 by_cases h6:n=6
 ·subst h6;rfl
 by_cases h7:n=7
 ·subst h7;rfl
 by_cases h10:n=10
 ·subst h10;rfl
 by_cases h11:n=11
 ·subst h11;rfl
 have b4:(n==4)=N1:=by simpa using h4
 have b5:(n==5)=N1:=by simpa using h5
 have b6:(n==6)=N1:=by simpa using h6
 have b7:(n==7)=N1:=by simpa using h7
 have b10:(n==10)=N1:=by simpa using h10
 have b11:(n==11)=N1:=by simpa using h11
 simp[b4,b5,b6,b7,b10,b11,h4,h5,h6,h7,h10,h11]
theorem wM(w:NY)(b c:Nat)(hb:w.heap[b]?=N3 (.map EN c))(n:Int)(com:Bool):
  (Instr.lookup 103 (.map (N3 b)) (.int .i64 n) com).run prog w= .ok (if com then .tuple #[.string (tx (ti n)),.bool (sF n)] else .string (tx (ti n))) w:=by
 have hz:(zeroValue 9).run prog w= .ok (.string ⟨#[]⟩) w:=Ou
 rw[xz underlying103 underlying3 w b c EN hb (.int .i64 n) OM com (DC n) hz]
 unfold ti sF
 congr 1
 by_cases h4:n=4
 ·subst h4;rfl
 by_cases h5:n=5
 ·subst h5;rfl
 by_cases h6:n=6
 ·subst h6;rfl
 by_cases h7:n=7
 ·subst h7;rfl
 by_cases h10:n=10
 ·subst h10;rfl
 by_cases h11:n=11
 ·subst h11;rfl
 have hb:(n==4||n==5||n==6||n==7||n==10||n==11)=N1:=by simp[h4,h5,h6,h7,h10,h11]
 rw[hb]
 simp only[h4,h5,h6,h7,h10,h11,if_false]
 rfl
theorem gA(a b:By):(tx a==tx b)=decide (a=b):=by
 rw[beq_toListBytes,ByteArray.toList_eq,ByteArray.toList_eq,bE,bE,Bool.eq_iff_iff]
 simp
theorem Dc(s:By):Instr.findNow .string (.string (tx s)) o8.toList 0=N3 (if s=pM then N3 (0,.int .i64 1) else if s=pq then N3 (1,.int .i64 2) else if s=gO then N3 (2,.int .i64 3) else if s=fJ then N3 (3,.int .i64 4) else if s=ew then N3 (4,.int .i64 5) else if s=kN then N3 (5,.int .i64 6) else if s=qH then N3 (6,.int .i64 7) else if s=mc then N3 (7,.int .i64 8) else if s=oN then N3 (8,.int .i64 9) else if s=kE then N3 (9,.int .i64 10) else if s=kD then N3 (10,.int .i64 11) else if s=eS then N3 (11,.int .i64 12) else N0):=by
 have bname:(tx s==⟨#[110,97,109,101]⟩)=decide (s=pM):=gA s pM
 have bside:(tx s==⟨#[115,105,100,101]⟩)=decide (s=pq):=gA s pq
 have bspacing:(tx s==⟨#[115,112,97,99,105,110,103]⟩)=decide (s=gO):=gA s gO
 have bpurlin:(tx s==⟨#[112,117,114,108,105,110]⟩)=decide (s=fJ):=gA s fJ
 have bopening:(tx s==⟨#[111,112,101,110,105,110,103]⟩)=decide (s=ew):=gA s ew
 have bsize:(tx s==⟨#[115,105,122,101]⟩)=decide (s=kN):=gA s kN
 have bbar:(tx s==⟨#[98,97,114]⟩)=decide (s=qH):=gA s qH
 have bkerf:(tx s==⟨#[107,101,114,102]⟩)=decide (s=mc):=gA s mc
 have btile:(tx s==⟨#[116,105,108,101]⟩)=decide (s=oN):=gA s oN
 have bload:(tx s==⟨#[108,111,97,100]⟩)=decide (s=kE):=gA s kE
 have bspan:(tx s==⟨#[115,112,97,110]⟩)=decide (s=kD):=gA s kD
 have bremove:(tx s==⟨#[114,101,109,111,118,101]⟩)=decide (s=eS):=gA s eS
 simp only[Instr.findNow,Instr.sameNow,bname,bside,bspacing,bpurlin,bopening,bsize,bbar,bkerf,btile,bload,bspan,bremove]
 by_cases hname:s=pM
 ·rw[if_pos hname];simp only[decide_eq_true hname]
 rw[if_neg hname];simp only[decide_eq_false hname]
 by_cases hside:s=pq
 ·rw[if_pos hside];simp only[decide_eq_true hside]
 rw[if_neg hside];simp only[decide_eq_false hside]
 by_cases hspacing:s=gO
 ·rw[if_pos hspacing];simp only[decide_eq_true hspacing]
 rw[if_neg hspacing];simp only[decide_eq_false hspacing]
 by_cases hpurlin:s=fJ
 ·rw[if_pos hpurlin];simp only[decide_eq_true hpurlin]
 rw[if_neg hpurlin];simp only[decide_eq_false hpurlin]
 by_cases hopening:s=ew
 ·rw[if_pos hopening];simp only[decide_eq_true hopening]
 rw[if_neg hopening];simp only[decide_eq_false hopening]
 by_cases hsize:s=kN
 ·rw[if_pos hsize];simp only[decide_eq_true hsize]
 rw[if_neg hsize];simp only[decide_eq_false hsize]
 by_cases hbar:s=qH
 ·rw[if_pos hbar];simp only[decide_eq_true hbar]
 rw[if_neg hbar];simp only[decide_eq_false hbar]
 by_cases hkerf:s=mc
 ·rw[if_pos hkerf];simp only[decide_eq_true hkerf]
 rw[if_neg hkerf];simp only[decide_eq_false hkerf]
 by_cases htile:s=oN
 ·rw[if_pos htile];simp only[decide_eq_true htile]
 rw[if_neg htile];simp only[decide_eq_false htile]
 by_cases hload:s=kE
 ·rw[if_pos hload];simp only[decide_eq_true hload]
 rw[if_neg hload];simp only[decide_eq_false hload]
 by_cases hspan:s=kD
 ·rw[if_pos hspan];simp only[decide_eq_true hspan]
 rw[if_neg hspan];simp only[decide_eq_false hspan]
 by_cases hremove:s=eS
 ·rw[if_pos hremove];simp only[decide_eq_true hremove]
 rw[if_neg hremove];simp only[decide_eq_false hremove]
theorem EK(w:NY)(b c:Nat)(hb:w.heap[b]?=N3 (.map o8 c))(s:By):
  (Instr.lookup 155 (.map (N3 b)) (.string (tx s)) N1).run prog w= .ok (.int .i64 (kindOf s)) w:=by
 have hz:(zeroValue 3).run prog w= .ok (.int .i64 0) w:=Ou
 rw[xz underlying155 underlying9 w b c o8 hb (.string (tx s)) OM N1 (Dc s) hz]
 unfold kindOf
 congr 1
 by_cases hname:s=pM
 ·rw[if_pos hname,if_pos hname];rfl
 rw[if_neg hname,if_neg hname]
 by_cases hside:s=pq
 ·rw[if_pos hside,if_pos hside];rfl
 rw[if_neg hside,if_neg hside]
 by_cases hspacing:s=gO
 ·rw[if_pos hspacing,if_pos hspacing];rfl
 rw[if_neg hspacing,if_neg hspacing]
 by_cases hpurlin:s=fJ
 ·rw[if_pos hpurlin,if_pos hpurlin];rfl
 rw[if_neg hpurlin,if_neg hpurlin]
 by_cases hopening:s=ew
 ·rw[if_pos hopening,if_pos hopening];rfl
 rw[if_neg hopening,if_neg hopening]
 by_cases hsize:s=kN
 ·rw[if_pos hsize,if_pos hsize];rfl
 rw[if_neg hsize,if_neg hsize]
 by_cases hbar:s=qH
 ·rw[if_pos hbar,if_pos hbar];rfl
 rw[if_neg hbar,if_neg hbar]
 by_cases hkerf:s=mc
 ·rw[if_pos hkerf,if_pos hkerf];rfl
 rw[if_neg hkerf,if_neg hkerf]
 by_cases htile:s=oN
 ·rw[if_pos htile,if_pos htile];rfl
 rw[if_neg htile,if_neg htile]
 by_cases hload:s=kE
 ·rw[if_pos hload,if_pos hload];rfl
 rw[if_neg hload,if_neg hload]
 by_cases hspan:s=kD
 ·rw[if_pos hspan,if_pos hspan];rfl
 rw[if_neg hspan,if_neg hspan]
 by_cases hremove:s=eS
 ·rw[if_pos hremove,if_pos hremove];rfl
 rw[if_neg hremove,if_neg hremove]
 rfl
end
section
open Kp
attribute [local go_sem] PT P6 Qv QL QJ Qy QH QD QC QO QB Qc Qa Qn Qk Qj P8 P9 P3 P5 PX PZ P4 PW Qm Qe Qg P7 Qp Qr Qb Ql Qs Qh Qf Qu PV PY
def fj(w:NY)(c:Nat)(e:Ed)(g:N2):Prop:=w.heap[c]?=N3 (.cells (aG e g) 50 (0,0))
theorem fj.cell{w:NY}{c:Nat}{e:Ed}{g:N2}(h:fj w c e g)(i:Nat):w.cell? ⟨c,i,N0⟩=(aG e g)[i]?:=by unfold fj at h;simp[World.cell?,h]
theorem fj.bd{B b c:Nat}{e:Ed}{g:N2}{w w':NY}(h:fj w c e g)(hk:aK B b w w')(hc:c≠b):fj w' c e g:=
 hk.kept c _ h (fun e=>hc (by cases e;rfl)) (fun cs fz e=>by cases e)
theorem fj.below{w w':NY}{c:Nat}{e:Ed}{g:N2}{B0:Nat}(h:fj w c e g)(hb:On B0 w w')(hc:c<B0):fj w' c e g:=(hb.block c hc).trans h
theorem fj.lt{w:NY}{c:Nat}{e:Ed}{g:N2}(h:fj w c e g):c<w.heap.size:=(Od.1 h).1
theorem fj.new(w:NY)(e:Ed)(g:N2):fj (w.alloc (.cells (aG e g) 50)) w.heap.size e g:=NY.alloc_heap_new w _
theorem fj.alloc{w:NY}{c:Nat}{e:Ed}{g:N2}(h:fj w c e g)(o:Obj):fj (w.alloc o) c e g:=(Below.heap_alloc w o c h.lt).trans h
theorem bO.new(w:NY)(T:Oo)(l:List N2):bO (w.alloc (.cells l.toArray T)) w.heap.size T l:=NY.alloc_heap_new w _
theorem j9.alloc{B b:Nat}{wide num:Int}{bs:By}{w:NY}(h:j9 B b wide num bs w)(o:Obj):j9 B b wide num bs (w.alloc o):=h.below ((Below.refl _ _).alloc (NZ _) _)
theorem aK.alloc{B b:Nat}(w:NY)(hB:B≤w.heap.size)(o:Obj):aK B b w (w.alloc o):=aK.aH ((Below.refl _ _).alloc (NZ _) _) hB
structure Ea(e:Ed):Prop where
 ints:∀n∈gh e,aN n
 nums:∀a∈numsOf e,a.length≤1000
 text:e.text.length≤1000
def Au(B b:Nat)(e:Ed)(w:NY)(r:Ending)(w':NY):Prop:=nV B b (kL 0 (gh e)) (ML bG 0 (numsOf e)) (dH [] (fL e)) w r w'
theorem IF(B b:Nat)(e:Ed)(ga:Option Addr)(gl gc:Nat)(w:NY)(h:j9 B b 0 0 [] w)(hs:Ea e)(hk:e.kind=8)(hg:Gl w)(hB:9≤B)(hBw:B≤w.heap.size):
  Of prog 61 #[nZ b,.agg (aG e (.slice ga gl gc))] w (Au B b e w):=by
 have k1:(e.kind==1)=N1:=O1
 have k2:(e.kind==2)=N1:=O1
 have k3:(e.kind==3)=N1:=O1
 have k4:(e.kind==4)=N1:=O1
 have k5:(e.kind==5)=N1:=O1
 have k6:(e.kind==6)=N1:=O1
 have k7:(e.kind==7)=N1:=O1
 have k8:(e.kind==8)=Oc:=O1
 have k9:(e.kind==9)=N1:=O1
 have k10:(e.kind==10)=N1:=O1
 have k11:(e.kind==11)=N1:=O1
 have k12:(e.kind==12)=N1:=O1
 have HI:=NW (show gh e=[e.number] by unfold gh;rw[hk];simp)
 have HNM:=NW (show numsOf e=[] by unfold numsOf;rw[hk];simp)
 have HH:=NW (show lB e=[mc] by unfold lB;rw[hk];simp)
 have hin:∀n∈([e.number]:List Int),aN n:=by have:=hs.ints;rw[HI.out] at this;exact this
 have hnu:∀a∈([]:List By),a.length≤1000:=by have:=hs.nums;rw[HNM.out] at this;exact this
 have htx:=hs.text
 have hbl:=h.lt
 have HA:=NW (h.alloc (.cells (aG e (.slice ga gl gc)) 50))
 have E0:=NW (fj.new w e (.slice ga gl gc))
 have HK0:=NW (aK.alloc (B:=B) (b:=b) w hBw (.cells (aG e (.slice ga gl gc)) 50))
 have HG:=NW hg
 have HIN:=NW hin
 have HNU:=NW hnu
 clear h hs hg hk hin hnu
 go_enter func61,ntmps61
 go_wp2_with(first
  |(go_at_call 117;refine(gM B b 0 0 [] mc _ HA.out Ov OB).mono ?_;rintro r W1 ⟨rfl,hw1,hk1⟩;have E1:=NW (E0.out.bd hk1 Ot);have ec1:=fun i=>E1.out.cell i;have hz1:=hk1.low.size;simp only[Oi] at hz1;have HW1:=NW hw1;have HK1:=NW (HK0.out.trans hk1);clear hw1 hk1)
  |(go_at_call 118;go_must(refine(rY B b _ 3 0 0 _ [e.number] _ _ (HW1.out.alloc _) (bO.new W1 _ (Jw [e.number])) (by have:=HW1.out.lt;omega) Ov HIN.out (by show _+21*1≤_;decide) OB ((HG.out.keep HK1.out.low hB).keep ((Below.refl _ _).alloc (NZ _) _) Ot) hB).mono ?_);rintro r W2 ⟨rfl,hw2,hk2⟩))
 go_end0
 refine⟨rfl,?_,(HK1.out.trans (aK.alloc W1 Ot _)).trans hk2⟩
 rw[HI.out,HNM.out]
 unfold fL
 rw[HI.out,HNM.out,HH.out]
 simp only[List.append_nil]
 exact hw2
end
end Go.Proofs.YtnpihidbkhehjaaGreatDoor
