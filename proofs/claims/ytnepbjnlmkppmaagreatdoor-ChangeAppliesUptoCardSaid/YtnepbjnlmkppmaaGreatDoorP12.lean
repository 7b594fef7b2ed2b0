/- ChangeApplies of kingpostlaw58: part 12 of its proof (merged and shortened by program). -/
import Derived.Test.YtnepbjnlmkppmaaGreatDoorP08
import Derived.Test.YtnepbjnlmkppmaaGreatDoorP10
import Derived.Test.YtnepbjnlmkppmaaGreatDoorP20
set_option linter.unusedVariables false
set_option linter.unusedSimpArgs false
set_option linter.defProp false
set_option maxHeartbeats 8000000
set_option maxRecDepth 100000
open Go.RowKit Go.Shelf Go.Proofs.Tryz
open Bool renaming false→O,true→Y
open Decidable renaming decide→YG
open Go renaming World→U,undef→M,Value→Z,Calls→XY,TypeId→Yj,maxLen→Yk,Addr→Ym
open Go.Ending renaming returned→YC
open Go.IntKind renaming i64→F
open Go.IntWalk renaming i64_in→Yh
open Go.Lib renaming hid→A
open Go.Proofs.Tryz renaming prog→Xz,underlying34→XA
open Go.RowKit renaming intOf→Yf,Below→Yl
open Go.Value renaming slice→V,string→Yy,bool→Yz,pointer→YA,int→G,agg→YE,tuple→YF
open Go.World renaming alloc_heap_new→XZ,size_alloc→Ya
open List renaming getD_eq_getElem?_getD→XJ,getElem?_eq_getElem→XO,length_map→XP,length_append→Yc,length→ln
open Nat renaming le_refl→XE,mul_comm→Yd,le_trans→Ye
open Option renaming none→I,some→L
open Go.Proofs.YtnepbjnlmkppmaaGreatDoor
variable{c s:Bool}{z b t a:ByteArray}{l:List Nat}{Q n f k:Nat}{N:Option Ym}{p:Prop}{w:U}
namespace Go.Proofs.YtnepbjnlmkppmaaGreatDoor
section
open Kp
theorem O5{B:Nat}{l:List (Int×Int)}(h:bR 2 w B N Q (eN l))(a:0<ln l):
  ∃b off,N=L ⟨b,off,I⟩/\b<B/\∀i,i<ln l->w.cell? ⟨b,off+i*2,I⟩=L (G F (l.getD i (0,0)).1)/\w.cell? ⟨b,off+i*2+1,I⟩=L (G F (l.getD i (0,0)).2):=by
 obtain⟨h1,h2,d⟩:=h;obtain⟨b,off,e,g,c⟩:=d (by rw[XP];exact a);refine⟨b,off,e,g,λi hi=> ?_⟩;have q:∀m,m<2->w.cell? ⟨b,off+i*2+m,I⟩=(VV (l.getD i (0,0)))[m]?:=by
  intro m f;have:=c i Z6 m f;rw[pn hi,Yd] at this;exact this
 exact⟨q 0 YK,q 1 YK⟩
theorem pP{B:Nat}{l:List Br}(h:iT w B N Q l)(a:0<ln l):
  ∃b off,∃f:Nat->Option Ym×Nat,N=L ⟨b,off,I⟩/\b<B/\∀i,i<ln l->(∀m,m<6->w.cell? ⟨b,off+i*6+m,I⟩=(yj (l.getD i pV) (f i).1 (f i).2)[m]?)/\bR 2 w B (f i).1 (f i).2 (eN (l.getD i pV).gaps):=by
 obtain⟨b,off,e,k,c⟩:=h.2.2 a;have hx:∀i,∃p:Option Ym×Nat,i<ln l->(∀m,m<6->w.cell? ⟨b,off+i*6+m,I⟩=(yj (l.getD i pV) p.1 p.2)[m]?)/\bR 2 w B p.1 p.2 (eN (l.getD i pV).gaps):=by
  intro i;by_cases hi:i<ln l
  ·obtain⟨g,j,h1,h2⟩:=c i hi;exact⟨(g,j),λ_=>⟨λm d=>by have:=h1 m d;rw[Yd] at this;exact this,h2⟩⟩
  ·exact⟨(I,0),λh=>absurd h hi⟩
 obtain⟨f,n⟩:=Classical.axiomOfChoice hx;exact⟨b,off,f,e,k,n⟩
end
section
open Kp
structure IL(l:List Br):Prop where
 n:ln l<=66
def D8 (w : U) (N : Option Ym) (Q : Nat) (l : List Br) (a : iT w w.heap.size N Q l) :
    XY Xz 15 #[V N (ln l) Q] w λx w' => ky (IL l) x /\ Ext w w' := by
  have h1 := a.1;have h2 := a.2.1;unfold Yk at h2;have s := A (λ(W : U) (hx : Ext w W) => ((a.below hx).more hx.size : iT W W.heap.size N Q l));clear a;obtain ⟨o, C⟩ : ∃ p, YG ((ln l : Int) > 6) = p := ⟨_, H⟩;obtain ⟨q, E⟩ : ∃ p, YG ((ln l : Int) <= 64) = p := ⟨_, H⟩;obtain ⟨r, t⟩ : ∃ p, YG ((ln l : Int) > 66) = p := ⟨_, H⟩;have B := A t;cases r with
  | true =>
    have u := A (show ∀ (b : Bool), b = Y -> ky (IL l) (YC (Yz b)) fromλ_ h => ⟨_, rfl, λh2 => by rw [h] at h2; cases h2⟩);cases o <;> cases q
    all_goals
      go_enter func15, ntmps15;go_wp2;go_ret;exact ⟨u.o _ H, XI _ _⟩
  | false =>
    have e := A (show ∀ (b : Bool), ky (IL l) (YC (Yz b)) fromλ_ => ⟨_, rfl, λ_ => ⟨by have := Yp B.o; omega⟩⟩);cases o <;> cases q
    all_goals
      go_enter func15, ntmps15
      first
        | (go_wp2
           go_ret;exact ⟨e.o _, XI _ _⟩)
        | (go_wp2
           go_loopw [3] (λi wr => ∃ k : Nat, i =G F (k : Int) /\ k <= ln l /\ Ext w wr) (λi _ => ((ln l : Int) - Yf i).toNat)
           case atStart => exact ⟨0, H, D, XI _ _⟩
           case round =>
             obtain ⟨k, rfl, hk, d⟩ := hrel;have c := A d;by_cases y : k < ln l
             · obtain ⟨b, off, f, rfl, v, m⟩ := pP (s.o _ d) D
               have g := (m k y).1 5 YK;have z : _ = L (Value.slice (f k).1 (l.getD k pV).gaps.length (f k).2) := g;obtain ⟨n, j⟩ : ∃ n, (l.getD k pV).gaps.length = n := ⟨_, H⟩;rw [j] at z;clear g d m j v;go_wp2
               · go_ret
                 exact ⟨e.o _, c.o⟩
               · exact ⟨⟨k + 1, by go_num, D, c.o⟩, Zw⟩
             · obtain rfl : k = ln l := by omega
               go_wp2;go_ret;exact ⟨e.o _, c.o⟩)
structure IW(n:Nat):Prop where
 n:n<=4098
def Ev(w:U)(N:Option Ym)(Q n:Nat):
  XY Xz 17 #[V N n Q] w λx w'=>ky (IW n) x/\w'=w:=by
 obtain⟨a,j⟩:=aa (YG ((n:Int)>12));obtain⟨c,k⟩:=aa (YG ((n:Int)<=4096));obtain⟨d,f⟩:=aa (YG ((n:Int)>4098));have e:=A f;cases d with
 |true=>
  have g:=A (show∀(b:Bool),b=Y->ky (IW n) (YC (Yz b)) fromλ_ h=>⟨_,rfl,λh2=>by rw[h] at h2;cases h2⟩);cases a<;>cases c
  all_goals
   go_enter func17,ntmps17;go_wp2;go_ret;exact⟨g.o _ H,H⟩
 |false=>
  have i:=A (show∀(b:Bool),ky (IW n) (YC (Yz b)) fromλ_=>⟨_,rfl,λ_=>⟨by have:=Yp e.o;omega⟩⟩);cases a<;>cases c
  all_goals
   go_enter func17,ntmps17;go_wp2;go_ret;exact⟨i.o _,H⟩
end
section
open Kp
structure I8(l:List Ld):Prop where
 n:ln l<=66
 w:∀i,i<ln l->(l.getD i pO).weight.length<=50
theorem Dc{B:Nat}{l:List Ld}(h:bR 3 w B N Q (bG l))(d:0<ln l):
  ∃b off,N=L ⟨b,off,I⟩/\b<B/\∀i,i<ln l->w.cell? ⟨b,off+i*3,I⟩=L (G F (l.getD i pO).kind)/\w.cell? ⟨b,off+i*3+1,I⟩=L (G F (l.getD i pO).side)/\w.cell? ⟨b,off+i*3+2,I⟩=L (Yy (tx (l.getD i pO).weight)):=by
 obtain⟨h1,h2,f⟩:=h;obtain⟨b,off,e,g,a⟩:=f (by rw[XP];exact d);refine⟨b,off,e,g,λi hi=> ?_⟩;have c:(bG l).getD i []=MK (l.getD i pO):=by simp[List.getD,XO hi]
 have q:∀m,m<3->w.cell? ⟨b,off+i*3+m,I⟩=(MK (l.getD i pO))[m]?:=by
  exact a2N
 exact⟨q 0 YK,q 1 YK,q 2 YK⟩
def zW (w : U) (N : Option Ym) (Q : Nat) (l : List Ld) (a : bR 3 w w.heap.size N Q (bG l)) :
    XY Xz 16 #[V N (ln l) Q] w λx w' => ky (I8 l) x /\ Ext w w' := by
  have h1 := a.1;have h2 := a.2.1;rw [XP] at h1;unfold Yk at h2;have y := A (λ(W : U) (hx : Ext w W) => ((a.below hx).more hx.size : bR 3 W W.heap.size N Q (bG l)));clear a;have j := A (show ky (I8 l) (YC (Yz Y)) from ⟨_, H, λh => YM⟩);obtain ⟨t, R⟩ : ∃ p, YG ((ln l : Int) > 8) = p := ⟨_, H⟩;obtain ⟨u, S⟩ : ∃ p, YG ((ln l : Int) <= 64) = p := ⟨_, H⟩;obtain ⟨v, z⟩ : ∃ p, YG ((ln l : Int) > 66) = p := ⟨_, H⟩;have K := A z;cases v with
  | true =>
    cases t <;> cases u
    all_goals
      go_enter func16, ntmps16;go_wp2;go_ret;exact ⟨j.o, XI _ _⟩
  | false =>
    have J := A (show (∀ i, i < ln l -> (l.getD i pO).weight.length <= 50) -> ky (I8 l) (YC (Yz O)) fromλh => ⟨_, rfl, λ_ => ⟨by have := Yp K.o; omega, h⟩⟩);cases t <;> cases u
    all_goals
      go_enter func16, ntmps16
      first
        | (go_wp2
           go_ret;exact ⟨j.o, XI _ _⟩)
        | (go_wp2
           go_loopw [3] (λi wr => ∃ k : Nat, i =G F (k : Int) /\ k <= ln l /\ Ext w wr /\ ∀ m, m < k -> (l.getD m pO).weight.length <= 50) (λi _ => ((ln l : Int) - Yf i).toNat)
           case atStart => exact ⟨0, H, D, XI _ _, λm B => D⟩
           case round =>
             obtain ⟨k, rfl, hk, c, f⟩ := hrel;have g := A c;have q := A f;by_cases E : k < ln l
             · obtain ⟨b, off, rfl, r, o⟩ := Dc (y.o _ c) D
               have C := (o k E).2.2;obtain ⟨s, d⟩ : ∃ n, (l.getD k pO).weight = n := ⟨_, H⟩;rw [d] at C;have M := af s;by_cases P : 50 < ln s
               · clear c o d r f
                 go_wp2;go_ret;exact ⟨j.o, g.o⟩
               · have I := A (show ∀ m, m < k + 1 -> (l.getD m pO).weight.length <= 50 fromλm B => by
                   by_cases e : m = k
                   · rw [e, d]; omega
                   · exact q.o m D)
                 have L : ¬ 50 < (ln s : Int) := D;clear c o d r f;go_wp2;exact ⟨⟨k + 1, by go_num, D, g.o, I.o⟩, Zw⟩
             · obtain rfl : k = ln l := by omega
               clear f;go_wp2;go_ret;exact ⟨J.o q.o, g.o⟩)
end
section
open Kp
structure nE(o:nc):Prop where
 a:fH (ln o.left)=O
 b:fH (ln o.right)=O
 c:fH (ln o.low)=O
 d:fH (ln o.high)=O
structure zx(l:List nc):Prop where
 n:ln l<=34
 w:∀i,i<ln l->i<7->nE (l.getD i fm)
 six:ln l<=6\/32<ln l
theorem rY{B:Nat}{l:List nc}(h:bR 5 w B N Q (aV l))(d:0<ln l):
  ∃b off,N=L ⟨b,off,I⟩/\b<B/\∀i,i<ln l->w.cell? ⟨b,off+i*5,I⟩=L (G F (l.getD i fm).side)/\w.cell? ⟨b,off+i*5+1,I⟩=L (Yy (tx (l.getD i fm).left))/\w.cell? ⟨b,off+i*5+2,I⟩=L (Yy (tx (l.getD i fm).right))/\w.cell? ⟨b,off+i*5+3,I⟩=L (Yy (tx (l.getD i fm).low))/\w.cell? ⟨b,off+i*5+4,I⟩=L (Yy (tx (l.getD i fm).high)):=by
 obtain⟨h1,h2,f⟩:=h;obtain⟨b,off,e,g,a⟩:=f (by rw[XP];exact d);refine⟨b,off,e,g,λi hi=> ?_⟩;have c:(aV l).getD i []=uk (l.getD i fm):=by simp[List.getD,XO hi]
 have q:∀m,m<5->w.cell? ⟨b,off+i*5+m,I⟩=(uk (l.getD i fm))[m]?:=by
  exact a2N
 exact⟨q 0 YK,q 1 YK,q 2 YK,q 3 YK,q 4 YK⟩
def Bc (w : U) (N : Option Ym) (Q : Nat) (l : List nc) (g : bR 5 w w.heap.size N Q (aV l)) :
    XY Xz 14 #[V N (ln l) Q] w λx w' => ky (zx l) x /\ Ext w w' := by
  have h1 := g.1;have h2 := g.2.1;rw [XP] at h1;unfold Yk at h2;have HL := A (λ(W : U) (hx : Ext w W) => ((g.below hx).more hx.size : bR 5 W W.heap.size N Q (aV l)));clear g;have HT := A (show ky (zx l) (YC (Yz Y)) from ⟨_, H, λh => YM⟩);have HF := A (show ∀ b : Bool, (b = O -> zx l) -> ky (zx l) (YC (Yz b)) fromλb h => ⟨_, rfl, h⟩);go_enter func14, ntmps14;go_wp2;go_loopw [3] (λi wr => ∃ k : Nat, i =G F (k : Int) /\ k <= ln l /\ k <= 7 /\ Ext w wr /\ ∀ m, m < k -> nE (l.getD m fm)) (λi _ => ((ln l : Int) - Yf i).toNat)
  case atStart => exact ⟨0, H, D, D, XI _ _, λm hm => D⟩
  case round =>
    obtain ⟨k, rfl, hk, P, r, u⟩ := hrel;have q := A r;have v := A u;by_cases j : k < ln l /\ k < 7
    · obtain ⟨j, h7⟩ := j
      obtain ⟨b, off, rfl, y, R⟩ := rY (HL.o _ r) D;obtain ⟨_, I, L, M, T⟩ := R k j;obtain ⟨o, B⟩ : ∃ n, l.getD k fm = n := ⟨_, H⟩;rw [B] at I L M T;have HO := A B;obtain ⟨sd, s1, s2, s3, s4⟩ := o;dsimp only at I L M T;obtain ⟨E, t1⟩ : ∃ b, fH (ln s1) = b := ⟨_, H⟩;obtain ⟨K, t2⟩ : ∃ b, fH (ln s2) = b := ⟨_, H⟩;obtain ⟨X, t3⟩ : ∃ b, fH (ln s3) = b := ⟨_, H⟩;obtain ⟨J, t4⟩ : ∃ b, fH (ln s4) = b := ⟨_, H⟩;have H1 := A t1;have H2 := A t2;have H3 := A t3;have Z := A t4;have e1 : (k : Int) < (ln l : Int) := D;have e2 : YG ((k : Int) < 7) = Y := Yb D;clear r R B y u;by_cases C : E = O /\ K = O /\ X = O /\ J = O
      · obtain ⟨rfl, rfl, rfl, rfl⟩ := C
        have d := A (show ∀ m, m < k + 1 -> nE (l.getD m fm) fromλm hm => by
          by_cases e : m = k
          · rw [e, HO.o]; exact ⟨H1.o, H2.o, H3.o, Z.o⟩
          · exact v.o m D)
        go_wp2_with (go_at_call 45; refine (nd _ _).mono ?_; rintro e W1 ⟨rfl, rfl⟩)
        exact ⟨⟨k + 1, by go_num, D, D, q.o, d.o⟩, Zw⟩
      · cases E <;> cases K <;> cases X <;> cases J
        all_goals first
          | exact absurd ⟨rfl, rfl, rfl, rfl⟩ C
          | (clear C
             go_wp2_with (go_at_call 45; refine (nd _ _).mono ?_; rintro e W1 ⟨rfl, rfl⟩)
             go_ret;exact ⟨HT.o, q.o⟩)
    · have d := A (show (ln l <= k \/ k = 7) from D)
      obtain ⟨z, q1⟩ : ∃ p, YG ((ln l : Int) > 6) = p := ⟨_, H⟩;obtain ⟨t, q2⟩ : ∃ p, YG ((ln l : Int) <= 32) = p := ⟨_, H⟩;obtain ⟨s, q3⟩ : ∃ p, YG ((ln l : Int) > 34) = p := ⟨_, H⟩;have S := A (show ∀ b : Bool, (b = O -> s = O /\ (z = O \/ t = O)) -> ky (zx l) (YC (Yz b)) fromλb h => HF.o b (λy => by
        obtain ⟨a, c⟩ := h y;have a3 := Yp (q3.trans a);refine ⟨D, λi hi aa => v.o i (by rcases d.o with h | h <;> omega), ?_⟩;rcases c with c | c
        · have := Yp (q1.trans c); omega
        · have := Yp (q2.trans c); omega))
      have f := d.o;clear j r u d v;rcases f with f | f
      · obtain rfl : k = ln l := by omega
        clear f hk P;cases z <;> cases t <;> cases s
        all_goals
          go_wp2;go_ret;refine ⟨S.o _ ?_, q.o⟩;simp
      · subst f
        clear P;cases q0 : YG ((7 : Int) < (ln l : Int)) <;> cases z <;> cases t <;> cases s
        all_goals
          go_wp2;go_ret;refine ⟨S.o _ ?_, q.o⟩;simp
end
section
open Kp
structure qX(o:nc):Prop where
 a:(tx o.left).size<=604
 b:(tx o.right).size<=604
 c:(tx o.low).size<=604
 d:(tx o.high).size<=604
theorem di(h:fH n=O):n<=604:=by
 unfold fH at h;simp at h;omega
def nE.sm{o:nc}(h:nE o):qX o:=⟨by rw[af];exact di h.a,by rw[af];exact di h.b,by rw[af];exact di h.c,by rw[af];exact di h.d⟩
end
section
open Kp
attribute [local go_sem] bJ gE fX gA gC fN fG fU fI gD gy dQ dO dR dn dq
structure TZ(j:bO):Prop where
 name:ln j.name<=1000000
 rings:ln j.rings.flatten<=1000000
 ops:ln j.openings<=32->∀i,i<ln j.openings->qX (j.openings.getD i fm)
 aq:∀i,i<ln j.aq->(j.aq.getD i pO).weight.length<=50
end
section
open Kp
attribute [local go_sem] bJ gE fX gA gC fN fG fU fI gD gy dQ dO dR dn dq
structure ur(j:bO):Prop where
 name:ln j.name<=40
 r:Mi j.rings
 u:ln j.purlins<=17
 o:zx j.openings
 z:ln j.sizes<=16
 b:IL j.bars
 l:I8 j.aq
 s:IW (ln j.spans)
def CO(w:U)(j:bO)(a:cO)(v:fW w w.heap.size j a)(C:ln j.rings.flatten<=4000000000):
  XY Xz 4 #[YE (aM j a)] w λx w'=>ky (ur j) x/\Ext w w':=by
 have b:=A (show Ext w (w.alloc (.cells (aM j a) 34)) from(XI _ _).alloc (XE _) _);have s:JC (w.alloc (.cells (aM j a) 34)) w.heap.size j a:=XZ w _;obtain⟨c,q⟩:=aa (w.alloc (.cells (aM j a) 34));rw[q] at b s;have F:=A q;have n:=A (λW (h:Ext c W) i=>(JC.ext s h).cell i);have g:=A (λW (h:Ext c W)=>v.grow (b.o.tr h));have o:=A (Ext.ah c);have V:=A (λW (h:Ext c W)=>Dx W a.pa a.pc j.rings (g.o W h).p 8 rfl C);have Z:=A (λW (h:Ext c W)=>Bc W a.oa a.oc j.openings (g.o W h).o);have Q:=A (λW (h:Ext c W)=>D8 W a.ba a.bc j.bars (g.o W h).b);have I:=A (λW (h:Ext c W)=>zW W a.la a.lc j.aq (g.o W h).l);have K:=A (λW=>Ev W a.sa a.sc (ln j.spans));have d:=A (show ky (ur j) (YC (Yz Y)) from⟨_,H,λh=>YM⟩);have k:=(g.o c o.o);have N:=k.u.1;have T:=k.u.2.1;have X:=k.z.1;have ab:=k.z.2.1;rw[XP] at N X;unfold Yk at T ab;clear v C q s k;by_cases g0:40<ln j.name
 case pos=>
  go_enter func4,ntmps4;go_wp2_with fail
  go_ret;exact⟨d.o,by rw[F.o];exact b.o⟩
 go_enter func4,ntmps4;go_wp2_with(go_at_call 13;fail)
 rw[F.o];refine(V.o _ o.o).mono ?_;rintro e W2 ⟨⟨J,rfl,h1⟩,E⟩;have f:=A (o.o.tr E);have c2:=n.o _ f.o;have P:=A h1;clear E h1;cases J
 case true=>
  go_wp2_with fail
  go_ret;exact⟨d.o,b.o.tr f.o⟩
 by_cases g2:17<ln j.purlins
 case pos=>
  go_wp2_with fail
  go_ret;exact⟨d.o,b.o.tr f.o⟩
 go_wp2_with(go_at_call 14;fail)
 refine(Z.o _ f.o).mono ?_;rintro e W3 ⟨⟨b3,rfl,t⟩,z⟩;have l:=A (f.o.tr z);have c3:=n.o _ l.o;have L:=A t;clear z t c2;cases b3
 case true=>
  go_wp2_with fail
  go_ret;exact⟨d.o,b.o.tr l.o⟩
 by_cases g4:16<ln j.sizes
 case pos=>
  go_wp2_with fail
  go_ret;exact⟨d.o,b.o.tr l.o⟩
 go_wp2_with(go_at_call 15;fail)
 refine(Q.o _ l.o).mono ?_;rintro e W4 ⟨⟨S,rfl,y⟩,u⟩;have m:=A (l.o.tr u);have c4:=n.o _ m.o;have G5:=A y;clear u y c3;cases S
 case true=>
  go_wp2_with fail
  go_ret;exact⟨d.o,b.o.tr m.o⟩
 go_wp2_with(go_at_call 16;fail)
 refine(I.o _ m.o).mono ?_;rintro e W5 ⟨⟨O,rfl,G⟩,B⟩;have r:=A (m.o.tr B);have c5:=n.o _ r.o;have R:=A G;clear B G c4;cases O
 case true=>
  go_wp2_with fail
  go_ret;exact⟨d.o,b.o.tr r.o⟩
 go_wp2_with(go_at_call 17;refine(K.o _).mono ?_;rintro e W6 ⟨⟨b7,rfl,M⟩,rfl⟩)
 go_ret;exact⟨⟨_,H,λh=>⟨D,P.o Z9,D,L.o Z9,D,G5.o Z9,R.o Z9,M (Bool.or_eq_false_iff.1 h).2⟩⟩,b.o.tr r.o⟩
end
section
open Kp
theorem cW{ops:Array Oper}{rest:List Oper}{o:Oper}{a:Act}{Q:Exit->Act->U->Prop}(b:Region.wanted o (yielded ops a.tmps)=Y)(x:Operand)(e:o.op= .load 34 x)
  (g:Nat)(hx:a.eval x=YA (L ⟨g,0,I⟩))(cs:Array Z)(d:w.heap[g]?=L (.cells cs 34 (0,0)))(hi:(Xz.info? 34).map (·.size)=L cs.size)
  (h:wpList Xz ops Q rest (a.put o.dst (YE cs)) w):wpList Xz ops Q (o::rest) a w:=
 wpList_step λ_ c=>by
  rw[XT b];exact wp_load_row 34 x e g hx 34 cs (0,0) _ d XA H hi (c _ _ h)
def ur.V9{j:bO}(h:ur j)(b:ln j.openings<=32):∀i,i<ln j.openings->nE (j.openings.getD i fm):=by
 intro i hi;rcases h.o.six with a|a
 ·exact h.o.w i hi D
 ·omega
def ur.fw{j:bO}(h:ur j):TZ j:=
 ⟨by have:=h.name;omega,by have:=h.r.f;omega,λa i hi=>(h.V9 a i hi).sm,h.l.w⟩
structure vM(j:bO):Prop where
 gr:ur j
 o:ln j.openings<=32
end
section
open Kp
def Az(b:UInt8)(l:K):Lib.index (b::l) [47]=if b=47 then 0 else if Lib.index l [47]== -1 then -1 else Lib.index l [47]+1:=by
 rw[Lib.index];by_cases h:b=47
 ·subst h;simp[List.isPrefixOf]
 ·have:List.isPrefixOf [47] (b::l)=O:=by simp[List.isPrefixOf];exactλe=>h e.symm
  rw[this,XQ h];rfl
def Qm(l:K):Lib.index l [47]=if l.findIdx (· ==47)<ln l then(l.findIdx (· ==47):Int) else -1:=by
 induction l with
 |nil=>rfl
 |cons b l a=>
  rw[Az,a,List.findIdx_cons];by_cases h:b=47
  ·subst h;simp
  ·have c:(b==47)=O:=Zk;rw[XQ h,c];simp only[cond_false,List.length_cons,Nat.add_lt_add_iff_right];by_cases hk:l.findIdx (· ==47)<ln l
   ·rw[XT hk,XT hk,XQ YL];omega
   ·rw[XQ hk,XQ hk];rfl
def vz(l:K):Lib.cut l [47]=if l.findIdx (· ==47)<ln l then(l.take (l.findIdx (· ==47)),l.drop (l.findIdx (· ==47)+1),Y) else(l,[],O):=by
 unfold Lib.cut;rw[Qm];by_cases hk:l.findIdx (· ==47)<ln l
 ·rw[XT hk,XT hk,XT D];rfl
 ·rw[XQ hk,XQ hk,XQ D]
def gP(a:K):own a=if a.head?==L 45 then a.drop 1 else a:=by
 unfold own Lib.trimPrefix Lib.hasPrefix;cases a with
 |nil=>rfl
 |cons b l=>
  by_cases h:b=45
  ·subst h;simp
  ·have c:List.isPrefixOf [45] (b::l)=O:=by simp[List.isPrefixOf];exactλe=>h e.symm
   have d:((b::l).head?==L 45)=O:=Zk;simp only[c,d]
   rfl
def lW(a:K):Lib.hasPrefix a [45]=(a.head?==L 45):=by
 unfold Lib.hasPrefix;cases a with
 |nil=>rfl
 |cons b l=>
  by_cases h:b=45
  ·subst h;simp
  ·have c:List.isPrefixOf [45] (b::l)=O:=by simp[List.isPrefixOf];exactλe=>h e.symm
   have d:((b::l).head?==L 45)=O:=Zk;rw[c,d]
def uv(a:K):(own (Lib.cut a [47]).1=(Lib.cut (own a) [47]).1)/\(Lib.cut a [47]).2=(Lib.cut (own a) [47]).2/\Lib.hasPrefix (Lib.cut a [47]).1 [45]=(a.head?==L 45):=by
 cases a with
 |nil=>exact⟨H,H,H⟩
 |cons b l=>
  by_cases h:b=45
  ·subst h;have d:own (45::l)=l:=by rw[gP];rfl
   rw[d];have i:Lib.cut (45::l) [47]=(45::(Lib.cut l [47]).1,(Lib.cut l [47]).2):=by
    rw[vz,vz,List.findIdx_cons];have e:((45:UInt8)==47)=O:=YK;rw[e];simp only[cond_false,List.length_cons,Nat.add_lt_add_iff_right];by_cases hk:l.findIdx (· ==47)<ln l
    ·rw[XT hk,XT hk];rfl
    ·rw[XQ hk,XQ hk]
   rw[i];refine⟨by rw[gP];rfl,rfl,by rw[lW];rfl⟩
  ·have c:((b::l).head?==L 45)=O:=Zk;have d:own (b::l)=b::l:=by rw[gP,c];rfl
   have g:((Lib.cut (b::l) [47]).1.head?==L 45)=O:=by
    rw[vz,List.findIdx_cons];by_cases f:b=47
    ·subst f;rfl
    ·have e:(b==47)=O:=by simpa using f
     rw[e];simp only[cond_false];split
     ·simpa using h
     ·exact c
   rw[d,c];exact⟨by rw[gP,g];rfl,rfl,by rw[lW];exact g⟩
def QI(s:K)(k:Nat):(tx s).extract 0 k=tx (s.take k):=by
 apply ByteArray.ext;apply Array.ext';rw[ByteArray.data_extract,Array.toList_extract];simp
def kQ(a:K):aG (tx a)=(a.head?==L 45,tx (Lib.cut (own a) [47]).1,tx (Lib.cut (own a) [47]).2.1,(Lib.cut (own a) [47]).2.2):=by
 have hy:(if((tx a).data.toList.head?==L 45)=Y then(tx a).extract 1 (tx a).size else tx a)=tx (own a):=by
  rw[bH,gP];cases h:(a.head?==L 45) with
  |true=>rw[XT rfl,XT rfl,af];exact lQ a 1
  |false=>rfl
 have b:((tx a).data.toList.head?==L 45)=(a.head?==L 45):=by rw[bH]
 unfold aG;dsimp only;rw[hy,b];unfold oo;rw[bH,af,vz];by_cases hk:(own a).findIdx (· ==47)<(own a).length
 ·rw[XT hk,XT hk,QI _ _,lQ]
 ·rw[XQ hk,XQ hk]
def jK(l:K):(tx l).toList=l:=by rw[ByteArray.toList_eq,bH]
def iO(l:K)(m:Nat)(h:m<(tx l).size):(tx l)[m]'h=l[m]'(by rw[af] at h;exact h):=by
 simp[ByteArray.getElem_eq_getElem_data]
def yK{l:K}(h:l.all ix=Y):lead l=l:=by
 unfold lead
 induction l with
 |nil=>rfl
 |cons b l a=>
  simp only[List.all_cons,Bool.and_eq_true] at h;rw[List.takeWhile_cons,XT h.1,a h.2]
def pw{l:K}(h:Dg (tx l)):nX l=Y/\l.all ix=Y:=by
 have d:l.all ix=Y:=by
  rw[List.all_eq_true];intro b g;obtain⟨m,f,rfl⟩:=List.mem_iff_getElem.1 g;have:=h.all m (by rw[af];exact f);rw[iO] at this;rw[uX];simp[this]
 have e:lead l=l:=yK d;have a:=h.pos;rw[af] at a;have i:kv l=ln l:=by
  unfold kv;rw[e];split
  ·rename_i c;exfalso;have:=h.lead (by rw[af];exact a) (by rw[af];exact c.1);rw[iO] at this;cases l with
   |nil=>simp at a
   |cons b l=>simp at c;simp[c.2] at this
  ·rfl
 refine⟨?_,d⟩;exact iX D D
def Q7(l:K):∀k,k<=ln l->cI (tx l) k=ak (l.take k):=by
 intro k hk
 induction k with
 |zero=>simp[cI,ak]
 |succ k a=>
  rw[cI,a D,nL (show k<ln l by omega),bH,XJ,XO D];simp only[Option.getD_some];unfold jh;omega
def iG(l:K):cI (tx l) (tx l).size=ak l:=by
 rw[af,Q7 l _ (XE _),List.take_length]
def uu{n:K}(h1:nX (own n)=Y)(h2:(own n).all ix=Y)(f:¬(Lib.hasPrefix n [45]=Y/\own n=[48])):aQ n=Y:=by
 unfold aQ;rw[h2,Bool.true_and];unfold nX at h1;simp only[Bool.and_eq_true,XX] at h1;cases a:own n with
 |nil=>rw[a] at h1;exact absurd H h1.1
 |cons b l=>
  simp only[List.isEmpty_cons,Bool.not_false,Bool.true_and,List.head?_cons];by_cases d:b=48
  ·subst d;have g:l=[]:=by
    rw[a] at h1 h2;have i:lead (48::l)=48::l:=yK h2;have:=h1.1;unfold kv at this;rw[i] at this;cases l with
    |nil=>rfl
    |cons c l=>exact absurd (by rw[XT ⟨YL,rfl⟩]) this
   subst g;have e:Lib.hasPrefix n [45]=O:=by
    cases j:Lib.hasPrefix n [45] with
    |false=>rfl
    |true=>exact absurd ⟨j,a⟩ f
   have:own n=n:=by rw[gP,<-lW,e];rfl
   rw[<-this,a];rfl
  ·have:(L b==L (48:UInt8))=O:=by simpa using d
   rw[this];rfl
def El:FN (cZ 1)=([49],0):=by
 have a:cZ 1=[1]:=nf (l:=[1]) ⟨λd b=>by rw[List.mem_singleton.1 b];decide,by unfold qn;decide⟩ YK;rw[a];decide+kernel
def Pz{a:K}(h:ks (tx a)):aC a=0:=by
 unfold ks at h;rw[kQ] at h;dsimp only at h;obtain⟨h1,h2,i⟩:=h;obtain⟨co,c2,s⟩:=uv a;rw[iG,iG,af,af,jK,jK] at i;obtain⟨r,F⟩:=pw h1;have hcut:eU a=(if(Lib.cut a [47]).2.2=O then L ((Lib.cut a [47]).1,[49]) else L ((Lib.cut a [47]).1,(Lib.cut a [47]).2.1))/\((Lib.cut a [47]).2.2=Y->nX (Lib.cut a [47]).2.1=Y/\(Lib.cut a [47]).2.1.all ix=Y/\(Lib.cut a [47]).2.1≠[48]/\(Lib.cut a [47]).2.1≠[49]/\Nat.gcd (ak (own (Lib.cut a [47]).1)) (ak (Lib.cut a [47]).2.1)=1)/\(own (Lib.cut a [47]).1).length<=300/\(Lib.cut a [47]).2.1.length<=300/\¬(Lib.hasPrefix (Lib.cut a [47]).1 [45]=Y/\own (Lib.cut a [47]).1=[48]):=by
  rw[s,co,c2];unfold sK at i;simp only[Bool.and_eq_true,Bool.not_eq_true',XL,Bool.or_eq_true,Bool.and_eq_false_iff,Bool.or_eq_false_iff,XN,Yg] at i;obtain⟨⟨⟨⟨j,C⟩,I⟩,H⟩,o⟩:=i;have m:(Lib.cut (own a) [47]).2.2=Y->nX (Lib.cut (own a) [47]).2.1=Y/\(Lib.cut (own a) [47]).2.1.all ix=Y/\(Lib.cut (own a) [47]).2.1≠[48]/\(Lib.cut (own a) [47]).2.1≠[49]/\Nat.gcd (ak (Lib.cut (own a) [47]).1) (ak (Lib.cut (own a) [47]).2.1)=1:=by
   intro d;obtain⟨g,c⟩:=pw (h2 d);rw[d] at j o;simp at j o;exact⟨g,c,j.1,j.2,o⟩
  have k:¬((a.head?==L 45)=Y/\(Lib.cut (own a) [47]).1=[48]):=by
   rintro⟨w,E⟩;rcases C with q|q
   ·exact q (Yg.1 w)
   ·exact q E
  refine⟨?_,m,D,D,k⟩;unfold eU;dsimp only;rw[s,co,c2,r];rw[XQ (λe=>by rcases e with e|e<;>first|exact k e|cases e)];cases d:(Lib.cut (own a) [47]).2.2 with
  |false=>rfl
  |true=>
   obtain⟨g,c,n,t,_⟩:=m d;rw[XQ YL,XQ (by rw[g];simp[n,t]),XQ YL]
 obtain⟨A,m,l1,l2,k⟩:=hcut;unfold aC;rw[A];cases d:(Lib.cut a [47]).2.2 with
 |false=>
  rw[XT rfl];dsimp only;split
  ·rfl
  ·rw[XQ YP,XT rfl]
 |true=>
  obtain⟨g,c,n,t,u⟩:=m d;rw[XQ YL];dsimp only;split
  ·rfl
  ·rw[XQ D];have f1:aQ (Lib.cut a [47]).1=Y:=uu (by rw[co];exact r) (by rw[co];exact F) k;have f:own (Lib.cut a [47]).2.1=(Lib.cut a [47]).2.1:=by
    rw[gP];cases z:(Lib.cut a [47]).2.1 with
    |nil=>rfl
    |cons b l=>
     rw[z] at c;simp only[List.all_cons,Bool.and_eq_true] at c;have x:=lv c.1;have:((b::l).head?==L 45)=O:=by
      rw[List.head?_cons,XN];intro e;injection e with e
      subst e;exact absurd x.2.1 YK
     rw[this];rfl
   have G:aQ (Lib.cut a [47]).2.1=Y:=uu (by rw[f];exact g) (by rw[f];exact c) (by rw[f];exactλh=>n h.2);have y:kq (Lib.cut a [47]).1=0:=by unfold kq;rw[XT f1,XQ D]
   have v:kq (Lib.cut a [47]).2.1=0:=by unfold kq;rw[XT G,f,XQ D]
   have B:nw (Lib.cut a [47]).1 (Lib.cut a [47]).2.1=([49],0):=by
    unfold nw dS;rw[y,v,f,u,XT rfl,XT rfl,El];split
    ·decide+kernel
    ·rfl
   rw[B,XQ YL]
end
section
open Kp
def tq(b g sl i d h a e c f:Bool):Int:=
 if !b||(sl&&(!i||d||h))||(g&&a) then 11 else if e||c then 4 else if sl&& !f then 11 else 0
open Classical in
noncomputable def La(z:ByteArray):Int:=
 let v:=aG z
 tq (YG (Dg v.2.1)) v.1 v.2.2.2 (YG (Dg v.2.2.1)) (v.2.2.1.toList==[48]) (v.2.2.1.toList==[49]) (v.2.1.toList==[48]) (YG (300<v.2.1.size)) (YG (300<v.2.2.1.size)) (Nat.gcd (cI v.2.1 v.2.1.size) (cI v.2.2.1 v.2.2.1.size)==1)
open Classical in
theorem Px{b:Bool}(h:b=Y↔Dg z)(e:YG (Dg z)=c):b=c:=by
 rw[<-e,Bool.eq_iff_iff,XX];exact h
open Classical in
def qL(z:ByteArray)(w:U)(hs:z.size<=1000000)(c:bE w):XY Xz 37 #[Yy z] w λe w'=>e=YC (G F (La z))/\Ext w w':=by
 have X:=A c;have H:=A (lM z w hs);have N:=j2 z;have M:=nK z;unfold La;obtain⟨⟨g,n,d,sl⟩,x⟩:=aa (aG z);rw[x] at H N M⊢;dsimp only at N M⊢;clear x c;have ab:n.size<=1000000:=D;have ad:d.size<=1000000:=D;have DN:=A (λW=>ng n W ab);have DD:=A (λW=>ng d W ad);obtain⟨S,j⟩:=aa (YG (Dg n));obtain⟨q3,l⟩:=aa (YG (Dg d));obtain⟨p1,h1⟩:=aa (d.toList==[48]);obtain⟨p2,h2⟩:=aa (d.toList==[49]);obtain⟨p3,h3⟩:=aa (n.toList==[48]);obtain⟨O,s⟩:=aa (YG (300<n.size));obtain⟨y,r⟩:=aa (YG (300<d.size));obtain⟨q,o⟩:=aa (Nat.gcd (cI n n.size) (cI d d.size));obtain⟨I,m⟩:=aa (q==1);rw[j,l,h1,h2,h3,s,r,o,m];have ac:YG (300<(n.size:Int))=O:=by rw[<-s];simp;omega
 have T:YG (300<(d.size:Int))=y:=by rw[<-r];simp;omega
 have ah:((q:Int) !=1)= !I:=by
  rw[<-m];cases a:(q==1)
  ·rw[XN] at a;rw[Bool.not_false,Yn];omega
  ·rw[Yg] at a;subst a;rfl
 have ag:=A (show∀t:ByteArray,(t.toList=[49]↔Nat.gcd (cI n n.size) (cI d d.size)=1)->(t.toList==[49])=I fromλt h=>by
  rw[o] at h;rw[<-m,Bool.eq_iff_iff,Yg,Yg];exact h)
 have HQ:=A o;have B:=A (show S=Y->Dg n fromλe=>Yq (j.trans e));have R:=A (show q3=Y->Dg d fromλe=>Yq (l.trans e));have V:=A (λ(b:Bool) (h:b=Y↔Dg n)=>Px h j);have BD:=A (λ(b:Bool) (h:b=Y↔Dg d)=>Px h l);have af:q.gcd 0=q:=Nat.gcd_zero_right q;clear o s r m af j l;cases g<;>cases sl
 all_goals
  go_enter func37,ntmps37;go_wp2_with(go_at_call 99;refine H.o.mono ?_;unfold ot;rintro e W1 ⟨rfl,K⟩;have ae:=A K;clear K)
  refine(DN.o W1).mono ?_;rintro e W2 ⟨⟨b,rfl,a⟩,Q⟩;obtain rfl:=V.o b a;have J:=A (ae.o.tr Q);clear Q a;cases b
 all_goals(cases O<;>cases y)
 all_goals go_wp2_with(first
   |(go_at_call 103;(refine(yM n d _ ((B.o YL).jh (by have:=Yp ac;omega)) ((R.o (by first|simp|assumption)).jh (by have:=Yp T;omega)) (X.o.below i.o (XE _))).mono ?_);rintro e W4 ⟨⟨t,k,rfl,_,c⟩,f⟩;have u:=A (i.o.tr f);have ai:=ag.o t c;clear f c)
   |(go_at_call 101;(refine(xW (cI n n.size) (cI d d.size) _ (by have:=Nat.lt_of_lt_of_le (pJ L.o (XE _)) (xe D);omega)).mono ?_);rw[HQ.o];rintro e W6 ⟨rfl,E⟩;have X6:=A (X5.o.tr E);clear E)
   |(go_at_call 102;have L:=A ((R.o (by first|simp|assumption)).jh D);(with_reducible refine(iU d _ L.o D).mono ?_);rintro e W5 ⟨rfl,P⟩;have X5:=A (u.o.tr P);clear P)
   |(go_at_call 102;refine(iU n _ ((B.o YL).jh D) D).mono ?_;rintro e W4 ⟨rfl,f⟩;have u:=A (i.o.tr f);clear f)
   |(go_at_call 100;refine(DD.o _).mono ?_;rintro e W3 ⟨⟨Z,rfl,v⟩,C⟩;obtain rfl:=BD.o Z v;have i:=A (J.o.tr C);clear C v))
 all_goals go_ret
 all_goals refine⟨?_,by first|exact J.o|exact i.o|exact u.o|exact X6.o⟩
 all_goals first
  |rfl
  |(simp_all[tq];done)
  |trace_state
end
section
open Kp
structure xX(a:K):Prop where
 all:a.all ix=Y
 ne:a≠[]
 lead:a.head?≠L 48\/a=[48]
def Oi{b:UInt8}(h:ix b=Y):(L b==L (45:UInt8))=O:=by
 rw[XN];intro e;injection e with e
 subst e;exact absurd (lv h).2.1 YK
def xX.head{a:K}(h:xX a):(a.head?==L 45)=O:=by
 cases a with
 |nil=>rfl
 |cons b r=>
  have:=h.all;simp only[List.all_cons,Bool.and_eq_true] at this;exact Oi this.1
def xX.own{a:K}(h:xX a):own a=a:=by rw[gP,h.head];rfl
def xX.pre{a:K}(h:xX a):Lib.hasPrefix a [45]=O:=by rw[lW,h.head]
def xX.form{a:K}(h:xX a):aQ a=Y:=by
 unfold aQ;rw[h.own,h.all,Bool.true_and];have c:a.isEmpty=O:=by cases a with|nil=>exact absurd H h.ne|cons b r=>rfl
 rw[c];rcases h.lead with h1|h1
 ·have:(a.head?==L 48)=O:=by rw[XN];exact h1
  rw[this];rfl
 ·rw[h1];rfl
def jT(a:K):own (45::a)=a:=by rw[gP];rfl
def rA(a:K):Lib.hasPrefix (45::a) [45]=Y:=by rw[lW];rfl
def xX.neg{a:K}(h:xX a)(c:a≠[48]):aQ (45::a)=Y:=by
 unfold aQ;rw[jT,h.all,Bool.true_and];have d:a.isEmpty=O:=by cases a with|nil=>exact absurd H h.ne|cons b r=>rfl
 rw[d];have h1:a.head?≠L 48:=h.lead.resolve_right c;have:(a.head?==L 48)=O:=by rw[XN];exact h1
 rw[this];rfl
def mu{a:K}(h:aQ a=Y):xX a\/∃r,a=45::r/\xX r/\r≠[48]:=by
 unfold aQ at h;simp only[Bool.and_eq_true,Bool.not_eq_true',Bool.or_eq_true,Yg,XN] at h;obtain⟨⟨h1,h2⟩,c⟩:=h;have d:own a≠[]:=by intro e;rw[e] at h2;cases h2
 by_cases f:(a.head?==L 45)=Y
 ·cases a with
  |nil=>cases f
  |cons b r=>
   have i:b=45:=by simpa using f
   subst i;rw[jT] at h1 d c;have g:r.head?≠L 48:=by
    rcases c with c|c
    ·exact c
    ·injection c with c _;exact absurd c YK
   exact .inr ⟨r,H,⟨h1,d,.inl g⟩,λe=>g Z4⟩
 ·have j:own a=a:=by rw[gP,XQ f]
  rw[j] at h1 d c;exact .inl ⟨h1,d,c⟩
def pM(t:ByteArray)(v:Int):Prop:=∃a:K,t=tx a/\aQ a=Y/\(own a).length<=300/\num a=v
def th{a:K}(h:xX a)(b:ln a<=300):pM (tx a) (ak a):=
 ⟨a,rfl,h.form,by rw[h.own];exact b,by unfold num;rw[h.pre,h.own];rfl⟩
def Ha{a:K}(h:xX a)(c:ln a<=300)(b:ak a≠0):pM (tx (45::a)) (-(ak a:Int)):=
 ⟨45::a,rfl,h.neg (by rintro rfl;exact b YK),by rw[jT];exact c,by unfold num;rw[rA,jT];rfl⟩
def VI{a:K}(h:xX a)(b:ln a<=300)(s:Bool)(c:s=Y->ak a≠0):pM (if s then⟨#[45]⟩++tx a else tx a) (if s then -(ak a:Int) else ak a):=by
 cases s with
 |false=>exact th h b
 |true=>exact Ha h b (c H)
def PY:pM ⟨#[48]⟩ 0:=th (a:=[48]) ⟨YK,YK,.inr rfl⟩ YK
theorem pM.size{t:ByteArray}{v:Int}(h:pM t v):0<t.size∧t.size≤301:=by
 obtain⟨a,rfl,h1,h2,_⟩:=h
 rw[af]
 have:=Ca a
 refine⟨?_,by omega⟩
 rcases mu h1 with h|⟨r,rfl,_⟩
 ·exact List.length_pos_iff.2 h.ne
 ·simp
def kP{a:K}(h:aQ a=Y)(b:(own a).length<=300):kq a=0:=by unfold kq;rw[XT h,XQ D]
def yW(x y:K):ak (x++y)=ak x*10^ln y+ak y:=by
 induction x with
 |nil=>simp[ak]
 |cons b x a=>rw[List.cons_append,iM,iM,a,Yc,Nat.pow_add,Nat.add_mul,Nat.mul_assoc];omega
def yT(u:Nat)(h:u≠0):(Lib.decDigits u).head?≠L 48:=by
 induction u using Nat.strongRecOn with
 |_ u f=>
  rw[Lib.decDigits];split
  ·rename_i a;intro e;have:=(kT a).2;simp only[List.head?_cons,Option.some.injEq] at e;rw[e] at this;have g:jh 48=0:=YK;omega
  ·rename_i a;have:=f (u/10) D D;obtain⟨_,_,c⟩:=eA (u/10);cases d:Lib.decDigits (u/10) with
   |nil=>exact absurd d c
   |cons b r=>rw[d] at this;simpa using this
def Dw(u:Nat):xX (Lib.decDigits u):=by
 obtain⟨a,b,c⟩:=eA u;refine⟨a,c,?_⟩;by_cases h:u=0
 ·subst h;exact .inr Zz
 ·exact .inl (yT u h)
def Hr{z:Int}(c: -9223372036854775808<=z)(h1:z<=9223372036854775807):pM (tx (Lib.itoa z)) z:=by
 have b:∀u:Nat,u<10^20->(Lib.decDigits u).length<=300:=λu hu=>by
  rw[Lib.decDigits_length];exact Ye (zP u 20 YK hu) YK
 have a:∀u:Nat,ak (Lib.decDigits u)=u:=λu=>(eA u).2.1
 unfold Lib.itoa;split
 ·rename_i h;have:=Ha (Dw z.natAbs) (b _ D) (by rw[a];omega);rw[a,show -(z.natAbs:Int)=z by omega] at this;exact this
 ·rename_i h;have:=th (Dw z.toNat) (b _ D);rw[a,show(z.toNat:Int)=z by omega] at this;exact this
theorem EP(h:lF l):∀q,jC l q=aw l/10^q%10:=by
 induction l with
 |nil=>intro q;unfold jC;simp[C,aw,S6]
 |cons x l a=>
  intro q;have hx:x<1000000:=h x YL;have a:=a (λd f=>h d (by simp[f]));rw[o7];by_cases b:q<6
  ·unfold jC;rw[Nat.div_eq_of_lt b,Nat.mod_eq_of_lt b];show x/10^q%10=_;have e:(1000000:Nat)=10^q*(10*10^(5-q)):=by
    rw[<-Nat.pow_succ',<-Nat.pow_add,show q+(5-q+1)=6 by omega]
   rw[e,Nat.mul_assoc,Nat.add_mul_div_left _ _ (Nat.pow_pos YK),Nat.mul_assoc 10,Nat.add_mul_mod_self_left]
  ·obtain⟨r,rfl⟩:∃r,q=r+6:=⟨q-6,D⟩;have e:jC (x::l) (r+6)=jC l r:=by
    unfold jC;rw[show(r+6)/6=r/6+1 by omega,show(r+6)%6=r%6 by omega];rfl
   have c:(10:Nat)^6=1000000:=YK;rw[e,a,Nat.pow_add,Yd (10^r),<-Nat.div_div_eq_div_mul,c,Nat.add_mul_div_left _ _ YK,Nat.div_eq_of_lt hx,Nat.zero_add]
def BS{v z:Nat}:∀n,z<=n->v<10^n->(∀q,z<=q->q<n->v/10^q%10=0)->v<10^z:=by
 intro n
 induction n with
 |zero=>
  intro h1 h2 _;obtain rfl:z=0:=D;exact h2
 |succ m d=>
  intro h1 h2 c;by_cases e:z=m+1
  ·rw[e];exact h2
  ·refine d D ?_ (λq a b=>c q a D);have g:=c m D D;have f:v/10^m<10:=by
    rw[Nat.div_lt_iff_lt_mul (Nat.pow_pos YK),<-Nat.pow_succ'];exact h2
   have i:v/10^m=0:=(Nat.mod_eq_of_lt f).symm.trans g;rcases Nat.div_eq_zero_iff.1 i with h|h
   ·exact absurd h (Nat.ne_of_gt (Nat.pow_pos YK))
   ·exact h
def Re{l c:List Nat}{o z:Nat}{S:ByteArray}(i:bB l)(G:6*ln l-o=z)(u:∀q,q<6*ln l->C c (6*ln l-1-q)=48+jC l q)(f:∀j,j<o->C c j=48)(I:o<6*ln l)(H:C c o≠48)
  (E:strOfNums ((List.range z).map λj=>((C c (o+j):Nat):Int))=S):∃a:K,S=tx a/\xX a/\ak a=aw l/\ln a=z:=by
 have v:∀k,k<z->C c (o+k)=48+jC l (z-1-k):=λk hk=>by
  rw[<-u (z-1-k) D,show 6*ln l-1-(z-1-k)=o+k by omega]
 have g:∀q,jC l q<10:=λq=>Nat.mod_lt _ YK
 obtain⟨a,r⟩:=aa ((List.range z).map (λj=>UInt8.ofNat (48+jC l (z-1-j))):K);have d:ln a=z:=by rw[<-r];simp
 have n:∀k (h:k<ln a),a[k]=UInt8.ofNat (48+jC l (z-1-k)):=λk h=>by
  subst r;simp
 have x:S=tx a:=by
  rw[<-E,<-r];apply ByteArray.ext;apply Array.toList_inj.1;rw[strOfNums_data,bH,List.map_map];apply List.map_congr_left;intro j t;simp only[List.mem_range] at t;show UInt8.ofNat ((C c (o+j):Nat):Int).toNat=_;rw[Int.toNat_natCast,v j t]
 have w:0<z:=D;refine⟨a,x,⟨?_,?_,?_⟩,?_,d⟩
 ·rw[List.all_eq_true];intro b f;obtain⟨m,y,rfl⟩:=List.mem_iff_getElem.1 f;rw[n m y];exact(kT (g _)).1
 ·intro e;rw[e] at d;simp at d;omega
 ·left
  rw[List.head?_eq_getElem?,XO D,n 0 D];intro e;injection e with e
  have h2:=(kT (g (z-1-0))).2;rw[e] at h2;have s:jh 48=0:=YK;have B:=v 0 w;rw[Nat.add_zero] at B;omega
 ·have A:aw l<10^z:=by
   refine BS (6*ln l) D ?_ (λq h1 h2=> ?_)
   ·have:=uH i.small;have e:B6=10^6:=YK;rw[e,<-Nat.pow_mul] at this;exact this
   ·rw[<-EP i.small];have s:=u q h2;rw[f _ D] at s;omega
  have key:∀k,k<=z->ak (a.take k)=aw l/10^(z-k):=by
   intro k
   induction k with
   |zero=>intro _;rw[Nat.sub_zero,Nat.div_eq_of_lt A];rfl
   |succ k F=>
    intro hk;rw[nL (show k<ln a by omega),F D,n k D,(kT (g _)).2,EP i.small,show z-k=(z-1-k)+1 by omega,Nat.pow_succ,<-Nat.div_div_eq_div_mul,show z-(k+1)=z-1-k by omega];omega
  have:=key z (XE _);rw[<-d,List.take_length,d,Nat.sub_self,Nat.pow_zero,Nat.div_one] at this;exact this
structure xS(z:ByteArray)(f:Nat):Prop where
 f1:f<=1
 pos:f<z.size
 len:z.size-f<=300
 all:Un z f z.size
 minus:f=1↔∃h:0<z.size,((z[0]'h).toNat:Int)=45
 lead:∀h:f<z.size,1<z.size->((z[f]'h).toNat:Int)≠48
theorem xS.JV(h:xS z f):Me z:=⟨⟨f,h.f1,h.pos,h.all,h.len,h.minus⟩⟩
def AT{a:K}(h:a.all ix=Y)(m:Nat)(b:m<ln a):48<=((a[m]).toNat:Int)/\((a[m]).toNat:Int)<=57:=by
 rw[List.all_eq_true] at h;have:=lv (h _ (List.getElem_mem b));omega
def Bp{a:K}(h:aQ a=Y)(c:(own a).length<=300):xS (tx a) (if Lib.hasPrefix a [45] then 1 else 0):=by
 rcases mu h with h|⟨r,rfl,h,f⟩
 ·rw[h.own] at c;rw[h.pre];have b:=List.length_pos_iff.2 h.ne;refine⟨YK,by rw[af];exact b,by rw[af];exact c,λm _ _ d=> ?_,⟨λe=>absurd e YK,λ⟨b,e⟩=> ?_⟩,λb h1=> ?_⟩
  ·rw[iO];exact AT h.all m _
  ·rw[iO] at e;have:=AT h.all 0 (by rwa[af] at b);omega
  ·rw[af] at h1;show((tx a)[0].toNat:Int)≠48;rw[iO];rcases h.lead with h2|h2
   ·exact a3b
   ·rw[h2] at h1;simp at h1
 ·rw[jT] at c;rw[rA];have b:=List.length_pos_iff.2 h.ne;refine⟨YK,by rw[af];simp;omega,by rw[af];simp;omega,λm h1 _ d=> ?_,⟨λ_=>⟨by rw[af];simp,by rw[iO];rfl⟩,λ_=>rfl⟩,λqQ h1=> ?_⟩
  ·rw[iO];simp only[Yr] at h1;obtain⟨k,rfl⟩:∃k,m=k+1:=⟨m-1,D⟩;rw[af] at d;simp only[List.length_cons] at d;rw[List.getElem_cons_succ];exact AT h.all k D
  ·show((tx (45::r))[1].toNat:Int)≠48;rw[iO,List.getElem_cons_succ];have h2:=h.lead.resolve_right f;exact a3b
def UM{a:K}(h:aQ a=Y):Cc (tx a)=Lib.hasPrefix a [45]/\LF (tx a)=ak (own a):=by
 have h1:Cc (tx a)=Lib.hasPrefix a [45]:=by unfold Cc;rw[bH,lW]
 refine⟨h1,?_⟩;unfold LF;rw[h1];rcases mu h with h|⟨r,rfl,h,b⟩
 ·rw[h.pre,h.own];exact iG a
 ·rw[rA,jT,XT rfl,af,lQ];exact iG r
def sD(z:ByteArray):Nat->Nat
 |0=>0
 |k+1=>if z.data.toList.getD k 0=45 then sD z k else 10*sD z k+((z.data.toList.getD k 0).toNat-48)
theorem IZ(h:k<z.size)(a:((z[k]'h).toNat:Int)=45):sD z (k+1)=sD z k:=by
 have e:z.data.toList.getD k 0=z[k]'h:=by
  exact a2y
 show(if z.data.toList.getD k 0=45 then _ else _)=_;rw[e,XT (by apply UInt8.toNat_inj.1;show _=45;omega)]
theorem uJ{k g:Nat}(h:k<z.size)(a:((z[k]'h).toNat:Int)=((48+g:Nat):Int)):sD z (k+1)=10*sD z k+g:=by
 have e:z.data.toList.getD k 0=z[k]'h:=by
  exact a2y
 show(if z.data.toList.getD k 0=45 then _ else 10*sD z k+((z.data.toList.getD k 0).toNat-48))=_;rw[e,XQ (by intro b;rw[b] at a;have:(45:UInt8).toNat=45:=rfl;omega)];omega
def Oj{a:K}(h:a.all ix=Y):∀k,k<=ln a->sD (tx a) k=ak (a.take k)/\sD (tx (45::a)) (k+1)=ak (a.take k):=by
 intro k
 induction k with
 |zero=>intro _;exact⟨H,H⟩
 |succ k c=>
  intro hk;obtain⟨h1,h2⟩:=c D;have d:=AT h k D;have b:((a[k]'D).toNat:Int)=((48+jh a[k]:Nat):Int):=by unfold jh;omega
  rw[nL (show k<ln a by omega)];refine⟨?_,?_⟩
  ·rw[uJ (g:=jh a[k]) ZB (by rw[iO];exact b),h1];omega
  ·rw[uJ (g:=jh a[k]) (by rw[af];simp;omega) (by rw[iO];exact b),h2];omega
def TD{a:K}(h:aQ a=Y):sD (tx a) (tx a).size=ak (own a):=by
 rw[af];rcases mu h with h|⟨r,rfl,h,_⟩
 ·rw[(Oj h.all _ (XE _)).1,List.take_length,h.own]
 ·rw[List.length_cons,(Oj h.all _ (XE _)).2,List.take_length,jT]
end
section
open Kp
def Wh(v:Int)(w:U)(e:Ending)(w':U):Prop:=∃t:ByteArray,e=YC (Yy t)/\pM t v/\Ext w w'
def GR(w:U)(s:Bool)(v:Z)(l:List Nat)(hs:bT w w.heap.size v l)(t:bB l)(hl:ln l<=50):
  XY Xz 176 #[YE #[Yz s,v]] w (Wh (lG s l) w):=by
 obtain⟨N,f,rfl,aG,aB,M⟩:=id hs;unfold Yk at aB;by_cases h0:ln l=0
 ·obtain rfl:l=[]:=List.length_eq_zero_iff.1 h0;clear M;go_enter func176,ntmps176;go_wp2_with fail
  go_ret;exact⟨_,H,by rw[show lG s []=0 by cases s<;>rfl];exact PY,(XI _ _).alloc (XE _) _⟩
 obtain⟨b,off,rfl,aL,_⟩:=M D;obtain⟨i0,hi,ar,ah,E⟩:=info_parts Ji;obtain⟨p,hp,ay⟩:=I6 t D;have aC:=A (show aw l≠0 from Nat.ne_of_gt (oS t.trim (by rintro rfl;exact h0 H)));obtain⟨n,hn⟩:=aa (ln l);have J:=A hn;have aE:=A ay;have HP:=A hp;rw[hn] at aG hl h0⊢;have HS:=A hs;clear hs hn ay hp M;go_enter func176,ntmps176;go_wp2_with(at_make;refine wpList_make_full _ H _ _ 83 H (w.heap.size+1) 5 i0 (G .u8 0) 1 underlying83 hi ar ah .i64 .i64 _ _ (6*n) H H D D Z8 YR YL ?_;intro w1 ag aq)
 have av:=ai.new w 201 [Yz s,V (L ⟨b,off,I⟩) n f];have ae:Yl (w.heap.size+1) (w.alloc (Obj.cells #[Yz s,V (L ⟨b,off,I⟩) n f] 201)) w1:=(XI _ _).grown aq YL (λ_ h=>YM);simp only[Ya] at ag⊢;have az:=A (show ai (w.alloc (Obj.cells #[Yz s,V (L ⟨b,off,I⟩) n f] 201)) w.heap.size 201 [Yz s,V (L ⟨b,off,I⟩) n f] from av);have W:=A (show Yl w.heap.size w (w.alloc (Obj.cells #[Yz s,V (L ⟨b,off,I⟩) n f] 201)) from(XI _ _).alloc (XE _) _);obtain⟨Q,am⟩:=aa (w.alloc (Obj.cells #[Yz s,V (L ⟨b,off,I⟩) n f] 201));rw[am] at ae az W;have ST:=A (show AQ Q (w.heap.size+1) l (6*0) (List.replicate (6*n) 0) w1 from⟨yl ag,by rw[List.length_replicate,J.o],λq hq=>D,ae⟩);clear ag aq av ae am hi ar ah E;go_loopw [4] (λi wr=>∃(k:Nat) (B:List Nat),k<=n/\i=G F (k:Int)/\AQ Q (w.heap.size+1) l (6*k) B wr) (λi _=>n-(Yf i).toNat)
 case atStart=>exact⟨0,_,D,rfl,ST.o⟩
 case round=>
  obtain⟨i,B,hi,rfl,g⟩:=hrel;have R:=az.o.below g.ext (Nat.lt_succ_self _);have aH:=R.cell 1;have r:=A g;by_cases aI:i<n
  ·exact a2A
  ·obtain rfl:i=n:=D;have aJ:=R.cell 0;have ap:Ext w wr:=W.o.trans (g.ext.mono D);have ax:=A ap;obtain⟨P,hP⟩:=aa (6*i-1-p);have aN:P<6*i:=by have:=HP.o;rw[J.o] at this;omega
   have al:=A (show C B P≠48 by
    have:=g.jh p (by have:=HP.o;rwa[J.o] at this);rw[J.o,hP] at this;rw[this];have:=aE.o;omega)
   clear g R ap hP;go_wp2_with fail
   go_loopw [3] (λv wi=>∃o:Nat,o<=P/\v=V (L ⟨w.heap.size+1,o,I⟩) (6*i-o) (6*i-o)/\(∀j,j<o->C B j=48)/\wi=wr) (λv _=>LL v)
   case atStart=>exact⟨0,D,rfl,λj T=>D,rfl⟩
   case round=>
    obtain⟨o,ho,rfl,au,rfl⟩:=hrel;have ab:=A au;clear au;have an:o<ln B:=by rw[r.o.len,J.o];omega
    have aA:=r.o.row.cell an;obtain⟨y,hy⟩:=aa (C B o);rw[hy] at aA;have X:=A hy;obtain⟨z,u⟩:=aa (6*i-o);have HZ:=A u;rw[u];have ah:1<=z:=D;clear an hy;by_cases ac:y=48
    ·exact a2z
    ·obtain⟨ns,ad⟩:=aa ((List.range z).map (λj=>((C B (o+j):Nat):Int)));have af:ln ns=z:=by rw[<-ad];simp
     have aD:=run_convert_bytes_arg (P:=Xz) wr 83 5 underlying83 underlying5 (w.heap.size+1) o z z ns af (λj T=>by
      rw[r.o.row.cell (by rw[r.o.len,J.o];omega),<-ad];simp[List.getD,T]) 9 underlying9
     obtain⟨S,hS⟩:=aa (strOfNums ns);have aF:=A (show S.size=z by rw[<-hS,strOfNums_size,af]);rw[hS] at aD;have aj:=A (show z<=6*i by omega);have ao:=A (show∃a:K,S=tx a/\xX a/\ak a=aw l/\ln a=z from Re (o:=o) t (by rw[J.o];exact u) (λq hq=>r.o.jh q (by rwa[J.o] at hq)) ab.o (by rw[J.o];omega) (by rw[X.o];exact ac) (by rw[ad];exact hS));clear u ad af hS;cases s with
     |false=>
      go_wp2;refine bodyPost_ret (v:= Yy S) (by simp[results,results176,go_sem]) H ?_;obtain⟨a,e1,e2,e3,e4⟩:=ao.o;exact⟨S,H,by rw[e1,show lG O l=(ak a:Int) by rw[e3];rfl];exact th e2 (by have:=aj.o;omega),ax.o⟩
     |true=>
      have aO:=aF.o;have aM:z<=600000:=by have:=aj.o;omega
      go_wp2;refine bodyPost_ret (v:= Yy (⟨#[45]⟩++S)) (by simp[results,results176,go_sem]) H ?_;obtain⟨a,e1,e2,e3,e4⟩:=ao.o;exact⟨_,H,by rw[e1,show lG Y l= -(ak a:Int) by rw[e3];rfl];exact Ha (a:=a) e2 (by have:=aj.o;omega) (by rw[e3];exact aC.o),ax.o⟩
end
section
open Kp
theorem xS.jh(h:xS z f)(hk:k<z.size):(((z[k]'hk).toNat:Int)=45/\f=1/\k=0)\/∃g:Nat,g<=9/\((z[k]'hk).toNat:Int)=((48+g:Nat):Int):=by
 by_cases b:f<=k
 ·have:=h.all k b hk hk;exact .inr ⟨(z[k]'hk).toNat-48,D,D⟩
 ·have h1:=h.f1;have a:f=1:=D;have c:k=0:=D;subst c;obtain⟨_,e⟩:=h.minus.1 a;exact .inl ⟨e,a,H⟩
theorem xS.Uy(h:xS z 0):Fb z:=⟨h.pos,by have:=h.len;omega,h.all,h.lead⟩
theorem Vt(h:xS z f)(hk:k<=z.size):sD z k<10^k:=by
 induction k with
 |zero=>exact Nat.one_pos
 |succ k a=>
  have:=a D;rcases h.jh (show k<z.size by omega) with⟨e,_,_⟩|⟨g,b,e⟩
  ·rw[IZ D e,Nat.pow_succ];omega
  ·rw[uJ D e,Nat.pow_succ];omega
def FK(z:ByteArray)(f:Nat)(w:U)(h:xS z f):XY Xz 229 #[Yy z] w λx w'=>x=YC (G F 0)/\Ext w w':=by
 have q:=h.f1;by_cases c:f=0
 ·subst c;exact oq z w h.Uy
 obtain rfl:f=1:=D;obtain⟨n,l⟩:=aa z.size;have m:0<z.size:=by have:=h.pos;omega
 have lL:1<z.size:=h.pos;have s:n<=301:=by have:=h.len;omega
 have v:1<n:=D;have I:(((z[0]'m).toNat:Int)==45)=Y:=by
  obtain⟨_,e⟩:=h.minus.1 H;exact Yg.2 e
 have J:(((z[1]'lL).toNat:Int)==48)=O:=XN.2 (h.lead lL lL);have C:((1:Int)==(n:Int))=O:=XN.2 D;have r:YG ((n:Int)>1)=Y:=Yb D;have g:=A h.all;have B:=A l;clear h q c;go_enter func229,ntmps229;go_wp2;go_loopw [4] (λi wr=>∃k:Nat,1<=k/\i=G F (k:Int)/\k<=n/\Ext w wr) (λi _=>((n:Int)-Yf i).toNat)
 case atStart=>exact⟨1,XE _,H,D,XI _ _⟩
 case round=>
  obtain⟨k,o,rfl,hk,d⟩:=hrel;have a:=A d;clear d;by_cases y:k<n
  ·have b:k<z.size:=D;have j:=g.o k o b b;have u:YG (((z[k]'b).toNat:Int)<48)=O:=XU D;have E:YG (((z[k]'b).toNat:Int)>57)=O:=XU D;clear j;go_wp2;exact⟨⟨k+1,D,by go_num,D,a.o⟩,YO⟩
  ·obtain rfl:k=n:=D;have t:¬300<(k:Int)-1:=D;exact a2G
def Vq(z:ByteArray)(f:Nat):Int:=if f=1 then -(sD z z.size:Int) else sD z z.size
def L6(v:Int)(x:Ending):Prop:=∃(u:Int) (ok:Bool),x=YC (YF #[G F u,Yz ok])/\(ok=Y->u=v)/\u.natAbs<3000000000000000000
def FX(z:ByteArray)(f:Nat)(w:U)(h:xS z f):XY Xz 230 #[Yy z] w λx w'=>L6 (Vq z f) x/\Ext w w':=by
 have L:=h.f1;have r:0<z.size:=by have:=h.pos;omega
 have K:z.size<=1000000:=by have:=h.len;omega
 by_cases I:17<z.size
 ·exact a2J
 have o:=A h;obtain⟨l,t⟩:=aa (((z[0]'r).toNat:Int)==45);have B:=A (show Vq z f=if l then -(sD z z.size:Int) else sD z z.size by
  unfold Vq;cases l with
  |true=>rw[XT (h.minus.2 ⟨r,Yg.1 t⟩)];rfl
  |false=>rw[XQ (λe=>by obtain⟨_,y⟩:=h.minus.1 e;exact XN.1 t y)];rfl)
 clear h;cases l;all_goals
  go_enter func230,ntmps230;go_wp2;go_loopw [4,5] (λn i wr=>∃(k:Nat),n=G F (sD z k:Nat)/\i=G F (k:Int)/\k<=z.size/\Ext w wr) (λ_ i _=>((z.size:Int)-Yf i).toNat)
  case atStart=>exact⟨0,H,H,D,XI _ _⟩
  case round=>
   obtain⟨k,rfl,rfl,hk,s⟩:=hrel;have c:=A s;have u:=Nat.lt_of_lt_of_le (Vt o.o hk) (Ih D);obtain⟨v,d⟩:=aa (sD z k);rw[d] at u⊢;have m:=A d;clear s d;by_cases a:k<z.size
   ·by_cases b:((z[k]'a).toNat:Int)=45
    ·have j:=A (IZ a b);have q:(((z[k]'a).toNat:Int) !=45)=O:=by rw[bne_eq_false_iff_eq];exact b
     clear b;go_wp2;exact⟨⟨k+1,by rw[j.o,m.o],by go_num,D,c.o⟩,YO⟩
    ·obtain⟨g,C,e⟩:=(o.o.jh a).resolve_left (λh=>b h.1);have j:=A (uJ a e);have E:(((z[k]'a).toNat:Int)-48)%256=(g:Int):=by rw[e];omega
     have q:(((z[k]'a).toNat:Int) !=45)=Y:=ZZ;have hu:F.wrap (g:Int)=g:=Yh _ D;clear e b;go_wp2;exact⟨⟨k+1,by rw[j.o,m.o];simp,by go_num,D,c.o⟩,YO⟩
   ·obtain rfl:k=z.size:=D;have J:F.wrap (-(v:Int))= -(v:Int):=Yh _ D;go_wp2;go_ret2;exact⟨⟨_,_,H,λ_=>by rw[B.o,m.o];rfl,D⟩,c.o⟩
theorem qG{v:Int}(w:U)(h:pM z v):XY Xz 229 #[Yy z] w λx w'=>x=YC (G F 0)/\Ext w w':=by
 obtain⟨a,rfl,h1,h2,_⟩:=h;exact FK _ _ w (Bp h1 h2)
theorem xf{v:Int}(w:U)(h:pM z v):XY Xz 230 #[Yy z] w λx w'=>L6 v x/\Ext w w':=by
 obtain⟨a,rfl,h1,h2,rfl⟩:=h;have e:Vq (tx a) (if Lib.hasPrefix a [45] then 1 else 0)=num a:=by
  unfold Vq num;rw[TD h1];cases Lib.hasPrefix a [45]<;>rfl
 rw[<-e];exact FX _ _ w (Bp h1 h2)
theorem pM.JV{v:Int}(h:pM z v):Me z:=by
 obtain⟨a,rfl,h1,h2,_⟩:=h;exact(Bp h1 h2).JV
theorem o5{v:Int}(w:U)(h:pM z v):XY Xz 174 #[Yy z] w (qq v 51 w):=by
 refine(yc w z h.JV).mono ?_;rintro e w' ⟨u,l,rfl,h1,h2,b,f,d⟩;obtain⟨a,rfl,c,g,rfl⟩:=h;obtain⟨s1,s2⟩:=UM c;refine⟨_,_,_,H,h1,h2,b,?_,f⟩;unfold lG num;rw[d,s1,s2]
theorem ya{u v:Int}(w:U)(f:pM a u)(g:pM b v):XY Xz 172 #[Yy a,Yy b] w λx w'=>x=YC (G F 0)/\Ext w w':=by
 have c:=A (qG w f);have d:=A (λW=>qG W g);clear f g;exact a2H
def WR(u v:Int)(x:Ending):Prop:=∃(p q:Int) (ok:Bool),x=YC (YF #[G F p,G F q,Yz ok])/\p.natAbs<3000000000000000000/\q.natAbs<3000000000000000000/\(ok=Y->p=u/\q=v)
def Cs {a b : ByteArray} {u v : Int} (w : U) (g : pM a u) (f : pM b v) : XY Xz 173 #[Yy a, Yy b] w λx w' => WR u v x /\ Ext w w' := by
  have d := A (xf w g);have c := A (λW => xf W f);clear g f;exact a2K
end
section
open Kp
def DY(w:U)(s:Bool)(v:Z)(l:List Nat)(a:bT w w.heap.size v l)(i:bB l)(g:ln l<=50):
  XY Xz 341 #[YE #[Yz s,v]] w λe w'=>(∃t:ByteArray,e=YC (YF #[Yy t,G F 0])/\pM t (lG s l))/\Ext w w':=by
 obtain⟨N,p,rfl,q,n,k⟩:=id a;have j:=A (λo=>GR (w.alloc o) s _ l (a.new o) i g);clear k a;go_enter func341,ntmps341;go_wp2_with(first
  |(go_at_call 229;refine(qG W1 c.o).mono ?_;rintro e m ⟨rfl,d⟩;have h:=A (f.o.tr d);clear d)
  |(go_at_call 176;refine(j.o _).mono ?_;rintro e W1 ⟨t,rfl,hi,b⟩;have c:=A hi;have f:=A (Ext.tr ((XI _ _).alloc (XE _) _) b);clear b hi))
 go_ret2;exact⟨⟨_,H,c.o⟩,h.o⟩
theorem PM{z:Int}(a:bB l)(h:lG s l=z)(d:z.natAbs<10^60):ln l<=50:=by
 rcases Nat.lt_or_ge 50 (ln l) with h1|h1
 ·have b:l≠[]:=by rintro rfl;simp at h1
  have h2:=uK a.trim b;have c:aw l=z.natAbs:=by rw[<-h];unfold lG;split <;>simp
  have f:B6^10<=B6^(ln l-1):=Nat.pow_le_pow_right YK D;have e:B6^10=10^60:=Zz;omega
 ·exact h1
theorem An{u v:Int}(c:pM a u)(d:pM b v)(h:a.size+b.size<=18): -1000000000000000000<=u*v/\u*v<=1000000000000000000:=by
 obtain⟨a,rfl,f1,_,rfl⟩:=c;obtain⟨b,rfl,e,_,rfl⟩:=d;rw[af,af] at h;exact jV f1 e h
theorem yN{u v:Int}(w:U)(d:pM a u)(c:pM b v)(f:(u*v).natAbs<10^60)(o:bE w):XY Xz 328 #[Yy a,Yy b] w λe w'=>(∃t:ByteArray,e=YC (YF #[Yy t,G F 0])/\pM t (u*v))/\Ext w w':=by
 have KB:=A (ya w d c);have KT:=A (λW=>Cs W d c);have R:=A o;have HA:=A d;have HB:=A c;have K:=A f;have O:=A (An d c);have ak:=d.size;have am:=c.size;clear o d c f;obtain⟨n,Q⟩:=aa (YG ((a.size:Int)+(b.size:Int)<=18));have ac:=A Q;go_enter func328,ntmps328;go_wp2_with(first
  |(go_at_call 173;fail)
  |(go_at_call 172;refine KB.o.mono ?_;rintro e W1 ⟨rfl,B⟩;have X1:=A B;clear B))
 refine(KT.o W1).mono ?_;rintro e I ⟨⟨x,y,ok,rfl,hx,hy,m⟩,J⟩;have j:=A (X1.o.tr J);have HV:=A m;clear J m;obtain⟨z,f⟩:=aa (F.wrap (x*y));have H:=QY (x*y);rw[f] at H;obtain⟨r,C⟩:=H;have af:=A (show ok=Y->n=Y->z=u*v fromλh1 h2=>by
  obtain⟨rfl,rfl⟩:=HV.o h1;have:=O.o (by have:=ac.o;rw[h2,XX] at this;omega);rw[<-f];exact Yh _ D)
 cases ok<;>cases n
 all_goals go_wp2_with(first
 |(go_at_call 341;refine(DY W5 s5 T V N q (PM q k K.o)).mono ?_;rintro e W6 ⟨⟨t,rfl,E⟩,ad⟩;have aj:=A (((X4.o.tr ai)).tr ad))
 |(go_at_call 342;refine(Oo W4 s3 s4 M l4 v3 X 51 (Z.grow s) ah ab ag P L YK).mono ?_;rintro e W5 ⟨s5,T,V,rfl,N,q,al,k,ai⟩;rw[S,ae] at k)
 |(go_at_call 174;refine(o5 l HB.o).mono ?_;rintro e W4 ⟨s4,X,l4,rfl,ah,ag,L,ae,s⟩;have X4:=A (i.o.tr s))
 |(go_at_call 174;refine(o5 I HA.o).mono ?_;rintro e l ⟨s3,v3,M,rfl,Z,ab,P,S,g⟩;have i:=A (j.o.tr g))
 |(go_at_call 170;refine(kg z I r C (R.o.below j.o (XE _))).mono ?_;rintro e l ⟨rfl,g⟩;have i:=A (j.o.tr g)))
 all_goals go_ret2
 all_goals first
  |exact⟨⟨_,rfl,by rw[k] at E;exact E⟩,aj.o⟩
  |exact⟨⟨_,rfl,by rw[<-af.o Z9 Z9];exact Hr r C⟩,i.o⟩
theorem OD{u v:Int}(b:bB l)(h:lG s l=u+ -v):mf u v=if ln l=0 then 0 else if s then -1 else 1:=by
 unfold mf;by_cases a:ln l=0
 ·obtain rfl:l=[]:=List.length_eq_zero_iff.1 a;have:lG s []=0:=by cases s<;>rfl
  have c:([]:List Nat).length=0:=rfl;rw[XQ D,XQ D,XT c]
 ·have d:=oS b.trim (by rintro rfl;exact a H);rw[XQ a];cases s with
  |true=>
   have:lG Y l= -(aw l:Int):=rfl;rw[XT D];rfl
  |false=>
   have:lG O l=(aw l:Int):=rfl;rw[XQ D,XT D];rfl
theorem Au{u v:Int}(w:U)(g:pM a u)(f:pM b v):XY Xz 305 #[Yy a,Yy b] w λe w'=>e=YC (YF #[G F (mf u v),G F 0])/\Ext w w':=by
 have KB:=A (ya w g f);have KT:=A (λW=>Cs W g f);have HA:=A g;have HB:=A f;clear g f;obtain⟨c,j⟩:=aa (mf u v);rw[j];have q:=A j;clear j;go_enter func305,ntmps305;go_wp2_with(first
  |(go_at_call 173;fail)
  |(go_at_call 172;refine KB.o.mono ?_;rintro e W1 ⟨rfl,o⟩;have Y:=A o;clear o))
 refine(KT.o W1).mono ?_;rintro e W2 ⟨⟨x,y,ok,rfl,hx,hy,l⟩,s⟩;have n:=A (Y.o.tr s);have Q:=A l;clear s l;cases ok
 ·go_wp2_with(first
   |(go_at_call 329;refine(NU W5 s3 s5 B J V I 51 (K.grow (k.trans (r.mono k.size))) C S P D ad YK).mono ?_;rintro e W6 ⟨s6,v6,l6,rfl,af,ae,ah,i,X⟩;rw[E,ag,Z] at i;have L:=A (OD ae i);clear i;obtain⟨A6,c6,O,_,_,_⟩:=id af;subst O;have m:=A ((X4.o.tr r).tr X))
   |(go_at_call 330;refine(xU W4 s4 M T 51 ac ab z).mono ?_;rintro e W5 ⟨s5,I,J,rfl,C,P,ad,ag,r⟩)
   |(go_at_call 174;refine(o5 t HB.o).mono ?_;rintro e W4 ⟨s4,M,T,rfl,ac,ab,z,Z,k⟩;have X4:=A (R.o.tr k))
   |(go_at_call 174;refine(o5 W2 HA.o).mono ?_;rintro e t ⟨s3,V,B,rfl,K,S,D,E,N⟩;have R:=A (n.o.tr N)))
  all_goals go_ret2
  all_goals refine⟨?_,m.o.alloc m.o.size _⟩
  all_goals rw[<-q.o,L.o]
  all_goals first
   |rfl
   |(simp_all;done)
   |trace_state
 ·obtain⟨rfl,rfl⟩:=Q.o H;have d:=q.o;unfold mf at d;by_cases h1:x<y
  ·rw[XT h1] at d;exact a3c
  ·rw[XQ h1] at d;by_cases h2:y<x
   ·rw[XT h2] at d;exact a3c
   ·rw[XQ h2] at d;exact a3c
end
section
open Kp
def OT{l:K}(h:Dg (tx l)):xX l:=by
 obtain⟨_,h2⟩:=pw h;have a:=h.pos;rw[af] at a;refine⟨h2,List.length_pos_iff.1 a,?_⟩;by_cases h1:1<ln l
 ·left
  have:=h.lead (by rw[af];exact a) (by rw[af];exact h1);rw[iO] at this;rw[List.head?_eq_getElem?,XO a];intro e;injection e with e
  rw[e] at this;exact this H
 ·obtain⟨b,rfl⟩:∃b,l=[b]:=List.length_eq_one_iff.1 D;by_cases e:b=48
  ·right;rw[e]
  ·left;simpa using e
def DH(z:ByteArray):Int:=if(aG z).1 then -(cI (aG z).2.1 (aG z).2.1.size:Int) else cI (aG z).2.1 (aG z).2.1.size
def B7(z:ByteArray):Nat:=if(aG z).2.2.2 then cI (aG z).2.2.1 (aG z).2.2.1.size else 1
theorem oL(h:ks z):pM (pN (aG z)) (DH z)/\pM (pD (aG z)) (B7 z:Nat):=by
 unfold ks at h;unfold pN pD DH B7;obtain⟨⟨g,n,d,sl⟩,o⟩:=aa (aG z);rw[o] at h⊢;dsimp only at h⊢;obtain⟨h1,h2,f⟩:=h;unfold sK at f;simp only[Bool.and_eq_true,Bool.not_eq_true',XL,Bool.or_eq_true,Bool.and_eq_false_iff,XN,Yg] at f;obtain⟨⟨⟨⟨w,j⟩,k⟩,i⟩,y⟩:=f;rw[<-o6 n] at h1 j k⊢;rw[<-o6 d] at h2 i⊢;obtain⟨a,u⟩:=aa (n.data.toList:K);obtain⟨b,s⟩:=aa (d.data.toList:K);rw[u] at h1 j k⊢;rw[s] at h2 i⊢;rw[af] at k i;have e:=OT h1;refine⟨?_,?_⟩
 ·rw[iG];refine VI e D g (λm v=> ?_);rcases j with q|q
  ·rw[m] at q;cases q
  ·apply q;rw[jK];rcases e.lead with h|h
   ·exfalso;have:=e.all;have t:=e.ne
    match a,t with
    |c::r,_=>
     simp only[List.all_cons,Bool.and_eq_true] at this;rw[iM] at v;have x:=lv this.1;have l:jh c=0:=by
      rcases Nat.eq_zero_or_pos (jh c) with h|h
      ·exact h
      ·have:=Nat.mul_pos h (Nat.pow_pos (a:=10) (n:=ln r) YK);omega
     apply h;exact a3d
   ·exact h
 ·cases sl with
  |false=>exact th (a:=[49]) ⟨YK,YK,.inl YK⟩ YK
  |true=>
   rw[XT rfl,XT rfl,iG];exact th (OT (h2 H)) D
def Su(u v:Int)(x:Ending):Prop:=∃(a b:Int) (ok:Bool),x=YC (YF #[G F a,G F b,Yz ok])/\(ok=Y->a=u/\b=v/\a.natAbs<1000000000/\b.natAbs<1000000000)
def Si(z:ByteArray)(x:Ending):Prop:=Su (DH z) ((B7 z:Nat):Int) x
theorem xV(z:ByteArray)(w:U)(f:z.size≤1000000)(h:ks z):XY Xz 303 #[.string z] w fun x w'=>Si z x∧Ext w w':=by
 have j:=A (lM z w f)
 unfold ks at h
 show XY Xz _ _ _ (fun x w'=>Su (DH z) ((B7 z:Nat):Int) x∧Ext w w')
 unfold DH B7
 obtain⟨⟨g,n,d,sl⟩,s⟩:=aa (aG z)
 rw[s] at h j⊢
 dsimp only at h⊢
 obtain⟨h1,h2,C⟩:=h
 clear C s
 have B:=A h1
 have y:=A h2
 clear h1 h2
 obtain⟨p,m⟩:=aa (cI n n.size)
 obtain⟨q,k⟩:=aa (cI d d.size)
 have K:=A (show n.size≤9→p<1000000000 from fun b=>by rw[←m];exact Nat.lt_of_lt_of_le (pJ (B.out.jh (by omega)) (XE _)) (xe b))
 have E:=A (show sl=Y→d.size≤9→q<1000000000 from fun f b=>by rw[←k];exact Nat.lt_of_lt_of_le (pJ ((y.out f).jh (by omega)) (XE _)) (xe b))
 have t:=A (fun W (b:n.size≤9)=>show XY Xz 102 #[.string n] W (fun x w'=>x= .returned (.int .i64 (p:Nat))∧Ext W w') by rw[←m];exact iU n W (B.out.jh (by omega)) b)
 have J:=A (fun W (f:sl=Y) (b:d.size≤9)=>show XY Xz 102 #[.string d] W (fun x w'=>x= .returned (.int .i64 (q:Nat))∧Ext W w') by rw[←k];exact iU d W ((y.out f).jh (by omega)) b)
 rw[m,k]
 clear m k
 by_cases o:n.size≤9
 case neg=>
  have r:(n.size:Int)>9:=by omega
  go_enter func303,ntmps303
  go_wp2_with(first
   |(go_at_call 102;fail)
   |(go_at_call 99;refine j.out.mono ?_;unfold ot;rintro e W1 ⟨rfl,a⟩;have c:=A a;clear a))
  all_goals
   go_ret3
   exact⟨⟨_,_,_,rfl,fun h=>by cases h⟩,c.out⟩
 by_cases u:d.size≤9
 case neg=>
  have r:(d.size:Int)>9:=by omega
  have I:¬(n.size:Int)>9:=by omega
  go_enter func303,ntmps303
  go_wp2_with(first
   |(go_at_call 102;fail)
   |(go_at_call 99;refine j.out.mono ?_;unfold ot;rintro e W1 ⟨rfl,a⟩;have c:=A a;clear a))
  all_goals
   go_ret3
   exact⟨⟨_,_,_,rfl,fun h=>by cases h⟩,c.out⟩
 have r:¬(d.size:Int)>9:=by omega
 have I:¬(n.size:Int)>9:=by omega
 have P:=K.out o
 have w1:F.wrap (-(p:Int))= -(p:Int):=Yh _ (by omega)
 cases sl with
 |false=>
  cases g
  all_goals
   go_enter func303,ntmps303
   go_wp2_with(first
    |(go_at_call 102;refine(t.out _ o).mono ?_;rintro e L ⟨rfl,i⟩;have l:=A (c.out.tr i);clear i)
    |(go_at_call 99;refine j.out.mono ?_;unfold ot;rintro e W1 ⟨rfl,a⟩;have c:=A a;clear a))
   go_ret3
   exact⟨⟨_,_,_,rfl,fun _=>⟨rfl,rfl,by omega,by decide⟩⟩,l.out⟩
 |true=>
  have Q:=E.out rfl u
  cases g
  all_goals
   go_enter func303,ntmps303
   go_wp2_with(first
    |(go_at_call 102;have M:=l;clear l;refine(J.out _ (by first|rfl|trivial) u).mono ?_;rintro e O ⟨rfl,v⟩;have N:=A (M.out.tr v);clear v)
    |(go_at_call 102;refine(t.out _ o).mono ?_;rintro e L ⟨rfl,i⟩;have l:=A (c.out.tr i);clear i)
    |(go_at_call 99;refine j.out.mono ?_;unfold ot;rintro e W1 ⟨rfl,a⟩;have c:=A a;clear a))
   go_ret3
   exact⟨⟨_,_,_,rfl,fun _=>⟨rfl,rfl,by omega,by omega⟩⟩,N.out⟩
def M3(a b:ByteArray)(w:U)(l:a.size<=1000000)(p:b.size<=1000000)(oa:ks a)(i:ks b)(f:bE w):XY Xz 302 #[Yy a,Yy b] w λe w'=>e=YC (G F 0)/\Ext w w':=by
 have m:=A (oI a w l f);have q:=A f;have r:=A oa;have j:=A i;clear oa i;go_enter func302,ntmps302;go_wp2_with(first
  |(go_at_call 37;have d:=c;clear c;refine(oI b _ p (q.o.below d.o (XE _))).mono ?_;rintro e s ⟨⟨t,rfl,h⟩,o⟩;obtain rfl:=h.2 j.o;clear h;have n:=A (d.o.tr o))
  |(go_at_call 37;refine m.o.mono ?_;rintro e W1 ⟨⟨k,rfl,hk⟩,g⟩;obtain rfl:=hk.2 r.o;clear hk;have c:=A g;clear g))
 go_ret;exact⟨H,n.o⟩
def xH{a b c d:ByteArray}{u v x y:Int}(w:U)(n:pM a u)(k:pM b v)(m:pM c x)(l:pM d y)(h1:(u*v).natAbs<10^60)(h2:(x*y).natAbs<10^60)(p:bE w):XY Xz 304 #[Yy a,Yy b,Yy c,Yy d] w λe w'=>(∃s t:ByteArray,e=YC (YF #[Yy s,Yy t,G F 0])/\pM s (u*v)/\pM t (x*y))/\Ext w w':=by
 have C:=A (yN w n k h1 p);have B:=A p;have z:=A (λW (h:Ext w W)=>yN W m l h2 (B.o.below h (XE _)));clear n k m l h1 h2;go_enter func304,ntmps304;go_wp2_with(first
  |(go_at_call 328;have o:=f;clear f;refine(z.o _ o.o).mono ?_;rintro e I ⟨⟨K,rfl,g⟩,D⟩;have r:=A g;clear g;have q:=A (o.o.tr D))
  |(go_at_call 328;refine C.o.mono ?_;rintro e W1 ⟨⟨J,rfl,i⟩,j⟩;have E:=A i;clear i;have f:=A j;clear j))
 go_ret3
 exact⟨⟨_,_,H,E.o,r.o⟩,q.o⟩
def lI(a b:ByteArray):Int:=mf (DH a*(B7 b:Nat)) (DH b*(B7 a:Nat))
def yX{x y:Int}(hx:x.natAbs<1000000000)(hy:y.natAbs<1000000000): -1000000000000000000<=x*y/\x*y<=1000000000000000000:=by
 have h:(x*y).natAbs<=1000000000*1000000000:=by rw[Int.natAbs_mul];exact Nat.mul_le_mul D D
 omega
def zZ(a b:ByteArray)(w:U)(ha:a.size<=100000)(hb:b.size<=100000)(oa:ks a)(r:ks b)(h1:(DH a*(B7 b:Nat)).natAbs<10^60)(h2:(DH b*(B7 a:Nat)).natAbs<10^60)(f:bE w):XY Xz 279 #[Yy a,Yy b] w λe w'=>e=YC (YF #[G F (lI a b),G F 0])/\Ext w w':=by
 have KC:=A (M3 a b w D D oa r f);have m:=A (λW=>xV a W D oa);have y:=A (λW=>xV b W D r);have I:=A (λW=>oU a W D);have C:=A (λW=>oU b W D);obtain⟨q,k⟩:=oL oa;obtain⟨x,n⟩:=oL r;obtain⟨c,d⟩:=aa (lI a b);rw[d];unfold lI at d;unfold Si at m y;obtain⟨na,M⟩:=aa (pN (aG a));obtain⟨da,ab⟩:=aa (pD (aG a));obtain⟨nb,R⟩:=aa (pN (aG b));obtain⟨db,ac⟩:=aa (pD (aG b));rw[M] at I q;rw[ab] at I k;rw[R] at C x;rw[ac] at C n;obtain⟨n1,L⟩:=aa (DH a);obtain⟨n2,Q⟩:=aa (DH b);obtain⟨d1,K⟩:=aa (((B7 a:Nat):Int):Int);obtain⟨d2,e4⟩:=aa (((B7 b:Nat):Int):Int);rw[L] at q h1 d m;rw[Q] at x h2 d y;rw[K] at k h2 d m;rw[e4] at n h1 d y;have PP:=A (λW (h:Ext w W)=>xH W q n x k h1 h2 (f.below h (XE _)));have HC:=A d;clear M ab R ac f q k x n L Q K e4 h1 h2 d oa r;go_enter func279,ntmps279;go_wp2_with(go_at_call 302;refine KC.o.mono ?_;rintro e W1 ⟨rfl,Z⟩;have X1:=A Z;clear Z)
 refine(m.o W1).mono ?_;rintro e W2 ⟨⟨o,i,X,rfl,O⟩,ad⟩;have X2:=A (X1.o.tr ad);have ae:=A O;clear ad O;go_wp2_with(fail)
 refine(y.o W2).mono ?_;rintro e W3 ⟨⟨j,l,N,rfl,J⟩,P⟩;have S:=A (X2.o.tr P);have af:=A J;clear P J;by_cases E:X=Y/\N=Y
 ·obtain⟨rfl,rfl⟩:=E;obtain⟨rfl,rfl,b1,b2⟩:=ae.o H;obtain⟨rfl,rfl,b3,b4⟩:=af.o H;have m1:=yX b1 b4;have m2:=yX b3 b2;have w1:F.wrap (o*l)=o*l:=Yh _ D;have w2:F.wrap (j*i)=j*i:=Yh _ D;have g:=HC.o;unfold mf at g;obtain⟨u,hu⟩:=aa (o*l);obtain⟨v,z⟩:=aa (j*i);rw[hu,z] at g;rw[hu] at w1;rw[z] at w2;by_cases T:u<v
  ·rw[XT T] at g;exact a3f
  ·rw[XQ T] at g;by_cases V:v<u
   ·rw[XT V] at g;exact a3f
   ·rw[XQ V] at g;exact a3f
 ·have HK:=A E;obtain⟨u,hu⟩:=aa (F.wrap (o*l));obtain⟨v,z⟩:=aa (F.wrap (j*i));clear E;cases X<;>cases N
  case true.true=>exact absurd ⟨H,H⟩ HK.o
  all_goals go_wp2_with(first
   |(go_at_call 305;refine(Au _ B.o f.o).mono ?_;rw[HC.o];rintro e W7 ⟨rfl,ai⟩;have X7:=A (X6.o.tr ai))
   |(go_at_call 304;refine(PP.o _ X5.o).mono ?_;rintro e W6 ⟨⟨s,t,rfl,B,f⟩,ag⟩;have B:=A B;have f:=A f;have X6:=A (X5.o.tr ag))
   |(go_at_call 280;with_reducible refine(C.o _).mono ?_;rintro e W5 ⟨rfl,aj⟩;have X5:=A (X4.o.tr aj))
   |(go_at_call 280;refine(I.o _).mono ?_;rintro e W4 ⟨rfl,ah⟩;have X4:=A (S.o.tr ah)))
  all_goals go_ret2
  all_goals exact⟨rfl,X7.o⟩
end
section
open Kp
def wO(a:ByteArray):Nat:=if h:0<a.size then(if((a[0]'h).toNat:Int)==45 then a.size-1 else a.size) else 0
def qt(l:K):wO (tx l)=(own l).length:=by
 unfold wO;cases l with
 |nil=>rfl
 |cons b l=>
  rw[dif_pos (by rw[af];simp),iO,gP];simp only[af];show(if((b.toNat:Int)==45)=Y then _ else _)=(if(L b==L 45)=Y then _ else _:K).length;by_cases h:b=45
  ·subst h;rfl
  ·have h1:((b.toNat:Int)==45)=O:=by
    rw[XN];intro e;exact h (by apply UInt8.toNat_inj.1;show b.toNat=45;omega)
   have h2:(L b==L (45:UInt8))=O:=Zk;rw[h1,h2];rfl
def E4(a:K):pN (aG (tx a))=tx (Lib.cut a [47]).1:=by
 obtain⟨co,c2,d⟩:=uv a;rw[kQ];unfold pN;dsimp only;rw[<-co,gP,<-d];cases h:(Lib.cut a [47]).1 with
 |nil=>rfl
 |cons b l=>
  rw[lW];by_cases c:b=45
  ·subst c;rfl
  ·have h2:(L b==L (45:UInt8))=O:=by simpa using c
   simp only[List.head?_cons,h2]
   rfl
def LQ{l:List Ld}(h1:ln l<=64)(h2:∀j,j<ln l->lT l j=0):fh l=0:=by
 unfold fh;rw[XQ D];exact bh h2
end
section
open Kp
structure iz(z:ByteArray):Prop where
 ok:ks z
 n:wO (pN (aG z))<=12
 d:wO (pD (aG z))<=12
theorem Sp{v:Int}(h:pM t v)(h1:wO t<=12):v.natAbs<1000000000000:=by
 obtain⟨a,rfl,f,_,rfl⟩:=h;rw[qt] at h1;rw[uP];have h2:=lB (dD f);have b:(10:Nat)^(own a).length<=10^12:=Nat.pow_le_pow_right YK h1;omega
theorem Pn(c:iz a)(d:iz b):(DH a*(B7 b:Nat)).natAbs<10^60:=by
 have h1:=Sp (oL c.ok).1 c.n;have h2:=Sp (oL d.ok).2 d.d;rw[Int.natAbs_mul];have e:(DH a).natAbs*((B7 b:Nat):Int).natAbs<=1000000000000*1000000000000:=Nat.mul_le_mul D D;exact Nat.lt_of_le_of_lt e Zz
def tN(z:ByteArray)(w:U)(g:z.size<=1000001)(b:0<z.size):XY Xz 278 #[Yy z] w λx w'=>x=YC (G F (wO z:Nat))/\w'=w:=by
 obtain⟨d,f⟩:=aa (((z[0]'b).toNat:Int)==45);have a:=A (show wO z=if d then z.size-1 else z.size by unfold wO;rw[dif_pos b,f]);have w1:F.wrap ((z.size:Int)-1)=(z.size:Int)-1:=Yh _ D;have e:(z.size:Int)-1=((z.size-1:Nat):Int):=D;have c:=A e;clear e;cases d
 ·go_enter func278,ntmps278;go_wp2;go_ret;exact⟨by rw[a.o];rfl,rfl⟩
 ·go_enter func278,ntmps278;go_wp2;go_ret;exact⟨by first|(rw[a.o,XT rfl,<-c.o];rfl)|(rw[a.o,XT trivial,<-c.o];rfl),rfl⟩
def rL(a b:ByteArray)(w:U)(d:a.size<=100000)(h:b.size<=100000)(sa:iz a)(sb:iz b)(f:bE w):XY Xz 256 #[Yy a,Yy b] w λe w'=>e=YC (G F (lI a b))/\Ext w w':=by
 have c:=A (zZ a b w d h sa.ok sb.ok (Pn sa sb) (Pn sb sa) f);clear sa sb;go_enter func256,ntmps256;go_wp2_with(go_at_call 279;refine c.o.mono ?_;rintro e W1 ⟨rfl,g⟩)
 go_ret;exact⟨H,g⟩
structure WK(a b c d:ByteArray):Prop where
 sa:iz a
 sb:iz b
 sc:iz c
 sd:iz d
 ab:lI a b<0
 cd:lI c d<0
def Gu(o:nc):Prop:=WK (tx o.left) (tx o.right) (tx o.low) (tx o.high)
def Gu.sh{o:nc}(h:Gu o):iz (tx o.left)/\iz (tx o.right)/\iz (tx o.low)/\iz (tx o.high):=⟨h.sa,h.sb,h.sc,h.sd⟩
def RD(b a:nc):Bool:=b.side==a.side&&YG (lI (tx b.left) (tx a.right)<0)&&YG (lI (tx a.left) (tx b.right)<0)&&YG (lI (tx b.low) (tx a.high)<0)&&YG (lI (tx a.low) (tx b.high)<0)
def AK(w:U)(f g:nc)(h:qX f)(k:qX g)(g1:iz (tx f.left)/\iz (tx f.right)/\iz (tx f.low)/\iz (tx f.high))(g2:iz (tx g.left)/\iz (tx g.right)/\iz (tx g.low)/\iz (tx g.high))(ht:bE w):XY Xz 223 #[YE #[G F f.side,Yy (tx f.left),Yy (tx f.right),Yy (tx f.low),Yy (tx f.high)],YE #[G F g.side,Yy (tx g.left),Yy (tx g.right),Yy (tx g.low),Yy (tx g.high)]] w λe w'=>e=YC (Yz (RD f g))/\Ext w w':=by
 obtain⟨h1,h2,h3,Y⟩:=h;obtain⟨k1,k2,Z,k4⟩:=k;obtain⟨s,a,b,c,d⟩:=f;obtain⟨n,a',j,l,m⟩:=g;unfold RD;dsimp only at h1 h2 h3 Y k1 k2 Z k4 g1 g2⊢;generalize tx a=a at *;generalize tx b=b at *;generalize tx c=c at *;generalize tx d=d at *;generalize tx a'=a' at *;generalize tx j=j at *;generalize tx l=l at *;generalize tx m=m at *;have o:=gI w (.cells #[G F s,Yy a,Yy b,Yy c,Yy d] 39) (.cells #[G F n,Yy a',Yy j,Yy l,Yy m] 39);have D:=(ai.new w 39 [G F s,Yy a,Yy b,Yy c,Yy d]).ext ((XI _ _).alloc (XE _) (.cells #[G F n,Yy a',Yy j,Yy l,Yy m] 39));have B:=ai.new (w.alloc (.cells #[G F s,Yy a,Yy b,Yy c,Yy d] 39)) 39 [G F n,Yy a',Yy j,Yy l,Yy m];rw[Ya] at B;obtain⟨N,u⟩:=aa ((w.alloc (.cells #[G F s,Yy a,Yy b,Yy c,Yy d] 39)).alloc (.cells #[G F n,Yy a',Yy j,Yy l,Yy m] 39));obtain⟨ga,gb,gc,gd⟩:=g1;obtain⟨ha,hb,hc,hd⟩:=g2;have q:=A (λx y W (hx:x.size<=604) (hy:y.size<=604) (sx:iz x) (sy:iz y) (h:Ext w W)=>rL x y W (Ye hx YK) (Ye hy YK) sx sy (ht.below h (XE _)));have K1:=A (λW h=>q.o a j W h1 k2 ga hb h);have K2:=A (λW h=>q.o a' b W k1 h2 ha gb h);have S:=A (λW h=>q.o c m W h3 k4 gc hd h);have K4:=A (λW h=>q.o l d W Z Y hc gd h);clear q ga gb gc gd ha hb hc hd;obtain⟨r1,X⟩:=aa (lI a j);obtain⟨r2,e2⟩:=aa (lI a' b);obtain⟨v,V⟩:=aa (lI c m);obtain⟨r4,e4⟩:=aa (lI l d);rw[X] at K1⊢;rw[e2] at K2⊢;rw[V] at S⊢;rw[e4] at K4⊢;clear X e2 V e4;rw[show((w.alloc (.cells #[G F s,Yy a,Yy b,Yy c,Yy d] 39)).alloc (.cells [Value.int .i64 n,Yy a',Yy j,Yy l,Yy m].toArray 39))=N from u] at B;rw[u] at o D;have o:=A o;have ab:=A u;have K:=A (λW (h:Ext N W)=>D.ext h);have M:=A (λW (h:Ext N W)=>B.ext h);clear u D B ht;by_cases hs:s=n
 case neg=>
  go_enter func223,ntmps223;go_wp2_with fail
  go_ret;exact⟨by rw[show(s==n)=O from XN.2 hs];rfl,by rw[ab.o];exact o.o⟩
 subst hs;obtain⟨b0,Q⟩:=aa (s==s&&YG (r1<0)&&YG (r2<0)&&YG (v<0)&&YG (r4<0));have z:=A (show b0=(YG (r1<0)&&YG (r2<0)&&YG (v<0)&&YG (r4<0)) by rw[<-Q];simp);rw[Q];clear Q;go_enter func223,ntmps223;go_wp2_with(go_at_call 256;fail)
 rw[ab.o];refine(K1.o _ o.o).mono ?_;rintro e W1 ⟨rfl,P⟩;have J:=A (o.o.tr P);have C:=A P;have t:=λi=>(K.o _ C.o).cell i
 have r:=λi=>(M.o _ C.o).cell i
 clear P;by_cases ad:r1<0
 case neg=>
  go_wp2_with fail
  go_ret;exact⟨by rw[z.o,XU (show¬r1<0 by omega)];simp,J.o⟩
 go_wp2_with(go_at_call 256;fail)
 clear t r;refine(K2.o _ J.o).mono ?_;rintro e W2 ⟨rfl,R⟩;have L:=A (J.o.tr R);have H:=A (C.o.tr R);have t:=λi=>(K.o _ H.o).cell i
 have r:=λi=>(M.o _ H.o).cell i
 clear R;by_cases ae:r2<0
 case neg=>
  go_wp2_with fail
  go_ret;exact⟨by rw[z.o,XU (show¬r2<0 by omega)];simp,L.o⟩
 go_wp2_with(go_at_call 256;fail)
 clear t r;refine(S.o _ L.o).mono ?_;rintro e W3 ⟨rfl,E⟩;have I:=A (L.o.tr E);have T:=A (H.o.tr E);have t:=λi=>(K.o _ T.o).cell i
 have r:=λi=>(M.o _ T.o).cell i
 clear E;by_cases af:v<0
 case neg=>
  go_wp2_with fail
  go_ret;exact⟨by rw[z.o,XU (show¬v<0 by omega)];simp,I.o⟩
 go_wp2_with(go_at_call 256;fail)
 clear t r;refine(K4.o _ I.o).mono ?_;rintro e W4 ⟨rfl,ac⟩;have X4:=A (I.o.tr ac);clear ac;go_wp2_with fail
 all_goals
  go_ret;exact⟨by rw[z.o];simp[*],X4.o⟩
end
section
open Kp
def Fh{a b:K}(h:tx a=tx b):a=b:=by
 have:=Yv (λz:ByteArray=>z.data.toList) h;simpa[bH] using this
def BO(a:K):K:=(Lib.cut a [47]).1
def xE(a:K):K:=if(Lib.cut a [47]).2.2=Y then(Lib.cut a [47]).2.1 else [49]
def Is(a:K):pD (aG (tx a))=tx (xE a):=by
 obtain⟨_,c2,_⟩:=uv a;rw[kQ];unfold pD xE;dsimp only;rw[c2];split
 ·rfl
 ·rfl
structure Ws(a:K)(n:Int)(d:Nat):Prop where
 fn:aQ (BO a)=Y
 fd:aQ (xE a)=Y
 ln:(own (BO a)).length<=12
 ld:(own (xE a)).length<=12
 vn:num (BO a)=n
 vd:num (xE a)=(d:Int)
def MI{a:K}(h:iz (tx a)):Ws a (DH (tx a)) (B7 (tx a)):=by
 obtain⟨⟨x,d,f1,_,v1⟩,⟨y,e,f,_,g⟩⟩:=oL h.ok;have c:=h.n;have b:=h.d;rw[E4] at d c;rw[Is] at e b;rw[qt] at c b;obtain rfl:=Fh d;obtain rfl:=Fh e;exact⟨f1,f,c,b,v1,g⟩
def Cv(x y:K)(h:x.all ix=Y):(x++47::y).findIdx (· ==47)=ln x:=by
 induction x with
 |nil=>rfl
 |cons b x a=>
  simp only[List.all_cons,Bool.and_eq_true] at h;have c:(b==(47:UInt8))=O:=by
   rw[XN];rintro rfl;exact absurd h.1 YK
  rw[List.cons_append,List.findIdx_cons,c,a h.2]
  rfl
def IE(x y:K)(h:x.all ix=Y):Lib.cut (x++47::y) [47]=(x,y,Y):=by
 rw[vz,Cv x y h,XT YL];simp
def Il(x:K)(h:x.all ix=Y):Lib.cut x [47]=(x,[],O):=by
 have:x.findIdx (· ==47)=ln x:=by
  rw[List.findIdx_eq_length];intro b a;rw[List.all_eq_true] at h;rw[XN];rintro rfl;exact absurd (h _ a) YK
 rw[vz,this,XQ D]
def oW(s:K):s=lead s++s.drop (lead s).length:=by
 unfold lead
 induction s with
 |nil=>rfl
 |cons b s a=>
  rw[List.takeWhile_cons];split
  ·rw[List.cons_append,List.length_cons,List.drop_succ_cons,<-a]
  ·rfl
def Up(a:K):DH (tx a)=if(a.head?==L 45)=Y then -(ak (Lib.cut (own a) [47]).1:Int) else ak (Lib.cut (own a) [47]).1:=by
 unfold DH;rw[kQ];dsimp only;rw[iG]
def VQ(a:K):B7 (tx a)=if(Lib.cut (own a) [47]).2.2=Y then ak (Lib.cut (own a) [47]).2.1 else 1:=by
 unfold B7;rw[kQ];dsimp only;rw[iG]
theorem pj{s:K}{r:K}(h:dA s=L (n,r)):n=ak (lead s)/\r=s.drop (lead s).length:=by
 unfold dA at h;split at h
 ·cases h
 ·injection h with h;injection h with h1 h2;exact⟨h1.symm,h2.symm⟩
def CF{a:K}(h:bS a=Y):dK a=(DH (tx a),((B7 (tx a):Nat):Int)):=by
 unfold dK;rw[XT h,Up,VQ];unfold bS at h;unfold vR;have k:((own a).length<ln a)=((a.head?==L 45)=Y):=by
  rw[gP];cases a with
  |nil=>simp
  |cons b r=>by_cases o:b=45<;>simp[o]
 cases f:dA (own a) with
 |none=>rw[f] at h;cases h
 |some p=>
  obtain⟨n,r⟩:=p;rw[f] at h;obtain⟨j,v⟩:=pj f;have e:=oW (own a);rw[<-v] at e;dsimp only at h⊢;split at h
  ·cases h
  ·cases r with
   |nil=>
    rw[List.append_nil] at e;rw[Il (own a) (by rw[e];exact lz _)];dsimp only;rw[j,<-e];simp only[k];simp
   |cons c i=>
    dsimp only at h⊢;split at h
    ·rename_i t;subst t;rw[e,IE _ _ (lz _)];cases g:dA i with
     |none=>rw[g] at h;cases h
     |some u=>
      obtain⟨d,q⟩:=u;rw[g] at h;dsimp only at h;simp only[Bool.and_eq_true] at h;have w:q=[]:=by cases q with
       |nil=>rfl
       |cons _ _=>simp at h
      obtain⟨s,m⟩:=pj g;have l:=oW i;rw[<-m,w,List.append_nil] at l;dsimp only;rw[<-e,j,s,<-l];simp only[k];simp
    ·cases h
def Lx(x:Nat)(l:List Nat):val (x::l)=x+B*val l:=by
 unfold val;rw[List.length_cons,Nat.add_comm (ln l) 1,qb];have:S (λk=>C (x::l) (1+k)) (ln l)=S (C l) (ln l):=fu (λk _=>by unfold C;rw[Nat.add_comm];rfl);rw[this];simp[S,C]
def Nd(n:Nat):∃l,Canon l/\val l=n:=by
 induction n using Nat.strongRecOn with
 |_ n g=>
  by_cases e:n=0
  ·subst e;exact⟨[],⟨λd a=>by simp at a,λd a=>by simp at a⟩,H⟩
  ·obtain⟨l,b,c⟩:=g (n/B) (Nat.div_lt_self D YK);refine⟨n%B::l,⟨λd a=> ?_,λd a=> ?_⟩,?_⟩
   ·rcases List.mem_cons.1 a with rfl|h
    ·exact Nat.mod_lt _ YK
    ·exact b.small d h
   ·cases l with
    |nil=>
     simp at a;have:n/B=0:=by rw[<-c];rfl
     have f:=Nat.div_add_mod n B;rw[this] at f;omega
    |cons y l=>exact b.trim d (by simpa using a)
   ·rw[Lx,c,Nat.add_comm];exact Nat.div_add_mod n B
def wv(n:Nat):Canon (cZ n)/\val (cZ n)=n:=by
 obtain⟨l,a,b⟩:=Nd n;rw[nf a b];exact⟨a,b⟩
def vm(n:Nat):Lib.itoa (n:Int)=Lib.decDigits n:=by unfold Lib.itoa;rw[XQ D,Int.toNat_natCast]
def UW(c:Nat):(Lib.repeatL [48] c).all ix=Y/\ak (Lib.repeatL [48] c)=0:=by
 induction c with
 |zero=>exact⟨H,H⟩
 |succ c a=>
  have e:Lib.repeatL [48] (c+1)=48::Lib.repeatL [48] c:=rfl;rw[e,iM,List.all_cons,a.1,a.2];exact⟨H,by simp[show jh 48=0 by decide]⟩
theorem N9(h:n<1000000000):(qp O n).all ix=Y/\ak (qp O n)=n/\(qp O n).length=9:=by
 have c:=nu n h;obtain⟨a,b,_⟩:=eA n;obtain⟨r1,r2⟩:=UW (9-(Lib.itoa n).length);have e:qp O n=Lib.repeatL [48] (9-(Lib.itoa n).length)++Lib.itoa n:=rfl;rw[e];refine⟨by rw[List.all_append,r1,vm,a];rfl,by rw[yW,r2,vm,b];omega,by rw[Yc,jH];omega⟩
theorem O9(g:Canon l):∀k,1<=k->k<=ln l->(mK l k).all ix=Y/\mK l k≠[]/\(mK l k).head?≠L 48/\ak (mK l k)=S (λi=>C l (ln l-k+i)) k:=by
 intro k
 induction k with
 |zero=>intro h;omega
 |succ k u=>
  intro _ hk;by_cases m:k=0
  ·subst m;have e:mK l 1=Lib.decDigits (C l (ln l-1)):=by
    show []++qp Y (C l (ln l-1-0))=_;rw[List.nil_append,Nat.sub_zero,<-vm];rfl
   have q:C l (ln l-1)≠0:=g.trim _ (by rw[List.getLast?_eq_getElem?,XO D,mS D]);obtain⟨a,b,c⟩:=eA (C l (ln l-1));rw[e];exact⟨a,c,yT _ q,by rw[b];simp[S]⟩
  ·obtain⟨a,b,c,d⟩:=u D D;have e:mK l (k+1)=mK l k++qp O (C l (ln l-1-k)):=by
    show mK l k++qp (k==0) (C l (ln l-1-k))=_;rw[show(k==0)=O from XN.2 m]
   obtain⟨s,t,n⟩:=N9 (aB g.small (ln l-1-k));rw[e];refine⟨by rw[List.all_append,a,s];rfl,by simp[b],?_,?_⟩
   ·cases f:mK l k with
    |nil=>exact absurd f b
    |cons x y=>rw[f] at c;exact c
   ·rw[yW,d,t,n,Nat.add_comm k 1,qb];have v:S (λj=>C l (ln l-(1+k)+(1+j))) k=S (λi=>C l (ln l-k+i)) k:=fu λi hi=>by
     rw[show ln l-(1+k)+(1+i)=ln l-k+i by omega]
    rw[v];have o:S (λi=>C l (ln l-(1+k)+i)) 1=C l (ln l-1-k):=by
     simp only[S,Nat.pow_zero,Nat.mul_one,Nat.zero_add,Nat.add_zero];rw[show ln l-(1+k)=ln l-1-k by omega]
    rw[o,Nat.pow_one];have r:(10:Nat)^9=B:=YK;rw[r,Yd,Nat.add_comm]
theorem Cx(g:Canon l)(s:Bool):aQ (BL s l)=Y/\num (BL s l)=(if s then -(val l:Int) else val l)/\(ln l<=30->(own (BL s l)).length<=300):=by
 unfold BL;split
 ·rename_i h;subst h;refine⟨YK,?_,λ_=>YK⟩;have:num [48]=0:=YK;rw[this];cases s<;>rfl
 ·rename_i h;have k:=List.length_pos_iff.2 h;obtain⟨a,b,c,d⟩:=O9 g (ln l) k (XE _);have f:xX (mK l (ln l)):=⟨a,b,.inl c⟩;have j:ak (mK l (ln l))=val l:=by
   rw[d,Nat.sub_self];unfold val;exact fu λi _=>by rw[Nat.zero_add]
  have m:=uN g.small (ln l);cases s with
  |false=>
   have e:LS O++mK l (ln l)=mK l (ln l):=rfl;rw[e];exact⟨f.form,by unfold num;rw[f.pre,f.own,j],λh=>by rw[f.own];omega⟩
  |true=>
   have e:LS Y++mK l (ln l)=45::mK l (ln l):=rfl;rw[e];exact⟨f.neg (λe=>c Z4),by unfold num;rw[rA,jT,j],λh=>by rw[jT];omega⟩
def QM(a b:K):(if(Lib.hasPrefix a [45] !=Lib.hasPrefix b [45])=Y then -((ak (own a)*ak (own b):Nat):Int) else((ak (own a)*ak (own b):Nat):Int))=num a*num b:=by
 unfold num;cases Lib.hasPrefix a [45]<;>cases Lib.hasPrefix b [45]<;>simp[Int.neg_mul,Int.mul_neg]
def DG{a b:K}(i:aQ a=Y)(c:aQ b=Y)(la:(own a).length<=12)(lb:(own b).length<=12):(kr a b).2=0/\kq (kr a b).1=0/\num (kr a b).1=num a*num b:=by
 unfold kr dS;rw[kP i D,kP c D,XT rfl,XT rfl];unfold xO;split
 ·rename_i h;have o:=jV i c h;obtain⟨x,e,f,l,v⟩:=Hr (z:=num a*num b) D D;obtain rfl:=Fh e;exact⟨H,kP f l,v⟩
 ·obtain⟨d,j⟩:=wv (ak (own a)*ak (own b));have q:=lB (dD i);have t:=lB (dD c);have h1:(10:Nat)^(own a).length<=10^12:=Nat.pow_le_pow_right YK la;have h2:(10:Nat)^(own b).length<=10^12:=Nat.pow_le_pow_right YK lb;have n:ak (own a)*ak (own b)<=10^12*10^12:=Nat.mul_le_mul D D;have k:(cZ (ak (own a)*ak (own b))).length<=30:=by
   obtain⟨l,e⟩:=aa (cZ (ak (own a)*ak (own b)));rw[e] at d j⊢;rcases Nat.lt_or_ge 30 (ln l) with h|h
   ·have m:l≠[]:=by rintro rfl;simp at h
    have s:=xk d.trim m;have r:B^3<=B^(ln l-1):=Nat.pow_le_pow_right YK D;have u:B^3>10^12*10^12:=Zz;omega
   ·exact h
  obtain⟨w1,w2,g⟩:=Cx d (Lib.hasPrefix a [45] !=Lib.hasPrefix b [45]);have g:=g k;unfold re;rw[XQ D];refine⟨H,kP w1 g,?_⟩;rw[w2,j];exact QM a b
def Ac{a:K}{p:K×K}(h:eU a=L p):p=(BO a,xE a):=by
 unfold BO xE;unfold eU at h;dsimp only at h;split at h
 ·cases h
 ·split at h
  ·rename_i q;injection h with e;rw[<-e,q];simp
  ·rename_i q;split at h
   ·cases h
   ·injection h with e;rw[<-e];simp at q;rw[q];simp
def B8{a:K}(h:ks (tx a)):bU a=(BO a,xE a):=by
 have b:=Pz h;unfold aC at b;unfold bU;cases c:eU a with
 |none=>rw[c] at b;cases b
 |some p=>rw[Ac c];rfl
def ki{a b:K}(d:iz (tx a))(e:iz (tx b)):jf a b=(lI (tx a) (tx b),0):=by
 unfold jf lI;split
 ·rename_i h;simp only[Bool.and_eq_true] at h;rw[CF h.1,CF h.2]
 ·rw[B8 d.ok,B8 e.ok];have pa:=MI d;have c:=MI e;obtain⟨u1,f,g⟩:=DG pa.fn c.fd pa.ln c.ld;obtain⟨v1,k,i⟩:=DG c.fn pa.fd c.ln pa.ld;have j:uI (BO a) (xE a) (BO b) (xE b)=⟨(kr (BO a) (xE b)).1,(kr (BO b) (xE a)).1,0⟩:=by
   unfold uI;rw[XQ (by rw[u1];simp),v1]
  dsimp only;rw[j];dsimp only;rw[XQ YL];unfold nV dS;rw[f,k,XT rfl,XT rfl,g,i,pa.vn,pa.vd,c.vn,c.vd]
def Qr{a:K}(h:iz (tx a)):iw a=0:=by
 unfold iw;rw[XT (Pz h.ok)];have d:=MI h;cases o:eU a with
 |none=>rfl
 |some p=>
  rw[Ac o];dsimp only;have h1:=d.ln;have h2:(xE a).length<=12:=by
   have:=d.ld;have j:own (xE a)=xE a:=by
    rcases mu d.fd with h|⟨r,e,f,m⟩
    ·exact h.own
    ·exfalso;have b:=d.vd;rw[e] at b;unfold num at b;rw[rA,jT] at b;simp only[Yr] at b;have k:ak r=0:=D;have:=f.lead.resolve_right m;have g:=f.all;have i:=f.ne
     match r,i with
     |c::t,_=>
      simp only[List.all_cons,Bool.and_eq_true] at g;rw[iM] at k;have q:=lv g.1;have l:jh c=0:=by
       rcases Nat.eq_zero_or_pos (jh c) with h|h
       ·exact h
       ·have:=Nat.mul_pos h (Nat.pow_pos (a:=10) (n:=ln t) YK);omega
      apply this;exact a3d
   rwa[j] at this
  rw[XQ D]
def Mu{a b:nc}(c:Gu a)(d:Gu b):xr a b=RD a b:=by
 unfold xr RD;rw[ki c.sa d.sb,ki d.sa c.sb,ki c.sc d.sd,ki d.sc c.sd]
end
section
open Kp
def wB(l:K):nX l=Y↔Dg (tx l):=by
 refine⟨λh=> ?_,λh=>(pw h).1⟩;unfold nX at h;simp only[Bool.and_eq_true,XX] at h;unfold kv at h;have a:=oW l;have j:(lead l).length<=ln l:=by have:=Yv List.length a;rw[Yc] at this;omega
 split at h
 ·exact absurd H h.1
 ·rename_i c;have d:lead l=l:=by
   have:l.drop (lead l).length=[]:=List.drop_eq_nil_of_le D;rw[this,List.append_nil] at a;exact a.symm
  have g:l.all ix=Y:=by rw[<-d];exact lz _
  rw[d] at h c;refine⟨ZB,λi h1 e=>c ⟨by rw[af] at h1;exact h1,?_⟩,λm f=> ?_⟩
  ·rw[iO] at e;cases l with
   |nil=>simp at h
   |cons b l=>
    rw[List.head?_cons]
    congr 1
    apply UInt8.toNat_inj.1;have e:((b.toNat:Int))=48:=e;show b.toNat=48;omega
  ·rw[iO];have:=List.all_eq_true.1 g _ (List.getElem_mem (by rw[af] at f;exact f:m<ln l));rw[uX] at this;exact a0r
open Classical in
def CA(l:K):YG (Dg (tx l))=nX l:=by
 rw[Bool.eq_iff_iff,XX];exact(wB l).symm
theorem ML{s:K}{r:K}(h:dA s=L (n,r)):(lead s).length<=8:=by
 unfold dA at h;split at h
 ·cases h
 ·omega
def QS{a:K}(h:bS a=Y):(Lib.cut (own a) [47]).1.length<=8/\(Lib.cut (own a) [47]).2.1.length<=8/\((Lib.cut (own a) [47]).2.2=Y->Nat.gcd (ak (Lib.cut (own a) [47]).1) (ak (Lib.cut (own a) [47]).2.1)=1):=by
 unfold bS at h;cases g:dA (own a) with
 |none=>rw[g] at h;cases h
 |some p=>
  obtain⟨n,r⟩:=p;rw[g] at h;have k:=ML g;obtain⟨m,u⟩:=pj g;have f:=oW (own a);rw[<-u] at f;dsimp only at h;split at h
  ·cases h
  ·cases r with
   |nil=>
    rw[List.append_nil] at f;rw[Il (own a) (by rw[f];exact lz _)];exact⟨by rw[f];exact k,YL,λh=>YM⟩
   |cons c b=>
    dsimp only at h;split at h
    ·rename_i s;subst s;rw[f,IE _ _ (lz _)];cases i:dA b with
     |none=>rw[i] at h;cases h
     |some t=>
      obtain⟨d,q⟩:=t;rw[i] at h;dsimp only at h;simp only[Bool.and_eq_true,XX] at h;have v:q=[]:=List.isEmpty_iff.1 h.1.1;obtain⟨o,l⟩:=pj i;have j:=oW b;rw[<-l,v,List.append_nil] at j;refine⟨k,?_,λ_=> ?_⟩
      ·show ln b<=8;rw[j];exact ML i
      ·show Nat.gcd (ak (lead (own a))) (ak b)=1;have e:ak b=d:=by rw[o,<-j]
       rw[<-m,e];exact h.2
    ·cases h
def NO{n d:K}(f1:aQ n=Y)(c:aQ d=Y)(l1:(own n).length<=300)(l2:(own d).length<=300):
  ((nw n d).2=0/\(nw n d).1=[49])↔Nat.gcd (ak (own n)) (ak (own d))=1:=by
 unfold nw dS;rw[kP f1 l1,kP c l2,XT rfl,XT rfl];generalize Nat.gcd (ak (own n)) (ak (own d))=g;split
 ·have:=Cr (g:Int);rw[jK] at this;refine⟨λh=>by have:=this.1 h.2;omega,λh=>⟨rfl,this.2 D⟩⟩
 ·refine⟨λh=> ?_,λh=>by rw[h,El];exact⟨H,H⟩⟩;obtain⟨a,b⟩:=wv g;unfold FN at h;split at h
  ·exact absurd h.1 YK
  ·have w:=(Cx a O).2.1;have h2:UJ (cZ g)=[49]:=h.2;rw[ze,h2,b] at w;have e:num [49]=1:=YK;rw[e] at w;simp at w;omega
def SY(a:K)(h:(Lib.cut a [47]).2.2=O):(Lib.cut a [47]).2.1=[]:=by
 rw[vz] at h⊢;split
 ·rename_i q;rw[XT q] at h;cases h
 ·rfl
def PS{l:K}(h:l.all ix=Y):own l=l:=by
 rw[gP];cases l with
 |nil=>rfl
 |cons b l=>
  simp only[List.all_cons,Bool.and_eq_true] at h;rw[List.head?_cons,Oi h.1];rfl
def Ah(a:K):La (tx a)=aC a:=by
 obtain⟨co,c2,u⟩:=uv a;have j:=@QS a;unfold La;rw[kQ];dsimp only;rw[iG,iG,af,af,jK,jK,CA,CA,<-co,<-c2,<-u];rw[<-co,<-c2] at j;have y:=SY a;unfold aC eU;dsimp only;generalize(Lib.cut a [47]).1=n at *;generalize(Lib.cut a [47]).2.1=d at *;generalize(Lib.cut a [47]).2.2=sl at *;cases m:nX (own n) with
 |false=>rw[XT (.inl rfl)];simp[tq]
 |true=>
  have s:=(pw ((wB _).1 m)).2;by_cases z:Lib.hasPrefix n [45]=Y/\own n=[48]
  ·rw[XT (.inr z),z.1,z.2];simp[tq]
  ·have c:(Lib.hasPrefix n [45]&&(own n==[48]))=O:=by
    rw[Bool.and_eq_false_iff];by_cases q:own n=[48]
    ·exact .inl (by cases A:Lib.hasPrefix n [45] with
      |false=>rfl
      |true=>exact absurd ⟨A,q⟩ z)
    ·exact .inr (XN.2 q)
   rw[XQ (λe=>by rcases e with e|e<;>first|exact z e|cases e)];cases sl with
   |false=>
    rw[y rfl,XT rfl];dsimp only;have t:=λh=>(j h).1
    by_cases b:300<(own n).length
    ·rw[XQ (λh=>by have:=t h;omega),XT (.inl b),Yb b];unfold tq;rw[c]
     rfl
    ·rw[XU b];have:¬(300<(own n).length\/300<([49]:K).length):=YP;rw[XQ this,XT rfl];unfold tq;rw[c];simp
   |true=>
    rw[XQ YL];cases o:nX d with
    |false=>rw[XT (.inl rfl)];simp[tq]
    |true=>
     have l:=(pw ((wB _).1 o)).2;by_cases f:d=[48]
     ·rw[XT (.inr (.inl f)),f];simp[tq]
     by_cases g:d=[49]
     ·rw[XT (.inr (.inr g)),g];simp[tq]
     rw[XQ (λe=>by rcases e with e|e|e<;>first|exact f e|exact g e|cases e),XN.2 f,XN.2 g];dsimp only;by_cases b:300<(own n).length\/300<ln d
     ·rw[XQ (λh=>by have:=j h;omega),XT b];unfold tq;rw[c];rcases b with b|b
      ·rw[Yb b];rfl
      ·rw[Yb b,Bool.or_true];rfl
     ·have f1:aQ n=Y:=uu m s z;have i:=PS l;have B:aQ d=Y:=uu (by rw[i];exact o) (by rw[i];exact l) (by rw[i];exactλh=>f h.2);have k:=NO f1 B D (by rw[i];omega);rw[i] at k;rw[XU (by omega:¬300<(own n).length),XU (by omega:¬300<ln d),XQ b,XQ g];by_cases e:Nat.gcd (ak (own n)) (ak d)=1
      ·obtain⟨r,x⟩:=k.2 e;rw[e,r,x];unfold tq;rw[c];simp
      ·have v:bS a≠Y:=λh=>e ((j h).2.2 rfl)
       rw[XQ v,XN.2 e,XT (by
        by_cases q:(nw n d).2=0
        ·exact .inr λw=>e (k.1 ⟨q,w⟩)
        ·exact .inl q)]
       unfold tq;rw[c]
       rfl
end
section
open Kp
def T1(z:ByteArray):La z=0↔ks z:=by
 unfold La ks;dsimp only;generalize aG z=v;obtain⟨g,n,d,sl⟩:=v;dsimp only;generalize(d.toList==[48])=b;generalize(d.toList==[49])=f;generalize(n.toList==[48])=a;generalize YG (300<n.size)=c;generalize YG (300<d.size)=h;generalize(Nat.gcd (cI n n.size) (cI d d.size)==1)=e;by_cases h1:Dg n<;>by_cases h2:Dg d<;>cases g<;>cases sl<;>cases c<;>cases h<;>cases e<;>cases b<;>cases f<;>cases a<;>simp[tq,sK,h1,h2]
def wu{a:K}:aC a=0↔ks (tx a):=by rw[<-Ah];exact T1 _
noncomputable def sN(m:Nat)(a:K):Int:=if aC a≠0 then aC a else if m<(own (BO a)).length\/m<(xE a).length then 4 else 0
def EE{a:K}(h:aC a=0):eU a=L (BO a,xE a):=by
 unfold aC at h;cases b:eU a with
 |none=>rw[b] at h;cases h
 |some p=>rw[Ac b]
def GZ(a:K):iw a=sN 12 a:=by
 unfold iw sN;by_cases h:aC a=0
 ·rw[XT h,EE h,XQ (λq=>q h)]
 ·rw[XQ h,XT h]
def U6(a:K):BM a=if sN 20 a≠0 then sN 20 a else if Lib.hasPrefix a [45] then 2 else 0:=by
 unfold BM sN;by_cases h:aC a=0
 ·have b:¬(aC a≠0):=λq=>q h
  rw[XQ b,XQ b];unfold T3;rw[EE h];dsimp only;by_cases h2:20<(own (BO a)).length\/20<(xE a).length
  ·rw[XT h2,XT D,XT YK]
  ·rw[XQ h2,XQ D];simp
 ·rw[XT h,XT h,XT h]
def DQ(s:K)(m:Nat)(w:U)(hs:ln s<=100000)(E:bE w):XY Xz 225 #[Yy (tx s),G F (m:Int)] w λe w'=>e=YC (G F (sN m s))/\Ext w w':=by
 have V:(tx s).size<=100000:=by rw[af];exact hs
 have d:sN m s=if aC s≠0 then aC s else if m<wO (pN (aG (tx s)))\/m<(pD (aG (tx s))).size then 4 else 0:=by
  rw[show pN (aG (tx s))=tx (BO s) from E4 s,Is,qt,af];rfl
 have n:=@wu s;have i:=Ah s;obtain⟨c,M⟩:=aa (aC s);rw[M] at d n i;obtain⟨T,I⟩:=aa (sN m s);rw[I] at d⊢;obtain⟨z,L⟩:=aa (tx s);rw[L] at V d n i⊢;have q:=A (qL z w D E);rw[i] at q;have X:=A E;have S:=A (show z.size<=1000000 by omega);have ab:=Hu z;have Z:=Iy z;obtain⟨a,o⟩:=aa (pN (aG z));obtain⟨b,l⟩:=aa (pD (aG z));rw[o] at ab;rw[l] at Z;rw[o,l] at d;have J:=A o;have W:=A l;have k:=A d;clear o l E d i M I L;by_cases B:c=0
 ·subst B;have C:ks z:=n.1 H;have P:=C.num;have v:=P.num;rw[J.o] at v;have HO:=A C;obtain⟨N,t2⟩:=aa (((a[0]'v).toNat:Int)==45);have Q:=A (show wO a=if N then a.size-1 else a.size by unfold wO;rw[dif_pos v,t2]);clear n C P;go_enter func225,ntmps225;go_wp2_with(go_at_call 37;refine q.o.mono ?_;rintro e W1 ⟨rfl,f⟩;have g:=A f;clear f)
  refine(q9 z W1 S.o (X.o.below g.o (XE _))).mono ?_;rintro e W2 ⟨⟨x,y,c,rfl,h1⟩,O⟩;obtain⟨rfl,rfl,rfl⟩:=h1 HO.o;rw[J.o,W.o];have j:=A (g.o.tr O);clear O h1;have u:=A (λ(h:m<wO a\/m<b.size)=>k.o.trans (by rw[XQ YL,XT h]:_=(4:Int)));have H0:=A (λ(h:¬(m<wO a\/m<b.size))=>k.o.trans (by rw[XQ YL,XQ h]:_=(0:Int)));clear k;cases N
  ·have R:wO a=a.size:=Q.o;by_cases g1:m<a.size
   ·go_wp2;go_ret;exact⟨by rw[u.o (.inl D)];rfl,j.o⟩
   ·exact a3h
  ·have R:wO a=a.size-1:=Q.o;by_cases g1:m<a.size-1
   ·go_wp2;go_ret;exact⟨by rw[u.o (.inl D)];rfl,j.o⟩
   ·exact a3h
 ·have t:(c !=0)=Y:=Yn.2 B;have r:=A (show T=c by rw[k.o,XT B]);go_enter func225,ntmps225;go_wp2_with(go_at_call 37;refine q.o.mono ?_;rintro e W1 ⟨rfl,f⟩;have g:=A f;clear f)
  go_ret;exact⟨Zn,g.o⟩
def EI(a:K)(w:U)(r:ln a<=100000)(y:bE w):XY Xz 161 #[Yy (tx a)] w λe w'=>e=YC (G F (BM a))/\Ext w w':=by
 have j:=A (DQ a 20 w r y);have d:=U6 a;have i:sN 20 a=0->ks (tx a):=λh=>wu.1 (by
  unfold sN at h;by_cases q:aC a=0
  ·exact q
  ·rw[XT q] at h;exact h)
 have u:=λ(z:ByteArray) (f:tx a=z) (q:0<z.size)=>show(((z[0]'q).toNat:Int)==45)=Lib.hasPrefix a [45] by
  subst f;rw[lW];cases a with
  |nil=>exact absurd q YK
  |cons b l=>
   rw[iO,List.head?_cons,Bool.eq_iff_iff,Yg,Yg];constructor
   ·intro e
    congr 1
    apply UInt8.toNat_inj.1;have e:(b.toNat:Int)=45:=e;show b.toNat=45;omega
   ·intro e;injection e with e
    subst e
    rfl
 have B:(tx a).size<=100000:=by rw[af];exact r
 obtain⟨z,f⟩:=aa (tx a);have k:=u z f;rw[f] at j i B⊢;obtain⟨c,x⟩:=aa (sN 20 a);rw[x] at j d i;obtain⟨D,s⟩:=aa (BM a);rw[s] at d⊢;obtain⟨p,v⟩:=aa (Lib.hasPrefix a [45]);rw[v] at d k;clear u r y f x s v;by_cases o:c=0
 ·subst o;have C:=(i H).num.pos;have E:=k C;rw[XQ YL] at d;have n:=A d;clear k i d;cases p;all_goals
   go_enter func161,ntmps161;go_wp2_with(go_at_call 225;refine j.o.mono ?_;rintro e W1 ⟨rfl,g⟩;have m:=A g;clear g)
   go_ret;exact⟨by rw[n.o];rfl,m.o⟩
 ·have t:(c !=0)=Y:=Yn.2 o;rw[XT o] at d;have n:=A d;clear k i d;go_enter func161,ntmps161;go_wp2_with(go_at_call 225;refine j.o.mono ?_;rintro e W1 ⟨rfl,g⟩;have m:=A g;clear g)
  go_ret;exact⟨by rw[n.o];rfl,m.o⟩
def GI(w:U)(N:Option Ym)(Q:Nat)(l:List Ld)(r:bR 3 w w.heap.size N Q (bG l))(O:∀i,i<ln l->(l.getD i pO).weight.length<=50)(M:bE w):
  XY Xz 86 #[V N (ln l) Q] w λx w'=>x=YC (G F (fh l))/\Ext w w':=by
 have h1:=r.1;have h2:=r.2.1;rw[XP] at h1;unfold Yk at h2;have HL:=A (λ(W:U) (hx:Ext w W)=>((r.below hx).more hx.size:bR 3 W W.heap.size N Q (bG l)));have HS:=A O;have HT:=A M;clear r O M;by_cases B:64<ln l
 ·go_enter func86,ntmps86;go_wp2;go_ret;exact⟨by unfold fh;rw[XT B];rfl,XI _ _⟩
 have R:=A (λh=>LQ (l:=l) D h);have u:=A (λk (hk:k<ln l) (h:∀j,j<k->lT l j=0) e (y:e≠0) (a:lT l k=e)=>show fh l=e by
  unfold fh;rw[XQ B,bM hk h (by rw[a];exact y),a])
 obtain⟨E,X⟩:=aa (fh l);rw[X] at R u⊢;clear X;go_enter func86,ntmps86;go_wp2;go_loopw [3] (λi wr=>∃k:Nat,i=G F (k:Int)/\k<=ln l/\Ext w wr/\∀j,j<k->lT l j=0) (λi _=>((ln l:Int)-Yf i).toNat)
 case atStart=>exact⟨0,H,D,XI _ _,λj h=>D⟩
 case round=>
  obtain⟨k,rfl,hk,q,I⟩:=hrel;have f:=A q;have g:=A I;clear I;by_cases d:k<ln l
  ·obtain⟨b,off,rfl,hb,L⟩:=Dc (HL.o _ q) D;obtain⟨S,C,K⟩:=L k d;have hw:=HS.o k d;have a:lT l k=if(l.getD k pO).kind<1\/3<(l.getD k pO).kind then 8 else if(l.getD k pO).side< -1\/24<=(l.getD k pO).side then 2 else BM (l.getD k pO).weight:=rfl;obtain⟨o,ho⟩:=aa (l.getD k pO);rw[ho] at S C K hw a;have s:=A (EI o.weight wr D (HT.o.below q (XE _)));obtain⟨m,sd,wt⟩:=o;dsimp only at S C K s a;have e1:(k:Int)<(ln l:Int):=D;clear q L ho hb;by_cases J:1<=m/\m<=3
   ·obtain⟨J,q2⟩:=J;by_cases q3: -1<=sd/\sd<24
    ·obtain⟨q3,T⟩:=q3;have t1:¬m<1:=D;have t2:¬3<m:=D;have t3:¬sd< -1:=D;have t4:¬24<=sd:=D;rw[XQ D,XQ D] at a;obtain⟨c,Z⟩:=aa (BM wt);rw[Z] at a s;have HF:=A (λy=>u.o k d g.o c y a);have HU:=A (λh:c=0=>iZ (P:=λj=>lT l j=0) g.o (a.trans h));clear a Z;by_cases z:c=0
     ·subst z;go_wp2_with(go_at_call 161;refine s.o.mono ?_;rintro e W1 ⟨rfl,n⟩;have v:=A (f.o.tr n);clear n)
      exact⟨⟨k+1,by go_num,D,v.o,HU.o (by trivial)⟩,YO⟩
     ·have t:(c !=0)=Y:=Yn.2 z;go_wp2_with(go_at_call 161;refine s.o.mono ?_;rintro e W1 ⟨rfl,n⟩;have v:=A (f.o.tr n);clear n)
      go_ret;exact⟨by rw[HF.o z];rfl,v.o⟩
    ·rw[XQ D,XT D] at a;have HF:=A (u.o k d g.o 2 YK a);clear a;by_cases T:sd< -1;all_goals
      go_wp2_with fail
      go_ret;exact⟨ZG,f.o⟩
   ·rw[XT D] at a;have HF:=A (u.o k d g.o 8 YK a);clear a;by_cases T:m<1;all_goals
     go_wp2_with fail
     go_ret;exact⟨ZG,f.o⟩
  ·obtain rfl:k=ln l:=D;clear q;go_wp2;go_ret;exact⟨by rw[R.o g.o];rfl,f.o⟩
end
section
open Kp
def UH{a:K}(h:aC a=0)(h2:iw a=0):iz (tx a):=by
 have b:pN (aG (tx a))=tx (BO a):=E4 a;rw[GZ] at h2;unfold sN at h2;rw[XQ (λq=>q h)] at h2;have c:¬(12<(own (BO a)).length\/12<(xE a).length):=λq=>by rw[XT q] at h2;cases h2
 refine⟨wu.1 h,?_,?_⟩
 ·rw[b,qt];omega
 ·rw[Is,qt];have:=nl (xE a);omega
def Tg{a:K}(h:aC a=0)(h2:12<wO (pN (aG (tx a)))\/12<wO (pD (aG (tx a)))):iw a=4:=by
 rw[GZ];unfold sN;rw[XQ (λq=>q h),XT];have b:pN (aG (tx a))=tx (BO a):=E4 a;rw[b,qt,Is,qt] at h2;have:=nl (xE a);omega
def UF{a:K}(h:aC a=0)(h1:¬(12<wO (pN (aG (tx a)))))(h2:¬(12<wO (pD (aG (tx a))))):iw a=0:=Qr ⟨wu.1 h,D,D⟩
def Tf{l:List K}{k:Nat}{c:Int}(hk:k<l.length)(h:∀j,j<k->aC (l.getD j [])=0)(a:aC (l.getD k [])=c)(b:c≠0):eW l=c:=by
 unfold eW;have e:=bM (f:=λi=>aC (l.getD i [])) hk h (by show aC (l.getD k [])≠0;rw[a];exact b);rw[e,XT (by show aC (l.getD k [])≠0;rw[a];exact b)];exact a
def TV{l:List K}{k:Nat}(hk:k<l.length)(h:∀j,j<l.length->aC (l.getD j [])=0)(h2:∀j,j<k->iw (l.getD j [])=0)(a:iw (l.getD k [])=4):eW l=4:=by
 unfold eW;have b:=bh (f:=λi=>aC (l.getD i [])) h;have e:=bM (f:=λi=>iw (l.getD i [])) hk h2 (by show iw (l.getD k [])≠0;rw[a];decide);rw[b,XQ YL,e];exact a
def S9{l:List K}(h:∀j,j<l.length->aC (l.getD j [])=0)(h2:∀j,j<l.length->iw (l.getD j [])=0):eW l=0:=by
 unfold eW;rw[bh (f:=λi=>aC (l.getD i [])) h,XQ YL];exact bh h2
def M7{l:List K}{i:Nat}(h:i<ln l):(VW (l.map tx))[i]?=L (Yy (tx (l.getD i []))):=by
 unfold VW;rw[List.getElem?_map,List.getElem?_map,XO h];simp[List.getD,h]
def GM{T:Yj}(w:U)(g Q:Nat)(d:List K)(hr:ai w g T (VW (d.map tx)))(hs:∀i,i<ln d->(d.getD i []).length<=100000)(hl:ln d<=4)(au:ln d<=Q)(ht:bE w):
  XY Xz 255 #[V (L ⟨g,0,I⟩) (ln d) Q] w λe w'=>e=YC (G F (eW d))/\Ext w w':=by
 have HR:=A hr;have X:=A hs;have HT:=A ht;have S:=A (λk c=>@Tf d k c);have N2:=A (λk=>@TV d k);have O:=A (@S9 d);obtain⟨E,hE⟩:=aa (eW d);rw[hE] at S N2 O⊢;obtain⟨n,hn⟩:=aa (ln d);rw[hn] at hl au X S N2 O⊢;have J:=A hn;clear hr hs ht hn hE;go_enter func255,ntmps255;go_wp2;go_loopw [3] (λi wr=>∃k:Nat,k<=n/\i=G F (k:Int)/\(∀j,j<k->aC (d.getD j [])=0)/\Ext w wr) (λi _=>n-(Yf i).toNat)
 case atStart=>exact⟨0,D,rfl,λj hj=>D,XI _ _⟩
 case round=>
  obtain⟨k,hk,rfl,q,M⟩:=hrel;have HX:=A M;have B:=A q;clear q;by_cases ak:k<n
  ·have o:=(HR.o.ext M).cell k;rw[M7 Zm] at o;have ab:=X.o k ak;have M1:=A (λc=>S.o k c ak B.o);obtain⟨b,ae⟩:=aa (d.getD k []);rw[ae] at o ab M1;have z:=A (qL (tx b) wr ZB (HT.o.below M (XE _)));rw[Ah] at z;obtain⟨t,C⟩:=aa (tx b);rw[C] at o z;obtain⟨c,Z⟩:=aa (aC b);rw[Z] at z M1;have HU:=A (λh:c=0=>iZ (P:=λj=>aC (d.getD j [])=0) B.o (by show aC (d.getD k [])=0;rw[ae,Z,h]));clear M C ae Z;by_cases f:c=0
   ·subst f;go_wp2_with(go_at_call 37;refine z.o.mono ?_;rintro e W1 ⟨rfl,l⟩;have u:=A (HX.o.tr l);clear l)
    exact⟨⟨k+1,D,by go_num,HU.o (by trivial),u.o⟩,YO⟩
   ·have t:(c !=0)=Y:=Yn.2 f;have MM:=A (M1.o c H f);go_wp2_with(go_at_call 37;refine z.o.mono ?_;rintro e W1 ⟨rfl,l⟩;have u:=A (HX.o.tr l);clear l)
    go_ret;exact⟨by rw[MM.o];rfl,u.o⟩
  ·obtain rfl:k=n:=D;clear M;go_wp2;go_loopw [5] (λi wi=>∃m:Nat,m<=k/\i=G F (m:Int)/\Ext w wi/\∀j,j<m->iw (d.getD j [])=0) (λi _=>k-(Yf i).toNat)
   case atStart=>exact⟨0,D,rfl,HX.o,λj hj=>D⟩
   case round=>
    obtain⟨m,hm,rfl,N,ao⟩:=hrel;have R:=A ao;clear ao;have aj:=A N;by_cases ac:m<k
    ·have o:=(HR.o.ext N).cell m;rw[M7 Zm] at o;have ab:=X.o m ac;have f:=B.o m ac;have M2:=A (N2.o m ac B.o R.o);obtain⟨s,ad⟩:=aa (d.getD m []);rw[ad] at o ab f M2;have q:ks (tx s):=wu.1 f;have h4:=Tg f;have h5:=GZ s;have ar:pN (aG (tx s))=tx (BO s):=E4 s;have aw:=af s;have ap:=A (λh:iw s=0=>iZ (P:=λj=>iw (d.getD j [])=0) R.o (by show iw (d.getD m [])=0;rw[ad,h]));have v:=A (λ(x1:¬(12<wO (pN (aG (tx s))))) (x2:¬(12<wO (pD (aG (tx s)))))=>show iw s=0 from UF f x1 x2);have r:=A (λh=>M2.o (h4 h));obtain⟨t,C⟩:=aa (tx s);rw[C] at o q v r aw;have ag:=q.num;have ax:=Hu t;have av:=Iy t;obtain⟨a,ha⟩:=aa (pN (aG t));obtain⟨b,hb⟩:=aa (pD (aG t));have ah:=ag.num;have am:=ag.den;rw[ha] at ax ah v r;rw[hb] at av am v r;have KP:=A ((q9 t _ D (HT.o.below N (XE _))).mono (λe w' ⟨⟨x,y,c,e1,h1⟩,h2⟩=>(by obtain⟨rfl,rfl,rfl⟩:=h1 q;rw[ha,hb] at e1;exact⟨e1,h2⟩:e=Ending.returned (YF #[Yy a,Yy b,G F 0])/\Ext _ w')));obtain⟨sa,al⟩:=aa (wO a);obtain⟨sb,an⟩:=aa (wO b);have DA:=A (λW=>tN a W D ah);have DB:=A (λW=>tN b W D am);rw[al] at DA v r;rw[an] at DB v r;clear N C q ag ha hb al an h4 h5 ar ad f M2;go_wp2_with(first
      |(go_at_call 278;with_reducible refine(DB.o _).mono ?_;rintro e W3 ⟨rfl,rfl⟩)
      |(go_at_call 278;refine(DA.o _).mono ?_;rintro e W3 ⟨rfl,rfl⟩)
      |(go_at_call 257;refine KP.o.mono ?_;rintro e W1 ⟨rfl,l⟩;have u:=A (aj.o.tr l);clear l))
     all_goals first
      |(go_ret;exact⟨by rw[r.o D];rfl,u.o⟩)
      |exact⟨⟨m+1,D,by go_num,u.o,ap.o (v.o D D)⟩,YO⟩
      |trace_state
    ·obtain rfl:m=k:=D;clear N;have aq:=A (O.o B.o R.o);go_wp2;go_ret;exact⟨by rw[aq.o];rfl,aj.o⟩
end
section
open Kp
def BB{l:List K}(h:eW l=0):∀j,j<ln l->iz (tx (l.getD j [])):=by
 unfold eW at h;by_cases e:bn (λi=>aC (l.getD i [])) (ln l)=0
 ·rw[XQ (λq=>q e)] at h;exactλj a=>UH (ij e j a) (ij h j a)
 ·rw[XT e] at h;exact absurd h e
def MU(w:U)(o:nc)(h:qX o)(z:bE w):XY Xz 222 #[YE #[G F o.side,Yy (tx o.left),Yy (tx o.right),Yy (tx o.low),Yy (tx o.high)]] w λe w'=>e=YC (G F (mZ o))/\Ext w w':=by
 have f:mZ o=if eW [o.left,o.right,o.low,o.high]≠0 then eW [o.left,o.right,o.low,o.high] else if 0<=lI (tx o.left) (tx o.right)\/0<=lI (tx o.low) (tx o.high) then 10 else 0:=by
  unfold mZ;by_cases e:eW [o.left,o.right,o.low,o.high]=0
  ·have s:=BB e;rw[ki (a:=o.left) (b:=o.right) (s 0 YL) (s 1 YL),ki (a:=o.low) (b:=o.high) (s 2 YL) (s 3 YL)]
  ·rw[XT e,XT e]
 have H:=λ(W:U) g hr z=>GM (T:=37) W g 4 [o.left,o.right,o.low,o.high] hr (λi hi=>by
  have q:=af;obtain⟨h1,h2,C,v⟩:=h;rw[q] at h1 h2 C v
  match i,hi with
  |0,_=>exact Ye h1 YK
  |1,_=>exact Ye h2 YK
  |2,_=>exact Ye C YK
  |3,_=>exact Ye v YK) YL YL z
 have n:=@BB [o.left,o.right,o.low,o.high];obtain⟨m,ab⟩:=aa (eW [o.left,o.right,o.low,o.high]);rw[ab] at f H n;obtain⟨E,ad⟩:=aa (mZ o);rw[ad] at f⊢;clear ad ab;simp only[List.map] at H;obtain⟨h1,h2,C,v⟩:=h;obtain⟨s,a,b,c,d⟩:=o;dsimp only at h1 h2 C v f H n⊢;have R:m=0->iz (tx a):=λh=>n h 0 YL
 have X:m=0->iz (tx b):=λh=>n h 1 YL
 have hC:m=0->iz (tx c):=λh=>n h 2 YL
 have hD:m=0->iz (tx d):=λh=>n h 3 YL
 clear n;generalize tx a=a at *;generalize tx b=b at *;generalize tx c=c at *;generalize tx d=d at *;have J:=(XI w.heap.size w).alloc (XE _) (.cells #[G F s,Yy a,Yy b,Yy c,Yy d] 39);have M:=ai.new w 39 [G F s,Yy a,Yy b,Yy c,Yy d];obtain⟨D,u⟩:=aa (w.alloc (.cells #[G F s,Yy a,Yy b,Yy c,Yy d] 39));have R2:=ai.new D 37 (VW [a,b,c,d]);rw[show w.alloc (.cells [Value.int .i64 s,Yy a,Yy b,Yy c,Yy d].toArray 39)=D from u] at M;rw[u] at J;have j:=J.alloc J.size (.cells #[Yy a,Yy b,Yy c,Yy d] 37);have KS:=A (show XY Xz 255 #[V (L ⟨D.heap.size,0,I⟩) 4 4] (D.alloc (.cells #[Yy a,Yy b,Yy c,Yy d] 37)) _ from H _ _ R2 (z.below j (XE _)));have HE:=A f;have HA:=A R;have HB:=A X;have HC:=A hC;have HD:=A hD;clear H f R X hC hD;have HT:=A z;have aj:=A j;have B:=A (M.ext ((XI _ _).alloc (XE _) (.cells #[Yy a,Yy b,Yy c,Yy d] 37)));have ak:D.heap.size=w.heap.size+1:=by rw[<-u,Ya]
 have ag:=A u;have Q:=A (λx y W (hx:x.size<=604) (hy:y.size<=604) (sx:iz x) (sy:iz y) (h:Ext w W)=>rL x y W (Ye hx YK) (Ye hy YK) sx sy (HT.o.below h (XE _)));clear J j R2 z u M;go_enter func222,ntmps222;go_wp2_with(go_at_call 255;fail)
 simp only[ag.o,<-ak];refine KS.o.mono ?_;rintro e W1 ⟨rfl,k⟩;have j:=A (Ext.tr aj.o k);have c1:=(B.o.ext k).cell 1;have c2:=(B.o.ext k).cell 2;have c3:=(B.o.ext k).cell 3;have c4:=(B.o.ext k).cell 4;have S:=A (λW h=>(B.o.ext k).ext (w':=W) h);clear k;by_cases l:m=0
 case neg=>
  have t:(m !=0)=Y:=Yn.2 l;have r:=A (show E=m by rw[HE.o,XT l]);go_wp2_with fail
  go_ret;exact⟨Zn,j.o⟩
 have SA:=A (HA.o l);have SB:=A (HB.o l);have SC:=A (HC.o l);have SD:=A (HD.o l);subst l;have f:=HE.o;rw[XQ YL] at f;obtain⟨k2,ac⟩:=aa (lI a b);have KX:=A (Q.o a b _ h1 h2 SA.o SB.o j.o);obtain⟨k3,P⟩:=aa (lI c d);rw[ac] at KX f;rw[P] at f;have ah:=A P;have N:=A f;clear ac P f;go_wp2_with(go_at_call 256;fail)
 refine KX.o.mono ?_;rintro e W2 ⟨rfl,K⟩;have O:=A (j.o.tr K);have d3:=(S.o _ K).cell 3;have d4:=(S.o _ K).cell 4;clear K c1 c2 c3 c4;by_cases hk:0<=k2
 ·have r:=A (show E=10 by rw[N.o,XT (.inl hk)]);go_wp2_with fail
  go_ret;exact⟨Zn,O.o⟩
 ·have Z:=A (Q.o c d _ C v SC.o SD.o O.o);rw[ah.o] at Z;by_cases ae:0<=k3
  ·have r:=A (show E=10 by rw[N.o,XT (.inr ae)]);exact a3i
  ·have r:=A (show E=0 by rw[N.o,XQ (λq=>q.elim hk ae)]);exact a3i
def ve{o:nc}(h:mZ o=0):Gu o:=by
 unfold mZ at h;by_cases e:eW [o.left,o.right,o.low,o.high]=0
 ·have s:=BB e;rw[XQ (λq=>q e),ki (a:=o.left) (b:=o.right) (s 0 YL) (s 1 YL),ki (a:=o.low) (b:=o.high) (s 2 YL) (s 3 YL)] at h;by_cases q:0<=lI (tx o.left) (tx o.right)\/0<=lI (tx o.low) (tx o.high)
  ·rw[XT q] at h;cases h
  ·exact⟨s 0 YL,s 1 YL,s 2 YL,s 3 YL,D,D⟩
 ·rw[XT e] at h;exact absurd h e
def xJ (w : U) (N : Option Ym) (Q : Nat) (l : List nc) (z : bR 5 w w.heap.size N Q (aV l)) (hs : ln l <= 32 -> ∀ i, i < ln l -> qX (l.getD i fm)) (ht : bE w) :
    XY Xz 157 #[V N (ln l) Q] w λx w' => x =YC (YF #[Yz (gS l).1, G F (gS l).2]) /\ Ext w w' := by
  have h1 := z.1;have h2 := z.2.1;rw [XP] at h1;unfold Yk at h2;by_cases ac : 32 < ln l
  · clear z hs
    go_enter func157, ntmps157;go_wp2;go_ret2;exact ⟨by unfold gS; rw [XT ac]; rfl, XI _ _⟩
  have HS := A (hs D);have HT := A ht;have HL := A (λ(W : U) (hx : Ext w W) => ((z.below hx).more hx.size : bR 5 W W.heap.size N Q (aV l)));have HN := A (λk (hk : k < ln l) (h : ∀ j, j < k -> mZ (l.getD j fm) = 0) c (g : mZ (l.getD k fm) = c) (u : c ≠ 0) => show gS l = (O, c) by
    unfold gS;have e := bM (f := λi => mZ (l.getD i fm)) hk h (by show mZ (l.getD k fm) ≠ 0; rw [g]; exact u);have e2 : bn (λi => mZ (l.getD i fm)) (ln l) = c := e.trans g;rw [XQ ac, e2, XT u])
  have HD := A (λ(h : ∀ j, j < ln l -> mZ (l.getD j fm) = 0) => show gS l = (Ch l, 0) by
    unfold gS; rw [XQ ac, bh (f := λi => mZ (l.getD i fm)) h, XQ YL])
  have ap := A (λ(h : ∀ j, j < ln l -> mZ (l.getD j fm) = 0) (h2 : ∀ i, i < ln l -> ∀ j, j < i -> RD (l.getD i fm) (l.getD j fm) = O) => show gS l = (Y, 0) by
    rw [HD.o h]; unfold Ch;rw [bz λi hi => bz λk hk => by rw [Mu (ve (h i hi)) (ve (h k D))]; exact h2 i hi k hk]
    rfl)
  have ao := A (λ(h : ∀ j, j < ln l -> mZ (l.getD j fm) = 0) m n (hm : m < ln l) (u : n < m) (h2 : RD (l.getD m fm) (l.getD n fm) = Y) => show gS l = (O, 0) by
    rw [HD.o h]; unfold Ch;have e : cK (λi => cK (λk => xr (l.getD i fm) (l.getD k fm)) i) (ln l) = Y := dh (p := λi => cK (λk => xr (l.getD i fm) (l.getD k fm)) i) hm (dh (p := λk => xr (l.getD m fm) (l.getD k fm)) u (by rw [Mu (ve (h m hm)) (ve (h n D))]; exact h2));rw [e]
    rfl)
  obtain ⟨DB, ab⟩ : ∃ d, (gS l).1 = d := ⟨_, H⟩;obtain ⟨DE, aa⟩ : ∃ d, (gS l).2 = d := ⟨_, H⟩;have X := A (λb c (h : gS l = (b, c)) => (⟨by rw [<- ab, h], by rw [<- aa, h]⟩ : DB = b /\ DE = c));rw [ab, aa];clear ab aa HD;have KO := A (λi (hi : i < ln l) W (h : Ext w W) => MU W _ (HS.o i hi) (HT.o.below h (XE _)));have KV := A (λi j (hi : i < ln l) (s : j < ln l) (oi : Gu (l.getD i fm)) (oj : Gu (l.getD j fm)) W (h : Ext w W) => AK W _ _ (HS.o i hi) (HS.o j s) oi.sh oj.sh (HT.o.below h (XE _)));clear z hs ht;go_enter func157, ntmps157;go_wp2;go_loopw [4] (λi wr => ∃ k : Nat, i =G F (k : Int) /\ k <= ln l /\ (∀ j, j < k -> mZ (l.getD j fm) = 0) /\ Ext w wr) (λi _ => ((ln l : Int) - Yf i).toNat)
  case atStart => exact ⟨0, H, D, λj s => D, XI _ _⟩
  case round =>
    obtain ⟨k, rfl, hk, am, M⟩ := hrel;have J := A am;clear am;have HX := A M;by_cases Z : k < ln l
    · obtain ⟨b, off, rfl, hb, g⟩ := rY (HL.o _ M) D
      obtain ⟨I, y, B, C, K⟩ := g k Z;have a := A (KO.o k Z _ M);obtain ⟨o, r⟩ : ∃ n, l.getD k fm = n := ⟨_, H⟩;rw [r] at I y B C K a;have HO := A r;obtain ⟨c, S⟩ : ∃ c, mZ o = c := ⟨_, H⟩;rw [S] at a;have HM := A (λu => HN.o k Z J.o c (by rw [r, S]) u);have HU := A (λh : c = 0 => iZ (P := λj => mZ (l.getD j fm) = 0) J.o (by show mZ (l.getD k fm) = 0; rw [r, S, h]));obtain ⟨sd, s1, s2, s3, s4⟩ := o;dsimp only at I y B C K a;have e1 : (k : Int) < (ln l : Int) := D;clear M g r hb S;by_cases h0 : c = 0
      · subst h0
        go_wp2_with (go_at_call 222; refine a.o.mono ?_; rintro e W1 ⟨rfl, L⟩; have X1 := A (HX.o.tr L); clear L)
        exact ⟨⟨k + 1, by go_num, D, HU.o (by trivial), X1.o⟩, Zw⟩
      · have t : (c != 0) = Y := Yn.2 h0
        have q := A (X.o _ _ (HM.o h0));go_wp2_with (go_at_call 222; refine a.o.mono ?_; rintro e W1 ⟨rfl, L⟩; have X1 := A (HX.o.tr L); clear L)
        go_ret2;exact ⟨by rw [q.o.1, q.o.2]; rfl, X1.o⟩
    · obtain rfl : k = ln l := by omega
      clear M;have ai := A (λi hi => ve (J.o i hi));go_wp2;go_loopw [6] (λi wi => ∃ m : Nat, i =G F (m : Int) /\ m <= ln l /\ (∀ i, i < m -> ∀ j, j < i -> RD (l.getD i fm) (l.getD j fm) = O) /\ Ext w wi) (λi _ => ((ln l : Int) - Yf i).toNat)
      case atStart => exact ⟨0, H, D, λi hi => D, HX.o⟩
      case round =>
        obtain ⟨m, rfl, hm, v, ad⟩ := hrel;have ah := A v;clear v;have af := A ad;by_cases T : m < ln l
        · clear ad
          have e1 : (m : Int) < (ln l : Int) := D;go_wp2;go_loopw [7] (λi wi => ∃ n : Nat, i =G F (n : Int) /\ n <= m /\ (∀ j, j < n -> RD (l.getD m fm) (l.getD j fm) = O) /\ Ext w wi) (λi _ => ((m : Int) - Yf i).toNat)
          case atStart => exact ⟨0, H, D, λj s => D, af.o⟩
          case round =>
            obtain ⟨n, rfl, u, al, E⟩ := hrel;have ae := A al;clear al;have an := A E;by_cases aq : n < m
            · obtain ⟨b, off, rfl, hb, g⟩ := rY (HL.o _ E) D
              obtain ⟨I, y, B, C, K⟩ := g m T;obtain ⟨z0, z1, z2, z3, z4⟩ := g n D;have a := A (λW h => KV.o m n T D (ai.o m T) (ai.o n D) W (E.tr h));obtain ⟨ov, v⟩ : ∃ x, RD (l.getD m fm) (l.getD n fm) = x := ⟨_, H⟩;rw [v] at a;have aj := A v;clear v;obtain ⟨o, r⟩ : ∃ n, l.getD m fm = n := ⟨_, H⟩;rw [r] at I y B C K a;obtain ⟨sd, s1, s2, s3, s4⟩ := o;obtain ⟨o, ag⟩ : ∃ x, l.getD n fm = x := ⟨_, H⟩;rw [ag] at z0 z1 z2 z3 z4 a;obtain ⟨rd, r1, r2, r3, r4⟩ := o;dsimp only at I y B C K z0 z1 z2 z3 z4 a;have e2 : (n : Int) < (m : Int) := D;have e3 : (n : Int) < (ln l : Int) := D;clear E g r ag hb;go_wp2_with fail
              go_still_tail 8, R
              all_goals go_simp
              go_wp2_with (go_at_call 223; refine (a.o _ (Ext.dr wr)).mono ?_; rintro e W4 ⟨rfl, ak⟩; have X4 := A (an.o.tr (Ext.tr (Ext.dr wr) ak)); clear ak)
              all_goals first
                | (have q := A (X.o _ _ (ao.o J.o m n T aq (aj.o.trans YT)))
                   go_ret2;exact ⟨by rw [q.o.1, q.o.2]; rfl, X4.o⟩)
                | exact ⟨⟨n + 1, by go_num, D, λj s => (by
                    by_cases e : j = n
                    · rw [e]; exact aj.o.trans YT
                    · exact ae.o j D), X4.o⟩, Zw⟩
                | trace_state
            · obtain rfl : n = m := by omega
              clear E;go_wp2;exact ⟨⟨n + 1, by go_num, D, λi hi j s => (by
                by_cases e : i = n
                · subst e; exact ae.o j s
                · exact ah.o i D j s), an.o⟩, Zw⟩
        · obtain rfl : m = ln l := by omega
          clear ad;go_wp2;have q := A (X.o _ _ (ap.o J.o ah.o));go_ret2;exact ⟨by rw [q.o.1, q.o.2]; rfl, af.o⟩
end
section
open Kp
def Q2(b:Br)(k:Nat):xh b k=(if YG ((b.gaps.getD k (0,0)).1<0)||YG ((b.gaps.getD k (0,0)).1>=(b.gaps.getD k (0,0)).2)||YG ((b.gaps.getD k (0,0)).2>b.length) then 2 else if YG (0<k)&&YG ((b.gaps.getD k (0,0)).1<=(b.gaps.getD (k-1) (0,0)).2) then 10 else 0):=by
 unfold xh;dsimp only;have a:((b.gaps.getD k (0,0)).1<0\/b.length<(b.gaps.getD k (0,0)).2\/(b.gaps.getD k (0,0)).2<=(b.gaps.getD k (0,0)).1)↔(YG ((b.gaps.getD k (0,0)).1<0)||YG ((b.gaps.getD k (0,0)).1>=(b.gaps.getD k (0,0)).2)||YG ((b.gaps.getD k (0,0)).2>b.length))=Y:=by
  simp only[Bool.or_eq_true,XX];omega
 have c:(0<k/\(b.gaps.getD k (0,0)).1<=(b.gaps.getD (k-1) (0,0)).2)↔(YG (0<k)&&YG ((b.gaps.getD k (0,0)).1<=(b.gaps.getD (k-1) (0,0)).2))=Y:=by
  simp only[Bool.and_eq_true,XX]
 simp only[a,c]
theorem rJ(h:p:=by
  have a:=M.o;simp at a;subst a;go_enter func160,ntmps160;go_wp2_with(go_at_call 224;refine(sP _ _ _ _).mono ?_;rintro e W1 ⟨rfl,rfl⟩)
  go_ret;exact⟨H,Q.o⟩):p:=h
theorem zK(h:p:=by
  have d:=HE.o;simp at d;have a:=HF.o _ d YK;subst a;clear d;go_wp2;go_ret;exact⟨H,t.o.tr g.o⟩):p:=h
def Ng(b:Br)(l:Option Ym)(m:Nat)(w:U)(y:bR 2 w w.heap.size l m (eN b.gaps)):
  XY Xz 160 #[YE (yj b l m).toArray] w λx w'=>x=YC (G F (qY b))/\Ext w w':=by
 have h1:=y.1;have h2:=y.2.1;rw[XP] at h1;unfold Yk at h2;have R:=A (ai.new w 44 (yj b l m));have Q:=A (show Ext w (w.alloc (.cells (yj b l m).toArray 44)) from(XI _ _).alloc (XE _) _);have HL:=A (λ(W:U) (hx:Ext w W)=>((y.below hx).more hx.size:bR 2 W W.heap.size l m (eN b.gaps)));have c:=λi=>R.o.cell i
 clear y;obtain⟨v,a⟩:=aa (qY b);rw[a];have o:v=(if !(J b.width 1 1000&&J b.depth 1 1000&&J b.length 1 65536&&J b.count 0 4096&&J b.cost 0 1073741824) then 2 else if 16<b.gaps.length then 4 else bn (xh b) b.gaps.length):=a.symm;clear a;obtain⟨n,B⟩:∃aj:Nat->Int,xh b=aj:=⟨_,H⟩;rw[B] at o;have af:=A (λk=>B▸Q2 b k);clear B;obtain⟨wd,dp,ln,ct,co,gaps⟩:=b;dsimp only at h1 HL o af;obtain⟨b0,t0⟩:=aa (J wd 1 1000);obtain⟨b1,t1⟩:=aa (J dp 1 1000);obtain⟨b2,t2⟩:=aa (J ln 1 65536);obtain⟨b3,t3⟩:=aa (J ct 0 4096);obtain⟨b4,t4⟩:=aa (J co 0 1073741824);rw[t0,t1,t2,t3,t4] at o;have M:=A o;clear o;cases b0
 ·exact rJ
 cases b1
 ·exact rJ
 cases b2
 ·exact rJ
 cases b3
 ·exact rJ
 cases b4
 ·exact rJ
 have q:v=(if 16<gaps.length then 4 else bn n gaps.length):=M.o;clear M;by_cases u:16<gaps.length
 case pos=>
  have t5:YG ((gaps.length:Int)>16)=Y:=Yb D;rw[XT u] at q;subst q;clear u;go_enter func160,ntmps160;go_wp2_with(go_at_call 224;refine(sP _ _ _ _).mono ?_;rintro e W1 ⟨rfl,rfl⟩)
  go_ret;exact⟨H,Q.o⟩
 have t5:YG ((gaps.length:Int)>16)=O:=XU D;rw[XQ u] at q;have X:=A q;clear u q;go_enter func160,ntmps160;go_wp2_with(go_at_call 224;refine(sP _ _ _ _).mono ?_;rintro e W1 ⟨rfl,rfl⟩)
 clear c;go_loopw [3] (λi wr=>∃k:Nat,i=G F (k:Int)/\k<=gaps.length/\Ext (w.alloc (.cells (yj ⟨wd,dp,ln,ct,co,gaps⟩ l m).toArray 44)) wr/\∀j,j<k->n j=0) (λi _=>((gaps.length:Int)-Yf i).toNat)
 case atStart=>exact⟨0,H,D,XI _ _,λj h=>D⟩
 case round=>
  obtain⟨k,rfl,hk,r,ah⟩:=hrel;have HX:=A r;have t:=A (Q.o.tr r);have N:=A ah;have c:=λi=>(R.o.ext r).cell i
  clear ah;by_cases ab:k<gaps.length
  ·obtain⟨V,ok,rfl,hb,K⟩:=O5 (HL.o _ t.o) D;obtain⟨y0,S⟩:=K k ab;have HF:=A (λ(z:Int) (h:n k=z) (hz:z≠0)=>show v=z by rw[X.o,<-h];exact bM ab N.o (by rw[h];exact hz));have ad:=A (λh:n k=0=>iZ (P:=λj=>n j=0) N.o h);have d:=af.o k;obtain⟨fr,E⟩:=aa ((gaps.getD k (0,0)).1);obtain⟨s,C⟩:=aa ((gaps.getD k (0,0)).2);rw[E,C] at d;rw[E] at y0;rw[C] at S;have HC:=A K;have HB:=A hb;obtain⟨p1,q1⟩:=aa (YG (fr<0));obtain⟨p2,q2⟩:=aa (YG (fr>=s));obtain⟨p3,q3⟩:=aa (YG (s>ln));rw[q1,q2,q3] at d;have HE:=A d;have RG:=ai.new wr 135 [G F fr,G F s];have g:=A (show Ext wr (wr.alloc (.cells #[G F fr,G F s] 135)) from(XI _ _).alloc (XE _) _);have cg:=λi=>RG.cell i
   have cb:=λi=>(R.o.ext (r.tr g.o)).cell i
   clear r K hb E C RG d;cases p1
   case true=>exact zK
   cases p2
   case true=>exact zK
   cases p3
   case true=>exact zK
   have f:n k=(if YG (0<k)&&YG (fr<=(gaps.getD (k-1) (0,0)).2) then 10 else 0):=HE.o;by_cases ak:k=0
   ·subst ak;have L:=A (ad.o f);rw[Nat.zero_mul,Nat.add_zero] at y0 S;clear f;go_wp2_with fail
    go_quiet (fail)
    go_wp2;exact⟨⟨1,by go_num,D,below_drewN (HX.o.tr g.o) _,L.o⟩,YO⟩
   ·have t5:YG ((k:Int)>0)=Y:=Yb D;have t6:0<k:=D;rw[Yb t6,Bool.true_and] at f;have w1:F.wrap ((k:Int)-1)=((k-1:Nat):Int):=by rw[Yh _ D];omega
    have Z:k-1<gaps.length:=D;obtain⟨z0,z1⟩:=HC.o (k-1) Z;have T:=(g.o.cell (p:=⟨V,ok+(k-1)*2+1,I⟩) HB.o).trans z1;have al:=(g.o.cell (p:=⟨V,ok+(k-1)*2,I⟩) HB.o).trans z0;obtain⟨pt,ag⟩:=aa ((gaps.getD (k-1) (0,0)).2);rw[ag] at T f;obtain⟨k1,ac⟩:=aa (k-1);rw[ac] at w1 Z al T;clear z0 z1 ag ac;obtain⟨p5,q5⟩:=aa (YG (fr<=pt));rw[q5] at f;have ae:=A f;clear f;cases p5
    ·have L:=A (ad.o ae.o);go_wp2_with fail
     go_quiet (fail)
     go_wp2;exact⟨⟨k+1,by go_num,D,below_drewN (HX.o.tr g.o) _,L.o⟩,YO⟩
    ·have a:=HF.o 10 ae.o YK;subst a;go_wp2_with fail
     go_quiet (fail)
     go_wp2;go_ret;exact⟨H,below_drewN (t.o.tr g.o) _⟩
  ·obtain rfl:k=gaps.length:=D;have a:v=0:=by rw[X.o];exact bh N.o
   subst a;go_wp2;go_ret;exact⟨H,t.o⟩
def FQ(w:U)(N:Option Ym)(Q:Nat)(l:List Br)(q:iT w w.heap.size N Q l):
  XY Xz 84 #[V N (ln l) Q] w λx w'=>x=YC (G F (ju l))/\Ext w w':=by
 have h1:=q.1;have h2:=q.2.1;unfold Yk at h2;have S:=A (λ(W:U) (hx:Ext w W)=>((q.below hx).more hx.size:iT W W.heap.size N Q l));clear q;obtain⟨v,a⟩:=aa (ju l);rw[a];have m:v=(if 64<ln l then 4 else bn (λi=>qY (l.getD i pV)) (ln l)):=a.symm;clear a;by_cases o:64<ln l
 case pos=>
  have T:YG ((ln l:Int)>64)=Y:=Yb D;rw[XT o] at m;subst m;clear o;go_enter func84,ntmps84;go_wp2;go_ret;exact⟨H,XI _ _⟩
 have T:YG ((ln l:Int)>64)=O:=XU D;rw[XQ o] at m;have HV:=A m;clear o m;go_enter func84,ntmps84;go_wp2;go_loopw [3] (λi wr=>∃k:Nat,i=G F (k:Int)/\k<=ln l/\Ext w wr/\∀j,j<k->qY (l.getD j pV)=0) (λi _=>((ln l:Int)-Yf i).toNat)
 case atStart=>exact⟨0,H,D,XI _ _,λj h=>D⟩
 case round=>
  obtain⟨k,rfl,hk,B,K⟩:=hrel;have d:=A B;have t:=A K;clear K;by_cases C:k<ln l
  ·obtain⟨b,off,f,rfl,hb,E⟩:=pP (S.o _ B) D;obtain⟨g,I⟩:=E k C;have r:=A (Ng (l.getD k pV) (f k).1 (f k).2 wr I);have u:=A (λ(z:Int) (h:qY (l.getD k pV)=z) (c:z≠0)=>show v=z by rw[HV.o,<-h];exact bM (f:=λi=>qY (l.getD i pV)) C t.o (by rw[h];exact c));have s:=A (λh:qY (l.getD k pV)=0=>iZ (P:=λj=>qY (l.getD j pV)=0) t.o h);obtain⟨x,hx⟩:=aa (l.getD k pV);obtain⟨ga,J⟩:=aa ((f k).1);obtain⟨gc,L⟩:=aa ((f k).2);rw[hx,J,L] at g r;rw[hx] at u s;obtain⟨z,c⟩:=aa (qY x);rw[c] at r u s;clear c;obtain⟨wd,dp,ln,ct,co,gaps⟩:=x;have R:=g 0 YK;have X:=g 1 YK;have y2:=g 2 YK;have y3:=g 3 YK;have y4:=g 4 YK;have Z:=g 5 YK;rw[Nat.add_zero] at R;clear g I B E hx J L;by_cases c:z=0
   ·subst c;have M:=A (s.o H);go_wp2_with(go_at_call 160;refine r.o.mono ?_;rintro e W1 ⟨rfl,n⟩;have y:=A (Ext.tr d.o n);clear n)
    exact⟨⟨k+1,by go_num,D,y.o,M.o⟩,YO⟩
   ·have tz:(z !=0)=Y:=Yn.2 c;have a:=u.o z H c;subst a;clear c;go_wp2_with(go_at_call 160;refine r.o.mono ?_;rintro e W1 ⟨rfl,n⟩;have y:=A (Ext.tr d.o n);clear n)
    go_ret;exact⟨H,y.o⟩
  ·exact a3g
end
section
open Kp
attribute [local go_sem] bJ gE fX gA gC fN fG fU fI gD gy dQ dO dR dn dq
def VD{rs:List (List Sd)}(h:oO rs=0):∀r∈rs,r≠[]:=by
 rintro r a rfl;unfold oO at h;rw[XT (by rw[Bool.or_eq_true];exact .inl (List.any_eq_true.2 ⟨[],a,H⟩))] at h;cases h
def Xp(rs:List (List Sd))(x:Ending):Prop:=∃(N:Option Ym) (n c:Nat) (k:Int),x=YC (YF #[V N n c,G F k])/\n<=1000000/\(oO rs=0->n=ln rs.flatten)
def Fg(w:U)(N:Option Ym)(Q:Nat)(rs:List (List Sd))(c:gw w w.heap.size N Q rs)(g:ln rs.flatten<=1000000):
  XY Xz 158 #[YE #[V N (ln rs) Q]] w λx w'=>Xp rs x/\Ext w w':=by
 obtain⟨i0,J,X,ac,T⟩:=info_parts s8;have I0:=A J;have I1:=A X;have I2:=A ac;have I3:=A T;have h1:=c.1;have h2:=c.2.1;unfold Yk at h2;have l:=A (show Ext w (w.alloc (.cells #[V N (ln rs) Q] 24)) from(XI _ _).alloc (XE _) _);have F:=A (Bx.new w 24 (V N (ln rs) Q));have o:=(c.below l.o).more l.o.size;obtain⟨j,z⟩:=aa (w.alloc (.cells #[V N (ln rs) Q] 24));rw[z] at l F o;have KC:=A (wA j N Q rs o g);have HR:=A o;have ag:=A z;have HB:=A (λW (h:Ext j W)=>(F.o.below h F.o.lt).cell);have K:=A g;clear c o g J X ac T z;go_enter func158,ntmps158;go_wp2_with(go_at_call 79;fail)
 rw[ag.o];refine KC.o.mono ?_;obtain⟨k,t⟩:=aa (oO rs);rw[t];have ai:=A t;have hk:k=0->∀r∈rs,r≠[]:=λe=>VD (t.trans e)
 clear t;rintro e W1 ⟨rfl,C⟩;have R:=A C;by_cases B:k=0
 ·subst B;have ad:=hk H;have ah:=A ad;clear hk C ad;go_wp2_with fail
  have ST:=A (show W1.ownsRow j.heap.size 36 7 (V I 0 0) 0 [] from⟨H,.inl ⟨H,H⟩⟩);go_loopw [4,5] (λv i wr=>Xc j rs v i wr) (λ_ i _=>((ln rs:Int)-Yf i).toNat)
  case atStart=>exact⟨0,D,rfl,by simpa using ST.o,R.o⟩
  case round=>
   obtain⟨k,hk,rfl,M,E⟩:=hrel;have n:=A M;have a:=A E;have c0:=HB.o _ E;clear M E;by_cases m:k<ln rs
   ·obtain⟨b,off,rfl,hB,ab⟩:=(HR.o.below a.o).2.2 D;obtain⟨Ai,ci,c1,d⟩:=ab k m;have y:rs.getD k []≠[]:=by
     have e:rs.getD k []=rs[k]:=by rw[XJ,XO m];rfl
     rw[e];exact ah.o _ (List.getElem_mem m)
    have f:=eQ m;have L:=gx rs (k+1);obtain⟨ring,O⟩:=aa (rs.getD k []);rw[O] at c1 d y f;have ak:0<ln ring:=List.length_pos_iff.2 y;obtain⟨ba,oa,rfl,_,_⟩:=id (d.2.2 (by rw[XP];exact ak));have af:=A (d.cells (dB ring) YK);have g:=A (show(aE ring).flatten.length=ln ring*7 by rw[bI (dB ring),XP]);have am:(rs.take k).flatten.length+ln ring<=1000000:=by rw[f,Yc] at L;have:=K.o;omega
    have aj:=A (show∀u∈(aE ring).flatten,u.oneCell'=Y by
     intro u hu;obtain⟨r,c,P⟩:=List.mem_flatten.1 hu;obtain⟨s,_,rfl⟩:=List.mem_map.1 c;simp only[List.mem_cons,List.not_mem_nil,or_false] at P;rcases P with rfl|rfl|rfl|rfl|rfl|rfl|rfl<;>rfl)
    have HQ:=A f;have ae:=a.o.size;clear ab d y f L O;go_wp2_with(at_builtin;(refine wpList_append_own _ H _ _ _ H j.heap.size 36 i0 _ 7 56 underlying102 I0.o I1.o I2.o I3.o H D _ _ _ H n.o ⟨ba,oa,I⟩ (ln ring) ci (aE ring).flatten H g.o af.o aj.o YR D ae ?_);intro v' w' Z S an)
    exact a1x
   ·obtain rfl:k=ln rs:=D;have G:=n.o;rw[List.take_length] at G;obtain⟨A',al,rfl,d⟩:=bK G (by rw[XP]) (dB _);clear G d;go_wp2;go_ret2;exact⟨⟨A',_,al,_,H,K.o,λ_=>rfl⟩,l.o.tr a.o⟩
 ·have t0:(k !=0)=Y:=Yn.2 B;clear hk C;go_wp2_with fail
  go_ret2;exact⟨⟨I,0,0,_,H,D,λh=>absurd (ai.o.symm.trans h) B⟩,l.o.tr R.o⟩
end
section
open Kp
attribute [local go_sem] bJ gE fX gA gC fN fG fU fI gD gy dQ dO dR dn dq
def xP(w:U)(N:Option Ym)(Q:Nat)(rs:List (List Sd))(hr:gw w w.heap.size N Q rs)(af:ln rs.flatten<=1000000)(z:Option Ym)(co:Nat)(l:List nc)(v:bR 5 w w.heap.size z co (aV l))(d:ln l<=32->∀i,i<ln l->qX (l.getD i fm))(ht:bE w)(ah:oO rs=0)(aj:dL rs=0):
  XY Xz 82 #[YE #[V N (ln rs) Q],V z (ln l) co] w λx w'=>x=YC (G F (lH rs l))/\Ext w w':=by
 have B:lH rs l=if(gS l).2≠0 then(gS l).2 else if l.any (λo=> !J o.side 0 ((ln rs.flatten:Int)-1)) then 2 else if(gS l).1 then 0 else 28:=by
  unfold lH;rw[aj,XQ (show¬((0:Int)≠0) by simp)]
 have g:=λ(k:Nat) (hk:k<ln l) (h:J (l.getD k fm).side 0 ((ln rs.flatten:Int)-1)=O)=>show l.any (λo=> !J o.side 0 ((ln rs.flatten:Int)-1))=Y by
  rw[List.any_eq_true];refine⟨l.getD k fm,?_,by rw[h];rfl⟩;rw[XJ,XO hk];exact List.getElem_mem hk
 have y:=λ(h:∀j,j<ln l->J (l.getD j fm).side 0 ((ln rs.flatten:Int)-1)=Y)=>show l.any (λo=> !J o.side 0 ((ln rs.flatten:Int)-1))=O by
  rw[List.any_eq_false];intro o ho;obtain⟨i,hi,rfl⟩:=List.mem_iff_getElem.1 ho;have:=h i hi;rw[XJ,XO hi] at this;exact a2V
 obtain⟨f,hf⟩:=aa (ln rs.flatten);rw[hf] at B g y;have HF:=A hf;have h1:=v.1;have h2:=v.2.1;rw[XP] at h1;unfold Yk at h2;have a:=A (show Ext w (w.alloc (.cells #[V N (ln rs) Q] 24)) from(XI _ _).alloc (XE _) _);have Z:=A (Bx.new w 24 (V N (ln rs) Q));obtain⟨S,K⟩:=aa (w.alloc (.cells #[V N (ln rs) Q] 24));rw[K] at a Z;have an:=A K;have HB:=A (λW (h:Ext S W)=>(Z.o.below h Z.o.lt).cell);have HL:=A (λ(W:U) (hx:Ext w W)=>((v.below hx).more hx.size:bR 5 W W.heap.size z co (aV l)));have KD:=A (xJ S z co l (HL.o _ a.o) d (ht.below a.o (XE _)));have KS:=A (λW (h:Ext w W)=>Fg W N Q rs ((hr.below h).more h.size) af);obtain⟨b,t⟩:=aa ((gS l).1);obtain⟨k,hk⟩:=aa ((gS l).2);obtain⟨E,X⟩:=aa (lH rs l);obtain⟨q,I⟩:=aa (l.any (λo=> !J o.side 0 ((f:Int)-1)));rw[t,hk] at KD;rw[X,t,hk,I] at B;rw[X];rw[I] at y;have g:=λk hk h=>I.symm.trans (g k hk h)
 have u:=A B;have am:=A g;have ao:=A y;have al:=A ah;clear hr af K v d ht B g y ah t hk X I aj hf;go_enter func82,ntmps82;go_wp2_with(go_at_call 157;fail)
 rw[an.o];refine KD.o.mono ?_;rintro e W1 ⟨rfl,T⟩;have R:=A T;have c0:=HB.o _ T;clear T;by_cases M:k=0
 ·subst M;have u:=A (show E=if q then 2 else if b then 0 else 28 by rw[u.o,XQ YL]);go_wp2_with(go_at_call 158;fail)
  refine(KS.o _ (a.o.tr R.o)).mono ?_;rintro e W2 ⟨⟨As,n,c,k2,rfl,hn,ae⟩,ak⟩;obtain rfl:n=f:=(ae al.o).trans HF.o;clear ae;have X2:=A (R.o.tr ak);clear ak c0;go_wp2_with fail
  go_loopw [9] (λi wr=>∃k:Nat,i=G F (k:Int)/\k<=ln l/\(∀j,j<k->J (l.getD j fm).side 0 ((n:Int)-1)=Y)/\Ext S wr) (λi _=>((ln l:Int)-Yf i).toNat)
  case atStart=>exact⟨0,H,D,λj hj=>D,X2.o⟩
  case round=>
   obtain⟨m,rfl,hm,ab,C⟩:=hrel;have ac:=A ab;clear ab;have P:=A C;by_cases ad:m<ln l
   ·obtain⟨b',off,rfl,t,hc⟩:=rY (HL.o _ (a.o.tr C)) D;have y0:=(hc m ad).1;obtain⟨s,d⟩:=aa ((l.getD m fm).side);rw[d] at y0;have ai:=A d;have w1:F.wrap ((n:Int)-1)=(n:Int)-1:=Yh _ D;have e1:(m:Int)<(ln l:Int):=D;clear C hc t d;go_wp2_with(go_at_call 80;fail)
    refine(iR _ _ _ _).mono ?_;rintro e W3 ⟨rfl,rfl⟩;obtain⟨p,L⟩:=aa (!J s 0 ((n:Int)-1));rw[L];have ag:=A L;clear L;cases p
    ·go_wp2_with fail
     exact⟨⟨m+1,by go_num,D,λj hj=>(by
      by_cases e:j=m
      ·rw[e,ai.o];simpa using ag.o
      ·exact ac.o j D),P.o⟩,YO⟩
    ·have r:=A (show E=2 by rw[u.o,am.o m ad (by rw[ai.o];simpa using ag.o),XT rfl]);go_wp2_with fail
     go_ret;exact⟨Zn,a.o.tr P.o⟩
   ·obtain rfl:m=ln l:=D;clear C;have r:=A (show E=if b then 0 else 28 by rw[u.o,ao.o ac.o,XQ YL]);cases b;all_goals
     go_wp2_with fail
     go_ret;exact⟨Zn,a.o.tr P.o⟩
 ·have t0:(k !=0)=Y:=Yn.2 M;go_wp2_with fail
  go_ret;exact⟨by rw[u.o,XT M];rfl,a.o.tr R.o⟩
def vk(w:U)(j:bO)(a:cO)(hb:fW w w.heap.size j a)(o:TZ j)(K:ln j.rings.flatten<=8\/24<ln j.rings.flatten)(R:bE w):
  XY Xz 23 #[YE (aM j a)] w λx w'=>x=YC (G F (kU j))/\Ext w w':=by
 have b:kU j=if kH j.name=O then 13 else if oO j.rings≠0 then oO j.rings else if(!J j.origin 0 65536)=Y then 2 else if(!J j.spacing 1 65536)=Y then 2
  else if iv j.purlins≠0 then iv j.purlins else if lH j.rings j.openings≠0 then lH j.rings j.openings else if fE j.sizes≠0 then fE j.sizes else if ju j.bars≠0 then ju j.bars
  else if(!J j.kerf 0 100)=Y then 2 else if eD j.tile≠0 then eD j.tile else if fh j.aq≠0 then fh j.aq else eE j.spans:=by
  unfold kU;rw[Ic K];simp only[Bool.not_eq_true']
 have P:oO j.rings=0->dL j.rings=0:=λh=>(Ic K).symm.trans h
 obtain⟨E,ac⟩:=aa (kU j);rw[ac] at b⊢;clear ac;have c:=A (show Ext w (w.alloc (.cells (aM j a) 34)) from(XI _ _).alloc (XE _) _);have H:JC (w.alloc (.cells (aM j a) 34)) w.heap.size j a:=XZ w _;obtain⟨d,D⟩:=aa (w.alloc (.cells (aM j a) 34));rw[D] at c H;have ag:=A D;have m:=A (λW (h:Ext d W) i=>(JC.ext H h).cell i);have l:=A (λW (h:Ext d W)=>hb.grow (c.o.tr h));have L:=A (λW (h:Ext d W)=>R.below (c.o.tr h) (XE _));have KN:=A (λW=>tF j.name W o.name);have KP:=A (λW (h:Ext d W)=>wA W a.pa a.pc j.rings (l.o W h).p o.rings);have KU:=A (λW (h:Ext d W)=>AD W a.ua a.uc j.purlins (l.o W h).u);have KO:=A (λW (h:Ext d W)=>λV=>xP W a.pa a.pc j.rings (l.o W h).p o.rings a.oa a.oc j.openings (l.o W h).o o.ops (L.o W h) V (P V));have KZ:=A (λW (h:Ext d W)=>GN W a.za a.zc j.sizes (l.o W h).z);have KB:=A (λW (h:Ext d W)=>FQ W a.ba a.bc j.bars (l.o W h).b);have KT:=A (λW=>Aq j.tile W);have KL:=A (λW (h:Ext d W)=>GI W a.la a.lc j.aq (l.o W h).l o.aq (L.o W h));have KS:=A (λW (h:Ext d W)=>Gx W a.sa a.sc j.spans (l.o W h).s);have g:=A b;clear hb o R D H b P K;go_enter func23,ntmps23;go_wp2_with(go_at_call 32;fail)
 rw[ag.o];have X0:=A (Ext.ah d);refine(KN.o _).mono ?_;obtain⟨b1,N⟩:=aa (kH j.name);have b:=g.o;rw[N] at b⊢;clear N;rintro e W1 ⟨rfl,I⟩;have Z:Ext d W1:=by first|(rw[I];exact Ext.ah _)|(rw[<-I];exact Ext.ah _)
 clear I;have y:=A (X0.o.tr Z);have c1:=m.o _ y.o;clear Z;cases b1
 case false=>
  have r:=A (show E=13 by rw[b,XT rfl]);clear b;go_wp2_with fail
  go_ret;exact⟨Zn,c.o.tr y.o⟩
 rw[XQ YL] at b;have g:=A b;clear b;go_wp2_with(go_at_call 79;fail)
 refine(KP.o _ y.o).mono ?_;rintro e W2 ⟨rfl,ae⟩;have q:=A (y.o.tr ae);have c2:=m.o _ q.o;clear ae c1;obtain⟨k,hk⟩:=aa (oO j.rings);have b:=g.o;rw[hk] at b⊢;have n:=A hk;clear hk;by_cases h:k=0
 case neg=>
  have t:(k !=0)=Y:=Yn.2 h;have r:=A (show E=k by rw[b,XT h]);clear b;go_wp2_with fail
  go_ret;exact⟨Zn,c.o.tr q.o⟩
 subst h;rw[XQ YL] at b;have g:=A b;have af:=n;clear b;go_wp2_with(go_at_call 80;fail)
 refine(iR _ _ _ _).mono ?_;rintro e M ⟨rfl,rfl⟩;obtain⟨p,f⟩:=aa (!J j.origin 0 65536);have b:=g.o;rw[f] at b⊢;clear f;cases p
 case true=>
  exact a3j
 rw[XQ YL] at b;have g:=A b;clear b;go_wp2_with(go_at_call 80;fail)
 refine(iR _ _ _ _).mono ?_;rintro e M ⟨rfl,rfl⟩;obtain⟨p,f⟩:=aa (!J j.spacing 1 65536);have b:=g.o;rw[f] at b⊢;clear f;cases p
 case true=>
  exact a3j
 rw[XQ YL] at b;have g:=A b;clear b;go_wp2_with(go_at_call 81;fail)
 refine(KU.o _ q.o).mono ?_;rintro e W3 ⟨rfl,Q⟩;have s:=A (q.o.tr Q);have c3:=m.o _ s.o;clear Q c2;obtain⟨k,hk⟩:=aa (iv j.purlins);have b:=g.o;rw[hk] at b⊢;have n:=A hk;clear hk;by_cases h:k=0
 case neg=>
  have t:(k !=0)=Y:=Yn.2 h;have r:=A (show E=k by rw[b,XT h]);clear b;go_wp2_with fail
  go_ret;exact⟨Zn,c.o.tr s.o⟩
 subst h;rw[XQ YL] at b;have g:=A b;clear b;go_wp2_with(go_at_call 82;fail)
 refine(KO.o _ s.o af.o).mono ?_;rintro e W4 ⟨rfl,X⟩;have C:=A (s.o.tr X);have c4:=m.o _ C.o;clear X c3;obtain⟨k,hk⟩:=aa (lH j.rings j.openings);have b:=g.o;rw[hk] at b⊢;have n:=A hk;clear hk;by_cases h:k=0
 case neg=>
  have t:(k !=0)=Y:=Yn.2 h;have r:=A (show E=k by rw[b,XT h]);clear b;go_wp2_with fail
  go_ret;exact⟨Zn,c.o.tr C.o⟩
 subst h;rw[XQ YL] at b;have g:=A b;clear b;go_wp2_with(go_at_call 83;fail)
 refine(KZ.o _ C.o).mono ?_;rintro e W5 ⟨rfl,ad⟩;have B:=A (C.o.tr ad);have c5:=m.o _ B.o;clear ad c4;obtain⟨k,hk⟩:=aa (fE j.sizes);have b:=g.o;rw[hk] at b⊢;have n:=A hk;clear hk;by_cases h:k=0
 case neg=>
  have t:(k !=0)=Y:=Yn.2 h;have r:=A (show E=k by rw[b,XT h]);clear b;go_wp2_with fail
  go_ret;exact⟨Zn,c.o.tr B.o⟩
 subst h;rw[XQ YL] at b;have g:=A b;clear b;go_wp2_with(go_at_call 84;fail)
 refine(KB.o _ B.o).mono ?_;rintro e W6 ⟨rfl,T⟩;have v:=A (B.o.tr T);have c6:=m.o _ v.o;clear T c5;obtain⟨k,hk⟩:=aa (ju j.bars);have b:=g.o;rw[hk] at b⊢;have n:=A hk;clear hk;by_cases h:k=0
 case neg=>
  have t:(k !=0)=Y:=Yn.2 h;have r:=A (show E=k by rw[b,XT h]);clear b;go_wp2_with fail
  go_ret;exact⟨Zn,c.o.tr v.o⟩
 subst h;rw[XQ YL] at b;have g:=A b;clear b;go_wp2_with(go_at_call 80;fail)
 refine(iR _ _ _ _).mono ?_;rintro e M ⟨rfl,rfl⟩;obtain⟨p,f⟩:=aa (!J j.kerf 0 100);have b:=g.o;rw[f] at b⊢;clear f;cases p
 case true=>
  have r:=A (show E=2 by rw[b,XT rfl]);clear b;go_wp2_with fail
  go_ret;exact⟨Zn,c.o.tr v.o⟩
 rw[XQ YL] at b;have g:=A b;clear b;go_wp2_with(go_at_call 85;fail)
 refine(KT.o _).mono ?_;rintro e W7 ⟨rfl,ab⟩;have u:=A (v.o.tr ab);have c7:=m.o _ u.o;clear ab c6;obtain⟨k,hk⟩:=aa (eD j.tile);have b:=g.o;rw[hk] at b⊢;have n:=A hk;clear hk;by_cases h:k=0
 case neg=>
  have t:(k !=0)=Y:=Yn.2 h;have r:=A (show E=k by rw[b,XT h]);clear b;go_wp2_with fail
  go_ret;exact⟨Zn,c.o.tr u.o⟩
 subst h;rw[XQ YL] at b;have g:=A b;clear b;go_wp2_with(go_at_call 86;fail)
 refine(KL.o _ u.o).mono ?_;rintro e W8 ⟨rfl,S⟩;have z:=A (u.o.tr S);have c8:=m.o _ z.o;clear S c7;obtain⟨k,hk⟩:=aa (fh j.aq);have b:=g.o;rw[hk] at b⊢;have n:=A hk;clear hk;by_cases h:k=0
 case neg=>
  have t:(k !=0)=Y:=Yn.2 h;have r:=A (show E=k by rw[b,XT h]);clear b;go_wp2_with fail
  go_ret;exact⟨Zn,c.o.tr z.o⟩
 subst h;rw[XQ YL] at b;have g:=A b;clear b;go_wp2_with(go_at_call 87;refine(KS.o _ z.o).mono ?_;rintro e W9 ⟨rfl,ah⟩;have X9:=A (z.o.tr ah))
 go_ret;exact⟨Y6,c.o.tr X9.o⟩
end
section
open Kp
def Lr(w:U)(N o:Option Ym)(Q v:Nat)(l:List Br)(g:iT w w.heap.size N Q l)(n:iT w w.heap.size o v l):
  XY Xz 42 #[V N (ln l) Q,V o (ln l) v] w λe w'=>e=YC (Yz Y)/\Ext w w':=by
 have h1:=g.1;have h2:=g.2.1;have ah:=n.1;have ad:=n.2.1;unfold Yk at h2 ad;have G:=A (λ(W:U) (hx:Ext w W)=>((g.below hx).more hx.size:iT W W.heap.size N Q l));have B:=A (λ(W:U) (hx:Ext w W)=>((n.below hx).more hx.size:iT W W.heap.size o v l));clear g n;go_enter func42,ntmps42;go_wp2;go_loopw [5] (λi wr=>U2 w (ln l) i wr) (λi _=>((ln l:Int)-Yf i).toNat)
 case atStart=>exact⟨0,D,rfl,Ext.ah _⟩
 case round=>
  obtain⟨m,hm,rfl,J⟩:=hrel;have HX:=A J;clear J;by_cases C:m<ln l
  ·have z:YG ((m:Int)<(ln l:Int))=Y:=Yb D;have e3:(m:Int)<(ln l:Int):=D;obtain⟨b,off,f,rfl,-,-⟩:=pP (G.o _ HX.o) D;obtain⟨b',ag,t,rfl,-,-⟩:=pP (B.o _ HX.o) D;go_wp2_with fail
   simp only[List.append_eq,List.cons_append,List.nil_append];refine fR 74 R R (λM I=> ?_);have y:=A (HX.o.tr I);obtain⟨_,_,f,e,-,E⟩:=pP (G.o _ y.o) D;obtain⟨_,_,t,T,-,K⟩:=pP (B.o _ y.o) D;cases e;cases T;obtain⟨c,q⟩:=E m C;obtain⟨a,u⟩:=K m C;obtain⟨x,hx⟩:=aa (l.getD m pV);rw[hx] at c a q u;have c0:=c 0 YK;have c1:=c 1 YK;have c2:=c 2 YK;have c3:=c 3 YK;have c4:=c 4 YK;have c5:=c 5 YK;have X:=a 0 YK;have d1:=a 1 YK;have d2:=a 2 YK;have d3:=a 3 YK;have d4:=a 4 YK;have d5:=a 5 YK;rw[Nat.add_zero] at c0 X;have k:=Cm M (f m).1 (t m).1 (f m).2 (t m).2 (eN x.gaps) q u (R4 _) (λr g P=>by obtain⟨s,_,rfl⟩:=List.mem_map.1 g;exact LP _ _ P);rw[show(eN x.gaps).length=ln x.gaps from XP _] at k;have KK:=A k;have t0:(x.width==x.width)=Y:=Yt _;have t1:(x.depth==x.depth)=Y:=Yt _;have t2:(x.length==x.length)=Y:=Yt _;have t3:(x.count==x.count)=Y:=Yt _;have t4:(x.cost==x.cost)=Y:=Yt _;clear I E K c a q u k hx;refine tQ (λj d=> ?_);have af:(j[11]?).bind (·.dst)=L 28:=by rw[d];rfl
   have S:(j[24]?).bind (·.dst)=L 41:=by rw[d];rfl
   have Z:(j[37]?).bind (·.dst)=L 54:=by rw[d];rfl
   have ae:(j[50]?).bind (·.dst)=L 67:=by rw[d];rfl
   have ab:(j[63]?).bind (·.dst)=L 80:=by rw[d];rfl
   clear d;simp only[List.take_succ_cons,List.take_zero,List.drop_succ_cons,List.drop_zero];iterate 74 first
    |(refine wpStill_step (λk F=> ?_);(first|rw[XT (iq rfl af rfl rfl)]|rw[XT (iq rfl S rfl rfl)]|rw[XT (iq rfl Z rfl rfl)]|rw[XT (iq rfl ae rfl rfl)]|rw[XT (iq rfl ab rfl rfl)]);go_simp;refine F _ ?_;clear F k)
    |still_step
   refine wpStill_nil ?_;go_wp2_with(go_at_call 104;refine KK.o.mono ?_;rintro e W4 ⟨rfl,ac⟩)
   exact⟨⟨m+1,D,YL,y.o.tr ac⟩,YO⟩
  ·exact a3u
end
section
open Kp
attribute [local go_sem] bJ gE fX gA gC fN fG fU fI gD gy dQ dO dR dn dq
def Kl(w:U)(j:bO)(a a':cO)(F:fW w w.heap.size j a)(C:fW w w.heap.size j a'):
  XY Xz 11 #[YE (aM j a),YE (aM j a')] w λe w'=>e=YC (Yz Y)/\Ext w w':=by
 obtain⟨c,m⟩:=aa ((w.alloc (.cells (aM j a) 34)).alloc (.cells (aM j a') 34));have q:Ext w c:=by rw[<-m];exact((XI _ _).alloc (XE _) _).alloc YL _
 have P:=A q;have z:=A (show JC c w.heap.size j a by rw[<-m];exact JC.ext (XZ w _) ((XI _ _).alloc (XE _) _));have D:=A (show JC c (w.heap.size+1) j a' by
  have h:=(XZ (w.alloc (.cells (aM j a) 34)) (.cells (aM j a') 34));rw[Ya] at h;rw[<-m];exact h)
 have g:=A (F.grow q);have l:=A (C.grow q);have L:=A m;have N:=A (Lv c a.pa a'.pa a.pc a'.pc j.rings g.o.p l.o.p);have Q:=A (λ(W:U) (h:Ext c W)=>CC W a.ua a'.ua a.uc a'.uc j.purlins (g.o.grow h).u (l.o.grow h).u);have T:=A (λ(W:U) (h:Ext c W)=>(show XY Xz 40 #[V a.oa (ln j.openings) a.oc,V a'.oa (ln j.openings) a'.oc] W λe w'=>e=YC (Yz Y)/\Ext W w' from by
  have:=Gn W a.oa a'.oa a.oc a'.oc (aV j.openings) (g.o.grow h).o (l.o.grow h).o (lU _) (λx hx d=>by obtain⟨s,_,rfl⟩:=List.mem_map.1 hx;exact J6 _ _ _ _ _ d);rwa[XP] at this))
 have K:=A (λ(W:U) (h:Ext c W)=>(show XY Xz 41 #[V a.za (ln j.sizes) a.zc,V a'.za (ln j.sizes) a'.zc] W λe w'=>e=YC (Yz Y)/\Ext W w' from by
  have:=Ke W a.za a'.za a.zc a'.zc (bf j.sizes) (g.o.grow h).z (l.o.grow h).z (Bk _) (λx hx d=>by obtain⟨s,_,rfl⟩:=List.mem_map.1 hx;exact Ly _ _ _ d);rwa[XP] at this))
 have M:=A (λ(W:U) (h:Ext c W)=>Lr W a.ba a'.ba a.bc a'.bc j.bars (g.o.grow h).b (l.o.grow h).b);have R:=A (λ(W:U) (h:Ext c W)=>(show XY Xz 43 #[V a.la (ln j.aq) a.lc,V a'.la (ln j.aq) a'.lc] W λe w'=>e=YC (Yz Y)/\Ext W w' from by
  have:=Jy W a.la a'.la a.lc a'.lc (bG j.aq) (g.o.grow h).l (l.o.grow h).l (nN _) (λx hx d=>by obtain⟨s,_,rfl⟩:=List.mem_map.1 hx;exact JU _ _ _ d);rwa[XP] at this))
 have O:=A (λ(W:U) (h:Ext c W)=>(show XY Xz 44 #[V a.sa (ln j.spans) a.sc,V a'.sa (ln j.spans) a'.sc] W λe w'=>e=YC (Yz Y)/\Ext W w' from by
  have:=J8 W a.sa a'.sa a.sc a'.sc (aO j.spans) (g.o.grow h).s (l.o.grow h).s (Hq _) (λx hx d=>by obtain⟨s,_,rfl⟩:=List.mem_map.1 hx;exact Lj _ _ _ _ _ d);rwa[XP] at this))
 have k:=A (λ(W:U) (h:Ext c W)=>z.o.ext h);have f:=A (λ(W:U) (h:Ext c W)=>D.o.ext h);have p0:=z.o.cell;have q0:=D.o.cell;have tile:=JJ j.tile.width j.tile.length j.tile.lap j.tile.tail;clear m q F C;go_enter func11,ntmps11;go_wp2_with(first
  |(go_at_call 44;refine(O.o _ t.o).mono ?_;rintro e B ⟨rfl,b⟩;have p7:=λi=>(k.o B (Ext.tr t.o b)).cell i;have q7:=λi=>(f.o B (Ext.tr t.o b)).cell i;have S:=A (Ext.tr t.o b);clear b)
  |(go_at_call 43;refine(R.o _ r.o).mono ?_;rintro e I ⟨rfl,b⟩;have p6:=λi=>(k.o I (Ext.tr r.o b)).cell i;have q6:=λi=>(f.o I (Ext.tr r.o b)).cell i;have t:=A (Ext.tr r.o b);clear b)
  |(go_at_call 42;refine(M.o _ u.o).mono ?_;rintro e E ⟨rfl,b⟩;have p5:=λi=>(k.o E (Ext.tr u.o b)).cell i;have q5:=λi=>(f.o E (Ext.tr u.o b)).cell i;have r:=A (Ext.tr u.o b);clear b)
  |(go_at_call 41;refine(K.o _ v.o).mono ?_;rintro e J ⟨rfl,b⟩;have p4:=λi=>(k.o J (Ext.tr v.o b)).cell i;have q4:=λi=>(f.o J (Ext.tr v.o b)).cell i;have u:=A (Ext.tr v.o b);clear b)
  |(go_at_call 40;refine(T.o _ n.o).mono ?_;rintro e y ⟨rfl,b⟩;have X:=λi=>(k.o y (Ext.tr n.o b)).cell i;have q3:=λi=>(f.o y (Ext.tr n.o b)).cell i;have v:=A (Ext.tr n.o b);clear b)
  |(go_at_call 39;refine(Q.o _ o.o).mono ?_;rintro e G ⟨rfl,b⟩;have p2:=λi=>(k.o G (Ext.tr o.o b)).cell i;have q2:=λi=>(f.o G (Ext.tr o.o b)).cell i;have n:=A (Ext.tr o.o b);clear b)
  |(go_at_call 38;rw[L.o];refine N.o.mono ?_;rintro e W1 ⟨rfl,b⟩;have p1:=λi=>(k.o W1 b).cell i;have Z:=λi=>(f.o W1 b).cell i;have o:=A b;clear b))
 go_ret;exact⟨H,P.o.tr S.o⟩
end
end Go.Proofs.YtnepbjnlmkppmaaGreatDoor

