/- ChangeReplays of kingpostlaw58: part 18 of its proof (merged and shortened by program). -/
import Derived.Test.YtmliacdegmklaaaGreatDoorM15
import Derived.Test.YtmliacdegmklaaaGreatDoorM16
import Derived.Test.YtmliacdegmklaaaGreatDoorM17
set_option linter.unusedVariables false
set_option linter.unusedSimpArgs false
set_option linter.defProp false
set_option maxHeartbeats 8000000
set_option maxRecDepth 100000
open Go.RowKit Go.Shelf Go.Proofs.Tryz
open Array renaming getElem?_eq_some_iff→Vz
open Bool renaming false→Vp,true→Vv,and_eq_true_iff→Vw
open Go renaming World→Vl,Value→Vr,undef→Vs,wpOp_step→Vx,Calls→VC,maxLen→VJ,TypeId→VK,Addr→VM,Rows→VP
open Go.AllReady renaming cons→VH,nil→VO
open Go.Ending renaming returned→VV
open Go.IntKind renaming i64→VA
open Go.IntWalk renaming i64_in→VI
open Go.Lib renaming hid→Vk
open Go.RowKit renaming intOf→VG,Below→VL
open Go.Value renaming slice→VQ,string→VR,bool→VS,pointer→VT,int→VU,agg→VW,tuple→VX
open Go.World renaming alloc_heap_new→Vy,size_alloc→VF
open List renaming getD_eq_getElem?_getD→Vn,getElem?_eq_getElem→Vt,length_map→Vu,length_append→VD
open Nat renaming le_refl→Vm,le_trans→VB,mul_comm→VE
open Option renaming none→Vo,some→Vq
open Option.some renaming inj→VN
open Go.Proofs.YtmliacdegmklaaaGreatDoor
namespace Go.Proofs.YtmliacdegmklaaaGreatDoor
section
open Kp
def K8{w:Vl}{B:Nat}{A:Option VM}{cap:Nat}{l:List (Int×Int)}(h:bK 2 w B A cap (di l))(hp:0<l.length):
  ∃b off,A=Vq ⟨b,off,Vo⟩/\b<B/\∀i,i<l.length->w.cell? ⟨b,off+i*2,Vo⟩=Vq (VU VA (l.getD i (0,0)).1)/\w.cell? ⟨b,off+i*2+1,Vo⟩=Vq (VU VA (l.getD i (0,0)).2):=by
 obtain⟨h1,h2,h3⟩:=h;obtain⟨b,off,e,hb,hc⟩:=h3 (by rw[Vu];exact hp);refine⟨b,off,e,hb,λi hi=> ?_⟩;have q:∀m,m<2->w.cell? ⟨b,off+i*2+m,Vo⟩=(Ul (l.getD i (0,0)))[m]?:=by
  intro m hm;have:=hc i Xi m hm;rw[mB hi,VE] at this;exact this
 exact⟨q 0 V0,q 1 V0⟩
def oH{w:Vl}{B:Nat}{A:Option VM}{cap:Nat}{l:List Br}(h:fk w B A cap l)(hp:0<l.length):
  ∃b off,∃f:Nat->Option VM×Nat,A=Vq ⟨b,off,Vo⟩/\b<B/\∀i,i<l.length->(∀m,m<6->w.cell? ⟨b,off+i*6+m,Vo⟩=(qU (l.getD i oe) (f i).1 (f i).2)[m]?)/\bK 2 w B (f i).1 (f i).2 (di (l.getD i oe).gaps):=by
 obtain⟨b,off,e,hb,hc⟩:=h.2.2 hp;have hx:∀i,∃p:Option VM×Nat,i<l.length->(∀m,m<6->w.cell? ⟨b,off+i*6+m,Vo⟩=(qU (l.getD i oe) p.1 p.2)[m]?)/\bK 2 w B p.1 p.2 (di (l.getD i oe).gaps):=by
  intro i;by_cases hi:i<l.length
  ·obtain⟨ga,gc,h1,h2⟩:=hc i hi;exact⟨(ga,gc),λ_=>⟨λm hm=>by have:=h1 m hm;rw[VE] at this;exact this,h2⟩⟩
  ·exact⟨(Vo,0),λh=>absurd h hi⟩
 obtain⟨f,hf⟩:=Classical.axiomOfChoice hx;exact⟨b,off,f,e,hb,hf⟩
end
section
open Kp
structure Gq(l:List Br):Prop where
 n:l.length<=66
def DR (w : Vl) (A : Option VM) (cap : Nat) (l : List Br) (hl : fk w w.heap.size A cap l) :
    VC prog 103 #[VQ A l.length cap] w λx w' => jm (Gq l) x /\ Ext w w' := by
  have h1 := hl.1;have h2 := hl.2.1;unfold VJ at h2;have HL := Vk (λ(W : Vl) (hx : Ext w W) => ((hl.below hx).more hx.size : fk W W.heap.size A cap l));clear hl;obtain ⟨p1, t1⟩ : ∃ p, decide ((l.length : Int) > 6) = p := ⟨_, rfl⟩;obtain ⟨p2, t2⟩ : ∃ p, decide ((l.length : Int) <= 64) = p := ⟨_, rfl⟩;obtain ⟨p3, t3⟩ : ∃ p, decide ((l.length : Int) > 66) = p := ⟨_, rfl⟩;have H3 := Vk t3;cases p3 with
  | true =>
    have HB := Vk (show ∀ (b : Bool), b = Vv -> jm (Gq l) (VV (VS b)) fromλ_ h => ⟨_, rfl, λh2 => by rw [h] at h2; cases h2⟩);cases p1 <;> cases p2
    all_goals
      go_enter func103, ntmps103;go_wp2;go_ret;exact ⟨HB.o _ rfl, Below.refl _ _⟩
  | false =>
    have HF := Vk (show ∀ (b : Bool), jm (Gq l) (VV (VS b)) fromλ_ => ⟨_, rfl, λ_ => ⟨by have := of_decide_eq_false H3.o; omega⟩⟩);cases p1 <;> cases p2
    all_goals
      go_enter func103, ntmps103
      first
        | (go_wp2
           go_ret;exact ⟨HF.o _, Below.refl _ _⟩)
        | (go_wp2
           go_loopw [3] (λi wr => ∃ k : Nat, i =VU VA (k : Int) /\ k <= l.length /\ Ext w wr) (λi _ => ((l.length : Int) - VG i).toNat)
           case atStart => exact ⟨0, rfl, VY, Below.refl _ _⟩
           case round =>
             obtain ⟨k, rfl, hk, hX⟩ := hrel;have HX := Vk hX;by_cases hlt : k < l.length
             · obtain ⟨b, off, f, rfl, hb, hc⟩ := oH (HL.o _ hX) VY
               have y5 := (hc k hlt).1 5 V0;have y6 : _ = Vq (Value.slice (f k).1 (l.getD k oe).gaps.length (f k).2) := y5;obtain ⟨n, hn⟩ : ∃ n, (l.getD k oe).gaps.length = n := ⟨_, rfl⟩;rw [hn] at y6;clear y5 hX hc hn hb;go_wp2
               · go_ret
                 exact ⟨HF.o _, HX.o⟩
               · exact ⟨⟨k + 1, by go_num, VY, HX.o⟩, WC⟩
             · obtain rfl : k = l.length := by omega
               go_wp2;go_ret;exact ⟨HF.o _, HX.o⟩)
structure GV(n:Nat):Prop where
 n:n<=4098
def Cz(w:Vl)(A:Option VM)(cap n:Nat):
  VC prog 104 #[VQ A n cap] w λx w'=>jm (GV n) x/\w'=w:=by
 obtain⟨p1,t1⟩:∃p,decide ((n:Int)>12)=p:=⟨_,rfl⟩;obtain⟨p2,t2⟩:∃p,decide ((n:Int)<=4096)=p:=⟨_,rfl⟩;obtain⟨p3,t3⟩:∃p,decide ((n:Int)>4098)=p:=⟨_,rfl⟩;have H3:=Vk t3;cases p3 with
 |true=>
  have HB:=Vk (show∀(b:Bool),b=Vv->jm (GV n) (VV (VS b)) fromλ_ h=>⟨_,rfl,λh2=>by rw[h] at h2;cases h2⟩);cases p1<;>cases p2
  all_goals
   go_enter func104,ntmps104;go_wp2;go_ret;exact⟨HB.o _ rfl,rfl⟩
 |false=>
  have HF:=Vk (show∀(b:Bool),jm (GV n) (VV (VS b)) fromλ_=>⟨_,rfl,λ_=>⟨by have:=of_decide_eq_false H3.o;omega⟩⟩);cases p1<;>cases p2
  all_goals
   go_enter func104,ntmps104;go_wp2;go_ret;exact⟨HF.o _,rfl⟩
end
section
open Kp
structure GP(l:List Ld):Prop where
 n:l.length<=66
 w:∀i,i<l.length->(l.getD i po).weight.length<=50
def BK{w:Vl}{B:Nat}{A:Option VM}{cap:Nat}{l:List Ld}(h:bK 3 w B A cap (bU l))(hp:0<l.length):
  ∃b off,A=Vq ⟨b,off,Vo⟩/\b<B/\∀i,i<l.length->w.cell? ⟨b,off+i*3,Vo⟩=Vq (VU VA (l.getD i po).kind)/\w.cell? ⟨b,off+i*3+1,Vo⟩=Vq (VU VA (l.getD i po).side)/\w.cell? ⟨b,off+i*3+2,Vo⟩=Vq (VR (tx (l.getD i po).weight)):=by
 obtain⟨h1,h2,h3⟩:=h;obtain⟨b,off,e,hb,hc⟩:=h3 (by rw[Vu];exact hp);refine⟨b,off,e,hb,λi hi=> ?_⟩;have hr:(bU l).getD i []=Rs (l.getD i po):=by simp[List.getD,Vt hi]
 have q:∀m,m<3->w.cell? ⟨b,off+i*3+m,Vo⟩=(Rs (l.getD i po))[m]?:=by
  exact a0D
 exact⟨q 0 V0,q 1 V0,q 2 V0⟩
def zr (w : Vl) (A : Option VM) (cap : Nat) (l : List Ld) (hl : bK 3 w w.heap.size A cap (bU l)) :
    VC prog 39 #[VQ A l.length cap] w λx w' => jm (GP l) x /\ Ext w w' := by
  have h1 := hl.1;have h2 := hl.2.1;rw [Vu] at h1;unfold VJ at h2;have HL := Vk (λ(W : Vl) (hx : Ext w W) => ((hl.below hx).more hx.size : bK 3 W W.heap.size A cap (bU l)));clear hl;have HT := Vk (show jm (GP l) (VV (VS Vv)) from ⟨_, rfl, λh => V6⟩);obtain ⟨p1, t1⟩ : ∃ p, decide ((l.length : Int) > 8) = p := ⟨_, rfl⟩;obtain ⟨p2, t2⟩ : ∃ p, decide ((l.length : Int) <= 64) = p := ⟨_, rfl⟩;obtain ⟨p3, t3⟩ : ∃ p, decide ((l.length : Int) > 66) = p := ⟨_, rfl⟩;have H3 := Vk t3;cases p3 with
  | true =>
    cases p1 <;> cases p2
    all_goals
      go_enter func39, ntmps39;go_wp2;go_ret;exact ⟨HT.o, Below.refl _ _⟩
  | false =>
    have HF := Vk (show (∀ i, i < l.length -> (l.getD i po).weight.length <= 50) -> jm (GP l) (VV (VS Vp)) fromλh => ⟨_, rfl, λ_ => ⟨by have := of_decide_eq_false H3.o; omega, h⟩⟩);cases p1 <;> cases p2
    all_goals
      go_enter func39, ntmps39
      first
        | (go_wp2
           go_ret;exact ⟨HT.o, Below.refl _ _⟩)
        | (go_wp2
           go_loopw [3] (λi wr => ∃ k : Nat, i =VU VA (k : Int) /\ k <= l.length /\ Ext w wr /\ ∀ m, m < k -> (l.getD m po).weight.length <= 50) (λi _ => ((l.length : Int) - VG i).toNat)
           case atStart => exact ⟨0, rfl, VY, Below.refl _ _, λm hm => VY⟩
           case round =>
             obtain ⟨k, rfl, hk, hX, hall⟩ := hrel;have HX := Vk hX;have HA := Vk hall;by_cases hlt : k < l.length
             · obtain ⟨b, off, rfl, hb, hc⟩ := BK (HL.o _ hX) VY
               have y2 := (hc k hlt).2.2;obtain ⟨s, hs⟩ : ∃ n, (l.getD k po).weight = n := ⟨_, rfl⟩;rw [hs] at y2;have hz := ai s;by_cases h50 : 50 < s.length
               · clear hX hc hs hb hall
                 go_wp2;go_ret;exact ⟨HT.o, HX.o⟩
               · have HN := Vk (show ∀ m, m < k + 1 -> (l.getD m po).weight.length <= 50 fromλm hm => by
                   by_cases e : m = k
                   · rw [e, hs]; omega
                   · exact HA.o m VY)
                 have hns : ¬ 50 < (s.length : Int) := VY;clear hX hc hs hb hall;go_wp2;exact ⟨⟨k + 1, by go_num, VY, HX.o, HN.o⟩, WC⟩
             · obtain rfl : k = l.length := by omega
               clear hall;go_wp2;go_ret;exact ⟨HF.o HA.o, HX.o⟩)
end
section
open Kp
structure mT(o:kR):Prop where
 a:ej o.left.length=Vp
 b:ej o.right.length=Vp
 c:ej o.low.length=Vp
 d:ej o.high.length=Vp
structure xM(l:List kR):Prop where
 n:l.length<=34
 w:∀i,i<l.length->i<7->mT (l.getD i ef)
 six:l.length<=6\/32<l.length
def qM{w:Vl}{B:Nat}{A:Option VM}{cap:Nat}{l:List kR}(h:bK 5 w B A cap (bD l))(hp:0<l.length):
  ∃b off,A=Vq ⟨b,off,Vo⟩/\b<B/\∀i,i<l.length->w.cell? ⟨b,off+i*5,Vo⟩=Vq (VU VA (l.getD i ef).side)/\w.cell? ⟨b,off+i*5+1,Vo⟩=Vq (VR (tx (l.getD i ef).left))/\w.cell? ⟨b,off+i*5+2,Vo⟩=Vq (VR (tx (l.getD i ef).right))/\w.cell? ⟨b,off+i*5+3,Vo⟩=Vq (VR (tx (l.getD i ef).low))/\w.cell? ⟨b,off+i*5+4,Vo⟩=Vq (VR (tx (l.getD i ef).high)):=by
 obtain⟨h1,h2,h3⟩:=h;obtain⟨b,off,e,hb,hc⟩:=h3 (by rw[Vu];exact hp);refine⟨b,off,e,hb,λi hi=> ?_⟩;have hr:(bD l).getD i []=wm (l.getD i ef):=by simp[List.getD,Vt hi]
 have q:∀m,m<5->w.cell? ⟨b,off+i*5+m,Vo⟩=(wm (l.getD i ef))[m]?:=by
  exact a0D
 exact⟨q 0 V0,q 1 V0,q 2 V0,q 3 V0,q 4 V0⟩
def Ae (w : Vl) (A : Option VM) (cap : Nat) (l : List kR) (hl : bK 5 w w.heap.size A cap (bD l)) :
    VC prog 38 #[VQ A l.length cap] w λx w' => jm (xM l) x /\ Ext w w' := by
  have h1 := hl.1;have h2 := hl.2.1;rw [Vu] at h1;unfold VJ at h2;have HL := Vk (λ(W : Vl) (hx : Ext w W) => ((hl.below hx).more hx.size : bK 5 W W.heap.size A cap (bD l)));clear hl;have HT := Vk (show jm (xM l) (VV (VS Vv)) from ⟨_, rfl, λh => V6⟩);have HF := Vk (show ∀ b : Bool, (b = Vp -> xM l) -> jm (xM l) (VV (VS b)) fromλb h => ⟨_, rfl, h⟩);go_enter func38, ntmps38;go_wp2;go_loopw [3] (λi wr => ∃ k : Nat, i =VU VA (k : Int) /\ k <= l.length /\ k <= 7 /\ Ext w wr /\ ∀ m, m < k -> mT (l.getD m ef)) (λi _ => ((l.length : Int) - VG i).toNat)
  case atStart => exact ⟨0, rfl, VY, VY, Below.refl _ _, λm hm => VY⟩
  case round =>
    obtain ⟨k, rfl, hk, hk7, hX, hall⟩ := hrel;have HX := Vk hX;have HA := Vk hall;by_cases hlt : k < l.length /\ k < 7
    · obtain ⟨hlt, h7⟩ := hlt
      obtain ⟨b, off, rfl, hb, hc⟩ := qM (HL.o _ hX) VY;obtain ⟨_, y1, y2, y3, y4⟩ := hc k hlt;obtain ⟨o, ho⟩ : ∃ n, l.getD k ef = n := ⟨_, rfl⟩;rw [ho] at y1 y2 y3 y4;have HO := Vk ho;obtain ⟨sd, s1, s2, s3, s4⟩ := o;dsimp only at y1 y2 y3 y4;obtain ⟨b1, t1⟩ : ∃ b, ej s1.length = b := ⟨_, rfl⟩;obtain ⟨b2, t2⟩ : ∃ b, ej s2.length = b := ⟨_, rfl⟩;obtain ⟨b3, t3⟩ : ∃ b, ej s3.length = b := ⟨_, rfl⟩;obtain ⟨b4, t4⟩ : ∃ b, ej s4.length = b := ⟨_, rfl⟩;have H1 := Vk t1;have H2 := Vk t2;have H3 := Vk t3;have H4 := Vk t4;have e1 : (k : Int) < (l.length : Int) := VY;have e2 : decide ((k : Int) < 7) = Vv := decide_eq_true VY;clear hX hc ho hb hall;by_cases hq : b1 = Vp /\ b2 = Vp /\ b3 = Vp /\ b4 = Vp
      · obtain ⟨rfl, rfl, rfl, rfl⟩ := hq
        have HN := Vk (show ∀ m, m < k + 1 -> mT (l.getD m ef) fromλm hm => by
          by_cases e : m = k
          · rw [e, HO.o]; exact ⟨H1.o, H2.o, H3.o, H4.o⟩
          · exact HA.o m VY)
        go_wp2_with (go_at_call 84; go_must (refine (mK _ _).mono ?_); rintro e W1 ⟨rfl, rfl⟩)
        exact ⟨⟨k + 1, by go_num, VY, VY, HX.o, HN.o⟩, WC⟩
      · cases b1 <;> cases b2 <;> cases b3 <;> cases b4
        all_goals first
          | exact absurd ⟨rfl, rfl, rfl, rfl⟩ hq
          | (clear hq
             go_wp2_with (go_at_call 84; go_must (refine (mK _ _).mono ?_); rintro e W1 ⟨rfl, rfl⟩)
             go_ret;exact ⟨HT.o, HX.o⟩)
    · have HN := Vk (show (l.length <= k \/ k = 7) from VY)
      obtain ⟨p1, q1⟩ : ∃ p, decide ((l.length : Int) > 6) = p := ⟨_, rfl⟩;obtain ⟨p2, q2⟩ : ∃ p, decide ((l.length : Int) <= 32) = p := ⟨_, rfl⟩;obtain ⟨p3, q3⟩ : ∃ p, decide ((l.length : Int) > 34) = p := ⟨_, rfl⟩;have HV := Vk (show ∀ b : Bool, (b = Vp -> p3 = Vp /\ (p1 = Vp \/ p2 = Vp)) -> jm (xM l) (VV (VS b)) fromλb h => HF.o b (λhb => by
        obtain ⟨a, c⟩ := h hb;have a3 := of_decide_eq_false (q3.trans a);refine ⟨VY, λi hi hi7 => HA.o i (by rcases HN.o with h | h <;> omega), ?_⟩;rcases c with c | c
        · have := of_decide_eq_false (q1.trans c); omega
        · have := of_decide_eq_false (q2.trans c); omega))
      have hN := HN.o;clear hlt hX hall HN HA;rcases hN with hN | hN
      · obtain rfl : k = l.length := by omega
        clear hN hk hk7;cases p1 <;> cases p2 <;> cases p3
        all_goals
          go_wp2;go_ret;refine ⟨HV.o _ ?_, HX.o⟩;simp
      · subst hN
        clear hk7;cases q0 : decide ((7 : Int) < (l.length : Int)) <;> cases p1 <;> cases p2 <;> cases p3
        all_goals
          go_wp2;go_ret;refine ⟨HV.o _ ?_, HX.o⟩;simp
end
section
open Kp
structure uD(o:kR):Prop where
 a:(tx o.left).size<=604
 b:(tx o.right).size<=604
 c:(tx o.low).size<=604
 d:(tx o.high).size<=604
def dQ{n:Nat}(h:ej n=Vp):n<=604:=by
 unfold ej at h;simp at h;omega
def mT.sm{o:kR}(h:mT o):uD o:=⟨by rw[ai];exact dQ h.a,by rw[ai];exact dQ h.b,by rw[ai];exact dQ h.c,by rw[ai];exact dQ h.d⟩
end
section
open Kp
attribute [local go_sem] bF jR jN jU jK jI jO jP jM jL jQ fK fE fm fl ft
structure TU(j:bC):Prop where
 name:j.name.length<=1000000
 rings:j.rings.flatten.length<=1000000
 ops:j.openings.length<=32->∀i,i<j.openings.length->uD (j.openings.getD i ef)
 aH:∀i,i<j.aH.length->(j.aH.getD i po).weight.length<=50
end
section
open Kp
attribute [local go_sem] bF jR jN jU jK jI jO jP jM jL jQ fK fE fm fl ft
structure yQ(j:bC):Prop where
 name:j.name.length<=40
 r:Kx j.rings
 u:j.purlins.length<=17
 o:xM j.openings
 z:j.sizes.length<=16
 b:Gq j.bars
 l:GP j.aH
 s:GV j.spans.length
def Dd(w:Vl)(j:bC)(a:dq)(hb:eC w w.heap.size j a)(hbig:j.rings.flatten.length<=4000000000):
  VC prog 44 #[VW (bZ j a)] w λx w'=>jm (yQ j) x/\Ext w w':=by
 have E0:=Vk (show Ext w (w.alloc (.cells (bZ j a) 34)) from(Below.refl _ _).alloc (Vm _) _);have J0:JC (w.alloc (.cells (bZ j a) 34)) w.heap.size j a:=Vy w _;obtain⟨w0,hw0⟩:∃w0,w.alloc (.cells (bZ j a) 34)=w0:=⟨_,rfl⟩;rw[hw0] at E0 J0;have HW0:=Vk hw0;have HC:=Vk (λW (h:Ext w0 W) i=>(JC.ext J0 h).cell i);have HB:=Vk (λW (h:Ext w0 W)=>hb.grow (E0.o.tr h));have X1:=Vk (Ext.aB w0);have KP:=Vk (λW (h:Ext w0 W)=>BB W a.pa a.pc j.rings (HB.o W h).p 8 hbig);have KO:=Vk (λW (h:Ext w0 W)=>Ae W a.oa a.oc j.openings (HB.o W h).o);have KB:=Vk (λW (h:Ext w0 W)=>DR W a.ba a.bc j.bars (HB.o W h).b);have KL:=Vk (λW (h:Ext w0 W)=>zr W a.la a.lc j.aH (HB.o W h).l);have KS:=Vk (λW=>Cz W a.sa a.sc j.spans.length);have GT:=Vk (show jm (yQ j) (VV (VS Vv)) from⟨_,rfl,λh=>V6⟩);have hb0:=(HB.o w0 X1.o);have hul:=hb0.u.1;have hul2:=hb0.u.2.1;have hzl:=hb0.z.1;have hzl2:=hb0.z.2.1;rw[Vu] at hul hzl;unfold VJ at hul2 hzl2;clear hb hbig hw0 J0 hb0;by_cases g0:40<j.name.length
 case pos=>
  go_enter func44,ntmps44;go_wp2_with fail
  go_ret;exact⟨GT.o,by rw[HW0.o];exact E0.o⟩
 go_enter func44,ntmps44;go_wp2_with(go_at_call 102;fail)
 rw[HW0.o];refine(KP.o _ X1.o).mono ?_;rintro e W2 ⟨⟨b1,rfl,h1⟩,hX2⟩;have X2:=Vk (X1.o.tr hX2);have c2:=HC.o _ X2.o;have G1:=Vk h1;clear hX2 h1;cases b1
 case true=>
  go_wp2_with fail
  go_ret;exact⟨GT.o,E0.o.tr X2.o⟩
 by_cases g2:17<j.purlins.length
 case pos=>
  go_wp2_with fail
  go_ret;exact⟨GT.o,E0.o.tr X2.o⟩
 go_wp2_with(go_at_call 38;fail)
 refine(KO.o _ X2.o).mono ?_;rintro e W3 ⟨⟨b3,rfl,h3⟩,hX3⟩;have X3:=Vk (X2.o.tr hX3);have c3:=HC.o _ X3.o;have G3:=Vk h3;clear hX3 h3 c2;cases b3
 case true=>
  go_wp2_with fail
  go_ret;exact⟨GT.o,E0.o.tr X3.o⟩
 by_cases g4:16<j.sizes.length
 case pos=>
  go_wp2_with fail
  go_ret;exact⟨GT.o,E0.o.tr X3.o⟩
 go_wp2_with(go_at_call 103;fail)
 refine(KB.o _ X3.o).mono ?_;rintro e W4 ⟨⟨b5,rfl,h5⟩,hX4⟩;have X4:=Vk (X3.o.tr hX4);have c4:=HC.o _ X4.o;have G5:=Vk h5;clear hX4 h5 c3;cases b5
 case true=>
  go_wp2_with fail
  go_ret;exact⟨GT.o,E0.o.tr X4.o⟩
 go_wp2_with(go_at_call 39;fail)
 refine(KL.o _ X4.o).mono ?_;rintro e W5 ⟨⟨b6,rfl,h6⟩,hX5⟩;have X5:=Vk (X4.o.tr hX5);have c5:=HC.o _ X5.o;have G6:=Vk h6;clear hX5 h6 c4;cases b6
 case true=>
  go_wp2_with fail
  go_ret;exact⟨GT.o,E0.o.tr X5.o⟩
 go_wp2_with(go_at_call 104;go_loud (refine(KS.o _).mono ?_);rintro e W6 ⟨⟨b7,rfl,h7⟩,rfl⟩)
 go_ret;exact⟨⟨_,rfl,λh=>⟨VY,G1.o WV,VY,G3.o WV,VY,G5.o WV,G6.o WV,h7 (Bool.or_eq_false_iff.1 h).2⟩⟩,E0.o.tr X5.o⟩
end
section
open Kp
def ff{ops:Array Oper}{rest:List Oper}{o:Oper}{a:Act}{w:Vl}{Q:Exit->Act->Vl->Prop}(hw:Region.wanted o (yielded ops a.tmps)=Vv)(x:Operand)(ho:o.op= .load 34 x)
  (g:Nat)(hx:a.eval x=VT (Vq ⟨g,0,Vo⟩))(cs:Array Vr)(hg:w.heap[g]?=Vq (.cells cs 34 (0,0)))(hi:(prog.info? 34).map (·.size)=Vq cs.size)
  (h:wpList prog ops Q rest (a.put o.dst (VW cs)) w):wpList prog ops Q (o::rest) a w:=
 wpList_step λ_ hK=>by
  rw[if_pos hw];exact wp_load_row 34 x ho g hx 34 cs (0,0) _ hg underlying34 rfl hi (hK _ _ h)
def yQ.Oy{j:bC}(h:yQ j)(h32:j.openings.length<=32):∀i,i<j.openings.length->mT (j.openings.getD i ef):=by
 intro i hi;rcases h.o.six with h6|h6
 ·exact h.o.w i hi VY
 ·omega
def yQ.fw{j:bC}(h:yQ j):TU j:=
 ⟨by have:=h.name;omega,by have:=h.r.f;omega,λh32 i hi=>(h.Oy h32 i hi).sm,h.l.w⟩
structure uH(j:bC):Prop where
 gr:yQ j
 o:j.openings.length<=32
def TZ(P:Prop)(x:Ending):Prop:=∃b:Bool,x=VV (VS b)/\(b=Vv->P)
end
section
open Kp
def CB(a:ByteArray):Nat:=if h:0<a.size then(if((a[0]'h).toNat:Int)==45 then a.size-1 else a.size) else 0
def ER(l:By):CB (tx l)=(own l).length:=by
 unfold CB;cases l with
 |nil=>rfl
 |cons b l=>
  rw[dif_pos (by rw[ai];simp),iR,eY];simp only[ai];show(if((b.toNat:Int)==45)=Vv then _ else _)=(if(Vq b==Vq 45)=Vv then _ else _:By).length;by_cases h:b=45
  ·subst h;rfl
  ·have h1:((b.toNat:Int)==45)=Vp:=by
    rw[beq_eq_false_iff_ne];intro e;exact h (by apply UInt8.toNat_inj.1;show b.toNat=45;omega)
   have h2:(Vq b==Vq (45:UInt8))=Vp:=Wy;rw[h1,h2];rfl
def QS(a:By):pN (aM (tx a))=tx (Lib.cut a [47]).1:=by
 obtain⟨co,c2,cp⟩:=th a;rw[kh];unfold pN;dsimp only;rw[<-co,eY,<-cp];cases h:(Lib.cut a [47]).1 with
 |nil=>rfl
 |cons b l=>
  rw[lj];by_cases hb:b=45
  ·subst hb;rfl
  ·have h2:(Vq b==Vq (45:UInt8))=Vp:=by simpa using hb
   simp only[List.head?_cons,h2]
   rfl
def SM{a:By}{m:Nat}(h:jF (tx a))(h1:CB (pN (aM (tx a)))<=m)(h2:(pD (aM (tx a))).size<=m):Rp a<=m:=by
 have hc:=vO h;rw[QS,ER] at h1;unfold Rp;unfold bS at hc;cases hcu:dP a with
 |none=>rw[hcu] at hc;cases hc
 |some p=>
  have hp:p=((Lib.cut a [47]).1,if(Lib.cut a [47]).2.2=Vv then(Lib.cut a [47]).2.1 else [49]):=by
   unfold dP at hcu;dsimp only at hcu;split at hcu
   ·cases hcu
   ·split at hcu
    ·rename_i q;injection hcu with e;rw[<-e,q];simp
    ·rename_i q;split at hcu
     ·cases hcu
     ·injection hcu with e;rw[<-e];simp at q;rw[q];simp
  subst hp;dsimp only;rw[kh] at h2;unfold pD at h2;dsimp only at h2;obtain⟨co,c2,cp⟩:=th a;rw[c2];have:(if(Lib.cut (own a) [47]).2.2=Vv then(Lib.cut (own a) [47]).2.1 else [49]).length<=m:=by
   split at h2
   ·rename_i q;rw[if_pos q];rwa[ai] at h2
   ·rename_i q;rw[if_neg q];exact h2
  omega
def Be(z:ByteArray)(m:Nat)(w:Vl)(hs:z.size<=100000)(ht:aU w):VC prog 178 #[VR z,VU VA (m:Int)] w λe w'=>
  (∃k:Int,e=VV (VU VA k)/\(k=0->jF z/\CB (pN (aM z))<=m/\(pD (aM z)).size<=m))/\Ext w w':=by
 have KC:=Vk (jr z w VY ht);have HT:=Vk ht;have HZ:=Vk (show z.size<=1000000 by omega);have hpn:=Hl z;have hpd:=G7 z;have HN:=Vk (λ(h:jF z)=>h.num);obtain⟨a,ha⟩:∃a,pN (aM z)=a:=⟨_,rfl⟩;obtain⟨b,hb⟩:∃b,pD (aM z)=b:=⟨_,rfl⟩;rw[ha] at hpn;rw[hb] at hpd;rw[ha,hb];have HA:=Vk ha;have HB:=Vk hb;clear ha hb ht;go_enter func178,ntmps178;go_wp2_with(go_at_call 227;go_loud (refine KC.o.mono ?_);rintro e W1 ⟨⟨k,rfl,hk⟩,hX1⟩;have X1:=Vk hX1;have HK:=Vk hk;clear hX1 hk)
 ·go_ret;exact⟨⟨_,rfl,λh=>WY⟩,X1.o⟩
 ·have hok:=HK.o.1 WY;have hnum:=HN.o hok;have hn1:=hnum.num;rw[HA.o] at hn1;refine(pZ z W1 HZ.o (HT.o.below X1.o (Vm _))).mono ?_;rintro e W2 ⟨⟨x,y,c,rfl,h1⟩,hX2⟩;obtain⟨rfl,rfl,rfl⟩:=h1 hok;rw[HA.o,HB.o];have X2:=Vk (X1.o.tr hX2);have HO:=Vk hok;clear hX2 h1 hok hnum;obtain⟨p2,t2⟩:∃p,(((a[0]'hn1).toNat:Int)==45)=p:=⟨_,rfl⟩;have HG:=Vk (show CB a=if p2 then a.size-1 else a.size by unfold CB;rw[dif_pos hn1,t2]);cases p2
  ·by_cases g1:m<a.size
   ·exact a0Z
   ·by_cases g2:m<b.size
    ·exact a0Z
    ·go_wp2;go_ret;exact⟨⟨_,rfl,λ_=>⟨HO.o,by rw[HG.o,if_neg V0];omega,VY⟩⟩,X2.o⟩
  ·by_cases g1:m<a.size-1
   ·exact a0Z
   ·by_cases g2:m<b.size
    ·exact a0Z
    ·go_wp2;go_ret;exact⟨⟨_,rfl,λ_=>⟨HO.o,by rw[HG.o,if_pos trivial];omega,VY⟩⟩,X2.o⟩
def D5(a:By)(w:Vl)(hs:a.length<=100000)(ht:aU w):VC prog 114 #[VR (tx a)] w λe w'=>(∃k:Int,e=VV (VU VA k)/\(k=0->Ch a=0))/\Ext w w':=by
 have KD:=Vk (Be (tx a) 20 w (by rw[ai];exact hs) ht);have HE:=Vk (λ(h:jF (tx a)/\CB (pN (aM (tx a)))<=20/\(pD (aM (tx a))).size<=20) (h2:(a.head?==Vq 45)=Vp)=>show Ch a=0 by
  unfold Ch;rw[if_neg (λq=>q (vO h.1)),if_neg (Nat.not_lt.2 (SM h.1 h.2.1 h.2.2)),lj,h2];rfl)
 have HP:=Vk (λ(h:jF (tx a))=>h.num.pos);have HZ:=Vk (show(tx a).size<=100000 by rw[ai];exact hs);have HH:=Vk (λ(z:ByteArray) (hz:tx a=z) (q:0<z.size) (h:(((z[0]'q).toNat:Int)==45)=Vp)=>show(a.head?==Vq 45)=Vp by
  subst hz;cases a with
  |nil=>rfl
  |cons b l=>
   rw[iR] at h;have h1:¬((b.toNat:Int)=45):=Wy;rw[List.head?_cons,beq_eq_false_iff_ne];intro e;injection e with e
   subst e;exact h1 rfl)
 obtain⟨z,hz⟩:∃z,tx a=z:=⟨_,rfl⟩;rw[hz] at KD HE HP HZ;have HH:=Vk (HH.o z hz);rw[hz];clear hs ht hz;go_enter func114,ntmps114;go_wp2_with(go_at_call 178;fail)
 refine KD.o.mono ?_;rintro e W1 ⟨⟨k,rfl,hk⟩,hX1⟩;have X1:=Vk hX1;have HK:=Vk hk;clear hX1 hk;by_cases hk0:k=0
 ·subst hk0;have hok:=HK.o rfl;have hp:=HP.o hok.1;have hz:=HZ.o;obtain⟨p2,t2⟩:∃p,(((z[0]'hp).toNat:Int)==45)=p:=⟨_,rfl⟩;have HQ:=Vk (λ(h:p2=Vp)=>HE.o hok (HH.o hp (t2.trans h)));clear hok;cases p2
  ·go_wp2;go_ret;exact⟨⟨_,rfl,λ_=>HQ.o trivial⟩,X1.o⟩
  ·go_wp2;go_ret;exact⟨⟨_,rfl,λh=>V6⟩,X1.o⟩
 ·have t:(k !=0)=Vv:=bne_iff_ne.2 hk0;go_wp2;go_ret;exact⟨⟨_,rfl,λh=>absurd h hk0⟩,X1.o⟩
def IG{l:List Ld}(h1:l.length<=64)(h2:∀j,j<l.length->ni l j=0):fC l=0:=by
 unfold fC;rw[if_neg VY];exact bh h2
theorem Ew(w:Vl)(A:Option VM)(cap:Nat)(l:List Ld)(hl:bK 3 w w.heap.size A cap (bU l))(hs:∀i,i<l.length→(l.getD i po).weight.length≤50)(ht:aU w):
  VC prog 53 #[.slice A l.length cap] w fun x w'=>(∃k:Int,x= .returned (.int .i64 k)∧(k=0→fC l=0))∧Ext w w':=by
 have h1:=hl.1
 have h2:=hl.2.1
 rw[Vu] at h1
 unfold VJ at h2
 have HL:=Vk (fun(W:Vl) (hx:Ext w W)=>((hl.below hx).more hx.size:bK 3 W W.heap.size A cap (bU l)))
 have HS:=Vk hs
 have HT:=Vk ht
 clear hl hs ht
 by_cases h64:64<l.length
 ·go_enter func53,ntmps53
  go_wp2
  go_ret
  exact⟨⟨_,rfl,fun h=>by cases h⟩,Below.refl _ _⟩
 have HV:=Vk (fun h=>IG (l:=l) (by omega) h)
 go_enter func53,ntmps53
 go_wp2
 go_loopw [3] (fun i wr=>∃k:Nat,i= .int .i64 (k:Int)∧k≤l.length∧Ext w wr∧∀j,j<k→ni l j=0) (fun i _=>((l.length:Int)-VG i).toNat)
 case atStart=>exact⟨0,rfl,by omega,Below.refl _ _,fun j h=>by omega⟩
 case round=>
  obtain⟨k,rfl,hk,hX,hA⟩:=hrel
  have HX:=Vk hX
  have HA:=Vk hA
  clear hA
  by_cases hlt:k<l.length
  ·obtain⟨b,off,rfl,hb,hc⟩:=BK (HL.out _ hX) (by omega)
   obtain⟨y0,y1,y2⟩:=hc k hlt
   have hw:=HS.out k hlt
   have he:ni l k=if(l.getD k po).kind<1∨3<(l.getD k po).kind then 8 else if(l.getD k po).side< -1∨24≤(l.getD k po).side then 2 else Ch (l.getD k po).weight:=rfl
   obtain⟨o,ho⟩:∃n,l.getD k po=n:=⟨_,rfl⟩
   rw[ho] at y0 y1 y2 hw he
   have K1:=Vk (D5 o.weight wr (by omega) (HT.out.below hX (Vm _)))
   obtain⟨kd,sd,wt⟩:=o
   dsimp only at y0 y1 y2 K1 he
   have e1:(k:Int)<(l.length:Int):=by omega
   clear hX hc ho hb
   by_cases q1:1≤kd∧kd≤3
   ·obtain⟨q1,q2⟩:=q1
    by_cases q3: -1≤sd∧sd<24
    ·obtain⟨q3,q4⟩:=q3
     have t1:¬kd<1:=by omega
     have t2:¬3<kd:=by omega
     have t3:¬sd< -1:=by omega
     have t4:¬24≤sd:=by omega
     rw[if_neg (by omega),if_neg (by omega)] at he
     have HE:=Vk (fun h:Ch wt=0=>jw (P:=fun j=>ni l j=0) HA.out (he.trans h))
     clear he
     go_wp2_with(go_at_call 114;go_loud (refine K1.out.mono ?_);rintro e W1 ⟨⟨c,rfl,hc⟩,hX1⟩;have X1:=Vk (HX.out.tr hX1);have HC:=Vk hc;clear hX1 hc)
     ·go_ret
      exact⟨⟨_,rfl,fun h=>by simp_all⟩,X1.out⟩
     ·exact⟨⟨k+1,by go_num,by omega,X1.out,HE.out (HC.out (by simp_all))⟩,by simp[VG];omega⟩
    ·by_cases q4:sd< -1
     all_goals
      go_wp2_with fail
      go_ret
      exact⟨⟨_,rfl,fun h=>by cases h⟩,HX.out⟩
   ·by_cases q4:kd<1
    all_goals
     go_wp2_with fail
     go_ret
     exact⟨⟨_,rfl,fun h=>by cases h⟩,HX.out⟩
  ·obtain rfl:k=l.length:=by omega
   clear hX
   go_wp2
   go_ret
   exact⟨⟨_,rfl,fun _=>HV.out HA.out⟩,HX.out⟩
end
section
open Kp
structure eM(z:ByteArray):Prop where
 ok:jF z
 n:CB (pN (aM z))<=12
 d:CB (pD (aM z))<=12
def Q2{t:ByteArray}{v:Int}(h:oJ t v)(h1:CB t<=12):v.natAbs<1000000000000:=by
 obtain⟨a,rfl,f,_,rfl⟩:=h;rw[ER] at h1;rw[sV];have h2:=kI (cV f);have h3:(10:Nat)^(own a).length<=10^12:=Nat.pow_le_pow_right V0 h1;omega
def MH{a b:ByteArray}(ha:eM a)(hb:eM b):(Eg a*(BZ b:Nat)).natAbs<10^60:=by
 have h1:=Q2 (nT ha.ok).1 ha.n;have h2:=Q2 (nT hb.ok).2 hb.d;rw[Int.natAbs_mul];have h3:(Eg a).natAbs*((BZ b:Nat):Int).natAbs<=1000000000000*1000000000000:=Nat.mul_le_mul VY VY;exact Nat.lt_of_le_of_lt h3 WN
def rV(z:ByteArray)(w:Vl)(hs:z.size<=1000001)(hp:0<z.size):VC prog 248 #[VR z] w λx w'=>x=VV (VU VA (CB z:Nat))/\w'=w:=by
 obtain⟨p2,t2⟩:∃p,(((z[0]'hp).toNat:Int)==45)=p:=⟨_,rfl⟩;have HS:=Vk (show CB z=if p2 then z.size-1 else z.size by unfold CB;rw[dif_pos hp,t2]);have w1:VA.wrap ((z.size:Int)-1)=(z.size:Int)-1:=VI _ VY;have e1:(z.size:Int)-1=((z.size-1:Nat):Int):=VY;have H1:=Vk e1;clear e1;cases p2
 ·go_enter func248,ntmps248;go_wp2;go_ret;exact⟨by rw[HS.o];rfl,rfl⟩
 ·go_enter func248,ntmps248;go_wp2;go_ret;exact⟨by first|(rw[HS.o,if_pos rfl,<-H1.o];rfl)|(rw[HS.o,if_pos trivial,<-H1.o];rfl),rfl⟩
def qh(a b:ByteArray)(w:Vl)(ha:a.size<=100000)(hb:b.size<=100000)(sa:eM a)(sb:eM b)(ht:aU w):VC prog 226 #[VR a,VR b] w λe w'=>e=VV (VU VA (lR a b))/\Ext w w':=by
 have KC:=Vk (Am a b w ha hb sa.ok sb.ok (MH sa sb) (MH sb sa) ht);clear sa sb;go_enter func226,ntmps226;go_wp2_with(go_at_call 249;go_loud (refine KC.o.mono ?_);rintro e W1 ⟨rfl,hX1⟩)
 go_ret;exact⟨rfl,hX1⟩
def Ft{T:VK}(w:Vl)(g cap:Nat)(ts:List ByteArray)(hr:ah w g T (Uj ts))(hs:∀i,i<ts.length->(ts.getD i ⟨#[]⟩).size<=100000)(hl:ts.length<=4)(hcap:ts.length<=cap)(ht:aU w):
  VC prog 225 #[VQ (Vq ⟨g,0,Vo⟩) ts.length cap] w λe w'=>(∃k:Int,e=VV (VU VA k)/\(k=0->∀i,i<ts.length->eM (ts.getD i ⟨#[]⟩)))/\Ext w w':=by
 have HR:=Vk hr;have HS:=Vk hs;have HT:=Vk ht;obtain⟨n,hn⟩:∃n,ts.length=n:=⟨_,rfl⟩;rw[hn] at hl hcap HS⊢;have HN:=Vk hn;clear hr hs ht hn;go_enter func225,ntmps225;go_wp2;go_loopw [3] (λi wr=>∃k:Nat,k<=n/\i=VU VA (k:Int)/\(∀j,j<k->jF (ts.getD j ⟨#[]⟩))/\Ext w wr) (λi _=>n-(VG i).toNat)
 case atStart=>exact⟨0,VY,rfl,λj hj=>VY,Below.refl _ _⟩
 case round=>
  obtain⟨k,hk,rfl,hok,hX⟩:=hrel;have HX:=Vk hX;have HO:=Vk hok;clear hok;by_cases hlt:k<n
  ·have hc:=(HR.o.ext hX).cell k;rw[M4 WD] at hc;have hcs:=HS.o k hlt;obtain⟨t,htt⟩:∃t,ts.getD k ⟨#[]⟩=t:=⟨_,rfl⟩;rw[htt] at hc hcs;have HTT:=Vk htt;have KC:=Vk (jr t wr VY (HT.o.below hX (Vm _)));clear hX htt;go_wp2_with(go_at_call 227;go_loud (refine KC.o.mono ?_);rintro e W1 ⟨⟨c,rfl,hc0⟩,hX1⟩;have X1:=Vk (HX.o.tr hX1);have HC0:=Vk hc0;clear hX1 hc0)
   ·go_ret;exact⟨⟨_,rfl,λh=>absurd h WY⟩,X1.o⟩
   ·refine⟨⟨k+1,VY,by go_num,λj hj=> ?_,X1.o⟩,V7⟩;by_cases e:j=k
    ·rw[e,HTT.o];exact HC0.o.1 WY
    ·exact HO.o j VY
  ·obtain rfl:k=n:=VY;clear hX;go_wp2;go_loopw [5] (λi wi=>∃m:Nat,m<=k/\i=VU VA (m:Int)/\Ext w wi/\∀j,j<m->eM (ts.getD j ⟨#[]⟩)) (λi _=>k-(VG i).toNat)
   case atStart=>exact⟨0,VY,rfl,HX.o,λj hj=>VY⟩
   case round=>
    obtain⟨m,hm,rfl,hX2,hsh⟩:=hrel;have HSH:=Vk hsh;clear hsh;have HX2:=Vk hX2;by_cases hlt2:m<k
    ·have hc:=(HR.o.ext hX2).cell m;rw[M4 WD] at hc;have hcs:=HS.o m hlt2;have hok:=HO.o m hlt2;obtain⟨t,htt⟩:∃t,ts.getD m ⟨#[]⟩=t:=⟨_,rfl⟩;rw[htt] at hc hcs hok;have hnum:=hok.num;have hpn:=Hl t;have hpd:=G7 t;obtain⟨a,ha⟩:∃a,pN (aM t)=a:=⟨_,rfl⟩;obtain⟨b,hb⟩:∃b,pD (aM t)=b:=⟨_,rfl⟩;have hn1:=hnum.num;have hn2:=hnum.den;rw[ha] at hpn hn1;rw[hb] at hpd hn2;have HNX:=Vk (show CB a<=12->CB b<=12->∀j,j<m+1->eM (ts.getD j ⟨#[]⟩) fromλx1 x2 j hj=>by
      by_cases e:j=m
      ·rw[e,htt];exact⟨hok,by rw[ha];exact x1,by rw[hb];exact x2⟩
      ·exact HSH.o j VY)
     have KP:=Vk ((pZ t _ VY (HT.o.below hX2 (Vm _))).mono (λe w' ⟨⟨x,y,c,e1,h1⟩,h2⟩=>(by obtain⟨rfl,rfl,rfl⟩:=h1 hok;rw[ha,hb] at e1;exact⟨e1,h2⟩:e=Ending.returned (VX #[VR a,VR b,VU VA 0])/\Ext _ w')));obtain⟨sa,hsa⟩:∃s,CB a=s:=⟨_,rfl⟩;obtain⟨sb,hsb⟩:∃s,CB b=s:=⟨_,rfl⟩;have DA:=Vk (λW=>rV a W VY hn1);have DB:=Vk (λW=>rV b W VY hn2);rw[hsa] at DA HNX;rw[hsb] at DB HNX;clear hX2 htt hok hnum ha hb hsa hsb;go_wp2_with(first
      |(go_at_call 248;with_reducible refine(DB.o _).mono ?_;rintro e W3 ⟨rfl,rfl⟩)
      |(go_at_call 248;go_loud (refine(DA.o _).mono ?_);rintro e W3 ⟨rfl,rfl⟩)
      |(go_at_call 228;go_loud (refine KP.o.mono ?_);rintro e W1 ⟨rfl,hX1⟩;have X1:=Vk (HX2.o.tr hX1);clear hX1))
     all_goals first
      |(go_ret;exact⟨⟨_,rfl,λh=>V6⟩,X1.o⟩)
      |exact⟨⟨m+1,VY,by go_num,X1.o,HNX.o VY VY⟩,V7⟩
      |trace_state
    ·obtain rfl:m=k:=VY;clear hX2;go_wp2;go_ret;exact⟨⟨_,rfl,λ_ i hi=>HSH.o i WD⟩,HX2.o⟩
structure Tg(a b c d:ByteArray):Prop where
 sa:eM a
 sb:eM b
 sc:eM c
 sd:eM d
 ab:lR a b<0
 cd:lR c d<0
def ry(o:kR):Prop:=Tg (tx o.left) (tx o.right) (tx o.low) (tx o.high)
def ry.sh{o:kR}(h:ry o):eM (tx o.left)/\eM (tx o.right)/\eM (tx o.low)/\eM (tx o.high):=⟨h.sa,h.sb,h.sc,h.sd⟩
def M3(w:Vl)(o:kR)(h:uD o)(ht:aU w):VC prog 175 #[VW #[VU VA o.side,VR (tx o.left),VR (tx o.right),VR (tx o.low),VR (tx o.high)]] w λe w'=>(∃k:Int,e=VV (VU VA k)/\(k=0->Tg (tx o.left) (tx o.right) (tx o.low) (tx o.high)))/\Ext w w':=by
 obtain⟨h1,h2,h3,h4⟩:=h;obtain⟨s,a,b,c,d⟩:=o;dsimp only at h1 h2 h3 h4⊢;generalize tx a=a at *;generalize tx b=b at *;generalize tx c=c at *;generalize tx d=d at *;have X0:=(Below.refl w.heap.size w).alloc (Vm _) (.cells #[VU VA s,VR a,VR b,VR c,VR d] 57);have R1:=ah.new w 57 [VU VA s,VR a,VR b,VR c,VR d];obtain⟨w0,hw0⟩:∃w0,w.alloc (.cells #[VU VA s,VR a,VR b,VR c,VR d] 57)=w0:=⟨_,rfl⟩;have R2:=ah.new w0 55 (Uj [a,b,c,d]);rw[show w.alloc (.cells [Value.int .i64 s,VR a,VR b,VR c,VR d].toArray 57)=w0 from hw0] at R1;rw[hw0] at X0;have X1:=X0.alloc X0.size (.cells #[VR a,VR b,VR c,VR d] 55);have KS:=Vk (show VC prog 225 #[VQ (Vq ⟨w0.heap.size,0,Vo⟩) 4 4] (w0.alloc (.cells #[VR a,VR b,VR c,VR d] 55)) _ from Ft _ _ 4 [a,b,c,d] R2 (λi hi=>by
  match i,hi with
  |0,_|1,_|2,_|3,_=>first|exact VB h1 V0|exact VB h2 V0|exact VB h3 V0|exact VB h4 V0) V5 V5 (ht.below X1 (Vm _)))
 have HT:=Vk ht;have HX1:=Vk X1;have HR1:=Vk (R1.ext ((Below.refl _ _).alloc (Vm _) (.cells #[VR a,VR b,VR c,VR d] 55)));have hw0s:w0.heap.size=w.heap.size+1:=by rw[<-hw0,VF]
 have HW0:=Vk hw0;have KC:=Vk (λx y W (hx:x.size<=604) (hy:y.size<=604) (sx:eM x) (sy:eM y) (h:Ext w W)=>qh x y W (VB hx V0) (VB hy V0) sx sy (HT.o.below h (Vm _)));clear X0 X1 R2 ht hw0 R1;go_enter func175,ntmps175;go_wp2_with(go_at_call 225;fail)
 simp only[HW0.o,<-hw0s];refine KS.o.mono ?_;rintro e W1 ⟨⟨k,rfl,hk0⟩,hX1⟩;have HK0:=Vk hk0;clear hk0;have X1:=Vk (Ext.tr HX1.o hX1);have c1:=(HR1.o.ext hX1).cell 1;have c2:=(HR1.o.ext hX1).cell 2;have c3:=(HR1.o.ext hX1).cell 3;have c4:=(HR1.o.ext hX1).cell 4;have HR2:=Vk (λW h=>(HR1.o.ext hX1).ext (w':=W) h);clear hX1;go_wp2_with(go_at_call 226;fail)
 ·go_ret;exact⟨⟨_,rfl,λh=>absurd h WY⟩,X1.o⟩
 ·have HSH:=Vk (HK0.o WY);have SA:=Vk (show eM a from HSH.o 0 (by first|decide|simp|omega));have SB:=Vk (show eM b from HSH.o 1 (by first|decide|simp|omega));have SC:=Vk (show eM c from HSH.o 2 (by first|decide|simp|omega));have SD:=Vk (show eM d from HSH.o 3 (by first|decide|simp|omega));refine(KC.o a b _ h1 h2 SA.o SB.o X1.o).mono ?_;obtain⟨k2,hk2⟩:∃k,lR a b=k:=⟨_,rfl⟩;rw[hk2];have HK2:=Vk hk2;clear hk2;rintro e W2 ⟨rfl,hX2⟩;have X2:=Vk (X1.o.tr hX2);have d3:=(HR2.o _ hX2).cell 3;have d4:=(HR2.o _ hX2).cell 4;clear hX2 c1 c2 c3 c4;by_cases hk:0<=k2
  ·go_wp2_with fail
   go_ret;exact⟨⟨_,rfl,λh=>V6⟩,X2.o⟩
  ·obtain⟨k3,hk3⟩:∃k,lR c d=k:=⟨_,rfl⟩;have KD:=Vk (KC.o c d _ h3 h4 SC.o SD.o X2.o);rw[hk3] at KD;have HK3:=Vk hk3;clear hk3;have HKN:=Vk hk;go_wp2_with(go_at_call 226;go_loud (refine KD.o.mono ?_);rintro e W3 ⟨rfl,hX3⟩;have X3:=Vk (X2.o.tr hX3);clear hX3)
   all_goals go_ret
   all_goals first
    |exact⟨⟨_,rfl,λh=>absurd h V0⟩,X3.o⟩
    |exact⟨⟨_,rfl,λ_=>⟨SA.o,SB.o,SC.o,SD.o,by rw[HK2.o];have:=HKN.o;omega,by rw[HK3.o];omega⟩⟩,X3.o⟩
    |trace_state
def Kg(o1 o2:kR):Bool:=o1.side==o2.side&&decide (lR (tx o1.left) (tx o2.right)<0)&&decide (lR (tx o2.left) (tx o1.right)<0)&&decide (lR (tx o1.low) (tx o2.high)<0)&&decide (lR (tx o2.low) (tx o1.high)<0)
def zV(w:Vl)(o1 o2:kR)(h:uD o1)(k:uD o2)(g1:eM (tx o1.left)/\eM (tx o1.right)/\eM (tx o1.low)/\eM (tx o1.high))(g2:eM (tx o2.left)/\eM (tx o2.right)/\eM (tx o2.low)/\eM (tx o2.high))(ht:aU w):VC prog 176 #[VW #[VU VA o1.side,VR (tx o1.left),VR (tx o1.right),VR (tx o1.low),VR (tx o1.high)],VW #[VU VA o2.side,VR (tx o2.left),VR (tx o2.right),VR (tx o2.low),VR (tx o2.high)]] w λe w'=>e=VV (VS (Kg o1 o2))/\Ext w w':=by
 obtain⟨h1,h2,h3,h4⟩:=h;obtain⟨k1,k2,k3,k4⟩:=k;obtain⟨s,a,b,c,d⟩:=o1;obtain⟨s',a',b',c',d'⟩:=o2;unfold Kg;dsimp only at h1 h2 h3 h4 k1 k2 k3 k4 g1 g2⊢;generalize tx a=a at *;generalize tx b=b at *;generalize tx c=c at *;generalize tx d=d at *;generalize tx a'=a' at *;generalize tx b'=b' at *;generalize tx c'=c' at *;generalize tx d'=d' at *;have X0:=eH w (.cells #[VU VA s,VR a,VR b,VR c,VR d] 57) (.cells #[VU VA s',VR a',VR b',VR c',VR d'] 57);have R1:=(ah.new w 57 [VU VA s,VR a,VR b,VR c,VR d]).ext ((Below.refl _ _).alloc (Vm _) (.cells #[VU VA s',VR a',VR b',VR c',VR d'] 57));have R2:=ah.new (w.alloc (.cells #[VU VA s,VR a,VR b,VR c,VR d] 57)) 57 [VU VA s',VR a',VR b',VR c',VR d'];rw[VF] at R2;obtain⟨w0,hw0⟩:∃w0,(w.alloc (.cells #[VU VA s,VR a,VR b,VR c,VR d] 57)).alloc (.cells #[VU VA s',VR a',VR b',VR c',VR d'] 57)=w0:=⟨_,rfl⟩;obtain⟨ga,gb,gc,gd⟩:=g1;obtain⟨ha,hb,hc,hd⟩:=g2;have KC:=Vk (λx y W (hx:x.size<=604) (hy:y.size<=604) (sx:eM x) (sy:eM y) (h:Ext w W)=>qh x y W (VB hx V0) (VB hy V0) sx sy (ht.below h (Vm _)));have K1:=Vk (λW h=>KC.o a b' W h1 k2 ga hb h);have K2:=Vk (λW h=>KC.o a' b W k1 h2 ha gb h);have K3:=Vk (λW h=>KC.o c d' W h3 k4 gc hd h);have K4:=Vk (λW h=>KC.o c' d W k3 h4 hc gd h);clear KC ga gb gc gd ha hb hc hd;obtain⟨r1,e1⟩:∃r,lR a b'=r:=⟨_,rfl⟩;obtain⟨r2,e2⟩:∃r,lR a' b=r:=⟨_,rfl⟩;obtain⟨r3,e3⟩:∃r,lR c d'=r:=⟨_,rfl⟩;obtain⟨r4,e4⟩:∃r,lR c' d=r:=⟨_,rfl⟩;rw[e1] at K1⊢;rw[e2] at K2⊢;rw[e3] at K3⊢;rw[e4] at K4⊢;clear e1 e2 e3 e4;rw[show((w.alloc (.cells #[VU VA s,VR a,VR b,VR c,VR d] 57)).alloc (.cells [Value.int .i64 s',VR a',VR b',VR c',VR d'].toArray 57))=w0 from hw0] at R2;rw[hw0] at X0 R1;have X0:=Vk X0;have HW0:=Vk hw0;have HA:=Vk (λW (h:Ext w0 W)=>R1.ext h);have HB:=Vk (λW (h:Ext w0 W)=>R2.ext h);clear hw0 R1 R2 ht;by_cases hs:s=s'
 case neg=>
  go_enter func176,ntmps176;go_wp2_with fail
  go_ret;exact⟨by rw[show(s==s')=Vp from beq_eq_false_iff_ne.2 hs];rfl,by rw[HW0.o];exact X0.o⟩
 subst hs;obtain⟨b0,hb0⟩:∃x,(s==s&&decide (r1<0)&&decide (r2<0)&&decide (r3<0)&&decide (r4<0))=x:=⟨_,rfl⟩;have HB0:=Vk (show b0=(decide (r1<0)&&decide (r2<0)&&decide (r3<0)&&decide (r4<0)) by rw[<-hb0];simp);rw[hb0];clear hb0;go_enter func176,ntmps176;go_wp2_with(go_at_call 226;fail)
 rw[HW0.o];refine(K1.o _ X0.o).mono ?_;rintro e W1 ⟨rfl,hX1⟩;have X1:=Vk (X0.o.tr hX1);have Z1:=Vk hX1;have cA:=λi=>(HA.o _ Z1.o).cell i
 have cB:=λi=>(HB.o _ Z1.o).cell i
 clear hX1;by_cases hk1:r1<0
 case neg=>
  go_wp2_with fail
  go_ret;exact⟨by rw[HB0.o,decide_eq_false (show¬r1<0 by omega)];simp,X1.o⟩
 go_wp2_with(go_at_call 226;fail)
 clear cA cB;refine(K2.o _ X1.o).mono ?_;rintro e W2 ⟨rfl,hX2⟩;have X2:=Vk (X1.o.tr hX2);have Z2:=Vk (Z1.o.tr hX2);have cA:=λi=>(HA.o _ Z2.o).cell i
 have cB:=λi=>(HB.o _ Z2.o).cell i
 clear hX2;by_cases hk2:r2<0
 case neg=>
  go_wp2_with fail
  go_ret;exact⟨by rw[HB0.o,decide_eq_false (show¬r2<0 by omega)];simp,X2.o⟩
 go_wp2_with(go_at_call 226;fail)
 clear cA cB;refine(K3.o _ X2.o).mono ?_;rintro e W3 ⟨rfl,hX3⟩;have X3:=Vk (X2.o.tr hX3);have Z3:=Vk (Z2.o.tr hX3);have cA:=λi=>(HA.o _ Z3.o).cell i
 have cB:=λi=>(HB.o _ Z3.o).cell i
 clear hX3;by_cases hk3:r3<0
 case neg=>
  go_wp2_with fail
  go_ret;exact⟨by rw[HB0.o,decide_eq_false (show¬r3<0 by omega)];simp,X3.o⟩
 go_wp2_with(go_at_call 226;fail)
 clear cA cB;refine(K4.o _ X3.o).mono ?_;rintro e W4 ⟨rfl,hX4⟩;have X4:=Vk (X3.o.tr hX4);clear hX4;go_wp2_with fail
 all_goals
  go_ret;exact⟨by rw[HB0.o];simp[*],X4.o⟩
def UD(l:List kR)(e:Ending):Prop:=∃(b:Bool) (k:Int),e=VV (VX #[VS b,VU VA k])/\(k=0->l.length<=32/\(∀i,i<l.length->ry (l.getD i ef))/\(b=Vv->∀i,i<l.length->∀j,j<i->Kg (l.getD i ef) (l.getD j ef)=Vp))
def wT (w : Vl) (A : Option VM) (cap : Nat) (l : List kR) (hl : bK 5 w w.heap.size A cap (bD l)) (hs : l.length <= 32 -> ∀ i, i < l.length -> uD (l.getD i ef)) (ht : aU w) :
    VC prog 110 #[VQ A l.length cap] w λx w' => UD l x /\ Ext w w' := by
  have h1 := hl.1;have h2 := hl.2.1;rw [Vu] at h1;unfold VJ at h2;by_cases h32 : 32 < l.length
  · clear hl hs
    go_enter func110, ntmps110;go_wp2;go_ret2;exact ⟨⟨_, _, rfl, λh => V6⟩, Below.refl _ _⟩
  have HS := Vk (hs VY);have HT := Vk ht;have HL := Vk (λ(W : Vl) (hx : Ext w W) => ((hl.below hx).more hx.size : bK 5 W W.heap.size A cap (bD l)));have HN := Vk (show ∀ b k, k ≠ 0 -> UD l (VV (VX #[VS b, VU VA k])) fromλb k h => ⟨b, k, rfl, λe => absurd e h⟩);have HF := Vk (show (∀ i, i < l.length -> ry (l.getD i ef)) -> ∀ b : Bool, (b = Vv -> ∀ i, i < l.length -> ∀ j, j < i -> Kg (l.getD i ef) (l.getD j ef) = Vp) -> UD l (VV (VX #[VS b, VU VA 0])) fromλh b hb => ⟨b, 0, rfl, λ_ => ⟨VY, h, hb⟩⟩);have KO := Vk (λi (hi : i < l.length) W (h : Ext w W) => M3 W _ (HS.o i hi) (HT.o.below h (Vm _)));have KV := Vk (λi j (hi : i < l.length) (hj : j < l.length) (oi : ry (l.getD i ef)) (oj : ry (l.getD j ef)) W (h : Ext w W) => zV W _ _ (HS.o i hi) (HS.o j hj) oi.sh oj.sh (HT.o.below h (Vm _)));clear hl hs ht;go_enter func110, ntmps110;go_wp2;go_loopw [4] (λi wr => ∃ k : Nat, i =VU VA (k : Int) /\ k <= l.length /\ (∀ j, j < k -> ry (l.getD j ef)) /\ Ext w wr) (λi _ => ((l.length : Int) - VG i).toNat)
  case atStart => exact ⟨0, rfl, VY, λj hj => VY, Below.refl _ _⟩
  case round =>
    obtain ⟨k, rfl, hk, hoo, hX⟩ := hrel;have HOO := Vk hoo;clear hoo;have HX := Vk hX;by_cases hlt : k < l.length
    · obtain ⟨b, off, rfl, hb, hc⟩ := qM (HL.o _ hX) VY
      obtain ⟨y0, y1, y2, y3, y4⟩ := hc k hlt;have K1 := Vk (KO.o k hlt _ hX);obtain ⟨o, ho⟩ : ∃ n, l.getD k ef = n := ⟨_, rfl⟩;rw [ho] at y0 y1 y2 y3 y4 K1;have HO := Vk ho;obtain ⟨sd, s1, s2, s3, s4⟩ := o;dsimp only at y0 y1 y2 y3 y4 K1;have e1 : (k : Int) < (l.length : Int) := VY;clear hX hc ho hb;go_wp2_with (go_at_call 175; go_loud (refine K1.o.mono ?_); rintro e W1 ⟨⟨c, rfl, hc0⟩, hX1⟩; have HC0 := Vk hc0; have X1 := Vk (HX.o.tr hX1); clear hX1 hc0)
      · go_ret2
        exact ⟨HN.o _ _ WY, X1.o⟩
      · have HC1 := Vk (HC0.o WY)
        exact ⟨⟨k + 1, by go_num, VY, λj hj => (by
          by_cases e : j = k
          · rw [e, HO.o]; exact HC1.o
          · exact HOO.o j VY), X1.o⟩, WC⟩
    · obtain rfl : k = l.length := by omega
      clear hX;go_wp2;go_loopw [6] (λi wi => ∃ m : Nat, i =VU VA (m : Int) /\ m <= l.length /\ (∀ i, i < m -> ∀ j, j < i -> Kg (l.getD i ef) (l.getD j ef) = Vp) /\ Ext w wi) (λi _ => ((l.length : Int) - VG i).toNat)
      case atStart => exact ⟨0, rfl, VY, λi hi => VY, HX.o⟩
      case round =>
        obtain ⟨m, rfl, hm, hov, hX2⟩ := hrel;have HOV := Vk hov;clear hov;have HX2 := Vk hX2;by_cases hlt2 : m < l.length
        · clear hX2
          have e1 : (m : Int) < (l.length : Int) := VY;go_wp2;go_loopw [7] (λi wi => ∃ n : Nat, i =VU VA (n : Int) /\ n <= m /\ (∀ j, j < n -> Kg (l.getD m ef) (l.getD j ef) = Vp) /\ Ext w wi) (λi _ => ((m : Int) - VG i).toNat)
          case atStart => exact ⟨0, rfl, VY, λj hj => VY, HX2.o⟩
          case round =>
            obtain ⟨n, rfl, hn, hin, hX3⟩ := hrel;have HIN := Vk hin;clear hin;have HX3 := Vk hX3;by_cases hlt3 : n < m
            · obtain ⟨b, off, rfl, hb, hc⟩ := qM (HL.o _ hX3) VY
              obtain ⟨y0, y1, y2, y3, y4⟩ := hc m hlt2;obtain ⟨z0, z1, z2, z3, z4⟩ := hc n VY;have K1 := Vk (λW h => KV.o m n hlt2 VY (HOO.o m hlt2) (HOO.o n VY) W (hX3.tr h));obtain ⟨ov, hov⟩ : ∃ x, Kg (l.getD m ef) (l.getD n ef) = x := ⟨_, rfl⟩;rw [hov] at K1;have HOV1 := Vk hov;clear hov;obtain ⟨o, ho⟩ : ∃ n, l.getD m ef = n := ⟨_, rfl⟩;rw [ho] at y0 y1 y2 y3 y4 K1;obtain ⟨sd, s1, s2, s3, s4⟩ := o;obtain ⟨o, ho2⟩ : ∃ x, l.getD n ef = x := ⟨_, rfl⟩;rw [ho2] at z0 z1 z2 z3 z4 K1;obtain ⟨rd, r1, r2, r3, r4⟩ := o;dsimp only at y0 y1 y2 y3 y4 z0 z1 z2 z3 z4 K1;have e2 : (n : Int) < (m : Int) := VY;have e3 : (n : Int) < (l.length : Int) := VY;clear hX3 hc ho ho2 hb;go_wp2_with fail
              go_still_tail 8, VZ
              all_goals go_simp
              go_wp2_with (go_at_call 176; go_loud (refine (K1.o _ (Ext.dr wr)).mono ?_); rintro e W4 ⟨rfl, hX4⟩; have X4 := Vk (HX3.o.tr (Ext.tr (Ext.dr wr) hX4)); clear hX4)
              all_goals first
                | (go_ret2
                   exact ⟨HF.o HOO.o _ (λh => V6), X4.o⟩)
                | exact ⟨⟨n + 1, by go_num, VY, λj hj => (by
                    by_cases e : j = n
                    · rw [e]; exact HOV1.o.trans Wd
                    · exact HIN.o j VY), X4.o⟩, WC⟩
                | trace_state
            · obtain rfl : n = m := by omega
              clear hX3;go_wp2;exact ⟨⟨n + 1, by go_num, VY, λi hi j hj => (by
                by_cases e : i = n
                · subst e; exact HIN.o j hj
                · exact HOV.o i VY j hj), HX3.o⟩, WC⟩
        · obtain rfl : m = l.length := by omega
          clear hX2;go_wp2;go_ret2;exact ⟨HF.o HOO.o _ (λ_ => HOV.o), HX2.o⟩
end
section
open Kp
def EE{a b:By}(h:tx a=tx b):a=b:=by
 have:=congrArg (λz:ByteArray=>z.data.toList) h;simpa[bn] using this
def Ox(a:By):By:=(Lib.cut a [47]).1
def Fj(a:By):By:=if(Lib.cut a [47]).2.2=Vv then(Lib.cut a [47]).2.1 else [49]
def SY(a:By):pD (aM (tx a))=tx (Fj a):=by
 obtain⟨_,c2,_⟩:=th a;rw[kh];unfold pD Fj;dsimp only;rw[c2];split
 ·rfl
 ·rfl
structure Um(a:By)(n:Int)(d:Nat):Prop where
 fn:aT (Ox a)=Vv
 fd:aT (Fj a)=Vv
 ln:(own (Ox a)).length<=12
 ld:(own (Fj a)).length<=12
 vn:num (Ox a)=n
 vd:num (Fj a)=(d:Int)
def NL{a:By}(h:eM (tx a)):Um a (Eg (tx a)) (BZ (tx a)):=by
 obtain⟨⟨x,e1,f1,_,v1⟩,⟨y,e2,f2,_,v2⟩⟩:=nT h.ok;have hn:=h.n;have hd:=h.d;rw[QS] at e1 hn;rw[SY] at e2 hd;rw[ER] at hn hd;obtain rfl:=EE e1;obtain rfl:=EE e2;exact⟨f1,f2,hn,hd,v1,v2⟩
def C7(x y:By)(h:x.all fJ=Vv):(x++47::y).findIdx (· ==47)=x.length:=by
 induction x with
 |nil=>rfl
 |cons b x ih=>
  simp only[List.all_cons,Bool.and_eq_true] at h;have hb:(b==(47:UInt8))=Vp:=by
   rw[beq_eq_false_iff_ne];rintro rfl;exact absurd h.1 V0
  rw[List.cons_append,List.findIdx_cons,hb,ih h.2]
  rfl
def Pg(x y:By)(h:x.all fJ=Vv):Lib.cut (x++47::y) [47]=(x,y,Vv):=by
 rw[yp,C7 x y h,if_pos V5];simp
def P3(x:By)(h:x.all fJ=Vv):Lib.cut x [47]=(x,[],Vp):=by
 have:x.findIdx (· ==47)=x.length:=by
  rw[List.findIdx_eq_length];intro b hb;rw[List.all_eq_true] at h;rw[beq_eq_false_iff_ne];rintro rfl;exact absurd (h _ hb) V0
 rw[yp,this,if_neg VY]
def Dc(s:By):s=lead s++s.drop (lead s).length:=by
 unfold lead
 induction s with
 |nil=>rfl
 |cons b s ih=>
  rw[List.takeWhile_cons];split
  ·rw[List.cons_append,List.length_cons,List.drop_succ_cons,<-ih]
  ·rfl
def Ti(a:By):Eg (tx a)=if(a.head?==Vq 45)=Vv then -(aw (Lib.cut (own a) [47]).1:Int) else aw (Lib.cut (own a) [47]).1:=by
 unfold Eg;rw[kh];dsimp only;rw[ji]
def Ud(a:By):BZ (tx a)=if(Lib.cut (own a) [47]).2.2=Vv then aw (Lib.cut (own a) [47]).2.1 else 1:=by
 unfold BZ;rw[kh];dsimp only;rw[ji]
def xo{s:By}{n:Nat}{r:By}(h:dk s=Vq (n,r)):n=aw (lead s)/\r=s.drop (lead s).length:=by
 unfold dk at h;split at h
 ·cases h
 ·injection h with h;injection h with h1 h2;exact⟨h1.symm,h2.symm⟩
def D7{a:By}(h:bJ a=Vv):de a=(Eg (tx a),((BZ (tx a):Nat):Int)):=by
 unfold de;rw[if_pos h,Ti,Ud];unfold bJ at h;unfold tM;have hsg:((own a).length<a.length)=((a.head?==Vq 45)=Vv):=by
  rw[eY];cases a with
  |nil=>simp
  |cons b r=>by_cases hb:b=45<;>simp[hb]
 cases hn:dk (own a) with
 |none=>rw[hn] at h;cases h
 |some p=>
  obtain⟨n,r⟩:=p;rw[hn] at h;obtain⟨e1,e2⟩:=xo hn;have hap:=Dc (own a);rw[<-e2] at hap;dsimp only at h⊢;split at h
  ·cases h
  ·cases r with
   |nil=>
    rw[List.append_nil] at hap;rw[P3 (own a) (by rw[hap];exact qK _)];dsimp only;rw[e1,<-hap];simp only[hsg];simp
   |cons c r'=>
    dsimp only at h⊢;split at h
    ·rename_i hc;subst hc;rw[hap,Pg _ _ (qK _)];cases hn2:dk r' with
     |none=>rw[hn2] at h;cases h
     |some p2=>
      obtain⟨d,q⟩:=p2;rw[hn2] at h;dsimp only at h;simp only[Bool.and_eq_true] at h;have hq:q=[]:=by cases q with
       |nil=>rfl
       |cons _ _=>simp at h
      obtain⟨k1,k2⟩:=xo hn2;have hap2:=Dc r';rw[<-k2,hq,List.append_nil] at hap2;dsimp only;rw[<-hap,e1,k1,<-hap2];simp only[hsg];simp
    ·cases h
def Jw(x:Nat)(l:List Nat):val (x::l)=x+B*val l:=by
 unfold val;rw[List.length_cons,Nat.add_comm l.length 1,pj];have:S (λk=>fv (x::l) (1+k)) l.length=S (fv l) l.length:=dV (λk _=>by unfold fv;rw[Nat.add_comm];rfl);rw[this];simp[S,fv]
def NF(n:Nat):∃l,Canon l/\val l=n:=by
 induction n using Nat.strongRecOn with
 |_ n ih=>
  by_cases h0:n=0
  ·subst h0;exact⟨[],⟨λd hd=>by simp at hd,λd hd=>by simp at hd⟩,rfl⟩
  ·obtain⟨l,hc,hv⟩:=ih (n/B) (Nat.div_lt_self VY V0);refine⟨n%B::l,⟨λd hd=> ?_,λd hd=> ?_⟩,?_⟩
   ·rcases List.mem_cons.1 hd with rfl|h
    ·exact Nat.mod_lt _ V0
    ·exact hc.small d h
   ·cases l with
    |nil=>
     simp at hd;have:n/B=0:=by rw[<-hv];rfl
     have h3:=Nat.div_add_mod n B;rw[this] at h3;omega
    |cons y l=>exact hc.trim d (by simpa using hd)
   ·rw[Jw,hv,Nat.add_comm];exact Nat.div_add_mod n B
def FP(n:Nat):Canon (cH n)/\val (cH n)=n:=by
 obtain⟨l,hc,hv⟩:=NF n;rw[mE hc hv];exact⟨hc,hv⟩
def vV(n:Nat):Lib.itoa (n:Int)=Lib.decDigits n:=by unfold Lib.itoa;rw[if_neg VY,Int.toNat_natCast]
def SX(c:Nat):(Lib.repeatL [48] c).all fJ=Vv/\aw (Lib.repeatL [48] c)=0:=by
 induction c with
 |zero=>exact⟨rfl,rfl⟩
 |succ c ih=>
  have e:Lib.repeatL [48] (c+1)=48::Lib.repeatL [48] c:=rfl;rw[e,gD,List.all_cons,ih.1,ih.2];exact⟨rfl,by simp[show iD 48=0 by decide]⟩
def Lx{n:Nat}(h:n<1000000000):(pG Vp n).all fJ=Vv/\aw (pG Vp n)=n/\(pG Vp n).length=9:=by
 have h9:=mV n h;obtain⟨a,b,_⟩:=dC n;obtain⟨r1,r2⟩:=SX (9-(Lib.itoa n).length);have e:pG Vp n=Lib.repeatL [48] (9-(Lib.itoa n).length)++Lib.itoa n:=rfl;rw[e];refine⟨by rw[List.all_append,r1,vV,a];rfl,by rw[xy,r2,vV,b];omega,by rw[VD,iH];omega⟩
def Ky{l:List Nat}(hc:Canon l):∀k,1<=k->k<=l.length->(lY l k).all fJ=Vv/\lY l k≠[]/\(lY l k).head?≠Vq 48/\aw (lY l k)=S (λi=>fv l (l.length-k+i)) k:=by
 intro k
 induction k with
 |zero=>intro h;omega
 |succ k ih=>
  intro _ hk;by_cases h0:k=0
  ·subst h0;have e:lY l 1=Lib.decDigits (fv l (l.length-1)):=by
    show []++pG Vv (fv l (l.length-1-0))=_;rw[List.nil_append,Nat.sub_zero,<-vV];rfl
   have hne:fv l (l.length-1)≠0:=hc.trim _ (by rw[List.getLast?_eq_getElem?,Vt VY,lP VY]);obtain⟨a,b,c⟩:=dC (fv l (l.length-1));rw[e];exact⟨a,c,yk _ hne,by rw[b];simp[S]⟩
  ·obtain⟨a,b,c,d⟩:=ih VY VY;have e:lY l (k+1)=lY l k++pG Vp (fv l (l.length-1-k)):=by
    show lY l k++pG (k==0) (fv l (l.length-1-k))=_;rw[show(k==0)=Vp from beq_eq_false_iff_ne.2 h0]
   obtain⟨p1,p2,p3⟩:=Lx (aA hc.small (l.length-1-k));rw[e];refine⟨by rw[List.all_append,a,p1];rfl,by simp[b],?_,?_⟩
   ·cases hw:lY l k with
    |nil=>exact absurd hw b
    |cons x y=>rw[hw] at c;exact c
   ·rw[xy,d,p2,p3,Nat.add_comm k 1,pj];have e2:S (λj=>fv l (l.length-(1+k)+(1+j))) k=S (λi=>fv l (l.length-k+i)) k:=dV λi hi=>by
     rw[show l.length-(1+k)+(1+i)=l.length-k+i by omega]
    rw[e2];have e3:S (λi=>fv l (l.length-(1+k)+i)) 1=fv l (l.length-1-k):=by
     simp only[S,Nat.pow_zero,Nat.mul_one,Nat.zero_add,Nat.add_zero];rw[show l.length-(1+k)=l.length-1-k by omega]
    rw[e3,Nat.pow_one];have e4:(10:Nat)^9=B:=V0;rw[e4,VE,Nat.add_comm]
def Ko{l:List Nat}(hc:Canon l)(s:Bool):aT (AS s l)=Vv/\num (AS s l)=(if s then -(val l:Int) else val l)/\(l.length<=30->(own (AS s l)).length<=300):=by
 unfold AS;split
 ·rename_i h;subst h;refine⟨V0,?_,λ_=>V0⟩;have:num [48]=0:=V0;rw[this];cases s<;>rfl
 ·rename_i h;have hpos:=List.length_pos_iff.2 h;obtain⟨a,b,c,d⟩:=Ky hc l.length hpos (Vm _);have hd:yr (lY l l.length):=⟨a,b,.inl c⟩;have hv:aw (lY l l.length)=val l:=by
   rw[d,Nat.sub_self];unfold val;exact dV λi _=>by rw[Nat.zero_add]
  have hlen:=tC hc.small l.length;cases s with
  |false=>
   have e:Kh Vp++lY l l.length=lY l l.length:=rfl;rw[e];exact⟨hd.form,by unfold num;rw[hd.pre,hd.own,hv],λh=>by rw[hd.own];omega⟩
  |true=>
   have e:Kh Vv++lY l l.length=45::lY l l.length:=rfl;rw[e];exact⟨hd.neg (λe=>c XC),by unfold num;rw[qb,iW,hv],λh=>by rw[iW];omega⟩
def PS(a b:By):(if(Lib.hasPrefix a [45] !=Lib.hasPrefix b [45])=Vv then -((aw (own a)*aw (own b):Nat):Int) else((aw (own a)*aw (own b):Nat):Int))=num a*num b:=by
 unfold num;cases Lib.hasPrefix a [45]<;>cases Lib.hasPrefix b [45]<;>simp[Int.neg_mul,Int.mul_neg]
def Bj{a b:By}(fa:aT a=Vv)(fb:aT b=Vv)(la:(own a).length<=12)(lb:(own b).length<=12):(jz a b).2=0/\jB (jz a b).1=0/\num (jz a b).1=num a*num b:=by
 unfold jz dv;rw[oL fa VY,oL fb VY,if_pos rfl,if_pos rfl];unfold wP;split
 ·rename_i h;have hb:=iX fa fb h;obtain⟨x,e,f,l,v⟩:=Hg (z:=num a*num b) VY VY;obtain rfl:=EE e;exact⟨rfl,oL f l,v⟩
 ·obtain⟨hc,hv⟩:=FP (aw (own a)*aw (own b));have hn1:=kI (cV fa);have hn2:=kI (cV fb);have h1:(10:Nat)^(own a).length<=10^12:=Nat.pow_le_pow_right V0 la;have h2:(10:Nat)^(own b).length<=10^12:=Nat.pow_le_pow_right V0 lb;have h3:aw (own a)*aw (own b)<=10^12*10^12:=Nat.mul_le_mul VY VY;have hl:(cH (aw (own a)*aw (own b))).length<=30:=by
   obtain⟨l,e⟩:∃l,cH (aw (own a)*aw (own b))=l:=⟨_,rfl⟩;rw[e] at hc hv⊢;rcases Nat.lt_or_ge 30 l.length with h|h
   ·have hne:l≠[]:=by rintro rfl;simp at h
    have h4:=uX hc.trim hne;have h5:B^3<=B^(l.length-1):=Nat.pow_le_pow_right V0 VY;have h6:B^3>10^12*10^12:=WN;omega
   ·exact h
  obtain⟨w1,w2,w3⟩:=Ko hc (Lib.hasPrefix a [45] !=Lib.hasPrefix b [45]);have w3:=w3 hl;unfold qI;rw[if_neg VY];refine⟨rfl,oL w1 w3,?_⟩;rw[w2,hv];exact PS a b
def Gn{a:By}{p:By×By}(h:dP a=Vq p):p=(Ox a,Fj a):=by
 unfold Ox Fj;unfold dP at h;dsimp only at h;split at h
 ·cases h
 ·split at h
  ·rename_i q;injection h with e;rw[<-e,q];simp
  ·rename_i q;split at h
   ·cases h
   ·injection h with e;rw[<-e];simp at q;rw[q];simp
def BI{a:By}(h:jF (tx a)):bG a=(Ox a,Fj a):=by
 have hc:=vO h;unfold bS at hc;unfold bG;cases hcu:dP a with
 |none=>rw[hcu] at hc;cases hc
 |some p=>rw[Gn hcu];rfl
def mr{a b:By}(ha:eM (tx a))(hb:eM (tx b)):gS a b=(lR (tx a) (tx b),0):=by
 unfold gS lR;split
 ·rename_i h;simp only[Bool.and_eq_true] at h;rw[D7 h.1,D7 h.2]
 ·rw[BI ha.ok,BI hb.ok];have pa:=NL ha;have pb:=NL hb;obtain⟨u1,u2,u3⟩:=Bj pa.fn pb.fd pa.ln pb.ld;obtain⟨v1,v2,v3⟩:=Bj pb.fn pa.fd pb.ln pa.ld;have hcr:s7 (Ox a) (Fj a) (Ox b) (Fj b)=⟨(jz (Ox a) (Fj b)).1,(jz (Ox b) (Fj a)).1,0⟩:=by
   unfold s7;rw[if_neg (by rw[u1];simp),v1]
  dsimp only;rw[hcr];dsimp only;rw[if_neg V5];unfold nh dv;rw[u2,v2,if_pos rfl,if_pos rfl,u3,v3,pa.vn,pa.vd,pb.vn,pb.vd]
def Pm{a:By}(h:eM (tx a)):lU a=0:=by
 unfold lU;rw[if_pos (vO h.ok)];have hp:=NL h;cases hcu:dP a with
 |none=>rfl
 |some p=>
  rw[Gn hcu];dsimp only;have h1:=hp.ln;have h2:(Fj a).length<=12:=by
   have:=hp.ld;have hd:own (Fj a)=Fj a:=by
    rcases mw hp.fd with h|⟨r,e,hr,h48⟩
    ·exact h.own
    ·exfalso;have hv:=hp.vd;rw[e] at hv;unfold num at hv;rw[qb,iW] at hv;simp only[if_true] at hv;have h0:aw r=0:=VY;have:=hr.lead.resolve_right h48;have hall:=hr.all;have hne:=hr.ne
     match r,hne with
     |c::t,_=>
      simp only[List.all_cons,Bool.and_eq_true] at hall;rw[gD] at h0;have h5:=ky hall.1;have h6:iD c=0:=by
       rcases Nat.eq_zero_or_pos (iD c) with h|h
       ·exact h
       ·have:=Nat.mul_pos h (Nat.pow_pos (a:=10) (n:=t.length) V0);omega
      apply this;exact a0P
   rwa[hd] at this
  rw[if_neg VY]
def RD{o:kR}(h:ry o):sX o=0:=by
 have hn:∀i,i<4->eM (tx ([o.left,o.right,o.low,o.high].getD i [])):=λi hi=>by
  match i,hi with
  |0,_=>exact h.sa
  |1,_=>exact h.sb
  |2,_=>exact h.sc
  |3,_=>exact h.sd
 have h0:jn [o.left,o.right,o.low,o.high]=0:=by
  unfold jn;have e1:aV (λi=>bS ([o.left,o.right,o.low,o.high].getD i [])) [o.left,o.right,o.low,o.high].length=0:=bh λi hi=>vO (hn i hi).ok
  have e2:aV (λi=>lU ([o.left,o.right,o.low,o.high].getD i [])) [o.left,o.right,o.low,o.high].length=0:=bh λi hi=>Pm (hn i hi)
  rw[if_neg (by rw[e1];simp),e2]
 have h1:=h.ab;have h2:=h.cd;unfold sX;rw[if_neg (by rw[h0];simp),mr h.sa h.sb,mr h.sc h.sd,if_neg (by show¬(0<=lR _ _\/0<=lR _ _);omega)]
def Sl{a b:kR}(ha:ry a)(hb:ry b):AV a b=Kg a b:=by
 unfold AV Kg;rw[mr ha.sa hb.sb,mr hb.sa ha.sb,mr ha.sc hb.sd,mr hb.sc ha.sd]
def Qg{l:List kR}(h1:l.length<=32)(h2:∀i,i<l.length->ry (l.getD i ef))(h3:∀i,i<l.length->∀j,j<i->Kg (l.getD i ef) (l.getD j ef)=Vp):lE l=(Vv,0):=by
 unfold lE;have e1:aV (λi=>sX (l.getD i ef)) l.length=0:=bh λi hi=>RD (h2 i hi)
 have e2:Fp l=Vv:=by
  unfold Fp;rw[bt λi hi=>bt λk hk=>by rw[Sl (h2 i hi) (h2 k VY)];exact h3 i hi k hk]
  rfl
 rw[if_neg VY,if_neg (by rw[e1];simp),e2]
def OS{rs:List (List Sd)}{l:List kR}(hp:dw rs=0)(h1:l.length<=32)(h2:∀i,i<l.length->ry (l.getD i ef))(h3:∀i,i<l.length->∀j,j<i->Kg (l.getD i ef) (l.getD j ef)=Vp)(h4:∀i,i<l.length->aO (l.getD i ef).side 0 ((rs.flatten.length:Int)-1)=Vv):nW rs l=0:=by
 unfold nW;have ha:(l.any λo=> !aO o.side 0 ((rs.flatten.length:Int)-1))=Vp:=by
  rw[List.any_eq_false];intro o ho;obtain⟨i,hi,rfl⟩:=List.mem_iff_getElem.1 ho;have:=h4 i hi;rw[Vn,Vt hi] at this;exact a0T
 rw[Qg h1 h2 h3,if_neg V5,if_neg (by simp[hp]),ha]
 rfl
end
section
open Kp
def OE(b:Br)(k:Nat):tU b k=(if decide ((b.gaps.getD k (0,0)).1<0)||decide ((b.gaps.getD k (0,0)).1>=(b.gaps.getD k (0,0)).2)||decide ((b.gaps.getD k (0,0)).2>b.length) then 2 else if decide (0<k)&&decide ((b.gaps.getD k (0,0)).1<=(b.gaps.getD (k-1) (0,0)).2) then 10 else 0):=by
 unfold tU;dsimp only;have e1:((b.gaps.getD k (0,0)).1<0\/b.length<(b.gaps.getD k (0,0)).2\/(b.gaps.getD k (0,0)).2<=(b.gaps.getD k (0,0)).1)↔(decide ((b.gaps.getD k (0,0)).1<0)||decide ((b.gaps.getD k (0,0)).1>=(b.gaps.getD k (0,0)).2)||decide ((b.gaps.getD k (0,0)).2>b.length))=Vv:=by
  simp only[Bool.or_eq_true,decide_eq_true_eq];omega
 have e2:(0<k/\(b.gaps.getD k (0,0)).1<=(b.gaps.getD (k-1) (0,0)).2)↔(decide (0<k)&&decide ((b.gaps.getD k (0,0)).1<=(b.gaps.getD (k-1) (0,0)).2))=Vv:=by
  simp only[Bool.and_eq_true,decide_eq_true_eq]
 simp only[e1,e2]
def pW{p:Prop}(h:p:=by
  have hv:=HV.o;simp at hv;subst hv;go_enter func113,ntmps113;go_wp2_with(go_at_call 177;go_must(refine(qT _ _ _ _).mono ?_);rintro e W1 ⟨rfl,rfl⟩)
  go_ret;exact⟨rfl,E0.o⟩):p:=h
def Ah{p:Prop}(h:p:=by
  have he:=HE.o;simp at he;have hv:=HF.o _ he V0;subst hv;clear he;go_wp2;go_ret;exact⟨rfl,HXw.o.tr EG.o⟩):p:=h
def On(b:Br)(ga:Option VM)(gc:Nat)(w:Vl)(hs:bK 2 w w.heap.size ga gc (di b.gaps)):
  VC prog 113 #[VW (qU b ga gc).toArray] w λx w'=>x=VV (VU VA (qw b))/\Ext w w':=by
 have h1:=hs.1;have h2:=hs.2.1;rw[Vu] at h1;unfold VJ at h2;have R0:=Vk (ah.new w 62 (qU b ga gc));have E0:=Vk (show Ext w (w.alloc (.cells (qU b ga gc).toArray 62)) from(Below.refl _ _).alloc (Vm _) _);have HL:=Vk (λ(W:Vl) (hx:Ext w W)=>((hs.below hx).more hx.size:bK 2 W W.heap.size ga gc (di b.gaps)));have c:=λi=>R0.o.cell i
 clear hs;obtain⟨v,hv⟩:∃v,qw b=v:=⟨_,rfl⟩;rw[hv];have hv0:v=(if !(aO b.width 1 1000&&aO b.depth 1 1000&&aO b.length 1 65536&&aO b.count 0 4096&&aO b.cost 0 1073741824) then 2 else if 16<b.gaps.length then 4 else aV (tU b) b.gaps.length):=hv.symm;clear hv;obtain⟨FE,hFE⟩:∃F:Nat->Int,tU b=F:=⟨_,rfl⟩;rw[hFE] at hv0;have HGE:=Vk (λk=>hFE▸OE b k);clear hFE;obtain⟨wd,dp,ln,ct,co,gaps⟩:=b;dsimp only at h1 HL hv0 HGE;obtain⟨b0,t0⟩:∃b,aO wd 1 1000=b:=⟨_,rfl⟩;obtain⟨b1,t1⟩:∃b,aO dp 1 1000=b:=⟨_,rfl⟩;obtain⟨b2,t2⟩:∃b,aO ln 1 65536=b:=⟨_,rfl⟩;obtain⟨b3,t3⟩:∃b,aO ct 0 4096=b:=⟨_,rfl⟩;obtain⟨b4,t4⟩:∃b,aO co 0 1073741824=b:=⟨_,rfl⟩;rw[t0,t1,t2,t3,t4] at hv0;have HV:=Vk hv0;clear hv0;cases b0
 ·exact pW
 cases b1
 ·exact pW
 cases b2
 ·exact pW
 cases b3
 ·exact pW
 cases b4
 ·exact pW
 have hv1:v=(if 16<gaps.length then 4 else aV FE gaps.length):=HV.o;clear HV;by_cases h16:16<gaps.length
 case pos=>
  have t5:decide ((gaps.length:Int)>16)=Vv:=decide_eq_true VY;rw[if_pos h16] at hv1;subst hv1;clear h16;go_enter func113,ntmps113;go_wp2_with(go_at_call 177;go_must(refine(qT _ _ _ _).mono ?_);rintro e W1 ⟨rfl,rfl⟩)
  go_ret;exact⟨rfl,E0.o⟩
 have t5:decide ((gaps.length:Int)>16)=Vp:=decide_eq_false VY;rw[if_neg h16] at hv1;have HV1:=Vk hv1;clear h16 hv1;go_enter func113,ntmps113;go_wp2_with(go_at_call 177;go_must(refine(qT _ _ _ _).mono ?_);rintro e W1 ⟨rfl,rfl⟩)
 clear c;go_loopw [3] (λi wr=>∃k:Nat,i=VU VA (k:Int)/\k<=gaps.length/\Ext (w.alloc (.cells (qU ⟨wd,dp,ln,ct,co,gaps⟩ ga gc).toArray 62)) wr/\∀j,j<k->FE j=0) (λi _=>((gaps.length:Int)-VG i).toNat)
 case atStart=>exact⟨0,rfl,VY,Below.refl _ _,λj h=>VY⟩
 case round=>
  obtain⟨k,rfl,hk,hX,hA1⟩:=hrel;have HX:=Vk hX;have HXw:=Vk (E0.o.tr hX);have A1:=Vk hA1;have c:=λi=>(R0.o.ext hX).cell i
  clear hA1;by_cases hlt:k<gaps.length
  ·obtain⟨bk,ok,rfl,hb,hc⟩:=K8 (HL.o _ HXw.o) VY;obtain⟨y0,y1⟩:=hc k hlt;have HF:=Vk (λ(z:Int) (h:FE k=z) (hz:z≠0)=>show v=z by rw[HV1.o,<-h];exact bQ hlt A1.o (by rw[h];exact hz));have HOK:=Vk (λh:FE k=0=>jw (P:=λj=>FE j=0) A1.o h);have he:=HGE.o k;obtain⟨fr,hfr⟩:∃x,(gaps.getD k (0,0)).1=x:=⟨_,rfl⟩;obtain⟨tw,hto⟩:∃x,(gaps.getD k (0,0)).2=x:=⟨_,rfl⟩;rw[hfr,hto] at he;rw[hfr] at y0;rw[hto] at y1;have HC:=Vk hc;have HB:=Vk hb;obtain⟨p1,q1⟩:∃p,decide (fr<0)=p:=⟨_,rfl⟩;obtain⟨p2,q2⟩:∃p,decide (fr>=tw)=p:=⟨_,rfl⟩;obtain⟨p3,q3⟩:∃p,decide (tw>ln)=p:=⟨_,rfl⟩;rw[q1,q2,q3] at he;have HE:=Vk he;have RG:=ah.new wr 84 [VU VA fr,VU VA tw];have EG:=Vk (show Ext wr (wr.alloc (.cells #[VU VA fr,VU VA tw] 84)) from(Below.refl _ _).alloc (Vm _) _);have cg:=λi=>RG.cell i
   have cb:=λi=>(R0.o.ext (hX.tr EG.o)).cell i
   clear hX hc hb hfr hto RG he;cases p1
   case true=>exact Ah
   cases p2
   case true=>exact Ah
   cases p3
   case true=>exact Ah
   have he2:FE k=(if decide (0<k)&&decide (fr<=(gaps.getD (k-1) (0,0)).2) then 10 else 0):=HE.o;by_cases hk0:k=0
   ·subst hk0;have HO:=Vk (HOK.o he2);rw[Nat.zero_mul,Nat.add_zero] at y0 y1;clear he2;go_wp2_with fail
    go_quiet (fail)
    go_wp2;exact⟨⟨1,by go_num,VY,below_drewN (HX.o.tr EG.o) _,HO.o⟩,V7⟩
   ·have t5:decide ((k:Int)>0)=Vv:=decide_eq_true VY;have t6:0<k:=VY;rw[decide_eq_true t6,Bool.true_and] at he2;have w1:VA.wrap ((k:Int)-1)=((k-1:Nat):Int):=by rw[VI _ VY];omega
    have hkl:k-1<gaps.length:=VY;obtain⟨z0,z1⟩:=HC.o (k-1) hkl;have z1':=(EG.o.cell (p:=⟨bk,ok+(k-1)*2+1,Vo⟩) HB.o).trans z1;have z0':=(EG.o.cell (p:=⟨bk,ok+(k-1)*2,Vo⟩) HB.o).trans z0;obtain⟨pt,hpt⟩:∃x,(gaps.getD (k-1) (0,0)).2=x:=⟨_,rfl⟩;rw[hpt] at z1' he2;obtain⟨k1,hk1⟩:∃q,k-1=q:=⟨_,rfl⟩;rw[hk1] at w1 hkl z0' z1';clear z0 z1 hpt hk1;obtain⟨p5,q5⟩:∃p,decide (fr<=pt)=p:=⟨_,rfl⟩;rw[q5] at he2;have HE2:=Vk he2;clear he2;cases p5
    ·have HO:=Vk (HOK.o HE2.o);go_wp2_with fail
     go_quiet (fail)
     go_wp2;exact⟨⟨k+1,by go_num,VY,below_drewN (HX.o.tr EG.o) _,HO.o⟩,V7⟩
    ·have hv:=HF.o 10 HE2.o V0;subst hv;go_wp2_with fail
     go_quiet (fail)
     go_wp2;go_ret;exact⟨rfl,below_drewN (HXw.o.tr EG.o) _⟩
  ·obtain rfl:k=gaps.length:=VY;have hv:v=0:=by rw[HV1.o];exact bh A1.o
   subst hv;go_wp2;go_ret;exact⟨rfl,HXw.o⟩
def E7(w:Vl)(A:Option VM)(cap:Nat)(l:List Br)(hl:fk w w.heap.size A cap l):
  VC prog 51 #[VQ A l.length cap] w λx w'=>x=VV (VU VA (iC l))/\Ext w w':=by
 have h1:=hl.1;have h2:=hl.2.1;unfold VJ at h2;have HL:=Vk (λ(W:Vl) (hx:Ext w W)=>((hl.below hx).more hx.size:fk W W.heap.size A cap l));clear hl;obtain⟨v,hv⟩:∃v,iC l=v:=⟨_,rfl⟩;rw[hv];have hv0:v=(if 64<l.length then 4 else aV (λi=>qw (l.getD i oe)) l.length):=hv.symm;clear hv;by_cases h64:64<l.length
 case pos=>
  have t5:decide ((l.length:Int)>64)=Vv:=decide_eq_true VY;rw[if_pos h64] at hv0;subst hv0;clear h64;go_enter func51,ntmps51;go_wp2;go_ret;exact⟨rfl,Below.refl _ _⟩
 have t5:decide ((l.length:Int)>64)=Vp:=decide_eq_false VY;rw[if_neg h64] at hv0;have HV:=Vk hv0;clear h64 hv0;go_enter func51,ntmps51;go_wp2;go_loopw [3] (λi wr=>∃k:Nat,i=VU VA (k:Int)/\k<=l.length/\Ext w wr/\∀j,j<k->qw (l.getD j oe)=0) (λi _=>((l.length:Int)-VG i).toNat)
 case atStart=>exact⟨0,rfl,VY,Below.refl _ _,λj h=>VY⟩
 case round=>
  obtain⟨k,rfl,hk,hX,hA1⟩:=hrel;have HX:=Vk hX;have A1:=Vk hA1;clear hA1;by_cases hlt:k<l.length
  ·obtain⟨b,off,f,rfl,hb,hc⟩:=oH (HL.o _ hX) VY;obtain⟨hq,hs⟩:=hc k hlt;have KB:=Vk (On (l.getD k oe) (f k).1 (f k).2 wr hs);have HF:=Vk (λ(z:Int) (h:qw (l.getD k oe)=z) (hz:z≠0)=>show v=z by rw[HV.o,<-h];exact bQ (f:=λi=>qw (l.getD i oe)) hlt A1.o (by rw[h];exact hz));have HOK:=Vk (λh:qw (l.getD k oe)=0=>jw (P:=λj=>qw (l.getD j oe)=0) A1.o h);obtain⟨x,hx⟩:∃x,l.getD k oe=x:=⟨_,rfl⟩;obtain⟨ga,hga⟩:∃x,(f k).1=x:=⟨_,rfl⟩;obtain⟨gc,hgc⟩:∃x,(f k).2=x:=⟨_,rfl⟩;rw[hx,hga,hgc] at hq KB;rw[hx] at HF HOK;obtain⟨z,hz⟩:∃z,qw x=z:=⟨_,rfl⟩;rw[hz] at KB HF HOK;clear hz;obtain⟨wd,dp,ln,ct,co,gaps⟩:=x;have y0:=hq 0 V0;have y1:=hq 1 V0;have y2:=hq 2 V0;have y3:=hq 3 V0;have y4:=hq 4 V0;have y5:=hq 5 V0;rw[Nat.add_zero] at y0;clear hq hs hX hc hx hga hgc;by_cases hz:z=0
   ·subst hz;have HO:=Vk (HOK.o rfl);go_wp2_with(go_at_call 113;go_must(refine KB.o.mono ?_);rintro e W1 ⟨rfl,hX1⟩;have HX1:=Vk (Ext.tr HX.o hX1);clear hX1)
    exact⟨⟨k+1,by go_num,VY,HX1.o,HO.o⟩,V7⟩
   ·have tz:(z !=0)=Vv:=bne_iff_ne.2 hz;have hv:=HF.o z rfl hz;subst hv;clear hz;go_wp2_with(go_at_call 113;go_must(refine KB.o.mono ?_);rintro e W1 ⟨rfl,hX1⟩;have HX1:=Vk (Ext.tr HX.o hX1);clear hX1)
    go_ret;exact⟨rfl,HX1.o⟩
  ·exact a0Y
end
section
open Kp
attribute [local go_sem] bF jR jN jU jK jI jO jP jM jL jQ fK fE fm fl ft
def TM{rs:List (List Sd)}(h:pq rs=0):∀r∈rs,r≠[]:=by
 rintro r hr rfl;unfold pq at h;rw[if_pos (by rw[Bool.or_eq_true];exact .inl (List.any_eq_true.2 ⟨[],hr,rfl⟩))] at h;cases h
def Vf(rs:List (List Sd))(x:Ending):Prop:=∃(A:Option VM) (n c:Nat) (k:Int),x=VV (VX #[VQ A n c,VU VA k])/\n<=1000000/\(pq rs=0->n=rs.flatten.length)
def Fy(w:Vl)(A:Option VM)(cap:Nat)(rs:List (List Sd))(hr:eB w w.heap.size A cap rs)(hfl:rs.flatten.length<=1000000):
  VC prog 111 #[VW #[VQ A rs.length cap]] w λx w'=>Vf rs x/\Ext w w':=by
 obtain⟨i0,hi0,hz0,hz1,hz2⟩:=info_parts rm;have I0:=Vk hi0;have I1:=Vk hz0;have I2:=Vk hz1;have I3:=Vk hz2;have h1:=hr.1;have h2:=hr.2.1;unfold VJ at h2;have E0:=Vk (show Ext w (w.alloc (.cells #[VQ A rs.length cap] 24)) from(Below.refl _ _).alloc (Vm _) _);have R0:=Vk (Bx.new w 24 (VQ A rs.length cap));have hr0:=(hr.below E0.o).more E0.o.size;obtain⟨w0,hw0⟩:∃w0,w.alloc (.cells #[VQ A rs.length cap] 24)=w0:=⟨_,rfl⟩;rw[hw0] at E0 R0 hr0;have KC:=Vk (vh w0 A cap rs hr0 hfl);have HR:=Vk hr0;have HW0:=Vk hw0;have HB:=Vk (λW (h:Ext w0 W)=>(R0.o.below h R0.o.lt).cell);have HFL:=Vk hfl;clear hr hr0 hfl hi0 hz0 hz1 hz2 hw0;go_enter func111,ntmps111;go_wp2_with(go_at_call 46;fail)
 rw[HW0.o];refine KC.o.mono ?_;obtain⟨k,hkv⟩:∃k,pq rs=k:=⟨_,rfl⟩;rw[hkv];have HKV:=Vk hkv;have hk:k=0->∀r∈rs,r≠[]:=λe=>TM (hkv.trans e)
 clear hkv;rintro e W1 ⟨rfl,hX1⟩;have X1:=Vk hX1;by_cases hk0:k=0
 ·subst hk0;have hne:=hk rfl;have HNE:=Vk hne;clear hk hX1 hne;go_wp2_with fail
  have ST:=Vk (show W1.ownsRow w0.heap.size 54 7 (VQ Vo 0 0) 0 [] from⟨rfl,.inl ⟨rfl,rfl⟩⟩);go_loopw [4,5] (λv i wr=>UZ w0 rs v i wr) (λ_ i _=>((rs.length:Int)-VG i).toNat)
  case atStart=>exact⟨0,VY,rfl,by simpa using ST.o,X1.o⟩
  case round=>
   obtain⟨k,hk,rfl,hown,hX⟩:=hrel;have HOW:=Vk hown;have HXW:=Vk hX;have c0:=HB.o _ hX;clear hown hX;by_cases hlt:k<rs.length
   ·obtain⟨b,off,rfl,hB,hcell⟩:=(HR.o.below HXW.o).2.2 VY;obtain⟨Ai,ci,c1,hsl⟩:=hcell k hlt;have hrne:rs.getD k []≠[]:=by
     have e:rs.getD k []=rs[k]:=by rw[Vn,Vt hlt];rfl
     rw[e];exact HNE.o _ (List.getElem_mem hlt)
    have hq:=dB hlt;have hle:=eo rs (k+1);obtain⟨ring,hring⟩:∃ring,rs.getD k []=ring:=⟨_,rfl⟩;rw[hring] at c1 hsl hrne hq;have hpos:0<ring.length:=List.length_pos_iff.2 hrne;obtain⟨ba,oa,rfl,_,_⟩:=id (hsl.2.2 (by rw[Vu];exact hpos));have hnews:=Vk (hsl.cells (dI ring) V0);have hfl:=Vk (show(aD ring).flatten.length=ring.length*7 by rw[bB (dI ring),Vu]);have hlen2:(rs.take k).flatten.length+ring.length<=1000000:=by rw[hq,VD] at hle;have:=HFL.o;omega
    have hone:=Vk (show∀u∈(aD ring).flatten,u.oneCell'=Vv by
     intro u hu;obtain⟨r,hr,hur⟩:=List.mem_flatten.1 hu;obtain⟨s,_,rfl⟩:=List.mem_map.1 hr;simp only[List.mem_cons,List.not_mem_nil,or_false] at hur;rcases hur with rfl|rfl|rfl|rfl|rfl|rfl|rfl<;>rfl)
    have HQ:=Vk hq;have hbase:=HXW.o.size;clear hcell hsl hrne hq hle hring;go_wp2_with(at_builtin;(refine wpList_append_own _ rfl _ _ _ rfl w0.heap.size 54 i0 _ 7 56 underlying80 I0.o I1.o I2.o I3.o rfl VY _ _ _ rfl HOW.o ⟨ba,oa,Vo⟩ ring.length ci (aD ring).flatten rfl hfl.o hnews.o hone.o Wc VY hbase ?_);intro v' w' hown' hgr' hnil)
    exact Zi
   ·obtain rfl:k=rs.length:=VY;have ho:=HOW.o;rw[List.take_length] at ho;obtain⟨A',cap',rfl,hsl⟩:=aG ho (by rw[Vu]) (dI _);clear ho hsl;go_wp2;go_ret2;exact⟨⟨A',_,cap',_,rfl,HFL.o,λ_=>rfl⟩,E0.o.tr HXW.o⟩
 ·have t0:(k !=0)=Vv:=bne_iff_ne.2 hk0;clear hk hX1;go_wp2_with fail
  go_ret2;exact⟨⟨Vo,0,0,_,rfl,VY,λh=>absurd (HKV.o.symm.trans h) hk0⟩,E0.o.tr X1.o⟩
def Uc(rs:List (List Sd))(l:List kR):Prop:=l.length<=32/\(∀i,i<l.length->ry (l.getD i ef))/\(∀i,i<l.length->∀j,j<i->Kg (l.getD i ef) (l.getD j ef)=Vp)/\(pq rs=0->∀i,i<l.length->aO (l.getD i ef).side 0 ((rs.flatten.length:Int)-1)=Vv)
def Lt(rs:List (List Sd))(l:List kR)(x:Ending):Prop:=∃k:Int,x=VV (VU VA k)/\(k=0->Uc rs l)
def wM(w:Vl)(A:Option VM)(cap:Nat)(rs:List (List Sd))(hr:eB w w.heap.size A cap rs)(hfl:rs.flatten.length<=1000000)(Ao:Option VM)(co:Nat)(l:List kR)(hl:bK 5 w w.heap.size Ao co (bD l))(hs:l.length<=32->∀i,i<l.length->uD (l.getD i ef))(ht:aU w):
  VC prog 49 #[VW #[VQ A rs.length cap],VQ Ao l.length co] w λx w'=>Lt rs l x/\Ext w w':=by
 have h1:=hl.1;have h2:=hl.2.1;rw[Vu] at h1;unfold VJ at h2;have E0:=Vk (show Ext w (w.alloc (.cells #[VQ A rs.length cap] 24)) from(Below.refl _ _).alloc (Vm _) _);have R0:=Vk (Bx.new w 24 (VQ A rs.length cap));obtain⟨w0,hw0⟩:∃w0,w.alloc (.cells #[VQ A rs.length cap] 24)=w0:=⟨_,rfl⟩;rw[hw0] at E0 R0;have HW0:=Vk hw0;have HB:=Vk (λW (h:Ext w0 W)=>(R0.o.below h R0.o.lt).cell);have HL:=Vk (λ(W:Vl) (hx:Ext w W)=>((hl.below hx).more hx.size:bK 5 W W.heap.size Ao co (bD l)));have KD:=Vk (wT w0 Ao co l (HL.o _ E0.o) hs (ht.below E0.o (Vm _)));have KS:=Vk (λW (h:Ext w W)=>Fy W A cap rs ((hr.below h).more h.size) hfl);clear hr hfl hw0 hl hs ht;go_enter func49,ntmps49;go_wp2_with(go_at_call 110;fail)
 rw[HW0.o];refine KD.o.mono ?_;rintro e W1 ⟨⟨b,k,rfl,hk⟩,hX1⟩;have X1:=Vk hX1;have HK:=Vk hk;have c0:=HB.o _ hX1;clear hX1 hk;by_cases hk0:k=0
 ·subst hk0;have h32:=Vk (HK.o rfl);have HNZ:=Vk (show∀k:Int,k≠0->Lt rs l (VV (VU VA k)) fromλk h=>⟨k,rfl,λe=>absurd e h⟩);go_wp2_with(go_at_call 111;fail)
  refine(KS.o _ (E0.o.tr X1.o)).mono ?_;rintro e W2 ⟨⟨As,n,c,k2,rfl,hn,hnv⟩,hX2⟩;have HNV:=Vk hnv;clear hnv;have X2:=Vk (X1.o.tr hX2);clear hX2 c0;go_wp2_with fail
  go_loopw [9] (λi wr=>∃k:Nat,i=VU VA (k:Int)/\k<=l.length/\(∀j,j<k->aO (l.getD j ef).side 0 ((n:Int)-1)=Vv)/\Ext w0 wr) (λi _=>((l.length:Int)-VG i).toNat)
  case atStart=>exact⟨0,rfl,VY,λj hj=>VY,X2.o⟩
  case round=>
   obtain⟨m,rfl,hm,hbt,hX⟩:=hrel;have HBT:=Vk hbt;clear hbt;have HX:=Vk hX;by_cases hlt:m<l.length
   ·obtain⟨b',off,rfl,hb,hc⟩:=qM (HL.o _ (E0.o.tr hX)) VY;have y0:=(hc m hlt).1;obtain⟨s,hs⟩:∃s,(l.getD m ef).side=s:=⟨_,rfl⟩;rw[hs] at y0;have HSV:=Vk hs;have w1:VA.wrap ((n:Int)-1)=(n:Int)-1:=VI _ VY;have e1:(m:Int)<(l.length:Int):=VY;clear hX hc hb hs;go_wp2_with(go_at_call 47;fail)
    refine(gN _ _ _ _).mono ?_;rintro e W3 ⟨rfl,rfl⟩;obtain⟨p,hp⟩:∃p,(!aO s 0 ((n:Int)-1))=p:=⟨_,rfl⟩;rw[hp];have HPV:=Vk hp;clear hp;cases p
    ·go_wp2_with fail
     exact⟨⟨m+1,by go_num,VY,λj hj=>(by
      by_cases e:j=m
      ·rw[e,HSV.o];simpa using HPV.o
      ·exact HBT.o j VY),HX.o⟩,V7⟩
    ·go_wp2_with fail
     go_ret;exact⟨HNZ.o _ V0,E0.o.tr HX.o⟩
   ·obtain rfl:m=l.length:=VY;clear hX;have HAC:=Vk (show b=Vv->Lt rs l (VV (VU VA 0)) fromλhb=>⟨0,rfl,λ_=>⟨h32.o.1,h32.o.2.1,h32.o.2.2 hb,λhck i hi=>by rw[<-HNV.o hck];exact HBT.o i hi⟩⟩);cases b
    ·go_wp2_with fail
     go_ret;exact⟨HNZ.o _ V0,E0.o.tr HX.o⟩
    ·go_wp2_with fail
     go_ret;exact⟨HAC.o WV,E0.o.tr HX.o⟩
 ·have t0:(k !=0)=Vv:=bne_iff_ne.2 hk0;go_wp2_with fail
  go_ret;exact⟨⟨_,rfl,λh=>absurd h hk0⟩,E0.o.tr X1.o⟩
def Qw{j:bC}(h1:pH j.name=Vv)(h2:pq j.rings=0)(h3:(!aO j.origin 0 65536)=Vp)(h4:(!aO j.spacing 1 65536)=Vp)(h5:iT j.purlins=0)(h6:Uc j.rings j.openings)(h7:fy j.sizes=0)(h8:iC j.bars=0)(h9:(!aO j.kerf 0 100)=Vp)(h10:dL j.tile=0)(h11:fC j.aH=0)(h12:gA j.spans=0):mO j=0:=by
 have hp:=PW h2;obtain⟨o1,o2,o3,o4⟩:=h6;have hc:=OS hp o1 o2 o3 (o4 h2);simp only[Bool.not_eq_false'] at h3 h4 h9;unfold mO;rw[h1,hp,h3,h4,h5,hc,h7,h8,h9,h10,h11,h12];simp
def U5(j:bC)(x:Ending):Prop:=∃k:Int,x=VV (VU VA k)/\(k=0->mO j=0)
def EN(w:Vl)(j:bC)(a:dq)(hb:eC w w.heap.size j a)(hj:TU j)(ht:aU w):
  VC prog 21 #[VW (bZ j a)] w λx w'=>U5 j x/\Ext w w':=by
 have E0:=Vk (show Ext w (w.alloc (.cells (bZ j a) 34)) from(Below.refl _ _).alloc (Vm _) _);have J0:JC (w.alloc (.cells (bZ j a) 34)) w.heap.size j a:=Vy w _;obtain⟨w0,hw0⟩:∃w0,w.alloc (.cells (bZ j a) 34)=w0:=⟨_,rfl⟩;rw[hw0] at E0 J0;have HW0:=Vk hw0;have HC:=Vk (λW (h:Ext w0 W) i=>(JC.ext J0 h).cell i);have HB:=Vk (λW (h:Ext w0 W)=>hb.grow (E0.o.tr h));have HT:=Vk (λW (h:Ext w0 W)=>ht.below (E0.o.tr h) (Vm _));have KN:=Vk (λW=>DE j.name W hj.name);have KP:=Vk (λW (h:Ext w0 W)=>vh W a.pa a.pc j.rings (HB.o W h).p hj.rings);have KU:=Vk (λW (h:Ext w0 W)=>yO W a.ua a.uc j.purlins (HB.o W h).u);have KO:=Vk (λW (h:Ext w0 W)=>wM W a.pa a.pc j.rings (HB.o W h).p hj.rings a.oa a.oc j.openings (HB.o W h).o hj.ops (HT.o W h));have KZ:=Vk (λW (h:Ext w0 W)=>FJ W a.za a.zc j.sizes (HB.o W h).z);have KB:=Vk (λW (h:Ext w0 W)=>E7 W a.ba a.bc j.bars (HB.o W h).b);have KT:=Vk (λW=>ze j.tile W);have KL:=Vk (λW (h:Ext w0 W)=>Ew W a.la a.lc j.aH (HB.o W h).l hj.aH (HT.o W h));have KS:=Vk (λW (h:Ext w0 W)=>F6 W a.sa a.sc j.spans (HB.o W h).s);clear hb hj ht hw0 J0;go_enter func21,ntmps21;go_wp2_with(go_at_call 45;fail)
 rw[HW0.o];have X0:=Vk (Ext.aB w0);refine(KN.o _).mono ?_;obtain⟨b1,hb1⟩:∃b,pH j.name=b:=⟨_,rfl⟩;rw[hb1];have F1:=Vk hb1;clear hb1;rintro e W1 ⟨rfl,hW1⟩;have hX1:Ext w0 W1:=by first|(rw[hW1];exact Ext.aB _)|(rw[<-hW1];exact Ext.aB _)
 clear hW1;have X1:=Vk (X0.o.tr hX1);have c1:=HC.o _ X1.o;clear hX1;cases b1
 case false=>
  go_wp2_with fail
  go_ret;exact⟨⟨_,rfl,λh=>absurd h V0⟩,E0.o.tr X1.o⟩
 go_wp2_with(go_at_call 46;fail)
 refine(KP.o _ X1.o).mono ?_;obtain⟨k2,hk2v⟩:∃k,pq j.rings=k:=⟨_,rfl⟩;rw[hk2v];have F2:=Vk hk2v;clear hk2v;rintro e W2 ⟨rfl,hX2⟩;have X2:=Vk (X1.o.tr hX2);have c2:=HC.o _ X2.o;clear hX2 c1;by_cases hk2:k2=0
 case neg=>
  have tk2:(k2 !=0)=Vv:=bne_iff_ne.2 hk2;go_wp2_with fail
  go_ret;exact⟨⟨_,rfl,λh=>absurd h hk2⟩,E0.o.tr X2.o⟩
 subst hk2;go_wp2_with(go_at_call 47;fail)
 refine(gN _ _ _ _).mono ?_;rintro e Vpa ⟨rfl,rfl⟩;obtain⟨pa,hpa⟩:∃p,(!aO j.origin 0 65536)=p:=⟨_,rfl⟩;rw[hpa];have Fhpa:=Vk hpa;clear hpa;cases pa
 case true=>
  exact a01
 go_wp2_with(go_at_call 47;fail)
 refine(gN _ _ _ _).mono ?_;rintro e Vpb ⟨rfl,rfl⟩;obtain⟨pb,hpb⟩:∃p,(!aO j.spacing 1 65536)=p:=⟨_,rfl⟩;rw[hpb];have Fhpb:=Vk hpb;clear hpb;cases pb
 case true=>
  exact a01
 go_wp2_with(go_at_call 48;fail)
 refine(KU.o _ X2.o).mono ?_;rintro e W3 ⟨rfl,hX3⟩;have X3:=Vk (X2.o.tr hX3);have c3:=HC.o _ X3.o;clear hX3 c2;obtain⟨ku,hku⟩:∃k,iT j.purlins=k:=⟨_,rfl⟩;rw[hku];have Fku:=Vk hku;clear hku;by_cases hku:ku=0
 case neg=>
  have tku:(ku !=0)=Vv:=bne_iff_ne.2 hku;go_wp2_with fail
  go_ret;exact⟨⟨_,rfl,λh=>absurd h hku⟩,E0.o.tr X3.o⟩
 subst hku;go_wp2_with(go_at_call 49;fail)
 refine(KO.o _ X3.o).mono ?_;rintro e W4 ⟨⟨ko,rfl,hko⟩,hX4⟩;have X4:=Vk (X3.o.tr hX4);have c4:=HC.o _ X4.o;clear hX4 c3;have HKO:=Vk hko;clear hko;by_cases hko:ko=0
 case neg=>
  have tko:(ko !=0)=Vv:=bne_iff_ne.2 hko;go_wp2_with fail
  go_ret;exact⟨⟨_,rfl,λh=>absurd h hko⟩,E0.o.tr X4.o⟩
 subst hko;have h32:=Vk (HKO.o rfl);go_wp2_with(go_at_call 50;fail)
 refine(KZ.o _ X4.o).mono ?_;obtain⟨kz,hkz⟩:∃k,fy j.sizes=k:=⟨_,rfl⟩;rw[hkz];have Fkz:=Vk hkz;clear hkz;rintro e W5 ⟨rfl,hX5⟩;have X5:=Vk (X4.o.tr hX5);have c5:=HC.o _ X5.o;clear hX5 c4;by_cases hkz:kz=0
 case neg=>
  have tkz:(kz !=0)=Vv:=bne_iff_ne.2 hkz;go_wp2_with fail
  go_ret;exact⟨⟨_,rfl,λh=>absurd h hkz⟩,E0.o.tr X5.o⟩
 subst hkz;go_wp2_with(go_at_call 51;fail)
 refine(KB.o _ X5.o).mono ?_;obtain⟨kb,hkb⟩:∃k,iC j.bars=k:=⟨_,rfl⟩;rw[hkb];have Fkb:=Vk hkb;clear hkb;rintro e W6 ⟨rfl,hX6⟩;have X6:=Vk (X5.o.tr hX6);have c6:=HC.o _ X6.o;clear hX6 c5;by_cases hkb:kb=0
 case neg=>
  have tkb:(kb !=0)=Vv:=bne_iff_ne.2 hkb;go_wp2_with fail
  go_ret;exact⟨⟨_,rfl,λh=>absurd h hkb⟩,E0.o.tr X6.o⟩
 subst hkb;go_wp2_with(go_at_call 47;fail)
 refine(gN _ _ _ _).mono ?_;rintro e Vpc ⟨rfl,rfl⟩;obtain⟨pc,hpc⟩:∃p,(!aO j.kerf 0 100)=p:=⟨_,rfl⟩;rw[hpc];have Fhpc:=Vk hpc;clear hpc;cases pc
 case true=>
  go_wp2_with fail
  go_ret;exact⟨⟨_,rfl,λh=>absurd h V0⟩,E0.o.tr X6.o⟩
 go_wp2_with(go_at_call 52;fail)
 refine(KT.o _).mono ?_;rintro e W7 ⟨rfl,hX7⟩;have X7:=Vk (X6.o.tr hX7);have c7:=HC.o _ X7.o;clear hX7 c6;obtain⟨kt,hkt⟩:∃k,dL j.tile=k:=⟨_,rfl⟩;rw[hkt];have Fkt:=Vk hkt;clear hkt;by_cases hkt:kt=0
 case neg=>
  have tkt:(kt !=0)=Vv:=bne_iff_ne.2 hkt;go_wp2_with fail
  go_ret;exact⟨⟨_,rfl,λh=>absurd h hkt⟩,E0.o.tr X7.o⟩
 subst hkt;go_wp2_with(go_at_call 53;fail)
 refine(KL.o _ X7.o).mono ?_;rintro e W8 ⟨⟨kl,rfl,hkl⟩,hX8⟩;have Fkl:=Vk hkl;clear hkl;have X8:=Vk (X7.o.tr hX8);have c8:=HC.o _ X8.o;clear hX8 c7;by_cases hkl:kl=0
 case neg=>
  have tkl:(kl !=0)=Vv:=bne_iff_ne.2 hkl;go_wp2_with fail
  go_ret;exact⟨⟨_,rfl,λh=>absurd h hkl⟩,E0.o.tr X8.o⟩
 subst hkl;go_wp2_with(go_at_call 54;go_loud (refine(KS.o _ X8.o).mono ?_);rintro e W9 ⟨rfl,hX9⟩;have X9:=Vk (X8.o.tr hX9))
 go_ret;exact⟨⟨_,rfl,λh=>Qw F1.o F2.o Fhpa.o Fhpb.o Fku.o h32.o Fkz.o Fkb.o Fhpc.o Fkt.o (Fkl.o WV) h⟩,E0.o.tr X9.o⟩
end
end Go.Proofs.YtmliacdegmklaaaGreatDoor
