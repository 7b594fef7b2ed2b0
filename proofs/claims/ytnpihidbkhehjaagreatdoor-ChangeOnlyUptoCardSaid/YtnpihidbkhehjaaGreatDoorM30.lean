/- ChangeOnly of kingpostlaw58: part 30 of its proof (merged and shortened by program). -/
import Derived.Test.YtnpihidbkhehjaaGreatDoorM29
set_option linter.unusedVariables false
set_option linter.unusedSimpArgs false
set_option linter.defProp false
set_option maxHeartbeats 8000000
set_option maxRecDepth 100000
open Go.RowKit Go.Shelf Go.Proofs.Tryz
open Array renaming getElem?_eq_some_iff→Od
open Bool renaming false→N1,true→Oc
open Go renaming World→NY,Value→N2,undef→N7,wpOp_step→Ob,Calls→Of,maxLen→Ol,TypeId→Oo
open Go.AllReady renaming cons→Oj,nil→Oq
open Go.IntKind renaming i64→Oe
open Go.IntWalk renaming i64_in→Om
open Go.Lib renaming hid→NW
open Go.RowKit renaming intOf→Oh,Below→On
open Go.World renaming size_alloc→Oi
open List renaming getD_eq_getElem?_getD→N8,length_map→N9,getElem?_eq_getElem→Oa
open Nat renaming le_refl→NZ,mul_comm→Og,le_trans→Ok
open Option renaming none→N0,some→N3
open Go.Proofs.YtnpihidbkhehjaaGreatDoor
namespace Go.Proofs.YtnpihidbkhehjaaGreatDoor
section
open Kp
def nJ(p q:Nat)(m1 m2 mm:Bool)(v1 v2:N2)(n:Nat):Nat→N2→NY→Prop
 |0,v,_=>v= .pointer (N3 ⟨p,0,N0⟩)
 |1,v,_=>v= .bool m1
 |2,v,_=>v= .pointer (N3 ⟨q,0,N0⟩)
 |3,v,_=>v= .bool m2
 |4,v,_=>v= .bool mm
 |5,v,_=>v= .pointer (N3 ⟨p,1,N0⟩)
 |6,v,_=>v=v1
 |7,v,_=>v= .pointer (N3 ⟨q,1,N0⟩)
 |8,v,_=>v=v2
 |9,v,w=>∃l,aR w w.heap.size v l∧aT l∧l.length≤n
 |10,v,w=>∃A c l,v= .agg #[.bool mm,.slice A (List.length l) c]∧aR w w.heap.size (.slice A l.length c) l∧aT l∧l.length≤n
 |_,v,w=>∃b,v= .pointer (N3 ⟨b,0,N0⟩)∧q+1<b∧af w b 302 [.bool N1,.slice N0 0 0]
theorem Fg{p q:Nat}{m1 m2 mm:Bool}{v1 v2:N2}{n:Nat}{i:Nat}{v:N2}{w w':NY}(h:nJ p q m1 m2 mm v1 v2 n i v w)(hx:Ext w w'):nJ p q m1 m2 mm v1 v2 n i v w':=by
 match i,h with
 |0,h|1,h|2,h|3,h|4,h|5,h|6,h|7,h|8,h=>exact h
 |9,h=>obtain⟨l,h1,h2⟩:=h;exact⟨l,h1.grow hx,h2⟩
 |10,h=>obtain⟨A,c,l,e,h1,h2⟩:=h;exact⟨A,c,l,e,h1.grow hx,h2⟩
 |_+11,h=>obtain⟨b,e,hb,h⟩:=h;exact⟨b,e,hb,h.ext hx⟩
theorem CJ (w : NY) (m1 m2 : Bool) (a b : List Nat) (va vb : N2) (n : Nat) (ha : aR w w.heap.size va a) (hb : aR w w.heap.size vb b) (hca : aT a) (hcb : aT b) (hla : a.length ≤ n) (hlb : b.length ≤ n) (hn : n ≤ 400000) :
    Of prog 325 #[.agg #[.bool m1, va], .agg #[.bool m2, vb]] w (gY (2 * n + 1) w) := by
  have HA := NW ha
  have HB := NW hb
  have E3 := NW (wK w (.cells #[.bool m1, va] 302) (.cells #[.bool m2, vb] 302) (.cells #[.bool N1, .slice N0 0 0] 302))
  have R1 := (af.new w 302 [.bool m1, va]).ext (dI _ (.cells #[.bool m2, vb] 302) (.cells #[.bool N1, .slice N0 0 0] 302))
  have R2 := (af.new (w.alloc (.cells #[.bool m1, va] 302)) 302 [.bool m2, vb]).ext ((Below.refl _ _).alloc (NZ _) (.cells #[.bool N1, .slice N0 0 0] 302))
  have R3 := af.new ((w.alloc (.cells #[.bool m1, va] 302)).alloc (.cells #[.bool m2, vb] 302)) 302 [.bool N1, .slice N0 0 0]
  rw [Oi] at R2
  rw [Oi, Oi] at R3
  obtain ⟨A, ca, rfl, _, _, _⟩ := id ha
  obtain ⟨A', cb, rfl, _, _, _⟩ := id hb
  obtain ⟨W0, hW0⟩ : ∃ W0, ((w.alloc (.cells #[.bool m1, .slice A a.length ca] 302)).alloc (.cells #[.bool m2, .slice A' b.length cb] 302)).alloc (.cells #[.bool N1, .slice N0 0 0] 302) = W0 := ⟨_, rfl⟩
  rw [hW0] at E3 R1 R2 R3
  have KC := NW (fun (W : NY) (h : Ext w W) => (nr W a b (.slice A a.length ca) (.slice A' b.length cb) (HA.out.grow h) (HB.out.grow h) hca.small hcb.small.NH Ot Ot).mono (fun e w' ⟨v, l, h1, h2, h3, ⟨_, h4⟩, h5, _⟩ => (⟨v, l, h1, h2, h3, Ok h4 Ot, h5⟩ : ∃ v l, e = Ending.returned v ∧ aR w' w'.heap.size v l ∧ aT l ∧ l.length ≤ 2 * n + 1 ∧ Ext W w')))
  obtain ⟨mm, hmm⟩ : ∃ mm, (m1 == m2) = !mm := ⟨!(m1 == m2), Ow⟩
  have HW0 := NW hW0
  clear hW0 ha hb hca hcb hla hlb
  go_enter func325, ntmps325
  go_wp2
  simp only [HW0.out]
  refine wp_region_any Ou (bA 12 (fun vs => ⟨#[.agg #[.bool m1, .slice A a.length ca], .agg #[.bool m2, .slice A' b.length cb], .pointer (N3 ⟨w.heap.size, 0, N0⟩), .pointer (N3 ⟨w.heap.size + 1, 0, N0⟩), .pointer (N3 ⟨w.heap.size + 1 + 1, 0, N0⟩), vs 11, vs 0, vs 1, vs 2, vs 3, vs 4, vs 5, vs 6, vs 7, vs 8, vs 9, vs 10, N7, N7, N7, N7, N7, N7], []⟩)
    (fun w' => Ext W0 w') (nJ (w.heap.size) (w.heap.size + 1) m1 m2 mm (.slice A a.length ca) (.slice A' b.length cb) (2 * n + 1)) (fun i => i == 11) Ou (fun _ _ h k => h.tr k) (fun i v _ _ h k => Fg h k) ?fr ?step ?tail (fun _ => N7) _ (Ext.dr W0))
  case fr =>
    intro i v w' _ hf hv
    obtain rfl : i = 11 := by simpa using hf
    obtain ⟨b, e, _, h⟩ := hv
    exact ⟨b, e, h.lt⟩
  case step =>
    intro i vs w' hi hD hd
    have hw0 : Ext W0 w' := hD
    have cA := fun i => (R1.ext hw0).cell i
    have cB := fun i => (R2.ext hw0).cell i
    have h3 := (R3.ext hw0).lt
    rcases (show i = 0 ∨ i = 1 ∨ i = 2 ∨ i = 3 ∨ i = 4 ∨ i = 5 ∨ i = 6 ∨ i = 7 ∨ i = 8 ∨ i = 9 ∨ i = 10 ∨ i = 11 by omega) with rfl | rfl | rfl | rfl | rfl | rfl | rfl | rfl | rfl | rfl | rfl | rfl <;> clear hi
    all_goals refine Ob rfl (fun K hK => ?_)
    all_goals try (have d0 := hd 0 OO; simp only [nJ] at d0)
    all_goals try (have d1 := hd 1 OO; simp only [nJ] at d1)
    all_goals try (have d2 := hd 2 OO; simp only [nJ] at d2)
    all_goals try (have d3 := hd 3 OO; simp only [nJ] at d3)
    all_goals try (have d4 := hd 4 OO; simp only [nJ] at d4)
    all_goals try (have d5 := hd 5 OO; simp only [nJ] at d5)
    all_goals try (have d6 := hd 6 OO; simp only [nJ] at d6)
    all_goals try (have d7 := hd 7 OO; simp only [nJ] at d7)
    all_goals try (have d8 := hd 8 OO; simp only [nJ] at d8)
    all_goals try (have x6 := hd 9 OO; obtain ⟨l6, h6, hc6, hl6⟩ := x6; obtain ⟨A6, c6, e6, _, _, _⟩ := id h6; have H6 := NW h6)
    all_goals clear hd
    all_goals go_simp
    all_goals first
      | exact hK _ _ ⟨_, Pt, Ext.an _, rfl, fun h => Ox⟩
      | (refine (KC.out _ (E3.out.tr hw0)).mono ?_
         rintro e W4 ⟨v, l4, rfl, hs, hc, hl, hX⟩
         exact hK _ _ ⟨v, Pt, hX, ⟨l4, hs, hc, hl⟩, fun h => Ox⟩)
      | exact hK _ _ ⟨.agg #[.bool mm, .slice A6 l6.length c6], Pt, Ext.an _, ⟨A6, c6, l6, rfl, e6 ▸ H6.out, hc6, hl6⟩, fun h => Ox⟩
      | exact hK _ _ ⟨.pointer (N3 ⟨w'.heap.size, 0, N0⟩), Pt, (Below.refl _ _).alloc (NZ _) _, ⟨_, rfl, Ot, af.new _ _ _⟩, fun _ => ⟨_, rfl, NZ _⟩⟩
  case tail =>
    intro vs w' hD hv _
    have hw0 : Ext W0 w' := hD
    obtain ⟨A7, c7, l7, e7, hs, hc7, hl7⟩ := hv 10 Ov
    obtain ⟨b8, e8, hb8, r8⟩ := hv 11 Ov
    have HS := NW hs
    have r3 := R3.ext hw0
    have f8 := fun i => r8.frozen i
    have c80 := r8.cell 0
    have c81 := r8.cell 1
    have c30 := r3.cell 0
    have c31 := r3.cell 1
    have f3 := fun i => r3.frozen i
    have r9 := r8.lU (.bool mm) (.slice A7 l7.length c7)
    have r10 := r9.jq (.bool N1)
    have c90 := r9.cell 0
    have c91 := r9.cell 1
    have c100 := r10.cell 0
    have c101 := r10.cell 1
    have f9 := fun i => r9.frozen i
    have f10 := fun i => r10.frozen i
    have hne : ¬ w.heap.size + 1 + 1 = b8 := Ot
    have k3 := (r3.cI (p := ⟨b8, 0, N0⟩) OK (.bool mm)).cI (p := ⟨b8, 1, N0⟩) OK (.slice A7 l7.length c7)
    have k4 := k3.cI (p := ⟨b8, 0, N0⟩) OK (.bool N1)
    have g3 := fun i => k3.frozen i
    have k30 := k3.cell 0
    have k31 := k3.cell 1
    have k40 := k4.cell 0
    have k41 := k4.cell 1
    have g4 := fun i => k4.frozen i
    clear hv hs
    simp only [List.drop_succ_cons, List.drop_zero]
    have HW := NW hw0
    have HR8 := NW r8
    have HR9 := NW r9
    have HK3 := NW k3
    have HK4 := NW k4
    clear r8 r9 r10 k3 k4 r3 hw0
    by_cases hz : l7.length = 0
    · obtain rfl : l7 = [] := List.length_eq_zero_iff.1 hz
      go_wp2
      have s3 := iN (iN (iN HS.out HR8.out (eO _ _ _) 0 (.bool mm)) (HR8.out.jq _) (eO _ _ _) 1 (.slice A7 0 c7)) HR9.out (eO _ _ _) 0 (.bool N1)
      have j4 := HK4.out.lU (.bool N1) (.slice A7 0 c7)
      have q0 := j4.cell 0
      have q1 := j4.cell 1
      refine bodyPost_ret (v := .agg #[.bool N1, .slice A7 0 c7]) (by simp at q0 q1; simp [results, results325, go_sem, q0, q1]) rfl (gY.of (iN (iN s3 HK4.out (eO _ _ _) 0 (.bool N1)) (HK4.out.jq _) (eO _ _ _) 1 (.slice A7 0 c7)) hc7 hl7 ?_)
      exact (((((E3.out.tr HW.out).setCell (p := ⟨b8, 0, N0⟩) OK _).setCell (p := ⟨b8, 1, N0⟩) OK _).setCell (p := ⟨b8, 0, N0⟩) OK _).setCell (p := ⟨w.heap.size + 1 + 1, 0, N0⟩) OK _).setCell (p := ⟨w.heap.size + 1 + 1, 1, N0⟩) OK _
    · go_wp2
      have s2 := iN (iN HS.out HR8.out (eO _ _ _) 0 (.bool mm)) (HR8.out.jq _) (eO _ _ _) 1 (.slice A7 l7.length c7)
      have j3 := HK3.out.lU (.bool mm) (.slice A7 l7.length c7)
      have q0 := j3.cell 0
      have q1 := j3.cell 1
      refine bodyPost_ret (v := .agg #[.bool mm, .slice A7 l7.length c7]) (by simp [results, results325, go_sem, q0, q1]) rfl (gY.of (iN (iN s2 HK3.out (eO _ _ _) 0 (.bool mm)) (HK3.out.jq _) (eO _ _ _) 1 (.slice A7 l7.length c7)) hc7 hl7 ?_)
      exact ((((E3.out.tr HW.out).setCell (p := ⟨b8, 0, N0⟩) OK _).setCell (p := ⟨b8, 1, N0⟩) OK _).setCell (p := ⟨w.heap.size + 1 + 1, 0, N0⟩) OK _).setCell (p := ⟨w.heap.size + 1 + 1, 1, N0⟩) OK _
end
section
open Kp
def MQ(x:Ending):Prop:=∃b:Bool,x= .returned (.bool b)
theorem uV (s : By) (w : NY) (hs : s.length ≤ 1000000) : Of prog 48 #[.string (tx s)] w fun x w' => MQ x ∧ Ext w w' := by
  have hz := av s
  go_enter func48, ntmps48
  go_wp2
  go_loopw [3] (fun i wr => ∃ k : Nat, i = .int .i64 (k : Int) ∧ k ≤ s.length ∧ Ext w wr) (fun i _ => ((s.length : Int) - Oh i).toNat)
  case atStart => exact ⟨0, rfl, Ot, Below.refl _ _⟩
  case round =>
    obtain ⟨k, rfl, hk, hX⟩ := hrel
    have HX := NW hX
    by_cases hlt : k < s.length
    · have hb : k < (tx s).size := by rw [av]; exact hlt
      obtain ⟨c, hc⟩ : ∃ c : UInt8, (tx s)[k]'hb = c := ⟨_, rfl⟩
      clear hX
      go_wp2
      all_goals first
        | exact ⟨⟨k + 1, by go_num, Ot, HX.out⟩, OP⟩
        | (go_round
           case rel => exact ⟨k + 1, by go_num, Ot, HX.out⟩
           case measure => simp [Oh]; omega)
        | (go_ret
           exact ⟨⟨_, rfl⟩, HX.out⟩)
    · obtain rfl : k = s.length := by omega
      clear hX
      go_wp2
      all_goals
        go_ret
        exact ⟨⟨_, rfl⟩, HX.out⟩
end
section
open Kp
theorem Ho(n:Int): -9223372036854775808≤Oe.wrap n∧Oe.wrap n≤9223372036854775807:=by
 rw[IntWalk.i64_left];unfold RowKit.wrap64;omega
theorem xE(n:Int):(RowKit.wrap64 n).natAbs≤9223372036854775808:=by unfold RowKit.wrap64;omega
theorem wA (s : By) (w : NY) (hs : s.length ≤ 1000000) : Of prog 236 #[.string (tx s)] w fun x w' => (∃ k : Int, x = .returned (.int .i64 k) ∧ k.natAbs ≤ 9223372036854775808) ∧ Ext w w' := by
  have hz := av s
  go_enter func236, ntmps236
  go_wp2
  go_loopw [3, 4] (fun n i wr => ∃ (z : Int) (k : Nat), n = .int .i64 z ∧ i = .int .i64 (k : Int) ∧ k ≤ s.length ∧ Ext w wr ∧ z.natAbs ≤ 9223372036854775808) (fun _ i _ => ((s.length : Int) - Oh i).toNat)
  case atStart => exact ⟨0, 0, rfl, rfl, Ot, Below.refl _ _, Ov⟩
  case round =>
    obtain ⟨z, k, rfl, rfl, hk, hX, hz9⟩ := hrel
    have HZ9 := NW hz9
    clear hz9
    have HX := NW hX
    by_cases hlt : k < s.length
    · have hb : k < (tx s).size := by rw [av]; exact hlt
      clear hX
      go_wp2
      all_goals first
        | exact ⟨⟨_, k + 1, rfl, by go_num, Ot, HX.out, xE _⟩, OP⟩
        | (go_round
           case rel => exact ⟨_, k + 1, rfl, by go_num, Ot, HX.out, xE _⟩
           case measure => simp [Oh]; omega)
    · obtain rfl : k = s.length := by omega
      clear hX
      go_wp2
      go_ret
      exact ⟨⟨_, rfl, HZ9.out⟩, HX.out⟩
end
section
open Kp
def Ka(m:Nat)(x:Ending):Prop:=∃(g sl:Bool) (n d:ByteArray),x= .returned (.tuple #[.bool g,.string n,.string d,.bool sl])∧n.size≤m∧d.size≤m
theorem bU{fn:Func}{t u v x:Tmp}(h:fn.results=#[.tmp t,.tmp u,.tmp v,.tmp x])(tmps:Array N2)(P:Program)(w:NY):
  (results fn tmps).run P w= .ok (.tuple #[tmps.getD t N7,tmps.getD u N7,tmps.getD v N7,tmps.getD x N7]) w:=by
 simp[results,h]
theorem xF(z:ByteArray)(w:NY)(hs:z.size≤1000000):Of prog 233 #[.string z] w fun x w'=>Ka z.size x∧Ext w w':=by
 by_cases h0:z.size=0
 ·go_enter func233,ntmps233
  go_wp2
  go_loopw [8] (fun i wr=>∃k:Nat,i= .int .i64 (k:Int)∧k≤z.size∧Ext w wr) (fun i _=>((z.size:Int)-Oh i).toNat)
  case atStart=>exact⟨0,rfl,Ot,Below.refl _ _⟩
  case round=>
   obtain⟨k,rfl,hk,hX⟩:=hrel
   have HX:=NW hX
   clear hX
   by_cases hlt:k<z.size
   ·exact absurd hlt Ot
   ·obtain rfl:k=z.size:=Ot
    go_wp2
    refine bodyPost_ret (bU rfl _ _ _) rfl ?_
    exact⟨⟨_,_,_,_,rfl,Ot,Nat.zero_le _⟩,HX.out⟩
 have hp:0<z.size:=Ot
 obtain⟨p2,t2⟩:∃p,(((z[0]'hp).toNat:Int)==45)=p:=⟨_,rfl⟩
 obtain⟨y,hy⟩:∃y,z.extract 1 z.size=y:=⟨_,rfl⟩
 have hys:y.size≤z.size:=by rw[←hy];simp
 have hyl:y.size≤1000000:=Ot
 cases p2 with
 |false=>
  clear hy hys hyl
  go_enter func233,ntmps233
  go_wp2
  go_loopw [8] (fun i wr=>∃k:Nat,i= .int .i64 (k:Int)∧k≤z.size∧Ext w wr) (fun i _=>((z.size:Int)-Oh i).toNat)
  case atStart=>exact⟨0,rfl,Ot,Below.refl _ _⟩
  case round=>
   obtain⟨k,rfl,hk,hX⟩:=hrel
   have HX:=NW hX
   clear hX
   by_cases hlt:k<z.size
   ·obtain⟨p,tp⟩:∃p,(((z[k]'hlt).toNat:Int)==47)=p:=⟨_,rfl⟩
    cases p with
    |true=>
     go_wp2_with fail
     go_quiet (fail)
     go_wp2
     refine bodyPost_ret (bU rfl _ _ _) rfl ?_
     exact⟨⟨_,_,_,_,rfl,by simp <;>omega,by simp <;>omega⟩,below_drewN HX.out _⟩
    |false=>
     go_wp2
     exact⟨⟨k+1,by go_num,Ot,HX.out⟩,Oy⟩
   ·obtain rfl:k=z.size:=Ot
    go_wp2
    refine bodyPost_ret (bU rfl _ _ _) rfl ?_
    exact⟨⟨_,_,_,_,rfl,Ot,Nat.zero_le _⟩,HX.out⟩
 |true=>
  go_enter func233,ntmps233
  go_wp2
  go_loopw [8] (fun i wr=>∃k:Nat,i= .int .i64 (k:Int)∧k≤y.size∧Ext w wr) (fun i _=>((y.size:Int)-Oh i).toNat)
  case atStart=>exact⟨0,rfl,Ot,Below.refl _ _⟩
  case round=>
   obtain⟨k,rfl,hk,hX⟩:=hrel
   have HX:=NW hX
   clear hX
   by_cases hlt:k<y.size
   ·obtain⟨p,tp⟩:∃p,(((y[k]'hlt).toNat:Int)==47)=p:=⟨_,rfl⟩
    cases p with
    |true=>
     go_wp2_with fail
     go_quiet (fail)
     go_wp2
     refine bodyPost_ret (bU rfl _ _ _) rfl ?_
     exact⟨⟨_,_,_,_,rfl,by simp <;>omega,by simp <;>omega⟩,below_drewN HX.out _⟩
    |false=>
     go_wp2
     exact⟨⟨k+1,by go_num,Ot,HX.out⟩,Oy⟩
   ·obtain rfl:k=y.size:=Ot
    go_wp2
    refine bodyPost_ret (bU rfl _ _ _) rfl ?_
    exact⟨⟨_,_,_,_,rfl,Ot,Nat.zero_le _⟩,HX.out⟩
end
section
open Kp
theorem sM(z:ByteArray)(w:NY)(hs:z.size≤1000000):Of prog 236 #[.string z] w fun x w'=>(∃k:Int,x= .returned (.int .i64 k)∧k.natAbs≤9223372036854775808)∧Ext w w':=by
 have h:=wA z.data.toList w (by rw[Array.length_toList];exact hs)
 rw[lz] at h
 exact h
def L9(x:Ending):Prop:=∃(a b:Int) (ok:Bool),x= .returned (.tuple #[.int .i64 a,.int .i64 b,.bool ok])
theorem oT(z:ByteArray)(w:NY)(hs:z.size≤1000000):Of prog 266 #[.string z] w fun x w'=>L9 x∧Ext w w':=by
 have KS:=NW (xF z w hs)
 have HS:=NW hs
 go_enter func266,ntmps266
 go_wp2_with(first
  |(go_at_call 236;have hX:=HX2;clear HX2;refine(sM _ _ (Ok OD HS.out)).mono ?_;rintro e W3 ⟨⟨k2,rfl,_⟩,hX3⟩;have HX3:=NW (hX.out.tr hX3);clear hX3)
  |(go_at_call 236;have hX:=HX1;clear HX1;refine(sM _ _ (Ok OD HS.out)).mono ?_;rintro e W2 ⟨⟨k,rfl,_⟩,hX2⟩;have HX2:=NW (hX.out.tr hX2);clear hX2)
  |(go_at_call 233;go_must(refine KS.out.mono ?_);rintro e W1 ⟨⟨g,sl,n,d,rfl,hn,hd⟩,hX1⟩;have HX1:=NW hX1;clear hX1))
 all_goals
  go_ret3
  first
   |exact⟨⟨_,_,_,rfl⟩,HX3.out⟩
   |exact⟨⟨_,_,_,rfl⟩,HX2.out⟩
   |exact⟨⟨_,_,_,rfl⟩,HX1.out⟩
end
section
open Kp
def kG(y:ByteArray):Nat:=y.data.toList.findIdx (· ==47)
def bH(z:ByteArray):Bool×ByteArray×ByteArray×Bool:=
 let m:=z.data.toList.head?==N3 45
 let y:=if m then z.extract 1 z.size else z
 if kG y<y.size then(m,y.extract 0 (kG y),y.extract (kG y+1) y.size,Oc) else(m,y,⟨#[]⟩,N1)
def zF(v:Bool×ByteArray×ByteArray×Bool):N2:= .tuple #[.bool v.1,.string v.2.1,.string v.2.2.1,.bool v.2.2.2]
theorem ET{y:ByteArray}{k:Nat}(hk:k<y.size)(h:∀m (hm:m<k),((y[m]'Ot).toNat:Int)≠47)(h2:((y[k]'hk).toNat:Int)=47):kG y=k:=by
 unfold kG
 have hk':k<y.data.toList.length:=by rw[Array.length_toList];exact hk
 rw[List.findIdx_eq hk']
 refine⟨?_,fun m hm=> ?_⟩
 ·have e:y[k]'hk=y.data.toList[k]:=Pu
  rw[e] at h2
  rw[beq_iff_eq]
  exact UInt8.toNat_inj.1 (by have:(47:UInt8).toNat=47:=rfl;omega)
 ·have hm':=h m hm
  have e:y[m]'Ot=y.data.toList[m]'(by rw[Array.length_toList];exact Nat.lt_trans hm hk):=Pu
  rw[e] at hm'
  rw[beq_eq_false_iff_ne]
  intro e2
  rw[e2] at hm'
  exact hm' rfl
theorem zI{y:ByteArray}(h:∀m (hm:m<y.size),((y[m]'hm).toNat:Int)≠47):kG y=y.size:=by
 unfold kG
 have hl:y.data.toList.length=y.size:=Array.length_toList
 rw[←hl,List.findIdx_eq_length]
 intro x hx
 obtain⟨m,hm,rfl⟩:=List.mem_iff_getElem.1 hx
 have hm2:m<y.size:=hl▸hm
 have hm':=h m hm2
 have e:y[m]'hm2=y.data.toList[m]:=Pu
 rw[e] at hm'
 rw[beq_eq_false_iff_ne]
 intro e2
 rw[e2] at hm'
 exact hm' rfl
end
section
open Kp
def ym(y:ByteArray)(k:Nat):Prop:=∀m (_:m<k) (h:m<y.size),((y[m]'h).toNat:Int)≠47
theorem po{z y:ByteArray}{g:Bool}(hg:(z.data.toList.head?==N3 45)=g)(hy:(if g then z.extract 1 z.size else z)=y):
  (∀k (hk:k<y.size),ym y k→((y[k]'hk).toNat:Int)=47→bH z=(g,y.extract 0 k,y.extract (k+1) y.size,Oc))∧(ym y y.size→bH z=(g,y,⟨#[]⟩,N1)):=by
 have hv:bH z=if kG y<y.size then(g,y.extract 0 (kG y),y.extract (kG y+1) y.size,Oc) else(g,y,⟨#[]⟩,N1):=by
  unfold bH
  simp only[hg,hy]
 refine⟨fun k hk hn h=> ?_,fun hn=> ?_⟩
 ·rw[hv,ET hk (fun m hm=>hn m hm Ot) h,if_pos hk]
 ·rw[hv,zI (fun m hm=>hn m hm hm),if_neg (Nat.lt_irrefl _)]
theorem Io{z:ByteArray}(hp:0<z.size):(z.data.toList.head?==N3 45)=(((z[0]'hp).toNat:Int)==45):=by
 have hl:0<z.data.toList.length:=by rw[Array.length_toList];exact hp
 have e:z[0]'hp=z.data.toList[0]:=Pu
 rw[e,List.head?_eq_getElem?,Oa hl,Bool.eq_iff_iff,beq_iff_eq,beq_iff_eq]
 constructor
 ·intro h;injection h with h;rw[h];rfl
 ·intro h;congr 1;exact UInt8.toNat_inj.1 (by have:(45:UInt8).toNat=45:=rfl;omega)
theorem nw(z:ByteArray)(w:NY)(hs:z.size≤1000000):Of prog 233 #[.string z] w fun x w'=>x= .returned (zF (bH z))∧Ext w w':=by
 by_cases h0:z.size=0
 ·have hz:z.data.toList=[]:=List.length_eq_zero_iff.1 (by rw[Array.length_toList];exact h0)
  have HY:=NW (po (z:=z) (y:=z) (g:=N1) (by rw[hz];rfl) rfl)
  clear hz
  go_enter func233,ntmps233
  go_wp2
  go_loopw [8] (fun i wr=>∃k:Nat,i= .int .i64 (k:Int)∧k≤z.size∧Ext w wr∧ym z k) (fun i _=>((z.size:Int)-Oh i).toNat)
  case atStart=>exact⟨0,rfl,Ot,Below.refl _ _,fun m hm _=>Ot⟩
  case round=>
   obtain⟨k,rfl,hk,hX,hno⟩:=hrel
   have HX:=NW hX
   have HN:=NW hno
   clear hX hno
   by_cases hlt:k<z.size
   ·exact absurd hlt Ot
   ·obtain rfl:k=z.size:=Ot
    have HR:=NW (show bH z=(N1,z,⟨#[]⟩,N1) from HY.out.2 HN.out)
    go_wp2
    refine bodyPost_ret (bU rfl _ _ _) rfl ?_
    exact⟨OA,HX.out⟩
 have hp:0<z.size:=Ot
 obtain⟨p2,t2⟩:∃p,(((z[0]'hp).toNat:Int)==45)=p:=⟨_,rfl⟩
 obtain⟨y,hy⟩:∃y,z.extract 1 z.size=y:=⟨_,rfl⟩
 have hys:y.size≤z.size:=by rw[←hy];simp
 have hyl:y.size≤1000000:=Ot
 have hh:=(Io hp).trans t2
 cases p2 with
 |false=>
  have HY:=NW (po hh rfl)
  clear hy hys hyl hh
  go_enter func233,ntmps233
  go_wp2
  go_loopw [8] (fun i wr=>∃k:Nat,i= .int .i64 (k:Int)∧k≤z.size∧Ext w wr∧ym z k) (fun i _=>((z.size:Int)-Oh i).toNat)
  case atStart=>exact⟨0,rfl,Ot,Below.refl _ _,fun m hm _=>Ot⟩
  case round=>
   obtain⟨k,rfl,hk,hX,hno⟩:=hrel
   have HX:=NW hX
   have HN:=NW hno
   clear hX hno
   by_cases hlt:k<z.size
   ·obtain⟨p,tp⟩:∃p,(((z[k]'hlt).toNat:Int)==47)=p:=⟨_,rfl⟩
    have HP:=NW tp
    cases p with
    |true=>
     have HR:=NW (show bH z=(N1,z.extract 0 k,z.extract (k+1) z.size,Oc) from HY.out.1 k hlt HN.out (beq_iff_eq.1 HP.out))
     go_wp2_with fail
     go_quiet (fail)
     go_wp2
     refine bodyPost_ret (bU rfl _ _ _) rfl ?_
     exact⟨OA,below_drewN HX.out _⟩
    |false=>
     have HNN:=NW (show ym z (k+1) from fun m hm h=>by
      by_cases e:m=k
      ·subst e;exact beq_eq_false_iff_ne.1 HP.out
      ·exact HN.out m Ot h)
     go_wp2
     exact⟨⟨k+1,by go_num,Ot,HX.out,HNN.out⟩,Oy⟩
   ·obtain rfl:k=z.size:=Ot
    have HR:=NW (show bH z=(N1,z,⟨#[]⟩,N1) from HY.out.2 HN.out)
    go_wp2
    refine bodyPost_ret (bU rfl _ _ _) rfl ?_
    exact⟨OA,HX.out⟩
 |true=>
  have HY:=NW (po hh hy)
  clear hh
  go_enter func233,ntmps233
  go_wp2
  go_loopw [8] (fun i wr=>∃k:Nat,i= .int .i64 (k:Int)∧k≤y.size∧Ext w wr∧ym y k) (fun i _=>((y.size:Int)-Oh i).toNat)
  case atStart=>exact⟨0,rfl,Ot,Below.refl _ _,fun m hm _=>Ot⟩
  case round=>
   obtain⟨k,rfl,hk,hX,hno⟩:=hrel
   have HX:=NW hX
   have HN:=NW hno
   clear hX hno
   by_cases hlt:k<y.size
   ·obtain⟨p,tp⟩:∃p,(((y[k]'hlt).toNat:Int)==47)=p:=⟨_,rfl⟩
    have HP:=NW tp
    cases p with
    |true=>
     have HR:=NW (show bH z=(Oc,y.extract 0 k,y.extract (k+1) y.size,Oc) from HY.out.1 k hlt HN.out (beq_iff_eq.1 HP.out))
     go_wp2_with fail
     go_quiet (fail)
     go_wp2
     refine bodyPost_ret (bU rfl _ _ _) rfl ?_
     exact⟨OA,below_drewN HX.out _⟩
    |false=>
     have HNN:=NW (show ym y (k+1) from fun m hm h=>by
      by_cases e:m=k
      ·subst e;exact beq_eq_false_iff_ne.1 HP.out
      ·exact HN.out m Ot h)
     go_wp2
     exact⟨⟨k+1,by go_num,Ot,HX.out,HNN.out⟩,Oy⟩
   ·obtain rfl:k=y.size:=Ot
    have HR:=NW (show bH z=(Oc,y,⟨#[]⟩,N1) from HY.out.2 HN.out)
    go_wp2
    refine bodyPost_ret (bU rfl _ _ _) rfl ?_
    exact⟨OA,HX.out⟩
end
section
open Kp
structure Dg(z:ByteArray):Prop where
 pos:0<z.size
 lead:∀h:0<z.size,1<z.size→((z[0]'h).toNat:Int)≠48
 all:∀m (h:m<z.size),48≤((z[m]'h).toNat:Int)∧((z[m]'h).toNat:Int)≤57
def MT(z:ByteArray)(x:Ending):Prop:=∃b:Bool,x= .returned (.bool b)∧(b=Oc↔Dg z)
def MM(z:ByteArray)(k:Nat):Prop:=∀m (_:m<k) (h:m<z.size),48≤((z[m]'h).toNat:Int)∧((z[m]'h).toNat:Int)≤57
theorem pU (z : ByteArray) (w : NY) (hs : z.size ≤ 1000000) : Of prog 234 #[.string z] w fun x w' => MT z x ∧ Ext w w' := by
  have HN := NW (show ¬ Dg z → MT z (.returned (.bool N1)) from fun hn => ⟨_, rfl, ⟨fun h => Ox, fun h => absurd h hn⟩⟩)
  obtain ⟨n, hn⟩ : ∃ n, z.size = n := ⟨_, rfl⟩
  by_cases h0 : n = 0
  · have hz0 : z.size = 0 := hn.trans h0
    clear hn h0
    go_enter func234, ntmps234
    go_wp2
    go_ret
    exact ⟨HN.out (fun h => by have := h.pos; omega), Below.refl _ _⟩
  have hp : 0 < z.size := Ot
  obtain ⟨p1, t1⟩ : ∃ p, decide ((n : Int) > 1) = p := ⟨_, rfl⟩
  obtain ⟨p2, t2⟩ : ∃ p, (((z[0]'hp).toNat : Int) == 48) = p := ⟨_, rfl⟩
  have t0 : ((n : Int) == 0) = N1 := beq_eq_false_iff_ne.2 Ot
  have hn6 : n ≤ 1000000 := Ot
  have HY := NW (show (p1 = N1 ∨ p2 = N1) → MM z z.size → MT z (.returned (.bool Oc)) from fun h ha => ⟨_, rfl, ⟨fun _ => ⟨hp, fun _ h1 => by
    rcases h with h | h
    · rw [h] at t1; have := of_decide_eq_false t1; omega
    · rw [h] at t2; exact beq_eq_false_iff_ne.1 t2, fun m hm => ha m hm hm⟩, fun _ => rfl⟩⟩)
  have HL := NW (show p1 = Oc → p2 = Oc → ¬ Dg z from fun h1 h2 h => by
    rw [h1] at t1; rw [h2] at t2; have := of_decide_eq_true t1; exact h.lead hp Ot (beq_iff_eq.1 t2))
  have HZ := NW hn
  clear h0
  cases p1 <;> cases p2
  all_goals
    go_enter func234, ntmps234
    go_wp2
    first
      | (go_ret
         exact ⟨HN.out (by first | exact HL.out rfl rfl | exact HL.out trivial trivial | exact HL.out Ow Ow | exact HL.out), Below.refl _ _⟩)
      | (go_loopw [3] (fun i wr => ∃ k : Nat, i = .int .i64 (k : Int) ∧ k ≤ n ∧ Ext w wr ∧ MM z k) (fun i _ => ((n : Int) - Oh i).toNat)
         case atStart => exact ⟨0, rfl, Ot, Below.refl _ _, fun m hm _ => Ot⟩
         case round =>
           obtain ⟨k, rfl, hk, hX, ha⟩ := hrel
           have HX := NW hX
           have HA := NW ha
           clear hX ha
           by_cases hlt : k < n
           · have hb : k < z.size := by omega
             obtain ⟨q1, s1⟩ : ∃ p, decide (((z[k]'hb).toNat : Int) < 48) = p := ⟨_, rfl⟩
             obtain ⟨q2, s2⟩ : ∃ p, decide (((z[k]'hb).toNat : Int) > 57) = p := ⟨_, rfl⟩
             have S1 := NW s1
             have S2 := NW s2
             cases q1 with
             | true =>
               go_wp2
               go_ret
               exact ⟨HN.out (fun h => by have := h.all k OD; have := of_decide_eq_true S1.out; omega), HX.out⟩
             | false =>
               cases q2 with
               | true =>
                 go_wp2
                 go_ret
                 exact ⟨HN.out (fun h => by have := h.all k OD; have := of_decide_eq_true S2.out; omega), HX.out⟩
               | false =>
                 have HK := NW (show MM z (k + 1) from fun m hm h => by
                   by_cases e : m = k
                   · subst e
                     have a1 := of_decide_eq_false S1.out
                     have a2 := of_decide_eq_false S2.out
                     exact ⟨Ot, Ot⟩
                   · exact HA.out m Ot h)
                 go_wp2
                 exact ⟨⟨k + 1, by go_num, Ot, HX.out, HK.out⟩, OP⟩
           · obtain rfl : k = n := by omega
             have HT := NW (HY.out (by first | exact .inl rfl | exact .inr rfl | simp) (HZ.out ▸ HA.out))
             go_wp2
             go_ret
             exact ⟨HT.out, HX.out⟩)
end
section
open Kp
def pN(v:Bool×ByteArray×ByteArray×Bool):ByteArray:=if v.1 then(⟨#[45]⟩:ByteArray)++v.2.1 else v.2.1
def pD(v:Bool×ByteArray×ByteArray×Bool):ByteArray:=if v.2.2.2 then v.2.2.1 else⟨#[49]⟩
theorem iq(z:ByteArray):(bH z).2.1.size≤z.size:=by
 have key:∀(y:ByteArray) (q:Nat) (m:Bool),y.size≤z.size→(if q<y.size then(m,y.extract 0 q,y.extract (q+1) y.size,Oc) else(m,y,(⟨#[]⟩:ByteArray),N1)).2.1.size≤z.size:=by
  intro y q m hy
  split
  ·show(y.extract 0 q).size≤z.size
   rw[ByteArray.size_extract];omega
  ·exact hy
 have h2:(if(z.data.toList.head?==N3 45)=Oc then z.extract 1 z.size else z).size≤z.size:=by
  split
  ·rw[ByteArray.size_extract];omega
  ·exact NZ _
 exact key _ _ _ h2
theorem jO(z:ByteArray)(w:NY)(hs:z.size≤1000000):Of prog 238 #[.string z] w fun x w'=>x= .returned (.tuple #[.string (pN (bH z)),.string (pD (bH z))])∧Ext w w':=by
 have KS:=NW (nw z w hs)
 have hn:=iq z
 obtain⟨⟨g,n,d,sl⟩,hv⟩:∃v,bH z=v:=⟨_,rfl⟩
 rw[hv] at KS hn
 dsimp only at hn
 rw[hv]
 clear hv
 cases g<;>cases sl
 all_goals
  go_enter func238,ntmps238
  go_wp2_with(go_at_call 233;go_must(refine KS.out.mono ?_);unfold zF;rintro e W1 ⟨rfl,hX1⟩;have HX1:=NW hX1;clear hX1)
  go_ret2
  exact⟨rfl,HX1.out⟩
end
section
open Kp
theorem lT(z:ByteArray)(w:NY)(hs:z.size≤1000001)(hp:0<z.size):Of prog 231 #[.string z] w fun x w'=>(∃k:Nat,x= .returned (.int .i64 (k:Int))∧k≤z.size∧z.size≤k+1)∧w'=w:=by
 obtain⟨p2,t2⟩:∃p,(((z[0]'hp).toNat:Int)==45)=p:=⟨_,rfl⟩
 have w1:Oe.wrap ((z.size:Int)-1)=(z.size:Int)-1:=Om _ Ot
 have e1:(z.size:Int)-1=((z.size-1:Nat):Int):=Ot
 have H1:=NW e1
 clear e1
 cases p2
 ·go_enter func231,ntmps231
  go_wp2
  go_ret
  exact⟨⟨z.size,rfl,NZ _,Ot⟩,rfl⟩
 ·go_enter func231,ntmps231
  go_wp2
  go_ret
  exact⟨⟨z.size-1,by rw[←H1.out];rfl,Ot,Ot⟩,rfl⟩
end
section
open Kp
def At(z:ByteArray)(x:Ending):Prop:=∃k:Int,x= .returned (.int .i64 k)∧(k=0→B7 z)
theorem jI (z : ByteArray) (w : NY) (hs : z.size ≤ 1000000) : Of prog 301 #[.string z] w fun x w' => At z x ∧ Ext w w' := by
  have HN := NW (show ∀ k : Int, k ≠ 0 → At z (.returned (.int .i64 k)) from fun k h => ⟨_, rfl, fun e => absurd e h⟩)
  obtain ⟨n, hn⟩ : ∃ n, z.size = n := ⟨_, rfl⟩
  by_cases h0 : n = 0
  · have hz0 : z.size = 0 := hn.trans h0
    clear hn h0
    go_enter func301, ntmps301
    go_wp2
    go_ret
    exact ⟨HN.out _ Ov, Below.refl _ _⟩
  have hp : 0 < z.size := Ot
  have hn6 : n ≤ 1000000 := Ot
  have HZ := NW hn
  obtain ⟨p1, t1⟩ : ∃ p, (((z[0]'hp).toNat : Int) == 45) = p := ⟨_, rfl⟩
  have T1 := NW t1
  cases p1 with
  | false =>
    have HY := NW (show Gf z 0 z.size → z.size - 0 ≤ 300 → At z (.returned (.int .i64 0)) from fun h1 h2 => ⟨_, rfl, fun _ => ⟨0, Ot, hp, h1, h2, ⟨fun h => absurd h Ov, fun ⟨_, h⟩ => absurd h (beq_eq_false_iff_ne.1 T1.out)⟩⟩⟩)
    obtain ⟨p2, t2⟩ : ∃ p, (((z[0]'hp).toNat : Int) == 48) = p := ⟨_, rfl⟩
    obtain ⟨p3, t3⟩ : ∃ p, decide ((n : Int) > 1) = p := ⟨_, rfl⟩
    have h00 : ((0 : Int) == (n : Int)) = N1 := beq_eq_false_iff_ne.2 Ot
    cases p2 <;> cases p3
    all_goals
      go_enter func301, ntmps301
      go_wp2
      first
        | (go_ret
           exact ⟨HN.out _ Ov, Below.refl _ _⟩)
        | (go_loopw [4] (fun i wr => ∃ k : Nat, 0 ≤ k ∧ i = .int .i64 (k : Int) ∧ k ≤ n ∧ Ext w wr ∧ Gf z 0 k) (fun i _ => ((n : Int) - Oh i).toNat)
           case atStart => exact ⟨0, NZ _, rfl, Ot, Below.refl _ _, fun m h1 h2 _ => Ot⟩
           case round =>
             obtain ⟨k, hk0, rfl, hk, hX, ha⟩ := hrel
             have HX := NW hX
             have HA := NW ha
             clear hX ha
             by_cases hlt : k < n
             · have hb : k < z.size := by omega
               obtain ⟨q1, s1⟩ : ∃ p, decide (((z[k]'hb).toNat : Int) < 48) = p := ⟨_, rfl⟩
               obtain ⟨q2, s2⟩ : ∃ p, decide (((z[k]'hb).toNat : Int) > 57) = p := ⟨_, rfl⟩
               have S1 := NW s1
               have S2 := NW s2
               cases q1 with
               | true =>
                 go_wp2
                 go_ret
                 exact ⟨HN.out _ Ov, HX.out⟩
               | false =>
                 cases q2 with
                 | true =>
                   go_wp2
                   go_ret
                   exact ⟨HN.out _ Ov, HX.out⟩
                 | false =>
                   have HK := NW (show Gf z 0 (k + 1) from fun m h0 hm h => by
                     by_cases e : m = k
                     · subst e
                       have a1 := of_decide_eq_false S1.out
                       have a2 := of_decide_eq_false S2.out
                       exact ⟨Ot, Ot⟩
                     · exact HA.out m h0 Ot h)
                   go_wp2
                   exact ⟨⟨k + 1, Ot, by go_num, Ot, HX.out, HK.out⟩, OP⟩
             · obtain rfl : k = n := by omega
               have HT := NW (HY.out (HZ.out ▸ HA.out))
               by_cases h300 : 300 < k - 0
               · have t9 : 300 < (k : Int) - 0 := by omega
                 go_wp2
                 go_ret
                 exact ⟨HN.out _ Ov, HX.out⟩
               · have t9 : ¬ 300 < (k : Int) - 0 := by omega
                 have H9 := NW h300
                 go_wp2
                 go_ret
                 exact ⟨HT.out (by have := H9.out; have := HZ.out; omega), HX.out⟩)
  | true =>
    have HY := NW (show 1 < z.size → Gf z 1 z.size → z.size - 1 ≤ 300 → At z (.returned (.int .i64 0)) from fun h0 h1 h2 => ⟨_, rfl, fun _ => ⟨1, Ot, h0, h1, h2, ⟨fun _ => ⟨hp, beq_iff_eq.1 T1.out⟩, fun _ => rfl⟩⟩⟩)
    by_cases h1 : n = 1
    · have hz1 : z.size = 1 := hn.trans h1
      clear hn h1
      go_enter func301, ntmps301
      go_wp2
      go_ret
      exact ⟨HN.out _ Ov, Below.refl _ _⟩
    have ja : 1 < z.size := Ot
    have HY := NW (HY.out ja)
    obtain ⟨p2, t2⟩ : ∃ p, (((z[1]'ja).toNat : Int) == 48) = p := ⟨_, rfl⟩
    have h00 : ((1 : Int) == (n : Int)) = N1 := beq_eq_false_iff_ne.2 Ot
    have t3 : decide ((n : Int) > 1) = Oc := decide_eq_true Ot
    clear h1
    cases p2
    all_goals
      go_enter func301, ntmps301
      go_wp2
      first
        | (go_ret
           exact ⟨HN.out _ Ov, Below.refl _ _⟩)
        | (go_loopw [4] (fun i wr => ∃ k : Nat, 1 ≤ k ∧ i = .int .i64 (k : Int) ∧ k ≤ n ∧ Ext w wr ∧ Gf z 1 k) (fun i _ => ((n : Int) - Oh i).toNat)
           case atStart => exact ⟨1, NZ _, rfl, Ot, Below.refl _ _, fun m h1 h2 _ => Ot⟩
           case round =>
             obtain ⟨k, hk0, rfl, hk, hX, ha⟩ := hrel
             have HX := NW hX
             have HA := NW ha
             clear hX ha
             by_cases hlt : k < n
             · have hb : k < z.size := by omega
               obtain ⟨q1, s1⟩ : ∃ p, decide (((z[k]'hb).toNat : Int) < 48) = p := ⟨_, rfl⟩
               obtain ⟨q2, s2⟩ : ∃ p, decide (((z[k]'hb).toNat : Int) > 57) = p := ⟨_, rfl⟩
               have S1 := NW s1
               have S2 := NW s2
               cases q1 with
               | true =>
                 go_wp2
                 go_ret
                 exact ⟨HN.out _ Ov, HX.out⟩
               | false =>
                 cases q2 with
                 | true =>
                   go_wp2
                   go_ret
                   exact ⟨HN.out _ Ov, HX.out⟩
                 | false =>
                   have HK := NW (show Gf z 1 (k + 1) from fun m h0 hm h => by
                     by_cases e : m = k
                     · subst e
                       have a1 := of_decide_eq_false S1.out
                       have a2 := of_decide_eq_false S2.out
                       exact ⟨Ot, Ot⟩
                     · exact HA.out m h0 Ot h)
                   go_wp2
                   exact ⟨⟨k + 1, Ot, by go_num, Ot, HX.out, HK.out⟩, OP⟩
             · obtain rfl : k = n := by omega
               have HT := NW (HY.out (HZ.out ▸ HA.out))
               by_cases h300 : 300 < k - 1
               · have t9 : 300 < (k : Int) - 1 := by omega
                 go_wp2
                 go_ret
                 exact ⟨HN.out _ Ov, HX.out⟩
               · have t9 : ¬ 300 < (k : Int) - 1 := by omega
                 have H9 := NW h300
                 go_wp2
                 go_ret
                 exact ⟨HT.out (by have := H9.out; have := HZ.out; omega), HX.out⟩)
end
end Go.Proofs.YtnpihidbkhehjaaGreatDoor
