/- ChangeOnly of kingpostlaw58: part 16 of its proof (merged and shortened by program). -/
import Derived.Test.YtnpihidbkhehjaaGreatDoorM14
set_option linter.unusedVariables false
set_option linter.unusedSimpArgs false
set_option linter.defProp false
set_option maxHeartbeats 8000000
set_option maxRecDepth 100000
open Go.RowKit Go.Shelf Go.Proofs.Tryz
open Array renaming getElem?_eq_some_iff→Od
open Bool renaming false→N1,true→Oc
open Go renaming World→NY,Value→N2,undef→N7,wpOp_step→Ob,Calls→Of,maxLen→Ol,TypeId→Oo
open Go.AllReady renaming cons→Oj,nil→Oq
open Go.IntKind renaming i64→Oe
open Go.IntWalk renaming i64_in→Om
open Go.Lib renaming hid→NW
open Go.RowKit renaming intOf→Oh,Below→On
open Go.World renaming size_alloc→Oi
open List renaming getD_eq_getElem?_getD→N8,length_map→N9,getElem?_eq_getElem→Oa
open Nat renaming le_refl→NZ,mul_comm→Og,le_trans→Ok
open Option renaming none→N0,some→N3
open Go.Proofs.YtnpihidbkhehjaaGreatDoor
namespace Go.Proofs.YtnpihidbkhehjaaGreatDoor
section
open Kp
attribute [local go_sem] Oper.semAt_some
def kH(r:List Sd)(j:Nat):Bool:=dt (fun i=> !(az r i).gable) j
def iG(rs:List (List Sd))(k:Nat):Bool:=dt (fun m=>kH (rs.getD m []) (rs.getD m []).length) k
structure Nz(w:NY)(A:Option Addr)(cap:Nat)(rs:List (List Sd))(k:Nat)(W:NY):Prop where
 res:Bx W w.heap.size 4 (.bool N1)
 sm:Bx W (w.heap.size+1) 4 (.bool (iG rs k))
 rg:dR W w.heap.size A cap rs
 low:On w.heap.size w W
 ok:∀j,j<k→dt (qL (rs.getD j [])) (rs.getD j []).length=N1
structure Hm(w:NY)(it:Nat)(ds:List Deferred)(Ai:Option Addr)(ci:Nat)(ring:List Sd)(pv:Bool)(j:Nat)(W:NY):Prop where
 res:Bx W w.heap.size 4 (.bool N1)
 sm:Bx W (w.heap.size+1) 4 (.bool (pv||kH ring j))
 it:Bx W it 73 (.slice Ai ring.length ci)
 sl:bC 7 W w.heap.size Ai ci (ak ring)
 mks:Mk w.heap.size ds W
 low:On w.heap.size w W
 ok:∀i,i<j→qL ring i=N1
theorem Hm.stays{w w1:NY}{it:Nat}{ds:List Deferred}{Ai:Option Addr}{ci:Nat}{ring:List Sd}{pv:Bool}{j:Nat}{W W':NY}(h:Hm w it ds Ai ci ring pv j W)(hw:∀D,Gj D∈ds→D<w1.heap.size)(hs:al w1.heap.size W W')(hn:w.heap.size≤w1.heap.size):Hm w it ds Ai ci ring pv j W':=
 ⟨h.res.stays hs,h.sm.stays hs,h.it.stays hs,h.sl.stays (cL ring) hs,h.mks.stays hw hs,h.low.trans (hs.below.mono hn),h.ok⟩
structure KY(w:NY)(ds:List Deferred)(ring:List Sd)(c:Code)(j:Nat)(W:NY):Prop where
 ret:c= .ret
 res:Bx W w.heap.size 4 (.bool N1)
 mks:Mk w.heap.size ds W
 low:On w.heap.size w W
 bad:qL ring j=Oc
theorem KY.stays{w w1:NY}{ds:List Deferred}{ring:List Sd}{c:Code}{j:Nat}{W W':NY}(h:KY w ds ring c j W)(hw:∀D,Gj D∈ds→D<w1.heap.size)(hs:al w1.heap.size W W')(hn:w.heap.size≤w1.heap.size):KY w ds ring c j W':=
 ⟨h.ret,h.res.stays hs,h.mks.stays hw hs,h.low.trans (hs.below.mono hn),h.bad⟩
theorem Ji{w:NY}{it:Nat}{ds:List Deferred}{Ai:Option Addr}{ci:Nat}{ring:List Sd}{pv:Bool}{j:Nat}{W2 W3:NY}{v:Bool}(h:Hm w it ds Ai ci ring pv j W2)(hx:Ext (W2.setCell ⟨w.heap.size+1,0,N0⟩ (.bool v)) W3)(hit:it≠w.heap.size+1):
  Bx W3 w.heap.size 4 (.bool N1)∧Bx W3 (w.heap.size+1) 4 (.bool v)∧Bx W3 it 73 (.slice Ai ring.length ci)∧bC 7 W3 w.heap.size Ai ci (ak ring)∧Mk w.heap.size ds W3∧On w.heap.size w W3∧KeepsOthers W2 W3:=by
 have hb:On w.heap.size W2 (W2.setCell ⟨w.heap.size+1,0,N0⟩ (.bool v)):=(Below.refl _ _).setCell (p:=⟨w.heap.size+1,0,N0⟩) Ow _
 have hz:=h.low.size
 have hb2:On w.heap.size W2 W3:=hb.trans (hx.mono (by simpa[World.setCell] using hz))
 have hk:KeepsOthers W2 W3:=(KeepsOthers.setCell _ _ _).trans hx.keeps
 have hs:=hx.stays (n0:=0) (Nat.zero_le _)
 exact⟨(h.res.cI Ow _).stays hs,(h.sm.put _).stays hs,(h.it.cI (by simpa using hit) _).stays hs,h.sl.below hb2,h.mks.keeps hk,h.low.trans hb2,hk⟩
theorem Ig{w:NY}{it:Nat}{ds:List Deferred}{Ai:Option Addr}{ci:Nat}{ring:List Sd}{pv:Bool}{j:Nat}{W2 W3:NY}{v:Bool}{a:Act}(h:Hm w it ds Ai ci ring pv j W2)(hx:Ext (W2.setCell ⟨w.heap.size+1,0,N0⟩ (.bool v)) W3)(hit:it≠w.heap.size+1)(hv:(pv||kH ring (j+1))=v)(hb:qL ring j=N1):
  iV (Hm w it ds Ai ci ring pv) (KY w ds ring) j W2 .normal a W3:=by
 obtain⟨h1,h2,h3,h4,h5,h6,h7⟩:=Ji h hx hit
 refine⟨h7,h1,by rw[hv];exact h2,h3,h4,h5,h6,fun i hi=> ?_⟩
 by_cases hij:i=j
 ·rw[hij];exact hb
 ·exact h.ok i Ot
theorem Iv{w:NY}{it:Nat}{ds:List Deferred}{Ai:Option Addr}{ci:Nat}{ring:List Sd}{pv:Bool}{j:Nat}{W2 W3:NY}{v:Bool}{a:Act}(h:Hm w it ds Ai ci ring pv j W2)(hx:Ext (W2.setCell ⟨w.heap.size+1,0,N0⟩ (.bool v)) W3)(hit:it≠w.heap.size+1)(hb:qL ring j=Oc):
  iV (Hm w it ds Ai ci ring pv) (KY w ds ring) j W2 .ret a (W3.setCell ⟨w.heap.size,0,N0⟩ (.bool N1)):=by
 obtain⟨h1,h2,h3,h4,h5,h6,h7⟩:=Ji h hx hit
 exact⟨h7.trans (KeepsOthers.setCell _ _ _),rfl,h1.put _,h5.keeps (KeepsOthers.setCell _ _ _),h6.setCell (p:=⟨w.heap.size,0,N0⟩) (NZ _) _,hb⟩
theorem vG (w : NY) (A : Option Addr) (cap : Nat) (rs : List (List Sd)) (hr : dR w w.heap.size A cap rs) (hok : wk rs) :
    Of prog 92 #[.slice A rs.length cap] w fun e w' => e = .returned (.bool (fN rs)) ∧ Ext w w' := by
  have h1 := hr.1
  have h2 := hr.2.1
  unfold Ol at h2
  have hcnt := hok.count
  refine (callsIn_wide (n := 9)).1 (callsIn_of_wp_marks func92 rfl trivial ?_)
  simp only [ntmps92, List.size_toArray, List.length_cons, List.length_nil, Nat.reduceAdd, Nat.reduceSub, Array.replicate_succ, Array.replicate_zero, List.push_toArray, List.append_toArray, List.nil_append, List.cons_append]
  gi_wp2
  refine wpIn_loop (fun a W => ∃ (u : Nat → N2) (k : Nat) (ds : List Deferred), k ≤ rs.length ∧ a = ⟨#[.slice A rs.length cap, u 1, .pointer (N3 ⟨w.heap.size, 0, N0⟩), .pointer (N3 ⟨w.heap.size + 1, 0, N0⟩), u 4, u 5, u 6, u 7, .slice A rs.length cap, .int .i64 (rs.length : Int), .int .i64 (k : Int), u 11, u 12, u 13, u 14, u 15, u 16, u 17, u 18, u 19, u 20, u 21, u 22, u 23, u 24, u 25, u 26, u 27, u 28, u 29, u 30, u 31, u 32, u 33, u 34, u 35, u 36, u 37, u 38, u 39, u 40, u 41, u 42, u 43, u 44, u 45, u 46, u 47, u 48], ds⟩ ∧ Nz w A cap rs k W ∧ Mk w.heap.size ds W)
    (fun a _ => ((rs.length : Int) - Oh (a.tmps.getD 10 N7)).toNat) ?start ?round
  case start =>
    exact ⟨fun _ => N7, 0, [], Ot, rfl, ⟨(Bx.at_ rfl).alloc _, Bx.at_ Ow, hr.below (dI _ _ _), dI _ _ _, fun j hj => Ot⟩, Mk.nil _ _⟩
  case round =>
    rintro a W ⟨u, k, ds, hk, rfl, hJ, hM⟩
    by_cases hlt : k < rs.length
    · obtain ⟨b, off, rfl, hB, hcell⟩ := hJ.rg.2.2 Ot
      obtain ⟨Ai, ci, hc1, hsl⟩ := hcell k hlt
      obtain ⟨hne, hco, hlen⟩ := hok.ring hlt
      obtain ⟨ring, hring⟩ : ∃ ring, rs.getD k [] = ring := ⟨_, rfl⟩
      rw [hring] at hc1 hsl hne hco hlen
      have HRG := NW hring
      have HJ := NW hJ
      have HM := NW hM
      clear hring hcell hJ hM
      gi_wp2_with (refine ⟨trivial, ?_⟩; gi_at_call 150; refine (callsIn_wide.2 (gW _ _ _ _)).mono ?_; rintro e w' ⟨rfl, rfl⟩)
      have hzW := HJ.out.sm.lt
      have hds : ∀ D, Gj D ∈ ds → D < (W.alloc (.cells #[.slice Ai ring.length ci] 73)).heap.size := fun D hD => by have := HM.out.lt hD; simp; omega
      have hlw : w.heap.size ≤ (W.alloc (.cells #[.slice Ai ring.length ci] 73)).heap.size := OK
      refine er (gf := 200) (lb := #[.pointer (N3 ⟨W.heap.size, 0, N0⟩)]) rfl (enters_of func200 Ou rfl)
        (fR W.heap.size Ai ci ring Ot) (fun k x e => by rw [e]; rfl)
        (Hm w W.heap.size ds Ai ci ring (iG rs k)) (KY w ds ring) (fun j V V' h hs => h.stays hds hs hlw) (fun c j V V' h hs => h.stays hds hs hlw) (fun j V h => oM h.it h.sl) ?start ?round ?done ?stop
      case start =>
        have hA : Ext W (W.alloc (.cells #[.slice Ai ring.length ci] 73)) := (Below.refl _ _).alloc (NZ _) _
        exact ⟨HJ.out.res.alloc _, by rw [show (iG rs k || kH ring 0) = iG rs k by unfold kH dt; simp]; exact HJ.out.sm.alloc _, Bx.at_ rfl, hsl.below (hA.mono Ot), HM.out.keeps hA.keeps, HJ.out.low.trans (hA.mono Ot), fun i hi => Ot⟩
      case done =>
        intro D V hD hi hK
        have hmk := NW (hi.mks.cons hds hD Ot hK)
        have HI := NW hi
        clear hi hK
        gi_wp2
        refine ⟨⟨fun i => match i with | 1 => _ | 4 => _ | 5 => _ | 6 => _ | 7 => _ | 11 => _ | 12 => _ | 13 => _ | 14 => _ | 15 => _ | 16 => _ | 17 => _ | 18 => _ | 19 => _ | 20 => _ | 21 => _ | 22 => _ | 23 => _ | 24 => _ | 25 => _ | 26 => _ | 27 => _ | 28 => _ | 29 => _ | 30 => _ | 31 => _ | 32 => _ | 33 => _ | 34 => _ | 35 => _ | 36 => _ | 37 => _ | 38 => _ | 39 => _ | 40 => _ | 41 => _ | 42 => _ | 43 => _ | 44 => _ | 45 => _ | 46 => _ | 47 => _ | _ => _, k + 1, _, Ot, rfl, ⟨HI.out.res, ?_, ?_, HI.out.low, ?_⟩, hmk.out⟩, OP⟩
        · have e : iG rs (k + 1) = (iG rs k || kH ring ring.length) := by unfold iG; rw [dt, HRG.out]
          rw [e]; exact HI.out.sm
        · exact hr.below HI.out.low
        · intro j hj
          by_cases hjk : j = k
          · rw [hjk, HRG.out]; exact dJ HI.out.ok
          · exact HJ.out.ok j Ot
      case stop =>
        rintro D c j V hD hj ⟨rfl, hres, hmks, hlow, hbad⟩ hK
        have HA := NW (show fN rs = N1 by
          unfold fN
          rw [eX hlt (by rw [HRG.out]; exact eX hj hbad)]; rfl)
        gi_wp2
        refine (hmks.cons hds hD Ot hK).leaves (fun W' hW' => ?_)
        have hb := (hres.stays hW').cell
        exact ⟨.bool N1, by simp [results, results92, go_sem, hb], by rw [HA.out], hlow.trans hW'.below⟩
      case round =>
        intro l j x V K hj hx hi hK
        obtain rfl := hx
        have HK := NW hK
        have RA := NW (af.new V 190 (fZ (dL ring j) (az ring j) (bj ring j)))
        have EA := NW (show Ext V (V.alloc (.cells (fZ (dL ring j) (az ring j) (bj ring j)).toArray 190)) from (Below.refl _ _).alloc (NZ _) _)
        have hzv : (W.alloc (.cells #[.slice Ai ring.length ci] 73)).heap.size ≤ V.heap.size := by have := hi.it.lt; simp; omega
        have HI := NW hi
        clear hK hi
        refine bQ (aJ _ _) Ou ?_
        go_wp2_with (refine wpList_store_row rfl 190 (.tmp 7) (.tmp 17) rfl V.heap.size (fZ (dL ring j) (az ring j) (bj ring j)).toArray rfl rfl 190 _ (NY.alloc_heap_new _ _) Ou Ou Ou ?_; rw [eh _ _ _ _ rfl])
        refine bR (HK.out _ _ EA.out (fun W2 hs2 hlt2 => ?_))
        have hi2 := (HI.out.stays hds (EA.out.stays hzv) hlw).stays hds hs2 hlw
        have R2 : af W2 V.heap.size 190 (fZ (dL ring j) (az ring j) (bj ring j)) := hs2.cells _ _ _ _ RA.out
        have hVl := HI.out.it.lt
        clear HK HI EA RA hs2
        obtain ⟨hpx, hpy⟩ := gy hco ((j + ring.length - 1) % ring.length)
        obtain ⟨hox, hoy⟩ := gy hco j
        obtain ⟨hbx, hby⟩ := gy hco ((j + 1) % ring.length)
        rw [← j6] at hbx hby
        rw [← AP] at hpx hpy
        obtain ⟨own, hown⟩ : ∃ o, az ring j = o := ⟨_, rfl⟩
        obtain ⟨beh, hbeh⟩ : ∃ o, bj ring j = o := ⟨_, rfl⟩
        obtain ⟨bef, hbef⟩ : ∃ o, dL ring j = o := ⟨_, rfl⟩
        have HO := NW (show qL ring j = (!decide (0 < (own.x - bef.x) * (beh.y - own.y) - (own.y - bef.y) * (beh.x - own.x)) && (own.gable || bef.gable || own.plate != bef.plate)) by unfold qL Jk Gx LR zg Hy; rw [hown, hbeh, hbef])
        have HS := NW (show (iG rs k || kH ring (j + 1)) = ((iG rs k || kH ring j) || !own.gable) by unfold kH; rw [dt, hown, Bool.or_assoc])
        rw [hown] at hox hoy
        rw [hbeh] at hbx hby
        rw [hbef] at hpx hpy
        rw [hown, hbeh, hbef] at R2
        rw [hown, hbeh, hbef]
        have I2 := NW hi2
        obtain ⟨sv, hsv⟩ : ∃ sv, (iG rs k || kH ring j) = sv := ⟨_, rfl⟩
        rw [hsv] at HS
        have S2 := hi2.sm
        rw [hsv] at S2
        have cS := S2.cell
        have fS := S2.frozen
        have cA := fun i => R2.cell i
        have n1 : ¬ V.heap.size = w.heap.size + 1 := Ot
        have n2 : ¬ w.heap.size + 1 = V.heap.size := Ot
        have cl := NW (fun W => BH bef own beh W hpx hpy hox hoy hbx hby)
        obtain ⟨lf, hlf⟩ : ∃ lf, decide (0 < (own.x - bef.x) * (beh.y - own.y) - (own.y - bef.y) * (beh.x - own.x)) = lf := ⟨_, rfl⟩
        rw [hlf] at HO
        simp only [hlf] at cl
        clear hi2 hsv hlf
        obtain ⟨g, hg⟩ : ∃ g, own.gable = g := ⟨_, rfl⟩
        obtain ⟨bg, hbg⟩ : ∃ g, bef.gable = g := ⟨_, rfl⟩
        obtain ⟨pl, hpl⟩ : ∃ g, (own.plate != bef.plate) = g := ⟨_, rfl⟩
        rw [hg, hbg, hpl] at HO
        rw [hg] at HS
        have RF := NW (fun v => R2.cI (p := ⟨w.heap.size + 1, 0, N0⟩) n2 v)
        have hit : W.heap.size ≠ w.heap.size + 1 := Ot
        cases lf <;> cases g <;> cases bg <;> cases pl <;> cases sv
        all_goals first
          | (have HP := NW (show qL ring j = N1 by rw [HO.out]; rfl)
             gi_wp2_with (first
               | (refine aZ (aJ _ _) rfl 190 (.tmp 7) rfl V.heap.size rfl 190 _ (0, 0) _ (RF.out _) underlying190 rfl Ou ?_)
               | (refine ⟨trivial, ?_⟩; gi_at_call 158; refine (CallsIn.inRound l (callsIn_wide.2 (cl.out _))).mono ?_; rintro e W3 ⟨rfl, hX3⟩; have cA3 := fun i => ((RF.out _).ext hX3).cell i; have RS := (I2.out.res.cI (p := ⟨w.heap.size + 1, 0, N0⟩) Ow _).stays (hX3.stays (n0 := 0) (Nat.zero_le _)); have c0 := RS.cell; have f0 := RS.frozen))
             exact Ig I2.out hX3 hit HS.out HP.out)
          | (have HP := NW (show qL ring j = Oc by rw [HO.out]; rfl)
             gi_wp2_with (first
               | (refine aZ (aJ _ _) rfl 190 (.tmp 7) rfl V.heap.size rfl 190 _ (0, 0) _ (RF.out _) underlying190 rfl Ou ?_)
               | (refine ⟨trivial, ?_⟩; gi_at_call 158; refine (CallsIn.inRound l (callsIn_wide.2 (cl.out _))).mono ?_; rintro e W3 ⟨rfl, hX3⟩; have cA3 := fun i => ((RF.out _).ext hX3).cell i; have RS := (I2.out.res.cI (p := ⟨w.heap.size + 1, 0, N0⟩) Ow _).stays (hX3.stays (n0 := 0) (Nat.zero_le _)); have c0 := RS.cell; have f0 := RS.frozen))
             exact Iv I2.out hX3 hit HP.out)
    · have hlt' : decide ((k : Int) < (rs.length : Int)) = N1 := by rw [decide_eq_false_iff_not]; omega
      have c1 := hJ.sm.cell
      have c0 := hJ.res.cell
      have f0 := hJ.res.frozen
      have HJ := NW hJ
      have HM := NW hM
      clear hJ hM
      have HE := NW (show fN rs = iG rs k by
        unfold fN
        obtain rfl : k = rs.length := Ot
        rw [dJ HJ.out.ok]; rfl)
      gi_wp2
      refine (HM.out.keeps (KeepsOthers.setCell _ _ _)).leaves (fun W' hW' => ?_)
      have hb := ((HJ.out.res.put (.bool (iG rs k))).stays hW').cell
      exact ⟨.bool (iG rs k), by simp [results, results92, go_sem, hb], by rw [HE.out], (HJ.out.low.setCell (p := ⟨w.heap.size, 0, N0⟩) (NZ _) _).trans hW'.below⟩
end
end Go.Proofs.YtnpihidbkhehjaaGreatDoor
