/- ChangeOnly of kingpostlaw58: part 17 of its proof (merged and shortened by program). -/
import Derived.Test.YtnpihidbkhehjaaGreatDoorM15
import Derived.Test.YtnpihidbkhehjaaGreatDoorM16
set_option linter.unusedVariables false
set_option linter.unusedSimpArgs false
set_option linter.defProp false
set_option maxHeartbeats 8000000
set_option maxRecDepth 100000
open Go.RowKit Go.Shelf Go.Proofs.Tryz
open Array renaming getElem?_eq_some_iff→Od
open Bool renaming false→N1,true→Oc
open Go renaming World→NY,Value→N2,undef→N7,wpOp_step→Ob,Calls→Of,maxLen→Ol,TypeId→Oo
open Go.AllReady renaming cons→Oj,nil→Oq
open Go.IntKind renaming i64→Oe
open Go.IntWalk renaming i64_in→Om
open Go.Lib renaming hid→NW
open Go.RowKit renaming intOf→Oh,Below→On
open Go.World renaming size_alloc→Oi
open List renaming getD_eq_getElem?_getD→N8,length_map→N9,getElem?_eq_getElem→Oa
open Nat renaming le_refl→NZ,mul_comm→Og,le_trans→Ok
open Option renaming none→N0,some→N3
open Go.Proofs.YtnpihidbkhehjaaGreatDoor
namespace Go.Proofs.YtnpihidbkhehjaaGreatDoor
section
open Kp
theorem BQ{w W:NY}{a b:Nat}(h:Ext ((w.drewN a).drewN b) W):Ext w W:=
 (below_drewN (below_drewN (Below.refl w.heap.size w) a) b).trans h
theorem bP{P:Program}{Q:Exit→Act→NY→Prop}{ol:List Oper}{id:Nat}{a:Act}{w:NY}(n:Nat)(hm:P.follows .mixedOrders=Oc)(hB:Region.lexTailB .any ol.toArray n=Oc)
  (h:∀w2,Ext w w2→wpStill P ol.toArray w2 (fun a'=>wpList P ol.toArray Q (ol.drop n) a' w2) (ol.take n) a):(Code.region id ol.toArray Oc).wp P Q a w:=
 wp_region_still_tail n hm hB (h _ (Ext.dr w))
theorem yV{w W:NY}{o:Obj}(h:Ext (w.alloc o) W):Ext w W:=((Below.refl _ _).alloc (NZ _) o).trans (h.mono Ow)
theorem ix{P:Program}{ops:Array Oper}{w:NY}{Q:Act→Prop}{l:List Oper}{a:Act}(h:∀OPS:Array Oper,OPS=ops→wpStill P OPS w Q l a):wpStill P ops w Q l a:=h ops rfl
theorem rm{OPS:Array Oper}{tmps:Array N2}{o:Oper}{j d:Nat}{b x:Bool}(hg:o.guard=N3 (j,b))(hd:(OPS[j]?).bind (·.dst)=N3 d)(ht:tmps[d]?=N3 (.bool x)):Region.wanted o (yielded OPS tmps)=(x==b):=by
 unfold Region.wanted
 rw[hg]
 have hy:yielded OPS tmps j=N3 x:=by unfold yielded;rw[hd];simp[ht]
 simp[hy]
theorem gH{OPS:Array Oper}{tmps:Array N2}{o:Oper}{j d:Nat}{b x:Bool}(hg:o.guard=N3 (j,b))(hd:(OPS[j]?).bind (·.dst)=N3 d)(ht:tmps[d]?=N3 (.bool x))(hx:(x==b)=N1):¬Region.wanted o (yielded OPS tmps)=Oc:=by
 rw[rm hg hd ht,hx];decide
theorem fx{OPS:Array Oper}{tmps:Array N2}{o:Oper}{j d:Nat}{b x:Bool}(hg:o.guard=N3 (j,b))(hd:(OPS[j]?).bind (·.dst)=N3 d)(ht:tmps[d]?=N3 (.bool x))(hx:(x==b)=Oc):Region.wanted o (yielded OPS tmps)=Oc:=by
 rw[rm hg hd ht,hx]
end
section
open Kp
attribute [local go_sem] Oper.semAt_some
theorem tE (w : NY) (A : Option Addr) (cap : Nat) (rs : List (List Sd)) (hr : dR w w.heap.size A cap rs) (hok : wk rs) :
    Of prog 90 #[.slice A rs.length cap] w fun e w' => e = .returned (.bool (eB rs)) ∧ Ext w w' := by
  have h1 := hr.1
  have h2 := hr.2.1
  unfold Ol at h2
  have hcnt := hok.count
  refine (callsIn_wide (n := 9)).1 (callsIn_of_wp_marks func90 rfl trivial ?_)
  simp only [ntmps90, List.size_toArray, List.length_cons, List.length_nil, Nat.reduceAdd, Nat.reduceSub, Array.replicate_succ, Array.replicate_zero, List.push_toArray, List.append_toArray, List.nil_append, List.cons_append]
  gi_wp2
  refine wpIn_loop (fun a W => ∃ (u : Nat → N2) (k : Nat) (ds : List Deferred), k ≤ rs.length ∧ a = ⟨#[.slice A rs.length cap, u 1, .bool N1, .pointer (N3 ⟨w.heap.size, 0, N0⟩), .pointer (N3 ⟨w.heap.size + 1, 0, N0⟩), u 5, u 6, u 7, u 8, u 9, u 10, u 11, u 12, u 13, .slice A rs.length cap, .int .i64 (rs.length : Int), .int .i64 (k : Int), u 17, u 18, u 19, u 20, u 21, u 22, u 23, u 24, u 25, u 26, u 27, u 28, u 29, u 30, u 31, u 32, u 33, u 34, u 35, u 36, u 37, u 38, u 39, u 40, u 41, u 42, u 43, u 44, u 45, u 46, u 47, u 48, u 49, u 50, u 51, u 52, u 53, u 54, u 55, u 56, u 57, u 58, u 59, u 60, u 61, u 62, u 63, u 64, u 65, u 66, u 67, u 68, u 69, u 70, u 71, u 72, u 73, u 74, u 75, u 76, u 77, u 78, u 79, u 80, u 81, u 82, u 83, u 84, u 85, u 86, u 87, u 88, u 89, u 90, u 91, u 92, u 93, u 94, u 95, u 96, u 97, u 98, u 99, u 100, u 101], ds⟩ ∧ NJ w A cap rs k W ∧ Mk w.heap.size ds W)
    (fun a _ => ((rs.length : Int) - Oh (a.tmps.getD 16 N7)).toNat) ?start ?round
  case start =>
    exact ⟨fun _ => N7, 0, [], Ot, rfl, ⟨⟨cD, cD, (Bx.at_ rfl).alloc _, Bx.at_ Ow, World.ownsRow_nil _ _ _ _, World.ownsRow_nil _ _ _ _⟩, hr.below (dI _ _ _), dI _ _ _⟩, Mk.nil _ _⟩
  case round =>
    rintro a W ⟨u, k, ds, hk, rfl, hJ, hM⟩
    by_cases hlt : k < rs.length
    · obtain ⟨b, off, rfl, hB, hcell⟩ := hJ.rg.2.2 Ot
      obtain ⟨Ai, ci, hc1, hsl⟩ := hcell k hlt
      obtain ⟨hne, hco, hlen⟩ := hok.ring hlt
      obtain ⟨ring, hring⟩ : ∃ ring, rs.getD k [] = ring := ⟨_, rfl⟩
      rw [hring] at hc1 hsl hne hco hlen
      have HRG := NW hring
      have HJ := NW hJ
      have HM := NW hM
      clear hring hcell hJ hM
      gi_wp2_with (refine ⟨trivial, ?_⟩; gi_at_call 150; refine (callsIn_wide.2 (gW _ _ _ _)).mono ?_; rintro e w' ⟨rfl, rfl⟩)
      have hzW := HJ.out.low.size
      obtain ⟨X0, Y0, hXY⟩ := HJ.out.ex
      have hz2 := hXY.bp.lt
      obtain ⟨W1, hW1⟩ : ∃ W1, (W.alloc (.cells #[.int .i64 (k : Int)] 3)).alloc (.cells #[.slice Ai ring.length ci] 73) = W1 := ⟨_, rfl⟩
      have hA : Ext W W1 := by rw [← hW1]; exact dI _ _ _
      have hsz : W1.heap.size = W.heap.size + 2 := by rw [← hW1]; simp
      have hBr : Bx W1 W.heap.size 3 (.int .i64 (k : Int)) := by rw [← hW1]; exact (Bx.at_ rfl).alloc _
      have hBi : Bx W1 (W.heap.size + 1) 73 (.slice Ai ring.length ci) := by rw [← hW1]; exact Bx.at_ Ow
      rw [hW1]
      clear hW1
      have hds : ∀ D, Gj D ∈ ds → D < W1.heap.size := fun D hD => by have := HM.out.lt hD; omega
      have hlw : w.heap.size ≤ W1.heap.size := Ot
      refine er (gf := 200) (lb := #[.pointer (N3 ⟨W.heap.size + 1, 0, N0⟩)]) rfl (enters_of func200 Ou rfl)
        (fR (W.heap.size + 1) Ai ci ring Ot) (fun k x e => by rw [e]; rfl)
        (MG w (W.heap.size + 1) W.heap.size k ds Ai ci (jE rs k) ring) (fun _ _ _ => False) (fun j V V' h hs => h.stays hds hs hlw) (fun c j V V' h hs => h) (fun j V h => oM h.it h.sl) ?start ?round ?done ?stop
      case stop => intro D c j V hD hj h; exact h.elim
      case start =>
        exact ⟨⟨X0, Y0, by rw [show gR k ring 0 = [] from rfl, List.append_nil]; exact hXY.ext hA⟩, hBr, hBi, hsl.below (hA.mono Ot), HM.out.keeps hA.keeps, HJ.out.low.trans (hA.mono Ot)⟩
      case done =>
        intro D V hD hi hK
        have hmk := NW (hi.mks.cons hds hD Ot hK)
        have HI := NW hi
        clear hi hK
        gi_wp2
        refine ⟨⟨fun i => match i with | 1 => _ | 5 => _ | 6 => _ | 7 => _ | 8 => _ | 9 => _ | 10 => _ | 11 => _ | 12 => _ | 13 => _ | 17 => _ | 18 => _ | 19 => _ | 20 => _ | 21 => _ | 22 => _ | 23 => _ | 24 => _ | 25 => _ | 26 => _ | 27 => _ | 28 => _ | 29 => _ | 30 => _ | 31 => _ | 32 => _ | 33 => _ | 34 => _ | 35 => _ | 36 => _ | 37 => _ | 38 => _ | 39 => _ | 40 => _ | 41 => _ | 42 => _ | 43 => _ | 44 => _ | 45 => _ | 46 => _ | 47 => _ | 48 => _ | 49 => _ | 50 => _ | 51 => _ | 52 => _ | 53 => _ | 54 => _ | 55 => _ | 56 => _ | 57 => _ | 58 => _ | 59 => _ | 60 => _ | 61 => _ | 62 => _ | 63 => _ | 64 => _ | 65 => _ | 66 => _ | 67 => _ | 68 => _ | 69 => _ | 70 => _ | 71 => _ | 72 => _ | 73 => _ | 74 => _ | 75 => _ | 76 => _ | 77 => _ | 78 => _ | 79 => _ | 80 => _ | 81 => _ | 82 => _ | 83 => _ | 84 => _ | 85 => _ | 86 => _ | 87 => _ | 88 => _ | 89 => _ | 90 => _ | 91 => _ | 92 => _ | 93 => _ | 94 => _ | 95 => _ | 96 => _ | 97 => _ | 98 => _ | 99 => _ | 100 => _ | _ => _, k + 1, _, Ot, rfl, ⟨?_, hr.below HI.out.low, HI.out.low⟩, hmk.out⟩, OP⟩
        have e : jE rs (k + 1) = jE rs k ++ gR k ring ring.length := by rw [jE, HRG.out]
        rw [e]; exact HI.out.ex
      case round =>
        intro l j x V K hj hx hi hK
        obtain rfl := hx
        have HK := NW hK
        have RA := NW (af.new V 190 (fZ (dL ring j) (az ring j) (bj ring j)))
        have EA := NW (show Ext V (V.alloc (.cells (fZ (dL ring j) (az ring j) (bj ring j)).toArray 190)) from (Below.refl _ _).alloc (NZ _) _)
        have hzv : W1.heap.size ≤ V.heap.size := by have := hi.it.lt; omega
        have HI := NW hi
        clear hK hi
        refine wpIn_seq ?_
        refine bQ (aJ _ _) Ou ?_
        go_wp2
        refine bR ?_
        show Code.wpIn _ _ _ _ _ _ _
        refine bQ (aJ _ _) Ou ?_
        go_wp2_with (refine wpList_store_row rfl 190 (.tmp 8) (.tmp 24) rfl V.heap.size (fZ (dL ring j) (az ring j) (bj ring j)).toArray rfl rfl 190 _ (NY.alloc_heap_new _ _) Ou Ou Ou ?_; rw [eh _ _ _ _ rfl])
        refine bR (HK.out _ _ EA.out (fun W2 hs2 hlt2 => ?_))
        have hi2 := (HI.out.stays hds (EA.out.stays hzv) hlw).stays hds hs2 hlw
        have R2 : af W2 V.heap.size 190 (fZ (dL ring j) (az ring j) (bj ring j)) := hs2.cells _ _ _ _ RA.out
        clear HK HI EA RA hs2
        obtain ⟨own, hown⟩ : ∃ o, az ring j = o := ⟨_, rfl⟩
        obtain ⟨beh, hbeh⟩ : ∃ o, bj ring j = o := ⟨_, rfl⟩
        obtain ⟨bef, hbef⟩ : ∃ o, dL ring j = o := ⟨_, rfl⟩
        have HBX := NW (show yF ring j = ⟨min own.x beh.x, min own.y beh.y, max own.x beh.x, max own.y beh.y⟩ by unfold yF; rw [hown, hbeh])
        rw [hown, hbeh, hbef] at R2
        rw [hown, hbeh, hbef]
        clear hown hbeh hbef
        obtain ⟨bx, hbx⟩ : ∃ bx : lN, (⟨min own.x beh.x, min own.y beh.y, max own.x beh.x, max own.y beh.y⟩ : lN) = bx := ⟨_, rfl⟩
        rw [hbx] at HBX
        have cbx := fun W => Ch bef own beh W
        simp only [hbx] at cbx
        have CBX := NW cbx
        clear hbx cbx
        obtain ⟨X, Y, hXY2⟩ := hi2.ex
        have hI0 : Bw w.heap.size (W.heap.size + 1) W.heap.size V.heap.size k j Ai ci ring w.heap.size W2 W2 (jE rs k ++ gR k ring j) (fZ bef own beh) (qD bx) X Y (fun _ => N1) (fun i => match i with | 0 => u 25 | 1 => u 26 | 2 => u 27 | 3 => u 28 | 4 => u 29 | 5 => u 30 | 6 => u 31 | 7 => u 32 | 8 => u 33 | 9 => u 34 | _ => u 35) W2.drew :=
          ⟨hXY2.ba.drew, hXY2.bp.drew, hi2.r.drew, hi2.it.drew, R2.drew, (Below.refl _ _).drew, (Ext.dr W2).keeps, (fun _ _ h => Ox), (fun h => Ox), (fun h => Ox), bB hXY2.a (Ext.dr W2), bB hXY2.p (Ext.dr W2)⟩
        have hlen3 : (jE rs k ++ gR k ring j).length ≤ 1000000 := by
          rw [List.length_append, BD, ye rs k Ot]
          have := dF rs k
          have := hok.len
          omega
        have HI2 := NW hi2
        have HI0 := NW hI0
        clear hXY2 hi2 hI0 R2
        obtain ⟨ll, hll⟩ : ∃ ll, jE rs k ++ gR k ring j = ll := ⟨_, rfl⟩
        rw [hll] at HI0 hlen3
        have HLL := NW hll
        clear hll
        obtain ⟨ib, hb0, hb1, hb2, hb3⟩ := info_parts Fu
        obtain ⟨ip, hp0, ja, nl, hp3⟩ := info_parts zm
        have IB0 := NW hb0
        have IB1 := NW hb1
        have IB2 := NW hb2
        have IB3 := NW hb3
        have IP0 := NW hp0
        have IP1 := NW ja
        have IP2 := NW nl
        have IP3 := NW hp3
        clear hb0 hb1 hb2 hb3 hp0 ja nl hp3
        gi_wp2
        refine wpIn_region_any Ou (uj (aJ _ _) Ou 11 (fun vs => ⟨#[.slice (N3 ⟨b, off, N0⟩) rs.length cap, u 1, .bool N1, .pointer (N3 ⟨w.heap.size, 0, N0⟩), .pointer (N3 ⟨w.heap.size + 1, 0, N0⟩), .pointer (N3 ⟨W.heap.size, 0, N0⟩), .slice Ai ring.length ci, .int .i64 (j : Int), .pointer (N3 ⟨V.heap.size, 0, N0⟩), u 9, u 10, u 11, u 12, u 13, .slice (N3 ⟨b, off, N0⟩) rs.length cap, .int .i64 (rs.length : Int), .int .i64 (k : Int), .bool Oc, .int .i64 (k : Int), .pointer (N3 ⟨b, off + k, N0⟩), .slice Ai ring.length ci, .slice Ai ring.length ci, .func (.func 200) #[] #[.pointer (N3 ⟨W.heap.size + 1, 0, N0⟩)], .int .i64 (j : Int), .agg (fZ bef own beh).toArray, vs 0, vs 1, vs 2, vs 3, vs 4, vs 5, vs 6, vs 7, vs 8, vs 9, vs 10, u 36, u 37, u 38, u 39, u 40, u 41, u 42, u 43, u 44, u 45, u 46, u 47, u 48, u 49, u 50, u 51, u 52, u 53, u 54, u 55, u 56, u 57, u 58, u 59, u 60, u 61, u 62, u 63, u 64, u 65, u 66, u 67, u 68, u 69, u 70, u 71, u 72, u 73, u 74, u 75, u 76, u 77, u 78, u 79, u 80, u 81, u 82, u 83, u 84, u 85, u 86, u 87, u 88, u 89, u 90, u 91, u 92, u 93, u 94, u 95, u 96, u 97, u 98, u 99, u 100, u 101], []⟩)
          (Bw w.heap.size (W.heap.size + 1) W.heap.size V.heap.size k j Ai ci ring w.heap.size W2 W2 ll (fZ bef own beh) (qD bx) X Y) Ou ?step ?tail (fun i => match i with | 0 => u 25 | 1 => u 26 | 2 => u 27 | 3 => u 28 | 4 => u 29 | 5 => u 30 | 6 => u 31 | 7 => u 32 | 8 => u 33 | 9 => u 34 | _ => u 35) _ HI0.out)
        case tail =>
          intro L vs w3 hL hI
          have a4 := hL 4 Ov
          have a10 := hL 10 Ov
          have ha := hI.a
          have hp := hI.p
          rw [a4] at ha
          rw [a10] at hp
          simp only [if_true] at ha hp
          have ca := hI.ba.cell
          have fa := hI.ba.frozen
          have cp := hI.bp.cell
          have fp := hI.bp.frozen
          have HG := NW hI
          obtain ⟨A4, n4, q4, e4⟩ := oK ha
          obtain ⟨A10, n10, q10, e10⟩ := oK hp
          rw [e4] at ha
          rw [e10] at hp
          have HA := NW ha
          have HP := NW hp
          clear hI ha hp hL a4 a10
          simp only [List.drop_succ_cons, List.drop_zero]
          gi_wp2
          have hlow3 : On w.heap.size W2 w3 := HG.out.low
          have hsz3 := hlow3.size
          have e1 : jE rs k ++ gR k ring (j + 1) = ll ++ [(k, j, yF ring j)] := by rw [yA, ← List.append_assoc, HLL.out]
          have e2 : (iB (ll ++ [(k, j, yF ring j)])).flatten = (iB ll).flatten ++ qD bx := by
            unfold iB; rw [List.map_append, List.flatten_append, List.map_singleton, HBX.out]; rfl
          have e3 : (iD (ll ++ [(k, j, yF ring j)])).flatten = (iD ll).flatten ++ CV k j := by
            unfold iD; rw [List.map_append, List.flatten_append, List.map_singleton]; rfl
          have hk3 := HG.out.keep.trans ((KeepsOthers.setCell w3 ⟨w.heap.size, 0, N0⟩ (.slice A4 n4 q4)).trans (KeepsOthers.setCell _ ⟨w.heap.size + 1, 0, N0⟩ (.slice A10 n10 q10)))
          have hb3 : On w.heap.size W2 ((w3.setCell ⟨w.heap.size, 0, N0⟩ (.slice A4 n4 q4)).setCell ⟨w.heap.size + 1, 0, N0⟩ (.slice A10 n10 q10)) := (hlow3.setCell (p := ⟨w.heap.size, 0, N0⟩) (NZ _) _).setCell (p := ⟨w.heap.size + 1, 0, N0⟩) Ow _
          refine ⟨hk3, ⟨.slice A4 n4 q4, .slice A10 n10 q10, ?_⟩, (HG.out.r.cI OK _).cI OK _, (HG.out.it.cI OK _).cI OK _, HI2.out.sl.below hb3, HI2.out.mks.keeps hk3, HI2.out.low.trans hb3⟩
          rw [e1]
          refine ⟨(HG.out.ba.put _).cI Ow _, (HG.out.bp.cI Ow _).put _, ?_, ?_⟩
          · rw [e2, List.length_append]
            exact di (di HA.out (fun h => by have := (aE HA.out _ h).1; dsimp only at this; omega) _) (fun h => by have := (aE HA.out _ h).1; dsimp only at this; omega) _
          · rw [e3, List.length_append]
            exact di (di HP.out (fun h => by have := (aE HP.out _ h).1; dsimp only at this; omega) _) (fun h => by have := (aE HP.out _ h).1; dsimp only at this; omega) _
        case step =>
          intro i L vs w3 hi hLi hI hd
          have c0 := hI.ba.cell
          have c5 := hI.bp.cell
          have c6 := hI.r.cell
          rcases (show i = 0 ∨ i = 1 ∨ i = 2 ∨ i = 3 ∨ i = 4 ∨ i = 5 ∨ i = 6 ∨ i = 7 ∨ i = 8 ∨ i = 9 ∨ i = 10 by omega) with rfl | rfl | rfl | rfl | rfl | rfl | rfl | rfl | rfl | rfl | rfl <;> clear hi
          · refine Ob rfl (fun K hK => ?_)
            go_simp
            exact hK _ _ ⟨X, rfl, hI.step (Ext.an _) (NZ _) Ov Ov (fun _ _ => rfl) (fun h => Ox) (fun h => Ox)⟩
          · refine gQ rfl rfl ?_
            exact wp_load_row 190 (.tmp 8) rfl V.heap.size rfl 190 (fZ bef own beh).toArray (0, 0) _ hI.rar underlying190 rfl Ou ⟨.agg (fZ bef own beh).toArray, rfl, hI.step (Ext.an _) (NZ _) Ov Ov (fun _ _ => rfl) (fun h => Ox) (fun h => Ox)⟩
          · refine Ob rfl (fun K hK => ?_)
            have d1 : vs 1 = .agg (fZ bef own beh).toArray := hI.v 1 Ov (hd 1 Ou) Ov Ov Ov Ov
            go_simp
            refine (CBX.out _).mono ?_
            rintro e W4 ⟨rfl, hX⟩
            exact hK _ _ ⟨.agg (qD bx).toArray, by simp [d1, bw], hI.step hX (NZ _) Ov Ov (fun _ _ => rfl) (fun h => Ox) (fun h => Ox)⟩
          · refine Ob rfl (fun K hK => ?_)
            have d2 : vs 2 = .agg (qD bx).toArray := hI.v 2 Ov (hd 2 Ou) Ov Ov Ov Ov
            go_simp
            exact hK _ _ ⟨_, by simp [d2, bw], hI.step ((Below.refl _ _).alloc (NZ _) _) (NZ _) Ov Ov (fun h => absurd rfl h) (fun _ => ⟨_, rfl, af.new _ _ _⟩) (fun h => Ox)⟩
          · refine gQ rfl rfl ?_
            have d0 : vs 0 = X := hI.v 0 Ov (hd 0 Ou) Ov Ov Ov Ov
            obtain ⟨g, e3, hr3⟩ := hI.s3 (hd 3 Ou) hLi
            have ha := hI.a
            rw [hLi] at ha
            simp only [if_neg (by decide : ¬ N1 = Oc)] at ha
            refine wp_append_own _ (.tmp 25) (.tmp 28) 196 rfl (w.heap.size + 2) 199 ib _ 4 32 underlying196 IB0.out IB1.out IB2.out IB3.out rfl Ot X ll.length (iB ll).flatten d0 ha ⟨g, 0, N0⟩ 1 1 (qD bx) e3 OR (fun j u hj => by rw [Addr.add_lit, Nat.zero_add, hr3.cell]; exact hj) (by simp [Value.oneCell']) (by unfold Ol; omega) Ot hI.sz ?_
            intro v' w' hown' hgr' _
            exact ⟨v', rfl, hI.Mc (NZ _) hLi hown' hgr'⟩
          · refine Ob rfl (fun K hK => ?_)
            go_simp
            exact hK _ _ ⟨Y, rfl, hI.step (Ext.an _) (NZ _) Ov Ov (fun _ _ => rfl) (fun h => Ox) (fun h => Ox)⟩
          · refine Ob rfl (fun K hK => ?_)
            go_simp
            exact hK _ _ ⟨.int .i64 (k : Int), rfl, hI.step (Ext.an _) (NZ _) Ov Ov (fun _ _ => rfl) (fun h => Ox) (fun h => Ox)⟩
          · refine Ob rfl (fun K hK => ?_)
            go_simp
            exact hK _ _ ⟨.int .i64 (j : Int), rfl, hI.step (Ext.an _) (NZ _) Ov Ov (fun _ _ => rfl) (fun h => Ox) (fun h => Ox)⟩
          · refine Ob rfl (fun K hK => ?_)
            have d6 : vs 6 = .int .i64 (k : Int) := hI.v 6 Ov (hd 6 Ou) Ov Ov Ov Ov
            have d7 : vs 7 = .int .i64 (j : Int) := hI.v 7 Ov (hd 7 Ou) Ov Ov Ov Ov
            go_simp
            exact hK _ _ ⟨.agg (CV k j).toArray, by simp [d6, d7, bw], hI.step (Ext.an _) (NZ _) Ov Ov (fun _ _ => rfl) (fun h => Ox) (fun h => Ox)⟩
          · refine Ob rfl (fun K hK => ?_)
            have d8 : vs 8 = .agg (CV k j).toArray := hI.v 8 Ov (hd 8 Ou) Ov Ov Ov Ov
            go_simp
            exact hK _ _ ⟨_, by simp [d8, bw], hI.step ((Below.refl _ _).alloc (NZ _) _) (NZ _) Ov Ov (fun _ h => absurd rfl h) (fun h => Ox) (fun _ => ⟨_, rfl, af.new _ _ _⟩)⟩
          · refine gQ rfl rfl ?_
            have d5 : vs 5 = Y := hI.v 5 Ov (hd 5 Ou) Ov Ov Ov Ov
            obtain ⟨g, e9, hr9⟩ := hI.s9 (hd 9 Ou) hLi
            have ha := hI.p
            rw [hLi] at ha
            simp only [if_neg (by decide : ¬ N1 = Oc)] at ha
            refine wp_append_own _ (.tmp 30) (.tmp 34) 197 rfl (w.heap.size + 2) 202 ip _ 2 16 underlying197 IP0.out IP1.out IP2.out IP3.out rfl Ot Y ll.length (iD ll).flatten d5 ha ⟨g, 0, N0⟩ 1 1 (CV k j) e9 OR (fun j' u hj => by rw [Addr.add_lit, Nat.zero_add, hr9.cell]; exact hj) (by simp [Value.oneCell']) (by unfold Ol; omega) Ot hI.sz ?_
            intro v' w' hown' hgr' _
            exact ⟨v', rfl, hI.JH (NZ _) hLi hown' hgr'⟩
    · obtain rfl : k = rs.length := by omega
      have hlt' : decide ((rs.length : Int) < (rs.length : Int)) = N1 := by rw [decide_eq_false_iff_not]; omega
      obtain ⟨X, Y, hXY⟩ := hJ.ex
      obtain ⟨L, hL⟩ : ∃ L, jE rs rs.length = L := ⟨_, rfl⟩
      rw [hL] at hXY
      have hmem : ∀ x ∈ L, x.1 < rs.length ∧ x.2.1 < (rs.getD x.1 []).length := fun x hx => Fo (NZ _) (by rw [hL]; exact hx)
      have hlenL : L.length ≤ 24 := by
        rw [← hL, ye rs _ (NZ _), List.take_length]; exact hok.len
      have HCR := NW (show eB rs = dt (fun i => dt (fun k => s7 rs (L.getD i nM) (L.getD k nM)) i) L.length by unfold eB; rw [hL])
      clear hL
      obtain ⟨AX, cX, rfl, hSX⟩ := aS hXY.a (by rw [N9]) (GO _)
      obtain ⟨AY, cY, rfl, hSY⟩ := aS hXY.p (by rw [N9]) (GR _)
      have hX1 := hSX.1
      have hX2 := hSX.2.1
      have hY1 := hSY.1
      have hY2 := hSY.2.1
      rw [N9] at hX1 hY1
      unfold Ol at hX2 hY2
      have cx0 := hXY.ba.cell
      have HB := NW hXY
      have HSX := NW hSX
      have HSY := NW hSY
      have HMEM := NW hmem
      have HJ := NW hJ
      have HM := NW hM
      clear hXY hSX hSY hmem hJ hM
      gi_wp2
      refine wpIn_wide.2 ?_
      go_loopw [39] (fun i wr => ∃ m : Nat, m ≤ L.length ∧ i = .int .i64 (m : Int) ∧ Ext W wr ∧ ∀ j, j < m → dt (fun k => s7 rs (L.getD j nM) (L.getD k nM)) j = N1) (fun i _ => ((L.length : Int) - Oh i).toNat)
      case atStart => exact ⟨0, Ot, rfl, Below.refl _ _, fun j hj => Ot⟩
      case round =>
        obtain ⟨m, hm, rfl, hx, hall⟩ := hrel
        have HX := NW hx
        have HA := NW hall
        clear hx hall
        have hzW := HJ.out.low.size
        by_cases hlm : m < L.length
        · have hpos : 0 < L.length := by omega
          go_wp2
          go_loopw [43] (fun q wr' => ∃ k : Nat, k ≤ m ∧ q = .int .i64 (k : Int) ∧ Ext W wr' ∧ ∀ j, j < k → s7 rs (L.getD m nM) (L.getD j nM) = N1) (fun q _ => ((m : Int) - Oh q).toNat)
          case atStart => exact ⟨0, Ot, rfl, HX.out, fun j hj => Ot⟩
          case round =>
            obtain ⟨k, hk, rfl, hx', hall'⟩ := hrel
            have HX' := NW hx'
            have HA' := NW hall'
            clear hx' hall'
            by_cases hlk : k < m
            · obtain ⟨bX, oX, rfl, hbX, hcX⟩ := HSX.out.2.2 (by rw [N9]; exact hpos)
              obtain ⟨bY, oY, rfl, hbY, hcY⟩ := HSY.out.2.2 (by rw [N9]; exact hpos)
              rw [N9] at hcX hcY
              have hkL : k < L.length := Ot
              obtain ⟨⟨ri, si, bi⟩, hi⟩ : ∃ x, L.getD m nM = x := ⟨_, rfl⟩
              obtain ⟨⟨rk, sk, bk⟩, hkk⟩ : ∃ x, L.getD k nM = x := ⟨_, rfl⟩
              have hmi := HMEM.out (L.getD m nM) (by rw [N8, Oa hlm]; exact List.getElem_mem hlm)
              have hmk := HMEM.out (L.getD k nM) (by rw [N8, Oa hkL]; exact List.getElem_mem hkL)
              rw [hi] at hmi
              rw [hkk] at hmk
              dsimp only at hmi hmk
              obtain ⟨hr1, hs1⟩ := hmi
              obtain ⟨hr2, hs2⟩ := hmk
              have hl1 := (hok.ring hr1).2.2
              have hl2 := (hok.ring hr2).2.2
              obtain ⟨b, off, rfl, hB, hcell⟩ := hr.2.2 Ot
              obtain ⟨Ai, ci, hc1, _⟩ := hcell ri hr1
              have hc1' : wr.cell? ⟨b, off + ri, N0⟩ = N3 (.slice Ai (rs.getD ri []).length ci) := (HX'.out.cell (p := ⟨b, off + ri, N0⟩) (by show b < W.heap.size; omega)).trans ((HJ.out.low.cell (p := ⟨b, off + ri, N0⟩) hB).trans hc1)
              have HH := NW (show s7 rs (L.getD m nM) (L.getD k nM) = (!(ri == rk && ((si : Int) - sk == 1 || (si : Int) - sk == ((rs.getD ri []).length : Int) - 1)) && gx bi bk) by rw [hi, hkk]; rfl)
              obtain ⟨n, hn⟩ : ∃ n, (rs.getD ri []).length = n := ⟨_, rfl⟩
              rw [hn] at hl1 hs1 hc1' HH
              have HXc := NW (fun i (hi : i < L.length) j (hj : j < 4) => (HX'.out.cell (p := ⟨bX, oX + 4 * i + j, N0⟩) hbX).trans (hcX i hi j hj))
              have HYc := NW (fun i (hi : i < L.length) j (hj : j < 2) => (HX'.out.cell (p := ⟨bY, oY + 2 * i + j, N0⟩) hbY).trans (hcY i hi j hj))
              have y0 := HYc.out m hlm 0 Ov
              have y1 := HYc.out m hlm 1 Ov
              have y2 := HYc.out k hkL 0 Ov
              have y3 := HYc.out k hkL 1 Ov
              rw [sI hlm, hi] at y0 y1
              rw [sI hkL, hkk] at y2 y3
              rw [Nat.add_zero, Og] at y0 y2
              rw [Og] at y1 y3
              have x0 := HXc.out m hlm 0 Ov
              have x1 := HXc.out m hlm 1 Ov
              have x2 := HXc.out m hlm 2 Ov
              have x3 := HXc.out m hlm 3 Ov
              have x4 := HXc.out k hkL 0 Ov
              have x5 := HXc.out k hkL 1 Ov
              have x6 := HXc.out k hkL 2 Ov
              have x7 := HXc.out k hkL 3 Ov
              rw [rr hlm, hi] at x0 x1 x2 x3
              rw [rr hkL, hkk] at x4 x5 x6 x7
              rw [Nat.add_zero, Og] at x0 x4
              rw [Og] at x1 x2 x3 x5 x6 x7
              dsimp only [qD, CV] at x0 x1 x2 x3 x4 x5 x6 x7 y0 y1 y2 y3
              have cp := (HB.out.bp.stays (HX'.out.stays (n0 := 0) (Nat.zero_le _))).cell
              have ca := (HB.out.ba.stays (HX'.out.stays (n0 := 0) (Nat.zero_le _))).cell
              have hrn : ri < rs.length := hr1
              clear hcell hc1 hcX hcY hi hkk hn HXc HYc
              have CMT := NW (fun W => zP bi bk W)
              obtain ⟨mt, hmt⟩ : ∃ mt, gx bi bk = mt := ⟨_, rfl⟩
              simp only [hmt] at CMT
              rw [hmt] at HH
              clear hmt
              obtain ⟨e1, he1⟩ : ∃ e1, (ri == rk) = e1 := ⟨_, rfl⟩
              have t1 : ((ri : Int) == (rk : Int)) = e1 := by rw [← he1, Bool.eq_iff_iff]; simp only [beq_iff_eq]; omega
              obtain ⟨e2, t2⟩ : ∃ e2, ((si : Int) - (sk : Int) == 1) = e2 := ⟨_, rfl⟩
              obtain ⟨e3, t3⟩ : ∃ e3, ((si : Int) - (sk : Int) == (n : Int) - 1) = e3 := ⟨_, rfl⟩
              rw [he1, t2, t3] at HH
              clear he1
              have HHf := NW (fun (h : s7 rs (L.getD m nM) (L.getD k nM) = N1) => (show ∀ j, j < k + 1 → s7 rs (L.getD m nM) (L.getD j nM) = N1 from fun j hj => by
                by_cases hjk : j = k
                · rw [hjk]; exact h
                · exact HA'.out j Ot))
              have HTR0 := NW (fun (h : s7 rs (L.getD m nM) (L.getD k nM) = Oc) => (show eB rs = Oc by
                rw [HCR.out]; exact eX hlm (eX hlk h)))
              have w1 : Oe.wrap ((si : Int) - (sk : Int)) = (si : Int) - (sk : Int) := Om _ Ot
              have w2 : Oe.wrap ((n : Int) - 1) = (n : Int) - 1 := Om _ Ot
              cases e1 <;> cases e2 <;> cases e3
              all_goals
                go_wp2
                go_quiet (fail)
                go_wp2
                go_quiet (fail)
                go_wp2
              all_goals first
                | (have HZ := NW (show s7 rs (L.getD m nM) (L.getD k nM) = mt by rw [HH.out]; rfl)
                   refine bP 11 Ou Ou (fun W2 hW2 => ?_)
                   have hw2 : Ext wr W2 := BQ hW2
                   have hX2 := HX'.out.tr hw2
                   have HX2 := NW hX2
                   have ca2 := (HB.out.ba.stays (hX2.stays (n0 := 0) (Nat.zero_le _))).cell
                   have hbXw : bX < wr.heap.size := Nat.lt_of_lt_of_le hbX HX'.out.size
                   have z0 := (hw2.cell (p := ⟨bX, oX + m * 4, N0⟩) hbXw).trans x0
                   have z1 := (hw2.cell (p := ⟨bX, oX + m * 4 + 1, N0⟩) hbXw).trans x1
                   have z2 := (hw2.cell (p := ⟨bX, oX + m * 4 + 2, N0⟩) hbXw).trans x2
                   have z3 := (hw2.cell (p := ⟨bX, oX + m * 4 + 3, N0⟩) hbXw).trans x3
                   have z4 := (hw2.cell (p := ⟨bX, oX + k * 4, N0⟩) hbXw).trans x4
                   have z5 := (hw2.cell (p := ⟨bX, oX + k * 4 + 1, N0⟩) hbXw).trans x5
                   have z6 := (hw2.cell (p := ⟨bX, oX + k * 4 + 2, N0⟩) hbXw).trans x6
                   have z7 := (hw2.cell (p := ⟨bX, oX + k * 4 + 3, N0⟩) hbXw).trans x7
                   clear hw2 hX2 hW2 x0 x1 x2 x3 x4 x5 x6 x7 y0 y1 y2 y3 cp ca hc1'
                   simp only [List.take_succ_cons, List.take_zero, List.drop_succ_cons, List.drop_zero]
                   repeat still_step
                   refine wpStill_nil ?_
                   cases mt
                   · have HHX := NW (HHf.out HZ.out)
                     go_wp2_with (go_at_call 155; go_must (refine (CMT.out _).mono ?_); rintro e W5 ⟨rfl, hX5⟩)
                     exact ⟨⟨k + 1, Ot, Ow, HX2.out.tr hX5, HHX.out⟩, OP⟩
                   · have HTR := NW (HTR0.out HZ.out)
                     go_wp2_with (go_at_call 155; go_must (refine (CMT.out _).mono ?_); rintro e W5 ⟨rfl, hX5⟩)
                     have hxe := HX2.out.tr hX5
                     refine (HM.out.keeps hxe.keeps).leaves (fun W' hW' => ?_)
                     exact ⟨.bool Oc, by simp [results, results90, go_sem], by rw [HTR.out], (HJ.out.low.trans (hxe.mono hzW)).trans hW'.below⟩)
                | (have HHX := NW (HHf.out (by rw [HH.out]; rfl))
                   go_quiet (fail)
                   go_wp2
                   exact ⟨⟨k + 1, Ot, Ow, below_drewN HX'.out _, HHX.out⟩, OP⟩)
            · obtain rfl : k = m := by omega
              have hlt3 : decide ((k : Int) < (k : Int)) = N1 := by rw [decide_eq_false_iff_not]; omega
              go_wp2
              refine ⟨⟨k + 1, Ot, Ow, HX'.out, fun j hj => ?_⟩, OP⟩
              by_cases hjk : j = k
              · rw [hjk]; exact dJ HA'.out
              · exact HA.out j Ot
        · obtain rfl : m = L.length := by omega
          have hlt3 : decide ((L.length : Int) < (L.length : Int)) = N1 := by rw [decide_eq_false_iff_not]; omega
          have HE := NW (show eB rs = N1 by rw [HCR.out]; exact dJ HA.out)
          go_wp2
          gi_wp2
          refine (HM.out.keeps HX.out.keeps).leaves (fun W' hW' => ?_)
          exact ⟨.bool N1, by simp [results, results90, go_sem], by rw [HE.out], (HJ.out.low.trans (HX.out.mono hzW)).trans hW'.below⟩
end
section
open Kp
theorem gD {p : Prop} (h : p := by
    go_enter func86, ntmps86
    go_wp2_with (go_at_call 148; go_must (refine (lY _ _ _ _).mono ?_); rintro e W1 ⟨rfl, rfl⟩; first | rw [h1] | rw [h2] | rw [t1] | rw [t2] | rw [t3] | rw [t4] | skip)
    iterate 6 try (first
      | (go_ret; exact ⟨by rw [HR.out]; rfl, by first | exact dI _ _ _ | exact (Below.refl _ _).alloc (NZ _) _⟩)
      | (first | rw [rounds_succ] | (refine wp_loop_rounds 5 ?_; rw [rounds_succ])
         go_wp2_with (go_at_call 148; go_must (refine (lY _ _ _ _).mono ?_); rintro e W1 ⟨rfl, rfl⟩; first | rw [h1] | rw [h2] | rw [t1] | rw [t2] | rw [t3] | rw [t4] | skip)))) : p := h
theorem Mf{p:Prop}(h:p:=by
  cases t1:aF s.x 0 65536
  ·have HR:=NW (show aV s=N1 by rw[HQ,t1];simp)
   clear HQ
   exact gD
  cases t2:aF s.y 0 65536
  ·have HR:=NW (show aV s=N1 by rw[HQ,t2];simp)
   clear HQ
   exact gD
  cases t3:aF s.plate 0 65536
  ·have HR:=NW (show aV s=N1 by rw[HQ,t3];simp)
   clear HQ
   exact gD
  cases t4:aF s.over 0 65536
  ·have HR:=NW (show aV s=N1 by rw[HQ,t4];simp)
   clear HQ
   exact gD
  have HR:=NW (show aV s=Oc by rw[HQ,t1,t2,t3,t4];simp)
  clear HQ
  exact gD):p:=h
theorem vz(s:Sd)(w:NY):Of prog 86 #[.agg (jF s).toArray] w fun e w'=>e= .returned (.bool (aV s))∧Ext w w':=by
 cases hg:s.gable
 ·cases h1:aF s.rise 1 48
  ·have HR:=NW (show aV s=N1 by unfold aV;rw[hg];rw[h1];rfl)
   exact gD
  cases h2:aF s.run 1 48
  ·have HR:=NW (show aV s=N1 by unfold aV;rw[hg];rw[h1,h2];rfl)
   exact gD
  have HQ:aV s=(aF s.x 0 65536&&aF s.y 0 65536&&aF s.plate 0 65536&&aF s.over 0 65536):=by
   unfold aV;rw[hg];rw[h1,h2];simp[Bool.and_assoc]
  exact Mf
 ·cases h1:(s.rise !=0)
  case true=>
   have HR:=NW (show aV s=N1 by unfold aV;rw[hg];simp only[if_true];rw[show(s.rise==0)=N1 by simpa using h1];rfl)
   exact gD
  cases h2:(s.run !=0)
  case true=>
   have HR:=NW (show aV s=N1 by unfold aV;rw[hg];simp only[if_true];rw[show(s.run==0)=N1 by simpa using h2];simp)
   exact gD
  have HQ:aV s=(aF s.x 0 65536&&aF s.y 0 65536&&aF s.plate 0 65536&&aF s.over 0 65536):=by
   unfold aV;rw[hg];rw[show(s.rise==0)=Oc by simpa using h1,show(s.run==0)=Oc by simpa using h2];simp[Bool.and_assoc]
  exact Mf
end
section
open Kp
theorem ot{α:Type}(l:List α)(d:α)(p:α→Bool):dt (fun i=>p (l.getD i d)) l.length=l.any p:=by
 rw[Bool.eq_iff_iff,Fe,List.any_eq_true]
 constructor
 ·rintro⟨i,hi,hp⟩
  refine⟨l[i],List.getElem_mem hi,?_⟩
  rwa[N8,Oa hi] at hp
 ·rintro⟨x,hx,hp⟩
  obtain⟨i,hi,rfl⟩:=List.mem_iff_getElem.1 hx
  exact⟨i,hi,by rw[N8,Oa hi];exact hp⟩
theorem wP(s:Sd)(w:NY):Of prog 85 #[.agg (jF s).toArray] w fun e w'=>e= .returned (.bool (!aV s))∧Ext w w':=by
 have E0:=NW (show Ext w (w.alloc (.cells (jF s).toArray 36)) from(Below.refl _ _).alloc (NZ _) _)
 have c:=NW (fun W=>vz s W)
 obtain⟨r,hr⟩:∃r,aV s=r:=⟨_,rfl⟩
 simp only[hr] at c⊢
 clear hr
 go_enter func85,ntmps85
 go_wp2_with(go_at_call 86;go_must(refine(c.out _).mono ?_);rintro e W1 ⟨rfl,hX1⟩)
 go_ret
 exact⟨rfl,E0.out.tr hX1⟩
theorem wR(w:NY)(A:Option Addr)(cap:Nat)(r:List Sd)(hr:bC 7 w w.heap.size A cap (ak r))(hc:Eo r)(hn:r.length≤1000):
  Of prog 88 #[.slice A r.length cap] w fun e w'=>e= .returned (.bool (!cz r))∧Ext w w':=by
 have c:=NW (vE w A cap r hr hc hn)
 obtain⟨b,hb⟩:∃b,cz r=b:=⟨_,rfl⟩
 obtain⟨n,hn⟩:∃n,r.length=n:=⟨_,rfl⟩
 rw[hb,hn] at c
 rw[hb,hn]
 clear hb hn hr hc
 go_enter func88,ntmps88
 go_wp2_with(go_at_call 89;go_must(refine c.out.mono ?_);rintro e W1 ⟨rfl,hX1⟩)
 go_ret
 exact⟨rfl,hX1⟩
noncomputable def gn(w:NY)(b off n:Nat):List (List N2):=(List.range n).map fun i=>[(w.cell? ⟨b,off+i,N0⟩).getD N7]
theorem sK{w:NY}{b off n i:Nat}(hi:i<n):(gn w b off n).getD i []=[(w.cell? ⟨b,off+i,N0⟩).getD N7]:=by
 unfold gn;simp[List.getD,hi]
theorem Hw(w:NY)(b off n:Nat):cG 1 (gn w b off n):=bz (f:=fun i=>[(w.cell? ⟨b,off+i,N0⟩).getD N7]) (fun _=>rfl) _
theorem dR.rows{w:NY}{B b off cap:Nat}{rs:List (List Sd)}(h:dR w B (N3 ⟨b,off,N0⟩) cap rs)(hp:0<rs.length):bC 1 w B (N3 ⟨b,off,N0⟩) cap (gn w b off rs.length):=by
 obtain⟨h1,h2,h3⟩:=h
 have hl:(gn w b off rs.length).length=rs.length:=by unfold gn;simp
 refine⟨by rw[hl];exact h1,h2,fun _=> ?_⟩
 obtain⟨b',off',e,hB,hc⟩:=h3 hp
 obtain⟨rfl,rfl⟩:b=b'∧off=off':=Po
 refine⟨b,off,rfl,hB,fun i hi j hj=> ?_⟩
 obtain rfl:j=0:=Ot
 rw[hl] at hi
 obtain⟨Ai,ci,h4,_⟩:=hc i hi
 rw[sK hi,Nat.one_mul,Nat.add_zero,h4];rfl
theorem IE{w:NY}{b off cap:Nat}{rs:List (List Sd)}(h:dR w w.heap.size (N3 ⟨b,off,N0⟩) cap rs)(hp:0<rs.length)(hco:∀r∈rs,Eo r)(hlen:rs.flatten.length≤24):
  sH 88 #[] 1 (gn w b off rs.length) (fun i=> !cz (rs.getD i [])) w:=by
 intro W i hi hx
 have hl:(gn w b off rs.length).length=rs.length:=by unfold gn;simp
 rw[hl] at hi
 obtain⟨b',off',e,hB,hc⟩:=h.2.2 hp
 obtain⟨rfl,rfl⟩:b=b'∧off=off':=Po
 obtain⟨Ai,ci,h4,h5⟩:=hc i hi
 have e:rs.getD i []=rs[i]:=by rw[N8,Oa hi];rfl
 have hcr:Eo (rs.getD i []):=by rw[e];exact hco _ (List.getElem_mem hi)
 have hle:(rs.getD i []).length≤1000:=by
  rw[e];exact Ok (List.sublist_flatten_of_mem (List.getElem_mem hi)).length_le Ot
 rw[sK hi,h4]
 exact wR W Ai ci _ ((h5.below hx).more hx.size) hcr hle
theorem Gw(l:List Sd)(w:NY):sH 85 #[] 7 (ak l) (fun i=> !aV (l.getD i I8)) w:=by
 intro W i hi hx
 rw[N9] at hi
 rw[gJ hi]
 exact wP _ W
def NC(rs:List (List Sd))(s i:N2):Prop:=∃k:Nat,k≤rs.length∧i= .int .i64 (k:Int)∧s= .int .i64 ((rs.take k).flatten.length:Int)∧∀j,j<k→rs.getD j []≠[]
theorem o7(w:NY)(A:Option Addr)(cap:Nat)(rs:List (List Sd))(hr:dR w w.heap.size A cap rs)(hbig:rs.flatten.length≤4000000000):
  Of prog 32 #[.agg #[.slice A rs.length cap]] w fun e w'=>e= .returned (.int .i64 (dk rs))∧Ext w w':=by
 have h1:=hr.1
 have h2:=hr.2.1
 unfold Ol at h2
 have E0:=NW (show Ext w (w.alloc (.cells #[.slice A rs.length cap] 24)) from(Below.refl _ _).alloc (NZ _) _)
 have R0:=NW (Bx.new w 24 (.slice A rs.length cap))
 have Z0:=NW (show w.heap.size<(w.alloc (.cells #[.slice A rs.length cap] 24)).heap.size by simp)
 have HR:=NW ((hr.below E0.out).more (B':=(w.alloc (.cells #[.slice A rs.length cap] 24)).heap.size) Ow)
 clear hr
 go_enter func32,ntmps32
 go_wp2
 obtain⟨w0,hw0⟩:∃w0,w.alloc (.cells #[.slice A rs.length cap] 24)=w0:=⟨_,rfl⟩
 simp only[hw0] at E0 R0 Z0 HR⊢
 clear hw0
 have c0:=R0.out.cell
 go_loop [3,9] (fun s i=>NC rs s i) (fun _ i=>((rs.length:Int)-Oh i).toNat)
 case atStart=>exact⟨0,Ot,rfl,Ow,fun j hj=>Ot⟩
 case round=>
  obtain⟨k,hk,rfl,rfl,hall⟩:=hrel
  have HA:=NW hall
  clear hall
  by_cases hlt:k<rs.length
  ·obtain⟨b,off,rfl,hB,hcell⟩:=HR.out.2.2 Ot
   obtain⟨Ai,ci,c1,hsl⟩:=hcell k hlt
   have hq:=cK hlt
   have hle:=dF rs (k+1)
   have hq2:((rs.take (k+1)).flatten.length:Int)=((rs.take k).flatten.length:Int)+((rs.getD k []).length:Int):=by rw[hq];simp
   obtain⟨m,hm⟩:∃m,(rs.take k).flatten.length=m:=⟨_,rfl⟩
   obtain⟨d,hd⟩:∃d,(rs.getD k []).length=d:=⟨_,rfl⟩
   rw[hd] at c1
   have hs:m+d≤4000000000:=by rw[hm,hd] at hq2;omega
   rw[hm]
   have HQ:=NW hq2
   have HM:=NW hm
   have HD:=NW hd
   clear hcell hsl hq hq2 hm hd hle
   by_cases h0:d=0
   ·have tz:((d:Int)==0)=Oc:=by rw[h0];rfl
    have HE:=NW (show dk rs=5 by
     have:rs.any (·.isEmpty)=Oc:=by
      rw[List.any_eq_true]
      refine⟨rs[k],List.getElem_mem hlt,?_⟩
      have hz:=HD.out
      rw[h0,N8,Oa hlt] at hz
      rw[List.isEmpty_iff];exact List.length_eq_zero_iff.1 hz
     unfold dk;rw[this];rfl)
    clear h0
    go_wp2
    go_ret
    exact⟨OL,E0.out⟩
   ·have tz:((d:Int)==0)=N1:=OF
    have HN:=NW (show rs.getD k []≠[] by intro e;have hz:=HD.out;rw[e] at hz;exact h0 hz.symm)
    clear h0
    go_wp2
    go_round
    case rel=>exact⟨k+1,Ot,by go_num,by rw[HQ.out,HM.out,HD.out],fun j hj=>by
     by_cases hjk:j=k
     ·rw[hjk];exact HN.out
     ·exact HA.out j Ot⟩
    case measure=>simp[Oh];omega
  ·obtain rfl:k=rs.length:=Ot
   have ht:(rs.take rs.length).flatten.length=rs.flatten.length:=by rw[List.take_length]
   rw[ht]
   clear ht
   have hne:∀r∈rs,r≠[]:=by
    intro r hr
    obtain⟨i,hi,rfl⟩:=List.mem_iff_getElem.1 hr
    have:=HA.out i hi
    rwa[N8,Oa hi] at this
   have hany:rs.any (·.isEmpty)=N1:=by
    rw[List.any_eq_false]
    intro r hr
    simpa[List.isEmpty_iff] using hne r hr
   have HANY:=NW hany
   clear hany HA
   obtain⟨m,hm⟩:∃m,rs.flatten.length=m:=⟨_,rfl⟩
   rw[hm] at hbig⊢
   have HM:=NW hm
   clear hm
   by_cases hrs:rs=[]
   ·have hm0:m=0:=by rw[←HM.out,hrs];rfl
    have tz:((m:Int)==0)=Oc:=by rw[hm0];rfl
    have HE:=NW (show dk rs=5 by unfold dk;rw[hrs];rfl)
    clear hrs hm0
    go_wp2
    go_ret
    exact⟨OL,E0.out⟩
   have hpos:0<rs.length:=List.length_pos_iff.2 hrs
   have hm1:0<m:=by
    rw[←HM.out]
    obtain⟨r,l,e⟩:=List.exists_cons_of_ne_nil hrs
    have:=List.length_pos_iff.2 (hne r (by rw[e];simp))
    rw[e,List.flatten_cons,List.length_append];omega
   have tz:((m:Int)==0)=N1:=OF
   have HNE:=NW hne
   have HRS:=NW (show rs.isEmpty=N1 by simpa[List.isEmpty_iff] using hrs)
   clear hne hrs
   by_cases h24:24<m
   ·have HE:=NW (show dk rs=4 by unfold dk;rw[HANY.out,HRS.out,HM.out,if_neg Ov,if_pos h24])
    go_wp2
    go_ret
    exact⟨OL,E0.out⟩
   have HE:=NW (show dk rs=if rs.flatten.any (fun s=> !aV s) then 2 else if rs.any (fun r=> !cz r) then 14 else if eB rs then 15 else if !eD rs|| !fN rs then 14 else 0 by
    unfold dk;rw[HANY.out,HRS.out,HM.out,if_neg Ov,if_neg h24])
   obtain⟨b,off,rfl,hB,_⟩:=id (HR.out.2.2 hpos)
   have hrow:=NW (fun(W:NY) (h:Ext w0 W)=>((HR.out.below h).more h.size:dR W W.heap.size (N3 ⟨b,off,N0⟩) cap rs))
   have k1:=NW (nG w0 (N3 ⟨b,off,N0⟩) cap rs HR.out HNE.out (by rw[HM.out];omega))
   have hnl:=NW (show(ak rs.flatten).length=m by rw[N9,HM.out])
   have k2:=NW (fun(W:NY) (A':Option Addr) (cap':Nat) (h:bC 7 W W.heap.size A' cap' (ak rs.flatten))=>
    (uH W A' cap' m (ak rs.flatten) hnl.out h (cL _) (fun i=> !aV (rs.flatten.getD i I8)) 85 #[] (enters_of func85 Ou rfl) (Gw _ W)))
   have ha1:dt (fun i=> !aV (rs.flatten.getD i I8)) m=rs.flatten.any (fun s=> !aV s):=by rw[←HM.out];exact ot rs.flatten I8 (fun s=> !aV s)
   rw[HM.out] at k1
   cases t1:rs.flatten.any (fun s=> !aV s)
   case true=>
    have HV:=NW (show dk rs=2 by rw[HE.out,t1];rfl)
    rw[t1] at ha1
    simp only[ha1] at k2
    clear ha1 t1
    go_wp2_with(first
     |(go_at_call 83;go_must(refine(k2.out _ _ _ HS1.out).mono ?_);rintro e W2 ⟨rfl,hX2⟩)
     |(go_at_call 84;go_must(refine k1.out.mono ?_);rintro e W1 ⟨A',cap',rfl,hS1,hX1⟩;have HS1:=NW hS1;clear hS1))
    go_ret
    exact⟨OT,(E0.out.tr hX1).tr hX2⟩
   rw[t1] at ha1
   simp only[ha1] at k2
   have hco:∀r∈rs,Eo r:=by
    intro r hr s hs
    rw[List.any_eq_false] at t1
    have:=t1 s (List.mem_flatten.2 ⟨r,hr,hs⟩)
    simp only[Bool.not_eq_true,Bool.not_eq_false'] at this
    unfold aV at this
    simp only[Bool.and_eq_true,aF,decide_eq_true_eq] at this
    exact⟨this.1.1.1.2,this.1.1.2⟩
   have HE1:=NW (show dk rs=if rs.any (fun r=> !cz r) then 14 else if eB rs then 15 else if !eD rs|| !fN rs then 14 else 0 by rw[HE.out,t1];rfl)
   clear ha1 t1
   have hlen24:rs.flatten.length≤24:=by rw[HM.out];omega
   have hok:wk rs:=⟨HNE.out,hco,hlen24⟩
   have HOK:=NW hok
   have hnr:=NW (fun W=>show(gn W b off rs.length).length=rs.length by unfold gn;simp)
   have k3:=NW (fun(W:NY) (h:Ext w0 W)=>
    (tI W (N3 ⟨b,off,N0⟩) cap rs.length (gn W b off rs.length) (hnr.out W) ((hrow.out W h).rows hpos) (Hw _ _ _ _) (fun i=> !cz (rs.getD i [])) 88 #[] (enters_of func88 Ou rfl) (IE (hrow.out W h) hpos hco hlen24)))
   have ha2:dt (fun i=> !cz (rs.getD i [])) rs.length=rs.any (fun r=> !cz r):=ot rs [] (fun r=> !cz r)
   clear hco hok hlen24
   cases t2:rs.any (fun r=> !cz r)
   case true=>
    have HV:=NW (show dk rs=14 by rw[HE1.out,t2];rfl)
    rw[t2] at ha2
    simp only[ha2] at k3
    clear ha2 t2
    go_wp2_with(first
     |(go_at_call 87;go_must(refine(k3.out _ hx2).mono ?_);rintro e W3 ⟨rfl,hX3⟩;have hx3:Ext w0 W3:=hx2.tr hX3)
     |(go_at_call 83;go_must(refine(k2.out _ _ _ HS1.out).mono ?_);rintro e W2 ⟨rfl,hX2⟩;have hx2:Ext w0 W2:=hx1.tr hX2;have c2:=(R0.out.stays (hx2.stays (n0:=0) (Nat.zero_le _))).cell)
     |(go_at_call 84;go_must(refine k1.out.mono ?_);rintro e W1 ⟨A',cap',rfl,hS1,hx1⟩;have HS1:=NW hS1;clear hS1))
    go_ret
    exact⟨OT,E0.out.tr hx3⟩
   rw[t2] at ha2
   simp only[ha2] at k3
   have HE2:=NW (show dk rs=if eB rs then 15 else if !eD rs|| !fN rs then 14 else 0 by rw[HE1.out,t2];rfl)
   clear ha2 t2
   have k4:=NW (fun(W:NY) (h:Ext w0 W)=>tE W (N3 ⟨b,off,N0⟩) cap rs (hrow.out W h) HOK.out)
   have k5:=NW (fun(W:NY) (h:Ext w0 W)=>xH W (N3 ⟨b,off,N0⟩) cap rs (hrow.out W h) HOK.out)
   have k6:=NW (fun(W:NY) (h:Ext w0 W)=>vG W (N3 ⟨b,off,N0⟩) cap rs (hrow.out W h) HOK.out)
   obtain⟨x4,hx4e⟩:∃x,eB rs=x:=⟨_,rfl⟩
   obtain⟨x5,hx5e⟩:∃x,eD rs=x:=⟨_,rfl⟩
   obtain⟨x6,hx6e⟩:∃x,fN rs=x:=⟨_,rfl⟩
   simp only[hx4e] at k4
   simp only[hx5e] at k5
   simp only[hx6e] at k6
   rw[hx4e,hx5e,hx6e] at HE2
   clear hx4e hx5e hx6e
   cases x4
   case true=>
    have HV:=NW (show dk rs=15 by rw[HE2.out];rfl)
    go_wp2_with(first
     |(go_at_call 90;go_must(refine(k4.out _ hx3).mono ?_);rintro e W4 ⟨rfl,hX4⟩;have hx4:Ext w0 W4:=hx3.tr hX4;have c4:=(R0.out.stays (hx4.stays (n0:=0) (Nat.zero_le _))).cell)
     |(go_at_call 87;go_must(refine(k3.out _ hx2).mono ?_);rintro e W3 ⟨rfl,hX3⟩;have hx3:Ext w0 W3:=hx2.tr hX3;have c3:=(R0.out.stays (hx3.stays (n0:=0) (Nat.zero_le _))).cell)
     |(go_at_call 83;go_must(refine(k2.out _ _ _ HS1.out).mono ?_);rintro e W2 ⟨rfl,hX2⟩;have hx2:Ext w0 W2:=hx1.tr hX2;have c2:=(R0.out.stays (hx2.stays (n0:=0) (Nat.zero_le _))).cell)
     |(go_at_call 84;go_must(refine k1.out.mono ?_);rintro e W1 ⟨A',cap',rfl,hS1,hx1⟩;have HS1:=NW hS1;clear hS1))
    go_ret
    exact⟨OT,E0.out.tr hx4⟩
   cases x5
   case false=>
    have HV:=NW (show dk rs=14 by rw[HE2.out];rfl)
    go_wp2_with(first
     |(go_at_call 91;go_must(refine(k5.out _ hx4).mono ?_);rintro e W5 ⟨rfl,hX5⟩;have hx5:Ext w0 W5:=hx4.tr hX5;have c5:=(R0.out.stays (hx5.stays (n0:=0) (Nat.zero_le _))).cell)
     |(go_at_call 90;go_must(refine(k4.out _ hx3).mono ?_);rintro e W4 ⟨rfl,hX4⟩;have hx4:Ext w0 W4:=hx3.tr hX4;have c4:=(R0.out.stays (hx4.stays (n0:=0) (Nat.zero_le _))).cell)
     |(go_at_call 87;go_must(refine(k3.out _ hx2).mono ?_);rintro e W3 ⟨rfl,hX3⟩;have hx3:Ext w0 W3:=hx2.tr hX3;have c3:=(R0.out.stays (hx3.stays (n0:=0) (Nat.zero_le _))).cell)
     |(go_at_call 83;go_must(refine(k2.out _ _ _ HS1.out).mono ?_);rintro e W2 ⟨rfl,hX2⟩;have hx2:Ext w0 W2:=hx1.tr hX2;have c2:=(R0.out.stays (hx2.stays (n0:=0) (Nat.zero_le _))).cell)
     |(go_at_call 84;go_must(refine k1.out.mono ?_);rintro e W1 ⟨A',cap',rfl,hS1,hx1⟩;have HS1:=NW hS1;clear hS1))
    go_ret
    exact⟨OT,E0.out.tr hx5⟩
   cases x6
   all_goals
    go_wp2_with(first
     |(go_at_call 92;go_must(refine(k6.out _ hx5).mono ?_);rintro e W6 ⟨rfl,hX6⟩;have hx6:Ext w0 W6:=hx5.tr hX6)
     |(go_at_call 91;go_must(refine(k5.out _ hx4).mono ?_);rintro e W5 ⟨rfl,hX5⟩;have hx5:Ext w0 W5:=hx4.tr hX5;have c5:=(R0.out.stays (hx5.stays (n0:=0) (Nat.zero_le _))).cell)
     |(go_at_call 90;go_must(refine(k4.out _ hx3).mono ?_);rintro e W4 ⟨rfl,hX4⟩;have hx4:Ext w0 W4:=hx3.tr hX4;have c4:=(R0.out.stays (hx4.stays (n0:=0) (Nat.zero_le _))).cell)
     |(go_at_call 87;go_must(refine(k3.out _ hx2).mono ?_);rintro e W3 ⟨rfl,hX3⟩;have hx3:Ext w0 W3:=hx2.tr hX3;have c3:=(R0.out.stays (hx3.stays (n0:=0) (Nat.zero_le _))).cell)
     |(go_at_call 83;go_must(refine(k2.out _ _ _ HS1.out).mono ?_);rintro e W2 ⟨rfl,hX2⟩;have hx2:Ext w0 W2:=hx1.tr hX2;have c2:=(R0.out.stays (hx2.stays (n0:=0) (Nat.zero_le _))).cell)
     |(go_at_call 84;go_must(refine k1.out.mono ?_);rintro e W1 ⟨A',cap',rfl,hS1,hx1⟩;have HS1:=NW hS1;clear hS1))
    go_ret
    exact⟨by rw[HE2.out];rfl,E0.out.tr hx6⟩
theorem yI(w:NY)(A:Option Addr)(cap:Nat)(rs:List (List Sd))(hr:dR w w.heap.size A cap rs)(hbig:rs.flatten.length≤4000000000):
  Of prog 94 #[.agg #[.slice A rs.length cap]] w fun e w'=>∃A' n cap' x,e= .returned (.tuple #[.slice A' n cap',.int .i64 x])∧(dk rs=0→n=rs.flatten.length∧x=0∧bC 7 w' w'.heap.size A' cap' (ak rs.flatten))∧(dk rs≠0→x=1)∧Ext w w':=by
 have E0:=NW (show Ext w (w.alloc (.cells #[.slice A rs.length cap] 24)) from(Below.refl _ _).alloc (NZ _) _)
 have R0:=NW (Bx.new w 24 (.slice A rs.length cap))
 have HR:=NW ((hr.below E0.out).more (B':=(w.alloc (.cells #[.slice A rs.length cap] 24)).heap.size) Ow)
 clear hr
 obtain⟨w0,hw0⟩:∃w0,w.alloc (.cells #[.slice A rs.length cap] 24)=w0:=⟨_,rfl⟩
 have k1:=NW (o7 w0 A cap rs (by rw[←hw0];exact HR.out) hbig)
 rw[hw0] at E0 R0 HR
 by_cases h0:dk rs=0
 ·have hne:∀r∈rs,r≠[]:=by
   intro r hr e
   have:rs.any (·.isEmpty)=Oc:=List.any_eq_true.2 ⟨r,hr,PS⟩
   unfold dk at h0
   rw[this] at h0
   simp at h0
  have hlen:rs.flatten.length≤1000:=by
   unfold dk at h0
   by_cases h24:24<rs.flatten.length
   ·rw[if_pos h24] at h0
    split at h0<;>simp at h0
   ·omega
  have k2:=NW (fun(W:NY) (h:Ext w0 W)=>nG W A cap rs ((HR.out.below h).more h.size) hne hlen)
  have H0:=NW h0
  rw[h0] at k1
  obtain⟨m,hm⟩:∃m,rs.flatten.length=m:=⟨_,rfl⟩
  rw[hm] at k2
  have HM:=NW hm
  clear h0 hne hlen hbig hm
  have HW:=NW hw0
  clear hw0
  go_enter func94,ntmps94
  go_wp2_with(first
   |(go_at_call 84;go_must(refine(k2.out _ hX1).mono ?_);rintro e W2 ⟨A',cap',rfl,hS2,hX2⟩;have HS2:=NW hS2;clear hS2)
   |(go_at_call 32;rw[HW.out];go_must(refine k1.out.mono ?_);rintro e W1 ⟨rfl,hX1⟩;have c1:=(R0.out.stays (hX1.stays (n0:=0) (Nat.zero_le _))).cell))
  go_ret2
  exact⟨_,_,_,_,rfl,fun _=>⟨HM.out.symm,rfl,HS2.out⟩,fun h=>absurd H0.out h,(E0.out.tr hX1).tr hX2⟩
 ·have H0:=NW h0
  obtain⟨c,hc⟩:∃c,dk rs=c:=⟨_,rfl⟩
  rw[hc] at k1 h0
  have h0':(c !=0)=Oc:=by rw[bne_iff_ne];exact h0
  have HW:=NW hw0
  clear hw0 hc h0
  go_enter func94,ntmps94
  go_wp2_with(go_at_call 32;rw[HW.out];go_must(refine k1.out.mono ?_);rintro e W1 ⟨rfl,hX1⟩)
  go_ret2
  exact⟨_,_,_,_,rfl,fun h=>absurd h H0.out,fun _=>rfl,E0.out.tr hX1⟩
end
section
open Kp
theorem eI(n a b:Int)(w:NY):Of prog 33 #[.int .i64 n,.int .i64 a,.int .i64 b] w fun e w'=>e= .returned (.bool (aF n a b))∧w'=w:=by
 cases h:decide (a≤n)
 ·have HR:=NW (show aF n a b=N1 by unfold aF;rw[h];rfl)
  go_enter func33,ntmps33
  go_wp2
  go_ret
  exact⟨OA,rfl⟩
 ·have HR:=NW (show aF n a b=decide (n≤b) by unfold aF;rw[h];rfl)
  go_enter func33,ntmps33
  go_wp2
  go_ret
  exact⟨OA,rfl⟩
theorem eL(n a b:Int)(w:NY):Of prog 101 #[.int .i64 n,.int .i64 a,.int .i64 b] w fun e w'=>e= .returned (.bool (aF n a b))∧w'=w:=by
 cases h:decide (a≤n)
 ·have HR:=NW (show aF n a b=N1 by unfold aF;rw[h];rfl)
  go_enter func101,ntmps101
  go_wp2
  go_ret
  exact⟨OA,rfl⟩
 ·have HR:=NW (show aF n a b=decide (n≤b) by unfold aF;rw[h];rfl)
  go_enter func101,ntmps101
  go_wp2
  go_ret
  exact⟨OA,rfl⟩
theorem dG(n a b:Int)(w:NY):Of prog 162 #[.int .i64 n,.int .i64 a,.int .i64 b] w fun e w'=>e= .returned (.bool (aF n a b))∧w'=w:=by
 cases h:decide (a≤n)
 ·have HR:=NW (show aF n a b=N1 by unfold aF;rw[h];rfl)
  go_enter func162,ntmps162
  go_wp2
  go_ret
  exact⟨OA,rfl⟩
 ·have HR:=NW (show aF n a b=decide (n≤b) by unfold aF;rw[h];rfl)
  go_enter func162,ntmps162
  go_wp2
  go_ret
  exact⟨OA,rfl⟩
theorem fQ(n a b:Int)(w:NY):Of prog 98 #[.int .i64 n,.int .i64 a,.int .i64 b] w fun e w'=>e= .returned (.bool (aF n a b))∧w'=w:=by
 cases h:decide (a≤n)
 ·have HR:=NW (show aF n a b=N1 by unfold aF;rw[h];rfl)
  go_enter func98,ntmps98
  go_wp2
  go_ret
  exact⟨OA,rfl⟩
 ·have HR:=NW (show aF n a b=decide (n≤b) by unfold aF;rw[h];rfl)
  go_enter func98,ntmps98
  go_wp2
  go_ret
  exact⟨OA,rfl⟩
theorem eK(n a b:Int)(w:NY):Of prog 50 #[.int .i64 n,.int .i64 a,.int .i64 b] w fun e w'=>e= .returned (.bool (!aF n a b))∧w'=w:=by
 cases h:decide (n<a)
 ·have HR:=NW (show(!aF n a b)=decide (b<n) by
   unfold aF
   rw[decide_eq_false_iff_not] at h
   rw[show decide (a≤n)=Oc by rw[decide_eq_true_eq];omega,Bool.true_and,←decide_not,decide_eq_decide];omega)
  go_enter func50,ntmps50
  go_wp2
  go_ret
  exact⟨OA,rfl⟩
 ·have HR:=NW (show(!aF n a b)=Oc by
   unfold aF
   rw[decide_eq_true_eq] at h
   rw[show decide (a≤n)=N1 by rw[decide_eq_false_iff_not];omega];rfl)
  go_enter func50,ntmps50
  go_wp2
  go_ret
  exact⟨OA,rfl⟩
theorem eQ(n a b:Int)(w:NY):Of prog 168 #[.int .i64 n,.int .i64 a,.int .i64 b] w fun e w'=>e= .returned (.bool (!aF n a b))∧w'=w:=by
 cases h:decide (n<a)
 ·have HR:=NW (show(!aF n a b)=decide (b<n) by
   unfold aF
   rw[decide_eq_false_iff_not] at h
   rw[show decide (a≤n)=Oc by rw[decide_eq_true_eq];omega,Bool.true_and,←decide_not,decide_eq_decide];omega)
  go_enter func168,ntmps168
  go_wp2
  go_ret
  exact⟨OA,rfl⟩
 ·have HR:=NW (show(!aF n a b)=Oc by
   unfold aF
   rw[decide_eq_true_eq] at h
   rw[show decide (a≤n)=N1 by rw[decide_eq_false_iff_not];omega];rfl)
  go_enter func168,ntmps168
  go_wp2
  go_ret
  exact⟨OA,rfl⟩
theorem gN(n a b:Int)(w:NY):Of prog 176 #[.int .i64 n,.int .i64 a,.int .i64 b] w fun e w'=>e= .returned (.bool (!aF n a b))∧w'=w:=by
 cases h:decide (n<a)
 ·have HR:=NW (show(!aF n a b)=decide (b<n) by
   unfold aF
   rw[decide_eq_false_iff_not] at h
   rw[show decide (a≤n)=Oc by rw[decide_eq_true_eq];omega,Bool.true_and,←decide_not,decide_eq_decide];omega)
  go_enter func176,ntmps176
  go_wp2
  go_ret
  exact⟨OA,rfl⟩
 ·have HR:=NW (show(!aF n a b)=Oc by
   unfold aF
   rw[decide_eq_true_eq] at h
   rw[show decide (a≤n)=N1 by rw[decide_eq_false_iff_not];omega];rfl)
  go_enter func176,ntmps176
  go_wp2
  go_ret
  exact⟨OA,rfl⟩
theorem gE(n a b:Int)(w:NY):Of prog 114 #[.int .i64 n,.int .i64 a,.int .i64 b] w fun e w'=>e= .returned (.bool (!aF n a b))∧w'=w:=by
 cases h:decide (n<a)
 ·have HR:=NW (show(!aF n a b)=decide (b<n) by
   unfold aF
   rw[decide_eq_false_iff_not] at h
   rw[show decide (a≤n)=Oc by rw[decide_eq_true_eq];omega,Bool.true_and,←decide_not,decide_eq_decide];omega)
  go_enter func114,ntmps114
  go_wp2
  go_ret
  exact⟨OA,rfl⟩
 ·have HR:=NW (show(!aF n a b)=Oc by
   unfold aF
   rw[decide_eq_true_eq] at h
   rw[show decide (a≤n)=N1 by rw[decide_eq_false_iff_not];omega];rfl)
  go_enter func114,ntmps114
  go_wp2
  go_ret
  exact⟨OA,rfl⟩
end
section
open Kp
noncomputable def mB(rs:List (List Sd))(l:List jD):Int:=
 if(jJ l).2≠0 then(jJ l).2 else if dk rs≠0 then 1 else if l.any (fun o=> !aF o.side 0 ((rs.flatten.length:Int)-1)) then 2 else if(jJ l).1 then 0 else 28
theorem yX(o:jD)(w:NY)(B:Nat)(A:Option Addr)(n cap:Nat)(hn:n≤4000000000)(hb:Bx w B 73 (.slice A n cap)):
  Of prog 96 #[.agg (qg o).toArray,.pointer (N3 ⟨B,0,N0⟩)] w fun e w'=>e= .returned (.bool (!aF o.side 0 ((n:Int)-1)))∧Ext w w':=by
 have c:=hb.cell
 have hz:=hb.lt
 have E0:=NW (show Ext w (w.alloc (.cells (qg o).toArray 39)) from(Below.refl _ _).alloc (NZ _) _)
 have w1:Oe.wrap ((n:Int)-1)=(n:Int)-1:=Om _ Ot
 have K:=NW (fun W=>eI o.side 0 ((n:Int)-1) W)
 obtain⟨r,hr⟩:∃r,aF o.side 0 ((n:Int)-1)=r:=⟨_,rfl⟩
 simp only[hr] at K⊢
 clear hb hr
 go_enter func96,ntmps96
 go_wp2_with(go_at_call 33;go_must(refine(K.out _).mono ?_);rintro e W1 ⟨rfl,rfl⟩)
 go_ret
 exact⟨rfl,E0.out⟩
theorem If(l:List jD)(w:NY)(B:Nat)(A:Option Addr)(n cap:Nat)(hn:n≤4000000000)(hb:Bx w B 73 (.slice A n cap)):
  sH 96 #[.pointer (N3 ⟨B,0,N0⟩)] 5 (aO l) (fun i=> !aF (l.getD i fK).side 0 ((n:Int)-1)) w:=by
 intro W i hi hx
 rw[N9] at hi
 rw[kn hi]
 exact yX _ W B A n cap hn (hb.stays (hx.stays (n0:=0) (Nat.zero_le _)))
theorem qG(w:NY)(A:Option Addr)(cap:Nat)(rs:List (List Sd))(A2:Option Addr)(cap2:Nat)(l:List jD)(hr:dR w w.heap.size A cap rs)(hbig:rs.flatten.length≤4000000000)
  (hl:bC 5 w w.heap.size A2 cap2 (aO l))(hs:∀o∈l,uk o)(hm:fl w)(ht:aL w):
  Of prog 37 #[.agg #[.slice A rs.length cap],.slice A2 l.length cap2] w fun e w'=>e= .returned (.int .i64 (mB rs l))∧Ext w w':=by
 have E0:=NW (show Ext w (w.alloc (.cells #[.slice A rs.length cap] 24)) from(Below.refl _ _).alloc (NZ _) _)
 have R0:=NW (Bx.new w 24 (.slice A rs.length cap))
 have HR:=NW (fun(W:NY) (h:Ext w W)=>((hr.below h).more h.size:dR W W.heap.size A cap rs))
 have HL:=NW (fun(W:NY) (h:Ext w W)=>((hl.below h).more h.size:bC 5 W W.heap.size A2 cap2 (aO l)))
 have HM:=NW hm
 have HT:=NW ht
 have h1:=hl.1
 have h2:=hl.2.1
 rw[N9] at h1
 unfold Ol at h2
 have HS:=NW hs
 have KD:=NW (fun(W:NY) (h:Ext w W)=>qn W A2 cap2 l (HL.out W h) HS.out (HM.out.below h (NZ _)) (HT.out.below h (NZ _)))
 have KP:=NW (fun(W:NY) (h:Ext w W)=>yI W A cap rs (HR.out W h) hbig)
 have HV:=NW (show mB rs l=if(jJ l).2≠0 then(jJ l).2 else if dk rs≠0 then 1 else if l.any (fun o=> !aF o.side 0 ((rs.flatten.length:Int)-1)) then 2 else if(jJ l).1 then 0 else 28 from rfl)
 obtain⟨⟨d,c⟩,hd⟩:∃r,jJ l=r:=⟨_,rfl⟩
 obtain⟨p,hp⟩:∃r,dk rs=r:=⟨_,rfl⟩
 rw[hd,hp] at HV
 simp only[hd] at KD
 simp only[hp] at KP
 dsimp only at HV
 obtain⟨n,hn⟩:∃n,rs.flatten.length=n:=⟨_,rfl⟩
 rw[hn] at HV hbig
 simp only[hn] at KP
 have KC:=NW (fun(W:NY) (h:Ext w W) (B:Nat) (A':Option Addr) (cap':Nat) (hb:Bx W B 73 (.slice A' n cap'))=>
  tW W A2 cap2 l.length (aO l) (by rw[N9]) (HL.out W h) (j7 l) (fun i=> !aF (l.getD i fK).side 0 ((n:Int)-1)) 96 #[.pointer (N3 ⟨B,0,N0⟩)] (enters_of func96 Ou rfl) (If l W B A' n cap' hbig hb))
 have hany:dt (fun i=> !aF (l.getD i fK).side 0 ((n:Int)-1)) l.length=l.any (fun o=> !aF o.side 0 ((n:Int)-1)):=ot l fK (fun o=> !aF o.side 0 ((n:Int)-1))
 obtain⟨x,hx⟩:∃x,l.any (fun o=> !aF o.side 0 ((n:Int)-1))=x:=⟨_,rfl⟩
 rw[hx] at HV hany
 simp only[hany] at KC
 clear hr hl hm ht hs hd hp hn hany hx
 by_cases hc:c=0
 ·have HV2:=NW (show mB rs l=if p≠0 then 1 else if x then 2 else if d then 0 else 28 by rw[HV.out,if_neg (fun h=>h hc)])
  subst hc
  by_cases hp0:p=0
  ·have HV3:=NW (show mB rs l=if x then 2 else if d then 0 else 28 by rw[HV2.out,if_neg (fun h=>h hp0)])
   subst hp0
   cases x
   ·cases d
    all_goals
     go_enter func37,ntmps37
     go_wp2_with(first
      |(go_at_call 93;go_must(refine(KD.out _ E0.out).mono ?_);rintro e W1 ⟨rfl,hX1⟩;have q1:=(R0.out.stays (hX1.stays (n0:=0) (Nat.zero_le _))).cell;have HX1:=NW (Ext.tr E0.out hX1);clear hX1)
      |(go_at_call 94;go_must(refine(KP.out _ HX1.out).mono ?_);rintro e W2 ⟨A',n',cap',x',rfl,ja,nl,hX2⟩;obtain⟨rfl,rfl,_⟩:=ja trivial;have HX2:=NW ((Ext.tr HX1.out hX2).alloc (Ext.tr HX1.out hX2).size (.cells #[.slice A' n' cap'] 73));have B2:=NW (Bx.new W2 73 (.slice A' n' cap'));clear hX2 ja nl)
      |(go_at_call 95;go_must(refine(KC.out _ HX2.out _ _ _ B2.out).mono ?_);rintro e W3 ⟨rfl,hX3⟩))
     go_ret
     exact⟨by rw[HV3.out];rfl,Ext.tr HX2.out hX3⟩
   ·go_enter func37,ntmps37
    go_wp2_with(first
     |(go_at_call 93;go_must(refine(KD.out _ E0.out).mono ?_);rintro e W1 ⟨rfl,hX1⟩;have q1:=(R0.out.stays (hX1.stays (n0:=0) (Nat.zero_le _))).cell;have HX1:=NW (Ext.tr E0.out hX1);clear hX1)
     |(go_at_call 94;go_must(refine(KP.out _ HX1.out).mono ?_);rintro e W2 ⟨A',n',cap',x',rfl,ja,nl,hX2⟩;obtain⟨rfl,rfl,_⟩:=ja trivial;have HX2:=NW ((Ext.tr HX1.out hX2).alloc (Ext.tr HX1.out hX2).size (.cells #[.slice A' n' cap'] 73));have B2:=NW (Bx.new W2 73 (.slice A' n' cap'));clear hX2 ja nl)
     |(go_at_call 95;go_must(refine(KC.out _ HX2.out _ _ _ B2.out).mono ?_);rintro e W3 ⟨rfl,hX3⟩))
    go_ret
    exact⟨by rw[HV3.out];rfl,Ext.tr HX2.out hX3⟩
  ·have HV3:=NW (show mB rs l=1 by rw[HV2.out,if_pos hp0])
   have HP0:=NW hp0
   clear hp0
   go_enter func37,ntmps37
   go_wp2_with(first
    |(go_at_call 93;go_must(refine(KD.out _ E0.out).mono ?_);rintro e W1 ⟨rfl,hX1⟩;have q1:=(R0.out.stays (hX1.stays (n0:=0) (Nat.zero_le _))).cell;have HX1:=NW (Ext.tr E0.out hX1);clear hX1)
    |(go_at_call 94;go_must(refine(KP.out _ HX1.out).mono ?_);rintro e W2 ⟨A',n',cap',x',rfl,ja,nl,hX2⟩;obtain rfl:=nl HP0.out;have HX2:=NW (Ext.tr HX1.out hX2);clear hX2 ja nl))
   go_ret
   exact⟨by rw[HV3.out];rfl,HX2.out.alloc HX2.out.size _⟩
 ·have HV2:=NW (show mB rs l=c by rw[HV.out,if_pos hc])
  have tc:(c !=0)=Oc:=by rw[bne_iff_ne];exact hc
  clear hc
  go_enter func37,ntmps37
  go_wp2_with(go_at_call 93;go_must(refine(KD.out _ E0.out).mono ?_);rintro e W1 ⟨rfl,hX1⟩)
  go_ret
  exact⟨by rw[HV2.out];rfl,Ext.tr E0.out hX1⟩
end
end Go.Proofs.YtnpihidbkhehjaaGreatDoor
