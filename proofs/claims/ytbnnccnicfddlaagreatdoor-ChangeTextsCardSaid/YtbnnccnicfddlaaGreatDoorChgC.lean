/- timber.Kinds; change.writer.write: the sizes, the removed, the bars. · change.writer.write: the bars. -/
import Derived.Test.YtbnnccnicfddlaaGreatDoorChgB
import Derived.Test.YtbnnccnicfddlaaGreatDoorMap1
import Derived.Deep.RegionWith
set_option linter.unusedSimpArgs false
set_option linter.unusedVariables false
namespace Go.Proofs.YtbnnccnicfddlaaGreatDoor
open Go.RowKit Go.Shelf Kp
attribute [local go_sem] edC_size edC_0 edC_1 edC_14 edC_15 edC_16 edC_17 edC_18 edC_19 edC_20 edC_21 edC_22 edC_35

def KdPost (w : World) (e : Ending) (w' : World) : Prop :=
  ∃ g cap, e = .returned (.slice (some ⟨g, 0, none⟩) 12 cap) ∧ w.heap.size ≤ g ∧ (∃ cur : Array Value, w'.heap[g]? = some (.cells cur 9 (0, 0))) ∧ (∀ j, j < 12 → w'.cell? ⟨g, j, none⟩ = some (.string (tx (kindWs.getD j [])))) ∧ 12 ≤ cap ∧ cap ≤ maxLen ∧ Below w.heap.size w w'
theorem clone_kinds (w : World) (hg : Gl w) : Calls Tryz.prog 23 #[.slice (some ⟨0, 1, none⟩) 12 12] w (KdPost w) := by
  refine (Tryz.slices_Clone_string 0 1 12 12 (kindWs.map tx) w (by decide) (by decide) (fun j hj => ?_)).mono ?_
  · have hj' : j < 12 := by simpa [kindWs] using hj
    rw [hg.wrd j hj']
    congr 2
    rw [List.getD_eq_getElem?_getD, List.getD_eq_getElem?_getD, List.getElem?_map]
    have : j < kindWs.length := hj'
    rw [List.getElem?_eq_getElem this]; rfl
  · rintro e w' ⟨v, rfl, hown, hne, hB⟩
    obtain ⟨hl, ⟨hv, h0⟩ | ⟨g, cap, cur, hv, hbg, hh, hnc, hcm, hcs, htk⟩⟩ := hown
    · cases h0
    · refine ⟨g, cap, by rw [hv], hbg, ⟨cur, hh⟩, fun j hj => ?_, hnc, hcm, hB⟩
      have h1 : w'.cell? ⟨g, j, none⟩ = cur[j]? := by simp [World.cell?, hh]
      rw [h1]
      have h2 : (cur.toList.take (12 * 1))[j]? = ((kindWs.map tx).take 12 |>.map Value.string)[j]? := by rw [htk]
      rw [List.getElem?_take, if_pos (by omega)] at h2
      rw [Array.getElem?_toList] at h2
      rw [h2]
      have h3 : ∀ n : Fin 12, ((kindWs.map tx).take 12 |>.map Value.string)[n.1]? = some (.string (tx (kindWs.getD n.1 []))) := by
        intro n
        match n with
        | ⟨0, _⟩ => rfl
        | ⟨1, _⟩ => rfl
        | ⟨2, _⟩ => rfl
        | ⟨3, _⟩ => rfl
        | ⟨4, _⟩ => rfl
        | ⟨5, _⟩ => rfl
        | ⟨6, _⟩ => rfl
        | ⟨7, _⟩ => rfl
        | ⟨8, _⟩ => rfl
        | ⟨9, _⟩ => rfl
        | ⟨10, _⟩ => rfl
        | ⟨11, _⟩ => rfl
      exact h3 ⟨j, hj⟩
set_option maxRecDepth 100000 in
set_option maxHeartbeats 1000000 in
theorem kinds_any (w : World) (hg : Gl w) : Calls Tryz.prog 14 #[] w (KdPost w) := by
  have cc := Lib.hid (clone_kinds w hg)
  clear hg
  go_enter Tryz.func14, Tryz.ntmps14
  go_wp2_with (go_at_call 23; refine cc.out.mono ?_; rintro e w1 ⟨g, cap, rfl, h1, h2, h3, h4, h5, h6⟩)
  go_ret
  exact ⟨g, cap, rfl, h1, h2, h3, h4, h5, h6⟩

theorem Gl.drew {w : World} (h : Gl w) : Gl w.drew := h.keep (B := 9) (Below.refl 9 w).drew (Nat.le_refl _)

set_option maxRecDepth 100000 in
set_option maxHeartbeats 4000000 in
theorem write_6 (B b : Nat) (e : Ed) (ga : Option Addr) (gl gc : Nat) (w : World) (h : Wrt B b 0 0 [] w) (hs : Sized e) (hk : e.kind = 6) (hz : 1 ≤ e.zkind ∧ e.zkind ≤ 12) (hg : Gl w) (hB : 9 ≤ B) (hBw : B ≤ w.heap.size) :
    Calls Tryz.prog 15 #[slf b, .agg (edC e (.slice ga gl gc))] w (WPost B b e w) := by
  have k1 : (e.kind == 1) = false := by rw [hk]; rfl
  have k2 : (e.kind == 2) = false := by rw [hk]; rfl
  have k3 : (e.kind == 3) = false := by rw [hk]; rfl
  have k4 : (e.kind == 4) = false := by rw [hk]; rfl
  have k5 : (e.kind == 5) = false := by rw [hk]; rfl
  have k6 : (e.kind == 6) = true := by rw [hk]; rfl
  have k7 : (e.kind == 7) = false := by rw [hk]; rfl
  have k8 : (e.kind == 8) = false := by rw [hk]; rfl
  have k9 : (e.kind == 9) = false := by rw [hk]; rfl
  have k10 : (e.kind == 10) = false := by rw [hk]; rfl
  have k11 : (e.kind == 11) = false := by rw [hk]; rfl
  have k12 : (e.kind == 12) = false := by rw [hk]; rfl
  have HI := Lib.hid (show intsOf e = [e.zwidth, e.zdepth] by unfold intsOf; rw [hk]; simp)
  have HNM := Lib.hid (show numsOf e = [] by unfold numsOf; rw [hk]; simp)
  have HH := Lib.hid (show headsOf e = [wSize, kindW e.zkind] by unfold headsOf; rw [hk]; simp)
  have HIN := Lib.hid (show ∀ n ∈ ([e.zwidth, e.zdepth] : List Int), in64 n by have := hs.ints; rw [HI.out] at this; exact this)
  obtain ⟨hz1, hz2⟩ := hz
  obtain ⟨j, hj⟩ : ∃ j : Nat, e.zkind - 1 = (j : Int) := ⟨(e.zkind - 1).toNat, by omega⟩
  have hj12 : j < 12 := by omega
  have HKW := Lib.hid (show kindWs.getD j [] = kindW e.zkind by unfold kindW; rw [hj]; rfl)
  have hkl : (kindW e.zkind).length ≤ 16 := by
    rw [← HKW.out]
    have : ∀ n : Fin 12, (kindWs.getD n.1 []).length ≤ 16 := by decide +kernel
    exact this ⟨j, hj12⟩
  have hbl := h.lt
  have HA := Lib.hid (h.alloc (.cells (edC e (.slice ga gl gc)) 39))
  have E0 := Lib.hid (EdAt.new w e (.slice ga gl gc))
  have HK0 := Lib.hid (BdKeep.alloc (B := B) (b := b) w hBw (.cells (edC e (.slice ga gl gc)) 39))
  have HG := Lib.hid hg
  have hwr : IntKind.i64.wrap (e.zkind - 1) = (j : Int) := by rw [hj]; exact wr64 (by omega) (by omega)
  clear h hs hg hk hj
  go_enter Tryz.func15, Tryz.ntmps15
  go_upto_region 26 with (go_at_call 24; refine (wword_any B b 0 0 [] wSize _ HA.out (by decide) (by simp; omega)).mono ?_; rintro r W1 ⟨rfl, hw1, hk1⟩; have E1 := Lib.hid (E0.out.bd hk1 (by omega)); have ec1 := fun i => E1.out.cell i; have hz1 := hk1.low.size; simp only [World.size_alloc] at hz1; have HW1 := Lib.hid hw1; have HK1 := Lib.hid (HK0.out.trans hk1); clear hw1 hk1)
  go_region_with (first
    | (go_at_call 14; go_loud (refine (kinds_any _ (HG.out.keep HK1.out.low hB).drew).mono ?_; rintro r W2 ⟨g, cap, rfl, hg1, ⟨cur, hg2⟩, hg3, hg4, hg5, hg6⟩; have HB2 := Lib.hid ((Below.refl _ W1).drew.trans hg6); have E2 := Lib.hid (E1.out.below HB2.out E1.out.lt); have ec2 := fun i => E2.out.cell i; have hcj := hg3 j hj12; have hz2 := HB2.out.size; clear hg2 hg3 hg6; unfold maxLen at hg5))
    | (go_at_call 24; go_loud (refine (wword_any B b 0 0 _ (kindWs.getD j []) _ (HW1.out.below HB2.out) (by rw [HKW.out]; show 4 + _ ≤ _; omega) (by omega)).mono ?_; rintro r W3 ⟨rfl, hw3, hk3⟩; have E3 := Lib.hid (E2.out.bd hk3 (by omega)); have ec3 := fun i => E3.out.cell i; have hz3 := hk3.low.size; have HW3 := Lib.hid hw3; have HK3 := Lib.hid ((HK1.out.trans (BdKeep.of_below HB2.out (by omega))).trans hk3); clear hw3 hk3)))
  all_goals
    go_wp2_with (go_at_call 25; go_must (refine (wints_any B b _ 3 0 0 _ [e.zwidth, e.zdepth] _ _ (HW3.out.alloc _) (RowAt.new W3 _ (intV [e.zwidth, e.zdepth])) (by have := HW3.out.lt; omega) (by decide) HIN.out (by rw [HKW.out]; have := addW_len (addW [] wSize) (kindW e.zkind); have h4 : (addW [] wSize).length = 4 := rfl; show _ + 21 * 2 ≤ _; omega) (by simp; omega) ((HG.out.keep HK3.out.low hB).keep ((Below.refl _ _).alloc (Nat.le_refl _) _) (by omega)) hB).mono ?_); rintro r W4 ⟨rfl, hw4, hk4⟩)
    go_end0
    refine ⟨rfl, ?_, (HK3.out.trans (BdKeep.alloc W3 (by omega) _)).trans hk4⟩
    rw [HI.out, HNM.out]
    unfold wordsOf
    rw [HI.out, HNM.out, HH.out]
    rw [HKW.out] at hw4
    simp only [List.append_nil]
    exact hw4

theorem remW_len (n : Int) : (remW n).length ≤ 16 := by
  unfold remW
  repeat' split
  all_goals decide

set_option maxRecDepth 100000 in
set_option maxHeartbeats 4000000 in
theorem write_12 (B b : Nat) (e : Ed) (ga : Option Addr) (gl gc : Nat) (w : World) (h : Wrt B b 0 0 [] w) (hs : Sized e) (hk : e.kind = 12) (hg : Gl w) (hB : 9 ≤ B) (hBw : B ≤ w.heap.size) :
    Calls Tryz.prog 15 #[slf b, .agg (edC e (.slice ga gl gc))] w (WPost B b e w) := by
  have k1 : (e.kind == 1) = false := by rw [hk]; rfl
  have k2 : (e.kind == 2) = false := by rw [hk]; rfl
  have k3 : (e.kind == 3) = false := by rw [hk]; rfl
  have k4 : (e.kind == 4) = false := by rw [hk]; rfl
  have k5 : (e.kind == 5) = false := by rw [hk]; rfl
  have k6 : (e.kind == 6) = false := by rw [hk]; rfl
  have k7 : (e.kind == 7) = false := by rw [hk]; rfl
  have k8 : (e.kind == 8) = false := by rw [hk]; rfl
  have k9 : (e.kind == 9) = false := by rw [hk]; rfl
  have k10 : (e.kind == 10) = false := by rw [hk]; rfl
  have k11 : (e.kind == 11) = false := by rw [hk]; rfl
  have k12 : (e.kind == 12) = true := by rw [hk]; rfl
  have HI := Lib.hid (show intsOf e = [e.index] by unfold intsOf; rw [hk]; simp)
  have HNM := Lib.hid (show numsOf e = [] by unfold numsOf; rw [hk]; simp)
  have HH := Lib.hid (show headsOf e = [wRemove, remW e.number] by unfold headsOf; rw [hk]; simp)
  have HIN := Lib.hid (show ∀ n ∈ ([e.index] : List Int), in64 n by have := hs.ints; rw [HI.out] at this; exact this)
  have hrl := remW_len e.number
  have hbl := h.lt
  have HA := Lib.hid (h.alloc (.cells (edC e (.slice ga gl gc)) 39))
  have E0 := Lib.hid (EdAt.new w e (.slice ga gl gc))
  have HK0 := Lib.hid (BdKeep.alloc (B := B) (b := b) w hBw (.cells (edC e (.slice ga gl gc)) 39))
  have HG := Lib.hid hg
  clear h hs hg hk
  go_enter Tryz.func15, Tryz.ntmps15
  go_upto_region 3 with (go_at_call 24; refine (wword_any B b 0 0 [] wRemove _ HA.out (by decide) (by simp; omega)).mono ?_; rintro r W1 ⟨rfl, hw1, hk1⟩; have E1 := Lib.hid (E0.out.bd hk1 (by omega)); have ec1 := fun i => E1.out.cell i; have hz1 := hk1.low.size; simp only [World.size_alloc] at hz1; have HW1 := Lib.hid hw1; have HK1 := Lib.hid (HK0.out.trans hk1); clear hw1 hk1)
  go_region_with (first
    | (go_at_call 12; go_loud (refine (removed_any _).mono ?_; rintro r W2 ⟨rfl, hW2⟩; have HB2 := Lib.hid (show Below W1.heap.size W1 W2 by rw [hW2]; exact (Below.refl _ W1).drew.alloc (Nat.le_refl _) _); have hlk := rem_look W2 W1.heap.size 6 (by rw [hW2]; exact World.alloc_heap_new W1.drew _) e.number false; have E2 := Lib.hid (E1.out.below HB2.out E1.out.lt); have ec2 := fun i => E2.out.cell i; have hz2 := HB2.out.size; simp only [Bool.false_eq_true, if_false] at hlk; clear hW2))
    | (go_at_call 24; go_loud (refine (wword_any B b 0 0 _ (remW e.number) _ (HW1.out.below HB2.out) (by show 6 + _ ≤ _; omega) (by omega)).mono ?_; rintro r W3 ⟨rfl, hw3, hk3⟩; have E3 := Lib.hid (E2.out.bd hk3 (by omega)); have ec3 := fun i => E3.out.cell i; have hz3 := hk3.low.size; have HW3 := Lib.hid hw3; have HK3 := Lib.hid ((HK1.out.trans (BdKeep.of_below HB2.out (by omega))).trans hk3); clear hw3 hk3)))
  all_goals
    go_wp2_with (go_at_call 25; go_must (refine (wints_any B b _ 3 0 0 _ [e.index] _ _ (HW3.out.alloc _) (RowAt.new W3 _ (intV [e.index])) (by have := HW3.out.lt; omega) (by decide) HIN.out (by have := addW_len (addW [] wRemove) (remW e.number); have h4 : (addW [] wRemove).length = 6 := rfl; show _ + 21 * 1 ≤ _; omega) (by simp; omega) ((HG.out.keep HK3.out.low hB).keep ((Below.refl _ _).alloc (Nat.le_refl _) _) (by omega)) hB).mono ?_); rintro r W4 ⟨rfl, hw4, hk4⟩)
    go_end0
    refine ⟨rfl, ?_, (HK3.out.trans (BdKeep.alloc W3 (by omega) _)).trans hk4⟩
    rw [HI.out, HNM.out]
    unfold wordsOf
    rw [HI.out, HNM.out, HH.out]
    simp only [List.append_nil]
    exact hw4
end Go.Proofs.YtbnnccnicfddlaaGreatDoor
namespace Go.Proofs.YtbnnccnicfddlaaGreatDoor
open Go.RowKit Go.Shelf Kp
attribute [local go_sem] edC_size edC_0 edC_1 edC_17 edC_18 edC_19 edC_20 edC_21 edC_22

/-- a slice of gaps that reads as l, its cells below block B -/
def GapAt (w : World) (B : Nat) (ga : Option Addr) (gc : Nat) (l : List (Int × Int)) : Prop :=
  l.length ≤ gc ∧ gc ≤ maxLen ∧ (0 < l.length → ∃ gb go, ga = some ⟨gb, go, none⟩ ∧ gb < B ∧ ∀ j (hj : j < l.length), w.cell? ⟨gb, go + 2 * j, none⟩ = some (.int .i64 (l[j]'hj).1) ∧ w.cell? ⟨gb, go + 2 * j + 1, none⟩ = some (.int .i64 (l[j]'hj).2))
theorem GapAt.below {w w' : World} {B : Nat} {ga : Option Addr} {gc : Nat} {l : List (Int × Int)} (h : GapAt w B ga gc l) (hb : Below B w w') : GapAt w' B ga gc l := by
  refine ⟨h.1, h.2.1, fun h0 => ?_⟩
  obtain ⟨gb, go, e, hg, hc⟩ := h.2.2 h0
  exact ⟨gb, go, e, hg, fun j hj => ⟨(hb.cell hg).trans (hc j hj).1, (hb.cell hg).trans (hc j hj).2⟩⟩
theorem GapAt.more {w : World} {B B' : Nat} {ga : Option Addr} {gc : Nat} {l : List (Int × Int)} (h : GapAt w B ga gc l) (hb : B ≤ B') : GapAt w B' ga gc l := by
  refine ⟨h.1, h.2.1, fun h0 => ?_⟩
  obtain ⟨gb, go, e, hg, hc⟩ := h.2.2 h0
  exact ⟨gb, go, e, by omega, hc⟩
theorem RowAt.new1 (w : World) (o : Obj) (T : TypeId) (l : List Value) : RowAt ((w.alloc o).alloc (.cells l.toArray T)) (w.heap.size + 1) T l := by
  have := RowAt.new (w.alloc o) T l
  rw [World.size_alloc] at this
  exact this
theorem gapI_snoc (l : List (Int × Int)) (g : Int × Int) : gapI (l ++ [g]) = gapI l ++ [g.1, g.2] := by simp [gapI]
theorem gapI_len (l : List (Int × Int)) : (gapI l).length = 2 * l.length := by
  unfold gapI
  induction l with
  | nil => rfl
  | cons g l ih => simp [ih]; omega
theorem wideE_app (x : Int) (a b : List Int) : wideE x (a ++ b) = wideE (wideE x a) b := by
  unfold wideE
  rw [List.any_append]
  cases a.any outI <;> cases b.any outI <;> rfl

/-- what holds behind k gaps -/
structure GapR (B b : Nat) (e : Ed) (w : World) (i : Value) (wr : World) : Prop where
  ex : ∃ k : Nat, k ≤ e.gaps.length ∧ i = .int .i64 (k : Int) ∧ Wrt B b (wideE 0 ([e.index, e.bwidth, e.bdepth, e.blength, e.bcount, e.bcost] ++ gapI (e.gaps.take k))) 0 (addWs [] (wBar :: intW ([e.index, e.bwidth, e.bdepth, e.blength, e.bcount, e.bcost] ++ gapI (e.gaps.take k)))) wr
  keep : BdKeep B b w wr

set_option maxRecDepth 100000 in
set_option maxHeartbeats 4000000 in
theorem write_7 (B b : Nat) (e : Ed) (ga : Option Addr) (gc : Nat) (w : World) (h : Wrt B b 0 0 [] w) (hs : Sized e) (hk : e.kind = 7) (hgp : GapAt w B ga gc e.gaps) (h16 : e.gaps.length ≤ 16) (hg : Gl w) (hB : 9 ≤ B) (hBw : B ≤ w.heap.size) :
    Calls Tryz.prog 15 #[slf b, .agg (edC e (.slice ga e.gaps.length gc))] w (WPost B b e w) := by
  have k1 : (e.kind == 1) = false := by rw [hk]; rfl
  have k2 : (e.kind == 2) = false := by rw [hk]; rfl
  have k3 : (e.kind == 3) = false := by rw [hk]; rfl
  have k4 : (e.kind == 4) = false := by rw [hk]; rfl
  have k5 : (e.kind == 5) = false := by rw [hk]; rfl
  have k6 : (e.kind == 6) = false := by rw [hk]; rfl
  have k7 : (e.kind == 7) = true := by rw [hk]; rfl
  have k8 : (e.kind == 8) = false := by rw [hk]; rfl
  have k9 : (e.kind == 9) = false := by rw [hk]; rfl
  have k10 : (e.kind == 10) = false := by rw [hk]; rfl
  have k11 : (e.kind == 11) = false := by rw [hk]; rfl
  have k12 : (e.kind == 12) = false := by rw [hk]; rfl
  have HI := Lib.hid (show intsOf e = [e.index, e.bwidth, e.bdepth, e.blength, e.bcount, e.bcost] ++ gapI e.gaps by unfold intsOf; rw [hk]; simp)
  have HNM := Lib.hid (show numsOf e = [] by unfold numsOf; rw [hk]; simp)
  have HH := Lib.hid (show headsOf e = [wBar] by unfold headsOf; rw [hk]; simp)
  have HINT := Lib.hid (show ∀ n ∈ [e.index, e.bwidth, e.bdepth, e.blength, e.bcount, e.bcost] ++ gapI e.gaps, in64 n by have := hs.ints; rw [HI.out] at this; exact this)
  have HIN := Lib.hid (show ∀ n ∈ ([e.index, e.bwidth, e.bdepth, e.blength, e.bcount, e.bcost] : List Int), in64 n from fun n hn => HINT.out n (List.mem_append_left _ hn))
  have hbl := h.lt
  have HA2 := Lib.hid ((h.alloc (.cells (edC e (.slice ga e.gaps.length gc)) 39)).alloc (.cells (([.int .i64 e.bwidth, .int .i64 e.bdepth, .int .i64 e.blength, .int .i64 e.bcount, .int .i64 e.bcost, .slice ga e.gaps.length gc] : List Value)).toArray 31))
  have E0 := Lib.hid ((EdAt.new w e (.slice ga e.gaps.length gc)).alloc (.cells (([.int .i64 e.bwidth, .int .i64 e.bdepth, .int .i64 e.blength, .int .i64 e.bcount, .int .i64 e.bcost, .slice ga e.gaps.length gc] : List Value)).toArray 31))
  have A0 := Lib.hid (RowAt.new (w.alloc (.cells (edC e (.slice ga e.gaps.length gc)) 39)) 31 [.int .i64 e.bwidth, .int .i64 e.bdepth, .int .i64 e.blength, .int .i64 e.bcount, .int .i64 e.bcost, .slice ga e.gaps.length gc])
  have HK00 := Lib.hid ((BdKeep.alloc (B := B) (b := b) w hBw (.cells (edC e (.slice ga e.gaps.length gc)) 39)).trans (BdKeep.alloc (w.alloc (.cells (edC e (.slice ga e.gaps.length gc)) 39)) (by simp; omega) (.cells (([.int .i64 e.bwidth, .int .i64 e.bdepth, .int .i64 e.blength, .int .i64 e.bcount, .int .i64 e.bcost, .slice ga e.gaps.length gc] : List Value)).toArray 31)))
  have HG := Lib.hid hg
  have HGP := Lib.hid hgp
  clear h hs hg hk hgp
  go_enter Tryz.func15, Tryz.ntmps15
  go_wp2_with (first
    | (go_at_call 24; refine (wword_any B b 0 0 [] wBar _ HA2.out (by decide) (by simp; omega)).mono ?_; rintro r W1 ⟨rfl, hw1, hk1⟩; have A1 := Lib.hid (A0.out.bd hk1 (by simp; omega) (by decide)); have ac1 := fun i => A1.out.cell i; simp only [World.size_alloc] at ac1; have E1 := Lib.hid (E0.out.bd hk1 (by omega)); have ec1 := fun i => E1.out.cell i; have hz1 := hk1.low.size; simp only [World.size_alloc] at hz1; have HW1 := Lib.hid hw1; have HK1 := Lib.hid (HK00.out.trans hk1); clear hw1 hk1)
    | (go_at_call 25; go_must (refine (wints_any B b _ 3 0 0 _ [e.index, e.bwidth, e.bdepth, e.blength, e.bcount, e.bcost] _ _ (HW1.out.alloc _) (RowAt.new W1 _ (intV [e.index, e.bwidth, e.bdepth, e.blength, e.bcount, e.bcost])) (by have := HW1.out.lt; omega) (by decide) HIN.out (by show _ + 21 * 6 ≤ _; decide) (by simp; omega) ((HG.out.keep HK1.out.low hB).keep ((Below.refl _ _).alloc (Nat.le_refl _) _) (by omega)) hB).mono ?_); rintro r W2 ⟨rfl, hw2, hk2⟩; have A2 := Lib.hid ((A1.out.below ((Below.refl _ _).alloc (Nat.le_refl _) _) A1.out.lt).bd hk2 (by simp; omega) (by decide)); have ac2 := fun i => A2.out.cell i; simp only [World.size_alloc] at ac2; have hz2 := hk2.low.size; simp only [World.size_alloc] at hz2; have HW2 := Lib.hid hw2; have HK2 := Lib.hid ((HK1.out.trans (BdKeep.alloc W1 (by omega) _)).trans hk2); clear hw2 hk2 ac1 ec1))
  have HST := Lib.hid (show GapR B b e w (.int .i64 0) W2 from ⟨⟨0, by omega, rfl, by simp only [List.take_zero]; exact HW2.out⟩, HK2.out⟩)
  go_loopw [156] (fun i wr => GapR B b e w i wr) (fun i _ => ((e.gaps.length : Int) - intOf i).toNat)
  case atStart => exact HST.out
  case round =>
    obtain ⟨⟨k, hk, rfl, hw⟩, hkp⟩ := hrel
    have hsz := hkp.low.size
    by_cases hlt : k < e.gaps.length
    · obtain ⟨hgc1, hgc2, hgx⟩ := (HGP.out.below hkp.low)
      obtain ⟨gb, go, rfl, hgb, hcell⟩ := hgx (by omega)
      obtain ⟨hc1, hc2⟩ := hcell k hlt
      unfold maxLen at hgc2
      have HES := Lib.hid (show e.gaps.take (k + 1) = e.gaps.take k ++ [e.gaps[k]] from take_snoc hlt)
      have hm1 : e.gaps[k].1 ∈ gapI e.gaps := List.mem_flatMap.2 ⟨e.gaps[k], List.getElem_mem hlt, by simp⟩
      have hm2 : e.gaps[k].2 ∈ gapI e.gaps := List.mem_flatMap.2 ⟨e.gaps[k], List.getElem_mem hlt, by simp⟩
      have hin : ∀ n ∈ ([e.gaps[k].1, e.gaps[k].2] : List Int), in64 n := by
        intro n hn
        simp only [List.mem_cons, List.not_mem_nil, or_false] at hn
        rcases hn with rfl | rfl
        · exact HINT.out _ (List.mem_append_right _ hm1)
        · exact HINT.out _ (List.mem_append_right _ hm2)
      obtain ⟨x, y, hxy⟩ : ∃ x y, e.gaps[k] = (x, y) := ⟨_, _, rfl⟩
      rw [hxy] at hc1 hc2 hin HES
      have HINR := Lib.hid hin
      have hlen : (addWs [] (wBar :: intW ([e.index, e.bwidth, e.bdepth, e.blength, e.bcount, e.bcost] ++ gapI (e.gaps.take k)))).length ≤ 3 + 21 * 38 := by
        rw [addWs_cons]
        have := addWs_int_len (l := [e.index, e.bwidth, e.bdepth, e.blength, e.bcount, e.bcost] ++ gapI (e.gaps.take k)) (fun n hn => HINT.out n (by
          rcases List.mem_append.1 hn with h | h
          · exact List.mem_append_left _ h
          · refine List.mem_append_right _ ?_
            obtain ⟨g, hg, hn⟩ := List.mem_flatMap.1 h
            exact List.mem_flatMap.2 ⟨g, List.mem_of_mem_take hg, hn⟩)) (addW [] wBar)
        have h3 : (addW [] wBar).length = 3 := rfl
        rw [List.length_append, gapI_len, List.length_take] at this
        have h6 : ([e.index, e.bwidth, e.bdepth, e.blength, e.bcount, e.bcost]).length = 6 := rfl
        omega
      have HN := Lib.hid (fun (W' : World) (hk' : BdKeep B b wr W') (hw' : Wrt B b (wideE 0 ([e.index, e.bwidth, e.bdepth, e.blength, e.bcount, e.bcost] ++ gapI (e.gaps.take (k + 1)))) 0 (addWs [] (wBar :: intW ([e.index, e.bwidth, e.bdepth, e.blength, e.bcount, e.bcost] ++ gapI (e.gaps.take (k + 1))))) W') => (show GapR B b e w (.int .i64 ((k : Int) + 1)) W' from ⟨⟨k + 1, by omega, by simp, hw'⟩, hkp.trans hk'⟩))
      have HW := Lib.hid hw
      have HKR := Lib.hid hkp
      have hblt := hw.lt
      rw [Nat.mul_comm] at hc1 hc2
      clear hw hkp hcell hm1 hm2 hin hxy HST ac2
      go_wp2_with (go_at_call 25; go_must (refine (wints_any B b _ 3 _ 0 _ [x, y] _ _ ((HW.out.alloc _).alloc _) (RowAt.new1 wr (.cells #[.int .i64 x, .int .i64 y] 82) _ (intV [x, y])) (by omega) (by decide) HINR.out (by show _ + 21 * 2 ≤ _; omega) (by simp; omega) ((HG.out.keep HKR.out.low hB).keep (((Below.refl _ _).alloc (Nat.le_refl _) _).alloc (by simp) _) (by omega)) hB).mono ?_); rintro r W4 ⟨rfl, hw4, hk4⟩)
      refine ⟨HN.out _ (((BdKeep.alloc wr (by omega) _).trans (BdKeep.alloc _ (by simp; omega) _)).trans hk4) ?_, by simp [intOf]; omega⟩
      rw [HES.out, gapI_snoc, ← List.append_assoc, wideE_app]
      have e1 : ∀ l : List Int, addWs [] (wBar :: intW (l ++ [x, y])) = addWs (addWs [] (wBar :: intW l)) (intW [x, y]) := fun l => by rw [intW_app, addWs_cons, addWs_cons, addWs_app]
      rw [e1]
      exact hw4
    · have hkk : e.gaps.take k = e.gaps := List.take_of_length_le (by omega)
      rw [hkk] at hw
      have HW := Lib.hid hw
      have HKR := Lib.hid hkp
      have hlt' : decide ((k : Int) < (e.gaps.length : Int)) = false := by rw [decide_eq_false_iff_not]; omega
      clear hw hkp HST ac2 hkk
      go_wp2
      go_end0
      refine ⟨rfl, ?_, HKR.out⟩
      rw [HI.out, HNM.out]
      unfold wordsOf
      rw [HI.out, HNM.out, HH.out]
      simp only [List.append_nil]
      exact HW.out
end Go.Proofs.YtbnnccnicfddlaaGreatDoor
