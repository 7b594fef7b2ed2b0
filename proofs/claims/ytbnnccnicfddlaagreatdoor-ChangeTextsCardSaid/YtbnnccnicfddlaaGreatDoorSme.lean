/- ref58.sameBar and ref58.SameEdit at two edits that are equal: the walks. -/
import Derived.Test.YtbnnccnicfddlaaGreatDoorEq3
set_option linter.unusedSimpArgs false
set_option linter.unusedVariables false
namespace Go.Proofs.YtbnnccnicfddlaaGreatDoor
open Go.RowKit Go.Shelf Kp
attribute [local go_sem] edC_size edC_0 edC_1 edC_2 edC_3 edC_4 edC_5 edC_6 edC_7 edC_8 edC_9 edC_10 edC_11 edC_12 edC_13 edC_14 edC_15 edC_16 edC_17 edC_18 edC_19 edC_20 edC_21 edC_22 edC_23 edC_24 edC_25 edC_26 edC_27 edC_28 edC_29 edC_30 edC_31 edC_32 edC_33 edC_34 edC_35 edC_36

/-- what holds ahead of each round of sameBar -/
structure SbR (w : World) (e : Ed) (ga gb : Option Addr) (ca cb : Nat) (i : Value) (wr : World) : Prop where
  ex : ∃ k : Nat, k ≤ e.gaps.length ∧ i = .int .i64 (k : Int)
  ra : RowAt wr w.heap.size 31 (barL e ga ca)
  rb : RowAt wr (w.heap.size + 1) 31 (barL e gb cb)
  low : Below w.heap.size w wr
theorem SbR.ofDrew {w wr : World} {e : Ed} {ga gb : Option Addr} {ca cb : Nat} {i : Value} (h : SbR w e ga gb ca cb i wr) {k : Nat} (hk : k ≤ e.gaps.length) (n : Nat) : SbR w e ga gb ca cb (.int .i64 (k : Int)) (wr.drewN n) :=
  ⟨⟨k, hk, rfl⟩, h.ra.below (below_drewN (Below.refl wr.heap.size _) n) h.ra.lt, h.rb.below (below_drewN (Below.refl wr.heap.size _) n) h.rb.lt, below_drewN h.low n⟩

set_option maxRecDepth 100000 in
set_option maxHeartbeats 2000000 in
theorem samebar_eq (w : World) (e : Ed) (ga gb : Option Addr) (ca cb : Nat) (ha : GapAt w w.heap.size ga ca e.gaps) (hb : GapAt w w.heap.size gb cb e.gaps) :
    Calls Tryz.prog 19 #[.agg (barL e ga ca).toArray, .agg (barL e gb cb).toArray] w fun r w' => r = .returned (.bool true) ∧ Below w.heap.size w w' := by
  have la := ha.1
  have lb := hb.1
  have ca' := ha.2.1
  have cb' := hb.2.1
  unfold maxLen at ca' cb'
  have HA := Lib.hid ha
  have HB := Lib.hid hb
  have R0 := Lib.hid (show SbR w e ga gb ca cb (.int .i64 0) ((w.alloc (.cells (barL e ga ca).toArray 31)).alloc (.cells (barL e gb cb).toArray 31)) from
    ⟨⟨0, by omega, rfl⟩, by unfold RowAt; rw [heap_alloc_old _ _ (by simp)]; exact World.alloc_heap_new _ _, by have := World.alloc_heap_new (w.alloc (.cells (barL e ga ca).toArray 31)) (.cells (barL e gb cb).toArray 31); rw [World.size_alloc] at this; exact this, ((Below.refl _ _).alloc (Nat.le_refl _) _).alloc (by simp) _⟩)
  clear ha hb
  go_enter Tryz.func19, Tryz.ntmps19
  go_wp2
  go_loopw [5] (fun i wr => SbR w e ga gb ca cb i wr) (fun i _ => ((e.gaps.length : Int) - intOf i).toNat)
  case atStart => exact R0.out
  case round =>
    have HREL := Lib.hid hrel
    obtain ⟨⟨k, hk, rfl⟩, hra, hrb, hBr⟩ := hrel
    have rca := fun i => RowAt.cell hra i
    have rcb := fun i => RowAt.cell hrb i
    by_cases hlt : k < e.gaps.length
    · obtain ⟨_, _, hxa⟩ := HA.out.below hBr
      obtain ⟨_, _, hxb⟩ := HB.out.below hBr
      obtain ⟨ba, oa, rfl, _, cea⟩ := hxa (by omega)
      obtain ⟨bb, ob, rfl, _, ceb⟩ := hxb (by omega)
      obtain ⟨a1, a2⟩ := cea k hlt
      obtain ⟨b1, b2⟩ := ceb k hlt
      rw [Nat.mul_comm] at a1 a2 b1 b2
      obtain ⟨x, y, hxy⟩ : ∃ x y, e.gaps[k] = (x, y) := ⟨_, _, rfl⟩
      rw [hxy] at a1 a2 b1 b2
      have hnq := fun W => gap_neq x y x y W
      simp only [beq_self_eq_true, Bool.and_self, Bool.not_true] at hnq
      have HN := Lib.hid (fun n => HREL.out.ofDrew (k := k + 1) (by omega) n)
      clear hra hrb hBr cea ceb hxa hxb hxy
      go_wp2
      go_quiet (fail)
      go_wp2
      refine ⟨?_, by simp [intOf]; omega⟩
      exact HN.out _
    · have hlt' : decide ((k : Int) < (e.gaps.length : Int)) = false := by rw [decide_eq_false_iff_not]; omega
      have HLOW := Lib.hid hBr
      clear hra hrb hBr
      go_wp2
      go_ret
      exact ⟨rfl, HLOW.out⟩

set_option maxRecDepth 100000 in
set_option maxHeartbeats 8000000 in
theorem sameedit_eq (w : World) (e : Ed) (ga gb : Option Addr) (ca cb : Nat) (ha : GapAt w w.heap.size ga ca e.gaps) (hb : GapAt w w.heap.size gb cb e.gaps) :
    Calls Tryz.prog 8 #[.agg (edC e (.slice ga e.gaps.length ca)), .agg (edC e (.slice gb e.gaps.length cb))] w fun r w' => r = .returned (.bool true) ∧ Below w.heap.size w w' := by
  have hB0 : Below w.heap.size w ((w.alloc (.cells (edC e (.slice ga e.gaps.length ca)) 39)).alloc (.cells (edC e (.slice gb e.gaps.length cb)) 39)) := ((Below.refl _ _).alloc (Nat.le_refl _) _).alloc (by simp) _
  have HB0 := Lib.hid hB0
  have EA := Lib.hid ((EdAt.new w e (.slice ga e.gaps.length ca)).alloc (.cells (edC e (.slice gb e.gaps.length cb)) 39))
  have EB := Lib.hid (show EdAt ((w.alloc (.cells (edC e (.slice ga e.gaps.length ca)) 39)).alloc (.cells (edC e (.slice gb e.gaps.length cb)) 39)) (w.heap.size + 1) e (.slice gb e.gaps.length cb) by
    have := EdAt.new (w.alloc (.cells (edC e (.slice ga e.gaps.length ca)) 39)) e (.slice gb e.gaps.length cb)
    rw [World.size_alloc] at this; exact this)
  have cb' := Lib.hid (samebar_eq _ e ga gb ca cb ((ha.below hB0).more (by simp; omega)) ((hb.below hB0).more (by simp; omega)))
  have eca := fun i => EA.out.cell i
  have ecb := fun i => EB.out.cell i
  have ts : sideB e e = true := by unfold sideB; simp
  have tp : opnB e e = true := by unfold opnB; simp
  have tz : sizeB e e = true := by unfold sizeB; simp
  have tl : loadB e e = true := by unfold loadB; simp
  have ta : alwB e e = true := by unfold alwB; simp
  have tt : tileB e e = true := by unfold tileB; simp
  have qside := fun W => side_eql e e W
  have gside : Tryz.prog.eqGuardType Tryz.prog.depth 23 = false := by kernel_rfl
  have qopn := fun W => opn_eql e e W
  have gopn : Tryz.prog.eqGuardType Tryz.prog.depth 26 = false := by kernel_rfl
  have qsize := fun W => size_eql e e W
  have gsize : Tryz.prog.eqGuardType Tryz.prog.depth 28 = false := by kernel_rfl
  have qload := fun W => load_eql e e W
  have gload : Tryz.prog.eqGuardType Tryz.prog.depth 33 = false := by kernel_rfl
  have qalw := fun W => alw_eql e e W
  have galw : Tryz.prog.eqGuardType Tryz.prog.depth 35 = false := by kernel_rfl
  have qtile := fun W => tile_eql e e W
  have gtile : Tryz.prog.eqGuardType Tryz.prog.depth 37 = false := by kernel_rfl
  rw [ts] at qside
  rw [tp] at qopn
  rw [tz] at qsize
  rw [tl] at qload
  rw [ta] at qalw
  rw [tt] at qtile
  clear ha hb hB0 ts tp tz tl ta tt
  go_enter Tryz.func8, Tryz.ntmps8
  go_wp2_with (go_at_call 19; go_must (refine cb'.out.mono ?_); rintro r W2 ⟨rfl, hB2⟩; have EA2 := Lib.hid (EA.out.below hB2 EA.out.lt); have EB2 := Lib.hid (EB.out.below hB2 EB.out.lt); have eca2 := fun i => EA2.out.cell i; have ecb2 := fun i => EB2.out.cell i)
  go_ret
  exact ⟨rfl, HB0.out.trans (hB2.mono (by simp; omega))⟩
end Go.Proofs.YtbnnccnicfddlaaGreatDoor
