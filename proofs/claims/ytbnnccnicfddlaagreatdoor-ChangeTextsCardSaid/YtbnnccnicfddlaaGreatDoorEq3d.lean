/- change.same: the walk, leaves 13 to 16. -/
import Derived.Test.YtbnnccnicfddlaaGreatDoorEq3
set_option linter.unusedSimpArgs false
set_option linter.unusedVariables false
namespace Go.Proofs.YtbnnccnicfddlaaGreatDoor
open Go.RowKit Go.Shelf Kp
attribute [local go_sem] edC_size edC_0 edC_1 edC_2 edC_3 edC_4 edC_5 edC_6 edC_7 edC_8 edC_9 edC_10 edC_11 edC_12 edC_13 edC_14 edC_15 edC_16 edC_17 edC_18 edC_19 edC_20 edC_21 edC_22 edC_23 edC_24 edC_25 edC_26 edC_27 edC_28 edC_29 edC_30 edC_31 edC_32 edC_33 edC_34 edC_35 edC_36
set_option maxRecDepth 100000 in
set_option maxHeartbeats 8000000 in
theorem same_13 (w : World) (a b : Ed) (ga gb : Option Addr) (ca cb : Nat) (ha : GapAt w w.heap.size ga ca a.gaps) (hb : GapAt w w.heap.size gb cb b.gaps) (tkind : ((a.kind == b.kind)) = true) (tindex : ((a.index == b.index)) = true) (tside : (sideB a b) = true) (topn : (opnB a b) = true) (tsize : (sizeB a b) = true) (tbw : ((a.bwidth == b.bwidth)) = true) (tbd : ((a.bdepth == b.bdepth)) = true) (tbl : ((a.blength == b.blength)) = true) (tbc : ((a.bcount == b.bcount)) = true) (tbco : ((a.bcost == b.bcost)) = true) (tgaps : ((a.gaps == b.gaps)) = true) (tload : (loadB a b) = true) (talw : (alwB a b) = true) (ttile : (tileB a b) = false) :
    Calls Tryz.prog 21 #[.agg (edC a (.slice ga a.gaps.length ca)), .agg (edC b (.slice gb b.gaps.length cb))] w fun e w' => e = .returned (.bool (sameE a b)) ∧ Below w.heap.size w w' := by
  have mixed : Tryz.prog.follows .mixedOrders = true := by kernel_rfl
  have HA := Lib.hid ha
  have HB := Lib.hid hb
  clear ha hb
  go_enter Tryz.func21, Tryz.ntmps21
  go_upto_region 1 with fail
  go_cut [5, 6] (fun s5 s6 wx => SameM w a b ga gb ca cb s5 s6 wx)
  case first =>
    go_region_o
    all_goals go_wp2_with fail
    all_goals go_meet
    · exact ⟨h4_0 _ _ _ _ _, h4_1 _ _ _ _ _, ⟨_, _, rfl, rfl, h4_2 _ _ _ _ _, h4_3 _ _ _ _ _⟩, below4 _ _ _ _ _⟩
    · exact ⟨h4_0 _ _ _ _ _, h4_1 _ _ _ _ _, ⟨_, _, rfl, rfl, h4_3 _ _ _ _ _, h4_2 _ _ _ _ _⟩, below4 _ _ _ _ _⟩
  case rest =>
    obtain ⟨ea, eb, ⟨p, q, rfl, rfl, ra, rb⟩, hlow⟩ := hcut
    have EA := Lib.hid ea
    have EB := Lib.hid eb
    have eca := fun i => EA.out.cell i
    have ecb := fun i => EB.out.cell i
    have rca := fun i => RowAt.cell ra i
    have rcb := fun i => RowAt.cell rb i
    have lta := ea.lt
    have ltb := eb.lt
    have hlz := hlow.size
    have cg := Lib.hid (gapeq_any wc ga gb ca cb a.gaps b.gaps ((HA.out.below hlow).more hlz) ((HB.out.below hlow).more hlz))
    have HLOW := Lib.hid hlow
    clear ea eb ra rb hlow
    have qside := fun W => side_eql a b W
    have gside : Tryz.prog.eqGuardType Tryz.prog.depth 23 = false := by kernel_rfl
    have qopn := fun W => opn_eql a b W
    have gopn : Tryz.prog.eqGuardType Tryz.prog.depth 26 = false := by kernel_rfl
    have qsize := fun W => size_eql a b W
    have gsize : Tryz.prog.eqGuardType Tryz.prog.depth 28 = false := by kernel_rfl
    have qload := fun W => load_eql a b W
    have gload : Tryz.prog.eqGuardType Tryz.prog.depth 33 = false := by kernel_rfl
    have qalw := fun W => alw_eql a b W
    have galw : Tryz.prog.eqGuardType Tryz.prog.depth 35 = false := by kernel_rfl
    have qtile := fun W => tile_eql a b W
    have gtile : Tryz.prog.eqGuardType Tryz.prog.depth 37 = false := by kernel_rfl
    have HR := Lib.hid (show sameE a b = false by unfold sameE; simp [tkind, tindex, tside, topn, tsize, tbw, tbd, tbl, tbc, tbco, tgaps, tload, talw, ttile])
    go_wp2_with (go_at_call 33; go_must (refine cg.out.mono ?_); rintro r W2 ⟨rfl, hB2⟩; have EA2 := Lib.hid (EA.out.below hB2 lta); have EB2 := Lib.hid (EB.out.below hB2 ltb); have eca2 := fun i => EA2.out.cell i; have ecb2 := fun i => EB2.out.cell i)
    go_ret
    exact ⟨by rw [HR.out]; rfl, HLOW.out.trans (hB2.mono (by omega))⟩

set_option maxRecDepth 100000 in
set_option maxHeartbeats 8000000 in
theorem same_14 (w : World) (a b : Ed) (ga gb : Option Addr) (ca cb : Nat) (ha : GapAt w w.heap.size ga ca a.gaps) (hb : GapAt w w.heap.size gb cb b.gaps) (tkind : ((a.kind == b.kind)) = true) (tindex : ((a.index == b.index)) = true) (tside : (sideB a b) = true) (topn : (opnB a b) = true) (tsize : (sizeB a b) = true) (tbw : ((a.bwidth == b.bwidth)) = true) (tbd : ((a.bdepth == b.bdepth)) = true) (tbl : ((a.blength == b.blength)) = true) (tbc : ((a.bcount == b.bcount)) = true) (tbco : ((a.bcost == b.bcost)) = true) (tgaps : ((a.gaps == b.gaps)) = true) (tload : (loadB a b) = true) (talw : (alwB a b) = true) (ttile : (tileB a b) = true) (tnum : ((a.number == b.number)) = false) :
    Calls Tryz.prog 21 #[.agg (edC a (.slice ga a.gaps.length ca)), .agg (edC b (.slice gb b.gaps.length cb))] w fun e w' => e = .returned (.bool (sameE a b)) ∧ Below w.heap.size w w' := by
  have mixed : Tryz.prog.follows .mixedOrders = true := by kernel_rfl
  have HA := Lib.hid ha
  have HB := Lib.hid hb
  clear ha hb
  go_enter Tryz.func21, Tryz.ntmps21
  go_upto_region 1 with fail
  go_cut [5, 6] (fun s5 s6 wx => SameM w a b ga gb ca cb s5 s6 wx)
  case first =>
    go_region_o
    all_goals go_wp2_with fail
    all_goals go_meet
    · exact ⟨h4_0 _ _ _ _ _, h4_1 _ _ _ _ _, ⟨_, _, rfl, rfl, h4_2 _ _ _ _ _, h4_3 _ _ _ _ _⟩, below4 _ _ _ _ _⟩
    · exact ⟨h4_0 _ _ _ _ _, h4_1 _ _ _ _ _, ⟨_, _, rfl, rfl, h4_3 _ _ _ _ _, h4_2 _ _ _ _ _⟩, below4 _ _ _ _ _⟩
  case rest =>
    obtain ⟨ea, eb, ⟨p, q, rfl, rfl, ra, rb⟩, hlow⟩ := hcut
    have EA := Lib.hid ea
    have EB := Lib.hid eb
    have eca := fun i => EA.out.cell i
    have ecb := fun i => EB.out.cell i
    have rca := fun i => RowAt.cell ra i
    have rcb := fun i => RowAt.cell rb i
    have lta := ea.lt
    have ltb := eb.lt
    have hlz := hlow.size
    have cg := Lib.hid (gapeq_any wc ga gb ca cb a.gaps b.gaps ((HA.out.below hlow).more hlz) ((HB.out.below hlow).more hlz))
    have HLOW := Lib.hid hlow
    clear ea eb ra rb hlow
    have qside := fun W => side_eql a b W
    have gside : Tryz.prog.eqGuardType Tryz.prog.depth 23 = false := by kernel_rfl
    have qopn := fun W => opn_eql a b W
    have gopn : Tryz.prog.eqGuardType Tryz.prog.depth 26 = false := by kernel_rfl
    have qsize := fun W => size_eql a b W
    have gsize : Tryz.prog.eqGuardType Tryz.prog.depth 28 = false := by kernel_rfl
    have qload := fun W => load_eql a b W
    have gload : Tryz.prog.eqGuardType Tryz.prog.depth 33 = false := by kernel_rfl
    have qalw := fun W => alw_eql a b W
    have galw : Tryz.prog.eqGuardType Tryz.prog.depth 35 = false := by kernel_rfl
    have qtile := fun W => tile_eql a b W
    have gtile : Tryz.prog.eqGuardType Tryz.prog.depth 37 = false := by kernel_rfl
    have HR := Lib.hid (show sameE a b = false by unfold sameE; simp [tkind, tindex, tside, topn, tsize, tbw, tbd, tbl, tbc, tbco, tgaps, tload, talw, ttile, tnum])
    go_wp2_with (go_at_call 33; go_must (refine cg.out.mono ?_); rintro r W2 ⟨rfl, hB2⟩; have EA2 := Lib.hid (EA.out.below hB2 lta); have EB2 := Lib.hid (EB.out.below hB2 ltb); have eca2 := fun i => EA2.out.cell i; have ecb2 := fun i => EB2.out.cell i)
    go_ret
    exact ⟨by rw [HR.out]; rfl, HLOW.out.trans (hB2.mono (by omega))⟩

set_option maxRecDepth 100000 in
set_option maxHeartbeats 8000000 in
theorem same_15 (w : World) (a b : Ed) (ga gb : Option Addr) (ca cb : Nat) (ha : GapAt w w.heap.size ga ca a.gaps) (hb : GapAt w w.heap.size gb cb b.gaps) (tkind : ((a.kind == b.kind)) = true) (tindex : ((a.index == b.index)) = true) (tside : (sideB a b) = true) (topn : (opnB a b) = true) (tsize : (sizeB a b) = true) (tbw : ((a.bwidth == b.bwidth)) = true) (tbd : ((a.bdepth == b.bdepth)) = true) (tbl : ((a.blength == b.blength)) = true) (tbc : ((a.bcount == b.bcount)) = true) (tbco : ((a.bcost == b.bcost)) = true) (tgaps : ((a.gaps == b.gaps)) = true) (tload : (loadB a b) = true) (talw : (alwB a b) = true) (ttile : (tileB a b) = true) (tnum : ((a.number == b.number)) = true) (ttext : ((a.text == b.text)) = false) :
    Calls Tryz.prog 21 #[.agg (edC a (.slice ga a.gaps.length ca)), .agg (edC b (.slice gb b.gaps.length cb))] w fun e w' => e = .returned (.bool (sameE a b)) ∧ Below w.heap.size w w' := by
  have mixed : Tryz.prog.follows .mixedOrders = true := by kernel_rfl
  have HA := Lib.hid ha
  have HB := Lib.hid hb
  clear ha hb
  go_enter Tryz.func21, Tryz.ntmps21
  go_upto_region 1 with fail
  go_cut [5, 6] (fun s5 s6 wx => SameM w a b ga gb ca cb s5 s6 wx)
  case first =>
    go_region_o
    all_goals go_wp2_with fail
    all_goals go_meet
    · exact ⟨h4_0 _ _ _ _ _, h4_1 _ _ _ _ _, ⟨_, _, rfl, rfl, h4_2 _ _ _ _ _, h4_3 _ _ _ _ _⟩, below4 _ _ _ _ _⟩
    · exact ⟨h4_0 _ _ _ _ _, h4_1 _ _ _ _ _, ⟨_, _, rfl, rfl, h4_3 _ _ _ _ _, h4_2 _ _ _ _ _⟩, below4 _ _ _ _ _⟩
  case rest =>
    obtain ⟨ea, eb, ⟨p, q, rfl, rfl, ra, rb⟩, hlow⟩ := hcut
    have EA := Lib.hid ea
    have EB := Lib.hid eb
    have eca := fun i => EA.out.cell i
    have ecb := fun i => EB.out.cell i
    have rca := fun i => RowAt.cell ra i
    have rcb := fun i => RowAt.cell rb i
    have lta := ea.lt
    have ltb := eb.lt
    have hlz := hlow.size
    have cg := Lib.hid (gapeq_any wc ga gb ca cb a.gaps b.gaps ((HA.out.below hlow).more hlz) ((HB.out.below hlow).more hlz))
    have HLOW := Lib.hid hlow
    clear ea eb ra rb hlow
    have qside := fun W => side_eql a b W
    have gside : Tryz.prog.eqGuardType Tryz.prog.depth 23 = false := by kernel_rfl
    have qopn := fun W => opn_eql a b W
    have gopn : Tryz.prog.eqGuardType Tryz.prog.depth 26 = false := by kernel_rfl
    have qsize := fun W => size_eql a b W
    have gsize : Tryz.prog.eqGuardType Tryz.prog.depth 28 = false := by kernel_rfl
    have qload := fun W => load_eql a b W
    have gload : Tryz.prog.eqGuardType Tryz.prog.depth 33 = false := by kernel_rfl
    have qalw := fun W => alw_eql a b W
    have galw : Tryz.prog.eqGuardType Tryz.prog.depth 35 = false := by kernel_rfl
    have qtile := fun W => tile_eql a b W
    have gtile : Tryz.prog.eqGuardType Tryz.prog.depth 37 = false := by kernel_rfl
    have HR := Lib.hid (show sameE a b = false by unfold sameE; simp [tkind, tindex, tside, topn, tsize, tbw, tbd, tbl, tbc, tbco, tgaps, tload, talw, ttile, tnum, ttext])
    go_wp2_with (go_at_call 33; go_must (refine cg.out.mono ?_); rintro r W2 ⟨rfl, hB2⟩; have EA2 := Lib.hid (EA.out.below hB2 lta); have EB2 := Lib.hid (EB.out.below hB2 ltb); have eca2 := fun i => EA2.out.cell i; have ecb2 := fun i => EB2.out.cell i)
    go_ret
    exact ⟨by rw [HR.out]; rfl, HLOW.out.trans (hB2.mono (by omega))⟩

set_option maxRecDepth 100000 in
set_option maxHeartbeats 8000000 in
theorem same_16 (w : World) (a b : Ed) (ga gb : Option Addr) (ca cb : Nat) (ha : GapAt w w.heap.size ga ca a.gaps) (hb : GapAt w w.heap.size gb cb b.gaps) (tkind : ((a.kind == b.kind)) = true) (tindex : ((a.index == b.index)) = true) (tside : (sideB a b) = true) (topn : (opnB a b) = true) (tsize : (sizeB a b) = true) (tbw : ((a.bwidth == b.bwidth)) = true) (tbd : ((a.bdepth == b.bdepth)) = true) (tbl : ((a.blength == b.blength)) = true) (tbc : ((a.bcount == b.bcount)) = true) (tbco : ((a.bcost == b.bcost)) = true) (tgaps : ((a.gaps == b.gaps)) = true) (tload : (loadB a b) = true) (talw : (alwB a b) = true) (ttile : (tileB a b) = true) (tnum : ((a.number == b.number)) = true) (ttext : ((a.text == b.text)) = true) :
    Calls Tryz.prog 21 #[.agg (edC a (.slice ga a.gaps.length ca)), .agg (edC b (.slice gb b.gaps.length cb))] w fun e w' => e = .returned (.bool (sameE a b)) ∧ Below w.heap.size w w' := by
  have mixed : Tryz.prog.follows .mixedOrders = true := by kernel_rfl
  have HA := Lib.hid ha
  have HB := Lib.hid hb
  clear ha hb
  go_enter Tryz.func21, Tryz.ntmps21
  go_upto_region 1 with fail
  go_cut [5, 6] (fun s5 s6 wx => SameM w a b ga gb ca cb s5 s6 wx)
  case first =>
    go_region_o
    all_goals go_wp2_with fail
    all_goals go_meet
    · exact ⟨h4_0 _ _ _ _ _, h4_1 _ _ _ _ _, ⟨_, _, rfl, rfl, h4_2 _ _ _ _ _, h4_3 _ _ _ _ _⟩, below4 _ _ _ _ _⟩
    · exact ⟨h4_0 _ _ _ _ _, h4_1 _ _ _ _ _, ⟨_, _, rfl, rfl, h4_3 _ _ _ _ _, h4_2 _ _ _ _ _⟩, below4 _ _ _ _ _⟩
  case rest =>
    obtain ⟨ea, eb, ⟨p, q, rfl, rfl, ra, rb⟩, hlow⟩ := hcut
    have EA := Lib.hid ea
    have EB := Lib.hid eb
    have eca := fun i => EA.out.cell i
    have ecb := fun i => EB.out.cell i
    have rca := fun i => RowAt.cell ra i
    have rcb := fun i => RowAt.cell rb i
    have lta := ea.lt
    have ltb := eb.lt
    have hlz := hlow.size
    have cg := Lib.hid (gapeq_any wc ga gb ca cb a.gaps b.gaps ((HA.out.below hlow).more hlz) ((HB.out.below hlow).more hlz))
    have HLOW := Lib.hid hlow
    clear ea eb ra rb hlow
    have qside := fun W => side_eql a b W
    have gside : Tryz.prog.eqGuardType Tryz.prog.depth 23 = false := by kernel_rfl
    have qopn := fun W => opn_eql a b W
    have gopn : Tryz.prog.eqGuardType Tryz.prog.depth 26 = false := by kernel_rfl
    have qsize := fun W => size_eql a b W
    have gsize : Tryz.prog.eqGuardType Tryz.prog.depth 28 = false := by kernel_rfl
    have qload := fun W => load_eql a b W
    have gload : Tryz.prog.eqGuardType Tryz.prog.depth 33 = false := by kernel_rfl
    have qalw := fun W => alw_eql a b W
    have galw : Tryz.prog.eqGuardType Tryz.prog.depth 35 = false := by kernel_rfl
    have qtile := fun W => tile_eql a b W
    have gtile : Tryz.prog.eqGuardType Tryz.prog.depth 37 = false := by kernel_rfl
    have HR := Lib.hid (show sameE a b = true by unfold sameE; simp [tkind, tindex, tside, topn, tsize, tbw, tbd, tbl, tbc, tbco, tgaps, tload, talw, ttile, tnum, ttext])
    go_wp2_with (go_at_call 33; go_must (refine cg.out.mono ?_); rintro r W2 ⟨rfl, hB2⟩; have EA2 := Lib.hid (EA.out.below hB2 lta); have EB2 := Lib.hid (EB.out.below hB2 ltb); have eca2 := fun i => EA2.out.cell i; have ecb2 := fun i => EB2.out.cell i)
    go_ret
    exact ⟨by rw [HR.out]; rfl, HLOW.out.trans (hB2.mono (by omega))⟩
end Go.Proofs.YtbnnccnicfddlaaGreatDoor
