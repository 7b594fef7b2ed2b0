/- Equality of structs; slices.Equal of gaps: the walk. · slices.Equal of gaps: the walk. -/
import Derived.Test.YtbnnccnicfddlaaGreatDoorChgC
import Derived.Laws.StructEq
set_option linter.unusedSimpArgs false
set_option linter.unusedVariables false
namespace Go.Proofs.YtbnnccnicfddlaaGreatDoor
open Go.RowKit Go.Shelf Kp

theorem tx_toList (l : By) : (tx l).toList = l := by rw [ByteArray.toList_eq, tx_list]
theorem gap_neq (x y u v : Int) (W : World) : (binOp .neq 82 (.agg #[.int .i64 x, .int .i64 y]) (.agg #[.int .i64 u, .int .i64 v])).run Tryz.prog W = .ok (.bool (!(x == u && y == v))) W := by
  rw [run_neq_struct, run_equalIn_agg _ _ _ _ _ (by kernel_rfl) (by kernel_rfl)]
  simp only [Program.fieldsOf, Tryz.underlying82]
  cases hx : (x == u) <;> cases hy : (y == v) <;> simp [go_sem, hx, hy, Result.andThen, Tryz.underlying3, Tryz.isAgg3]
def sideB (a b : Ed) : Bool := (a.sx == b.sx) && (a.sy == b.sy) && (a.srise == b.srise) && (a.srun == b.srun) && (a.gable == b.gable) && (a.splate == b.splate) && (a.sover == b.sover)
set_option maxHeartbeats 1000000 in
theorem side_eql (a b : Ed) (W : World) : (binOp .eql 23 (.agg #[.int .i64 a.sx, .int .i64 a.sy, .int .i64 a.srise, .int .i64 a.srun, .bool a.gable, .int .i64 a.splate, .int .i64 a.sover]) (.agg #[.int .i64 b.sx, .int .i64 b.sy, .int .i64 b.srise, .int .i64 b.srun, .bool b.gable, .int .i64 b.splate, .int .i64 b.sover])).run Tryz.prog W = .ok (.bool (sideB a b)) W := by
  rw [run_eql_struct, run_equalIn_agg _ _ _ _ _ (by kernel_rfl) (by kernel_rfl)]
  simp only [Program.fieldsOf, Tryz.underlying23]
  unfold sideB
  cases hsx : (a.sx == b.sx)
  · simp [go_sem, Result.andThen, tx_toList, Tryz.underlying3, Tryz.isAgg3, Tryz.underlying4, Tryz.isAgg4, Tryz.underlying24, Tryz.isAgg24, hsx]
  cases hsy : (a.sy == b.sy)
  · simp [go_sem, Result.andThen, tx_toList, Tryz.underlying3, Tryz.isAgg3, Tryz.underlying4, Tryz.isAgg4, Tryz.underlying24, Tryz.isAgg24, hsx, hsy]
  cases hsrise : (a.srise == b.srise)
  · simp [go_sem, Result.andThen, tx_toList, Tryz.underlying3, Tryz.isAgg3, Tryz.underlying4, Tryz.isAgg4, Tryz.underlying24, Tryz.isAgg24, hsx, hsy, hsrise]
  cases hsrun : (a.srun == b.srun)
  · simp [go_sem, Result.andThen, tx_toList, Tryz.underlying3, Tryz.isAgg3, Tryz.underlying4, Tryz.isAgg4, Tryz.underlying24, Tryz.isAgg24, hsx, hsy, hsrise, hsrun]
  cases hgable : (a.gable == b.gable)
  · simp [go_sem, Result.andThen, tx_toList, Tryz.underlying3, Tryz.isAgg3, Tryz.underlying4, Tryz.isAgg4, Tryz.underlying24, Tryz.isAgg24, hsx, hsy, hsrise, hsrun, hgable]
  cases hsplate : (a.splate == b.splate)
  · simp [go_sem, Result.andThen, tx_toList, Tryz.underlying3, Tryz.isAgg3, Tryz.underlying4, Tryz.isAgg4, Tryz.underlying24, Tryz.isAgg24, hsx, hsy, hsrise, hsrun, hgable, hsplate]
  cases hsover : (a.sover == b.sover)
  · simp [go_sem, Result.andThen, tx_toList, Tryz.underlying3, Tryz.isAgg3, Tryz.underlying4, Tryz.isAgg4, Tryz.underlying24, Tryz.isAgg24, hsx, hsy, hsrise, hsrun, hgable, hsplate, hsover]
  simp [go_sem, Result.andThen, tx_toList, Tryz.underlying3, Tryz.isAgg3, Tryz.underlying4, Tryz.isAgg4, Tryz.underlying24, Tryz.isAgg24, hsx, hsy, hsrise, hsrun, hgable, hsplate, hsover]
def opnB (a b : Ed) : Bool := (a.oside == b.oside) && (a.oleft == b.oleft) && (a.oright == b.oright) && (a.olow == b.olow) && (a.ohigh == b.ohigh)
set_option maxHeartbeats 1000000 in
theorem opn_eql (a b : Ed) (W : World) : (binOp .eql 26 (.agg #[.int .i64 a.oside, .string (tx a.oleft), .string (tx a.oright), .string (tx a.olow), .string (tx a.ohigh)]) (.agg #[.int .i64 b.oside, .string (tx b.oleft), .string (tx b.oright), .string (tx b.olow), .string (tx b.ohigh)])).run Tryz.prog W = .ok (.bool (opnB a b)) W := by
  rw [run_eql_struct, run_equalIn_agg _ _ _ _ _ (by kernel_rfl) (by kernel_rfl)]
  simp only [Program.fieldsOf, Tryz.underlying26]
  unfold opnB
  cases hoside : (a.oside == b.oside)
  · simp [go_sem, Result.andThen, tx_toList, Tryz.underlying3, Tryz.isAgg3, Tryz.underlying4, Tryz.isAgg4, Tryz.underlying24, Tryz.isAgg24, hoside]
  cases holeft : (a.oleft == b.oleft)
  · simp [go_sem, Result.andThen, tx_toList, Tryz.underlying3, Tryz.isAgg3, Tryz.underlying4, Tryz.isAgg4, Tryz.underlying24, Tryz.isAgg24, hoside, holeft]
  cases horight : (a.oright == b.oright)
  · simp [go_sem, Result.andThen, tx_toList, Tryz.underlying3, Tryz.isAgg3, Tryz.underlying4, Tryz.isAgg4, Tryz.underlying24, Tryz.isAgg24, hoside, holeft, horight]
  cases holow : (a.olow == b.olow)
  · simp [go_sem, Result.andThen, tx_toList, Tryz.underlying3, Tryz.isAgg3, Tryz.underlying4, Tryz.isAgg4, Tryz.underlying24, Tryz.isAgg24, hoside, holeft, horight, holow]
  cases hohigh : (a.ohigh == b.ohigh)
  · simp [go_sem, Result.andThen, tx_toList, Tryz.underlying3, Tryz.isAgg3, Tryz.underlying4, Tryz.isAgg4, Tryz.underlying24, Tryz.isAgg24, hoside, holeft, horight, holow, hohigh]
  simp [go_sem, Result.andThen, tx_toList, Tryz.underlying3, Tryz.isAgg3, Tryz.underlying4, Tryz.isAgg4, Tryz.underlying24, Tryz.isAgg24, hoside, holeft, horight, holow, hohigh]
def sizeB (a b : Ed) : Bool := (a.zkind == b.zkind) && (a.zwidth == b.zwidth) && (a.zdepth == b.zdepth)
set_option maxHeartbeats 1000000 in
theorem size_eql (a b : Ed) (W : World) : (binOp .eql 28 (.agg #[.int .i64 a.zkind, .int .i64 a.zwidth, .int .i64 a.zdepth]) (.agg #[.int .i64 b.zkind, .int .i64 b.zwidth, .int .i64 b.zdepth])).run Tryz.prog W = .ok (.bool (sizeB a b)) W := by
  rw [run_eql_struct, run_equalIn_agg _ _ _ _ _ (by kernel_rfl) (by kernel_rfl)]
  simp only [Program.fieldsOf, Tryz.underlying28]
  unfold sizeB
  cases hzkind : (a.zkind == b.zkind)
  · simp [go_sem, Result.andThen, tx_toList, Tryz.underlying3, Tryz.isAgg3, Tryz.underlying4, Tryz.isAgg4, Tryz.underlying24, Tryz.isAgg24, hzkind]
  cases hzwidth : (a.zwidth == b.zwidth)
  · simp [go_sem, Result.andThen, tx_toList, Tryz.underlying3, Tryz.isAgg3, Tryz.underlying4, Tryz.isAgg4, Tryz.underlying24, Tryz.isAgg24, hzkind, hzwidth]
  cases hzdepth : (a.zdepth == b.zdepth)
  · simp [go_sem, Result.andThen, tx_toList, Tryz.underlying3, Tryz.isAgg3, Tryz.underlying4, Tryz.isAgg4, Tryz.underlying24, Tryz.isAgg24, hzkind, hzwidth, hzdepth]
  simp [go_sem, Result.andThen, tx_toList, Tryz.underlying3, Tryz.isAgg3, Tryz.underlying4, Tryz.isAgg4, Tryz.underlying24, Tryz.isAgg24, hzkind, hzwidth, hzdepth]
def loadB (a b : Ed) : Bool := (a.lkind == b.lkind) && (a.lside == b.lside) && (a.lweight == b.lweight)
set_option maxHeartbeats 1000000 in
theorem load_eql (a b : Ed) (W : World) : (binOp .eql 33 (.agg #[.int .i64 a.lkind, .int .i64 a.lside, .string (tx a.lweight)]) (.agg #[.int .i64 b.lkind, .int .i64 b.lside, .string (tx b.lweight)])).run Tryz.prog W = .ok (.bool (loadB a b)) W := by
  rw [run_eql_struct, run_equalIn_agg _ _ _ _ _ (by kernel_rfl) (by kernel_rfl)]
  simp only [Program.fieldsOf, Tryz.underlying33]
  unfold loadB
  cases hlkind : (a.lkind == b.lkind)
  · simp [go_sem, Result.andThen, tx_toList, Tryz.underlying3, Tryz.isAgg3, Tryz.underlying4, Tryz.isAgg4, Tryz.underlying24, Tryz.isAgg24, hlkind]
  cases hlside : (a.lside == b.lside)
  · simp [go_sem, Result.andThen, tx_toList, Tryz.underlying3, Tryz.isAgg3, Tryz.underlying4, Tryz.isAgg4, Tryz.underlying24, Tryz.isAgg24, hlkind, hlside]
  cases hlweight : (a.lweight == b.lweight)
  · simp [go_sem, Result.andThen, tx_toList, Tryz.underlying3, Tryz.isAgg3, Tryz.underlying4, Tryz.isAgg4, Tryz.underlying24, Tryz.isAgg24, hlkind, hlside, hlweight]
  simp [go_sem, Result.andThen, tx_toList, Tryz.underlying3, Tryz.isAgg3, Tryz.underlying4, Tryz.isAgg4, Tryz.underlying24, Tryz.isAgg24, hlkind, hlside, hlweight]
def alwB (a b : Ed) : Bool := (a.awidth == b.awidth) && (a.adepth == b.adepth) && (a.aspacing == b.aspacing) && (a.aload == b.aload) && (a.aspan == b.aspan)
set_option maxHeartbeats 1000000 in
theorem alw_eql (a b : Ed) (W : World) : (binOp .eql 35 (.agg #[.int .i64 a.awidth, .int .i64 a.adepth, .int .i64 a.aspacing, .int .i64 a.aload, .int .i64 a.aspan]) (.agg #[.int .i64 b.awidth, .int .i64 b.adepth, .int .i64 b.aspacing, .int .i64 b.aload, .int .i64 b.aspan])).run Tryz.prog W = .ok (.bool (alwB a b)) W := by
  rw [run_eql_struct, run_equalIn_agg _ _ _ _ _ (by kernel_rfl) (by kernel_rfl)]
  simp only [Program.fieldsOf, Tryz.underlying35]
  unfold alwB
  cases hawidth : (a.awidth == b.awidth)
  · simp [go_sem, Result.andThen, tx_toList, Tryz.underlying3, Tryz.isAgg3, Tryz.underlying4, Tryz.isAgg4, Tryz.underlying24, Tryz.isAgg24, hawidth]
  cases hadepth : (a.adepth == b.adepth)
  · simp [go_sem, Result.andThen, tx_toList, Tryz.underlying3, Tryz.isAgg3, Tryz.underlying4, Tryz.isAgg4, Tryz.underlying24, Tryz.isAgg24, hawidth, hadepth]
  cases haspacing : (a.aspacing == b.aspacing)
  · simp [go_sem, Result.andThen, tx_toList, Tryz.underlying3, Tryz.isAgg3, Tryz.underlying4, Tryz.isAgg4, Tryz.underlying24, Tryz.isAgg24, hawidth, hadepth, haspacing]
  cases haload : (a.aload == b.aload)
  · simp [go_sem, Result.andThen, tx_toList, Tryz.underlying3, Tryz.isAgg3, Tryz.underlying4, Tryz.isAgg4, Tryz.underlying24, Tryz.isAgg24, hawidth, hadepth, haspacing, haload]
  cases haspan : (a.aspan == b.aspan)
  · simp [go_sem, Result.andThen, tx_toList, Tryz.underlying3, Tryz.isAgg3, Tryz.underlying4, Tryz.isAgg4, Tryz.underlying24, Tryz.isAgg24, hawidth, hadepth, haspacing, haload, haspan]
  simp [go_sem, Result.andThen, tx_toList, Tryz.underlying3, Tryz.isAgg3, Tryz.underlying4, Tryz.isAgg4, Tryz.underlying24, Tryz.isAgg24, hawidth, hadepth, haspacing, haload, haspan]
def tileB (a b : Ed) : Bool := (a.twidth == b.twidth) && (a.tlength == b.tlength) && (a.tlap == b.tlap) && (a.ttail == b.ttail)
set_option maxHeartbeats 1000000 in
theorem tile_eql (a b : Ed) (W : World) : (binOp .eql 37 (.agg #[.int .i64 a.twidth, .int .i64 a.tlength, .int .i64 a.tlap, .int .i64 a.ttail]) (.agg #[.int .i64 b.twidth, .int .i64 b.tlength, .int .i64 b.tlap, .int .i64 b.ttail])).run Tryz.prog W = .ok (.bool (tileB a b)) W := by
  rw [run_eql_struct, run_equalIn_agg _ _ _ _ _ (by kernel_rfl) (by kernel_rfl)]
  simp only [Program.fieldsOf, Tryz.underlying37]
  unfold tileB
  cases htwidth : (a.twidth == b.twidth)
  · simp [go_sem, Result.andThen, tx_toList, Tryz.underlying3, Tryz.isAgg3, Tryz.underlying4, Tryz.isAgg4, Tryz.underlying24, Tryz.isAgg24, htwidth]
  cases htlength : (a.tlength == b.tlength)
  · simp [go_sem, Result.andThen, tx_toList, Tryz.underlying3, Tryz.isAgg3, Tryz.underlying4, Tryz.isAgg4, Tryz.underlying24, Tryz.isAgg24, htwidth, htlength]
  cases htlap : (a.tlap == b.tlap)
  · simp [go_sem, Result.andThen, tx_toList, Tryz.underlying3, Tryz.isAgg3, Tryz.underlying4, Tryz.isAgg4, Tryz.underlying24, Tryz.isAgg24, htwidth, htlength, htlap]
  cases httail : (a.ttail == b.ttail)
  · simp [go_sem, Result.andThen, tx_toList, Tryz.underlying3, Tryz.isAgg3, Tryz.underlying4, Tryz.isAgg4, Tryz.underlying24, Tryz.isAgg24, htwidth, htlength, htlap, httail]
  simp [go_sem, Result.andThen, tx_toList, Tryz.underlying3, Tryz.isAgg3, Tryz.underlying4, Tryz.isAgg4, Tryz.underlying24, Tryz.isAgg24, htwidth, htlength, htlap, httail]

/-- equality of edits, in change.same's order -/
def sameE (a b : Ed) : Bool :=
  (a.kind == b.kind) && (a.index == b.index) && sideB a b && opnB a b && sizeB a b && (a.bwidth == b.bwidth) && (a.bdepth == b.bdepth) && (a.blength == b.blength) && (a.bcount == b.bcount) && (a.bcost == b.bcost) && (a.gaps == b.gaps) && loadB a b && alwB a b && tileB a b && (a.number == b.number) && (a.text == b.text)
theorem sameE_iff (a b : Ed) : sameE a b = true ↔ a = b := by
  unfold sameE sideB opnB sizeB loadB alwB tileB
  simp only [Bool.and_eq_true, beq_iff_eq]
  constructor
  · intro h
    cases a; cases b
    simp only [Ed.mk.injEq] at h ⊢
    simp only [h, and_self]
  · intro h; subst h; simp
end Go.Proofs.YtbnnccnicfddlaaGreatDoor
namespace Go.Proofs.YtbnnccnicfddlaaGreatDoor
open Go.RowKit Go.Shelf Kp

structure GeqR (w : World) (a b : List (Int × Int)) (i : Value) (wr : World) : Prop where
  ex : ∃ k : Nat, k ≤ a.length ∧ i = .int .i64 (k : Int) ∧ a.take k = b.take k
  low : Below w.heap.size w wr

set_option maxRecDepth 100000 in
set_option maxHeartbeats 2000000 in
theorem gapeq_any (w : World) (ga gb : Option Addr) (ca cb : Nat) (a b : List (Int × Int)) (ha : GapAt w w.heap.size ga ca a) (hb : GapAt w w.heap.size gb cb b) :
    Calls Tryz.prog 33 #[.slice ga a.length ca, .slice gb b.length cb] w fun e w' => e = .returned (.bool (a == b)) ∧ Below w.heap.size w w' := by
  have la := ha.1
  have lb := hb.1
  have ca' := ha.2.1
  have cb' := hb.2.1
  unfold maxLen at ca' cb'
  have HA := Lib.hid ha
  have HB := Lib.hid hb
  clear ha hb
  by_cases hl : a.length = b.length
  · have hl' : ((a.length : Int) != (b.length : Int)) = false := by rw [bne_eq_false_iff_eq, hl]
    have HL := Lib.hid hl
    clear hl
    go_enter Tryz.func33, Tryz.ntmps33
    go_wp2
    go_loopw [13] (fun i wr => GeqR w a b i wr) (fun i _ => ((a.length : Int) - intOf i).toNat)
    case atStart => exact ⟨⟨0, by omega, rfl, by simp⟩, Below.refl _ _⟩
    case round =>
      obtain ⟨⟨k, hk, rfl, he⟩, hBr⟩ := hrel
      by_cases hlt : k < a.length
      · have hltb : k < b.length := by rw [← HL.out]; exact hlt
        obtain ⟨_, _, hxa⟩ := HA.out.below hBr
        obtain ⟨_, _, hxb⟩ := HB.out.below hBr
        obtain ⟨ba, oa, rfl, _, cea⟩ := hxa (by omega)
        obtain ⟨bb, ob, rfl, _, ceb⟩ := hxb (by omega)
        obtain ⟨a1, a2⟩ := cea k hlt
        obtain ⟨b1, b2⟩ := ceb k hltb
        rw [Nat.mul_comm] at a1 a2 b1 b2
        obtain ⟨x, y, hxy⟩ : ∃ x y, a[k] = (x, y) := ⟨_, _, rfl⟩
        obtain ⟨u, v, huv⟩ : ∃ u v, b[k] = (u, v) := ⟨_, _, rfl⟩
        rw [hxy] at a1 a2
        rw [huv] at b1 b2
        have hnq := fun W => gap_neq x y u v W
        cases hq : (x == u && y == v) with
        | true =>
          have HN := Lib.hid (fun n => (show GeqR w a b (.int .i64 ((k : Int) + 1)) (wr.drewN n) from ⟨⟨k + 1, by omega, by simp, by
            rw [take_snoc hlt, take_snoc hltb, he, hxy, huv]
            simp only [Bool.and_eq_true, beq_iff_eq] at hq
            rw [hq.1, hq.2]⟩, below_drewN hBr n⟩))
          rw [hq] at hnq
          clear hq he cea ceb hxa hxb hxy huv
          go_wp2
          go_quiet (fail)
          go_wp2
          exact ⟨HN.out _, by simp [intOf]; omega⟩
        | false =>
          have HN := Lib.hid (show (a == b) = false by
            rw [beq_eq_false_iff_ne]
            intro h
            subst h
            rw [hxy] at huv
            simp only [Prod.mk.injEq] at huv
            rw [huv.1, huv.2] at hq
            simp at hq)
          rw [hq] at hnq
          clear hq he cea ceb hxa hxb hxy huv
          go_wp2
          go_quiet (fail)
          go_wp2
          go_ret
          exact ⟨by rw [HN.out]; rfl, below_drewN hBr _⟩
      · have HN := Lib.hid (show (a == b) = true by
          rw [beq_iff_eq]
          have e1 : a.take k = a := List.take_of_length_le (by omega)
          have e2 : b.take k = b := List.take_of_length_le (by have := HL.out; omega)
          rw [e1, e2] at he; exact he)
        have hlt' : decide ((k : Int) < (a.length : Int)) = false := by rw [decide_eq_false_iff_not]; omega
        clear he
        go_wp2
        go_ret
        exact ⟨by rw [HN.out]; rfl, hBr⟩
  · have hl' : ((a.length : Int) != (b.length : Int)) = true := by rw [bne_iff_ne]; omega
    have HN := Lib.hid (show (a == b) = false by rw [beq_eq_false_iff_ne]; intro h; exact hl (by rw [h]))
    clear hl
    go_enter Tryz.func33, Tryz.ntmps33
    go_wp2
    go_ret
    exact ⟨by rw [HN.out]; rfl, Below.refl _ _⟩
end Go.Proofs.YtbnnccnicfddlaaGreatDoor
