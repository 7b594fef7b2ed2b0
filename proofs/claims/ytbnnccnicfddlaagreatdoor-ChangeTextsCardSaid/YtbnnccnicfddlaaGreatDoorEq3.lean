/- change.same: the walk. -/
import Derived.Test.YtbnnccnicfddlaaGreatDoorEqA
import Derived.Deep.DeepCutAuto
set_option linter.unusedSimpArgs false
set_option linter.unusedVariables false
namespace Go.Proofs.YtbnnccnicfddlaaGreatDoor
open Go.RowKit Go.Shelf Kp
attribute [local go_sem] edC_size edC_0 edC_1 edC_2 edC_3 edC_4 edC_5 edC_6 edC_7 edC_8 edC_9 edC_10 edC_11 edC_12 edC_13 edC_14 edC_15 edC_16 edC_17 edC_18 edC_19 edC_20 edC_21 edC_22 edC_23 edC_24 edC_25 edC_26 edC_27 edC_28 edC_29 edC_30 edC_31 edC_32 edC_33 edC_34 edC_35 edC_36

abbrev barL (e : Ed) (ga : Option Addr) (gc : Nat) : List Value := [.int .i64 e.bwidth, .int .i64 e.bdepth, .int .i64 e.blength, .int .i64 e.bcount, .int .i64 e.bcost, .slice ga e.gaps.length gc]
/-- what lies in memory when the fields are compared -/
structure SameM (w : World) (a b : Ed) (ga gb : Option Addr) (ca cb : Nat) (s5 s6 : Value) (wx : World) : Prop where
  ea : EdAt wx w.heap.size a (.slice ga a.gaps.length ca)
  eb : EdAt wx (w.heap.size + 1) b (.slice gb b.gaps.length cb)
  bars : ∃ p q, s5 = .pointer (some ⟨p, 0, none⟩) ∧ s6 = .pointer (some ⟨q, 0, none⟩) ∧ RowAt wx p 31 (barL a ga ca) ∧ RowAt wx q 31 (barL b gb cb)
  low : Below w.heap.size w wx

theorem h4_0 (w : World) (a b c d : Obj) : ((((w.alloc a).alloc b).alloc c).alloc d).heap[w.heap.size]? = some a := by
  rw [heap_alloc_old _ _ (by first | (simp; done) | (simp; omega)), hp2]
theorem h4_1 (w : World) (a b c d : Obj) : ((((w.alloc a).alloc b).alloc c).alloc d).heap[w.heap.size + 1]? = some b := by
  rw [heap_alloc_old _ _ (by first | (simp; done) | (simp; omega)), hp2']
theorem h4_2 (w : World) (a b c d : Obj) : ((((w.alloc a).alloc b).alloc c).alloc d).heap[w.heap.size + 1 + 1]? = some c := by
  rw [heap_alloc_old _ _ (by simp), hp2'']
theorem h4_3 (w : World) (a b c d : Obj) : ((((w.alloc a).alloc b).alloc c).alloc d).heap[w.heap.size + 1 + 1 + 1]? = some d := by
  have := heap_alloc_new (((w.alloc a).alloc b).alloc c) d
  simpa using this
theorem below4 (w : World) (a b c d : Obj) : Below w.heap.size w ((((w.alloc a).alloc b).alloc c).alloc d).drew :=
  ((((((Below.refl _ _).alloc (Nat.le_refl _) _).alloc (by simp) _).alloc (by simp; omega) _).alloc (by simp; omega) _)).drew

end Go.Proofs.YtbnnccnicfddlaaGreatDoor
