/- An edit as cells; change.used: the walk, kind by kind. -/
import Derived.Test.YtbnnccnicfddlaaGreatDoorRat5
import Derived.Laws.Rows
import Derived.Laws.Tables
set_option linter.unusedSimpArgs false
set_option linter.unusedVariables false
namespace Go.Proofs.YtbnnccnicfddlaaGreatDoor
open Go.RowKit Go.Shelf Kp

/-- an edit as cells; g: the slice of its gaps -/
def edC (e : Ed) (g : Value) : Array Value := #[.int .i64 e.kind, .int .i64 e.index, .int .i64 e.sx, .int .i64 e.sy, .int .i64 e.srise, .int .i64 e.srun, .bool e.gable, .int .i64 e.splate, .int .i64 e.sover, .int .i64 e.oside, .string (tx e.oleft), .string (tx e.oright), .string (tx e.olow), .string (tx e.ohigh), .int .i64 e.zkind, .int .i64 e.zwidth, .int .i64 e.zdepth, .int .i64 e.bwidth, .int .i64 e.bdepth, .int .i64 e.blength, .int .i64 e.bcount, .int .i64 e.bcost, g, .int .i64 e.lkind, .int .i64 e.lside, .string (tx e.lweight), .int .i64 e.awidth, .int .i64 e.adepth, .int .i64 e.aspacing, .int .i64 e.aload, .int .i64 e.aspan, .int .i64 e.twidth, .int .i64 e.tlength, .int .i64 e.tlap, .int .i64 e.ttail, .int .i64 e.number, .string (tx e.text)]
/-- nil -/
abbrev nilS : Value := .slice none 0 0
/-- an edit with a kind alone -/
def edK (k : Int) : Ed := { ed0 with kind := k }
theorem edC_size (e : Ed) (g : Value) : (edC e g).size = 37 := rfl
attribute [local go_sem] edC_size
theorem edC_0 (e : Ed) (g : Value) : (edC e g)[0]? = some (.int .i64 e.kind) := rfl
theorem edC_1 (e : Ed) (g : Value) : (edC e g)[1]? = some (.int .i64 e.index) := rfl
theorem edC_2 (e : Ed) (g : Value) : (edC e g)[2]? = some (.int .i64 e.sx) := rfl
theorem edC_3 (e : Ed) (g : Value) : (edC e g)[3]? = some (.int .i64 e.sy) := rfl
theorem edC_4 (e : Ed) (g : Value) : (edC e g)[4]? = some (.int .i64 e.srise) := rfl
theorem edC_5 (e : Ed) (g : Value) : (edC e g)[5]? = some (.int .i64 e.srun) := rfl
theorem edC_6 (e : Ed) (g : Value) : (edC e g)[6]? = some (.bool e.gable) := rfl
theorem edC_7 (e : Ed) (g : Value) : (edC e g)[7]? = some (.int .i64 e.splate) := rfl
theorem edC_8 (e : Ed) (g : Value) : (edC e g)[8]? = some (.int .i64 e.sover) := rfl
theorem edC_9 (e : Ed) (g : Value) : (edC e g)[9]? = some (.int .i64 e.oside) := rfl
theorem edC_10 (e : Ed) (g : Value) : (edC e g)[10]? = some (.string (tx e.oleft)) := rfl
theorem edC_11 (e : Ed) (g : Value) : (edC e g)[11]? = some (.string (tx e.oright)) := rfl
theorem edC_12 (e : Ed) (g : Value) : (edC e g)[12]? = some (.string (tx e.olow)) := rfl
theorem edC_13 (e : Ed) (g : Value) : (edC e g)[13]? = some (.string (tx e.ohigh)) := rfl
theorem edC_14 (e : Ed) (g : Value) : (edC e g)[14]? = some (.int .i64 e.zkind) := rfl
theorem edC_15 (e : Ed) (g : Value) : (edC e g)[15]? = some (.int .i64 e.zwidth) := rfl
theorem edC_16 (e : Ed) (g : Value) : (edC e g)[16]? = some (.int .i64 e.zdepth) := rfl
theorem edC_17 (e : Ed) (g : Value) : (edC e g)[17]? = some (.int .i64 e.bwidth) := rfl
theorem edC_18 (e : Ed) (g : Value) : (edC e g)[18]? = some (.int .i64 e.bdepth) := rfl
theorem edC_19 (e : Ed) (g : Value) : (edC e g)[19]? = some (.int .i64 e.blength) := rfl
theorem edC_20 (e : Ed) (g : Value) : (edC e g)[20]? = some (.int .i64 e.bcount) := rfl
theorem edC_21 (e : Ed) (g : Value) : (edC e g)[21]? = some (.int .i64 e.bcost) := rfl
theorem edC_22 (e : Ed) (g : Value) : (edC e g)[22]? = some (g) := rfl
theorem edC_23 (e : Ed) (g : Value) : (edC e g)[23]? = some (.int .i64 e.lkind) := rfl
theorem edC_24 (e : Ed) (g : Value) : (edC e g)[24]? = some (.int .i64 e.lside) := rfl
theorem edC_25 (e : Ed) (g : Value) : (edC e g)[25]? = some (.string (tx e.lweight)) := rfl
theorem edC_26 (e : Ed) (g : Value) : (edC e g)[26]? = some (.int .i64 e.awidth) := rfl
theorem edC_27 (e : Ed) (g : Value) : (edC e g)[27]? = some (.int .i64 e.adepth) := rfl
theorem edC_28 (e : Ed) (g : Value) : (edC e g)[28]? = some (.int .i64 e.aspacing) := rfl
theorem edC_29 (e : Ed) (g : Value) : (edC e g)[29]? = some (.int .i64 e.aload) := rfl
theorem edC_30 (e : Ed) (g : Value) : (edC e g)[30]? = some (.int .i64 e.aspan) := rfl
theorem edC_31 (e : Ed) (g : Value) : (edC e g)[31]? = some (.int .i64 e.twidth) := rfl
theorem edC_32 (e : Ed) (g : Value) : (edC e g)[32]? = some (.int .i64 e.tlength) := rfl
theorem edC_33 (e : Ed) (g : Value) : (edC e g)[33]? = some (.int .i64 e.tlap) := rfl
theorem edC_34 (e : Ed) (g : Value) : (edC e g)[34]? = some (.int .i64 e.ttail) := rfl
theorem edC_35 (e : Ed) (g : Value) : (edC e g)[35]? = some (.int .i64 e.number) := rfl
theorem edC_36 (e : Ed) (g : Value) : (edC e g)[36]? = some (.string (tx e.text)) := rfl
attribute [local go_sem] edC_0 edC_1 edC_2 edC_3 edC_4 edC_5 edC_6 edC_7 edC_8 edC_9 edC_10 edC_11 edC_12 edC_13 edC_14 edC_15 edC_16 edC_17 edC_18 edC_19 edC_20 edC_21 edC_22 edC_23 edC_24 edC_25 edC_26 edC_27 edC_28 edC_29 edC_30 edC_31 edC_32 edC_33 edC_34 edC_35 edC_36
theorem ed_info : (Tryz.prog.info? 39).map (·.size) = some 37 := by kernel_rfl
theorem setRow_at {w : World} (c : Array Value) (t : TypeId) (n : Nat) (cs : Array Value) (hn : n = w.heap.size) : (w.alloc (.cells c t)).setRow n cs = w.alloc (.cells cs t) := by
  subst hn
  unfold World.setRow World.alloc
  congr 1
  apply Array.ext_getElem?
  intro k
  simp only [Array.getElem?_modify, Array.getElem?_push]
  by_cases hk : k = w.heap.size
  · subst hk; simp
  · simp [hk, Ne.symm hk]
theorem setRow_past {w : World} (o : Obj) (n : Nat) (cs : Array Value) (hn : n < w.heap.size) : (w.alloc o).setRow n cs = (w.setRow n cs).alloc o := by
  unfold World.setRow World.alloc
  congr 1
  apply Array.ext_getElem?
  intro k
  simp only [Array.getElem?_modify, Array.getElem?_push, Array.size_modify]
  by_cases hk : k = w.heap.size
  · subst hk; simp [Nat.ne_of_lt hn]
  · simp [hk]
theorem setRow_drew (w : World) (n : Nat) (cs : Array Value) : w.drew.setRow n cs = (w.setRow n cs).drew := rfl
theorem setRow_drewN (w : World) (k n : Nat) (cs : Array Value) : (w.drewN k).setRow n cs = (w.setRow n cs).drewN k := rfl
attribute [local go_sem] setRow_at setRow_past setRow_drew setRow_drewN
theorem setRow_heap {w : World} {n : Nat} {t : TypeId} {old : Array Value} (h : w.heap[n]? = some (.cells old t (0, 0))) (cs : Array Value) : (w.setRow n cs).heap[n]? = some (.cells cs t (0, 0)) := by
  simp [World.setRow, Array.getElem?_modify, h]
theorem below_setRow {B n : Nat} {w W : World} (h : Below B w W) (hn : B ≤ n) (cs : Array Value) : Below B w (W.setRow n cs) :=
  h.trans ⟨rfl, rfl, rfl, by simp [World.setRow], fun k hk => by simp only [World.setRow, Array.getElem?_modify]; rw [if_neg (by omega)]⟩
theorem hp1 (w : World) (a b : Obj) : ((w.alloc a).alloc b).heap[w.heap.size]? = some a := by
  rw [heap_alloc_old _ _ (by simp), heap_alloc_new]
theorem hp2 (w : World) (a b c : Obj) : (((w.alloc a).alloc b).alloc c).heap[w.heap.size]? = some a := by
  rw [heap_alloc_old _ _ (by simp; omega), hp1]
theorem hp2' (w : World) (a b c : Obj) : (((w.alloc a).alloc b).alloc c).heap[w.heap.size + 1]? = some b := by
  rw [heap_alloc_old _ _ (by simp)]
  have := heap_alloc_new (w.alloc a) b
  simpa using this
theorem hp2'' (w : World) (a b c : Obj) : (((w.alloc a).alloc b).alloc c).heap[w.heap.size + 1 + 1]? = some c := by
  have := heap_alloc_new ((w.alloc a).alloc b) c
  simpa using this
theorem hp2d' (w : World) (a b c : Obj) : (((w.alloc a).alloc b).alloc c).drew.heap[w.heap.size + 1]? = some b := hp2' w a b c
theorem hp2d'' (w : World) (a b c : Obj) : (((w.alloc a).alloc b).alloc c).drew.heap[w.heap.size + 1 + 1]? = some c := hp2'' w a b c

set_option maxRecDepth 100000 in
set_option maxHeartbeats 4000000 in
theorem used_1 (e : Ed) (ga : Option Addr) (gl gc : Nat) (hk : e.kind = 1) (w : World) :
    Calls Tryz.prog 22 #[.agg (edC e (.slice ga gl gc))] w fun r w' => r = .returned (.agg (edC (usedE e) nilS)) ∧ Below w.heap.size w w' := by
  have mixed : Tryz.prog.follows .mixedOrders = true := by kernel_rfl
  have k1 : (e.kind == 1) = true := by rw [hk]; rfl
  have k2 : (e.kind == 2) = false := by rw [hk]; rfl
  have k3 : (e.kind == 3) = false := by rw [hk]; rfl
  have k12 : (e.kind == 12) = false := by rw [hk]; rfl
  have k4 : (e.kind == 4) = false := by rw [hk]; rfl
  have k8 : (e.kind == 8) = false := by rw [hk]; rfl
  have k5 : (e.kind == 5) = false := by rw [hk]; rfl
  have k6 : (e.kind == 6) = false := by rw [hk]; rfl
  have k7 : (e.kind == 7) = false := by rw [hk]; rfl
  have k9 : (e.kind == 9) = false := by rw [hk]; rfl
  have k10 : (e.kind == 10) = false := by rw [hk]; rfl
  have k11 : (e.kind == 11) = false := by rw [hk]; rfl
  have HU := Lib.hid (show usedE e = { ed0 with kind := e.kind, text := e.text } by unfold usedE; simp [hk])
  clear hk
  go_enter Tryz.func22, Tryz.ntmps22
  go_wp2_with (first
    | (refine wpList_build rfl 39 _ rfl (by kernel_rfl) ?_; rw [show Value.agg (Option.getD (Tryz.prog.built 39 _) #[]) = .agg (edC (edK e.kind) nilS) from by kernel_rfl])
    | (refine wpList_store_row rfl 39 _ _ rfl _ _ rfl rfl 39 _ (by first | with_reducible exact hp2'' _ _ _ _ | with_reducible exact hp2' _ _ _ _ | with_reducible exact hp2d'' _ _ _ _ | with_reducible exact hp2d' _ _ _ _) (by kernel_rfl) (by kernel_rfl) (by kernel_rfl) ?_)
    | (refine wpList_load_row rfl 39 _ rfl _ rfl 39 _ (0, 0) _ (by first | with_reducible exact hp2'' _ _ _ _ | with_reducible exact hp2' _ _ _ _ | with_reducible exact hp2d'' _ _ _ _ | with_reducible exact hp2d' _ _ _ _) Tryz.underlying39 rfl (by kernel_rfl) ?_))
  skip
  all_goals
    refine bodyPost_ret (results_cell_row rfl _ _ _ _ _ (0, 0) _ rfl (by first | with_reducible exact hp2' _ _ _ _ | with_reducible exact setRow_heap (hp2d' _ _ _ _) _) Tryz.underlying39 rfl (by kernel_rfl)) rfl ⟨congrArg (fun c => Ending.returned (.agg c)) ?_, ?_⟩
    · rw [HU.out]; kernel_rfl
    · repeat first | with_reducible refine below_setRow ?_ (by first | omega | (simp; done) | (simp; omega)) _ | with_reducible refine Below.drew ?_ | with_reducible refine Below.alloc ?_ (by first | omega | (simp; done) | (simp; omega)) _ | with_reducible exact Below.refl _ _

set_option maxRecDepth 100000 in
set_option maxHeartbeats 4000000 in
theorem used_2 (e : Ed) (ga : Option Addr) (gl gc : Nat) (hk : e.kind = 2) (w : World) :
    Calls Tryz.prog 22 #[.agg (edC e (.slice ga gl gc))] w fun r w' => r = .returned (.agg (edC (usedE e) nilS)) ∧ Below w.heap.size w w' := by
  have mixed : Tryz.prog.follows .mixedOrders = true := by kernel_rfl
  have k1 : (e.kind == 1) = false := by rw [hk]; rfl
  have k2 : (e.kind == 2) = true := by rw [hk]; rfl
  have k3 : (e.kind == 3) = false := by rw [hk]; rfl
  have k12 : (e.kind == 12) = false := by rw [hk]; rfl
  have k4 : (e.kind == 4) = false := by rw [hk]; rfl
  have k8 : (e.kind == 8) = false := by rw [hk]; rfl
  have k5 : (e.kind == 5) = false := by rw [hk]; rfl
  have k6 : (e.kind == 6) = false := by rw [hk]; rfl
  have k7 : (e.kind == 7) = false := by rw [hk]; rfl
  have k9 : (e.kind == 9) = false := by rw [hk]; rfl
  have k10 : (e.kind == 10) = false := by rw [hk]; rfl
  have k11 : (e.kind == 11) = false := by rw [hk]; rfl
  have HU := Lib.hid (show usedE e = { ed0 with kind := e.kind, index := e.index, sx := e.sx, sy := e.sy, srise := e.srise, srun := e.srun, gable := e.gable, splate := e.splate, sover := e.sover } by unfold usedE; simp [hk])
  clear hk
  go_enter Tryz.func22, Tryz.ntmps22
  go_wp2_with (first
    | (refine wpList_build rfl 39 _ rfl (by kernel_rfl) ?_; rw [show Value.agg (Option.getD (Tryz.prog.built 39 _) #[]) = .agg (edC (edK e.kind) nilS) from by kernel_rfl])
    | (refine wpList_store_row rfl 39 _ _ rfl _ _ rfl rfl 39 _ (by first | with_reducible exact hp2'' _ _ _ _ | with_reducible exact hp2' _ _ _ _ | with_reducible exact hp2d'' _ _ _ _ | with_reducible exact hp2d' _ _ _ _) (by kernel_rfl) (by kernel_rfl) (by kernel_rfl) ?_)
    | (refine wpList_load_row rfl 39 _ rfl _ rfl 39 _ (0, 0) _ (by first | with_reducible exact hp2'' _ _ _ _ | with_reducible exact hp2' _ _ _ _ | with_reducible exact hp2d'' _ _ _ _ | with_reducible exact hp2d' _ _ _ _) Tryz.underlying39 rfl (by kernel_rfl) ?_))
  go_region_o
  all_goals go_wp2_with (first
    | (refine wpList_build rfl 39 _ rfl (by kernel_rfl) ?_; rw [show Value.agg (Option.getD (Tryz.prog.built 39 _) #[]) = .agg (edC (edK e.kind) nilS) from by kernel_rfl])
    | (refine wpList_store_row rfl 39 _ _ rfl _ _ rfl rfl 39 _ (by first | with_reducible exact hp2'' _ _ _ _ | with_reducible exact hp2' _ _ _ _ | with_reducible exact hp2d'' _ _ _ _ | with_reducible exact hp2d' _ _ _ _) (by kernel_rfl) (by kernel_rfl) (by kernel_rfl) ?_)
    | (refine wpList_load_row rfl 39 _ rfl _ rfl 39 _ (0, 0) _ (by first | with_reducible exact hp2'' _ _ _ _ | with_reducible exact hp2' _ _ _ _ | with_reducible exact hp2d'' _ _ _ _ | with_reducible exact hp2d' _ _ _ _) Tryz.underlying39 rfl (by kernel_rfl) ?_))
  skip
  all_goals
    refine bodyPost_ret (results_cell_row rfl _ _ _ _ _ (0, 0) _ rfl (by first | with_reducible exact hp2' _ _ _ _ | with_reducible exact setRow_heap (hp2d' _ _ _ _) _) Tryz.underlying39 rfl (by kernel_rfl)) rfl ⟨congrArg (fun c => Ending.returned (.agg c)) ?_, ?_⟩
    · rw [HU.out]; kernel_rfl
    · repeat first | with_reducible refine below_setRow ?_ (by first | omega | (simp; done) | (simp; omega)) _ | with_reducible refine Below.drew ?_ | with_reducible refine Below.alloc ?_ (by first | omega | (simp; done) | (simp; omega)) _ | with_reducible exact Below.refl _ _

set_option maxRecDepth 100000 in
set_option maxHeartbeats 4000000 in
theorem used_3 (e : Ed) (ga : Option Addr) (gl gc : Nat) (hk : e.kind = 3) (w : World) :
    Calls Tryz.prog 22 #[.agg (edC e (.slice ga gl gc))] w fun r w' => r = .returned (.agg (edC (usedE e) nilS)) ∧ Below w.heap.size w w' := by
  have mixed : Tryz.prog.follows .mixedOrders = true := by kernel_rfl
  have k1 : (e.kind == 1) = false := by rw [hk]; rfl
  have k2 : (e.kind == 2) = false := by rw [hk]; rfl
  have k3 : (e.kind == 3) = true := by rw [hk]; rfl
  have k12 : (e.kind == 12) = false := by rw [hk]; rfl
  have k4 : (e.kind == 4) = false := by rw [hk]; rfl
  have k8 : (e.kind == 8) = false := by rw [hk]; rfl
  have k5 : (e.kind == 5) = false := by rw [hk]; rfl
  have k6 : (e.kind == 6) = false := by rw [hk]; rfl
  have k7 : (e.kind == 7) = false := by rw [hk]; rfl
  have k9 : (e.kind == 9) = false := by rw [hk]; rfl
  have k10 : (e.kind == 10) = false := by rw [hk]; rfl
  have k11 : (e.kind == 11) = false := by rw [hk]; rfl
  have HU := Lib.hid (show usedE e = { ed0 with kind := e.kind, index := e.index, number := e.number } by unfold usedE; simp [hk])
  clear hk
  go_enter Tryz.func22, Tryz.ntmps22
  go_wp2_with (first
    | (refine wpList_build rfl 39 _ rfl (by kernel_rfl) ?_; rw [show Value.agg (Option.getD (Tryz.prog.built 39 _) #[]) = .agg (edC (edK e.kind) nilS) from by kernel_rfl])
    | (refine wpList_store_row rfl 39 _ _ rfl _ _ rfl rfl 39 _ (by first | with_reducible exact hp2'' _ _ _ _ | with_reducible exact hp2' _ _ _ _ | with_reducible exact hp2d'' _ _ _ _ | with_reducible exact hp2d' _ _ _ _) (by kernel_rfl) (by kernel_rfl) (by kernel_rfl) ?_)
    | (refine wpList_load_row rfl 39 _ rfl _ rfl 39 _ (0, 0) _ (by first | with_reducible exact hp2'' _ _ _ _ | with_reducible exact hp2' _ _ _ _ | with_reducible exact hp2d'' _ _ _ _ | with_reducible exact hp2d' _ _ _ _) Tryz.underlying39 rfl (by kernel_rfl) ?_))
  go_region_o
  all_goals go_wp2_with (first
    | (refine wpList_build rfl 39 _ rfl (by kernel_rfl) ?_; rw [show Value.agg (Option.getD (Tryz.prog.built 39 _) #[]) = .agg (edC (edK e.kind) nilS) from by kernel_rfl])
    | (refine wpList_store_row rfl 39 _ _ rfl _ _ rfl rfl 39 _ (by first | with_reducible exact hp2'' _ _ _ _ | with_reducible exact hp2' _ _ _ _ | with_reducible exact hp2d'' _ _ _ _ | with_reducible exact hp2d' _ _ _ _) (by kernel_rfl) (by kernel_rfl) (by kernel_rfl) ?_)
    | (refine wpList_load_row rfl 39 _ rfl _ rfl 39 _ (0, 0) _ (by first | with_reducible exact hp2'' _ _ _ _ | with_reducible exact hp2' _ _ _ _ | with_reducible exact hp2d'' _ _ _ _ | with_reducible exact hp2d' _ _ _ _) Tryz.underlying39 rfl (by kernel_rfl) ?_))
  skip
  all_goals
    refine bodyPost_ret (results_cell_row rfl _ _ _ _ _ (0, 0) _ rfl (by first | with_reducible exact hp2' _ _ _ _ | with_reducible exact setRow_heap (hp2d' _ _ _ _) _) Tryz.underlying39 rfl (by kernel_rfl)) rfl ⟨congrArg (fun c => Ending.returned (.agg c)) ?_, ?_⟩
    · rw [HU.out]; kernel_rfl
    · repeat first | with_reducible refine below_setRow ?_ (by first | omega | (simp; done) | (simp; omega)) _ | with_reducible refine Below.drew ?_ | with_reducible refine Below.alloc ?_ (by first | omega | (simp; done) | (simp; omega)) _ | with_reducible exact Below.refl _ _

set_option maxRecDepth 100000 in
set_option maxHeartbeats 4000000 in
theorem used_4 (e : Ed) (ga : Option Addr) (gl gc : Nat) (hk : e.kind = 4) (w : World) :
    Calls Tryz.prog 22 #[.agg (edC e (.slice ga gl gc))] w fun r w' => r = .returned (.agg (edC (usedE e) nilS)) ∧ Below w.heap.size w w' := by
  have mixed : Tryz.prog.follows .mixedOrders = true := by kernel_rfl
  have k1 : (e.kind == 1) = false := by rw [hk]; rfl
  have k2 : (e.kind == 2) = false := by rw [hk]; rfl
  have k3 : (e.kind == 3) = false := by rw [hk]; rfl
  have k12 : (e.kind == 12) = false := by rw [hk]; rfl
  have k4 : (e.kind == 4) = true := by rw [hk]; rfl
  have k8 : (e.kind == 8) = false := by rw [hk]; rfl
  have k5 : (e.kind == 5) = false := by rw [hk]; rfl
  have k6 : (e.kind == 6) = false := by rw [hk]; rfl
  have k7 : (e.kind == 7) = false := by rw [hk]; rfl
  have k9 : (e.kind == 9) = false := by rw [hk]; rfl
  have k10 : (e.kind == 10) = false := by rw [hk]; rfl
  have k11 : (e.kind == 11) = false := by rw [hk]; rfl
  have HU := Lib.hid (show usedE e = { ed0 with kind := e.kind, number := e.number } by unfold usedE; simp [hk])
  clear hk
  go_enter Tryz.func22, Tryz.ntmps22
  go_wp2_with (first
    | (refine wpList_build rfl 39 _ rfl (by kernel_rfl) ?_; rw [show Value.agg (Option.getD (Tryz.prog.built 39 _) #[]) = .agg (edC (edK e.kind) nilS) from by kernel_rfl])
    | (refine wpList_store_row rfl 39 _ _ rfl _ _ rfl rfl 39 _ (by first | with_reducible exact hp2'' _ _ _ _ | with_reducible exact hp2' _ _ _ _ | with_reducible exact hp2d'' _ _ _ _ | with_reducible exact hp2d' _ _ _ _) (by kernel_rfl) (by kernel_rfl) (by kernel_rfl) ?_)
    | (refine wpList_load_row rfl 39 _ rfl _ rfl 39 _ (0, 0) _ (by first | with_reducible exact hp2'' _ _ _ _ | with_reducible exact hp2' _ _ _ _ | with_reducible exact hp2d'' _ _ _ _ | with_reducible exact hp2d' _ _ _ _) Tryz.underlying39 rfl (by kernel_rfl) ?_))
  skip
  all_goals
    refine bodyPost_ret (results_cell_row rfl _ _ _ _ _ (0, 0) _ rfl (by first | with_reducible exact hp2' _ _ _ _ | with_reducible exact setRow_heap (hp2d' _ _ _ _) _) Tryz.underlying39 rfl (by kernel_rfl)) rfl ⟨congrArg (fun c => Ending.returned (.agg c)) ?_, ?_⟩
    · rw [HU.out]; kernel_rfl
    · repeat first | with_reducible refine below_setRow ?_ (by first | omega | (simp; done) | (simp; omega)) _ | with_reducible refine Below.drew ?_ | with_reducible refine Below.alloc ?_ (by first | omega | (simp; done) | (simp; omega)) _ | with_reducible exact Below.refl _ _

set_option maxRecDepth 100000 in
set_option maxHeartbeats 4000000 in
theorem used_5 (e : Ed) (ga : Option Addr) (gl gc : Nat) (hk : e.kind = 5) (w : World) :
    Calls Tryz.prog 22 #[.agg (edC e (.slice ga gl gc))] w fun r w' => r = .returned (.agg (edC (usedE e) nilS)) ∧ Below w.heap.size w w' := by
  have mixed : Tryz.prog.follows .mixedOrders = true := by kernel_rfl
  have k1 : (e.kind == 1) = false := by rw [hk]; rfl
  have k2 : (e.kind == 2) = false := by rw [hk]; rfl
  have k3 : (e.kind == 3) = false := by rw [hk]; rfl
  have k12 : (e.kind == 12) = false := by rw [hk]; rfl
  have k4 : (e.kind == 4) = false := by rw [hk]; rfl
  have k8 : (e.kind == 8) = false := by rw [hk]; rfl
  have k5 : (e.kind == 5) = true := by rw [hk]; rfl
  have k6 : (e.kind == 6) = false := by rw [hk]; rfl
  have k7 : (e.kind == 7) = false := by rw [hk]; rfl
  have k9 : (e.kind == 9) = false := by rw [hk]; rfl
  have k10 : (e.kind == 10) = false := by rw [hk]; rfl
  have k11 : (e.kind == 11) = false := by rw [hk]; rfl
  have HU := Lib.hid (show usedE e = { ed0 with kind := e.kind, index := e.index, oside := e.oside, oleft := e.oleft, oright := e.oright, olow := e.olow, ohigh := e.ohigh } by unfold usedE; simp [hk])
  clear hk
  go_enter Tryz.func22, Tryz.ntmps22
  go_wp2_with (first
    | (refine wpList_build rfl 39 _ rfl (by kernel_rfl) ?_; rw [show Value.agg (Option.getD (Tryz.prog.built 39 _) #[]) = .agg (edC (edK e.kind) nilS) from by kernel_rfl])
    | (refine wpList_store_row rfl 39 _ _ rfl _ _ rfl rfl 39 _ (by first | with_reducible exact hp2'' _ _ _ _ | with_reducible exact hp2' _ _ _ _ | with_reducible exact hp2d'' _ _ _ _ | with_reducible exact hp2d' _ _ _ _) (by kernel_rfl) (by kernel_rfl) (by kernel_rfl) ?_)
    | (refine wpList_load_row rfl 39 _ rfl _ rfl 39 _ (0, 0) _ (by first | with_reducible exact hp2'' _ _ _ _ | with_reducible exact hp2' _ _ _ _ | with_reducible exact hp2d'' _ _ _ _ | with_reducible exact hp2d' _ _ _ _) Tryz.underlying39 rfl (by kernel_rfl) ?_))
  go_region_o
  all_goals go_wp2_with (first
    | (refine wpList_build rfl 39 _ rfl (by kernel_rfl) ?_; rw [show Value.agg (Option.getD (Tryz.prog.built 39 _) #[]) = .agg (edC (edK e.kind) nilS) from by kernel_rfl])
    | (refine wpList_store_row rfl 39 _ _ rfl _ _ rfl rfl 39 _ (by first | with_reducible exact hp2'' _ _ _ _ | with_reducible exact hp2' _ _ _ _ | with_reducible exact hp2d'' _ _ _ _ | with_reducible exact hp2d' _ _ _ _) (by kernel_rfl) (by kernel_rfl) (by kernel_rfl) ?_)
    | (refine wpList_load_row rfl 39 _ rfl _ rfl 39 _ (0, 0) _ (by first | with_reducible exact hp2'' _ _ _ _ | with_reducible exact hp2' _ _ _ _ | with_reducible exact hp2d'' _ _ _ _ | with_reducible exact hp2d' _ _ _ _) Tryz.underlying39 rfl (by kernel_rfl) ?_))
  skip
  all_goals
    refine bodyPost_ret (results_cell_row rfl _ _ _ _ _ (0, 0) _ rfl (by first | with_reducible exact hp2' _ _ _ _ | with_reducible exact setRow_heap (hp2d' _ _ _ _) _) Tryz.underlying39 rfl (by kernel_rfl)) rfl ⟨congrArg (fun c => Ending.returned (.agg c)) ?_, ?_⟩
    · rw [HU.out]; kernel_rfl
    · repeat first | with_reducible refine below_setRow ?_ (by first | omega | (simp; done) | (simp; omega)) _ | with_reducible refine Below.drew ?_ | with_reducible refine Below.alloc ?_ (by first | omega | (simp; done) | (simp; omega)) _ | with_reducible exact Below.refl _ _

set_option maxRecDepth 100000 in
set_option maxHeartbeats 4000000 in
theorem used_6 (e : Ed) (ga : Option Addr) (gl gc : Nat) (hk : e.kind = 6) (w : World) :
    Calls Tryz.prog 22 #[.agg (edC e (.slice ga gl gc))] w fun r w' => r = .returned (.agg (edC (usedE e) nilS)) ∧ Below w.heap.size w w' := by
  have mixed : Tryz.prog.follows .mixedOrders = true := by kernel_rfl
  have k1 : (e.kind == 1) = false := by rw [hk]; rfl
  have k2 : (e.kind == 2) = false := by rw [hk]; rfl
  have k3 : (e.kind == 3) = false := by rw [hk]; rfl
  have k12 : (e.kind == 12) = false := by rw [hk]; rfl
  have k4 : (e.kind == 4) = false := by rw [hk]; rfl
  have k8 : (e.kind == 8) = false := by rw [hk]; rfl
  have k5 : (e.kind == 5) = false := by rw [hk]; rfl
  have k6 : (e.kind == 6) = true := by rw [hk]; rfl
  have k7 : (e.kind == 7) = false := by rw [hk]; rfl
  have k9 : (e.kind == 9) = false := by rw [hk]; rfl
  have k10 : (e.kind == 10) = false := by rw [hk]; rfl
  have k11 : (e.kind == 11) = false := by rw [hk]; rfl
  have HU := Lib.hid (show usedE e = { ed0 with kind := e.kind, zkind := e.zkind, zwidth := e.zwidth, zdepth := e.zdepth } by unfold usedE; simp [hk])
  clear hk
  go_enter Tryz.func22, Tryz.ntmps22
  go_wp2_with (first
    | (refine wpList_build rfl 39 _ rfl (by kernel_rfl) ?_; rw [show Value.agg (Option.getD (Tryz.prog.built 39 _) #[]) = .agg (edC (edK e.kind) nilS) from by kernel_rfl])
    | (refine wpList_store_row rfl 39 _ _ rfl _ _ rfl rfl 39 _ (by first | with_reducible exact hp2'' _ _ _ _ | with_reducible exact hp2' _ _ _ _ | with_reducible exact hp2d'' _ _ _ _ | with_reducible exact hp2d' _ _ _ _) (by kernel_rfl) (by kernel_rfl) (by kernel_rfl) ?_)
    | (refine wpList_load_row rfl 39 _ rfl _ rfl 39 _ (0, 0) _ (by first | with_reducible exact hp2'' _ _ _ _ | with_reducible exact hp2' _ _ _ _ | with_reducible exact hp2d'' _ _ _ _ | with_reducible exact hp2d' _ _ _ _) Tryz.underlying39 rfl (by kernel_rfl) ?_))
  skip
  all_goals
    refine bodyPost_ret (results_cell_row rfl _ _ _ _ _ (0, 0) _ rfl (by first | with_reducible exact hp2' _ _ _ _ | with_reducible exact setRow_heap (hp2d' _ _ _ _) _) Tryz.underlying39 rfl (by kernel_rfl)) rfl ⟨congrArg (fun c => Ending.returned (.agg c)) ?_, ?_⟩
    · rw [HU.out]; kernel_rfl
    · repeat first | with_reducible refine below_setRow ?_ (by first | omega | (simp; done) | (simp; omega)) _ | with_reducible refine Below.drew ?_ | with_reducible refine Below.alloc ?_ (by first | omega | (simp; done) | (simp; omega)) _ | with_reducible exact Below.refl _ _

set_option maxRecDepth 100000 in
set_option maxHeartbeats 4000000 in
theorem used_7 (e : Ed) (ga : Option Addr) (gl gc : Nat) (hk : e.kind = 7) (w : World) :
    Calls Tryz.prog 22 #[.agg (edC e (.slice ga gl gc))] w fun r w' => r = .returned (.agg (edC (usedE e) (.slice ga gl gc))) ∧ Below w.heap.size w w' := by
  have mixed : Tryz.prog.follows .mixedOrders = true := by kernel_rfl
  have k1 : (e.kind == 1) = false := by rw [hk]; rfl
  have k2 : (e.kind == 2) = false := by rw [hk]; rfl
  have k3 : (e.kind == 3) = false := by rw [hk]; rfl
  have k12 : (e.kind == 12) = false := by rw [hk]; rfl
  have k4 : (e.kind == 4) = false := by rw [hk]; rfl
  have k8 : (e.kind == 8) = false := by rw [hk]; rfl
  have k5 : (e.kind == 5) = false := by rw [hk]; rfl
  have k6 : (e.kind == 6) = false := by rw [hk]; rfl
  have k7 : (e.kind == 7) = true := by rw [hk]; rfl
  have k9 : (e.kind == 9) = false := by rw [hk]; rfl
  have k10 : (e.kind == 10) = false := by rw [hk]; rfl
  have k11 : (e.kind == 11) = false := by rw [hk]; rfl
  have HU := Lib.hid (show usedE e = { ed0 with kind := e.kind, index := e.index, bwidth := e.bwidth, bdepth := e.bdepth, blength := e.blength, bcount := e.bcount, bcost := e.bcost, gaps := e.gaps } by unfold usedE; simp [hk])
  clear hk
  go_enter Tryz.func22, Tryz.ntmps22
  go_wp2_with (first
    | (refine wpList_build rfl 39 _ rfl (by kernel_rfl) ?_; rw [show Value.agg (Option.getD (Tryz.prog.built 39 _) #[]) = .agg (edC (edK e.kind) nilS) from by kernel_rfl])
    | (refine wpList_store_row rfl 39 _ _ rfl _ _ rfl rfl 39 _ (by first | with_reducible exact hp2'' _ _ _ _ | with_reducible exact hp2' _ _ _ _ | with_reducible exact hp2d'' _ _ _ _ | with_reducible exact hp2d' _ _ _ _) (by kernel_rfl) (by kernel_rfl) (by kernel_rfl) ?_)
    | (refine wpList_load_row rfl 39 _ rfl _ rfl 39 _ (0, 0) _ (by first | with_reducible exact hp2'' _ _ _ _ | with_reducible exact hp2' _ _ _ _ | with_reducible exact hp2d'' _ _ _ _ | with_reducible exact hp2d' _ _ _ _) Tryz.underlying39 rfl (by kernel_rfl) ?_))
  go_region_o
  all_goals go_wp2_with (first
    | (refine wpList_build rfl 39 _ rfl (by kernel_rfl) ?_; rw [show Value.agg (Option.getD (Tryz.prog.built 39 _) #[]) = .agg (edC (edK e.kind) nilS) from by kernel_rfl])
    | (refine wpList_store_row rfl 39 _ _ rfl _ _ rfl rfl 39 _ (by first | with_reducible exact hp2'' _ _ _ _ | with_reducible exact hp2' _ _ _ _ | with_reducible exact hp2d'' _ _ _ _ | with_reducible exact hp2d' _ _ _ _) (by kernel_rfl) (by kernel_rfl) (by kernel_rfl) ?_)
    | (refine wpList_load_row rfl 39 _ rfl _ rfl 39 _ (0, 0) _ (by first | with_reducible exact hp2'' _ _ _ _ | with_reducible exact hp2' _ _ _ _ | with_reducible exact hp2d'' _ _ _ _ | with_reducible exact hp2d' _ _ _ _) Tryz.underlying39 rfl (by kernel_rfl) ?_))
  skip
  all_goals
    refine bodyPost_ret (results_cell_row rfl _ _ _ _ _ (0, 0) _ rfl (by first | with_reducible exact hp2' _ _ _ _ | with_reducible exact setRow_heap (hp2d' _ _ _ _) _) Tryz.underlying39 rfl (by kernel_rfl)) rfl ⟨congrArg (fun c => Ending.returned (.agg c)) ?_, ?_⟩
    · rw [HU.out]; kernel_rfl
    · repeat first | with_reducible refine below_setRow ?_ (by first | omega | (simp; done) | (simp; omega)) _ | with_reducible refine Below.drew ?_ | with_reducible refine Below.alloc ?_ (by first | omega | (simp; done) | (simp; omega)) _ | with_reducible exact Below.refl _ _

set_option maxRecDepth 100000 in
set_option maxHeartbeats 4000000 in
theorem used_8 (e : Ed) (ga : Option Addr) (gl gc : Nat) (hk : e.kind = 8) (w : World) :
    Calls Tryz.prog 22 #[.agg (edC e (.slice ga gl gc))] w fun r w' => r = .returned (.agg (edC (usedE e) nilS)) ∧ Below w.heap.size w w' := by
  have mixed : Tryz.prog.follows .mixedOrders = true := by kernel_rfl
  have k1 : (e.kind == 1) = false := by rw [hk]; rfl
  have k2 : (e.kind == 2) = false := by rw [hk]; rfl
  have k3 : (e.kind == 3) = false := by rw [hk]; rfl
  have k12 : (e.kind == 12) = false := by rw [hk]; rfl
  have k4 : (e.kind == 4) = false := by rw [hk]; rfl
  have k8 : (e.kind == 8) = true := by rw [hk]; rfl
  have k5 : (e.kind == 5) = false := by rw [hk]; rfl
  have k6 : (e.kind == 6) = false := by rw [hk]; rfl
  have k7 : (e.kind == 7) = false := by rw [hk]; rfl
  have k9 : (e.kind == 9) = false := by rw [hk]; rfl
  have k10 : (e.kind == 10) = false := by rw [hk]; rfl
  have k11 : (e.kind == 11) = false := by rw [hk]; rfl
  have HU := Lib.hid (show usedE e = { ed0 with kind := e.kind, number := e.number } by unfold usedE; simp [hk])
  clear hk
  go_enter Tryz.func22, Tryz.ntmps22
  go_wp2_with (first
    | (refine wpList_build rfl 39 _ rfl (by kernel_rfl) ?_; rw [show Value.agg (Option.getD (Tryz.prog.built 39 _) #[]) = .agg (edC (edK e.kind) nilS) from by kernel_rfl])
    | (refine wpList_store_row rfl 39 _ _ rfl _ _ rfl rfl 39 _ (by first | with_reducible exact hp2'' _ _ _ _ | with_reducible exact hp2' _ _ _ _ | with_reducible exact hp2d'' _ _ _ _ | with_reducible exact hp2d' _ _ _ _) (by kernel_rfl) (by kernel_rfl) (by kernel_rfl) ?_)
    | (refine wpList_load_row rfl 39 _ rfl _ rfl 39 _ (0, 0) _ (by first | with_reducible exact hp2'' _ _ _ _ | with_reducible exact hp2' _ _ _ _ | with_reducible exact hp2d'' _ _ _ _ | with_reducible exact hp2d' _ _ _ _) Tryz.underlying39 rfl (by kernel_rfl) ?_))
  skip
  all_goals
    refine bodyPost_ret (results_cell_row rfl _ _ _ _ _ (0, 0) _ rfl (by first | with_reducible exact hp2' _ _ _ _ | with_reducible exact setRow_heap (hp2d' _ _ _ _) _) Tryz.underlying39 rfl (by kernel_rfl)) rfl ⟨congrArg (fun c => Ending.returned (.agg c)) ?_, ?_⟩
    · rw [HU.out]; kernel_rfl
    · repeat first | with_reducible refine below_setRow ?_ (by first | omega | (simp; done) | (simp; omega)) _ | with_reducible refine Below.drew ?_ | with_reducible refine Below.alloc ?_ (by first | omega | (simp; done) | (simp; omega)) _ | with_reducible exact Below.refl _ _

set_option maxRecDepth 100000 in
set_option maxHeartbeats 4000000 in
theorem used_9 (e : Ed) (ga : Option Addr) (gl gc : Nat) (hk : e.kind = 9) (w : World) :
    Calls Tryz.prog 22 #[.agg (edC e (.slice ga gl gc))] w fun r w' => r = .returned (.agg (edC (usedE e) nilS)) ∧ Below w.heap.size w w' := by
  have mixed : Tryz.prog.follows .mixedOrders = true := by kernel_rfl
  have k1 : (e.kind == 1) = false := by rw [hk]; rfl
  have k2 : (e.kind == 2) = false := by rw [hk]; rfl
  have k3 : (e.kind == 3) = false := by rw [hk]; rfl
  have k12 : (e.kind == 12) = false := by rw [hk]; rfl
  have k4 : (e.kind == 4) = false := by rw [hk]; rfl
  have k8 : (e.kind == 8) = false := by rw [hk]; rfl
  have k5 : (e.kind == 5) = false := by rw [hk]; rfl
  have k6 : (e.kind == 6) = false := by rw [hk]; rfl
  have k7 : (e.kind == 7) = false := by rw [hk]; rfl
  have k9 : (e.kind == 9) = true := by rw [hk]; rfl
  have k10 : (e.kind == 10) = false := by rw [hk]; rfl
  have k11 : (e.kind == 11) = false := by rw [hk]; rfl
  have HU := Lib.hid (show usedE e = { ed0 with kind := e.kind, twidth := e.twidth, tlength := e.tlength, tlap := e.tlap, ttail := e.ttail } by unfold usedE; simp [hk])
  clear hk
  go_enter Tryz.func22, Tryz.ntmps22
  go_wp2_with (first
    | (refine wpList_build rfl 39 _ rfl (by kernel_rfl) ?_; rw [show Value.agg (Option.getD (Tryz.prog.built 39 _) #[]) = .agg (edC (edK e.kind) nilS) from by kernel_rfl])
    | (refine wpList_store_row rfl 39 _ _ rfl _ _ rfl rfl 39 _ (by first | with_reducible exact hp2'' _ _ _ _ | with_reducible exact hp2' _ _ _ _ | with_reducible exact hp2d'' _ _ _ _ | with_reducible exact hp2d' _ _ _ _) (by kernel_rfl) (by kernel_rfl) (by kernel_rfl) ?_)
    | (refine wpList_load_row rfl 39 _ rfl _ rfl 39 _ (0, 0) _ (by first | with_reducible exact hp2'' _ _ _ _ | with_reducible exact hp2' _ _ _ _ | with_reducible exact hp2d'' _ _ _ _ | with_reducible exact hp2d' _ _ _ _) Tryz.underlying39 rfl (by kernel_rfl) ?_))
  skip
  all_goals
    refine bodyPost_ret (results_cell_row rfl _ _ _ _ _ (0, 0) _ rfl (by first | with_reducible exact hp2' _ _ _ _ | with_reducible exact setRow_heap (hp2d' _ _ _ _) _) Tryz.underlying39 rfl (by kernel_rfl)) rfl ⟨congrArg (fun c => Ending.returned (.agg c)) ?_, ?_⟩
    · rw [HU.out]; kernel_rfl
    · repeat first | with_reducible refine below_setRow ?_ (by first | omega | (simp; done) | (simp; omega)) _ | with_reducible refine Below.drew ?_ | with_reducible refine Below.alloc ?_ (by first | omega | (simp; done) | (simp; omega)) _ | with_reducible exact Below.refl _ _

set_option maxRecDepth 100000 in
set_option maxHeartbeats 4000000 in
theorem used_10 (e : Ed) (ga : Option Addr) (gl gc : Nat) (hk : e.kind = 10) (w : World) :
    Calls Tryz.prog 22 #[.agg (edC e (.slice ga gl gc))] w fun r w' => r = .returned (.agg (edC (usedE e) nilS)) ∧ Below w.heap.size w w' := by
  have mixed : Tryz.prog.follows .mixedOrders = true := by kernel_rfl
  have k1 : (e.kind == 1) = false := by rw [hk]; rfl
  have k2 : (e.kind == 2) = false := by rw [hk]; rfl
  have k3 : (e.kind == 3) = false := by rw [hk]; rfl
  have k12 : (e.kind == 12) = false := by rw [hk]; rfl
  have k4 : (e.kind == 4) = false := by rw [hk]; rfl
  have k8 : (e.kind == 8) = false := by rw [hk]; rfl
  have k5 : (e.kind == 5) = false := by rw [hk]; rfl
  have k6 : (e.kind == 6) = false := by rw [hk]; rfl
  have k7 : (e.kind == 7) = false := by rw [hk]; rfl
  have k9 : (e.kind == 9) = false := by rw [hk]; rfl
  have k10 : (e.kind == 10) = true := by rw [hk]; rfl
  have k11 : (e.kind == 11) = false := by rw [hk]; rfl
  have HU := Lib.hid (show usedE e = { ed0 with kind := e.kind, index := e.index, lkind := e.lkind, lside := e.lside, lweight := e.lweight } by unfold usedE; simp [hk])
  clear hk
  go_enter Tryz.func22, Tryz.ntmps22
  go_wp2_with (first
    | (refine wpList_build rfl 39 _ rfl (by kernel_rfl) ?_; rw [show Value.agg (Option.getD (Tryz.prog.built 39 _) #[]) = .agg (edC (edK e.kind) nilS) from by kernel_rfl])
    | (refine wpList_store_row rfl 39 _ _ rfl _ _ rfl rfl 39 _ (by first | with_reducible exact hp2'' _ _ _ _ | with_reducible exact hp2' _ _ _ _ | with_reducible exact hp2d'' _ _ _ _ | with_reducible exact hp2d' _ _ _ _) (by kernel_rfl) (by kernel_rfl) (by kernel_rfl) ?_)
    | (refine wpList_load_row rfl 39 _ rfl _ rfl 39 _ (0, 0) _ (by first | with_reducible exact hp2'' _ _ _ _ | with_reducible exact hp2' _ _ _ _ | with_reducible exact hp2d'' _ _ _ _ | with_reducible exact hp2d' _ _ _ _) Tryz.underlying39 rfl (by kernel_rfl) ?_))
  go_region_o
  all_goals go_wp2_with (first
    | (refine wpList_build rfl 39 _ rfl (by kernel_rfl) ?_; rw [show Value.agg (Option.getD (Tryz.prog.built 39 _) #[]) = .agg (edC (edK e.kind) nilS) from by kernel_rfl])
    | (refine wpList_store_row rfl 39 _ _ rfl _ _ rfl rfl 39 _ (by first | with_reducible exact hp2'' _ _ _ _ | with_reducible exact hp2' _ _ _ _ | with_reducible exact hp2d'' _ _ _ _ | with_reducible exact hp2d' _ _ _ _) (by kernel_rfl) (by kernel_rfl) (by kernel_rfl) ?_)
    | (refine wpList_load_row rfl 39 _ rfl _ rfl 39 _ (0, 0) _ (by first | with_reducible exact hp2'' _ _ _ _ | with_reducible exact hp2' _ _ _ _ | with_reducible exact hp2d'' _ _ _ _ | with_reducible exact hp2d' _ _ _ _) Tryz.underlying39 rfl (by kernel_rfl) ?_))
  skip
  all_goals
    refine bodyPost_ret (results_cell_row rfl _ _ _ _ _ (0, 0) _ rfl (by first | with_reducible exact hp2' _ _ _ _ | with_reducible exact setRow_heap (hp2d' _ _ _ _) _) Tryz.underlying39 rfl (by kernel_rfl)) rfl ⟨congrArg (fun c => Ending.returned (.agg c)) ?_, ?_⟩
    · rw [HU.out]; kernel_rfl
    · repeat first | with_reducible refine below_setRow ?_ (by first | omega | (simp; done) | (simp; omega)) _ | with_reducible refine Below.drew ?_ | with_reducible refine Below.alloc ?_ (by first | omega | (simp; done) | (simp; omega)) _ | with_reducible exact Below.refl _ _

set_option maxRecDepth 100000 in
set_option maxHeartbeats 4000000 in
theorem used_11 (e : Ed) (ga : Option Addr) (gl gc : Nat) (hk : e.kind = 11) (w : World) :
    Calls Tryz.prog 22 #[.agg (edC e (.slice ga gl gc))] w fun r w' => r = .returned (.agg (edC (usedE e) nilS)) ∧ Below w.heap.size w w' := by
  have mixed : Tryz.prog.follows .mixedOrders = true := by kernel_rfl
  have k1 : (e.kind == 1) = false := by rw [hk]; rfl
  have k2 : (e.kind == 2) = false := by rw [hk]; rfl
  have k3 : (e.kind == 3) = false := by rw [hk]; rfl
  have k12 : (e.kind == 12) = false := by rw [hk]; rfl
  have k4 : (e.kind == 4) = false := by rw [hk]; rfl
  have k8 : (e.kind == 8) = false := by rw [hk]; rfl
  have k5 : (e.kind == 5) = false := by rw [hk]; rfl
  have k6 : (e.kind == 6) = false := by rw [hk]; rfl
  have k7 : (e.kind == 7) = false := by rw [hk]; rfl
  have k9 : (e.kind == 9) = false := by rw [hk]; rfl
  have k10 : (e.kind == 10) = false := by rw [hk]; rfl
  have k11 : (e.kind == 11) = true := by rw [hk]; rfl
  have HU := Lib.hid (show usedE e = { ed0 with kind := e.kind, awidth := e.awidth, adepth := e.adepth, aspacing := e.aspacing, aload := e.aload, aspan := e.aspan } by unfold usedE; simp [hk])
  clear hk
  go_enter Tryz.func22, Tryz.ntmps22
  go_wp2_with (first
    | (refine wpList_build rfl 39 _ rfl (by kernel_rfl) ?_; rw [show Value.agg (Option.getD (Tryz.prog.built 39 _) #[]) = .agg (edC (edK e.kind) nilS) from by kernel_rfl])
    | (refine wpList_store_row rfl 39 _ _ rfl _ _ rfl rfl 39 _ (by first | with_reducible exact hp2'' _ _ _ _ | with_reducible exact hp2' _ _ _ _ | with_reducible exact hp2d'' _ _ _ _ | with_reducible exact hp2d' _ _ _ _) (by kernel_rfl) (by kernel_rfl) (by kernel_rfl) ?_)
    | (refine wpList_load_row rfl 39 _ rfl _ rfl 39 _ (0, 0) _ (by first | with_reducible exact hp2'' _ _ _ _ | with_reducible exact hp2' _ _ _ _ | with_reducible exact hp2d'' _ _ _ _ | with_reducible exact hp2d' _ _ _ _) Tryz.underlying39 rfl (by kernel_rfl) ?_))
  skip
  all_goals
    refine bodyPost_ret (results_cell_row rfl _ _ _ _ _ (0, 0) _ rfl (by first | with_reducible exact hp2' _ _ _ _ | with_reducible exact setRow_heap (hp2d' _ _ _ _) _) Tryz.underlying39 rfl (by kernel_rfl)) rfl ⟨congrArg (fun c => Ending.returned (.agg c)) ?_, ?_⟩
    · rw [HU.out]; kernel_rfl
    · repeat first | with_reducible refine below_setRow ?_ (by first | omega | (simp; done) | (simp; omega)) _ | with_reducible refine Below.drew ?_ | with_reducible refine Below.alloc ?_ (by first | omega | (simp; done) | (simp; omega)) _ | with_reducible exact Below.refl _ _

set_option maxRecDepth 100000 in
set_option maxHeartbeats 4000000 in
theorem used_12 (e : Ed) (ga : Option Addr) (gl gc : Nat) (hk : e.kind = 12) (w : World) :
    Calls Tryz.prog 22 #[.agg (edC e (.slice ga gl gc))] w fun r w' => r = .returned (.agg (edC (usedE e) nilS)) ∧ Below w.heap.size w w' := by
  have mixed : Tryz.prog.follows .mixedOrders = true := by kernel_rfl
  have k1 : (e.kind == 1) = false := by rw [hk]; rfl
  have k2 : (e.kind == 2) = false := by rw [hk]; rfl
  have k3 : (e.kind == 3) = false := by rw [hk]; rfl
  have k12 : (e.kind == 12) = true := by rw [hk]; rfl
  have k4 : (e.kind == 4) = false := by rw [hk]; rfl
  have k8 : (e.kind == 8) = false := by rw [hk]; rfl
  have k5 : (e.kind == 5) = false := by rw [hk]; rfl
  have k6 : (e.kind == 6) = false := by rw [hk]; rfl
  have k7 : (e.kind == 7) = false := by rw [hk]; rfl
  have k9 : (e.kind == 9) = false := by rw [hk]; rfl
  have k10 : (e.kind == 10) = false := by rw [hk]; rfl
  have k11 : (e.kind == 11) = false := by rw [hk]; rfl
  have HU := Lib.hid (show usedE e = { ed0 with kind := e.kind, index := e.index, number := e.number } by unfold usedE; simp [hk])
  clear hk
  go_enter Tryz.func22, Tryz.ntmps22
  go_wp2_with (first
    | (refine wpList_build rfl 39 _ rfl (by kernel_rfl) ?_; rw [show Value.agg (Option.getD (Tryz.prog.built 39 _) #[]) = .agg (edC (edK e.kind) nilS) from by kernel_rfl])
    | (refine wpList_store_row rfl 39 _ _ rfl _ _ rfl rfl 39 _ (by first | with_reducible exact hp2'' _ _ _ _ | with_reducible exact hp2' _ _ _ _ | with_reducible exact hp2d'' _ _ _ _ | with_reducible exact hp2d' _ _ _ _) (by kernel_rfl) (by kernel_rfl) (by kernel_rfl) ?_)
    | (refine wpList_load_row rfl 39 _ rfl _ rfl 39 _ (0, 0) _ (by first | with_reducible exact hp2'' _ _ _ _ | with_reducible exact hp2' _ _ _ _ | with_reducible exact hp2d'' _ _ _ _ | with_reducible exact hp2d' _ _ _ _) Tryz.underlying39 rfl (by kernel_rfl) ?_))
  go_region_o
  all_goals go_wp2_with (first
    | (refine wpList_build rfl 39 _ rfl (by kernel_rfl) ?_; rw [show Value.agg (Option.getD (Tryz.prog.built 39 _) #[]) = .agg (edC (edK e.kind) nilS) from by kernel_rfl])
    | (refine wpList_store_row rfl 39 _ _ rfl _ _ rfl rfl 39 _ (by first | with_reducible exact hp2'' _ _ _ _ | with_reducible exact hp2' _ _ _ _ | with_reducible exact hp2d'' _ _ _ _ | with_reducible exact hp2d' _ _ _ _) (by kernel_rfl) (by kernel_rfl) (by kernel_rfl) ?_)
    | (refine wpList_load_row rfl 39 _ rfl _ rfl 39 _ (0, 0) _ (by first | with_reducible exact hp2'' _ _ _ _ | with_reducible exact hp2' _ _ _ _ | with_reducible exact hp2d'' _ _ _ _ | with_reducible exact hp2d' _ _ _ _) Tryz.underlying39 rfl (by kernel_rfl) ?_))
  skip
  all_goals
    refine bodyPost_ret (results_cell_row rfl _ _ _ _ _ (0, 0) _ rfl (by first | with_reducible exact hp2' _ _ _ _ | with_reducible exact setRow_heap (hp2d' _ _ _ _) _) Tryz.underlying39 rfl (by kernel_rfl)) rfl ⟨congrArg (fun c => Ending.returned (.agg c)) ?_, ?_⟩
    · rw [HU.out]; kernel_rfl
    · repeat first | with_reducible refine below_setRow ?_ (by first | omega | (simp; done) | (simp; omega)) _ | with_reducible refine Below.drew ?_ | with_reducible refine Below.alloc ?_ (by first | omega | (simp; done) | (simp; omega)) _ | with_reducible exact Below.refl _ _
end Go.Proofs.YtbnnccnicfddlaaGreatDoor
