/- strings.Builder at the head of a block (its own, or a struct's): copyCheck, WriteByte, WriteString, Len. · strings.Builder at the head of a block: String. -/
import Derived.Test.YtbnnccnicfddlaaGreatDoorStr4
import Derived.Shelf.Strings.Builder1
import Derived.Lib.OthersKept
import Derived.Lib.OwnKind
import Derived.Lib.BufferKept
set_option linter.unusedSimpArgs false
set_option linter.unusedVariables false
namespace Go.Proofs.YtbnnccnicfddlaaGreatDoor
open Go.RowKit Go.Shelf Kp

/-- A builder lies at the head of block b of type T; behind it the cells rest; it holds the bytes bs. -/
def Bd (B b : Nat) (T : TypeId) (p : Value) (rest bs : List Value) (w : World) : Prop :=
  B ≤ b ∧ ∃ v, w.heap[b]? = some (.cells (p :: v :: rest).toArray T (0, 0)) ∧ w.ownsRow B 5 1 v bs.length bs ∧ v.ownBlock ≠ some b
/-- what the model asks of such a block's type -/
structure BdT (T : TypeId) (n : Nat) : Prop where
  lies : liesAt Tryz.prog Tryz.prog.depth T (n / Tryz.prog.cellsOf T) 0 63 1 = true
  ne : T ≠ 5
theorem bdT_own : BdT 63 2 := ⟨by kernel_rfl, by decide⟩
theorem bdT_writer : BdT 65 4 := ⟨by kernel_rfl, by decide⟩
/-- fresh or used -/
def selfP (b : Nat) (p : Value) : Prop := p = .pointer none ∨ p = .pointer (some ⟨b, 0, none⟩)
abbrev slf (b : Nat) : Value := .pointer (some ⟨b, 0, none⟩)

theorem builder_size : (Tryz.prog.info? 63).map (·.size) = some 2 := by kernel_rfl
theorem byte_info : (Tryz.prog.info? 5).map (fun i => (i.zero, i.size, i.bytes)) = some (some (.int .u8 0), 1, 1) := by kernel_rfl

theorem heap_cell0 {w : World} {b : Nat} {T : TypeId} {p v : Value} {rest : List Value} (h : w.heap[b]? = some (.cells (p :: v :: rest).toArray T (0, 0))) : w.cell? ⟨b, 0, none⟩ = some p := by simp [World.cell?, h]
theorem heap_cell1 {w : World} {b : Nat} {T : TypeId} {p v : Value} {rest : List Value} (h : w.heap[b]? = some (.cells (p :: v :: rest).toArray T (0, 0))) : w.cell? ⟨b, 1, none⟩ = some v := by simp [World.cell?, h]
theorem heap_cellN {w : World} {b : Nat} {T : TypeId} {cs : List Value} (h : w.heap[b]? = some (.cells cs.toArray T (0, 0))) (i : Nat) : w.cell? ⟨b, i, none⟩ = cs[i]? := by simp [World.cell?, h]
theorem heap_frozen {w : World} {b : Nat} {T : TypeId} {cs : Array Value} (h : w.heap[b]? = some (.cells cs T (0, 0))) (i : Nat) : w.frozen? ⟨b, i, none⟩ = false := by simp [World.frozen?, h]
theorem heap_shape {w : World} {b : Nat} {T : TypeId} {cs : List Value} (h : w.heap[b]? = some (.cells cs.toArray T (0, 0))) : w.shape? b = some (T, cs.length) := by simp [World.shape?, h]

set_option maxRecDepth 100000 in
set_option maxHeartbeats 1000000 in
theorem bcopy_used (b : Nat) (w : World) (h0 : w.cell? ⟨b, 0, none⟩ = some (slf b)) :
    Calls Tryz.prog 43 #[slf b] w fun e w' => e = .returned (.tuple #[]) ∧ w' = w := by
  obtain ⟨j, hj, _⟩ := Option.map_eq_some_iff.1 builder_size
  go_enter Tryz.func43, Tryz.ntmps43
  go_wp2
  rw [Lib.run_neq_ptr_same w _ Tryz.underlying60 hj]
  go_wp2
  go_end0
  exact ⟨rfl, rfl⟩

set_option maxRecDepth 100000 in
set_option maxHeartbeats 1000000 in
theorem bcopy_fresh (b : Nat) (T : TypeId) (n : Nat) (w : World) (h0 : w.cell? ⟨b, 0, none⟩ = some (.pointer none)) (hsh : w.shape? b = some (T, n)) (hn : 2 ≤ n) (hT : BdT T n) (hfz : w.frozen? ⟨b, 0, none⟩ = false) :
    Calls Tryz.prog 43 #[slf b] w fun e w' => e = .returned (.tuple #[]) ∧ w' = w.setCell ⟨b, 0, none⟩ (slf b) := by
  obtain ⟨j, hj, hjs⟩ := Option.map_eq_some_iff.1 builder_size
  go_enter Tryz.func43, Tryz.ntmps43
  go_wp2
  rw [Lib.run_to_unsafe w ⟨b, 0, none⟩ Tryz.underlying60 Tryz.underlying112 hj (by rw [hjs]; decide) hsh (by show 0 < n; omega)]
  simp only [Result.andThen]
  rw [Oper.upon_value]
  go_wp2
  rw [run_callFunc_extern Tryz.func52 (by kernel_rfl) (by kernel_rfl) (by kernel_rfl) (e := Extern.AbiNoEscape.same) (by kernel_rfl)]
  rw [Lib.run_noEscape]
  simp only [Result.andThen]
  rw [Oper.upon_value]
  go_wp2
  rw [Lib.run_from_unsafe w ⟨b, 0, none⟩ Tryz.underlying112 Tryz.underlying60 hj hsh hT.lies]
  simp only [Result.andThen]
  rw [Oper.upon_value]
  go_wp2
  go_end0
  exact ⟨rfl, rfl⟩

theorem heap_set0 {w : World} {b : Nat} {T : TypeId} {p v : Value} {rest : List Value} (h : w.heap[b]? = some (.cells (p :: v :: rest).toArray T (0, 0))) (x : Value) :
    (w.setCell ⟨b, 0, none⟩ x).heap[b]? = some (.cells (x :: v :: rest).toArray T (0, 0)) := by simp [World.setCell, Array.getElem?_modify, h]
theorem heap_set1 {w : World} {b : Nat} {T : TypeId} {p v : Value} {rest : List Value} (h : w.heap[b]? = some (.cells (p :: v :: rest).toArray T (0, 0))) (x : Value) :
    (w.setCell ⟨b, 1, none⟩ x).heap[b]? = some (.cells (p :: x :: rest).toArray T (0, 0)) := by simp [World.setCell, Array.getElem?_modify, h]
theorem own_set {w : World} {B b i n : Nat} {v : Value} {xs : List Value} (h : w.ownsRow B 5 1 v n xs) (hne : v.ownBlock ≠ some b) (x : Value) : (w.setCell ⟨b, i, none⟩ x).ownsRow B 5 1 v n xs :=
  h.kept (row := some b) ⟨rfl, rfl, rfl, by simp [World.setCell], fun k _ hk => Below.heap_setCell _ _ _ _ (fun e => hk (by simp [e]))⟩ (Or.inr hne)

/-- what a call on the builder of block b leaves -/
structure BdKeep (B b : Nat) (w w' : World) : Prop where
  low : Below B w w'
  kept : Lib.OthersKept 5 (some b) w w'
theorem BdKeep.trans {B b : Nat} {a c d : World} (h : BdKeep B b a c) (k : BdKeep B b c d) : BdKeep B b a d := ⟨h.low.trans k.low, h.kept.trans k.kept⟩
theorem BdKeep.refl (B b : Nat) (w : World) : BdKeep B b w w := ⟨Below.refl _ _, Lib.OthersKept.refl _ _ _⟩
theorem BdKeep.others {B b : Nat} {w w' : World} (h : BdKeep B b w w') {cs : Array Value} {t : TypeId} {m : Nat × Nat} (hb : w.heap[b]? = some (.cells cs t m)) : KeepsOthers w w' :=
  ⟨h.low.size, fun k o hk ho => h.kept k o hk (fun e => by cases e; rw [hb] at hk; cases hk; cases ho) (fun c fz e => by subst e; cases ho)⟩

theorem bcopy_any (B b : Nat) (T : TypeId) (p : Value) (rest bs : List Value) (w : World) (h : Bd B b T p rest bs w) (hp : selfP b p) (hT : BdT T (rest.length + 2)) :
    Calls Tryz.prog 43 #[slf b] w fun e w' => e = .returned (.tuple #[]) ∧ Bd B b T (slf b) rest bs w' ∧ BdKeep B b w w' := by
  obtain ⟨hB, v, hb, hown, hne⟩ := h
  rcases hp with rfl | rfl
  · refine (bcopy_fresh b T (rest.length + 2) w (heap_cell0 hb) (heap_shape hb) (by omega) hT (heap_frozen hb 0)).mono ?_
    rintro e w' ⟨rfl, rfl⟩
    exact ⟨rfl, ⟨hB, v, heap_set0 hb _, own_set hown hne _, hne⟩, (Below.refl _ _).setCell (p := ⟨b, 0, none⟩) hB _, (Lib.OthersKept.refl _ _ _).setCell ⟨b, 0, none⟩ rfl _⟩
  · refine (bcopy_used b w (heap_cell0 hb)).mono ?_
    rintro e w' ⟨rfl, rfl⟩
    exact ⟨rfl, ⟨hB, v, hb, hown, hne⟩, BdKeep.refl _ _ _⟩

theorem bd_put {B b : Nat} {T : TypeId} {p v v' : Value} {rest bs' : List Value} {w : World} (hB : B ≤ b) (hb : w.heap[b]? = some (.cells (p :: v :: rest).toArray T (0, 0))) (hown : w.ownsRow B 5 1 v' bs'.length bs') (hTe : T ≠ 5) :
    Bd B b T p rest bs' (w.setCell ⟨b, 1, none⟩ v') := by
  have hne := Lib.ownBlock_ne hown hb hTe
  exact ⟨hB, v', heap_set1 hb _, own_set hown hne _, hne⟩

set_option maxRecDepth 100000 in
set_option maxHeartbeats 1000000 in
theorem bstr_any (B b : Nat) (T : TypeId) (p : Value) (rest bs : List Value) (s : ByteArray) (w : World) (h : Bd B b T p rest bs w) (hp : selfP b p) (hT : BdT T (rest.length + 2)) (hlen : bs.length + s.size ≤ 140737488355328) (hBw : B ≤ w.heap.size) :
    Calls Tryz.prog 36 #[slf b, .string s] w fun e w' => e = .returned (.tuple #[.int .i64 s.size, .nilIface]) ∧ Bd B b T (slf b) rest (bs ++ Lib.strCells s) w' ∧ BdKeep B b w w' := by
  obtain ⟨i0, hi, hz0, hz1, hz2⟩ := info_parts byte_info
  go_enter Tryz.func36, Tryz.ntmps36
  go_wp2_with (go_at_call 43; refine (bcopy_any B b T p rest bs _ h hp hT).mono ?_)
  rintro e w1 ⟨rfl, h1, hk1⟩
  obtain ⟨hB, v, hbk, hown, hne⟩ := h1
  have c0 := heap_cell0 hbk
  have c1 := heap_cell1 hbk
  go_wp2_with (at_builtin; refine Lib.wpList_append_own_string _ rfl _ _ 61 9 rfl B 5 i0 Tryz.underlying61 Tryz.underlying9 hi hz0 hz1 hz2 _ _ _ rfl hown s rfl ?c3 ?c4 ?c5 ?_)
  case c3 => unfold maxLen; omega
  case c4 => omega
  case c5 => have := hk1.low.size; omega
  intro v' w2 hown' hgrow _
  have hlt : b < w1.heap.size := (Array.getElem?_eq_some_iff.1 hbk).1
  have hb2 : w2.heap[b]? = some (.cells (slf b :: v :: rest).toArray T (0, 0)) := by
    rw [hgrow.block b hlt (fun e => hne e.symm)]
    exact hbk
  have d0 := heap_cell0 hb2
  have d1 := heap_cell1 hb2
  have f1 := heap_frozen hb2 1
  obtain ⟨ao, n', cap, rfl⟩ : ∃ ao n' cap, v' = .slice ao n' cap := by
    rcases hown'.2 with ⟨hv, _⟩ | ⟨g, cap, cur, hv, _⟩
    · exact ⟨_, _, _, hv⟩
    · exact ⟨_, _, _, hv⟩
  go_wp2
  go_ret2
  refine ⟨rfl, ?_, ?_, ?_⟩
  · exact bd_put hB hb2 (bs' := bs ++ Lib.strCells s) (by simpa [Lib.strCells_length] using hown') hT.ne
  · exact (hk1.low.grown hgrow (by have := hk1.low.size; omega) (fun k hk => (hown.lt k hk).1)).setCell (p := ⟨b, 1, none⟩) hB _
  · exact (hk1.kept.grown hgrow (Lib.ownsRow_kind hown)).setCell ⟨b, 1, none⟩ rfl _

set_option maxRecDepth 100000 in
set_option maxHeartbeats 1000000 in
theorem bbyte_any (B b : Nat) (T : TypeId) (p : Value) (rest bs : List Value) (c : Int) (w : World) (h : Bd B b T p rest bs w) (hp : selfP b p) (hT : BdT T (rest.length + 2)) (hlen : bs.length + 1 ≤ 140737488355328) (hBw : B ≤ w.heap.size) :
    Calls Tryz.prog 35 #[slf b, .int .u8 c] w fun e w' => e = .returned .nilIface ∧ Bd B b T (slf b) rest (bs ++ [.int .u8 c]) w' ∧ BdKeep B b w w' := by
  obtain ⟨i0, hi, hz0, hz1, hz2⟩ := info_parts byte_info
  go_enter Tryz.func35, Tryz.ntmps35
  go_wp2_with (go_at_call 43; refine (bcopy_any B b T p rest bs _ h hp hT).mono ?_)
  rintro e w1 ⟨rfl, h1, hk1⟩
  obtain ⟨hB, v, hbk, hown, hne⟩ := h1
  have c0 := heap_cell0 hbk
  have c1 := heap_cell1 hbk
  go_wp2_with (at_builtin; refine wpList_append_own _ rfl _ _ 61 rfl B 5 i0 (.int .u8 0) 1 1 Tryz.underlying61 hi hz0 hz1 hz2 rfl (by decide) _ _ _ rfl (hown.alloc _) ⟨w1.heap.size, 0, none⟩ 1 1 [.int .u8 c] rfl rfl ?c1 ?c2 ?c3 ?c4 ?c5 ?_)
  case c1 =>
    intro j u hj
    match j, hj with
    | 0, hj => simp at hj; subst hj; simp [Addr.add]
  case c2 => intro u hu; simp at hu; subst hu; rfl
  case c3 => unfold maxLen; omega
  case c4 => omega
  case c5 => have := hk1.low.size; simp; omega
  intro v' w2 hown' hgrow _
  have hlt : b < w1.heap.size := (Array.getElem?_eq_some_iff.1 hbk).1
  have hb2 : w2.heap[b]? = some (.cells (slf b :: v :: rest).toArray T (0, 0)) := by
    rw [hgrow.block b (by simp; omega) (fun e => hne e.symm), Lib.alloc_old w1 _ b hlt]
    exact hbk
  have d0 := heap_cell0 hb2
  have d1 := heap_cell1 hb2
  have f1 := heap_frozen hb2 1
  obtain ⟨ao, n', cap, rfl⟩ : ∃ ao n' cap, v' = .slice ao n' cap := by
    rcases hown'.2 with ⟨hv, _⟩ | ⟨g, cap, cur, hv, _⟩
    · exact ⟨_, _, _, hv⟩
    · exact ⟨_, _, _, hv⟩
  go_wp2
  go_ret
  refine ⟨rfl, ?_, ?_, ?_⟩
  · exact bd_put hB hb2 (bs' := bs ++ [.int .u8 c]) (by simpa using hown') hT.ne
  · exact ((hk1.low.alloc (by have := hk1.low.size; omega) _).grown hgrow (by have := hk1.low.size; simp; omega) (fun k hk => (hown.lt k hk).1)).setCell (p := ⟨b, 1, none⟩) hB _
  · exact ((hk1.kept.alloc _).grown hgrow (Lib.ownsRow_kind (hown.alloc _))).setCell ⟨b, 1, none⟩ rfl _

set_option maxRecDepth 100000 in
set_option maxHeartbeats 400000 in
theorem blen_any (B b : Nat) (T : TypeId) (p : Value) (rest bs : List Value) (w : World) (h : Bd B b T p rest bs w) :
    Calls Tryz.prog 34 #[slf b] w fun e w' => e = .returned (.int .i64 bs.length) ∧ w' = w := by
  obtain ⟨hB, v, hbk, hown, hne⟩ := h
  have c1 := heap_cell1 hbk
  obtain ⟨ao, cap, rfl⟩ : ∃ ao cap, v = .slice ao bs.length cap := by
    rcases hown.2 with ⟨hv, h0⟩ | ⟨g, cap, cur, hv, _⟩
    · exact ⟨_, _, by rw [hv, h0]⟩
    · exact ⟨_, _, hv⟩
  clear hbk hown hne
  go_enter Tryz.func34, Tryz.ntmps34
  go_wp2
  go_ret
  exact ⟨rfl, rfl⟩
end Go.Proofs.YtbnnccnicfddlaaGreatDoor
namespace Go.Proofs.YtbnnccnicfddlaaGreatDoor
open Go.RowKit Go.Shelf Kp

theorem strCells_tx (l : List UInt8) : Lib.strCells (tx l) = Lib.byteCells l := rfl

set_option maxRecDepth 100000 in
set_option maxHeartbeats 2000000 in
theorem bstring_any (B b : Nat) (T : TypeId) (p : Value) (rest : List Value) (l : List UInt8) (w : World) (h : Bd B b T p rest (Lib.byteCells l) w) (h0 : l ≠ []) :
    Calls Tryz.prog 16 #[slf b] w fun e w' => e = .returned (.string (tx l)) ∧ BdKeep B b w w' := by
  obtain ⟨hB, v, hbk, hown, hne⟩ := h
  have hl0 : l.length ≠ 0 := by simpa using h0
  rw [Lib.byteCells_length] at hown
  obtain ⟨g, cap, cur, rfl, hbg, hg, hnc, hcm, hcs, htake⟩ : ∃ g cap cur, v = .slice (some ⟨g, 0, none⟩) l.length cap ∧ B ≤ g ∧ w.heap[g]? = some (.cells cur 5 (0, 0)) ∧ l.length ≤ cap ∧ cap ≤ maxLen ∧ cur.size = cap * 1 ∧ cur.toList.take (l.length * 1) = Lib.byteCells l := by
    rcases hown.2 with ⟨_, hz⟩ | ⟨g, cap, cur, hv, r⟩
    · exact absurd hz hl0
    · exact ⟨g, cap, cur, hv, r⟩
  have c1 : w.drew.cell? ⟨b, 1, none⟩ = some (.slice (some ⟨g, 0, none⟩) l.length cap) := heap_cell1 (w := w.drew) hbk
  have hSD : (Builtin.unsafeSliceData_ #[61] 83 #[.slice (some ⟨g, 0, none⟩) l.length cap]).run Tryz.prog w.drew = .ok (.pointer (some ⟨g, 0, none⟩)) w.drew :=
    Lib.run_unsafeSliceData_row _ _ _ _ _ _ (by omega)
  have hUS : (Builtin.unsafeString_ #[83, 3] 9 #[.pointer (some ⟨g, 0, none⟩), .int .i64 l.length]).run Tryz.prog w.drew = .ok (.string (tx l)) (w.drew.freeze ⟨g, 0, none⟩ l.length) := by
    refine Lib.run_unsafeString_row w.drew 83 3 9 5 Tryz.underlying83 (by kernel_rfl) g cur.size (by have hg' : w.drew.heap[g]? = some (.cells cur 5 (0, 0)) := hg; simp [World.shape?, hg']) l h0 (by omega) (by unfold maxLen at hcm; omega) ?_
    intro j x hx
    have := hown.cells (g := g) rfl j (.int .u8 x.toNat) (by simp [Lib.byteCells, hx])
    exact this
  clear hown htake hne hcm hnc hcs
  have mixed : Tryz.prog.follows .mixedOrders = true := by kernel_rfl
  go_enter Tryz.func16, Tryz.ntmps16
  go_wp2
  go_region_o
  all_goals (go_wp2; go_ret; exact ⟨rfl, Lib.below_freeze (Below.drew (Below.refl B w)) (p := ⟨g, 0, none⟩) hbg _, (Lib.OthersKept.refl _ _ _).drew.freeze ⟨g, 0, none⟩ _ ⟨_, _, hg⟩⟩)
end Go.Proofs.YtbnnccnicfddlaaGreatDoor
