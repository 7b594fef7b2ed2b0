/- integer.compare: the walk. -/
import Derived.Test.YtbnnccnicfddlaaGreatDoorInt6
import Derived.Test.YtbnnccnicfddlaaGreatDoorBack
set_option linter.unusedSimpArgs false
set_option linter.unusedVariables false
namespace Go.Proofs.YtbnnccnicfddlaaGreatDoor
open Go.RowKit Go.Shelf Kp
attribute [local go_sem] Oper.semAt_some

theorem heap3_0 (w : World) (x y z : Obj) : (((w.alloc x).alloc y).alloc z).heap[w.heap.size]? = some x := by
  rw [Below.heap_alloc _ _ _ (by simp; omega), Below.heap_alloc _ _ _ (by simp)]; exact World.alloc_heap_new w x
theorem heap3_1 (w : World) (x y z : Obj) : (((w.alloc x).alloc y).alloc z).heap[w.heap.size + 1]? = some y := by
  rw [Below.heap_alloc _ _ _ (by simp)]
  have := World.alloc_heap_new (w.alloc x) y
  rwa [World.size_alloc] at this
theorem heap3_2 (w : World) (x y z : Obj) : (((w.alloc x).alloc y).alloc z).heap[w.heap.size + 2]? = some z := by
  have := World.alloc_heap_new ((w.alloc x).alloc y) z
  rwa [World.size_alloc, World.size_alloc] at this
theorem below3 (w : World) (x y z : Obj) : Below w.heap.size w (((w.alloc x).alloc y).alloc z) :=
  (((Below.refl _ _).alloc (Nat.le_refl _) _).alloc (by simp) _).alloc (by simp; omega) _

def CmpPost (w : World) (a b : List Nat) (e : Ending) (w' : World) : Prop :=
  ∃ c : Int, e = .returned (.int .i64 c) ∧ (c < 0 ↔ val a < val b) ∧ (0 < c ↔ val b < val a) ∧ Below w.heap.size w w'

theorem cmp_len {a b : List Nat} (ha : Canon a) (hb : Canon b) (h : a.length ≠ b.length) :
    ((a.length : Int) - b.length < 0 ↔ val a < val b) ∧ (0 < (a.length : Int) - b.length ↔ val b < val a) := by
  rcases Nat.lt_or_gt_of_ne h with h | h
  · have := val_lt_of_length ha.small hb.trim h
    constructor <;> constructor <;> intro _ <;> omega
  · have := val_lt_of_length hb.small ha.trim h
    constructor <;> constructor <;> intro _ <;> omega
theorem cmp_at {a b : List Nat} {i : Nat} (ha : Canon a) (hb : Canon b) (hl : a.length = b.length) (hi : i < a.length) (hs : ∀ k, i < k → k < a.length → fv a k = fv b k) (hne : fv a i ≠ fv b i) :
    ((fv a i : Int) - fv b i < 0 ↔ val a < val b) ∧ (0 < (fv a i : Int) - fv b i ↔ val b < val a) := by
  unfold val
  rw [← hl]
  rcases Nat.lt_or_gt_of_ne hne with h | h
  · have := S_cmp hi (fun k _ => fv_small ha.small k) hs h
    constructor <;> constructor <;> intro _ <;> omega
  · have := S_cmp hi (fun k _ => fv_small hb.small k) (fun k h1 h2 => (hs k h1 h2).symm) h
    constructor <;> constructor <;> intro _ <;> omega
theorem cmp_same {a b : List Nat} (hl : a.length = b.length) (hs : ∀ k, k < a.length → fv a k = fv b k) : val a = val b := by
  unfold val
  rw [← hl]; exact S_congr hs

set_option maxRecDepth 100000 in
set_option maxHeartbeats 1000000 in
theorem compare_lens (w : World) (a b : List Nat) (va vb : Value) (ha : SlN w w.heap.size va a) (hb : SlN w w.heap.size vb b) (hca : Canon a) (hcb : Canon b) (hne : a.length ≠ b.length) :
    Calls Tryz.prog 99 #[va, vb] w (CmpPost w a b) := by
  have hc := Lib.hid (cmp_len hca hcb hne)
  obtain ⟨A, ca, rfl, ha1, ha2, hac⟩ := ha
  obtain ⟨A', cb, rfl, hb1, hb2, hbc⟩ := hb
  unfold maxLen at ha2 hb2
  clear hac hbc
  have hne' : ((a.length : Int) != b.length) = true := by rw [bne_iff_ne]; omega
  clear hne
  go_enter Tryz.func99, Tryz.ntmps99
  go_wp2
  exact bodyPost_ret (v := .int .i64 ((a.length : Int) - b.length)) (by simp [results, Tryz.results99, go_sem]) rfl ⟨_, rfl, hc.out.1, hc.out.2, by exact ((Below.refl _ _).alloc (Nat.le_refl _) _).alloc (by simp) _⟩

theorem SlN.stays {n0 b0 : Nat} {W W' : World} {v : Value} {l : List Nat} (h : SlN W b0 v l) (hs : Stays n0 W W') : SlN W' b0 v l := by
  obtain ⟨A, cap, rfl, h1, h2, hc⟩ := h
  refine ⟨A, cap, rfl, h1, h2, fun hn => ?_⟩
  obtain ⟨b, off, e, hb, hcell⟩ := hc hn
  exact ⟨b, off, e, hb, fun j hj => hs.cell (hcell j hj)⟩

/-- what holds behind k rounds of compare: the last k limbs are the same -/
structure CmpI (w : World) (a b : List Nat) (A : Option Addr) (ca : Nat) (A' : Option Addr) (cb : Nat) (k : Nat) (W : World) : Prop where
  box : W.heap[w.heap.size]? = some (.cells #[.slice A' b.length cb] 97 (0, 0))
  res : W.heap[w.heap.size + 1]? = some (.cells #[.int .i64 0] 3 (0, 0))
  it : W.heap[w.heap.size + 2]? = some (.cells #[.slice A a.length ca] 97 (0, 0))
  sa : SlN W w.heap.size (.slice A a.length ca) a
  sb : SlN W w.heap.size (.slice A' b.length cb) b
  same : ∀ j, a.length - k ≤ j → j < a.length → fv a j = fv b j
  low : Below w.heap.size w W
theorem CmpI.stays {w : World} {a b : List Nat} {A : Option Addr} {ca : Nat} {A' : Option Addr} {cb k n0 : Nat} {W W' : World} (h : CmpI w a b A ca A' cb k W) (hs : Stays n0 W W') (hn : w.heap.size ≤ n0) : CmpI w a b A ca A' cb k W' :=
  ⟨hs.cells _ _ _ _ h.box, hs.cells _ _ _ _ h.res, hs.cells _ _ _ _ h.it, h.sa.stays hs, h.sb.stays hs, h.same, h.low.trans (hs.below.mono hn)⟩
/-- compare has left with a result -/
structure CmpIx (w : World) (a b : List Nat) (c : Code) (k : Nat) (W : World) : Prop where
  ret : c = .ret
  res : ∃ x : Int, W.heap[w.heap.size + 1]? = some (.cells #[.int .i64 x] 3 (0, 0)) ∧ (x < 0 ↔ val a < val b) ∧ (0 < x ↔ val b < val a)
  low : Below w.heap.size w W
theorem CmpIx.stays {w : World} {a b : List Nat} {c : Code} {k n0 : Nat} {W W' : World} (h : CmpIx w a b c k W) (hs : Stays n0 W W') (hn : w.heap.size ≤ n0) : CmpIx w a b c k W' := by
  obtain ⟨e, ⟨x, hx, h1, h2⟩, hl⟩ := h
  exact ⟨e, ⟨x, hs.cells _ _ _ _ hx, h1, h2⟩, hl.trans (hs.below.mono hn)⟩
theorem cell_of_heap {W : World} {b : Nat} {v : Value} {t : TypeId} (h : W.heap[b]? = some (.cells #[v] t (0, 0))) : W.cell? ⟨b, 0, none⟩ = some v := by simp [World.cell?, h]
theorem frozen_of_heap {W : World} {b : Nat} {v : Value} {t : TypeId} (h : W.heap[b]? = some (.cells #[v] t (0, 0))) : W.frozen? ⟨b, 0, none⟩ = false := by simp [World.frozen?, h]
theorem CmpI.back {w : World} {a b : List Nat} {A : Option Addr} {ca : Nat} {A' : Option Addr} {cb k : Nat} {W : World} (h : CmpI w a b A ca A' cb k W) :
    BackM (w.heap.size + 2) A a.length ca (fun j x => x = fv a j) W := by
  refine ⟨cell_of_heap h.it, fun hn => ?_⟩
  obtain ⟨_, _, e, _, _, hc⟩ := h.sa
  injection e with e1 e2 e3
  subst e1 e3
  obtain ⟨b, off, e, _, hcell⟩ := hc hn
  exact ⟨b, off, e, fun j hj => ⟨_, hcell j hj, rfl⟩⟩

set_option maxRecDepth 100000 in
set_option maxHeartbeats 1000000 in
theorem compare_same (w : World) (a b : List Nat) (va vb : Value) (ha : SlN w w.heap.size va a) (hb : SlN w w.heap.size vb b) (hca : Canon a) (hcb : Canon b) (hl : a.length = b.length) (hlen : a.length ≤ 4294967296) :
    Calls Tryz.prog 99 #[va, vb] w (CmpPost w a b) := by
  obtain ⟨A, ca, rfl, ha1, ha2, hac⟩ := id ha
  obtain ⟨A', cb, rfl, hb1, hb2, hbc⟩ := id hb
  unfold maxLen at ha2 hb2
  refine (callsIn_wide (n := 9)).1 (callsIn_of_wp_marks Tryz.func99 rfl trivial ?_)
  simp only [Tryz.ntmps99, List.size_toArray, List.length_cons, List.length_nil, Nat.reduceAdd, Nat.reduceSub, Array.replicate_succ, Array.replicate_zero, List.push_toArray, List.append_toArray, List.nil_append, List.cons_append]
  have hne' : ((a.length : Int) != b.length) = false := by rw [hl]; simp
  have HL := Lib.hid hl
  clear hl hac hbc
  gi_wp2_with (refine ⟨trivial, ?_⟩; gi_at_call 102; refine (callsIn_wide.2 (backward_any _ _ _ _)).mono ?_; rintro e w' ⟨rfl, rfl⟩)
  refine wpIn_rangeAt (gf := 114) (lb := #[.pointer (some ⟨w.heap.size + 2, 0, none⟩)]) rfl (enters_of Tryz.func114 (by kernel_rfl) rfl)
    (backward1_seq (w.heap.size + 2) A a.length ca (fun j x => x = fv a j) hlen) (fun k x ⟨_, _, e⟩ => by rw [e]; rfl)
    (CmpI w a b A ca A' cb) (CmpIx w a b) (fun k W W' h hs => h.stays hs (by simp; omega)) (fun c k W W' h hs => h.stays hs (by simp; omega)) (fun k W h => h.back) ?start ?round ?done ?stop
  case start =>
    refine ⟨heap3_0 _ _ _ _, heap3_1 _ _ _ _, heap3_2 _ _ _ _, ?_, ?_, fun j h1 h2 => by omega, below3 _ _ _ _⟩
    · exact ha.below (below3 _ _ _ _)
    · exact hb.below (below3 _ _ _ _)
  case round =>
    intro l k x W K hk hx hi hK
    obtain ⟨v, rfl, rfl⟩ := hx
    have HK := Lib.hid hK
    clear hK
    gi_wp2
    refine HK.out _ (fun W2 hi2 _ => ?_)
    clear HK hi
    have hl := HL.out
    have c1 := cell_of_heap hi2.box
    have c2 := cell_of_heap hi2.res
    have f2 := frozen_of_heap hi2.res
    obtain ⟨_, _, e, _, _, hbc⟩ := hi2.sb
    injection e with e1 e2 e3
    subst e1 e3
    obtain ⟨bb, bo, rfl, _, hcell⟩ := hbc (by omega)
    have hx := hcell (a.length - 1 - k) (by omega)
    clear hcell hbc
    have i1 : ((a.length - 1 - k : Nat) : Int) < b.length := by omega
    have ba : fv a (a.length - 1 - k) < 1000000000 := fv_small hca.small _
    have bb1 : fv b (a.length - 1 - k) < 1000000000 := fv_small hcb.small _
    by_cases hne : fv a (a.length - 1 - k) = fv b (a.length - 1 - k)
    · have hne' : ((fv a (a.length - 1 - k) : Int) != fv b (a.length - 1 - k)) = false := by rw [hne]; simp
      have hsame : ∀ j, a.length - (k + 1) ≤ j → j < a.length → fv a j = fv b j := fun j h1 h2 => by
        by_cases hj : j = a.length - 1 - k
        · rw [hj]; exact hne
        · exact hi2.same j (by omega) h2
      have HN : CmpI w a b A ca (some ⟨bb, bo, none⟩) cb (k + 1) W2 := ⟨hi2.box, hi2.res, hi2.it, hi2.sa, hi2.sb, hsame, hi2.low⟩
      clear hne hsame hl
      gi_wp2
      exact ⟨KeepsOthers.refl _, HN⟩
    · have hne' : ((fv a (a.length - 1 - k) : Int) != fv b (a.length - 1 - k)) = true := by rw [bne_iff_ne]; omega
      have hat := Lib.hid (cmp_at hca hcb hl (i := a.length - 1 - k) (by omega) (fun j h1 h2 => hi2.same j (by omega) h2) hne)
      clear hne hl
      gi_wp2
      exact ⟨KeepsOthers.setCell _ _ _, rfl, ⟨_, by have := hi2.res; simp [World.setCell, Array.getElem?_modify, this], hat.out.1, hat.out.2⟩, hi2.low.setCell (p := ⟨w.heap.size + 1, 0, none⟩) (by simp) _⟩
  case done =>
    intro D W hD hi hK
    have c2 := cell_of_heap hi.res
    have f2 := frozen_of_heap hi.res
    have hv := cmp_same HL.out (fun k hk => hi.same k (by omega) hk)
    gi_wp2
    refine ⟨by simp, .inl ⟨_, _, rfl, run_takeDeferred ((KeepsOthers.setCell _ _ _).same D _ hK rfl), ?_⟩⟩
    have hc := (Stays.putObj (n0 := w.heap.size) (.deferred none) ((KeepsOthers.setCell W ⟨w.heap.size + 1, 0, none⟩ (.int .i64 0)).same D _ hK rfl) rfl (by simp at hD; omega)).cell (World.cell?_setCell_same' W ⟨w.heap.size + 1, 0, none⟩ (.int .i64 0) (by rw [c2]; rfl))
    have hB : Below w.heap.size w ((W.setCell ⟨w.heap.size + 1, 0, none⟩ (.int .i64 0)).putObj D (.deferred none)) :=
      (hi.low.setCell (p := ⟨w.heap.size + 1, 0, none⟩) (by simp) _).trans (Stays.putObj (n0 := w.heap.size) (.deferred none) ((KeepsOthers.setCell W ⟨w.heap.size + 1, 0, none⟩ (.int .i64 0)).same D _ hK rfl) rfl (by simp at hD; omega)).below
    exact ⟨.int .i64 0, by simp [results, Tryz.results99, go_sem, hc], 0, rfl, by rw [hv]; omega, by rw [hv]; omega, hB⟩
  case stop =>
    rintro D c k W hD hk ⟨rfl, ⟨x, hx, h1, h2⟩, hl⟩ hK
    gi_wp2
    refine ⟨by simp, .inl ⟨_, _, rfl, run_takeDeferred hK, ?_⟩⟩
    have hs := Stays.putObj (n0 := w.heap.size) (.deferred none) hK rfl (by simp at hD; omega)
    have hc := hs.cell (cell_of_heap hx)
    exact ⟨.int .i64 x, by simp [results, Tryz.results99, go_sem, hc], x, rfl, h1, h2, hl.trans hs.below⟩

theorem compare_any (w : World) (a b : List Nat) (va vb : Value) (ha : SlN w w.heap.size va a) (hb : SlN w w.heap.size vb b) (hca : Canon a) (hcb : Canon b) (hlen : a.length ≤ 4294967296) :
    Calls Tryz.prog 99 #[va, vb] w (CmpPost w a b) := by
  by_cases hl : a.length = b.length
  · exact compare_same w a b va vb ha hb hca hcb hl hlen
  · exact compare_lens w a b va vb ha hb hca hcb hl
end Go.Proofs.YtbnnccnicfddlaaGreatDoor
