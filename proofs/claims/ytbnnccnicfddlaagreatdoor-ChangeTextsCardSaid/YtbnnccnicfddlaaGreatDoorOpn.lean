/- An edit that came in, opened to its fields. -/
import Derived.Test.YtbnnccnicfddlaaGreatDoorLawA
import Derived.Deep.Slices
import Derived.Deep.Fields
import Derived.OpenShut
import Derived.ChangeSame
import Derived.WideShapes
set_option linter.unusedSimpArgs false
set_option linter.unusedVariables false
namespace Go.Proofs.YtbnnccnicfddlaaGreatDoor
open Go.RowKit Go.Shelf Kp Go.ChangeShapes Go.WideShapes Go.Deep

theorem cellsO_3 : Tryz.prog.cellsOf 3 = 1 := by kernel_rfl
theorem cellsO_4 : Tryz.prog.cellsOf 4 = 1 := by kernel_rfl
theorem cellsO_24 : Tryz.prog.cellsOf 24 = 1 := by kernel_rfl
theorem cellsO_9 : Tryz.prog.cellsOf 9 = 1 := by kernel_rfl
theorem cellsO_29 : Tryz.prog.cellsOf 29 = 1 := by kernel_rfl
theorem cellsO_23 : Tryz.prog.cellsOf 23 = 7 := by kernel_rfl
theorem cellsO_26 : Tryz.prog.cellsOf 26 = 5 := by kernel_rfl
theorem cellsO_28 : Tryz.prog.cellsOf 28 = 3 := by kernel_rfl
theorem cellsO_33 : Tryz.prog.cellsOf 33 = 3 := by kernel_rfl
theorem cellsO_35 : Tryz.prog.cellsOf 35 = 5 := by kernel_rfl
theorem cellsO_37 : Tryz.prog.cellsOf 37 = 4 := by kernel_rfl
theorem cellsO_82 : Tryz.prog.cellsOf 82 = 2 := by kernel_rfl
theorem cellsO_31 : Tryz.prog.cellsOf 31 = 6 := by kernel_rfl
theorem cellsO_39 : Tryz.prog.cellsOf 39 = 37 := by kernel_rfl
section
variable {H : Type} {enc : TypeId × Value → H} {w : World} {base : Nat} {sp : Nat → Bool} {held : Bool}
theorem in64_wf {n : Int} (h : (Lit.int .i64 n).wf = true) : in64 n := by
  simp only [Lit.wf, Bool.and_eq_true, decide_eq_true_eq] at h
  exact h
theorem one_i {n : Nat} {c : Value} {x : DataW H × List MemPlace} (h : DataW.trod enc Tryz.prog w base sp held n 3 [c] = some x) : ∃ k, c = .int .i64 k ∧ in64 k := by
  obtain ⟨k, hc, _, hw⟩ := DataW.trod_int Tryz.underlying3 h
  exact ⟨k, by simpa using hc, in64_wf hw⟩
theorem one_b {n : Nat} {c : Value} {x : DataW H × List MemPlace} (h : DataW.trod enc Tryz.prog w base sp held n 4 [c] = some x) : ∃ k, c = .bool k := by
  obtain ⟨k, hc, _⟩ := DataW.trod_bool Tryz.underlying4 h
  exact ⟨k, by simpa using hc⟩
theorem one_n {n : Nat} {c : Value} {x : DataW H × List MemPlace} (h : DataW.trod enc Tryz.prog w base sp held n 24 [c] = some x) : ∃ k : By, c = .string (tx k) := by
  obtain ⟨k, hc, _⟩ := DataW.trod_string Tryz.underlying24 h
  exact ⟨k.data.toList, by rw [tx_self]; simpa using hc⟩
theorem one_s {n : Nat} {c : Value} {x : DataW H × List MemPlace} (h : DataW.trod enc Tryz.prog w base sp held n 9 [c] = some x) : ∃ k : By, c = .string (tx k) := by
  obtain ⟨k, hc, _⟩ := DataW.trod_string Tryz.underlying9 h
  exact ⟨k.data.toList, by rw [tx_self]; simpa using hc⟩
theorem some_at {α : Type} {xs : List α} {n i : Nat} (h : xs.length = n) (hi : i < n) : ∃ y, xs[i]? = some y := ⟨_, List.getElem?_eq_getElem (by omega)⟩
theorem open_Gap {n : Nat} {c0 c1 : Value} {x : DataW H × List MemPlace} (h : DataW.trod enc Tryz.prog w base sp held n 82 [c0, c1] = some x) : ∃ (gf : Int) (gt : Int), c0 = .int .i64 gf ∧ in64 gf ∧ c1 = .int .i64 gt ∧ in64 gt := by
  obtain ⟨xs, m, _, _, _, hlen, hg⟩ := DataW.trod_struct Tryz.underlying82 h
  obtain ⟨y0, hy0⟩ := some_at hlen (show 0 < 2 by decide)
  have g0 : DataW.trod enc Tryz.prog w base sp held m 3 [c0] = some y0 := by have q : DataW.trod enc Tryz.prog w base sp held m 3 (List.take (Tryz.prog.cellsOf 3) (List.drop 0 [c0, c1])) = xs[0]? := hg 0 _ rfl; rw [cellsO_3, hy0] at q; exact q
  obtain ⟨a0, e0, b0⟩ := one_i g0
  obtain ⟨y1, hy1⟩ := some_at hlen (show 1 < 2 by decide)
  have g1 : DataW.trod enc Tryz.prog w base sp held m 3 [c1] = some y1 := by have q : DataW.trod enc Tryz.prog w base sp held m 3 (List.take (Tryz.prog.cellsOf 3) (List.drop 1 [c0, c1])) = xs[1]? := hg 1 _ rfl; rw [cellsO_3, hy1] at q; exact q
  obtain ⟨a1, e1, b1⟩ := one_i g1
  exact ⟨a0, a1, e0, b0, e1, b1⟩
theorem addr_add (b o k : Nat) : (⟨b, o, none⟩ : Addr).add k = ⟨b, o + k, none⟩ := by unfold Addr.add; split <;> simp_all
theorem open_gaps {n : Nat} {c : Value} {x : DataW H × List MemPlace} (h : DataW.trod enc Tryz.prog w base sp held n 29 [c] = some x) :
    ∃ (ga : Option Addr) (gc : Nat) (gl : List (Int × Int)), c = .slice ga gl.length gc ∧ GapAt w w.heap.size ga gc gl ∧ ∀ p ∈ gl, in64 p.1 ∧ in64 p.2 := by
  rcases open_slice Tryz.underlying29 h with ⟨hc, _⟩ | ⟨a, len, cap, m, n', D, Pl, hc, hb, hl, hm, hmm, hx, hi⟩
  · obtain rfl : c = .slice none 0 0 := by simpa using hc
    exact ⟨none, 0, [], rfl, gapAt_nil _ _, fun p hp => by cases hp⟩
  · obtain rfl : c = .slice (some a) len cap := by simpa using hc
    have hml : len ≤ m := by rw [hmm]; split <;> omega
    have each : ∀ i, i < len → ∃ p : Int × Int, w.cell? (a.add (i * 2)) = some (.int .i64 p.1) ∧ w.cell? ((a.add (i * 2)).add 1) = some (.int .i64 p.2) ∧ in64 p.1 ∧ in64 p.2 := by
      intro i hil
      obtain ⟨cs', hcs, ht⟩ := hi i (by omega)
      rw [cellsO_82] at hcs
      obtain ⟨_, hlen, hat⟩ := World.cells?_some hcs
      match cs', hlen with
      | [u0, u1], _ =>
        obtain ⟨p, q, rfl, hp, rfl, hq⟩ := open_Gap ht
        have h0 := hat 0 (by omega)
        have h1 := hat 1 (by omega)
        have e0 : (a.add (i * 2)).add 0 = a.add (i * 2) := by unfold Addr.add; simp
        rw [e0] at h0
        exact ⟨(p, q), h0, h1, hp, hq⟩
    have hch : ∃ f : Nat → Int × Int, ∀ i, i < len → w.cell? (a.add (i * 2)) = some (.int .i64 (f i).1) ∧ w.cell? ((a.add (i * 2)).add 1) = some (.int .i64 (f i).2) ∧ in64 (f i).1 ∧ in64 (f i).2 :=
      ⟨fun i => if h : i < len then Classical.choose (each i h) else (0, 0), fun i hil => by
        have := Classical.choose_spec (each i hil)
        simpa only [dif_pos hil] using this⟩
    obtain ⟨f, hf⟩ := hch
    refine ⟨some a, cap, (List.range len).map f, by simp, ⟨by simpa using hl, hm, fun h0 => ?_⟩, ?_⟩
    · have h0' : 0 < len := by simpa using h0
      obtain ⟨b, o, s⟩ := a
      cases s with
      | some k =>
        have := (hf 0 h0').1
        simp only [Nat.zero_mul, Addr.add, if_true] at this
        simp only [World.cell?] at this
        split at this <;> simp at this
      | none =>
        refine ⟨b, o, rfl, ?_, fun j hj => ?_⟩
        · have := (hf 0 h0').1
          rw [addr_add] at this
          exact World.block_lt_of_cell? w _ this
        · have hj' : j < len := by simpa using hj
          obtain ⟨q1, q2, _⟩ := hf j hj'
          rw [addr_add] at q1 q2
          rw [addr_add] at q2
          rw [Nat.mul_comm] at q1 q2
          simp only [List.getElem_map, List.getElem_range]
          exact ⟨q1, q2⟩
    · intro p hp
      obtain ⟨i, hir, rfl⟩ := List.mem_map.1 hp
      exact (hf i (by simpa using hir)).2.2
theorem open_Side {n : Nat} {c0 c1 c2 c3 c4 c5 c6 : Value} {x : DataW H × List MemPlace} (h : DataW.trod enc Tryz.prog w base sp held n 23 [c0, c1, c2, c3, c4, c5, c6] = some x) : ∃ (sx : Int) (sy : Int) (srise : Int) (srun : Int) (gable : Bool) (splate : Int) (sover : Int), c0 = .int .i64 sx ∧ in64 sx ∧ c1 = .int .i64 sy ∧ in64 sy ∧ c2 = .int .i64 srise ∧ in64 srise ∧ c3 = .int .i64 srun ∧ in64 srun ∧ c4 = .bool gable ∧ c5 = .int .i64 splate ∧ in64 splate ∧ c6 = .int .i64 sover ∧ in64 sover := by
  obtain ⟨xs, m, _, _, _, hlen, hg⟩ := DataW.trod_struct Tryz.underlying23 h
  obtain ⟨y0, hy0⟩ := some_at hlen (show 0 < 7 by decide)
  have g0 : DataW.trod enc Tryz.prog w base sp held m 3 [c0] = some y0 := by have q : DataW.trod enc Tryz.prog w base sp held m 3 (List.take (Tryz.prog.cellsOf 3) (List.drop 0 [c0, c1, c2, c3, c4, c5, c6])) = xs[0]? := hg 0 _ rfl; rw [cellsO_3, hy0] at q; exact q
  obtain ⟨a0, e0, b0⟩ := one_i g0
  obtain ⟨y1, hy1⟩ := some_at hlen (show 1 < 7 by decide)
  have g1 : DataW.trod enc Tryz.prog w base sp held m 3 [c1] = some y1 := by have q : DataW.trod enc Tryz.prog w base sp held m 3 (List.take (Tryz.prog.cellsOf 3) (List.drop 1 [c0, c1, c2, c3, c4, c5, c6])) = xs[1]? := hg 1 _ rfl; rw [cellsO_3, hy1] at q; exact q
  obtain ⟨a1, e1, b1⟩ := one_i g1
  obtain ⟨y2, hy2⟩ := some_at hlen (show 2 < 7 by decide)
  have g2 : DataW.trod enc Tryz.prog w base sp held m 3 [c2] = some y2 := by have q : DataW.trod enc Tryz.prog w base sp held m 3 (List.take (Tryz.prog.cellsOf 3) (List.drop 2 [c0, c1, c2, c3, c4, c5, c6])) = xs[2]? := hg 2 _ rfl; rw [cellsO_3, hy2] at q; exact q
  obtain ⟨a2, e2, b2⟩ := one_i g2
  obtain ⟨y3, hy3⟩ := some_at hlen (show 3 < 7 by decide)
  have g3 : DataW.trod enc Tryz.prog w base sp held m 3 [c3] = some y3 := by have q : DataW.trod enc Tryz.prog w base sp held m 3 (List.take (Tryz.prog.cellsOf 3) (List.drop 3 [c0, c1, c2, c3, c4, c5, c6])) = xs[3]? := hg 3 _ rfl; rw [cellsO_3, hy3] at q; exact q
  obtain ⟨a3, e3, b3⟩ := one_i g3
  obtain ⟨y4, hy4⟩ := some_at hlen (show 4 < 7 by decide)
  have g4 : DataW.trod enc Tryz.prog w base sp held m 4 [c4] = some y4 := by have q : DataW.trod enc Tryz.prog w base sp held m 4 (List.take (Tryz.prog.cellsOf 4) (List.drop 4 [c0, c1, c2, c3, c4, c5, c6])) = xs[4]? := hg 4 _ rfl; rw [cellsO_4, hy4] at q; exact q
  obtain ⟨a4, e4⟩ := one_b g4
  obtain ⟨y5, hy5⟩ := some_at hlen (show 5 < 7 by decide)
  have g5 : DataW.trod enc Tryz.prog w base sp held m 3 [c5] = some y5 := by have q : DataW.trod enc Tryz.prog w base sp held m 3 (List.take (Tryz.prog.cellsOf 3) (List.drop 5 [c0, c1, c2, c3, c4, c5, c6])) = xs[5]? := hg 5 _ rfl; rw [cellsO_3, hy5] at q; exact q
  obtain ⟨a5, e5, b5⟩ := one_i g5
  obtain ⟨y6, hy6⟩ := some_at hlen (show 6 < 7 by decide)
  have g6 : DataW.trod enc Tryz.prog w base sp held m 3 [c6] = some y6 := by have q : DataW.trod enc Tryz.prog w base sp held m 3 (List.take (Tryz.prog.cellsOf 3) (List.drop 6 [c0, c1, c2, c3, c4, c5, c6])) = xs[6]? := hg 6 _ rfl; rw [cellsO_3, hy6] at q; exact q
  obtain ⟨a6, e6, b6⟩ := one_i g6
  exact ⟨a0, a1, a2, a3, a4, a5, a6, e0, b0, e1, b1, e2, b2, e3, b3, e4, e5, b5, e6, b6⟩
theorem open_Opening {n : Nat} {c0 c1 c2 c3 c4 : Value} {x : DataW H × List MemPlace} (h : DataW.trod enc Tryz.prog w base sp held n 26 [c0, c1, c2, c3, c4] = some x) : ∃ (oside : Int) (oleft : By) (oright : By) (olow : By) (ohigh : By), c0 = .int .i64 oside ∧ in64 oside ∧ c1 = .string (tx oleft) ∧ c2 = .string (tx oright) ∧ c3 = .string (tx olow) ∧ c4 = .string (tx ohigh) := by
  obtain ⟨xs, m, _, _, _, hlen, hg⟩ := DataW.trod_struct Tryz.underlying26 h
  obtain ⟨y0, hy0⟩ := some_at hlen (show 0 < 5 by decide)
  have g0 : DataW.trod enc Tryz.prog w base sp held m 3 [c0] = some y0 := by have q : DataW.trod enc Tryz.prog w base sp held m 3 (List.take (Tryz.prog.cellsOf 3) (List.drop 0 [c0, c1, c2, c3, c4])) = xs[0]? := hg 0 _ rfl; rw [cellsO_3, hy0] at q; exact q
  obtain ⟨a0, e0, b0⟩ := one_i g0
  obtain ⟨y1, hy1⟩ := some_at hlen (show 1 < 5 by decide)
  have g1 : DataW.trod enc Tryz.prog w base sp held m 24 [c1] = some y1 := by have q : DataW.trod enc Tryz.prog w base sp held m 24 (List.take (Tryz.prog.cellsOf 24) (List.drop 1 [c0, c1, c2, c3, c4])) = xs[1]? := hg 1 _ rfl; rw [cellsO_24, hy1] at q; exact q
  obtain ⟨a1, e1⟩ := one_n g1
  obtain ⟨y2, hy2⟩ := some_at hlen (show 2 < 5 by decide)
  have g2 : DataW.trod enc Tryz.prog w base sp held m 24 [c2] = some y2 := by have q : DataW.trod enc Tryz.prog w base sp held m 24 (List.take (Tryz.prog.cellsOf 24) (List.drop 2 [c0, c1, c2, c3, c4])) = xs[2]? := hg 2 _ rfl; rw [cellsO_24, hy2] at q; exact q
  obtain ⟨a2, e2⟩ := one_n g2
  obtain ⟨y3, hy3⟩ := some_at hlen (show 3 < 5 by decide)
  have g3 : DataW.trod enc Tryz.prog w base sp held m 24 [c3] = some y3 := by have q : DataW.trod enc Tryz.prog w base sp held m 24 (List.take (Tryz.prog.cellsOf 24) (List.drop 3 [c0, c1, c2, c3, c4])) = xs[3]? := hg 3 _ rfl; rw [cellsO_24, hy3] at q; exact q
  obtain ⟨a3, e3⟩ := one_n g3
  obtain ⟨y4, hy4⟩ := some_at hlen (show 4 < 5 by decide)
  have g4 : DataW.trod enc Tryz.prog w base sp held m 24 [c4] = some y4 := by have q : DataW.trod enc Tryz.prog w base sp held m 24 (List.take (Tryz.prog.cellsOf 24) (List.drop 4 [c0, c1, c2, c3, c4])) = xs[4]? := hg 4 _ rfl; rw [cellsO_24, hy4] at q; exact q
  obtain ⟨a4, e4⟩ := one_n g4
  exact ⟨a0, a1, a2, a3, a4, e0, b0, e1, e2, e3, e4⟩
theorem open_Size {n : Nat} {c0 c1 c2 : Value} {x : DataW H × List MemPlace} (h : DataW.trod enc Tryz.prog w base sp held n 28 [c0, c1, c2] = some x) : ∃ (zkind : Int) (zwidth : Int) (zdepth : Int), c0 = .int .i64 zkind ∧ in64 zkind ∧ c1 = .int .i64 zwidth ∧ in64 zwidth ∧ c2 = .int .i64 zdepth ∧ in64 zdepth := by
  obtain ⟨xs, m, _, _, _, hlen, hg⟩ := DataW.trod_struct Tryz.underlying28 h
  obtain ⟨y0, hy0⟩ := some_at hlen (show 0 < 3 by decide)
  have g0 : DataW.trod enc Tryz.prog w base sp held m 3 [c0] = some y0 := by have q : DataW.trod enc Tryz.prog w base sp held m 3 (List.take (Tryz.prog.cellsOf 3) (List.drop 0 [c0, c1, c2])) = xs[0]? := hg 0 _ rfl; rw [cellsO_3, hy0] at q; exact q
  obtain ⟨a0, e0, b0⟩ := one_i g0
  obtain ⟨y1, hy1⟩ := some_at hlen (show 1 < 3 by decide)
  have g1 : DataW.trod enc Tryz.prog w base sp held m 3 [c1] = some y1 := by have q : DataW.trod enc Tryz.prog w base sp held m 3 (List.take (Tryz.prog.cellsOf 3) (List.drop 1 [c0, c1, c2])) = xs[1]? := hg 1 _ rfl; rw [cellsO_3, hy1] at q; exact q
  obtain ⟨a1, e1, b1⟩ := one_i g1
  obtain ⟨y2, hy2⟩ := some_at hlen (show 2 < 3 by decide)
  have g2 : DataW.trod enc Tryz.prog w base sp held m 3 [c2] = some y2 := by have q : DataW.trod enc Tryz.prog w base sp held m 3 (List.take (Tryz.prog.cellsOf 3) (List.drop 2 [c0, c1, c2])) = xs[2]? := hg 2 _ rfl; rw [cellsO_3, hy2] at q; exact q
  obtain ⟨a2, e2, b2⟩ := one_i g2
  exact ⟨a0, a1, a2, e0, b0, e1, b1, e2, b2⟩
theorem open_Load {n : Nat} {c0 c1 c2 : Value} {x : DataW H × List MemPlace} (h : DataW.trod enc Tryz.prog w base sp held n 33 [c0, c1, c2] = some x) : ∃ (lkind : Int) (lside : Int) (lweight : By), c0 = .int .i64 lkind ∧ in64 lkind ∧ c1 = .int .i64 lside ∧ in64 lside ∧ c2 = .string (tx lweight) := by
  obtain ⟨xs, m, _, _, _, hlen, hg⟩ := DataW.trod_struct Tryz.underlying33 h
  obtain ⟨y0, hy0⟩ := some_at hlen (show 0 < 3 by decide)
  have g0 : DataW.trod enc Tryz.prog w base sp held m 3 [c0] = some y0 := by have q : DataW.trod enc Tryz.prog w base sp held m 3 (List.take (Tryz.prog.cellsOf 3) (List.drop 0 [c0, c1, c2])) = xs[0]? := hg 0 _ rfl; rw [cellsO_3, hy0] at q; exact q
  obtain ⟨a0, e0, b0⟩ := one_i g0
  obtain ⟨y1, hy1⟩ := some_at hlen (show 1 < 3 by decide)
  have g1 : DataW.trod enc Tryz.prog w base sp held m 3 [c1] = some y1 := by have q : DataW.trod enc Tryz.prog w base sp held m 3 (List.take (Tryz.prog.cellsOf 3) (List.drop 1 [c0, c1, c2])) = xs[1]? := hg 1 _ rfl; rw [cellsO_3, hy1] at q; exact q
  obtain ⟨a1, e1, b1⟩ := one_i g1
  obtain ⟨y2, hy2⟩ := some_at hlen (show 2 < 3 by decide)
  have g2 : DataW.trod enc Tryz.prog w base sp held m 24 [c2] = some y2 := by have q : DataW.trod enc Tryz.prog w base sp held m 24 (List.take (Tryz.prog.cellsOf 24) (List.drop 2 [c0, c1, c2])) = xs[2]? := hg 2 _ rfl; rw [cellsO_24, hy2] at q; exact q
  obtain ⟨a2, e2⟩ := one_n g2
  exact ⟨a0, a1, a2, e0, b0, e1, b1, e2⟩
theorem open_Allowed {n : Nat} {c0 c1 c2 c3 c4 : Value} {x : DataW H × List MemPlace} (h : DataW.trod enc Tryz.prog w base sp held n 35 [c0, c1, c2, c3, c4] = some x) : ∃ (awidth : Int) (adepth : Int) (aspacing : Int) (aload : Int) (aspan : Int), c0 = .int .i64 awidth ∧ in64 awidth ∧ c1 = .int .i64 adepth ∧ in64 adepth ∧ c2 = .int .i64 aspacing ∧ in64 aspacing ∧ c3 = .int .i64 aload ∧ in64 aload ∧ c4 = .int .i64 aspan ∧ in64 aspan := by
  obtain ⟨xs, m, _, _, _, hlen, hg⟩ := DataW.trod_struct Tryz.underlying35 h
  obtain ⟨y0, hy0⟩ := some_at hlen (show 0 < 5 by decide)
  have g0 : DataW.trod enc Tryz.prog w base sp held m 3 [c0] = some y0 := by have q : DataW.trod enc Tryz.prog w base sp held m 3 (List.take (Tryz.prog.cellsOf 3) (List.drop 0 [c0, c1, c2, c3, c4])) = xs[0]? := hg 0 _ rfl; rw [cellsO_3, hy0] at q; exact q
  obtain ⟨a0, e0, b0⟩ := one_i g0
  obtain ⟨y1, hy1⟩ := some_at hlen (show 1 < 5 by decide)
  have g1 : DataW.trod enc Tryz.prog w base sp held m 3 [c1] = some y1 := by have q : DataW.trod enc Tryz.prog w base sp held m 3 (List.take (Tryz.prog.cellsOf 3) (List.drop 1 [c0, c1, c2, c3, c4])) = xs[1]? := hg 1 _ rfl; rw [cellsO_3, hy1] at q; exact q
  obtain ⟨a1, e1, b1⟩ := one_i g1
  obtain ⟨y2, hy2⟩ := some_at hlen (show 2 < 5 by decide)
  have g2 : DataW.trod enc Tryz.prog w base sp held m 3 [c2] = some y2 := by have q : DataW.trod enc Tryz.prog w base sp held m 3 (List.take (Tryz.prog.cellsOf 3) (List.drop 2 [c0, c1, c2, c3, c4])) = xs[2]? := hg 2 _ rfl; rw [cellsO_3, hy2] at q; exact q
  obtain ⟨a2, e2, b2⟩ := one_i g2
  obtain ⟨y3, hy3⟩ := some_at hlen (show 3 < 5 by decide)
  have g3 : DataW.trod enc Tryz.prog w base sp held m 3 [c3] = some y3 := by have q : DataW.trod enc Tryz.prog w base sp held m 3 (List.take (Tryz.prog.cellsOf 3) (List.drop 3 [c0, c1, c2, c3, c4])) = xs[3]? := hg 3 _ rfl; rw [cellsO_3, hy3] at q; exact q
  obtain ⟨a3, e3, b3⟩ := one_i g3
  obtain ⟨y4, hy4⟩ := some_at hlen (show 4 < 5 by decide)
  have g4 : DataW.trod enc Tryz.prog w base sp held m 3 [c4] = some y4 := by have q : DataW.trod enc Tryz.prog w base sp held m 3 (List.take (Tryz.prog.cellsOf 3) (List.drop 4 [c0, c1, c2, c3, c4])) = xs[4]? := hg 4 _ rfl; rw [cellsO_3, hy4] at q; exact q
  obtain ⟨a4, e4, b4⟩ := one_i g4
  exact ⟨a0, a1, a2, a3, a4, e0, b0, e1, b1, e2, b2, e3, b3, e4, b4⟩
theorem open_Tile {n : Nat} {c0 c1 c2 c3 : Value} {x : DataW H × List MemPlace} (h : DataW.trod enc Tryz.prog w base sp held n 37 [c0, c1, c2, c3] = some x) : ∃ (twidth : Int) (tlength : Int) (tlap : Int) (ttail : Int), c0 = .int .i64 twidth ∧ in64 twidth ∧ c1 = .int .i64 tlength ∧ in64 tlength ∧ c2 = .int .i64 tlap ∧ in64 tlap ∧ c3 = .int .i64 ttail ∧ in64 ttail := by
  obtain ⟨xs, m, _, _, _, hlen, hg⟩ := DataW.trod_struct Tryz.underlying37 h
  obtain ⟨y0, hy0⟩ := some_at hlen (show 0 < 4 by decide)
  have g0 : DataW.trod enc Tryz.prog w base sp held m 3 [c0] = some y0 := by have q : DataW.trod enc Tryz.prog w base sp held m 3 (List.take (Tryz.prog.cellsOf 3) (List.drop 0 [c0, c1, c2, c3])) = xs[0]? := hg 0 _ rfl; rw [cellsO_3, hy0] at q; exact q
  obtain ⟨a0, e0, b0⟩ := one_i g0
  obtain ⟨y1, hy1⟩ := some_at hlen (show 1 < 4 by decide)
  have g1 : DataW.trod enc Tryz.prog w base sp held m 3 [c1] = some y1 := by have q : DataW.trod enc Tryz.prog w base sp held m 3 (List.take (Tryz.prog.cellsOf 3) (List.drop 1 [c0, c1, c2, c3])) = xs[1]? := hg 1 _ rfl; rw [cellsO_3, hy1] at q; exact q
  obtain ⟨a1, e1, b1⟩ := one_i g1
  obtain ⟨y2, hy2⟩ := some_at hlen (show 2 < 4 by decide)
  have g2 : DataW.trod enc Tryz.prog w base sp held m 3 [c2] = some y2 := by have q : DataW.trod enc Tryz.prog w base sp held m 3 (List.take (Tryz.prog.cellsOf 3) (List.drop 2 [c0, c1, c2, c3])) = xs[2]? := hg 2 _ rfl; rw [cellsO_3, hy2] at q; exact q
  obtain ⟨a2, e2, b2⟩ := one_i g2
  obtain ⟨y3, hy3⟩ := some_at hlen (show 3 < 4 by decide)
  have g3 : DataW.trod enc Tryz.prog w base sp held m 3 [c3] = some y3 := by have q : DataW.trod enc Tryz.prog w base sp held m 3 (List.take (Tryz.prog.cellsOf 3) (List.drop 3 [c0, c1, c2, c3])) = xs[3]? := hg 3 _ rfl; rw [cellsO_3, hy3] at q; exact q
  obtain ⟨a3, e3, b3⟩ := one_i g3
  exact ⟨a0, a1, a2, a3, e0, b0, e1, b1, e2, b2, e3, b3⟩
theorem open_Bar {n : Nat} {c0 c1 c2 c3 c4 c5 : Value} {x : DataW H × List MemPlace} (h : DataW.trod enc Tryz.prog w base sp held n 31 [c0, c1, c2, c3, c4, c5] = some x) : ∃ (bwidth : Int) (bdepth : Int) (blength : Int) (bcount : Int) (bcost : Int) (ga : Option Addr) (gc : Nat) (gl : List (Int × Int)), c0 = .int .i64 bwidth ∧ in64 bwidth ∧ c1 = .int .i64 bdepth ∧ in64 bdepth ∧ c2 = .int .i64 blength ∧ in64 blength ∧ c3 = .int .i64 bcount ∧ in64 bcount ∧ c4 = .int .i64 bcost ∧ in64 bcost ∧ c5 = .slice ga gl.length gc ∧ GapAt w w.heap.size ga gc gl ∧ ∀ p ∈ gl, in64 p.1 ∧ in64 p.2 := by
  obtain ⟨xs, m, _, _, _, hlen, hg⟩ := DataW.trod_struct Tryz.underlying31 h
  obtain ⟨y0, hy0⟩ := some_at hlen (show 0 < 6 by decide)
  have g0 : DataW.trod enc Tryz.prog w base sp held m 3 [c0] = some y0 := by have q : DataW.trod enc Tryz.prog w base sp held m 3 (List.take (Tryz.prog.cellsOf 3) (List.drop 0 [c0, c1, c2, c3, c4, c5])) = xs[0]? := hg 0 _ rfl; rw [cellsO_3, hy0] at q; exact q
  obtain ⟨a0, e0, b0⟩ := one_i g0
  obtain ⟨y1, hy1⟩ := some_at hlen (show 1 < 6 by decide)
  have g1 : DataW.trod enc Tryz.prog w base sp held m 3 [c1] = some y1 := by have q : DataW.trod enc Tryz.prog w base sp held m 3 (List.take (Tryz.prog.cellsOf 3) (List.drop 1 [c0, c1, c2, c3, c4, c5])) = xs[1]? := hg 1 _ rfl; rw [cellsO_3, hy1] at q; exact q
  obtain ⟨a1, e1, b1⟩ := one_i g1
  obtain ⟨y2, hy2⟩ := some_at hlen (show 2 < 6 by decide)
  have g2 : DataW.trod enc Tryz.prog w base sp held m 3 [c2] = some y2 := by have q : DataW.trod enc Tryz.prog w base sp held m 3 (List.take (Tryz.prog.cellsOf 3) (List.drop 2 [c0, c1, c2, c3, c4, c5])) = xs[2]? := hg 2 _ rfl; rw [cellsO_3, hy2] at q; exact q
  obtain ⟨a2, e2, b2⟩ := one_i g2
  obtain ⟨y3, hy3⟩ := some_at hlen (show 3 < 6 by decide)
  have g3 : DataW.trod enc Tryz.prog w base sp held m 3 [c3] = some y3 := by have q : DataW.trod enc Tryz.prog w base sp held m 3 (List.take (Tryz.prog.cellsOf 3) (List.drop 3 [c0, c1, c2, c3, c4, c5])) = xs[3]? := hg 3 _ rfl; rw [cellsO_3, hy3] at q; exact q
  obtain ⟨a3, e3, b3⟩ := one_i g3
  obtain ⟨y4, hy4⟩ := some_at hlen (show 4 < 6 by decide)
  have g4 : DataW.trod enc Tryz.prog w base sp held m 3 [c4] = some y4 := by have q : DataW.trod enc Tryz.prog w base sp held m 3 (List.take (Tryz.prog.cellsOf 3) (List.drop 4 [c0, c1, c2, c3, c4, c5])) = xs[4]? := hg 4 _ rfl; rw [cellsO_3, hy4] at q; exact q
  obtain ⟨a4, e4, b4⟩ := one_i g4
  obtain ⟨y5, hy5⟩ := some_at hlen (show 5 < 6 by decide)
  have g5 : DataW.trod enc Tryz.prog w base sp held m 29 [c5] = some y5 := by have q : DataW.trod enc Tryz.prog w base sp held m 29 (List.take (Tryz.prog.cellsOf 29) (List.drop 5 [c0, c1, c2, c3, c4, c5])) = xs[5]? := hg 5 _ rfl; rw [cellsO_29, hy5] at q; exact q
  obtain ⟨ga, gc, gl, e5, b5, d5⟩ := open_gaps g5
  exact ⟨a0, a1, a2, a3, a4, ga, gc, gl, e0, b0, e1, b1, e2, b2, e3, b3, e4, b4, e5, b5, d5⟩

theorem all_ite {P : Int → Prop} {p : Prop} [Decidable p] {a b : List Int} (h1 : ∀ n ∈ a, P n) (h2 : ∀ n ∈ b, P n) : ∀ n ∈ (if p then a else b), P n := by split <;> assumption
theorem cons_of_len {l : List Value} {n : Nat} (h : l.length = n + 1) : ∃ a t, l = a :: t ∧ t.length = n := by
  cases l with
  | nil => simp at h
  | cons a t => exact ⟨a, t, rfl, by simpa using h⟩
theorem ints_all {e : Ed} (hx : in64 e.index) (h1 : in64 e.sx) (h2 : in64 e.sy) (h3 : in64 e.srise) (h4 : in64 e.srun) (h5 : in64 e.splate) (h6 : in64 e.sover) (h7 : in64 e.oside) (h8 : in64 e.zwidth) (h9 : in64 e.zdepth)
    (b1 : in64 e.bwidth) (b2 : in64 e.bdepth) (b3 : in64 e.blength) (b4 : in64 e.bcount) (b5 : in64 e.bcost) (bg : ∀ p ∈ e.gaps, in64 p.1 ∧ in64 p.2) (l1 : in64 e.lkind) (l2 : in64 e.lside)
    (a1 : in64 e.awidth) (a2 : in64 e.adepth) (a3 : in64 e.aspacing) (a4 : in64 e.aload) (a5 : in64 e.aspan) (t1 : in64 e.twidth) (t2 : in64 e.tlength) (t3 : in64 e.tlap) (t4 : in64 e.ttail) (hn : in64 e.number) : ∀ n ∈ intsOf e, in64 n := by
  have hbar : ∀ n ∈ [e.index, e.bwidth, e.bdepth, e.blength, e.bcount, e.bcost] ++ gapI e.gaps, in64 n := by
    intro n hm
    rcases List.mem_append.1 hm with hm | hm
    · exact (all_cons hx (all_cons b1 (all_cons b2 (all_cons b3 (all_cons b4 (all_cons b5 (all_nil _))))))) n hm
    · unfold gapI at hm
      obtain ⟨p, hp, hq⟩ := List.mem_flatMap.1 hm
      have hg := bg p hp
      rcases List.mem_cons.1 hq with rfl | hq
      · exact hg.1
      · rcases List.mem_cons.1 hq with rfl | hq
        · exact hg.2
        · cases hq
  unfold intsOf
  refine all_ite (all_nil _) (all_ite (all_cons hx (all_cons h1 (all_cons h2 (all_cons h3 (all_cons h4 (all_cons h5 (all_cons h6 (all_cons (in64_b2i _) (all_nil _)))))))))
    (all_ite (all_cons hx (all_cons hn (all_nil _))) (all_ite (all_cons hn (all_nil _)) (all_ite (all_cons hx (all_cons h7 (all_nil _))) (all_ite (all_cons h8 (all_cons h9 (all_nil _))) (all_ite hbar
    (all_ite (all_cons hn (all_nil _)) (all_ite (all_cons t1 (all_cons t2 (all_cons t3 (all_cons t4 (all_nil _))))) (all_ite (all_cons hx (all_cons l1 (all_cons l2 (all_nil _))))
    (all_ite (all_cons a1 (all_cons a2 (all_cons a3 (all_cons a4 (all_cons a5 (all_nil _)))))) (all_cons hx (all_nil _))))))))))))
set_option maxRecDepth 10000 in
theorem open_edit {r : Reach} {b0 : Nat} {v : Value} {d : DataW H} {p : List MemPlace} (hv : Value.okWide Tryz.prog w r b0 39 v) (h : DataW.Trod enc Tryz.prog w base sp held 39 v d p) :
    ∃ (e : Ed) (ga : Option Addr) (gc : Nat), v = .agg (edC e (.slice ga e.gaps.length gc)) ∧ GapAt w w.heap.size ga gc e.gaps ∧ ∀ n ∈ intsOf e, in64 n := by
  obtain ⟨cs, rfl, hsz⟩ := okWide_struct Tryz.underlying39 hv
  obtain ⟨l⟩ := cs
  have hl : l.length = 37 := hsz.trans cellsO_39
  clear hsz hv
  obtain ⟨c0, l0, rfl, h0⟩ := cons_of_len hl
  obtain ⟨c1, l1, rfl, h1⟩ := cons_of_len h0
  obtain ⟨c2, l2, rfl, h2⟩ := cons_of_len h1
  obtain ⟨c3, l3, rfl, h3⟩ := cons_of_len h2
  obtain ⟨c4, l4, rfl, h4⟩ := cons_of_len h3
  obtain ⟨c5, l5, rfl, h5⟩ := cons_of_len h4
  obtain ⟨c6, l6, rfl, h6⟩ := cons_of_len h5
  obtain ⟨c7, l7, rfl, h7⟩ := cons_of_len h6
  obtain ⟨c8, l8, rfl, h8⟩ := cons_of_len h7
  obtain ⟨c9, l9, rfl, h9⟩ := cons_of_len h8
  obtain ⟨c10, l10, rfl, h10⟩ := cons_of_len h9
  obtain ⟨c11, l11, rfl, h11⟩ := cons_of_len h10
  obtain ⟨c12, l12, rfl, h12⟩ := cons_of_len h11
  obtain ⟨c13, l13, rfl, h13⟩ := cons_of_len h12
  obtain ⟨c14, l14, rfl, h14⟩ := cons_of_len h13
  obtain ⟨c15, l15, rfl, h15⟩ := cons_of_len h14
  obtain ⟨c16, l16, rfl, h16⟩ := cons_of_len h15
  obtain ⟨c17, l17, rfl, h17⟩ := cons_of_len h16
  obtain ⟨c18, l18, rfl, h18⟩ := cons_of_len h17
  obtain ⟨c19, l19, rfl, h19⟩ := cons_of_len h18
  obtain ⟨c20, l20, rfl, h20⟩ := cons_of_len h19
  obtain ⟨c21, l21, rfl, h21⟩ := cons_of_len h20
  obtain ⟨c22, l22, rfl, h22⟩ := cons_of_len h21
  obtain ⟨c23, l23, rfl, h23⟩ := cons_of_len h22
  obtain ⟨c24, l24, rfl, h24⟩ := cons_of_len h23
  obtain ⟨c25, l25, rfl, h25⟩ := cons_of_len h24
  obtain ⟨c26, l26, rfl, h26⟩ := cons_of_len h25
  obtain ⟨c27, l27, rfl, h27⟩ := cons_of_len h26
  obtain ⟨c28, l28, rfl, h28⟩ := cons_of_len h27
  obtain ⟨c29, l29, rfl, h29⟩ := cons_of_len h28
  obtain ⟨c30, l30, rfl, h30⟩ := cons_of_len h29
  obtain ⟨c31, l31, rfl, h31⟩ := cons_of_len h30
  obtain ⟨c32, l32, rfl, h32⟩ := cons_of_len h31
  obtain ⟨c33, l33, rfl, h33⟩ := cons_of_len h32
  obtain ⟨c34, l34, rfl, h34⟩ := cons_of_len h33
  obtain ⟨c35, l35, rfl, h35⟩ := cons_of_len h34
  obtain ⟨c36, l36, rfl, h36⟩ := cons_of_len h35
  obtain rfl : l36 = [] := List.length_eq_zero_iff.1 h36
  clear h0 h1 h2 h3 h4 h5 h6 h7 h8 h9 h10 h11 h12 h13 h14 h15 h16 h17 h18 h19 h20 h21 h22 h23 h24 h25 h26 h27 h28 h29 h30 h31 h32 h33 h34 h35 h36
  obtain ⟨fuel, hf⟩ := h
  obtain ⟨xs, m, _, _, _, hlen, hg⟩ := DataW.trod_struct Tryz.underlying39 hf
  obtain ⟨y0, hy0⟩ := some_at hlen (show 0 < 11 by decide)
  have g0 : DataW.trod enc Tryz.prog w base sp held m 3 [c0] = some y0 := by have q : DataW.trod enc Tryz.prog w base sp held m 3 (List.take (Tryz.prog.cellsOf 3) (List.drop 0 [c0, c1, c2, c3, c4, c5, c6, c7, c8, c9, c10, c11, c12, c13, c14, c15, c16, c17, c18, c19, c20, c21, c22, c23, c24, c25, c26, c27, c28, c29, c30, c31, c32, c33, c34, c35, c36])) = xs[0]? := hg 0 _ rfl; rw [cellsO_3, hy0] at q; exact q
  obtain ⟨y1, hy1⟩ := some_at hlen (show 1 < 11 by decide)
  have g1 : DataW.trod enc Tryz.prog w base sp held m 3 [c1] = some y1 := by have q : DataW.trod enc Tryz.prog w base sp held m 3 (List.take (Tryz.prog.cellsOf 3) (List.drop 1 [c0, c1, c2, c3, c4, c5, c6, c7, c8, c9, c10, c11, c12, c13, c14, c15, c16, c17, c18, c19, c20, c21, c22, c23, c24, c25, c26, c27, c28, c29, c30, c31, c32, c33, c34, c35, c36])) = xs[1]? := hg 1 _ rfl; rw [cellsO_3, hy1] at q; exact q
  obtain ⟨y2, hy2⟩ := some_at hlen (show 2 < 11 by decide)
  have g2 : DataW.trod enc Tryz.prog w base sp held m 23 [c2, c3, c4, c5, c6, c7, c8] = some y2 := by have q : DataW.trod enc Tryz.prog w base sp held m 23 (List.take (Tryz.prog.cellsOf 23) (List.drop 2 [c0, c1, c2, c3, c4, c5, c6, c7, c8, c9, c10, c11, c12, c13, c14, c15, c16, c17, c18, c19, c20, c21, c22, c23, c24, c25, c26, c27, c28, c29, c30, c31, c32, c33, c34, c35, c36])) = xs[2]? := hg 2 _ rfl; rw [cellsO_23, hy2] at q; exact q
  obtain ⟨y3, hy3⟩ := some_at hlen (show 3 < 11 by decide)
  have g3 : DataW.trod enc Tryz.prog w base sp held m 26 [c9, c10, c11, c12, c13] = some y3 := by have q : DataW.trod enc Tryz.prog w base sp held m 26 (List.take (Tryz.prog.cellsOf 26) (List.drop 9 [c0, c1, c2, c3, c4, c5, c6, c7, c8, c9, c10, c11, c12, c13, c14, c15, c16, c17, c18, c19, c20, c21, c22, c23, c24, c25, c26, c27, c28, c29, c30, c31, c32, c33, c34, c35, c36])) = xs[3]? := hg 3 _ rfl; rw [cellsO_26, hy3] at q; exact q
  obtain ⟨y4, hy4⟩ := some_at hlen (show 4 < 11 by decide)
  have g4 : DataW.trod enc Tryz.prog w base sp held m 28 [c14, c15, c16] = some y4 := by have q : DataW.trod enc Tryz.prog w base sp held m 28 (List.take (Tryz.prog.cellsOf 28) (List.drop 14 [c0, c1, c2, c3, c4, c5, c6, c7, c8, c9, c10, c11, c12, c13, c14, c15, c16, c17, c18, c19, c20, c21, c22, c23, c24, c25, c26, c27, c28, c29, c30, c31, c32, c33, c34, c35, c36])) = xs[4]? := hg 4 _ rfl; rw [cellsO_28, hy4] at q; exact q
  obtain ⟨y5, hy5⟩ := some_at hlen (show 5 < 11 by decide)
  have g5 : DataW.trod enc Tryz.prog w base sp held m 31 [c17, c18, c19, c20, c21, c22] = some y5 := by have q : DataW.trod enc Tryz.prog w base sp held m 31 (List.take (Tryz.prog.cellsOf 31) (List.drop 17 [c0, c1, c2, c3, c4, c5, c6, c7, c8, c9, c10, c11, c12, c13, c14, c15, c16, c17, c18, c19, c20, c21, c22, c23, c24, c25, c26, c27, c28, c29, c30, c31, c32, c33, c34, c35, c36])) = xs[5]? := hg 5 _ rfl; rw [cellsO_31, hy5] at q; exact q
  obtain ⟨y6, hy6⟩ := some_at hlen (show 6 < 11 by decide)
  have g6 : DataW.trod enc Tryz.prog w base sp held m 33 [c23, c24, c25] = some y6 := by have q : DataW.trod enc Tryz.prog w base sp held m 33 (List.take (Tryz.prog.cellsOf 33) (List.drop 23 [c0, c1, c2, c3, c4, c5, c6, c7, c8, c9, c10, c11, c12, c13, c14, c15, c16, c17, c18, c19, c20, c21, c22, c23, c24, c25, c26, c27, c28, c29, c30, c31, c32, c33, c34, c35, c36])) = xs[6]? := hg 6 _ rfl; rw [cellsO_33, hy6] at q; exact q
  obtain ⟨y7, hy7⟩ := some_at hlen (show 7 < 11 by decide)
  have g7 : DataW.trod enc Tryz.prog w base sp held m 35 [c26, c27, c28, c29, c30] = some y7 := by have q : DataW.trod enc Tryz.prog w base sp held m 35 (List.take (Tryz.prog.cellsOf 35) (List.drop 26 [c0, c1, c2, c3, c4, c5, c6, c7, c8, c9, c10, c11, c12, c13, c14, c15, c16, c17, c18, c19, c20, c21, c22, c23, c24, c25, c26, c27, c28, c29, c30, c31, c32, c33, c34, c35, c36])) = xs[7]? := hg 7 _ rfl; rw [cellsO_35, hy7] at q; exact q
  obtain ⟨y8, hy8⟩ := some_at hlen (show 8 < 11 by decide)
  have g8 : DataW.trod enc Tryz.prog w base sp held m 37 [c31, c32, c33, c34] = some y8 := by have q : DataW.trod enc Tryz.prog w base sp held m 37 (List.take (Tryz.prog.cellsOf 37) (List.drop 31 [c0, c1, c2, c3, c4, c5, c6, c7, c8, c9, c10, c11, c12, c13, c14, c15, c16, c17, c18, c19, c20, c21, c22, c23, c24, c25, c26, c27, c28, c29, c30, c31, c32, c33, c34, c35, c36])) = xs[8]? := hg 8 _ rfl; rw [cellsO_37, hy8] at q; exact q
  obtain ⟨y9, hy9⟩ := some_at hlen (show 9 < 11 by decide)
  have g9 : DataW.trod enc Tryz.prog w base sp held m 3 [c35] = some y9 := by have q : DataW.trod enc Tryz.prog w base sp held m 3 (List.take (Tryz.prog.cellsOf 3) (List.drop 35 [c0, c1, c2, c3, c4, c5, c6, c7, c8, c9, c10, c11, c12, c13, c14, c15, c16, c17, c18, c19, c20, c21, c22, c23, c24, c25, c26, c27, c28, c29, c30, c31, c32, c33, c34, c35, c36])) = xs[9]? := hg 9 _ rfl; rw [cellsO_3, hy9] at q; exact q
  obtain ⟨y10, hy10⟩ := some_at hlen (show 10 < 11 by decide)
  have g10 : DataW.trod enc Tryz.prog w base sp held m 9 [c36] = some y10 := by have q : DataW.trod enc Tryz.prog w base sp held m 9 (List.take (Tryz.prog.cellsOf 9) (List.drop 36 [c0, c1, c2, c3, c4, c5, c6, c7, c8, c9, c10, c11, c12, c13, c14, c15, c16, c17, c18, c19, c20, c21, c22, c23, c24, c25, c26, c27, c28, c29, c30, c31, c32, c33, c34, c35, c36])) = xs[10]? := hg 10 _ rfl; rw [cellsO_9, hy10] at q; exact q
  obtain ⟨a0, rfl, b0⟩ := one_i g0
  obtain ⟨a1, rfl, b1⟩ := one_i g1
  obtain ⟨a2, a3, a4, a5, a6, a7, a8, rfl, b2, rfl, b3, rfl, b4, rfl, b5, rfl, rfl, b7, rfl, b8⟩ := open_Side g2
  obtain ⟨a9, a10, a11, a12, a13, rfl, b9, rfl, rfl, rfl, rfl⟩ := open_Opening g3
  obtain ⟨a14, a15, a16, rfl, b14, rfl, b15, rfl, b16⟩ := open_Size g4
  obtain ⟨a17, a18, a19, a20, a21, ga, gc, gl, rfl, b17, rfl, b18, rfl, b19, rfl, b20, rfl, b21, rfl, hgap, hgl⟩ := open_Bar g5
  obtain ⟨a23, a24, a25, rfl, b23, rfl, b24, rfl⟩ := open_Load g6
  obtain ⟨a26, a27, a28, a29, a30, rfl, b26, rfl, b27, rfl, b28, rfl, b29, rfl, b30⟩ := open_Allowed g7
  obtain ⟨a31, a32, a33, a34, rfl, b31, rfl, b32, rfl, b33, rfl, b34⟩ := open_Tile g8
  obtain ⟨a35, rfl, b35⟩ := one_i g9
  obtain ⟨a36, rfl⟩ := one_s g10
  exact ⟨⟨a0, a1, a2, a3, a4, a5, a6, a7, a8, a9, a10, a11, a12, a13, a14, a15, a16, a17, a18, a19, a20, a21, gl, a23, a24, a25, a26, a27, a28, a29, a30, a31, a32, a33, a34, a35, a36⟩, ga, gc, rfl, hgap, ints_all b1 b2 b3 b4 b5 b7 b8 b9 b15 b16 b17 b18 b19 b20 b21 hgl b23 b24 b26 b27 b28 b29 b30 b31 b32 b33 b34 b35⟩
end
end Go.Proofs.YtbnnccnicfddlaaGreatDoor
