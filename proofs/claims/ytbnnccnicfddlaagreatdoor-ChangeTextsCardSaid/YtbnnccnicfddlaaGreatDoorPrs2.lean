/- change.reader.read at every kind; the size of what is read. -/
import Derived.Test.YtbnnccnicfddlaaGreatDoorRd2
import Derived.Test.YtbnnccnicfddlaaGreatDoorRd3
import Derived.Test.YtbnnccnicfddlaaGreatDoorRd4
import Derived.Test.YtbnnccnicfddlaaGreatDoorRd5
import Derived.Test.YtbnnccnicfddlaaGreatDoorRdrA
import Derived.Lib.AtoiAllCases
set_option linter.unusedSimpArgs false
set_option linter.unusedVariables false
namespace Go.Proofs.YtbnnccnicfddlaaGreatDoor
open Go.RowKit Go.Shelf Kp

theorem ite_range {p : Prop} [Decidable p] {a b : Int} (ha : 0 ≤ a ∧ a ≤ 12) (hb : 0 ≤ b ∧ b ≤ 12) : 0 ≤ (if p then a else b) ∧ (if p then a else b) ≤ 12 := by split <;> assumption
theorem kindOf_range (w : By) : 0 ≤ kindOf w ∧ kindOf w ≤ 12 := by
  unfold kindOf
  repeat (refine ite_range ⟨by decide, by decide⟩ ?_)
  exact ⟨by decide, by decide⟩
theorem kindOf_cases (w : By) : kindOf w = 0 ∨ kindOf w = 1 ∨ kindOf w = 2 ∨ kindOf w = 3 ∨ kindOf w = 4 ∨ kindOf w = 5 ∨ kindOf w = 6 ∨ kindOf w = 7 ∨ kindOf w = 8 ∨ kindOf w = 9 ∨ kindOf w = 10 ∨ kindOf w = 11 ∨ kindOf w = 12 := by
  obtain ⟨k1, k2⟩ := kindOf_range w
  omega
theorem read_any (B b : Nat) (r : Rdr) (w : World) (h : RdAt B w.heap.size b r w) (hg : Gl w) (hB : 9 ≤ B) (hBw : B ≤ w.heap.size) :
    Calls Tryz.prog 18 #[slf b] w (RePost2 B w.heap.size b r w) := by
  rcases kindOf_cases (rW r).1 with h1 | h1 | h1 | h1 | h1 | h1 | h1 | h1 | h1 | h1 | h1 | h1 | h1
  · exact (read_0 B b r w h h1 hg hB hBw).mono (fun _ _ hp => hp.two (by simp only [rE, h1]; rfl))
  · exact (read_1 B b r w h h1 hg hB hBw).mono (fun _ _ hp => hp.two (by simp only [rE, h1]; rfl))
  · exact (read_2 B b r w h h1 hg hB hBw).mono (fun _ _ hp => hp.two (by simp only [rE, h1]; rfl))
  · exact (read_3 B b r w h h1 hg hB hBw).mono (fun _ _ hp => hp.two (by simp only [rE, h1]; rfl))
  · exact (read_4 B b r w h h1 hg hB hBw).mono (fun _ _ hp => hp.two (by simp only [rE, h1]; rfl))
  · exact (read_5 B b r w h h1 hg hB hBw).mono (fun _ _ hp => hp.two (by simp only [rE, h1]; rfl))
  · exact (read_6 B b r w h h1 hg hB hBw).mono (fun _ _ hp => hp.two (by simp only [rE, h1]; rfl))
  · exact read_7 B b r w h h1 hg hB hBw
  · exact (read_8 B b r w h h1 hg hB hBw).mono (fun _ _ hp => hp.two (by simp only [rE, h1]; rfl))
  · exact (read_9 B b r w h h1 hg hB hBw).mono (fun _ _ hp => hp.two (by simp only [rE, h1]; rfl))
  · exact (read_10 B b r w h h1 hg hB hBw).mono (fun _ _ hp => hp.two (by simp only [rE, h1]; rfl))
  · exact (read_11 B b r w h h1 hg hB hBw).mono (fun _ _ hp => hp.two (by simp only [rE, h1]; rfl))
  · exact (read_12 B b r w h h1 hg hB hBw).mono (fun _ _ hp => hp.two (by simp only [rE, h1]; rfl))

/-- no word of a reader is long -/
def OkR (r : Rdr) : Prop := ∀ x ∈ r.1, x.length ≤ 1000
theorem OkR.word {r : Rdr} (h : OkR r) : (rW r).1.length ≤ 1000 := by
  obtain ⟨ws, x⟩ := r
  cases ws with
  | nil => simp [rW]
  | cons s t => exact h s (List.mem_cons_self ..)
theorem OkR.next {r : Rdr} (h : OkR r) : OkR (rW r).2 := by
  obtain ⟨ws, x⟩ := r
  cases ws with
  | nil => intro y hy; simp [rW] at hy
  | cons s t => intro y hy; exact h y (List.mem_cons_of_mem _ hy)
theorem OkR.nextI {r : Rdr} (h : OkR r) : OkR (rI r).2 := h.next
theorem in64_rI (r : Rdr) : in64 (rI r).1 := by
  show in64 (atoiV (rW r).1).1
  generalize (rW r).1 = s
  unfold atoiV in64
  cases ha : Lib.atoiAll s
  · exact Lib.atoiAll_bounds ha
  · exact (show (-9223372036854775808 : Int) ≤ 0 ∧ (0 : Int) ≤ 9223372036854775807 from ⟨by decide, by decide⟩)
  · exact Lib.atoiSat_bounds s
theorem in64_rG (n : Nat) (r : Rdr) : ∀ p ∈ (rG n r).1, in64 p.1 ∧ in64 p.2 := by
  induction n generalizing r with
  | zero => intro p hp; simp [rG] at hp
  | succ n ih =>
    by_cases h : 0 < r.1.length
    · rw [rG_step h]
      intro p hp
      rcases List.mem_cons.1 hp with rfl | hp
      · exact ⟨in64_rI _, in64_rI _⟩
      · exact ih _ p hp
    · rw [rG_nil (List.length_eq_zero_iff.1 (by omega))]
      intro p hp; simp at hp
theorem in64_b2i (b : Bool) : in64 (b2i b) := by cases b <;> exact ⟨by decide, by decide⟩
theorem all_nil (P : Int → Prop) : ∀ n ∈ ([] : List Int), P n := fun _ h => by cases h
theorem all_cons {P : Int → Prop} {a : Int} {l : List Int} (h : P a) (k : ∀ n ∈ l, P n) : ∀ n ∈ a :: l, P n := fun n hn => by
  rcases List.mem_cons.1 hn with rfl | hn
  · exact h
  · exact k n hn
theorem allW_nil (P : By → Prop) : ∀ n ∈ ([] : List By), P n := fun _ h => by cases h
theorem allW_cons {P : By → Prop} {a : By} {l : List By} (h : P a) (k : ∀ n ∈ l, P n) : ∀ n ∈ a :: l, P n := fun n hn => by
  rcases List.mem_cons.1 hn with rfl | hn
  · exact h
  · exact k n hn
theorem sized_of {e : Ed} {li : List Int} {ln : List By} (hi : intsOf e = li) (hn : numsOf e = ln) (h1 : ∀ n ∈ li, in64 n) (h2 : ∀ a ∈ ln, a.length ≤ 1000) (h3 : e.text.length ≤ 1000) : Sized e :=
  ⟨by rw [hi]; exact h1, by rw [hn]; exact h2, h3⟩
theorem sized_read (r : Rdr) (h : OkR r) : Sized (rE r).1 := by
  rcases kindOf_cases (rW r).1 with hk | hk | hk | hk | hk | hk | hk | hk | hk | hk | hk | hk | hk
  · have HE : rE r = (edK 0, (rW r).2) := by simp only [rE, hk]; rfl
    rw [HE]
    exact sized_of (li := [(0 : Int)]) (ln := []) rfl rfl (all_cons ⟨by decide, by decide⟩ (all_nil _)) (allW_nil _) (by show (0 : Nat) ≤ 1000; omega)
  · have HE : rE r = ({ edK 1 with text := (rW (rW r).2).1 }, (rW (rW r).2).2) := by simp only [rE, hk]; rfl
    rw [HE]
    exact sized_of (li := []) (ln := []) rfl rfl (all_nil _) (allW_nil _) (h.next.word)
  · have HE : rE r = ({ edK 2 with index := (rI (rW r).2).1, sx := (rI (rI (rW r).2).2).1, sy := (rI (rI (rI (rW r).2).2).2).1, srise := (rI (rI (rI (rI (rW r).2).2).2).2).1, srun := (rI (rI (rI (rI (rI (rW r).2).2).2).2).2).1, splate := (rI (rI (rI (rI (rI (rI (rW r).2).2).2).2).2).2).1, sover := (rI (rI (rI (rI (rI (rI (rI (rW r).2).2).2).2).2).2).2).1, gable := (rI (rI (rI (rI (rI (rI (rI (rI (rW r).2).2).2).2).2).2).2).2).1 == 1 }, (rI (rI (rI (rI (rI (rI (rI (rI (rW r).2).2).2).2).2).2).2).2).2) := by simp only [rE, hk]; rfl
    rw [HE]
    exact sized_of (li := [(rI (rW r).2).1, (rI (rI (rW r).2).2).1, (rI (rI (rI (rW r).2).2).2).1, (rI (rI (rI (rI (rW r).2).2).2).2).1, (rI (rI (rI (rI (rI (rW r).2).2).2).2).2).1, (rI (rI (rI (rI (rI (rI (rW r).2).2).2).2).2).2).1, (rI (rI (rI (rI (rI (rI (rI (rW r).2).2).2).2).2).2).2).1, b2i ((rI (rI (rI (rI (rI (rI (rI (rI (rW r).2).2).2).2).2).2).2).2).1 == 1)]) (ln := []) rfl rfl (all_cons (in64_rI _) (all_cons (in64_rI _) (all_cons (in64_rI _) (all_cons (in64_rI _) (all_cons (in64_rI _) (all_cons (in64_rI _) (all_cons (in64_rI _) (all_cons (in64_b2i _) (all_nil _))))))))) (allW_nil _) (by show (0 : Nat) ≤ 1000; omega)
  · have HE : rE r = ({ edK 3 with index := (rI (rW r).2).1, number := (rI (rI (rW r).2).2).1 }, (rI (rI (rW r).2).2).2) := by simp only [rE, hk]; rfl
    rw [HE]
    exact sized_of (li := [(rI (rW r).2).1, (rI (rI (rW r).2).2).1]) (ln := []) rfl rfl (all_cons (in64_rI _) (all_cons (in64_rI _) (all_nil _))) (allW_nil _) (by show (0 : Nat) ≤ 1000; omega)
  · have HE : rE r = ({ edK 4 with number := (rI (rW r).2).1 }, (rI (rW r).2).2) := by simp only [rE, hk]; rfl
    rw [HE]
    exact sized_of (li := [(rI (rW r).2).1]) (ln := []) rfl rfl (all_cons (in64_rI _) (all_nil _)) (allW_nil _) (by show (0 : Nat) ≤ 1000; omega)
  · have HE : rE r = ({ edK 5 with index := (rI (rW r).2).1, oside := (rI (rI (rW r).2).2).1, oleft := (rW (rI (rI (rW r).2).2).2).1, oright := (rW (rW (rI (rI (rW r).2).2).2).2).1, olow := (rW (rW (rW (rI (rI (rW r).2).2).2).2).2).1, ohigh := (rW (rW (rW (rW (rI (rI (rW r).2).2).2).2).2).2).1 }, (rW (rW (rW (rW (rI (rI (rW r).2).2).2).2).2).2).2) := by simp only [rE, hk]; rfl
    rw [HE]
    exact sized_of (li := [(rI (rW r).2).1, (rI (rI (rW r).2).2).1]) (ln := [(rW (rI (rI (rW r).2).2).2).1, (rW (rW (rI (rI (rW r).2).2).2).2).1, (rW (rW (rW (rI (rI (rW r).2).2).2).2).2).1, (rW (rW (rW (rW (rI (rI (rW r).2).2).2).2).2).2).1]) rfl rfl (all_cons (in64_rI _) (all_cons (in64_rI _) (all_nil _))) (allW_cons (h.next.nextI.nextI.word) (allW_cons (h.next.nextI.nextI.next.word) (allW_cons (h.next.nextI.nextI.next.next.word) (allW_cons (h.next.nextI.nextI.next.next.next.word) (allW_nil _))))) (by show (0 : Nat) ≤ 1000; omega)
  · have HE : rE r = ({ edK 6 with zkind := 1 + indexW (rW (rW r).2).1, zwidth := (rI (rW (rW r).2).2).1, zdepth := (rI (rI (rW (rW r).2).2).2).1 }, (rI (rI (rW (rW r).2).2).2).2) := by simp only [rE, hk]; rfl
    rw [HE]
    exact sized_of (li := [(rI (rW (rW r).2).2).1, (rI (rI (rW (rW r).2).2).2).1]) (ln := []) rfl rfl (all_cons (in64_rI _) (all_cons (in64_rI _) (all_nil _))) (allW_nil _) (by show (0 : Nat) ≤ 1000; omega)
  · have HE : rE r = ({ edK 7 with index := (rI (rW r).2).1, bwidth := (rI (rI (rW r).2).2).1, bdepth := (rI (rI (rI (rW r).2).2).2).1, blength := (rI (rI (rI (rI (rW r).2).2).2).2).1, bcount := (rI (rI (rI (rI (rI (rW r).2).2).2).2).2).1, bcost := (rI (rI (rI (rI (rI (rI (rW r).2).2).2).2).2).2).1, gaps := (rG (rI (rI (rI (rI (rI (rI (rW r).2).2).2).2).2).2).2.1.length (rI (rI (rI (rI (rI (rI (rW r).2).2).2).2).2).2).2).1 }, (rG (rI (rI (rI (rI (rI (rI (rW r).2).2).2).2).2).2).2.1.length (rI (rI (rI (rI (rI (rI (rW r).2).2).2).2).2).2).2).2) := by simp only [rE, hk]; rfl
    rw [HE]
    refine sized_of (li := [(rI (rW r).2).1, (rI (rI (rW r).2).2).1, (rI (rI (rI (rW r).2).2).2).1, (rI (rI (rI (rI (rW r).2).2).2).2).1, (rI (rI (rI (rI (rI (rW r).2).2).2).2).2).1, (rI (rI (rI (rI (rI (rI (rW r).2).2).2).2).2).2).1] ++ gapI (rG (rI (rI (rI (rI (rI (rI (rW r).2).2).2).2).2).2).2.1.length (rI (rI (rI (rI (rI (rI (rW r).2).2).2).2).2).2).2).1) (ln := []) rfl rfl ?_ (allW_nil _) (by show (0 : Nat) ≤ 1000; omega)
    exact fun n hn => by
      rcases List.mem_append.1 hn with hn | hn
      · exact (all_cons (in64_rI _) (all_cons (in64_rI _) (all_cons (in64_rI _) (all_cons (in64_rI _) (all_cons (in64_rI _) (all_cons (in64_rI _) (all_nil _))))))) n hn
      · unfold gapI at hn
        obtain ⟨p, hp, hq⟩ := List.mem_flatMap.1 hn
        have hg := in64_rG _ _ p hp
        rcases List.mem_cons.1 hq with rfl | hq
        · exact hg.1
        · rcases List.mem_cons.1 hq with rfl | hq
          · exact hg.2
          · cases hq
  · have HE : rE r = ({ edK 8 with number := (rI (rW r).2).1 }, (rI (rW r).2).2) := by simp only [rE, hk]; rfl
    rw [HE]
    exact sized_of (li := [(rI (rW r).2).1]) (ln := []) rfl rfl (all_cons (in64_rI _) (all_nil _)) (allW_nil _) (by show (0 : Nat) ≤ 1000; omega)
  · have HE : rE r = ({ edK 9 with twidth := (rI (rW r).2).1, tlength := (rI (rI (rW r).2).2).1, tlap := (rI (rI (rI (rW r).2).2).2).1, ttail := (rI (rI (rI (rI (rW r).2).2).2).2).1 }, (rI (rI (rI (rI (rW r).2).2).2).2).2) := by simp only [rE, hk]; rfl
    rw [HE]
    exact sized_of (li := [(rI (rW r).2).1, (rI (rI (rW r).2).2).1, (rI (rI (rI (rW r).2).2).2).1, (rI (rI (rI (rI (rW r).2).2).2).2).1]) (ln := []) rfl rfl (all_cons (in64_rI _) (all_cons (in64_rI _) (all_cons (in64_rI _) (all_cons (in64_rI _) (all_nil _))))) (allW_nil _) (by show (0 : Nat) ≤ 1000; omega)
  · have HE : rE r = ({ edK 10 with index := (rI (rW r).2).1, lkind := (rI (rI (rW r).2).2).1, lside := (rI (rI (rI (rW r).2).2).2).1, lweight := (rW (rI (rI (rI (rW r).2).2).2).2).1 }, (rW (rI (rI (rI (rW r).2).2).2).2).2) := by simp only [rE, hk]; rfl
    rw [HE]
    exact sized_of (li := [(rI (rW r).2).1, (rI (rI (rW r).2).2).1, (rI (rI (rI (rW r).2).2).2).1]) (ln := [(rW (rI (rI (rI (rW r).2).2).2).2).1]) rfl rfl (all_cons (in64_rI _) (all_cons (in64_rI _) (all_cons (in64_rI _) (all_nil _)))) (allW_cons (h.next.nextI.nextI.nextI.word) (allW_nil _)) (by show (0 : Nat) ≤ 1000; omega)
  · have HE : rE r = ({ edK 11 with awidth := (rI (rW r).2).1, adepth := (rI (rI (rW r).2).2).1, aspacing := (rI (rI (rI (rW r).2).2).2).1, aload := (rI (rI (rI (rI (rW r).2).2).2).2).1, aspan := (rI (rI (rI (rI (rI (rW r).2).2).2).2).2).1 }, (rI (rI (rI (rI (rI (rW r).2).2).2).2).2).2) := by simp only [rE, hk]; rfl
    rw [HE]
    exact sized_of (li := [(rI (rW r).2).1, (rI (rI (rW r).2).2).1, (rI (rI (rI (rW r).2).2).2).1, (rI (rI (rI (rI (rW r).2).2).2).2).1, (rI (rI (rI (rI (rI (rW r).2).2).2).2).2).1]) (ln := []) rfl rfl (all_cons (in64_rI _) (all_cons (in64_rI _) (all_cons (in64_rI _) (all_cons (in64_rI _) (all_cons (in64_rI _) (all_nil _)))))) (allW_nil _) (by show (0 : Nat) ≤ 1000; omega)
  · have HE : rE r = ({ edK 12 with number := remOf (rW (rW r).2).1, index := (rI (rW (rW r).2).2).1 }, (rI (rW (rW r).2).2).2) := by simp only [rE, hk]; rfl
    rw [HE]
    exact sized_of (li := [(rI (rW (rW r).2).2).1]) (ln := []) rfl rfl (all_cons (in64_rI _) (all_nil _)) (allW_nil _) (by show (0 : Nat) ≤ 1000; omega)
end Go.Proofs.YtbnnccnicfddlaaGreatDoor
