/- change.writer.write at every kind. · ref25.long, ref25.Great, ref51.Great, ref58.GreatEdit: the walks. -/
import Derived.Test.YtbnnccnicfddlaaGreatDoorChgC
set_option linter.unusedSimpArgs false
set_option linter.unusedVariables false
namespace Go.Proofs.YtbnnccnicfddlaaGreatDoor
open Go.RowKit Go.Shelf Kp

theorem wwrite_any (B b : Nat) (e : Ed) (ga : Option Addr) (gc : Nat) (w : World) (h : Wrt B b 0 0 [] w) (hs : Sized e) (hk : 1 ≤ e.kind ∧ e.kind ≤ 12) (hz : e.kind = 6 → 1 ≤ e.zkind ∧ e.zkind ≤ 12)
    (hgp : GapAt w B ga gc e.gaps) (h16 : e.gaps.length ≤ 16) (hg : Gl w) (hB : 9 ≤ B) (hBw : B ≤ w.heap.size) :
    Calls Tryz.prog 15 #[slf b, .agg (edC e (.slice ga e.gaps.length gc))] w (WPost B b e w) := by
  obtain ⟨k1, k2⟩ := hk
  have hx : e.kind = 1 ∨ e.kind = 2 ∨ e.kind = 3 ∨ e.kind = 4 ∨ e.kind = 5 ∨ e.kind = 6 ∨ e.kind = 7 ∨ e.kind = 8 ∨ e.kind = 9 ∨ e.kind = 10 ∨ e.kind = 11 ∨ e.kind = 12 := by omega
  rcases hx with h1 | h1 | h1 | h1 | h1 | h1 | h1 | h1 | h1 | h1 | h1 | h1
  · exact write_1 B b e ga _ gc w h hs h1 hg hB hBw
  · cases hgb : e.gable with
    | true => exact write_2t B b e ga _ gc w h hs h1 hgb hg hB hBw
    | false => exact write_2f B b e ga _ gc w h hs h1 hgb hg hB hBw
  · exact write_3 B b e ga _ gc w h hs h1 hg hB hBw
  · exact write_4 B b e ga _ gc w h hs h1 hg hB hBw
  · exact write_5 B b e ga _ gc w h hs h1 hg hB hBw
  · exact write_6 B b e ga _ gc w h hs h1 (hz h1) hg hB hBw
  · exact write_7 B b e ga gc w h hs h1 hgp h16 hg hB hBw
  · exact write_8 B b e ga _ gc w h hs h1 hg hB hBw
  · exact write_9 B b e ga _ gc w h hs h1 hg hB hBw
  · exact write_10 B b e ga _ gc w h hs h1 hg hB hBw
  · exact write_11 B b e ga _ gc w h hs h1 hg hB hBw
  · exact write_12 B b e ga _ gc w h hs h1 hg hB hBw
end Go.Proofs.YtbnnccnicfddlaaGreatDoor
namespace Go.Proofs.YtbnnccnicfddlaaGreatDoor
open Go.RowKit Go.Shelf Kp
attribute [local go_sem] edC_size edC_9 edC_10 edC_11 edC_12 edC_13 edC_22 edC_23 edC_24 edC_25 edC_36

def longB (n : Nat) : Bool := (decide (20 < n) && decide (n < 299)) || decide (604 < n)
set_option maxHeartbeats 1000000 in
theorem long_any (s : ByteArray) (w : World) : Calls Tryz.prog 20 #[.string s] w fun e w' => e = .returned (.bool (longB s.size)) ∧ w' = w := by
  by_cases h1 : s.size ≤ 20
  · have HR := Lib.hid (show longB s.size = false by unfold longB; simp; omega)
    go_enter Tryz.func20, Tryz.ntmps20
    go_wp2
    go_ret
    exact ⟨by rw [HR.out]; simp; omega, rfl⟩
  by_cases h2 : s.size < 299
  · have HR := Lib.hid (show longB s.size = true by unfold longB; simp; omega)
    have t1 : decide (20 < (s.size : Int)) = true := by rw [decide_eq_true_eq]; omega
    go_enter Tryz.func20, Tryz.ntmps20
    go_wp2
    go_ret
    exact ⟨by rw [HR.out]; first | rfl | simp, rfl⟩
  · have HR := Lib.hid (show longB s.size = decide (604 < (s.size : Int)) by unfold longB; rw [Bool.eq_iff_iff]; simp; omega)
    have t1 : decide (20 < (s.size : Int)) = true := by rw [decide_eq_true_eq]; omega
    have t2 : decide ((s.size : Int) < 299) = false := by rw [decide_eq_false_iff_not]; omega
    go_enter Tryz.func20, Tryz.ntmps20
    go_wp2
    go_ret
    exact ⟨by rw [HR.out]; first | rfl | simp, rfl⟩

set_option maxRecDepth 100000 in
set_option maxHeartbeats 2000000 in
theorem great51_any (w : World) (c cap : Nat) (T : TypeId) (x y : Int) (s : By) (hr : RowAt w c T [.int .i64 x, .int .i64 y, .string (tx s)]) :
    Calls Tryz.prog 10 #[.slice (some ⟨c, 0, none⟩) 1 cap] w fun e w' => e = .returned (.bool (decide (50 < s.length))) ∧ w' = w := by
  have c2 : w.cell? ⟨c, 2, none⟩ = some (.string (tx s)) := by rw [hr.cell]; rfl
  clear hr
  by_cases h : 50 < s.length
  · have HR := Lib.hid (show decide (50 < s.length) = true by simpa using h)
    go_enter Tryz.func10, Tryz.ntmps10
    go_wp2
    refine wp_loop_rounds 2 ?_
    rw [rounds_succ]
    go_wp2
    go_ret
    exact ⟨by rw [HR.out]; rfl, rfl⟩
  · have HR := Lib.hid (show decide (50 < s.length) = false by simpa using h)
    go_enter Tryz.func10, Tryz.ntmps10
    go_wp2
    refine wp_loop_rounds 2 ?_
    rw [rounds_succ]
    go_wp2
    rw [rounds_succ]
    go_wp2
    go_ret
    exact ⟨by rw [HR.out]; rfl, rfl⟩

def long4 (a b c d : By) : Bool := longB a.length || longB b.length || longB c.length || longB d.length
theorem long_tx (s : By) (w : World) : Calls Tryz.prog 20 #[.string (tx s)] w fun e w' => e = .returned (.bool (longB s.length)) ∧ w' = w := by
  have := long_any (tx s) w
  rw [tx_size] at this
  exact this
set_option maxRecDepth 100000 in
set_option maxHeartbeats 2000000 in
theorem great25_any (w : World) (k cap : Nat) (T : TypeId) (x : Int) (a b c d : By) (hr : RowAt w k T [.int .i64 x, .string (tx a), .string (tx b), .string (tx c), .string (tx d)]) :
    Calls Tryz.prog 9 #[.slice (some ⟨k, 0, none⟩) 1 cap] w fun e w' => e = .returned (.bool (long4 a b c d)) ∧ w' = w := by
  have c1 : w.cell? ⟨k, 1, none⟩ = some (.string (tx a)) := by rw [hr.cell]; rfl
  have c2 : w.cell? ⟨k, 2, none⟩ = some (.string (tx b)) := by rw [hr.cell]; rfl
  have c3 : w.cell? ⟨k, 3, none⟩ = some (.string (tx c)) := by rw [hr.cell]; rfl
  have c4 : w.cell? ⟨k, 4, none⟩ = some (.string (tx d)) := by rw [hr.cell]; rfl
  clear hr
  cases ta : longB a.length
  · cases tb : longB b.length
    · cases tc : longB c.length
      · cases td : longB d.length
        · have HR := Lib.hid (show long4 a b c d = false by unfold long4; simp [ta, tb, tc, td])
          go_enter Tryz.func9, Tryz.ntmps9
          go_wp2
          refine wp_loop_rounds 2 ?_
          rw [rounds_succ]
          go_wp2_with (go_at_call 20; refine (long_tx _ _).mono ?_; rintro e w1 ⟨rfl, rfl⟩)
          rw [rounds_succ]
          go_wp2
          go_ret
          exact ⟨by rw [HR.out]; rfl, rfl⟩
        · have HR := Lib.hid (show long4 a b c d = true by unfold long4; simp [td])
          go_enter Tryz.func9, Tryz.ntmps9
          go_wp2
          refine wp_loop_rounds 2 ?_
          rw [rounds_succ]
          go_wp2_with (go_at_call 20; refine (long_tx _ _).mono ?_; rintro e w1 ⟨rfl, rfl⟩)
          go_ret
          exact ⟨by rw [HR.out]; rfl, rfl⟩
      · have HR := Lib.hid (show long4 a b c d = true by unfold long4; simp [tc])
        go_enter Tryz.func9, Tryz.ntmps9
        go_wp2
        refine wp_loop_rounds 2 ?_
        rw [rounds_succ]
        go_wp2_with (go_at_call 20; refine (long_tx _ _).mono ?_; rintro e w1 ⟨rfl, rfl⟩)
        go_ret
        exact ⟨by rw [HR.out]; rfl, rfl⟩
    · have HR := Lib.hid (show long4 a b c d = true by unfold long4; simp [tb])
      go_enter Tryz.func9, Tryz.ntmps9
      go_wp2
      refine wp_loop_rounds 2 ?_
      rw [rounds_succ]
      go_wp2_with (go_at_call 20; refine (long_tx _ _).mono ?_; rintro e w1 ⟨rfl, rfl⟩)
      go_ret
      exact ⟨by rw [HR.out]; rfl, rfl⟩
  · have HR := Lib.hid (show long4 a b c d = true by unfold long4; simp [ta])
    go_enter Tryz.func9, Tryz.ntmps9
    go_wp2
    refine wp_loop_rounds 2 ?_
    rw [rounds_succ]
    go_wp2_with (go_at_call 20; refine (long_tx _ _).mono ?_; rintro e w1 ⟨rfl, rfl⟩)
    go_ret
    exact ⟨by rw [HR.out]; rfl, rfl⟩

theorem RowAt.new2 (w : World) (o o2 : Obj) (T : TypeId) (l : List Value) : RowAt (((w.alloc o).alloc o2).alloc (.cells l.toArray T)) (w.heap.size + 1 + 1) T l := by
  have := RowAt.new1 (w.alloc o) o2 T l
  rw [World.size_alloc] at this
  exact this
/-- ref58.GreatEdit -/
def greatB (e : Ed) : Bool := decide (40 < e.text.length) || decide (17 < e.gaps.length) || long4 e.oleft e.oright e.olow e.ohigh || decide (50 < e.lweight.length)
set_option maxRecDepth 100000 in
set_option maxHeartbeats 4000000 in
theorem greatedit_any (w : World) (e : Ed) (ga : Option Addr) (gc : Nat) :
    Calls Tryz.prog 4 #[.agg (edC e (.slice ga e.gaps.length gc))] w fun r w' => r = .returned (.bool (greatB e)) ∧ Below w.heap.size w w' := by
  have HB0 := Lib.hid (show Below w.heap.size w (w.alloc (.cells (edC e (.slice ga e.gaps.length gc)) 39)) from (Below.refl _ _).alloc (Nat.le_refl _) _)
  by_cases h1 : 40 < e.text.length
  · have HR := Lib.hid (show greatB e = true by unfold greatB; simp [h1])
    go_enter Tryz.func4, Tryz.ntmps4
    go_wp2
    go_ret
    exact ⟨by rw [HR.out]; rfl, HB0.out⟩
  by_cases h2 : 17 < e.gaps.length
  · have HR := Lib.hid (show greatB e = true by unfold greatB; simp [h2])
    go_enter Tryz.func4, Tryz.ntmps4
    go_wp2
    go_ret
    exact ⟨by rw [HR.out]; rfl, HB0.out⟩
  cases h3 : long4 e.oleft e.oright e.olow e.ohigh
  · have HR := Lib.hid (show greatB e = (decide (40 < (e.text.length : Int)) || decide (17 < (e.gaps.length : Int)) || decide (50 < e.lweight.length)) by unfold greatB; rw [h3, Bool.eq_iff_iff]; simp; omega)
    go_enter Tryz.func4, Tryz.ntmps4
    go_wp2_with (first
      | (go_at_call 9; go_must (refine (great25_any _ _ _ 26 e.oside e.oleft e.oright e.olow e.ohigh (RowAt.new1 w _ _ _)).mono ?_); rintro r W1 ⟨rfl, rfl⟩)
      | (go_at_call 10; go_must (refine (great51_any _ _ _ 33 e.lkind e.lside e.lweight (RowAt.new2 w _ _ _ _)).mono ?_); rintro r W1 ⟨rfl, rfl⟩))
    go_ret
    exact ⟨by rw [HR.out]; rfl, (HB0.out.alloc (by simp) _).alloc (by simp; omega) _⟩
  · have HR := Lib.hid (show greatB e = true by unfold greatB; simp [h3])
    go_enter Tryz.func4, Tryz.ntmps4
    go_wp2_with (go_at_call 9; go_must (refine (great25_any _ _ _ 26 e.oside e.oleft e.oright e.olow e.ohigh (RowAt.new1 w _ _ _)).mono ?_); rintro r W1 ⟨rfl, rfl⟩)
    go_ret
    exact ⟨by rw [HR.out]; rfl, HB0.out.alloc (by simp) _⟩
end Go.Proofs.YtbnnccnicfddlaaGreatDoor
