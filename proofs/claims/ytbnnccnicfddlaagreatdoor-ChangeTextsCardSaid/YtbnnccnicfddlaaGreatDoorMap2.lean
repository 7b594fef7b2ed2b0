/- The map of change.removed as a map that can be ranged over. -/
import Derived.Test.YtbnnccnicfddlaaGreatDoorMap1
import Derived.Maps.RangeWalk
set_option linter.unusedSimpArgs false
set_option linter.unusedVariables false
namespace Go.Proofs.YtbnnccnicfddlaaGreatDoor
open Go.RowKit Go.Shelf Kp Go.Maps

theorem int_law : Keyed Tryz.prog 3 := int_keyed Tryz.underlying3
noncomputable abbrev strR : Value → Option (DataW Unit × List MemPlace) := plainElem Tryz.prog 9
/-- the map as a datum -/
def remD : DataW Unit := .map [(.int .i64 4, .lit (.string wPurlin)), (.int .i64 5, .lit (.string wOpening)), (.int .i64 6, .lit (.string wSize)), (.int .i64 7, .lit (.string wBar)), (.int .i64 10, .lit (.string wLoad)), (.int .i64 11, .lit (.string wSpan))]
theorem upd_owns {w : World} {es es' : Array MapEntry} {c n : Nat} {D : DataW Unit} (h : (w.alloc (.map es c)).ownsMap Tryz.prog 3 strR w.heap.size n D) (hn : n < maxLen) (k : Int) (s : By)
    (hk : keyOf Tryz.prog 3 (.int .i64 k) = some (.int .i64 k)) (hs : s.length ≤ 1000)
    (hu : (Instr.mapUpdate 55 (.map (some w.heap.size)) (.int .i64 k) (.string (tx s))).run Tryz.prog (w.alloc (.map es c)) = .ok () (w.alloc (.map es' (c + 1)))) :
    (w.alloc (.map es' (c + 1))).ownsMap Tryz.prog 3 strR w.heap.size (n + 1) (D.put (.int .i64 k) (.lit (.string s))) := by
  obtain ⟨w', hr, ho, _⟩ := h.update int_law Tryz.underlying55 hn hk (plainElem_string (H := Unit) Tryz.underlying9 (s := tx s) (by rw [tx_size]; unfold maxLen; omega))
  rw [hu] at hr
  cases hr
  rw [tx_list] at ho
  exact ho
theorem rem_owns (w : World) : (w.alloc (.map rem6 6)).ownsMap Tryz.prog 3 strR w.heap.size 6 remD := by
  have kk : ∀ k : Int, -1000 ≤ k → k ≤ 1000 → keyOf Tryz.prog 3 (.int .i64 k) = some (.int .i64 k) := fun k h0 h1 => keyOf_int_mk Tryz.underlying3 (WalkArith.wf_i64 (by omega))
  have m : ∀ n : Nat, n ≤ 10 → n < maxLen := fun n hn => by unfold maxLen; omega
  have u0 := upd_new (T := 55) Tryz.underlying55 Tryz.underlying3 w rem0 rem1 0 (.int .i64 4) (.string (tx wPurlin)) (by simp [MapKept.IsKey]) rfl rfl
  have u1 := upd_new (T := 55) Tryz.underlying55 Tryz.underlying3 w rem1 rem2 1 (.int .i64 5) (.string (tx wOpening)) (by simp [MapKept.IsKey]) rfl rfl
  have u2 := upd_new (T := 55) Tryz.underlying55 Tryz.underlying3 w rem2 rem3 2 (.int .i64 6) (.string (tx wSize)) (by simp [MapKept.IsKey]) rfl rfl
  have u3 := upd_new (T := 55) Tryz.underlying55 Tryz.underlying3 w rem3 rem4 3 (.int .i64 7) (.string (tx wBar)) (by simp [MapKept.IsKey]) rfl rfl
  have u4 := upd_new (T := 55) Tryz.underlying55 Tryz.underlying3 w rem4 rem5 4 (.int .i64 10) (.string (tx wLoad)) (by simp [MapKept.IsKey]) rfl rfl
  have u5 := upd_new (T := 55) Tryz.underlying55 Tryz.underlying3 w rem5 rem6 5 (.int .i64 11) (.string (tx wSpan)) (by simp [MapKept.IsKey]) rfl rfl
  have h0 := World.ownsMap_made w Tryz.prog 3 strR
  have h1 := upd_owns h0 (m _ (by omega)) 4 wPurlin (kk _ (by omega) (by omega)) (by decide) u0
  have h2 := upd_owns h1 (m _ (by omega)) 5 wOpening (kk _ (by omega) (by omega)) (by decide) u1
  have h3 := upd_owns h2 (m _ (by omega)) 6 wSize (kk _ (by omega) (by omega)) (by decide) u2
  have h4 := upd_owns h3 (m _ (by omega)) 7 wBar (kk _ (by omega) (by omega)) (by decide) u3
  have h5 := upd_owns h4 (m _ (by omega)) 10 wLoad (kk _ (by omega) (by omega)) (by decide) u4
  have h6 := upd_owns h5 (m _ (by omega)) 11 wSpan (kk _ (by omega) (by omega)) (by decide) u5
  have e : ((((((DataW.map [] : DataW Unit).put (.int .i64 4) (.lit (.string wPurlin))).put (.int .i64 5) (.lit (.string wOpening))).put (.int .i64 6) (.lit (.string wSize))).put (.int .i64 7) (.lit (.string wBar))).put (.int .i64 10) (.lit (.string wLoad))).put (.int .i64 11) (.lit (.string wSpan)) = remD := by kernel_rfl
  rw [e] at h6
  exact h6
/-- what stands at a key that is there -/
theorem remD_at {x : Int} {c : By} (hh : Maps.has remD (.int .i64 x) = true) (h : ∀ zd, remD.atKey (.int .i64 x) zd = .lit (.string c)) : remIs x = true ∧ c = remW x := by
  have hx : x = 4 ∨ x = 5 ∨ x = 6 ∨ x = 7 ∨ x = 10 ∨ x = 11 := by
    simp [Maps.has, remD, Lit.sameKey] at hh
    omega
  have h0 := h .nil
  rcases hx with rfl | rfl | rfl | rfl | rfl | rfl
  all_goals
    refine ⟨rfl, ?_⟩
    simp [DataW.atKey, remD, Lit.sameKey] at h0
    rw [← h0]; rfl
end Go.Proofs.YtbnnccnicfddlaaGreatDoor
