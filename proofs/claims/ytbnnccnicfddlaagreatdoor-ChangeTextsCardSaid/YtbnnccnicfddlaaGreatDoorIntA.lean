/- integer.limb, integer.trim: walks. · integer.take, integer.restore: walks: a row of limbs that is written in place. · integer.take: the walk. · integer.restore: the walk. · integer.estimate: the walk. -/
import Derived.Test.YtbnnccnicfddlaaGreatDoorProg
import Derived.Test.YtbnnccnicfddlaaGreatDoorMathA
import Derived.WalkKit
import Derived.WalkSpells
import Derived.WalkLawsBesides
import Derived.Lib.Hide
import Derived.Deep.QuietTactic
import Derived.BigQuiet
set_option linter.unusedSimpArgs false
set_option linter.unusedVariables false
namespace Go.Proofs.YtbnnccnicfddlaaGreatDoor
open Go.RowKit Kp

theorem ret_int {k : IntKind} {a b : Int} (h : a = b) : Ending.returned (.int k a) = .returned (.int k b) := by rw [h]

/-- A slice of limbs that reads as l, its cells below block b0; nil let in. -/
def SlN (w : World) (b0 : Nat) (v : Value) (l : List Nat) : Prop :=
  ∃ A cap, v = .slice A l.length cap ∧ l.length ≤ cap ∧ cap ≤ maxLen ∧
    (0 < l.length → ∃ b off, A = some ⟨b, off, none⟩ ∧ b < b0 ∧ ∀ j, j < l.length → w.cell? ⟨b, off + j, none⟩ = some (.int .i64 (fv l j)))

theorem SlN.keep {w w' : World} {b0 : Nat} {v : Value} {l : List Nat} (h : SlN w b0 v l) (hk : ∀ p : Addr, p.block < b0 → w'.cell? p = w.cell? p) : SlN w' b0 v l := by
  obtain ⟨A, cap, rfl, h1, h2, hc⟩ := h
  refine ⟨A, cap, rfl, h1, h2, fun hn => ?_⟩
  obtain ⟨b, off, e, hb, hcell⟩ := hc hn
  exact ⟨b, off, e, hb, fun j hj => (hk _ hb).trans (hcell j hj)⟩
theorem SlN.more {w : World} {b0 b1 : Nat} {v : Value} {l : List Nat} (h : SlN w b0 v l) (hb : b0 ≤ b1) : SlN w b1 v l := by
  obtain ⟨A, cap, rfl, h1, h2, hc⟩ := h
  refine ⟨A, cap, rfl, h1, h2, fun hn => ?_⟩
  obtain ⟨b, off, e, hb, hcell⟩ := hc hn
  exact ⟨b, off, e, by omega, hcell⟩
theorem SlN.below {w w' : World} {b0 : Nat} {v : Value} {l : List Nat} (h : SlN w b0 v l) (hb : Below b0 w w') : SlN w' b0 v l := h.keep fun _ hp => hb.cell hp

/-- The limb's value as the walk shows it. -/
theorem SlN.len {w : World} {b0 : Nat} {v : Value} {l : List Nat} (h : SlN w b0 v l) : l.length ≤ 9223372036854775807 := by
  obtain ⟨_, _, _, h1, h2, _⟩ := h
  unfold maxLen at h2; omega

set_option maxHeartbeats 400000 in
theorem limb_any (w : World) (b0 : Nat) (v : Value) (l : List Nat) (i : Nat) (h : SlN w b0 v l) (hi : i ≤ 4611686018427387904) :
    Calls Tryz.prog 113 #[v, .int .i64 i] w fun e w' => e = .returned (.int .i64 (fv l i)) ∧ w = w' := by
  obtain ⟨A, cap, rfl, hl, hm, hc⟩ := h
  unfold maxLen at hm
  by_cases hlt : i < l.length
  · obtain ⟨b, off, rfl, _, hcell⟩ := hc (by omega)
    have hx := hcell i hlt
    clear hcell
    go_enter Tryz.func113, Tryz.ntmps113
    go_wp2
    go_ret
    exact ⟨rfl, rfl⟩
  · go_enter Tryz.func113, Tryz.ntmps113
    go_wp2
    go_ret
    exact ⟨ret_int (by rw [fv_out (by omega)]; rfl), rfl⟩

def lenV : Value → Nat
  | .slice _ n _ => n
  | _ => 0

theorem trim_step {l : List Nat} {k : Nat} (hk : k < l.length) (h0 : fv l k = 0) (h : trimL (l.take (k + 1)) = trimL l) : trimL (l.take k) = trimL l := by
  rw [← h, List.take_succ_eq_append_getElem hk]
  rw [fv_in hk] at h0
  rw [h0, trimL_snoc_zero]
theorem trim_done {l : List Nat} {k : Nat} (hk : k < l.length) (h0 : fv l k ≠ 0) (h : trimL (l.take (k + 1)) = trimL l) : (trimL l).length = k + 1 := by
  rw [← h, List.take_succ_eq_append_getElem hk]
  rw [fv_in hk] at h0
  rw [trimL_snoc h0]; simp; omega

set_option maxHeartbeats 400000 in
theorem trim_any (w : World) (A : Option Addr) (cap : Nat) (l : List Nat) (h1 : l.length ≤ cap) (h2 : cap ≤ maxLen)
    (hc : 0 < l.length → ∃ b off, A = some ⟨b, off, none⟩ ∧ ∀ j, j < l.length → w.cell? ⟨b, off + j, none⟩ = some (.int .i64 (fv l j))) :
    Calls Tryz.prog 98 #[.slice A l.length cap] w fun e w' => e = .returned (.slice A (trimL l).length cap) ∧ w = w' := by
  unfold maxLen at h2
  go_enter Tryz.func98, Tryz.ntmps98
  go_wp2
  go_loop [0] (fun v => ∃ k : Nat, k ≤ l.length ∧ v = .slice A k cap ∧ Hid (trimL (l.take k) = trimL l)) (fun v => lenV v)
  case atStart => exact ⟨l.length, Nat.le_refl _, rfl, by simp [Hid]⟩
  case round =>
    obtain ⟨k, hk, rfl, ht⟩ := hrel
    rcases k with _ | k
    · go_wp2
      go_ret
      exact ⟨by have := ht.out; simp [trimL_nil] at this; rw [this]; rfl, rfl⟩
    · obtain ⟨b, off, rfl, hcell⟩ := hc (by omega)
      have hx := hcell k (by omega)
      by_cases h0 : fv l k = 0
      · have hz : ((fv l k : Int) == 0) = true := by rw [h0]; rfl
        have H0 := Lib.hid h0
        clear h0 hcell
        go_wp2
        go_round
        case rel => exact ⟨k, by omega, rfl, trim_step (by omega) H0.out ht.out⟩
        case measure => simp [lenV]
      · have hz : ((fv l k : Int) == 0) = false := by rw [beq_eq_false_iff_ne]; omega
        have H0 := Lib.hid h0
        clear h0 hcell
        go_wp2
        go_ret
        exact ⟨by rw [trim_done (by omega) H0.out ht.out]; rfl, rfl⟩
end Go.Proofs.YtbnnccnicfddlaaGreatDoor
namespace Go.Proofs.YtbnnccnicfddlaaGreatDoor
open Go.RowKit Kp

/-- Block g is a row of ints with room for cap, none frozen; its first cells are the limbs l. -/
def Row (w : World) (g cap : Nat) (l : List Nat) : Prop :=
  ∃ cur : Array Value, w.heap[g]? = some (.cells cur 3 (0, 0)) ∧ cur.size = cap ∧ l.length ≤ cap ∧ cap ≤ maxLen ∧ ∀ j, j < l.length → cur[j]? = some (.int .i64 (fv l j))

theorem Row.lt {w : World} {g cap : Nat} {l : List Nat} (h : Row w g cap l) : g < w.heap.size := by
  obtain ⟨cur, hh, _⟩ := h
  exact (Array.getElem?_eq_some_iff.1 hh).1
theorem Row.cell {w : World} {g cap : Nat} {l : List Nat} (h : Row w g cap l) {j : Nat} (hj : j < l.length) : w.cell? ⟨g, j, none⟩ = some (.int .i64 (fv l j)) := by
  obtain ⟨cur, hh, _, _, _, hc⟩ := h
  simp [World.cell?, hh, hc j hj]
theorem Row.frozen {w : World} {g cap : Nat} {l : List Nat} (h : Row w g cap l) (j : Nat) : w.frozen? ⟨g, j, none⟩ = false := by
  obtain ⟨cur, hh, _⟩ := h
  simp [World.frozen?, hh]
theorem fv_set {l : List Nat} {j x k : Nat} (hj : j < l.length) : fv (l.set j x) k = if k = j then x else fv l k := by
  unfold fv
  simp only [List.getD_eq_getElem?_getD, List.getElem?_set]
  by_cases h : j = k
  · subst h; simp [hj]
  · simp [h, Ne.symm h]
theorem Row.set {w : World} {g cap : Nat} {l : List Nat} (h : Row w g cap l) {j : Nat} (hj : j < l.length) (x : Nat) : Row (w.setCell ⟨g, j, none⟩ (.int .i64 x)) g cap (l.set j x) := by
  obtain ⟨cur, hh, h1, h2, h3, hc⟩ := h
  refine ⟨cur.setIfInBounds j (.int .i64 x), ?_, by simp [h1], by simpa using h2, h3, fun k hk => ?_⟩
  · simp [World.setCell, Array.getElem?_modify, hh]
  · simp only [List.length_set] at hk
    rw [fv_set hj, Array.getElem?_setIfInBounds]
    by_cases hkj : j = k
    · subst hkj; simp [h1]; omega
    · rw [if_neg hkj, if_neg (Ne.symm hkj)]; exact hc k hk
theorem Row.keep {w w' : World} {g cap : Nat} {l : List Nat} (h : Row w g cap l) (hk : w'.heap[g]? = w.heap[g]?) : Row w' g cap l := by
  obtain ⟨cur, hh, r⟩ := h
  exact ⟨cur, hk.trans hh, r⟩
theorem Row.drew {w : World} {g cap : Nat} {l : List Nat} (h : Row w g cap l) : Row w.drew g cap l := h
theorem Row.drewN {w : World} {g cap : Nat} {l : List Nat} (h : Row w g cap l) (n : Nat) : Row (w.drewN n) g cap l := h
theorem Row.sl {w : World} {g cap b0 : Nat} {l : List Nat} (h : Row w g cap l) (hg : g < b0) : SlN w b0 (.slice (some ⟨g, 0, none⟩) l.length cap) l := by
  have h' := h
  obtain ⟨cur, hh, h1, h2, h3, hc⟩ := h
  exact ⟨_, cap, rfl, h2, h3, fun _ => ⟨g, 0, rfl, hg, fun j hj => by rw [Nat.zero_add]; exact h'.cell hj⟩⟩

/-- Only block g has turned, and nothing is new. -/
structure Only (g : Nat) (w w' : World) : Prop where
  os : w'.os = w.os
  tape : w'.tape = w.tape
  output : w'.output = w.output
  size : w'.heap.size = w.heap.size
  block : ∀ k, k ≠ g → w'.heap[k]? = w.heap[k]?
theorem Only.refl (g : Nat) (w : World) : Only g w w := ⟨rfl, rfl, rfl, rfl, fun _ _ => rfl⟩
theorem Only.drewN {g : Nat} {w w' : World} (h : Only g w w') (n : Nat) : Only g w (w'.drewN n) := ⟨h.os, h.tape, h.output, h.size, h.block⟩
theorem Only.drew {g : Nat} {w w' : World} (h : Only g w w') : Only g w w'.drew := ⟨h.os, h.tape, h.output, h.size, h.block⟩
theorem Only.set {g : Nat} {w w' : World} (h : Only g w w') (j : Nat) (x : Value) : Only g w (w'.setCell ⟨g, j, none⟩ x) :=
  ⟨h.os, h.tape, h.output, by simpa [World.setCell] using h.size, fun k hk => (Below.heap_setCell w' ⟨g, j, none⟩ x k hk).trans (h.block k hk)⟩
theorem Only.trans {g : Nat} {a b c : World} (h : Only g a b) (k : Only g b c) : Only g a c :=
  ⟨k.os.trans h.os, k.tape.trans h.tape, k.output.trans h.output, k.size.trans h.size, fun i hi => (k.block i hi).trans (h.block i hi)⟩
theorem Only.cell {g : Nat} {w w' : World} (h : Only g w w') {p : Addr} (hp : p.block ≠ g) : w'.cell? p = w.cell? p := World.cell?_of_block (h.block _ hp)
theorem Only.sl {g b0 : Nat} {w w' : World} (h : Only g w w') {v : Value} {l : List Nat} (hs : SlN w b0 v l) (hb : b0 ≤ g) : SlN w' b0 v l := hs.keep fun p hp => h.cell (by omega)
theorem Only.below {g b0 : Nat} {w w' : World} (h : Only g w w') (hb : b0 ≤ g) : Below b0 w w' :=
  ⟨h.os, h.tape, h.output, by rw [h.size]; exact Nat.le_refl _, fun k hk => h.block k (by omega)⟩

theorem cell_lt {w : World} {p : Addr} {v : Value} (h : w.cell? p = some v) : p.block < w.heap.size := by
  rcases Nat.lt_or_ge p.block w.heap.size with hlt | hge
  · exact hlt
  · unfold World.cell? at h; rw [Array.getElem?_eq_none hge] at h; simp at h
/-- A slice of limbs that reads as l, none of its cells in block g. -/
def SlF (w : World) (g : Nat) (v : Value) (l : List Nat) : Prop :=
  ∃ A cap, v = .slice A l.length cap ∧ l.length ≤ cap ∧ cap ≤ maxLen ∧
    (0 < l.length → ∃ b off, A = some ⟨b, off, none⟩ ∧ b ≠ g ∧ ∀ j, j < l.length → w.cell? ⟨b, off + j, none⟩ = some (.int .i64 (fv l j)))
theorem SlF.all {w : World} {g : Nat} {v : Value} {l : List Nat} (h : SlF w g v l) : SlN w w.heap.size v l := by
  obtain ⟨A, cap, rfl, h1, h2, hc⟩ := h
  refine ⟨A, cap, rfl, h1, h2, fun hn => ?_⟩
  obtain ⟨b, off, e, hb, hcell⟩ := hc hn
  exact ⟨b, off, e, cell_lt (hcell 0 hn), hcell⟩
theorem Only.slF {g : Nat} {w w' : World} (h : Only g w w') {v : Value} {l : List Nat} (hs : SlF w g v l) : SlF w' g v l := by
  obtain ⟨A, cap, rfl, h1, h2, hc⟩ := hs
  refine ⟨A, cap, rfl, h1, h2, fun hn => ?_⟩
  obtain ⟨b, off, e, hb, hcell⟩ := hc hn
  exact ⟨b, off, e, hb, fun j hj => (h.cell hb).trans (hcell j hj)⟩
theorem SlN.far {w : World} {b0 g : Nat} {v : Value} {l : List Nat} (h : SlN w b0 v l) (hg : b0 ≤ g) : SlF w g v l := by
  obtain ⟨A, cap, rfl, h1, h2, hc⟩ := h
  refine ⟨A, cap, rfl, h1, h2, fun hn => ?_⟩
  obtain ⟨b, off, e, hb, hcell⟩ := hc hn
  exact ⟨b, off, e, by omega, hcell⟩
theorem Row.slF {w : World} {g g' cap : Nat} {l : List Nat} (h : Row w g cap l) (hg : g ≠ g') : SlF w g' (.slice (some ⟨g, 0, none⟩) l.length cap) l := by
  have h' := h
  obtain ⟨cur, hh, h1, h2, h3, hc⟩ := h
  exact ⟨_, cap, rfl, h2, h3, fun _ => ⟨g, 0, rfl, hg, fun j hj => by rw [Nat.zero_add]; exact h'.cell hj⟩⟩
end Go.Proofs.YtbnnccnicfddlaaGreatDoor
namespace Go.Proofs.YtbnnccnicfddlaaGreatDoor
open Go.RowKit Kp

theorem wr64 {n : Int} (h0 : -9223372036854775808 ≤ n) (h1 : n ≤ 9223372036854775807) : IntKind.i64.wrap n = n := IntWalk.i64_in _ (by omega)

/-- what take has done behind k rounds -/
def TakeRel (w : World) (g cap : Nat) (u v : List Nat) (j q k c : Nat) (u' : List Nat) (w' : World) : Prop :=
  Row w' g cap u' ∧ u'.length = u.length ∧ Small u' ∧ (∀ i, i < j ∨ j + k ≤ i → fv u' i = fv u i) ∧
    S (sh (fv u') j) k + q * S (fv v) k = S (sh (fv u) j) k + c * B ^ k ∧ c ≤ 2000000010 ∧ Only g w w'
def TakeLoop (w : World) (g cap : Nat) (u v : List Nat) (j q : Nat) (c i : Value) (w' : World) : Prop :=
  ∃ (k cN : Nat) (u' : List Nat), k ≤ v.length + 1 ∧ i = .int .i64 k ∧ c = .int .i64 cN ∧ TakeRel w g cap u v j q k cN u' w'
def TakePost (w : World) (g cap : Nat) (u v : List Nat) (j q : Nat) (e : Ending) (w' : World) : Prop :=
  ∃ (c : Nat) (u' : List Nat), e = .returned (.bool (decide (0 < c))) ∧ TakeRel w g cap u v j q (v.length + 1) c u' w'

theorem limb_q (w : World) (b0 : Nat) (v : Value) (l : List Nat) (i : Nat) (h : SlN w b0 v l) (hi : i ≤ 4611686018427387904) :
    Calls Tryz.prog 113 #[v, .int .i64 i] w fun e w' => e = .returned (.int .i64 (fv l i)) ∧ w' = w :=
  (limb_any w b0 v l i h hi).mono fun _ _ h => ⟨h.1, h.2.symm⟩

theorem mul_bound {q x : Nat} (hq : q ≤ 2000000000) (hx : x < 1000000000) : 0 ≤ (q : Int) * (x : Int) ∧ (q : Int) * (x : Int) ≤ 2000000000000000000 := by
  have h : q * x ≤ 2000000000 * 1000000000 := Nat.mul_le_mul hq (by omega)
  have e : ((q * x : Nat) : Int) = (q : Int) * (x : Int) := by simp
  omega

/-- one limb set at j + k: what the first k and k + 1 limbs from j on are worth -/
theorem S_sh_set {l : List Nat} {j k x : Nat} (h : j + k < l.length) : S (sh (fv (l.set (j + k) x)) j) (k + 1) = S (sh (fv l) j) k + x * B ^ k := by
  rw [S_succ, S_congr (g := sh (fv l) j)]
  · have : sh (fv (l.set (j + k) x)) j k = x := by unfold sh; rw [fv_set h, if_pos rfl]
    rw [this]
  · intro i hi; unfold sh; rw [fv_set h, if_neg (by omega)]
theorem Small.set {l : List Nat} (h : Small l) {j x : Nat} (hx : x < B) : Small (l.set j x) := by
  intro d hd
  rcases List.mem_or_eq_of_mem_set hd with h1 | h1
  · exact h d h1
  · rw [h1]; exact hx

theorem take_next {w wr : World} {g cap : Nat} {u v u' : List Nat} {j q k c x c' : Nat} (n : Nat) (H : TakeRel w g cap u v j q k c u' wr) (hj : j + k < u.length)
    (hx : x < 1000000000) (hc' : c' ≤ 2000000010) (he : x + q * fv v k + c = fv u' (j + k) + c' * 1000000000) :
    TakeRel w g cap u v j q (k + 1) c' (u'.set (j + k) x) ((wr.drewN n).setCell ⟨g, j + k, none⟩ (.int .i64 x)) := by
  obtain ⟨hR, hl, hS, hsame, heq, hc, hO⟩ := H
  refine ⟨(hR.drewN n).set (by omega) x, by simpa using hl, Small.set hS hx, fun i hi => ?_, ?_, hc', (hO.drewN n).set _ _⟩
  · rw [fv_set (by omega), if_neg (by omega)]; exact hsame i (by omega)
  · rw [S_sh_set (by omega), S_succ (fv v), S_succ (sh (fv u) j), Nat.pow_succ]
    refine take_step heq ?_
    have : sh (fv u) j k = fv u' (j + k) := (hsame _ (by omega)).symm
    rw [this]; exact he

theorem take_neg {a c p : Nat} (h : (a : Int) - c - p < 0) (hc : c ≤ 2000000010) (hp : p ≤ 2000000000000000000) :
    ∃ c' x : Nat, (-((a : Int) - c - p) + 1000000000 - 1) / 1000000000 = c' ∧ (a : Int) - c - p + (c' : Int) * 1000000000 = x ∧ x < 1000000000 ∧ c' ≤ 2000000010 ∧ x + p + c = a + c' * 1000000000 := by
  refine ⟨((-((a : Int) - c - p) + 1000000000 - 1) / 1000000000).toNat, ((a : Int) - c - p + ((-((a : Int) - c - p) + 1000000000 - 1) / 1000000000) * 1000000000).toNat, ?_, ?_, ?_, ?_, ?_⟩ <;> omega

set_option maxHeartbeats 800000 in
theorem take_any (w : World) (g cap : Nat) (u v : List Nat) (vv : Value) (j q : Nat) (hr : Row w g cap u) (hv : SlF w g vv v) (hu : Small u) (hvs : Small v)
    (hj : j + v.length + 1 ≤ u.length) (hq : q ≤ 2000000000) (hlen : u.length ≤ 4294967296) :
    Calls Tryz.prog 104 #[.slice (some ⟨g, 0, none⟩) u.length cap, vv, .int .i64 j, .int .i64 q] w (TakePost w g cap u v j q) := by
  have hcap : u.length ≤ cap ∧ cap ≤ 9223372036854775807 := by obtain ⟨_, _, _, h2, h3, _⟩ := hr; unfold maxLen at h3; omega
  obtain ⟨A, vcap, rfl, hv1, hv2, hvc⟩ := id hv
  unfold maxLen at hv2
  go_enter Tryz.func104, Tryz.ntmps104
  go_wp2
  go_loopw [9, 15] (fun c i wr => TakeLoop w g cap u v j q c i wr) (fun _ i _ => v.length + 1 - (intOf i).toNat)
  case atStart => exact ⟨0, 0, u, by omega, rfl, rfl, hr, rfl, hu, fun _ _ => rfl, by simp [S], by omega, Only.refl _ _⟩
  case round =>
    obtain ⟨k, c, u', hk, rfl, rfl, hrel⟩ := hrel
    obtain ⟨hR, hl, hS, hsame, heq, hc, hO⟩ := id hrel
    by_cases hlt : k < v.length + 1
    · have hx := hR.cell (j := j + k) (by omega)
      have hfr := hR.frozen (j + k)
      have hub : fv u' (j + k) < 1000000000 := fv_small hS (j + k)
      have hvb : fv v k < 1000000000 := fv_small hvs k
      obtain ⟨hp0, hp1⟩ := mul_bound hq hvb
      have hsv := (hO.slF hv).all
      have w1 : IntKind.i64.wrap ((j : Int) + k) = j + k := wr64 (by omega) (by omega)
      have w1a : 0 ≤ (j : Int) + k := by omega
      have w1b : ((j : Int) + k).toNat = j + k := by omega
      have w2 : IntKind.i64.wrap ((fv u' (j + k) : Int) - c) = fv u' (j + k) - c := wr64 (by omega) (by omega)
      have w3 : IntKind.i64.wrap ((q : Int) * (fv v k : Int)) = q * fv v k := wr64 (by omega) (by omega)
      have w4 : IntKind.i64.wrap ((fv u' (j + k) : Int) - c - (q : Int) * (fv v k : Int)) = fv u' (j + k) - c - q * fv v k := wr64 (by omega) (by omega)
      have w1c : (j : Int) + k < u.length := by omega
      have H := Lib.hid hrel
      clear hrel heq hsame hl hS hR hO
      go_wp2_with fail
      go_quiet ((go_at_call 113; exact Calls.quiet_of_same (limb_q _ _ _ v k hsv (by omega))))
      go_wp2
      · have hneg : (fv u' (j + k) : Int) - c - (q : Int) * (fv v k : Int) < 0 := by assumption
        have ep : ((q : Int) * (fv v k : Int)) = ((q * fv v k : Nat) : Int) := by simp
        rw [ep] at hneg hp1 ⊢
        obtain ⟨c', x, e1, e2, hx1, hc1, he⟩ := take_neg hneg hc (by omega)
        rw [e1, e2]
        exact ⟨⟨k + 1, c', _, by omega, by go_num, rfl, take_next nq H.out (by omega) hx1 hc1 he⟩, by simp [intOf]; omega⟩
      · have hpos : 0 ≤ (fv u' (j + k) : Int) - c - (q : Int) * (fv v k : Int) := by assumption
        have ep : ((q : Int) * (fv v k : Int)) = ((q * fv v k : Nat) : Int) := by simp
        rw [ep] at hpos hp1 ⊢
        have e2 : (fv u' (j + k) : Int) - c - ((q * fv v k : Nat) : Int) = ((fv u' (j + k) - c - q * fv v k : Nat) : Int) := by omega
        rw [e2]
        exact ⟨⟨k + 1, 0, _, by omega, by go_num, rfl, take_next nq H.out (by omega) (by omega) (by omega) (by omega)⟩, by simp [intOf]; omega⟩
    · obtain rfl : k = v.length + 1 := by omega
      go_wp2
      go_ret
      exact ⟨c, u', rfl, hrel⟩
end Go.Proofs.YtbnnccnicfddlaaGreatDoor
namespace Go.Proofs.YtbnnccnicfddlaaGreatDoor
open Go.RowKit Kp

/-- what restore has done behind k rounds -/
def RestRel (w : World) (g cap : Nat) (u v : List Nat) (j q k c : Nat) (u' : List Nat) (w' : World) : Prop :=
  Row w' g cap u' ∧ u'.length = u.length ∧ Small u' ∧ (∀ i, i < j ∨ j + k ≤ i → fv u' i = fv u i) ∧
    S (sh (fv u') j) k + c * B ^ k = S (sh (fv u) j) k + q * S (fv v) k ∧ c ≤ 2000000010 ∧ Only g w w'
def RestLoop (w : World) (g cap : Nat) (u v : List Nat) (j q : Nat) (c i : Value) (w' : World) : Prop :=
  ∃ (k cN : Nat) (u' : List Nat), k ≤ v.length + 1 ∧ i = .int .i64 k ∧ c = .int .i64 cN ∧ RestRel w g cap u v j q k cN u' w'
def RestPost (w : World) (g cap : Nat) (u v : List Nat) (j q : Nat) (e : Ending) (w' : World) : Prop :=
  ∃ (c : Nat) (u' : List Nat), e = .returned (.slice (some ⟨g, 0, none⟩) u.length cap) ∧ RestRel w g cap u v j q (v.length + 1) c u' w'

theorem rest_next {w wr : World} {g cap : Nat} {u v u' : List Nat} {j q k c x c' : Nat} (n : Nat) (H : RestRel w g cap u v j q k c u' wr) (hj : j + k < u.length)
    (hx : x < 1000000000) (hc' : c' ≤ 2000000010) (he : x + c' * 1000000000 = fv u' (j + k) + q * fv v k + c) :
    RestRel w g cap u v j q (k + 1) c' (u'.set (j + k) x) ((wr.drewN n).setCell ⟨g, j + k, none⟩ (.int .i64 x)) := by
  obtain ⟨hR, hl, hS, hsame, heq, hc, hO⟩ := H
  refine ⟨(hR.drewN n).set (by omega) x, by simpa using hl, Small.set hS hx, fun i hi => ?_, ?_, hc', (hO.drewN n).set _ _⟩
  · rw [fv_set (by omega), if_neg (by omega)]; exact hsame i (by omega)
  · rw [S_sh_set (by omega), S_succ (fv v), S_succ (sh (fv u) j), Nat.pow_succ]
    refine restore_step heq ?_
    have : sh (fv u) j k = fv u' (j + k) := (hsame _ (by omega)).symm
    rw [this]; exact he

set_option maxHeartbeats 800000 in
theorem restore_any (w : World) (g cap : Nat) (u v : List Nat) (vv : Value) (j q : Nat) (hr : Row w g cap u) (hv : SlF w g vv v) (hu : Small u) (hvs : Small v)
    (hj : j + v.length + 1 ≤ u.length) (hq : q ≤ 2000000000) (hlen : u.length ≤ 4294967296) :
    Calls Tryz.prog 105 #[.slice (some ⟨g, 0, none⟩) u.length cap, vv, .int .i64 j, .int .i64 q] w (RestPost w g cap u v j q) := by
  have hcap : u.length ≤ cap ∧ cap ≤ 9223372036854775807 := by obtain ⟨_, _, _, h2, h3, _⟩ := hr; unfold maxLen at h3; omega
  obtain ⟨A, vcap, rfl, hv1, hv2, hvc⟩ := id hv
  unfold maxLen at hv2
  go_enter Tryz.func105, Tryz.ntmps105
  go_wp2
  go_loopw [9, 15] (fun c i wr => RestLoop w g cap u v j q c i wr) (fun _ i _ => v.length + 1 - (intOf i).toNat)
  case atStart => exact ⟨0, 0, u, by omega, rfl, rfl, hr, rfl, hu, fun _ _ => rfl, by simp [S], by omega, Only.refl _ _⟩
  case round =>
    obtain ⟨k, c, u', hk, rfl, rfl, hrel⟩ := hrel
    obtain ⟨hR, hl, hS, hsame, heq, hc, hO⟩ := id hrel
    by_cases hlt : k < v.length + 1
    · have hx := hR.cell (j := j + k) (by omega)
      have hfr := hR.frozen (j + k)
      have hub : fv u' (j + k) < 1000000000 := fv_small hS (j + k)
      have hvb : fv v k < 1000000000 := fv_small hvs k
      obtain ⟨hp0, hp1⟩ := mul_bound hq hvb
      have hsv := (hO.slF hv).all
      have w1 : IntKind.i64.wrap ((j : Int) + k) = j + k := wr64 (by omega) (by omega)
      have w1a : 0 ≤ (j : Int) + k := by omega
      have w1b : ((j : Int) + k).toNat = j + k := by omega
      have w3 : IntKind.i64.wrap ((q : Int) * (fv v k : Int)) = q * fv v k := wr64 (by omega) (by omega)
      have w2 : IntKind.i64.wrap ((fv u' (j + k) : Int) + (q : Int) * (fv v k : Int)) = fv u' (j + k) + q * fv v k := wr64 (by omega) (by omega)
      have w4 : IntKind.i64.wrap ((fv u' (j + k) : Int) + (q : Int) * (fv v k : Int) + c) = fv u' (j + k) + q * fv v k + c := wr64 (by omega) (by omega)
      have w1c : (j : Int) + k < u.length := by omega
      have H := Lib.hid hrel
      clear hrel heq hsame hl hS hR hO
      go_wp2_with fail
      go_quiet ((go_at_call 113; exact Calls.quiet_of_same (limb_q _ _ _ v k hsv (by omega))))
      go_wp2
      have ep : ((q : Int) * (fv v k : Int)) = ((q * fv v k : Nat) : Int) := by simp
      rw [ep] at hp1 ⊢
      have e1 : ((fv u' (j + k) : Int) + ((q * fv v k : Nat) : Int) + c) / 1000000000 = (((fv u' (j + k) + q * fv v k + c) / 1000000000 : Nat) : Int) := by omega
      have e2 : ((fv u' (j + k) : Int) + ((q * fv v k : Nat) : Int) + c) % 1000000000 = (((fv u' (j + k) + q * fv v k + c) % 1000000000 : Nat) : Int) := by omega
      rw [e1, e2]
      exact ⟨⟨k + 1, _, _, by omega, by go_num, rfl, rest_next nq H.out (by omega) (by omega) (by omega) (by omega)⟩, by simp [intOf]; omega⟩
    · obtain rfl : k = v.length + 1 := by omega
      go_wp2
      go_ret
      exact ⟨c, u', rfl, hrel⟩
end Go.Proofs.YtbnnccnicfddlaaGreatDoor
namespace Go.Proofs.YtbnnccnicfddlaaGreatDoor
open Go.RowKit Kp

/-- what is known of an estimate q, r: U the value from j on, V the divisor's; un, u1, v1 their last limbs -/
def EstRel (U V un u1 v1 q r : Nat) : Prop :=
  q * v1 + r = un * 1000000000 + u1 ∧ U < (q + 1) * V ∧ q ≤ 2000000000 ∧ r < 1000000000
def EstLoop (w : World) (U V un u1 v1 : Nat) (q r : Value) (w' : World) : Prop :=
  ∃ qN rN n : Nat, q = .int .i64 qN ∧ r = .int .i64 rN ∧ EstRel U V un u1 v1 qN rN ∧ w' = w.drewN n
def EstPost (w : World) (U V : Nat) (e : Ending) (w' : World) : Prop :=
  ∃ q n : Nat, e = .returned (.int .i64 q) ∧ U < (q + 1) * V ∧ q ≤ 2000000000 ∧ w' = w.drewN n

/-- the value of the divisor by its last limbs -/
theorem val_top {v : List Nat} (hn : 2 ≤ v.length) : fv v (v.length - 1) * B ^ (v.length - 1) ≤ val v ∧ (fv v (v.length - 1) * B + fv v (v.length - 2)) * B ^ (v.length - 2) ≤ val v := by
  obtain ⟨m, hm⟩ : ∃ m, v.length = m + 2 := ⟨v.length - 2, by omega⟩
  unfold val
  rw [hm, S_succ, S_succ]
  show fv v (m + 1) * B ^ (m + 1) ≤ _ ∧ (fv v (m + 1) * B + fv v m) * B ^ m ≤ _
  refine ⟨Nat.le_add_left _ _, ?_⟩
  rw [Nat.pow_succ, Nat.add_mul]
  have : fv v (m + 1) * (B ^ m * B) = fv v (m + 1) * B * B ^ m := by rw [Nat.mul_comm (B ^ m), Nat.mul_assoc]
  omega
/-- the value of the limbs from j on by their last limbs -/
theorem seg_top {u : List Nat} {j n : Nat} (hu : Small u) (hn : 2 ≤ n) :
    S (sh (fv u) j) (n + 1) < (fv u (j + n) * B + fv u (j + n - 1) + 1) * B ^ (n - 1) ∧
    S (sh (fv u) j) (n + 1) < ((fv u (j + n) * B + fv u (j + n - 1)) * B + fv u (j + n - 2) + 1) * B ^ (n - 2) := by
  obtain ⟨m, rfl⟩ : ∃ m, n = m + 2 := ⟨n - 2, by omega⟩
  have h1 : S (sh (fv u) j) (m + 1) < B ^ (m + 1) := S_lt (fun k _ => fv_small hu _)
  have h0 : S (sh (fv u) j) m < B ^ m := S_lt (fun k _ => fv_small hu _)
  rw [S_succ, S_succ (sh (fv u) j) (m + 1)]
  show S (sh (fv u) j) (m + 1) + fv u (j + (m + 1)) * B ^ (m + 1) + fv u (j + (m + 2)) * B ^ (m + 2) < (fv u (j + (m + 2)) * B + fv u (j + (m + 1)) + 1) * B ^ (m + 1) ∧
    S (sh (fv u) j) (m + 1) + fv u (j + (m + 1)) * B ^ (m + 1) + fv u (j + (m + 2)) * B ^ (m + 2) < ((fv u (j + (m + 2)) * B + fv u (j + (m + 1))) * B + fv u (j + m) + 1) * B ^ m
  generalize fv u (j + (m + 2)) = a
  generalize fv u (j + (m + 1)) = b
  have ea : a * B ^ (m + 2) = a * B * B ^ (m + 1) := by rw [Nat.pow_succ B (m + 1), Nat.mul_comm (B ^ (m + 1)), Nat.mul_assoc]
  constructor
  · rw [Nat.add_mul, Nat.add_mul, Nat.one_mul, ea]; omega
  · rw [S_succ]
    show S (sh (fv u) j) m + fv u (j + m) * B ^ m + b * B ^ (m + 1) + a * B ^ (m + 2) < _
    generalize fv u (j + m) = c
    have e1 : ((a * B + b) * B + c + 1) * B ^ m = a * B ^ (m + 2) + b * B ^ (m + 1) + c * B ^ m + B ^ m := by
      rw [ea, Nat.pow_succ, Nat.add_mul, Nat.add_mul, Nat.one_mul, Nat.add_mul, Nat.add_mul]
      have x1 : a * B * B * B ^ m = a * B * (B ^ m * B) := by rw [Nat.mul_assoc (a * B), Nat.mul_comm B (B ^ m)]
      have x2 : b * B * B ^ m = b * (B ^ m * B) := by rw [Nat.mul_assoc, Nat.mul_comm B (B ^ m)]
      omega
    rw [e1]; omega

theorem est_first {U V un u1 v1 P : Nat} (hU : U < (un * B + u1 + 1) * P) (hV : v1 * P ≤ V) (hb : v1 < 1000000000) (hub : u1 < 1000000000) (h1 : 1 ≤ v1) (htop : un ≤ v1) :
    EstRel U V un u1 v1 ((un * 1000000000 + u1) / v1) ((un * 1000000000 + u1) % v1) := by
  obtain ⟨t, ht⟩ : ∃ t, un * B + u1 = t := ⟨_, rfl⟩
  rw [ht] at hU
  have ht2 : un * 1000000000 + u1 = t := ht
  unfold EstRel
  rw [ht2]
  have hdm := Nat.div_add_mod t v1
  have hm := Nat.mod_lt t h1
  refine ⟨by rw [Nat.mul_comm]; exact hdm, est_start hU hV ?_, ?_, by omega⟩
  · rw [Nat.add_mul, Nat.one_mul, Nat.mul_comm]; omega
  · have : t ≤ 2000000000 * v1 := by omega
    exact Nat.div_le_of_le_mul (by rw [Nat.mul_comm]; exact this)

theorem est_less {U V un u1 u2 v1 v2 q r P : Nat} (hs : U < ((un * B + u1) * B + u2 + 1) * P) (hv : (v1 * B + v2) * P ≤ V) (hU : U < B * V) (h : EstRel U V un u1 v1 q r)
    (hc : 1000000000 ≤ q ∨ r * 1000000000 + u2 < q * v2) :
    1 ≤ q ∧ U < (q - 1 + 1) * V ∧ (q - 1) * v1 + (r + v1) = un * 1000000000 + u1 := by
  obtain ⟨he, hlt, hq, hr⟩ := h
  have h1 : 1 ≤ q := by
    rcases hc with hc | hc
    · omega
    · rcases Nat.eq_zero_or_pos q with h0 | h0
      · subst h0; omega
      · exact h0
  refine ⟨h1, ?_, ?_⟩
  · rw [Nat.sub_add_cancel h1]
    rcases hc with hc | hc
    · exact est_big hU hc
    · exact est_down he hs hv hc
  · have : q * v1 = (q - 1) * v1 + v1 := by
      rw [← Nat.succ_mul, Nat.succ_eq_add_one, Nat.sub_add_cancel h1]
    omega

theorem quo_two {un u1 v1 : Nat} (h1 : un < 1000000000) (h2 : u1 < 1000000000) (h3 : 1 ≤ v1) :
    IntKind.i64.wrap (((un : Int) * 1000000000 + u1).tdiv v1) = (((un * 1000000000 + u1) / v1 : Nat) : Int) := by
  rw [IntWalk.i64_quo _ _ ⟨by omega, by omega, by omega⟩]; simp
theorem rem_two {un u1 v1 : Nat} : ((un : Int) * 1000000000 + u1).tmod v1 = (((un * 1000000000 + u1) % v1 : Nat) : Int) := by
  rw [IntWalk.rem_in _ _ (by omega)]; simp

set_option maxRecDepth 100000 in
set_option maxHeartbeats 800000 in
theorem estimate_any (w : World) (g ucap : Nat) (u v : List Nat) (A : Option Addr) (vcap j b0 : Nat) (hr : Row w g ucap u) (hv : SlN w b0 (.slice A v.length vcap) v) (hu : Small u) (hvs : Small v)
    (hn : 2 ≤ v.length) (hj : j + v.length < u.length) (_hlen : u.length ≤ 4294967296) (h1 : 1 ≤ fv v (v.length - 1)) (htop : fv u (j + v.length) ≤ fv v (v.length - 1))
    (hU : S (sh (fv u) j) (v.length + 1) < B * val v) :
    Calls Tryz.prog 103 #[.slice (some ⟨g, 0, none⟩) u.length ucap, .slice A v.length vcap, .int .i64 j] w (EstPost w (S (sh (fv u) j) (v.length + 1)) (val v)) := by
  have hcap : u.length ≤ ucap ∧ ucap ≤ 9223372036854775807 := by obtain ⟨_, _, _, h2, h3, _⟩ := hr; unfold maxLen at h3; omega
  obtain ⟨A', vcap', e, hv1, hv2, hvc⟩ := hv
  injection e with e1 e2 e3
  subst e1 e3
  obtain ⟨b, off, rfl, _, hvcell⟩ := hvc (by omega)
  unfold maxLen at hv2
  have sg := seg_top (j := j) hu hn
  have vt := val_top hn
  have c0 := hr.cell hj
  have c1 := hr.cell (j := j + v.length - 1) (by omega)
  have c2 := hr.cell (j := j + v.length - 2) (by omega)
  have d1 := hvcell (v.length - 1) (by omega)
  have d2 := hvcell (v.length - 2) (by omega)
  have bu0 : fv u (j + v.length) < 1000000000 := fv_small hu _
  have bu1 : fv u (j + v.length - 1) < 1000000000 := fv_small hu _
  have bu2 : fv u (j + v.length - 2) < 1000000000 := fv_small hu _
  have bv1 : fv v (v.length - 1) < 1000000000 := fv_small hvs _
  have bv2 : fv v (v.length - 2) < 1000000000 := fv_small hvs _
  have hstart := Lib.hid (est_first sg.1 vt.1 bv1 bu1 h1 htop)
  have hless := Lib.hid (fun q r => est_less (q := q) (r := r) sg.2 vt.2 hU)
  clear hvcell hvc hr hU htop hvs hu sg vt
  generalize S (sh (fv u) j) (v.length + 1) = U at *
  generalize val v = V at *
  generalize fv u (j + v.length) = un at *
  generalize fv u (j + v.length - 1) = u1 at *
  generalize fv u (j + v.length - 2) = u2 at *
  generalize fv v (v.length - 1) = v1 at *
  generalize fv v (v.length - 2) = v2 at *
  have y1 : un < 1000000000 := by omega
  have y2 : u1 < 1000000000 := by omega
  have y3 : 1 ≤ v1 := by omega
  have hv0 : ¬ v1 = 0 := by omega
  have x1 : (j : Int) + v.length < u.length := by omega
  have x2 : (j : Int) + v.length - 1 < u.length := by omega
  have x3 : 0 ≤ (j : Int) + v.length - 1 := by omega
  have x4 : 0 ≤ (v.length : Int) - 1 := by omega
  have x5 : (v.length : Int) - 1 < v.length := by omega
  have w1 : IntKind.i64.wrap ((j : Int) + v.length) = j + v.length := wr64 (by omega) (by omega)
  have w1b : ((j : Int) + v.length).toNat = j + v.length := by omega
  have w2 : IntKind.i64.wrap ((j : Int) + v.length - 1) = j + v.length - 1 := wr64 (by omega) (by omega)
  have w2b : ((j : Int) + v.length - 1).toNat = j + v.length - 1 := by omega
  have w3 : IntKind.i64.wrap ((un : Int) * 1000000000) = un * 1000000000 := wr64 (by omega) (by omega)
  have w4 : IntKind.i64.wrap ((un : Int) * 1000000000 + u1) = un * 1000000000 + u1 := wr64 (by omega) (by omega)
  have w5 : IntKind.i64.wrap ((v.length : Int) - 1) = v.length - 1 := wr64 (by omega) (by omega)
  have w5b : ((v.length : Int) - 1).toNat = v.length - 1 := by omega
  have w6 := quo_two (un := un) (u1 := u1) (v1 := v1) y1 y2 y3
  have w7 := rem_two (un := un) (u1 := u1) (v1 := v1)
  go_enter Tryz.func103, Tryz.ntmps103
  go_wp2_with fail
  go_quiet (fail)
  go_wp2_with fail
  go_quiet (fail)
  go_wp2_with fail
  clear w1 w1b w2 w2b w3 w4 w6 w7 w5 w5b x1 x2 x3 x4 x5
  go_loopw [9, 10] (fun q r wr => EstLoop w U V un u1 v1 q r wr) (fun q _ _ => (intOf q).toNat)
  case atStart => exact ⟨_, _, _, rfl, rfl, hstart.out, World.drewN_drewN _ _ _⟩
  case round =>
    obtain ⟨q, r, n, rfl, rfl, hrel, rfl⟩ := hrel
    obtain ⟨_, _, hq, hr⟩ := id hrel
    have H := Lib.hid hrel
    clear hrel hstart
    have p1 := mul_bound hq bv2
    by_cases hA : 1000000000 ≤ q
    · have hl := hless.out q r H.out (.inl hA)
      have HL := Lib.hid hl.2
      have hq1 := hl.1
      clear hl
      have hA' : (1000000000 : Int) ≤ q := by omega
      have x4 : 0 ≤ (v.length : Int) - 1 := by omega
      have x5 : (v.length : Int) - 1 < v.length := by omega
      have e1 : (q : Int) - 1 = ((q - 1 : Nat) : Int) := by omega
      have E1 := Lib.hid e1
      clear e1
      have hB0 : r + v1 < 1000000000 ∨ ¬ r + v1 < 1000000000 := by omega
      have w8 : IntKind.i64.wrap ((q : Int) - 1) = q - 1 := wr64 (by omega) (by omega)
      have w9 : IntKind.i64.wrap ((r : Int) + v1) = r + v1 := wr64 (by omega) (by omega)
      have w5 : IntKind.i64.wrap ((v.length : Int) - 1) = v.length - 1 := wr64 (by omega) (by omega)
      have w5b : ((v.length : Int) - 1).toNat = v.length - 1 := by omega
      rcases hB0 with hB0 | hB0
      · have hB : (r : Int) + v1 < 1000000000 := by omega
        have hB2 : decide ((1000000000 : Int) ≤ (r : Int) + v1) = false := by simp; omega
        go_wp2_with fail
        go_quiet (fail)
        go_wp2_with fail
        go_quiet (fail)
        clear w8 w9 w5 w5b 
        go_wp2_with fail
        rw [E1.out]
        exact ⟨⟨q - 1, r + v1, _, rfl, by go_num, ⟨HL.out.2, HL.out.1, by omega, hB0⟩, by first | rfl | (simp only [World.drewN_drewN]; rfl)⟩, by simp [intOf]; omega⟩
      · have hB : (1000000000 : Int) ≤ (r : Int) + v1 := by omega
        have hB2 : decide ((1000000000 : Int) ≤ (r : Int) + v1) = true := by simp; omega
        go_wp2_with fail
        go_quiet (fail)
        go_wp2_with fail
        go_quiet (fail)
        clear w8 w9 w5 w5b 
        go_wp2_with fail
        rw [E1.out]
        go_ret
        exact ⟨q - 1, _, rfl, HL.out.1, by omega, by first | rfl | (simp only [World.drewN_drewN]; rfl)⟩
    · by_cases hC : r * 1000000000 + u2 < q * v2
      · have hl := hless.out q r H.out (.inr hC)
        have HL := Lib.hid hl.2
        have hq1 := hl.1
        clear hl
        have hC' : (r : Int) * 1000000000 + u2 < (q : Int) * v2 := by
          have : ((q * v2 : Nat) : Int) = (q : Int) * v2 := by simp
          omega
        have x4 : 0 ≤ (v.length : Int) - 1 := by omega
        have x5 : (v.length : Int) - 1 < v.length := by omega
        have x6 : 0 ≤ (v.length : Int) - 2 := by omega
        have x7 : (v.length : Int) - 2 < v.length := by omega
        have x8 : 0 ≤ (j : Int) + v.length - 2 := by omega
        have x9 : (j : Int) + v.length - 2 < u.length := by omega
        have hr' : (r : Int) < 1000000000 := by omega
        have hA1 : decide ((1000000000 : Int) ≤ q) = false := by simp; omega
        have y6 : ((v.length : Int) - 2).toNat = v.length - 2 := by omega
        have y8 : ((j : Int) + v.length - 2).toNat = j + v.length - 2 := by omega
        have w10 : IntKind.i64.wrap ((v.length : Int) - 2) = v.length - 2 := wr64 (by omega) (by omega)
        have w11 : IntKind.i64.wrap ((j : Int) + v.length) = j + v.length := wr64 (by omega) (by omega)
        have w12 : IntKind.i64.wrap ((j : Int) + v.length - 2) = j + v.length - 2 := wr64 (by omega) (by omega)
        have w13 : IntKind.i64.wrap ((q : Int) * v2) = q * v2 := wr64 (by omega) (by omega)
        have w14 : IntKind.i64.wrap ((r : Int) * 1000000000) = r * 1000000000 := wr64 (by omega) (by omega)
        have w15 : IntKind.i64.wrap ((r : Int) * 1000000000 + u2) = r * 1000000000 + u2 := wr64 (by omega) (by omega)
        have e1 : (q : Int) - 1 = ((q - 1 : Nat) : Int) := by omega
        have E1 := Lib.hid e1
        clear e1
        have hB0 : r + v1 < 1000000000 ∨ ¬ r + v1 < 1000000000 := by omega
        have w8 : IntKind.i64.wrap ((q : Int) - 1) = q - 1 := wr64 (by omega) (by omega)
        have w9 : IntKind.i64.wrap ((r : Int) + v1) = r + v1 := wr64 (by omega) (by omega)
        have w5 : IntKind.i64.wrap ((v.length : Int) - 1) = v.length - 1 := wr64 (by omega) (by omega)
        have w5b : ((v.length : Int) - 1).toNat = v.length - 1 := by omega
        rcases hB0 with hB0 | hB0
        · have hB : (r : Int) + v1 < 1000000000 := by omega
          have hB2 : decide ((1000000000 : Int) ≤ (r : Int) + v1) = false := by simp; omega
          go_wp2_with fail
          go_quiet (fail)
          go_wp2_with fail
          go_quiet (fail)
          clear w8 w9 w5 w5b w10 w11 w12 w13 w14 w15 y6 y8
          go_wp2_with fail
          rw [E1.out]
          exact ⟨⟨q - 1, r + v1, _, rfl, by go_num, ⟨HL.out.2, HL.out.1, by omega, hB0⟩, by first | rfl | (simp only [World.drewN_drewN]; rfl)⟩, by simp [intOf]; omega⟩
        · have hB : (1000000000 : Int) ≤ (r : Int) + v1 := by omega
          have hB2 : decide ((1000000000 : Int) ≤ (r : Int) + v1) = true := by simp; omega
          go_wp2_with fail
          go_quiet (fail)
          go_wp2_with fail
          go_quiet (fail)
          clear w8 w9 w5 w5b w10 w11 w12 w13 w14 w15 y6 y8
          go_wp2_with fail
          rw [E1.out]
          go_ret
          exact ⟨q - 1, _, rfl, HL.out.1, by omega, by first | rfl | (simp only [World.drewN_drewN]; rfl)⟩
      · have hC' : ¬ (r : Int) * 1000000000 + u2 < (q : Int) * v2 := by
          have : ((q * v2 : Nat) : Int) = (q : Int) * v2 := by simp
          omega
        have hC2 : decide ((r : Int) * 1000000000 + u2 < (q : Int) * v2) = false := by simp; omega
        have x4 : 0 ≤ (v.length : Int) - 1 := by omega
        have x5 : (v.length : Int) - 1 < v.length := by omega
        have x6 : 0 ≤ (v.length : Int) - 2 := by omega
        have x7 : (v.length : Int) - 2 < v.length := by omega
        have x8 : 0 ≤ (j : Int) + v.length - 2 := by omega
        have x9 : (j : Int) + v.length - 2 < u.length := by omega
        have hr' : (r : Int) < 1000000000 := by omega
        have hA1 : decide ((1000000000 : Int) ≤ q) = false := by simp; omega
        have y6 : ((v.length : Int) - 2).toNat = v.length - 2 := by omega
        have y8 : ((j : Int) + v.length - 2).toNat = j + v.length - 2 := by omega
        have w10 : IntKind.i64.wrap ((v.length : Int) - 2) = v.length - 2 := wr64 (by omega) (by omega)
        have w11 : IntKind.i64.wrap ((j : Int) + v.length) = j + v.length := wr64 (by omega) (by omega)
        have w12 : IntKind.i64.wrap ((j : Int) + v.length - 2) = j + v.length - 2 := wr64 (by omega) (by omega)
        have w13 : IntKind.i64.wrap ((q : Int) * v2) = q * v2 := wr64 (by omega) (by omega)
        have w14 : IntKind.i64.wrap ((r : Int) * 1000000000) = r * 1000000000 := wr64 (by omega) (by omega)
        have w15 : IntKind.i64.wrap ((r : Int) * 1000000000 + u2) = r * 1000000000 + u2 := wr64 (by omega) (by omega)
        go_wp2_with fail
        go_quiet (fail)
        clear w10 w11 w12 w13 w14 w15 y6 y8
        go_wp2_with fail
        go_ret
        exact ⟨q, _, rfl, H.out.2.1, by omega, by first | rfl | (simp only [World.drewN_drewN]; rfl)⟩
end Go.Proofs.YtbnnccnicfddlaaGreatDoor
