/- integer.times: the walk. -/
import Derived.Test.YtbnnccnicfddlaaGreatDoorIntA
import Derived.OwnWalk
set_option linter.unusedSimpArgs false
set_option linter.unusedVariables false
namespace Go.Proofs.YtbnnccnicfddlaaGreatDoor
open Go.RowKit Kp

theorem int_info : (Tryz.prog.info? 3).map (fun i => (i.zero, i.size, i.bytes)) = some (some (.int .i64 0), 1, 8) := by kernel_rfl

theorem row_of_own {w : World} {base g cap n : Nat} {xs : List Value} {l : List Nat} (h : w.ownsRow base 3 1 (.slice (some ⟨g, 0, none⟩) n cap) n xs) (hn : l.length = n)
    (hx : ∀ j, j < l.length → xs[j]? = some (.int .i64 (fv l j))) : Row w g cap l := by
  obtain ⟨hl, h | ⟨g', cap', cur, e, hb, hh, h1, h2, h3, h4⟩⟩ := h
  · obtain ⟨h, _⟩ := h; cases h
  · injection e with e1 e2 e3
    injection e1 with e1
    injection e1 with e1
    subst e1 e3
    refine ⟨cur, hh, by omega, by omega, h2, fun j hj => ?_⟩
    have := hx j hj
    rw [← h4, List.getElem?_take, if_pos (by omega)] at this
    simpa using this
theorem own_of_row {w : World} {base g cap : Nat} {l : List Nat} (h : Row w g cap l) (hb : base ≤ g) :
    w.ownsRow base 3 1 (.slice (some ⟨g, 0, none⟩) l.length cap) l.length (l.map fun (d : Nat) => Value.int .i64 (d : Int)) := by
  obtain ⟨cur, hh, h1, h2, h3, hc⟩ := h
  refine ⟨by simp, .inr ⟨g, cap, cur, rfl, hb, hh, h2, h3, by omega, ?_⟩⟩
  apply List.ext_getElem?
  intro j
  rw [List.getElem?_take]
  by_cases hj : j < l.length
  · rw [if_pos (by omega), List.getElem?_map, List.getElem?_eq_getElem hj]
    have := hc j hj
    rw [fv_in hj] at this
    simpa using this
  · rw [if_neg (by omega), List.getElem?_map, List.getElem?_eq_none (by omega)]; rfl
theorem fv_zeros (n k : Nat) : fv (List.replicate n 0) k = 0 := by
  unfold fv
  rw [List.getD_eq_getElem?_getD, List.getElem?_replicate]
  split <;> rfl
theorem small_zeros (n : Nat) : Small (List.replicate n 0) := by
  intro d hd
  rw [List.eq_of_mem_replicate hd]; decide
theorem row_of_made {w : World} {base g n : Nat} (h : w.ownsRow base 3 1 (.slice (some ⟨g, 0, none⟩) n n) n (madeCells (Value.int .i64 0).cells (n * 1)).toList) : Row w g n (List.replicate n 0) := by
  refine row_of_own h (by simp) (fun j hj => ?_)
  simp at hj
  rw [fv_zeros]
  simp [madeCells, Value.cells, hj, Nat.mod_one]

theorem trimL_length (l : List Nat) : (trimL l).length ≤ l.length := by
  obtain ⟨m, hm⟩ := trimL_prefix l
  have := congrArg List.length hm
  simp at this; omega
theorem fv_trimL {l : List Nat} {j : Nat} (hj : j < (trimL l).length) : fv (trimL l) j = fv l j := by
  obtain ⟨m, hm⟩ := trimL_prefix l
  have hl := trimL_length l
  have : l[j]? = (trimL l)[j]? := by
    have e : l[j]? = (trimL l ++ List.replicate m 0)[j]? := by rw [← hm]
    rw [e, List.getElem?_append_left hj]
  unfold fv
  rw [List.getD_eq_getElem?_getD, List.getD_eq_getElem?_getD, this]
theorem Row.trimmed {w : World} {g cap : Nat} {l : List Nat} (h : Row w g cap l) : Row w g cap (trimL l) := by
  have hl := trimL_length l
  obtain ⟨cur, hh, h1, h2, h3, hc⟩ := h
  exact ⟨cur, hh, h1, by omega, h3, fun j hj => by rw [fv_trimL hj]; exact hc j (by omega)⟩

theorem trim_row {w : World} {g cap n : Nat} {l : List Nat} (h : Row w g cap l) (hn : l.length = n) :
    Calls Tryz.prog 98 #[.slice (some ⟨g, 0, none⟩) n cap] w fun e w' => e = .returned (.slice (some ⟨g, 0, none⟩) (trimL l).length cap) ∧ w = w' := by
  subst hn
  have h' := h
  obtain ⟨cur, hh, h1, h2, h3, hc⟩ := h
  exact trim_any w _ cap l h2 h3 (fun _ => ⟨g, 0, rfl, fun j hj => by rw [Nat.zero_add]; exact h'.cell hj⟩)

/-- what lies behind i rounds of the outer loop -/
def TimesRel (w1 : World) (g n : Nat) (a b : List Nat) (i : Nat) (out : List Nat) (w' : World) : Prop :=
  Row w' g n out ∧ out.length = n ∧ Small out ∧ (∀ k, i + b.length ≤ k → fv out k = 0) ∧ S (fv out) n = S (fv a) i * val b ∧ Only g w1 w'
def TimesLoop (w1 : World) (g n : Nat) (a b : List Nat) (i : Value) (w' : World) : Prop :=
  ∃ (k : Nat) (out : List Nat), k ≤ a.length ∧ i = .int .i64 k ∧ TimesRel w1 g n a b k out w'
def TimesIn (w0 : World) (g cap : Nat) (u v : List Nat) (j q : Nat) (c i : Value) (w' : World) : Prop :=
  ∃ (k cN : Nat) (u' : List Nat), k ≤ v.length + 1 ∧ i = .int .i64 k ∧ c = .int .i64 cN ∧ RestRel w0 g cap u v j q k cN u' w'

theorem times_row {w1 wo wr : World} {g n : Nat} {a b out out' : List Nat} {i c : Nat} (hn : n = a.length + b.length + 1) (hi : i < a.length) (ha : Small a) (hb : Small b) (h : TimesRel w1 g n a b i out wo)
    (hr : RestRel wo g n out b i (fv a i) (b.length + 1) c out' wr) : TimesRel w1 g n a b (i + 1) out' wr := by
  obtain ⟨hR, hl, hS, hz, he, hO⟩ := h
  obtain ⟨hR', hl', hS', hsame, he', hc, hO'⟩ := hr
  have hx : fv a i < B := fv_small ha i
  have hV : S (fv b) (b.length + 1) = val b := val_of_ge (by omega)
  have hO1 : S (sh (fv out) i) (b.length + 1) < B ^ b.length := by
    rw [S_succ]
    have : sh (fv out) i b.length = 0 := hz _ (by omega)
    rw [this, Nat.zero_mul, Nat.add_zero]
    exact S_lt (fun k _ => fv_small hS _)
  rw [hV, Nat.pow_succ] at he'
  have hc0 := times_carry he' hO1 (val_lt hb) hx
  subst hc0
  have ht := S_turn (f := fv out) (g := fv out') (m := n) (j := i) (n := b.length + 1) (by omega) (fun k hk => hsame k (.inl hk)) (fun k hk _ => hsame k (.inr hk))
  refine ⟨hR', by omega, hS', fun k hk => ?_, ?_, hO.trans hO'⟩
  · rw [hsame k (.inr (by omega))]; exact hz k (by omega)
  · rw [S_succ (fv a), Nat.add_mul, ← he]
    have e1 : S (sh (fv out') i) (b.length + 1) = S (sh (fv out) i) (b.length + 1) + fv a i * val b := by omega
    rw [e1, Nat.mul_add] at ht
    have e2 : B ^ i * (fv a i * val b) = fv a i * B ^ i * val b := by rw [← Nat.mul_assoc, Nat.mul_comm (B ^ i)]
    omega

/-- A slice of limbs of the call's own: it begins at the head of block g, which is new. -/
def OwnN (w0 w : World) (v : Value) (l : List Nat) : Prop :=
  ∃ g cap, v = .slice (some ⟨g, 0, none⟩) l.length cap ∧ w0.heap.size ≤ g ∧ Row w g cap l
def TimesPost (w : World) (a b : List Nat) (e : Ending) (w' : World) : Prop :=
  ∃ v l, e = .returned v ∧ OwnN w w' v l ∧ Canon l ∧ val l = val a * val b ∧ l.length ≤ a.length + b.length + 1 ∧ Below w.heap.size w w'

set_option maxRecDepth 100000 in
set_option maxHeartbeats 1600000 in
theorem times_any (w : World) (a b : List Nat) (va vb : Value) (ha : SlN w w.heap.size va a) (hb : SlN w w.heap.size vb b) (hsa : Small a) (hsb : Small b) (hla : a.length ≤ 1000000) (hlb : b.length ≤ 1000000) :
    Calls Tryz.prog 101 #[va, vb] w (TimesPost w a b) := by
  obtain ⟨A, ca, rfl, ha1, ha2, hac⟩ := id ha
  obtain ⟨A', cb, rfl, hb1, hb2, hbc⟩ := id hb
  unfold maxLen at ha2 hb2
  obtain ⟨i0, hi, hz0, hz1, hz2⟩ := info_parts int_info
  go_enter Tryz.func101, Tryz.ntmps101
  go_wp2_with (at_make; refine wpList_make_full _ rfl _ _ 97 rfl w.heap.size 3 i0 (.int .i64 0) 1 Tryz.underlying97 hi hz0 hz1 .i64 .i64 _ _ (a.length + b.length + 1) rfl rfl (by omega) (by omega) (by rw [hz2]; omega) (by unfold maxLen; omega) (Nat.le_refl _) ?_; intro w1 hown hgrow)
  have hrow := row_of_made hown
  have hbel : Below w.heap.size w w1 := (Below.refl _ w).grown hgrow (Nat.le_refl _) (by simp)
  have sa1 := ha.below hbel
  have sb1 := hb.below hbel
  have hstart : TimesRel w1 w.heap.size (a.length + b.length + 1) a b 0 (List.replicate (a.length + b.length + 1) 0) w1 :=
    ⟨hrow, by simp, small_zeros _, fun _ _ => fv_zeros _ _, by rw [S_eq_zero (fun k _ => fv_zeros _ k), S_zero', Nat.zero_mul], Only.refl _ _⟩
  clear hown hgrow hrow ha hb hi hz0 hz1 hz2 hac hbc
  go_loopw [20] (fun i wr => TimesLoop w1 w.heap.size (a.length + b.length + 1) a b i wr) (fun i _ => a.length - (intOf i).toNat)
  case atStart => exact ⟨0, _, by omega, rfl, hstart⟩
  case round =>
    obtain ⟨i, out, hi, rfl, hrel⟩ := hrel
    clear hstart
    obtain ⟨wo, rfl⟩ : ∃ wo : World, wo = wr := ⟨_, rfl⟩
    obtain ⟨hR, hl, hS, hz, he, hO⟩ := id hrel
    by_cases hlt : i < a.length
    · have sa := hO.sl sa1 (Nat.le_refl _)
      have sb := hO.sl sb1 (Nat.le_refl _)
      have hxb : fv a i < 1000000000 := fv_small hsa i
      have h0 : RestRel wo w.heap.size (a.length + b.length + 1) out b i (fv a i) 0 0 out wo := ⟨hR, rfl, hS, fun _ _ => rfl, by simp [S], by omega, Only.refl _ _⟩
      obtain ⟨_, _, e, _, _, hac⟩ := sa
      injection e with e1 e2 e3
      subst e1 e3
      obtain ⟨ba, oa, rfl, _, hcell⟩ := hac (by omega)
      have hc := hcell i hlt
      have H := Lib.hid hrel
      clear hcell hac hrel he hz hR hO sa1 sb1
      go_wp2_with fail
      go_loopw [8, 28] (fun c k wi => TimesIn wo w.heap.size (a.length + b.length + 1) out b i (fv a i) c k wi) (fun _ k _ => b.length + 1 - (intOf k).toNat)
      case atStart => exact ⟨0, 0, out, by omega, rfl, rfl, h0⟩
      case round =>
        obtain ⟨k, c, u', hk, rfl, rfl, hin⟩ := hrel
        clear h0
        obtain ⟨hR, hl', hS', hsame, heq, hc', hO⟩ := id hin
        by_cases hkl : k < b.length + 1
        · have hx := hR.cell (j := i + k) (by omega)
          have hfr := hR.frozen (i + k)
          have hub : fv u' (i + k) < 1000000000 := fv_small hS' (i + k)
          have hvb : fv b k < 1000000000 := fv_small hsb k
          obtain ⟨hp0, hp1⟩ := mul_bound (q := fv a i) (by omega) hvb
          have hsv := hO.sl sb (Nat.le_refl _)
          have w1 : IntKind.i64.wrap ((i : Int) + k) = i + k := wr64 (by omega) (by omega)
          have w1a : 0 ≤ (i : Int) + k := by omega
          have w1b : ((i : Int) + k).toNat = i + k := by omega
          have w1c : (i : Int) + k < a.length + b.length + 1 := by omega
          have w3 : IntKind.i64.wrap ((fv a i : Int) * (fv b k : Int)) = fv a i * fv b k := wr64 (by omega) (by omega)
          have w2 : IntKind.i64.wrap ((fv u' (i + k) : Int) + (fv a i : Int) * (fv b k : Int)) = fv u' (i + k) + fv a i * fv b k := wr64 (by omega) (by omega)
          have w4 : IntKind.i64.wrap ((fv u' (i + k) : Int) + (fv a i : Int) * (fv b k : Int) + c) = fv u' (i + k) + fv a i * fv b k + c := wr64 (by omega) (by omega)
          have HI := Lib.hid hin
          clear hin heq hsame hl' hS' hR hO
          go_wp2_with fail
          go_quiet ((go_at_call 113; exact Calls.quiet_of_same (limb_q _ w.heap.size _ b k hsv (by omega))))
          go_wp2
          have ep : ((fv a i : Int) * (fv b k : Int)) = ((fv a i * fv b k : Nat) : Int) := by simp
          rw [ep] at hp1 ⊢
          have e1 : ((fv u' (i + k) : Int) + ((fv a i * fv b k : Nat) : Int) + c) / 1000000000 = (((fv u' (i + k) + fv a i * fv b k + c) / 1000000000 : Nat) : Int) := by omega
          have e2 : ((fv u' (i + k) : Int) + ((fv a i * fv b k : Nat) : Int) + c) % 1000000000 = (((fv u' (i + k) + fv a i * fv b k + c) % 1000000000 : Nat) : Int) := by omega
          rw [e1, e2]
          exact ⟨⟨k + 1, _, _, by omega, by go_num, rfl, rest_next nq HI.out (by omega) (by omega) (by omega) (by omega)⟩, by simp [intOf]; omega⟩
        · obtain rfl : k = b.length + 1 := by omega
          have hnext := Lib.hid (times_row rfl hlt hsa hsb H.out hin)
          clear hin heq hsame hl' hS' hR hO
          go_wp2_with fail
          exact ⟨⟨i + 1, u', by omega, by go_num, hnext.out⟩, by simp [intOf]; omega⟩
    · obtain rfl : i = a.length := by omega
      have hfin : TimesPost w a b (.returned (.slice (some ⟨w.heap.size, 0, none⟩) (trimL out).length (a.length + b.length + 1))) wo := by
        refine ⟨_, trimL out, rfl, ⟨_, _, rfl, Nat.le_refl _, ?_⟩, trimL_canon hS, ?_, ?_, hbel.trans (hO.below (Nat.le_refl _))⟩
        · exact hR.trimmed
        · rw [val_trimL]; show S (fv out) out.length = S (fv a) a.length * val b; rw [hl, he]
        · exact Nat.le_trans (trimL_length _) (by omega)
      have HF := Lib.hid hfin
      have HT := Lib.hid (trim_row hR hl)
      clear hfin hrel he hz hR hO sa1 sb1 hl
      go_wp2_with (go_at_call 98; refine HT.out.mono ?_; rintro e w' ⟨rfl, rfl⟩)
      go_ret
      exact HF.out
end Go.Proofs.YtbnnccnicfddlaaGreatDoor
