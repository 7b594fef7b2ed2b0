/- integer.result, integer.Gcd: the walks. · integer.Gcd of long integers: the walk. · rational.nativeInt, gcd, digits: the walks. -/
import Derived.Test.YtbnnccnicfddlaaGreatDoorStr5
import Derived.Test.YtbnnccnicfddlaaGreatDoorInt10
import Derived.Test.YtbnnccnicfddlaaGreatDoorMathA
set_option linter.unusedSimpArgs false
set_option linter.unusedVariables false
namespace Go.Proofs.YtbnnccnicfddlaaGreatDoor
open Go.RowKit Go.Shelf Kp

/-- integer.result -/
def resT (l : List Nat) : List UInt8 × Int := if 300 < (own (wrL l)).length then ([], 4) else (wrL l, 0)
def ResPost (w : World) (r : List UInt8 × Int) (e : Ending) (w' : World) : Prop := e = .returned (.tuple #[.string (tx r.1), .int .i64 r.2]) ∧ Below w.heap.size w w'

theorem wrL_len {l : List Nat} (h : Small l) : (wrL l).length ≤ 9 * l.length + 1 := by
  unfold wrL
  split
  · simp
  · have := wrK_len h l.length; omega
theorem own_len (l : List UInt8) : (own l).length ≤ l.length := by unfold own Lib.trimPrefix; split <;> simp

theorem trimPrefix_own (s : List UInt8) (w : World) : Calls Tryz.prog 56 #[.string (tx s), .string ⟨#[45]⟩] w fun e w' => e = .returned (.string (tx (own s))) ∧ w' = w := by
  have := Tryz.strings_TrimPrefix (tx s) (tx [45]) w
  rw [tx_list, tx_list] at this
  exact this

set_option maxRecDepth 100000 in
set_option maxHeartbeats 1000000 in
theorem iresult_any (w : World) (l : List Nat) (v : Value) (ha : SlN w w.heap.size v l) (hs : Small l) (hlen : l.length ≤ 1000000) (ht : Pow10 w) :
    Calls Tryz.prog 82 #[.agg #[.bool false, v]] w (ResPost w (resT l)) := by
  obtain ⟨A, ca, rfl, ha1, ha2, hac⟩ := id ha
  clear hac ha1 ha2
  have hB0 : Below w.heap.size w (w.alloc (.cells #[.bool false, .slice A l.length ca] 147)) := (Below.refl _ _).alloc (Nat.le_refl _) _
  have ha' := ha.below hB0
  have ha'' : SlN (w.alloc (.cells #[.bool false, .slice A l.length ca] 147)) (w.alloc (.cells #[.bool false, .slice A l.length ca] 147)).heap.size (.slice A l.length ca) l := ha.new _
  have cw := Lib.hid (iwrite_any _ l _ ha'' hs hlen (ht.below hB0 (Nat.le_refl _)))
  have h1 := wrL_len hs
  have h2 := own_len (wrL l)
  have HB0 := Lib.hid hB0
  clear ha ha' ha'' hs ht hB0
  by_cases h300 : 300 < (own (wrL l)).length
  · have HR := Lib.hid (show resT l = ([], 4) by unfold resT; rw [if_pos h300])
    go_enter Tryz.func82, Tryz.ntmps82
    go_wp2_with (first | (go_at_call 106; refine cw.out.mono ?_; rintro e w1 ⟨rfl, hB1⟩) | (go_at_call 56; refine (trimPrefix_own _ _).mono ?_; rintro e w2 ⟨rfl, rfl⟩))
    go_ret2
    rw [HR.out]
    exact ⟨rfl, HB0.out.trans (hB1.mono HB0.out.size)⟩
  · have HR := Lib.hid (show resT l = (wrL l, 0) by unfold resT; rw [if_neg h300])
    go_enter Tryz.func82, Tryz.ntmps82
    go_wp2_with (first | (go_at_call 106; refine cw.out.mono ?_; rintro e w1 ⟨rfl, hB1⟩) | (go_at_call 56; refine (trimPrefix_own _ _).mono ?_; rintro e w2 ⟨rfl, rfl⟩))
    go_ret2
    rw [HR.out]
    exact ⟨rfl, HB0.out.trans (hB1.mono HB0.out.size)⟩

/-- integer.Gcd -/
noncomputable def gcdT (a b : List UInt8) : List UInt8 × Int :=
  if bothI a b = 0 then (if a.length ≤ 18 ∧ b.length ≤ 18 then (Lib.itoa (Nat.gcd (natOf (own a)) (natOf (own b)) : Nat), 0) else resT (limbsOf (Nat.gcd (natOf (own a)) (natOf (own b))))) else ([], bothI a b)

theorem bothI_ok {a b : List UInt8} (h : bothI a b = 0) : chkI a = 0 ∧ chkI b = 0 := by
  unfold bothI at h
  split at h
  · rename_i h1; exact ⟨h1, h⟩
  · rename_i h1; exact absurd h h1
theorem chkI_ok {a : List UInt8} (h : chkI a = 0) : intForm a = true ∧ (own a).length ≤ 300 := by
  unfold chkI at h
  split at h
  · rename_i h1
    split at h
    · omega
    · exact ⟨h1, by omega⟩
  · omega
theorem intForm_isD {a : List UInt8} (h : intForm a = true) : (own a).all isD = true := by
  unfold intForm at h
  simp only [Bool.and_eq_true] at h
  exact h.1.1
theorem natOf_lt {l : List UInt8} (h : l.all isD = true) : natOf l < 10 ^ l.length := by
  induction l with
  | nil => decide
  | cons b r ih =>
    simp only [List.all_cons, Bool.and_eq_true] at h
    have h1 := (dig_lt h.1).1
    have h2 := ih h.2
    rw [natOf_cons, List.length_cons, Nat.pow_succ]
    have : dig b * 10 ^ r.length ≤ 9 * 10 ^ r.length := Nat.mul_le_mul_right _ (by omega)
    omega
theorem num_abs (l : List UInt8) : (num l).natAbs = natOf (own l) := by unfold num; split <;> simp
theorem num_lt {l : List UInt8} (h : intForm l = true) (hl : l.length ≤ 18) : (num l).natAbs < 1000000000000000000 := by
  rw [num_abs]
  have h1 := natOf_lt (intForm_isD h)
  have h2 := own_len l
  have : 10 ^ (own l).length ≤ 10 ^ 18 := Nat.pow_le_pow_right (by decide) (by omega)
  exact Nat.lt_of_lt_of_le h1 this

def SgLoop (w : World) (g : Nat) (x y : Value) (wr : World) : Prop :=
  ∃ xi yi : Int, x = .int .i64 xi ∧ y = .int .i64 yi ∧ xi.natAbs < 1000000000000000000 ∧ yi.natAbs < 1000000000000000000 ∧ Nat.gcd xi.natAbs yi.natAbs = g ∧ Below w.heap.size w wr
theorem sg_next {w wr : World} {g n : Nat} {xi yi : Int} (h0 : ¬ yi = 0) (hy : yi.natAbs < 1000000000000000000) (hg : Nat.gcd xi.natAbs yi.natAbs = g) (hB : Below w.heap.size w wr) :
    SgLoop w g (.int .i64 yi) (.int .i64 (xi.tmod yi)) (wr.drewN n) ∧ (xi.tmod yi).natAbs < yi.natAbs := by
  have h1 : (xi.tmod yi).natAbs = xi.natAbs % yi.natAbs := Int.natAbs_tmod _ _
  have h2 : xi.natAbs % yi.natAbs < yi.natAbs := Nat.mod_lt _ (by omega)
  refine ⟨⟨yi, _, rfl, rfl, hy, by omega, ?_, below_drewN hB _⟩, by omega⟩
  rw [h1, Nat.gcd_comm, ← Nat.gcd_rec, Nat.gcd_comm]; exact hg

set_option maxRecDepth 100000 in
set_option maxHeartbeats 1000000 in
theorem gcd_bad (a b : List UInt8) (w : World) (ha : a.length ≤ 1000000) (hb : b.length ≤ 1000000) (h : bothI a b ≠ 0) :
    Calls Tryz.prog 57 #[.string (tx a), .string (tx b)] w (ResPost w (gcdT a b)) := by
  have HR := Lib.hid (show gcdT a b = ([], bothI a b) by unfold gcdT; rw [if_neg h])
  have h' : (bothI a b != 0) = true := by simpa using h
  clear h
  go_enter Tryz.func57, Tryz.ntmps57
  go_wp2_with (go_at_call 78; refine (both_any _ _ _ (by assumption) (by assumption)).mono ?_; rintro e w1 ⟨rfl, hB1⟩)
  go_ret2
  rw [HR.out]
  exact ⟨rfl, hB1⟩

set_option maxRecDepth 100000 in
set_option maxHeartbeats 1000000 in
theorem gcd_small (a b : List UInt8) (w : World) (ha : a.length ≤ 18) (hb : b.length ≤ 18) (h : bothI a b = 0) (ht : Pow10 w) :
    Calls Tryz.prog 57 #[.string (tx a), .string (tx b)] w (ResPost w (gcdT a b)) := by
  have HR := Lib.hid (show gcdT a b = (Lib.itoa (Nat.gcd (natOf (own a)) (natOf (own b)) : Nat), 0) by unfold gcdT; rw [if_pos h, if_pos ⟨ha, hb⟩])
  obtain ⟨ca, cb⟩ := bothI_ok h
  have fa := (chkI_ok ca).1
  have fb := (chkI_ok cb).1
  have h' : (bothI a b != 0) = false := by simpa using h
  have ha' : a.length ≤ 1000000 := by omega
  have hb' : b.length ≤ 1000000 := by omega
  have HA := Lib.hid (num_lt fa ha)
  have HB := Lib.hid (num_lt fb hb)
  have HT := Lib.hid ht
  clear h ca cb ht
  go_enter Tryz.func57, Tryz.ntmps57
  go_wp2_with (first | (go_at_call 78; refine (both_any _ _ _ (by assumption) (by assumption)).mono ?_; rintro e w1 ⟨rfl, hB1⟩) | (go_at_call 79; refine (small_short _ _ _ (by assumption) (by assumption) (by assumption) (by assumption)).mono ?_; rintro e w2 ⟨rfl, hB2⟩))
  have hB := hB1.trans (hB2.mono hB1.size)
  go_loopw [7, 8] (fun x y wr => SgLoop w (Nat.gcd (natOf (own a)) (natOf (own b))) x y wr) (fun _ y _ => (intOf y).natAbs)
  case atStart => exact ⟨_, _, rfl, rfl, HA.out, HB.out, by rw [num_abs, num_abs], hB⟩
  case round =>
    obtain ⟨xi, yi, rfl, rfl, hx, hy, hg, hBr⟩ := hrel
    by_cases h0 : yi = 0
    · subst h0
      rw [Int.natAbs_zero, Nat.gcd_zero_right] at hg
      obtain ⟨G, hG⟩ : ∃ G, Nat.gcd (natOf (own a)) (natOf (own b)) = G := ⟨_, rfl⟩
      rw [hG] at hg HR
      have hmx : max xi (-xi) = (G : Int) := by omega
      have hGb : G < 1000000000000000000 := by omega
      have ct := Lib.hid (itoa_any (G : Int) wr (by omega) (by omega) (HT.out.below hBr (Nat.le_refl _)))
      clear hg hG hx hy
      go_wp2_with (go_at_call 37; refine ct.out.mono ?_; rintro e w3 ⟨rfl, hB3⟩)
      go_ret2
      rw [HR.out]
      exact ⟨rfl, hBr.trans (hB3.mono hBr.size)⟩
    · have hn := Lib.hid (fun n => sg_next (n := n) h0 hy hg hBr)
      have h0' : (yi != 0) = true := by simpa using h0
      clear hg
      go_wp2
      go_quiet (fail)
      go_roundw
      case rel => exact ⟨_, _, _, _, _, _, _, _, (hn.out _).1, rfl⟩
      case measure => exact (hn.out 0).2
end Go.Proofs.YtbnnccnicfddlaaGreatDoor
namespace Go.Proofs.YtbnnccnicfddlaaGreatDoor
open Go.RowKit Go.Shelf Kp

/-- the number that a slice of limbs holds in a world -/
def valV (v : Value) (w : World) : Nat :=
  match v with
  | .slice (some a) n _ => S (fun j => match w.cell? ⟨a.block, a.off + j, none⟩ with | some (.int _ x) => x.toNat | _ => 0) n
  | _ => 0
theorem valV_eq {w : World} {b0 : Nat} {v : Value} {l : List Nat} (h : SlN w b0 v l) : valV v w = val l := by
  obtain ⟨A, cap, rfl, _, _, hc⟩ := h
  by_cases hl : 0 < l.length
  · obtain ⟨b, off, rfl, _, hcell⟩ := hc hl
    unfold valV val
    refine S_congr (fun j hj => ?_)
    simp only
    rw [hcell j hj]; simp
  · have : l = [] := by simpa using hl
    subst this
    cases A <;> rfl

structure LgLoop (w : World) (g : Nat) (x y : Value) (wr : World) : Prop where
  ex : ∃ a b, SlN wr wr.heap.size x a ∧ SlN wr wr.heap.size y b ∧ Canon a ∧ Canon b ∧ a.length ≤ 400000 ∧ b.length ≤ 400000 ∧ Nat.gcd (val a) (val b) = g
  low : Below w.heap.size w wr

theorem canon_len {r b : List Nat} (hr : Canon r) (hb : Canon b) (h : val r < val b) : r.length ≤ b.length := by
  rcases Nat.lt_or_ge b.length r.length with hlt | hge
  · have := val_lt_of_length hb.small hr.trim hlt; omega
  · exact hge

set_option maxRecDepth 100000 in
set_option maxHeartbeats 2000000 in
theorem gcd_long (a b : List UInt8) (w : World) (ha : a.length ≤ 1000000) (hb : b.length ≤ 1000000) (h18 : 18 < a.length ∨ 18 < b.length) (h : bothI a b = 0) (ht : Pow10 w) :
    Calls Tryz.prog 57 #[.string (tx a), .string (tx b)] w (ResPost w (gcdT a b)) := by
  have HR := Lib.hid (show gcdT a b = resT (limbsOf (Nat.gcd (natOf (own a)) (natOf (own b)))) by unfold gcdT; rw [if_pos h, if_neg (by omega)])
  obtain ⟨ca, cb⟩ := bothI_ok h
  obtain ⟨fa, la⟩ := chkI_ok ca
  obtain ⟨fb, lb⟩ := chkI_ok cb
  have da := intForm_isD fa
  have db := intForm_isD fb
  have h' : (bothI a b != 0) = false := by simpa using h
  have hfd : ∀ (p : Bool) (A : Option Addr) (n c : Nat) (W : World), (Instr.field 147 (.agg #[.bool p, .slice A n c]) 1).run Tryz.prog W = .ok (.slice A n c) W := fun _ _ _ _ _ => by kernel_rfl
  have HT := Lib.hid ht
  have HLA := Lib.hid la
  have HLB := Lib.hid lb
  clear h ca cb ht fa fb la lb
  go_enter Tryz.func57, Tryz.ntmps57
  go_wp2_with (first | (go_at_call 78; refine (both_any _ _ _ (by assumption) (by assumption)).mono ?_; rintro e w1 ⟨rfl, hB1⟩) | (go_at_call 79; refine (small_long _ _ _ (by assumption) (by assumption) (by assumption)).mono ?_; rintro e w2 ⟨rfl, hB2⟩) | (go_at_call 80; refine (iread_any _ _ (by assumption) (by assumption)).mono ?_; rintro e w3 ⟨v3, l3, rfl, ⟨g3, cap3, rfl, hg3, hr3⟩, hc3, hv3, hl3, hB3⟩; have HV3 := Lib.hid hv3; clear hv3))
  rename_i wa la ga capa hga hra hca hla hBa HVa _ _
  have hB := ((hB1.trans (hB2.mono hB1.size)).trans (hBa.mono (by have := hB1.size; have := hB2.size; omega))).trans (hB3.mono (by have := hB1.size; have := hB2.size; have := hBa.size; omega))
  have hsa : SlN w3 w3.heap.size (.slice (some ⟨ga, 0, none⟩) la.length capa) la := (hra.sl hra.lt).grow hB3
  have hsb : SlN w3 w3.heap.size (.slice (some ⟨g3, 0, none⟩) l3.length cap3) l3 := hr3.sl hr3.lt
  have hst : LgLoop w (Nat.gcd (natOf (own a)) (natOf (own b))) (.slice (some ⟨ga, 0, none⟩) la.length capa) (.slice (some ⟨g3, 0, none⟩) l3.length cap3) w3 :=
    ⟨⟨la, l3, hsa, hsb, hca, hc3, by have := HLA.out; omega, by have := HLB.out; omega, by rw [HVa.out, HV3.out]⟩, hB⟩
  have HST := Lib.hid hst
  clear hst hsa hsb hra hr3 hla hl3 hca hc3
  go_loopw [10, 11] (fun x y wr => LgLoop w (Nat.gcd (natOf (own a)) (natOf (own b))) x y wr) (fun _ y wr => valV y wr)
  case atStart => exact HST.out
  case round =>
    obtain ⟨⟨a', b', sx, sy, cx, cy, lx, ly, hg⟩, hBr⟩ := hrel
    have hvy := valV_eq sy
    obtain ⟨Ay, cpy, rfl, hy1, hy2, _⟩ := id sy
    obtain ⟨Ax, cpx, rfl, hx1, hx2, _⟩ := id sx
    unfold maxLen at hy2 hx2
    have HSX := Lib.hid sx
    have HSY := Lib.hid sy
    have HVY := Lib.hid hvy
    by_cases h0 : b' = []
    · subst h0
      have e1 : val ([] : List Nat) = 0 := rfl
      rw [e1, Nat.gcd_zero_right] at hg
      have hlim := limbsOf_eq cx hg
      rw [hlim] at HR
      have cr := Lib.hid (iresult_any wr a' _ sx cx.small (by omega) (HT.out.below hBr (Nat.le_refl _)))
      clear hg hlim sx sy hvy
      go_wp2_with (go_at_call 82; refine cr.out.mono ?_; rintro e w4 ⟨rfl, hB4⟩)
      go_ret2
      rw [HR.out]
      exact ⟨rfl, hBr.trans (hB4.mono hBr.size)⟩
    · have hpos : 0 < b'.length := List.length_pos_iff.2 h0
      have hpos' : decide (0 < (b'.length : Int)) = true := by rw [decide_eq_true_eq]; omega
      have cd := Lib.hid (divide_any wr a' b' _ _ sx sy cx cy lx h0)
      have HG := Lib.hid hg
      clear sx sy hvy hg
      go_wp2_with (go_at_call 81; refine cd.out.mono ?_; rintro e w4 ⟨vq, vr, ql, rl, rfl, hsq, hcq, hvq, hsr, hcr, hvr, hB4⟩)
      have hlt : val rl < val b' := by rw [hvr]; exact Nat.mod_lt _ (val_pos cy.trim h0)
      refine ⟨⟨⟨b', rl, HSY.out.grow hB4, hsr, cy, hcr, ly, ?_, ?_⟩, hBr.trans (hB4.mono hBr.size)⟩, ?_⟩
      · have := canon_len hcr cy hlt; omega
      · rw [hvr, Nat.gcd_comm, ← Nat.gcd_rec, Nat.gcd_comm]; exact HG.out
      · rw [valV_eq hsr, HVY.out]; exact hlt

theorem gcd_any (a b : List UInt8) (w : World) (ha : a.length ≤ 1000000) (hb : b.length ≤ 1000000) (ht : Pow10 w) :
    Calls Tryz.prog 57 #[.string (tx a), .string (tx b)] w (ResPost w (gcdT a b)) := by
  by_cases h : bothI a b = 0
  · by_cases h18 : a.length ≤ 18 ∧ b.length ≤ 18
    · exact gcd_small a b w h18.1 h18.2 h ht
    · exact gcd_long a b w ha hb (by omega) h ht
  · exact gcd_bad a b w ha hb h
end Go.Proofs.YtbnnccnicfddlaaGreatDoor
namespace Go.Proofs.YtbnnccnicfddlaaGreatDoor
open Go.RowKit Go.Shelf Kp

/-- the digits at the beginning of a text -/
def lead (s : List UInt8) : List UInt8 := s.takeWhile isD
/-- rational.nativeInt -/
def natI (s : List UInt8) : Option (Nat × List UInt8) :=
  if (lead s).length = 0 ∨ 8 < (lead s).length ∨ (1 < (lead s).length ∧ s.head? = some 48) then none else some (natOf (lead s), s.drop (lead s).length)

theorem take_lead {s : List UInt8} {k : Nat} (h : (s.take k).all isD = true) (hk : k ≤ s.length) : k ≤ (lead s).length := by
  induction s generalizing k with
  | nil => simp at hk; omega
  | cons b r ih =>
    cases k with
    | zero => omega
    | succ k =>
      simp only [List.take_succ_cons, List.all_cons, Bool.and_eq_true] at h
      have := ih h.2 (by simpa using hk)
      unfold lead at *
      rw [List.takeWhile_cons_of_pos h.1]
      simpa using this
theorem lead_all (s : List UInt8) : (lead s).all isD = true := by
  unfold lead
  induction s with
  | nil => rfl
  | cons b r ih =>
    by_cases h : isD b = true
    · rw [List.takeWhile_cons_of_pos h, List.all_cons, h, ih]; rfl
    · rw [List.takeWhile_cons_of_neg h]; rfl
theorem lead_take (s : List UInt8) : s.take (lead s).length = lead s := by
  have : lead s <+: s := List.takeWhile_prefix _
  obtain ⟨t, ht⟩ := this
  have h : (lead s ++ t).take (lead s).length = lead s := by simp
  rwa [ht] at h
theorem lead_stop {s : List UInt8} {k : Nat} (h : (s.take k).all isD = true) (hk : k < s.length) (hb : isD s[k] = false) : (lead s).length = k := by
  have h1 := take_lead h (by omega)
  rcases Nat.lt_or_ge k (lead s).length with h2 | h2
  · have h3 := lead_all s
    rw [List.all_eq_true] at h3
    have h4 : s[k] ∈ lead s := by
      have e : (lead s)[k] = s[k] := by
        have : (s.take (lead s).length)[k]'(by simp; omega) = s[k] := by simp
        rw [← this]; congr 1; rw [lead_take]
      rw [← e]; exact List.getElem_mem _
    rw [h3 _ h4] at hb; cases hb
  · omega
theorem lead_end {s : List UInt8} (h : (s.take s.length).all isD = true) : (lead s).length = s.length := by
  have h1 := take_lead h (Nat.le_refl _)
  have : (lead s).length ≤ s.length := (List.takeWhile_prefix _).length_le
  omega

/-- what holds behind k digits of nativeInt -/
def NatRel (s : List UInt8) (n i : Value) : Prop :=
  ∃ k : Nat, k ≤ s.length ∧ k ≤ 9 ∧ n = .int .i64 (natOf (s.take k) : Int) ∧ i = .int .i64 (k : Int) ∧ (s.take k).all isD = true
theorem natOf_take {s : List UInt8} {k : Nat} (hk : k < s.length) : natOf (s.take (k + 1)) = natOf (s.take k) * 10 + dig s[k] := by
  rw [List.take_succ_eq_append_getElem hk, natOf_snoc]
theorem all_take {s : List UInt8} {k : Nat} (hk : k < s.length) (h : (s.take k).all isD = true) (hb : isD s[k] = true) : (s.take (k + 1)).all isD = true := by
  rw [List.take_succ_eq_append_getElem hk, List.all_append, h]; simp [hb]
theorem isD_int (b : UInt8) : isD b = (decide (48 ≤ (b.toNat : Int)) && decide ((b.toNat : Int) ≤ 57)) := by
  have h : ∀ n : Fin 256, isD (UInt8.ofNat n.1) = (decide (48 ≤ ((UInt8.ofNat n.1).toNat : Int)) && decide (((UInt8.ofNat n.1).toNat : Int) ≤ 57)) := by decide +kernel
  have := h ⟨b.toNat, b.toNat_lt⟩
  simpa using this

/-- what nativeInt returns -/
def natV (s : List UInt8) : Value := match natI s with | none => .tuple #[.int .i64 0, .string ⟨#[]⟩, .bool false] | some (n, r) => .tuple #[.int .i64 n, .string (tx r), .bool true]
/-- what it returns behind k digits -/
theorem natV_none {s : List UInt8} {k : Nat} (h : (k ≤ 8 ∧ (lead s).length = k) ∨ (k = 9 ∧ 8 < (lead s).length)) (hk : k = 0 ∨ 8 < k ∨ (1 < k ∧ s.head? = some 48)) : natV s = .tuple #[.int .i64 0, .string ⟨#[]⟩, .bool false] := by
  unfold natV natI
  rw [if_pos]
  rcases h with ⟨h1, h2⟩ | ⟨h1, h2⟩
  · rw [h2]; omega
  · exact .inr (.inl h2)
theorem natV_some {s : List UInt8} {k : Nat} (h : (k ≤ 8 ∧ (lead s).length = k) ∨ (k = 9 ∧ 8 < (lead s).length)) (hk : ¬ (k = 0 ∨ 8 < k ∨ (1 < k ∧ s.head? = some 48))) : natV s = .tuple #[.int .i64 (natOf (s.take k)), .string (tx (s.drop k)), .bool true] := by
  unfold natV natI
  rcases h with ⟨h1, h2⟩ | ⟨h1, h2⟩
  · rw [if_neg (by rw [h2]; exact hk), ← lead_take s, h2]
    simp
  · omega

theorem head48 {s : List UInt8} {h : 0 < (tx s).size} (h48 : (((tx s)[0]'h).toNat : Int) = 48) : s.head? = some 48 := by
  cases s with
  | nil => simp [tx_size] at h
  | cons b r => simp only [List.head?_cons]; rw [u8_48 (c := b) h48]
theorem head48' {s : List UInt8} {h : 0 < (tx s).size} (h48 : ¬ (((tx s)[0]'h).toNat : Int) = 48) : ¬ s.head? = some 48 := by
  cases s with
  | nil => simp [tx_size] at h
  | cons b r =>
    simp only [List.head?_cons, Option.some.injEq]
    intro e; subst e; exact h48 rfl

theorem tx_drop (s : List UInt8) (k : Nat) : (tx s).extract k s.length = tx (s.drop k) := by
  unfold tx
  rw [Lib.extract_eq]
  congr 2
  rw [List.take_of_length_le]; simp

set_option maxRecDepth 100000 in
set_option maxHeartbeats 2000000 in
theorem rnative_any (s : List UInt8) (w : World) (hs : s.length ≤ 1000000) :
    Calls Tryz.prog 75 #[.string (tx s)] w fun e w' => e = .returned (natV s) ∧ Below w.heap.size w w' := by
  go_enter Tryz.func75, Tryz.ntmps75
  go_wp2
  go_loop [5, 6] (fun n i => NatRel s n i) (fun _ i => ((10 : Int) - intOf i).toNat)
  case atStart => exact ⟨0, by omega, by omega, rfl, rfl, rfl⟩
  case round =>
    obtain ⟨k, hk, hk9, rfl, rfl, hall⟩ := hrel
    by_cases hgo : k < s.length ∧ k ≤ 8 ∧ ∃ h : k < s.length, isD (s[k]'h) = true
    · obtain ⟨hlt, hk8, _, hd⟩ := hgo
      have hb : k < (tx s).size := by rw [tx_size]; exact hlt
      have hx : (tx s)[k]'hb = s[k] := rfl
      have hdl := dig_lt hd
      have d1 : 48 ≤ (((tx s)[k]'hb).toNat : Int) := by rw [hx]; omega
      have d2 : (((tx s)[k]'hb).toNat : Int) ≤ 57 := by rw [hx]; omega
      have d3 : ((((tx s)[k]'hb).toNat : Int) - 48) % 256 = (dig s[k] : Int) := by rw [hx]; unfold dig; omega
      have hnb := natOf_lt hall
      have hnb2 : natOf (s.take k) < 1000000000 := Nat.lt_of_lt_of_le hnb (show 10 ^ (s.take k).length ≤ 10 ^ 9 from Nat.pow_le_pow_right (by decide) (by rw [List.length_take]; omega))
      have hnx : NatRel s (.int .i64 (10 * (natOf (s.take k) : Int) + ((((tx s)[k]'hb).toNat : Int) - 48))) (.int .i64 ((k : Int) + 1)) := ⟨k + 1, by omega, by omega, by rw [natOf_take hlt, hx]; congr 1; unfold dig; omega, by simp, all_take hlt hall hd⟩
      have HNX := Lib.hid hnx
      have hd10 : dig s[k] < 10 := hdl.1
      clear hnx hnb hdl hx hall hd
      go_wp2
      exact ⟨HNX.out, by simp [intOf]; omega⟩
    · have hL : (k ≤ 8 ∧ (lead s).length = k) ∨ (k = 9 ∧ 8 < (lead s).length) := by
        by_cases h9 : k = 9
        · exact .inr ⟨h9, by have := take_lead hall hk; omega⟩
        · refine .inl ⟨by omega, ?_⟩
          by_cases hlt : k < s.length
          · refine lead_stop hall hlt ?_
            cases hd : isD s[k] with
            | false => rfl
            | true => exact absurd ⟨hlt, by omega, hlt, hd⟩ hgo
          · have e : k = s.length := by omega
            rw [e] at hall; rw [e]; exact lead_end hall
      have hstop : k < s.length → k ≤ 8 → ∃ h : k < s.length, isD (s[k]'h) = false := fun hlt h8 => ⟨hlt, by
        cases hd : isD s[k] with
        | false => rfl
        | true => exact absurd ⟨hlt, h8, hlt, hd⟩ hgo⟩
      have HL := Lib.hid hL
      have HALL := Lib.hid hall
      clear hgo hL hall
      -- why the loop ends
      have hwhy : (¬ k < s.length) ∨ (k = 9 ∧ k < s.length) ∨ (k ≤ 8 ∧ ∃ h : k < (tx s).size, (((tx s)[k]'h).toNat : Int) < 48) ∨ (k ≤ 8 ∧ ∃ h : k < (tx s).size, 57 < (((tx s)[k]'h).toNat : Int)) := by
        by_cases h1 : k < s.length
        · by_cases h2 : k ≤ 8
          · obtain ⟨_, hdb⟩ := hstop h1 h2
            have h1' : k < (tx s).size := by rw [tx_size]; exact h1
            rw [isD_int] at hdb
            simp only [Bool.and_eq_false_iff, decide_eq_false_iff_not] at hdb
            rcases hdb with h | h
            · exact .inr (.inr (.inl ⟨h2, h1', by show ((s[k]).toNat : Int) < 48; omega⟩))
            · exact .inr (.inr (.inr ⟨h2, h1', by show 57 < ((s[k]).toNat : Int); omega⟩))
          · exact .inr (.inl ⟨by omega, h1⟩)
        · exact .inl h1
      clear hstop
      rcases hwhy with hw | ⟨hw1, hw2⟩ | ⟨hw1, hw2, hw3⟩ | ⟨hw1, hw2, hw3⟩
      · skip
        go_wp2
        all_goals first
          | (have hr : k = 0 ∨ 8 < k ∨ (1 < k ∧ s.head? = some 48) := by
               first
                 | omega
                 | (rename_i h; simp only [beq_iff_eq] at h; omega)
                 | (rename_i h; rcases h with (h | h) | h
                    · simp only [beq_iff_eq] at h; omega
                    · omega
                    · exact .inr (.inr ⟨by omega, head48 (by simpa using h)⟩))
                 | (rename_i h _; rcases h with (h | h) | h
                    · simp only [beq_iff_eq] at h; omega
                    · omega
                    · exact .inr (.inr ⟨by omega, head48 (by simpa using h)⟩))
                 | (rename_i h _ _; simp only [beq_iff_eq] at h; omega)
                 | (rename_i h _; simp only [beq_iff_eq] at h; omega)
                 | (rename_i h _ _ _; simp only [beq_iff_eq] at h; omega)
                 | (rename_i h _ _ _ _; simp only [beq_iff_eq] at h; omega)
             exact bodyPost_ret (v := natV s) (by rw [natV_none HL.out hr]; simp [results, Tryz.results75, go_sem]) rfl ⟨rfl, Below.refl _ _⟩)
          | (have hr : ¬ (k = 0 ∨ 8 < k ∨ (1 < k ∧ s.head? = some 48)) := by
               first
                 | omega
                 | (rename_i h _ _; have h48 := head48' (s := s) (by simpa using h.2); rintro (h1 | h1 | ⟨_, h1⟩) <;> first | omega | exact h48 h1)
             go_quiet (fail)
             go_wp2
             exact bodyPost_ret (v := natV s) (by rw [natV_some HL.out hr]; simp [tx_drop, results, Tryz.results75, go_sem]) rfl ⟨rfl, below_drewN (Below.refl _ _) _⟩)
      · have hw3 : 8 < (k : Int) := by omega
        clear hw1
        go_wp2
        all_goals first
          | (have hr : k = 0 ∨ 8 < k ∨ (1 < k ∧ s.head? = some 48) := by
               first
                 | omega
                 | (rename_i h; simp only [beq_iff_eq] at h; omega)
                 | (rename_i h; rcases h with (h | h) | h
                    · simp only [beq_iff_eq] at h; omega
                    · omega
                    · exact .inr (.inr ⟨by omega, head48 (by simpa using h)⟩))
                 | (rename_i h _; rcases h with (h | h) | h
                    · simp only [beq_iff_eq] at h; omega
                    · omega
                    · exact .inr (.inr ⟨by omega, head48 (by simpa using h)⟩))
                 | (rename_i h _ _; simp only [beq_iff_eq] at h; omega)
                 | (rename_i h _; simp only [beq_iff_eq] at h; omega)
                 | (rename_i h _ _ _; simp only [beq_iff_eq] at h; omega)
                 | (rename_i h _ _ _ _; simp only [beq_iff_eq] at h; omega)
             exact bodyPost_ret (v := natV s) (by rw [natV_none HL.out hr]; simp [results, Tryz.results75, go_sem]) rfl ⟨rfl, Below.refl _ _⟩)
          | (have hr : ¬ (k = 0 ∨ 8 < k ∨ (1 < k ∧ s.head? = some 48)) := by
               first
                 | omega
                 | (rename_i h _ _; have h48 := head48' (s := s) (by simpa using h.2); rintro (h1 | h1 | ⟨_, h1⟩) <;> first | omega | exact h48 h1)
             go_quiet (fail)
             go_wp2
             exact bodyPost_ret (v := natV s) (by rw [natV_some HL.out hr]; simp [tx_drop, results, Tryz.results75, go_sem]) rfl ⟨rfl, below_drewN (Below.refl _ _) _⟩)
      · have hw4 : k < s.length := by rw [tx_size] at hw2; exact hw2
        go_wp2
        all_goals first
          | (have hr : k = 0 ∨ 8 < k ∨ (1 < k ∧ s.head? = some 48) := by
               first
                 | omega
                 | (rename_i h; simp only [beq_iff_eq] at h; omega)
                 | (rename_i h; rcases h with (h | h) | h
                    · simp only [beq_iff_eq] at h; omega
                    · omega
                    · exact .inr (.inr ⟨by omega, head48 (by simpa using h)⟩))
                 | (rename_i h _; rcases h with (h | h) | h
                    · simp only [beq_iff_eq] at h; omega
                    · omega
                    · exact .inr (.inr ⟨by omega, head48 (by simpa using h)⟩))
                 | (rename_i h _ _; simp only [beq_iff_eq] at h; omega)
                 | (rename_i h _; simp only [beq_iff_eq] at h; omega)
                 | (rename_i h _ _ _; simp only [beq_iff_eq] at h; omega)
                 | (rename_i h _ _ _ _; simp only [beq_iff_eq] at h; omega)
             exact bodyPost_ret (v := natV s) (by rw [natV_none HL.out hr]; simp [results, Tryz.results75, go_sem]) rfl ⟨rfl, Below.refl _ _⟩)
          | (have hr : ¬ (k = 0 ∨ 8 < k ∨ (1 < k ∧ s.head? = some 48)) := by
               first
                 | omega
                 | (rename_i h _ _; have h48 := head48' (s := s) (by simpa using h.2); rintro (h1 | h1 | ⟨_, h1⟩) <;> first | omega | exact h48 h1)
             go_quiet (fail)
             go_wp2
             exact bodyPost_ret (v := natV s) (by rw [natV_some HL.out hr]; simp [tx_drop, results, Tryz.results75, go_sem]) rfl ⟨rfl, below_drewN (Below.refl _ _) _⟩)
      · have hw4 : k < s.length := by rw [tx_size] at hw2; exact hw2
        go_wp2
        all_goals first
          | (have hr : k = 0 ∨ 8 < k ∨ (1 < k ∧ s.head? = some 48) := by
               first
                 | omega
                 | (rename_i h; simp only [beq_iff_eq] at h; omega)
                 | (rename_i h; rcases h with (h | h) | h
                    · simp only [beq_iff_eq] at h; omega
                    · omega
                    · exact .inr (.inr ⟨by omega, head48 (by simpa using h)⟩))
                 | (rename_i h _; rcases h with (h | h) | h
                    · simp only [beq_iff_eq] at h; omega
                    · omega
                    · exact .inr (.inr ⟨by omega, head48 (by simpa using h)⟩))
                 | (rename_i h _ _; simp only [beq_iff_eq] at h; omega)
                 | (rename_i h _; simp only [beq_iff_eq] at h; omega)
                 | (rename_i h _ _ _; simp only [beq_iff_eq] at h; omega)
                 | (rename_i h _ _ _ _; simp only [beq_iff_eq] at h; omega)
             exact bodyPost_ret (v := natV s) (by rw [natV_none HL.out hr]; simp [results, Tryz.results75, go_sem]) rfl ⟨rfl, Below.refl _ _⟩)
          | (have hr : ¬ (k = 0 ∨ 8 < k ∨ (1 < k ∧ s.head? = some 48)) := by
               first
                 | omega
                 | (rename_i h _ _; have h48 := head48' (s := s) (by simpa using h.2); rintro (h1 | h1 | ⟨_, h1⟩) <;> first | omega | exact h48 h1)
             go_quiet (fail)
             go_wp2
             exact bodyPost_ret (v := natV s) (by rw [natV_some HL.out hr]; simp [tx_drop, results, Tryz.results75, go_sem]) rfl ⟨rfl, below_drewN (Below.refl _ _) _⟩)
end Go.Proofs.YtbnnccnicfddlaaGreatDoor
