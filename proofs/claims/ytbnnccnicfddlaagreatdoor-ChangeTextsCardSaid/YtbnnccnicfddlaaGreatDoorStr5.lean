/- integer.write, integer.result: the walks. -/
import Derived.Test.YtbnnccnicfddlaaGreatDoorStr3
import Derived.Test.YtbnnccnicfddlaaGreatDoorBldA
set_option linter.unusedSimpArgs false
set_option linter.unusedVariables false
namespace Go.Proofs.YtbnnccnicfddlaaGreatDoor
open Go.RowKit Go.Shelf Kp
attribute [local go_sem] Oper.semAt_some

abbrev Pow10 (w : World) : Prop := Lib.TabIs Tryz.prog w "internal/strconv.uint64pow10" .u64 Lib.pow10Tab
theorem Pow10.below {w w' : World} (h : Pow10 w) {B0 : Nat} (hb : Below B0 w w') (hB : w.heap.size ≤ B0) : Pow10 w' := var_below h hb hB

theorem keeps_below {W W' : World} (h : Below W.heap.size W W') : KeepsOthers W W' := ⟨h.size, fun k o hk _ => (h.block k (Array.getElem?_eq_some_iff.1 hk).1).trans hk⟩
theorem itoa_any (n : Int) (w : World) (h0 : -9223372036854775808 ≤ n) (h1 : n ≤ 9223372036854775807) (ht : Pow10 w) :
    Calls Tryz.prog 37 #[.int .i64 n] w fun e w' => e = .returned (.string (tx (Lib.itoa n))) ∧ Below w.heap.size w w' :=
  (Tryz.strconv_Itoa n h0 h1 w ht).mono fun _ _ ⟨e, k, os, hw⟩ => ⟨e, by rw [hw]; exact ⟨rfl, rfl, rfl, by simp [Sort.grow, World.drewN], fun b hb => by simp [Sort.grow, World.drewN, Array.getElem?_append, hb]⟩⟩

theorem nDigits_le (n k : Nat) (hk : 1 ≤ k) (h : n < 10 ^ k) : Lib.nDigits n ≤ k := by
  induction k generalizing n with
  | zero => omega
  | succ k ih =>
    by_cases h10 : n < 10
    · rw [Lib.nDigits_small h10]; omega
    · rw [Lib.nDigits, dif_neg h10]
      have : n / 10 < 10 ^ k := by rw [Nat.div_lt_iff_lt_mul (by decide)]; rw [Nat.pow_succ] at h; exact h
      have hk1 : 1 ≤ k := by
        rcases Nat.eq_zero_or_pos k with h0 | h0
        · subst h0; simp at this; omega
        · exact h0
      have := ih (n / 10) hk1 this
      omega
theorem itoa_short (n : Nat) (h : n < 1000000000) : (Lib.itoa (n : Int)).length ≤ 9 := by
  unfold Lib.itoa
  rw [if_neg (by omega), Int.toNat_natCast, Lib.decDigits_length]
  exact nDigits_le n 9 (by decide) h

theorem itoa_ne (n : Int) : Lib.itoa n ≠ [] := by
  unfold Lib.itoa
  split
  · simp
  · intro h
    have := congrArg List.length h
    rw [Lib.decDigits_length, Lib.nDigits] at this
    split at this <;> simp at this
/-- one limb as written -/
def padI (first : Bool) (n : Nat) : List UInt8 := if first then Lib.itoa n else Lib.repeatL [48] (9 - (Lib.itoa n).length) ++ Lib.itoa n
/-- the first k limbs, from the last one on -/
def wrK (l : List Nat) : Nat → List UInt8
  | 0 => []
  | k + 1 => wrK l k ++ padI (k == 0) (fv l (l.length - 1 - k))
/-- the text of limbs -/
def wrL (l : List Nat) : List UInt8 := if l = [] then [48] else wrK l l.length
theorem repeat_len (c : Nat) : (Lib.repeatL [48] c).length = c := by
  induction c with
  | zero => rfl
  | succ c ih => simp [Lib.repeatL, ih]
theorem padI_len {b : Bool} {n : Nat} (h : n < 1000000000) : (padI b n).length ≤ 9 := by
  have := itoa_short n h
  unfold padI
  split
  · exact this
  · simp [repeat_len]; omega
theorem wrK_len {l : List Nat} (h : Small l) (k : Nat) : (wrK l k).length ≤ 9 * k := by
  induction k with
  | zero => simp [wrK]
  | succ k ih =>
    have := padI_len (b := k == 0) (fv_small h (l.length - 1 - k))
    simp [wrK]; omega
theorem wrK_ne {l : List Nat} {k : Nat} (hk : 0 < k) : wrK l k ≠ [] := by
  cases k with
  | zero => omega
  | succ k =>
    intro h
    simp [wrK, padI] at h
    obtain ⟨_, h⟩ := h
    split at h
    · exact itoa_ne _ h
    · simp at h; exact itoa_ne _ h.2

theorem byteCells_app (a b : List UInt8) : Lib.byteCells (a ++ b) = Lib.byteCells a ++ Lib.byteCells b := by simp [Lib.byteCells]
theorem ownsRow_stays {w w' : World} {n0 B n : Nat} {v : Value} {xs : List Value} (h : w.ownsRow B 5 1 v n xs) (hs : Stays n0 w w') : w'.ownsRow B 5 1 v n xs := by
  obtain ⟨hl, h | ⟨g, cap, cur, e, hb, hh, r⟩⟩ := h
  · exact ⟨hl, .inl h⟩
  · exact ⟨hl, .inr ⟨g, cap, cur, e, hb, hs.cells _ _ _ _ hh, r⟩⟩
theorem Bd.stays {B b n0 : Nat} {T : TypeId} {p : Value} {rest bs : List Value} {w w' : World} (h : Bd B b T p rest bs w) (hs : Stays n0 w w') : Bd B b T p rest bs w' := by
  obtain ⟨hB, v, hb, hown, hne⟩ := h
  exact ⟨hB, v, hs.cells _ _ _ _ hb, ownsRow_stays hown hs, hne⟩
theorem Bd.below {B b : Nat} {T : TypeId} {p : Value} {rest bs : List Value} {w w' : World} (h : Bd B b T p rest bs w) (hs : Below w.heap.size w w') : Bd B b T p rest bs w' :=
  h.stays (Stays.of_below hs (Nat.le_refl _))
theorem Bx2.bd {B b c : Nat} {t : TypeId} {u v : Value} {w w' : World} (h : Bx2 w c t u v) (hk : BdKeep B b w w') (hc : c ≠ b) (ht : t ≠ 5) : Bx2 w' c t u v :=
  hk.kept c _ h (fun e => hc (by cases e; rfl)) (fun cs fz e => ht (by cases e; rfl))
theorem Bx.bd {B b c : Nat} {t : TypeId} {v : Value} {w w' : World} (h : Bx w c t v) (hk : BdKeep B b w w') (hc : c ≠ b) (ht : t ≠ 5) : Bx w' c t v :=
  hk.kept c _ h (fun e => hc (by cases e; rfl)) (fun cs fz e => ht (by cases e; rfl))

/-- what holds behind k rounds of write -/
structure WrI (w : World) (l : List Nat) (A : Option Addr) (ca : Nat) (k : Nat) (W : World) : Prop where
  x : Bx2 W w.heap.size 147 (.bool false) (.slice A l.length ca)
  bd : ∃ p, selfP (w.heap.size + 1) p ∧ Bd w.heap.size (w.heap.size + 1) 63 p [] (Lib.byteCells (wrK l k)) W
  it : Bx W (w.heap.size + 2) 97 (.slice A l.length ca)
  low : Below w.heap.size w W
theorem WrI.stays {w : World} {l : List Nat} {A : Option Addr} {ca k n0 : Nat} {W W' : World} (h : WrI w l A ca k W) (hs : Stays n0 W W') (hn : w.heap.size ≤ n0) : WrI w l A ca k W' := by
  obtain ⟨p, hp, hb⟩ := h.bd
  exact ⟨h.x.stays hs, ⟨p, hp, hb.stays hs⟩, h.it.stays hs, h.low.trans (hs.below.mono hn)⟩
theorem WrI.sl {w : World} {l : List Nat} {A : Option Addr} {ca k : Nat} {W : World} (h : WrI w l A ca k W) (ha : SlN w w.heap.size (.slice A l.length ca) l) : SlN W w.heap.size (.slice A l.length ca) l := ha.below h.low
/-- a round's writes: from W2 over W3 (Itoa), W4 (Repeat) to W5, W6 -/
theorem wr_next {w W2 W6 : World} {l : List Nat} {A : Option Addr} {ca k : Nat} (h : WrI w l A ca k W2) (hk : BdKeep w.heap.size (w.heap.size + 1) W2 W6)
    (hb : Bd w.heap.size (w.heap.size + 1) 63 (slf (w.heap.size + 1)) [] (Lib.byteCells (wrK l (k + 1))) W6) :
    KeepsOthers W2 W6 ∧ WrI w l A ca (k + 1) W6 := by
  obtain ⟨p, hp, hB, v, hb0, _⟩ := h.bd
  exact ⟨hk.others hb0, h.x.bd hk (by omega) (by decide), ⟨_, .inr rfl, hb⟩, h.it.bd hk (by omega) (by decide), h.low.trans hk.low⟩
theorem BdKeep.of_below {B b : Nat} {w w' : World} (h : Below w.heap.size w w') (hB : B ≤ w.heap.size) : BdKeep B b w w' :=
  ⟨h.mono hB, (Lib.OthersKept.refl _ _ _).below h⟩

def WrPost (w : World) (l : List Nat) (e : Ending) (w' : World) : Prop := e = .returned (.string (tx (wrL l))) ∧ Below w.heap.size w w'

set_option maxRecDepth 100000 in
set_option maxHeartbeats 400000 in
theorem iwrite_nil (w : World) (A : Option Addr) (ca : Nat) : Calls Tryz.prog 106 #[.agg #[.bool false, .slice A 0 ca]] w (WrPost w []) := by
  go_enter Tryz.func106, Tryz.ntmps106
  go_wp2
  go_ret
  exact ⟨rfl, (Below.refl _ _).alloc (Nat.le_refl _) _⟩

set_option maxRecDepth 100000 in
set_option maxHeartbeats 2000000 in
theorem iwrite_any (w : World) (l : List Nat) (v : Value) (ha : SlN w w.heap.size v l) (hs : Small l) (hlen : l.length ≤ 1000000) (ht : Pow10 w) :
    Calls Tryz.prog 106 #[.agg #[.bool false, v]] w (WrPost w l) := by
  obtain ⟨A, ca, rfl, ha1, ha2, hac⟩ := id ha
  clear hac
  unfold maxLen at ha2
  by_cases hne : l = []
  · subst hne; exact iwrite_nil w A ca
  have hpos : 0 < l.length := List.length_pos_iff.2 hne
  have HNE := Lib.hid hne
  have HT := Lib.hid ht
  have HS := Lib.hid hs
  clear hne ht hs
  have hl0 : ((l.length : Int) == 0) = false := by rw [beq_eq_false_iff_ne]; omega
  refine (callsIn_wide (n := 9)).1 (callsIn_of_wp_marks Tryz.func106 rfl trivial ?_)
  simp only [Tryz.ntmps106, List.size_toArray, List.length_cons, List.length_nil, Nat.reduceAdd, Nat.reduceSub, Array.replicate_succ, Array.replicate_zero, List.push_toArray, List.append_toArray, List.nil_append, List.cons_append]
  gi_wp2_with (refine ⟨trivial, ?_⟩; gi_at_call 102; refine (callsIn_wide.2 (backward_any _ _ _ _)).mono ?_; rintro e w' ⟨rfl, rfl⟩)
  refine wpIn_rangeAt (gf := 114) (lb := #[.pointer (some ⟨w.heap.size + 2, 0, none⟩)]) rfl (enters_of Tryz.func114 (by kernel_rfl) rfl)
    (backward1_seq (w.heap.size + 2) A l.length ca (fun j x => x = fv l j) (by omega)) (fun k x ⟨_, _, e⟩ => by rw [e]; rfl)
    (WrI w l A ca) (fun _ _ _ => False) (fun k W W' h hs => h.stays hs (by simp; omega)) (fun c k W W' h hs => h) (fun k W h => backM_of h.it (h.sl ha)) ?start ?round ?done ?stop
  case start =>
    have hB := below3 w (.cells #[.bool false, .slice A l.length ca] 147) (.cells #[.pointer none, .slice none 0 0] 63) (.cells #[.slice A l.length ca] 97)
    refine ⟨((Bx2.at_ rfl).alloc _).alloc _, ⟨_, .inl rfl, by omega, .slice none 0 0, ?_, ⟨rfl, .inl ⟨rfl, rfl⟩⟩, by simp [Value.ownBlock]⟩, Bx.at_ (by simp), hB⟩
    exact heap3_1 _ _ _ _
  case round =>
    intro lp k x W K hk hx hi hK
    obtain ⟨v, rfl, rfl⟩ := hx
    have HK := Lib.hid hK
    clear hK
    gi_wp2
    refine HK.out _ (fun W2 hi2 _ => ?_)
    clear HK hi
    have hsz := hi2.low.size
    have hfv : fv l (l.length - 1 - k) < 1000000000 := fv_small HS.out _
    have hshort := itoa_short _ hfv
    have hwl := wrK_len HS.out k
    have hci := Lib.hid (itoa_any (fv l (l.length - 1 - k)) W2 (by omega) (by omega) (HT.out.below hi2.low (Nat.le_refl _)))
    have HI := Lib.hid hi2
    clear hi2
    obtain ⟨n, hn⟩ : ∃ n, fv l (l.length - 1 - k) = n := ⟨_, rfl⟩
    rw [hn] at hci hfv hshort ⊢
    have HN := Lib.hid hn
    clear hn
    by_cases hk0 : k = 0
    · subst hk0
      have ht : decide (((l.length - 1 - 0 : Nat) : Int) < (l.length : Int) - 1) = false := by rw [decide_eq_false_iff_not]; omega
      gi_wp2_with (refine ⟨trivial, ?_⟩; first | (gi_at_call 37; refine (CallsIn.inRound lp (callsIn_wide.2 hci.out)).mono ?_; rintro e W3 ⟨rfl, hB3⟩; have H3 := Lib.hid (HI.out.stays (Stays.of_below hB3 (Nat.le_refl _)) hsz); have c3 := H3.out.x.cell1) | (gi_at_call 36; skip))
      have h3 := H3.out
      obtain ⟨p, hp, hb3⟩ := h3.bd
      have hsz3 := h3.low.size
      refine (CallsIn.inRound lp (callsIn_wide.2 (bstr_any w.heap.size (w.heap.size + 1) _ p [] _ (tx (Lib.itoa (n : Int))) W3 hb3 hp bdT_own (by rw [Lib.byteCells_length, tx_size]; omega) hsz3))).mono ?_
      rintro e W6 ⟨rfl, hb6, hk6⟩
      clear h3 hp hb3
      gi_wp2
      refine wr_next HI.out ((BdKeep.of_below hB3 hsz).trans hk6) ?_
      have e1 : wrK l (0 + 1) = wrK l 0 ++ Lib.itoa n := by
        show wrK l 0 ++ padI true _ = _
        rw [HN.out]; rfl
      rw [e1, byteCells_app]
      exact hb6
    · have ht : decide (((l.length - 1 - k : Nat) : Int) < (l.length : Int) - 1) = true := by rw [decide_eq_true_eq]; omega
      obtain ⟨c, hc⟩ : ∃ c : Nat, 9 - (Lib.itoa (n : Int)).length = c := ⟨_, rfl⟩
      have hcI : (9 : Int) - ((Lib.itoa (n : Int)).length : Int) = (c : Int) := by omega
      have hc9 : c ≤ 9 := by omega
      have HC := Lib.hid hc
      clear hc
      gi_wp2_with (refine ⟨trivial, ?_⟩; first | (gi_at_call 37; refine (CallsIn.inRound lp (callsIn_wide.2 hci.out)).mono ?_; rintro e W3 ⟨rfl, hB3⟩; have H3 := Lib.hid (HI.out.stays (Stays.of_below hB3 (Nat.le_refl _)) hsz); have c3 := H3.out.x.cell1) | (gi_at_call 115; refine (CallsIn.inRound lp (callsIn_wide.2 (Tryz.strings_Repeat ⟨#[48]⟩ c _ (by omega) (by show 1 * c ≤ _; omega)))).mono ?_; rintro e W4 ⟨rfl, hB4⟩) | (gi_at_call 36; skip))
      have h3 := H3.out
      have h4 := h3.stays (Stays.of_below hB4 (Nat.le_refl _)) h3.low.size
      have k4 := (BdKeep.of_below (b := w.heap.size + 1) hB3 hsz).trans (BdKeep.of_below hB4 h3.low.size)
      obtain ⟨p, hp, hb4⟩ := h4.bd
      have hsz4 := h4.low.size
      refine (CallsIn.inRound lp (callsIn_wide.2 (bstr_any w.heap.size (w.heap.size + 1) _ p [] _ (tx (Lib.repeatL [48] c)) W4 hb4 hp bdT_own (by rw [Lib.byteCells_length, tx_size, repeat_len]; omega) hsz4))).mono ?_
      rintro e W5 ⟨rfl, hb5, hk5⟩
      have HK5 := Lib.hid (k4.trans hk5)
      have hsz5 := (h4.low.trans hk5.low).size
      clear h3 h4 hp hb4 k4 hk5
      gi_wp2_with (refine ⟨trivial, ?_⟩; gi_at_call 36; skip)
      refine (CallsIn.inRound lp (callsIn_wide.2 (bstr_any w.heap.size (w.heap.size + 1) _ _ [] _ (tx (Lib.itoa (n : Int))) W5 hb5 (.inr rfl) bdT_own (by rw [List.length_append, Lib.byteCells_length, Lib.strCells_length, tx_size, tx_size, repeat_len]; omega) hsz5))).mono ?_
      rintro e W6 ⟨rfl, hb6, hk6⟩
      gi_wp2
      refine wr_next HI.out (HK5.out.trans hk6) ?_
      have e1 : wrK l (k + 1) = wrK l k ++ Lib.repeatL [48] c ++ Lib.itoa n := by
        show wrK l k ++ padI (k == 0) _ = _
        have e0 : (k == 0) = false := by simpa using hk0
        rw [HN.out, e0, List.append_assoc, ← HC.out]; rfl
      rw [e1, byteCells_app, byteCells_app]
      exact hb6
  case done =>
    rintro D W hD h hK
    obtain ⟨p, hp, hb⟩ := h.bd
    have cs := Lib.hid (bstring_any w.heap.size (w.heap.size + 1) _ p [] (wrK l l.length) W hb (wrK_ne hpos))
    have HI := Lib.hid h
    clear h hb
    gi_wp2_with (refine ⟨trivial, ?_⟩; gi_at_call 16; refine (callsIn_wide.2 cs.out).mono ?_; rintro e w' ⟨rfl, hB'⟩)
    have k1 : w'.heap[D]? = some (.deferred (some [])) := hB'.kept D _ hK (fun e => by cases e; simp at hD; omega) (fun c fz e => by cases e)
    refine ⟨by simp, .inl ⟨_, _, rfl, run_takeDeferred k1, ?_⟩⟩
    have hs := Stays.putObj (n0 := w.heap.size) (.deferred none) k1 rfl (by simp at hD; omega)
    refine ⟨.string (tx (wrK l l.length)), by simp [results, Tryz.results106, go_sem], ?_, HI.out.low.trans (hB'.low.trans hs.below)⟩
    unfold wrL; rw [if_neg HNE.out]
  case stop => intro D c k W hD hk h; exact h.elim
end Go.Proofs.YtbnnccnicfddlaaGreatDoor
