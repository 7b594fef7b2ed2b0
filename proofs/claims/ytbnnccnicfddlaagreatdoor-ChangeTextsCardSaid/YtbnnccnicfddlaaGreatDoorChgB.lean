/- change.writer: word, ints, nums: the walks. · change.writer.write: the walk, kind by kind. -/
import Derived.Test.YtbnnccnicfddlaaGreatDoorChg3
set_option linter.unusedSimpArgs false
set_option linter.unusedVariables false
namespace Go.Proofs.YtbnnccnicfddlaaGreatDoor
open Go.RowKit Go.Shelf Kp

/-- a writer lies at block b, with what it has written and the errors that it keeps -/
def Wrt (B b : Nat) (wide num : Int) (bs : By) (w : World) : Prop :=
  ∃ p, selfP b p ∧ Bd B b 65 p [.int .i64 wide, .int .i64 num] (Lib.byteCells bs) w

theorem Wrt.heap {B b : Nat} {wide num : Int} {bs : By} {w : World} (h : Wrt B b wide num bs w) : ∃ p v, w.heap[b]? = some (.cells #[p, v, .int .i64 wide, .int .i64 num] 65 (0, 0)) := by
  obtain ⟨p, _, _, v, hb, _⟩ := h
  exact ⟨p, v, hb⟩
theorem Wrt.cell2 {B b : Nat} {wide num : Int} {bs : By} {w : World} (h : Wrt B b wide num bs w) : w.cell? ⟨b, 2, none⟩ = some (.int .i64 wide) := by
  obtain ⟨p, v, hb⟩ := h.heap
  simp [World.cell?, hb]
theorem Wrt.cell3 {B b : Nat} {wide num : Int} {bs : By} {w : World} (h : Wrt B b wide num bs w) : w.cell? ⟨b, 3, none⟩ = some (.int .i64 num) := by
  obtain ⟨p, v, hb⟩ := h.heap
  simp [World.cell?, hb]
theorem Wrt.frozen {B b : Nat} {wide num : Int} {bs : By} {w : World} (h : Wrt B b wide num bs w) (i : Nat) : w.frozen? ⟨b, i, none⟩ = false := by
  obtain ⟨p, v, hb⟩ := h.heap
  simp [World.frozen?, hb]
theorem Wrt.lt {B b : Nat} {wide num : Int} {bs : By} {w : World} (h : Wrt B b wide num bs w) : b < w.heap.size := by
  obtain ⟨p, v, hb⟩ := h.heap
  exact (Array.getElem?_eq_some_iff.1 hb).1
theorem Wrt.low {B b : Nat} {wide num : Int} {bs : By} {w : World} (h : Wrt B b wide num bs w) : B ≤ b := by
  obtain ⟨p, _, hB, _⟩ := h; exact hB
theorem Wrt.put2 {B b : Nat} {wide num : Int} {bs : By} {w : World} (h : Wrt B b wide num bs w) (x : Int) : Wrt B b x num bs (w.setCell ⟨b, 2, none⟩ (.int .i64 x)) := by
  obtain ⟨p, hp, hB, v, hb, hown, hne⟩ := h
  exact ⟨p, hp, hB, v, by simp [World.setCell, Array.getElem?_modify, hb], own_set hown hne _, hne⟩
theorem Wrt.put3 {B b : Nat} {wide num : Int} {bs : By} {w : World} (h : Wrt B b wide num bs w) (x : Int) : Wrt B b wide x bs (w.setCell ⟨b, 3, none⟩ (.int .i64 x)) := by
  obtain ⟨p, hp, hB, v, hb, hown, hne⟩ := h
  exact ⟨p, hp, hB, v, by simp [World.setCell, Array.getElem?_modify, hb], own_set hown hne _, hne⟩
theorem Wrt.keep {B b : Nat} {wide num : Int} {bs : By} {w : World} (h : Wrt B b wide num bs w) (i : Nat) (x : Value) : BdKeep B b w (w.setCell ⟨b, i, none⟩ x) :=
  ⟨(Below.refl _ _).setCell (p := ⟨b, i, none⟩) h.low _, (Lib.OthersKept.refl _ _ _).setCell ⟨b, i, none⟩ rfl _⟩
theorem Wrt.below {B b : Nat} {wide num : Int} {bs : By} {w w' : World} (h : Wrt B b wide num bs w) (hs : Below w.heap.size w w') : Wrt B b wide num bs w' := by
  obtain ⟨p, hp, hb⟩ := h
  exact ⟨p, hp, hb.below hs⟩

/-- what the package variables hold -/
structure Gl (w : World) : Prop where
  pow : Pow10 w
  maxl : MaxL w
  syn : ∃ tp p, w.var? Tryz.prog "strconv.ErrSyntax" = some #[.iface tp p]
  rng : ∃ tp p, w.var? Tryz.prog "strconv.ErrRange" = some #[.iface tp p]
  wrd : ∀ j, j < 12 → w.cell? ⟨0, 1 + j, none⟩ = some (.string (tx (kindWs.getD j [])))
theorem var_keep {n : String} {g : Nat} (hg : Tryz.prog.globalNamed n = some g) {w w' : World} {cs : Array Value} (h : w.var? Tryz.prog n = some cs) {B : Nat} (hb : Below B w w') (hB : g < B) : w'.var? Tryz.prog n = some cs := by
  unfold World.var? at h ⊢
  rw [hg] at h ⊢
  simp only [Option.bind_some] at h ⊢
  rw [hb.block g hB]; exact h
theorem Gl.keep {w w' : World} (h : Gl w) {B : Nat} (hb : Below B w w') (hB : 9 ≤ B) : Gl w' := by
  obtain ⟨h1, ⟨m, h2⟩, ⟨t3, p3, h3⟩, ⟨t4, p4, h4⟩, h5⟩ := h
  exact ⟨var_keep (g := 6) (by kernel_rfl) h1 hb (by omega), ⟨m, (hb.cell (by show 1 < B; omega)).trans h2⟩,
    ⟨t3, p3, var_keep (g := 4) (by kernel_rfl) h3 hb (by omega)⟩, ⟨t4, p4, var_keep (g := 5) (by kernel_rfl) h4 hb (by omega)⟩,
    fun j hj => (hb.cell (by show 0 < B; omega)).trans (h5 j hj)⟩

def WrPost2 (B b : Nat) (wide num : Int) (bs : By) (w : World) (e : Ending) (w' : World) : Prop :=
  e = .returned (.tuple #[]) ∧ Wrt B b wide num bs w' ∧ BdKeep B b w w'

set_option maxRecDepth 100000 in
set_option maxHeartbeats 1000000 in
theorem wword_any (B b : Nat) (wide num : Int) (bs s : By) (w : World) (h : Wrt B b wide num bs w) (hlen : bs.length + s.length ≤ 100000000) (hBw : B ≤ w.heap.size) :
    Calls Tryz.prog 24 #[slf b, .string (tx s)] w (WrPost2 B b wide num (addW bs s) w) := by
  obtain ⟨p, hp, hb⟩ := h
  have cl := Lib.hid (blen_any B b _ p _ _ w hb)
  rw [Lib.byteCells_length] at cl
  by_cases h0 : bs = []
  · have t0 : ¬ 0 < bs.length := by rw [h0]; simp
    have HE := Lib.hid (show addW bs s = bs ++ s by unfold addW; rw [if_pos h0, h0]; rfl)
    have cs := Lib.hid (bstr_any B b _ p _ _ (tx s) w hb hp bdT_writer (by rw [Lib.byteCells_length, tx_size]; omega) hBw)
    clear h0 hb hp
    go_enter Tryz.func24, Tryz.ntmps24
    go_wp2_with (first | (go_at_call 34; refine cl.out.mono ?_; rintro e w1 ⟨rfl, rfl⟩) | (go_at_call 36; refine cs.out.mono ?_; rintro e w2 ⟨rfl, hb2, hk2⟩))
    go_end0
    refine ⟨rfl, ?_, hk2⟩
    rw [HE.out]
    refine ⟨_, .inr rfl, ?_⟩
    rw [byteCells_app]; exact hb2
  · have t0 : 0 < bs.length := List.length_pos_iff.2 h0
    have HE := Lib.hid (show addW bs s = bs ++ [32] ++ s by unfold addW; rw [if_neg h0]; simp)
    have cb := Lib.hid (bbyte_any B b _ p _ _ 32 w hb hp bdT_writer (by rw [Lib.byteCells_length]; omega) hBw)
    clear h0 hb hp
    go_enter Tryz.func24, Tryz.ntmps24
    go_wp2_with (first | (go_at_call 34; refine cl.out.mono ?_; rintro e w1 ⟨rfl, rfl⟩) | (go_at_call 35; refine cb.out.mono ?_; rintro e w2 ⟨rfl, hb2, hk2⟩; have hz2 := hk2.low.size) | (go_at_call 36; refine (bstr_any B b _ _ _ _ (tx s) _ hb2 (.inr rfl) bdT_writer (by rw [List.length_append, Lib.byteCells_length, tx_size]; simp; omega) (by omega)).mono ?_; rintro e w3 ⟨rfl, hb3, hk3⟩))
    go_end0
    refine ⟨rfl, ?_, hk2.trans hk3⟩
    rw [HE.out]
    refine ⟨_, .inr rfl, ?_⟩
    rw [byteCells_app, byteCells_app]; exact hb3

/-- block c is a row of cells of another kind than bytes -/
def RowAt (w : World) (c : Nat) (T : TypeId) (l : List Value) : Prop := w.heap[c]? = some (.cells l.toArray T (0, 0))
theorem RowAt.bd {B b c : Nat} {T : TypeId} {l : List Value} {w w' : World} (h : RowAt w c T l) (hk : BdKeep B b w w') (hc : c ≠ b) (ht : T ≠ 5) : RowAt w' c T l :=
  hk.kept c _ h (fun e => hc (by cases e; rfl)) (fun cs fz e => ht (by cases e; rfl))
theorem RowAt.cell {w : World} {c : Nat} {T : TypeId} {l : List Value} (h : RowAt w c T l) (i : Nat) : w.cell? ⟨c, i, none⟩ = l[i]? := by unfold RowAt at h; simp [World.cell?, h]
theorem RowAt.below {w w' : World} {c : Nat} {T : TypeId} {l : List Value} {B0 : Nat} (h : RowAt w c T l) (hb : Below B0 w w') (hc : c < B0) : RowAt w' c T l := (hb.block c hc).trans h
theorem RowAt.lt {w : World} {c : Nat} {T : TypeId} {l : List Value} (h : RowAt w c T l) : c < w.heap.size := (Array.getElem?_eq_some_iff.1 h).1

abbrev intV (l : List Int) : List Value := l.map (.int .i64 ·)
def in64 (n : Int) : Prop := -9223372036854775808 ≤ n ∧ n ≤ 9223372036854775807
theorem addW_len (bs s : By) : (addW bs s).length ≤ bs.length + s.length + 1 := by
  unfold addW
  split
  · omega
  · simp; omega
theorem itoa_len20 {n : Int} (h : in64 n) : (Lib.itoa n).length ≤ 20 := by
  obtain ⟨h0, h1⟩ := h
  unfold Lib.itoa
  split
  · have := nDig_le n.natAbs 19 (by decide) (by omega)
    rw [List.length_cons, Lib.decDigits_length]; omega
  · have := nDig_le n.toNat 19 (by decide) (by omega)
    rw [Lib.decDigits_length]; omega
theorem addWs_int_len {l : List Int} (h : ∀ n ∈ l, in64 n) (bs : By) : (addWs bs (intW l)).length ≤ bs.length + 21 * l.length := by
  induction l generalizing bs with
  | nil => simp [intW, addWs]
  | cons n l ih =>
    have h1 := itoa_len20 (h n (by simp))
    have h2 := addW_len bs (Lib.itoa n)
    have h3 := ih (fun m hm => h m (by simp [hm])) (addW bs (Lib.itoa n))
    simp only [intW, List.map_cons, addWs_cons, List.length_cons] at h3 ⊢
    omega
theorem take_snoc {α : Type} {l : List α} {k : Nat} (h : k < l.length) : l.take (k + 1) = l.take k ++ [l[k]] := List.take_succ_eq_append_getElem h
theorem wide_snoc (x : Int) (l : List Int) (n : Int) : wideE x (l ++ [n]) = if outI n then 2 else wideE x l := by
  unfold wideE
  rw [List.any_append, List.any_cons, List.any_nil, Bool.or_false]
  generalize l.any outI = a
  generalize outI n = b
  cases a <;> cases b <;> rfl
theorem addWs_snoc (bs : By) (ws : List By) (s : By) : addWs bs (ws ++ [s]) = addW (addWs bs ws) s := by rw [addWs_app]; rfl

/-- what holds behind k rounds of ints -/
structure IntsR (B b : Nat) (wide num : Int) (bs : By) (l : List Int) (w : World) (i : Value) (wr : World) : Prop where
  ex : ∃ k : Nat, k ≤ l.length ∧ i = .int .i64 (k : Int) ∧ Wrt B b (wideE wide (l.take k)) num (addWs bs (intW (l.take k))) wr
  keep : BdKeep B b w wr

set_option maxRecDepth 100000 in
set_option maxHeartbeats 2000000 in
theorem wints_any (B b c : Nat) (T : TypeId) (wide num : Int) (bs : By) (l : List Int) (cap : Nat) (w : World) (h : Wrt B b wide num bs w) (hr : RowAt w c T (intV l)) (hc : c ≠ b) (hT : T ≠ 5)
    (hl : ∀ n ∈ l, in64 n) (hlen : bs.length + 21 * l.length ≤ 10000000) (hBw : B ≤ w.heap.size) (hg : Gl w) (hB : 9 ≤ B) :
    Calls Tryz.prog 25 #[slf b, .slice (some ⟨c, 0, none⟩) l.length cap] w (WrPost2 B b (wideE wide l) num (addWs bs (intW l)) w) := by
  have hll : l.length ≤ 10000000 := by omega
  have HST := Lib.hid (show IntsR B b wide num bs l w (.int .i64 0) w from ⟨⟨0, by omega, rfl, by simp only [List.take_zero]; exact h⟩, BdKeep.refl _ _ _⟩)
  have HG := Lib.hid hg
  have HR := Lib.hid hr
  have HL := Lib.hid hl
  clear h hg hr hl
  go_enter Tryz.func25, Tryz.ntmps25
  go_wp2
  go_loopw [8] (fun i wr => IntsR B b wide num bs l w i wr) (fun i _ => ((l.length : Int) - intOf i).toNat)
  case atStart => exact HST.out
  case round =>
    obtain ⟨⟨k, hk, rfl, hw⟩, hkp⟩ := hrel
    have hsz := hkp.low.size
    by_cases hlt : k < l.length
    · have hrow := HR.out.bd hkp hc hT
      have hcell : wr.cell? ⟨c, k, none⟩ = some (.int .i64 l[k]) := by rw [hrow.cell]; simp [hlt]
      have hin := HL.out l[k] (List.getElem_mem hlt)
      have hgr := HG.out.keep hkp.low hB
      have h20 := itoa_len20 hin
      have hwl : (addWs bs (intW (l.take k))).length ≤ bs.length + 21 * k := by
        have := addWs_int_len (l := l.take k) (fun n hn => HL.out n (List.mem_of_mem_take hn)) bs
        rw [List.length_take] at this
        omega
      have HES := Lib.hid (show wideE wide (l.take (k + 1)) = (if outI l[k] then 2 else wideE wide (l.take k)) ∧ addWs bs (intW (l.take (k + 1))) = addW (addWs bs (intW (l.take k))) (Lib.itoa l[k]) by
        rw [take_snoc hlt, wide_snoc, intW_app]
        exact ⟨rfl, by show addWs bs (_ ++ [Lib.itoa l[k]]) = _; rw [addWs_snoc]⟩)
      obtain ⟨n, hn⟩ : ∃ n, l[k] = n := ⟨_, rfl⟩
      rw [hn] at hcell hin h20 HES
      have hnext : ∀ W', BdKeep B b wr W' → Wrt B b (wideE wide (l.take (k + 1))) num (addWs bs (intW (l.take (k + 1)))) W' → IntsR B b wide num bs l w (.int .i64 ((k : Int) + 1)) W' :=
        fun W' hk' hw' => ⟨⟨k + 1, by omega, by simp, hw'⟩, hkp.trans hk'⟩
      have HN := Lib.hid hnext
      have HKP := Lib.hid hkp
      have hc2 := hw.cell2
      have hf2 := hw.frozen 2
      clear hn hrow hnext hkp
      obtain ⟨hin1, hin2⟩ := hin
      cases ho : outI n with
      | true =>
        have ho' : n < -1073741824 ∨ 1073741824 < n := by unfold outI at ho; simpa using ho
        have HW := Lib.hid (hw.put2 2)
        have HK := Lib.hid (hw.keep 2 (.int .i64 2))
        have hgr' := Lib.hid (hgr.keep HK.out.low hB)
        have hz2 : (wr.setCell ⟨b, 2, none⟩ (.int .i64 2)).heap.size = wr.heap.size := by simp [World.setCell]
        have ci := Lib.hid (itoa_any n (wr.setCell ⟨b, 2, none⟩ (.int .i64 2)) (by omega) (by omega) hgr'.out.pow)
        rw [ho] at HES
        clear hw hgr
        rcases ho' with ho' | ho'
        · go_wp2_with (first | (go_at_call 37; refine ci.out.mono ?_; rintro e W1 ⟨rfl, hB1⟩; have hz1 := hB1.size) | (go_at_call 24; refine (wword_any B b 2 num _ (Lib.itoa n) W1 (HW.out.below hB1) (by omega) (by omega)).mono ?_; rintro e W2 ⟨rfl, hw2, hk2⟩))
          refine ⟨HN.out _ ((HK.out.trans (BdKeep.of_below hB1 (by omega))).trans hk2) (by rw [HES.out.1, HES.out.2]; exact hw2), by simp [intOf]; omega⟩
        · go_wp2_with (first | (go_at_call 37; refine ci.out.mono ?_; rintro e W1 ⟨rfl, hB1⟩; have hz1 := hB1.size) | (go_at_call 24; refine (wword_any B b 2 num _ (Lib.itoa n) W1 (HW.out.below hB1) (by omega) (by omega)).mono ?_; rintro e W2 ⟨rfl, hw2, hk2⟩))
          refine ⟨HN.out _ ((HK.out.trans (BdKeep.of_below hB1 (by omega))).trans hk2) (by rw [HES.out.1, HES.out.2]; exact hw2), by simp [intOf]; omega⟩
      | false =>
        have ho' : ¬ n < -1073741824 ∧ ¬ 1073741824 < n := by unfold outI at ho; simpa using ho
        obtain ⟨ho1, ho2⟩ := ho'
        have HW := Lib.hid hw
        have ci := Lib.hid (itoa_any n wr (by omega) (by omega) hgr.pow)
        rw [ho] at HES
        clear hw hgr
        go_wp2_with (first | (go_at_call 37; refine ci.out.mono ?_; rintro e W1 ⟨rfl, hB1⟩; have hz1 := hB1.size) | (go_at_call 24; refine (wword_any B b _ num _ (Lib.itoa n) W1 (HW.out.below hB1) (by omega) (by omega)).mono ?_; rintro e W2 ⟨rfl, hw2, hk2⟩))
        refine ⟨HN.out _ ((BdKeep.of_below hB1 (by omega)).trans hk2) (by rw [HES.out.1, HES.out.2]; exact hw2), by simp [intOf]; omega⟩
    · have e : l.take k = l := List.take_of_length_le (by omega)
      rw [e] at hw
      have HW := Lib.hid hw
      have hlt' : decide ((k : Int) < (l.length : Int)) = false := by rw [decide_eq_false_iff_not]; omega
      clear hw
      go_wp2
      go_end0
      exact ⟨rfl, HW.out, hkp⟩

theorem numE_snoc (x : Int) (l : List By) (a : By) : numE chkR x (l ++ [a]) = if numE chkR x l = 0 then chkR a else numE chkR x l := by unfold numE; rw [List.foldl_append]; rfl
theorem addWs_num_len {l : List By} {m : Nat} (h : ∀ a ∈ l, a.length ≤ m) (bs : By) : (addWs bs l).length ≤ bs.length + (m + 1) * l.length := by
  induction l generalizing bs with
  | nil => simp [addWs]
  | cons a l ih =>
    have h1 := h a (by simp)
    have h2 := addW_len bs a
    have h3 := ih (fun m hm => h m (by simp [hm])) (addW bs a)
    rw [addWs_cons, List.length_cons, Nat.mul_succ]
    omega
abbrev strV (l : List By) : List Value := l.map (fun a => .string (tx a))
/-- what holds behind k rounds of nums -/
structure NumsR (B b : Nat) (wide num : Int) (bs : By) (l : List By) (w : World) (i : Value) (wr : World) : Prop where
  ex : ∃ k : Nat, k ≤ l.length ∧ i = .int .i64 (k : Int) ∧ Wrt B b wide (numE chkR num (l.take k)) (addWs bs (l.take k)) wr
  keep : BdKeep B b w wr

set_option maxRecDepth 100000 in
set_option maxHeartbeats 2000000 in
theorem wnums_any (B b c : Nat) (T : TypeId) (wide num : Int) (bs : By) (l : List By) (cap : Nat) (w : World) (h : Wrt B b wide num bs w) (hr : RowAt w c T (strV l)) (hc : c ≠ b) (hT : T ≠ 5)
    (hl : ∀ a ∈ l, a.length ≤ 1000) (hll : l.length ≤ 100) (hlen : bs.length ≤ 1000000) (hBw : B ≤ w.heap.size) (hg : Gl w) (hB : 9 ≤ B) :
    Calls Tryz.prog 26 #[slf b, .slice (some ⟨c, 0, none⟩) l.length cap] w (WrPost2 B b wide (numE chkR num l) (addWs bs l) w) := by
  have HST := Lib.hid (show NumsR B b wide num bs l w (.int .i64 0) w from ⟨⟨0, by omega, rfl, by simp only [List.take_zero]; exact h⟩, BdKeep.refl _ _ _⟩)
  have HG := Lib.hid hg
  have HR := Lib.hid hr
  have HL := Lib.hid hl
  clear h hg hr hl
  go_enter Tryz.func26, Tryz.ntmps26
  go_wp2
  go_loopw [9] (fun i wr => NumsR B b wide num bs l w i wr) (fun i _ => ((l.length : Int) - intOf i).toNat)
  case atStart => exact HST.out
  case round =>
    obtain ⟨⟨k, hk, rfl, hw⟩, hkp⟩ := hrel
    have hsz := hkp.low.size
    by_cases hlt : k < l.length
    · have hrow := HR.out.bd hkp hc hT
      have hcell : wr.cell? ⟨c, k, none⟩ = some (.string (tx l[k])) := by rw [hrow.cell]; simp [hlt]
      have hin := HL.out l[k] (List.getElem_mem hlt)
      have hgr := HG.out.keep hkp.low hB
      have hwl : (addWs bs (l.take k)).length ≤ bs.length + 1001 * k := by
        have := addWs_num_len (l := l.take k) (m := 1000) (fun n hn => HL.out n (List.mem_of_mem_take hn)) bs
        rw [List.length_take] at this
        have : min k l.length = k := by omega
        simp_all
      have HES := Lib.hid (show numE chkR num (l.take (k + 1)) = (if numE chkR num (l.take k) = 0 then chkR l[k] else numE chkR num (l.take k)) ∧ addWs bs (l.take (k + 1)) = addW (addWs bs (l.take k)) l[k] by
        rw [take_snoc hlt, numE_snoc, addWs_snoc]
        exact ⟨rfl, rfl⟩)
      obtain ⟨a, ha⟩ : ∃ a, l[k] = a := ⟨_, rfl⟩
      rw [ha] at hcell hin HES
      obtain ⟨x, hx⟩ : ∃ x, numE chkR num (l.take k) = x := ⟨_, rfl⟩
      rw [hx] at HES hw
      have hnext : ∀ W', BdKeep B b wr W' → Wrt B b wide (numE chkR num (l.take (k + 1))) (addWs bs (l.take (k + 1))) W' → NumsR B b wide num bs l w (.int .i64 ((k : Int) + 1)) W' :=
        fun W' hk' hw' => ⟨⟨k + 1, by omega, by simp, hw'⟩, hkp.trans hk'⟩
      have HN := Lib.hid hnext
      have cr := Lib.hid (rcheck_any a wr (by omega) hgr.maxl hgr.pow)
      have HW := Lib.hid hw
      clear ha hx hrow hnext hkp hw hgr
      by_cases hx0 : x = 0
      · subst hx0
        rw [if_pos rfl] at HES
        go_wp2_with (first | (go_at_call 38; refine cr.out.mono ?_; rintro e W1 ⟨rfl, hB1⟩; have hz1 := hB1.size; have HW1 := Lib.hid (HW.out.below hB1); have hc3 := HW1.out.cell3; have hf3 := HW1.out.frozen 3) | (go_at_call 24; refine (wword_any B b wide (chkR a) _ a _ (HW1.out.put3 _) (by omega) (by simp [World.setCell]; omega)).mono ?_; rintro e W2 ⟨rfl, hw2, hk2⟩))
        refine ⟨HN.out _ (((BdKeep.of_below hB1 (by omega)).trans (HW1.out.keep 3 _)).trans hk2) (by rw [HES.out.1, HES.out.2]; exact hw2), by simp [intOf]; omega⟩
      · have hx1 : (x == 0) = false := by rw [beq_eq_false_iff_ne]; exact hx0
        rw [if_neg hx0] at HES
        clear hx0
        go_wp2_with (first | (go_at_call 38; refine cr.out.mono ?_; rintro e W1 ⟨rfl, hB1⟩; have hz1 := hB1.size; have HW1 := Lib.hid (HW.out.below hB1); have hc3 := HW1.out.cell3; have hf3 := HW1.out.frozen 3) | (go_at_call 24; refine (wword_any B b wide x _ a _ HW1.out (by omega) (by omega)).mono ?_; rintro e W2 ⟨rfl, hw2, hk2⟩))
        refine ⟨HN.out _ ((BdKeep.of_below hB1 (by omega)).trans hk2) (by rw [HES.out.1, HES.out.2]; exact hw2), by simp [intOf]; omega⟩
    · have e : l.take k = l := List.take_of_length_le (by omega)
      rw [e] at hw
      have HW := Lib.hid hw
      have hlt' : decide ((k : Int) < (l.length : Int)) = false := by rw [decide_eq_false_iff_not]; omega
      clear hw
      go_wp2
      go_end0
      exact ⟨rfl, HW.out, hkp⟩

/-- the bytes of a name -/
def NmRel (s : By) (i : Value) : Prop := ∃ k : Nat, k ≤ s.length ∧ i = .int .i64 (k : Int) ∧ (s.take k).all nameB = true

set_option maxRecDepth 100000 in
set_option maxHeartbeats 2000000 in
theorem isname_any (s : By) (w : World) (hs : s.length ≤ 1000000) :
    Calls Tryz.prog 13 #[.string (tx s)] w fun e w' => e = .returned (.bool (isNm s)) ∧ w' = w := by
  go_enter Tryz.func13, Tryz.ntmps13
  go_wp2
  go_loop [7] (fun i => NmRel s i) (fun i => ((s.length : Int) - intOf i).toNat)
  case atStart => exact ⟨0, by omega, rfl, rfl⟩
  case round =>
    obtain ⟨k, hk, rfl, hall⟩ := hrel
    by_cases hlt : k < s.length
    · have hb : k < (tx s).size := by rw [tx_size]; exact hlt
      have hx : (tx s)[k]'hb = s[k] := rfl
      cases hn : nameB s[k] with
      | true =>
        have hnx : NmRel s (.int .i64 ((k : Int) + 1)) := ⟨k + 1, by omega, by simp, by rw [List.take_succ_eq_append_getElem hlt, List.all_append, hall]; simp [hn]⟩
        have HNX := Lib.hid hnx
        have hr : (97 ≤ (((tx s)[k]'hb).toNat : Int) ∧ (((tx s)[k]'hb).toNat : Int) ≤ 122) ∨ (65 ≤ (((tx s)[k]'hb).toNat : Int) ∧ (((tx s)[k]'hb).toNat : Int) ≤ 90) ∨ (48 ≤ (((tx s)[k]'hb).toNat : Int) ∧ (((tx s)[k]'hb).toNat : Int) ≤ 57) := by
          rw [hx]
          unfold nameB at hn
          simp only [Bool.or_eq_true, Bool.and_eq_true, decide_eq_true_eq] at hn
          omega
        clear hnx hn hall hx
        rcases hr with ⟨h1, h2⟩ | ⟨h1, h2⟩ | ⟨h1, h2⟩
        · go_wp2
          all_goals first
            | exact ⟨HNX.out, by simp [intOf]; omega⟩
            | (exfalso; omega)
        · go_wp2
          all_goals first
            | exact ⟨HNX.out, by simp [intOf]; omega⟩
            | (exfalso; omega)
        · go_wp2
          all_goals first
            | exact ⟨HNX.out, by simp [intOf]; omega⟩
            | (exfalso; omega)
      | false =>
        have HR := Lib.hid (show isNm s = false by
          unfold isNm
          have : s.all nameB = false := by
            rw [Bool.eq_false_iff]
            intro h
            rw [List.all_eq_true] at h
            have := h _ (List.getElem_mem hlt)
            rw [hn] at this; cases this
          rw [this]; rfl)
        have hr : ((((tx s)[k]'hb).toNat : Int) < 48) ∨ (57 < (((tx s)[k]'hb).toNat : Int) ∧ (((tx s)[k]'hb).toNat : Int) < 65) ∨ (90 < (((tx s)[k]'hb).toNat : Int) ∧ (((tx s)[k]'hb).toNat : Int) < 97) ∨ (122 < (((tx s)[k]'hb).toNat : Int)) := by
          rw [hx]
          unfold nameB at hn
          simp only [Bool.or_eq_false_iff, Bool.and_eq_false_iff, decide_eq_false_iff_not] at hn
          omega
        clear hn hall hx
        rcases hr with h1 | ⟨h1, h2⟩ | ⟨h1, h2⟩ | h1
        · go_wp2
          all_goals first
            | (go_ret; exact ⟨by rw [HR.out]; rfl, rfl⟩)
            | (exfalso; omega)
        · go_wp2
          all_goals first
            | (go_ret; exact ⟨by rw [HR.out]; rfl, rfl⟩)
            | (exfalso; omega)
        · go_wp2
          all_goals first
            | (go_ret; exact ⟨by rw [HR.out]; rfl, rfl⟩)
            | (exfalso; omega)
        · go_wp2
          all_goals first
            | (go_ret; exact ⟨by rw [HR.out]; rfl, rfl⟩)
            | (exfalso; omega)
    · have e : s.take k = s := List.take_of_length_le (by omega)
      rw [e] at hall
      have HA := Lib.hid hall
      have hlt' : decide ((k : Int) < (s.length : Int)) = false := by rw [decide_eq_false_iff_not]; omega
      clear hall e
      cases s with
      | nil =>
        go_wp2
        go_ret
        exact ⟨rfl, rfl⟩
      | cons b r =>
        have HR := Lib.hid (show isNm (b :: r) = decide ((r.length : Int) + 1 ≤ 16) by
          unfold isNm
          rw [HA.out]
          simp
          omega)
        have hle : (r.length : Int) + 1 ≤ (k : Int) := by simp at hlt; omega
        have hlt2 : decide ((k : Int) < (r.length : Int) + 1) = false := by rw [decide_eq_false_iff_not]; omega
        go_wp2
        go_ret
        exact ⟨by rw [HR.out]; rfl, rfl⟩
end Go.Proofs.YtbnnccnicfddlaaGreatDoor
namespace Go.Proofs.YtbnnccnicfddlaaGreatDoor
open Go.RowKit Go.Shelf Kp
attribute [local go_sem] edC_size edC_0 edC_1 edC_2 edC_3 edC_4 edC_5 edC_6 edC_7 edC_8 edC_9 edC_10 edC_11 edC_12 edC_13 edC_14 edC_15 edC_16 edC_17 edC_18 edC_19 edC_20 edC_21 edC_22 edC_23 edC_24 edC_25 edC_26 edC_27 edC_28 edC_29 edC_30 edC_31 edC_32 edC_33 edC_34 edC_35 edC_36

/-- an edit lies at block c -/
def EdAt (w : World) (c : Nat) (e : Ed) (g : Value) : Prop := w.heap[c]? = some (.cells (edC e g) 39 (0, 0))
theorem EdAt.cell {w : World} {c : Nat} {e : Ed} {g : Value} (h : EdAt w c e g) (i : Nat) : w.cell? ⟨c, i, none⟩ = (edC e g)[i]? := by unfold EdAt at h; simp [World.cell?, h]
theorem EdAt.bd {B b c : Nat} {e : Ed} {g : Value} {w w' : World} (h : EdAt w c e g) (hk : BdKeep B b w w') (hc : c ≠ b) : EdAt w' c e g :=
  hk.kept c _ h (fun e => hc (by cases e; rfl)) (fun cs fz e => by cases e)
theorem EdAt.below {w w' : World} {c : Nat} {e : Ed} {g : Value} {B0 : Nat} (h : EdAt w c e g) (hb : Below B0 w w') (hc : c < B0) : EdAt w' c e g := (hb.block c hc).trans h
theorem EdAt.lt {w : World} {c : Nat} {e : Ed} {g : Value} (h : EdAt w c e g) : c < w.heap.size := (Array.getElem?_eq_some_iff.1 h).1
theorem EdAt.new (w : World) (e : Ed) (g : Value) : EdAt (w.alloc (.cells (edC e g) 39)) w.heap.size e g := World.alloc_heap_new w _
theorem EdAt.alloc {w : World} {c : Nat} {e : Ed} {g : Value} (h : EdAt w c e g) (o : Obj) : EdAt (w.alloc o) c e g := (Below.heap_alloc w o c h.lt).trans h
theorem RowAt.new (w : World) (T : TypeId) (l : List Value) : RowAt (w.alloc (.cells l.toArray T)) w.heap.size T l := World.alloc_heap_new w _
theorem Wrt.alloc {B b : Nat} {wide num : Int} {bs : By} {w : World} (h : Wrt B b wide num bs w) (o : Obj) : Wrt B b wide num bs (w.alloc o) := h.below ((Below.refl _ _).alloc (Nat.le_refl _) _)
theorem BdKeep.alloc {B b : Nat} (w : World) (hB : B ≤ w.heap.size) (o : Obj) : BdKeep B b w (w.alloc o) := BdKeep.of_below ((Below.refl _ _).alloc (Nat.le_refl _) _) hB

/-- what is asked of an edit that is written -/
structure Sized (e : Ed) : Prop where
  ints : ∀ n ∈ intsOf e, in64 n
  nums : ∀ a ∈ numsOf e, a.length ≤ 1000
  text : e.text.length ≤ 1000
/-- what write leaves -/
def WPost (B b : Nat) (e : Ed) (w : World) (r : Ending) (w' : World) : Prop := WrPost2 B b (wideE 0 (intsOf e)) (numE chkR 0 (numsOf e)) (addWs [] (wordsOf e)) w r w'

set_option maxRecDepth 100000 in
set_option maxHeartbeats 4000000 in
theorem write_1 (B b : Nat) (e : Ed) (ga : Option Addr) (gl gc : Nat) (w : World) (h : Wrt B b 0 0 [] w) (hs : Sized e) (hk : e.kind = 1)  (hg : Gl w) (hB : 9 ≤ B) (hBw : B ≤ w.heap.size) :
    Calls Tryz.prog 15 #[slf b, .agg (edC e (.slice ga gl gc))] w (WPost B b e w) := by
  have k1 : (e.kind == 1) = true := by rw [hk]; rfl
  have k2 : (e.kind == 2) = false := by rw [hk]; rfl
  have k3 : (e.kind == 3) = false := by rw [hk]; rfl
  have k4 : (e.kind == 4) = false := by rw [hk]; rfl
  have k5 : (e.kind == 5) = false := by rw [hk]; rfl
  have k6 : (e.kind == 6) = false := by rw [hk]; rfl
  have k7 : (e.kind == 7) = false := by rw [hk]; rfl
  have k8 : (e.kind == 8) = false := by rw [hk]; rfl
  have k9 : (e.kind == 9) = false := by rw [hk]; rfl
  have k10 : (e.kind == 10) = false := by rw [hk]; rfl
  have k11 : (e.kind == 11) = false := by rw [hk]; rfl
  have k12 : (e.kind == 12) = false := by rw [hk]; rfl
  have HI := Lib.hid (show intsOf e = [] by unfold intsOf; rw [hk]; simp)
  have HNM := Lib.hid (show numsOf e = [] by unfold numsOf; rw [hk]; simp)
  have HH := Lib.hid (show headsOf e = [wName, e.text] by unfold headsOf; rw [hk]; simp)
  have hin : ∀ n ∈ ([] : List Int), in64 n := by have := hs.ints; rw [HI.out] at this; exact this
  have hnu : ∀ a ∈ ([] : List By), a.length ≤ 1000 := by have := hs.nums; rw [HNM.out] at this; exact this
  have htx := hs.text
  have hbl := h.lt
  have HA := Lib.hid (h.alloc (.cells (edC e (.slice ga gl gc)) 39))
  have E0 := Lib.hid (EdAt.new w e (.slice ga gl gc))
  have HK0 := Lib.hid (BdKeep.alloc (B := B) (b := b) w hBw (.cells (edC e (.slice ga gl gc)) 39))
  have HG := Lib.hid hg
  have HIN := Lib.hid hin
  have HNU := Lib.hid hnu
  
  clear h hs hg hk hin hnu
  go_enter Tryz.func15, Tryz.ntmps15
  go_wp2_with (first | (go_at_call 24; refine (wword_any B b 0 0 _ e.text _ HW1.out (by show 4 + _ ≤ _; omega) (by omega)).mono ?_; rintro r W2 ⟨rfl, hw2, hk2⟩) | (go_at_call 24; refine (wword_any B b 0 0 [] wName _ HA.out (by decide) (by simp; omega)).mono ?_; rintro r W1 ⟨rfl, hw1, hk1⟩; have E1 := Lib.hid (E0.out.bd hk1 (by omega)); have ec1 := fun i => E1.out.cell i; have hz1 := hk1.low.size; simp only [World.size_alloc] at hz1; have HW1 := Lib.hid hw1; have HK1 := Lib.hid (HK0.out.trans hk1); clear hw1 hk1))
  go_end0
  refine ⟨rfl, ?_, HK1.out.trans hk2⟩
  rw [HI.out, HNM.out]
  unfold wordsOf
  rw [HI.out, HNM.out, HH.out]
  exact hw2

set_option maxRecDepth 100000 in
set_option maxHeartbeats 4000000 in
theorem write_2t (B b : Nat) (e : Ed) (ga : Option Addr) (gl gc : Nat) (w : World) (h : Wrt B b 0 0 [] w) (hs : Sized e) (hk : e.kind = 2) (hgb : e.gable = true) (hg : Gl w) (hB : 9 ≤ B) (hBw : B ≤ w.heap.size) :
    Calls Tryz.prog 15 #[slf b, .agg (edC e (.slice ga gl gc))] w (WPost B b e w) := by
  have k1 : (e.kind == 1) = false := by rw [hk]; rfl
  have k2 : (e.kind == 2) = true := by rw [hk]; rfl
  have k3 : (e.kind == 3) = false := by rw [hk]; rfl
  have k4 : (e.kind == 4) = false := by rw [hk]; rfl
  have k5 : (e.kind == 5) = false := by rw [hk]; rfl
  have k6 : (e.kind == 6) = false := by rw [hk]; rfl
  have k7 : (e.kind == 7) = false := by rw [hk]; rfl
  have k8 : (e.kind == 8) = false := by rw [hk]; rfl
  have k9 : (e.kind == 9) = false := by rw [hk]; rfl
  have k10 : (e.kind == 10) = false := by rw [hk]; rfl
  have k11 : (e.kind == 11) = false := by rw [hk]; rfl
  have k12 : (e.kind == 12) = false := by rw [hk]; rfl
  have HI := Lib.hid (show intsOf e = [e.index, e.sx, e.sy, e.srise, e.srun, e.splate, e.sover, 1] by unfold intsOf; rw [hk]; simp [hgb, b2i])
  have HNM := Lib.hid (show numsOf e = [] by unfold numsOf; rw [hk]; simp)
  have HH := Lib.hid (show headsOf e = [wSide] by unfold headsOf; rw [hk]; simp)
  have hin : ∀ n ∈ ([e.index, e.sx, e.sy, e.srise, e.srun, e.splate, e.sover, 1] : List Int), in64 n := by have := hs.ints; rw [HI.out] at this; exact this
  have hnu : ∀ a ∈ ([] : List By), a.length ≤ 1000 := by have := hs.nums; rw [HNM.out] at this; exact this
  have htx := hs.text
  have hbl := h.lt
  have HA := Lib.hid (h.alloc (.cells (edC e (.slice ga gl gc)) 39))
  have E0 := Lib.hid (EdAt.new w e (.slice ga gl gc))
  have HK0 := Lib.hid (BdKeep.alloc (B := B) (b := b) w hBw (.cells (edC e (.slice ga gl gc)) 39))
  have HG := Lib.hid hg
  have HIN := Lib.hid hin
  have HNU := Lib.hid hnu
  have HGB := Lib.hid hgb
  clear h hs hg hk hin hnu
  go_enter Tryz.func15, Tryz.ntmps15
  have hgv := HGB.out
  go_wp2_with (first
    | (go_at_call 24; refine (wword_any B b 0 0 [] wSide _ HA.out (by decide) (by simp; omega)).mono ?_; rintro r W1 ⟨rfl, hw1, hk1⟩; have E1 := Lib.hid (E0.out.bd hk1 (by omega)); have ec1 := fun i => E1.out.cell i; have hz1 := hk1.low.size; simp only [World.size_alloc] at hz1; have HW1 := Lib.hid hw1; have HK1 := Lib.hid (HK0.out.trans hk1); clear hw1 hk1)
    | (go_at_call 25; go_must (refine (wints_any B b _ 3 0 0 _ [e.index, e.sx, e.sy, e.srise, e.srun, e.splate, e.sover, 1] _ _ (HW1.out.alloc _) (RowAt.new W1 _ (intV [e.index, e.sx, e.sy, e.srise, e.srun, e.splate, e.sover, 1])) (by have := HW1.out.lt; omega) (by decide) HIN.out (by show _ + 21 * 8 ≤ _; decide) (by simp; omega) ((HG.out.keep HK1.out.low hB).keep ((Below.refl _ _).alloc (Nat.le_refl _) _) (by omega)) hB).mono ?_); rintro r W2 ⟨rfl, hw2, hk2⟩))
  go_end0
  refine ⟨rfl, ?_, (HK1.out.trans (BdKeep.alloc W1 (by omega) _)).trans hk2⟩
  rw [HI.out, HNM.out]
  unfold wordsOf
  rw [HI.out, HNM.out, HH.out]
  simp only [List.append_nil]
  exact hw2

set_option maxRecDepth 100000 in
set_option maxHeartbeats 4000000 in
theorem write_2f (B b : Nat) (e : Ed) (ga : Option Addr) (gl gc : Nat) (w : World) (h : Wrt B b 0 0 [] w) (hs : Sized e) (hk : e.kind = 2) (hgb : e.gable = false) (hg : Gl w) (hB : 9 ≤ B) (hBw : B ≤ w.heap.size) :
    Calls Tryz.prog 15 #[slf b, .agg (edC e (.slice ga gl gc))] w (WPost B b e w) := by
  have k1 : (e.kind == 1) = false := by rw [hk]; rfl
  have k2 : (e.kind == 2) = true := by rw [hk]; rfl
  have k3 : (e.kind == 3) = false := by rw [hk]; rfl
  have k4 : (e.kind == 4) = false := by rw [hk]; rfl
  have k5 : (e.kind == 5) = false := by rw [hk]; rfl
  have k6 : (e.kind == 6) = false := by rw [hk]; rfl
  have k7 : (e.kind == 7) = false := by rw [hk]; rfl
  have k8 : (e.kind == 8) = false := by rw [hk]; rfl
  have k9 : (e.kind == 9) = false := by rw [hk]; rfl
  have k10 : (e.kind == 10) = false := by rw [hk]; rfl
  have k11 : (e.kind == 11) = false := by rw [hk]; rfl
  have k12 : (e.kind == 12) = false := by rw [hk]; rfl
  have HI := Lib.hid (show intsOf e = [e.index, e.sx, e.sy, e.srise, e.srun, e.splate, e.sover, 0] by unfold intsOf; rw [hk]; simp [hgb, b2i])
  have HNM := Lib.hid (show numsOf e = [] by unfold numsOf; rw [hk]; simp)
  have HH := Lib.hid (show headsOf e = [wSide] by unfold headsOf; rw [hk]; simp)
  have hin : ∀ n ∈ ([e.index, e.sx, e.sy, e.srise, e.srun, e.splate, e.sover, 0] : List Int), in64 n := by have := hs.ints; rw [HI.out] at this; exact this
  have hnu : ∀ a ∈ ([] : List By), a.length ≤ 1000 := by have := hs.nums; rw [HNM.out] at this; exact this
  have htx := hs.text
  have hbl := h.lt
  have HA := Lib.hid (h.alloc (.cells (edC e (.slice ga gl gc)) 39))
  have E0 := Lib.hid (EdAt.new w e (.slice ga gl gc))
  have HK0 := Lib.hid (BdKeep.alloc (B := B) (b := b) w hBw (.cells (edC e (.slice ga gl gc)) 39))
  have HG := Lib.hid hg
  have HIN := Lib.hid hin
  have HNU := Lib.hid hnu
  have HGB := Lib.hid hgb
  clear h hs hg hk hin hnu
  go_enter Tryz.func15, Tryz.ntmps15
  have hgv := HGB.out
  go_wp2_with (first
    | (go_at_call 24; refine (wword_any B b 0 0 [] wSide _ HA.out (by decide) (by simp; omega)).mono ?_; rintro r W1 ⟨rfl, hw1, hk1⟩; have E1 := Lib.hid (E0.out.bd hk1 (by omega)); have ec1 := fun i => E1.out.cell i; have hz1 := hk1.low.size; simp only [World.size_alloc] at hz1; have HW1 := Lib.hid hw1; have HK1 := Lib.hid (HK0.out.trans hk1); clear hw1 hk1)
    | (go_at_call 25; go_must (refine (wints_any B b _ 3 0 0 _ [e.index, e.sx, e.sy, e.srise, e.srun, e.splate, e.sover, 0] _ _ (HW1.out.alloc _) (RowAt.new W1 _ (intV [e.index, e.sx, e.sy, e.srise, e.srun, e.splate, e.sover, 0])) (by have := HW1.out.lt; omega) (by decide) HIN.out (by show _ + 21 * 8 ≤ _; decide) (by simp; omega) ((HG.out.keep HK1.out.low hB).keep ((Below.refl _ _).alloc (Nat.le_refl _) _) (by omega)) hB).mono ?_); rintro r W2 ⟨rfl, hw2, hk2⟩))
  go_end0
  refine ⟨rfl, ?_, (HK1.out.trans (BdKeep.alloc W1 (by omega) _)).trans hk2⟩
  rw [HI.out, HNM.out]
  unfold wordsOf
  rw [HI.out, HNM.out, HH.out]
  simp only [List.append_nil]
  exact hw2

set_option maxRecDepth 100000 in
set_option maxHeartbeats 4000000 in
theorem write_3 (B b : Nat) (e : Ed) (ga : Option Addr) (gl gc : Nat) (w : World) (h : Wrt B b 0 0 [] w) (hs : Sized e) (hk : e.kind = 3)  (hg : Gl w) (hB : 9 ≤ B) (hBw : B ≤ w.heap.size) :
    Calls Tryz.prog 15 #[slf b, .agg (edC e (.slice ga gl gc))] w (WPost B b e w) := by
  have k1 : (e.kind == 1) = false := by rw [hk]; rfl
  have k2 : (e.kind == 2) = false := by rw [hk]; rfl
  have k3 : (e.kind == 3) = true := by rw [hk]; rfl
  have k4 : (e.kind == 4) = false := by rw [hk]; rfl
  have k5 : (e.kind == 5) = false := by rw [hk]; rfl
  have k6 : (e.kind == 6) = false := by rw [hk]; rfl
  have k7 : (e.kind == 7) = false := by rw [hk]; rfl
  have k8 : (e.kind == 8) = false := by rw [hk]; rfl
  have k9 : (e.kind == 9) = false := by rw [hk]; rfl
  have k10 : (e.kind == 10) = false := by rw [hk]; rfl
  have k11 : (e.kind == 11) = false := by rw [hk]; rfl
  have k12 : (e.kind == 12) = false := by rw [hk]; rfl
  have HI := Lib.hid (show intsOf e = [e.index, e.number] by unfold intsOf; rw [hk]; simp)
  have HNM := Lib.hid (show numsOf e = [] by unfold numsOf; rw [hk]; simp)
  have HH := Lib.hid (show headsOf e = [wSpacing] by unfold headsOf; rw [hk]; simp)
  have hin : ∀ n ∈ ([e.index, e.number] : List Int), in64 n := by have := hs.ints; rw [HI.out] at this; exact this
  have hnu : ∀ a ∈ ([] : List By), a.length ≤ 1000 := by have := hs.nums; rw [HNM.out] at this; exact this
  have htx := hs.text
  have hbl := h.lt
  have HA := Lib.hid (h.alloc (.cells (edC e (.slice ga gl gc)) 39))
  have E0 := Lib.hid (EdAt.new w e (.slice ga gl gc))
  have HK0 := Lib.hid (BdKeep.alloc (B := B) (b := b) w hBw (.cells (edC e (.slice ga gl gc)) 39))
  have HG := Lib.hid hg
  have HIN := Lib.hid hin
  have HNU := Lib.hid hnu
  
  clear h hs hg hk hin hnu
  go_enter Tryz.func15, Tryz.ntmps15
  go_wp2_with (first
    | (go_at_call 24; refine (wword_any B b 0 0 [] wSpacing _ HA.out (by decide) (by simp; omega)).mono ?_; rintro r W1 ⟨rfl, hw1, hk1⟩; have E1 := Lib.hid (E0.out.bd hk1 (by omega)); have ec1 := fun i => E1.out.cell i; have hz1 := hk1.low.size; simp only [World.size_alloc] at hz1; have HW1 := Lib.hid hw1; have HK1 := Lib.hid (HK0.out.trans hk1); clear hw1 hk1)
    | (go_at_call 25; go_must (refine (wints_any B b _ 3 0 0 _ [e.index, e.number] _ _ (HW1.out.alloc _) (RowAt.new W1 _ (intV [e.index, e.number])) (by have := HW1.out.lt; omega) (by decide) HIN.out (by show _ + 21 * 2 ≤ _; decide) (by simp; omega) ((HG.out.keep HK1.out.low hB).keep ((Below.refl _ _).alloc (Nat.le_refl _) _) (by omega)) hB).mono ?_); rintro r W2 ⟨rfl, hw2, hk2⟩))
  go_end0
  refine ⟨rfl, ?_, (HK1.out.trans (BdKeep.alloc W1 (by omega) _)).trans hk2⟩
  rw [HI.out, HNM.out]
  unfold wordsOf
  rw [HI.out, HNM.out, HH.out]
  simp only [List.append_nil]
  exact hw2

set_option maxRecDepth 100000 in
set_option maxHeartbeats 4000000 in
theorem write_4 (B b : Nat) (e : Ed) (ga : Option Addr) (gl gc : Nat) (w : World) (h : Wrt B b 0 0 [] w) (hs : Sized e) (hk : e.kind = 4)  (hg : Gl w) (hB : 9 ≤ B) (hBw : B ≤ w.heap.size) :
    Calls Tryz.prog 15 #[slf b, .agg (edC e (.slice ga gl gc))] w (WPost B b e w) := by
  have k1 : (e.kind == 1) = false := by rw [hk]; rfl
  have k2 : (e.kind == 2) = false := by rw [hk]; rfl
  have k3 : (e.kind == 3) = false := by rw [hk]; rfl
  have k4 : (e.kind == 4) = true := by rw [hk]; rfl
  have k5 : (e.kind == 5) = false := by rw [hk]; rfl
  have k6 : (e.kind == 6) = false := by rw [hk]; rfl
  have k7 : (e.kind == 7) = false := by rw [hk]; rfl
  have k8 : (e.kind == 8) = false := by rw [hk]; rfl
  have k9 : (e.kind == 9) = false := by rw [hk]; rfl
  have k10 : (e.kind == 10) = false := by rw [hk]; rfl
  have k11 : (e.kind == 11) = false := by rw [hk]; rfl
  have k12 : (e.kind == 12) = false := by rw [hk]; rfl
  have HI := Lib.hid (show intsOf e = [e.number] by unfold intsOf; rw [hk]; simp)
  have HNM := Lib.hid (show numsOf e = [] by unfold numsOf; rw [hk]; simp)
  have HH := Lib.hid (show headsOf e = [wPurlin] by unfold headsOf; rw [hk]; simp)
  have hin : ∀ n ∈ ([e.number] : List Int), in64 n := by have := hs.ints; rw [HI.out] at this; exact this
  have hnu : ∀ a ∈ ([] : List By), a.length ≤ 1000 := by have := hs.nums; rw [HNM.out] at this; exact this
  have htx := hs.text
  have hbl := h.lt
  have HA := Lib.hid (h.alloc (.cells (edC e (.slice ga gl gc)) 39))
  have E0 := Lib.hid (EdAt.new w e (.slice ga gl gc))
  have HK0 := Lib.hid (BdKeep.alloc (B := B) (b := b) w hBw (.cells (edC e (.slice ga gl gc)) 39))
  have HG := Lib.hid hg
  have HIN := Lib.hid hin
  have HNU := Lib.hid hnu
  
  clear h hs hg hk hin hnu
  go_enter Tryz.func15, Tryz.ntmps15
  go_wp2_with (first
    | (go_at_call 24; refine (wword_any B b 0 0 [] wPurlin _ HA.out (by decide) (by simp; omega)).mono ?_; rintro r W1 ⟨rfl, hw1, hk1⟩; have E1 := Lib.hid (E0.out.bd hk1 (by omega)); have ec1 := fun i => E1.out.cell i; have hz1 := hk1.low.size; simp only [World.size_alloc] at hz1; have HW1 := Lib.hid hw1; have HK1 := Lib.hid (HK0.out.trans hk1); clear hw1 hk1)
    | (go_at_call 25; go_must (refine (wints_any B b _ 3 0 0 _ [e.number] _ _ (HW1.out.alloc _) (RowAt.new W1 _ (intV [e.number])) (by have := HW1.out.lt; omega) (by decide) HIN.out (by show _ + 21 * 1 ≤ _; decide) (by simp; omega) ((HG.out.keep HK1.out.low hB).keep ((Below.refl _ _).alloc (Nat.le_refl _) _) (by omega)) hB).mono ?_); rintro r W2 ⟨rfl, hw2, hk2⟩))
  go_end0
  refine ⟨rfl, ?_, (HK1.out.trans (BdKeep.alloc W1 (by omega) _)).trans hk2⟩
  rw [HI.out, HNM.out]
  unfold wordsOf
  rw [HI.out, HNM.out, HH.out]
  simp only [List.append_nil]
  exact hw2

set_option maxRecDepth 100000 in
set_option maxHeartbeats 4000000 in
theorem write_5 (B b : Nat) (e : Ed) (ga : Option Addr) (gl gc : Nat) (w : World) (h : Wrt B b 0 0 [] w) (hs : Sized e) (hk : e.kind = 5)  (hg : Gl w) (hB : 9 ≤ B) (hBw : B ≤ w.heap.size) :
    Calls Tryz.prog 15 #[slf b, .agg (edC e (.slice ga gl gc))] w (WPost B b e w) := by
  have k1 : (e.kind == 1) = false := by rw [hk]; rfl
  have k2 : (e.kind == 2) = false := by rw [hk]; rfl
  have k3 : (e.kind == 3) = false := by rw [hk]; rfl
  have k4 : (e.kind == 4) = false := by rw [hk]; rfl
  have k5 : (e.kind == 5) = true := by rw [hk]; rfl
  have k6 : (e.kind == 6) = false := by rw [hk]; rfl
  have k7 : (e.kind == 7) = false := by rw [hk]; rfl
  have k8 : (e.kind == 8) = false := by rw [hk]; rfl
  have k9 : (e.kind == 9) = false := by rw [hk]; rfl
  have k10 : (e.kind == 10) = false := by rw [hk]; rfl
  have k11 : (e.kind == 11) = false := by rw [hk]; rfl
  have k12 : (e.kind == 12) = false := by rw [hk]; rfl
  have HI := Lib.hid (show intsOf e = [e.index, e.oside] by unfold intsOf; rw [hk]; simp)
  have HNM := Lib.hid (show numsOf e = [e.oleft, e.oright, e.olow, e.ohigh] by unfold numsOf; rw [hk]; simp)
  have HH := Lib.hid (show headsOf e = [wOpening] by unfold headsOf; rw [hk]; simp)
  have hin : ∀ n ∈ ([e.index, e.oside] : List Int), in64 n := by have := hs.ints; rw [HI.out] at this; exact this
  have hnu : ∀ a ∈ ([e.oleft, e.oright, e.olow, e.ohigh] : List By), a.length ≤ 1000 := by have := hs.nums; rw [HNM.out] at this; exact this
  have htx := hs.text
  have hbl := h.lt
  have HA := Lib.hid (h.alloc (.cells (edC e (.slice ga gl gc)) 39))
  have E0 := Lib.hid (EdAt.new w e (.slice ga gl gc))
  have HK0 := Lib.hid (BdKeep.alloc (B := B) (b := b) w hBw (.cells (edC e (.slice ga gl gc)) 39))
  have HG := Lib.hid hg
  have HIN := Lib.hid hin
  have HNU := Lib.hid hnu
  
  clear h hs hg hk hin hnu
  go_enter Tryz.func15, Tryz.ntmps15
  go_wp2_with (first
    | (go_at_call 24; refine (wword_any B b 0 0 [] wOpening _ HA.out (by decide) (by simp; omega)).mono ?_; rintro r W1 ⟨rfl, hw1, hk1⟩; have E1 := Lib.hid (E0.out.bd hk1 (by omega)); have ec1 := fun i => E1.out.cell i; have hz1 := hk1.low.size; simp only [World.size_alloc] at hz1; have HW1 := Lib.hid hw1; have HK1 := Lib.hid (HK0.out.trans hk1); clear hw1 hk1)
    | (go_at_call 25; go_must (refine (wints_any B b _ 3 0 0 _ [e.index, e.oside] _ _ (HW1.out.alloc _) (RowAt.new W1 _ (intV [e.index, e.oside])) (by have := HW1.out.lt; omega) (by decide) HIN.out (by show _ + 21 * 2 ≤ _; decide) (by simp; omega) ((HG.out.keep HK1.out.low hB).keep ((Below.refl _ _).alloc (Nat.le_refl _) _) (by omega)) hB).mono ?_); rintro r W2 ⟨rfl, hw2, hk2⟩; have E2 := Lib.hid ((E1.out.alloc _).bd hk2 (by omega)); have ec2 := fun i => E2.out.cell i; have hz2 := hk2.low.size; simp only [World.size_alloc] at hz2; have hl2 := addWs_int_len HIN.out (addW [] wOpening); have HW2 := Lib.hid hw2; have HK2 := Lib.hid ((HK1.out.trans (BdKeep.alloc W1 (by omega) _)).trans hk2); clear hw2 hk2 ec1)
    | (go_at_call 26; go_must (refine (wnums_any B b _ 24 _ 0 _ [e.oleft, e.oright, e.olow, e.ohigh] _ _ (HW2.out.alloc _) (RowAt.new W2 _ (strV [e.oleft, e.oright, e.olow, e.ohigh])) (by have := HW2.out.lt; omega) (by decide) HNU.out (by show 4 ≤ 100; decide) (Nat.le_trans hl2 (by show _ + 21 * 2 ≤ _; decide)) (by simp; omega) ((HG.out.keep HK2.out.low hB).keep ((Below.refl _ _).alloc (Nat.le_refl _) _) (by omega)) hB).mono ?_); rintro r W3 ⟨rfl, hw3, hk3⟩))
  go_end0
  refine ⟨rfl, ?_, (HK2.out.trans (BdKeep.alloc W2 (by omega) _)).trans hk3⟩
  rw [HI.out, HNM.out]
  unfold wordsOf
  rw [HI.out, HNM.out, HH.out, addWs_app]
  exact hw3

set_option maxRecDepth 100000 in
set_option maxHeartbeats 4000000 in
theorem write_8 (B b : Nat) (e : Ed) (ga : Option Addr) (gl gc : Nat) (w : World) (h : Wrt B b 0 0 [] w) (hs : Sized e) (hk : e.kind = 8)  (hg : Gl w) (hB : 9 ≤ B) (hBw : B ≤ w.heap.size) :
    Calls Tryz.prog 15 #[slf b, .agg (edC e (.slice ga gl gc))] w (WPost B b e w) := by
  have k1 : (e.kind == 1) = false := by rw [hk]; rfl
  have k2 : (e.kind == 2) = false := by rw [hk]; rfl
  have k3 : (e.kind == 3) = false := by rw [hk]; rfl
  have k4 : (e.kind == 4) = false := by rw [hk]; rfl
  have k5 : (e.kind == 5) = false := by rw [hk]; rfl
  have k6 : (e.kind == 6) = false := by rw [hk]; rfl
  have k7 : (e.kind == 7) = false := by rw [hk]; rfl
  have k8 : (e.kind == 8) = true := by rw [hk]; rfl
  have k9 : (e.kind == 9) = false := by rw [hk]; rfl
  have k10 : (e.kind == 10) = false := by rw [hk]; rfl
  have k11 : (e.kind == 11) = false := by rw [hk]; rfl
  have k12 : (e.kind == 12) = false := by rw [hk]; rfl
  have HI := Lib.hid (show intsOf e = [e.number] by unfold intsOf; rw [hk]; simp)
  have HNM := Lib.hid (show numsOf e = [] by unfold numsOf; rw [hk]; simp)
  have HH := Lib.hid (show headsOf e = [wKerf] by unfold headsOf; rw [hk]; simp)
  have hin : ∀ n ∈ ([e.number] : List Int), in64 n := by have := hs.ints; rw [HI.out] at this; exact this
  have hnu : ∀ a ∈ ([] : List By), a.length ≤ 1000 := by have := hs.nums; rw [HNM.out] at this; exact this
  have htx := hs.text
  have hbl := h.lt
  have HA := Lib.hid (h.alloc (.cells (edC e (.slice ga gl gc)) 39))
  have E0 := Lib.hid (EdAt.new w e (.slice ga gl gc))
  have HK0 := Lib.hid (BdKeep.alloc (B := B) (b := b) w hBw (.cells (edC e (.slice ga gl gc)) 39))
  have HG := Lib.hid hg
  have HIN := Lib.hid hin
  have HNU := Lib.hid hnu
  
  clear h hs hg hk hin hnu
  go_enter Tryz.func15, Tryz.ntmps15
  go_wp2_with (first
    | (go_at_call 24; refine (wword_any B b 0 0 [] wKerf _ HA.out (by decide) (by simp; omega)).mono ?_; rintro r W1 ⟨rfl, hw1, hk1⟩; have E1 := Lib.hid (E0.out.bd hk1 (by omega)); have ec1 := fun i => E1.out.cell i; have hz1 := hk1.low.size; simp only [World.size_alloc] at hz1; have HW1 := Lib.hid hw1; have HK1 := Lib.hid (HK0.out.trans hk1); clear hw1 hk1)
    | (go_at_call 25; go_must (refine (wints_any B b _ 3 0 0 _ [e.number] _ _ (HW1.out.alloc _) (RowAt.new W1 _ (intV [e.number])) (by have := HW1.out.lt; omega) (by decide) HIN.out (by show _ + 21 * 1 ≤ _; decide) (by simp; omega) ((HG.out.keep HK1.out.low hB).keep ((Below.refl _ _).alloc (Nat.le_refl _) _) (by omega)) hB).mono ?_); rintro r W2 ⟨rfl, hw2, hk2⟩))
  go_end0
  refine ⟨rfl, ?_, (HK1.out.trans (BdKeep.alloc W1 (by omega) _)).trans hk2⟩
  rw [HI.out, HNM.out]
  unfold wordsOf
  rw [HI.out, HNM.out, HH.out]
  simp only [List.append_nil]
  exact hw2

set_option maxRecDepth 100000 in
set_option maxHeartbeats 4000000 in
theorem write_9 (B b : Nat) (e : Ed) (ga : Option Addr) (gl gc : Nat) (w : World) (h : Wrt B b 0 0 [] w) (hs : Sized e) (hk : e.kind = 9)  (hg : Gl w) (hB : 9 ≤ B) (hBw : B ≤ w.heap.size) :
    Calls Tryz.prog 15 #[slf b, .agg (edC e (.slice ga gl gc))] w (WPost B b e w) := by
  have k1 : (e.kind == 1) = false := by rw [hk]; rfl
  have k2 : (e.kind == 2) = false := by rw [hk]; rfl
  have k3 : (e.kind == 3) = false := by rw [hk]; rfl
  have k4 : (e.kind == 4) = false := by rw [hk]; rfl
  have k5 : (e.kind == 5) = false := by rw [hk]; rfl
  have k6 : (e.kind == 6) = false := by rw [hk]; rfl
  have k7 : (e.kind == 7) = false := by rw [hk]; rfl
  have k8 : (e.kind == 8) = false := by rw [hk]; rfl
  have k9 : (e.kind == 9) = true := by rw [hk]; rfl
  have k10 : (e.kind == 10) = false := by rw [hk]; rfl
  have k11 : (e.kind == 11) = false := by rw [hk]; rfl
  have k12 : (e.kind == 12) = false := by rw [hk]; rfl
  have HI := Lib.hid (show intsOf e = [e.twidth, e.tlength, e.tlap, e.ttail] by unfold intsOf; rw [hk]; simp)
  have HNM := Lib.hid (show numsOf e = [] by unfold numsOf; rw [hk]; simp)
  have HH := Lib.hid (show headsOf e = [wTile] by unfold headsOf; rw [hk]; simp)
  have hin : ∀ n ∈ ([e.twidth, e.tlength, e.tlap, e.ttail] : List Int), in64 n := by have := hs.ints; rw [HI.out] at this; exact this
  have hnu : ∀ a ∈ ([] : List By), a.length ≤ 1000 := by have := hs.nums; rw [HNM.out] at this; exact this
  have htx := hs.text
  have hbl := h.lt
  have HA := Lib.hid (h.alloc (.cells (edC e (.slice ga gl gc)) 39))
  have E0 := Lib.hid (EdAt.new w e (.slice ga gl gc))
  have HK0 := Lib.hid (BdKeep.alloc (B := B) (b := b) w hBw (.cells (edC e (.slice ga gl gc)) 39))
  have HG := Lib.hid hg
  have HIN := Lib.hid hin
  have HNU := Lib.hid hnu
  
  clear h hs hg hk hin hnu
  go_enter Tryz.func15, Tryz.ntmps15
  go_wp2_with (first
    | (go_at_call 24; refine (wword_any B b 0 0 [] wTile _ HA.out (by decide) (by simp; omega)).mono ?_; rintro r W1 ⟨rfl, hw1, hk1⟩; have E1 := Lib.hid (E0.out.bd hk1 (by omega)); have ec1 := fun i => E1.out.cell i; have hz1 := hk1.low.size; simp only [World.size_alloc] at hz1; have HW1 := Lib.hid hw1; have HK1 := Lib.hid (HK0.out.trans hk1); clear hw1 hk1)
    | (go_at_call 25; go_must (refine (wints_any B b _ 3 0 0 _ [e.twidth, e.tlength, e.tlap, e.ttail] _ _ (HW1.out.alloc _) (RowAt.new W1 _ (intV [e.twidth, e.tlength, e.tlap, e.ttail])) (by have := HW1.out.lt; omega) (by decide) HIN.out (by show _ + 21 * 4 ≤ _; decide) (by simp; omega) ((HG.out.keep HK1.out.low hB).keep ((Below.refl _ _).alloc (Nat.le_refl _) _) (by omega)) hB).mono ?_); rintro r W2 ⟨rfl, hw2, hk2⟩))
  go_end0
  refine ⟨rfl, ?_, (HK1.out.trans (BdKeep.alloc W1 (by omega) _)).trans hk2⟩
  rw [HI.out, HNM.out]
  unfold wordsOf
  rw [HI.out, HNM.out, HH.out]
  simp only [List.append_nil]
  exact hw2

set_option maxRecDepth 100000 in
set_option maxHeartbeats 4000000 in
theorem write_10 (B b : Nat) (e : Ed) (ga : Option Addr) (gl gc : Nat) (w : World) (h : Wrt B b 0 0 [] w) (hs : Sized e) (hk : e.kind = 10)  (hg : Gl w) (hB : 9 ≤ B) (hBw : B ≤ w.heap.size) :
    Calls Tryz.prog 15 #[slf b, .agg (edC e (.slice ga gl gc))] w (WPost B b e w) := by
  have k1 : (e.kind == 1) = false := by rw [hk]; rfl
  have k2 : (e.kind == 2) = false := by rw [hk]; rfl
  have k3 : (e.kind == 3) = false := by rw [hk]; rfl
  have k4 : (e.kind == 4) = false := by rw [hk]; rfl
  have k5 : (e.kind == 5) = false := by rw [hk]; rfl
  have k6 : (e.kind == 6) = false := by rw [hk]; rfl
  have k7 : (e.kind == 7) = false := by rw [hk]; rfl
  have k8 : (e.kind == 8) = false := by rw [hk]; rfl
  have k9 : (e.kind == 9) = false := by rw [hk]; rfl
  have k10 : (e.kind == 10) = true := by rw [hk]; rfl
  have k11 : (e.kind == 11) = false := by rw [hk]; rfl
  have k12 : (e.kind == 12) = false := by rw [hk]; rfl
  have HI := Lib.hid (show intsOf e = [e.index, e.lkind, e.lside] by unfold intsOf; rw [hk]; simp)
  have HNM := Lib.hid (show numsOf e = [e.lweight] by unfold numsOf; rw [hk]; simp)
  have HH := Lib.hid (show headsOf e = [wLoad] by unfold headsOf; rw [hk]; simp)
  have hin : ∀ n ∈ ([e.index, e.lkind, e.lside] : List Int), in64 n := by have := hs.ints; rw [HI.out] at this; exact this
  have hnu : ∀ a ∈ ([e.lweight] : List By), a.length ≤ 1000 := by have := hs.nums; rw [HNM.out] at this; exact this
  have htx := hs.text
  have hbl := h.lt
  have HA := Lib.hid (h.alloc (.cells (edC e (.slice ga gl gc)) 39))
  have E0 := Lib.hid (EdAt.new w e (.slice ga gl gc))
  have HK0 := Lib.hid (BdKeep.alloc (B := B) (b := b) w hBw (.cells (edC e (.slice ga gl gc)) 39))
  have HG := Lib.hid hg
  have HIN := Lib.hid hin
  have HNU := Lib.hid hnu
  
  clear h hs hg hk hin hnu
  go_enter Tryz.func15, Tryz.ntmps15
  go_wp2_with (first
    | (go_at_call 24; refine (wword_any B b 0 0 [] wLoad _ HA.out (by decide) (by simp; omega)).mono ?_; rintro r W1 ⟨rfl, hw1, hk1⟩; have E1 := Lib.hid (E0.out.bd hk1 (by omega)); have ec1 := fun i => E1.out.cell i; have hz1 := hk1.low.size; simp only [World.size_alloc] at hz1; have HW1 := Lib.hid hw1; have HK1 := Lib.hid (HK0.out.trans hk1); clear hw1 hk1)
    | (go_at_call 25; go_must (refine (wints_any B b _ 3 0 0 _ [e.index, e.lkind, e.lside] _ _ (HW1.out.alloc _) (RowAt.new W1 _ (intV [e.index, e.lkind, e.lside])) (by have := HW1.out.lt; omega) (by decide) HIN.out (by show _ + 21 * 3 ≤ _; decide) (by simp; omega) ((HG.out.keep HK1.out.low hB).keep ((Below.refl _ _).alloc (Nat.le_refl _) _) (by omega)) hB).mono ?_); rintro r W2 ⟨rfl, hw2, hk2⟩; have E2 := Lib.hid ((E1.out.alloc _).bd hk2 (by omega)); have ec2 := fun i => E2.out.cell i; have hz2 := hk2.low.size; simp only [World.size_alloc] at hz2; have hl2 := addWs_int_len HIN.out (addW [] wLoad); have HW2 := Lib.hid hw2; have HK2 := Lib.hid ((HK1.out.trans (BdKeep.alloc W1 (by omega) _)).trans hk2); clear hw2 hk2 ec1)
    | (go_at_call 26; go_must (refine (wnums_any B b _ 24 _ 0 _ [e.lweight] _ _ (HW2.out.alloc _) (RowAt.new W2 _ (strV [e.lweight])) (by have := HW2.out.lt; omega) (by decide) HNU.out (by show 1 ≤ 100; decide) (Nat.le_trans hl2 (by show _ + 21 * 3 ≤ _; decide)) (by simp; omega) ((HG.out.keep HK2.out.low hB).keep ((Below.refl _ _).alloc (Nat.le_refl _) _) (by omega)) hB).mono ?_); rintro r W3 ⟨rfl, hw3, hk3⟩))
  go_end0
  refine ⟨rfl, ?_, (HK2.out.trans (BdKeep.alloc W2 (by omega) _)).trans hk3⟩
  rw [HI.out, HNM.out]
  unfold wordsOf
  rw [HI.out, HNM.out, HH.out, addWs_app]
  exact hw3

set_option maxRecDepth 100000 in
set_option maxHeartbeats 4000000 in
theorem write_11 (B b : Nat) (e : Ed) (ga : Option Addr) (gl gc : Nat) (w : World) (h : Wrt B b 0 0 [] w) (hs : Sized e) (hk : e.kind = 11)  (hg : Gl w) (hB : 9 ≤ B) (hBw : B ≤ w.heap.size) :
    Calls Tryz.prog 15 #[slf b, .agg (edC e (.slice ga gl gc))] w (WPost B b e w) := by
  have k1 : (e.kind == 1) = false := by rw [hk]; rfl
  have k2 : (e.kind == 2) = false := by rw [hk]; rfl
  have k3 : (e.kind == 3) = false := by rw [hk]; rfl
  have k4 : (e.kind == 4) = false := by rw [hk]; rfl
  have k5 : (e.kind == 5) = false := by rw [hk]; rfl
  have k6 : (e.kind == 6) = false := by rw [hk]; rfl
  have k7 : (e.kind == 7) = false := by rw [hk]; rfl
  have k8 : (e.kind == 8) = false := by rw [hk]; rfl
  have k9 : (e.kind == 9) = false := by rw [hk]; rfl
  have k10 : (e.kind == 10) = false := by rw [hk]; rfl
  have k11 : (e.kind == 11) = true := by rw [hk]; rfl
  have k12 : (e.kind == 12) = false := by rw [hk]; rfl
  have HI := Lib.hid (show intsOf e = [e.awidth, e.adepth, e.aspacing, e.aload, e.aspan] by unfold intsOf; rw [hk]; simp)
  have HNM := Lib.hid (show numsOf e = [] by unfold numsOf; rw [hk]; simp)
  have HH := Lib.hid (show headsOf e = [wSpan] by unfold headsOf; rw [hk]; simp)
  have hin : ∀ n ∈ ([e.awidth, e.adepth, e.aspacing, e.aload, e.aspan] : List Int), in64 n := by have := hs.ints; rw [HI.out] at this; exact this
  have hnu : ∀ a ∈ ([] : List By), a.length ≤ 1000 := by have := hs.nums; rw [HNM.out] at this; exact this
  have htx := hs.text
  have hbl := h.lt
  have HA := Lib.hid (h.alloc (.cells (edC e (.slice ga gl gc)) 39))
  have E0 := Lib.hid (EdAt.new w e (.slice ga gl gc))
  have HK0 := Lib.hid (BdKeep.alloc (B := B) (b := b) w hBw (.cells (edC e (.slice ga gl gc)) 39))
  have HG := Lib.hid hg
  have HIN := Lib.hid hin
  have HNU := Lib.hid hnu
  
  clear h hs hg hk hin hnu
  have HA2 := Lib.hid (HA.out.alloc (.cells (([.int .i64 e.awidth, .int .i64 e.adepth, .int .i64 e.aspacing, .int .i64 e.aload, .int .i64 e.aspan] : List Value)).toArray 35))
  have A0 := Lib.hid (RowAt.new (w.alloc (.cells (edC e (.slice ga gl gc)) 39)) 35 [.int .i64 e.awidth, .int .i64 e.adepth, .int .i64 e.aspacing, .int .i64 e.aload, .int .i64 e.aspan])
  have HK00 := Lib.hid (HK0.out.trans (BdKeep.alloc (w.alloc (.cells (edC e (.slice ga gl gc)) 39)) (by simp; omega) (.cells (([.int .i64 e.awidth, .int .i64 e.adepth, .int .i64 e.aspacing, .int .i64 e.aload, .int .i64 e.aspan] : List Value)).toArray 35)))
  go_enter Tryz.func15, Tryz.ntmps15
  go_wp2_with (first
    | (go_at_call 24; refine (wword_any B b 0 0 [] wSpan _ HA2.out (by decide) (by simp; omega)).mono ?_; rintro r W1 ⟨rfl, hw1, hk1⟩; have A1 := Lib.hid (A0.out.bd hk1 (by simp; omega) (by decide)); have ac1 := fun i => A1.out.cell i; simp only [World.size_alloc] at ac1; have hz1 := hk1.low.size; simp only [World.size_alloc] at hz1; have HW1 := Lib.hid hw1; have HK1 := Lib.hid (HK00.out.trans hk1); clear hw1 hk1)
    | (go_at_call 25; go_must (refine (wints_any B b _ 3 0 0 _ [e.awidth, e.adepth, e.aspacing, e.aload, e.aspan] _ _ (HW1.out.alloc _) (RowAt.new W1 _ (intV [e.awidth, e.adepth, e.aspacing, e.aload, e.aspan])) (by have := HW1.out.lt; omega) (by decide) HIN.out (by show _ + 21 * 5 ≤ _; decide) (by simp; omega) ((HG.out.keep HK1.out.low hB).keep ((Below.refl _ _).alloc (Nat.le_refl _) _) (by omega)) hB).mono ?_); rintro r W2 ⟨rfl, hw2, hk2⟩))
  go_end0
  refine ⟨rfl, ?_, (HK1.out.trans (BdKeep.alloc W1 (by omega) _)).trans hk2⟩
  rw [HI.out, HNM.out]
  unfold wordsOf
  rw [HI.out, HNM.out, HH.out]
  simp only [List.append_nil]
  exact hw2
end Go.Proofs.YtbnnccnicfddlaaGreatDoor
