/- change.reader: word, int, num: the walks. · strings.Split at a blank, as the reader takes it. -/
import Derived.Test.YtbnnccnicfddlaaGreatDoorMap1
import Derived.Test.YtbnnccnicfddlaaGreatDoorChgC
set_option linter.unusedSimpArgs false
set_option linter.unusedVariables false
namespace Go.Proofs.YtbnnccnicfddlaaGreatDoor
open Go.RowKit Go.Shelf Kp

/-- a reader lies at block b: the words that are left, and whether something was wrong -/
structure RdAt (B N b : Nat) (r : Rdr) (w : World) : Prop where
  lo : B ≤ b
  hi : b < N
  ex : ∃ sb off cap, w.heap[b]? = some (.cells #[.slice (some ⟨sb, off, none⟩) r.1.length cap, .bool r.2] 70 (0, 0)) ∧ sb ≠ b ∧ sb < N ∧ r.1.length ≤ cap ∧ cap ≤ 1000000 ∧
    (∃ cur : Array Value, w.heap[sb]? = some (.cells cur 9 (0, 0))) ∧ ∀ j (hj : j < r.1.length), w.cell? ⟨sb, off + j, none⟩ = some (.string (tx (r.1[j]'hj)))
  len : ∀ x ∈ r.1, x.length ≤ 100000
theorem RdAt.far {B N b : Nat} {r : Rdr} {w : World} (h : RdAt B N b r w) {p : Addr} (hp : N ≤ p.block) (x : Value) : RdAt B N b r (w.setCell p x) := by
  obtain ⟨lo, hi, ⟨sb, off, cap, h1, h2, h3, h4, h5, ⟨cur, h7⟩, h8⟩, hl⟩ := h
  exact ⟨lo, hi, ⟨sb, off, cap, (Below.heap_setCell w p x b (by omega)).trans h1, h2, h3, h4, h5, ⟨cur, (Below.heap_setCell w p x sb (by omega)).trans h7⟩, fun j hj => by
    rw [World.cell?_setCell_other]
    · exact h8 j hj
    · intro e
      have e1 : p.block = sb := congrArg Addr.block e
      omega⟩, hl⟩
/-- what the reader's calls leave: block b alone has turned, and new blocks are there -/
structure RdKeep (B b : Nat) (w w' : World) : Prop where
  low : Below B w w'
  others : ∀ k, k < w.heap.size → k ≠ b → w'.heap[k]? = w.heap[k]?
theorem RdKeep.refl (B b : Nat) (w : World) : RdKeep B b w w := ⟨Below.refl _ _, fun _ _ _ => rfl⟩
theorem RdKeep.trans {B b : Nat} {u v w : World} (h : RdKeep B b u v) (k : RdKeep B b v w) : RdKeep B b u w :=
  ⟨h.low.trans k.low, fun j hj hb => (k.others j (Nat.lt_of_lt_of_le hj h.low.size) hb).trans (h.others j hj hb)⟩
theorem RdKeep.of_below {B b : Nat} {w w' : World} (h : Below w.heap.size w w') (hB : B ≤ w.heap.size) : RdKeep B b w w' := ⟨h.mono hB, fun k hk _ => h.block k hk⟩
theorem RdKeep.set {B b : Nat} (w : World) (hB : B ≤ b) (i : Nat) (x : Value) : RdKeep B b w (w.setCell ⟨b, i, none⟩ x) :=
  ⟨(Below.refl _ _).setCell (p := ⟨b, i, none⟩) hB _, fun k _ hk => Below.heap_setCell w ⟨b, i, none⟩ x k hk⟩
theorem RdAt.below {B N b : Nat} {r : Rdr} {w w' : World} (h : RdAt B N b r w) (hb : Below w.heap.size w w') : RdAt B N b r w' := by
  obtain ⟨lo, hi, ⟨sb, off, cap, h1, h2, h3, h4, h5, ⟨cur, h7⟩, h8⟩, hl⟩ := h
  have l1 : b < w.heap.size := (Array.getElem?_eq_some_iff.1 h1).1
  have l2 : sb < w.heap.size := (Array.getElem?_eq_some_iff.1 h7).1
  exact ⟨lo, hi, ⟨sb, off, cap, (hb.block b l1).trans h1, h2, h3, h4, h5, ⟨cur, (hb.block sb l2).trans h7⟩, fun j hj => (hb.cell l2).trans (h8 j hj)⟩, hl⟩
theorem RdAt.lt {B N b : Nat} {r : Rdr} {w : World} (h : RdAt B N b r w) : b < w.heap.size := by
  obtain ⟨lo, hi, ⟨sb, off, cap, h1, _⟩, hl⟩ := h
  exact (Array.getElem?_eq_some_iff.1 h1).1
def RdPost2 (B N b : Nat) (v : Value) (r : Rdr) (w : World) (e : Ending) (w' : World) : Prop := e = .returned v ∧ RdAt B N b r w' ∧ RdKeep B b w w'

set_option maxRecDepth 100000 in
set_option maxHeartbeats 1000000 in
theorem rdword_any (B N b : Nat) (r : Rdr) (w : World) (h : RdAt B N b r w) :
    Calls Tryz.prog 29 #[slf b] w (RdPost2 B N b (.string (tx (rW r).1)) (rW r).2 w) := by
  obtain ⟨ws, wrong⟩ := r
  obtain ⟨lo, hi, ⟨sb, off, cap, h1, h2, h3, h4, h5, ⟨cur, h7⟩, h8⟩, hl⟩ := h
  have X : Bx2 w b 70 (.slice (some ⟨sb, off, none⟩) ws.length cap) (.bool wrong) := h1
  have c0 := X.cell0
  have c1 := X.cell1
  have f0 := X.frozen 0
  have f1 := X.frozen 1
  cases ws with
  | nil =>
    have HX := Lib.hid X
    have HS := Lib.hid (show RdAt B N b ([], true) (w.setCell ⟨b, 1, none⟩ (.bool true)) from ⟨lo, hi, ⟨sb, off, cap, X.put1 _, h2, h3, h4, h5, ⟨cur, (Below.heap_setCell w ⟨b, 1, none⟩ _ sb h2).trans h7⟩, fun j hj => absurd hj (by simp)⟩, hl⟩)
    clear h1 X h7 h8 hl
    go_enter Tryz.func29, Tryz.ntmps29
    go_wp2
    go_ret
    exact ⟨rfl, HS.out, RdKeep.set w lo 1 _⟩
  | cons s t =>
    have hc := h8 0 (by simp)
    simp only [List.getElem_cons_zero, Nat.add_zero] at hc
    have h4' : t.length + 1 ≤ cap := by simpa using h4
    by_cases hcap : cap = 1
    · subst hcap
      have ht0 : t = [] := List.length_eq_zero_iff.1 (by omega)
      subst ht0
      have HS := Lib.hid (show RdAt B N b ([], wrong) (w.setCell ⟨b, 0, none⟩ (.slice (some ⟨sb, off, none⟩) 0 0)) from ⟨lo, hi, ⟨sb, off, 0, X.put0 _, h2, h3, by simp, by omega, ⟨cur, (Below.heap_setCell w ⟨b, 0, none⟩ _ sb h2).trans h7⟩, fun j hj => absurd hj (by simp)⟩, fun x hx => by cases hx⟩)
      clear h1 X h7 h8 hl h4
      go_enter Tryz.func29, Tryz.ntmps29
      go_wp2
      go_ret
      exact ⟨rfl, HS.out, RdKeep.set w lo 0 _⟩
    · have HS := Lib.hid (show RdAt B N b (t, wrong) (w.setCell ⟨b, 0, none⟩ (.slice (some ⟨sb, off + 1, none⟩) t.length (cap - 1))) from ⟨lo, hi, ⟨sb, off + 1, cap - 1, X.put0 _, h2, h3, by show t.length ≤ _; omega, by omega, ⟨cur, (Below.heap_setCell w ⟨b, 0, none⟩ _ sb h2).trans h7⟩, fun j hj => by
        have := h8 (j + 1) (by simp; exact hj)
        simp only [List.getElem_cons_succ] at this
        rw [show off + 1 + j = off + (j + 1) by omega]
        rw [World.cell?_setCell_other]
        · exact this
        · intro e; exact h2 (congrArg Addr.block e).symm⟩, fun x hx => hl x (List.mem_cons_of_mem _ hx)⟩)
      have hcap0 : (cap - 1 == 0) = false := by rw [beq_eq_false_iff_ne]; omega
      have hcap1 : ¬ cap - 1 = 0 := by omega
      clear h1 X h7 h8 hl h4
      go_enter Tryz.func29, Tryz.ntmps29
      go_wp2
      go_ret
      exact ⟨rfl, HS.out, RdKeep.set w lo 0 _⟩

theorem rdnum_any (B N b : Nat) (r : Rdr) (w : World) (h : RdAt B N b r w) :
    Calls Tryz.prog 31 #[slf b] w (RdPost2 B N b (.string (tx (rW r).1)) (rW r).2 w) := by
  have hc := Lib.hid (rdword_any B N b r w h)
  clear h
  go_enter Tryz.func31, Tryz.ntmps31
  go_wp2_with (go_at_call 29; refine hc.out.mono ?_; rintro e w1 ⟨rfl, h1, h2⟩)
  go_ret
  exact ⟨rfl, h1, h2⟩

def AtPost (w : World) (s : By) (e : Ending) (w' : World) : Prop :=
  ∃ ev, e = .returned (.tuple #[.int .i64 (atoiV s).1, ev]) ∧ (((atoiV s).2 = false ∧ ev = .nilIface) ∨ ((atoiV s).2 = true ∧ ∃ t p, ev = .iface t p)) ∧ Below w.heap.size w w'
theorem atoi_any (s : By) (w : World) (hs : s.length ≤ 100000) (hg : Gl w) : Calls Tryz.prog 42 #[.string (tx s)] w (AtPost w s) := by
  cases ha : Lib.atoiAll s
  · rename_i v
    have hv : atoiV s = (v, false) := by unfold atoiV; rw [ha]
    refine (Tryz.strconv_Atoi_ok (tx s) (by rw [tx_size]; omega) v (by rw [tx_list]; exact ha) w).mono ?_
    rintro e w' ⟨rfl, hw⟩
    refine ⟨_, by rw [hv], .inl ⟨by rw [hv], rfl⟩, ?_⟩
    rcases hw with rfl | ⟨t, rfl⟩
    · exact Below.refl _ _
    · exact Lib.bytesWorld_below _ _ _
  · have hv : atoiV s = (0, true) := by unfold atoiV; rw [ha]
    obtain ⟨tp, p, hvar⟩ := hg.syn
    refine (Tryz.strconv_Atoi_syntax_var (tx s) (by rw [tx_size]; omega) (by rw [tx_list]; exact ha.trans rfl) tp p w hvar).mono ?_
    rintro e w' ⟨N, rfl, _, _, hB⟩
    exact ⟨_, by rw [hv], .inr ⟨by rw [hv], _, _, rfl⟩, hB⟩
  · have hv : atoiV s = (Lib.atoiSat s, true) := by unfold atoiV; rw [ha]
    obtain ⟨tp, p, hvar⟩ := hg.rng
    refine (Tryz.strconv_Atoi_range_var (tx s) (by rw [tx_size]; omega) (by rw [tx_list]; exact ha) tp p w hvar).mono ?_
    rintro e w' ⟨N, rfl, _, _, hB⟩
    exact ⟨_, by rw [hv, tx_list], .inr ⟨by rw [hv], _, _, rfl⟩, hB⟩

theorem RdAt.setWrong {B N b : Nat} {r : Rdr} {w : World} (h : RdAt B N b r w) (x : Bool) : RdAt B N b (r.1, x) (w.setCell ⟨b, 1, none⟩ (.bool x)) := by
  obtain ⟨lo, hi, ⟨sb, off, cap, h1, h2, h3, h4, h5, ⟨cur, h7⟩, h8⟩, hl⟩ := h
  have X : Bx2 w b 70 (.slice (some ⟨sb, off, none⟩) r.1.length cap) (.bool r.2) := h1
  exact ⟨lo, hi, ⟨sb, off, cap, X.put1 _, h2, h3, h4, h5, ⟨cur, (Below.heap_setCell w ⟨b, 1, none⟩ _ sb h2).trans h7⟩, fun j hj => by
    rw [World.cell?_setCell_other]
    · exact h8 j hj
    · intro e; exact h2 (congrArg Addr.block e).symm⟩, hl⟩
theorem RdAt.cells {B N b : Nat} {r : Rdr} {w : World} (h : RdAt B N b r w) : w.cell? ⟨b, 1, none⟩ = some (.bool r.2) ∧ w.frozen? ⟨b, 1, none⟩ = false ∧ ∃ A c, w.cell? ⟨b, 0, none⟩ = some (.slice A r.1.length c) := by
  obtain ⟨lo, hi, ⟨sb, off, cap, h1, _⟩, hl⟩ := h
  have X : Bx2 w b 70 (.slice (some ⟨sb, off, none⟩) r.1.length cap) (.bool r.2) := h1
  exact ⟨X.cell1, X.frozen 1, _, _, X.cell0⟩
theorem rW_len {B N b : Nat} {r : Rdr} {w : World} (h : RdAt B N b r w) : (rW r).1.length ≤ 100000 := by
  obtain ⟨ws, x⟩ := r
  cases ws with
  | nil => simp [rW]
  | cons s t => exact h.len s (List.mem_cons_self ..)

set_option maxRecDepth 100000 in
set_option maxHeartbeats 1000000 in
theorem rdint_any (B N b : Nat) (r : Rdr) (w : World) (h : RdAt B N b r w) (hg : Gl w) (hB : 9 ≤ B) (hBw : B ≤ w.heap.size) :
    Calls Tryz.prog 30 #[slf b] w (RdPost2 B N b (.int .i64 (rI r).1) (rI r).2 w) := by
  have hc := Lib.hid (rdword_any B N b r w h)
  have hl := rW_len h
  have hnil := fun W => run_eql_nil_nil (P := Tryz.prog) W 93 (by kernel_rfl)
  have HG := Lib.hid hg
  have lo := h.lo
  clear h hg
  go_enter Tryz.func30, Tryz.ntmps30
  go_upto_region 2 with (first
    | (go_at_call 29; refine hc.out.mono ?_; rintro e w1 ⟨rfl, h1, h2⟩; have H1 := Lib.hid h1; have K1 := Lib.hid h2; clear h1 h2)
    | (go_at_call 42; refine (atoi_any _ _ hl (HG.out.keep K1.out.low hB)).mono ?_; rintro e w2 ⟨ev, rfl, hev, hB2⟩; have H2 := Lib.hid (H1.out.below hB2); have K2 := Lib.hid (K1.out.trans (RdKeep.of_below hB2 (by have := K1.out.low.size; omega))); have HEV := Lib.hid hev; clear hev))
  obtain ⟨c1, f1, _⟩ := H2.out.cells
  have HS := Lib.hid (fun x => (H2.out.setWrong x))
  cases hr : (rW r).2.2 with
  | true =>
    have HR := Lib.hid (show (rI r).2 = ((rW r).2.1, true) by unfold rI; rw [hr]; rfl)
    rw [hr] at c1
    go_wp2
    go_ret
    exact ⟨rfl, by rw [HR.out]; exact HS.out true, K2.out.trans (RdKeep.set _ lo 1 _)⟩
  | false =>
    rw [hr] at c1
    rcases HEV.out with ⟨hv, rfl⟩ | ⟨hv, t, p, rfl⟩
    · have HR := Lib.hid (show (rI r).2 = ((rW r).2.1, false) by unfold rI; rw [hr, hv]; rfl)
      clear HEV
      go_wp2
      go_ret
      exact ⟨rfl, by rw [HR.out]; exact HS.out false, K2.out.trans (RdKeep.set _ lo 1 _)⟩
    · have HR := Lib.hid (show (rI r).2 = ((rW r).2.1, true) by unfold rI; rw [hr, hv]; rfl)
      clear HEV
      go_wp2
      go_ret
      exact ⟨rfl, by rw [HR.out]; exact HS.out true, K2.out.trans (RdKeep.set _ lo 1 _)⟩
end Go.Proofs.YtbnnccnicfddlaaGreatDoor
namespace Go.Proofs.YtbnnccnicfddlaaGreatDoor
open Go.RowKit Go.Shelf Kp

theorem splitB_tx (s : By) : Lib.splitB (tx [32]) 0 (Lib.countB (tx s) (tx [32])) (tx s) = (Lib.split s [32]).map tx := by
  have h := Lib.splitB_data (tx [32]) 0 (Lib.countB (tx s) (tx [32])) (tx s)
  rw [tx_list, tx_list] at h
  have hc : Lib.countB (tx s) (tx [32]) = Lib.count s [32] := by unfold Lib.countB; rw [tx_list, tx_list]
  rw [hc] at h ⊢
  have h2 : Lib.split s [32] = (Lib.splitB (tx [32]) 0 (Lib.count s [32]) (tx s)).map (·.data.toList) := h.symm
  rw [h2, List.map_map]
  have : (tx ∘ fun x : ByteArray => x.data.toList) = id := by funext x; exact tx_self x
  rw [this, List.map_id]
theorem split_len (s : By) : (Lib.split s [32]).length = Lib.countB (tx s) (tx [32]) + 1 := by
  have h := Lib.splitB_all (tx [32]) (by decide) 0 _ (tx s) rfl
  rw [splitB_tx, List.length_map] at h
  exact h
theorem split_any (s : By) (w : World) (hs : s.length ≤ 65536) (hm : MaxL w) :
    Calls Tryz.prog 17 #[.string (tx s), .string ⟨#[32]⟩] w fun e w' => e = .returned (.slice (some ⟨w.heap.size, 0, none⟩) (Lib.split s [32]).length (Lib.split s [32]).length) ∧ w' = w.alloc (.cells (strV (Lib.split s [32])).toArray 9) := by
  obtain ⟨m, hm⟩ := hm
  refine (Tryz.strings_Split (tx s) (tx [32]) m w (by rw [tx_size]; omega) hm (by decide)).mono ?_
  rintro e w' ⟨rfl, rfl⟩
  rw [split_len]
  refine ⟨rfl, ?_⟩
  rw [splitB_tx, List.map_map]
  rfl
end Go.Proofs.YtbnnccnicfddlaaGreatDoor
