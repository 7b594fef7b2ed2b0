/- rational.gcd, nativeOf: the walks. · rational.nativeOf at every text; rational.digits: the walk. -/
import Derived.Test.YtbnnccnicfddlaaGreatDoorStrB
set_option linter.unusedSimpArgs false
set_option linter.unusedVariables false
namespace Go.Proofs.YtbnnccnicfddlaaGreatDoor
open Go.RowKit Go.Shelf Kp

theorem natI_lt {s : List UInt8} {n : Nat} {r : List UInt8} (h : natI s = some (n, r)) : n < 1000000000 := by
  unfold natI at h
  split at h
  · cases h
  · rename_i hk
    simp only [Option.some.injEq, Prod.mk.injEq] at h
    rw [← h.1]
    have h1 := natOf_lt (lead_all s)
    have : 10 ^ (lead s).length ≤ 10 ^ 8 := Nat.pow_le_pow_right (by decide) (by omega)
    omega
theorem natI_len {s : List UInt8} {n : Nat} {r : List UInt8} (h : natI s = some (n, r)) : r.length ≤ s.length := by
  unfold natI at h
  split at h
  · cases h
  · simp only [Option.some.injEq, Prod.mk.injEq] at h
    rw [← h.2]; simp

def RgLoop (w : World) (g : Nat) (x y : Value) (wr : World) : Prop :=
  ∃ a b : Nat, x = .int .i64 a ∧ y = .int .i64 b ∧ a < 1000000000 ∧ b < 1000000000 ∧ Nat.gcd a b = g ∧ Below w.heap.size w wr

set_option maxRecDepth 100000 in
set_option maxHeartbeats 1000000 in
theorem rgcd_any (a b : Nat) (w : World) (ha : a < 1000000000) (hb : b < 1000000000) :
    Calls Tryz.prog 76 #[.int .i64 a, .int .i64 b] w fun e w' => e = .returned (.int .i64 (Nat.gcd a b : Nat)) ∧ Below w.heap.size w w' := by
  go_enter Tryz.func76, Tryz.ntmps76
  go_wp2
  go_loopw [0, 1] (fun x y wr => RgLoop w (Nat.gcd a b) x y wr) (fun _ y _ => (intOf y).natAbs)
  case atStart => exact ⟨a, b, rfl, rfl, ha, hb, rfl, Below.refl _ _⟩
  case round =>
    obtain ⟨x, y, rfl, rfl, hx, hy, hg, hBr⟩ := hrel
    by_cases h0 : y = 0
    · subst h0
      rw [Nat.gcd_zero_right] at hg
      have HG := Lib.hid hg
      clear hg
      have ht : (((0 : Nat) : Int) != 0) = false := rfl
      go_wp2
      go_ret
      exact ⟨ret_int' (by rw [HG.out]), hBr⟩
    · have h0' : ((y : Int) != 0) = true := by rw [bne_iff_ne]; omega
      have hm : ((x : Int).tmod (y : Int)) = ((x % y : Nat) : Int) := by rw [Int.tmod_eq_emod_of_nonneg (by omega)]; rfl
      have hlt : x % y < y := Nat.mod_lt _ (by omega)
      have hn := Lib.hid (fun n => show RgLoop w (Nat.gcd a b) (.int .i64 y) (.int .i64 ((x : Int).tmod (y : Int))) (wr.drewN n) from ⟨y, x % y, rfl, by rw [hm], hy, by omega, by rw [Nat.gcd_comm, ← Nat.gcd_rec, Nat.gcd_comm]; exact hg, below_drewN hBr n⟩)
      have HM := Lib.hid (show (intOf (.int .i64 ((x : Int).tmod (y : Int)))).natAbs < (intOf (.int .i64 (y : Int))).natAbs by rw [hm]; simp [intOf]; exact hlt)
      clear hg hm hlt
      go_wp2
      go_quiet (fail)
      go_roundw
      case rel => exact ⟨_, _, _, _, _, _, _, _, hn.out _, rfl⟩
      case measure => exact HM.out

/-- rational.nativeOf: is it a number with short parts? -/
def natOk (a : List UInt8) : Bool := match natI (own a) with
  | none => false
  | some (n, r) => if (own a).length < a.length ∧ n = 0 then false else match r with
    | [] => true
    | c :: r' => if c = 47 then (match natI r' with
        | none => false
        | some (d, q) => q.isEmpty && decide (2 ≤ d) && decide (Nat.gcd n d = 1)) else false
def NofPost (w : World) (a : List UInt8) (e : Ending) (w' : World) : Prop := ∃ x y : Int, e = .returned (.tuple #[.agg #[.int .i64 x, .int .i64 y], .bool (natOk a)]) ∧ Below w.heap.size w w'
theorem own_cases (a : List UInt8) : (∃ r, a = 45 :: r ∧ own a = r) ∨ (own a = a ∧ ∀ b, a.head? = some b → b ≠ 45) := by
  cases a with
  | nil => exact .inr ⟨rfl, fun b h => by cases h⟩
  | cons c r =>
    by_cases hc : c = 45
    · subst hc; exact .inl ⟨r, rfl, rfl⟩
    · refine .inr ⟨?_, fun b h => by cases h; exact hc⟩
      unfold own Lib.trimPrefix
      have : Lib.hasPrefix (c :: r) [45] = false := by simp [Lib.hasPrefix, List.isPrefixOf, Ne.symm hc]
      rw [this]; rfl
theorem natV_of_none {s : List UInt8} (h : natI s = none) : natV s = .tuple #[.int .i64 0, .string ⟨#[]⟩, .bool false] := by unfold natV; rw [h]
theorem natV_of_some {s : List UInt8} {n : Nat} {r : List UInt8} (h : natI s = some (n, r)) : natV s = .tuple #[.int .i64 n, .string (tx r), .bool true] := by unfold natV; rw [h]

theorem Bx2.below {B0 : Nat} {W W' : World} {b : Nat} {t : TypeId} {u v : Value} (h : Bx2 W b t u v) (hb : Below B0 W W') (hlt : b < B0) : Bx2 W' b t u v := (hb.block b hlt).trans h
theorem below_call {B : Nat} {w W W' : World} (h : Below B w W) (hc : Below W.heap.size W W') (hB : B ≤ W.heap.size) : Below B w W' := h.trans (hc.mono hB)
theorem tx_cons_drop (c : UInt8) (r : List UInt8) : (tx (c :: r)).extract 1 (r.length + 1) = tx r := by
  have := tx_drop (c :: r) 1
  simpa using this

theorem own_plain {c : UInt8} {r : List UInt8} (h : c ≠ 45) : own (c :: r) = c :: r := by
  rcases own_cases (c :: r) with ⟨r', e, _⟩ | ⟨e, _⟩
  · cases e; exact absurd rfl h
  · exact e
theorem nof_ret {w W : World} {a : Act} {s : List UInt8} {blk : Nat} {x y : Int} {b : Bool} (hX : Bx2 W blk 118 (.int .i64 x) (.int .i64 y))
    (h2 : a.tmps[2]? = some (.pointer (some ⟨blk, 0, none⟩))) (h3 : a.tmps[3]? = some (.bool b)) (hd : a.defers = []) (hok : natOk s = b) (hB : Below w.heap.size w W) :
    bodyPost Tryz.prog Tryz.f55 (NofPost w s) .ret a W := by
  have c0 := hX.cell0
  have c1 := hX.cell1
  refine bodyPost_ret (v := .tuple #[.agg #[.int .i64 x, .int .i64 y], .bool b]) ?_ hd ⟨x, y, by rw [hok], hB⟩
  simp [results, Tryz.results55, go_sem, h2, h3, c0, c1]

set_option maxRecDepth 100000 in
set_option maxHeartbeats 2000000 in
theorem nof_neg_none (r : List UInt8) (w : World) (hr : r.length ≤ 1000000) (hn : natI r = none) : Calls Tryz.prog 55 #[.string (tx (45 :: r))] w (NofPost w (45 :: r)) := by
  have ho : own (45 :: r) = r := rfl
  have hok : natOk (45 :: r) = false := by unfold natOk; simp [ho, hn]
  have HOK := Lib.hid hok
  have HV := Lib.hid (natV_of_none hn)
  have hx := tx_cons_drop 45 r
  clear hok ho hn
  go_enter Tryz.func55, Tryz.ntmps55
  go_wp2_with (first
    | (go_at_call 75; refine (rnative_any _ _ (by assumption)).mono ?_; first
        | (rintro e w1 ⟨rfl, hB1⟩; rw [HV.out]; have X1 := Lib.hid ((Bx2.at_ rfl).below hB1 (by simp)); have c0 := X1.out.cell0; have c1 := X1.out.cell1; have f0 := X1.out.frozen 0; have f1 := X1.out.frozen 1; have l1 := X1.out.lt)
        | (rintro e w2 ⟨rfl, hB2⟩; rw [HV2.out]; have X2 := Lib.hid (((X1.out.alloc _).below hB2 (by simp; omega))); have Y2 := Lib.hid ((Bx2.at_ rfl).below hB2 (by simp)); have d0 := X2.out.cell0; have d1 := X2.out.cell1; have g0 := X2.out.frozen 0; have g1 := X2.out.frozen 1; have e0 := Y2.out.cell0; have e1 := Y2.out.cell1; have k0 := Y2.out.frozen 0; have k1 := Y2.out.frozen 1; have l2 := Y2.out.lt))
    | (go_at_call 76; refine (rgcd_any _ _ _ (by assumption) (by assumption)).mono ?_; rintro e w3 ⟨rfl, hB3⟩; have X3 := Lib.hid ((X2.out.far (p := ⟨w1.heap.size, 1, none⟩) (by simp; omega) _).below hB3 (by simpa [World.setCell] using by omega)); have Y3 := Lib.hid ((Y2.out.put1 _).below hB3 (by simpa [World.setCell] using l2)); have m0 := X3.out.cell0; have m1 := X3.out.cell1; have n0 := X3.out.frozen 0; have n1 := X3.out.frozen 1; have o0 := Y3.out.cell0; have o1 := Y3.out.cell1; have q0 := Y3.out.frozen 0; have q1 := Y3.out.frozen 1))
  refine nof_ret (blk := w.heap.size) (x := 0) (y := 0) ?nofX rfl rfl rfl HOK.out ?nofB
  case nofX => repeat first | with_reducible apply Bx2.put0 | with_reducible apply Bx2.put1 | with_reducible apply Bx2.far | with_reducible apply Bx2.alloc | with_reducible exact X3.out | with_reducible exact X2.out | with_reducible exact X1.out | omega | (simp; done) | (simp; omega)
  case nofB => repeat first | with_reducible refine Below.setCell ?_ (by first | omega | (simp; done) | (simp; omega)) _ | with_reducible refine Below.alloc ?_ (by first | omega | (simp; done) | (simp; omega)) _ | with_reducible refine below_call ?_ (by assumption) (by first | omega | (simp; done) | (simp [World.setCell]; omega)) | with_reducible exact Below.refl _ _

set_option maxRecDepth 100000 in
set_option maxHeartbeats 2000000 in
theorem nof_neg_zero (r : List UInt8) (w : World) (hr : r.length ≤ 1000000) (n : Nat) (q : List UInt8) (hn : natI r = some (n, q)) (hn0 : n = 0) : Calls Tryz.prog 55 #[.string (tx (45 :: r))] w (NofPost w (45 :: r)) := by
  have ho : own (45 :: r) = r := rfl
  have hok : natOk (45 :: r) = false := by unfold natOk; simp [ho, hn, hn0]
  have HOK := Lib.hid hok
  have HV := Lib.hid (natV_of_some hn)
  have hnl := natI_lt hn
  have t4 : IntKind.i64.wrap (-(n : Int)) = -(n : Int) := wr64 (by omega) (by omega)
  have t1 : ((n : Int) == 0) = true := by rw [beq_iff_eq]; omega
  have hx := tx_cons_drop 45 r
  clear hok ho hn hn0
  go_enter Tryz.func55, Tryz.ntmps55
  go_wp2_with (first
    | (go_at_call 75; refine (rnative_any _ _ (by assumption)).mono ?_; first
        | (rintro e w1 ⟨rfl, hB1⟩; rw [HV.out]; have X1 := Lib.hid ((Bx2.at_ rfl).below hB1 (by simp)); have c0 := X1.out.cell0; have c1 := X1.out.cell1; have f0 := X1.out.frozen 0; have f1 := X1.out.frozen 1; have l1 := X1.out.lt)
        | (rintro e w2 ⟨rfl, hB2⟩; rw [HV2.out]; have X2 := Lib.hid (((X1.out.alloc _).below hB2 (by simp; omega))); have Y2 := Lib.hid ((Bx2.at_ rfl).below hB2 (by simp)); have d0 := X2.out.cell0; have d1 := X2.out.cell1; have g0 := X2.out.frozen 0; have g1 := X2.out.frozen 1; have e0 := Y2.out.cell0; have e1 := Y2.out.cell1; have k0 := Y2.out.frozen 0; have k1 := Y2.out.frozen 1; have l2 := Y2.out.lt))
    | (go_at_call 76; refine (rgcd_any _ _ _ (by assumption) (by assumption)).mono ?_; rintro e w3 ⟨rfl, hB3⟩; have X3 := Lib.hid ((X2.out.far (p := ⟨w1.heap.size, 1, none⟩) (by simp; omega) _).below hB3 (by simpa [World.setCell] using by omega)); have Y3 := Lib.hid ((Y2.out.put1 _).below hB3 (by simpa [World.setCell] using l2)); have m0 := X3.out.cell0; have m1 := X3.out.cell1; have n0 := X3.out.frozen 0; have n1 := X3.out.frozen 1; have o0 := Y3.out.cell0; have o1 := Y3.out.cell1; have q0 := Y3.out.frozen 0; have q1 := Y3.out.frozen 1))
  refine nof_ret (blk := w.heap.size) (x := 0) (y := 0) ?nofX rfl rfl rfl HOK.out ?nofB
  case nofX => repeat first | with_reducible apply Bx2.put0 | with_reducible apply Bx2.put1 | with_reducible apply Bx2.far | with_reducible apply Bx2.alloc | with_reducible exact X3.out | with_reducible exact X2.out | with_reducible exact X1.out | omega | (simp; done) | (simp; omega)
  case nofB => repeat first | with_reducible refine Below.setCell ?_ (by first | omega | (simp; done) | (simp; omega)) _ | with_reducible refine Below.alloc ?_ (by first | omega | (simp; done) | (simp; omega)) _ | with_reducible refine below_call ?_ (by assumption) (by first | omega | (simp; done) | (simp [World.setCell]; omega)) | with_reducible exact Below.refl _ _

set_option maxRecDepth 100000 in
set_option maxHeartbeats 2000000 in
theorem nof_neg_end (r : List UInt8) (w : World) (hr : r.length ≤ 1000000) (n : Nat) (hn : natI r = some (n, [])) (hn0 : n ≠ 0) : Calls Tryz.prog 55 #[.string (tx (45 :: r))] w (NofPost w (45 :: r)) := by
  have ho : own (45 :: r) = r := rfl
  have hok : natOk (45 :: r) = true := by unfold natOk; simp [ho, hn, hn0]
  have HOK := Lib.hid hok
  have HV := Lib.hid (natV_of_some hn)
  have hnl := natI_lt hn
  have t4 : IntKind.i64.wrap (-(n : Int)) = -(n : Int) := wr64 (by omega) (by omega)
  have t1 : ((n : Int) == 0) = false := by rw [beq_eq_false_iff_ne]; omega
  have hx := tx_cons_drop 45 r
  clear hok ho hn hn0
  go_enter Tryz.func55, Tryz.ntmps55
  go_wp2_with (first
    | (go_at_call 75; refine (rnative_any _ _ (by assumption)).mono ?_; first
        | (rintro e w1 ⟨rfl, hB1⟩; rw [HV.out]; have X1 := Lib.hid ((Bx2.at_ rfl).below hB1 (by simp)); have c0 := X1.out.cell0; have c1 := X1.out.cell1; have f0 := X1.out.frozen 0; have f1 := X1.out.frozen 1; have l1 := X1.out.lt)
        | (rintro e w2 ⟨rfl, hB2⟩; rw [HV2.out]; have X2 := Lib.hid (((X1.out.alloc _).below hB2 (by simp; omega))); have Y2 := Lib.hid ((Bx2.at_ rfl).below hB2 (by simp)); have d0 := X2.out.cell0; have d1 := X2.out.cell1; have g0 := X2.out.frozen 0; have g1 := X2.out.frozen 1; have e0 := Y2.out.cell0; have e1 := Y2.out.cell1; have k0 := Y2.out.frozen 0; have k1 := Y2.out.frozen 1; have l2 := Y2.out.lt))
    | (go_at_call 76; refine (rgcd_any _ _ _ (by assumption) (by assumption)).mono ?_; rintro e w3 ⟨rfl, hB3⟩; have X3 := Lib.hid ((X2.out.far (p := ⟨w1.heap.size, 1, none⟩) (by simp; omega) _).below hB3 (by simpa [World.setCell] using by omega)); have Y3 := Lib.hid ((Y2.out.put1 _).below hB3 (by simpa [World.setCell] using l2)); have m0 := X3.out.cell0; have m1 := X3.out.cell1; have n0 := X3.out.frozen 0; have n1 := X3.out.frozen 1; have o0 := Y3.out.cell0; have o1 := Y3.out.cell1; have q0 := Y3.out.frozen 0; have q1 := Y3.out.frozen 1))
  refine nof_ret (blk := w.heap.size) (x := (-(n : Int))) (y := 1) ?nofX rfl rfl rfl HOK.out ?nofB
  case nofX => repeat first | with_reducible apply Bx2.put0 | with_reducible apply Bx2.put1 | with_reducible apply Bx2.far | with_reducible apply Bx2.alloc | with_reducible exact X3.out | with_reducible exact X2.out | with_reducible exact X1.out | omega | (simp; done) | (simp; omega)
  case nofB => repeat first | with_reducible refine Below.setCell ?_ (by first | omega | (simp; done) | (simp; omega)) _ | with_reducible refine Below.alloc ?_ (by first | omega | (simp; done) | (simp; omega)) _ | with_reducible refine below_call ?_ (by assumption) (by first | omega | (simp; done) | (simp [World.setCell]; omega)) | with_reducible exact Below.refl _ _

set_option maxRecDepth 100000 in
set_option maxHeartbeats 2000000 in
theorem nof_neg_noslash (r : List UInt8) (w : World) (hr : r.length ≤ 1000000) (n : Nat) (c : UInt8) (r' : List UInt8) (hn : natI r = some (n, (c :: r'))) (hn0 : n ≠ 0) (hc : c ≠ 47) : Calls Tryz.prog 55 #[.string (tx (45 :: r))] w (NofPost w (45 :: r)) := by
  have ho : own (45 :: r) = r := rfl
  have hok : natOk (45 :: r) = false := by unfold natOk; simp [ho, hn, hn0, hc]
  have HOK := Lib.hid hok
  have HV := Lib.hid (natV_of_some hn)
  have hnl := natI_lt hn
  have t4 : IntKind.i64.wrap (-(n : Int)) = -(n : Int) := wr64 (by omega) (by omega)
  have t1 : ((n : Int) == 0) = false := by rw [beq_eq_false_iff_ne]; omega
  have t5 : ((((tx (c :: r'))[0]'(by simp [ByteArray.size])).toNat : Int) != 47) = true := by rw [bne_iff_ne]; intro e; exact hc (UInt8.toNat.inj (by show c.toNat = 47; exact Int.ofNat.inj e))
  have hx := tx_cons_drop 45 r
  clear hok ho hn hn0 hc
  go_enter Tryz.func55, Tryz.ntmps55
  go_wp2_with (first
    | (go_at_call 75; refine (rnative_any _ _ (by assumption)).mono ?_; first
        | (rintro e w1 ⟨rfl, hB1⟩; rw [HV.out]; have X1 := Lib.hid ((Bx2.at_ rfl).below hB1 (by simp)); have c0 := X1.out.cell0; have c1 := X1.out.cell1; have f0 := X1.out.frozen 0; have f1 := X1.out.frozen 1; have l1 := X1.out.lt)
        | (rintro e w2 ⟨rfl, hB2⟩; rw [HV2.out]; have X2 := Lib.hid (((X1.out.alloc _).below hB2 (by simp; omega))); have Y2 := Lib.hid ((Bx2.at_ rfl).below hB2 (by simp)); have d0 := X2.out.cell0; have d1 := X2.out.cell1; have g0 := X2.out.frozen 0; have g1 := X2.out.frozen 1; have e0 := Y2.out.cell0; have e1 := Y2.out.cell1; have k0 := Y2.out.frozen 0; have k1 := Y2.out.frozen 1; have l2 := Y2.out.lt))
    | (go_at_call 76; refine (rgcd_any _ _ _ (by assumption) (by assumption)).mono ?_; rintro e w3 ⟨rfl, hB3⟩; have X3 := Lib.hid ((X2.out.far (p := ⟨w1.heap.size, 1, none⟩) (by simp; omega) _).below hB3 (by simpa [World.setCell] using by omega)); have Y3 := Lib.hid ((Y2.out.put1 _).below hB3 (by simpa [World.setCell] using l2)); have m0 := X3.out.cell0; have m1 := X3.out.cell1; have n0 := X3.out.frozen 0; have n1 := X3.out.frozen 1; have o0 := Y3.out.cell0; have o1 := Y3.out.cell1; have q0 := Y3.out.frozen 0; have q1 := Y3.out.frozen 1))
  refine nof_ret (blk := w.heap.size) (x := 0) (y := 0) ?nofX rfl rfl rfl HOK.out ?nofB
  case nofX => repeat first | with_reducible apply Bx2.put0 | with_reducible apply Bx2.put1 | with_reducible apply Bx2.far | with_reducible apply Bx2.alloc | with_reducible exact X3.out | with_reducible exact X2.out | with_reducible exact X1.out | omega | (simp; done) | (simp; omega)
  case nofB => repeat first | with_reducible refine Below.setCell ?_ (by first | omega | (simp; done) | (simp; omega)) _ | with_reducible refine Below.alloc ?_ (by first | omega | (simp; done) | (simp; omega)) _ | with_reducible refine below_call ?_ (by assumption) (by first | omega | (simp; done) | (simp [World.setCell]; omega)) | with_reducible exact Below.refl _ _

set_option maxRecDepth 100000 in
set_option maxHeartbeats 2000000 in
theorem nof_neg_none2 (r : List UInt8) (w : World) (hr : r.length ≤ 1000000) (n : Nat) (r' : List UInt8) (hn : natI r = some (n, (47 :: r'))) (hn0 : n ≠ 0) (hd : natI r' = none) : Calls Tryz.prog 55 #[.string (tx (45 :: r))] w (NofPost w (45 :: r)) := by
  have ho : own (45 :: r) = r := rfl
  have hok : natOk (45 :: r) = false := by unfold natOk; simp [ho, hn, hn0, hd]
  have HOK := Lib.hid hok
  have HV := Lib.hid (natV_of_some hn)
  have hnl := natI_lt hn
  have t4 : IntKind.i64.wrap (-(n : Int)) = -(n : Int) := wr64 (by omega) (by omega)
  have t1 : ((n : Int) == 0) = false := by rw [beq_eq_false_iff_ne]; omega
  have hr' : r'.length ≤ 1000000 := by have := natI_len hn; simp at this hr; omega
  have hx' := tx_cons_drop 47 r'
  have HV2 := Lib.hid (natV_of_none hd)
  have hx := tx_cons_drop 45 r
  clear hok ho hn hn0 hd
  go_enter Tryz.func55, Tryz.ntmps55
  go_wp2_with (first
    | (go_at_call 75; refine (rnative_any _ _ (by assumption)).mono ?_; first
        | (rintro e w1 ⟨rfl, hB1⟩; rw [HV.out]; have X1 := Lib.hid ((Bx2.at_ rfl).below hB1 (by simp)); have c0 := X1.out.cell0; have c1 := X1.out.cell1; have f0 := X1.out.frozen 0; have f1 := X1.out.frozen 1; have l1 := X1.out.lt)
        | (rintro e w2 ⟨rfl, hB2⟩; rw [HV2.out]; have X2 := Lib.hid (((X1.out.alloc _).below hB2 (by simp; omega))); have Y2 := Lib.hid ((Bx2.at_ rfl).below hB2 (by simp)); have d0 := X2.out.cell0; have d1 := X2.out.cell1; have g0 := X2.out.frozen 0; have g1 := X2.out.frozen 1; have e0 := Y2.out.cell0; have e1 := Y2.out.cell1; have k0 := Y2.out.frozen 0; have k1 := Y2.out.frozen 1; have l2 := Y2.out.lt))
    | (go_at_call 76; refine (rgcd_any _ _ _ (by assumption) (by assumption)).mono ?_; rintro e w3 ⟨rfl, hB3⟩; have X3 := Lib.hid ((X2.out.far (p := ⟨w1.heap.size, 1, none⟩) (by simp; omega) _).below hB3 (by simpa [World.setCell] using by omega)); have Y3 := Lib.hid ((Y2.out.put1 _).below hB3 (by simpa [World.setCell] using l2)); have m0 := X3.out.cell0; have m1 := X3.out.cell1; have n0 := X3.out.frozen 0; have n1 := X3.out.frozen 1; have o0 := Y3.out.cell0; have o1 := Y3.out.cell1; have q0 := Y3.out.frozen 0; have q1 := Y3.out.frozen 1))
  refine nof_ret (blk := w.heap.size) (x := 0) (y := 0) ?nofX rfl rfl rfl HOK.out ?nofB
  case nofX => repeat first | with_reducible apply Bx2.put0 | with_reducible apply Bx2.put1 | with_reducible apply Bx2.far | with_reducible apply Bx2.alloc | with_reducible exact X3.out | with_reducible exact X2.out | with_reducible exact X1.out | omega | (simp; done) | (simp; omega)
  case nofB => repeat first | with_reducible refine Below.setCell ?_ (by first | omega | (simp; done) | (simp; omega)) _ | with_reducible refine Below.alloc ?_ (by first | omega | (simp; done) | (simp; omega)) _ | with_reducible refine below_call ?_ (by assumption) (by first | omega | (simp; done) | (simp [World.setCell]; omega)) | with_reducible exact Below.refl _ _

set_option maxRecDepth 100000 in
set_option maxHeartbeats 2000000 in
theorem nof_neg_rest (r : List UInt8) (w : World) (hr : r.length ≤ 1000000) (n : Nat) (r' : List UInt8) (hn : natI r = some (n, (47 :: r'))) (hn0 : n ≠ 0) (d : Nat) (cq : UInt8) (q : List UInt8) (hd : natI r' = some (d, (cq :: q))) : Calls Tryz.prog 55 #[.string (tx (45 :: r))] w (NofPost w (45 :: r)) := by
  have ho : own (45 :: r) = r := rfl
  have hok : natOk (45 :: r) = false := by unfold natOk; simp [ho, hn, hn0, hd]
  have HOK := Lib.hid hok
  have HV := Lib.hid (natV_of_some hn)
  have hnl := natI_lt hn
  have t4 : IntKind.i64.wrap (-(n : Int)) = -(n : Int) := wr64 (by omega) (by omega)
  have t1 : ((n : Int) == 0) = false := by rw [beq_eq_false_iff_ne]; omega
  have hr' : r'.length ≤ 1000000 := by have := natI_len hn; simp at this hr; omega
  have hx' := tx_cons_drop 47 r'
  have HV2 := Lib.hid (natV_of_some hd)
  have hdl := natI_lt hd
  have hx := tx_cons_drop 45 r
  clear hok ho hn hn0 hd
  go_enter Tryz.func55, Tryz.ntmps55
  go_wp2_with (first
    | (go_at_call 75; refine (rnative_any _ _ (by assumption)).mono ?_; first
        | (rintro e w1 ⟨rfl, hB1⟩; rw [HV.out]; have X1 := Lib.hid ((Bx2.at_ rfl).below hB1 (by simp)); have c0 := X1.out.cell0; have c1 := X1.out.cell1; have f0 := X1.out.frozen 0; have f1 := X1.out.frozen 1; have l1 := X1.out.lt)
        | (rintro e w2 ⟨rfl, hB2⟩; rw [HV2.out]; have X2 := Lib.hid (((X1.out.alloc _).below hB2 (by simp; omega))); have Y2 := Lib.hid ((Bx2.at_ rfl).below hB2 (by simp)); have d0 := X2.out.cell0; have d1 := X2.out.cell1; have g0 := X2.out.frozen 0; have g1 := X2.out.frozen 1; have e0 := Y2.out.cell0; have e1 := Y2.out.cell1; have k0 := Y2.out.frozen 0; have k1 := Y2.out.frozen 1; have l2 := Y2.out.lt))
    | (go_at_call 76; refine (rgcd_any _ _ _ (by assumption) (by assumption)).mono ?_; rintro e w3 ⟨rfl, hB3⟩; have X3 := Lib.hid ((X2.out.far (p := ⟨w1.heap.size, 1, none⟩) (by simp; omega) _).below hB3 (by simpa [World.setCell] using by omega)); have Y3 := Lib.hid ((Y2.out.put1 _).below hB3 (by simpa [World.setCell] using l2)); have m0 := X3.out.cell0; have m1 := X3.out.cell1; have n0 := X3.out.frozen 0; have n1 := X3.out.frozen 1; have o0 := Y3.out.cell0; have o1 := Y3.out.cell1; have q0 := Y3.out.frozen 0; have q1 := Y3.out.frozen 1))
  refine nof_ret (blk := w.heap.size) (x := 0) (y := 0) ?nofX rfl rfl rfl HOK.out ?nofB
  case nofX => repeat first | with_reducible apply Bx2.put0 | with_reducible apply Bx2.put1 | with_reducible apply Bx2.far | with_reducible apply Bx2.alloc | with_reducible exact X3.out | with_reducible exact X2.out | with_reducible exact X1.out | omega | (simp; done) | (simp; omega)
  case nofB => repeat first | with_reducible refine Below.setCell ?_ (by first | omega | (simp; done) | (simp; omega)) _ | with_reducible refine Below.alloc ?_ (by first | omega | (simp; done) | (simp; omega)) _ | with_reducible refine below_call ?_ (by assumption) (by first | omega | (simp; done) | (simp [World.setCell]; omega)) | with_reducible exact Below.refl _ _

set_option maxRecDepth 100000 in
set_option maxHeartbeats 2000000 in
theorem nof_neg_small (r : List UInt8) (w : World) (hr : r.length ≤ 1000000) (n : Nat) (r' : List UInt8) (hn : natI r = some (n, (47 :: r'))) (hn0 : n ≠ 0) (d : Nat) (hd : natI r' = some (d, [])) (hd2 : ¬ 2 ≤ d) : Calls Tryz.prog 55 #[.string (tx (45 :: r))] w (NofPost w (45 :: r)) := by
  have ho : own (45 :: r) = r := rfl
  have hok : natOk (45 :: r) = false := by unfold natOk; simp [ho, hn, hn0, hd]; intro h; exact absurd h hd2
  have HOK := Lib.hid hok
  have HV := Lib.hid (natV_of_some hn)
  have hnl := natI_lt hn
  have t4 : IntKind.i64.wrap (-(n : Int)) = -(n : Int) := wr64 (by omega) (by omega)
  have t1 : ((n : Int) == 0) = false := by rw [beq_eq_false_iff_ne]; omega
  have hr' : r'.length ≤ 1000000 := by have := natI_len hn; simp at this hr; omega
  have hx' := tx_cons_drop 47 r'
  have HV2 := Lib.hid (natV_of_some hd)
  have hdl := natI_lt hd
  have t2 : decide ((d : Int) < 2) = true := by rw [decide_eq_true_eq]; omega
  have hx := tx_cons_drop 45 r
  clear hok ho hn hn0 hd2 hd
  go_enter Tryz.func55, Tryz.ntmps55
  go_wp2_with (first
    | (go_at_call 75; refine (rnative_any _ _ (by assumption)).mono ?_; first
        | (rintro e w1 ⟨rfl, hB1⟩; rw [HV.out]; have X1 := Lib.hid ((Bx2.at_ rfl).below hB1 (by simp)); have c0 := X1.out.cell0; have c1 := X1.out.cell1; have f0 := X1.out.frozen 0; have f1 := X1.out.frozen 1; have l1 := X1.out.lt)
        | (rintro e w2 ⟨rfl, hB2⟩; rw [HV2.out]; have X2 := Lib.hid (((X1.out.alloc _).below hB2 (by simp; omega))); have Y2 := Lib.hid ((Bx2.at_ rfl).below hB2 (by simp)); have d0 := X2.out.cell0; have d1 := X2.out.cell1; have g0 := X2.out.frozen 0; have g1 := X2.out.frozen 1; have e0 := Y2.out.cell0; have e1 := Y2.out.cell1; have k0 := Y2.out.frozen 0; have k1 := Y2.out.frozen 1; have l2 := Y2.out.lt))
    | (go_at_call 76; refine (rgcd_any _ _ _ (by assumption) (by assumption)).mono ?_; rintro e w3 ⟨rfl, hB3⟩; have X3 := Lib.hid ((X2.out.far (p := ⟨w1.heap.size, 1, none⟩) (by simp; omega) _).below hB3 (by simpa [World.setCell] using by omega)); have Y3 := Lib.hid ((Y2.out.put1 _).below hB3 (by simpa [World.setCell] using l2)); have m0 := X3.out.cell0; have m1 := X3.out.cell1; have n0 := X3.out.frozen 0; have n1 := X3.out.frozen 1; have o0 := Y3.out.cell0; have o1 := Y3.out.cell1; have q0 := Y3.out.frozen 0; have q1 := Y3.out.frozen 1))
  refine nof_ret (blk := w.heap.size) (x := 0) (y := 0) ?nofX rfl rfl rfl HOK.out ?nofB
  case nofX => repeat first | with_reducible apply Bx2.put0 | with_reducible apply Bx2.put1 | with_reducible apply Bx2.far | with_reducible apply Bx2.alloc | with_reducible exact X3.out | with_reducible exact X2.out | with_reducible exact X1.out | omega | (simp; done) | (simp; omega)
  case nofB => repeat first | with_reducible refine Below.setCell ?_ (by first | omega | (simp; done) | (simp; omega)) _ | with_reducible refine Below.alloc ?_ (by first | omega | (simp; done) | (simp; omega)) _ | with_reducible refine below_call ?_ (by assumption) (by first | omega | (simp; done) | (simp [World.setCell]; omega)) | with_reducible exact Below.refl _ _

set_option maxRecDepth 100000 in
set_option maxHeartbeats 2000000 in
theorem nof_neg_common (r : List UInt8) (w : World) (hr : r.length ≤ 1000000) (n : Nat) (r' : List UInt8) (hn : natI r = some (n, (47 :: r'))) (hn0 : n ≠ 0) (d : Nat) (hd : natI r' = some (d, [])) (hd2 : 2 ≤ d) (hg : ¬ Nat.gcd n d = 1) : Calls Tryz.prog 55 #[.string (tx (45 :: r))] w (NofPost w (45 :: r)) := by
  have ho : own (45 :: r) = r := rfl
  have hok : natOk (45 :: r) = false := by unfold natOk; simp [ho, hn, hn0, hd, hg]
  have HOK := Lib.hid hok
  have HV := Lib.hid (natV_of_some hn)
  have hnl := natI_lt hn
  have t4 : IntKind.i64.wrap (-(n : Int)) = -(n : Int) := wr64 (by omega) (by omega)
  have t1 : ((n : Int) == 0) = false := by rw [beq_eq_false_iff_ne]; omega
  have hr' : r'.length ≤ 1000000 := by have := natI_len hn; simp at this hr; omega
  have hx' := tx_cons_drop 47 r'
  have HV2 := Lib.hid (natV_of_some hd)
  have hdl := natI_lt hd
  have t2 : decide ((d : Int) < 2) = false := by rw [decide_eq_false_iff_not]; omega
  have t3 : (((Nat.gcd n d : Nat) : Int) != 1) = true := by rw [bne_iff_ne]; omega
  have hx := tx_cons_drop 45 r
  clear hok ho hn hn0 hd2 hg hd
  go_enter Tryz.func55, Tryz.ntmps55
  go_wp2_with (first
    | (go_at_call 75; refine (rnative_any _ _ (by assumption)).mono ?_; first
        | (rintro e w1 ⟨rfl, hB1⟩; rw [HV.out]; have X1 := Lib.hid ((Bx2.at_ rfl).below hB1 (by simp)); have c0 := X1.out.cell0; have c1 := X1.out.cell1; have f0 := X1.out.frozen 0; have f1 := X1.out.frozen 1; have l1 := X1.out.lt)
        | (rintro e w2 ⟨rfl, hB2⟩; rw [HV2.out]; have X2 := Lib.hid (((X1.out.alloc _).below hB2 (by simp; omega))); have Y2 := Lib.hid ((Bx2.at_ rfl).below hB2 (by simp)); have d0 := X2.out.cell0; have d1 := X2.out.cell1; have g0 := X2.out.frozen 0; have g1 := X2.out.frozen 1; have e0 := Y2.out.cell0; have e1 := Y2.out.cell1; have k0 := Y2.out.frozen 0; have k1 := Y2.out.frozen 1; have l2 := Y2.out.lt))
    | (go_at_call 76; refine (rgcd_any _ _ _ (by assumption) (by assumption)).mono ?_; rintro e w3 ⟨rfl, hB3⟩; have X3 := Lib.hid ((X2.out.far (p := ⟨w1.heap.size, 1, none⟩) (by simp; omega) _).below hB3 (by simpa [World.setCell] using by omega)); have Y3 := Lib.hid ((Y2.out.put1 _).below hB3 (by simpa [World.setCell] using l2)); have m0 := X3.out.cell0; have m1 := X3.out.cell1; have n0 := X3.out.frozen 0; have n1 := X3.out.frozen 1; have o0 := Y3.out.cell0; have o1 := Y3.out.cell1; have q0 := Y3.out.frozen 0; have q1 := Y3.out.frozen 1))
  refine nof_ret (blk := w.heap.size) (x := 0) (y := 0) ?nofX rfl rfl rfl HOK.out ?nofB
  case nofX => repeat first | with_reducible apply Bx2.put0 | with_reducible apply Bx2.put1 | with_reducible apply Bx2.far | with_reducible apply Bx2.alloc | with_reducible exact X3.out | with_reducible exact X2.out | with_reducible exact X1.out | omega | (simp; done) | (simp; omega)
  case nofB => repeat first | with_reducible refine Below.setCell ?_ (by first | omega | (simp; done) | (simp; omega)) _ | with_reducible refine Below.alloc ?_ (by first | omega | (simp; done) | (simp; omega)) _ | with_reducible refine below_call ?_ (by assumption) (by first | omega | (simp; done) | (simp [World.setCell]; omega)) | with_reducible exact Below.refl _ _

set_option maxRecDepth 100000 in
set_option maxHeartbeats 2000000 in
theorem nof_neg_ok (r : List UInt8) (w : World) (hr : r.length ≤ 1000000) (n : Nat) (r' : List UInt8) (hn : natI r = some (n, (47 :: r'))) (hn0 : n ≠ 0) (d : Nat) (hd : natI r' = some (d, [])) (hd2 : 2 ≤ d) (hg : Nat.gcd n d = 1) : Calls Tryz.prog 55 #[.string (tx (45 :: r))] w (NofPost w (45 :: r)) := by
  have ho : own (45 :: r) = r := rfl
  have hok : natOk (45 :: r) = true := by unfold natOk; simp [ho, hn, hn0, hd, hg, hd2]
  have HOK := Lib.hid hok
  have HV := Lib.hid (natV_of_some hn)
  have hnl := natI_lt hn
  have t4 : IntKind.i64.wrap (-(n : Int)) = -(n : Int) := wr64 (by omega) (by omega)
  have t1 : ((n : Int) == 0) = false := by rw [beq_eq_false_iff_ne]; omega
  have hr' : r'.length ≤ 1000000 := by have := natI_len hn; simp at this hr; omega
  have hx' := tx_cons_drop 47 r'
  have HV2 := Lib.hid (natV_of_some hd)
  have hdl := natI_lt hd
  have t2 : decide ((d : Int) < 2) = false := by rw [decide_eq_false_iff_not]; omega
  have t3 : (((Nat.gcd n d : Nat) : Int) != 1) = false := by rw [hg]; rfl
  have hx := tx_cons_drop 45 r
  clear hok ho hn hn0 hd2 hg hd
  go_enter Tryz.func55, Tryz.ntmps55
  go_wp2_with (first
    | (go_at_call 75; refine (rnative_any _ _ (by assumption)).mono ?_; first
        | (rintro e w1 ⟨rfl, hB1⟩; rw [HV.out]; have X1 := Lib.hid ((Bx2.at_ rfl).below hB1 (by simp)); have c0 := X1.out.cell0; have c1 := X1.out.cell1; have f0 := X1.out.frozen 0; have f1 := X1.out.frozen 1; have l1 := X1.out.lt)
        | (rintro e w2 ⟨rfl, hB2⟩; rw [HV2.out]; have X2 := Lib.hid (((X1.out.alloc _).below hB2 (by simp; omega))); have Y2 := Lib.hid ((Bx2.at_ rfl).below hB2 (by simp)); have d0 := X2.out.cell0; have d1 := X2.out.cell1; have g0 := X2.out.frozen 0; have g1 := X2.out.frozen 1; have e0 := Y2.out.cell0; have e1 := Y2.out.cell1; have k0 := Y2.out.frozen 0; have k1 := Y2.out.frozen 1; have l2 := Y2.out.lt))
    | (go_at_call 76; refine (rgcd_any _ _ _ (by assumption) (by assumption)).mono ?_; rintro e w3 ⟨rfl, hB3⟩; have X3 := Lib.hid ((X2.out.far (p := ⟨w1.heap.size, 1, none⟩) (by simp; omega) _).below hB3 (by simpa [World.setCell] using by omega)); have Y3 := Lib.hid ((Y2.out.put1 _).below hB3 (by simpa [World.setCell] using l2)); have m0 := X3.out.cell0; have m1 := X3.out.cell1; have n0 := X3.out.frozen 0; have n1 := X3.out.frozen 1; have o0 := Y3.out.cell0; have o1 := Y3.out.cell1; have q0 := Y3.out.frozen 0; have q1 := Y3.out.frozen 1))
  refine nof_ret (blk := w.heap.size) (x := (-(n : Int))) (y := (d : Int)) ?nofX rfl rfl rfl HOK.out ?nofB
  case nofX => repeat first | with_reducible apply Bx2.put0 | with_reducible apply Bx2.put1 | with_reducible apply Bx2.far | with_reducible apply Bx2.alloc | with_reducible exact X3.out | with_reducible exact X2.out | with_reducible exact X1.out | omega | (simp; done) | (simp; omega)
  case nofB => repeat first | with_reducible refine Below.setCell ?_ (by first | omega | (simp; done) | (simp; omega)) _ | with_reducible refine Below.alloc ?_ (by first | omega | (simp; done) | (simp; omega)) _ | with_reducible refine below_call ?_ (by assumption) (by first | omega | (simp; done) | (simp [World.setCell]; omega)) | with_reducible exact Below.refl _ _

set_option maxRecDepth 100000 in
set_option maxHeartbeats 2000000 in
theorem nof_pos_none (c0 : UInt8) (r : List UInt8) (w : World) (hr : (c0 :: r).length ≤ 1000000) (hc0 : c0 ≠ 45) (hn : natI (c0 :: r) = none) : Calls Tryz.prog 55 #[.string (tx (c0 :: r))] w (NofPost w (c0 :: r)) := by
  have ho : own (c0 :: r) = (c0 :: r) := own_plain hc0
  have hok : natOk (c0 :: r) = false := by unfold natOk; simp [ho, hn]
  have HOK := Lib.hid hok
  have HV := Lib.hid (natV_of_none hn)
  have h45 : ((((tx (c0 :: r))[0]'(by simp [ByteArray.size])).toNat : Int) == 45) = false := by rw [beq_eq_false_iff_ne]; intro e; exact hc0 (UInt8.toNat.inj (by show c0.toNat = 45; exact Int.ofNat.inj e))
  clear hok ho hn hc0
  go_enter Tryz.func55, Tryz.ntmps55
  go_wp2_with (first
    | (go_at_call 75; refine (rnative_any _ _ (by assumption)).mono ?_; first
        | (rintro e w1 ⟨rfl, hB1⟩; rw [HV.out]; have X1 := Lib.hid ((Bx2.at_ rfl).below hB1 (by simp)); have c0 := X1.out.cell0; have c1 := X1.out.cell1; have f0 := X1.out.frozen 0; have f1 := X1.out.frozen 1; have l1 := X1.out.lt)
        | (rintro e w2 ⟨rfl, hB2⟩; rw [HV2.out]; have X2 := Lib.hid (((X1.out.alloc _).below hB2 (by simp; omega))); have Y2 := Lib.hid ((Bx2.at_ rfl).below hB2 (by simp)); have d0 := X2.out.cell0; have d1 := X2.out.cell1; have g0 := X2.out.frozen 0; have g1 := X2.out.frozen 1; have e0 := Y2.out.cell0; have e1 := Y2.out.cell1; have k0 := Y2.out.frozen 0; have k1 := Y2.out.frozen 1; have l2 := Y2.out.lt))
    | (go_at_call 76; refine (rgcd_any _ _ _ (by assumption) (by assumption)).mono ?_; rintro e w3 ⟨rfl, hB3⟩; have X3 := Lib.hid ((X2.out.far (p := ⟨w1.heap.size, 1, none⟩) (by simp; omega) _).below hB3 (by simpa [World.setCell] using by omega)); have Y3 := Lib.hid ((Y2.out.put1 _).below hB3 (by simpa [World.setCell] using l2)); have m0 := X3.out.cell0; have m1 := X3.out.cell1; have n0 := X3.out.frozen 0; have n1 := X3.out.frozen 1; have o0 := Y3.out.cell0; have o1 := Y3.out.cell1; have q0 := Y3.out.frozen 0; have q1 := Y3.out.frozen 1))
  refine nof_ret (blk := w.heap.size) (x := 0) (y := 0) ?nofX rfl rfl rfl HOK.out ?nofB
  case nofX => repeat first | with_reducible apply Bx2.put0 | with_reducible apply Bx2.put1 | with_reducible apply Bx2.far | with_reducible apply Bx2.alloc | with_reducible exact X3.out | with_reducible exact X2.out | with_reducible exact X1.out | omega | (simp; done) | (simp; omega)
  case nofB => repeat first | with_reducible refine Below.setCell ?_ (by first | omega | (simp; done) | (simp; omega)) _ | with_reducible refine Below.alloc ?_ (by first | omega | (simp; done) | (simp; omega)) _ | with_reducible refine below_call ?_ (by assumption) (by first | omega | (simp; done) | (simp [World.setCell]; omega)) | with_reducible exact Below.refl _ _

set_option maxRecDepth 100000 in
set_option maxHeartbeats 2000000 in
theorem nof_pos_end (c0 : UInt8) (r : List UInt8) (w : World) (hr : (c0 :: r).length ≤ 1000000) (hc0 : c0 ≠ 45) (n : Nat) (hn : natI (c0 :: r) = some (n, [])) : Calls Tryz.prog 55 #[.string (tx (c0 :: r))] w (NofPost w (c0 :: r)) := by
  have ho : own (c0 :: r) = (c0 :: r) := own_plain hc0
  have hok : natOk (c0 :: r) = true := by unfold natOk; simp [ho, hn]
  have HOK := Lib.hid hok
  have HV := Lib.hid (natV_of_some hn)
  have hnl := natI_lt hn
  have t4 : IntKind.i64.wrap (-(n : Int)) = -(n : Int) := wr64 (by omega) (by omega)
  have h45 : ((((tx (c0 :: r))[0]'(by simp [ByteArray.size])).toNat : Int) == 45) = false := by rw [beq_eq_false_iff_ne]; intro e; exact hc0 (UInt8.toNat.inj (by show c0.toNat = 45; exact Int.ofNat.inj e))
  clear hok ho hn hc0
  go_enter Tryz.func55, Tryz.ntmps55
  go_wp2_with (first
    | (go_at_call 75; refine (rnative_any _ _ (by assumption)).mono ?_; first
        | (rintro e w1 ⟨rfl, hB1⟩; rw [HV.out]; have X1 := Lib.hid ((Bx2.at_ rfl).below hB1 (by simp)); have c0 := X1.out.cell0; have c1 := X1.out.cell1; have f0 := X1.out.frozen 0; have f1 := X1.out.frozen 1; have l1 := X1.out.lt)
        | (rintro e w2 ⟨rfl, hB2⟩; rw [HV2.out]; have X2 := Lib.hid (((X1.out.alloc _).below hB2 (by simp; omega))); have Y2 := Lib.hid ((Bx2.at_ rfl).below hB2 (by simp)); have d0 := X2.out.cell0; have d1 := X2.out.cell1; have g0 := X2.out.frozen 0; have g1 := X2.out.frozen 1; have e0 := Y2.out.cell0; have e1 := Y2.out.cell1; have k0 := Y2.out.frozen 0; have k1 := Y2.out.frozen 1; have l2 := Y2.out.lt))
    | (go_at_call 76; refine (rgcd_any _ _ _ (by assumption) (by assumption)).mono ?_; rintro e w3 ⟨rfl, hB3⟩; have X3 := Lib.hid ((X2.out.far (p := ⟨w1.heap.size, 1, none⟩) (by simp; omega) _).below hB3 (by simpa [World.setCell] using by omega)); have Y3 := Lib.hid ((Y2.out.put1 _).below hB3 (by simpa [World.setCell] using l2)); have m0 := X3.out.cell0; have m1 := X3.out.cell1; have n0 := X3.out.frozen 0; have n1 := X3.out.frozen 1; have o0 := Y3.out.cell0; have o1 := Y3.out.cell1; have q0 := Y3.out.frozen 0; have q1 := Y3.out.frozen 1))
  refine nof_ret (blk := w.heap.size) (x := (n : Int)) (y := 1) ?nofX rfl rfl rfl HOK.out ?nofB
  case nofX => repeat first | with_reducible apply Bx2.put0 | with_reducible apply Bx2.put1 | with_reducible apply Bx2.far | with_reducible apply Bx2.alloc | with_reducible exact X3.out | with_reducible exact X2.out | with_reducible exact X1.out | omega | (simp; done) | (simp; omega)
  case nofB => repeat first | with_reducible refine Below.setCell ?_ (by first | omega | (simp; done) | (simp; omega)) _ | with_reducible refine Below.alloc ?_ (by first | omega | (simp; done) | (simp; omega)) _ | with_reducible refine below_call ?_ (by assumption) (by first | omega | (simp; done) | (simp [World.setCell]; omega)) | with_reducible exact Below.refl _ _

set_option maxRecDepth 100000 in
set_option maxHeartbeats 2000000 in
theorem nof_pos_noslash (c0 : UInt8) (r : List UInt8) (w : World) (hr : (c0 :: r).length ≤ 1000000) (hc0 : c0 ≠ 45) (n : Nat) (c : UInt8) (r' : List UInt8) (hn : natI (c0 :: r) = some (n, (c :: r'))) (hc : c ≠ 47) : Calls Tryz.prog 55 #[.string (tx (c0 :: r))] w (NofPost w (c0 :: r)) := by
  have ho : own (c0 :: r) = (c0 :: r) := own_plain hc0
  have hok : natOk (c0 :: r) = false := by unfold natOk; simp [ho, hn, hc]
  have HOK := Lib.hid hok
  have HV := Lib.hid (natV_of_some hn)
  have hnl := natI_lt hn
  have t4 : IntKind.i64.wrap (-(n : Int)) = -(n : Int) := wr64 (by omega) (by omega)
  have t5 : ((((tx (c :: r'))[0]'(by simp [ByteArray.size])).toNat : Int) != 47) = true := by rw [bne_iff_ne]; intro e; exact hc (UInt8.toNat.inj (by show c.toNat = 47; exact Int.ofNat.inj e))
  have h45 : ((((tx (c0 :: r))[0]'(by simp [ByteArray.size])).toNat : Int) == 45) = false := by rw [beq_eq_false_iff_ne]; intro e; exact hc0 (UInt8.toNat.inj (by show c0.toNat = 45; exact Int.ofNat.inj e))
  clear hok ho hn hc hc0
  go_enter Tryz.func55, Tryz.ntmps55
  go_wp2_with (first
    | (go_at_call 75; refine (rnative_any _ _ (by assumption)).mono ?_; first
        | (rintro e w1 ⟨rfl, hB1⟩; rw [HV.out]; have X1 := Lib.hid ((Bx2.at_ rfl).below hB1 (by simp)); have c0 := X1.out.cell0; have c1 := X1.out.cell1; have f0 := X1.out.frozen 0; have f1 := X1.out.frozen 1; have l1 := X1.out.lt)
        | (rintro e w2 ⟨rfl, hB2⟩; rw [HV2.out]; have X2 := Lib.hid (((X1.out.alloc _).below hB2 (by simp; omega))); have Y2 := Lib.hid ((Bx2.at_ rfl).below hB2 (by simp)); have d0 := X2.out.cell0; have d1 := X2.out.cell1; have g0 := X2.out.frozen 0; have g1 := X2.out.frozen 1; have e0 := Y2.out.cell0; have e1 := Y2.out.cell1; have k0 := Y2.out.frozen 0; have k1 := Y2.out.frozen 1; have l2 := Y2.out.lt))
    | (go_at_call 76; refine (rgcd_any _ _ _ (by assumption) (by assumption)).mono ?_; rintro e w3 ⟨rfl, hB3⟩; have X3 := Lib.hid ((X2.out.far (p := ⟨w1.heap.size, 1, none⟩) (by simp; omega) _).below hB3 (by simpa [World.setCell] using by omega)); have Y3 := Lib.hid ((Y2.out.put1 _).below hB3 (by simpa [World.setCell] using l2)); have m0 := X3.out.cell0; have m1 := X3.out.cell1; have n0 := X3.out.frozen 0; have n1 := X3.out.frozen 1; have o0 := Y3.out.cell0; have o1 := Y3.out.cell1; have q0 := Y3.out.frozen 0; have q1 := Y3.out.frozen 1))
  refine nof_ret (blk := w.heap.size) (x := 0) (y := 0) ?nofX rfl rfl rfl HOK.out ?nofB
  case nofX => repeat first | with_reducible apply Bx2.put0 | with_reducible apply Bx2.put1 | with_reducible apply Bx2.far | with_reducible apply Bx2.alloc | with_reducible exact X3.out | with_reducible exact X2.out | with_reducible exact X1.out | omega | (simp; done) | (simp; omega)
  case nofB => repeat first | with_reducible refine Below.setCell ?_ (by first | omega | (simp; done) | (simp; omega)) _ | with_reducible refine Below.alloc ?_ (by first | omega | (simp; done) | (simp; omega)) _ | with_reducible refine below_call ?_ (by assumption) (by first | omega | (simp; done) | (simp [World.setCell]; omega)) | with_reducible exact Below.refl _ _

set_option maxRecDepth 100000 in
set_option maxHeartbeats 2000000 in
theorem nof_pos_none2 (c0 : UInt8) (r : List UInt8) (w : World) (hr : (c0 :: r).length ≤ 1000000) (hc0 : c0 ≠ 45) (n : Nat) (r' : List UInt8) (hn : natI (c0 :: r) = some (n, (47 :: r'))) (hd : natI r' = none) : Calls Tryz.prog 55 #[.string (tx (c0 :: r))] w (NofPost w (c0 :: r)) := by
  have ho : own (c0 :: r) = (c0 :: r) := own_plain hc0
  have hok : natOk (c0 :: r) = false := by unfold natOk; simp [ho, hn, hd]
  have HOK := Lib.hid hok
  have HV := Lib.hid (natV_of_some hn)
  have hnl := natI_lt hn
  have t4 : IntKind.i64.wrap (-(n : Int)) = -(n : Int) := wr64 (by omega) (by omega)
  have hr' : r'.length ≤ 1000000 := by have := natI_len hn; simp at this hr; omega
  have hx' := tx_cons_drop 47 r'
  have HV2 := Lib.hid (natV_of_none hd)
  have h45 : ((((tx (c0 :: r))[0]'(by simp [ByteArray.size])).toNat : Int) == 45) = false := by rw [beq_eq_false_iff_ne]; intro e; exact hc0 (UInt8.toNat.inj (by show c0.toNat = 45; exact Int.ofNat.inj e))
  clear hok ho hn hd hc0
  go_enter Tryz.func55, Tryz.ntmps55
  go_wp2_with (first
    | (go_at_call 75; refine (rnative_any _ _ (by assumption)).mono ?_; first
        | (rintro e w1 ⟨rfl, hB1⟩; rw [HV.out]; have X1 := Lib.hid ((Bx2.at_ rfl).below hB1 (by simp)); have c0 := X1.out.cell0; have c1 := X1.out.cell1; have f0 := X1.out.frozen 0; have f1 := X1.out.frozen 1; have l1 := X1.out.lt)
        | (rintro e w2 ⟨rfl, hB2⟩; rw [HV2.out]; have X2 := Lib.hid (((X1.out.alloc _).below hB2 (by simp; omega))); have Y2 := Lib.hid ((Bx2.at_ rfl).below hB2 (by simp)); have d0 := X2.out.cell0; have d1 := X2.out.cell1; have g0 := X2.out.frozen 0; have g1 := X2.out.frozen 1; have e0 := Y2.out.cell0; have e1 := Y2.out.cell1; have k0 := Y2.out.frozen 0; have k1 := Y2.out.frozen 1; have l2 := Y2.out.lt))
    | (go_at_call 76; refine (rgcd_any _ _ _ (by assumption) (by assumption)).mono ?_; rintro e w3 ⟨rfl, hB3⟩; have X3 := Lib.hid ((X2.out.far (p := ⟨w1.heap.size, 1, none⟩) (by simp; omega) _).below hB3 (by simpa [World.setCell] using by omega)); have Y3 := Lib.hid ((Y2.out.put1 _).below hB3 (by simpa [World.setCell] using l2)); have m0 := X3.out.cell0; have m1 := X3.out.cell1; have n0 := X3.out.frozen 0; have n1 := X3.out.frozen 1; have o0 := Y3.out.cell0; have o1 := Y3.out.cell1; have q0 := Y3.out.frozen 0; have q1 := Y3.out.frozen 1))
  refine nof_ret (blk := w.heap.size) (x := 0) (y := 0) ?nofX rfl rfl rfl HOK.out ?nofB
  case nofX => repeat first | with_reducible apply Bx2.put0 | with_reducible apply Bx2.put1 | with_reducible apply Bx2.far | with_reducible apply Bx2.alloc | with_reducible exact X3.out | with_reducible exact X2.out | with_reducible exact X1.out | omega | (simp; done) | (simp; omega)
  case nofB => repeat first | with_reducible refine Below.setCell ?_ (by first | omega | (simp; done) | (simp; omega)) _ | with_reducible refine Below.alloc ?_ (by first | omega | (simp; done) | (simp; omega)) _ | with_reducible refine below_call ?_ (by assumption) (by first | omega | (simp; done) | (simp [World.setCell]; omega)) | with_reducible exact Below.refl _ _

set_option maxRecDepth 100000 in
set_option maxHeartbeats 2000000 in
theorem nof_pos_rest (c0 : UInt8) (r : List UInt8) (w : World) (hr : (c0 :: r).length ≤ 1000000) (hc0 : c0 ≠ 45) (n : Nat) (r' : List UInt8) (hn : natI (c0 :: r) = some (n, (47 :: r'))) (d : Nat) (cq : UInt8) (q : List UInt8) (hd : natI r' = some (d, (cq :: q))) : Calls Tryz.prog 55 #[.string (tx (c0 :: r))] w (NofPost w (c0 :: r)) := by
  have ho : own (c0 :: r) = (c0 :: r) := own_plain hc0
  have hok : natOk (c0 :: r) = false := by unfold natOk; simp [ho, hn, hd]
  have HOK := Lib.hid hok
  have HV := Lib.hid (natV_of_some hn)
  have hnl := natI_lt hn
  have t4 : IntKind.i64.wrap (-(n : Int)) = -(n : Int) := wr64 (by omega) (by omega)
  have hr' : r'.length ≤ 1000000 := by have := natI_len hn; simp at this hr; omega
  have hx' := tx_cons_drop 47 r'
  have HV2 := Lib.hid (natV_of_some hd)
  have hdl := natI_lt hd
  have h45 : ((((tx (c0 :: r))[0]'(by simp [ByteArray.size])).toNat : Int) == 45) = false := by rw [beq_eq_false_iff_ne]; intro e; exact hc0 (UInt8.toNat.inj (by show c0.toNat = 45; exact Int.ofNat.inj e))
  clear hok ho hn hd hc0
  go_enter Tryz.func55, Tryz.ntmps55
  go_wp2_with (first
    | (go_at_call 75; refine (rnative_any _ _ (by assumption)).mono ?_; first
        | (rintro e w1 ⟨rfl, hB1⟩; rw [HV.out]; have X1 := Lib.hid ((Bx2.at_ rfl).below hB1 (by simp)); have c0 := X1.out.cell0; have c1 := X1.out.cell1; have f0 := X1.out.frozen 0; have f1 := X1.out.frozen 1; have l1 := X1.out.lt)
        | (rintro e w2 ⟨rfl, hB2⟩; rw [HV2.out]; have X2 := Lib.hid (((X1.out.alloc _).below hB2 (by simp; omega))); have Y2 := Lib.hid ((Bx2.at_ rfl).below hB2 (by simp)); have d0 := X2.out.cell0; have d1 := X2.out.cell1; have g0 := X2.out.frozen 0; have g1 := X2.out.frozen 1; have e0 := Y2.out.cell0; have e1 := Y2.out.cell1; have k0 := Y2.out.frozen 0; have k1 := Y2.out.frozen 1; have l2 := Y2.out.lt))
    | (go_at_call 76; refine (rgcd_any _ _ _ (by assumption) (by assumption)).mono ?_; rintro e w3 ⟨rfl, hB3⟩; have X3 := Lib.hid ((X2.out.far (p := ⟨w1.heap.size, 1, none⟩) (by simp; omega) _).below hB3 (by simpa [World.setCell] using by omega)); have Y3 := Lib.hid ((Y2.out.put1 _).below hB3 (by simpa [World.setCell] using l2)); have m0 := X3.out.cell0; have m1 := X3.out.cell1; have n0 := X3.out.frozen 0; have n1 := X3.out.frozen 1; have o0 := Y3.out.cell0; have o1 := Y3.out.cell1; have q0 := Y3.out.frozen 0; have q1 := Y3.out.frozen 1))
  refine nof_ret (blk := w.heap.size) (x := 0) (y := 0) ?nofX rfl rfl rfl HOK.out ?nofB
  case nofX => repeat first | with_reducible apply Bx2.put0 | with_reducible apply Bx2.put1 | with_reducible apply Bx2.far | with_reducible apply Bx2.alloc | with_reducible exact X3.out | with_reducible exact X2.out | with_reducible exact X1.out | omega | (simp; done) | (simp; omega)
  case nofB => repeat first | with_reducible refine Below.setCell ?_ (by first | omega | (simp; done) | (simp; omega)) _ | with_reducible refine Below.alloc ?_ (by first | omega | (simp; done) | (simp; omega)) _ | with_reducible refine below_call ?_ (by assumption) (by first | omega | (simp; done) | (simp [World.setCell]; omega)) | with_reducible exact Below.refl _ _

set_option maxRecDepth 100000 in
set_option maxHeartbeats 2000000 in
theorem nof_pos_small (c0 : UInt8) (r : List UInt8) (w : World) (hr : (c0 :: r).length ≤ 1000000) (hc0 : c0 ≠ 45) (n : Nat) (r' : List UInt8) (hn : natI (c0 :: r) = some (n, (47 :: r'))) (d : Nat) (hd : natI r' = some (d, [])) (hd2 : ¬ 2 ≤ d) : Calls Tryz.prog 55 #[.string (tx (c0 :: r))] w (NofPost w (c0 :: r)) := by
  have ho : own (c0 :: r) = (c0 :: r) := own_plain hc0
  have hok : natOk (c0 :: r) = false := by unfold natOk; simp [ho, hn, hd]; intro h; exact absurd h hd2
  have HOK := Lib.hid hok
  have HV := Lib.hid (natV_of_some hn)
  have hnl := natI_lt hn
  have t4 : IntKind.i64.wrap (-(n : Int)) = -(n : Int) := wr64 (by omega) (by omega)
  have hr' : r'.length ≤ 1000000 := by have := natI_len hn; simp at this hr; omega
  have hx' := tx_cons_drop 47 r'
  have HV2 := Lib.hid (natV_of_some hd)
  have hdl := natI_lt hd
  have t2 : decide ((d : Int) < 2) = true := by rw [decide_eq_true_eq]; omega
  have h45 : ((((tx (c0 :: r))[0]'(by simp [ByteArray.size])).toNat : Int) == 45) = false := by rw [beq_eq_false_iff_ne]; intro e; exact hc0 (UInt8.toNat.inj (by show c0.toNat = 45; exact Int.ofNat.inj e))
  clear hok ho hn hd2 hd hc0
  go_enter Tryz.func55, Tryz.ntmps55
  go_wp2_with (first
    | (go_at_call 75; refine (rnative_any _ _ (by assumption)).mono ?_; first
        | (rintro e w1 ⟨rfl, hB1⟩; rw [HV.out]; have X1 := Lib.hid ((Bx2.at_ rfl).below hB1 (by simp)); have c0 := X1.out.cell0; have c1 := X1.out.cell1; have f0 := X1.out.frozen 0; have f1 := X1.out.frozen 1; have l1 := X1.out.lt)
        | (rintro e w2 ⟨rfl, hB2⟩; rw [HV2.out]; have X2 := Lib.hid (((X1.out.alloc _).below hB2 (by simp; omega))); have Y2 := Lib.hid ((Bx2.at_ rfl).below hB2 (by simp)); have d0 := X2.out.cell0; have d1 := X2.out.cell1; have g0 := X2.out.frozen 0; have g1 := X2.out.frozen 1; have e0 := Y2.out.cell0; have e1 := Y2.out.cell1; have k0 := Y2.out.frozen 0; have k1 := Y2.out.frozen 1; have l2 := Y2.out.lt))
    | (go_at_call 76; refine (rgcd_any _ _ _ (by assumption) (by assumption)).mono ?_; rintro e w3 ⟨rfl, hB3⟩; have X3 := Lib.hid ((X2.out.far (p := ⟨w1.heap.size, 1, none⟩) (by simp; omega) _).below hB3 (by simpa [World.setCell] using by omega)); have Y3 := Lib.hid ((Y2.out.put1 _).below hB3 (by simpa [World.setCell] using l2)); have m0 := X3.out.cell0; have m1 := X3.out.cell1; have n0 := X3.out.frozen 0; have n1 := X3.out.frozen 1; have o0 := Y3.out.cell0; have o1 := Y3.out.cell1; have q0 := Y3.out.frozen 0; have q1 := Y3.out.frozen 1))
  refine nof_ret (blk := w.heap.size) (x := 0) (y := 0) ?nofX rfl rfl rfl HOK.out ?nofB
  case nofX => repeat first | with_reducible apply Bx2.put0 | with_reducible apply Bx2.put1 | with_reducible apply Bx2.far | with_reducible apply Bx2.alloc | with_reducible exact X3.out | with_reducible exact X2.out | with_reducible exact X1.out | omega | (simp; done) | (simp; omega)
  case nofB => repeat first | with_reducible refine Below.setCell ?_ (by first | omega | (simp; done) | (simp; omega)) _ | with_reducible refine Below.alloc ?_ (by first | omega | (simp; done) | (simp; omega)) _ | with_reducible refine below_call ?_ (by assumption) (by first | omega | (simp; done) | (simp [World.setCell]; omega)) | with_reducible exact Below.refl _ _

set_option maxRecDepth 100000 in
set_option maxHeartbeats 2000000 in
theorem nof_pos_common (c0 : UInt8) (r : List UInt8) (w : World) (hr : (c0 :: r).length ≤ 1000000) (hc0 : c0 ≠ 45) (n : Nat) (r' : List UInt8) (hn : natI (c0 :: r) = some (n, (47 :: r'))) (d : Nat) (hd : natI r' = some (d, [])) (hd2 : 2 ≤ d) (hg : ¬ Nat.gcd n d = 1) : Calls Tryz.prog 55 #[.string (tx (c0 :: r))] w (NofPost w (c0 :: r)) := by
  have ho : own (c0 :: r) = (c0 :: r) := own_plain hc0
  have hok : natOk (c0 :: r) = false := by unfold natOk; simp [ho, hn, hd, hg]
  have HOK := Lib.hid hok
  have HV := Lib.hid (natV_of_some hn)
  have hnl := natI_lt hn
  have t4 : IntKind.i64.wrap (-(n : Int)) = -(n : Int) := wr64 (by omega) (by omega)
  have hr' : r'.length ≤ 1000000 := by have := natI_len hn; simp at this hr; omega
  have hx' := tx_cons_drop 47 r'
  have HV2 := Lib.hid (natV_of_some hd)
  have hdl := natI_lt hd
  have t2 : decide ((d : Int) < 2) = false := by rw [decide_eq_false_iff_not]; omega
  have t3 : (((Nat.gcd n d : Nat) : Int) != 1) = true := by rw [bne_iff_ne]; omega
  have h45 : ((((tx (c0 :: r))[0]'(by simp [ByteArray.size])).toNat : Int) == 45) = false := by rw [beq_eq_false_iff_ne]; intro e; exact hc0 (UInt8.toNat.inj (by show c0.toNat = 45; exact Int.ofNat.inj e))
  clear hok ho hn hd2 hg hd hc0
  go_enter Tryz.func55, Tryz.ntmps55
  go_wp2_with (first
    | (go_at_call 75; refine (rnative_any _ _ (by assumption)).mono ?_; first
        | (rintro e w1 ⟨rfl, hB1⟩; rw [HV.out]; have X1 := Lib.hid ((Bx2.at_ rfl).below hB1 (by simp)); have c0 := X1.out.cell0; have c1 := X1.out.cell1; have f0 := X1.out.frozen 0; have f1 := X1.out.frozen 1; have l1 := X1.out.lt)
        | (rintro e w2 ⟨rfl, hB2⟩; rw [HV2.out]; have X2 := Lib.hid (((X1.out.alloc _).below hB2 (by simp; omega))); have Y2 := Lib.hid ((Bx2.at_ rfl).below hB2 (by simp)); have d0 := X2.out.cell0; have d1 := X2.out.cell1; have g0 := X2.out.frozen 0; have g1 := X2.out.frozen 1; have e0 := Y2.out.cell0; have e1 := Y2.out.cell1; have k0 := Y2.out.frozen 0; have k1 := Y2.out.frozen 1; have l2 := Y2.out.lt))
    | (go_at_call 76; refine (rgcd_any _ _ _ (by assumption) (by assumption)).mono ?_; rintro e w3 ⟨rfl, hB3⟩; have X3 := Lib.hid ((X2.out.far (p := ⟨w1.heap.size, 1, none⟩) (by simp; omega) _).below hB3 (by simpa [World.setCell] using by omega)); have Y3 := Lib.hid ((Y2.out.put1 _).below hB3 (by simpa [World.setCell] using l2)); have m0 := X3.out.cell0; have m1 := X3.out.cell1; have n0 := X3.out.frozen 0; have n1 := X3.out.frozen 1; have o0 := Y3.out.cell0; have o1 := Y3.out.cell1; have q0 := Y3.out.frozen 0; have q1 := Y3.out.frozen 1))
  refine nof_ret (blk := w.heap.size) (x := 0) (y := 0) ?nofX rfl rfl rfl HOK.out ?nofB
  case nofX => repeat first | with_reducible apply Bx2.put0 | with_reducible apply Bx2.put1 | with_reducible apply Bx2.far | with_reducible apply Bx2.alloc | with_reducible exact X3.out | with_reducible exact X2.out | with_reducible exact X1.out | omega | (simp; done) | (simp; omega)
  case nofB => repeat first | with_reducible refine Below.setCell ?_ (by first | omega | (simp; done) | (simp; omega)) _ | with_reducible refine Below.alloc ?_ (by first | omega | (simp; done) | (simp; omega)) _ | with_reducible refine below_call ?_ (by assumption) (by first | omega | (simp; done) | (simp [World.setCell]; omega)) | with_reducible exact Below.refl _ _

set_option maxRecDepth 100000 in
set_option maxHeartbeats 2000000 in
theorem nof_pos_ok (c0 : UInt8) (r : List UInt8) (w : World) (hr : (c0 :: r).length ≤ 1000000) (hc0 : c0 ≠ 45) (n : Nat) (r' : List UInt8) (hn : natI (c0 :: r) = some (n, (47 :: r'))) (d : Nat) (hd : natI r' = some (d, [])) (hd2 : 2 ≤ d) (hg : Nat.gcd n d = 1) : Calls Tryz.prog 55 #[.string (tx (c0 :: r))] w (NofPost w (c0 :: r)) := by
  have ho : own (c0 :: r) = (c0 :: r) := own_plain hc0
  have hok : natOk (c0 :: r) = true := by unfold natOk; simp [ho, hn, hd, hg, hd2]
  have HOK := Lib.hid hok
  have HV := Lib.hid (natV_of_some hn)
  have hnl := natI_lt hn
  have t4 : IntKind.i64.wrap (-(n : Int)) = -(n : Int) := wr64 (by omega) (by omega)
  have hr' : r'.length ≤ 1000000 := by have := natI_len hn; simp at this hr; omega
  have hx' := tx_cons_drop 47 r'
  have HV2 := Lib.hid (natV_of_some hd)
  have hdl := natI_lt hd
  have t2 : decide ((d : Int) < 2) = false := by rw [decide_eq_false_iff_not]; omega
  have t3 : (((Nat.gcd n d : Nat) : Int) != 1) = false := by rw [hg]; rfl
  have h45 : ((((tx (c0 :: r))[0]'(by simp [ByteArray.size])).toNat : Int) == 45) = false := by rw [beq_eq_false_iff_ne]; intro e; exact hc0 (UInt8.toNat.inj (by show c0.toNat = 45; exact Int.ofNat.inj e))
  clear hok ho hn hd2 hg hd hc0
  go_enter Tryz.func55, Tryz.ntmps55
  go_wp2_with (first
    | (go_at_call 75; refine (rnative_any _ _ (by assumption)).mono ?_; first
        | (rintro e w1 ⟨rfl, hB1⟩; rw [HV.out]; have X1 := Lib.hid ((Bx2.at_ rfl).below hB1 (by simp)); have c0 := X1.out.cell0; have c1 := X1.out.cell1; have f0 := X1.out.frozen 0; have f1 := X1.out.frozen 1; have l1 := X1.out.lt)
        | (rintro e w2 ⟨rfl, hB2⟩; rw [HV2.out]; have X2 := Lib.hid (((X1.out.alloc _).below hB2 (by simp; omega))); have Y2 := Lib.hid ((Bx2.at_ rfl).below hB2 (by simp)); have d0 := X2.out.cell0; have d1 := X2.out.cell1; have g0 := X2.out.frozen 0; have g1 := X2.out.frozen 1; have e0 := Y2.out.cell0; have e1 := Y2.out.cell1; have k0 := Y2.out.frozen 0; have k1 := Y2.out.frozen 1; have l2 := Y2.out.lt))
    | (go_at_call 76; refine (rgcd_any _ _ _ (by assumption) (by assumption)).mono ?_; rintro e w3 ⟨rfl, hB3⟩; have X3 := Lib.hid ((X2.out.far (p := ⟨w1.heap.size, 1, none⟩) (by simp; omega) _).below hB3 (by simpa [World.setCell] using by omega)); have Y3 := Lib.hid ((Y2.out.put1 _).below hB3 (by simpa [World.setCell] using l2)); have m0 := X3.out.cell0; have m1 := X3.out.cell1; have n0 := X3.out.frozen 0; have n1 := X3.out.frozen 1; have o0 := Y3.out.cell0; have o1 := Y3.out.cell1; have q0 := Y3.out.frozen 0; have q1 := Y3.out.frozen 1))
  refine nof_ret (blk := w.heap.size) (x := (n : Int)) (y := (d : Int)) ?nofX rfl rfl rfl HOK.out ?nofB
  case nofX => repeat first | with_reducible apply Bx2.put0 | with_reducible apply Bx2.put1 | with_reducible apply Bx2.far | with_reducible apply Bx2.alloc | with_reducible exact X3.out | with_reducible exact X2.out | with_reducible exact X1.out | omega | (simp; done) | (simp; omega)
  case nofB => repeat first | with_reducible refine Below.setCell ?_ (by first | omega | (simp; done) | (simp; omega)) _ | with_reducible refine Below.alloc ?_ (by first | omega | (simp; done) | (simp; omega)) _ | with_reducible refine below_call ?_ (by assumption) (by first | omega | (simp; done) | (simp [World.setCell]; omega)) | with_reducible exact Below.refl _ _

end Go.Proofs.YtbnnccnicfddlaaGreatDoor
namespace Go.Proofs.YtbnnccnicfddlaaGreatDoor
open Go.RowKit Go.Shelf Kp

set_option maxRecDepth 100000 in
set_option maxHeartbeats 2000000 in
theorem nof_nil (w : World) : Calls Tryz.prog 55 #[.string (tx [])] w (NofPost w []) := by
  have HOK := Lib.hid (show natOk [] = false by rfl)
  have HV := Lib.hid (natV_of_none (s := []) (by rfl))
  have hr : ([] : List UInt8).length ≤ 1000000 := by simp
  go_enter Tryz.func55, Tryz.ntmps55
  go_wp2_with (go_at_call 75; refine (rnative_any [] _ hr).mono ?_; rintro e w1 ⟨rfl, hB1⟩; rw [HV.out]; have X1 := Lib.hid ((Bx2.at_ rfl).below hB1 (by simp)); have c0 := X1.out.cell0; have c1 := X1.out.cell1; have f0 := X1.out.frozen 0; have f1 := X1.out.frozen 1; have l1 := X1.out.lt)
  refine nof_ret (blk := w.heap.size) (x := 0) (y := 0) ?nofX rfl rfl rfl HOK.out ?nofB
  case nofX => repeat first | with_reducible apply Bx2.put0 | with_reducible apply Bx2.put1 | with_reducible exact X1.out
  case nofB => repeat first | with_reducible refine Below.setCell ?_ (by first | omega | (simp; done) | (simp; omega)) _ | with_reducible refine Below.alloc ?_ (by first | omega | (simp; done) | (simp; omega)) _ | with_reducible refine below_call ?_ (by assumption) (by first | omega | (simp; done) | (simp [World.setCell]; omega)) | with_reducible exact Below.refl _ _

theorem rnativeof_any (a : List UInt8) (w : World) (hs : a.length ≤ 1000000) : Calls Tryz.prog 55 #[.string (tx a)] w (NofPost w a) := by
  cases a with
  | nil => exact nof_nil w
  | cons c0 r =>
    by_cases hc0 : c0 = 45
    · subst hc0
      have hr : r.length ≤ 1000000 := by simp at hs; omega
      cases hn : natI r with
      | none => exact nof_neg_none r w hr hn
      | some p =>
        obtain ⟨n, q⟩ := p
        by_cases hn0 : n = 0
        · exact nof_neg_zero r w hr n q hn hn0
        · cases q with
          | nil => exact nof_neg_end r w hr n hn hn0
          | cons c r' =>
            by_cases hc : c = 47
            · subst hc
              cases hd : natI r' with
              | none => exact nof_neg_none2 r w hr n r' hn hn0 hd
              | some p =>
                obtain ⟨d, q⟩ := p
                cases q with
                | cons cq q => exact nof_neg_rest r w hr n r' hn hn0 d cq q hd
                | nil =>
                  by_cases hd2 : 2 ≤ d
                  · by_cases hg : Nat.gcd n d = 1
                    · exact nof_neg_ok r w hr n r' hn hn0 d hd hd2 hg
                    · exact nof_neg_common r w hr n r' hn hn0 d hd hd2 hg
                  · exact nof_neg_small r w hr n r' hn hn0 d hd hd2
            · exact nof_neg_noslash r w hr n c r' hn hn0 hc
    · cases hn : natI (c0 :: r) with
      | none => exact nof_pos_none c0 r w hs hc0 hn
      | some p =>
        obtain ⟨n, q⟩ := p
        cases q with
        | nil => exact nof_pos_end c0 r w hs hc0 n hn
        | cons c r' =>
          by_cases hc : c = 47
          · subst hc
            cases hd : natI r' with
            | none => exact nof_pos_none2 c0 r w hs hc0 n r' hn hd
            | some p =>
              obtain ⟨d, q⟩ := p
              cases q with
              | cons cq q => exact nof_pos_rest c0 r w hs hc0 n r' hn d cq q hd
              | nil =>
                by_cases hd2 : 2 ≤ d
                · by_cases hg : Nat.gcd n d = 1
                  · exact nof_pos_ok c0 r w hs hc0 n r' hn d hd hd2 hg
                  · exact nof_pos_common c0 r w hs hc0 n r' hn d hd hd2 hg
                · exact nof_pos_small c0 r w hs hc0 n r' hn d hd hd2
          · exact nof_pos_noslash c0 r w hs hc0 n c r' hn hc

/-- rational.digits -/
def rdig (s : List UInt8) : Nat := if 1 < (lead s).length ∧ s.head? = some 48 then 0 else (lead s).length
def DigRel (s : List UInt8) (i : Value) : Prop := ∃ k : Nat, k ≤ s.length ∧ i = .int .i64 (k : Int) ∧ (s.take k).all isD = true

set_option maxRecDepth 100000 in
set_option maxHeartbeats 2000000 in
theorem rdigits_any (s : List UInt8) (w : World) (hs : s.length ≤ 1000000) :
    Calls Tryz.prog 74 #[.string (tx s)] w fun e w' => e = .returned (.int .i64 (rdig s)) ∧ w' = w := by
  go_enter Tryz.func74, Tryz.ntmps74
  go_wp2
  go_loop [3] (fun i => DigRel s i) (fun i => ((s.length : Int) - intOf i).toNat)
  case atStart => exact ⟨0, by omega, rfl, rfl⟩
  case round =>
    obtain ⟨k, hk, rfl, hall⟩ := hrel
    by_cases hgo : ∃ h : k < s.length, isD (s[k]'h) = true
    · obtain ⟨hlt, hd⟩ := hgo
      have hb : k < (tx s).size := by rw [tx_size]; exact hlt
      have hx : (tx s)[k]'hb = s[k] := rfl
      have hdl := dig_lt hd
      have d1 : 48 ≤ (((tx s)[k]'hb).toNat : Int) := by rw [hx]; omega
      have d2 : (((tx s)[k]'hb).toNat : Int) ≤ 57 := by rw [hx]; omega
      have hnx : DigRel s (.int .i64 ((k : Int) + 1)) := ⟨k + 1, by omega, by simp, all_take hlt hall hd⟩
      have HNX := Lib.hid hnx
      clear hnx hdl hx hall hd
      go_wp2
      exact ⟨HNX.out, by simp [intOf]; omega⟩
    · have hL : (lead s).length = k := by
        by_cases hlt : k < s.length
        · refine lead_stop hall hlt ?_
          cases hd : isD s[k] with
          | false => rfl
          | true => exact absurd ⟨hlt, hd⟩ hgo
        · have e : k = s.length := by omega
          rw [e] at hall; rw [e]; exact lead_end hall
      have hwhy : (¬ k < s.length) ∨ (∃ h : k < (tx s).size, (((tx s)[k]'h).toNat : Int) < 48) ∨ (∃ h : k < (tx s).size, 57 < (((tx s)[k]'h).toNat : Int)) := by
        by_cases h1 : k < s.length
        · have hdb : isD s[k] = false := by
            cases hd : isD s[k] with
            | false => rfl
            | true => exact absurd ⟨h1, hd⟩ hgo
          have h1' : k < (tx s).size := by rw [tx_size]; exact h1
          rw [isD_int] at hdb
          simp only [Bool.and_eq_false_iff, decide_eq_false_iff_not] at hdb
          rcases hdb with h | h
          · exact .inr (.inl ⟨h1', by show ((s[k]).toNat : Int) < 48; omega⟩)
          · exact .inr (.inr ⟨h1', by show 57 < ((s[k]).toNat : Int); omega⟩)
        · exact .inl h1
      have HL := Lib.hid hL
      clear hgo hL hall
      by_cases hz : 1 < k ∧ s.head? = some 48
      · obtain ⟨h1, h48⟩ := hz
        have HR := Lib.hid (show rdig s = 0 by unfold rdig; rw [HL.out, if_pos ⟨h1, h48⟩])
        have h0 : 0 < (tx s).size := by rw [tx_size]; omega
        have t48 : ((((tx s)[0]'h0).toNat : Int) == 48) = true := by
          rw [beq_iff_eq]
          cases s with
          | nil => cases h48
          | cons b r => simp only [List.head?_cons, Option.some.injEq] at h48; subst h48; rfl
        clear h48
        have h1' : decide (1 < (k : Int)) = true := by rw [decide_eq_true_eq]; omega
        rcases hwhy with hw | ⟨hw2, hw3⟩ | ⟨hw2, hw3⟩
        · go_wp2
          go_ret
          exact ⟨ret_int' (by rw [HR.out]; rfl), rfl⟩
        · have hw4 : k < s.length := by rw [tx_size] at hw2; exact hw2
          go_wp2
          go_ret
          exact ⟨ret_int' (by rw [HR.out]; rfl), rfl⟩
        · have hw4 : k < s.length := by rw [tx_size] at hw2; exact hw2
          go_wp2
          go_ret
          exact ⟨ret_int' (by rw [HR.out]; rfl), rfl⟩
      · have HR := Lib.hid (show rdig s = k by unfold rdig; rw [HL.out, if_neg hz])
        by_cases h1 : 1 < k
        · have h48 : ¬ s.head? = some 48 := fun h => hz ⟨h1, h⟩
          have h0 : 0 < (tx s).size := by rw [tx_size]; omega
          have t48 : ((((tx s)[0]'h0).toNat : Int) == 48) = false := by
            rw [beq_eq_false_iff_ne]; intro e; exact h48 (head48 e)
          have h1' : decide (1 < (k : Int)) = true := by rw [decide_eq_true_eq]; omega
          clear hz h48
          rcases hwhy with hw | ⟨hw2, hw3⟩ | ⟨hw2, hw3⟩
          · go_wp2
            go_ret
            exact ⟨ret_int' (by rw [HR.out]), rfl⟩
          · have hw4 : k < s.length := by rw [tx_size] at hw2; exact hw2
            go_wp2
            go_ret
            exact ⟨ret_int' (by rw [HR.out]), rfl⟩
          · have hw4 : k < s.length := by rw [tx_size] at hw2; exact hw2
            go_wp2
            go_ret
            exact ⟨ret_int' (by rw [HR.out]), rfl⟩
        · have h1' : decide (1 < (k : Int)) = false := by rw [decide_eq_false_iff_not]; omega
          clear hz
          rcases hwhy with hw | ⟨hw2, hw3⟩ | ⟨hw2, hw3⟩
          · go_wp2
            go_ret
            exact ⟨ret_int' (by rw [HR.out]), rfl⟩
          · have hw4 : k < s.length := by rw [tx_size] at hw2; exact hw2
            go_wp2
            go_ret
            exact ⟨ret_int' (by rw [HR.out]), rfl⟩
          · have hw4 : k < s.length := by rw [tx_size] at hw2; exact hw2
            go_wp2
            go_ret
            exact ⟨ret_int' (by rw [HR.out]), rfl⟩
end Go.Proofs.YtbnnccnicfddlaaGreatDoor
