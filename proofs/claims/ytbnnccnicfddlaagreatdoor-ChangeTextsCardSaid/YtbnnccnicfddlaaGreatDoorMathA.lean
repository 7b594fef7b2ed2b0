/- Plain mathematics of limbs: no program in sight. · Plain mathematics of limbs: no program in sight. · Plain mathematics of limbs: no program in sight. · The long division on lists of limbs: one step, and the end. Plain mathematics. · Limbs are one list for each number. -/
set_option linter.unusedSimpArgs false
set_option linter.unusedVariables false
namespace Kp

abbrev B : Nat := 1000000000

/-- the value of the first n limbs of f -/
def S (f : Nat → Nat) : Nat → Nat
  | 0 => 0
  | n + 1 => S f n + f n * B ^ n

theorem S_zero' (f : Nat → Nat) : S f 0 = 0 := rfl
theorem S_succ (f : Nat → Nat) (n : Nat) : S f (n + 1) = S f n + f n * B ^ n := rfl
theorem pow_pos' (n : Nat) : 0 < B ^ n := Nat.pow_pos (by decide)

theorem S_congr {f g : Nat → Nat} {n : Nat} (h : ∀ k, k < n → f k = g k) : S f n = S g n := by
  induction n with
  | zero => rfl
  | succ n ih => rw [S_succ, S_succ, ih (fun k hk => h k (by omega)), h n (by omega)]

theorem S_lt {f : Nat → Nat} {n : Nat} (h : ∀ k, k < n → f k < B) : S f n < B ^ n := by
  induction n with
  | zero => simp [S]
  | succ n ih =>
    rw [S_succ, Nat.pow_succ]
    have h1 := ih (fun k hk => h k (by omega))
    have h2 : f n + 1 ≤ B := h n (by omega)
    have h3 : (f n + 1) * B ^ n ≤ B * B ^ n := Nat.mul_le_mul_right _ h2
    rw [Nat.add_mul, Nat.one_mul, Nat.mul_comm B] at h3
    omega

theorem S_eq_zero {f : Nat → Nat} {n : Nat} (h : ∀ k, k < n → f k = 0) : S f n = 0 := by
  induction n with
  | zero => rfl
  | succ n ih => rw [S_succ, ih (fun k hk => h k (by omega)), h n (by omega)]; simp

theorem S_add (f : Nat → Nat) (m n : Nat) : S f (m + n) = S f m + B ^ m * S (fun k => f (m + k)) n := by
  induction n with
  | zero => simp [S]
  | succ n ih =>
    rw [← Nat.add_assoc, S_succ, ih, S_succ, Nat.mul_add, Nat.pow_add]
    have : f (m + n) * (B ^ m * B ^ n) = B ^ m * (f (m + n) * B ^ n) := by
      rw [Nat.mul_left_comm]
    omega

/-- zeros above do not count -/
theorem S_ext {f : Nat → Nat} {m n : Nat} (h : m ≤ n) (hz : ∀ k, m ≤ k → k < n → f k = 0) : S f n = S f m := by
  obtain ⟨d, rfl⟩ : ∃ d, n = m + d := ⟨n - m, by omega⟩
  rw [S_add, S_eq_zero (f := fun k => f (m + k)) (fun k hk => hz _ (by omega) (by omega))]; simp

/-- unique limbs -/
theorem S_inj {f g : Nat → Nat} {n : Nat} (hf : ∀ k, k < n → f k < B) (hg : ∀ k, k < n → g k < B) (h : S f n = S g n) : ∀ k, k < n → f k = g k := by
  induction n with
  | zero => intro k hk; omega
  | succ n ih =>
    rw [S_succ, S_succ] at h
    have h1 := S_lt (fun k (hk : k < n) => hf k (by omega))
    have h2 := S_lt (fun k (hk : k < n) => hg k (by omega))
    have hp := pow_pos' n
    have e1 : (S f n + f n * B ^ n) / B ^ n = f n := by
      rw [Nat.add_mul_div_right _ _ hp, Nat.div_eq_of_lt h1]; omega
    have e2 : (S g n + g n * B ^ n) / B ^ n = g n := by
      rw [Nat.add_mul_div_right _ _ hp, Nat.div_eq_of_lt h2]; omega
    have e : f n = g n := by rw [← e1, ← e2, h]
    rw [e] at h
    have h3 : S f n = S g n := by omega
    intro k hk
    by_cases hkn : k = n
    · rw [hkn]; exact e
    · exact ih (fun k hk => hf k (by omega)) (fun k hk => hg k (by omega)) h3 k (by omega)

/-- one step of take -/
theorem take_step {X V U c P q xi vi ui c' : Nat} (h : X + q * V = U + c * P) (hs : xi + q * vi + c = ui + c' * B) :
    (X + xi * P) + q * (V + vi * P) = (U + ui * P) + c' * (P * B) := by
  have h1 := congrArg (· * P) hs
  simp only [Nat.add_mul] at h1
  rw [Nat.mul_add]
  have e1 : q * (vi * P) = q * vi * P := (Nat.mul_assoc _ _ _).symm
  have e2 : c' * (P * B) = c' * B * P := by rw [Nat.mul_comm P B, Nat.mul_assoc]
  rw [e1, e2]; omega

/-- one step of restore -/
theorem restore_step {X V U c P q xi vi ui c' : Nat} (h : X + c * P = U + q * V) (hs : xi + c' * B = ui + q * vi + c) :
    (X + xi * P) + c' * (P * B) = (U + ui * P) + q * (V + vi * P) := by
  have h1 := congrArg (· * P) hs
  simp only [Nat.add_mul] at h1
  rw [Nat.mul_add]
  have e1 : q * (vi * P) = q * vi * P := (Nat.mul_assoc _ _ _).symm
  have e2 : c' * (P * B) = c' * B * P := by rw [Nat.mul_comm P B, Nat.mul_assoc]
  rw [e1, e2]; omega

theorem take_fits {X V U q P : Nat} {c : Nat} (h : X + q * V = U + c * P) (hX : X < P) (_hU : U < P) : (c = 0 ↔ q * V ≤ U) := by
  constructor
  · intro hc; subst hc; omega
  · intro hq
    by_cases hc : c = 0
    · exact hc
    · exfalso
      have : 1 * P ≤ c * P := Nat.mul_le_mul_right _ (by omega)
      omega

theorem restore_same {X Y V U q c d P : Nat} (h : X + q * V = U + c * P) (h2 : Y + d * P = X + q * V) (hY : Y < P) (hU : U < P) : Y = U := by
  have h3 : Y + d * P = U + c * P := by omega
  have e1 : (Y + d * P) % P = Y := by rw [Nat.add_mul_mod_self_right, Nat.mod_eq_of_lt hY]
  have e2 : (U + c * P) % P = U := by rw [Nat.add_mul_mod_self_right, Nat.mod_eq_of_lt hU]
  rw [← e1, h3, e2]

/-- the first estimate is not too small: top two limbs over the first limb. U < (t+1) P, V ≥ v1 P, t < (q+1) v1 -/
theorem est_start {U V t q v1 P : Nat} (hU : U < (t + 1) * P) (hV : v1 * P ≤ V) (hq : t < (q + 1) * v1) : U < (q + 1) * V := by
  have h1 : (t + 1) * P ≤ (q + 1) * v1 * P := Nat.mul_le_mul_right _ (by omega)
  have h2 : (q + 1) * (v1 * P) ≤ (q + 1) * V := Nat.mul_le_mul_left _ hV
  rw [← Nat.mul_assoc] at h2
  omega

/-- where the third limb says so the estimate is too great. q v1 + r = t; P2 = B^(n-2); V ≥ (v1 B + v2) P2; U < (t B + u2 + 1) P2 -/
theorem est_down {U V t q r v1 v2 u2 P : Nat} (ht : q * v1 + r = t) (hU : U < (t * B + u2 + 1) * P) (hV : (v1 * B + v2) * P ≤ V)
    (hg : r * B + u2 < q * v2) : U < q * V := by
  have h1 : q * ((v1 * B + v2) * P) ≤ q * V := Nat.mul_le_mul_left _ hV
  have h2 : t * B + u2 + 1 ≤ q * (v1 * B + v2) := by
    have : t * B = q * (v1 * B) + r * B := by rw [← ht, Nat.add_mul, Nat.mul_assoc]
    rw [Nat.mul_add]; omega
  have h3 : (t * B + u2 + 1) * P ≤ q * (v1 * B + v2) * P := Nat.mul_le_mul_right _ h2
  rw [Nat.mul_assoc] at h3
  omega

theorem est_big {U V q : Nat} (hU : U < B * V) (hq : B ≤ q) : U < q * V :=
  Nat.lt_of_lt_of_le hU (Nat.mul_le_mul_right _ hq)

end Kp
namespace Kp

def fv (l : List Nat) : Nat → Nat := fun k => l.getD k 0
def val (l : List Nat) : Nat := S (fv l) l.length
def Small (l : List Nat) : Prop := ∀ d, d ∈ l → d < B
/-- no leading limb 0 -/
def Trim (l : List Nat) : Prop := ∀ d, l.getLast? = some d → d ≠ 0
structure Canon (l : List Nat) : Prop where
  small : Small l
  trim : Trim l

theorem fv_small {l : List Nat} (h : Small l) (k : Nat) : fv l k < B := by
  unfold fv
  rw [List.getD_eq_getElem?_getD]
  rcases Nat.lt_or_ge k l.length with hk | hk
  · rw [List.getElem?_eq_getElem hk]; exact h _ (List.getElem_mem hk)
  · rw [List.getElem?_eq_none hk]; decide
theorem fv_out {l : List Nat} {k : Nat} (h : l.length ≤ k) : fv l k = 0 := by
  unfold fv
  rw [List.getD_eq_getElem?_getD, List.getElem?_eq_none h]; rfl
theorem fv_in {l : List Nat} {k : Nat} (h : k < l.length) : fv l k = l[k] := by
  unfold fv
  rw [List.getD_eq_getElem?_getD, List.getElem?_eq_getElem h]; rfl
theorem val_of_ge {l : List Nat} {n : Nat} (h : l.length ≤ n) : S (fv l) n = val l := S_ext h (fun _ hk _ => fv_out hk)
theorem val_lt {l : List Nat} (h : Small l) : val l < B ^ l.length := S_lt (fun k _ => fv_small h k)
theorem val_nil : val [] = 0 := rfl
theorem val_snoc (l : List Nat) (d : Nat) : val (l ++ [d]) = val l + d * B ^ l.length := by
  unfold val
  rw [List.length_append]
  show S _ (l.length + 1) = _
  rw [S_succ, S_congr (g := fv l)]
  · unfold fv; simp
  · intro k hk; unfold fv; simp [List.getElem?_append_left hk]
theorem val_snoc_zero (l : List Nat) : val (l ++ [0]) = val l := by rw [val_snoc]; simp
theorem Small.snoc {l : List Nat} {d : Nat} (h : Small l) (hd : d < B) : Small (l ++ [d]) := by
  intro x hx
  rcases List.mem_append.1 hx with hx | hx
  · exact h x hx
  · rw [List.mem_singleton.1 hx]; exact hd
theorem Small.of_snoc {l : List Nat} {d : Nat} (h : Small (l ++ [d])) : Small l := fun x hx => h x (by simp [hx])

/-- a list is empty or has a last element -/
theorem snoc_cases (l : List Nat) : l = [] ∨ ∃ m d, l = m ++ [d] := by
  rcases List.eq_nil_or_concat l with h | ⟨m, d, h⟩
  · exact .inl h
  · exact .inr ⟨m, d, by simpa using h⟩

theorem Trim.last {l : List Nat} {d : Nat} (h : Trim (l ++ [d])) : d ≠ 0 := h d (by simp)
theorem trim_nil : Trim [] := by intro d h; simp at h
theorem trim_snoc {l : List Nat} {d : Nat} (h : d ≠ 0) : Trim (l ++ [d]) := by intro x hx; simp at hx; omega

theorem val_ge {l : List Nat} (h : Trim l) (hl : l ≠ []) : B ^ (l.length - 1) ≤ val l := by
  rcases snoc_cases l with rfl | ⟨m, d, rfl⟩
  · exact absurd rfl hl
  · rw [val_snoc]
    have hd := h.last
    have : 1 * B ^ m.length ≤ d * B ^ m.length := Nat.mul_le_mul_right _ (by omega)
    simp only [List.length_append, List.length_singleton, Nat.add_sub_cancel]
    omega
theorem val_pos {l : List Nat} (h : Trim l) (hl : l ≠ []) : 0 < val l := Nat.lt_of_lt_of_le (pow_pos' _) (val_ge h hl)
theorem val_eq_zero {l : List Nat} (h : Trim l) : val l = 0 ↔ l = [] := by
  constructor
  · intro h0
    by_cases hl : l = []
    · exact hl
    · have := val_pos h hl; omega
  · rintro rfl; rfl
theorem val_lt_of_length {a b : List Nat} (ha : Small a) (hb : Trim b) (h : a.length < b.length) : val a < val b := by
  have h1 := val_lt ha
  have h2 := val_ge hb (by rintro rfl; simp at h)
  have h3 : B ^ a.length ≤ B ^ (b.length - 1) := Nat.pow_le_pow_right (by decide) (by omega)
  omega

theorem list_ext_fv {a b : List Nat} (hl : a.length = b.length) (h : ∀ k, k < a.length → fv a k = fv b k) : a = b := by
  apply List.ext_getElem hl
  intro k h1 h2
  have := h k h1
  rw [fv_in h1, fv_in h2] at this
  exact this
theorem canon_inj {a b : List Nat} (ha : Canon a) (hb : Canon b) (h : val a = val b) : a = b := by
  have hl : a.length = b.length := by
    rcases Nat.lt_trichotomy a.length b.length with hlt | he | hlt
    · have := val_lt_of_length ha.small hb.trim hlt; omega
    · exact he
    · have := val_lt_of_length hb.small ha.trim hlt; omega
  refine list_ext_fv hl ?_
  unfold val at h
  rw [← hl] at h
  exact S_inj (fun k _ => fv_small ha.small k) (fun k _ => fv_small hb.small k) h

/-- what trim leaves -/
def trimL (l : List Nat) : List Nat := (l.reverse.dropWhile (· == 0)).reverse
theorem trimL_snoc_zero (l : List Nat) : trimL (l ++ [0]) = trimL l := by unfold trimL; simp
theorem trimL_snoc {l : List Nat} {d : Nat} (h : d ≠ 0) : trimL (l ++ [d]) = l ++ [d] := by unfold trimL; simp [h]
theorem trimL_nil : trimL [] = [] := rfl
theorem snoc_induction {p : List Nat → Prop} (h0 : p []) (hs : ∀ l d, p l → p (l ++ [d])) (l : List Nat) : p l := by
  have : ∀ m : List Nat, p m.reverse := by
    intro m
    induction m with
    | nil => exact h0
    | cons d m ih => rw [List.reverse_cons]; exact hs _ _ ih
  have h := this l.reverse
  rwa [List.reverse_reverse] at h
theorem val_trimL (l : List Nat) : val (trimL l) = val l := by
  refine snoc_induction (p := fun l => val (trimL l) = val l) rfl (fun l d ih => ?_) l
  by_cases hd : d = 0
  · subst hd; rw [trimL_snoc_zero, val_snoc_zero, ih]
  · rw [trimL_snoc hd]
theorem trimL_prefix (l : List Nat) : ∃ m, l = trimL l ++ List.replicate m 0 := by
  refine snoc_induction (p := fun l => ∃ m, l = trimL l ++ List.replicate m 0) ⟨0, rfl⟩ (fun l d ih => ?_) l
  by_cases hd : d = 0
  · subst hd
    obtain ⟨m, hm⟩ := ih
    refine ⟨m + 1, ?_⟩
    rw [trimL_snoc_zero, List.replicate_succ', ← List.append_assoc, ← hm]
  · exact ⟨0, by rw [trimL_snoc hd]; simp⟩
theorem trimL_canon {l : List Nat} (h : Small l) : Canon (trimL l) := by
  revert h
  refine snoc_induction (p := fun l => Small l → Canon (trimL l)) (fun _ => ⟨fun d h => by simp [trimL_nil] at h, trim_nil⟩) (fun l d ih h => ?_) l
  by_cases hd : d = 0
  · subst hd; rw [trimL_snoc_zero]; exact ih h.of_snoc
  · rw [trimL_snoc hd]; exact ⟨h, trim_snoc hd⟩
theorem trimL_self {l : List Nat} (h : Trim l) : trimL l = l := by
  rcases snoc_cases l with rfl | ⟨m, d, rfl⟩
  · rfl
  · exact trimL_snoc h.last
end Kp
namespace Kp

theorem S_cmp {f g : Nat → Nat} {n i : Nat} (hi : i < n) (hf : ∀ k, k < n → f k < B) (he : ∀ k, i < k → k < n → f k = g k) (hlt : f i < g i) : S f n < S g n := by
  obtain ⟨d, rfl⟩ : ∃ d, n = (i + 1) + d := ⟨n - (i + 1), by omega⟩
  rw [S_add f (i + 1), S_add g (i + 1), S_congr (f := fun k => f (i + 1 + k)) (g := fun k => g (i + 1 + k)) (fun k hk => he _ (by omega) (by omega)), S_succ, S_succ]
  have h1 := S_lt (n := i) (fun k hk => hf k (by omega))
  have h2 : (f i + 1) * B ^ i ≤ g i * B ^ i := Nat.mul_le_mul_right _ hlt
  rw [Nat.add_mul, Nat.one_mul] at h2
  omega

/-- the limbs from i on -/
def sh (f : Nat → Nat) (i : Nat) : Nat → Nat := fun k => f (i + k)
theorem S_sh (f : Nat → Nat) (i n : Nat) : S (sh f i) (n + 1) = f i + B * S (sh f (i + 1)) n := by
  have h := S_add (sh f i) 1 n
  rw [Nat.add_comm 1 n] at h
  rw [h, S_succ, S_zero', Nat.zero_add, Nat.pow_zero, Nat.mul_one, Nat.pow_one]
  have : S (fun k => sh f i (1 + k)) n = S (sh f (i + 1)) n := S_congr (fun k _ => by unfold sh; congr 1; omega)
  rw [this]; unfold sh; simp

/-- one step of the short division -/
theorem short_step {d T Q r a n : Nat} (h : T = d * Q + r) (hn : n = a + r * B) :
    a + B * T = d * (n / d + B * Q) + n % d := by
  have h1 : d * (n / d) + n % d = n := Nat.div_add_mod n d
  have h2 : B * T = d * (B * Q) + B * r := by rw [h, Nat.mul_add, Nat.mul_left_comm]
  rw [Nat.mul_add, Nat.mul_comm r B] at *
  omega
theorem short_lt {d r a n : Nat} (hr : r < d) (ha : a < B) (hn : n = a + r * B) : n / d < B ∧ n % d < d := by
  refine ⟨?_, Nat.mod_lt _ (by omega)⟩
  rw [Nat.div_lt_iff_lt_mul (by omega)]
  have : (r + 1) * B ≤ d * B := Nat.mul_le_mul_right _ hr
  rw [Nat.add_mul, Nat.one_mul, Nat.mul_comm d B] at this
  omega

/-- the carry that is left behind a row of a product is 0 -/
theorem times_carry {X c O x V P : Nat} (h : X + c * (P * B) = O + x * V) (hO : O < P) (hV : V < P) (hx : x < B) : c = 0 := by
  by_cases hc : c = 0
  · exact hc
  · exfalso
    have h1 : 1 * (P * B) ≤ c * (P * B) := Nat.mul_le_mul_right _ (by omega)
    have h2 : x * V ≤ x * P := Nat.mul_le_mul_left _ (by omega)
    have h3 : (x + 1) * P ≤ B * P := Nat.mul_le_mul_right _ hx
    rw [Nat.add_mul, Nat.one_mul, Nat.mul_comm B P] at h3
    omega

/-- S of a function that is turned between j and j + n -/
theorem S_turn {f g : Nat → Nat} {m j n : Nat} (hm : j + n ≤ m) (hlo : ∀ k, k < j → g k = f k) (hhi : ∀ k, j + n ≤ k → k < m → g k = f k) :
    S g m + B ^ j * S (sh f j) n = S f m + B ^ j * S (sh g j) n := by
  obtain ⟨d, rfl⟩ : ∃ d, m = (j + n) + d := ⟨m - (j + n), by omega⟩
  rw [S_add g, S_add f, S_add g j n, S_add f j n, S_congr (f := fun k => g (j + n + k)) (g := fun k => f (j + n + k)) (fun k hk => hhi _ (by omega) (by omega)), S_congr (f := g) (g := f) (n := j) (fun k hk => hlo k hk)]
  show _ + B ^ j * S (sh g j) n + _ + B ^ j * S (sh f j) n = _ + B ^ j * S (sh f j) n + _ + B ^ j * S (sh g j) n
  omega

/-- quotient and remainder with a common factor -/
theorem div_scaled {a b f Q R : Nat} (hf : 0 < f) (_hb : 0 < b) (h : a * f = Q * (b * f) + R) (hR : R < b * f) : Q = a / b ∧ R = (a % b) * f := by
  have h1 : Q * b ≤ a := by
    have : (Q * b) * f ≤ a * f := by rw [Nat.mul_assoc]; omega
    exact Nat.le_of_mul_le_mul_right this hf
  have h2 : a < (Q + 1) * b := by
    have : a * f < ((Q + 1) * b) * f := by rw [Nat.mul_assoc, Nat.add_mul, Nat.one_mul]; omega
    exact Nat.lt_of_mul_lt_mul_right this
  have hQ : Q = a / b := by
    rw [eq_comm]
    refine Nat.div_eq_of_lt_le ?_ ?_
    · rw [Nat.mul_comm] at h1; rwa [Nat.mul_comm]
    · exact h2
  refine ⟨hQ, ?_⟩
  have h3 := Nat.div_add_mod a b
  rw [← hQ] at h3
  have h4 : (b * Q + a % b) * f = a * f := by rw [h3]
  rw [Nat.add_mul] at h4
  have h5 : Q * (b * f) = b * Q * f := by rw [← Nat.mul_assoc, Nat.mul_comm Q b]
  omega
end Kp
namespace Kp

/-- what holds of the dividend u and the quotient q behind k steps; V the divisor's value, n its length -/
structure DvM (A V n k : Nat) (u q : List Nat) : Prop where
  small : Small u
  smallq : Small q
  len : u.length = q.length + n
  hk : k ≤ q.length
  eq : A = S (fv u) u.length + B ^ (q.length - k) * S (sh (fv q) (q.length - k)) k * V
  zero : ∀ i, q.length - k + n ≤ i → fv u i = 0
  seg : S (sh (fv u) (q.length - k)) n < V

theorem S_ge_top (f : Nat → Nat) (n : Nat) : f n * B ^ n ≤ S f (n + 1) := by rw [S_succ]; exact Nat.le_add_left _ _

theorem fv_setK {l : List Nat} {j x k : Nat} (hj : j < l.length) : fv (l.set j x) k = if k = j then x else fv l k := by
  unfold fv
  simp only [List.getD_eq_getElem?_getD, List.getElem?_set]
  by_cases h : j = k
  · subst h; simp [hj]
  · simp [h, Ne.symm h]
theorem Small.setK {l : List Nat} (h : Small l) {j x : Nat} (hx : x < B) : Small (l.set j x) := by
  intro d hd
  rcases List.mem_or_eq_of_mem_set hd with h1 | h1
  · exact h d h1
  · rw [h1]; exact hx

/-- the value of the n + 1 limbs that the next step looks at -/
theorem DvM.lt {A V n k : Nat} {u q : List Nat} (h : DvM A V n k u q) (hk : k < q.length) : S (sh (fv u) (q.length - 1 - k)) (n + 1) < B * V := by
  have hs := h.seg
  have e : q.length - k = (q.length - 1 - k) + 1 := by omega
  rw [e] at hs
  rw [S_sh]
  have hb : fv u (q.length - 1 - k) < B := fv_small h.small _
  have : B * (S (sh (fv u) (q.length - 1 - k + 1)) n + 1) ≤ B * V := Nat.mul_le_mul_left _ hs
  rw [Nat.mul_add] at this
  omega
theorem DvM.top {A V n k : Nat} {u q v : List Nat} (h : DvM A V n k u q) (hk : k < q.length) (hv : Small v) (hn : v.length = n) (h1 : 1 ≤ n) (hV : val v = V) : fv u (q.length - 1 - k + n) ≤ fv v (n - 1) := by
  have hl := h.lt hk
  have ht : fv u (q.length - 1 - k + n) * B ^ n ≤ S (sh (fv u) (q.length - 1 - k)) (n + 1) := S_ge_top (sh (fv u) (q.length - 1 - k)) n
  obtain ⟨m, rfl⟩ : ∃ m, n = m + 1 := ⟨n - 1, by omega⟩
  have hVlt : V < (fv v m + 1) * B ^ m := by
    rw [← hV]; unfold val; rw [hn, S_succ, Nat.add_mul, Nat.one_mul]
    have : S (fv v) m < B ^ m := S_lt (fun k _ => fv_small hv k)
    omega
  have h3 : B * V < B * ((fv v m + 1) * B ^ m) := Nat.mul_lt_mul_of_pos_left hVlt (by decide)
  have e : B * ((fv v m + 1) * B ^ m) = (fv v m + 1) * B ^ (m + 1) := by rw [Nat.pow_succ, Nat.mul_left_comm, Nat.mul_comm B]
  rw [e] at h3
  have h4 : fv u (q.length - 1 - k + (m + 1)) * B ^ (m + 1) < (fv v m + 1) * B ^ (m + 1) := by omega
  have h5 := Nat.lt_of_mul_lt_mul_right h4
  show _ ≤ fv v m
  omega

/-- one step: u3 is u with the limbs from j on lessened by d times the divisor -/
theorem DvM.step {A V n k d X : Nat} {u u3 q : List Nat} (h : DvM A V n k u q) (hk : k < q.length) (hV : V < B ^ n)
    (hl : u3.length = u.length) (hs : Small u3) (hsame : ∀ i, i < q.length - 1 - k ∨ q.length - 1 - k + (n + 1) ≤ i → fv u3 i = fv u i)
    (hX : S (sh (fv u3) (q.length - 1 - k)) (n + 1) = X) (he : X + d * V = S (sh (fv u) (q.length - 1 - k)) (n + 1)) (hlt : S (sh (fv u) (q.length - 1 - k)) (n + 1) < (d + 1) * V) :
    d < B ∧ DvM A V n (k + 1) u3 (q.set (q.length - 1 - k) d) := by
  have hltB := h.lt hk
  obtain ⟨j, hj⟩ : ∃ j, q.length - 1 - k = j := ⟨_, rfl⟩
  have e1 : q.length - (k + 1) = j := by omega
  have e2 : q.length - k = j + 1 := by omega
  obtain ⟨hsm, hsq, hlen, hkq, heq, hz, hseg⟩ := h
  rw [hj] at hsame hX he hlt hltB ⊢
  rw [e2] at heq hz hseg
  have hXV : X < V := by rw [Nat.add_mul, Nat.one_mul] at hlt; omega
  have hVpos : 0 < V := by omega
  have hd : d < B := by
    have : d * V < B * V := by omega
    exact Nat.lt_of_mul_lt_mul_right this
  refine ⟨hd, hs, Small.setK hsq hd, by simpa [hl] using hlen, by simp; omega, ?_, ?_, ?_⟩
  · rw [List.length_set, e1, hl]
    have ht := S_turn (f := fv u) (g := fv u3) (m := u.length) (j := j) (n := n + 1) (by omega) (fun i hi => hsame i (.inl hi)) (fun i hi _ => hsame i (.inr hi))
    have q1 : S (sh (fv (q.set j d)) j) (k + 1) = d + B * S (sh (fv q) (j + 1)) k := by
      rw [S_sh, fv_setK (by omega), if_pos rfl, S_congr (g := sh (fv q) (j + 1))]
      intro i _; unfold sh; rw [fv_setK (by omega), if_neg (by omega)]
    rw [q1, heq]
    rw [hX, ← he] at ht
    have x1 : B ^ j * (d + B * S (sh (fv q) (j + 1)) k) * V = B ^ j * (d * V) + B ^ (j + 1) * S (sh (fv q) (j + 1)) k * V := by
      rw [Nat.mul_add, Nat.add_mul, Nat.pow_succ, Nat.mul_assoc (B ^ j) d V, Nat.mul_assoc (B ^ j) B]
    rw [x1]
    have x2 : B ^ j * (X + d * V) = B ^ j * X + B ^ j * (d * V) := Nat.mul_add _ _ _
    omega
  · rw [List.length_set, e1]
    intro i hi
    by_cases hin : i = j + n
    · subst hin
      have h1 : fv u3 (j + n) * B ^ n ≤ X := by rw [← hX]; exact S_ge_top (sh (fv u3) j) n
      rcases Nat.eq_zero_or_pos (fv u3 (j + n)) with h0 | h0
      · exact h0
      · have : 1 * B ^ n ≤ fv u3 (j + n) * B ^ n := Nat.mul_le_mul_right _ h0
        omega
    · rw [hsame i (.inr (by omega))]; exact hz i (by omega)
  · rw [List.length_set, e1]
    have : S (sh (fv u3) j) n ≤ X := by rw [← hX, S_succ]; exact Nat.le_add_right _ _
    omega

/-- the end -/
theorem DvM.done {a b f n : Nat} {u q : List Nat} (h : DvM (a * f) (b * f) n q.length u q) (hf : 0 < f) (hb : 0 < b) : val q = a / b ∧ val u = (a % b) * f := by
  obtain ⟨hsm, hsq, hlen, hkq, heq, hz, hseg⟩ := h
  rw [Nat.sub_self] at heq hz hseg
  have e0 : ∀ g : Nat → Nat, sh g 0 = g := fun g => by funext k; unfold sh; rw [Nat.zero_add]
  rw [e0, Nat.pow_zero, Nat.one_mul] at heq
  rw [e0] at hseg
  have hR : S (fv u) u.length = S (fv u) n := S_ext (by omega) (fun i hi _ => hz i (by omega))
  have := div_scaled (Q := S (fv q) q.length) (R := S (fv u) u.length) hf hb (by rw [heq, Nat.add_comm]) (by rw [hR]; exact hseg)
  exact this

/-- the start -/
theorem DvM.start {A V n : Nat} {u : List Nat} {mq : Nat} (hu : Small u) (hl : u.length = mq + n) (hA : val u = A) (hz : fv u (u.length - 1) = 0) (h1 : 1 ≤ n) (hV : B ^ (n - 1) ≤ V) :
    DvM A V n 0 u (List.replicate mq 0) := by
  refine ⟨hu, ?_, by simpa using hl, Nat.zero_le _, ?_, ?_, ?_⟩
  · intro d hd; rw [List.eq_of_mem_replicate hd]; decide
  · simp [S]; rw [← hA]; rfl
  · intro i hi
    simp at hi
    exact fv_out (by omega)
  · simp
    obtain ⟨m, rfl⟩ : ∃ m, n = m + 1 := ⟨n - 1, by omega⟩
    rw [S_succ]
    have : sh (fv u) mq m = 0 := by
      have : u.length - 1 = mq + m := by omega
      rw [this] at hz; exact hz
    rw [this, Nat.zero_mul, Nat.add_zero]
    have h2 : S (sh (fv u) mq) m < B ^ m := S_lt (fun k _ => fv_small hu _)
    show _ < V
    exact Nat.lt_of_lt_of_le h2 hV
end Kp
namespace Kp
theorem val_inj {a b : List Nat} (ha : Canon a) (hb : Canon b) (h : val a = val b) : a = b := by
  have hl : a.length = b.length := by
    rcases Nat.lt_trichotomy a.length b.length with hlt | heq | hgt
    · have := val_lt_of_length ha.small hb.trim hlt; omega
    · exact heq
    · have := val_lt_of_length hb.small ha.trim hgt; omega
  unfold val at h
  rw [← hl] at h
  have hk := S_inj (fun k _ => fv_small ha.small k) (fun k _ => fv_small hb.small k) h
  refine List.ext_getElem hl (fun i h1 h2 => ?_)
  have := hk i h1
  rwa [fv_in h1, fv_in h2] at this
open Classical in
/-- the limbs of a number -/
noncomputable def limbsOf (n : Nat) : List Nat := if h : ∃ l, Canon l ∧ val l = n then Classical.choose h else []
theorem limbsOf_eq {l : List Nat} {n : Nat} (h : Canon l) (hv : val l = n) : limbsOf n = l := by
  have hx : ∃ l, Canon l ∧ val l = n := ⟨l, h, hv⟩
  unfold limbsOf
  rw [dif_pos hx]
  have := Classical.choose_spec hx
  exact val_inj this.1 h (this.2.trans hv.symm)
end Kp
