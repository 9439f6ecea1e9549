/- The plain law, part 0. No condition. -/
import Derived.Test.YtgkmpcjcpochoaaDRowSizes
import Derived.KernelRfl
set_option linter.unusedVariables false
set_option linter.unusedSimpArgs false
set_option linter.unnecessarySimpa false
namespace Go.Av
open Go
/-- A loop that comes to its end. -/
theorem iterN_run {V W : Type} {step : V → Option (V ⊕ W)} (μ : V → Nat) (I : V → Prop) (R : W → Prop)
    (h : ∀ v, I v → (∃ v', step v = some (.inl v') ∧ I v' ∧ μ v' < μ v) ∨ ∃ w, step v = some (.inr w) ∧ R w) : ∀ (n : Nat) (v : V), μ v < n → I v → ∃ w, iterN step n v = some w ∧ R w
  | 0, v, hn, _ => by omega
  | n + 1, v, hn, hI => by
    rcases h v hI with ⟨v', h1, h2, h3⟩ | ⟨w, h1, h2⟩
    · obtain ⟨w, g1, g2⟩ := iterN_run μ I R h n v' (by omega) h2
      exact ⟨w, by rw [iterN, h1]; exact g1, g2⟩
    · exact ⟨w, by rw [iterN, h1]; rfl, h2⟩
theorem lt_LF {n : Nat} (h : n < 1000000) : n < LF := Nat.lt_trans h (by decide)
theorem wr_in {n : Int} (h : inI n) : wr .i64 n = n := by
  unfold inI at h
  unfold wr IntKind.wrap
  simp [IntKind.bits, IntKind.signed]
  omega
/-- What a sum of two numbers is turned into. -/
theorem wr_two {n : Int} (h1 : -18446744073709551616 ≤ n) (h2 : n ≤ 18446744073709551616) :
    (inI n ∧ wr .i64 n = n) ∨ (9223372036854775807 < n ∧ wr .i64 n = n - 18446744073709551616) ∨ (n < -9223372036854775808 ∧ wr .i64 n = n + 18446744073709551616) := by
  unfold inI wr IntKind.wrap
  simp [IntKind.bits, IntKind.signed]
  omega
theorem wr_u64 (n : Int) : wr .u64 n = n % 18446744073709551616 := by
  unfold wr IntKind.wrap
  simp [IntKind.bits, IntKind.signed]
theorem wr_small {n : Int} (h1 : 0 ≤ n) (h2 : n < 1000000000000) : wr .i64 n = n := wr_in ⟨by omega, by omega⟩
theorem cnd_t {α : Type} {b : Bool} {x y : α} (h : b = true) : cnd b x y = x := by subst h; rfl
theorem cnd_f {α : Type} {b : Bool} {x y : α} (h : b = false) : cnd b x y = y := by subst h; rfl
theorem cnd_if {α : Type} (b : Bool) (x y : α) : cnd b x y = if b = true then x else y := by cases b <;> rfl
theorem c_ieq {α : Type} (a b : Int) (x y : α) : cnd (ieq a b) x y = if a = b then x else y := by
  by_cases h : a = b
  · rw [if_pos h, show ieq a b = true by simp [ieq, h]]; rfl
  · rw [if_neg h, show ieq a b = false by simp [ieq, h]]; rfl
theorem c_bnot {α : Type} (b : Bool) (x y : α) : cnd (bnot b) x y = cnd b y x := by cases b <;> rfl
theorem c_dec {α : Type} (P : Prop) [Decidable P] (x y : α) : cnd (decide P) x y = if P then x else y := by
  by_cases h : P
  · rw [if_pos h, decide_eq_true h]; rfl
  · rw [if_neg h, decide_eq_false h]; rfl
instance (n : Int) : Decidable (inI n) := by unfold inI; infer_instance
theorem ob_some {α β : Type} (a : α) (f : α → Option β) : obind (some a) f = f a := rfl
theorem ob_if {α β : Type} (p : Prop) [Decidable p] (x y : Option α) (f : α → Option β) : obind (if p then x else y) f = if p then obind x f else obind y f := by split <;> rfl
theorem ilt_t {a b : Int} (h : a < b) : ilt a b = true := decide_eq_true h
theorem ilt_f {a b : Int} (h : ¬ a < b) : ilt a b = false := decide_eq_false h
theorem ile_t {a b : Int} (h : a ≤ b) : ile a b = true := decide_eq_true h
theorem ile_f {a b : Int} (h : ¬ a ≤ b) : ile a b = false := decide_eq_false h
theorem ieq_refl (a : Int) : ieq a a = true := by simp [ieq]
theorem band_t {a b : Bool} (h1 : a = true) (h2 : b = true) : band a b = true := by subst h1; subst h2; rfl
theorem lget_nat {α : Type} [Inhabited α] (l : List α) (i : Nat) (h : i < l.length) : lget l (itn (i : Int)) = l[i] := by
  simp [lget, itn, h]
theorem inb {α : Type} (l : List α) (i : Nat) (h : i < l.length) : band (ile 0 (i : Int)) (ilt (i : Int) (len l)) = true := band_t (ile_t (by omega)) (ilt_t (by simp only [len]; omega))
theorem band_T (a b : Bool) : (band a b = true) = (a = true ∧ b = true) := by cases a <;> cases b <;> simp [band]
theorem band_F (a b : Bool) : (band a b = false) = (a = false ∨ b = false) := by cases a <;> cases b <;> simp [band]
theorem bor_T (a b : Bool) : (bor a b = true) = (a = true ∨ b = true) := by cases a <;> cases b <;> simp [bor]
theorem bor_F (a b : Bool) : (bor a b = false) = (a = false ∧ b = false) := by cases a <;> cases b <;> simp [bor]
theorem bnot_T (a : Bool) : (bnot a = true) = (a = false) := by cases a <;> simp [bnot]
theorem bnot_F (a : Bool) : (bnot a = false) = (a = true) := by cases a <;> simp [bnot]
theorem ilt_T (a b : Int) : (ilt a b = true) = (a < b) := by simp [ilt]
theorem ilt_F (a b : Int) : (ilt a b = false) = (b ≤ a) := by simp [ilt]
theorem ile_T (a b : Int) : (ile a b = true) = (a ≤ b) := by simp [ile]
theorem ile_F (a b : Int) : (ile a b = false) = (b < a) := by simp [ile]
theorem ieq_T (a b : Int) : (ieq a b = true) = (a = b) := by simp [ieq]
theorem ieq_F (a b : Int) : (ieq a b = false) = (a ≠ b) := by simp [ieq]
theorem beq_T (a b : Bool) : (beq a b = true) = (a = b) := by simp [beq]
theorem beq_F (a b : Bool) : (beq a b = false) = (a ≠ b) := by simp [beq]
/-- It ends, and what it ends in has Q. -/
def Wq {α : Type} (o : Option α) (Q : α → Prop) : Prop := ∃ a, o = some a ∧ Q a
theorem w_some {α : Type} {Q : α → Prop} (a : α) : Wq (some a) Q ↔ Q a := ⟨fun ⟨_, h, q⟩ => by cases h; exact q, fun h => ⟨a, rfl, h⟩⟩
theorem w_cnd {α : Type} {Q : α → Prop} (c : Bool) (x y : Option α) : Wq (cnd c x y) Q ↔ (c = true → Wq x Q) ∧ (c = false → Wq y Q) := by
  cases c <;> simp [cnd]
theorem w_bind {α β : Type} {Q : β → Prop} (o : Option α) (f : α → Option β) : Wq (obind o f) Q ↔ Wq o fun a => Wq (f a) Q := by
  cases o with
  | none => simp [obind, Wq]
  | some a => simp [obind, w_some]
theorem Wq.mono {α : Type} {Q R : α → Prop} {o : Option α} (h : Wq o Q) (hq : ∀ a, Q a → R a) : Wq o R := by
  obtain ⟨a, e, q⟩ := h
  exact ⟨a, e, hq a q⟩
theorem Wq.bind {α β : Type} {Q : α → Prop} {R : β → Prop} {o : Option α} {f : α → Option β} (h : Wq o Q) (hq : ∀ a, Q a → Wq (f a) R) : Wq (obind o f) R := (w_bind o f).2 (h.mono hq)
theorem Wq.eq {α : Type} {o : Option α} {a : α} (h : Wq o fun x => x = a) : o = some a := by obtain ⟨x, e, rfl⟩ := h; exact e
/-- What a question comes to. -/
theorem Wq.dec {o : Option Bool} {P : Prop} [Decidable P] (h : Wq o fun b => b = true ↔ P) : o = some (decide P) := by
  obtain ⟨b, e, q⟩ := h
  rw [e]; congr 1
  cases b <;> simp_all
theorem w_iter {V W : Type} {step : V → Option (V ⊕ W)} (μ : V → Nat) (I : V → Prop) (R : W → Prop)
    (h : ∀ v, I v → Wq (step v) fun r => match r with | .inl v' => I v' ∧ μ v' < μ v | .inr w => R w) (n : Nat) (v : V) (hn : μ v < n) (hi : I v) : Wq (iterN step n v) R :=
  iterN_run μ I R (fun v hv => by
    obtain ⟨r, e, q⟩ := h v hv
    match r, e, q with
    | .inl v', e, q => exact .inl ⟨v', e, q.1, q.2⟩
    | .inr w, e, q => exact .inr ⟨w, e, q⟩) n v hn hi
theorem wr_succ {i : Nat} (h : i < 1000000) : wr .i64 (iadd (i : Int) 1) = ((i + 1 : Nat) : Int) := by
  unfold iadd
  rw [wr_small (by omega) (by omega)]; omega
theorem ilt_nat {α : Type} (l : List α) (i : Nat) : ilt (i : Int) (len l) = decide (i < l.length) := by
  simp [ilt, len]
/-- A loop over a list, one by one: in each round it goes on or ends. -/
theorem w_for {W X : Type} {step : Int × X → Option ((Int × X) ⊕ W)} {n : Nat} (hn : n < 999999) (J : Nat → X → Prop) (R : W → Prop)
    (h : ∀ i x, i < n → J i x → Wq (step ((i : Int), x)) fun r => match r with | .inl (k, x') => k = ((i + 1 : Nat) : Int) ∧ J (i + 1) x' | .inr w => R w)
    (he : ∀ x, J n x → Wq (step ((n : Int), x)) fun r => match r with | .inl _ => False | .inr w => R w)
    (x : X) (i0 : Nat) (hi0 : i0 ≤ n) (hx : J i0 x) : Wq (iterN step LF ((i0 : Int), x)) R := by
  refine w_iter (fun v : Int × X => n - v.1.toNat) (fun v : Int × X => ∃ i : Nat, v.1 = (i : Int) ∧ i ≤ n ∧ J i v.2) R ?_ LF _ (lt_LF (by simp only; omega)) ⟨i0, rfl, hi0, hx⟩
  rintro ⟨k, y⟩ ⟨i, rfl, hi, hj⟩
  by_cases hlt : i < n
  · refine (h i y hlt hj).mono fun r hr => ?_
    match r, hr with
    | .inl (k, x'), hr =>
      obtain ⟨rfl, h2⟩ := hr
      exact ⟨⟨i + 1, rfl, hlt, h2⟩, by simp only [Int.toNat_natCast]; omega⟩
    | .inr w, hr => exact hr
  · obtain rfl : i = n := by omega
    refine (he y hj).mono fun r hr => ?_
    match r, hr with
    | .inl _, hr => exact hr.elim
    | .inr w, hr => exact hr
theorem cnd_true {α : Type} (x y : α) : cnd true x y = x := rfl
theorem cnd_false {α : Type} (x y : α) : cnd false x y = y := rfl
theorem bnot_true : bnot true = false := rfl
theorem bnot_false : bnot false = true := rfl
theorem band_true (b : Bool) : band true b = b := rfl
theorem band_false (b : Bool) : band false b = false := rfl
theorem bor_true (b : Bool) : bor true b = true := rfl
theorem bor_false (b : Bool) : bor false b = b := rfl
theorem ieq_00 : ieq 0 0 = true := rfl
theorem ieq_10 : ieq 1 0 = false := rfl
theorem ieq_30 : ieq 3 0 = false := rfl
theorem lset_len {α : Type} (l : List α) (i : Nat) (x : α) : (lset l i x).length = l.length := by simp [lset]
theorem e_num_Add {a b : Int} (ha : inI a) (hb : inI b) : F_num_Add a b = some (if inI (a + b) then (a + b, 0) else (0, 3)) := by
  unfold inI at ha hb
  unfold F_num_Add iadd
  rcases wr_two (n := a + b) (by omega) (by omega) with ⟨h, e⟩ | ⟨h, e⟩ | ⟨h, e⟩ <;> rw [e, cnd_if] <;> simp only [band_T, band_F, bor_T, bor_F, bnot_T, bnot_F, ilt_T, ilt_F, ile_T, ile_F, ieq_T, ieq_F, beq_T, beq_F]
  · rw [if_pos h, if_neg]
    rintro ⟨h1, h2⟩; unfold inI at h; exact h1 (decide_eq_decide.2 (by omega))
  · rw [if_pos, if_neg (by unfold inI; omega)]
    exact ⟨fun h1 => by have := decide_eq_decide.1 h1; omega, by omega⟩
  · rw [if_pos, if_neg (by unfold inI; omega)]
    exact ⟨fun h1 => by have := decide_eq_decide.1 h1; omega, by omega⟩
theorem e_num_Sub {a b : Int} (ha : inI a) (hb : inI b) : F_num_Sub a b = some (if inI (a - b) then (a - b, 0) else (0, 3)) := by
  unfold inI at ha hb
  unfold F_num_Sub isub
  rcases wr_two (n := a - b) (by omega) (by omega) with ⟨h, e⟩ | ⟨h, e⟩ | ⟨h, e⟩ <;> rw [e, cnd_if] <;> simp only [band_T, band_F, bor_T, bor_F, bnot_T, bnot_F, ilt_T, ilt_F, ile_T, ile_F, ieq_T, ieq_F, beq_T, beq_F]
  · rw [if_pos h, if_neg]
    rintro ⟨h1, h2⟩; unfold inI at h; exact h1 (decide_eq_decide.2 (by omega))
  · rw [if_pos, if_neg (by unfold inI; omega)]
    exact ⟨fun h1 => by have := decide_eq_decide.1 h1; omega, by omega⟩
  · rw [if_pos, if_neg (by unfold inI; omega)]
    exact ⟨fun h1 => by have := decide_eq_decide.1 h1; omega, by omega⟩
theorem e_num_Max (a b : Int) : F_num_Max a b = some (max a b) := by
  unfold F_num_Max imax
  congr 1
  by_cases h : b > a
  · rw [if_pos h]; omega
  · rw [if_neg h]; omega
/-- A number of 64 bits is two of 32. -/
theorem half (n : Int) (h1 : 0 ≤ n) (h2 : n < 18446744073709551616) : ∃ a b : Int, n = a * 4294967296 + b ∧ 0 ≤ a ∧ a < 4294967296 ∧ 0 ≤ b ∧ b < 4294967296 ∧ ishr .u64 n 32 = a ∧ wr .u64 (iand .u64 n 4294967295) = b := by
  refine ⟨n / 4294967296, n % 4294967296, by omega, by omega, by omega, by omega, by omega, ?_, ?_⟩
  · unfold ishr
    have : min (Int.toNat 32) (IntKind.bits .u64) = 32 := by decide
    rw [this, Int.fdiv_eq_ediv_of_nonneg _ (by decide)]
    rfl
  · unfold iand
    rw [wr_u64]
    have e : (BitVec.ofInt (IntKind.bits .u64) n &&& BitVec.ofInt (IntKind.bits .u64) 4294967295).toNat = n.toNat % 4294967296 := by
      rw [BitVec.toNat_and]
      have : (BitVec.ofInt (IntKind.bits .u64) 4294967295).toNat = 2 ^ 32 - 1 := by decide
      rw [this, Nat.and_two_pow_sub_one_eq_mod]
      rw [BitVec.toNat_ofInt]
      congr 1
      have : (n % (2 ^ (IntKind.bits .u64) : Nat)) = n := Int.emod_eq_of_lt h1 (by simpa [IntKind.bits] using h2)
      rw [this]
    rw [e]; omega
theorem e_Mul64 {x y : Int} (hx : 0 ≤ x) (hx2 : x < 18446744073709551616) (hy : 0 ≤ y) (hy2 : y < 18446744073709551616) :
    F_math_bits_Mul64 x y = some (x * y / 18446744073709551616, x * y % 18446744073709551616) := by
  obtain ⟨a, b, e1, a1, a2, b1, b2, s1, s2⟩ := half x hx hx2
  obtain ⟨c, d, e2, c1, c2, d1, d2, t1, t2⟩ := half y hy hy2
  unfold F_math_bits_Mul64
  rw [s1, s2, t1, t2]
  unfold imul iadd
  have m1 : 0 ≤ a * c ∧ a * c ≤ 4294967295 * 4294967295 := ⟨Int.mul_nonneg a1 c1, Int.mul_le_mul (by omega) (by omega) c1 (by omega)⟩
  have m2 : 0 ≤ a * d ∧ a * d ≤ 4294967295 * 4294967295 := ⟨Int.mul_nonneg a1 d1, Int.mul_le_mul (by omega) (by omega) d1 (by omega)⟩
  have m3 : 0 ≤ b * c ∧ b * c ≤ 4294967295 * 4294967295 := ⟨Int.mul_nonneg b1 c1, Int.mul_le_mul (by omega) (by omega) c1 (by omega)⟩
  have m4 : 0 ≤ b * d ∧ b * d ≤ 4294967295 * 4294967295 := ⟨Int.mul_nonneg b1 d1, Int.mul_le_mul (by omega) (by omega) d1 (by omega)⟩
  have mm : x * y = a * c * 18446744073709551616 + (a * d + b * c) * 4294967296 + b * d := by
    subst e1 e2
    simp only [Int.add_mul, Int.mul_add]
    have q1 : a * 4294967296 * (c * 4294967296) = a * c * 18446744073709551616 := by
      rw [Int.mul_assoc, Int.mul_left_comm 4294967296, ← Int.mul_assoc, ← Int.mul_assoc]; omega
    have q2 : a * 4294967296 * d = a * d * 4294967296 := by rw [Int.mul_assoc, Int.mul_comm 4294967296, ← Int.mul_assoc]
    have q3 : b * (c * 4294967296) = b * c * 4294967296 := by rw [← Int.mul_assoc]
    rw [q1, q2, q3]; omega
  rw [mm]
  generalize a * c = p at *
  generalize a * d = q at *
  generalize b * c = r at *
  generalize b * d = t at *
  have sh : ∀ n : Int, 0 ≤ n → n < 18446744073709551616 → ishr .u64 n 32 = n / 4294967296 := fun n h1 h2 => by
    obtain ⟨u, v, h3, h4, h5, h6, h7, h8, _⟩ := half n h1 h2
    rw [h8]; omega
  have la : ∀ n : Int, 0 ≤ n → n < 18446744073709551616 → wr .u64 (iand .u64 n 4294967295) = n % 4294967296 := fun n h1 h2 => by
    obtain ⟨u, v, h3, h4, h5, h6, h7, _, h8⟩ := half n h1 h2
    rw [h8]; omega
  simp only [wr_u64 p, wr_u64 q, wr_u64 r, wr_u64 t]
  rw [Int.emod_eq_of_lt (a := p) m1.1 (by omega), Int.emod_eq_of_lt (a := q) m2.1 (by omega), Int.emod_eq_of_lt (a := r) m3.1 (by omega), Int.emod_eq_of_lt (a := t) m4.1 (by omega)]
  rw [sh t m4.1 (by omega)]
  rw [wr_u64 (q + t / 4294967296), Int.emod_eq_of_lt (a := q + t / 4294967296) (by omega) (by omega)]
  rw [sh (q + t / 4294967296) (by omega) (by omega), la (q + t / 4294967296) (by omega) (by omega)]
  rw [wr_u64 (p + _), Int.emod_eq_of_lt (a := p + (q + t / 4294967296) / 4294967296) (by omega) (by omega)]
  rw [wr_u64 ((q + t / 4294967296) % 4294967296 + r), Int.emod_eq_of_lt (a := (q + t / 4294967296) % 4294967296 + r) (by omega) (by omega)]
  rw [sh _ (by omega) (by omega)]
  rw [wr_u64, wr_u64]
  congr 2 <;> omega
theorem e_num_size {a : Int} (ha : inI a) : F_num_size a = some (a.natAbs : Int) := by
  unfold inI at ha
  unfold F_num_size isub
  rw [cnd_if]; simp only [ilt_T, wr_u64]
  split
  · congr 1; omega
  · congr 1; omega
theorem e_num_Mul {a b : Int} (ha : inI a) (hb : inI b) : F_num_Mul a b = some (if inI (a * b) then (a * b, 0) else (0, 3)) := by
  unfold F_num_Mul
  rw [e_num_size ha, e_num_size hb, ob_some, ob_some, e_Mul64 (by omega) (by unfold inI at ha; omega) (by omega) (by unfold inI at hb; omega), ob_some]
  have hm : (a.natAbs : Int) * (b.natAbs : Int) = ((a * b).natAbs : Int) := by rw [Int.natAbs_mul]; rfl
  have hn : (a.natAbs : Int) * (b.natAbs : Int) ≤ 9223372036854775808 * 9223372036854775808 := Int.mul_le_mul (by unfold inI at ha; omega) (by unfold inI at hb; omega) (by omega) (by omega)
  rw [hm] at hn ⊢
  have hs : (decide (a < 0) = decide (b < 0) → 0 ≤ a * b) ∧ (decide (a < 0) ≠ decide (b < 0) → a * b ≤ 0) := by
    constructor
    · intro h
      by_cases h1 : a < 0
      · have h2 : b < 0 := by simpa [h1] using h
        exact Int.mul_nonneg_of_nonpos_of_nonpos (by omega) (by omega)
      · have h2 : ¬ b < 0 := by simpa [h1] using h
        exact Int.mul_nonneg (by omega) (by omega)
    · intro h
      by_cases h1 : a < 0
      · have h2 : ¬ b < 0 := by simpa [h1] using h
        exact Int.mul_nonpos_of_nonpos_of_nonneg (by omega) (by omega)
      · have h2 : b < 0 := by simpa [h1] using h
        exact Int.mul_nonpos_of_nonneg_of_nonpos (by omega) (by omega)
  generalize a * b = p at *
  simp only [cnd_if, band_T, band_F, bor_T, bor_F, bnot_T, bnot_F, ilt_T, ilt_F, ile_T, ile_F, ieq_T, ieq_F, beq_T, beq_F, isub, wr_u64, ne_eq]
  unfold ilt at *
  by_cases hd : decide (a < 0) = decide (b < 0)
  · have hp := hs.1 hd
    rw [if_neg (fun h => h.1.2 hd)]
    by_cases hr : p ≤ 9223372036854775807
    · rw [if_pos (by omega), if_pos ⟨by omega, by omega⟩, wr_in ⟨by omega, by omega⟩]
      congr 2; omega
    · rw [if_neg (by omega), if_neg (by unfold inI; omega)]
  · have hp := hs.2 hd
    by_cases hr : -9223372036854775808 ≤ p
    · rw [if_pos ⟨⟨by omega, hd⟩, by omega⟩, if_pos ⟨by omega, by omega⟩]
      congr 2
      rcases wr_two (n := (0 - ((p.natAbs : Int) % 18446744073709551616)) % 18446744073709551616) (by omega) (by omega) with ⟨h, e⟩ | ⟨h, e⟩ | ⟨h, e⟩ <;> rw [e] <;> unfold inI at * <;> omega
    · rw [if_neg (by omega), if_neg (by omega), if_neg (by unfold inI; omega)]
def knownP (n : Int) : Prop := 1 ≤ n ∧ n ≤ 1000000000000
/-- A right record. -/
def recP (r : SRec) : Prop :=
  (r.kind = 1 ∧ knownP r.order ∧ (0 ≤ r.account ∧ r.account < 8) ∧ (0 ≤ r.symbol ∧ r.symbol < 8) ∧ (r.side = 1 ∨ r.side = 2) ∧ 1 ≤ r.qty ∧ 1 ≤ r.price ∧ r.long = 0 ∧ r.short = 0 ∧ r.opn = 0 ∧ r.on = false ∧ r.seq = 0 ∧ r.what = 0) ∨
  (r.kind = 2 ∧ knownP r.order ∧ r.account = 0 ∧ r.symbol = 0 ∧ r.side = 0 ∧ 1 ≤ r.qty ∧ 1 ≤ r.price ∧ r.long = 0 ∧ r.short = 0 ∧ r.opn = 0 ∧ r.on = false ∧ r.seq = 0 ∧ r.what = 0) ∨
  (r.kind = 3 ∧ knownP r.order ∧ r.account = 0 ∧ r.symbol = 0 ∧ r.side = 0 ∧ r.qty = 0 ∧ r.price = 0 ∧ r.long = 0 ∧ r.short = 0 ∧ r.opn = 0 ∧ r.on = false ∧ r.seq = 0 ∧ r.what = 0) ∨
  (r.kind = 4 ∧ r.order = 0 ∧ (0 ≤ r.account ∧ r.account < 8) ∧ ((r.symbol = -1 ∧ r.long = 0 ∧ r.short = 0) ∨ (0 ≤ r.symbol ∧ r.symbol < 8)) ∧ r.side = 0 ∧ r.qty = 0 ∧ r.price = 0 ∧ 0 ≤ r.long ∧ 0 ≤ r.short ∧ 0 ≤ r.opn ∧ r.on = false ∧ r.seq = 0 ∧ r.what = 0) ∨
  (r.kind = 5 ∧ r.order = 0 ∧ r.account = 0 ∧ r.symbol = 0 ∧ r.side = 0 ∧ r.qty = 0 ∧ r.price = 0 ∧ r.long = 0 ∧ r.short = 0 ∧ r.opn = 0 ∧ r.seq = 0 ∧ r.what = 0) ∨
  (r.kind = 6 ∧ knownP r.order ∧ r.account = 0 ∧ r.symbol = 0 ∧ r.side = 0 ∧ r.long = 0 ∧ r.short = 0 ∧ r.opn = 0 ∧ r.on = false ∧ (1 ≤ r.seq ∧ r.seq ≤ 1000000000) ∧
    ((r.what = 3 ∧ 1 ≤ r.qty ∧ r.price = 0) ∨ (r.what = 5 ∧ 1 ≤ r.qty ∧ 1 ≤ r.price) ∨ ((r.what = 1 ∨ r.what = 2 ∨ r.what = 4 ∨ r.what = 6) ∧ r.qty = 0 ∧ r.price = 0)))
theorem imin3 (a b c : Int) : (0 ≤ imin (imin a b) c) ↔ 0 ≤ a ∧ 0 ≤ b ∧ 0 ≤ c := by
  unfold imin; split <;> split <;> omega
theorem s_rec_event (r : SRec) : Wq (F_rec_event r) fun b => b = true ↔ knownP r.order ∧ (1 ≤ r.seq ∧ r.seq ≤ 1000000000) ∧
    ((r.what = 3 ∧ 1 ≤ r.qty ∧ r.price = 0) ∨ (r.what = 5 ∧ 1 ≤ r.qty ∧ 1 ≤ r.price) ∨ ((r.what = 1 ∨ r.what = 2 ∨ r.what = 4 ∨ r.what = 6) ∧ r.qty = 0 ∧ r.price = 0)) := by
  unfold F_rec_event F_rec_known F_rec_sized
  by_cases h1 : 1 ≤ r.seq ∧ r.seq ≤ 1000000000
  · rw [cnd_t (b := bnot (bor (ilt r.seq 1) (ilt 1000000000 r.seq))) (by simp only [band_T, band_F, bor_T, bor_F, bnot_T, bnot_F, ilt_T, ilt_F, ile_T, ile_F, ieq_T, ieq_F, beq_T, beq_F]; omega), ob_some]
    by_cases h2 : knownP r.order
    · rw [show band (ile 1 r.order) (ile r.order 1000000000000) = true by simp only [band_T, band_F, bor_T, bor_F, bnot_T, bnot_F, ilt_T, ilt_F, ile_T, ile_F, ieq_T, ieq_F, beq_T, beq_F]; exact h2, cnd_f (by simp only [band_T, band_F, bor_T, bor_F, bnot_T, bnot_F, ilt_T, ilt_F, ile_T, ile_F, ieq_T, ieq_F, beq_T, beq_F]; exact ⟨by omega, trivial⟩)]
      by_cases k3 : r.what = 3
      · rw [cnd_t (by rw [ieq_T]; exact k3), w_some]; simp only [h1, h2, true_and, band_T, band_F, bor_T, bor_F, bnot_T, bnot_F, ilt_T, ilt_F, ile_T, ile_F, ieq_T, ieq_F, beq_T, beq_F]; omega
      rw [cnd_f (by rw [ieq_F]; exact k3)]
      by_cases k5 : r.what = 5
      · rw [cnd_t (by rw [ieq_T]; exact k5), ob_some, w_some]; simp only [h1, h2, true_and, band_T, band_F, bor_T, bor_F, bnot_T, bnot_F, ilt_T, ilt_F, ile_T, ile_F, ieq_T, ieq_F, beq_T, beq_F]; omega
      rw [cnd_f (by rw [ieq_F]; exact k5)]
      by_cases k1 : r.what = 1
      · rw [cnd_t (by rw [ieq_T]; exact k1), cnd_t (by rw [ieq_T]; exact k1), w_some]; simp only [h1, h2, true_and, band_T, band_F, bor_T, bor_F, bnot_T, bnot_F, ilt_T, ilt_F, ile_T, ile_F, ieq_T, ieq_F, beq_T, beq_F]; omega
      rw [cnd_f (by rw [ieq_F]; exact k1)]
      by_cases k2 : r.what = 2
      · rw [cnd_t (by rw [ieq_T]; exact k2), cnd_t (by rw [ieq_T]; exact k2), w_some]; simp only [h1, h2, true_and, band_T, band_F, bor_T, bor_F, bnot_T, bnot_F, ilt_T, ilt_F, ile_T, ile_F, ieq_T, ieq_F, beq_T, beq_F]; omega
      rw [cnd_f (by rw [ieq_F]; exact k2)]
      by_cases k4 : r.what = 4
      · rw [cnd_t (by rw [ieq_T]; exact k4), cnd_t (by rw [ieq_T]; exact k4), w_some]; simp only [h1, h2, true_and, band_T, band_F, bor_T, bor_F, bnot_T, bnot_F, ilt_T, ilt_F, ile_T, ile_F, ieq_T, ieq_F, beq_T, beq_F]; omega
      rw [cnd_f (by rw [ieq_F]; exact k4)]
      by_cases k6 : r.what = 6
      · rw [cnd_t (by rw [ieq_T]; exact k6), w_some]; simp only [h1, h2, true_and, band_T, band_F, bor_T, bor_F, bnot_T, bnot_F, ilt_T, ilt_F, ile_T, ile_F, ieq_T, ieq_F, beq_T, beq_F]; omega
      rw [cnd_f (by rw [ieq_F]; exact k6), w_some]
      simp only [h1, h2, true_and, Bool.false_eq_true, false_iff]; omega
    · rw [show band (ile 1 r.order) (ile r.order 1000000000000) = false by simp only [band_T, band_F, bor_T, bor_F, bnot_T, bnot_F, ilt_T, ilt_F, ile_T, ile_F, ieq_T, ieq_F, beq_T, beq_F]; unfold knownP at h2; omega, cnd_t (by simp only [band_T, band_F, bor_T, bor_F, bnot_T, bnot_F, ilt_T, ilt_F, ile_T, ile_F, ieq_T, ieq_F, beq_T, beq_F, or_true]), w_some]
      simp [h2]
  · rw [cnd_f (b := bnot (bor (ilt r.seq 1) (ilt 1000000000 r.seq))) (by simp only [band_T, band_F, bor_T, bor_F, bnot_T, bnot_F, ilt_T, ilt_F, ile_T, ile_F, ieq_T, ieq_F, beq_T, beq_F]; omega), ob_some, cnd_t (by simp only [band_T, band_F, bor_T, bor_F, bnot_T, bnot_F, ilt_T, ilt_F, ile_T, ile_F, ieq_T, ieq_F, beq_T, beq_F, or_true]), w_some]
    simp [h1]
theorem s_rec_Right (r : SRec) : Wq (F_rec_Right r) fun b => b = true ↔ recP r := by
  unfold F_rec_Right F_rec_fields
  obtain ⟨ev, he, hq⟩ := s_rec_event r
  by_cases k1 : r.kind = 1
  · have e1 : ieq r.kind 1 = true := by rw [ieq_T]; exact k1
    simp only [e1, cnd_true, ob_some]
    simp only [w_bind, w_cnd, w_some, band_T, band_F, bor_T, bor_F, bnot_T, bnot_F, ilt_T, ilt_F, ile_T, ile_F, ieq_T, ieq_F, beq_T, beq_F, true_implies, ne_eq, not_true_eq_false, false_implies, and_true, true_and, or_self, reduceCtorEq, F_rec_known, F_rec_below, F_rec_sized, recP, knownP]; grind
  have e1 : ieq r.kind 1 = false := by rw [ieq_F]; exact k1
  by_cases k2 : r.kind = 2
  · have e2 : ieq r.kind 2 = true := by rw [ieq_T]; exact k2
    simp only [e1, e2, cnd_true, cnd_false, ob_some]
    simp only [w_bind, w_cnd, w_some, band_T, band_F, bor_T, bor_F, bnot_T, bnot_F, ilt_T, ilt_F, ile_T, ile_F, ieq_T, ieq_F, beq_T, beq_F, true_implies, ne_eq, not_true_eq_false, false_implies, and_true, true_and, or_self, reduceCtorEq, F_rec_known, F_rec_below, F_rec_sized, recP, knownP]; grind
  have e2 : ieq r.kind 2 = false := by rw [ieq_F]; exact k2
  by_cases k3 : r.kind = 3
  · have e3 : ieq r.kind 3 = true := by rw [ieq_T]; exact k3
    simp only [e1, e2, e3, cnd_true, cnd_false, ob_some]
    simp only [w_bind, w_cnd, w_some, band_T, band_F, bor_T, bor_F, bnot_T, bnot_F, ilt_T, ilt_F, ile_T, ile_F, ieq_T, ieq_F, beq_T, beq_F, true_implies, ne_eq, not_true_eq_false, false_implies, and_true, true_and, or_self, reduceCtorEq, F_rec_known, F_rec_below, F_rec_sized, recP, knownP]; grind
  have e3 : ieq r.kind 3 = false := by rw [ieq_F]; exact k3
  by_cases k4 : r.kind = 4
  · have e4 : ieq r.kind 4 = true := by rw [ieq_T]; exact k4
    simp only [e1, e2, e3, e4, cnd_true, cnd_false, ob_some]
    simp only [w_bind, w_cnd, w_some, band_T, band_F, bor_T, bor_F, bnot_T, bnot_F, ilt_T, ilt_F, ile_T, ile_F, ieq_T, ieq_F, beq_T, beq_F, true_implies, ne_eq, not_true_eq_false, false_implies, and_true, true_and, or_self, reduceCtorEq, F_rec_known, F_rec_below, F_rec_sized, recP, knownP, imin3]; grind
  have e4 : ieq r.kind 4 = false := by rw [ieq_F]; exact k4
  by_cases k5 : r.kind = 5
  · have e5 : ieq r.kind 5 = true := by rw [ieq_T]; exact k5
    simp only [e1, e2, e3, e4, e5, cnd_true, cnd_false, ob_some]
    simp only [w_bind, w_cnd, w_some, band_T, band_F, bor_T, bor_F, bnot_T, bnot_F, ilt_T, ilt_F, ile_T, ile_F, ieq_T, ieq_F, beq_T, beq_F, true_implies, ne_eq, not_true_eq_false, false_implies, and_true, true_and, or_self, reduceCtorEq, F_rec_known, F_rec_below, F_rec_sized, recP, knownP]; grind
  have e5 : ieq r.kind 5 = false := by rw [ieq_F]; exact k5
  by_cases k6 : r.kind = 6
  · have e6 : ieq r.kind 6 = true := by rw [ieq_T]; exact k6
    simp only [e1, e2, e3, e4, e5, e6, cnd_true, cnd_false, ob_some, he]
    simp only [w_bind, w_cnd, w_some, band_T, band_F, bor_T, bor_F, bnot_T, bnot_F, ilt_T, ilt_F, ile_T, ile_F, ieq_T, ieq_F, beq_T, beq_F, true_implies, ne_eq, not_true_eq_false, false_implies, and_true, true_and, or_self, reduceCtorEq, recP, hq]; grind
  have e6 : ieq r.kind 6 = false := by rw [ieq_F]; exact k6
  simp only [e1, e2, e3, e4, e5, e6, cnd_true, cnd_false, ob_some]
  simp only [w_bind, w_cnd, w_some, band_T, band_F, bor_T, bor_F, bnot_T, bnot_F, ilt_T, ilt_F, ile_T, ile_F, ieq_T, ieq_F, beq_T, beq_F, true_implies, ne_eq, not_true_eq_false, false_implies, and_true, true_and, or_self, reduceCtorEq, recP]; grind
/-- An order's own part, as it begins. -/
def begunP (o : SOrder) : Prop := (1 ≤ o.id ∧ o.id ≤ 1000000000000) ∧ (0 ≤ o.account ∧ o.account < 8) ∧ (0 ≤ o.symbol ∧ o.symbol < 8) ∧ (o.side = 1 ∨ o.side = 2) ∧ 1 ≤ o.qty ∧ 1 ≤ o.price
theorem s_order_begun (o : SOrder) : Wq (F_order_begun o) fun b => b = true ↔ begunP o := by
  unfold F_order_begun
  rw [w_bind]
  refine (s_rec_Right _).mono fun b hb => ?_
  rw [w_some, hb]
  simp [recP, begunP, knownP]
def pendP (o : SOrder) : Prop := o.newQty ≠ 0 ∨ o.newPrice ≠ 0
instance (o : SOrder) : Decidable (pendP o) := by unfold pendP; infer_instance
instance (o : SOrder) : Decidable (begunP o) := by unfold begunP; infer_instance
theorem s_order_pending (o : SOrder) : Wq (F_order_pending o) fun b => b = true ↔ pendP o := by
  unfold F_order_pending
  simp only [w_some, bor_T, bnot_T, ieq_F, pendP]
/-- A right order. -/
def ordP (o : SOrder) : Prop := begunP o ∧ 0 ≤ o.filled ∧ o.filled ≤ o.qty ∧ 0 ≤ o.version ∧ (pendP o → 1 ≤ o.newQty ∧ 1 ≤ o.newPrice) ∧
  ((o.phase = 1 ∧ o.filled = 0 ∧ o.version = 0 ∧ ¬ pendP o) ∨ (o.phase = 2 ∧ o.filled < o.qty) ∨ (o.phase = 3 ∧ ¬ pendP o))
instance (o : SOrder) : Decidable (ordP o) := by unfold ordP; infer_instance
theorem s_order_Right (o : SOrder) : Wq (F_order_Right o) fun b => b = true ↔ ordP o := by
  unfold F_order_Right
  rw [w_bind]
  refine (s_order_pending o).mono fun p hp => ?_
  rw [w_bind]
  refine (s_order_begun o).mono fun b hb => ?_
  unfold ordP
  rw [← hp, ← hb]
  have hm : (imin o.newQty o.newPrice < 1) ↔ ¬ (1 ≤ o.newQty ∧ 1 ≤ o.newPrice) := by unfold imin; split <;> omega
  simp only [w_bind, w_cnd, w_some, band_T, band_F, bor_T, bor_F, bnot_T, bnot_F, ilt_T, ilt_F, ile_T, ile_F, ieq_T, ieq_F, beq_T, beq_F, hm]
  cases p <;> cases b <;> simp <;> omega
theorem e_order_Right (o : SOrder) : F_order_Right o = some (decide (ordP o)) := (s_order_Right o).dec
/-- How much is open of an order, and what that is worth. -/
def openZ (o : SOrder) : Int := if o.phase = 3 then 0 else max o.qty o.newQty - o.filled
def worthZ (o : SOrder) : Int := if o.phase = 3 then 0 else if o.newQty ≤ o.filled then (o.qty - o.filled) * o.price else max ((o.qty - o.filled) * o.price) ((o.newQty - o.filled) * o.newPrice)
theorem openZ_rng {o : SOrder} (h : ordP o) (hr : Ok_order o) : 0 ≤ openZ o ∧ openZ o ≤ 9223372036854775807 := by
  obtain ⟨_, h1, h2, _⟩ := h
  have := hr.qty.2; have := hr.newQty.2
  unfold openZ; split <;> omega
theorem new_pos {o : SOrder} (h : ordP o) (hn : o.filled < o.newQty) : 1 ≤ o.newPrice := by
  obtain ⟨_, h1, h2, _, h4, _⟩ := h
  exact (h4 (.inl (by omega))).2
theorem worthZ_nn {o : SOrder} (h : ordP o) : 0 ≤ worthZ o := by
  have hp := h.1.2.2.2.2.2
  have hf := h.2.2.1
  unfold worthZ; split
  · omega
  · have m : 0 ≤ (o.qty - o.filled) * o.price := Int.mul_nonneg (by omega) (by omega)
    split <;> omega
theorem e_order_Open {o : SOrder} (h : ordP o) (hr : Ok_order o) : F_order_Open o = some (openZ o) := by
  have hb := openZ_rng h hr
  unfold F_order_Open
  rw [e_order_Right, ob_some, decide_eq_true h, e_num_Max, ob_some]
  unfold openZ at *
  rw [bnot_true, bor_false, c_ieq]
  split
  · rfl
  · rename_i hp
    rw [if_neg hp] at hb
    unfold isub
    rw [wr_in ⟨by omega, by omega⟩]
theorem e_order_Worth {o : SOrder} (h : ordP o) (hr : Ok_order o) : F_order_Worth o = some (if worthZ o ≤ 9223372036854775807 then (worthZ o, 0) else (0, 3)) := by
  have hp := h.1.2.2.2.2.2
  have hf := h.2.2.1
  have hf0 := h.2.1
  have rq := hr.qty; have rp := hr.price; have rf := hr.filled; have rn := hr.newQty; have rnp := hr.newPrice
  unfold inI at rq rf rn
  unfold F_order_Worth
  rw [e_order_Right, ob_some, decide_eq_true h, bnot_true, cnd_false, c_ieq]
  unfold worthZ
  split
  · rw [if_pos (by omega)]
  · unfold isub
    rw [wr_in ⟨by omega, by omega⟩, e_num_Mul ⟨by omega, by omega⟩ rp, ob_some]
    have m : 0 ≤ (o.qty - o.filled) * o.price := Int.mul_nonneg (by omega) (by omega)
    generalize (o.qty - o.filled) * o.price = a at *
    rw [cnd_if]
    simp only [band_T, band_F, bor_T, bor_F, bnot_T, bnot_F, ilt_T, ilt_F, ile_T, ile_F, ieq_T, ieq_F, beq_T, beq_F]
    by_cases hn : o.newQty ≤ o.filled
    · rw [if_pos (.inr hn), if_pos hn]
      by_cases ha : a ≤ 9223372036854775807
      · rw [if_pos (c := inI a) ⟨by omega, ha⟩, if_pos ha]
      · rw [if_neg (c := inI a) (by unfold inI; omega), if_neg ha]
    · rw [if_neg hn]
      have hnp := new_pos h (by omega)
      rw [wr_in ⟨by omega, by omega⟩, e_num_Mul ⟨by omega, by omega⟩ rnp, ob_some]
      have m2 : 0 ≤ (o.newQty - o.filled) * o.newPrice := Int.mul_nonneg (by omega) (by omega)
      generalize (o.newQty - o.filled) * o.newPrice = b at *
      by_cases ha : a ≤ 9223372036854775807
      · rw [if_pos (c := inI a) ⟨by omega, ha⟩, if_neg (by simp only [ne_eq, not_true_eq_false, false_or]; exact hn)]
        by_cases hb : b ≤ 9223372036854775807
        · rw [if_pos (c := inI b) ⟨by omega, hb⟩]
          rw [cnd_f (by simp [bnot, ieq]), e_num_Max, ob_some, if_pos (by omega)]
        · rw [if_neg (c := inI b) (by unfold inI; omega)]
          rw [cnd_t (by simp [bnot, ieq]), if_neg (by omega)]
      · rw [if_neg (c := inI a) (by unfold inI; omega), if_pos (.inl (by decide)), if_neg (by omega)]
def okC (c : SCell) : Prop := Ok_cell c ∧ (0 ≤ c.buy ∧ 0 ≤ c.sell ∧ 0 ≤ c.opn) ∧ inI (c.pos + c.buy) ∧ inI (c.sell - c.pos)
theorem okC_iff (c : SCell) : okC c ↔ (inI c.pos ∧ inI c.buy ∧ inI c.sell ∧ inI c.opn) ∧ (0 ≤ c.buy ∧ 0 ≤ c.sell ∧ 0 ≤ c.opn) ∧ inI (c.pos + c.buy) ∧ inI (c.sell - c.pos) :=
  ⟨fun ⟨⟨a, b, c, d⟩, h⟩ => ⟨⟨a, b, c, d⟩, h⟩, fun ⟨⟨a, b, c, d⟩, h⟩ => ⟨⟨a, b, c, d⟩, h⟩⟩
instance (c : SCell) : Decidable (okC c) := decidable_of_iff _ (okC_iff c).symm
theorem e_cell_expo {c : SCell} (h : Ok_cell c) : F_cell_expo c = some (⟨if inI (c.pos + c.buy) then c.pos + c.buy else 0, if inI (c.sell - c.pos) then c.sell - c.pos else 0, c.opn⟩, decide (inI (c.pos + c.buy) ∧ inI (c.sell - c.pos))) := by
  unfold F_cell_expo
  rw [e_num_Add h.pos h.buy, ob_some, e_num_Sub h.sell h.pos, ob_some]
  by_cases h1 : inI (c.pos + c.buy)
  · by_cases h2 : inI (c.sell - c.pos)
    · simp only [if_pos h1, if_pos h2, ieq_00, band_true, decide_eq_true (show _ ∧ _ from ⟨h1, h2⟩)]
    · simp only [if_pos h1, if_neg h2, ieq_30, ieq_00, band_true, decide_eq_false (fun h : _ ∧ _ => h2 h.2)]
  · simp only [if_neg h1, ieq_30, band_false, decide_eq_false (fun h : _ ∧ _ => h1 h.1)]
    by_cases h2 : inI (c.sell - c.pos)
    · simp only [if_pos h2]
    · simp only [if_neg h2]
theorem s_cell_Right {c : SCell} (h : Ok_cell c) : Wq (F_cell_Right c) fun b => b = true ↔ okC c := by
  unfold F_cell_Right
  rw [e_cell_expo h, ob_some, w_some]
  simp only [band_T, ile_T, decide_eq_true_eq, okC]
  rw [imin3]
  constructor
  · rintro ⟨a, b⟩; exact ⟨h, b, a⟩
  · rintro ⟨_, b, a⟩; exact ⟨a, b⟩
theorem e_cell_Right {c : SCell} (h : Ok_cell c) : F_cell_Right c = some (decide (okC c)) := (s_cell_Right h).dec
/-- What a cell may come to. -/
def ofC (c : SCell) : SExpo := ⟨c.pos + c.buy, c.sell - c.pos, c.opn⟩
/-- A cell with an order more, or less. -/
def addC (c : SCell) (o : SOrder) : SCell := if o.side = 2 then ⟨c.pos, c.buy, c.sell + openZ o, c.opn + worthZ o⟩ else ⟨c.pos, c.buy + openZ o, c.sell, c.opn + worthZ o⟩
theorem e_cell_Come {c : SCell} {o : SOrder} (hc : okC c) (ho : ordP o) (hr : Ok_order o) : F_cell_Come c o = some (if okC (addC c o) then (addC c o, 0) else (c, 3)) := by
  have hO := openZ_rng ho hr
  have hW := worthZ_nn ho
  obtain ⟨hk, ⟨n1, n2, n3⟩, r1, r2⟩ := id hc
  have ib := hk.buy; have is' := hk.sell; have io := hk.opn; have ip := hk.pos
  unfold F_cell_Come
  rw [e_cell_Right hk, ob_some, decide_eq_true hc, e_order_Right, decide_eq_true ho, bnot_true, bnot_false, cnd_true, ob_some, bnot_true, bor_false, cnd_false, e_order_Worth ho hr, e_order_Open ho hr, ob_some]
  simp only [ob_some]
  have oO : inI (openZ o) := ⟨by omega, by omega⟩
  by_cases hw : worthZ o ≤ 9223372036854775807
  · have oW : inI (worthZ o) := ⟨by omega, hw⟩
    rw [if_pos hw]
    simp only [ieq_00, bnot_true, bor_false]
    by_cases hs : o.side = 2
    · rw [cnd_t (by rw [ieq_T]; exact hs), e_num_Add is' oO, ob_some, e_num_Add io oW, ob_some]
      unfold addC; rw [if_pos hs]
      by_cases h1 : c.sell + openZ o ≤ 9223372036854775807
      · by_cases h2 : c.opn + worthZ o ≤ 9223372036854775807
        · rw [if_pos ⟨by omega, h1⟩, if_pos ⟨by omega, h2⟩]
          simp only [ieq_00, bnot_true, bor_false, bnot_false, cnd_true]
          rw [e_cell_Right (c := ⟨c.pos, c.buy, c.sell + openZ o, c.opn + worthZ o⟩) ⟨ip, ib, ⟨by simp only; omega, h1⟩, ⟨by simp only; omega, h2⟩⟩, ob_some, c_bnot, c_dec]
          split <;> rfl
        · rw [if_pos ⟨by omega, h1⟩, if_neg (by unfold inI; omega)]
          simp only [ieq_00, ieq_30, bnot_true, bor_false, bnot_false, cnd_true, bor_true, cnd_false, ob_some]
          rw [if_neg fun h => h2 h.1.opn.2]
      · rw [if_neg (by unfold inI; omega)]
        simp only [ieq_30, bnot_false, bor_true, bnot_true, cnd_true, cnd_false, ob_some]
        rw [if_neg fun h => h1 h.1.sell.2]
    · rw [cnd_f (by rw [ieq_F]; exact hs), e_num_Add ib oO, ob_some, e_num_Add io oW, ob_some]
      unfold addC; rw [if_neg hs]
      by_cases h1 : c.buy + openZ o ≤ 9223372036854775807
      · by_cases h2 : c.opn + worthZ o ≤ 9223372036854775807
        · rw [if_pos ⟨by omega, h1⟩, if_pos ⟨by omega, h2⟩]
          simp only [ieq_00, bnot_true, bor_false, bnot_false, cnd_true]
          rw [e_cell_Right (c := ⟨c.pos, c.buy + openZ o, c.sell, c.opn + worthZ o⟩) ⟨ip, ⟨by simp only; omega, h1⟩, is', ⟨by simp only; omega, h2⟩⟩, ob_some, c_bnot, c_dec]
          split <;> rfl
        · rw [if_pos ⟨by omega, h1⟩, if_neg (by unfold inI; omega)]
          simp only [ieq_00, ieq_30, bnot_true, bor_false, bnot_false, cnd_true, bor_true, cnd_false, ob_some]
          rw [if_neg fun h => h2 h.1.opn.2]
      · rw [if_neg (by unfold inI; omega)]
        simp only [ieq_30, bnot_false, bor_true, bnot_true, cnd_true, cnd_false, ob_some]
        rw [if_neg fun h => h1 h.1.buy.2]
  · have hno : ¬ okC (addC c o) := fun h => by
      have := h.1.opn.2
      unfold addC at this
      split at this <;> simp only at this <;> omega
    rw [if_neg hw, if_neg hno]
    simp only [ieq_30, bnot_false, bor_true, bnot_true, cnd_false, ob_some, cnd_true]
    by_cases hs : o.side = 2
    · rw [cnd_t (by rw [ieq_T]; exact hs), e_num_Add is' oO, ob_some, e_num_Add io (by decide), ob_some]
    · rw [cnd_f (by rw [ieq_F]; exact hs), e_num_Add ib oO, ob_some, e_num_Add io (by decide), ob_some]
def limP (x : SExpo) : Prop := 0 ≤ x.long ∧ 0 ≤ x.short ∧ 0 ≤ x.opn
instance (x : SExpo) : Decidable (limP x) := by unfold limP; infer_instance
theorem e_limit_Right (x : SExpo) : F_limit_Right x = some (decide (limP x)) := by
  refine Wq.dec ?_
  unfold F_limit_Right limP
  rw [w_some, ile_T, imin3]
def capP (was now cap : Int) : Prop := max was cap < now
instance (a b c : Int) : Decidable (capP a b c) := by unfold capP; infer_instance
def againstP (a b l : SExpo) : Prop := capP a.long b.long l.long ∨ capP a.short b.short l.short ∨ capP a.opn b.opn l.opn
instance (a b l : SExpo) : Decidable (againstP a b l) := by unfold againstP; infer_instance
theorem sum_take_succ (l : List Int) (i : Nat) (h : i < l.length) : (l.take (i + 1)).sum = (l.take i).sum + l[i] := by
  rw [List.take_succ_eq_append_getElem h, List.sum_append]; simp
theorem sum_nn : ∀ {l : List Int}, (∀ x ∈ l, 0 ≤ x) → 0 ≤ l.sum
  | [], _ => by simp
  | a :: l, h => by
    have := sum_nn (l := l) fun x hx => h x (by simp [hx])
    have := h a (by simp)
    simp only [List.sum_cons]; omega
theorem sum_take_le {l : List Int} (h : ∀ x ∈ l, 0 ≤ x) (i : Nat) : (l.take i).sum ≤ l.sum := by
  have e : l.sum = (l.take i).sum + (l.drop i).sum := by rw [← List.sum_append, List.take_append_drop]
  have := sum_nn (l := l.drop i) fun x hx => h x (List.mem_of_mem_drop hx)
  omega
def totZ (l : List Int) : Int × Int := if l.sum ≤ 9223372036854775807 then (l.sum, 0) else (0, 3)
theorem e_num_Total {l : List Int} (hl : l.length < 999999) (h : ∀ x ∈ l, 0 ≤ x ∧ inI x) : F_num_Total l = some (totZ l) := by
  refine Wq.eq ?_
  have hn : ∀ x ∈ l, 0 ≤ x := fun x hx => (h x hx).1
  unfold F_num_Total
  refine Wq.bind (Q := fun w : (Int × Int) ⊕ (Int × Int × Int) => match w with | .inl w => w = (3, 0) ∧ ¬ l.sum ≤ 9223372036854775807 | .inr w => w.1 = l.sum ∧ l.sum ≤ 9223372036854775807)
    (w_for (n := l.length) (step := fun v : Int × Int × Int × Int => L_num_Total_58 (len l) l v.fst v.snd.fst v.snd.snd.fst v.snd.snd.snd) (by omega)
      (fun i x => x.1 = (l.take i).sum ∧ x.1 ≤ 9223372036854775807) _ ?_ ?_ _ 0 (Nat.zero_le _) (by simp)) ?_
  · rintro i ⟨a, b, c⟩ hi ⟨rfl, ha⟩
    simp only [L_num_Total_58]
    simp only at ha
    have ht := sum_nn (l := l.take i) fun x hx => hn x (List.mem_of_mem_take hx)
    have hx := h l[i] (List.getElem_mem _)
    rw [cnd_t (by rw [ilt_nat]; simpa using hi), cnd_t (inb l i hi), lget_nat l i hi, e_num_Add ⟨by omega, ha⟩ hx.2, ob_some, ← sum_take_succ l i hi]
    have := sum_take_le hn (i + 1)
    have h2 := sum_nn (l := l.take (i + 1)) fun x hx => hn x (List.mem_of_mem_take hx)
    by_cases hr : (l.take (i + 1)).sum ≤ 9223372036854775807
    · rw [if_pos ⟨by omega, hr⟩]
      simp only [ieq_00, bnot_true, cnd_false, w_some]
      exact ⟨wr_succ (by omega), trivial, hr⟩
    · rw [if_neg (by unfold inI; omega)]
      simp only [ieq_30, bnot_false, cnd_true, w_some]
      exact ⟨trivial, by omega⟩
  · rintro ⟨a, b, c⟩ ⟨rfl, ha⟩
    simp only [L_num_Total_58]
    simp only at ha
    rw [cnd_f (by rw [ilt_nat]; simp), w_some]
    rw [List.take_length] at *
    exact ⟨rfl, ha⟩
  · rintro w hw
    unfold totZ
    cases w with
    | inl w => obtain ⟨rfl, h2⟩ := hw; simp only [sumK, w_some]; rw [if_neg h2]
    | inr w => obtain ⟨h1, h2⟩ := hw; simp only [sumK, w_some]; rw [if_pos h2, h1]
/-- What is open of some cells. -/
def wholeZ (l : List SCell) : Int := (l.map SCell.opn).sum
theorem e_limit_Whole {l : List SCell} (hl : l.length < 999999) (h : ∀ c ∈ l, 0 ≤ c.opn ∧ inI c.opn) : F_limit_Whole l = some (if wholeZ l ≤ 9223372036854775807 then (wholeZ l, 0) else (0, 3)) := by
  refine Wq.eq ?_
  unfold F_limit_Whole
  refine Wq.bind (Q := fun w : List Int => w = l.map SCell.opn)
    (w_for (n := l.length) (step := fun v : Int × List Int => L_limit_Whole_58 (len l) l v.fst v.snd) (by omega) (fun i x => x = (l.take i).map SCell.opn) _ ?_ ?_ _ 0 (Nat.zero_le _) (by simp)) ?_
  · rintro i x hi rfl
    simp only [L_limit_Whole_58]
    rw [cnd_t (by rw [ilt_nat]; simpa using hi), cnd_t (inb l i hi), cnd_t (ile_t (by simp [lapp, len]; omega)), w_some, lget_nat l i hi]
    exact ⟨wr_succ (by omega), by rw [List.take_succ_eq_append_getElem hi, List.map_append]; rfl⟩
  · rintro x rfl
    simp only [L_limit_Whole_58]
    rw [cnd_f (by rw [ilt_nat]; simp), w_some, List.take_length]
  · rintro w rfl
    rw [e_num_Total (by simpa using hl) (fun x hx => by
      obtain ⟨c, hc, rfl⟩ := List.mem_map.1 hx
      exact h c hc), ob_some, w_some]
    rfl
theorem s_slices_Min_int64 {l : List Int} (hl : l.length < 999999) (h0 : l ≠ []) : Wq (F_slices_Min_int64 l) fun m => 0 ≤ m ↔ ∀ x ∈ l, 0 ≤ x := by
  have hp : 0 < l.length := List.length_pos_iff.2 h0
  unfold F_slices_Min_int64
  rw [cnd_f (ilt_f (by simp only [len]; omega)), cnd_t (ilt_t (by simp only [len]; omega))]
  refine Wq.bind (Q := fun m => 0 ≤ m ↔ ∀ x ∈ l, 0 ≤ x) (w_for (n := l.length) (step := fun v : Int × Int => L_slices_Min_int64_122 l v.fst v.snd) (by omega) (fun i x => 0 ≤ x ↔ ∀ y ∈ l.take i, 0 ≤ y) _ ?_ ?_ _ 1 hp ?_) ?_
  · rintro i x hi hx
    simp only [L_slices_Min_int64_122]
    rw [cnd_t (by rw [ilt_nat]; simpa using hi), cnd_t (inb l i hi), w_some, lget_nat l i hi]
    refine ⟨wr_succ (by omega), ?_⟩
    rw [List.take_succ_eq_append_getElem hi]
    simp only [List.mem_append, List.mem_singleton]
    unfold imin
    constructor
    · intro h y hy
      rcases hy with hy | rfl
      · exact hx.1 (by split at h <;> omega) y hy
      · split at h <;> omega
    · intro h
      have h1 := hx.2 fun y hy => h y (.inl hy)
      have h2 := h _ (.inr rfl)
      split <;> omega
  · rintro x hx
    simp only [L_slices_Min_int64_122]
    rw [cnd_f (by rw [ilt_nat]; simp), w_some]
    rwa [List.take_length] at hx
  · cases l with
    | nil => exact absurd rfl h0
    | cons a r => simp [lget]
  · exact fun w hw => (w_some _).2 hw
def sizedP (s : SState) : Prop := (1 ≤ s.accounts ∧ s.accounts ≤ 8) ∧ (1 ≤ s.symbols ∧ s.symbols ≤ 8) ∧ len s.cells = s.accounts * s.symbols ∧ len s.limits = len s.cells ∧ len s.caps = s.accounts ∧ s.orders.length ≤ 64
instance (s : SState) : Decidable (sizedP s) := by unfold sizedP; infer_instance
theorem mul_le64 {a b : Int} (h1 : 0 ≤ a) (h2 : a ≤ 9) (h3 : 0 ≤ b) (h4 : b ≤ 9) : 0 ≤ a * b ∧ a * b ≤ 81 :=
  ⟨Int.mul_nonneg h1 h3, by have := Int.mul_le_mul h2 h4 h3 (by omega); omega⟩
theorem s_book_ledger_sized (s : SState) : Wq (F_book_ledger_sized s) fun b => b = true ↔ sizedP s := by
  unfold F_book_ledger_sized
  simp only [w_some, band_T, ile_T, ieq_T, sizedP]
  constructor
  · rintro ⟨⟨⟨⟨⟨⟨⟨a, b⟩, c⟩, d⟩, e⟩, f⟩, g⟩, h⟩
    have := mul_le64 (a := s.accounts) (b := s.symbols) (by omega) (by omega) (by omega) (by omega)
    rw [show imul s.accounts s.symbols = s.accounts * s.symbols from rfl, wr_small this.1 (by omega)] at e
    exact ⟨⟨a, b⟩, ⟨c, d⟩, e, f, g, by simp only [len] at h; omega⟩
  · rintro ⟨⟨a, b⟩, ⟨c, d⟩, e, f, g, h⟩
    have := mul_le64 (a := s.accounts) (b := s.symbols) (by omega) (by omega) (by omega) (by omega)
    rw [show imul s.accounts s.symbols = s.accounts * s.symbols from rfl, wr_small this.1 (by omega)]
    exact ⟨⟨⟨⟨⟨⟨⟨a, b⟩, c⟩, d⟩, e⟩, f⟩, g⟩, by simp only [len]; omega⟩
theorem sizedP.lens {s : SState} (hs : sizedP s) : s.cells.length ≤ 64 ∧ s.limits.length = s.cells.length ∧ s.caps.length = s.accounts.toNat ∧ s.orders.length ≤ 64 := by
  obtain ⟨⟨h1, h2⟩, ⟨h3, h4⟩, h5, h6, h7, h8⟩ := hs
  have m : s.accounts * s.symbols ≤ 8 * 8 := Int.mul_le_mul h2 h4 (by omega) (by omega)
  simp only [len] at h5 h6 h7
  exact ⟨by omega, by omega, by omega, h8⟩
/-- The place of an order's cell. -/
def atZ (n : Int) (o : SOrder) : Int := o.account * n + o.symbol
/-- A cell's place. -/
theorem s_cellOf {s : SState} (hs : sizedP s) (a y : Int) (ha : 0 ≤ a) (ha2 : a < s.accounts) (hy : 0 ≤ y) (hy2 : y < s.symbols) :
    ∃ k : Nat, F_book_ledger_cellOf s a y = some (k : Int) ∧ (k : Int) = a * s.symbols + y ∧ k < s.cells.length := by
  obtain ⟨⟨h1, h2⟩, ⟨h3, h4⟩, h5, _⟩ := hs
  have m := mul_le64 (a := a) (b := s.symbols) (by omega) (by omega) (by omega) (by omega)
  have l : (a + 1) * s.symbols ≤ s.accounts * s.symbols := Int.mul_le_mul_of_nonneg_right (by omega) (by omega)
  have e : (a + 1) * s.symbols = a * s.symbols + s.symbols := by rw [Int.add_mul, Int.one_mul]
  refine ⟨(a * s.symbols + y).toNat, ?_, by omega, by simp only [len] at h5; omega⟩
  unfold F_book_ledger_cellOf
  rw [show imul a s.symbols = a * s.symbols from rfl, wr_small m.1 (by omega), show iadd (a * s.symbols) y = a * s.symbols + y from rfl, wr_small (by omega) (by omega)]
  congr 1; omega
/-- An account's cells. -/
def acctZ (n : Int) (cs : List SCell) (a : Int) : List SCell := (cs.drop (a * n).toNat).take n.toNat
theorem e_account {s : SState} (hs : sizedP s) (a : Int) (ha : 0 ≤ a) (ha2 : a < s.accounts) :
    F_book_ledger_account s a = some (acctZ s.symbols s.cells a) := by
  obtain ⟨⟨h1, h2⟩, ⟨h3, h4⟩, h5, _⟩ := hs
  have m := mul_le64 (a := a) (b := s.symbols) (by omega) (by omega) (by omega) (by omega)
  have m2 := mul_le64 (a := a + 1) (b := s.symbols) (by omega) (by omega) (by omega) (by omega)
  have l : (a + 1) * s.symbols ≤ s.accounts * s.symbols := Int.mul_le_mul_of_nonneg_right (by omega) (by omega)
  have e : (a + 1) * s.symbols = a * s.symbols + s.symbols := by rw [Int.add_mul, Int.one_mul]
  unfold F_book_ledger_account
  rw [show imul a s.symbols = a * s.symbols from rfl, wr_small m.1 (by omega), show iadd a 1 = a + 1 from rfl, wr_small (n := a + 1) (by omega) (by omega),
    show imul (a + 1) s.symbols = (a + 1) * s.symbols from rfl, wr_small m2.1 (by omega)]
  rw [cnd_t (by simp only [band_T, ile_T]; omega)]
  rw [show isub ((a + 1) * s.symbols) (a * s.symbols) = s.symbols from by unfold isub; omega]
  rfl
theorem acctZ_mem {n : Int} {cs : List SCell} {a : Int} {c : SCell} (h : c ∈ acctZ n cs a) : c ∈ cs := List.mem_of_mem_drop (List.mem_of_mem_take h)
theorem acctZ_len {n : Int} {cs : List SCell} {a : Int} : (acctZ n cs a).length ≤ cs.length := by
  unfold acctZ; rw [List.length_take, List.length_drop]; omega
/-- What each order of a fine state is. -/
def orderIn (s : SState) (o : SOrder) : Prop := ordP o ∧ o.phase ≠ 3 ∧ o.account < s.accounts ∧ o.symbol < s.symbols
def ascP (l : List SOrder) : Prop := l.Pairwise fun a b => a.id < b.id
/-- Numbers, limits, caps and orders of a state. -/
structure FineP (s : SState) : Prop where
  ords : ∀ o ∈ s.orders, orderIn s o
  asc : ascP s.orders
  ids : ∀ o ∈ s.orders, o.id ≤ s.last
  last : 0 ≤ s.last ∧ s.last ≤ 1000000000000
  seq : 0 ≤ s.seq ∧ s.seq ≤ 1000000000
  lsn : 0 ≤ s.lsn ∧ s.lsn ≤ 1000000000
  lims : ∀ x ∈ s.limits, limP x
  caps : ∀ x ∈ s.caps, 0 ≤ x
theorem mem_take_succ {α : Type} {l : List α} {i : Nat} (h : i < l.length) {x : α} : x ∈ l.take (i + 1) ↔ x ∈ l.take i ∨ x = l[i] := by
  rw [List.take_succ_eq_append_getElem h, List.mem_append, List.mem_singleton]
theorem s_fine (s : SState) (hl : s.orders.length < 999999) (h2 : s.limits.length < 999999) (h3 : s.caps.length < 999999) (h0 : s.caps ≠ []) :
    Wq (F_book_ledger_fine s) fun b => b = true ↔ FineP s := by
  unfold F_book_ledger_fine
  refine Wq.bind (Q := fun w : Bool ⊕ (Int × Bool) => match w with
      | .inl b => b = false ∧ ¬ ((∀ o ∈ s.orders, orderIn s o) ∧ ascP s.orders)
      | .inr v => (∀ o ∈ s.orders, orderIn s o ∧ o.id ≤ v.1) ∧ ascP s.orders ∧ (v.1 = 0 ∨ ∃ o ∈ s.orders, o.id = v.1))
    (w_for (n := s.orders.length) (step := fun v : Int × Int × Bool => L_book_ledger_fine_58 (len s.orders) s.orders s v.fst v.snd.fst v.snd.snd) (by omega)
      (fun i v => (∀ o ∈ s.orders.take i, orderIn s o ∧ o.id ≤ v.1) ∧ ascP (s.orders.take i) ∧ (v.1 = 0 ∨ ∃ o ∈ s.orders.take i, o.id = v.1)) _ ?_ ?_ _ 0 (Nat.zero_le _) (by simp [ascP])) ?_
  · rintro i ⟨x, q⟩ hi ⟨g1, g2, g3⟩
    simp only at g1 g2 g3
    simp only [L_book_ledger_fine_58]
    rw [cnd_t (by rw [ilt_nat]; simpa using hi), cnd_t (inb _ i hi), lget_nat _ i hi, e_order_Right, ob_some]
    simp only [w_cnd, w_some, bor_T, bor_F, bnot_T, bnot_F, ieq_T, ieq_F, ile_T, ile_F, decide_eq_true_eq, decide_eq_false_iff_not]
    refine ⟨fun hb => ⟨trivial, fun ⟨a1, a2⟩ => ?_⟩, fun hc => ⟨wr_succ (by omega), fun o ho => ?_, ?_, .inr ⟨_, (mem_take_succ hi).2 (.inr rfl), rfl⟩⟩⟩
    · obtain ⟨b1, b2, b3, b4⟩ := a1 s.orders[i] (List.getElem_mem _)
      have hle : s.orders[i].id ≤ x := by
        rcases hb with (((hb | hb) | hb) | hb) | hb
        · exact absurd b1 hb
        · exact absurd hb b2
        · omega
        · omega
        · exact hb
      rcases g3 with g3 | ⟨o, ho, g3⟩
      · have := b1.1.1.1; omega
      · obtain ⟨j, hj, rfl⟩ := List.getElem_of_mem ho
        rw [List.length_take] at hj
        have := List.pairwise_iff_getElem.1 a2 j i (by omega) hi (by omega)
        rw [List.getElem_take] at g3
        omega
    · rcases (mem_take_succ hi).1 ho with ho | rfl
      · have := g1 o ho
        exact ⟨this.1, by have := this.2; omega⟩
      · exact ⟨⟨hc.1.1.1.1, hc.1.1.1.2, by omega, by omega⟩, Int.le_refl _⟩
    · rw [List.take_succ_eq_append_getElem hi]
      unfold ascP
      rw [List.pairwise_append]
      refine ⟨g2, by simp, fun a ha b hb => ?_⟩
      rw [List.mem_singleton] at hb
      subst hb
      have := (g1 a ha).2
      omega
  · rintro ⟨x, q⟩ hx
    simp only [L_book_ledger_fine_58]
    rw [cnd_f (by rw [ilt_nat]; simp), w_some]
    simp only [List.take_length] at hx
    exact hx
  · rintro w hw
    cases w with
    | inl b =>
      obtain ⟨rfl, hn⟩ := hw
      simp only [sumK, w_some]
      exact ⟨fun h => (by cases h), fun h => absurd ⟨h.ords, h.asc⟩ hn⟩
    | inr v =>
      obtain ⟨g1, g2, g3⟩ := hw
      have gl : v.1 ≤ s.last ∧ 0 ≤ s.last ↔ (∀ o ∈ s.orders, o.id ≤ s.last) ∧ 0 ≤ s.last := by
        constructor
        · rintro ⟨a, b⟩; exact ⟨fun o ho => by have := (g1 o ho).2; omega, b⟩
        · rintro ⟨a, b⟩
          refine ⟨?_, b⟩
          rcases g3 with g3 | ⟨o, ho, g3⟩
          · omega
          · have := a o ho; omega
      have hF : FineP s ↔ (v.1 ≤ s.last ∧ s.last ≤ 1000000000000 ∧ 0 ≤ s.seq ∧ s.seq ≤ 1000000000 ∧ 0 ≤ s.lsn ∧ s.lsn ≤ 1000000000) ∧ (∀ x ∈ s.limits, limP x) ∧ (∀ x ∈ s.caps, 0 ≤ x) ∧ 0 ≤ s.last := by
        constructor
        · intro h
          have := gl.2 ⟨h.ids, h.last.1⟩
          exact ⟨⟨this.1, h.last.2, h.seq.1, h.seq.2, h.lsn.1, h.lsn.2⟩, h.lims, h.caps, h.last.1⟩
        · rintro ⟨⟨a1, a2, a3, a4, a5, a6⟩, b, c, d⟩
          exact ⟨fun o ho => (g1 o ho).1, g2, (gl.1 ⟨a1, d⟩).1, ⟨d, a2⟩, ⟨a3, a4⟩, ⟨a5, a6⟩, b, c⟩
      rw [hF]
      obtain ⟨m, hm, hmq⟩ := s_slices_Min_int64 h3 h0
      simp only [sumK, hm, cnd_if, ob_if, ob_some]
      simp only [band_T, band_F, bor_T, bor_F, bnot_T, bnot_F, ilt_T, ilt_F, ile_T, ile_F, ieq_T, ieq_F, beq_T, beq_F]
      by_cases hA : v.1 ≤ s.last ∧ s.last ≤ 1000000000000 ∧ 0 ≤ s.seq ∧ s.seq ≤ 1000000000 ∧ 0 ≤ s.lsn ∧ s.lsn ≤ 1000000000
      · have hA' : ((((v.fst ≤ s.last ∧ s.last ≤ 1000000000000) ∧ 0 ≤ s.seq) ∧ s.seq ≤ 1000000000) ∧ 0 ≤ s.lsn) ∧ s.lsn ≤ 1000000000 := ⟨⟨⟨⟨⟨hA.1, hA.2.1⟩, hA.2.2.1⟩, hA.2.2.2.1⟩, hA.2.2.2.2.1⟩, hA.2.2.2.2.2⟩
        rw [if_pos hA']
        refine Wq.bind (Q := fun w : Int ⊕ Int => match w with | .inl k => 0 ≤ k ∧ ¬ ∀ x ∈ s.limits, limP x | .inr _ => ∀ x ∈ s.limits, limP x)
          (w_for (n := s.limits.length) (step := fun v : Int × Int => L_book_ledger_fine_26_slices_IndexFunc_api_Expo_c136_c142 (len s.limits) s.limits v.fst v.snd) (by omega) (fun i _ => ∀ x ∈ s.limits.take i, limP x) _ ?_ ?_ _ 0 (Nat.zero_le _) (by simp)) ?_
        · rintro i x hi hx
          simp only [L_book_ledger_fine_26_slices_IndexFunc_api_Expo_c136_c142]
          rw [cnd_t (by rw [ilt_nat]; simpa using hi), cnd_t (inb _ i hi), lget_nat _ i hi, e_limit_Right, ob_some]
          simp only [w_cnd, w_some, bnot_T, bnot_F, decide_eq_true_eq, decide_eq_false_iff_not]
          refine ⟨fun h => ⟨by omega, fun h2 => h (h2 _ (List.getElem_mem _))⟩, fun h => ⟨wr_succ (by omega), fun x hx' => ?_⟩⟩
          rcases (mem_take_succ hi).1 hx' with h5 | rfl
          · exact hx x h5
          · exact h
        · rintro x hx
          simp only [L_book_ledger_fine_26_slices_IndexFunc_api_Expo_c136_c142]
          rw [cnd_f (by rw [ilt_nat]; simp), w_some]
          rwa [List.take_length] at hx
        · rintro w hw
          cases w with
          | inl k =>
            obtain ⟨hk, hn⟩ := hw
            simp only
            rw [if_neg (fun h => by omega), w_some]
            simp only [band_T, band_F, bor_T, bor_F, bnot_T, bnot_F, ilt_T, ilt_F, ile_T, ile_F, ieq_T, ieq_F, beq_T, beq_F]
            constructor
            · rintro ⟨⟨⟨_, h⟩, _⟩, _⟩; omega
            · rintro ⟨_, h, _⟩; exact absurd h hn
          | inr k =>
            simp only
            rw [if_pos (.inl hA'), w_some]
            simp only [band_T, band_F, bor_T, bor_F, bnot_T, bnot_F, ilt_T, ilt_F, ile_T, ile_F, ieq_T, ieq_F, beq_T, beq_F]
            constructor
            · rintro ⟨⟨_, h1⟩, h2⟩; exact ⟨hA, hw, hmq.1 h1, h2⟩
            · rintro ⟨_, _, h1, h2⟩; exact ⟨⟨.inl hA', hmq.2 h1⟩, h2⟩
      · have hA' : ¬ (((((v.fst ≤ s.last ∧ s.last ≤ 1000000000000) ∧ 0 ≤ s.seq) ∧ s.seq ≤ 1000000000) ∧ 0 ≤ s.lsn) ∧ s.lsn ≤ 1000000000) := by omega
        rw [if_neg hA', if_neg (by simpa using hA'), w_some]
        simp only [band_T, band_F, bor_T, bor_F, bnot_T, bnot_F, ilt_T, ilt_F, ile_T, ile_F, ieq_T, ieq_F, beq_T, beq_F]
        constructor
        · rintro ⟨⟨h | h, _⟩, _⟩
          · exact absurd h hA'
          · cases h
        · rintro ⟨h, _⟩; exact absurd h hA
def cadd (a b : SCell) : SCell := ⟨a.pos + b.pos, a.buy + b.buy, a.sell + b.sell, a.opn + b.opn⟩
def zC : SCell := ⟨0, 0, 0, 0⟩
def wC (o : SOrder) : SCell := if o.side = 2 then ⟨0, 0, openZ o, worthZ o⟩ else ⟨0, openZ o, 0, worthZ o⟩
/-- What an order is in the cell of a place. -/
def inC (n i : Int) (o : SOrder) : SCell := if atZ n o = i then wC o else zC
def sumC (n i : Int) : List SOrder → SCell
  | [] => zC
  | o :: r => cadd (inC n i o) (sumC n i r)
theorem cell_ext {a b : SCell} (h1 : a.pos = b.pos) (h2 : a.buy = b.buy) (h3 : a.sell = b.sell) (h4 : a.opn = b.opn) : a = b := by
  cases a; cases b; simp_all
theorem cadd_z (a : SCell) : cadd a zC = a := by apply cell_ext <;> simp [cadd, zC]
theorem z_cadd (a : SCell) : cadd zC a = a := by apply cell_ext <;> simp [cadd, zC]
theorem cadd_assoc (a b c : SCell) : cadd (cadd a b) c = cadd a (cadd b c) := by apply cell_ext <;> simp only [cadd] <;> omega
theorem addC_eq (c : SCell) (o : SOrder) : addC c o = cadd c (wC o) := by unfold addC wC; split <;> simp [cadd]
theorem sumC_append (n i : Int) : ∀ (l m : List SOrder), sumC n i (l ++ m) = cadd (sumC n i l) (sumC n i m)
  | [], m => (z_cadd _).symm
  | o :: l, m => by
    rw [List.cons_append, sumC, sumC, sumC_append n i l m, cadd_assoc]
theorem sumC_one (n i : Int) (o : SOrder) : sumC n i [o] = inC n i o := cadd_z _
/-- Parts of a cell that are no less than nothing. -/
def nnC (c : SCell) : Prop := c.pos = 0 ∧ 0 ≤ c.buy ∧ 0 ≤ c.sell ∧ 0 ≤ c.opn
theorem wC_nn {o : SOrder} (h : ordP o) (hr : Ok_order o) : nnC (wC o) := by
  have := openZ_rng h hr
  have := worthZ_nn h
  unfold wC nnC; split <;> simp <;> omega
theorem inC_nn (n i : Int) {o : SOrder} (h : ordP o) (hr : Ok_order o) : nnC (inC n i o) := by
  unfold inC; split
  · exact wC_nn h hr
  · simp [nnC, zC]
theorem cadd_nn {a b : SCell} (h1 : nnC a) (h2 : nnC b) : nnC (cadd a b) := by
  unfold nnC cadd at *; simp only; omega
theorem sumC_nn (n i : Int) : ∀ {l : List SOrder}, (∀ o ∈ l, ordP o ∧ Ok_order o) → nnC (sumC n i l)
  | [], _ => by simp [sumC, nnC, zC]
  | o :: l, h => cadd_nn (inC_nn n i (h o (by simp)).1 (h o (by simp)).2) (sumC_nn n i fun x hx => h x (by simp [hx]))
/-- As far as numbers go. -/
def fitC (c : SCell) : Prop := c.buy ≤ 9223372036854775807 ∧ c.sell ≤ 9223372036854775807 ∧ c.opn ≤ 9223372036854775807
theorem okC_of_fit {c : SCell} (h : nnC c) (hf : fitC c) : okC c := by
  obtain ⟨h0, h1, h2, h3⟩ := h
  obtain ⟨f1, f2, f3⟩ := hf
  rw [okC_iff, h0]
  unfold inI
  omega
theorem fit_of_ok {c : SCell} (h : okC c) : fitC c := ⟨h.1.buy.2, h.1.sell.2, h.1.opn.2⟩
theorem fit_mono {a b : SCell} (hb : nnC b) (h : fitC (cadd a b)) : fitC a := by
  unfold fitC cadd nnC at *; simp only at *; omega
def fitAll (s : SState) : Prop := ∀ j : Nat, j < s.cells.length → fitC (sumC s.symbols j s.orders)
theorem lset_getI {α : Type} (l : List α) (k : Nat) (x : α) (j : Nat) (h : j < (lset l (itn (k : Int)) x).length) : (lset l (itn (k : Int)) x)[j] = if k = j then x else l[j]'(by simpa [lset] using h) := by
  simp [lset, itn, List.getElem_set]
theorem s_summed {s : SState} (hs : sizedP s) (hk : ∀ o ∈ s.orders, orderIn s o ∧ Ok_order o) :
    Wq (F_book_ledger_summed s) fun r => (r.2 = true ↔ fitAll s) ∧ (r.2 = true → r.1.length = s.cells.length ∧ ∀ (j : Nat) (h : j < r.1.length), r.1[j] = sumC s.symbols j s.orders) := by
  obtain ⟨hc, _, _, hol⟩ := hs.lens
  unfold F_book_ledger_summed
  rw [cnd_t (by simp only [band_T, ile_T, len]; omega)]
  refine Wq.bind (Q := fun w : (Bool × List SCell × List SCell) ⊕ (Bool × List SCell × List SCell) => match w with
      | .inl b => b.1 = false ∧ ¬ fitAll s
      | .inr b => b.2.2.length = s.cells.length ∧ ∀ (j : Nat) (h : j < b.2.2.length), b.2.2[j] = sumC s.symbols j s.orders ∧ fitC b.2.2[j])
    (w_for (n := s.orders.length) (step := fun v : Int × Bool × List SCell × List SCell => L_book_ledger_summed_58 (len s.orders) s.orders s v.fst v.snd.fst v.snd.snd.fst v.snd.snd.snd) (by omega)
      (fun i x => x.2.2.length = s.cells.length ∧ ∀ (j : Nat) (h : j < x.2.2.length), x.2.2[j] = sumC s.symbols j (s.orders.take i) ∧ fitC x.2.2[j]) _ ?_ ?_ _ 0 (Nat.zero_le _) ?_) ?_
  · rintro i ⟨q, x, y⟩ hi ⟨hx, hy⟩
    simp only at hx hy
    simp only [L_book_ledger_summed_58]
    have hmem := hk s.orders[i] (List.getElem_mem _)
    obtain ⟨⟨ho, ho3, g1, g2⟩, hor⟩ := id hmem
    obtain ⟨⟨_, hb1, hb2, _⟩, _⟩ := id ho
    obtain ⟨k, k1, k2, k3⟩ := s_cellOf hs s.orders[i].account s.orders[i].symbol hb1.1 g1 hb2.1 g2
    have hky : k < y.length := by omega
    have hnn : nnC y[k] := by
      rw [(hy k hky).1]
      exact sumC_nn _ _ fun o h => ⟨(hk o (List.mem_of_mem_take h)).1.1, (hk o (List.mem_of_mem_take h)).2⟩
    have hok : okC y[k] := okC_of_fit hnn (hy k hky).2
    have hnew : nnC (addC y[k] s.orders[i]) := by rw [addC_eq]; exact cadd_nn hnn (wC_nn ho hor)
    have hsum : ∀ j : Nat, sumC s.symbols j (s.orders.take (i + 1)) = cadd (sumC s.symbols j (s.orders.take i)) (inC s.symbols j s.orders[i]) := fun j => by
      rw [List.take_succ_eq_append_getElem hi, sumC_append, sumC_one]
    have hat : atZ s.symbols s.orders[i] = (k : Int) := k2.symm
    have hkk : addC y[k] s.orders[i] = sumC s.symbols k (s.orders.take (i + 1)) := by
      rw [hsum, addC_eq, (hy k hky).1]
      unfold inC; rw [if_pos hat]
    rw [cnd_t (by rw [ilt_nat]; simpa using hi), cnd_t (inb _ i hi), lget_nat _ i hi, k1, ob_some, cnd_t (inb y k hky), lget_nat y k hky, e_cell_Come hok ho hor, ob_some]
    by_cases hf : okC (addC y[k] s.orders[i])
    · rw [if_pos hf]
      simp only [ieq_00, bnot_true, cnd_false]
      rw [cnd_t (inb y k hky), w_some]
      refine ⟨wr_succ (by omega), (lset_len _ _ _).trans hx, fun j hj => ?_⟩
      have hj' : j < y.length := by simpa [lset] using hj
      show (lset y (itn (k : Int)) (addC y[k] s.orders[i]))[j]'hj = _ ∧ fitC ((lset y (itn (k : Int)) (addC y[k] s.orders[i]))[j]'hj)
      rw [lset_getI]
      split
      · rename_i e; subst e
        exact ⟨hkk, fit_of_ok hf⟩
      · rename_i e
        rw [hsum j]
        unfold inC
        rw [if_neg (by omega), cadd_z]
        exact hy j hj'
    · rw [if_neg hf]
      simp only [ieq_30, bnot_false, cnd_true]
      rw [w_some]
      refine ⟨rfl, fun hall => hf (okC_of_fit hnew ?_)⟩
      rw [hkk]
      have e : sumC s.symbols k s.orders = cadd (sumC s.symbols k (s.orders.take (i + 1))) (sumC s.symbols k (s.orders.drop (i + 1))) := by
        rw [← sumC_append, List.take_append_drop]
      have := hall k k3
      rw [e] at this
      exact fit_mono (sumC_nn _ _ fun o h => ⟨(hk o (List.mem_of_mem_drop h)).1.1, (hk o (List.mem_of_mem_drop h)).2⟩) this
  · rintro ⟨q, x, y⟩ hx
    simp only [L_book_ledger_summed_58]
    rw [cnd_f (by rw [ilt_nat]; simp), w_some]
    simp only [List.take_length] at hx
    exact hx
  · simp only [List.take_zero, sumC]
    refine ⟨by simp [lrep, itn, len], fun j hj => ?_⟩
    simp only [lrep, List.getElem_replicate]
    exact ⟨rfl, by simp only [fitC]; decide⟩
  · rintro w hw
    cases w with
    | inl b =>
      obtain ⟨h1, h2⟩ := hw
      simp only [sumK, w_some, h1]
      exact ⟨⟨fun h => (by cases h), fun h => absurd h h2⟩, fun h => by cases h⟩
    | inr b =>
      obtain ⟨h1, h2⟩ := hw
      simp only [sumK, w_some]
      refine ⟨⟨fun _ j hj => ?_, fun _ => trivial⟩, fun _ => ⟨h1, fun j hj => (h2 j hj).1⟩⟩
      have := h2 j (by omega)
      rw [← this.1]; exact this.2
/-- The cells that orders make, with what the accounts have. -/
def mkCells (s : SState) (l : List SOrder) : List SCell := s.cells.mapIdx fun i c => cadd ⟨c.pos, 0, 0, 0⟩ (sumC s.symbols i l)
theorem mkCells_len (s : SState) (l : List SOrder) : (mkCells s l).length = s.cells.length := by simp [mkCells]
theorem mkCells_get (s : SState) (l : List SOrder) (i : Nat) (h : i < (mkCells s l).length) : (mkCells s l)[i] = cadd ⟨(s.cells[i]'(by simpa [mkCells] using h)).pos, 0, 0, 0⟩ (sumC s.symbols i l) := by
  simp [mkCells]
/-- Is what is open of each account together a number? -/
def acctOk (n m : Int) (cs : List SCell) : Prop := ∀ a : Int, 0 ≤ a → a < n → wholeZ (acctZ m cs a) ≤ 9223372036854775807
/-- A right state. -/
structure RightS (s : SState) : Prop where
  sized : sizedP s
  fine : FineP s
  cells : s.cells = mkCells s s.orders
  ok : ∀ c ∈ s.cells, okC c
  acct : acctOk s.accounts s.symbols s.cells
theorem s_book_Right (s : SState) (hr : Ok_state s) (hl : s.orders.length < 999999) (h2 : s.limits.length < 999999) (h3 : s.caps.length < 999999) :
    Wq (F_book_Right s) fun b => b = true ↔ RightS s := by
  unfold F_book_Right F_book_ledger_right
  rw [w_bind]
  refine Wq.bind (s_book_ledger_sized s) fun z hz => ?_
  refine Wq.bind (Q := fun b => b = true ↔ (z = true ∧ FineP s)) ?_ ?_
  · rw [w_cnd]
    refine ⟨fun h => ?_, fun h => (w_some _).2 ?_⟩
    · simp only [bnot_T, bnot_F] at h
      have hs : sizedP s := hz.1 h
      refine (s_fine s hl h2 h3 ?_).mono fun b hb => by rw [hb]; simp [h]
      intro e
      have := hs.2.2.2.2.1
      have := hs.1.1
      simp [e, len] at *
      omega
    · simp only [bnot_T, bnot_F] at h
      simp [h]
  · intro f hf
    rw [w_cnd]
    refine ⟨fun h => (w_some _).2 ((w_some _).2 ?_), fun h => ?_⟩
    · simp only [bor_T, bnot_T] at h
      refine ⟨fun h => (by cases h), fun hr => ?_⟩
      have e1 := hz.2 hr.sized
      have e2 := hf.2 ⟨e1, hr.fine⟩
      rw [e1, e2] at h
      simp at h
    · simp only [bor_F, bnot_F] at h
      have hs := hz.1 h.1
      have hfn := (hf.1 h.2).2
      obtain ⟨hc, hlim, hcap, hol⟩ := hs.lens
      have hall : ∀ o ∈ s.orders, orderIn s o ∧ Ok_order o := fun o ho => ⟨hfn.ords o ho, hr.orders.1 o ho⟩
      have hokc : ∀ c ∈ s.cells, Ok_cell c := hr.cells.1
      refine Wq.bind (s_summed hs hall) fun y hy => ?_
      obtain ⟨hy1, hy2⟩ := hy
      rw [w_cnd]
      refine ⟨fun h5 => (w_some _).2 ((w_some _).2 ?_), fun h5 => ?_⟩
      · rw [bnot_T] at h5
        refine ⟨fun h => (by cases h), fun hR => ?_⟩
        have : y.2 = true := hy1.2 fun j hj => by
          have e := hR.ok s.cells[j] (List.getElem_mem _)
          have e2 : s.cells[j] = cadd ⟨s.cells[j].pos, 0, 0, 0⟩ (sumC s.symbols j s.orders) := by
            have := mkCells_get s s.orders j (by rw [mkCells_len]; exact hj)
            rw [← this]
            congr 1
            exact hR.cells
          have e3 := fit_of_ok e
          rw [e2] at e3
          unfold fitC cadd at e3
          simpa [fitC] using e3
        rw [this] at h5; cases h5
      · rw [bnot_F] at h5
        obtain ⟨hyl, hyg⟩ := hy2 h5
        refine Wq.bind (Q := fun w : (Bool × List SCell) ⊕ (Bool × List SCell) => match w with
            | .inl b => b.1 = false ∧ ¬ ((∀ c ∈ s.cells, okC c) ∧ s.cells = mkCells s s.orders)
            | .inr _ => (∀ c ∈ s.cells, okC c) ∧ s.cells = mkCells s s.orders)
          (w_for (n := s.cells.length) (step := fun v : Int × Bool × List SCell => L_book_ledger_right_250 (len s.cells) s.cells v.fst v.snd.fst v.snd.snd) (by omega)
          (fun i x => x.2.length = s.cells.length ∧ (∀ (j : Nat) (h : j < x.2.length), i ≤ j → x.2[j] = sumC s.symbols j s.orders) ∧ ∀ (j : Nat) (h : j < s.cells.length), j < i → okC s.cells[j] ∧ s.cells[j] = cadd ⟨s.cells[j].pos, 0, 0, 0⟩ (sumC s.symbols j s.orders)) _ ?_ ?_ _ 0 (Nat.zero_le _)
          ⟨hyl, fun j hj _ => hyg j hj, fun j _ h => by omega⟩) ?_
        · rintro i ⟨q, x⟩ hi ⟨hx, hxj, hxd⟩
          simp only at hx hxj hxd
          simp only [L_book_ledger_right_250]
          have hix : i < x.length := by omega
          rw [cnd_t (by rw [ilt_nat]; simpa using hi), cnd_t (inb _ i hi), cnd_t (inb x i hix), lget_nat _ i hi, lget_nat x i hix, e_cell_Right (hokc _ (List.getElem_mem _)), ob_some]
          have hil : i < (lset x (itn (i : Int)) (SCell.mk s.cells[i].pos x[i].buy x[i].sell x[i].opn)).length := by rw [lset_len]; exact hix
          rw [cnd_t (by rw [bor_T]; exact .inl (inb _ i hil)), lget_nat _ i hil]
          have hg : (lset x (itn (i : Int)) (SCell.mk s.cells[i].pos x[i].buy x[i].sell x[i].opn))[i] = SCell.mk s.cells[i].pos x[i].buy x[i].sell x[i].opn := by
            simp [lset, itn]
          rw [hg]
          have hxi := hxj i hix (Nat.le_refl _)
          have hq : cadd ⟨s.cells[i].pos, 0, 0, 0⟩ (sumC s.symbols i s.orders) = SCell.mk s.cells[i].pos x[i].buy x[i].sell x[i].opn := by
            rw [← hxi]
            have hp : x[i].pos = 0 := by rw [hxi]; exact (sumC_nn _ _ fun o h => ⟨(hall o h).1.1, (hall o h).2⟩).1
            apply cell_ext <;> simp only [cadd] <;> omega
          simp only [w_cnd, w_some, band_T, band_F, bor_T, bor_F, bnot_T, bnot_F, ilt_T, ilt_F, ile_T, ile_F, ieq_T, ieq_F, beq_T, beq_F]
          constructor
          · intro hb
            refine ⟨trivial, fun ⟨a1, a2⟩ => ?_⟩
            have b1 := a1 s.cells[i] (List.getElem_mem _)
            have b2 : s.cells[i] = cadd ⟨s.cells[i].pos, 0, 0, 0⟩ (sumC s.symbols i s.orders) := by
              have := mkCells_get s s.orders i (by rw [mkCells_len]; exact hi)
              rw [← this]; congr 1
            rw [hq] at b2
            rcases hb with hb | hb
            · exact absurd b1 (by simpa using hb)
            · have c2 := congrArg SCell.buy b2; have c3 := congrArg SCell.sell b2; have c4 := congrArg SCell.opn b2
              simp only at c2 c3 c4
              rcases hb with hb | hb | hb | hb
              · exact hb rfl
              · exact hb c2.symm
              · exact hb c3.symm
              · exact hb c4.symm
          · intro hb
            obtain ⟨b1, _, b2, b3, b4⟩ := hb
            refine ⟨wr_succ (by omega), (lset_len _ _ _).trans hx, fun j hj hij => ?_, fun j hj hji => ?_⟩
            · rw [lset_getI, if_neg (by omega)]
              exact hxj j (by simpa [lset] using hj) (by omega)
            · by_cases e : j = i
              · subst e
                refine ⟨by simpa using b1, ?_⟩
                rw [hq]
                exact cell_ext rfl b2.symm b3.symm b4.symm
              · exact hxd j hj (by omega)
        · rintro ⟨q, x⟩ ⟨hx, _, hxd⟩
          simp only [L_book_ledger_right_250]
          rw [cnd_f (by rw [ilt_nat]; simp), w_some]
          refine ⟨fun c hc => ?_, ?_⟩
          · obtain ⟨j, hj, rfl⟩ := List.getElem_of_mem hc
            exact (hxd j hj hj).1
          · refine List.ext_getElem (mkCells_len _ _).symm fun j h1 h2 => ?_
            rw [mkCells_get]
            exact (hxd j h1 h1).2
        · rintro w hw
          cases w with
          | inl b =>
            obtain ⟨h1, h2⟩ := hw
            simp only [sumK, w_some, h1]
            exact ⟨fun h => (by cases h), fun hR => absurd ⟨hR.ok, hR.cells⟩ h2⟩
          | inr b =>
            obtain ⟨hok, hcs⟩ := hw
            simp only [sumK]
            rw [w_bind]
            have hacc : ∀ a : Int, ∀ c ∈ acctZ s.symbols s.cells a, 0 ≤ c.opn ∧ inI c.opn := fun a c hc => by
              have := hok c (acctZ_mem hc)
              exact ⟨this.2.1.2.2, this.1.opn⟩
            refine Wq.mono (Q := fun w : Bool ⊕ Bool => match w with | .inl b => b = false ∧ ¬ acctOk s.accounts s.symbols s.cells | .inr _ => acctOk s.accounts s.symbols s.cells)
              (w_for (n := s.accounts.toNat) (step := fun v : Int × Bool => L_book_ledger_right_506 s.accounts s v.fst v.snd) (by have := hs.1.2; omega)
              (fun i x => ∀ a : Int, 0 ≤ a → a < i → wholeZ (acctZ s.symbols s.cells a) ≤ 9223372036854775807) _ ?_ ?_ _ 0 (Nat.zero_le _) (fun a h1 h2 => by omega)) ?_
            · rintro i q hi hx
              have hia : (i : Int) < s.accounts := by omega
              simp only [L_book_ledger_right_506]
              rw [cnd_t (ilt_t hia), e_account hs i (by omega) hia, ob_some, e_limit_Whole (by have := acctZ_len (n := s.symbols) (cs := s.cells) (a := (i : Int)); omega) (hacc i), ob_some]
              by_cases hw : wholeZ (acctZ s.symbols s.cells i) ≤ 9223372036854775807
              · rw [if_pos hw]
                simp only [ieq_00, bnot_true, cnd_false, w_some]
                refine ⟨wr_succ (by omega), fun a h1 h2 => ?_⟩
                by_cases e : a = i
                · subst e; exact hw
                · exact hx a h1 (by omega)
              · rw [if_neg hw]
                simp only [ieq_30, bnot_false, cnd_true, w_some]
                exact ⟨trivial, fun h => hw (h i (by omega) hia)⟩
            · rintro q hx
              simp only [L_book_ledger_right_506]
              rw [cnd_f (ilt_f (by omega)), w_some]
              exact fun a h1 h2 => hx a h1 (by omega)
            · rintro w hw
              cases w with
              | inl b =>
                obtain ⟨rfl, h2⟩ := hw
                simp only [w_some]
                exact ⟨fun h => (by cases h), fun hR => absurd hR.acct h2⟩
              | inr b =>
                simp only [w_some]
                exact ⟨fun _ => ⟨hs, hfn, hcs, hok, hw⟩, fun _ => trivial⟩
def changeP (o : SOrder) : Prop := o.phase = 2 ∧ ¬ pendP o ∧ o.asked = false ∧ o.version < 9223372036854775807
instance (o : SOrder) : Decidable (changeP o) := by unfold changeP; infer_instance
/-- Does a limit stand against what an account's cell is now? -/
def stopP (was now : SState) (a y : Int) : Prop :=
  againstP (ofC (lget was.cells (itn (a * was.symbols + y)))) (ofC (lget now.cells (itn (a * was.symbols + y)))) (lget was.limits (itn (a * was.symbols + y))) ∨
  capP (wholeZ (acctZ was.symbols was.cells a)) (wholeZ (acctZ was.symbols now.cells a)) (lget was.caps (itn a))
instance (s t : SState) (a y : Int) : Decidable (stopP s t a y) := by unfold stopP; infer_instance
/-- A state whose lists are short. -/
def shortP (s : SState) : Prop := s.orders.length < 999999 ∧ s.cells.length < 999999 ∧ s.limits.length < 999999 ∧ s.caps.length < 999999
theorem s_short (s : SState) : Wq (F_snaffleref10_Short s) fun b => b = true → shortP s := by
  unfold F_snaffleref10_Short shortP
  simp only [w_some, band_T, band_F, bor_T, bor_F, bnot_T, bnot_F, ilt_T, ilt_F, ile_T, ile_F, ieq_T, ieq_F, beq_T, beq_F, len]
  omega
def covX (a b : SExpo) : Prop := b.long ≤ a.long ∧ b.short ≤ a.short ∧ b.opn ≤ a.opn
instance (a b : SExpo) : Decidable (covX a b) := by unfold covX; infer_instance
theorem rd_in {α β : Type} (l : List α) {i : Nat} (h : i < l.length) (x y z : β) : cnd (ilt (i : Int) (len l)) (cnd (band (ile 0 (i : Int)) (ilt (i : Int) (len l))) x y) z = x := by
  rw [cnd_t (b := ilt _ _) (ilt_t (by unfold len; omega)), cnd_t (inb l i h)]
theorem rd_out {α β : Type} (l : List α) (x y : β) : cnd (ilt (l.length : Int) (len l)) x y = y := cnd_f (ilt_f (by unfold len; omega))
def putZ (n : Int) : Nat → List Int
  | 0 => []
  | k + 1 => (n / 256 ^ k % 256) :: putZ n k
theorem putZ_len (n : Int) : ∀ k, (putZ n k).length = k
  | 0 => rfl
  | k + 1 => by rw [putZ, List.length_cons, putZ_len n k]
def byteP (l : List Int) : Prop := ∀ x ∈ l, 0 ≤ x ∧ x ≤ 255
theorem putZ_byte (n : Int) : ∀ k, byteP (putZ n k)
  | 0 => by intro x hx; cases hx
  | k + 1 => by
    intro x hx
    rcases List.mem_cons.1 hx with rfl | hx
    · have h1 := Int.emod_nonneg (n / 256 ^ k) (b := 256) (by decide)
      have h2 := Int.emod_lt_of_pos (n / 256 ^ k) (b := 256) (by decide)
      omega
    · exact putZ_byte n k x hx
theorem byteP.app {a b : List Int} (h : byteP a) (k : byteP b) : byteP (a ++ b) := fun x hx => by
  rcases List.mem_append.1 hx with h1 | h1
  · exact h x h1
  · exact k x h1
theorem byteP.take {l : List Int} (h : byteP l) (n : Nat) : byteP (l.take n) := fun x hx => h x (List.mem_of_mem_take hx)
theorem byteP.get {l : List Int} (h : byteP l) {i : Nat} (hi : i < l.length) : 0 ≤ l[i] ∧ l[i] ≤ 255 := h _ (List.getElem_mem hi)
theorem byteP_flat {α : Type} {f : α → List Int} {l : List α} (h : ∀ x ∈ l, byteP (f x)) : byteP (l.flatMap f) := fun x hx => by
  obtain ⟨y, h1, h2⟩ := List.mem_flatMap.1 hx
  exact h y h1 x h2
theorem wr_u8 (n : Int) : wr .u8 n = n % 256 := by
  unfold wr IntKind.wrap
  simp [IntKind.bits, IntKind.signed]
theorem wr_u32 (n : Int) : wr .u32 n = n % 4294967296 := by
  unfold wr IntKind.wrap
  simp [IntKind.bits, IntKind.signed]
/-- A loop downwards. -/
theorem w_down {W X : Type} {step : Int × X → Option ((Int × X) ⊕ W)} {n : Nat} (hn : n < 999999) (J : Nat → X → Prop) (R : W → Prop)
    (h : ∀ i x, i < n → J (i + 1) x → Wq (step ((i : Int), x)) fun r => match r with | .inl (k, x') => k = (i : Int) - 1 ∧ J i x' | .inr w => R w)
    (he : ∀ x, J 0 x → Wq (step (-1, x)) fun r => match r with | .inl _ => False | .inr w => R w)
    (x : X) (hx : J n x) : Wq (iterN step LF ((n : Int) - 1, x)) R := by
  refine w_iter (fun v : Int × X => (v.1 + 1).toNat) (fun v : Int × X => ∃ i : Nat, v.1 = (i : Int) - 1 ∧ i ≤ n ∧ J i v.2) R ?_ LF _ (lt_LF (by simp only; omega)) ⟨n, rfl, Nat.le_refl _, hx⟩
  rintro ⟨k, y⟩ ⟨i, rfl, hi, hj⟩
  cases i with
  | zero =>
    refine (he y hj).mono fun r hr => ?_
    match r, hr with
    | .inl _, hr => exact hr.elim
    | .inr w, hr => exact hr
  | succ i =>
    have e : ((i + 1 : Nat) : Int) - 1 = (i : Int) := by omega
    rw [e]
    refine (h i y (by omega) hj).mono fun r hr => ?_
    match r, hr with
    | .inl (k, x'), hr =>
      obtain ⟨rfl, h2⟩ := hr
      exact ⟨⟨i, rfl, by omega, h2⟩, by simp only; omega⟩
    | .inr w, hr => exact hr
theorem wr_pred {i : Nat} (h : i < 1000000) : wr .i64 (isub (i : Int) 1) = (i : Int) - 1 := by
  unfold isub
  exact wr_in ⟨by omega, by omega⟩
theorem byte_of {n : Int} {i : Nat} (hi : i < 8) : ile 0 (wr .i64 (imul 8 (i : Int))) = true ∧ wr .u8 (ishr .i64 n (wr .i64 (imul 8 (i : Int)))) = n / 256 ^ i % 256 := by
  have h1 : wr .i64 (imul 8 (i : Int)) = ((8 * i : Nat) : Int) := by
    unfold imul
    rw [wr_small (by omega) (by omega)]; omega
  have h2 : min (((8 * i : Nat) : Int).toNat) (IntKind.bits .i64) = 8 * i := by
    simp only [IntKind.bits, Int.toNat_natCast]; omega
  rw [h1]
  refine ⟨ile_t (by omega), ?_⟩
  unfold ishr
  rw [h2, Int.pow_mul, wr_u8, Int.fdiv_eq_ediv_of_nonneg _ (Int.le_of_lt (Int.pow_pos (by decide)))]
  rfl
theorem len_lt {α : Type} {l : List α} {n : Nat} (h : l.length ≤ n) (hn : n < 68719476736) : ile (len l) 68719476736 = true := ile_t (by unfold len; omega)
theorem putZ_app_len (n : Int) (k : Nat) (a : List Int) : (a ++ putZ n k).length = a.length + k := by rw [List.length_append, putZ_len]
theorem s_put {n : Int} {acc : List Int} (k : Nat) (hk : k ≤ 8) (hl : acc.length < 1000000) : iterN (fun v : Int × List Int => L_row_put_int_6758 n v.1 v.2) LF ((k : Int) - 1, acc) = some (acc ++ putZ n k) := by
  refine Wq.eq (w_down (n := k) (by omega) (fun i x => x ++ putZ n i = acc ++ putZ n k ∧ x.length + i = acc.length + k) _ (fun i x hi hj => ?_) (fun x hj => ?_) acc ⟨rfl, rfl⟩)
  · obtain ⟨h1, h2⟩ := byte_of (n := n) (i := i) (by omega)
    simp only
    unfold L_row_put_int_6758
    rw [h2, cnd_t (ile_t (by omega)), cnd_t h1, cnd_t (len_lt (n := 1000100) (by simp only [lapp, List.length_append, List.length_cons, List.length_nil]; omega) (by decide)), w_some]
    refine ⟨wr_pred (by omega), ?_, ?_⟩
    · rw [← hj.1]
      show (x ++ [_]) ++ putZ n i = x ++ (_ :: putZ n i)
      rw [List.append_assoc]; rfl
    · simp only [lapp, List.length_append, List.length_cons, List.length_nil]; omega
  · simp only
    unfold L_row_put_int_6758
    rw [cnd_f (ile_f (by omega)), w_some]
    have := hj.1
    simpa [putZ] using this
theorem e_put_int {acc : List Int} (k : Nat) (h0 : 0 < k) (hk : k ≤ 8) {l : List Int} (hl : acc.length + 8 * l.length < 1000000) : F_row_put_int acc (k : Int) l = some (acc ++ l.flatMap fun n => putZ n k) := by
  have hn : l.length < 999999 := by omega
  refine Wq.eq ?_
  unfold F_row_put_int
  refine Wq.bind (Q := fun y => y = acc ++ l.flatMap fun n => putZ n k) ?_ fun y hy => (w_some _).2 hy
  refine w_for hn (fun i x => x = acc ++ (l.take i).flatMap (fun n => putZ n k) ∧ x.length = acc.length + k * i) _ (fun i x hi hj => ?_) (fun x hj => ?_) acc 0 (Nat.zero_le _) ⟨by simp, by simp⟩
  · simp only
    unfold L_row_put_int_26
    have hki : k * i ≤ 8 * i := Nat.mul_le_mul_right _ hk
    rw [rd_in l hi, lget_nat l i hi]
    have e : wr .i64 (isub (k : Int) 1) = (k : Int) - 1 := wr_pred (by omega)
    rw [e, s_put k hk (by omega), ob_some, w_some]
    refine ⟨wr_succ (by omega), ?_, ?_⟩
    · rw [List.take_succ_eq_append_getElem hi, List.flatMap_append, hj.1]
      simp
    · rw [putZ_app_len, hj.2, Nat.mul_add]; omega
  · simp only
    unfold L_row_put_int_26
    rw [rd_out, w_some, hj.1, List.take_length]
theorem e_put_int64 {acc : List Int} (k : Nat) (h0 : 0 < k) (hk : k ≤ 8) {l : List Int} (hl : acc.length + 8 * l.length < 1000000) : F_row_put_int64 acc (k : Int) l = some (acc ++ l.flatMap fun n => putZ n k) := e_put_int k h0 hk hl
abbrev B32 := BitVec 32
def hB (x : B32) : B32 := (x >>> 1) ^^^ (if x.getLsbD 0 then 0xedb88320#32 else 0#32)
def hN : Nat → B32 → B32
  | 0, x => x
  | n + 1, x => hN n (hB x)
theorem hB_xor (x y : B32) : hB (x ^^^ y) = hB x ^^^ hB y := by
  unfold hB
  rw [BitVec.ushiftRight_xor_distrib, BitVec.getLsbD_xor]
  cases x.getLsbD 0 <;> cases y.getLsbD 0 <;> simp [BitVec.xor_assoc]
  · rw [BitVec.xor_comm (y >>> 1)]
  · rw [← BitVec.xor_assoc (3988292384#32), BitVec.xor_comm (3988292384#32) (y >>> 1), BitVec.xor_assoc]; simp
theorem hN_xor : ∀ (n : Nat) (x y : B32), hN n (x ^^^ y) = hN n x ^^^ hN n y
  | 0, _, _ => rfl
  | n + 1, x, y => by rw [hN, hN, hN, hB_xor, hN_xor n]
theorem hB_shl {y : B32} (h : y.getLsbD 31 = false) : hB (y <<< 1) = y := by
  unfold hB
  have h0 : (y <<< 1).getLsbD 0 = false := by simp
  rw [h0]
  refine BitVec.eq_of_getLsbD_eq fun i hi => ?_
  simp only [BitVec.getLsbD_xor, BitVec.getLsbD_ushiftRight, BitVec.getLsbD_shiftLeft]
  by_cases h31 : i = 31
  · subst h31
    have : y[31] = false := by simpa using h
    simp [this]
  · have : 1 + i < 32 := by omega
    simp [this]
theorem hN_shl : ∀ (k : Nat) (y : B32), k ≤ 32 → (∀ j, 32 - k ≤ j → y.getLsbD j = false) → hN k (y <<< k) = y
  | 0, y, _, _ => by simp [hN]
  | k + 1, y, hk, h => by
    have e : y <<< (k + 1) = (y <<< k) <<< 1 := by rw [BitVec.shiftLeft_add]
    rw [hN, e, hB_shl, hN_shl k y (by omega) fun j hj => h j (by omega)]
    rw [BitVec.getLsbD_shiftLeft, h (31 - k) (by omega)]
    simp
theorem hN_add : ∀ (a b : Nat) (x : B32), hN (a + b) x = hN b (hN a x)
  | 0, b, x => by rw [Nat.zero_add]; rfl
  | a + 1, b, x => by rw [Nat.add_right_comm, hN, hN, hN_add a]
/-- A step of half a byte. -/
theorem hN_4 (x : B32) : hN 4 (x &&& 15#32) ^^^ (x >>> 4) = hN 4 x := by
  have hs := hN_shl 4 (x >>> 4) (by decide) fun j hj => by
    rw [BitVec.getLsbD_ushiftRight]; exact BitVec.getLsbD_of_ge _ _ (by omega)
  have e : x = (x &&& 15#32) ^^^ ((x >>> 4) <<< 4) := by
    refine BitVec.eq_of_getLsbD_eq fun i hi => ?_
    simp only [BitVec.getLsbD_xor, BitVec.getLsbD_and, BitVec.getLsbD_shiftLeft, BitVec.getLsbD_ushiftRight]
    by_cases h4 : i < 4
    · have h15 : (15#32).getLsbD i = true := by
        have : i = 0 ∨ i = 1 ∨ i = 2 ∨ i = 3 := by omega
        rcases this with rfl | rfl | rfl | rfl <;> rfl
      rw [h15]
      simp [h4]
    · have h15 : (15#32).getLsbD i = false := by
        have : (15#32) = BitVec.ofNat 32 15 := rfl
        rw [this, BitVec.getLsbD_ofNat]
        have : Nat.testBit 15 i = false := Nat.testBit_lt_two_pow (Nat.lt_of_lt_of_le (by decide : 15 < 2 ^ 4) (Nat.pow_le_pow_right (by decide) (by omega)))
        simp [this]
      have : 4 + (i - 4) = i := by omega
      rw [h15, this]
      simp [h4, hi]
  conv => rhs; rw [e, hN_xor, hs]
def ofB (b : Int) : B32 := BitVec.ofInt 32 b
def toI (x : B32) : Int := (x.toNat : Int)
theorem toI_rng (x : B32) : 0 ≤ toI x ∧ toI x < 4294967296 := by
  have := x.isLt
  unfold toI
  omega
theorem ofB_toI (x : B32) : ofB (toI x) = x := by
  apply BitVec.eq_of_toNat_eq
  unfold ofB toI
  rw [BitVec.toNat_ofInt]
  have := x.isLt
  omega
theorem toI_ofB {b : Int} (h1 : 0 ≤ b) (h2 : b < 4294967296) : toI (ofB b) = b := by
  unfold ofB toI
  rw [BitVec.toNat_ofInt]
  omega
theorem wr_toI (x : B32) : wr .u32 (toI x) = toI x := by
  have := toI_rng x
  rw [wr_u32]; omega
theorem xor_I (x y : B32) : wr .u32 (ixor .u32 (toI x) (toI y)) = toI (x ^^^ y) := by
  have : ixor .u32 (toI x) (toI y) = toI (x ^^^ y) := by
    show ((BitVec.ofInt 32 (toI x) ^^^ BitVec.ofInt 32 (toI y)).toNat : Int) = _
    have h1 := ofB_toI x
    have h2 := ofB_toI y
    unfold ofB at h1 h2
    rw [h1, h2]; rfl
  rw [this, wr_toI]
theorem and_I (x y : B32) : wr .u32 (iand .u32 (toI x) (toI y)) = toI (x &&& y) := by
  have : iand .u32 (toI x) (toI y) = toI (x &&& y) := by
    show ((BitVec.ofInt 32 (toI x) &&& BitVec.ofInt 32 (toI y)).toNat : Int) = _
    have h1 := ofB_toI x
    have h2 := ofB_toI y
    unfold ofB at h1 h2
    rw [h1, h2]; rfl
  rw [this, wr_toI]
theorem shr_I (x : B32) (k : Nat) (hk : k ≤ 32) : ishr .u32 (toI x) (k : Int) = toI (x >>> k) := by
  unfold ishr toI
  have : min ((k : Int).toNat) (IntKind.bits .u32) = k := by simp only [IntKind.bits, Int.toNat_natCast]; omega
  rw [this, Int.fdiv_eq_ediv_of_nonneg _ (Int.le_of_lt (Int.pow_pos (by decide))), BitVec.toNat_ushiftRight, Nat.shiftRight_eq_div_pow]
  simp
theorem ofB_byte {b : Int} (h1 : 0 ≤ b) (h2 : b ≤ 255) : wr .u32 b = toI (ofB b) := by
  rw [toI_ofB h1 (by omega), wr_u32]; omega
theorem lsb_I (x : B32) : (toI x % 2 = 1) ↔ x.getLsbD 0 = true := by
  unfold toI
  rw [BitVec.getLsbD, Nat.testBit_zero]
  simp only [decide_eq_true_eq]
  omega
theorem e_crc_step (x : B32) : F_crc_step (toI x) = some (toI (hN 4 x)) := by
  refine Wq.eq ?_
  unfold F_crc_step
  refine Wq.bind (Q := fun y => y = toI (hN 4 x)) ?_ fun y hy => (w_some _).2 hy
  refine w_for (n := 4) (by decide) (fun i v => v = toI (hN i x)) _ (fun i v hi hj => ?_) (fun v hj => ?_) _ 0 (by decide) rfl
  · subst hj
    simp only
    unfold L_crc_step_26
    rw [cnd_t (ilt_t (by omega))]
    have e1 : (1 : Int) = toI 1#32 := rfl
    have e15 : (3988292384 : Int) = toI 3988292384#32 := rfl
    have e2 : ishr .u32 (toI (hN i x)) 1 = toI (hN i x >>> 1) := shr_I _ 1 (by decide)
    rw [e2, e15, xor_I]
    have hb : wr .u32 (iand .u32 (toI (hN i x)) 1) = toI (hN i x &&& 1#32) := by conv => lhs; rw [e1, and_I]
    rw [hb, hN_add i 1]
    have hl : (ieq (toI (hN i x &&& 1#32)) 1 = true) ↔ (hN i x).getLsbD 0 = true := by
      rw [ieq_T, ← lsb_I]
      unfold toI
      have : (hN i x &&& 1#32).toNat = (hN i x).toNat % 2 := by
        rw [BitVec.toNat_and]
        exact Nat.and_two_pow_sub_one_eq_mod _ 1
      rw [this]; omega
    cases hc : ieq (toI (hN i x &&& 1#32)) 1 with
    | true =>
      rw [cnd_true, w_some]
      refine ⟨wr_succ (by omega), ?_⟩
      show _ = toI (hB (hN i x))
      unfold hB
      rw [if_pos (hl.1 hc)]
    | false =>
      rw [cnd_false, w_some]
      refine ⟨wr_succ (by omega), ?_⟩
      show _ = toI (hB (hN i x))
      unfold hB
      rw [if_neg (fun h => by rw [hl.2 h] at hc; cases hc), BitVec.xor_zero]
  · subst hj
    simp only
    unfold L_crc_step_26
    rw [cnd_f (ilt_f (by omega)), w_some]
def ones : B32 := BitVec.allOnes 32
/-- The state behind bytes. -/
def runB (n : B32) (l : List Int) : B32 := l.foldl (fun n b => hN 8 (n ^^^ ofB b)) n
def crcZ (l : List Int) : Int := toI (ones ^^^ runB ones l)
theorem runB_app (n : B32) (a b : List Int) : runB n (a ++ b) = runB (runB n a) b := List.foldl_append
theorem e_crc_Sum {l : List Int} (hl : l.length < 999999) (hb : byteP l) : F_crc_Sum l = some (crcZ l) := by
  refine Wq.eq ?_
  unfold F_crc_Sum F_crc_More
  have e0 : (4294967295 : Int) = toI ones := rfl
  have e00 : (0 : Int) = toI 0#32 := rfl
  have e15 : (15 : Int) = toI 15#32 := rfl
  refine Wq.bind (Q := fun y => y = crcZ l) (Wq.bind (Q := fun y => y = toI (runB ones l)) ?_ fun y hy => ?_) fun y hy => (w_some _).2 hy
  · have hi0 : wr .u32 (ixor .u32 4294967295 0) = toI ones := by
      conv => lhs; rw [e0, e00, xor_I]
      simp
    rw [hi0]
    refine w_for hl (fun i v => v = toI (runB ones (l.take i))) _ (fun i v hi hj => ?_) (fun v hj => ?_) _ 0 (Nat.zero_le _) rfl
    · subst hj
      simp only
      unfold L_crc_More_58
      obtain ⟨b1, b2⟩ := hb.get hi
      have e4 : ∀ x : B32, ishr .u32 (toI x) 4 = toI (x >>> 4) := fun x => shr_I x 4 (by decide)
      rw [rd_in l hi, lget_nat l i hi, ofB_byte b1 b2, xor_I, e15, and_I, e_crc_step, ob_some, e4, xor_I, hN_4, and_I, e_crc_step, ob_some, e4, xor_I, hN_4, w_some]
      refine ⟨wr_succ (by omega), ?_⟩
      rw [List.take_succ_eq_append_getElem hi, runB_app, ← hN_add]
      rfl
    · subst hj
      simp only
      unfold L_crc_More_58
      rw [rd_out, w_some, List.take_length]
  · subst hy
    rw [w_some]
    conv => lhs; rw [e0, xor_I]
    rfl
/-- A sum's bytes, the lowest first. -/
def tailZ (n : Int) : List Int := [n % 256, n / 256 % 256, n / 65536 % 256, n / 16777216 % 256]
def bitZ (b : Bool) : Int := if b then 1 else 0
theorem e_row_bit (b : Bool) : F_row_bit b = some (bitZ b) := by cases b <;> rfl
def p8 (l : List Int) : List Int := l.flatMap fun n => putZ n 8
def p1 (l : List Int) : List Int := l.flatMap fun n => putZ n 1
theorem flat_length {α β : Type} {f : α → List β} {m : Nat} (h : ∀ x, (f x).length = m) : ∀ l : List α, (l.flatMap f).length = m * l.length
  | [] => rfl
  | x :: l => by rw [List.flatMap_cons, List.length_append, h, flat_length h l, List.length_cons, Nat.mul_add, Nat.mul_one, Nat.add_comm]
theorem p8_len (l : List Int) : (p8 l).length = 8 * l.length := flat_length (fun x => putZ_len x 8) l
theorem p1_len (l : List Int) : (p1 l).length = 1 * l.length := flat_length (fun x => putZ_len x 1) l
theorem p8_byte (l : List Int) : byteP (p8 l) := byteP_flat fun x _ => putZ_byte x 8
theorem p1_byte (l : List Int) : byteP (p1 l) := byteP_flat fun x _ => putZ_byte x 1
def orderB (o : SOrder) : List Int := p8 [o.id] ++ (p1 [o.account, o.symbol, o.side, o.phase] ++ (p8 [o.qty, o.price, o.filled, o.newQty, o.newPrice, o.version] ++ p1 [bitZ o.asked]))
def cellB (c : SCell) : List Int := p8 [c.pos]
def limB (l : SExpo) : List Int := p8 [l.long, l.short, l.opn]
def magic : List Int := [115, 110, 97, 102]
def headB (s : SState) : List Int := magic ++ (p1 [s.accounts, s.symbols, bitZ s.kill, len s.orders] ++ p8 [s.last, s.seq, s.lsn])
def bodyB (s : SState) : List Int := headB s ++ (s.orders.flatMap orderB ++ (s.cells.flatMap cellB ++ (s.limits.flatMap limB ++ p8 s.caps)))
def encZ (s : SState) : List Int := bodyB s ++ tailZ (crcZ (bodyB s))
theorem orderB_len (o : SOrder) : (orderB o).length = 61 := by simp [orderB, p8_len, p1_len]
theorem cellB_len (c : SCell) : (cellB c).length = 8 := by simp [cellB, p8_len]
theorem limB_len (c : SExpo) : (limB c).length = 24 := by simp [limB, p8_len]
theorem headB_len (s : SState) : (headB s).length = 32 := by simp [headB, magic, p8_len, p1_len]
theorem bodyB_len (s : SState) : (bodyB s).length = 32 + 61 * s.orders.length + 8 * s.cells.length + 24 * s.limits.length + 8 * s.caps.length := by
  simp only [bodyB, List.length_append, headB_len, flat_length orderB_len, flat_length cellB_len, flat_length limB_len, p8_len]
  omega
theorem encZ_len (s : SState) : (encZ s).length = 36 + 61 * s.orders.length + 8 * s.cells.length + 24 * s.limits.length + 8 * s.caps.length := by
  simp only [encZ, List.length_append, bodyB_len, tailZ, List.length_cons, List.length_nil]
  omega
theorem magic_byte : byteP magic := fun x hx => by
  simp only [magic, List.mem_cons, List.not_mem_nil, or_false] at hx
  rcases hx with rfl | rfl | rfl | rfl <;> decide
theorem orderB_byte (o : SOrder) : byteP (orderB o) := (p8_byte _).app ((p1_byte _).app ((p8_byte _).app (p1_byte _)))
theorem bodyB_byte (s : SState) : byteP (bodyB s) :=
  (magic_byte.app ((p1_byte _).app (p8_byte _))).app ((byteP_flat fun o _ => orderB_byte o).app ((byteP_flat fun c _ => p8_byte _).app ((byteP_flat fun c _ => p8_byte _).app (p8_byte _))))
theorem e_p8 {acc l : List Int} (h : acc.length + 8 * l.length < 1000000) : F_row_put_int64 acc 8 l = some (acc ++ p8 l) := e_put_int64 8 (by decide) (by decide) h
theorem e_p1 {acc l : List Int} (h : acc.length + 8 * l.length < 1000000) : F_row_put_int acc 1 l = some (acc ++ p1 l) := e_put_int 1 (by decide) (by decide) h
/-- A right state has few of all. -/
theorem RightS.few {s : SState} (h : RightS s) : s.orders.length ≤ 64 ∧ s.cells.length ≤ 64 ∧ s.limits.length = s.cells.length ∧ s.caps.length = s.accounts.toNat ∧ s.accounts.toNat ≤ 8 ∧ (s.cells.length : Int) = s.accounts * s.symbols ∧ (1 ≤ s.accounts ∧ s.accounts ≤ 8) ∧ (1 ≤ s.symbols ∧ s.symbols ≤ 8) := by
  obtain ⟨h1, h2, h3, h4⟩ := h.sized.lens
  have := h.sized.1
  exact ⟨h4, h1, h2, h3, by omega, h.sized.2.2.1, this, h.sized.2.1⟩
theorem e_row_size {a b n : Int} (ha : 1 ≤ a ∧ a ≤ 8) (hb : 1 ≤ b ∧ b ≤ 8) (hn : 0 ≤ n ∧ n ≤ 255) : F_row_size a b n = some (36 + n * 61 + a * b * 32 + a * 8) := by
  unfold F_row_size iadd imul
  have m := mul_le64 (a := a) (b := b) (by omega) (by omega) (by omega) (by omega)
  rw [wr_small (n := n * 61) (by omega) (by omega), wr_small (n := 32 + n * 61) (by omega) (by omega), wr_small (n := a * b) (by omega) (by omega), wr_small (n := a * b * 32) (by omega) (by omega), wr_small (n := 32 + n * 61 + a * b * 32) (by omega) (by omega), wr_small (n := a * 8) (by omega) (by omega), wr_small (n := 32 + n * 61 + a * b * 32 + a * 8) (by omega) (by omega), wr_small (by omega) (by omega)]
  congr 1; omega
theorem e_row_Size {s : SState} (hr : Ok_state s) (hsh : shortP s) (h : RightS s) : F_row_Size s = some (len (encZ s)) := by
  refine Wq.eq ?_
  unfold F_row_Size
  refine (s_book_Right s hr hsh.1 hsh.2.2.1 hsh.2.2.2).bind fun b hb => ?_
  obtain ⟨f1, f2, f3, f4, f5, f6, f7, f8⟩ := h.few
  rw [hb.2 h, bnot_true, cnd_false, e_row_size f7 f8 (by unfold len; omega), ob_some, w_some]
  unfold len
  rw [encZ_len, ← f6]
  omega
theorem e_row_Size_bad {s : SState} (hr : Ok_state s) (hsh : shortP s) (h : ¬ RightS s) : F_row_Size s = some 0 := by
  refine Wq.eq ?_
  unfold F_row_Size
  refine (s_book_Right s hr hsh.1 hsh.2.2.1 hsh.2.2.2).bind fun b hb => ?_
  have : b = false := by cases b with
    | false => rfl
    | true => exact absurd (hb.1 rfl) h
  subst this
  rw [bnot_false, cnd_true, w_some]
theorem byte32 {n : Int} {i : Nat} (hi : i < 4) : ile 0 (wr .i64 (imul 8 (i : Int))) = true ∧ wr .u8 (ishr .u32 n (wr .i64 (imul 8 (i : Int)))) = n / 256 ^ i % 256 := by
  have h1 : wr .i64 (imul 8 (i : Int)) = ((8 * i : Nat) : Int) := by
    unfold imul
    rw [wr_small (by omega) (by omega)]; omega
  have h2 : min (((8 * i : Nat) : Int).toNat) (IntKind.bits .u32) = 8 * i := by
    simp only [IntKind.bits, Int.toNat_natCast]; omega
  rw [h1]
  refine ⟨ile_t (by omega), ?_⟩
  unfold ishr
  rw [h2, Int.pow_mul, wr_u8, Int.fdiv_eq_ediv_of_nonneg _ (Int.le_of_lt (Int.pow_pos (by decide)))]
  rfl
theorem tail_get (n : Int) {i : Nat} (hi : i < 4) : (tailZ n)[i]'(by simpa [tailZ] using hi) = n / 256 ^ i % 256 := by
  have : i = 0 ∨ i = 1 ∨ i = 2 ∨ i = 3 := by omega
  rcases this with rfl | rfl | rfl | rfl
  · have : (256 : Int) ^ 0 = 1 := rfl
    simp only [tailZ, this, List.getElem_cons_zero]; omega
  · rfl
  · rfl
  · rfl
theorem tail_take (n : Int) {i : Nat} (hi : i < 4) (acc : List Int) : acc ++ (tailZ n).take i ++ [n / 256 ^ i % 256] = acc ++ (tailZ n).take (i + 1) := by
  rw [List.take_succ_eq_append_getElem (by simpa [tailZ] using hi), tail_get n hi, List.append_assoc]
theorem e_row_Encode {s : SState} (hr : Ok_state s) (hsh : shortP s) (h : RightS s) : F_row_Encode s = some (encZ s, 0) := by
  refine Wq.eq ?_
  obtain ⟨f1, f2, f3, f4, f5, f6, f7, f8⟩ := h.few
  have hel := encZ_len s
  unfold F_row_Encode
  have hz : ieq (len (encZ s)) 0 = false := by rw [ieq_F]; unfold len; omega
  have hm : lapp (lrep Int 0) (s2u [UInt8.ofNat 115, UInt8.ofNat 110, UInt8.ofNat 97, UInt8.ofNat 102]) = magic := by decide
  rw [e_row_Size hr hsh h, ob_some, hz, cnd_false, cnd_t (band_t (ile_t (by unfold len; omega)) (ile_t (by unfold len; omega))), e_row_bit, ob_some, hm, e_p1 (by simp [magic]), ob_some,
    e_p8 (by simp [magic, p1_len]), ob_some]
  have hhead : magic ++ p1 [s.accounts, s.symbols, bitZ s.kill, len s.orders] ++ p8 [s.last, s.seq, s.lsn] = headB s := by rw [headB, List.append_assoc]
  rw [hhead]
  have hl0 := headB_len s
  refine Wq.bind (Q := fun y => y = headB s ++ s.orders.flatMap orderB) ?_ fun y hy => ?_
  · refine w_for (n := s.orders.length) (by omega) (fun i x => x = headB s ++ (s.orders.take i).flatMap orderB) _ (fun i x hi hj => ?_) (fun x hj => ?_) _ 0 (Nat.zero_le _) (by simp)
    · simp only
      unfold L_row_Encode_1018
      have hx : x.length = 32 + 61 * i := by
        rw [hj, List.length_append, hl0, flat_length orderB_len, List.length_take]; omega
      rw [rd_in s.orders hi, lget_nat _ i hi, e_p8 (by simp; omega), ob_some, e_p1 (by simp [p8_len]; omega), ob_some, e_p8 (by simp [p8_len, p1_len]; omega), ob_some, e_row_bit, ob_some, e_p1 (by simp [p8_len, p1_len]; omega), ob_some, w_some]
      refine ⟨wr_succ (by omega), ?_⟩
      rw [List.take_succ_eq_append_getElem hi, List.flatMap_append, hj]
      simp [orderB]
    · simp only
      unfold L_row_Encode_1018
      rw [rd_out, w_some, hj, List.take_length]
  subst hy
  refine Wq.bind (Q := fun y => y = headB s ++ s.orders.flatMap orderB ++ s.cells.flatMap cellB) ?_ fun y hy => ?_
  · refine w_for (n := s.cells.length) (by omega) (fun i x => x = headB s ++ s.orders.flatMap orderB ++ (s.cells.take i).flatMap cellB) _ (fun i x hi hj => ?_) (fun x hj => ?_) _ 0 (Nat.zero_le _) (by simp)
    · simp only
      unfold L_row_Encode_2042
      have hx : x.length = 32 + 61 * s.orders.length + 8 * i := by
        rw [hj, List.length_append, List.length_append, hl0, flat_length orderB_len, flat_length cellB_len, List.length_take]; omega
      rw [rd_in s.cells hi, lget_nat _ i hi, e_p8 (by simp; omega), ob_some, w_some]
      refine ⟨wr_succ (by omega), ?_⟩
      rw [List.take_succ_eq_append_getElem hi, List.flatMap_append, hj]
      simp [cellB]
    · simp only
      unfold L_row_Encode_2042
      rw [rd_out, w_some, hj, List.take_length]
  subst hy
  refine Wq.bind (Q := fun y => y = headB s ++ s.orders.flatMap orderB ++ s.cells.flatMap cellB ++ s.limits.flatMap limB) ?_ fun y hy => ?_
  · refine w_for (n := s.limits.length) (by omega) (fun i x => x = headB s ++ s.orders.flatMap orderB ++ s.cells.flatMap cellB ++ (s.limits.take i).flatMap limB) _ (fun i x hi hj => ?_) (fun x hj => ?_) _ 0 (Nat.zero_le _) (by simp)
    · simp only
      unfold L_row_Encode_4090
      have hx : x.length = 32 + 61 * s.orders.length + 8 * s.cells.length + 24 * i := by
        rw [hj, List.length_append, List.length_append, List.length_append, hl0, flat_length orderB_len, flat_length cellB_len, flat_length limB_len, List.length_take]; omega
      rw [rd_in s.limits hi, lget_nat _ i hi, e_p8 (by simp; omega), ob_some, w_some]
      refine ⟨wr_succ (by omega), ?_⟩
      rw [List.take_succ_eq_append_getElem hi, List.flatMap_append, hj]
      simp [limB]
    · simp only
      unfold L_row_Encode_4090
      rw [rd_out, w_some, hj, List.take_length]
  subst hy
  have hbl := bodyB_len s
  have hb : headB s ++ s.orders.flatMap orderB ++ s.cells.flatMap cellB ++ s.limits.flatMap limB ++ p8 s.caps = bodyB s := by simp [bodyB]
  rw [e_p8 (by
    have := congrArg List.length hb
    rw [List.length_append, p8_len] at this
    omega), ob_some, hb, e_crc_Sum (by omega) (bodyB_byte s), ob_some]
  refine Wq.bind (Q := fun y => y = encZ s) ?_ fun y hy => by rw [w_some, hy]
  refine w_for (n := 4) (by decide) (fun i x => x = bodyB s ++ (tailZ (crcZ (bodyB s))).take i) _ (fun i x hi hj => ?_) (fun x hj => ?_) _ 0 (by decide) (by simp)
  · simp only
    unfold L_row_Encode_32762
    obtain ⟨q1, q2⟩ := byte32 (n := crcZ (bodyB s)) hi
    have hx : x.length ≤ (bodyB s).length + 4 := by
      rw [hj, List.length_append, List.length_take]; omega
    rw [cnd_t (ilt_t (by omega)), cnd_t q1, q2, cnd_t (len_lt (n := 1000000) (by simp [lapp]; omega) (by decide)), w_some]
    refine ⟨wr_succ (by omega), ?_⟩
    rw [hj]
    exact tail_take _ hi _
  · simp only
    unfold L_row_Encode_32762
    rw [cnd_f (ilt_f (by omega)), w_some, hj]
    rfl
theorem e_row_Encode_bad {s : SState} (hr : Ok_state s) (hsh : shortP s) (h : ¬ RightS s) : F_row_Encode s = some ([], 1) := by
  unfold F_row_Encode
  rw [e_row_Size_bad hr hsh h, ob_some]
  rfl
theorem p1_cons (n : Int) (l : List Int) : p1 (n :: l) = p1 [n] ++ p1 l := by simp [p1]
theorem p1_one (n : Int) : p1 [n] = [wr .u8 n] := by
  rw [wr_u8]
  show [n / 256 ^ 0 % 256] = _
  have : (256 : Int) ^ 0 = 1 := rfl
  rw [this]
  congr 1
  omega
theorem p1_4 (a b c d : Int) : p1 [a, b, c, d] = [wr .u8 a, wr .u8 b, wr .u8 c, wr .u8 d] := by
  rw [p1_cons, p1_cons b, p1_cons c, p1_one, p1_one, p1_one, p1_one]; rfl
theorem wr_byte {n : Int} (h : 0 ≤ n ∧ n ≤ 255) : wr .i64 n = n := wr_small h.1 (by omega)
def b1 (n : Int) : Prop := 0 ≤ n ∧ n ≤ 255
/-- Numbers of an order that have one byte. -/
def b1O (o : SOrder) : Prop := Ok_order o ∧ b1 o.account ∧ b1 o.symbol ∧ b1 o.side ∧ b1 o.phase
theorem bitZ_b1 (a : Bool) : b1 (bitZ a) := by cases a <;> (unfold b1 bitZ; decide)
/-- Numbers of a state that have one byte. -/
structure B1S (s : SState) : Prop where
  ok : Ok_state s
  acc : b1 s.accounts
  sym : b1 s.symbols
  many : b1 (len s.orders)
  ords : ∀ o ∈ s.orders, b1O o
theorem enc_head (s : SState) : ∃ r, encZ s = [115, 110, 97, 102, wr .u8 s.accounts, wr .u8 s.symbols, wr .u8 (bitZ s.kill), wr .u8 (len s.orders)] ++ r := by
  refine ⟨p8 [s.last, s.seq, s.lsn] ++ (s.orders.flatMap orderB ++ (s.cells.flatMap cellB ++ (s.limits.flatMap limB ++ p8 s.caps))) ++ tailZ (crcZ (bodyB s)), ?_⟩
  unfold encZ
  conv => lhs; arg 1; rw [bodyB, headB, p1_4, magic]
  simp
theorem b1_wr {n : Int} (h : b1 n) : wr .u8 n = n := by
  unfold b1 at h
  rw [wr_u8, Int.emod_eq_of_lt h.1 (by omega)]
theorem right_b1 {s : SState} (hr : Ok_state s) (h : RightS s) : B1S s := by
  obtain ⟨f1, f2, f3, f4, f5, f6, f7, f8⟩ := h.few
  refine ⟨hr, ⟨by omega, by omega⟩, ⟨by omega, by omega⟩, ⟨by unfold len; omega, by unfold len; omega⟩, fun o ho => ?_⟩
  obtain ⟨hp, _, _, _⟩ := h.fine.ords o ho
  have hb := hp.1
  unfold begunP at hb
  have hph : o.phase = 1 ∨ o.phase = 2 ∨ o.phase = 3 := by
    have := hp.2.2.2.2.2
    revert this
    by_cases q1 : o.phase = 1
    · exact fun _ => .inl q1
    · by_cases q2 : o.phase = 2
      · exact fun _ => .inr (.inl q2)
      · intro this
        have : o.phase = 3 := by
          simp_all
        exact .inr (.inr this)
  exact ⟨hr.orders.1 o ho, ⟨by omega, by omega⟩, ⟨by omega, by omega⟩, ⟨by omega, by omega⟩, ⟨by omega, by omega⟩⟩
def nilD {τ : Type} [DecidableEq τ] (n : Int) (f : Bool → Option τ) : Option τ := if n = 0 then (if f true = f false then f true else none) else f false
theorem nilq_eq {τ : Type} [DecidableEq τ] (n : Int) (f : Bool → Option τ) : nilq n f = nilD n f := by
  unfold nilq nilD
  by_cases h : n = 0
  · rw [if_pos h, if_pos h]
    by_cases h2 : f true = f false
    · rw [if_pos h2, if_pos h2]
    · rw [if_neg h2, if_neg h2]
  · rw [if_neg h, if_neg h]
def F_slices_Clone_api_Order_d (x0 : (List SOrder)) : Option ((List SOrder)) := nilD (len x0) fun y0 ↦ cnd (beq y0 true) (some []) (cnd (ile (len x0) 68719476736) (some x0) none)
theorem F_slices_Clone_api_Order_d_eq : F_slices_Clone_api_Order = F_slices_Clone_api_Order_d := by
  funext a0
  unfold F_slices_Clone_api_Order F_slices_Clone_api_Order_d
  simp only [nilq_eq]
def F_slices_Clone_api_Cell_d (x0 : (List SCell)) : Option ((List SCell)) := nilD (len x0) fun y0 ↦ cnd (beq y0 true) (some []) (cnd (ile (len x0) 68719476736) (some x0) none)
theorem F_slices_Clone_api_Cell_d_eq : F_slices_Clone_api_Cell = F_slices_Clone_api_Cell_d := by
  funext a0
  unfold F_slices_Clone_api_Cell F_slices_Clone_api_Cell_d
  simp only [nilq_eq]
def F_slices_Clone_api_Expo_d (x0 : (List SExpo)) : Option ((List SExpo)) := nilD (len x0) fun y0 ↦ cnd (beq y0 true) (some []) (cnd (ile (len x0) 68719476736) (some x0) none)
theorem F_slices_Clone_api_Expo_d_eq : F_slices_Clone_api_Expo = F_slices_Clone_api_Expo_d := by
  funext a0
  unfold F_slices_Clone_api_Expo F_slices_Clone_api_Expo_d
  simp only [nilq_eq]
def F_slices_Clone_int64_d (x0 : (List Int)) : Option ((List Int)) := nilD (len x0) fun y0 ↦ cnd (beq y0 true) (some []) (cnd (ile (len x0) 68719476736) (some x0) none)
theorem F_slices_Clone_int64_d_eq : F_slices_Clone_int64 = F_slices_Clone_int64_d := by
  funext a0
  unfold F_slices_Clone_int64 F_slices_Clone_int64_d
  simp only [nilq_eq]
def F_book_Do_d (x0 : SState) (x1 : SRec) : Option (SState × Int) := obind (F_num_Add x0.lsn 1) fun y0 ↦ obind (cnd (bnot (bor (bnot (ieq y0.snd 0)) (ile 1000000000 x0.lsn))) (F_rec_Right x1) (some false)) fun y1 ↦ obind (cnd (bnot (bor (bor (bnot (ieq y0.snd 0)) (ile 1000000000 x0.lsn)) (bnot y1))) (F_book_Right x0) (some false)) fun y2 ↦ cnd (bor (bor (bor (bnot (ieq y0.snd 0)) (ile 1000000000 x0.lsn)) (bnot y1)) (bnot y2)) (some (x0, 1)) (obind (F_slices_Clone_api_Order_d x0.orders) fun y3 ↦ obind (F_slices_Clone_api_Cell_d x0.cells) fun y4 ↦ obind (F_slices_Clone_api_Expo_d x0.limits) fun y5 ↦ obind (F_slices_Clone_int64_d x0.caps) fun y6 ↦ cnd (ieq x1.kind 1) (obind (F_order_Begin x1) fun y7 ↦ cnd (ile x1.order x0.last) (cnd (ile x1.order x0.last) (some (x0, 1)) (cnd x0.kill (some (x0, 5)) (cnd (ieq (len y3) 64) (some (x0, 6)) (obind (F_slices_Clone_api_Order_d y3) fun y8 ↦ obind (F_slices_Clone_api_Cell_d y4) fun y9 ↦ obind (F_slices_Clone_api_Expo_d y5) fun y10 ↦ obind (F_slices_Clone_int64_d y6) fun y11 ↦ obind (F_book_ledger_cellOf (SState.mk x0.accounts x0.symbols y3 y4 y5 y6 x0.kill x0.last x0.seq x0.lsn) y7.fst.account y7.fst.symbol) fun y12 ↦ cnd (band (ile 0 y12) (ilt y12 (len y4))) (obind (F_cell_Come (lget y4 (itn y12)) y7.fst) fun y13 ↦ cnd (bnot (ieq y13.snd 0)) (some (x0, 3)) (cnd (ile (len (lapp y3 [y7.fst])) 68719476736) (obind (F_book_ledger_bears (SState.mk x0.accounts x0.symbols (lapp y3 [y7.fst]) (lset y4 (itn y12) y13.fst) y5 y6 x0.kill y7.fst.id x0.seq x0.lsn) (SState.mk x0.accounts x0.symbols y8 y9 y10 y11 x0.kill x0.last x0.seq x0.lsn) y7.fst.account y7.fst.symbol) fun y14 ↦ cnd (bnot (ieq y14 0)) (some (x0, y14)) (some (SState.mk x0.accounts x0.symbols (lapp y3 [y7.fst]) (lset y4 (itn y12) y13.fst) y5 y6 x0.kill y7.fst.id x0.seq (wr IntKind.i64 (iadd x0.lsn 1)), 0))) none)) none)))) (cnd (ile x0.accounts x1.account) (cnd (ile x0.accounts x1.account) (some (x0, 1)) (cnd x0.kill (some (x0, 5)) (cnd (ieq (len y3) 64) (some (x0, 6)) (obind (F_slices_Clone_api_Order_d y3) fun y15 ↦ obind (F_slices_Clone_api_Cell_d y4) fun y16 ↦ obind (F_slices_Clone_api_Expo_d y5) fun y17 ↦ obind (F_slices_Clone_int64_d y6) fun y18 ↦ obind (F_book_ledger_cellOf (SState.mk x0.accounts x0.symbols y3 y4 y5 y6 x0.kill x0.last x0.seq x0.lsn) y7.fst.account y7.fst.symbol) fun y19 ↦ cnd (band (ile 0 y19) (ilt y19 (len y4))) (obind (F_cell_Come (lget y4 (itn y19)) y7.fst) fun y20 ↦ cnd (bnot (ieq y20.snd 0)) (some (x0, 3)) (cnd (ile (len (lapp y3 [y7.fst])) 68719476736) (obind (F_book_ledger_bears (SState.mk x0.accounts x0.symbols (lapp y3 [y7.fst]) (lset y4 (itn y19) y20.fst) y5 y6 x0.kill y7.fst.id x0.seq x0.lsn) (SState.mk x0.accounts x0.symbols y15 y16 y17 y18 x0.kill x0.last x0.seq x0.lsn) y7.fst.account y7.fst.symbol) fun y21 ↦ cnd (bnot (ieq y21 0)) (some (x0, y21)) (some (SState.mk x0.accounts x0.symbols (lapp y3 [y7.fst]) (lset y4 (itn y19) y20.fst) y5 y6 x0.kill y7.fst.id x0.seq (wr IntKind.i64 (iadd x0.lsn 1)), 0))) none)) none)))) (cnd (ile x0.symbols x1.symbol) (some (x0, 1)) (cnd x0.kill (some (x0, 5)) (cnd (ieq (len y3) 64) (some (x0, 6)) (obind (F_slices_Clone_api_Order_d y3) fun y22 ↦ obind (F_slices_Clone_api_Cell_d y4) fun y23 ↦ obind (F_slices_Clone_api_Expo_d y5) fun y24 ↦ obind (F_slices_Clone_int64_d y6) fun y25 ↦ obind (F_book_ledger_cellOf (SState.mk x0.accounts x0.symbols y3 y4 y5 y6 x0.kill x0.last x0.seq x0.lsn) y7.fst.account y7.fst.symbol) fun y26 ↦ cnd (band (ile 0 y26) (ilt y26 (len y4))) (obind (F_cell_Come (lget y4 (itn y26)) y7.fst) fun y27 ↦ cnd (bnot (ieq y27.snd 0)) (some (x0, 3)) (cnd (ile (len (lapp y3 [y7.fst])) 68719476736) (obind (F_book_ledger_bears (SState.mk x0.accounts x0.symbols (lapp y3 [y7.fst]) (lset y4 (itn y26) y27.fst) y5 y6 x0.kill y7.fst.id x0.seq x0.lsn) (SState.mk x0.accounts x0.symbols y22 y23 y24 y25 x0.kill x0.last x0.seq x0.lsn) y7.fst.account y7.fst.symbol) fun y28 ↦ cnd (bnot (ieq y28 0)) (some (x0, y28)) (some (SState.mk x0.accounts x0.symbols (lapp y3 [y7.fst]) (lset y4 (itn y26) y27.fst) y5 y6 x0.kill y7.fst.id x0.seq (wr IntKind.i64 (iadd x0.lsn 1)), 0))) none)) none)))))) (cnd (ieq x1.kind 2) (obind (F_book_Find (SState.mk x0.accounts x0.symbols y3 y4 y5 y6 x0.kill x0.last x0.seq x0.lsn) x1.order) fun y29 ↦ cnd (ieq y29 (-1)) (some (x0, 7)) (cnd (band (ile 0 y29) (ilt y29 (len y3))) (obind (F_order_Change (lget y3 (itn y29)) x1.qty x1.price) fun y30 ↦ cnd (bnot (ieq y30.snd 0)) (some (x0, 8)) (cnd x0.kill (some (x0, 5)) (obind (F_slices_Clone_api_Order_d y3) fun y31 ↦ obind (F_slices_Clone_api_Cell_d y4) fun y32 ↦ obind (F_slices_Clone_api_Expo_d y5) fun y33 ↦ obind (F_slices_Clone_int64_d y6) fun y34 ↦ obind (F_book_ledger_cellOf (SState.mk x0.accounts x0.symbols y3 y4 y5 y6 x0.kill x0.last x0.seq x0.lsn) (lget y3 (itn y29)).account (lget y3 (itn y29)).symbol) fun y35 ↦ cnd (band (ile 0 y35) (ilt y35 (len y4))) (obind (F_cell_Go (lget y4 (itn y35)) (lget y3 (itn y29))) fun y36 ↦ obind (F_cell_Come y36.fst y30.fst) fun y37 ↦ cnd (bnot (ieq y37.snd 0)) (some (x0, 3)) (cnd (band (ile 0 y29) (ilt y29 (len y3))) (obind (F_book_ledger_bears (SState.mk x0.accounts x0.symbols (lset y3 (itn y29) y30.fst) (lset y4 (itn y35) y37.fst) y5 y6 x0.kill x0.last x0.seq x0.lsn) (SState.mk x0.accounts x0.symbols y31 y32 y33 y34 x0.kill x0.last x0.seq x0.lsn) (lget y3 (itn y29)).account (lget y3 (itn y29)).symbol) fun y38 ↦ cnd (bnot (ieq y38 0)) (some (x0, y38)) (some (SState.mk x0.accounts x0.symbols (lset y3 (itn y29) y30.fst) (lset y4 (itn y35) y37.fst) y5 y6 x0.kill x0.last x0.seq (wr IntKind.i64 (iadd x0.lsn 1)), 0))) none)) none))) none)) (cnd (ieq x1.kind 3) (obind (F_book_Find (SState.mk x0.accounts x0.symbols y3 y4 y5 y6 x0.kill x0.last x0.seq x0.lsn) x1.order) fun y39 ↦ cnd (ieq y39 (-1)) (some (x0, 7)) (cnd (band (ile 0 y39) (ilt y39 (len y3))) (obind (F_order_End (lget y3 (itn y39))) fun y40 ↦ cnd (band (ile 0 y39) (ilt y39 (len y3))) (cnd (bnot (ieq y40.snd 0)) (some (x0, y40.snd)) (some (SState.mk x0.accounts x0.symbols (lset y3 (itn y39) y40.fst) y4 y5 y6 x0.kill x0.last x0.seq (wr IntKind.i64 (iadd x0.lsn 1)), 0))) none) none)) (cnd (ieq x1.kind 4) (cnd (ile x0.accounts x1.account) (cnd (ile x0.accounts x1.account) (some (x0, 1)) (cnd (ieq x1.symbol (-1)) (cnd (band (ile 0 x1.account) (ilt x1.account (len y6))) (some (SState.mk x0.accounts x0.symbols y3 y4 y5 (lset y6 (itn x1.account) x1.opn) x0.kill x0.last x0.seq (wr IntKind.i64 (iadd x0.lsn 1)), 0)) none) (obind (F_book_ledger_cellOf (SState.mk x0.accounts x0.symbols y3 y4 y5 y6 x0.kill x0.last x0.seq x0.lsn) x1.account x1.symbol) fun y41 ↦ cnd (band (ile 0 y41) (ilt y41 (len y5))) (some (SState.mk x0.accounts x0.symbols y3 y4 (lset y5 (itn y41) (SExpo.mk x1.long x1.short x1.opn)) y6 x0.kill x0.last x0.seq (wr IntKind.i64 (iadd x0.lsn 1)), 0)) none))) (cnd (ile x0.symbols x1.symbol) (some (x0, 1)) (cnd (ieq x1.symbol (-1)) (cnd (band (ile 0 x1.account) (ilt x1.account (len y6))) (some (SState.mk x0.accounts x0.symbols y3 y4 y5 (lset y6 (itn x1.account) x1.opn) x0.kill x0.last x0.seq (wr IntKind.i64 (iadd x0.lsn 1)), 0)) none) (obind (F_book_ledger_cellOf (SState.mk x0.accounts x0.symbols y3 y4 y5 y6 x0.kill x0.last x0.seq x0.lsn) x1.account x1.symbol) fun y42 ↦ cnd (band (ile 0 y42) (ilt y42 (len y5))) (some (SState.mk x0.accounts x0.symbols y3 y4 (lset y5 (itn y42) (SExpo.mk x1.long x1.short x1.opn)) y6 x0.kill x0.last x0.seq (wr IntKind.i64 (iadd x0.lsn 1)), 0)) none)))) (cnd (ieq x1.kind 5) (some (SState.mk x0.accounts x0.symbols y3 y4 y5 y6 x1.on x0.last x0.seq (wr IntKind.i64 (iadd x0.lsn 1)), 0)) (cnd (bnot (ieq x1.seq (wr IntKind.i64 (iadd x0.seq 1)))) (some (x0, 11)) (obind (F_book_Find (SState.mk x0.accounts x0.symbols y3 y4 y5 y6 x0.kill x0.last x1.seq x0.lsn) x1.order) fun y43 ↦ cnd (ieq y43 (-1)) (some (SState.mk x0.accounts x0.symbols y3 y4 y5 y6 x0.kill x0.last x1.seq (wr IntKind.i64 (iadd x0.lsn 1)), 0)) (cnd (band (ile 0 y43) (ilt y43 (len y3))) (obind (F_order_Take (lget y3 (itn y43)) (SNote.mk x1.seq x1.what x1.order x1.qty x1.price)) fun y44 ↦ cnd (bnot (ieq y44.snd 0)) (some (SState.mk x0.accounts x0.symbols y3 y4 y5 y6 x0.kill x0.last x1.seq (wr IntKind.i64 (iadd x0.lsn 1)), 0)) (obind (F_book_ledger_cellOf (SState.mk x0.accounts x0.symbols y3 y4 y5 y6 x0.kill x0.last x1.seq x0.lsn) (lget y3 (itn y43)).account (lget y3 (itn y43)).symbol) fun y45 ↦ cnd (band (ile 0 y45) (ilt y45 (len y4))) (obind (F_cell_Go (lget y4 (itn y45)) (lget y3 (itn y43))) fun y46 ↦ obind (F_cell_Come (lget (lset y4 (itn y45) y46.fst) (itn y45)) y44.fst) fun y47 ↦ cnd (ieq x1.what 3) (obind (F_cell_Did (lget (lset (lset y4 (itn y45) y46.fst) (itn y45) y47.fst) (itn y45)) (lget y3 (itn y43)).side x1.qty) fun y48 ↦ cnd (band (ile 0 y43) (ilt y43 (len y3))) (cnd (ieq y44.fst.phase 3) (obind (F_slices_Delete_api_Order (lset y3 (itn y43) y44.fst) y43 (wr IntKind.i64 (iadd y43 1))) fun y49 ↦ some (SState.mk x0.accounts x0.symbols y49 (lset (lset (lset y4 (itn y45) y46.fst) (itn y45) y47.fst) (itn y45) y48.fst) y5 y6 x0.kill x0.last x1.seq (wr IntKind.i64 (iadd x0.lsn 1)), 0)) (some (SState.mk x0.accounts x0.symbols (lset y3 (itn y43) y44.fst) (lset (lset (lset y4 (itn y45) y46.fst) (itn y45) y47.fst) (itn y45) y48.fst) y5 y6 x0.kill x0.last x1.seq (wr IntKind.i64 (iadd x0.lsn 1)), 0))) none) (cnd (band (ile 0 y43) (ilt y43 (len y3))) (cnd (ieq y44.fst.phase 3) (obind (F_slices_Delete_api_Order (lset y3 (itn y43) y44.fst) y43 (wr IntKind.i64 (iadd y43 1))) fun y50 ↦ some (SState.mk x0.accounts x0.symbols y50 (lset (lset y4 (itn y45) y46.fst) (itn y45) y47.fst) y5 y6 x0.kill x0.last x1.seq (wr IntKind.i64 (iadd x0.lsn 1)), 0)) (some (SState.mk x0.accounts x0.symbols (lset y3 (itn y43) y44.fst) (lset (lset y4 (itn y45) y46.fst) (itn y45) y47.fst) y5 y6 x0.kill x0.last x1.seq (wr IntKind.i64 (iadd x0.lsn 1)), 0))) none)) none)) none))))))))
theorem F_book_Do_d_eq : F_book_Do = F_book_Do_d := by
  funext a0 a1
  unfold F_book_Do F_book_Do_d
  simp only [F_slices_Clone_api_Order_d_eq, F_slices_Clone_api_Cell_d_eq, F_slices_Clone_api_Expo_d_eq, F_slices_Clone_int64_d_eq]
def F_snafflelaw13_awake_d : Option (Bool) := obind (F_book_New 1 1 (SExpo.mk 9 9 99) 99) fun y0 ↦ obind (F_book_Do_d y0.fst (SRec.mk 1 5 0 0 2 3 2 0 0 0 false 0 0)) fun y1 ↦ obind (F_row_Encode y1.fst) fun y2 ↦ obind (F_row_Decode y2.fst) fun y3 ↦ cnd (bnot (ieq (len y2.fst) 137)) (some false) (cnd (ile 136 (len y2.fst)) (obind (F_row_Decode (ltake (ldrop y2.fst 0) 136)) fun y4 ↦ cnd (bor (ilt 0 (len y2.fst)) (bnot (band (band (band (band (ieq y0.snd 0) (ieq y1.snd 0)) (ieq y2.snd 0)) (ieq y3.snd 0)) (ieq y4.snd 2)))) (cnd (bor (ilt 7 (len y2.fst)) (bnot (band (band (band (band (band (ieq y0.snd 0) (ieq y1.snd 0)) (ieq y2.snd 0)) (ieq y3.snd 0)) (ieq y4.snd 2)) (ieq (lget y2.fst 0) 115)))) (obind (cnd (band (band (band (band (band (band (ieq y0.snd 0) (ieq y1.snd 0)) (ieq y2.snd 0)) (ieq y3.snd 0)) (ieq y4.snd 2)) (ieq (lget y2.fst 0) 115)) (ieq (lget y2.fst 7) 1)) (F_row_Size y0.fst) (some 0)) fun y5 ↦ obind (cnd (band (band (band (band (band (band (band (ieq y0.snd 0) (ieq y1.snd 0)) (ieq y2.snd 0)) (ieq y3.snd 0)) (ieq y4.snd 2)) (ieq (lget y2.fst 0) 115)) (ieq (lget y2.fst 7) 1)) (ieq y5 76)) (F_row_Same y1.fst y3.fst) (some false)) fun y6 ↦ obind (cnd (band (band (band (band (band (band (band (band (ieq y0.snd 0) (ieq y1.snd 0)) (ieq y2.snd 0)) (ieq y3.snd 0)) (ieq y4.snd 2)) (ieq (lget y2.fst 0) 115)) (ieq (lget y2.fst 7) 1)) (ieq y5 76)) y6) (F_row_Same y0.fst y1.fst) (some false)) fun y7 ↦ some (band (band (band (band (band (band (band (band (band (ieq y0.snd 0) (ieq y1.snd 0)) (ieq y2.snd 0)) (ieq y3.snd 0)) (ieq y4.snd 2)) (ieq (lget y2.fst 0) 115)) (ieq (lget y2.fst 7) 1)) (ieq y5 76)) y6) (bnot y7))) none) none) none)
theorem F_snafflelaw13_awake_d_eq : F_snafflelaw13_awake = F_snafflelaw13_awake_d := by
  unfold F_snafflelaw13_awake F_snafflelaw13_awake_d
  simp only [F_book_Do_d_eq]
theorem awake13 : F_snafflelaw13_awake = some true := by rw [F_snafflelaw13_awake_d_eq]; kernel_rfl
theorem pure_RowSizes (x0 : SState) (k0 : Ok_state x0) : F_snafflelaw13_RowSizes x0 = some true := by
  refine Wq.eq ?_
  unfold F_snafflelaw13_RowSizes
  rw [awake13, ob_some, bnot_true, cnd_false]
  refine (s_short x0).bind fun y1 h1 => ?_
  rw [w_cnd]
  refine ⟨fun _ => (w_some _).2 rfl, fun h => ?_⟩
  simp only [band_T, band_F, bor_T, bor_F, bnot_T, bnot_F, ilt_T, ilt_F, ile_T, ile_F, ieq_T, ieq_F, beq_T, beq_F] at h
  have hs := h1 h
  by_cases hR : RightS x0
  · obtain ⟨f1, f2, f3, f4, f5, f6, f7, f8⟩ := hR.few
    have hel := encZ_len x0
    rw [e_row_Encode k0 hs hR, ob_some]
    simp only
    rw [ieq_00, bnot_true, cnd_false]
    have m := mul_le64 (a := x0.accounts) (b := x0.symbols) (by omega) (by omega) (by omega) (by omega)
    have hn : wr IntKind.i64 (iadd (wr IntKind.i64 (iadd (wr IntKind.i64 (iadd 36 (wr IntKind.i64 (imul 8 x0.accounts)))) (wr IntKind.i64 (imul (wr IntKind.i64 (imul 32 x0.accounts)) x0.symbols)))) (wr IntKind.i64 (imul 61 (len x0.orders)))) = len (encZ x0) := by
      unfold iadd imul len
      have m2 : 32 * x0.accounts * x0.symbols = 32 * (x0.accounts * x0.symbols) := Int.mul_assoc _ _ _
      rw [wr_small (n := 8 * x0.accounts) (by omega) (by omega), wr_small (n := 36 + 8 * x0.accounts) (by omega) (by omega), wr_small (n := 32 * x0.accounts) (by omega) (by omega), wr_small (n := 32 * x0.accounts * x0.symbols) (by omega) (by omega),
        wr_small (n := 36 + 8 * x0.accounts + 32 * x0.accounts * x0.symbols) (by omega) (by omega), wr_small (n := 61 * (x0.orders.length : Int)) (by omega) (by omega), wr_small (by omega) (by omega), hel, m2, ← f6]
      omega
    rw [hn, ieq_refl, cnd_true, e_row_Size k0 hs hR, ob_some, ieq_refl]
    obtain ⟨r, he⟩ := enc_head x0
    have hb := right_b1 k0 hR
    rw [b1_wr hb.acc, b1_wr hb.sym, b1_wr (bitZ_b1 _), b1_wr hb.many] at he
    have a4 : lget (encZ x0) 4 = x0.accounts := by rw [he]; rfl
    have a5 : lget (encZ x0) 5 = x0.symbols := by rw [he]; rfl
    have a7 : lget (encZ x0) 7 = len x0.orders := by rw [he]; rfl
    rw [a4, a5, a7, wr_byte hb.acc, wr_byte hb.sym, wr_byte hb.many]
    have er : ∀ a : Int, ieq a a = true := ieq_refl
    have l4 : ∀ n : Int, n ≤ 7 → ilt n (len (encZ x0)) = true := fun n hn => ilt_t (by unfold len; omega)
    simp only [er, l4 4 (by decide), l4 5 (by decide), l4 7 (by decide), band_true, bor_true, cnd_true, w_some]
  · rw [e_row_Encode_bad k0 hs hR, ob_some]
    simp only
    rw [ieq_10, bnot_false, cnd_true, e_row_Size_bad k0 hs hR, ob_some]
    refine Wq.bind (Q := fun y => y = false) ?_ fun y hy => ?_
    · show Wq (F_book_Right x0) _
      refine (s_book_Right x0 k0 hs.1 hs.2.2.1 hs.2.2.2).mono fun b hb => ?_
      cases b with
      | false => rfl
      | true => exact absurd (hb.1 rfl) hR
    · subst hy
      rw [w_some]; rfl
end Go.Av
