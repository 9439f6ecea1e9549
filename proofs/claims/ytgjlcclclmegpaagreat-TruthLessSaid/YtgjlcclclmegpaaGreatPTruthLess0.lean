/- The plain law, part 0. No condition. -/
import Derived.Test.YtgjlcclclmegpaaGreatDTruthLess
import Derived.KernelRfl
set_option linter.unusedVariables false
set_option linter.unusedSimpArgs false
set_option linter.unnecessarySimpa false
namespace Go.Av
open Go
/-- A loop that comes to its end. -/
theorem iterN_run {V W : Type} {step : V → Option (V ⊕ W)} (μ : V → Nat) (I : V → Prop) (R : W → Prop)
    (h : ∀ v, I v → (∃ v', step v = some (.inl v') ∧ I v' ∧ μ v' < μ v) ∨ ∃ w, step v = some (.inr w) ∧ R w) : ∀ (n : Nat) (v : V), μ v < n → I v → ∃ w, iterN step n v = some w ∧ R w
  | 0, v, hn, _ => by omega
  | n + 1, v, hn, hI => by
    rcases h v hI with ⟨v', h1, h2, h3⟩ | ⟨w, h1, h2⟩
    · obtain ⟨w, g1, g2⟩ := iterN_run μ I R h n v' (by omega) h2
      exact ⟨w, by rw [iterN, h1]; exact g1, g2⟩
    · exact ⟨w, by rw [iterN, h1]; rfl, h2⟩
theorem lt_LF {n : Nat} (h : n < 1000000) : n < LF := Nat.lt_trans h (by decide)
theorem wr_in {n : Int} (h : inI n) : wr .i64 n = n := by
  unfold inI at h
  unfold wr IntKind.wrap
  simp [IntKind.bits, IntKind.signed]
  omega
theorem wr_rng (n : Int) : inI (wr .i64 n) := by
  unfold inI wr IntKind.wrap
  simp [IntKind.bits, IntKind.signed]
  omega
/-- What a sum of two numbers is turned into. -/
theorem wr_two {n : Int} (h1 : -18446744073709551616 ≤ n) (h2 : n ≤ 18446744073709551616) :
    (inI n ∧ wr .i64 n = n) ∨ (9223372036854775807 < n ∧ wr .i64 n = n - 18446744073709551616) ∨ (n < -9223372036854775808 ∧ wr .i64 n = n + 18446744073709551616) := by
  unfold inI wr IntKind.wrap
  simp [IntKind.bits, IntKind.signed]
  omega
theorem wr_u64 (n : Int) : wr .u64 n = n % 18446744073709551616 := by
  unfold wr IntKind.wrap
  simp [IntKind.bits, IntKind.signed]
theorem wr_small {n : Int} (h1 : 0 ≤ n) (h2 : n < 1000000000000) : wr .i64 n = n := wr_in ⟨by omega, by omega⟩
theorem cnd_t {α : Type} {b : Bool} {x y : α} (h : b = true) : cnd b x y = x := by subst h; rfl
theorem cnd_f {α : Type} {b : Bool} {x y : α} (h : b = false) : cnd b x y = y := by subst h; rfl
theorem cnd_if {α : Type} (b : Bool) (x y : α) : cnd b x y = if b = true then x else y := by cases b <;> rfl
theorem c_ieq {α : Type} (a b : Int) (x y : α) : cnd (ieq a b) x y = if a = b then x else y := by
  by_cases h : a = b
  · rw [if_pos h, show ieq a b = true by simp [ieq, h]]; rfl
  · rw [if_neg h, show ieq a b = false by simp [ieq, h]]; rfl
theorem c_bnot {α : Type} (b : Bool) (x y : α) : cnd (bnot b) x y = cnd b y x := by cases b <;> rfl
theorem c_dec {α : Type} (P : Prop) [Decidable P] (x y : α) : cnd (decide P) x y = if P then x else y := by
  by_cases h : P
  · rw [if_pos h, decide_eq_true h]; rfl
  · rw [if_neg h, decide_eq_false h]; rfl
instance (n : Int) : Decidable (inI n) := by unfold inI; infer_instance
theorem ob_some {α β : Type} (a : α) (f : α → Option β) : obind (some a) f = f a := rfl
theorem ilt_t {a b : Int} (h : a < b) : ilt a b = true := decide_eq_true h
theorem ilt_f {a b : Int} (h : ¬ a < b) : ilt a b = false := decide_eq_false h
theorem ile_t {a b : Int} (h : a ≤ b) : ile a b = true := decide_eq_true h
theorem ieq_refl (a : Int) : ieq a a = true := by simp [ieq]
theorem band_t {a b : Bool} (h1 : a = true) (h2 : b = true) : band a b = true := by subst h1; subst h2; rfl
theorem lget_nat {α : Type} [Inhabited α] (l : List α) (i : Nat) (h : i < l.length) : lget l (itn (i : Int)) = l[i] := by
  simp [lget, itn, h]
theorem inb {α : Type} (l : List α) (i : Nat) (h : i < l.length) : band (ile 0 (i : Int)) (ilt (i : Int) (len l)) = true := band_t (ile_t (by omega)) (ilt_t (by simp only [len]; omega))
theorem band_T (a b : Bool) : (band a b = true) = (a = true ∧ b = true) := by cases a <;> cases b <;> simp [band]
theorem band_F (a b : Bool) : (band a b = false) = (a = false ∨ b = false) := by cases a <;> cases b <;> simp [band]
theorem bor_T (a b : Bool) : (bor a b = true) = (a = true ∨ b = true) := by cases a <;> cases b <;> simp [bor]
theorem bor_F (a b : Bool) : (bor a b = false) = (a = false ∧ b = false) := by cases a <;> cases b <;> simp [bor]
theorem bnot_T (a : Bool) : (bnot a = true) = (a = false) := by cases a <;> simp [bnot]
theorem bnot_F (a : Bool) : (bnot a = false) = (a = true) := by cases a <;> simp [bnot]
theorem ilt_T (a b : Int) : (ilt a b = true) = (a < b) := by simp [ilt]
theorem ilt_F (a b : Int) : (ilt a b = false) = (b ≤ a) := by simp [ilt]
theorem ile_T (a b : Int) : (ile a b = true) = (a ≤ b) := by simp [ile]
theorem ile_F (a b : Int) : (ile a b = false) = (b < a) := by simp [ile]
theorem ieq_T (a b : Int) : (ieq a b = true) = (a = b) := by simp [ieq]
theorem ieq_F (a b : Int) : (ieq a b = false) = (a ≠ b) := by simp [ieq]
theorem beq_T (a b : Bool) : (beq a b = true) = (a = b) := by simp [beq]
theorem beq_F (a b : Bool) : (beq a b = false) = (a ≠ b) := by simp [beq]
/-- It ends, and what it ends in has Q. -/
def Wq {α : Type} (o : Option α) (Q : α → Prop) : Prop := ∃ a, o = some a ∧ Q a
theorem w_some {α : Type} {Q : α → Prop} (a : α) : Wq (some a) Q ↔ Q a := ⟨fun ⟨_, h, q⟩ => by cases h; exact q, fun h => ⟨a, rfl, h⟩⟩
theorem w_cnd {α : Type} {Q : α → Prop} (c : Bool) (x y : Option α) : Wq (cnd c x y) Q ↔ (c = true → Wq x Q) ∧ (c = false → Wq y Q) := by
  cases c <;> simp [cnd]
theorem w_bind {α β : Type} {Q : β → Prop} (o : Option α) (f : α → Option β) : Wq (obind o f) Q ↔ Wq o fun a => Wq (f a) Q := by
  cases o with
  | none => simp [obind, Wq]
  | some a => simp [obind, w_some]
theorem Wq.mono {α : Type} {Q R : α → Prop} {o : Option α} (h : Wq o Q) (hq : ∀ a, Q a → R a) : Wq o R := by
  obtain ⟨a, e, q⟩ := h
  exact ⟨a, e, hq a q⟩
theorem Wq.bind {α β : Type} {Q : α → Prop} {R : β → Prop} {o : Option α} {f : α → Option β} (h : Wq o Q) (hq : ∀ a, Q a → Wq (f a) R) : Wq (obind o f) R := (w_bind o f).2 (h.mono hq)
theorem Wq.eq {α : Type} {o : Option α} {a : α} (h : Wq o fun x => x = a) : o = some a := by obtain ⟨x, e, rfl⟩ := h; exact e
/-- What a question comes to. -/
theorem Wq.dec {o : Option Bool} {P : Prop} [Decidable P] (h : Wq o fun b => b = true ↔ P) : o = some (decide P) := by
  obtain ⟨b, e, q⟩ := h
  rw [e]; congr 1
  cases b <;> simp_all
theorem w_iter {V W : Type} {step : V → Option (V ⊕ W)} (μ : V → Nat) (I : V → Prop) (R : W → Prop)
    (h : ∀ v, I v → Wq (step v) fun r => match r with | .inl v' => I v' ∧ μ v' < μ v | .inr w => R w) (n : Nat) (v : V) (hn : μ v < n) (hi : I v) : Wq (iterN step n v) R :=
  iterN_run μ I R (fun v hv => by
    obtain ⟨r, e, q⟩ := h v hv
    match r, e, q with
    | .inl v', e, q => exact .inl ⟨v', e, q.1, q.2⟩
    | .inr w, e, q => exact .inr ⟨w, e, q⟩) n v hn hi
theorem wr_succ {i : Nat} (h : i < 1000000) : wr .i64 (iadd (i : Int) 1) = ((i + 1 : Nat) : Int) := by
  unfold iadd
  rw [wr_small (by omega) (by omega)]; omega
theorem ilt_nat {α : Type} (l : List α) (i : Nat) : ilt (i : Int) (len l) = decide (i < l.length) := by
  simp [ilt, len]
/-- A loop over a list, one by one: in each round it goes on or ends. -/
theorem w_for {W X : Type} {step : Int × X → Option ((Int × X) ⊕ W)} {n : Nat} (hn : n < 999999) (J : Nat → X → Prop) (R : W → Prop)
    (h : ∀ i x, i < n → J i x → Wq (step ((i : Int), x)) fun r => match r with | .inl (k, x') => k = ((i + 1 : Nat) : Int) ∧ J (i + 1) x' | .inr w => R w)
    (he : ∀ x, J n x → Wq (step ((n : Int), x)) fun r => match r with | .inl _ => False | .inr w => R w)
    (x : X) (i0 : Nat) (hi0 : i0 ≤ n) (hx : J i0 x) : Wq (iterN step LF ((i0 : Int), x)) R := by
  refine w_iter (fun v : Int × X => n - v.1.toNat) (fun v : Int × X => ∃ i : Nat, v.1 = (i : Int) ∧ i ≤ n ∧ J i v.2) R ?_ LF _ (lt_LF (by simp only; omega)) ⟨i0, rfl, hi0, hx⟩
  rintro ⟨k, y⟩ ⟨i, rfl, hi, hj⟩
  by_cases hlt : i < n
  · refine (h i y hlt hj).mono fun r hr => ?_
    match r, hr with
    | .inl (k, x'), hr =>
      obtain ⟨rfl, h2⟩ := hr
      exact ⟨⟨i + 1, rfl, hlt, h2⟩, by simp only [Int.toNat_natCast]; omega⟩
    | .inr w, hr => exact hr
  · obtain rfl : i = n := by omega
    refine (he y hj).mono fun r hr => ?_
    match r, hr with
    | .inl _, hr => exact hr.elim
    | .inr w, hr => exact hr
theorem nilq_clone {α : Type} {l : List α} (h : l.length < 1000000) : nilq (len l) (fun y0 ↦ cnd (beq y0 true) (some []) (cnd (ile (len l) 68719476736) (some l) none)) = some l := by
  unfold nilq
  have hc : ile (len l) 68719476736 = true := ile_t (by simp only [len]; omega)
  simp only [cnd_t hc]
  by_cases h0 : len l = 0
  · have : l = [] := List.eq_nil_of_length_eq_zero (by simp only [len] at h0; omega)
    subst this
    simp [len, cnd, beq, ile]
  · rw [if_neg h0]
    simp [cnd, beq]
theorem cnd_true {α : Type} (x y : α) : cnd true x y = x := rfl
theorem cnd_false {α : Type} (x y : α) : cnd false x y = y := rfl
theorem bnot_true : bnot true = false := rfl
theorem bnot_false : bnot false = true := rfl
theorem band_true (b : Bool) : band true b = b := rfl
theorem band_false (b : Bool) : band false b = false := rfl
theorem bor_true (b : Bool) : bor true b = true := rfl
theorem bor_false (b : Bool) : bor false b = b := rfl
theorem band_false' (b : Bool) : band b false = false := by cases b <;> rfl
theorem bor_true' (b : Bool) : bor b true = true := by cases b <;> rfl
theorem ieq_00 : ieq 0 0 = true := rfl
theorem ieq_30 : ieq 3 0 = false := rfl
theorem itn_nat (i : Nat) : itn (i : Int) = i := by simp [itn]
theorem e_num_Add {a b : Int} (ha : inI a) (hb : inI b) : F_num_Add a b = some (if inI (a + b) then (a + b, 0) else (0, 3)) := by
  unfold inI at ha hb
  unfold F_num_Add iadd
  rcases wr_two (n := a + b) (by omega) (by omega) with ⟨h, e⟩ | ⟨h, e⟩ | ⟨h, e⟩ <;> rw [e, cnd_if] <;> simp only [band_T, band_F, bor_T, bor_F, bnot_T, bnot_F, ilt_T, ilt_F, ile_T, ile_F, ieq_T, ieq_F, beq_T, beq_F]
  · rw [if_pos h, if_neg]
    rintro ⟨h1, h2⟩; unfold inI at h; exact h1 (decide_eq_decide.2 (by omega))
  · rw [if_pos, if_neg (by unfold inI; omega)]
    exact ⟨fun h1 => by have := decide_eq_decide.1 h1; omega, by omega⟩
  · rw [if_pos, if_neg (by unfold inI; omega)]
    exact ⟨fun h1 => by have := decide_eq_decide.1 h1; omega, by omega⟩
theorem e_num_Sub {a b : Int} (ha : inI a) (hb : inI b) : F_num_Sub a b = some (if inI (a - b) then (a - b, 0) else (0, 3)) := by
  unfold inI at ha hb
  unfold F_num_Sub isub
  rcases wr_two (n := a - b) (by omega) (by omega) with ⟨h, e⟩ | ⟨h, e⟩ | ⟨h, e⟩ <;> rw [e, cnd_if] <;> simp only [band_T, band_F, bor_T, bor_F, bnot_T, bnot_F, ilt_T, ilt_F, ile_T, ile_F, ieq_T, ieq_F, beq_T, beq_F]
  · rw [if_pos h, if_neg]
    rintro ⟨h1, h2⟩; unfold inI at h; exact h1 (decide_eq_decide.2 (by omega))
  · rw [if_pos, if_neg (by unfold inI; omega)]
    exact ⟨fun h1 => by have := decide_eq_decide.1 h1; omega, by omega⟩
  · rw [if_pos, if_neg (by unfold inI; omega)]
    exact ⟨fun h1 => by have := decide_eq_decide.1 h1; omega, by omega⟩
theorem e_num_Max (a b : Int) : F_num_Max a b = some (max a b) := by
  unfold F_num_Max imax
  congr 1
  by_cases h : b > a
  · rw [if_pos h]; omega
  · rw [if_neg h]; omega
/-- A number of 64 bits is two of 32. -/
theorem half (n : Int) (h1 : 0 ≤ n) (h2 : n < 18446744073709551616) : ∃ a b : Int, n = a * 4294967296 + b ∧ 0 ≤ a ∧ a < 4294967296 ∧ 0 ≤ b ∧ b < 4294967296 ∧ ishr .u64 n 32 = a ∧ wr .u64 (iand .u64 n 4294967295) = b := by
  refine ⟨n / 4294967296, n % 4294967296, by omega, by omega, by omega, by omega, by omega, ?_, ?_⟩
  · unfold ishr
    have : min (Int.toNat 32) (IntKind.bits .u64) = 32 := by decide
    rw [this, Int.fdiv_eq_ediv_of_nonneg _ (by decide)]
    rfl
  · unfold iand
    rw [wr_u64]
    have e : (BitVec.ofInt (IntKind.bits .u64) n &&& BitVec.ofInt (IntKind.bits .u64) 4294967295).toNat = n.toNat % 4294967296 := by
      rw [BitVec.toNat_and]
      have : (BitVec.ofInt (IntKind.bits .u64) 4294967295).toNat = 2 ^ 32 - 1 := by decide
      rw [this, Nat.and_two_pow_sub_one_eq_mod]
      rw [BitVec.toNat_ofInt]
      congr 1
      have : (n % (2 ^ (IntKind.bits .u64) : Nat)) = n := Int.emod_eq_of_lt h1 (by simpa [IntKind.bits] using h2)
      rw [this]
    rw [e]; omega
theorem e_Mul64 {x y : Int} (hx : 0 ≤ x) (hx2 : x < 18446744073709551616) (hy : 0 ≤ y) (hy2 : y < 18446744073709551616) :
    F_math_bits_Mul64 x y = some (x * y / 18446744073709551616, x * y % 18446744073709551616) := by
  obtain ⟨a, b, e1, a1, a2, b1, b2, s1, s2⟩ := half x hx hx2
  obtain ⟨c, d, e2, c1, c2, d1, d2, t1, t2⟩ := half y hy hy2
  unfold F_math_bits_Mul64
  rw [s1, s2, t1, t2]
  unfold imul iadd
  have m1 : 0 ≤ a * c ∧ a * c ≤ 4294967295 * 4294967295 := ⟨Int.mul_nonneg a1 c1, Int.mul_le_mul (by omega) (by omega) c1 (by omega)⟩
  have m2 : 0 ≤ a * d ∧ a * d ≤ 4294967295 * 4294967295 := ⟨Int.mul_nonneg a1 d1, Int.mul_le_mul (by omega) (by omega) d1 (by omega)⟩
  have m3 : 0 ≤ b * c ∧ b * c ≤ 4294967295 * 4294967295 := ⟨Int.mul_nonneg b1 c1, Int.mul_le_mul (by omega) (by omega) c1 (by omega)⟩
  have m4 : 0 ≤ b * d ∧ b * d ≤ 4294967295 * 4294967295 := ⟨Int.mul_nonneg b1 d1, Int.mul_le_mul (by omega) (by omega) d1 (by omega)⟩
  have mm : x * y = a * c * 18446744073709551616 + (a * d + b * c) * 4294967296 + b * d := by
    subst e1 e2
    simp only [Int.add_mul, Int.mul_add]
    have q1 : a * 4294967296 * (c * 4294967296) = a * c * 18446744073709551616 := by
      rw [Int.mul_assoc, Int.mul_left_comm 4294967296, ← Int.mul_assoc, ← Int.mul_assoc]; omega
    have q2 : a * 4294967296 * d = a * d * 4294967296 := by rw [Int.mul_assoc, Int.mul_comm 4294967296, ← Int.mul_assoc]
    have q3 : b * (c * 4294967296) = b * c * 4294967296 := by rw [← Int.mul_assoc]
    rw [q1, q2, q3]; omega
  rw [mm]
  generalize a * c = p at *
  generalize a * d = q at *
  generalize b * c = r at *
  generalize b * d = t at *
  have sh : ∀ n : Int, 0 ≤ n → n < 18446744073709551616 → ishr .u64 n 32 = n / 4294967296 := fun n h1 h2 => by
    obtain ⟨u, v, h3, h4, h5, h6, h7, h8, _⟩ := half n h1 h2
    rw [h8]; omega
  have la : ∀ n : Int, 0 ≤ n → n < 18446744073709551616 → wr .u64 (iand .u64 n 4294967295) = n % 4294967296 := fun n h1 h2 => by
    obtain ⟨u, v, h3, h4, h5, h6, h7, _, h8⟩ := half n h1 h2
    rw [h8]; omega
  simp only [wr_u64 p, wr_u64 q, wr_u64 r, wr_u64 t]
  rw [Int.emod_eq_of_lt (a := p) m1.1 (by omega), Int.emod_eq_of_lt (a := q) m2.1 (by omega), Int.emod_eq_of_lt (a := r) m3.1 (by omega), Int.emod_eq_of_lt (a := t) m4.1 (by omega)]
  rw [sh t m4.1 (by omega)]
  rw [wr_u64 (q + t / 4294967296), Int.emod_eq_of_lt (a := q + t / 4294967296) (by omega) (by omega)]
  rw [sh (q + t / 4294967296) (by omega) (by omega), la (q + t / 4294967296) (by omega) (by omega)]
  rw [wr_u64 (p + _), Int.emod_eq_of_lt (a := p + (q + t / 4294967296) / 4294967296) (by omega) (by omega)]
  rw [wr_u64 ((q + t / 4294967296) % 4294967296 + r), Int.emod_eq_of_lt (a := (q + t / 4294967296) % 4294967296 + r) (by omega) (by omega)]
  rw [sh _ (by omega) (by omega)]
  rw [wr_u64, wr_u64]
  congr 2 <;> omega
theorem e_num_size {a : Int} (ha : inI a) : F_num_size a = some (a.natAbs : Int) := by
  unfold inI at ha
  unfold F_num_size isub
  rw [cnd_if]; simp only [ilt_T, wr_u64]
  split
  · congr 1; omega
  · congr 1; omega
theorem e_num_Mul {a b : Int} (ha : inI a) (hb : inI b) : F_num_Mul a b = some (if inI (a * b) then (a * b, 0) else (0, 3)) := by
  unfold F_num_Mul
  rw [e_num_size ha, e_num_size hb, ob_some, ob_some, e_Mul64 (by omega) (by unfold inI at ha; omega) (by omega) (by unfold inI at hb; omega), ob_some]
  have hm : (a.natAbs : Int) * (b.natAbs : Int) = ((a * b).natAbs : Int) := by rw [Int.natAbs_mul]; rfl
  have hn : (a.natAbs : Int) * (b.natAbs : Int) ≤ 9223372036854775808 * 9223372036854775808 := Int.mul_le_mul (by unfold inI at ha; omega) (by unfold inI at hb; omega) (by omega) (by omega)
  rw [hm] at hn ⊢
  have hs : (decide (a < 0) = decide (b < 0) → 0 ≤ a * b) ∧ (decide (a < 0) ≠ decide (b < 0) → a * b ≤ 0) := by
    constructor
    · intro h
      by_cases h1 : a < 0
      · have h2 : b < 0 := by simpa [h1] using h
        exact Int.mul_nonneg_of_nonpos_of_nonpos (by omega) (by omega)
      · have h2 : ¬ b < 0 := by simpa [h1] using h
        exact Int.mul_nonneg (by omega) (by omega)
    · intro h
      by_cases h1 : a < 0
      · have h2 : ¬ b < 0 := by simpa [h1] using h
        exact Int.mul_nonpos_of_nonpos_of_nonneg (by omega) (by omega)
      · have h2 : b < 0 := by simpa [h1] using h
        exact Int.mul_nonpos_of_nonneg_of_nonpos (by omega) (by omega)
  generalize a * b = p at *
  simp only [cnd_if, band_T, band_F, bor_T, bor_F, bnot_T, bnot_F, ilt_T, ilt_F, ile_T, ile_F, ieq_T, ieq_F, beq_T, beq_F, isub, wr_u64, ne_eq]
  unfold ilt at *
  by_cases hd : decide (a < 0) = decide (b < 0)
  · have hp := hs.1 hd
    rw [if_neg (fun h => h.1.2 hd)]
    by_cases hr : p ≤ 9223372036854775807
    · rw [if_pos (by omega), if_pos ⟨by omega, by omega⟩, wr_in ⟨by omega, by omega⟩]
      congr 2; omega
    · rw [if_neg (by omega), if_neg (by unfold inI; omega)]
  · have hp := hs.2 hd
    by_cases hr : -9223372036854775808 ≤ p
    · rw [if_pos ⟨⟨by omega, hd⟩, by omega⟩, if_pos ⟨by omega, by omega⟩]
      congr 2
      rcases wr_two (n := (0 - ((p.natAbs : Int) % 18446744073709551616)) % 18446744073709551616) (by omega) (by omega) with ⟨h, e⟩ | ⟨h, e⟩ | ⟨h, e⟩ <;> rw [e] <;> unfold inI at * <;> omega
    · rw [if_neg (by omega), if_neg (by omega), if_neg (by unfold inI; omega)]
def knownP (n : Int) : Prop := 1 ≤ n ∧ n ≤ 1000000000000
/-- A right record. -/
def recP (r : SRec) : Prop :=
  (r.kind = 1 ∧ knownP r.order ∧ (0 ≤ r.account ∧ r.account < 8) ∧ (0 ≤ r.symbol ∧ r.symbol < 8) ∧ (r.side = 1 ∨ r.side = 2) ∧ 1 ≤ r.qty ∧ 1 ≤ r.price ∧ r.long = 0 ∧ r.short = 0 ∧ r.opn = 0 ∧ r.on = false ∧ r.seq = 0 ∧ r.what = 0) ∨
  (r.kind = 2 ∧ knownP r.order ∧ r.account = 0 ∧ r.symbol = 0 ∧ r.side = 0 ∧ 1 ≤ r.qty ∧ 1 ≤ r.price ∧ r.long = 0 ∧ r.short = 0 ∧ r.opn = 0 ∧ r.on = false ∧ r.seq = 0 ∧ r.what = 0) ∨
  (r.kind = 3 ∧ knownP r.order ∧ r.account = 0 ∧ r.symbol = 0 ∧ r.side = 0 ∧ r.qty = 0 ∧ r.price = 0 ∧ r.long = 0 ∧ r.short = 0 ∧ r.opn = 0 ∧ r.on = false ∧ r.seq = 0 ∧ r.what = 0) ∨
  (r.kind = 4 ∧ r.order = 0 ∧ (0 ≤ r.account ∧ r.account < 8) ∧ ((r.symbol = -1 ∧ r.long = 0 ∧ r.short = 0) ∨ (0 ≤ r.symbol ∧ r.symbol < 8)) ∧ r.side = 0 ∧ r.qty = 0 ∧ r.price = 0 ∧ 0 ≤ r.long ∧ 0 ≤ r.short ∧ 0 ≤ r.opn ∧ r.on = false ∧ r.seq = 0 ∧ r.what = 0) ∨
  (r.kind = 5 ∧ r.order = 0 ∧ r.account = 0 ∧ r.symbol = 0 ∧ r.side = 0 ∧ r.qty = 0 ∧ r.price = 0 ∧ r.long = 0 ∧ r.short = 0 ∧ r.opn = 0 ∧ r.seq = 0 ∧ r.what = 0) ∨
  (r.kind = 6 ∧ knownP r.order ∧ r.account = 0 ∧ r.symbol = 0 ∧ r.side = 0 ∧ r.long = 0 ∧ r.short = 0 ∧ r.opn = 0 ∧ r.on = false ∧ (1 ≤ r.seq ∧ r.seq ≤ 1000000000) ∧
    ((r.what = 3 ∧ 1 ≤ r.qty ∧ r.price = 0) ∨ (r.what = 5 ∧ 1 ≤ r.qty ∧ 1 ≤ r.price) ∨ ((r.what = 1 ∨ r.what = 2 ∨ r.what = 4 ∨ r.what = 6) ∧ r.qty = 0 ∧ r.price = 0)))
theorem imin3 (a b c : Int) : (0 ≤ imin (imin a b) c) ↔ 0 ≤ a ∧ 0 ≤ b ∧ 0 ≤ c := by
  unfold imin; split <;> split <;> omega
theorem s_rec_event (r : SRec) : Wq (F_rec_event r) fun b => b = true ↔ knownP r.order ∧ (1 ≤ r.seq ∧ r.seq ≤ 1000000000) ∧
    ((r.what = 3 ∧ 1 ≤ r.qty ∧ r.price = 0) ∨ (r.what = 5 ∧ 1 ≤ r.qty ∧ 1 ≤ r.price) ∨ ((r.what = 1 ∨ r.what = 2 ∨ r.what = 4 ∨ r.what = 6) ∧ r.qty = 0 ∧ r.price = 0)) := by
  unfold F_rec_event F_rec_known F_rec_sized
  by_cases h1 : 1 ≤ r.seq ∧ r.seq ≤ 1000000000
  · rw [cnd_t (b := bnot (bor (ilt r.seq 1) (ilt 1000000000 r.seq))) (by simp only [band_T, band_F, bor_T, bor_F, bnot_T, bnot_F, ilt_T, ilt_F, ile_T, ile_F, ieq_T, ieq_F, beq_T, beq_F]; omega), ob_some]
    by_cases h2 : knownP r.order
    · rw [show band (ile 1 r.order) (ile r.order 1000000000000) = true by simp only [band_T, band_F, bor_T, bor_F, bnot_T, bnot_F, ilt_T, ilt_F, ile_T, ile_F, ieq_T, ieq_F, beq_T, beq_F]; exact h2, cnd_f (by simp only [band_T, band_F, bor_T, bor_F, bnot_T, bnot_F, ilt_T, ilt_F, ile_T, ile_F, ieq_T, ieq_F, beq_T, beq_F]; exact ⟨by omega, trivial⟩)]
      by_cases k3 : r.what = 3
      · rw [cnd_t (by rw [ieq_T]; exact k3), w_some]; simp only [h1, h2, true_and, band_T, band_F, bor_T, bor_F, bnot_T, bnot_F, ilt_T, ilt_F, ile_T, ile_F, ieq_T, ieq_F, beq_T, beq_F]; omega
      rw [cnd_f (by rw [ieq_F]; exact k3)]
      by_cases k5 : r.what = 5
      · rw [cnd_t (by rw [ieq_T]; exact k5), ob_some, w_some]; simp only [h1, h2, true_and, band_T, band_F, bor_T, bor_F, bnot_T, bnot_F, ilt_T, ilt_F, ile_T, ile_F, ieq_T, ieq_F, beq_T, beq_F]; omega
      rw [cnd_f (by rw [ieq_F]; exact k5)]
      by_cases k1 : r.what = 1
      · rw [cnd_t (by rw [ieq_T]; exact k1), cnd_t (by rw [ieq_T]; exact k1), w_some]; simp only [h1, h2, true_and, band_T, band_F, bor_T, bor_F, bnot_T, bnot_F, ilt_T, ilt_F, ile_T, ile_F, ieq_T, ieq_F, beq_T, beq_F]; omega
      rw [cnd_f (by rw [ieq_F]; exact k1)]
      by_cases k2 : r.what = 2
      · rw [cnd_t (by rw [ieq_T]; exact k2), cnd_t (by rw [ieq_T]; exact k2), w_some]; simp only [h1, h2, true_and, band_T, band_F, bor_T, bor_F, bnot_T, bnot_F, ilt_T, ilt_F, ile_T, ile_F, ieq_T, ieq_F, beq_T, beq_F]; omega
      rw [cnd_f (by rw [ieq_F]; exact k2)]
      by_cases k4 : r.what = 4
      · rw [cnd_t (by rw [ieq_T]; exact k4), cnd_t (by rw [ieq_T]; exact k4), w_some]; simp only [h1, h2, true_and, band_T, band_F, bor_T, bor_F, bnot_T, bnot_F, ilt_T, ilt_F, ile_T, ile_F, ieq_T, ieq_F, beq_T, beq_F]; omega
      rw [cnd_f (by rw [ieq_F]; exact k4)]
      by_cases k6 : r.what = 6
      · rw [cnd_t (by rw [ieq_T]; exact k6), w_some]; simp only [h1, h2, true_and, band_T, band_F, bor_T, bor_F, bnot_T, bnot_F, ilt_T, ilt_F, ile_T, ile_F, ieq_T, ieq_F, beq_T, beq_F]; omega
      rw [cnd_f (by rw [ieq_F]; exact k6), w_some]
      simp only [h1, h2, true_and, Bool.false_eq_true, false_iff]; omega
    · rw [show band (ile 1 r.order) (ile r.order 1000000000000) = false by simp only [band_T, band_F, bor_T, bor_F, bnot_T, bnot_F, ilt_T, ilt_F, ile_T, ile_F, ieq_T, ieq_F, beq_T, beq_F]; unfold knownP at h2; omega, cnd_t (by simp only [band_T, band_F, bor_T, bor_F, bnot_T, bnot_F, ilt_T, ilt_F, ile_T, ile_F, ieq_T, ieq_F, beq_T, beq_F, or_true]), w_some]
      simp [h2]
  · rw [cnd_f (b := bnot (bor (ilt r.seq 1) (ilt 1000000000 r.seq))) (by simp only [band_T, band_F, bor_T, bor_F, bnot_T, bnot_F, ilt_T, ilt_F, ile_T, ile_F, ieq_T, ieq_F, beq_T, beq_F]; omega), ob_some, cnd_t (by simp only [band_T, band_F, bor_T, bor_F, bnot_T, bnot_F, ilt_T, ilt_F, ile_T, ile_F, ieq_T, ieq_F, beq_T, beq_F, or_true]), w_some]
    simp [h1]
theorem s_rec_Right (r : SRec) : Wq (F_rec_Right r) fun b => b = true ↔ recP r := by
  unfold F_rec_Right F_rec_fields
  obtain ⟨ev, he, hq⟩ := s_rec_event r
  by_cases k1 : r.kind = 1
  · have e1 : ieq r.kind 1 = true := by rw [ieq_T]; exact k1
    simp only [e1, cnd_true, ob_some]
    simp only [w_bind, w_cnd, w_some, band_T, band_F, bor_T, bor_F, bnot_T, bnot_F, ilt_T, ilt_F, ile_T, ile_F, ieq_T, ieq_F, beq_T, beq_F, true_implies, ne_eq, not_true_eq_false, false_implies, and_true, true_and, or_self, reduceCtorEq, F_rec_known, F_rec_below, F_rec_sized, recP, knownP]; grind
  have e1 : ieq r.kind 1 = false := by rw [ieq_F]; exact k1
  by_cases k2 : r.kind = 2
  · have e2 : ieq r.kind 2 = true := by rw [ieq_T]; exact k2
    simp only [e1, e2, cnd_true, cnd_false, ob_some]
    simp only [w_bind, w_cnd, w_some, band_T, band_F, bor_T, bor_F, bnot_T, bnot_F, ilt_T, ilt_F, ile_T, ile_F, ieq_T, ieq_F, beq_T, beq_F, true_implies, ne_eq, not_true_eq_false, false_implies, and_true, true_and, or_self, reduceCtorEq, F_rec_known, F_rec_below, F_rec_sized, recP, knownP]; grind
  have e2 : ieq r.kind 2 = false := by rw [ieq_F]; exact k2
  by_cases k3 : r.kind = 3
  · have e3 : ieq r.kind 3 = true := by rw [ieq_T]; exact k3
    simp only [e1, e2, e3, cnd_true, cnd_false, ob_some]
    simp only [w_bind, w_cnd, w_some, band_T, band_F, bor_T, bor_F, bnot_T, bnot_F, ilt_T, ilt_F, ile_T, ile_F, ieq_T, ieq_F, beq_T, beq_F, true_implies, ne_eq, not_true_eq_false, false_implies, and_true, true_and, or_self, reduceCtorEq, F_rec_known, F_rec_below, F_rec_sized, recP, knownP]; grind
  have e3 : ieq r.kind 3 = false := by rw [ieq_F]; exact k3
  by_cases k4 : r.kind = 4
  · have e4 : ieq r.kind 4 = true := by rw [ieq_T]; exact k4
    simp only [e1, e2, e3, e4, cnd_true, cnd_false, ob_some]
    simp only [w_bind, w_cnd, w_some, band_T, band_F, bor_T, bor_F, bnot_T, bnot_F, ilt_T, ilt_F, ile_T, ile_F, ieq_T, ieq_F, beq_T, beq_F, true_implies, ne_eq, not_true_eq_false, false_implies, and_true, true_and, or_self, reduceCtorEq, F_rec_known, F_rec_below, F_rec_sized, recP, knownP, imin3]; grind
  have e4 : ieq r.kind 4 = false := by rw [ieq_F]; exact k4
  by_cases k5 : r.kind = 5
  · have e5 : ieq r.kind 5 = true := by rw [ieq_T]; exact k5
    simp only [e1, e2, e3, e4, e5, cnd_true, cnd_false, ob_some]
    simp only [w_bind, w_cnd, w_some, band_T, band_F, bor_T, bor_F, bnot_T, bnot_F, ilt_T, ilt_F, ile_T, ile_F, ieq_T, ieq_F, beq_T, beq_F, true_implies, ne_eq, not_true_eq_false, false_implies, and_true, true_and, or_self, reduceCtorEq, F_rec_known, F_rec_below, F_rec_sized, recP, knownP]; grind
  have e5 : ieq r.kind 5 = false := by rw [ieq_F]; exact k5
  by_cases k6 : r.kind = 6
  · have e6 : ieq r.kind 6 = true := by rw [ieq_T]; exact k6
    simp only [e1, e2, e3, e4, e5, e6, cnd_true, cnd_false, ob_some, he]
    simp only [w_bind, w_cnd, w_some, band_T, band_F, bor_T, bor_F, bnot_T, bnot_F, ilt_T, ilt_F, ile_T, ile_F, ieq_T, ieq_F, beq_T, beq_F, true_implies, ne_eq, not_true_eq_false, false_implies, and_true, true_and, or_self, reduceCtorEq, recP, hq]; grind
  have e6 : ieq r.kind 6 = false := by rw [ieq_F]; exact k6
  simp only [e1, e2, e3, e4, e5, e6, cnd_true, cnd_false, ob_some]
  simp only [w_bind, w_cnd, w_some, band_T, band_F, bor_T, bor_F, bnot_T, bnot_F, ilt_T, ilt_F, ile_T, ile_F, ieq_T, ieq_F, beq_T, beq_F, true_implies, ne_eq, not_true_eq_false, false_implies, and_true, true_and, or_self, reduceCtorEq, recP]; grind
/-- An order's own part, as it begins. -/
def begunP (o : SOrder) : Prop := (1 ≤ o.id ∧ o.id ≤ 1000000000000) ∧ (0 ≤ o.account ∧ o.account < 8) ∧ (0 ≤ o.symbol ∧ o.symbol < 8) ∧ (o.side = 1 ∨ o.side = 2) ∧ 1 ≤ o.qty ∧ 1 ≤ o.price
theorem s_order_begun (o : SOrder) : Wq (F_order_begun o) fun b => b = true ↔ begunP o := by
  unfold F_order_begun
  rw [w_bind]
  refine (s_rec_Right _).mono fun b hb => ?_
  rw [w_some, hb]
  simp [recP, begunP, knownP]
def pendP (o : SOrder) : Prop := o.newQty ≠ 0 ∨ o.newPrice ≠ 0
instance (o : SOrder) : Decidable (pendP o) := by unfold pendP; infer_instance
instance (o : SOrder) : Decidable (begunP o) := by unfold begunP; infer_instance
theorem s_order_pending (o : SOrder) : Wq (F_order_pending o) fun b => b = true ↔ pendP o := by
  unfold F_order_pending
  simp only [w_some, bor_T, bnot_T, ieq_F, pendP]
/-- A right order. -/
def ordP (o : SOrder) : Prop := begunP o ∧ 0 ≤ o.filled ∧ o.filled ≤ o.qty ∧ 0 ≤ o.version ∧ (pendP o → 1 ≤ o.newQty ∧ 1 ≤ o.newPrice) ∧
  ((o.phase = 1 ∧ o.filled = 0 ∧ o.version = 0 ∧ ¬ pendP o) ∨ (o.phase = 2 ∧ o.filled < o.qty) ∨ (o.phase = 3 ∧ ¬ pendP o))
instance (o : SOrder) : Decidable (ordP o) := by unfold ordP; infer_instance
theorem s_order_Right (o : SOrder) : Wq (F_order_Right o) fun b => b = true ↔ ordP o := by
  unfold F_order_Right
  rw [w_bind]
  refine (s_order_pending o).mono fun p hp => ?_
  rw [w_bind]
  refine (s_order_begun o).mono fun b hb => ?_
  unfold ordP
  rw [← hp, ← hb]
  have hm : (imin o.newQty o.newPrice < 1) ↔ ¬ (1 ≤ o.newQty ∧ 1 ≤ o.newPrice) := by unfold imin; split <;> omega
  simp only [w_bind, w_cnd, w_some, band_T, band_F, bor_T, bor_F, bnot_T, bnot_F, ilt_T, ilt_F, ile_T, ile_F, ieq_T, ieq_F, beq_T, beq_F, hm]
  cases p <;> cases b <;> simp <;> omega
theorem e_order_Right (o : SOrder) : F_order_Right o = some (decide (ordP o)) := (s_order_Right o).dec
/-- How much is open of an order, and what that is worth. -/
def openZ (o : SOrder) : Int := if o.phase = 3 then 0 else max o.qty o.newQty - o.filled
def worthZ (o : SOrder) : Int := if o.phase = 3 then 0 else if o.newQty ≤ o.filled then (o.qty - o.filled) * o.price else max ((o.qty - o.filled) * o.price) ((o.newQty - o.filled) * o.newPrice)
theorem openZ_rng {o : SOrder} (h : ordP o) (hr : Ok_order o) : 0 ≤ openZ o ∧ openZ o ≤ 9223372036854775807 := by
  obtain ⟨_, h1, h2, _⟩ := h
  have := hr.qty.2; have := hr.newQty.2
  unfold openZ; split <;> omega
theorem new_pos {o : SOrder} (h : ordP o) (hn : o.filled < o.newQty) : 1 ≤ o.newPrice := by
  obtain ⟨_, h1, h2, _, h4, _⟩ := h
  exact (h4 (.inl (by omega))).2
theorem worthZ_nn {o : SOrder} (h : ordP o) : 0 ≤ worthZ o := by
  have hp := h.1.2.2.2.2.2
  have hf := h.2.2.1
  unfold worthZ; split
  · omega
  · have m : 0 ≤ (o.qty - o.filled) * o.price := Int.mul_nonneg (by omega) (by omega)
    split <;> omega
theorem e_order_Open {o : SOrder} (h : ordP o) (hr : Ok_order o) : F_order_Open o = some (openZ o) := by
  have hb := openZ_rng h hr
  unfold F_order_Open
  rw [e_order_Right, ob_some, decide_eq_true h, e_num_Max, ob_some]
  unfold openZ at *
  rw [bnot_true, bor_false, c_ieq]
  split
  · rfl
  · rename_i hp
    rw [if_neg hp] at hb
    unfold isub
    rw [wr_in ⟨by omega, by omega⟩]
theorem e_order_Worth {o : SOrder} (h : ordP o) (hr : Ok_order o) : F_order_Worth o = some (if worthZ o ≤ 9223372036854775807 then (worthZ o, 0) else (0, 3)) := by
  have hp := h.1.2.2.2.2.2
  have hf := h.2.2.1
  have hf0 := h.2.1
  have rq := hr.qty; have rp := hr.price; have rf := hr.filled; have rn := hr.newQty; have rnp := hr.newPrice
  unfold inI at rq rf rn
  unfold F_order_Worth
  rw [e_order_Right, ob_some, decide_eq_true h, bnot_true, cnd_false, c_ieq]
  unfold worthZ
  split
  · rw [if_pos (by omega)]
  · unfold isub
    rw [wr_in ⟨by omega, by omega⟩, e_num_Mul ⟨by omega, by omega⟩ rp, ob_some]
    have m : 0 ≤ (o.qty - o.filled) * o.price := Int.mul_nonneg (by omega) (by omega)
    generalize (o.qty - o.filled) * o.price = a at *
    rw [cnd_if]
    simp only [band_T, band_F, bor_T, bor_F, bnot_T, bnot_F, ilt_T, ilt_F, ile_T, ile_F, ieq_T, ieq_F, beq_T, beq_F]
    by_cases hn : o.newQty ≤ o.filled
    · rw [if_pos (.inr hn), if_pos hn]
      by_cases ha : a ≤ 9223372036854775807
      · rw [if_pos (c := inI a) ⟨by omega, ha⟩, if_pos ha]
      · rw [if_neg (c := inI a) (by unfold inI; omega), if_neg ha]
    · rw [if_neg hn]
      have hnp := new_pos h (by omega)
      rw [wr_in ⟨by omega, by omega⟩, e_num_Mul ⟨by omega, by omega⟩ rnp, ob_some]
      have m2 : 0 ≤ (o.newQty - o.filled) * o.newPrice := Int.mul_nonneg (by omega) (by omega)
      generalize (o.newQty - o.filled) * o.newPrice = b at *
      by_cases ha : a ≤ 9223372036854775807
      · rw [if_pos (c := inI a) ⟨by omega, ha⟩, if_neg (by simp only [ne_eq, not_true_eq_false, false_or]; exact hn)]
        by_cases hb : b ≤ 9223372036854775807
        · rw [if_pos (c := inI b) ⟨by omega, hb⟩]
          rw [cnd_f (by simp [bnot, ieq]), e_num_Max, ob_some, if_pos (by omega)]
        · rw [if_neg (c := inI b) (by unfold inI; omega)]
          rw [cnd_t (by simp [bnot, ieq]), if_neg (by omega)]
      · rw [if_neg (c := inI a) (by unfold inI; omega), if_pos (.inl (by decide)), if_neg (by omega)]
/-- The first order that has a number. -/
def findZ (l : List SOrder) (n : Int) : Option Nat := l.findIdx? fun o => o.id == n
def findI (l : List SOrder) (n : Int) : Int := match findZ l n with | some k => k | none => -1
theorem findZ_some {l : List SOrder} {n : Int} {k : Nat} (h : findZ l n = some k) : ∃ hk : k < l.length, l[k].id = n := by
  unfold findZ at h
  rw [List.findIdx?_eq_some_iff_getElem] at h
  obtain ⟨hk, h1, _⟩ := h
  exact ⟨hk, by simpa using h1⟩
theorem findI_some {l : List SOrder} {n : Int} {k : Nat} (h : findZ l n = some k) : findI l n = k := by unfold findI; rw [h]
theorem findI_none {l : List SOrder} {n : Int} (h : findZ l n = none) : findI l n = -1 := by unfold findI; rw [h]
def phaseZ (o : SOrder) (f : Int) : SOrder := ⟨o.id, o.account, o.symbol, o.side, o.qty, o.price, o.filled, f, o.newQty, o.newPrice, o.version, o.asked⟩
def noteR (n : SNote) : SRec := ⟨6, n.order, 0, 0, 0, n.qty, n.price, 0, 0, 0, false, n.seq, n.what⟩
theorem clone_Order {l : List SOrder} (h : l.length < 1000000) : F_slices_Clone_api_Order l = some l := nilq_clone h
def covX (a b : SExpo) : Prop := b.long ≤ a.long ∧ b.short ≤ a.short ∧ b.opn ≤ a.opn
instance (a b : SExpo) : Decidable (covX a b) := by unfold covX; infer_instance
theorem e_cell_Covers (a b : SExpo) : F_cell_Covers a b = some (decide (covX a b)) := by
  refine Wq.dec ?_
  unfold F_cell_Covers covX
  simp only [w_some, band_T, band_F, bor_T, bor_F, bnot_T, bnot_F, ilt_T, ilt_F, ile_T, ile_F, ieq_T, ieq_F, beq_T, beq_F]
  grind
def msgP (m : SMsg) : Prop := knownP m.order ∧ (0 ≤ m.account ∧ m.account < 8) ∧ (0 ≤ m.symbol ∧ m.symbol < 8) ∧ (m.side = 1 ∨ m.side = 2) ∧ (0 ≤ m.lsn ∧ m.lsn ≤ 1000000000) ∧
  ((m.kind = 1 ∧ 1 ≤ m.qty ∧ 1 ≤ m.price ∧ m.version = 0) ∨ (m.kind = 2 ∧ 1 ≤ m.qty ∧ 1 ≤ m.price ∧ 1 ≤ m.version) ∨ (m.kind = 3 ∧ m.qty = 0 ∧ m.price = 0 ∧ m.version = 0))
instance (m : SMsg) : Decidable (msgP m) := by unfold msgP knownP; infer_instance
theorem s_msg (m : SMsg) : Wq (F_venue_RightMsg m) fun b => b = true ↔ msgP m := by
  unfold F_venue_RightMsg msgP knownP
  simp only [w_bind, w_cnd, w_some, band_T, band_F, bor_T, bor_F, bnot_T, bnot_F, ilt_T, ilt_F, ile_T, ile_F, ieq_T, ieq_F, beq_T, beq_F, true_implies, ne_eq, not_true_eq_false, false_implies, and_true, true_and, or_self, reduceCtorEq]
  grind
theorem e_msg (m : SMsg) : F_venue_RightMsg m = some (decide (msgP m)) := (s_msg m).dec
/-- A loop that asks something of each. -/
theorem w_all {n : Nat} (hn : n < 999999) {step : Int × Bool → Option ((Int × Bool) ⊕ (Bool ⊕ Bool))} (P : Nat → Prop)
    (h : ∀ (i : Nat) (q : Bool), i < n → (∀ j, j < i → P j) → Wq (step ((i : Int), q)) fun r => match r with | .inl (k, _) => k = ((i + 1 : Nat) : Int) ∧ P i | .inr (.inl b) => b = false ∧ ¬ P i | .inr (.inr _) => False)
    (he : ∀ q : Bool, Wq (step ((n : Int), q)) fun r => match r with | .inr (.inr _) => True | _ => False) (q0 : Bool) :
    Wq (iterN step LF ((0 : Int), q0)) fun w => match w with | .inl b => b = false ∧ ¬ ∀ i, i < n → P i | .inr _ => ∀ i, i < n → P i := by
  refine w_for (n := n) hn (fun i _ => ∀ j, j < i → P j) _ (fun i q hi hj => (h i q hi hj).mono fun r hr => ?_) (fun q hj => (he q).mono fun r hr => ?_) q0 0 (Nat.zero_le _) (fun j hj => by omega)
  · match r, hr with
    | .inl (k, _), hr =>
      refine ⟨hr.1, fun j hj2 => ?_⟩
      by_cases e : j = i
      · subst e; exact hr.2
      · exact hj j (by omega)
    | .inr (.inl b), hr => exact ⟨hr.1, fun g => hr.2 (g i hi)⟩
    | .inr (.inr _), hr => exact hr.elim
  · match r, hr with
    | .inl _, hr => exact hr.elim
    | .inr (.inl b), hr => exact hr.elim
    | .inr (.inr _), _ => exact hj
def noteP (l : List SNote) (i : Nat) : Prop := ∀ h : i < l.length, l[i].seq = ((i + 1 : Nat) : Int) ∧ recP (noteR l[i])
def setP (o : SOrder) : Prop := ordP o ∧ o.phase ≠ 1 ∧ o.newQty = 0 ∧ o.asked = false
instance (o : SOrder) : Decidable (setP o) := by unfold setP; infer_instance
def setsP (l : List SOrder) (i : Nat) : Prop := ∀ h : i < l.length, setP l[i] ∧ ∀ _ : 0 < i, (l[i - 1]'(by omega)).id < l[i].id
def inP (l : List SMsg) (i : Nat) : Prop := ∀ h : i < l.length, msgP l[i]
def venP (v : SVenue) : Prop := (v.inbox.length ≤ 400 ∧ v.notes.length ≤ 400 ∧ v.orders.length ≤ 400) ∧ (∀ i, i < v.notes.length → noteP v.notes i) ∧ (∀ i, i < v.orders.length → setsP v.orders i) ∧ ∀ i, i < v.inbox.length → inP v.inbox i
theorem e_settled (o : SOrder) : F_venue_settled o = some (decide (setP o)) := by
  refine Wq.dec ?_
  unfold F_venue_settled setP
  rw [e_order_Right, ob_some, w_some]
  simp only [band_T, band_F, bor_T, bor_F, bnot_T, bnot_F, ilt_T, ilt_F, ile_T, ile_F, ieq_T, ieq_F, beq_T, beq_F, decide_eq_true_eq, ne_eq]
  grind
theorem len_end {α : Type} (l : List α) : ilt ((l.length : Nat) : Int) (len l) = false := by
  rw [show ((l.length : Nat) : Int) = len l from rfl]; simp [ilt]
theorem s_notes (l : List SNote) (hl : l.length < 999999) (q0 : Bool) : Wq (iterN (fun v : Int × Bool => L_venue_Right_58 (len l) l v.fst v.snd) LF (0, q0)) fun w => match w with | .inl b => b = false ∧ ¬ ∀ i, i < l.length → noteP l i | .inr _ => ∀ i, i < l.length → noteP l i := by
  refine w_all (step := fun v : Int × Bool => L_venue_Right_58 (len l) l v.fst v.snd) hl (noteP l) (fun i q hi hj => ?_) (fun q => ?_) q0
  · simp only [L_venue_Right_58]
    rw [cnd_t (by rw [ilt_nat]; simpa using hi), cnd_t (inb l i hi), lget_nat l i hi, wr_succ (by omega)]
    by_cases hs : l[i].seq = ((i + 1 : Nat) : Int)
    · rw [hs, ieq_refl, bnot_true, bnot_false, cnd_true, show F_rec_OfNote l[i] = some (noteR l[i]) from rfl, ob_some, cnd_true]
      refine (s_rec_Right _).bind fun b hb => ?_
      rw [bor_false, w_cnd, w_some, w_some]
      refine ⟨fun h => ⟨rfl, fun g => ?_⟩, fun h => ⟨rfl, fun _ => ⟨hs, ?_⟩⟩⟩
      · rw [bnot_T] at h; subst h
        have := hb.2 (g hi).2; cases this
      · rw [bnot_F] at h
        exact hb.1 h
    · have e : ieq l[i].seq ((i + 1 : Nat) : Int) = false := by simpa [ieq] using hs
      rw [e, bnot_false, bnot_true, cnd_false, ob_some, cnd_false, ob_some, bor_true, cnd_true, w_some]
      exact ⟨rfl, fun g => hs (g hi).1⟩
  · simp only [L_venue_Right_58]
    rw [cnd_f (len_end l), w_some]
    trivial
theorem wr_pred {i : Nat} (h0 : 0 < i) (h : i < 1000000) : wr .i64 (isub (i : Int) 1) = ((i - 1 : Nat) : Int) := by
  unfold isub
  rw [wr_small (by omega) (by omega)]; omega
theorem s_sets (v : SVenue) (hl : v.orders.length < 999999) (q0 : Bool) : Wq (iterN (fun x : Int × Bool => L_venue_Right_122 (len v.orders) v.orders v x.fst x.snd) LF (0, q0)) fun w => match w with | .inl b => b = false ∧ ¬ ∀ i, i < v.orders.length → setsP v.orders i | .inr _ => ∀ i, i < v.orders.length → setsP v.orders i := by
  refine w_all (step := fun x : Int × Bool => L_venue_Right_122 (len v.orders) v.orders v x.fst x.snd) hl (setsP v.orders) (fun i q hi hj => ?_) (fun q => ?_) q0
  · simp only [L_venue_Right_122]
    rw [cnd_t (by rw [ilt_nat]; simpa using hi), cnd_t (inb v.orders i hi), lget_nat _ i hi, e_settled, ob_some]
    by_cases h0 : 0 < i
    · have c2 : band (ile 0 ((i - 1 : Nat) : Int)) (ilt ((i - 1 : Nat) : Int) (len v.orders)) = true := inb v.orders (i - 1) (by omega)
      rw [wr_pred h0 (by omega), cnd_t (by rw [bor_T]; exact .inl c2), lget_nat v.orders (i - 1) (by omega)]
      simp only [w_bind, w_cnd, w_some, band_T, band_F, bor_T, bor_F, bnot_T, bnot_F, ilt_T, ilt_F, ile_T, ile_F, ieq_T, ieq_F, beq_T, beq_F, true_implies, ne_eq, not_true_eq_false, false_implies, and_true, true_and, or_self, reduceCtorEq]
      refine ⟨fun h => fun g => ?_, fun h => ⟨wr_succ (by omega), fun _ => ⟨by simpa using h.1, fun _ => ?_⟩⟩⟩
      · have g1 := g hi
        rcases h with h | h
        · simp [g1.1] at h
        · have := g1.2 h0; omega
      · rcases h.2 with h2 | h2 <;> omega
    · have hz : i = 0 := by omega
      subst hz
      rw [cnd_t (by simp [bor, band, bnot, ilt])]
      simp only [w_bind, w_cnd, w_some, band_T, band_F, bor_T, bor_F, bnot_T, bnot_F, ilt_T, ilt_F, ile_T, ile_F, ieq_T, ieq_F, beq_T, beq_F, true_implies, ne_eq, not_true_eq_false, false_implies, and_true, true_and, or_self, reduceCtorEq]
      refine ⟨fun h => fun g => ?_, fun h => ⟨wr_succ (by omega), fun _ => ⟨by simpa using h.1, fun h => by omega⟩⟩⟩
      have g1 := g hi
      rcases h with h | h
      · simp [g1.1] at h
      · have := h.1; omega
  · simp only [L_venue_Right_122]
    rw [cnd_f (len_end _), w_some]
    trivial
theorem s_inbox (l : List SMsg) (hl : l.length < 999999) : Wq (iterN (fun x : Int × Int => L_venue_Right_26_slices_IndexFunc_api_Msg_c166_c172 (len l) l x.fst x.snd) LF (0, 0)) fun w => match w with | .inl b => 0 ≤ b ∧ ¬ ∀ i, i < l.length → inP l i | .inr _ => ∀ i, i < l.length → inP l i := by
  refine w_for (n := l.length) (step := fun x : Int × Int => L_venue_Right_26_slices_IndexFunc_api_Msg_c166_c172 (len l) l x.fst x.snd) hl (fun i _ => ∀ j, j < i → inP l j) _ (fun i q hi hj => ?_) (fun q hj => ?_) 0 0 (Nat.zero_le _) (fun j hj => by omega)
  · simp only [L_venue_Right_26_slices_IndexFunc_api_Msg_c166_c172]
    rw [cnd_t (by rw [ilt_nat]; simpa using hi), cnd_t (inb l i hi), lget_nat l i hi, e_msg, ob_some]
    simp only [w_bind, w_cnd, w_some, band_T, band_F, bor_T, bor_F, bnot_T, bnot_F, ilt_T, ilt_F, ile_T, ile_F, ieq_T, ieq_F, beq_T, beq_F, true_implies, ne_eq, not_true_eq_false, false_implies, and_true, true_and, or_self, reduceCtorEq]
    refine ⟨fun h => ⟨by omega, fun g => ?_⟩, fun h => ⟨wr_succ (by omega), fun j hj2 => ?_⟩⟩
    · have := g i hi hi
      simp [this] at h
    · by_cases e : j = i
      · subst e; exact fun _ => by simpa using h
      · exact hj j (by omega)
  · simp only [L_venue_Right_26_slices_IndexFunc_api_Msg_c166_c172]
    rw [cnd_f (len_end _), w_some]
    exact hj
theorem s_venue_Right (v : SVenue) (h1 : v.inbox.length < 999999) (h2 : v.notes.length < 999999) (h3 : v.orders.length < 999999) : Wq (F_venue_Right v) fun b => b = true ↔ venP v := by
  unfold F_venue_Right venP
  rw [w_cnd]
  refine ⟨fun h => (w_some _).2 ?_, fun h => ?_⟩
  · simp only [band_T, band_F, bor_T, bor_F, bnot_T, bnot_F, ilt_T, ilt_F, ile_T, ile_F, ieq_T, ieq_F, beq_T, beq_F, len] at h
    constructor
    · intro g; cases g
    · intro g; omega
  simp only [band_T, band_F, bor_T, bor_F, bnot_T, bnot_F, ilt_T, ilt_F, ile_T, ile_F, ieq_T, ieq_F, beq_T, beq_F, len] at h
  refine Wq.bind (s_notes v.notes h2 false) fun w hw => ?_
  match w, hw with
  | .inl b, hh => simp only [sumK, w_some]; simp [hh.1]; intro _ _ _ g; exact absurd g hh.2
  | .inr q, hn =>
  simp only [sumK]
  refine Wq.bind (s_sets v h3 q) fun w hw => ?_
  match w, hw with
  | .inl b, hh => simp only [sumK, w_some]; simp [hh.1]; intro _ _ _ _ g; exact absurd g hh.2
  | .inr q, hs =>
  simp only [sumK]
  refine Wq.bind (s_inbox v.inbox h1) fun w hw => ?_
  match w, hw with
  | .inl b, hh =>
    simp only [sumK, w_some]
    rw [ile_t hh.1, bnot_true]
    simp; intro _ _ _ _ _; have := hh.2; simpa using this
  | .inr q, hi =>
    simp only [sumK, w_some]
    simp only [true_iff]
    exact ⟨⟨by omega, by omega, by omega⟩, hn, hs, hi⟩
noncomputable instance (v : SVenue) : Decidable (venP v) := Classical.propDecidable _
theorem e_venue_Right {v : SVenue} (h1 : v.inbox.length < 999999) (h2 : v.notes.length < 999999) (h3 : v.orders.length < 999999) : F_venue_Right v = some (decide (venP v)) := (s_venue_Right v h1 h2 h3).dec
/-- What is known of the orders. -/
theorem venP.ord {v : SVenue} (h : venP v) {o : SOrder} (ho : o ∈ v.orders) : setP o := by
  obtain ⟨i, hi, rfl⟩ := List.mem_iff_getElem.1 ho
  exact (h.2.2.1 i hi hi).1
theorem venP.msg {v : SVenue} (h : venP v) {m : SMsg} (hm : m ∈ v.inbox) : msgP m := by
  obtain ⟨i, hi, rfl⟩ := List.mem_iff_getElem.1 hm
  exact h.2.2.2 i hi hi
theorem e_venue_Find (V : SVenue) (n : Int) (hl : V.orders.length < 999999) : F_venue_Find V n = some (findI V.orders n) := by
  refine Wq.eq ?_
  unfold F_venue_Find
  refine Wq.bind (Q := fun w : Int ⊕ Int => match w with
      | .inl k => ∃ i : Nat, k = i ∧ ∃ h : i < V.orders.length, V.orders[i].id = n ∧ ∀ j, (h : j < V.orders.length) → j < i → V.orders[j].id ≠ n
      | .inr _ => ∀ j, (h : j < V.orders.length) → V.orders[j].id ≠ n)
    (w_for (n := V.orders.length) (step := fun v : Int × Int => L_venue_Find_26_slices_IndexFunc_api_Order_c10 (len V.orders) V.orders n v.fst v.snd) (by omega) (fun i x => ∀ j, (h : j < V.orders.length) → j < i → V.orders[j].id ≠ n) _ ?_ ?_ _ 0 (Nat.zero_le _) (fun j _ h => by omega)) ?_
  · rintro i x hi hx
    simp only [L_venue_Find_26_slices_IndexFunc_api_Order_c10]
    rw [cnd_t (by rw [ilt_nat]; simpa using hi), cnd_t (inb _ i hi), lget_nat _ i hi, w_cnd]
    refine ⟨fun he => (w_some _).2 ⟨i, rfl, hi, by simpa [ieq] using he, hx⟩, fun he => (w_some _).2 ⟨wr_succ (by omega), fun j hj hji => ?_⟩⟩
    by_cases e : j = i
    · subst e; simpa [ieq] using he
    · exact hx j hj (by omega)
  · rintro x hx
    simp only [L_venue_Find_26_slices_IndexFunc_api_Order_c10]
    rw [cnd_f (by rw [ilt_nat]; simp), w_some]
    exact fun j hj => hx j hj hj
  · rintro w hw
    cases w with
    | inl k =>
      obtain ⟨i, rfl, hi, h1, h2⟩ := hw
      have : findZ V.orders n = some i := by
        unfold findZ
        rw [List.findIdx?_eq_some_iff_getElem]
        exact ⟨hi, by simpa using h1, fun j hj => by simpa using h2 j (by omega) hj⟩
      simp only [sumK, w_some, findI, this]
    | inr k =>
      have : findZ V.orders n = none := by
        unfold findZ
        rw [List.findIdx?_eq_none_iff]
        intro o ho
        obtain ⟨j, hj, rfl⟩ := List.getElem_of_mem ho
        simpa using hw j hj
      simp only [sumK, w_some, findI, this]
theorem coming_cons (ks : List Int) (m : SMsg) (r : List SMsg) : comingZ ks (m :: r) = if m.order ∈ ks ∨ m.kind ≠ 1 then comingZ ks r else ⟨m.order, m.account, m.symbol, m.side, m.qty, m.price, 0, 2, 0, 0, 0, false⟩ :: comingZ (m.order :: ks) r := rfl
theorem coming_len : ∀ (ks : List Int) (l : List SMsg), (comingZ ks l).length ≤ l.length
  | _, [] => Nat.le_refl _
  | ks, m :: r => by
    unfold comingZ
    split
    · exact Nat.le_succ_of_le (coming_len ks r)
    · exact Nat.succ_le_succ (coming_len _ r)
theorem rngB_t {n : Int} (h : inI n) : rngB n = true := by
  unfold rngB
  exact band_t (ile_t h.1) (ile_t h.2)
theorem e_Coming {v : SVenue} (h1 : v.inbox.length < 999999) (h3 : v.orders.length < 999999) (ho : ∀ o ∈ v.orders, inI o.id) (hm : ∀ m ∈ v.inbox, inI m.order) : F_truth_coming v = some (comingZ (v.orders.map (·.id)) v.inbox) := by
  unfold F_truth_coming comingF
  rw [cnd_t (band_t (band_t (ile_t (by simp only [len]; omega)) (ile_t (by simp only [len]; omega))) (band_t (List.all_eq_true.2 fun o h => rngB_t (ho o h)) (List.all_eq_true.2 fun m h => rngB_t (hm m h))))]
/-- What is known of those that come. -/
theorem coming_mem {o : SOrder} : ∀ {ks : List Int} {l : List SMsg}, o ∈ comingZ ks l → o.id ∉ ks ∧ ∃ m ∈ l, m.kind = 1 ∧ o = ⟨m.order, m.account, m.symbol, m.side, m.qty, m.price, 0, 2, 0, 0, 0, false⟩
  | _, [], h => by simp [comingZ] at h
  | ks, m :: r, h => by
    unfold comingZ at h
    split at h
    · obtain ⟨h1, q, h2, h3⟩ := coming_mem h
      exact ⟨h1, q, List.mem_cons_of_mem _ h2, h3⟩
    · rename_i hn
      rcases List.mem_cons.1 h with rfl | h
      · refine ⟨fun g => hn (.inl g), m, List.mem_cons_self, ?_, rfl⟩
        exact Decidable.byContradiction fun g => hn (.inr g)
      · obtain ⟨h1, q, h2, h3⟩ := coming_mem h
        exact ⟨fun g => h1 (List.mem_cons_of_mem _ g), q, List.mem_cons_of_mem _ h2, h3⟩
def sumL : List Int → Int
  | [] => 0
  | a :: r => a + sumL r
theorem sumL_app : ∀ (a b : List Int), sumL (a ++ b) = sumL a + sumL b
  | [], b => by simp [sumL]
  | x :: a, b => by simp only [List.cons_append, sumL, sumL_app a b]; omega
theorem sumL_nn : ∀ {l : List Int}, (∀ x ∈ l, 0 ≤ x) → 0 ≤ sumL l
  | [], _ => Int.le_refl _
  | a :: r, h => by
    have := h a List.mem_cons_self
    have := sumL_nn fun x hx => h x (List.mem_cons_of_mem a hx)
    simp only [sumL]; omega
theorem sumL_take {l : List Int} {i : Nat} (hi : i < l.length) : sumL (l.take (i + 1)) = sumL (l.take i) + l[i] := by
  rw [List.take_succ_eq_append_getElem hi, sumL_app]; simp [sumL]
theorem sumL_drop {l : List Int} {i : Nat} (hi : i < l.length) (h : ∀ x ∈ l, 0 ≤ x) : sumL (l.take i) + l[i] ≤ sumL l := by
  have h1 : sumL l = sumL (l.take (i + 1)) + sumL (l.drop (i + 1)) := by rw [← sumL_app, List.take_append_drop]
  have h2 : 0 ≤ sumL (l.drop (i + 1)) := sumL_nn fun x hx => h x (List.mem_of_mem_drop hx)
  rw [sumL_take hi] at h1
  omega
def hereP (o : SOrder) (a y : Int) : Prop := o.account = a ∧ o.symbol = y
instance (o : SOrder) (a y : Int) : Decidable (hereP o a y) := by unfold hereP; infer_instance
def boughtL (l : List SOrder) (a y : Int) : List Int := (l.filter fun o => decide (hereP o a y ∧ o.side = 1)).map (·.filled)
def soldL (l : List SOrder) (a y : Int) : List Int := (l.filter fun o => decide (hereP o a y ∧ o.side ≠ 1)).map (·.filled)
def posZ (l : List SOrder) (a y : Int) : Int := sumL (boughtL l a y) - sumL (soldL l a y)
theorem fil_succ {α : Type} (p : α → Bool) {l : List α} {i : Nat} (hi : i < l.length) : (l.take (i + 1)).filter p = (l.take i).filter p ++ if p l[i] then [l[i]] else [] := by
  rw [List.take_succ_eq_append_getElem hi, List.filter_append]
  congr 1
  by_cases h : p l[i] <;> simp [h]
theorem bought_succ {l : List SOrder} {a y : Int} {i : Nat} (hi : i < l.length) : boughtL (l.take (i + 1)) a y = boughtL (l.take i) a y ++ if hereP l[i] a y ∧ l[i].side = 1 then [l[i].filled] else [] := by
  unfold boughtL
  rw [fil_succ _ hi, List.map_append]
  congr 1
  by_cases h : hereP l[i] a y ∧ l[i].side = 1
  · rw [if_pos h, if_pos (by simpa using h)]; rfl
  · rw [if_neg h, if_neg (by simpa using h)]; rfl
theorem sold_succ {l : List SOrder} {a y : Int} {i : Nat} (hi : i < l.length) : soldL (l.take (i + 1)) a y = soldL (l.take i) a y ++ if hereP l[i] a y ∧ l[i].side ≠ 1 then [l[i].filled] else [] := by
  unfold soldL
  rw [fil_succ _ hi, List.map_append]
  congr 1
  by_cases h : hereP l[i] a y ∧ l[i].side ≠ 1
  · rw [if_pos h, if_pos (by simpa using h)]; rfl
  · rw [if_neg h, if_neg (by simpa using h)]; rfl
theorem bought_len (l : List SOrder) (a y : Int) : (boughtL l a y).length ≤ l.length := by
  unfold boughtL; rw [List.length_map]; exact List.length_filter_le _ _
theorem sold_len (l : List SOrder) (a y : Int) : (soldL l a y).length ≤ l.length := by
  unfold soldL; rw [List.length_map]; exact List.length_filter_le _ _
theorem bought_mem {l : List SOrder} {a y x : Int} (h : x ∈ boughtL l a y) : ∃ o ∈ l, o.filled = x := by
  unfold boughtL at h
  obtain ⟨o, h1, h2⟩ := List.mem_map.1 h
  exact ⟨o, (List.mem_filter.1 h1).1, h2⟩
theorem sold_mem {l : List SOrder} {a y x : Int} (h : x ∈ soldL l a y) : ∃ o ∈ l, o.filled = x := by
  unfold soldL at h
  obtain ⟨o, h1, h2⟩ := List.mem_map.1 h
  exact ⟨o, (List.mem_filter.1 h1).1, h2⟩
/-- What was bought less what was sold. -/
theorem s_pos (B S : List Int) (x5 x6 x7 : Int) (hB : B.length < 400000) (hS : S.length < 400000) (nB : ∀ x ∈ B, 0 ≤ x ∧ inI x) (nS : ∀ x ∈ S, 0 ≤ x ∧ inI x) :
    Wq (iterN (fun v : Int × Int × Int × List Int × List Int × Int × Int × Int × Int => L_truth_Pos_26_truth_sums_pos_c98 v.fst v.snd.fst v.snd.snd.fst v.snd.snd.snd.fst v.snd.snd.snd.snd.fst v.snd.snd.snd.snd.snd.fst v.snd.snd.snd.snd.snd.snd.fst v.snd.snd.snd.snd.snd.snd.snd.fst v.snd.snd.snd.snd.snd.snd.snd.snd) LF (0, 0, 0, B, S, x5, x6, x7, 0))
      fun w => w.2 = (B, S, x5, x6, x7, if inI (sumL B - sumL S) then 0 else 3) ∧ (inI (sumL B - sumL S) → w.1 = sumL B - sumL S) := by
  have hBn : ∀ x ∈ B, 0 ≤ x := fun x hx => (nB x hx).1
  have hSn : ∀ x ∈ S, 0 ≤ x := fun x hx => (nS x hx).1
  refine w_iter (fun v : Int × Int × Int × List Int × List Int × Int × Int × Int × Int => if v.2.2.2.2.2.2.2.2 = 0 then 1 + (B.length - v.2.1.toNat) + (S.length - v.1.toNat) else 0)
    (fun v => ∃ k i : Nat, v.1 = (k : Int) ∧ v.2.1 = (i : Int) ∧ i ≤ B.length ∧ k ≤ S.length ∧ v.2.2.2.1 = B ∧ v.2.2.2.2.1 = S ∧ v.2.2.2.2.2.1 = x5 ∧ v.2.2.2.2.2.2.1 = x6 ∧ v.2.2.2.2.2.2.2.1 = x7 ∧
      ((v.2.2.2.2.2.2.2.2 = 0 ∧ v.2.2.1 = sumL (B.take i) - sumL (S.take k) ∧ inI v.2.2.1) ∨ (v.2.2.2.2.2.2.2.2 = 3 ∧ ¬ inI (sumL B - sumL S)))) _ ?_ LF _ (lt_LF (by simp only [if_true]; omega)) ⟨0, 0, rfl, rfl, Nat.zero_le _, Nat.zero_le _, rfl, rfl, rfl, rfl, rfl, .inl ⟨rfl, by simp [sumL], by unfold inI; simp⟩⟩
  rintro ⟨k', i', n, B', S', y5, y6, y7, e⟩ ⟨k, i, rfl, rfl, hi, hk, rfl, rfl, rfl, rfl, rfl, hJ⟩
  simp only at hi hk hB hS nB nS hBn hSn hJ
  simp only [L_truth_Pos_26_truth_sums_pos_c98]
  rcases hJ with ⟨rfl, hn, hnI⟩ | ⟨rfl, hbad⟩
  · rw [ieq_refl, band_true]
    by_cases hgo : i < B'.length ∨ k < S'.length
    · rw [cnd_t (by rw [bor_T, ilt_T, ilt_T]; simp only [len]; omega)]
      by_cases hadd : k = S'.length ∨ n < 0 ∧ i < B'.length
      · have hiB : i < B'.length := by rcases hadd with h | h <;> omega
        rw [cnd_t (by rw [bor_T, band_T, ieq_T, ilt_T, ilt_T]; simp only [len]; omega), cnd_t (inb B' i hiB), lget_nat B' i hiB]
        have hb := nB B'[i] (List.getElem_mem hiB)
        rw [e_num_Add hnI hb.2, ob_some, w_some]
        have ht := sumL_take hiB
        have hd := sumL_drop hiB hBn
        by_cases hin : inI (n + B'[i])
        · rw [if_pos hin]
          exact ⟨⟨k, i + 1, rfl, wr_succ (by omega), hiB, hk, rfl, rfl, rfl, rfl, rfl, .inl ⟨rfl, by simp only; rw [ht]; omega, hin⟩⟩, by simp only [if_true]; rw [wr_succ (by omega)]; omega⟩
        · rw [if_neg hin]
          refine ⟨⟨k, i + 1, rfl, wr_succ (by omega), hiB, hk, rfl, rfl, rfl, rfl, rfl, .inr ⟨rfl, fun g => hin ?_⟩⟩, by simp; omega⟩
          unfold inI at *
          rcases hadd with h | h
          · have : S'.take k = S' := by rw [h, List.take_length]
            rw [this] at hn
            omega
          · omega
      · have hkS : k < S'.length := by
          refine Decidable.byContradiction fun g => hadd (.inl (by omega))
        rw [cnd_f (by rw [bor_F, band_F, ieq_F, ilt_F, ilt_F]; simp only [len, ne_eq]; omega), cnd_t (inb S' k hkS), lget_nat S' k hkS]
        have hb := nS S'[k] (List.getElem_mem hkS)
        rw [e_num_Sub hnI hb.2, ob_some, w_some]
        have ht := sumL_take hkS
        have hd := sumL_drop hkS hSn
        by_cases hin : inI (n - S'[k])
        · rw [if_pos hin]
          exact ⟨⟨k + 1, i, wr_succ (by omega), rfl, hi, hkS, rfl, rfl, rfl, rfl, rfl, .inl ⟨rfl, by simp only; rw [ht]; omega, hin⟩⟩, by simp only [if_true]; rw [wr_succ (by omega)]; omega⟩
        · rw [if_neg hin]
          refine ⟨⟨k + 1, i, wr_succ (by omega), rfl, hi, hkS, rfl, rfl, rfl, rfl, rfl, .inr ⟨rfl, fun g => hin ?_⟩⟩, by simp; omega⟩
          unfold inI at *
          by_cases h0 : n < 0
          · have hiB : i = B'.length := by
              refine Decidable.byContradiction fun g => hadd (.inr ⟨h0, by omega⟩)
            have : B'.take i = B' := by rw [hiB, List.take_length]
            rw [this] at hn
            omega
          · omega
    · rw [cnd_f (by rw [bor_F, ilt_F, ilt_F]; simp only [len]; omega), w_some]
      have h1 : B'.take i = B' := by rw [show i = B'.length by omega, List.take_length]
      have h2 : S'.take k = S' := by rw [show k = S'.length by omega, List.take_length]
      rw [h1, h2] at hn
      subst hn
      rw [if_pos hnI]
      exact ⟨rfl, fun _ => rfl⟩
  · rw [cnd_f (by rw [band_F, ieq_F]; left; decide), w_some]
    rw [if_neg hbad]
    exact ⟨rfl, fun g => absurd g hbad⟩
theorem e_may {v : SVenue} (h1 : v.inbox.length < 999999) (h2 : v.notes.length < 999999) (h3 : v.orders.length < 999999) (a y : Int) : F_truth_may v a y = some (decide (venP v ∧ (0 ≤ a ∧ a < 8) ∧ 0 ≤ y ∧ y < 8)) := by
  refine Wq.dec ?_
  unfold F_truth_may
  rw [e_venue_Right h1 h2 h3, ob_some, w_some]
  simp only [band_T, band_F, bor_T, bor_F, bnot_T, bnot_F, ilt_T, ilt_F, ile_T, ile_F, ieq_T, ieq_F, beq_T, beq_F, decide_eq_true_eq]
  grind
theorem filled_ok {l : List SOrder} (h : ∀ o ∈ l, ordP o) (hr : ∀ o ∈ l, Ok_order o) (a y : Int) : (∀ x ∈ boughtL l a y, 0 ≤ x ∧ inI x) ∧ ∀ x ∈ soldL l a y, 0 ≤ x ∧ inI x := by
  constructor
  · intro x hx
    obtain ⟨o, ho, rfl⟩ := bought_mem hx
    exact ⟨(h o ho).2.1, (hr o ho).filled⟩
  · intro x hx
    obtain ⟨o, ho, rfl⟩ := sold_mem hx
    exact ⟨(h o ho).2.1, (hr o ho).filled⟩
def MX : Int := 9223372036854775807
def swapZ (o : SOrder) (m : SMsg) : SOrder := ⟨o.id, o.account, o.symbol, o.side, o.qty, o.price, o.filled, o.phase, m.qty, m.price, o.version, o.asked⟩
def asksP (o : SOrder) (m : SMsg) : Prop := m.kind = 2 ∧ m.order = o.id ∧ o.version < m.version
instance (o : SOrder) (m : SMsg) : Decidable (asksP o m) := by unfold asksP; infer_instance
def mostA (f : SOrder → Int) (o : SOrder) : List SMsg → Int
  | [] => f o
  | m :: r => if asksP o m then max (f (swapZ o m)) (mostA f o r) else mostA f o r
def openA (o : SOrder) (l : List SMsg) : Int := mostA openZ o l
def worthA (o : SOrder) (l : List SMsg) : Int := mostA worthZ o l
theorem most_app (f : SOrder → Int) (o : SOrder) (m : SMsg) : ∀ l : List SMsg, mostA f o (l ++ [m]) = if asksP o m then max (mostA f o l) (f (swapZ o m)) else mostA f o l
  | [] => by
    simp only [List.nil_append, mostA]
    split
    · omega
    · rfl
  | x :: r => by
    simp only [List.cons_append, mostA, most_app f o m r]
    split <;> split <;> omega
theorem most_self (f : SOrder → Int) (o : SOrder) : ∀ l : List SMsg, f o ≤ mostA f o l
  | [] => Int.le_refl _
  | m :: r => by
    have := most_self f o r
    unfold mostA; split <;> omega
theorem most_mem (f : SOrder → Int) (o : SOrder) {m : SMsg} (hm : asksP o m) : ∀ {l : List SMsg}, m ∈ l → f (swapZ o m) ≤ mostA f o l
  | x :: r, h => by
    unfold mostA
    rcases List.mem_cons.1 h with rfl | h
    · rw [if_pos hm]; omega
    · have := most_mem f o hm h
      split <;> omega
/-- It's the least. -/
theorem most_le (f : SOrder → Int) (o : SOrder) {n : Int} (h0 : f o ≤ n) : ∀ {l : List SMsg}, (∀ m ∈ l, asksP o m → f (swapZ o m) ≤ n) → mostA f o l ≤ n
  | [], _ => h0
  | m :: r, h => by
    have h1 := most_le f o h0 fun x hx => h x (List.mem_cons_of_mem m hx)
    have h2 := h m List.mem_cons_self
    unfold mostA
    split
    · rename_i g
      have := h2 g; omega
    · exact h1
theorem most_sub (f : SOrder → Int) (o : SOrder) {l r : List SMsg} (h : ∀ m ∈ l, m ∈ r) : mostA f o l ≤ mostA f o r :=
  most_le f o (most_self f o r) fun m hm hq => most_mem f o hq (h m hm)
theorem most_succ (f : SOrder → Int) (o : SOrder) {l : List SMsg} {i : Nat} (hi : i < l.length) : mostA f o (l.take (i + 1)) = if asksP o l[i] then max (mostA f o (l.take i)) (f (swapZ o l[i])) else mostA f o (l.take i) := by
  rw [List.take_succ_eq_append_getElem hi, most_app]
/-- An order and what waits for it are right. -/
def askR (l : List SMsg) (o : SOrder) : Prop := ordP o ∧ Ok_order o ∧ ∀ m ∈ l, asksP o m → ordP (swapZ o m) ∧ Ok_order (swapZ o m)
theorem openA_rng {l : List SMsg} {o : SOrder} (h : askR l o) : 0 ≤ openA o l ∧ openA o l ≤ MX := by
  have h1 := most_self openZ o l
  have h2 := openZ_rng h.1 h.2.1
  refine ⟨by unfold openA; omega, most_le openZ o h2.2 fun m hm hq => ?_⟩
  exact (openZ_rng (h.2.2 m hm hq).1 (h.2.2 m hm hq).2).2
theorem worthA_nn {l : List SMsg} {o : SOrder} (h : ordP o) : 0 ≤ worthA o l := by
  have h1 := most_self worthZ o l
  have h2 := worthZ_nn h
  unfold worthA; omega
theorem asks_c (o : SOrder) (m : SMsg) : band (band (ieq m.kind 2) (ieq m.order o.id)) (ilt o.version m.version) = decide (asksP o m) := by
  rw [Bool.eq_iff_iff, decide_eq_true_iff]
  simp only [band_T, band_F, bor_T, bor_F, bnot_T, bnot_F, ilt_T, ilt_F, ile_T, ile_F, ieq_T, ieq_F, beq_T, beq_F, asksP, and_assoc]
theorem s_asked {v : SVenue} {o : SOrder} (h1 : v.inbox.length < 999999) (h : askR v.inbox o) : Wq (F_truth_asked v o) fun w => (worthA o v.inbox ≤ MX → w = (openA o v.inbox, worthA o v.inbox, 0)) ∧ (¬ worthA o v.inbox ≤ MX → w.2.2 = 3) := by
  unfold F_truth_asked
  rw [e_order_Open h.1 h.2.1, ob_some, e_order_Worth h.1 h.2.1, ob_some]
  refine Wq.bind (Q := fun w : Int × Int × Int => (worthA o v.inbox ≤ MX → w = (0, worthA o v.inbox, openA o v.inbox)) ∧ (¬ worthA o v.inbox ≤ MX → w.1 = 3)) ?_ fun w hw => (w_some _).2 ⟨fun g => by rw [hw.1 g], fun g => hw.2 g⟩
  refine w_for (n := v.inbox.length) (step := fun x : Int × Int × Int × Int => L_truth_asked_122 (len v.inbox) v.inbox o x.fst x.snd.fst x.snd.snd.fst x.snd.snd.snd) h1
    (fun i x => (x.1 = 0 ∧ x.2.1 = worthA o (v.inbox.take i) ∧ x.2.2 = openA o (v.inbox.take i) ∧ worthA o (v.inbox.take i) ≤ MX) ∨ (x.1 = 3 ∧ ¬ worthA o v.inbox ≤ MX)) _ (fun i x hi hx => ?_) (fun x hx => ?_) _ 0 (Nat.zero_le _) ?_
  · obtain ⟨e, w, q⟩ := x
    simp only at hx
    simp only [L_truth_asked_122]
    rw [cnd_t (by rw [ilt_nat]; simpa using hi), cnd_t (inb _ i hi), lget_nat _ i hi, asks_c, c_bnot, c_ieq, wr_succ (by omega)]
    rcases hx with ⟨rfl, hw, hq, hm⟩ | ⟨rfl, hm⟩
    · rw [if_pos rfl, c_dec]
      have s1 := most_succ worthZ o hi
      have s2 := most_succ openZ o hi
      by_cases ha : asksP o v.inbox[i]
      · obtain ⟨a1, a2⟩ := h.2.2 _ (List.getElem_mem hi) ha
        rw [if_pos ha] at s1 s2
        rw [if_pos ha, show (⟨o.id, o.account, o.symbol, o.side, o.qty, o.price, o.filled, o.phase, v.inbox[i].qty, v.inbox[i].price, o.version, o.asked⟩ : SOrder) = swapZ o v.inbox[i] from rfl]
        rw [e_order_Worth a1 a2, ob_some, e_order_Open a1 a2, ob_some, e_num_Max, ob_some, e_num_Max, ob_some, w_some]
        refine ⟨rfl, ?_⟩
        by_cases hb : worthZ (swapZ o v.inbox[i]) ≤ 9223372036854775807
        · rw [if_pos hb]
          left
          unfold worthA openA MX at *
          refine ⟨rfl, ?_, ?_, ?_⟩
          · rw [s1, ← hw]
          · rw [s2, ← hq]
          · rw [s1]; omega
        · rw [if_neg hb]
          right
          have := most_mem worthZ o ha (List.getElem_mem hi)
          exact ⟨rfl, by unfold worthA MX; omega⟩
      · rw [if_neg ha] at s1 s2
        rw [if_neg ha, w_some]
        refine ⟨rfl, .inl ⟨rfl, ?_, ?_, ?_⟩⟩
        · unfold worthA at *; rw [s1]; exact hw
        · unfold openA at *; rw [s2]; exact hq
        · unfold worthA at *; rw [s1]; exact hm
    · rw [if_neg (by decide), w_some]
      exact ⟨fun g => absurd g hm, fun _ => rfl⟩
  · obtain ⟨e, w, q⟩ := x
    rw [List.take_length] at hx
    simp only at hx
    simp only [L_truth_asked_122]
    rw [cnd_f (len_end _), w_some]
    rcases hx with ⟨rfl, hw, hq, hm⟩ | ⟨rfl, hm⟩
    · exact ⟨fun _ => by rw [hw, hq], fun g => absurd hm g⟩
    · exact ⟨fun g => absurd g hm, fun _ => rfl⟩
  · have h0 := most_self worthZ o v.inbox
    by_cases hb : worthZ o ≤ 9223372036854775807
    · rw [if_pos hb]
      exact .inl ⟨rfl, rfl, rfl, hb⟩
    · rw [if_neg hb]
      exact .inr ⟨rfl, by unfold worthA MX; omega⟩
def sumF (f : SOrder → Int) : List SOrder → Int
  | [] => 0
  | o :: r => f o + sumF f r
theorem sumF_app (f : SOrder → Int) : ∀ a b : List SOrder, sumF f (a ++ b) = sumF f a + sumF f b
  | [], b => by simp [sumF]
  | x :: a, b => by simp only [List.cons_append, sumF, sumF_app f a b]; omega
theorem sumF_nn {f : SOrder → Int} : ∀ {l : List SOrder}, (∀ x ∈ l, 0 ≤ f x) → 0 ≤ sumF f l
  | [], _ => Int.le_refl _
  | a :: r, h => by
    have := h a List.mem_cons_self
    have := sumF_nn fun x hx => h x (List.mem_cons_of_mem a hx)
    simp only [sumF]; omega
theorem sumF_succ (f : SOrder → Int) {l : List SOrder} {i : Nat} (hi : i < l.length) : sumF f (l.take (i + 1)) = sumF f (l.take i) + f l[i] := by
  rw [List.take_succ_eq_append_getElem hi, sumF_app]; simp [sumF]
theorem sumF_part {f : SOrder → Int} {l : List SOrder} {i : Nat} (hi : i < l.length) (h : ∀ x ∈ l, 0 ≤ f x) : 0 ≤ sumF f (l.take i) ∧ sumF f (l.take i) + f l[i] ≤ sumF f l := by
  have h1 : sumF f l = sumF f (l.take (i + 1)) + sumF f (l.drop (i + 1)) := by rw [← sumF_app, List.take_append_drop]
  have h2 : 0 ≤ sumF f (l.drop (i + 1)) := sumF_nn fun x hx => h x (List.mem_of_mem_drop hx)
  rw [sumF_succ f hi] at h1
  exact ⟨sumF_nn fun x hx => h x (List.mem_of_mem_take hx), by omega⟩
def longF (l : List SMsg) (a y : Int) (o : SOrder) : Int := if (hereP o a y ∧ o.phase = 2) ∧ o.side = 1 then openA o l else 0
def shortF (l : List SMsg) (a y : Int) (o : SOrder) : Int := if (hereP o a y ∧ o.phase = 2) ∧ o.side ≠ 1 then openA o l else 0
def worthF (l : List SMsg) (a y : Int) (o : SOrder) : Int := if hereP o a y ∧ o.phase = 2 then worthA o l else 0
/-- All orders that are known or come. -/
def allO (v : SVenue) : List SOrder := v.orders ++ comingZ (v.orders.map (·.id)) v.inbox
/-- Right orders, with what waits. -/
def okO (l : List SMsg) (o : SOrder) : Prop := ordP o ∧ Ok_order o ∧ (o.phase = 2 → askR l o)
theorem longF_rng {l : List SMsg} {a y : Int} {o : SOrder} (h : okO l o) : 0 ≤ longF l a y o ∧ longF l a y o ≤ MX := by
  unfold longF; split
  · rename_i g; exact openA_rng (h.2.2 g.1.2)
  · unfold MX; omega
theorem shortF_rng {l : List SMsg} {a y : Int} {o : SOrder} (h : okO l o) : 0 ≤ shortF l a y o ∧ shortF l a y o ≤ MX := by
  unfold shortF; split
  · rename_i g; exact openA_rng (h.2.2 g.1.2)
  · unfold MX; omega
theorem worthF_nn {l : List SMsg} {a y : Int} {o : SOrder} (h : okO l o) : 0 ≤ worthF l a y o := by
  unfold worthF; split
  · exact worthA_nn h.1
  · omega
/-- An order that waits is right. -/
theorem swap_ok {o : SOrder} {m : SMsg} (ho : ordP o) (h2 : o.phase = 2) (hr : Ok_order o) (hm : msgP m) (hk : m.kind = 2) (hmr : Ok_msg m) : ordP (swapZ o m) ∧ Ok_order (swapZ o m) := by
  obtain ⟨b, f0, f1, v0, p, ph⟩ := ho
  have hq : 1 ≤ m.qty ∧ 1 ≤ m.price := by
    have := hm.2.2.2.2.2
    omega
  constructor
  · refine ⟨b, f0, f1, v0, fun _ => hq, .inr (.inl ⟨h2, ?_⟩)⟩
    show o.filled < o.qty
    omega
  · exact ⟨hr.id, hr.account, hr.symbol, hr.side, hr.qty, hr.price, hr.filled, hr.phase, hmr.qty, hmr.price, hr.version⟩
theorem ask_ok {l : List SMsg} {o : SOrder} (ho : ordP o) (h2 : o.phase = 2) (hr : Ok_order o) (hl : ∀ m ∈ l, msgP m ∧ Ok_msg m) : askR l o :=
  ⟨ho, hr, fun m hm hq => swap_ok ho h2 hr (hl m hm).1 hq.1 (hl m hm).2⟩
theorem newO_ok {m : SMsg} (hm : msgP m) (hk : m.kind = 1) (hr : Ok_msg m) : setP ⟨m.order, m.account, m.symbol, m.side, m.qty, m.price, 0, 2, 0, 0, 0, false⟩ ∧ Ok_order ⟨m.order, m.account, m.symbol, m.side, m.qty, m.price, 0, 2, 0, 0, 0, false⟩ := by
  obtain ⟨k, ha, hy, hs, _, h⟩ := hm
  have hq : 1 ≤ m.qty ∧ 1 ≤ m.price := by omega
  refine ⟨⟨⟨⟨k, ha, hy, hs, hq⟩, by simp, by simp; omega, by simp, fun g => ?_, .inr (.inl ⟨rfl, by simp; omega⟩)⟩, by simp, rfl, rfl⟩, ?_⟩
  · rcases g with g | g <;> exact absurd rfl g
  · exact ⟨hr.order, hr.account, hr.symbol, hr.side, hr.qty, hr.price, by unfold inI; simp, by unfold inI; simp, by unfold inI; simp, by unfold inI; simp, by unfold inI; simp⟩
theorem all_ok {v : SVenue} (h : venP v) (hr : Ok_venue v) : ∀ o ∈ allO v, okO v.inbox o := fun o ho => by
  have hl : ∀ m ∈ v.inbox, msgP m ∧ Ok_msg m := fun m hm => ⟨h.msg hm, hr.inbox.1 m hm⟩
  rcases List.mem_append.1 ho with ho | ho
  · have := h.ord ho
    have r := hr.orders.1 o ho
    exact ⟨this.1, r, fun h2 => ask_ok this.1 h2 r hl⟩
  · obtain ⟨_, m, hm, hk, rfl⟩ := coming_mem ho
    obtain ⟨a1, a2⟩ := newO_ok (hl m hm).1 hk (hl m hm).2
    exact ⟨a1.1, a2, fun h2 => ask_ok a1.1 h2 a2 hl⟩
theorem all_len (v : SVenue) : (allO v).length ≤ v.orders.length + v.inbox.length := by
  unfold allO
  rw [List.length_append]
  have := coming_len (v.orders.map (·.id)) v.inbox
  omega
def sumsP (v : SVenue) (L : List SOrder) (a y : Int) : Prop := sumF (longF v.inbox a y) L ≤ MX ∧ sumF (shortF v.inbox a y) L ≤ MX ∧ sumF (worthF v.inbox a y) L ≤ MX
theorem inI_nn {n : Int} (h0 : 0 ≤ n) : inI n ↔ n ≤ MX := by unfold inI MX; omega
theorem s_ofloop {v : SVenue} {L : List SOrder} (h1 : v.inbox.length < 400000) (hL : L.length < 400000) (h : ∀ o ∈ L, okO v.inbox o) (a y : Int) :
    Wq (iterN (fun x : Int × List Int × List Int × Int × Int × Int × Int => L_truth_Of_122 (len L) a y L v x.fst x.snd.fst x.snd.snd.fst x.snd.snd.snd.fst x.snd.snd.snd.snd.fst x.snd.snd.snd.snd.snd.fst x.snd.snd.snd.snd.snd.snd) LF (0, [], [], 0, 0, 0, 0))
      fun w => w.1 = boughtL L a y ∧ w.2.1 = soldL L a y ∧ ((w.2.2 = (sumF (longF v.inbox a y) L, sumF (shortF v.inbox a y) L, sumF (worthF v.inbox a y) L, 0) ∧ sumsP v L a y) ∨ (w.2.2.2.2.2 = 3 ∧ ¬ sumsP v L a y)) := by
  have nl : ∀ o ∈ L, 0 ≤ longF v.inbox a y o := fun o ho => (longF_rng (h o ho)).1
  have ns : ∀ o ∈ L, 0 ≤ shortF v.inbox a y o := fun o ho => (shortF_rng (h o ho)).1
  have nw : ∀ o ∈ L, 0 ≤ worthF v.inbox a y o := fun o ho => worthF_nn (h o ho)
  refine w_for (n := L.length) (step := fun x : Int × List Int × List Int × Int × Int × Int × Int => L_truth_Of_122 (len L) a y L v x.fst x.snd.fst x.snd.snd.fst x.snd.snd.snd.fst x.snd.snd.snd.snd.fst x.snd.snd.snd.snd.snd.fst x.snd.snd.snd.snd.snd.snd) (by omega)
    (fun i x => x.1 = boughtL (L.take i) a y ∧ x.2.1 = soldL (L.take i) a y ∧ ((x.2.2.1 = sumF (longF v.inbox a y) (L.take i) ∧ x.2.2.2.1 = sumF (shortF v.inbox a y) (L.take i) ∧ x.2.2.2.2.1 = sumF (worthF v.inbox a y) (L.take i) ∧ x.2.2.2.2.2 = 0 ∧ sumsP v (L.take i) a y) ∨ (x.2.2.2.2.2 = 3 ∧ ¬ sumsP v L a y))) _ (fun i x hi hx => ?_) (fun x hx => ?_) _ 0 (Nat.zero_le _) ⟨by simp [boughtL], by simp [soldL], .inl ⟨rfl, rfl, rfl, rfl, by simp [sumsP, sumF, MX]⟩⟩
  · obtain ⟨B, S, lo, sh, op, e⟩ := x
    obtain ⟨rfl, rfl, hx⟩ := hx
    simp only at hx
    have hb := bought_len (L.take i) a y
    have hs := sold_len (L.take i) a y
    rw [List.length_take] at hb hs
    have ho := h _ (List.getElem_mem hi)
    have p1 := sumF_part hi nl
    have p2 := sumF_part hi ns
    have p3 := sumF_part hi nw
    have eh : bor (bnot (ieq L[i].account a)) (bnot (ieq L[i].symbol y)) = decide (¬ hereP L[i] a y) := by
      rw [Bool.eq_iff_iff, decide_eq_true_iff]
      simp only [band_T, band_F, bor_T, bor_F, bnot_T, bnot_F, ilt_T, ilt_F, ile_T, ile_F, ieq_T, ieq_F, beq_T, beq_F, hereP]
      omega
    have lB : ile (len (lapp (boughtL (L.take i) a y) [L[i].filled])) 68719476736 = true := ile_t (by simp only [len, lapp, List.length_append, List.length_singleton]; omega)
    have lS : ile (len (lapp (soldL (L.take i) a y) [L[i].filled])) 68719476736 = true := ile_t (by simp only [len, lapp, List.length_append, List.length_singleton]; omega)
    simp only [L_truth_Of_122]
    rw [cnd_t (by rw [ilt_nat]; simpa using hi), cnd_t (inb L i hi), lget_nat L i hi, eh, c_dec, wr_succ (by omega)]
    have f1 := sumF_succ (longF v.inbox a y) hi
    have f2 := sumF_succ (shortF v.inbox a y) hi
    have f3 := sumF_succ (worthF v.inbox a y) hi
    by_cases hh : hereP L[i] a y
    · rw [if_neg (fun g => g hh), bought_succ hi, sold_succ hi]
      have stay : ∀ w1 w2 : Int, (lo = sumF (longF v.inbox a y) (L.take i) ∧ sh = sumF (shortF v.inbox a y) (L.take i) ∧ op = sumF (worthF v.inbox a y) (L.take i) ∧ e = 0 ∧ sumsP v (L.take i) a y) ∨ (e = 3 ∧ ¬ sumsP v L a y) → L[i].phase ≠ 2 →
          (lo = sumF (longF v.inbox a y) (L.take (i + 1)) ∧ sh = sumF (shortF v.inbox a y) (L.take (i + 1)) ∧ op = sumF (worthF v.inbox a y) (L.take (i + 1)) ∧ e = 0 ∧ sumsP v (L.take (i + 1)) a y) ∨ (e = 3 ∧ ¬ sumsP v L a y) := by
        intro _ _ hx hp
        refine hx.imp (fun g => ?_) id
        have z1 : longF v.inbox a y L[i] = 0 := if_neg (fun g => hp g.1.2)
        have z2 : shortF v.inbox a y L[i] = 0 := if_neg (fun g => hp g.1.2)
        have z3 : worthF v.inbox a y L[i] = 0 := if_neg (fun g => hp g.2)
        unfold sumsP at *
        rw [f1, f2, f3, z1, z2, z3]
        simpa using g
      by_cases h1 : L[i].side = 1
      · have e1 : ieq L[i].side 1 = true := by rw [h1]; rfl
        rw [e1, cnd_true, cnd_t lB, c_ieq, if_pos (show hereP L[i] a y ∧ L[i].side = 1 from ⟨hh, h1⟩), if_neg (show ¬ (hereP L[i] a y ∧ L[i].side ≠ 1) from fun g => g.2 h1)]
        by_cases hp : L[i].phase = 2
        · have z1 : longF v.inbox a y L[i] = openA L[i] v.inbox := if_pos ⟨⟨hh, hp⟩, h1⟩
          have z2 : shortF v.inbox a y L[i] = 0 := if_neg (fun g => g.2 h1)
          have z3 : worthF v.inbox a y L[i] = worthA L[i] v.inbox := if_pos ⟨hh, hp⟩
          have hO := openA_rng (ho.2.2 hp)
          have hW := worthA_nn (l := v.inbox) ho.1
          rw [if_pos hp]
          refine (s_asked (by omega) (ho.2.2 hp)).bind fun w hw => ?_
          simp only [cnd_true]
          rcases hx with ⟨rfl, rfl, rfl, rfl, hm⟩ | ⟨rfl, hm⟩
          · rw [ieq_refl, cnd_true]
            by_cases hb : worthA L[i] v.inbox ≤ MX
            · rw [hw.1 hb]
              simp only
              unfold sumsP at hm ⊢
              rw [z1] at p1 f1
              rw [z2] at p2 f2
              rw [z3] at p3 f3
              rw [ieq_refl, cnd_true, e_num_Add ((inI_nn p1.1).2 hm.1) ((inI_nn hO.1).2 hO.2), ob_some]
              by_cases hl : inI (sumF (longF v.inbox a y) (L.take i) + openA L[i] v.inbox)
              · rw [if_pos hl]
                simp only
                rw [ieq_refl, cnd_true, e_num_Add ((inI_nn p3.1).2 hm.2.2) ((inI_nn hW).2 hb), ob_some, w_some]
                refine ⟨rfl, by simp [lapp], by simp, ?_⟩
                simp only
                by_cases ho2 : inI (sumF (worthF v.inbox a y) (L.take i) + worthA L[i] v.inbox)
                · rw [if_pos ho2, f1, f2, f3]
                  unfold inI at hl ho2
                  unfold MX at *
                  left
                  refine ⟨rfl, by omega, rfl, rfl, by omega, by omega, by omega⟩
                · rw [if_neg ho2]
                  unfold inI at ho2
                  unfold MX at *
                  exact .inr ⟨rfl, fun g => by omega⟩
              · rw [if_neg hl]
                simp only
                rw [ieq_30, cnd_false, w_some]
                unfold inI at hl
                unfold MX at *
                exact ⟨rfl, by simp [lapp], by simp, .inr ⟨rfl, fun g => by omega⟩⟩
            · simp only [hw.2 hb, ieq_30, cnd_false]
              rw [w_some]
              refine ⟨rfl, by simp [lapp], by simp, .inr ⟨rfl, fun g => ?_⟩⟩
              rw [z3] at p3
              unfold sumsP at g
              omega
          · simp only [ieq_30, cnd_false]
            rw [w_some]
            exact ⟨rfl, by simp [lapp], by simp, .inr ⟨rfl, hm⟩⟩
        · rw [if_neg hp, w_some]
          exact ⟨rfl, by simp [lapp], by simp, stay 0 0 hx hp⟩
      · have e1 : ieq L[i].side 1 = false := by simpa [ieq] using h1
        rw [e1, cnd_false, cnd_t lS, c_ieq, if_neg (show ¬ (hereP L[i] a y ∧ L[i].side = 1) from fun g => h1 g.2), if_pos (show hereP L[i] a y ∧ L[i].side ≠ 1 from ⟨hh, h1⟩)]
        by_cases hp : L[i].phase = 2
        · have z1 : longF v.inbox a y L[i] = 0 := if_neg (fun g => h1 g.2)
          have z2 : shortF v.inbox a y L[i] = openA L[i] v.inbox := if_pos ⟨⟨hh, hp⟩, h1⟩
          have z3 : worthF v.inbox a y L[i] = worthA L[i] v.inbox := if_pos ⟨hh, hp⟩
          have hO := openA_rng (ho.2.2 hp)
          have hW := worthA_nn (l := v.inbox) ho.1
          rw [if_pos hp]
          refine (s_asked (by omega) (ho.2.2 hp)).bind fun w hw => ?_
          simp only [cnd_false]
          rcases hx with ⟨rfl, rfl, rfl, rfl, hm⟩ | ⟨rfl, hm⟩
          · rw [ieq_refl, cnd_true]
            by_cases hb : worthA L[i] v.inbox ≤ MX
            · rw [hw.1 hb]
              simp only
              unfold sumsP at hm ⊢
              rw [z1] at p1 f1
              rw [z2] at p2 f2
              rw [z3] at p3 f3
              rw [ieq_refl, cnd_true, e_num_Add ((inI_nn p2.1).2 hm.2.1) ((inI_nn hO.1).2 hO.2), ob_some]
              by_cases hl : inI (sumF (shortF v.inbox a y) (L.take i) + openA L[i] v.inbox)
              · rw [if_pos hl]
                simp only
                rw [ieq_refl, cnd_true, e_num_Add ((inI_nn p3.1).2 hm.2.2) ((inI_nn hW).2 hb), ob_some, w_some]
                refine ⟨rfl, by simp, by simp [lapp], ?_⟩
                simp only
                by_cases ho2 : inI (sumF (worthF v.inbox a y) (L.take i) + worthA L[i] v.inbox)
                · rw [if_pos ho2, f1, f2, f3]
                  unfold inI at hl ho2
                  unfold MX at *
                  left
                  refine ⟨by omega, rfl, rfl, rfl, by omega, by omega, by omega⟩
                · rw [if_neg ho2]
                  unfold inI at ho2
                  unfold MX at *
                  exact .inr ⟨rfl, fun g => by omega⟩
              · rw [if_neg hl]
                simp only
                rw [ieq_30, cnd_false, w_some]
                unfold inI at hl
                unfold MX at *
                exact ⟨rfl, by simp, by simp [lapp], .inr ⟨rfl, fun g => by omega⟩⟩
            · simp only [hw.2 hb, ieq_30, cnd_false]
              rw [w_some]
              refine ⟨rfl, by simp, by simp [lapp], .inr ⟨rfl, fun g => ?_⟩⟩
              rw [z3] at p3
              unfold sumsP at g
              omega
          · simp only [ieq_30, cnd_false]
            rw [w_some]
            exact ⟨rfl, by simp, by simp [lapp], .inr ⟨rfl, hm⟩⟩
        · rw [if_neg hp, w_some]
          exact ⟨rfl, by simp, by simp [lapp], stay 0 0 hx hp⟩
    · rw [if_pos hh, w_some, bought_succ hi, sold_succ hi, if_neg (fun g => hh g.1), if_neg (fun g => hh g.1)]
      have z1 : longF v.inbox a y L[i] = 0 := if_neg (fun g => hh g.1.1)
      have z2 : shortF v.inbox a y L[i] = 0 := if_neg (fun g => hh g.1.1)
      have z3 : worthF v.inbox a y L[i] = 0 := if_neg (fun g => hh g.1)
      unfold sumsP at *
      rw [f1, f2, f3, z1, z2, z3]
      exact ⟨rfl, by simp, by simp, by simpa using hx⟩
  · obtain ⟨B, S, lo, sh, op, e⟩ := x
    rw [List.take_length] at hx
    obtain ⟨rfl, rfl, hx⟩ := hx
    simp only at hx
    simp only [L_truth_Of_122]
    rw [cnd_f (len_end _), w_some]
    refine ⟨rfl, rfl, hx.imp (fun g => ⟨?_, g.2.2.2.2⟩) id⟩
    obtain ⟨rfl, rfl, rfl, rfl, _⟩ := g
    rfl
def longS (v : SVenue) (a y : Int) : Int := sumF (longF v.inbox a y) (allO v)
def shortS (v : SVenue) (a y : Int) : Int := sumF (shortF v.inbox a y) (allO v)
def worthS (v : SVenue) (a y : Int) : Int := sumF (worthF v.inbox a y) (allO v)
def goodO (v : SVenue) (a y : Int) : Prop := inI (posZ v.orders a y) ∧ (longS v a y ≤ MX ∧ shortS v a y ≤ MX ∧ worthS v a y ≤ MX) ∧ inI (posZ v.orders a y + longS v a y) ∧ inI (shortS v a y - posZ v.orders a y)
instance (v : SVenue) (a y : Int) : Decidable (goodO v a y) := by unfold goodO; infer_instance
def ofO (v : SVenue) (a y : Int) : SExpo := ⟨posZ v.orders a y + longS v a y, shortS v a y - posZ v.orders a y, worthS v a y⟩
theorem pos_app (l r : List SOrder) (a y : Int) (h : ∀ o ∈ r, o.filled = 0) : posZ (l ++ r) a y = posZ l a y := by
  have z : ∀ p : SOrder → Bool, sumL ((r.filter p).map (·.filled)) = 0 := fun p => by
    have : ∀ q : List Int, (∀ x ∈ q, x = 0) → sumL q = 0 := fun q hq => by
      induction q with
      | nil => rfl
      | cons x q ih => simp only [sumL]; rw [hq x List.mem_cons_self, ih fun y hy => hq y (List.mem_cons_of_mem x hy)]; rfl
    refine this _ fun x hx => ?_
    obtain ⟨o, ho, rfl⟩ := List.mem_map.1 hx
    exact h o (List.mem_filter.1 ho).1
  unfold posZ boughtL soldL
  rw [List.filter_append, List.filter_append, List.map_append, List.map_append, sumL_app, sumL_app, z, z]
  omega
theorem pos_all (v : SVenue) (a y : Int) : posZ (allO v) a y = posZ v.orders a y := by
  refine pos_app _ _ a y fun o ho => ?_
  obtain ⟨_, m, _, _, rfl⟩ := coming_mem ho
  rfl
theorem all_nn {v : SVenue} (h : venP v) (hr : Ok_venue v) (a y : Int) : 0 ≤ longS v a y ∧ 0 ≤ shortS v a y ∧ 0 ≤ worthS v a y :=
  ⟨sumF_nn fun o ho => (longF_rng (all_ok h hr o ho)).1, sumF_nn fun o ho => (shortF_rng (all_ok h hr o ho)).1, sumF_nn fun o ho => worthF_nn (all_ok h hr o ho)⟩
theorem t_num_Add (a b : Int) : ∃ r, F_num_Add a b = some r := by
  unfold F_num_Add; rw [cnd_if]; split <;> exact ⟨_, rfl⟩
theorem t_num_Sub (a b : Int) : ∃ r, F_num_Sub a b = some r := by
  unfold F_num_Sub; rw [cnd_if]; split <;> exact ⟨_, rfl⟩
theorem e_Of {v : SVenue} (h1 : v.inbox.length < 200000) (h2 : v.notes.length < 200000) (h3 : v.orders.length < 200000) (hr : Ok_venue v) (a y : Int) :
    F_truth_Of v a y = some (if venP v ∧ (0 ≤ a ∧ a < 8) ∧ 0 ≤ y ∧ y < 8 then (if goodO v a y then (ofO v a y, 0) else (⟨0, 0, 0⟩, 3)) else (⟨0, 0, 0⟩, 1)) := by
  refine Wq.eq ?_
  unfold F_truth_Of
  rw [e_may (by omega) (by omega) (by omega), ob_some, c_bnot, c_dec]
  split
  · rename_i hv
    have hok := all_ok hv.1 hr
    have hlen := all_len v
    rw [clone_Order (by omega), ob_some, e_Coming (by omega) (by omega) (fun o ho => (hr.orders.1 o ho).id) (fun m hm => (hr.inbox.1 m hm).order), ob_some]
    rw [show lapp v.orders (comingZ (v.orders.map (·.id)) v.inbox) = allO v from rfl]
    rw [cnd_t (ile_t (by simp only [len]; omega))]
    refine (s_ofloop (v := v) (L := allO v) (by omega) (by omega) hok a y).bind fun w hw => ?_
    obtain ⟨B, S, lo, sh, op, e⟩ := w
    obtain ⟨rfl, rfl, hw⟩ := hw
    have b1 := bought_len (allO v) a y
    have b2 := sold_len (allO v) a y
    obtain ⟨o1, o2⟩ := filled_ok (fun o ho => (hok o ho).1) (fun o ho => (hok o ho).2.1) a y
    rcases hw with ⟨hw, hs⟩ | ⟨he, hs⟩
    · simp only [Prod.mk.injEq] at hw
      obtain ⟨rfl, rfl, rfl, rfl⟩ := hw
      refine (s_pos (boughtL (allO v) a y) (soldL (allO v) a y) (sumF (longF v.inbox a y) (allO v)) (sumF (shortF v.inbox a y) (allO v)) (sumF (worthF v.inbox a y) (allO v)) (by omega) (by omega) o1 o2).bind fun w hw => ?_
      obtain ⟨n, w⟩ := w
      obtain ⟨rfl, hn⟩ := hw
      change inI (posZ (allO v) a y) → n = posZ (allO v) a y at hn
      rw [pos_all] at hn
      simp only
      rw [show (if inI (sumL (boughtL (allO v) a y) - sumL (soldL (allO v) a y)) then (0 : Int) else 3) = if inI (posZ (allO v) a y) then 0 else 3 from rfl, pos_all]
      by_cases hp : inI (posZ v.orders a y)
      · obtain ⟨n1, n2, n3⟩ := all_nn hv.1 hr a y
        rw [hn hp, show sumF (longF v.inbox a y) (allO v) = longS v a y from rfl, show sumF (shortF v.inbox a y) (allO v) = shortS v a y from rfl, show sumF (worthF v.inbox a y) (allO v) = worthS v a y from rfl, e_num_Add hp ((inI_nn n1).2 hs.1), ob_some, e_num_Sub ((inI_nn n2).2 hs.2.1) hp, ob_some, if_pos hp, ieq_00, bnot_true, bor_false]
        by_cases hA : inI (posZ v.orders a y + longS v a y)
        · rw [if_pos hA]
          by_cases hB : inI (shortS v a y - posZ v.orders a y)
          · rw [if_pos hB, if_pos (show goodO v a y from ⟨hp, hs, hA, hB⟩)]
            simp only
            rw [ieq_00, bnot_true, bor_false, cnd_false, w_some]
            rfl
          · rw [if_neg hB, if_neg (show ¬ goodO v a y from fun g => hB g.2.2.2)]
            simp only
            rw [ieq_30, bnot_false, bor_true', cnd_true, w_some]
        · rw [if_neg hA, if_neg (show ¬ goodO v a y from fun g => hA g.2.2.1)]
          simp only
          rw [ieq_30, bnot_false, bor_true, cnd_true, w_some]
      · obtain ⟨r1, e1⟩ := t_num_Add n (sumF (longF v.inbox a y) (allO v))
        obtain ⟨r2, e2⟩ := t_num_Sub (sumF (shortF v.inbox a y) (allO v)) n
        rw [e1, ob_some, e2, ob_some, if_neg hp, ieq_30, bnot_false, bor_true, bor_true, cnd_true, w_some, if_neg (show ¬ goodO v a y from fun g => hp g.1)]
    · simp only at he
      subst he
      refine Wq.bind (Q := fun w : Int × List Int × List Int × Int × Int × Int × Int => w.2.2.2.2.2.2 = 3) ?_ fun w hw => ?_
      · unfold LF
        rw [iterN]
        simp only [L_truth_Of_26_truth_sums_pos_c102, ieq_30, band_false, cnd_false]
        exact (w_some _).2 rfl
      · obtain ⟨n, B, S, lo, sh, op, e⟩ := w
        simp only at hw
        subst hw
        simp only
        obtain ⟨r1, e1⟩ := t_num_Add n lo
        obtain ⟨r2, e2⟩ := t_num_Sub sh n
        rw [e1, ob_some, e2, ob_some, ieq_30, bnot_false, bor_true, bor_true, cnd_true, w_some, if_neg (show ¬ goodO v a y from fun g => hs g.2.1)]
  · rw [w_some]
def nilD {τ : Type} [DecidableEq τ] (n : Int) (f : Bool → Option τ) : Option τ := if n = 0 then (if f true = f false then f true else none) else f false
theorem nilq_eq {τ : Type} [DecidableEq τ] (n : Int) (f : Bool → Option τ) : nilq n f = nilD n f := by
  unfold nilq nilD
  by_cases h : n = 0
  · rw [if_pos h, if_pos h]
    by_cases h2 : f true = f false
    · rw [if_pos h2, if_pos h2]
    · rw [if_neg h2, if_neg h2]
  · rw [if_neg h, if_neg h]
def F_slices_Clone_api_Msg_d (x0 : (List SMsg)) : Option ((List SMsg)) := nilD (len x0) fun y0 ↦ cnd (beq y0 true) (some []) (cnd (ile (len x0) 68719476736) (some x0) none)
theorem F_slices_Clone_api_Msg_d_eq : F_slices_Clone_api_Msg = F_slices_Clone_api_Msg_d := by
  funext a0
  unfold F_slices_Clone_api_Msg F_slices_Clone_api_Msg_d
  simp only [nilq_eq]
def F_venue_Send_d (x0 : SVenue) (x1 : SMsg) : Option (SVenue × Int) := obind (F_venue_Right x0) fun y0 ↦ cnd (bnot y0) (cnd (bnot y0) (some (x0, 1)) (cnd (ieq (len x0.inbox) 400) (some (x0, 6)) (obind (F_slices_Clone_api_Msg_d x0.inbox) fun y1 ↦ cnd (ile (len (lapp y1 [x1])) 68719476736) (some (SVenue.mk (lapp y1 [x1]) x0.orders x0.notes, 0)) none))) (obind (F_venue_RightMsg x1) fun y2 ↦ cnd (bnot y2) (some (x0, 1)) (cnd (ieq (len x0.inbox) 400) (some (x0, 6)) (obind (F_slices_Clone_api_Msg_d x0.inbox) fun y3 ↦ cnd (ile (len (lapp y3 [x1])) 68719476736) (some (SVenue.mk (lapp y3 [x1]) x0.orders x0.notes, 0)) none)))
theorem F_venue_Send_d_eq : F_venue_Send = F_venue_Send_d := by
  funext a0 a1
  unfold F_venue_Send F_venue_Send_d
  simp only [F_slices_Clone_api_Msg_d_eq]
def F_slices_Clone_api_Order_d (x0 : (List SOrder)) : Option ((List SOrder)) := nilD (len x0) fun y0 ↦ cnd (beq y0 true) (some []) (cnd (ile (len x0) 68719476736) (some x0) none)
theorem F_slices_Clone_api_Order_d_eq : F_slices_Clone_api_Order = F_slices_Clone_api_Order_d := by
  funext a0
  unfold F_slices_Clone_api_Order F_slices_Clone_api_Order_d
  simp only [nilq_eq]
def F_truth_Of_d (x0 : SVenue) (x1 : Int) (x2 : Int) : Option (SExpo × Int) := obind (F_truth_may x0 x1 x2) fun y0 ↦ cnd (bnot y0) (some (SExpo.mk 0 0 0, 1)) (obind (F_slices_Clone_api_Order_d x0.orders) fun y1 ↦ obind (F_truth_coming x0) fun y2 ↦ cnd (ile (len (lapp y1 y2)) 68719476736) (obind (iterN (fun v ↦ L_truth_Of_122 (len (lapp y1 y2)) x1 x2 (lapp y1 y2) x0 v.fst v.snd.fst v.snd.snd.fst v.snd.snd.snd.fst v.snd.snd.snd.snd.fst v.snd.snd.snd.snd.snd.fst v.snd.snd.snd.snd.snd.snd) LF (0, [], [], 0, 0, 0, 0)) fun y3 ↦ obind (iterN (fun v ↦ L_truth_Of_26_truth_sums_pos_c102 v.fst v.snd.fst v.snd.snd.fst v.snd.snd.snd.fst v.snd.snd.snd.snd.fst v.snd.snd.snd.snd.snd.fst v.snd.snd.snd.snd.snd.snd.fst v.snd.snd.snd.snd.snd.snd.snd.fst v.snd.snd.snd.snd.snd.snd.snd.snd) LF (0, 0, 0, y3)) fun y4 ↦ obind (F_num_Add y4.fst y4.snd.snd.snd.fst) fun y5 ↦ obind (F_num_Sub y4.snd.snd.snd.snd.fst y4.fst) fun y6 ↦ cnd (bor (bor (bnot (ieq y4.snd.snd.snd.snd.snd.snd 0)) (bnot (ieq y5.snd 0))) (bnot (ieq y6.snd 0))) (some (SExpo.mk 0 0 0, 3)) (some (SExpo.mk y5.fst y6.fst y4.snd.snd.snd.snd.snd.fst, 0))) none)
theorem F_truth_Of_d_eq : F_truth_Of = F_truth_Of_d := by
  funext a0 a1 a2
  unfold F_truth_Of F_truth_Of_d
  simp only [F_slices_Clone_api_Order_d_eq]
def F_slices_Clone_api_Note_d (x0 : (List SNote)) : Option ((List SNote)) := nilD (len x0) fun y0 ↦ cnd (beq y0 true) (some []) (cnd (ile (len x0) 68719476736) (some x0) none)
theorem F_slices_Clone_api_Note_d_eq : F_slices_Clone_api_Note = F_slices_Clone_api_Note_d := by
  funext a0
  unfold F_slices_Clone_api_Note F_slices_Clone_api_Note_d
  simp only [nilq_eq]
def F_venue_Take_d (x0 : SVenue) (x1 : Bool) : Option (SVenue × Int) := obind (F_venue_Right x0) fun y0 ↦ cnd (bnot y0) (some (x0, 1)) (cnd (ieq (len x0.inbox) 0) (some (x0, 7)) (obind (F_venue_full x0) fun y1 ↦ cnd y1 (cnd y1 (some (x0, 6)) (obind (F_slices_Clone_api_Msg_d x0.inbox) fun y2 ↦ let t9 := (ltake (ldrop y2 1) (itn (isub (len y2) 1))); obind (F_slices_Clone_api_Order_d x0.orders) fun y3 ↦ obind (F_slices_Clone_api_Note_d x0.notes) fun y4 ↦ cnd (ilt 0 (len y2)) (cnd (ile 1 (len y2)) (cnd (ieq (lget y2 0).kind 1) (obind (F_slices_BinarySearchFunc_api_Order_api_Order_int64 y3 (lget y2 0).order PUnit.unit) fun y5 ↦ cnd y5.snd (some (SVenue.mk t9 y3 y4, 0)) (cnd x1 (obind (F_slices_Insert_api_Order y3 y5.fst [SOrder.mk (lget y2 0).order (lget y2 0).account (lget y2 0).symbol (lget y2 0).side (lget y2 0).qty (lget y2 0).price 0 2 0 0 0 false]) fun y6 ↦ cnd (ile (len (lapp y4 [SNote.mk (wr IntKind.i64 (iadd (len y4) 1)) 1 (lget y2 0).order 0 0])) 68719476736) (some (SVenue.mk t9 y6 (lapp y4 [SNote.mk (wr IntKind.i64 (iadd (len y4) 1)) 1 (lget y2 0).order 0 0]), 0)) none) (obind (F_slices_Insert_api_Order y3 y5.fst [SOrder.mk (lget y2 0).order (lget y2 0).account (lget y2 0).symbol (lget y2 0).side (lget y2 0).qty (lget y2 0).price 0 3 0 0 0 false]) fun y7 ↦ cnd (ile (len (lapp y4 [SNote.mk (wr IntKind.i64 (iadd (len y4) 1)) 2 (lget y2 0).order 0 0])) 68719476736) (some (SVenue.mk t9 y7 (lapp y4 [SNote.mk (wr IntKind.i64 (iadd (len y4) 1)) 2 (lget y2 0).order 0 0]), 0)) none))) (cnd (ieq (lget y2 0).kind 2) (obind (F_venue_Find (SVenue.mk t9 y3 y4) (lget y2 0).order) fun y8 ↦ let t3 := (lset y3 (itn y8) (SOrder.mk (lget y3 (itn y8)).id (lget y3 (itn y8)).account (lget y3 (itn y8)).symbol (lget y3 (itn y8)).side (lget y3 (itn y8)).qty (lget y3 (itn y8)).price (lget y3 (itn y8)).filled (lget y3 (itn y8)).phase (lget y3 (itn y8)).newQty (lget y3 (itn y8)).newPrice (lget y2 0).version (lget y3 (itn y8)).asked)); let t1 := (lset t3 (itn y8) (SOrder.mk (lget t3 (itn y8)).id (lget t3 (itn y8)).account (lget t3 (itn y8)).symbol (lget t3 (itn y8)).side (lget y2 0).qty (lget t3 (itn y8)).price (lget t3 (itn y8)).filled (lget t3 (itn y8)).phase (lget t3 (itn y8)).newQty (lget t3 (itn y8)).newPrice (lget t3 (itn y8)).version (lget t3 (itn y8)).asked)); let t6 := (lset t1 (itn y8) (SOrder.mk (lget t1 (itn y8)).id (lget t1 (itn y8)).account (lget t1 (itn y8)).symbol (lget t1 (itn y8)).side (lget t1 (itn y8)).qty (lget y2 0).price (lget t1 (itn y8)).filled (lget t1 (itn y8)).phase (lget t1 (itn y8)).newQty (lget t1 (itn y8)).newPrice (lget t1 (itn y8)).version (lget t1 (itn y8)).asked)); cnd (bor (band (ile 0 y8) (ilt y8 (len y3))) (bnot (bnot (ieq y8 (-1))))) (cnd (bor (ieq y8 (-1)) (bnot (ieq (lget y3 (itn y8)).phase 2))) (some (SVenue.mk t9 y3 y4, 0)) (cnd (band (ile 0 y8) (ilt y8 (len y3))) (cnd (ile (lget y2 0).version (lget y3 (itn y8)).version) (some (SVenue.mk t9 y3 y4, 0)) (cnd (bor (bnot x1) (ile (lget y2 0).qty (lget t3 (itn y8)).filled)) (cnd (ile (len (lapp y4 [SNote.mk (wr IntKind.i64 (iadd (len y4) 1)) 6 (lget t3 (itn y8)).id 0 0])) 68719476736) (some (SVenue.mk t9 t3 (lapp y4 [SNote.mk (wr IntKind.i64 (iadd (len y4) 1)) 6 (lget t3 (itn y8)).id 0 0]), 0)) none) (cnd (ile (len (lapp y4 [SNote.mk (wr IntKind.i64 (iadd (len y4) 1)) 5 (lget t6 (itn y8)).id (lget y2 0).qty (lget y2 0).price])) 68719476736) (some (SVenue.mk t9 t6 (lapp y4 [SNote.mk (wr IntKind.i64 (iadd (len y4) 1)) 5 (lget t6 (itn y8)).id (lget y2 0).qty (lget y2 0).price]), 0)) none))) none)) none) (obind (F_venue_Find (SVenue.mk t9 y3 y4) (lget y2 0).order) fun y9 ↦ let t7 := (lset y3 (itn y9) (SOrder.mk (lget y3 (itn y9)).id (lget y3 (itn y9)).account (lget y3 (itn y9)).symbol (lget y3 (itn y9)).side (lget y3 (itn y9)).qty (lget y3 (itn y9)).price (lget y3 (itn y9)).filled 3 (lget y3 (itn y9)).newQty (lget y3 (itn y9)).newPrice (lget y3 (itn y9)).version (lget y3 (itn y9)).asked)); cnd (bor (band (ile 0 y9) (ilt y9 (len y3))) (bnot (bnot (ieq y9 (-1))))) (cnd (bor (ieq y9 (-1)) (bnot (ieq (lget y3 (itn y9)).phase 2))) (some (SVenue.mk t9 y3 y4, 0)) (cnd (band (ile 0 y9) (ilt y9 (len y3))) (cnd x1 (cnd (ile (len (lapp y4 [SNote.mk (wr IntKind.i64 (iadd (len y4) 1)) 4 (lget t7 (itn y9)).id 0 0])) 68719476736) (some (SVenue.mk t9 t7 (lapp y4 [SNote.mk (wr IntKind.i64 (iadd (len y4) 1)) 4 (lget t7 (itn y9)).id 0 0]), 0)) none) (some (SVenue.mk t9 y3 y4, 0))) none)) none))) none) none)) (obind (F_venue_swells x0) fun y10 ↦ cnd (band y10 (ieq (len x0.orders) 400)) (some (x0, 6)) (obind (F_slices_Clone_api_Msg_d x0.inbox) fun y11 ↦ let t8 := (ltake (ldrop y11 1) (itn (isub (len y11) 1))); obind (F_slices_Clone_api_Order_d x0.orders) fun y12 ↦ obind (F_slices_Clone_api_Note_d x0.notes) fun y13 ↦ cnd (ilt 0 (len y11)) (cnd (ile 1 (len y11)) (cnd (ieq (lget y11 0).kind 1) (obind (F_slices_BinarySearchFunc_api_Order_api_Order_int64 y12 (lget y11 0).order PUnit.unit) fun y14 ↦ cnd y14.snd (some (SVenue.mk t8 y12 y13, 0)) (cnd x1 (obind (F_slices_Insert_api_Order y12 y14.fst [SOrder.mk (lget y11 0).order (lget y11 0).account (lget y11 0).symbol (lget y11 0).side (lget y11 0).qty (lget y11 0).price 0 2 0 0 0 false]) fun y15 ↦ cnd (ile (len (lapp y13 [SNote.mk (wr IntKind.i64 (iadd (len y13) 1)) 1 (lget y11 0).order 0 0])) 68719476736) (some (SVenue.mk t8 y15 (lapp y13 [SNote.mk (wr IntKind.i64 (iadd (len y13) 1)) 1 (lget y11 0).order 0 0]), 0)) none) (obind (F_slices_Insert_api_Order y12 y14.fst [SOrder.mk (lget y11 0).order (lget y11 0).account (lget y11 0).symbol (lget y11 0).side (lget y11 0).qty (lget y11 0).price 0 3 0 0 0 false]) fun y16 ↦ cnd (ile (len (lapp y13 [SNote.mk (wr IntKind.i64 (iadd (len y13) 1)) 2 (lget y11 0).order 0 0])) 68719476736) (some (SVenue.mk t8 y16 (lapp y13 [SNote.mk (wr IntKind.i64 (iadd (len y13) 1)) 2 (lget y11 0).order 0 0]), 0)) none))) (cnd (ieq (lget y11 0).kind 2) (obind (F_venue_Find (SVenue.mk t8 y12 y13) (lget y11 0).order) fun y17 ↦ let t2 := (lset y12 (itn y17) (SOrder.mk (lget y12 (itn y17)).id (lget y12 (itn y17)).account (lget y12 (itn y17)).symbol (lget y12 (itn y17)).side (lget y12 (itn y17)).qty (lget y12 (itn y17)).price (lget y12 (itn y17)).filled (lget y12 (itn y17)).phase (lget y12 (itn y17)).newQty (lget y12 (itn y17)).newPrice (lget y11 0).version (lget y12 (itn y17)).asked)); let t0 := (lset t2 (itn y17) (SOrder.mk (lget t2 (itn y17)).id (lget t2 (itn y17)).account (lget t2 (itn y17)).symbol (lget t2 (itn y17)).side (lget y11 0).qty (lget t2 (itn y17)).price (lget t2 (itn y17)).filled (lget t2 (itn y17)).phase (lget t2 (itn y17)).newQty (lget t2 (itn y17)).newPrice (lget t2 (itn y17)).version (lget t2 (itn y17)).asked)); let t4 := (lset t0 (itn y17) (SOrder.mk (lget t0 (itn y17)).id (lget t0 (itn y17)).account (lget t0 (itn y17)).symbol (lget t0 (itn y17)).side (lget t0 (itn y17)).qty (lget y11 0).price (lget t0 (itn y17)).filled (lget t0 (itn y17)).phase (lget t0 (itn y17)).newQty (lget t0 (itn y17)).newPrice (lget t0 (itn y17)).version (lget t0 (itn y17)).asked)); cnd (bor (band (ile 0 y17) (ilt y17 (len y12))) (bnot (bnot (ieq y17 (-1))))) (cnd (bor (ieq y17 (-1)) (bnot (ieq (lget y12 (itn y17)).phase 2))) (some (SVenue.mk t8 y12 y13, 0)) (cnd (band (ile 0 y17) (ilt y17 (len y12))) (cnd (ile (lget y11 0).version (lget y12 (itn y17)).version) (some (SVenue.mk t8 y12 y13, 0)) (cnd (bor (bnot x1) (ile (lget y11 0).qty (lget t2 (itn y17)).filled)) (cnd (ile (len (lapp y13 [SNote.mk (wr IntKind.i64 (iadd (len y13) 1)) 6 (lget t2 (itn y17)).id 0 0])) 68719476736) (some (SVenue.mk t8 t2 (lapp y13 [SNote.mk (wr IntKind.i64 (iadd (len y13) 1)) 6 (lget t2 (itn y17)).id 0 0]), 0)) none) (cnd (ile (len (lapp y13 [SNote.mk (wr IntKind.i64 (iadd (len y13) 1)) 5 (lget t4 (itn y17)).id (lget y11 0).qty (lget y11 0).price])) 68719476736) (some (SVenue.mk t8 t4 (lapp y13 [SNote.mk (wr IntKind.i64 (iadd (len y13) 1)) 5 (lget t4 (itn y17)).id (lget y11 0).qty (lget y11 0).price]), 0)) none))) none)) none) (obind (F_venue_Find (SVenue.mk t8 y12 y13) (lget y11 0).order) fun y18 ↦ let t5 := (lset y12 (itn y18) (SOrder.mk (lget y12 (itn y18)).id (lget y12 (itn y18)).account (lget y12 (itn y18)).symbol (lget y12 (itn y18)).side (lget y12 (itn y18)).qty (lget y12 (itn y18)).price (lget y12 (itn y18)).filled 3 (lget y12 (itn y18)).newQty (lget y12 (itn y18)).newPrice (lget y12 (itn y18)).version (lget y12 (itn y18)).asked)); cnd (bor (band (ile 0 y18) (ilt y18 (len y12))) (bnot (bnot (ieq y18 (-1))))) (cnd (bor (ieq y18 (-1)) (bnot (ieq (lget y12 (itn y18)).phase 2))) (some (SVenue.mk t8 y12 y13, 0)) (cnd (band (ile 0 y18) (ilt y18 (len y12))) (cnd x1 (cnd (ile (len (lapp y13 [SNote.mk (wr IntKind.i64 (iadd (len y13) 1)) 4 (lget t5 (itn y18)).id 0 0])) 68719476736) (some (SVenue.mk t8 t5 (lapp y13 [SNote.mk (wr IntKind.i64 (iadd (len y13) 1)) 4 (lget t5 (itn y18)).id 0 0]), 0)) none) (some (SVenue.mk t8 y12 y13, 0))) none)) none))) none) none))))
theorem F_venue_Take_d_eq : F_venue_Take = F_venue_Take_d := by
  funext a0 a1
  unfold F_venue_Take F_venue_Take_d
  simp only [F_slices_Clone_api_Msg_d_eq, F_slices_Clone_api_Order_d_eq, F_slices_Clone_api_Note_d_eq]
def F_venue_Fill_d (x0 : SVenue) (x1 : Int) (x2 : Int) : Option (SVenue × Int) := obind (F_venue_Right x0) fun y0 ↦ cnd (bor (bnot y0) (ilt x2 1)) (some (x0, 1)) (obind (F_venue_Find x0 x1) fun y1 ↦ cnd (ieq y1 (-1)) (some (x0, 7)) (obind (F_slices_Clone_api_Msg_d x0.inbox) fun y2 ↦ obind (F_slices_Clone_api_Order_d x0.orders) fun y3 ↦ obind (F_slices_Clone_api_Note_d x0.notes) fun y4 ↦ obind (F_venue_Find (SVenue.mk y2 y3 y4) x1) fun y5 ↦ cnd (bor (band (ile 0 y5) (ilt y5 (len y3))) (bnot (bnot (ieq y5 (-1))))) (cnd (bor (ieq y5 (-1)) (bnot (ieq (lget y3 (itn y5)).phase 2))) (some (x0, 8)) (cnd (band (ile 0 y5) (ilt y5 (len y3))) (cnd (ilt (wr IntKind.i64 (isub (lget y3 (itn y5)).qty (lget y3 (itn y5)).filled)) x2) (some (x0, 8)) (obind (F_venue_full x0) fun y6 ↦ cnd y6 (some (x0, 6)) (cnd (ieq (lget (lset y3 (itn y5) (SOrder.mk (lget y3 (itn y5)).id (lget y3 (itn y5)).account (lget y3 (itn y5)).symbol (lget y3 (itn y5)).side (lget y3 (itn y5)).qty (lget y3 (itn y5)).price (wr IntKind.i64 (iadd (lget y3 (itn y5)).filled x2)) (lget y3 (itn y5)).phase (lget y3 (itn y5)).newQty (lget y3 (itn y5)).newPrice (lget y3 (itn y5)).version (lget y3 (itn y5)).asked)) (itn y5)).filled (lget (lset y3 (itn y5) (SOrder.mk (lget y3 (itn y5)).id (lget y3 (itn y5)).account (lget y3 (itn y5)).symbol (lget y3 (itn y5)).side (lget y3 (itn y5)).qty (lget y3 (itn y5)).price (wr IntKind.i64 (iadd (lget y3 (itn y5)).filled x2)) (lget y3 (itn y5)).phase (lget y3 (itn y5)).newQty (lget y3 (itn y5)).newPrice (lget y3 (itn y5)).version (lget y3 (itn y5)).asked)) (itn y5)).qty) (cnd (ile (len (lapp y4 [SNote.mk (wr IntKind.i64 (iadd (len y4) 1)) 3 x1 x2 0])) 68719476736) (some (SVenue.mk y2 (lset (lset y3 (itn y5) (SOrder.mk (lget y3 (itn y5)).id (lget y3 (itn y5)).account (lget y3 (itn y5)).symbol (lget y3 (itn y5)).side (lget y3 (itn y5)).qty (lget y3 (itn y5)).price (wr IntKind.i64 (iadd (lget y3 (itn y5)).filled x2)) (lget y3 (itn y5)).phase (lget y3 (itn y5)).newQty (lget y3 (itn y5)).newPrice (lget y3 (itn y5)).version (lget y3 (itn y5)).asked)) (itn y5) (SOrder.mk (lget (lset y3 (itn y5) (SOrder.mk (lget y3 (itn y5)).id (lget y3 (itn y5)).account (lget y3 (itn y5)).symbol (lget y3 (itn y5)).side (lget y3 (itn y5)).qty (lget y3 (itn y5)).price (wr IntKind.i64 (iadd (lget y3 (itn y5)).filled x2)) (lget y3 (itn y5)).phase (lget y3 (itn y5)).newQty (lget y3 (itn y5)).newPrice (lget y3 (itn y5)).version (lget y3 (itn y5)).asked)) (itn y5)).id (lget (lset y3 (itn y5) (SOrder.mk (lget y3 (itn y5)).id (lget y3 (itn y5)).account (lget y3 (itn y5)).symbol (lget y3 (itn y5)).side (lget y3 (itn y5)).qty (lget y3 (itn y5)).price (wr IntKind.i64 (iadd (lget y3 (itn y5)).filled x2)) (lget y3 (itn y5)).phase (lget y3 (itn y5)).newQty (lget y3 (itn y5)).newPrice (lget y3 (itn y5)).version (lget y3 (itn y5)).asked)) (itn y5)).account (lget (lset y3 (itn y5) (SOrder.mk (lget y3 (itn y5)).id (lget y3 (itn y5)).account (lget y3 (itn y5)).symbol (lget y3 (itn y5)).side (lget y3 (itn y5)).qty (lget y3 (itn y5)).price (wr IntKind.i64 (iadd (lget y3 (itn y5)).filled x2)) (lget y3 (itn y5)).phase (lget y3 (itn y5)).newQty (lget y3 (itn y5)).newPrice (lget y3 (itn y5)).version (lget y3 (itn y5)).asked)) (itn y5)).symbol (lget (lset y3 (itn y5) (SOrder.mk (lget y3 (itn y5)).id (lget y3 (itn y5)).account (lget y3 (itn y5)).symbol (lget y3 (itn y5)).side (lget y3 (itn y5)).qty (lget y3 (itn y5)).price (wr IntKind.i64 (iadd (lget y3 (itn y5)).filled x2)) (lget y3 (itn y5)).phase (lget y3 (itn y5)).newQty (lget y3 (itn y5)).newPrice (lget y3 (itn y5)).version (lget y3 (itn y5)).asked)) (itn y5)).side (lget (lset y3 (itn y5) (SOrder.mk (lget y3 (itn y5)).id (lget y3 (itn y5)).account (lget y3 (itn y5)).symbol (lget y3 (itn y5)).side (lget y3 (itn y5)).qty (lget y3 (itn y5)).price (wr IntKind.i64 (iadd (lget y3 (itn y5)).filled x2)) (lget y3 (itn y5)).phase (lget y3 (itn y5)).newQty (lget y3 (itn y5)).newPrice (lget y3 (itn y5)).version (lget y3 (itn y5)).asked)) (itn y5)).qty (lget (lset y3 (itn y5) (SOrder.mk (lget y3 (itn y5)).id (lget y3 (itn y5)).account (lget y3 (itn y5)).symbol (lget y3 (itn y5)).side (lget y3 (itn y5)).qty (lget y3 (itn y5)).price (wr IntKind.i64 (iadd (lget y3 (itn y5)).filled x2)) (lget y3 (itn y5)).phase (lget y3 (itn y5)).newQty (lget y3 (itn y5)).newPrice (lget y3 (itn y5)).version (lget y3 (itn y5)).asked)) (itn y5)).price (lget (lset y3 (itn y5) (SOrder.mk (lget y3 (itn y5)).id (lget y3 (itn y5)).account (lget y3 (itn y5)).symbol (lget y3 (itn y5)).side (lget y3 (itn y5)).qty (lget y3 (itn y5)).price (wr IntKind.i64 (iadd (lget y3 (itn y5)).filled x2)) (lget y3 (itn y5)).phase (lget y3 (itn y5)).newQty (lget y3 (itn y5)).newPrice (lget y3 (itn y5)).version (lget y3 (itn y5)).asked)) (itn y5)).filled 3 (lget (lset y3 (itn y5) (SOrder.mk (lget y3 (itn y5)).id (lget y3 (itn y5)).account (lget y3 (itn y5)).symbol (lget y3 (itn y5)).side (lget y3 (itn y5)).qty (lget y3 (itn y5)).price (wr IntKind.i64 (iadd (lget y3 (itn y5)).filled x2)) (lget y3 (itn y5)).phase (lget y3 (itn y5)).newQty (lget y3 (itn y5)).newPrice (lget y3 (itn y5)).version (lget y3 (itn y5)).asked)) (itn y5)).newQty (lget (lset y3 (itn y5) (SOrder.mk (lget y3 (itn y5)).id (lget y3 (itn y5)).account (lget y3 (itn y5)).symbol (lget y3 (itn y5)).side (lget y3 (itn y5)).qty (lget y3 (itn y5)).price (wr IntKind.i64 (iadd (lget y3 (itn y5)).filled x2)) (lget y3 (itn y5)).phase (lget y3 (itn y5)).newQty (lget y3 (itn y5)).newPrice (lget y3 (itn y5)).version (lget y3 (itn y5)).asked)) (itn y5)).newPrice (lget (lset y3 (itn y5) (SOrder.mk (lget y3 (itn y5)).id (lget y3 (itn y5)).account (lget y3 (itn y5)).symbol (lget y3 (itn y5)).side (lget y3 (itn y5)).qty (lget y3 (itn y5)).price (wr IntKind.i64 (iadd (lget y3 (itn y5)).filled x2)) (lget y3 (itn y5)).phase (lget y3 (itn y5)).newQty (lget y3 (itn y5)).newPrice (lget y3 (itn y5)).version (lget y3 (itn y5)).asked)) (itn y5)).version (lget (lset y3 (itn y5) (SOrder.mk (lget y3 (itn y5)).id (lget y3 (itn y5)).account (lget y3 (itn y5)).symbol (lget y3 (itn y5)).side (lget y3 (itn y5)).qty (lget y3 (itn y5)).price (wr IntKind.i64 (iadd (lget y3 (itn y5)).filled x2)) (lget y3 (itn y5)).phase (lget y3 (itn y5)).newQty (lget y3 (itn y5)).newPrice (lget y3 (itn y5)).version (lget y3 (itn y5)).asked)) (itn y5)).asked)) (lapp y4 [SNote.mk (wr IntKind.i64 (iadd (len y4) 1)) 3 x1 x2 0]), 0)) none) (cnd (ile (len (lapp y4 [SNote.mk (wr IntKind.i64 (iadd (len y4) 1)) 3 x1 x2 0])) 68719476736) (some (SVenue.mk y2 (lset y3 (itn y5) (SOrder.mk (lget y3 (itn y5)).id (lget y3 (itn y5)).account (lget y3 (itn y5)).symbol (lget y3 (itn y5)).side (lget y3 (itn y5)).qty (lget y3 (itn y5)).price (wr IntKind.i64 (iadd (lget y3 (itn y5)).filled x2)) (lget y3 (itn y5)).phase (lget y3 (itn y5)).newQty (lget y3 (itn y5)).newPrice (lget y3 (itn y5)).version (lget y3 (itn y5)).asked)) (lapp y4 [SNote.mk (wr IntKind.i64 (iadd (len y4) 1)) 3 x1 x2 0]), 0)) none)))) none)) none))
theorem F_venue_Fill_d_eq : F_venue_Fill = F_venue_Fill_d := by
  funext a0 a1 a2
  unfold F_venue_Fill F_venue_Fill_d
  simp only [F_slices_Clone_api_Msg_d_eq, F_slices_Clone_api_Order_d_eq, F_slices_Clone_api_Note_d_eq]
def F_slices_Clone_api_Cell_d (x0 : (List SCell)) : Option ((List SCell)) := nilD (len x0) fun y0 ↦ cnd (beq y0 true) (some []) (cnd (ile (len x0) 68719476736) (some x0) none)
theorem F_slices_Clone_api_Cell_d_eq : F_slices_Clone_api_Cell = F_slices_Clone_api_Cell_d := by
  funext a0
  unfold F_slices_Clone_api_Cell F_slices_Clone_api_Cell_d
  simp only [nilq_eq]
def F_slices_Clone_api_Expo_d (x0 : (List SExpo)) : Option ((List SExpo)) := nilD (len x0) fun y0 ↦ cnd (beq y0 true) (some []) (cnd (ile (len x0) 68719476736) (some x0) none)
theorem F_slices_Clone_api_Expo_d_eq : F_slices_Clone_api_Expo = F_slices_Clone_api_Expo_d := by
  funext a0
  unfold F_slices_Clone_api_Expo F_slices_Clone_api_Expo_d
  simp only [nilq_eq]
def F_slices_Clone_int64_d (x0 : (List Int)) : Option ((List Int)) := nilD (len x0) fun y0 ↦ cnd (beq y0 true) (some []) (cnd (ile (len x0) 68719476736) (some x0) none)
theorem F_slices_Clone_int64_d_eq : F_slices_Clone_int64 = F_slices_Clone_int64_d := by
  funext a0
  unfold F_slices_Clone_int64 F_slices_Clone_int64_d
  simp only [nilq_eq]
def F_book_Do_d (x0 : SState) (x1 : SRec) : Option (SState × Int) := obind (F_num_Add x0.lsn 1) fun y0 ↦ obind (cnd (bnot (bor (bnot (ieq y0.snd 0)) (ile 1000000000 x0.lsn))) (F_rec_Right x1) (some false)) fun y1 ↦ obind (cnd (bnot (bor (bor (bnot (ieq y0.snd 0)) (ile 1000000000 x0.lsn)) (bnot y1))) (F_book_Right x0) (some false)) fun y2 ↦ cnd (bor (bor (bor (bnot (ieq y0.snd 0)) (ile 1000000000 x0.lsn)) (bnot y1)) (bnot y2)) (some (x0, 1)) (obind (F_slices_Clone_api_Order_d x0.orders) fun y3 ↦ obind (F_slices_Clone_api_Cell_d x0.cells) fun y4 ↦ obind (F_slices_Clone_api_Expo_d x0.limits) fun y5 ↦ obind (F_slices_Clone_int64_d x0.caps) fun y6 ↦ cnd (ieq x1.kind 1) (obind (F_order_Begin x1) fun y7 ↦ cnd (ile x1.order x0.last) (cnd (ile x1.order x0.last) (some (x0, 1)) (cnd x0.kill (some (x0, 5)) (cnd (ieq (len y3) 64) (some (x0, 6)) (obind (F_slices_Clone_api_Order_d y3) fun y8 ↦ obind (F_slices_Clone_api_Cell_d y4) fun y9 ↦ obind (F_slices_Clone_api_Expo_d y5) fun y10 ↦ obind (F_slices_Clone_int64_d y6) fun y11 ↦ obind (F_book_ledger_cellOf (SState.mk x0.accounts x0.symbols y3 y4 y5 y6 x0.kill x0.last x0.seq x0.lsn) y7.fst.account y7.fst.symbol) fun y12 ↦ cnd (band (ile 0 y12) (ilt y12 (len y4))) (obind (F_cell_Come (lget y4 (itn y12)) y7.fst) fun y13 ↦ cnd (bnot (ieq y13.snd 0)) (some (x0, 3)) (cnd (ile (len (lapp y3 [y7.fst])) 68719476736) (obind (F_book_ledger_bears (SState.mk x0.accounts x0.symbols (lapp y3 [y7.fst]) (lset y4 (itn y12) y13.fst) y5 y6 x0.kill y7.fst.id x0.seq x0.lsn) (SState.mk x0.accounts x0.symbols y8 y9 y10 y11 x0.kill x0.last x0.seq x0.lsn) y7.fst.account y7.fst.symbol) fun y14 ↦ cnd (bnot (ieq y14 0)) (some (x0, y14)) (some (SState.mk x0.accounts x0.symbols (lapp y3 [y7.fst]) (lset y4 (itn y12) y13.fst) y5 y6 x0.kill y7.fst.id x0.seq (wr IntKind.i64 (iadd x0.lsn 1)), 0))) none)) none)))) (cnd (ile x0.accounts x1.account) (cnd (ile x0.accounts x1.account) (some (x0, 1)) (cnd x0.kill (some (x0, 5)) (cnd (ieq (len y3) 64) (some (x0, 6)) (obind (F_slices_Clone_api_Order_d y3) fun y15 ↦ obind (F_slices_Clone_api_Cell_d y4) fun y16 ↦ obind (F_slices_Clone_api_Expo_d y5) fun y17 ↦ obind (F_slices_Clone_int64_d y6) fun y18 ↦ obind (F_book_ledger_cellOf (SState.mk x0.accounts x0.symbols y3 y4 y5 y6 x0.kill x0.last x0.seq x0.lsn) y7.fst.account y7.fst.symbol) fun y19 ↦ cnd (band (ile 0 y19) (ilt y19 (len y4))) (obind (F_cell_Come (lget y4 (itn y19)) y7.fst) fun y20 ↦ cnd (bnot (ieq y20.snd 0)) (some (x0, 3)) (cnd (ile (len (lapp y3 [y7.fst])) 68719476736) (obind (F_book_ledger_bears (SState.mk x0.accounts x0.symbols (lapp y3 [y7.fst]) (lset y4 (itn y19) y20.fst) y5 y6 x0.kill y7.fst.id x0.seq x0.lsn) (SState.mk x0.accounts x0.symbols y15 y16 y17 y18 x0.kill x0.last x0.seq x0.lsn) y7.fst.account y7.fst.symbol) fun y21 ↦ cnd (bnot (ieq y21 0)) (some (x0, y21)) (some (SState.mk x0.accounts x0.symbols (lapp y3 [y7.fst]) (lset y4 (itn y19) y20.fst) y5 y6 x0.kill y7.fst.id x0.seq (wr IntKind.i64 (iadd x0.lsn 1)), 0))) none)) none)))) (cnd (ile x0.symbols x1.symbol) (some (x0, 1)) (cnd x0.kill (some (x0, 5)) (cnd (ieq (len y3) 64) (some (x0, 6)) (obind (F_slices_Clone_api_Order_d y3) fun y22 ↦ obind (F_slices_Clone_api_Cell_d y4) fun y23 ↦ obind (F_slices_Clone_api_Expo_d y5) fun y24 ↦ obind (F_slices_Clone_int64_d y6) fun y25 ↦ obind (F_book_ledger_cellOf (SState.mk x0.accounts x0.symbols y3 y4 y5 y6 x0.kill x0.last x0.seq x0.lsn) y7.fst.account y7.fst.symbol) fun y26 ↦ cnd (band (ile 0 y26) (ilt y26 (len y4))) (obind (F_cell_Come (lget y4 (itn y26)) y7.fst) fun y27 ↦ cnd (bnot (ieq y27.snd 0)) (some (x0, 3)) (cnd (ile (len (lapp y3 [y7.fst])) 68719476736) (obind (F_book_ledger_bears (SState.mk x0.accounts x0.symbols (lapp y3 [y7.fst]) (lset y4 (itn y26) y27.fst) y5 y6 x0.kill y7.fst.id x0.seq x0.lsn) (SState.mk x0.accounts x0.symbols y22 y23 y24 y25 x0.kill x0.last x0.seq x0.lsn) y7.fst.account y7.fst.symbol) fun y28 ↦ cnd (bnot (ieq y28 0)) (some (x0, y28)) (some (SState.mk x0.accounts x0.symbols (lapp y3 [y7.fst]) (lset y4 (itn y26) y27.fst) y5 y6 x0.kill y7.fst.id x0.seq (wr IntKind.i64 (iadd x0.lsn 1)), 0))) none)) none)))))) (cnd (ieq x1.kind 2) (obind (F_book_Find (SState.mk x0.accounts x0.symbols y3 y4 y5 y6 x0.kill x0.last x0.seq x0.lsn) x1.order) fun y29 ↦ cnd (ieq y29 (-1)) (some (x0, 7)) (cnd (band (ile 0 y29) (ilt y29 (len y3))) (obind (F_order_Change (lget y3 (itn y29)) x1.qty x1.price) fun y30 ↦ cnd (bnot (ieq y30.snd 0)) (some (x0, 8)) (cnd x0.kill (some (x0, 5)) (obind (F_slices_Clone_api_Order_d y3) fun y31 ↦ obind (F_slices_Clone_api_Cell_d y4) fun y32 ↦ obind (F_slices_Clone_api_Expo_d y5) fun y33 ↦ obind (F_slices_Clone_int64_d y6) fun y34 ↦ obind (F_book_ledger_cellOf (SState.mk x0.accounts x0.symbols y3 y4 y5 y6 x0.kill x0.last x0.seq x0.lsn) (lget y3 (itn y29)).account (lget y3 (itn y29)).symbol) fun y35 ↦ cnd (band (ile 0 y35) (ilt y35 (len y4))) (obind (F_cell_Go (lget y4 (itn y35)) (lget y3 (itn y29))) fun y36 ↦ obind (F_cell_Come y36.fst y30.fst) fun y37 ↦ cnd (bnot (ieq y37.snd 0)) (some (x0, 3)) (cnd (band (ile 0 y29) (ilt y29 (len y3))) (obind (F_book_ledger_bears (SState.mk x0.accounts x0.symbols (lset y3 (itn y29) y30.fst) (lset y4 (itn y35) y37.fst) y5 y6 x0.kill x0.last x0.seq x0.lsn) (SState.mk x0.accounts x0.symbols y31 y32 y33 y34 x0.kill x0.last x0.seq x0.lsn) (lget y3 (itn y29)).account (lget y3 (itn y29)).symbol) fun y38 ↦ cnd (bnot (ieq y38 0)) (some (x0, y38)) (some (SState.mk x0.accounts x0.symbols (lset y3 (itn y29) y30.fst) (lset y4 (itn y35) y37.fst) y5 y6 x0.kill x0.last x0.seq (wr IntKind.i64 (iadd x0.lsn 1)), 0))) none)) none))) none)) (cnd (ieq x1.kind 3) (obind (F_book_Find (SState.mk x0.accounts x0.symbols y3 y4 y5 y6 x0.kill x0.last x0.seq x0.lsn) x1.order) fun y39 ↦ cnd (ieq y39 (-1)) (some (x0, 7)) (cnd (band (ile 0 y39) (ilt y39 (len y3))) (obind (F_order_End (lget y3 (itn y39))) fun y40 ↦ cnd (band (ile 0 y39) (ilt y39 (len y3))) (cnd (bnot (ieq y40.snd 0)) (some (x0, y40.snd)) (some (SState.mk x0.accounts x0.symbols (lset y3 (itn y39) y40.fst) y4 y5 y6 x0.kill x0.last x0.seq (wr IntKind.i64 (iadd x0.lsn 1)), 0))) none) none)) (cnd (ieq x1.kind 4) (cnd (ile x0.accounts x1.account) (cnd (ile x0.accounts x1.account) (some (x0, 1)) (cnd (ieq x1.symbol (-1)) (cnd (band (ile 0 x1.account) (ilt x1.account (len y6))) (some (SState.mk x0.accounts x0.symbols y3 y4 y5 (lset y6 (itn x1.account) x1.opn) x0.kill x0.last x0.seq (wr IntKind.i64 (iadd x0.lsn 1)), 0)) none) (obind (F_book_ledger_cellOf (SState.mk x0.accounts x0.symbols y3 y4 y5 y6 x0.kill x0.last x0.seq x0.lsn) x1.account x1.symbol) fun y41 ↦ cnd (band (ile 0 y41) (ilt y41 (len y5))) (some (SState.mk x0.accounts x0.symbols y3 y4 (lset y5 (itn y41) (SExpo.mk x1.long x1.short x1.opn)) y6 x0.kill x0.last x0.seq (wr IntKind.i64 (iadd x0.lsn 1)), 0)) none))) (cnd (ile x0.symbols x1.symbol) (some (x0, 1)) (cnd (ieq x1.symbol (-1)) (cnd (band (ile 0 x1.account) (ilt x1.account (len y6))) (some (SState.mk x0.accounts x0.symbols y3 y4 y5 (lset y6 (itn x1.account) x1.opn) x0.kill x0.last x0.seq (wr IntKind.i64 (iadd x0.lsn 1)), 0)) none) (obind (F_book_ledger_cellOf (SState.mk x0.accounts x0.symbols y3 y4 y5 y6 x0.kill x0.last x0.seq x0.lsn) x1.account x1.symbol) fun y42 ↦ cnd (band (ile 0 y42) (ilt y42 (len y5))) (some (SState.mk x0.accounts x0.symbols y3 y4 (lset y5 (itn y42) (SExpo.mk x1.long x1.short x1.opn)) y6 x0.kill x0.last x0.seq (wr IntKind.i64 (iadd x0.lsn 1)), 0)) none)))) (cnd (ieq x1.kind 5) (some (SState.mk x0.accounts x0.symbols y3 y4 y5 y6 x1.on x0.last x0.seq (wr IntKind.i64 (iadd x0.lsn 1)), 0)) (cnd (bnot (ieq x1.seq (wr IntKind.i64 (iadd x0.seq 1)))) (some (x0, 11)) (obind (F_book_Find (SState.mk x0.accounts x0.symbols y3 y4 y5 y6 x0.kill x0.last x1.seq x0.lsn) x1.order) fun y43 ↦ cnd (ieq y43 (-1)) (some (SState.mk x0.accounts x0.symbols y3 y4 y5 y6 x0.kill x0.last x1.seq (wr IntKind.i64 (iadd x0.lsn 1)), 0)) (cnd (band (ile 0 y43) (ilt y43 (len y3))) (obind (F_order_Take (lget y3 (itn y43)) (SNote.mk x1.seq x1.what x1.order x1.qty x1.price)) fun y44 ↦ cnd (bnot (ieq y44.snd 0)) (some (SState.mk x0.accounts x0.symbols y3 y4 y5 y6 x0.kill x0.last x1.seq (wr IntKind.i64 (iadd x0.lsn 1)), 0)) (obind (F_book_ledger_cellOf (SState.mk x0.accounts x0.symbols y3 y4 y5 y6 x0.kill x0.last x1.seq x0.lsn) (lget y3 (itn y43)).account (lget y3 (itn y43)).symbol) fun y45 ↦ cnd (band (ile 0 y45) (ilt y45 (len y4))) (obind (F_cell_Go (lget y4 (itn y45)) (lget y3 (itn y43))) fun y46 ↦ obind (F_cell_Come (lget (lset y4 (itn y45) y46.fst) (itn y45)) y44.fst) fun y47 ↦ cnd (ieq x1.what 3) (obind (F_cell_Did (lget (lset (lset y4 (itn y45) y46.fst) (itn y45) y47.fst) (itn y45)) (lget y3 (itn y43)).side x1.qty) fun y48 ↦ cnd (band (ile 0 y43) (ilt y43 (len y3))) (cnd (ieq y44.fst.phase 3) (obind (F_slices_Delete_api_Order (lset y3 (itn y43) y44.fst) y43 (wr IntKind.i64 (iadd y43 1))) fun y49 ↦ some (SState.mk x0.accounts x0.symbols y49 (lset (lset (lset y4 (itn y45) y46.fst) (itn y45) y47.fst) (itn y45) y48.fst) y5 y6 x0.kill x0.last x1.seq (wr IntKind.i64 (iadd x0.lsn 1)), 0)) (some (SState.mk x0.accounts x0.symbols (lset y3 (itn y43) y44.fst) (lset (lset (lset y4 (itn y45) y46.fst) (itn y45) y47.fst) (itn y45) y48.fst) y5 y6 x0.kill x0.last x1.seq (wr IntKind.i64 (iadd x0.lsn 1)), 0))) none) (cnd (band (ile 0 y43) (ilt y43 (len y3))) (cnd (ieq y44.fst.phase 3) (obind (F_slices_Delete_api_Order (lset y3 (itn y43) y44.fst) y43 (wr IntKind.i64 (iadd y43 1))) fun y50 ↦ some (SState.mk x0.accounts x0.symbols y50 (lset (lset y4 (itn y45) y46.fst) (itn y45) y47.fst) y5 y6 x0.kill x0.last x1.seq (wr IntKind.i64 (iadd x0.lsn 1)), 0)) (some (SState.mk x0.accounts x0.symbols (lset y3 (itn y43) y44.fst) (lset (lset y4 (itn y45) y46.fst) (itn y45) y47.fst) y5 y6 x0.kill x0.last x1.seq (wr IntKind.i64 (iadd x0.lsn 1)), 0))) none)) none)) none))))))))
theorem F_book_Do_d_eq : F_book_Do = F_book_Do_d := by
  funext a0 a1
  unfold F_book_Do F_book_Do_d
  simp only [F_slices_Clone_api_Order_d_eq, F_slices_Clone_api_Cell_d_eq, F_slices_Clone_api_Expo_d_eq, F_slices_Clone_int64_d_eq]
def L_truth_Covers_122_d (p0 : Int) (p1 : SVenue) (p2 : SState) (v0 : Int) (v1 : Bool) : Option ((Int × Bool) ⊕ ((Bool) ⊕ ((Bool)))) := cnd (ilt v0 p0) (cnd (bnot (ieq p2.symbols 0)) (cnd (bnot (ieq p2.symbols 0)) (obind (F_truth_Of_d p1 (wr IntKind.i64 (iquo v0 p2.symbols)) (irem v0 p2.symbols)) fun y0 ↦ obind (F_book_Expo p2 (wr IntKind.i64 (iquo v0 p2.symbols)) (irem v0 p2.symbols)) fun y1 ↦ obind (cnd (bnot (bnot (ieq y0.snd 0))) (F_cell_Covers y1.fst y0.fst) (some false)) fun y2 ↦ cnd (bor (bnot (ieq y0.snd 0)) (bnot y2)) (some (Sum.inr (Sum.inl false))) (some (Sum.inl (wr IntKind.i64 (iadd v0 1), v1)))) none) none) (some (Sum.inr (Sum.inr v1)))
theorem L_truth_Covers_122_d_eq : L_truth_Covers_122 = L_truth_Covers_122_d := by
  funext a0 a1 a2 a3 a4
  unfold L_truth_Covers_122 L_truth_Covers_122_d
  simp only [F_truth_Of_d_eq]
def F_truth_Covers_d (x0 : SState) (x1 : SVenue) : Option (Bool) := obind (F_book_Right x0) fun y0 ↦ obind (cnd (bnot (bnot y0)) (F_venue_Right x1) (some false)) fun y1 ↦ cnd (bor (bnot y0) (bnot y1)) (some false) (obind (F_slices_Clone_api_Order_d x1.orders) fun y2 ↦ obind (F_truth_coming x1) fun y3 ↦ cnd (ile (len (lapp y2 y3)) 68719476736) (obind (iterN (fun v ↦ L_truth_Covers_58 (len (lapp y2 y3)) (lapp y2 y3) x0 v.fst v.snd) LF (0, false)) fun y4 ↦ sumK y4 (fun y5 ↦ some y5) fun y5 ↦ obind (iterN (fun v ↦ L_truth_Covers_122_d (len x0.cells) x1 x0 v.fst v.snd) LF (0, y5)) fun y6 ↦ sumK y6 (fun y7 ↦ some y7) fun y7 ↦ some true) none)
theorem F_truth_Covers_d_eq : F_truth_Covers = F_truth_Covers_d := by
  funext a0 a1
  unfold F_truth_Covers F_truth_Covers_d
  simp only [F_slices_Clone_api_Order_d_eq, L_truth_Covers_122_d_eq]
def F_snafflelaw23_awake_d : Option (Bool) := obind (F_venue_Send_d (SVenue.mk [] [] []) (SMsg.mk 1 1 0 0 1 5 2 0 0)) fun y0 ↦ obind (F_truth_Of_d y0.fst 0 0) fun y1 ↦ obind (F_venue_Take_d y0.fst true) fun y2 ↦ obind (F_venue_Fill_d y2.fst 1 3) fun y3 ↦ obind (F_truth_Of_d y3.fst 0 0) fun y4 ↦ obind (F_truth_Pos y3.fst 0 0) fun y5 ↦ obind (F_book_New 1 1 (SExpo.mk 9 9 99) 99) fun y6 ↦ obind (F_book_Do_d y6.fst (SRec.mk 1 1 0 0 1 5 2 0 0 0 false 0 0)) fun y7 ↦ obind (cnd (band (band (band (band (band (band (band (band (band (band (ieq y0.snd 0) (ieq y1.snd 0)) (ieq y2.snd 0)) (ieq y3.snd 0)) (ieq y4.snd 0)) (ieq y5.snd 0)) (ieq y6.snd 0)) (ieq y7.snd 0)) (band (ieq y1.fst.long 5) (band (ieq y1.fst.short 0) (ieq y1.fst.opn 10)))) (band (ieq y4.fst.long 5) (band (ieq y4.fst.short (-3)) (ieq y4.fst.opn 4)))) (ieq y5.fst 3)) (F_truth_Covers_d y7.fst y3.fst) (some false)) fun y8 ↦ obind (cnd (band (band (band (band (band (band (band (band (band (band (band (ieq y0.snd 0) (ieq y1.snd 0)) (ieq y2.snd 0)) (ieq y3.snd 0)) (ieq y4.snd 0)) (ieq y5.snd 0)) (ieq y6.snd 0)) (ieq y7.snd 0)) (band (ieq y1.fst.long 5) (band (ieq y1.fst.short 0) (ieq y1.fst.opn 10)))) (band (ieq y4.fst.long 5) (band (ieq y4.fst.short (-3)) (ieq y4.fst.opn 4)))) (ieq y5.fst 3)) y8) (F_truth_Covers_d y6.fst y3.fst) (some false)) fun y9 ↦ some (band (band (band (band (band (band (band (band (band (band (band (band (ieq y0.snd 0) (ieq y1.snd 0)) (ieq y2.snd 0)) (ieq y3.snd 0)) (ieq y4.snd 0)) (ieq y5.snd 0)) (ieq y6.snd 0)) (ieq y7.snd 0)) (band (ieq y1.fst.long 5) (band (ieq y1.fst.short 0) (ieq y1.fst.opn 10)))) (band (ieq y4.fst.long 5) (band (ieq y4.fst.short (-3)) (ieq y4.fst.opn 4)))) (ieq y5.fst 3)) y8) (bnot y9))
theorem F_snafflelaw23_awake_d_eq : F_snafflelaw23_awake = F_snafflelaw23_awake_d := by
  unfold F_snafflelaw23_awake F_snafflelaw23_awake_d
  simp only [F_venue_Send_d_eq, F_truth_Of_d_eq, F_venue_Take_d_eq, F_venue_Fill_d_eq, F_book_Do_d_eq, F_truth_Covers_d_eq]
theorem awake23 : F_snafflelaw23_awake = some true := by rw [F_snafflelaw23_awake_d_eq]; kernel_rfl
theorem e_short16 (v : SVenue) : F_snaffleref16_Short v = some (decide (v.inbox.length ≤ 450 ∧ v.orders.length ≤ 450 ∧ v.notes.length ≤ 450)) := by
  refine Wq.dec ?_
  unfold F_snaffleref16_Short
  rw [w_some]
  simp only [band_T, band_F, bor_T, bor_F, bnot_T, bnot_F, ilt_T, ilt_F, ile_T, ile_F, ieq_T, ieq_F, beq_T, beq_F, len]
  omega
def posF (a y : Int) (o : SOrder) : Int := if hereP o a y then (if o.side = 1 then o.filled else - o.filled) else 0
theorem pos_sum (a y : Int) : ∀ l : List SOrder, posZ l a y = sumF (posF a y) l
  | [] => rfl
  | o :: r => by
    have ih := pos_sum a y r
    unfold posZ boughtL soldL at *
    simp only [List.filter_cons]
    simp only [sumF]
    rw [← ih]
    unfold posF
    by_cases hh : hereP o a y
    · by_cases h1 : o.side = 1
      · rw [if_pos (by simp [hh, h1]), if_neg (by simp [h1]), if_pos hh, if_pos h1]
        simp only [List.map_cons, sumL]; omega
      · rw [if_neg (by simp [h1]), if_pos (by simp [hh, h1]), if_pos hh, if_neg h1]
        simp only [List.map_cons, sumL]; omega
    · rw [if_neg (by simp [hh]), if_neg (by simp [hh]), if_neg hh]; omega
def lxF (l : List SMsg) (a y : Int) (o : SOrder) : Int := posF a y o + longF l a y o
def sxF (l : List SMsg) (a y : Int) (o : SOrder) : Int := shortF l a y o - posF a y o
theorem sumF_add (f g : SOrder → Int) : ∀ l : List SOrder, sumF (fun o => f o + g o) l = sumF f l + sumF g l
  | [] => rfl
  | o :: r => by simp only [sumF]; rw [sumF_add f g r]; omega
theorem sumF_sub (f g : SOrder → Int) : ∀ l : List SOrder, sumF (fun o => f o - g o) l = sumF f l - sumF g l
  | [] => rfl
  | o :: r => by simp only [sumF]; rw [sumF_sub f g r]; omega
theorem of_sums (v : SVenue) (a y : Int) : ofO v a y = ⟨sumF (lxF v.inbox a y) (allO v), sumF (sxF v.inbox a y) (allO v), sumF (worthF v.inbox a y) (allO v)⟩ := by
  have e1 : sumF (lxF v.inbox a y) (allO v) = posZ v.orders a y + longS v a y := by
    rw [← pos_all, pos_sum]; exact sumF_add _ _ _
  have e2 : sumF (sxF v.inbox a y) (allO v) = shortS v a y - posZ v.orders a y := by
    rw [← pos_all, pos_sum]; exact sumF_sub _ _ _
  rw [e1, e2]; rfl
/-- One order, with what waits, covers another. -/
def covO (l : List SMsg) (o : SOrder) (l' : List SMsg) (p : SOrder) : Prop := ∀ a y, lxF l' a y p ≤ lxF l a y o ∧ sxF l' a y p ≤ sxF l a y o ∧ worthF l' a y p ≤ worthF l a y o
theorem sumF_le {f g : SOrder → Int} : ∀ {l : List SOrder}, (∀ o ∈ l, g o ≤ f o) → sumF g l ≤ sumF f l
  | [], _ => Int.le_refl _
  | o :: r, h => by
    have := h o List.mem_cons_self
    have := sumF_le fun x hx => h x (List.mem_cons_of_mem o hx)
    simp only [sumF]; omega
theorem covO_sub {l l' : List SMsg} (h : ∀ m ∈ l', m ∈ l) (o : SOrder) : covO l o l' o := fun a y => by
  have h1 := most_sub openZ o h
  have h2 := most_sub worthZ o h
  unfold lxF sxF longF shortF worthF openA worthA
  refine ⟨?_, ?_, ?_⟩
  · split <;> omega
  · split <;> omega
  · split <;> omega
theorem sumF_set {f g : SOrder → Int} {p : SOrder} : ∀ (l : List SOrder) (k : Nat) (hk : k < l.length), (∀ o ∈ l, g o ≤ f o) → g p ≤ f l[k] → sumF g (l.set k p) ≤ sumF f l
  | o :: r, 0, hk, h, hp => by
    have h1 := sumF_le fun x hx => h x (List.mem_cons_of_mem o hx)
    have h2 : g p ≤ f o := hp
    show g p + sumF g r ≤ f o + sumF f r
    omega
  | o :: r, k + 1, hk, h, hp => by
    have h1 := h o List.mem_cons_self
    have h2 := sumF_set r k (Nat.lt_of_succ_lt_succ hk) (fun x hx => h x (List.mem_cons_of_mem o hx)) hp
    show g o + sumF g (r.set k p) ≤ f o + sumF f r
    omega
theorem sumF_ins (f : SOrder → Int) (l : List SOrder) (k : Nat) (p : SOrder) : sumF f (l.take k ++ p :: l.drop k) = sumF f l + f p := by
  rw [sumF_app]
  simp only [sumF]
  have : sumF f l = sumF f (l.take k) + sumF f (l.drop k) := by rw [← sumF_app, List.take_append_drop]
  omega
theorem coming_congr : ∀ {ks ks' : List Int} (l : List SMsg), (∀ x, x ∈ ks ↔ x ∈ ks') → comingZ ks l = comingZ ks' l
  | _, _, [], _ => rfl
  | ks, ks', m :: r, h => by
    rw [coming_cons, coming_cons, coming_congr r h, coming_congr (ks := m.order :: ks) (ks' := m.order :: ks') r (fun x => by simp [h])]
    simp only [h]
/-- An order is changed; the message at the head may go. -/
theorem set_cov {v : SVenue} {l' : List SMsg} {k : Nat} {p : SOrder} {n' : List SNote} (hl : ∀ m ∈ l', m ∈ v.inbox) (hc : comingZ (v.orders.map (·.id)) l' = comingZ (v.orders.map (·.id)) v.inbox)
    (hk : k < v.orders.length) (hid : p.id = v.orders[k].id) (hp : covO v.inbox v.orders[k] l' p) (a y : Int) : covX (ofO v a y) (ofO ⟨l', v.orders.set k p, n'⟩ a y) := by
  have hall : allO ⟨l', v.orders.set k p, n'⟩ = v.orders.set k p ++ comingZ (v.orders.map (·.id)) v.inbox := by
    unfold allO
    simp only
    have : (v.orders.set k p).map (·.id) = v.orders.map (·.id) := by
      rw [List.map_set, hid]
      refine List.ext_getElem (by simp) fun i h1 h2 => ?_
      rw [List.getElem_set]
      split
      · subst_vars; simp
      · rfl
    rw [this, hc]
  rw [of_sums, of_sums, hall]
  unfold allO
  unfold covX
  simp only
  simp only [sumF_app]
  have c := fun o => covO_sub hl o a y
  refine ⟨?_, ?_, ?_⟩
  · have h1 := sumF_set (f := lxF v.inbox a y) (g := lxF l' a y) (p := p) v.orders k hk (fun o _ => (c o).1) (hp a y).1
    have h2 := sumF_le (f := lxF v.inbox a y) (g := lxF l' a y) (l := comingZ (v.orders.map (·.id)) v.inbox) (fun o _ => (c o).1)
    omega
  · have h1 := sumF_set (f := sxF v.inbox a y) (g := sxF l' a y) (p := p) v.orders k hk (fun o _ => (c o).2.1) (hp a y).2.1
    have h2 := sumF_le (f := sxF v.inbox a y) (g := sxF l' a y) (l := comingZ (v.orders.map (·.id)) v.inbox) (fun o _ => (c o).2.1)
    omega
  · have h1 := sumF_set (f := worthF v.inbox a y) (g := worthF l' a y) (p := p) v.orders k hk (fun o _ => (c o).2.2) (hp a y).2.2
    have h2 := sumF_le (f := worthF v.inbox a y) (g := worthF l' a y) (l := comingZ (v.orders.map (·.id)) v.inbox) (fun o _ => (c o).2.2)
    omega
theorem tail_cov {v : SVenue} {l' : List SMsg} {n' : List SNote} (hl : ∀ m ∈ l', m ∈ v.inbox) (hc : comingZ (v.orders.map (·.id)) l' = comingZ (v.orders.map (·.id)) v.inbox) (a y : Int) : covX (ofO v a y) (ofO ⟨l', v.orders, n'⟩ a y) := by
  have hall : allO ⟨l', v.orders, n'⟩ = allO v := by unfold allO; simp only; rw [hc]
  rw [of_sums, of_sums, hall]
  have c := fun o => covO_sub hl o a y
  exact ⟨sumF_le fun o _ => (c o).1, sumF_le fun o _ => (c o).2.1, sumF_le fun o _ => (c o).2.2⟩
/-- A new order begins, or is refused. -/
theorem ins_cov {v : SVenue} {m : SMsg} {r : List SMsg} {k : Nat} {p : SOrder} {n' : List SNote} (hi : v.inbox = m :: r) (hm : m.kind = 1) (hn : m.order ∉ v.orders.map (·.id)) (hk : k ≤ v.orders.length) (hid : p.id = m.order)
    (hp : covO v.inbox ⟨m.order, m.account, m.symbol, m.side, m.qty, m.price, 0, 2, 0, 0, 0, false⟩ r p) (a y : Int) : covX (ofO v a y) (ofO ⟨r, v.orders.take k ++ p :: v.orders.drop k, n'⟩ a y) := by
  have hl : ∀ x ∈ r, x ∈ v.inbox := fun x hx => by rw [hi]; exact List.mem_cons_of_mem m hx
  have hc : comingZ (v.orders.map (·.id)) v.inbox = ⟨m.order, m.account, m.symbol, m.side, m.qty, m.price, 0, 2, 0, 0, 0, false⟩ :: comingZ (m.order :: v.orders.map (·.id)) r := by
    rw [hi, coming_cons, if_neg (by rintro (g | g); exact hn g; exact g hm)]
  have hc2 : comingZ ((v.orders.take k ++ p :: v.orders.drop k).map (·.id)) r = comingZ (m.order :: v.orders.map (·.id)) r := by
    refine coming_congr r fun x => ?_
    have : v.orders.map (·.id) = (v.orders.take k).map (·.id) ++ (v.orders.drop k).map (·.id) := by rw [← List.map_append, List.take_append_drop]
    rw [this]
    simp only [List.map_append, List.map_cons, List.mem_append, List.mem_cons, hid]
    constructor
    · rintro (g | g | g)
      · exact .inr (.inl g)
      · exact .inl g
      · exact .inr (.inr g)
    · rintro (g | g | g)
      · exact .inr (.inl g)
      · exact .inl g
      · exact .inr (.inr g)
  rw [of_sums, of_sums]
  unfold allO covX
  simp only
  rw [hc2, hc]
  simp only [sumF_app, sumF_ins]
  simp only [sumF]
  have c := fun o => covO_sub hl o a y
  refine ⟨?_, ?_, ?_⟩
  · have h1 := sumF_le (f := lxF v.inbox a y) (g := lxF r a y) (l := v.orders) (fun o _ => (c o).1)
    have h2 := sumF_le (f := lxF v.inbox a y) (g := lxF r a y) (l := comingZ (m.order :: v.orders.map (·.id)) r) (fun o _ => (c o).1)
    have := (hp a y).1
    have h3 : sumF (lxF r a y) v.orders = sumF (lxF r a y) (v.orders.take k) + sumF (lxF r a y) (v.orders.drop k) := by rw [← sumF_app, List.take_append_drop]
    omega
  · have h1 := sumF_le (f := sxF v.inbox a y) (g := sxF r a y) (l := v.orders) (fun o _ => (c o).2.1)
    have h2 := sumF_le (f := sxF v.inbox a y) (g := sxF r a y) (l := comingZ (m.order :: v.orders.map (·.id)) r) (fun o _ => (c o).2.1)
    have := (hp a y).2.1
    have h3 : sumF (sxF r a y) v.orders = sumF (sxF r a y) (v.orders.take k) + sumF (sxF r a y) (v.orders.drop k) := by rw [← sumF_app, List.take_append_drop]
    omega
  · have h1 := sumF_le (f := worthF v.inbox a y) (g := worthF r a y) (l := v.orders) (fun o _ => (c o).2.2)
    have h2 := sumF_le (f := worthF v.inbox a y) (g := worthF r a y) (l := comingZ (m.order :: v.orders.map (·.id)) r) (fun o _ => (c o).2.2)
    have := (hp a y).2.2
    have h3 : sumF (worthF r a y) v.orders = sumF (worthF r a y) (v.orders.take k) + sumF (worthF r a y) (v.orders.drop k) := by rw [← sumF_app, List.take_append_drop]
    omega
theorem open_live {o : SOrder} (h : setP o) (h2 : o.phase = 2) : openZ o = o.qty - o.filled := by
  have := h.1.1.2.2.2.2.1
  unfold openZ
  rw [if_neg (by omega), h.2.2.1]; omega
theorem worth_live {o : SOrder} (h : setP o) (h2 : o.phase = 2) : worthZ o = (o.qty - o.filled) * o.price := by
  have := h.1.2.1
  unfold worthZ
  rw [if_neg (by omega), if_pos (by rw [h.2.2.1]; omega)]
theorem posF_same {o p : SOrder} {a y : Int} (e1 : p.account = o.account) (e2 : p.symbol = o.symbol) (e3 : p.side = o.side) (e4 : p.filled = o.filled) : posF a y p = posF a y o := by
  have hh : hereP p a y = hereP o a y := by unfold hereP; rw [e1, e2]
  unfold posF; simp only [hh, e3, e4]
/-- It ends. -/
theorem covO_done {l l' : List SMsg} {o p : SOrder} (ho : ordP o) (hl : okO l o) (e1 : p.account = o.account) (e2 : p.symbol = o.symbol) (e3 : p.side = o.side) (e4 : p.filled = o.filled) (e5 : p.phase ≠ 2) : covO l o l' p := fun a y => by
  have hp : posF a y p = posF a y o := posF_same e1 e2 e3 e4
  have z1 : longF l' a y p = 0 := if_neg (fun g => e5 g.1.2)
  have z2 : shortF l' a y p = 0 := if_neg (fun g => e5 g.1.2)
  have z3 : worthF l' a y p = 0 := if_neg (fun g => e5 g.2)
  have n1 := (longF_rng (a := a) (y := y) hl).1
  have n2 := (shortF_rng (a := a) (y := y) hl).1
  have n3 := worthF_nn (a := a) (y := y) hl
  unfold lxF sxF
  rw [hp, z1, z2, z3]
  omega
/-- The same but for what may come. -/
theorem covO_live {l l' : List SMsg} {o p : SOrder} (e1 : p.account = o.account) (e2 : p.symbol = o.symbol) (e3 : p.side = o.side) (e4 : p.filled = o.filled) (e5 : p.phase = o.phase)
    (h1 : openA p l' ≤ openA o l) (h2 : worthA p l' ≤ worthA o l) : covO l o l' p := fun a y => by
  have hp : posF a y p = posF a y o := posF_same e1 e2 e3 e4
  have hh : hereP p a y = hereP o a y := by unfold hereP; rw [e1, e2]
  unfold lxF sxF longF shortF worthF
  simp only [hp, hh, e3, e5]
  refine ⟨?_, ?_, ?_⟩ <;> split <;> omega
theorem mulR {a b c : Int} (h : a ≤ b) (hc : 0 ≤ c) : a * c ≤ b * c := Int.mul_le_mul_of_nonneg_right h hc
/-- It's changed, as asked. -/
def changedZ (o : SOrder) (m : SMsg) : SOrder := ⟨o.id, o.account, o.symbol, o.side, m.qty, m.price, o.filled, o.phase, o.newQty, o.newPrice, m.version, o.asked⟩
def refusedZ (o : SOrder) (m : SMsg) : SOrder := ⟨o.id, o.account, o.symbol, o.side, o.qty, o.price, o.filled, o.phase, o.newQty, o.newPrice, m.version, o.asked⟩
theorem covO_changed {l l' : List SMsg} {o : SOrder} {m : SMsg} (h : setP o) (h2 : o.phase = 2) (hl : ∀ x ∈ l', x ∈ l) (hm : m ∈ l) (ha : asksP o m) (hq : o.filled < m.qty) (hq1 : 1 ≤ m.qty) : covO l o l' (changedZ o m) := by
  have hf := h.1.2.1
  have up : ∀ x, asksP (changedZ o m) x → asksP o x := fun x hx => ⟨hx.1, hx.2.1, by have := ha.2.2; have := hx.2.2; simp only [changedZ] at this; omega⟩
  have o1 : openZ (swapZ o m) = max o.qty m.qty - o.filled := by unfold openZ swapZ; simp only; rw [if_neg (by omega)]
  have w1 : worthZ (swapZ o m) = max ((o.qty - o.filled) * o.price) ((m.qty - o.filled) * m.price) := by unfold worthZ swapZ; simp only; rw [if_neg (by omega), if_neg (by omega)]
  have O1 := most_mem openZ o ha hm
  have W1 := most_mem worthZ o ha hm
  have p0 : openZ (changedZ o m) = m.qty - o.filled := by unfold openZ changedZ; simp only; rw [if_neg (by omega), h.2.2.1]; omega
  have q0 : worthZ (changedZ o m) = (m.qty - o.filled) * m.price := by unfold worthZ changedZ; simp only; rw [if_neg (by omega), if_pos (by rw [h.2.2.1]; omega)]
  refine covO_live rfl rfl rfl rfl rfl (most_le openZ _ (by unfold openA; omega) fun x hx hax => ?_) (most_le worthZ _ (by unfold worthA; omega) fun x hx hax => ?_)
  · have O2 := most_mem openZ o (up x hax) (hl x hx)
    have o2 : openZ (swapZ o x) = max o.qty x.qty - o.filled := by unfold openZ swapZ; simp only; rw [if_neg (by omega)]
    have p2 : openZ (swapZ (changedZ o m) x) = max m.qty x.qty - o.filled := by unfold openZ swapZ changedZ; simp only; rw [if_neg (by omega)]
    unfold openA; omega
  · have W2 := most_mem worthZ o (up x hax) (hl x hx)
    unfold worthA
    by_cases hx : x.qty ≤ o.filled
    · have : worthZ (swapZ (changedZ o m) x) = (m.qty - o.filled) * m.price := by unfold worthZ swapZ changedZ; simp only; rw [if_neg (by omega), if_pos hx]
      omega
    · have e1 : worthZ (swapZ (changedZ o m) x) = max ((m.qty - o.filled) * m.price) ((x.qty - o.filled) * x.price) := by unfold worthZ swapZ changedZ; simp only; rw [if_neg (by omega), if_neg hx]
      have e2 : worthZ (swapZ o x) = max ((o.qty - o.filled) * o.price) ((x.qty - o.filled) * x.price) := by unfold worthZ swapZ; simp only; rw [if_neg (by omega), if_neg hx]
      omega
theorem covO_refused {l l' : List SMsg} {o : SOrder} {m : SMsg} (hl : ∀ x ∈ l', x ∈ l) (ha : asksP o m) : covO l o l' (refusedZ o m) := by
  have up : ∀ x, asksP (refusedZ o m) x → asksP o x := fun x hx => ⟨hx.1, hx.2.1, by have := ha.2.2; have := hx.2.2; simp only [refusedZ] at this; omega⟩
  refine covO_live rfl rfl rfl rfl rfl (most_le openZ (refusedZ o m) (show openZ (refusedZ o m) ≤ _ from most_self openZ o l) fun x hx hax => ?_) (most_le worthZ (refusedZ o m) (show worthZ (refusedZ o m) ≤ _ from most_self worthZ o l) fun x hx hax => ?_)
  · exact most_mem openZ o (up x hax) (hl x hx)
  · exact most_mem worthZ o (up x hax) (hl x hx)
/-- Some of it is filled. -/
def filledZ (o : SOrder) (q : Int) : SOrder := ⟨o.id, o.account, o.symbol, o.side, o.qty, o.price, o.filled + q, o.phase, o.newQty, o.newPrice, o.version, o.asked⟩
def fullZ (o : SOrder) (q : Int) : SOrder := ⟨o.id, o.account, o.symbol, o.side, o.qty, o.price, o.filled + q, 3, o.newQty, o.newPrice, o.version, o.asked⟩
theorem covO_filled {l : List SMsg} {o : SOrder} {q : Int} (h : setP o) (h2 : o.phase = 2) (hl : ∀ x ∈ l, msgP x) (hq : 1 ≤ q) (hq2 : q ≤ o.qty - o.filled) : covO l o l (filledZ o q) := by
  have hb := h.1.1
  have hpr := hb.2.2.2.2.2
  have hO : openA (filledZ o q) l ≤ openA o l - q := by
    refine most_le openZ _ ?_ fun x hx hax => ?_
    · have := most_self openZ o l
      have e1 : openZ (filledZ o q) = openZ o - q := by unfold openZ filledZ; simp only; rw [if_neg (by omega), if_neg (by omega)]; omega
      unfold openA; omega
    · have := most_mem openZ o (m := x) hax hx
      have e1 : openZ (swapZ (filledZ o q) x) = openZ (swapZ o x) - q := by unfold openZ swapZ filledZ; simp only; rw [if_neg (by omega), if_neg (by omega)]; omega
      unfold openA; omega
  have hW : worthA (filledZ o q) l ≤ worthA o l := by
    have m0 := mulR (a := o.qty - (o.filled + q)) (b := o.qty - o.filled) (c := o.price) (by omega) (by omega)
    refine most_le worthZ _ ?_ fun x hx hax => ?_
    · have := most_self worthZ o l
      rw [worth_live h h2] at this
      have e1 : worthZ (filledZ o q) = (o.qty - (o.filled + q)) * o.price := by
        have := h.1.2.1
        unfold worthZ filledZ; simp only; rw [if_neg (by omega), if_pos (by rw [h.2.2.1]; omega)]
      unfold worthA; omega
    · have h9 := most_mem worthZ o (m := x) hax hx
      have hxp : 1 ≤ x.price := by have := (hl x hx).2.2.2.2.2; have := hax.1; omega
      have m1 := mulR (a := x.qty - (o.filled + q)) (b := x.qty - o.filled) (c := x.price) (by omega) (by omega)
      unfold worthA
      by_cases hx1 : x.qty ≤ o.filled
      · have e1 : worthZ (swapZ (filledZ o q) x) = (o.qty - (o.filled + q)) * o.price := by unfold worthZ swapZ filledZ; simp only; rw [if_neg (by omega), if_pos (by omega)]
        have e2 : worthZ (swapZ o x) = (o.qty - o.filled) * o.price := by unfold worthZ swapZ; simp only; rw [if_neg (by omega), if_pos hx1]
        omega
      · have e2 : worthZ (swapZ o x) = max ((o.qty - o.filled) * o.price) ((x.qty - o.filled) * x.price) := by unfold worthZ swapZ; simp only; rw [if_neg (by omega), if_neg hx1]
        by_cases hx2 : x.qty ≤ o.filled + q
        · have e1 : worthZ (swapZ (filledZ o q) x) = (o.qty - (o.filled + q)) * o.price := by unfold worthZ swapZ filledZ; simp only; rw [if_neg (by omega), if_pos (by omega)]
          omega
        · have e1 : worthZ (swapZ (filledZ o q) x) = max ((o.qty - (o.filled + q)) * o.price) ((x.qty - (o.filled + q)) * x.price) := by unfold worthZ swapZ filledZ; simp only; rw [if_neg (by omega), if_neg (by omega)]
          omega
  intro a y
  have hh : hereP (filledZ o q) a y = hereP o a y := rfl
  unfold lxF sxF longF shortF worthF posF
  simp only [hh, show (filledZ o q).side = o.side from rfl, show (filledZ o q).phase = o.phase from rfl, show (filledZ o q).filled = o.filled + q from rfl]
  by_cases g : hereP o a y
  · by_cases g1 : o.side = 1
    · simp only [g, g1, h2, if_true, and_self, true_and, ne_eq, not_true_eq_false, and_false, if_false]
      omega
    · simp only [g, g1, h2, if_true, and_self, true_and, ne_eq, not_false_eq_true, and_false, if_false]
      omega
  · simp only [g, if_false, false_and]; omega
theorem covO_full {l : List SMsg} {o : SOrder} {q : Int} (h : setP o) (h2 : o.phase = 2) (hl : okO l o) (hq : 1 ≤ q) (hq2 : q ≤ o.qty - o.filled) : covO l o l (fullZ o q) := by
  have hO := most_self openZ o l
  rw [open_live h h2] at hO
  have hW := worthA_nn (l := l) hl.1
  intro a y
  have hh : hereP (fullZ o q) a y = hereP o a y := rfl
  unfold lxF sxF longF shortF worthF posF
  simp only [hh, show (fullZ o q).side = o.side from rfl, show (fullZ o q).phase = 3 from rfl, show (fullZ o q).filled = o.filled + q from rfl]
  unfold openA
  by_cases g : hereP o a y
  · by_cases g1 : o.side = 1
    · simp [g, g1, h2]
      omega
    · simp [g, g1, h2]
      omega
  · simp [g]
theorem half_sumV (n : Nat) (h : n < 1000000000) : wr IntKind.i64 (ishr IntKind.u64 (wr IntKind.u64 (wr IntKind.i64 (n : Int))) 1) = ((n / 2 : Nat) : Int) := by
  have e1 : wr IntKind.i64 (n : Int) = n := wr_small (by omega) (by omega)
  have e2 : wr IntKind.u64 (n : Int) = n := by rw [wr_u64]; omega
  have e3 : ishr IntKind.u64 (n : Int) 1 = ((n / 2 : Nat) : Int) := by
    unfold ishr
    simp [Int.shiftRight_eq_div_pow, IntKind.bits, IntKind.signed]
    exact Int.fdiv_eq_ediv_of_nonneg _ (by decide)
  rw [e1, e2, e3, wr_small (by omega) (by omega)]
theorem venP.asc {v : SVenue} (h : venP v) {i j : Nat} (hij : i < j) (hj : j < v.orders.length) : v.orders[i].id < v.orders[j].id := by
  have step : ∀ i : Nat, (hi : i + 1 < v.orders.length) → v.orders[i].id < v.orders[i + 1].id := fun i hi => by
    have := (h.2.2.1 (i + 1) hi hi).2 (by omega)
    simpa using this
  have key : ∀ d : Nat, (hd : i + d + 1 < v.orders.length) → v.orders[i].id < v.orders[i + d + 1].id := fun d => by
    induction d with
    | zero => exact fun hd => step i hd
    | succ d ih => exact fun hd => Int.lt_trans (ih (by omega)) (step (i + d + 1) (by omega))
  have e : j = i + (j - i - 1) + 1 := by omega
  have := key (j - i - 1) (by omega)
  simp only [← e] at this
  exact this
theorem e_search {v : SVenue} {s : Int} (hv : venP v) (hs : knownP s) (u : Unit) :
    Wq (F_slices_BinarySearchFunc_api_Order_api_Order_int64 v.orders s u) fun r => ∃ i : Nat, r.1 = (i : Int) ∧ i ≤ v.orders.length ∧ (r.2 = true ↔ s ∈ v.orders.map (·.id)) := by
  have hl := hv.1.2.2
  have sub : ∀ (i : Nat) (h : i < v.orders.length), wr IntKind.i64 (isub v.orders[i].id s) = v.orders[i].id - s := fun i h => by
    have := (hv.ord (List.getElem_mem h)).1.1.1
    unfold knownP at hs
    exact wr_in ⟨by simp only [isub]; omega, by simp only [isub]; omega⟩
  unfold F_slices_BinarySearchFunc_api_Order_api_Order_int64
  refine Wq.bind (Q := fun w : Int => ∃ i : Nat, w = (i : Int) ∧ i ≤ v.orders.length ∧ (∀ (j : Nat) (h : j < v.orders.length), j < i → v.orders[j].id < s) ∧ (∀ (j : Nat) (h : j < v.orders.length), i ≤ j → s ≤ v.orders[j].id))
    (w_iter (step := fun x : Int × Int => L_slices_BinarySearchFunc_api_Order_api_Order_int64_60 v.orders s x.fst x.snd) (fun v => (v.1 - v.2).toNat)
      (fun x => ∃ lo hi : Nat, x = ((hi : Int), (lo : Int)) ∧ lo ≤ hi ∧ hi ≤ v.orders.length ∧ (∀ (j : Nat) (h : j < v.orders.length), j < lo → v.orders[j].id < s) ∧ (∀ (j : Nat) (h : j < v.orders.length), hi ≤ j → s ≤ v.orders[j].id)) _ ?_ LF _ (lt_LF (by simp only [len]; omega)) ⟨0, v.orders.length, rfl, Nat.zero_le _, Nat.le_refl _, fun j _ h => by omega, fun j h1 h2 => by omega⟩) ?_
  · rintro _ ⟨lo, hi, rfl, g1, g2, g3, g4⟩
    simp only [L_slices_BinarySearchFunc_api_Order_api_Order_int64_60]
    rw [w_cnd]
    refine ⟨fun h => ?_, fun h => (w_some _).2 ?_⟩
    · rw [ilt_T] at h
      have e1 : wr IntKind.i64 (ishr IntKind.u64 (wr IntKind.u64 (wr IntKind.i64 (iadd (lo : Int) (hi : Int)))) 1) = (((lo + hi) / 2 : Nat) : Int) := by
        rw [← half_sumV (lo + hi) (by omega)]; unfold iadd; rw [Int.natCast_add]
      have hm : (lo + hi) / 2 < v.orders.length := by omega
      rw [e1, cnd_t (inb _ _ hm), lget_nat _ _ hm, w_cnd, w_some, w_some, sub _ hm]
      have hlt : imin (imax (v.orders[(lo + hi) / 2].id - s) (-1)) 1 < 0 ↔ v.orders[(lo + hi) / 2].id < s := by unfold imin imax; split <;> split <;> omega
      refine ⟨fun h2 => ?_, fun h2 => ?_⟩
      · simp only [band_T, band_F, bor_T, bor_F, bnot_T, bnot_F, ilt_T, ilt_F, ile_T, ile_F, ieq_T, ieq_F, beq_T, beq_F] at h2
        rw [hlt] at h2
        refine ⟨⟨(lo + hi) / 2 + 1, hi, by rw [wr_succ (by omega)], by omega, g2, fun j hj h3 => ?_, g4⟩, ?_⟩
        · rcases Nat.lt_or_ge j ((lo + hi) / 2) with h4 | h4
          · have := hv.asc h4 hm; omega
          · have : j = (lo + hi) / 2 := by omega
            subst this; omega
        · simp only; rw [wr_succ (by omega)]; omega
      · simp only [band_T, band_F, bor_T, bor_F, bnot_T, bnot_F, ilt_T, ilt_F, ile_T, ile_F, ieq_T, ieq_F, beq_T, beq_F] at h2
        have h2' : ¬ imin (imax (v.orders[(lo + hi) / 2].id - s) (-1)) 1 < 0 := by omega
        rw [hlt] at h2'
        refine ⟨⟨lo, (lo + hi) / 2, rfl, by omega, by omega, g3, fun j hj h3 => ?_⟩, ?_⟩
        · rcases Nat.lt_or_ge ((lo + hi) / 2) j with h4 | h4
          · have := hv.asc h4 hj; omega
          · have : j = (lo + hi) / 2 := by omega
            subst this; omega
        · simp only; omega
    · rw [ilt_F] at h
      have : lo = hi := by omega
      subst this
      exact ⟨lo, rfl, g2, g3, g4⟩
  rintro _ ⟨i, rfl, hi, g1, g2⟩
  have mem : s ∈ v.orders.map (·.id) ↔ ∃ h : i < v.orders.length, v.orders[i].id = s := by
    constructor
    · intro g
      obtain ⟨o, ho, e⟩ := List.mem_map.1 g
      obtain ⟨j, hj, rfl⟩ := List.mem_iff_getElem.1 ho
      rcases Nat.lt_trichotomy j i with h | h | h
      · have := g1 j hj h; omega
      · subst h; exact ⟨hj, e⟩
      · have := hv.asc h hj
        have := g2 i (by omega) (Nat.le_refl _)
        omega
    · rintro ⟨h, e⟩
      exact List.mem_map.2 ⟨_, List.getElem_mem h, e⟩
  by_cases hil : i < v.orders.length
  · have h1 : ilt (i : Int) (len v.orders) = true := ilt_t (by simp only [len]; omega)
    rw [cnd_t (by rw [bor_T]; exact .inl (inb _ i hil)), cnd_t h1, w_some, lget_nat _ i hil, sub _ hil]
    refine ⟨i, rfl, hi, ?_⟩
    rw [mem, h1, band_true, ieq_T]
    have hq : imin (imax (v.orders[i].id - s) (-1)) 1 = 0 ↔ v.orders[i].id = s := by unfold imin imax; split <;> split <;> omega
    rw [hq]
    exact ⟨fun h => ⟨hil, h⟩, fun ⟨_, h⟩ => h⟩
  · have h1 : ilt (i : Int) (len v.orders) = false := ilt_f (by simp only [len]; omega)
    rw [cnd_t (by rw [bor_T, bnot_T]; exact .inr h1), cnd_f h1, w_some]
    refine ⟨i, rfl, hi, ?_⟩
    rw [mem, h1]
    constructor
    · intro h; simp [bor] at h
    · rintro ⟨h, _⟩; exact absurd h hil
/-- What is asked of a step. -/
def LessV (v : SVenue) (r : SVenue × Int) : Prop := (r.2 ≠ 0 → r.1 = v) ∧ (r.2 = 0 → venP v ∧ Ok_venue r.1 ∧ (r.1.inbox.length ≤ v.inbox.length ∧ r.1.orders.length ≤ v.orders.length + 1 ∧ r.1.notes.length ≤ v.notes.length + 1) ∧ ∀ a y, covX (ofO v a y) (ofO r.1 a y))
theorem lget_set {l : List SOrder} {k : Nat} (hk : k < l.length) (x : SOrder) : lget (lset l k x) k = x := by
  simp [lget, lset, hk]
theorem lset_set {l : List SOrder} {k : Nat} (x z : SOrder) : lset (lset l k x) k z = lset l k z := by
  simp [lset]
theorem less_same {v : SVenue} {n : Int} (h : n ≠ 0) : LessV v (v, n) := ⟨fun _ => rfl, fun g => absurd g h⟩
theorem notes_ok {l : List SNote} {n : SNote} (h : okL ok_note l) (hl : l.length < 200000) (hn : Ok_note n) : okL ok_note (lapp l [n]) := by
  refine ⟨fun x hx => ?_, by simp only [lapp, List.length_append, List.length_singleton]; omega⟩
  rcases List.mem_append.1 hx with g | g
  · exact h.1 x g
  · rw [List.mem_singleton.1 g]; exact hn
theorem orders_ok {l : List SOrder} {k : Nat} {p : SOrder} (h : okL ok_order l) (hp : Ok_order p) : okL ok_order (l.set k p) := by
  refine ⟨fun x hx => ?_, by rw [List.length_set]; exact h.2⟩
  rcases List.mem_or_eq_of_mem_set hx with g | g
  · exact h.1 x g
  · rw [g]; exact hp
theorem s_Out {v : SVenue} {n : Int} (hr : Ok_venue v) (h1 : v.inbox.length < 200000) (h2 : v.notes.length < 200000) (h3 : v.orders.length < 200000) : Wq (F_venue_Out v n) (LessV v) := by
  unfold F_venue_Out
  rw [e_venue_Right (by omega) (by omega) (by omega), ob_some, c_bnot, c_dec]
  by_cases hv : venP v
  case neg => rw [if_neg hv]; exact (w_some _).2 (less_same (by decide))
  rw [if_pos hv, e_venue_Find v n (by omega), ob_some]
  cases hf : findZ v.orders n with
  | none => rw [findI_none hf, ieq_refl, cnd_true]; exact (w_some _).2 (less_same (by decide))
  | some k =>
  obtain ⟨hk, hid⟩ := findZ_some hf
  rw [findI_some hf, cnd_f (by rw [ieq_F]; omega)]
  rw [show F_slices_Clone_api_Msg v.inbox = some v.inbox from nilq_clone (by omega), ob_some, clone_Order (by omega), ob_some, show F_slices_Clone_api_Note v.notes = some v.notes from nilq_clone (by omega), ob_some]
  rw [e_venue_Find _ _ (by simp only; omega), ob_some]
  simp only
  rw [findI_some hf, cnd_t (by rw [bor_T]; exact .inl (inb _ k hk)), lget_nat _ k hk, itn_nat]
  have ho := hv.ord (List.getElem_mem hk)
  have hor := hr.orders.1 _ (List.getElem_mem hk)
  have hok := all_ok hv hr v.orders[k] (List.mem_append_left _ (List.getElem_mem hk))
  rw [w_cnd]
  refine ⟨fun _ => (w_some _).2 (less_same (by decide)), fun hph => ?_⟩
  rw [cnd_t (inb _ k hk), show F_venue_full v = some (ieq (len v.notes) 400) from rfl, ob_some, w_cnd]
  refine ⟨fun _ => (w_some _).2 (less_same (by decide)), fun _ => ?_⟩
  rw [lget_set hk, cnd_t (ile_t (by simp only [len, lapp, List.length_append, List.length_singleton]; omega)), w_some]
  refine ⟨fun g => absurd rfl g, fun _ => ⟨hv, ⟨hr.inbox, orders_ok hr.orders ⟨hor.id, hor.account, hor.symbol, hor.side, hor.qty, hor.price, hor.filled, by unfold inI; simp, hor.newQty, hor.newPrice, hor.version⟩, notes_ok hr.notes (by omega) ⟨wr_rng _, by unfold inI; simp, hor.id, by unfold inI; simp, by unfold inI; simp⟩⟩, ⟨Nat.le_refl _, by simp [lset], by simp [lapp]⟩, fun a y => ?_⟩⟩
  exact set_cov (p := phaseZ v.orders[k] 3) (fun m hm => hm) rfl hk rfl (covO_done (p := phaseZ v.orders[k] 3) ho.1 hok rfl rfl rfl rfl (show (3 : Int) ≠ 2 by decide)) a y
theorem s_Fill {v : SVenue} {n q : Int} (hr : Ok_venue v) (hn : inI n) (hq : inI q) (h1 : v.inbox.length < 200000) (h2 : v.notes.length < 200000) (h3 : v.orders.length < 200000) : Wq (F_venue_Fill v n q) (LessV v) := by
  unfold F_venue_Fill
  rw [e_venue_Right (by omega) (by omega) (by omega), ob_some, w_cnd]
  refine ⟨fun _ => (w_some _).2 (less_same (by decide)), fun hh => ?_⟩
  simp only [band_T, band_F, bor_T, bor_F, bnot_T, bnot_F, ilt_T, ilt_F, ile_T, ile_F, ieq_T, ieq_F, beq_T, beq_F, decide_eq_true_eq] at hh
  obtain ⟨hv, hq1⟩ := hh
  rw [e_venue_Find v n (by omega), ob_some]
  cases hf : findZ v.orders n with
  | none => rw [findI_none hf, ieq_refl, cnd_true]; exact (w_some _).2 (less_same (by decide))
  | some k =>
  obtain ⟨hk, hid⟩ := findZ_some hf
  rw [findI_some hf, cnd_f (by rw [ieq_F]; omega)]
  rw [show F_slices_Clone_api_Msg v.inbox = some v.inbox from nilq_clone (by omega), ob_some, clone_Order (by omega), ob_some, show F_slices_Clone_api_Note v.notes = some v.notes from nilq_clone (by omega), ob_some]
  rw [e_venue_Find _ _ (by simp only; omega), ob_some]
  simp only
  rw [findI_some hf, cnd_t (by rw [bor_T]; exact .inl (inb _ k hk)), lget_nat _ k hk, itn_nat]
  have ho := hv.ord (List.getElem_mem hk)
  have hor := hr.orders.1 _ (List.getElem_mem hk)
  have hok := all_ok hv hr v.orders[k] (List.mem_append_left _ (List.getElem_mem hk))
  have hf0 := ho.1.2.1
  have hf1 := ho.1.2.2.1
  have iq := hor.qty
  have if' := hor.filled
  unfold inI at iq if'
  rw [w_cnd]
  refine ⟨fun _ => (w_some _).2 (less_same (by decide)), fun hph => ?_⟩
  simp only [band_T, band_F, bor_T, bor_F, bnot_T, bnot_F, ilt_T, ilt_F, ile_T, ile_F, ieq_T, ieq_F, beq_T, beq_F, ne_eq] at hph
  have h2p : v.orders[k].phase = 2 := hph.2
  have e1 : wr IntKind.i64 (isub v.orders[k].qty v.orders[k].filled) = v.orders[k].qty - v.orders[k].filled := by unfold isub; exact wr_in ⟨by omega, by omega⟩
  rw [cnd_t (inb _ k hk), e1, w_cnd]
  refine ⟨fun _ => (w_some _).2 (less_same (by decide)), fun hle => ?_⟩
  rw [ilt_F] at hle
  have e2 : wr IntKind.i64 (iadd v.orders[k].filled q) = v.orders[k].filled + q := by unfold iadd; exact wr_in ⟨by omega, by omega⟩
  rw [show F_venue_full v = some (ieq (len v.notes) 400) from rfl, ob_some, w_cnd]
  refine ⟨fun _ => (w_some _).2 (less_same (by decide)), fun _ => ?_⟩
  rw [e2, lget_set hk, lset_set]
  have hnote : ile (len (lapp v.notes [SNote.mk (wr IntKind.i64 (iadd (len v.notes) 1)) 3 n q 0])) 68719476736 = true := ile_t (by simp only [len, lapp, List.length_append, List.length_singleton]; omega)
  have hno : okL ok_note (lapp v.notes [SNote.mk (wr IntKind.i64 (iadd (len v.notes) 1)) 3 n q 0]) := notes_ok hr.notes (by omega) ⟨wr_rng _, by unfold inI; simp, hn, hq, by unfold inI; simp⟩
  have hfl : inI (v.orders[k].filled + q) := ⟨by omega, by omega⟩
  rw [cnd_t hnote, cnd_t hnote, w_cnd, w_some, w_some]
  refine ⟨fun _ => ⟨fun g => absurd rfl g, fun _ => ⟨hv, ⟨hr.inbox, orders_ok hr.orders ⟨hor.id, hor.account, hor.symbol, hor.side, hor.qty, hor.price, hfl, by unfold inI; simp, hor.newQty, hor.newPrice, hor.version⟩, hno⟩, ⟨Nat.le_refl _, by simp [lset], by simp [lapp]⟩, fun a y => ?_⟩⟩,
    fun _ => ⟨fun g => absurd rfl g, fun _ => ⟨hv, ⟨hr.inbox, orders_ok hr.orders ⟨hor.id, hor.account, hor.symbol, hor.side, hor.qty, hor.price, hfl, hor.phase, hor.newQty, hor.newPrice, hor.version⟩, hno⟩, ⟨Nat.le_refl _, by simp [lset], by simp [lapp]⟩, fun a y => ?_⟩⟩⟩
  · exact set_cov (p := fullZ v.orders[k] q) (fun m hm => hm) rfl hk rfl (covO_full ho h2p hok (by omega) (by omega)) a y
  · exact set_cov (p := filledZ v.orders[k] q) (fun m hm => hm) rfl hk rfl (covO_filled ho h2p (fun x hx => hv.msg hx) (by omega) (by omega)) a y
theorem tail_of {v : SVenue} {m : SMsg} {r : List SMsg} (e : v.inbox = m :: r) (h1 : v.inbox.length < 200000) : ltake (ldrop v.inbox 1) (itn (isub (len v.inbox) 1)) = r := by
  rw [e]
  simp only [ltake, ldrop, itn, isub, len, List.drop_succ_cons, List.drop_zero, List.length_cons]
  rw [List.take_of_length_le]; omega
theorem s_Take {v : SVenue} {b : Bool} (hr : Ok_venue v) (h1 : v.inbox.length < 200000) (h2 : v.notes.length < 200000) (h3 : v.orders.length < 200000) : Wq (F_venue_Take v b) (LessV v) := by
  unfold F_venue_Take
  dsimp only
  rw [e_venue_Right (by omega) (by omega) (by omega), ob_some, c_bnot, c_dec]
  by_cases hv : venP v
  case neg => rw [if_neg hv]; exact (w_some _).2 (less_same (by decide))
  rw [if_pos hv, w_cnd]
  refine ⟨fun _ => (w_some _).2 (less_same (by decide)), fun h0 => ?_⟩
  rw [ieq_F] at h0
  rw [show F_venue_full v = some (ieq (len v.notes) 400) from rfl, ob_some]
  cases hfl : ieq (len v.notes) 400 with
  | true => simp only [cnd_true]; exact (w_some _).2 (less_same (by decide))
  | false =>
  simp only [cnd_false]
  obtain ⟨m, r, e⟩ : ∃ m r, v.inbox = m :: r := by
    cases hi : v.inbox with
    | nil => rw [hi] at h0; exact absurd rfl h0
    | cons m r => exact ⟨m, r, rfl⟩
  have hm : m ∈ v.inbox := by rw [e]; exact List.mem_cons_self
  have hM := hv.msg hm
  have hMr := hr.inbox.1 m hm
  have hsub : ∀ x ∈ r, x ∈ v.inbox := fun x hx => by rw [e]; exact List.mem_cons_of_mem m hx
  have hrr : okL ok_msg r := ⟨fun x hx => hr.inbox.1 x (hsub x hx), by have := hr.inbox.2; rw [e] at this; simp only [List.length_cons] at this; omega⟩
  have hlen : r.length ≤ v.inbox.length := by rw [e]; simp
  have g0 : lget v.inbox 0 = m := by rw [e]; rfl
  have z0 : ilt 0 (len v.inbox) = true := by rw [ilt_T, e]; simp only [len, List.length_cons]; omega
  unfold F_venue_swells
  rw [cnd_t z0, cnd_t (by rw [bor_T]; exact .inl z0), g0]
  refine Wq.bind (Q := fun _ => True) ?_ fun w _ => ?_
  · refine Wq.bind (Q := fun _ => True) ?_ fun _ _ => (w_some _).2 trivial
    rw [w_cnd]
    exact ⟨fun _ => by rw [e_venue_Find _ _ (by omega)]; exact (w_some _).2 trivial, fun _ => (w_some _).2 trivial⟩
  rw [w_cnd]
  refine ⟨fun _ => (w_some _).2 (less_same (by decide)), fun _ => ?_⟩
  rw [show F_slices_Clone_api_Msg v.inbox = some v.inbox from nilq_clone (by omega), ob_some, clone_Order (by omega), ob_some, show F_slices_Clone_api_Note v.notes = some v.notes from nilq_clone (by omega), ob_some]
  rw [cnd_t z0, cnd_t (by rw [ile_T]; rw [ilt_T] at z0; omega), g0, tail_of e h1]
  have hnote : ∀ n : SNote, ile (len (lapp v.notes [n])) 68719476736 = true := fun n => ile_t (by simp only [len, lapp, List.length_append, List.length_singleton]; omega)
  have hno : ∀ n : SNote, Ok_note n → okL ok_note (lapp v.notes [n]) := fun n => notes_ok hr.notes (by omega)
  have c0 : inI 0 := by unfold inI; simp
  -- nothing but the message goes
  have bare : comingZ (v.orders.map (·.id)) r = comingZ (v.orders.map (·.id)) v.inbox → LessV v (⟨r, v.orders, v.notes⟩, 0) := fun hc =>
    ⟨fun g => absurd rfl g, fun _ => ⟨hv, ⟨hrr, hr.orders, hr.notes⟩, ⟨hlen, by simp, by simp⟩, fun a y => tail_cov hsub hc a y⟩⟩
  have skip : m.order ∈ v.orders.map (·.id) ∨ m.kind ≠ 1 → comingZ (v.orders.map (·.id)) r = comingZ (v.orders.map (·.id)) v.inbox := fun g => by rw [e, coming_cons, if_pos g]
  rw [c_ieq, c_ieq]
  by_cases k1 : m.kind = 1
  · rw [if_pos k1]
    refine (e_search hv hM.1 PUnit.unit).bind fun w hw => ?_
    obtain ⟨i, ei, hi, hmem⟩ := hw
    rw [w_cnd]
    refine ⟨fun g => (w_some _).2 (bare (skip (.inl (hmem.1 g)))), fun g => ?_⟩
    have hnew : m.order ∉ v.orders.map (·.id) := fun q => by rw [hmem.2 q] at g; cases g
    obtain ⟨N1, N2⟩ := newO_ok hM k1 hMr
    have ins : ∀ p : SOrder, F_slices_Insert_api_Order v.orders w.fst [p] = some (v.orders.take i ++ p :: v.orders.drop i) := fun p => by
      unfold F_slices_Insert_api_Order
      rw [ei]
      simp only
      rw [cnd_t (by rw [band_T, band_T]; exact ⟨ile_t (by omega), ile_t (by simp only [len]; omega), ile_t (by simp only [len, iadd]; omega)⟩), itn_nat]
      rfl
    have okI : ∀ p : SOrder, Ok_order p → okL ok_order (v.orders.take i ++ p :: v.orders.drop i) := fun p hp => by
      refine ⟨fun x hx => ?_, by simp; omega⟩
      rcases List.mem_append.1 hx with q | q
      · exact hr.orders.1 x (List.mem_of_mem_take q)
      · rcases List.mem_cons.1 q with rfl | q
        · exact hp
        · exact hr.orders.1 x (List.mem_of_mem_drop q)
    have hok : okO v.inbox ⟨m.order, m.account, m.symbol, m.side, m.qty, m.price, 0, 2, 0, 0, 0, false⟩ := all_ok hv hr _ (List.mem_append_right _ (by rw [e, coming_cons, if_neg (by rintro (q | q); exact hnew q; exact q k1)]; exact List.mem_cons_self))
    rw [w_cnd]
    refine ⟨fun _ => ?_, fun _ => ?_⟩
    · rw [ins, ob_some, cnd_t (hnote _), w_some]
      refine ⟨fun g => absurd rfl g, fun _ => ⟨hv, ⟨hrr, okI _ N2, hno _ ⟨wr_rng _, by unfold inI; simp, hMr.order, c0, c0⟩⟩, ⟨hlen, by simp; omega, by simp [lapp]⟩, fun a y => ?_⟩⟩
      exact ins_cov (p := ⟨m.order, m.account, m.symbol, m.side, m.qty, m.price, 0, 2, 0, 0, 0, false⟩) e k1 hnew hi rfl (covO_sub hsub _) a y
    · rw [ins, ob_some, cnd_t (hnote _), w_some]
      refine ⟨fun g => absurd rfl g, fun _ => ⟨hv, ⟨hrr, okI _ ⟨N2.id, N2.account, N2.symbol, N2.side, N2.qty, N2.price, c0, by unfold inI; simp, c0, c0, c0⟩, hno _ ⟨wr_rng _, by unfold inI; simp, hMr.order, c0, c0⟩⟩, ⟨hlen, by simp; omega, by simp [lapp]⟩, fun a y => ?_⟩⟩
      exact ins_cov (p := ⟨m.order, m.account, m.symbol, m.side, m.qty, m.price, 0, 3, 0, 0, 0, false⟩) e k1 hnew hi rfl (covO_done (p := ⟨m.order, m.account, m.symbol, m.side, m.qty, m.price, 0, 3, 0, 0, 0, false⟩) hok.1 hok rfl rfl rfl rfl (show (3 : Int) ≠ 2 by decide)) a y
  rw [if_neg k1]
  have hc := skip (.inr k1)
  by_cases k2 : m.kind = 2
  · rw [if_pos k2, e_venue_Find _ _ (by simp only; omega), ob_some]
    simp only
    cases hf : findZ v.orders m.order with
    | none =>
      rw [findI_none hf, cnd_t (by rw [bor_T]; exact .inr rfl), ieq_refl, bor_true, cnd_true]
      exact (w_some _).2 (bare hc)
    | some k =>
    obtain ⟨hk, hid⟩ := findZ_some hf
    have ho := hv.ord (List.getElem_mem hk)
    have hor := hr.orders.1 _ (List.getElem_mem hk)
    rw [findI_some hf, cnd_t (by rw [bor_T]; exact .inl (inb _ k hk)), lget_nat _ k hk, itn_nat, w_cnd]
    refine ⟨fun _ => (w_some _).2 (bare hc), fun hph => ?_⟩
    simp only [band_T, band_F, bor_T, bor_F, bnot_T, bnot_F, ilt_T, ilt_F, ile_T, ile_F, ieq_T, ieq_F, beq_T, beq_F, ne_eq] at hph
    have h2p : v.orders[k].phase = 2 := hph.2
    rw [cnd_t (inb _ k hk), w_cnd]
    refine ⟨fun _ => (w_some _).2 (bare hc), fun hver => ?_⟩
    rw [ile_F] at hver
    have hask : asksP v.orders[k] m := ⟨k2, hid.symm, hver⟩
    have hq := hM.2.2.2.2.2
    simp only [lget_set hk, lset_set]
    rw [w_cnd]
    refine ⟨fun _ => ?_, fun hb => ?_⟩
    · rw [cnd_t (hnote _), w_some]
      refine ⟨fun g => absurd rfl g, fun _ => ⟨hv, ⟨hrr, orders_ok hr.orders ⟨hor.id, hor.account, hor.symbol, hor.side, hor.qty, hor.price, hor.filled, hor.phase, hor.newQty, hor.newPrice, hMr.version⟩, hno _ ⟨wr_rng _, by unfold inI; simp, hor.id, c0, c0⟩⟩, ⟨hlen, by simp [lset], by simp [lapp]⟩, fun a y => ?_⟩⟩
      exact set_cov (p := refusedZ v.orders[k] m) hsub hc hk rfl (covO_refused hsub hask) a y
    · simp only [band_T, band_F, bor_T, bor_F, bnot_T, bnot_F, ilt_T, ilt_F, ile_T, ile_F, ieq_T, ieq_F, beq_T, beq_F] at hb
      rw [cnd_t (hnote _), w_some]
      refine ⟨fun g => absurd rfl g, fun _ => ⟨hv, ⟨hrr, orders_ok hr.orders ⟨hor.id, hor.account, hor.symbol, hor.side, hMr.qty, hMr.price, hor.filled, hor.phase, hor.newQty, hor.newPrice, hMr.version⟩, hno _ ⟨wr_rng _, by unfold inI; simp, hor.id, hMr.qty, hMr.price⟩⟩, ⟨hlen, by simp [lset], by simp [lapp]⟩, fun a y => ?_⟩⟩
      exact set_cov (p := changedZ v.orders[k] m) hsub hc hk rfl (covO_changed ho h2p hsub hm hask hb.2 (by omega)) a y
  · rw [if_neg k2, e_venue_Find _ _ (by simp only; omega), ob_some]
    simp only
    cases hf : findZ v.orders m.order with
    | none =>
      rw [findI_none hf, cnd_t (by rw [bor_T]; exact .inr rfl), ieq_refl, bor_true, cnd_true]
      exact (w_some _).2 (bare hc)
    | some k =>
    obtain ⟨hk, hid⟩ := findZ_some hf
    have ho := hv.ord (List.getElem_mem hk)
    have hor := hr.orders.1 _ (List.getElem_mem hk)
    have hok := all_ok hv hr v.orders[k] (List.mem_append_left _ (List.getElem_mem hk))
    rw [findI_some hf, cnd_t (by rw [bor_T]; exact .inl (inb _ k hk)), lget_nat _ k hk, itn_nat, w_cnd]
    refine ⟨fun _ => (w_some _).2 (bare hc), fun hph => ?_⟩
    rw [cnd_t (inb _ k hk), w_cnd]
    refine ⟨fun _ => ?_, fun _ => (w_some _).2 (bare hc)⟩
    rw [lget_set hk, cnd_t (hnote _), w_some]
    refine ⟨fun g => absurd rfl g, fun _ => ⟨hv, ⟨hrr, orders_ok hr.orders ⟨hor.id, hor.account, hor.symbol, hor.side, hor.qty, hor.price, hor.filled, by unfold inI; simp, hor.newQty, hor.newPrice, hor.version⟩, hno _ ⟨wr_rng _, by unfold inI; simp, hor.id, c0, c0⟩⟩, ⟨hlen, by simp [lset], by simp [lapp]⟩, fun a y => ?_⟩⟩
    exact set_cov (p := phaseZ v.orders[k] 3) hsub hc hk rfl (covO_done (p := phaseZ v.orders[k] 3) ho.1 hok rfl rfl rfl rfl (show (3 : Int) ≠ 2 by decide)) a y
theorem less_tail {v : SVenue} {a y : Int} (hr : Ok_venue v) (h1 : v.inbox.length ≤ 450) (h2 : v.notes.length ≤ 450) (h3 : v.orders.length ≤ 450) {r : SVenue × Int} (h : LessV v r) :
    ∃ w : SExpo × Int, F_truth_Of r.1 a y = some w ∧ (r.2 = 0 → w.2 = 0 → covX (ofO v a y) w.1) := by
  by_cases e : r.2 = 0
  · obtain ⟨hv, hok, ⟨l1, l2, l3⟩, hc⟩ := h.2 e
    refine ⟨_, e_Of (by omega) (by omega) (by omega) hok a y, fun _ hz => ?_⟩
    by_cases g : venP r.1 ∧ (0 ≤ a ∧ a < 8) ∧ 0 ≤ y ∧ y < 8
    · rw [if_pos g] at hz ⊢
      by_cases g2 : goodO r.1 a y
      · rw [if_pos g2]; exact hc a y
      · rw [if_neg g2] at hz; exact absurd hz (by decide)
    · rw [if_neg g] at hz; exact absurd hz (by decide)
  · have := h.1 e
    rw [this]
    exact ⟨_, e_Of (by omega) (by omega) (by omega) hr a y, fun g => absurd g e⟩
theorem pure_TruthLess (x0 : SVenue) (x1 x2 : Int) (x3 : Bool) (x4 x5 : Int) (k0 : Ok_venue x0) (k1 : inI x1) (k2 : inI x2) (k3 : True) (k4 : inI x4) (k5 : inI x5) : F_snafflelaw23_TruthLess x0 x1 x2 x3 x4 x5 = some true := by
  refine Wq.eq ?_
  unfold F_snafflelaw23_TruthLess
  rw [awake23, ob_some, bnot_true, cnd_false, e_short16, ob_some, w_cnd]
  refine ⟨fun _ => (w_some _).2 rfl, fun h => ?_⟩
  simp only [band_T, band_F, bor_T, bor_F, bnot_T, bnot_F, ilt_T, ilt_F, ile_T, ile_F, ieq_T, ieq_F, beq_T, beq_F, decide_eq_true_eq] at h
  rw [e_Of (by omega) (by omega) (by omega) k0, ob_some]
  by_cases hv : venP x0 ∧ (0 ≤ x1 ∧ x1 < 8) ∧ 0 ≤ x2 ∧ x2 < 8
  case neg => rw [if_neg hv, w_cnd]; exact ⟨fun _ => (w_some _).2 rfl, fun g => absurd g (by decide)⟩
  rw [if_pos hv]
  by_cases hg : goodO x0 x1 x2
  case neg => rw [if_neg hg, w_cnd]; exact ⟨fun _ => (w_some _).2 rfl, fun g => absurd g (by decide)⟩
  rw [if_pos hg]
  simp only
  rw [ieq_00, bnot_true, cnd_false]
  refine (s_Take k0 (by omega) (by omega) (by omega)).bind fun r3 h3 => ?_
  obtain ⟨w4, e4, c4⟩ := less_tail (a := x1) (y := x2) k0 (by omega) (by omega) (by omega) h3
  rw [e4, ob_some, e_cell_Covers]
  have two : ∀ (r : SVenue × Int) (w : SExpo × Int) (K : Option Bool) (_ : r.2 = 0 → w.2 = 0 → covX (ofO x0 x1 x2) w.1), Wq K (fun x => x = true) → Wq (obind (cnd (band (ieq r.2 0) (ieq w.2 0)) (some (decide (covX (ofO x0 x1 x2) w.1))) (some false)) fun y5 => cnd (band (band (ieq r.2 0) (ieq w.2 0)) (bnot y5)) (some false) K) (fun x => x = true) := by
    intro r w K hc hK
    cases hb : band (ieq r.2 0) (ieq w.2 0) with
    | false => rw [cnd_false, ob_some, band_false, cnd_false]; exact hK
    | true =>
      simp only [band_T, band_F, bor_T, bor_F, bnot_T, bnot_F, ilt_T, ilt_F, ile_T, ile_F, ieq_T, ieq_F, beq_T, beq_F] at hb
      rw [cnd_true, ob_some, decide_eq_true (hc hb.1 hb.2), bnot_true, band_false', cnd_false]; exact hK
  refine two r3 w4 _ c4 ?_
  refine (s_Fill k0 k4 k5 (by omega) (by omega) (by omega)).bind fun r6 h6 => ?_
  obtain ⟨w7, e7, c7⟩ := less_tail (a := x1) (y := x2) k0 (by omega) (by omega) (by omega) h6
  rw [e7, ob_some, e_cell_Covers]
  refine two r6 w7 _ c7 ?_
  refine (s_Out k0 (by omega) (by omega) (by omega)).bind fun r9 h9 => ?_
  obtain ⟨w10, e10, c10⟩ := less_tail (a := x1) (y := x2) k0 (by omega) (by omega) (by omega) h9
  rw [e10, ob_some, e_cell_Covers]
  cases hb : bor (bnot (ieq r9.2 0)) (bnot (ieq w10.2 0)) with
  | true => rw [bnot_true, cnd_false, ob_some, w_some]; rfl
  | false =>
    simp only [band_T, band_F, bor_T, bor_F, bnot_T, bnot_F, ilt_T, ilt_F, ile_T, ile_F, ieq_T, ieq_F, beq_T, beq_F] at hb
    rw [bnot_false, cnd_true, ob_some, decide_eq_true (c10 hb.1 hb.2), w_some]; rfl
end Go.Av
