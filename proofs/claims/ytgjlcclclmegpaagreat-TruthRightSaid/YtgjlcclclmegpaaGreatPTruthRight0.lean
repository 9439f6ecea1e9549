/- The plain law, part 0. No condition. -/
import Derived.Test.YtgjlcclclmegpaaGreatDTruthRight
import Derived.KernelRfl
set_option linter.unusedVariables false
set_option linter.unusedSimpArgs false
set_option linter.unnecessarySimpa false
namespace Go.Av
open Go
/-- A loop that comes to its end. -/
theorem iterN_run {V W : Type} {step : V → Option (V ⊕ W)} (μ : V → Nat) (I : V → Prop) (R : W → Prop)
    (h : ∀ v, I v → (∃ v', step v = some (.inl v') ∧ I v' ∧ μ v' < μ v) ∨ ∃ w, step v = some (.inr w) ∧ R w) : ∀ (n : Nat) (v : V), μ v < n → I v → ∃ w, iterN step n v = some w ∧ R w
  | 0, v, hn, _ => by omega
  | n + 1, v, hn, hI => by
    rcases h v hI with ⟨v', h1, h2, h3⟩ | ⟨w, h1, h2⟩
    · obtain ⟨w, g1, g2⟩ := iterN_run μ I R h n v' (by omega) h2
      exact ⟨w, by rw [iterN, h1]; exact g1, g2⟩
    · exact ⟨w, by rw [iterN, h1]; rfl, h2⟩
theorem lt_LF {n : Nat} (h : n < 1000000) : n < LF := Nat.lt_trans h (by decide)
theorem wr_in {n : Int} (h : inI n) : wr .i64 n = n := by
  unfold inI at h
  unfold wr IntKind.wrap
  simp [IntKind.bits, IntKind.signed]
  omega
/-- What a sum of two numbers is turned into. -/
theorem wr_two {n : Int} (h1 : -18446744073709551616 ≤ n) (h2 : n ≤ 18446744073709551616) :
    (inI n ∧ wr .i64 n = n) ∨ (9223372036854775807 < n ∧ wr .i64 n = n - 18446744073709551616) ∨ (n < -9223372036854775808 ∧ wr .i64 n = n + 18446744073709551616) := by
  unfold inI wr IntKind.wrap
  simp [IntKind.bits, IntKind.signed]
  omega
theorem wr_u64 (n : Int) : wr .u64 n = n % 18446744073709551616 := by
  unfold wr IntKind.wrap
  simp [IntKind.bits, IntKind.signed]
theorem wr_small {n : Int} (h1 : 0 ≤ n) (h2 : n < 1000000000000) : wr .i64 n = n := wr_in ⟨by omega, by omega⟩
theorem cnd_t {α : Type} {b : Bool} {x y : α} (h : b = true) : cnd b x y = x := by subst h; rfl
theorem cnd_f {α : Type} {b : Bool} {x y : α} (h : b = false) : cnd b x y = y := by subst h; rfl
theorem cnd_if {α : Type} (b : Bool) (x y : α) : cnd b x y = if b = true then x else y := by cases b <;> rfl
theorem c_ieq {α : Type} (a b : Int) (x y : α) : cnd (ieq a b) x y = if a = b then x else y := by
  by_cases h : a = b
  · rw [if_pos h, show ieq a b = true by simp [ieq, h]]; rfl
  · rw [if_neg h, show ieq a b = false by simp [ieq, h]]; rfl
theorem c_ilt {α : Type} (a b : Int) (x y : α) : cnd (ilt a b) x y = if a < b then x else y := by
  by_cases h : a < b
  · rw [if_pos h, show ilt a b = true by simp [ilt, h]]; rfl
  · rw [if_neg h, show ilt a b = false by simp [ilt, h]]; rfl
theorem c_ile {α : Type} (a b : Int) (x y : α) : cnd (ile a b) x y = if a ≤ b then x else y := by
  by_cases h : a ≤ b
  · rw [if_pos h, show ile a b = true by simp [ile, h]]; rfl
  · rw [if_neg h, show ile a b = false by simp [ile, h]]; rfl
theorem c_bnot {α : Type} (b : Bool) (x y : α) : cnd (bnot b) x y = cnd b y x := by cases b <;> rfl
theorem c_dec {α : Type} (P : Prop) [Decidable P] (x y : α) : cnd (decide P) x y = if P then x else y := by
  by_cases h : P
  · rw [if_pos h, decide_eq_true h]; rfl
  · rw [if_neg h, decide_eq_false h]; rfl
instance (n : Int) : Decidable (inI n) := by unfold inI; infer_instance
theorem ob_some {α β : Type} (a : α) (f : α → Option β) : obind (some a) f = f a := rfl
theorem ob_if {α β : Type} (p : Prop) [Decidable p] (x y : Option α) (f : α → Option β) : obind (if p then x else y) f = if p then obind x f else obind y f := by split <;> rfl
theorem ilt_t {a b : Int} (h : a < b) : ilt a b = true := decide_eq_true h
theorem ilt_f {a b : Int} (h : ¬ a < b) : ilt a b = false := decide_eq_false h
theorem ile_t {a b : Int} (h : a ≤ b) : ile a b = true := decide_eq_true h
theorem ile_f {a b : Int} (h : ¬ a ≤ b) : ile a b = false := decide_eq_false h
theorem ieq_refl (a : Int) : ieq a a = true := by simp [ieq]
theorem beq_refl' (a : Bool) : beq a a = true := by cases a <;> rfl
theorem band_t {a b : Bool} (h1 : a = true) (h2 : b = true) : band a b = true := by subst h1; subst h2; rfl
theorem lget_nat {α : Type} [Inhabited α] (l : List α) (i : Nat) (h : i < l.length) : lget l (itn (i : Int)) = l[i] := by
  simp [lget, itn, h]
theorem inb {α : Type} (l : List α) (i : Nat) (h : i < l.length) : band (ile 0 (i : Int)) (ilt (i : Int) (len l)) = true := band_t (ile_t (by omega)) (ilt_t (by simp only [len]; omega))
theorem band_T (a b : Bool) : (band a b = true) = (a = true ∧ b = true) := by cases a <;> cases b <;> simp [band]
theorem band_F (a b : Bool) : (band a b = false) = (a = false ∨ b = false) := by cases a <;> cases b <;> simp [band]
theorem bor_T (a b : Bool) : (bor a b = true) = (a = true ∨ b = true) := by cases a <;> cases b <;> simp [bor]
theorem bor_F (a b : Bool) : (bor a b = false) = (a = false ∧ b = false) := by cases a <;> cases b <;> simp [bor]
theorem bnot_T (a : Bool) : (bnot a = true) = (a = false) := by cases a <;> simp [bnot]
theorem bnot_F (a : Bool) : (bnot a = false) = (a = true) := by cases a <;> simp [bnot]
theorem ilt_T (a b : Int) : (ilt a b = true) = (a < b) := by simp [ilt]
theorem ilt_F (a b : Int) : (ilt a b = false) = (b ≤ a) := by simp [ilt]
theorem ile_T (a b : Int) : (ile a b = true) = (a ≤ b) := by simp [ile]
theorem ile_F (a b : Int) : (ile a b = false) = (b < a) := by simp [ile]
theorem ieq_T (a b : Int) : (ieq a b = true) = (a = b) := by simp [ieq]
theorem ieq_F (a b : Int) : (ieq a b = false) = (a ≠ b) := by simp [ieq]
theorem beq_T (a b : Bool) : (beq a b = true) = (a = b) := by simp [beq]
theorem beq_F (a b : Bool) : (beq a b = false) = (a ≠ b) := by simp [beq]
/-- It ends, and what it ends in has Q. -/
def Wq {α : Type} (o : Option α) (Q : α → Prop) : Prop := ∃ a, o = some a ∧ Q a
theorem w_some {α : Type} {Q : α → Prop} (a : α) : Wq (some a) Q ↔ Q a := ⟨fun ⟨_, h, q⟩ => by cases h; exact q, fun h => ⟨a, rfl, h⟩⟩
theorem w_cnd {α : Type} {Q : α → Prop} (c : Bool) (x y : Option α) : Wq (cnd c x y) Q ↔ (c = true → Wq x Q) ∧ (c = false → Wq y Q) := by
  cases c <;> simp [cnd]
theorem w_bind {α β : Type} {Q : β → Prop} (o : Option α) (f : α → Option β) : Wq (obind o f) Q ↔ Wq o fun a => Wq (f a) Q := by
  cases o with
  | none => simp [obind, Wq]
  | some a => simp [obind, w_some]
theorem Wq.mono {α : Type} {Q R : α → Prop} {o : Option α} (h : Wq o Q) (hq : ∀ a, Q a → R a) : Wq o R := by
  obtain ⟨a, e, q⟩ := h
  exact ⟨a, e, hq a q⟩
theorem Wq.bind {α β : Type} {Q : α → Prop} {R : β → Prop} {o : Option α} {f : α → Option β} (h : Wq o Q) (hq : ∀ a, Q a → Wq (f a) R) : Wq (obind o f) R := (w_bind o f).2 (h.mono hq)
theorem Wq.eq {α : Type} {o : Option α} {a : α} (h : Wq o fun x => x = a) : o = some a := by obtain ⟨x, e, rfl⟩ := h; exact e
/-- What a question comes to. -/
theorem Wq.dec {o : Option Bool} {P : Prop} [Decidable P] (h : Wq o fun b => b = true ↔ P) : o = some (decide P) := by
  obtain ⟨b, e, q⟩ := h
  rw [e]; congr 1
  cases b <;> simp_all
theorem w_iter {V W : Type} {step : V → Option (V ⊕ W)} (μ : V → Nat) (I : V → Prop) (R : W → Prop)
    (h : ∀ v, I v → Wq (step v) fun r => match r with | .inl v' => I v' ∧ μ v' < μ v | .inr w => R w) (n : Nat) (v : V) (hn : μ v < n) (hi : I v) : Wq (iterN step n v) R :=
  iterN_run μ I R (fun v hv => by
    obtain ⟨r, e, q⟩ := h v hv
    match r, e, q with
    | .inl v', e, q => exact .inl ⟨v', e, q.1, q.2⟩
    | .inr w, e, q => exact .inr ⟨w, e, q⟩) n v hn hi
theorem wr_succ {i : Nat} (h : i < 1000000) : wr .i64 (iadd (i : Int) 1) = ((i + 1 : Nat) : Int) := by
  unfold iadd
  rw [wr_small (by omega) (by omega)]; omega
theorem ilt_nat {α : Type} (l : List α) (i : Nat) : ilt (i : Int) (len l) = decide (i < l.length) := by
  simp [ilt, len]
/-- A loop over a list, one by one: in each round it goes on or ends. -/
theorem w_for {W X : Type} {step : Int × X → Option ((Int × X) ⊕ W)} {n : Nat} (hn : n < 999999) (J : Nat → X → Prop) (R : W → Prop)
    (h : ∀ i x, i < n → J i x → Wq (step ((i : Int), x)) fun r => match r with | .inl (k, x') => k = ((i + 1 : Nat) : Int) ∧ J (i + 1) x' | .inr w => R w)
    (he : ∀ x, J n x → Wq (step ((n : Int), x)) fun r => match r with | .inl _ => False | .inr w => R w)
    (x : X) (i0 : Nat) (hi0 : i0 ≤ n) (hx : J i0 x) : Wq (iterN step LF ((i0 : Int), x)) R := by
  refine w_iter (fun v : Int × X => n - v.1.toNat) (fun v : Int × X => ∃ i : Nat, v.1 = (i : Int) ∧ i ≤ n ∧ J i v.2) R ?_ LF _ (lt_LF (by simp only; omega)) ⟨i0, rfl, hi0, hx⟩
  rintro ⟨k, y⟩ ⟨i, rfl, hi, hj⟩
  by_cases hlt : i < n
  · refine (h i y hlt hj).mono fun r hr => ?_
    match r, hr with
    | .inl (k, x'), hr =>
      obtain ⟨rfl, h2⟩ := hr
      exact ⟨⟨i + 1, rfl, hlt, h2⟩, by simp only [Int.toNat_natCast]; omega⟩
    | .inr w, hr => exact hr
  · obtain rfl : i = n := by omega
    refine (he y hj).mono fun r hr => ?_
    match r, hr with
    | .inl _, hr => exact hr.elim
    | .inr w, hr => exact hr
theorem nilq_clone {α : Type} {l : List α} (h : l.length < 1000000) : nilq (len l) (fun y0 ↦ cnd (beq y0 true) (some []) (cnd (ile (len l) 68719476736) (some l) none)) = some l := by
  unfold nilq
  have hc : ile (len l) 68719476736 = true := ile_t (by simp only [len]; omega)
  simp only [cnd_t hc]
  by_cases h0 : len l = 0
  · have : l = [] := List.eq_nil_of_length_eq_zero (by simp only [len] at h0; omega)
    subst this
    simp [len, cnd, beq, ile]
  · rw [if_neg h0]
    simp [cnd, beq]
theorem cnd_true {α : Type} (x y : α) : cnd true x y = x := rfl
theorem cnd_false {α : Type} (x y : α) : cnd false x y = y := rfl
theorem bnot_true : bnot true = false := rfl
theorem bnot_false : bnot false = true := rfl
theorem band_true (b : Bool) : band true b = b := rfl
theorem band_false (b : Bool) : band false b = false := rfl
theorem bor_true (b : Bool) : bor true b = true := rfl
theorem bor_false (b : Bool) : bor false b = b := rfl
theorem bor_true' (b : Bool) : bor b true = true := by cases b <;> rfl
theorem ieq_00 : ieq 0 0 = true := rfl
theorem ieq_30 : ieq 3 0 = false := rfl
theorem lset_len {α : Type} (l : List α) (i : Nat) (x : α) : (lset l i x).length = l.length := by simp [lset]
theorem e_num_Add {a b : Int} (ha : inI a) (hb : inI b) : F_num_Add a b = some (if inI (a + b) then (a + b, 0) else (0, 3)) := by
  unfold inI at ha hb
  unfold F_num_Add iadd
  rcases wr_two (n := a + b) (by omega) (by omega) with ⟨h, e⟩ | ⟨h, e⟩ | ⟨h, e⟩ <;> rw [e, cnd_if] <;> simp only [band_T, band_F, bor_T, bor_F, bnot_T, bnot_F, ilt_T, ilt_F, ile_T, ile_F, ieq_T, ieq_F, beq_T, beq_F]
  · rw [if_pos h, if_neg]
    rintro ⟨h1, h2⟩; unfold inI at h; exact h1 (decide_eq_decide.2 (by omega))
  · rw [if_pos, if_neg (by unfold inI; omega)]
    exact ⟨fun h1 => by have := decide_eq_decide.1 h1; omega, by omega⟩
  · rw [if_pos, if_neg (by unfold inI; omega)]
    exact ⟨fun h1 => by have := decide_eq_decide.1 h1; omega, by omega⟩
theorem e_num_Sub {a b : Int} (ha : inI a) (hb : inI b) : F_num_Sub a b = some (if inI (a - b) then (a - b, 0) else (0, 3)) := by
  unfold inI at ha hb
  unfold F_num_Sub isub
  rcases wr_two (n := a - b) (by omega) (by omega) with ⟨h, e⟩ | ⟨h, e⟩ | ⟨h, e⟩ <;> rw [e, cnd_if] <;> simp only [band_T, band_F, bor_T, bor_F, bnot_T, bnot_F, ilt_T, ilt_F, ile_T, ile_F, ieq_T, ieq_F, beq_T, beq_F]
  · rw [if_pos h, if_neg]
    rintro ⟨h1, h2⟩; unfold inI at h; exact h1 (decide_eq_decide.2 (by omega))
  · rw [if_pos, if_neg (by unfold inI; omega)]
    exact ⟨fun h1 => by have := decide_eq_decide.1 h1; omega, by omega⟩
  · rw [if_pos, if_neg (by unfold inI; omega)]
    exact ⟨fun h1 => by have := decide_eq_decide.1 h1; omega, by omega⟩
theorem e_num_Max (a b : Int) : F_num_Max a b = some (max a b) := by
  unfold F_num_Max imax
  congr 1
  by_cases h : b > a
  · rw [if_pos h]; omega
  · rw [if_neg h]; omega
/-- A number of 64 bits is two of 32. -/
theorem half (n : Int) (h1 : 0 ≤ n) (h2 : n < 18446744073709551616) : ∃ a b : Int, n = a * 4294967296 + b ∧ 0 ≤ a ∧ a < 4294967296 ∧ 0 ≤ b ∧ b < 4294967296 ∧ ishr .u64 n 32 = a ∧ wr .u64 (iand .u64 n 4294967295) = b := by
  refine ⟨n / 4294967296, n % 4294967296, by omega, by omega, by omega, by omega, by omega, ?_, ?_⟩
  · unfold ishr
    have : min (Int.toNat 32) (IntKind.bits .u64) = 32 := by decide
    rw [this, Int.fdiv_eq_ediv_of_nonneg _ (by decide)]
    rfl
  · unfold iand
    rw [wr_u64]
    have e : (BitVec.ofInt (IntKind.bits .u64) n &&& BitVec.ofInt (IntKind.bits .u64) 4294967295).toNat = n.toNat % 4294967296 := by
      rw [BitVec.toNat_and]
      have : (BitVec.ofInt (IntKind.bits .u64) 4294967295).toNat = 2 ^ 32 - 1 := by decide
      rw [this, Nat.and_two_pow_sub_one_eq_mod]
      rw [BitVec.toNat_ofInt]
      congr 1
      have : (n % (2 ^ (IntKind.bits .u64) : Nat)) = n := Int.emod_eq_of_lt h1 (by simpa [IntKind.bits] using h2)
      rw [this]
    rw [e]; omega
theorem e_Mul64 {x y : Int} (hx : 0 ≤ x) (hx2 : x < 18446744073709551616) (hy : 0 ≤ y) (hy2 : y < 18446744073709551616) :
    F_math_bits_Mul64 x y = some (x * y / 18446744073709551616, x * y % 18446744073709551616) := by
  obtain ⟨a, b, e1, a1, a2, b1, b2, s1, s2⟩ := half x hx hx2
  obtain ⟨c, d, e2, c1, c2, d1, d2, t1, t2⟩ := half y hy hy2
  unfold F_math_bits_Mul64
  rw [s1, s2, t1, t2]
  unfold imul iadd
  have m1 : 0 ≤ a * c ∧ a * c ≤ 4294967295 * 4294967295 := ⟨Int.mul_nonneg a1 c1, Int.mul_le_mul (by omega) (by omega) c1 (by omega)⟩
  have m2 : 0 ≤ a * d ∧ a * d ≤ 4294967295 * 4294967295 := ⟨Int.mul_nonneg a1 d1, Int.mul_le_mul (by omega) (by omega) d1 (by omega)⟩
  have m3 : 0 ≤ b * c ∧ b * c ≤ 4294967295 * 4294967295 := ⟨Int.mul_nonneg b1 c1, Int.mul_le_mul (by omega) (by omega) c1 (by omega)⟩
  have m4 : 0 ≤ b * d ∧ b * d ≤ 4294967295 * 4294967295 := ⟨Int.mul_nonneg b1 d1, Int.mul_le_mul (by omega) (by omega) d1 (by omega)⟩
  have mm : x * y = a * c * 18446744073709551616 + (a * d + b * c) * 4294967296 + b * d := by
    subst e1 e2
    simp only [Int.add_mul, Int.mul_add]
    have q1 : a * 4294967296 * (c * 4294967296) = a * c * 18446744073709551616 := by
      rw [Int.mul_assoc, Int.mul_left_comm 4294967296, ← Int.mul_assoc, ← Int.mul_assoc]; omega
    have q2 : a * 4294967296 * d = a * d * 4294967296 := by rw [Int.mul_assoc, Int.mul_comm 4294967296, ← Int.mul_assoc]
    have q3 : b * (c * 4294967296) = b * c * 4294967296 := by rw [← Int.mul_assoc]
    rw [q1, q2, q3]; omega
  rw [mm]
  generalize a * c = p at *
  generalize a * d = q at *
  generalize b * c = r at *
  generalize b * d = t at *
  have sh : ∀ n : Int, 0 ≤ n → n < 18446744073709551616 → ishr .u64 n 32 = n / 4294967296 := fun n h1 h2 => by
    obtain ⟨u, v, h3, h4, h5, h6, h7, h8, _⟩ := half n h1 h2
    rw [h8]; omega
  have la : ∀ n : Int, 0 ≤ n → n < 18446744073709551616 → wr .u64 (iand .u64 n 4294967295) = n % 4294967296 := fun n h1 h2 => by
    obtain ⟨u, v, h3, h4, h5, h6, h7, _, h8⟩ := half n h1 h2
    rw [h8]; omega
  simp only [wr_u64 p, wr_u64 q, wr_u64 r, wr_u64 t]
  rw [Int.emod_eq_of_lt (a := p) m1.1 (by omega), Int.emod_eq_of_lt (a := q) m2.1 (by omega), Int.emod_eq_of_lt (a := r) m3.1 (by omega), Int.emod_eq_of_lt (a := t) m4.1 (by omega)]
  rw [sh t m4.1 (by omega)]
  rw [wr_u64 (q + t / 4294967296), Int.emod_eq_of_lt (a := q + t / 4294967296) (by omega) (by omega)]
  rw [sh (q + t / 4294967296) (by omega) (by omega), la (q + t / 4294967296) (by omega) (by omega)]
  rw [wr_u64 (p + _), Int.emod_eq_of_lt (a := p + (q + t / 4294967296) / 4294967296) (by omega) (by omega)]
  rw [wr_u64 ((q + t / 4294967296) % 4294967296 + r), Int.emod_eq_of_lt (a := (q + t / 4294967296) % 4294967296 + r) (by omega) (by omega)]
  rw [sh _ (by omega) (by omega)]
  rw [wr_u64, wr_u64]
  congr 2 <;> omega
theorem e_num_size {a : Int} (ha : inI a) : F_num_size a = some (a.natAbs : Int) := by
  unfold inI at ha
  unfold F_num_size isub
  rw [cnd_if]; simp only [ilt_T, wr_u64]
  split
  · congr 1; omega
  · congr 1; omega
theorem e_num_Mul {a b : Int} (ha : inI a) (hb : inI b) : F_num_Mul a b = some (if inI (a * b) then (a * b, 0) else (0, 3)) := by
  unfold F_num_Mul
  rw [e_num_size ha, e_num_size hb, ob_some, ob_some, e_Mul64 (by omega) (by unfold inI at ha; omega) (by omega) (by unfold inI at hb; omega), ob_some]
  have hm : (a.natAbs : Int) * (b.natAbs : Int) = ((a * b).natAbs : Int) := by rw [Int.natAbs_mul]; rfl
  have hn : (a.natAbs : Int) * (b.natAbs : Int) ≤ 9223372036854775808 * 9223372036854775808 := Int.mul_le_mul (by unfold inI at ha; omega) (by unfold inI at hb; omega) (by omega) (by omega)
  rw [hm] at hn ⊢
  have hs : (decide (a < 0) = decide (b < 0) → 0 ≤ a * b) ∧ (decide (a < 0) ≠ decide (b < 0) → a * b ≤ 0) := by
    constructor
    · intro h
      by_cases h1 : a < 0
      · have h2 : b < 0 := by simpa [h1] using h
        exact Int.mul_nonneg_of_nonpos_of_nonpos (by omega) (by omega)
      · have h2 : ¬ b < 0 := by simpa [h1] using h
        exact Int.mul_nonneg (by omega) (by omega)
    · intro h
      by_cases h1 : a < 0
      · have h2 : ¬ b < 0 := by simpa [h1] using h
        exact Int.mul_nonpos_of_nonpos_of_nonneg (by omega) (by omega)
      · have h2 : b < 0 := by simpa [h1] using h
        exact Int.mul_nonpos_of_nonneg_of_nonpos (by omega) (by omega)
  generalize a * b = p at *
  simp only [cnd_if, band_T, band_F, bor_T, bor_F, bnot_T, bnot_F, ilt_T, ilt_F, ile_T, ile_F, ieq_T, ieq_F, beq_T, beq_F, isub, wr_u64, ne_eq]
  unfold ilt at *
  by_cases hd : decide (a < 0) = decide (b < 0)
  · have hp := hs.1 hd
    rw [if_neg (fun h => h.1.2 hd)]
    by_cases hr : p ≤ 9223372036854775807
    · rw [if_pos (by omega), if_pos ⟨by omega, by omega⟩, wr_in ⟨by omega, by omega⟩]
      congr 2; omega
    · rw [if_neg (by omega), if_neg (by unfold inI; omega)]
  · have hp := hs.2 hd
    by_cases hr : -9223372036854775808 ≤ p
    · rw [if_pos ⟨⟨by omega, hd⟩, by omega⟩, if_pos ⟨by omega, by omega⟩]
      congr 2
      rcases wr_two (n := (0 - ((p.natAbs : Int) % 18446744073709551616)) % 18446744073709551616) (by omega) (by omega) with ⟨h, e⟩ | ⟨h, e⟩ | ⟨h, e⟩ <;> rw [e] <;> unfold inI at * <;> omega
    · rw [if_neg (by omega), if_neg (by omega), if_neg (by unfold inI; omega)]
def knownP (n : Int) : Prop := 1 ≤ n ∧ n ≤ 1000000000000
/-- A right record. -/
def recP (r : SRec) : Prop :=
  (r.kind = 1 ∧ knownP r.order ∧ (0 ≤ r.account ∧ r.account < 8) ∧ (0 ≤ r.symbol ∧ r.symbol < 8) ∧ (r.side = 1 ∨ r.side = 2) ∧ 1 ≤ r.qty ∧ 1 ≤ r.price ∧ r.long = 0 ∧ r.short = 0 ∧ r.opn = 0 ∧ r.on = false ∧ r.seq = 0 ∧ r.what = 0) ∨
  (r.kind = 2 ∧ knownP r.order ∧ r.account = 0 ∧ r.symbol = 0 ∧ r.side = 0 ∧ 1 ≤ r.qty ∧ 1 ≤ r.price ∧ r.long = 0 ∧ r.short = 0 ∧ r.opn = 0 ∧ r.on = false ∧ r.seq = 0 ∧ r.what = 0) ∨
  (r.kind = 3 ∧ knownP r.order ∧ r.account = 0 ∧ r.symbol = 0 ∧ r.side = 0 ∧ r.qty = 0 ∧ r.price = 0 ∧ r.long = 0 ∧ r.short = 0 ∧ r.opn = 0 ∧ r.on = false ∧ r.seq = 0 ∧ r.what = 0) ∨
  (r.kind = 4 ∧ r.order = 0 ∧ (0 ≤ r.account ∧ r.account < 8) ∧ ((r.symbol = -1 ∧ r.long = 0 ∧ r.short = 0) ∨ (0 ≤ r.symbol ∧ r.symbol < 8)) ∧ r.side = 0 ∧ r.qty = 0 ∧ r.price = 0 ∧ 0 ≤ r.long ∧ 0 ≤ r.short ∧ 0 ≤ r.opn ∧ r.on = false ∧ r.seq = 0 ∧ r.what = 0) ∨
  (r.kind = 5 ∧ r.order = 0 ∧ r.account = 0 ∧ r.symbol = 0 ∧ r.side = 0 ∧ r.qty = 0 ∧ r.price = 0 ∧ r.long = 0 ∧ r.short = 0 ∧ r.opn = 0 ∧ r.seq = 0 ∧ r.what = 0) ∨
  (r.kind = 6 ∧ knownP r.order ∧ r.account = 0 ∧ r.symbol = 0 ∧ r.side = 0 ∧ r.long = 0 ∧ r.short = 0 ∧ r.opn = 0 ∧ r.on = false ∧ (1 ≤ r.seq ∧ r.seq ≤ 1000000000) ∧
    ((r.what = 3 ∧ 1 ≤ r.qty ∧ r.price = 0) ∨ (r.what = 5 ∧ 1 ≤ r.qty ∧ 1 ≤ r.price) ∨ ((r.what = 1 ∨ r.what = 2 ∨ r.what = 4 ∨ r.what = 6) ∧ r.qty = 0 ∧ r.price = 0)))
theorem imin3 (a b c : Int) : (0 ≤ imin (imin a b) c) ↔ 0 ≤ a ∧ 0 ≤ b ∧ 0 ≤ c := by
  unfold imin; split <;> split <;> omega
theorem s_rec_event (r : SRec) : Wq (F_rec_event r) fun b => b = true ↔ knownP r.order ∧ (1 ≤ r.seq ∧ r.seq ≤ 1000000000) ∧
    ((r.what = 3 ∧ 1 ≤ r.qty ∧ r.price = 0) ∨ (r.what = 5 ∧ 1 ≤ r.qty ∧ 1 ≤ r.price) ∨ ((r.what = 1 ∨ r.what = 2 ∨ r.what = 4 ∨ r.what = 6) ∧ r.qty = 0 ∧ r.price = 0)) := by
  unfold F_rec_event F_rec_known F_rec_sized
  by_cases h1 : 1 ≤ r.seq ∧ r.seq ≤ 1000000000
  · rw [cnd_t (b := bnot (bor (ilt r.seq 1) (ilt 1000000000 r.seq))) (by simp only [band_T, band_F, bor_T, bor_F, bnot_T, bnot_F, ilt_T, ilt_F, ile_T, ile_F, ieq_T, ieq_F, beq_T, beq_F]; omega), ob_some]
    by_cases h2 : knownP r.order
    · rw [show band (ile 1 r.order) (ile r.order 1000000000000) = true by simp only [band_T, band_F, bor_T, bor_F, bnot_T, bnot_F, ilt_T, ilt_F, ile_T, ile_F, ieq_T, ieq_F, beq_T, beq_F]; exact h2, cnd_f (by simp only [band_T, band_F, bor_T, bor_F, bnot_T, bnot_F, ilt_T, ilt_F, ile_T, ile_F, ieq_T, ieq_F, beq_T, beq_F]; exact ⟨by omega, trivial⟩)]
      by_cases k3 : r.what = 3
      · rw [cnd_t (by rw [ieq_T]; exact k3), w_some]; simp only [h1, h2, true_and, band_T, band_F, bor_T, bor_F, bnot_T, bnot_F, ilt_T, ilt_F, ile_T, ile_F, ieq_T, ieq_F, beq_T, beq_F]; omega
      rw [cnd_f (by rw [ieq_F]; exact k3)]
      by_cases k5 : r.what = 5
      · rw [cnd_t (by rw [ieq_T]; exact k5), ob_some, w_some]; simp only [h1, h2, true_and, band_T, band_F, bor_T, bor_F, bnot_T, bnot_F, ilt_T, ilt_F, ile_T, ile_F, ieq_T, ieq_F, beq_T, beq_F]; omega
      rw [cnd_f (by rw [ieq_F]; exact k5)]
      by_cases k1 : r.what = 1
      · rw [cnd_t (by rw [ieq_T]; exact k1), cnd_t (by rw [ieq_T]; exact k1), w_some]; simp only [h1, h2, true_and, band_T, band_F, bor_T, bor_F, bnot_T, bnot_F, ilt_T, ilt_F, ile_T, ile_F, ieq_T, ieq_F, beq_T, beq_F]; omega
      rw [cnd_f (by rw [ieq_F]; exact k1)]
      by_cases k2 : r.what = 2
      · rw [cnd_t (by rw [ieq_T]; exact k2), cnd_t (by rw [ieq_T]; exact k2), w_some]; simp only [h1, h2, true_and, band_T, band_F, bor_T, bor_F, bnot_T, bnot_F, ilt_T, ilt_F, ile_T, ile_F, ieq_T, ieq_F, beq_T, beq_F]; omega
      rw [cnd_f (by rw [ieq_F]; exact k2)]
      by_cases k4 : r.what = 4
      · rw [cnd_t (by rw [ieq_T]; exact k4), cnd_t (by rw [ieq_T]; exact k4), w_some]; simp only [h1, h2, true_and, band_T, band_F, bor_T, bor_F, bnot_T, bnot_F, ilt_T, ilt_F, ile_T, ile_F, ieq_T, ieq_F, beq_T, beq_F]; omega
      rw [cnd_f (by rw [ieq_F]; exact k4)]
      by_cases k6 : r.what = 6
      · rw [cnd_t (by rw [ieq_T]; exact k6), w_some]; simp only [h1, h2, true_and, band_T, band_F, bor_T, bor_F, bnot_T, bnot_F, ilt_T, ilt_F, ile_T, ile_F, ieq_T, ieq_F, beq_T, beq_F]; omega
      rw [cnd_f (by rw [ieq_F]; exact k6), w_some]
      simp only [h1, h2, true_and, Bool.false_eq_true, false_iff]; omega
    · rw [show band (ile 1 r.order) (ile r.order 1000000000000) = false by simp only [band_T, band_F, bor_T, bor_F, bnot_T, bnot_F, ilt_T, ilt_F, ile_T, ile_F, ieq_T, ieq_F, beq_T, beq_F]; unfold knownP at h2; omega, cnd_t (by simp only [band_T, band_F, bor_T, bor_F, bnot_T, bnot_F, ilt_T, ilt_F, ile_T, ile_F, ieq_T, ieq_F, beq_T, beq_F, or_true]), w_some]
      simp [h2]
  · rw [cnd_f (b := bnot (bor (ilt r.seq 1) (ilt 1000000000 r.seq))) (by simp only [band_T, band_F, bor_T, bor_F, bnot_T, bnot_F, ilt_T, ilt_F, ile_T, ile_F, ieq_T, ieq_F, beq_T, beq_F]; omega), ob_some, cnd_t (by simp only [band_T, band_F, bor_T, bor_F, bnot_T, bnot_F, ilt_T, ilt_F, ile_T, ile_F, ieq_T, ieq_F, beq_T, beq_F, or_true]), w_some]
    simp [h1]
theorem s_rec_Right (r : SRec) : Wq (F_rec_Right r) fun b => b = true ↔ recP r := by
  unfold F_rec_Right F_rec_fields
  obtain ⟨ev, he, hq⟩ := s_rec_event r
  by_cases k1 : r.kind = 1
  · have e1 : ieq r.kind 1 = true := by rw [ieq_T]; exact k1
    simp only [e1, cnd_true, ob_some]
    simp only [w_bind, w_cnd, w_some, band_T, band_F, bor_T, bor_F, bnot_T, bnot_F, ilt_T, ilt_F, ile_T, ile_F, ieq_T, ieq_F, beq_T, beq_F, true_implies, ne_eq, not_true_eq_false, false_implies, and_true, true_and, or_self, reduceCtorEq, F_rec_known, F_rec_below, F_rec_sized, recP, knownP]; grind
  have e1 : ieq r.kind 1 = false := by rw [ieq_F]; exact k1
  by_cases k2 : r.kind = 2
  · have e2 : ieq r.kind 2 = true := by rw [ieq_T]; exact k2
    simp only [e1, e2, cnd_true, cnd_false, ob_some]
    simp only [w_bind, w_cnd, w_some, band_T, band_F, bor_T, bor_F, bnot_T, bnot_F, ilt_T, ilt_F, ile_T, ile_F, ieq_T, ieq_F, beq_T, beq_F, true_implies, ne_eq, not_true_eq_false, false_implies, and_true, true_and, or_self, reduceCtorEq, F_rec_known, F_rec_below, F_rec_sized, recP, knownP]; grind
  have e2 : ieq r.kind 2 = false := by rw [ieq_F]; exact k2
  by_cases k3 : r.kind = 3
  · have e3 : ieq r.kind 3 = true := by rw [ieq_T]; exact k3
    simp only [e1, e2, e3, cnd_true, cnd_false, ob_some]
    simp only [w_bind, w_cnd, w_some, band_T, band_F, bor_T, bor_F, bnot_T, bnot_F, ilt_T, ilt_F, ile_T, ile_F, ieq_T, ieq_F, beq_T, beq_F, true_implies, ne_eq, not_true_eq_false, false_implies, and_true, true_and, or_self, reduceCtorEq, F_rec_known, F_rec_below, F_rec_sized, recP, knownP]; grind
  have e3 : ieq r.kind 3 = false := by rw [ieq_F]; exact k3
  by_cases k4 : r.kind = 4
  · have e4 : ieq r.kind 4 = true := by rw [ieq_T]; exact k4
    simp only [e1, e2, e3, e4, cnd_true, cnd_false, ob_some]
    simp only [w_bind, w_cnd, w_some, band_T, band_F, bor_T, bor_F, bnot_T, bnot_F, ilt_T, ilt_F, ile_T, ile_F, ieq_T, ieq_F, beq_T, beq_F, true_implies, ne_eq, not_true_eq_false, false_implies, and_true, true_and, or_self, reduceCtorEq, F_rec_known, F_rec_below, F_rec_sized, recP, knownP, imin3]; grind
  have e4 : ieq r.kind 4 = false := by rw [ieq_F]; exact k4
  by_cases k5 : r.kind = 5
  · have e5 : ieq r.kind 5 = true := by rw [ieq_T]; exact k5
    simp only [e1, e2, e3, e4, e5, cnd_true, cnd_false, ob_some]
    simp only [w_bind, w_cnd, w_some, band_T, band_F, bor_T, bor_F, bnot_T, bnot_F, ilt_T, ilt_F, ile_T, ile_F, ieq_T, ieq_F, beq_T, beq_F, true_implies, ne_eq, not_true_eq_false, false_implies, and_true, true_and, or_self, reduceCtorEq, F_rec_known, F_rec_below, F_rec_sized, recP, knownP]; grind
  have e5 : ieq r.kind 5 = false := by rw [ieq_F]; exact k5
  by_cases k6 : r.kind = 6
  · have e6 : ieq r.kind 6 = true := by rw [ieq_T]; exact k6
    simp only [e1, e2, e3, e4, e5, e6, cnd_true, cnd_false, ob_some, he]
    simp only [w_bind, w_cnd, w_some, band_T, band_F, bor_T, bor_F, bnot_T, bnot_F, ilt_T, ilt_F, ile_T, ile_F, ieq_T, ieq_F, beq_T, beq_F, true_implies, ne_eq, not_true_eq_false, false_implies, and_true, true_and, or_self, reduceCtorEq, recP, hq]; grind
  have e6 : ieq r.kind 6 = false := by rw [ieq_F]; exact k6
  simp only [e1, e2, e3, e4, e5, e6, cnd_true, cnd_false, ob_some]
  simp only [w_bind, w_cnd, w_some, band_T, band_F, bor_T, bor_F, bnot_T, bnot_F, ilt_T, ilt_F, ile_T, ile_F, ieq_T, ieq_F, beq_T, beq_F, true_implies, ne_eq, not_true_eq_false, false_implies, and_true, true_and, or_self, reduceCtorEq, recP]; grind
/-- An order's own part, as it begins. -/
def begunP (o : SOrder) : Prop := (1 ≤ o.id ∧ o.id ≤ 1000000000000) ∧ (0 ≤ o.account ∧ o.account < 8) ∧ (0 ≤ o.symbol ∧ o.symbol < 8) ∧ (o.side = 1 ∨ o.side = 2) ∧ 1 ≤ o.qty ∧ 1 ≤ o.price
theorem s_order_begun (o : SOrder) : Wq (F_order_begun o) fun b => b = true ↔ begunP o := by
  unfold F_order_begun
  rw [w_bind]
  refine (s_rec_Right _).mono fun b hb => ?_
  rw [w_some, hb]
  simp [recP, begunP, knownP]
def pendP (o : SOrder) : Prop := o.newQty ≠ 0 ∨ o.newPrice ≠ 0
instance (o : SOrder) : Decidable (pendP o) := by unfold pendP; infer_instance
instance (o : SOrder) : Decidable (begunP o) := by unfold begunP; infer_instance
theorem s_order_pending (o : SOrder) : Wq (F_order_pending o) fun b => b = true ↔ pendP o := by
  unfold F_order_pending
  simp only [w_some, bor_T, bnot_T, ieq_F, pendP]
/-- A right order. -/
def ordP (o : SOrder) : Prop := begunP o ∧ 0 ≤ o.filled ∧ o.filled ≤ o.qty ∧ 0 ≤ o.version ∧ (pendP o → 1 ≤ o.newQty ∧ 1 ≤ o.newPrice) ∧
  ((o.phase = 1 ∧ o.filled = 0 ∧ o.version = 0 ∧ ¬ pendP o) ∨ (o.phase = 2 ∧ o.filled < o.qty) ∨ (o.phase = 3 ∧ ¬ pendP o))
instance (o : SOrder) : Decidable (ordP o) := by unfold ordP; infer_instance
theorem s_order_Right (o : SOrder) : Wq (F_order_Right o) fun b => b = true ↔ ordP o := by
  unfold F_order_Right
  rw [w_bind]
  refine (s_order_pending o).mono fun p hp => ?_
  rw [w_bind]
  refine (s_order_begun o).mono fun b hb => ?_
  unfold ordP
  rw [← hp, ← hb]
  have hm : (imin o.newQty o.newPrice < 1) ↔ ¬ (1 ≤ o.newQty ∧ 1 ≤ o.newPrice) := by unfold imin; split <;> omega
  simp only [w_bind, w_cnd, w_some, band_T, band_F, bor_T, bor_F, bnot_T, bnot_F, ilt_T, ilt_F, ile_T, ile_F, ieq_T, ieq_F, beq_T, beq_F, hm]
  cases p <;> cases b <;> simp <;> omega
theorem e_order_Right (o : SOrder) : F_order_Right o = some (decide (ordP o)) := (s_order_Right o).dec
/-- How much is open of an order, and what that is worth. -/
def openZ (o : SOrder) : Int := if o.phase = 3 then 0 else max o.qty o.newQty - o.filled
def worthZ (o : SOrder) : Int := if o.phase = 3 then 0 else if o.newQty ≤ o.filled then (o.qty - o.filled) * o.price else max ((o.qty - o.filled) * o.price) ((o.newQty - o.filled) * o.newPrice)
theorem openZ_rng {o : SOrder} (h : ordP o) (hr : Ok_order o) : 0 ≤ openZ o ∧ openZ o ≤ 9223372036854775807 := by
  obtain ⟨_, h1, h2, _⟩ := h
  have := hr.qty.2; have := hr.newQty.2
  unfold openZ; split <;> omega
theorem new_pos {o : SOrder} (h : ordP o) (hn : o.filled < o.newQty) : 1 ≤ o.newPrice := by
  obtain ⟨_, h1, h2, _, h4, _⟩ := h
  exact (h4 (.inl (by omega))).2
theorem worthZ_nn {o : SOrder} (h : ordP o) : 0 ≤ worthZ o := by
  have hp := h.1.2.2.2.2.2
  have hf := h.2.2.1
  unfold worthZ; split
  · omega
  · have m : 0 ≤ (o.qty - o.filled) * o.price := Int.mul_nonneg (by omega) (by omega)
    split <;> omega
theorem e_order_Open {o : SOrder} (h : ordP o) (hr : Ok_order o) : F_order_Open o = some (openZ o) := by
  have hb := openZ_rng h hr
  unfold F_order_Open
  rw [e_order_Right, ob_some, decide_eq_true h, e_num_Max, ob_some]
  unfold openZ at *
  rw [bnot_true, bor_false, c_ieq]
  split
  · rfl
  · rename_i hp
    rw [if_neg hp] at hb
    unfold isub
    rw [wr_in ⟨by omega, by omega⟩]
theorem e_order_Worth {o : SOrder} (h : ordP o) (hr : Ok_order o) : F_order_Worth o = some (if worthZ o ≤ 9223372036854775807 then (worthZ o, 0) else (0, 3)) := by
  have hp := h.1.2.2.2.2.2
  have hf := h.2.2.1
  have hf0 := h.2.1
  have rq := hr.qty; have rp := hr.price; have rf := hr.filled; have rn := hr.newQty; have rnp := hr.newPrice
  unfold inI at rq rf rn
  unfold F_order_Worth
  rw [e_order_Right, ob_some, decide_eq_true h, bnot_true, cnd_false, c_ieq]
  unfold worthZ
  split
  · rw [if_pos (by omega)]
  · unfold isub
    rw [wr_in ⟨by omega, by omega⟩, e_num_Mul ⟨by omega, by omega⟩ rp, ob_some]
    have m : 0 ≤ (o.qty - o.filled) * o.price := Int.mul_nonneg (by omega) (by omega)
    generalize (o.qty - o.filled) * o.price = a at *
    rw [cnd_if]
    simp only [band_T, band_F, bor_T, bor_F, bnot_T, bnot_F, ilt_T, ilt_F, ile_T, ile_F, ieq_T, ieq_F, beq_T, beq_F]
    by_cases hn : o.newQty ≤ o.filled
    · rw [if_pos (.inr hn), if_pos hn]
      by_cases ha : a ≤ 9223372036854775807
      · rw [if_pos (c := inI a) ⟨by omega, ha⟩, if_pos ha]
      · rw [if_neg (c := inI a) (by unfold inI; omega), if_neg ha]
    · rw [if_neg hn]
      have hnp := new_pos h (by omega)
      rw [wr_in ⟨by omega, by omega⟩, e_num_Mul ⟨by omega, by omega⟩ rnp, ob_some]
      have m2 : 0 ≤ (o.newQty - o.filled) * o.newPrice := Int.mul_nonneg (by omega) (by omega)
      generalize (o.newQty - o.filled) * o.newPrice = b at *
      by_cases ha : a ≤ 9223372036854775807
      · rw [if_pos (c := inI a) ⟨by omega, ha⟩, if_neg (by simp only [ne_eq, not_true_eq_false, false_or]; exact hn)]
        by_cases hb : b ≤ 9223372036854775807
        · rw [if_pos (c := inI b) ⟨by omega, hb⟩]
          rw [cnd_f (by simp [bnot, ieq]), e_num_Max, ob_some, if_pos (by omega)]
        · rw [if_neg (c := inI b) (by unfold inI; omega)]
          rw [cnd_t (by simp [bnot, ieq]), if_neg (by omega)]
      · rw [if_neg (c := inI a) (by unfold inI; omega), if_pos (.inl (by decide)), if_neg (by omega)]
def okC (c : SCell) : Prop := Ok_cell c ∧ (0 ≤ c.buy ∧ 0 ≤ c.sell ∧ 0 ≤ c.opn) ∧ inI (c.pos + c.buy) ∧ inI (c.sell - c.pos)
theorem okC_iff (c : SCell) : okC c ↔ (inI c.pos ∧ inI c.buy ∧ inI c.sell ∧ inI c.opn) ∧ (0 ≤ c.buy ∧ 0 ≤ c.sell ∧ 0 ≤ c.opn) ∧ inI (c.pos + c.buy) ∧ inI (c.sell - c.pos) :=
  ⟨fun ⟨⟨a, b, c, d⟩, h⟩ => ⟨⟨a, b, c, d⟩, h⟩, fun ⟨⟨a, b, c, d⟩, h⟩ => ⟨⟨a, b, c, d⟩, h⟩⟩
instance (c : SCell) : Decidable (okC c) := decidable_of_iff _ (okC_iff c).symm
theorem e_cell_expo {c : SCell} (h : Ok_cell c) : F_cell_expo c = some (⟨if inI (c.pos + c.buy) then c.pos + c.buy else 0, if inI (c.sell - c.pos) then c.sell - c.pos else 0, c.opn⟩, decide (inI (c.pos + c.buy) ∧ inI (c.sell - c.pos))) := by
  unfold F_cell_expo
  rw [e_num_Add h.pos h.buy, ob_some, e_num_Sub h.sell h.pos, ob_some]
  by_cases h1 : inI (c.pos + c.buy)
  · by_cases h2 : inI (c.sell - c.pos)
    · simp only [if_pos h1, if_pos h2, ieq_00, band_true, decide_eq_true (show _ ∧ _ from ⟨h1, h2⟩)]
    · simp only [if_pos h1, if_neg h2, ieq_30, ieq_00, band_true, decide_eq_false (fun h : _ ∧ _ => h2 h.2)]
  · simp only [if_neg h1, ieq_30, band_false, decide_eq_false (fun h : _ ∧ _ => h1 h.1)]
    by_cases h2 : inI (c.sell - c.pos)
    · simp only [if_pos h2]
    · simp only [if_neg h2]
theorem s_cell_Right {c : SCell} (h : Ok_cell c) : Wq (F_cell_Right c) fun b => b = true ↔ okC c := by
  unfold F_cell_Right
  rw [e_cell_expo h, ob_some, w_some]
  simp only [band_T, ile_T, decide_eq_true_eq, okC]
  rw [imin3]
  constructor
  · rintro ⟨a, b⟩; exact ⟨h, b, a⟩
  · rintro ⟨_, b, a⟩; exact ⟨a, b⟩
theorem e_cell_Right {c : SCell} (h : Ok_cell c) : F_cell_Right c = some (decide (okC c)) := (s_cell_Right h).dec
/-- What a cell may come to. -/
def ofC (c : SCell) : SExpo := ⟨c.pos + c.buy, c.sell - c.pos, c.opn⟩
theorem e_cell_Of {c : SCell} (h : okC c) : F_cell_Of c = some (ofC c, 0) := by
  unfold F_cell_Of
  rw [e_cell_Right h.1, ob_some, decide_eq_true h, bnot_true, cnd_false, e_cell_expo h.1, ob_some, if_pos h.2.2.1, if_pos h.2.2.2]
  rfl
/-- A cell with an order more, or less. -/
def addC (c : SCell) (o : SOrder) : SCell := if o.side = 2 then ⟨c.pos, c.buy, c.sell + openZ o, c.opn + worthZ o⟩ else ⟨c.pos, c.buy + openZ o, c.sell, c.opn + worthZ o⟩
theorem e_cell_Come {c : SCell} {o : SOrder} (hc : okC c) (ho : ordP o) (hr : Ok_order o) : F_cell_Come c o = some (if okC (addC c o) then (addC c o, 0) else (c, 3)) := by
  have hO := openZ_rng ho hr
  have hW := worthZ_nn ho
  obtain ⟨hk, ⟨n1, n2, n3⟩, r1, r2⟩ := id hc
  have ib := hk.buy; have is' := hk.sell; have io := hk.opn; have ip := hk.pos
  unfold F_cell_Come
  rw [e_cell_Right hk, ob_some, decide_eq_true hc, e_order_Right, decide_eq_true ho, bnot_true, bnot_false, cnd_true, ob_some, bnot_true, bor_false, cnd_false, e_order_Worth ho hr, e_order_Open ho hr, ob_some]
  simp only [ob_some]
  have oO : inI (openZ o) := ⟨by omega, by omega⟩
  by_cases hw : worthZ o ≤ 9223372036854775807
  · have oW : inI (worthZ o) := ⟨by omega, hw⟩
    rw [if_pos hw]
    simp only [ieq_00, bnot_true, bor_false]
    by_cases hs : o.side = 2
    · rw [cnd_t (by rw [ieq_T]; exact hs), e_num_Add is' oO, ob_some, e_num_Add io oW, ob_some]
      unfold addC; rw [if_pos hs]
      by_cases h1 : c.sell + openZ o ≤ 9223372036854775807
      · by_cases h2 : c.opn + worthZ o ≤ 9223372036854775807
        · rw [if_pos ⟨by omega, h1⟩, if_pos ⟨by omega, h2⟩]
          simp only [ieq_00, bnot_true, bor_false, bnot_false, cnd_true]
          rw [e_cell_Right (c := ⟨c.pos, c.buy, c.sell + openZ o, c.opn + worthZ o⟩) ⟨ip, ib, ⟨by simp only; omega, h1⟩, ⟨by simp only; omega, h2⟩⟩, ob_some, c_bnot, c_dec]
          split <;> rfl
        · rw [if_pos ⟨by omega, h1⟩, if_neg (by unfold inI; omega)]
          simp only [ieq_00, ieq_30, bnot_true, bor_false, bnot_false, cnd_true, bor_true, cnd_false, ob_some]
          rw [if_neg fun h => h2 h.1.opn.2]
      · rw [if_neg (by unfold inI; omega)]
        simp only [ieq_30, bnot_false, bor_true, bnot_true, cnd_true, cnd_false, ob_some]
        rw [if_neg fun h => h1 h.1.sell.2]
    · rw [cnd_f (by rw [ieq_F]; exact hs), e_num_Add ib oO, ob_some, e_num_Add io oW, ob_some]
      unfold addC; rw [if_neg hs]
      by_cases h1 : c.buy + openZ o ≤ 9223372036854775807
      · by_cases h2 : c.opn + worthZ o ≤ 9223372036854775807
        · rw [if_pos ⟨by omega, h1⟩, if_pos ⟨by omega, h2⟩]
          simp only [ieq_00, bnot_true, bor_false, bnot_false, cnd_true]
          rw [e_cell_Right (c := ⟨c.pos, c.buy + openZ o, c.sell, c.opn + worthZ o⟩) ⟨ip, ⟨by simp only; omega, h1⟩, is', ⟨by simp only; omega, h2⟩⟩, ob_some, c_bnot, c_dec]
          split <;> rfl
        · rw [if_pos ⟨by omega, h1⟩, if_neg (by unfold inI; omega)]
          simp only [ieq_00, ieq_30, bnot_true, bor_false, bnot_false, cnd_true, bor_true, cnd_false, ob_some]
          rw [if_neg fun h => h2 h.1.opn.2]
      · rw [if_neg (by unfold inI; omega)]
        simp only [ieq_30, bnot_false, bor_true, bnot_true, cnd_true, cnd_false, ob_some]
        rw [if_neg fun h => h1 h.1.buy.2]
  · have hno : ¬ okC (addC c o) := fun h => by
      have := h.1.opn.2
      unfold addC at this
      split at this <;> simp only at this <;> omega
    rw [if_neg hw, if_neg hno]
    simp only [ieq_30, bnot_false, bor_true, bnot_true, cnd_false, ob_some, cnd_true]
    by_cases hs : o.side = 2
    · rw [cnd_t (by rw [ieq_T]; exact hs), e_num_Add is' oO, ob_some, e_num_Add io (by decide), ob_some]
    · rw [cnd_f (by rw [ieq_F]; exact hs), e_num_Add ib oO, ob_some, e_num_Add io (by decide), ob_some]
def limP (x : SExpo) : Prop := 0 ≤ x.long ∧ 0 ≤ x.short ∧ 0 ≤ x.opn
instance (x : SExpo) : Decidable (limP x) := by unfold limP; infer_instance
theorem e_limit_Right (x : SExpo) : F_limit_Right x = some (decide (limP x)) := by
  refine Wq.dec ?_
  unfold F_limit_Right limP
  rw [w_some, ile_T, imin3]
theorem sum_take_succ (l : List Int) (i : Nat) (h : i < l.length) : (l.take (i + 1)).sum = (l.take i).sum + l[i] := by
  rw [List.take_succ_eq_append_getElem h, List.sum_append]; simp
theorem sum_nn : ∀ {l : List Int}, (∀ x ∈ l, 0 ≤ x) → 0 ≤ l.sum
  | [], _ => by simp
  | a :: l, h => by
    have := sum_nn (l := l) fun x hx => h x (by simp [hx])
    have := h a (by simp)
    simp only [List.sum_cons]; omega
theorem sum_take_le {l : List Int} (h : ∀ x ∈ l, 0 ≤ x) (i : Nat) : (l.take i).sum ≤ l.sum := by
  have e : l.sum = (l.take i).sum + (l.drop i).sum := by rw [← List.sum_append, List.take_append_drop]
  have := sum_nn (l := l.drop i) fun x hx => h x (List.mem_of_mem_drop hx)
  omega
def totZ (l : List Int) : Int × Int := if l.sum ≤ 9223372036854775807 then (l.sum, 0) else (0, 3)
theorem e_num_Total {l : List Int} (hl : l.length < 999999) (h : ∀ x ∈ l, 0 ≤ x ∧ inI x) : F_num_Total l = some (totZ l) := by
  refine Wq.eq ?_
  have hn : ∀ x ∈ l, 0 ≤ x := fun x hx => (h x hx).1
  unfold F_num_Total
  refine Wq.bind (Q := fun w : (Int × Int) ⊕ (Int × Int × Int) => match w with | .inl w => w = (3, 0) ∧ ¬ l.sum ≤ 9223372036854775807 | .inr w => w.1 = l.sum ∧ l.sum ≤ 9223372036854775807)
    (w_for (n := l.length) (step := fun v : Int × Int × Int × Int => L_num_Total_58 (len l) l v.fst v.snd.fst v.snd.snd.fst v.snd.snd.snd) (by omega)
      (fun i x => x.1 = (l.take i).sum ∧ x.1 ≤ 9223372036854775807) _ ?_ ?_ _ 0 (Nat.zero_le _) (by simp)) ?_
  · rintro i ⟨a, b, c⟩ hi ⟨rfl, ha⟩
    simp only [L_num_Total_58]
    simp only at ha
    have ht := sum_nn (l := l.take i) fun x hx => hn x (List.mem_of_mem_take hx)
    have hx := h l[i] (List.getElem_mem _)
    rw [cnd_t (by rw [ilt_nat]; simpa using hi), cnd_t (inb l i hi), lget_nat l i hi, e_num_Add ⟨by omega, ha⟩ hx.2, ob_some, ← sum_take_succ l i hi]
    have := sum_take_le hn (i + 1)
    have h2 := sum_nn (l := l.take (i + 1)) fun x hx => hn x (List.mem_of_mem_take hx)
    by_cases hr : (l.take (i + 1)).sum ≤ 9223372036854775807
    · rw [if_pos ⟨by omega, hr⟩]
      simp only [ieq_00, bnot_true, cnd_false, w_some]
      exact ⟨wr_succ (by omega), trivial, hr⟩
    · rw [if_neg (by unfold inI; omega)]
      simp only [ieq_30, bnot_false, cnd_true, w_some]
      exact ⟨trivial, by omega⟩
  · rintro ⟨a, b, c⟩ ⟨rfl, ha⟩
    simp only [L_num_Total_58]
    simp only at ha
    rw [cnd_f (by rw [ilt_nat]; simp), w_some]
    rw [List.take_length] at *
    exact ⟨rfl, ha⟩
  · rintro w hw
    unfold totZ
    cases w with
    | inl w => obtain ⟨rfl, h2⟩ := hw; simp only [sumK, w_some]; rw [if_neg h2]
    | inr w => obtain ⟨h1, h2⟩ := hw; simp only [sumK, w_some]; rw [if_pos h2, h1]
/-- What is open of some cells. -/
def wholeZ (l : List SCell) : Int := (l.map SCell.opn).sum
theorem e_limit_Whole {l : List SCell} (hl : l.length < 999999) (h : ∀ c ∈ l, 0 ≤ c.opn ∧ inI c.opn) : F_limit_Whole l = some (if wholeZ l ≤ 9223372036854775807 then (wholeZ l, 0) else (0, 3)) := by
  refine Wq.eq ?_
  unfold F_limit_Whole
  refine Wq.bind (Q := fun w : List Int => w = l.map SCell.opn)
    (w_for (n := l.length) (step := fun v : Int × List Int => L_limit_Whole_58 (len l) l v.fst v.snd) (by omega) (fun i x => x = (l.take i).map SCell.opn) _ ?_ ?_ _ 0 (Nat.zero_le _) (by simp)) ?_
  · rintro i x hi rfl
    simp only [L_limit_Whole_58]
    rw [cnd_t (by rw [ilt_nat]; simpa using hi), cnd_t (inb l i hi), cnd_t (ile_t (by simp [lapp, len]; omega)), w_some, lget_nat l i hi]
    exact ⟨wr_succ (by omega), by rw [List.take_succ_eq_append_getElem hi, List.map_append]; rfl⟩
  · rintro x rfl
    simp only [L_limit_Whole_58]
    rw [cnd_f (by rw [ilt_nat]; simp), w_some, List.take_length]
  · rintro w rfl
    rw [e_num_Total (by simpa using hl) (fun x hx => by
      obtain ⟨c, hc, rfl⟩ := List.mem_map.1 hx
      exact h c hc), ob_some, w_some]
    rfl
theorem s_slices_Min_int64 {l : List Int} (hl : l.length < 999999) (h0 : l ≠ []) : Wq (F_slices_Min_int64 l) fun m => 0 ≤ m ↔ ∀ x ∈ l, 0 ≤ x := by
  have hp : 0 < l.length := List.length_pos_iff.2 h0
  unfold F_slices_Min_int64
  rw [cnd_f (ilt_f (by simp only [len]; omega)), cnd_t (ilt_t (by simp only [len]; omega))]
  refine Wq.bind (Q := fun m => 0 ≤ m ↔ ∀ x ∈ l, 0 ≤ x) (w_for (n := l.length) (step := fun v : Int × Int => L_slices_Min_int64_122 l v.fst v.snd) (by omega) (fun i x => 0 ≤ x ↔ ∀ y ∈ l.take i, 0 ≤ y) _ ?_ ?_ _ 1 hp ?_) ?_
  · rintro i x hi hx
    simp only [L_slices_Min_int64_122]
    rw [cnd_t (by rw [ilt_nat]; simpa using hi), cnd_t (inb l i hi), w_some, lget_nat l i hi]
    refine ⟨wr_succ (by omega), ?_⟩
    rw [List.take_succ_eq_append_getElem hi]
    simp only [List.mem_append, List.mem_singleton]
    unfold imin
    constructor
    · intro h y hy
      rcases hy with hy | rfl
      · exact hx.1 (by split at h <;> omega) y hy
      · split at h <;> omega
    · intro h
      have h1 := hx.2 fun y hy => h y (.inl hy)
      have h2 := h _ (.inr rfl)
      split <;> omega
  · rintro x hx
    simp only [L_slices_Min_int64_122]
    rw [cnd_f (by rw [ilt_nat]; simp), w_some]
    rwa [List.take_length] at hx
  · cases l with
    | nil => exact absurd rfl h0
    | cons a r => simp [lget]
  · exact fun w hw => (w_some _).2 hw
/-- The first order that has a number. -/
def findZ (l : List SOrder) (n : Int) : Option Nat := l.findIdx? fun o => o.id == n
def findI (l : List SOrder) (n : Int) : Int := match findZ l n with | some k => k | none => -1
theorem e_book_Find (s : SState) (n : Int) (hl : s.orders.length < 999999) : F_book_Find s n = some (findI s.orders n) := by
  refine Wq.eq ?_
  unfold F_book_Find
  refine Wq.bind (Q := fun w : Int ⊕ Int => match w with
      | .inl k => ∃ i : Nat, k = i ∧ ∃ h : i < s.orders.length, s.orders[i].id = n ∧ ∀ j, (h : j < s.orders.length) → j < i → s.orders[j].id ≠ n
      | .inr _ => ∀ j, (h : j < s.orders.length) → s.orders[j].id ≠ n)
    (w_for (n := s.orders.length) (step := fun v : Int × Int => L_book_Find_26_slices_IndexFunc_api_Order_c10 (len s.orders) s.orders n v.fst v.snd) (by omega) (fun i x => ∀ j, (h : j < s.orders.length) → j < i → s.orders[j].id ≠ n) _ ?_ ?_ _ 0 (Nat.zero_le _) (fun j _ h => by omega)) ?_
  · rintro i x hi hx
    simp only [L_book_Find_26_slices_IndexFunc_api_Order_c10]
    rw [cnd_t (by rw [ilt_nat]; simpa using hi), cnd_t (inb _ i hi), lget_nat _ i hi, w_cnd]
    refine ⟨fun he => (w_some _).2 ⟨i, rfl, hi, by simpa [ieq] using he, hx⟩, fun he => (w_some _).2 ⟨wr_succ (by omega), fun j hj hji => ?_⟩⟩
    by_cases e : j = i
    · subst e; simpa [ieq] using he
    · exact hx j hj (by omega)
  · rintro x hx
    simp only [L_book_Find_26_slices_IndexFunc_api_Order_c10]
    rw [cnd_f (by rw [ilt_nat]; simp), w_some]
    exact fun j hj => hx j hj hj
  · rintro w hw
    cases w with
    | inl k =>
      obtain ⟨i, rfl, hi, h1, h2⟩ := hw
      have : findZ s.orders n = some i := by
        unfold findZ
        rw [List.findIdx?_eq_some_iff_getElem]
        exact ⟨hi, by simpa using h1, fun j hj => by simpa using h2 j (by omega) hj⟩
      simp only [sumK, w_some, findI, this]
    | inr k =>
      have : findZ s.orders n = none := by
        unfold findZ
        rw [List.findIdx?_eq_none_iff]
        intro o ho
        obtain ⟨j, hj, rfl⟩ := List.getElem_of_mem ho
        simpa using hw j hj
      simp only [sumK, w_some, findI, this]
theorem findZ_some {l : List SOrder} {n : Int} {k : Nat} (h : findZ l n = some k) : ∃ hk : k < l.length, l[k].id = n := by
  unfold findZ at h
  rw [List.findIdx?_eq_some_iff_getElem] at h
  obtain ⟨hk, h1, _⟩ := h
  exact ⟨hk, by simpa using h1⟩
theorem findZ_none {l : List SOrder} {n : Int} (h : findZ l n = none) : ∀ o ∈ l, o.id ≠ n := by
  unfold findZ at h
  rw [List.findIdx?_eq_none_iff] at h
  intro o ho
  simpa using h o ho
theorem findI_some {l : List SOrder} {n : Int} {k : Nat} (h : findZ l n = some k) : findI l n = k := by unfold findI; rw [h]
theorem findI_none {l : List SOrder} {n : Int} (h : findZ l n = none) : findI l n = -1 := by unfold findI; rw [h]
def sizedP (s : SState) : Prop := (1 ≤ s.accounts ∧ s.accounts ≤ 8) ∧ (1 ≤ s.symbols ∧ s.symbols ≤ 8) ∧ len s.cells = s.accounts * s.symbols ∧ len s.limits = len s.cells ∧ len s.caps = s.accounts ∧ s.orders.length ≤ 64
instance (s : SState) : Decidable (sizedP s) := by unfold sizedP; infer_instance
theorem mul_le64 {a b : Int} (h1 : 0 ≤ a) (h2 : a ≤ 9) (h3 : 0 ≤ b) (h4 : b ≤ 9) : 0 ≤ a * b ∧ a * b ≤ 81 :=
  ⟨Int.mul_nonneg h1 h3, by have := Int.mul_le_mul h2 h4 h3 (by omega); omega⟩
theorem s_book_ledger_sized (s : SState) : Wq (F_book_ledger_sized s) fun b => b = true ↔ sizedP s := by
  unfold F_book_ledger_sized
  simp only [w_some, band_T, ile_T, ieq_T, sizedP]
  constructor
  · rintro ⟨⟨⟨⟨⟨⟨⟨a, b⟩, c⟩, d⟩, e⟩, f⟩, g⟩, h⟩
    have := mul_le64 (a := s.accounts) (b := s.symbols) (by omega) (by omega) (by omega) (by omega)
    rw [show imul s.accounts s.symbols = s.accounts * s.symbols from rfl, wr_small this.1 (by omega)] at e
    exact ⟨⟨a, b⟩, ⟨c, d⟩, e, f, g, by simp only [len] at h; omega⟩
  · rintro ⟨⟨a, b⟩, ⟨c, d⟩, e, f, g, h⟩
    have := mul_le64 (a := s.accounts) (b := s.symbols) (by omega) (by omega) (by omega) (by omega)
    rw [show imul s.accounts s.symbols = s.accounts * s.symbols from rfl, wr_small this.1 (by omega)]
    exact ⟨⟨⟨⟨⟨⟨⟨a, b⟩, c⟩, d⟩, e⟩, f⟩, g⟩, by simp only [len]; omega⟩
theorem sizedP.lens {s : SState} (hs : sizedP s) : s.cells.length ≤ 64 ∧ s.limits.length = s.cells.length ∧ s.caps.length = s.accounts.toNat ∧ s.orders.length ≤ 64 := by
  obtain ⟨⟨h1, h2⟩, ⟨h3, h4⟩, h5, h6, h7, h8⟩ := hs
  have m : s.accounts * s.symbols ≤ 8 * 8 := Int.mul_le_mul h2 h4 (by omega) (by omega)
  simp only [len] at h5 h6 h7
  exact ⟨by omega, by omega, by omega, h8⟩
/-- The place of an order's cell. -/
def atZ (n : Int) (o : SOrder) : Int := o.account * n + o.symbol
/-- A cell's place. -/
theorem s_cellOf {s : SState} (hs : sizedP s) (a y : Int) (ha : 0 ≤ a) (ha2 : a < s.accounts) (hy : 0 ≤ y) (hy2 : y < s.symbols) :
    ∃ k : Nat, F_book_ledger_cellOf s a y = some (k : Int) ∧ (k : Int) = a * s.symbols + y ∧ k < s.cells.length := by
  obtain ⟨⟨h1, h2⟩, ⟨h3, h4⟩, h5, _⟩ := hs
  have m := mul_le64 (a := a) (b := s.symbols) (by omega) (by omega) (by omega) (by omega)
  have l : (a + 1) * s.symbols ≤ s.accounts * s.symbols := Int.mul_le_mul_of_nonneg_right (by omega) (by omega)
  have e : (a + 1) * s.symbols = a * s.symbols + s.symbols := by rw [Int.add_mul, Int.one_mul]
  refine ⟨(a * s.symbols + y).toNat, ?_, by omega, by simp only [len] at h5; omega⟩
  unfold F_book_ledger_cellOf
  rw [show imul a s.symbols = a * s.symbols from rfl, wr_small m.1 (by omega), show iadd (a * s.symbols) y = a * s.symbols + y from rfl, wr_small (by omega) (by omega)]
  congr 1; omega
/-- An account's cells. -/
def acctZ (n : Int) (cs : List SCell) (a : Int) : List SCell := (cs.drop (a * n).toNat).take n.toNat
theorem e_account {s : SState} (hs : sizedP s) (a : Int) (ha : 0 ≤ a) (ha2 : a < s.accounts) :
    F_book_ledger_account s a = some (acctZ s.symbols s.cells a) := by
  obtain ⟨⟨h1, h2⟩, ⟨h3, h4⟩, h5, _⟩ := hs
  have m := mul_le64 (a := a) (b := s.symbols) (by omega) (by omega) (by omega) (by omega)
  have m2 := mul_le64 (a := a + 1) (b := s.symbols) (by omega) (by omega) (by omega) (by omega)
  have l : (a + 1) * s.symbols ≤ s.accounts * s.symbols := Int.mul_le_mul_of_nonneg_right (by omega) (by omega)
  have e : (a + 1) * s.symbols = a * s.symbols + s.symbols := by rw [Int.add_mul, Int.one_mul]
  unfold F_book_ledger_account
  rw [show imul a s.symbols = a * s.symbols from rfl, wr_small m.1 (by omega), show iadd a 1 = a + 1 from rfl, wr_small (n := a + 1) (by omega) (by omega),
    show imul (a + 1) s.symbols = (a + 1) * s.symbols from rfl, wr_small m2.1 (by omega)]
  rw [cnd_t (by simp only [band_T, ile_T]; omega)]
  rw [show isub ((a + 1) * s.symbols) (a * s.symbols) = s.symbols from by unfold isub; omega]
  rfl
theorem acctZ_mem {n : Int} {cs : List SCell} {a : Int} {c : SCell} (h : c ∈ acctZ n cs a) : c ∈ cs := List.mem_of_mem_drop (List.mem_of_mem_take h)
theorem acctZ_len {n : Int} {cs : List SCell} {a : Int} : (acctZ n cs a).length ≤ cs.length := by
  unfold acctZ; rw [List.length_take, List.length_drop]; omega
/-- What each order of a fine state is. -/
def orderIn (s : SState) (o : SOrder) : Prop := ordP o ∧ o.phase ≠ 3 ∧ o.account < s.accounts ∧ o.symbol < s.symbols
def ascP (l : List SOrder) : Prop := l.Pairwise fun a b => a.id < b.id
/-- Numbers, limits, caps and orders of a state. -/
structure FineP (s : SState) : Prop where
  ords : ∀ o ∈ s.orders, orderIn s o
  asc : ascP s.orders
  ids : ∀ o ∈ s.orders, o.id ≤ s.last
  last : 0 ≤ s.last ∧ s.last ≤ 1000000000000
  seq : 0 ≤ s.seq ∧ s.seq ≤ 1000000000
  lsn : 0 ≤ s.lsn ∧ s.lsn ≤ 1000000000
  lims : ∀ x ∈ s.limits, limP x
  caps : ∀ x ∈ s.caps, 0 ≤ x
theorem mem_take_succ {α : Type} {l : List α} {i : Nat} (h : i < l.length) {x : α} : x ∈ l.take (i + 1) ↔ x ∈ l.take i ∨ x = l[i] := by
  rw [List.take_succ_eq_append_getElem h, List.mem_append, List.mem_singleton]
theorem s_fine (s : SState) (hl : s.orders.length < 999999) (h2 : s.limits.length < 999999) (h3 : s.caps.length < 999999) (h0 : s.caps ≠ []) :
    Wq (F_book_ledger_fine s) fun b => b = true ↔ FineP s := by
  unfold F_book_ledger_fine
  refine Wq.bind (Q := fun w : Bool ⊕ (Int × Bool) => match w with
      | .inl b => b = false ∧ ¬ ((∀ o ∈ s.orders, orderIn s o) ∧ ascP s.orders)
      | .inr v => (∀ o ∈ s.orders, orderIn s o ∧ o.id ≤ v.1) ∧ ascP s.orders ∧ (v.1 = 0 ∨ ∃ o ∈ s.orders, o.id = v.1))
    (w_for (n := s.orders.length) (step := fun v : Int × Int × Bool => L_book_ledger_fine_58 (len s.orders) s.orders s v.fst v.snd.fst v.snd.snd) (by omega)
      (fun i v => (∀ o ∈ s.orders.take i, orderIn s o ∧ o.id ≤ v.1) ∧ ascP (s.orders.take i) ∧ (v.1 = 0 ∨ ∃ o ∈ s.orders.take i, o.id = v.1)) _ ?_ ?_ _ 0 (Nat.zero_le _) (by simp [ascP])) ?_
  · rintro i ⟨x, q⟩ hi ⟨g1, g2, g3⟩
    simp only at g1 g2 g3
    simp only [L_book_ledger_fine_58]
    rw [cnd_t (by rw [ilt_nat]; simpa using hi), cnd_t (inb _ i hi), lget_nat _ i hi, e_order_Right, ob_some]
    simp only [w_cnd, w_some, bor_T, bor_F, bnot_T, bnot_F, ieq_T, ieq_F, ile_T, ile_F, decide_eq_true_eq, decide_eq_false_iff_not]
    refine ⟨fun hb => ⟨trivial, fun ⟨a1, a2⟩ => ?_⟩, fun hc => ⟨wr_succ (by omega), fun o ho => ?_, ?_, .inr ⟨_, (mem_take_succ hi).2 (.inr rfl), rfl⟩⟩⟩
    · obtain ⟨b1, b2, b3, b4⟩ := a1 s.orders[i] (List.getElem_mem _)
      have hle : s.orders[i].id ≤ x := by
        rcases hb with (((hb | hb) | hb) | hb) | hb
        · exact absurd b1 hb
        · exact absurd hb b2
        · omega
        · omega
        · exact hb
      rcases g3 with g3 | ⟨o, ho, g3⟩
      · have := b1.1.1.1; omega
      · obtain ⟨j, hj, rfl⟩ := List.getElem_of_mem ho
        rw [List.length_take] at hj
        have := List.pairwise_iff_getElem.1 a2 j i (by omega) hi (by omega)
        rw [List.getElem_take] at g3
        omega
    · rcases (mem_take_succ hi).1 ho with ho | rfl
      · have := g1 o ho
        exact ⟨this.1, by have := this.2; omega⟩
      · exact ⟨⟨hc.1.1.1.1, hc.1.1.1.2, by omega, by omega⟩, Int.le_refl _⟩
    · rw [List.take_succ_eq_append_getElem hi]
      unfold ascP
      rw [List.pairwise_append]
      refine ⟨g2, by simp, fun a ha b hb => ?_⟩
      rw [List.mem_singleton] at hb
      subst hb
      have := (g1 a ha).2
      omega
  · rintro ⟨x, q⟩ hx
    simp only [L_book_ledger_fine_58]
    rw [cnd_f (by rw [ilt_nat]; simp), w_some]
    simp only [List.take_length] at hx
    exact hx
  · rintro w hw
    cases w with
    | inl b =>
      obtain ⟨rfl, hn⟩ := hw
      simp only [sumK, w_some]
      exact ⟨fun h => (by cases h), fun h => absurd ⟨h.ords, h.asc⟩ hn⟩
    | inr v =>
      obtain ⟨g1, g2, g3⟩ := hw
      have gl : v.1 ≤ s.last ∧ 0 ≤ s.last ↔ (∀ o ∈ s.orders, o.id ≤ s.last) ∧ 0 ≤ s.last := by
        constructor
        · rintro ⟨a, b⟩; exact ⟨fun o ho => by have := (g1 o ho).2; omega, b⟩
        · rintro ⟨a, b⟩
          refine ⟨?_, b⟩
          rcases g3 with g3 | ⟨o, ho, g3⟩
          · omega
          · have := a o ho; omega
      have hF : FineP s ↔ (v.1 ≤ s.last ∧ s.last ≤ 1000000000000 ∧ 0 ≤ s.seq ∧ s.seq ≤ 1000000000 ∧ 0 ≤ s.lsn ∧ s.lsn ≤ 1000000000) ∧ (∀ x ∈ s.limits, limP x) ∧ (∀ x ∈ s.caps, 0 ≤ x) ∧ 0 ≤ s.last := by
        constructor
        · intro h
          have := gl.2 ⟨h.ids, h.last.1⟩
          exact ⟨⟨this.1, h.last.2, h.seq.1, h.seq.2, h.lsn.1, h.lsn.2⟩, h.lims, h.caps, h.last.1⟩
        · rintro ⟨⟨a1, a2, a3, a4, a5, a6⟩, b, c, d⟩
          exact ⟨fun o ho => (g1 o ho).1, g2, (gl.1 ⟨a1, d⟩).1, ⟨d, a2⟩, ⟨a3, a4⟩, ⟨a5, a6⟩, b, c⟩
      rw [hF]
      obtain ⟨m, hm, hmq⟩ := s_slices_Min_int64 h3 h0
      simp only [sumK, hm, cnd_if, ob_if, ob_some]
      simp only [band_T, band_F, bor_T, bor_F, bnot_T, bnot_F, ilt_T, ilt_F, ile_T, ile_F, ieq_T, ieq_F, beq_T, beq_F]
      by_cases hA : v.1 ≤ s.last ∧ s.last ≤ 1000000000000 ∧ 0 ≤ s.seq ∧ s.seq ≤ 1000000000 ∧ 0 ≤ s.lsn ∧ s.lsn ≤ 1000000000
      · have hA' : ((((v.fst ≤ s.last ∧ s.last ≤ 1000000000000) ∧ 0 ≤ s.seq) ∧ s.seq ≤ 1000000000) ∧ 0 ≤ s.lsn) ∧ s.lsn ≤ 1000000000 := ⟨⟨⟨⟨⟨hA.1, hA.2.1⟩, hA.2.2.1⟩, hA.2.2.2.1⟩, hA.2.2.2.2.1⟩, hA.2.2.2.2.2⟩
        rw [if_pos hA']
        refine Wq.bind (Q := fun w : Int ⊕ Int => match w with | .inl k => 0 ≤ k ∧ ¬ ∀ x ∈ s.limits, limP x | .inr _ => ∀ x ∈ s.limits, limP x)
          (w_for (n := s.limits.length) (step := fun v : Int × Int => L_book_ledger_fine_26_slices_IndexFunc_api_Expo_c136_c142 (len s.limits) s.limits v.fst v.snd) (by omega) (fun i _ => ∀ x ∈ s.limits.take i, limP x) _ ?_ ?_ _ 0 (Nat.zero_le _) (by simp)) ?_
        · rintro i x hi hx
          simp only [L_book_ledger_fine_26_slices_IndexFunc_api_Expo_c136_c142]
          rw [cnd_t (by rw [ilt_nat]; simpa using hi), cnd_t (inb _ i hi), lget_nat _ i hi, e_limit_Right, ob_some]
          simp only [w_cnd, w_some, bnot_T, bnot_F, decide_eq_true_eq, decide_eq_false_iff_not]
          refine ⟨fun h => ⟨by omega, fun h2 => h (h2 _ (List.getElem_mem _))⟩, fun h => ⟨wr_succ (by omega), fun x hx' => ?_⟩⟩
          rcases (mem_take_succ hi).1 hx' with h5 | rfl
          · exact hx x h5
          · exact h
        · rintro x hx
          simp only [L_book_ledger_fine_26_slices_IndexFunc_api_Expo_c136_c142]
          rw [cnd_f (by rw [ilt_nat]; simp), w_some]
          rwa [List.take_length] at hx
        · rintro w hw
          cases w with
          | inl k =>
            obtain ⟨hk, hn⟩ := hw
            simp only
            rw [if_neg (fun h => by omega), w_some]
            simp only [band_T, band_F, bor_T, bor_F, bnot_T, bnot_F, ilt_T, ilt_F, ile_T, ile_F, ieq_T, ieq_F, beq_T, beq_F]
            constructor
            · rintro ⟨⟨⟨_, h⟩, _⟩, _⟩; omega
            · rintro ⟨_, h, _⟩; exact absurd h hn
          | inr k =>
            simp only
            rw [if_pos (.inl hA'), w_some]
            simp only [band_T, band_F, bor_T, bor_F, bnot_T, bnot_F, ilt_T, ilt_F, ile_T, ile_F, ieq_T, ieq_F, beq_T, beq_F]
            constructor
            · rintro ⟨⟨_, h1⟩, h2⟩; exact ⟨hA, hw, hmq.1 h1, h2⟩
            · rintro ⟨_, _, h1, h2⟩; exact ⟨⟨.inl hA', hmq.2 h1⟩, h2⟩
      · have hA' : ¬ (((((v.fst ≤ s.last ∧ s.last ≤ 1000000000000) ∧ 0 ≤ s.seq) ∧ s.seq ≤ 1000000000) ∧ 0 ≤ s.lsn) ∧ s.lsn ≤ 1000000000) := by omega
        rw [if_neg hA', if_neg (by simpa using hA'), w_some]
        simp only [band_T, band_F, bor_T, bor_F, bnot_T, bnot_F, ilt_T, ilt_F, ile_T, ile_F, ieq_T, ieq_F, beq_T, beq_F]
        constructor
        · rintro ⟨⟨h | h, _⟩, _⟩
          · exact absurd h hA'
          · cases h
        · rintro ⟨h, _⟩; exact absurd h hA
def cadd (a b : SCell) : SCell := ⟨a.pos + b.pos, a.buy + b.buy, a.sell + b.sell, a.opn + b.opn⟩
def zC : SCell := ⟨0, 0, 0, 0⟩
def wC (o : SOrder) : SCell := if o.side = 2 then ⟨0, 0, openZ o, worthZ o⟩ else ⟨0, openZ o, 0, worthZ o⟩
/-- What an order is in the cell of a place. -/
def inC (n i : Int) (o : SOrder) : SCell := if atZ n o = i then wC o else zC
def sumC (n i : Int) : List SOrder → SCell
  | [] => zC
  | o :: r => cadd (inC n i o) (sumC n i r)
theorem cell_ext {a b : SCell} (h1 : a.pos = b.pos) (h2 : a.buy = b.buy) (h3 : a.sell = b.sell) (h4 : a.opn = b.opn) : a = b := by
  cases a; cases b; simp_all
theorem cadd_z (a : SCell) : cadd a zC = a := by apply cell_ext <;> simp [cadd, zC]
theorem z_cadd (a : SCell) : cadd zC a = a := by apply cell_ext <;> simp [cadd, zC]
theorem cadd_assoc (a b c : SCell) : cadd (cadd a b) c = cadd a (cadd b c) := by apply cell_ext <;> simp only [cadd] <;> omega
theorem addC_eq (c : SCell) (o : SOrder) : addC c o = cadd c (wC o) := by unfold addC wC; split <;> simp [cadd]
theorem sumC_append (n i : Int) : ∀ (l m : List SOrder), sumC n i (l ++ m) = cadd (sumC n i l) (sumC n i m)
  | [], m => (z_cadd _).symm
  | o :: l, m => by
    rw [List.cons_append, sumC, sumC, sumC_append n i l m, cadd_assoc]
theorem sumC_one (n i : Int) (o : SOrder) : sumC n i [o] = inC n i o := cadd_z _
/-- Parts of a cell that are no less than nothing. -/
def nnC (c : SCell) : Prop := c.pos = 0 ∧ 0 ≤ c.buy ∧ 0 ≤ c.sell ∧ 0 ≤ c.opn
theorem wC_nn {o : SOrder} (h : ordP o) (hr : Ok_order o) : nnC (wC o) := by
  have := openZ_rng h hr
  have := worthZ_nn h
  unfold wC nnC; split <;> simp <;> omega
theorem inC_nn (n i : Int) {o : SOrder} (h : ordP o) (hr : Ok_order o) : nnC (inC n i o) := by
  unfold inC; split
  · exact wC_nn h hr
  · simp [nnC, zC]
theorem cadd_nn {a b : SCell} (h1 : nnC a) (h2 : nnC b) : nnC (cadd a b) := by
  unfold nnC cadd at *; simp only; omega
theorem sumC_nn (n i : Int) : ∀ {l : List SOrder}, (∀ o ∈ l, ordP o ∧ Ok_order o) → nnC (sumC n i l)
  | [], _ => by simp [sumC, nnC, zC]
  | o :: l, h => cadd_nn (inC_nn n i (h o (by simp)).1 (h o (by simp)).2) (sumC_nn n i fun x hx => h x (by simp [hx]))
/-- As far as numbers go. -/
def fitC (c : SCell) : Prop := c.buy ≤ 9223372036854775807 ∧ c.sell ≤ 9223372036854775807 ∧ c.opn ≤ 9223372036854775807
theorem okC_of_fit {c : SCell} (h : nnC c) (hf : fitC c) : okC c := by
  obtain ⟨h0, h1, h2, h3⟩ := h
  obtain ⟨f1, f2, f3⟩ := hf
  rw [okC_iff, h0]
  unfold inI
  omega
theorem fit_of_ok {c : SCell} (h : okC c) : fitC c := ⟨h.1.buy.2, h.1.sell.2, h.1.opn.2⟩
theorem fit_mono {a b : SCell} (hb : nnC b) (h : fitC (cadd a b)) : fitC a := by
  unfold fitC cadd nnC at *; simp only at *; omega
def fitAll (s : SState) : Prop := ∀ j : Nat, j < s.cells.length → fitC (sumC s.symbols j s.orders)
theorem lset_getI {α : Type} (l : List α) (k : Nat) (x : α) (j : Nat) (h : j < (lset l (itn (k : Int)) x).length) : (lset l (itn (k : Int)) x)[j] = if k = j then x else l[j]'(by simpa [lset] using h) := by
  simp [lset, itn, List.getElem_set]
theorem s_summed {s : SState} (hs : sizedP s) (hk : ∀ o ∈ s.orders, orderIn s o ∧ Ok_order o) :
    Wq (F_book_ledger_summed s) fun r => (r.2 = true ↔ fitAll s) ∧ (r.2 = true → r.1.length = s.cells.length ∧ ∀ (j : Nat) (h : j < r.1.length), r.1[j] = sumC s.symbols j s.orders) := by
  obtain ⟨hc, _, _, hol⟩ := hs.lens
  unfold F_book_ledger_summed
  rw [cnd_t (by simp only [band_T, ile_T, len]; omega)]
  refine Wq.bind (Q := fun w : (Bool × List SCell × List SCell) ⊕ (Bool × List SCell × List SCell) => match w with
      | .inl b => b.1 = false ∧ ¬ fitAll s
      | .inr b => b.2.2.length = s.cells.length ∧ ∀ (j : Nat) (h : j < b.2.2.length), b.2.2[j] = sumC s.symbols j s.orders ∧ fitC b.2.2[j])
    (w_for (n := s.orders.length) (step := fun v : Int × Bool × List SCell × List SCell => L_book_ledger_summed_58 (len s.orders) s.orders s v.fst v.snd.fst v.snd.snd.fst v.snd.snd.snd) (by omega)
      (fun i x => x.2.2.length = s.cells.length ∧ ∀ (j : Nat) (h : j < x.2.2.length), x.2.2[j] = sumC s.symbols j (s.orders.take i) ∧ fitC x.2.2[j]) _ ?_ ?_ _ 0 (Nat.zero_le _) ?_) ?_
  · rintro i ⟨q, x, y⟩ hi ⟨hx, hy⟩
    simp only at hx hy
    simp only [L_book_ledger_summed_58]
    have hmem := hk s.orders[i] (List.getElem_mem _)
    obtain ⟨⟨ho, ho3, g1, g2⟩, hor⟩ := id hmem
    obtain ⟨⟨_, hb1, hb2, _⟩, _⟩ := id ho
    obtain ⟨k, k1, k2, k3⟩ := s_cellOf hs s.orders[i].account s.orders[i].symbol hb1.1 g1 hb2.1 g2
    have hky : k < y.length := by omega
    have hnn : nnC y[k] := by
      rw [(hy k hky).1]
      exact sumC_nn _ _ fun o h => ⟨(hk o (List.mem_of_mem_take h)).1.1, (hk o (List.mem_of_mem_take h)).2⟩
    have hok : okC y[k] := okC_of_fit hnn (hy k hky).2
    have hnew : nnC (addC y[k] s.orders[i]) := by rw [addC_eq]; exact cadd_nn hnn (wC_nn ho hor)
    have hsum : ∀ j : Nat, sumC s.symbols j (s.orders.take (i + 1)) = cadd (sumC s.symbols j (s.orders.take i)) (inC s.symbols j s.orders[i]) := fun j => by
      rw [List.take_succ_eq_append_getElem hi, sumC_append, sumC_one]
    have hat : atZ s.symbols s.orders[i] = (k : Int) := k2.symm
    have hkk : addC y[k] s.orders[i] = sumC s.symbols k (s.orders.take (i + 1)) := by
      rw [hsum, addC_eq, (hy k hky).1]
      unfold inC; rw [if_pos hat]
    rw [cnd_t (by rw [ilt_nat]; simpa using hi), cnd_t (inb _ i hi), lget_nat _ i hi, k1, ob_some, cnd_t (inb y k hky), lget_nat y k hky, e_cell_Come hok ho hor, ob_some]
    by_cases hf : okC (addC y[k] s.orders[i])
    · rw [if_pos hf]
      simp only [ieq_00, bnot_true, cnd_false]
      rw [cnd_t (inb y k hky), w_some]
      refine ⟨wr_succ (by omega), (lset_len _ _ _).trans hx, fun j hj => ?_⟩
      have hj' : j < y.length := by simpa [lset] using hj
      show (lset y (itn (k : Int)) (addC y[k] s.orders[i]))[j]'hj = _ ∧ fitC ((lset y (itn (k : Int)) (addC y[k] s.orders[i]))[j]'hj)
      rw [lset_getI]
      split
      · rename_i e; subst e
        exact ⟨hkk, fit_of_ok hf⟩
      · rename_i e
        rw [hsum j]
        unfold inC
        rw [if_neg (by omega), cadd_z]
        exact hy j hj'
    · rw [if_neg hf]
      simp only [ieq_30, bnot_false, cnd_true]
      rw [w_some]
      refine ⟨rfl, fun hall => hf (okC_of_fit hnew ?_)⟩
      rw [hkk]
      have e : sumC s.symbols k s.orders = cadd (sumC s.symbols k (s.orders.take (i + 1))) (sumC s.symbols k (s.orders.drop (i + 1))) := by
        rw [← sumC_append, List.take_append_drop]
      have := hall k k3
      rw [e] at this
      exact fit_mono (sumC_nn _ _ fun o h => ⟨(hk o (List.mem_of_mem_drop h)).1.1, (hk o (List.mem_of_mem_drop h)).2⟩) this
  · rintro ⟨q, x, y⟩ hx
    simp only [L_book_ledger_summed_58]
    rw [cnd_f (by rw [ilt_nat]; simp), w_some]
    simp only [List.take_length] at hx
    exact hx
  · simp only [List.take_zero, sumC]
    refine ⟨by simp [lrep, itn, len], fun j hj => ?_⟩
    simp only [lrep, List.getElem_replicate]
    exact ⟨rfl, by simp only [fitC]; decide⟩
  · rintro w hw
    cases w with
    | inl b =>
      obtain ⟨h1, h2⟩ := hw
      simp only [sumK, w_some, h1]
      exact ⟨⟨fun h => (by cases h), fun h => absurd h h2⟩, fun h => by cases h⟩
    | inr b =>
      obtain ⟨h1, h2⟩ := hw
      simp only [sumK, w_some]
      refine ⟨⟨fun _ j hj => ?_, fun _ => trivial⟩, fun _ => ⟨h1, fun j hj => (h2 j hj).1⟩⟩
      have := h2 j (by omega)
      rw [← this.1]; exact this.2
/-- The cells that orders make, with what the accounts have. -/
def mkCells (s : SState) (l : List SOrder) : List SCell := s.cells.mapIdx fun i c => cadd ⟨c.pos, 0, 0, 0⟩ (sumC s.symbols i l)
theorem mkCells_len (s : SState) (l : List SOrder) : (mkCells s l).length = s.cells.length := by simp [mkCells]
theorem mkCells_get (s : SState) (l : List SOrder) (i : Nat) (h : i < (mkCells s l).length) : (mkCells s l)[i] = cadd ⟨(s.cells[i]'(by simpa [mkCells] using h)).pos, 0, 0, 0⟩ (sumC s.symbols i l) := by
  simp [mkCells]
/-- Is what is open of each account together a number? -/
def acctOk (n m : Int) (cs : List SCell) : Prop := ∀ a : Int, 0 ≤ a → a < n → wholeZ (acctZ m cs a) ≤ 9223372036854775807
/-- A right state. -/
structure RightS (s : SState) : Prop where
  sized : sizedP s
  fine : FineP s
  cells : s.cells = mkCells s s.orders
  ok : ∀ c ∈ s.cells, okC c
  acct : acctOk s.accounts s.symbols s.cells
theorem s_book_Right (s : SState) (hr : Ok_state s) (hl : s.orders.length < 999999) (h2 : s.limits.length < 999999) (h3 : s.caps.length < 999999) :
    Wq (F_book_Right s) fun b => b = true ↔ RightS s := by
  unfold F_book_Right F_book_ledger_right
  rw [w_bind]
  refine Wq.bind (s_book_ledger_sized s) fun z hz => ?_
  refine Wq.bind (Q := fun b => b = true ↔ (z = true ∧ FineP s)) ?_ ?_
  · rw [w_cnd]
    refine ⟨fun h => ?_, fun h => (w_some _).2 ?_⟩
    · simp only [bnot_T, bnot_F] at h
      have hs : sizedP s := hz.1 h
      refine (s_fine s hl h2 h3 ?_).mono fun b hb => by rw [hb]; simp [h]
      intro e
      have := hs.2.2.2.2.1
      have := hs.1.1
      simp [e, len] at *
      omega
    · simp only [bnot_T, bnot_F] at h
      simp [h]
  · intro f hf
    rw [w_cnd]
    refine ⟨fun h => (w_some _).2 ((w_some _).2 ?_), fun h => ?_⟩
    · simp only [bor_T, bnot_T] at h
      refine ⟨fun h => (by cases h), fun hr => ?_⟩
      have e1 := hz.2 hr.sized
      have e2 := hf.2 ⟨e1, hr.fine⟩
      rw [e1, e2] at h
      simp at h
    · simp only [bor_F, bnot_F] at h
      have hs := hz.1 h.1
      have hfn := (hf.1 h.2).2
      obtain ⟨hc, hlim, hcap, hol⟩ := hs.lens
      have hall : ∀ o ∈ s.orders, orderIn s o ∧ Ok_order o := fun o ho => ⟨hfn.ords o ho, hr.orders.1 o ho⟩
      have hokc : ∀ c ∈ s.cells, Ok_cell c := hr.cells.1
      refine Wq.bind (s_summed hs hall) fun y hy => ?_
      obtain ⟨hy1, hy2⟩ := hy
      rw [w_cnd]
      refine ⟨fun h5 => (w_some _).2 ((w_some _).2 ?_), fun h5 => ?_⟩
      · rw [bnot_T] at h5
        refine ⟨fun h => (by cases h), fun hR => ?_⟩
        have : y.2 = true := hy1.2 fun j hj => by
          have e := hR.ok s.cells[j] (List.getElem_mem _)
          have e2 : s.cells[j] = cadd ⟨s.cells[j].pos, 0, 0, 0⟩ (sumC s.symbols j s.orders) := by
            have := mkCells_get s s.orders j (by rw [mkCells_len]; exact hj)
            rw [← this]
            congr 1
            exact hR.cells
          have e3 := fit_of_ok e
          rw [e2] at e3
          unfold fitC cadd at e3
          simpa [fitC] using e3
        rw [this] at h5; cases h5
      · rw [bnot_F] at h5
        obtain ⟨hyl, hyg⟩ := hy2 h5
        refine Wq.bind (Q := fun w : (Bool × List SCell) ⊕ (Bool × List SCell) => match w with
            | .inl b => b.1 = false ∧ ¬ ((∀ c ∈ s.cells, okC c) ∧ s.cells = mkCells s s.orders)
            | .inr _ => (∀ c ∈ s.cells, okC c) ∧ s.cells = mkCells s s.orders)
          (w_for (n := s.cells.length) (step := fun v : Int × Bool × List SCell => L_book_ledger_right_250 (len s.cells) s.cells v.fst v.snd.fst v.snd.snd) (by omega)
          (fun i x => x.2.length = s.cells.length ∧ (∀ (j : Nat) (h : j < x.2.length), i ≤ j → x.2[j] = sumC s.symbols j s.orders) ∧ ∀ (j : Nat) (h : j < s.cells.length), j < i → okC s.cells[j] ∧ s.cells[j] = cadd ⟨s.cells[j].pos, 0, 0, 0⟩ (sumC s.symbols j s.orders)) _ ?_ ?_ _ 0 (Nat.zero_le _)
          ⟨hyl, fun j hj _ => hyg j hj, fun j _ h => by omega⟩) ?_
        · rintro i ⟨q, x⟩ hi ⟨hx, hxj, hxd⟩
          simp only at hx hxj hxd
          simp only [L_book_ledger_right_250]
          have hix : i < x.length := by omega
          rw [cnd_t (by rw [ilt_nat]; simpa using hi), cnd_t (inb _ i hi), cnd_t (inb x i hix), lget_nat _ i hi, lget_nat x i hix, e_cell_Right (hokc _ (List.getElem_mem _)), ob_some]
          have hil : i < (lset x (itn (i : Int)) (SCell.mk s.cells[i].pos x[i].buy x[i].sell x[i].opn)).length := by rw [lset_len]; exact hix
          rw [cnd_t (by rw [bor_T]; exact .inl (inb _ i hil)), lget_nat _ i hil]
          have hg : (lset x (itn (i : Int)) (SCell.mk s.cells[i].pos x[i].buy x[i].sell x[i].opn))[i] = SCell.mk s.cells[i].pos x[i].buy x[i].sell x[i].opn := by
            simp [lset, itn]
          rw [hg]
          have hxi := hxj i hix (Nat.le_refl _)
          have hq : cadd ⟨s.cells[i].pos, 0, 0, 0⟩ (sumC s.symbols i s.orders) = SCell.mk s.cells[i].pos x[i].buy x[i].sell x[i].opn := by
            rw [← hxi]
            have hp : x[i].pos = 0 := by rw [hxi]; exact (sumC_nn _ _ fun o h => ⟨(hall o h).1.1, (hall o h).2⟩).1
            apply cell_ext <;> simp only [cadd] <;> omega
          simp only [w_cnd, w_some, band_T, band_F, bor_T, bor_F, bnot_T, bnot_F, ilt_T, ilt_F, ile_T, ile_F, ieq_T, ieq_F, beq_T, beq_F]
          constructor
          · intro hb
            refine ⟨trivial, fun ⟨a1, a2⟩ => ?_⟩
            have b1 := a1 s.cells[i] (List.getElem_mem _)
            have b2 : s.cells[i] = cadd ⟨s.cells[i].pos, 0, 0, 0⟩ (sumC s.symbols i s.orders) := by
              have := mkCells_get s s.orders i (by rw [mkCells_len]; exact hi)
              rw [← this]; congr 1
            rw [hq] at b2
            rcases hb with hb | hb
            · exact absurd b1 (by simpa using hb)
            · have c2 := congrArg SCell.buy b2; have c3 := congrArg SCell.sell b2; have c4 := congrArg SCell.opn b2
              simp only at c2 c3 c4
              rcases hb with hb | hb | hb | hb
              · exact hb rfl
              · exact hb c2.symm
              · exact hb c3.symm
              · exact hb c4.symm
          · intro hb
            obtain ⟨b1, _, b2, b3, b4⟩ := hb
            refine ⟨wr_succ (by omega), (lset_len _ _ _).trans hx, fun j hj hij => ?_, fun j hj hji => ?_⟩
            · rw [lset_getI, if_neg (by omega)]
              exact hxj j (by simpa [lset] using hj) (by omega)
            · by_cases e : j = i
              · subst e
                refine ⟨by simpa using b1, ?_⟩
                rw [hq]
                exact cell_ext rfl b2.symm b3.symm b4.symm
              · exact hxd j hj (by omega)
        · rintro ⟨q, x⟩ ⟨hx, _, hxd⟩
          simp only [L_book_ledger_right_250]
          rw [cnd_f (by rw [ilt_nat]; simp), w_some]
          refine ⟨fun c hc => ?_, ?_⟩
          · obtain ⟨j, hj, rfl⟩ := List.getElem_of_mem hc
            exact (hxd j hj hj).1
          · refine List.ext_getElem (mkCells_len _ _).symm fun j h1 h2 => ?_
            rw [mkCells_get]
            exact (hxd j h1 h1).2
        · rintro w hw
          cases w with
          | inl b =>
            obtain ⟨h1, h2⟩ := hw
            simp only [sumK, w_some, h1]
            exact ⟨fun h => (by cases h), fun hR => absurd ⟨hR.ok, hR.cells⟩ h2⟩
          | inr b =>
            obtain ⟨hok, hcs⟩ := hw
            simp only [sumK]
            rw [w_bind]
            have hacc : ∀ a : Int, ∀ c ∈ acctZ s.symbols s.cells a, 0 ≤ c.opn ∧ inI c.opn := fun a c hc => by
              have := hok c (acctZ_mem hc)
              exact ⟨this.2.1.2.2, this.1.opn⟩
            refine Wq.mono (Q := fun w : Bool ⊕ Bool => match w with | .inl b => b = false ∧ ¬ acctOk s.accounts s.symbols s.cells | .inr _ => acctOk s.accounts s.symbols s.cells)
              (w_for (n := s.accounts.toNat) (step := fun v : Int × Bool => L_book_ledger_right_506 s.accounts s v.fst v.snd) (by have := hs.1.2; omega)
              (fun i x => ∀ a : Int, 0 ≤ a → a < i → wholeZ (acctZ s.symbols s.cells a) ≤ 9223372036854775807) _ ?_ ?_ _ 0 (Nat.zero_le _) (fun a h1 h2 => by omega)) ?_
            · rintro i q hi hx
              have hia : (i : Int) < s.accounts := by omega
              simp only [L_book_ledger_right_506]
              rw [cnd_t (ilt_t hia), e_account hs i (by omega) hia, ob_some, e_limit_Whole (by have := acctZ_len (n := s.symbols) (cs := s.cells) (a := (i : Int)); omega) (hacc i), ob_some]
              by_cases hw : wholeZ (acctZ s.symbols s.cells i) ≤ 9223372036854775807
              · rw [if_pos hw]
                simp only [ieq_00, bnot_true, cnd_false, w_some]
                refine ⟨wr_succ (by omega), fun a h1 h2 => ?_⟩
                by_cases e : a = i
                · subst e; exact hw
                · exact hx a h1 (by omega)
              · rw [if_neg hw]
                simp only [ieq_30, bnot_false, cnd_true, w_some]
                exact ⟨trivial, fun h => hw (h i (by omega) hia)⟩
            · rintro q hx
              simp only [L_book_ledger_right_506]
              rw [cnd_f (ilt_f (by omega)), w_some]
              exact fun a h1 h2 => hx a h1 (by omega)
            · rintro w hw
              cases w with
              | inl b =>
                obtain ⟨rfl, h2⟩ := hw
                simp only [w_some]
                exact ⟨fun h => (by cases h), fun hR => absurd hR.acct h2⟩
              | inr b =>
                simp only [w_some]
                exact ⟨fun _ => ⟨hs, hfn, hcs, hok, hw⟩, fun _ => trivial⟩
def noteR (n : SNote) : SRec := ⟨6, n.order, 0, 0, 0, n.qty, n.price, 0, 0, 0, false, n.seq, n.what⟩
def withS (s : SState) (l : List SOrder) : SState := ⟨s.accounts, s.symbols, l, mkCells s l, s.limits, s.caps, s.kill, s.last, s.seq, s.lsn⟩
def fitS (s : SState) : Prop := (∀ c ∈ s.cells, okC c) ∧ acctOk s.accounts s.symbols s.cells
theorem inC_at {n : Int} {o : SOrder} {k : Nat} (h : atZ n o = (k : Int)) : inC n k o = wC o := by unfold inC; rw [if_pos h]
theorem acct_nn {n : Int} {cs : List SCell} (h : ∀ c ∈ cs, okC c) (a : Int) : ∀ c ∈ acctZ n cs a, 0 ≤ c.opn ∧ inI c.opn := fun c hc => by
  have := h c (acctZ_mem hc)
  exact ⟨this.2.1.2.2, this.1.opn⟩
theorem worthZ_ne {o : SOrder} (h : o.phase ≠ 3) : worthZ o = if o.newQty ≤ o.filled then (o.qty - o.filled) * o.price else max ((o.qty - o.filled) * o.price) ((o.newQty - o.filled) * o.newPrice) := by unfold worthZ; rw [if_neg h]
theorem clone_Order {l : List SOrder} (h : l.length < 1000000) : F_slices_Clone_api_Order l = some l := nilq_clone h
theorem w_same {α : Type} {l m : List α} (hlen : l.length = m.length) (hn : l.length < 999999) {step : Int × Bool → Option ((Int × Bool) ⊕ (Bool ⊕ Bool))}
    (hstep : ∀ (i : Nat) (h : i < l.length) (h2 : i < m.length) (q : Bool), Wq (step ((i : Int), q)) fun r => (l[i] = m[i] → r = .inl (((i + 1 : Nat) : Int), q)) ∧ (l[i] ≠ m[i] → r = .inr (.inl false)))
    (hend : ∀ q, step ((l.length : Int), q) = some (.inr (.inr q))) (q : Bool) : Wq (iterN step LF (0, q)) fun w => match w with | .inl b => b = false ∧ l ≠ m | .inr b => l = m := by
  refine w_for (n := l.length) hn (fun i _ => ∀ (j : Nat) (h : j < l.length) (h2 : j < m.length), j < i → l[j] = m[j]) _ (fun i x hi hx => ?_) (fun x hx => ?_) _ 0 (Nat.zero_le _) (fun j _ _ h => by omega)
  · have hi2 : i < m.length := by omega
    refine (hstep i hi hi2 x).mono fun r hr => ?_
    by_cases e : l[i] = m[i]
    · rw [hr.1 e]
      refine ⟨rfl, fun j h h2 hj => ?_⟩
      by_cases ej : j = i
      · subst ej; exact e
      · exact hx j h h2 (by omega)
    · rw [hr.2 e]
      refine ⟨rfl, fun h => e ?_⟩
      subst h; rfl
  · rw [hend x]
    exact (w_some _).2 (List.ext_getElem hlen fun j h h2 => hx j h h2 h)
theorem cell_ext' (a b : SCell) : (a.pos = b.pos ∧ a.buy = b.buy ∧ a.sell = b.sell ∧ a.opn = b.opn) ↔ a = b := by
  cases a; cases b; simp
/-- A state whose lists are short. -/
def shortP (s : SState) : Prop := s.orders.length < 999999 ∧ s.cells.length < 999999 ∧ s.limits.length < 999999 ∧ s.caps.length < 999999
theorem s_short (s : SState) : Wq (F_snaffleref10_Short s) fun b => b = true → shortP s := by
  unfold F_snaffleref10_Short shortP
  simp only [w_some, band_T, band_F, bor_T, bor_F, bnot_T, bnot_F, ilt_T, ilt_F, ile_T, ile_F, ieq_T, ieq_F, beq_T, beq_F, len]
  omega
def covX (a b : SExpo) : Prop := b.long ≤ a.long ∧ b.short ≤ a.short ∧ b.opn ≤ a.opn
instance (a b : SExpo) : Decidable (covX a b) := by unfold covX; infer_instance
theorem e_cell_Covers (a b : SExpo) : F_cell_Covers a b = some (decide (covX a b)) := by
  refine Wq.dec ?_
  unfold F_cell_Covers covX
  simp only [w_some, band_T, band_F, bor_T, bor_F, bnot_T, bnot_F, ilt_T, ilt_F, ile_T, ile_F, ieq_T, ieq_F, beq_T, beq_F]
  grind
theorem e_book_Place {s : SState} (hs : sizedP s) {a y : Int} (ha : 0 ≤ a) (ha2 : a < s.accounts) (hy : 0 ≤ y) (hy2 : y < s.symbols) : F_book_Place s a y = some (a * s.symbols + y) := by
  obtain ⟨k, g1, g2, _⟩ := s_cellOf hs a y ha ha2 hy hy2
  unfold F_book_Place
  rw [cnd_f (by simp only [band_T, band_F, bor_T, bor_F, bnot_T, bnot_F, ilt_T, ilt_F, ile_T, ile_F, ieq_T, ieq_F, beq_T, beq_F]; omega), g1, ob_some, g2]
theorem r_Add {a b : Int} (ha : inI a) (hb : inI b) : F_snaffleref01_Add a b = some (if inI (a + b) then (a + b, true) else (0, false)) := by
  unfold inI at ha hb
  unfold F_snaffleref01_Add isub iadd
  rw [cnd_if]
  simp only [band_T, band_F, bor_T, bor_F, bnot_T, bnot_F, ilt_T, ilt_F, ile_T, ile_F, ieq_T, ieq_F, beq_T, beq_F]
  by_cases h : inI (a + b)
  · rw [if_pos h, wr_in h]
    unfold inI at h
    rw [if_neg]
    rintro (⟨h1, h2⟩ | ⟨h1, h2⟩)
    · rw [wr_in ⟨by omega, by omega⟩] at h2; omega
    · rw [wr_in ⟨by omega, by omega⟩] at h2; omega
  · rw [if_neg h]
    unfold inI at h
    rw [if_pos]
    by_cases hp : 0 < b
    · exact .inl ⟨hp, by rw [wr_in ⟨by omega, by omega⟩]; omega⟩
    · exact .inr ⟨by omega, by rw [wr_in ⟨by omega, by omega⟩]; omega⟩
theorem r_Sub {a b : Int} (ha : inI a) (hb : inI b) : F_snaffleref01_Sub a b = some (if inI (a - b) then (a - b, true) else (0, false)) := by
  unfold inI at ha hb
  unfold F_snaffleref01_Sub isub iadd
  rw [cnd_if]
  simp only [band_T, band_F, bor_T, bor_F, bnot_T, bnot_F, ilt_T, ilt_F, ile_T, ile_F, ieq_T, ieq_F, beq_T, beq_F]
  by_cases h : inI (a - b)
  · rw [if_pos h, wr_in h]
    unfold inI at h
    rw [if_neg]
    rintro (⟨h1, h2⟩ | ⟨h1, h2⟩)
    · rw [wr_in ⟨by omega, by omega⟩] at h2; omega
    · rw [wr_in ⟨by omega, by omega⟩] at h2; omega
  · rw [if_neg h]
    unfold inI at h
    rw [if_pos]
    by_cases hp : 0 < b
    · exact .inr ⟨hp, by rw [wr_in ⟨by omega, by omega⟩]; omega⟩
    · exact .inl ⟨by omega, by rw [wr_in ⟨by omega, by omega⟩]; omega⟩
theorem r_whole {a : Int} (ha : inI a) : F_snaffleref01_whole a = some (a.natAbs : Int) := by
  unfold inI at ha
  unfold F_snaffleref01_whole isub iadd
  rw [c_ilt]
  split
  · rw [wr_in (n := a + 1) ⟨by omega, by omega⟩, wr_in (n := 0 - (a + 1)) ⟨by omega, by omega⟩, wr_u64, wr_u64]
    congr 1; omega
  · rw [wr_u64]; congr 1; omega
theorem r_Mul {a b : Int} (ha : inI a) (hb : inI b) : Wq (F_snaffleref01_Mul a b) fun r => (r.2 = true ↔ inI (a * b)) ∧ (r.2 = true → r.1 = a * b) := by
  unfold F_snaffleref01_Mul
  rw [r_whole ha, r_whole hb, ob_some, ob_some]
  have hm : (a.natAbs : Int) * (b.natAbs : Int) = ((a * b).natAbs : Int) := by rw [Int.natAbs_mul]; rfl
  have hs : ((a < 0 ↔ b < 0) → 0 ≤ a * b) ∧ (¬ (a < 0 ↔ b < 0) → a * b ≤ 0) := by
    constructor
    · intro h
      by_cases h1 : a < 0
      · exact Int.mul_nonneg_of_nonpos_of_nonpos (by omega) (by have := h.1 h1; omega)
      · exact Int.mul_nonneg (by omega) (by have : ¬ b < 0 := fun h2 => h1 (h.2 h2); omega)
    · intro h
      by_cases h1 : a < 0
      · exact Int.mul_nonpos_of_nonpos_of_nonneg (by omega) (by have : ¬ b < 0 := fun h2 => h ⟨fun _ => h2, fun _ => h1⟩; omega)
      · exact Int.mul_nonpos_of_nonneg_of_nonpos (by omega) (by have : b < 0 := by { by_cases h2 : b < 0; exact h2; exact absurd ⟨fun h => absurd h h1, fun h => absurd h h2⟩ h }; omega)
  unfold inI at ha hb
  obtain ⟨A, B, e1, A1, A2, B1, B2, s1, s2⟩ := half (a.natAbs : Int) (by omega) (by omega)
  obtain ⟨C, D, e2, C1, C2, D1, D2, t1, t2⟩ := half (b.natAbs : Int) (by omega) (by omega)
  rw [s1, s2, t1, t2]
  have m2 : 0 ≤ A * D ∧ A * D ≤ 4294967295 * 4294967295 := ⟨Int.mul_nonneg A1 D1, Int.mul_le_mul (by omega) (by omega) D1 (by omega)⟩
  have m3 : 0 ≤ B * C ∧ B * C ≤ 4294967295 * 4294967295 := ⟨Int.mul_nonneg B1 C1, Int.mul_le_mul (by omega) (by omega) C1 (by omega)⟩
  have m4 : 0 ≤ B * D ∧ B * D ≤ 4294967295 * 4294967295 := ⟨Int.mul_nonneg B1 D1, Int.mul_le_mul (by omega) (by omega) D1 (by omega)⟩
  have mm : ((a * b).natAbs : Int) = A * C * 18446744073709551616 + (A * D + B * C) * 4294967296 + B * D := by
    rw [← hm, e1, e2]
    simp only [Int.add_mul, Int.mul_add]
    have q1 : A * 4294967296 * (C * 4294967296) = A * C * 18446744073709551616 := by
      rw [Int.mul_assoc, Int.mul_left_comm 4294967296, ← Int.mul_assoc, ← Int.mul_assoc]; omega
    have q2 : A * 4294967296 * D = A * D * 4294967296 := by rw [Int.mul_assoc, Int.mul_comm 4294967296, ← Int.mul_assoc]
    have q3 : B * (C * 4294967296) = B * C * 4294967296 := by rw [← Int.mul_assoc]
    rw [q1, q2, q3]; omega
  have mac : 0 ≤ A * C ∧ (0 < A → 0 < C → 1 ≤ A * C) := ⟨Int.mul_nonneg A1 C1, fun h1 h2 => Int.mul_pos h1 h2⟩
  have mz : (A = 0 → A * C = 0 ∧ A * D = 0) ∧ (C = 0 → A * C = 0 ∧ B * C = 0) := ⟨fun h => by subst h; simp, fun h => by subst h; simp⟩
  unfold imul iadd isub ishl
  have e32 : min (Int.toNat 32) (IntKind.bits .u64) = 32 := by decide
  simp only [e32]
  generalize A * C = p at *
  generalize A * D = q at *
  generalize B * C = r at *
  generalize B * D = t at *
  generalize a * b = w at *
  simp only [wr_u64]
  by_cases c1 : 0 < A ∧ 0 < C
  · rw [cnd_t (by simp only [band_T, band_F, bor_T, bor_F, bnot_T, bnot_F, ilt_T, ilt_F, ile_T, ile_F, ieq_T, ieq_F, beq_T, beq_F]; exact c1), w_some]
    have := mac.2 c1.1 c1.2
    unfold inI
    simp only [Bool.false_eq_true, false_iff, false_implies, and_true]
    omega
  · rw [cnd_f (by simp only [band_T, band_F, bor_T, bor_F, bnot_T, bnot_F, ilt_T, ilt_F, ile_T, ile_F, ieq_T, ieq_F, beq_T, beq_F]; omega)]
    have hac : p = 0 ∧ (q = 0 ∨ r = 0) := by
      by_cases h : A = 0
      · exact ⟨(mz.1 h).1, .inl (mz.1 h).2⟩
      · have hC : C = 0 := by omega
        exact ⟨(mz.2 hC).1, .inr (mz.2 hC).2⟩
    rw [Int.emod_eq_of_lt (a := q) m2.1 (by omega), Int.emod_eq_of_lt (a := r) m3.1 (by omega), Int.emod_eq_of_lt (a := t) m4.1 (by omega), Int.emod_eq_of_lt (a := q + r) (by omega) (by omega)]
    rw [c_ile]
    by_cases c2 : 4294967296 ≤ q + r
    · rw [if_pos c2, w_some]
      unfold inI
      simp only [Bool.false_eq_true, false_iff, false_implies, and_true]
      omega
    · rw [if_neg c2, w_cnd]
      have hw : ((w.natAbs : Nat) : Int) = (q + r) * 4294967296 + t := by omega
      have hsh : ((q + r) * 2 ^ 32) % 18446744073709551616 = (q + r) * 4294967296 := by
        rw [show (2 : Int) ^ 32 = 4294967296 by decide]; exact Int.emod_eq_of_lt (by omega) (by omega)
      rw [hsh]
      refine ⟨fun h => (w_some _).2 ?_, fun h => ?_⟩
      · simp only [band_T, band_F, bor_T, bor_F, bnot_T, bnot_F, ilt_T, ilt_F, ile_T, ile_F, ieq_T, ieq_F, beq_T, beq_F] at h
        unfold inI
        simp only [Bool.false_eq_true, false_iff, false_implies, and_true]
        omega
      · simp only [band_T, band_F, bor_T, bor_F, bnot_T, bnot_F, ilt_T, ilt_F, ile_T, ile_F, ieq_T, ieq_F, beq_T, beq_F] at h
        have hlt : (q + r) * 4294967296 + t < 18446744073709551616 := by omega
        rw [Int.emod_eq_of_lt (a := (q + r) * 4294967296 + t) (by omega) hlt] at h ⊢
        rw [← hw] at h ⊢
        rw [w_cnd]
        refine ⟨fun h5 => (w_some _).2 ?_, fun h5 => (w_some _).2 ?_⟩
        · have h6 : ¬ (a < 0 ↔ b < 0) := fun h7 => by
            rw [bnot_T, beq_F] at h5
            exact h5 (decide_eq_decide.2 h7)
          have := hs.2 h6
          have e : wr .i64 ((0 - ((w.natAbs : Nat) : Int)) % 18446744073709551616) = w := by
            rcases wr_two (n := (0 - ((w.natAbs : Nat) : Int)) % 18446744073709551616) (by omega) (by omega) with ⟨g, e⟩ | ⟨g, e⟩ | ⟨g, e⟩ <;> rw [e] <;> (try unfold inI at g) <;> omega
          simp only [e, true_iff, implies_true, and_true]
          unfold inI; omega
        · have h6 : (a < 0 ↔ b < 0) := by
            rw [bnot_F, beq_T] at h5
            exact decide_eq_decide.1 h5
          have := hs.1 h6
          simp only [ilt_T]
          unfold inI
          refine ⟨by omega, fun h7 => ?_⟩
          rw [wr_in ⟨by omega, by omega⟩]; omega
theorem r_rec_Right (r : SRec) : Wq (F_snaffleref06_Right r) fun b => b = true ↔ recP r := by
  unfold F_snaffleref06_Right F_snaffleref06_id
  by_cases k1 : r.kind = 1
  · have e1 : ieq r.kind 1 = true := by rw [ieq_T]; exact k1
    simp only [e1, cnd_true, ob_some]
    simp only [w_bind, w_cnd, w_some, band_T, band_F, bor_T, bor_F, bnot_T, bnot_F, ilt_T, ilt_F, ile_T, ile_F, ieq_T, ieq_F, beq_T, beq_F, true_implies, ne_eq, not_true_eq_false, false_implies, and_true, true_and, or_self, reduceCtorEq, recP, knownP]; grind
  have e1 : ieq r.kind 1 = false := by rw [ieq_F]; exact k1
  by_cases k2 : r.kind = 2
  · have e2 : ieq r.kind 2 = true := by rw [ieq_T]; exact k2
    simp only [e1, e2, cnd_true, cnd_false, ob_some]
    simp only [w_bind, w_cnd, w_some, band_T, band_F, bor_T, bor_F, bnot_T, bnot_F, ilt_T, ilt_F, ile_T, ile_F, ieq_T, ieq_F, beq_T, beq_F, true_implies, ne_eq, not_true_eq_false, false_implies, and_true, true_and, or_self, reduceCtorEq, recP, knownP]; grind
  have e2 : ieq r.kind 2 = false := by rw [ieq_F]; exact k2
  by_cases k3 : r.kind = 3
  · have e3 : ieq r.kind 3 = true := by rw [ieq_T]; exact k3
    simp only [e1, e2, e3, cnd_true, cnd_false, ob_some]
    have hrec : recP r ↔ (knownP r.order ∧ r.account = 0 ∧ r.symbol = 0 ∧ r.side = 0 ∧ r.qty = 0 ∧ r.price = 0 ∧ r.long = 0 ∧ r.short = 0 ∧ r.opn = 0 ∧ r.on = false ∧ r.seq = 0 ∧ r.what = 0) := by
      unfold recP
      constructor
      · rintro (h | h | h | h | h | h)
        · omega
        · omega
        · exact h.2
        · omega
        · omega
        · omega
      · exact fun h => .inr (.inr (.inl ⟨k3, h⟩))
    rw [hrec]
    simp only [w_bind, w_cnd, w_some, band_T, band_F, bor_T, bor_F, bnot_T, bnot_F, ilt_T, ilt_F, ile_T, ile_F, ieq_T, ieq_F, beq_T, beq_F, true_implies, ne_eq, not_true_eq_false, false_implies, and_true, true_and, or_self, reduceCtorEq, knownP]; grind
  have e3 : ieq r.kind 3 = false := by rw [ieq_F]; exact k3
  by_cases k4 : r.kind = 4
  · have e4 : ieq r.kind 4 = true := by rw [ieq_T]; exact k4
    simp only [e1, e2, e3, e4, cnd_true, cnd_false, ob_some]
    simp only [w_bind, w_cnd, w_some, band_T, band_F, bor_T, bor_F, bnot_T, bnot_F, ilt_T, ilt_F, ile_T, ile_F, ieq_T, ieq_F, beq_T, beq_F, true_implies, ne_eq, not_true_eq_false, false_implies, and_true, true_and, or_self, reduceCtorEq, recP, knownP]; grind
  have e4 : ieq r.kind 4 = false := by rw [ieq_F]; exact k4
  by_cases k5 : r.kind = 5
  · have e5 : ieq r.kind 5 = true := by rw [ieq_T]; exact k5
    simp only [e1, e2, e3, e4, e5, cnd_true, cnd_false, ob_some]
    have hrec : recP r ↔ (r.order = 0 ∧ r.account = 0 ∧ r.symbol = 0 ∧ r.side = 0 ∧ r.qty = 0 ∧ r.price = 0 ∧ r.long = 0 ∧ r.short = 0 ∧ r.opn = 0 ∧ r.seq = 0 ∧ r.what = 0) := by
      unfold recP
      constructor
      · rintro (h | h | h | h | h | h)
        · omega
        · omega
        · omega
        · omega
        · exact h.2
        · omega
      · exact fun h => .inr (.inr (.inr (.inr (.inl ⟨k5, h⟩))))
    rw [hrec]
    simp only [w_bind, w_cnd, w_some, band_T, band_F, bor_T, bor_F, bnot_T, bnot_F, ilt_T, ilt_F, ile_T, ile_F, ieq_T, ieq_F, beq_T, beq_F, true_implies, ne_eq, not_true_eq_false, false_implies, and_true, true_and, or_self, reduceCtorEq, knownP]
  have e5 : ieq r.kind 5 = false := by rw [ieq_F]; exact k5
  by_cases k6 : r.kind = 6
  · have e6 : ieq r.kind 6 = true := by rw [ieq_T]; exact k6
    simp only [e1, e2, e3, e4, e5, e6, cnd_true, cnd_false]
    have hrec : recP r ↔ (knownP r.order ∧ r.account = 0 ∧ r.symbol = 0 ∧ r.side = 0 ∧ r.long = 0 ∧ r.short = 0 ∧ r.opn = 0 ∧ r.on = false ∧ (1 ≤ r.seq ∧ r.seq ≤ 1000000000) ∧
      ((r.what = 3 ∧ 1 ≤ r.qty ∧ r.price = 0) ∨ (r.what = 5 ∧ 1 ≤ r.qty ∧ 1 ≤ r.price) ∨ ((r.what = 1 ∨ r.what = 2 ∨ r.what = 4 ∨ r.what = 6) ∧ r.qty = 0 ∧ r.price = 0))) := by
      unfold recP
      constructor
      · rintro (h | h | h | h | h | h)
        · omega
        · omega
        · omega
        · omega
        · omega
        · exact h.2
      · exact fun h => .inr (.inr (.inr (.inr (.inr ⟨k6, h⟩))))
    rw [hrec, w_bind]
    refine Wq.mono (Q := fun y => (1 ≤ r.seq ∧ r.seq ≤ 1000000000) → (1 ≤ r.what ∧ r.what ≤ 6) → (y = true ↔ knownP r.order)) ?_ fun y hy => ?_
    · rw [w_cnd]
      refine ⟨fun h => (w_some _).2 fun _ _ => by simp only [band_T, band_F, bor_T, bor_F, bnot_T, bnot_F, ilt_T, ilt_F, ile_T, ile_F, ieq_T, ieq_F, beq_T, beq_F, knownP]; omega, fun h => (w_some _).2 fun g1 g2 => ?_⟩
      simp only [band_T, band_F, bor_T, bor_F, bnot_T, bnot_F, ilt_T, ilt_F, ile_T, ile_F, ieq_T, ieq_F, beq_T, beq_F] at h
      omega
    by_cases w3 : r.what = 3
    · rw [cnd_t (by simp only [band_T, band_F, bor_T, bor_F, bnot_T, bnot_F, ilt_T, ilt_F, ile_T, ile_F, ieq_T, ieq_F, beq_T, beq_F]; exact .inl w3), cnd_f (by rw [ieq_F]; omega), w_some]
      simp only [band_T, band_F, bor_T, bor_F, bnot_T, bnot_F, ilt_T, ilt_F, ile_T, ile_F, ieq_T, ieq_F, beq_T, beq_F, true_and]
      rw [w3] at hy ⊢
      constructor
      · rintro ⟨⟨⟨⟨⟨⟨a1, a2⟩, _⟩, _⟩, a3⟩, a4⟩, b1, b2, b3, b4, b5, b6, b7, b8, _⟩
        exact ⟨(hy ⟨by omega, a2⟩ (by omega)).1 a3, b1, b2, b3, b5, b6, b7, b8, ⟨by omega, a2⟩, .inl ⟨rfl, by omega, b4⟩⟩
      · rintro ⟨c1, b1, b2, b3, b5, b6, b7, b8, c2, c3⟩
        have c4 : 1 ≤ r.qty ∧ r.price = 0 := by omega
        exact ⟨⟨⟨⟨⟨⟨by omega, c2.2⟩, by omega⟩, by omega⟩, (hy c2 (by omega)).2 c1⟩, by omega⟩, b1, b2, b3, c4.2, b5, b6, b7, b8, trivial⟩
    by_cases w5 : r.what = 5
    · rw [cnd_t (by simp only [band_T, band_F, bor_T, bor_F, bnot_T, bnot_F, ilt_T, ilt_F, ile_T, ile_F, ieq_T, ieq_F, beq_T, beq_F]; exact .inr w5), cnd_t (by rw [ieq_T]; exact w5), w_some]
      simp only [band_T, band_F, bor_T, bor_F, bnot_T, bnot_F, ilt_T, ilt_F, ile_T, ile_F, ieq_T, ieq_F, beq_T, beq_F, true_and]
      rw [w5] at hy ⊢
      constructor
      · rintro ⟨⟨⟨⟨⟨⟨⟨a1, a2⟩, _⟩, _⟩, a3⟩, a4⟩, a5⟩, b1, b2, b3, b5, b6, b7, b8, _⟩
        exact ⟨(hy ⟨by omega, a2⟩ (by omega)).1 a3, b1, b2, b3, b5, b6, b7, b8, ⟨by omega, a2⟩, .inr (.inl ⟨rfl, by omega, by omega⟩)⟩
      · rintro ⟨c1, b1, b2, b3, b5, b6, b7, b8, c2, c3⟩
        have c4 : 1 ≤ r.qty ∧ 1 ≤ r.price := by omega
        exact ⟨⟨⟨⟨⟨⟨⟨by omega, c2.2⟩, by omega⟩, by omega⟩, (hy c2 (by omega)).2 c1⟩, by omega⟩, by omega⟩, b1, b2, b3, b5, b6, b7, b8, trivial⟩
    rw [cnd_f (by simp only [band_T, band_F, bor_T, bor_F, bnot_T, bnot_F, ilt_T, ilt_F, ile_T, ile_F, ieq_T, ieq_F, beq_T, beq_F]; exact ⟨w3, w5⟩), cnd_f (by rw [ieq_F]; exact w5), w_some]
    simp only [band_T, band_F, bor_T, bor_F, bnot_T, bnot_F, ilt_T, ilt_F, ile_T, ile_F, ieq_T, ieq_F, beq_T, beq_F, true_and]
    constructor
    · rintro ⟨⟨⟨⟨⟨a1, a2⟩, a6⟩, a7⟩, a3⟩, b1, b2, b3, b9, b4, b5, b6, b7, b8, _⟩
      exact ⟨(hy ⟨by omega, a2⟩ (by omega)).1 a3, b1, b2, b3, b5, b6, b7, b8, ⟨by omega, a2⟩, .inr (.inr ⟨by omega, b9, b4⟩)⟩
    · rintro ⟨c1, b1, b2, b3, b5, b6, b7, b8, c2, c3⟩
      have c4 : r.qty = 0 ∧ r.price = 0 ∧ 1 ≤ r.what ∧ r.what ≤ 6 := by omega
      exact ⟨⟨⟨⟨⟨by omega, c2.2⟩, by omega⟩, by omega⟩, (hy c2 (by omega)).2 c1⟩, b1, b2, b3, c4.1, c4.2.1, b5, b6, b7, b8, trivial⟩
  have e6 : ieq r.kind 6 = false := by rw [ieq_F]; exact k6
  simp only [e1, e2, e3, e4, e5, e6, cnd_true, cnd_false, ob_some]
  simp only [w_bind, w_cnd, w_some, band_T, band_F, bor_T, bor_F, bnot_T, bnot_F, ilt_T, ilt_F, ile_T, ile_F, ieq_T, ieq_F, beq_T, beq_F, true_implies, ne_eq, not_true_eq_false, false_implies, and_true, true_and, or_self, reduceCtorEq, recP]; grind
theorem r_order_Right (o : SOrder) : F_snaffleref07_Right o = some (decide (ordP o)) := by
  refine Wq.dec ?_
  unfold F_snaffleref07_Right
  refine (r_rec_Right _).bind fun b hb => ?_
  have hb' : b = true ↔ begunP o := by rw [hb]; simp [recP, begunP, knownP]
  unfold ordP pendP
  rw [← hb']
  simp only [w_bind, w_cnd, w_some, band_T, band_F, bor_T, bor_F, bnot_T, bnot_F, ilt_T, ilt_F, ile_T, ile_F, ieq_T, ieq_F, beq_T, beq_F, true_implies, ne_eq, not_true_eq_false, false_implies, and_true, true_and, or_self, reduceCtorEq]
  cases b <;> grind
theorem r_order_Open {o : SOrder} (h : ordP o) (hr : Ok_order o) : F_snaffleref07_Open o = some (openZ o) := by
  have hb := openZ_rng h hr
  have hf := h.2.1
  have hq := h.2.2.1
  have r1 := hr.qty; have r2 := hr.newQty
  unfold inI at r1 r2
  unfold F_snaffleref07_Open isub
  rw [r_order_Right, ob_some, decide_eq_true h]
  unfold openZ at *
  rw [bnot_true, bor_false, c_ieq]
  split
  · rfl
  · rename_i hp
    rw [if_neg hp] at hb
    rw [c_ilt]
    split
    · rw [wr_in ⟨by omega, by omega⟩]; congr 1; omega
    · rw [wr_in ⟨by omega, by omega⟩]; congr 1; omega
theorem r_order_Worth {o : SOrder} (h : ordP o) (hr : Ok_order o) : F_snaffleref07_Worth o = some (if worthZ o ≤ 9223372036854775807 then (worthZ o, 0) else (0, 3)) := by
  refine Wq.eq ?_
  have hp := h.1.2.2.2.2.2
  have hf := h.2.2.1
  have hf0 := h.2.1
  have rq := hr.qty; have rp := hr.price; have rf := hr.filled; have rn := hr.newQty; have rnp := hr.newPrice
  unfold inI at rq rf rn
  unfold F_snaffleref07_Worth isub
  rw [r_order_Right, ob_some, decide_eq_true h, bnot_true, cnd_false, c_ieq]
  by_cases h3 : o.phase = 3
  · rw [if_pos h3, w_some]
    have : worthZ o = 0 := by unfold worthZ; rw [if_pos h3]
    rw [this]; rfl
  · rw [if_neg h3, wr_in ⟨by omega, by omega⟩]
    refine (r_Mul ⟨by omega, by omega⟩ rp).bind fun y hy => ?_
    have m : 0 ≤ (o.qty - o.filled) * o.price := Int.mul_nonneg (by omega) (by omega)
    rw [worthZ_ne h3]
    generalize (o.qty - o.filled) * o.price = a at *
    have hia : inI a ↔ a ≤ 9223372036854775807 := by unfold inI; omega
    rw [hia] at hy
    rw [w_cnd]
    refine ⟨fun hb => (w_some _).2 ?_, fun hb => ?_⟩
    · have hn : ¬ a ≤ 9223372036854775807 := fun h => by rw [hy.1.2 h] at hb; cases hb
      rw [if_neg]; split <;> omega
    · have hyt : y.2 = true := by simpa [bnot] using hb
      have hale := hy.1.1 hyt
      have hya := hy.2 hyt
      rw [c_ilt]
      by_cases hn : o.filled < o.newQty
      · rw [if_pos hn, if_neg (by omega : ¬ o.newQty ≤ o.filled)]
        have hnp := new_pos h hn
        rw [wr_in ⟨by omega, by omega⟩]
        refine (r_Mul ⟨by omega, by omega⟩ rnp).bind fun z hz => ?_
        have m2 : 0 ≤ (o.newQty - o.filled) * o.newPrice := Int.mul_nonneg (by omega) (by omega)
        generalize (o.newQty - o.filled) * o.newPrice = b at *
        have hib : inI b ↔ b ≤ 9223372036854775807 := by unfold inI; omega
        rw [hib] at hz
        rw [w_cnd]
        refine ⟨fun hb => (w_some _).2 ?_, fun hb => ?_⟩
        · have hn : ¬ b ≤ 9223372036854775807 := fun h => by rw [hz.1.2 h] at hb; cases hb
          rw [if_neg (by omega)]
        · have hzt : z.2 = true := by simpa [bnot] using hb
          have hble := hz.1.1 hzt
          have hzb := hz.2 hzt
          rw [hya, hzb, c_ilt, if_pos (c := max a b ≤ 9223372036854775807) (by omega)]
          by_cases hab : a < b
          · rw [if_pos hab, w_some, Int.max_eq_right (by omega)]
          · rw [if_neg hab, w_some, Int.max_eq_left (by omega)]
      · rw [if_neg hn, if_pos (by omega : o.newQty ≤ o.filled), if_pos hale, w_some, hya]
theorem r_cell_Right {c : SCell} (h : Ok_cell c) : F_snaffleref08_Right c = some (decide (okC c)) := by
  refine Wq.dec ?_
  unfold F_snaffleref08_Right
  rw [r_Add h.pos h.buy, ob_some, r_Sub h.sell h.pos, ob_some, w_some]
  simp only [band_T, band_F, bor_T, bor_F, bnot_T, bnot_F, ilt_T, ilt_F, ile_T, ile_F, ieq_T, ieq_F, beq_T, beq_F, okC]
  by_cases h1 : inI (c.pos + c.buy)
  · by_cases h2 : inI (c.sell - c.pos)
    · simp only [if_pos h1, if_pos h2]
      constructor
      · rintro ⟨⟨⟨_, a⟩, b⟩, d⟩; exact ⟨h, ⟨a, b, d⟩, h1, h2⟩
      · rintro ⟨_, ⟨a, b, d⟩, _, _⟩; exact ⟨⟨⟨⟨trivial, trivial⟩, a⟩, b⟩, d⟩
    · simp only [if_neg h2]
      constructor
      · rintro ⟨⟨⟨⟨_, a⟩, _⟩, _⟩, _⟩; cases a
      · rintro ⟨_, _, _, a⟩; exact absurd a h2
  · simp only [if_neg h1]
    constructor
    · rintro ⟨⟨⟨⟨a, _⟩, _⟩, _⟩, _⟩; cases a
    · rintro ⟨_, _, a, _⟩; exact absurd a h1
theorem r_cell_Of {c : SCell} (h : okC c) : F_snaffleref08_Of c = some (ofC c) := by
  unfold F_snaffleref08_Of iadd isub
  rw [wr_in h.2.2.1, wr_in h.2.2.2]; rfl
theorem r_limit_Right (x : SExpo) : F_snaffleref09_Right x = some (decide (limP x)) := by
  refine Wq.dec ?_
  unfold F_snaffleref09_Right limP
  simp only [w_some, band_T, band_F, bor_T, bor_F, bnot_T, bnot_F, ilt_T, ilt_F, ile_T, ile_F, ieq_T, ieq_F, beq_T, beq_F]
  grind
theorem r_Whole {l : List SCell} (hl : l.length < 999999) (h : ∀ c ∈ l, 0 ≤ c.opn ∧ inI c.opn) : F_snaffleref09_Whole l = some (if wholeZ l ≤ 9223372036854775807 then (wholeZ l, true) else (0, false)) := by
  refine Wq.eq ?_
  have hn : ∀ x ∈ l.map SCell.opn, 0 ≤ x := fun x hx => by
    obtain ⟨c, hc, rfl⟩ := List.mem_map.1 hx
    exact (h c hc).1
  have htk : ∀ i, (l.take i).map SCell.opn = (l.map SCell.opn).take i := fun i => by rw [List.map_take]
  unfold F_snaffleref09_Whole
  refine Wq.bind (Q := fun w : (Bool × Int) ⊕ (Int × Bool × Int) => match w with | .inl w => w = (false, 0) ∧ ¬ wholeZ l ≤ 9223372036854775807 | .inr w => w.1 = wholeZ l ∧ wholeZ l ≤ 9223372036854775807)
    (w_for (n := l.length) (step := fun v : Int × Int × Bool × Int => L_snaffleref09_Whole_58 l v.fst v.snd.fst v.snd.snd.fst v.snd.snd.snd) (by omega)
      (fun i x => x.1 = wholeZ (l.take i) ∧ x.1 ≤ 9223372036854775807) _ ?_ ?_ _ 0 (Nat.zero_le _) (by simp [wholeZ])) ?_
  · rintro i ⟨a, b, c⟩ hi ⟨rfl, ha⟩
    simp only [L_snaffleref09_Whole_58]
    simp only at ha
    have hx := h l[i] (List.getElem_mem _)
    have hs : wholeZ (l.take (i + 1)) = wholeZ (l.take i) + l[i].opn := by
      unfold wholeZ
      rw [htk, htk, sum_take_succ _ i (by simpa using hi), List.getElem_map]
    have ht : 0 ≤ wholeZ (l.take i) := by unfold wholeZ; rw [htk]; exact sum_nn fun x hx => hn x (List.mem_of_mem_take hx)
    have htl : wholeZ (l.take (i + 1)) ≤ wholeZ l := by unfold wholeZ; rw [htk]; exact sum_take_le hn _
    rw [cnd_t (by rw [ilt_nat]; simpa using hi), cnd_t (inb l i hi), lget_nat l i hi, r_Add ⟨by omega, ha⟩ hx.2, ob_some, ← hs]
    by_cases hr : wholeZ (l.take (i + 1)) ≤ 9223372036854775807
    · rw [if_pos ⟨by omega, hr⟩]
      simp only [bnot_true, cnd_false, w_some]
      exact ⟨wr_succ (by omega), trivial, hr⟩
    · rw [if_neg (by unfold inI; omega)]
      simp only [bnot_false, cnd_true, w_some]
      exact ⟨trivial, by omega⟩
  · rintro ⟨a, b, c⟩ ⟨rfl, ha⟩
    simp only [L_snaffleref09_Whole_58]
    rw [cnd_f (by rw [ilt_nat]; simp), w_some]
    rw [List.take_length] at *
    exact ⟨rfl, ha⟩
  · rintro w hw
    cases w with
    | inl w => obtain ⟨rfl, h2⟩ := hw; simp only [sumK, w_some]; rw [if_neg h2]
    | inr w => obtain ⟨h1, h2⟩ := hw; simp only [sumK, w_some]; rw [if_pos h2, h1]
theorem addC_one (c : SCell) {o : SOrder} (h : o.side = 1 ∨ o.side = 2) : addC c o = if o.side = 1 then ⟨c.pos, c.buy + openZ o, c.sell, c.opn + worthZ o⟩ else ⟨c.pos, c.buy, c.sell + openZ o, c.opn + worthZ o⟩ := by
  unfold addC
  by_cases e : o.side = 1
  · rw [if_pos e, if_neg (by omega)]
  · rw [if_neg e, if_pos (by omega)]
/-- One cell, made of the orders. -/
theorem r_cell {s : SState} (hk : ∀ o ∈ s.orders, orderIn s o ∧ Ok_order o) (hs : sizedP s) (hol : s.orders.length < 999999) (i : Nat) (pos : Int) (a : Bool) (b : List SCell) :
    Wq (iterN (fun v : Int × Bool × List SCell × SCell => L_snaffleref10_Cells_14922 (i : Int) s v.fst v.snd.fst v.snd.snd.fst v.snd.snd.snd) LF (0, a, b, SCell.mk pos 0 0 0)) fun w => match w with
      | .inl w => w.1 = false ∧ w.2.1 = [] ∧ ¬ fitC (sumC s.symbols i s.orders)
      | .inr w => w.1 = a ∧ w.2.1 = b ∧ w.2.2 = cadd ⟨pos, 0, 0, 0⟩ (sumC s.symbols i s.orders) ∧ fitC (sumC s.symbols i s.orders) := by
  have hz : cadd ⟨pos, 0, 0, 0⟩ zC = SCell.mk pos 0 0 0 := by apply cell_ext <;> simp [cadd, zC]
  refine w_for (n := s.orders.length) hol (fun k x => x.1 = a ∧ x.2.1 = b ∧ x.2.2 = cadd ⟨pos, 0, 0, 0⟩ (sumC s.symbols i (s.orders.take k)) ∧ fitC (sumC s.symbols i (s.orders.take k))) _ ?_ ?_ _ 0 (Nat.zero_le _) ⟨rfl, rfl, by simp only [List.take_zero, sumC]; exact hz.symm, by simp only [List.take_zero, sumC, fitC, zC]; decide⟩
  · rintro k ⟨x1, x2, x3⟩ hkl ⟨rfl, rfl, g3, g4⟩
    simp only at g3 g4
    obtain ⟨hoi, hor⟩ := hk s.orders[k] (List.getElem_mem _)
    obtain ⟨ho, _, ha, hy⟩ := id hoi
    have hside := ho.1.2.2.2.1
    have hacc := ho.1.2.1; have hsym := ho.1.2.2.1
    have m := mul_le64 (a := s.orders[k].account) (b := s.symbols) (by omega) (by have := hs.1.2; omega) (by have := hs.2.1.1; omega) (by have := hs.2.1.2; omega)
    have hwr : wr IntKind.i64 (iadd (wr IntKind.i64 (imul s.orders[k].account s.symbols)) s.orders[k].symbol) = atZ s.symbols s.orders[k] := by
      unfold iadd imul atZ
      rw [wr_small (n := s.orders[k].account * s.symbols) m.1 (by omega), wr_small (by omega) (by omega)]
    have hstep : sumC s.symbols i (s.orders.take (k + 1)) = cadd (sumC s.symbols i (s.orders.take k)) (inC s.symbols i s.orders[k]) := by
      rw [List.take_succ_eq_append_getElem hkl, sumC_append, sumC_one]
    have hnn := sumC_nn s.symbols i (l := s.orders.take k) fun o h => ⟨(hk o (List.mem_of_mem_take h)).1.1, (hk o (List.mem_of_mem_take h)).2⟩
    have hO := openZ_rng ho hor
    have hW := worthZ_nn ho
    have hfull : fitC (sumC s.symbols i s.orders) → fitC (sumC s.symbols i (s.orders.take (k + 1))) := fun h => by
      have e : sumC s.symbols i s.orders = cadd (sumC s.symbols i (s.orders.take (k + 1))) (sumC s.symbols i (s.orders.drop (k + 1))) := by
        rw [← sumC_append, List.take_append_drop]
      rw [e] at h
      exact fit_mono (sumC_nn _ _ fun o h => ⟨(hk o (List.mem_of_mem_drop h)).1.1, (hk o (List.mem_of_mem_drop h)).2⟩) h
    simp only [L_snaffleref10_Cells_14922]
    rw [cnd_t (by rw [ilt_nat]; simpa using hkl), cnd_t (inb _ k hkl), lget_nat _ k hkl, hwr, c_bnot, c_ieq]
    by_cases hat : atZ s.symbols s.orders[k] = (i : Int)
    case neg =>
      rw [if_neg hat, w_some]
      refine ⟨wr_succ (by omega), rfl, rfl, ?_, ?_⟩
      · rw [hstep]; unfold inC; rw [if_neg hat, cadd_z]; exact g3
      · rw [hstep]; unfold inC; rw [if_neg hat, cadd_z]; exact g4
    rw [if_pos hat, r_order_Worth ho hor, ob_some, r_order_Open ho hor]
    have hin : inC s.symbols i s.orders[k] = wC s.orders[k] := inC_at hat
    rw [hin] at hstep
    generalize sumC s.symbols i (s.orders.take k) = c at *
    obtain ⟨n0, n1, n2, n3⟩ := hnn
    obtain ⟨f1, f2, f3⟩ := id g4
    have e1 : x3.opn = c.opn := by rw [g3]; simp [cadd]
    have e2 : x3.buy = c.buy := by rw [g3]; simp [cadd]
    have e3 : x3.sell = c.sell := by rw [g3]; simp [cadd]
    have e4 : x3.pos = pos := by rw [g3]; simp [cadd, n0]
    have iw : ∀ w : Int, 0 ≤ w → w ≤ 9223372036854775807 → inI w := fun w h1 h2 => ⟨by omega, h2⟩
    by_cases hw : worthZ s.orders[k] ≤ 9223372036854775807
    case neg =>
      have hno : ¬ fitC (sumC s.symbols i s.orders) := fun h => by
        have h := hfull h
        rw [hstep] at h
        have := h.2.2
        have e : (wC s.orders[k]).opn = worthZ s.orders[k] := by unfold wC; split <;> rfl
        simp only [cadd, e] at this; omega
      rw [if_neg hw]
      simp only [ob_some]
      rw [e1, r_Add (iw _ n3 f3) (by decide), ob_some, c_ieq]
      split
      · rw [e2, r_Add (iw _ n1 f1) (iw _ hO.1 hO.2), ob_some, cnd_t (by simp only [band_T, band_F, bor_T, bor_F, bnot_T, bnot_F, ilt_T, ilt_F, ile_T, ile_F, ieq_T, ieq_F, beq_T, beq_F]; left; left; decide), w_some]; exact ⟨rfl, rfl, hno⟩
      · rw [e3, r_Add (iw _ n2 f2) (iw _ hO.1 hO.2), ob_some, cnd_t (by simp only [band_T, band_F, bor_T, bor_F, bnot_T, bnot_F, ilt_T, ilt_F, ile_T, ile_F, ieq_T, ieq_F, beq_T, beq_F]; left; left; decide), w_some]; exact ⟨rfl, rfl, hno⟩
    rw [if_pos hw]
    simp only [ob_some]
    have hao := addC_one c hside
    rw [addC_eq] at hao
    rw [e1, r_Add (iw _ n3 f3) (iw _ hW hw), ob_some, c_ieq]
    by_cases hsd : s.orders[k].side = 1
    · rw [if_pos hsd] at hao ⊢
      rw [e2, r_Add (iw _ n1 f1) (iw _ hO.1 hO.2), ob_some]
      rw [hao] at hstep
      by_cases h1 : c.opn + worthZ s.orders[k] ≤ 9223372036854775807
      · by_cases h2 : c.buy + openZ s.orders[k] ≤ 9223372036854775807
        · rw [if_pos (iw _ (by omega) h1), if_pos (iw _ (by omega) h2)]
          simp only [ieq_00, bnot_true, bor_false, cnd_false]
          rw [w_some]
          refine ⟨wr_succ (by omega), rfl, rfl, ?_, ?_⟩
          · rw [hstep]; apply cell_ext <;> simp only [cadd] <;> omega
          · rw [hstep]; exact ⟨h2, f2, h1⟩
        · have hno : ¬ fitC (sumC s.symbols i s.orders) := fun h => by
            have h := (hfull h).1; rw [hstep] at h; exact h2 h
          rw [if_pos (iw _ (by omega) h1), if_neg (fun h => h2 h.2)]
          simp only [ieq_00, bnot_true, bor_false, bnot_false, cnd_true]
          exact (w_some _).2 ⟨rfl, rfl, hno⟩
      · have hno : ¬ fitC (sumC s.symbols i s.orders) := fun h => by
          have h := (hfull h).2.2; rw [hstep] at h; exact h1 h
        rw [if_neg (c := inI (c.opn + worthZ s.orders[k])) (fun h => h1 h.2)]
        simp only [ieq_00, bnot_true, bor_false, bnot_false, bor_true, cnd_true]
        exact (w_some _).2 ⟨rfl, rfl, hno⟩
    · rw [if_neg hsd] at hao ⊢
      rw [e3, r_Add (iw _ n2 f2) (iw _ hO.1 hO.2), ob_some]
      rw [hao] at hstep
      by_cases h1 : c.opn + worthZ s.orders[k] ≤ 9223372036854775807
      · by_cases h2 : c.sell + openZ s.orders[k] ≤ 9223372036854775807
        · rw [if_pos (iw _ (by omega) h1), if_pos (iw _ (by omega) h2)]
          simp only [ieq_00, bnot_true, bor_false, cnd_false]
          rw [w_some]
          refine ⟨wr_succ (by omega), rfl, rfl, ?_, ?_⟩
          · rw [hstep]; apply cell_ext <;> simp only [cadd] <;> omega
          · rw [hstep]; exact ⟨f1, h2, h1⟩
        · have hno : ¬ fitC (sumC s.symbols i s.orders) := fun h => by
            have h := (hfull h).2.1; rw [hstep] at h; exact h2 h
          rw [if_pos (iw _ (by omega) h1), if_neg (fun h => h2 h.2)]
          simp only [ieq_00, bnot_true, bor_false, bnot_false, cnd_true]
          exact (w_some _).2 ⟨rfl, rfl, hno⟩
      · have hno : ¬ fitC (sumC s.symbols i s.orders) := fun h => by
          have h := (hfull h).2.2; rw [hstep] at h; exact h1 h
        rw [if_neg (c := inI (c.opn + worthZ s.orders[k])) (fun h => h1 h.2)]
        simp only [ieq_00, bnot_true, bor_false, bnot_false, bor_true, cnd_true]
        exact (w_some _).2 ⟨rfl, rfl, hno⟩
  · rintro ⟨x1, x2, x3⟩ ⟨g1, g2, g3, g4⟩
    simp only [L_snaffleref10_Cells_14922]
    rw [cnd_f (by rw [ilt_nat]; simp), w_some]
    rw [List.take_length] at g3 g4
    exact ⟨g1, g2, g3, g4⟩
/-- An account's part of a list of cells, as it is cut. -/
theorem cut_ok {n m : Int} (hn : 1 ≤ n ∧ n ≤ 8) (hm : 1 ≤ m ∧ m ≤ 8) {cs : List SCell} (hc : len cs = n * m) {a : Int} (ha : 0 ≤ a) (ha2 : a < n) :
    band (band (ile 0 (wr IntKind.i64 (imul a m))) (ile (wr IntKind.i64 (imul a m)) (wr IntKind.i64 (imul (wr IntKind.i64 (iadd a 1)) m)))) (ile (wr IntKind.i64 (imul (wr IntKind.i64 (iadd a 1)) m)) (len cs)) = true ∧
    ltake (ldrop cs (itn (wr IntKind.i64 (imul a m)))) (itn (isub (wr IntKind.i64 (imul (wr IntKind.i64 (iadd a 1)) m)) (wr IntKind.i64 (imul a m)))) = acctZ m cs a := by
  have q := mul_le64 (a := a) (b := m) (by omega) (by omega) (by omega) (by omega)
  have q2 := mul_le64 (a := a + 1) (b := m) (by omega) (by omega) (by omega) (by omega)
  have l : (a + 1) * m ≤ n * m := Int.mul_le_mul_of_nonneg_right (by omega) (by omega)
  have e : (a + 1) * m = a * m + m := by rw [Int.add_mul, Int.one_mul]
  rw [show imul a m = a * m from rfl, wr_small q.1 (by omega), show iadd a 1 = a + 1 from rfl, wr_small (n := a + 1) (by omega) (by omega),
    show imul (a + 1) m = (a + 1) * m from rfl, wr_small q2.1 (by omega)]
  refine ⟨by simp only [band_T, ile_T]; omega, ?_⟩
  rw [show isub ((a + 1) * m) (a * m) = m from by unfold isub; omega]
  rfl
theorem r_Cells {s : SState} (hs : sizedP s) (hk : ∀ o ∈ s.orders, orderIn s o ∧ Ok_order o) (hcl : okL ok_cell s.cells) :
    Wq (F_snaffleref10_Cells s) fun r => (r.2 = true ↔ fitS (withS s s.orders)) ∧ (r.2 = true → r.1 = mkCells s s.orders) := by
  obtain ⟨hc, _, _, hol⟩ := hs.lens
  have hnn : ∀ i : Nat, nnC (sumC s.symbols i s.orders) := fun i => sumC_nn _ _ fun o h => ⟨(hk o h).1.1, (hk o h).2⟩
  unfold F_snaffleref10_Cells
  refine Wq.bind (Q := fun w : (Bool × List SCell) ⊕ (List SCell × Bool × List SCell) => match w with
      | .inl w => w.1 = false ∧ ¬ ∀ c ∈ mkCells s s.orders, okC c
      | .inr w => w.1 = mkCells s s.orders ∧ ∀ c ∈ mkCells s s.orders, okC c)
    (w_for (n := s.cells.length) (step := fun v : Int × List SCell × Bool × List SCell => L_snaffleref10_Cells_58 s v.fst v.snd.fst v.snd.snd.fst v.snd.snd.snd) (by omega)
      (fun i x => x.1 = (mkCells s s.orders).take i ∧ ∀ c ∈ x.1, okC c) _ ?_ ?_ _ 0 (Nat.zero_le _) ⟨by simp, by simp⟩) ?_
  · rintro i ⟨x1, x2, x3⟩ hi ⟨g1, g2⟩
    simp only at g1 g2
    have him : i < (mkCells s s.orders).length := by rw [mkCells_len]; exact hi
    have hci : Ok_cell s.cells[i] := hcl.1 _ (List.getElem_mem hi)
    simp only [L_snaffleref10_Cells_58]
    rw [cnd_t (by rw [ilt_nat]; simpa using hi), cnd_t (inb _ i hi), lget_nat _ i hi]
    refine Wq.bind (r_cell hk hs (by omega) i s.cells[i].pos x2 x3) fun w hw => ?_
    have hmk := mkCells_get s s.orders i him
    have hokfit : okC (mkCells s s.orders)[i] → fitC (sumC s.symbols i s.orders) := fun h => by
      have := fit_of_ok h
      rw [hmk] at this
      unfold fitC cadd at this
      simpa [fitC] using this
    cases w with
    | inl w =>
      obtain ⟨h1, h2, h3⟩ := hw
      simp only [sumK, w_some]
      exact ⟨h1, fun h => h3 (hokfit (h _ (List.getElem_mem him)))⟩
    | inr w =>
      obtain ⟨h1, h2, h3, h4⟩ := hw
      simp only [sumK]
      have hokc : Ok_cell w.2.2 := by
        rw [h3]
        have n := hnn i
        obtain ⟨n0, n1, n2, n3⟩ := n
        obtain ⟨f1, f2, f3⟩ := h4
        have hp := hci.pos
        refine ⟨?_, ?_, ?_, ?_⟩ <;> simp only [cadd] <;> unfold inI at * <;> omega
      rw [r_cell_Right hokc, ob_some, c_bnot, c_dec, h3, ← hmk]
      by_cases hok : okC (mkCells s s.orders)[i]
      · rw [if_pos hok, cnd_t (ile_t (by rw [g1]; simp [lapp, len]; omega)), w_some]
        refine ⟨wr_succ (by omega), ?_, fun c hc => ?_⟩
        · rw [List.take_succ_eq_append_getElem him, ← g1]; rfl
        · rcases List.mem_append.1 hc with hc | hc
          · exact g2 c hc
          · rw [List.mem_singleton] at hc; subst hc; exact hok
      · rw [if_neg hok, w_some]
        exact ⟨rfl, fun h => hok (h _ (List.getElem_mem him))⟩
  · rintro ⟨x1, x2, x3⟩ ⟨g1, g2⟩
    simp only [L_snaffleref10_Cells_58]
    rw [cnd_f (by rw [ilt_nat]; simp), w_some]
    have e : (mkCells s s.orders).take s.cells.length = mkCells s s.orders := List.take_of_length_le (by rw [mkCells_len]; exact Nat.le_refl _)
    rw [e] at g1
    simp only at g1 g2
    exact ⟨g1, by rw [← g1]; exact g2⟩
  · rintro w hw
    cases w with
    | inl w =>
      obtain ⟨h1, h2⟩ := hw
      simp only [sumK, w_some, h1]
      exact ⟨⟨fun h => (by cases h), fun h => absurd h.1 h2⟩, fun h => (by cases h)⟩
    | inr w =>
      obtain ⟨h1, h2⟩ := hw
      simp only [sumK]
      have hlen : len (mkCells s s.orders) = s.accounts * s.symbols := by simp only [len, mkCells_len]; exact hs.2.2.1
      refine Wq.bind (Q := fun w : (Bool × List SCell) ⊕ (Bool × List SCell) => match w with | .inl w => w.1 = false ∧ ¬ acctOk s.accounts s.symbols (mkCells s s.orders) | .inr _ => acctOk s.accounts s.symbols (mkCells s s.orders))
        (w_for (n := s.accounts.toNat) (step := fun v : Int × Bool × List SCell => L_snaffleref10_Cells_122 w.fst s v.fst v.snd.fst v.snd.snd) (by have := hs.1.2; omega)
        (fun i x => ∀ a : Int, 0 ≤ a → a < i → wholeZ (acctZ s.symbols (mkCells s s.orders) a) ≤ 9223372036854775807) _ ?_ ?_ _ 0 (Nat.zero_le _) (fun a h1 h2 => by omega)) ?_
      · rintro i q hi hx
        have hia : (i : Int) < s.accounts := by omega
        obtain ⟨c1, c2⟩ := cut_ok hs.1 hs.2.1 (cs := mkCells s s.orders) hlen (a := (i : Int)) (by omega) hia
        simp only [L_snaffleref10_Cells_122, h1]
        rw [cnd_t (ilt_t hia), cnd_t c1, c2, r_Whole (by have := acctZ_len (n := s.symbols) (cs := mkCells s s.orders) (a := (i : Int)); rw [mkCells_len] at this; omega) (acct_nn h2 i), ob_some]
        by_cases hw : wholeZ (acctZ s.symbols (mkCells s s.orders) i) ≤ 9223372036854775807
        · rw [if_pos hw]
          simp only [bnot_true, cnd_false, w_some]
          refine ⟨wr_succ (by have := hs.1.2; omega), fun a h1 h2 => ?_⟩
          by_cases e : a = i
          · subst e; exact hw
          · exact hx a h1 (by omega)
        · rw [if_neg hw]
          simp only [bnot_false, cnd_true, w_some]
          exact ⟨trivial, fun h => hw (h i (by omega) hia)⟩
      · rintro q hx
        simp only [L_snaffleref10_Cells_122]
        rw [cnd_f (ilt_f (by omega)), w_some]
        exact fun a h1 h2 => hx a h1 (by omega)
      · rintro v hv
        cases v with
        | inl v =>
          obtain ⟨g1, g2⟩ := hv
          simp only [sumK, w_some, g1]
          exact ⟨⟨fun h => (by cases h), fun h => absurd h.2 g2⟩, fun h => (by cases h)⟩
        | inr v =>
          simp only [sumK, w_some]
          exact ⟨⟨fun _ => ⟨h2, hv⟩, fun _ => trivial⟩, fun _ => h1⟩
theorem ascP_iff (l : List SOrder) : ascP l ↔ ∀ i : Nat, (h : i + 1 < l.length) → l[i].id < l[i + 1].id := by
  constructor
  · exact fun h i hi => List.pairwise_iff_getElem.1 h i (i + 1) (by omega) hi (by omega)
  · intro h
    refine List.pairwise_iff_getElem.2 fun i j hi hj hij => ?_
    have key : ∀ d : Nat, (hd : i + d + 1 < l.length) → l[i].id < l[i + d + 1].id := fun d => by
      induction d with
      | zero => exact fun hd => h i hd
      | succ d ih => exact fun hd => Int.lt_trans (ih (by omega)) (h (i + d + 1) (by omega))
    have e : j = i + (j - i - 1) + 1 := by omega
    have := key (j - i - 1) (by omega)
    simp only [← e] at this
    exact this
theorem r_Right {s : SState} (hr : Ok_state s) (hsh : shortP s) : Wq (F_snaffleref10_Right s) fun b => b = true ↔ RightS s := by
  obtain ⟨l1, l2, l3, l4⟩ := hsh
  unfold F_snaffleref10_Right
  rw [w_cnd]
  refine ⟨fun h => (w_some _).2 ⟨fun h => (by cases h), fun hR => ?_⟩, fun h => ?_⟩
  · obtain ⟨a1, a2, a3, a4, a5, a6⟩ := hR.sized
    have m := mul_le64 (a := s.accounts) (b := s.symbols) (by omega) (by omega) (by omega) (by omega)
    simp only [band_T, band_F, bor_T, bor_F, bnot_T, bnot_F, ilt_T, ilt_F, ile_T, ile_F, ieq_T, ieq_F, beq_T, beq_F, show imul s.accounts s.symbols = s.accounts * s.symbols from rfl, wr_small m.1 (show s.accounts * s.symbols < 1000000000000 by omega), len] at h
    simp only [len] at a3 a4 a5
    omega
  have hs : sizedP s := by
    simp only [band_T, band_F, bor_T, bor_F, bnot_T, bnot_F, ilt_T, ilt_F, ile_T, ile_F, ieq_T, ieq_F, beq_T, beq_F, len] at h
    have m := mul_le64 (a := s.accounts) (b := s.symbols) (by omega) (by omega) (by omega) (by omega)
    rw [show imul s.accounts s.symbols = s.accounts * s.symbols from rfl, wr_small m.1 (by omega)] at h
    unfold sizedP
    simp only [len]
    omega
  rw [w_cnd]
  refine ⟨fun h => (w_some _).2 ⟨fun h => (by cases h), fun hR => ?_⟩, fun h => ?_⟩
  · have b1 := hR.fine.last; have b2 := hR.fine.seq; have b3 := hR.fine.lsn
    simp only [band_T, band_F, bor_T, bor_F, bnot_T, bnot_F, ilt_T, ilt_F, ile_T, ile_F, ieq_T, ieq_F, beq_T, beq_F] at h
    omega
  simp only [band_T, band_F, bor_T, bor_F, bnot_T, bnot_F, ilt_T, ilt_F, ile_T, ile_F, ieq_T, ieq_F, beq_T, beq_F] at h
  refine Wq.bind (Q := fun w : Bool ⊕ Bool => match w with
      | .inl b => b = false ∧ ¬ ((∀ o ∈ s.orders, orderIn s o ∧ o.id ≤ s.last) ∧ ascP s.orders)
      | .inr _ => (∀ o ∈ s.orders, orderIn s o ∧ o.id ≤ s.last) ∧ ascP s.orders)
    (w_for (n := s.orders.length) (step := fun v : Int × Bool => L_snaffleref10_Right_122 s v.fst v.snd) l1
      (fun i _ => (∀ o ∈ s.orders.take i, orderIn s o ∧ o.id ≤ s.last) ∧ ∀ k : Nat, (h : k + 1 < s.orders.length) → k + 1 < i → s.orders[k].id < s.orders[k + 1].id) _ ?_ ?_ _ 0 (Nat.zero_le _) (by simp)) ?_
  · rintro i q hi ⟨g1, g2⟩
    simp only [L_snaffleref10_Right_122]
    rw [cnd_t (by rw [ilt_nat]; simpa using hi), cnd_t (inb _ i hi), lget_nat _ i hi, r_order_Right, ob_some]
    have hbad : ∀ b : Bool, (b = true ↔ ¬ (orderIn s s.orders[i] ∧ s.orders[i].id ≤ s.last)) → b = bor (bor (bor (bor (bnot (decide (ordP s.orders[i]))) (ieq s.orders[i].phase 3)) (ile s.accounts s.orders[i].account)) (ile s.symbols s.orders[i].symbol)) (ilt s.last s.orders[i].id) := fun b hb => by
      rw [Bool.eq_iff_iff, hb]
      unfold orderIn
      simp only [band_T, band_F, bor_T, bor_F, bnot_T, bnot_F, ilt_T, ilt_F, ile_T, ile_F, ieq_T, ieq_F, beq_T, beq_F, decide_eq_false_iff_not]
      constructor
      · intro h
        by_cases a : ordP s.orders[i]
        · by_cases b : s.orders[i].phase = 3
          · exact .inl (.inl (.inl (.inr b)))
          · by_cases c : s.accounts ≤ s.orders[i].account
            · exact .inl (.inl (.inr c))
            · by_cases d : s.symbols ≤ s.orders[i].symbol
              · exact .inl (.inr d)
              · exact .inr (by by_cases e : s.orders[i].id ≤ s.last; exact absurd ⟨⟨a, b, by omega, by omega⟩, e⟩ h; omega)
        · exact .inl (.inl (.inl (.inl a)))
      · rintro ((((a | a) | a) | a) | a) ⟨⟨b1, b2, b3, b4⟩, b5⟩
        · exact a b1
        · exact b2 a
        · omega
        · omega
        · omega
    by_cases hok : orderIn s s.orders[i] ∧ s.orders[i].id ≤ s.last
    · rw [← hbad false (by simp [hok])]
      simp only [bnot_false, band_true, bor_false]
      by_cases h0 : i = 0
      · subst h0
        rw [cnd_t (by simp only [band_T, band_F, bor_T, bor_F, bnot_T, bnot_F, ilt_T, ilt_F, ile_T, ile_F, ieq_T, ieq_F, beq_T, beq_F]; right; decide), cnd_f (by simp only [band_T, band_F, bor_T, bor_F, bnot_T, bnot_F, ilt_T, ilt_F, ile_T, ile_F, ieq_T, ieq_F, beq_T, beq_F]; left; decide), w_some]
        refine ⟨wr_succ (by omega), fun o ho => ?_, fun k hk1 hk2 => by omega⟩
        rcases (mem_take_succ hi).1 ho with ho | rfl
        · exact g1 o ho
        · exact hok
      · have hw : wr IntKind.i64 (isub (i : Int) 1) = ((i - 1 : Nat) : Int) := by unfold isub; rw [wr_small (by omega) (by omega)]; omega
        have hi1 : i - 1 < s.orders.length := by omega
        rw [hw, cnd_t (by rw [bor_T]; exact .inl (inb _ _ hi1)), lget_nat _ _ hi1, ilt_t (show (0 : Int) < (i : Int) by omega), band_true, c_ile]
        have hii : s.orders[i - 1 + 1]'(by omega) = s.orders[i] := by congr 1; omega
        by_cases hle : s.orders[i].id ≤ s.orders[i - 1].id
        · rw [if_pos hle, w_some]
          refine ⟨rfl, fun ⟨_, h2⟩ => ?_⟩
          have := (ascP_iff _).1 h2 (i - 1) (by omega)
          rw [hii] at this; omega
        · rw [if_neg hle, w_some]
          refine ⟨wr_succ (by omega), fun o ho => ?_, fun k hk1 hk2 => ?_⟩
          · rcases (mem_take_succ hi).1 ho with ho | rfl
            · exact g1 o ho
            · exact hok
          · by_cases e : k + 1 = i
            · have e2 : k = i - 1 := by omega
              subst e2
              rw [hii]; omega
            · exact g2 k hk1 (by omega)
    · rw [← hbad true (by simp [hok])]
      simp only [bnot_true, band_false, bnot_false, bor_true, bor_true', cnd_true]
      rw [w_some]
      exact ⟨rfl, fun h2 => hok (h2.1 _ (List.getElem_mem _))⟩
  · rintro q ⟨g1, g2⟩
    simp only [L_snaffleref10_Right_122]
    rw [cnd_f (by rw [ilt_nat]; simp), w_some]
    rw [List.take_length] at g1
    exact ⟨g1, (ascP_iff _).2 fun k hk => g2 k hk hk⟩
  rintro w hw
  cases w with
  | inl b =>
    obtain ⟨rfl, hn⟩ := hw
    simp only [sumK, w_some]
    exact ⟨fun h => (by cases h), fun hR => absurd ⟨fun o ho => ⟨hR.fine.ords o ho, hR.fine.ids o ho⟩, hR.fine.asc⟩ hn⟩
  | inr b =>
  obtain ⟨ho, has⟩ := hw
  simp only [sumK]
  refine Wq.bind (Q := fun w : Bool ⊕ Bool => match w with | .inl b => b = false ∧ ¬ ∀ x ∈ s.limits, limP x | .inr _ => ∀ x ∈ s.limits, limP x)
    (w_for (n := s.limits.length) (step := fun v : Int × Bool => L_snaffleref10_Right_250 s v.fst v.snd) l3 (fun i _ => ∀ x ∈ s.limits.take i, limP x) _ ?_ ?_ _ 0 (Nat.zero_le _) (by simp)) ?_
  · rintro i q hi hx
    simp only [L_snaffleref10_Right_250]
    rw [cnd_t (by rw [ilt_nat]; simpa using hi), cnd_t (inb _ i hi), lget_nat _ i hi, r_limit_Right, ob_some, c_bnot, c_dec]
    split
    · rename_i h5
      rw [w_some]
      refine ⟨wr_succ (by omega), fun x hx' => ?_⟩
      rcases (mem_take_succ hi).1 hx' with h6 | rfl
      · exact hx x h6
      · exact h5
    · rename_i h5
      rw [w_some]
      exact ⟨rfl, fun h2 => h5 (h2 _ (List.getElem_mem _))⟩
  · rintro x hx
    simp only [L_snaffleref10_Right_250]
    rw [cnd_f (by rw [ilt_nat]; simp), w_some]
    rwa [List.take_length] at hx
  rintro w hw
  cases w with
  | inl b =>
    obtain ⟨rfl, hn⟩ := hw
    simp only [sumK, w_some]
    exact ⟨fun h => (by cases h), fun hR => absurd hR.fine.lims hn⟩
  | inr b =>
  simp only [sumK]
  refine Wq.bind (Q := fun w : Bool ⊕ Bool => match w with | .inl b => b = false ∧ ¬ ∀ x ∈ s.caps, 0 ≤ x | .inr _ => ∀ x ∈ s.caps, 0 ≤ x)
    (w_for (n := s.caps.length) (step := fun v : Int × Bool => L_snaffleref10_Right_506 s v.fst v.snd) l4 (fun i _ => ∀ x ∈ s.caps.take i, 0 ≤ x) _ ?_ ?_ _ 0 (Nat.zero_le _) (by simp)) ?_
  · rintro i q hi hx
    simp only [L_snaffleref10_Right_506]
    rw [cnd_t (by rw [ilt_nat]; simpa using hi), cnd_t (inb _ i hi), lget_nat _ i hi, c_ilt]
    split
    · rename_i h5
      rw [w_some]
      exact ⟨rfl, fun h2 => by have := h2 _ (List.getElem_mem hi); omega⟩
    · rename_i h5
      rw [w_some]
      refine ⟨wr_succ (by omega), fun x hx' => ?_⟩
      rcases (mem_take_succ hi).1 hx' with h6 | rfl
      · exact hx x h6
      · omega
  · rintro x hx
    simp only [L_snaffleref10_Right_506]
    rw [cnd_f (by rw [ilt_nat]; simp), w_some]
    rwa [List.take_length] at hx
  rintro v hv
  cases v with
  | inl b =>
    obtain ⟨rfl, hn⟩ := hv
    simp only [sumK, w_some]
    exact ⟨fun h => (by cases h), fun hR => absurd hR.fine.caps hn⟩
  | inr b =>
  simp only [sumK]
  have hfine : FineP s := ⟨fun o h => (ho o h).1, has, fun o h => (ho o h).2, by omega, by omega, by omega, hw, hv⟩
  have hall : ∀ o ∈ s.orders, orderIn s o ∧ Ok_order o := fun o h => ⟨(ho o h).1, hr.orders.1 o h⟩
  refine Wq.bind (r_Cells hs hall hr.cells) fun y hy => ?_
  rw [w_cnd]
  refine ⟨fun h => (w_some _).2 ⟨fun h => (by cases h), fun hR => ?_⟩, fun h => ?_⟩
  · rw [bnot_T] at h
    have : y.2 = true := hy.1.2 ⟨by show ∀ c ∈ mkCells s s.orders, okC c; rw [← hR.cells]; exact hR.ok, by show acctOk s.accounts s.symbols (mkCells s s.orders); rw [← hR.cells]; exact hR.acct⟩
    rw [this] at h; cases h
  rw [bnot_F] at h
  have hfit := hy.1.1 h
  have hc := hy.2 h
  rw [hc]
  refine Wq.bind (w_same (l := mkCells s s.orders) (m := s.cells) (mkCells_len _ _) (by rw [mkCells_len]; exact l2) (step := fun v : Int × Bool => L_snaffleref10_Right_4090 (mkCells s s.orders) s v.fst v.snd) (fun i h hh q => ?_) (fun q => ?_) _) fun w hw => ?_
  · simp only [L_snaffleref10_Right_4090]
    rw [cnd_t (by rw [ilt_nat]; simpa using h), cnd_t (inb _ i h), cnd_t (inb _ i hh), lget_nat _ i h, lget_nat _ i hh, w_cnd, w_some, w_some, bnot_T, bnot_F, wr_succ (by omega)]
    have := cell_ext' (mkCells s s.orders)[i] s.cells[i]
    simp only [band_T, band_F, bor_T, bor_F, bnot_T, bnot_F, ilt_T, ilt_F, ile_T, ile_F, ieq_T, ieq_F, beq_T, beq_F] at *
    exact ⟨fun h => ⟨fun e => (by have := this.2 e; grind), fun _ => trivial⟩, fun h => ⟨fun _ => trivial, fun e => absurd (this.1 h) e⟩⟩
  · simp only [L_snaffleref10_Right_4090]
    rw [cnd_f (by rw [show (((mkCells s s.orders).length : Nat) : Int) = len (mkCells s s.orders) from rfl]; simp [ilt])]
  cases w with
  | inl w =>
    obtain ⟨rfl, h⟩ := hw
    simp only [sumK, w_some]
    exact ⟨fun h => (by cases h), fun hR => absurd hR.cells.symm h⟩
  | inr w =>
    simp only [sumK, w_some]
    have e : s.cells = mkCells s s.orders := Eq.symm hw
    exact ⟨fun _ => ⟨hs, hfine, e, by rw [e]; exact hfit.1, by rw [e]; exact hfit.2⟩, fun _ => trivial⟩
theorem r_cell_Covers (a b : SExpo) : F_snaffleref08_Covers a b = some (decide (covX a b)) := by
  refine Wq.dec ?_
  unfold F_snaffleref08_Covers covX
  simp only [w_some, band_T, band_F, bor_T, bor_F, bnot_T, bnot_F, ilt_T, ilt_F, ile_T, ile_F, ieq_T, ieq_F, beq_T, beq_F]
  grind
theorem e_book_Place_bad {s : SState} {a y : Int} (h : ¬ (0 ≤ a ∧ a < s.accounts ∧ 0 ≤ y ∧ y < s.symbols)) : F_book_Place s a y = some (-1) := by
  unfold F_book_Place
  rw [cnd_t (by simp only [band_T, band_F, bor_T, bor_F, bnot_T, bnot_F, ilt_T, ilt_F, ile_T, ile_F, ieq_T, ieq_F, beq_T, beq_F]; omega)]
theorem e_book_Place_in {s : SState} {a y : Int} (h : 0 ≤ a ∧ a < s.accounts ∧ 0 ≤ y ∧ y < s.symbols) : F_book_Place s a y = some (wr IntKind.i64 (iadd (wr IntKind.i64 (imul a s.symbols)) y)) := by
  unfold F_book_Place F_book_ledger_cellOf
  rw [cnd_f (by simp only [band_T, band_F, bor_T, bor_F, bnot_T, bnot_F, ilt_T, ilt_F, ile_T, ile_F, ieq_T, ieq_F, beq_T, beq_F]; omega), ob_some]
theorem e_book_Expo {s : SState} (hr : Ok_state s) (hsh : shortP s) (hR : RightS s) {a y : Int} (h : 0 ≤ a ∧ a < s.accounts ∧ 0 ≤ y ∧ y < s.symbols) :
    ∃ k : Nat, ∃ hk : k < s.cells.length, wr IntKind.i64 (iadd (wr IntKind.i64 (imul a s.symbols)) y) = (k : Int) ∧ F_book_Expo s a y = some (ofC s.cells[k], 0) := by
  obtain ⟨b, e, q⟩ := s_book_Right s hr hsh.1 hsh.2.2.1 hsh.2.2.2
  obtain ⟨k, g1, g2, g3⟩ := s_cellOf hR.sized a y h.1 h.2.1 h.2.2.1 h.2.2.2
  unfold F_book_ledger_cellOf at g1
  have g1 := Option.some.inj g1
  refine ⟨k, g3, g1, ?_⟩
  unfold F_book_Expo
  rw [e_book_Place_in h, ob_some, g1]
  have : ieq (k : Int) (-1) = false := by rw [ieq_F]; omega
  simp only [this, bnot_false, cnd_true, e, q.2 hR, ob_some, bor_false, bnot_true, cnd_false]
  rw [cnd_t (inb _ k g3), lget_nat _ k g3, e_cell_Of (hR.ok _ (List.getElem_mem g3)), ob_some]
def atI (s : SState) (a y : Int) : Nat := itn (a * s.symbols + y)
def placeP (s : SState) (a y : Int) : Prop := 0 ≤ a ∧ a < s.accounts ∧ 0 ≤ y ∧ y < s.symbols
theorem at_in {s : SState} (hR : RightS s) {a y : Int} (h : placeP s a y) : atI s a y < s.cells.length ∧ atI s a y < s.limits.length ∧ ((atI s a y : Nat) : Int) = a * s.symbols + y ∧ wr IntKind.i64 (iadd (wr IntKind.i64 (imul a s.symbols)) y) = ((atI s a y : Nat) : Int) := by
  obtain ⟨k, g1, g2, g3⟩ := s_cellOf hR.sized a y h.1 h.2.1 h.2.2.1 h.2.2.2
  unfold F_book_ledger_cellOf at g1
  have g1 := Option.some.inj g1
  have e : atI s a y = k := by unfold atI itn; rw [← g2]; omega
  have := hR.sized.lens
  rw [e]
  exact ⟨g3, by omega, g2, g1⟩
def msgP (m : SMsg) : Prop := knownP m.order ∧ (0 ≤ m.account ∧ m.account < 8) ∧ (0 ≤ m.symbol ∧ m.symbol < 8) ∧ (m.side = 1 ∨ m.side = 2) ∧ (0 ≤ m.lsn ∧ m.lsn ≤ 1000000000) ∧
  ((m.kind = 1 ∧ 1 ≤ m.qty ∧ 1 ≤ m.price ∧ m.version = 0) ∨ (m.kind = 2 ∧ 1 ≤ m.qty ∧ 1 ≤ m.price ∧ 1 ≤ m.version) ∨ (m.kind = 3 ∧ m.qty = 0 ∧ m.price = 0 ∧ m.version = 0))
instance (m : SMsg) : Decidable (msgP m) := by unfold msgP knownP; infer_instance
theorem s_msg (m : SMsg) : Wq (F_venue_RightMsg m) fun b => b = true ↔ msgP m := by
  unfold F_venue_RightMsg msgP knownP
  simp only [w_bind, w_cnd, w_some, band_T, band_F, bor_T, bor_F, bnot_T, bnot_F, ilt_T, ilt_F, ile_T, ile_F, ieq_T, ieq_F, beq_T, beq_F, true_implies, ne_eq, not_true_eq_false, false_implies, and_true, true_and, or_self, reduceCtorEq]
  grind
theorem e_msg (m : SMsg) : F_venue_RightMsg m = some (decide (msgP m)) := (s_msg m).dec
theorem r_msg (m : SMsg) : F_snaffleref16_RightMsg m = some (decide (msgP m)) := by
  refine Wq.dec ?_
  unfold F_snaffleref16_RightMsg msgP knownP
  simp only [w_bind, w_cnd, w_some, band_T, band_F, bor_T, bor_F, bnot_T, bnot_F, ilt_T, ilt_F, ile_T, ile_F, ieq_T, ieq_F, beq_T, beq_F, true_implies, ne_eq, not_true_eq_false, false_implies, and_true, true_and, or_self, reduceCtorEq]
  grind
/-- A loop that asks something of each. -/
theorem w_all {n : Nat} (hn : n < 999999) {step : Int × Bool → Option ((Int × Bool) ⊕ (Bool ⊕ Bool))} (P : Nat → Prop)
    (h : ∀ (i : Nat) (q : Bool), i < n → (∀ j, j < i → P j) → Wq (step ((i : Int), q)) fun r => match r with | .inl (k, _) => k = ((i + 1 : Nat) : Int) ∧ P i | .inr (.inl b) => b = false ∧ ¬ P i | .inr (.inr _) => False)
    (he : ∀ q : Bool, Wq (step ((n : Int), q)) fun r => match r with | .inr (.inr _) => True | _ => False) (q0 : Bool) :
    Wq (iterN step LF ((0 : Int), q0)) fun w => match w with | .inl b => b = false ∧ ¬ ∀ i, i < n → P i | .inr _ => ∀ i, i < n → P i := by
  refine w_for (n := n) hn (fun i _ => ∀ j, j < i → P j) _ (fun i q hi hj => (h i q hi hj).mono fun r hr => ?_) (fun q hj => (he q).mono fun r hr => ?_) q0 0 (Nat.zero_le _) (fun j hj => by omega)
  · match r, hr with
    | .inl (k, _), hr =>
      refine ⟨hr.1, fun j hj2 => ?_⟩
      by_cases e : j = i
      · subst e; exact hr.2
      · exact hj j (by omega)
    | .inr (.inl b), hr => exact ⟨hr.1, fun g => hr.2 (g i hi)⟩
    | .inr (.inr _), hr => exact hr.elim
  · match r, hr with
    | .inl _, hr => exact hr.elim
    | .inr (.inl b), hr => exact hr.elim
    | .inr (.inr _), _ => exact hj
def noteP (l : List SNote) (i : Nat) : Prop := ∀ h : i < l.length, l[i].seq = ((i + 1 : Nat) : Int) ∧ recP (noteR l[i])
def setP (o : SOrder) : Prop := ordP o ∧ o.phase ≠ 1 ∧ o.newQty = 0 ∧ o.asked = false
instance (o : SOrder) : Decidable (setP o) := by unfold setP; infer_instance
def setsP (l : List SOrder) (i : Nat) : Prop := ∀ h : i < l.length, setP l[i] ∧ ∀ _ : 0 < i, (l[i - 1]'(by omega)).id < l[i].id
def inP (l : List SMsg) (i : Nat) : Prop := ∀ h : i < l.length, msgP l[i]
def venP (v : SVenue) : Prop := (v.inbox.length ≤ 400 ∧ v.notes.length ≤ 400 ∧ v.orders.length ≤ 400) ∧ (∀ i, i < v.notes.length → noteP v.notes i) ∧ (∀ i, i < v.orders.length → setsP v.orders i) ∧ ∀ i, i < v.inbox.length → inP v.inbox i
theorem setP_price {o : SOrder} (h : setP o) : o.newPrice = 0 := by
  refine Decidable.byContradiction fun h1 => ?_
  have := h.1.2.2.2.2.1 (.inr h1)
  have := h.2.2.1
  omega
theorem e_settled (o : SOrder) : F_venue_settled o = some (decide (setP o)) := by
  refine Wq.dec ?_
  unfold F_venue_settled setP
  rw [e_order_Right, ob_some, w_some]
  simp only [band_T, band_F, bor_T, bor_F, bnot_T, bnot_F, ilt_T, ilt_F, ile_T, ile_F, ieq_T, ieq_F, beq_T, beq_F, decide_eq_true_eq, ne_eq]
  grind
theorem len_end {α : Type} (l : List α) : ilt ((l.length : Nat) : Int) (len l) = false := by
  rw [show ((l.length : Nat) : Int) = len l from rfl]; simp [ilt]
theorem s_notes (l : List SNote) (hl : l.length < 999999) (q0 : Bool) : Wq (iterN (fun v : Int × Bool => L_venue_Right_58 (len l) l v.fst v.snd) LF (0, q0)) fun w => match w with | .inl b => b = false ∧ ¬ ∀ i, i < l.length → noteP l i | .inr _ => ∀ i, i < l.length → noteP l i := by
  refine w_all (step := fun v : Int × Bool => L_venue_Right_58 (len l) l v.fst v.snd) hl (noteP l) (fun i q hi hj => ?_) (fun q => ?_) q0
  · simp only [L_venue_Right_58]
    rw [cnd_t (by rw [ilt_nat]; simpa using hi), cnd_t (inb l i hi), lget_nat l i hi, wr_succ (by omega)]
    by_cases hs : l[i].seq = ((i + 1 : Nat) : Int)
    · rw [hs, ieq_refl, bnot_true, bnot_false, cnd_true, show F_rec_OfNote l[i] = some (noteR l[i]) from rfl, ob_some, cnd_true]
      refine (s_rec_Right _).bind fun b hb => ?_
      rw [bor_false, w_cnd, w_some, w_some]
      refine ⟨fun h => ⟨rfl, fun g => ?_⟩, fun h => ⟨rfl, fun _ => ⟨hs, ?_⟩⟩⟩
      · rw [bnot_T] at h; subst h
        have := hb.2 (g hi).2; cases this
      · rw [bnot_F] at h
        exact hb.1 h
    · have e : ieq l[i].seq ((i + 1 : Nat) : Int) = false := by simpa [ieq] using hs
      rw [e, bnot_false, bnot_true, cnd_false, ob_some, cnd_false, ob_some, bor_true, cnd_true, w_some]
      exact ⟨rfl, fun g => hs (g hi).1⟩
  · simp only [L_venue_Right_58]
    rw [cnd_f (len_end l), w_some]
    trivial
theorem r_notes (v : SVenue) (hl : v.notes.length < 999999) (q0 : Bool) : Wq (iterN (fun x : Int × Bool => L_snaffleref16_Right_122 v x.fst x.snd) LF (0, q0)) fun w => match w with | .inl b => b = false ∧ ¬ ∀ i, i < v.notes.length → noteP v.notes i | .inr _ => ∀ i, i < v.notes.length → noteP v.notes i := by
  refine w_all (step := fun x : Int × Bool => L_snaffleref16_Right_122 v x.fst x.snd) hl (noteP v.notes) (fun i q hi hj => ?_) (fun q => ?_) q0
  · simp only [L_snaffleref16_Right_122]
    have c1 := inb v.notes i hi
    rw [cnd_t (by rw [ilt_nat]; simpa using hi), cnd_t c1, cnd_t (by rw [bor_T]; exact .inl c1), lget_nat _ i hi, wr_succ (by omega)]
    by_cases hs : v.notes[i].seq = ((i + 1 : Nat) : Int)
    · rw [hs, ieq_refl, bnot_true, bnot_false, cnd_true, show F_snaffleref16_OfNote v.notes[i] = some (noteR v.notes[i]) from rfl, ob_some, cnd_true]
      refine (r_rec_Right _).bind fun b hb => ?_
      rw [bor_false, w_cnd, w_some, w_some]
      refine ⟨fun h => ⟨rfl, fun g => ?_⟩, fun h => ⟨rfl, fun _ => ⟨hs, ?_⟩⟩⟩
      · rw [bnot_T] at h; subst h
        have := hb.2 (g hi).2; cases this
      · rw [bnot_F] at h
        exact hb.1 h
    · have e : ieq v.notes[i].seq ((i + 1 : Nat) : Int) = false := by simpa [ieq] using hs
      rw [e, bnot_false, bnot_true, cnd_false, ob_some, cnd_false, ob_some, bor_true, cnd_true, w_some]
      exact ⟨rfl, fun g => hs (g hi).1⟩
  · simp only [L_snaffleref16_Right_122]
    rw [cnd_f (len_end _), w_some]
    trivial
theorem wr_pred {i : Nat} (h0 : 0 < i) (h : i < 1000000) : wr .i64 (isub (i : Int) 1) = ((i - 1 : Nat) : Int) := by
  unfold isub
  rw [wr_small (by omega) (by omega)]; omega
theorem s_sets (v : SVenue) (hl : v.orders.length < 999999) (q0 : Bool) : Wq (iterN (fun x : Int × Bool => L_venue_Right_122 (len v.orders) v.orders v x.fst x.snd) LF (0, q0)) fun w => match w with | .inl b => b = false ∧ ¬ ∀ i, i < v.orders.length → setsP v.orders i | .inr _ => ∀ i, i < v.orders.length → setsP v.orders i := by
  refine w_all (step := fun x : Int × Bool => L_venue_Right_122 (len v.orders) v.orders v x.fst x.snd) hl (setsP v.orders) (fun i q hi hj => ?_) (fun q => ?_) q0
  · simp only [L_venue_Right_122]
    rw [cnd_t (by rw [ilt_nat]; simpa using hi), cnd_t (inb v.orders i hi), lget_nat _ i hi, e_settled, ob_some]
    by_cases h0 : 0 < i
    · have c2 : band (ile 0 ((i - 1 : Nat) : Int)) (ilt ((i - 1 : Nat) : Int) (len v.orders)) = true := inb v.orders (i - 1) (by omega)
      rw [wr_pred h0 (by omega), cnd_t (by rw [bor_T]; exact .inl c2), lget_nat v.orders (i - 1) (by omega)]
      simp only [w_bind, w_cnd, w_some, band_T, band_F, bor_T, bor_F, bnot_T, bnot_F, ilt_T, ilt_F, ile_T, ile_F, ieq_T, ieq_F, beq_T, beq_F, true_implies, ne_eq, not_true_eq_false, false_implies, and_true, true_and, or_self, reduceCtorEq]
      refine ⟨fun h => fun g => ?_, fun h => ⟨wr_succ (by omega), fun _ => ⟨by simpa using h.1, fun _ => ?_⟩⟩⟩
      · have g1 := g hi
        rcases h with h | h
        · simp [g1.1] at h
        · have := g1.2 h0; omega
      · rcases h.2 with h2 | h2 <;> omega
    · have hz : i = 0 := by omega
      subst hz
      rw [cnd_t (by simp [bor, band, bnot, ilt])]
      simp only [w_bind, w_cnd, w_some, band_T, band_F, bor_T, bor_F, bnot_T, bnot_F, ilt_T, ilt_F, ile_T, ile_F, ieq_T, ieq_F, beq_T, beq_F, true_implies, ne_eq, not_true_eq_false, false_implies, and_true, true_and, or_self, reduceCtorEq]
      refine ⟨fun h => fun g => ?_, fun h => ⟨wr_succ (by omega), fun _ => ⟨by simpa using h.1, fun h => by omega⟩⟩⟩
      have g1 := g hi
      rcases h with h | h
      · simp [g1.1] at h
      · have := h.1; omega
  · simp only [L_venue_Right_122]
    rw [cnd_f (len_end _), w_some]
    trivial
theorem r_sets (v : SVenue) (hl : v.orders.length < 999999) (q0 : Bool) : Wq (iterN (fun x : Int × Bool => L_snaffleref16_Right_250 v x.fst x.snd) LF (0, q0)) fun w => match w with | .inl b => b = false ∧ ¬ ∀ i, i < v.orders.length → setsP v.orders i | .inr _ => ∀ i, i < v.orders.length → setsP v.orders i := by
  refine w_all (step := fun x : Int × Bool => L_snaffleref16_Right_250 v x.fst x.snd) hl (setsP v.orders) (fun i q hi hj => ?_) (fun q => ?_) q0
  · have key : bor (bor (bor (bor (bnot (decide (ordP v.orders[i]))) (ieq v.orders[i].phase 1)) (bnot (ieq v.orders[i].newQty 0))) (bnot (ieq v.orders[i].newPrice 0))) v.orders[i].asked = decide (¬ setP v.orders[i]) := by
      rw [Bool.eq_iff_iff]
      simp only [band_T, band_F, bor_T, bor_F, bnot_T, bnot_F, ilt_T, ilt_F, ile_T, ile_F, ieq_T, ieq_F, beq_T, beq_F, decide_eq_false_iff_not, decide_eq_true_eq]
      constructor
      · rintro ((((h | h) | h) | h) | h) g
        · exact h g.1
        · exact g.2.1 h
        · exact h g.2.2.1
        · exact h (setP_price g)
        · rw [g.2.2.2] at h; cases h
      · intro h
        by_cases h1 : ordP v.orders[i]
        · by_cases h2 : v.orders[i].phase = 1
          · exact .inl (.inl (.inl (.inr h2)))
          · by_cases h3 : v.orders[i].newQty = 0
            · cases h4 : v.orders[i].asked with
              | true => exact .inr rfl
              | false => exact absurd ⟨h1, h2, h3, h4⟩ h
            · exact .inl (.inl (.inr h3))
        · exact .inl (.inl (.inl (.inl h1)))
    simp only [L_snaffleref16_Right_250]
    rw [cnd_t (by rw [ilt_nat]; simpa using hi), cnd_t (inb v.orders i hi), lget_nat _ i hi, r_order_Right, ob_some, key]
    by_cases h0 : 0 < i
    · have c2 : band (ile 0 ((i - 1 : Nat) : Int)) (ilt ((i - 1 : Nat) : Int) (len v.orders)) = true := inb v.orders (i - 1) (by omega)
      rw [wr_pred h0 (by omega), cnd_t (by rw [bor_T]; exact .inl c2), lget_nat v.orders (i - 1) (by omega)]
      simp only [w_bind, w_cnd, w_some, band_T, band_F, bor_T, bor_F, bnot_T, bnot_F, ilt_T, ilt_F, ile_T, ile_F, ieq_T, ieq_F, beq_T, beq_F, true_implies, ne_eq, not_true_eq_false, false_implies, and_true, true_and, or_self, reduceCtorEq]
      refine ⟨fun h => fun g => ?_, fun h => ⟨wr_succ (by omega), fun _ => ⟨by simpa using h.1, fun _ => ?_⟩⟩⟩
      · have g1 := g hi
        rcases h with h | h
        · simp [g1.1] at h
        · have := g1.2 h0; omega
      · rcases h.2 with h2 | h2 <;> omega
    · have hz : i = 0 := by omega
      subst hz
      rw [cnd_t (by simp [bor, band, bnot, ilt])]
      simp only [w_bind, w_cnd, w_some, band_T, band_F, bor_T, bor_F, bnot_T, bnot_F, ilt_T, ilt_F, ile_T, ile_F, ieq_T, ieq_F, beq_T, beq_F, true_implies, ne_eq, not_true_eq_false, false_implies, and_true, true_and, or_self, reduceCtorEq]
      refine ⟨fun h => fun g => ?_, fun h => ⟨wr_succ (by omega), fun _ => ⟨by simpa using h.1, fun h => by omega⟩⟩⟩
      have g1 := g hi
      rcases h with h | h
      · simp [g1.1] at h
      · have := h.1; omega
  · simp only [L_snaffleref16_Right_250]
    rw [cnd_f (len_end _), w_some]
    trivial
theorem s_inbox (l : List SMsg) (hl : l.length < 999999) : Wq (iterN (fun x : Int × Int => L_venue_Right_26_slices_IndexFunc_api_Msg_c166_c172 (len l) l x.fst x.snd) LF (0, 0)) fun w => match w with | .inl b => 0 ≤ b ∧ ¬ ∀ i, i < l.length → inP l i | .inr _ => ∀ i, i < l.length → inP l i := by
  refine w_for (n := l.length) (step := fun x : Int × Int => L_venue_Right_26_slices_IndexFunc_api_Msg_c166_c172 (len l) l x.fst x.snd) hl (fun i _ => ∀ j, j < i → inP l j) _ (fun i q hi hj => ?_) (fun q hj => ?_) 0 0 (Nat.zero_le _) (fun j hj => by omega)
  · simp only [L_venue_Right_26_slices_IndexFunc_api_Msg_c166_c172]
    rw [cnd_t (by rw [ilt_nat]; simpa using hi), cnd_t (inb l i hi), lget_nat l i hi, e_msg, ob_some]
    simp only [w_bind, w_cnd, w_some, band_T, band_F, bor_T, bor_F, bnot_T, bnot_F, ilt_T, ilt_F, ile_T, ile_F, ieq_T, ieq_F, beq_T, beq_F, true_implies, ne_eq, not_true_eq_false, false_implies, and_true, true_and, or_self, reduceCtorEq]
    refine ⟨fun h => ⟨by omega, fun g => ?_⟩, fun h => ⟨wr_succ (by omega), fun j hj2 => ?_⟩⟩
    · have := g i hi hi
      simp [this] at h
    · by_cases e : j = i
      · subst e; exact fun _ => by simpa using h
      · exact hj j (by omega)
  · simp only [L_venue_Right_26_slices_IndexFunc_api_Msg_c166_c172]
    rw [cnd_f (len_end _), w_some]
    exact hj
theorem r_inbox (v : SVenue) (hl : v.inbox.length < 999999) (q0 : Bool) : Wq (iterN (fun x : Int × Bool => L_snaffleref16_Right_58 v x.fst x.snd) LF (0, q0)) fun w => match w with | .inl b => b = false ∧ ¬ ∀ i, i < v.inbox.length → inP v.inbox i | .inr _ => ∀ i, i < v.inbox.length → inP v.inbox i := by
  refine w_all (step := fun x : Int × Bool => L_snaffleref16_Right_58 v x.fst x.snd) hl (inP v.inbox) (fun i q hi hj => ?_) (fun q => ?_) q0
  · simp only [L_snaffleref16_Right_58]
    rw [cnd_t (by rw [ilt_nat]; simpa using hi), cnd_t (inb _ i hi), lget_nat _ i hi, r_msg, ob_some]
    simp only [w_bind, w_cnd, w_some, band_T, band_F, bor_T, bor_F, bnot_T, bnot_F, ilt_T, ilt_F, ile_T, ile_F, ieq_T, ieq_F, beq_T, beq_F, true_implies, ne_eq, not_true_eq_false, false_implies, and_true, true_and, or_self, reduceCtorEq]
    refine ⟨fun h => fun g => ?_, fun h => ⟨wr_succ (by omega), fun _ => by simpa using h⟩⟩
    have := g hi
    simp [this] at h
  · simp only [L_snaffleref16_Right_58]
    rw [cnd_f (len_end _), w_some]
    trivial
theorem s_venue_Right (v : SVenue) (h1 : v.inbox.length < 999999) (h2 : v.notes.length < 999999) (h3 : v.orders.length < 999999) : Wq (F_venue_Right v) fun b => b = true ↔ venP v := by
  unfold F_venue_Right venP
  rw [w_cnd]
  refine ⟨fun h => (w_some _).2 ?_, fun h => ?_⟩
  · simp only [band_T, band_F, bor_T, bor_F, bnot_T, bnot_F, ilt_T, ilt_F, ile_T, ile_F, ieq_T, ieq_F, beq_T, beq_F, len] at h
    constructor
    · intro g; cases g
    · intro g; omega
  simp only [band_T, band_F, bor_T, bor_F, bnot_T, bnot_F, ilt_T, ilt_F, ile_T, ile_F, ieq_T, ieq_F, beq_T, beq_F, len] at h
  refine Wq.bind (s_notes v.notes h2 false) fun w hw => ?_
  match w, hw with
  | .inl b, hh => simp only [sumK, w_some]; simp [hh.1]; intro _ _ _ g; exact absurd g hh.2
  | .inr q, hn =>
  simp only [sumK]
  refine Wq.bind (s_sets v h3 q) fun w hw => ?_
  match w, hw with
  | .inl b, hh => simp only [sumK, w_some]; simp [hh.1]; intro _ _ _ _ g; exact absurd g hh.2
  | .inr q, hs =>
  simp only [sumK]
  refine Wq.bind (s_inbox v.inbox h1) fun w hw => ?_
  match w, hw with
  | .inl b, hh =>
    simp only [sumK, w_some]
    rw [ile_t hh.1, bnot_true]
    simp; intro _ _ _ _ _; have := hh.2; simpa using this
  | .inr q, hi =>
    simp only [sumK, w_some]
    simp only [true_iff]
    exact ⟨⟨by omega, by omega, by omega⟩, hn, hs, hi⟩
theorem r_venue_Right (v : SVenue) (h1 : v.inbox.length < 999999) (h2 : v.notes.length < 999999) (h3 : v.orders.length < 999999) : Wq (F_snaffleref16_Right v) fun b => b = true ↔ venP v := by
  unfold F_snaffleref16_Right venP
  rw [w_cnd]
  refine ⟨fun h => (w_some _).2 ?_, fun h => ?_⟩
  · simp only [band_T, band_F, bor_T, bor_F, bnot_T, bnot_F, ilt_T, ilt_F, ile_T, ile_F, ieq_T, ieq_F, beq_T, beq_F, len] at h
    constructor
    · intro g; cases g
    · intro g; omega
  simp only [band_T, band_F, bor_T, bor_F, bnot_T, bnot_F, ilt_T, ilt_F, ile_T, ile_F, ieq_T, ieq_F, beq_T, beq_F, len] at h
  refine Wq.bind (r_inbox v h1 false) fun w hw => ?_
  match w, hw with
  | .inl b, hh => simp only [sumK, w_some]; simp [hh.1]; intro _ _ _ _ _; have := hh.2; simpa using this
  | .inr q, hi =>
  simp only [sumK]
  refine Wq.bind (r_notes v h2 q) fun w hw => ?_
  match w, hw with
  | .inl b, hh => simp only [sumK, w_some]; simp [hh.1]; intro _ _ _ g; exact absurd g hh.2
  | .inr q, hn =>
  simp only [sumK]
  refine Wq.bind (r_sets v h3 q) fun w hw => ?_
  match w, hw with
  | .inl b, hh => simp only [sumK, w_some]; simp [hh.1]; intro _ _ _ _ g; exact absurd g hh.2
  | .inr q, hs =>
    simp only [sumK, w_some]
    simp only [true_iff]
    exact ⟨⟨by omega, by omega, by omega⟩, hn, hs, hi⟩
noncomputable instance (v : SVenue) : Decidable (venP v) := Classical.propDecidable _
theorem e_venue_Right {v : SVenue} (h1 : v.inbox.length < 999999) (h2 : v.notes.length < 999999) (h3 : v.orders.length < 999999) : F_venue_Right v = some (decide (venP v)) := (s_venue_Right v h1 h2 h3).dec
theorem er_venue_Right {v : SVenue} (h1 : v.inbox.length < 999999) (h2 : v.notes.length < 999999) (h3 : v.orders.length < 999999) : F_snaffleref16_Right v = some (decide (venP v)) := (r_venue_Right v h1 h2 h3).dec
/-- What is known of the orders. -/
theorem venP.ord {v : SVenue} (h : venP v) {o : SOrder} (ho : o ∈ v.orders) : setP o := by
  obtain ⟨i, hi, rfl⟩ := List.mem_iff_getElem.1 ho
  exact (h.2.2.1 i hi hi).1
theorem venP.msg {v : SVenue} (h : venP v) {m : SMsg} (hm : m ∈ v.inbox) : msgP m := by
  obtain ⟨i, hi, rfl⟩ := List.mem_iff_getElem.1 hm
  exact h.2.2.2 i hi hi
theorem e_venue_Find (V : SVenue) (n : Int) (hl : V.orders.length < 999999) : F_venue_Find V n = some (findI V.orders n) := by
  refine Wq.eq ?_
  unfold F_venue_Find
  refine Wq.bind (Q := fun w : Int ⊕ Int => match w with
      | .inl k => ∃ i : Nat, k = i ∧ ∃ h : i < V.orders.length, V.orders[i].id = n ∧ ∀ j, (h : j < V.orders.length) → j < i → V.orders[j].id ≠ n
      | .inr _ => ∀ j, (h : j < V.orders.length) → V.orders[j].id ≠ n)
    (w_for (n := V.orders.length) (step := fun v : Int × Int => L_venue_Find_26_slices_IndexFunc_api_Order_c10 (len V.orders) V.orders n v.fst v.snd) (by omega) (fun i x => ∀ j, (h : j < V.orders.length) → j < i → V.orders[j].id ≠ n) _ ?_ ?_ _ 0 (Nat.zero_le _) (fun j _ h => by omega)) ?_
  · rintro i x hi hx
    simp only [L_venue_Find_26_slices_IndexFunc_api_Order_c10]
    rw [cnd_t (by rw [ilt_nat]; simpa using hi), cnd_t (inb _ i hi), lget_nat _ i hi, w_cnd]
    refine ⟨fun he => (w_some _).2 ⟨i, rfl, hi, by simpa [ieq] using he, hx⟩, fun he => (w_some _).2 ⟨wr_succ (by omega), fun j hj hji => ?_⟩⟩
    by_cases e : j = i
    · subst e; simpa [ieq] using he
    · exact hx j hj (by omega)
  · rintro x hx
    simp only [L_venue_Find_26_slices_IndexFunc_api_Order_c10]
    rw [cnd_f (by rw [ilt_nat]; simp), w_some]
    exact fun j hj => hx j hj hj
  · rintro w hw
    cases w with
    | inl k =>
      obtain ⟨i, rfl, hi, h1, h2⟩ := hw
      have : findZ V.orders n = some i := by
        unfold findZ
        rw [List.findIdx?_eq_some_iff_getElem]
        exact ⟨hi, by simpa using h1, fun j hj => by simpa using h2 j (by omega) hj⟩
      simp only [sumK, w_some, findI, this]
    | inr k =>
      have : findZ V.orders n = none := by
        unfold findZ
        rw [List.findIdx?_eq_none_iff]
        intro o ho
        obtain ⟨j, hj, rfl⟩ := List.getElem_of_mem ho
        simpa using hw j hj
      simp only [sumK, w_some, findI, this]
theorem r_venue_Find (V : SVenue) (n : Int) (hl : V.orders.length < 999999) : F_snaffleref16_Find V n = some (findI V.orders n) := by
  refine Wq.eq ?_
  unfold F_snaffleref16_Find
  refine Wq.bind (Q := fun w : Int ⊕ Int => match w with
      | .inl k => ∃ i : Nat, k = i ∧ ∃ h : i < V.orders.length, V.orders[i].id = n ∧ ∀ j, (h : j < V.orders.length) → j < i → V.orders[j].id ≠ n
      | .inr _ => ∀ j, (h : j < V.orders.length) → V.orders[j].id ≠ n)
    (w_for (n := V.orders.length) (step := fun v : Int × Int => L_snaffleref16_Find_26 n V v.fst v.snd) (by omega) (fun i x => ∀ j, (h : j < V.orders.length) → j < i → V.orders[j].id ≠ n) _ ?_ ?_ _ 0 (Nat.zero_le _) (fun j _ h => by omega)) ?_
  · rintro i x hi hx
    simp only [L_snaffleref16_Find_26]
    rw [cnd_t (by rw [ilt_nat]; simpa using hi), cnd_t (inb _ i hi), lget_nat _ i hi, w_cnd]
    refine ⟨fun he => (w_some _).2 ⟨i, rfl, hi, by simpa [ieq] using he, hx⟩, fun he => (w_some _).2 ⟨wr_succ (by omega), fun j hj hji => ?_⟩⟩
    by_cases e : j = i
    · subst e; simpa [ieq] using he
    · exact hx j hj (by omega)
  · rintro x hx
    simp only [L_snaffleref16_Find_26]
    rw [cnd_f (by rw [ilt_nat]; simp), w_some]
    exact fun j hj => hx j hj hj
  · rintro w hw
    cases w with
    | inl k =>
      obtain ⟨i, rfl, hi, h1, h2⟩ := hw
      have : findZ V.orders n = some i := by
        unfold findZ
        rw [List.findIdx?_eq_some_iff_getElem]
        exact ⟨hi, by simpa using h1, fun j hj => by simpa using h2 j (by omega) hj⟩
      simp only [sumK, w_some, findI, this]
    | inr k =>
      have : findZ V.orders n = none := by
        unfold findZ
        rw [List.findIdx?_eq_none_iff]
        intro o ho
        obtain ⟨j, hj, rfl⟩ := List.getElem_of_mem ho
        simpa using hw j hj
      simp only [sumK, w_some, findI, this]
theorem findI_nn {l : List SOrder} {n : Int} : 0 ≤ findI l n ↔ n ∈ l.map (·.id) := by
  cases h : findZ l n with
  | none =>
    rw [findI_none h]
    constructor
    · intro g; omega
    · intro g
      obtain ⟨o, ho, e⟩ := List.mem_map.1 g
      exact absurd e (findZ_none h o ho)
  | some k =>
    rw [findI_some h]
    obtain ⟨hk, e⟩ := findZ_some h
    exact ⟨fun _ => List.mem_map.2 ⟨_, List.getElem_mem hk, e⟩, fun _ => by omega⟩
theorem coming_cons (ks : List Int) (m : SMsg) (r : List SMsg) : comingZ ks (m :: r) = if m.order ∈ ks ∨ m.kind ≠ 1 then comingZ ks r else ⟨m.order, m.account, m.symbol, m.side, m.qty, m.price, 0, 2, 0, 0, 0, false⟩ :: comingZ (m.order :: ks) r := rfl
theorem coming_len : ∀ (ks : List Int) (l : List SMsg), (comingZ ks l).length ≤ l.length
  | _, [] => Nat.le_refl _
  | ks, m :: r => by
    unfold comingZ
    split
    · exact Nat.le_succ_of_le (coming_len ks r)
    · exact Nat.succ_le_succ (coming_len _ r)
theorem rngB_t {n : Int} (h : inI n) : rngB n = true := by
  unfold rngB
  exact band_t (ile_t h.1) (ile_t h.2)
theorem e_Coming {v : SVenue} (h1 : v.inbox.length < 999999) (h3 : v.orders.length < 999999) (ho : ∀ o ∈ v.orders, inI o.id) (hm : ∀ m ∈ v.inbox, inI m.order) : F_truth_coming v = some (comingZ (v.orders.map (·.id)) v.inbox) := by
  unfold F_truth_coming comingF
  rw [cnd_t (band_t (band_t (ile_t (by simp only [len]; omega)) (ile_t (by simp only [len]; omega))) (band_t (List.all_eq_true.2 fun o h => rngB_t (ho o h)) (List.all_eq_true.2 fun m h => rngB_t (hm m h))))]
/-- No New of that order stands ahead. -/
theorem r_first (v : SVenue) (i : Nat) (hi : i < v.inbox.length) (hl : v.inbox.length < 999999) (m : SMsg) :
    Wq (iterN (fun x : Int × Bool => L_snaffleref23_Coming_59706 (i : Int) m v x.fst x.snd) LF (0, true)) fun b => b = true ↔ ∀ j, (hj : j < i) → ¬ ((v.inbox[j]'(by omega)).kind = 1 ∧ (v.inbox[j]'(by omega)).order = m.order) := by
  refine w_for (n := i) (step := fun x : Int × Bool => L_snaffleref23_Coming_59706 (i : Int) m v x.fst x.snd) (by omega) (fun k b => b = true ↔ ∀ j, (hj : j < i) → j < k → ¬ ((v.inbox[j]'(by omega)).kind = 1 ∧ (v.inbox[j]'(by omega)).order = m.order)) _ (fun k q hk hj => ?_) (fun q hj => ?_) true 0 (Nat.zero_le _) (by simp)
  · simp only [L_snaffleref23_Coming_59706]
    have c1 := inb v.inbox k (by omega)
    rw [cnd_t (ilt_t (by omega)), cnd_t c1, cnd_t (by rw [bor_T]; exact .inl c1), lget_nat _ k (by omega)]
    simp only [w_bind, w_cnd, w_some, band_T, band_F, bor_T, bor_F, bnot_T, bnot_F, ilt_T, ilt_F, ile_T, ile_F, ieq_T, ieq_F, beq_T, beq_F, true_implies, ne_eq, not_true_eq_false, false_implies, and_true, true_and, or_self, reduceCtorEq]
    refine ⟨fun h => ⟨wr_succ (by omega), ?_⟩, fun h => ⟨wr_succ (by omega), ?_⟩⟩
    · constructor
      · intro g; cases g
      · intro g; exact absurd h (g k hk (by omega))
    · rw [hj]
      constructor
      · intro g j hj1 hj2
        by_cases e : j = k
        · subst e
          rintro ⟨g1, g2⟩
          rcases h with h | h
          · exact h g1
          · exact h g2
        · exact g j hj1 (by omega)
      · intro g j hj1 hj2; exact g j hj1 (by omega)
  · simp only [L_snaffleref23_Coming_59706]
    rw [cnd_f (by simp [ilt]), w_some]
    show q = true ↔ _
    rw [hj]
    exact ⟨fun g j hj => g j hj hj, fun g j hj _ => g j hj⟩
theorem r_Coming {v : SVenue} (h1 : v.inbox.length < 999999) (h3 : v.orders.length < 999999) : F_snaffleref23_Coming v = some (comingZ (v.orders.map (·.id)) v.inbox) := by
  refine Wq.eq ?_
  unfold F_snaffleref23_Coming
  refine Wq.bind (Q := fun w => w = comingZ (v.orders.map (·.id)) v.inbox) ?_ fun w hw => (w_some _).2 hw
  refine w_for (n := v.inbox.length) (step := fun x : Int × List SOrder => L_snaffleref23_Coming_58 v x.fst x.snd) h1
    (fun i acc => acc.length ≤ i ∧ ∃ ks : List Int, (∀ x, x ∈ ks ↔ x ∈ v.orders.map (·.id) ∨ ∃ j, ∃ hj : j < v.inbox.length, j < i ∧ v.inbox[j].kind = 1 ∧ v.inbox[j].order = x) ∧ comingZ (v.orders.map (·.id)) v.inbox = acc ++ comingZ ks (v.inbox.drop i)) _ (fun i acc hi hj => ?_) (fun acc hj => ?_) [] 0 (Nat.zero_le _) ⟨Nat.zero_le _, v.orders.map (·.id), fun x => by simp, by simp⟩
  · obtain ⟨ha, ks, hk, he⟩ := hj
    simp only [L_snaffleref23_Coming_58]
    rw [cnd_t (by rw [ilt_nat]; simpa using hi), cnd_t (inb _ i hi), lget_nat _ i hi]
    rw [List.drop_eq_getElem_cons hi, coming_cons] at he
    by_cases hk1 : v.inbox[i].kind = 1
    · rw [hk1, ieq_refl, bnot_true, bnot_false, cnd_true, r_venue_Find v _ h3, ob_some, bor_false]
      by_cases hf : 0 ≤ findI v.orders v.inbox[i].order
      · have hm : v.inbox[i].order ∈ ks := (hk _).2 (.inl (findI_nn.1 hf))
        rw [if_pos (.inl hm)] at he
        rw [cnd_t (ile_t hf), w_some]
        refine ⟨wr_succ (by omega), by omega, ks, fun x => ?_, he⟩
        rw [hk]
        constructor
        · rintro (g | ⟨j, hj, g1, g2, g3⟩)
          · exact .inl g
          · exact .inr ⟨j, hj, by omega, g2, g3⟩
        · rintro (g | ⟨j, hj, g1, g2, g3⟩)
          · exact .inl g
          · by_cases e : j = i
            · subst e; subst g3; exact .inl (findI_nn.1 hf)
            · exact .inr ⟨j, hj, by omega, g2, g3⟩
      · rw [cnd_f (ile_f hf)]
        refine (r_first v i hi h1 v.inbox[i]).bind fun b hb => ?_
        rw [w_cnd]
        have hmem : v.inbox[i].order ∈ ks ↔ ¬ b = true := by
          rw [hk, hb]
          constructor
          · rintro (g | ⟨j, hj, g1, g2, g3⟩) g4
            · exact hf (findI_nn.2 g)
            · exact g4 j g1 ⟨g2, g3⟩
          · intro g
            refine Decidable.byContradiction fun g2 => g fun j hj g3 => g2 (.inr ⟨j, by omega, hj, g3.1, g3.2⟩)
        have hnew : ∀ x, (x ∈ ks ∨ x = v.inbox[i].order) ↔ x ∈ v.orders.map (·.id) ∨ ∃ j, ∃ hj : j < v.inbox.length, j < i + 1 ∧ v.inbox[j].kind = 1 ∧ v.inbox[j].order = x := fun x => by
          rw [hk]
          constructor
          · rintro ((g | ⟨j, hj, g1, g2, g3⟩) | g)
            · exact .inl g
            · exact .inr ⟨j, hj, by omega, g2, g3⟩
            · exact .inr ⟨i, hi, by omega, hk1, g.symm⟩
          · rintro (g | ⟨j, hj, g1, g2, g3⟩)
            · exact .inl (.inl g)
            · by_cases e : j = i
              · subst e; exact .inr g3.symm
              · exact .inl (.inr ⟨j, hj, by omega, g2, g3⟩)
        refine ⟨fun h => ?_, fun h => ?_⟩
        · have hn : v.inbox[i].order ∉ ks := fun g => hmem.1 g h
          rw [if_neg (by rintro (g | g); exact hn g; exact g hk1)] at he
          rw [cnd_t (ile_t (by simp only [len, lapp, List.length_append, List.length_singleton]; omega)), w_some]
          refine ⟨wr_succ (by omega), by simp [lapp]; omega, v.inbox[i].order :: ks, fun x => ?_, by rw [he]; simp [lapp]⟩
          rw [← hnew]; simp [or_comm]
        · have hm : v.inbox[i].order ∈ ks := hmem.2 (by simp [h])
          rw [if_pos (.inl hm)] at he
          rw [w_some]
          refine ⟨wr_succ (by omega), by omega, ks, fun x => ?_, he⟩
          rw [← hnew]
          constructor
          · exact .inl
          · rintro (g | g)
            · exact g
            · subst g; exact hm
    · have e : ieq v.inbox[i].kind 1 = false := by simpa [ieq] using hk1
      rw [e, bnot_false, bnot_true, cnd_false, ob_some, bor_true, cnd_true, w_some]
      rw [if_pos (.inr hk1)] at he
      refine ⟨wr_succ (by omega), by omega, ks, fun x => ?_, he⟩
      rw [hk]
      constructor
      · rintro (g | ⟨j, hj, g1, g2, g3⟩)
        · exact .inl g
        · exact .inr ⟨j, hj, by omega, g2, g3⟩
      · rintro (g | ⟨j, hj, g1, g2, g3⟩)
        · exact .inl g
        · by_cases e : j = i
          · subst e; exact absurd g2 hk1
          · exact .inr ⟨j, hj, by omega, g2, g3⟩
  · obtain ⟨_, ks, _, he⟩ := hj
    simp only [L_snaffleref23_Coming_58]
    rw [cnd_f (len_end _), w_some]
    rw [he, List.drop_length]; simp [comingZ]
/-- What is known of those that come. -/
theorem coming_mem {o : SOrder} : ∀ {ks : List Int} {l : List SMsg}, o ∈ comingZ ks l → o.id ∉ ks ∧ ∃ m ∈ l, m.kind = 1 ∧ o = ⟨m.order, m.account, m.symbol, m.side, m.qty, m.price, 0, 2, 0, 0, 0, false⟩
  | _, [], h => by simp [comingZ] at h
  | ks, m :: r, h => by
    unfold comingZ at h
    split at h
    · obtain ⟨h1, q, h2, h3⟩ := coming_mem h
      exact ⟨h1, q, List.mem_cons_of_mem _ h2, h3⟩
    · rename_i hn
      rcases List.mem_cons.1 h with rfl | h
      · refine ⟨fun g => hn (.inl g), m, List.mem_cons_self, ?_, rfl⟩
        exact Decidable.byContradiction fun g => hn (.inr g)
      · obtain ⟨h1, q, h2, h3⟩ := coming_mem h
        exact ⟨fun g => h1 (List.mem_cons_of_mem _ g), q, List.mem_cons_of_mem _ h2, h3⟩
def sumL : List Int → Int
  | [] => 0
  | a :: r => a + sumL r
theorem sumL_app : ∀ (a b : List Int), sumL (a ++ b) = sumL a + sumL b
  | [], b => by simp [sumL]
  | x :: a, b => by simp only [List.cons_append, sumL, sumL_app a b]; omega
theorem sumL_nn : ∀ {l : List Int}, (∀ x ∈ l, 0 ≤ x) → 0 ≤ sumL l
  | [], _ => Int.le_refl _
  | a :: r, h => by
    have := h a List.mem_cons_self
    have := sumL_nn fun x hx => h x (List.mem_cons_of_mem a hx)
    simp only [sumL]; omega
theorem sumL_take {l : List Int} {i : Nat} (hi : i < l.length) : sumL (l.take (i + 1)) = sumL (l.take i) + l[i] := by
  rw [List.take_succ_eq_append_getElem hi, sumL_app]; simp [sumL]
theorem sumL_drop {l : List Int} {i : Nat} (hi : i < l.length) (h : ∀ x ∈ l, 0 ≤ x) : sumL (l.take i) + l[i] ≤ sumL l := by
  have h1 : sumL l = sumL (l.take (i + 1)) + sumL (l.drop (i + 1)) := by rw [← sumL_app, List.take_append_drop]
  have h2 : 0 ≤ sumL (l.drop (i + 1)) := sumL_nn fun x hx => h x (List.mem_of_mem_drop hx)
  rw [sumL_take hi] at h1
  omega
def hereP (o : SOrder) (a y : Int) : Prop := o.account = a ∧ o.symbol = y
instance (o : SOrder) (a y : Int) : Decidable (hereP o a y) := by unfold hereP; infer_instance
def boughtL (l : List SOrder) (a y : Int) : List Int := (l.filter fun o => decide (hereP o a y ∧ o.side = 1)).map (·.filled)
def soldL (l : List SOrder) (a y : Int) : List Int := (l.filter fun o => decide (hereP o a y ∧ o.side ≠ 1)).map (·.filled)
def posZ (l : List SOrder) (a y : Int) : Int := sumL (boughtL l a y) - sumL (soldL l a y)
theorem fil_succ {α : Type} (p : α → Bool) {l : List α} {i : Nat} (hi : i < l.length) : (l.take (i + 1)).filter p = (l.take i).filter p ++ if p l[i] then [l[i]] else [] := by
  rw [List.take_succ_eq_append_getElem hi, List.filter_append]
  congr 1
  by_cases h : p l[i] <;> simp [h]
theorem bought_succ {l : List SOrder} {a y : Int} {i : Nat} (hi : i < l.length) : boughtL (l.take (i + 1)) a y = boughtL (l.take i) a y ++ if hereP l[i] a y ∧ l[i].side = 1 then [l[i].filled] else [] := by
  unfold boughtL
  rw [fil_succ _ hi, List.map_append]
  congr 1
  by_cases h : hereP l[i] a y ∧ l[i].side = 1
  · rw [if_pos h, if_pos (by simpa using h)]; rfl
  · rw [if_neg h, if_neg (by simpa using h)]; rfl
theorem sold_succ {l : List SOrder} {a y : Int} {i : Nat} (hi : i < l.length) : soldL (l.take (i + 1)) a y = soldL (l.take i) a y ++ if hereP l[i] a y ∧ l[i].side ≠ 1 then [l[i].filled] else [] := by
  unfold soldL
  rw [fil_succ _ hi, List.map_append]
  congr 1
  by_cases h : hereP l[i] a y ∧ l[i].side ≠ 1
  · rw [if_pos h, if_pos (by simpa using h)]; rfl
  · rw [if_neg h, if_neg (by simpa using h)]; rfl
theorem bought_len (l : List SOrder) (a y : Int) : (boughtL l a y).length ≤ l.length := by
  unfold boughtL; rw [List.length_map]; exact List.length_filter_le _ _
theorem sold_len (l : List SOrder) (a y : Int) : (soldL l a y).length ≤ l.length := by
  unfold soldL; rw [List.length_map]; exact List.length_filter_le _ _
theorem bought_mem {l : List SOrder} {a y x : Int} (h : x ∈ boughtL l a y) : ∃ o ∈ l, o.filled = x := by
  unfold boughtL at h
  obtain ⟨o, h1, h2⟩ := List.mem_map.1 h
  exact ⟨o, (List.mem_filter.1 h1).1, h2⟩
theorem sold_mem {l : List SOrder} {a y x : Int} (h : x ∈ soldL l a y) : ∃ o ∈ l, o.filled = x := by
  unfold soldL at h
  obtain ⟨o, h1, h2⟩ := List.mem_map.1 h
  exact ⟨o, (List.mem_filter.1 h1).1, h2⟩
theorem c_here {α : Type} (o : SOrder) (a y : Int) (x z : α) : cnd (band (ieq o.account a) (ieq o.symbol y)) x z = if hereP o a y then x else z := by
  rw [cnd_if]
  simp only [band_T, band_F, bor_T, bor_F, bnot_T, bnot_F, ilt_T, ilt_F, ile_T, ile_F, ieq_T, ieq_F, beq_T, beq_F]
  rfl
/-- What was bought and sold is gathered. -/
theorem s_gather (l : List SOrder) (a y : Int) (hl : l.length < 999999) : Wq (iterN (fun v : Int × List Int × List Int × Int × Int × Int × Int => L_truth_Pos_122 (len l) l a y v.fst v.snd.fst v.snd.snd.fst v.snd.snd.snd.fst v.snd.snd.snd.snd.fst v.snd.snd.snd.snd.snd.fst v.snd.snd.snd.snd.snd.snd) LF (0, [], [], 0, 0, 0, 0)) fun w => w = (boughtL l a y, soldL l a y, 0, 0, 0, 0) := by
  refine w_for (n := l.length) (step := fun v : Int × List Int × List Int × Int × Int × Int × Int => L_truth_Pos_122 (len l) l a y v.fst v.snd.fst v.snd.snd.fst v.snd.snd.snd.fst v.snd.snd.snd.snd.fst v.snd.snd.snd.snd.snd.fst v.snd.snd.snd.snd.snd.snd) hl
    (fun i x => x = (boughtL (l.take i) a y, soldL (l.take i) a y, 0, 0, 0, 0)) _ (fun i x hi hx => ?_) (fun x hx => ?_) _ 0 (Nat.zero_le _) (by simp [boughtL, soldL])
  · subst hx
    simp only [L_truth_Pos_122]
    have hb := bought_len (l.take i) a y
    have hs := sold_len (l.take i) a y
    rw [List.length_take] at hb hs
    rw [cnd_t (by rw [ilt_nat]; simpa using hi), cnd_t (inb l i hi), lget_nat l i hi, c_here, bought_succ hi, sold_succ hi, wr_succ (by omega)]
    by_cases hh : hereP l[i] a y
    · rw [if_pos hh, c_ieq]
      by_cases h1 : l[i].side = 1
      · rw [if_pos h1, cnd_t (ile_t (by simp only [len, lapp, List.length_append, List.length_singleton]; omega)), w_some]
        refine ⟨rfl, ?_⟩
        rw [if_pos ⟨hh, h1⟩, if_neg (fun g => g.2 h1)]; simp [lapp]
      · rw [if_neg h1, cnd_t (ile_t (by simp only [len, lapp, List.length_append, List.length_singleton]; omega)), w_some]
        refine ⟨rfl, ?_⟩
        rw [if_neg (fun g => h1 g.2), if_pos ⟨hh, h1⟩]; simp [lapp]
    · rw [if_neg hh, w_some]
      refine ⟨rfl, ?_⟩
      rw [if_neg (fun g => hh g.1), if_neg (fun g => hh g.1)]; simp
  · subst hx
    simp only [L_truth_Pos_122]
    rw [cnd_f (len_end _), w_some, List.take_length]
/-- What was bought less what was sold. -/
theorem s_pos (B S : List Int) (x5 x6 x7 : Int) (hB : B.length < 400000) (hS : S.length < 400000) (nB : ∀ x ∈ B, 0 ≤ x ∧ inI x) (nS : ∀ x ∈ S, 0 ≤ x ∧ inI x) :
    Wq (iterN (fun v : Int × Int × Int × List Int × List Int × Int × Int × Int × Int => L_truth_Pos_26_truth_sums_pos_c98 v.fst v.snd.fst v.snd.snd.fst v.snd.snd.snd.fst v.snd.snd.snd.snd.fst v.snd.snd.snd.snd.snd.fst v.snd.snd.snd.snd.snd.snd.fst v.snd.snd.snd.snd.snd.snd.snd.fst v.snd.snd.snd.snd.snd.snd.snd.snd) LF (0, 0, 0, B, S, x5, x6, x7, 0))
      fun w => w.2 = (B, S, x5, x6, x7, if inI (sumL B - sumL S) then 0 else 3) ∧ (inI (sumL B - sumL S) → w.1 = sumL B - sumL S) := by
  have hBn : ∀ x ∈ B, 0 ≤ x := fun x hx => (nB x hx).1
  have hSn : ∀ x ∈ S, 0 ≤ x := fun x hx => (nS x hx).1
  refine w_iter (fun v : Int × Int × Int × List Int × List Int × Int × Int × Int × Int => if v.2.2.2.2.2.2.2.2 = 0 then 1 + (B.length - v.2.1.toNat) + (S.length - v.1.toNat) else 0)
    (fun v => ∃ k i : Nat, v.1 = (k : Int) ∧ v.2.1 = (i : Int) ∧ i ≤ B.length ∧ k ≤ S.length ∧ v.2.2.2.1 = B ∧ v.2.2.2.2.1 = S ∧ v.2.2.2.2.2.1 = x5 ∧ v.2.2.2.2.2.2.1 = x6 ∧ v.2.2.2.2.2.2.2.1 = x7 ∧
      ((v.2.2.2.2.2.2.2.2 = 0 ∧ v.2.2.1 = sumL (B.take i) - sumL (S.take k) ∧ inI v.2.2.1) ∨ (v.2.2.2.2.2.2.2.2 = 3 ∧ ¬ inI (sumL B - sumL S)))) _ ?_ LF _ (lt_LF (by simp only [if_true]; omega)) ⟨0, 0, rfl, rfl, Nat.zero_le _, Nat.zero_le _, rfl, rfl, rfl, rfl, rfl, .inl ⟨rfl, by simp [sumL], by unfold inI; simp⟩⟩
  rintro ⟨k', i', n, B', S', y5, y6, y7, e⟩ ⟨k, i, rfl, rfl, hi, hk, rfl, rfl, rfl, rfl, rfl, hJ⟩
  simp only at hi hk hB hS nB nS hBn hSn hJ
  simp only [L_truth_Pos_26_truth_sums_pos_c98]
  rcases hJ with ⟨rfl, hn, hnI⟩ | ⟨rfl, hbad⟩
  · rw [ieq_refl, band_true]
    by_cases hgo : i < B'.length ∨ k < S'.length
    · rw [cnd_t (by rw [bor_T, ilt_T, ilt_T]; simp only [len]; omega)]
      by_cases hadd : k = S'.length ∨ n < 0 ∧ i < B'.length
      · have hiB : i < B'.length := by rcases hadd with h | h <;> omega
        rw [cnd_t (by rw [bor_T, band_T, ieq_T, ilt_T, ilt_T]; simp only [len]; omega), cnd_t (inb B' i hiB), lget_nat B' i hiB]
        have hb := nB B'[i] (List.getElem_mem hiB)
        rw [e_num_Add hnI hb.2, ob_some, w_some]
        have ht := sumL_take hiB
        have hd := sumL_drop hiB hBn
        by_cases hin : inI (n + B'[i])
        · rw [if_pos hin]
          exact ⟨⟨k, i + 1, rfl, wr_succ (by omega), hiB, hk, rfl, rfl, rfl, rfl, rfl, .inl ⟨rfl, by simp only; rw [ht]; omega, hin⟩⟩, by simp only [if_true]; rw [wr_succ (by omega)]; omega⟩
        · rw [if_neg hin]
          refine ⟨⟨k, i + 1, rfl, wr_succ (by omega), hiB, hk, rfl, rfl, rfl, rfl, rfl, .inr ⟨rfl, fun g => hin ?_⟩⟩, by simp; omega⟩
          unfold inI at *
          rcases hadd with h | h
          · have : S'.take k = S' := by rw [h, List.take_length]
            rw [this] at hn
            omega
          · omega
      · have hkS : k < S'.length := by
          refine Decidable.byContradiction fun g => hadd (.inl (by omega))
        rw [cnd_f (by rw [bor_F, band_F, ieq_F, ilt_F, ilt_F]; simp only [len, ne_eq]; omega), cnd_t (inb S' k hkS), lget_nat S' k hkS]
        have hb := nS S'[k] (List.getElem_mem hkS)
        rw [e_num_Sub hnI hb.2, ob_some, w_some]
        have ht := sumL_take hkS
        have hd := sumL_drop hkS hSn
        by_cases hin : inI (n - S'[k])
        · rw [if_pos hin]
          exact ⟨⟨k + 1, i, wr_succ (by omega), rfl, hi, hkS, rfl, rfl, rfl, rfl, rfl, .inl ⟨rfl, by simp only; rw [ht]; omega, hin⟩⟩, by simp only [if_true]; rw [wr_succ (by omega)]; omega⟩
        · rw [if_neg hin]
          refine ⟨⟨k + 1, i, wr_succ (by omega), rfl, hi, hkS, rfl, rfl, rfl, rfl, rfl, .inr ⟨rfl, fun g => hin ?_⟩⟩, by simp; omega⟩
          unfold inI at *
          by_cases h0 : n < 0
          · have hiB : i = B'.length := by
              refine Decidable.byContradiction fun g => hadd (.inr ⟨h0, by omega⟩)
            have : B'.take i = B' := by rw [hiB, List.take_length]
            rw [this] at hn
            omega
          · omega
    · rw [cnd_f (by rw [bor_F, ilt_F, ilt_F]; simp only [len]; omega), w_some]
      have h1 : B'.take i = B' := by rw [show i = B'.length by omega, List.take_length]
      have h2 : S'.take k = S' := by rw [show k = S'.length by omega, List.take_length]
      rw [h1, h2] at hn
      subst hn
      rw [if_pos hnI]
      exact ⟨rfl, fun _ => rfl⟩
  · rw [cnd_f (by rw [band_F, ieq_F]; left; decide), w_some]
    rw [if_neg hbad]
    exact ⟨rfl, fun g => absurd g hbad⟩
theorem e_may {v : SVenue} (h1 : v.inbox.length < 999999) (h2 : v.notes.length < 999999) (h3 : v.orders.length < 999999) (a y : Int) : F_truth_may v a y = some (decide (venP v ∧ (0 ≤ a ∧ a < 8) ∧ 0 ≤ y ∧ y < 8)) := by
  refine Wq.dec ?_
  unfold F_truth_may
  rw [e_venue_Right h1 h2 h3, ob_some, w_some]
  simp only [band_T, band_F, bor_T, bor_F, bnot_T, bnot_F, ilt_T, ilt_F, ile_T, ile_F, ieq_T, ieq_F, beq_T, beq_F, decide_eq_true_eq]
  grind
theorem filled_ok {l : List SOrder} (h : ∀ o ∈ l, ordP o) (hr : ∀ o ∈ l, Ok_order o) (a y : Int) : (∀ x ∈ boughtL l a y, 0 ≤ x ∧ inI x) ∧ ∀ x ∈ soldL l a y, 0 ≤ x ∧ inI x := by
  constructor
  · intro x hx
    obtain ⟨o, ho, rfl⟩ := bought_mem hx
    exact ⟨(h o ho).2.1, (hr o ho).filled⟩
  · intro x hx
    obtain ⟨o, ho, rfl⟩ := sold_mem hx
    exact ⟨(h o ho).2.1, (hr o ho).filled⟩
theorem e_Pos {v : SVenue} (h1 : v.inbox.length < 400000) (h2 : v.notes.length < 400000) (h3 : v.orders.length < 400000) (hr : ∀ o ∈ v.orders, Ok_order o) (a y : Int) :
    F_truth_Pos v a y = some (if venP v ∧ (0 ≤ a ∧ a < 8) ∧ 0 ≤ y ∧ y < 8 then (if inI (posZ v.orders a y) then (posZ v.orders a y, 0) else (0, 3)) else (0, 1)) := by
  refine Wq.eq ?_
  unfold F_truth_Pos
  rw [e_may (by omega) (by omega) (by omega), ob_some, c_bnot, c_dec]
  split
  · rename_i hv
    obtain ⟨o1, o2⟩ := filled_ok (fun o ho => (hv.1.ord ho).1) hr a y
    have b1 := bought_len v.orders a y
    have b2 := sold_len v.orders a y
    refine (s_gather v.orders a y (by omega)).bind fun w hw => ?_
    subst hw
    refine (s_pos _ _ 0 0 0 (by omega) (by omega) o1 o2).bind fun w hw => ?_
    obtain ⟨n, w⟩ := w
    obtain ⟨rfl, hn⟩ := hw
    show Wq (cnd (bnot (ieq (if inI (posZ v.orders a y) then 0 else 3) 0)) (some (0, 3)) (some (n, 0))) _
    split
    · rename_i hin
      rw [ieq_refl, bnot_true, cnd_false, w_some]
      rw [show n = posZ v.orders a y from hn hin]
    · rw [ieq_30, bnot_false, cnd_true, w_some]
  · rw [w_some]
theorem u64_sum {lo f : Int} (h1 : 0 ≤ lo) (h2 : lo < 18446744073709551616) (h3 : 0 ≤ f) (h4 : inI f) :
    (wr .u64 (iadd lo (wr .u64 f)) < lo ∧ wr .u64 (iadd lo (wr .u64 f)) = lo + f - 18446744073709551616 ∧ 18446744073709551616 ≤ lo + f) ∨ (¬ wr .u64 (iadd lo (wr .u64 f)) < lo ∧ wr .u64 (iadd lo (wr .u64 f)) = lo + f ∧ lo + f < 18446744073709551616) := by
  unfold inI at h4
  unfold iadd
  rw [wr_u64, wr_u64]
  omega
theorem u64_up {h : Int} (h1 : 0 ≤ h) (h2 : h < 1000000) : wr .u64 (iadd h 1) = h + 1 := by
  unfold iadd
  rw [wr_u64]
  omega
/-- What holds of the two big sums. -/
structure Big2 (i : Nat) (S B : Int) (x : Int × Int × Int × Int) : Prop where
  s : x.1 * 18446744073709551616 + x.2.1 = S
  b : x.2.2.1 * 18446744073709551616 + x.2.2.2 = B
  s1 : 0 ≤ x.1 ∧ x.1 ≤ i
  s2 : 0 ≤ x.2.1 ∧ x.2.1 < 18446744073709551616
  b1 : 0 ≤ x.2.2.1 ∧ x.2.2.1 ≤ i
  b2 : 0 ≤ x.2.2.2 ∧ x.2.2.2 < 18446744073709551616
theorem sum_here {a y : Int} {l : List SOrder} {i : Nat} (hi : i < l.length) :
    sumL (boughtL (l.take (i + 1)) a y) = sumL (boughtL (l.take i) a y) + (if hereP l[i] a y ∧ l[i].side = 1 then l[i].filled else 0) ∧
    sumL (soldL (l.take (i + 1)) a y) = sumL (soldL (l.take i) a y) + (if hereP l[i] a y ∧ l[i].side ≠ 1 then l[i].filled else 0) := by
  rw [bought_succ hi, sold_succ hi, sumL_app, sumL_app]
  constructor <;> split <;> simp [sumL]
theorem r_sums {v : SVenue} (h3 : v.orders.length < 400000) (hP : ∀ o ∈ v.orders, ordP o) (hr : ∀ o ∈ v.orders, Ok_order o) (a y : Int) :
    Wq (iterN (fun x : Int × Int × Int × Int × Int => L_snaffleref23_Pos_58 a y v x.fst x.snd.fst x.snd.snd.fst x.snd.snd.snd.fst x.snd.snd.snd.snd) LF (0, 0, 0, 0, 0)) fun w => Big2 400000 (sumL (soldL v.orders a y)) (sumL (boughtL v.orders a y)) w := by
  refine w_for (n := v.orders.length) (step := fun x : Int × Int × Int × Int × Int => L_snaffleref23_Pos_58 a y v x.fst x.snd.fst x.snd.snd.fst x.snd.snd.snd.fst x.snd.snd.snd.snd) (by omega)
    (fun i x => Big2 i (sumL (soldL (v.orders.take i) a y)) (sumL (boughtL (v.orders.take i) a y)) x) _ (fun i x hi hx => ?_) (fun x hx => ?_) _ 0 (Nat.zero_le _) ⟨by simp [soldL, sumL], by simp [boughtL, sumL], by simp, by simp, by simp, by simp⟩
  · obtain ⟨sh, sl, bh, bl⟩ := x
    obtain ⟨e1, e2, e3, e4, e5, e6⟩ := hx
    simp only at e1 e2 e3 e4 e5 e6
    have c1 := inb v.orders i hi
    have hf := (hP _ (List.getElem_mem hi)).2.1
    have hI := (hr _ (List.getElem_mem hi)).filled
    obtain ⟨f1, f2⟩ := sum_here (a := a) (y := y) hi
    simp only [L_snaffleref23_Pos_58]
    rw [cnd_t (by rw [ilt_nat]; simpa using hi), cnd_t c1, lget_nat _ i hi, wr_succ (by omega), cnd_if]
    simp only [band_T, band_F, bor_T, bor_F, bnot_T, bnot_F, ilt_T, ilt_F, ile_T, ile_F, ieq_T, ieq_F, beq_T, beq_F]
    by_cases hh : hereP v.orders[i] a y
    · have hh' := hh
      unfold hereP at hh'
      rw [if_neg (by rw [hh'.1, hh'.2]; simp), c_ieq]
      by_cases h1 : v.orders[i].side = 1
      · rw [if_pos ⟨hh, h1⟩] at f1
        rw [if_neg (fun g => g.2 h1)] at f2
        rw [if_pos h1, c_ilt]
        rcases u64_sum e6.1 e6.2 hf hI with ⟨g1, g2, g3⟩ | ⟨g1, g2, g3⟩
        · rw [if_pos g1, w_some, u64_up e5.1 (by omega)]
          unfold inI at hI
          exact ⟨rfl, by simp only; rw [f2]; omega, by simp only; rw [f1, g2]; omega, by simp only; omega, e4, by simp only; omega, by simp only; rw [g2]; omega⟩
        · rw [if_neg g1, w_some]
          exact ⟨rfl, by simp only; rw [f2]; omega, by simp only; rw [f1, g2]; omega, by simp only; omega, e4, by simp only; omega, by simp only; rw [g2]; omega⟩
      · rw [if_neg (fun g => h1 g.2)] at f1
        rw [if_pos ⟨hh, h1⟩] at f2
        rw [if_neg h1, c_ilt]
        rcases u64_sum e4.1 e4.2 hf hI with ⟨g1, g2, g3⟩ | ⟨g1, g2, g3⟩
        · rw [if_pos g1, w_some, u64_up e3.1 (by omega)]
          unfold inI at hI
          exact ⟨rfl, by simp only; rw [f2, g2]; omega, by simp only; rw [f1]; omega, by simp only; omega, by simp only; rw [g2]; omega, by simp only; omega, e6⟩
        · rw [if_neg g1, w_some]
          exact ⟨rfl, by simp only; rw [f2, g2]; omega, by simp only; rw [f1]; omega, by simp only; omega, by simp only; rw [g2]; omega, by simp only; omega, e6⟩
    · rw [if_neg (fun g => hh g.1)] at f1 f2
      rw [if_pos (by unfold hereP at hh; omega), w_some]
      exact ⟨rfl, by simp only; rw [f2]; omega, by simp only; rw [f1]; omega, by simp only; omega, e4, by simp only; omega, e6⟩
  · obtain ⟨sh, sl, bh, bl⟩ := x
    obtain ⟨e1, e2, e3, e4, e5, e6⟩ := hx
    rw [List.take_length] at e1 e2
    simp only [L_snaffleref23_Pos_58]
    rw [cnd_f (len_end _), w_some]
    exact ⟨e1, e2, by omega, e4, by omega, e6⟩
theorem r_Pos {v : SVenue} (h3 : v.orders.length < 400000) (hP : ∀ o ∈ v.orders, ordP o) (hr : ∀ o ∈ v.orders, Ok_order o) (a y : Int) :
    F_snaffleref23_Pos v a y = some (if inI (posZ v.orders a y) then (posZ v.orders a y, true) else (0, false)) := by
  refine Wq.eq ?_
  unfold F_snaffleref23_Pos
  refine (r_sums h3 hP hr a y).bind fun w hw => ?_
  obtain ⟨sh, sl, bh, bl⟩ := w
  obtain ⟨e1, e2, e3, e4, e5, e6⟩ := hw
  simp only at e1 e2 e3 e4 e5 e6
  unfold posZ
  generalize sumL (boughtL v.orders a y) = B at *
  generalize sumL (soldL v.orders a y) = S at *
  simp only [cnd_if, ob_some, ob_if, band_T, band_F, bor_T, bor_F, bnot_T, bnot_F, ilt_T, ilt_F, ile_T, ile_F, ieq_T, ieq_F, beq_T, beq_F, isub, wr_u64]
  split
  · split
    · split
      · rw [w_some, if_neg (by unfold inI; omega)]
      · rw [w_some, if_pos (by unfold inI; omega), wr_in (by unfold inI; omega)]
        simp only [Prod.mk.injEq, and_true]; omega
    · split
      · rw [w_some, if_neg (by unfold inI; omega)]
      · rw [w_some, if_pos (by unfold inI; omega), wr_in (by unfold inI; omega)]
        simp only [Prod.mk.injEq, and_true]; omega
  · split
    · split
      · rw [w_some, if_neg (by unfold inI; omega)]
      · rw [w_some, if_pos (by unfold inI; omega)]
        simp only [Prod.mk.injEq, and_true]
        unfold wr IntKind.wrap
        simp [IntKind.bits, IntKind.signed]
        omega
    · split
      · rw [w_some, if_neg (by unfold inI; omega)]
      · rw [w_some, if_pos (by unfold inI; omega)]
        simp only [Prod.mk.injEq, and_true]
        unfold wr IntKind.wrap
        simp [IntKind.bits, IntKind.signed]
        omega
def MX : Int := 9223372036854775807
def swapZ (o : SOrder) (m : SMsg) : SOrder := ⟨o.id, o.account, o.symbol, o.side, o.qty, o.price, o.filled, o.phase, m.qty, m.price, o.version, o.asked⟩
def asksP (o : SOrder) (m : SMsg) : Prop := m.kind = 2 ∧ m.order = o.id ∧ o.version < m.version
instance (o : SOrder) (m : SMsg) : Decidable (asksP o m) := by unfold asksP; infer_instance
def mostA (f : SOrder → Int) (o : SOrder) : List SMsg → Int
  | [] => f o
  | m :: r => if asksP o m then max (f (swapZ o m)) (mostA f o r) else mostA f o r
def openA (o : SOrder) (l : List SMsg) : Int := mostA openZ o l
def worthA (o : SOrder) (l : List SMsg) : Int := mostA worthZ o l
theorem most_app (f : SOrder → Int) (o : SOrder) (m : SMsg) : ∀ l : List SMsg, mostA f o (l ++ [m]) = if asksP o m then max (mostA f o l) (f (swapZ o m)) else mostA f o l
  | [] => by
    simp only [List.nil_append, mostA]
    split
    · omega
    · rfl
  | x :: r => by
    simp only [List.cons_append, mostA, most_app f o m r]
    split <;> split <;> omega
theorem most_self (f : SOrder → Int) (o : SOrder) : ∀ l : List SMsg, f o ≤ mostA f o l
  | [] => Int.le_refl _
  | m :: r => by
    have := most_self f o r
    unfold mostA; split <;> omega
theorem most_mem (f : SOrder → Int) (o : SOrder) {m : SMsg} (hm : asksP o m) : ∀ {l : List SMsg}, m ∈ l → f (swapZ o m) ≤ mostA f o l
  | x :: r, h => by
    unfold mostA
    rcases List.mem_cons.1 h with rfl | h
    · rw [if_pos hm]; omega
    · have := most_mem f o hm h
      split <;> omega
/-- It's the least. -/
theorem most_le (f : SOrder → Int) (o : SOrder) {n : Int} (h0 : f o ≤ n) : ∀ {l : List SMsg}, (∀ m ∈ l, asksP o m → f (swapZ o m) ≤ n) → mostA f o l ≤ n
  | [], _ => h0
  | m :: r, h => by
    have h1 := most_le f o h0 fun x hx => h x (List.mem_cons_of_mem m hx)
    have h2 := h m List.mem_cons_self
    unfold mostA
    split
    · rename_i g
      have := h2 g; omega
    · exact h1
theorem most_succ (f : SOrder → Int) (o : SOrder) {l : List SMsg} {i : Nat} (hi : i < l.length) : mostA f o (l.take (i + 1)) = if asksP o l[i] then max (mostA f o (l.take i)) (f (swapZ o l[i])) else mostA f o (l.take i) := by
  rw [List.take_succ_eq_append_getElem hi, most_app]
/-- An order and what waits for it are right. -/
def askR (l : List SMsg) (o : SOrder) : Prop := ordP o ∧ Ok_order o ∧ ∀ m ∈ l, asksP o m → ordP (swapZ o m) ∧ Ok_order (swapZ o m)
theorem openA_rng {l : List SMsg} {o : SOrder} (h : askR l o) : 0 ≤ openA o l ∧ openA o l ≤ MX := by
  have h1 := most_self openZ o l
  have h2 := openZ_rng h.1 h.2.1
  refine ⟨by unfold openA; omega, most_le openZ o h2.2 fun m hm hq => ?_⟩
  exact (openZ_rng (h.2.2 m hm hq).1 (h.2.2 m hm hq).2).2
theorem worthA_nn {l : List SMsg} {o : SOrder} (h : ordP o) : 0 ≤ worthA o l := by
  have h1 := most_self worthZ o l
  have h2 := worthZ_nn h
  unfold worthA; omega
theorem asks_c (o : SOrder) (m : SMsg) : band (band (ieq m.kind 2) (ieq m.order o.id)) (ilt o.version m.version) = decide (asksP o m) := by
  rw [Bool.eq_iff_iff, decide_eq_true_iff]
  simp only [band_T, band_F, bor_T, bor_F, bnot_T, bnot_F, ilt_T, ilt_F, ile_T, ile_F, ieq_T, ieq_F, beq_T, beq_F, asksP, and_assoc]
theorem s_asked {v : SVenue} {o : SOrder} (h1 : v.inbox.length < 999999) (h : askR v.inbox o) : Wq (F_truth_asked v o) fun w => (worthA o v.inbox ≤ MX → w = (openA o v.inbox, worthA o v.inbox, 0)) ∧ (¬ worthA o v.inbox ≤ MX → w.2.2 = 3) := by
  unfold F_truth_asked
  rw [e_order_Open h.1 h.2.1, ob_some, e_order_Worth h.1 h.2.1, ob_some]
  refine Wq.bind (Q := fun w : Int × Int × Int => (worthA o v.inbox ≤ MX → w = (0, worthA o v.inbox, openA o v.inbox)) ∧ (¬ worthA o v.inbox ≤ MX → w.1 = 3)) ?_ fun w hw => (w_some _).2 ⟨fun g => by rw [hw.1 g], fun g => hw.2 g⟩
  refine w_for (n := v.inbox.length) (step := fun x : Int × Int × Int × Int => L_truth_asked_122 (len v.inbox) v.inbox o x.fst x.snd.fst x.snd.snd.fst x.snd.snd.snd) h1
    (fun i x => (x.1 = 0 ∧ x.2.1 = worthA o (v.inbox.take i) ∧ x.2.2 = openA o (v.inbox.take i) ∧ worthA o (v.inbox.take i) ≤ MX) ∨ (x.1 = 3 ∧ ¬ worthA o v.inbox ≤ MX)) _ (fun i x hi hx => ?_) (fun x hx => ?_) _ 0 (Nat.zero_le _) ?_
  · obtain ⟨e, w, q⟩ := x
    simp only at hx
    simp only [L_truth_asked_122]
    rw [cnd_t (by rw [ilt_nat]; simpa using hi), cnd_t (inb _ i hi), lget_nat _ i hi, asks_c, c_bnot, c_ieq, wr_succ (by omega)]
    rcases hx with ⟨rfl, hw, hq, hm⟩ | ⟨rfl, hm⟩
    · rw [if_pos rfl, c_dec]
      have s1 := most_succ worthZ o hi
      have s2 := most_succ openZ o hi
      by_cases ha : asksP o v.inbox[i]
      · obtain ⟨a1, a2⟩ := h.2.2 _ (List.getElem_mem hi) ha
        rw [if_pos ha] at s1 s2
        rw [if_pos ha, show (⟨o.id, o.account, o.symbol, o.side, o.qty, o.price, o.filled, o.phase, v.inbox[i].qty, v.inbox[i].price, o.version, o.asked⟩ : SOrder) = swapZ o v.inbox[i] from rfl]
        rw [e_order_Worth a1 a2, ob_some, e_order_Open a1 a2, ob_some, e_num_Max, ob_some, e_num_Max, ob_some, w_some]
        refine ⟨rfl, ?_⟩
        by_cases hb : worthZ (swapZ o v.inbox[i]) ≤ 9223372036854775807
        · rw [if_pos hb]
          left
          unfold worthA openA MX at *
          refine ⟨rfl, ?_, ?_, ?_⟩
          · rw [s1, ← hw]
          · rw [s2, ← hq]
          · rw [s1]; omega
        · rw [if_neg hb]
          right
          have := most_mem worthZ o ha (List.getElem_mem hi)
          exact ⟨rfl, by unfold worthA MX; omega⟩
      · rw [if_neg ha] at s1 s2
        rw [if_neg ha, w_some]
        refine ⟨rfl, .inl ⟨rfl, ?_, ?_, ?_⟩⟩
        · unfold worthA at *; rw [s1]; exact hw
        · unfold openA at *; rw [s2]; exact hq
        · unfold worthA at *; rw [s1]; exact hm
    · rw [if_neg (by decide), w_some]
      exact ⟨fun g => absurd g hm, fun _ => rfl⟩
  · obtain ⟨e, w, q⟩ := x
    rw [List.take_length] at hx
    simp only at hx
    simp only [L_truth_asked_122]
    rw [cnd_f (len_end _), w_some]
    rcases hx with ⟨rfl, hw, hq, hm⟩ | ⟨rfl, hm⟩
    · exact ⟨fun _ => by rw [hw, hq], fun g => absurd hm g⟩
    · exact ⟨fun g => absurd g hm, fun _ => rfl⟩
  · have h0 := most_self worthZ o v.inbox
    by_cases hb : worthZ o ≤ 9223372036854775807
    · rw [if_pos hb]
      exact .inl ⟨rfl, rfl, rfl, hb⟩
    · rw [if_neg hb]
      exact .inr ⟨rfl, by unfold worthA MX; omega⟩
theorem r_Asked {v : SVenue} {o : SOrder} (h1 : v.inbox.length < 999999) (h : askR v.inbox o) : F_snaffleref23_Asked v o = some (if worthA o v.inbox ≤ MX then (openA o v.inbox, worthA o v.inbox, true) else (0, 0, false)) := by
  refine Wq.eq ?_
  unfold F_snaffleref23_Asked
  rw [r_order_Open h.1 h.2.1, ob_some, r_order_Worth h.1 h.2.1, ob_some]
  have h0 := most_self worthZ o v.inbox
  by_cases hb : worthZ o ≤ 9223372036854775807
  · rw [if_pos hb]
    simp only
    rw [ieq_00, bnot_true, cnd_false]
    refine Wq.bind (Q := fun w : (Bool × Int × Int) ⊕ (Int × Int × Bool × Int × Int) => match w with | .inl w => w = (false, 0, 0) ∧ ¬ worthA o v.inbox ≤ MX | .inr w => w.1 = worthA o v.inbox ∧ w.2.1 = openA o v.inbox ∧ worthA o v.inbox ≤ MX) ?_ fun w hw => ?_
    · refine w_for (n := v.inbox.length) (step := fun x : Int × Int × Int × Bool × Int × Int => L_snaffleref23_Asked_250 o v x.fst x.snd.fst x.snd.snd.fst x.snd.snd.snd.fst x.snd.snd.snd.snd.fst x.snd.snd.snd.snd.snd) h1
        (fun i x => x.1 = worthA o (v.inbox.take i) ∧ x.2.1 = openA o (v.inbox.take i) ∧ worthA o (v.inbox.take i) ≤ MX) _ (fun i x hi hx => ?_) (fun x hx => ?_) _ 0 (Nat.zero_le _) ⟨rfl, rfl, hb⟩
      · obtain ⟨w, q, z⟩ := x
        obtain ⟨hw, hq, hm⟩ := hx
        simp only at hw hq
        simp only [L_snaffleref23_Asked_250]
        have s1 := most_succ worthZ o hi
        have s2 := most_succ openZ o hi
        have ea : bor (bor (bnot (ieq v.inbox[i].kind 2)) (bnot (ieq v.inbox[i].order o.id))) (ile v.inbox[i].version o.version) = decide (¬ asksP o v.inbox[i]) := by
          rw [Bool.eq_iff_iff, decide_eq_true_iff]
          simp only [band_T, band_F, bor_T, bor_F, bnot_T, bnot_F, ilt_T, ilt_F, ile_T, ile_F, ieq_T, ieq_F, beq_T, beq_F, asksP]
          omega
        rw [cnd_t (by rw [ilt_nat]; simpa using hi), cnd_t (inb _ i hi), lget_nat _ i hi, ea, c_dec, wr_succ (by omega)]
        by_cases ha : asksP o v.inbox[i]
        · obtain ⟨a1, a2⟩ := h.2.2 _ (List.getElem_mem hi) ha
          rw [if_pos ha] at s1 s2
          rw [if_neg (fun g => g ha), show (⟨o.id, o.account, o.symbol, o.side, o.qty, o.price, o.filled, o.phase, v.inbox[i].qty, v.inbox[i].price, o.version, o.asked⟩ : SOrder) = swapZ o v.inbox[i] from rfl]
          rw [r_order_Open a1 a2, ob_some, c_ilt, r_order_Worth a1 a2, ob_some, ob_some]
          simp only [ob_some]
          by_cases hb : worthZ (swapZ o v.inbox[i]) ≤ 9223372036854775807
          · rw [if_pos hb]
            simp only [ieq_00, bnot_true, cnd_false, c_ilt]
            unfold worthA openA MX at *
            rw [hw, hq]
            split <;> split <;> (rw [w_some]; refine ⟨rfl, ?_, ?_, ?_⟩ <;> simp only [s1, s2] <;> omega)
          · rw [if_neg hb]
            simp only [ieq_30, bnot_false, cnd_true]
            have := most_mem worthZ o ha (List.getElem_mem hi)
            split <;> (rw [w_some]; exact ⟨rfl, by unfold worthA MX; omega⟩)
        · rw [if_neg ha] at s1 s2
          rw [if_pos ha, w_some]
          refine ⟨rfl, ?_, ?_, ?_⟩
          · unfold worthA at *; rw [s1]; exact hw
          · unfold openA at *; rw [s2]; exact hq
          · unfold worthA at *; rw [s1]; exact hm
      · obtain ⟨w, q, z⟩ := x
        rw [List.take_length] at hx
        simp only [L_snaffleref23_Asked_250]
        rw [cnd_f (len_end _), w_some]
        exact hx
    · match w, hw with
      | .inl w, hw => rw [hw.1, if_neg hw.2]; exact (w_some _).2 rfl
      | .inr w, hw => rw [if_pos hw.2.2, ← hw.1, ← hw.2.1]; exact (w_some _).2 rfl
  · rw [if_neg hb, if_neg (show ¬ worthA o v.inbox ≤ MX by unfold worthA MX; omega)]
    simp only
    rw [ieq_30, bnot_false, cnd_true, w_some]
def sumF (f : SOrder → Int) : List SOrder → Int
  | [] => 0
  | o :: r => f o + sumF f r
theorem sumF_app (f : SOrder → Int) : ∀ a b : List SOrder, sumF f (a ++ b) = sumF f a + sumF f b
  | [], b => by simp [sumF]
  | x :: a, b => by simp only [List.cons_append, sumF, sumF_app f a b]; omega
theorem sumF_nn {f : SOrder → Int} : ∀ {l : List SOrder}, (∀ x ∈ l, 0 ≤ f x) → 0 ≤ sumF f l
  | [], _ => Int.le_refl _
  | a :: r, h => by
    have := h a List.mem_cons_self
    have := sumF_nn fun x hx => h x (List.mem_cons_of_mem a hx)
    simp only [sumF]; omega
theorem sumF_succ (f : SOrder → Int) {l : List SOrder} {i : Nat} (hi : i < l.length) : sumF f (l.take (i + 1)) = sumF f (l.take i) + f l[i] := by
  rw [List.take_succ_eq_append_getElem hi, sumF_app]; simp [sumF]
theorem sumF_part {f : SOrder → Int} {l : List SOrder} {i : Nat} (hi : i < l.length) (h : ∀ x ∈ l, 0 ≤ f x) : 0 ≤ sumF f (l.take i) ∧ sumF f (l.take i) + f l[i] ≤ sumF f l := by
  have h1 : sumF f l = sumF f (l.take (i + 1)) + sumF f (l.drop (i + 1)) := by rw [← sumF_app, List.take_append_drop]
  have h2 : 0 ≤ sumF f (l.drop (i + 1)) := sumF_nn fun x hx => h x (List.mem_of_mem_drop hx)
  rw [sumF_succ f hi] at h1
  exact ⟨sumF_nn fun x hx => h x (List.mem_of_mem_take hx), by omega⟩
def longF (l : List SMsg) (a y : Int) (o : SOrder) : Int := if (hereP o a y ∧ o.phase = 2) ∧ o.side = 1 then openA o l else 0
def shortF (l : List SMsg) (a y : Int) (o : SOrder) : Int := if (hereP o a y ∧ o.phase = 2) ∧ o.side ≠ 1 then openA o l else 0
def worthF (l : List SMsg) (a y : Int) (o : SOrder) : Int := if hereP o a y ∧ o.phase = 2 then worthA o l else 0
/-- All orders that are known or come. -/
def allO (v : SVenue) : List SOrder := v.orders ++ comingZ (v.orders.map (·.id)) v.inbox
/-- Right orders, with what waits. -/
def okO (l : List SMsg) (o : SOrder) : Prop := ordP o ∧ Ok_order o ∧ (o.phase = 2 → askR l o)
theorem longF_rng {l : List SMsg} {a y : Int} {o : SOrder} (h : okO l o) : 0 ≤ longF l a y o ∧ longF l a y o ≤ MX := by
  unfold longF; split
  · rename_i g; exact openA_rng (h.2.2 g.1.2)
  · unfold MX; omega
theorem shortF_rng {l : List SMsg} {a y : Int} {o : SOrder} (h : okO l o) : 0 ≤ shortF l a y o ∧ shortF l a y o ≤ MX := by
  unfold shortF; split
  · rename_i g; exact openA_rng (h.2.2 g.1.2)
  · unfold MX; omega
theorem worthF_nn {l : List SMsg} {a y : Int} {o : SOrder} (h : okO l o) : 0 ≤ worthF l a y o := by
  unfold worthF; split
  · exact worthA_nn h.1
  · omega
/-- An order that waits is right. -/
theorem swap_ok {o : SOrder} {m : SMsg} (ho : ordP o) (h2 : o.phase = 2) (hr : Ok_order o) (hm : msgP m) (hk : m.kind = 2) (hmr : Ok_msg m) : ordP (swapZ o m) ∧ Ok_order (swapZ o m) := by
  obtain ⟨b, f0, f1, v0, p, ph⟩ := ho
  have hq : 1 ≤ m.qty ∧ 1 ≤ m.price := by
    have := hm.2.2.2.2.2
    omega
  constructor
  · refine ⟨b, f0, f1, v0, fun _ => hq, .inr (.inl ⟨h2, ?_⟩)⟩
    show o.filled < o.qty
    omega
  · exact ⟨hr.id, hr.account, hr.symbol, hr.side, hr.qty, hr.price, hr.filled, hr.phase, hmr.qty, hmr.price, hr.version⟩
theorem ask_ok {l : List SMsg} {o : SOrder} (ho : ordP o) (h2 : o.phase = 2) (hr : Ok_order o) (hl : ∀ m ∈ l, msgP m ∧ Ok_msg m) : askR l o :=
  ⟨ho, hr, fun m hm hq => swap_ok ho h2 hr (hl m hm).1 hq.1 (hl m hm).2⟩
theorem newO_ok {m : SMsg} (hm : msgP m) (hk : m.kind = 1) (hr : Ok_msg m) : setP ⟨m.order, m.account, m.symbol, m.side, m.qty, m.price, 0, 2, 0, 0, 0, false⟩ ∧ Ok_order ⟨m.order, m.account, m.symbol, m.side, m.qty, m.price, 0, 2, 0, 0, 0, false⟩ := by
  obtain ⟨k, ha, hy, hs, _, h⟩ := hm
  have hq : 1 ≤ m.qty ∧ 1 ≤ m.price := by omega
  refine ⟨⟨⟨⟨k, ha, hy, hs, hq⟩, by simp, by simp; omega, by simp, fun g => ?_, .inr (.inl ⟨rfl, by simp; omega⟩)⟩, by simp, rfl, rfl⟩, ?_⟩
  · rcases g with g | g <;> exact absurd rfl g
  · exact ⟨hr.order, hr.account, hr.symbol, hr.side, hr.qty, hr.price, by unfold inI; simp, by unfold inI; simp, by unfold inI; simp, by unfold inI; simp, by unfold inI; simp⟩
theorem all_ok {v : SVenue} (h : venP v) (hr : Ok_venue v) : ∀ o ∈ allO v, okO v.inbox o := fun o ho => by
  have hl : ∀ m ∈ v.inbox, msgP m ∧ Ok_msg m := fun m hm => ⟨h.msg hm, hr.inbox.1 m hm⟩
  rcases List.mem_append.1 ho with ho | ho
  · have := h.ord ho
    have r := hr.orders.1 o ho
    exact ⟨this.1, r, fun h2 => ask_ok this.1 h2 r hl⟩
  · obtain ⟨_, m, hm, hk, rfl⟩ := coming_mem ho
    obtain ⟨a1, a2⟩ := newO_ok (hl m hm).1 hk (hl m hm).2
    exact ⟨a1.1, a2, fun h2 => ask_ok a1.1 h2 a2 hl⟩
theorem all_len (v : SVenue) : (allO v).length ≤ v.orders.length + v.inbox.length := by
  unfold allO
  rw [List.length_append]
  have := coming_len (v.orders.map (·.id)) v.inbox
  omega
def sumsP (v : SVenue) (L : List SOrder) (a y : Int) : Prop := sumF (longF v.inbox a y) L ≤ MX ∧ sumF (shortF v.inbox a y) L ≤ MX ∧ sumF (worthF v.inbox a y) L ≤ MX
theorem inI_nn {n : Int} (h0 : 0 ≤ n) : inI n ↔ n ≤ MX := by unfold inI MX; omega
theorem s_ofloop {v : SVenue} {L : List SOrder} (h1 : v.inbox.length < 400000) (hL : L.length < 400000) (h : ∀ o ∈ L, okO v.inbox o) (a y : Int) :
    Wq (iterN (fun x : Int × List Int × List Int × Int × Int × Int × Int => L_truth_Of_122 (len L) a y L v x.fst x.snd.fst x.snd.snd.fst x.snd.snd.snd.fst x.snd.snd.snd.snd.fst x.snd.snd.snd.snd.snd.fst x.snd.snd.snd.snd.snd.snd) LF (0, [], [], 0, 0, 0, 0))
      fun w => w.1 = boughtL L a y ∧ w.2.1 = soldL L a y ∧ ((w.2.2 = (sumF (longF v.inbox a y) L, sumF (shortF v.inbox a y) L, sumF (worthF v.inbox a y) L, 0) ∧ sumsP v L a y) ∨ (w.2.2.2.2.2 = 3 ∧ ¬ sumsP v L a y)) := by
  have nl : ∀ o ∈ L, 0 ≤ longF v.inbox a y o := fun o ho => (longF_rng (h o ho)).1
  have ns : ∀ o ∈ L, 0 ≤ shortF v.inbox a y o := fun o ho => (shortF_rng (h o ho)).1
  have nw : ∀ o ∈ L, 0 ≤ worthF v.inbox a y o := fun o ho => worthF_nn (h o ho)
  refine w_for (n := L.length) (step := fun x : Int × List Int × List Int × Int × Int × Int × Int => L_truth_Of_122 (len L) a y L v x.fst x.snd.fst x.snd.snd.fst x.snd.snd.snd.fst x.snd.snd.snd.snd.fst x.snd.snd.snd.snd.snd.fst x.snd.snd.snd.snd.snd.snd) (by omega)
    (fun i x => x.1 = boughtL (L.take i) a y ∧ x.2.1 = soldL (L.take i) a y ∧ ((x.2.2.1 = sumF (longF v.inbox a y) (L.take i) ∧ x.2.2.2.1 = sumF (shortF v.inbox a y) (L.take i) ∧ x.2.2.2.2.1 = sumF (worthF v.inbox a y) (L.take i) ∧ x.2.2.2.2.2 = 0 ∧ sumsP v (L.take i) a y) ∨ (x.2.2.2.2.2 = 3 ∧ ¬ sumsP v L a y))) _ (fun i x hi hx => ?_) (fun x hx => ?_) _ 0 (Nat.zero_le _) ⟨by simp [boughtL], by simp [soldL], .inl ⟨rfl, rfl, rfl, rfl, by simp [sumsP, sumF, MX]⟩⟩
  · obtain ⟨B, S, lo, sh, op, e⟩ := x
    obtain ⟨rfl, rfl, hx⟩ := hx
    simp only at hx
    have hb := bought_len (L.take i) a y
    have hs := sold_len (L.take i) a y
    rw [List.length_take] at hb hs
    have ho := h _ (List.getElem_mem hi)
    have p1 := sumF_part hi nl
    have p2 := sumF_part hi ns
    have p3 := sumF_part hi nw
    have eh : bor (bnot (ieq L[i].account a)) (bnot (ieq L[i].symbol y)) = decide (¬ hereP L[i] a y) := by
      rw [Bool.eq_iff_iff, decide_eq_true_iff]
      simp only [band_T, band_F, bor_T, bor_F, bnot_T, bnot_F, ilt_T, ilt_F, ile_T, ile_F, ieq_T, ieq_F, beq_T, beq_F, hereP]
      omega
    have lB : ile (len (lapp (boughtL (L.take i) a y) [L[i].filled])) 68719476736 = true := ile_t (by simp only [len, lapp, List.length_append, List.length_singleton]; omega)
    have lS : ile (len (lapp (soldL (L.take i) a y) [L[i].filled])) 68719476736 = true := ile_t (by simp only [len, lapp, List.length_append, List.length_singleton]; omega)
    simp only [L_truth_Of_122]
    rw [cnd_t (by rw [ilt_nat]; simpa using hi), cnd_t (inb L i hi), lget_nat L i hi, eh, c_dec, wr_succ (by omega)]
    have f1 := sumF_succ (longF v.inbox a y) hi
    have f2 := sumF_succ (shortF v.inbox a y) hi
    have f3 := sumF_succ (worthF v.inbox a y) hi
    by_cases hh : hereP L[i] a y
    · rw [if_neg (fun g => g hh), bought_succ hi, sold_succ hi]
      have stay : ∀ w1 w2 : Int, (lo = sumF (longF v.inbox a y) (L.take i) ∧ sh = sumF (shortF v.inbox a y) (L.take i) ∧ op = sumF (worthF v.inbox a y) (L.take i) ∧ e = 0 ∧ sumsP v (L.take i) a y) ∨ (e = 3 ∧ ¬ sumsP v L a y) → L[i].phase ≠ 2 →
          (lo = sumF (longF v.inbox a y) (L.take (i + 1)) ∧ sh = sumF (shortF v.inbox a y) (L.take (i + 1)) ∧ op = sumF (worthF v.inbox a y) (L.take (i + 1)) ∧ e = 0 ∧ sumsP v (L.take (i + 1)) a y) ∨ (e = 3 ∧ ¬ sumsP v L a y) := by
        intro _ _ hx hp
        refine hx.imp (fun g => ?_) id
        have z1 : longF v.inbox a y L[i] = 0 := if_neg (fun g => hp g.1.2)
        have z2 : shortF v.inbox a y L[i] = 0 := if_neg (fun g => hp g.1.2)
        have z3 : worthF v.inbox a y L[i] = 0 := if_neg (fun g => hp g.2)
        unfold sumsP at *
        rw [f1, f2, f3, z1, z2, z3]
        simpa using g
      by_cases h1 : L[i].side = 1
      · have e1 : ieq L[i].side 1 = true := by rw [h1]; rfl
        rw [e1, cnd_true, cnd_t lB, c_ieq, if_pos (show hereP L[i] a y ∧ L[i].side = 1 from ⟨hh, h1⟩), if_neg (show ¬ (hereP L[i] a y ∧ L[i].side ≠ 1) from fun g => g.2 h1)]
        by_cases hp : L[i].phase = 2
        · have z1 : longF v.inbox a y L[i] = openA L[i] v.inbox := if_pos ⟨⟨hh, hp⟩, h1⟩
          have z2 : shortF v.inbox a y L[i] = 0 := if_neg (fun g => g.2 h1)
          have z3 : worthF v.inbox a y L[i] = worthA L[i] v.inbox := if_pos ⟨hh, hp⟩
          have hO := openA_rng (ho.2.2 hp)
          have hW := worthA_nn (l := v.inbox) ho.1
          rw [if_pos hp]
          refine (s_asked (by omega) (ho.2.2 hp)).bind fun w hw => ?_
          simp only [cnd_true]
          rcases hx with ⟨rfl, rfl, rfl, rfl, hm⟩ | ⟨rfl, hm⟩
          · rw [ieq_refl, cnd_true]
            by_cases hb : worthA L[i] v.inbox ≤ MX
            · rw [hw.1 hb]
              simp only
              unfold sumsP at hm ⊢
              rw [z1] at p1 f1
              rw [z2] at p2 f2
              rw [z3] at p3 f3
              rw [ieq_refl, cnd_true, e_num_Add ((inI_nn p1.1).2 hm.1) ((inI_nn hO.1).2 hO.2), ob_some]
              by_cases hl : inI (sumF (longF v.inbox a y) (L.take i) + openA L[i] v.inbox)
              · rw [if_pos hl]
                simp only
                rw [ieq_refl, cnd_true, e_num_Add ((inI_nn p3.1).2 hm.2.2) ((inI_nn hW).2 hb), ob_some, w_some]
                refine ⟨rfl, by simp [lapp], by simp, ?_⟩
                simp only
                by_cases ho2 : inI (sumF (worthF v.inbox a y) (L.take i) + worthA L[i] v.inbox)
                · rw [if_pos ho2, f1, f2, f3]
                  unfold inI at hl ho2
                  unfold MX at *
                  left
                  refine ⟨rfl, by omega, rfl, rfl, by omega, by omega, by omega⟩
                · rw [if_neg ho2]
                  unfold inI at ho2
                  unfold MX at *
                  exact .inr ⟨rfl, fun g => by omega⟩
              · rw [if_neg hl]
                simp only
                rw [ieq_30, cnd_false, w_some]
                unfold inI at hl
                unfold MX at *
                exact ⟨rfl, by simp [lapp], by simp, .inr ⟨rfl, fun g => by omega⟩⟩
            · simp only [hw.2 hb, ieq_30, cnd_false]
              rw [w_some]
              refine ⟨rfl, by simp [lapp], by simp, .inr ⟨rfl, fun g => ?_⟩⟩
              rw [z3] at p3
              unfold sumsP at g
              omega
          · simp only [ieq_30, cnd_false]
            rw [w_some]
            exact ⟨rfl, by simp [lapp], by simp, .inr ⟨rfl, hm⟩⟩
        · rw [if_neg hp, w_some]
          exact ⟨rfl, by simp [lapp], by simp, stay 0 0 hx hp⟩
      · have e1 : ieq L[i].side 1 = false := by simpa [ieq] using h1
        rw [e1, cnd_false, cnd_t lS, c_ieq, if_neg (show ¬ (hereP L[i] a y ∧ L[i].side = 1) from fun g => h1 g.2), if_pos (show hereP L[i] a y ∧ L[i].side ≠ 1 from ⟨hh, h1⟩)]
        by_cases hp : L[i].phase = 2
        · have z1 : longF v.inbox a y L[i] = 0 := if_neg (fun g => h1 g.2)
          have z2 : shortF v.inbox a y L[i] = openA L[i] v.inbox := if_pos ⟨⟨hh, hp⟩, h1⟩
          have z3 : worthF v.inbox a y L[i] = worthA L[i] v.inbox := if_pos ⟨hh, hp⟩
          have hO := openA_rng (ho.2.2 hp)
          have hW := worthA_nn (l := v.inbox) ho.1
          rw [if_pos hp]
          refine (s_asked (by omega) (ho.2.2 hp)).bind fun w hw => ?_
          simp only [cnd_false]
          rcases hx with ⟨rfl, rfl, rfl, rfl, hm⟩ | ⟨rfl, hm⟩
          · rw [ieq_refl, cnd_true]
            by_cases hb : worthA L[i] v.inbox ≤ MX
            · rw [hw.1 hb]
              simp only
              unfold sumsP at hm ⊢
              rw [z1] at p1 f1
              rw [z2] at p2 f2
              rw [z3] at p3 f3
              rw [ieq_refl, cnd_true, e_num_Add ((inI_nn p2.1).2 hm.2.1) ((inI_nn hO.1).2 hO.2), ob_some]
              by_cases hl : inI (sumF (shortF v.inbox a y) (L.take i) + openA L[i] v.inbox)
              · rw [if_pos hl]
                simp only
                rw [ieq_refl, cnd_true, e_num_Add ((inI_nn p3.1).2 hm.2.2) ((inI_nn hW).2 hb), ob_some, w_some]
                refine ⟨rfl, by simp, by simp [lapp], ?_⟩
                simp only
                by_cases ho2 : inI (sumF (worthF v.inbox a y) (L.take i) + worthA L[i] v.inbox)
                · rw [if_pos ho2, f1, f2, f3]
                  unfold inI at hl ho2
                  unfold MX at *
                  left
                  refine ⟨by omega, rfl, rfl, rfl, by omega, by omega, by omega⟩
                · rw [if_neg ho2]
                  unfold inI at ho2
                  unfold MX at *
                  exact .inr ⟨rfl, fun g => by omega⟩
              · rw [if_neg hl]
                simp only
                rw [ieq_30, cnd_false, w_some]
                unfold inI at hl
                unfold MX at *
                exact ⟨rfl, by simp, by simp [lapp], .inr ⟨rfl, fun g => by omega⟩⟩
            · simp only [hw.2 hb, ieq_30, cnd_false]
              rw [w_some]
              refine ⟨rfl, by simp, by simp [lapp], .inr ⟨rfl, fun g => ?_⟩⟩
              rw [z3] at p3
              unfold sumsP at g
              omega
          · simp only [ieq_30, cnd_false]
            rw [w_some]
            exact ⟨rfl, by simp, by simp [lapp], .inr ⟨rfl, hm⟩⟩
        · rw [if_neg hp, w_some]
          exact ⟨rfl, by simp, by simp [lapp], stay 0 0 hx hp⟩
    · rw [if_pos hh, w_some, bought_succ hi, sold_succ hi, if_neg (fun g => hh g.1), if_neg (fun g => hh g.1)]
      have z1 : longF v.inbox a y L[i] = 0 := if_neg (fun g => hh g.1.1)
      have z2 : shortF v.inbox a y L[i] = 0 := if_neg (fun g => hh g.1.1)
      have z3 : worthF v.inbox a y L[i] = 0 := if_neg (fun g => hh g.1)
      unfold sumsP at *
      rw [f1, f2, f3, z1, z2, z3]
      exact ⟨rfl, by simp, by simp, by simpa using hx⟩
  · obtain ⟨B, S, lo, sh, op, e⟩ := x
    rw [List.take_length] at hx
    obtain ⟨rfl, rfl, hx⟩ := hx
    simp only at hx
    simp only [L_truth_Of_122]
    rw [cnd_f (len_end _), w_some]
    refine ⟨rfl, rfl, hx.imp (fun g => ⟨?_, g.2.2.2.2⟩) id⟩
    obtain ⟨rfl, rfl, rfl, rfl, _⟩ := g
    rfl
def longS (v : SVenue) (a y : Int) : Int := sumF (longF v.inbox a y) (allO v)
def shortS (v : SVenue) (a y : Int) : Int := sumF (shortF v.inbox a y) (allO v)
def worthS (v : SVenue) (a y : Int) : Int := sumF (worthF v.inbox a y) (allO v)
def goodO (v : SVenue) (a y : Int) : Prop := inI (posZ v.orders a y) ∧ (longS v a y ≤ MX ∧ shortS v a y ≤ MX ∧ worthS v a y ≤ MX) ∧ inI (posZ v.orders a y + longS v a y) ∧ inI (shortS v a y - posZ v.orders a y)
instance (v : SVenue) (a y : Int) : Decidable (goodO v a y) := by unfold goodO; infer_instance
def ofO (v : SVenue) (a y : Int) : SExpo := ⟨posZ v.orders a y + longS v a y, shortS v a y - posZ v.orders a y, worthS v a y⟩
theorem pos_app (l r : List SOrder) (a y : Int) (h : ∀ o ∈ r, o.filled = 0) : posZ (l ++ r) a y = posZ l a y := by
  have z : ∀ p : SOrder → Bool, sumL ((r.filter p).map (·.filled)) = 0 := fun p => by
    have : ∀ q : List Int, (∀ x ∈ q, x = 0) → sumL q = 0 := fun q hq => by
      induction q with
      | nil => rfl
      | cons x q ih => simp only [sumL]; rw [hq x List.mem_cons_self, ih fun y hy => hq y (List.mem_cons_of_mem x hy)]; rfl
    refine this _ fun x hx => ?_
    obtain ⟨o, ho, rfl⟩ := List.mem_map.1 hx
    exact h o (List.mem_filter.1 ho).1
  unfold posZ boughtL soldL
  rw [List.filter_append, List.filter_append, List.map_append, List.map_append, sumL_app, sumL_app, z, z]
  omega
theorem pos_all (v : SVenue) (a y : Int) : posZ (allO v) a y = posZ v.orders a y := by
  refine pos_app _ _ a y fun o ho => ?_
  obtain ⟨_, m, _, _, rfl⟩ := coming_mem ho
  rfl
theorem all_nn {v : SVenue} (h : venP v) (hr : Ok_venue v) (a y : Int) : 0 ≤ longS v a y ∧ 0 ≤ shortS v a y ∧ 0 ≤ worthS v a y :=
  ⟨sumF_nn fun o ho => (longF_rng (all_ok h hr o ho)).1, sumF_nn fun o ho => (shortF_rng (all_ok h hr o ho)).1, sumF_nn fun o ho => worthF_nn (all_ok h hr o ho)⟩
theorem t_num_Add (a b : Int) : ∃ r, F_num_Add a b = some r := by
  unfold F_num_Add; rw [cnd_if]; split <;> exact ⟨_, rfl⟩
theorem t_num_Sub (a b : Int) : ∃ r, F_num_Sub a b = some r := by
  unfold F_num_Sub; rw [cnd_if]; split <;> exact ⟨_, rfl⟩
theorem e_Of {v : SVenue} (h1 : v.inbox.length < 200000) (h2 : v.notes.length < 200000) (h3 : v.orders.length < 200000) (hr : Ok_venue v) (a y : Int) :
    F_truth_Of v a y = some (if venP v ∧ (0 ≤ a ∧ a < 8) ∧ 0 ≤ y ∧ y < 8 then (if goodO v a y then (ofO v a y, 0) else (⟨0, 0, 0⟩, 3)) else (⟨0, 0, 0⟩, 1)) := by
  refine Wq.eq ?_
  unfold F_truth_Of
  rw [e_may (by omega) (by omega) (by omega), ob_some, c_bnot, c_dec]
  split
  · rename_i hv
    have hok := all_ok hv.1 hr
    have hlen := all_len v
    rw [clone_Order (by omega), ob_some, e_Coming (by omega) (by omega) (fun o ho => (hr.orders.1 o ho).id) (fun m hm => (hr.inbox.1 m hm).order), ob_some]
    rw [show lapp v.orders (comingZ (v.orders.map (·.id)) v.inbox) = allO v from rfl]
    rw [cnd_t (ile_t (by simp only [len]; omega))]
    refine (s_ofloop (v := v) (L := allO v) (by omega) (by omega) hok a y).bind fun w hw => ?_
    obtain ⟨B, S, lo, sh, op, e⟩ := w
    obtain ⟨rfl, rfl, hw⟩ := hw
    have b1 := bought_len (allO v) a y
    have b2 := sold_len (allO v) a y
    obtain ⟨o1, o2⟩ := filled_ok (fun o ho => (hok o ho).1) (fun o ho => (hok o ho).2.1) a y
    rcases hw with ⟨hw, hs⟩ | ⟨he, hs⟩
    · simp only [Prod.mk.injEq] at hw
      obtain ⟨rfl, rfl, rfl, rfl⟩ := hw
      refine (s_pos (boughtL (allO v) a y) (soldL (allO v) a y) (sumF (longF v.inbox a y) (allO v)) (sumF (shortF v.inbox a y) (allO v)) (sumF (worthF v.inbox a y) (allO v)) (by omega) (by omega) o1 o2).bind fun w hw => ?_
      obtain ⟨n, w⟩ := w
      obtain ⟨rfl, hn⟩ := hw
      change inI (posZ (allO v) a y) → n = posZ (allO v) a y at hn
      rw [pos_all] at hn
      simp only
      rw [show (if inI (sumL (boughtL (allO v) a y) - sumL (soldL (allO v) a y)) then (0 : Int) else 3) = if inI (posZ (allO v) a y) then 0 else 3 from rfl, pos_all]
      by_cases hp : inI (posZ v.orders a y)
      · obtain ⟨n1, n2, n3⟩ := all_nn hv.1 hr a y
        rw [hn hp, show sumF (longF v.inbox a y) (allO v) = longS v a y from rfl, show sumF (shortF v.inbox a y) (allO v) = shortS v a y from rfl, show sumF (worthF v.inbox a y) (allO v) = worthS v a y from rfl, e_num_Add hp ((inI_nn n1).2 hs.1), ob_some, e_num_Sub ((inI_nn n2).2 hs.2.1) hp, ob_some, if_pos hp, ieq_00, bnot_true, bor_false]
        by_cases hA : inI (posZ v.orders a y + longS v a y)
        · rw [if_pos hA]
          by_cases hB : inI (shortS v a y - posZ v.orders a y)
          · rw [if_pos hB, if_pos (show goodO v a y from ⟨hp, hs, hA, hB⟩)]
            simp only
            rw [ieq_00, bnot_true, bor_false, cnd_false, w_some]
            rfl
          · rw [if_neg hB, if_neg (show ¬ goodO v a y from fun g => hB g.2.2.2)]
            simp only
            rw [ieq_30, bnot_false, bor_true', cnd_true, w_some]
        · rw [if_neg hA, if_neg (show ¬ goodO v a y from fun g => hA g.2.2.1)]
          simp only
          rw [ieq_30, bnot_false, bor_true, cnd_true, w_some]
      · obtain ⟨r1, e1⟩ := t_num_Add n (sumF (longF v.inbox a y) (allO v))
        obtain ⟨r2, e2⟩ := t_num_Sub (sumF (shortF v.inbox a y) (allO v)) n
        rw [e1, ob_some, e2, ob_some, if_neg hp, ieq_30, bnot_false, bor_true, bor_true, cnd_true, w_some, if_neg (show ¬ goodO v a y from fun g => hp g.1)]
    · simp only at he
      subst he
      refine Wq.bind (Q := fun w : Int × List Int × List Int × Int × Int × Int × Int => w.2.2.2.2.2.2 = 3) ?_ fun w hw => ?_
      · unfold LF
        rw [iterN]
        simp only [L_truth_Of_26_truth_sums_pos_c102, ieq_30, band_false, cnd_false]
        exact (w_some _).2 rfl
      · obtain ⟨n, B, S, lo, sh, op, e⟩ := w
        simp only at hw
        subst hw
        simp only
        obtain ⟨r1, e1⟩ := t_num_Add n lo
        obtain ⟨r2, e2⟩ := t_num_Sub sh n
        rw [e1, ob_some, e2, ob_some, ieq_30, bnot_false, bor_true, bor_true, cnd_true, w_some, if_neg (show ¬ goodO v a y from fun g => hs g.2.1)]
  · rw [w_some]
/-- The reference's way. -/
theorem r_ofloop {v : SVenue} {L : List SOrder} (h1 : v.inbox.length < 400000) (hL : L.length < 400000) (h : ∀ o ∈ L, okO v.inbox o) (a y n : Int) :
    Wq (iterN (fun x : Int × Bool × Bool × SCell × SExpo => L_snaffleref23_Of_506 a y L v x.fst x.snd.fst x.snd.snd.fst x.snd.snd.snd.fst x.snd.snd.snd.snd) LF (0, true, false, ⟨n, 0, 0, 0⟩, ⟨0, 0, 0⟩))
      fun w => match w with | .inl w => w.1 = false ∧ w.2.2 = ⟨0, 0, 0⟩ ∧ ¬ sumsP v L a y | .inr w => w.2.2.1 = ⟨n, sumF (longF v.inbox a y) L, sumF (shortF v.inbox a y) L, sumF (worthF v.inbox a y) L⟩ ∧ sumsP v L a y := by
  have nl : ∀ o ∈ L, 0 ≤ longF v.inbox a y o := fun o ho => (longF_rng (h o ho)).1
  have ns : ∀ o ∈ L, 0 ≤ shortF v.inbox a y o := fun o ho => (shortF_rng (h o ho)).1
  have nw : ∀ o ∈ L, 0 ≤ worthF v.inbox a y o := fun o ho => worthF_nn (h o ho)
  refine w_for (n := L.length) (step := fun x : Int × Bool × Bool × SCell × SExpo => L_snaffleref23_Of_506 a y L v x.fst x.snd.fst x.snd.snd.fst x.snd.snd.snd.fst x.snd.snd.snd.snd) (by omega)
    (fun i x => x.2.2.1 = ⟨n, sumF (longF v.inbox a y) (L.take i), sumF (shortF v.inbox a y) (L.take i), sumF (worthF v.inbox a y) (L.take i)⟩ ∧ sumsP v (L.take i) a y) _ (fun i x hi hx => ?_) (fun x hx => ?_) _ 0 (Nat.zero_le _) ⟨rfl, by simp [sumsP, sumF, MX]⟩
  · obtain ⟨ok, b, c, z⟩ := x
    obtain ⟨rfl, hm⟩ := hx
    have ho := h _ (List.getElem_mem hi)
    have p1 := sumF_part hi nl
    have p2 := sumF_part hi ns
    have p3 := sumF_part hi nw
    have c1 := inb L i hi
    have eh : bor (bor (bnot (ieq L[i].account a)) (bnot (ieq L[i].symbol y))) (bnot (ieq L[i].phase 2)) = decide (¬ (hereP L[i] a y ∧ L[i].phase = 2)) := by
      rw [Bool.eq_iff_iff, decide_eq_true_iff]
      simp only [band_T, band_F, bor_T, bor_F, bnot_T, bnot_F, ilt_T, ilt_F, ile_T, ile_F, ieq_T, ieq_F, beq_T, beq_F, hereP]
      omega
    simp only [L_snaffleref23_Of_506]
    rw [cnd_t (by rw [ilt_nat]; simpa using hi), cnd_t c1, cnd_t (by rw [bor_T]; exact .inl c1), cnd_t (by rw [bor_T]; exact .inl c1), lget_nat L i hi, eh, c_dec, wr_succ (by omega)]
    have f1 := sumF_succ (longF v.inbox a y) hi
    have f2 := sumF_succ (shortF v.inbox a y) hi
    have f3 := sumF_succ (worthF v.inbox a y) hi
    unfold sumsP at *
    by_cases hh : hereP L[i] a y ∧ L[i].phase = 2
    · have hO := openA_rng (ho.2.2 hh.2)
      have hW := worthA_nn (l := v.inbox) ho.1
      have z3 : worthF v.inbox a y L[i] = worthA L[i] v.inbox := if_pos hh
      rw [z3] at p3 f3
      rw [if_neg (fun g => g hh), cnd_t c1, r_Asked (by omega) (ho.2.2 hh.2), ob_some]
      by_cases hb : worthA L[i] v.inbox ≤ MX
      · rw [if_pos hb]
        simp only
        rw [bnot_true, cnd_false, cnd_t c1, c_ieq]
        by_cases h1 : L[i].side = 1
        · have z1 : longF v.inbox a y L[i] = openA L[i] v.inbox := if_pos ⟨hh, h1⟩
          have z2 : shortF v.inbox a y L[i] = 0 := if_neg (fun g => g.2 h1)
          rw [z1] at p1 f1
          rw [z2] at p2 f2
          rw [if_pos h1, r_Add ((inI_nn p1.1).2 hm.1) ((inI_nn hO.1).2 hO.2), ob_some]
          by_cases hl : inI (sumF (longF v.inbox a y) (L.take i) + openA L[i] v.inbox)
          · rw [if_pos hl]
            simp only
            rw [bnot_true, cnd_false, r_Add ((inI_nn p3.1).2 hm.2.2) ((inI_nn hW).2 hb), ob_some]
            by_cases ho2 : inI (sumF (worthF v.inbox a y) (L.take i) + worthA L[i] v.inbox)
            · rw [if_pos ho2]
              simp only
              rw [bnot_true, cnd_false, w_some, f1, f2, f3]
              unfold inI at hl ho2
              unfold MX at *
              refine ⟨rfl, by simp, by omega, by omega, by omega⟩
            · rw [if_neg ho2]
              simp only
              rw [bnot_false, cnd_true, w_some]
              unfold inI at ho2
              unfold MX at *
              exact ⟨rfl, rfl, fun g => by omega⟩
          · rw [if_neg hl]
            simp only
            rw [bnot_false, cnd_true, w_some]
            unfold inI at hl
            unfold MX at *
            exact ⟨rfl, rfl, fun g => by omega⟩
        · have z1 : longF v.inbox a y L[i] = 0 := if_neg (fun g => h1 g.2)
          have z2 : shortF v.inbox a y L[i] = openA L[i] v.inbox := if_pos ⟨hh, h1⟩
          rw [z1] at p1 f1
          rw [z2] at p2 f2
          rw [if_neg h1, r_Add ((inI_nn p2.1).2 hm.2.1) ((inI_nn hO.1).2 hO.2), ob_some]
          by_cases hl : inI (sumF (shortF v.inbox a y) (L.take i) + openA L[i] v.inbox)
          · rw [if_pos hl]
            simp only
            rw [bnot_true, cnd_false, r_Add ((inI_nn p3.1).2 hm.2.2) ((inI_nn hW).2 hb), ob_some]
            by_cases ho2 : inI (sumF (worthF v.inbox a y) (L.take i) + worthA L[i] v.inbox)
            · rw [if_pos ho2]
              simp only
              rw [bnot_true, cnd_false, w_some, f1, f2, f3]
              unfold inI at hl ho2
              unfold MX at *
              refine ⟨rfl, by simp, by omega, by omega, by omega⟩
            · rw [if_neg ho2]
              simp only
              rw [bnot_false, cnd_true, w_some]
              unfold inI at ho2
              unfold MX at *
              exact ⟨rfl, rfl, fun g => by omega⟩
          · rw [if_neg hl]
            simp only
            rw [bnot_false, cnd_true, w_some]
            unfold inI at hl
            unfold MX at *
            exact ⟨rfl, rfl, fun g => by omega⟩
      · rw [if_neg hb]
        simp only
        rw [bnot_false, cnd_true, w_some]
        exact ⟨rfl, rfl, fun g => by omega⟩
    · have z1 : longF v.inbox a y L[i] = 0 := if_neg (fun g => hh g.1)
      have z2 : shortF v.inbox a y L[i] = 0 := if_neg (fun g => hh g.1)
      have z3 : worthF v.inbox a y L[i] = 0 := if_neg (fun g => hh g)
      rw [if_pos hh, w_some, f1, f2, f3, z1, z2, z3]
      exact ⟨rfl, by simp, by simpa using hm⟩
  · obtain ⟨ok, b, c, z⟩ := x
    rw [List.take_length] at hx
    simp only [L_snaffleref23_Of_506]
    rw [cnd_f (len_end _), w_some]
    exact hx
theorem r_Of23 {v : SVenue} (h1 : v.inbox.length < 200000) (h3 : v.orders.length < 200000) (hr : Ok_venue v) (hv : venP v) (a y : Int) :
    F_snaffleref23_Of v a y = some (if goodO v a y then (ofO v a y, true) else (⟨0, 0, 0⟩, false)) := by
  refine Wq.eq ?_
  have hok := all_ok hv hr
  have hlen := all_len v
  unfold F_snaffleref23_Of
  rw [r_Pos (by omega) (fun o ho => (hv.ord ho).1) (fun o ho => hr.orders.1 o ho), ob_some]
  by_cases hp : inI (posZ v.orders a y)
  · rw [if_pos hp]
    simp only
    rw [bnot_true, cnd_false, cnd_t (ile_t (by simp only [len]; omega)), r_Coming (by omega) (by omega), ob_some]
    rw [show lapp v.orders (comingZ (v.orders.map (·.id)) v.inbox) = allO v from rfl]
    rw [cnd_t (ile_t (by simp only [len]; omega))]
    refine (r_ofloop (v := v) (L := allO v) (by omega) (by omega) hok a y (posZ v.orders a y)).bind fun w hw => ?_
    match w, hw with
    | .inl w, hw =>
      simp only [sumK]
      rw [w_some, hw.1, hw.2.1, if_neg (show ¬ goodO v a y from fun g => hw.2.2 g.2.1)]
    | .inr w, hw =>
      obtain ⟨e, hs⟩ := hw
      simp only [sumK]
      rw [e]
      obtain ⟨n1, n2, n3⟩ := all_nn hv hr a y
      simp only
      rw [show sumF (longF v.inbox a y) (allO v) = longS v a y from rfl, show sumF (shortF v.inbox a y) (allO v) = shortS v a y from rfl, show sumF (worthF v.inbox a y) (allO v) = worthS v a y from rfl]
      rw [r_Add hp ((inI_nn n1).2 hs.1), ob_some, r_Sub ((inI_nn n2).2 hs.2.1) hp, ob_some]
      by_cases hA : inI (posZ v.orders a y + longS v a y)
      · rw [if_pos hA]
        by_cases hB : inI (shortS v a y - posZ v.orders a y)
        · rw [if_pos hB, if_pos (show goodO v a y from ⟨hp, hs, hA, hB⟩)]
          simp only
          rw [bnot_true, bor_false, cnd_false, w_some]
          rfl
        · rw [if_neg hB, if_neg (show ¬ goodO v a y from fun g => hB g.2.2.2)]
          simp only
          rw [bnot_false, bor_true', cnd_true, w_some]
      · rw [if_neg hA, if_neg (show ¬ goodO v a y from fun g => hA g.2.2.1)]
        simp only
        rw [bnot_false, bor_true, cnd_true, w_some]
  · rw [if_neg hp]
    simp only
    rw [bnot_false, cnd_true, w_some, if_neg (show ¬ goodO v a y from fun g => hp g.1)]
def cellVP (s : SState) (v : SVenue) (a y : Int) : Prop := goodO v a y ∧ covX (ofC (lget s.cells (atI s a y))) (ofO v a y)
def knowsP (s : SState) (o : SOrder) : Prop := o.account < s.accounts ∧ o.symbol < s.symbols
def covVP (s : SState) (v : SVenue) : Prop := RightS s ∧ venP v ∧ (∀ o ∈ allO v, knowsP s o) ∧ ∀ a y, placeP s a y → cellVP s v a y
theorem quo_nat {k m : Nat} (h : 0 < m) (hk : k < 1000000) : wr .i64 (iquo (k : Int) (m : Int)) = ((k / m : Nat) : Int) ∧ irem (k : Int) (m : Int) = ((k % m : Nat) : Int) := by
  have e1 : iquo (k : Int) (m : Int) = ((k / m : Nat) : Int) := by
    unfold iquo
    rw [Int.tdiv_eq_ediv_of_nonneg (by omega)]; omega
  have e2 : irem (k : Int) (m : Int) = ((k % m : Nat) : Int) := by
    unfold irem
    rw [Int.tmod_eq_emod_of_nonneg (by omega)]; omega
  have h9 : k / m ≤ k := Nat.div_le_self k m
  generalize k / m = q at *
  rw [e1, wr_small (by omega) (by omega)]
  exact ⟨rfl, e2⟩
theorem RightS.few2 {s : SState} (h : RightS s) : s.orders.length ≤ 64 ∧ s.cells.length ≤ 64 ∧ s.limits.length = s.cells.length ∧ s.caps.length = s.accounts.toNat ∧ s.accounts.toNat ≤ 8 ∧ (s.cells.length : Int) = s.accounts * s.symbols ∧ (1 ≤ s.accounts ∧ s.accounts ≤ 8) ∧ (1 ≤ s.symbols ∧ s.symbols ≤ 8) := by
  obtain ⟨h1, h2, h3, h4⟩ := h.sized.lens
  have := h.sized.1
  exact ⟨h4, h1, h2, h3, by omega, h.sized.2.2.1, this, h.sized.2.1⟩
theorem s_Covers23 {s : SState} {v : SVenue} (hr : Ok_state s) (hsh : shortP s) (hv : Ok_venue v) (h1 : v.inbox.length < 200000) (h2 : v.notes.length < 200000) (h3 : v.orders.length < 200000) :
    Wq (F_truth_Covers s v) fun b => b = true ↔ covVP s v := by
  unfold F_truth_Covers
  refine (s_book_Right s hr hsh.1 hsh.2.2.1 hsh.2.2.2).bind fun b hb => ?_
  by_cases hR : RightS s
  · rw [hb.2 hR, bnot_true, bnot_false, cnd_true, e_venue_Right (by omega) (by omega) (by omega), ob_some, bor_false, c_bnot, c_dec]
    by_cases hV : venP v
    · have hlen := all_len v
      have hok := all_ok hV hv
      obtain ⟨k1, k2, k3, k4, k5, k6, k7, k8⟩ := hR.few2
      rw [if_pos hV, clone_Order (by omega), ob_some, e_Coming (by omega) (by omega) (fun o ho => (hv.orders.1 o ho).id) (fun m hm => (hv.inbox.1 m hm).order), ob_some, show lapp v.orders (comingZ (v.orders.map (·.id)) v.inbox) = allO v from rfl, cnd_t (ile_t (by simp only [len]; omega))]
      refine Wq.bind (w_all (n := (allO v).length) (step := fun x : Int × Bool => L_truth_Covers_58 (len (allO v)) (allO v) s x.fst x.snd) (by omega) (fun i => ∀ h : i < (allO v).length, knowsP s (allO v)[i]) (fun i q hi hj => ?_) (fun q => ?_) false) fun w hw => ?_
      · simp only [L_truth_Covers_58]
        rw [cnd_t (by rw [ilt_nat]; simpa using hi), cnd_t (inb _ i hi), lget_nat _ i hi]
        have ho := (hok _ (List.getElem_mem hi)).1.1
        by_cases hk : knowsP s (allO v)[i]
        · rw [e_book_Place hR.sized ho.2.1.1 hk.1 ho.2.2.1.1 hk.2, ob_some]
          have : 0 ≤ (allO v)[i].account * s.symbols := Int.mul_nonneg ho.2.1.1 (by omega)
          have := ho.2.2.1.1
          rw [cnd_f (by rw [ieq_F]; omega), w_some]
          exact ⟨wr_succ (by omega), fun _ => hk⟩
        · rw [e_book_Place_bad (fun g => hk ⟨g.2.1, g.2.2.2⟩), ob_some, ieq_refl, cnd_true, w_some]
          exact ⟨rfl, fun g => hk (g hi)⟩
      · simp only [L_truth_Covers_58]
        rw [cnd_f (len_end _), w_some]
        trivial
      · match w, hw with
        | .inl b, hw =>
          simp only [sumK, w_some]
          rw [hw.1]
          constructor
          · intro g; cases g
          · intro g
            exact absurd (fun i hi h => g.2.2.1 _ (List.getElem_mem h)) hw.2
        | .inr q, hw =>
          simp only [sumK]
          have hall : ∀ o ∈ allO v, knowsP s o := fun o ho => by
            obtain ⟨i, hi, rfl⟩ := List.mem_iff_getElem.1 ho
            exact hw i hi hi
          obtain ⟨m, hm⟩ : ∃ m : Nat, s.symbols = (m : Int) := ⟨s.symbols.toNat, by omega⟩
          have hm0 : 0 < m := by omega
          obtain ⟨n, hn⟩ : ∃ n : Nat, s.accounts = (n : Int) := ⟨s.accounts.toNat, by omega⟩
          have hcl : s.cells.length = n * m := by
            have := k6; rw [hn, hm] at this
            exact_mod_cast this
          have spot : ∀ k : Nat, k < s.cells.length → placeP s ((k / m : Nat) : Int) ((k % m : Nat) : Int) ∧ atI s ((k / m : Nat) : Int) ((k % m : Nat) : Int) = k := fun k hk => by
            have b1 : k / m < n := Nat.div_lt_of_lt_mul (by rw [Nat.mul_comm]; omega)
            have b2 : k % m < m := Nat.mod_lt _ hm0
            refine ⟨⟨Int.natCast_nonneg _, by rw [hn]; exact Int.ofNat_lt.2 b1, Int.natCast_nonneg _, by rw [hm]; exact Int.ofNat_lt.2 b2⟩, ?_⟩
            unfold atI itn
            rw [hm]
            have : ((k / m : Nat) : Int) * (m : Int) + ((k % m : Nat) : Int) = (k : Int) := by
              have := Nat.div_add_mod k m
              rw [Nat.mul_comm] at this
              exact_mod_cast this
            rw [this]; simp
          refine Wq.bind (w_all (n := s.cells.length) (step := fun x : Int × Bool => L_truth_Covers_122 (len s.cells) v s x.fst x.snd) (by omega) (fun k => cellVP s v ((k / m : Nat) : Int) ((k % m : Nat) : Int)) (fun k q hk hj => ?_) (fun q => ?_) q) fun w hw => ?_
          · simp only [L_truth_Covers_122]
            obtain ⟨pk, ek⟩ := spot k hk
            obtain ⟨d1, d2⟩ := quo_nat (k := k) hm0 (by omega)
            have sz : bnot (ieq s.symbols 0) = true := by rw [bnot_T, ieq_F]; omega
            rw [cnd_t (by rw [ilt_nat]; simpa using hk), cnd_t sz, cnd_t sz, hm, d1, d2, e_Of h1 h2 h3 hv, ob_some]
            obtain ⟨j, hj1, hj2, hj3⟩ := e_book_Expo hr hsh hR (a := ((k / m : Nat) : Int)) (y := ((k % m : Nat) : Int)) pk
            have hjk : j = k := by
              have := (at_in hR pk).2.2.2
              rw [hj2, ek] at this
              omega
            subst hjk
            rw [hj3, ob_some, if_pos (show venP v ∧ _ from ⟨hV, by have := pk.1; have := pk.2.1; omega, by have := pk.2.2.1; have := pk.2.2.2; omega⟩)]
            have ec : lget s.cells (atI s ((j / m : Nat) : Int) ((j % m : Nat) : Int)) = s.cells[j] := by
              rw [ek]; simp [lget, hk]
            by_cases hg : goodO v ((j / m : Nat) : Int) ((j % m : Nat) : Int)
            · rw [if_pos hg]
              simp only
              rw [ieq_00, bnot_true, bnot_false, cnd_true, e_cell_Covers, ob_some, bor_false, c_bnot, c_dec]
              by_cases hc : covX (ofC s.cells[j]) (ofO v ((j / m : Nat) : Int) ((j % m : Nat) : Int))
              · rw [if_pos hc, w_some]
                exact ⟨wr_succ (by omega), hg, by rw [ec]; exact hc⟩
              · rw [if_neg hc, w_some]
                exact ⟨rfl, fun g => hc (by have := g.2; rw [ec] at this; exact this)⟩
            · rw [if_neg hg]
              simp only
              rw [ieq_30, bnot_false, bnot_true, cnd_false, ob_some, bor_true, cnd_true, w_some]
              exact ⟨rfl, fun g => hg g.1⟩
          · simp only [L_truth_Covers_122]
            rw [cnd_f (len_end _), w_some]
            trivial
          · match w, hw with
            | .inl b, hw =>
              simp only [sumK, w_some]
              rw [hw.1]
              constructor
              · intro g; cases g
              · intro g
                exact absurd (fun k hk => g.2.2.2 _ _ (spot k hk).1) hw.2
            | .inr q, hw =>
              simp only [sumK, w_some, true_iff]
              refine ⟨hR, hV, hall, fun a y hp => ?_⟩
              obtain ⟨g1, _, g3, _⟩ := at_in hR hp
              have := hw _ g1
              rw [hm] at g3
              have ha : (((atI s a y) / m : Nat) : Int) = a := by
                have : ((atI s a y : Nat) : Int) / (m : Int) = a := by
                  rw [g3, Int.add_comm, Int.add_mul_ediv_right _ _ (by omega), Int.ediv_eq_zero_of_lt hp.2.2.1 (by have := hp.2.2.2; omega)]; omega
                omega
              have hy : (((atI s a y) % m : Nat) : Int) = y := by
                have : ((atI s a y : Nat) : Int) % (m : Int) = y := by
                  rw [g3, Int.add_comm, Int.add_mul_emod_self_right, Int.emod_eq_of_lt hp.2.2.1 (by have := hp.2.2.2; omega)]
                omega
              rw [ha, hy] at this
              exact this
    · rw [if_neg hV, w_some]
      constructor
      · intro g; cases g
      · intro g; exact absurd g.2.1 hV
  · have : b = false := by
      cases b with
      | false => rfl
      | true => exact absurd (hb.1 rfl) hR
    subst this
    rw [bnot_false, bnot_true, cnd_false, ob_some, bor_true, cnd_true, w_some]
    constructor
    · intro g; cases g
    · intro g; exact absurd g.1 hR
theorem r_Covers23 {s : SState} {v : SVenue} (hr : Ok_state s) (hsh : shortP s) (hv : Ok_venue v) (h1 : v.inbox.length < 200000) (h2 : v.notes.length < 200000) (h3 : v.orders.length < 200000) :
    Wq (F_snaffleref23_Covers s v) fun b => b = true ↔ covVP s v := by
  unfold F_snaffleref23_Covers
  refine (r_Right hr hsh).bind fun b hb => ?_
  by_cases hR : RightS s
  · rw [hb.2 hR, bnot_true, bnot_false, cnd_true, er_venue_Right (by omega) (by omega) (by omega), ob_some, bor_false, c_bnot, c_dec]
    by_cases hV : venP v
    · have hlen := all_len v
      have hok := all_ok hV hv
      obtain ⟨k1, k2, k3, k4, k5, k6, k7, k8⟩ := hR.few2
      rw [if_pos hV, cnd_t (ile_t (by simp only [len]; omega)), r_Coming (by omega) (by omega), ob_some, show lapp v.orders (comingZ (v.orders.map (·.id)) v.inbox) = allO v from rfl, cnd_t (ile_t (by simp only [len]; omega))]
      refine Wq.bind (w_all (n := (allO v).length) (step := fun x : Int × Bool => L_snaffleref23_Covers_122 (allO v) s x.fst x.snd) (by omega) (fun i => ∀ h : i < (allO v).length, knowsP s (allO v)[i]) (fun i q hi hj => ?_) (fun q => ?_) false) fun w hw => ?_
      · simp only [L_snaffleref23_Covers_122]
        have c1 := inb (allO v) i hi
        rw [cnd_t (by rw [ilt_nat]; simpa using hi), cnd_t c1, cnd_t (by rw [bor_T]; exact .inl c1), lget_nat _ i hi, wr_succ (by omega)]
        simp only [w_bind, w_cnd, w_some, band_T, band_F, bor_T, bor_F, bnot_T, bnot_F, ilt_T, ilt_F, ile_T, ile_F, ieq_T, ieq_F, beq_T, beq_F, true_implies, ne_eq, not_true_eq_false, false_implies, and_true, true_and, or_self, reduceCtorEq]
        refine ⟨fun h => fun g => ?_, fun h => fun _ => ⟨by omega, by omega⟩⟩
        have := g hi
        unfold knowsP at this
        omega
      · simp only [L_snaffleref23_Covers_122]
        rw [cnd_f (len_end _), w_some]
        trivial
      · match w, hw with
        | .inl b, hw =>
          simp only [sumK, w_some]
          rw [hw.1]
          constructor
          · intro g; cases g
          · intro g
            exact absurd (fun i hi h => g.2.2.1 _ (List.getElem_mem h)) hw.2
        | .inr q, hw =>
          simp only [sumK]
          have hall : ∀ o ∈ allO v, knowsP s o := fun o ho => by
            obtain ⟨i, hi, rfl⟩ := List.mem_iff_getElem.1 ho
            exact hw i hi hi
          obtain ⟨m, hm⟩ : ∃ m : Nat, s.symbols = (m : Int) := ⟨s.symbols.toNat, by omega⟩
          obtain ⟨n, hn⟩ : ∃ n : Nat, s.accounts = (n : Int) := ⟨s.accounts.toNat, by omega⟩
          refine Wq.bind (w_all (n := n) (step := fun x : Int × Bool => L_snaffleref23_Covers_250 v s x.fst x.snd) (by omega) (fun i => ∀ j : Nat, j < m → cellVP s v (i : Int) (j : Int)) (fun i q hi hj => ?_) (fun q => ?_) q) fun w hw => ?_
          · simp only [L_snaffleref23_Covers_250]
            rw [cnd_t (ilt_t (by omega))]
            refine Wq.bind (w_all (n := m) (step := fun x : Int × Bool => L_snaffleref23_Covers_16018 (i : Int) v s x.fst x.snd) (by omega) (fun j => cellVP s v (i : Int) (j : Int)) (fun j q hj2 hj3 => ?_) (fun q => ?_) q) fun w hw => ?_
            · simp only [L_snaffleref23_Covers_16018]
              have pk : placeP s (i : Int) (j : Int) := ⟨by omega, by omega, by omega, by omega⟩
              obtain ⟨g1, g2, g3, g4⟩ := at_in hR pk
              rw [cnd_t (ilt_t (by omega)), r_Of23 h1 h3 hv hV, ob_some, g4, cnd_t (by rw [bor_T]; exact .inl (inb _ _ g1)), lget_nat _ _ g1, r_cell_Of (hR.ok _ (List.getElem_mem g1)), wr_succ (by omega)]
              have ec : lget s.cells (atI s (i : Int) (j : Int)) = s.cells[atI s (i : Int) (j : Int)] := by simp [lget, g1]
              by_cases hg : goodO v (i : Int) (j : Int)
              · rw [if_pos hg]
                simp only
                rw [bnot_true, bnot_false, cnd_true, ob_some, cnd_true, r_cell_Covers, ob_some, bor_false, c_bnot, c_dec]
                by_cases hc : covX (ofC s.cells[atI s (i : Int) (j : Int)]) (ofO v (i : Int) (j : Int))
                · rw [if_pos hc, w_some]
                  exact ⟨rfl, hg, by rw [ec]; exact hc⟩
                · rw [if_neg hc, w_some]
                  exact ⟨rfl, fun g => hc (by have := g.2; rw [ec] at this; exact this)⟩
              · rw [if_neg hg]
                simp only
                rw [bnot_false, bnot_true, cnd_false, ob_some, cnd_false, ob_some, bor_true, cnd_true, w_some]
                exact ⟨rfl, fun g => hg g.1⟩
            · simp only [L_snaffleref23_Covers_16018]
              rw [cnd_f (by rw [ilt_F]; omega), w_some]
              trivial
            · match w, hw with
              | .inl b, hw =>
                simp only [sumK, w_some]
                exact ⟨hw.1, hw.2⟩
              | .inr q, hw =>
                simp only [sumK, w_some]
                exact ⟨wr_succ (by omega), hw⟩
          · simp only [L_snaffleref23_Covers_250]
            rw [cnd_f (by rw [ilt_F]; omega), w_some]
            trivial
          · match w, hw with
            | .inl b, hw =>
              simp only [sumK, w_some]
              rw [hw.1]
              constructor
              · intro g; cases g
              · intro g
                exact absurd (fun i hi j hj => g.2.2.2 _ _ ⟨by omega, by omega, by omega, by omega⟩) hw.2
            | .inr q, hw =>
              simp only [sumK, w_some, true_iff]
              refine ⟨hR, hV, hall, fun a y hp => ?_⟩
              obtain ⟨p1, p2, p3, p4⟩ := hp
              have := hw a.toNat (by omega) y.toNat (by omega)
              rw [show ((a.toNat : Nat) : Int) = a by omega, show ((y.toNat : Nat) : Int) = y by omega] at this
              exact this
    · rw [if_neg hV, w_some]
      constructor
      · intro g; cases g
      · intro g; exact absurd g.2.1 hV
  · have : b = false := by
      cases b with
      | false => rfl
      | true => exact absurd (hb.1 rfl) hR
    subst this
    rw [bnot_false, bnot_true, cnd_false, ob_some, bor_true, cnd_true, w_some]
    constructor
    · intro g; cases g
    · intro g; exact absurd g.1 hR
noncomputable instance (s : SState) (v : SVenue) : Decidable (covVP s v) := Classical.propDecidable _
def nilD {τ : Type} [DecidableEq τ] (n : Int) (f : Bool → Option τ) : Option τ := if n = 0 then (if f true = f false then f true else none) else f false
theorem nilq_eq {τ : Type} [DecidableEq τ] (n : Int) (f : Bool → Option τ) : nilq n f = nilD n f := by
  unfold nilq nilD
  by_cases h : n = 0
  · rw [if_pos h, if_pos h]
    by_cases h2 : f true = f false
    · rw [if_pos h2, if_pos h2]
    · rw [if_neg h2, if_neg h2]
  · rw [if_neg h, if_neg h]
def F_slices_Clone_api_Msg_d (x0 : (List SMsg)) : Option ((List SMsg)) := nilD (len x0) fun y0 ↦ cnd (beq y0 true) (some []) (cnd (ile (len x0) 68719476736) (some x0) none)
theorem F_slices_Clone_api_Msg_d_eq : F_slices_Clone_api_Msg = F_slices_Clone_api_Msg_d := by
  funext a0
  unfold F_slices_Clone_api_Msg F_slices_Clone_api_Msg_d
  simp only [nilq_eq]
def F_venue_Send_d (x0 : SVenue) (x1 : SMsg) : Option (SVenue × Int) := obind (F_venue_Right x0) fun y0 ↦ cnd (bnot y0) (cnd (bnot y0) (some (x0, 1)) (cnd (ieq (len x0.inbox) 400) (some (x0, 6)) (obind (F_slices_Clone_api_Msg_d x0.inbox) fun y1 ↦ cnd (ile (len (lapp y1 [x1])) 68719476736) (some (SVenue.mk (lapp y1 [x1]) x0.orders x0.notes, 0)) none))) (obind (F_venue_RightMsg x1) fun y2 ↦ cnd (bnot y2) (some (x0, 1)) (cnd (ieq (len x0.inbox) 400) (some (x0, 6)) (obind (F_slices_Clone_api_Msg_d x0.inbox) fun y3 ↦ cnd (ile (len (lapp y3 [x1])) 68719476736) (some (SVenue.mk (lapp y3 [x1]) x0.orders x0.notes, 0)) none)))
theorem F_venue_Send_d_eq : F_venue_Send = F_venue_Send_d := by
  funext a0 a1
  unfold F_venue_Send F_venue_Send_d
  simp only [F_slices_Clone_api_Msg_d_eq]
def F_slices_Clone_api_Order_d (x0 : (List SOrder)) : Option ((List SOrder)) := nilD (len x0) fun y0 ↦ cnd (beq y0 true) (some []) (cnd (ile (len x0) 68719476736) (some x0) none)
theorem F_slices_Clone_api_Order_d_eq : F_slices_Clone_api_Order = F_slices_Clone_api_Order_d := by
  funext a0
  unfold F_slices_Clone_api_Order F_slices_Clone_api_Order_d
  simp only [nilq_eq]
def F_truth_Of_d (x0 : SVenue) (x1 : Int) (x2 : Int) : Option (SExpo × Int) := obind (F_truth_may x0 x1 x2) fun y0 ↦ cnd (bnot y0) (some (SExpo.mk 0 0 0, 1)) (obind (F_slices_Clone_api_Order_d x0.orders) fun y1 ↦ obind (F_truth_coming x0) fun y2 ↦ cnd (ile (len (lapp y1 y2)) 68719476736) (obind (iterN (fun v ↦ L_truth_Of_122 (len (lapp y1 y2)) x1 x2 (lapp y1 y2) x0 v.fst v.snd.fst v.snd.snd.fst v.snd.snd.snd.fst v.snd.snd.snd.snd.fst v.snd.snd.snd.snd.snd.fst v.snd.snd.snd.snd.snd.snd) LF (0, [], [], 0, 0, 0, 0)) fun y3 ↦ obind (iterN (fun v ↦ L_truth_Of_26_truth_sums_pos_c102 v.fst v.snd.fst v.snd.snd.fst v.snd.snd.snd.fst v.snd.snd.snd.snd.fst v.snd.snd.snd.snd.snd.fst v.snd.snd.snd.snd.snd.snd.fst v.snd.snd.snd.snd.snd.snd.snd.fst v.snd.snd.snd.snd.snd.snd.snd.snd) LF (0, 0, 0, y3)) fun y4 ↦ obind (F_num_Add y4.fst y4.snd.snd.snd.fst) fun y5 ↦ obind (F_num_Sub y4.snd.snd.snd.snd.fst y4.fst) fun y6 ↦ cnd (bor (bor (bnot (ieq y4.snd.snd.snd.snd.snd.snd 0)) (bnot (ieq y5.snd 0))) (bnot (ieq y6.snd 0))) (some (SExpo.mk 0 0 0, 3)) (some (SExpo.mk y5.fst y6.fst y4.snd.snd.snd.snd.snd.fst, 0))) none)
theorem F_truth_Of_d_eq : F_truth_Of = F_truth_Of_d := by
  funext a0 a1 a2
  unfold F_truth_Of F_truth_Of_d
  simp only [F_slices_Clone_api_Order_d_eq]
def F_slices_Clone_api_Note_d (x0 : (List SNote)) : Option ((List SNote)) := nilD (len x0) fun y0 ↦ cnd (beq y0 true) (some []) (cnd (ile (len x0) 68719476736) (some x0) none)
theorem F_slices_Clone_api_Note_d_eq : F_slices_Clone_api_Note = F_slices_Clone_api_Note_d := by
  funext a0
  unfold F_slices_Clone_api_Note F_slices_Clone_api_Note_d
  simp only [nilq_eq]
def F_venue_Take_d (x0 : SVenue) (x1 : Bool) : Option (SVenue × Int) := obind (F_venue_Right x0) fun y0 ↦ cnd (bnot y0) (some (x0, 1)) (cnd (ieq (len x0.inbox) 0) (some (x0, 7)) (obind (F_venue_full x0) fun y1 ↦ cnd y1 (cnd y1 (some (x0, 6)) (obind (F_slices_Clone_api_Msg_d x0.inbox) fun y2 ↦ let t9 := (ltake (ldrop y2 1) (itn (isub (len y2) 1))); obind (F_slices_Clone_api_Order_d x0.orders) fun y3 ↦ obind (F_slices_Clone_api_Note_d x0.notes) fun y4 ↦ cnd (ilt 0 (len y2)) (cnd (ile 1 (len y2)) (cnd (ieq (lget y2 0).kind 1) (obind (F_slices_BinarySearchFunc_api_Order_api_Order_int64 y3 (lget y2 0).order PUnit.unit) fun y5 ↦ cnd y5.snd (some (SVenue.mk t9 y3 y4, 0)) (cnd x1 (obind (F_slices_Insert_api_Order y3 y5.fst [SOrder.mk (lget y2 0).order (lget y2 0).account (lget y2 0).symbol (lget y2 0).side (lget y2 0).qty (lget y2 0).price 0 2 0 0 0 false]) fun y6 ↦ cnd (ile (len (lapp y4 [SNote.mk (wr IntKind.i64 (iadd (len y4) 1)) 1 (lget y2 0).order 0 0])) 68719476736) (some (SVenue.mk t9 y6 (lapp y4 [SNote.mk (wr IntKind.i64 (iadd (len y4) 1)) 1 (lget y2 0).order 0 0]), 0)) none) (obind (F_slices_Insert_api_Order y3 y5.fst [SOrder.mk (lget y2 0).order (lget y2 0).account (lget y2 0).symbol (lget y2 0).side (lget y2 0).qty (lget y2 0).price 0 3 0 0 0 false]) fun y7 ↦ cnd (ile (len (lapp y4 [SNote.mk (wr IntKind.i64 (iadd (len y4) 1)) 2 (lget y2 0).order 0 0])) 68719476736) (some (SVenue.mk t9 y7 (lapp y4 [SNote.mk (wr IntKind.i64 (iadd (len y4) 1)) 2 (lget y2 0).order 0 0]), 0)) none))) (cnd (ieq (lget y2 0).kind 2) (obind (F_venue_Find (SVenue.mk t9 y3 y4) (lget y2 0).order) fun y8 ↦ let t3 := (lset y3 (itn y8) (SOrder.mk (lget y3 (itn y8)).id (lget y3 (itn y8)).account (lget y3 (itn y8)).symbol (lget y3 (itn y8)).side (lget y3 (itn y8)).qty (lget y3 (itn y8)).price (lget y3 (itn y8)).filled (lget y3 (itn y8)).phase (lget y3 (itn y8)).newQty (lget y3 (itn y8)).newPrice (lget y2 0).version (lget y3 (itn y8)).asked)); let t1 := (lset t3 (itn y8) (SOrder.mk (lget t3 (itn y8)).id (lget t3 (itn y8)).account (lget t3 (itn y8)).symbol (lget t3 (itn y8)).side (lget y2 0).qty (lget t3 (itn y8)).price (lget t3 (itn y8)).filled (lget t3 (itn y8)).phase (lget t3 (itn y8)).newQty (lget t3 (itn y8)).newPrice (lget t3 (itn y8)).version (lget t3 (itn y8)).asked)); let t6 := (lset t1 (itn y8) (SOrder.mk (lget t1 (itn y8)).id (lget t1 (itn y8)).account (lget t1 (itn y8)).symbol (lget t1 (itn y8)).side (lget t1 (itn y8)).qty (lget y2 0).price (lget t1 (itn y8)).filled (lget t1 (itn y8)).phase (lget t1 (itn y8)).newQty (lget t1 (itn y8)).newPrice (lget t1 (itn y8)).version (lget t1 (itn y8)).asked)); cnd (bor (band (ile 0 y8) (ilt y8 (len y3))) (bnot (bnot (ieq y8 (-1))))) (cnd (bor (ieq y8 (-1)) (bnot (ieq (lget y3 (itn y8)).phase 2))) (some (SVenue.mk t9 y3 y4, 0)) (cnd (band (ile 0 y8) (ilt y8 (len y3))) (cnd (ile (lget y2 0).version (lget y3 (itn y8)).version) (some (SVenue.mk t9 y3 y4, 0)) (cnd (bor (bnot x1) (ile (lget y2 0).qty (lget t3 (itn y8)).filled)) (cnd (ile (len (lapp y4 [SNote.mk (wr IntKind.i64 (iadd (len y4) 1)) 6 (lget t3 (itn y8)).id 0 0])) 68719476736) (some (SVenue.mk t9 t3 (lapp y4 [SNote.mk (wr IntKind.i64 (iadd (len y4) 1)) 6 (lget t3 (itn y8)).id 0 0]), 0)) none) (cnd (ile (len (lapp y4 [SNote.mk (wr IntKind.i64 (iadd (len y4) 1)) 5 (lget t6 (itn y8)).id (lget y2 0).qty (lget y2 0).price])) 68719476736) (some (SVenue.mk t9 t6 (lapp y4 [SNote.mk (wr IntKind.i64 (iadd (len y4) 1)) 5 (lget t6 (itn y8)).id (lget y2 0).qty (lget y2 0).price]), 0)) none))) none)) none) (obind (F_venue_Find (SVenue.mk t9 y3 y4) (lget y2 0).order) fun y9 ↦ let t7 := (lset y3 (itn y9) (SOrder.mk (lget y3 (itn y9)).id (lget y3 (itn y9)).account (lget y3 (itn y9)).symbol (lget y3 (itn y9)).side (lget y3 (itn y9)).qty (lget y3 (itn y9)).price (lget y3 (itn y9)).filled 3 (lget y3 (itn y9)).newQty (lget y3 (itn y9)).newPrice (lget y3 (itn y9)).version (lget y3 (itn y9)).asked)); cnd (bor (band (ile 0 y9) (ilt y9 (len y3))) (bnot (bnot (ieq y9 (-1))))) (cnd (bor (ieq y9 (-1)) (bnot (ieq (lget y3 (itn y9)).phase 2))) (some (SVenue.mk t9 y3 y4, 0)) (cnd (band (ile 0 y9) (ilt y9 (len y3))) (cnd x1 (cnd (ile (len (lapp y4 [SNote.mk (wr IntKind.i64 (iadd (len y4) 1)) 4 (lget t7 (itn y9)).id 0 0])) 68719476736) (some (SVenue.mk t9 t7 (lapp y4 [SNote.mk (wr IntKind.i64 (iadd (len y4) 1)) 4 (lget t7 (itn y9)).id 0 0]), 0)) none) (some (SVenue.mk t9 y3 y4, 0))) none)) none))) none) none)) (obind (F_venue_swells x0) fun y10 ↦ cnd (band y10 (ieq (len x0.orders) 400)) (some (x0, 6)) (obind (F_slices_Clone_api_Msg_d x0.inbox) fun y11 ↦ let t8 := (ltake (ldrop y11 1) (itn (isub (len y11) 1))); obind (F_slices_Clone_api_Order_d x0.orders) fun y12 ↦ obind (F_slices_Clone_api_Note_d x0.notes) fun y13 ↦ cnd (ilt 0 (len y11)) (cnd (ile 1 (len y11)) (cnd (ieq (lget y11 0).kind 1) (obind (F_slices_BinarySearchFunc_api_Order_api_Order_int64 y12 (lget y11 0).order PUnit.unit) fun y14 ↦ cnd y14.snd (some (SVenue.mk t8 y12 y13, 0)) (cnd x1 (obind (F_slices_Insert_api_Order y12 y14.fst [SOrder.mk (lget y11 0).order (lget y11 0).account (lget y11 0).symbol (lget y11 0).side (lget y11 0).qty (lget y11 0).price 0 2 0 0 0 false]) fun y15 ↦ cnd (ile (len (lapp y13 [SNote.mk (wr IntKind.i64 (iadd (len y13) 1)) 1 (lget y11 0).order 0 0])) 68719476736) (some (SVenue.mk t8 y15 (lapp y13 [SNote.mk (wr IntKind.i64 (iadd (len y13) 1)) 1 (lget y11 0).order 0 0]), 0)) none) (obind (F_slices_Insert_api_Order y12 y14.fst [SOrder.mk (lget y11 0).order (lget y11 0).account (lget y11 0).symbol (lget y11 0).side (lget y11 0).qty (lget y11 0).price 0 3 0 0 0 false]) fun y16 ↦ cnd (ile (len (lapp y13 [SNote.mk (wr IntKind.i64 (iadd (len y13) 1)) 2 (lget y11 0).order 0 0])) 68719476736) (some (SVenue.mk t8 y16 (lapp y13 [SNote.mk (wr IntKind.i64 (iadd (len y13) 1)) 2 (lget y11 0).order 0 0]), 0)) none))) (cnd (ieq (lget y11 0).kind 2) (obind (F_venue_Find (SVenue.mk t8 y12 y13) (lget y11 0).order) fun y17 ↦ let t2 := (lset y12 (itn y17) (SOrder.mk (lget y12 (itn y17)).id (lget y12 (itn y17)).account (lget y12 (itn y17)).symbol (lget y12 (itn y17)).side (lget y12 (itn y17)).qty (lget y12 (itn y17)).price (lget y12 (itn y17)).filled (lget y12 (itn y17)).phase (lget y12 (itn y17)).newQty (lget y12 (itn y17)).newPrice (lget y11 0).version (lget y12 (itn y17)).asked)); let t0 := (lset t2 (itn y17) (SOrder.mk (lget t2 (itn y17)).id (lget t2 (itn y17)).account (lget t2 (itn y17)).symbol (lget t2 (itn y17)).side (lget y11 0).qty (lget t2 (itn y17)).price (lget t2 (itn y17)).filled (lget t2 (itn y17)).phase (lget t2 (itn y17)).newQty (lget t2 (itn y17)).newPrice (lget t2 (itn y17)).version (lget t2 (itn y17)).asked)); let t4 := (lset t0 (itn y17) (SOrder.mk (lget t0 (itn y17)).id (lget t0 (itn y17)).account (lget t0 (itn y17)).symbol (lget t0 (itn y17)).side (lget t0 (itn y17)).qty (lget y11 0).price (lget t0 (itn y17)).filled (lget t0 (itn y17)).phase (lget t0 (itn y17)).newQty (lget t0 (itn y17)).newPrice (lget t0 (itn y17)).version (lget t0 (itn y17)).asked)); cnd (bor (band (ile 0 y17) (ilt y17 (len y12))) (bnot (bnot (ieq y17 (-1))))) (cnd (bor (ieq y17 (-1)) (bnot (ieq (lget y12 (itn y17)).phase 2))) (some (SVenue.mk t8 y12 y13, 0)) (cnd (band (ile 0 y17) (ilt y17 (len y12))) (cnd (ile (lget y11 0).version (lget y12 (itn y17)).version) (some (SVenue.mk t8 y12 y13, 0)) (cnd (bor (bnot x1) (ile (lget y11 0).qty (lget t2 (itn y17)).filled)) (cnd (ile (len (lapp y13 [SNote.mk (wr IntKind.i64 (iadd (len y13) 1)) 6 (lget t2 (itn y17)).id 0 0])) 68719476736) (some (SVenue.mk t8 t2 (lapp y13 [SNote.mk (wr IntKind.i64 (iadd (len y13) 1)) 6 (lget t2 (itn y17)).id 0 0]), 0)) none) (cnd (ile (len (lapp y13 [SNote.mk (wr IntKind.i64 (iadd (len y13) 1)) 5 (lget t4 (itn y17)).id (lget y11 0).qty (lget y11 0).price])) 68719476736) (some (SVenue.mk t8 t4 (lapp y13 [SNote.mk (wr IntKind.i64 (iadd (len y13) 1)) 5 (lget t4 (itn y17)).id (lget y11 0).qty (lget y11 0).price]), 0)) none))) none)) none) (obind (F_venue_Find (SVenue.mk t8 y12 y13) (lget y11 0).order) fun y18 ↦ let t5 := (lset y12 (itn y18) (SOrder.mk (lget y12 (itn y18)).id (lget y12 (itn y18)).account (lget y12 (itn y18)).symbol (lget y12 (itn y18)).side (lget y12 (itn y18)).qty (lget y12 (itn y18)).price (lget y12 (itn y18)).filled 3 (lget y12 (itn y18)).newQty (lget y12 (itn y18)).newPrice (lget y12 (itn y18)).version (lget y12 (itn y18)).asked)); cnd (bor (band (ile 0 y18) (ilt y18 (len y12))) (bnot (bnot (ieq y18 (-1))))) (cnd (bor (ieq y18 (-1)) (bnot (ieq (lget y12 (itn y18)).phase 2))) (some (SVenue.mk t8 y12 y13, 0)) (cnd (band (ile 0 y18) (ilt y18 (len y12))) (cnd x1 (cnd (ile (len (lapp y13 [SNote.mk (wr IntKind.i64 (iadd (len y13) 1)) 4 (lget t5 (itn y18)).id 0 0])) 68719476736) (some (SVenue.mk t8 t5 (lapp y13 [SNote.mk (wr IntKind.i64 (iadd (len y13) 1)) 4 (lget t5 (itn y18)).id 0 0]), 0)) none) (some (SVenue.mk t8 y12 y13, 0))) none)) none))) none) none))))
theorem F_venue_Take_d_eq : F_venue_Take = F_venue_Take_d := by
  funext a0 a1
  unfold F_venue_Take F_venue_Take_d
  simp only [F_slices_Clone_api_Msg_d_eq, F_slices_Clone_api_Order_d_eq, F_slices_Clone_api_Note_d_eq]
def F_venue_Fill_d (x0 : SVenue) (x1 : Int) (x2 : Int) : Option (SVenue × Int) := obind (F_venue_Right x0) fun y0 ↦ cnd (bor (bnot y0) (ilt x2 1)) (some (x0, 1)) (obind (F_venue_Find x0 x1) fun y1 ↦ cnd (ieq y1 (-1)) (some (x0, 7)) (obind (F_slices_Clone_api_Msg_d x0.inbox) fun y2 ↦ obind (F_slices_Clone_api_Order_d x0.orders) fun y3 ↦ obind (F_slices_Clone_api_Note_d x0.notes) fun y4 ↦ obind (F_venue_Find (SVenue.mk y2 y3 y4) x1) fun y5 ↦ cnd (bor (band (ile 0 y5) (ilt y5 (len y3))) (bnot (bnot (ieq y5 (-1))))) (cnd (bor (ieq y5 (-1)) (bnot (ieq (lget y3 (itn y5)).phase 2))) (some (x0, 8)) (cnd (band (ile 0 y5) (ilt y5 (len y3))) (cnd (ilt (wr IntKind.i64 (isub (lget y3 (itn y5)).qty (lget y3 (itn y5)).filled)) x2) (some (x0, 8)) (obind (F_venue_full x0) fun y6 ↦ cnd y6 (some (x0, 6)) (cnd (ieq (lget (lset y3 (itn y5) (SOrder.mk (lget y3 (itn y5)).id (lget y3 (itn y5)).account (lget y3 (itn y5)).symbol (lget y3 (itn y5)).side (lget y3 (itn y5)).qty (lget y3 (itn y5)).price (wr IntKind.i64 (iadd (lget y3 (itn y5)).filled x2)) (lget y3 (itn y5)).phase (lget y3 (itn y5)).newQty (lget y3 (itn y5)).newPrice (lget y3 (itn y5)).version (lget y3 (itn y5)).asked)) (itn y5)).filled (lget (lset y3 (itn y5) (SOrder.mk (lget y3 (itn y5)).id (lget y3 (itn y5)).account (lget y3 (itn y5)).symbol (lget y3 (itn y5)).side (lget y3 (itn y5)).qty (lget y3 (itn y5)).price (wr IntKind.i64 (iadd (lget y3 (itn y5)).filled x2)) (lget y3 (itn y5)).phase (lget y3 (itn y5)).newQty (lget y3 (itn y5)).newPrice (lget y3 (itn y5)).version (lget y3 (itn y5)).asked)) (itn y5)).qty) (cnd (ile (len (lapp y4 [SNote.mk (wr IntKind.i64 (iadd (len y4) 1)) 3 x1 x2 0])) 68719476736) (some (SVenue.mk y2 (lset (lset y3 (itn y5) (SOrder.mk (lget y3 (itn y5)).id (lget y3 (itn y5)).account (lget y3 (itn y5)).symbol (lget y3 (itn y5)).side (lget y3 (itn y5)).qty (lget y3 (itn y5)).price (wr IntKind.i64 (iadd (lget y3 (itn y5)).filled x2)) (lget y3 (itn y5)).phase (lget y3 (itn y5)).newQty (lget y3 (itn y5)).newPrice (lget y3 (itn y5)).version (lget y3 (itn y5)).asked)) (itn y5) (SOrder.mk (lget (lset y3 (itn y5) (SOrder.mk (lget y3 (itn y5)).id (lget y3 (itn y5)).account (lget y3 (itn y5)).symbol (lget y3 (itn y5)).side (lget y3 (itn y5)).qty (lget y3 (itn y5)).price (wr IntKind.i64 (iadd (lget y3 (itn y5)).filled x2)) (lget y3 (itn y5)).phase (lget y3 (itn y5)).newQty (lget y3 (itn y5)).newPrice (lget y3 (itn y5)).version (lget y3 (itn y5)).asked)) (itn y5)).id (lget (lset y3 (itn y5) (SOrder.mk (lget y3 (itn y5)).id (lget y3 (itn y5)).account (lget y3 (itn y5)).symbol (lget y3 (itn y5)).side (lget y3 (itn y5)).qty (lget y3 (itn y5)).price (wr IntKind.i64 (iadd (lget y3 (itn y5)).filled x2)) (lget y3 (itn y5)).phase (lget y3 (itn y5)).newQty (lget y3 (itn y5)).newPrice (lget y3 (itn y5)).version (lget y3 (itn y5)).asked)) (itn y5)).account (lget (lset y3 (itn y5) (SOrder.mk (lget y3 (itn y5)).id (lget y3 (itn y5)).account (lget y3 (itn y5)).symbol (lget y3 (itn y5)).side (lget y3 (itn y5)).qty (lget y3 (itn y5)).price (wr IntKind.i64 (iadd (lget y3 (itn y5)).filled x2)) (lget y3 (itn y5)).phase (lget y3 (itn y5)).newQty (lget y3 (itn y5)).newPrice (lget y3 (itn y5)).version (lget y3 (itn y5)).asked)) (itn y5)).symbol (lget (lset y3 (itn y5) (SOrder.mk (lget y3 (itn y5)).id (lget y3 (itn y5)).account (lget y3 (itn y5)).symbol (lget y3 (itn y5)).side (lget y3 (itn y5)).qty (lget y3 (itn y5)).price (wr IntKind.i64 (iadd (lget y3 (itn y5)).filled x2)) (lget y3 (itn y5)).phase (lget y3 (itn y5)).newQty (lget y3 (itn y5)).newPrice (lget y3 (itn y5)).version (lget y3 (itn y5)).asked)) (itn y5)).side (lget (lset y3 (itn y5) (SOrder.mk (lget y3 (itn y5)).id (lget y3 (itn y5)).account (lget y3 (itn y5)).symbol (lget y3 (itn y5)).side (lget y3 (itn y5)).qty (lget y3 (itn y5)).price (wr IntKind.i64 (iadd (lget y3 (itn y5)).filled x2)) (lget y3 (itn y5)).phase (lget y3 (itn y5)).newQty (lget y3 (itn y5)).newPrice (lget y3 (itn y5)).version (lget y3 (itn y5)).asked)) (itn y5)).qty (lget (lset y3 (itn y5) (SOrder.mk (lget y3 (itn y5)).id (lget y3 (itn y5)).account (lget y3 (itn y5)).symbol (lget y3 (itn y5)).side (lget y3 (itn y5)).qty (lget y3 (itn y5)).price (wr IntKind.i64 (iadd (lget y3 (itn y5)).filled x2)) (lget y3 (itn y5)).phase (lget y3 (itn y5)).newQty (lget y3 (itn y5)).newPrice (lget y3 (itn y5)).version (lget y3 (itn y5)).asked)) (itn y5)).price (lget (lset y3 (itn y5) (SOrder.mk (lget y3 (itn y5)).id (lget y3 (itn y5)).account (lget y3 (itn y5)).symbol (lget y3 (itn y5)).side (lget y3 (itn y5)).qty (lget y3 (itn y5)).price (wr IntKind.i64 (iadd (lget y3 (itn y5)).filled x2)) (lget y3 (itn y5)).phase (lget y3 (itn y5)).newQty (lget y3 (itn y5)).newPrice (lget y3 (itn y5)).version (lget y3 (itn y5)).asked)) (itn y5)).filled 3 (lget (lset y3 (itn y5) (SOrder.mk (lget y3 (itn y5)).id (lget y3 (itn y5)).account (lget y3 (itn y5)).symbol (lget y3 (itn y5)).side (lget y3 (itn y5)).qty (lget y3 (itn y5)).price (wr IntKind.i64 (iadd (lget y3 (itn y5)).filled x2)) (lget y3 (itn y5)).phase (lget y3 (itn y5)).newQty (lget y3 (itn y5)).newPrice (lget y3 (itn y5)).version (lget y3 (itn y5)).asked)) (itn y5)).newQty (lget (lset y3 (itn y5) (SOrder.mk (lget y3 (itn y5)).id (lget y3 (itn y5)).account (lget y3 (itn y5)).symbol (lget y3 (itn y5)).side (lget y3 (itn y5)).qty (lget y3 (itn y5)).price (wr IntKind.i64 (iadd (lget y3 (itn y5)).filled x2)) (lget y3 (itn y5)).phase (lget y3 (itn y5)).newQty (lget y3 (itn y5)).newPrice (lget y3 (itn y5)).version (lget y3 (itn y5)).asked)) (itn y5)).newPrice (lget (lset y3 (itn y5) (SOrder.mk (lget y3 (itn y5)).id (lget y3 (itn y5)).account (lget y3 (itn y5)).symbol (lget y3 (itn y5)).side (lget y3 (itn y5)).qty (lget y3 (itn y5)).price (wr IntKind.i64 (iadd (lget y3 (itn y5)).filled x2)) (lget y3 (itn y5)).phase (lget y3 (itn y5)).newQty (lget y3 (itn y5)).newPrice (lget y3 (itn y5)).version (lget y3 (itn y5)).asked)) (itn y5)).version (lget (lset y3 (itn y5) (SOrder.mk (lget y3 (itn y5)).id (lget y3 (itn y5)).account (lget y3 (itn y5)).symbol (lget y3 (itn y5)).side (lget y3 (itn y5)).qty (lget y3 (itn y5)).price (wr IntKind.i64 (iadd (lget y3 (itn y5)).filled x2)) (lget y3 (itn y5)).phase (lget y3 (itn y5)).newQty (lget y3 (itn y5)).newPrice (lget y3 (itn y5)).version (lget y3 (itn y5)).asked)) (itn y5)).asked)) (lapp y4 [SNote.mk (wr IntKind.i64 (iadd (len y4) 1)) 3 x1 x2 0]), 0)) none) (cnd (ile (len (lapp y4 [SNote.mk (wr IntKind.i64 (iadd (len y4) 1)) 3 x1 x2 0])) 68719476736) (some (SVenue.mk y2 (lset y3 (itn y5) (SOrder.mk (lget y3 (itn y5)).id (lget y3 (itn y5)).account (lget y3 (itn y5)).symbol (lget y3 (itn y5)).side (lget y3 (itn y5)).qty (lget y3 (itn y5)).price (wr IntKind.i64 (iadd (lget y3 (itn y5)).filled x2)) (lget y3 (itn y5)).phase (lget y3 (itn y5)).newQty (lget y3 (itn y5)).newPrice (lget y3 (itn y5)).version (lget y3 (itn y5)).asked)) (lapp y4 [SNote.mk (wr IntKind.i64 (iadd (len y4) 1)) 3 x1 x2 0]), 0)) none)))) none)) none))
theorem F_venue_Fill_d_eq : F_venue_Fill = F_venue_Fill_d := by
  funext a0 a1 a2
  unfold F_venue_Fill F_venue_Fill_d
  simp only [F_slices_Clone_api_Msg_d_eq, F_slices_Clone_api_Order_d_eq, F_slices_Clone_api_Note_d_eq]
def F_slices_Clone_api_Cell_d (x0 : (List SCell)) : Option ((List SCell)) := nilD (len x0) fun y0 ↦ cnd (beq y0 true) (some []) (cnd (ile (len x0) 68719476736) (some x0) none)
theorem F_slices_Clone_api_Cell_d_eq : F_slices_Clone_api_Cell = F_slices_Clone_api_Cell_d := by
  funext a0
  unfold F_slices_Clone_api_Cell F_slices_Clone_api_Cell_d
  simp only [nilq_eq]
def F_slices_Clone_api_Expo_d (x0 : (List SExpo)) : Option ((List SExpo)) := nilD (len x0) fun y0 ↦ cnd (beq y0 true) (some []) (cnd (ile (len x0) 68719476736) (some x0) none)
theorem F_slices_Clone_api_Expo_d_eq : F_slices_Clone_api_Expo = F_slices_Clone_api_Expo_d := by
  funext a0
  unfold F_slices_Clone_api_Expo F_slices_Clone_api_Expo_d
  simp only [nilq_eq]
def F_slices_Clone_int64_d (x0 : (List Int)) : Option ((List Int)) := nilD (len x0) fun y0 ↦ cnd (beq y0 true) (some []) (cnd (ile (len x0) 68719476736) (some x0) none)
theorem F_slices_Clone_int64_d_eq : F_slices_Clone_int64 = F_slices_Clone_int64_d := by
  funext a0
  unfold F_slices_Clone_int64 F_slices_Clone_int64_d
  simp only [nilq_eq]
end Go.Av
