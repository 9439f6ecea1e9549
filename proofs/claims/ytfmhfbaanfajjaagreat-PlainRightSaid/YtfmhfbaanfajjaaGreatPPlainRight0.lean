/- The plain law, part 0. No condition. -/
import Derived.Test.YtfmhfbaanfajjaaGreatDPlainRight
import Derived.KernelRfl
set_option linter.unusedVariables false
set_option linter.unusedSimpArgs false
set_option linter.unnecessarySimpa false
namespace Go.Av
open Go
/-- A loop that comes to its end. -/
theorem iterN_run {V W : Type} {step : V → Option (V ⊕ W)} (μ : V → Nat) (I : V → Prop) (R : W → Prop)
    (h : ∀ v, I v → (∃ v', step v = some (.inl v') ∧ I v' ∧ μ v' < μ v) ∨ ∃ w, step v = some (.inr w) ∧ R w) : ∀ (n : Nat) (v : V), μ v < n → I v → ∃ w, iterN step n v = some w ∧ R w
  | 0, v, hn, _ => by omega
  | n + 1, v, hn, hI => by
    rcases h v hI with ⟨v', h1, h2, h3⟩ | ⟨w, h1, h2⟩
    · obtain ⟨w, g1, g2⟩ := iterN_run μ I R h n v' (by omega) h2
      exact ⟨w, by rw [iterN, h1]; exact g1, g2⟩
    · exact ⟨w, by rw [iterN, h1]; rfl, h2⟩
theorem lt_LF {n : Nat} (h : n < 1000000) : n < LF := Nat.lt_trans h (by decide)
theorem wr_in {n : Int} (h : inI n) : wr .i64 n = n := by
  unfold inI at h
  unfold wr IntKind.wrap
  simp [IntKind.bits, IntKind.signed]
  omega
/-- What a sum of two numbers is turned into. -/
theorem wr_two {n : Int} (h1 : -18446744073709551616 ≤ n) (h2 : n ≤ 18446744073709551616) :
    (inI n ∧ wr .i64 n = n) ∨ (9223372036854775807 < n ∧ wr .i64 n = n - 18446744073709551616) ∨ (n < -9223372036854775808 ∧ wr .i64 n = n + 18446744073709551616) := by
  unfold inI wr IntKind.wrap
  simp [IntKind.bits, IntKind.signed]
  omega
theorem wr_u64 (n : Int) : wr .u64 n = n % 18446744073709551616 := by
  unfold wr IntKind.wrap
  simp [IntKind.bits, IntKind.signed]
theorem wr_small {n : Int} (h1 : 0 ≤ n) (h2 : n < 1000000000000) : wr .i64 n = n := wr_in ⟨by omega, by omega⟩
theorem cnd_t {α : Type} {b : Bool} {x y : α} (h : b = true) : cnd b x y = x := by subst h; rfl
theorem cnd_f {α : Type} {b : Bool} {x y : α} (h : b = false) : cnd b x y = y := by subst h; rfl
theorem cnd_if {α : Type} (b : Bool) (x y : α) : cnd b x y = if b = true then x else y := by cases b <;> rfl
theorem c_ieq {α : Type} (a b : Int) (x y : α) : cnd (ieq a b) x y = if a = b then x else y := by
  by_cases h : a = b
  · rw [if_pos h, show ieq a b = true by simp [ieq, h]]; rfl
  · rw [if_neg h, show ieq a b = false by simp [ieq, h]]; rfl
theorem c_ilt {α : Type} (a b : Int) (x y : α) : cnd (ilt a b) x y = if a < b then x else y := by
  by_cases h : a < b
  · rw [if_pos h, show ilt a b = true by simp [ilt, h]]; rfl
  · rw [if_neg h, show ilt a b = false by simp [ilt, h]]; rfl
theorem c_ile {α : Type} (a b : Int) (x y : α) : cnd (ile a b) x y = if a ≤ b then x else y := by
  by_cases h : a ≤ b
  · rw [if_pos h, show ile a b = true by simp [ile, h]]; rfl
  · rw [if_neg h, show ile a b = false by simp [ile, h]]; rfl
theorem c_bnot {α : Type} (b : Bool) (x y : α) : cnd (bnot b) x y = cnd b y x := by cases b <;> rfl
theorem c_dec {α : Type} (P : Prop) [Decidable P] (x y : α) : cnd (decide P) x y = if P then x else y := by
  by_cases h : P
  · rw [if_pos h, decide_eq_true h]; rfl
  · rw [if_neg h, decide_eq_false h]; rfl
instance (n : Int) : Decidable (inI n) := by unfold inI; infer_instance
theorem ob_some {α β : Type} (a : α) (f : α → Option β) : obind (some a) f = f a := rfl
theorem ob_if {α β : Type} (p : Prop) [Decidable p] (x y : Option α) (f : α → Option β) : obind (if p then x else y) f = if p then obind x f else obind y f := by split <;> rfl
theorem ilt_t {a b : Int} (h : a < b) : ilt a b = true := decide_eq_true h
theorem ilt_f {a b : Int} (h : ¬ a < b) : ilt a b = false := decide_eq_false h
theorem ile_t {a b : Int} (h : a ≤ b) : ile a b = true := decide_eq_true h
theorem ile_f {a b : Int} (h : ¬ a ≤ b) : ile a b = false := decide_eq_false h
theorem ieq_refl (a : Int) : ieq a a = true := by simp [ieq]
theorem beq_refl' (a : Bool) : beq a a = true := by cases a <;> rfl
theorem band_t {a b : Bool} (h1 : a = true) (h2 : b = true) : band a b = true := by subst h1; subst h2; rfl
theorem lget_nat {α : Type} [Inhabited α] (l : List α) (i : Nat) (h : i < l.length) : lget l (itn (i : Int)) = l[i] := by
  simp [lget, itn, h]
theorem inb {α : Type} (l : List α) (i : Nat) (h : i < l.length) : band (ile 0 (i : Int)) (ilt (i : Int) (len l)) = true := band_t (ile_t (by omega)) (ilt_t (by simp only [len]; omega))
theorem band_T (a b : Bool) : (band a b = true) = (a = true ∧ b = true) := by cases a <;> cases b <;> simp [band]
theorem band_F (a b : Bool) : (band a b = false) = (a = false ∨ b = false) := by cases a <;> cases b <;> simp [band]
theorem bor_T (a b : Bool) : (bor a b = true) = (a = true ∨ b = true) := by cases a <;> cases b <;> simp [bor]
theorem bor_F (a b : Bool) : (bor a b = false) = (a = false ∧ b = false) := by cases a <;> cases b <;> simp [bor]
theorem bnot_T (a : Bool) : (bnot a = true) = (a = false) := by cases a <;> simp [bnot]
theorem bnot_F (a : Bool) : (bnot a = false) = (a = true) := by cases a <;> simp [bnot]
theorem ilt_T (a b : Int) : (ilt a b = true) = (a < b) := by simp [ilt]
theorem ilt_F (a b : Int) : (ilt a b = false) = (b ≤ a) := by simp [ilt]
theorem ile_T (a b : Int) : (ile a b = true) = (a ≤ b) := by simp [ile]
theorem ile_F (a b : Int) : (ile a b = false) = (b < a) := by simp [ile]
theorem ieq_T (a b : Int) : (ieq a b = true) = (a = b) := by simp [ieq]
theorem ieq_F (a b : Int) : (ieq a b = false) = (a ≠ b) := by simp [ieq]
theorem beq_T (a b : Bool) : (beq a b = true) = (a = b) := by simp [beq]
theorem beq_F (a b : Bool) : (beq a b = false) = (a ≠ b) := by simp [beq]
/-- It ends, and what it ends in has Q. -/
def Wq {α : Type} (o : Option α) (Q : α → Prop) : Prop := ∃ a, o = some a ∧ Q a
theorem w_some {α : Type} {Q : α → Prop} (a : α) : Wq (some a) Q ↔ Q a := ⟨fun ⟨_, h, q⟩ => by cases h; exact q, fun h => ⟨a, rfl, h⟩⟩
theorem w_cnd {α : Type} {Q : α → Prop} (c : Bool) (x y : Option α) : Wq (cnd c x y) Q ↔ (c = true → Wq x Q) ∧ (c = false → Wq y Q) := by
  cases c <;> simp [cnd]
theorem w_bind {α β : Type} {Q : β → Prop} (o : Option α) (f : α → Option β) : Wq (obind o f) Q ↔ Wq o fun a => Wq (f a) Q := by
  cases o with
  | none => simp [obind, Wq]
  | some a => simp [obind, w_some]
theorem Wq.mono {α : Type} {Q R : α → Prop} {o : Option α} (h : Wq o Q) (hq : ∀ a, Q a → R a) : Wq o R := by
  obtain ⟨a, e, q⟩ := h
  exact ⟨a, e, hq a q⟩
theorem Wq.bind {α β : Type} {Q : α → Prop} {R : β → Prop} {o : Option α} {f : α → Option β} (h : Wq o Q) (hq : ∀ a, Q a → Wq (f a) R) : Wq (obind o f) R := (w_bind o f).2 (h.mono hq)
theorem Wq.eq {α : Type} {o : Option α} {a : α} (h : Wq o fun x => x = a) : o = some a := by obtain ⟨x, e, rfl⟩ := h; exact e
/-- What a question comes to. -/
theorem Wq.dec {o : Option Bool} {P : Prop} [Decidable P] (h : Wq o fun b => b = true ↔ P) : o = some (decide P) := by
  obtain ⟨b, e, q⟩ := h
  rw [e]; congr 1
  cases b <;> simp_all
theorem w_iter {V W : Type} {step : V → Option (V ⊕ W)} (μ : V → Nat) (I : V → Prop) (R : W → Prop)
    (h : ∀ v, I v → Wq (step v) fun r => match r with | .inl v' => I v' ∧ μ v' < μ v | .inr w => R w) (n : Nat) (v : V) (hn : μ v < n) (hi : I v) : Wq (iterN step n v) R :=
  iterN_run μ I R (fun v hv => by
    obtain ⟨r, e, q⟩ := h v hv
    match r, e, q with
    | .inl v', e, q => exact .inl ⟨v', e, q.1, q.2⟩
    | .inr w, e, q => exact .inr ⟨w, e, q⟩) n v hn hi
theorem wr_succ {i : Nat} (h : i < 1000000) : wr .i64 (iadd (i : Int) 1) = ((i + 1 : Nat) : Int) := by
  unfold iadd
  rw [wr_small (by omega) (by omega)]; omega
theorem ilt_nat {α : Type} (l : List α) (i : Nat) : ilt (i : Int) (len l) = decide (i < l.length) := by
  simp [ilt, len]
/-- A loop over a list, one by one: in each round it goes on or ends. -/
theorem w_for {W X : Type} {step : Int × X → Option ((Int × X) ⊕ W)} {n : Nat} (hn : n < 999999) (J : Nat → X → Prop) (R : W → Prop)
    (h : ∀ i x, i < n → J i x → Wq (step ((i : Int), x)) fun r => match r with | .inl (k, x') => k = ((i + 1 : Nat) : Int) ∧ J (i + 1) x' | .inr w => R w)
    (he : ∀ x, J n x → Wq (step ((n : Int), x)) fun r => match r with | .inl _ => False | .inr w => R w)
    (x : X) (i0 : Nat) (hi0 : i0 ≤ n) (hx : J i0 x) : Wq (iterN step LF ((i0 : Int), x)) R := by
  refine w_iter (fun v : Int × X => n - v.1.toNat) (fun v : Int × X => ∃ i : Nat, v.1 = (i : Int) ∧ i ≤ n ∧ J i v.2) R ?_ LF _ (lt_LF (by simp only; omega)) ⟨i0, rfl, hi0, hx⟩
  rintro ⟨k, y⟩ ⟨i, rfl, hi, hj⟩
  by_cases hlt : i < n
  · refine (h i y hlt hj).mono fun r hr => ?_
    match r, hr with
    | .inl (k, x'), hr =>
      obtain ⟨rfl, h2⟩ := hr
      exact ⟨⟨i + 1, rfl, hlt, h2⟩, by simp only [Int.toNat_natCast]; omega⟩
    | .inr w, hr => exact hr
  · obtain rfl : i = n := by omega
    refine (he y hj).mono fun r hr => ?_
    match r, hr with
    | .inl _, hr => exact hr.elim
    | .inr w, hr => exact hr
theorem nilq_clone {α : Type} {l : List α} (h : l.length < 1000000) : nilq (len l) (fun y0 ↦ cnd (beq y0 true) (some []) (cnd (ile (len l) 68719476736) (some l) none)) = some l := by
  unfold nilq
  have hc : ile (len l) 68719476736 = true := ile_t (by simp only [len]; omega)
  simp only [cnd_t hc]
  by_cases h0 : len l = 0
  · have : l = [] := List.eq_nil_of_length_eq_zero (by simp only [len] at h0; omega)
    subst this
    simp [len, cnd, beq, ile]
  · rw [if_neg h0]
    simp [cnd, beq]
theorem cnd_true {α : Type} (x y : α) : cnd true x y = x := rfl
theorem cnd_false {α : Type} (x y : α) : cnd false x y = y := rfl
theorem bnot_true : bnot true = false := rfl
theorem bnot_false : bnot false = true := rfl
theorem band_true (b : Bool) : band true b = b := rfl
theorem band_false (b : Bool) : band false b = false := rfl
theorem bor_true (b : Bool) : bor true b = true := rfl
theorem bor_false (b : Bool) : bor false b = b := rfl
theorem bor_true' (b : Bool) : bor b true = true := by cases b <;> rfl
theorem ieq_00 : ieq 0 0 = true := rfl
theorem ieq_30 : ieq 3 0 = false := rfl
theorem lset_len {α : Type} (l : List α) (i : Nat) (x : α) : (lset l i x).length = l.length := by simp [lset]
theorem e_num_Add {a b : Int} (ha : inI a) (hb : inI b) : F_num_Add a b = some (if inI (a + b) then (a + b, 0) else (0, 3)) := by
  unfold inI at ha hb
  unfold F_num_Add iadd
  rcases wr_two (n := a + b) (by omega) (by omega) with ⟨h, e⟩ | ⟨h, e⟩ | ⟨h, e⟩ <;> rw [e, cnd_if] <;> simp only [band_T, band_F, bor_T, bor_F, bnot_T, bnot_F, ilt_T, ilt_F, ile_T, ile_F, ieq_T, ieq_F, beq_T, beq_F]
  · rw [if_pos h, if_neg]
    rintro ⟨h1, h2⟩; unfold inI at h; exact h1 (decide_eq_decide.2 (by omega))
  · rw [if_pos, if_neg (by unfold inI; omega)]
    exact ⟨fun h1 => by have := decide_eq_decide.1 h1; omega, by omega⟩
  · rw [if_pos, if_neg (by unfold inI; omega)]
    exact ⟨fun h1 => by have := decide_eq_decide.1 h1; omega, by omega⟩
theorem e_num_Sub {a b : Int} (ha : inI a) (hb : inI b) : F_num_Sub a b = some (if inI (a - b) then (a - b, 0) else (0, 3)) := by
  unfold inI at ha hb
  unfold F_num_Sub isub
  rcases wr_two (n := a - b) (by omega) (by omega) with ⟨h, e⟩ | ⟨h, e⟩ | ⟨h, e⟩ <;> rw [e, cnd_if] <;> simp only [band_T, band_F, bor_T, bor_F, bnot_T, bnot_F, ilt_T, ilt_F, ile_T, ile_F, ieq_T, ieq_F, beq_T, beq_F]
  · rw [if_pos h, if_neg]
    rintro ⟨h1, h2⟩; unfold inI at h; exact h1 (decide_eq_decide.2 (by omega))
  · rw [if_pos, if_neg (by unfold inI; omega)]
    exact ⟨fun h1 => by have := decide_eq_decide.1 h1; omega, by omega⟩
  · rw [if_pos, if_neg (by unfold inI; omega)]
    exact ⟨fun h1 => by have := decide_eq_decide.1 h1; omega, by omega⟩
theorem e_num_Max (a b : Int) : F_num_Max a b = some (max a b) := by
  unfold F_num_Max imax
  congr 1
  by_cases h : b > a
  · rw [if_pos h]; omega
  · rw [if_neg h]; omega
/-- A number of 64 bits is two of 32. -/
theorem half (n : Int) (h1 : 0 ≤ n) (h2 : n < 18446744073709551616) : ∃ a b : Int, n = a * 4294967296 + b ∧ 0 ≤ a ∧ a < 4294967296 ∧ 0 ≤ b ∧ b < 4294967296 ∧ ishr .u64 n 32 = a ∧ wr .u64 (iand .u64 n 4294967295) = b := by
  refine ⟨n / 4294967296, n % 4294967296, by omega, by omega, by omega, by omega, by omega, ?_, ?_⟩
  · unfold ishr
    have : min (Int.toNat 32) (IntKind.bits .u64) = 32 := by decide
    rw [this, Int.fdiv_eq_ediv_of_nonneg _ (by decide)]
    rfl
  · unfold iand
    rw [wr_u64]
    have e : (BitVec.ofInt (IntKind.bits .u64) n &&& BitVec.ofInt (IntKind.bits .u64) 4294967295).toNat = n.toNat % 4294967296 := by
      rw [BitVec.toNat_and]
      have : (BitVec.ofInt (IntKind.bits .u64) 4294967295).toNat = 2 ^ 32 - 1 := by decide
      rw [this, Nat.and_two_pow_sub_one_eq_mod]
      rw [BitVec.toNat_ofInt]
      congr 1
      have : (n % (2 ^ (IntKind.bits .u64) : Nat)) = n := Int.emod_eq_of_lt h1 (by simpa [IntKind.bits] using h2)
      rw [this]
    rw [e]; omega
theorem e_Mul64 {x y : Int} (hx : 0 ≤ x) (hx2 : x < 18446744073709551616) (hy : 0 ≤ y) (hy2 : y < 18446744073709551616) :
    F_math_bits_Mul64 x y = some (x * y / 18446744073709551616, x * y % 18446744073709551616) := by
  obtain ⟨a, b, e1, a1, a2, b1, b2, s1, s2⟩ := half x hx hx2
  obtain ⟨c, d, e2, c1, c2, d1, d2, t1, t2⟩ := half y hy hy2
  unfold F_math_bits_Mul64
  rw [s1, s2, t1, t2]
  unfold imul iadd
  have m1 : 0 ≤ a * c ∧ a * c ≤ 4294967295 * 4294967295 := ⟨Int.mul_nonneg a1 c1, Int.mul_le_mul (by omega) (by omega) c1 (by omega)⟩
  have m2 : 0 ≤ a * d ∧ a * d ≤ 4294967295 * 4294967295 := ⟨Int.mul_nonneg a1 d1, Int.mul_le_mul (by omega) (by omega) d1 (by omega)⟩
  have m3 : 0 ≤ b * c ∧ b * c ≤ 4294967295 * 4294967295 := ⟨Int.mul_nonneg b1 c1, Int.mul_le_mul (by omega) (by omega) c1 (by omega)⟩
  have m4 : 0 ≤ b * d ∧ b * d ≤ 4294967295 * 4294967295 := ⟨Int.mul_nonneg b1 d1, Int.mul_le_mul (by omega) (by omega) d1 (by omega)⟩
  have mm : x * y = a * c * 18446744073709551616 + (a * d + b * c) * 4294967296 + b * d := by
    subst e1 e2
    simp only [Int.add_mul, Int.mul_add]
    have q1 : a * 4294967296 * (c * 4294967296) = a * c * 18446744073709551616 := by
      rw [Int.mul_assoc, Int.mul_left_comm 4294967296, ← Int.mul_assoc, ← Int.mul_assoc]; omega
    have q2 : a * 4294967296 * d = a * d * 4294967296 := by rw [Int.mul_assoc, Int.mul_comm 4294967296, ← Int.mul_assoc]
    have q3 : b * (c * 4294967296) = b * c * 4294967296 := by rw [← Int.mul_assoc]
    rw [q1, q2, q3]; omega
  rw [mm]
  generalize a * c = p at *
  generalize a * d = q at *
  generalize b * c = r at *
  generalize b * d = t at *
  have sh : ∀ n : Int, 0 ≤ n → n < 18446744073709551616 → ishr .u64 n 32 = n / 4294967296 := fun n h1 h2 => by
    obtain ⟨u, v, h3, h4, h5, h6, h7, h8, _⟩ := half n h1 h2
    rw [h8]; omega
  have la : ∀ n : Int, 0 ≤ n → n < 18446744073709551616 → wr .u64 (iand .u64 n 4294967295) = n % 4294967296 := fun n h1 h2 => by
    obtain ⟨u, v, h3, h4, h5, h6, h7, _, h8⟩ := half n h1 h2
    rw [h8]; omega
  simp only [wr_u64 p, wr_u64 q, wr_u64 r, wr_u64 t]
  rw [Int.emod_eq_of_lt (a := p) m1.1 (by omega), Int.emod_eq_of_lt (a := q) m2.1 (by omega), Int.emod_eq_of_lt (a := r) m3.1 (by omega), Int.emod_eq_of_lt (a := t) m4.1 (by omega)]
  rw [sh t m4.1 (by omega)]
  rw [wr_u64 (q + t / 4294967296), Int.emod_eq_of_lt (a := q + t / 4294967296) (by omega) (by omega)]
  rw [sh (q + t / 4294967296) (by omega) (by omega), la (q + t / 4294967296) (by omega) (by omega)]
  rw [wr_u64 (p + _), Int.emod_eq_of_lt (a := p + (q + t / 4294967296) / 4294967296) (by omega) (by omega)]
  rw [wr_u64 ((q + t / 4294967296) % 4294967296 + r), Int.emod_eq_of_lt (a := (q + t / 4294967296) % 4294967296 + r) (by omega) (by omega)]
  rw [sh _ (by omega) (by omega)]
  rw [wr_u64, wr_u64]
  congr 2 <;> omega
theorem e_num_size {a : Int} (ha : inI a) : F_num_size a = some (a.natAbs : Int) := by
  unfold inI at ha
  unfold F_num_size isub
  rw [cnd_if]; simp only [ilt_T, wr_u64]
  split
  · congr 1; omega
  · congr 1; omega
theorem e_num_Mul {a b : Int} (ha : inI a) (hb : inI b) : F_num_Mul a b = some (if inI (a * b) then (a * b, 0) else (0, 3)) := by
  unfold F_num_Mul
  rw [e_num_size ha, e_num_size hb, ob_some, ob_some, e_Mul64 (by omega) (by unfold inI at ha; omega) (by omega) (by unfold inI at hb; omega), ob_some]
  have hm : (a.natAbs : Int) * (b.natAbs : Int) = ((a * b).natAbs : Int) := by rw [Int.natAbs_mul]; rfl
  have hn : (a.natAbs : Int) * (b.natAbs : Int) ≤ 9223372036854775808 * 9223372036854775808 := Int.mul_le_mul (by unfold inI at ha; omega) (by unfold inI at hb; omega) (by omega) (by omega)
  rw [hm] at hn ⊢
  have hs : (decide (a < 0) = decide (b < 0) → 0 ≤ a * b) ∧ (decide (a < 0) ≠ decide (b < 0) → a * b ≤ 0) := by
    constructor
    · intro h
      by_cases h1 : a < 0
      · have h2 : b < 0 := by simpa [h1] using h
        exact Int.mul_nonneg_of_nonpos_of_nonpos (by omega) (by omega)
      · have h2 : ¬ b < 0 := by simpa [h1] using h
        exact Int.mul_nonneg (by omega) (by omega)
    · intro h
      by_cases h1 : a < 0
      · have h2 : ¬ b < 0 := by simpa [h1] using h
        exact Int.mul_nonpos_of_nonpos_of_nonneg (by omega) (by omega)
      · have h2 : b < 0 := by simpa [h1] using h
        exact Int.mul_nonpos_of_nonneg_of_nonpos (by omega) (by omega)
  generalize a * b = p at *
  simp only [cnd_if, band_T, band_F, bor_T, bor_F, bnot_T, bnot_F, ilt_T, ilt_F, ile_T, ile_F, ieq_T, ieq_F, beq_T, beq_F, isub, wr_u64, ne_eq]
  unfold ilt at *
  by_cases hd : decide (a < 0) = decide (b < 0)
  · have hp := hs.1 hd
    rw [if_neg (fun h => h.1.2 hd)]
    by_cases hr : p ≤ 9223372036854775807
    · rw [if_pos (by omega), if_pos ⟨by omega, by omega⟩, wr_in ⟨by omega, by omega⟩]
      congr 2; omega
    · rw [if_neg (by omega), if_neg (by unfold inI; omega)]
  · have hp := hs.2 hd
    by_cases hr : -9223372036854775808 ≤ p
    · rw [if_pos ⟨⟨by omega, hd⟩, by omega⟩, if_pos ⟨by omega, by omega⟩]
      congr 2
      rcases wr_two (n := (0 - ((p.natAbs : Int) % 18446744073709551616)) % 18446744073709551616) (by omega) (by omega) with ⟨h, e⟩ | ⟨h, e⟩ | ⟨h, e⟩ <;> rw [e] <;> unfold inI at * <;> omega
    · rw [if_neg (by omega), if_neg (by omega), if_neg (by unfold inI; omega)]
def knownP (n : Int) : Prop := 1 ≤ n ∧ n ≤ 1000000000000
/-- A right record. -/
def recP (r : SRec) : Prop :=
  (r.kind = 1 ∧ knownP r.order ∧ (0 ≤ r.account ∧ r.account < 8) ∧ (0 ≤ r.symbol ∧ r.symbol < 8) ∧ (r.side = 1 ∨ r.side = 2) ∧ 1 ≤ r.qty ∧ 1 ≤ r.price ∧ r.long = 0 ∧ r.short = 0 ∧ r.opn = 0 ∧ r.on = false ∧ r.seq = 0 ∧ r.what = 0) ∨
  (r.kind = 2 ∧ knownP r.order ∧ r.account = 0 ∧ r.symbol = 0 ∧ r.side = 0 ∧ 1 ≤ r.qty ∧ 1 ≤ r.price ∧ r.long = 0 ∧ r.short = 0 ∧ r.opn = 0 ∧ r.on = false ∧ r.seq = 0 ∧ r.what = 0) ∨
  (r.kind = 3 ∧ knownP r.order ∧ r.account = 0 ∧ r.symbol = 0 ∧ r.side = 0 ∧ r.qty = 0 ∧ r.price = 0 ∧ r.long = 0 ∧ r.short = 0 ∧ r.opn = 0 ∧ r.on = false ∧ r.seq = 0 ∧ r.what = 0) ∨
  (r.kind = 4 ∧ r.order = 0 ∧ (0 ≤ r.account ∧ r.account < 8) ∧ ((r.symbol = -1 ∧ r.long = 0 ∧ r.short = 0) ∨ (0 ≤ r.symbol ∧ r.symbol < 8)) ∧ r.side = 0 ∧ r.qty = 0 ∧ r.price = 0 ∧ 0 ≤ r.long ∧ 0 ≤ r.short ∧ 0 ≤ r.opn ∧ r.on = false ∧ r.seq = 0 ∧ r.what = 0) ∨
  (r.kind = 5 ∧ r.order = 0 ∧ r.account = 0 ∧ r.symbol = 0 ∧ r.side = 0 ∧ r.qty = 0 ∧ r.price = 0 ∧ r.long = 0 ∧ r.short = 0 ∧ r.opn = 0 ∧ r.seq = 0 ∧ r.what = 0) ∨
  (r.kind = 6 ∧ knownP r.order ∧ r.account = 0 ∧ r.symbol = 0 ∧ r.side = 0 ∧ r.long = 0 ∧ r.short = 0 ∧ r.opn = 0 ∧ r.on = false ∧ (1 ≤ r.seq ∧ r.seq ≤ 1000000000) ∧
    ((r.what = 3 ∧ 1 ≤ r.qty ∧ r.price = 0) ∨ (r.what = 5 ∧ 1 ≤ r.qty ∧ 1 ≤ r.price) ∨ ((r.what = 1 ∨ r.what = 2 ∨ r.what = 4 ∨ r.what = 6) ∧ r.qty = 0 ∧ r.price = 0)))
theorem imin3 (a b c : Int) : (0 ≤ imin (imin a b) c) ↔ 0 ≤ a ∧ 0 ≤ b ∧ 0 ≤ c := by
  unfold imin; split <;> split <;> omega
theorem s_rec_event (r : SRec) : Wq (F_rec_event r) fun b => b = true ↔ knownP r.order ∧ (1 ≤ r.seq ∧ r.seq ≤ 1000000000) ∧
    ((r.what = 3 ∧ 1 ≤ r.qty ∧ r.price = 0) ∨ (r.what = 5 ∧ 1 ≤ r.qty ∧ 1 ≤ r.price) ∨ ((r.what = 1 ∨ r.what = 2 ∨ r.what = 4 ∨ r.what = 6) ∧ r.qty = 0 ∧ r.price = 0)) := by
  unfold F_rec_event F_rec_known F_rec_sized
  by_cases h1 : 1 ≤ r.seq ∧ r.seq ≤ 1000000000
  · rw [cnd_t (b := bnot (bor (ilt r.seq 1) (ilt 1000000000 r.seq))) (by simp only [band_T, band_F, bor_T, bor_F, bnot_T, bnot_F, ilt_T, ilt_F, ile_T, ile_F, ieq_T, ieq_F, beq_T, beq_F]; omega), ob_some]
    by_cases h2 : knownP r.order
    · rw [show band (ile 1 r.order) (ile r.order 1000000000000) = true by simp only [band_T, band_F, bor_T, bor_F, bnot_T, bnot_F, ilt_T, ilt_F, ile_T, ile_F, ieq_T, ieq_F, beq_T, beq_F]; exact h2, cnd_f (by simp only [band_T, band_F, bor_T, bor_F, bnot_T, bnot_F, ilt_T, ilt_F, ile_T, ile_F, ieq_T, ieq_F, beq_T, beq_F]; exact ⟨by omega, trivial⟩)]
      by_cases k3 : r.what = 3
      · rw [cnd_t (by rw [ieq_T]; exact k3), w_some]; simp only [h1, h2, true_and, band_T, band_F, bor_T, bor_F, bnot_T, bnot_F, ilt_T, ilt_F, ile_T, ile_F, ieq_T, ieq_F, beq_T, beq_F]; omega
      rw [cnd_f (by rw [ieq_F]; exact k3)]
      by_cases k5 : r.what = 5
      · rw [cnd_t (by rw [ieq_T]; exact k5), ob_some, w_some]; simp only [h1, h2, true_and, band_T, band_F, bor_T, bor_F, bnot_T, bnot_F, ilt_T, ilt_F, ile_T, ile_F, ieq_T, ieq_F, beq_T, beq_F]; omega
      rw [cnd_f (by rw [ieq_F]; exact k5)]
      by_cases k1 : r.what = 1
      · rw [cnd_t (by rw [ieq_T]; exact k1), cnd_t (by rw [ieq_T]; exact k1), w_some]; simp only [h1, h2, true_and, band_T, band_F, bor_T, bor_F, bnot_T, bnot_F, ilt_T, ilt_F, ile_T, ile_F, ieq_T, ieq_F, beq_T, beq_F]; omega
      rw [cnd_f (by rw [ieq_F]; exact k1)]
      by_cases k2 : r.what = 2
      · rw [cnd_t (by rw [ieq_T]; exact k2), cnd_t (by rw [ieq_T]; exact k2), w_some]; simp only [h1, h2, true_and, band_T, band_F, bor_T, bor_F, bnot_T, bnot_F, ilt_T, ilt_F, ile_T, ile_F, ieq_T, ieq_F, beq_T, beq_F]; omega
      rw [cnd_f (by rw [ieq_F]; exact k2)]
      by_cases k4 : r.what = 4
      · rw [cnd_t (by rw [ieq_T]; exact k4), cnd_t (by rw [ieq_T]; exact k4), w_some]; simp only [h1, h2, true_and, band_T, band_F, bor_T, bor_F, bnot_T, bnot_F, ilt_T, ilt_F, ile_T, ile_F, ieq_T, ieq_F, beq_T, beq_F]; omega
      rw [cnd_f (by rw [ieq_F]; exact k4)]
      by_cases k6 : r.what = 6
      · rw [cnd_t (by rw [ieq_T]; exact k6), w_some]; simp only [h1, h2, true_and, band_T, band_F, bor_T, bor_F, bnot_T, bnot_F, ilt_T, ilt_F, ile_T, ile_F, ieq_T, ieq_F, beq_T, beq_F]; omega
      rw [cnd_f (by rw [ieq_F]; exact k6), w_some]
      simp only [h1, h2, true_and, Bool.false_eq_true, false_iff]; omega
    · rw [show band (ile 1 r.order) (ile r.order 1000000000000) = false by simp only [band_T, band_F, bor_T, bor_F, bnot_T, bnot_F, ilt_T, ilt_F, ile_T, ile_F, ieq_T, ieq_F, beq_T, beq_F]; unfold knownP at h2; omega, cnd_t (by simp only [band_T, band_F, bor_T, bor_F, bnot_T, bnot_F, ilt_T, ilt_F, ile_T, ile_F, ieq_T, ieq_F, beq_T, beq_F, or_true]), w_some]
      simp [h2]
  · rw [cnd_f (b := bnot (bor (ilt r.seq 1) (ilt 1000000000 r.seq))) (by simp only [band_T, band_F, bor_T, bor_F, bnot_T, bnot_F, ilt_T, ilt_F, ile_T, ile_F, ieq_T, ieq_F, beq_T, beq_F]; omega), ob_some, cnd_t (by simp only [band_T, band_F, bor_T, bor_F, bnot_T, bnot_F, ilt_T, ilt_F, ile_T, ile_F, ieq_T, ieq_F, beq_T, beq_F, or_true]), w_some]
    simp [h1]
theorem s_rec_Right (r : SRec) : Wq (F_rec_Right r) fun b => b = true ↔ recP r := by
  unfold F_rec_Right F_rec_fields
  obtain ⟨ev, he, hq⟩ := s_rec_event r
  by_cases k1 : r.kind = 1
  · have e1 : ieq r.kind 1 = true := by rw [ieq_T]; exact k1
    simp only [e1, cnd_true, ob_some]
    simp only [w_bind, w_cnd, w_some, band_T, band_F, bor_T, bor_F, bnot_T, bnot_F, ilt_T, ilt_F, ile_T, ile_F, ieq_T, ieq_F, beq_T, beq_F, true_implies, ne_eq, not_true_eq_false, false_implies, and_true, true_and, or_self, reduceCtorEq, F_rec_known, F_rec_below, F_rec_sized, recP, knownP]; grind
  have e1 : ieq r.kind 1 = false := by rw [ieq_F]; exact k1
  by_cases k2 : r.kind = 2
  · have e2 : ieq r.kind 2 = true := by rw [ieq_T]; exact k2
    simp only [e1, e2, cnd_true, cnd_false, ob_some]
    simp only [w_bind, w_cnd, w_some, band_T, band_F, bor_T, bor_F, bnot_T, bnot_F, ilt_T, ilt_F, ile_T, ile_F, ieq_T, ieq_F, beq_T, beq_F, true_implies, ne_eq, not_true_eq_false, false_implies, and_true, true_and, or_self, reduceCtorEq, F_rec_known, F_rec_below, F_rec_sized, recP, knownP]; grind
  have e2 : ieq r.kind 2 = false := by rw [ieq_F]; exact k2
  by_cases k3 : r.kind = 3
  · have e3 : ieq r.kind 3 = true := by rw [ieq_T]; exact k3
    simp only [e1, e2, e3, cnd_true, cnd_false, ob_some]
    simp only [w_bind, w_cnd, w_some, band_T, band_F, bor_T, bor_F, bnot_T, bnot_F, ilt_T, ilt_F, ile_T, ile_F, ieq_T, ieq_F, beq_T, beq_F, true_implies, ne_eq, not_true_eq_false, false_implies, and_true, true_and, or_self, reduceCtorEq, F_rec_known, F_rec_below, F_rec_sized, recP, knownP]; grind
  have e3 : ieq r.kind 3 = false := by rw [ieq_F]; exact k3
  by_cases k4 : r.kind = 4
  · have e4 : ieq r.kind 4 = true := by rw [ieq_T]; exact k4
    simp only [e1, e2, e3, e4, cnd_true, cnd_false, ob_some]
    simp only [w_bind, w_cnd, w_some, band_T, band_F, bor_T, bor_F, bnot_T, bnot_F, ilt_T, ilt_F, ile_T, ile_F, ieq_T, ieq_F, beq_T, beq_F, true_implies, ne_eq, not_true_eq_false, false_implies, and_true, true_and, or_self, reduceCtorEq, F_rec_known, F_rec_below, F_rec_sized, recP, knownP, imin3]; grind
  have e4 : ieq r.kind 4 = false := by rw [ieq_F]; exact k4
  by_cases k5 : r.kind = 5
  · have e5 : ieq r.kind 5 = true := by rw [ieq_T]; exact k5
    simp only [e1, e2, e3, e4, e5, cnd_true, cnd_false, ob_some]
    simp only [w_bind, w_cnd, w_some, band_T, band_F, bor_T, bor_F, bnot_T, bnot_F, ilt_T, ilt_F, ile_T, ile_F, ieq_T, ieq_F, beq_T, beq_F, true_implies, ne_eq, not_true_eq_false, false_implies, and_true, true_and, or_self, reduceCtorEq, F_rec_known, F_rec_below, F_rec_sized, recP, knownP]; grind
  have e5 : ieq r.kind 5 = false := by rw [ieq_F]; exact k5
  by_cases k6 : r.kind = 6
  · have e6 : ieq r.kind 6 = true := by rw [ieq_T]; exact k6
    simp only [e1, e2, e3, e4, e5, e6, cnd_true, cnd_false, ob_some, he]
    simp only [w_bind, w_cnd, w_some, band_T, band_F, bor_T, bor_F, bnot_T, bnot_F, ilt_T, ilt_F, ile_T, ile_F, ieq_T, ieq_F, beq_T, beq_F, true_implies, ne_eq, not_true_eq_false, false_implies, and_true, true_and, or_self, reduceCtorEq, recP, hq]; grind
  have e6 : ieq r.kind 6 = false := by rw [ieq_F]; exact k6
  simp only [e1, e2, e3, e4, e5, e6, cnd_true, cnd_false, ob_some]
  simp only [w_bind, w_cnd, w_some, band_T, band_F, bor_T, bor_F, bnot_T, bnot_F, ilt_T, ilt_F, ile_T, ile_F, ieq_T, ieq_F, beq_T, beq_F, true_implies, ne_eq, not_true_eq_false, false_implies, and_true, true_and, or_self, reduceCtorEq, recP]; grind
/-- An order's own part, as it begins. -/
def begunP (o : SOrder) : Prop := (1 ≤ o.id ∧ o.id ≤ 1000000000000) ∧ (0 ≤ o.account ∧ o.account < 8) ∧ (0 ≤ o.symbol ∧ o.symbol < 8) ∧ (o.side = 1 ∨ o.side = 2) ∧ 1 ≤ o.qty ∧ 1 ≤ o.price
theorem s_order_begun (o : SOrder) : Wq (F_order_begun o) fun b => b = true ↔ begunP o := by
  unfold F_order_begun
  rw [w_bind]
  refine (s_rec_Right _).mono fun b hb => ?_
  rw [w_some, hb]
  simp [recP, begunP, knownP]
def pendP (o : SOrder) : Prop := o.newQty ≠ 0 ∨ o.newPrice ≠ 0
instance (o : SOrder) : Decidable (pendP o) := by unfold pendP; infer_instance
instance (o : SOrder) : Decidable (begunP o) := by unfold begunP; infer_instance
theorem s_order_pending (o : SOrder) : Wq (F_order_pending o) fun b => b = true ↔ pendP o := by
  unfold F_order_pending
  simp only [w_some, bor_T, bnot_T, ieq_F, pendP]
theorem e_order_pending (o : SOrder) : F_order_pending o = some (decide (pendP o)) := (s_order_pending o).dec
/-- A right order. -/
def ordP (o : SOrder) : Prop := begunP o ∧ 0 ≤ o.filled ∧ o.filled ≤ o.qty ∧ 0 ≤ o.version ∧ (pendP o → 1 ≤ o.newQty ∧ 1 ≤ o.newPrice) ∧
  ((o.phase = 1 ∧ o.filled = 0 ∧ o.version = 0 ∧ ¬ pendP o) ∨ (o.phase = 2 ∧ o.filled < o.qty) ∨ (o.phase = 3 ∧ ¬ pendP o))
instance (o : SOrder) : Decidable (ordP o) := by unfold ordP; infer_instance
theorem s_order_Right (o : SOrder) : Wq (F_order_Right o) fun b => b = true ↔ ordP o := by
  unfold F_order_Right
  rw [w_bind]
  refine (s_order_pending o).mono fun p hp => ?_
  rw [w_bind]
  refine (s_order_begun o).mono fun b hb => ?_
  unfold ordP
  rw [← hp, ← hb]
  have hm : (imin o.newQty o.newPrice < 1) ↔ ¬ (1 ≤ o.newQty ∧ 1 ≤ o.newPrice) := by unfold imin; split <;> omega
  simp only [w_bind, w_cnd, w_some, band_T, band_F, bor_T, bor_F, bnot_T, bnot_F, ilt_T, ilt_F, ile_T, ile_F, ieq_T, ieq_F, beq_T, beq_F, hm]
  cases p <;> cases b <;> simp <;> omega
theorem e_order_Right (o : SOrder) : F_order_Right o = some (decide (ordP o)) := (s_order_Right o).dec
/-- How much is open of an order, and what that is worth. -/
def openZ (o : SOrder) : Int := if o.phase = 3 then 0 else max o.qty o.newQty - o.filled
def worthZ (o : SOrder) : Int := if o.phase = 3 then 0 else if o.newQty ≤ o.filled then (o.qty - o.filled) * o.price else max ((o.qty - o.filled) * o.price) ((o.newQty - o.filled) * o.newPrice)
theorem openZ_rng {o : SOrder} (h : ordP o) (hr : Ok_order o) : 0 ≤ openZ o ∧ openZ o ≤ 9223372036854775807 := by
  obtain ⟨_, h1, h2, _⟩ := h
  have := hr.qty.2; have := hr.newQty.2
  unfold openZ; split <;> omega
theorem new_pos {o : SOrder} (h : ordP o) (hn : o.filled < o.newQty) : 1 ≤ o.newPrice := by
  obtain ⟨_, h1, h2, _, h4, _⟩ := h
  exact (h4 (.inl (by omega))).2
theorem worthZ_nn {o : SOrder} (h : ordP o) : 0 ≤ worthZ o := by
  have hp := h.1.2.2.2.2.2
  have hf := h.2.2.1
  unfold worthZ; split
  · omega
  · have m : 0 ≤ (o.qty - o.filled) * o.price := Int.mul_nonneg (by omega) (by omega)
    split <;> omega
theorem e_order_Open {o : SOrder} (h : ordP o) (hr : Ok_order o) : F_order_Open o = some (openZ o) := by
  have hb := openZ_rng h hr
  unfold F_order_Open
  rw [e_order_Right, ob_some, decide_eq_true h, e_num_Max, ob_some]
  unfold openZ at *
  rw [bnot_true, bor_false, c_ieq]
  split
  · rfl
  · rename_i hp
    rw [if_neg hp] at hb
    unfold isub
    rw [wr_in ⟨by omega, by omega⟩]
theorem e_order_Worth {o : SOrder} (h : ordP o) (hr : Ok_order o) : F_order_Worth o = some (if worthZ o ≤ 9223372036854775807 then (worthZ o, 0) else (0, 3)) := by
  have hp := h.1.2.2.2.2.2
  have hf := h.2.2.1
  have hf0 := h.2.1
  have rq := hr.qty; have rp := hr.price; have rf := hr.filled; have rn := hr.newQty; have rnp := hr.newPrice
  unfold inI at rq rf rn
  unfold F_order_Worth
  rw [e_order_Right, ob_some, decide_eq_true h, bnot_true, cnd_false, c_ieq]
  unfold worthZ
  split
  · rw [if_pos (by omega)]
  · unfold isub
    rw [wr_in ⟨by omega, by omega⟩, e_num_Mul ⟨by omega, by omega⟩ rp, ob_some]
    have m : 0 ≤ (o.qty - o.filled) * o.price := Int.mul_nonneg (by omega) (by omega)
    generalize (o.qty - o.filled) * o.price = a at *
    rw [cnd_if]
    simp only [band_T, band_F, bor_T, bor_F, bnot_T, bnot_F, ilt_T, ilt_F, ile_T, ile_F, ieq_T, ieq_F, beq_T, beq_F]
    by_cases hn : o.newQty ≤ o.filled
    · rw [if_pos (.inr hn), if_pos hn]
      by_cases ha : a ≤ 9223372036854775807
      · rw [if_pos (c := inI a) ⟨by omega, ha⟩, if_pos ha]
      · rw [if_neg (c := inI a) (by unfold inI; omega), if_neg ha]
    · rw [if_neg hn]
      have hnp := new_pos h (by omega)
      rw [wr_in ⟨by omega, by omega⟩, e_num_Mul ⟨by omega, by omega⟩ rnp, ob_some]
      have m2 : 0 ≤ (o.newQty - o.filled) * o.newPrice := Int.mul_nonneg (by omega) (by omega)
      generalize (o.newQty - o.filled) * o.newPrice = b at *
      by_cases ha : a ≤ 9223372036854775807
      · rw [if_pos (c := inI a) ⟨by omega, ha⟩, if_neg (by simp only [ne_eq, not_true_eq_false, false_or]; exact hn)]
        by_cases hb : b ≤ 9223372036854775807
        · rw [if_pos (c := inI b) ⟨by omega, hb⟩]
          rw [cnd_f (by simp [bnot, ieq]), e_num_Max, ob_some, if_pos (by omega)]
        · rw [if_neg (c := inI b) (by unfold inI; omega)]
          rw [cnd_t (by simp [bnot, ieq]), if_neg (by omega)]
      · rw [if_neg (c := inI a) (by unfold inI; omega), if_pos (.inl (by decide)), if_neg (by omega)]
def okC (c : SCell) : Prop := Ok_cell c ∧ (0 ≤ c.buy ∧ 0 ≤ c.sell ∧ 0 ≤ c.opn) ∧ inI (c.pos + c.buy) ∧ inI (c.sell - c.pos)
theorem okC_iff (c : SCell) : okC c ↔ (inI c.pos ∧ inI c.buy ∧ inI c.sell ∧ inI c.opn) ∧ (0 ≤ c.buy ∧ 0 ≤ c.sell ∧ 0 ≤ c.opn) ∧ inI (c.pos + c.buy) ∧ inI (c.sell - c.pos) :=
  ⟨fun ⟨⟨a, b, c, d⟩, h⟩ => ⟨⟨a, b, c, d⟩, h⟩, fun ⟨⟨a, b, c, d⟩, h⟩ => ⟨⟨a, b, c, d⟩, h⟩⟩
instance (c : SCell) : Decidable (okC c) := decidable_of_iff _ (okC_iff c).symm
theorem e_cell_expo {c : SCell} (h : Ok_cell c) : F_cell_expo c = some (⟨if inI (c.pos + c.buy) then c.pos + c.buy else 0, if inI (c.sell - c.pos) then c.sell - c.pos else 0, c.opn⟩, decide (inI (c.pos + c.buy) ∧ inI (c.sell - c.pos))) := by
  unfold F_cell_expo
  rw [e_num_Add h.pos h.buy, ob_some, e_num_Sub h.sell h.pos, ob_some]
  by_cases h1 : inI (c.pos + c.buy)
  · by_cases h2 : inI (c.sell - c.pos)
    · simp only [if_pos h1, if_pos h2, ieq_00, band_true, decide_eq_true (show _ ∧ _ from ⟨h1, h2⟩)]
    · simp only [if_pos h1, if_neg h2, ieq_30, ieq_00, band_true, decide_eq_false (fun h : _ ∧ _ => h2 h.2)]
  · simp only [if_neg h1, ieq_30, band_false, decide_eq_false (fun h : _ ∧ _ => h1 h.1)]
    by_cases h2 : inI (c.sell - c.pos)
    · simp only [if_pos h2]
    · simp only [if_neg h2]
theorem s_cell_Right {c : SCell} (h : Ok_cell c) : Wq (F_cell_Right c) fun b => b = true ↔ okC c := by
  unfold F_cell_Right
  rw [e_cell_expo h, ob_some, w_some]
  simp only [band_T, ile_T, decide_eq_true_eq, okC]
  rw [imin3]
  constructor
  · rintro ⟨a, b⟩; exact ⟨h, b, a⟩
  · rintro ⟨_, b, a⟩; exact ⟨a, b⟩
theorem e_cell_Right {c : SCell} (h : Ok_cell c) : F_cell_Right c = some (decide (okC c)) := (s_cell_Right h).dec
/-- What a cell may come to. -/
def ofC (c : SCell) : SExpo := ⟨c.pos + c.buy, c.sell - c.pos, c.opn⟩
theorem e_cell_Of {c : SCell} (h : okC c) : F_cell_Of c = some (ofC c, 0) := by
  unfold F_cell_Of
  rw [e_cell_Right h.1, ob_some, decide_eq_true h, bnot_true, cnd_false, e_cell_expo h.1, ob_some, if_pos h.2.2.1, if_pos h.2.2.2]
  rfl
/-- A cell with an order more, or less. -/
def addC (c : SCell) (o : SOrder) : SCell := if o.side = 2 then ⟨c.pos, c.buy, c.sell + openZ o, c.opn + worthZ o⟩ else ⟨c.pos, c.buy + openZ o, c.sell, c.opn + worthZ o⟩
def subC (c : SCell) (o : SOrder) : SCell := if o.side = 2 then ⟨c.pos, c.buy, c.sell - openZ o, c.opn - worthZ o⟩ else ⟨c.pos, c.buy - openZ o, c.sell, c.opn - worthZ o⟩
theorem e_cell_Come {c : SCell} {o : SOrder} (hc : okC c) (ho : ordP o) (hr : Ok_order o) : F_cell_Come c o = some (if okC (addC c o) then (addC c o, 0) else (c, 3)) := by
  have hO := openZ_rng ho hr
  have hW := worthZ_nn ho
  obtain ⟨hk, ⟨n1, n2, n3⟩, r1, r2⟩ := id hc
  have ib := hk.buy; have is' := hk.sell; have io := hk.opn; have ip := hk.pos
  unfold F_cell_Come
  rw [e_cell_Right hk, ob_some, decide_eq_true hc, e_order_Right, decide_eq_true ho, bnot_true, bnot_false, cnd_true, ob_some, bnot_true, bor_false, cnd_false, e_order_Worth ho hr, e_order_Open ho hr, ob_some]
  simp only [ob_some]
  have oO : inI (openZ o) := ⟨by omega, by omega⟩
  by_cases hw : worthZ o ≤ 9223372036854775807
  · have oW : inI (worthZ o) := ⟨by omega, hw⟩
    rw [if_pos hw]
    simp only [ieq_00, bnot_true, bor_false]
    by_cases hs : o.side = 2
    · rw [cnd_t (by rw [ieq_T]; exact hs), e_num_Add is' oO, ob_some, e_num_Add io oW, ob_some]
      unfold addC; rw [if_pos hs]
      by_cases h1 : c.sell + openZ o ≤ 9223372036854775807
      · by_cases h2 : c.opn + worthZ o ≤ 9223372036854775807
        · rw [if_pos ⟨by omega, h1⟩, if_pos ⟨by omega, h2⟩]
          simp only [ieq_00, bnot_true, bor_false, bnot_false, cnd_true]
          rw [e_cell_Right (c := ⟨c.pos, c.buy, c.sell + openZ o, c.opn + worthZ o⟩) ⟨ip, ib, ⟨by simp only; omega, h1⟩, ⟨by simp only; omega, h2⟩⟩, ob_some, c_bnot, c_dec]
          split <;> rfl
        · rw [if_pos ⟨by omega, h1⟩, if_neg (by unfold inI; omega)]
          simp only [ieq_00, ieq_30, bnot_true, bor_false, bnot_false, cnd_true, bor_true, cnd_false, ob_some]
          rw [if_neg fun h => h2 h.1.opn.2]
      · rw [if_neg (by unfold inI; omega)]
        simp only [ieq_30, bnot_false, bor_true, bnot_true, cnd_true, cnd_false, ob_some]
        rw [if_neg fun h => h1 h.1.sell.2]
    · rw [cnd_f (by rw [ieq_F]; exact hs), e_num_Add ib oO, ob_some, e_num_Add io oW, ob_some]
      unfold addC; rw [if_neg hs]
      by_cases h1 : c.buy + openZ o ≤ 9223372036854775807
      · by_cases h2 : c.opn + worthZ o ≤ 9223372036854775807
        · rw [if_pos ⟨by omega, h1⟩, if_pos ⟨by omega, h2⟩]
          simp only [ieq_00, bnot_true, bor_false, bnot_false, cnd_true]
          rw [e_cell_Right (c := ⟨c.pos, c.buy + openZ o, c.sell, c.opn + worthZ o⟩) ⟨ip, ⟨by simp only; omega, h1⟩, is', ⟨by simp only; omega, h2⟩⟩, ob_some, c_bnot, c_dec]
          split <;> rfl
        · rw [if_pos ⟨by omega, h1⟩, if_neg (by unfold inI; omega)]
          simp only [ieq_00, ieq_30, bnot_true, bor_false, bnot_false, cnd_true, bor_true, cnd_false, ob_some]
          rw [if_neg fun h => h2 h.1.opn.2]
      · rw [if_neg (by unfold inI; omega)]
        simp only [ieq_30, bnot_false, bor_true, bnot_true, cnd_true, cnd_false, ob_some]
        rw [if_neg fun h => h1 h.1.buy.2]
  · have hno : ¬ okC (addC c o) := fun h => by
      have := h.1.opn.2
      unfold addC at this
      split at this <;> simp only at this <;> omega
    rw [if_neg hw, if_neg hno]
    simp only [ieq_30, bnot_false, bor_true, bnot_true, cnd_false, ob_some, cnd_true]
    by_cases hs : o.side = 2
    · rw [cnd_t (by rw [ieq_T]; exact hs), e_num_Add is' oO, ob_some, e_num_Add io (by decide), ob_some]
    · rw [cnd_f (by rw [ieq_F]; exact hs), e_num_Add ib oO, ob_some, e_num_Add io (by decide), ob_some]
theorem e_cell_Go {c : SCell} {o : SOrder} (hc : okC c) (ho : ordP o) (hr : Ok_order o) (hs : okC (subC c o)) : F_cell_Go c o = some (subC c o, 0) := by
  have hO := openZ_rng ho hr
  have hW := worthZ_nn ho
  obtain ⟨hk, ⟨n1, n2, n3⟩, r1, r2⟩ := id hc
  have ib := hk.buy; have is' := hk.sell; have io := hk.opn; have ip := hk.pos
  have oO : inI (openZ o) := ⟨by omega, by omega⟩
  have hw : worthZ o ≤ 9223372036854775807 := by
    have h1 := hs.2.1.2.2
    have h2 := io.2
    have h3 : (subC c o).opn = c.opn - worthZ o := by unfold subC; split <;> rfl
    omega
  have oW : inI (worthZ o) := ⟨by omega, hw⟩
  unfold F_cell_Go
  rw [e_cell_Right hk, ob_some, decide_eq_true hc, e_order_Right, decide_eq_true ho, bnot_true, bnot_false, cnd_true, ob_some, bnot_true, bor_false, cnd_false, e_order_Worth ho hr, e_order_Open ho hr, ob_some]
  simp only [ob_some]
  rw [if_pos hw]
  simp only [ieq_00, bnot_true, bor_false]
  unfold inI at ib is' io
  by_cases hd : o.side = 2
  · rw [cnd_t (by rw [ieq_T]; exact hd), e_num_Sub is' oO, ob_some, e_num_Sub io oW, ob_some]
    unfold subC at hs ⊢; rw [if_pos hd] at hs ⊢
    rw [if_pos ⟨by omega, by omega⟩, if_pos ⟨by omega, by omega⟩]
    simp only [ieq_00, bnot_true, bor_false, bnot_false, cnd_true]
    rw [e_cell_Right hs.1, decide_eq_true hs, ob_some, bnot_true, cnd_false]
  · rw [cnd_f (by rw [ieq_F]; exact hd), e_num_Sub ib oO, ob_some, e_num_Sub io oW, ob_some]
    unfold subC at hs ⊢; rw [if_neg hd] at hs ⊢
    rw [if_pos ⟨by omega, by omega⟩, if_pos ⟨by omega, by omega⟩]
    simp only [ieq_00, bnot_true, bor_false, bnot_false, cnd_true]
    rw [e_cell_Right hs.1, decide_eq_true hs, ob_some, bnot_true, cnd_false]
theorem e_cell_Did {c : SCell} {d q : Int} (hc : okC c) (hd : d = 1 ∨ d = 2) (hq : 0 ≤ q) (rq : inI q) (hn : okC ⟨if d = 1 then c.pos + q else c.pos - q, c.buy, c.sell, c.opn⟩) :
    F_cell_Did c d q = some (⟨if d = 1 then c.pos + q else c.pos - q, c.buy, c.sell, c.opn⟩, 0) := by
  unfold F_cell_Did
  rw [e_cell_Right hc.1, ob_some, decide_eq_true hc, bnot_true, bor_false, cnd_f (by simp only [band_T, band_F, bor_T, bor_F, bnot_T, bnot_F, ilt_T, ilt_F, ile_T, ile_F, ieq_T, ieq_F, beq_T, beq_F]; omega)]
  have ip := hc.1.pos
  have hp := hn.1.pos
  simp only at hp
  by_cases h : d = 1
  · rw [cnd_t (by rw [ieq_T]; exact h), e_num_Add ip rq, ob_some]
    simp only [if_pos h] at hn hp ⊢
    rw [if_pos hp]
    simp only [ieq_00, bnot_true, bor_false, bnot_false, cnd_true]
    rw [e_cell_Right hn.1, decide_eq_true hn, ob_some, bnot_true, cnd_false]
  · rw [cnd_f (by rw [ieq_F]; exact h), e_num_Sub ip rq, ob_some]
    simp only [if_neg h] at hn hp ⊢
    rw [if_pos hp]
    simp only [ieq_00, bnot_true, bor_false, bnot_false, cnd_true]
    rw [e_cell_Right hn.1, decide_eq_true hn, ob_some, bnot_true, cnd_false]
def limP (x : SExpo) : Prop := 0 ≤ x.long ∧ 0 ≤ x.short ∧ 0 ≤ x.opn
instance (x : SExpo) : Decidable (limP x) := by unfold limP; infer_instance
theorem e_limit_Right (x : SExpo) : F_limit_Right x = some (decide (limP x)) := by
  refine Wq.dec ?_
  unfold F_limit_Right limP
  rw [w_some, ile_T, imin3]
def capP (was now cap : Int) : Prop := max was cap < now
instance (a b c : Int) : Decidable (capP a b c) := by unfold capP; infer_instance
def againstP (a b l : SExpo) : Prop := capP a.long b.long l.long ∨ capP a.short b.short l.short ∨ capP a.opn b.opn l.opn
instance (a b l : SExpo) : Decidable (againstP a b l) := by unfold againstP; infer_instance
theorem e_limit_AgainstCap (a b c : Int) : F_limit_AgainstCap a b c = some (decide (capP a b c)) := by
  refine Wq.dec ?_
  unfold F_limit_AgainstCap imax capP
  rw [w_some, ilt_T]
  split <;> omega
theorem e_limit_Against (a b l : SExpo) : F_limit_Against a b l = some (decide (againstP a b l)) := by
  refine Wq.dec ?_
  unfold F_limit_Against F_limit_three
  simp only [ob_some, e_limit_AgainstCap, w_cnd, w_some, decide_eq_true_eq, decide_eq_false_iff_not, againstP]
  grind
theorem sum_take_succ (l : List Int) (i : Nat) (h : i < l.length) : (l.take (i + 1)).sum = (l.take i).sum + l[i] := by
  rw [List.take_succ_eq_append_getElem h, List.sum_append]; simp
theorem sum_nn : ∀ {l : List Int}, (∀ x ∈ l, 0 ≤ x) → 0 ≤ l.sum
  | [], _ => by simp
  | a :: l, h => by
    have := sum_nn (l := l) fun x hx => h x (by simp [hx])
    have := h a (by simp)
    simp only [List.sum_cons]; omega
theorem sum_take_le {l : List Int} (h : ∀ x ∈ l, 0 ≤ x) (i : Nat) : (l.take i).sum ≤ l.sum := by
  have e : l.sum = (l.take i).sum + (l.drop i).sum := by rw [← List.sum_append, List.take_append_drop]
  have := sum_nn (l := l.drop i) fun x hx => h x (List.mem_of_mem_drop hx)
  omega
def totZ (l : List Int) : Int × Int := if l.sum ≤ 9223372036854775807 then (l.sum, 0) else (0, 3)
theorem e_num_Total {l : List Int} (hl : l.length < 999999) (h : ∀ x ∈ l, 0 ≤ x ∧ inI x) : F_num_Total l = some (totZ l) := by
  refine Wq.eq ?_
  have hn : ∀ x ∈ l, 0 ≤ x := fun x hx => (h x hx).1
  unfold F_num_Total
  refine Wq.bind (Q := fun w : (Int × Int) ⊕ (Int × Int × Int) => match w with | .inl w => w = (3, 0) ∧ ¬ l.sum ≤ 9223372036854775807 | .inr w => w.1 = l.sum ∧ l.sum ≤ 9223372036854775807)
    (w_for (n := l.length) (step := fun v : Int × Int × Int × Int => L_num_Total_58 (len l) l v.fst v.snd.fst v.snd.snd.fst v.snd.snd.snd) (by omega)
      (fun i x => x.1 = (l.take i).sum ∧ x.1 ≤ 9223372036854775807) _ ?_ ?_ _ 0 (Nat.zero_le _) (by simp)) ?_
  · rintro i ⟨a, b, c⟩ hi ⟨rfl, ha⟩
    simp only [L_num_Total_58]
    simp only at ha
    have ht := sum_nn (l := l.take i) fun x hx => hn x (List.mem_of_mem_take hx)
    have hx := h l[i] (List.getElem_mem _)
    rw [cnd_t (by rw [ilt_nat]; simpa using hi), cnd_t (inb l i hi), lget_nat l i hi, e_num_Add ⟨by omega, ha⟩ hx.2, ob_some, ← sum_take_succ l i hi]
    have := sum_take_le hn (i + 1)
    have h2 := sum_nn (l := l.take (i + 1)) fun x hx => hn x (List.mem_of_mem_take hx)
    by_cases hr : (l.take (i + 1)).sum ≤ 9223372036854775807
    · rw [if_pos ⟨by omega, hr⟩]
      simp only [ieq_00, bnot_true, cnd_false, w_some]
      exact ⟨wr_succ (by omega), trivial, hr⟩
    · rw [if_neg (by unfold inI; omega)]
      simp only [ieq_30, bnot_false, cnd_true, w_some]
      exact ⟨trivial, by omega⟩
  · rintro ⟨a, b, c⟩ ⟨rfl, ha⟩
    simp only [L_num_Total_58]
    simp only at ha
    rw [cnd_f (by rw [ilt_nat]; simp), w_some]
    rw [List.take_length] at *
    exact ⟨rfl, ha⟩
  · rintro w hw
    unfold totZ
    cases w with
    | inl w => obtain ⟨rfl, h2⟩ := hw; simp only [sumK, w_some]; rw [if_neg h2]
    | inr w => obtain ⟨h1, h2⟩ := hw; simp only [sumK, w_some]; rw [if_pos h2, h1]
/-- What is open of some cells. -/
def wholeZ (l : List SCell) : Int := (l.map SCell.opn).sum
theorem e_limit_Whole {l : List SCell} (hl : l.length < 999999) (h : ∀ c ∈ l, 0 ≤ c.opn ∧ inI c.opn) : F_limit_Whole l = some (if wholeZ l ≤ 9223372036854775807 then (wholeZ l, 0) else (0, 3)) := by
  refine Wq.eq ?_
  unfold F_limit_Whole
  refine Wq.bind (Q := fun w : List Int => w = l.map SCell.opn)
    (w_for (n := l.length) (step := fun v : Int × List Int => L_limit_Whole_58 (len l) l v.fst v.snd) (by omega) (fun i x => x = (l.take i).map SCell.opn) _ ?_ ?_ _ 0 (Nat.zero_le _) (by simp)) ?_
  · rintro i x hi rfl
    simp only [L_limit_Whole_58]
    rw [cnd_t (by rw [ilt_nat]; simpa using hi), cnd_t (inb l i hi), cnd_t (ile_t (by simp [lapp, len]; omega)), w_some, lget_nat l i hi]
    exact ⟨wr_succ (by omega), by rw [List.take_succ_eq_append_getElem hi, List.map_append]; rfl⟩
  · rintro x rfl
    simp only [L_limit_Whole_58]
    rw [cnd_f (by rw [ilt_nat]; simp), w_some, List.take_length]
  · rintro w rfl
    rw [e_num_Total (by simpa using hl) (fun x hx => by
      obtain ⟨c, hc, rfl⟩ := List.mem_map.1 hx
      exact h c hc), ob_some, w_some]
    rfl
theorem s_slices_Min_int64 {l : List Int} (hl : l.length < 999999) (h0 : l ≠ []) : Wq (F_slices_Min_int64 l) fun m => 0 ≤ m ↔ ∀ x ∈ l, 0 ≤ x := by
  have hp : 0 < l.length := List.length_pos_iff.2 h0
  unfold F_slices_Min_int64
  rw [cnd_f (ilt_f (by simp only [len]; omega)), cnd_t (ilt_t (by simp only [len]; omega))]
  refine Wq.bind (Q := fun m => 0 ≤ m ↔ ∀ x ∈ l, 0 ≤ x) (w_for (n := l.length) (step := fun v : Int × Int => L_slices_Min_int64_122 l v.fst v.snd) (by omega) (fun i x => 0 ≤ x ↔ ∀ y ∈ l.take i, 0 ≤ y) _ ?_ ?_ _ 1 hp ?_) ?_
  · rintro i x hi hx
    simp only [L_slices_Min_int64_122]
    rw [cnd_t (by rw [ilt_nat]; simpa using hi), cnd_t (inb l i hi), w_some, lget_nat l i hi]
    refine ⟨wr_succ (by omega), ?_⟩
    rw [List.take_succ_eq_append_getElem hi]
    simp only [List.mem_append, List.mem_singleton]
    unfold imin
    constructor
    · intro h y hy
      rcases hy with hy | rfl
      · exact hx.1 (by split at h <;> omega) y hy
      · split at h <;> omega
    · intro h
      have h1 := hx.2 fun y hy => h y (.inl hy)
      have h2 := h _ (.inr rfl)
      split <;> omega
  · rintro x hx
    simp only [L_slices_Min_int64_122]
    rw [cnd_f (by rw [ilt_nat]; simp), w_some]
    rwa [List.take_length] at hx
  · cases l with
    | nil => exact absurd rfl h0
    | cons a r => simp [lget]
  · exact fun w hw => (w_some _).2 hw
/-- The first order that has a number. -/
def findZ (l : List SOrder) (n : Int) : Option Nat := l.findIdx? fun o => o.id == n
def findI (l : List SOrder) (n : Int) : Int := match findZ l n with | some k => k | none => -1
theorem e_book_Find (s : SState) (n : Int) (hl : s.orders.length < 999999) : F_book_Find s n = some (findI s.orders n) := by
  refine Wq.eq ?_
  unfold F_book_Find
  refine Wq.bind (Q := fun w : Int ⊕ Int => match w with
      | .inl k => ∃ i : Nat, k = i ∧ ∃ h : i < s.orders.length, s.orders[i].id = n ∧ ∀ j, (h : j < s.orders.length) → j < i → s.orders[j].id ≠ n
      | .inr _ => ∀ j, (h : j < s.orders.length) → s.orders[j].id ≠ n)
    (w_for (n := s.orders.length) (step := fun v : Int × Int => L_book_Find_26_slices_IndexFunc_api_Order_c10 (len s.orders) s.orders n v.fst v.snd) (by omega) (fun i x => ∀ j, (h : j < s.orders.length) → j < i → s.orders[j].id ≠ n) _ ?_ ?_ _ 0 (Nat.zero_le _) (fun j _ h => by omega)) ?_
  · rintro i x hi hx
    simp only [L_book_Find_26_slices_IndexFunc_api_Order_c10]
    rw [cnd_t (by rw [ilt_nat]; simpa using hi), cnd_t (inb _ i hi), lget_nat _ i hi, w_cnd]
    refine ⟨fun he => (w_some _).2 ⟨i, rfl, hi, by simpa [ieq] using he, hx⟩, fun he => (w_some _).2 ⟨wr_succ (by omega), fun j hj hji => ?_⟩⟩
    by_cases e : j = i
    · subst e; simpa [ieq] using he
    · exact hx j hj (by omega)
  · rintro x hx
    simp only [L_book_Find_26_slices_IndexFunc_api_Order_c10]
    rw [cnd_f (by rw [ilt_nat]; simp), w_some]
    exact fun j hj => hx j hj hj
  · rintro w hw
    cases w with
    | inl k =>
      obtain ⟨i, rfl, hi, h1, h2⟩ := hw
      have : findZ s.orders n = some i := by
        unfold findZ
        rw [List.findIdx?_eq_some_iff_getElem]
        exact ⟨hi, by simpa using h1, fun j hj => by simpa using h2 j (by omega) hj⟩
      simp only [sumK, w_some, findI, this]
    | inr k =>
      have : findZ s.orders n = none := by
        unfold findZ
        rw [List.findIdx?_eq_none_iff]
        intro o ho
        obtain ⟨j, hj, rfl⟩ := List.getElem_of_mem ho
        simpa using hw j hj
      simp only [sumK, w_some, findI, this]
theorem findZ_some {l : List SOrder} {n : Int} {k : Nat} (h : findZ l n = some k) : ∃ hk : k < l.length, l[k].id = n := by
  unfold findZ at h
  rw [List.findIdx?_eq_some_iff_getElem] at h
  obtain ⟨hk, h1, _⟩ := h
  exact ⟨hk, by simpa using h1⟩
theorem findZ_none {l : List SOrder} {n : Int} (h : findZ l n = none) : ∀ o ∈ l, o.id ≠ n := by
  unfold findZ at h
  rw [List.findIdx?_eq_none_iff] at h
  intro o ho
  simpa using h o ho
theorem findI_some {l : List SOrder} {n : Int} {k : Nat} (h : findZ l n = some k) : findI l n = k := by unfold findI; rw [h]
theorem findI_none {l : List SOrder} {n : Int} (h : findZ l n = none) : findI l n = -1 := by unfold findI; rw [h]
def sizedP (s : SState) : Prop := (1 ≤ s.accounts ∧ s.accounts ≤ 8) ∧ (1 ≤ s.symbols ∧ s.symbols ≤ 8) ∧ len s.cells = s.accounts * s.symbols ∧ len s.limits = len s.cells ∧ len s.caps = s.accounts ∧ s.orders.length ≤ 64
instance (s : SState) : Decidable (sizedP s) := by unfold sizedP; infer_instance
theorem mul_le64 {a b : Int} (h1 : 0 ≤ a) (h2 : a ≤ 9) (h3 : 0 ≤ b) (h4 : b ≤ 9) : 0 ≤ a * b ∧ a * b ≤ 81 :=
  ⟨Int.mul_nonneg h1 h3, by have := Int.mul_le_mul h2 h4 h3 (by omega); omega⟩
theorem s_book_ledger_sized (s : SState) : Wq (F_book_ledger_sized s) fun b => b = true ↔ sizedP s := by
  unfold F_book_ledger_sized
  simp only [w_some, band_T, ile_T, ieq_T, sizedP]
  constructor
  · rintro ⟨⟨⟨⟨⟨⟨⟨a, b⟩, c⟩, d⟩, e⟩, f⟩, g⟩, h⟩
    have := mul_le64 (a := s.accounts) (b := s.symbols) (by omega) (by omega) (by omega) (by omega)
    rw [show imul s.accounts s.symbols = s.accounts * s.symbols from rfl, wr_small this.1 (by omega)] at e
    exact ⟨⟨a, b⟩, ⟨c, d⟩, e, f, g, by simp only [len] at h; omega⟩
  · rintro ⟨⟨a, b⟩, ⟨c, d⟩, e, f, g, h⟩
    have := mul_le64 (a := s.accounts) (b := s.symbols) (by omega) (by omega) (by omega) (by omega)
    rw [show imul s.accounts s.symbols = s.accounts * s.symbols from rfl, wr_small this.1 (by omega)]
    exact ⟨⟨⟨⟨⟨⟨⟨a, b⟩, c⟩, d⟩, e⟩, f⟩, g⟩, by simp only [len]; omega⟩
theorem sizedP.lens {s : SState} (hs : sizedP s) : s.cells.length ≤ 64 ∧ s.limits.length = s.cells.length ∧ s.caps.length = s.accounts.toNat ∧ s.orders.length ≤ 64 := by
  obtain ⟨⟨h1, h2⟩, ⟨h3, h4⟩, h5, h6, h7, h8⟩ := hs
  have m : s.accounts * s.symbols ≤ 8 * 8 := Int.mul_le_mul h2 h4 (by omega) (by omega)
  simp only [len] at h5 h6 h7
  exact ⟨by omega, by omega, by omega, h8⟩
/-- The place of an order's cell. -/
def atZ (n : Int) (o : SOrder) : Int := o.account * n + o.symbol
/-- A cell's place. -/
theorem s_cellOf {s : SState} (hs : sizedP s) (a y : Int) (ha : 0 ≤ a) (ha2 : a < s.accounts) (hy : 0 ≤ y) (hy2 : y < s.symbols) :
    ∃ k : Nat, F_book_ledger_cellOf s a y = some (k : Int) ∧ (k : Int) = a * s.symbols + y ∧ k < s.cells.length := by
  obtain ⟨⟨h1, h2⟩, ⟨h3, h4⟩, h5, _⟩ := hs
  have m := mul_le64 (a := a) (b := s.symbols) (by omega) (by omega) (by omega) (by omega)
  have l : (a + 1) * s.symbols ≤ s.accounts * s.symbols := Int.mul_le_mul_of_nonneg_right (by omega) (by omega)
  have e : (a + 1) * s.symbols = a * s.symbols + s.symbols := by rw [Int.add_mul, Int.one_mul]
  refine ⟨(a * s.symbols + y).toNat, ?_, by omega, by simp only [len] at h5; omega⟩
  unfold F_book_ledger_cellOf
  rw [show imul a s.symbols = a * s.symbols from rfl, wr_small m.1 (by omega), show iadd (a * s.symbols) y = a * s.symbols + y from rfl, wr_small (by omega) (by omega)]
  congr 1; omega
/-- An account's cells. -/
def acctZ (n : Int) (cs : List SCell) (a : Int) : List SCell := (cs.drop (a * n).toNat).take n.toNat
theorem e_account {s : SState} (hs : sizedP s) (a : Int) (ha : 0 ≤ a) (ha2 : a < s.accounts) :
    F_book_ledger_account s a = some (acctZ s.symbols s.cells a) := by
  obtain ⟨⟨h1, h2⟩, ⟨h3, h4⟩, h5, _⟩ := hs
  have m := mul_le64 (a := a) (b := s.symbols) (by omega) (by omega) (by omega) (by omega)
  have m2 := mul_le64 (a := a + 1) (b := s.symbols) (by omega) (by omega) (by omega) (by omega)
  have l : (a + 1) * s.symbols ≤ s.accounts * s.symbols := Int.mul_le_mul_of_nonneg_right (by omega) (by omega)
  have e : (a + 1) * s.symbols = a * s.symbols + s.symbols := by rw [Int.add_mul, Int.one_mul]
  unfold F_book_ledger_account
  rw [show imul a s.symbols = a * s.symbols from rfl, wr_small m.1 (by omega), show iadd a 1 = a + 1 from rfl, wr_small (n := a + 1) (by omega) (by omega),
    show imul (a + 1) s.symbols = (a + 1) * s.symbols from rfl, wr_small m2.1 (by omega)]
  rw [cnd_t (by simp only [band_T, ile_T]; omega)]
  rw [show isub ((a + 1) * s.symbols) (a * s.symbols) = s.symbols from by unfold isub; omega]
  rfl
theorem acctZ_mem {n : Int} {cs : List SCell} {a : Int} {c : SCell} (h : c ∈ acctZ n cs a) : c ∈ cs := List.mem_of_mem_drop (List.mem_of_mem_take h)
theorem acctZ_len {n : Int} {cs : List SCell} {a : Int} : (acctZ n cs a).length ≤ cs.length := by
  unfold acctZ; rw [List.length_take, List.length_drop]; omega
/-- What each order of a fine state is. -/
def orderIn (s : SState) (o : SOrder) : Prop := ordP o ∧ o.phase ≠ 3 ∧ o.account < s.accounts ∧ o.symbol < s.symbols
def ascP (l : List SOrder) : Prop := l.Pairwise fun a b => a.id < b.id
/-- Numbers, limits, caps and orders of a state. -/
structure FineP (s : SState) : Prop where
  ords : ∀ o ∈ s.orders, orderIn s o
  asc : ascP s.orders
  ids : ∀ o ∈ s.orders, o.id ≤ s.last
  last : 0 ≤ s.last ∧ s.last ≤ 1000000000000
  seq : 0 ≤ s.seq ∧ s.seq ≤ 1000000000
  lsn : 0 ≤ s.lsn ∧ s.lsn ≤ 1000000000
  lims : ∀ x ∈ s.limits, limP x
  caps : ∀ x ∈ s.caps, 0 ≤ x
theorem mem_take_succ {α : Type} {l : List α} {i : Nat} (h : i < l.length) {x : α} : x ∈ l.take (i + 1) ↔ x ∈ l.take i ∨ x = l[i] := by
  rw [List.take_succ_eq_append_getElem h, List.mem_append, List.mem_singleton]
theorem s_fine (s : SState) (hl : s.orders.length < 999999) (h2 : s.limits.length < 999999) (h3 : s.caps.length < 999999) (h0 : s.caps ≠ []) :
    Wq (F_book_ledger_fine s) fun b => b = true ↔ FineP s := by
  unfold F_book_ledger_fine
  refine Wq.bind (Q := fun w : Bool ⊕ (Int × Bool) => match w with
      | .inl b => b = false ∧ ¬ ((∀ o ∈ s.orders, orderIn s o) ∧ ascP s.orders)
      | .inr v => (∀ o ∈ s.orders, orderIn s o ∧ o.id ≤ v.1) ∧ ascP s.orders ∧ (v.1 = 0 ∨ ∃ o ∈ s.orders, o.id = v.1))
    (w_for (n := s.orders.length) (step := fun v : Int × Int × Bool => L_book_ledger_fine_58 (len s.orders) s.orders s v.fst v.snd.fst v.snd.snd) (by omega)
      (fun i v => (∀ o ∈ s.orders.take i, orderIn s o ∧ o.id ≤ v.1) ∧ ascP (s.orders.take i) ∧ (v.1 = 0 ∨ ∃ o ∈ s.orders.take i, o.id = v.1)) _ ?_ ?_ _ 0 (Nat.zero_le _) (by simp [ascP])) ?_
  · rintro i ⟨x, q⟩ hi ⟨g1, g2, g3⟩
    simp only at g1 g2 g3
    simp only [L_book_ledger_fine_58]
    rw [cnd_t (by rw [ilt_nat]; simpa using hi), cnd_t (inb _ i hi), lget_nat _ i hi, e_order_Right, ob_some]
    simp only [w_cnd, w_some, bor_T, bor_F, bnot_T, bnot_F, ieq_T, ieq_F, ile_T, ile_F, decide_eq_true_eq, decide_eq_false_iff_not]
    refine ⟨fun hb => ⟨trivial, fun ⟨a1, a2⟩ => ?_⟩, fun hc => ⟨wr_succ (by omega), fun o ho => ?_, ?_, .inr ⟨_, (mem_take_succ hi).2 (.inr rfl), rfl⟩⟩⟩
    · obtain ⟨b1, b2, b3, b4⟩ := a1 s.orders[i] (List.getElem_mem _)
      have hle : s.orders[i].id ≤ x := by
        rcases hb with (((hb | hb) | hb) | hb) | hb
        · exact absurd b1 hb
        · exact absurd hb b2
        · omega
        · omega
        · exact hb
      rcases g3 with g3 | ⟨o, ho, g3⟩
      · have := b1.1.1.1; omega
      · obtain ⟨j, hj, rfl⟩ := List.getElem_of_mem ho
        rw [List.length_take] at hj
        have := List.pairwise_iff_getElem.1 a2 j i (by omega) hi (by omega)
        rw [List.getElem_take] at g3
        omega
    · rcases (mem_take_succ hi).1 ho with ho | rfl
      · have := g1 o ho
        exact ⟨this.1, by have := this.2; omega⟩
      · exact ⟨⟨hc.1.1.1.1, hc.1.1.1.2, by omega, by omega⟩, Int.le_refl _⟩
    · rw [List.take_succ_eq_append_getElem hi]
      unfold ascP
      rw [List.pairwise_append]
      refine ⟨g2, by simp, fun a ha b hb => ?_⟩
      rw [List.mem_singleton] at hb
      subst hb
      have := (g1 a ha).2
      omega
  · rintro ⟨x, q⟩ hx
    simp only [L_book_ledger_fine_58]
    rw [cnd_f (by rw [ilt_nat]; simp), w_some]
    simp only [List.take_length] at hx
    exact hx
  · rintro w hw
    cases w with
    | inl b =>
      obtain ⟨rfl, hn⟩ := hw
      simp only [sumK, w_some]
      exact ⟨fun h => (by cases h), fun h => absurd ⟨h.ords, h.asc⟩ hn⟩
    | inr v =>
      obtain ⟨g1, g2, g3⟩ := hw
      have gl : v.1 ≤ s.last ∧ 0 ≤ s.last ↔ (∀ o ∈ s.orders, o.id ≤ s.last) ∧ 0 ≤ s.last := by
        constructor
        · rintro ⟨a, b⟩; exact ⟨fun o ho => by have := (g1 o ho).2; omega, b⟩
        · rintro ⟨a, b⟩
          refine ⟨?_, b⟩
          rcases g3 with g3 | ⟨o, ho, g3⟩
          · omega
          · have := a o ho; omega
      have hF : FineP s ↔ (v.1 ≤ s.last ∧ s.last ≤ 1000000000000 ∧ 0 ≤ s.seq ∧ s.seq ≤ 1000000000 ∧ 0 ≤ s.lsn ∧ s.lsn ≤ 1000000000) ∧ (∀ x ∈ s.limits, limP x) ∧ (∀ x ∈ s.caps, 0 ≤ x) ∧ 0 ≤ s.last := by
        constructor
        · intro h
          have := gl.2 ⟨h.ids, h.last.1⟩
          exact ⟨⟨this.1, h.last.2, h.seq.1, h.seq.2, h.lsn.1, h.lsn.2⟩, h.lims, h.caps, h.last.1⟩
        · rintro ⟨⟨a1, a2, a3, a4, a5, a6⟩, b, c, d⟩
          exact ⟨fun o ho => (g1 o ho).1, g2, (gl.1 ⟨a1, d⟩).1, ⟨d, a2⟩, ⟨a3, a4⟩, ⟨a5, a6⟩, b, c⟩
      rw [hF]
      obtain ⟨m, hm, hmq⟩ := s_slices_Min_int64 h3 h0
      simp only [sumK, hm, cnd_if, ob_if, ob_some]
      simp only [band_T, band_F, bor_T, bor_F, bnot_T, bnot_F, ilt_T, ilt_F, ile_T, ile_F, ieq_T, ieq_F, beq_T, beq_F]
      by_cases hA : v.1 ≤ s.last ∧ s.last ≤ 1000000000000 ∧ 0 ≤ s.seq ∧ s.seq ≤ 1000000000 ∧ 0 ≤ s.lsn ∧ s.lsn ≤ 1000000000
      · have hA' : ((((v.fst ≤ s.last ∧ s.last ≤ 1000000000000) ∧ 0 ≤ s.seq) ∧ s.seq ≤ 1000000000) ∧ 0 ≤ s.lsn) ∧ s.lsn ≤ 1000000000 := ⟨⟨⟨⟨⟨hA.1, hA.2.1⟩, hA.2.2.1⟩, hA.2.2.2.1⟩, hA.2.2.2.2.1⟩, hA.2.2.2.2.2⟩
        rw [if_pos hA']
        refine Wq.bind (Q := fun w : Int ⊕ Int => match w with | .inl k => 0 ≤ k ∧ ¬ ∀ x ∈ s.limits, limP x | .inr _ => ∀ x ∈ s.limits, limP x)
          (w_for (n := s.limits.length) (step := fun v : Int × Int => L_book_ledger_fine_26_slices_IndexFunc_api_Expo_c136_c142 (len s.limits) s.limits v.fst v.snd) (by omega) (fun i _ => ∀ x ∈ s.limits.take i, limP x) _ ?_ ?_ _ 0 (Nat.zero_le _) (by simp)) ?_
        · rintro i x hi hx
          simp only [L_book_ledger_fine_26_slices_IndexFunc_api_Expo_c136_c142]
          rw [cnd_t (by rw [ilt_nat]; simpa using hi), cnd_t (inb _ i hi), lget_nat _ i hi, e_limit_Right, ob_some]
          simp only [w_cnd, w_some, bnot_T, bnot_F, decide_eq_true_eq, decide_eq_false_iff_not]
          refine ⟨fun h => ⟨by omega, fun h2 => h (h2 _ (List.getElem_mem _))⟩, fun h => ⟨wr_succ (by omega), fun x hx' => ?_⟩⟩
          rcases (mem_take_succ hi).1 hx' with h5 | rfl
          · exact hx x h5
          · exact h
        · rintro x hx
          simp only [L_book_ledger_fine_26_slices_IndexFunc_api_Expo_c136_c142]
          rw [cnd_f (by rw [ilt_nat]; simp), w_some]
          rwa [List.take_length] at hx
        · rintro w hw
          cases w with
          | inl k =>
            obtain ⟨hk, hn⟩ := hw
            simp only
            rw [if_neg (fun h => by omega), w_some]
            simp only [band_T, band_F, bor_T, bor_F, bnot_T, bnot_F, ilt_T, ilt_F, ile_T, ile_F, ieq_T, ieq_F, beq_T, beq_F]
            constructor
            · rintro ⟨⟨⟨_, h⟩, _⟩, _⟩; omega
            · rintro ⟨_, h, _⟩; exact absurd h hn
          | inr k =>
            simp only
            rw [if_pos (.inl hA'), w_some]
            simp only [band_T, band_F, bor_T, bor_F, bnot_T, bnot_F, ilt_T, ilt_F, ile_T, ile_F, ieq_T, ieq_F, beq_T, beq_F]
            constructor
            · rintro ⟨⟨_, h1⟩, h2⟩; exact ⟨hA, hw, hmq.1 h1, h2⟩
            · rintro ⟨_, _, h1, h2⟩; exact ⟨⟨.inl hA', hmq.2 h1⟩, h2⟩
      · have hA' : ¬ (((((v.fst ≤ s.last ∧ s.last ≤ 1000000000000) ∧ 0 ≤ s.seq) ∧ s.seq ≤ 1000000000) ∧ 0 ≤ s.lsn) ∧ s.lsn ≤ 1000000000) := by omega
        rw [if_neg hA', if_neg (by simpa using hA'), w_some]
        simp only [band_T, band_F, bor_T, bor_F, bnot_T, bnot_F, ilt_T, ilt_F, ile_T, ile_F, ieq_T, ieq_F, beq_T, beq_F]
        constructor
        · rintro ⟨⟨h | h, _⟩, _⟩
          · exact absurd h hA'
          · cases h
        · rintro ⟨h, _⟩; exact absurd h hA
def cadd (a b : SCell) : SCell := ⟨a.pos + b.pos, a.buy + b.buy, a.sell + b.sell, a.opn + b.opn⟩
def zC : SCell := ⟨0, 0, 0, 0⟩
def wC (o : SOrder) : SCell := if o.side = 2 then ⟨0, 0, openZ o, worthZ o⟩ else ⟨0, openZ o, 0, worthZ o⟩
/-- What an order is in the cell of a place. -/
def inC (n i : Int) (o : SOrder) : SCell := if atZ n o = i then wC o else zC
def sumC (n i : Int) : List SOrder → SCell
  | [] => zC
  | o :: r => cadd (inC n i o) (sumC n i r)
theorem cell_ext {a b : SCell} (h1 : a.pos = b.pos) (h2 : a.buy = b.buy) (h3 : a.sell = b.sell) (h4 : a.opn = b.opn) : a = b := by
  cases a; cases b; simp_all
theorem cadd_z (a : SCell) : cadd a zC = a := by apply cell_ext <;> simp [cadd, zC]
theorem z_cadd (a : SCell) : cadd zC a = a := by apply cell_ext <;> simp [cadd, zC]
theorem cadd_comm (a b : SCell) : cadd a b = cadd b a := by apply cell_ext <;> simp only [cadd] <;> omega
theorem cadd_assoc (a b c : SCell) : cadd (cadd a b) c = cadd a (cadd b c) := by apply cell_ext <;> simp only [cadd] <;> omega
theorem addC_eq (c : SCell) (o : SOrder) : addC c o = cadd c (wC o) := by unfold addC wC; split <;> simp [cadd]
theorem sumC_append (n i : Int) : ∀ (l m : List SOrder), sumC n i (l ++ m) = cadd (sumC n i l) (sumC n i m)
  | [], m => (z_cadd _).symm
  | o :: l, m => by
    rw [List.cons_append, sumC, sumC, sumC_append n i l m, cadd_assoc]
theorem sumC_one (n i : Int) (o : SOrder) : sumC n i [o] = inC n i o := cadd_z _
theorem sumC_split (n i : Int) (l : List SOrder) (k : Nat) (h : k < l.length) : sumC n i l = cadd (cadd (sumC n i (l.take k)) (sumC n i (l.drop (k + 1)))) (inC n i l[k]) := by
  have e : l = l.take k ++ (l[k] :: l.drop (k + 1)) := by rw [← List.drop_eq_getElem_cons h, List.take_append_drop]
  have : sumC n i l = sumC n i (l.take k ++ (l[k] :: l.drop (k + 1))) := by rw [← e]
  rw [this, sumC_append, sumC, cadd_assoc, cadd_comm (inC n i l[k])]
theorem sumC_set (n i : Int) (l : List SOrder) (k : Nat) (h : k < l.length) (p : SOrder) : sumC n i (l.set k p) = cadd (cadd (sumC n i (l.take k)) (sumC n i (l.drop (k + 1)))) (inC n i p) := by
  have h1 : (l.set k p).take k = l.take k := List.take_set_of_le (Nat.le_refl _)
  have h2 : (l.set k p).drop (k + 1) = l.drop (k + 1) := List.drop_set_of_lt (by omega)
  have h3 : (l.set k p)[k]'(by simpa using h) = p := List.getElem_set_self _
  rw [sumC_split n i (l.set k p) k (by simpa using h), h1, h2, h3]
theorem sumC_erase (n i : Int) (l : List SOrder) (k : Nat) (h : k < l.length) : sumC n i (l.eraseIdx k) = cadd (sumC n i (l.take k)) (sumC n i (l.drop (k + 1))) := by
  rw [List.eraseIdx_eq_take_drop_succ, sumC_append]
/-- Parts of a cell that are no less than nothing. -/
def nnC (c : SCell) : Prop := c.pos = 0 ∧ 0 ≤ c.buy ∧ 0 ≤ c.sell ∧ 0 ≤ c.opn
theorem wC_nn {o : SOrder} (h : ordP o) (hr : Ok_order o) : nnC (wC o) := by
  have := openZ_rng h hr
  have := worthZ_nn h
  unfold wC nnC; split <;> simp <;> omega
theorem inC_nn (n i : Int) {o : SOrder} (h : ordP o) (hr : Ok_order o) : nnC (inC n i o) := by
  unfold inC; split
  · exact wC_nn h hr
  · simp [nnC, zC]
theorem cadd_nn {a b : SCell} (h1 : nnC a) (h2 : nnC b) : nnC (cadd a b) := by
  unfold nnC cadd at *; simp only; omega
theorem sumC_nn (n i : Int) : ∀ {l : List SOrder}, (∀ o ∈ l, ordP o ∧ Ok_order o) → nnC (sumC n i l)
  | [], _ => by simp [sumC, nnC, zC]
  | o :: l, h => cadd_nn (inC_nn n i (h o (by simp)).1 (h o (by simp)).2) (sumC_nn n i fun x hx => h x (by simp [hx]))
/-- As far as numbers go. -/
def fitC (c : SCell) : Prop := c.buy ≤ 9223372036854775807 ∧ c.sell ≤ 9223372036854775807 ∧ c.opn ≤ 9223372036854775807
theorem okC_of_fit {c : SCell} (h : nnC c) (hf : fitC c) : okC c := by
  obtain ⟨h0, h1, h2, h3⟩ := h
  obtain ⟨f1, f2, f3⟩ := hf
  rw [okC_iff, h0]
  unfold inI
  omega
theorem fit_of_ok {c : SCell} (h : okC c) : fitC c := ⟨h.1.buy.2, h.1.sell.2, h.1.opn.2⟩
theorem fit_mono {a b : SCell} (hb : nnC b) (h : fitC (cadd a b)) : fitC a := by
  unfold fitC cadd nnC at *; simp only at *; omega
def fitAll (s : SState) : Prop := ∀ j : Nat, j < s.cells.length → fitC (sumC s.symbols j s.orders)
theorem lset_getI {α : Type} (l : List α) (k : Nat) (x : α) (j : Nat) (h : j < (lset l (itn (k : Int)) x).length) : (lset l (itn (k : Int)) x)[j] = if k = j then x else l[j]'(by simpa [lset] using h) := by
  simp [lset, itn, List.getElem_set]
theorem s_summed {s : SState} (hs : sizedP s) (hk : ∀ o ∈ s.orders, orderIn s o ∧ Ok_order o) :
    Wq (F_book_ledger_summed s) fun r => (r.2 = true ↔ fitAll s) ∧ (r.2 = true → r.1.length = s.cells.length ∧ ∀ (j : Nat) (h : j < r.1.length), r.1[j] = sumC s.symbols j s.orders) := by
  obtain ⟨hc, _, _, hol⟩ := hs.lens
  unfold F_book_ledger_summed
  rw [cnd_t (by simp only [band_T, ile_T, len]; omega)]
  refine Wq.bind (Q := fun w : (Bool × List SCell × List SCell) ⊕ (Bool × List SCell × List SCell) => match w with
      | .inl b => b.1 = false ∧ ¬ fitAll s
      | .inr b => b.2.2.length = s.cells.length ∧ ∀ (j : Nat) (h : j < b.2.2.length), b.2.2[j] = sumC s.symbols j s.orders ∧ fitC b.2.2[j])
    (w_for (n := s.orders.length) (step := fun v : Int × Bool × List SCell × List SCell => L_book_ledger_summed_58 (len s.orders) s.orders s v.fst v.snd.fst v.snd.snd.fst v.snd.snd.snd) (by omega)
      (fun i x => x.2.2.length = s.cells.length ∧ ∀ (j : Nat) (h : j < x.2.2.length), x.2.2[j] = sumC s.symbols j (s.orders.take i) ∧ fitC x.2.2[j]) _ ?_ ?_ _ 0 (Nat.zero_le _) ?_) ?_
  · rintro i ⟨q, x, y⟩ hi ⟨hx, hy⟩
    simp only at hx hy
    simp only [L_book_ledger_summed_58]
    have hmem := hk s.orders[i] (List.getElem_mem _)
    obtain ⟨⟨ho, ho3, g1, g2⟩, hor⟩ := id hmem
    obtain ⟨⟨_, hb1, hb2, _⟩, _⟩ := id ho
    obtain ⟨k, k1, k2, k3⟩ := s_cellOf hs s.orders[i].account s.orders[i].symbol hb1.1 g1 hb2.1 g2
    have hky : k < y.length := by omega
    have hnn : nnC y[k] := by
      rw [(hy k hky).1]
      exact sumC_nn _ _ fun o h => ⟨(hk o (List.mem_of_mem_take h)).1.1, (hk o (List.mem_of_mem_take h)).2⟩
    have hok : okC y[k] := okC_of_fit hnn (hy k hky).2
    have hnew : nnC (addC y[k] s.orders[i]) := by rw [addC_eq]; exact cadd_nn hnn (wC_nn ho hor)
    have hsum : ∀ j : Nat, sumC s.symbols j (s.orders.take (i + 1)) = cadd (sumC s.symbols j (s.orders.take i)) (inC s.symbols j s.orders[i]) := fun j => by
      rw [List.take_succ_eq_append_getElem hi, sumC_append, sumC_one]
    have hat : atZ s.symbols s.orders[i] = (k : Int) := k2.symm
    have hkk : addC y[k] s.orders[i] = sumC s.symbols k (s.orders.take (i + 1)) := by
      rw [hsum, addC_eq, (hy k hky).1]
      unfold inC; rw [if_pos hat]
    rw [cnd_t (by rw [ilt_nat]; simpa using hi), cnd_t (inb _ i hi), lget_nat _ i hi, k1, ob_some, cnd_t (inb y k hky), lget_nat y k hky, e_cell_Come hok ho hor, ob_some]
    by_cases hf : okC (addC y[k] s.orders[i])
    · rw [if_pos hf]
      simp only [ieq_00, bnot_true, cnd_false]
      rw [cnd_t (inb y k hky), w_some]
      refine ⟨wr_succ (by omega), (lset_len _ _ _).trans hx, fun j hj => ?_⟩
      have hj' : j < y.length := by simpa [lset] using hj
      show (lset y (itn (k : Int)) (addC y[k] s.orders[i]))[j]'hj = _ ∧ fitC ((lset y (itn (k : Int)) (addC y[k] s.orders[i]))[j]'hj)
      rw [lset_getI]
      split
      · rename_i e; subst e
        exact ⟨hkk, fit_of_ok hf⟩
      · rename_i e
        rw [hsum j]
        unfold inC
        rw [if_neg (by omega), cadd_z]
        exact hy j hj'
    · rw [if_neg hf]
      simp only [ieq_30, bnot_false, cnd_true]
      rw [w_some]
      refine ⟨rfl, fun hall => hf (okC_of_fit hnew ?_)⟩
      rw [hkk]
      have e : sumC s.symbols k s.orders = cadd (sumC s.symbols k (s.orders.take (i + 1))) (sumC s.symbols k (s.orders.drop (i + 1))) := by
        rw [← sumC_append, List.take_append_drop]
      have := hall k k3
      rw [e] at this
      exact fit_mono (sumC_nn _ _ fun o h => ⟨(hk o (List.mem_of_mem_drop h)).1.1, (hk o (List.mem_of_mem_drop h)).2⟩) this
  · rintro ⟨q, x, y⟩ hx
    simp only [L_book_ledger_summed_58]
    rw [cnd_f (by rw [ilt_nat]; simp), w_some]
    simp only [List.take_length] at hx
    exact hx
  · simp only [List.take_zero, sumC]
    refine ⟨by simp [lrep, itn, len], fun j hj => ?_⟩
    simp only [lrep, List.getElem_replicate]
    exact ⟨rfl, by simp only [fitC]; decide⟩
  · rintro w hw
    cases w with
    | inl b =>
      obtain ⟨h1, h2⟩ := hw
      simp only [sumK, w_some, h1]
      exact ⟨⟨fun h => (by cases h), fun h => absurd h h2⟩, fun h => by cases h⟩
    | inr b =>
      obtain ⟨h1, h2⟩ := hw
      simp only [sumK, w_some]
      refine ⟨⟨fun _ j hj => ?_, fun _ => trivial⟩, fun _ => ⟨h1, fun j hj => (h2 j hj).1⟩⟩
      have := h2 j (by omega)
      rw [← this.1]; exact this.2
/-- The cells that orders make, with what the accounts have. -/
def mkCells (s : SState) (l : List SOrder) : List SCell := s.cells.mapIdx fun i c => cadd ⟨c.pos, 0, 0, 0⟩ (sumC s.symbols i l)
theorem mkCells_len (s : SState) (l : List SOrder) : (mkCells s l).length = s.cells.length := by simp [mkCells]
theorem mkCells_get (s : SState) (l : List SOrder) (i : Nat) (h : i < (mkCells s l).length) : (mkCells s l)[i] = cadd ⟨(s.cells[i]'(by simpa [mkCells] using h)).pos, 0, 0, 0⟩ (sumC s.symbols i l) := by
  simp [mkCells]
/-- Is what is open of each account together a number? -/
def acctOk (n m : Int) (cs : List SCell) : Prop := ∀ a : Int, 0 ≤ a → a < n → wholeZ (acctZ m cs a) ≤ 9223372036854775807
/-- A right state. -/
structure RightS (s : SState) : Prop where
  sized : sizedP s
  fine : FineP s
  cells : s.cells = mkCells s s.orders
  ok : ∀ c ∈ s.cells, okC c
  acct : acctOk s.accounts s.symbols s.cells
theorem s_book_Right (s : SState) (hr : Ok_state s) (hl : s.orders.length < 999999) (h2 : s.limits.length < 999999) (h3 : s.caps.length < 999999) :
    Wq (F_book_Right s) fun b => b = true ↔ RightS s := by
  unfold F_book_Right F_book_ledger_right
  rw [w_bind]
  refine Wq.bind (s_book_ledger_sized s) fun z hz => ?_
  refine Wq.bind (Q := fun b => b = true ↔ (z = true ∧ FineP s)) ?_ ?_
  · rw [w_cnd]
    refine ⟨fun h => ?_, fun h => (w_some _).2 ?_⟩
    · simp only [bnot_T, bnot_F] at h
      have hs : sizedP s := hz.1 h
      refine (s_fine s hl h2 h3 ?_).mono fun b hb => by rw [hb]; simp [h]
      intro e
      have := hs.2.2.2.2.1
      have := hs.1.1
      simp [e, len] at *
      omega
    · simp only [bnot_T, bnot_F] at h
      simp [h]
  · intro f hf
    rw [w_cnd]
    refine ⟨fun h => (w_some _).2 ((w_some _).2 ?_), fun h => ?_⟩
    · simp only [bor_T, bnot_T] at h
      refine ⟨fun h => (by cases h), fun hr => ?_⟩
      have e1 := hz.2 hr.sized
      have e2 := hf.2 ⟨e1, hr.fine⟩
      rw [e1, e2] at h
      simp at h
    · simp only [bor_F, bnot_F] at h
      have hs := hz.1 h.1
      have hfn := (hf.1 h.2).2
      obtain ⟨hc, hlim, hcap, hol⟩ := hs.lens
      have hall : ∀ o ∈ s.orders, orderIn s o ∧ Ok_order o := fun o ho => ⟨hfn.ords o ho, hr.orders.1 o ho⟩
      have hokc : ∀ c ∈ s.cells, Ok_cell c := hr.cells.1
      refine Wq.bind (s_summed hs hall) fun y hy => ?_
      obtain ⟨hy1, hy2⟩ := hy
      rw [w_cnd]
      refine ⟨fun h5 => (w_some _).2 ((w_some _).2 ?_), fun h5 => ?_⟩
      · rw [bnot_T] at h5
        refine ⟨fun h => (by cases h), fun hR => ?_⟩
        have : y.2 = true := hy1.2 fun j hj => by
          have e := hR.ok s.cells[j] (List.getElem_mem _)
          have e2 : s.cells[j] = cadd ⟨s.cells[j].pos, 0, 0, 0⟩ (sumC s.symbols j s.orders) := by
            have := mkCells_get s s.orders j (by rw [mkCells_len]; exact hj)
            rw [← this]
            congr 1
            exact hR.cells
          have e3 := fit_of_ok e
          rw [e2] at e3
          unfold fitC cadd at e3
          simpa [fitC] using e3
        rw [this] at h5; cases h5
      · rw [bnot_F] at h5
        obtain ⟨hyl, hyg⟩ := hy2 h5
        refine Wq.bind (Q := fun w : (Bool × List SCell) ⊕ (Bool × List SCell) => match w with
            | .inl b => b.1 = false ∧ ¬ ((∀ c ∈ s.cells, okC c) ∧ s.cells = mkCells s s.orders)
            | .inr _ => (∀ c ∈ s.cells, okC c) ∧ s.cells = mkCells s s.orders)
          (w_for (n := s.cells.length) (step := fun v : Int × Bool × List SCell => L_book_ledger_right_250 (len s.cells) s.cells v.fst v.snd.fst v.snd.snd) (by omega)
          (fun i x => x.2.length = s.cells.length ∧ (∀ (j : Nat) (h : j < x.2.length), i ≤ j → x.2[j] = sumC s.symbols j s.orders) ∧ ∀ (j : Nat) (h : j < s.cells.length), j < i → okC s.cells[j] ∧ s.cells[j] = cadd ⟨s.cells[j].pos, 0, 0, 0⟩ (sumC s.symbols j s.orders)) _ ?_ ?_ _ 0 (Nat.zero_le _)
          ⟨hyl, fun j hj _ => hyg j hj, fun j _ h => by omega⟩) ?_
        · rintro i ⟨q, x⟩ hi ⟨hx, hxj, hxd⟩
          simp only at hx hxj hxd
          simp only [L_book_ledger_right_250]
          have hix : i < x.length := by omega
          rw [cnd_t (by rw [ilt_nat]; simpa using hi), cnd_t (inb _ i hi), cnd_t (inb x i hix), lget_nat _ i hi, lget_nat x i hix, e_cell_Right (hokc _ (List.getElem_mem _)), ob_some]
          have hil : i < (lset x (itn (i : Int)) (SCell.mk s.cells[i].pos x[i].buy x[i].sell x[i].opn)).length := by rw [lset_len]; exact hix
          rw [cnd_t (by rw [bor_T]; exact .inl (inb _ i hil)), lget_nat _ i hil]
          have hg : (lset x (itn (i : Int)) (SCell.mk s.cells[i].pos x[i].buy x[i].sell x[i].opn))[i] = SCell.mk s.cells[i].pos x[i].buy x[i].sell x[i].opn := by
            simp [lset, itn]
          rw [hg]
          have hxi := hxj i hix (Nat.le_refl _)
          have hq : cadd ⟨s.cells[i].pos, 0, 0, 0⟩ (sumC s.symbols i s.orders) = SCell.mk s.cells[i].pos x[i].buy x[i].sell x[i].opn := by
            rw [← hxi]
            have hp : x[i].pos = 0 := by rw [hxi]; exact (sumC_nn _ _ fun o h => ⟨(hall o h).1.1, (hall o h).2⟩).1
            apply cell_ext <;> simp only [cadd] <;> omega
          simp only [w_cnd, w_some, band_T, band_F, bor_T, bor_F, bnot_T, bnot_F, ilt_T, ilt_F, ile_T, ile_F, ieq_T, ieq_F, beq_T, beq_F]
          constructor
          · intro hb
            refine ⟨trivial, fun ⟨a1, a2⟩ => ?_⟩
            have b1 := a1 s.cells[i] (List.getElem_mem _)
            have b2 : s.cells[i] = cadd ⟨s.cells[i].pos, 0, 0, 0⟩ (sumC s.symbols i s.orders) := by
              have := mkCells_get s s.orders i (by rw [mkCells_len]; exact hi)
              rw [← this]; congr 1
            rw [hq] at b2
            rcases hb with hb | hb
            · exact absurd b1 (by simpa using hb)
            · have c2 := congrArg SCell.buy b2; have c3 := congrArg SCell.sell b2; have c4 := congrArg SCell.opn b2
              simp only at c2 c3 c4
              rcases hb with hb | hb | hb | hb
              · exact hb rfl
              · exact hb c2.symm
              · exact hb c3.symm
              · exact hb c4.symm
          · intro hb
            obtain ⟨b1, _, b2, b3, b4⟩ := hb
            refine ⟨wr_succ (by omega), (lset_len _ _ _).trans hx, fun j hj hij => ?_, fun j hj hji => ?_⟩
            · rw [lset_getI, if_neg (by omega)]
              exact hxj j (by simpa [lset] using hj) (by omega)
            · by_cases e : j = i
              · subst e
                refine ⟨by simpa using b1, ?_⟩
                rw [hq]
                exact cell_ext rfl b2.symm b3.symm b4.symm
              · exact hxd j hj (by omega)
        · rintro ⟨q, x⟩ ⟨hx, _, hxd⟩
          simp only [L_book_ledger_right_250]
          rw [cnd_f (by rw [ilt_nat]; simp), w_some]
          refine ⟨fun c hc => ?_, ?_⟩
          · obtain ⟨j, hj, rfl⟩ := List.getElem_of_mem hc
            exact (hxd j hj hj).1
          · refine List.ext_getElem (mkCells_len _ _).symm fun j h1 h2 => ?_
            rw [mkCells_get]
            exact (hxd j h1 h1).2
        · rintro w hw
          cases w with
          | inl b =>
            obtain ⟨h1, h2⟩ := hw
            simp only [sumK, w_some, h1]
            exact ⟨fun h => (by cases h), fun hR => absurd ⟨hR.ok, hR.cells⟩ h2⟩
          | inr b =>
            obtain ⟨hok, hcs⟩ := hw
            simp only [sumK]
            rw [w_bind]
            have hacc : ∀ a : Int, ∀ c ∈ acctZ s.symbols s.cells a, 0 ≤ c.opn ∧ inI c.opn := fun a c hc => by
              have := hok c (acctZ_mem hc)
              exact ⟨this.2.1.2.2, this.1.opn⟩
            refine Wq.mono (Q := fun w : Bool ⊕ Bool => match w with | .inl b => b = false ∧ ¬ acctOk s.accounts s.symbols s.cells | .inr _ => acctOk s.accounts s.symbols s.cells)
              (w_for (n := s.accounts.toNat) (step := fun v : Int × Bool => L_book_ledger_right_506 s.accounts s v.fst v.snd) (by have := hs.1.2; omega)
              (fun i x => ∀ a : Int, 0 ≤ a → a < i → wholeZ (acctZ s.symbols s.cells a) ≤ 9223372036854775807) _ ?_ ?_ _ 0 (Nat.zero_le _) (fun a h1 h2 => by omega)) ?_
            · rintro i q hi hx
              have hia : (i : Int) < s.accounts := by omega
              simp only [L_book_ledger_right_506]
              rw [cnd_t (ilt_t hia), e_account hs i (by omega) hia, ob_some, e_limit_Whole (by have := acctZ_len (n := s.symbols) (cs := s.cells) (a := (i : Int)); omega) (hacc i), ob_some]
              by_cases hw : wholeZ (acctZ s.symbols s.cells i) ≤ 9223372036854775807
              · rw [if_pos hw]
                simp only [ieq_00, bnot_true, cnd_false, w_some]
                refine ⟨wr_succ (by omega), fun a h1 h2 => ?_⟩
                by_cases e : a = i
                · subst e; exact hw
                · exact hx a h1 (by omega)
              · rw [if_neg hw]
                simp only [ieq_30, bnot_false, cnd_true, w_some]
                exact ⟨trivial, fun h => hw (h i (by omega) hia)⟩
            · rintro q hx
              simp only [L_book_ledger_right_506]
              rw [cnd_f (ilt_f (by omega)), w_some]
              exact fun a h1 h2 => hx a h1 (by omega)
            · rintro w hw
              cases w with
              | inl b =>
                obtain ⟨rfl, h2⟩ := hw
                simp only [w_some]
                exact ⟨fun h => (by cases h), fun hR => absurd hR.acct h2⟩
              | inr b =>
                simp only [w_some]
                exact ⟨fun _ => ⟨hs, hfn, hcs, hok, hw⟩, fun _ => trivial⟩
def doneZ (o : SOrder) : SOrder := ⟨o.id, o.account, o.symbol, o.side, o.qty, o.price, o.filled, 3, 0, 0, o.version, o.asked⟩
def settledZ (o : SOrder) : SOrder := ⟨o.id, o.account, o.symbol, o.side, o.qty, o.price, o.filled, o.phase, 0, 0, o.version, o.asked⟩
def beginZ (r : SRec) : SOrder := ⟨r.order, r.account, r.symbol, r.side, r.qty, r.price, 0, 1, 0, 0, 0, false⟩
def changeP (o : SOrder) : Prop := o.phase = 2 ∧ ¬ pendP o ∧ o.asked = false ∧ o.version < 9223372036854775807
instance (o : SOrder) : Decidable (changeP o) := by unfold changeP; infer_instance
def changeZ (o : SOrder) (q p : Int) : SOrder := ⟨o.id, o.account, o.symbol, o.side, o.qty, o.price, o.filled, o.phase, q, p, o.version + 1, o.asked⟩
def endZ (o : SOrder) : SOrder := ⟨o.id, o.account, o.symbol, o.side, o.qty, o.price, o.filled, o.phase, o.newQty, o.newPrice, o.version, true⟩
def liveZ (o : SOrder) (f : Int) : SOrder := ⟨o.id, o.account, o.symbol, o.side, o.qty, o.price, f, o.phase, o.newQty, o.newPrice, o.version, o.asked⟩
def phaseZ (o : SOrder) (f : Int) : SOrder := ⟨o.id, o.account, o.symbol, o.side, o.qty, o.price, o.filled, f, o.newQty, o.newPrice, o.version, o.asked⟩
def replZ (o : SOrder) (q p : Int) : SOrder := ⟨o.id, o.account, o.symbol, o.side, q, p, o.filled, o.phase, 0, 0, o.version, o.asked⟩
/-- An order, with a note. -/
def takeZ (o : SOrder) (what q p : Int) : Option SOrder :=
  if o.phase = 1 then (if what = 1 then some (phaseZ o 2) else if what = 2 then some (doneZ o) else none)
  else if o.phase = 2 then
    if what = 3 then (if o.qty - o.filled < q then none else if o.filled + q < o.qty then some (liveZ o (o.filled + q)) else some (doneZ (liveZ o (o.filled + q))))
    else if what = 4 then some (doneZ o)
    else if what = 5 then (if pendP o ∧ q = o.newQty ∧ p = o.newPrice ∧ o.filled < q then some (replZ o q p) else none)
    else if what = 6 then (if pendP o then some (settledZ o) else none)
    else none
  else none
theorem e_order_Begin {r : SRec} (h : recP r) (hk : r.kind = 1) : F_order_Begin r = some (beginZ r, 0) := by
  unfold F_order_Begin
  obtain ⟨b, e, q⟩ := s_rec_Right r
  rw [e, q.2 h, hk]
  rfl
theorem s_order_Change {o : SOrder} {q p : Int} (h : ordP o) (hr : Ok_order o) (hq : 1 ≤ q) (hp : 1 ≤ p) :
    Wq (F_order_Change o q p) fun r => (changeP o → r = (changeZ o q p, 0)) ∧ (¬ changeP o → r.2 ≠ 0) := by
  have hv := hr.version
  unfold F_order_Change
  rw [e_num_Add hv (by decide), ob_some, e_order_Right, ob_some, decide_eq_true h, bnot_true, cnd_false, cnd_f (ilt_f (by omega)), cnd_f (ilt_f (by omega))]
  unfold inI at hv
  by_cases hm : o.version + 1 ≤ 9223372036854775807
  · rw [if_pos ⟨by omega, hm⟩]
    simp only [ieq_00, bnot_true, cnd_false]
    unfold iadd
    rw [wr_in ⟨by omega, hm⟩, e_order_pending, ob_some]
    simp only [w_bind, w_cnd, w_some, band_T, band_F, bor_T, bor_F, bnot_T, bnot_F, ilt_T, ilt_F, ile_T, ile_F, ieq_T, ieq_F, beq_T, beq_F, true_implies, ne_eq, not_true_eq_false, false_implies, and_true, true_and, or_self, reduceCtorEq]
    unfold changeP
    refine ⟨fun h1 => ⟨fun _ => ⟨fun h2 => absurd h2.1 h1, fun _ => by decide⟩, fun h2 => absurd h2 h1⟩, fun h1 => ⟨fun h2 => ⟨fun _ => ⟨fun h3 => absurd (by simpa using h2) h3.2.1, fun _ => by decide⟩, fun h3 => by rw [h2] at h3; cases h3⟩, fun h2 => ?_⟩⟩
    have h2 : ¬ pendP o := by simpa using h2
    refine ⟨fun h3 => ⟨fun h4 => (by rw [h4.2.2.1] at h3; cases h3), fun _ => by decide⟩, fun h3 => ⟨fun _ => rfl, fun h4 => absurd ⟨h1, h2, h3, by omega⟩ h4⟩⟩
  · rw [if_neg (by unfold inI; omega)]
    simp only [ieq_30, bnot_false, cnd_true, w_some]
    exact ⟨fun h2 => (by have := h2.2.2.2; omega), fun _ => by decide⟩
theorem e_order_End {o : SOrder} (h : ordP o) (h3 : o.phase ≠ 3) : F_order_End o = some (if o.asked = true then (o, 8) else (endZ o, 0)) := by
  unfold F_order_End
  rw [e_order_Right, ob_some, decide_eq_true h, bnot_true, cnd_false, cnd_f (by rw [ieq_F]; exact h3), cnd_if]
  split <;> rfl
def noteR (n : SNote) : SRec := ⟨6, n.order, 0, 0, 0, n.qty, n.price, 0, 0, 0, false, n.seq, n.what⟩
theorem e_order_done (o : SOrder) : F_order_done o = some (doneZ o) := rfl
theorem e_order_sent (o : SOrder) (n : SNote) : F_order_sent o n = some (if n.what = 1 then (phaseZ o 2, true) else if n.what = 2 then (doneZ o, true) else (o, false)) := by
  unfold F_order_sent
  rw [e_order_done, ob_some, c_ieq, c_ieq]
  split
  · rfl
  · split <;> rfl
theorem e_order_live {o : SOrder} {n : SNote} (h : ordP o) (hr : Ok_order o) (hp : o.phase = 2) (hn : n.what = 3 → 1 ≤ n.qty ∧ inI n.qty) :
    Wq (F_order_live o n) fun r => match takeZ o n.what n.qty n.price with | some p => r = (p, true) | none => r.2 = false := by
  have hq := hr.qty; have hf := hr.filled
  have h1 := h.2.1; have h2 := h.2.2.1
  unfold inI at hq hf
  unfold F_order_live takeZ
  rw [if_neg (by omega), if_pos hp]
  unfold isub iadd
  rw [wr_in (n := o.qty - o.filled) ⟨by omega, by omega⟩]
  by_cases k3 : n.what = 3
  · obtain ⟨g1, g2⟩ := hn k3
    unfold inI at g2
    rw [if_pos k3, cnd_t (by rw [ieq_T]; exact k3), w_cnd]
    refine ⟨fun h4 => ?_, fun h4 => ?_⟩
    · rw [ilt_T] at h4
      rw [if_pos h4, w_some]
    · rw [ilt_F] at h4
      rw [if_neg (by omega), wr_in ⟨by omega, by omega⟩, w_cnd]
      refine ⟨fun h5 => ?_, fun h5 => ?_⟩
      · rw [ilt_T] at h5
        rw [if_pos h5, w_some]; rfl
      · rw [ilt_F] at h5
        rw [if_neg (by omega), e_order_done, ob_some, w_some]; rfl
  rw [if_neg k3, cnd_f (by rw [ieq_F]; exact k3)]
  by_cases k4 : n.what = 4
  · rw [if_pos k4, cnd_t (by rw [ieq_T]; exact k4), e_order_done, ob_some, w_some]
  rw [if_neg k4, cnd_f (by rw [ieq_F]; exact k4)]
  by_cases k5 : n.what = 5
  · rw [if_pos k5, cnd_t (by rw [ieq_T]; exact k5), e_order_pending, ob_some, w_cnd]
    refine ⟨fun hb => ?_, fun hb => ?_⟩
    · simp only [band_T, band_F, bor_T, bor_F, bnot_T, bnot_F, ilt_T, ilt_F, ile_T, ile_F, ieq_T, ieq_F, beq_T, beq_F, decide_eq_false_iff_not] at hb
      rw [if_neg (by rintro ⟨a1, a2, a3, a4⟩; rcases hb with ((hb | hb) | hb) | hb; exact hb a1; exact hb a2; exact hb a3; omega), w_some]
    · simp only [band_T, band_F, bor_T, bor_F, bnot_T, bnot_F, ilt_T, ilt_F, ile_T, ile_F, ieq_T, ieq_F, beq_T, beq_F, decide_eq_true_eq] at hb
      rw [if_pos ⟨hb.1.1.1, hb.1.1.2, hb.1.2, by omega⟩]
      exact (w_some _).2 rfl
  rw [if_neg k5, cnd_f (by rw [ieq_F]; exact k5)]
  by_cases k6 : n.what = 6
  · rw [if_pos k6, cnd_t (by rw [ieq_T]; exact k6), e_order_pending]
    by_cases hb : pendP o
    · rw [if_pos hb, decide_eq_true hb]; exact (w_some _).2 rfl
    · rw [if_neg hb, decide_eq_false hb]; exact (w_some _).2 rfl
  rw [if_neg k6, cnd_f (by rw [ieq_F]; exact k6), w_some]
theorem e_order_Take {o : SOrder} {n : SNote} (h : ordP o) (hr : Ok_order o) (hn : recP (noteR n)) (hi : n.order = o.id) (hq : inI n.qty) :
    F_order_Take o n = some (match takeZ o n.what n.qty n.price with | some p => (p, 0) | none => (o, 8)) := by
  refine Wq.eq ?_
  unfold F_order_Take
  obtain ⟨b, e, q⟩ := s_rec_Right (noteR n)
  rw [e_order_Right, ob_some, decide_eq_true h, bnot_true, bnot_false, cnd_true, show F_rec_OfNote n = some (noteR n) from rfl, ob_some, cnd_true, e, q.2 hn, ob_some, bnot_true, bor_false, bor_false, cnd_f (by rw [bnot_F, ieq_T]; exact hi), w_cnd]
  refine ⟨fun h1 => ?_, fun h1 => ?_⟩
  · rw [ieq_T] at h1
    rw [e_order_sent, ob_some]
    unfold takeZ
    rw [if_pos h1]
    by_cases k1 : n.what = 1
    · simp only [if_pos k1]; exact (w_some _).2 rfl
    · by_cases k2 : n.what = 2
      · simp only [if_neg k1, if_pos k2]; exact (w_some _).2 rfl
      · simp only [if_neg k1, if_neg k2]; exact (w_some _).2 rfl
  · rw [ieq_F] at h1
    rw [w_cnd]
    refine ⟨fun h2 => ?_, fun h2 => ?_⟩
    · rw [ieq_T] at h2
      refine Wq.bind (e_order_live h hr h2 fun k3 => ?_) fun y hy => ?_
      · unfold recP noteR at hn
        simp only at hn
        refine ⟨?_, hq⟩
        omega
      · rw [w_cnd]
        cases ht : takeZ o n.what n.qty n.price with
        | none =>
          simp only [ht] at hy
          rw [hy]
          exact ⟨fun _ => (w_some _).2 rfl, fun h => (by cases h)⟩
        | some p =>
          simp only [ht] at hy
          rw [hy]
          exact ⟨fun h => (by cases h), fun _ => (w_some _).2 rfl⟩
    · rw [ieq_F] at h2
      rw [w_some]
      unfold takeZ
      rw [if_neg h1, if_neg h2]
def withS (s : SState) (l : List SOrder) : SState := ⟨s.accounts, s.symbols, l, mkCells s l, s.limits, s.caps, s.kill, s.last, s.seq, s.lsn⟩
def fitS (s : SState) : Prop := (∀ c ∈ s.cells, okC c) ∧ acctOk s.accounts s.symbols s.cells
/-- Does a limit stand against what an account's cell is now? -/
def stopP (was now : SState) (a y : Int) : Prop :=
  againstP (ofC (lget was.cells (itn (a * was.symbols + y)))) (ofC (lget now.cells (itn (a * was.symbols + y)))) (lget was.limits (itn (a * was.symbols + y))) ∨
  capP (wholeZ (acctZ was.symbols was.cells a)) (wholeZ (acctZ was.symbols now.cells a)) (lget was.caps (itn a))
instance (s t : SState) (a y : Int) : Decidable (stopP s t a y) := by unfold stopP; infer_instance
open Classical in
noncomputable def askS (s t : SState) (a y : Int) : SState × Int :=
  if ¬ fitS t then (s, 3) else if stopP s t a y then (s, 4) else (⟨t.accounts, t.symbols, t.orders, t.cells, t.limits, t.caps, t.kill, t.last, t.seq, t.lsn + 1⟩, 0)
/-- A state with what an account has moved. -/
def movC (s : SState) (o : SOrder) (q : Int) : List SCell :=
  lset s.cells (itn (atZ s.symbols o)) ⟨if o.side = 1 then (lget s.cells (itn (atZ s.symbols o))).pos + q else (lget s.cells (itn (atZ s.symbols o))).pos - q, (lget s.cells (itn (atZ s.symbols o))).buy, (lget s.cells (itn (atZ s.symbols o))).sell, (lget s.cells (itn (atZ s.symbols o))).opn⟩
def evS (s : SState) (r : SRec) (k : Nat) (p : SOrder) : SState :=
  let o := lget s.orders k
  let s' : SState := ⟨s.accounts, s.symbols, s.orders, if r.what = 3 then movC s o r.qty else s.cells, s.limits, s.caps, s.kill, s.last, r.seq, s.lsn + 1⟩
  withS s' (if p.phase = 3 then s.orders.eraseIdx k else lset s.orders k p)
def mayP (s : SState) (r : SRec) : Prop := RightS s ∧ recP r ∧ s.lsn < 1000000000 ∧ r.account < s.accounts ∧ r.symbol < s.symbols ∧ (r.kind = 1 → s.last < r.order)
open Classical in
noncomputable def doS (s : SState) (r : SRec) : SState × Int :=
  if ¬ mayP s r then (s, 1)
  else if r.kind = 1 then
    if s.kill = true then (s, 5) else if s.orders.length = 64 then (s, 6)
    else askS s ⟨s.accounts, s.symbols, lapp s.orders [beginZ r], mkCells s (lapp s.orders [beginZ r]), s.limits, s.caps, s.kill, r.order, s.seq, s.lsn⟩ r.account r.symbol
  else if r.kind = 2 then
    match findZ s.orders r.order with
    | none => (s, 7)
    | some k =>
      if ¬ changeP (lget s.orders k) then (s, 8) else if s.kill = true then (s, 5)
      else askS s (withS s (lset s.orders k (changeZ (lget s.orders k) r.qty r.price))) (lget s.orders k).account (lget s.orders k).symbol
  else if r.kind = 3 then
    match findZ s.orders r.order with
    | none => (s, 7)
    | some k => if (lget s.orders k).asked = true then (s, 8) else (⟨s.accounts, s.symbols, lset s.orders k (endZ (lget s.orders k)), s.cells, s.limits, s.caps, s.kill, s.last, s.seq, s.lsn + 1⟩, 0)
  else if r.kind = 4 then
    if r.symbol = -1 then (⟨s.accounts, s.symbols, s.orders, s.cells, s.limits, lset s.caps (itn r.account) r.opn, s.kill, s.last, s.seq, s.lsn + 1⟩, 0)
    else (⟨s.accounts, s.symbols, s.orders, s.cells, lset s.limits (itn (r.account * s.symbols + r.symbol)) ⟨r.long, r.short, r.opn⟩, s.caps, s.kill, s.last, s.seq, s.lsn + 1⟩, 0)
  else if r.kind = 5 then (⟨s.accounts, s.symbols, s.orders, s.cells, s.limits, s.caps, r.on, s.last, s.seq, s.lsn + 1⟩, 0)
  else if r.seq ≠ s.seq + 1 then (s, 11)
  else match findZ s.orders r.order with
    | none => (⟨s.accounts, s.symbols, s.orders, s.cells, s.limits, s.caps, s.kill, s.last, r.seq, s.lsn + 1⟩, 0)
    | some k => match takeZ (lget s.orders k) r.what r.qty r.price with
      | none => (⟨s.accounts, s.symbols, s.orders, s.cells, s.limits, s.caps, s.kill, s.last, r.seq, s.lsn + 1⟩, 0)
      | some p => (evS s r k p, 0)
theorem wr_lsn {n : Int} (h1 : 0 ≤ n) (h2 : n < 1000000000) : wr .i64 (iadd n 1) = n + 1 := by unfold iadd; exact wr_small (by omega) (by omega)
theorem at_rng {s : SState} (hs : sizedP s) {o : SOrder} (h : orderIn s o) : ∃ k : Nat, F_book_ledger_cellOf s o.account o.symbol = some (k : Int) ∧ atZ s.symbols o = (k : Int) ∧ k < s.cells.length := by
  obtain ⟨ho, _, g1, g2⟩ := h
  obtain ⟨⟨_, hb1, hb2, _⟩, _⟩ := id ho
  obtain ⟨k, k1, k2, k3⟩ := s_cellOf hs o.account o.symbol hb1.1 g1 hb2.1 g2
  exact ⟨k, k1, k2.symm, k3⟩
/-- A cell that is turned, in a right state. -/
theorem mk_set {s : SState} (hR : RightS s) (l : List SOrder) (k : Nat) (hk : k < s.cells.length) (c : SCell) (hc : c = cadd ⟨s.cells[k].pos, 0, 0, 0⟩ (sumC s.symbols k l))
    (ho : ∀ j : Nat, j ≠ k → sumC s.symbols j l = sumC s.symbols j s.orders) : mkCells s l = s.cells.set k c := by
  refine List.ext_getElem (by rw [mkCells_len, List.length_set]) fun j h1 h2 => ?_
  rw [mkCells_get, List.getElem_set]
  have hj : j < s.cells.length := by simpa [mkCells] using h1
  split
  · rename_i e; subst e; exact hc.symm
  · rename_i e
    rw [ho j (by omega), ← mkCells_get s s.orders j (by rw [mkCells_len]; exact hj)]
    congr 1
    exact hR.cells.symm
theorem cell_of {s : SState} (hR : RightS s) (k : Nat) (hk : k < s.cells.length) : s.cells[k] = cadd ⟨s.cells[k].pos, 0, 0, 0⟩ (sumC s.symbols k s.orders) := by
  have := mkCells_get s s.orders k (by rw [mkCells_len]; exact hk)
  rw [← this]; congr 1; exact hR.cells
theorem inC_at {n : Int} {o : SOrder} {k : Nat} (h : atZ n o = (k : Int)) : inC n k o = wC o := by unfold inC; rw [if_pos h]
theorem inC_off {n : Int} {o : SOrder} {k j : Nat} (h : atZ n o = (k : Int)) (hj : j ≠ k) : inC n j o = zC := by unfold inC; rw [if_neg (by omega)]
/-- An order more. -/
theorem mk_app {s : SState} (hR : RightS s) (o : SOrder) (k : Nat) (hk : k < s.cells.length) (ha : atZ s.symbols o = (k : Int)) : mkCells s (s.orders ++ [o]) = s.cells.set k (addC s.cells[k] o) := by
  refine mk_set hR _ k hk _ ?_ fun j hj => ?_
  · rw [sumC_append, sumC_one, inC_at ha, ← cadd_assoc, ← cell_of hR k hk, addC_eq]
  · rw [sumC_append, sumC_one, inC_off ha hj, cadd_z]
theorem ascP.find {l : List SOrder} (h : ascP l) {i j : Nat} (hi : i < l.length) (hj : j < l.length) (e : l[i].id = l[j].id) : i = j := by
  rcases Nat.lt_trichotomy i j with h1 | h1 | h1
  · have := List.pairwise_iff_getElem.1 h i j hi hj h1; omega
  · exact h1
  · have := List.pairwise_iff_getElem.1 h j i hj hi h1; omega
theorem subC_eq {c : SCell} {o : SOrder} {d : SCell} (h : c = cadd d (wC o)) : subC c o = d := by
  subst h
  unfold subC wC cadd
  split <;> apply cell_ext <;> simp only <;> omega
/-- A cell without one of its orders. -/
def restC (s : SState) (m k : Nat) : SCell := cadd (cadd (sumC s.symbols k (s.orders.take m)) (sumC s.symbols k (s.orders.drop (m + 1)))) zC
theorem cell_rest {s : SState} (hR : RightS s) (m : Nat) (hm : m < s.orders.length) (k : Nat) (hk : k < s.cells.length) (ha : atZ s.symbols s.orders[m] = (k : Int)) :
    subC s.cells[k] s.orders[m] = cadd ⟨s.cells[k].pos, 0, 0, 0⟩ (restC s m k) := by
  refine subC_eq ?_
  have h := cell_of hR k hk
  rw [sumC_split s.symbols k s.orders m hm, inC_at ha] at h
  unfold restC
  rw [cadd_z, cadd_assoc]
  exact h
theorem rest_nn {s : SState} (hk : ∀ o ∈ s.orders, ordP o ∧ Ok_order o) (m k : Nat) : nnC (restC s m k) := by
  unfold restC
  rw [cadd_z]
  exact cadd_nn (sumC_nn _ _ fun o h => hk o (List.mem_of_mem_take h)) (sumC_nn _ _ fun o h => hk o (List.mem_of_mem_drop h))
/-- An order in the place of another one. -/
theorem mk_put {s : SState} (hR : RightS s) (m : Nat) (hm : m < s.orders.length) (p : SOrder) (k : Nat) (hk : k < s.cells.length) (ha : atZ s.symbols s.orders[m] = (k : Int)) (hp : atZ s.symbols p = (k : Int)) :
    mkCells s (s.orders.set m p) = s.cells.set k (addC (subC s.cells[k] s.orders[m]) p) := by
  refine mk_set hR _ k hk _ ?_ fun j hj => ?_
  · rw [cell_rest hR m hm k hk ha, sumC_set s.symbols k s.orders m hm, inC_at hp, addC_eq]
    unfold restC
    rw [cadd_z, cadd_assoc]
  · rw [sumC_set s.symbols j s.orders m hm, sumC_split s.symbols j s.orders m hm, inC_off hp hj, inC_off ha hj]
theorem mk_del {s : SState} (hR : RightS s) (m : Nat) (hm : m < s.orders.length) (k : Nat) (hk : k < s.cells.length) (ha : atZ s.symbols s.orders[m] = (k : Int)) :
    mkCells s (s.orders.eraseIdx m) = s.cells.set k (subC s.cells[k] s.orders[m]) := by
  refine mk_set hR _ k hk _ ?_ fun j hj => ?_
  · rw [cell_rest hR m hm k hk ha, sumC_erase s.symbols k s.orders m hm]
    unfold restC
    rw [cadd_z]
  · rw [sumC_erase s.symbols j s.orders m hm, sumC_split s.symbols j s.orders m hm, inC_off ha hj, cadd_z]
/-- A cell without one of its orders is right. -/
theorem sub_ok {s : SState} (hR : RightS s) (hr : Ok_state s) (m : Nat) (hm : m < s.orders.length) (k : Nat) (hk : k < s.cells.length) (ha : atZ s.symbols s.orders[m] = (k : Int)) : okC (subC s.cells[k] s.orders[m]) := by
  have hall : ∀ o ∈ s.orders, ordP o ∧ Ok_order o := fun o h => ⟨(hR.fine.ords o h).1, hr.orders.1 o h⟩
  have hm' := hall s.orders[m] (List.getElem_mem _)
  have h1 := hR.ok s.cells[k] (List.getElem_mem _)
  rw [cell_rest hR m hm k hk ha]
  have h2 := rest_nn hall m k
  have h3 := wC_nn hm'.1 hm'.2
  have h4 : s.cells[k] = cadd (cadd ⟨s.cells[k].pos, 0, 0, 0⟩ (restC s m k)) (wC s.orders[m]) := by
    have := cell_rest hR m hm k hk ha
    rw [← this]
    unfold subC wC cadd
    split <;> apply cell_ext <;> simp only <;> omega
  rw [okC_iff] at h1 ⊢
  have b1 := congrArg SCell.buy h4; have b2 := congrArg SCell.sell h4; have b3 := congrArg SCell.opn h4
  unfold nnC at h2 h3
  unfold inI at *
  simp only [cadd] at *
  omega
theorem acct_nn {n : Int} {cs : List SCell} (h : ∀ c ∈ cs, okC c) (a : Int) : ∀ c ∈ acctZ n cs a, 0 ≤ c.opn ∧ inI c.opn := fun c hc => by
  have := h c (acctZ_mem hc)
  exact ⟨this.2.1.2.2, this.1.opn⟩
/-- An account's cells, where a cell of another one is turned. -/
theorem acct_set {n : Int} (hn : 0 ≤ n) {cs : List SCell} {k : Nat} {c : SCell} {a y b : Int} (ha : 0 ≤ a) (hy : 0 ≤ y) (hy2 : y < n) (hk : (k : Int) = a * n + y) (hb : 0 ≤ b) (hab : b ≠ a) : acctZ n (cs.set k c) b = acctZ n cs b := by
  unfold acctZ
  rcases Int.lt_or_gt_of_ne hab with h | h
  · have h1 : (b + 1) * n ≤ a * n := Int.mul_le_mul_of_nonneg_right (by omega) hn
    have h2 : (b + 1) * n = b * n + n := by rw [Int.add_mul, Int.one_mul]
    have h3 : 0 ≤ b * n := Int.mul_nonneg hb hn
    rw [List.drop_set]
    rw [if_neg (by omega), List.take_set_of_le (by omega)]
  · have h1 : (a + 1) * n ≤ b * n := Int.mul_le_mul_of_nonneg_right (by omega) hn
    have h2 : (a + 1) * n = a * n + n := by rw [Int.add_mul, Int.one_mul]
    rw [List.drop_set_of_lt (by omega)]
/-- Is a state with one cell turned right, as numbers go? -/
theorem fit_set {s t : SState} (hR : RightS s) (hn1 : t.accounts = s.accounts) (hn2 : t.symbols = s.symbols) {k : Nat} {c : SCell} {a y : Int} (ha : 0 ≤ a) (ha2 : a < s.accounts) (hy : 0 ≤ y) (hy2 : y < s.symbols) (hk : (k : Int) = a * s.symbols + y) (hkl : k < s.cells.length)
    (hc : t.cells = s.cells.set k c) : fitS t ↔ okC c ∧ wholeZ (acctZ s.symbols t.cells a) ≤ 9223372036854775807 := by
  unfold fitS acctOk
  rw [hn1, hn2]
  constructor
  · rintro ⟨h1, h2⟩
    refine ⟨h1 c ?_, h2 a ha ha2⟩
    rw [hc]; exact List.mem_set hkl _
  · rintro ⟨h1, h2⟩
    refine ⟨fun d hd => ?_, fun b hb hb2 => ?_⟩
    · rw [hc] at hd
      rcases List.mem_or_eq_of_mem_set hd with hd | rfl
      · exact hR.ok d hd
      · exact h1
    · by_cases e : b = a
      · subst e; exact h2
      · rw [hc, acct_set (by omega) ha hy hy2 hk hb e]
        exact hR.acct b hb hb2
theorem e_bears {s t : SState} (hR : RightS s) (ht : sizedP t) (hn1 : t.accounts = s.accounts) (hn2 : t.symbols = s.symbols) (hl : t.limits = s.limits) (hcp : t.caps = s.caps) (hok : ∀ c ∈ t.cells, okC c) {k : Nat} {a y : Int} (ha : 0 ≤ a) (ha2 : a < s.accounts) (hy : 0 ≤ y) (hy2 : y < s.symbols) (hk : (k : Int) = a * s.symbols + y) (hkl : k < s.cells.length) :
    F_book_ledger_bears t s a y = some (if ¬ wholeZ (acctZ s.symbols t.cells a) ≤ 9223372036854775807 then 3 else if stopP s t a y then 4 else 0) := by
  have hs := hR.sized
  obtain ⟨l1, l2, l3, l4⟩ := hs.lens
  obtain ⟨m1, m2, m3, m4⟩ := ht.lens
  have hcl : t.cells.length = s.cells.length := by
    have := ht.2.2.1; have := hs.2.2.1
    rw [hn1, hn2] at *
    simp only [len] at *; omega
  obtain ⟨k', e1, e2, e3⟩ := s_cellOf ht a y ha (by omega) hy (by omega)
  have hkk : k' = k := by rw [hn2] at e2; omega
  subst hkk
  have hkt : k' < t.cells.length := by omega
  have hkm : k' < t.limits.length := by omega
  have ln1 := acctZ_len (n := s.symbols) (cs := s.cells) (a := a)
  have ln2 := acctZ_len (n := s.symbols) (cs := t.cells) (a := a)
  unfold F_book_ledger_bears
  rw [e1, ob_some, e_account ht a ha (by omega), ob_some, hn2, e_limit_Whole (by omega) (acct_nn hok a), ob_some]
  by_cases hw : wholeZ (acctZ s.symbols t.cells a) ≤ 9223372036854775807
  · rw [if_pos hw, if_neg (by simpa using hw)]
    simp only [ieq_00, bnot_true, cnd_false]
    rw [e_account hs a ha ha2, ob_some, e_limit_Whole (by omega) (acct_nn hR.ok a), ob_some, if_pos (hR.acct a ha ha2), cnd_t (inb _ k' hkl), lget_nat _ k' hkl, e_cell_Of (hR.ok _ (List.getElem_mem _)), ob_some,
      cnd_t (inb _ k' hkt), lget_nat _ k' hkt, e_cell_Of (hok _ (List.getElem_mem _)), ob_some, cnd_t (inb _ k' hkm), lget_nat _ k' hkm, e_limit_Against, ob_some]
    have hac : band (ile 0 a) (ilt a (len t.caps)) = true := band_t (ile_t ha) (ilt_t (by simp only [len]; omega))
    rw [cnd_t (by rw [bor_T]; exact .inl hac), c_bnot, c_dec, e_limit_AgainstCap]
    have hst : stopP s t a y ↔ againstP (ofC s.cells[k']) (ofC t.cells[k']) t.limits[k'] ∨ capP (wholeZ (acctZ s.symbols s.cells a)) (wholeZ (acctZ s.symbols t.cells a)) (lget t.caps (itn a)) := by
      unfold stopP
      rw [← hk, lget_nat _ k' hkl, lget_nat _ k' hkt, lget_nat _ k' (by omega), hcp]
      simp only [hl]
    by_cases hx : againstP (ofC s.cells[k']) (ofC t.cells[k']) t.limits[k']
    · rw [if_pos hx, ob_some, decide_eq_true hx, bor_true, cnd_true, if_pos (hst.2 (.inl hx))]
    · rw [if_neg hx, ob_some, decide_eq_false hx, bor_false, c_dec]
      by_cases hz : capP (wholeZ (acctZ s.symbols s.cells a)) (wholeZ (acctZ s.symbols t.cells a)) (lget t.caps (itn a))
      · rw [if_pos hz, if_pos (hst.2 (.inr hz))]
      · rw [if_neg hz, if_neg fun h => (hst.1 h).elim hx hz]
  · rw [if_neg hw, if_pos hw]
    simp only [ieq_30, bnot_false, cnd_true]
theorem s_delete {l : List SOrder} {i : Nat} (hi : i < l.length) (hl : l.length < 1000) : F_slices_Delete_api_Order l i (wr IntKind.i64 (iadd i 1)) = some (l.eraseIdx i) := by
  rw [wr_succ (by omega)]
  unfold F_slices_Delete_api_Order
  have e1 : ltake (ldrop l (itn ((i + 1 : Nat) : Int))) (itn (isub (len l) ((i + 1 : Nat) : Int))) = l.drop (i + 1) := by
    simp only [ltake, ldrop, itn, isub, len, Int.toNat_natCast]
    rw [List.take_of_length_le (by simp; omega)]
  rw [e1]
  have e2 : nad (itn (i : Int)) (itn (len (l.drop (i + 1)))) = l.length - 1 := by simp [nad, itn, len]; omega
  simp only [e2]
  have e3 : (lcpy l (itn (i : Int)) (l.drop (i + 1))).length = l.length := by simp [lcpy, itn]; omega
  rw [cnd_t (by simp only [band_T, ile_T, len]; omega), cnd_f (by rw [ieq_F]; omega), cnd_t (by simp only [band_T, ile_T, len]; omega), cnd_t (by simp only [band_T, ile_T, len]; omega),
    cnd_t (by simp only [ile_T, len, nti, itn, iadd, List.length_drop, Int.toNat_natCast]; omega), cnd_t (by simp only [band_T, ile_T, len, nti, isub, e3]; omega)]
  congr 1
  simp only [ltake, ldrop, lcpy, itn, nad, nti, len, isub, Int.toNat_natCast, List.drop_zero, Nat.zero_add]
  rw [List.eraseIdx_eq_take_drop_succ]
  have e4 : (l.take i ++ (l.drop (i + 1) ++ l.drop (i + (l.drop (i + 1)).length))).take (l.length - 1) = l.take i ++ l.drop (i + 1) := by
    rw [← List.append_assoc, List.take_append_of_le_length (by simp; omega), List.take_of_length_le (by simp; omega)]
  rw [e4, List.take_append_of_le_length (by simp; omega), List.take_of_length_le (by simp; omega)]
structure TakeQ (o p : SOrder) (what q : Int) : Prop where
  ord : ordP p
  rng : Ok_order p
  id : p.id = o.id
  account : p.account = o.account
  symbol : p.symbol = o.symbol
  side : p.side = o.side
  opn : openZ p + (if what = 3 then q else 0) ≤ openZ o
  worth : worthZ p ≤ worthZ o
  phase : p.phase = 2 ∨ p.phase = 3
theorem done_ord {o : SOrder} (h : ordP o) : ordP (doneZ o) := by
  obtain ⟨h1, h2, h3, h4, h5, h6⟩ := h
  exact ⟨h1, h2, h3, h4, fun h => by simp [pendP, doneZ] at h, .inr (.inr ⟨rfl, by simp [pendP, doneZ]⟩)⟩
theorem done_rng {o : SOrder} (h : Ok_order o) : Ok_order (doneZ o) := ⟨h.id, h.account, h.symbol, h.side, h.qty, h.price, h.filled, (by decide : inI 3), (by decide : inI 0), (by decide : inI 0), h.version⟩
theorem done_open (o : SOrder) : openZ (doneZ o) = 0 ∧ worthZ (doneZ o) = 0 := ⟨rfl, rfl⟩
theorem take_done {o : SOrder} {what q : Int} (h : ordP o) (hr : Ok_order o) (hq : what = 3 → q ≤ openZ o) : TakeQ o (doneZ o) what q := by
  have := openZ_rng h hr
  have := worthZ_nn h
  refine ⟨done_ord h, done_rng hr, rfl, rfl, rfl, rfl, ?_, by rw [(done_open o).2]; omega, .inr rfl⟩
  rw [(done_open o).1]
  split
  · rename_i h3; have := hq h3; omega
  · omega
theorem openZ_ne {o : SOrder} (h : o.phase ≠ 3) : openZ o = max o.qty o.newQty - o.filled := by unfold openZ; rw [if_neg h]
theorem worthZ_ne {o : SOrder} (h : o.phase ≠ 3) : worthZ o = if o.newQty ≤ o.filled then (o.qty - o.filled) * o.price else max ((o.qty - o.filled) * o.price) ((o.newQty - o.filled) * o.newPrice) := by unfold worthZ; rw [if_neg h]
theorem mul_mono {a b c : Int} (h : a ≤ b) (hc : 0 ≤ c) : a * c ≤ b * c := Int.mul_le_mul_of_nonneg_right h hc
theorem take_q {o p : SOrder} {what q pr : Int} (h : ordP o) (hr : Ok_order o) (ht : takeZ o what q pr = some p) (h3 : what = 3 → 1 ≤ q) (h5 : what = 5 → 1 ≤ q ∧ 1 ≤ pr) (rq : inI q) (rp : inI pr) : TakeQ o p what q := by
  obtain ⟨g1, g2, g3, g4, g5, g6⟩ := id h
  have hb1 := g1.2.2.2.2.1
  have hb2 := g1.2.2.2.2.2
  have r1 := hr.qty; have r2 := hr.filled; have r3 := hr.newQty; have r4 := hr.newPrice
  unfold inI at r1 r2 r3
  unfold takeZ at ht
  by_cases p1 : o.phase = 1
  · rw [if_pos p1] at ht
    have hp : o.filled = 0 ∧ o.version = 0 ∧ ¬ pendP o := by
      rcases g6 with g | g | g
      · exact g.2
      · omega
      · omega
    by_cases k1 : what = 1
    · rw [if_pos k1] at ht
      cases ht
      refine ⟨⟨g1, g2, g3, g4, g5, .inr (.inl ⟨rfl, by show o.filled < o.qty; omega⟩)⟩, ⟨hr.id, hr.account, hr.symbol, hr.side, hr.qty, hr.price, hr.filled, (by decide : inI 2), hr.newQty, hr.newPrice, hr.version⟩, rfl, rfl, rfl, rfl, ?_, ?_, .inl rfl⟩
      · have e1 : openZ (phaseZ o 2) = max o.qty o.newQty - o.filled := openZ_ne (o := phaseZ o 2) (by show (2 : Int) ≠ 3; decide)
        rw [if_neg (by omega), e1, openZ_ne (o := o) (by omega)]; omega
      · have e1 : worthZ (phaseZ o 2) = if o.newQty ≤ o.filled then (o.qty - o.filled) * o.price else max ((o.qty - o.filled) * o.price) ((o.newQty - o.filled) * o.newPrice) := worthZ_ne (o := phaseZ o 2) (by show (2 : Int) ≠ 3; decide)
        rw [e1, worthZ_ne (o := o) (by omega)]; exact Int.le_refl _
    · rw [if_neg k1] at ht
      by_cases k2 : what = 2
      · rw [if_pos k2] at ht
        cases ht
        exact take_done h hr fun h => by omega
      · rw [if_neg k2] at ht; cases ht
  · rw [if_neg p1] at ht
    by_cases p2 : o.phase = 2
    · rw [if_pos p2] at ht
      have hlt : o.filled < o.qty := by rcases g6 with g | g | g <;> omega
      by_cases k3 : what = 3
      · rw [if_pos k3] at ht
        have hq1 := h3 k3
        by_cases c1 : o.qty - o.filled < q
        · rw [if_pos c1] at ht; cases ht
        · rw [if_neg c1] at ht
          have hoo : openZ o = max o.qty o.newQty - o.filled := by unfold openZ; rw [if_neg (by omega)]
          have hfl : ordP (liveZ o (o.filled + q)) ∨ ¬ (o.filled + q < o.qty) := by
            by_cases c2 : o.filled + q < o.qty
            · exact .inl ⟨g1, by show 0 ≤ o.filled + q; omega, by show o.filled + q ≤ o.qty; omega, g4, g5, .inr (.inl ⟨p2, c2⟩)⟩
            · exact .inr c2
          by_cases c2 : o.filled + q < o.qty
          · rw [if_pos c2] at ht
            cases ht
            refine ⟨hfl.resolve_right (by omega), ⟨hr.id, hr.account, hr.symbol, hr.side, hr.qty, hr.price, ⟨by show _ ≤ o.filled + q; omega, by show o.filled + q ≤ _; omega⟩, hr.phase, hr.newQty, hr.newPrice, hr.version⟩, rfl, rfl, rfl, rfl, ?_, ?_, .inl p2⟩
            · have e1 : openZ (liveZ o (o.filled + q)) = max o.qty o.newQty - (o.filled + q) := openZ_ne (o := liveZ o (o.filled + q)) (by show o.phase ≠ 3; omega)
              rw [if_pos k3, hoo, e1]; omega
            · have e1 : worthZ (liveZ o (o.filled + q)) = if o.newQty ≤ o.filled + q then (o.qty - (o.filled + q)) * o.price else max ((o.qty - (o.filled + q)) * o.price) ((o.newQty - (o.filled + q)) * o.newPrice) := worthZ_ne (o := liveZ o (o.filled + q)) (by show o.phase ≠ 3; omega)
              rw [e1, worthZ_ne (o := o) (by omega)]
              have m1 : (o.qty - (o.filled + q)) * o.price ≤ (o.qty - o.filled) * o.price := mul_mono (by omega) (by omega)
              by_cases n1 : o.newQty ≤ o.filled
              · rw [if_pos n1, if_pos (by omega)]; exact m1
              · have hnp := new_pos h (by omega)
                have m2 : (o.newQty - (o.filled + q)) * o.newPrice ≤ (o.newQty - o.filled) * o.newPrice := mul_mono (by omega) (by omega)
                rw [if_neg n1]
                split <;> omega
          · rw [if_neg c2] at ht
            cases ht
            have hod : ordP (doneZ (liveZ o (o.filled + q))) := by
              refine ⟨g1, by show 0 ≤ o.filled + q; omega, by show o.filled + q ≤ o.qty; omega, g4, fun h => by simp [pendP, doneZ] at h, .inr (.inr ⟨rfl, by simp [pendP, doneZ]⟩)⟩
            refine ⟨hod, ⟨hr.id, hr.account, hr.symbol, hr.side, hr.qty, hr.price, ⟨by show _ ≤ o.filled + q; omega, by show o.filled + q ≤ _; omega⟩, (by decide : inI 3), (by decide : inI 0), (by decide : inI 0), hr.version⟩, rfl, rfl, rfl, rfl, ?_, by rw [(done_open _).2]; exact worthZ_nn h, .inr rfl⟩
            rw [(done_open _).1, if_pos k3, hoo]; omega
      · rw [if_neg k3] at ht
        by_cases k4 : what = 4
        · rw [if_pos k4] at ht
          cases ht
          exact take_done h hr fun h => by omega
        · rw [if_neg k4] at ht
          have hoo : openZ o = max o.qty o.newQty - o.filled := by unfold openZ; rw [if_neg (by omega)]
          by_cases k5 : what = 5
          · rw [if_pos k5] at ht
            by_cases c1 : pendP o ∧ q = o.newQty ∧ pr = o.newPrice ∧ o.filled < q
            · rw [if_pos c1] at ht
              cases ht
              obtain ⟨c1, c2, c3, c4⟩ := c1
              obtain ⟨h51, h52⟩ := h5 k5
              refine ⟨⟨⟨g1.1, g1.2.1, g1.2.2.1, g1.2.2.2.1, h51, h52⟩, g2, by show o.filled ≤ q; omega, g4, fun h => by simp [pendP, replZ] at h, .inr (.inl ⟨p2, c4⟩)⟩, ⟨hr.id, hr.account, hr.symbol, hr.side, rq, rp, hr.filled, hr.phase, (by decide : inI 0), (by decide : inI 0), hr.version⟩, rfl, rfl, rfl, rfl, ?_, ?_, .inl p2⟩
              · have e1 : openZ (replZ o q pr) = max q 0 - o.filled := openZ_ne (o := replZ o q pr) (by show o.phase ≠ 3; omega)
                rw [if_neg k3, hoo, e1]; omega
              · have e1 : worthZ (replZ o q pr) = if 0 ≤ o.filled then (q - o.filled) * pr else max ((q - o.filled) * pr) ((0 - o.filled) * 0) := worthZ_ne (o := replZ o q pr) (by show o.phase ≠ 3; omega)
                rw [e1, worthZ_ne (o := o) (by omega), if_pos g2, if_neg (by omega), c2, c3]; exact Int.le_max_right _ _
            · rw [if_neg c1] at ht; cases ht
          · rw [if_neg k5] at ht
            by_cases k6 : what = 6
            · rw [if_pos k6] at ht
              by_cases c1 : pendP o
              · rw [if_pos c1] at ht
                cases ht
                refine ⟨⟨g1, g2, g3, g4, fun h => by simp [pendP, settledZ] at h, .inr (.inl ⟨p2, hlt⟩)⟩, ⟨hr.id, hr.account, hr.symbol, hr.side, hr.qty, hr.price, hr.filled, hr.phase, (by decide : inI 0), (by decide : inI 0), hr.version⟩, rfl, rfl, rfl, rfl, ?_, ?_, .inl p2⟩
                · have e1 : openZ (settledZ o) = max o.qty 0 - o.filled := openZ_ne (o := settledZ o) (by show o.phase ≠ 3; omega)
                  rw [if_neg k3, hoo, e1]; omega
                · have e1 : worthZ (settledZ o) = if 0 ≤ o.filled then (o.qty - o.filled) * o.price else max ((o.qty - o.filled) * o.price) ((0 - o.filled) * 0) := worthZ_ne (o := settledZ o) (by show o.phase ≠ 3; omega)
                  rw [e1, worthZ_ne (o := o) (by omega), if_pos g2]
                  split
                  · exact Int.le_refl _
                  · exact Int.le_max_left _ _
              · rw [if_neg c1] at ht; cases ht
            · rw [if_neg k6] at ht; cases ht
    · rw [if_neg p2] at ht; cases ht
theorem begin_ord {r : SRec} (h : recP r) (hk : r.kind = 1) : ordP (beginZ r) ∧ orderIn ⟨8, 8, [], [], [], [], false, 0, 0, 0⟩ (beginZ r) := by
  unfold recP knownP at h
  have h1 : begunP (beginZ r) := by unfold begunP beginZ; simp only; omega
  have h2 : ¬ pendP (beginZ r) := by simp [pendP, beginZ]
  have h3 : ordP (beginZ r) := ⟨h1, Int.le_refl _, by have := h1.2.2.2.2.1; show 0 ≤ (beginZ r).qty; omega, Int.le_refl _, fun h => absurd h h2, .inl ⟨rfl, rfl, rfl, h2⟩⟩
  exact ⟨h3, h3, by simp [beginZ], h1.2.1.2, h1.2.2.1.2⟩
theorem begin_rng {r : SRec} (h : Ok_recd r) : Ok_order (beginZ r) := ⟨h.order, h.account, h.symbol, h.side, h.qty, h.price, (by decide : inI 0), (by decide : inI 1), (by decide : inI 0), (by decide : inI 0), (by decide : inI 0)⟩
theorem change_ord {o : SOrder} {q p : Int} (h : ordP o) (hc : changeP o) (hq : 1 ≤ q) (hp : 1 ≤ p) : ordP (changeZ o q p) := by
  obtain ⟨g1, g2, g3, g4, g5, g6⟩ := id h
  obtain ⟨c1, c2, c3, c4⟩ := hc
  exact ⟨g1, g2, g3, by show 0 ≤ o.version + 1; omega, fun _ => ⟨hq, hp⟩, .inr (.inl ⟨c1, by rcases g6 with g | g | g <;> (show o.filled < o.qty) <;> omega⟩)⟩
theorem change_rng {o : SOrder} {q p : Int} (h : Ok_order o) (hc : changeP o) (hq : inI q) (hp : inI p) : Ok_order (changeZ o q p) := by
  have := h.version
  obtain ⟨c1, c2, c3, c4⟩ := hc
  unfold inI at this
  exact ⟨h.id, h.account, h.symbol, h.side, h.qty, h.price, h.filled, h.phase, hq, hp, ⟨by show _ ≤ o.version + 1; omega, by show o.version + 1 ≤ _; omega⟩⟩
theorem end_rng {o : SOrder} (h : Ok_order o) : Ok_order (endZ o) := ⟨h.id, h.account, h.symbol, h.side, h.qty, h.price, h.filled, h.phase, h.newQty, h.newPrice, h.version⟩
theorem clone_Order {l : List SOrder} (h : l.length < 1000000) : F_slices_Clone_api_Order l = some l := nilq_clone h
theorem clone_Cell {l : List SCell} (h : l.length < 1000000) : F_slices_Clone_api_Cell l = some l := nilq_clone h
theorem clone_Expo {l : List SExpo} (h : l.length < 1000000) : F_slices_Clone_api_Expo l = some l := nilq_clone h
theorem clone_int64 {l : List Int} (h : l.length < 1000000) : F_slices_Clone_int64 l = some l := nilq_clone h
theorem sized_of {s t : SState} (hs : sizedP s) (h1 : t.accounts = s.accounts) (h2 : t.symbols = s.symbols) (h3 : t.cells.length = s.cells.length) (h4 : t.limits.length = s.limits.length) (h5 : t.caps.length = s.caps.length) (h6 : t.orders.length ≤ 64) : sizedP t := by
  obtain ⟨a1, a2, a3, a4, a5, a6⟩ := hs
  unfold sizedP
  simp only [len] at *
  rw [h1, h2, h3, h4, h5]
  exact ⟨a1, a2, a3, a4, a5, h6⟩
/-- What is asked for: done, or what stands against it. -/
theorem e_ask {s t : SState} (hR : RightS s) (ht : sizedP t) (hn1 : t.accounts = s.accounts) (hn2 : t.symbols = s.symbols) (hl : t.limits = s.limits) (hcp : t.caps = s.caps) {k : Nat} {c : SCell} {a y : Int} (ha : 0 ≤ a) (ha2 : a < s.accounts) (hy : 0 ≤ y) (hy2 : y < s.symbols) (hk : (k : Int) = a * s.symbols + y) (hkl : k < s.cells.length)
    (hc : t.cells = s.cells.set k c) (hc2 : okC c) :
    Wq (F_book_ledger_bears t s a y) fun e => cnd (bnot (ieq e 0)) (some (s, e)) (some (⟨t.accounts, t.symbols, t.orders, t.cells, t.limits, t.caps, t.kill, t.last, t.seq, t.lsn + 1⟩, 0)) = some (askS s t a y) := by
  have hok : ∀ d ∈ t.cells, okC d := fun d hd => by
    rw [hc] at hd
    rcases List.mem_or_eq_of_mem_set hd with hd | rfl
    · exact hR.ok d hd
    · exact hc2
  rw [e_bears hR ht hn1 hn2 hl hcp hok ha ha2 hy hy2 hk hkl, w_some]
  have hf := fit_set hR hn1 hn2 ha ha2 hy hy2 hk hkl hc
  unfold askS
  by_cases hw : wholeZ (acctZ s.symbols t.cells a) ≤ 9223372036854775807
  · rw [if_neg (c := ¬ fitS t) (fun h => h (hf.2 ⟨hc2, hw⟩)), if_neg (c := ¬ wholeZ (acctZ s.symbols t.cells a) ≤ 9223372036854775807) (fun h => h hw)]
    by_cases hst : stopP s t a y
    · rw [if_pos hst, if_pos hst]; rfl
    · rw [if_neg hst, if_neg hst]; rfl
  · rw [if_pos (c := ¬ fitS t) (fun h => hw (hf.1 h).2), if_pos (c := ¬ wholeZ (acctZ s.symbols t.cells a) ≤ 9223372036854775807) hw]; rfl
theorem ask_bad {s t : SState} (hR : RightS s) (hn1 : t.accounts = s.accounts) (hn2 : t.symbols = s.symbols) {k : Nat} {c : SCell} {a y : Int} (ha : 0 ≤ a) (ha2 : a < s.accounts) (hy : 0 ≤ y) (hy2 : y < s.symbols) (hk : (k : Int) = a * s.symbols + y) (hkl : k < s.cells.length)
    (hc : t.cells = s.cells.set k c) (hc2 : ¬ okC c) : askS s t a y = (s, 3) := by
  unfold askS
  rw [if_pos fun h => hc2 ((fit_set hR hn1 hn2 ha ha2 hy hy2 hk hkl hc).1 h).1]
theorem sum_pos0 (n i : Int) : ∀ (l : List SOrder), (sumC n i l).pos = 0
  | [] => rfl
  | o :: l => by
    have h := sum_pos0 n i l
    have : (inC n i o).pos = 0 := by unfold inC wC; split <;> (try split) <;> rfl
    simp only [sumC, cadd, h, this]; rfl
theorem mkCells_mov {s s' : SState} (hsym : s'.symbols = s.symbols) {k : Nat} (hk : k < s.cells.length) {c d : SCell} (hc : s'.cells = s.cells.set k d) {l : List SOrder} (hE : mkCells s l = s.cells.set k c) :
    mkCells s' l = s.cells.set k ⟨d.pos, c.buy, c.sell, c.opn⟩ := by
  have e0 : mkCells s' l = (s.cells.set k d).mapIdx fun i c => cadd ⟨c.pos, 0, 0, 0⟩ (sumC s.symbols i l) := by unfold mkCells; rw [hsym, hc]
  rw [e0]
  refine List.ext_getElem (by simp) fun j h1 h2 => ?_
  have hj : j < s.cells.length := by simpa using h1
  rw [List.getElem_mapIdx, List.getElem_set, List.getElem_set]
  have hj2 : (mkCells s l)[j]'(by rw [mkCells_len]; exact hj) = (s.cells.set k c)[j]'(by simpa using hj) := by simp only [hE]
  rw [mkCells_get, List.getElem_set] at hj2
  by_cases e : k = j
  · subst e
    rw [if_pos rfl, if_pos rfl]
    rw [if_pos rfl] at hj2
    rw [← hj2]
    have := sum_pos0 s.symbols k l
    apply cell_ext <;> simp only [cadd] <;> omega
  · rw [if_neg e, if_neg e]
    rw [if_neg e] at hj2
    exact hj2
theorem set_set' {α : Type} (l : List α) (k : Nat) (a b : α) : (l.set k a).set k b = l.set k b := by simp
theorem lset_eq {α : Type} (l : List α) (k : Nat) (x : α) : lset l (itn (k : Int)) x = l.set k x := by simp [lset, itn]
theorem lset_eq' {α : Type} (l : List α) (k : Nat) (x : α) : lset l k x = l.set k x := rfl
theorem lget_eq' {α : Type} [Inhabited α] (l : List α) (k : Nat) (h : k < l.length) : lget l k = l[k] := by simp [lget, h]
theorem set_erase (l : List SOrder) (k : Nat) (p : SOrder) : (l.set k p).eraseIdx k = l.eraseIdx k := by
  simp [List.eraseIdx_set_eq]
theorem add_done {c : SCell} {p : SOrder} (h : p.phase = 3) : addC c p = c := by
  have h1 : openZ p = 0 := by unfold openZ; rw [if_pos h]
  have h2 : worthZ p = 0 := by unfold worthZ; rw [if_pos h]
  unfold addC; rw [h1, h2]; split <;> simp
theorem addC_pos (c : SCell) (o : SOrder) : (addC c o).pos = c.pos := by unfold addC; split <;> rfl
theorem subC_pos (c : SCell) (o : SOrder) : (subC c o).pos = c.pos := by unfold subC; split <;> rfl
/-- An event's cell: it comes to no more. -/
theorem ev_cell {s : SState} (hR : RightS s) (hr : Ok_state s) (m : Nat) (hm : m < s.orders.length) (k : Nat) (hk : k < s.cells.length) (ha : atZ s.symbols s.orders[m] = (k : Int)) {p : SOrder} {what q : Int} (hp : TakeQ s.orders[m] p what q) (hq : what = 3 → 1 ≤ q) :
    okC (addC (subC s.cells[k] s.orders[m]) p) ∧ (what = 3 → okC ⟨if s.orders[m].side = 1 then s.cells[k].pos + q else s.cells[k].pos - q, (addC (subC s.cells[k] s.orders[m]) p).buy, (addC (subC s.cells[k] s.orders[m]) p).sell, (addC (subC s.cells[k] s.orders[m]) p).opn⟩) := by
  have h0 := sub_ok hR hr m hm k hk ha
  have h1 := hR.ok s.cells[k] (List.getElem_mem _)
  have ho := (hR.fine.ords _ (List.getElem_mem hm)).1
  have hs := ho.1.2.2.2.1
  have hro := hr.orders.1 _ (List.getElem_mem hm)
  have b1 := openZ_rng hp.ord hp.rng
  have b2 := worthZ_nn hp.ord
  have b3 := hp.opn
  have b4 := hp.worth
  have b5 := hp.side
  rw [okC_iff] at h0 h1
  by_cases e : s.orders[m].side = 2
  · have ea : addC (subC s.cells[k] s.orders[m]) p = ⟨s.cells[k].pos, s.cells[k].buy, s.cells[k].sell - openZ s.orders[m] + openZ p, s.cells[k].opn - worthZ s.orders[m] + worthZ p⟩ := by
      unfold addC subC; rw [b5, if_pos e, if_pos e]
    have es : subC s.cells[k] s.orders[m] = ⟨s.cells[k].pos, s.cells[k].buy, s.cells[k].sell - openZ s.orders[m], s.cells[k].opn - worthZ s.orders[m]⟩ := by unfold subC; rw [if_pos e]
    rw [ea, if_neg (by omega)]
    rw [es] at h0
    refine ⟨?_, fun h3 => ?_⟩
    · rw [okC_iff]; unfold inI at *; simp only at *; split at b3 <;> omega
    · rw [if_pos h3] at b3
      have := hq h3
      rw [okC_iff]; unfold inI at *; simp only at *; omega
  · have ea : addC (subC s.cells[k] s.orders[m]) p = ⟨s.cells[k].pos, s.cells[k].buy - openZ s.orders[m] + openZ p, s.cells[k].sell, s.cells[k].opn - worthZ s.orders[m] + worthZ p⟩ := by
      unfold addC subC; rw [b5, if_neg e, if_neg e]
    have es : subC s.cells[k] s.orders[m] = ⟨s.cells[k].pos, s.cells[k].buy - openZ s.orders[m], s.cells[k].sell, s.cells[k].opn - worthZ s.orders[m]⟩ := by unfold subC; rw [if_neg e]
    rw [ea, if_pos (by omega)]
    rw [es] at h0
    refine ⟨?_, fun h3 => ?_⟩
    · rw [okC_iff]; unfold inI at *; simp only at *; split at b3 <;> omega
    · rw [if_pos h3] at b3
      have := hq h3
      rw [okC_iff]; unfold inI at *; simp only at *; omega
/-- What a state is behind an event, cell by cell. -/
theorem ev_cells {s : SState} (hR : RightS s) (m : Nat) (hm : m < s.orders.length) (k : Nat) (hk : k < s.cells.length) (ha : atZ s.symbols s.orders[m] = (k : Int)) {p : SOrder} (hp : atZ s.symbols p = (k : Int)) :
    mkCells s (if p.phase = 3 then s.orders.eraseIdx m else s.orders.set m p) = s.cells.set k (addC (subC s.cells[k] s.orders[m]) p) := by
  split
  · rename_i h; rw [mk_del hR m hm k hk ha, add_done h]
  · exact mk_put hR m hm p k hk ha hp
theorem ev_state {s : SState} (hR : RightS s) (r : SRec) (m : Nat) (hm : m < s.orders.length) (k : Nat) (hk : k < s.cells.length) (ha : atZ s.symbols s.orders[m] = (k : Int)) {p : SOrder} (hp : atZ s.symbols p = (k : Int)) :
    evS s r m p = ⟨s.accounts, s.symbols, if p.phase = 3 then s.orders.eraseIdx m else s.orders.set m p,
      s.cells.set k (if r.what = 3 then ⟨if s.orders[m].side = 1 then s.cells[k].pos + r.qty else s.cells[k].pos - r.qty, (addC (subC s.cells[k] s.orders[m]) p).buy, (addC (subC s.cells[k] s.orders[m]) p).sell, (addC (subC s.cells[k] s.orders[m]) p).opn⟩ else addC (subC s.cells[k] s.orders[m]) p),
      s.limits, s.caps, s.kill, s.last, r.seq, s.lsn + 1⟩ := by
  unfold evS
  rw [lget_eq' _ m hm, lset_eq']
  have hmk : ∀ s' : SState, s'.symbols = s.symbols → s'.cells = (if r.what = 3 then movC s s.orders[m] r.qty else s.cells) → mkCells s' (if p.phase = 3 then s.orders.eraseIdx m else s.orders.set m p) =
      s.cells.set k (if r.what = 3 then ⟨if s.orders[m].side = 1 then s.cells[k].pos + r.qty else s.cells[k].pos - r.qty, (addC (subC s.cells[k] s.orders[m]) p).buy, (addC (subC s.cells[k] s.orders[m]) p).sell, (addC (subC s.cells[k] s.orders[m]) p).opn⟩ else addC (subC s.cells[k] s.orders[m]) p) := by
    intro s' h1 h2
    by_cases h3 : r.what = 3
    · rw [if_pos h3] at h2 ⊢
      unfold movC at h2
      rw [ha, lget_nat _ k hk, lset_eq] at h2
      exact mkCells_mov h1 hk h2 (ev_cells hR m hm k hk ha hp)
    · rw [if_neg h3] at h2 ⊢
      have : mkCells s' (if p.phase = 3 then s.orders.eraseIdx m else s.orders.set m p) = mkCells s (if p.phase = 3 then s.orders.eraseIdx m else s.orders.set m p) := by
        unfold mkCells; rw [h1, h2]
      rw [this, ev_cells hR m hm k hk ha hp]
  exact congrArg (fun c => SState.mk s.accounts s.symbols (if p.phase = 3 then s.orders.eraseIdx m else s.orders.set m p) c s.limits s.caps s.kill s.last r.seq (s.lsn + 1)) (hmk ⟨s.accounts, s.symbols, s.orders, if r.what = 3 then movC s s.orders[m] r.qty else s.cells, s.limits, s.caps, s.kill, s.last, r.seq, s.lsn + 1⟩ rfl rfl)
theorem e_book_Do {s : SState} {r : SRec} (hr : Ok_state s) (hrr : Ok_recd r) (hl : s.orders.length < 999999) (hl2 : s.limits.length < 999999) (hl3 : s.caps.length < 999999) : F_book_Do s r = some (doS s r) := by
  obtain ⟨b1, e1, q1⟩ := s_rec_Right r
  obtain ⟨b2, e2, q2⟩ := s_book_Right s hr hl hl2 hl3
  have bad : ¬ mayP s r → doS s r = (s, 1) := fun h => by unfold doS; rw [if_pos h]
  by_cases hA : s.lsn < 1000000000 ∧ recP r ∧ RightS s
  case neg =>
    have hno : ¬ mayP s r := fun h => hA ⟨h.2.2.1, h.2.1, h.1⟩
    rw [bad hno]
    refine Wq.eq ?_
    unfold F_book_Do
    rw [e_num_Add hr.lsn (by decide), ob_some, w_bind]
    refine Wq.mono (Q := fun y1 => y1 = true → (inI (s.lsn + 1) ∧ s.lsn < 1000000000 ∧ recP r)) ?_ fun y1 h1 => ?_
    · rw [w_cnd]
      refine ⟨fun h => ?_, fun h => (w_some _).2 (by simp)⟩
      rw [e1, w_some]
      intro hb
      simp only [band_T, band_F, bor_T, bor_F, bnot_T, bnot_F, ilt_T, ilt_F, ile_T, ile_F, ieq_T, ieq_F, beq_T, beq_F] at h
      by_cases hin : inI (s.lsn + 1)
      · exact ⟨hin, by omega, q1.1 hb⟩
      · rw [if_neg hin] at h; simp at h
    rw [w_bind]
    refine Wq.mono (Q := fun y2 => y2 = true → (y1 = true ∧ RightS s)) ?_ fun y2 h2 => ?_
    · rw [w_cnd]
      refine ⟨fun h => ?_, fun h => (w_some _).2 (by simp)⟩
      rw [e2, w_some]
      intro hb
      simp only [band_T, band_F, bor_T, bor_F, bnot_T, bnot_F, ilt_T, ilt_F, ile_T, ile_F, ieq_T, ieq_F, beq_T, beq_F] at h
      exact ⟨by simpa using h.2, q2.1 hb⟩
    rw [w_cnd]
    refine ⟨fun _ => (w_some _).2 rfl, fun h => ?_⟩
    simp only [band_T, band_F, bor_T, bor_F, bnot_T, bnot_F, ilt_T, ilt_F, ile_T, ile_F, ieq_T, ieq_F, beq_T, beq_F] at h
    have g2 := h2 h.2
    have g1 := h1 g2.1
    exact absurd ⟨g1.2.1, g1.2.2, g2.2⟩ hA
  obtain ⟨hlsn, hrec, hR⟩ := hA
  obtain rfl := q1.2 hrec
  obtain rfl := q2.2 hR
  have hs := hR.sized
  obtain ⟨lc, ll, lcp, lo⟩ := hs.lens
  have hl0 := hR.fine.lsn
  have hq0 := hR.fine.seq
  have h1a := hs.1; have h1b := hs.2.1
  have good : r.account < s.accounts → r.symbol < s.symbols → (r.kind = 1 → s.last < r.order) → mayP s r := fun a b c => ⟨hR, hrec, hlsn, a, b, c⟩
  have hwr : wr IntKind.i64 (iadd s.lsn 1) = s.lsn + 1 := wr_lsn hl0.1 hlsn
  have hall : ∀ o ∈ s.orders, ordP o ∧ Ok_order o := fun o h => ⟨(hR.fine.ords o h).1, hr.orders.1 o h⟩
  unfold F_book_Do
  rw [e_num_Add hr.lsn (by decide), ob_some, if_pos (c := inI (s.lsn + 1)) ⟨by omega, by omega⟩]
  simp only [ieq_00, bnot_true, bor_false, ile_f (show ¬ (1000000000 : Int) ≤ s.lsn by omega), bnot_false, cnd_true, cnd_false, e1, e2, ob_some, clone_Order (l := s.orders) (by omega), clone_Cell (l := s.cells) (by omega), clone_Expo (l := s.limits) (by omega), clone_int64 (l := s.caps) (by omega), hwr]
  have eta : (SState.mk s.accounts s.symbols s.orders s.cells s.limits s.caps s.kill s.last s.seq s.lsn) = s := rfl
  simp only [eta]
  by_cases k1 : r.kind = 1
  · rw [cnd_t (by rw [ieq_T]; exact k1), e_order_Begin hrec k1, ob_some]
    by_cases c1 : r.order ≤ s.last
    · rw [bad fun h => by have := h.2.2.2.2.2 k1; omega]
      simp only [ile_t c1, cnd_true]
    by_cases c2 : s.accounts ≤ r.account
    · rw [bad fun h => by have := h.2.2.2.1; omega]
      simp only [ile_f c1, ile_t c2, cnd_true, cnd_false]
    by_cases c3 : s.symbols ≤ r.symbol
    · rw [bad fun h => by have := h.2.2.2.2.1; omega]
      simp only [ile_f c1, ile_f c2, ile_t c3, cnd_true, cnd_false]
    simp only [ile_f c1, ile_f c2, ile_f c3, cnd_false]
    have hm := good (by omega) (by omega) fun _ => by omega
    unfold doS
    rw [if_neg (fun h : ¬ mayP s r => h hm), if_pos k1]
    by_cases hk : s.kill = true
    · rw [if_pos hk, cnd_t hk]
    rw [if_neg hk, cnd_f (by simpa using hk), c_ieq]
    by_cases h64 : s.orders.length = 64
    · rw [if_pos (show len s.orders = 64 by simp only [len]; omega), if_pos h64]
    rw [if_neg (show ¬ len s.orders = 64 by simp only [len]; omega), if_neg h64]
    obtain ⟨ho, ho2⟩ := begin_ord hrec k1
    have hro := begin_rng hrr
    have hrec' := hrec
    unfold recP at hrec'
    have hra : 0 ≤ r.account ∧ 0 ≤ r.symbol := by omega
    obtain ⟨k, g1, g2, g3⟩ := s_cellOf hs r.account r.symbol hra.1 (by omega) hra.2 (by omega)
    have hat : atZ s.symbols (beginZ r) = (k : Int) := g2.symm
    have hmk := mk_app hR (beginZ r) k g3 hat
    rw [show F_book_ledger_cellOf s (beginZ r).account (beginZ r).symbol = some (k : Int) from g1, ob_some, cnd_t (inb _ k g3), lget_nat _ k g3, e_cell_Come (hR.ok _ (List.getElem_mem _)) ho hro, ob_some]
    have hcells : mkCells s (lapp s.orders [beginZ r]) = s.cells.set k (addC s.cells[k] (beginZ r)) := hmk
    by_cases hok : okC (addC s.cells[k] (beginZ r))
    · rw [if_pos hok]
      simp only [ieq_00, bnot_true, cnd_false]
      rw [cnd_t (ile_t (by simp [len, lapp]; omega)), lset_eq, ← hcells]
      have ht : sizedP ⟨s.accounts, s.symbols, lapp s.orders [beginZ r], mkCells s (lapp s.orders [beginZ r]), s.limits, s.caps, s.kill, (beginZ r).id, s.seq, s.lsn⟩ := sized_of hs rfl rfl (mkCells_len _ _) rfl rfl (by simp [lapp]; omega)
      obtain ⟨e, he, hq⟩ := e_ask (a := r.account) (y := r.symbol) hR ht rfl rfl rfl rfl hra.1 (by omega) hra.2 (by omega) g2 g3 hcells hok
      rw [show F_book_ledger_bears _ s (beginZ r).account (beginZ r).symbol = some e from he, ob_some]
      exact hq
    · rw [if_neg hok]
      simp only [ieq_30, bnot_false, cnd_true]
      rw [ask_bad (t := ⟨s.accounts, s.symbols, lapp s.orders [beginZ r], mkCells s (lapp s.orders [beginZ r]), s.limits, s.caps, s.kill, r.order, s.seq, s.lsn⟩) hR rfl rfl hra.1 (by omega) hra.2 (by omega) g2 g3 hcells hok]
  rw [cnd_f (by rw [ieq_F]; exact k1)]
  by_cases k2 : r.kind = 2
  · rw [cnd_t (by rw [ieq_T]; exact k2), e_book_Find s r.order (by omega), ob_some]
    have hrec' := hrec
    unfold recP at hrec'
    have hra : r.account = 0 ∧ r.symbol = 0 ∧ 1 ≤ r.qty ∧ 1 ≤ r.price := by omega
    have hm := good (by omega) (by omega) fun h => absurd h k1
    unfold doS
    rw [if_neg (fun h : ¬ mayP s r => h hm), if_neg k1, if_pos k2]
    cases hf : findZ s.orders r.order with
    | none =>
      rw [findI_none hf, cnd_t (by decide)]
    | some m =>
      rw [findI_some hf, cnd_f (by rw [ieq_F]; omega)]
      obtain ⟨hm1, hm2⟩ := findZ_some hf
      simp only [cnd_t (inb _ m hm1), lget_nat _ m hm1, lget_eq' _ m hm1]
      obtain ⟨ho, hro⟩ := hall s.orders[m] (List.getElem_mem _)
      obtain ⟨ch, ce, cq1, cq2⟩ := s_order_Change ho hro hra.2.2.1 hra.2.2.2
      rw [ce, ob_some]
      by_cases hch : changeP s.orders[m]
      case neg =>
        rw [if_pos hch, cnd_t (by rw [bnot_T, ieq_F]; exact cq2 hch)]
      rw [if_neg (fun h : ¬ changeP s.orders[m] => h hch)]
      obtain rfl := cq1 hch
      simp only [ieq_00, bnot_true, cnd_false]
      by_cases hk : s.kill = true
      · rw [if_pos hk, cnd_t hk]
      rw [if_neg hk, cnd_f (by simpa using hk)]
      obtain ⟨k, g1, g2, g3⟩ := at_rng hs (hR.fine.ords _ (List.getElem_mem hm1))
      have hpo := change_ord ho hch hra.2.2.1 hra.2.2.2
      have hpr := change_rng hro hch hrr.qty hrr.price
      have hat : atZ s.symbols (changeZ s.orders[m] r.qty r.price) = (k : Int) := g2
      have hsub := sub_ok hR hr m hm1 k g3 g2
      have hcells : mkCells s (lset s.orders m (changeZ s.orders[m] r.qty r.price)) = s.cells.set k (addC (subC s.cells[k] s.orders[m]) (changeZ s.orders[m] r.qty r.price)) := mk_put hR m hm1 _ k g3 g2 hat
      rw [g1, ob_some, cnd_t (inb _ k g3), lget_nat _ k g3, e_cell_Go (hR.ok _ (List.getElem_mem _)) ho hro hsub, ob_some, e_cell_Come hsub hpo hpr, ob_some]
      have hoa := (hR.fine.ords _ (List.getElem_mem hm1))
      have hob := ho.1
      by_cases hok : okC (addC (subC s.cells[k] s.orders[m]) (changeZ s.orders[m] r.qty r.price))
      · rw [if_pos hok]
        simp only [ieq_00, bnot_true, cnd_false]
        rw [lset_eq s.cells, lset_eq s.orders, ← lset_eq' s.orders, ← hcells]
        have ht : sizedP (withS s (lset s.orders m (changeZ s.orders[m] r.qty r.price))) := sized_of hs rfl rfl (mkCells_len _ _) rfl rfl (by show (lset _ _ _).length ≤ 64; rw [lset_len]; omega)
        obtain ⟨e, he, hq⟩ := e_ask (a := s.orders[m].account) (y := s.orders[m].symbol) hR ht rfl rfl rfl rfl hob.2.1.1 hoa.2.2.1 hob.2.2.1.1 hoa.2.2.2 g2.symm g3 hcells hok
        have he' : F_book_ledger_bears ⟨s.accounts, s.symbols, lset s.orders m (changeZ s.orders[m] r.qty r.price), mkCells s (lset s.orders m (changeZ s.orders[m] r.qty r.price)), s.limits, s.caps, s.kill, s.last, s.seq, s.lsn⟩ s s.orders[m].account s.orders[m].symbol = some e := he
        rw [he', ob_some]
        exact hq
      · rw [if_neg hok]
        simp only [ieq_30, bnot_false, cnd_true]
        rw [ask_bad (t := withS s (lset s.orders m (changeZ s.orders[m] r.qty r.price))) hR rfl rfl hob.2.1.1 hoa.2.2.1 hob.2.2.1.1 hoa.2.2.2 g2.symm g3 hcells hok]
  rw [cnd_f (by rw [ieq_F]; exact k2)]
  by_cases k3 : r.kind = 3
  · rw [cnd_t (by rw [ieq_T]; exact k3), e_book_Find s r.order (by omega), ob_some]
    have hrec' := hrec
    unfold recP at hrec'
    have hra : r.account = 0 ∧ r.symbol = 0 := by omega
    have hm := good (by omega) (by omega) fun h => absurd h k1
    unfold doS
    rw [if_neg (fun h : ¬ mayP s r => h hm), if_neg k1, if_neg k2, if_pos k3]
    cases hf : findZ s.orders r.order with
    | none =>
      rw [findI_none hf, cnd_t (by decide)]
    | some m =>
      rw [findI_some hf, cnd_f (by rw [ieq_F]; omega)]
      obtain ⟨hm1, hm2⟩ := findZ_some hf
      have hoi := hR.fine.ords _ (List.getElem_mem hm1)
      simp only [cnd_t (inb _ m hm1), lget_nat _ m hm1, lget_eq' _ m hm1]
      rw [e_order_End hoi.1 hoi.2.1, ob_some]
      by_cases ha : s.orders[m].asked = true
      · rw [if_pos ha, if_pos ha]; rfl
      · rw [if_neg ha, if_neg ha, lset_eq]; rfl
  rw [cnd_f (by rw [ieq_F]; exact k3)]
  by_cases k4 : r.kind = 4
  · rw [cnd_t (by rw [ieq_T]; exact k4)]
    have hrec' := hrec
    unfold recP at hrec'
    by_cases c2 : s.accounts ≤ r.account
    · rw [bad fun h => by have := h.2.2.2.1; omega]
      simp only [ile_t c2, cnd_true]
    by_cases c3 : s.symbols ≤ r.symbol
    · rw [bad fun h => by have := h.2.2.2.2.1; omega]
      simp only [ile_f c2, ile_t c3, cnd_true, cnd_false]
    simp only [ile_f c2, ile_f c3, cnd_false]
    have hm := good (by omega) (by omega) fun h => absurd h k1
    unfold doS
    rw [if_neg (fun h : ¬ mayP s r => h hm), if_neg k1, if_neg k2, if_neg k3, if_pos k4, c_ieq]
    by_cases hy : r.symbol = -1
    · rw [if_pos hy, if_pos hy, cnd_t (band_t (ile_t (by omega)) (ilt_t (by simp only [len]; omega)))]
    · rw [if_neg hy, if_neg hy]
      obtain ⟨k, g1, g2, g3⟩ := s_cellOf hs r.account r.symbol (by omega) (by omega) (by omega) (by omega)
      have g4 : k < s.limits.length := by omega
      rw [g1, ob_some, cnd_t (inb _ k g4), g2]
  rw [cnd_f (by rw [ieq_F]; exact k4)]
  by_cases k5 : r.kind = 5
  · rw [cnd_t (by rw [ieq_T]; exact k5)]
    have hrec' := hrec
    unfold recP at hrec'
    have hra : r.account = 0 ∧ r.symbol = 0 := by omega
    have hm := good (by omega) (by omega) fun h => absurd h k1
    unfold doS
    rw [if_neg (fun h : ¬ mayP s r => h hm), if_neg k1, if_neg k2, if_neg k3, if_neg k4, if_pos k5]
  rw [cnd_f (by rw [ieq_F]; exact k5)]
  have hrec' := hrec
  unfold recP at hrec'
  have hra : r.account = 0 ∧ r.symbol = 0 := by omega
  have hm := good (by omega) (by omega) fun h => absurd h k1
  unfold doS
  rw [if_neg (fun h : ¬ mayP s r => h hm), if_neg k1, if_neg k2, if_neg k3, if_neg k4, if_neg k5]
  have hws : wr IntKind.i64 (iadd s.seq 1) = s.seq + 1 := by unfold iadd; exact wr_small (by omega) (by omega)
  rw [hws, c_bnot, c_ieq]
  by_cases c1 : r.seq = s.seq + 1
  case neg =>
    rw [if_neg c1, if_pos c1]
  rw [if_pos c1, if_neg (fun h : r.seq ≠ s.seq + 1 => h c1), e_book_Find _ r.order (by show s.orders.length < _; omega), ob_some]
  show cnd (ieq (findI s.orders r.order) (-1)) _ _ = _
  cases hf : findZ s.orders r.order with
  | none =>
    rw [findI_none hf, cnd_t (by decide)]
  | some m =>
    rw [findI_some hf, cnd_f (by rw [ieq_F]; omega)]
    obtain ⟨hm1, hm2⟩ := findZ_some hf
    simp only [cnd_t (inb _ m hm1), lget_nat _ m hm1, lget_eq' _ m hm1]
    obtain ⟨ho, hro⟩ := hall s.orders[m] (List.getElem_mem _)
    have hnote : recP (noteR ⟨r.seq, r.what, r.order, r.qty, r.price⟩) := by
      have k6 : r.kind = 6 := by omega
      refine .inr (.inr (.inr (.inr (.inr ⟨rfl, ?_⟩))))
      rcases hrec with h | h | h | h | h | h
      · omega
      · omega
      · omega
      · omega
      · omega
      · exact ⟨h.2.1, rfl, rfl, rfl, rfl, rfl, rfl, rfl, h.2.2.2.2.2.2.2.2.2⟩
    rw [e_order_Take ho hro hnote hm2.symm hrr.qty]
    cases ht : takeZ s.orders[m] r.what r.qty r.price with
    | none =>
      simp only [ob_some]
      rw [cnd_t (by decide)]
    | some p =>
      simp only [ob_some, ieq_00, bnot_true, cnd_false]
      have hq3 : r.what = 3 → 1 ≤ r.qty := fun h => by omega
      have hp := take_q ho hro ht hq3 (fun h => by omega) hrr.qty hrr.price
      obtain ⟨k, g1, g2, g3⟩ := at_rng hs (hR.fine.ords _ (List.getElem_mem hm1))
      have hat : atZ s.symbols p = (k : Int) := by unfold atZ; rw [hp.account, hp.symbol]; exact g2
      have hsub := sub_ok hR hr m hm1 k g3 g2
      obtain ⟨hev1, hev2⟩ := ev_cell hR hr m hm1 k g3 g2 hp hq3
      rw [show F_book_ledger_cellOf (SState.mk s.accounts s.symbols s.orders s.cells s.limits s.caps s.kill s.last r.seq s.lsn) s.orders[m].account s.orders[m].symbol = some (k : Int) from g1, ob_some, cnd_t (inb _ k g3), lget_nat _ k g3,
        e_cell_Go (hR.ok _ (List.getElem_mem _)) ho hro hsub, ob_some]
      simp only [lset_eq, set_set']
      have gk : ∀ c : SCell, lget (s.cells.set k c) (itn (k : Int)) = c := fun c => by rw [lget_nat _ k (by simpa using g3), List.getElem_set_self]
      rw [gk, e_cell_Come hsub hp.ord hp.rng, if_pos hev1, ob_some, gk, ev_state hR r m hm1 k g3 g2 hat]
      have hdel := s_delete (l := s.orders.set m p) (i := m) (by simpa using hm1) (by simp; omega)
      rw [set_erase] at hdel
      simp only [hdel, ob_some, c_ieq]
      by_cases h3 : r.what = 3
      · rw [if_pos h3, if_pos h3]
        have hside := ho.1.2.2.2.1
        have e1 : (addC (subC s.cells[k] s.orders[m]) p).pos = s.cells[k].pos := by rw [addC_pos, subC_pos]
        have hn := hev2 h3
        rw [← e1] at hn
        rw [e_cell_Did hev1 hside (by have := hq3 h3; omega) hrr.qty hn, ob_some, e1]
        split <;> rfl
      · rw [if_neg h3, if_neg h3]
        split <;> rfl
theorem mk_pos (s : SState) (l : List SOrder) (j : Nat) (h : j < (mkCells s l).length) : (mkCells s l)[j].pos = (s.cells[j]'(by simpa [mkCells] using h)).pos := by
  rw [mkCells_get]
  have := sum_pos0 s.symbols j l
  simp only [cadd]; omega
theorem mk_idem {s t : SState} (h1 : t.symbols = s.symbols) {l : List SOrder} (h2 : t.cells = mkCells s l) : t.cells = mkCells t l := by
  have e0 : mkCells t l = (mkCells s l).mapIdx fun i c => cadd ⟨c.pos, 0, 0, 0⟩ (sumC s.symbols i l) := by unfold mkCells; rw [h1, h2]; rfl
  rw [e0, h2]
  refine List.ext_getElem (by simp) fun j g1 g2 => ?_
  rw [List.getElem_mapIdx, mk_pos, mkCells_get]
theorem asc_app {l : List SOrder} {o : SOrder} (h : ascP l) (ho : ∀ x ∈ l, x.id < o.id) : ascP (l ++ [o]) := by
  unfold ascP at *
  rw [List.pairwise_append]
  refine ⟨h, by simp, fun a ha b hb => ?_⟩
  rw [List.mem_singleton] at hb
  subst hb
  exact ho a ha
theorem asc_set {l : List SOrder} {m : Nat} (hm : m < l.length) {p : SOrder} (h : ascP l) (hp : p.id = l[m].id) : ascP (l.set m p) := by
  unfold ascP at *
  rw [List.pairwise_iff_getElem] at *
  intro i j hi hj hij
  have hi' : i < l.length := by simpa using hi
  have hj' : j < l.length := by simpa using hj
  have h0 := h i j hi' hj' hij
  rw [List.getElem_set, List.getElem_set]
  split
  · rename_i e; subst e
    rw [if_neg (by omega), hp]; exact h0
  · split
    · rename_i e; subst e
      rw [hp]; exact h0
    · exact h0
theorem asc_erase {l : List SOrder} (m : Nat) (h : ascP l) : ascP (l.eraseIdx m) := List.Pairwise.sublist (List.eraseIdx_sublist _ _) h
theorem whole_le {l m : List SCell} (hl : l.length = m.length) (h : ∀ (i : Nat) (h1 : i < l.length) (h2 : i < m.length), l[i].opn ≤ m[i].opn) : wholeZ l ≤ wholeZ m := by
  induction l generalizing m with
  | nil => cases m with
    | nil => exact Int.le_refl _
    | cons a r => simp at hl
  | cons a l ih => cases m with
    | nil => simp at hl
    | cons b m =>
      have h0 := h 0 (by simp) (by simp)
      have := ih (m := m) (by simpa using hl) fun i h1 h2 => by
        have := h (i + 1) (by simp; omega) (by simp; omega)
        simpa using this
      unfold wholeZ at *
      simp only [List.map_cons, List.sum_cons, List.getElem_cons_zero] at *
      omega
theorem acct_le {n : Int} {cs ds : List SCell} (hl : cs.length = ds.length) (h : ∀ (i : Nat) (h1 : i < cs.length) (h2 : i < ds.length), cs[i].opn ≤ ds[i].opn) (a : Int) : wholeZ (acctZ n cs a) ≤ wholeZ (acctZ n ds a) := by
  unfold acctZ
  refine whole_le (by simp [hl]) fun i h1 h2 => ?_
  rw [List.getElem_take, List.getElem_take, List.getElem_drop, List.getElem_drop]
  exact h _ _ _
theorem set_le {cs : List SCell} {k : Nat} {c : SCell} (hk : k < cs.length) (hc : c.opn ≤ cs[k].opn) (i : Nat) (h1 : i < (cs.set k c).length) (h2 : i < cs.length) : (cs.set k c)[i].opn ≤ cs[i].opn := by
  rw [List.getElem_set]
  split
  · rename_i e; subst e; exact hc
  · exact Int.le_refl _
theorem ids_lt {s : SState} (hR : RightS s) {r : SRec} (h : s.last < r.order) : ∀ x ∈ s.orders, x.id < (beginZ r).id := fun x hx => by
  have := hR.fine.ids x hx
  show x.id < r.order; omega
theorem mem_set_cases {α : Type} {l : List α} {m : Nat} {p x : α} (h : x ∈ l.set m p) : x ∈ l ∨ x = p := List.mem_or_eq_of_mem_set h
/-- Asked for, and done: right. -/
theorem ask_right {s t : SState} (hR : RightS s) (h1 : t.accounts = s.accounts) (h2 : t.symbols = s.symbols) (hl : t.limits = s.limits) (hc : t.caps = s.caps) (hq : t.seq = s.seq) (hls : t.lsn = s.lsn) (hlsn : s.lsn < 1000000000)
    (ht : t.cells = mkCells s t.orders) (ho : ∀ o ∈ t.orders, orderIn s o) (has : ascP t.orders) (hid : ∀ o ∈ t.orders, o.id ≤ t.last) (hla : 0 ≤ t.last ∧ t.last ≤ 1000000000000) (hlen : t.orders.length ≤ 64) (a y : Int) :
    RightS (askS s t a y).1 := by
  unfold askS
  split
  · exact hR
  · rename_i hf
    have hf : fitS t := Classical.not_not.1 hf
    split
    · exact hR
    · have hcl : t.cells.length = s.cells.length := by rw [ht, mkCells_len]
      have hz := hR.fine
      refine ⟨sized_of hR.sized h1 h2 hcl (by rw [hl]) (by rw [hc]) hlen, ⟨fun o h => ?_, has, hid, hla, by rw [hq]; exact hz.seq, ?_, by rw [hl]; exact hz.lims, by rw [hc]; exact hz.caps⟩, ?_, hf.1, hf.2⟩
      · obtain ⟨g1, g2, g3, g4⟩ := ho o h
        exact ⟨g1, g2, by show o.account < t.accounts; omega, by show o.symbol < t.symbols; omega⟩
      · have := hz.lsn
        show 0 ≤ t.lsn + 1 ∧ t.lsn + 1 ≤ 1000000000
        omega
      · have := mk_idem h2 ht
        exact this
theorem doS_right {s : SState} {r : SRec} (hR : RightS s) (hr : Ok_state s) (hrr : Ok_recd r) : RightS (doS s r).1 := by
  unfold doS
  split
  · exact hR
  rename_i hm
  have hm : mayP s r := Classical.not_not.1 hm
  obtain ⟨_, hrec, hlsn, hacc, hsym, hord⟩ := hm
  have hz := hR.fine
  have hs := hR.sized
  obtain ⟨lc, ll, lcp, lo⟩ := hs.lens
  have hl0 := hz.lsn
  have hrec' := hrec
  unfold recP knownP at hrec'
  split
  · rename_i k1
    split
    · exact hR
    split
    · exact hR
    · rename_i h64
      obtain ⟨g1, g2⟩ := begin_ord hrec k1
      refine ask_right (t := ⟨s.accounts, s.symbols, lapp s.orders [beginZ r], mkCells s (lapp s.orders [beginZ r]), s.limits, s.caps, s.kill, r.order, s.seq, s.lsn⟩) hR rfl rfl rfl rfl rfl rfl hlsn rfl (fun o h => ?_) (asc_app hz.asc (ids_lt hR (hord k1))) (fun o h => ?_) (by show 0 ≤ r.order ∧ r.order ≤ _; omega) (by show (s.orders ++ [_]).length ≤ 64; simp; omega) _ _
      · rcases List.mem_append.1 h with h | h
        · exact hz.ords o h
        · rw [List.mem_singleton] at h
          subst h
          exact ⟨g1, by simp [beginZ], hacc, hsym⟩
      · rcases List.mem_append.1 h with h | h
        · have := ids_lt hR (hord k1) o h
          show o.id ≤ r.order
          exact Int.le_of_lt this
        · rw [List.mem_singleton] at h
          subst h; exact Int.le_refl _
  split
  · rename_i k1 k2
    split
    · exact hR
    rename_i m hf
    obtain ⟨hm1, hm2⟩ := findZ_some hf
    simp only [lget_eq' _ m hm1]
    split
    · exact hR
    rename_i hch
    have hch : changeP s.orders[m] := Classical.not_not.1 hch
    split
    · exact hR
    have hoi := hz.ords _ (List.getElem_mem hm1)
    have hpo := change_ord (q := r.qty) (p := r.price) hoi.1 hch (by omega) (by omega)
    refine ask_right (t := withS s (lset s.orders m (changeZ s.orders[m] r.qty r.price))) hR rfl rfl rfl rfl rfl rfl hlsn rfl (fun o h => ?_) (asc_set hm1 hz.asc rfl) (fun o h => ?_) hz.last (by show (s.orders.set _ _).length ≤ 64; simp; omega) _ _
    · rcases mem_set_cases h with h | rfl
      · exact hz.ords o h
      · exact ⟨hpo, by show s.orders[m].phase ≠ 3; exact hoi.2.1, hoi.2.2.1, hoi.2.2.2⟩
    · rcases mem_set_cases h with h | rfl
      · exact hz.ids o h
      · exact hz.ids s.orders[m] (List.getElem_mem hm1)
  split
  · rename_i k1 k2 k3
    split
    · exact hR
    rename_i m hf
    obtain ⟨hm1, hm2⟩ := findZ_some hf
    simp only [lget_eq' _ m hm1]
    split
    · exact hR
    have hoi := hz.ords _ (List.getElem_mem hm1)
    refine ⟨sized_of hs rfl rfl rfl rfl rfl (by show (s.orders.set _ _).length ≤ 64; simp; omega), ⟨fun o h => ?_, asc_set hm1 hz.asc rfl, fun o h => ?_, hz.last, hz.seq, ⟨by show 0 ≤ s.lsn + 1; omega, by show s.lsn + 1 ≤ _; omega⟩, hz.lims, hz.caps⟩, ?_, hR.ok, hR.acct⟩
    · rcases mem_set_cases h with h | rfl
      · exact hz.ords o h
      · exact ⟨hoi.1, hoi.2.1, hoi.2.2.1, hoi.2.2.2⟩
    · rcases mem_set_cases h with h | rfl
      · exact hz.ids o h
      · exact hz.ids s.orders[m] (List.getElem_mem hm1)
    · have e : ∀ j : Nat, sumC s.symbols j (s.orders.set m (endZ s.orders[m])) = sumC s.symbols j s.orders := fun j => by
        rw [sumC_set _ _ _ _ hm1, sumC_split _ _ _ _ hm1]; rfl
      refine hR.cells.trans ?_
      unfold mkCells
      simp only [lset_eq', e]
  split
  · rename_i k1 k2 k3 k4
    split
    · rename_i hy
      refine ⟨sized_of hs rfl rfl rfl rfl (lset_len _ _ _) lo, ⟨hz.ords, hz.asc, hz.ids, hz.last, hz.seq, ⟨by show 0 ≤ s.lsn + 1; omega, by show s.lsn + 1 ≤ _; omega⟩, hz.lims, fun x hx => ?_⟩, hR.cells, hR.ok, hR.acct⟩
      rcases mem_set_cases hx with h | rfl
      · exact hz.caps x h
      · omega
    · rename_i hy
      refine ⟨sized_of hs rfl rfl rfl (lset_len _ _ _) rfl lo, ⟨hz.ords, hz.asc, hz.ids, hz.last, hz.seq, ⟨by show 0 ≤ s.lsn + 1; omega, by show s.lsn + 1 ≤ _; omega⟩, fun x hx => ?_, hz.caps⟩, hR.cells, hR.ok, hR.acct⟩
      rcases mem_set_cases hx with h | rfl
      · exact hz.lims x h
      · unfold limP; simp only; omega
  split
  · exact ⟨sized_of hs rfl rfl rfl rfl rfl lo, ⟨hz.ords, hz.asc, hz.ids, hz.last, hz.seq, ⟨by show 0 ≤ s.lsn + 1; omega, by show s.lsn + 1 ≤ _; omega⟩, hz.lims, hz.caps⟩, hR.cells, hR.ok, hR.acct⟩
  split
  · exact hR
  rename_i k1 k2 k3 k4 k5 hseq
  have hseq : r.seq = s.seq + 1 := Classical.not_not.1 hseq
  have hrs : 0 ≤ r.seq ∧ r.seq ≤ 1000000000 := by omega
  split
  · exact ⟨sized_of hs rfl rfl rfl rfl rfl lo, ⟨hz.ords, hz.asc, hz.ids, hz.last, hrs, ⟨by show 0 ≤ s.lsn + 1; omega, by show s.lsn + 1 ≤ _; omega⟩, hz.lims, hz.caps⟩, hR.cells, hR.ok, hR.acct⟩
  rename_i m hf
  obtain ⟨hm1, hm2⟩ := findZ_some hf
  simp only [lget_eq' _ m hm1]
  split
  · exact ⟨sized_of hs rfl rfl rfl rfl rfl lo, ⟨hz.ords, hz.asc, hz.ids, hz.last, hrs, ⟨by show 0 ≤ s.lsn + 1; omega, by show s.lsn + 1 ≤ _; omega⟩, hz.lims, hz.caps⟩, hR.cells, hR.ok, hR.acct⟩
  rename_i p ht
  have hoi := hz.ords _ (List.getElem_mem hm1)
  have hro := hr.orders.1 _ (List.getElem_mem hm1)
  have hq3 : r.what = 3 → 1 ≤ r.qty := fun h => by omega
  have hp := take_q hoi.1 hro ht hq3 (fun h => by omega) hrr.qty hrr.price
  obtain ⟨k, g1, g2, g3⟩ := at_rng hs hoi
  have hat : atZ s.symbols p = (k : Int) := by unfold atZ; rw [hp.account, hp.symbol]; exact g2
  obtain ⟨hev1, hev2⟩ := ev_cell hR hr m hm1 k g3 g2 hp hq3
  have hcells : (evS s r m p).cells = mkCells (evS s r m p) (evS s r m p).orders := mk_idem (s := ⟨s.accounts, s.symbols, s.orders, if r.what = 3 then movC s (lget s.orders m) r.qty else s.cells, s.limits, s.caps, s.kill, s.last, r.seq, s.lsn + 1⟩) (t := evS s r m p) rfl (l := (evS s r m p).orders) rfl
  have hst := ev_state hR r m hm1 k g3 g2 hat
  refine ⟨?_, ?_, hcells, ?_, ?_⟩
  · rw [hst]
    refine sized_of hs rfl rfl (by simp) rfl rfl ?_
    show (if p.phase = 3 then s.orders.eraseIdx m else s.orders.set m p).length ≤ 64
    split
    · have := List.length_eraseIdx_le s.orders m; omega
    · simp; omega
  · rw [hst]
    have hmem : ∀ o ∈ (if p.phase = 3 then s.orders.eraseIdx m else s.orders.set m p), o ∈ s.orders ∨ (o = p ∧ p.phase ≠ 3) := fun o ho => by
      split at ho
      · exact .inl (List.mem_of_mem_eraseIdx ho)
      · rename_i h3
        rcases mem_set_cases ho with h | rfl
        · exact .inl h
        · exact .inr ⟨rfl, h3⟩
    refine ⟨fun o ho => ?_, ?_, fun o ho => ?_, hz.last, hrs, ⟨by show 0 ≤ s.lsn + 1; omega, by show s.lsn + 1 ≤ _; omega⟩, hz.lims, hz.caps⟩
    · rcases hmem o ho with h | ⟨rfl, h3⟩
      · exact hz.ords o h
      · exact ⟨hp.ord, h3, by show o.account < s.accounts; rw [hp.account]; exact hoi.2.2.1, by show o.symbol < s.symbols; rw [hp.symbol]; exact hoi.2.2.2⟩
    · show ascP (if p.phase = 3 then s.orders.eraseIdx m else s.orders.set m p)
      split
      · exact asc_erase m hz.asc
      · exact asc_set hm1 hz.asc hp.id
    · rcases hmem o ho with h | ⟨rfl, _⟩
      · exact hz.ids o h
      · show o.id ≤ s.last
        rw [hp.id]; exact hz.ids _ (List.getElem_mem hm1)
  · rw [hst]
    intro c hc
    rcases mem_set_cases hc with h | rfl
    · exact hR.ok c h
    · split
      · rename_i h3; exact hev2 h3
      · exact hev1
  · rw [hst]
    intro a h1 h2
    refine Int.le_trans (acct_le (by simp) (fun i g4 g5 => set_le g3 ?_ i g4 g5) a) (hR.acct a h1 h2)
    have hw := hp.worth
    have e : (addC (subC s.cells[k] s.orders[m]) p).opn ≤ s.cells[k].opn := by
      have e1 : (addC (subC s.cells[k] s.orders[m]) p).opn = s.cells[k].opn - worthZ s.orders[m] + worthZ p := by unfold addC subC; split <;> split <;> rfl
      omega
    split
    · exact e
    · exact e
theorem okL_set {α : Type} {p : α → Prop} {l : List α} (h : okL p l) {k : Nat} {x : α} (hx : p x) : okL p (l.set k x) := ⟨fun y hy => by
  rcases List.mem_or_eq_of_mem_set hy with h1 | rfl
  · exact h.1 y h1
  · exact hx, by have := h.2; simpa using this⟩
/-- What may come of a record. -/
structure DoQ (s : SState) (r : SRec) (t : SState) (e : Int) : Prop where
  bad : e ≠ 0 → t = s
  good : e = 0 → mayP s r ∧ t.lsn = s.lsn + 1 ∧ (t.seq = if r.kind = 6 then s.seq + 1 else s.seq) ∧ (t.last = if r.kind = 1 then r.order else s.last) ∧ t.accounts = s.accounts ∧ t.symbols = s.symbols ∧ t.cells.length = s.cells.length ∧ t.limits.length = s.limits.length ∧ t.caps.length = s.caps.length ∧ t.orders.length ≤ 64 ∧
    (r.kind ≠ 4 → t.limits = s.limits ∧ t.caps = s.caps) ∧ (r.kind ≠ 5 → t.kill = s.kill) ∧ (r.kind = 6 → r.seq = s.seq + 1)
  rng : Ok_state s → Ok_recd r → Ok_state t
theorem doQ_bad {s : SState} {r : SRec} {e : Int} (he : e ≠ 0) : DoQ s r s e := ⟨fun _ => rfl, fun h => absurd h he, fun h _ => h⟩
theorem ask_q {s t : SState} {r : SRec} {a y : Int} (hm : mayP s r) (h6 : r.kind ≠ 6) (h1 : t.accounts = s.accounts) (h2 : t.symbols = s.symbols) (h3 : t.limits = s.limits) (h4 : t.caps = s.caps) (h5 : t.seq = s.seq) (h7 : t.lsn = s.lsn) (h8 : t.last = if r.kind = 1 then r.order else s.last) (h9 : t.cells.length = s.cells.length) (h10 : t.orders.length ≤ 64) (h11 : t.kill = s.kill)
    (hr : Ok_state s → Ok_recd r → ∀ o ∈ t.orders, Ok_order o) : DoQ s r (askS s t a y).1 (askS s t a y).2 := by
  unfold askS
  split
  · exact doQ_bad (by simp)
  · rename_i hf
    have hf : fitS t := Classical.not_not.1 hf
    split
    · exact doQ_bad (by simp)
    · refine ⟨fun h => absurd rfl h, fun _ => ⟨hm, by show t.lsn + 1 = _; rw [h7], by rw [if_neg h6]; exact h5, h8, h1, h2, h9, by rw [h3], by rw [h4], h10, fun _ => ⟨h3, h4⟩, fun _ => h11, fun h => absurd h h6⟩, fun hs hrr => ?_⟩
      have hR := hm.1
      have hz := hR.fine
      have hlsn := hm.2.2.1
      obtain ⟨lc, ll, lcp, lo⟩ := hR.sized.lens
      have b3 := hz.lsn
      refine ⟨by rw [h1]; exact hs.accounts, by rw [h2]; exact hs.symbols, ⟨hr hs hrr, by show t.orders.length ≤ _; omega⟩, ⟨fun c hc => (hf.1 c hc).1, by show t.cells.length ≤ _; omega⟩, by rw [h3]; exact hs.limits, by rw [h4]; exact hs.caps, ?_, by rw [h5]; exact hs.seq, ⟨by show _ ≤ t.lsn + 1; omega, by show t.lsn + 1 ≤ _; omega⟩⟩
      show inI t.last
      rw [h8]; split
      · exact hrr.order
      · exact hs.last
theorem doS_q (s : SState) (r : SRec) : DoQ s r (doS s r).1 (doS s r).2 := by
  unfold doS
  split
  · exact doQ_bad (by simp)
  rename_i hm
  have hm : mayP s r := Classical.not_not.1 hm
  obtain ⟨hR, hrec, hlsn, hacc, hsym, hord⟩ := id hm
  have hz := hR.fine
  have hs := hR.sized
  obtain ⟨lc, ll, lcp, lo⟩ := hs.lens
  have hl0 := hz.lsn
  have hls : Ok_state s → inI (s.lsn + 1) := fun _ => ⟨by omega, by omega⟩
  have hrec' := hrec
  unfold recP knownP at hrec'
  split
  · rename_i k1
    split
    · exact doQ_bad (by simp)
    split
    · exact doQ_bad (by simp)
    · rename_i h64
      refine ask_q (t := ⟨s.accounts, s.symbols, lapp s.orders [beginZ r], mkCells s (lapp s.orders [beginZ r]), s.limits, s.caps, s.kill, r.order, s.seq, s.lsn⟩) hm (by omega) rfl rfl rfl rfl rfl rfl (by rw [if_pos k1]) (mkCells_len _ _) (by show (s.orders ++ [_]).length ≤ 64; simp; omega) rfl fun hs hrr o h => ?_
      rcases List.mem_append.1 h with h | h
      · exact hs.orders.1 o h
      · rw [List.mem_singleton] at h
        subst h
        exact begin_rng hrr
  split
  · rename_i k1 k2
    split
    · exact doQ_bad (by simp)
    rename_i m hf
    obtain ⟨hm1, hm2⟩ := findZ_some hf
    simp only [lget_eq' _ m hm1]
    split
    · exact doQ_bad (by simp)
    rename_i hch
    have hch : changeP s.orders[m] := Classical.not_not.1 hch
    split
    · exact doQ_bad (by simp)
    refine ask_q (t := withS s (lset s.orders m (changeZ s.orders[m] r.qty r.price))) hm (by omega) rfl rfl rfl rfl rfl rfl (by rw [if_neg k1]; rfl) (mkCells_len _ _) (by show (s.orders.set _ _).length ≤ 64; simp; omega) rfl fun hs hrr o h => ?_
    rcases mem_set_cases h with h | rfl
    · exact hs.orders.1 o h
    · exact change_rng (hs.orders.1 _ (List.getElem_mem hm1)) hch hrr.qty hrr.price
  split
  · rename_i k1 k2 k3
    split
    · exact doQ_bad (by simp)
    rename_i m hf
    obtain ⟨hm1, hm2⟩ := findZ_some hf
    simp only [lget_eq' _ m hm1]
    split
    · exact doQ_bad (by simp)
    exact ⟨fun h => absurd rfl h, fun _ => ⟨hm, rfl, by rw [if_neg (by omega)], by rw [if_neg k1], rfl, rfl, rfl, rfl, rfl, by show (s.orders.set _ _).length ≤ 64; simp; omega, fun _ => ⟨rfl, rfl⟩, fun _ => rfl, fun h => by omega⟩,
      fun h hrr => ⟨h.accounts, h.symbols, okL_set h.orders (end_rng (h.orders.1 _ (List.getElem_mem hm1))), h.cells, h.limits, h.caps, h.last, h.seq, hls h⟩⟩
  split
  · rename_i k1 k2 k3 k4
    split
    · exact ⟨fun h => absurd rfl h, fun _ => ⟨hm, rfl, by rw [if_neg (by omega)], by rw [if_neg k1], rfl, rfl, rfl, rfl, lset_len _ _ _, lo, fun h => absurd k4 h, fun _ => rfl, fun h => by omega⟩,
        fun h hrr => ⟨h.accounts, h.symbols, h.orders, h.cells, h.limits, okL_set h.caps hrr.opn, h.last, h.seq, hls h⟩⟩
    · exact ⟨fun h => absurd rfl h, fun _ => ⟨hm, rfl, by rw [if_neg (by omega)], by rw [if_neg k1], rfl, rfl, rfl, lset_len _ _ _, rfl, lo, fun h => absurd k4 h, fun _ => rfl, fun h => by omega⟩,
        fun h hrr => ⟨h.accounts, h.symbols, h.orders, h.cells, okL_set h.limits ⟨hrr.long, hrr.short, hrr.opn⟩, h.caps, h.last, h.seq, hls h⟩⟩
  split
  · rename_i k1 k2 k3 k4 k5
    exact ⟨fun h => absurd rfl h, fun _ => ⟨hm, rfl, by rw [if_neg (by omega)], by rw [if_neg k1], rfl, rfl, rfl, rfl, rfl, lo, fun _ => ⟨rfl, rfl⟩, fun h => absurd k5 h, fun h => by omega⟩,
      fun h hrr => ⟨h.accounts, h.symbols, h.orders, h.cells, h.limits, h.caps, h.last, h.seq, hls h⟩⟩
  split
  · exact doQ_bad (by simp)
  rename_i k1 k2 k3 k4 k5 hseq
  have hseq : r.seq = s.seq + 1 := Classical.not_not.1 hseq
  have k6 : r.kind = 6 := by omega
  have ev : DoQ s r ⟨s.accounts, s.symbols, s.orders, s.cells, s.limits, s.caps, s.kill, s.last, r.seq, s.lsn + 1⟩ 0 :=
    ⟨fun h => absurd rfl h, fun _ => ⟨hm, rfl, by rw [if_pos k6]; exact hseq, by rw [if_neg k1], rfl, rfl, rfl, rfl, rfl, lo, fun _ => ⟨rfl, rfl⟩, fun _ => rfl, fun _ => hseq⟩,
      fun h hrr => ⟨h.accounts, h.symbols, h.orders, h.cells, h.limits, h.caps, h.last, hrr.seq, hls h⟩⟩
  split
  · exact ev
  rename_i m hf
  obtain ⟨hm1, hm2⟩ := findZ_some hf
  simp only [lget_eq' _ m hm1]
  split
  · exact ev
  rename_i p ht
  have hoi := hz.ords _ (List.getElem_mem hm1)
  have hlen : (if p.phase = 3 then s.orders.eraseIdx m else lset s.orders m p).length ≤ 64 := by
    split
    · have := List.length_eraseIdx_le s.orders m; omega
    · rw [lset_len]; omega
  refine ⟨fun h => absurd rfl h, fun _ => ⟨hm, rfl, by rw [if_pos k6]; exact hseq, by rw [if_neg k1]; rfl, rfl, rfl, ?_, rfl, rfl, hlen, fun _ => ⟨rfl, rfl⟩, fun _ => rfl, fun _ => hseq⟩, fun h hrr => ?_⟩
  · show (mkCells _ _).length = _
    rw [mkCells_len]
    show (if r.what = 3 then movC s (lget s.orders m) r.qty else s.cells).length = _
    split
    · exact lset_len _ _ _
    · rfl
  · have hro := h.orders.1 _ (List.getElem_mem hm1)
    have hq3 : r.what = 3 → 1 ≤ r.qty := fun h => by omega
    have hp := take_q hoi.1 hro ht hq3 (fun h => by omega) hrr.qty hrr.price
    obtain ⟨k, g1, g2, g3⟩ := at_rng hs hoi
    have hat : atZ s.symbols p = (k : Int) := by unfold atZ; rw [hp.account, hp.symbol]; exact g2
    obtain ⟨hev1, hev2⟩ := ev_cell hR h m hm1 k g3 g2 hp hq3
    rw [ev_state hR r m hm1 k g3 g2 hat]
    refine ⟨h.accounts, h.symbols, ⟨fun o ho => ?_, ?_⟩, okL_set h.cells ?_, h.limits, h.caps, h.last, hrr.seq, hls h⟩
    · show ok_order o
      have ho : o ∈ (if p.phase = 3 then s.orders.eraseIdx m else s.orders.set m p) := ho
      split at ho
      · exact h.orders.1 o (List.mem_of_mem_eraseIdx ho)
      · rcases mem_set_cases ho with h1 | rfl
        · exact h.orders.1 o h1
        · exact hp.rng
    · show (if p.phase = 3 then s.orders.eraseIdx m else s.orders.set m p).length ≤ _
      rw [lset_eq'] at hlen
      omega
    · show Ok_cell _
      split
      · rename_i h3; exact (hev2 h3).1
      · exact hev1.1
theorem w_same {α : Type} {l m : List α} (hlen : l.length = m.length) (hn : l.length < 999999) {step : Int × Bool → Option ((Int × Bool) ⊕ (Bool ⊕ Bool))}
    (hstep : ∀ (i : Nat) (h : i < l.length) (h2 : i < m.length) (q : Bool), Wq (step ((i : Int), q)) fun r => (l[i] = m[i] → r = .inl (((i + 1 : Nat) : Int), q)) ∧ (l[i] ≠ m[i] → r = .inr (.inl false)))
    (hend : ∀ q, step ((l.length : Int), q) = some (.inr (.inr q))) (q : Bool) : Wq (iterN step LF (0, q)) fun w => match w with | .inl b => b = false ∧ l ≠ m | .inr b => l = m := by
  refine w_for (n := l.length) hn (fun i _ => ∀ (j : Nat) (h : j < l.length) (h2 : j < m.length), j < i → l[j] = m[j]) _ (fun i x hi hx => ?_) (fun x hx => ?_) _ 0 (Nat.zero_le _) (fun j _ _ h => by omega)
  · have hi2 : i < m.length := by omega
    refine (hstep i hi hi2 x).mono fun r hr => ?_
    by_cases e : l[i] = m[i]
    · rw [hr.1 e]
      refine ⟨rfl, fun j h h2 hj => ?_⟩
      by_cases ej : j = i
      · subst ej; exact e
      · exact hx j h h2 (by omega)
    · rw [hr.2 e]
      refine ⟨rfl, fun h => e ?_⟩
      subst h; rfl
  · rw [hend x]
    exact (w_some _).2 (List.ext_getElem hlen fun j h h2 => hx j h h2 h)
theorem len_inj {α β : Type} (l : List α) (m : List β) : (len l = len m) ↔ l.length = m.length := by unfold len; omega
theorem order_ext (a b : SOrder) : (a.id = b.id ∧ a.account = b.account ∧ a.symbol = b.symbol ∧ a.side = b.side ∧ a.qty = b.qty ∧ a.price = b.price ∧ a.filled = b.filled ∧ a.phase = b.phase ∧ a.newQty = b.newQty ∧ a.newPrice = b.newPrice ∧ a.version = b.version ∧ a.asked = b.asked) ↔ a = b := by
  cases a; cases b; simp
theorem cell_ext' (a b : SCell) : (a.pos = b.pos ∧ a.buy = b.buy ∧ a.sell = b.sell ∧ a.opn = b.opn) ↔ a = b := by
  cases a; cases b; simp
theorem expo_ext (a b : SExpo) : (a.long = b.long ∧ a.short = b.short ∧ a.opn = b.opn) ↔ a = b := by
  cases a; cases b; simp
theorem state_ext (a b : SState) : (a.accounts = b.accounts ∧ a.symbols = b.symbols ∧ a.kill = b.kill ∧ a.last = b.last ∧ a.seq = b.seq ∧ a.lsn = b.lsn ∧ a.orders = b.orders ∧ a.cells = b.cells ∧ a.limits = b.limits ∧ a.caps = b.caps) ↔ a = b := by
  cases a; cases b; simp; grind
/-- A state whose lists are short. -/
def shortP (s : SState) : Prop := s.orders.length < 999999 ∧ s.cells.length < 999999 ∧ s.limits.length < 999999 ∧ s.caps.length < 999999
theorem s_same {a b : SState} (ha : shortP a) : Wq (F_snaffleref10_Same a b) fun r => r = true ↔ a = b := by
  obtain ⟨h1, h2, h3, h4⟩ := ha
  unfold F_snaffleref10_Same
  rw [w_cnd]
  have hx := state_ext a b
  refine ⟨fun h => (w_some _).2 ⟨fun h => (by cases h), fun h2 => ?_⟩, fun h => ?_⟩
  · subst h2
    simp only [band_T, band_F, bor_T, bor_F, bnot_T, bnot_F, ilt_T, ilt_F, ile_T, ile_F, ieq_T, ieq_F, beq_T, beq_F] at h
    simp at h
  · simp only [band_T, band_F, bor_T, bor_F, bnot_T, bnot_F, ilt_T, ilt_F, ile_T, ile_F, ieq_T, ieq_F, beq_T, beq_F, len_inj] at h
    obtain ⟨⟨⟨⟨⟨⟨⟨⟨⟨a1, a2⟩, a3⟩, a4⟩, a5⟩, a6⟩, a7⟩, a8⟩, a9⟩, a10⟩ := h
    have e1 : a = b ↔ a.orders = b.orders ∧ a.cells = b.cells ∧ a.limits = b.limits ∧ a.caps = b.caps := by
      rw [← hx]; exact ⟨fun h => ⟨h.2.2.2.2.2.2.1, h.2.2.2.2.2.2.2.1, h.2.2.2.2.2.2.2.2.1, h.2.2.2.2.2.2.2.2.2⟩, fun h => ⟨a1, a2, a3, a4, a5, a6, h⟩⟩
    rw [e1]
    refine Wq.bind (w_same (l := a.orders) (m := b.orders) a7 h1 (step := fun v : Int × Bool => L_snaffleref10_Same_58 b a v.fst v.snd) (fun i h hh q => ?_) (fun q => ?_) _) fun w hw => ?_
    · simp only [L_snaffleref10_Same_58]
      rw [cnd_t (by rw [ilt_nat]; simpa using h), cnd_t (inb _ i h), cnd_t (inb _ i hh), lget_nat _ i h, lget_nat _ i hh, w_cnd, w_some, w_some, bnot_T, bnot_F, wr_succ (by omega)]
      have := order_ext a.orders[i] b.orders[i]
      simp only [band_T, band_F, bor_T, bor_F, bnot_T, bnot_F, ilt_T, ilt_F, ile_T, ile_F, ieq_T, ieq_F, beq_T, beq_F] at *
      exact ⟨fun h => ⟨fun e => (by have := this.2 e; grind), fun _ => trivial⟩, fun h => ⟨fun _ => trivial, fun e => absurd (this.1 h) e⟩⟩
    · simp only [L_snaffleref10_Same_58]
      rw [cnd_f (by rw [show ((a.orders.length : Nat) : Int) = len a.orders from rfl]; simp [ilt])]
    cases w with
    | inl w => obtain ⟨rfl, h⟩ := hw; simp only [sumK, w_some]; simp [h]
    | inr w =>
    simp only [sumK, hw, true_and]
    refine Wq.bind (w_same (l := a.cells) (m := b.cells) a8 h2 (step := fun v : Int × Bool => L_snaffleref10_Same_122 b a v.fst v.snd) (fun i h hh q => ?_) (fun q => ?_) _) fun w hw => ?_
    · simp only [L_snaffleref10_Same_122]
      rw [cnd_t (by rw [ilt_nat]; simpa using h), cnd_t (inb _ i h), cnd_t (inb _ i hh), lget_nat _ i h, lget_nat _ i hh, w_cnd, w_some, w_some, bnot_T, bnot_F, wr_succ (by omega)]
      have := cell_ext' a.cells[i] b.cells[i]
      simp only [band_T, band_F, bor_T, bor_F, bnot_T, bnot_F, ilt_T, ilt_F, ile_T, ile_F, ieq_T, ieq_F, beq_T, beq_F] at *
      exact ⟨fun h => ⟨fun e => (by have := this.2 e; grind), fun _ => trivial⟩, fun h => ⟨fun _ => trivial, fun e => absurd (this.1 h) e⟩⟩
    · simp only [L_snaffleref10_Same_122]
      rw [cnd_f (by rw [show ((a.cells.length : Nat) : Int) = len a.cells from rfl]; simp [ilt])]
    cases w with
    | inl w => obtain ⟨rfl, h⟩ := hw; simp only [sumK, w_some]; simp [h]
    | inr w =>
    simp only [sumK, hw, true_and]
    refine Wq.bind (w_same (l := a.limits) (m := b.limits) a9 h3 (step := fun v : Int × Bool => L_snaffleref10_Same_250 b a v.fst v.snd) (fun i h hh q => ?_) (fun q => ?_) _) fun w hw => ?_
    · simp only [L_snaffleref10_Same_250]
      rw [cnd_t (by rw [ilt_nat]; simpa using h), cnd_t (inb _ i h), cnd_t (inb _ i hh), lget_nat _ i h, lget_nat _ i hh, w_cnd, w_some, w_some, bnot_T, bnot_F, wr_succ (by omega)]
      have := expo_ext a.limits[i] b.limits[i]
      simp only [band_T, band_F, bor_T, bor_F, bnot_T, bnot_F, ilt_T, ilt_F, ile_T, ile_F, ieq_T, ieq_F, beq_T, beq_F] at *
      exact ⟨fun h => ⟨fun e => (by have := this.2 e; grind), fun _ => trivial⟩, fun h => ⟨fun _ => trivial, fun e => absurd (this.1 h) e⟩⟩
    · simp only [L_snaffleref10_Same_250]
      rw [cnd_f (by rw [show ((a.limits.length : Nat) : Int) = len a.limits from rfl]; simp [ilt])]
    cases w with
    | inl w => obtain ⟨rfl, h⟩ := hw; simp only [sumK, w_some]; simp [h]
    | inr w =>
    simp only [sumK, hw, true_and]
    refine Wq.bind (w_same (l := a.caps) (m := b.caps) a10 h4 (step := fun v : Int × Bool => L_snaffleref10_Same_506 b a v.fst v.snd) (fun i h hh q => ?_) (fun q => ?_) _) fun w hw => ?_
    · simp only [L_snaffleref10_Same_506]
      rw [cnd_t (by rw [ilt_nat]; simpa using h), cnd_t (inb _ i h), cnd_t (inb _ i hh), lget_nat _ i h, lget_nat _ i hh, w_cnd, w_some, w_some, bnot_T, bnot_F, wr_succ (by omega)]
      simp only [band_T, band_F, bor_T, bor_F, bnot_T, bnot_F, ilt_T, ilt_F, ile_T, ile_F, ieq_T, ieq_F, beq_T, beq_F] at *
      exact ⟨fun h => ⟨fun e => absurd e h, fun _ => trivial⟩, fun h => ⟨fun _ => trivial, fun e => absurd h e⟩⟩
    · simp only [L_snaffleref10_Same_506]
      rw [cnd_f (by rw [show ((a.caps.length : Nat) : Int) = len a.caps from rfl]; simp [ilt])]
    cases w with
    | inl w => obtain ⟨rfl, h⟩ := hw; simp only [sumK, w_some]; simp [h]
    | inr w => simp only [sumK, hw, w_some]
theorem s_short (s : SState) : Wq (F_snaffleref10_Short s) fun b => b = true → shortP s := by
  unfold F_snaffleref10_Short shortP
  simp only [w_some, band_T, band_F, bor_T, bor_F, bnot_T, bnot_F, ilt_T, ilt_F, ile_T, ile_F, ieq_T, ieq_F, beq_T, beq_F, len]
  omega
theorem doS_short {s : SState} (h : shortP s) (r : SRec) : shortP (doS s r).1 := by
  have q := doS_q s r
  by_cases e : (doS s r).2 = 0
  · obtain ⟨_, _, _, _, _, _, h1, h2, h3, h4, _⟩ := q.good e
    unfold shortP at *; omega
  · rw [q.bad e]; exact h
def covX (a b : SExpo) : Prop := b.long ≤ a.long ∧ b.short ≤ a.short ∧ b.opn ≤ a.opn
instance (a b : SExpo) : Decidable (covX a b) := by unfold covX; infer_instance
theorem covX_trans {a b c : SExpo} (h : covX a b) (h2 : covX b c) : covX a c := ⟨Int.le_trans h2.1 h.1, Int.le_trans h2.2.1 h.2.1, Int.le_trans h2.2.2 h.2.2⟩
structure CovS (a b : SState) : Prop where
  ra : RightS a
  rb : RightS b
  sym : a.symbols = b.symbols
  len : a.cells.length = b.cells.length
  cov : ∀ (i : Nat) (h : i < a.cells.length) (h2 : i < b.cells.length), covX (ofC a.cells[i]) (ofC b.cells[i])
theorem CovS.trans {a b c : SState} (h : CovS a b) (h2 : CovS b c) : CovS a c := ⟨h.ra, h2.rb, h.sym.trans h2.sym, h.len.trans h2.len, fun i g1 g2 => covX_trans (h.cov i g1 (by rw [← h.len]; exact g1)) (h2.cov i (by rw [← h.len]; exact g1) g2)⟩
theorem find_of {l : List SOrder} (h : ascP l) {o : SOrder} (ho : o ∈ l) : ∃ k : Nat, ∃ hk : k < l.length, findZ l o.id = some k ∧ l[k] = o := by
  cases hf : findZ l o.id with
  | none => exact absurd rfl (findZ_none hf o ho)
  | some k =>
    obtain ⟨hk, h1⟩ := findZ_some hf
    obtain ⟨j, hj, rfl⟩ := List.getElem_of_mem ho
    have : k = j := h.find hk hj h1
    subst this
    exact ⟨k, hk, rfl, rfl⟩
theorem r_Add {a b : Int} (ha : inI a) (hb : inI b) : F_snaffleref01_Add a b = some (if inI (a + b) then (a + b, true) else (0, false)) := by
  unfold inI at ha hb
  unfold F_snaffleref01_Add isub iadd
  rw [cnd_if]
  simp only [band_T, band_F, bor_T, bor_F, bnot_T, bnot_F, ilt_T, ilt_F, ile_T, ile_F, ieq_T, ieq_F, beq_T, beq_F]
  by_cases h : inI (a + b)
  · rw [if_pos h, wr_in h]
    unfold inI at h
    rw [if_neg]
    rintro (⟨h1, h2⟩ | ⟨h1, h2⟩)
    · rw [wr_in ⟨by omega, by omega⟩] at h2; omega
    · rw [wr_in ⟨by omega, by omega⟩] at h2; omega
  · rw [if_neg h]
    unfold inI at h
    rw [if_pos]
    by_cases hp : 0 < b
    · exact .inl ⟨hp, by rw [wr_in ⟨by omega, by omega⟩]; omega⟩
    · exact .inr ⟨by omega, by rw [wr_in ⟨by omega, by omega⟩]; omega⟩
theorem r_Sub {a b : Int} (ha : inI a) (hb : inI b) : F_snaffleref01_Sub a b = some (if inI (a - b) then (a - b, true) else (0, false)) := by
  unfold inI at ha hb
  unfold F_snaffleref01_Sub isub iadd
  rw [cnd_if]
  simp only [band_T, band_F, bor_T, bor_F, bnot_T, bnot_F, ilt_T, ilt_F, ile_T, ile_F, ieq_T, ieq_F, beq_T, beq_F]
  by_cases h : inI (a - b)
  · rw [if_pos h, wr_in h]
    unfold inI at h
    rw [if_neg]
    rintro (⟨h1, h2⟩ | ⟨h1, h2⟩)
    · rw [wr_in ⟨by omega, by omega⟩] at h2; omega
    · rw [wr_in ⟨by omega, by omega⟩] at h2; omega
  · rw [if_neg h]
    unfold inI at h
    rw [if_pos]
    by_cases hp : 0 < b
    · exact .inr ⟨hp, by rw [wr_in ⟨by omega, by omega⟩]; omega⟩
    · exact .inl ⟨by omega, by rw [wr_in ⟨by omega, by omega⟩]; omega⟩
theorem r_whole {a : Int} (ha : inI a) : F_snaffleref01_whole a = some (a.natAbs : Int) := by
  unfold inI at ha
  unfold F_snaffleref01_whole isub iadd
  rw [c_ilt]
  split
  · rw [wr_in (n := a + 1) ⟨by omega, by omega⟩, wr_in (n := 0 - (a + 1)) ⟨by omega, by omega⟩, wr_u64, wr_u64]
    congr 1; omega
  · rw [wr_u64]; congr 1; omega
theorem r_Mul {a b : Int} (ha : inI a) (hb : inI b) : Wq (F_snaffleref01_Mul a b) fun r => (r.2 = true ↔ inI (a * b)) ∧ (r.2 = true → r.1 = a * b) := by
  unfold F_snaffleref01_Mul
  rw [r_whole ha, r_whole hb, ob_some, ob_some]
  have hm : (a.natAbs : Int) * (b.natAbs : Int) = ((a * b).natAbs : Int) := by rw [Int.natAbs_mul]; rfl
  have hs : ((a < 0 ↔ b < 0) → 0 ≤ a * b) ∧ (¬ (a < 0 ↔ b < 0) → a * b ≤ 0) := by
    constructor
    · intro h
      by_cases h1 : a < 0
      · exact Int.mul_nonneg_of_nonpos_of_nonpos (by omega) (by have := h.1 h1; omega)
      · exact Int.mul_nonneg (by omega) (by have : ¬ b < 0 := fun h2 => h1 (h.2 h2); omega)
    · intro h
      by_cases h1 : a < 0
      · exact Int.mul_nonpos_of_nonpos_of_nonneg (by omega) (by have : ¬ b < 0 := fun h2 => h ⟨fun _ => h2, fun _ => h1⟩; omega)
      · exact Int.mul_nonpos_of_nonneg_of_nonpos (by omega) (by have : b < 0 := by { by_cases h2 : b < 0; exact h2; exact absurd ⟨fun h => absurd h h1, fun h => absurd h h2⟩ h }; omega)
  unfold inI at ha hb
  obtain ⟨A, B, e1, A1, A2, B1, B2, s1, s2⟩ := half (a.natAbs : Int) (by omega) (by omega)
  obtain ⟨C, D, e2, C1, C2, D1, D2, t1, t2⟩ := half (b.natAbs : Int) (by omega) (by omega)
  rw [s1, s2, t1, t2]
  have m2 : 0 ≤ A * D ∧ A * D ≤ 4294967295 * 4294967295 := ⟨Int.mul_nonneg A1 D1, Int.mul_le_mul (by omega) (by omega) D1 (by omega)⟩
  have m3 : 0 ≤ B * C ∧ B * C ≤ 4294967295 * 4294967295 := ⟨Int.mul_nonneg B1 C1, Int.mul_le_mul (by omega) (by omega) C1 (by omega)⟩
  have m4 : 0 ≤ B * D ∧ B * D ≤ 4294967295 * 4294967295 := ⟨Int.mul_nonneg B1 D1, Int.mul_le_mul (by omega) (by omega) D1 (by omega)⟩
  have mm : ((a * b).natAbs : Int) = A * C * 18446744073709551616 + (A * D + B * C) * 4294967296 + B * D := by
    rw [← hm, e1, e2]
    simp only [Int.add_mul, Int.mul_add]
    have q1 : A * 4294967296 * (C * 4294967296) = A * C * 18446744073709551616 := by
      rw [Int.mul_assoc, Int.mul_left_comm 4294967296, ← Int.mul_assoc, ← Int.mul_assoc]; omega
    have q2 : A * 4294967296 * D = A * D * 4294967296 := by rw [Int.mul_assoc, Int.mul_comm 4294967296, ← Int.mul_assoc]
    have q3 : B * (C * 4294967296) = B * C * 4294967296 := by rw [← Int.mul_assoc]
    rw [q1, q2, q3]; omega
  have mac : 0 ≤ A * C ∧ (0 < A → 0 < C → 1 ≤ A * C) := ⟨Int.mul_nonneg A1 C1, fun h1 h2 => Int.mul_pos h1 h2⟩
  have mz : (A = 0 → A * C = 0 ∧ A * D = 0) ∧ (C = 0 → A * C = 0 ∧ B * C = 0) := ⟨fun h => by subst h; simp, fun h => by subst h; simp⟩
  unfold imul iadd isub ishl
  have e32 : min (Int.toNat 32) (IntKind.bits .u64) = 32 := by decide
  simp only [e32]
  generalize A * C = p at *
  generalize A * D = q at *
  generalize B * C = r at *
  generalize B * D = t at *
  generalize a * b = w at *
  simp only [wr_u64]
  by_cases c1 : 0 < A ∧ 0 < C
  · rw [cnd_t (by simp only [band_T, band_F, bor_T, bor_F, bnot_T, bnot_F, ilt_T, ilt_F, ile_T, ile_F, ieq_T, ieq_F, beq_T, beq_F]; exact c1), w_some]
    have := mac.2 c1.1 c1.2
    unfold inI
    simp only [Bool.false_eq_true, false_iff, false_implies, and_true]
    omega
  · rw [cnd_f (by simp only [band_T, band_F, bor_T, bor_F, bnot_T, bnot_F, ilt_T, ilt_F, ile_T, ile_F, ieq_T, ieq_F, beq_T, beq_F]; omega)]
    have hac : p = 0 ∧ (q = 0 ∨ r = 0) := by
      by_cases h : A = 0
      · exact ⟨(mz.1 h).1, .inl (mz.1 h).2⟩
      · have hC : C = 0 := by omega
        exact ⟨(mz.2 hC).1, .inr (mz.2 hC).2⟩
    rw [Int.emod_eq_of_lt (a := q) m2.1 (by omega), Int.emod_eq_of_lt (a := r) m3.1 (by omega), Int.emod_eq_of_lt (a := t) m4.1 (by omega), Int.emod_eq_of_lt (a := q + r) (by omega) (by omega)]
    rw [c_ile]
    by_cases c2 : 4294967296 ≤ q + r
    · rw [if_pos c2, w_some]
      unfold inI
      simp only [Bool.false_eq_true, false_iff, false_implies, and_true]
      omega
    · rw [if_neg c2, w_cnd]
      have hw : ((w.natAbs : Nat) : Int) = (q + r) * 4294967296 + t := by omega
      have hsh : ((q + r) * 2 ^ 32) % 18446744073709551616 = (q + r) * 4294967296 := by
        rw [show (2 : Int) ^ 32 = 4294967296 by decide]; exact Int.emod_eq_of_lt (by omega) (by omega)
      rw [hsh]
      refine ⟨fun h => (w_some _).2 ?_, fun h => ?_⟩
      · simp only [band_T, band_F, bor_T, bor_F, bnot_T, bnot_F, ilt_T, ilt_F, ile_T, ile_F, ieq_T, ieq_F, beq_T, beq_F] at h
        unfold inI
        simp only [Bool.false_eq_true, false_iff, false_implies, and_true]
        omega
      · simp only [band_T, band_F, bor_T, bor_F, bnot_T, bnot_F, ilt_T, ilt_F, ile_T, ile_F, ieq_T, ieq_F, beq_T, beq_F] at h
        have hlt : (q + r) * 4294967296 + t < 18446744073709551616 := by omega
        rw [Int.emod_eq_of_lt (a := (q + r) * 4294967296 + t) (by omega) hlt] at h ⊢
        rw [← hw] at h ⊢
        rw [w_cnd]
        refine ⟨fun h5 => (w_some _).2 ?_, fun h5 => (w_some _).2 ?_⟩
        · have h6 : ¬ (a < 0 ↔ b < 0) := fun h7 => by
            rw [bnot_T, beq_F] at h5
            exact h5 (decide_eq_decide.2 h7)
          have := hs.2 h6
          have e : wr .i64 ((0 - ((w.natAbs : Nat) : Int)) % 18446744073709551616) = w := by
            rcases wr_two (n := (0 - ((w.natAbs : Nat) : Int)) % 18446744073709551616) (by omega) (by omega) with ⟨g, e⟩ | ⟨g, e⟩ | ⟨g, e⟩ <;> rw [e] <;> (try unfold inI at g) <;> omega
          simp only [e, true_iff, implies_true, and_true]
          unfold inI; omega
        · have h6 : (a < 0 ↔ b < 0) := by
            rw [bnot_F, beq_T] at h5
            exact decide_eq_decide.1 h5
          have := hs.1 h6
          simp only [ilt_T]
          unfold inI
          refine ⟨by omega, fun h7 => ?_⟩
          rw [wr_in ⟨by omega, by omega⟩]; omega
theorem r_rec_Right (r : SRec) : Wq (F_snaffleref06_Right r) fun b => b = true ↔ recP r := by
  unfold F_snaffleref06_Right F_snaffleref06_id
  by_cases k1 : r.kind = 1
  · have e1 : ieq r.kind 1 = true := by rw [ieq_T]; exact k1
    simp only [e1, cnd_true, ob_some]
    simp only [w_bind, w_cnd, w_some, band_T, band_F, bor_T, bor_F, bnot_T, bnot_F, ilt_T, ilt_F, ile_T, ile_F, ieq_T, ieq_F, beq_T, beq_F, true_implies, ne_eq, not_true_eq_false, false_implies, and_true, true_and, or_self, reduceCtorEq, recP, knownP]; grind
  have e1 : ieq r.kind 1 = false := by rw [ieq_F]; exact k1
  by_cases k2 : r.kind = 2
  · have e2 : ieq r.kind 2 = true := by rw [ieq_T]; exact k2
    simp only [e1, e2, cnd_true, cnd_false, ob_some]
    simp only [w_bind, w_cnd, w_some, band_T, band_F, bor_T, bor_F, bnot_T, bnot_F, ilt_T, ilt_F, ile_T, ile_F, ieq_T, ieq_F, beq_T, beq_F, true_implies, ne_eq, not_true_eq_false, false_implies, and_true, true_and, or_self, reduceCtorEq, recP, knownP]; grind
  have e2 : ieq r.kind 2 = false := by rw [ieq_F]; exact k2
  by_cases k3 : r.kind = 3
  · have e3 : ieq r.kind 3 = true := by rw [ieq_T]; exact k3
    simp only [e1, e2, e3, cnd_true, cnd_false, ob_some]
    have hrec : recP r ↔ (knownP r.order ∧ r.account = 0 ∧ r.symbol = 0 ∧ r.side = 0 ∧ r.qty = 0 ∧ r.price = 0 ∧ r.long = 0 ∧ r.short = 0 ∧ r.opn = 0 ∧ r.on = false ∧ r.seq = 0 ∧ r.what = 0) := by
      unfold recP
      constructor
      · rintro (h | h | h | h | h | h)
        · omega
        · omega
        · exact h.2
        · omega
        · omega
        · omega
      · exact fun h => .inr (.inr (.inl ⟨k3, h⟩))
    rw [hrec]
    simp only [w_bind, w_cnd, w_some, band_T, band_F, bor_T, bor_F, bnot_T, bnot_F, ilt_T, ilt_F, ile_T, ile_F, ieq_T, ieq_F, beq_T, beq_F, true_implies, ne_eq, not_true_eq_false, false_implies, and_true, true_and, or_self, reduceCtorEq, knownP]; grind
  have e3 : ieq r.kind 3 = false := by rw [ieq_F]; exact k3
  by_cases k4 : r.kind = 4
  · have e4 : ieq r.kind 4 = true := by rw [ieq_T]; exact k4
    simp only [e1, e2, e3, e4, cnd_true, cnd_false, ob_some]
    simp only [w_bind, w_cnd, w_some, band_T, band_F, bor_T, bor_F, bnot_T, bnot_F, ilt_T, ilt_F, ile_T, ile_F, ieq_T, ieq_F, beq_T, beq_F, true_implies, ne_eq, not_true_eq_false, false_implies, and_true, true_and, or_self, reduceCtorEq, recP, knownP]; grind
  have e4 : ieq r.kind 4 = false := by rw [ieq_F]; exact k4
  by_cases k5 : r.kind = 5
  · have e5 : ieq r.kind 5 = true := by rw [ieq_T]; exact k5
    simp only [e1, e2, e3, e4, e5, cnd_true, cnd_false, ob_some]
    have hrec : recP r ↔ (r.order = 0 ∧ r.account = 0 ∧ r.symbol = 0 ∧ r.side = 0 ∧ r.qty = 0 ∧ r.price = 0 ∧ r.long = 0 ∧ r.short = 0 ∧ r.opn = 0 ∧ r.seq = 0 ∧ r.what = 0) := by
      unfold recP
      constructor
      · rintro (h | h | h | h | h | h)
        · omega
        · omega
        · omega
        · omega
        · exact h.2
        · omega
      · exact fun h => .inr (.inr (.inr (.inr (.inl ⟨k5, h⟩))))
    rw [hrec]
    simp only [w_bind, w_cnd, w_some, band_T, band_F, bor_T, bor_F, bnot_T, bnot_F, ilt_T, ilt_F, ile_T, ile_F, ieq_T, ieq_F, beq_T, beq_F, true_implies, ne_eq, not_true_eq_false, false_implies, and_true, true_and, or_self, reduceCtorEq, knownP]
  have e5 : ieq r.kind 5 = false := by rw [ieq_F]; exact k5
  by_cases k6 : r.kind = 6
  · have e6 : ieq r.kind 6 = true := by rw [ieq_T]; exact k6
    simp only [e1, e2, e3, e4, e5, e6, cnd_true, cnd_false]
    have hrec : recP r ↔ (knownP r.order ∧ r.account = 0 ∧ r.symbol = 0 ∧ r.side = 0 ∧ r.long = 0 ∧ r.short = 0 ∧ r.opn = 0 ∧ r.on = false ∧ (1 ≤ r.seq ∧ r.seq ≤ 1000000000) ∧
      ((r.what = 3 ∧ 1 ≤ r.qty ∧ r.price = 0) ∨ (r.what = 5 ∧ 1 ≤ r.qty ∧ 1 ≤ r.price) ∨ ((r.what = 1 ∨ r.what = 2 ∨ r.what = 4 ∨ r.what = 6) ∧ r.qty = 0 ∧ r.price = 0))) := by
      unfold recP
      constructor
      · rintro (h | h | h | h | h | h)
        · omega
        · omega
        · omega
        · omega
        · omega
        · exact h.2
      · exact fun h => .inr (.inr (.inr (.inr (.inr ⟨k6, h⟩))))
    rw [hrec, w_bind]
    refine Wq.mono (Q := fun y => (1 ≤ r.seq ∧ r.seq ≤ 1000000000) → (1 ≤ r.what ∧ r.what ≤ 6) → (y = true ↔ knownP r.order)) ?_ fun y hy => ?_
    · rw [w_cnd]
      refine ⟨fun h => (w_some _).2 fun _ _ => by simp only [band_T, band_F, bor_T, bor_F, bnot_T, bnot_F, ilt_T, ilt_F, ile_T, ile_F, ieq_T, ieq_F, beq_T, beq_F, knownP]; omega, fun h => (w_some _).2 fun g1 g2 => ?_⟩
      simp only [band_T, band_F, bor_T, bor_F, bnot_T, bnot_F, ilt_T, ilt_F, ile_T, ile_F, ieq_T, ieq_F, beq_T, beq_F] at h
      omega
    by_cases w3 : r.what = 3
    · rw [cnd_t (by simp only [band_T, band_F, bor_T, bor_F, bnot_T, bnot_F, ilt_T, ilt_F, ile_T, ile_F, ieq_T, ieq_F, beq_T, beq_F]; exact .inl w3), cnd_f (by rw [ieq_F]; omega), w_some]
      simp only [band_T, band_F, bor_T, bor_F, bnot_T, bnot_F, ilt_T, ilt_F, ile_T, ile_F, ieq_T, ieq_F, beq_T, beq_F, true_and]
      rw [w3] at hy ⊢
      constructor
      · rintro ⟨⟨⟨⟨⟨⟨a1, a2⟩, _⟩, _⟩, a3⟩, a4⟩, b1, b2, b3, b4, b5, b6, b7, b8, _⟩
        exact ⟨(hy ⟨by omega, a2⟩ (by omega)).1 a3, b1, b2, b3, b5, b6, b7, b8, ⟨by omega, a2⟩, .inl ⟨rfl, by omega, b4⟩⟩
      · rintro ⟨c1, b1, b2, b3, b5, b6, b7, b8, c2, c3⟩
        have c4 : 1 ≤ r.qty ∧ r.price = 0 := by omega
        exact ⟨⟨⟨⟨⟨⟨by omega, c2.2⟩, by omega⟩, by omega⟩, (hy c2 (by omega)).2 c1⟩, by omega⟩, b1, b2, b3, c4.2, b5, b6, b7, b8, trivial⟩
    by_cases w5 : r.what = 5
    · rw [cnd_t (by simp only [band_T, band_F, bor_T, bor_F, bnot_T, bnot_F, ilt_T, ilt_F, ile_T, ile_F, ieq_T, ieq_F, beq_T, beq_F]; exact .inr w5), cnd_t (by rw [ieq_T]; exact w5), w_some]
      simp only [band_T, band_F, bor_T, bor_F, bnot_T, bnot_F, ilt_T, ilt_F, ile_T, ile_F, ieq_T, ieq_F, beq_T, beq_F, true_and]
      rw [w5] at hy ⊢
      constructor
      · rintro ⟨⟨⟨⟨⟨⟨⟨a1, a2⟩, _⟩, _⟩, a3⟩, a4⟩, a5⟩, b1, b2, b3, b5, b6, b7, b8, _⟩
        exact ⟨(hy ⟨by omega, a2⟩ (by omega)).1 a3, b1, b2, b3, b5, b6, b7, b8, ⟨by omega, a2⟩, .inr (.inl ⟨rfl, by omega, by omega⟩)⟩
      · rintro ⟨c1, b1, b2, b3, b5, b6, b7, b8, c2, c3⟩
        have c4 : 1 ≤ r.qty ∧ 1 ≤ r.price := by omega
        exact ⟨⟨⟨⟨⟨⟨⟨by omega, c2.2⟩, by omega⟩, by omega⟩, (hy c2 (by omega)).2 c1⟩, by omega⟩, by omega⟩, b1, b2, b3, b5, b6, b7, b8, trivial⟩
    rw [cnd_f (by simp only [band_T, band_F, bor_T, bor_F, bnot_T, bnot_F, ilt_T, ilt_F, ile_T, ile_F, ieq_T, ieq_F, beq_T, beq_F]; exact ⟨w3, w5⟩), cnd_f (by rw [ieq_F]; exact w5), w_some]
    simp only [band_T, band_F, bor_T, bor_F, bnot_T, bnot_F, ilt_T, ilt_F, ile_T, ile_F, ieq_T, ieq_F, beq_T, beq_F, true_and]
    constructor
    · rintro ⟨⟨⟨⟨⟨a1, a2⟩, a6⟩, a7⟩, a3⟩, b1, b2, b3, b9, b4, b5, b6, b7, b8, _⟩
      exact ⟨(hy ⟨by omega, a2⟩ (by omega)).1 a3, b1, b2, b3, b5, b6, b7, b8, ⟨by omega, a2⟩, .inr (.inr ⟨by omega, b9, b4⟩)⟩
    · rintro ⟨c1, b1, b2, b3, b5, b6, b7, b8, c2, c3⟩
      have c4 : r.qty = 0 ∧ r.price = 0 ∧ 1 ≤ r.what ∧ r.what ≤ 6 := by omega
      exact ⟨⟨⟨⟨⟨by omega, c2.2⟩, by omega⟩, by omega⟩, (hy c2 (by omega)).2 c1⟩, b1, b2, b3, c4.1, c4.2.1, b5, b6, b7, b8, trivial⟩
  have e6 : ieq r.kind 6 = false := by rw [ieq_F]; exact k6
  simp only [e1, e2, e3, e4, e5, e6, cnd_true, cnd_false, ob_some]
  simp only [w_bind, w_cnd, w_some, band_T, band_F, bor_T, bor_F, bnot_T, bnot_F, ilt_T, ilt_F, ile_T, ile_F, ieq_T, ieq_F, beq_T, beq_F, true_implies, ne_eq, not_true_eq_false, false_implies, and_true, true_and, or_self, reduceCtorEq, recP]; grind
theorem r_order_Right (o : SOrder) : F_snaffleref07_Right o = some (decide (ordP o)) := by
  refine Wq.dec ?_
  unfold F_snaffleref07_Right
  refine (r_rec_Right _).bind fun b hb => ?_
  have hb' : b = true ↔ begunP o := by rw [hb]; simp [recP, begunP, knownP]
  unfold ordP pendP
  rw [← hb']
  simp only [w_bind, w_cnd, w_some, band_T, band_F, bor_T, bor_F, bnot_T, bnot_F, ilt_T, ilt_F, ile_T, ile_F, ieq_T, ieq_F, beq_T, beq_F, true_implies, ne_eq, not_true_eq_false, false_implies, and_true, true_and, or_self, reduceCtorEq]
  cases b <;> grind
theorem r_order_Open {o : SOrder} (h : ordP o) (hr : Ok_order o) : F_snaffleref07_Open o = some (openZ o) := by
  have hb := openZ_rng h hr
  have hf := h.2.1
  have hq := h.2.2.1
  have r1 := hr.qty; have r2 := hr.newQty
  unfold inI at r1 r2
  unfold F_snaffleref07_Open isub
  rw [r_order_Right, ob_some, decide_eq_true h]
  unfold openZ at *
  rw [bnot_true, bor_false, c_ieq]
  split
  · rfl
  · rename_i hp
    rw [if_neg hp] at hb
    rw [c_ilt]
    split
    · rw [wr_in ⟨by omega, by omega⟩]; congr 1; omega
    · rw [wr_in ⟨by omega, by omega⟩]; congr 1; omega
theorem r_order_Worth {o : SOrder} (h : ordP o) (hr : Ok_order o) : F_snaffleref07_Worth o = some (if worthZ o ≤ 9223372036854775807 then (worthZ o, 0) else (0, 3)) := by
  refine Wq.eq ?_
  have hp := h.1.2.2.2.2.2
  have hf := h.2.2.1
  have hf0 := h.2.1
  have rq := hr.qty; have rp := hr.price; have rf := hr.filled; have rn := hr.newQty; have rnp := hr.newPrice
  unfold inI at rq rf rn
  unfold F_snaffleref07_Worth isub
  rw [r_order_Right, ob_some, decide_eq_true h, bnot_true, cnd_false, c_ieq]
  by_cases h3 : o.phase = 3
  · rw [if_pos h3, w_some]
    have : worthZ o = 0 := by unfold worthZ; rw [if_pos h3]
    rw [this]; rfl
  · rw [if_neg h3, wr_in ⟨by omega, by omega⟩]
    refine (r_Mul ⟨by omega, by omega⟩ rp).bind fun y hy => ?_
    have m : 0 ≤ (o.qty - o.filled) * o.price := Int.mul_nonneg (by omega) (by omega)
    rw [worthZ_ne h3]
    generalize (o.qty - o.filled) * o.price = a at *
    have hia : inI a ↔ a ≤ 9223372036854775807 := by unfold inI; omega
    rw [hia] at hy
    rw [w_cnd]
    refine ⟨fun hb => (w_some _).2 ?_, fun hb => ?_⟩
    · have hn : ¬ a ≤ 9223372036854775807 := fun h => by rw [hy.1.2 h] at hb; cases hb
      rw [if_neg]; split <;> omega
    · have hyt : y.2 = true := by simpa [bnot] using hb
      have hale := hy.1.1 hyt
      have hya := hy.2 hyt
      rw [c_ilt]
      by_cases hn : o.filled < o.newQty
      · rw [if_pos hn, if_neg (by omega : ¬ o.newQty ≤ o.filled)]
        have hnp := new_pos h hn
        rw [wr_in ⟨by omega, by omega⟩]
        refine (r_Mul ⟨by omega, by omega⟩ rnp).bind fun z hz => ?_
        have m2 : 0 ≤ (o.newQty - o.filled) * o.newPrice := Int.mul_nonneg (by omega) (by omega)
        generalize (o.newQty - o.filled) * o.newPrice = b at *
        have hib : inI b ↔ b ≤ 9223372036854775807 := by unfold inI; omega
        rw [hib] at hz
        rw [w_cnd]
        refine ⟨fun hb => (w_some _).2 ?_, fun hb => ?_⟩
        · have hn : ¬ b ≤ 9223372036854775807 := fun h => by rw [hz.1.2 h] at hb; cases hb
          rw [if_neg (by omega)]
        · have hzt : z.2 = true := by simpa [bnot] using hb
          have hble := hz.1.1 hzt
          have hzb := hz.2 hzt
          rw [hya, hzb, c_ilt, if_pos (c := max a b ≤ 9223372036854775807) (by omega)]
          by_cases hab : a < b
          · rw [if_pos hab, w_some, Int.max_eq_right (by omega)]
          · rw [if_neg hab, w_some, Int.max_eq_left (by omega)]
      · rw [if_neg hn, if_pos (by omega : o.newQty ≤ o.filled), if_pos hale, w_some, hya]
theorem r_cell_Right {c : SCell} (h : Ok_cell c) : F_snaffleref08_Right c = some (decide (okC c)) := by
  refine Wq.dec ?_
  unfold F_snaffleref08_Right
  rw [r_Add h.pos h.buy, ob_some, r_Sub h.sell h.pos, ob_some, w_some]
  simp only [band_T, band_F, bor_T, bor_F, bnot_T, bnot_F, ilt_T, ilt_F, ile_T, ile_F, ieq_T, ieq_F, beq_T, beq_F, okC]
  by_cases h1 : inI (c.pos + c.buy)
  · by_cases h2 : inI (c.sell - c.pos)
    · simp only [if_pos h1, if_pos h2]
      constructor
      · rintro ⟨⟨⟨_, a⟩, b⟩, d⟩; exact ⟨h, ⟨a, b, d⟩, h1, h2⟩
      · rintro ⟨_, ⟨a, b, d⟩, _, _⟩; exact ⟨⟨⟨⟨trivial, trivial⟩, a⟩, b⟩, d⟩
    · simp only [if_neg h2]
      constructor
      · rintro ⟨⟨⟨⟨_, a⟩, _⟩, _⟩, _⟩; cases a
      · rintro ⟨_, _, _, a⟩; exact absurd a h2
  · simp only [if_neg h1]
    constructor
    · rintro ⟨⟨⟨⟨a, _⟩, _⟩, _⟩, _⟩; cases a
    · rintro ⟨_, _, a, _⟩; exact absurd a h1
theorem r_cell_Of {c : SCell} (h : okC c) : F_snaffleref08_Of c = some (ofC c) := by
  unfold F_snaffleref08_Of iadd isub
  rw [wr_in h.2.2.1, wr_in h.2.2.2]; rfl
theorem r_limit_Right (x : SExpo) : F_snaffleref09_Right x = some (decide (limP x)) := by
  refine Wq.dec ?_
  unfold F_snaffleref09_Right limP
  simp only [w_some, band_T, band_F, bor_T, bor_F, bnot_T, bnot_F, ilt_T, ilt_F, ile_T, ile_F, ieq_T, ieq_F, beq_T, beq_F]
  grind
theorem r_Cap (a b c : Int) : F_snaffleref09_Cap a b c = some (decide (capP a b c)) := by
  refine Wq.dec ?_
  unfold F_snaffleref09_Cap capP
  simp only [w_some, band_T, band_F, bor_T, bor_F, bnot_T, bnot_F, ilt_T, ilt_F, ile_T, ile_F, ieq_T, ieq_F, beq_T, beq_F]
  omega
theorem r_Against (a b l : SExpo) : F_snaffleref09_Against a b l = some (decide (againstP a b l)) := by
  refine Wq.dec ?_
  unfold F_snaffleref09_Against againstP
  simp only [r_Cap, ob_some]
  by_cases h1 : capP a.long b.long l.long
  · simp only [decide_eq_true h1, bnot_true, cnd_false, ob_some, bor_true, w_some]; simp [h1]
  · simp only [decide_eq_false h1, bnot_false, cnd_true, ob_some, bor_false]
    by_cases h2 : capP a.short b.short l.short
    · simp only [decide_eq_true h2, bnot_true, cnd_false, ob_some, bor_true, w_some]; simp [h1, h2]
    · simp only [decide_eq_false h2, bnot_false, cnd_true, ob_some, bor_false, w_some]
      simp [h1, h2]
theorem r_Whole {l : List SCell} (hl : l.length < 999999) (h : ∀ c ∈ l, 0 ≤ c.opn ∧ inI c.opn) : F_snaffleref09_Whole l = some (if wholeZ l ≤ 9223372036854775807 then (wholeZ l, true) else (0, false)) := by
  refine Wq.eq ?_
  have hn : ∀ x ∈ l.map SCell.opn, 0 ≤ x := fun x hx => by
    obtain ⟨c, hc, rfl⟩ := List.mem_map.1 hx
    exact (h c hc).1
  have htk : ∀ i, (l.take i).map SCell.opn = (l.map SCell.opn).take i := fun i => by rw [List.map_take]
  unfold F_snaffleref09_Whole
  refine Wq.bind (Q := fun w : (Bool × Int) ⊕ (Int × Bool × Int) => match w with | .inl w => w = (false, 0) ∧ ¬ wholeZ l ≤ 9223372036854775807 | .inr w => w.1 = wholeZ l ∧ wholeZ l ≤ 9223372036854775807)
    (w_for (n := l.length) (step := fun v : Int × Int × Bool × Int => L_snaffleref09_Whole_58 l v.fst v.snd.fst v.snd.snd.fst v.snd.snd.snd) (by omega)
      (fun i x => x.1 = wholeZ (l.take i) ∧ x.1 ≤ 9223372036854775807) _ ?_ ?_ _ 0 (Nat.zero_le _) (by simp [wholeZ])) ?_
  · rintro i ⟨a, b, c⟩ hi ⟨rfl, ha⟩
    simp only [L_snaffleref09_Whole_58]
    simp only at ha
    have hx := h l[i] (List.getElem_mem _)
    have hs : wholeZ (l.take (i + 1)) = wholeZ (l.take i) + l[i].opn := by
      unfold wholeZ
      rw [htk, htk, sum_take_succ _ i (by simpa using hi), List.getElem_map]
    have ht : 0 ≤ wholeZ (l.take i) := by unfold wholeZ; rw [htk]; exact sum_nn fun x hx => hn x (List.mem_of_mem_take hx)
    have htl : wholeZ (l.take (i + 1)) ≤ wholeZ l := by unfold wholeZ; rw [htk]; exact sum_take_le hn _
    rw [cnd_t (by rw [ilt_nat]; simpa using hi), cnd_t (inb l i hi), lget_nat l i hi, r_Add ⟨by omega, ha⟩ hx.2, ob_some, ← hs]
    by_cases hr : wholeZ (l.take (i + 1)) ≤ 9223372036854775807
    · rw [if_pos ⟨by omega, hr⟩]
      simp only [bnot_true, cnd_false, w_some]
      exact ⟨wr_succ (by omega), trivial, hr⟩
    · rw [if_neg (by unfold inI; omega)]
      simp only [bnot_false, cnd_true, w_some]
      exact ⟨trivial, by omega⟩
  · rintro ⟨a, b, c⟩ ⟨rfl, ha⟩
    simp only [L_snaffleref09_Whole_58]
    rw [cnd_f (by rw [ilt_nat]; simp), w_some]
    rw [List.take_length] at *
    exact ⟨rfl, ha⟩
  · rintro w hw
    cases w with
    | inl w => obtain ⟨rfl, h2⟩ := hw; simp only [sumK, w_some]; rw [if_neg h2]
    | inr w => obtain ⟨h1, h2⟩ := hw; simp only [sumK, w_some]; rw [if_pos h2, h1]
theorem r_Find (s : SState) (n : Int) (hl : s.orders.length < 999999) : F_snaffleref10_Find s n = some (findI s.orders n) := by
  refine Wq.eq ?_
  unfold F_snaffleref10_Find
  refine Wq.bind (Q := fun w : Int ⊕ Int => match w with
      | .inl k => ∃ i : Nat, k = i ∧ ∃ h : i < s.orders.length, s.orders[i].id = n ∧ ∀ j, (h : j < s.orders.length) → j < i → s.orders[j].id ≠ n
      | .inr _ => ∀ j, (h : j < s.orders.length) → s.orders[j].id ≠ n)
    (w_for (n := s.orders.length) (step := fun v : Int × Int => L_snaffleref10_Find_26 n s v.fst v.snd) (by omega) (fun i x => ∀ j, (h : j < s.orders.length) → j < i → s.orders[j].id ≠ n) _ ?_ ?_ _ 0 (Nat.zero_le _) (fun j _ h => by omega)) ?_
  · rintro i x hi hx
    simp only [L_snaffleref10_Find_26]
    rw [cnd_t (by rw [ilt_nat]; simpa using hi), cnd_t (inb _ i hi), lget_nat _ i hi, w_cnd]
    refine ⟨fun he => (w_some _).2 ⟨i, rfl, hi, by simpa [ieq] using he, hx⟩, fun he => (w_some _).2 ⟨wr_succ (by omega), fun j hj hji => ?_⟩⟩
    by_cases e : j = i
    · subst e; simpa [ieq] using he
    · exact hx j hj (by omega)
  · rintro x hx
    simp only [L_snaffleref10_Find_26]
    rw [cnd_f (by rw [ilt_nat]; simp), w_some]
    exact fun j hj => hx j hj hj
  · rintro w hw
    cases w with
    | inl k =>
      obtain ⟨i, rfl, hi, h1, h2⟩ := hw
      have : findZ s.orders n = some i := by
        unfold findZ
        rw [List.findIdx?_eq_some_iff_getElem]
        exact ⟨hi, by simpa using h1, fun j hj => by simpa using h2 j (by omega) hj⟩
      simp only [sumK, w_some, findI, this]
    | inr k =>
      have : findZ s.orders n = none := by
        unfold findZ
        rw [List.findIdx?_eq_none_iff]
        intro o ho
        obtain ⟨j, hj, rfl⟩ := List.getElem_of_mem ho
        simpa using hw j hj
      simp only [sumK, w_some, findI, this]
theorem addC_one (c : SCell) {o : SOrder} (h : o.side = 1 ∨ o.side = 2) : addC c o = if o.side = 1 then ⟨c.pos, c.buy + openZ o, c.sell, c.opn + worthZ o⟩ else ⟨c.pos, c.buy, c.sell + openZ o, c.opn + worthZ o⟩ := by
  unfold addC
  by_cases e : o.side = 1
  · rw [if_pos e, if_neg (by omega)]
  · rw [if_neg e, if_pos (by omega)]
/-- One cell, made of the orders. -/
theorem r_cell {s : SState} (hk : ∀ o ∈ s.orders, orderIn s o ∧ Ok_order o) (hs : sizedP s) (hol : s.orders.length < 999999) (i : Nat) (pos : Int) (a : Bool) (b : List SCell) :
    Wq (iterN (fun v : Int × Bool × List SCell × SCell => L_snaffleref10_Cells_14922 (i : Int) s v.fst v.snd.fst v.snd.snd.fst v.snd.snd.snd) LF (0, a, b, SCell.mk pos 0 0 0)) fun w => match w with
      | .inl w => w.1 = false ∧ w.2.1 = [] ∧ ¬ fitC (sumC s.symbols i s.orders)
      | .inr w => w.1 = a ∧ w.2.1 = b ∧ w.2.2 = cadd ⟨pos, 0, 0, 0⟩ (sumC s.symbols i s.orders) ∧ fitC (sumC s.symbols i s.orders) := by
  have hz : cadd ⟨pos, 0, 0, 0⟩ zC = SCell.mk pos 0 0 0 := by apply cell_ext <;> simp [cadd, zC]
  refine w_for (n := s.orders.length) hol (fun k x => x.1 = a ∧ x.2.1 = b ∧ x.2.2 = cadd ⟨pos, 0, 0, 0⟩ (sumC s.symbols i (s.orders.take k)) ∧ fitC (sumC s.symbols i (s.orders.take k))) _ ?_ ?_ _ 0 (Nat.zero_le _) ⟨rfl, rfl, by simp only [List.take_zero, sumC]; exact hz.symm, by simp only [List.take_zero, sumC, fitC, zC]; decide⟩
  · rintro k ⟨x1, x2, x3⟩ hkl ⟨rfl, rfl, g3, g4⟩
    simp only at g3 g4
    obtain ⟨hoi, hor⟩ := hk s.orders[k] (List.getElem_mem _)
    obtain ⟨ho, _, ha, hy⟩ := id hoi
    have hside := ho.1.2.2.2.1
    have hacc := ho.1.2.1; have hsym := ho.1.2.2.1
    have m := mul_le64 (a := s.orders[k].account) (b := s.symbols) (by omega) (by have := hs.1.2; omega) (by have := hs.2.1.1; omega) (by have := hs.2.1.2; omega)
    have hwr : wr IntKind.i64 (iadd (wr IntKind.i64 (imul s.orders[k].account s.symbols)) s.orders[k].symbol) = atZ s.symbols s.orders[k] := by
      unfold iadd imul atZ
      rw [wr_small (n := s.orders[k].account * s.symbols) m.1 (by omega), wr_small (by omega) (by omega)]
    have hstep : sumC s.symbols i (s.orders.take (k + 1)) = cadd (sumC s.symbols i (s.orders.take k)) (inC s.symbols i s.orders[k]) := by
      rw [List.take_succ_eq_append_getElem hkl, sumC_append, sumC_one]
    have hnn := sumC_nn s.symbols i (l := s.orders.take k) fun o h => ⟨(hk o (List.mem_of_mem_take h)).1.1, (hk o (List.mem_of_mem_take h)).2⟩
    have hO := openZ_rng ho hor
    have hW := worthZ_nn ho
    have hfull : fitC (sumC s.symbols i s.orders) → fitC (sumC s.symbols i (s.orders.take (k + 1))) := fun h => by
      have e : sumC s.symbols i s.orders = cadd (sumC s.symbols i (s.orders.take (k + 1))) (sumC s.symbols i (s.orders.drop (k + 1))) := by
        rw [← sumC_append, List.take_append_drop]
      rw [e] at h
      exact fit_mono (sumC_nn _ _ fun o h => ⟨(hk o (List.mem_of_mem_drop h)).1.1, (hk o (List.mem_of_mem_drop h)).2⟩) h
    simp only [L_snaffleref10_Cells_14922]
    rw [cnd_t (by rw [ilt_nat]; simpa using hkl), cnd_t (inb _ k hkl), lget_nat _ k hkl, hwr, c_bnot, c_ieq]
    by_cases hat : atZ s.symbols s.orders[k] = (i : Int)
    case neg =>
      rw [if_neg hat, w_some]
      refine ⟨wr_succ (by omega), rfl, rfl, ?_, ?_⟩
      · rw [hstep]; unfold inC; rw [if_neg hat, cadd_z]; exact g3
      · rw [hstep]; unfold inC; rw [if_neg hat, cadd_z]; exact g4
    rw [if_pos hat, r_order_Worth ho hor, ob_some, r_order_Open ho hor]
    have hin : inC s.symbols i s.orders[k] = wC s.orders[k] := inC_at hat
    rw [hin] at hstep
    generalize sumC s.symbols i (s.orders.take k) = c at *
    obtain ⟨n0, n1, n2, n3⟩ := hnn
    obtain ⟨f1, f2, f3⟩ := id g4
    have e1 : x3.opn = c.opn := by rw [g3]; simp [cadd]
    have e2 : x3.buy = c.buy := by rw [g3]; simp [cadd]
    have e3 : x3.sell = c.sell := by rw [g3]; simp [cadd]
    have e4 : x3.pos = pos := by rw [g3]; simp [cadd, n0]
    have iw : ∀ w : Int, 0 ≤ w → w ≤ 9223372036854775807 → inI w := fun w h1 h2 => ⟨by omega, h2⟩
    by_cases hw : worthZ s.orders[k] ≤ 9223372036854775807
    case neg =>
      have hno : ¬ fitC (sumC s.symbols i s.orders) := fun h => by
        have h := hfull h
        rw [hstep] at h
        have := h.2.2
        have e : (wC s.orders[k]).opn = worthZ s.orders[k] := by unfold wC; split <;> rfl
        simp only [cadd, e] at this; omega
      rw [if_neg hw]
      simp only [ob_some]
      rw [e1, r_Add (iw _ n3 f3) (by decide), ob_some, c_ieq]
      split
      · rw [e2, r_Add (iw _ n1 f1) (iw _ hO.1 hO.2), ob_some, cnd_t (by simp only [band_T, band_F, bor_T, bor_F, bnot_T, bnot_F, ilt_T, ilt_F, ile_T, ile_F, ieq_T, ieq_F, beq_T, beq_F]; left; left; decide), w_some]; exact ⟨rfl, rfl, hno⟩
      · rw [e3, r_Add (iw _ n2 f2) (iw _ hO.1 hO.2), ob_some, cnd_t (by simp only [band_T, band_F, bor_T, bor_F, bnot_T, bnot_F, ilt_T, ilt_F, ile_T, ile_F, ieq_T, ieq_F, beq_T, beq_F]; left; left; decide), w_some]; exact ⟨rfl, rfl, hno⟩
    rw [if_pos hw]
    simp only [ob_some]
    have hao := addC_one c hside
    rw [addC_eq] at hao
    rw [e1, r_Add (iw _ n3 f3) (iw _ hW hw), ob_some, c_ieq]
    by_cases hsd : s.orders[k].side = 1
    · rw [if_pos hsd] at hao ⊢
      rw [e2, r_Add (iw _ n1 f1) (iw _ hO.1 hO.2), ob_some]
      rw [hao] at hstep
      by_cases h1 : c.opn + worthZ s.orders[k] ≤ 9223372036854775807
      · by_cases h2 : c.buy + openZ s.orders[k] ≤ 9223372036854775807
        · rw [if_pos (iw _ (by omega) h1), if_pos (iw _ (by omega) h2)]
          simp only [ieq_00, bnot_true, bor_false, cnd_false]
          rw [w_some]
          refine ⟨wr_succ (by omega), rfl, rfl, ?_, ?_⟩
          · rw [hstep]; apply cell_ext <;> simp only [cadd] <;> omega
          · rw [hstep]; exact ⟨h2, f2, h1⟩
        · have hno : ¬ fitC (sumC s.symbols i s.orders) := fun h => by
            have h := (hfull h).1; rw [hstep] at h; exact h2 h
          rw [if_pos (iw _ (by omega) h1), if_neg (fun h => h2 h.2)]
          simp only [ieq_00, bnot_true, bor_false, bnot_false, cnd_true]
          exact (w_some _).2 ⟨rfl, rfl, hno⟩
      · have hno : ¬ fitC (sumC s.symbols i s.orders) := fun h => by
          have h := (hfull h).2.2; rw [hstep] at h; exact h1 h
        rw [if_neg (c := inI (c.opn + worthZ s.orders[k])) (fun h => h1 h.2)]
        simp only [ieq_00, bnot_true, bor_false, bnot_false, bor_true, cnd_true]
        exact (w_some _).2 ⟨rfl, rfl, hno⟩
    · rw [if_neg hsd] at hao ⊢
      rw [e3, r_Add (iw _ n2 f2) (iw _ hO.1 hO.2), ob_some]
      rw [hao] at hstep
      by_cases h1 : c.opn + worthZ s.orders[k] ≤ 9223372036854775807
      · by_cases h2 : c.sell + openZ s.orders[k] ≤ 9223372036854775807
        · rw [if_pos (iw _ (by omega) h1), if_pos (iw _ (by omega) h2)]
          simp only [ieq_00, bnot_true, bor_false, cnd_false]
          rw [w_some]
          refine ⟨wr_succ (by omega), rfl, rfl, ?_, ?_⟩
          · rw [hstep]; apply cell_ext <;> simp only [cadd] <;> omega
          · rw [hstep]; exact ⟨f1, h2, h1⟩
        · have hno : ¬ fitC (sumC s.symbols i s.orders) := fun h => by
            have h := (hfull h).2.1; rw [hstep] at h; exact h2 h
          rw [if_pos (iw _ (by omega) h1), if_neg (fun h => h2 h.2)]
          simp only [ieq_00, bnot_true, bor_false, bnot_false, cnd_true]
          exact (w_some _).2 ⟨rfl, rfl, hno⟩
      · have hno : ¬ fitC (sumC s.symbols i s.orders) := fun h => by
          have h := (hfull h).2.2; rw [hstep] at h; exact h1 h
        rw [if_neg (c := inI (c.opn + worthZ s.orders[k])) (fun h => h1 h.2)]
        simp only [ieq_00, bnot_true, bor_false, bnot_false, bor_true, cnd_true]
        exact (w_some _).2 ⟨rfl, rfl, hno⟩
  · rintro ⟨x1, x2, x3⟩ ⟨g1, g2, g3, g4⟩
    simp only [L_snaffleref10_Cells_14922]
    rw [cnd_f (by rw [ilt_nat]; simp), w_some]
    rw [List.take_length] at g3 g4
    exact ⟨g1, g2, g3, g4⟩
/-- An account's part of a list of cells, as it is cut. -/
theorem cut_ok {n m : Int} (hn : 1 ≤ n ∧ n ≤ 8) (hm : 1 ≤ m ∧ m ≤ 8) {cs : List SCell} (hc : len cs = n * m) {a : Int} (ha : 0 ≤ a) (ha2 : a < n) :
    band (band (ile 0 (wr IntKind.i64 (imul a m))) (ile (wr IntKind.i64 (imul a m)) (wr IntKind.i64 (imul (wr IntKind.i64 (iadd a 1)) m)))) (ile (wr IntKind.i64 (imul (wr IntKind.i64 (iadd a 1)) m)) (len cs)) = true ∧
    ltake (ldrop cs (itn (wr IntKind.i64 (imul a m)))) (itn (isub (wr IntKind.i64 (imul (wr IntKind.i64 (iadd a 1)) m)) (wr IntKind.i64 (imul a m)))) = acctZ m cs a := by
  have q := mul_le64 (a := a) (b := m) (by omega) (by omega) (by omega) (by omega)
  have q2 := mul_le64 (a := a + 1) (b := m) (by omega) (by omega) (by omega) (by omega)
  have l : (a + 1) * m ≤ n * m := Int.mul_le_mul_of_nonneg_right (by omega) (by omega)
  have e : (a + 1) * m = a * m + m := by rw [Int.add_mul, Int.one_mul]
  rw [show imul a m = a * m from rfl, wr_small q.1 (by omega), show iadd a 1 = a + 1 from rfl, wr_small (n := a + 1) (by omega) (by omega),
    show imul (a + 1) m = (a + 1) * m from rfl, wr_small q2.1 (by omega)]
  refine ⟨by simp only [band_T, ile_T]; omega, ?_⟩
  rw [show isub ((a + 1) * m) (a * m) = m from by unfold isub; omega]
  rfl
theorem r_Cells {s : SState} (hs : sizedP s) (hk : ∀ o ∈ s.orders, orderIn s o ∧ Ok_order o) (hcl : okL ok_cell s.cells) :
    Wq (F_snaffleref10_Cells s) fun r => (r.2 = true ↔ fitS (withS s s.orders)) ∧ (r.2 = true → r.1 = mkCells s s.orders) := by
  obtain ⟨hc, _, _, hol⟩ := hs.lens
  have hnn : ∀ i : Nat, nnC (sumC s.symbols i s.orders) := fun i => sumC_nn _ _ fun o h => ⟨(hk o h).1.1, (hk o h).2⟩
  unfold F_snaffleref10_Cells
  refine Wq.bind (Q := fun w : (Bool × List SCell) ⊕ (List SCell × Bool × List SCell) => match w with
      | .inl w => w.1 = false ∧ ¬ ∀ c ∈ mkCells s s.orders, okC c
      | .inr w => w.1 = mkCells s s.orders ∧ ∀ c ∈ mkCells s s.orders, okC c)
    (w_for (n := s.cells.length) (step := fun v : Int × List SCell × Bool × List SCell => L_snaffleref10_Cells_58 s v.fst v.snd.fst v.snd.snd.fst v.snd.snd.snd) (by omega)
      (fun i x => x.1 = (mkCells s s.orders).take i ∧ ∀ c ∈ x.1, okC c) _ ?_ ?_ _ 0 (Nat.zero_le _) ⟨by simp, by simp⟩) ?_
  · rintro i ⟨x1, x2, x3⟩ hi ⟨g1, g2⟩
    simp only at g1 g2
    have him : i < (mkCells s s.orders).length := by rw [mkCells_len]; exact hi
    have hci : Ok_cell s.cells[i] := hcl.1 _ (List.getElem_mem hi)
    simp only [L_snaffleref10_Cells_58]
    rw [cnd_t (by rw [ilt_nat]; simpa using hi), cnd_t (inb _ i hi), lget_nat _ i hi]
    refine Wq.bind (r_cell hk hs (by omega) i s.cells[i].pos x2 x3) fun w hw => ?_
    have hmk := mkCells_get s s.orders i him
    have hokfit : okC (mkCells s s.orders)[i] → fitC (sumC s.symbols i s.orders) := fun h => by
      have := fit_of_ok h
      rw [hmk] at this
      unfold fitC cadd at this
      simpa [fitC] using this
    cases w with
    | inl w =>
      obtain ⟨h1, h2, h3⟩ := hw
      simp only [sumK, w_some]
      exact ⟨h1, fun h => h3 (hokfit (h _ (List.getElem_mem him)))⟩
    | inr w =>
      obtain ⟨h1, h2, h3, h4⟩ := hw
      simp only [sumK]
      have hokc : Ok_cell w.2.2 := by
        rw [h3]
        have n := hnn i
        obtain ⟨n0, n1, n2, n3⟩ := n
        obtain ⟨f1, f2, f3⟩ := h4
        have hp := hci.pos
        refine ⟨?_, ?_, ?_, ?_⟩ <;> simp only [cadd] <;> unfold inI at * <;> omega
      rw [r_cell_Right hokc, ob_some, c_bnot, c_dec, h3, ← hmk]
      by_cases hok : okC (mkCells s s.orders)[i]
      · rw [if_pos hok, cnd_t (ile_t (by rw [g1]; simp [lapp, len]; omega)), w_some]
        refine ⟨wr_succ (by omega), ?_, fun c hc => ?_⟩
        · rw [List.take_succ_eq_append_getElem him, ← g1]; rfl
        · rcases List.mem_append.1 hc with hc | hc
          · exact g2 c hc
          · rw [List.mem_singleton] at hc; subst hc; exact hok
      · rw [if_neg hok, w_some]
        exact ⟨rfl, fun h => hok (h _ (List.getElem_mem him))⟩
  · rintro ⟨x1, x2, x3⟩ ⟨g1, g2⟩
    simp only [L_snaffleref10_Cells_58]
    rw [cnd_f (by rw [ilt_nat]; simp), w_some]
    have e : (mkCells s s.orders).take s.cells.length = mkCells s s.orders := List.take_of_length_le (by rw [mkCells_len]; exact Nat.le_refl _)
    rw [e] at g1
    simp only at g1 g2
    exact ⟨g1, by rw [← g1]; exact g2⟩
  · rintro w hw
    cases w with
    | inl w =>
      obtain ⟨h1, h2⟩ := hw
      simp only [sumK, w_some, h1]
      exact ⟨⟨fun h => (by cases h), fun h => absurd h.1 h2⟩, fun h => (by cases h)⟩
    | inr w =>
      obtain ⟨h1, h2⟩ := hw
      simp only [sumK]
      have hlen : len (mkCells s s.orders) = s.accounts * s.symbols := by simp only [len, mkCells_len]; exact hs.2.2.1
      refine Wq.bind (Q := fun w : (Bool × List SCell) ⊕ (Bool × List SCell) => match w with | .inl w => w.1 = false ∧ ¬ acctOk s.accounts s.symbols (mkCells s s.orders) | .inr _ => acctOk s.accounts s.symbols (mkCells s s.orders))
        (w_for (n := s.accounts.toNat) (step := fun v : Int × Bool × List SCell => L_snaffleref10_Cells_122 w.fst s v.fst v.snd.fst v.snd.snd) (by have := hs.1.2; omega)
        (fun i x => ∀ a : Int, 0 ≤ a → a < i → wholeZ (acctZ s.symbols (mkCells s s.orders) a) ≤ 9223372036854775807) _ ?_ ?_ _ 0 (Nat.zero_le _) (fun a h1 h2 => by omega)) ?_
      · rintro i q hi hx
        have hia : (i : Int) < s.accounts := by omega
        obtain ⟨c1, c2⟩ := cut_ok hs.1 hs.2.1 (cs := mkCells s s.orders) hlen (a := (i : Int)) (by omega) hia
        simp only [L_snaffleref10_Cells_122, h1]
        rw [cnd_t (ilt_t hia), cnd_t c1, c2, r_Whole (by have := acctZ_len (n := s.symbols) (cs := mkCells s s.orders) (a := (i : Int)); rw [mkCells_len] at this; omega) (acct_nn h2 i), ob_some]
        by_cases hw : wholeZ (acctZ s.symbols (mkCells s s.orders) i) ≤ 9223372036854775807
        · rw [if_pos hw]
          simp only [bnot_true, cnd_false, w_some]
          refine ⟨wr_succ (by have := hs.1.2; omega), fun a h1 h2 => ?_⟩
          by_cases e : a = i
          · subst e; exact hw
          · exact hx a h1 (by omega)
        · rw [if_neg hw]
          simp only [bnot_false, cnd_true, w_some]
          exact ⟨trivial, fun h => hw (h i (by omega) hia)⟩
      · rintro q hx
        simp only [L_snaffleref10_Cells_122]
        rw [cnd_f (ilt_f (by omega)), w_some]
        exact fun a h1 h2 => hx a h1 (by omega)
      · rintro v hv
        cases v with
        | inl v =>
          obtain ⟨g1, g2⟩ := hv
          simp only [sumK, w_some, g1]
          exact ⟨⟨fun h => (by cases h), fun h => absurd h.2 g2⟩, fun h => (by cases h)⟩
        | inr v =>
          simp only [sumK, w_some]
          exact ⟨⟨fun _ => ⟨h2, hv⟩, fun _ => trivial⟩, fun _ => h1⟩
theorem r_with {s : SState} {l : List SOrder} (hs : sizedP s) (hl : l.length ≤ 64) (hk : ∀ o ∈ l, orderIn s o ∧ Ok_order o) (hcl : okL ok_cell s.cells) :
    Wq (F_snaffleref10_with s l) fun r => (r.2 = true ↔ fitS (withS s l)) ∧ (r.2 = true → r.1 = withS s l) := by
  unfold F_snaffleref10_with
  have hs' : sizedP ⟨s.accounts, s.symbols, l, s.cells, s.limits, s.caps, s.kill, s.last, s.seq, s.lsn⟩ := sized_of hs rfl rfl rfl rfl rfl hl
  refine Wq.bind (r_Cells hs' hk hcl) fun r hr => (w_some _).2 ⟨hr.1, fun h => ?_⟩
  have := hr.2 h
  simp only [this]; rfl
theorem r_Limits {s t : SState} (hR : RightS s) (ht : sizedP t) (hn1 : t.accounts = s.accounts) (hn2 : t.symbols = s.symbols) (hok : ∀ c ∈ t.cells, okC c) (hac : acctOk s.accounts s.symbols t.cells) {a y : Int} (ha : 0 ≤ a) (ha2 : a < s.accounts) (hy : 0 ≤ y) (hy2 : y < s.symbols) :
    F_snaffleref10_Limits s t a y = some (decide (stopP s t a y)) := by
  have hs := hR.sized
  obtain ⟨l1, l2, l3, l4⟩ := hs.lens
  obtain ⟨m1, m2, m3, m4⟩ := ht.lens
  have hcl : t.cells.length = s.cells.length := by
    have := ht.2.2.1; have := hs.2.2.1
    rw [hn1, hn2] at *
    simp only [len] at *; omega
  obtain ⟨k, e1, e2, e3⟩ := s_cellOf hs a y ha ha2 hy hy2
  unfold F_book_ledger_cellOf at e1
  have e1 := Option.some.inj e1
  obtain ⟨c1, c2⟩ := cut_ok hs.1 hs.2.1 (cs := s.cells) hs.2.2.1 ha ha2
  obtain ⟨d1, d2⟩ := cut_ok hs.1 hs.2.1 (cs := t.cells) (by rw [← hs.2.2.1]; simp only [len]; omega) ha ha2
  have ln1 := acctZ_len (n := s.symbols) (cs := s.cells) (a := a)
  have ln2 := acctZ_len (n := s.symbols) (cs := t.cells) (a := a)
  have hac' : band (ile 0 a) (ilt a (len s.caps)) = true := band_t (ile_t ha) (ilt_t (by simp only [len]; omega))
  unfold F_snaffleref10_Limits
  rw [cnd_t c1, c2, r_Whole (by omega) (acct_nn hR.ok a), ob_some, if_pos (hR.acct a ha ha2), cnd_t d1, d2, r_Whole (by omega) (acct_nn hok a), ob_some, if_pos (hac a ha ha2)]
  rw [e1, cnd_t (inb _ k e3), lget_nat _ k e3, r_cell_Of (hR.ok _ (List.getElem_mem e3)), ob_some, cnd_t (inb _ k (by omega)), lget_nat _ k (by omega), r_cell_Of (hok _ (List.getElem_mem _)), ob_some, cnd_t (inb _ k (by omega)), lget_nat _ k (by omega), r_Against, ob_some,
    cnd_t (by rw [bor_T]; exact .inl hac'), c_bnot, c_dec, r_Cap]
  have hst : stopP s t a y ↔ againstP (ofC s.cells[k]) (ofC (t.cells[k]'(by omega))) (s.limits[k]'(by omega)) ∨ capP (wholeZ (acctZ s.symbols s.cells a)) (wholeZ (acctZ s.symbols t.cells a)) (lget s.caps (itn a)) := by
    unfold stopP
    rw [← e2, lget_nat _ k e3, lget_nat _ k (by omega), lget_nat _ k (by omega)]
  by_cases hx : againstP (ofC s.cells[k]) (ofC (t.cells[k]'(by omega))) (s.limits[k]'(by omega))
  · rw [if_pos hx, ob_some, decide_eq_true hx, bor_true, decide_eq_true (hst.2 (.inl hx))]
  · rw [if_neg hx, ob_some, decide_eq_false hx, bor_false]
    congr 1
    rw [decide_eq_decide, hst]
    exact ⟨fun h => .inr h, fun h => h.resolve_left hx⟩
theorem r_put {l : List SOrder} {m : Nat} (hm : m < l.length) (hl : l.length < 999999) (p : SOrder) : F_snaffleref10_put l m p = some (l.set m p) := by
  unfold F_snaffleref10_put
  rw [cnd_t (ile_t (by simp only [len]; omega)), cnd_t (inb _ m hm), lset_eq]
theorem ascP_iff (l : List SOrder) : ascP l ↔ ∀ i : Nat, (h : i + 1 < l.length) → l[i].id < l[i + 1].id := by
  constructor
  · exact fun h i hi => List.pairwise_iff_getElem.1 h i (i + 1) (by omega) hi (by omega)
  · intro h
    refine List.pairwise_iff_getElem.2 fun i j hi hj hij => ?_
    have key : ∀ d : Nat, (hd : i + d + 1 < l.length) → l[i].id < l[i + d + 1].id := fun d => by
      induction d with
      | zero => exact fun hd => h i hd
      | succ d ih => exact fun hd => Int.lt_trans (ih (by omega)) (h (i + d + 1) (by omega))
    have e : j = i + (j - i - 1) + 1 := by omega
    have := key (j - i - 1) (by omega)
    simp only [← e] at this
    exact this
theorem r_Right {s : SState} (hr : Ok_state s) (hsh : shortP s) : Wq (F_snaffleref10_Right s) fun b => b = true ↔ RightS s := by
  obtain ⟨l1, l2, l3, l4⟩ := hsh
  unfold F_snaffleref10_Right
  rw [w_cnd]
  refine ⟨fun h => (w_some _).2 ⟨fun h => (by cases h), fun hR => ?_⟩, fun h => ?_⟩
  · obtain ⟨a1, a2, a3, a4, a5, a6⟩ := hR.sized
    have m := mul_le64 (a := s.accounts) (b := s.symbols) (by omega) (by omega) (by omega) (by omega)
    simp only [band_T, band_F, bor_T, bor_F, bnot_T, bnot_F, ilt_T, ilt_F, ile_T, ile_F, ieq_T, ieq_F, beq_T, beq_F, show imul s.accounts s.symbols = s.accounts * s.symbols from rfl, wr_small m.1 (show s.accounts * s.symbols < 1000000000000 by omega), len] at h
    simp only [len] at a3 a4 a5
    omega
  have hs : sizedP s := by
    simp only [band_T, band_F, bor_T, bor_F, bnot_T, bnot_F, ilt_T, ilt_F, ile_T, ile_F, ieq_T, ieq_F, beq_T, beq_F, len] at h
    have m := mul_le64 (a := s.accounts) (b := s.symbols) (by omega) (by omega) (by omega) (by omega)
    rw [show imul s.accounts s.symbols = s.accounts * s.symbols from rfl, wr_small m.1 (by omega)] at h
    unfold sizedP
    simp only [len]
    omega
  rw [w_cnd]
  refine ⟨fun h => (w_some _).2 ⟨fun h => (by cases h), fun hR => ?_⟩, fun h => ?_⟩
  · have b1 := hR.fine.last; have b2 := hR.fine.seq; have b3 := hR.fine.lsn
    simp only [band_T, band_F, bor_T, bor_F, bnot_T, bnot_F, ilt_T, ilt_F, ile_T, ile_F, ieq_T, ieq_F, beq_T, beq_F] at h
    omega
  simp only [band_T, band_F, bor_T, bor_F, bnot_T, bnot_F, ilt_T, ilt_F, ile_T, ile_F, ieq_T, ieq_F, beq_T, beq_F] at h
  refine Wq.bind (Q := fun w : Bool ⊕ Bool => match w with
      | .inl b => b = false ∧ ¬ ((∀ o ∈ s.orders, orderIn s o ∧ o.id ≤ s.last) ∧ ascP s.orders)
      | .inr _ => (∀ o ∈ s.orders, orderIn s o ∧ o.id ≤ s.last) ∧ ascP s.orders)
    (w_for (n := s.orders.length) (step := fun v : Int × Bool => L_snaffleref10_Right_122 s v.fst v.snd) l1
      (fun i _ => (∀ o ∈ s.orders.take i, orderIn s o ∧ o.id ≤ s.last) ∧ ∀ k : Nat, (h : k + 1 < s.orders.length) → k + 1 < i → s.orders[k].id < s.orders[k + 1].id) _ ?_ ?_ _ 0 (Nat.zero_le _) (by simp)) ?_
  · rintro i q hi ⟨g1, g2⟩
    simp only [L_snaffleref10_Right_122]
    rw [cnd_t (by rw [ilt_nat]; simpa using hi), cnd_t (inb _ i hi), lget_nat _ i hi, r_order_Right, ob_some]
    have hbad : ∀ b : Bool, (b = true ↔ ¬ (orderIn s s.orders[i] ∧ s.orders[i].id ≤ s.last)) → b = bor (bor (bor (bor (bnot (decide (ordP s.orders[i]))) (ieq s.orders[i].phase 3)) (ile s.accounts s.orders[i].account)) (ile s.symbols s.orders[i].symbol)) (ilt s.last s.orders[i].id) := fun b hb => by
      rw [Bool.eq_iff_iff, hb]
      unfold orderIn
      simp only [band_T, band_F, bor_T, bor_F, bnot_T, bnot_F, ilt_T, ilt_F, ile_T, ile_F, ieq_T, ieq_F, beq_T, beq_F, decide_eq_false_iff_not]
      constructor
      · intro h
        by_cases a : ordP s.orders[i]
        · by_cases b : s.orders[i].phase = 3
          · exact .inl (.inl (.inl (.inr b)))
          · by_cases c : s.accounts ≤ s.orders[i].account
            · exact .inl (.inl (.inr c))
            · by_cases d : s.symbols ≤ s.orders[i].symbol
              · exact .inl (.inr d)
              · exact .inr (by by_cases e : s.orders[i].id ≤ s.last; exact absurd ⟨⟨a, b, by omega, by omega⟩, e⟩ h; omega)
        · exact .inl (.inl (.inl (.inl a)))
      · rintro ((((a | a) | a) | a) | a) ⟨⟨b1, b2, b3, b4⟩, b5⟩
        · exact a b1
        · exact b2 a
        · omega
        · omega
        · omega
    by_cases hok : orderIn s s.orders[i] ∧ s.orders[i].id ≤ s.last
    · rw [← hbad false (by simp [hok])]
      simp only [bnot_false, band_true, bor_false]
      by_cases h0 : i = 0
      · subst h0
        rw [cnd_t (by simp only [band_T, band_F, bor_T, bor_F, bnot_T, bnot_F, ilt_T, ilt_F, ile_T, ile_F, ieq_T, ieq_F, beq_T, beq_F]; right; decide), cnd_f (by simp only [band_T, band_F, bor_T, bor_F, bnot_T, bnot_F, ilt_T, ilt_F, ile_T, ile_F, ieq_T, ieq_F, beq_T, beq_F]; left; decide), w_some]
        refine ⟨wr_succ (by omega), fun o ho => ?_, fun k hk1 hk2 => by omega⟩
        rcases (mem_take_succ hi).1 ho with ho | rfl
        · exact g1 o ho
        · exact hok
      · have hw : wr IntKind.i64 (isub (i : Int) 1) = ((i - 1 : Nat) : Int) := by unfold isub; rw [wr_small (by omega) (by omega)]; omega
        have hi1 : i - 1 < s.orders.length := by omega
        rw [hw, cnd_t (by rw [bor_T]; exact .inl (inb _ _ hi1)), lget_nat _ _ hi1, ilt_t (show (0 : Int) < (i : Int) by omega), band_true, c_ile]
        have hii : s.orders[i - 1 + 1]'(by omega) = s.orders[i] := by congr 1; omega
        by_cases hle : s.orders[i].id ≤ s.orders[i - 1].id
        · rw [if_pos hle, w_some]
          refine ⟨rfl, fun ⟨_, h2⟩ => ?_⟩
          have := (ascP_iff _).1 h2 (i - 1) (by omega)
          rw [hii] at this; omega
        · rw [if_neg hle, w_some]
          refine ⟨wr_succ (by omega), fun o ho => ?_, fun k hk1 hk2 => ?_⟩
          · rcases (mem_take_succ hi).1 ho with ho | rfl
            · exact g1 o ho
            · exact hok
          · by_cases e : k + 1 = i
            · have e2 : k = i - 1 := by omega
              subst e2
              rw [hii]; omega
            · exact g2 k hk1 (by omega)
    · rw [← hbad true (by simp [hok])]
      simp only [bnot_true, band_false, bnot_false, bor_true, bor_true', cnd_true]
      rw [w_some]
      exact ⟨rfl, fun h2 => hok (h2.1 _ (List.getElem_mem _))⟩
  · rintro q ⟨g1, g2⟩
    simp only [L_snaffleref10_Right_122]
    rw [cnd_f (by rw [ilt_nat]; simp), w_some]
    rw [List.take_length] at g1
    exact ⟨g1, (ascP_iff _).2 fun k hk => g2 k hk hk⟩
  rintro w hw
  cases w with
  | inl b =>
    obtain ⟨rfl, hn⟩ := hw
    simp only [sumK, w_some]
    exact ⟨fun h => (by cases h), fun hR => absurd ⟨fun o ho => ⟨hR.fine.ords o ho, hR.fine.ids o ho⟩, hR.fine.asc⟩ hn⟩
  | inr b =>
  obtain ⟨ho, has⟩ := hw
  simp only [sumK]
  refine Wq.bind (Q := fun w : Bool ⊕ Bool => match w with | .inl b => b = false ∧ ¬ ∀ x ∈ s.limits, limP x | .inr _ => ∀ x ∈ s.limits, limP x)
    (w_for (n := s.limits.length) (step := fun v : Int × Bool => L_snaffleref10_Right_250 s v.fst v.snd) l3 (fun i _ => ∀ x ∈ s.limits.take i, limP x) _ ?_ ?_ _ 0 (Nat.zero_le _) (by simp)) ?_
  · rintro i q hi hx
    simp only [L_snaffleref10_Right_250]
    rw [cnd_t (by rw [ilt_nat]; simpa using hi), cnd_t (inb _ i hi), lget_nat _ i hi, r_limit_Right, ob_some, c_bnot, c_dec]
    split
    · rename_i h5
      rw [w_some]
      refine ⟨wr_succ (by omega), fun x hx' => ?_⟩
      rcases (mem_take_succ hi).1 hx' with h6 | rfl
      · exact hx x h6
      · exact h5
    · rename_i h5
      rw [w_some]
      exact ⟨rfl, fun h2 => h5 (h2 _ (List.getElem_mem _))⟩
  · rintro x hx
    simp only [L_snaffleref10_Right_250]
    rw [cnd_f (by rw [ilt_nat]; simp), w_some]
    rwa [List.take_length] at hx
  rintro w hw
  cases w with
  | inl b =>
    obtain ⟨rfl, hn⟩ := hw
    simp only [sumK, w_some]
    exact ⟨fun h => (by cases h), fun hR => absurd hR.fine.lims hn⟩
  | inr b =>
  simp only [sumK]
  refine Wq.bind (Q := fun w : Bool ⊕ Bool => match w with | .inl b => b = false ∧ ¬ ∀ x ∈ s.caps, 0 ≤ x | .inr _ => ∀ x ∈ s.caps, 0 ≤ x)
    (w_for (n := s.caps.length) (step := fun v : Int × Bool => L_snaffleref10_Right_506 s v.fst v.snd) l4 (fun i _ => ∀ x ∈ s.caps.take i, 0 ≤ x) _ ?_ ?_ _ 0 (Nat.zero_le _) (by simp)) ?_
  · rintro i q hi hx
    simp only [L_snaffleref10_Right_506]
    rw [cnd_t (by rw [ilt_nat]; simpa using hi), cnd_t (inb _ i hi), lget_nat _ i hi, c_ilt]
    split
    · rename_i h5
      rw [w_some]
      exact ⟨rfl, fun h2 => by have := h2 _ (List.getElem_mem hi); omega⟩
    · rename_i h5
      rw [w_some]
      refine ⟨wr_succ (by omega), fun x hx' => ?_⟩
      rcases (mem_take_succ hi).1 hx' with h6 | rfl
      · exact hx x h6
      · omega
  · rintro x hx
    simp only [L_snaffleref10_Right_506]
    rw [cnd_f (by rw [ilt_nat]; simp), w_some]
    rwa [List.take_length] at hx
  rintro v hv
  cases v with
  | inl b =>
    obtain ⟨rfl, hn⟩ := hv
    simp only [sumK, w_some]
    exact ⟨fun h => (by cases h), fun hR => absurd hR.fine.caps hn⟩
  | inr b =>
  simp only [sumK]
  have hfine : FineP s := ⟨fun o h => (ho o h).1, has, fun o h => (ho o h).2, by omega, by omega, by omega, hw, hv⟩
  have hall : ∀ o ∈ s.orders, orderIn s o ∧ Ok_order o := fun o h => ⟨(ho o h).1, hr.orders.1 o h⟩
  refine Wq.bind (r_Cells hs hall hr.cells) fun y hy => ?_
  rw [w_cnd]
  refine ⟨fun h => (w_some _).2 ⟨fun h => (by cases h), fun hR => ?_⟩, fun h => ?_⟩
  · rw [bnot_T] at h
    have : y.2 = true := hy.1.2 ⟨by show ∀ c ∈ mkCells s s.orders, okC c; rw [← hR.cells]; exact hR.ok, by show acctOk s.accounts s.symbols (mkCells s s.orders); rw [← hR.cells]; exact hR.acct⟩
    rw [this] at h; cases h
  rw [bnot_F] at h
  have hfit := hy.1.1 h
  have hc := hy.2 h
  rw [hc]
  refine Wq.bind (w_same (l := mkCells s s.orders) (m := s.cells) (mkCells_len _ _) (by rw [mkCells_len]; exact l2) (step := fun v : Int × Bool => L_snaffleref10_Right_4090 (mkCells s s.orders) s v.fst v.snd) (fun i h hh q => ?_) (fun q => ?_) _) fun w hw => ?_
  · simp only [L_snaffleref10_Right_4090]
    rw [cnd_t (by rw [ilt_nat]; simpa using h), cnd_t (inb _ i h), cnd_t (inb _ i hh), lget_nat _ i h, lget_nat _ i hh, w_cnd, w_some, w_some, bnot_T, bnot_F, wr_succ (by omega)]
    have := cell_ext' (mkCells s s.orders)[i] s.cells[i]
    simp only [band_T, band_F, bor_T, bor_F, bnot_T, bnot_F, ilt_T, ilt_F, ile_T, ile_F, ieq_T, ieq_F, beq_T, beq_F] at *
    exact ⟨fun h => ⟨fun e => (by have := this.2 e; grind), fun _ => trivial⟩, fun h => ⟨fun _ => trivial, fun e => absurd (this.1 h) e⟩⟩
  · simp only [L_snaffleref10_Right_4090]
    rw [cnd_f (by rw [show (((mkCells s s.orders).length : Nat) : Int) = len (mkCells s s.orders) from rfl]; simp [ilt])]
  cases w with
  | inl w =>
    obtain ⟨rfl, h⟩ := hw
    simp only [sumK, w_some]
    exact ⟨fun h => (by cases h), fun hR => absurd hR.cells.symm h⟩
  | inr w =>
    simp only [sumK, w_some]
    have e : s.cells = mkCells s s.orders := Eq.symm hw
    exact ⟨fun _ => ⟨hs, hfine, e, by rw [e]; exact hfit.1, by rw [e]; exact hfit.2⟩, fun _ => trivial⟩
theorem r_order_Begin {r : SRec} (h : recP r) (hk : r.kind = 1) : F_snaffleref07_Begin r = some (beginZ r, true) := by
  unfold F_snaffleref07_Begin
  obtain ⟨b, e, q⟩ := r_rec_Right r
  rw [e, q.2 h, hk]
  rfl
theorem r_order_Change {o : SOrder} {q p : Int} (h : ordP o) (hr : Ok_order o) (hq : 1 ≤ q) (hp : 1 ≤ p) :
    Wq (F_snaffleref07_Change o q p) fun r => (changeP o → r = (changeZ o q p, 0)) ∧ (¬ changeP o → r.2 ≠ 0) := by
  have hv := hr.version
  unfold inI at hv
  have hpe : pendP o ↔ o.newQty ≠ 0 := by
    have := h.2.2.2.2.1
    unfold pendP at *
    constructor
    · intro h1; have := this h1; omega
    · exact .inl
  unfold F_snaffleref07_Change iadd
  rw [r_order_Right, ob_some, decide_eq_true h, bnot_true, bor_false, ilt_f (by omega), ilt_f (by omega)]
  simp only [bor_false]
  unfold changeP
  rw [hpe, c_ieq]
  by_cases h1 : o.version = 9223372036854775807
  · rw [if_pos h1, w_some]
    exact ⟨fun h => by omega, fun _ => by simp⟩
  · rw [if_neg h1, w_cnd]
    refine ⟨fun h2 => (w_some _).2 ⟨fun h3 => ?_, fun _ => by simp⟩, fun h2 => (w_some _).2 ⟨fun _ => ?_, fun h3 => ?_⟩⟩
    · simp only [band_T, band_F, bor_T, bor_F, bnot_T, bnot_F, ilt_T, ilt_F, ile_T, ile_F, ieq_T, ieq_F, beq_T, beq_F] at h2
      rcases h2 with (h2 | h2) | h2
      · omega
      · exact absurd h2 h3.2.1
      · rw [h3.2.2.1] at h2; cases h2
    · rw [wr_in ⟨by omega, by omega⟩]; rfl
    · simp only [band_T, band_F, bor_T, bor_F, bnot_T, bnot_F, ilt_T, ilt_F, ile_T, ile_F, ieq_T, ieq_F, beq_T, beq_F] at h2
      exact absurd ⟨h2.1.1, by simpa using h2.1.2, h2.2, by omega⟩ h3
theorem r_order_End {o : SOrder} (h : ordP o) (h3 : o.phase ≠ 3) : F_snaffleref07_End o = some (if o.asked = true then (o, 8) else (endZ o, 0)) := by
  unfold F_snaffleref07_End
  rw [r_order_Right, ob_some, decide_eq_true h, bnot_true, cnd_false, cnd_if]
  by_cases ha : o.asked = true
  · rw [if_pos (by simp only [band_T, band_F, bor_T, bor_F, bnot_T, bnot_F, ilt_T, ilt_F, ile_T, ile_F, ieq_T, ieq_F, beq_T, beq_F]; exact .inl ha), if_pos ha]
  · rw [if_neg (by simp only [band_T, band_F, bor_T, bor_F, bnot_T, bnot_F, ilt_T, ilt_F, ile_T, ile_F, ieq_T, ieq_F, beq_T, beq_F]; rintro (h | h); exact ha h; exact h3 h), if_neg ha]; rfl
theorem r_order_Take {o : SOrder} {n : SNote} (h : ordP o) (hr : Ok_order o) (hn : recP (noteR n)) (hi : n.order = o.id) (hq : inI n.qty) :
    F_snaffleref07_Take o n = some (match takeZ o n.what n.qty n.price with | some p => (p, 0) | none => (o, 8)) := by
  have hq1 := hr.qty; have hf := hr.filled
  have h1 := h.2.1; have h2 := h.2.2.1
  unfold inI at hq1 hf hq
  have hpe : pendP o ↔ 0 < o.newQty := by
    have := h.2.2.2.2.1
    unfold pendP at *
    constructor
    · intro h1; have := this h1; omega
    · exact fun h => .inl (by omega)
  unfold F_snaffleref07_Take isub iadd
  obtain ⟨b, e, q⟩ := r_rec_Right (noteR n)
  rw [r_order_Right, ob_some, decide_eq_true h, bnot_true, bnot_false, cnd_true, show F_snaffleref06_OfNote n = some (noteR n) from rfl, ob_some, cnd_true, e, q.2 hn, ob_some, bnot_true, bor_false, bor_false, cnd_f (by rw [bnot_F, ieq_T]; exact hi)]
  rw [wr_in (n := o.qty - o.filled) ⟨by omega, by omega⟩]
  simp only [cnd_if, band_T, band_F, bor_T, bor_F, bnot_T, bnot_F, ilt_T, ilt_F, ile_T, ile_F, ieq_T, ieq_F, beq_T, beq_F]
  unfold takeZ
  by_cases p1 : o.phase = 1
  · rw [if_pos p1]
    by_cases k1 : n.what = 1
    · rw [if_pos k1, if_pos ⟨p1, k1⟩]; rfl
    · rw [if_neg k1, if_neg (fun h => k1 h.2)]
      by_cases k2 : n.what = 2
      · rw [if_pos k2, if_pos (.inl ⟨p1, k2⟩), if_neg (by omega)]; rfl
      · rw [if_neg k2, if_neg (by omega), if_neg (by omega), if_neg (by omega), if_neg (by omega)]
  · rw [if_neg p1, if_neg (by omega)]
    by_cases p2 : o.phase = 2
    · rw [if_pos p2]
      by_cases k3 : n.what = 3
      · rw [if_pos k3, if_neg (by omega)]
        have hn1 : 1 ≤ n.qty := by unfold recP noteR at hn; simp only at hn; omega
        by_cases c1 : o.qty - o.filled < n.qty
        · rw [if_pos c1, if_neg (by omega), if_neg (by omega), if_neg (by omega)]
        · rw [if_neg c1, if_pos ⟨⟨p2, k3⟩, by omega⟩]
          rw [wr_in ⟨by omega, by omega⟩]
          by_cases c2 : o.filled + n.qty < o.qty
          · rw [if_pos c2, if_pos (by omega)]; rfl
          · rw [if_neg c2, if_neg (by omega)]; rfl
      · rw [if_neg k3]
        by_cases k4 : n.what = 4
        · rw [if_pos k4, if_pos (.inr ⟨p2, k4⟩), if_neg (by omega)]; rfl
        · rw [if_neg k4, if_neg (by omega), if_neg (by omega)]
          by_cases k5 : n.what = 5
          · rw [if_pos k5, if_neg (by omega)]
            by_cases c1 : pendP o ∧ n.qty = o.newQty ∧ n.price = o.newPrice ∧ o.filled < n.qty
            · rw [if_pos c1, if_pos ⟨⟨⟨⟨⟨p2, hpe.1 c1.1⟩, k5⟩, c1.2.1⟩, c1.2.2.1⟩, c1.2.2.2⟩]; rfl
            · rw [if_neg c1, if_neg fun h => c1 ⟨hpe.2 h.1.1.1.1.2, h.1.1.2, h.1.2, h.2⟩]
          · rw [if_neg k5]
            by_cases k6 : n.what = 6
            · rw [if_pos k6]
              by_cases c1 : pendP o
              · rw [if_pos c1, if_pos ⟨⟨p2, hpe.1 c1⟩, k6⟩]; rfl
              · rw [if_neg c1, if_neg (fun h => c1 (hpe.2 h.1.2)), if_neg (by omega)]
            · rw [if_neg k6, if_neg (by omega), if_neg (by omega)]
    · rw [if_neg p2, if_neg (by omega), if_neg (by omega), if_neg (by omega), if_neg (by omega)]
theorem r_asked {s : SState} {r : SRec} (hm : mayP s r) (hr : Ok_state s) (hrr : Ok_recd r) (hk : r.kind = 1 ∨ r.kind = 2) :
    Wq (F_snaffleref10_asked s r) fun y => cnd (bnot (ieq y.2 0)) (some (s, y.2)) (some (⟨y.1.accounts, y.1.symbols, y.1.orders, y.1.cells, y.1.limits, y.1.caps, y.1.kill, y.1.last, y.1.seq, wr IntKind.i64 (iadd s.lsn 1)⟩, 0)) = some (doS s r) := by
  obtain ⟨hR, hrec, hlsn, hacc, hsym, hord⟩ := id hm
  have hs := hR.sized
  obtain ⟨lc, ll, lcp, lo⟩ := hs.lens
  have hz := hR.fine
  have hl0 := hz.lsn
  have hwr : wr IntKind.i64 (iadd s.lsn 1) = s.lsn + 1 := wr_lsn hl0.1 hlsn
  have hall : ∀ o ∈ s.orders, orderIn s o ∧ Ok_order o := fun o h => ⟨hz.ords o h, hr.orders.1 o h⟩
  have hrec' := hrec
  unfold recP knownP at hrec'
  have bad : ∀ e : Int, e ≠ 0 → cnd (bnot (ieq e 0)) (some (s, e)) (some ((⟨s.accounts, s.symbols, s.orders, s.cells, s.limits, s.caps, s.kill, s.last, s.seq, wr IntKind.i64 (iadd s.lsn 1)⟩ : SState), (0 : Int))) = some (s, e) := fun e he => by
    rw [cnd_t (by rw [bnot_T, ieq_F]; exact he)]
  rw [hwr]
  rw [hwr] at bad
  unfold F_snaffleref10_asked
  unfold doS
  rw [if_neg (fun h : ¬ mayP s r => h hm)]
  by_cases k1 : r.kind = 1
  · rw [if_pos k1, cnd_t (by rw [ieq_T]; exact k1), r_order_Begin hrec k1, ob_some]
    by_cases hkill : s.kill = true
    · rw [cnd_t hkill, w_some, if_pos hkill]
      exact bad 5 (by decide)
    rw [cnd_f (by simpa using hkill), if_neg hkill, c_ile]
    by_cases h64 : s.orders.length = 64
    · rw [if_pos (by simp only [len]; omega), if_pos h64, w_some]
      exact bad 6 (by decide)
    rw [if_neg (by simp only [len]; omega), if_neg h64, cnd_t (ile_t (by simp only [len]; omega)), cnd_t (ile_t (by simp [len, lapp]; omega))]
    obtain ⟨ho, ho2⟩ := begin_ord hrec k1
    have hro := begin_rng hrr
    have hmem : ∀ o ∈ lapp s.orders [beginZ r], orderIn s o ∧ Ok_order o := fun o h => by
      rcases List.mem_append.1 h with h | h
      · exact hall o h
      · rw [List.mem_singleton] at h
        subst h
        exact ⟨⟨ho, by simp [beginZ], hacc, hsym⟩, hro⟩
    have hlen : (lapp s.orders [beginZ r]).length ≤ 64 := by simp [lapp]; omega
    refine Wq.bind (r_with hs hlen hmem hr.cells) fun y hy => ?_
    rw [w_cnd]
    unfold askS
    have hfe : fitS (withS s (lapp s.orders [beginZ r])) ↔ fitS (⟨s.accounts, s.symbols, lapp s.orders [beginZ r], mkCells s (lapp s.orders [beginZ r]), s.limits, s.caps, s.kill, r.order, s.seq, s.lsn⟩ : SState) := Iff.rfl
    refine ⟨fun h => (w_some _).2 ?_, fun h => ?_⟩
    · rw [bnot_T] at h
      have hn : ¬ fitS (withS s (lapp s.orders [beginZ r])) := fun hf => by rw [hy.1.2 hf] at h; cases h
      rw [if_pos (fun hf => hn (hfe.2 hf))]
      exact bad 3 (by decide)
    · rw [bnot_F] at h
      have hfit := hy.1.1 h
      rw [hy.2 h, if_neg (fun hf => hf (hfe.1 hfit))]
      have ht : sizedP (withS s (lapp s.orders [beginZ r])) := sized_of hs rfl rfl (mkCells_len _ _) rfl rfl hlen
      rw [r_Limits (t := withS s (lapp s.orders [beginZ r])) hR ht rfl rfl hfit.1 hfit.2 (by omega) hacc (by omega) hsym, ob_some, c_dec]
      have hse : stopP s (withS s (lapp s.orders [beginZ r])) r.account r.symbol ↔ stopP s (⟨s.accounts, s.symbols, lapp s.orders [beginZ r], mkCells s (lapp s.orders [beginZ r]), s.limits, s.caps, s.kill, r.order, s.seq, s.lsn⟩ : SState) r.account r.symbol := Iff.rfl
      by_cases hst : stopP s (withS s (lapp s.orders [beginZ r])) r.account r.symbol
      · rw [if_pos hst, if_pos (hse.1 hst), w_some]
        exact bad 4 (by decide)
      · rw [if_neg hst, if_neg (fun h => hst (hse.2 h)), cnd_t (by rw [ieq_T]; exact k1), w_some]
        rfl
  · have k2 : r.kind = 2 := hk.resolve_left k1
    rw [if_neg k1, if_pos k2, cnd_f (by rw [ieq_F]; exact k1), r_Find s r.order (by omega), ob_some]
    cases hf : findZ s.orders r.order with
    | none =>
      rw [findI_none hf, cnd_t (by decide), w_some]
      exact bad 7 (by decide)
    | some m =>
      obtain ⟨hm1, hm2⟩ := findZ_some hf
      have hra : 1 ≤ r.qty ∧ 1 ≤ r.price := by omega
      rw [findI_some hf, cnd_f (ilt_f (by omega)), cnd_t (inb _ m hm1), lget_nat _ m hm1]
      simp only [lget_eq' _ m hm1]
      have hoi := hz.ords _ (List.getElem_mem hm1)
      have hro := hr.orders.1 _ (List.getElem_mem hm1)
      refine Wq.bind (r_order_Change hoi.1 hro hra.1 hra.2) fun y hy => ?_
      by_cases hch : changeP s.orders[m]
      case neg =>
        rw [if_pos hch, cnd_t (by rw [bnot_T, ieq_F]; exact hy.2 hch), w_some]
        exact bad 8 (by decide)
      rw [if_neg (fun h : ¬ changeP s.orders[m] => h hch), hy.1 hch]
      simp only [ieq_00, bnot_true, cnd_false]
      by_cases hkill : s.kill = true
      · rw [cnd_t hkill, w_some, if_pos hkill]
        exact bad 5 (by decide)
      rw [cnd_f (by simpa using hkill), if_neg hkill, r_put hm1 (by omega), ob_some]
      have hpo := change_ord hoi.1 hch hra.1 hra.2
      have hpr := change_rng hro hch hrr.qty hrr.price
      have hmem : ∀ o ∈ s.orders.set m (changeZ s.orders[m] r.qty r.price), orderIn s o ∧ Ok_order o := fun o h => by
        rcases mem_set_cases h with h | rfl
        · exact hall o h
        · exact ⟨⟨hpo, hoi.2.1, hoi.2.2.1, hoi.2.2.2⟩, hpr⟩
      have hlen : (s.orders.set m (changeZ s.orders[m] r.qty r.price)).length ≤ 64 := by simp; omega
      refine Wq.bind (r_with hs hlen hmem hr.cells) fun z hz' => ?_
      rw [w_cnd, lset_eq']
      unfold askS
      refine ⟨fun h => (w_some _).2 ?_, fun h => ?_⟩
      · rw [bnot_T] at h
        have hn : ¬ fitS (withS s (s.orders.set m (changeZ s.orders[m] r.qty r.price))) := fun hf => by rw [hz'.1.2 hf] at h; cases h
        rw [if_pos hn]
        exact bad 3 (by decide)
      · rw [bnot_F] at h
        have hfit := hz'.1.1 h
        rw [hz'.2 h, if_neg (fun hf => hf hfit)]
        have ht : sizedP (withS s (s.orders.set m (changeZ s.orders[m] r.qty r.price))) := sized_of hs rfl rfl (mkCells_len _ _) rfl rfl hlen
        show Wq (obind (F_snaffleref10_Limits s (withS s (s.orders.set m (changeZ s.orders[m] r.qty r.price))) s.orders[m].account s.orders[m].symbol) _) _
        rw [r_Limits hR ht rfl rfl hfit.1 hfit.2 hoi.1.1.2.1.1 hoi.2.2.1 hoi.1.1.2.2.1.1 hoi.2.2.2, ob_some, c_dec]
        by_cases hst : stopP s (withS s (s.orders.set m (changeZ s.orders[m] r.qty r.price))) s.orders[m].account s.orders[m].symbol
        · rw [if_pos hst, if_pos hst, w_some]
          exact bad 4 (by decide)
        · rw [if_neg hst, if_neg hst, cnd_f (by rw [ieq_F]; exact k1), w_some]
          rfl
theorem evL_step (l : List SOrder) (m : Nat) (p x : SOrder) (a : List SOrder) (c : Prop) [Decidable c] (ha : a = if c then l.eraseIdx m else l.set m p) :
    (l.length ≠ m → (if c then (l ++ [x]).eraseIdx m else (l ++ [x]).set m p) = a ++ [x]) ∧ (l.length = m → (if c then (l ++ [x]).eraseIdx m else (l ++ [x]).set m p) = if c then a else a ++ [p]) := by
  subst ha
  constructor
  · intro h
    split
    · by_cases hlt : m < l.length
      · rw [List.eraseIdx_append_of_lt_length hlt]
      · rw [List.eraseIdx_of_length_le (l := l ++ [x]) (by simp; omega), List.eraseIdx_of_length_le (l := l) (by omega)]
    · by_cases hlt : m < l.length
      · rw [List.set_append_left _ _ hlt]
      · rw [List.set_eq_of_length_le (l := l ++ [x]) (by simp; omega), List.set_eq_of_length_le (l := l) (by omega)]
  · intro h
    split
    · rw [List.eraseIdx_append_of_length_le (by omega), List.eraseIdx_of_length_le (l := l) (by omega), show m - l.length = 0 by omega]; simp
    · rw [List.set_append_right _ _ (by omega), List.set_eq_of_length_le (l := l) (by omega), show m - l.length = 0 by omega]; simp
theorem r_event {s : SState} {r : SRec} (hm : mayP s r) (hr : Ok_state s) (hrr : Ok_recd r) (hk : r.kind = 6) :
    Wq (F_snaffleref10_event s r) fun y => cnd (bnot (ieq y.2 0)) (some (s, y.2)) (some (⟨y.1.accounts, y.1.symbols, y.1.orders, y.1.cells, y.1.limits, y.1.caps, y.1.kill, y.1.last, y.1.seq, wr IntKind.i64 (iadd s.lsn 1)⟩, 0)) = some (doS s r) := by
  have hright0 := doS_right hm.1 hr hrr
  obtain ⟨hR, hrec, hlsn, hacc, hsym, hord⟩ := id hm
  have hs := hR.sized
  obtain ⟨lc, ll, lcp, lo⟩ := hs.lens
  have hz := hR.fine
  have hl0 := hz.lsn
  have hq0 := hz.seq
  have hwr : wr IntKind.i64 (iadd s.lsn 1) = s.lsn + 1 := wr_lsn hl0.1 hlsn
  have hall : ∀ o ∈ s.orders, orderIn s o ∧ Ok_order o := fun o h => ⟨hz.ords o h, hr.orders.1 o h⟩
  have hrec' := hrec
  unfold recP knownP at hrec'
  rw [hwr]
  unfold F_snaffleref10_event
  unfold doS
  rw [if_neg (fun h : ¬ mayP s r => h hm), if_neg (by omega), if_neg (by omega), if_neg (by omega), if_neg (by omega), if_neg (by omega)]
  have hws : wr IntKind.i64 (isub r.seq 1) = r.seq - 1 := by unfold isub; exact wr_small (by omega) (by omega)
  rw [hws, c_bnot, c_ieq]
  by_cases c1 : r.seq = s.seq + 1
  case neg =>
    rw [if_neg (by omega), if_pos c1, w_some]; rfl
  rw [if_pos (by omega), if_neg (fun h : r.seq ≠ s.seq + 1 => h c1), r_Find s r.order (by omega), ob_some]
  cases hf : findZ s.orders r.order with
  | none =>
    rw [findI_none hf, cnd_t (by decide), w_some]; rfl
  | some m =>
    obtain ⟨hm1, hm2⟩ := findZ_some hf
    rw [findI_some hf, cnd_f (ilt_f (by omega)), cnd_t (inb _ m hm1), lget_nat _ m hm1]
    simp only [lget_eq' _ m hm1]
    have hoi := hz.ords _ (List.getElem_mem hm1)
    have hro := hr.orders.1 _ (List.getElem_mem hm1)
    have hnote : recP (noteR ⟨r.seq, r.what, r.order, r.qty, r.price⟩) := by
      refine .inr (.inr (.inr (.inr (.inr ⟨rfl, ?_⟩))))
      rcases hrec with h | h | h | h | h | h
      · omega
      · omega
      · omega
      · omega
      · omega
      · exact ⟨h.2.1, rfl, rfl, rfl, rfl, rfl, rfl, rfl, h.2.2.2.2.2.2.2.2.2⟩
    rw [r_order_Take hoi.1 hro hnote hm2.symm hrr.qty]
    cases ht : takeZ s.orders[m] r.what r.qty r.price with
    | none =>
      simp only [ob_some]
      rw [cnd_t (by decide), w_some]; rfl
    | some p =>
      simp only [ob_some, ieq_00, bnot_true, cnd_false]
      have hd : (doS s r).1 = evS s r m p := by
        unfold doS
        rw [if_neg (fun h : ¬ mayP s r => h hm), if_neg (by omega), if_neg (by omega), if_neg (by omega), if_neg (by omega), if_neg (by omega), if_neg (fun h : r.seq ≠ s.seq + 1 => h c1)]
        simp only [hf, lget_eq' _ m hm1, ht]
      have hright : RightS (evS s r m p) := by rw [← hd]; exact hright0
      have hq3 : r.what = 3 → 1 ≤ r.qty := fun h => by omega
      have hp := take_q hoi.1 hro ht hq3 (fun h => by omega) hrr.qty hrr.price
      obtain ⟨k, g1, g2, g3⟩ := at_rng hs hoi
      have hat : atZ s.symbols p = (k : Int) := by unfold atZ; rw [hp.account, hp.symbol]; exact g2
      unfold F_book_ledger_cellOf at g1
      have g1 := Option.some.inj g1
      refine Wq.bind (Q := fun l => l = if p.phase = 3 then s.orders.eraseIdx m else s.orders.set m p)
        (w_for (n := s.orders.length) (step := fun v : Int × List SOrder => L_snaffleref10_event_131066 (m : Int) p s v.fst v.snd) (by omega)
          (fun i x => x = if p.phase = 3 then (s.orders.take i).eraseIdx m else (s.orders.take i).set m p) _ ?_ ?_ _ 0 (Nat.zero_le _) (by simp)) ?_
      · rintro i x hi hx
        have hst := evL_step (s.orders.take i) m p s.orders[i] x (p.phase = 3) hx
        have hlt : (s.orders.take i).length = i := by simp; omega
        rw [hlt] at hst
        rw [← List.take_succ_eq_append_getElem hi] at hst
        have hxl : x.length ≤ 64 := by
          rw [hx]
          split
          · have := List.length_eraseIdx_le (s.orders.take i) m; omega
          · simp; omega
        simp only [L_snaffleref10_event_131066]
        rw [cnd_t (by rw [ilt_nat]; simpa using hi), c_bnot, c_ieq]
        by_cases e : i = m
        · rw [if_pos (by omega), c_bnot, c_ieq]
          rw [hst.2 e]
          by_cases h3 : p.phase = 3
          · rw [if_pos h3, if_pos h3, w_some]
            exact ⟨wr_succ (by omega), rfl⟩
          · rw [if_neg h3, if_neg h3, cnd_t (ile_t (by simp [lapp, len]; omega)), w_some]
            exact ⟨wr_succ (by omega), rfl⟩
        · rw [if_neg (by omega), cnd_t (inb _ i hi), lget_nat _ i hi, cnd_t (ile_t (by simp [lapp, len]; omega)), w_some]
          exact ⟨wr_succ (by omega), by rw [hst.1 (by omega)]; rfl⟩
      · rintro x hx
        simp only [L_snaffleref10_event_131066]
        rw [cnd_f (by rw [ilt_nat]; simp), w_some]
        simp only [List.take_length] at hx
        exact hx
      · rintro l rfl
        have hacc' : wr IntKind.i64 (iadd (wr IntKind.i64 (imul p.account s.symbols)) p.symbol) = (k : Int) := by rw [hp.account, hp.symbol]; exact g1
        have hmem : ∀ o ∈ (if p.phase = 3 then s.orders.eraseIdx m else s.orders.set m p), orderIn s o ∧ Ok_order o := fun o ho => by
          split at ho
          · exact hall o (List.mem_of_mem_eraseIdx ho)
          · rename_i h3
            rcases mem_set_cases ho with h | rfl
            · exact hall o h
            · exact ⟨⟨hp.ord, h3, by rw [hp.account]; exact hoi.2.2.1, by rw [hp.symbol]; exact hoi.2.2.2⟩, hp.rng⟩
        have hlen : (if p.phase = 3 then s.orders.eraseIdx m else s.orders.set m p).length ≤ 64 := by
          split
          · have := List.length_eraseIdx_le s.orders m; omega
          · simp; omega
        have fin : ∀ s' : SState, s'.accounts = s.accounts → s'.symbols = s.symbols → s'.limits = s.limits → s'.caps = s.caps → s'.kill = s.kill → s'.last = s.last → s'.seq = r.seq → s'.cells.length = s.cells.length → s'.orders.length ≤ 64 → okL ok_cell s'.cells → s'.cells = (if r.what = 3 then movC s s.orders[m] r.qty else s.cells) →
            Wq (F_snaffleref10_with s' (if p.phase = 3 then s.orders.eraseIdx m else s.orders.set m p)) fun y => cnd (bnot (ieq ((y.1, (0 : Int)).2) 0)) (some (s, (y.1, (0 : Int)).2)) (some ((⟨y.1.accounts, y.1.symbols, y.1.orders, y.1.cells, y.1.limits, y.1.caps, y.1.kill, y.1.last, y.1.seq, s.lsn + 1⟩ : SState), (0 : Int))) = some (evS s r m p, 0) := by
          intro s' h1 h2 h3 h4 h5 h6 h7 h8 h9 h10 h11
          have hs' : sizedP s' := sized_of hs h1 h2 h8 (by rw [h3]) (by rw [h4]) h9
          have hmem' : ∀ o ∈ (if p.phase = 3 then s.orders.eraseIdx m else s.orders.set m p), orderIn s' o ∧ Ok_order o := fun o ho => by
            obtain ⟨⟨a1, a2, a3, a4⟩, a5⟩ := hmem o ho
            exact ⟨⟨a1, a2, by omega, by omega⟩, a5⟩
          refine (r_with hs' hlen hmem' h10).mono fun y hy => ?_
          have hev : evS s r m p = ⟨s.accounts, s.symbols, (if p.phase = 3 then s.orders.eraseIdx m else s.orders.set m p), mkCells s' (if p.phase = 3 then s.orders.eraseIdx m else s.orders.set m p), s.limits, s.caps, s.kill, s.last, r.seq, s.lsn + 1⟩ := by
            unfold evS withS
            simp only [lget_eq' _ m hm1, lset_eq']
            congr 1
            unfold mkCells
            simp only [h2, h11]
          have hfit : fitS (withS s' (if p.phase = 3 then s.orders.eraseIdx m else s.orders.set m p)) := by
            have a1 := hright.ok; have a2 := hright.acct
            simp only [hev] at a1 a2
            refine ⟨a1, ?_⟩
            show acctOk s'.accounts s'.symbols _
            rw [h1, h2]; exact a2
          have hy2 := hy.2 (hy.1.2 hfit)
          rw [hy2, hev]
          simp only [ieq_00, bnot_true, cnd_false, withS, h1, h2, h3, h4, h5, h6, h7]
        have hck : Ok_cell s.cells[k] := hr.cells.1 _ (List.getElem_mem g3)
        rw [c_ieq]
        by_cases h3 : r.what = 3
        · rw [if_pos h3, cnd_t (ile_t (by simp only [len]; omega)), hacc']
          have hside := hoi.1.1.2.2.2.1
          have hpk := (hR.ok _ (List.getElem_mem g3))
          rw [hp.side, c_ieq]
          obtain ⟨hev1, hev2⟩ := ev_cell hR hr m hm1 k g3 g2 hp hq3
          have hev3 := hev2 h3
          have hpos := hev3.1.pos
          simp only at hpos
          have hmov : movC s s.orders[m] r.qty = s.cells.set k ⟨if s.orders[m].side = 1 then s.cells[k].pos + r.qty else s.cells[k].pos - r.qty, s.cells[k].buy, s.cells[k].sell, s.cells[k].opn⟩ := by
            unfold movC
            rw [g2, lget_nat _ k g3, lset_eq]
          simp only [cnd_t (inb _ k g3), lget_nat _ k g3, lset_eq]
          by_cases hsd : s.orders[m].side = 1
          · rw [if_pos hsd]
            rw [if_pos hsd] at hpos hmov
            have hwp : wr IntKind.i64 (iadd s.cells[k].pos r.qty) = s.cells[k].pos + r.qty := wr_in hpos
            rw [hwp, w_bind]
            refine (fin ⟨s.accounts, s.symbols, s.orders, s.cells.set k ⟨s.cells[k].pos + r.qty, s.cells[k].buy, s.cells[k].sell, s.cells[k].opn⟩, s.limits, s.caps, s.kill, s.last, r.seq, s.lsn⟩ rfl rfl rfl rfl rfl rfl rfl (by simp) lo (okL_set hr.cells ⟨hpos, hck.buy, hck.sell, hck.opn⟩) (by rw [if_pos h3, hmov])).mono fun y hy => (w_some _).2 hy
          · rw [if_neg hsd]
            rw [if_neg hsd] at hpos hmov
            have hwp : wr IntKind.i64 (isub s.cells[k].pos r.qty) = s.cells[k].pos - r.qty := wr_in hpos
            rw [hwp, w_bind]
            refine (fin ⟨s.accounts, s.symbols, s.orders, s.cells.set k ⟨s.cells[k].pos - r.qty, s.cells[k].buy, s.cells[k].sell, s.cells[k].opn⟩, s.limits, s.caps, s.kill, s.last, r.seq, s.lsn⟩ rfl rfl rfl rfl rfl rfl rfl (by simp) lo (okL_set hr.cells ⟨hpos, hck.buy, hck.sell, hck.opn⟩) (by rw [if_pos h3, hmov])).mono fun y hy => (w_some _).2 hy
        · rw [if_neg h3, w_bind]
          refine (fin ⟨s.accounts, s.symbols, s.orders, s.cells, s.limits, s.caps, s.kill, s.last, r.seq, s.lsn⟩ rfl rfl rfl rfl rfl rfl rfl rfl lo hr.cells (by rw [if_neg h3])).mono fun y hy => (w_some _).2 hy
theorem r_Do {s : SState} {r : SRec} (hr : Ok_state s) (hrr : Ok_recd r) (hsh : shortP s) : F_snaffleref10_Do s r = some (doS s r) := by
  refine Wq.eq ?_
  unfold F_snaffleref10_Do
  refine (r_Right hr hsh).bind fun b0 h0 => ?_
  refine Wq.bind (Q := fun b => b = true ↔ (b0 = true ∧ recP r)) ?_ fun b1 h1 => ?_
  · rw [w_cnd]
    refine ⟨fun h => (r_rec_Right r).mono fun b hb => ?_, fun h => (w_some _).2 ?_⟩
    · simp only [band_T, band_F, bor_T, bor_F, bnot_T, bnot_F, ilt_T, ilt_F, ile_T, ile_F, ieq_T, ieq_F, beq_T, beq_F] at h
      rw [hb]; simp [h]
    · simp only [band_T, band_F, bor_T, bor_F, bnot_T, bnot_F, ilt_T, ilt_F, ile_T, ile_F, ieq_T, ieq_F, beq_T, beq_F] at h
      simp [h]
  have hmay : (bor (bor (bor (bor (bor (bnot b0) (bnot b1)) (ile 1000000000 s.lsn)) (ile s.accounts r.account)) (ile s.symbols r.symbol)) (band (ieq r.kind 1) (ile r.order s.last)) = true) ↔ ¬ mayP s r := by
    unfold mayP
    simp only [band_T, band_F, bor_T, bor_F, bnot_T, bnot_F, ilt_T, ilt_F, ile_T, ile_F, ieq_T, ieq_F, beq_T, beq_F]
    rw [← h0]
    constructor
    · rintro (((((h | h) | h) | h) | h) | ⟨h, h'⟩) ⟨a1, a2, a3, a4, a5, a6⟩
      · rw [a1] at h; cases h
      · rw [h1.2 ⟨a1, a2⟩] at h; cases h
      · omega
      · omega
      · omega
      · have := a6 h; omega
    · intro h
      by_cases a1 : b0 = true
      case neg => exact .inl (.inl (.inl (.inl (.inl (by simpa using a1)))))
      by_cases a2 : recP r
      case neg => exact .inl (.inl (.inl (.inl (.inr (by cases e : b1 with | true => exact absurd (h1.1 e).2 a2 | false => rfl)))))
      by_cases a3 : s.lsn < 1000000000
      case neg => exact .inl (.inl (.inl (.inr (by omega))))
      by_cases a4 : r.account < s.accounts
      case neg => exact .inl (.inl (.inr (by omega)))
      by_cases a5 : r.symbol < s.symbols
      case neg => exact .inl (.inr (by omega))
      refine .inr ?_
      by_cases a6 : r.kind = 1
      · exact ⟨a6, by by_cases a7 : s.last < r.order; exact absurd ⟨a1, a2, a3, a4, a5, fun _ => a7⟩ h; omega⟩
      · exact absurd ⟨a1, a2, a3, a4, a5, fun h => absurd h a6⟩ h
  rw [cnd_if]
  by_cases hm : mayP s r
  case neg =>
    rw [if_pos (hmay.2 hm), w_some]
    unfold doS; rw [if_pos hm]
  rw [if_neg (fun h => hmay.1 h hm)]
  obtain ⟨hR, hrec, hlsn, hacc, hsym, hord⟩ := id hm
  have hs := hR.sized
  obtain ⟨lc, ll, lcp, lo⟩ := hs.lens
  have h1a := hs.1
  have h1b := hs.2.1
  have hz := hR.fine
  have hl0 := hz.lsn
  have hwr : wr IntKind.i64 (iadd s.lsn 1) = s.lsn + 1 := wr_lsn hl0.1 hlsn
  have hrec' := hrec
  unfold recP knownP at hrec'
  have ask : r.kind = 1 ∨ r.kind = 2 → Wq (obind (F_snaffleref10_asked s r) fun y2 ↦ cnd (bnot (ieq y2.snd 0)) (some (s, y2.snd)) (some (SState.mk y2.fst.accounts y2.fst.symbols y2.fst.orders y2.fst.cells y2.fst.limits y2.fst.caps y2.fst.kill y2.fst.last y2.fst.seq (wr IntKind.i64 (iadd s.lsn 1)), 0))) fun x => x = doS s r := fun hk =>
    Wq.bind (r_asked hm hr hrr hk) fun y hy => by rw [hy]; exact (w_some _).2 rfl
  rw [c_ieq]
  by_cases k1 : r.kind = 1
  · rw [if_pos k1, cnd_t (by rw [ieq_T]; exact k1)]
    exact ask (.inl k1)
  rw [if_neg k1, c_ieq]
  by_cases k2 : r.kind = 2
  · rw [if_pos k2]
    exact ask (.inr k2)
  rw [if_neg k2, c_ieq]
  by_cases k3 : r.kind = 3
  · rw [if_pos k3, r_Find s r.order (by omega), ob_some]
    unfold doS
    rw [if_neg (fun h : ¬ mayP s r => h hm), if_neg k1, if_neg k2, if_pos k3]
    cases hf : findZ s.orders r.order with
    | none => rw [findI_none hf, cnd_t (by decide), w_some]
    | some m =>
      obtain ⟨hm1, hm2⟩ := findZ_some hf
      rw [findI_some hf, cnd_f (ilt_f (by omega)), cnd_t (inb _ m hm1), lget_nat _ m hm1]
      simp only [lget_eq' _ m hm1]
      have hoi := hz.ords _ (List.getElem_mem hm1)
      rw [r_order_End hoi.1 hoi.2.1, ob_some]
      by_cases ha : s.orders[m].asked = true
      · rw [if_pos ha, if_pos ha]; exact (w_some _).2 rfl
      · rw [if_neg ha, if_neg ha]
        simp only [ieq_00, bnot_true, cnd_false]
        rw [r_put hm1 (by omega), ob_some, w_some, hwr]; rfl
  rw [if_neg k3, c_ieq]
  by_cases k4 : r.kind = 4
  · rw [if_pos k4, c_ieq]
    unfold doS
    rw [if_neg (fun h : ¬ mayP s r => h hm), if_neg k1, if_neg k2, if_neg k3, if_pos k4]
    by_cases hy : r.symbol = -1
    · rw [if_pos hy, if_pos hy, cnd_t (ile_t (by simp only [len]; omega)), cnd_t (band_t (ile_t (by omega)) (ilt_t (by simp only [len]; omega))), w_some, hwr]
    · rw [if_neg hy, if_neg hy, cnd_t (ile_t (by simp only [len]; omega))]
      obtain ⟨k, g1, g2, g3⟩ := s_cellOf hs r.account r.symbol (by omega) hacc (by omega) hsym
      unfold F_book_ledger_cellOf at g1
      have g1 := Option.some.inj g1
      rw [g1, cnd_t (inb _ k (by omega)), w_some, hwr, g2]
  rw [if_neg k4, c_ieq]
  by_cases k5 : r.kind = 5
  · rw [if_pos k5, w_some, hwr]
    unfold doS
    rw [if_neg (fun h : ¬ mayP s r => h hm), if_neg k1, if_neg k2, if_neg k3, if_neg k4, if_pos k5]
  rw [if_neg k5]
  exact Wq.bind (r_event hm hr hrr (by omega)) fun y hy => by rw [hy]; exact (w_some _).2 rfl
def putZ (n : Int) : Nat → List Int
  | 0 => []
  | k + 1 => (n / 256 ^ k % 256) :: putZ n k
def byteP (l : List Int) : Prop := ∀ x ∈ l, 0 ≤ x ∧ x ≤ 255
theorem byteP.drop {l : List Int} (h : byteP l) (n : Nat) : byteP (l.drop n) := fun x hx => h x (List.mem_of_mem_drop hx)
theorem byteP.take {l : List Int} (h : byteP l) (n : Nat) : byteP (l.take n) := fun x hx => h x (List.mem_of_mem_take hx)
def p1 (l : List Int) : List Int := l.flatMap fun n => putZ n 1
def b1 (n : Int) : Prop := 0 ≤ n ∧ n ≤ 255
def nilD {τ : Type} [DecidableEq τ] (n : Int) (f : Bool → Option τ) : Option τ := if n = 0 then (if f true = f false then f true else none) else f false
theorem nilq_eq {τ : Type} [DecidableEq τ] (n : Int) (f : Bool → Option τ) : nilq n f = nilD n f := by
  unfold nilq nilD
  by_cases h : n = 0
  · rw [if_pos h, if_pos h]
    by_cases h2 : f true = f false
    · rw [if_pos h2, if_pos h2]
    · rw [if_neg h2, if_neg h2]
  · rw [if_neg h, if_neg h]
def F_slices_Clone_api_Order_d (x0 : (List SOrder)) : Option ((List SOrder)) := nilD (len x0) fun y0 ↦ cnd (beq y0 true) (some []) (cnd (ile (len x0) 68719476736) (some x0) none)
theorem F_slices_Clone_api_Order_d_eq : F_slices_Clone_api_Order = F_slices_Clone_api_Order_d := by
  funext a0
  unfold F_slices_Clone_api_Order F_slices_Clone_api_Order_d
  simp only [nilq_eq]
def F_slices_Clone_api_Cell_d (x0 : (List SCell)) : Option ((List SCell)) := nilD (len x0) fun y0 ↦ cnd (beq y0 true) (some []) (cnd (ile (len x0) 68719476736) (some x0) none)
theorem F_slices_Clone_api_Cell_d_eq : F_slices_Clone_api_Cell = F_slices_Clone_api_Cell_d := by
  funext a0
  unfold F_slices_Clone_api_Cell F_slices_Clone_api_Cell_d
  simp only [nilq_eq]
def F_slices_Clone_api_Expo_d (x0 : (List SExpo)) : Option ((List SExpo)) := nilD (len x0) fun y0 ↦ cnd (beq y0 true) (some []) (cnd (ile (len x0) 68719476736) (some x0) none)
theorem F_slices_Clone_api_Expo_d_eq : F_slices_Clone_api_Expo = F_slices_Clone_api_Expo_d := by
  funext a0
  unfold F_slices_Clone_api_Expo F_slices_Clone_api_Expo_d
  simp only [nilq_eq]
def F_slices_Clone_int64_d (x0 : (List Int)) : Option ((List Int)) := nilD (len x0) fun y0 ↦ cnd (beq y0 true) (some []) (cnd (ile (len x0) 68719476736) (some x0) none)
theorem F_slices_Clone_int64_d_eq : F_slices_Clone_int64 = F_slices_Clone_int64_d := by
  funext a0
  unfold F_slices_Clone_int64 F_slices_Clone_int64_d
  simp only [nilq_eq]
end Go.Av
