/- The plain law, part 0. No condition. -/
import Derived.Test.YtgkmpcjcpochoaaGreatDRowRight
import Derived.KernelRfl
set_option linter.unusedVariables false
set_option linter.unusedSimpArgs false
set_option linter.unnecessarySimpa false
namespace Go.Av
open Go
/-- A loop that comes to its end. -/
theorem iterN_run {V W : Type} {step : V → Option (V ⊕ W)} (μ : V → Nat) (I : V → Prop) (R : W → Prop)
    (h : ∀ v, I v → (∃ v', step v = some (.inl v') ∧ I v' ∧ μ v' < μ v) ∨ ∃ w, step v = some (.inr w) ∧ R w) : ∀ (n : Nat) (v : V), μ v < n → I v → ∃ w, iterN step n v = some w ∧ R w
  | 0, v, hn, _ => by omega
  | n + 1, v, hn, hI => by
    rcases h v hI with ⟨v', h1, h2, h3⟩ | ⟨w, h1, h2⟩
    · obtain ⟨w, g1, g2⟩ := iterN_run μ I R h n v' (by omega) h2
      exact ⟨w, by rw [iterN, h1]; exact g1, g2⟩
    · exact ⟨w, by rw [iterN, h1]; rfl, h2⟩
theorem lt_LF {n : Nat} (h : n < 1000000) : n < LF := Nat.lt_trans h (by decide)
theorem wr_in {n : Int} (h : inI n) : wr .i64 n = n := by
  unfold inI at h
  unfold wr IntKind.wrap
  simp [IntKind.bits, IntKind.signed]
  omega
theorem wr_rng (n : Int) : inI (wr .i64 n) := by
  unfold inI wr IntKind.wrap
  simp [IntKind.bits, IntKind.signed]
  omega
/-- What a sum of two numbers is turned into. -/
theorem wr_two {n : Int} (h1 : -18446744073709551616 ≤ n) (h2 : n ≤ 18446744073709551616) :
    (inI n ∧ wr .i64 n = n) ∨ (9223372036854775807 < n ∧ wr .i64 n = n - 18446744073709551616) ∨ (n < -9223372036854775808 ∧ wr .i64 n = n + 18446744073709551616) := by
  unfold inI wr IntKind.wrap
  simp [IntKind.bits, IntKind.signed]
  omega
theorem wr_u64 (n : Int) : wr .u64 n = n % 18446744073709551616 := by
  unfold wr IntKind.wrap
  simp [IntKind.bits, IntKind.signed]
theorem wr_small {n : Int} (h1 : 0 ≤ n) (h2 : n < 1000000000000) : wr .i64 n = n := wr_in ⟨by omega, by omega⟩
theorem cnd_t {α : Type} {b : Bool} {x y : α} (h : b = true) : cnd b x y = x := by subst h; rfl
theorem cnd_f {α : Type} {b : Bool} {x y : α} (h : b = false) : cnd b x y = y := by subst h; rfl
theorem cnd_if {α : Type} (b : Bool) (x y : α) : cnd b x y = if b = true then x else y := by cases b <;> rfl
theorem c_ieq {α : Type} (a b : Int) (x y : α) : cnd (ieq a b) x y = if a = b then x else y := by
  by_cases h : a = b
  · rw [if_pos h, show ieq a b = true by simp [ieq, h]]; rfl
  · rw [if_neg h, show ieq a b = false by simp [ieq, h]]; rfl
theorem c_ilt {α : Type} (a b : Int) (x y : α) : cnd (ilt a b) x y = if a < b then x else y := by
  by_cases h : a < b
  · rw [if_pos h, show ilt a b = true by simp [ilt, h]]; rfl
  · rw [if_neg h, show ilt a b = false by simp [ilt, h]]; rfl
theorem c_ile {α : Type} (a b : Int) (x y : α) : cnd (ile a b) x y = if a ≤ b then x else y := by
  by_cases h : a ≤ b
  · rw [if_pos h, show ile a b = true by simp [ile, h]]; rfl
  · rw [if_neg h, show ile a b = false by simp [ile, h]]; rfl
theorem c_bnot {α : Type} (b : Bool) (x y : α) : cnd (bnot b) x y = cnd b y x := by cases b <;> rfl
theorem c_dec {α : Type} (P : Prop) [Decidable P] (x y : α) : cnd (decide P) x y = if P then x else y := by
  by_cases h : P
  · rw [if_pos h, decide_eq_true h]; rfl
  · rw [if_neg h, decide_eq_false h]; rfl
instance (n : Int) : Decidable (inI n) := by unfold inI; infer_instance
theorem ob_some {α β : Type} (a : α) (f : α → Option β) : obind (some a) f = f a := rfl
theorem ob_if {α β : Type} (p : Prop) [Decidable p] (x y : Option α) (f : α → Option β) : obind (if p then x else y) f = if p then obind x f else obind y f := by split <;> rfl
theorem ilt_t {a b : Int} (h : a < b) : ilt a b = true := decide_eq_true h
theorem ilt_f {a b : Int} (h : ¬ a < b) : ilt a b = false := decide_eq_false h
theorem ile_t {a b : Int} (h : a ≤ b) : ile a b = true := decide_eq_true h
theorem ile_f {a b : Int} (h : ¬ a ≤ b) : ile a b = false := decide_eq_false h
theorem ieq_refl (a : Int) : ieq a a = true := by simp [ieq]
theorem beq_refl' (a : Bool) : beq a a = true := by cases a <;> rfl
theorem band_t {a b : Bool} (h1 : a = true) (h2 : b = true) : band a b = true := by subst h1; subst h2; rfl
theorem lget_nat {α : Type} [Inhabited α] (l : List α) (i : Nat) (h : i < l.length) : lget l (itn (i : Int)) = l[i] := by
  simp [lget, itn, h]
theorem inb {α : Type} (l : List α) (i : Nat) (h : i < l.length) : band (ile 0 (i : Int)) (ilt (i : Int) (len l)) = true := band_t (ile_t (by omega)) (ilt_t (by simp only [len]; omega))
theorem band_T (a b : Bool) : (band a b = true) = (a = true ∧ b = true) := by cases a <;> cases b <;> simp [band]
theorem band_F (a b : Bool) : (band a b = false) = (a = false ∨ b = false) := by cases a <;> cases b <;> simp [band]
theorem bor_T (a b : Bool) : (bor a b = true) = (a = true ∨ b = true) := by cases a <;> cases b <;> simp [bor]
theorem bor_F (a b : Bool) : (bor a b = false) = (a = false ∧ b = false) := by cases a <;> cases b <;> simp [bor]
theorem bnot_T (a : Bool) : (bnot a = true) = (a = false) := by cases a <;> simp [bnot]
theorem bnot_F (a : Bool) : (bnot a = false) = (a = true) := by cases a <;> simp [bnot]
theorem ilt_T (a b : Int) : (ilt a b = true) = (a < b) := by simp [ilt]
theorem ilt_F (a b : Int) : (ilt a b = false) = (b ≤ a) := by simp [ilt]
theorem ile_T (a b : Int) : (ile a b = true) = (a ≤ b) := by simp [ile]
theorem ile_F (a b : Int) : (ile a b = false) = (b < a) := by simp [ile]
theorem ieq_T (a b : Int) : (ieq a b = true) = (a = b) := by simp [ieq]
theorem ieq_F (a b : Int) : (ieq a b = false) = (a ≠ b) := by simp [ieq]
theorem beq_T (a b : Bool) : (beq a b = true) = (a = b) := by simp [beq]
theorem beq_F (a b : Bool) : (beq a b = false) = (a ≠ b) := by simp [beq]
theorem seq_T (a b : List UInt8) : (seq a b = true) = (a = b) := by simp [seq]
theorem seq_F (a b : List UInt8) : (seq a b = false) = (a ≠ b) := by simp [seq]
/-- It ends, and what it ends in has Q. -/
def Wq {α : Type} (o : Option α) (Q : α → Prop) : Prop := ∃ a, o = some a ∧ Q a
theorem w_some {α : Type} {Q : α → Prop} (a : α) : Wq (some a) Q ↔ Q a := ⟨fun ⟨_, h, q⟩ => by cases h; exact q, fun h => ⟨a, rfl, h⟩⟩
theorem w_cnd {α : Type} {Q : α → Prop} (c : Bool) (x y : Option α) : Wq (cnd c x y) Q ↔ (c = true → Wq x Q) ∧ (c = false → Wq y Q) := by
  cases c <;> simp [cnd]
theorem w_bind {α β : Type} {Q : β → Prop} (o : Option α) (f : α → Option β) : Wq (obind o f) Q ↔ Wq o fun a => Wq (f a) Q := by
  cases o with
  | none => simp [obind, Wq]
  | some a => simp [obind, w_some]
theorem Wq.mono {α : Type} {Q R : α → Prop} {o : Option α} (h : Wq o Q) (hq : ∀ a, Q a → R a) : Wq o R := by
  obtain ⟨a, e, q⟩ := h
  exact ⟨a, e, hq a q⟩
theorem Wq.bind {α β : Type} {Q : α → Prop} {R : β → Prop} {o : Option α} {f : α → Option β} (h : Wq o Q) (hq : ∀ a, Q a → Wq (f a) R) : Wq (obind o f) R := (w_bind o f).2 (h.mono hq)
theorem Wq.eq {α : Type} {o : Option α} {a : α} (h : Wq o fun x => x = a) : o = some a := by obtain ⟨x, e, rfl⟩ := h; exact e
/-- What a question comes to. -/
theorem Wq.dec {o : Option Bool} {P : Prop} [Decidable P] (h : Wq o fun b => b = true ↔ P) : o = some (decide P) := by
  obtain ⟨b, e, q⟩ := h
  rw [e]; congr 1
  cases b <;> simp_all
/-- It ends. -/
def Tot {α : Type} (o : Option α) : Prop := Wq o fun _ => True
theorem Tot.wq {α : Type} {Q : α → Prop} {o : Option α} (h : Tot o) (hq : ∀ a, o = some a → Q a) : Wq o Q := by
  obtain ⟨a, e, _⟩ := h
  exact ⟨a, e, hq a e⟩
theorem Wq.tot {α : Type} {Q : α → Prop} {o : Option α} (h : Wq o Q) : Tot o := h.mono fun _ _ => trivial
theorem t_some {α : Type} (a : α) : Tot (some a) := ⟨a, rfl, trivial⟩
theorem t_cnd {α : Type} {c : Bool} {x y : Option α} (h1 : c = true → Tot x) (h2 : c = false → Tot y) : Tot (cnd c x y) := (w_cnd c x y).2 ⟨h1, h2⟩
theorem t_bind {α β : Type} {o : Option α} {f : α → Option β} (h : Tot o) (h2 : ∀ a, o = some a → Tot (f a)) : Tot (obind o f) := (w_bind o f).2 (h.wq h2)
theorem w_iter {V W : Type} {step : V → Option (V ⊕ W)} (μ : V → Nat) (I : V → Prop) (R : W → Prop)
    (h : ∀ v, I v → Wq (step v) fun r => match r with | .inl v' => I v' ∧ μ v' < μ v | .inr w => R w) (n : Nat) (v : V) (hn : μ v < n) (hi : I v) : Wq (iterN step n v) R :=
  iterN_run μ I R (fun v hv => by
    obtain ⟨r, e, q⟩ := h v hv
    match r, e, q with
    | .inl v', e, q => exact .inl ⟨v', e, q.1, q.2⟩
    | .inr w, e, q => exact .inr ⟨w, e, q⟩) n v hn hi
theorem wr_succ {i : Nat} (h : i < 1000000) : wr .i64 (iadd (i : Int) 1) = ((i + 1 : Nat) : Int) := by
  unfold iadd
  rw [wr_small (by omega) (by omega)]; omega
theorem ilt_nat {α : Type} (l : List α) (i : Nat) : ilt (i : Int) (len l) = decide (i < l.length) := by
  simp [ilt, len]
/-- A loop over a list, one by one: in each round it goes on or ends. -/
theorem w_for {W X : Type} {step : Int × X → Option ((Int × X) ⊕ W)} {n : Nat} (hn : n < 999999) (J : Nat → X → Prop) (R : W → Prop)
    (h : ∀ i x, i < n → J i x → Wq (step ((i : Int), x)) fun r => match r with | .inl (k, x') => k = ((i + 1 : Nat) : Int) ∧ J (i + 1) x' | .inr w => R w)
    (he : ∀ x, J n x → Wq (step ((n : Int), x)) fun r => match r with | .inl _ => False | .inr w => R w)
    (x : X) (i0 : Nat) (hi0 : i0 ≤ n) (hx : J i0 x) : Wq (iterN step LF ((i0 : Int), x)) R := by
  refine w_iter (fun v : Int × X => n - v.1.toNat) (fun v : Int × X => ∃ i : Nat, v.1 = (i : Int) ∧ i ≤ n ∧ J i v.2) R ?_ LF _ (lt_LF (by simp only; omega)) ⟨i0, rfl, hi0, hx⟩
  rintro ⟨k, y⟩ ⟨i, rfl, hi, hj⟩
  by_cases hlt : i < n
  · refine (h i y hlt hj).mono fun r hr => ?_
    match r, hr with
    | .inl (k, x'), hr =>
      obtain ⟨rfl, h2⟩ := hr
      exact ⟨⟨i + 1, rfl, hlt, h2⟩, by simp only [Int.toNat_natCast]; omega⟩
    | .inr w, hr => exact hr
  · obtain rfl : i = n := by omega
    refine (he y hj).mono fun r hr => ?_
    match r, hr with
    | .inl _, hr => exact hr.elim
    | .inr w, hr => exact hr
theorem cnd_true {α : Type} (x y : α) : cnd true x y = x := rfl
theorem cnd_false {α : Type} (x y : α) : cnd false x y = y := rfl
theorem bnot_true : bnot true = false := rfl
theorem bnot_false : bnot false = true := rfl
theorem band_true (b : Bool) : band true b = b := rfl
theorem band_false (b : Bool) : band false b = false := rfl
theorem bor_true (b : Bool) : bor true b = true := rfl
theorem bor_false (b : Bool) : bor false b = b := rfl
theorem bor_true' (b : Bool) : bor b true = true := by cases b <;> rfl
theorem ieq_00 : ieq 0 0 = true := rfl
theorem ieq_30 : ieq 3 0 = false := rfl
theorem lset_len {α : Type} (l : List α) (i : Nat) (x : α) : (lset l i x).length = l.length := by simp [lset]
theorem itn_nat (i : Nat) : itn (i : Int) = i := by simp [itn]
theorem e_num_Add {a b : Int} (ha : inI a) (hb : inI b) : F_num_Add a b = some (if inI (a + b) then (a + b, 0) else (0, 3)) := by
  unfold inI at ha hb
  unfold F_num_Add iadd
  rcases wr_two (n := a + b) (by omega) (by omega) with ⟨h, e⟩ | ⟨h, e⟩ | ⟨h, e⟩ <;> rw [e, cnd_if] <;> simp only [band_T, band_F, bor_T, bor_F, bnot_T, bnot_F, ilt_T, ilt_F, ile_T, ile_F, ieq_T, ieq_F, beq_T, beq_F]
  · rw [if_pos h, if_neg]
    rintro ⟨h1, h2⟩; unfold inI at h; exact h1 (decide_eq_decide.2 (by omega))
  · rw [if_pos, if_neg (by unfold inI; omega)]
    exact ⟨fun h1 => by have := decide_eq_decide.1 h1; omega, by omega⟩
  · rw [if_pos, if_neg (by unfold inI; omega)]
    exact ⟨fun h1 => by have := decide_eq_decide.1 h1; omega, by omega⟩
theorem e_num_Sub {a b : Int} (ha : inI a) (hb : inI b) : F_num_Sub a b = some (if inI (a - b) then (a - b, 0) else (0, 3)) := by
  unfold inI at ha hb
  unfold F_num_Sub isub
  rcases wr_two (n := a - b) (by omega) (by omega) with ⟨h, e⟩ | ⟨h, e⟩ | ⟨h, e⟩ <;> rw [e, cnd_if] <;> simp only [band_T, band_F, bor_T, bor_F, bnot_T, bnot_F, ilt_T, ilt_F, ile_T, ile_F, ieq_T, ieq_F, beq_T, beq_F]
  · rw [if_pos h, if_neg]
    rintro ⟨h1, h2⟩; unfold inI at h; exact h1 (decide_eq_decide.2 (by omega))
  · rw [if_pos, if_neg (by unfold inI; omega)]
    exact ⟨fun h1 => by have := decide_eq_decide.1 h1; omega, by omega⟩
  · rw [if_pos, if_neg (by unfold inI; omega)]
    exact ⟨fun h1 => by have := decide_eq_decide.1 h1; omega, by omega⟩
theorem e_num_Max (a b : Int) : F_num_Max a b = some (max a b) := by
  unfold F_num_Max imax
  congr 1
  by_cases h : b > a
  · rw [if_pos h]; omega
  · rw [if_neg h]; omega
/-- A number of 64 bits is two of 32. -/
theorem half (n : Int) (h1 : 0 ≤ n) (h2 : n < 18446744073709551616) : ∃ a b : Int, n = a * 4294967296 + b ∧ 0 ≤ a ∧ a < 4294967296 ∧ 0 ≤ b ∧ b < 4294967296 ∧ ishr .u64 n 32 = a ∧ wr .u64 (iand .u64 n 4294967295) = b := by
  refine ⟨n / 4294967296, n % 4294967296, by omega, by omega, by omega, by omega, by omega, ?_, ?_⟩
  · unfold ishr
    have : min (Int.toNat 32) (IntKind.bits .u64) = 32 := by decide
    rw [this, Int.fdiv_eq_ediv_of_nonneg _ (by decide)]
    rfl
  · unfold iand
    rw [wr_u64]
    have e : (BitVec.ofInt (IntKind.bits .u64) n &&& BitVec.ofInt (IntKind.bits .u64) 4294967295).toNat = n.toNat % 4294967296 := by
      rw [BitVec.toNat_and]
      have : (BitVec.ofInt (IntKind.bits .u64) 4294967295).toNat = 2 ^ 32 - 1 := by decide
      rw [this, Nat.and_two_pow_sub_one_eq_mod]
      rw [BitVec.toNat_ofInt]
      congr 1
      have : (n % (2 ^ (IntKind.bits .u64) : Nat)) = n := Int.emod_eq_of_lt h1 (by simpa [IntKind.bits] using h2)
      rw [this]
    rw [e]; omega
theorem e_Mul64 {x y : Int} (hx : 0 ≤ x) (hx2 : x < 18446744073709551616) (hy : 0 ≤ y) (hy2 : y < 18446744073709551616) :
    F_math_bits_Mul64 x y = some (x * y / 18446744073709551616, x * y % 18446744073709551616) := by
  obtain ⟨a, b, e1, a1, a2, b1, b2, s1, s2⟩ := half x hx hx2
  obtain ⟨c, d, e2, c1, c2, d1, d2, t1, t2⟩ := half y hy hy2
  unfold F_math_bits_Mul64
  rw [s1, s2, t1, t2]
  unfold imul iadd
  have m1 : 0 ≤ a * c ∧ a * c ≤ 4294967295 * 4294967295 := ⟨Int.mul_nonneg a1 c1, Int.mul_le_mul (by omega) (by omega) c1 (by omega)⟩
  have m2 : 0 ≤ a * d ∧ a * d ≤ 4294967295 * 4294967295 := ⟨Int.mul_nonneg a1 d1, Int.mul_le_mul (by omega) (by omega) d1 (by omega)⟩
  have m3 : 0 ≤ b * c ∧ b * c ≤ 4294967295 * 4294967295 := ⟨Int.mul_nonneg b1 c1, Int.mul_le_mul (by omega) (by omega) c1 (by omega)⟩
  have m4 : 0 ≤ b * d ∧ b * d ≤ 4294967295 * 4294967295 := ⟨Int.mul_nonneg b1 d1, Int.mul_le_mul (by omega) (by omega) d1 (by omega)⟩
  have mm : x * y = a * c * 18446744073709551616 + (a * d + b * c) * 4294967296 + b * d := by
    subst e1 e2
    simp only [Int.add_mul, Int.mul_add]
    have q1 : a * 4294967296 * (c * 4294967296) = a * c * 18446744073709551616 := by
      rw [Int.mul_assoc, Int.mul_left_comm 4294967296, ← Int.mul_assoc, ← Int.mul_assoc]; omega
    have q2 : a * 4294967296 * d = a * d * 4294967296 := by rw [Int.mul_assoc, Int.mul_comm 4294967296, ← Int.mul_assoc]
    have q3 : b * (c * 4294967296) = b * c * 4294967296 := by rw [← Int.mul_assoc]
    rw [q1, q2, q3]; omega
  rw [mm]
  generalize a * c = p at *
  generalize a * d = q at *
  generalize b * c = r at *
  generalize b * d = t at *
  have sh : ∀ n : Int, 0 ≤ n → n < 18446744073709551616 → ishr .u64 n 32 = n / 4294967296 := fun n h1 h2 => by
    obtain ⟨u, v, h3, h4, h5, h6, h7, h8, _⟩ := half n h1 h2
    rw [h8]; omega
  have la : ∀ n : Int, 0 ≤ n → n < 18446744073709551616 → wr .u64 (iand .u64 n 4294967295) = n % 4294967296 := fun n h1 h2 => by
    obtain ⟨u, v, h3, h4, h5, h6, h7, _, h8⟩ := half n h1 h2
    rw [h8]; omega
  simp only [wr_u64 p, wr_u64 q, wr_u64 r, wr_u64 t]
  rw [Int.emod_eq_of_lt (a := p) m1.1 (by omega), Int.emod_eq_of_lt (a := q) m2.1 (by omega), Int.emod_eq_of_lt (a := r) m3.1 (by omega), Int.emod_eq_of_lt (a := t) m4.1 (by omega)]
  rw [sh t m4.1 (by omega)]
  rw [wr_u64 (q + t / 4294967296), Int.emod_eq_of_lt (a := q + t / 4294967296) (by omega) (by omega)]
  rw [sh (q + t / 4294967296) (by omega) (by omega), la (q + t / 4294967296) (by omega) (by omega)]
  rw [wr_u64 (p + _), Int.emod_eq_of_lt (a := p + (q + t / 4294967296) / 4294967296) (by omega) (by omega)]
  rw [wr_u64 ((q + t / 4294967296) % 4294967296 + r), Int.emod_eq_of_lt (a := (q + t / 4294967296) % 4294967296 + r) (by omega) (by omega)]
  rw [sh _ (by omega) (by omega)]
  rw [wr_u64, wr_u64]
  congr 2 <;> omega
theorem e_num_size {a : Int} (ha : inI a) : F_num_size a = some (a.natAbs : Int) := by
  unfold inI at ha
  unfold F_num_size isub
  rw [cnd_if]; simp only [ilt_T, wr_u64]
  split
  · congr 1; omega
  · congr 1; omega
theorem e_num_Mul {a b : Int} (ha : inI a) (hb : inI b) : F_num_Mul a b = some (if inI (a * b) then (a * b, 0) else (0, 3)) := by
  unfold F_num_Mul
  rw [e_num_size ha, e_num_size hb, ob_some, ob_some, e_Mul64 (by omega) (by unfold inI at ha; omega) (by omega) (by unfold inI at hb; omega), ob_some]
  have hm : (a.natAbs : Int) * (b.natAbs : Int) = ((a * b).natAbs : Int) := by rw [Int.natAbs_mul]; rfl
  have hn : (a.natAbs : Int) * (b.natAbs : Int) ≤ 9223372036854775808 * 9223372036854775808 := Int.mul_le_mul (by unfold inI at ha; omega) (by unfold inI at hb; omega) (by omega) (by omega)
  rw [hm] at hn ⊢
  have hs : (decide (a < 0) = decide (b < 0) → 0 ≤ a * b) ∧ (decide (a < 0) ≠ decide (b < 0) → a * b ≤ 0) := by
    constructor
    · intro h
      by_cases h1 : a < 0
      · have h2 : b < 0 := by simpa [h1] using h
        exact Int.mul_nonneg_of_nonpos_of_nonpos (by omega) (by omega)
      · have h2 : ¬ b < 0 := by simpa [h1] using h
        exact Int.mul_nonneg (by omega) (by omega)
    · intro h
      by_cases h1 : a < 0
      · have h2 : ¬ b < 0 := by simpa [h1] using h
        exact Int.mul_nonpos_of_nonpos_of_nonneg (by omega) (by omega)
      · have h2 : b < 0 := by simpa [h1] using h
        exact Int.mul_nonpos_of_nonneg_of_nonpos (by omega) (by omega)
  generalize a * b = p at *
  simp only [cnd_if, band_T, band_F, bor_T, bor_F, bnot_T, bnot_F, ilt_T, ilt_F, ile_T, ile_F, ieq_T, ieq_F, beq_T, beq_F, isub, wr_u64, ne_eq]
  unfold ilt at *
  by_cases hd : decide (a < 0) = decide (b < 0)
  · have hp := hs.1 hd
    rw [if_neg (fun h => h.1.2 hd)]
    by_cases hr : p ≤ 9223372036854775807
    · rw [if_pos (by omega), if_pos ⟨by omega, by omega⟩, wr_in ⟨by omega, by omega⟩]
      congr 2; omega
    · rw [if_neg (by omega), if_neg (by unfold inI; omega)]
  · have hp := hs.2 hd
    by_cases hr : -9223372036854775808 ≤ p
    · rw [if_pos ⟨⟨by omega, hd⟩, by omega⟩, if_pos ⟨by omega, by omega⟩]
      congr 2
      rcases wr_two (n := (0 - ((p.natAbs : Int) % 18446744073709551616)) % 18446744073709551616) (by omega) (by omega) with ⟨h, e⟩ | ⟨h, e⟩ | ⟨h, e⟩ <;> rw [e] <;> unfold inI at * <;> omega
    · rw [if_neg (by omega), if_neg (by omega), if_neg (by unfold inI; omega)]
def knownP (n : Int) : Prop := 1 ≤ n ∧ n ≤ 1000000000000
/-- A right record. -/
def recP (r : SRec) : Prop :=
  (r.kind = 1 ∧ knownP r.order ∧ (0 ≤ r.account ∧ r.account < 8) ∧ (0 ≤ r.symbol ∧ r.symbol < 8) ∧ (r.side = 1 ∨ r.side = 2) ∧ 1 ≤ r.qty ∧ 1 ≤ r.price ∧ r.long = 0 ∧ r.short = 0 ∧ r.opn = 0 ∧ r.on = false ∧ r.seq = 0 ∧ r.what = 0) ∨
  (r.kind = 2 ∧ knownP r.order ∧ r.account = 0 ∧ r.symbol = 0 ∧ r.side = 0 ∧ 1 ≤ r.qty ∧ 1 ≤ r.price ∧ r.long = 0 ∧ r.short = 0 ∧ r.opn = 0 ∧ r.on = false ∧ r.seq = 0 ∧ r.what = 0) ∨
  (r.kind = 3 ∧ knownP r.order ∧ r.account = 0 ∧ r.symbol = 0 ∧ r.side = 0 ∧ r.qty = 0 ∧ r.price = 0 ∧ r.long = 0 ∧ r.short = 0 ∧ r.opn = 0 ∧ r.on = false ∧ r.seq = 0 ∧ r.what = 0) ∨
  (r.kind = 4 ∧ r.order = 0 ∧ (0 ≤ r.account ∧ r.account < 8) ∧ ((r.symbol = -1 ∧ r.long = 0 ∧ r.short = 0) ∨ (0 ≤ r.symbol ∧ r.symbol < 8)) ∧ r.side = 0 ∧ r.qty = 0 ∧ r.price = 0 ∧ 0 ≤ r.long ∧ 0 ≤ r.short ∧ 0 ≤ r.opn ∧ r.on = false ∧ r.seq = 0 ∧ r.what = 0) ∨
  (r.kind = 5 ∧ r.order = 0 ∧ r.account = 0 ∧ r.symbol = 0 ∧ r.side = 0 ∧ r.qty = 0 ∧ r.price = 0 ∧ r.long = 0 ∧ r.short = 0 ∧ r.opn = 0 ∧ r.seq = 0 ∧ r.what = 0) ∨
  (r.kind = 6 ∧ knownP r.order ∧ r.account = 0 ∧ r.symbol = 0 ∧ r.side = 0 ∧ r.long = 0 ∧ r.short = 0 ∧ r.opn = 0 ∧ r.on = false ∧ (1 ≤ r.seq ∧ r.seq ≤ 1000000000) ∧
    ((r.what = 3 ∧ 1 ≤ r.qty ∧ r.price = 0) ∨ (r.what = 5 ∧ 1 ≤ r.qty ∧ 1 ≤ r.price) ∨ ((r.what = 1 ∨ r.what = 2 ∨ r.what = 4 ∨ r.what = 6) ∧ r.qty = 0 ∧ r.price = 0)))
theorem imin3 (a b c : Int) : (0 ≤ imin (imin a b) c) ↔ 0 ≤ a ∧ 0 ≤ b ∧ 0 ≤ c := by
  unfold imin; split <;> split <;> omega
theorem s_rec_event (r : SRec) : Wq (F_rec_event r) fun b => b = true ↔ knownP r.order ∧ (1 ≤ r.seq ∧ r.seq ≤ 1000000000) ∧
    ((r.what = 3 ∧ 1 ≤ r.qty ∧ r.price = 0) ∨ (r.what = 5 ∧ 1 ≤ r.qty ∧ 1 ≤ r.price) ∨ ((r.what = 1 ∨ r.what = 2 ∨ r.what = 4 ∨ r.what = 6) ∧ r.qty = 0 ∧ r.price = 0)) := by
  unfold F_rec_event F_rec_known F_rec_sized
  by_cases h1 : 1 ≤ r.seq ∧ r.seq ≤ 1000000000
  · rw [cnd_t (b := bnot (bor (ilt r.seq 1) (ilt 1000000000 r.seq))) (by simp only [band_T, band_F, bor_T, bor_F, bnot_T, bnot_F, ilt_T, ilt_F, ile_T, ile_F, ieq_T, ieq_F, beq_T, beq_F]; omega), ob_some]
    by_cases h2 : knownP r.order
    · rw [show band (ile 1 r.order) (ile r.order 1000000000000) = true by simp only [band_T, band_F, bor_T, bor_F, bnot_T, bnot_F, ilt_T, ilt_F, ile_T, ile_F, ieq_T, ieq_F, beq_T, beq_F]; exact h2, cnd_f (by simp only [band_T, band_F, bor_T, bor_F, bnot_T, bnot_F, ilt_T, ilt_F, ile_T, ile_F, ieq_T, ieq_F, beq_T, beq_F]; exact ⟨by omega, trivial⟩)]
      by_cases k3 : r.what = 3
      · rw [cnd_t (by rw [ieq_T]; exact k3), w_some]; simp only [h1, h2, true_and, band_T, band_F, bor_T, bor_F, bnot_T, bnot_F, ilt_T, ilt_F, ile_T, ile_F, ieq_T, ieq_F, beq_T, beq_F]; omega
      rw [cnd_f (by rw [ieq_F]; exact k3)]
      by_cases k5 : r.what = 5
      · rw [cnd_t (by rw [ieq_T]; exact k5), ob_some, w_some]; simp only [h1, h2, true_and, band_T, band_F, bor_T, bor_F, bnot_T, bnot_F, ilt_T, ilt_F, ile_T, ile_F, ieq_T, ieq_F, beq_T, beq_F]; omega
      rw [cnd_f (by rw [ieq_F]; exact k5)]
      by_cases k1 : r.what = 1
      · rw [cnd_t (by rw [ieq_T]; exact k1), cnd_t (by rw [ieq_T]; exact k1), w_some]; simp only [h1, h2, true_and, band_T, band_F, bor_T, bor_F, bnot_T, bnot_F, ilt_T, ilt_F, ile_T, ile_F, ieq_T, ieq_F, beq_T, beq_F]; omega
      rw [cnd_f (by rw [ieq_F]; exact k1)]
      by_cases k2 : r.what = 2
      · rw [cnd_t (by rw [ieq_T]; exact k2), cnd_t (by rw [ieq_T]; exact k2), w_some]; simp only [h1, h2, true_and, band_T, band_F, bor_T, bor_F, bnot_T, bnot_F, ilt_T, ilt_F, ile_T, ile_F, ieq_T, ieq_F, beq_T, beq_F]; omega
      rw [cnd_f (by rw [ieq_F]; exact k2)]
      by_cases k4 : r.what = 4
      · rw [cnd_t (by rw [ieq_T]; exact k4), cnd_t (by rw [ieq_T]; exact k4), w_some]; simp only [h1, h2, true_and, band_T, band_F, bor_T, bor_F, bnot_T, bnot_F, ilt_T, ilt_F, ile_T, ile_F, ieq_T, ieq_F, beq_T, beq_F]; omega
      rw [cnd_f (by rw [ieq_F]; exact k4)]
      by_cases k6 : r.what = 6
      · rw [cnd_t (by rw [ieq_T]; exact k6), w_some]; simp only [h1, h2, true_and, band_T, band_F, bor_T, bor_F, bnot_T, bnot_F, ilt_T, ilt_F, ile_T, ile_F, ieq_T, ieq_F, beq_T, beq_F]; omega
      rw [cnd_f (by rw [ieq_F]; exact k6), w_some]
      simp only [h1, h2, true_and, Bool.false_eq_true, false_iff]; omega
    · rw [show band (ile 1 r.order) (ile r.order 1000000000000) = false by simp only [band_T, band_F, bor_T, bor_F, bnot_T, bnot_F, ilt_T, ilt_F, ile_T, ile_F, ieq_T, ieq_F, beq_T, beq_F]; unfold knownP at h2; omega, cnd_t (by simp only [band_T, band_F, bor_T, bor_F, bnot_T, bnot_F, ilt_T, ilt_F, ile_T, ile_F, ieq_T, ieq_F, beq_T, beq_F, or_true]), w_some]
      simp [h2]
  · rw [cnd_f (b := bnot (bor (ilt r.seq 1) (ilt 1000000000 r.seq))) (by simp only [band_T, band_F, bor_T, bor_F, bnot_T, bnot_F, ilt_T, ilt_F, ile_T, ile_F, ieq_T, ieq_F, beq_T, beq_F]; omega), ob_some, cnd_t (by simp only [band_T, band_F, bor_T, bor_F, bnot_T, bnot_F, ilt_T, ilt_F, ile_T, ile_F, ieq_T, ieq_F, beq_T, beq_F, or_true]), w_some]
    simp [h1]
theorem s_rec_Right (r : SRec) : Wq (F_rec_Right r) fun b => b = true ↔ recP r := by
  unfold F_rec_Right F_rec_fields
  obtain ⟨ev, he, hq⟩ := s_rec_event r
  by_cases k1 : r.kind = 1
  · have e1 : ieq r.kind 1 = true := by rw [ieq_T]; exact k1
    simp only [e1, cnd_true, ob_some]
    simp only [w_bind, w_cnd, w_some, band_T, band_F, bor_T, bor_F, bnot_T, bnot_F, ilt_T, ilt_F, ile_T, ile_F, ieq_T, ieq_F, beq_T, beq_F, true_implies, ne_eq, not_true_eq_false, false_implies, and_true, true_and, or_self, reduceCtorEq, F_rec_known, F_rec_below, F_rec_sized, recP, knownP]; grind
  have e1 : ieq r.kind 1 = false := by rw [ieq_F]; exact k1
  by_cases k2 : r.kind = 2
  · have e2 : ieq r.kind 2 = true := by rw [ieq_T]; exact k2
    simp only [e1, e2, cnd_true, cnd_false, ob_some]
    simp only [w_bind, w_cnd, w_some, band_T, band_F, bor_T, bor_F, bnot_T, bnot_F, ilt_T, ilt_F, ile_T, ile_F, ieq_T, ieq_F, beq_T, beq_F, true_implies, ne_eq, not_true_eq_false, false_implies, and_true, true_and, or_self, reduceCtorEq, F_rec_known, F_rec_below, F_rec_sized, recP, knownP]; grind
  have e2 : ieq r.kind 2 = false := by rw [ieq_F]; exact k2
  by_cases k3 : r.kind = 3
  · have e3 : ieq r.kind 3 = true := by rw [ieq_T]; exact k3
    simp only [e1, e2, e3, cnd_true, cnd_false, ob_some]
    simp only [w_bind, w_cnd, w_some, band_T, band_F, bor_T, bor_F, bnot_T, bnot_F, ilt_T, ilt_F, ile_T, ile_F, ieq_T, ieq_F, beq_T, beq_F, true_implies, ne_eq, not_true_eq_false, false_implies, and_true, true_and, or_self, reduceCtorEq, F_rec_known, F_rec_below, F_rec_sized, recP, knownP]; grind
  have e3 : ieq r.kind 3 = false := by rw [ieq_F]; exact k3
  by_cases k4 : r.kind = 4
  · have e4 : ieq r.kind 4 = true := by rw [ieq_T]; exact k4
    simp only [e1, e2, e3, e4, cnd_true, cnd_false, ob_some]
    simp only [w_bind, w_cnd, w_some, band_T, band_F, bor_T, bor_F, bnot_T, bnot_F, ilt_T, ilt_F, ile_T, ile_F, ieq_T, ieq_F, beq_T, beq_F, true_implies, ne_eq, not_true_eq_false, false_implies, and_true, true_and, or_self, reduceCtorEq, F_rec_known, F_rec_below, F_rec_sized, recP, knownP, imin3]; grind
  have e4 : ieq r.kind 4 = false := by rw [ieq_F]; exact k4
  by_cases k5 : r.kind = 5
  · have e5 : ieq r.kind 5 = true := by rw [ieq_T]; exact k5
    simp only [e1, e2, e3, e4, e5, cnd_true, cnd_false, ob_some]
    simp only [w_bind, w_cnd, w_some, band_T, band_F, bor_T, bor_F, bnot_T, bnot_F, ilt_T, ilt_F, ile_T, ile_F, ieq_T, ieq_F, beq_T, beq_F, true_implies, ne_eq, not_true_eq_false, false_implies, and_true, true_and, or_self, reduceCtorEq, F_rec_known, F_rec_below, F_rec_sized, recP, knownP]; grind
  have e5 : ieq r.kind 5 = false := by rw [ieq_F]; exact k5
  by_cases k6 : r.kind = 6
  · have e6 : ieq r.kind 6 = true := by rw [ieq_T]; exact k6
    simp only [e1, e2, e3, e4, e5, e6, cnd_true, cnd_false, ob_some, he]
    simp only [w_bind, w_cnd, w_some, band_T, band_F, bor_T, bor_F, bnot_T, bnot_F, ilt_T, ilt_F, ile_T, ile_F, ieq_T, ieq_F, beq_T, beq_F, true_implies, ne_eq, not_true_eq_false, false_implies, and_true, true_and, or_self, reduceCtorEq, recP, hq]; grind
  have e6 : ieq r.kind 6 = false := by rw [ieq_F]; exact k6
  simp only [e1, e2, e3, e4, e5, e6, cnd_true, cnd_false, ob_some]
  simp only [w_bind, w_cnd, w_some, band_T, band_F, bor_T, bor_F, bnot_T, bnot_F, ilt_T, ilt_F, ile_T, ile_F, ieq_T, ieq_F, beq_T, beq_F, true_implies, ne_eq, not_true_eq_false, false_implies, and_true, true_and, or_self, reduceCtorEq, recP]; grind
/-- An order's own part, as it begins. -/
def begunP (o : SOrder) : Prop := (1 ≤ o.id ∧ o.id ≤ 1000000000000) ∧ (0 ≤ o.account ∧ o.account < 8) ∧ (0 ≤ o.symbol ∧ o.symbol < 8) ∧ (o.side = 1 ∨ o.side = 2) ∧ 1 ≤ o.qty ∧ 1 ≤ o.price
theorem s_order_begun (o : SOrder) : Wq (F_order_begun o) fun b => b = true ↔ begunP o := by
  unfold F_order_begun
  rw [w_bind]
  refine (s_rec_Right _).mono fun b hb => ?_
  rw [w_some, hb]
  simp [recP, begunP, knownP]
def pendP (o : SOrder) : Prop := o.newQty ≠ 0 ∨ o.newPrice ≠ 0
instance (o : SOrder) : Decidable (pendP o) := by unfold pendP; infer_instance
instance (o : SOrder) : Decidable (begunP o) := by unfold begunP; infer_instance
theorem s_order_pending (o : SOrder) : Wq (F_order_pending o) fun b => b = true ↔ pendP o := by
  unfold F_order_pending
  simp only [w_some, bor_T, bnot_T, ieq_F, pendP]
/-- A right order. -/
def ordP (o : SOrder) : Prop := begunP o ∧ 0 ≤ o.filled ∧ o.filled ≤ o.qty ∧ 0 ≤ o.version ∧ (pendP o → 1 ≤ o.newQty ∧ 1 ≤ o.newPrice) ∧
  ((o.phase = 1 ∧ o.filled = 0 ∧ o.version = 0 ∧ ¬ pendP o) ∨ (o.phase = 2 ∧ o.filled < o.qty) ∨ (o.phase = 3 ∧ ¬ pendP o))
instance (o : SOrder) : Decidable (ordP o) := by unfold ordP; infer_instance
theorem s_order_Right (o : SOrder) : Wq (F_order_Right o) fun b => b = true ↔ ordP o := by
  unfold F_order_Right
  rw [w_bind]
  refine (s_order_pending o).mono fun p hp => ?_
  rw [w_bind]
  refine (s_order_begun o).mono fun b hb => ?_
  unfold ordP
  rw [← hp, ← hb]
  have hm : (imin o.newQty o.newPrice < 1) ↔ ¬ (1 ≤ o.newQty ∧ 1 ≤ o.newPrice) := by unfold imin; split <;> omega
  simp only [w_bind, w_cnd, w_some, band_T, band_F, bor_T, bor_F, bnot_T, bnot_F, ilt_T, ilt_F, ile_T, ile_F, ieq_T, ieq_F, beq_T, beq_F, hm]
  cases p <;> cases b <;> simp <;> omega
theorem e_order_Right (o : SOrder) : F_order_Right o = some (decide (ordP o)) := (s_order_Right o).dec
/-- How much is open of an order, and what that is worth. -/
def openZ (o : SOrder) : Int := if o.phase = 3 then 0 else max o.qty o.newQty - o.filled
def worthZ (o : SOrder) : Int := if o.phase = 3 then 0 else if o.newQty ≤ o.filled then (o.qty - o.filled) * o.price else max ((o.qty - o.filled) * o.price) ((o.newQty - o.filled) * o.newPrice)
theorem openZ_rng {o : SOrder} (h : ordP o) (hr : Ok_order o) : 0 ≤ openZ o ∧ openZ o ≤ 9223372036854775807 := by
  obtain ⟨_, h1, h2, _⟩ := h
  have := hr.qty.2; have := hr.newQty.2
  unfold openZ; split <;> omega
theorem new_pos {o : SOrder} (h : ordP o) (hn : o.filled < o.newQty) : 1 ≤ o.newPrice := by
  obtain ⟨_, h1, h2, _, h4, _⟩ := h
  exact (h4 (.inl (by omega))).2
theorem worthZ_nn {o : SOrder} (h : ordP o) : 0 ≤ worthZ o := by
  have hp := h.1.2.2.2.2.2
  have hf := h.2.2.1
  unfold worthZ; split
  · omega
  · have m : 0 ≤ (o.qty - o.filled) * o.price := Int.mul_nonneg (by omega) (by omega)
    split <;> omega
theorem e_order_Open {o : SOrder} (h : ordP o) (hr : Ok_order o) : F_order_Open o = some (openZ o) := by
  have hb := openZ_rng h hr
  unfold F_order_Open
  rw [e_order_Right, ob_some, decide_eq_true h, e_num_Max, ob_some]
  unfold openZ at *
  rw [bnot_true, bor_false, c_ieq]
  split
  · rfl
  · rename_i hp
    rw [if_neg hp] at hb
    unfold isub
    rw [wr_in ⟨by omega, by omega⟩]
theorem e_order_Worth {o : SOrder} (h : ordP o) (hr : Ok_order o) : F_order_Worth o = some (if worthZ o ≤ 9223372036854775807 then (worthZ o, 0) else (0, 3)) := by
  have hp := h.1.2.2.2.2.2
  have hf := h.2.2.1
  have hf0 := h.2.1
  have rq := hr.qty; have rp := hr.price; have rf := hr.filled; have rn := hr.newQty; have rnp := hr.newPrice
  unfold inI at rq rf rn
  unfold F_order_Worth
  rw [e_order_Right, ob_some, decide_eq_true h, bnot_true, cnd_false, c_ieq]
  unfold worthZ
  split
  · rw [if_pos (by omega)]
  · unfold isub
    rw [wr_in ⟨by omega, by omega⟩, e_num_Mul ⟨by omega, by omega⟩ rp, ob_some]
    have m : 0 ≤ (o.qty - o.filled) * o.price := Int.mul_nonneg (by omega) (by omega)
    generalize (o.qty - o.filled) * o.price = a at *
    rw [cnd_if]
    simp only [band_T, band_F, bor_T, bor_F, bnot_T, bnot_F, ilt_T, ilt_F, ile_T, ile_F, ieq_T, ieq_F, beq_T, beq_F]
    by_cases hn : o.newQty ≤ o.filled
    · rw [if_pos (.inr hn), if_pos hn]
      by_cases ha : a ≤ 9223372036854775807
      · rw [if_pos (c := inI a) ⟨by omega, ha⟩, if_pos ha]
      · rw [if_neg (c := inI a) (by unfold inI; omega), if_neg ha]
    · rw [if_neg hn]
      have hnp := new_pos h (by omega)
      rw [wr_in ⟨by omega, by omega⟩, e_num_Mul ⟨by omega, by omega⟩ rnp, ob_some]
      have m2 : 0 ≤ (o.newQty - o.filled) * o.newPrice := Int.mul_nonneg (by omega) (by omega)
      generalize (o.newQty - o.filled) * o.newPrice = b at *
      by_cases ha : a ≤ 9223372036854775807
      · rw [if_pos (c := inI a) ⟨by omega, ha⟩, if_neg (by simp only [ne_eq, not_true_eq_false, false_or]; exact hn)]
        by_cases hb : b ≤ 9223372036854775807
        · rw [if_pos (c := inI b) ⟨by omega, hb⟩]
          rw [cnd_f (by simp [bnot, ieq]), e_num_Max, ob_some, if_pos (by omega)]
        · rw [if_neg (c := inI b) (by unfold inI; omega)]
          rw [cnd_t (by simp [bnot, ieq]), if_neg (by omega)]
      · rw [if_neg (c := inI a) (by unfold inI; omega), if_pos (.inl (by decide)), if_neg (by omega)]
def okC (c : SCell) : Prop := Ok_cell c ∧ (0 ≤ c.buy ∧ 0 ≤ c.sell ∧ 0 ≤ c.opn) ∧ inI (c.pos + c.buy) ∧ inI (c.sell - c.pos)
theorem okC_iff (c : SCell) : okC c ↔ (inI c.pos ∧ inI c.buy ∧ inI c.sell ∧ inI c.opn) ∧ (0 ≤ c.buy ∧ 0 ≤ c.sell ∧ 0 ≤ c.opn) ∧ inI (c.pos + c.buy) ∧ inI (c.sell - c.pos) :=
  ⟨fun ⟨⟨a, b, c, d⟩, h⟩ => ⟨⟨a, b, c, d⟩, h⟩, fun ⟨⟨a, b, c, d⟩, h⟩ => ⟨⟨a, b, c, d⟩, h⟩⟩
instance (c : SCell) : Decidable (okC c) := decidable_of_iff _ (okC_iff c).symm
theorem e_cell_expo {c : SCell} (h : Ok_cell c) : F_cell_expo c = some (⟨if inI (c.pos + c.buy) then c.pos + c.buy else 0, if inI (c.sell - c.pos) then c.sell - c.pos else 0, c.opn⟩, decide (inI (c.pos + c.buy) ∧ inI (c.sell - c.pos))) := by
  unfold F_cell_expo
  rw [e_num_Add h.pos h.buy, ob_some, e_num_Sub h.sell h.pos, ob_some]
  by_cases h1 : inI (c.pos + c.buy)
  · by_cases h2 : inI (c.sell - c.pos)
    · simp only [if_pos h1, if_pos h2, ieq_00, band_true, decide_eq_true (show _ ∧ _ from ⟨h1, h2⟩)]
    · simp only [if_pos h1, if_neg h2, ieq_30, ieq_00, band_true, decide_eq_false (fun h : _ ∧ _ => h2 h.2)]
  · simp only [if_neg h1, ieq_30, band_false, decide_eq_false (fun h : _ ∧ _ => h1 h.1)]
    by_cases h2 : inI (c.sell - c.pos)
    · simp only [if_pos h2]
    · simp only [if_neg h2]
theorem s_cell_Right {c : SCell} (h : Ok_cell c) : Wq (F_cell_Right c) fun b => b = true ↔ okC c := by
  unfold F_cell_Right
  rw [e_cell_expo h, ob_some, w_some]
  simp only [band_T, ile_T, decide_eq_true_eq, okC]
  rw [imin3]
  constructor
  · rintro ⟨a, b⟩; exact ⟨h, b, a⟩
  · rintro ⟨_, b, a⟩; exact ⟨a, b⟩
theorem e_cell_Right {c : SCell} (h : Ok_cell c) : F_cell_Right c = some (decide (okC c)) := (s_cell_Right h).dec
/-- What a cell may come to. -/
def ofC (c : SCell) : SExpo := ⟨c.pos + c.buy, c.sell - c.pos, c.opn⟩
/-- A cell with an order more, or less. -/
def addC (c : SCell) (o : SOrder) : SCell := if o.side = 2 then ⟨c.pos, c.buy, c.sell + openZ o, c.opn + worthZ o⟩ else ⟨c.pos, c.buy + openZ o, c.sell, c.opn + worthZ o⟩
theorem e_cell_Come {c : SCell} {o : SOrder} (hc : okC c) (ho : ordP o) (hr : Ok_order o) : F_cell_Come c o = some (if okC (addC c o) then (addC c o, 0) else (c, 3)) := by
  have hO := openZ_rng ho hr
  have hW := worthZ_nn ho
  obtain ⟨hk, ⟨n1, n2, n3⟩, r1, r2⟩ := id hc
  have ib := hk.buy; have is' := hk.sell; have io := hk.opn; have ip := hk.pos
  unfold F_cell_Come
  rw [e_cell_Right hk, ob_some, decide_eq_true hc, e_order_Right, decide_eq_true ho, bnot_true, bnot_false, cnd_true, ob_some, bnot_true, bor_false, cnd_false, e_order_Worth ho hr, e_order_Open ho hr, ob_some]
  simp only [ob_some]
  have oO : inI (openZ o) := ⟨by omega, by omega⟩
  by_cases hw : worthZ o ≤ 9223372036854775807
  · have oW : inI (worthZ o) := ⟨by omega, hw⟩
    rw [if_pos hw]
    simp only [ieq_00, bnot_true, bor_false]
    by_cases hs : o.side = 2
    · rw [cnd_t (by rw [ieq_T]; exact hs), e_num_Add is' oO, ob_some, e_num_Add io oW, ob_some]
      unfold addC; rw [if_pos hs]
      by_cases h1 : c.sell + openZ o ≤ 9223372036854775807
      · by_cases h2 : c.opn + worthZ o ≤ 9223372036854775807
        · rw [if_pos ⟨by omega, h1⟩, if_pos ⟨by omega, h2⟩]
          simp only [ieq_00, bnot_true, bor_false, bnot_false, cnd_true]
          rw [e_cell_Right (c := ⟨c.pos, c.buy, c.sell + openZ o, c.opn + worthZ o⟩) ⟨ip, ib, ⟨by simp only; omega, h1⟩, ⟨by simp only; omega, h2⟩⟩, ob_some, c_bnot, c_dec]
          split <;> rfl
        · rw [if_pos ⟨by omega, h1⟩, if_neg (by unfold inI; omega)]
          simp only [ieq_00, ieq_30, bnot_true, bor_false, bnot_false, cnd_true, bor_true, cnd_false, ob_some]
          rw [if_neg fun h => h2 h.1.opn.2]
      · rw [if_neg (by unfold inI; omega)]
        simp only [ieq_30, bnot_false, bor_true, bnot_true, cnd_true, cnd_false, ob_some]
        rw [if_neg fun h => h1 h.1.sell.2]
    · rw [cnd_f (by rw [ieq_F]; exact hs), e_num_Add ib oO, ob_some, e_num_Add io oW, ob_some]
      unfold addC; rw [if_neg hs]
      by_cases h1 : c.buy + openZ o ≤ 9223372036854775807
      · by_cases h2 : c.opn + worthZ o ≤ 9223372036854775807
        · rw [if_pos ⟨by omega, h1⟩, if_pos ⟨by omega, h2⟩]
          simp only [ieq_00, bnot_true, bor_false, bnot_false, cnd_true]
          rw [e_cell_Right (c := ⟨c.pos, c.buy + openZ o, c.sell, c.opn + worthZ o⟩) ⟨ip, ⟨by simp only; omega, h1⟩, is', ⟨by simp only; omega, h2⟩⟩, ob_some, c_bnot, c_dec]
          split <;> rfl
        · rw [if_pos ⟨by omega, h1⟩, if_neg (by unfold inI; omega)]
          simp only [ieq_00, ieq_30, bnot_true, bor_false, bnot_false, cnd_true, bor_true, cnd_false, ob_some]
          rw [if_neg fun h => h2 h.1.opn.2]
      · rw [if_neg (by unfold inI; omega)]
        simp only [ieq_30, bnot_false, bor_true, bnot_true, cnd_true, cnd_false, ob_some]
        rw [if_neg fun h => h1 h.1.buy.2]
  · have hno : ¬ okC (addC c o) := fun h => by
      have := h.1.opn.2
      unfold addC at this
      split at this <;> simp only at this <;> omega
    rw [if_neg hw, if_neg hno]
    simp only [ieq_30, bnot_false, bor_true, bnot_true, cnd_false, ob_some, cnd_true]
    by_cases hs : o.side = 2
    · rw [cnd_t (by rw [ieq_T]; exact hs), e_num_Add is' oO, ob_some, e_num_Add io (by decide), ob_some]
    · rw [cnd_f (by rw [ieq_F]; exact hs), e_num_Add ib oO, ob_some, e_num_Add io (by decide), ob_some]
def limP (x : SExpo) : Prop := 0 ≤ x.long ∧ 0 ≤ x.short ∧ 0 ≤ x.opn
instance (x : SExpo) : Decidable (limP x) := by unfold limP; infer_instance
theorem e_limit_Right (x : SExpo) : F_limit_Right x = some (decide (limP x)) := by
  refine Wq.dec ?_
  unfold F_limit_Right limP
  rw [w_some, ile_T, imin3]
def capP (was now cap : Int) : Prop := max was cap < now
instance (a b c : Int) : Decidable (capP a b c) := by unfold capP; infer_instance
def againstP (a b l : SExpo) : Prop := capP a.long b.long l.long ∨ capP a.short b.short l.short ∨ capP a.opn b.opn l.opn
instance (a b l : SExpo) : Decidable (againstP a b l) := by unfold againstP; infer_instance
theorem sum_take_succ (l : List Int) (i : Nat) (h : i < l.length) : (l.take (i + 1)).sum = (l.take i).sum + l[i] := by
  rw [List.take_succ_eq_append_getElem h, List.sum_append]; simp
theorem sum_nn : ∀ {l : List Int}, (∀ x ∈ l, 0 ≤ x) → 0 ≤ l.sum
  | [], _ => by simp
  | a :: l, h => by
    have := sum_nn (l := l) fun x hx => h x (by simp [hx])
    have := h a (by simp)
    simp only [List.sum_cons]; omega
theorem sum_take_le {l : List Int} (h : ∀ x ∈ l, 0 ≤ x) (i : Nat) : (l.take i).sum ≤ l.sum := by
  have e : l.sum = (l.take i).sum + (l.drop i).sum := by rw [← List.sum_append, List.take_append_drop]
  have := sum_nn (l := l.drop i) fun x hx => h x (List.mem_of_mem_drop hx)
  omega
def totZ (l : List Int) : Int × Int := if l.sum ≤ 9223372036854775807 then (l.sum, 0) else (0, 3)
theorem e_num_Total {l : List Int} (hl : l.length < 999999) (h : ∀ x ∈ l, 0 ≤ x ∧ inI x) : F_num_Total l = some (totZ l) := by
  refine Wq.eq ?_
  have hn : ∀ x ∈ l, 0 ≤ x := fun x hx => (h x hx).1
  unfold F_num_Total
  refine Wq.bind (Q := fun w : (Int × Int) ⊕ (Int × Int × Int) => match w with | .inl w => w = (3, 0) ∧ ¬ l.sum ≤ 9223372036854775807 | .inr w => w.1 = l.sum ∧ l.sum ≤ 9223372036854775807)
    (w_for (n := l.length) (step := fun v : Int × Int × Int × Int => L_num_Total_58 (len l) l v.fst v.snd.fst v.snd.snd.fst v.snd.snd.snd) (by omega)
      (fun i x => x.1 = (l.take i).sum ∧ x.1 ≤ 9223372036854775807) _ ?_ ?_ _ 0 (Nat.zero_le _) (by simp)) ?_
  · rintro i ⟨a, b, c⟩ hi ⟨rfl, ha⟩
    simp only [L_num_Total_58]
    simp only at ha
    have ht := sum_nn (l := l.take i) fun x hx => hn x (List.mem_of_mem_take hx)
    have hx := h l[i] (List.getElem_mem _)
    rw [cnd_t (by rw [ilt_nat]; simpa using hi), cnd_t (inb l i hi), lget_nat l i hi, e_num_Add ⟨by omega, ha⟩ hx.2, ob_some, ← sum_take_succ l i hi]
    have := sum_take_le hn (i + 1)
    have h2 := sum_nn (l := l.take (i + 1)) fun x hx => hn x (List.mem_of_mem_take hx)
    by_cases hr : (l.take (i + 1)).sum ≤ 9223372036854775807
    · rw [if_pos ⟨by omega, hr⟩]
      simp only [ieq_00, bnot_true, cnd_false, w_some]
      exact ⟨wr_succ (by omega), trivial, hr⟩
    · rw [if_neg (by unfold inI; omega)]
      simp only [ieq_30, bnot_false, cnd_true, w_some]
      exact ⟨trivial, by omega⟩
  · rintro ⟨a, b, c⟩ ⟨rfl, ha⟩
    simp only [L_num_Total_58]
    simp only at ha
    rw [cnd_f (by rw [ilt_nat]; simp), w_some]
    rw [List.take_length] at *
    exact ⟨rfl, ha⟩
  · rintro w hw
    unfold totZ
    cases w with
    | inl w => obtain ⟨rfl, h2⟩ := hw; simp only [sumK, w_some]; rw [if_neg h2]
    | inr w => obtain ⟨h1, h2⟩ := hw; simp only [sumK, w_some]; rw [if_pos h2, h1]
/-- What is open of some cells. -/
def wholeZ (l : List SCell) : Int := (l.map SCell.opn).sum
theorem e_limit_Whole {l : List SCell} (hl : l.length < 999999) (h : ∀ c ∈ l, 0 ≤ c.opn ∧ inI c.opn) : F_limit_Whole l = some (if wholeZ l ≤ 9223372036854775807 then (wholeZ l, 0) else (0, 3)) := by
  refine Wq.eq ?_
  unfold F_limit_Whole
  refine Wq.bind (Q := fun w : List Int => w = l.map SCell.opn)
    (w_for (n := l.length) (step := fun v : Int × List Int => L_limit_Whole_58 (len l) l v.fst v.snd) (by omega) (fun i x => x = (l.take i).map SCell.opn) _ ?_ ?_ _ 0 (Nat.zero_le _) (by simp)) ?_
  · rintro i x hi rfl
    simp only [L_limit_Whole_58]
    rw [cnd_t (by rw [ilt_nat]; simpa using hi), cnd_t (inb l i hi), cnd_t (ile_t (by simp [lapp, len]; omega)), w_some, lget_nat l i hi]
    exact ⟨wr_succ (by omega), by rw [List.take_succ_eq_append_getElem hi, List.map_append]; rfl⟩
  · rintro x rfl
    simp only [L_limit_Whole_58]
    rw [cnd_f (by rw [ilt_nat]; simp), w_some, List.take_length]
  · rintro w rfl
    rw [e_num_Total (by simpa using hl) (fun x hx => by
      obtain ⟨c, hc, rfl⟩ := List.mem_map.1 hx
      exact h c hc), ob_some, w_some]
    rfl
theorem s_slices_Min_int64 {l : List Int} (hl : l.length < 999999) (h0 : l ≠ []) : Wq (F_slices_Min_int64 l) fun m => 0 ≤ m ↔ ∀ x ∈ l, 0 ≤ x := by
  have hp : 0 < l.length := List.length_pos_iff.2 h0
  unfold F_slices_Min_int64
  rw [cnd_f (ilt_f (by simp only [len]; omega)), cnd_t (ilt_t (by simp only [len]; omega))]
  refine Wq.bind (Q := fun m => 0 ≤ m ↔ ∀ x ∈ l, 0 ≤ x) (w_for (n := l.length) (step := fun v : Int × Int => L_slices_Min_int64_122 l v.fst v.snd) (by omega) (fun i x => 0 ≤ x ↔ ∀ y ∈ l.take i, 0 ≤ y) _ ?_ ?_ _ 1 hp ?_) ?_
  · rintro i x hi hx
    simp only [L_slices_Min_int64_122]
    rw [cnd_t (by rw [ilt_nat]; simpa using hi), cnd_t (inb l i hi), w_some, lget_nat l i hi]
    refine ⟨wr_succ (by omega), ?_⟩
    rw [List.take_succ_eq_append_getElem hi]
    simp only [List.mem_append, List.mem_singleton]
    unfold imin
    constructor
    · intro h y hy
      rcases hy with hy | rfl
      · exact hx.1 (by split at h <;> omega) y hy
      · split at h <;> omega
    · intro h
      have h1 := hx.2 fun y hy => h y (.inl hy)
      have h2 := h _ (.inr rfl)
      split <;> omega
  · rintro x hx
    simp only [L_slices_Min_int64_122]
    rw [cnd_f (by rw [ilt_nat]; simp), w_some]
    rwa [List.take_length] at hx
  · cases l with
    | nil => exact absurd rfl h0
    | cons a r => simp [lget]
  · exact fun w hw => (w_some _).2 hw
/-- The first order that has a number. -/
def findZ (l : List SOrder) (n : Int) : Option Nat := l.findIdx? fun o => o.id == n
def sizedP (s : SState) : Prop := (1 ≤ s.accounts ∧ s.accounts ≤ 8) ∧ (1 ≤ s.symbols ∧ s.symbols ≤ 8) ∧ len s.cells = s.accounts * s.symbols ∧ len s.limits = len s.cells ∧ len s.caps = s.accounts ∧ s.orders.length ≤ 64
instance (s : SState) : Decidable (sizedP s) := by unfold sizedP; infer_instance
theorem mul_le64 {a b : Int} (h1 : 0 ≤ a) (h2 : a ≤ 9) (h3 : 0 ≤ b) (h4 : b ≤ 9) : 0 ≤ a * b ∧ a * b ≤ 81 :=
  ⟨Int.mul_nonneg h1 h3, by have := Int.mul_le_mul h2 h4 h3 (by omega); omega⟩
theorem s_book_ledger_sized (s : SState) : Wq (F_book_ledger_sized s) fun b => b = true ↔ sizedP s := by
  unfold F_book_ledger_sized
  simp only [w_some, band_T, ile_T, ieq_T, sizedP]
  constructor
  · rintro ⟨⟨⟨⟨⟨⟨⟨a, b⟩, c⟩, d⟩, e⟩, f⟩, g⟩, h⟩
    have := mul_le64 (a := s.accounts) (b := s.symbols) (by omega) (by omega) (by omega) (by omega)
    rw [show imul s.accounts s.symbols = s.accounts * s.symbols from rfl, wr_small this.1 (by omega)] at e
    exact ⟨⟨a, b⟩, ⟨c, d⟩, e, f, g, by simp only [len] at h; omega⟩
  · rintro ⟨⟨a, b⟩, ⟨c, d⟩, e, f, g, h⟩
    have := mul_le64 (a := s.accounts) (b := s.symbols) (by omega) (by omega) (by omega) (by omega)
    rw [show imul s.accounts s.symbols = s.accounts * s.symbols from rfl, wr_small this.1 (by omega)]
    exact ⟨⟨⟨⟨⟨⟨⟨a, b⟩, c⟩, d⟩, e⟩, f⟩, g⟩, by simp only [len]; omega⟩
theorem sizedP.lens {s : SState} (hs : sizedP s) : s.cells.length ≤ 64 ∧ s.limits.length = s.cells.length ∧ s.caps.length = s.accounts.toNat ∧ s.orders.length ≤ 64 := by
  obtain ⟨⟨h1, h2⟩, ⟨h3, h4⟩, h5, h6, h7, h8⟩ := hs
  have m : s.accounts * s.symbols ≤ 8 * 8 := Int.mul_le_mul h2 h4 (by omega) (by omega)
  simp only [len] at h5 h6 h7
  exact ⟨by omega, by omega, by omega, h8⟩
/-- The place of an order's cell. -/
def atZ (n : Int) (o : SOrder) : Int := o.account * n + o.symbol
/-- A cell's place. -/
theorem s_cellOf {s : SState} (hs : sizedP s) (a y : Int) (ha : 0 ≤ a) (ha2 : a < s.accounts) (hy : 0 ≤ y) (hy2 : y < s.symbols) :
    ∃ k : Nat, F_book_ledger_cellOf s a y = some (k : Int) ∧ (k : Int) = a * s.symbols + y ∧ k < s.cells.length := by
  obtain ⟨⟨h1, h2⟩, ⟨h3, h4⟩, h5, _⟩ := hs
  have m := mul_le64 (a := a) (b := s.symbols) (by omega) (by omega) (by omega) (by omega)
  have l : (a + 1) * s.symbols ≤ s.accounts * s.symbols := Int.mul_le_mul_of_nonneg_right (by omega) (by omega)
  have e : (a + 1) * s.symbols = a * s.symbols + s.symbols := by rw [Int.add_mul, Int.one_mul]
  refine ⟨(a * s.symbols + y).toNat, ?_, by omega, by simp only [len] at h5; omega⟩
  unfold F_book_ledger_cellOf
  rw [show imul a s.symbols = a * s.symbols from rfl, wr_small m.1 (by omega), show iadd (a * s.symbols) y = a * s.symbols + y from rfl, wr_small (by omega) (by omega)]
  congr 1; omega
/-- An account's cells. -/
def acctZ (n : Int) (cs : List SCell) (a : Int) : List SCell := (cs.drop (a * n).toNat).take n.toNat
theorem e_account {s : SState} (hs : sizedP s) (a : Int) (ha : 0 ≤ a) (ha2 : a < s.accounts) :
    F_book_ledger_account s a = some (acctZ s.symbols s.cells a) := by
  obtain ⟨⟨h1, h2⟩, ⟨h3, h4⟩, h5, _⟩ := hs
  have m := mul_le64 (a := a) (b := s.symbols) (by omega) (by omega) (by omega) (by omega)
  have m2 := mul_le64 (a := a + 1) (b := s.symbols) (by omega) (by omega) (by omega) (by omega)
  have l : (a + 1) * s.symbols ≤ s.accounts * s.symbols := Int.mul_le_mul_of_nonneg_right (by omega) (by omega)
  have e : (a + 1) * s.symbols = a * s.symbols + s.symbols := by rw [Int.add_mul, Int.one_mul]
  unfold F_book_ledger_account
  rw [show imul a s.symbols = a * s.symbols from rfl, wr_small m.1 (by omega), show iadd a 1 = a + 1 from rfl, wr_small (n := a + 1) (by omega) (by omega),
    show imul (a + 1) s.symbols = (a + 1) * s.symbols from rfl, wr_small m2.1 (by omega)]
  rw [cnd_t (by simp only [band_T, ile_T]; omega)]
  rw [show isub ((a + 1) * s.symbols) (a * s.symbols) = s.symbols from by unfold isub; omega]
  rfl
theorem acctZ_mem {n : Int} {cs : List SCell} {a : Int} {c : SCell} (h : c ∈ acctZ n cs a) : c ∈ cs := List.mem_of_mem_drop (List.mem_of_mem_take h)
theorem acctZ_len {n : Int} {cs : List SCell} {a : Int} : (acctZ n cs a).length ≤ cs.length := by
  unfold acctZ; rw [List.length_take, List.length_drop]; omega
/-- What each order of a fine state is. -/
def orderIn (s : SState) (o : SOrder) : Prop := ordP o ∧ o.phase ≠ 3 ∧ o.account < s.accounts ∧ o.symbol < s.symbols
def ascP (l : List SOrder) : Prop := l.Pairwise fun a b => a.id < b.id
/-- Numbers, limits, caps and orders of a state. -/
structure FineP (s : SState) : Prop where
  ords : ∀ o ∈ s.orders, orderIn s o
  asc : ascP s.orders
  ids : ∀ o ∈ s.orders, o.id ≤ s.last
  last : 0 ≤ s.last ∧ s.last ≤ 1000000000000
  seq : 0 ≤ s.seq ∧ s.seq ≤ 1000000000
  lsn : 0 ≤ s.lsn ∧ s.lsn ≤ 1000000000
  lims : ∀ x ∈ s.limits, limP x
  caps : ∀ x ∈ s.caps, 0 ≤ x
theorem mem_take_succ {α : Type} {l : List α} {i : Nat} (h : i < l.length) {x : α} : x ∈ l.take (i + 1) ↔ x ∈ l.take i ∨ x = l[i] := by
  rw [List.take_succ_eq_append_getElem h, List.mem_append, List.mem_singleton]
theorem s_fine (s : SState) (hl : s.orders.length < 999999) (h2 : s.limits.length < 999999) (h3 : s.caps.length < 999999) (h0 : s.caps ≠ []) :
    Wq (F_book_ledger_fine s) fun b => b = true ↔ FineP s := by
  unfold F_book_ledger_fine
  refine Wq.bind (Q := fun w : Bool ⊕ (Int × Bool) => match w with
      | .inl b => b = false ∧ ¬ ((∀ o ∈ s.orders, orderIn s o) ∧ ascP s.orders)
      | .inr v => (∀ o ∈ s.orders, orderIn s o ∧ o.id ≤ v.1) ∧ ascP s.orders ∧ (v.1 = 0 ∨ ∃ o ∈ s.orders, o.id = v.1))
    (w_for (n := s.orders.length) (step := fun v : Int × Int × Bool => L_book_ledger_fine_58 (len s.orders) s.orders s v.fst v.snd.fst v.snd.snd) (by omega)
      (fun i v => (∀ o ∈ s.orders.take i, orderIn s o ∧ o.id ≤ v.1) ∧ ascP (s.orders.take i) ∧ (v.1 = 0 ∨ ∃ o ∈ s.orders.take i, o.id = v.1)) _ ?_ ?_ _ 0 (Nat.zero_le _) (by simp [ascP])) ?_
  · rintro i ⟨x, q⟩ hi ⟨g1, g2, g3⟩
    simp only at g1 g2 g3
    simp only [L_book_ledger_fine_58]
    rw [cnd_t (by rw [ilt_nat]; simpa using hi), cnd_t (inb _ i hi), lget_nat _ i hi, e_order_Right, ob_some]
    simp only [w_cnd, w_some, bor_T, bor_F, bnot_T, bnot_F, ieq_T, ieq_F, ile_T, ile_F, decide_eq_true_eq, decide_eq_false_iff_not]
    refine ⟨fun hb => ⟨trivial, fun ⟨a1, a2⟩ => ?_⟩, fun hc => ⟨wr_succ (by omega), fun o ho => ?_, ?_, .inr ⟨_, (mem_take_succ hi).2 (.inr rfl), rfl⟩⟩⟩
    · obtain ⟨b1, b2, b3, b4⟩ := a1 s.orders[i] (List.getElem_mem _)
      have hle : s.orders[i].id ≤ x := by
        rcases hb with (((hb | hb) | hb) | hb) | hb
        · exact absurd b1 hb
        · exact absurd hb b2
        · omega
        · omega
        · exact hb
      rcases g3 with g3 | ⟨o, ho, g3⟩
      · have := b1.1.1.1; omega
      · obtain ⟨j, hj, rfl⟩ := List.getElem_of_mem ho
        rw [List.length_take] at hj
        have := List.pairwise_iff_getElem.1 a2 j i (by omega) hi (by omega)
        rw [List.getElem_take] at g3
        omega
    · rcases (mem_take_succ hi).1 ho with ho | rfl
      · have := g1 o ho
        exact ⟨this.1, by have := this.2; omega⟩
      · exact ⟨⟨hc.1.1.1.1, hc.1.1.1.2, by omega, by omega⟩, Int.le_refl _⟩
    · rw [List.take_succ_eq_append_getElem hi]
      unfold ascP
      rw [List.pairwise_append]
      refine ⟨g2, by simp, fun a ha b hb => ?_⟩
      rw [List.mem_singleton] at hb
      subst hb
      have := (g1 a ha).2
      omega
  · rintro ⟨x, q⟩ hx
    simp only [L_book_ledger_fine_58]
    rw [cnd_f (by rw [ilt_nat]; simp), w_some]
    simp only [List.take_length] at hx
    exact hx
  · rintro w hw
    cases w with
    | inl b =>
      obtain ⟨rfl, hn⟩ := hw
      simp only [sumK, w_some]
      exact ⟨fun h => (by cases h), fun h => absurd ⟨h.ords, h.asc⟩ hn⟩
    | inr v =>
      obtain ⟨g1, g2, g3⟩ := hw
      have gl : v.1 ≤ s.last ∧ 0 ≤ s.last ↔ (∀ o ∈ s.orders, o.id ≤ s.last) ∧ 0 ≤ s.last := by
        constructor
        · rintro ⟨a, b⟩; exact ⟨fun o ho => by have := (g1 o ho).2; omega, b⟩
        · rintro ⟨a, b⟩
          refine ⟨?_, b⟩
          rcases g3 with g3 | ⟨o, ho, g3⟩
          · omega
          · have := a o ho; omega
      have hF : FineP s ↔ (v.1 ≤ s.last ∧ s.last ≤ 1000000000000 ∧ 0 ≤ s.seq ∧ s.seq ≤ 1000000000 ∧ 0 ≤ s.lsn ∧ s.lsn ≤ 1000000000) ∧ (∀ x ∈ s.limits, limP x) ∧ (∀ x ∈ s.caps, 0 ≤ x) ∧ 0 ≤ s.last := by
        constructor
        · intro h
          have := gl.2 ⟨h.ids, h.last.1⟩
          exact ⟨⟨this.1, h.last.2, h.seq.1, h.seq.2, h.lsn.1, h.lsn.2⟩, h.lims, h.caps, h.last.1⟩
        · rintro ⟨⟨a1, a2, a3, a4, a5, a6⟩, b, c, d⟩
          exact ⟨fun o ho => (g1 o ho).1, g2, (gl.1 ⟨a1, d⟩).1, ⟨d, a2⟩, ⟨a3, a4⟩, ⟨a5, a6⟩, b, c⟩
      rw [hF]
      obtain ⟨m, hm, hmq⟩ := s_slices_Min_int64 h3 h0
      simp only [sumK, hm, cnd_if, ob_if, ob_some]
      simp only [band_T, band_F, bor_T, bor_F, bnot_T, bnot_F, ilt_T, ilt_F, ile_T, ile_F, ieq_T, ieq_F, beq_T, beq_F]
      by_cases hA : v.1 ≤ s.last ∧ s.last ≤ 1000000000000 ∧ 0 ≤ s.seq ∧ s.seq ≤ 1000000000 ∧ 0 ≤ s.lsn ∧ s.lsn ≤ 1000000000
      · have hA' : ((((v.fst ≤ s.last ∧ s.last ≤ 1000000000000) ∧ 0 ≤ s.seq) ∧ s.seq ≤ 1000000000) ∧ 0 ≤ s.lsn) ∧ s.lsn ≤ 1000000000 := ⟨⟨⟨⟨⟨hA.1, hA.2.1⟩, hA.2.2.1⟩, hA.2.2.2.1⟩, hA.2.2.2.2.1⟩, hA.2.2.2.2.2⟩
        rw [if_pos hA']
        refine Wq.bind (Q := fun w : Int ⊕ Int => match w with | .inl k => 0 ≤ k ∧ ¬ ∀ x ∈ s.limits, limP x | .inr _ => ∀ x ∈ s.limits, limP x)
          (w_for (n := s.limits.length) (step := fun v : Int × Int => L_book_ledger_fine_26_slices_IndexFunc_api_Expo_c136_c142 (len s.limits) s.limits v.fst v.snd) (by omega) (fun i _ => ∀ x ∈ s.limits.take i, limP x) _ ?_ ?_ _ 0 (Nat.zero_le _) (by simp)) ?_
        · rintro i x hi hx
          simp only [L_book_ledger_fine_26_slices_IndexFunc_api_Expo_c136_c142]
          rw [cnd_t (by rw [ilt_nat]; simpa using hi), cnd_t (inb _ i hi), lget_nat _ i hi, e_limit_Right, ob_some]
          simp only [w_cnd, w_some, bnot_T, bnot_F, decide_eq_true_eq, decide_eq_false_iff_not]
          refine ⟨fun h => ⟨by omega, fun h2 => h (h2 _ (List.getElem_mem _))⟩, fun h => ⟨wr_succ (by omega), fun x hx' => ?_⟩⟩
          rcases (mem_take_succ hi).1 hx' with h5 | rfl
          · exact hx x h5
          · exact h
        · rintro x hx
          simp only [L_book_ledger_fine_26_slices_IndexFunc_api_Expo_c136_c142]
          rw [cnd_f (by rw [ilt_nat]; simp), w_some]
          rwa [List.take_length] at hx
        · rintro w hw
          cases w with
          | inl k =>
            obtain ⟨hk, hn⟩ := hw
            simp only
            rw [if_neg (fun h => by omega), w_some]
            simp only [band_T, band_F, bor_T, bor_F, bnot_T, bnot_F, ilt_T, ilt_F, ile_T, ile_F, ieq_T, ieq_F, beq_T, beq_F]
            constructor
            · rintro ⟨⟨⟨_, h⟩, _⟩, _⟩; omega
            · rintro ⟨_, h, _⟩; exact absurd h hn
          | inr k =>
            simp only
            rw [if_pos (.inl hA'), w_some]
            simp only [band_T, band_F, bor_T, bor_F, bnot_T, bnot_F, ilt_T, ilt_F, ile_T, ile_F, ieq_T, ieq_F, beq_T, beq_F]
            constructor
            · rintro ⟨⟨_, h1⟩, h2⟩; exact ⟨hA, hw, hmq.1 h1, h2⟩
            · rintro ⟨_, _, h1, h2⟩; exact ⟨⟨.inl hA', hmq.2 h1⟩, h2⟩
      · have hA' : ¬ (((((v.fst ≤ s.last ∧ s.last ≤ 1000000000000) ∧ 0 ≤ s.seq) ∧ s.seq ≤ 1000000000) ∧ 0 ≤ s.lsn) ∧ s.lsn ≤ 1000000000) := by omega
        rw [if_neg hA', if_neg (by simpa using hA'), w_some]
        simp only [band_T, band_F, bor_T, bor_F, bnot_T, bnot_F, ilt_T, ilt_F, ile_T, ile_F, ieq_T, ieq_F, beq_T, beq_F]
        constructor
        · rintro ⟨⟨h | h, _⟩, _⟩
          · exact absurd h hA'
          · cases h
        · rintro ⟨h, _⟩; exact absurd h hA
def cadd (a b : SCell) : SCell := ⟨a.pos + b.pos, a.buy + b.buy, a.sell + b.sell, a.opn + b.opn⟩
def zC : SCell := ⟨0, 0, 0, 0⟩
def wC (o : SOrder) : SCell := if o.side = 2 then ⟨0, 0, openZ o, worthZ o⟩ else ⟨0, openZ o, 0, worthZ o⟩
/-- What an order is in the cell of a place. -/
def inC (n i : Int) (o : SOrder) : SCell := if atZ n o = i then wC o else zC
def sumC (n i : Int) : List SOrder → SCell
  | [] => zC
  | o :: r => cadd (inC n i o) (sumC n i r)
theorem cell_ext {a b : SCell} (h1 : a.pos = b.pos) (h2 : a.buy = b.buy) (h3 : a.sell = b.sell) (h4 : a.opn = b.opn) : a = b := by
  cases a; cases b; simp_all
theorem cadd_z (a : SCell) : cadd a zC = a := by apply cell_ext <;> simp [cadd, zC]
theorem z_cadd (a : SCell) : cadd zC a = a := by apply cell_ext <;> simp [cadd, zC]
theorem cadd_assoc (a b c : SCell) : cadd (cadd a b) c = cadd a (cadd b c) := by apply cell_ext <;> simp only [cadd] <;> omega
theorem addC_eq (c : SCell) (o : SOrder) : addC c o = cadd c (wC o) := by unfold addC wC; split <;> simp [cadd]
theorem sumC_append (n i : Int) : ∀ (l m : List SOrder), sumC n i (l ++ m) = cadd (sumC n i l) (sumC n i m)
  | [], m => (z_cadd _).symm
  | o :: l, m => by
    rw [List.cons_append, sumC, sumC, sumC_append n i l m, cadd_assoc]
theorem sumC_one (n i : Int) (o : SOrder) : sumC n i [o] = inC n i o := cadd_z _
/-- Parts of a cell that are no less than nothing. -/
def nnC (c : SCell) : Prop := c.pos = 0 ∧ 0 ≤ c.buy ∧ 0 ≤ c.sell ∧ 0 ≤ c.opn
theorem wC_nn {o : SOrder} (h : ordP o) (hr : Ok_order o) : nnC (wC o) := by
  have := openZ_rng h hr
  have := worthZ_nn h
  unfold wC nnC; split <;> simp <;> omega
theorem inC_nn (n i : Int) {o : SOrder} (h : ordP o) (hr : Ok_order o) : nnC (inC n i o) := by
  unfold inC; split
  · exact wC_nn h hr
  · simp [nnC, zC]
theorem cadd_nn {a b : SCell} (h1 : nnC a) (h2 : nnC b) : nnC (cadd a b) := by
  unfold nnC cadd at *; simp only; omega
theorem sumC_nn (n i : Int) : ∀ {l : List SOrder}, (∀ o ∈ l, ordP o ∧ Ok_order o) → nnC (sumC n i l)
  | [], _ => by simp [sumC, nnC, zC]
  | o :: l, h => cadd_nn (inC_nn n i (h o (by simp)).1 (h o (by simp)).2) (sumC_nn n i fun x hx => h x (by simp [hx]))
/-- As far as numbers go. -/
def fitC (c : SCell) : Prop := c.buy ≤ 9223372036854775807 ∧ c.sell ≤ 9223372036854775807 ∧ c.opn ≤ 9223372036854775807
theorem okC_of_fit {c : SCell} (h : nnC c) (hf : fitC c) : okC c := by
  obtain ⟨h0, h1, h2, h3⟩ := h
  obtain ⟨f1, f2, f3⟩ := hf
  rw [okC_iff, h0]
  unfold inI
  omega
theorem fit_of_ok {c : SCell} (h : okC c) : fitC c := ⟨h.1.buy.2, h.1.sell.2, h.1.opn.2⟩
theorem fit_mono {a b : SCell} (hb : nnC b) (h : fitC (cadd a b)) : fitC a := by
  unfold fitC cadd nnC at *; simp only at *; omega
def fitAll (s : SState) : Prop := ∀ j : Nat, j < s.cells.length → fitC (sumC s.symbols j s.orders)
theorem lset_getI {α : Type} (l : List α) (k : Nat) (x : α) (j : Nat) (h : j < (lset l (itn (k : Int)) x).length) : (lset l (itn (k : Int)) x)[j] = if k = j then x else l[j]'(by simpa [lset] using h) := by
  simp [lset, itn, List.getElem_set]
theorem s_summed {s : SState} (hs : sizedP s) (hk : ∀ o ∈ s.orders, orderIn s o ∧ Ok_order o) :
    Wq (F_book_ledger_summed s) fun r => (r.2 = true ↔ fitAll s) ∧ (r.2 = true → r.1.length = s.cells.length ∧ ∀ (j : Nat) (h : j < r.1.length), r.1[j] = sumC s.symbols j s.orders) := by
  obtain ⟨hc, _, _, hol⟩ := hs.lens
  unfold F_book_ledger_summed
  rw [cnd_t (by simp only [band_T, ile_T, len]; omega)]
  refine Wq.bind (Q := fun w : (Bool × List SCell × List SCell) ⊕ (Bool × List SCell × List SCell) => match w with
      | .inl b => b.1 = false ∧ ¬ fitAll s
      | .inr b => b.2.2.length = s.cells.length ∧ ∀ (j : Nat) (h : j < b.2.2.length), b.2.2[j] = sumC s.symbols j s.orders ∧ fitC b.2.2[j])
    (w_for (n := s.orders.length) (step := fun v : Int × Bool × List SCell × List SCell => L_book_ledger_summed_58 (len s.orders) s.orders s v.fst v.snd.fst v.snd.snd.fst v.snd.snd.snd) (by omega)
      (fun i x => x.2.2.length = s.cells.length ∧ ∀ (j : Nat) (h : j < x.2.2.length), x.2.2[j] = sumC s.symbols j (s.orders.take i) ∧ fitC x.2.2[j]) _ ?_ ?_ _ 0 (Nat.zero_le _) ?_) ?_
  · rintro i ⟨q, x, y⟩ hi ⟨hx, hy⟩
    simp only at hx hy
    simp only [L_book_ledger_summed_58]
    have hmem := hk s.orders[i] (List.getElem_mem _)
    obtain ⟨⟨ho, ho3, g1, g2⟩, hor⟩ := id hmem
    obtain ⟨⟨_, hb1, hb2, _⟩, _⟩ := id ho
    obtain ⟨k, k1, k2, k3⟩ := s_cellOf hs s.orders[i].account s.orders[i].symbol hb1.1 g1 hb2.1 g2
    have hky : k < y.length := by omega
    have hnn : nnC y[k] := by
      rw [(hy k hky).1]
      exact sumC_nn _ _ fun o h => ⟨(hk o (List.mem_of_mem_take h)).1.1, (hk o (List.mem_of_mem_take h)).2⟩
    have hok : okC y[k] := okC_of_fit hnn (hy k hky).2
    have hnew : nnC (addC y[k] s.orders[i]) := by rw [addC_eq]; exact cadd_nn hnn (wC_nn ho hor)
    have hsum : ∀ j : Nat, sumC s.symbols j (s.orders.take (i + 1)) = cadd (sumC s.symbols j (s.orders.take i)) (inC s.symbols j s.orders[i]) := fun j => by
      rw [List.take_succ_eq_append_getElem hi, sumC_append, sumC_one]
    have hat : atZ s.symbols s.orders[i] = (k : Int) := k2.symm
    have hkk : addC y[k] s.orders[i] = sumC s.symbols k (s.orders.take (i + 1)) := by
      rw [hsum, addC_eq, (hy k hky).1]
      unfold inC; rw [if_pos hat]
    rw [cnd_t (by rw [ilt_nat]; simpa using hi), cnd_t (inb _ i hi), lget_nat _ i hi, k1, ob_some, cnd_t (inb y k hky), lget_nat y k hky, e_cell_Come hok ho hor, ob_some]
    by_cases hf : okC (addC y[k] s.orders[i])
    · rw [if_pos hf]
      simp only [ieq_00, bnot_true, cnd_false]
      rw [cnd_t (inb y k hky), w_some]
      refine ⟨wr_succ (by omega), (lset_len _ _ _).trans hx, fun j hj => ?_⟩
      have hj' : j < y.length := by simpa [lset] using hj
      show (lset y (itn (k : Int)) (addC y[k] s.orders[i]))[j]'hj = _ ∧ fitC ((lset y (itn (k : Int)) (addC y[k] s.orders[i]))[j]'hj)
      rw [lset_getI]
      split
      · rename_i e; subst e
        exact ⟨hkk, fit_of_ok hf⟩
      · rename_i e
        rw [hsum j]
        unfold inC
        rw [if_neg (by omega), cadd_z]
        exact hy j hj'
    · rw [if_neg hf]
      simp only [ieq_30, bnot_false, cnd_true]
      rw [w_some]
      refine ⟨rfl, fun hall => hf (okC_of_fit hnew ?_)⟩
      rw [hkk]
      have e : sumC s.symbols k s.orders = cadd (sumC s.symbols k (s.orders.take (i + 1))) (sumC s.symbols k (s.orders.drop (i + 1))) := by
        rw [← sumC_append, List.take_append_drop]
      have := hall k k3
      rw [e] at this
      exact fit_mono (sumC_nn _ _ fun o h => ⟨(hk o (List.mem_of_mem_drop h)).1.1, (hk o (List.mem_of_mem_drop h)).2⟩) this
  · rintro ⟨q, x, y⟩ hx
    simp only [L_book_ledger_summed_58]
    rw [cnd_f (by rw [ilt_nat]; simp), w_some]
    simp only [List.take_length] at hx
    exact hx
  · simp only [List.take_zero, sumC]
    refine ⟨by simp [lrep, itn, len], fun j hj => ?_⟩
    simp only [lrep, List.getElem_replicate]
    exact ⟨rfl, by simp only [fitC]; decide⟩
  · rintro w hw
    cases w with
    | inl b =>
      obtain ⟨h1, h2⟩ := hw
      simp only [sumK, w_some, h1]
      exact ⟨⟨fun h => (by cases h), fun h => absurd h h2⟩, fun h => by cases h⟩
    | inr b =>
      obtain ⟨h1, h2⟩ := hw
      simp only [sumK, w_some]
      refine ⟨⟨fun _ j hj => ?_, fun _ => trivial⟩, fun _ => ⟨h1, fun j hj => (h2 j hj).1⟩⟩
      have := h2 j (by omega)
      rw [← this.1]; exact this.2
/-- The cells that orders make, with what the accounts have. -/
def mkCells (s : SState) (l : List SOrder) : List SCell := s.cells.mapIdx fun i c => cadd ⟨c.pos, 0, 0, 0⟩ (sumC s.symbols i l)
theorem mkCells_len (s : SState) (l : List SOrder) : (mkCells s l).length = s.cells.length := by simp [mkCells]
theorem mkCells_get (s : SState) (l : List SOrder) (i : Nat) (h : i < (mkCells s l).length) : (mkCells s l)[i] = cadd ⟨(s.cells[i]'(by simpa [mkCells] using h)).pos, 0, 0, 0⟩ (sumC s.symbols i l) := by
  simp [mkCells]
/-- Is what is open of each account together a number? -/
def acctOk (n m : Int) (cs : List SCell) : Prop := ∀ a : Int, 0 ≤ a → a < n → wholeZ (acctZ m cs a) ≤ 9223372036854775807
/-- A right state. -/
structure RightS (s : SState) : Prop where
  sized : sizedP s
  fine : FineP s
  cells : s.cells = mkCells s s.orders
  ok : ∀ c ∈ s.cells, okC c
  acct : acctOk s.accounts s.symbols s.cells
theorem s_book_Right (s : SState) (hr : Ok_state s) (hl : s.orders.length < 999999) (h2 : s.limits.length < 999999) (h3 : s.caps.length < 999999) :
    Wq (F_book_Right s) fun b => b = true ↔ RightS s := by
  unfold F_book_Right F_book_ledger_right
  rw [w_bind]
  refine Wq.bind (s_book_ledger_sized s) fun z hz => ?_
  refine Wq.bind (Q := fun b => b = true ↔ (z = true ∧ FineP s)) ?_ ?_
  · rw [w_cnd]
    refine ⟨fun h => ?_, fun h => (w_some _).2 ?_⟩
    · simp only [bnot_T, bnot_F] at h
      have hs : sizedP s := hz.1 h
      refine (s_fine s hl h2 h3 ?_).mono fun b hb => by rw [hb]; simp [h]
      intro e
      have := hs.2.2.2.2.1
      have := hs.1.1
      simp [e, len] at *
      omega
    · simp only [bnot_T, bnot_F] at h
      simp [h]
  · intro f hf
    rw [w_cnd]
    refine ⟨fun h => (w_some _).2 ((w_some _).2 ?_), fun h => ?_⟩
    · simp only [bor_T, bnot_T] at h
      refine ⟨fun h => (by cases h), fun hr => ?_⟩
      have e1 := hz.2 hr.sized
      have e2 := hf.2 ⟨e1, hr.fine⟩
      rw [e1, e2] at h
      simp at h
    · simp only [bor_F, bnot_F] at h
      have hs := hz.1 h.1
      have hfn := (hf.1 h.2).2
      obtain ⟨hc, hlim, hcap, hol⟩ := hs.lens
      have hall : ∀ o ∈ s.orders, orderIn s o ∧ Ok_order o := fun o ho => ⟨hfn.ords o ho, hr.orders.1 o ho⟩
      have hokc : ∀ c ∈ s.cells, Ok_cell c := hr.cells.1
      refine Wq.bind (s_summed hs hall) fun y hy => ?_
      obtain ⟨hy1, hy2⟩ := hy
      rw [w_cnd]
      refine ⟨fun h5 => (w_some _).2 ((w_some _).2 ?_), fun h5 => ?_⟩
      · rw [bnot_T] at h5
        refine ⟨fun h => (by cases h), fun hR => ?_⟩
        have : y.2 = true := hy1.2 fun j hj => by
          have e := hR.ok s.cells[j] (List.getElem_mem _)
          have e2 : s.cells[j] = cadd ⟨s.cells[j].pos, 0, 0, 0⟩ (sumC s.symbols j s.orders) := by
            have := mkCells_get s s.orders j (by rw [mkCells_len]; exact hj)
            rw [← this]
            congr 1
            exact hR.cells
          have e3 := fit_of_ok e
          rw [e2] at e3
          unfold fitC cadd at e3
          simpa [fitC] using e3
        rw [this] at h5; cases h5
      · rw [bnot_F] at h5
        obtain ⟨hyl, hyg⟩ := hy2 h5
        refine Wq.bind (Q := fun w : (Bool × List SCell) ⊕ (Bool × List SCell) => match w with
            | .inl b => b.1 = false ∧ ¬ ((∀ c ∈ s.cells, okC c) ∧ s.cells = mkCells s s.orders)
            | .inr _ => (∀ c ∈ s.cells, okC c) ∧ s.cells = mkCells s s.orders)
          (w_for (n := s.cells.length) (step := fun v : Int × Bool × List SCell => L_book_ledger_right_250 (len s.cells) s.cells v.fst v.snd.fst v.snd.snd) (by omega)
          (fun i x => x.2.length = s.cells.length ∧ (∀ (j : Nat) (h : j < x.2.length), i ≤ j → x.2[j] = sumC s.symbols j s.orders) ∧ ∀ (j : Nat) (h : j < s.cells.length), j < i → okC s.cells[j] ∧ s.cells[j] = cadd ⟨s.cells[j].pos, 0, 0, 0⟩ (sumC s.symbols j s.orders)) _ ?_ ?_ _ 0 (Nat.zero_le _)
          ⟨hyl, fun j hj _ => hyg j hj, fun j _ h => by omega⟩) ?_
        · rintro i ⟨q, x⟩ hi ⟨hx, hxj, hxd⟩
          simp only at hx hxj hxd
          simp only [L_book_ledger_right_250]
          have hix : i < x.length := by omega
          rw [cnd_t (by rw [ilt_nat]; simpa using hi), cnd_t (inb _ i hi), cnd_t (inb x i hix), lget_nat _ i hi, lget_nat x i hix, e_cell_Right (hokc _ (List.getElem_mem _)), ob_some]
          have hil : i < (lset x (itn (i : Int)) (SCell.mk s.cells[i].pos x[i].buy x[i].sell x[i].opn)).length := by rw [lset_len]; exact hix
          rw [cnd_t (by rw [bor_T]; exact .inl (inb _ i hil)), lget_nat _ i hil]
          have hg : (lset x (itn (i : Int)) (SCell.mk s.cells[i].pos x[i].buy x[i].sell x[i].opn))[i] = SCell.mk s.cells[i].pos x[i].buy x[i].sell x[i].opn := by
            simp [lset, itn]
          rw [hg]
          have hxi := hxj i hix (Nat.le_refl _)
          have hq : cadd ⟨s.cells[i].pos, 0, 0, 0⟩ (sumC s.symbols i s.orders) = SCell.mk s.cells[i].pos x[i].buy x[i].sell x[i].opn := by
            rw [← hxi]
            have hp : x[i].pos = 0 := by rw [hxi]; exact (sumC_nn _ _ fun o h => ⟨(hall o h).1.1, (hall o h).2⟩).1
            apply cell_ext <;> simp only [cadd] <;> omega
          simp only [w_cnd, w_some, band_T, band_F, bor_T, bor_F, bnot_T, bnot_F, ilt_T, ilt_F, ile_T, ile_F, ieq_T, ieq_F, beq_T, beq_F]
          constructor
          · intro hb
            refine ⟨trivial, fun ⟨a1, a2⟩ => ?_⟩
            have b1 := a1 s.cells[i] (List.getElem_mem _)
            have b2 : s.cells[i] = cadd ⟨s.cells[i].pos, 0, 0, 0⟩ (sumC s.symbols i s.orders) := by
              have := mkCells_get s s.orders i (by rw [mkCells_len]; exact hi)
              rw [← this]; congr 1
            rw [hq] at b2
            rcases hb with hb | hb
            · exact absurd b1 (by simpa using hb)
            · have c2 := congrArg SCell.buy b2; have c3 := congrArg SCell.sell b2; have c4 := congrArg SCell.opn b2
              simp only at c2 c3 c4
              rcases hb with hb | hb | hb | hb
              · exact hb rfl
              · exact hb c2.symm
              · exact hb c3.symm
              · exact hb c4.symm
          · intro hb
            obtain ⟨b1, _, b2, b3, b4⟩ := hb
            refine ⟨wr_succ (by omega), (lset_len _ _ _).trans hx, fun j hj hij => ?_, fun j hj hji => ?_⟩
            · rw [lset_getI, if_neg (by omega)]
              exact hxj j (by simpa [lset] using hj) (by omega)
            · by_cases e : j = i
              · subst e
                refine ⟨by simpa using b1, ?_⟩
                rw [hq]
                exact cell_ext rfl b2.symm b3.symm b4.symm
              · exact hxd j hj (by omega)
        · rintro ⟨q, x⟩ ⟨hx, _, hxd⟩
          simp only [L_book_ledger_right_250]
          rw [cnd_f (by rw [ilt_nat]; simp), w_some]
          refine ⟨fun c hc => ?_, ?_⟩
          · obtain ⟨j, hj, rfl⟩ := List.getElem_of_mem hc
            exact (hxd j hj hj).1
          · refine List.ext_getElem (mkCells_len _ _).symm fun j h1 h2 => ?_
            rw [mkCells_get]
            exact (hxd j h1 h1).2
        · rintro w hw
          cases w with
          | inl b =>
            obtain ⟨h1, h2⟩ := hw
            simp only [sumK, w_some, h1]
            exact ⟨fun h => (by cases h), fun hR => absurd ⟨hR.ok, hR.cells⟩ h2⟩
          | inr b =>
            obtain ⟨hok, hcs⟩ := hw
            simp only [sumK]
            rw [w_bind]
            have hacc : ∀ a : Int, ∀ c ∈ acctZ s.symbols s.cells a, 0 ≤ c.opn ∧ inI c.opn := fun a c hc => by
              have := hok c (acctZ_mem hc)
              exact ⟨this.2.1.2.2, this.1.opn⟩
            refine Wq.mono (Q := fun w : Bool ⊕ Bool => match w with | .inl b => b = false ∧ ¬ acctOk s.accounts s.symbols s.cells | .inr _ => acctOk s.accounts s.symbols s.cells)
              (w_for (n := s.accounts.toNat) (step := fun v : Int × Bool => L_book_ledger_right_506 s.accounts s v.fst v.snd) (by have := hs.1.2; omega)
              (fun i x => ∀ a : Int, 0 ≤ a → a < i → wholeZ (acctZ s.symbols s.cells a) ≤ 9223372036854775807) _ ?_ ?_ _ 0 (Nat.zero_le _) (fun a h1 h2 => by omega)) ?_
            · rintro i q hi hx
              have hia : (i : Int) < s.accounts := by omega
              simp only [L_book_ledger_right_506]
              rw [cnd_t (ilt_t hia), e_account hs i (by omega) hia, ob_some, e_limit_Whole (by have := acctZ_len (n := s.symbols) (cs := s.cells) (a := (i : Int)); omega) (hacc i), ob_some]
              by_cases hw : wholeZ (acctZ s.symbols s.cells i) ≤ 9223372036854775807
              · rw [if_pos hw]
                simp only [ieq_00, bnot_true, cnd_false, w_some]
                refine ⟨wr_succ (by omega), fun a h1 h2 => ?_⟩
                by_cases e : a = i
                · subst e; exact hw
                · exact hx a h1 (by omega)
              · rw [if_neg hw]
                simp only [ieq_30, bnot_false, cnd_true, w_some]
                exact ⟨trivial, fun h => hw (h i (by omega) hia)⟩
            · rintro q hx
              simp only [L_book_ledger_right_506]
              rw [cnd_f (ilt_f (by omega)), w_some]
              exact fun a h1 h2 => hx a h1 (by omega)
            · rintro w hw
              cases w with
              | inl b =>
                obtain ⟨rfl, h2⟩ := hw
                simp only [w_some]
                exact ⟨fun h => (by cases h), fun hR => absurd hR.acct h2⟩
              | inr b =>
                simp only [w_some]
                exact ⟨fun _ => ⟨hs, hfn, hcs, hok, hw⟩, fun _ => trivial⟩
def doneZ (o : SOrder) : SOrder := ⟨o.id, o.account, o.symbol, o.side, o.qty, o.price, o.filled, 3, 0, 0, o.version, o.asked⟩
def settledZ (o : SOrder) : SOrder := ⟨o.id, o.account, o.symbol, o.side, o.qty, o.price, o.filled, o.phase, 0, 0, o.version, o.asked⟩
def beginZ (r : SRec) : SOrder := ⟨r.order, r.account, r.symbol, r.side, r.qty, r.price, 0, 1, 0, 0, 0, false⟩
def changeP (o : SOrder) : Prop := o.phase = 2 ∧ ¬ pendP o ∧ o.asked = false ∧ o.version < 9223372036854775807
instance (o : SOrder) : Decidable (changeP o) := by unfold changeP; infer_instance
def changeZ (o : SOrder) (q p : Int) : SOrder := ⟨o.id, o.account, o.symbol, o.side, o.qty, o.price, o.filled, o.phase, q, p, o.version + 1, o.asked⟩
def endZ (o : SOrder) : SOrder := ⟨o.id, o.account, o.symbol, o.side, o.qty, o.price, o.filled, o.phase, o.newQty, o.newPrice, o.version, true⟩
def liveZ (o : SOrder) (f : Int) : SOrder := ⟨o.id, o.account, o.symbol, o.side, o.qty, o.price, f, o.phase, o.newQty, o.newPrice, o.version, o.asked⟩
def phaseZ (o : SOrder) (f : Int) : SOrder := ⟨o.id, o.account, o.symbol, o.side, o.qty, o.price, o.filled, f, o.newQty, o.newPrice, o.version, o.asked⟩
def replZ (o : SOrder) (q p : Int) : SOrder := ⟨o.id, o.account, o.symbol, o.side, q, p, o.filled, o.phase, 0, 0, o.version, o.asked⟩
/-- An order, with a note. -/
def takeZ (o : SOrder) (what q p : Int) : Option SOrder :=
  if o.phase = 1 then (if what = 1 then some (phaseZ o 2) else if what = 2 then some (doneZ o) else none)
  else if o.phase = 2 then
    if what = 3 then (if o.qty - o.filled < q then none else if o.filled + q < o.qty then some (liveZ o (o.filled + q)) else some (doneZ (liveZ o (o.filled + q))))
    else if what = 4 then some (doneZ o)
    else if what = 5 then (if pendP o ∧ q = o.newQty ∧ p = o.newPrice ∧ o.filled < q then some (replZ o q p) else none)
    else if what = 6 then (if pendP o then some (settledZ o) else none)
    else none
  else none
def withS (s : SState) (l : List SOrder) : SState := ⟨s.accounts, s.symbols, l, mkCells s l, s.limits, s.caps, s.kill, s.last, s.seq, s.lsn⟩
def fitS (s : SState) : Prop := (∀ c ∈ s.cells, okC c) ∧ acctOk s.accounts s.symbols s.cells
/-- Does a limit stand against what an account's cell is now? -/
def stopP (was now : SState) (a y : Int) : Prop :=
  againstP (ofC (lget was.cells (itn (a * was.symbols + y)))) (ofC (lget now.cells (itn (a * was.symbols + y)))) (lget was.limits (itn (a * was.symbols + y))) ∨
  capP (wholeZ (acctZ was.symbols was.cells a)) (wholeZ (acctZ was.symbols now.cells a)) (lget was.caps (itn a))
instance (s t : SState) (a y : Int) : Decidable (stopP s t a y) := by unfold stopP; infer_instance
open Classical in
noncomputable def askS (s t : SState) (a y : Int) : SState × Int :=
  if ¬ fitS t then (s, 3) else if stopP s t a y then (s, 4) else (⟨t.accounts, t.symbols, t.orders, t.cells, t.limits, t.caps, t.kill, t.last, t.seq, t.lsn + 1⟩, 0)
/-- A state with what an account has moved. -/
def movC (s : SState) (o : SOrder) (q : Int) : List SCell :=
  lset s.cells (itn (atZ s.symbols o)) ⟨if o.side = 1 then (lget s.cells (itn (atZ s.symbols o))).pos + q else (lget s.cells (itn (atZ s.symbols o))).pos - q, (lget s.cells (itn (atZ s.symbols o))).buy, (lget s.cells (itn (atZ s.symbols o))).sell, (lget s.cells (itn (atZ s.symbols o))).opn⟩
def evS (s : SState) (r : SRec) (k : Nat) (p : SOrder) : SState :=
  let o := lget s.orders k
  let s' : SState := ⟨s.accounts, s.symbols, s.orders, if r.what = 3 then movC s o r.qty else s.cells, s.limits, s.caps, s.kill, s.last, r.seq, s.lsn + 1⟩
  withS s' (if p.phase = 3 then s.orders.eraseIdx k else lset s.orders k p)
def mayP (s : SState) (r : SRec) : Prop := RightS s ∧ recP r ∧ s.lsn < 1000000000 ∧ r.account < s.accounts ∧ r.symbol < s.symbols ∧ (r.kind = 1 → s.last < r.order)
open Classical in
noncomputable def doS (s : SState) (r : SRec) : SState × Int :=
  if ¬ mayP s r then (s, 1)
  else if r.kind = 1 then
    if s.kill = true then (s, 5) else if s.orders.length = 64 then (s, 6)
    else askS s ⟨s.accounts, s.symbols, lapp s.orders [beginZ r], mkCells s (lapp s.orders [beginZ r]), s.limits, s.caps, s.kill, r.order, s.seq, s.lsn⟩ r.account r.symbol
  else if r.kind = 2 then
    match findZ s.orders r.order with
    | none => (s, 7)
    | some k =>
      if ¬ changeP (lget s.orders k) then (s, 8) else if s.kill = true then (s, 5)
      else askS s (withS s (lset s.orders k (changeZ (lget s.orders k) r.qty r.price))) (lget s.orders k).account (lget s.orders k).symbol
  else if r.kind = 3 then
    match findZ s.orders r.order with
    | none => (s, 7)
    | some k => if (lget s.orders k).asked = true then (s, 8) else (⟨s.accounts, s.symbols, lset s.orders k (endZ (lget s.orders k)), s.cells, s.limits, s.caps, s.kill, s.last, s.seq, s.lsn + 1⟩, 0)
  else if r.kind = 4 then
    if r.symbol = -1 then (⟨s.accounts, s.symbols, s.orders, s.cells, s.limits, lset s.caps (itn r.account) r.opn, s.kill, s.last, s.seq, s.lsn + 1⟩, 0)
    else (⟨s.accounts, s.symbols, s.orders, s.cells, lset s.limits (itn (r.account * s.symbols + r.symbol)) ⟨r.long, r.short, r.opn⟩, s.caps, s.kill, s.last, s.seq, s.lsn + 1⟩, 0)
  else if r.kind = 5 then (⟨s.accounts, s.symbols, s.orders, s.cells, s.limits, s.caps, r.on, s.last, s.seq, s.lsn + 1⟩, 0)
  else if r.seq ≠ s.seq + 1 then (s, 11)
  else match findZ s.orders r.order with
    | none => (⟨s.accounts, s.symbols, s.orders, s.cells, s.limits, s.caps, s.kill, s.last, r.seq, s.lsn + 1⟩, 0)
    | some k => match takeZ (lget s.orders k) r.what r.qty r.price with
      | none => (⟨s.accounts, s.symbols, s.orders, s.cells, s.limits, s.caps, s.kill, s.last, r.seq, s.lsn + 1⟩, 0)
      | some p => (evS s r k p, 0)
theorem inC_at {n : Int} {o : SOrder} {k : Nat} (h : atZ n o = (k : Int)) : inC n k o = wC o := by unfold inC; rw [if_pos h]
theorem acct_nn {n : Int} {cs : List SCell} (h : ∀ c ∈ cs, okC c) (a : Int) : ∀ c ∈ acctZ n cs a, 0 ≤ c.opn ∧ inI c.opn := fun c hc => by
  have := h c (acctZ_mem hc)
  exact ⟨this.2.1.2.2, this.1.opn⟩
theorem worthZ_ne {o : SOrder} (h : o.phase ≠ 3) : worthZ o = if o.newQty ≤ o.filled then (o.qty - o.filled) * o.price else max ((o.qty - o.filled) * o.price) ((o.newQty - o.filled) * o.newPrice) := by unfold worthZ; rw [if_neg h]
theorem sum_pos0 (n i : Int) : ∀ (l : List SOrder), (sumC n i l).pos = 0
  | [] => rfl
  | o :: l => by
    have h := sum_pos0 n i l
    have : (inC n i o).pos = 0 := by unfold inC wC; split <;> (try split) <;> rfl
    simp only [sumC, cadd, h, this]; rfl
theorem mk_pos (s : SState) (l : List SOrder) (j : Nat) (h : j < (mkCells s l).length) : (mkCells s l)[j].pos = (s.cells[j]'(by simpa [mkCells] using h)).pos := by
  rw [mkCells_get]
  have := sum_pos0 s.symbols j l
  simp only [cadd]; omega
theorem w_same {α : Type} {l m : List α} (hlen : l.length = m.length) (hn : l.length < 999999) {step : Int × Bool → Option ((Int × Bool) ⊕ (Bool ⊕ Bool))}
    (hstep : ∀ (i : Nat) (h : i < l.length) (h2 : i < m.length) (q : Bool), Wq (step ((i : Int), q)) fun r => (l[i] = m[i] → r = .inl (((i + 1 : Nat) : Int), q)) ∧ (l[i] ≠ m[i] → r = .inr (.inl false)))
    (hend : ∀ q, step ((l.length : Int), q) = some (.inr (.inr q))) (q : Bool) : Wq (iterN step LF (0, q)) fun w => match w with | .inl b => b = false ∧ l ≠ m | .inr b => l = m := by
  refine w_for (n := l.length) hn (fun i _ => ∀ (j : Nat) (h : j < l.length) (h2 : j < m.length), j < i → l[j] = m[j]) _ (fun i x hi hx => ?_) (fun x hx => ?_) _ 0 (Nat.zero_le _) (fun j _ _ h => by omega)
  · have hi2 : i < m.length := by omega
    refine (hstep i hi hi2 x).mono fun r hr => ?_
    by_cases e : l[i] = m[i]
    · rw [hr.1 e]
      refine ⟨rfl, fun j h h2 hj => ?_⟩
      by_cases ej : j = i
      · subst ej; exact e
      · exact hx j h h2 (by omega)
    · rw [hr.2 e]
      refine ⟨rfl, fun h => e ?_⟩
      subst h; rfl
  · rw [hend x]
    exact (w_some _).2 (List.ext_getElem hlen fun j h h2 => hx j h h2 h)
theorem len_inj {α β : Type} (l : List α) (m : List β) : (len l = len m) ↔ l.length = m.length := by unfold len; omega
theorem order_ext (a b : SOrder) : (a.id = b.id ∧ a.account = b.account ∧ a.symbol = b.symbol ∧ a.side = b.side ∧ a.qty = b.qty ∧ a.price = b.price ∧ a.filled = b.filled ∧ a.phase = b.phase ∧ a.newQty = b.newQty ∧ a.newPrice = b.newPrice ∧ a.version = b.version ∧ a.asked = b.asked) ↔ a = b := by
  cases a; cases b; simp
theorem cell_ext' (a b : SCell) : (a.pos = b.pos ∧ a.buy = b.buy ∧ a.sell = b.sell ∧ a.opn = b.opn) ↔ a = b := by
  cases a; cases b; simp
theorem expo_ext (a b : SExpo) : (a.long = b.long ∧ a.short = b.short ∧ a.opn = b.opn) ↔ a = b := by
  cases a; cases b; simp
theorem state_ext (a b : SState) : (a.accounts = b.accounts ∧ a.symbols = b.symbols ∧ a.kill = b.kill ∧ a.last = b.last ∧ a.seq = b.seq ∧ a.lsn = b.lsn ∧ a.orders = b.orders ∧ a.cells = b.cells ∧ a.limits = b.limits ∧ a.caps = b.caps) ↔ a = b := by
  cases a; cases b; simp; grind
/-- A state whose lists are short. -/
def shortP (s : SState) : Prop := s.orders.length < 999999 ∧ s.cells.length < 999999 ∧ s.limits.length < 999999 ∧ s.caps.length < 999999
theorem s_same {a b : SState} (ha : shortP a) : Wq (F_snaffleref10_Same a b) fun r => r = true ↔ a = b := by
  obtain ⟨h1, h2, h3, h4⟩ := ha
  unfold F_snaffleref10_Same
  rw [w_cnd]
  have hx := state_ext a b
  refine ⟨fun h => (w_some _).2 ⟨fun h => (by cases h), fun h2 => ?_⟩, fun h => ?_⟩
  · subst h2
    simp only [band_T, band_F, bor_T, bor_F, bnot_T, bnot_F, ilt_T, ilt_F, ile_T, ile_F, ieq_T, ieq_F, beq_T, beq_F] at h
    simp at h
  · simp only [band_T, band_F, bor_T, bor_F, bnot_T, bnot_F, ilt_T, ilt_F, ile_T, ile_F, ieq_T, ieq_F, beq_T, beq_F, len_inj] at h
    obtain ⟨⟨⟨⟨⟨⟨⟨⟨⟨a1, a2⟩, a3⟩, a4⟩, a5⟩, a6⟩, a7⟩, a8⟩, a9⟩, a10⟩ := h
    have e1 : a = b ↔ a.orders = b.orders ∧ a.cells = b.cells ∧ a.limits = b.limits ∧ a.caps = b.caps := by
      rw [← hx]; exact ⟨fun h => ⟨h.2.2.2.2.2.2.1, h.2.2.2.2.2.2.2.1, h.2.2.2.2.2.2.2.2.1, h.2.2.2.2.2.2.2.2.2⟩, fun h => ⟨a1, a2, a3, a4, a5, a6, h⟩⟩
    rw [e1]
    refine Wq.bind (w_same (l := a.orders) (m := b.orders) a7 h1 (step := fun v : Int × Bool => L_snaffleref10_Same_58 b a v.fst v.snd) (fun i h hh q => ?_) (fun q => ?_) _) fun w hw => ?_
    · simp only [L_snaffleref10_Same_58]
      rw [cnd_t (by rw [ilt_nat]; simpa using h), cnd_t (inb _ i h), cnd_t (inb _ i hh), lget_nat _ i h, lget_nat _ i hh, w_cnd, w_some, w_some, bnot_T, bnot_F, wr_succ (by omega)]
      have := order_ext a.orders[i] b.orders[i]
      simp only [band_T, band_F, bor_T, bor_F, bnot_T, bnot_F, ilt_T, ilt_F, ile_T, ile_F, ieq_T, ieq_F, beq_T, beq_F] at *
      exact ⟨fun h => ⟨fun e => (by have := this.2 e; grind), fun _ => trivial⟩, fun h => ⟨fun _ => trivial, fun e => absurd (this.1 h) e⟩⟩
    · simp only [L_snaffleref10_Same_58]
      rw [cnd_f (by rw [show ((a.orders.length : Nat) : Int) = len a.orders from rfl]; simp [ilt])]
    cases w with
    | inl w => obtain ⟨rfl, h⟩ := hw; simp only [sumK, w_some]; simp [h]
    | inr w =>
    simp only [sumK, hw, true_and]
    refine Wq.bind (w_same (l := a.cells) (m := b.cells) a8 h2 (step := fun v : Int × Bool => L_snaffleref10_Same_122 b a v.fst v.snd) (fun i h hh q => ?_) (fun q => ?_) _) fun w hw => ?_
    · simp only [L_snaffleref10_Same_122]
      rw [cnd_t (by rw [ilt_nat]; simpa using h), cnd_t (inb _ i h), cnd_t (inb _ i hh), lget_nat _ i h, lget_nat _ i hh, w_cnd, w_some, w_some, bnot_T, bnot_F, wr_succ (by omega)]
      have := cell_ext' a.cells[i] b.cells[i]
      simp only [band_T, band_F, bor_T, bor_F, bnot_T, bnot_F, ilt_T, ilt_F, ile_T, ile_F, ieq_T, ieq_F, beq_T, beq_F] at *
      exact ⟨fun h => ⟨fun e => (by have := this.2 e; grind), fun _ => trivial⟩, fun h => ⟨fun _ => trivial, fun e => absurd (this.1 h) e⟩⟩
    · simp only [L_snaffleref10_Same_122]
      rw [cnd_f (by rw [show ((a.cells.length : Nat) : Int) = len a.cells from rfl]; simp [ilt])]
    cases w with
    | inl w => obtain ⟨rfl, h⟩ := hw; simp only [sumK, w_some]; simp [h]
    | inr w =>
    simp only [sumK, hw, true_and]
    refine Wq.bind (w_same (l := a.limits) (m := b.limits) a9 h3 (step := fun v : Int × Bool => L_snaffleref10_Same_250 b a v.fst v.snd) (fun i h hh q => ?_) (fun q => ?_) _) fun w hw => ?_
    · simp only [L_snaffleref10_Same_250]
      rw [cnd_t (by rw [ilt_nat]; simpa using h), cnd_t (inb _ i h), cnd_t (inb _ i hh), lget_nat _ i h, lget_nat _ i hh, w_cnd, w_some, w_some, bnot_T, bnot_F, wr_succ (by omega)]
      have := expo_ext a.limits[i] b.limits[i]
      simp only [band_T, band_F, bor_T, bor_F, bnot_T, bnot_F, ilt_T, ilt_F, ile_T, ile_F, ieq_T, ieq_F, beq_T, beq_F] at *
      exact ⟨fun h => ⟨fun e => (by have := this.2 e; grind), fun _ => trivial⟩, fun h => ⟨fun _ => trivial, fun e => absurd (this.1 h) e⟩⟩
    · simp only [L_snaffleref10_Same_250]
      rw [cnd_f (by rw [show ((a.limits.length : Nat) : Int) = len a.limits from rfl]; simp [ilt])]
    cases w with
    | inl w => obtain ⟨rfl, h⟩ := hw; simp only [sumK, w_some]; simp [h]
    | inr w =>
    simp only [sumK, hw, true_and]
    refine Wq.bind (w_same (l := a.caps) (m := b.caps) a10 h4 (step := fun v : Int × Bool => L_snaffleref10_Same_506 b a v.fst v.snd) (fun i h hh q => ?_) (fun q => ?_) _) fun w hw => ?_
    · simp only [L_snaffleref10_Same_506]
      rw [cnd_t (by rw [ilt_nat]; simpa using h), cnd_t (inb _ i h), cnd_t (inb _ i hh), lget_nat _ i h, lget_nat _ i hh, w_cnd, w_some, w_some, bnot_T, bnot_F, wr_succ (by omega)]
      simp only [band_T, band_F, bor_T, bor_F, bnot_T, bnot_F, ilt_T, ilt_F, ile_T, ile_F, ieq_T, ieq_F, beq_T, beq_F] at *
      exact ⟨fun h => ⟨fun e => absurd e h, fun _ => trivial⟩, fun h => ⟨fun _ => trivial, fun e => absurd h e⟩⟩
    · simp only [L_snaffleref10_Same_506]
      rw [cnd_f (by rw [show ((a.caps.length : Nat) : Int) = len a.caps from rfl]; simp [ilt])]
    cases w with
    | inl w => obtain ⟨rfl, h⟩ := hw; simp only [sumK, w_some]; simp [h]
    | inr w => simp only [sumK, hw, w_some]
theorem same_refl {a : SState} (ha : shortP a) : F_snaffleref10_Same a a = some true := by
  obtain ⟨b, e, q⟩ := s_same (b := a) ha
  rw [e, q.2 rfl]
theorem s_short (s : SState) : Wq (F_snaffleref10_Short s) fun b => b = true → shortP s := by
  unfold F_snaffleref10_Short shortP
  simp only [w_some, band_T, band_F, bor_T, bor_F, bnot_T, bnot_F, ilt_T, ilt_F, ile_T, ile_F, ieq_T, ieq_F, beq_T, beq_F, len]
  omega
def covX (a b : SExpo) : Prop := b.long ≤ a.long ∧ b.short ≤ a.short ∧ b.opn ≤ a.opn
instance (a b : SExpo) : Decidable (covX a b) := by unfold covX; infer_instance
theorem r_Add {a b : Int} (ha : inI a) (hb : inI b) : F_snaffleref01_Add a b = some (if inI (a + b) then (a + b, true) else (0, false)) := by
  unfold inI at ha hb
  unfold F_snaffleref01_Add isub iadd
  rw [cnd_if]
  simp only [band_T, band_F, bor_T, bor_F, bnot_T, bnot_F, ilt_T, ilt_F, ile_T, ile_F, ieq_T, ieq_F, beq_T, beq_F]
  by_cases h : inI (a + b)
  · rw [if_pos h, wr_in h]
    unfold inI at h
    rw [if_neg]
    rintro (⟨h1, h2⟩ | ⟨h1, h2⟩)
    · rw [wr_in ⟨by omega, by omega⟩] at h2; omega
    · rw [wr_in ⟨by omega, by omega⟩] at h2; omega
  · rw [if_neg h]
    unfold inI at h
    rw [if_pos]
    by_cases hp : 0 < b
    · exact .inl ⟨hp, by rw [wr_in ⟨by omega, by omega⟩]; omega⟩
    · exact .inr ⟨by omega, by rw [wr_in ⟨by omega, by omega⟩]; omega⟩
theorem r_Sub {a b : Int} (ha : inI a) (hb : inI b) : F_snaffleref01_Sub a b = some (if inI (a - b) then (a - b, true) else (0, false)) := by
  unfold inI at ha hb
  unfold F_snaffleref01_Sub isub iadd
  rw [cnd_if]
  simp only [band_T, band_F, bor_T, bor_F, bnot_T, bnot_F, ilt_T, ilt_F, ile_T, ile_F, ieq_T, ieq_F, beq_T, beq_F]
  by_cases h : inI (a - b)
  · rw [if_pos h, wr_in h]
    unfold inI at h
    rw [if_neg]
    rintro (⟨h1, h2⟩ | ⟨h1, h2⟩)
    · rw [wr_in ⟨by omega, by omega⟩] at h2; omega
    · rw [wr_in ⟨by omega, by omega⟩] at h2; omega
  · rw [if_neg h]
    unfold inI at h
    rw [if_pos]
    by_cases hp : 0 < b
    · exact .inr ⟨hp, by rw [wr_in ⟨by omega, by omega⟩]; omega⟩
    · exact .inl ⟨by omega, by rw [wr_in ⟨by omega, by omega⟩]; omega⟩
theorem r_whole {a : Int} (ha : inI a) : F_snaffleref01_whole a = some (a.natAbs : Int) := by
  unfold inI at ha
  unfold F_snaffleref01_whole isub iadd
  rw [c_ilt]
  split
  · rw [wr_in (n := a + 1) ⟨by omega, by omega⟩, wr_in (n := 0 - (a + 1)) ⟨by omega, by omega⟩, wr_u64, wr_u64]
    congr 1; omega
  · rw [wr_u64]; congr 1; omega
theorem r_Mul {a b : Int} (ha : inI a) (hb : inI b) : Wq (F_snaffleref01_Mul a b) fun r => (r.2 = true ↔ inI (a * b)) ∧ (r.2 = true → r.1 = a * b) := by
  unfold F_snaffleref01_Mul
  rw [r_whole ha, r_whole hb, ob_some, ob_some]
  have hm : (a.natAbs : Int) * (b.natAbs : Int) = ((a * b).natAbs : Int) := by rw [Int.natAbs_mul]; rfl
  have hs : ((a < 0 ↔ b < 0) → 0 ≤ a * b) ∧ (¬ (a < 0 ↔ b < 0) → a * b ≤ 0) := by
    constructor
    · intro h
      by_cases h1 : a < 0
      · exact Int.mul_nonneg_of_nonpos_of_nonpos (by omega) (by have := h.1 h1; omega)
      · exact Int.mul_nonneg (by omega) (by have : ¬ b < 0 := fun h2 => h1 (h.2 h2); omega)
    · intro h
      by_cases h1 : a < 0
      · exact Int.mul_nonpos_of_nonpos_of_nonneg (by omega) (by have : ¬ b < 0 := fun h2 => h ⟨fun _ => h2, fun _ => h1⟩; omega)
      · exact Int.mul_nonpos_of_nonneg_of_nonpos (by omega) (by have : b < 0 := by { by_cases h2 : b < 0; exact h2; exact absurd ⟨fun h => absurd h h1, fun h => absurd h h2⟩ h }; omega)
  unfold inI at ha hb
  obtain ⟨A, B, e1, A1, A2, B1, B2, s1, s2⟩ := half (a.natAbs : Int) (by omega) (by omega)
  obtain ⟨C, D, e2, C1, C2, D1, D2, t1, t2⟩ := half (b.natAbs : Int) (by omega) (by omega)
  rw [s1, s2, t1, t2]
  have m2 : 0 ≤ A * D ∧ A * D ≤ 4294967295 * 4294967295 := ⟨Int.mul_nonneg A1 D1, Int.mul_le_mul (by omega) (by omega) D1 (by omega)⟩
  have m3 : 0 ≤ B * C ∧ B * C ≤ 4294967295 * 4294967295 := ⟨Int.mul_nonneg B1 C1, Int.mul_le_mul (by omega) (by omega) C1 (by omega)⟩
  have m4 : 0 ≤ B * D ∧ B * D ≤ 4294967295 * 4294967295 := ⟨Int.mul_nonneg B1 D1, Int.mul_le_mul (by omega) (by omega) D1 (by omega)⟩
  have mm : ((a * b).natAbs : Int) = A * C * 18446744073709551616 + (A * D + B * C) * 4294967296 + B * D := by
    rw [← hm, e1, e2]
    simp only [Int.add_mul, Int.mul_add]
    have q1 : A * 4294967296 * (C * 4294967296) = A * C * 18446744073709551616 := by
      rw [Int.mul_assoc, Int.mul_left_comm 4294967296, ← Int.mul_assoc, ← Int.mul_assoc]; omega
    have q2 : A * 4294967296 * D = A * D * 4294967296 := by rw [Int.mul_assoc, Int.mul_comm 4294967296, ← Int.mul_assoc]
    have q3 : B * (C * 4294967296) = B * C * 4294967296 := by rw [← Int.mul_assoc]
    rw [q1, q2, q3]; omega
  have mac : 0 ≤ A * C ∧ (0 < A → 0 < C → 1 ≤ A * C) := ⟨Int.mul_nonneg A1 C1, fun h1 h2 => Int.mul_pos h1 h2⟩
  have mz : (A = 0 → A * C = 0 ∧ A * D = 0) ∧ (C = 0 → A * C = 0 ∧ B * C = 0) := ⟨fun h => by subst h; simp, fun h => by subst h; simp⟩
  unfold imul iadd isub ishl
  have e32 : min (Int.toNat 32) (IntKind.bits .u64) = 32 := by decide
  simp only [e32]
  generalize A * C = p at *
  generalize A * D = q at *
  generalize B * C = r at *
  generalize B * D = t at *
  generalize a * b = w at *
  simp only [wr_u64]
  by_cases c1 : 0 < A ∧ 0 < C
  · rw [cnd_t (by simp only [band_T, band_F, bor_T, bor_F, bnot_T, bnot_F, ilt_T, ilt_F, ile_T, ile_F, ieq_T, ieq_F, beq_T, beq_F]; exact c1), w_some]
    have := mac.2 c1.1 c1.2
    unfold inI
    simp only [Bool.false_eq_true, false_iff, false_implies, and_true]
    omega
  · rw [cnd_f (by simp only [band_T, band_F, bor_T, bor_F, bnot_T, bnot_F, ilt_T, ilt_F, ile_T, ile_F, ieq_T, ieq_F, beq_T, beq_F]; omega)]
    have hac : p = 0 ∧ (q = 0 ∨ r = 0) := by
      by_cases h : A = 0
      · exact ⟨(mz.1 h).1, .inl (mz.1 h).2⟩
      · have hC : C = 0 := by omega
        exact ⟨(mz.2 hC).1, .inr (mz.2 hC).2⟩
    rw [Int.emod_eq_of_lt (a := q) m2.1 (by omega), Int.emod_eq_of_lt (a := r) m3.1 (by omega), Int.emod_eq_of_lt (a := t) m4.1 (by omega), Int.emod_eq_of_lt (a := q + r) (by omega) (by omega)]
    rw [c_ile]
    by_cases c2 : 4294967296 ≤ q + r
    · rw [if_pos c2, w_some]
      unfold inI
      simp only [Bool.false_eq_true, false_iff, false_implies, and_true]
      omega
    · rw [if_neg c2, w_cnd]
      have hw : ((w.natAbs : Nat) : Int) = (q + r) * 4294967296 + t := by omega
      have hsh : ((q + r) * 2 ^ 32) % 18446744073709551616 = (q + r) * 4294967296 := by
        rw [show (2 : Int) ^ 32 = 4294967296 by decide]; exact Int.emod_eq_of_lt (by omega) (by omega)
      rw [hsh]
      refine ⟨fun h => (w_some _).2 ?_, fun h => ?_⟩
      · simp only [band_T, band_F, bor_T, bor_F, bnot_T, bnot_F, ilt_T, ilt_F, ile_T, ile_F, ieq_T, ieq_F, beq_T, beq_F] at h
        unfold inI
        simp only [Bool.false_eq_true, false_iff, false_implies, and_true]
        omega
      · simp only [band_T, band_F, bor_T, bor_F, bnot_T, bnot_F, ilt_T, ilt_F, ile_T, ile_F, ieq_T, ieq_F, beq_T, beq_F] at h
        have hlt : (q + r) * 4294967296 + t < 18446744073709551616 := by omega
        rw [Int.emod_eq_of_lt (a := (q + r) * 4294967296 + t) (by omega) hlt] at h ⊢
        rw [← hw] at h ⊢
        rw [w_cnd]
        refine ⟨fun h5 => (w_some _).2 ?_, fun h5 => (w_some _).2 ?_⟩
        · have h6 : ¬ (a < 0 ↔ b < 0) := fun h7 => by
            rw [bnot_T, beq_F] at h5
            exact h5 (decide_eq_decide.2 h7)
          have := hs.2 h6
          have e : wr .i64 ((0 - ((w.natAbs : Nat) : Int)) % 18446744073709551616) = w := by
            rcases wr_two (n := (0 - ((w.natAbs : Nat) : Int)) % 18446744073709551616) (by omega) (by omega) with ⟨g, e⟩ | ⟨g, e⟩ | ⟨g, e⟩ <;> rw [e] <;> (try unfold inI at g) <;> omega
          simp only [e, true_iff, implies_true, and_true]
          unfold inI; omega
        · have h6 : (a < 0 ↔ b < 0) := by
            rw [bnot_F, beq_T] at h5
            exact decide_eq_decide.1 h5
          have := hs.1 h6
          simp only [ilt_T]
          unfold inI
          refine ⟨by omega, fun h7 => ?_⟩
          rw [wr_in ⟨by omega, by omega⟩]; omega
theorem r_rec_Right (r : SRec) : Wq (F_snaffleref06_Right r) fun b => b = true ↔ recP r := by
  unfold F_snaffleref06_Right F_snaffleref06_id
  by_cases k1 : r.kind = 1
  · have e1 : ieq r.kind 1 = true := by rw [ieq_T]; exact k1
    simp only [e1, cnd_true, ob_some]
    simp only [w_bind, w_cnd, w_some, band_T, band_F, bor_T, bor_F, bnot_T, bnot_F, ilt_T, ilt_F, ile_T, ile_F, ieq_T, ieq_F, beq_T, beq_F, true_implies, ne_eq, not_true_eq_false, false_implies, and_true, true_and, or_self, reduceCtorEq, recP, knownP]; grind
  have e1 : ieq r.kind 1 = false := by rw [ieq_F]; exact k1
  by_cases k2 : r.kind = 2
  · have e2 : ieq r.kind 2 = true := by rw [ieq_T]; exact k2
    simp only [e1, e2, cnd_true, cnd_false, ob_some]
    simp only [w_bind, w_cnd, w_some, band_T, band_F, bor_T, bor_F, bnot_T, bnot_F, ilt_T, ilt_F, ile_T, ile_F, ieq_T, ieq_F, beq_T, beq_F, true_implies, ne_eq, not_true_eq_false, false_implies, and_true, true_and, or_self, reduceCtorEq, recP, knownP]; grind
  have e2 : ieq r.kind 2 = false := by rw [ieq_F]; exact k2
  by_cases k3 : r.kind = 3
  · have e3 : ieq r.kind 3 = true := by rw [ieq_T]; exact k3
    simp only [e1, e2, e3, cnd_true, cnd_false, ob_some]
    have hrec : recP r ↔ (knownP r.order ∧ r.account = 0 ∧ r.symbol = 0 ∧ r.side = 0 ∧ r.qty = 0 ∧ r.price = 0 ∧ r.long = 0 ∧ r.short = 0 ∧ r.opn = 0 ∧ r.on = false ∧ r.seq = 0 ∧ r.what = 0) := by
      unfold recP
      constructor
      · rintro (h | h | h | h | h | h)
        · omega
        · omega
        · exact h.2
        · omega
        · omega
        · omega
      · exact fun h => .inr (.inr (.inl ⟨k3, h⟩))
    rw [hrec]
    simp only [w_bind, w_cnd, w_some, band_T, band_F, bor_T, bor_F, bnot_T, bnot_F, ilt_T, ilt_F, ile_T, ile_F, ieq_T, ieq_F, beq_T, beq_F, true_implies, ne_eq, not_true_eq_false, false_implies, and_true, true_and, or_self, reduceCtorEq, knownP]; grind
  have e3 : ieq r.kind 3 = false := by rw [ieq_F]; exact k3
  by_cases k4 : r.kind = 4
  · have e4 : ieq r.kind 4 = true := by rw [ieq_T]; exact k4
    simp only [e1, e2, e3, e4, cnd_true, cnd_false, ob_some]
    simp only [w_bind, w_cnd, w_some, band_T, band_F, bor_T, bor_F, bnot_T, bnot_F, ilt_T, ilt_F, ile_T, ile_F, ieq_T, ieq_F, beq_T, beq_F, true_implies, ne_eq, not_true_eq_false, false_implies, and_true, true_and, or_self, reduceCtorEq, recP, knownP]; grind
  have e4 : ieq r.kind 4 = false := by rw [ieq_F]; exact k4
  by_cases k5 : r.kind = 5
  · have e5 : ieq r.kind 5 = true := by rw [ieq_T]; exact k5
    simp only [e1, e2, e3, e4, e5, cnd_true, cnd_false, ob_some]
    have hrec : recP r ↔ (r.order = 0 ∧ r.account = 0 ∧ r.symbol = 0 ∧ r.side = 0 ∧ r.qty = 0 ∧ r.price = 0 ∧ r.long = 0 ∧ r.short = 0 ∧ r.opn = 0 ∧ r.seq = 0 ∧ r.what = 0) := by
      unfold recP
      constructor
      · rintro (h | h | h | h | h | h)
        · omega
        · omega
        · omega
        · omega
        · exact h.2
        · omega
      · exact fun h => .inr (.inr (.inr (.inr (.inl ⟨k5, h⟩))))
    rw [hrec]
    simp only [w_bind, w_cnd, w_some, band_T, band_F, bor_T, bor_F, bnot_T, bnot_F, ilt_T, ilt_F, ile_T, ile_F, ieq_T, ieq_F, beq_T, beq_F, true_implies, ne_eq, not_true_eq_false, false_implies, and_true, true_and, or_self, reduceCtorEq, knownP]
  have e5 : ieq r.kind 5 = false := by rw [ieq_F]; exact k5
  by_cases k6 : r.kind = 6
  · have e6 : ieq r.kind 6 = true := by rw [ieq_T]; exact k6
    simp only [e1, e2, e3, e4, e5, e6, cnd_true, cnd_false]
    have hrec : recP r ↔ (knownP r.order ∧ r.account = 0 ∧ r.symbol = 0 ∧ r.side = 0 ∧ r.long = 0 ∧ r.short = 0 ∧ r.opn = 0 ∧ r.on = false ∧ (1 ≤ r.seq ∧ r.seq ≤ 1000000000) ∧
      ((r.what = 3 ∧ 1 ≤ r.qty ∧ r.price = 0) ∨ (r.what = 5 ∧ 1 ≤ r.qty ∧ 1 ≤ r.price) ∨ ((r.what = 1 ∨ r.what = 2 ∨ r.what = 4 ∨ r.what = 6) ∧ r.qty = 0 ∧ r.price = 0))) := by
      unfold recP
      constructor
      · rintro (h | h | h | h | h | h)
        · omega
        · omega
        · omega
        · omega
        · omega
        · exact h.2
      · exact fun h => .inr (.inr (.inr (.inr (.inr ⟨k6, h⟩))))
    rw [hrec, w_bind]
    refine Wq.mono (Q := fun y => (1 ≤ r.seq ∧ r.seq ≤ 1000000000) → (1 ≤ r.what ∧ r.what ≤ 6) → (y = true ↔ knownP r.order)) ?_ fun y hy => ?_
    · rw [w_cnd]
      refine ⟨fun h => (w_some _).2 fun _ _ => by simp only [band_T, band_F, bor_T, bor_F, bnot_T, bnot_F, ilt_T, ilt_F, ile_T, ile_F, ieq_T, ieq_F, beq_T, beq_F, knownP]; omega, fun h => (w_some _).2 fun g1 g2 => ?_⟩
      simp only [band_T, band_F, bor_T, bor_F, bnot_T, bnot_F, ilt_T, ilt_F, ile_T, ile_F, ieq_T, ieq_F, beq_T, beq_F] at h
      omega
    by_cases w3 : r.what = 3
    · rw [cnd_t (by simp only [band_T, band_F, bor_T, bor_F, bnot_T, bnot_F, ilt_T, ilt_F, ile_T, ile_F, ieq_T, ieq_F, beq_T, beq_F]; exact .inl w3), cnd_f (by rw [ieq_F]; omega), w_some]
      simp only [band_T, band_F, bor_T, bor_F, bnot_T, bnot_F, ilt_T, ilt_F, ile_T, ile_F, ieq_T, ieq_F, beq_T, beq_F, true_and]
      rw [w3] at hy ⊢
      constructor
      · rintro ⟨⟨⟨⟨⟨⟨a1, a2⟩, _⟩, _⟩, a3⟩, a4⟩, b1, b2, b3, b4, b5, b6, b7, b8, _⟩
        exact ⟨(hy ⟨by omega, a2⟩ (by omega)).1 a3, b1, b2, b3, b5, b6, b7, b8, ⟨by omega, a2⟩, .inl ⟨rfl, by omega, b4⟩⟩
      · rintro ⟨c1, b1, b2, b3, b5, b6, b7, b8, c2, c3⟩
        have c4 : 1 ≤ r.qty ∧ r.price = 0 := by omega
        exact ⟨⟨⟨⟨⟨⟨by omega, c2.2⟩, by omega⟩, by omega⟩, (hy c2 (by omega)).2 c1⟩, by omega⟩, b1, b2, b3, c4.2, b5, b6, b7, b8, trivial⟩
    by_cases w5 : r.what = 5
    · rw [cnd_t (by simp only [band_T, band_F, bor_T, bor_F, bnot_T, bnot_F, ilt_T, ilt_F, ile_T, ile_F, ieq_T, ieq_F, beq_T, beq_F]; exact .inr w5), cnd_t (by rw [ieq_T]; exact w5), w_some]
      simp only [band_T, band_F, bor_T, bor_F, bnot_T, bnot_F, ilt_T, ilt_F, ile_T, ile_F, ieq_T, ieq_F, beq_T, beq_F, true_and]
      rw [w5] at hy ⊢
      constructor
      · rintro ⟨⟨⟨⟨⟨⟨⟨a1, a2⟩, _⟩, _⟩, a3⟩, a4⟩, a5⟩, b1, b2, b3, b5, b6, b7, b8, _⟩
        exact ⟨(hy ⟨by omega, a2⟩ (by omega)).1 a3, b1, b2, b3, b5, b6, b7, b8, ⟨by omega, a2⟩, .inr (.inl ⟨rfl, by omega, by omega⟩)⟩
      · rintro ⟨c1, b1, b2, b3, b5, b6, b7, b8, c2, c3⟩
        have c4 : 1 ≤ r.qty ∧ 1 ≤ r.price := by omega
        exact ⟨⟨⟨⟨⟨⟨⟨by omega, c2.2⟩, by omega⟩, by omega⟩, (hy c2 (by omega)).2 c1⟩, by omega⟩, by omega⟩, b1, b2, b3, b5, b6, b7, b8, trivial⟩
    rw [cnd_f (by simp only [band_T, band_F, bor_T, bor_F, bnot_T, bnot_F, ilt_T, ilt_F, ile_T, ile_F, ieq_T, ieq_F, beq_T, beq_F]; exact ⟨w3, w5⟩), cnd_f (by rw [ieq_F]; exact w5), w_some]
    simp only [band_T, band_F, bor_T, bor_F, bnot_T, bnot_F, ilt_T, ilt_F, ile_T, ile_F, ieq_T, ieq_F, beq_T, beq_F, true_and]
    constructor
    · rintro ⟨⟨⟨⟨⟨a1, a2⟩, a6⟩, a7⟩, a3⟩, b1, b2, b3, b9, b4, b5, b6, b7, b8, _⟩
      exact ⟨(hy ⟨by omega, a2⟩ (by omega)).1 a3, b1, b2, b3, b5, b6, b7, b8, ⟨by omega, a2⟩, .inr (.inr ⟨by omega, b9, b4⟩)⟩
    · rintro ⟨c1, b1, b2, b3, b5, b6, b7, b8, c2, c3⟩
      have c4 : r.qty = 0 ∧ r.price = 0 ∧ 1 ≤ r.what ∧ r.what ≤ 6 := by omega
      exact ⟨⟨⟨⟨⟨by omega, c2.2⟩, by omega⟩, by omega⟩, (hy c2 (by omega)).2 c1⟩, b1, b2, b3, c4.1, c4.2.1, b5, b6, b7, b8, trivial⟩
  have e6 : ieq r.kind 6 = false := by rw [ieq_F]; exact k6
  simp only [e1, e2, e3, e4, e5, e6, cnd_true, cnd_false, ob_some]
  simp only [w_bind, w_cnd, w_some, band_T, band_F, bor_T, bor_F, bnot_T, bnot_F, ilt_T, ilt_F, ile_T, ile_F, ieq_T, ieq_F, beq_T, beq_F, true_implies, ne_eq, not_true_eq_false, false_implies, and_true, true_and, or_self, reduceCtorEq, recP]; grind
theorem r_order_Right (o : SOrder) : F_snaffleref07_Right o = some (decide (ordP o)) := by
  refine Wq.dec ?_
  unfold F_snaffleref07_Right
  refine (r_rec_Right _).bind fun b hb => ?_
  have hb' : b = true ↔ begunP o := by rw [hb]; simp [recP, begunP, knownP]
  unfold ordP pendP
  rw [← hb']
  simp only [w_bind, w_cnd, w_some, band_T, band_F, bor_T, bor_F, bnot_T, bnot_F, ilt_T, ilt_F, ile_T, ile_F, ieq_T, ieq_F, beq_T, beq_F, true_implies, ne_eq, not_true_eq_false, false_implies, and_true, true_and, or_self, reduceCtorEq]
  cases b <;> grind
theorem r_order_Open {o : SOrder} (h : ordP o) (hr : Ok_order o) : F_snaffleref07_Open o = some (openZ o) := by
  have hb := openZ_rng h hr
  have hf := h.2.1
  have hq := h.2.2.1
  have r1 := hr.qty; have r2 := hr.newQty
  unfold inI at r1 r2
  unfold F_snaffleref07_Open isub
  rw [r_order_Right, ob_some, decide_eq_true h]
  unfold openZ at *
  rw [bnot_true, bor_false, c_ieq]
  split
  · rfl
  · rename_i hp
    rw [if_neg hp] at hb
    rw [c_ilt]
    split
    · rw [wr_in ⟨by omega, by omega⟩]; congr 1; omega
    · rw [wr_in ⟨by omega, by omega⟩]; congr 1; omega
theorem r_order_Worth {o : SOrder} (h : ordP o) (hr : Ok_order o) : F_snaffleref07_Worth o = some (if worthZ o ≤ 9223372036854775807 then (worthZ o, 0) else (0, 3)) := by
  refine Wq.eq ?_
  have hp := h.1.2.2.2.2.2
  have hf := h.2.2.1
  have hf0 := h.2.1
  have rq := hr.qty; have rp := hr.price; have rf := hr.filled; have rn := hr.newQty; have rnp := hr.newPrice
  unfold inI at rq rf rn
  unfold F_snaffleref07_Worth isub
  rw [r_order_Right, ob_some, decide_eq_true h, bnot_true, cnd_false, c_ieq]
  by_cases h3 : o.phase = 3
  · rw [if_pos h3, w_some]
    have : worthZ o = 0 := by unfold worthZ; rw [if_pos h3]
    rw [this]; rfl
  · rw [if_neg h3, wr_in ⟨by omega, by omega⟩]
    refine (r_Mul ⟨by omega, by omega⟩ rp).bind fun y hy => ?_
    have m : 0 ≤ (o.qty - o.filled) * o.price := Int.mul_nonneg (by omega) (by omega)
    rw [worthZ_ne h3]
    generalize (o.qty - o.filled) * o.price = a at *
    have hia : inI a ↔ a ≤ 9223372036854775807 := by unfold inI; omega
    rw [hia] at hy
    rw [w_cnd]
    refine ⟨fun hb => (w_some _).2 ?_, fun hb => ?_⟩
    · have hn : ¬ a ≤ 9223372036854775807 := fun h => by rw [hy.1.2 h] at hb; cases hb
      rw [if_neg]; split <;> omega
    · have hyt : y.2 = true := by simpa [bnot] using hb
      have hale := hy.1.1 hyt
      have hya := hy.2 hyt
      rw [c_ilt]
      by_cases hn : o.filled < o.newQty
      · rw [if_pos hn, if_neg (by omega : ¬ o.newQty ≤ o.filled)]
        have hnp := new_pos h hn
        rw [wr_in ⟨by omega, by omega⟩]
        refine (r_Mul ⟨by omega, by omega⟩ rnp).bind fun z hz => ?_
        have m2 : 0 ≤ (o.newQty - o.filled) * o.newPrice := Int.mul_nonneg (by omega) (by omega)
        generalize (o.newQty - o.filled) * o.newPrice = b at *
        have hib : inI b ↔ b ≤ 9223372036854775807 := by unfold inI; omega
        rw [hib] at hz
        rw [w_cnd]
        refine ⟨fun hb => (w_some _).2 ?_, fun hb => ?_⟩
        · have hn : ¬ b ≤ 9223372036854775807 := fun h => by rw [hz.1.2 h] at hb; cases hb
          rw [if_neg (by omega)]
        · have hzt : z.2 = true := by simpa [bnot] using hb
          have hble := hz.1.1 hzt
          have hzb := hz.2 hzt
          rw [hya, hzb, c_ilt, if_pos (c := max a b ≤ 9223372036854775807) (by omega)]
          by_cases hab : a < b
          · rw [if_pos hab, w_some, Int.max_eq_right (by omega)]
          · rw [if_neg hab, w_some, Int.max_eq_left (by omega)]
      · rw [if_neg hn, if_pos (by omega : o.newQty ≤ o.filled), if_pos hale, w_some, hya]
theorem r_cell_Right {c : SCell} (h : Ok_cell c) : F_snaffleref08_Right c = some (decide (okC c)) := by
  refine Wq.dec ?_
  unfold F_snaffleref08_Right
  rw [r_Add h.pos h.buy, ob_some, r_Sub h.sell h.pos, ob_some, w_some]
  simp only [band_T, band_F, bor_T, bor_F, bnot_T, bnot_F, ilt_T, ilt_F, ile_T, ile_F, ieq_T, ieq_F, beq_T, beq_F, okC]
  by_cases h1 : inI (c.pos + c.buy)
  · by_cases h2 : inI (c.sell - c.pos)
    · simp only [if_pos h1, if_pos h2]
      constructor
      · rintro ⟨⟨⟨_, a⟩, b⟩, d⟩; exact ⟨h, ⟨a, b, d⟩, h1, h2⟩
      · rintro ⟨_, ⟨a, b, d⟩, _, _⟩; exact ⟨⟨⟨⟨trivial, trivial⟩, a⟩, b⟩, d⟩
    · simp only [if_neg h2]
      constructor
      · rintro ⟨⟨⟨⟨_, a⟩, _⟩, _⟩, _⟩; cases a
      · rintro ⟨_, _, _, a⟩; exact absurd a h2
  · simp only [if_neg h1]
    constructor
    · rintro ⟨⟨⟨⟨a, _⟩, _⟩, _⟩, _⟩; cases a
    · rintro ⟨_, _, a, _⟩; exact absurd a h1
theorem r_limit_Right (x : SExpo) : F_snaffleref09_Right x = some (decide (limP x)) := by
  refine Wq.dec ?_
  unfold F_snaffleref09_Right limP
  simp only [w_some, band_T, band_F, bor_T, bor_F, bnot_T, bnot_F, ilt_T, ilt_F, ile_T, ile_F, ieq_T, ieq_F, beq_T, beq_F]
  grind
theorem r_Whole {l : List SCell} (hl : l.length < 999999) (h : ∀ c ∈ l, 0 ≤ c.opn ∧ inI c.opn) : F_snaffleref09_Whole l = some (if wholeZ l ≤ 9223372036854775807 then (wholeZ l, true) else (0, false)) := by
  refine Wq.eq ?_
  have hn : ∀ x ∈ l.map SCell.opn, 0 ≤ x := fun x hx => by
    obtain ⟨c, hc, rfl⟩ := List.mem_map.1 hx
    exact (h c hc).1
  have htk : ∀ i, (l.take i).map SCell.opn = (l.map SCell.opn).take i := fun i => by rw [List.map_take]
  unfold F_snaffleref09_Whole
  refine Wq.bind (Q := fun w : (Bool × Int) ⊕ (Int × Bool × Int) => match w with | .inl w => w = (false, 0) ∧ ¬ wholeZ l ≤ 9223372036854775807 | .inr w => w.1 = wholeZ l ∧ wholeZ l ≤ 9223372036854775807)
    (w_for (n := l.length) (step := fun v : Int × Int × Bool × Int => L_snaffleref09_Whole_58 l v.fst v.snd.fst v.snd.snd.fst v.snd.snd.snd) (by omega)
      (fun i x => x.1 = wholeZ (l.take i) ∧ x.1 ≤ 9223372036854775807) _ ?_ ?_ _ 0 (Nat.zero_le _) (by simp [wholeZ])) ?_
  · rintro i ⟨a, b, c⟩ hi ⟨rfl, ha⟩
    simp only [L_snaffleref09_Whole_58]
    simp only at ha
    have hx := h l[i] (List.getElem_mem _)
    have hs : wholeZ (l.take (i + 1)) = wholeZ (l.take i) + l[i].opn := by
      unfold wholeZ
      rw [htk, htk, sum_take_succ _ i (by simpa using hi), List.getElem_map]
    have ht : 0 ≤ wholeZ (l.take i) := by unfold wholeZ; rw [htk]; exact sum_nn fun x hx => hn x (List.mem_of_mem_take hx)
    have htl : wholeZ (l.take (i + 1)) ≤ wholeZ l := by unfold wholeZ; rw [htk]; exact sum_take_le hn _
    rw [cnd_t (by rw [ilt_nat]; simpa using hi), cnd_t (inb l i hi), lget_nat l i hi, r_Add ⟨by omega, ha⟩ hx.2, ob_some, ← hs]
    by_cases hr : wholeZ (l.take (i + 1)) ≤ 9223372036854775807
    · rw [if_pos ⟨by omega, hr⟩]
      simp only [bnot_true, cnd_false, w_some]
      exact ⟨wr_succ (by omega), trivial, hr⟩
    · rw [if_neg (by unfold inI; omega)]
      simp only [bnot_false, cnd_true, w_some]
      exact ⟨trivial, by omega⟩
  · rintro ⟨a, b, c⟩ ⟨rfl, ha⟩
    simp only [L_snaffleref09_Whole_58]
    rw [cnd_f (by rw [ilt_nat]; simp), w_some]
    rw [List.take_length] at *
    exact ⟨rfl, ha⟩
  · rintro w hw
    cases w with
    | inl w => obtain ⟨rfl, h2⟩ := hw; simp only [sumK, w_some]; rw [if_neg h2]
    | inr w => obtain ⟨h1, h2⟩ := hw; simp only [sumK, w_some]; rw [if_pos h2, h1]
theorem addC_one (c : SCell) {o : SOrder} (h : o.side = 1 ∨ o.side = 2) : addC c o = if o.side = 1 then ⟨c.pos, c.buy + openZ o, c.sell, c.opn + worthZ o⟩ else ⟨c.pos, c.buy, c.sell + openZ o, c.opn + worthZ o⟩ := by
  unfold addC
  by_cases e : o.side = 1
  · rw [if_pos e, if_neg (by omega)]
  · rw [if_neg e, if_pos (by omega)]
/-- One cell, made of the orders. -/
theorem r_cell {s : SState} (hk : ∀ o ∈ s.orders, orderIn s o ∧ Ok_order o) (hs : sizedP s) (hol : s.orders.length < 999999) (i : Nat) (pos : Int) (a : Bool) (b : List SCell) :
    Wq (iterN (fun v : Int × Bool × List SCell × SCell => L_snaffleref10_Cells_14922 (i : Int) s v.fst v.snd.fst v.snd.snd.fst v.snd.snd.snd) LF (0, a, b, SCell.mk pos 0 0 0)) fun w => match w with
      | .inl w => w.1 = false ∧ w.2.1 = [] ∧ ¬ fitC (sumC s.symbols i s.orders)
      | .inr w => w.1 = a ∧ w.2.1 = b ∧ w.2.2 = cadd ⟨pos, 0, 0, 0⟩ (sumC s.symbols i s.orders) ∧ fitC (sumC s.symbols i s.orders) := by
  have hz : cadd ⟨pos, 0, 0, 0⟩ zC = SCell.mk pos 0 0 0 := by apply cell_ext <;> simp [cadd, zC]
  refine w_for (n := s.orders.length) hol (fun k x => x.1 = a ∧ x.2.1 = b ∧ x.2.2 = cadd ⟨pos, 0, 0, 0⟩ (sumC s.symbols i (s.orders.take k)) ∧ fitC (sumC s.symbols i (s.orders.take k))) _ ?_ ?_ _ 0 (Nat.zero_le _) ⟨rfl, rfl, by simp only [List.take_zero, sumC]; exact hz.symm, by simp only [List.take_zero, sumC, fitC, zC]; decide⟩
  · rintro k ⟨x1, x2, x3⟩ hkl ⟨rfl, rfl, g3, g4⟩
    simp only at g3 g4
    obtain ⟨hoi, hor⟩ := hk s.orders[k] (List.getElem_mem _)
    obtain ⟨ho, _, ha, hy⟩ := id hoi
    have hside := ho.1.2.2.2.1
    have hacc := ho.1.2.1; have hsym := ho.1.2.2.1
    have m := mul_le64 (a := s.orders[k].account) (b := s.symbols) (by omega) (by have := hs.1.2; omega) (by have := hs.2.1.1; omega) (by have := hs.2.1.2; omega)
    have hwr : wr IntKind.i64 (iadd (wr IntKind.i64 (imul s.orders[k].account s.symbols)) s.orders[k].symbol) = atZ s.symbols s.orders[k] := by
      unfold iadd imul atZ
      rw [wr_small (n := s.orders[k].account * s.symbols) m.1 (by omega), wr_small (by omega) (by omega)]
    have hstep : sumC s.symbols i (s.orders.take (k + 1)) = cadd (sumC s.symbols i (s.orders.take k)) (inC s.symbols i s.orders[k]) := by
      rw [List.take_succ_eq_append_getElem hkl, sumC_append, sumC_one]
    have hnn := sumC_nn s.symbols i (l := s.orders.take k) fun o h => ⟨(hk o (List.mem_of_mem_take h)).1.1, (hk o (List.mem_of_mem_take h)).2⟩
    have hO := openZ_rng ho hor
    have hW := worthZ_nn ho
    have hfull : fitC (sumC s.symbols i s.orders) → fitC (sumC s.symbols i (s.orders.take (k + 1))) := fun h => by
      have e : sumC s.symbols i s.orders = cadd (sumC s.symbols i (s.orders.take (k + 1))) (sumC s.symbols i (s.orders.drop (k + 1))) := by
        rw [← sumC_append, List.take_append_drop]
      rw [e] at h
      exact fit_mono (sumC_nn _ _ fun o h => ⟨(hk o (List.mem_of_mem_drop h)).1.1, (hk o (List.mem_of_mem_drop h)).2⟩) h
    simp only [L_snaffleref10_Cells_14922]
    rw [cnd_t (by rw [ilt_nat]; simpa using hkl), cnd_t (inb _ k hkl), lget_nat _ k hkl, hwr, c_bnot, c_ieq]
    by_cases hat : atZ s.symbols s.orders[k] = (i : Int)
    case neg =>
      rw [if_neg hat, w_some]
      refine ⟨wr_succ (by omega), rfl, rfl, ?_, ?_⟩
      · rw [hstep]; unfold inC; rw [if_neg hat, cadd_z]; exact g3
      · rw [hstep]; unfold inC; rw [if_neg hat, cadd_z]; exact g4
    rw [if_pos hat, r_order_Worth ho hor, ob_some, r_order_Open ho hor]
    have hin : inC s.symbols i s.orders[k] = wC s.orders[k] := inC_at hat
    rw [hin] at hstep
    generalize sumC s.symbols i (s.orders.take k) = c at *
    obtain ⟨n0, n1, n2, n3⟩ := hnn
    obtain ⟨f1, f2, f3⟩ := id g4
    have e1 : x3.opn = c.opn := by rw [g3]; simp [cadd]
    have e2 : x3.buy = c.buy := by rw [g3]; simp [cadd]
    have e3 : x3.sell = c.sell := by rw [g3]; simp [cadd]
    have e4 : x3.pos = pos := by rw [g3]; simp [cadd, n0]
    have iw : ∀ w : Int, 0 ≤ w → w ≤ 9223372036854775807 → inI w := fun w h1 h2 => ⟨by omega, h2⟩
    by_cases hw : worthZ s.orders[k] ≤ 9223372036854775807
    case neg =>
      have hno : ¬ fitC (sumC s.symbols i s.orders) := fun h => by
        have h := hfull h
        rw [hstep] at h
        have := h.2.2
        have e : (wC s.orders[k]).opn = worthZ s.orders[k] := by unfold wC; split <;> rfl
        simp only [cadd, e] at this; omega
      rw [if_neg hw]
      simp only [ob_some]
      rw [e1, r_Add (iw _ n3 f3) (by decide), ob_some, c_ieq]
      split
      · rw [e2, r_Add (iw _ n1 f1) (iw _ hO.1 hO.2), ob_some, cnd_t (by simp only [band_T, band_F, bor_T, bor_F, bnot_T, bnot_F, ilt_T, ilt_F, ile_T, ile_F, ieq_T, ieq_F, beq_T, beq_F]; left; left; decide), w_some]; exact ⟨rfl, rfl, hno⟩
      · rw [e3, r_Add (iw _ n2 f2) (iw _ hO.1 hO.2), ob_some, cnd_t (by simp only [band_T, band_F, bor_T, bor_F, bnot_T, bnot_F, ilt_T, ilt_F, ile_T, ile_F, ieq_T, ieq_F, beq_T, beq_F]; left; left; decide), w_some]; exact ⟨rfl, rfl, hno⟩
    rw [if_pos hw]
    simp only [ob_some]
    have hao := addC_one c hside
    rw [addC_eq] at hao
    rw [e1, r_Add (iw _ n3 f3) (iw _ hW hw), ob_some, c_ieq]
    by_cases hsd : s.orders[k].side = 1
    · rw [if_pos hsd] at hao ⊢
      rw [e2, r_Add (iw _ n1 f1) (iw _ hO.1 hO.2), ob_some]
      rw [hao] at hstep
      by_cases h1 : c.opn + worthZ s.orders[k] ≤ 9223372036854775807
      · by_cases h2 : c.buy + openZ s.orders[k] ≤ 9223372036854775807
        · rw [if_pos (iw _ (by omega) h1), if_pos (iw _ (by omega) h2)]
          simp only [ieq_00, bnot_true, bor_false, cnd_false]
          rw [w_some]
          refine ⟨wr_succ (by omega), rfl, rfl, ?_, ?_⟩
          · rw [hstep]; apply cell_ext <;> simp only [cadd] <;> omega
          · rw [hstep]; exact ⟨h2, f2, h1⟩
        · have hno : ¬ fitC (sumC s.symbols i s.orders) := fun h => by
            have h := (hfull h).1; rw [hstep] at h; exact h2 h
          rw [if_pos (iw _ (by omega) h1), if_neg (fun h => h2 h.2)]
          simp only [ieq_00, bnot_true, bor_false, bnot_false, cnd_true]
          exact (w_some _).2 ⟨rfl, rfl, hno⟩
      · have hno : ¬ fitC (sumC s.symbols i s.orders) := fun h => by
          have h := (hfull h).2.2; rw [hstep] at h; exact h1 h
        rw [if_neg (c := inI (c.opn + worthZ s.orders[k])) (fun h => h1 h.2)]
        simp only [ieq_00, bnot_true, bor_false, bnot_false, bor_true, cnd_true]
        exact (w_some _).2 ⟨rfl, rfl, hno⟩
    · rw [if_neg hsd] at hao ⊢
      rw [e3, r_Add (iw _ n2 f2) (iw _ hO.1 hO.2), ob_some]
      rw [hao] at hstep
      by_cases h1 : c.opn + worthZ s.orders[k] ≤ 9223372036854775807
      · by_cases h2 : c.sell + openZ s.orders[k] ≤ 9223372036854775807
        · rw [if_pos (iw _ (by omega) h1), if_pos (iw _ (by omega) h2)]
          simp only [ieq_00, bnot_true, bor_false, cnd_false]
          rw [w_some]
          refine ⟨wr_succ (by omega), rfl, rfl, ?_, ?_⟩
          · rw [hstep]; apply cell_ext <;> simp only [cadd] <;> omega
          · rw [hstep]; exact ⟨f1, h2, h1⟩
        · have hno : ¬ fitC (sumC s.symbols i s.orders) := fun h => by
            have h := (hfull h).2.1; rw [hstep] at h; exact h2 h
          rw [if_pos (iw _ (by omega) h1), if_neg (fun h => h2 h.2)]
          simp only [ieq_00, bnot_true, bor_false, bnot_false, cnd_true]
          exact (w_some _).2 ⟨rfl, rfl, hno⟩
      · have hno : ¬ fitC (sumC s.symbols i s.orders) := fun h => by
          have h := (hfull h).2.2; rw [hstep] at h; exact h1 h
        rw [if_neg (c := inI (c.opn + worthZ s.orders[k])) (fun h => h1 h.2)]
        simp only [ieq_00, bnot_true, bor_false, bnot_false, bor_true, cnd_true]
        exact (w_some _).2 ⟨rfl, rfl, hno⟩
  · rintro ⟨x1, x2, x3⟩ ⟨g1, g2, g3, g4⟩
    simp only [L_snaffleref10_Cells_14922]
    rw [cnd_f (by rw [ilt_nat]; simp), w_some]
    rw [List.take_length] at g3 g4
    exact ⟨g1, g2, g3, g4⟩
/-- An account's part of a list of cells, as it is cut. -/
theorem cut_ok {n m : Int} (hn : 1 ≤ n ∧ n ≤ 8) (hm : 1 ≤ m ∧ m ≤ 8) {cs : List SCell} (hc : len cs = n * m) {a : Int} (ha : 0 ≤ a) (ha2 : a < n) :
    band (band (ile 0 (wr IntKind.i64 (imul a m))) (ile (wr IntKind.i64 (imul a m)) (wr IntKind.i64 (imul (wr IntKind.i64 (iadd a 1)) m)))) (ile (wr IntKind.i64 (imul (wr IntKind.i64 (iadd a 1)) m)) (len cs)) = true ∧
    ltake (ldrop cs (itn (wr IntKind.i64 (imul a m)))) (itn (isub (wr IntKind.i64 (imul (wr IntKind.i64 (iadd a 1)) m)) (wr IntKind.i64 (imul a m)))) = acctZ m cs a := by
  have q := mul_le64 (a := a) (b := m) (by omega) (by omega) (by omega) (by omega)
  have q2 := mul_le64 (a := a + 1) (b := m) (by omega) (by omega) (by omega) (by omega)
  have l : (a + 1) * m ≤ n * m := Int.mul_le_mul_of_nonneg_right (by omega) (by omega)
  have e : (a + 1) * m = a * m + m := by rw [Int.add_mul, Int.one_mul]
  rw [show imul a m = a * m from rfl, wr_small q.1 (by omega), show iadd a 1 = a + 1 from rfl, wr_small (n := a + 1) (by omega) (by omega),
    show imul (a + 1) m = (a + 1) * m from rfl, wr_small q2.1 (by omega)]
  refine ⟨by simp only [band_T, ile_T]; omega, ?_⟩
  rw [show isub ((a + 1) * m) (a * m) = m from by unfold isub; omega]
  rfl
theorem r_Cells {s : SState} (hs : sizedP s) (hk : ∀ o ∈ s.orders, orderIn s o ∧ Ok_order o) (hcl : okL ok_cell s.cells) :
    Wq (F_snaffleref10_Cells s) fun r => (r.2 = true ↔ fitS (withS s s.orders)) ∧ (r.2 = true → r.1 = mkCells s s.orders) := by
  obtain ⟨hc, _, _, hol⟩ := hs.lens
  have hnn : ∀ i : Nat, nnC (sumC s.symbols i s.orders) := fun i => sumC_nn _ _ fun o h => ⟨(hk o h).1.1, (hk o h).2⟩
  unfold F_snaffleref10_Cells
  refine Wq.bind (Q := fun w : (Bool × List SCell) ⊕ (List SCell × Bool × List SCell) => match w with
      | .inl w => w.1 = false ∧ ¬ ∀ c ∈ mkCells s s.orders, okC c
      | .inr w => w.1 = mkCells s s.orders ∧ ∀ c ∈ mkCells s s.orders, okC c)
    (w_for (n := s.cells.length) (step := fun v : Int × List SCell × Bool × List SCell => L_snaffleref10_Cells_58 s v.fst v.snd.fst v.snd.snd.fst v.snd.snd.snd) (by omega)
      (fun i x => x.1 = (mkCells s s.orders).take i ∧ ∀ c ∈ x.1, okC c) _ ?_ ?_ _ 0 (Nat.zero_le _) ⟨by simp, by simp⟩) ?_
  · rintro i ⟨x1, x2, x3⟩ hi ⟨g1, g2⟩
    simp only at g1 g2
    have him : i < (mkCells s s.orders).length := by rw [mkCells_len]; exact hi
    have hci : Ok_cell s.cells[i] := hcl.1 _ (List.getElem_mem hi)
    simp only [L_snaffleref10_Cells_58]
    rw [cnd_t (by rw [ilt_nat]; simpa using hi), cnd_t (inb _ i hi), lget_nat _ i hi]
    refine Wq.bind (r_cell hk hs (by omega) i s.cells[i].pos x2 x3) fun w hw => ?_
    have hmk := mkCells_get s s.orders i him
    have hokfit : okC (mkCells s s.orders)[i] → fitC (sumC s.symbols i s.orders) := fun h => by
      have := fit_of_ok h
      rw [hmk] at this
      unfold fitC cadd at this
      simpa [fitC] using this
    cases w with
    | inl w =>
      obtain ⟨h1, h2, h3⟩ := hw
      simp only [sumK, w_some]
      exact ⟨h1, fun h => h3 (hokfit (h _ (List.getElem_mem him)))⟩
    | inr w =>
      obtain ⟨h1, h2, h3, h4⟩ := hw
      simp only [sumK]
      have hokc : Ok_cell w.2.2 := by
        rw [h3]
        have n := hnn i
        obtain ⟨n0, n1, n2, n3⟩ := n
        obtain ⟨f1, f2, f3⟩ := h4
        have hp := hci.pos
        refine ⟨?_, ?_, ?_, ?_⟩ <;> simp only [cadd] <;> unfold inI at * <;> omega
      rw [r_cell_Right hokc, ob_some, c_bnot, c_dec, h3, ← hmk]
      by_cases hok : okC (mkCells s s.orders)[i]
      · rw [if_pos hok, cnd_t (ile_t (by rw [g1]; simp [lapp, len]; omega)), w_some]
        refine ⟨wr_succ (by omega), ?_, fun c hc => ?_⟩
        · rw [List.take_succ_eq_append_getElem him, ← g1]; rfl
        · rcases List.mem_append.1 hc with hc | hc
          · exact g2 c hc
          · rw [List.mem_singleton] at hc; subst hc; exact hok
      · rw [if_neg hok, w_some]
        exact ⟨rfl, fun h => hok (h _ (List.getElem_mem him))⟩
  · rintro ⟨x1, x2, x3⟩ ⟨g1, g2⟩
    simp only [L_snaffleref10_Cells_58]
    rw [cnd_f (by rw [ilt_nat]; simp), w_some]
    have e : (mkCells s s.orders).take s.cells.length = mkCells s s.orders := List.take_of_length_le (by rw [mkCells_len]; exact Nat.le_refl _)
    rw [e] at g1
    simp only at g1 g2
    exact ⟨g1, by rw [← g1]; exact g2⟩
  · rintro w hw
    cases w with
    | inl w =>
      obtain ⟨h1, h2⟩ := hw
      simp only [sumK, w_some, h1]
      exact ⟨⟨fun h => (by cases h), fun h => absurd h.1 h2⟩, fun h => (by cases h)⟩
    | inr w =>
      obtain ⟨h1, h2⟩ := hw
      simp only [sumK]
      have hlen : len (mkCells s s.orders) = s.accounts * s.symbols := by simp only [len, mkCells_len]; exact hs.2.2.1
      refine Wq.bind (Q := fun w : (Bool × List SCell) ⊕ (Bool × List SCell) => match w with | .inl w => w.1 = false ∧ ¬ acctOk s.accounts s.symbols (mkCells s s.orders) | .inr _ => acctOk s.accounts s.symbols (mkCells s s.orders))
        (w_for (n := s.accounts.toNat) (step := fun v : Int × Bool × List SCell => L_snaffleref10_Cells_122 w.fst s v.fst v.snd.fst v.snd.snd) (by have := hs.1.2; omega)
        (fun i x => ∀ a : Int, 0 ≤ a → a < i → wholeZ (acctZ s.symbols (mkCells s s.orders) a) ≤ 9223372036854775807) _ ?_ ?_ _ 0 (Nat.zero_le _) (fun a h1 h2 => by omega)) ?_
      · rintro i q hi hx
        have hia : (i : Int) < s.accounts := by omega
        obtain ⟨c1, c2⟩ := cut_ok hs.1 hs.2.1 (cs := mkCells s s.orders) hlen (a := (i : Int)) (by omega) hia
        simp only [L_snaffleref10_Cells_122, h1]
        rw [cnd_t (ilt_t hia), cnd_t c1, c2, r_Whole (by have := acctZ_len (n := s.symbols) (cs := mkCells s s.orders) (a := (i : Int)); rw [mkCells_len] at this; omega) (acct_nn h2 i), ob_some]
        by_cases hw : wholeZ (acctZ s.symbols (mkCells s s.orders) i) ≤ 9223372036854775807
        · rw [if_pos hw]
          simp only [bnot_true, cnd_false, w_some]
          refine ⟨wr_succ (by have := hs.1.2; omega), fun a h1 h2 => ?_⟩
          by_cases e : a = i
          · subst e; exact hw
          · exact hx a h1 (by omega)
        · rw [if_neg hw]
          simp only [bnot_false, cnd_true, w_some]
          exact ⟨trivial, fun h => hw (h i (by omega) hia)⟩
      · rintro q hx
        simp only [L_snaffleref10_Cells_122]
        rw [cnd_f (ilt_f (by omega)), w_some]
        exact fun a h1 h2 => hx a h1 (by omega)
      · rintro v hv
        cases v with
        | inl v =>
          obtain ⟨g1, g2⟩ := hv
          simp only [sumK, w_some, g1]
          exact ⟨⟨fun h => (by cases h), fun h => absurd h.2 g2⟩, fun h => (by cases h)⟩
        | inr v =>
          simp only [sumK, w_some]
          exact ⟨⟨fun _ => ⟨h2, hv⟩, fun _ => trivial⟩, fun _ => h1⟩
theorem ascP_iff (l : List SOrder) : ascP l ↔ ∀ i : Nat, (h : i + 1 < l.length) → l[i].id < l[i + 1].id := by
  constructor
  · exact fun h i hi => List.pairwise_iff_getElem.1 h i (i + 1) (by omega) hi (by omega)
  · intro h
    refine List.pairwise_iff_getElem.2 fun i j hi hj hij => ?_
    have key : ∀ d : Nat, (hd : i + d + 1 < l.length) → l[i].id < l[i + d + 1].id := fun d => by
      induction d with
      | zero => exact fun hd => h i hd
      | succ d ih => exact fun hd => Int.lt_trans (ih (by omega)) (h (i + d + 1) (by omega))
    have e : j = i + (j - i - 1) + 1 := by omega
    have := key (j - i - 1) (by omega)
    simp only [← e] at this
    exact this
theorem r_Right {s : SState} (hr : Ok_state s) (hsh : shortP s) : Wq (F_snaffleref10_Right s) fun b => b = true ↔ RightS s := by
  obtain ⟨l1, l2, l3, l4⟩ := hsh
  unfold F_snaffleref10_Right
  rw [w_cnd]
  refine ⟨fun h => (w_some _).2 ⟨fun h => (by cases h), fun hR => ?_⟩, fun h => ?_⟩
  · obtain ⟨a1, a2, a3, a4, a5, a6⟩ := hR.sized
    have m := mul_le64 (a := s.accounts) (b := s.symbols) (by omega) (by omega) (by omega) (by omega)
    simp only [band_T, band_F, bor_T, bor_F, bnot_T, bnot_F, ilt_T, ilt_F, ile_T, ile_F, ieq_T, ieq_F, beq_T, beq_F, show imul s.accounts s.symbols = s.accounts * s.symbols from rfl, wr_small m.1 (show s.accounts * s.symbols < 1000000000000 by omega), len] at h
    simp only [len] at a3 a4 a5
    omega
  have hs : sizedP s := by
    simp only [band_T, band_F, bor_T, bor_F, bnot_T, bnot_F, ilt_T, ilt_F, ile_T, ile_F, ieq_T, ieq_F, beq_T, beq_F, len] at h
    have m := mul_le64 (a := s.accounts) (b := s.symbols) (by omega) (by omega) (by omega) (by omega)
    rw [show imul s.accounts s.symbols = s.accounts * s.symbols from rfl, wr_small m.1 (by omega)] at h
    unfold sizedP
    simp only [len]
    omega
  rw [w_cnd]
  refine ⟨fun h => (w_some _).2 ⟨fun h => (by cases h), fun hR => ?_⟩, fun h => ?_⟩
  · have b1 := hR.fine.last; have b2 := hR.fine.seq; have b3 := hR.fine.lsn
    simp only [band_T, band_F, bor_T, bor_F, bnot_T, bnot_F, ilt_T, ilt_F, ile_T, ile_F, ieq_T, ieq_F, beq_T, beq_F] at h
    omega
  simp only [band_T, band_F, bor_T, bor_F, bnot_T, bnot_F, ilt_T, ilt_F, ile_T, ile_F, ieq_T, ieq_F, beq_T, beq_F] at h
  refine Wq.bind (Q := fun w : Bool ⊕ Bool => match w with
      | .inl b => b = false ∧ ¬ ((∀ o ∈ s.orders, orderIn s o ∧ o.id ≤ s.last) ∧ ascP s.orders)
      | .inr _ => (∀ o ∈ s.orders, orderIn s o ∧ o.id ≤ s.last) ∧ ascP s.orders)
    (w_for (n := s.orders.length) (step := fun v : Int × Bool => L_snaffleref10_Right_122 s v.fst v.snd) l1
      (fun i _ => (∀ o ∈ s.orders.take i, orderIn s o ∧ o.id ≤ s.last) ∧ ∀ k : Nat, (h : k + 1 < s.orders.length) → k + 1 < i → s.orders[k].id < s.orders[k + 1].id) _ ?_ ?_ _ 0 (Nat.zero_le _) (by simp)) ?_
  · rintro i q hi ⟨g1, g2⟩
    simp only [L_snaffleref10_Right_122]
    rw [cnd_t (by rw [ilt_nat]; simpa using hi), cnd_t (inb _ i hi), lget_nat _ i hi, r_order_Right, ob_some]
    have hbad : ∀ b : Bool, (b = true ↔ ¬ (orderIn s s.orders[i] ∧ s.orders[i].id ≤ s.last)) → b = bor (bor (bor (bor (bnot (decide (ordP s.orders[i]))) (ieq s.orders[i].phase 3)) (ile s.accounts s.orders[i].account)) (ile s.symbols s.orders[i].symbol)) (ilt s.last s.orders[i].id) := fun b hb => by
      rw [Bool.eq_iff_iff, hb]
      unfold orderIn
      simp only [band_T, band_F, bor_T, bor_F, bnot_T, bnot_F, ilt_T, ilt_F, ile_T, ile_F, ieq_T, ieq_F, beq_T, beq_F, decide_eq_false_iff_not]
      constructor
      · intro h
        by_cases a : ordP s.orders[i]
        · by_cases b : s.orders[i].phase = 3
          · exact .inl (.inl (.inl (.inr b)))
          · by_cases c : s.accounts ≤ s.orders[i].account
            · exact .inl (.inl (.inr c))
            · by_cases d : s.symbols ≤ s.orders[i].symbol
              · exact .inl (.inr d)
              · exact .inr (by by_cases e : s.orders[i].id ≤ s.last; exact absurd ⟨⟨a, b, by omega, by omega⟩, e⟩ h; omega)
        · exact .inl (.inl (.inl (.inl a)))
      · rintro ((((a | a) | a) | a) | a) ⟨⟨b1, b2, b3, b4⟩, b5⟩
        · exact a b1
        · exact b2 a
        · omega
        · omega
        · omega
    by_cases hok : orderIn s s.orders[i] ∧ s.orders[i].id ≤ s.last
    · rw [← hbad false (by simp [hok])]
      simp only [bnot_false, band_true, bor_false]
      by_cases h0 : i = 0
      · subst h0
        rw [cnd_t (by simp only [band_T, band_F, bor_T, bor_F, bnot_T, bnot_F, ilt_T, ilt_F, ile_T, ile_F, ieq_T, ieq_F, beq_T, beq_F]; right; decide), cnd_f (by simp only [band_T, band_F, bor_T, bor_F, bnot_T, bnot_F, ilt_T, ilt_F, ile_T, ile_F, ieq_T, ieq_F, beq_T, beq_F]; left; decide), w_some]
        refine ⟨wr_succ (by omega), fun o ho => ?_, fun k hk1 hk2 => by omega⟩
        rcases (mem_take_succ hi).1 ho with ho | rfl
        · exact g1 o ho
        · exact hok
      · have hw : wr IntKind.i64 (isub (i : Int) 1) = ((i - 1 : Nat) : Int) := by unfold isub; rw [wr_small (by omega) (by omega)]; omega
        have hi1 : i - 1 < s.orders.length := by omega
        rw [hw, cnd_t (by rw [bor_T]; exact .inl (inb _ _ hi1)), lget_nat _ _ hi1, ilt_t (show (0 : Int) < (i : Int) by omega), band_true, c_ile]
        have hii : s.orders[i - 1 + 1]'(by omega) = s.orders[i] := by congr 1; omega
        by_cases hle : s.orders[i].id ≤ s.orders[i - 1].id
        · rw [if_pos hle, w_some]
          refine ⟨rfl, fun ⟨_, h2⟩ => ?_⟩
          have := (ascP_iff _).1 h2 (i - 1) (by omega)
          rw [hii] at this; omega
        · rw [if_neg hle, w_some]
          refine ⟨wr_succ (by omega), fun o ho => ?_, fun k hk1 hk2 => ?_⟩
          · rcases (mem_take_succ hi).1 ho with ho | rfl
            · exact g1 o ho
            · exact hok
          · by_cases e : k + 1 = i
            · have e2 : k = i - 1 := by omega
              subst e2
              rw [hii]; omega
            · exact g2 k hk1 (by omega)
    · rw [← hbad true (by simp [hok])]
      simp only [bnot_true, band_false, bnot_false, bor_true, bor_true', cnd_true]
      rw [w_some]
      exact ⟨rfl, fun h2 => hok (h2.1 _ (List.getElem_mem _))⟩
  · rintro q ⟨g1, g2⟩
    simp only [L_snaffleref10_Right_122]
    rw [cnd_f (by rw [ilt_nat]; simp), w_some]
    rw [List.take_length] at g1
    exact ⟨g1, (ascP_iff _).2 fun k hk => g2 k hk hk⟩
  rintro w hw
  cases w with
  | inl b =>
    obtain ⟨rfl, hn⟩ := hw
    simp only [sumK, w_some]
    exact ⟨fun h => (by cases h), fun hR => absurd ⟨fun o ho => ⟨hR.fine.ords o ho, hR.fine.ids o ho⟩, hR.fine.asc⟩ hn⟩
  | inr b =>
  obtain ⟨ho, has⟩ := hw
  simp only [sumK]
  refine Wq.bind (Q := fun w : Bool ⊕ Bool => match w with | .inl b => b = false ∧ ¬ ∀ x ∈ s.limits, limP x | .inr _ => ∀ x ∈ s.limits, limP x)
    (w_for (n := s.limits.length) (step := fun v : Int × Bool => L_snaffleref10_Right_250 s v.fst v.snd) l3 (fun i _ => ∀ x ∈ s.limits.take i, limP x) _ ?_ ?_ _ 0 (Nat.zero_le _) (by simp)) ?_
  · rintro i q hi hx
    simp only [L_snaffleref10_Right_250]
    rw [cnd_t (by rw [ilt_nat]; simpa using hi), cnd_t (inb _ i hi), lget_nat _ i hi, r_limit_Right, ob_some, c_bnot, c_dec]
    split
    · rename_i h5
      rw [w_some]
      refine ⟨wr_succ (by omega), fun x hx' => ?_⟩
      rcases (mem_take_succ hi).1 hx' with h6 | rfl
      · exact hx x h6
      · exact h5
    · rename_i h5
      rw [w_some]
      exact ⟨rfl, fun h2 => h5 (h2 _ (List.getElem_mem _))⟩
  · rintro x hx
    simp only [L_snaffleref10_Right_250]
    rw [cnd_f (by rw [ilt_nat]; simp), w_some]
    rwa [List.take_length] at hx
  rintro w hw
  cases w with
  | inl b =>
    obtain ⟨rfl, hn⟩ := hw
    simp only [sumK, w_some]
    exact ⟨fun h => (by cases h), fun hR => absurd hR.fine.lims hn⟩
  | inr b =>
  simp only [sumK]
  refine Wq.bind (Q := fun w : Bool ⊕ Bool => match w with | .inl b => b = false ∧ ¬ ∀ x ∈ s.caps, 0 ≤ x | .inr _ => ∀ x ∈ s.caps, 0 ≤ x)
    (w_for (n := s.caps.length) (step := fun v : Int × Bool => L_snaffleref10_Right_506 s v.fst v.snd) l4 (fun i _ => ∀ x ∈ s.caps.take i, 0 ≤ x) _ ?_ ?_ _ 0 (Nat.zero_le _) (by simp)) ?_
  · rintro i q hi hx
    simp only [L_snaffleref10_Right_506]
    rw [cnd_t (by rw [ilt_nat]; simpa using hi), cnd_t (inb _ i hi), lget_nat _ i hi, c_ilt]
    split
    · rename_i h5
      rw [w_some]
      exact ⟨rfl, fun h2 => by have := h2 _ (List.getElem_mem hi); omega⟩
    · rename_i h5
      rw [w_some]
      refine ⟨wr_succ (by omega), fun x hx' => ?_⟩
      rcases (mem_take_succ hi).1 hx' with h6 | rfl
      · exact hx x h6
      · omega
  · rintro x hx
    simp only [L_snaffleref10_Right_506]
    rw [cnd_f (by rw [ilt_nat]; simp), w_some]
    rwa [List.take_length] at hx
  rintro v hv
  cases v with
  | inl b =>
    obtain ⟨rfl, hn⟩ := hv
    simp only [sumK, w_some]
    exact ⟨fun h => (by cases h), fun hR => absurd hR.fine.caps hn⟩
  | inr b =>
  simp only [sumK]
  have hfine : FineP s := ⟨fun o h => (ho o h).1, has, fun o h => (ho o h).2, by omega, by omega, by omega, hw, hv⟩
  have hall : ∀ o ∈ s.orders, orderIn s o ∧ Ok_order o := fun o h => ⟨(ho o h).1, hr.orders.1 o h⟩
  refine Wq.bind (r_Cells hs hall hr.cells) fun y hy => ?_
  rw [w_cnd]
  refine ⟨fun h => (w_some _).2 ⟨fun h => (by cases h), fun hR => ?_⟩, fun h => ?_⟩
  · rw [bnot_T] at h
    have : y.2 = true := hy.1.2 ⟨by show ∀ c ∈ mkCells s s.orders, okC c; rw [← hR.cells]; exact hR.ok, by show acctOk s.accounts s.symbols (mkCells s s.orders); rw [← hR.cells]; exact hR.acct⟩
    rw [this] at h; cases h
  rw [bnot_F] at h
  have hfit := hy.1.1 h
  have hc := hy.2 h
  rw [hc]
  refine Wq.bind (w_same (l := mkCells s s.orders) (m := s.cells) (mkCells_len _ _) (by rw [mkCells_len]; exact l2) (step := fun v : Int × Bool => L_snaffleref10_Right_4090 (mkCells s s.orders) s v.fst v.snd) (fun i h hh q => ?_) (fun q => ?_) _) fun w hw => ?_
  · simp only [L_snaffleref10_Right_4090]
    rw [cnd_t (by rw [ilt_nat]; simpa using h), cnd_t (inb _ i h), cnd_t (inb _ i hh), lget_nat _ i h, lget_nat _ i hh, w_cnd, w_some, w_some, bnot_T, bnot_F, wr_succ (by omega)]
    have := cell_ext' (mkCells s s.orders)[i] s.cells[i]
    simp only [band_T, band_F, bor_T, bor_F, bnot_T, bnot_F, ilt_T, ilt_F, ile_T, ile_F, ieq_T, ieq_F, beq_T, beq_F] at *
    exact ⟨fun h => ⟨fun e => (by have := this.2 e; grind), fun _ => trivial⟩, fun h => ⟨fun _ => trivial, fun e => absurd (this.1 h) e⟩⟩
  · simp only [L_snaffleref10_Right_4090]
    rw [cnd_f (by rw [show (((mkCells s s.orders).length : Nat) : Int) = len (mkCells s s.orders) from rfl]; simp [ilt])]
  cases w with
  | inl w =>
    obtain ⟨rfl, h⟩ := hw
    simp only [sumK, w_some]
    exact ⟨fun h => (by cases h), fun hR => absurd hR.cells.symm h⟩
  | inr w =>
    simp only [sumK, w_some]
    have e : s.cells = mkCells s s.orders := Eq.symm hw
    exact ⟨fun _ => ⟨hs, hfine, e, by rw [e]; exact hfit.1, by rw [e]; exact hfit.2⟩, fun _ => trivial⟩
def zS : SState := ⟨0, 0, [], [], [], [], false, 0, 0, 0⟩
/-- A New that asks for the next order. -/
def newR (s : SState) (a y d q p : Int) : SRec := ⟨1, s.last + 1, a, y, d, q, p, 0, 0, 0, false, 0, 0⟩
def mostQ (s : SState) (a y d p n : Int) : Prop := 0 ≤ n ∧ n ≤ 9223372036854775807 ∧ ∀ q, 1 ≤ q → q ≤ 9223372036854775807 → ((doS s (newR s a y d q p)).2 = 0 ↔ q ≤ n)
theorem mostQ.uniq {s : SState} {a y d p n m : Int} (h : mostQ s a y d p n) (h2 : mostQ s a y d p m) : n = m := by
  obtain ⟨a1, a2, a3⟩ := h
  obtain ⟨b1, b2, b3⟩ := h2
  rcases Int.lt_trichotomy n m with h | h | h
  · have := a3 m (by omega) b2; have := b3 m (by omega) b2; omega
  · exact h
  · have := a3 n (by omega) a2; have := b3 n (by omega) a2; omega
def repR (id q p : Int) : SRec := ⟨2, id, 0, 0, 0, q, p, 0, 0, 0, false, 0, 0⟩
def mostOfQ (s : SState) (id p n : Int) : Prop := 0 ≤ n ∧ n ≤ 9223372036854775807 ∧ ∀ q, 1 ≤ q → q ≤ 9223372036854775807 → ((doS s (repR id q p)).2 = 0 ↔ q ≤ n)
theorem mostOfQ.uniq {s : SState} {id p n m : Int} (h : mostOfQ s id p n) (h2 : mostOfQ s id p m) : n = m := by
  obtain ⟨a1, a2, a3⟩ := h
  obtain ⟨b1, b2, b3⟩ := h2
  rcases Int.lt_trichotomy n m with h | h | h
  · have := a3 m (by omega) b2; have := b3 m (by omega) b2; omega
  · exact h
  · have := a3 n (by omega) a2; have := b3 n (by omega) a2; omega
theorem rd_in {α β : Type} (l : List α) {i : Nat} (h : i < l.length) (x y z : β) : cnd (ilt (i : Int) (len l)) (cnd (band (ile 0 (i : Int)) (ilt (i : Int) (len l))) x y) z = x := by
  rw [cnd_t (b := ilt _ _) (ilt_t (by unfold len; omega)), cnd_t (inb l i h)]
theorem rd_out {α β : Type} (l : List α) (x y : β) : cnd (ilt (l.length : Int) (len l)) x y = y := cnd_f (ilt_f (by unfold len; omega))
def putZ (n : Int) : Nat → List Int
  | 0 => []
  | k + 1 => (n / 256 ^ k % 256) :: putZ n k
theorem putZ_len (n : Int) : ∀ k, (putZ n k).length = k
  | 0 => rfl
  | k + 1 => by rw [putZ, List.length_cons, putZ_len n k]
def byteP (l : List Int) : Prop := ∀ x ∈ l, 0 ≤ x ∧ x ≤ 255
theorem putZ_byte (n : Int) : ∀ k, byteP (putZ n k)
  | 0 => by intro x hx; cases hx
  | k + 1 => by
    intro x hx
    rcases List.mem_cons.1 hx with rfl | hx
    · have h1 := Int.emod_nonneg (n / 256 ^ k) (b := 256) (by decide)
      have h2 := Int.emod_lt_of_pos (n / 256 ^ k) (b := 256) (by decide)
      omega
    · exact putZ_byte n k x hx
theorem byteP.app {a b : List Int} (h : byteP a) (k : byteP b) : byteP (a ++ b) := fun x hx => by
  rcases List.mem_append.1 hx with h1 | h1
  · exact h x h1
  · exact k x h1
theorem byteP.drop {l : List Int} (h : byteP l) (n : Nat) : byteP (l.drop n) := fun x hx => h x (List.mem_of_mem_drop hx)
theorem byteP.take {l : List Int} (h : byteP l) (n : Nat) : byteP (l.take n) := fun x hx => h x (List.mem_of_mem_take hx)
theorem byteP.get {l : List Int} (h : byteP l) {i : Nat} (hi : i < l.length) : 0 ≤ l[i] ∧ l[i] ≤ 255 := h _ (List.getElem_mem hi)
theorem byteP_flat {α : Type} {f : α → List Int} {l : List α} (h : ∀ x ∈ l, byteP (f x)) : byteP (l.flatMap f) := fun x hx => by
  obtain ⟨y, h1, h2⟩ := List.mem_flatMap.1 hx
  exact h y h1 x h2
theorem wr_u8 (n : Int) : wr .u8 n = n % 256 := by
  unfold wr IntKind.wrap
  simp [IntKind.bits, IntKind.signed]
theorem wr_u32 (n : Int) : wr .u32 n = n % 4294967296 := by
  unfold wr IntKind.wrap
  simp [IntKind.bits, IntKind.signed]
/-- A loop downwards. -/
theorem w_down {W X : Type} {step : Int × X → Option ((Int × X) ⊕ W)} {n : Nat} (hn : n < 999999) (J : Nat → X → Prop) (R : W → Prop)
    (h : ∀ i x, i < n → J (i + 1) x → Wq (step ((i : Int), x)) fun r => match r with | .inl (k, x') => k = (i : Int) - 1 ∧ J i x' | .inr w => R w)
    (he : ∀ x, J 0 x → Wq (step (-1, x)) fun r => match r with | .inl _ => False | .inr w => R w)
    (x : X) (hx : J n x) : Wq (iterN step LF ((n : Int) - 1, x)) R := by
  refine w_iter (fun v : Int × X => (v.1 + 1).toNat) (fun v : Int × X => ∃ i : Nat, v.1 = (i : Int) - 1 ∧ i ≤ n ∧ J i v.2) R ?_ LF _ (lt_LF (by simp only; omega)) ⟨n, rfl, Nat.le_refl _, hx⟩
  rintro ⟨k, y⟩ ⟨i, rfl, hi, hj⟩
  cases i with
  | zero =>
    refine (he y hj).mono fun r hr => ?_
    match r, hr with
    | .inl _, hr => exact hr.elim
    | .inr w, hr => exact hr
  | succ i =>
    have e : ((i + 1 : Nat) : Int) - 1 = (i : Int) := by omega
    rw [e]
    refine (h i y (by omega) hj).mono fun r hr => ?_
    match r, hr with
    | .inl (k, x'), hr =>
      obtain ⟨rfl, h2⟩ := hr
      exact ⟨⟨i, rfl, by omega, h2⟩, by simp only; omega⟩
    | .inr w, hr => exact hr
theorem wr_pred {i : Nat} (h : i < 1000000) : wr .i64 (isub (i : Int) 1) = (i : Int) - 1 := by
  unfold isub
  exact wr_in ⟨by omega, by omega⟩
theorem byte_of {n : Int} {i : Nat} (hi : i < 8) : ile 0 (wr .i64 (imul 8 (i : Int))) = true ∧ wr .u8 (ishr .i64 n (wr .i64 (imul 8 (i : Int)))) = n / 256 ^ i % 256 := by
  have h1 : wr .i64 (imul 8 (i : Int)) = ((8 * i : Nat) : Int) := by
    unfold imul
    rw [wr_small (by omega) (by omega)]; omega
  have h2 : min (((8 * i : Nat) : Int).toNat) (IntKind.bits .i64) = 8 * i := by
    simp only [IntKind.bits, Int.toNat_natCast]; omega
  rw [h1]
  refine ⟨ile_t (by omega), ?_⟩
  unfold ishr
  rw [h2, Int.pow_mul, wr_u8, Int.fdiv_eq_ediv_of_nonneg _ (Int.le_of_lt (Int.pow_pos (by decide)))]
  rfl
theorem len_lt {α : Type} {l : List α} {n : Nat} (h : l.length ≤ n) (hn : n < 68719476736) : ile (len l) 68719476736 = true := ile_t (by unfold len; omega)
theorem putZ_app_len (n : Int) (k : Nat) (a : List Int) : (a ++ putZ n k).length = a.length + k := by rw [List.length_append, putZ_len]
theorem s_put {n : Int} {acc : List Int} (k : Nat) (hk : k ≤ 8) (hl : acc.length < 1000000) : iterN (fun v : Int × List Int => L_row_put_int_6758 n v.1 v.2) LF ((k : Int) - 1, acc) = some (acc ++ putZ n k) := by
  refine Wq.eq (w_down (n := k) (by omega) (fun i x => x ++ putZ n i = acc ++ putZ n k ∧ x.length + i = acc.length + k) _ (fun i x hi hj => ?_) (fun x hj => ?_) acc ⟨rfl, rfl⟩)
  · obtain ⟨h1, h2⟩ := byte_of (n := n) (i := i) (by omega)
    simp only
    unfold L_row_put_int_6758
    rw [h2, cnd_t (ile_t (by omega)), cnd_t h1, cnd_t (len_lt (n := 1000100) (by simp only [lapp, List.length_append, List.length_cons, List.length_nil]; omega) (by decide)), w_some]
    refine ⟨wr_pred (by omega), ?_, ?_⟩
    · rw [← hj.1]
      show (x ++ [_]) ++ putZ n i = x ++ (_ :: putZ n i)
      rw [List.append_assoc]; rfl
    · simp only [lapp, List.length_append, List.length_cons, List.length_nil]; omega
  · simp only
    unfold L_row_put_int_6758
    rw [cnd_f (ile_f (by omega)), w_some]
    have := hj.1
    simpa [putZ] using this
theorem e_put_int {acc : List Int} (k : Nat) (h0 : 0 < k) (hk : k ≤ 8) {l : List Int} (hl : acc.length + 8 * l.length < 1000000) : F_row_put_int acc (k : Int) l = some (acc ++ l.flatMap fun n => putZ n k) := by
  have hn : l.length < 999999 := by omega
  refine Wq.eq ?_
  unfold F_row_put_int
  refine Wq.bind (Q := fun y => y = acc ++ l.flatMap fun n => putZ n k) ?_ fun y hy => (w_some _).2 hy
  refine w_for hn (fun i x => x = acc ++ (l.take i).flatMap (fun n => putZ n k) ∧ x.length = acc.length + k * i) _ (fun i x hi hj => ?_) (fun x hj => ?_) acc 0 (Nat.zero_le _) ⟨by simp, by simp⟩
  · simp only
    unfold L_row_put_int_26
    have hki : k * i ≤ 8 * i := Nat.mul_le_mul_right _ hk
    rw [rd_in l hi, lget_nat l i hi]
    have e : wr .i64 (isub (k : Int) 1) = (k : Int) - 1 := wr_pred (by omega)
    rw [e, s_put k hk (by omega), ob_some, w_some]
    refine ⟨wr_succ (by omega), ?_, ?_⟩
    · rw [List.take_succ_eq_append_getElem hi, List.flatMap_append, hj.1]
      simp
    · rw [putZ_app_len, hj.2, Nat.mul_add]; omega
  · simp only
    unfold L_row_put_int_26
    rw [rd_out, w_some, hj.1, List.take_length]
theorem e_put_int64 {acc : List Int} (k : Nat) (h0 : 0 < k) (hk : k ≤ 8) {l : List Int} (hl : acc.length + 8 * l.length < 1000000) : F_row_put_int64 acc (k : Int) l = some (acc ++ l.flatMap fun n => putZ n k) := e_put_int k h0 hk hl
def unZ (l : List Int) : Int := l.foldl (fun n b => n * 256 + b) 0
theorem unZ_snoc (l : List Int) (b : Int) : unZ (l ++ [b]) = unZ l * 256 + b := by unfold unZ; rw [List.foldl_append]; rfl
theorem wr_mul (n c : Int) : wr .i64 (wr .i64 n * 256 + c) = wr .i64 (n * 256 + c) := by
  unfold wr IntKind.wrap
  simp [IntKind.bits, IntKind.signed]
  omega
theorem wr_i64_u (n : Int) : wr .i64 (n % 18446744073709551616) = wr .i64 n := by
  unfold wr IntKind.wrap
  simp [IntKind.bits, IntKind.signed]
theorem or_byte (a c : Int) (h1 : 0 ≤ c) (h2 : c ≤ 255) : wr .i64 (ior .i64 (wr .i64 (ishl .i64 a 8)) (wr .i64 c)) = wr .i64 (a * 256 + c) := by
  have e1 : ishl .i64 a 8 = a * 256 := rfl
  have e2 : wr .i64 c = c := wr_small h1 (by omega)
  rw [e1, e2, ← wr_i64_u (a * 256 + c)]
  congr 1
  unfold ior
  rw [BitVec.toNat_or, BitVec.toNat_ofInt, BitVec.toNat_ofInt]
  have e3 : ((2 ^ IntKind.bits .i64 : Nat) : Int) = 18446744073709551616 := by decide
  rw [e3]
  have e4 : wr .i64 (a * 256) % 18446744073709551616 = ((a % 72057594037927936).toNat * 256 : Nat) := by
    have : wr .i64 (a * 256) % 18446744073709551616 = a * 256 % 18446744073709551616 := by
      unfold wr IntKind.wrap
      simp [IntKind.bits, IntKind.signed]
      omega
    rw [this]; omega
  have e5 : c % 18446744073709551616 = (c.toNat : Int) := by omega
  rw [e4, e5, Int.toNat_natCast, Int.toNat_natCast]
  have e6 := Nat.shiftLeft_add_eq_or_of_lt (i := 8) (b := c.toNat) (by omega) (a % 72057594037927936).toNat
  rw [Nat.shiftLeft_eq] at e6
  rw [show (a % 72057594037927936).toNat * 256 = (a % 72057594037927936).toNat * 2 ^ 8 from rfl, ← e6]
  omega
theorem e_num {r : SReader} {k : Nat} (hk : k ≤ r.rest.length) (hn : k < 999999) (hb : byteP r.rest) : F_row_reader_num r (k : Int) = some (⟨r.rest.drop k, r.odd⟩, wr .i64 (unZ (r.rest.take k))) := by
  refine Wq.eq ?_
  unfold F_row_reader_num
  have h1 : band (ile 0 (k : Int)) (ile (k : Int) (len r.rest)) = true := band_t (ile_t (by omega)) (ile_t (by unfold len; omega))
  have e : ltake r.rest (itn (k : Int)) = r.rest.take k := by simp [ltake, itn]
  rw [h1, cnd_true, e]
  have hlen : (r.rest.take k).length = k := by rw [List.length_take]; omega
  refine Wq.bind (Q := fun y => y = wr .i64 (unZ (r.rest.take k))) ?_ fun y hy => ?_
  · have hn' : (r.rest.take k).length < 999999 := by omega
    refine w_for hn' (fun i x => x = wr .i64 (unZ ((r.rest.take k).take i))) _ (fun i x hi hj => ?_) (fun x hj => ?_) 0 0 (Nat.zero_le _) (by simp [unZ]; rfl)
    · simp only
      unfold L_row_reader_num_58
      obtain ⟨b1, b2⟩ := (hb.take k).get hi
      rw [rd_in _ hi, lget_nat _ i hi, w_some, or_byte _ _ b1 b2, hj, wr_mul]
      refine ⟨wr_succ (by omega), ?_⟩
      rw [List.take_succ_eq_append_getElem hi, unZ_snoc]
    · simp only
      unfold L_row_reader_num_58
      rw [rd_out, w_some, hj, List.take_length]
  · subst hy
    rw [cnd_true, w_some]
    simp [ldrop, itn]
theorem unZ_foldl (l : List Int) (a : Int) : l.foldl (fun n b => n * 256 + b) a = a * 256 ^ l.length + unZ l := by
  induction l generalizing a with
  | nil => simp [unZ]
  | cons b l ih =>
    unfold unZ
    rw [List.foldl_cons, List.foldl_cons, ih, ih (0 * 256 + b), List.length_cons, Int.pow_succ]
    simp only [Int.zero_mul, Int.zero_add, Int.add_mul]
    rw [Int.mul_assoc, Int.mul_comm 256]; omega
theorem unZ_cons (b : Int) (l : List Int) : unZ (b :: l) = b * 256 ^ l.length + unZ l := by
  have := unZ_foldl l (0 * 256 + b)
  unfold unZ at *
  rw [List.foldl_cons, this]; simp
theorem unZ_rng : ∀ {l : List Int}, byteP l → 0 ≤ unZ l ∧ unZ l < 256 ^ l.length
  | [], _ => by simp [unZ]
  | b :: l, h => by
    obtain ⟨h1, h2⟩ := unZ_rng (l := l) fun x hx => h x (by simp [hx])
    obtain ⟨b1, b2⟩ := h b (by simp)
    rw [unZ_cons, List.length_cons, Int.pow_succ]
    have hp : (0 : Int) < 256 ^ l.length := Int.pow_pos (by decide)
    have q1 : 0 ≤ b * 256 ^ l.length := Int.mul_nonneg b1 (by omega)
    have q2 : b * 256 ^ l.length ≤ 255 * 256 ^ l.length := Int.mul_le_mul_of_nonneg_right b2 (by omega)
    exact ⟨by omega, by omega⟩
theorem putZ_add {m : Int} : ∀ (k : Nat) (n q : Int), m = n + q * 256 ^ k → putZ m k = putZ n k
  | 0, _, _, _ => rfl
  | k + 1, n, q, h => by
    rw [Int.pow_succ] at h
    have hp : (256 : Int) ^ k ≠ 0 := by have : (0 : Int) < 256 ^ k := Int.pow_pos (by decide); omega
    have e : m = n + q * 256 * 256 ^ k := by
      rw [h, ← Int.mul_assoc, Int.mul_assoc q, Int.mul_comm _ 256, ← Int.mul_assoc]
    rw [putZ, putZ, putZ_add k n (q * 256) e, e, Int.add_mul_ediv_right _ _ hp, Int.mul_comm q 256, Int.add_mul_emod_self_left]
theorem put_unZ : ∀ {l : List Int}, byteP l → putZ (unZ l) l.length = l
  | [], _ => rfl
  | b :: l, h => by
    have hl : byteP l := fun x hx => h x (by simp [hx])
    obtain ⟨h1, h2⟩ := unZ_rng hl
    obtain ⟨b1, b2⟩ := h b (by simp)
    have hp : (256 : Int) ^ l.length ≠ 0 := by have : (0 : Int) < 256 ^ l.length := Int.pow_pos (by decide); omega
    rw [List.length_cons, putZ, putZ_add l.length (unZ l) b (by rw [unZ_cons, Int.add_comm]), put_unZ hl, unZ_cons, Int.add_comm, Int.add_mul_ediv_right _ _ hp, Int.ediv_eq_zero_of_lt h1 h2]
    congr 1
    omega
theorem wr_add (n : Int) : ∃ q, wr .i64 n = n + q * 256 ^ 8 := by
  have : (256 : Int) ^ 8 = 18446744073709551616 := by decide
  rw [this]
  unfold wr IntKind.wrap
  simp [IntKind.bits, IntKind.signed]
  exact ⟨-((n + 9223372036854775808) / 18446744073709551616), by omega⟩
theorem put_wr (n : Int) : putZ (wr .i64 n) 8 = putZ n 8 := by
  obtain ⟨q, h⟩ := wr_add n
  exact putZ_add 8 n q h
theorem there8 {l : List Int} (h : byteP l) (hl : l.length = 8) : putZ (wr .i64 (unZ l)) 8 = l := by
  rw [put_wr, ← hl, put_unZ h]
abbrev B32 := BitVec 32
def hB (x : B32) : B32 := (x >>> 1) ^^^ (if x.getLsbD 0 then 0xedb88320#32 else 0#32)
def hN : Nat → B32 → B32
  | 0, x => x
  | n + 1, x => hN n (hB x)
theorem hB_xor (x y : B32) : hB (x ^^^ y) = hB x ^^^ hB y := by
  unfold hB
  rw [BitVec.ushiftRight_xor_distrib, BitVec.getLsbD_xor]
  cases x.getLsbD 0 <;> cases y.getLsbD 0 <;> simp [BitVec.xor_assoc]
  · rw [BitVec.xor_comm (y >>> 1)]
  · rw [← BitVec.xor_assoc (3988292384#32), BitVec.xor_comm (3988292384#32) (y >>> 1), BitVec.xor_assoc]; simp
theorem hN_xor : ∀ (n : Nat) (x y : B32), hN n (x ^^^ y) = hN n x ^^^ hN n y
  | 0, _, _ => rfl
  | n + 1, x, y => by rw [hN, hN, hN, hB_xor, hN_xor n]
theorem hB_shl {y : B32} (h : y.getLsbD 31 = false) : hB (y <<< 1) = y := by
  unfold hB
  have h0 : (y <<< 1).getLsbD 0 = false := by simp
  rw [h0]
  refine BitVec.eq_of_getLsbD_eq fun i hi => ?_
  simp only [BitVec.getLsbD_xor, BitVec.getLsbD_ushiftRight, BitVec.getLsbD_shiftLeft]
  by_cases h31 : i = 31
  · subst h31
    have : y[31] = false := by simpa using h
    simp [this]
  · have : 1 + i < 32 := by omega
    simp [this]
theorem hN_shl : ∀ (k : Nat) (y : B32), k ≤ 32 → (∀ j, 32 - k ≤ j → y.getLsbD j = false) → hN k (y <<< k) = y
  | 0, y, _, _ => by simp [hN]
  | k + 1, y, hk, h => by
    have e : y <<< (k + 1) = (y <<< k) <<< 1 := by rw [BitVec.shiftLeft_add]
    rw [hN, e, hB_shl, hN_shl k y (by omega) fun j hj => h j (by omega)]
    rw [BitVec.getLsbD_shiftLeft, h (31 - k) (by omega)]
    simp
theorem hN_add : ∀ (a b : Nat) (x : B32), hN (a + b) x = hN b (hN a x)
  | 0, b, x => by rw [Nat.zero_add]; rfl
  | a + 1, b, x => by rw [Nat.add_right_comm, hN, hN, hN_add a]
/-- A step of half a byte. -/
theorem hN_4 (x : B32) : hN 4 (x &&& 15#32) ^^^ (x >>> 4) = hN 4 x := by
  have hs := hN_shl 4 (x >>> 4) (by decide) fun j hj => by
    rw [BitVec.getLsbD_ushiftRight]; exact BitVec.getLsbD_of_ge _ _ (by omega)
  have e : x = (x &&& 15#32) ^^^ ((x >>> 4) <<< 4) := by
    refine BitVec.eq_of_getLsbD_eq fun i hi => ?_
    simp only [BitVec.getLsbD_xor, BitVec.getLsbD_and, BitVec.getLsbD_shiftLeft, BitVec.getLsbD_ushiftRight]
    by_cases h4 : i < 4
    · have h15 : (15#32).getLsbD i = true := by
        have : i = 0 ∨ i = 1 ∨ i = 2 ∨ i = 3 := by omega
        rcases this with rfl | rfl | rfl | rfl <;> rfl
      rw [h15]
      simp [h4]
    · have h15 : (15#32).getLsbD i = false := by
        have : (15#32) = BitVec.ofNat 32 15 := rfl
        rw [this, BitVec.getLsbD_ofNat]
        have : Nat.testBit 15 i = false := Nat.testBit_lt_two_pow (Nat.lt_of_lt_of_le (by decide : 15 < 2 ^ 4) (Nat.pow_le_pow_right (by decide) (by omega)))
        simp [this]
      have : 4 + (i - 4) = i := by omega
      rw [h15, this]
      simp [h4, hi]
  conv => rhs; rw [e, hN_xor, hs]
def ofB (b : Int) : B32 := BitVec.ofInt 32 b
def toI (x : B32) : Int := (x.toNat : Int)
theorem toI_rng (x : B32) : 0 ≤ toI x ∧ toI x < 4294967296 := by
  have := x.isLt
  unfold toI
  omega
theorem ofB_toI (x : B32) : ofB (toI x) = x := by
  apply BitVec.eq_of_toNat_eq
  unfold ofB toI
  rw [BitVec.toNat_ofInt]
  have := x.isLt
  omega
theorem toI_ofB {b : Int} (h1 : 0 ≤ b) (h2 : b < 4294967296) : toI (ofB b) = b := by
  unfold ofB toI
  rw [BitVec.toNat_ofInt]
  omega
theorem wr_toI (x : B32) : wr .u32 (toI x) = toI x := by
  have := toI_rng x
  rw [wr_u32]; omega
theorem xor_I (x y : B32) : wr .u32 (ixor .u32 (toI x) (toI y)) = toI (x ^^^ y) := by
  have : ixor .u32 (toI x) (toI y) = toI (x ^^^ y) := by
    show ((BitVec.ofInt 32 (toI x) ^^^ BitVec.ofInt 32 (toI y)).toNat : Int) = _
    have h1 := ofB_toI x
    have h2 := ofB_toI y
    unfold ofB at h1 h2
    rw [h1, h2]; rfl
  rw [this, wr_toI]
theorem and_I (x y : B32) : wr .u32 (iand .u32 (toI x) (toI y)) = toI (x &&& y) := by
  have : iand .u32 (toI x) (toI y) = toI (x &&& y) := by
    show ((BitVec.ofInt 32 (toI x) &&& BitVec.ofInt 32 (toI y)).toNat : Int) = _
    have h1 := ofB_toI x
    have h2 := ofB_toI y
    unfold ofB at h1 h2
    rw [h1, h2]; rfl
  rw [this, wr_toI]
theorem shr_I (x : B32) (k : Nat) (hk : k ≤ 32) : ishr .u32 (toI x) (k : Int) = toI (x >>> k) := by
  unfold ishr toI
  have : min ((k : Int).toNat) (IntKind.bits .u32) = k := by simp only [IntKind.bits, Int.toNat_natCast]; omega
  rw [this, Int.fdiv_eq_ediv_of_nonneg _ (Int.le_of_lt (Int.pow_pos (by decide))), BitVec.toNat_ushiftRight, Nat.shiftRight_eq_div_pow]
  simp
theorem ofB_byte {b : Int} (h1 : 0 ≤ b) (h2 : b ≤ 255) : wr .u32 b = toI (ofB b) := by
  rw [toI_ofB h1 (by omega), wr_u32]; omega
theorem lsb_I (x : B32) : (toI x % 2 = 1) ↔ x.getLsbD 0 = true := by
  unfold toI
  rw [BitVec.getLsbD, Nat.testBit_zero]
  simp only [decide_eq_true_eq]
  omega
theorem e_crc_step (x : B32) : F_crc_step (toI x) = some (toI (hN 4 x)) := by
  refine Wq.eq ?_
  unfold F_crc_step
  refine Wq.bind (Q := fun y => y = toI (hN 4 x)) ?_ fun y hy => (w_some _).2 hy
  refine w_for (n := 4) (by decide) (fun i v => v = toI (hN i x)) _ (fun i v hi hj => ?_) (fun v hj => ?_) _ 0 (by decide) rfl
  · subst hj
    simp only
    unfold L_crc_step_26
    rw [cnd_t (ilt_t (by omega))]
    have e1 : (1 : Int) = toI 1#32 := rfl
    have e15 : (3988292384 : Int) = toI 3988292384#32 := rfl
    have e2 : ishr .u32 (toI (hN i x)) 1 = toI (hN i x >>> 1) := shr_I _ 1 (by decide)
    rw [e2, e15, xor_I]
    have hb : wr .u32 (iand .u32 (toI (hN i x)) 1) = toI (hN i x &&& 1#32) := by conv => lhs; rw [e1, and_I]
    rw [hb, hN_add i 1]
    have hl : (ieq (toI (hN i x &&& 1#32)) 1 = true) ↔ (hN i x).getLsbD 0 = true := by
      rw [ieq_T, ← lsb_I]
      unfold toI
      have : (hN i x &&& 1#32).toNat = (hN i x).toNat % 2 := by
        rw [BitVec.toNat_and]
        exact Nat.and_two_pow_sub_one_eq_mod _ 1
      rw [this]; omega
    cases hc : ieq (toI (hN i x &&& 1#32)) 1 with
    | true =>
      rw [cnd_true, w_some]
      refine ⟨wr_succ (by omega), ?_⟩
      show _ = toI (hB (hN i x))
      unfold hB
      rw [if_pos (hl.1 hc)]
    | false =>
      rw [cnd_false, w_some]
      refine ⟨wr_succ (by omega), ?_⟩
      show _ = toI (hB (hN i x))
      unfold hB
      rw [if_neg (fun h => by rw [hl.2 h] at hc; cases hc), BitVec.xor_zero]
  · subst hj
    simp only
    unfold L_crc_step_26
    rw [cnd_f (ilt_f (by omega)), w_some]
def ones : B32 := BitVec.allOnes 32
/-- The state behind bytes. -/
def runB (n : B32) (l : List Int) : B32 := l.foldl (fun n b => hN 8 (n ^^^ ofB b)) n
def crcZ (l : List Int) : Int := toI (ones ^^^ runB ones l)
theorem runB_app (n : B32) (a b : List Int) : runB n (a ++ b) = runB (runB n a) b := List.foldl_append
theorem e_crc_Sum {l : List Int} (hl : l.length < 999999) (hb : byteP l) : F_crc_Sum l = some (crcZ l) := by
  refine Wq.eq ?_
  unfold F_crc_Sum F_crc_More
  have e0 : (4294967295 : Int) = toI ones := rfl
  have e00 : (0 : Int) = toI 0#32 := rfl
  have e15 : (15 : Int) = toI 15#32 := rfl
  refine Wq.bind (Q := fun y => y = crcZ l) (Wq.bind (Q := fun y => y = toI (runB ones l)) ?_ fun y hy => ?_) fun y hy => (w_some _).2 hy
  · have hi0 : wr .u32 (ixor .u32 4294967295 0) = toI ones := by
      conv => lhs; rw [e0, e00, xor_I]
      simp
    rw [hi0]
    refine w_for hl (fun i v => v = toI (runB ones (l.take i))) _ (fun i v hi hj => ?_) (fun v hj => ?_) _ 0 (Nat.zero_le _) rfl
    · subst hj
      simp only
      unfold L_crc_More_58
      obtain ⟨b1, b2⟩ := hb.get hi
      have e4 : ∀ x : B32, ishr .u32 (toI x) 4 = toI (x >>> 4) := fun x => shr_I x 4 (by decide)
      rw [rd_in l hi, lget_nat l i hi, ofB_byte b1 b2, xor_I, e15, and_I, e_crc_step, ob_some, e4, xor_I, hN_4, and_I, e_crc_step, ob_some, e4, xor_I, hN_4, w_some]
      refine ⟨wr_succ (by omega), ?_⟩
      rw [List.take_succ_eq_append_getElem hi, runB_app, ← hN_add]
      rfl
    · subst hj
      simp only
      unfold L_crc_More_58
      rw [rd_out, w_some, List.take_length]
  · subst hy
    rw [w_some]
    conv => lhs; rw [e0, xor_I]
    rfl
theorem r_crc_Sum {l : List Int} (hl : l.length < 999999) (hb : byteP l) : F_snaffleref02_Sum l = some (crcZ l) := by
  refine Wq.eq ?_
  unfold F_snaffleref02_Sum F_snaffleref02_More
  have e0 : (4294967295 : Int) = toI ones := rfl
  have e00 : (0 : Int) = toI 0#32 := rfl
  have e15 : (3988292384 : Int) = toI 3988292384#32 := rfl
  refine Wq.bind (Q := fun y => y = crcZ l) (Wq.bind (Q := fun y => y = toI (runB ones l)) ?_ fun y hy => ?_) fun y hy => (w_some _).2 hy
  · have hi0 : wr .u32 (ixor .u32 0 4294967295) = toI ones := by
      conv => lhs; rw [e0, e00, xor_I]
      simp
    rw [hi0]
    refine w_for hl (fun i v => v = toI (runB ones (l.take i))) _ (fun i v hi hj => ?_) (fun v hj => ?_) _ 0 (Nat.zero_le _) rfl
    · subst hj
      simp only
      unfold L_snaffleref02_More_58
      obtain ⟨b1, b2⟩ := hb.get hi
      rw [rd_in l hi, lget_nat l i hi, ofB_byte b1 b2, xor_I]
      generalize hz : runB ones (l.take i) ^^^ ofB l[i] = z
      refine Wq.bind (Q := fun y => y = toI (hN 8 z)) ?_ fun y hy => ?_
      · refine w_for (n := 8) (by decide) (fun i v => v = toI (hN i z)) _ (fun i v hi hj => ?_) (fun v hj => ?_) _ 0 (by decide) rfl
        · subst hj
          simp only
          unfold L_snaffleref02_More_7462
          rw [cnd_t (ilt_t (by omega)), hN_add i 1]
          have r0 := toI_rng (hN i z)
          have q1 : wr .u32 (iquo (toI (hN i z)) 2) = toI (hN i z >>> 1) := by
            rw [← shr_I _ 1 (by decide)]
            unfold iquo ishr
            rw [Int.tdiv_eq_ediv_of_nonneg r0.1, wr_u32, Int.fdiv_eq_ediv_of_nonneg _ (by decide)]
            show _ = toI (hN i z) / 2 ^ 1
            omega
          have hl : (ieq (irem (toI (hN i z)) 2) 1 = true) ↔ (hN i z).getLsbD 0 = true := by
            rw [ieq_T, ← lsb_I]
            unfold irem
            rw [Int.tmod_eq_emod_of_nonneg r0.1]
          rw [q1, e15, xor_I]
          cases hc : ieq (irem (toI (hN i z)) 2) 1 with
          | true =>
            rw [cnd_true, w_some]
            refine ⟨wr_succ (by omega), ?_⟩
            show _ = toI (hB (hN i z))
            unfold hB
            rw [if_pos (hl.1 hc)]
          | false =>
            rw [cnd_false, w_some]
            refine ⟨wr_succ (by omega), ?_⟩
            show _ = toI (hB (hN i z))
            unfold hB
            rw [if_neg (fun h => by rw [hl.2 h] at hc; cases hc), BitVec.xor_zero]
        · subst hj
          simp only
          unfold L_snaffleref02_More_7462
          rw [cnd_f (ilt_f (by omega)), w_some]
      · subst hy
        rw [w_some]
        refine ⟨wr_succ (by omega), ?_⟩
        rw [List.take_succ_eq_append_getElem hi, runB_app, ← hz]
        rfl
    · subst hj
      simp only
      unfold L_snaffleref02_More_58
      rw [rd_out, w_some, List.take_length]
  · subst hy
    rw [w_some]
    conv => lhs; rw [e0, xor_I, BitVec.xor_comm]
    rfl
/-- A sum's bytes, the lowest first. -/
def tailZ (n : Int) : List Int := [n % 256, n / 256 % 256, n / 65536 % 256, n / 16777216 % 256]
def bitZ (b : Bool) : Int := if b then 1 else 0
theorem e_row_bit (b : Bool) : F_row_bit b = some (bitZ b) := by cases b <;> rfl
def p8 (l : List Int) : List Int := l.flatMap fun n => putZ n 8
def p1 (l : List Int) : List Int := l.flatMap fun n => putZ n 1
theorem flat_length {α β : Type} {f : α → List β} {m : Nat} (h : ∀ x, (f x).length = m) : ∀ l : List α, (l.flatMap f).length = m * l.length
  | [] => rfl
  | x :: l => by rw [List.flatMap_cons, List.length_append, h, flat_length h l, List.length_cons, Nat.mul_add, Nat.mul_one, Nat.add_comm]
theorem p8_len (l : List Int) : (p8 l).length = 8 * l.length := flat_length (fun x => putZ_len x 8) l
theorem p1_len (l : List Int) : (p1 l).length = 1 * l.length := flat_length (fun x => putZ_len x 1) l
theorem p8_byte (l : List Int) : byteP (p8 l) := byteP_flat fun x _ => putZ_byte x 8
theorem p1_byte (l : List Int) : byteP (p1 l) := byteP_flat fun x _ => putZ_byte x 1
def orderB (o : SOrder) : List Int := p8 [o.id] ++ (p1 [o.account, o.symbol, o.side, o.phase] ++ (p8 [o.qty, o.price, o.filled, o.newQty, o.newPrice, o.version] ++ p1 [bitZ o.asked]))
def cellB (c : SCell) : List Int := p8 [c.pos]
def limB (l : SExpo) : List Int := p8 [l.long, l.short, l.opn]
def magic : List Int := [115, 110, 97, 102]
def headB (s : SState) : List Int := magic ++ (p1 [s.accounts, s.symbols, bitZ s.kill, len s.orders] ++ p8 [s.last, s.seq, s.lsn])
def bodyB (s : SState) : List Int := headB s ++ (s.orders.flatMap orderB ++ (s.cells.flatMap cellB ++ (s.limits.flatMap limB ++ p8 s.caps)))
def encZ (s : SState) : List Int := bodyB s ++ tailZ (crcZ (bodyB s))
theorem orderB_len (o : SOrder) : (orderB o).length = 61 := by simp [orderB, p8_len, p1_len]
theorem cellB_len (c : SCell) : (cellB c).length = 8 := by simp [cellB, p8_len]
theorem limB_len (c : SExpo) : (limB c).length = 24 := by simp [limB, p8_len]
theorem headB_len (s : SState) : (headB s).length = 32 := by simp [headB, magic, p8_len, p1_len]
theorem bodyB_len (s : SState) : (bodyB s).length = 32 + 61 * s.orders.length + 8 * s.cells.length + 24 * s.limits.length + 8 * s.caps.length := by
  simp only [bodyB, List.length_append, headB_len, flat_length orderB_len, flat_length cellB_len, flat_length limB_len, p8_len]
  omega
theorem encZ_len (s : SState) : (encZ s).length = 36 + 61 * s.orders.length + 8 * s.cells.length + 24 * s.limits.length + 8 * s.caps.length := by
  simp only [encZ, List.length_append, bodyB_len, tailZ, List.length_cons, List.length_nil]
  omega
theorem magic_byte : byteP magic := fun x hx => by
  simp only [magic, List.mem_cons, List.not_mem_nil, or_false] at hx
  rcases hx with rfl | rfl | rfl | rfl <;> decide
theorem orderB_byte (o : SOrder) : byteP (orderB o) := (p8_byte _).app ((p1_byte _).app ((p8_byte _).app (p1_byte _)))
theorem bodyB_byte (s : SState) : byteP (bodyB s) :=
  (magic_byte.app ((p1_byte _).app (p8_byte _))).app ((byteP_flat fun o _ => orderB_byte o).app ((byteP_flat fun c _ => p8_byte _).app ((byteP_flat fun c _ => p8_byte _).app (p8_byte _))))
theorem e_p8 {acc l : List Int} (h : acc.length + 8 * l.length < 1000000) : F_row_put_int64 acc 8 l = some (acc ++ p8 l) := e_put_int64 8 (by decide) (by decide) h
theorem e_p1 {acc l : List Int} (h : acc.length + 8 * l.length < 1000000) : F_row_put_int acc 1 l = some (acc ++ p1 l) := e_put_int 1 (by decide) (by decide) h
/-- A right state has few of all. -/
theorem RightS.few {s : SState} (h : RightS s) : s.orders.length ≤ 64 ∧ s.cells.length ≤ 64 ∧ s.limits.length = s.cells.length ∧ s.caps.length = s.accounts.toNat ∧ s.accounts.toNat ≤ 8 ∧ (s.cells.length : Int) = s.accounts * s.symbols ∧ (1 ≤ s.accounts ∧ s.accounts ≤ 8) ∧ (1 ≤ s.symbols ∧ s.symbols ≤ 8) := by
  obtain ⟨h1, h2, h3, h4⟩ := h.sized.lens
  have := h.sized.1
  exact ⟨h4, h1, h2, h3, by omega, h.sized.2.2.1, this, h.sized.2.1⟩
theorem e_row_size {a b n : Int} (ha : 1 ≤ a ∧ a ≤ 8) (hb : 1 ≤ b ∧ b ≤ 8) (hn : 0 ≤ n ∧ n ≤ 255) : F_row_size a b n = some (36 + n * 61 + a * b * 32 + a * 8) := by
  unfold F_row_size iadd imul
  have m := mul_le64 (a := a) (b := b) (by omega) (by omega) (by omega) (by omega)
  rw [wr_small (n := n * 61) (by omega) (by omega), wr_small (n := 32 + n * 61) (by omega) (by omega), wr_small (n := a * b) (by omega) (by omega), wr_small (n := a * b * 32) (by omega) (by omega), wr_small (n := 32 + n * 61 + a * b * 32) (by omega) (by omega), wr_small (n := a * 8) (by omega) (by omega), wr_small (n := 32 + n * 61 + a * b * 32 + a * 8) (by omega) (by omega), wr_small (by omega) (by omega)]
  congr 1; omega
theorem e_row_Size {s : SState} (hr : Ok_state s) (hsh : shortP s) (h : RightS s) : F_row_Size s = some (len (encZ s)) := by
  refine Wq.eq ?_
  unfold F_row_Size
  refine (s_book_Right s hr hsh.1 hsh.2.2.1 hsh.2.2.2).bind fun b hb => ?_
  obtain ⟨f1, f2, f3, f4, f5, f6, f7, f8⟩ := h.few
  rw [hb.2 h, bnot_true, cnd_false, e_row_size f7 f8 (by unfold len; omega), ob_some, w_some]
  unfold len
  rw [encZ_len, ← f6]
  omega
theorem e_row_Size_bad {s : SState} (hr : Ok_state s) (hsh : shortP s) (h : ¬ RightS s) : F_row_Size s = some 0 := by
  refine Wq.eq ?_
  unfold F_row_Size
  refine (s_book_Right s hr hsh.1 hsh.2.2.1 hsh.2.2.2).bind fun b hb => ?_
  have : b = false := by cases b with
    | false => rfl
    | true => exact absurd (hb.1 rfl) h
  subst this
  rw [bnot_false, cnd_true, w_some]
theorem byte32 {n : Int} {i : Nat} (hi : i < 4) : ile 0 (wr .i64 (imul 8 (i : Int))) = true ∧ wr .u8 (ishr .u32 n (wr .i64 (imul 8 (i : Int)))) = n / 256 ^ i % 256 := by
  have h1 : wr .i64 (imul 8 (i : Int)) = ((8 * i : Nat) : Int) := by
    unfold imul
    rw [wr_small (by omega) (by omega)]; omega
  have h2 : min (((8 * i : Nat) : Int).toNat) (IntKind.bits .u32) = 8 * i := by
    simp only [IntKind.bits, Int.toNat_natCast]; omega
  rw [h1]
  refine ⟨ile_t (by omega), ?_⟩
  unfold ishr
  rw [h2, Int.pow_mul, wr_u8, Int.fdiv_eq_ediv_of_nonneg _ (Int.le_of_lt (Int.pow_pos (by decide)))]
  rfl
theorem tail_get (n : Int) {i : Nat} (hi : i < 4) : (tailZ n)[i]'(by simpa [tailZ] using hi) = n / 256 ^ i % 256 := by
  have : i = 0 ∨ i = 1 ∨ i = 2 ∨ i = 3 := by omega
  rcases this with rfl | rfl | rfl | rfl
  · have : (256 : Int) ^ 0 = 1 := rfl
    simp only [tailZ, this, List.getElem_cons_zero]; omega
  · rfl
  · rfl
  · rfl
theorem tail_take (n : Int) {i : Nat} (hi : i < 4) (acc : List Int) : acc ++ (tailZ n).take i ++ [n / 256 ^ i % 256] = acc ++ (tailZ n).take (i + 1) := by
  rw [List.take_succ_eq_append_getElem (by simpa [tailZ] using hi), tail_get n hi, List.append_assoc]
theorem e_row_Encode {s : SState} (hr : Ok_state s) (hsh : shortP s) (h : RightS s) : F_row_Encode s = some (encZ s, 0) := by
  refine Wq.eq ?_
  obtain ⟨f1, f2, f3, f4, f5, f6, f7, f8⟩ := h.few
  have hel := encZ_len s
  unfold F_row_Encode
  have hz : ieq (len (encZ s)) 0 = false := by rw [ieq_F]; unfold len; omega
  have hm : lapp (lrep Int 0) (s2u [UInt8.ofNat 115, UInt8.ofNat 110, UInt8.ofNat 97, UInt8.ofNat 102]) = magic := by decide
  rw [e_row_Size hr hsh h, ob_some, hz, cnd_false, cnd_t (band_t (ile_t (by unfold len; omega)) (ile_t (by unfold len; omega))), e_row_bit, ob_some, hm, e_p1 (by simp [magic]), ob_some,
    e_p8 (by simp [magic, p1_len]), ob_some]
  have hhead : magic ++ p1 [s.accounts, s.symbols, bitZ s.kill, len s.orders] ++ p8 [s.last, s.seq, s.lsn] = headB s := by rw [headB, List.append_assoc]
  rw [hhead]
  have hl0 := headB_len s
  refine Wq.bind (Q := fun y => y = headB s ++ s.orders.flatMap orderB) ?_ fun y hy => ?_
  · refine w_for (n := s.orders.length) (by omega) (fun i x => x = headB s ++ (s.orders.take i).flatMap orderB) _ (fun i x hi hj => ?_) (fun x hj => ?_) _ 0 (Nat.zero_le _) (by simp)
    · simp only
      unfold L_row_Encode_1018
      have hx : x.length = 32 + 61 * i := by
        rw [hj, List.length_append, hl0, flat_length orderB_len, List.length_take]; omega
      rw [rd_in s.orders hi, lget_nat _ i hi, e_p8 (by simp; omega), ob_some, e_p1 (by simp [p8_len]; omega), ob_some, e_p8 (by simp [p8_len, p1_len]; omega), ob_some, e_row_bit, ob_some, e_p1 (by simp [p8_len, p1_len]; omega), ob_some, w_some]
      refine ⟨wr_succ (by omega), ?_⟩
      rw [List.take_succ_eq_append_getElem hi, List.flatMap_append, hj]
      simp [orderB]
    · simp only
      unfold L_row_Encode_1018
      rw [rd_out, w_some, hj, List.take_length]
  subst hy
  refine Wq.bind (Q := fun y => y = headB s ++ s.orders.flatMap orderB ++ s.cells.flatMap cellB) ?_ fun y hy => ?_
  · refine w_for (n := s.cells.length) (by omega) (fun i x => x = headB s ++ s.orders.flatMap orderB ++ (s.cells.take i).flatMap cellB) _ (fun i x hi hj => ?_) (fun x hj => ?_) _ 0 (Nat.zero_le _) (by simp)
    · simp only
      unfold L_row_Encode_2042
      have hx : x.length = 32 + 61 * s.orders.length + 8 * i := by
        rw [hj, List.length_append, List.length_append, hl0, flat_length orderB_len, flat_length cellB_len, List.length_take]; omega
      rw [rd_in s.cells hi, lget_nat _ i hi, e_p8 (by simp; omega), ob_some, w_some]
      refine ⟨wr_succ (by omega), ?_⟩
      rw [List.take_succ_eq_append_getElem hi, List.flatMap_append, hj]
      simp [cellB]
    · simp only
      unfold L_row_Encode_2042
      rw [rd_out, w_some, hj, List.take_length]
  subst hy
  refine Wq.bind (Q := fun y => y = headB s ++ s.orders.flatMap orderB ++ s.cells.flatMap cellB ++ s.limits.flatMap limB) ?_ fun y hy => ?_
  · refine w_for (n := s.limits.length) (by omega) (fun i x => x = headB s ++ s.orders.flatMap orderB ++ s.cells.flatMap cellB ++ (s.limits.take i).flatMap limB) _ (fun i x hi hj => ?_) (fun x hj => ?_) _ 0 (Nat.zero_le _) (by simp)
    · simp only
      unfold L_row_Encode_4090
      have hx : x.length = 32 + 61 * s.orders.length + 8 * s.cells.length + 24 * i := by
        rw [hj, List.length_append, List.length_append, List.length_append, hl0, flat_length orderB_len, flat_length cellB_len, flat_length limB_len, List.length_take]; omega
      rw [rd_in s.limits hi, lget_nat _ i hi, e_p8 (by simp; omega), ob_some, w_some]
      refine ⟨wr_succ (by omega), ?_⟩
      rw [List.take_succ_eq_append_getElem hi, List.flatMap_append, hj]
      simp [limB]
    · simp only
      unfold L_row_Encode_4090
      rw [rd_out, w_some, hj, List.take_length]
  subst hy
  have hbl := bodyB_len s
  have hb : headB s ++ s.orders.flatMap orderB ++ s.cells.flatMap cellB ++ s.limits.flatMap limB ++ p8 s.caps = bodyB s := by simp [bodyB]
  rw [e_p8 (by
    have := congrArg List.length hb
    rw [List.length_append, p8_len] at this
    omega), ob_some, hb, e_crc_Sum (by omega) (bodyB_byte s), ob_some]
  refine Wq.bind (Q := fun y => y = encZ s) ?_ fun y hy => by rw [w_some, hy]
  refine w_for (n := 4) (by decide) (fun i x => x = bodyB s ++ (tailZ (crcZ (bodyB s))).take i) _ (fun i x hi hj => ?_) (fun x hj => ?_) _ 0 (by decide) (by simp)
  · simp only
    unfold L_row_Encode_32762
    obtain ⟨q1, q2⟩ := byte32 (n := crcZ (bodyB s)) hi
    have hx : x.length ≤ (bodyB s).length + 4 := by
      rw [hj, List.length_append, List.length_take]; omega
    rw [cnd_t (ilt_t (by omega)), cnd_t q1, q2, cnd_t (len_lt (n := 1000000) (by simp [lapp]; omega) (by decide)), w_some]
    refine ⟨wr_succ (by omega), ?_⟩
    rw [hj]
    exact tail_take _ hi _
  · simp only
    unfold L_row_Encode_32762
    rw [cnd_f (ilt_f (by omega)), w_some, hj]
    rfl
theorem e_row_Encode_bad {s : SState} (hr : Ok_state s) (hsh : shortP s) (h : ¬ RightS s) : F_row_Encode s = some ([], 1) := by
  unfold F_row_Encode
  rw [e_row_Size_bad hr hsh h, ob_some]
  rfl
theorem u64_byte (n : Int) {j : Nat} (hj : j < 8) : n % 18446744073709551616 / 256 ^ j % 256 = n / 256 ^ j % 256 := by
  have : j = 0 ∨ j = 1 ∨ j = 2 ∨ j = 3 ∨ j = 4 ∨ j = 5 ∨ j = 6 ∨ j = 7 := by omega
  rcases this with rfl | rfl | rfl | rfl | rfl | rfl | rfl | rfl
  · rw [show (256 : Int) ^ 0 = 1 by decide]; omega
  · rw [show (256 : Int) ^ 1 = 256 by decide]; omega
  · rw [show (256 : Int) ^ 2 = 65536 by decide]; omega
  · rw [show (256 : Int) ^ 3 = 16777216 by decide]; omega
  · rw [show (256 : Int) ^ 4 = 4294967296 by decide]; omega
  · rw [show (256 : Int) ^ 5 = 1099511627776 by decide]; omega
  · rw [show (256 : Int) ^ 6 = 281474976710656 by decide]; omega
  · rw [show (256 : Int) ^ 7 = 72057594037927936 by decide]; omega
theorem r_one {n : Int} {k : Nat} (h0 : 0 < k) (hk : k ≤ 8) : F_snaffleref13_one n (k : Int) = some (putZ n k) := by
  refine Wq.eq ?_
  unfold F_snaffleref13_one
  rw [cnd_t (band_t (band_t (ile_t (by omega)) (ile_t (by omega))) (ile_t (by omega))), wr_pred (by omega), itn_nat]
  refine Wq.bind (Q := fun y => y = putZ n k) ?_ fun y hy => (w_some _).2 hy
  refine w_down (step := fun v : Int × Int × List Int => L_snaffleref13_one_122 v.1 v.2.1 v.2.2) (n := k) (by omega) (fun i x => i ≤ k ∧ x.1 = n % 18446744073709551616 / 256 ^ (k - i) ∧ x.2 = List.replicate i 0 ++ putZ n (k - i)) _ (fun i x hi hj => ?_) (fun x hj => ?_) _ ⟨Nat.le_refl _, ?_, ?_⟩
  · obtain ⟨u, out⟩ := x
    obtain ⟨h1, h2, h3⟩ := hj
    simp only at h2 h3 ⊢
    unfold L_snaffleref13_one_122
    have hol : out.length = k := by rw [h3, List.length_append, List.length_replicate, putZ_len]; omega
    have hp : (0 : Int) < 256 ^ (k - (i + 1)) := Int.pow_pos (by decide)
    have hu : 0 ≤ u ∧ u < 18446744073709551616 := by
      have q1 : 0 ≤ n % 18446744073709551616 := by omega
      rw [h2]
      refine ⟨Int.ediv_nonneg q1 (by omega), ?_⟩
      have := Int.ediv_le_self (256 ^ (k - (i + 1))) q1
      omega
    rw [cnd_t (ile_t (by omega)), cnd_t (inb out i (by omega)), w_some]
    have e : k - i = (k - (i + 1)) + 1 := by omega
    have e2 : wr .u8 (irem u 256) = n / 256 ^ (k - (i + 1)) % 256 := by
      unfold irem
      rw [Int.tmod_eq_emod_of_nonneg hu.1, wr_u8, Int.emod_emod, h2]
      exact u64_byte n (by omega)
    refine ⟨wr_pred (by omega), by omega, ?_, ?_⟩
    · show wr .u64 (iquo u 256) = _
      unfold iquo
      rw [Int.tdiv_eq_ediv_of_nonneg hu.1, wr_u64, Int.emod_eq_of_lt (by omega) (by omega), h2, e, Int.pow_succ]
      exact Int.ediv_ediv_of_nonneg (by omega)
    · show lset out (itn (i : Int)) _ = _
      rw [e2, h3, e, itn_nat]
      unfold lset
      rw [List.set_append, if_pos (by simp), List.replicate_succ', List.set_append, if_neg (by simp)]
      simp [putZ]
  · obtain ⟨u, out⟩ := x
    obtain ⟨h1, h2, h3⟩ := hj
    simp only at h2 h3 ⊢
    unfold L_snaffleref13_one_122
    rw [cnd_f (ile_f (by omega)), w_some, h3]
    rfl
  · simp only [Nat.sub_self]
    rw [wr_u64]
    have : (256 : Int) ^ 0 = 1 := rfl
    rw [this]; omega
  · simp [lrep, putZ]
theorem r_one8 (n : Int) : F_snaffleref13_one n 8 = some (p8 [n]) := by
  have := r_one (n := n) (k := 8) (by decide) (by decide)
  rw [show (8 : Int) = ((8 : Nat) : Int) from rfl, this]; simp [p8]
theorem r_one1 (n : Int) : F_snaffleref13_one n 1 = some (p1 [n]) := by
  have := r_one (n := n) (k := 1) (by decide) (by decide)
  rw [show (1 : Int) = ((1 : Nat) : Int) from rfl, this]; simp [p1]
theorem r_flag (b : Bool) : F_snaffleref13_flag b = some (bitZ b) := by cases b <;> rfl
theorem p8_cons (n : Int) (l : List Int) : p8 (n :: l) = p8 [n] ++ p8 l := by simp [p8]
theorem p1_cons (n : Int) (l : List Int) : p1 (n :: l) = p1 [n] ++ p1 l := by simp [p1]
theorem p8_app (a b : List Int) : p8 (a ++ b) = p8 a ++ p8 b := by simp [p8]
theorem p1_app (a b : List Int) : p1 (a ++ b) = p1 a ++ p1 b := by simp [p1]
theorem p1_one (n : Int) : p1 [n] = [wr .u8 n] := by
  rw [wr_u8]
  show [n / 256 ^ 0 % 256] = _
  have : (256 : Int) ^ 0 = 1 := rfl
  rw [this]
  congr 1
  omega
theorem p8_3 (a b c : Int) : p8 [a, b, c] = p8 [a] ++ (p8 [b] ++ p8 [c]) := by rw [p8_cons, p8_cons b]
theorem p1_4 (a b c d : Int) : p1 [a, b, c, d] = [wr .u8 a, wr .u8 b, wr .u8 c, wr .u8 d] := by
  rw [p1_cons, p1_cons b, p1_cons c, p1_one, p1_one, p1_one, p1_one]; rfl
theorem lapp_eq (a b : List Int) : lapp a b = a ++ b := rfl
theorem r_Encode {s : SState} (h : RightS s) : F_snaffleref13_Encode s = some (encZ s) := by
  refine Wq.eq ?_
  obtain ⟨f1, f2, f3, f4, f5, f6, f7, f8⟩ := h.few
  unfold F_snaffleref13_Encode
  rw [r_flag, ob_some]
  refine Wq.bind (Q := fun y => y = magic ++ p1 [s.accounts, s.symbols, bitZ s.kill, len s.orders]) ?_ fun y hy => ?_
  · refine w_for (n := 4) (by decide) (fun i x => x = magic ++ p1 ([s.accounts, s.symbols, bitZ s.kill, len s.orders].take i)) _ (fun i x hi hj => ?_) (fun x hj => ?_) _ 0 (by decide) (by simp [p1, magic])
    · simp only
      unfold L_snaffleref13_Encode_122
      have hx : x.length ≤ 8 := by
        rw [hj, List.length_append, p1_len, List.length_take]
        simp only [magic, List.length_cons, List.length_nil]; omega
      rw [cnd_t (ilt_t (by omega)), cnd_t (inb _ i (by simpa using hi)), lget_nat _ i (by simpa using hi), r_one1, ob_some, cnd_t (len_lt (n := 1000000) (by simp [lapp, p1_len]; omega) (by decide)), w_some]
      refine ⟨wr_succ (by omega), ?_⟩
      rw [List.take_succ_eq_append_getElem (by simpa using hi), p1_app, hj, lapp_eq, List.append_assoc]
    · simp only
      unfold L_snaffleref13_Encode_122
      rw [cnd_f (ilt_f (by omega)), w_some, hj]
      rfl
  subst hy
  rw [r_one8, ob_some, cnd_t (len_lt (n := 1000000) (by simp [lapp, magic, p8_len, p1_len]) (by decide)), r_one8, ob_some, cnd_t (len_lt (n := 1000000) (by simp [lapp, magic, p8_len, p1_len]) (by decide)), r_one8, ob_some, cnd_t (len_lt (n := 1000000) (by simp [lapp, magic, p8_len, p1_len]) (by decide))]
  have hhead : lapp (lapp (lapp (magic ++ p1 [s.accounts, s.symbols, bitZ s.kill, len s.orders]) (p8 [s.last])) (p8 [s.seq])) (p8 [s.lsn]) = headB s := by
    simp only [lapp_eq, headB, p8_3, List.append_assoc]
  rw [hhead]
  have hl0 := headB_len s
  refine Wq.bind (Q := fun y => y.1 = headB s ++ s.orders.flatMap orderB) ?_ fun y hy => ?_
  · refine w_for (step := fun v : Int × List Int × List Int => L_snaffleref13_Encode_2042 s v.1 v.2.1 v.2.2) (n := s.orders.length) (by omega) (fun i x => x.1 = headB s ++ (s.orders.take i).flatMap orderB) _ (fun i x hi hj => ?_) (fun x hj => ?_) _ 0 (Nat.zero_le _) (by simp)
    · obtain ⟨x, w⟩ := x
      simp only at hj ⊢
      unfold L_snaffleref13_Encode_2042
      have hx : x.length = 32 + 61 * i := by
        rw [hj, List.length_append, hl0, flat_length orderB_len, List.length_take]; omega
      rw [rd_in s.orders hi, lget_nat _ i hi, r_one8, ob_some, cnd_t (len_lt (n := 1000000) (by simp [lapp, p8_len]; omega) (by decide)), cnd_t (len_lt (n := 1000000) (by simp [lapp, p8_len]; omega) (by decide))]
      obtain ⟨acc, hacc⟩ : ∃ acc, acc = lapp (lapp x (p8 [s.orders[i].id])) [wr IntKind.u8 s.orders[i].account, wr IntKind.u8 s.orders[i].symbol, wr IntKind.u8 s.orders[i].side, wr IntKind.u8 s.orders[i].phase] := ⟨_, rfl⟩
      rw [← hacc]
      have hal : acc.length = x.length + 12 := by rw [hacc]; simp [lapp, p8_len]
      refine Wq.bind (Q := fun y => y = acc ++ p8 [s.orders[i].qty, s.orders[i].price, s.orders[i].filled, s.orders[i].newQty, s.orders[i].newPrice, s.orders[i].version]) ?_ fun y hy => ?_
      · generalize hm : [s.orders[i].qty, s.orders[i].price, s.orders[i].filled, s.orders[i].newQty, s.orders[i].newPrice, s.orders[i].version] = m
        have hml : m.length = 6 := by rw [← hm]; rfl
        refine w_for (n := 6) (by decide) (fun k x => x = acc ++ p8 (m.take k)) _ (fun k x hk hj => ?_) (fun x hj => ?_) _ 0 (by decide) (by simp [p8])
        · simp only
          unfold L_snaffleref13_Encode_4182650
          have hx : x.length ≤ acc.length + 48 := by
            rw [hj, List.length_append, p8_len, List.length_take]; omega
          rw [cnd_t (ilt_t (by omega)), cnd_t (inb m k (by omega)), lget_nat m k (by omega), r_one8, ob_some, cnd_t (len_lt (n := 1000000) (by simp [lapp, p8_len]; omega) (by decide)), w_some]
          refine ⟨wr_succ (by omega), ?_⟩
          rw [List.take_succ_eq_append_getElem (by omega), p8_app, hj, lapp_eq, List.append_assoc]
        · simp only
          unfold L_snaffleref13_Encode_4182650
          rw [cnd_f (ilt_f (by omega)), w_some, hj, List.take_of_length_le (by omega)]
      subst hy
      rw [r_flag, ob_some, r_one1, ob_some, cnd_t (len_lt (n := 1000000) (by simp [lapp, p8_len, p1_len]; omega) (by decide)), w_some]
      refine ⟨wr_succ (by omega), ?_⟩
      show lapp _ _ = _
      rw [List.take_succ_eq_append_getElem hi, List.flatMap_append, hacc, hj]
      simp only [lapp_eq, List.flatMap_cons, List.flatMap_nil, List.append_nil, orderB, List.append_assoc, p1_4, List.cons_append, List.nil_append]
    · obtain ⟨x, w⟩ := x
      simp only at hj ⊢
      unfold L_snaffleref13_Encode_2042
      rw [rd_out, w_some, hj, List.take_length]
  rw [hy]
  refine Wq.bind (Q := fun y => y = headB s ++ s.orders.flatMap orderB ++ s.cells.flatMap cellB) ?_ fun y hy => ?_
  · refine w_for (n := s.cells.length) (by omega) (fun i x => x = headB s ++ s.orders.flatMap orderB ++ (s.cells.take i).flatMap cellB) _ (fun i x hi hj => ?_) (fun x hj => ?_) _ 0 (Nat.zero_le _) (by simp)
    · simp only
      unfold L_snaffleref13_Encode_4090
      have hx : x.length = 32 + 61 * s.orders.length + 8 * i := by
        rw [hj, List.length_append, List.length_append, hl0, flat_length orderB_len, flat_length cellB_len, List.length_take]; omega
      rw [rd_in s.cells hi, lget_nat _ i hi, r_one8, ob_some, cnd_t (len_lt (n := 1000000) (by simp [lapp, p8_len]; omega) (by decide)), w_some]
      refine ⟨wr_succ (by omega), ?_⟩
      rw [List.take_succ_eq_append_getElem hi, List.flatMap_append, hj]
      simp [cellB, lapp_eq]
    · simp only
      unfold L_snaffleref13_Encode_4090
      rw [rd_out, w_some, hj, List.take_length]
  subst hy
  refine Wq.bind (Q := fun y => y = headB s ++ s.orders.flatMap orderB ++ s.cells.flatMap cellB ++ s.limits.flatMap limB) ?_ fun y hy => ?_
  · refine w_for (n := s.limits.length) (by omega) (fun i x => x = headB s ++ s.orders.flatMap orderB ++ s.cells.flatMap cellB ++ (s.limits.take i).flatMap limB) _ (fun i x hi hj => ?_) (fun x hj => ?_) _ 0 (Nat.zero_le _) (by simp)
    · simp only
      unfold L_snaffleref13_Encode_8186
      have hx : x.length = 32 + 61 * s.orders.length + 8 * s.cells.length + 24 * i := by
        rw [hj, List.length_append, List.length_append, List.length_append, hl0, flat_length orderB_len, flat_length cellB_len, flat_length limB_len, List.length_take]; omega
      have hib := inb s.limits i hi
      rw [rd_in s.limits hi, lget_nat _ i hi, r_one8, ob_some, cnd_t (len_lt (n := 1000000) (by simp [lapp, p8_len]; omega) (by decide)), cnd_t hib, r_one8, ob_some, cnd_t (len_lt (n := 1000000) (by simp [lapp, p8_len]; omega) (by decide)), cnd_t hib, r_one8, ob_some, cnd_t (len_lt (n := 1000000) (by simp [lapp, p8_len]; omega) (by decide)), w_some]
      refine ⟨wr_succ (by omega), ?_⟩
      rw [List.take_succ_eq_append_getElem hi, List.flatMap_append, hj]
      simp only [lapp_eq, List.flatMap_cons, List.flatMap_nil, List.append_nil, limB, p8_3, List.append_assoc]
    · simp only
      unfold L_snaffleref13_Encode_8186
      rw [rd_out, w_some, hj, List.take_length]
  subst hy
  have hbl := bodyB_len s
  have hb : headB s ++ s.orders.flatMap orderB ++ s.cells.flatMap cellB ++ s.limits.flatMap limB ++ p8 s.caps = bodyB s := by simp [bodyB]
  have hbl2 := congrArg List.length hb
  rw [List.length_append, p8_len] at hbl2
  refine Wq.bind (Q := fun y => y = bodyB s) ?_ fun y hy => ?_
  · rw [← hb]
    refine w_for (n := s.caps.length) (by omega) (fun i x => x = headB s ++ s.orders.flatMap orderB ++ s.cells.flatMap cellB ++ s.limits.flatMap limB ++ p8 (s.caps.take i)) _ (fun i x hi hj => ?_) (fun x hj => ?_) _ 0 (Nat.zero_le _) (by simp [p8])
    · simp only
      unfold L_snaffleref13_Encode_16378
      have hx : x.length ≤ (bodyB s).length := by
        rw [hj, List.length_append, p8_len, List.length_take]; omega
      rw [rd_in s.caps hi, lget_nat _ i hi, r_one8, ob_some, cnd_t (len_lt (n := 1000000) (by simp [lapp, p8_len]; omega) (by decide)), w_some]
      refine ⟨wr_succ (by omega), ?_⟩
      rw [List.take_succ_eq_append_getElem hi, p8_app, hj, lapp_eq]
      simp only [List.append_assoc]
    · simp only
      unfold L_snaffleref13_Encode_16378
      rw [rd_out, w_some, hj, List.take_length]
  subst hy
  rw [r_crc_Sum (by omega) (bodyB_byte s), ob_some]
  refine Wq.bind (Q := fun y => y = encZ s) ?_ fun y hy => by rw [w_some, hy]
  have hcr : 0 ≤ crcZ (bodyB s) ∧ crcZ (bodyB s) < 4294967296 := toI_rng _
  refine w_for (step := fun v : Int × Int × List Int => L_snaffleref13_Encode_65530 v.1 v.2.1 v.2.2) (n := 4) (by decide) (fun i x => x.1 = crcZ (bodyB s) / 256 ^ i ∧ x.2 = bodyB s ++ (tailZ (crcZ (bodyB s))).take i) _ (fun i x hi hj => ?_) (fun x hj => ?_) _ 0 (by decide) ⟨by simp, by simp⟩
  · obtain ⟨u, x⟩ := x
    obtain ⟨h1, h2⟩ := hj
    simp only at h1 h2 ⊢
    unfold L_snaffleref13_Encode_65530
    have hp : (0 : Int) < 256 ^ i := Int.pow_pos (by decide)
    have hu : 0 ≤ u ∧ u < 4294967296 := by
      rw [h1]
      exact ⟨Int.ediv_nonneg hcr.1 (by omega), by have := Int.ediv_le_self (256 ^ i) hcr.1; omega⟩
    have hx : x.length ≤ (bodyB s).length + 4 := by
      rw [h2, List.length_append, List.length_take]; omega
    have e2 : wr .u8 (irem u 256) = crcZ (bodyB s) / 256 ^ i % 256 := by
      unfold irem
      rw [Int.tmod_eq_emod_of_nonneg hu.1, wr_u8, Int.emod_emod, h1]
    rw [cnd_t (ilt_t (by omega)), e2, cnd_t (len_lt (n := 1000000) (by simp [lapp]; omega) (by decide)), w_some]
    refine ⟨wr_succ (by omega), ?_, ?_⟩
    · show wr .u32 (iquo u 256) = _
      unfold iquo
      rw [Int.tdiv_eq_ediv_of_nonneg hu.1, wr_u32, Int.emod_eq_of_lt (by omega) (by omega), h1, Int.pow_succ]
      exact Int.ediv_ediv_of_nonneg (by omega)
    · show lapp _ _ = _
      rw [h2]
      exact tail_take _ hi _
  · obtain ⟨u, x⟩ := x
    obtain ⟨h1, h2⟩ := hj
    simp only at h1 h2 ⊢
    unfold L_snaffleref13_Encode_65530
    rw [cnd_f (ilt_f (by omega)), w_some, h2]
    rfl
def at8 (b : List Int) (i : Nat) : Int := wr .i64 (unZ ((b.drop i).take 8))
def at1 (b : List Int) (i : Nat) : Int := lget b i
theorem at1_get {b : List Int} {i : Nat} (h : i < b.length) : at1 b i = b[i] := by unfold at1 lget; rw [List.getD_eq_getElem?_getD, List.getElem?_eq_getElem h]; rfl
theorem at1_rng {b : List Int} (hb : byteP b) (i : Nat) : 0 ≤ at1 b i ∧ at1 b i ≤ 255 := by
  by_cases h : i < b.length
  · rw [at1_get h]; exact hb.get h
  · unfold at1 lget
    rw [List.getD_eq_getElem?_getD, List.getElem?_eq_none (by omega)]
    decide
theorem at8_rng (b : List Int) (i : Nat) : inI (at8 b i) := wr_rng _
/-- A reader of a state's bytes, at a place. -/
def rdr (b : List Int) (k : Nat) (od : Bool) : SReader := ⟨(b.take (b.length - 4)).drop k, od⟩
theorem cut_in {b : List Int} {n k m : Nat} (h : k + m ≤ n) : ((b.take n).drop k).take m = (b.drop k).take m := by
  rw [List.drop_take, List.take_take, Nat.min_eq_left (by omega)]
theorem take_one {b : List Int} {k : Nat} (h : k < b.length) : (b.drop k).take 1 = [at1 b k] := by
  rw [at1_get h, List.drop_eq_getElem_cons h]; rfl
theorem rd8 {b : List Int} (hb : byteP b) {k : Nat} {od : Bool} (h : k + 8 ≤ b.length - 4) : F_row_reader_num (rdr b k od) 8 = some (rdr b (k + 8) od, at8 b k) := by
  have := e_num (r := rdr b k od) (k := 8) (by simp only [rdr, List.length_drop, List.length_take]; omega) (by decide) ((hb.take _).drop _)
  rw [show (8 : Int) = ((8 : Nat) : Int) from rfl, this]
  simp only [rdr, List.drop_drop, cut_in h]
  rfl
theorem rd1 {b : List Int} (hb : byteP b) {k : Nat} {od : Bool} (h : k + 1 ≤ b.length - 4) : F_row_reader_one (rdr b k od) = some (rdr b (k + 1) od, at1 b k) := by
  have := e_num (r := rdr b k od) (k := 1) (by simp only [rdr, List.length_drop, List.length_take]; omega) (by decide) ((hb.take _).drop _)
  unfold F_row_reader_one
  rw [show (1 : Int) = ((1 : Nat) : Int) from rfl, this, ob_some]
  simp only [rdr, List.drop_drop, cut_in h]
  rw [take_one (by omega)]
  have h1 := at1_rng hb k
  have : wr .i64 (unZ [at1 b k]) = at1 b k := by
    show wr .i64 (0 * 256 + at1 b k) = _
    rw [Int.zero_mul, Int.zero_add, wr_small h1.1 (by omega)]
  rw [this]
theorem rdf {b : List Int} (hb : byteP b) {k : Nat} {od : Bool} (h : k + 1 ≤ b.length - 4) : F_row_reader_flag (rdr b k od) = some (rdr b (k + 1) (bor od (ilt 1 (at1 b k))), ieq (at1 b k) 1) := by
  unfold F_row_reader_flag
  rw [rd1 hb h, ob_some]
  rfl
def ordZ (b : List Int) (k : Nat) : SOrder := ⟨at8 b k, at1 b (k + 8), at1 b (k + 9), at1 b (k + 10), at8 b (k + 12), at8 b (k + 20), at8 b (k + 28), at1 b (k + 11), at8 b (k + 36), at8 b (k + 44), at8 b (k + 52), ieq (at1 b (k + 60)) 1⟩
theorem rdo {b : List Int} (hb : byteP b) {k : Nat} {od : Bool} (h : k + 61 ≤ b.length - 4) : F_row_reader_order (rdr b k od) = some (rdr b (k + 61) (bor od (ilt 1 (at1 b (k + 60)))), ordZ b k) := by
  unfold F_row_reader_order
  rw [rd8 hb (by omega), ob_some, rd1 hb (by omega), ob_some, rd1 hb (by omega), ob_some, rd1 hb (by omega), ob_some, rd1 hb (by omega), ob_some, rd8 hb (by omega), ob_some, rd8 hb (by omega), ob_some, rd8 hb (by omega), ob_some, rd8 hb (by omega), ob_some, rd8 hb (by omega), ob_some, rd8 hb (by omega), ob_some, rdf hb (by omega), ob_some]
  rfl
/-- A list that is filled one by one. -/
def mapR {α : Type} [Inhabited α] (f : Nat → α) (i n : Nat) : List α := (List.range i).map f ++ List.replicate (n - i) default
theorem mapR_len {α : Type} [Inhabited α] (f : Nat → α) {i n : Nat} (h : i ≤ n) : (mapR f i n).length = n := by
  simp only [mapR, List.length_append, List.length_map, List.length_range, List.length_replicate]; omega
theorem mapR_set {α : Type} [Inhabited α] (f : Nat → α) {i n : Nat} (h : i < n) : lset (mapR f i n) (itn (i : Int)) (f i) = mapR f (i + 1) n := by
  unfold lset mapR
  rw [itn_nat, List.set_append, if_neg (by simp), List.range_succ, List.map_append]
  have : n - i = (n - (i + 1)) + 1 := by omega
  rw [this, List.replicate_succ]
  simp
theorem mapR_get {α : Type} [Inhabited α] (f : Nat → α) {i n : Nat} (h : i < n) : lget (mapR f i n) (itn (i : Int)) = default := by
  unfold lget mapR
  rw [itn_nat, List.getD_eq_getElem?_getD, List.getElem?_append_right (by simp)]
  have h2 : 0 < n - i := by omega
  simp [List.getElem?_replicate, h2]
theorem mapR_zero {α : Type} [Inhabited α] (f : Nat → α) (n : Nat) : mapR f 0 n = lrep α n := by simp [mapR, lrep]
theorem mapR_full {α : Type} [Inhabited α] (f : Nat → α) (n : Nat) : mapR f n n = (List.range n).map f := by simp [mapR]
def nZ (b : List Int) (k : Nat) : Nat := (at1 b k).toNat
theorem nZ_eq {b : List Int} (hb : byteP b) (k : Nat) : (nZ b k : Int) = at1 b k := by
  have := at1_rng hb k
  unfold nZ; omega
def cellZ (b : List Int) (k : Nat) : SCell := ⟨at8 b k, 0, 0, 0⟩
def limZ (b : List Int) (k : Nat) : SExpo := ⟨at8 b k, at8 b (k + 8), at8 b (k + 16)⟩
def cN (b : List Int) : Nat := nZ b 4 * nZ b 5
def off2 (b : List Int) : Nat := 32 + 61 * nZ b 7
def off3 (b : List Int) : Nat := off2 b + 8 * cN b
def off4 (b : List Int) : Nat := off3 b + 24 * cN b
def ordsZ (b : List Int) : List SOrder := (List.range (nZ b 7)).map fun i => ordZ b (32 + 61 * i)
def cellsZ (b : List Int) : List SCell := (List.range (cN b)).map fun i => cellZ b (off2 b + 8 * i)
def limsZ (b : List Int) : List SExpo := (List.range (cN b)).map fun i => limZ b (off3 b + 24 * i)
def capsZ (b : List Int) : List Int := (List.range (nZ b 4)).map fun i => at8 b (off4 b + 8 * i)
/-- What bytes tell, but for what is open in the cells. -/
def pZ (b : List Int) : SState := ⟨at1 b 4, at1 b 5, ordsZ b, cellsZ b, limsZ b, capsZ b, ieq (at1 b 6) 1, at8 b 8, at8 b 16, at8 b 24⟩
def fillS (s : SState) : SState := withS s s.orders
/-- Are there just as many bytes as there must be? -/
structure FormP (b : List Int) : Prop where
  many : 36 ≤ b.length
  mark : b.take 4 = magic
  acc : 1 ≤ at1 b 4 ∧ at1 b 4 ≤ 8
  sym : 1 ≤ at1 b 5 ∧ at1 b 5 ≤ 8
  ords : at1 b 7 ≤ 64
  just : b.length = off4 b + 8 * nZ b 4 + 4
def sumP (b : List Int) : Prop := b.drop (b.length - 4) = tailZ (crcZ (b.take (b.length - 4)))
def oddP (b : List Int) : Prop := 1 < at1 b 6 ∨ ∃ i, i < nZ b 7 ∧ 1 < at1 b (32 + 61 * i + 60)
def goodP (b : List Int) : Prop := ¬ oddP b ∧ RightS (fillS (pZ b))
structure DecQ (b : List Int) (r : SState × Int) : Prop where
  form : ¬ FormP b → r = (zS, 2)
  sum : FormP b → ¬ sumP b → r = (zS, 10)
  bad : FormP b → sumP b → ¬ goodP b → r = (zS, 2)
  good : FormP b → sumP b → goodP b → r = (fillS (pZ b), 0)
theorem DecQ.uniq {b : List Int} {r r' : SState × Int} (h : DecQ b r) (k : DecQ b r') : r = r' := by
  by_cases h1 : FormP b
  · by_cases h2 : sumP b
    · by_cases h3 : goodP b
      · rw [h.good h1 h2 h3, k.good h1 h2 h3]
      · rw [h.bad h1 h2 h3, k.bad h1 h2 h3]
    · rw [h.sum h1 h2, k.sum h1 h2]
  · rw [h.form h1, k.form h1]
theorem FormP.nums {b : List Int} (h : FormP b) : (1 ≤ nZ b 4 ∧ nZ b 4 ≤ 8) ∧ (1 ≤ nZ b 5 ∧ nZ b 5 ≤ 8) ∧ nZ b 7 ≤ 64 ∧ cN b ≤ 64 := by
  obtain ⟨_, _, h1, h2, h3, _⟩ := h
  have hm : nZ b 4 * nZ b 5 ≤ 8 * 8 := Nat.mul_le_mul (by unfold nZ; omega) (by unfold nZ; omega)
  unfold cN
  unfold nZ at hm ⊢
  refine ⟨⟨by omega, by omega⟩, ⟨by omega, by omega⟩, by omega, hm⟩
theorem FormP.cN {b : List Int} (hb : byteP b) (h : FormP b) : (cN b : Int) = at1 b 4 * at1 b 5 := by
  unfold Go.Av.cN
  rw [Int.natCast_mul, nZ_eq hb, nZ_eq hb]
theorem pZ_sized {b : List Int} (hb : byteP b) (h : FormP b) : sizedP (pZ b) := by
  have hn := h.nums
  have hc := h.cN hb
  refine ⟨h.acc, h.sym, ?_, ?_, ?_, ?_⟩
  · show ((cellsZ b).length : Int) = _
    simp only [cellsZ, List.length_map, List.length_range]
    exact hc
  · show ((limsZ b).length : Int) = ((cellsZ b).length : Int)
    simp only [cellsZ, limsZ, List.length_map, List.length_range]
  · show ((capsZ b).length : Int) = at1 b 4
    simp only [capsZ, List.length_map, List.length_range, nZ_eq hb]
  · show (ordsZ b).length ≤ 64
    simp only [ordsZ, List.length_map, List.length_range]; omega
theorem byte_inI {n : Int} (h : 0 ≤ n ∧ n ≤ 255) : inI n := ⟨by omega, by omega⟩
theorem ordZ_ok {b : List Int} (hb : byteP b) (k : Nat) : Ok_order (ordZ b k) :=
  ⟨at8_rng b _, byte_inI (at1_rng hb _), byte_inI (at1_rng hb _), byte_inI (at1_rng hb _), at8_rng b _, at8_rng b _, at8_rng b _, byte_inI (at1_rng hb _), at8_rng b _, at8_rng b _, at8_rng b _⟩
/-- The bytes of orders. -/
theorem lp_orders {b : List Int} (hb : byteP b) (hf : FormP b) {kl : Bool} {l1 l2 l3 : Int} {od : Bool} (hod : od = true ↔ 1 < at1 b 6) :
    Wq (iterN (fun v : Int × Int × Int × List SOrder × List SCell × List SExpo × List Int × Bool × Int × Int × Int × SReader => L_row_Decode_250_row_reader_state_c150 (nZ b 7 : Int) v.1 v.2.1 v.2.2.1 v.2.2.2.1 v.2.2.2.2.1 v.2.2.2.2.2.1 v.2.2.2.2.2.2.1 v.2.2.2.2.2.2.2.1 v.2.2.2.2.2.2.2.2.1 v.2.2.2.2.2.2.2.2.2.1 v.2.2.2.2.2.2.2.2.2.2.1 v.2.2.2.2.2.2.2.2.2.2.2) LF
      (0, at1 b 4, at1 b 5, lrep SOrder (nZ b 7), [], [], [], kl, l1, l2, l3, rdr b 32 od)) fun w => ∃ od', (od' = true ↔ oddP b) ∧ w = (at1 b 4, at1 b 5, ordsZ b, [], [], [], kl, l1, l2, l3, rdr b (off2 b) od') := by
  have hn := hf.nums
  have hj := hf.just
  unfold off4 off3 off2 at hj
  refine w_for (n := nZ b 7) (by omega) (fun i x => ∃ od', (od' = true ↔ (1 < at1 b 6 ∨ ∃ j, j < i ∧ 1 < at1 b (32 + 61 * j + 60))) ∧ x = (at1 b 4, at1 b 5, mapR (fun i => ordZ b (32 + 61 * i)) i (nZ b 7), [], [], [], kl, l1, l2, l3, rdr b (32 + 61 * i) od')) _ ?_ ?_ _ 0 (Nat.zero_le _) ⟨od, ?_, ?_⟩
  · rintro i x hi ⟨od', h1, rfl⟩
    simp only
    unfold L_row_Decode_250_row_reader_state_c150
    rw [cnd_t (ilt_t (by omega)), rdo hb (by omega), ob_some, cnd_t (inb _ i (by rw [mapR_len _ (by omega)]; exact hi)), w_some]
    refine ⟨wr_succ (by omega), bor od' (ilt 1 (at1 b (32 + 61 * i + 60))), ?_, ?_⟩
    · rw [bor_T, h1, ilt_T]
      constructor
      · rintro ((h | ⟨j, h2, h3⟩) | h)
        · exact .inl h
        · exact .inr ⟨j, by omega, h3⟩
        · exact .inr ⟨i, by omega, h⟩
      · rintro (h | ⟨j, h2, h3⟩)
        · exact .inl (.inl h)
        · by_cases hji : j = i
          · subst hji; exact .inr h3
          · exact .inl (.inr ⟨j, by omega, h3⟩)
    · simp only
      rw [mapR_set (fun i => ordZ b (32 + 61 * i)) hi]
      rfl
  · rintro x ⟨od', h1, rfl⟩
    simp only
    unfold L_row_Decode_250_row_reader_state_c150
    rw [cnd_f (ilt_f (by omega)), w_some, mapR_full]
    exact ⟨od', h1, rfl⟩
  · rw [hod]
    exact ⟨.inl, fun h => by
      rcases h with h | ⟨j, hj, _⟩
      · exact h
      · omega⟩
  · rw [mapR_zero]
theorem lp_cells {b : List Int} (hb : byteP b) (hf : FormP b) {a y : Int} {os : List SOrder} {kl : Bool} {l1 l2 l3 : Int} {od : Bool} :
    Wq (iterN (fun v : Int × Int × Int × List SOrder × List SCell × List SExpo × List Int × Bool × Int × Int × Int × SReader => L_row_Decode_1018_row_reader_state_c150 (cN b : Int) v.1 v.2.1 v.2.2.1 v.2.2.2.1 v.2.2.2.2.1 v.2.2.2.2.2.1 v.2.2.2.2.2.2.1 v.2.2.2.2.2.2.2.1 v.2.2.2.2.2.2.2.2.1 v.2.2.2.2.2.2.2.2.2.1 v.2.2.2.2.2.2.2.2.2.2.1 v.2.2.2.2.2.2.2.2.2.2.2) LF
      (0, a, y, os, lrep SCell (cN b), [], [], kl, l1, l2, l3, rdr b (off2 b) od)) fun w => w = (a, y, os, cellsZ b, [], [], kl, l1, l2, l3, rdr b (off3 b) od) := by
  have hn := hf.nums
  have hj := hf.just
  unfold off4 at hj
  refine w_for (n := cN b) (by omega) (fun i x => x = (a, y, os, mapR (fun i => cellZ b (off2 b + 8 * i)) i (cN b), [], [], kl, l1, l2, l3, rdr b (off2 b + 8 * i) od)) _ ?_ ?_ _ 0 (Nat.zero_le _) ?_
  · rintro i x hi rfl
    simp only
    unfold L_row_Decode_1018_row_reader_state_c150
    have : off3 b = off2 b + 8 * cN b := rfl
    rw [cnd_t (ilt_t (by omega)), rd8 hb (by omega), ob_some, cnd_t (inb _ i (by rw [mapR_len _ (by omega)]; exact hi)), w_some, mapR_get _ hi]
    refine ⟨wr_succ (by omega), ?_⟩
    simp only
    rw [show SCell.mk (at8 b (off2 b + 8 * i)) (default : SCell).buy (default : SCell).sell (default : SCell).opn = (fun i => cellZ b (off2 b + 8 * i)) i from rfl, mapR_set (fun i => cellZ b (off2 b + 8 * i)) hi]
    rfl
  · rintro x rfl
    simp only
    unfold L_row_Decode_1018_row_reader_state_c150
    rw [cnd_f (ilt_f (by omega)), w_some, mapR_full]
    rfl
  · rw [mapR_zero]; rfl
theorem lp_lims {b : List Int} (hb : byteP b) (hf : FormP b) {a y : Int} {os : List SOrder} {cs : List SCell} {kl : Bool} {l1 l2 l3 : Int} {od : Bool} :
    Wq (iterN (fun v : Int × Int × Int × List SOrder × List SCell × List SExpo × List Int × Bool × Int × Int × Int × SReader => L_row_Decode_2042_row_reader_state_c150 (cN b : Int) v.1 v.2.1 v.2.2.1 v.2.2.2.1 v.2.2.2.2.1 v.2.2.2.2.2.1 v.2.2.2.2.2.2.1 v.2.2.2.2.2.2.2.1 v.2.2.2.2.2.2.2.2.1 v.2.2.2.2.2.2.2.2.2.1 v.2.2.2.2.2.2.2.2.2.2.1 v.2.2.2.2.2.2.2.2.2.2.2) LF
      (0, a, y, os, cs, [], [], kl, l1, l2, l3, rdr b (off3 b) od)) fun w => w = (a, y, os, cs, limsZ b, [], kl, l1, l2, l3, rdr b (off4 b) od) := by
  have hn := hf.nums
  have hj := hf.just
  refine w_for (n := cN b) (by omega) (fun i x => x = (a, y, os, cs, (List.range i).map (fun i => limZ b (off3 b + 24 * i)), [], kl, l1, l2, l3, rdr b (off3 b + 24 * i) od)) _ ?_ ?_ _ 0 (Nat.zero_le _) rfl
  · rintro i x hi rfl
    simp only
    unfold L_row_Decode_2042_row_reader_state_c150
    have : off4 b = off3 b + 24 * cN b := rfl
    rw [cnd_t (ilt_t (by omega)), rd8 hb (by omega), ob_some, rd8 hb (by omega), ob_some, rd8 hb (by omega), ob_some, cnd_t (len_lt (n := 1000) (by simp [lapp]; omega) (by decide)), w_some]
    refine ⟨wr_succ (by omega), ?_⟩
    simp only
    rw [List.range_succ, List.map_append]
    rfl
  · rintro x rfl
    simp only
    unfold L_row_Decode_2042_row_reader_state_c150
    rw [cnd_f (ilt_f (by omega)), w_some]
    rfl
theorem lp_caps {b : List Int} (hb : byteP b) (hf : FormP b) {y : Int} {os : List SOrder} {cs : List SCell} {ls : List SExpo} {kl : Bool} {l1 l2 l3 : Int} {od : Bool} (a : Int) :
    Wq (iterN (fun v : Int × Int × Int × List SOrder × List SCell × List SExpo × List Int × Bool × Int × Int × Int × SReader => L_row_Decode_4090_row_reader_state_c150 (nZ b 4 : Int) v.1 v.2.1 v.2.2.1 v.2.2.2.1 v.2.2.2.2.1 v.2.2.2.2.2.1 v.2.2.2.2.2.2.1 v.2.2.2.2.2.2.2.1 v.2.2.2.2.2.2.2.2.1 v.2.2.2.2.2.2.2.2.2.1 v.2.2.2.2.2.2.2.2.2.2.1 v.2.2.2.2.2.2.2.2.2.2.2) LF
      (0, a, y, os, cs, ls, [], kl, l1, l2, l3, rdr b (off4 b) od)) fun w => w = (a, y, os, cs, ls, capsZ b, kl, l1, l2, l3, rdr b (off4 b + 8 * nZ b 4) od) := by
  have hn := hf.nums
  have hj := hf.just
  refine w_for (n := nZ b 4) (by omega) (fun i x => x = (a, y, os, cs, ls, (List.range i).map (fun i => at8 b (off4 b + 8 * i)), kl, l1, l2, l3, rdr b (off4 b + 8 * i) od)) _ ?_ ?_ _ 0 (Nat.zero_le _) rfl
  · rintro i x hi rfl
    simp only
    unfold L_row_Decode_4090_row_reader_state_c150
    rw [cnd_t (ilt_t (by omega)), rd8 hb (by omega), ob_some, cnd_t (len_lt (n := 1000) (by simp [lapp]; omega) (by decide)), w_some]
    refine ⟨wr_succ (by omega), ?_⟩
    simp only
    rw [List.range_succ, List.map_append]
    rfl
  · rintro x rfl
    simp only
    unfold L_row_Decode_4090_row_reader_state_c150
    rw [cnd_f (ilt_f (by omega)), w_some]
    rfl
theorem e_cell_Come_bad {c : SCell} {o : SOrder} (hk : Ok_cell c) (h : ¬ (okC c ∧ ordP o)) : F_cell_Come c o = some (c, 1) := by
  unfold F_cell_Come
  rw [e_cell_Right hk, ob_some]
  by_cases h1 : okC c
  · have h2 : ¬ ordP o := fun h2 => h ⟨h1, h2⟩
    rw [decide_eq_true h1, e_order_Right, decide_eq_false h2, bnot_true, bnot_false, cnd_true, ob_some, bnot_false, bor_true', cnd_true]
  · rw [decide_eq_false h1, bnot_false, bnot_true, cnd_false, ob_some, bnot_false, bor_true, cnd_true]
theorem okC_part {p : Int} {a b : SCell} (hp : inI p) (ha : nnC a) (hb : nnC b) (h : okC (cadd ⟨p, 0, 0, 0⟩ (cadd a b))) : okC (cadd ⟨p, 0, 0, 0⟩ a) := by
  obtain ⟨hk, _, r1, r2⟩ := h
  have h1 := hk.buy; have h2 := hk.sell; have h3 := hk.opn
  unfold nnC at ha hb
  simp only [cadd] at h1 h2 h3 r1 r2
  unfold inI at *
  refine ⟨⟨?_, ?_, ?_, ?_⟩, ⟨?_, ?_, ?_⟩, ?_, ?_⟩ <;> simp only [cadd, inI] <;> omega
theorem withS_right_ord {p : SState} (h : RightS (fillS p)) : ∀ o ∈ p.orders, orderIn p o := fun o ho => by
  have := h.fine.ords o ho
  exact this
/-- What a whole right state says of a part of its orders. -/
theorem fill_part {p : SState} (hc : ∀ c ∈ p.cells, inI c.pos) (ho : ∀ o ∈ p.orders, Ok_order o) (h : RightS (fillS p)) {k : Nat} (hk : k < p.cells.length) (i : Nat) : okC (cadd ⟨p.cells[k].pos, 0, 0, 0⟩ (sumC p.symbols k (p.orders.take i))) := by
  have hin := withS_right_ord h
  have hm : (mkCells p p.orders)[k]'(by rw [mkCells_len]; exact hk) ∈ (fillS p).cells := List.getElem_mem _
  have := h.ok _ hm
  rw [mkCells_get] at this
  have e : sumC p.symbols k p.orders = cadd (sumC p.symbols k (p.orders.take i)) (sumC p.symbols k (p.orders.drop i)) := by
    rw [← sumC_append, List.take_append_drop]
  rw [e] at this
  exact okC_part (hc _ (List.getElem_mem _)) (sumC_nn _ _ fun o h => ⟨(hin o (List.mem_of_mem_take h)).1, ho o (List.mem_of_mem_take h)⟩) (sumC_nn _ _ fun o h => ⟨(hin o (List.mem_of_mem_drop h)).1, ho o (List.mem_of_mem_drop h)⟩) this
theorem s_fill {p : SState} (hs : sizedP p) (ho : ∀ o ∈ p.orders, Ok_order o ∧ 0 ≤ o.account ∧ 0 ≤ o.symbol) (hc : ∀ c ∈ p.cells, inI c.pos ∧ c = ⟨c.pos, 0, 0, 0⟩) :
    Wq (iterN (fun v : Int × Bool × Int × Int × Unit × Unit × Unit × Unit × Bool × Int × Int × Int × List SOrder × List SCell × List SExpo × List Int => L_row_Decode_26_row_fill_c564 (len p.orders) v.1 v.2.1 v.2.2.1 v.2.2.2.1 v.2.2.2.2.1 v.2.2.2.2.2.1 v.2.2.2.2.2.2.1 v.2.2.2.2.2.2.2.1 v.2.2.2.2.2.2.2.2.1 v.2.2.2.2.2.2.2.2.2.1 v.2.2.2.2.2.2.2.2.2.2.1 v.2.2.2.2.2.2.2.2.2.2.2.1 v.2.2.2.2.2.2.2.2.2.2.2.2.1 v.2.2.2.2.2.2.2.2.2.2.2.2.2.1 v.2.2.2.2.2.2.2.2.2.2.2.2.2.2.1 v.2.2.2.2.2.2.2.2.2.2.2.2.2.2.2) LF
      (0, false, p.accounts, p.symbols, PUnit.unit, PUnit.unit, PUnit.unit, PUnit.unit, p.kill, p.last, p.seq, p.lsn, p.orders, p.cells, p.limits, p.caps)) fun w => match w with
      | .inl w => w.1 = false ∧ ¬ RightS (fillS p)
      | .inr w => (∀ c ∈ mkCells p p.orders, Ok_cell c) ∧ ∃ f, w = (f, p.accounts, p.symbols, PUnit.unit, PUnit.unit, PUnit.unit, PUnit.unit, p.kill, p.last, p.seq, p.lsn, p.orders, mkCells p p.orders, p.limits, p.caps) := by
  obtain ⟨hcl, _, _, hol⟩ := hs.lens
  refine w_for (n := p.orders.length) (by omega) (fun i x => ∃ cs : List SCell, x = (false, p.accounts, p.symbols, PUnit.unit, PUnit.unit, PUnit.unit, PUnit.unit, p.kill, p.last, p.seq, p.lsn, p.orders, cs, p.limits, p.caps) ∧
    cs.length = p.cells.length ∧ (∀ (j : Nat) (h : j < cs.length) (h' : j < p.cells.length), cs[j] = cadd ⟨p.cells[j].pos, 0, 0, 0⟩ (sumC p.symbols j (p.orders.take i))) ∧ (∀ c ∈ cs, Ok_cell c) ∧ ∀ o ∈ p.orders.take i, orderIn p o ∨ (ordP o ∧ o.account < p.accounts ∧ o.symbol < p.symbols)) _ ?_ ?_ _ 0 (Nat.zero_le _) ?_
  · rintro i x hi ⟨cs, rfl, h1, h2, h3, h4⟩
    simp only
    unfold L_row_Decode_26_row_fill_c564
    rw [rd_in p.orders hi, lget_nat _ i hi]
    obtain ⟨hor, ha0, hy0⟩ := ho _ (List.getElem_mem hi)
    obtain ⟨o, hoe⟩ : ∃ o, o = p.orders[i] := ⟨_, rfl⟩
    have hom : o ∈ p.orders := hoe ▸ List.getElem_mem hi
    rw [← hoe] at hor ha0 hy0 ⊢
    unfold F_book_Place
    simp only
    by_cases hin : o.account < p.accounts ∧ o.symbol < p.symbols
    · have hplc : bor (bor (bor (ilt o.account 0) (ile p.accounts o.account)) (ilt o.symbol 0)) (ile p.symbols o.symbol) = false := by
        simp only [band_T, band_F, bor_T, bor_F, bnot_T, bnot_F, ilt_T, ilt_F, ile_T, ile_F, ieq_T, ieq_F, beq_T, beq_F]; omega
      have hco := s_cellOf hs o.account o.symbol ha0 hin.1 hy0 hin.2
      obtain ⟨k, hk, hkn⟩ : ∃ k : Nat, (k : Int) = o.account * p.symbols + o.symbol ∧ k < p.cells.length := by
        have m := mul_le64 (a := o.account) (b := p.symbols) ha0 (by have := hs.1.2; omega) (by have := hs.2.1.1; omega) (by have := hs.2.1.2; omega)
        have hcc : (p.cells.length : Int) = p.accounts * p.symbols := hs.2.2.1
        have : o.account * p.symbols + p.symbols ≤ p.accounts * p.symbols := by
          have := Int.mul_le_mul_of_nonneg_right (show o.account + 1 ≤ p.accounts by omega) (show 0 ≤ p.symbols by have := hs.2.1.1; omega)
          rw [Int.add_mul, Int.one_mul] at this
          exact this
        exact ⟨(o.account * p.symbols + o.symbol).toNat, by omega, by omega⟩
      have hcell : F_book_ledger_cellOf (SState.mk p.accounts p.symbols p.orders cs p.limits p.caps p.kill p.last p.seq p.lsn) o.account o.symbol = some (k : Int) := by
        unfold F_book_ledger_cellOf
        simp only
        unfold iadd imul
        have m := mul_le64 (a := o.account) (b := p.symbols) ha0 (by have := hs.1.2; omega) (by have := hs.2.1.1; omega) (by have := hs.2.1.2; omega)
        have := hs.2.1.2
        rw [wr_small m.1 (by omega), wr_small (by omega) (by omega), hk]
      have hkc : k < cs.length := by omega
      rw [hplc, cnd_false, hcell, ob_some, ob_some, cnd_f (by rw [ieq_F]; omega), cnd_t (inb cs k hkc), lget_nat _ k hkc]
      have hck := h2 k hkc hkn
      have hokc := h3 _ (List.getElem_mem hkc)
      by_cases hbad : okC cs[k] ∧ ordP o
      · have hcadd : addC cs[k] o = cadd ⟨p.cells[k].pos, 0, 0, 0⟩ (sumC p.symbols k (p.orders.take (i + 1))) := by
          rw [addC_eq, hck, List.take_succ_eq_append_getElem hi, sumC_append, sumC_one, cadd_assoc, ← hoe]
          unfold inC
          rw [if_pos (by unfold atZ; omega)]
        rw [e_cell_Come hbad.1 hbad.2 hor, ob_some]
        by_cases hnew : okC (addC cs[k] o)
        · rw [if_pos hnew]
          simp only [ieq_00, bnot_true, cnd_false]
          rw [cnd_t (inb cs k hkc), w_some]
          refine ⟨wr_succ (by omega), _, rfl, by rw [lset_len]; exact h1, fun j hj hj' => ?_, fun c hcm => ?_, fun o' ho' => ?_⟩
          · rw [lset_getI]
            split
            · rename_i e; subst e
              exact hcadd
            · rename_i e
              rw [h2 j (by rw [lset_len] at hj; exact hj) hj', List.take_succ_eq_append_getElem hi, sumC_append, sumC_one, ← hoe]
              unfold inC
              rw [if_neg (by unfold atZ; omega), cadd_z]
          · unfold lset at hcm
            rcases List.mem_or_eq_of_mem_set hcm with h | h
            · exact h3 c h
            · rw [h]; exact hnew.1
          · rcases (mem_take_succ hi).1 ho' with h | h
            · exact h4 o' h
            · rw [h, ← hoe]; exact .inr ⟨hbad.2, hin⟩
        · rw [if_neg hnew]
          simp only [ieq_30, bnot_false, cnd_true]
          rw [w_some]
          exact ⟨rfl, fun hR => hnew (by rw [hcadd]; exact fill_part (fun c h => (hc c h).1) (fun o h => (ho o h).1) hR hkn (i + 1))⟩
      · rw [e_cell_Come_bad hokc hbad, ob_some]
        have : ieq 1 0 = false := rfl
        simp only [this, bnot_false, cnd_true]
        rw [w_some]
        refine ⟨rfl, fun hR => hbad ⟨?_, (withS_right_ord hR o hom).1⟩⟩
        rw [hck]
        exact fill_part (fun c h => (hc c h).1) (fun o h => (ho o h).1) hR hkn i
    · have hplc : bor (bor (bor (ilt o.account 0) (ile p.accounts o.account)) (ilt o.symbol 0)) (ile p.symbols o.symbol) = true := by
        simp only [band_T, band_F, bor_T, bor_F, bnot_T, bnot_F, ilt_T, ilt_F, ile_T, ile_F, ieq_T, ieq_F, beq_T, beq_F]; omega
      rw [hplc, cnd_true, ob_some]
      have : ieq (-1) (-1) = true := rfl
      rw [this, cnd_true, w_some]
      exact ⟨rfl, fun hR => hin (withS_right_ord hR o hom).2.2⟩
  · rintro x ⟨cs, rfl, h1, h2, h3, h4⟩
    simp only
    unfold L_row_Decode_26_row_fill_c564
    have e : cs = mkCells p p.orders := by
      refine List.ext_getElem (by rw [h1, mkCells_len]) fun j hj hj' => ?_
      rw [h2 j hj (by omega), mkCells_get, List.take_length]
    rw [rd_out, w_some, ← e]
    exact ⟨h3, false, rfl⟩
  · refine ⟨p.cells, rfl, rfl, fun j h h' => ?_, fun c h => ?_, fun o h => by simp at h⟩
    · have := (hc _ (List.getElem_mem h)).2
      rw [List.take_zero]
      show _ = cadd _ zC
      rw [cadd_z]; exact this
    · obtain ⟨h1, h2⟩ := hc c h
      rw [h2]
      exact ⟨h1, ⟨by simp only; omega, by simp only; omega⟩, ⟨by simp only; omega, by simp only; omega⟩, ⟨by simp only; omega, by simp only; omega⟩⟩
theorem u2s_inj {a b : List Int} (ha : byteP a) (hb : byteP b) : u2s a = u2s b ↔ a = b := by
  refine ⟨fun h => ?_, fun h => by rw [h]⟩
  unfold u2s at h
  have hl : a.length = b.length := by simpa using congrArg List.length h
  refine List.ext_getElem hl fun i h1 h2 => ?_
  have hi : (a.map fun n => UInt8.ofNat n.toNat)[i]'(by simpa using h1) = (b.map fun n => UInt8.ofNat n.toNat)[i]'(by simpa using h2) := by simp only [h]
  simp only [List.getElem_map] at hi
  have b1 := ha.get h1
  have b2 := hb.get h2
  have := congrArg UInt8.toNat hi
  simp only [UInt8.toNat_ofNat'] at this
  omega
theorem sum_loop {t : List Int} (ht : t.length = 4) {n : Int} : Wq (iterN (fun v : Int × Int × SState => L_row_Decode_1018 (len t) t n v.1 v.2.1 v.2.2) LF (0, 0, zS)) fun w => match w with
    | .inl w => t ≠ tailZ n ∧ w = (10, zS)
    | .inr w => t = tailZ n := by
  refine w_for (n := 4) (by decide) (fun i x => x = (0, zS) ∧ ∀ (k : Nat) (h : k < t.length) (h' : k < (tailZ n).length), k < i → t[k] = (tailZ n)[k]) _ ?_ ?_ _ 0 (by decide) ⟨rfl, fun k _ _ h => by omega⟩
  · rintro i x hi ⟨rfl, h⟩
    simp only
    unfold L_row_Decode_1018
    have hit : i < t.length := by omega
    obtain ⟨q1, q2⟩ := byte32 (n := n) hi
    rw [rd_in t hit, lget_nat t i hit, cnd_t q1, q2]
    have hti : (tailZ n)[i]'(by simp [tailZ]; omega) = n / 256 ^ i % 256 := tail_get n hi
    by_cases he : t[i] = n / 256 ^ i % 256
    · rw [cnd_f (by simp only [band_T, band_F, bor_T, bor_F, bnot_T, bnot_F, ilt_T, ilt_F, ile_T, ile_F, ieq_T, ieq_F, beq_T, beq_F]; exact he), w_some]
      refine ⟨wr_succ (by omega), rfl, fun k h1 h2 hk => ?_⟩
      by_cases hki : k = i
      · subst hki; rw [he, hti]
      · exact h k h1 h2 (by omega)
    · rw [cnd_t (by simp only [band_T, band_F, bor_T, bor_F, bnot_T, bnot_F, ilt_T, ilt_F, ile_T, ile_F, ieq_T, ieq_F, beq_T, beq_F]; exact he), w_some]
      refine ⟨fun hh => he ?_, rfl⟩
      rw [← hti]
      simp only [hh]
  · rintro x ⟨rfl, h⟩
    simp only
    unfold L_row_Decode_1018
    rw [cnd_f (ilt_f (by unfold len; omega)), w_some]
    exact List.ext_getElem (by rw [ht]; rfl) fun k h1 h2 => h k h1 h2 (by omega)
theorem noS : SState.mk 0 0 [] [] [] [] false 0 0 0 = zS := rfl
theorem fill_ok {b : List Int} (hb : byteP b) (hf : FormP b) (hc : ∀ c ∈ mkCells (pZ b) (pZ b).orders, Ok_cell c) : Ok_state (fillS (pZ b)) := by
  have hs := pZ_sized hb hf
  obtain ⟨l1, l2, l3, l4⟩ := hs.lens
  have hc8 := at8_rng b
  refine ⟨byte_inI (at1_rng hb _), byte_inI (at1_rng hb _), ⟨fun o ho => ?_, by show (pZ b).orders.length ≤ _; omega⟩, ⟨hc, by show (mkCells _ _).length ≤ _; rw [mkCells_len]; omega⟩, ⟨fun x hx => ?_, by show (pZ b).limits.length ≤ _; omega⟩, ⟨fun x hx => ?_, ?_⟩, hc8 _, hc8 _, hc8 _⟩
  · obtain ⟨i, _, rfl⟩ := List.mem_map.1 (show o ∈ ordsZ b from ho)
    exact ordZ_ok hb _
  · obtain ⟨i, _, rfl⟩ := List.mem_map.1 (show x ∈ limsZ b from hx)
    exact ⟨hc8 _, hc8 _, hc8 _⟩
  · obtain ⟨i, _, rfl⟩ := List.mem_map.1 (show x ∈ capsZ b from hx)
    exact hc8 _
  · have := hf.nums
    show (pZ b).caps.length ≤ _
    rw [l3]
    have := hf.acc
    have e : (pZ b).accounts = at1 b 4 := rfl
    omega
theorem fill_short {b : List Int} (hb : byteP b) (hf : FormP b) : shortP (fillS (pZ b)) := by
  have hs := pZ_sized hb hf
  obtain ⟨l1, l2, l3, l4⟩ := hs.lens
  have := hf.acc
  have e : (pZ b).accounts = at1 b 4 := rfl
  refine ⟨?_, ?_, ?_, ?_⟩
  · show (pZ b).orders.length < _; omega
  · show (mkCells _ _).length < _; rw [mkCells_len]; omega
  · show (pZ b).limits.length < _; omega
  · show (pZ b).caps.length < _; omega
theorem pZ_ords {b : List Int} (hb : byteP b) : ∀ o ∈ (pZ b).orders, Ok_order o ∧ 0 ≤ o.account ∧ 0 ≤ o.symbol := fun o ho => by
  obtain ⟨i, _, rfl⟩ := List.mem_map.1 (show o ∈ ordsZ b from ho)
  exact ⟨ordZ_ok hb _, (at1_rng hb _).1, (at1_rng hb _).1⟩
theorem pZ_cells {b : List Int} : ∀ c ∈ (pZ b).cells, inI c.pos ∧ c = ⟨c.pos, 0, 0, 0⟩ := fun c hc => by
  obtain ⟨i, _, rfl⟩ := List.mem_map.1 (show c ∈ cellsZ b from hc)
  exact ⟨at8_rng b _, rfl⟩
theorem wr_byte {n : Int} (h : 0 ≤ n ∧ n ≤ 255) : wr .i64 n = n := wr_small h.1 (by omega)
theorem s_row_Decode {b : List Int} (hb : byteP b) (hl : b.length < 99999) : Wq (F_row_Decode b) (DecQ b) := by
  have r4 := at1_rng hb 4; have r5 := at1_rng hb 5; have r7 := at1_rng hb 7
  have e4 : lget b 4 = at1 b 4 := rfl
  have e5 : lget b 5 = at1 b 5 := rfl
  have e7 : lget b 7 = at1 b 7 := rfl
  have et : ltake b 4 = b.take 4 := rfl
  have em : [UInt8.ofNat 115, UInt8.ofNat 110, UInt8.ofNat 97, UInt8.ofNat 102] = u2s magic := by decide
  have notForm : ¬ FormP b → Wq (some (zS, (2 : Int))) (DecQ b) := fun h => (w_some _).2 ⟨fun _ => rfl, fun h' => absurd h' h, fun h' => absurd h' h, fun h' => absurd h' h⟩
  unfold F_row_Decode
  rw [noS, e4, e5, e7, et, em, wr_byte r4, wr_byte r5, wr_byte r7]
  have c0 : bor (ile 4 (len b)) (bnot (bnot (ilt (len b) 36))) = true := by
    simp only [band_T, band_F, bor_T, bor_F, bnot_T, bnot_F, ilt_T, ilt_F, ile_T, ile_F, ieq_T, ieq_F, beq_T, beq_F]; omega
  rw [cnd_t c0]
  by_cases h36 : b.length < 36 ∨ b.take 4 ≠ magic
  · rw [cnd_t (b := bor _ _) (by
      simp only [band_T, band_F, bor_T, bor_F, bnot_T, bnot_F, ilt_T, ilt_F, ile_T, ile_F, ieq_T, ieq_F, beq_T, beq_F, seq_F, ne_eq, u2s_inj (hb.take 4) magic_byte]
      unfold len
      rcases h36 with h | h
      · exact .inl (by omega)
      · exact .inr h)]
    exact notForm fun hf => by
      rcases h36 with h | h
      · have := hf.many; omega
      · exact h hf.mark
  have h36' : 36 ≤ b.length ∧ b.take 4 = magic := ⟨by omega, by simpa using fun h => h36 (.inr h)⟩
  rw [cnd_f (b := bor _ _) (by
    simp only [band_T, band_F, bor_T, bor_F, bnot_T, bnot_F, ilt_T, ilt_F, ile_T, ile_F, ieq_T, ieq_F, beq_T, beq_F, seq_T, u2s_inj (hb.take 4) magic_byte]
    unfold len
    exact ⟨by omega, h36'.2⟩), cnd_t (ilt_t (by unfold len; omega)), cnd_t (ilt_t (by unfold len; omega)), cnd_t (ilt_t (by unfold len; omega))]
  by_cases hdim : (1 ≤ at1 b 4 ∧ at1 b 4 ≤ 8) ∧ (1 ≤ at1 b 5 ∧ at1 b 5 ≤ 8) ∧ at1 b 7 ≤ 64
  case neg =>
    have hd : bor (bor (bor (bor (ilt (at1 b 4) 1) (ilt 8 (at1 b 4))) (ilt (at1 b 5) 1)) (ilt 8 (at1 b 5))) (ilt 64 (at1 b 7)) = true := by
      simp only [band_T, band_F, bor_T, bor_F, bnot_T, bnot_F, ilt_T, ilt_F, ile_T, ile_F, ieq_T, ieq_F, beq_T, beq_F]; omega
    rw [hd, bnot_true, cnd_false, ob_some, bor_true, cnd_true]
    exact notForm fun hf => hdim ⟨hf.acc, hf.sym, hf.ords⟩
  have hd : bor (bor (bor (bor (ilt (at1 b 4) 1) (ilt 8 (at1 b 4))) (ilt (at1 b 5) 1)) (ilt 8 (at1 b 5))) (ilt 64 (at1 b 7)) = false := by
    simp only [band_T, band_F, bor_T, bor_F, bnot_T, bnot_F, ilt_T, ilt_F, ile_T, ile_F, ieq_T, ieq_F, beq_T, beq_F]; omega
  rw [hd, bnot_false, cnd_true, e_row_size hdim.1 hdim.2.1 ⟨r7.1, r7.2⟩, ob_some, bor_false]
  have hcN : ((cN b : Nat) : Int) = at1 b 4 * at1 b 5 := by
    unfold cN
    rw [Int.natCast_mul, nZ_eq hb, nZ_eq hb]
  have n4 := nZ_eq hb 4; have n7 := nZ_eq hb 7
  by_cases hj : b.length = off4 b + 8 * nZ b 4 + 4
  case neg =>
    rw [cnd_t (b := bnot _) (by
      simp only [band_T, band_F, bor_T, bor_F, bnot_T, bnot_F, ilt_T, ilt_F, ile_T, ile_F, ieq_T, ieq_F, beq_T, beq_F]
      unfold len
      unfold off4 off3 off2 at hj
      omega)]
    exact notForm fun hf => hj hf.just
  have hf : FormP b := ⟨h36'.1, h36'.2, hdim.1, hdim.2.1, hdim.2.2, hj⟩
  rw [cnd_f (b := bnot _) (by
    simp only [band_T, band_F, bor_T, bor_F, bnot_T, bnot_F, ilt_T, ilt_F, ile_T, ile_F, ieq_T, ieq_F, beq_T, beq_F]
    unfold len
    unfold off4 off3 off2 at hj
    omega)]
  have hsub : wr IntKind.i64 (isub (len b) 4) = ((b.length - 4 : Nat) : Int) := by
    unfold isub len
    rw [wr_small (by omega) (by omega)]; omega
  rw [hsub, cnd_t (band_t (ile_t (by omega)) (ile_t (by unfold len; omega))), cnd_t (band_t (ile_t (by omega)) (ile_t (by unfold len; omega))), itn_nat]
  have el : ltake b (b.length - 4) = b.take (b.length - 4) := rfl
  have ed : ldrop b (b.length - 4) = b.drop (b.length - 4) := rfl
  rw [el, ed, e_crc_Sum (by rw [List.length_take]; omega) (hb.take _), ob_some]
  refine (sum_loop (t := b.drop (b.length - 4)) (n := crcZ (b.take (b.length - 4))) (by rw [List.length_drop]; omega)).bind fun w hw => ?_
  match w, hw with
  | .inl w, hw =>
    obtain ⟨h1, rfl⟩ := hw
    show Wq (some (zS, (10 : Int))) (DecQ b)
    exact (w_some _).2 ⟨fun h => absurd hf h, fun _ _ => rfl, fun _ h => absurd h h1, fun _ h => absurd h h1⟩
  | .inr w, hw =>
    have hsum : sumP b := hw
    simp only [sumK]
    have hrd : SReader.mk (ldrop (b.take (b.length - 4)) 4) false = rdr b 4 false := rfl
    have hnn := hf.nums
    have hlen : 32 ≤ b.length - 4 := by
      unfold off4 off3 off2 at hj; omega
    rw [cnd_t (ile_t (by unfold len; rw [List.length_take]; omega)), hrd, rd1 hb (by omega), ob_some, rd1 hb (by omega), ob_some, rdf hb (by omega), ob_some, rd1 hb (by omega), ob_some]
    simp only
    have e71 : at1 b (4 + 1 + 1 + 1) = at1 b 7 := rfl
    rw [e71]
    rw [cnd_t (band_t (band_t (ile_t r7.1) (ile_t (Int.le_refl _))) (ile_t (by omega))), rd8 hb (by omega), ob_some, rd8 hb (by omega), ob_some, rd8 hb (by omega), ob_some]
    simp only
    have e8 : itn (at1 b 7) = nZ b 7 := rfl
    have e9 : len (lrep SOrder (nZ b 7)) = (nZ b 7 : Int) := by simp [len, lrep]
    rw [e8, e9]
    refine (lp_orders hb hf (od := bor false (ilt 1 (at1 b 6))) (by rw [bor_false, ilt_T])).bind fun y11 h11 => ?_
    obtain ⟨od, hod, rfl⟩ := h11
    simp only
    have m := mul_le64 (a := at1 b 4) (b := at1 b 5) r4.1 (by omega) r5.1 (by omega)
    have hm : wr IntKind.i64 (imul (at1 b 4) (at1 b 5)) = (cN b : Int) := by
      unfold imul
      rw [wr_small m.1 (by omega), hcN]
    rw [hm, cnd_t (band_t (band_t (ile_t (by omega)) (ile_t (Int.le_refl _))) (ile_t (by omega))), itn_nat]
    have e10 : len (lrep SCell (cN b)) = (cN b : Int) := by simp [len, lrep]
    rw [e10]
    refine (lp_cells hb hf).bind fun y12 h12 => ?_
    subst h12
    simp only
    have e11 : len (cellsZ b) = (cN b : Int) := by simp [len, cellsZ]
    rw [e11]
    refine (lp_lims hb hf).bind fun y13 h13 => ?_
    subst h13
    simp only
    rw [← n4]
    refine (lp_caps hb hf (nZ b 4 : Int)).bind fun y14 h14 => ?_
    subst h14
    simp only [rdr]
    rw [n4]
    have bad2 : ¬ goodP b → Wq (some (zS, (2 : Int))) (DecQ b) := fun h => (w_some _).2 ⟨fun h' => absurd hf h', fun _ h' => absurd hsum h', fun _ _ _ => rfl, fun _ _ h' => absurd h' h⟩
    cases od with
    | true =>
      rw [bnot_true, cnd_false, bor_true, bnot_true, cnd_false, ob_some, bor_true, cnd_true]
      exact bad2 fun hg => hg.1 (hod.1 rfl)
    | false =>
      rw [bnot_false, cnd_true]
      have hno : ¬ oddP b := fun h => by have := hod.2 h; cases this
      refine (s_fill (p := pZ b) (pZ_sized hb hf) (pZ_ords hb) pZ_cells).bind fun w hw => ?_
      match w, hw with
      | .inl w, hw =>
        obtain ⟨h1, h2⟩ := hw
        simp only [sumK]
        rw [h1, bnot_false, bor_false, bnot_true, cnd_false, ob_some, bor_true, cnd_true]
        exact bad2 fun hg => h2 hg.2
      | .inr w, hw =>
        obtain ⟨h1, f, rfl⟩ := hw
        simp only [sumK]
        rw [bor_false, bnot_false, cnd_true]
        have hsh := fill_short hb hf
        refine (s_book_Right (fillS (pZ b)) (fill_ok hb hf h1) hsh.1 hsh.2.2.1 hsh.2.2.2).bind fun y hy => ?_
        cases y with
        | false =>
          rw [bor_false, bnot_false, cnd_true]
          exact bad2 fun hg => by have := hy.2 hg.2; cases this
        | true =>
          rw [bor_false, bnot_true, cnd_false, w_some]
          exact ⟨fun h => absurd hf h, fun _ h => absurd hsum h, fun _ _ h => absurd ⟨hno, hy.1 rfl⟩ h, fun _ _ _ => rfl⟩
def sl (b : List Int) (k m : Nat) : List Int := (b.drop k).take m
theorem sl_add (b : List Int) (k m n : Nat) : sl b k (m + n) = sl b k m ++ sl b (k + m) n := by
  unfold sl
  rw [List.take_add, List.drop_drop]
theorem sl_len {b : List Int} {k m : Nat} (h : k + m ≤ b.length) : (sl b k m).length = m := by
  unfold sl; rw [List.length_take, List.length_drop]; omega
theorem p8_at {b : List Int} (hb : byteP b) {k : Nat} (h : k + 8 ≤ b.length) : p8 [at8 b k] = sl b k 8 := by
  have h8 := there8 (l := sl b k 8) ((hb.drop k).take 8) (sl_len h)
  have e : p8 [at8 b k] = putZ (at8 b k) 8 := by simp [p8]
  rw [e]; exact h8
theorem p1_at {b : List Int} (hb : byteP b) {k : Nat} (h : k + 1 ≤ b.length) : p1 [at1 b k] = sl b k 1 := by
  have r := at1_rng hb k
  unfold sl
  rw [p1_one, take_one (by omega), wr_u8, Int.emod_eq_of_lt r.1 (by omega)]
theorem p8_6 (a b c d e f : Int) : p8 [a, b, c, d, e, f] = p8 [a] ++ (p8 [b] ++ (p8 [c] ++ (p8 [d] ++ (p8 [e] ++ p8 [f])))) := by
  rw [p8_cons, p8_cons b, p8_cons c, p8_cons d, p8_cons e]
theorem p1_4' (a b c d : Int) : p1 [a, b, c, d] = p1 [a] ++ (p1 [b] ++ (p1 [c] ++ p1 [d])) := by
  rw [p1_cons, p1_cons b, p1_cons c]
theorem bit_at {n : Int} (h : 0 ≤ n) (h2 : ¬ 1 < n) : bitZ (ieq n 1) = n := by
  by_cases h1 : n = 1
  · subst h1; rfl
  · have : n = 0 := by omega
    subst this; rfl
theorem orderB_at {b : List Int} (hb : byteP b) {k : Nat} (h : k + 61 ≤ b.length) (ho : ¬ 1 < at1 b (k + 60)) : orderB (ordZ b k) = sl b k 61 := by
  unfold orderB ordZ
  simp only
  rw [p8_6, p1_4', bit_at (at1_rng hb _).1 ho, p8_at hb (by omega), p1_at hb (by omega), p1_at hb (by omega), p1_at hb (by omega), p1_at hb (by omega), p8_at hb (by omega), p8_at hb (by omega), p8_at hb (by omega), p8_at hb (by omega), p8_at hb (by omega), p8_at hb (by omega), p1_at hb (by omega)]
  rw [show 61 = 8 + ((1 + (1 + (1 + 1))) + ((8 + (8 + (8 + (8 + (8 + 8))))) + 1)) from rfl]
  simp only [sl_add, Nat.add_assoc]
  simp only [List.append_assoc, Nat.reduceAdd]
theorem limB_at {b : List Int} (hb : byteP b) {k : Nat} (h : k + 24 ≤ b.length) : limB (limZ b k) = sl b k 24 := by
  unfold limB limZ
  simp only
  rw [p8_3, p8_at hb (by omega), p8_at hb (by omega), p8_at hb (by omega), show 24 = 8 + (8 + 8) from rfl]
  simp only [sl_add, Nat.add_assoc]
theorem flat_sl {b : List Int} {g : Nat → List Int} {o m : Nat} : ∀ (n : Nat), (∀ i, i < n → g i = sl b (o + m * i) m) → (List.range n).flatMap g = sl b o (m * n)
  | 0, _ => by simp [sl]
  | n + 1, h => by
    rw [List.range_succ, List.flatMap_append, flat_sl n fun i hi => h i (by omega), Nat.mul_add, Nat.mul_one, sl_add]
    simp only [List.flatMap_cons, List.flatMap_nil, List.append_nil]
    rw [h n (by omega)]
theorem cellB_pos (l : List SCell) : l.flatMap cellB = p8 (l.map (·.pos)) := by
  induction l with
  | nil => rfl
  | cons c l ih => rw [List.flatMap_cons, List.map_cons, p8_cons, ih]; rfl
theorem mk_posL (s : SState) (l : List SOrder) : (mkCells s l).map (·.pos) = s.cells.map (·.pos) := by
  refine List.ext_getElem (by simp [mkCells]) fun i h1 h2 => ?_
  rw [List.getElem_map, List.getElem_map]
  exact mk_pos s l i (by simpa using h1)
/-- Bytes that tell a state are just this state's. -/
theorem enc_parse {b : List Int} (hb : byteP b) (hf : FormP b) (hs : sumP b) (ho : ¬ oddP b) : encZ (fillS (pZ b)) = b := by
  have hn := hf.nums
  have hj := hf.just
  have n4 := nZ_eq hb 4; have n7 := nZ_eq hb 7
  have ho6 : ¬ 1 < at1 b 6 := fun h => ho (.inl h)
  have hoi : ∀ i, i < nZ b 7 → ¬ 1 < at1 b (32 + 61 * i + 60) := fun i hi h => ho (.inr ⟨i, hi, h⟩)
  have h2 : off2 b = 32 + 61 * nZ b 7 := rfl
  have h3 : off3 b = off2 b + 8 * cN b := rfl
  have h4 : off4 b = off3 b + 24 * cN b := rfl
  have hhead : headB (fillS (pZ b)) = sl b 0 32 := by
    unfold headB
    show magic ++ (p1 [at1 b 4, at1 b 5, bitZ (ieq (at1 b 6) 1), len (ordsZ b)] ++ p8 [at8 b 8, at8 b 16, at8 b 24]) = _
    have hlen : len (ordsZ b) = at1 b 7 := by
      unfold len ordsZ
      rw [List.length_map, List.length_range, n7]
    rw [hlen, bit_at (at1_rng hb _).1 ho6, p1_4', p8_3, p1_at hb (by omega), p1_at hb (by omega), p1_at hb (by omega), p1_at hb (by omega), p8_at hb (by omega), p8_at hb (by omega), p8_at hb (by omega)]
    rw [show 32 = 4 + ((1 + (1 + (1 + 1))) + (8 + (8 + 8))) from rfl]
    simp only [sl_add, Nat.add_assoc, Nat.zero_add]
    have : sl b 0 4 = magic := by unfold sl; rw [List.drop_zero]; exact hf.mark
    rw [this]
    simp only [List.append_assoc, Nat.reduceAdd]
  have ho2 : (fillS (pZ b)).orders.flatMap orderB = sl b 32 (61 * nZ b 7) := by
    show (ordsZ b).flatMap orderB = _
    unfold ordsZ
    rw [List.flatMap_map]
    exact flat_sl _ fun i hi => orderB_at hb (by omega) (hoi i hi)
  have hc2 : (fillS (pZ b)).cells.flatMap cellB = sl b (off2 b) (8 * cN b) := by
    show (mkCells (pZ b) (pZ b).orders).flatMap cellB = _
    rw [cellB_pos, mk_posL, ← cellB_pos]
    show (cellsZ b).flatMap cellB = _
    unfold cellsZ
    rw [List.flatMap_map]
    exact flat_sl _ fun i hi => p8_at hb (by omega)
  have hl2 : (fillS (pZ b)).limits.flatMap limB = sl b (off3 b) (24 * cN b) := by
    show (limsZ b).flatMap limB = _
    unfold limsZ
    rw [List.flatMap_map]
    exact flat_sl _ fun i hi => limB_at hb (by omega)
  have hk2 : p8 (fillS (pZ b)).caps = sl b (off4 b) (8 * nZ b 4) := by
    show p8 (capsZ b) = _
    unfold capsZ p8
    rw [List.flatMap_map]
    refine flat_sl _ fun i hi => ?_
    have := p8_at hb (k := off4 b + 8 * i) (by omega)
    rw [← this]; simp [p8]
  have hbody : bodyB (fillS (pZ b)) = b.take (b.length - 4) := by
    unfold bodyB
    rw [hhead, ho2, hc2, hl2, hk2]
    have e : b.length - 4 = 32 + (61 * nZ b 7 + (8 * cN b + (24 * cN b + 8 * nZ b 4))) := by omega
    have : sl b 0 (b.length - 4) = b.take (b.length - 4) := by unfold sl; rw [List.drop_zero]
    rw [← this, e]
    simp only [sl_add, Nat.zero_add]
    rw [← h2, ← h3, ← h4]
  unfold encZ
  rw [hbody, ← hs, List.take_append_drop]
theorem s_eq_ord {l m : List SOrder} (hn : l.length < 999999) : Wq (F_slices_Equal_api_Order l m) fun r => r = true ↔ l = m := by
  unfold F_slices_Equal_api_Order
  rw [w_cnd]
  refine ⟨fun h => (w_some _).2 ⟨fun h => (by cases h), fun h2 => ?_⟩, fun h => ?_⟩
  · subst h2; simp [band_T, band_F, bor_T, bor_F, bnot_T, bnot_F, ilt_T, ilt_F, ile_T, ile_F, ieq_T, ieq_F, beq_T, beq_F] at h
  · simp only [band_T, band_F, bor_T, bor_F, bnot_T, bnot_F, ilt_T, ilt_F, ile_T, ile_F, ieq_T, ieq_F, beq_T, beq_F, len_inj] at h
    refine Wq.bind (w_same (l := l) (m := m) h hn (step := fun v : Int × Bool => L_slices_Equal_api_Order_58 (len l) l m v.fst v.snd) (fun i h hh q => ?_) (fun q => ?_) _) fun w hw => ?_
    · simp only [L_slices_Equal_api_Order_58]
      rw [cnd_t (by rw [ilt_nat]; simpa using h), cnd_t (inb _ i h), cnd_t (inb _ i hh), lget_nat _ i h, lget_nat _ i hh, w_cnd, w_some, w_some, bnot_T, bnot_F, wr_succ (by omega)]
      have := order_ext l[i] m[i]
      simp only [band_T, band_F, bor_T, bor_F, bnot_T, bnot_F, ilt_T, ilt_F, ile_T, ile_F, ieq_T, ieq_F, beq_T, beq_F] at *
      exact ⟨fun h => ⟨fun e => (by have := this.2 e; grind), fun _ => trivial⟩, fun h => ⟨fun _ => trivial, fun e => absurd (this.1 (by grind)) e⟩⟩
    · simp only [L_slices_Equal_api_Order_58]
      rw [cnd_f (by rw [show ((l.length : Nat) : Int) = len l from rfl]; simp [ilt])]
    cases w with
    | inl w => obtain ⟨rfl, h⟩ := hw; simp only [sumK, w_some]; simp [h]
    | inr w => simp only [sumK, w_some]; simp [hw]
theorem s_eq_cell {l m : List SCell} (hn : l.length < 999999) : Wq (F_slices_Equal_api_Cell l m) fun r => r = true ↔ l = m := by
  unfold F_slices_Equal_api_Cell
  rw [w_cnd]
  refine ⟨fun h => (w_some _).2 ⟨fun h => (by cases h), fun h2 => ?_⟩, fun h => ?_⟩
  · subst h2; simp [band_T, band_F, bor_T, bor_F, bnot_T, bnot_F, ilt_T, ilt_F, ile_T, ile_F, ieq_T, ieq_F, beq_T, beq_F] at h
  · simp only [band_T, band_F, bor_T, bor_F, bnot_T, bnot_F, ilt_T, ilt_F, ile_T, ile_F, ieq_T, ieq_F, beq_T, beq_F, len_inj] at h
    refine Wq.bind (w_same (l := l) (m := m) h hn (step := fun v : Int × Bool => L_slices_Equal_api_Cell_58 (len l) l m v.fst v.snd) (fun i h hh q => ?_) (fun q => ?_) _) fun w hw => ?_
    · simp only [L_slices_Equal_api_Cell_58]
      rw [cnd_t (by rw [ilt_nat]; simpa using h), cnd_t (inb _ i h), cnd_t (inb _ i hh), lget_nat _ i h, lget_nat _ i hh, w_cnd, w_some, w_some, bnot_T, bnot_F, wr_succ (by omega)]
      have := cell_ext' l[i] m[i]
      simp only [band_T, band_F, bor_T, bor_F, bnot_T, bnot_F, ilt_T, ilt_F, ile_T, ile_F, ieq_T, ieq_F, beq_T, beq_F] at *
      exact ⟨fun h => ⟨fun e => (by have := this.2 e; grind), fun _ => trivial⟩, fun h => ⟨fun _ => trivial, fun e => absurd (this.1 (by grind)) e⟩⟩
    · simp only [L_slices_Equal_api_Cell_58]
      rw [cnd_f (by rw [show ((l.length : Nat) : Int) = len l from rfl]; simp [ilt])]
    cases w with
    | inl w => obtain ⟨rfl, h⟩ := hw; simp only [sumK, w_some]; simp [h]
    | inr w => simp only [sumK, w_some]; simp [hw]
theorem s_eq_expo {l m : List SExpo} (hn : l.length < 999999) : Wq (F_slices_Equal_api_Expo l m) fun r => r = true ↔ l = m := by
  unfold F_slices_Equal_api_Expo
  rw [w_cnd]
  refine ⟨fun h => (w_some _).2 ⟨fun h => (by cases h), fun h2 => ?_⟩, fun h => ?_⟩
  · subst h2; simp [band_T, band_F, bor_T, bor_F, bnot_T, bnot_F, ilt_T, ilt_F, ile_T, ile_F, ieq_T, ieq_F, beq_T, beq_F] at h
  · simp only [band_T, band_F, bor_T, bor_F, bnot_T, bnot_F, ilt_T, ilt_F, ile_T, ile_F, ieq_T, ieq_F, beq_T, beq_F, len_inj] at h
    refine Wq.bind (w_same (l := l) (m := m) h hn (step := fun v : Int × Bool => L_slices_Equal_api_Expo_58 (len l) l m v.fst v.snd) (fun i h hh q => ?_) (fun q => ?_) _) fun w hw => ?_
    · simp only [L_slices_Equal_api_Expo_58]
      rw [cnd_t (by rw [ilt_nat]; simpa using h), cnd_t (inb _ i h), cnd_t (inb _ i hh), lget_nat _ i h, lget_nat _ i hh, w_cnd, w_some, w_some, bnot_T, bnot_F, wr_succ (by omega)]
      have := expo_ext l[i] m[i]
      simp only [band_T, band_F, bor_T, bor_F, bnot_T, bnot_F, ilt_T, ilt_F, ile_T, ile_F, ieq_T, ieq_F, beq_T, beq_F] at *
      exact ⟨fun h => ⟨fun e => (by have := this.2 e; grind), fun _ => trivial⟩, fun h => ⟨fun _ => trivial, fun e => absurd (this.1 (by grind)) e⟩⟩
    · simp only [L_slices_Equal_api_Expo_58]
      rw [cnd_f (by rw [show ((l.length : Nat) : Int) = len l from rfl]; simp [ilt])]
    cases w with
    | inl w => obtain ⟨rfl, h⟩ := hw; simp only [sumK, w_some]; simp [h]
    | inr w => simp only [sumK, w_some]; simp [hw]
theorem s_eq_int {l m : List Int} (hn : l.length < 999999) : Wq (F_slices_Equal_int64 l m) fun r => r = true ↔ l = m := by
  unfold F_slices_Equal_int64
  rw [w_cnd]
  refine ⟨fun h => (w_some _).2 ⟨fun h => (by cases h), fun h2 => ?_⟩, fun h => ?_⟩
  · subst h2; simp [band_T, band_F, bor_T, bor_F, bnot_T, bnot_F, ilt_T, ilt_F, ile_T, ile_F, ieq_T, ieq_F, beq_T, beq_F] at h
  · simp only [band_T, band_F, bor_T, bor_F, bnot_T, bnot_F, ilt_T, ilt_F, ile_T, ile_F, ieq_T, ieq_F, beq_T, beq_F, len_inj] at h
    refine Wq.bind (w_same (l := l) (m := m) h hn (step := fun v : Int × Bool => L_slices_Equal_int64_58 (len l) l m v.fst v.snd) (fun i h hh q => ?_) (fun q => ?_) _) fun w hw => ?_
    · simp only [L_slices_Equal_int64_58]
      rw [cnd_t (by rw [ilt_nat]; simpa using h), cnd_t (inb _ i h), cnd_t (inb _ i hh), lget_nat _ i h, lget_nat _ i hh, w_cnd, w_some, w_some, bnot_T, bnot_F, wr_succ (by omega)]
      simp only [band_T, band_F, bor_T, bor_F, bnot_T, bnot_F, ilt_T, ilt_F, ile_T, ile_F, ieq_T, ieq_F, beq_T, beq_F] at *
      exact ⟨fun h => ⟨fun e => absurd e h, fun _ => trivial⟩, fun h => ⟨fun _ => trivial, fun e => absurd h e⟩⟩
    · simp only [L_slices_Equal_int64_58]
      rw [cnd_f (by rw [show ((l.length : Nat) : Int) = len l from rfl]; simp [ilt])]
    cases w with
    | inl w => obtain ⟨rfl, h⟩ := hw; simp only [sumK, w_some]; simp [h]
    | inr w => simp only [sumK, w_some]; simp [hw]
theorem w_and {b : Bool} {o : Option Bool} {P Q : Prop} (hb : b = true ↔ P) (ho : Wq o fun r => r = true ↔ Q) : Wq (cnd b o (some false)) fun r => (band b r = true ↔ P ∧ Q) := by
  cases b with
  | true =>
    rw [cnd_true]
    exact ho.mono fun r hr => by rw [band_T, hr, hb]
  | false =>
    rw [cnd_false, w_some]
    exact ⟨fun h => (by cases h), fun h => (by have := hb.2 h.1; cases this)⟩
theorem s_row_Same {a b : SState} (ha : shortP a) : Wq (F_row_Same a b) fun r => r = true ↔ a = b := by
  obtain ⟨h1, h2, h3, h4⟩ := ha
  unfold F_row_Same
  have h0 : band (band (band (band (band (ieq a.accounts b.accounts) (ieq a.symbols b.symbols)) (beq a.kill b.kill)) (ieq a.last b.last)) (ieq a.seq b.seq)) (ieq a.lsn b.lsn) = true ↔ (a.accounts = b.accounts ∧ a.symbols = b.symbols ∧ a.kill = b.kill ∧ a.last = b.last ∧ a.seq = b.seq ∧ a.lsn = b.lsn) := by
    simp only [band_T, band_F, bor_T, bor_F, bnot_T, bnot_F, ilt_T, ilt_F, ile_T, ile_F, ieq_T, ieq_F, beq_T, beq_F]; grind
  refine Wq.bind (w_and h0 (s_eq_ord h1)) fun y0 e0 => ?_
  refine Wq.bind (w_and e0 (s_eq_cell h2)) fun y1 e1 => ?_
  refine Wq.bind (w_and e1 (s_eq_expo h3)) fun y2 e2 => ?_
  refine Wq.bind (w_and e2 (s_eq_int h4)) fun y3 e3 => ?_
  rw [w_some, e3, ← state_ext a b]
  grind
theorem zS_short : shortP zS := by unfold shortP zS; decide
theorem okL_byte {l : List Int} (h : okL ok_u8 l) : byteP l := fun x hx => h.1 x hx
structure DecR (b : List Int) (r : SState × Int) : Prop where
  ok : r.2 = 0 → RightS r.1 ∧ Ok_state r.1 ∧ shortP r.1 ∧ encZ r.1 = b
  bad : r.2 ≠ 0 → r.1 = zS ∧ (r.2 = 2 ∨ r.2 = 10)
theorem okC_ok {p : SState} (h : RightS (fillS p)) : ∀ c ∈ mkCells p p.orders, Ok_cell c := fun c hc => (h.ok c hc).1
theorem s_row_DecodeR {b : List Int} (hb : byteP b) (hl : b.length < 99999) : Wq (F_row_Decode b) fun r => DecQ b r ∧ DecR b r := by
  refine (s_row_Decode hb hl).mono fun r hr => ⟨hr, ?_⟩
  by_cases h1 : FormP b
  · by_cases h2 : sumP b
    · by_cases h3 : goodP b
      · rw [hr.good h1 h2 h3]
        exact ⟨fun _ => ⟨h3.2, fill_ok hb h1 (okC_ok h3.2), fill_short hb h1, enc_parse hb h1 h2 h3.1⟩, fun h => absurd rfl h⟩
      · rw [hr.bad h1 h2 h3]
        exact ⟨fun h => absurd h (by decide), fun _ => ⟨rfl, .inl rfl⟩⟩
    · rw [hr.sum h1 h2]
      exact ⟨fun h => absurd h (by decide), fun _ => ⟨rfl, .inr rfl⟩⟩
  · rw [hr.form h1]
    exact ⟨fun h => absurd h (by decide), fun _ => ⟨rfl, .inl rfl⟩⟩
def nilD {τ : Type} [DecidableEq τ] (n : Int) (f : Bool → Option τ) : Option τ := if n = 0 then (if f true = f false then f true else none) else f false
theorem nilq_eq {τ : Type} [DecidableEq τ] (n : Int) (f : Bool → Option τ) : nilq n f = nilD n f := by
  unfold nilq nilD
  by_cases h : n = 0
  · rw [if_pos h, if_pos h]
    by_cases h2 : f true = f false
    · rw [if_pos h2, if_pos h2]
    · rw [if_neg h2, if_neg h2]
  · rw [if_neg h, if_neg h]
def F_slices_Clone_api_Order_d (x0 : (List SOrder)) : Option ((List SOrder)) := nilD (len x0) fun y0 ↦ cnd (beq y0 true) (some []) (cnd (ile (len x0) 68719476736) (some x0) none)
theorem F_slices_Clone_api_Order_d_eq : F_slices_Clone_api_Order = F_slices_Clone_api_Order_d := by
  funext a0
  unfold F_slices_Clone_api_Order F_slices_Clone_api_Order_d
  simp only [nilq_eq]
def F_slices_Clone_api_Cell_d (x0 : (List SCell)) : Option ((List SCell)) := nilD (len x0) fun y0 ↦ cnd (beq y0 true) (some []) (cnd (ile (len x0) 68719476736) (some x0) none)
theorem F_slices_Clone_api_Cell_d_eq : F_slices_Clone_api_Cell = F_slices_Clone_api_Cell_d := by
  funext a0
  unfold F_slices_Clone_api_Cell F_slices_Clone_api_Cell_d
  simp only [nilq_eq]
def F_slices_Clone_api_Expo_d (x0 : (List SExpo)) : Option ((List SExpo)) := nilD (len x0) fun y0 ↦ cnd (beq y0 true) (some []) (cnd (ile (len x0) 68719476736) (some x0) none)
theorem F_slices_Clone_api_Expo_d_eq : F_slices_Clone_api_Expo = F_slices_Clone_api_Expo_d := by
  funext a0
  unfold F_slices_Clone_api_Expo F_slices_Clone_api_Expo_d
  simp only [nilq_eq]
def F_slices_Clone_int64_d (x0 : (List Int)) : Option ((List Int)) := nilD (len x0) fun y0 ↦ cnd (beq y0 true) (some []) (cnd (ile (len x0) 68719476736) (some x0) none)
theorem F_slices_Clone_int64_d_eq : F_slices_Clone_int64 = F_slices_Clone_int64_d := by
  funext a0
  unfold F_slices_Clone_int64 F_slices_Clone_int64_d
  simp only [nilq_eq]
def F_book_Do_d (x0 : SState) (x1 : SRec) : Option (SState × Int) := obind (F_num_Add x0.lsn 1) fun y0 ↦ obind (cnd (bnot (bor (bnot (ieq y0.snd 0)) (ile 1000000000 x0.lsn))) (F_rec_Right x1) (some false)) fun y1 ↦ obind (cnd (bnot (bor (bor (bnot (ieq y0.snd 0)) (ile 1000000000 x0.lsn)) (bnot y1))) (F_book_Right x0) (some false)) fun y2 ↦ cnd (bor (bor (bor (bnot (ieq y0.snd 0)) (ile 1000000000 x0.lsn)) (bnot y1)) (bnot y2)) (some (x0, 1)) (obind (F_slices_Clone_api_Order_d x0.orders) fun y3 ↦ obind (F_slices_Clone_api_Cell_d x0.cells) fun y4 ↦ obind (F_slices_Clone_api_Expo_d x0.limits) fun y5 ↦ obind (F_slices_Clone_int64_d x0.caps) fun y6 ↦ cnd (ieq x1.kind 1) (obind (F_order_Begin x1) fun y7 ↦ cnd (ile x1.order x0.last) (cnd (ile x1.order x0.last) (some (x0, 1)) (cnd x0.kill (some (x0, 5)) (cnd (ieq (len y3) 64) (some (x0, 6)) (obind (F_slices_Clone_api_Order_d y3) fun y8 ↦ obind (F_slices_Clone_api_Cell_d y4) fun y9 ↦ obind (F_slices_Clone_api_Expo_d y5) fun y10 ↦ obind (F_slices_Clone_int64_d y6) fun y11 ↦ obind (F_book_ledger_cellOf (SState.mk x0.accounts x0.symbols y3 y4 y5 y6 x0.kill x0.last x0.seq x0.lsn) y7.fst.account y7.fst.symbol) fun y12 ↦ cnd (band (ile 0 y12) (ilt y12 (len y4))) (obind (F_cell_Come (lget y4 (itn y12)) y7.fst) fun y13 ↦ cnd (bnot (ieq y13.snd 0)) (some (x0, 3)) (cnd (ile (len (lapp y3 [y7.fst])) 68719476736) (obind (F_book_ledger_bears (SState.mk x0.accounts x0.symbols (lapp y3 [y7.fst]) (lset y4 (itn y12) y13.fst) y5 y6 x0.kill y7.fst.id x0.seq x0.lsn) (SState.mk x0.accounts x0.symbols y8 y9 y10 y11 x0.kill x0.last x0.seq x0.lsn) y7.fst.account y7.fst.symbol) fun y14 ↦ cnd (bnot (ieq y14 0)) (some (x0, y14)) (some (SState.mk x0.accounts x0.symbols (lapp y3 [y7.fst]) (lset y4 (itn y12) y13.fst) y5 y6 x0.kill y7.fst.id x0.seq (wr IntKind.i64 (iadd x0.lsn 1)), 0))) none)) none)))) (cnd (ile x0.accounts x1.account) (cnd (ile x0.accounts x1.account) (some (x0, 1)) (cnd x0.kill (some (x0, 5)) (cnd (ieq (len y3) 64) (some (x0, 6)) (obind (F_slices_Clone_api_Order_d y3) fun y15 ↦ obind (F_slices_Clone_api_Cell_d y4) fun y16 ↦ obind (F_slices_Clone_api_Expo_d y5) fun y17 ↦ obind (F_slices_Clone_int64_d y6) fun y18 ↦ obind (F_book_ledger_cellOf (SState.mk x0.accounts x0.symbols y3 y4 y5 y6 x0.kill x0.last x0.seq x0.lsn) y7.fst.account y7.fst.symbol) fun y19 ↦ cnd (band (ile 0 y19) (ilt y19 (len y4))) (obind (F_cell_Come (lget y4 (itn y19)) y7.fst) fun y20 ↦ cnd (bnot (ieq y20.snd 0)) (some (x0, 3)) (cnd (ile (len (lapp y3 [y7.fst])) 68719476736) (obind (F_book_ledger_bears (SState.mk x0.accounts x0.symbols (lapp y3 [y7.fst]) (lset y4 (itn y19) y20.fst) y5 y6 x0.kill y7.fst.id x0.seq x0.lsn) (SState.mk x0.accounts x0.symbols y15 y16 y17 y18 x0.kill x0.last x0.seq x0.lsn) y7.fst.account y7.fst.symbol) fun y21 ↦ cnd (bnot (ieq y21 0)) (some (x0, y21)) (some (SState.mk x0.accounts x0.symbols (lapp y3 [y7.fst]) (lset y4 (itn y19) y20.fst) y5 y6 x0.kill y7.fst.id x0.seq (wr IntKind.i64 (iadd x0.lsn 1)), 0))) none)) none)))) (cnd (ile x0.symbols x1.symbol) (some (x0, 1)) (cnd x0.kill (some (x0, 5)) (cnd (ieq (len y3) 64) (some (x0, 6)) (obind (F_slices_Clone_api_Order_d y3) fun y22 ↦ obind (F_slices_Clone_api_Cell_d y4) fun y23 ↦ obind (F_slices_Clone_api_Expo_d y5) fun y24 ↦ obind (F_slices_Clone_int64_d y6) fun y25 ↦ obind (F_book_ledger_cellOf (SState.mk x0.accounts x0.symbols y3 y4 y5 y6 x0.kill x0.last x0.seq x0.lsn) y7.fst.account y7.fst.symbol) fun y26 ↦ cnd (band (ile 0 y26) (ilt y26 (len y4))) (obind (F_cell_Come (lget y4 (itn y26)) y7.fst) fun y27 ↦ cnd (bnot (ieq y27.snd 0)) (some (x0, 3)) (cnd (ile (len (lapp y3 [y7.fst])) 68719476736) (obind (F_book_ledger_bears (SState.mk x0.accounts x0.symbols (lapp y3 [y7.fst]) (lset y4 (itn y26) y27.fst) y5 y6 x0.kill y7.fst.id x0.seq x0.lsn) (SState.mk x0.accounts x0.symbols y22 y23 y24 y25 x0.kill x0.last x0.seq x0.lsn) y7.fst.account y7.fst.symbol) fun y28 ↦ cnd (bnot (ieq y28 0)) (some (x0, y28)) (some (SState.mk x0.accounts x0.symbols (lapp y3 [y7.fst]) (lset y4 (itn y26) y27.fst) y5 y6 x0.kill y7.fst.id x0.seq (wr IntKind.i64 (iadd x0.lsn 1)), 0))) none)) none)))))) (cnd (ieq x1.kind 2) (obind (F_book_Find (SState.mk x0.accounts x0.symbols y3 y4 y5 y6 x0.kill x0.last x0.seq x0.lsn) x1.order) fun y29 ↦ cnd (ieq y29 (-1)) (some (x0, 7)) (cnd (band (ile 0 y29) (ilt y29 (len y3))) (obind (F_order_Change (lget y3 (itn y29)) x1.qty x1.price) fun y30 ↦ cnd (bnot (ieq y30.snd 0)) (some (x0, 8)) (cnd x0.kill (some (x0, 5)) (obind (F_slices_Clone_api_Order_d y3) fun y31 ↦ obind (F_slices_Clone_api_Cell_d y4) fun y32 ↦ obind (F_slices_Clone_api_Expo_d y5) fun y33 ↦ obind (F_slices_Clone_int64_d y6) fun y34 ↦ obind (F_book_ledger_cellOf (SState.mk x0.accounts x0.symbols y3 y4 y5 y6 x0.kill x0.last x0.seq x0.lsn) (lget y3 (itn y29)).account (lget y3 (itn y29)).symbol) fun y35 ↦ cnd (band (ile 0 y35) (ilt y35 (len y4))) (obind (F_cell_Go (lget y4 (itn y35)) (lget y3 (itn y29))) fun y36 ↦ obind (F_cell_Come y36.fst y30.fst) fun y37 ↦ cnd (bnot (ieq y37.snd 0)) (some (x0, 3)) (cnd (band (ile 0 y29) (ilt y29 (len y3))) (obind (F_book_ledger_bears (SState.mk x0.accounts x0.symbols (lset y3 (itn y29) y30.fst) (lset y4 (itn y35) y37.fst) y5 y6 x0.kill x0.last x0.seq x0.lsn) (SState.mk x0.accounts x0.symbols y31 y32 y33 y34 x0.kill x0.last x0.seq x0.lsn) (lget y3 (itn y29)).account (lget y3 (itn y29)).symbol) fun y38 ↦ cnd (bnot (ieq y38 0)) (some (x0, y38)) (some (SState.mk x0.accounts x0.symbols (lset y3 (itn y29) y30.fst) (lset y4 (itn y35) y37.fst) y5 y6 x0.kill x0.last x0.seq (wr IntKind.i64 (iadd x0.lsn 1)), 0))) none)) none))) none)) (cnd (ieq x1.kind 3) (obind (F_book_Find (SState.mk x0.accounts x0.symbols y3 y4 y5 y6 x0.kill x0.last x0.seq x0.lsn) x1.order) fun y39 ↦ cnd (ieq y39 (-1)) (some (x0, 7)) (cnd (band (ile 0 y39) (ilt y39 (len y3))) (obind (F_order_End (lget y3 (itn y39))) fun y40 ↦ cnd (band (ile 0 y39) (ilt y39 (len y3))) (cnd (bnot (ieq y40.snd 0)) (some (x0, y40.snd)) (some (SState.mk x0.accounts x0.symbols (lset y3 (itn y39) y40.fst) y4 y5 y6 x0.kill x0.last x0.seq (wr IntKind.i64 (iadd x0.lsn 1)), 0))) none) none)) (cnd (ieq x1.kind 4) (cnd (ile x0.accounts x1.account) (cnd (ile x0.accounts x1.account) (some (x0, 1)) (cnd (ieq x1.symbol (-1)) (cnd (band (ile 0 x1.account) (ilt x1.account (len y6))) (some (SState.mk x0.accounts x0.symbols y3 y4 y5 (lset y6 (itn x1.account) x1.opn) x0.kill x0.last x0.seq (wr IntKind.i64 (iadd x0.lsn 1)), 0)) none) (obind (F_book_ledger_cellOf (SState.mk x0.accounts x0.symbols y3 y4 y5 y6 x0.kill x0.last x0.seq x0.lsn) x1.account x1.symbol) fun y41 ↦ cnd (band (ile 0 y41) (ilt y41 (len y5))) (some (SState.mk x0.accounts x0.symbols y3 y4 (lset y5 (itn y41) (SExpo.mk x1.long x1.short x1.opn)) y6 x0.kill x0.last x0.seq (wr IntKind.i64 (iadd x0.lsn 1)), 0)) none))) (cnd (ile x0.symbols x1.symbol) (some (x0, 1)) (cnd (ieq x1.symbol (-1)) (cnd (band (ile 0 x1.account) (ilt x1.account (len y6))) (some (SState.mk x0.accounts x0.symbols y3 y4 y5 (lset y6 (itn x1.account) x1.opn) x0.kill x0.last x0.seq (wr IntKind.i64 (iadd x0.lsn 1)), 0)) none) (obind (F_book_ledger_cellOf (SState.mk x0.accounts x0.symbols y3 y4 y5 y6 x0.kill x0.last x0.seq x0.lsn) x1.account x1.symbol) fun y42 ↦ cnd (band (ile 0 y42) (ilt y42 (len y5))) (some (SState.mk x0.accounts x0.symbols y3 y4 (lset y5 (itn y42) (SExpo.mk x1.long x1.short x1.opn)) y6 x0.kill x0.last x0.seq (wr IntKind.i64 (iadd x0.lsn 1)), 0)) none)))) (cnd (ieq x1.kind 5) (some (SState.mk x0.accounts x0.symbols y3 y4 y5 y6 x1.on x0.last x0.seq (wr IntKind.i64 (iadd x0.lsn 1)), 0)) (cnd (bnot (ieq x1.seq (wr IntKind.i64 (iadd x0.seq 1)))) (some (x0, 11)) (obind (F_book_Find (SState.mk x0.accounts x0.symbols y3 y4 y5 y6 x0.kill x0.last x1.seq x0.lsn) x1.order) fun y43 ↦ cnd (ieq y43 (-1)) (some (SState.mk x0.accounts x0.symbols y3 y4 y5 y6 x0.kill x0.last x1.seq (wr IntKind.i64 (iadd x0.lsn 1)), 0)) (cnd (band (ile 0 y43) (ilt y43 (len y3))) (obind (F_order_Take (lget y3 (itn y43)) (SNote.mk x1.seq x1.what x1.order x1.qty x1.price)) fun y44 ↦ cnd (bnot (ieq y44.snd 0)) (some (SState.mk x0.accounts x0.symbols y3 y4 y5 y6 x0.kill x0.last x1.seq (wr IntKind.i64 (iadd x0.lsn 1)), 0)) (obind (F_book_ledger_cellOf (SState.mk x0.accounts x0.symbols y3 y4 y5 y6 x0.kill x0.last x1.seq x0.lsn) (lget y3 (itn y43)).account (lget y3 (itn y43)).symbol) fun y45 ↦ cnd (band (ile 0 y45) (ilt y45 (len y4))) (obind (F_cell_Go (lget y4 (itn y45)) (lget y3 (itn y43))) fun y46 ↦ obind (F_cell_Come (lget (lset y4 (itn y45) y46.fst) (itn y45)) y44.fst) fun y47 ↦ cnd (ieq x1.what 3) (obind (F_cell_Did (lget (lset (lset y4 (itn y45) y46.fst) (itn y45) y47.fst) (itn y45)) (lget y3 (itn y43)).side x1.qty) fun y48 ↦ cnd (band (ile 0 y43) (ilt y43 (len y3))) (cnd (ieq y44.fst.phase 3) (obind (F_slices_Delete_api_Order (lset y3 (itn y43) y44.fst) y43 (wr IntKind.i64 (iadd y43 1))) fun y49 ↦ some (SState.mk x0.accounts x0.symbols y49 (lset (lset (lset y4 (itn y45) y46.fst) (itn y45) y47.fst) (itn y45) y48.fst) y5 y6 x0.kill x0.last x1.seq (wr IntKind.i64 (iadd x0.lsn 1)), 0)) (some (SState.mk x0.accounts x0.symbols (lset y3 (itn y43) y44.fst) (lset (lset (lset y4 (itn y45) y46.fst) (itn y45) y47.fst) (itn y45) y48.fst) y5 y6 x0.kill x0.last x1.seq (wr IntKind.i64 (iadd x0.lsn 1)), 0))) none) (cnd (band (ile 0 y43) (ilt y43 (len y3))) (cnd (ieq y44.fst.phase 3) (obind (F_slices_Delete_api_Order (lset y3 (itn y43) y44.fst) y43 (wr IntKind.i64 (iadd y43 1))) fun y50 ↦ some (SState.mk x0.accounts x0.symbols y50 (lset (lset y4 (itn y45) y46.fst) (itn y45) y47.fst) y5 y6 x0.kill x0.last x1.seq (wr IntKind.i64 (iadd x0.lsn 1)), 0)) (some (SState.mk x0.accounts x0.symbols (lset y3 (itn y43) y44.fst) (lset (lset y4 (itn y45) y46.fst) (itn y45) y47.fst) y5 y6 x0.kill x0.last x1.seq (wr IntKind.i64 (iadd x0.lsn 1)), 0))) none)) none)) none))))))))
theorem F_book_Do_d_eq : F_book_Do = F_book_Do_d := by
  funext a0 a1
  unfold F_book_Do F_book_Do_d
  simp only [F_slices_Clone_api_Order_d_eq, F_slices_Clone_api_Cell_d_eq, F_slices_Clone_api_Expo_d_eq, F_slices_Clone_int64_d_eq]
def F_snafflelaw13_awake_d : Option (Bool) := obind (F_book_New 1 1 (SExpo.mk 9 9 99) 99) fun y0 ↦ obind (F_book_Do_d y0.fst (SRec.mk 1 5 0 0 2 3 2 0 0 0 false 0 0)) fun y1 ↦ obind (F_row_Encode y1.fst) fun y2 ↦ obind (F_row_Decode y2.fst) fun y3 ↦ cnd (bnot (ieq (len y2.fst) 137)) (some false) (cnd (ile 136 (len y2.fst)) (obind (F_row_Decode (ltake (ldrop y2.fst 0) 136)) fun y4 ↦ cnd (bor (ilt 0 (len y2.fst)) (bnot (band (band (band (band (ieq y0.snd 0) (ieq y1.snd 0)) (ieq y2.snd 0)) (ieq y3.snd 0)) (ieq y4.snd 2)))) (cnd (bor (ilt 7 (len y2.fst)) (bnot (band (band (band (band (band (ieq y0.snd 0) (ieq y1.snd 0)) (ieq y2.snd 0)) (ieq y3.snd 0)) (ieq y4.snd 2)) (ieq (lget y2.fst 0) 115)))) (obind (cnd (band (band (band (band (band (band (ieq y0.snd 0) (ieq y1.snd 0)) (ieq y2.snd 0)) (ieq y3.snd 0)) (ieq y4.snd 2)) (ieq (lget y2.fst 0) 115)) (ieq (lget y2.fst 7) 1)) (F_row_Size y0.fst) (some 0)) fun y5 ↦ obind (cnd (band (band (band (band (band (band (band (ieq y0.snd 0) (ieq y1.snd 0)) (ieq y2.snd 0)) (ieq y3.snd 0)) (ieq y4.snd 2)) (ieq (lget y2.fst 0) 115)) (ieq (lget y2.fst 7) 1)) (ieq y5 76)) (F_row_Same y1.fst y3.fst) (some false)) fun y6 ↦ obind (cnd (band (band (band (band (band (band (band (band (ieq y0.snd 0) (ieq y1.snd 0)) (ieq y2.snd 0)) (ieq y3.snd 0)) (ieq y4.snd 2)) (ieq (lget y2.fst 0) 115)) (ieq (lget y2.fst 7) 1)) (ieq y5 76)) y6) (F_row_Same y0.fst y1.fst) (some false)) fun y7 ↦ some (band (band (band (band (band (band (band (band (band (ieq y0.snd 0) (ieq y1.snd 0)) (ieq y2.snd 0)) (ieq y3.snd 0)) (ieq y4.snd 2)) (ieq (lget y2.fst 0) 115)) (ieq (lget y2.fst 7) 1)) (ieq y5 76)) y6) (bnot y7))) none) none) none)
theorem F_snafflelaw13_awake_d_eq : F_snafflelaw13_awake = F_snafflelaw13_awake_d := by
  unfold F_snafflelaw13_awake F_snafflelaw13_awake_d
  simp only [F_book_Do_d_eq]
theorem awake13 : F_snafflelaw13_awake = some true := by rw [F_snafflelaw13_awake_d_eq]; kernel_rfl
theorem wr_u64_step (n c : Int) (hc : 0 ≤ c ∧ c ≤ 255) : wr .u64 (iadd (wr .u64 (imul (n % 18446744073709551616) 256)) (wr .u64 c)) = (n * 256 + c) % 18446744073709551616 := by
  rw [wr_u64, wr_u64, wr_u64]
  unfold iadd imul
  omega
theorem r_num {l : List Int} (hb : byteP l) (hl : l.length < 999999) : F_snaffleref13_num l = some (wr .i64 (unZ l)) := by
  refine Wq.eq ?_
  unfold F_snaffleref13_num
  refine Wq.bind (Q := fun y => y = unZ l % 18446744073709551616) ?_ fun y hy => by rw [w_some, hy, wr_i64_u]
  refine w_for hl (fun i x => x = unZ (l.take i) % 18446744073709551616) _ (fun i x hi hj => ?_) (fun x hj => ?_) 0 0 (Nat.zero_le _) (by simp [unZ])
  · simp only
    unfold L_snaffleref13_num_58
    rw [rd_in l hi, lget_nat l i hi, w_some, hj, wr_u64_step _ _ (hb.get hi)]
    refine ⟨wr_succ (by omega), ?_⟩
    rw [List.take_succ_eq_append_getElem hi, unZ_snoc]
  · simp only
    unfold L_snaffleref13_num_58
    rw [rd_out, w_some, hj, List.take_length]
theorem rn {α : Type} {b : List Int} (hb : byteP b) {p q : Nat} (hq : q = p + 8) (h : q ≤ b.length) (f : Int → Option α) (z : Option α) :
    cnd (band (band (ile 0 (p : Int)) (ile (p : Int) (q : Int))) (ile (q : Int) (len b))) (obind (F_snaffleref13_num (ltake (ldrop b (itn (p : Int))) (itn (isub (q : Int) (p : Int))))) f) z = f (at8 b p) := by
  have e : itn (isub (q : Int) (p : Int)) = 8 := by unfold itn isub; omega
  have e2 : ltake (ldrop b (itn (p : Int))) 8 = (b.drop p).take 8 := by rw [itn_nat]; rfl
  rw [cnd_t (band_t (band_t (ile_t (by omega)) (ile_t (by omega))) (ile_t (by unfold len; omega))), e, e2, r_num ((hb.drop _).take _) (by rw [List.length_take]; omega), ob_some]
  rfl
theorem ri {α : Type} {b : List Int} {p : Nat} (h : p < b.length) (x z : Option α) : cnd (band (ile 0 (p : Int)) (ilt (p : Int) (len b))) x z = x := cnd_t (inb b p h)
theorem wr_off {k j : Nat} (h : k + j < 1000000) : wr .i64 (iadd (k : Int) (j : Int)) = ((k + j : Nat) : Int) := by
  unfold iadd
  rw [wr_small (by omega) (by omega)]; omega
theorem lg1 (b : List Int) (k : Nat) : lget b (itn (k : Int)) = at1 b k := by rw [itn_nat]; rfl
theorem rl_orders {b : List Int} (hb : byteP b) (hl : b.length < 99999) (hf : FormP b) {a y : Int} {kl : Bool} {l1 l2 l3 : Int} :
    Wq (iterN (fun v : Int × Int × Int × Int × List SOrder × List SCell × List SExpo × List Int × Bool × Int × Int × Int => L_snaffleref13_Decode_131066 (nZ b 7 : Int) b v.1 v.2.1 v.2.2.1 v.2.2.2.1 v.2.2.2.2.1 v.2.2.2.2.2.1 v.2.2.2.2.2.2.1 v.2.2.2.2.2.2.2.1 v.2.2.2.2.2.2.2.2.1 v.2.2.2.2.2.2.2.2.2.1 v.2.2.2.2.2.2.2.2.2.2.1 v.2.2.2.2.2.2.2.2.2.2.2) LF
      (0, 32, a, y, [], [], [], [], kl, l1, l2, l3)) fun w => w = ((off2 b : Int), a, y, ordsZ b, [], [], [], kl, l1, l2, l3) := by
  have hn := hf.nums
  have hj := hf.just
  unfold off4 off3 off2 at hj
  refine w_for (n := nZ b 7) (by omega) (fun i x => x = (((32 + 61 * i : Nat) : Int), a, y, (List.range i).map (fun i => ordZ b (32 + 61 * i)), [], [], [], kl, l1, l2, l3)) _ ?_ ?_ _ 0 (Nat.zero_le _) rfl
  · rintro i x hi rfl
    simp only
    unfold L_snaffleref13_Decode_131066
    obtain ⟨k, hk⟩ : ∃ k, k = 32 + 61 * i := ⟨_, rfl⟩
    have hkl : k + 61 ≤ b.length := by omega
    rw [← hk]
    have o8 : wr .i64 (iadd (k : Int) 8) = ((k + 8 : Nat) : Int) := wr_off (j := 8) (by omega)
    have o9 : wr .i64 (iadd (k : Int) 9) = ((k + 9 : Nat) : Int) := wr_off (j := 9) (by omega)
    have o10 : wr .i64 (iadd (k : Int) 10) = ((k + 10 : Nat) : Int) := wr_off (j := 10) (by omega)
    have o11 : wr .i64 (iadd (k : Int) 11) = ((k + 11 : Nat) : Int) := wr_off (j := 11) (by omega)
    have o12 : wr .i64 (iadd (k : Int) 12) = ((k + 12 : Nat) : Int) := wr_off (j := 12) (by omega)
    have o20 : wr .i64 (iadd (k : Int) 20) = ((k + 20 : Nat) : Int) := wr_off (j := 20) (by omega)
    have o28 : wr .i64 (iadd (k : Int) 28) = ((k + 28 : Nat) : Int) := wr_off (j := 28) (by omega)
    have o36 : wr .i64 (iadd (k : Int) 36) = ((k + 36 : Nat) : Int) := wr_off (j := 36) (by omega)
    have o44 : wr .i64 (iadd (k : Int) 44) = ((k + 44 : Nat) : Int) := wr_off (j := 44) (by omega)
    have o52 : wr .i64 (iadd (k : Int) 52) = ((k + 52 : Nat) : Int) := wr_off (j := 52) (by omega)
    have o60 : wr .i64 (iadd (k : Int) 60) = ((k + 60 : Nat) : Int) := wr_off (j := 60) (by omega)
    have o61 : wr .i64 (iadd (k : Int) 61) = ((k + 61 : Nat) : Int) := wr_off (j := 61) (by omega)
    simp only [o8, o9, o10, o11, o12, o20, o28, o36, o44, o52, o60, o61, lg1]
    rw [cnd_t (ilt_t (by omega)), rn hb rfl (by omega), ri (by omega), ri (by omega), ri (by omega), ri (by omega), rn hb rfl (by omega), rn hb rfl (by omega), rn hb rfl (by omega), rn hb rfl (by omega), rn hb rfl (by omega), rn hb rfl (by omega), ri (by omega)]
    rw [wr_byte (at1_rng hb _), wr_byte (at1_rng hb _), wr_byte (at1_rng hb _), wr_byte (at1_rng hb _)]
    rw [cnd_t (len_lt (n := 1000) (by simp [lapp]; omega) (by decide)), w_some]
    refine ⟨wr_succ (by omega), ?_⟩
    rw [List.range_succ, List.map_append]
    have e61 : ((k + 61 : Nat) : Int) = ((32 + 61 * (i + 1) : Nat) : Int) := by omega
    rw [e61, hk]
    rfl
  · rintro x rfl
    simp only
    unfold L_snaffleref13_Decode_131066
    rw [cnd_f (ilt_f (by omega)), w_some]
    rfl
end Go.Av
