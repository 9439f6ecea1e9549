/- The plain law, part 1. No condition. -/
import Derived.Test.YtgdnfeljieopiaaGreatPRoomRight0
import Derived.KernelRfl
set_option linter.unusedVariables false
set_option linter.unusedSimpArgs false
set_option linter.unnecessarySimpa false
namespace Go.Av
open Go
theorem new_zero {s : SState} {r : SRec} (hr : Ok_state s) (k1 : r.kind = 1) :
    (doS s r).2 = 0 ↔ (mayP s r ∧ s.kill = false ∧ s.orders.length ≠ 64 ∧ newP s r.account r.symbol r.side r.qty r.price) := by
  unfold doS
  by_cases hm : mayP s r
  case neg => rw [if_pos hm]; exact ⟨fun h => by simp at h, fun h => absurd h.1 hm⟩
  rw [if_neg (fun h => h hm), if_pos k1]
  by_cases hk : s.kill = true
  · rw [if_pos hk]; exact ⟨fun h => by simp at h, fun h => by rw [h.2.1] at hk; cases hk⟩
  have hk' : s.kill = false := by simpa using hk
  rw [if_neg hk]
  by_cases h64 : s.orders.length = 64
  · rw [if_pos h64]; exact ⟨fun h => by simp at h, fun h => absurd h64 h.2.2.1⟩
  rw [if_neg h64, ask_zero]
  obtain ⟨hR, hrec, hlsn, hacc, hsym, hord⟩ := id hm
  have hrec' := hrec
  unfold recP knownP at hrec'
  have hp : placeP s r.account r.symbol := ⟨by omega, hacc, by omega, hsym⟩
  have hsd : r.side = 1 ∨ r.side = 2 := by omega
  have hq : 1 ≤ r.qty := by omega
  have hpr : 1 ≤ r.price := by omega
  have hW : 1 ≤ r.qty * r.price := by have := Int.mul_le_mul hq hpr (by omega) (by omega); omega
  obtain ⟨g1, g2, g3, g4⟩ := at_in hR hp
  have hat : atZ s.symbols (beginZ r) = ((atI s r.account r.symbol : Nat) : Int) := g3.symm
  have hcells : mkCells s (lapp s.orders [beginZ r]) = s.cells.set (atI s r.account r.symbol) (addC s.cells[atI s r.account r.symbol] (beginZ r)) := mk_app hR (beginZ r) _ g1 hat
  rw [fit_cell (t := ⟨s.accounts, s.symbols, lapp s.orders [beginZ r], mkCells s (lapp s.orders [beginZ r]), s.limits, s.caps, s.kill, r.order, s.seq, s.lsn⟩) hR hp (c := addC s.cells[atI s r.account r.symbol] (beginZ r)) rfl rfl hcells]
  have hm0 : 0 ≤ r.account * s.symbols := Int.mul_nonneg hp.1 (by omega)
  have hstop : stopP s ⟨s.accounts, s.symbols, lapp s.orders [beginZ r], mkCells s (lapp s.orders [beginZ r]), s.limits, s.caps, s.kill, r.order, s.seq, s.lsn⟩ r.account r.symbol ↔
      (againstP (ofC s.cells[atI s r.account r.symbol]) (ofC (addC s.cells[atI s r.account r.symbol] (beginZ r))) (lget s.limits (atI s r.account r.symbol)) ∨
       capP (wholeZ (acctZ s.symbols s.cells r.account)) (wholeZ (acctZ s.symbols s.cells r.account) - s.cells[atI s r.account r.symbol].opn + (addC s.cells[atI s r.account r.symbol] (beginZ r)).opn) (lget s.caps (itn r.account))) := by
    unfold stopP
    show (againstP (ofC (lget s.cells (atI s r.account r.symbol))) (ofC (lget (mkCells s (lapp s.orders [beginZ r])) (atI s r.account r.symbol))) (lget s.limits (atI s r.account r.symbol)) ∨ capP _ (wholeZ (acctZ s.symbols (mkCells s (lapp s.orders [beginZ r])) r.account)) _) ↔ _
    rw [hcells, acct_set_in hp.2.2 hm0 g1 g3, lget_eq' _ _ g1, lget_eq' _ _ (by simpa using g1), List.getElem_set_self]
  rw [hstop]
  unfold newP
  rw [lget_eq' _ _ g1]
  have hck := hR.ok _ (List.getElem_mem g1)
  have hlr := hr.limits.1 _ (List.getElem_mem g2)
  have gc := cap_in hR ⟨hp.1, hp.2.1⟩
  have hcr := hr.caps.1 _ (List.getElem_mem gc)
  rw [lget_eq' _ _ g2, lget_eq' _ _ gc]
  obtain ⟨o1, o2⟩ := begin_open r hq
  have l1 := hlr.long; have l2 := hlr.short; have l3 := hlr.opn
  have hcr : inI s.caps[itn r.account] := hcr
  generalize s.cells[atI s r.account r.symbol] = c at *
  generalize s.limits[atI s r.account r.symbol] = l at *
  generalize s.caps[itn r.account] = cap at *
  generalize wholeZ (acctZ s.symbols s.cells r.account) = w at *
  rw [okC_iff] at hck ⊢
  have hsd' : (beginZ r).side = r.side := rfl
  unfold addC
  rw [o1, o2, hsd']
  generalize r.qty * r.price = W at *
  generalize r.qty = q at *
  unfold againstP capP ofC
  unfold inI at *
  rcases hsd with h | h
  · rw [h, if_neg (by decide)]
    refine ⟨fun ⟨⟨h1, h2⟩, h3⟩ => ⟨hm, hk', h64, fun _ => ?_, fun e => absurd e (by decide), ?_, ?_⟩, fun ⟨_, _, _, h1, _, h3, h4⟩ => ?_⟩
    · simp only at h1 h2 h3 ⊢; omega
    · simp only at h1 h2 h3 ⊢; omega
    · simp only at h1 h2 h3 ⊢; omega
    · have := h1 rfl
      simp only
      refine ⟨⟨?_, ?_⟩, ?_⟩ <;> omega
  · rw [h, if_pos rfl]
    refine ⟨fun ⟨⟨h1, h2⟩, h3⟩ => ⟨hm, hk', h64, fun e => absurd e (by decide), fun _ => ?_, ?_, ?_⟩, fun ⟨_, _, _, _, h1, h3, h4⟩ => ?_⟩
    · simp only at h1 h2 h3 ⊢; omega
    · simp only at h1 h2 h3 ⊢; omega
    · simp only at h1 h2 h3 ⊢; omega
    · have := h1 rfl
      simp only
      refine ⟨⟨?_, ?_⟩, ?_⟩ <;> omega
theorem shl_bit (b : Nat) (h : b ≤ 62) : wr IntKind.i64 (ishl IntKind.i64 1 (b : Int)) = 2 ^ b := by
  have : ∀ k : Fin 63, wr IntKind.i64 (ishl IntKind.i64 1 ((k : Nat) : Int)) = 2 ^ (k : Nat) := by decide +kernel
  exact this ⟨b, by omega⟩
theorem bits_run {X : Type} (step : Int × Int × X → Option ((Int × Int × X) ⊕ (Int × X))) (P : Int → Prop) (J : X → Prop)
    (mono : ∀ q q', 1 ≤ q → q ≤ q' → q' ≤ 9223372036854775807 → P q' → P q)
    (hstep : ∀ (b : Nat) (n : Int) (x : X), b ≤ 62 → 0 ≤ n → n + 2 ^ b ≤ 9223372036854775807 → J x → Wq (step ((b : Int), n, x)) fun r => ∃ x', J x' ∧ (P (n + 2 ^ b) → r = .inl ((b : Int) - 1, n + 2 ^ b, x')) ∧ (¬ P (n + 2 ^ b) → r = .inl ((b : Int) - 1, n, x')))
    (hend : ∀ n x, J x → Wq (step (-1, n, x)) fun r => ∃ x', r = .inr (n, x')) (x : X) (hx : J x) :
    Wq (iterN step LF (62, 0, x)) fun w => 0 ≤ w.1 ∧ w.1 ≤ 9223372036854775807 ∧ ∀ q, 1 ≤ q → q ≤ 9223372036854775807 → (P q ↔ q ≤ w.1) := by
  have e63 : (2 : Int) ^ 63 = 9223372036854775808 := by decide
  refine w_iter (fun v : Int × Int × X => (v.1 + 1).toNat) (fun v : Int × Int × X => ∃ b : Nat, v.1 = (b : Int) - 1 ∧ b ≤ 63 ∧ 0 ≤ v.2.1 ∧ v.2.1 + 2 ^ b ≤ 9223372036854775808 ∧ (v.2.1 = 0 ∨ P v.2.1) ∧ (∀ q, v.2.1 + 2 ^ b ≤ q → q ≤ 9223372036854775807 → ¬ P q) ∧ J v.2.2) _ ?_ LF _ (lt_LF (show ((62 : Int) + 1).toNat < 1000000 by decide)) ⟨63, rfl, Nat.le_refl _, Int.le_refl _, (show (0 : Int) + 2 ^ 63 ≤ 9223372036854775808 by decide), .inl rfl, fun q (h1 : (0 : Int) + 2 ^ 63 ≤ q) h2 => absurd h1 (by omega), hx⟩
  rintro ⟨k, n, x⟩ ⟨b, hk, hb, h0, h1, h2, h3, hj⟩
  simp only at hk h0 h1 h2 h3 hj
  subst hk
  cases b with
  | zero =>
    refine (hend n x hj).mono fun r hr => ?_
    obtain ⟨x', rfl⟩ := hr
    refine ⟨h0, by omega, fun q g1 g2 => ⟨fun hp => ?_, fun hq => ?_⟩⟩
    · by_cases hq : q ≤ n
      · exact hq
      · exact absurd hp (h3 q (by rw [Int.pow_zero]; omega) g2)
    · rcases h2 with h2 | h2
      · simp only at hq; omega
      · exact mono q n g1 hq (by omega) h2
  | succ b =>
    have e2 : (2 : Int) ^ (b + 1) = 2 ^ b * 2 := Int.pow_succ 2 b
    have e1 : (1 : Int) ≤ 2 ^ b := by have : (0 : Int) < 2 ^ b := Int.pow_pos (by decide); omega
    rw [e2] at h1 h3
    have eb : ((b + 1 : Nat) : Int) - 1 = (b : Int) := by omega
    rw [eb]
    refine (hstep b n x (by omega) h0 (by omega) hj).mono fun r hr => ?_
    obtain ⟨x', g1, g2, g3⟩ := hr
    by_cases hp : P (n + 2 ^ b)
    · rw [g2 hp]
      refine ⟨⟨b, rfl, by omega, (show 0 ≤ n + 2 ^ b by omega), (show n + 2 ^ b + 2 ^ b ≤ _ by omega), .inr hp, fun q (g4 : n + 2 ^ b + 2 ^ b ≤ q) => h3 q (by omega), g1⟩, ?_⟩
      show ((b : Int) - 1 + 1).toNat < ((b : Int) + 1).toNat; omega
    · rw [g3 hp]
      refine ⟨⟨b, rfl, by omega, h0, (show n + 2 ^ b ≤ _ by omega), h2, fun q (g4 : n + 2 ^ b ≤ q) g5 hq => hp (mono _ q (by omega) g4 g5 hq), g1⟩, ?_⟩
      show ((b : Int) - 1 + 1).toNat < ((b : Int) + 1).toNat; omega
/-- A New that asks for the next order. -/
def newR (s : SState) (a y d q p : Int) : SRec := ⟨1, s.last + 1, a, y, d, q, p, 0, 0, 0, false, 0, 0⟩
def mostQ (s : SState) (a y d p n : Int) : Prop := 0 ≤ n ∧ n ≤ 9223372036854775807 ∧ ∀ q, 1 ≤ q → q ≤ 9223372036854775807 → ((doS s (newR s a y d q p)).2 = 0 ↔ q ≤ n)
theorem mostQ.uniq {s : SState} {a y d p n m : Int} (h : mostQ s a y d p n) (h2 : mostQ s a y d p m) : n = m := by
  obtain ⟨a1, a2, a3⟩ := h
  obtain ⟨b1, b2, b3⟩ := h2
  rcases Int.lt_trichotomy n m with h | h | h
  · have := a3 m (by omega) b2; have := b3 m (by omega) b2; omega
  · exact h
  · have := a3 n (by omega) a2; have := b3 n (by omega) a2; omega
theorem last_wr {s : SState} (hR : RightS s) : wr IntKind.i64 (iadd s.last 1) = s.last + 1 := by
  have := hR.fine.last
  exact wr_in (show inI _ from ⟨by unfold iadd; omega, by unfold iadd; omega⟩)
theorem new_may {s : SState} (hR : RightS s) {a y d q p : Int} (hp : placeP s a y) (hd : d = 1 ∨ d = 2) (h1 : 1 ≤ p) : mayP s (newR s a y d q p) ↔ (1 ≤ q ∧ s.last < 1000000000000 ∧ s.lsn < 1000000000) := by
  have hs := hR.sized
  have hl := hR.fine.last
  have h8 := hs.1; have h9 := hs.2.1
  obtain ⟨p1, p2, p3, p4⟩ := hp
  constructor
  · rintro ⟨_, h2, h3, _⟩
    unfold recP knownP at h2
    simp only [newR] at h2
    refine ⟨?_, ?_, h3⟩ <;> omega
  · rintro ⟨h2, h3, h4⟩
    refine ⟨hR, .inl ⟨rfl, ?_, ⟨p1, by show a < 8; omega⟩, ⟨p3, by show y < 8; omega⟩, hd, h2, h1, rfl, rfl, rfl, rfl, rfl, rfl⟩, h4, p2, p4, fun _ => ?_⟩
    · show 1 ≤ s.last + 1 ∧ s.last + 1 ≤ 1000000000000; omega
    · show s.last < s.last + 1; omega
theorem newP_mono {s : SState} {a y d q q' p : Int} (h1 : q ≤ q') (hp : 1 ≤ p) (h : newP s a y d q' p) : newP s a y d q p := by
  have : q * p ≤ q' * p := Int.mul_le_mul_of_nonneg_right h1 (by omega)
  unfold newP at *
  obtain ⟨h2, h3, h4, h5⟩ := h
  refine ⟨fun e => ?_, fun e => ?_, by omega, by omega⟩
  · have := h2 e; omega
  · have := h3 e; omega
theorem new_mono {s : SState} (hr : Ok_state s) {a y d q q' p : Int} (hq : 1 ≤ q) (h1 : q ≤ q') (h : (doS s (newR s a y d q' p)).2 = 0) : (doS s (newR s a y d q p)).2 = 0 := by
  rw [new_zero hr rfl] at h ⊢
  obtain ⟨hm, h2, h3, h4⟩ := h
  obtain ⟨m1, m2, m3, m4, m5, m6⟩ := id hm
  unfold recP knownP at m2
  simp only [newR] at m2 m4 m5
  have hp : 1 ≤ p := by omega
  have hpl : placeP s a y := ⟨by omega, m4, by omega, m5⟩
  have hd : d = 1 ∨ d = 2 := by omega
  rw [new_may m1 hpl hd hp] at hm ⊢
  exact ⟨⟨hq, hm.2⟩, h2, h3, newP_mono h1 hp h4⟩
theorem left_le {l n q : Int} (h : n + q ≤ l) (hq : q ≤ 9223372036854775807) : q ≤ leftZ l n := by unfold leftZ; omega
theorem new_bound {s : SState} (hr : Ok_state s) {a y d q p : Int} (hq : q ≤ 9223372036854775807) (h : (doS s (newR s a y d q p)).2 = 0) : (d = 1 → q ≤ (leftS s a y).long) ∧ (d = 2 → q ≤ (leftS s a y).short) := by
  rw [new_zero hr rfl] at h
  obtain ⟨_, _, _, h2, h3, _⟩ := h
  refine ⟨fun e => left_le ?_ hq, fun e => left_le ?_ hq⟩
  · exact (h2 e).1
  · exact (h3 e).1
theorem new_rng {s : SState} (hr : Ok_state s) (hR : RightS s) {a y d q p : Int} (h1 : inI a) (h2 : inI y) (h3 : inI d) (h4 : inI q) (h5 : inI p) : Ok_recd (newR s a y d q p) := by
  have := hR.fine.last
  exact ⟨(by decide : inI 1), (show inI (s.last + 1) from ⟨by omega, by omega⟩), h1, h2, h3, h4, h5, (by decide : inI 0), (by decide : inI 0), (by decide : inI 0), (by decide : inI 0), (by decide : inI 0)⟩
def mostIn (s : SState) (a y d p : Int) : Prop := RightS s ∧ placeP s a y ∧ (d = 1 ∨ d = 2) ∧ 1 ≤ p
theorem e_room_Most {s : SState} {a y d p : Int} (hr : Ok_state s) (hsh : shortP s) (h1 : inI a) (h2 : inI y) (h3 : inI d) (h5 : inI p) :
    Wq (F_room_Most s a y d p) fun r => (mostIn s a y d p → r.2 = 0 ∧ mostQ s a y d p r.1) ∧ (¬ mostIn s a y d p → r = (0, 1)) := by
  unfold F_room_Most
  by_cases hc : RightS s ∧ placeP s a y
  case neg =>
    rw [e_room_Left_bad hr hsh hc, ob_some, cnd_t (by rw [bor_T, bor_T]; exact .inl (.inl rfl)), w_some]
    exact ⟨fun h => absurd ⟨h.1, h.2.1⟩ hc, fun _ => rfl⟩
  obtain ⟨hR, hp⟩ := hc
  rw [e_room_Left hr hsh hR hp, ob_some]
  by_cases hd : (d = 1 ∨ d = 2) ∧ 1 ≤ p
  case neg =>
    rw [cnd_t (by
      simp only [band_T, band_F, bor_T, bor_F, bnot_T, bnot_F, ilt_T, ilt_F, ile_T, ile_F, ieq_T, ieq_F, beq_T, beq_F]
      by_cases g1 : d = 1
      · right; by_cases g2 : 1 ≤ p
        · exact absurd ⟨.inl g1, g2⟩ hd
        · omega
      · by_cases g3 : d = 2
        · right; by_cases g2 : 1 ≤ p
          · exact absurd ⟨.inr g3, g2⟩ hd
          · omega
        · exact .inl (.inr ⟨g1, g3⟩)), w_some]
    exact ⟨fun h => absurd h.2.2 hd, fun _ => rfl⟩
  rw [cnd_f (by simp only [band_T, band_F, bor_T, bor_F, bnot_T, bnot_F, ilt_T, ilt_F, ile_T, ile_F, ieq_T, ieq_F, beq_T, beq_F]; exact ⟨⟨trivial, by rcases hd.1 with h | h <;> omega⟩, by omega⟩)]
  refine Wq.mono (Q := fun r => r.2 = 0 ∧ mostQ s a y d p r.1) ?_ fun r hr => ⟨fun _ => hr, fun h => absurd ⟨hR, hp, hd⟩ h⟩
  have key : ∀ (bound : Int) (step : Int × Int × (Int × Int × Int × Int × Int × Int × Int × Int × Int × Int × Bool × Int × Int) → Option ((Int × Int × (Int × Int × Int × Int × Int × Int × Int × Int × Int × Int × Bool × Int × Int)) ⊕ (Int × (Int × Int × Int × Int × Int × Int × Int × Int × Int × Int × Bool × Int × Int)))),
      (∀ q, q ≤ 9223372036854775807 → (doS s (newR s a y d q p)).2 = 0 → q ≤ bound) →
      (∀ b n k o c e f g h i j l m t u, step (b, n, k, o, c, e, f, g, h, i, j, l, m, t, u) = L_room_Most_58_room_greatest_c57 bound s.accounts s.symbols s.orders s.cells s.limits s.caps s.kill s.last s.seq s.lsn b n k o c e f g h i j l m t u) →
      Wq (iterN step LF (62, 0, 1, wr IntKind.i64 (iadd s.last 1), a, y, d, 0, p, 0, 0, 0, false, 0, 0)) fun w => mostQ s a y d p w.1 := by
    intro bound step hb hst
    refine Wq.mono (bits_run step (fun q => q ≤ bound ∧ (doS s (newR s a y d q p)).2 = 0) (fun x => ∃ g, inI g ∧ x = (1, s.last + 1, a, y, d, g, p, 0, 0, 0, false, 0, 0)) (fun q q' g1 g2 g3 g4 => ⟨by omega, new_mono hr g1 g2 g4.2⟩) ?_ ?_ _ ⟨0, by decide, by rw [last_wr hR]⟩) fun w hw => ⟨hw.1, hw.2.1, fun q g1 g2 => ?_⟩
    · rintro b n x hb2 hn hn2 ⟨g, hg, rfl⟩
      rw [hst]
      unfold L_room_Most_58_room_greatest_c57
      have e1 : wr IntKind.i64 (iadd n (wr IntKind.i64 (ishl IntKind.i64 1 (b : Int)))) = n + 2 ^ b := by
        rw [shl_bit b hb2]
        have e1 : (1 : Int) ≤ 2 ^ b := by have : (0 : Int) < 2 ^ b := Int.pow_pos (by decide); omega
        exact wr_in (show inI _ from ⟨by unfold iadd; omega, by unfold iadd; omega⟩)
      have e1' : (1 : Int) ≤ 2 ^ b := by have : (0 : Int) < 2 ^ b := Int.pow_pos (by decide); omega
      have e2 : wr IntKind.i64 (isub (b : Int) 1) = (b : Int) - 1 := wr_in (show inI _ from ⟨by unfold isub; omega, by unfold isub; omega⟩)
      simp only [e1, e2]
      have hmore : inI (n + 2 ^ b) := ⟨by omega, hn2⟩
      generalize (n + 2 ^ b) = more at *
      rw [cnd_t (ile_t (by omega)), cnd_t (ile_t (by omega))]
      have es : SState.mk s.accounts s.symbols s.orders s.cells s.limits s.caps s.kill s.last s.seq s.lsn = s := rfl
      have er : SRec.mk 1 (s.last + 1) a y d more p 0 0 0 false 0 0 = newR s a y d more p := rfl
      rw [es, er]
      unfold F_book_May
      rw [e_book_Do hr (new_rng hr hR h1 h2 h3 hmore h5) hsh.1 hsh.2.2.1 hsh.2.2.2, ob_some, cnd_if]
      by_cases hbd : more ≤ bound
      · rw [if_pos (by rw [ile_T]; exact hbd), ob_some, w_cnd, w_some, w_some]
        have e3 : band (ile more bound) (ieq (doS s (newR s a y d more p)).2 0) = true ↔ (more ≤ bound ∧ (doS s (newR s a y d more p)).2 = 0) := by simp only [band_T, band_F, bor_T, bor_F, bnot_T, bnot_F, ilt_T, ilt_F, ile_T, ile_F, ieq_T, ieq_F, beq_T, beq_F]
        refine ⟨fun h => ⟨_, ⟨more, hmore, rfl⟩, fun _ => rfl, fun h2 => absurd (e3.1 h) h2⟩, fun h => ⟨_, ⟨more, hmore, rfl⟩, fun h2 => (by rw [e3.2 h2] at h; cases h), fun _ => rfl⟩⟩
      · rw [if_neg (by rw [ile_T]; exact hbd), ob_some, cnd_f (by simp only [band_T, band_F, bor_T, bor_F, bnot_T, bnot_F, ilt_T, ilt_F, ile_T, ile_F, ieq_T, ieq_F, beq_T, beq_F]; omega), w_some]
        exact ⟨_, ⟨more, hmore, rfl⟩, fun h => absurd h.1 hbd, fun _ => rfl⟩
    · rintro n x ⟨g, hg, rfl⟩
      rw [hst]
      unfold L_room_Most_58_room_greatest_c57
      rw [cnd_f (by decide), w_some]
      exact ⟨_, rfl⟩
    · rw [← hw.2.2 q g1 g2]
      exact ⟨fun h => ⟨hb q g2 h, h⟩, fun h => h.2⟩
  rw [w_cnd]
  refine ⟨fun h => ?_, fun h => ?_⟩
  · rw [ieq_T] at h
    refine Wq.bind (key (leftS s a y).short _ (fun q hq h0 => (new_bound hr hq h0).2 h) (fun b n k o c e f g h i j l m t u => rfl)) fun w hw => (w_some _).2 ⟨rfl, hw⟩
  · rw [ieq_F] at h
    refine Wq.bind (key (leftS s a y).long _ (fun q hq h0 => (new_bound hr hq h0).1 (by omega)) (fun b n k o c e f g h i j l m t u => rfl)) fun w hw => (w_some _).2 ⟨rfl, hw⟩
theorem bits_pair (step : Int × Int → Option ((Int × Int) ⊕ Int)) (P : Int → Prop)
    (mono : ∀ q q', 1 ≤ q → q ≤ q' → q' ≤ 9223372036854775807 → P q' → P q)
    (hstep : ∀ (b : Nat) (n : Int), b ≤ 62 → 0 ≤ n → n + 2 ^ b ≤ 9223372036854775807 → Wq (step ((b : Int), n)) fun r => (P (n + 2 ^ b) → r = .inl ((b : Int) - 1, n + 2 ^ b)) ∧ (¬ P (n + 2 ^ b) → r = .inl ((b : Int) - 1, n)))
    (hend : ∀ n, Wq (step (-1, n)) fun r => r = .inr n) :
    Wq (iterN step LF (62, 0)) fun w => 0 ≤ w ∧ w ≤ 9223372036854775807 ∧ ∀ q, 1 ≤ q → q ≤ 9223372036854775807 → (P q ↔ q ≤ w) := by
  have e63 : (2 : Int) ^ 63 = 9223372036854775808 := by decide
  refine w_iter (fun v : Int × Int => (v.1 + 1).toNat) (fun v : Int × Int => ∃ b : Nat, v.1 = (b : Int) - 1 ∧ b ≤ 63 ∧ 0 ≤ v.2 ∧ v.2 + 2 ^ b ≤ 9223372036854775808 ∧ (v.2 = 0 ∨ P v.2) ∧ (∀ q, v.2 + 2 ^ b ≤ q → q ≤ 9223372036854775807 → ¬ P q)) _ ?_ LF _ (lt_LF (show ((62 : Int) + 1).toNat < 1000000 by decide)) ⟨63, rfl, Nat.le_refl _, Int.le_refl _, (show (0 : Int) + 2 ^ 63 ≤ 9223372036854775808 by decide), .inl rfl, fun q (h1 : (0 : Int) + 2 ^ 63 ≤ q) h2 => absurd h1 (by omega)⟩
  rintro ⟨k, n⟩ ⟨b, hk, hb, h0, h1, h2, h3⟩
  simp only at hk h0 h1 h2 h3
  subst hk
  cases b with
  | zero =>
    refine (hend n).mono fun r hr => ?_
    subst hr
    refine ⟨h0, by omega, fun q g1 g2 => ⟨fun hp => ?_, fun hq => ?_⟩⟩
    · by_cases hq : q ≤ n
      · exact hq
      · exact absurd hp (h3 q (by rw [Int.pow_zero]; omega) g2)
    · rcases h2 with h2 | h2
      · omega
      · exact mono q n g1 hq (by omega) h2
  | succ b =>
    have e2 : (2 : Int) ^ (b + 1) = 2 ^ b * 2 := Int.pow_succ 2 b
    have e1 : (1 : Int) ≤ 2 ^ b := by have : (0 : Int) < 2 ^ b := Int.pow_pos (by decide); omega
    rw [e2] at h1 h3
    have eb : ((b + 1 : Nat) : Int) - 1 = (b : Int) := by omega
    rw [eb]
    refine (hstep b n (by omega) h0 (by omega)).mono fun r hr => ?_
    obtain ⟨g2, g3⟩ := hr
    by_cases hp : P (n + 2 ^ b)
    · rw [g2 hp]
      refine ⟨⟨b, rfl, by omega, (show 0 ≤ n + 2 ^ b by omega), (show n + 2 ^ b + 2 ^ b ≤ _ by omega), .inr hp, fun q (g4 : n + 2 ^ b + 2 ^ b ≤ q) => h3 q (by omega)⟩, ?_⟩
      show ((b : Int) - 1 + 1).toNat < ((b : Int) + 1).toNat; omega
    · rw [g3 hp]
      refine ⟨⟨b, rfl, by omega, h0, (show n + 2 ^ b ≤ _ by omega), h2, fun q (g4 : n + 2 ^ b ≤ q) g5 hq => hp (mono _ q (by omega) g4 g5 hq)⟩, ?_⟩
      show ((b : Int) - 1 + 1).toNat < ((b : Int) + 1).toNat; omega
def repR (id q p : Int) : SRec := ⟨2, id, 0, 0, 0, q, p, 0, 0, 0, false, 0, 0⟩
def mostOfQ (s : SState) (id p n : Int) : Prop := 0 ≤ n ∧ n ≤ 9223372036854775807 ∧ ∀ q, 1 ≤ q → q ≤ 9223372036854775807 → ((doS s (repR id q p)).2 = 0 ↔ q ≤ n)
theorem mostOfQ.uniq {s : SState} {id p n m : Int} (h : mostOfQ s id p n) (h2 : mostOfQ s id p m) : n = m := by
  obtain ⟨a1, a2, a3⟩ := h
  obtain ⟨b1, b2, b3⟩ := h2
  rcases Int.lt_trichotomy n m with h | h | h
  · have := a3 m (by omega) b2; have := b3 m (by omega) b2; omega
  · exact h
  · have := a3 n (by omega) a2; have := b3 n (by omega) a2; omega
def repC (s : SState) (o : SOrder) (q p : Int) : SCell := addC (subC (lget s.cells (atI s o.account o.symbol)) o) (changeZ o q p)
def repOk (s : SState) (o : SOrder) (q p : Int) : Prop :=
  changeP o ∧ s.kill = false ∧ okC (repC s o q p) ∧ wholeZ (acctZ s.symbols s.cells o.account) - (lget s.cells (atI s o.account o.symbol)).opn + (repC s o q p).opn ≤ 9223372036854775807 ∧
  ¬ againstP (ofC (lget s.cells (atI s o.account o.symbol))) (ofC (repC s o q p)) (lget s.limits (atI s o.account o.symbol)) ∧
  ¬ capP (wholeZ (acctZ s.symbols s.cells o.account)) (wholeZ (acctZ s.symbols s.cells o.account) - (lget s.cells (atI s o.account o.symbol)).opn + (repC s o q p).opn) (lget s.caps (itn o.account))
theorem rep_zero {s : SState} {id q p : Int} : (doS s (repR id q p)).2 = 0 ↔ (mayP s (repR id q p) ∧ ∃ m, ∃ h : m < s.orders.length, findZ s.orders id = some m ∧ repOk s s.orders[m] q p) := by
  unfold doS
  by_cases hm : mayP s (repR id q p)
  case neg => rw [if_pos hm]; exact ⟨fun h => by simp at h, fun h => absurd h.1 hm⟩
  rw [if_neg (fun h => h hm), if_neg (by show ¬ (2 : Int) = 1; decide), if_pos (by show (2 : Int) = 2; rfl)]
  have hR := hm.1
  have hid : (repR id q p).order = id := rfl
  rw [hid]
  cases hf : findZ s.orders id with
  | none => exact ⟨fun h => by simp at h, fun ⟨_, m, _, h, _⟩ => by cases h⟩
  | some m =>
    obtain ⟨hm1, hm2⟩ := findZ_some hf
    simp only [lget_eq' _ m hm1]
    have ex : (mayP s (repR id q p) ∧ ∃ m', ∃ h : m' < s.orders.length, some m = some m' ∧ repOk s s.orders[m'] q p) ↔ repOk s s.orders[m] q p := by
      constructor
      · rintro ⟨_, m', h, e, g⟩
        have e := Option.some.inj e
        subst e
        exact g
      · intro g; exact ⟨hm, m, hm1, rfl, g⟩
    rw [ex]
    unfold repOk
    by_cases hc : changeP s.orders[m]
    case neg => rw [if_pos hc]; exact ⟨fun h => by simp at h, fun h => absurd h.1 hc⟩
    rw [if_neg (fun h => h hc)]
    by_cases hk : s.kill = true
    · rw [if_pos hk]; exact ⟨fun h => by simp at h, fun h => by rw [h.2.1] at hk; cases hk⟩
    have hk' : s.kill = false := by simpa using hk
    rw [if_neg hk, ask_zero]
    have hoi := hR.fine.ords _ (List.getElem_mem hm1)
    have hp : placeP s s.orders[m].account s.orders[m].symbol := ⟨hoi.1.1.2.1.1, hoi.2.2.1, hoi.1.1.2.2.1.1, hoi.2.2.2⟩
    obtain ⟨g1, g2, g3, g4⟩ := at_in hR hp
    have hat : atZ s.symbols s.orders[m] = ((atI s s.orders[m].account s.orders[m].symbol : Nat) : Int) := g3.symm
    have hcells : mkCells s (lset s.orders m (changeZ s.orders[m] q p)) = s.cells.set (atI s s.orders[m].account s.orders[m].symbol) (repC s s.orders[m] q p) := by
      have := mk_put hR m hm1 (changeZ s.orders[m] q p) _ g1 hat hat
      unfold repC
      rw [lget_eq' _ _ g1]
      exact this
    have hm0 : 0 ≤ s.orders[m].account * s.symbols := Int.mul_nonneg hp.1 (by have := hR.sized.2.1; omega)
    have e1 : (repR id q p).qty = q := rfl
    have e2 : (repR id q p).price = p := rfl
    rw [e1, e2, fit_cell (t := withS s (lset s.orders m (changeZ s.orders[m] q p))) hR hp rfl rfl hcells]
    have hstop : stopP s (withS s (lset s.orders m (changeZ s.orders[m] q p))) s.orders[m].account s.orders[m].symbol ↔
      (againstP (ofC (lget s.cells (atI s s.orders[m].account s.orders[m].symbol))) (ofC (repC s s.orders[m] q p)) (lget s.limits (atI s s.orders[m].account s.orders[m].symbol)) ∨
       capP (wholeZ (acctZ s.symbols s.cells s.orders[m].account)) (wholeZ (acctZ s.symbols s.cells s.orders[m].account) - (lget s.cells (atI s s.orders[m].account s.orders[m].symbol)).opn + (repC s s.orders[m] q p).opn) (lget s.caps (itn s.orders[m].account))) := by
      unfold stopP
      show (againstP (ofC (lget s.cells (atI s s.orders[m].account s.orders[m].symbol))) (ofC (lget (mkCells s (lset s.orders m (changeZ s.orders[m] q p))) (atI s s.orders[m].account s.orders[m].symbol))) (lget s.limits (atI s s.orders[m].account s.orders[m].symbol)) ∨ capP _ (wholeZ (acctZ s.symbols (mkCells s (lset s.orders m (changeZ s.orders[m] q p))) s.orders[m].account)) _) ↔ _
      rw [hcells, acct_set_in hp.2.2 hm0 g1 g3, lget_eq' (s.cells.set _ _) _ (by simpa using g1), List.getElem_set_self, lget_eq' s.cells _ g1]
    rw [hstop]
    exact ⟨fun ⟨⟨h1, h2⟩, h3⟩ => ⟨hc, hk', h1, h2, fun h => h3 (.inl h), fun h => h3 (.inr h)⟩, fun ⟨_, _, h1, h2, h3, h4⟩ => ⟨⟨h1, h2⟩, fun h => h.elim h3 h4⟩⟩
theorem change_up {o : SOrder} {q q' p : Int} (h : ordP o) (hc : changeP o) (h1 : q ≤ q') (hp : 1 ≤ p) : openZ (changeZ o q p) ≤ openZ (changeZ o q' p) ∧ worthZ (changeZ o q p) ≤ worthZ (changeZ o q' p) := by
  have h2 : o.phase = 2 := hc.1
  have e1 : ∀ q, openZ (changeZ o q p) = max o.qty q - o.filled := fun q => openZ_ne (o := changeZ o q p) (by show o.phase ≠ 3; omega)
  have e2 : ∀ q, worthZ (changeZ o q p) = if q ≤ o.filled then (o.qty - o.filled) * o.price else max ((o.qty - o.filled) * o.price) ((q - o.filled) * p) := fun q => worthZ_ne (o := changeZ o q p) (by show o.phase ≠ 3; omega)
  rw [e1, e1, e2, e2]
  have : (q - o.filled) * p ≤ (q' - o.filled) * p := Int.mul_le_mul_of_nonneg_right (by omega) (by omega)
  refine ⟨by omega, ?_⟩
  split <;> split <;> omega
theorem rep_mono {s : SState} {id q q' p : Int} (hq : 1 ≤ q) (h1 : q ≤ q') (h : (doS s (repR id q' p)).2 = 0) : (doS s (repR id q p)).2 = 0 := by
  rw [rep_zero] at h ⊢
  obtain ⟨hm, m, hm1, hf, hc, hk, h2, h3, h4, h5⟩ := h
  obtain ⟨m1, m2, m3, m4, m5, m6⟩ := hm
  have m2' := m2
  unfold recP knownP at m2
  simp only [repR] at m2
  have hp : 1 ≤ p := by omega
  refine ⟨⟨m1, .inr (.inl ⟨rfl, ?_, rfl, rfl, rfl, hq, hp, rfl, rfl, rfl, rfl, rfl, rfl⟩), m3, m4, m5, fun h => absurd h (by show ¬ (2 : Int) = 1; decide)⟩, m, hm1, hf, hc, hk, ?_⟩
  · show 1 ≤ id ∧ id ≤ 1000000000000; omega
  have hoi := m1.fine.ords _ (List.getElem_mem hm1)
  have hpl : placeP s s.orders[m].account s.orders[m].symbol := ⟨hoi.1.1.2.1.1, hoi.2.2.1, hoi.1.1.2.2.1.1, hoi.2.2.2⟩
  obtain ⟨g1, g2, g3, g4⟩ := at_in m1 hpl
  have hck := m1.ok _ (List.getElem_mem g1)
  obtain ⟨u1, u2⟩ := change_up hoi.1 hc h1 hp
  obtain ⟨v1, v2⟩ := change_more hoi.1 hc hq hp
  unfold repC at *
  rw [lget_eq' _ _ g1] at *
  have hsd : ∀ q, (changeZ s.orders[m] q p).side = s.orders[m].side := fun q => rfl
  generalize s.cells[atI s s.orders[m].account s.orders[m].symbol] = c at *
  generalize lget s.limits (atI s s.orders[m].account s.orders[m].symbol) = l at *
  generalize lget s.caps (itn s.orders[m].account) = cap at *
  generalize wholeZ (acctZ s.symbols s.cells s.orders[m].account) = w at *
  unfold addC subC at *
  simp only [hsd] at *
  generalize openZ s.orders[m] = a0 at *
  generalize openZ (changeZ s.orders[m] q p) = a1 at *
  generalize openZ (changeZ s.orders[m] q' p) = a2 at *
  generalize worthZ s.orders[m] = b0 at *
  generalize worthZ (changeZ s.orders[m] q p) = b1 at *
  generalize worthZ (changeZ s.orders[m] q' p) = b2 at *
  rw [okC_iff] at *
  unfold againstP capP ofC inI at *
  by_cases e : s.orders[m].side = 2
  · simp only [if_pos e] at *
    refine ⟨?_, ?_, ?_, ?_⟩ <;> omega
  · simp only [if_neg e] at *
    refine ⟨?_, ?_, ?_, ?_⟩ <;> omega
theorem half_sum (n : Nat) (h : n ≤ 200) : wr IntKind.i64 (ishr IntKind.u64 (wr IntKind.u64 (wr IntKind.i64 (n : Int))) 1) = ((n / 2 : Nat) : Int) := by
  have : ∀ k : Fin 201, wr IntKind.i64 (ishr IntKind.u64 (wr IntKind.u64 (wr IntKind.i64 ((k : Nat) : Int))) 1) = (((k : Nat) / 2 : Nat) : Int) := by decide +kernel
  exact this ⟨n, by omega⟩
theorem asc_lt {l : List SOrder} (h : ascP l) {i j : Nat} (hij : i < j) (hj : j < l.length) : (l[i]'(by omega)).id < l[j].id := List.pairwise_iff_getElem.1 h i j (by omega) hj hij
theorem rep_rng {id q p : Int} (h1 : inI id) (h2 : inI q) (h3 : inI p) : Ok_recd (repR id q p) :=
  ⟨(by decide : inI 2), h1, (by decide : inI 0), (by decide : inI 0), (by decide : inI 0), h2, h3, (by decide : inI 0), (by decide : inI 0), (by decide : inI 0), (by decide : inI 0), (by decide : inI 0)⟩
structure MostOfQ (s : SState) (id p : Int) (r : Int × Int) : Prop where
  arg : ¬ (RightS s ∧ 1 ≤ p) → r = (0, 1)
  none : RightS s ∧ 1 ≤ p → findZ s.orders id = .none → r = (0, 7)
  some : RightS s ∧ 1 ≤ p → ∀ m, findZ s.orders id = .some m → r.2 = 0 ∧ mostOfQ s id p r.1
theorem e_room_MostOf {s : SState} {id p : Int} (hr : Ok_state s) (hsh : shortP s) (h1 : inI id) (h2 : inI p) : Wq (F_room_MostOf s id p) (MostOfQ s id p) := by
  unfold F_room_MostOf
  refine Wq.bind (Q := fun b => b = true ↔ (1 ≤ p ∧ RightS s)) ?_ fun y0 h0 => ?_
  · rw [w_cnd]
    refine ⟨fun h => ?_, fun h => (w_some _).2 ?_⟩
    · simp only [band_T, band_F, bor_T, bor_F, bnot_T, bnot_F, ilt_T, ilt_F, ile_T, ile_F, ieq_T, ieq_F, beq_T, beq_F] at h
      exact (s_book_Right s hr hsh.1 hsh.2.2.1 hsh.2.2.2).mono fun b hb => by rw [hb]; simp [h]
    · simp only [band_T, band_F, bor_T, bor_F, bnot_T, bnot_F, ilt_T, ilt_F, ile_T, ile_F, ieq_T, ieq_F, beq_T, beq_F] at h
      exact ⟨fun h => (by cases h), fun h2 => by omega⟩
  by_cases hin : RightS s ∧ 1 ≤ p
  case neg =>
    rw [cnd_t (by
      simp only [band_T, band_F, bor_T, bor_F, bnot_T, bnot_F, ilt_T, ilt_F, ile_T, ile_F, ieq_T, ieq_F, beq_T, beq_F]
      cases hy : y0 with
      | false => exact .inr rfl
      | true => exact absurd ⟨(h0.1 hy).2, (h0.1 hy).1⟩ hin), w_some]
    exact ⟨fun _ => rfl, fun h => absurd h hin, fun h => absurd h hin⟩
  obtain ⟨hR, hp⟩ := hin
  rw [cnd_f (by rw [h0.2 ⟨hp, hR⟩, bor_F, ilt_F]; exact ⟨by omega, rfl⟩)]
  have hlen := hR.sized.lens.2.2.2
  have hasc := hR.fine.asc
  refine Wq.bind (Q := fun w : Int => ∃ i : Nat, w = (i : Int) ∧ i ≤ s.orders.length ∧ (∀ (j : Nat) (h : j < s.orders.length), j < i → s.orders[j].id < id) ∧ (∀ (j : Nat) (h : j < s.orders.length), i ≤ j → id ≤ s.orders[j].id))
    (w_iter (step := fun v : Int × Int => L_room_MostOf_28_sort_Search_c21 s.accounts s.symbols s.orders s.cells s.limits s.caps s.kill s.last s.seq s.lsn id v.fst v.snd) (fun v => (v.1 - v.2).toNat)
      (fun v => ∃ lo hi : Nat, v = ((hi : Int), (lo : Int)) ∧ lo ≤ hi ∧ hi ≤ s.orders.length ∧ (∀ (j : Nat) (h : j < s.orders.length), j < lo → s.orders[j].id < id) ∧ (∀ (j : Nat) (h : j < s.orders.length), hi ≤ j → id ≤ s.orders[j].id)) _ ?_ LF _ (lt_LF (by simp only [len]; omega)) ⟨0, s.orders.length, rfl, Nat.zero_le _, Nat.le_refl _, fun j _ h => by omega, fun j h h2 => by omega⟩) ?_
  · rintro _ ⟨lo, hi, rfl, g1, g2, g3, g4⟩
    simp only [L_room_MostOf_28_sort_Search_c21]
    rw [w_cnd]
    refine ⟨fun h => ?_, fun h => (w_some _).2 ?_⟩
    · rw [ilt_T] at h
      have e1 : wr IntKind.i64 (ishr IntKind.u64 (wr IntKind.u64 (wr IntKind.i64 (iadd (lo : Int) (hi : Int)))) 1) = (((lo + hi) / 2 : Nat) : Int) := by
        rw [← half_sum (lo + hi) (by omega)]; unfold iadd; rw [Int.natCast_add]
      have hm : (lo + hi) / 2 < s.orders.length := by omega
      rw [e1, cnd_t (inb _ _ hm), lget_nat _ _ hm, w_cnd, w_some, w_some]
      refine ⟨fun h2 => ?_, fun h2 => ?_⟩
      · simp only [band_T, band_F, bor_T, bor_F, bnot_T, bnot_F, ilt_T, ilt_F, ile_T, ile_F, ieq_T, ieq_F, beq_T, beq_F] at h2
        refine ⟨⟨(lo + hi) / 2 + 1, hi, by rw [wr_succ (by omega)], by omega, g2, fun j hj h3 => ?_, g4⟩, ?_⟩
        · rcases Nat.lt_or_ge j ((lo + hi) / 2) with h4 | h4
          · have := asc_lt hasc h4 hm; omega
          · have : j = (lo + hi) / 2 := by omega
            subst this; exact h2
        · simp only; rw [wr_succ (by omega)]; omega
      · simp only [band_T, band_F, bor_T, bor_F, bnot_T, bnot_F, ilt_T, ilt_F, ile_T, ile_F, ieq_T, ieq_F, beq_T, beq_F] at h2
        refine ⟨⟨lo, (lo + hi) / 2, rfl, by omega, by omega, g3, fun j hj h3 => ?_⟩, ?_⟩
        · rcases Nat.lt_or_ge ((lo + hi) / 2) j with h4 | h4
          · have := asc_lt hasc h4 hj; omega
          · have : j = (lo + hi) / 2 := by omega
            subst this; exact h2
        · simp only; omega
    · rw [ilt_F] at h
      have : lo = hi := by omega
      subst this
      exact ⟨lo, rfl, g2, g3, g4⟩
  rintro _ ⟨i, rfl, hi, g1, g2⟩
  by_cases hil : i < s.orders.length
  case neg =>
    have hie : i = s.orders.length := by omega
    subst hie
    have e1 : ieq ((s.orders.length : Nat) : Int) (len s.orders) = true := by rw [ieq_T]; rfl
    rw [cnd_t (by simp only [e1, bnot_true, bnot_false, bor_T]; exact .inr trivial), cnd_t (by rw [e1]; rfl), w_some]
    have hfn : findZ s.orders id = none := by
      cases hf : findZ s.orders id with
      | none => rfl
      | some m =>
        obtain ⟨hm1, hm2⟩ := findZ_some hf
        have := g1 m hm1 hm1; omega
    exact ⟨fun h => absurd ⟨hR, hp⟩ h, fun _ _ => rfl, fun _ m h => by rw [hfn] at h; cases h⟩
  rw [cnd_t (by rw [inb _ _ hil]; rfl), lget_nat _ _ hil, w_cnd]
  refine ⟨fun h => (w_some _).2 ?_, fun h => ?_⟩
  · simp only [band_T, band_F, bor_T, bor_F, bnot_T, bnot_F, ilt_T, ilt_F, ile_T, ile_F, ieq_T, ieq_F, beq_T, beq_F, len] at h
    have hfn : findZ s.orders id = none := by
      cases hf : findZ s.orders id with
      | none => rfl
      | some m =>
        obtain ⟨hm1, hm2⟩ := findZ_some hf
        exfalso
        rcases Nat.lt_trichotomy m i with h3 | h3 | h3
        · have := g1 m hm1 h3; omega
        · subst h3; omega
        · have := asc_lt hasc h3 hm1; have := g2 i hil (Nat.le_refl _); omega
    exact ⟨fun h => absurd ⟨hR, hp⟩ h, fun _ _ => rfl, fun _ m h => by rw [hfn] at h; cases h⟩
  simp only [band_T, band_F, bor_T, bor_F, bnot_T, bnot_F, ilt_T, ilt_F, ile_T, ile_F, ieq_T, ieq_F, beq_T, beq_F, len] at h
  have hfs : findZ s.orders id ≠ none := fun hf => by
    have := findZ_none hf _ (List.getElem_mem hil)
    exact this h.2
  refine Wq.bind (bits_pair (fun v : Int × Int => L_room_MostOf_58_room_greatest_c115 s.accounts s.symbols s.orders s.cells s.limits s.caps s.kill s.last s.seq s.lsn id p v.fst v.snd) (fun q => (doS s (repR id q p)).2 = 0) (fun q q' a1 a2 _ a3 => rep_mono a1 a2 a3) ?_ ?_) fun w hw => (w_some _).2 ⟨fun h => absurd ⟨hR, hp⟩ h, fun _ h => absurd h hfs, fun _ _ _ => ⟨rfl, hw⟩⟩
  · intro b n hb2 hn hn2
    simp only [L_room_MostOf_58_room_greatest_c115]
    have e1' : (1 : Int) ≤ 2 ^ b := by have : (0 : Int) < 2 ^ b := Int.pow_pos (by decide); omega
    have e1 : wr IntKind.i64 (iadd n (wr IntKind.i64 (ishl IntKind.i64 1 (b : Int)))) = n + 2 ^ b := by
      rw [shl_bit b hb2]
      exact wr_in (show inI _ from ⟨by unfold iadd; omega, by unfold iadd; omega⟩)
    have e2 : wr IntKind.i64 (isub (b : Int) 1) = (b : Int) - 1 := wr_in (show inI _ from ⟨by unfold isub; omega, by unfold isub; omega⟩)
    simp only [e1, e2]
    have hmore : inI (n + 2 ^ b) := ⟨by omega, hn2⟩
    generalize (n + 2 ^ b) = more at *
    rw [cnd_t (ile_t (by omega)), cnd_t (ile_t (by omega))]
    have es : SState.mk s.accounts s.symbols s.orders s.cells s.limits s.caps s.kill s.last s.seq s.lsn = s := rfl
    have er : SRec.mk 2 id 0 0 0 more p 0 0 0 false 0 0 = repR id more p := rfl
    rw [es, er]
    unfold F_book_May
    rw [e_book_Do hr (rep_rng h1 hmore h2) hsh.1 hsh.2.2.1 hsh.2.2.2, ob_some, ob_some, w_cnd, w_some, w_some]
    exact ⟨fun h => ⟨fun _ => rfl, fun h2 => absurd (by simpa [ieq] using h) h2⟩, fun h => ⟨fun h2 => (by rw [ieq_F] at h; exact absurd h2 h), fun _ => rfl⟩⟩
  · intro n
    simp only [L_room_MostOf_58_room_greatest_c115]
    rw [cnd_f (by decide), w_some]
theorem r_least (a b : Int) : F_snaffleref27_least a b = some (min a b) := by
  unfold F_snaffleref27_least
  rw [cnd_if]
  split
  · rename_i h; rw [ilt_T] at h; congr 1; omega
  · rename_i h; rw [ilt_T] at h; congr 1; omega
theorem le_left {q l n : Int} (h1 : 1 ≤ q) (h2 : q ≤ 9223372036854775807) : q ≤ leftZ l n ↔ n + q ≤ l := by unfold leftZ; omega
theorem le_quo {q x p : Int} (hq : 1 ≤ q) (hp : 1 ≤ p) (h0 : 0 ≤ x) : q ≤ iquo x p ↔ q * p ≤ x := by
  unfold iquo
  rw [Int.tdiv_eq_ediv_of_nonneg h0]
  exact Int.le_ediv_iff_mul_le (by omega)
theorem quo_rng {x p : Int} (h0 : 0 ≤ x) (h1 : x ≤ 9223372036854775807) (hp : 1 ≤ p) : wr IntKind.i64 (iquo x p) = iquo x p ∧ 0 ≤ iquo x p ∧ iquo x p ≤ 9223372036854775807 := by
  have e : iquo x p = x / p := Int.tdiv_eq_ediv_of_nonneg h0
  have a1 : 0 ≤ x / p := Int.ediv_nonneg h0 (by omega)
  have a2 : x / p ≤ x := Int.ediv_le_self p h0
  rw [e]
  exact ⟨wr_in (show inI _ from ⟨by omega, by omega⟩), a1, by omega⟩
theorem leftZ_rng (l n : Int) : 0 ≤ leftZ l n ∧ leftZ l n ≤ 9223372036854775807 := by unfold leftZ; omega
theorem r_room_Most {s : SState} {a y d p : Int} (hr : Ok_state s) (hsh : shortP s) :
    Wq (F_snaffleref27_Most s a y d p) fun r => (mostIn s a y d p → r.2 = true ∧ mostQ s a y d p r.1) ∧ (¬ mostIn s a y d p → r = (0, false)) := by
  unfold F_snaffleref27_Most
  refine (r_cell27 hr hsh (a := a) (y := y)).bind fun y0 h0 => ?_
  by_cases hc : RightS s ∧ placeP s a y
  case neg =>
    rw [h0.2 hc, cnd_t (show bor (bor (bnot ((0 : Int), false).snd) _) _ = true from rfl), w_some]
    exact ⟨fun h => absurd ⟨h.1, h.2.1⟩ hc, fun _ => rfl⟩
  rw [h0.1 hc]
  obtain ⟨hR, hp⟩ := hc
  by_cases hd : (d = 1 ∨ d = 2) ∧ 1 ≤ p
  case neg =>
    rw [cnd_t (by
      simp only [band_T, band_F, bor_T, bor_F, bnot_T, bnot_F, ilt_T, ilt_F, ile_T, ile_F, ieq_T, ieq_F, beq_T, beq_F]
      by_cases g1 : d = 1
      · right; by_cases g2 : 1 ≤ p
        · exact absurd ⟨.inl g1, g2⟩ hd
        · omega
      · by_cases g3 : d = 2
        · right; by_cases g2 : 1 ≤ p
          · exact absurd ⟨.inr g3, g2⟩ hd
          · omega
        · exact .inl (.inr ⟨g1, g3⟩)), w_some]
    exact ⟨fun h => absurd h.2.2 hd, fun _ => rfl⟩
  rw [cnd_f (by simp only [band_T, band_F, bor_T, bor_F, bnot_T, bnot_F, ilt_T, ilt_F, ile_T, ile_F, ieq_T, ieq_F, beq_T, beq_F]; exact ⟨⟨trivial, by rcases hd.1 with h | h <;> omega⟩, by omega⟩)]
  refine Wq.mono (Q := fun r => r.2 = true ∧ mostQ s a y d p r.1) ?_ fun r hr => ⟨fun _ => hr, fun h => absurd ⟨hR, hp, hd⟩ h⟩
  obtain ⟨hd, hpr⟩ := hd
  rw [w_cnd]
  refine ⟨fun h => (w_some _).2 ⟨rfl, Int.le_refl _, by decide, fun q h1 h2 => ?_⟩, fun h => ?_⟩
  · simp only [band_T, band_F, bor_T, bor_F, bnot_T, bnot_F, ilt_T, ilt_F, ile_T, ile_F, ieq_T, ieq_F, beq_T, beq_F, len] at h
    have : ¬ (doS s (newR s a y d q p)).2 = 0 := fun hz => by
      rw [new_zero hr rfl, new_may hR hp hd hpr] at hz
      have hl := hR.sized.2.2.2.2.2
      obtain ⟨⟨_, z1, z2⟩, z3, z4, _⟩ := hz
      rw [z3] at h
      rcases h with ((h | h) | h) | h
      · cases h
      · omega
      · omega
      · omega
    simp only
    exact ⟨fun hz => absurd hz this, fun hz => by omega⟩
  · simp only [band_T, band_F, bor_T, bor_F, bnot_T, bnot_F, ilt_T, ilt_F, ile_T, ile_F, ieq_T, ieq_F, beq_T, beq_F, len] at h
    obtain ⟨⟨⟨hk, hlen⟩, hlast⟩, hlsn⟩ := h
    obtain ⟨g1, g2, g3, g4⟩ := at_in hR hp
    have gc := cap_in hR ⟨hp.1, hp.2.1⟩
    rw [r_room_Left hr hsh hR hp, ob_some, r_room_CapLeft hr hsh hR ⟨hp.1, hp.2.1⟩, ob_some]
    rw [cnd_t (by rw [bnot_T, ieq_F]; omega), cnd_t (by rw [bnot_T, ieq_F]; omega), r_least, ob_some]
    have hck := hR.ok _ (List.getElem_mem g1)
    have hx := leftZ_rng (lget s.limits (atI s a y)).opn (ofC (lget s.cells (atI s a y))).opn
    have hy := leftZ_rng (lget s.caps (itn a)) (wholeZ (acctZ s.symbols s.cells a))
    have q1 := quo_rng hx.1 hx.2 hpr
    have q2 := quo_rng hy.1 hy.2 hpr
    simp only [q1.1, q2.1, inb _ _ g1, lget_nat _ _ g1, cnd_true]
    have hopn : (leftS s a y).opn = leftZ (lget s.limits (atI s a y)).opn (ofC (lget s.cells (atI s a y))).opn := rfl
    have hcapl : capLeftS s a = leftZ (lget s.caps (itn a)) (wholeZ (acctZ s.symbols s.cells a)) := rfl
    rw [hopn, hcapl]
    have hlo := leftZ_rng (lget s.limits (atI s a y)).long (ofC (lget s.cells (atI s a y))).long
    have hsho := leftZ_rng (lget s.limits (atI s a y)).short (ofC (lget s.cells (atI s a y))).short
    have key : ∀ q, 1 ≤ q → q ≤ 9223372036854775807 → ((doS s (newR s a y d q p)).2 = 0 ↔ newP s a y d q p) := fun q z1 z2 => by
      rw [new_zero hr rfl, new_may hR hp hd hpr]
      constructor
      · intro hz; exact hz.2.2.2
      · intro hz; exact ⟨⟨z1, hlast, hlsn⟩, hk, by omega, hz⟩
    have hW : ∀ q, 1 ≤ q → 1 ≤ q * p := fun q hq => by have := Int.mul_le_mul hq hpr (by omega) (by omega); omega
    have hlr := hr.limits.1 _ (List.getElem_mem g2)
    have hcr := hr.caps.1 _ (List.getElem_mem gc)
    have hcr : inI s.caps[itn a] := hcr
    have hl1 := hlr.opn
    have hw := hR.acct a hp.1 hp.2.1
    have opnIff : ∀ q, 1 ≤ q → q ≤ 9223372036854775807 → (q ≤ iquo (leftZ (lget s.limits (atI s a y)).opn (ofC (lget s.cells (atI s a y))).opn) p ↔ (lget s.cells (atI s a y)).opn + q * p ≤ (lget s.limits (atI s a y)).opn) := fun q z1 z2 => by
      rw [le_quo z1 hpr hx.1]
      have := hW q z1
      rw [lget_eq' _ _ g1, lget_eq' _ _ g2]
      unfold leftZ ofC inI at *
      have := hck.2.1.2.2
      simp only
      omega
    have hw0 : 0 ≤ wholeZ (acctZ s.symbols s.cells a) := by
      unfold wholeZ
      exact sum_nn fun x hx => by
        obtain ⟨c, hc, rfl⟩ := List.mem_map.1 hx
        exact (acct_nn hR.ok a c hc).1
    have capIff : ∀ q, 1 ≤ q → q ≤ 9223372036854775807 → (q ≤ iquo (leftZ (lget s.caps (itn a)) (wholeZ (acctZ s.symbols s.cells a))) p ↔ wholeZ (acctZ s.symbols s.cells a) + q * p ≤ lget s.caps (itn a)) := fun q z1 z2 => by
      rw [le_quo z1 hpr hy.1]
      have := hW q z1
      rw [lget_eq' _ _ gc]
      unfold leftZ inI at *
      omega
    rw [w_cnd]
    refine ⟨fun hs => ?_, fun hs => ?_⟩
    · rw [ieq_T] at hs
      rw [r_least, ob_some, r_least, ob_some, w_some]
      have hb : wr IntKind.i64 (isub 9223372036854775807 s.cells[atI s a y].buy) = 9223372036854775807 - s.cells[atI s a y].buy := by
        have := hck.2.1.1
        have := hck.1.buy
        unfold inI at this
        exact wr_in (show inI _ from ⟨by unfold isub; omega, by unfold isub; omega⟩)
      rw [hb]
      have b1 := hck.2.1.1
      have b2 := hck.1.buy
      unfold inI at b2
      have hll : (leftS s a y).long = leftZ (lget s.limits (atI s a y)).long (ofC (lget s.cells (atI s a y))).long := rfl
      rw [hll]
      refine ⟨rfl, by simp only; omega, by simp only; omega, fun q z1 z2 => ?_⟩
      rw [key q z1 z2]
      have k1 := opnIff q z1 z2
      have k2 := capIff q z1 z2
      have k3 := le_left (l := (lget s.limits (atI s a y)).long) (n := (ofC (lget s.cells (atI s a y))).long) z1 z2
      unfold newP
      have e1 : (ofC (lget s.cells (atI s a y))).long = (lget s.cells (atI s a y)).pos + (lget s.cells (atI s a y)).buy := rfl
      rw [e1] at k3 ⊢
      have e2 : lget s.cells (atI s a y) = s.cells[atI s a y] := lget_eq' _ _ g1
      constructor
      · rintro ⟨z3, _, z5, z6⟩
        have := z3 hs
        have := k1.2 z5; have := k2.2 z6; have := k3.2 (z3 hs).1
        have z7 := (z3 hs).2
        rw [e2] at z7
        simp only; omega
      · intro hz
        simp only at hz
        refine ⟨fun _ => ⟨k3.1 (by omega), by rw [e2]; omega⟩, fun h => by omega, k1.1 (by omega), k2.1 (by omega)⟩
    · rw [ieq_F] at hs
      have hs : d = 2 := by omega
      rw [r_least, ob_some, r_least, ob_some, w_some]
      have hb : wr IntKind.i64 (isub 9223372036854775807 s.cells[atI s a y].sell) = 9223372036854775807 - s.cells[atI s a y].sell := by
        have := hck.2.1.2.1
        have := hck.1.sell
        unfold inI at this
        exact wr_in (show inI _ from ⟨by unfold isub; omega, by unfold isub; omega⟩)
      rw [hb]
      have b1 := hck.2.1.2.1
      have b2 := hck.1.sell
      unfold inI at b2
      have hll : (leftS s a y).short = leftZ (lget s.limits (atI s a y)).short (ofC (lget s.cells (atI s a y))).short := rfl
      rw [hll]
      refine ⟨rfl, by simp only; omega, by simp only; omega, fun q z1 z2 => ?_⟩
      rw [key q z1 z2]
      have k1 := opnIff q z1 z2
      have k2 := capIff q z1 z2
      have k3 := le_left (l := (lget s.limits (atI s a y)).short) (n := (ofC (lget s.cells (atI s a y))).short) z1 z2
      unfold newP
      have e1 : (ofC (lget s.cells (atI s a y))).short = (lget s.cells (atI s a y)).sell - (lget s.cells (atI s a y)).pos := rfl
      rw [e1] at k3 ⊢
      have e2 : lget s.cells (atI s a y) = s.cells[atI s a y] := lget_eq' _ _ g1
      constructor
      · rintro ⟨_, z3, z5, z6⟩
        have := z3 hs
        have := k1.2 z5; have := k2.2 z6; have := k3.2 (z3 hs).1
        have z7 := (z3 hs).2
        rw [e2] at z7
        simp only; omega
      · intro hz
        simp only at hz
        refine ⟨fun h => by omega, fun _ => ⟨k3.1 (by omega), by rw [e2]; omega⟩, k1.1 (by omega), k2.1 (by omega)⟩
theorem u64_in {n : Int} (h1 : 0 ≤ n) (h2 : n < 18446744073709551616) : wr IntKind.u64 n = n := by rw [wr_u64]; omega
/-- How many halvings a number takes. -/
def sizeN (d : Nat) : Nat := if d = 0 then 0 else d.log2 + 1
theorem sizeN_half {d e : Nat} (h1 : 1 ≤ d) (h2 : e ≤ d / 2) : sizeN e < sizeN d := by
  unfold sizeN
  rw [if_neg (by omega : ¬ d = 0)]
  split
  · omega
  · rename_i h
    have h3 : d < 2 ^ (d.log2 + 1) := Nat.lt_log2_self
    have h4 : e < 2 ^ d.log2 := by
      rw [Nat.pow_succ] at h3; omega
    have := (Nat.log2_lt h).2 h4
    omega
theorem sizeN_le {d : Nat} (h : d < 2 ^ 64) : sizeN d ≤ 64 := by
  unfold sizeN
  split
  · omega
  · rename_i h2
    have := (Nat.log2_lt h2).2 h
    omega
theorem r_room_MostOf {s : SState} {id p : Int} (hr : Ok_state s) (hsh : shortP s) (h1 : inI id) (h2 : inI p) : Wq (F_snaffleref27_MostOf s id p) (MostOfQ s id p) := by
  unfold F_snaffleref27_MostOf
  refine (r_Right hr hsh).bind fun y0 h0 => ?_
  by_cases hin : RightS s ∧ 1 ≤ p
  case neg =>
    rw [cnd_t (by
      simp only [band_T, band_F, bor_T, bor_F, bnot_T, bnot_F, ilt_T, ilt_F, ile_T, ile_F, ieq_T, ieq_F, beq_T, beq_F]
      cases hy : y0 with
      | false => exact .inl rfl
      | true =>
        right
        by_cases hp : 1 ≤ p
        · exact absurd ⟨h0.1 hy, hp⟩ hin
        · omega), w_some]
    exact ⟨fun _ => rfl, fun h => absurd h hin, fun h => absurd h hin⟩
  obtain ⟨hR, hp⟩ := hin
  rw [h0.2 hR, cnd_f (by rw [bor_F, ilt_F]; exact ⟨rfl, by omega⟩), r_Find s id hsh.1, ob_some]
  cases hf : findZ s.orders id with
  | none =>
    rw [findI_none hf, cnd_t (by decide), w_some]
    exact ⟨fun h => absurd ⟨hR, hp⟩ h, fun _ _ => rfl, fun _ m h => by rw [hf] at h; cases h⟩
  | some m =>
    obtain ⟨hm1, hm2⟩ := findZ_some hf
    rw [findI_some hf, cnd_f (ilt_f (by omega)), cnd_t (inb _ m hm1), lget_nat _ m hm1]
    have hoi := hR.fine.ords _ (List.getElem_mem hm1)
    have hro := hr.orders.1 _ (List.getElem_mem hm1)
    refine Wq.mono (Q := fun r => r.2 = 0 ∧ mostOfQ s id p r.1) ?_ fun r h => ⟨fun h => absurd ⟨hR, hp⟩ h, fun _ h => (by rw [hf] at h; cases h), fun _ _ _ => h⟩
    refine (r_order_Change hoi.1 hro (by decide) hp).bind fun y2 hy2 => ?_
    rw [w_cnd]
    refine ⟨fun h => (w_some _).2 ⟨rfl, Int.le_refl _, by decide, fun q z1 z2 => ?_⟩, fun h => ?_⟩
    · rw [bnot_T, ieq_F] at h
      have hc : ¬ changeP s.orders[m] := fun hc => h (by rw [hy2.1 hc])
      have : ¬ (doS s (repR id q p)).2 = 0 := fun hz => by
        obtain ⟨_, m', hm', e, g⟩ := rep_zero.1 hz
        rw [hf] at e
        have e := Option.some.inj e
        subst e
        exact hc g.1
      exact ⟨fun hz => absurd hz this, fun hz => by omega⟩
    · refine Wq.bind (Q := fun w : Int => mostOfQ s id p w)
        (w_iter (step := fun v : Int × Int => L_snaffleref27_MostOf_1020 id p s v.fst v.snd) (fun v => sizeN (v.1 - v.2).toNat)
          (fun v => 0 ≤ v.2 ∧ v.2 ≤ v.1 ∧ v.1 ≤ 9223372036854775807 ∧ (v.2 = 0 ∨ (doS s (repR id v.2 p)).2 = 0) ∧ (∀ q, v.1 < q → q ≤ 9223372036854775807 → ¬ (doS s (repR id q p)).2 = 0)) _ ?_ LF _ (lt_LF (Nat.lt_of_le_of_lt (sizeN_le (by decide)) (by decide))) ⟨Int.le_refl _, by decide, Int.le_refl _, .inl rfl, fun q z1 z2 => by simp only at z1; omega⟩) fun w hw => ?_
      · rintro ⟨hi, lo⟩ ⟨g1, g2, g3, g4, g5⟩
        simp only at g1 g2 g3 g4 g5
        simp only [L_snaffleref27_MostOf_1020]
        rw [w_cnd]
        refine ⟨fun h => ?_, fun h => (w_some _).2 ?_⟩
        · rw [ilt_T] at h
          have e1 : wr IntKind.u64 (isub hi lo) = hi - lo := u64_in (by unfold isub; omega) (by unfold isub; omega)
          have e2 : iquo (hi - lo) 2 = (hi - lo) / 2 := Int.tdiv_eq_ediv_of_nonneg (by omega)
          have e3 : wr IntKind.u64 ((hi - lo) / 2) = (hi - lo) / 2 := u64_in (by omega) (by omega)
          have e4 : wr IntKind.u64 (isub hi ((hi - lo) / 2)) = hi - (hi - lo) / 2 := u64_in (by unfold isub; omega) (by unfold isub; omega)
          have e5 : wr IntKind.i64 (hi - (hi - lo) / 2) = hi - (hi - lo) / 2 := wr_in (show inI _ from ⟨by omega, by omega⟩)
          have e6 : wr IntKind.u64 (isub (hi - (hi - lo) / 2) 1) = hi - (hi - lo) / 2 - 1 := u64_in (by unfold isub; omega) (by unfold isub; omega)
          simp only [e1, e2, e3, e4, e5, e6]
          have er : SRec.mk 2 id 0 0 0 (hi - (hi - lo) / 2) p 0 0 0 false 0 0 = repR id (hi - (hi - lo) / 2) p := rfl
          rw [er, r_Do hr (rep_rng h1 ⟨by omega, by omega⟩ h2) hsh, ob_some, w_cnd, w_some, w_some]
          refine ⟨fun hz => ?_, fun hz => ?_⟩
          · rw [ieq_T] at hz
            refine ⟨⟨by simp only; omega, by simp only; omega, g3, .inr hz, g5⟩, ?_⟩
            exact sizeN_half (by omega) (by omega)
          · rw [ieq_F] at hz
            refine ⟨⟨g1, by simp only; omega, by simp only; omega, g4, fun q z1 z2 => ?_⟩, ?_⟩
            · simp only at z1
              exact fun hq => hz (rep_mono (by omega) (by omega) hq)
            · exact sizeN_half (by omega) (by simp only; omega)
        · rw [ilt_F] at h
          have : lo = hi := by omega
          subst this
          refine ⟨g1, g3, fun q z1 z2 => ⟨fun hz => ?_, fun hz => ?_⟩⟩
          · by_cases hq : q ≤ lo
            · exact hq
            · exact absurd hz (g5 q (by omega) z2)
          · rcases g4 with g4 | g4
            · omega
            · exact rep_mono z1 hz g4
      · rw [w_some, wr_in (show inI w from ⟨by have := hw.1; omega, hw.2.1⟩)]
        exact ⟨rfl, hw⟩
def nilD {τ : Type} [DecidableEq τ] (n : Int) (f : Bool → Option τ) : Option τ := if n = 0 then (if f true = f false then f true else none) else f false
theorem nilq_eq {τ : Type} [DecidableEq τ] (n : Int) (f : Bool → Option τ) : nilq n f = nilD n f := by
  unfold nilq nilD
  by_cases h : n = 0
  · rw [if_pos h, if_pos h]
    by_cases h2 : f true = f false
    · rw [if_pos h2, if_pos h2]
    · rw [if_neg h2, if_neg h2]
  · rw [if_neg h, if_neg h]
def F_slices_Clone_api_Order_d (x0 : (List SOrder)) : Option ((List SOrder)) := nilD (len x0) fun y0 ↦ cnd (beq y0 true) (some []) (cnd (ile (len x0) 68719476736) (some x0) none)
theorem F_slices_Clone_api_Order_d_eq : F_slices_Clone_api_Order = F_slices_Clone_api_Order_d := by
  funext a0
  unfold F_slices_Clone_api_Order F_slices_Clone_api_Order_d
  simp only [nilq_eq]
def F_slices_Clone_api_Cell_d (x0 : (List SCell)) : Option ((List SCell)) := nilD (len x0) fun y0 ↦ cnd (beq y0 true) (some []) (cnd (ile (len x0) 68719476736) (some x0) none)
theorem F_slices_Clone_api_Cell_d_eq : F_slices_Clone_api_Cell = F_slices_Clone_api_Cell_d := by
  funext a0
  unfold F_slices_Clone_api_Cell F_slices_Clone_api_Cell_d
  simp only [nilq_eq]
def F_slices_Clone_api_Expo_d (x0 : (List SExpo)) : Option ((List SExpo)) := nilD (len x0) fun y0 ↦ cnd (beq y0 true) (some []) (cnd (ile (len x0) 68719476736) (some x0) none)
theorem F_slices_Clone_api_Expo_d_eq : F_slices_Clone_api_Expo = F_slices_Clone_api_Expo_d := by
  funext a0
  unfold F_slices_Clone_api_Expo F_slices_Clone_api_Expo_d
  simp only [nilq_eq]
def F_slices_Clone_int64_d (x0 : (List Int)) : Option ((List Int)) := nilD (len x0) fun y0 ↦ cnd (beq y0 true) (some []) (cnd (ile (len x0) 68719476736) (some x0) none)
theorem F_slices_Clone_int64_d_eq : F_slices_Clone_int64 = F_slices_Clone_int64_d := by
  funext a0
  unfold F_slices_Clone_int64 F_slices_Clone_int64_d
  simp only [nilq_eq]
def F_book_Do_d (x0 : SState) (x1 : SRec) : Option (SState × Int) := obind (F_num_Add x0.lsn 1) fun y0 ↦ obind (cnd (bnot (bor (bnot (ieq y0.snd 0)) (ile 1000000000 x0.lsn))) (F_rec_Right x1) (some false)) fun y1 ↦ obind (cnd (bnot (bor (bor (bnot (ieq y0.snd 0)) (ile 1000000000 x0.lsn)) (bnot y1))) (F_book_Right x0) (some false)) fun y2 ↦ cnd (bor (bor (bor (bnot (ieq y0.snd 0)) (ile 1000000000 x0.lsn)) (bnot y1)) (bnot y2)) (some (x0, 1)) (obind (F_slices_Clone_api_Order_d x0.orders) fun y3 ↦ obind (F_slices_Clone_api_Cell_d x0.cells) fun y4 ↦ obind (F_slices_Clone_api_Expo_d x0.limits) fun y5 ↦ obind (F_slices_Clone_int64_d x0.caps) fun y6 ↦ cnd (ieq x1.kind 1) (obind (F_order_Begin x1) fun y7 ↦ cnd (ile x1.order x0.last) (cnd (ile x1.order x0.last) (some (x0, 1)) (cnd x0.kill (some (x0, 5)) (cnd (ieq (len y3) 64) (some (x0, 6)) (obind (F_slices_Clone_api_Order_d y3) fun y8 ↦ obind (F_slices_Clone_api_Cell_d y4) fun y9 ↦ obind (F_slices_Clone_api_Expo_d y5) fun y10 ↦ obind (F_slices_Clone_int64_d y6) fun y11 ↦ obind (F_book_ledger_cellOf (SState.mk x0.accounts x0.symbols y3 y4 y5 y6 x0.kill x0.last x0.seq x0.lsn) y7.fst.account y7.fst.symbol) fun y12 ↦ cnd (band (ile 0 y12) (ilt y12 (len y4))) (obind (F_cell_Come (lget y4 (itn y12)) y7.fst) fun y13 ↦ cnd (bnot (ieq y13.snd 0)) (some (x0, 3)) (cnd (ile (len (lapp y3 [y7.fst])) 68719476736) (obind (F_book_ledger_bears (SState.mk x0.accounts x0.symbols (lapp y3 [y7.fst]) (lset y4 (itn y12) y13.fst) y5 y6 x0.kill y7.fst.id x0.seq x0.lsn) (SState.mk x0.accounts x0.symbols y8 y9 y10 y11 x0.kill x0.last x0.seq x0.lsn) y7.fst.account y7.fst.symbol) fun y14 ↦ cnd (bnot (ieq y14 0)) (some (x0, y14)) (some (SState.mk x0.accounts x0.symbols (lapp y3 [y7.fst]) (lset y4 (itn y12) y13.fst) y5 y6 x0.kill y7.fst.id x0.seq (wr IntKind.i64 (iadd x0.lsn 1)), 0))) none)) none)))) (cnd (ile x0.accounts x1.account) (cnd (ile x0.accounts x1.account) (some (x0, 1)) (cnd x0.kill (some (x0, 5)) (cnd (ieq (len y3) 64) (some (x0, 6)) (obind (F_slices_Clone_api_Order_d y3) fun y15 ↦ obind (F_slices_Clone_api_Cell_d y4) fun y16 ↦ obind (F_slices_Clone_api_Expo_d y5) fun y17 ↦ obind (F_slices_Clone_int64_d y6) fun y18 ↦ obind (F_book_ledger_cellOf (SState.mk x0.accounts x0.symbols y3 y4 y5 y6 x0.kill x0.last x0.seq x0.lsn) y7.fst.account y7.fst.symbol) fun y19 ↦ cnd (band (ile 0 y19) (ilt y19 (len y4))) (obind (F_cell_Come (lget y4 (itn y19)) y7.fst) fun y20 ↦ cnd (bnot (ieq y20.snd 0)) (some (x0, 3)) (cnd (ile (len (lapp y3 [y7.fst])) 68719476736) (obind (F_book_ledger_bears (SState.mk x0.accounts x0.symbols (lapp y3 [y7.fst]) (lset y4 (itn y19) y20.fst) y5 y6 x0.kill y7.fst.id x0.seq x0.lsn) (SState.mk x0.accounts x0.symbols y15 y16 y17 y18 x0.kill x0.last x0.seq x0.lsn) y7.fst.account y7.fst.symbol) fun y21 ↦ cnd (bnot (ieq y21 0)) (some (x0, y21)) (some (SState.mk x0.accounts x0.symbols (lapp y3 [y7.fst]) (lset y4 (itn y19) y20.fst) y5 y6 x0.kill y7.fst.id x0.seq (wr IntKind.i64 (iadd x0.lsn 1)), 0))) none)) none)))) (cnd (ile x0.symbols x1.symbol) (some (x0, 1)) (cnd x0.kill (some (x0, 5)) (cnd (ieq (len y3) 64) (some (x0, 6)) (obind (F_slices_Clone_api_Order_d y3) fun y22 ↦ obind (F_slices_Clone_api_Cell_d y4) fun y23 ↦ obind (F_slices_Clone_api_Expo_d y5) fun y24 ↦ obind (F_slices_Clone_int64_d y6) fun y25 ↦ obind (F_book_ledger_cellOf (SState.mk x0.accounts x0.symbols y3 y4 y5 y6 x0.kill x0.last x0.seq x0.lsn) y7.fst.account y7.fst.symbol) fun y26 ↦ cnd (band (ile 0 y26) (ilt y26 (len y4))) (obind (F_cell_Come (lget y4 (itn y26)) y7.fst) fun y27 ↦ cnd (bnot (ieq y27.snd 0)) (some (x0, 3)) (cnd (ile (len (lapp y3 [y7.fst])) 68719476736) (obind (F_book_ledger_bears (SState.mk x0.accounts x0.symbols (lapp y3 [y7.fst]) (lset y4 (itn y26) y27.fst) y5 y6 x0.kill y7.fst.id x0.seq x0.lsn) (SState.mk x0.accounts x0.symbols y22 y23 y24 y25 x0.kill x0.last x0.seq x0.lsn) y7.fst.account y7.fst.symbol) fun y28 ↦ cnd (bnot (ieq y28 0)) (some (x0, y28)) (some (SState.mk x0.accounts x0.symbols (lapp y3 [y7.fst]) (lset y4 (itn y26) y27.fst) y5 y6 x0.kill y7.fst.id x0.seq (wr IntKind.i64 (iadd x0.lsn 1)), 0))) none)) none)))))) (cnd (ieq x1.kind 2) (obind (F_book_Find (SState.mk x0.accounts x0.symbols y3 y4 y5 y6 x0.kill x0.last x0.seq x0.lsn) x1.order) fun y29 ↦ cnd (ieq y29 (-1)) (some (x0, 7)) (cnd (band (ile 0 y29) (ilt y29 (len y3))) (obind (F_order_Change (lget y3 (itn y29)) x1.qty x1.price) fun y30 ↦ cnd (bnot (ieq y30.snd 0)) (some (x0, 8)) (cnd x0.kill (some (x0, 5)) (obind (F_slices_Clone_api_Order_d y3) fun y31 ↦ obind (F_slices_Clone_api_Cell_d y4) fun y32 ↦ obind (F_slices_Clone_api_Expo_d y5) fun y33 ↦ obind (F_slices_Clone_int64_d y6) fun y34 ↦ obind (F_book_ledger_cellOf (SState.mk x0.accounts x0.symbols y3 y4 y5 y6 x0.kill x0.last x0.seq x0.lsn) (lget y3 (itn y29)).account (lget y3 (itn y29)).symbol) fun y35 ↦ cnd (band (ile 0 y35) (ilt y35 (len y4))) (obind (F_cell_Go (lget y4 (itn y35)) (lget y3 (itn y29))) fun y36 ↦ obind (F_cell_Come y36.fst y30.fst) fun y37 ↦ cnd (bnot (ieq y37.snd 0)) (some (x0, 3)) (cnd (band (ile 0 y29) (ilt y29 (len y3))) (obind (F_book_ledger_bears (SState.mk x0.accounts x0.symbols (lset y3 (itn y29) y30.fst) (lset y4 (itn y35) y37.fst) y5 y6 x0.kill x0.last x0.seq x0.lsn) (SState.mk x0.accounts x0.symbols y31 y32 y33 y34 x0.kill x0.last x0.seq x0.lsn) (lget y3 (itn y29)).account (lget y3 (itn y29)).symbol) fun y38 ↦ cnd (bnot (ieq y38 0)) (some (x0, y38)) (some (SState.mk x0.accounts x0.symbols (lset y3 (itn y29) y30.fst) (lset y4 (itn y35) y37.fst) y5 y6 x0.kill x0.last x0.seq (wr IntKind.i64 (iadd x0.lsn 1)), 0))) none)) none))) none)) (cnd (ieq x1.kind 3) (obind (F_book_Find (SState.mk x0.accounts x0.symbols y3 y4 y5 y6 x0.kill x0.last x0.seq x0.lsn) x1.order) fun y39 ↦ cnd (ieq y39 (-1)) (some (x0, 7)) (cnd (band (ile 0 y39) (ilt y39 (len y3))) (obind (F_order_End (lget y3 (itn y39))) fun y40 ↦ cnd (band (ile 0 y39) (ilt y39 (len y3))) (cnd (bnot (ieq y40.snd 0)) (some (x0, y40.snd)) (some (SState.mk x0.accounts x0.symbols (lset y3 (itn y39) y40.fst) y4 y5 y6 x0.kill x0.last x0.seq (wr IntKind.i64 (iadd x0.lsn 1)), 0))) none) none)) (cnd (ieq x1.kind 4) (cnd (ile x0.accounts x1.account) (cnd (ile x0.accounts x1.account) (some (x0, 1)) (cnd (ieq x1.symbol (-1)) (cnd (band (ile 0 x1.account) (ilt x1.account (len y6))) (some (SState.mk x0.accounts x0.symbols y3 y4 y5 (lset y6 (itn x1.account) x1.opn) x0.kill x0.last x0.seq (wr IntKind.i64 (iadd x0.lsn 1)), 0)) none) (obind (F_book_ledger_cellOf (SState.mk x0.accounts x0.symbols y3 y4 y5 y6 x0.kill x0.last x0.seq x0.lsn) x1.account x1.symbol) fun y41 ↦ cnd (band (ile 0 y41) (ilt y41 (len y5))) (some (SState.mk x0.accounts x0.symbols y3 y4 (lset y5 (itn y41) (SExpo.mk x1.long x1.short x1.opn)) y6 x0.kill x0.last x0.seq (wr IntKind.i64 (iadd x0.lsn 1)), 0)) none))) (cnd (ile x0.symbols x1.symbol) (some (x0, 1)) (cnd (ieq x1.symbol (-1)) (cnd (band (ile 0 x1.account) (ilt x1.account (len y6))) (some (SState.mk x0.accounts x0.symbols y3 y4 y5 (lset y6 (itn x1.account) x1.opn) x0.kill x0.last x0.seq (wr IntKind.i64 (iadd x0.lsn 1)), 0)) none) (obind (F_book_ledger_cellOf (SState.mk x0.accounts x0.symbols y3 y4 y5 y6 x0.kill x0.last x0.seq x0.lsn) x1.account x1.symbol) fun y42 ↦ cnd (band (ile 0 y42) (ilt y42 (len y5))) (some (SState.mk x0.accounts x0.symbols y3 y4 (lset y5 (itn y42) (SExpo.mk x1.long x1.short x1.opn)) y6 x0.kill x0.last x0.seq (wr IntKind.i64 (iadd x0.lsn 1)), 0)) none)))) (cnd (ieq x1.kind 5) (some (SState.mk x0.accounts x0.symbols y3 y4 y5 y6 x1.on x0.last x0.seq (wr IntKind.i64 (iadd x0.lsn 1)), 0)) (cnd (bnot (ieq x1.seq (wr IntKind.i64 (iadd x0.seq 1)))) (some (x0, 11)) (obind (F_book_Find (SState.mk x0.accounts x0.symbols y3 y4 y5 y6 x0.kill x0.last x1.seq x0.lsn) x1.order) fun y43 ↦ cnd (ieq y43 (-1)) (some (SState.mk x0.accounts x0.symbols y3 y4 y5 y6 x0.kill x0.last x1.seq (wr IntKind.i64 (iadd x0.lsn 1)), 0)) (cnd (band (ile 0 y43) (ilt y43 (len y3))) (obind (F_order_Take (lget y3 (itn y43)) (SNote.mk x1.seq x1.what x1.order x1.qty x1.price)) fun y44 ↦ cnd (bnot (ieq y44.snd 0)) (some (SState.mk x0.accounts x0.symbols y3 y4 y5 y6 x0.kill x0.last x1.seq (wr IntKind.i64 (iadd x0.lsn 1)), 0)) (obind (F_book_ledger_cellOf (SState.mk x0.accounts x0.symbols y3 y4 y5 y6 x0.kill x0.last x1.seq x0.lsn) (lget y3 (itn y43)).account (lget y3 (itn y43)).symbol) fun y45 ↦ cnd (band (ile 0 y45) (ilt y45 (len y4))) (obind (F_cell_Go (lget y4 (itn y45)) (lget y3 (itn y43))) fun y46 ↦ obind (F_cell_Come (lget (lset y4 (itn y45) y46.fst) (itn y45)) y44.fst) fun y47 ↦ cnd (ieq x1.what 3) (obind (F_cell_Did (lget (lset (lset y4 (itn y45) y46.fst) (itn y45) y47.fst) (itn y45)) (lget y3 (itn y43)).side x1.qty) fun y48 ↦ cnd (band (ile 0 y43) (ilt y43 (len y3))) (cnd (ieq y44.fst.phase 3) (obind (F_slices_Delete_api_Order (lset y3 (itn y43) y44.fst) y43 (wr IntKind.i64 (iadd y43 1))) fun y49 ↦ some (SState.mk x0.accounts x0.symbols y49 (lset (lset (lset y4 (itn y45) y46.fst) (itn y45) y47.fst) (itn y45) y48.fst) y5 y6 x0.kill x0.last x1.seq (wr IntKind.i64 (iadd x0.lsn 1)), 0)) (some (SState.mk x0.accounts x0.symbols (lset y3 (itn y43) y44.fst) (lset (lset (lset y4 (itn y45) y46.fst) (itn y45) y47.fst) (itn y45) y48.fst) y5 y6 x0.kill x0.last x1.seq (wr IntKind.i64 (iadd x0.lsn 1)), 0))) none) (cnd (band (ile 0 y43) (ilt y43 (len y3))) (cnd (ieq y44.fst.phase 3) (obind (F_slices_Delete_api_Order (lset y3 (itn y43) y44.fst) y43 (wr IntKind.i64 (iadd y43 1))) fun y50 ↦ some (SState.mk x0.accounts x0.symbols y50 (lset (lset y4 (itn y45) y46.fst) (itn y45) y47.fst) y5 y6 x0.kill x0.last x1.seq (wr IntKind.i64 (iadd x0.lsn 1)), 0)) (some (SState.mk x0.accounts x0.symbols (lset y3 (itn y43) y44.fst) (lset (lset y4 (itn y45) y46.fst) (itn y45) y47.fst) y5 y6 x0.kill x0.last x1.seq (wr IntKind.i64 (iadd x0.lsn 1)), 0))) none)) none)) none))))))))
theorem F_book_Do_d_eq : F_book_Do = F_book_Do_d := by
  funext a0 a1
  unfold F_book_Do F_book_Do_d
  simp only [F_slices_Clone_api_Order_d_eq, F_slices_Clone_api_Cell_d_eq, F_slices_Clone_api_Expo_d_eq, F_slices_Clone_int64_d_eq]
def F_book_May_d (x0 : SState) (x1 : SRec) : Option (Int) := obind (F_book_Do_d x0 x1) fun y0 ↦ some y0.snd
theorem F_book_May_d_eq : F_book_May = F_book_May_d := by
  funext a0 a1
  unfold F_book_May F_book_May_d
  simp only [F_book_Do_d_eq]
def L_room_Most_58_room_greatest_c57_d (p0 : Int) (p1 : Int) (p2 : Int) (p3 : (List SOrder)) (p4 : (List SCell)) (p5 : (List SExpo)) (p6 : (List Int)) (p7 : Bool) (p8 : Int) (p9 : Int) (p10 : Int) (v0 : Int) (v1 : Int) (v2 : Int) (v3 : Int) (v4 : Int) (v5 : Int) (v6 : Int) (v7 : Int) (v8 : Int) (v9 : Int) (v10 : Int) (v11 : Int) (v12 : Bool) (v13 : Int) (v14 : Int) : Option ((Int × Int × Int × Int × Int × Int × Int × Int × Int × Int × Int × Int × Bool × Int × Int) ⊕ ((Int × Int × Int × Int × Int × Int × Int × Int × Int × Int × Int × Bool × Int × Int))) := cnd (ile 0 v0) (cnd (ile 0 v0) (obind (cnd (ile (wr IntKind.i64 (iadd v1 (wr IntKind.i64 (ishl IntKind.i64 1 v0)))) p0) (F_book_May_d (SState.mk p1 p2 p3 p4 p5 p6 p7 p8 p9 p10) (SRec.mk v2 v3 v4 v5 v6 (wr IntKind.i64 (iadd v1 (wr IntKind.i64 (ishl IntKind.i64 1 v0)))) v8 v9 v10 v11 v12 v13 v14)) (some 0)) fun y0 ↦ cnd (band (ile (wr IntKind.i64 (iadd v1 (wr IntKind.i64 (ishl IntKind.i64 1 v0)))) p0) (ieq y0 0)) (some (Sum.inl (wr IntKind.i64 (isub v0 1), wr IntKind.i64 (iadd v1 (wr IntKind.i64 (ishl IntKind.i64 1 v0))), v2, v3, v4, v5, v6, wr IntKind.i64 (iadd v1 (wr IntKind.i64 (ishl IntKind.i64 1 v0))), v8, v9, v10, v11, v12, v13, v14))) (some (Sum.inl (wr IntKind.i64 (isub v0 1), v1, v2, v3, v4, v5, v6, wr IntKind.i64 (iadd v1 (wr IntKind.i64 (ishl IntKind.i64 1 v0))), v8, v9, v10, v11, v12, v13, v14)))) none) (some (Sum.inr (v1, v2, v3, v4, v5, v6, v7, v8, v9, v10, v11, v12, v13, v14)))
theorem L_room_Most_58_room_greatest_c57_d_eq : L_room_Most_58_room_greatest_c57 = L_room_Most_58_room_greatest_c57_d := by
  funext a0 a1 a2 a3 a4 a5 a6 a7 a8 a9 a10 a11 a12 a13 a14 a15 a16 a17 a18 a19 a20 a21 a22 a23 a24 a25
  unfold L_room_Most_58_room_greatest_c57 L_room_Most_58_room_greatest_c57_d
  simp only [F_book_May_d_eq]
def L_room_Most_58_room_greatest_c54_d (p0 : Int) (p1 : Int) (p2 : Int) (p3 : (List SOrder)) (p4 : (List SCell)) (p5 : (List SExpo)) (p6 : (List Int)) (p7 : Bool) (p8 : Int) (p9 : Int) (p10 : Int) (v0 : Int) (v1 : Int) (v2 : Int) (v3 : Int) (v4 : Int) (v5 : Int) (v6 : Int) (v7 : Int) (v8 : Int) (v9 : Int) (v10 : Int) (v11 : Int) (v12 : Bool) (v13 : Int) (v14 : Int) : Option ((Int × Int × Int × Int × Int × Int × Int × Int × Int × Int × Int × Int × Bool × Int × Int) ⊕ ((Int × Int × Int × Int × Int × Int × Int × Int × Int × Int × Int × Bool × Int × Int))) := cnd (ile 0 v0) (cnd (ile 0 v0) (obind (cnd (ile (wr IntKind.i64 (iadd v1 (wr IntKind.i64 (ishl IntKind.i64 1 v0)))) p0) (F_book_May_d (SState.mk p1 p2 p3 p4 p5 p6 p7 p8 p9 p10) (SRec.mk v2 v3 v4 v5 v6 (wr IntKind.i64 (iadd v1 (wr IntKind.i64 (ishl IntKind.i64 1 v0)))) v8 v9 v10 v11 v12 v13 v14)) (some 0)) fun y0 ↦ cnd (band (ile (wr IntKind.i64 (iadd v1 (wr IntKind.i64 (ishl IntKind.i64 1 v0)))) p0) (ieq y0 0)) (some (Sum.inl (wr IntKind.i64 (isub v0 1), wr IntKind.i64 (iadd v1 (wr IntKind.i64 (ishl IntKind.i64 1 v0))), v2, v3, v4, v5, v6, wr IntKind.i64 (iadd v1 (wr IntKind.i64 (ishl IntKind.i64 1 v0))), v8, v9, v10, v11, v12, v13, v14))) (some (Sum.inl (wr IntKind.i64 (isub v0 1), v1, v2, v3, v4, v5, v6, wr IntKind.i64 (iadd v1 (wr IntKind.i64 (ishl IntKind.i64 1 v0))), v8, v9, v10, v11, v12, v13, v14)))) none) (some (Sum.inr (v1, v2, v3, v4, v5, v6, v7, v8, v9, v10, v11, v12, v13, v14)))
theorem L_room_Most_58_room_greatest_c54_d_eq : L_room_Most_58_room_greatest_c54 = L_room_Most_58_room_greatest_c54_d := by
  funext a0 a1 a2 a3 a4 a5 a6 a7 a8 a9 a10 a11 a12 a13 a14 a15 a16 a17 a18 a19 a20 a21 a22 a23 a24 a25
  unfold L_room_Most_58_room_greatest_c54 L_room_Most_58_room_greatest_c54_d
  simp only [F_book_May_d_eq]
def F_room_Most_d (x0 : SState) (x1 : Int) (x2 : Int) (x3 : Int) (x4 : Int) : Option (Int × Int) := obind (F_room_Left x0 x1 x2) fun y0 ↦ cnd (bor (bor (bnot (ieq y0.snd 0)) (band (bnot (ieq x3 1)) (bnot (ieq x3 2)))) (ilt x4 1)) (some (0, 1)) (cnd (ieq x3 2) (obind (iterN (fun v ↦ L_room_Most_58_room_greatest_c57_d y0.fst.short x0.accounts x0.symbols x0.orders x0.cells x0.limits x0.caps x0.kill x0.last x0.seq x0.lsn v.fst v.snd.fst v.snd.snd.fst v.snd.snd.snd.fst v.snd.snd.snd.snd.fst v.snd.snd.snd.snd.snd.fst v.snd.snd.snd.snd.snd.snd.fst v.snd.snd.snd.snd.snd.snd.snd.fst v.snd.snd.snd.snd.snd.snd.snd.snd.fst v.snd.snd.snd.snd.snd.snd.snd.snd.snd.fst v.snd.snd.snd.snd.snd.snd.snd.snd.snd.snd.fst v.snd.snd.snd.snd.snd.snd.snd.snd.snd.snd.snd.fst v.snd.snd.snd.snd.snd.snd.snd.snd.snd.snd.snd.snd.fst v.snd.snd.snd.snd.snd.snd.snd.snd.snd.snd.snd.snd.snd.fst v.snd.snd.snd.snd.snd.snd.snd.snd.snd.snd.snd.snd.snd.snd) LF (62, 0, 1, wr IntKind.i64 (iadd x0.last 1), x1, x2, x3, 0, x4, 0, 0, 0, false, 0, 0)) fun y1 ↦ some (y1.fst, 0)) (obind (iterN (fun v ↦ L_room_Most_58_room_greatest_c54_d y0.fst.long x0.accounts x0.symbols x0.orders x0.cells x0.limits x0.caps x0.kill x0.last x0.seq x0.lsn v.fst v.snd.fst v.snd.snd.fst v.snd.snd.snd.fst v.snd.snd.snd.snd.fst v.snd.snd.snd.snd.snd.fst v.snd.snd.snd.snd.snd.snd.fst v.snd.snd.snd.snd.snd.snd.snd.fst v.snd.snd.snd.snd.snd.snd.snd.snd.fst v.snd.snd.snd.snd.snd.snd.snd.snd.snd.fst v.snd.snd.snd.snd.snd.snd.snd.snd.snd.snd.fst v.snd.snd.snd.snd.snd.snd.snd.snd.snd.snd.snd.fst v.snd.snd.snd.snd.snd.snd.snd.snd.snd.snd.snd.snd.fst v.snd.snd.snd.snd.snd.snd.snd.snd.snd.snd.snd.snd.snd.fst v.snd.snd.snd.snd.snd.snd.snd.snd.snd.snd.snd.snd.snd.snd) LF (62, 0, 1, wr IntKind.i64 (iadd x0.last 1), x1, x2, x3, 0, x4, 0, 0, 0, false, 0, 0)) fun y2 ↦ some (y2.fst, 0)))
theorem F_room_Most_d_eq : F_room_Most = F_room_Most_d := by
  funext a0 a1 a2 a3 a4
  unfold F_room_Most F_room_Most_d
  simp only [L_room_Most_58_room_greatest_c57_d_eq, L_room_Most_58_room_greatest_c54_d_eq]
def L_room_MostOf_58_room_greatest_c115_d (p0 : Int) (p1 : Int) (p2 : (List SOrder)) (p3 : (List SCell)) (p4 : (List SExpo)) (p5 : (List Int)) (p6 : Bool) (p7 : Int) (p8 : Int) (p9 : Int) (p10 : Int) (p11 : Int) (v0 : Int) (v1 : Int) : Option ((Int × Int) ⊕ ((Int))) := cnd (ile 0 v0) (cnd (ile 0 v0) (obind (F_book_May_d (SState.mk p0 p1 p2 p3 p4 p5 p6 p7 p8 p9) (SRec.mk 2 p10 0 0 0 (wr IntKind.i64 (iadd v1 (wr IntKind.i64 (ishl IntKind.i64 1 v0)))) p11 0 0 0 false 0 0)) fun y0 ↦ cnd (ieq y0 0) (some (Sum.inl (wr IntKind.i64 (isub v0 1), wr IntKind.i64 (iadd v1 (wr IntKind.i64 (ishl IntKind.i64 1 v0)))))) (some (Sum.inl (wr IntKind.i64 (isub v0 1), v1)))) none) (some (Sum.inr v1))
theorem L_room_MostOf_58_room_greatest_c115_d_eq : L_room_MostOf_58_room_greatest_c115 = L_room_MostOf_58_room_greatest_c115_d := by
  funext a0 a1 a2 a3 a4 a5 a6 a7 a8 a9 a10 a11 a12 a13
  unfold L_room_MostOf_58_room_greatest_c115 L_room_MostOf_58_room_greatest_c115_d
  simp only [F_book_May_d_eq]
def F_room_MostOf_d (x0 : SState) (x1 : Int) (x2 : Int) : Option (Int × Int) := obind (cnd (bnot (ilt x2 1)) (F_book_Right x0) (some false)) fun y0 ↦ cnd (bor (ilt x2 1) (bnot y0)) (some (0, 1)) (obind (iterN (fun v ↦ L_room_MostOf_28_sort_Search_c21 x0.accounts x0.symbols x0.orders x0.cells x0.limits x0.caps x0.kill x0.last x0.seq x0.lsn x1 v.fst v.snd) LF (len x0.orders, 0)) fun y1 ↦ cnd (bor (band (ile 0 y1) (ilt y1 (len x0.orders))) (bnot (bnot (ieq y1 (len x0.orders))))) (cnd (bor (ieq y1 (len x0.orders)) (bnot (ieq (lget x0.orders (itn y1)).id x1))) (some (0, 7)) (obind (iterN (fun v ↦ L_room_MostOf_58_room_greatest_c115_d x0.accounts x0.symbols x0.orders x0.cells x0.limits x0.caps x0.kill x0.last x0.seq x0.lsn x1 x2 v.fst v.snd) LF (62, 0)) fun y2 ↦ some (y2, 0))) none)
theorem F_room_MostOf_d_eq : F_room_MostOf = F_room_MostOf_d := by
  funext a0 a1 a2
  unfold F_room_MostOf F_room_MostOf_d
  simp only [L_room_MostOf_58_room_greatest_c115_d_eq]
def F_snafflelaw27_awake_d : Option (Bool) := obind (F_book_New 1 1 (SExpo.mk 9 7 30) 25) fun y0 ↦ obind (F_book_Do_d y0.fst (SRec.mk 1 1 0 0 1 4 2 0 0 0 false 0 0)) fun y1 ↦ obind (F_room_Most_d y0.fst 0 0 1 1) fun y2 ↦ obind (F_room_Most_d y1.fst 0 0 1 1) fun y3 ↦ obind (F_room_Most_d y1.fst 0 0 2 3) fun y4 ↦ obind (F_room_Left y1.fst 0 0) fun y5 ↦ obind (F_room_CapLeft y1.fst 0) fun y6 ↦ obind (F_room_MostOf_d y1.fst 2 1) fun y7 ↦ some (band (band (band (band (band (band (band (band (band (band (band (band (ieq y0.snd 0) (ieq y1.snd 0)) (ieq y2.snd 0)) (ieq y3.snd 0)) (ieq y4.snd 0)) (ieq y5.snd 0)) (ieq y6.snd 0)) (ieq y7.snd 7)) (ieq y2.fst 9)) (ieq y3.fst 5)) (ieq y4.fst 5)) (band (ieq y5.fst.long 5) (band (ieq y5.fst.short 7) (ieq y5.fst.opn 22)))) (ieq y6.fst 17))
theorem F_snafflelaw27_awake_d_eq : F_snafflelaw27_awake = F_snafflelaw27_awake_d := by
  unfold F_snafflelaw27_awake F_snafflelaw27_awake_d
  simp only [F_book_Do_d_eq, F_room_Most_d_eq, F_room_MostOf_d_eq]
theorem awake27 : F_snafflelaw27_awake = some true := by rw [F_snafflelaw27_awake_d_eq]; kernel_rfl
theorem pure_RoomRight (x0 : SState) (x1 x2 x3 x4 x5 : Int) (k0 : Ok_state x0) (k1 : inI x1) (k2 : inI x2) (k3 : inI x3) (k4 : inI x4) (k5 : inI x5) : F_snafflelaw27_RoomRight x0 x1 x2 x3 x4 x5 = some true := by
  refine Wq.eq ?_
  unfold F_snafflelaw27_RoomRight
  rw [awake27, ob_some, bnot_true, cnd_false]
  refine (s_short x0).bind fun y1 h1 => ?_
  rw [w_cnd]
  refine ⟨fun _ => (w_some _).2 rfl, fun h => ?_⟩
  simp only [band_T, band_F, bor_T, bor_F, bnot_T, bnot_F, ilt_T, ilt_F, ile_T, ile_F, ieq_T, ieq_F, beq_T, beq_F] at h
  have hs := h1 h
  have er : ∀ a : Int, ieq a a = true := fun a => by simp [ieq]
  have eb : ∀ a : Bool, beq a a = true := fun a => by cases a <;> rfl
  -- the most of an order, alike for both
  have fin : Wq (obind (F_room_MostOf x0 x4 x5) fun y8 ↦ obind (F_snaffleref27_MostOf x0 x4 x5) fun y9 ↦ some (band (ieq y8.fst y9.fst) (ieq y8.snd y9.snd))) fun x => x = true := by
    refine (e_room_MostOf k0 hs k4 k5).bind fun y8 h8 => ?_
    refine (r_room_MostOf k0 hs k4 k5).bind fun y9 h9 => ?_
    have e : y8 = y9 := by
      by_cases hin : RightS x0 ∧ 1 ≤ x5
      case neg => rw [h8.arg hin, h9.arg hin]
      cases hf : findZ x0.orders x4 with
      | none => rw [h8.none hin hf, h9.none hin hf]
      | some m =>
        obtain ⟨a1, a2⟩ := h8.some hin m hf
        obtain ⟨b1, b2⟩ := h9.some hin m hf
        exact Prod.ext (a2.uniq b2) (by rw [a1, b1])
    subst e
    rw [w_some]; simp only [er]; rfl
  have most : ∀ K : Option Bool, Wq K (fun x => x = true) → Wq (obind (F_room_Most x0 x1 x2 x3 x5) fun y6 ↦ obind (F_snaffleref27_Most x0 x1 x2 x3 x5) fun y7 ↦ cnd (bor (bor (bnot (ieq y6.fst y7.fst)) (bnot (beq (ieq y6.snd 0) y7.snd))) (band (bnot y7.snd) (bnot (ieq y6.snd 1)))) (some false) K) fun x => x = true := by
    intro K hK
    refine (e_room_Most k0 hs k1 k2 k3 k5).bind fun y6 h6 => ?_
    refine (r_room_Most k0 hs).bind fun y7 h7 => ?_
    by_cases hin : mostIn x0 x1 x2 x3 x5
    · obtain ⟨a1, a2⟩ := h6.1 hin
      obtain ⟨b1, b2⟩ := h7.1 hin
      have := a2.uniq b2
      rw [this, a1, b1, er, er, eb]
      exact hK
    · rw [h6.2 hin, h7.2 hin]
      exact hK
  have tail := most _ fin
  have caps : ∀ K : Option Bool, Wq K (fun x => x = true) → Wq (obind (F_room_CapLeft x0 x1) fun y4 ↦ obind (F_snaffleref27_CapLeft x0 x1) fun y5 ↦ cnd (bor (bor (bnot (ieq y4.fst y5.fst)) (bnot (beq (ieq y4.snd 0) y5.snd))) (band (bnot y5.snd) (bnot (ieq y4.snd 1)))) (some false) K) fun x => x = true := by
    intro K hK
    by_cases hin : RightS x0 ∧ 0 ≤ x1 ∧ x1 < x0.accounts
    · rw [e_room_CapLeft k0 hs hin.1 hin.2, ob_some, r_room_CapLeft k0 hs hin.1 hin.2, ob_some, er]
      exact hK
    · rw [e_room_CapLeft_bad k0 hs hin, ob_some, r_room_CapLeft_bad k0 hs hin, ob_some, er]
      exact hK
  have tail2 := caps _ tail
  by_cases hin : RightS x0 ∧ placeP x0 x1 x2
  · rw [e_room_Left k0 hs hin.1 hin.2, ob_some, r_room_Left k0 hs hin.1 hin.2, ob_some]
    simp only [er]
    exact tail2
  · rw [e_room_Left_bad k0 hs hin, ob_some, r_room_Left_bad k0 hs hin, ob_some]
    exact tail2
end Go.Av
