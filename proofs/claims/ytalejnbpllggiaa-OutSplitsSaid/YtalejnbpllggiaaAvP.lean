/- The plain law. No condition. -/
import Derived.Test.YtalejnbpllggiaaAvD
set_option linter.unusedVariables false
set_option linter.unusedSimpArgs false
set_option linter.unnecessarySimpa false
namespace Go.Av
open Go
set_option linter.unusedVariables false
set_option linter.unusedSimpArgs false
/-- A loop that comes to its end. -/
theorem iterN_run {V W : Type} {step : V → Option (V ⊕ W)} (μ : V → Nat) (I : V → Prop) (R : W → Prop)
    (h : ∀ v, I v → (∃ v', step v = some (.inl v') ∧ I v' ∧ μ v' < μ v) ∨ ∃ w, step v = some (.inr w) ∧ R w) : ∀ (n : Nat) (v : V), μ v < n → I v → ∃ w, iterN step n v = some w ∧ R w
  | 0, v, hn, _ => by omega
  | n + 1, v, hn, hI => by
    rcases h v hI with ⟨v', h1, h2, h3⟩ | ⟨w, h1, h2⟩
    · obtain ⟨w, g1, g2⟩ := iterN_run μ I R h n v' (by omega) h2
      exact ⟨w, by rw [iterN, h1]; exact g1, g2⟩
    · exact ⟨w, by rw [iterN, h1]; rfl, h2⟩
theorem lt_LF {n : Nat} (h : n < 1000000) : n < LF := Nat.lt_trans h (by decide)
theorem wr_small {n : Int} (h1 : 0 ≤ n) (h2 : n < 1000000000000) : wr .i64 n = n := by
  unfold wr IntKind.wrap
  simp [IntKind.bits, IntKind.signed]
  omega
theorem cnd_t {α : Type} {b : Bool} {x y : α} (h : b = true) : cnd b x y = x := by subst h; rfl
theorem cnd_f {α : Type} {b : Bool} {x y : α} (h : b = false) : cnd b x y = y := by subst h; rfl
theorem ilt_t {a b : Int} (h : a < b) : ilt a b = true := decide_eq_true h
theorem ilt_f {a b : Int} (h : ¬ a < b) : ilt a b = false := decide_eq_false h
theorem ile_t {a b : Int} (h : a ≤ b) : ile a b = true := decide_eq_true h
theorem ile_f {a b : Int} (h : ¬ a ≤ b) : ile a b = false := decide_eq_false h
theorem ieq_refl (a : Int) : ieq a a = true := by simp [ieq]
theorem band_t {a b : Bool} (h1 : a = true) (h2 : b = true) : band a b = true := by subst h1; subst h2; rfl
theorem lget_nat {α : Type} [Inhabited α] (l : List α) (i : Nat) (h : i < l.length) : lget l (itn (i : Int)) = l[i] := by
  simp [lget, itn, h]
theorem inb {α : Type} (l : List α) (i : Nat) (h : i < l.length) : band (ile 0 (i : Int)) (ilt (i : Int) (len l)) = true := band_t (ile_t (by omega)) (ilt_t (by simp only [len]; omega))
end Go.Av
namespace Go.Av
open Go
set_option linter.unusedVariables false
set_option linter.unusedSimpArgs false

theorem clone_msg {l : List SMsg} (h : l.length < 1000) : F_slices_Clone_api_Msg l = some l := by
  unfold F_slices_Clone_api_Msg nilq
  have hc : ile (len l) 68719476736 = true := ile_t (by simp only [len]; omega)
  simp only [cnd_t hc]
  by_cases h0 : len l = 0
  · have : l = [] := List.eq_nil_of_length_eq_zero (by simp only [len] at h0; omega)
    subst this
    simp [len, cnd, beq]
  · rw [if_neg h0]
    simp [cnd, beq]

theorem rm_tot (m : SMsg) : ∃ b, F_venue_RightMsg m = some b := by
  unfold F_venue_RightMsg cnd
  repeat' split
  all_goals exact ⟨_, rfl⟩
/-- Messages that wait rightly. -/
def rightL : List SMsg → Int → Int → Prop
  | [], _, _ => True
  | m :: r, s, t => F_venue_RightMsg m = some true ∧ s < m.lsn ∧ m.lsn ≤ t ∧ rightL r m.lsn t

theorem right_spec {l : List SMsg} (hl : l.length < 1000) (s t : Int) : ∃ b, F_outbox_Right l s t = some b ∧ (b = true ↔ rightL l s t) := by
  unfold F_outbox_Right
  obtain ⟨w, h1, h2⟩ := iterN_run (step := fun v : Int × Bool × Int => L_outbox_Right_26 (len l) l t v.fst v.snd.fst v.snd.snd) (fun v => l.length - v.1.toNat)
    (fun v => ∃ i : Nat, v.1 = i ∧ i ≤ l.length ∧ (rightL l s t ↔ rightL (l.drop i) v.2.2 t))
    (fun w => match w with | .inl b => b = false ∧ ¬ rightL l s t | .inr _ => rightL l s t) (by
      rintro ⟨i0, q, sure⟩ ⟨i, rfl, hi, hr⟩
      simp only at hr ⊢
      unfold L_outbox_Right_26
      by_cases hlt : i < l.length
      · have e1 : ilt (i : Int) (len l) = true := ilt_t (by simp only [len]; omega)
        rw [cnd_t e1, cnd_t (inb l i hlt), lget_nat l i hlt]
        obtain ⟨b, hb⟩ := rm_tot l[i]
        rw [hb]
        have hd : l.drop i = l[i] :: l.drop (i + 1) := List.drop_eq_getElem_cons hlt
        rw [hd] at hr
        simp only [rightL, hb, Option.some.injEq] at hr
        simp only [obind, Option.bind_some]
        cases hc : bor (bor (bnot b) (ile l[i].lsn sure)) (ilt t l[i].lsn) with
        | true =>
          right
          rw [cnd_t rfl]
          refine ⟨_, rfl, rfl, fun h => ?_⟩
          obtain ⟨k1, k2, k3, _⟩ := hr.1 h
          subst k1
          simp [bor, bnot, ile, ilt] at hc
          omega
        | false =>
          left
          rw [cnd_f rfl]
          simp [bor, bnot, ile, ilt] at hc
          obtain ⟨⟨h1, h2⟩, h3⟩ := hc
          have hw : wr .i64 (iadd (i : Int) 1) = ((i + 1 : Nat) : Int) := by
            unfold iadd
            rw [wr_small (by omega) (by omega)]; omega
          refine ⟨_, rfl, ⟨i + 1, hw, hlt, ?_⟩, ?_⟩
          · rw [hr]
            exact ⟨fun h => h.2.2.2, fun h => ⟨h1, by omega, by omega, h⟩⟩
          · simp only [hw]
            omega
      · have e1 : ilt (i : Int) (len l) = false := ilt_f (by simp only [len]; omega)
        rw [cnd_f e1]
        right
        refine ⟨_, rfl, ?_⟩
        rw [hr, List.drop_of_length_le (by omega)]
        trivial) LF (0, false, s) (lt_LF (by simp only; omega)) ⟨0, rfl, Nat.zero_le _, by simp⟩
  rw [h1]
  cases w with
  | inl b =>
    obtain ⟨rfl, h3⟩ := h2
    exact ⟨false, rfl, by simp [h3]⟩
  | inr b => exact ⟨true, rfl, by simp only [true_iff]; exact h2⟩

theorem ready_spec {l : List SMsg} (hl : l.length < 1000) (t : Int) : ∃ k, k ≤ l.length ∧ F_outbox_Ready l t = some (l.take k, l.drop k) ∧ (∀ i, (h : i < l.length) → i < k → l[i].lsn ≤ t) ∧ (∀ h : k < l.length, t < l[k].lsn) := by
  unfold F_outbox_Ready
  obtain ⟨w, h1, h2⟩ := iterN_run (step := fun v : Int × Int => L_outbox_Ready_26_slices_IndexFunc_api_Msg_25769840653 (len l) l t v.fst v.snd) (fun v => l.length - v.1.toNat)
    (fun v => ∃ i : Nat, v.1 = i ∧ i ≤ l.length ∧ ∀ j, (h : j < l.length) → j < i → l[j].lsn ≤ t)
    (fun w => match w with | .inl k => ∃ i : Nat, k = i ∧ (∃ h : i < l.length, t < l[i].lsn) ∧ ∀ j, (h : j < l.length) → j < i → l[j].lsn ≤ t | .inr _ => ∀ j, (h : j < l.length) → l[j].lsn ≤ t) (by
      rintro ⟨i0, q⟩ ⟨i, rfl, hi, hr⟩
      simp only at hr ⊢
      unfold L_outbox_Ready_26_slices_IndexFunc_api_Msg_25769840653
      by_cases hlt : i < l.length
      · have e1 : ilt (i : Int) (len l) = true := ilt_t (by simp only [len]; omega)
        rw [cnd_t e1, cnd_t (inb l i hlt), lget_nat l i hlt]
        by_cases hc : t < l[i].lsn
        · right
          rw [cnd_t (ilt_t hc)]
          exact ⟨_, rfl, i, rfl, ⟨hlt, hc⟩, hr⟩
        · left
          rw [cnd_f (ilt_f hc)]
          have hw : wr .i64 (iadd (i : Int) 1) = ((i + 1 : Nat) : Int) := by
            unfold iadd
            rw [wr_small (by omega) (by omega)]; omega
          refine ⟨_, rfl, ⟨i + 1, hw, hlt, fun j hj hji => ?_⟩, ?_⟩
          · by_cases e : j = i
            · subst e; omega
            · exact hr j hj (by omega)
          · simp only [hw]
            omega
      · have e1 : ilt (i : Int) (len l) = false := ilt_f (by simp only [len]; omega)
        rw [cnd_f e1]
        right
        exact ⟨_, rfl, fun j hj => hr j hj (by omega)⟩) LF (0, 0) (lt_LF (by simp only; omega)) ⟨0, rfl, Nat.zero_le _, fun j _ h => by omega⟩
  rw [h1]
  have e0 : band (ile 0 (len l)) (ile (len l) (len l)) = true := band_t (ile_t (by simp only [len]; omega)) (ile_t (Int.le_refl _))
  have c1 : ∀ k, F_slices_Clone_api_Msg (ltake l k) = some (l.take k) := fun k => clone_msg (by simp [ltake]; omega)
  have c2 : ∀ k, F_slices_Clone_api_Msg (ldrop l k) = some (l.drop k) := fun k => clone_msg (by simp [ldrop]; omega)
  cases w with
  | inl k =>
    obtain ⟨i, rfl, ⟨h3, h4⟩, h5⟩ := h2
    refine ⟨i, by omega, ?_, h5, fun _ => h4⟩
    have e1 : ilt (i : Int) 0 = false := ilt_f (by omega)
    have e2 : band (ile 0 (i : Int)) (ile (i : Int) (len l)) = true := band_t (ile_t (by omega)) (ile_t (by simp only [len]; omega))
    simp only [obind, Option.bind_some, sumK, cnd_f e1, cnd_t e2, c1, c2]
    simp [itn]
  | inr b =>
    refine ⟨l.length, Nat.le_refl _, ?_, fun j hj _ => h2 j hj, fun h => by omega⟩
    simp only [obind, Option.bind_some, sumK, cnd_t e0, c1, c2]
    simp [itn, len]

theorem same_spec {l : List SMsg} (hl : l.length < 1000) : F_snaffleref16_SameMsgs l l = some true := by
  unfold F_snaffleref16_SameMsgs
  rw [ieq_refl, cnd_f (by rfl)]
  obtain ⟨w, h1, h2⟩ := iterN_run (step := fun v : Int × Bool => L_snaffleref16_SameMsgs_58 l l v.fst v.snd) (fun v => l.length - v.1.toNat)
    (fun v => ∃ i : Nat, v.1 = i ∧ i ≤ l.length) (fun w => match w with | .inl b => False | .inr _ => True) (by
      rintro ⟨i0, q⟩ ⟨i, rfl, hi⟩
      simp only
      unfold L_snaffleref16_SameMsgs_58
      by_cases hlt : i < l.length
      · have e1 : ilt (i : Int) (len l) = true := ilt_t (by simp only [len]; omega)
        left
        rw [cnd_t e1, cnd_t (inb l i hlt), cnd_t (inb l i hlt)]
        simp only [ieq_refl]
        have hw : wr .i64 (iadd (i : Int) 1) = ((i + 1 : Nat) : Int) := by
          unfold iadd
          rw [wr_small (by omega) (by omega)]; omega
        refine ⟨_, rfl, ⟨i + 1, hw, hlt⟩, ?_⟩
        simp only [hw]
        omega
      · have e1 : ilt (i : Int) (len l) = false := ilt_f (by simp only [len]; omega)
        rw [cnd_f e1]
        right
        exact ⟨_, rfl, trivial⟩) LF (0, false) (lt_LF (by simp only; omega)) ⟨0, rfl, Nat.zero_le _⟩
  rw [h1]
  cases w with
  | inl b => exact h2.elim
  | inr b => rfl
end Go.Av
namespace Go.Av
open Go
set_option linter.unusedVariables false
set_option linter.unusedSimpArgs false

theorem rightL_drop : ∀ {l : List SMsg} {s t at' : Int} (k : Nat), rightL l s t → (∀ h : k < l.length, at' < l[k].lsn) → rightL (l.drop k) at' t
  | [], s, t, a, k, _, _ => by simp [rightL]
  | m :: r, s, t, a, 0, h, hk => by
    obtain ⟨h1, h2, h3, h4⟩ := h
    exact ⟨h1, hk (Nat.succ_pos _), h3, h4⟩
  | m :: r, s, t, a, k + 1, h, hk => by
    rw [List.drop_succ_cons]
    exact rightL_drop k h.2.2.2 fun hh => hk (Nat.succ_lt_succ hh)
theorem rightL_le : ∀ {l : List SMsg} {s t : Int}, rightL l s t → ∀ k, (h : k < l.length) → l[k].lsn ≤ t
  | [], _, _, _, k, h => by simp at h
  | m :: r, s, t, hr, 0, _ => hr.2.2.1
  | m :: r, s, t, hr, k + 1, h => rightL_le (l := r) hr.2.2.2 k (Nat.lt_of_succ_lt_succ h)
end Go.Av

namespace Go.Av
open Go
set_option linter.unusedVariables false
set_option linter.unusedSimpArgs false

theorem inner_spec {l : List SMsg} (hl : l.length < 1000) (a : Int) (q : Bool) (h : ∀ i, (h : i < l.length) → l[i].lsn ≤ a) :
    ∃ b, iterN (fun v ↦ L_snafflelaw18_OutSplits_521370 l a v.fst v.snd) LF (0, q) = some (Sum.inr b) := by
  obtain ⟨w, h1, h2⟩ := iterN_run (step := fun v : Int × Bool => L_snafflelaw18_OutSplits_521370 l a v.fst v.snd) (fun v => l.length - v.1.toNat)
    (fun v => ∃ i : Nat, v.1 = i ∧ i ≤ l.length) (fun w => match w with | .inl b => False | .inr _ => True) (by
      rintro ⟨i0, q⟩ ⟨i, rfl, hi⟩
      simp only
      unfold L_snafflelaw18_OutSplits_521370
      by_cases hlt : i < l.length
      · have e1 : ilt (i : Int) (len l) = true := ilt_t (by simp only [len]; omega)
        left
        rw [cnd_t e1, cnd_t (inb l i hlt), lget_nat l i hlt, cnd_f (ilt_f (by have := h i hlt; omega))]
        have hw : wr .i64 (iadd (i : Int) 1) = ((i + 1 : Nat) : Int) := by
          unfold iadd
          rw [wr_small (by omega) (by omega)]; omega
        refine ⟨_, rfl, ⟨i + 1, hw, hlt⟩, ?_⟩
        simp only [hw]
        omega
      · have e1 : ilt (i : Int) (len l) = false := ilt_f (by simp only [len]; omega)
        rw [cnd_f e1]
        right
        exact ⟨_, rfl, trivial⟩) LF (0, q) (lt_LF (by simp only; omega)) ⟨0, rfl, Nat.zero_le _⟩
  cases w with
  | inl b => exact h2.elim
  | inr b => exact ⟨b, h1⟩

/-- One round: what is drawn, what is left. -/
theorem round_spec {l : List SMsg} (hl : l.length < 1000) (s t a : Int) (q : Bool) (hr : rightL l s t) :
    ∃ k b, k ≤ l.length ∧ F_outbox_Ready l a = some (l.take k, l.drop k) ∧
      iterN (fun v ↦ L_snafflelaw18_OutSplits_521370 (l.take k) a v.fst v.snd) LF (0, q) = some (Sum.inr b) ∧
      F_outbox_Right (l.drop k) a t = some true ∧ rightL (l.drop k) a t ∧ (t ≤ a → l.drop k = []) := by
  obtain ⟨k, hk, h1, h2, h3⟩ := ready_spec hl a
  have hd : rightL (l.drop k) a t := rightL_drop k hr h3
  obtain ⟨b, hb⟩ := inner_spec (l := l.take k) (by simp; omega) a q (fun i hi => by
    simp only [List.length_take] at hi
    simpa using h2 i (by omega) (by omega))
  obtain ⟨c, hc, hc2⟩ := right_spec (l := l.drop k) (by simp; omega) a t
  refine ⟨k, b, hk, h1, hb, ?_, hd, fun hta => ?_⟩
  · rw [hc, hc2.2 hd]
  · apply List.drop_of_length_le
    by_cases hlt : k < l.length
    · have := rightL_le hr k hlt
      have := h3 hlt
      omega
    · omega

theorem outer_spec {x0 : List SMsg} {x1 x2 : Int} {x3 : List Int} (h0 : x0.length < 100) (h3 : x3.length < 10) (h2 : x2 ≤ 1000000000) (hr : rightL x0 x1 x2) (q : Bool) :
    ∃ b, iterN (fun v ↦ L_snafflelaw18_OutSplits_1018 x2 x3 v.fst v.snd.fst v.snd.snd.fst v.snd.snd.snd.fst v.snd.snd.snd.snd) LF (0, x1, [], x0, q) = some (Sum.inr (x0, [], b)) := by
  obtain ⟨w, g1, g2⟩ := iterN_run (step := fun v : Int × Int × List SMsg × List SMsg × Bool => L_snafflelaw18_OutSplits_1018 x2 x3 v.fst v.snd.fst v.snd.snd.fst v.snd.snd.snd.fst v.snd.snd.snd.snd)
    (fun v => x3.length + 1 - v.1.toNat)
    (fun v => ∃ n : Nat, v.1 = n ∧ n ≤ x3.length + 1 ∧ v.2.2.1 ++ v.2.2.2.1 = x0 ∧ rightL v.2.2.2.1 v.2.1 x2 ∧ (n = x3.length + 1 → v.2.2.2.1 = []))
    (fun w => match w with | .inl _ => False | .inr y => y.1 = x0 ∧ y.2.1 = []) (by
      rintro ⟨i0, a0, gone, left, q⟩ ⟨n, rfl, hn, hx, hl, he⟩
      simp only at hx hl he ⊢
      have hlen : gone.length + left.length < 100 := by rw [← List.length_append, hx]; exact h0
      unfold L_snafflelaw18_OutSplits_1018
      by_cases hc : n ≤ x3.length
      · left
        have e1 : ile (n : Int) (len x3) = true := ile_t (by simp only [len]; omega)
        have hw : wr .i64 (iadd (n : Int) 1) = ((n + 1 : Nat) : Int) := by
          unfold iadd
          rw [wr_small (by omega) (by omega)]; omega
        rw [cnd_t e1]
        by_cases hlt : n < x3.length
        · have e2 : ilt (n : Int) (len x3) = true := ilt_t (by simp only [len]; omega)
          rw [cnd_t e2, cnd_t (inb x3 n hlt)]
          generalize imin (wr IntKind.i64 (iadd a0 (wr IntKind.i64 (lget x3 (itn (n : Int)))))) 1000000000 = a
          obtain ⟨k, b, hk, k1, k2, k3, k4, k5⟩ := round_spec (by omega) a0 x2 a q hl
          have c1 : ile (len (lapp gone (left.take k))) 68719476736 = true := ile_t (by simp [lapp, len]; omega)
          have c2 : ile (len (left.drop k)) 68719476736 = true := ile_t (by simp [len]; omega)
          rw [k1]
          simp only [obind, Option.bind_some]
          rw [k2]
          simp only [Option.bind_some, sumK]
          rw [k3]
          simp only [Option.bind_some]
          rw [cnd_f (by rfl), cnd_t c1, cnd_t c2]
          refine ⟨_, rfl, ⟨n + 1, hw, by omega, ?_, k4, fun h => by omega⟩, ?_⟩
          · simp only [lapp, List.append_assoc, List.take_append_drop]; exact hx
          · simp only [hw]; omega
        · have e2 : ilt (n : Int) (len x3) = false := ilt_f (by simp only [len]; omega)
          rw [cnd_f e2]
          obtain ⟨k, b, hk, k1, k2, k3, k4, k5⟩ := round_spec (by omega) a0 x2 1000000000 q hl
          have c1 : ile (len (lapp gone (left.take k))) 68719476736 = true := ile_t (by simp [lapp, len]; omega)
          have c2 : ile (len (left.drop k)) 68719476736 = true := ile_t (by simp [len]; omega)
          rw [k1]
          simp only [obind, Option.bind_some]
          rw [k2]
          simp only [Option.bind_some, sumK]
          rw [k3]
          simp only [Option.bind_some]
          rw [cnd_f (by rfl), cnd_t c1, cnd_t c2]
          refine ⟨_, rfl, ⟨n + 1, hw, by omega, ?_, k4, fun h => k5 h2⟩, ?_⟩
          · simp only [lapp, List.append_assoc, List.take_append_drop]; exact hx
          · simp only [hw]; omega
      · right
        have e1 : ile (n : Int) (len x3) = false := ile_f (by simp only [len]; omega)
        rw [cnd_f e1]
        have he := he (by omega)
        subst he
        refine ⟨_, rfl, ?_, rfl⟩
        simpa using hx) LF (0, x1, [], x0, q) (lt_LF (by simp only; omega)) ⟨0, rfl, Nat.zero_le _, rfl, hr, fun h => by omega⟩
  cases w with
  | inl b => exact g2.elim
  | inr y =>
    obtain ⟨y1, y2, b⟩ := y
    obtain ⟨rfl, rfl⟩ := g2
    exact ⟨b, g1⟩

theorem pure_of (ha : F_snafflelaw18_awake = some true) (x0 : List SMsg) (x1 x2 : Int) (x3 : List Int) : F_snafflelaw18_OutSplits x0 x1 x2 x3 = some true := by
  unfold F_snafflelaw18_OutSplits
  rw [ha]
  simp only [obind, Option.bind_some]
  rw [cnd_f (by rfl)]
  cases hb : bor (ilt 99 (len x0)) (ilt 9 (len x3)) with
  | true =>
    have : bnot true = false := rfl
    rw [cnd_f this]
    simp [bor, cnd]
  | false =>
    have : bnot false = true := rfl
    rw [cnd_t this]
    have h0 : x0.length ≤ 99 := by
      by_cases h : x0.length ≤ 99
      · exact h
      · rw [ilt_t (show (99 : Int) < len x0 by simp only [len]; omega)] at hb
        cases hb
    have h3 : x3.length ≤ 9 := by
      by_cases h : x3.length ≤ 9
      · exact h
      · rw [ilt_t (show (9 : Int) < len x3 by simp only [len]; omega)] at hb
        cases h9 : ilt 99 (len x0) <;> rw [h9] at hb <;> exact absurd hb (by decide)
    obtain ⟨y, hy, hy2⟩ := right_spec (l := x0) (by omega) x1 x2
    rw [hy]
    simp only [Option.bind_some]
    cases hg : bor (bor (bor (bor false (bnot y)) (ilt x1 0)) (ilt 1000000000 x1)) (ilt 1000000000 x2) with
    | true => rw [cnd_t rfl]
    | false =>
      rw [cnd_f rfl]
      simp [bor, ilt, bnot] at hg
      obtain ⟨⟨⟨g1, g2⟩, g3⟩, g4⟩ := hg
      obtain ⟨b, hb⟩ := outer_spec (x0 := x0) (x1 := x1) (x2 := x2) (x3 := x3) (by omega) (by omega) (by omega) (hy2.1 g1) false
      rw [cnd_t (ile_t (by simp [len]; omega)), hb]
      simp only [Option.bind_some, sumK]
      have e : ieq (len ([] : List SMsg)) 0 = true := by rfl
      rw [cnd_t e, same_spec (by omega)]
      rfl
end Go.Av

namespace Go.Av
open Go
noncomputable section
def nilD {τ : Type} [DecidableEq τ] (n : Int) (f : Bool → Option τ) : Option τ := if n = 0 then (if f true = f false then f true else none) else f false
theorem nilq_eq {τ : Type} [DecidableEq τ] (n : Int) (f : Bool → Option τ) : nilq n f = nilD n f := by
  unfold nilq nilD
  by_cases h : n = 0
  · rw [if_pos h, if_pos h]
    by_cases h2 : f true = f false
    · rw [if_pos h2, if_pos h2]
    · rw [if_neg h2, if_neg h2]
  · rw [if_neg h, if_neg h]
def F_slices_Clone_api_Order_d (x0 : (List SOrder)) : Option ((List SOrder)) := nilD (len x0) fun y0 ↦ cnd (beq y0 true) (some []) (cnd (ile (len x0) 68719476736) (some x0) none)
theorem F_slices_Clone_api_Order_d_eq : F_slices_Clone_api_Order = F_slices_Clone_api_Order_d := by
  funext a0
  unfold F_slices_Clone_api_Order F_slices_Clone_api_Order_d
  simp only [nilq_eq]
def F_slices_Clone_api_Cell_d (x0 : (List SCell)) : Option ((List SCell)) := nilD (len x0) fun y0 ↦ cnd (beq y0 true) (some []) (cnd (ile (len x0) 68719476736) (some x0) none)
theorem F_slices_Clone_api_Cell_d_eq : F_slices_Clone_api_Cell = F_slices_Clone_api_Cell_d := by
  funext a0
  unfold F_slices_Clone_api_Cell F_slices_Clone_api_Cell_d
  simp only [nilq_eq]
def F_slices_Clone_api_Expo_d (x0 : (List SExpo)) : Option ((List SExpo)) := nilD (len x0) fun y0 ↦ cnd (beq y0 true) (some []) (cnd (ile (len x0) 68719476736) (some x0) none)
theorem F_slices_Clone_api_Expo_d_eq : F_slices_Clone_api_Expo = F_slices_Clone_api_Expo_d := by
  funext a0
  unfold F_slices_Clone_api_Expo F_slices_Clone_api_Expo_d
  simp only [nilq_eq]
def F_slices_Clone_int64_d (x0 : (List Int)) : Option ((List Int)) := nilD (len x0) fun y0 ↦ cnd (beq y0 true) (some []) (cnd (ile (len x0) 68719476736) (some x0) none)
theorem F_slices_Clone_int64_d_eq : F_slices_Clone_int64 = F_slices_Clone_int64_d := by
  funext a0
  unfold F_slices_Clone_int64 F_slices_Clone_int64_d
  simp only [nilq_eq]
def F_book_Do_d (x0 : SState) (x1 : SRec) : Option (SState × Int) := obind (F_num_Add x0.lsn 1) fun y0 ↦ obind (cnd (bnot (bor (bnot (ieq y0.snd 0)) (ile 1000000000 x0.lsn))) (F_rec_Right x1) (some false)) fun y1 ↦ obind (cnd (bnot (bor (bor (bnot (ieq y0.snd 0)) (ile 1000000000 x0.lsn)) (bnot y1))) (F_book_Right x0) (some false)) fun y2 ↦ cnd (bor (bor (bor (bnot (ieq y0.snd 0)) (ile 1000000000 x0.lsn)) (bnot y1)) (bnot y2)) (some (x0, 1)) (obind (F_slices_Clone_api_Order_d x0.orders) fun y3 ↦ obind (F_slices_Clone_api_Cell_d x0.cells) fun y4 ↦ obind (F_slices_Clone_api_Expo_d x0.limits) fun y5 ↦ obind (F_slices_Clone_int64_d x0.caps) fun y6 ↦ cnd (ieq x1.kind 1) (obind (F_order_Begin x1) fun y7 ↦ cnd (ile x1.order x0.last) (cnd (ile x1.order x0.last) (some (x0, 1)) (cnd x0.kill (some (x0, 5)) (cnd (ieq (len y3) 64) (some (x0, 6)) (obind (F_slices_Clone_api_Order_d y3) fun y8 ↦ obind (F_slices_Clone_api_Cell_d y4) fun y9 ↦ obind (F_slices_Clone_api_Expo_d y5) fun y10 ↦ obind (F_slices_Clone_int64_d y6) fun y11 ↦ obind (F_book_ledger_cellOf (SState.mk x0.accounts x0.symbols y3 y4 y5 y6 x0.kill x0.last x0.seq x0.lsn) y7.fst.account y7.fst.symbol) fun y12 ↦ cnd (band (ile 0 y12) (ilt y12 (len y4))) (obind (F_cell_Come (lget y4 (itn y12)) y7.fst) fun y13 ↦ cnd (bnot (ieq y13.snd 0)) (some (x0, 3)) (cnd (ile (len (lapp y3 [y7.fst])) 68719476736) (obind (F_book_ledger_bears (SState.mk x0.accounts x0.symbols (lapp y3 [y7.fst]) (lset y4 (itn y12) y13.fst) y5 y6 x0.kill y7.fst.id x0.seq x0.lsn) (SState.mk x0.accounts x0.symbols y8 y9 y10 y11 x0.kill x0.last x0.seq x0.lsn) y7.fst.account y7.fst.symbol) fun y14 ↦ cnd (bnot (ieq y14 0)) (some (x0, y14)) (some (SState.mk x0.accounts x0.symbols (lapp y3 [y7.fst]) (lset y4 (itn y12) y13.fst) y5 y6 x0.kill y7.fst.id x0.seq (wr IntKind.i64 (iadd x0.lsn 1)), 0))) none)) none)))) (cnd (ile x0.accounts x1.account) (cnd (ile x0.accounts x1.account) (some (x0, 1)) (cnd x0.kill (some (x0, 5)) (cnd (ieq (len y3) 64) (some (x0, 6)) (obind (F_slices_Clone_api_Order_d y3) fun y15 ↦ obind (F_slices_Clone_api_Cell_d y4) fun y16 ↦ obind (F_slices_Clone_api_Expo_d y5) fun y17 ↦ obind (F_slices_Clone_int64_d y6) fun y18 ↦ obind (F_book_ledger_cellOf (SState.mk x0.accounts x0.symbols y3 y4 y5 y6 x0.kill x0.last x0.seq x0.lsn) y7.fst.account y7.fst.symbol) fun y19 ↦ cnd (band (ile 0 y19) (ilt y19 (len y4))) (obind (F_cell_Come (lget y4 (itn y19)) y7.fst) fun y20 ↦ cnd (bnot (ieq y20.snd 0)) (some (x0, 3)) (cnd (ile (len (lapp y3 [y7.fst])) 68719476736) (obind (F_book_ledger_bears (SState.mk x0.accounts x0.symbols (lapp y3 [y7.fst]) (lset y4 (itn y19) y20.fst) y5 y6 x0.kill y7.fst.id x0.seq x0.lsn) (SState.mk x0.accounts x0.symbols y15 y16 y17 y18 x0.kill x0.last x0.seq x0.lsn) y7.fst.account y7.fst.symbol) fun y21 ↦ cnd (bnot (ieq y21 0)) (some (x0, y21)) (some (SState.mk x0.accounts x0.symbols (lapp y3 [y7.fst]) (lset y4 (itn y19) y20.fst) y5 y6 x0.kill y7.fst.id x0.seq (wr IntKind.i64 (iadd x0.lsn 1)), 0))) none)) none)))) (cnd (ile x0.symbols x1.symbol) (some (x0, 1)) (cnd x0.kill (some (x0, 5)) (cnd (ieq (len y3) 64) (some (x0, 6)) (obind (F_slices_Clone_api_Order_d y3) fun y22 ↦ obind (F_slices_Clone_api_Cell_d y4) fun y23 ↦ obind (F_slices_Clone_api_Expo_d y5) fun y24 ↦ obind (F_slices_Clone_int64_d y6) fun y25 ↦ obind (F_book_ledger_cellOf (SState.mk x0.accounts x0.symbols y3 y4 y5 y6 x0.kill x0.last x0.seq x0.lsn) y7.fst.account y7.fst.symbol) fun y26 ↦ cnd (band (ile 0 y26) (ilt y26 (len y4))) (obind (F_cell_Come (lget y4 (itn y26)) y7.fst) fun y27 ↦ cnd (bnot (ieq y27.snd 0)) (some (x0, 3)) (cnd (ile (len (lapp y3 [y7.fst])) 68719476736) (obind (F_book_ledger_bears (SState.mk x0.accounts x0.symbols (lapp y3 [y7.fst]) (lset y4 (itn y26) y27.fst) y5 y6 x0.kill y7.fst.id x0.seq x0.lsn) (SState.mk x0.accounts x0.symbols y22 y23 y24 y25 x0.kill x0.last x0.seq x0.lsn) y7.fst.account y7.fst.symbol) fun y28 ↦ cnd (bnot (ieq y28 0)) (some (x0, y28)) (some (SState.mk x0.accounts x0.symbols (lapp y3 [y7.fst]) (lset y4 (itn y26) y27.fst) y5 y6 x0.kill y7.fst.id x0.seq (wr IntKind.i64 (iadd x0.lsn 1)), 0))) none)) none)))))) (cnd (ieq x1.kind 2) (obind (F_book_Find (SState.mk x0.accounts x0.symbols y3 y4 y5 y6 x0.kill x0.last x0.seq x0.lsn) x1.order) fun y29 ↦ cnd (ieq y29 (-1)) (some (x0, 7)) (cnd (band (ile 0 y29) (ilt y29 (len y3))) (obind (F_order_Change (lget y3 (itn y29)) x1.qty x1.price) fun y30 ↦ cnd (bnot (ieq y30.snd 0)) (some (x0, 8)) (cnd x0.kill (some (x0, 5)) (obind (F_slices_Clone_api_Order_d y3) fun y31 ↦ obind (F_slices_Clone_api_Cell_d y4) fun y32 ↦ obind (F_slices_Clone_api_Expo_d y5) fun y33 ↦ obind (F_slices_Clone_int64_d y6) fun y34 ↦ obind (F_book_ledger_cellOf (SState.mk x0.accounts x0.symbols y3 y4 y5 y6 x0.kill x0.last x0.seq x0.lsn) (lget y3 (itn y29)).account (lget y3 (itn y29)).symbol) fun y35 ↦ cnd (band (ile 0 y35) (ilt y35 (len y4))) (obind (F_cell_Go (lget y4 (itn y35)) (lget y3 (itn y29))) fun y36 ↦ obind (F_cell_Come y36.fst y30.fst) fun y37 ↦ cnd (bnot (ieq y37.snd 0)) (some (x0, 3)) (cnd (band (ile 0 y29) (ilt y29 (len y3))) (obind (F_book_ledger_bears (SState.mk x0.accounts x0.symbols (lset y3 (itn y29) y30.fst) (lset y4 (itn y35) y37.fst) y5 y6 x0.kill x0.last x0.seq x0.lsn) (SState.mk x0.accounts x0.symbols y31 y32 y33 y34 x0.kill x0.last x0.seq x0.lsn) (lget y3 (itn y29)).account (lget y3 (itn y29)).symbol) fun y38 ↦ cnd (bnot (ieq y38 0)) (some (x0, y38)) (some (SState.mk x0.accounts x0.symbols (lset y3 (itn y29) y30.fst) (lset y4 (itn y35) y37.fst) y5 y6 x0.kill x0.last x0.seq (wr IntKind.i64 (iadd x0.lsn 1)), 0))) none)) none))) none)) (cnd (ieq x1.kind 3) (obind (F_book_Find (SState.mk x0.accounts x0.symbols y3 y4 y5 y6 x0.kill x0.last x0.seq x0.lsn) x1.order) fun y39 ↦ cnd (ieq y39 (-1)) (some (x0, 7)) (cnd (band (ile 0 y39) (ilt y39 (len y3))) (obind (F_order_End (lget y3 (itn y39))) fun y40 ↦ cnd (band (ile 0 y39) (ilt y39 (len y3))) (cnd (bnot (ieq y40.snd 0)) (some (x0, y40.snd)) (some (SState.mk x0.accounts x0.symbols (lset y3 (itn y39) y40.fst) y4 y5 y6 x0.kill x0.last x0.seq (wr IntKind.i64 (iadd x0.lsn 1)), 0))) none) none)) (cnd (ieq x1.kind 4) (cnd (ile x0.accounts x1.account) (cnd (ile x0.accounts x1.account) (some (x0, 1)) (cnd (ieq x1.symbol (-1)) (cnd (band (ile 0 x1.account) (ilt x1.account (len y6))) (some (SState.mk x0.accounts x0.symbols y3 y4 y5 (lset y6 (itn x1.account) x1.opn) x0.kill x0.last x0.seq (wr IntKind.i64 (iadd x0.lsn 1)), 0)) none) (obind (F_book_ledger_cellOf (SState.mk x0.accounts x0.symbols y3 y4 y5 y6 x0.kill x0.last x0.seq x0.lsn) x1.account x1.symbol) fun y41 ↦ cnd (band (ile 0 y41) (ilt y41 (len y5))) (some (SState.mk x0.accounts x0.symbols y3 y4 (lset y5 (itn y41) (SExpo.mk x1.long x1.short x1.opn)) y6 x0.kill x0.last x0.seq (wr IntKind.i64 (iadd x0.lsn 1)), 0)) none))) (cnd (ile x0.symbols x1.symbol) (some (x0, 1)) (cnd (ieq x1.symbol (-1)) (cnd (band (ile 0 x1.account) (ilt x1.account (len y6))) (some (SState.mk x0.accounts x0.symbols y3 y4 y5 (lset y6 (itn x1.account) x1.opn) x0.kill x0.last x0.seq (wr IntKind.i64 (iadd x0.lsn 1)), 0)) none) (obind (F_book_ledger_cellOf (SState.mk x0.accounts x0.symbols y3 y4 y5 y6 x0.kill x0.last x0.seq x0.lsn) x1.account x1.symbol) fun y42 ↦ cnd (band (ile 0 y42) (ilt y42 (len y5))) (some (SState.mk x0.accounts x0.symbols y3 y4 (lset y5 (itn y42) (SExpo.mk x1.long x1.short x1.opn)) y6 x0.kill x0.last x0.seq (wr IntKind.i64 (iadd x0.lsn 1)), 0)) none)))) (cnd (ieq x1.kind 5) (some (SState.mk x0.accounts x0.symbols y3 y4 y5 y6 x1.on x0.last x0.seq (wr IntKind.i64 (iadd x0.lsn 1)), 0)) (cnd (bnot (ieq x1.seq (wr IntKind.i64 (iadd x0.seq 1)))) (some (x0, 11)) (obind (F_book_Find (SState.mk x0.accounts x0.symbols y3 y4 y5 y6 x0.kill x0.last x1.seq x0.lsn) x1.order) fun y43 ↦ cnd (ieq y43 (-1)) (some (SState.mk x0.accounts x0.symbols y3 y4 y5 y6 x0.kill x0.last x1.seq (wr IntKind.i64 (iadd x0.lsn 1)), 0)) (cnd (band (ile 0 y43) (ilt y43 (len y3))) (obind (F_order_Take (lget y3 (itn y43)) (SNote.mk x1.seq x1.what x1.order x1.qty x1.price)) fun y44 ↦ cnd (bnot (ieq y44.snd 0)) (some (SState.mk x0.accounts x0.symbols y3 y4 y5 y6 x0.kill x0.last x1.seq (wr IntKind.i64 (iadd x0.lsn 1)), 0)) (obind (F_book_ledger_cellOf (SState.mk x0.accounts x0.symbols y3 y4 y5 y6 x0.kill x0.last x1.seq x0.lsn) (lget y3 (itn y43)).account (lget y3 (itn y43)).symbol) fun y45 ↦ cnd (band (ile 0 y45) (ilt y45 (len y4))) (obind (F_cell_Go (lget y4 (itn y45)) (lget y3 (itn y43))) fun y46 ↦ obind (F_cell_Come (lget (lset y4 (itn y45) y46.fst) (itn y45)) y44.fst) fun y47 ↦ cnd (ieq x1.what 3) (obind (F_cell_Did (lget (lset (lset y4 (itn y45) y46.fst) (itn y45) y47.fst) (itn y45)) (lget y3 (itn y43)).side x1.qty) fun y48 ↦ cnd (band (ile 0 y43) (ilt y43 (len y3))) (cnd (ieq y44.fst.phase 3) (obind (F_slices_Delete_api_Order (lset y3 (itn y43) y44.fst) y43 (wr IntKind.i64 (iadd y43 1))) fun y49 ↦ some (SState.mk x0.accounts x0.symbols y49 (lset (lset (lset y4 (itn y45) y46.fst) (itn y45) y47.fst) (itn y45) y48.fst) y5 y6 x0.kill x0.last x1.seq (wr IntKind.i64 (iadd x0.lsn 1)), 0)) (some (SState.mk x0.accounts x0.symbols (lset y3 (itn y43) y44.fst) (lset (lset (lset y4 (itn y45) y46.fst) (itn y45) y47.fst) (itn y45) y48.fst) y5 y6 x0.kill x0.last x1.seq (wr IntKind.i64 (iadd x0.lsn 1)), 0))) none) (cnd (band (ile 0 y43) (ilt y43 (len y3))) (cnd (ieq y44.fst.phase 3) (obind (F_slices_Delete_api_Order (lset y3 (itn y43) y44.fst) y43 (wr IntKind.i64 (iadd y43 1))) fun y50 ↦ some (SState.mk x0.accounts x0.symbols y50 (lset (lset y4 (itn y45) y46.fst) (itn y45) y47.fst) y5 y6 x0.kill x0.last x1.seq (wr IntKind.i64 (iadd x0.lsn 1)), 0)) (some (SState.mk x0.accounts x0.symbols (lset y3 (itn y43) y44.fst) (lset (lset y4 (itn y45) y46.fst) (itn y45) y47.fst) y5 y6 x0.kill x0.last x1.seq (wr IntKind.i64 (iadd x0.lsn 1)), 0))) none)) none)) none))))))))
theorem F_book_Do_d_eq : F_book_Do = F_book_Do_d := by
  funext a0 a1
  unfold F_book_Do F_book_Do_d
  simp only [F_slices_Clone_api_Order_d_eq, F_slices_Clone_api_Cell_d_eq, F_slices_Clone_api_Expo_d_eq, F_slices_Clone_int64_d_eq]
def F_slices_Clone_api_Msg_d (x0 : (List SMsg)) : Option ((List SMsg)) := nilD (len x0) fun y0 ↦ cnd (beq y0 true) (some []) (cnd (ile (len x0) 68719476736) (some x0) none)
theorem F_slices_Clone_api_Msg_d_eq : F_slices_Clone_api_Msg = F_slices_Clone_api_Msg_d := by
  funext a0
  unfold F_slices_Clone_api_Msg F_slices_Clone_api_Msg_d
  simp only [nilq_eq]
def F_outbox_Ready_d (x0 : (List SMsg)) (x1 : Int) : Option ((List SMsg) × (List SMsg)) := obind (iterN (fun v ↦ L_outbox_Ready_26_slices_IndexFunc_api_Msg_25769840653 (len x0) x0 x1 v.fst v.snd) LF (0, 0)) fun y0 ↦ sumK y0 (fun y1 ↦ cnd (ilt y1 0) (cnd (band (ile 0 (len x0)) (ile (len x0) (len x0))) (obind (F_slices_Clone_api_Msg_d (ltake x0 (itn (len x0)))) fun y2 ↦ cnd (band (ile 0 (len x0)) (ile (len x0) (len x0))) (obind (F_slices_Clone_api_Msg_d (ldrop x0 (itn (len x0)))) fun y3 ↦ some (y2, y3)) none) none) (cnd (band (ile 0 y1) (ile y1 (len x0))) (obind (F_slices_Clone_api_Msg_d (ltake x0 (itn y1))) fun y4 ↦ cnd (band (ile 0 y1) (ile y1 (len x0))) (obind (F_slices_Clone_api_Msg_d (ldrop x0 (itn y1))) fun y5 ↦ some (y4, y5)) none) none)) fun y1 ↦ cnd (band (ile 0 (len x0)) (ile (len x0) (len x0))) (obind (F_slices_Clone_api_Msg_d (ltake x0 (itn (len x0)))) fun y6 ↦ cnd (band (ile 0 (len x0)) (ile (len x0) (len x0))) (obind (F_slices_Clone_api_Msg_d (ldrop x0 (itn (len x0)))) fun y7 ↦ some (y6, y7)) none) none
theorem F_outbox_Ready_d_eq : F_outbox_Ready = F_outbox_Ready_d := by
  funext a0 a1
  unfold F_outbox_Ready F_outbox_Ready_d
  simp only [F_slices_Clone_api_Msg_d_eq]
def F_snafflelaw18_awake_d : Option (Bool) := obind (F_outbox_Of 2 (SOrder.mk 3 0 0 2 8 2 0 2 9 1 1 true) 7) fun y0 ↦ obind (F_book_New 1 1 (SExpo.mk 9 9 99) 99) fun y1 ↦ obind (F_book_Do_d y1.fst (SRec.mk 1 5 0 0 2 3 2 0 0 0 false 0 0)) fun y2 ↦ obind (F_book_Do_d y2.fst (SRec.mk 3 5 0 0 0 0 0 0 0 0 false 0 0)) fun y3 ↦ obind (F_outbox_Again y3.fst) fun y4 ↦ obind (F_outbox_Ready_d [SMsg.mk 0 0 0 0 0 0 0 0 4, SMsg.mk 0 0 0 0 0 0 0 0 6] 5) fun y5 ↦ cnd (bor (ilt 0 (len y4)) (bnot (band (band (band (band (band (ieq y0.kind 2) (band (ieq y0.order 3) (band (ieq y0.account 0) (band (ieq y0.symbol 0) (band (ieq y0.side 2) (band (ieq y0.qty 9) (band (ieq y0.price 1) (band (ieq y0.version 1) (ieq y0.lsn 7))))))))) (ieq y1.snd 0)) (ieq y2.snd 0)) (ieq y3.snd 0)) (ieq (len y4) 2)))) (cnd (bor (ilt 1 (len y4)) (bnot (band (band (band (band (band (band (ieq y0.kind 2) (band (ieq y0.order 3) (band (ieq y0.account 0) (band (ieq y0.symbol 0) (band (ieq y0.side 2) (band (ieq y0.qty 9) (band (ieq y0.price 1) (band (ieq y0.version 1) (ieq y0.lsn 7))))))))) (ieq y1.snd 0)) (ieq y2.snd 0)) (ieq y3.snd 0)) (ieq (len y4) 2)) (ieq (lget y4 0).kind 1)))) (cnd (band (band (band (band (band (band (band (band (band (ieq y0.kind 2) (band (ieq y0.order 3) (band (ieq y0.account 0) (band (ieq y0.symbol 0) (band (ieq y0.side 2) (band (ieq y0.qty 9) (band (ieq y0.price 1) (band (ieq y0.version 1) (ieq y0.lsn 7))))))))) (ieq y1.snd 0)) (ieq y2.snd 0)) (ieq y3.snd 0)) (ieq (len y4) 2)) (ieq (lget y4 0).kind 1)) (ieq (lget y4 1).kind 3)) (ieq (len y5.fst) 1)) (ieq (len y5.snd) 1)) (obind (cnd (band (band (band (band (band (band (band (band (band (ieq y0.kind 2) (band (ieq y0.order 3) (band (ieq y0.account 0) (band (ieq y0.symbol 0) (band (ieq y0.side 2) (band (ieq y0.qty 9) (band (ieq y0.price 1) (band (ieq y0.version 1) (ieq y0.lsn 7))))))))) (ieq y1.snd 0)) (ieq y2.snd 0)) (ieq y3.snd 0)) (ieq (len y4) 2)) (ieq (lget y4 0).kind 1)) (ieq (lget y4 1).kind 3)) (ieq (len y5.fst) 1)) (ieq (len y5.snd) 1)) (F_outbox_Right [y0] 6 7) (some false)) fun y6 ↦ cnd (band (band (band (band (band (band (band (band (band (band (ieq y0.kind 2) (band (ieq y0.order 3) (band (ieq y0.account 0) (band (ieq y0.symbol 0) (band (ieq y0.side 2) (band (ieq y0.qty 9) (band (ieq y0.price 1) (band (ieq y0.version 1) (ieq y0.lsn 7))))))))) (ieq y1.snd 0)) (ieq y2.snd 0)) (ieq y3.snd 0)) (ieq (len y4) 2)) (ieq (lget y4 0).kind 1)) (ieq (lget y4 1).kind 3)) (ieq (len y5.fst) 1)) (ieq (len y5.snd) 1)) y6) (obind (cnd (band (band (band (band (band (band (band (band (band (band (ieq y0.kind 2) (band (ieq y0.order 3) (band (ieq y0.account 0) (band (ieq y0.symbol 0) (band (ieq y0.side 2) (band (ieq y0.qty 9) (band (ieq y0.price 1) (band (ieq y0.version 1) (ieq y0.lsn 7))))))))) (ieq y1.snd 0)) (ieq y2.snd 0)) (ieq y3.snd 0)) (ieq (len y4) 2)) (ieq (lget y4 0).kind 1)) (ieq (lget y4 1).kind 3)) (ieq (len y5.fst) 1)) (ieq (len y5.snd) 1)) y6) (F_outbox_Right [y0] 7 9) (some false)) fun y7 ↦ some (band (band (band (band (band (band (band (band (band (band (band (ieq y0.kind 2) (band (ieq y0.order 3) (band (ieq y0.account 0) (band (ieq y0.symbol 0) (band (ieq y0.side 2) (band (ieq y0.qty 9) (band (ieq y0.price 1) (band (ieq y0.version 1) (ieq y0.lsn 7))))))))) (ieq y1.snd 0)) (ieq y2.snd 0)) (ieq y3.snd 0)) (ieq (len y4) 2)) (ieq (lget y4 0).kind 1)) (ieq (lget y4 1).kind 3)) (ieq (len y5.fst) 1)) (ieq (len y5.snd) 1)) y6) (bnot y7))) (cnd (band (band (band (band (band (band (band (band (band (band (ieq y0.kind 2) (band (ieq y0.order 3) (band (ieq y0.account 0) (band (ieq y0.symbol 0) (band (ieq y0.side 2) (band (ieq y0.qty 9) (band (ieq y0.price 1) (band (ieq y0.version 1) (ieq y0.lsn 7))))))))) (ieq y1.snd 0)) (ieq y2.snd 0)) (ieq y3.snd 0)) (ieq (len y4) 2)) (ieq (lget y4 0).kind 1)) (ieq (lget y4 1).kind 3)) (ieq (len y5.fst) 1)) (ieq (len y5.snd) 1)) y6) none (cnd (band (band (band (band (band (band (band (band (band (band (ieq y0.kind 2) (band (ieq y0.order 3) (band (ieq y0.account 0) (band (ieq y0.symbol 0) (band (ieq y0.side 2) (band (ieq y0.qty 9) (band (ieq y0.price 1) (band (ieq y0.version 1) (ieq y0.lsn 7))))))))) (ieq y1.snd 0)) (ieq y2.snd 0)) (ieq y3.snd 0)) (ieq (len y4) 2)) (ieq (lget y4 0).kind 1)) (ieq (lget y4 1).kind 3)) (ieq (len y5.fst) 1)) (ieq (len y5.snd) 1)) y6) none (cnd (band (band (band (band (band (band (band (band (band (band (ieq y0.kind 2) (band (ieq y0.order 3) (band (ieq y0.account 0) (band (ieq y0.symbol 0) (band (ieq y0.side 2) (band (ieq y0.qty 9) (band (ieq y0.price 1) (band (ieq y0.version 1) (ieq y0.lsn 7))))))))) (ieq y1.snd 0)) (ieq y2.snd 0)) (ieq y3.snd 0)) (ieq (len y4) 2)) (ieq (lget y4 0).kind 1)) (ieq (lget y4 1).kind 3)) (ieq (len y5.fst) 1)) (ieq (len y5.snd) 1)) y6) none (some false))))) (cnd (band (band (band (band (band (band (band (band (band (ieq y0.kind 2) (band (ieq y0.order 3) (band (ieq y0.account 0) (band (ieq y0.symbol 0) (band (ieq y0.side 2) (band (ieq y0.qty 9) (band (ieq y0.price 1) (band (ieq y0.version 1) (ieq y0.lsn 7))))))))) (ieq y1.snd 0)) (ieq y2.snd 0)) (ieq y3.snd 0)) (ieq (len y4) 2)) (ieq (lget y4 0).kind 1)) (ieq (lget y4 1).kind 3)) (ieq (len y5.fst) 1)) (ieq (len y5.snd) 1)) none (cnd (band (band (band (band (band (band (band (band (band (ieq y0.kind 2) (band (ieq y0.order 3) (band (ieq y0.account 0) (band (ieq y0.symbol 0) (band (ieq y0.side 2) (band (ieq y0.qty 9) (band (ieq y0.price 1) (band (ieq y0.version 1) (ieq y0.lsn 7))))))))) (ieq y1.snd 0)) (ieq y2.snd 0)) (ieq y3.snd 0)) (ieq (len y4) 2)) (ieq (lget y4 0).kind 1)) (ieq (lget y4 1).kind 3)) (ieq (len y5.fst) 1)) (ieq (len y5.snd) 1)) none (some false)))) none) none
theorem F_snafflelaw18_awake_d_eq : F_snafflelaw18_awake = F_snafflelaw18_awake_d := by
  unfold F_snafflelaw18_awake F_snafflelaw18_awake_d
  simp only [F_book_Do_d_eq, F_outbox_Ready_d_eq]
theorem awake_t : F_snafflelaw18_awake = some true := by
  rw [F_snafflelaw18_awake_d_eq]
  kernel_rfl
theorem pure_OutSplits (x0 : List SMsg) (x1 x2 : Int) (x3 : List Int) : F_snafflelaw18_OutSplits x0 x1 x2 x3 = some true :=
  pure_of awake_t x0 x1 x2 x3
end
end Go.Av

