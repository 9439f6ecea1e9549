/- The plain law, part 1. No condition. -/
import Derived.Test.YtmchehbgpphogaaGreatPFoldRight0
import Derived.KernelRfl
set_option linter.unusedVariables false
set_option linter.unusedSimpArgs false
set_option linter.unnecessarySimpa false
namespace Go.Av
open Go
set_option linter.unusedVariables false
set_option linter.unusedSimpArgs false
theorem r_cell_Covers (a b : SExpo) : F_snaffleref08_Covers a b = some (decide (covX a b)) := by
  refine Wq.dec ?_
  unfold F_snaffleref08_Covers covX
  simp only [w_some, band_T, band_F, bor_T, bor_F, bnot_T, bnot_F, ilt_T, ilt_F, ile_T, ile_F, ieq_T, ieq_F, beq_T, beq_F]
  grind
theorem r_fold {s : SState} {l : List SRec} (hs : Ok_state s) (hl : okL ok_recd l) (hsh : shortP s) (hn : l.length < 999999) : F_snaffleref11_Fold s l = some ((foldS s l).1, ((foldS s l).2.1 : Int), (foldS s l).2.2) := by
  refine Wq.eq ?_
  unfold F_snaffleref11_Fold
  refine Wq.bind (Q := fun w : (Int × Int × SState × SState) ⊕ (Int × Int × SState × SState) => match w with
      | .inl (e, i, a, _) => a = (foldS s l).1 ∧ i = ((foldS s l).2.1 : Int) ∧ e = (foldS s l).2.2
      | .inr (_, _, _, a) => a = (foldS s l).1 ∧ l.length = (foldS s l).2.1 ∧ 0 = (foldS s l).2.2)
    (w_for (n := l.length) (step := fun v : Int × Int × Int × SState × SState => L_snaffleref11_Fold_26 l v.fst v.snd.fst v.snd.snd.fst v.snd.snd.snd.fst v.snd.snd.snd.snd) hn
      (fun i x => foldS s l = ((foldS x.2.2.2 (l.drop i)).1, (foldS x.2.2.2 (l.drop i)).2.1 + i, (foldS x.2.2.2 (l.drop i)).2.2) ∧ Ok_state x.2.2.2 ∧ shortP x.2.2.2) _ ?_ ?_ _ 0 (Nat.zero_le _) ⟨by simp, hs, hsh⟩) ?_
  · rintro i ⟨a, b, c, d⟩ hi ⟨g1, g2, g3⟩
    simp only at g1 g2 g3
    have hr : Ok_recd l[i] := hl.1 _ (List.getElem_mem hi)
    simp only [L_snaffleref11_Fold_26]
    rw [cnd_t (by rw [ilt_nat]; simpa using hi), cnd_t (inb l i hi), lget_nat l i hi, r_Do g2 hr g3, ob_some]
    rw [List.drop_eq_getElem_cons hi, foldS] at g1
    by_cases e : (doS d l[i]).2 = 0
    · rw [if_pos e] at g1
      rw [cnd_f (by rw [bnot_F, ieq_T]; exact e), w_some]
      refine ⟨wr_succ (by omega), ?_, (doS_q d l[i]).rng g2 hr, doS_short g3 _⟩
      rw [g1]
      refine Prod.ext rfl (Prod.ext ?_ rfl)
      simp only; omega
    · rw [if_neg e] at g1
      rw [cnd_t (by rw [bnot_T, ieq_F]; exact e), w_some, g1]
      exact ⟨rfl, by simp, rfl⟩
  · rintro ⟨a, b, c, d⟩ ⟨g1, _, _⟩
    simp only at g1
    simp only [L_snaffleref11_Fold_26]
    rw [cnd_f (by rw [ilt_nat]; simp), w_some, g1]
    simp [foldS]
  · rintro w hw
    cases w with
    | inl w => obtain ⟨h1, h2, h3⟩ := hw; simp only [sumK, w_some]; rw [← h1, ← h2, ← h3]
    | inr w => obtain ⟨h1, h2, h3⟩ := hw; simp only [sumK, w_some]; rw [← h1, ← h2, ← h3]; rfl
theorem cells_pos {s : SState} (h : RightS s) : 0 < s.cells.length := by
  have h1 : (s.cells.length : Int) = s.accounts * s.symbols := h.sized.2.2.1
  have h2 : 1 * 1 ≤ s.accounts * s.symbols := Int.mul_le_mul h.sized.1.1 h.sized.2.1.1 (by omega) (by have := h.sized.1.1; omega)
  omega
theorem r_Expos {s : SState} (hr : Ok_state s) (hsh : shortP s) : Wq (F_snaffleref11_Expos s) fun l => (RightS s → l = s.cells.map ofC) ∧ (¬ RightS s → l = []) := by
  unfold F_snaffleref11_Expos
  refine Wq.bind (Q := fun l : List SExpo => (RightS s → l = s.cells.map ofC) ∧ (¬ RightS s → l = []))
    (w_for (n := s.cells.length) (step := fun v : Int × List SExpo => L_snaffleref11_Expos_58 s v.fst v.snd) hsh.2.1 (fun i x => (RightS s → x = (s.cells.take i).map ofC) ∧ (¬ RightS s → x = [])) _ ?_ ?_ _ 0 (Nat.zero_le _) ⟨fun _ => rfl, fun _ => rfl⟩) fun w hw => (w_some _).2 hw
  · rintro i x hi ⟨g1, g2⟩
    simp only [L_snaffleref11_Expos_58]
    rw [cnd_t (show ilt (i : Int) (len s.cells) = true by rw [ilt_nat]; simpa using hi)]
    refine (r_Right hr hsh).bind fun b hb => ?_
    rw [show ilt (i : Int) (len s.cells) = true by rw [ilt_nat]; simpa using hi]
    rw [w_cnd]
    refine ⟨fun h => ?_, fun h => (w_some _).2 ?_⟩
    · have hR := hb.1 (by simpa [band] using h)
      have := g1 hR; subst this
      rw [cnd_t (show band (ile 0 (i : Int)) true = true by simp [band, ile]), lget_nat _ i hi, r_cell_Of (hR.ok _ (List.getElem_mem hi)), ob_some, cnd_t (ile_t (by have := hR.sized.lens.1; simp only [lapp, len, List.length_append, List.length_map, List.length_take, List.length_cons, List.length_nil]; omega)), w_some]
      exact ⟨wr_succ (by have := hR.sized.lens.1; omega), fun _ => by rw [List.take_succ_eq_append_getElem hi, List.map_append]; rfl, fun h => absurd hR h⟩
    · have hn : ¬ RightS s := fun hR => by rw [hb.2 hR] at h; cases h
      exact ⟨fun h => absurd h hn, fun _ => g2 hn⟩
  · rintro x ⟨g1, g2⟩
    simp only [L_snaffleref11_Expos_58]
    have hf : ilt ((s.cells.length : Nat) : Int) (len s.cells) = false := by rw [ilt_nat]; simp
    rw [cnd_f hf, ob_some, cnd_f (by rw [hf]; rfl), w_some]
    rw [List.take_length] at g1
    exact ⟨g1, g2⟩
theorem r_Covers {a b : SState} (ha : Ok_state a) (hb : Ok_state b) (ha2 : shortP a) (hb2 : shortP b) : Wq (F_snaffleref11_Covers a b) fun r => r = true ↔ CovS a b := by
  unfold F_snaffleref11_Covers
  refine (r_Right ha ha2).bind fun y0 h0 => ?_
  refine Wq.bind (Q := fun y => y = true ↔ (RightS a ∧ RightS b)) ?_ fun y1 h1 => ?_
  · rw [w_cnd]
    refine ⟨fun h => ?_, fun h => (w_some _).2 ?_⟩
    · simp only [band_T, band_F, bor_T, bor_F, bnot_T, bnot_F, ilt_T, ilt_F, ile_T, ile_F, ieq_T, ieq_F, beq_T, beq_F] at h
      exact (r_Right hb hb2).mono fun y hy => by rw [hy]; simp [h0.1 h]
    · simp only [band_T, band_F, bor_T, bor_F, bnot_T, bnot_F, ilt_T, ilt_F, ile_T, ile_F, ieq_T, ieq_F, beq_T, beq_F] at h
      refine ⟨fun h => (by cases h), fun h' => ?_⟩
      rw [h0.2 h'.1] at h; cases h
  rw [w_cnd]
  refine ⟨fun h => (w_some _).2 ⟨fun h => (by cases h), fun hc => ?_⟩, fun h => ?_⟩
  · have e1 := hc.sym; have e2 := hc.len
    have g1 := hc.ra.sized.2.2.1
    have g2 := hc.rb.sized.2.2.1
    have e3 : a.accounts = b.accounts := by
      rw [← e1] at g2
      have : a.accounts * a.symbols = b.accounts * a.symbols := by rw [← g1, ← g2]; simp only [len, e2]
      exact Int.eq_of_mul_eq_mul_right (by have := hc.ra.sized.2.1.1; omega) this
    rw [h0.2 hc.ra, h1.2 ⟨hc.ra, hc.rb⟩, e1, e3] at h
    simp [bor, ieq, bnot] at h
  · simp only [band_T, band_F, bor_T, bor_F, bnot_T, bnot_F, ilt_T, ilt_F, ile_T, ile_F, ieq_T, ieq_F, beq_T, beq_F] at h
    obtain ⟨⟨⟨h2, h3⟩, h4⟩, h5⟩ := h
    obtain ⟨hA, hB⟩ := h1.1 h3
    have g1 := hA.sized.2.2.1
    have g2 := hB.sized.2.2.1
    have hlen : a.cells.length = b.cells.length := by
      rw [h4, h5, ← g2] at g1; simp only [len] at g1; omega
    refine Wq.bind (Q := fun w : Bool ⊕ Bool => match w with | .inl r => r = false ∧ ¬ CovS a b | .inr _ => CovS a b)
      (w_for (n := a.cells.length) (step := fun v : Int × Bool => L_snaffleref11_Covers_58 b a v.fst v.snd) ha2.2.1
        (fun i _ => ∀ (j : Nat) (h : j < a.cells.length) (h2 : j < b.cells.length), j < i → covX (ofC a.cells[j]) (ofC b.cells[j])) _ ?_ ?_ _ 0 (Nat.zero_le _) (fun j _ _ h => by omega)) ?_
    · rintro i q hi hj
      have hi2 : i < b.cells.length := by omega
      simp only [L_snaffleref11_Covers_58]
      rw [cnd_t (by rw [ilt_nat]; simpa using hi), cnd_t (inb _ i hi), lget_nat _ i hi, r_cell_Of (hA.ok _ (List.getElem_mem hi)), ob_some, cnd_t (inb _ i hi2), lget_nat _ i hi2, r_cell_Of (hB.ok _ (List.getElem_mem hi2)), ob_some, r_cell_Covers, ob_some, w_cnd, w_some, w_some]
      simp only [band_T, band_F, bor_T, bor_F, bnot_T, bnot_F, ilt_T, ilt_F, ile_T, ile_F, ieq_T, ieq_F, beq_T, beq_F, decide_eq_true_eq, decide_eq_false_iff_not]
      refine ⟨fun h => ⟨trivial, fun hc => h (hc.cov i hi (by omega))⟩, fun h => ⟨wr_succ (by have := ha2.2.1; omega), fun j h1 h2 h3 => ?_⟩⟩
      by_cases e : j = i
      · subst e; exact h
      · exact hj j h1 h2 (by omega)
    · rintro q hj
      simp only [L_snaffleref11_Covers_58]
      rw [cnd_f (by rw [ilt_nat]; simp), w_some]
      exact ⟨hA, hB, h5, hlen, fun i h1 h2 => hj i h1 h2 h1⟩
    · rintro w hw
      cases w with
      | inl r => obtain ⟨rfl, h⟩ := hw; simp only [sumK, w_some]; exact ⟨fun h => (by cases h), fun h2 => absurd h2 h⟩
      | inr r => simp only [sumK, w_some]; exact ⟨fun _ => hw, fun _ => trivial⟩
end Go.Av

namespace Go.Av
open Go
set_option linter.unusedVariables false
set_option linter.unusedSimpArgs false
def nilD {τ : Type} [DecidableEq τ] (n : Int) (f : Bool → Option τ) : Option τ := if n = 0 then (if f true = f false then f true else none) else f false
theorem nilq_eq {τ : Type} [DecidableEq τ] (n : Int) (f : Bool → Option τ) : nilq n f = nilD n f := by
  unfold nilq nilD
  by_cases h : n = 0
  · rw [if_pos h, if_pos h]
    by_cases h2 : f true = f false
    · rw [if_pos h2, if_pos h2]
    · rw [if_neg h2, if_neg h2]
  · rw [if_neg h, if_neg h]
def F_slices_Clone_api_Order_d (x0 : (List SOrder)) : Option ((List SOrder)) := nilD (len x0) fun y0 ↦ cnd (beq y0 true) (some []) (cnd (ile (len x0) 68719476736) (some x0) none)
theorem F_slices_Clone_api_Order_d_eq : F_slices_Clone_api_Order = F_slices_Clone_api_Order_d := by
  funext a0
  unfold F_slices_Clone_api_Order F_slices_Clone_api_Order_d
  simp only [nilq_eq]
def F_slices_Clone_api_Cell_d (x0 : (List SCell)) : Option ((List SCell)) := nilD (len x0) fun y0 ↦ cnd (beq y0 true) (some []) (cnd (ile (len x0) 68719476736) (some x0) none)
theorem F_slices_Clone_api_Cell_d_eq : F_slices_Clone_api_Cell = F_slices_Clone_api_Cell_d := by
  funext a0
  unfold F_slices_Clone_api_Cell F_slices_Clone_api_Cell_d
  simp only [nilq_eq]
def F_slices_Clone_api_Expo_d (x0 : (List SExpo)) : Option ((List SExpo)) := nilD (len x0) fun y0 ↦ cnd (beq y0 true) (some []) (cnd (ile (len x0) 68719476736) (some x0) none)
theorem F_slices_Clone_api_Expo_d_eq : F_slices_Clone_api_Expo = F_slices_Clone_api_Expo_d := by
  funext a0
  unfold F_slices_Clone_api_Expo F_slices_Clone_api_Expo_d
  simp only [nilq_eq]
def F_slices_Clone_int64_d (x0 : (List Int)) : Option ((List Int)) := nilD (len x0) fun y0 ↦ cnd (beq y0 true) (some []) (cnd (ile (len x0) 68719476736) (some x0) none)
theorem F_slices_Clone_int64_d_eq : F_slices_Clone_int64 = F_slices_Clone_int64_d := by
  funext a0
  unfold F_slices_Clone_int64 F_slices_Clone_int64_d
  simp only [nilq_eq]
def F_book_Do_d (x0 : SState) (x1 : SRec) : Option (SState × Int) := obind (F_num_Add x0.lsn 1) fun y0 ↦ obind (cnd (bnot (bor (bnot (ieq y0.snd 0)) (ile 1000000000 x0.lsn))) (F_rec_Right x1) (some false)) fun y1 ↦ obind (cnd (bnot (bor (bor (bnot (ieq y0.snd 0)) (ile 1000000000 x0.lsn)) (bnot y1))) (F_book_Right x0) (some false)) fun y2 ↦ cnd (bor (bor (bor (bnot (ieq y0.snd 0)) (ile 1000000000 x0.lsn)) (bnot y1)) (bnot y2)) (some (x0, 1)) (obind (F_slices_Clone_api_Order_d x0.orders) fun y3 ↦ obind (F_slices_Clone_api_Cell_d x0.cells) fun y4 ↦ obind (F_slices_Clone_api_Expo_d x0.limits) fun y5 ↦ obind (F_slices_Clone_int64_d x0.caps) fun y6 ↦ cnd (ieq x1.kind 1) (obind (F_order_Begin x1) fun y7 ↦ cnd (ile x1.order x0.last) (cnd (ile x1.order x0.last) (some (x0, 1)) (cnd x0.kill (some (x0, 5)) (cnd (ieq (len y3) 64) (some (x0, 6)) (obind (F_slices_Clone_api_Order_d y3) fun y8 ↦ obind (F_slices_Clone_api_Cell_d y4) fun y9 ↦ obind (F_slices_Clone_api_Expo_d y5) fun y10 ↦ obind (F_slices_Clone_int64_d y6) fun y11 ↦ obind (F_book_ledger_cellOf (SState.mk x0.accounts x0.symbols y3 y4 y5 y6 x0.kill x0.last x0.seq x0.lsn) y7.fst.account y7.fst.symbol) fun y12 ↦ cnd (band (ile 0 y12) (ilt y12 (len y4))) (obind (F_cell_Come (lget y4 (itn y12)) y7.fst) fun y13 ↦ cnd (bnot (ieq y13.snd 0)) (some (x0, 3)) (cnd (ile (len (lapp y3 [y7.fst])) 68719476736) (obind (F_book_ledger_bears (SState.mk x0.accounts x0.symbols (lapp y3 [y7.fst]) (lset y4 (itn y12) y13.fst) y5 y6 x0.kill y7.fst.id x0.seq x0.lsn) (SState.mk x0.accounts x0.symbols y8 y9 y10 y11 x0.kill x0.last x0.seq x0.lsn) y7.fst.account y7.fst.symbol) fun y14 ↦ cnd (bnot (ieq y14 0)) (some (x0, y14)) (some (SState.mk x0.accounts x0.symbols (lapp y3 [y7.fst]) (lset y4 (itn y12) y13.fst) y5 y6 x0.kill y7.fst.id x0.seq (wr IntKind.i64 (iadd x0.lsn 1)), 0))) none)) none)))) (cnd (ile x0.accounts x1.account) (cnd (ile x0.accounts x1.account) (some (x0, 1)) (cnd x0.kill (some (x0, 5)) (cnd (ieq (len y3) 64) (some (x0, 6)) (obind (F_slices_Clone_api_Order_d y3) fun y15 ↦ obind (F_slices_Clone_api_Cell_d y4) fun y16 ↦ obind (F_slices_Clone_api_Expo_d y5) fun y17 ↦ obind (F_slices_Clone_int64_d y6) fun y18 ↦ obind (F_book_ledger_cellOf (SState.mk x0.accounts x0.symbols y3 y4 y5 y6 x0.kill x0.last x0.seq x0.lsn) y7.fst.account y7.fst.symbol) fun y19 ↦ cnd (band (ile 0 y19) (ilt y19 (len y4))) (obind (F_cell_Come (lget y4 (itn y19)) y7.fst) fun y20 ↦ cnd (bnot (ieq y20.snd 0)) (some (x0, 3)) (cnd (ile (len (lapp y3 [y7.fst])) 68719476736) (obind (F_book_ledger_bears (SState.mk x0.accounts x0.symbols (lapp y3 [y7.fst]) (lset y4 (itn y19) y20.fst) y5 y6 x0.kill y7.fst.id x0.seq x0.lsn) (SState.mk x0.accounts x0.symbols y15 y16 y17 y18 x0.kill x0.last x0.seq x0.lsn) y7.fst.account y7.fst.symbol) fun y21 ↦ cnd (bnot (ieq y21 0)) (some (x0, y21)) (some (SState.mk x0.accounts x0.symbols (lapp y3 [y7.fst]) (lset y4 (itn y19) y20.fst) y5 y6 x0.kill y7.fst.id x0.seq (wr IntKind.i64 (iadd x0.lsn 1)), 0))) none)) none)))) (cnd (ile x0.symbols x1.symbol) (some (x0, 1)) (cnd x0.kill (some (x0, 5)) (cnd (ieq (len y3) 64) (some (x0, 6)) (obind (F_slices_Clone_api_Order_d y3) fun y22 ↦ obind (F_slices_Clone_api_Cell_d y4) fun y23 ↦ obind (F_slices_Clone_api_Expo_d y5) fun y24 ↦ obind (F_slices_Clone_int64_d y6) fun y25 ↦ obind (F_book_ledger_cellOf (SState.mk x0.accounts x0.symbols y3 y4 y5 y6 x0.kill x0.last x0.seq x0.lsn) y7.fst.account y7.fst.symbol) fun y26 ↦ cnd (band (ile 0 y26) (ilt y26 (len y4))) (obind (F_cell_Come (lget y4 (itn y26)) y7.fst) fun y27 ↦ cnd (bnot (ieq y27.snd 0)) (some (x0, 3)) (cnd (ile (len (lapp y3 [y7.fst])) 68719476736) (obind (F_book_ledger_bears (SState.mk x0.accounts x0.symbols (lapp y3 [y7.fst]) (lset y4 (itn y26) y27.fst) y5 y6 x0.kill y7.fst.id x0.seq x0.lsn) (SState.mk x0.accounts x0.symbols y22 y23 y24 y25 x0.kill x0.last x0.seq x0.lsn) y7.fst.account y7.fst.symbol) fun y28 ↦ cnd (bnot (ieq y28 0)) (some (x0, y28)) (some (SState.mk x0.accounts x0.symbols (lapp y3 [y7.fst]) (lset y4 (itn y26) y27.fst) y5 y6 x0.kill y7.fst.id x0.seq (wr IntKind.i64 (iadd x0.lsn 1)), 0))) none)) none)))))) (cnd (ieq x1.kind 2) (obind (F_book_Find (SState.mk x0.accounts x0.symbols y3 y4 y5 y6 x0.kill x0.last x0.seq x0.lsn) x1.order) fun y29 ↦ cnd (ieq y29 (-1)) (some (x0, 7)) (cnd (band (ile 0 y29) (ilt y29 (len y3))) (obind (F_order_Change (lget y3 (itn y29)) x1.qty x1.price) fun y30 ↦ cnd (bnot (ieq y30.snd 0)) (some (x0, 8)) (cnd x0.kill (some (x0, 5)) (obind (F_slices_Clone_api_Order_d y3) fun y31 ↦ obind (F_slices_Clone_api_Cell_d y4) fun y32 ↦ obind (F_slices_Clone_api_Expo_d y5) fun y33 ↦ obind (F_slices_Clone_int64_d y6) fun y34 ↦ obind (F_book_ledger_cellOf (SState.mk x0.accounts x0.symbols y3 y4 y5 y6 x0.kill x0.last x0.seq x0.lsn) (lget y3 (itn y29)).account (lget y3 (itn y29)).symbol) fun y35 ↦ cnd (band (ile 0 y35) (ilt y35 (len y4))) (obind (F_cell_Go (lget y4 (itn y35)) (lget y3 (itn y29))) fun y36 ↦ obind (F_cell_Come y36.fst y30.fst) fun y37 ↦ cnd (bnot (ieq y37.snd 0)) (some (x0, 3)) (cnd (band (ile 0 y29) (ilt y29 (len y3))) (obind (F_book_ledger_bears (SState.mk x0.accounts x0.symbols (lset y3 (itn y29) y30.fst) (lset y4 (itn y35) y37.fst) y5 y6 x0.kill x0.last x0.seq x0.lsn) (SState.mk x0.accounts x0.symbols y31 y32 y33 y34 x0.kill x0.last x0.seq x0.lsn) (lget y3 (itn y29)).account (lget y3 (itn y29)).symbol) fun y38 ↦ cnd (bnot (ieq y38 0)) (some (x0, y38)) (some (SState.mk x0.accounts x0.symbols (lset y3 (itn y29) y30.fst) (lset y4 (itn y35) y37.fst) y5 y6 x0.kill x0.last x0.seq (wr IntKind.i64 (iadd x0.lsn 1)), 0))) none)) none))) none)) (cnd (ieq x1.kind 3) (obind (F_book_Find (SState.mk x0.accounts x0.symbols y3 y4 y5 y6 x0.kill x0.last x0.seq x0.lsn) x1.order) fun y39 ↦ cnd (ieq y39 (-1)) (some (x0, 7)) (cnd (band (ile 0 y39) (ilt y39 (len y3))) (obind (F_order_End (lget y3 (itn y39))) fun y40 ↦ cnd (band (ile 0 y39) (ilt y39 (len y3))) (cnd (bnot (ieq y40.snd 0)) (some (x0, y40.snd)) (some (SState.mk x0.accounts x0.symbols (lset y3 (itn y39) y40.fst) y4 y5 y6 x0.kill x0.last x0.seq (wr IntKind.i64 (iadd x0.lsn 1)), 0))) none) none)) (cnd (ieq x1.kind 4) (cnd (ile x0.accounts x1.account) (cnd (ile x0.accounts x1.account) (some (x0, 1)) (cnd (ieq x1.symbol (-1)) (cnd (band (ile 0 x1.account) (ilt x1.account (len y6))) (some (SState.mk x0.accounts x0.symbols y3 y4 y5 (lset y6 (itn x1.account) x1.opn) x0.kill x0.last x0.seq (wr IntKind.i64 (iadd x0.lsn 1)), 0)) none) (obind (F_book_ledger_cellOf (SState.mk x0.accounts x0.symbols y3 y4 y5 y6 x0.kill x0.last x0.seq x0.lsn) x1.account x1.symbol) fun y41 ↦ cnd (band (ile 0 y41) (ilt y41 (len y5))) (some (SState.mk x0.accounts x0.symbols y3 y4 (lset y5 (itn y41) (SExpo.mk x1.long x1.short x1.opn)) y6 x0.kill x0.last x0.seq (wr IntKind.i64 (iadd x0.lsn 1)), 0)) none))) (cnd (ile x0.symbols x1.symbol) (some (x0, 1)) (cnd (ieq x1.symbol (-1)) (cnd (band (ile 0 x1.account) (ilt x1.account (len y6))) (some (SState.mk x0.accounts x0.symbols y3 y4 y5 (lset y6 (itn x1.account) x1.opn) x0.kill x0.last x0.seq (wr IntKind.i64 (iadd x0.lsn 1)), 0)) none) (obind (F_book_ledger_cellOf (SState.mk x0.accounts x0.symbols y3 y4 y5 y6 x0.kill x0.last x0.seq x0.lsn) x1.account x1.symbol) fun y42 ↦ cnd (band (ile 0 y42) (ilt y42 (len y5))) (some (SState.mk x0.accounts x0.symbols y3 y4 (lset y5 (itn y42) (SExpo.mk x1.long x1.short x1.opn)) y6 x0.kill x0.last x0.seq (wr IntKind.i64 (iadd x0.lsn 1)), 0)) none)))) (cnd (ieq x1.kind 5) (some (SState.mk x0.accounts x0.symbols y3 y4 y5 y6 x1.on x0.last x0.seq (wr IntKind.i64 (iadd x0.lsn 1)), 0)) (cnd (bnot (ieq x1.seq (wr IntKind.i64 (iadd x0.seq 1)))) (some (x0, 11)) (obind (F_book_Find (SState.mk x0.accounts x0.symbols y3 y4 y5 y6 x0.kill x0.last x1.seq x0.lsn) x1.order) fun y43 ↦ cnd (ieq y43 (-1)) (some (SState.mk x0.accounts x0.symbols y3 y4 y5 y6 x0.kill x0.last x1.seq (wr IntKind.i64 (iadd x0.lsn 1)), 0)) (cnd (band (ile 0 y43) (ilt y43 (len y3))) (obind (F_order_Take (lget y3 (itn y43)) (SNote.mk x1.seq x1.what x1.order x1.qty x1.price)) fun y44 ↦ cnd (bnot (ieq y44.snd 0)) (some (SState.mk x0.accounts x0.symbols y3 y4 y5 y6 x0.kill x0.last x1.seq (wr IntKind.i64 (iadd x0.lsn 1)), 0)) (obind (F_book_ledger_cellOf (SState.mk x0.accounts x0.symbols y3 y4 y5 y6 x0.kill x0.last x1.seq x0.lsn) (lget y3 (itn y43)).account (lget y3 (itn y43)).symbol) fun y45 ↦ cnd (band (ile 0 y45) (ilt y45 (len y4))) (obind (F_cell_Go (lget y4 (itn y45)) (lget y3 (itn y43))) fun y46 ↦ obind (F_cell_Come (lget (lset y4 (itn y45) y46.fst) (itn y45)) y44.fst) fun y47 ↦ cnd (ieq x1.what 3) (obind (F_cell_Did (lget (lset (lset y4 (itn y45) y46.fst) (itn y45) y47.fst) (itn y45)) (lget y3 (itn y43)).side x1.qty) fun y48 ↦ cnd (band (ile 0 y43) (ilt y43 (len y3))) (cnd (ieq y44.fst.phase 3) (obind (F_slices_Delete_api_Order (lset y3 (itn y43) y44.fst) y43 (wr IntKind.i64 (iadd y43 1))) fun y49 ↦ some (SState.mk x0.accounts x0.symbols y49 (lset (lset (lset y4 (itn y45) y46.fst) (itn y45) y47.fst) (itn y45) y48.fst) y5 y6 x0.kill x0.last x1.seq (wr IntKind.i64 (iadd x0.lsn 1)), 0)) (some (SState.mk x0.accounts x0.symbols (lset y3 (itn y43) y44.fst) (lset (lset (lset y4 (itn y45) y46.fst) (itn y45) y47.fst) (itn y45) y48.fst) y5 y6 x0.kill x0.last x1.seq (wr IntKind.i64 (iadd x0.lsn 1)), 0))) none) (cnd (band (ile 0 y43) (ilt y43 (len y3))) (cnd (ieq y44.fst.phase 3) (obind (F_slices_Delete_api_Order (lset y3 (itn y43) y44.fst) y43 (wr IntKind.i64 (iadd y43 1))) fun y50 ↦ some (SState.mk x0.accounts x0.symbols y50 (lset (lset y4 (itn y45) y46.fst) (itn y45) y47.fst) y5 y6 x0.kill x0.last x1.seq (wr IntKind.i64 (iadd x0.lsn 1)), 0)) (some (SState.mk x0.accounts x0.symbols (lset y3 (itn y43) y44.fst) (lset (lset y4 (itn y45) y46.fst) (itn y45) y47.fst) y5 y6 x0.kill x0.last x1.seq (wr IntKind.i64 (iadd x0.lsn 1)), 0))) none)) none)) none))))))))
theorem F_book_Do_d_eq : F_book_Do = F_book_Do_d := by
  funext a0 a1
  unfold F_book_Do F_book_Do_d
  simp only [F_slices_Clone_api_Order_d_eq, F_slices_Clone_api_Cell_d_eq, F_slices_Clone_api_Expo_d_eq, F_slices_Clone_int64_d_eq]
def L_fold_Fold_26_d (p0 : Int) (p1 : (List SRec)) (v0 : Int) (v1 : Int) (v2 : Int) (v3 : SState) (v4 : SState) : Option ((Int × Int × Int × SState × SState) ⊕ ((Int × Int × SState × SState) ⊕ ((Int × Int × SState × SState)))) := cnd (ilt v0 p0) (cnd (band (ile 0 v0) (ilt v0 (len p1))) (obind (F_book_Do_d v4 (lget p1 (itn v0))) fun y0 ↦ cnd (bnot (ieq y0.snd 0)) (some (Sum.inr (Sum.inl (y0.snd, v0, v4, v4)))) (some (Sum.inl (wr IntKind.i64 (iadd v0 1), v1, v2, v3, y0.fst)))) none) (some (Sum.inr (Sum.inr (v1, v2, v3, v4))))
theorem L_fold_Fold_26_d_eq : L_fold_Fold_26 = L_fold_Fold_26_d := by
  funext a0 a1 a2 a3 a4 a5 a6
  unfold L_fold_Fold_26 L_fold_Fold_26_d
  simp only [F_book_Do_d_eq]
def F_fold_Fold_d (x0 : SState) (x1 : (List SRec)) : Option (SState × Int × Int) := obind (iterN (fun v ↦ L_fold_Fold_26_d (len x1) x1 v.fst v.snd.fst v.snd.snd.fst v.snd.snd.snd.fst v.snd.snd.snd.snd) LF (0, 0, 0, SState.mk 0 0 [] [] [] [] false 0 0 0, x0)) fun y0 ↦ sumK y0 (fun y1 ↦ some (y1.snd.snd.fst, y1.snd.fst, y1.fst)) fun y1 ↦ some (y1.snd.snd.snd, len x1, 0)
theorem F_fold_Fold_d_eq : F_fold_Fold = F_fold_Fold_d := by
  funext a0 a1
  unfold F_fold_Fold F_fold_Fold_d
  simp only [L_fold_Fold_26_d_eq]
def F_snafflelaw11_awake_d : Option (Bool) := obind (F_book_New 1 1 (SExpo.mk 9 9 99) 99) fun y0 ↦ obind (F_fold_Fold_d y0.fst [SRec.mk 1 1 0 0 1 4 2 0 0 0 false 0 0, SRec.mk 6 1 0 0 0 0 0 0 0 0 false 1 1, SRec.mk 6 1 0 0 0 0 0 0 0 0 false 2 4, SRec.mk 3 1 0 0 0 0 0 0 0 0 false 0 0]) fun y1 ↦ obind (F_fold_Fold_d y0.fst (ltake (ldrop [SRec.mk 1 1 0 0 1 4 2 0 0 0 false 0 0, SRec.mk 6 1 0 0 0 0 0 0 0 0 false 1 1, SRec.mk 6 1 0 0 0 0 0 0 0 0 false 2 4, SRec.mk 3 1 0 0 0 0 0 0 0 0 false 0 0] 0) 1)) fun y2 ↦ obind (F_fold_Expos y2.fst) fun y3 ↦ cnd (bor (ilt 0 (len y3)) (bnot (band (band (band (band (band (ieq y0.snd 0) (ieq y1.snd.fst 3)) (ieq y1.snd.snd 7)) (ieq y2.snd.fst 1)) (ieq y2.snd.snd 0)) (ieq (len y3) 1)))) (obind (cnd (band (band (band (band (band (band (ieq y0.snd 0) (ieq y1.snd.fst 3)) (ieq y1.snd.snd 7)) (ieq y2.snd.fst 1)) (ieq y2.snd.snd 0)) (ieq (len y3) 1)) (band (ieq (lget y3 0).long 4) (band (ieq (lget y3 0).short 0) (ieq (lget y3 0).opn 8)))) (F_fold_Covers y2.fst y1.fst) (some false)) fun y4 ↦ obind (cnd (band (band (band (band (band (band (band (ieq y0.snd 0) (ieq y1.snd.fst 3)) (ieq y1.snd.snd 7)) (ieq y2.snd.fst 1)) (ieq y2.snd.snd 0)) (ieq (len y3) 1)) (band (ieq (lget y3 0).long 4) (band (ieq (lget y3 0).short 0) (ieq (lget y3 0).opn 8)))) y4) (F_fold_Covers y1.fst y2.fst) (some false)) fun y5 ↦ some (band (band (band (band (band (band (band (band (ieq y0.snd 0) (ieq y1.snd.fst 3)) (ieq y1.snd.snd 7)) (ieq y2.snd.fst 1)) (ieq y2.snd.snd 0)) (ieq (len y3) 1)) (band (ieq (lget y3 0).long 4) (band (ieq (lget y3 0).short 0) (ieq (lget y3 0).opn 8)))) y4) (bnot y5))) none
theorem F_snafflelaw11_awake_d_eq : F_snafflelaw11_awake = F_snafflelaw11_awake_d := by
  unfold F_snafflelaw11_awake F_snafflelaw11_awake_d
  simp only [F_fold_Fold_d_eq]

theorem awake11 : F_snafflelaw11_awake = some true := by rw [F_snafflelaw11_awake_d_eq]; kernel_rfl
theorem pure_FoldRight (x0 x1 : SState) (x2 : List SRec) (k0 : Ok_state x0) (k1 : Ok_state x1) (k2 : okL ok_recd x2) : F_snafflelaw11_FoldRight x0 x1 x2 = some true := by
  refine Wq.eq ?_
  unfold F_snafflelaw11_FoldRight
  rw [awake11, ob_some, bnot_true, cnd_false]
  refine (s_short x0).bind fun y1 h1 => ?_
  refine Wq.bind (Q := fun b => b = true → (y1 = true ∧ shortP x1)) ?_ fun y2 h2 => ?_
  · rw [w_cnd]
    refine ⟨fun h => ?_, fun h => (w_some _).2 (by simp)⟩
    simp only [band_T, band_F, bor_T, bor_F, bnot_T, bnot_F, ilt_T, ilt_F, ile_T, ile_F, ieq_T, ieq_F, beq_T, beq_F] at h
    exact (s_short x1).mono fun b hb e => ⟨h, hb e⟩
  rw [w_cnd]
  refine ⟨fun _ => (w_some _).2 rfl, fun h => ?_⟩
  simp only [band_T, band_F, bor_T, bor_F, bnot_T, bnot_F, ilt_T, ilt_F, ile_T, ile_F, ieq_T, ieq_F, beq_T, beq_F, len] at h
  have s0 := h1 h.1.1
  have s1 := (h2 h.1.2).2
  have hl : x2.length ≤ 60 := by omega
  rw [e_fold k0 k2 s0 (by omega), ob_some, r_fold k0 k2 s0 (by omega), ob_some]
  obtain ⟨p1, p2⟩ := fold_keeps x2 k2 k0 s0
  have e00 : ∀ a : Int, ieq a a = true := fun a => by simp [ieq]
  have e01 : bor false false = false := rfl
  simp only [e00, bnot_true, e01, bnot_false, cnd_true, bor_false]
  rw [same_refl p2, ob_some]
  simp only [bnot_true, e01, bnot_false, cnd_true, bor_false]
  refine (s_fold_Covers k0 k1 s0 s1).bind fun y6 h6 => ?_
  refine (r_Covers k0 k1 s0 s1).bind fun y7 h7 => ?_
  have e67 : y6 = y7 := by rw [Bool.eq_iff_iff, h6, h7]
  rw [cnd_f (by rw [bnot_F, beq_T]; exact e67)]
  refine (e_fold_Expos k0 s0).bind fun y8 h8 => ?_
  refine (r_Expos k0 s0).bind fun y9 h9 => ?_
  have e89 : y8 = y9 := by
    by_cases hR : RightS x0
    · rw [h8.1 hR, h9.1 hR]
    · rw [h8.2 hR, h9.2 hR]
  subst e89
  have hl8 : y8.length < 999999 := by
    by_cases hR : RightS x0
    · rw [h8.1 hR, List.length_map]; exact s0.2.1
    · rw [h8.2 hR]; decide
  rw [cnd_f (by simp [ieq, bnot])]
  refine Wq.bind (w_same (l := y8) (m := y8) rfl hl8 (step := fun v : Int × Bool => L_snafflelaw11_FoldRight_4090 y8 y8 v.fst v.snd) (fun i h hh q => ?_) (fun q => ?_) _) fun w hw => ?_
  · simp only [L_snafflelaw11_FoldRight_4090]
    rw [cnd_t (by rw [ilt_nat]; simpa using h), cnd_t (inb _ i h), cnd_t (inb _ i hh), lget_nat _ i h]
    simp only [e00, band_true, bnot_true, cnd_false, w_some]
    exact ⟨fun _ => by rw [wr_succ (by omega)], fun h => absurd rfl h⟩
  · simp only [L_snafflelaw11_FoldRight_4090]
    rw [cnd_f (by rw [show ((y8.length : Nat) : Int) = len y8 from rfl]; simp [ilt])]
  · cases w with
    | inl w => exact absurd rfl hw.2
    | inr w => simp only [sumK, w_some]
end Go.Av

