/- The plain law, part 1. No condition. -/
import Derived.Test.YtfmhfbaanfajjaaGreatPPlainRight0
import Derived.KernelRfl
set_option linter.unusedVariables false
set_option linter.unusedSimpArgs false
set_option linter.unnecessarySimpa false
namespace Go.Av
open Go
def F_book_Do_d (x0 : SState) (x1 : SRec) : Option (SState × Int) := obind (F_num_Add x0.lsn 1) fun y0 ↦ obind (cnd (bnot (bor (bnot (ieq y0.snd 0)) (ile 1000000000 x0.lsn))) (F_rec_Right x1) (some false)) fun y1 ↦ obind (cnd (bnot (bor (bor (bnot (ieq y0.snd 0)) (ile 1000000000 x0.lsn)) (bnot y1))) (F_book_Right x0) (some false)) fun y2 ↦ cnd (bor (bor (bor (bnot (ieq y0.snd 0)) (ile 1000000000 x0.lsn)) (bnot y1)) (bnot y2)) (some (x0, 1)) (obind (F_slices_Clone_api_Order_d x0.orders) fun y3 ↦ obind (F_slices_Clone_api_Cell_d x0.cells) fun y4 ↦ obind (F_slices_Clone_api_Expo_d x0.limits) fun y5 ↦ obind (F_slices_Clone_int64_d x0.caps) fun y6 ↦ cnd (ieq x1.kind 1) (obind (F_order_Begin x1) fun y7 ↦ cnd (ile x1.order x0.last) (cnd (ile x1.order x0.last) (some (x0, 1)) (cnd x0.kill (some (x0, 5)) (cnd (ieq (len y3) 64) (some (x0, 6)) (obind (F_slices_Clone_api_Order_d y3) fun y8 ↦ obind (F_slices_Clone_api_Cell_d y4) fun y9 ↦ obind (F_slices_Clone_api_Expo_d y5) fun y10 ↦ obind (F_slices_Clone_int64_d y6) fun y11 ↦ obind (F_book_ledger_cellOf (SState.mk x0.accounts x0.symbols y3 y4 y5 y6 x0.kill x0.last x0.seq x0.lsn) y7.fst.account y7.fst.symbol) fun y12 ↦ cnd (band (ile 0 y12) (ilt y12 (len y4))) (obind (F_cell_Come (lget y4 (itn y12)) y7.fst) fun y13 ↦ cnd (bnot (ieq y13.snd 0)) (some (x0, 3)) (cnd (ile (len (lapp y3 [y7.fst])) 68719476736) (obind (F_book_ledger_bears (SState.mk x0.accounts x0.symbols (lapp y3 [y7.fst]) (lset y4 (itn y12) y13.fst) y5 y6 x0.kill y7.fst.id x0.seq x0.lsn) (SState.mk x0.accounts x0.symbols y8 y9 y10 y11 x0.kill x0.last x0.seq x0.lsn) y7.fst.account y7.fst.symbol) fun y14 ↦ cnd (bnot (ieq y14 0)) (some (x0, y14)) (some (SState.mk x0.accounts x0.symbols (lapp y3 [y7.fst]) (lset y4 (itn y12) y13.fst) y5 y6 x0.kill y7.fst.id x0.seq (wr IntKind.i64 (iadd x0.lsn 1)), 0))) none)) none)))) (cnd (ile x0.accounts x1.account) (cnd (ile x0.accounts x1.account) (some (x0, 1)) (cnd x0.kill (some (x0, 5)) (cnd (ieq (len y3) 64) (some (x0, 6)) (obind (F_slices_Clone_api_Order_d y3) fun y15 ↦ obind (F_slices_Clone_api_Cell_d y4) fun y16 ↦ obind (F_slices_Clone_api_Expo_d y5) fun y17 ↦ obind (F_slices_Clone_int64_d y6) fun y18 ↦ obind (F_book_ledger_cellOf (SState.mk x0.accounts x0.symbols y3 y4 y5 y6 x0.kill x0.last x0.seq x0.lsn) y7.fst.account y7.fst.symbol) fun y19 ↦ cnd (band (ile 0 y19) (ilt y19 (len y4))) (obind (F_cell_Come (lget y4 (itn y19)) y7.fst) fun y20 ↦ cnd (bnot (ieq y20.snd 0)) (some (x0, 3)) (cnd (ile (len (lapp y3 [y7.fst])) 68719476736) (obind (F_book_ledger_bears (SState.mk x0.accounts x0.symbols (lapp y3 [y7.fst]) (lset y4 (itn y19) y20.fst) y5 y6 x0.kill y7.fst.id x0.seq x0.lsn) (SState.mk x0.accounts x0.symbols y15 y16 y17 y18 x0.kill x0.last x0.seq x0.lsn) y7.fst.account y7.fst.symbol) fun y21 ↦ cnd (bnot (ieq y21 0)) (some (x0, y21)) (some (SState.mk x0.accounts x0.symbols (lapp y3 [y7.fst]) (lset y4 (itn y19) y20.fst) y5 y6 x0.kill y7.fst.id x0.seq (wr IntKind.i64 (iadd x0.lsn 1)), 0))) none)) none)))) (cnd (ile x0.symbols x1.symbol) (some (x0, 1)) (cnd x0.kill (some (x0, 5)) (cnd (ieq (len y3) 64) (some (x0, 6)) (obind (F_slices_Clone_api_Order_d y3) fun y22 ↦ obind (F_slices_Clone_api_Cell_d y4) fun y23 ↦ obind (F_slices_Clone_api_Expo_d y5) fun y24 ↦ obind (F_slices_Clone_int64_d y6) fun y25 ↦ obind (F_book_ledger_cellOf (SState.mk x0.accounts x0.symbols y3 y4 y5 y6 x0.kill x0.last x0.seq x0.lsn) y7.fst.account y7.fst.symbol) fun y26 ↦ cnd (band (ile 0 y26) (ilt y26 (len y4))) (obind (F_cell_Come (lget y4 (itn y26)) y7.fst) fun y27 ↦ cnd (bnot (ieq y27.snd 0)) (some (x0, 3)) (cnd (ile (len (lapp y3 [y7.fst])) 68719476736) (obind (F_book_ledger_bears (SState.mk x0.accounts x0.symbols (lapp y3 [y7.fst]) (lset y4 (itn y26) y27.fst) y5 y6 x0.kill y7.fst.id x0.seq x0.lsn) (SState.mk x0.accounts x0.symbols y22 y23 y24 y25 x0.kill x0.last x0.seq x0.lsn) y7.fst.account y7.fst.symbol) fun y28 ↦ cnd (bnot (ieq y28 0)) (some (x0, y28)) (some (SState.mk x0.accounts x0.symbols (lapp y3 [y7.fst]) (lset y4 (itn y26) y27.fst) y5 y6 x0.kill y7.fst.id x0.seq (wr IntKind.i64 (iadd x0.lsn 1)), 0))) none)) none)))))) (cnd (ieq x1.kind 2) (obind (F_book_Find (SState.mk x0.accounts x0.symbols y3 y4 y5 y6 x0.kill x0.last x0.seq x0.lsn) x1.order) fun y29 ↦ cnd (ieq y29 (-1)) (some (x0, 7)) (cnd (band (ile 0 y29) (ilt y29 (len y3))) (obind (F_order_Change (lget y3 (itn y29)) x1.qty x1.price) fun y30 ↦ cnd (bnot (ieq y30.snd 0)) (some (x0, 8)) (cnd x0.kill (some (x0, 5)) (obind (F_slices_Clone_api_Order_d y3) fun y31 ↦ obind (F_slices_Clone_api_Cell_d y4) fun y32 ↦ obind (F_slices_Clone_api_Expo_d y5) fun y33 ↦ obind (F_slices_Clone_int64_d y6) fun y34 ↦ obind (F_book_ledger_cellOf (SState.mk x0.accounts x0.symbols y3 y4 y5 y6 x0.kill x0.last x0.seq x0.lsn) (lget y3 (itn y29)).account (lget y3 (itn y29)).symbol) fun y35 ↦ cnd (band (ile 0 y35) (ilt y35 (len y4))) (obind (F_cell_Go (lget y4 (itn y35)) (lget y3 (itn y29))) fun y36 ↦ obind (F_cell_Come y36.fst y30.fst) fun y37 ↦ cnd (bnot (ieq y37.snd 0)) (some (x0, 3)) (cnd (band (ile 0 y29) (ilt y29 (len y3))) (obind (F_book_ledger_bears (SState.mk x0.accounts x0.symbols (lset y3 (itn y29) y30.fst) (lset y4 (itn y35) y37.fst) y5 y6 x0.kill x0.last x0.seq x0.lsn) (SState.mk x0.accounts x0.symbols y31 y32 y33 y34 x0.kill x0.last x0.seq x0.lsn) (lget y3 (itn y29)).account (lget y3 (itn y29)).symbol) fun y38 ↦ cnd (bnot (ieq y38 0)) (some (x0, y38)) (some (SState.mk x0.accounts x0.symbols (lset y3 (itn y29) y30.fst) (lset y4 (itn y35) y37.fst) y5 y6 x0.kill x0.last x0.seq (wr IntKind.i64 (iadd x0.lsn 1)), 0))) none)) none))) none)) (cnd (ieq x1.kind 3) (obind (F_book_Find (SState.mk x0.accounts x0.symbols y3 y4 y5 y6 x0.kill x0.last x0.seq x0.lsn) x1.order) fun y39 ↦ cnd (ieq y39 (-1)) (some (x0, 7)) (cnd (band (ile 0 y39) (ilt y39 (len y3))) (obind (F_order_End (lget y3 (itn y39))) fun y40 ↦ cnd (band (ile 0 y39) (ilt y39 (len y3))) (cnd (bnot (ieq y40.snd 0)) (some (x0, y40.snd)) (some (SState.mk x0.accounts x0.symbols (lset y3 (itn y39) y40.fst) y4 y5 y6 x0.kill x0.last x0.seq (wr IntKind.i64 (iadd x0.lsn 1)), 0))) none) none)) (cnd (ieq x1.kind 4) (cnd (ile x0.accounts x1.account) (cnd (ile x0.accounts x1.account) (some (x0, 1)) (cnd (ieq x1.symbol (-1)) (cnd (band (ile 0 x1.account) (ilt x1.account (len y6))) (some (SState.mk x0.accounts x0.symbols y3 y4 y5 (lset y6 (itn x1.account) x1.opn) x0.kill x0.last x0.seq (wr IntKind.i64 (iadd x0.lsn 1)), 0)) none) (obind (F_book_ledger_cellOf (SState.mk x0.accounts x0.symbols y3 y4 y5 y6 x0.kill x0.last x0.seq x0.lsn) x1.account x1.symbol) fun y41 ↦ cnd (band (ile 0 y41) (ilt y41 (len y5))) (some (SState.mk x0.accounts x0.symbols y3 y4 (lset y5 (itn y41) (SExpo.mk x1.long x1.short x1.opn)) y6 x0.kill x0.last x0.seq (wr IntKind.i64 (iadd x0.lsn 1)), 0)) none))) (cnd (ile x0.symbols x1.symbol) (some (x0, 1)) (cnd (ieq x1.symbol (-1)) (cnd (band (ile 0 x1.account) (ilt x1.account (len y6))) (some (SState.mk x0.accounts x0.symbols y3 y4 y5 (lset y6 (itn x1.account) x1.opn) x0.kill x0.last x0.seq (wr IntKind.i64 (iadd x0.lsn 1)), 0)) none) (obind (F_book_ledger_cellOf (SState.mk x0.accounts x0.symbols y3 y4 y5 y6 x0.kill x0.last x0.seq x0.lsn) x1.account x1.symbol) fun y42 ↦ cnd (band (ile 0 y42) (ilt y42 (len y5))) (some (SState.mk x0.accounts x0.symbols y3 y4 (lset y5 (itn y42) (SExpo.mk x1.long x1.short x1.opn)) y6 x0.kill x0.last x0.seq (wr IntKind.i64 (iadd x0.lsn 1)), 0)) none)))) (cnd (ieq x1.kind 5) (some (SState.mk x0.accounts x0.symbols y3 y4 y5 y6 x1.on x0.last x0.seq (wr IntKind.i64 (iadd x0.lsn 1)), 0)) (cnd (bnot (ieq x1.seq (wr IntKind.i64 (iadd x0.seq 1)))) (some (x0, 11)) (obind (F_book_Find (SState.mk x0.accounts x0.symbols y3 y4 y5 y6 x0.kill x0.last x1.seq x0.lsn) x1.order) fun y43 ↦ cnd (ieq y43 (-1)) (some (SState.mk x0.accounts x0.symbols y3 y4 y5 y6 x0.kill x0.last x1.seq (wr IntKind.i64 (iadd x0.lsn 1)), 0)) (cnd (band (ile 0 y43) (ilt y43 (len y3))) (obind (F_order_Take (lget y3 (itn y43)) (SNote.mk x1.seq x1.what x1.order x1.qty x1.price)) fun y44 ↦ cnd (bnot (ieq y44.snd 0)) (some (SState.mk x0.accounts x0.symbols y3 y4 y5 y6 x0.kill x0.last x1.seq (wr IntKind.i64 (iadd x0.lsn 1)), 0)) (obind (F_book_ledger_cellOf (SState.mk x0.accounts x0.symbols y3 y4 y5 y6 x0.kill x0.last x1.seq x0.lsn) (lget y3 (itn y43)).account (lget y3 (itn y43)).symbol) fun y45 ↦ cnd (band (ile 0 y45) (ilt y45 (len y4))) (obind (F_cell_Go (lget y4 (itn y45)) (lget y3 (itn y43))) fun y46 ↦ obind (F_cell_Come (lget (lset y4 (itn y45) y46.fst) (itn y45)) y44.fst) fun y47 ↦ cnd (ieq x1.what 3) (obind (F_cell_Did (lget (lset (lset y4 (itn y45) y46.fst) (itn y45) y47.fst) (itn y45)) (lget y3 (itn y43)).side x1.qty) fun y48 ↦ cnd (band (ile 0 y43) (ilt y43 (len y3))) (cnd (ieq y44.fst.phase 3) (obind (F_slices_Delete_api_Order (lset y3 (itn y43) y44.fst) y43 (wr IntKind.i64 (iadd y43 1))) fun y49 ↦ some (SState.mk x0.accounts x0.symbols y49 (lset (lset (lset y4 (itn y45) y46.fst) (itn y45) y47.fst) (itn y45) y48.fst) y5 y6 x0.kill x0.last x1.seq (wr IntKind.i64 (iadd x0.lsn 1)), 0)) (some (SState.mk x0.accounts x0.symbols (lset y3 (itn y43) y44.fst) (lset (lset (lset y4 (itn y45) y46.fst) (itn y45) y47.fst) (itn y45) y48.fst) y5 y6 x0.kill x0.last x1.seq (wr IntKind.i64 (iadd x0.lsn 1)), 0))) none) (cnd (band (ile 0 y43) (ilt y43 (len y3))) (cnd (ieq y44.fst.phase 3) (obind (F_slices_Delete_api_Order (lset y3 (itn y43) y44.fst) y43 (wr IntKind.i64 (iadd y43 1))) fun y50 ↦ some (SState.mk x0.accounts x0.symbols y50 (lset (lset y4 (itn y45) y46.fst) (itn y45) y47.fst) y5 y6 x0.kill x0.last x1.seq (wr IntKind.i64 (iadd x0.lsn 1)), 0)) (some (SState.mk x0.accounts x0.symbols (lset y3 (itn y43) y44.fst) (lset (lset y4 (itn y45) y46.fst) (itn y45) y47.fst) y5 y6 x0.kill x0.last x1.seq (wr IntKind.i64 (iadd x0.lsn 1)), 0))) none)) none)) none))))))))
theorem F_book_Do_d_eq : F_book_Do = F_book_Do_d := by
  funext a0 a1
  unfold F_book_Do F_book_Do_d
  simp only [F_slices_Clone_api_Order_d_eq, F_slices_Clone_api_Cell_d_eq, F_slices_Clone_api_Expo_d_eq, F_slices_Clone_int64_d_eq]
def msgP (m : SMsg) : Prop := knownP m.order ∧ (0 ≤ m.account ∧ m.account < 8) ∧ (0 ≤ m.symbol ∧ m.symbol < 8) ∧ (m.side = 1 ∨ m.side = 2) ∧ (0 ≤ m.lsn ∧ m.lsn ≤ 1000000000) ∧
  ((m.kind = 1 ∧ 1 ≤ m.qty ∧ 1 ≤ m.price ∧ m.version = 0) ∨ (m.kind = 2 ∧ 1 ≤ m.qty ∧ 1 ≤ m.price ∧ 1 ≤ m.version) ∨ (m.kind = 3 ∧ m.qty = 0 ∧ m.price = 0 ∧ m.version = 0))
instance (m : SMsg) : Decidable (msgP m) := by unfold msgP knownP; infer_instance
theorem s_msg (m : SMsg) : Wq (F_venue_RightMsg m) fun b => b = true ↔ msgP m := by
  unfold F_venue_RightMsg msgP knownP
  simp only [w_bind, w_cnd, w_some, band_T, band_F, bor_T, bor_F, bnot_T, bnot_F, ilt_T, ilt_F, ile_T, ile_F, ieq_T, ieq_F, beq_T, beq_F, true_implies, ne_eq, not_true_eq_false, false_implies, and_true, true_and, or_self, reduceCtorEq]
  grind
theorem e_msg (m : SMsg) : F_venue_RightMsg m = some (decide (msgP m)) := (s_msg m).dec
theorem r_msg (m : SMsg) : F_snaffleref16_RightMsg m = some (decide (msgP m)) := by
  refine Wq.dec ?_
  unfold F_snaffleref16_RightMsg msgP knownP
  simp only [w_bind, w_cnd, w_some, band_T, band_F, bor_T, bor_F, bnot_T, bnot_F, ilt_T, ilt_F, ile_T, ile_F, ieq_T, ieq_F, beq_T, beq_F, true_implies, ne_eq, not_true_eq_false, false_implies, and_true, true_and, or_self, reduceCtorEq]
  grind
/-- What waits goes in order, above a number, up to another. -/
def outP : List SMsg → Int → Int → Prop
  | [], _, _ => True
  | m :: r, a, z => msgP m ∧ a < m.lsn ∧ m.lsn ≤ z ∧ outP r m.lsn z
theorem outP_drop {l : List SMsg} {i : Nat} (hi : i < l.length) {a z : Int} : outP (l.drop i) a z ↔ msgP l[i] ∧ a < l[i].lsn ∧ l[i].lsn ≤ z ∧ outP (l.drop (i + 1)) l[i].lsn z := by
  rw [List.drop_eq_getElem_cons hi]; rfl
theorem s_outbox (l : List SMsg) (a z : Int) (hl : l.length < 999999) : Wq (F_outbox_Right l a z) fun b => b = true ↔ outP l a z := by
  unfold F_outbox_Right
  refine Wq.bind (Q := fun w : Bool ⊕ Bool => match w with | .inl b => b = false ∧ ¬ outP l a z | .inr _ => outP l a z)
    (w_for (n := l.length) (step := fun v : Int × Bool × Int => L_outbox_Right_26 (len l) l z v.fst v.snd.fst v.snd.snd) hl (fun i x => outP l a z ↔ outP (l.drop i) x.2 z) _ ?_ ?_ _ 0 (Nat.zero_le _) (by simp)) ?_
  · rintro i ⟨q, x⟩ hi hj
    simp only at hj
    simp only [L_outbox_Right_26]
    rw [cnd_t (by rw [ilt_nat]; simpa using hi), cnd_t (inb l i hi), lget_nat l i hi, e_msg, ob_some, hj, outP_drop hi]
    simp only [w_bind, w_cnd, w_some, band_T, band_F, bor_T, bor_F, bnot_T, bnot_F, ilt_T, ilt_F, ile_T, ile_F, ieq_T, ieq_F, beq_T, beq_F, true_implies, ne_eq, not_true_eq_false, false_implies, and_true, true_and, or_self, reduceCtorEq]
    refine ⟨fun h => ?_, fun h => ?_⟩
    · rintro ⟨h1, h2, h3, _⟩
      rcases h with (h | h) | h
      · simp [h1] at h
      · omega
      · omega
    · refine ⟨wr_succ (by omega), ?_⟩
      have h1 : msgP l[i] := by simpa using h.1.1
      exact ⟨fun h => h.2.2.2, fun g => ⟨h1, by omega, by omega, g⟩⟩
  · rintro ⟨q, x⟩ hj
    simp only at hj
    simp only [L_outbox_Right_26]
    rw [cnd_f (by rw [show ((l.length : Nat) : Int) = len l from rfl]; simp [ilt]), w_some]
    show outP l a z
    rw [hj, List.drop_length]; trivial
  · intro w hw
    match w, hw with
    | .inl b, h => simp only [sumK, w_some]; simp [h.1, h.2]
    | .inr _, h => simp only [sumK, w_some]; simpa using h
/-- The held notes go in order, above a number, up to eight behind the next. -/
def heldP : List SNote → Int → Int → Prop
  | [], _, _ => True
  | n :: r, a, x => a < n.seq ∧ n.seq ≤ x + 8 ∧ heldP r n.seq x
theorem heldP_drop {l : List SNote} {i : Nat} (hi : i < l.length) {a z : Int} : heldP (l.drop i) a z ↔ a < l[i].seq ∧ l[i].seq ≤ z + 8 ∧ heldP (l.drop (i + 1)) l[i].seq z := by
  rw [List.drop_eq_getElem_cons hi]; rfl
def feedP (f : SFeed) (x : Int) : Prop := 1 ≤ x ∧ x ≤ 1000000001 ∧ f.held.length ≤ 8 ∧ heldP f.held x x
theorem s_feed_Right (f : SFeed) (x : Int) : Wq (F_feed_Right f x) fun b => b = true ↔ feedP f x := by
  unfold F_feed_Right feedP
  rw [w_cnd]
  refine ⟨fun h => (w_some _).2 ?_, fun h => ?_⟩
  · simp only [band_T, band_F, bor_T, bor_F, bnot_T, bnot_F, ilt_T, ilt_F, ile_T, ile_F, ieq_T, ieq_F, beq_T, beq_F, len] at h
    constructor
    · intro g; cases g
    · intro g; omega
  simp only [band_T, band_F, bor_T, bor_F, bnot_T, bnot_F, ilt_T, ilt_F, ile_T, ile_F, ieq_T, ieq_F, beq_T, beq_F, len] at h
  have hl : f.held.length ≤ 8 := by omega
  have hwr : wr IntKind.i64 (iadd x 8) = x + 8 := wr_small (by simp only [iadd]; omega) (by simp only [iadd]; omega)
  refine Wq.bind (Q := fun w : Bool ⊕ Bool => match w with | .inl b => b = false ∧ ¬ heldP f.held x x | .inr _ => heldP f.held x x)
    (w_for (n := f.held.length) (step := fun v : Int × Int × Bool => L_feed_Right_122 (len f.held) f.held x v.fst v.snd.fst v.snd.snd) (by omega) (fun i y => heldP f.held x x ↔ heldP (f.held.drop i) y.1 x) _ ?_ ?_ _ 0 (Nat.zero_le _) (by simp)) ?_
  · rintro i ⟨y, q⟩ hi hj
    simp only at hj
    simp only [L_feed_Right_122]
    rw [cnd_t (by rw [ilt_nat]; simpa using hi), cnd_t (inb f.held i hi), lget_nat f.held i hi, hj, heldP_drop hi, hwr]
    simp only [w_bind, w_cnd, w_some, band_T, band_F, bor_T, bor_F, bnot_T, bnot_F, ilt_T, ilt_F, ile_T, ile_F, ieq_T, ieq_F, beq_T, beq_F, true_implies, ne_eq, not_true_eq_false, false_implies, and_true, true_and, or_self, reduceCtorEq]
    refine ⟨fun h => ?_, fun h => ?_⟩
    · rintro ⟨h1, h2, _⟩; omega
    · exact ⟨wr_succ (by omega), fun h => h.2.2, fun g => ⟨by omega, by omega, g⟩⟩
  · rintro ⟨y, q⟩ hj
    simp only at hj
    simp only [L_feed_Right_122]
    rw [cnd_f (by rw [show ((f.held.length : Nat) : Int) = len f.held from rfl]; simp [ilt]), w_some]
    show heldP f.held x x
    rw [hj, List.drop_length]; trivial
  · intro w hw
    match w, hw with
    | .inl b, h => simp only [sumK, w_some]; simp [h.1, h.2]
    | .inr _, h =>
      simp only [sumK, w_some]
      simp only [true_iff]
      exact ⟨by omega, by omega, hl, h⟩
def plainP (p : SPlain) : Prop := (∀ n ∈ p.feed.held, recP (noteR n)) ∧ RightS p.state ∧ outP p.outbox 0 p.state.lsn ∧ feedP p.feed (p.state.seq + 1)
theorem half_sum' (n : Nat) (h : n ≤ 200) : wr IntKind.i64 (ishr IntKind.u64 (wr IntKind.u64 (wr IntKind.i64 (n : Int))) 1) = ((n / 2 : Nat) : Int) := by
  have : ∀ k : Fin 201, wr IntKind.i64 (ishr IntKind.u64 (wr IntKind.u64 (wr IntKind.i64 ((k : Nat) : Int))) 1) = (((k : Nat) / 2 : Nat) : Int) := by decide +kernel
  exact this ⟨n, by omega⟩
theorem heldP_gt : ∀ {l : List SNote} {a x : Int}, heldP l a x → ∀ n ∈ l, a < n.seq ∧ n.seq ≤ x + 8
  | [], _, _, _, n, hn => by cases hn
  | m :: r, a, x, h, n, hn => by
    obtain ⟨h1, h2, h3⟩ := h
    rcases List.mem_cons.1 hn with rfl | hn
    · exact ⟨h1, h2⟩
    · have := heldP_gt h3 n hn; exact ⟨by omega, this.2⟩
theorem heldP_lt : ∀ {l : List SNote} {a x : Int}, heldP l a x → ∀ {i j : Nat} (hij : i < j) (hj : j < l.length), (l[i]'(by omega)).seq < l[j].seq
  | m :: r, a, x, h, 0, j + 1, hij, hj => by
    have hj' : j < r.length := by simpa using hj
    exact (heldP_gt h.2.2 r[j] (List.getElem_mem hj')).1
  | m :: r, a, x, h, i + 1, j + 1, hij, hj => heldP_lt h.2.2 (i := i) (j := j) (by omega) (by simpa using hj)
  | [], _, _, _, _, _, _, hj => by simp at hj
theorem heldP_len : ∀ {l : List SNote} {a x : Int}, heldP l a x → a ≤ x + 8 → (l.length : Int) ≤ x + 8 - a
  | [], _, _, _, h => by simp; omega
  | m :: r, a, x, h, _ => by
    have := heldP_len h.2.2 h.2.1
    have := h.1
    simp only [List.length_cons]; omega
theorem heldP_up : ∀ {l : List SNote} {a x y : Int}, heldP l a x → x ≤ y → heldP l a y
  | [], _, _, _, _, _ => trivial
  | m :: r, a, x, y, h, hy => ⟨h.1, by have := h.2.1; omega, heldP_up h.2.2 hy⟩
/-- How many go on one by one. -/
def rowN : List SNote → Int → Nat
  | [], _ => 0
  | n :: r, x => if n.seq = x then rowN r (x + 1) + 1 else 0
theorem rowN_le : ∀ (l : List SNote) (x : Int), rowN l x ≤ l.length
  | [], _ => Nat.le_refl _
  | n :: r, x => by
    unfold rowN
    have := rowN_le r (x + 1)
    split <;> simp <;> omega
theorem e_row (l : List SNote) (x : Int) (hl : l.length ≤ 8) (h0 : 0 ≤ x) (h1 : x ≤ 2000000000) : F_feed_row l x = some (rowN l x : Int) := by
  refine Wq.eq ?_
  unfold F_feed_row
  refine Wq.bind (Q := fun w : Int ⊕ Int => match w with | .inl b => b = (rowN l x : Int) | .inr _ => rowN l x = l.length)
    (w_for (n := l.length) (step := fun v : Int × Int => L_feed_row_26 (len l) l x v.fst v.snd) (by omega) (fun i _ => rowN l x = i + rowN (l.drop i) (x + i)) _ ?_ ?_ _ 0 (Nat.zero_le _) (by simp)) ?_
  · rintro i q hi hj
    simp only [L_feed_row_26]
    have hw : wr IntKind.i64 (iadd x (i : Int)) = x + i := wr_small (by simp only [iadd]; omega) (by simp only [iadd]; omega)
    rw [cnd_t (by rw [ilt_nat]; simpa using hi), cnd_t (inb l i hi), lget_nat l i hi, hw]
    rw [List.drop_eq_getElem_cons hi, rowN] at hj
    simp only [w_bind, w_cnd, w_some, band_T, band_F, bor_T, bor_F, bnot_T, bnot_F, ilt_T, ilt_F, ile_T, ile_F, ieq_T, ieq_F, beq_T, beq_F, true_implies, ne_eq, not_true_eq_false, false_implies, and_true, true_and, or_self, reduceCtorEq]
    refine ⟨fun h => ?_, fun h => ?_⟩
    · rw [if_neg h] at hj; omega
    · rw [if_pos h] at hj
      refine ⟨wr_succ (by omega), ?_⟩
      rw [hj, show x + ((i + 1 : Nat) : Int) = x + i + 1 by omega]; omega
  · rintro q hj
    simp only [L_feed_row_26]
    rw [cnd_f (by rw [show ((l.length : Nat) : Int) = len l from rfl]; simp [ilt]), w_some]
    simpa [rowN] using hj
  · intro w hw
    match w, hw with
    | .inl b, h => simp only [sumK, w_some]; exact h
    | .inr _, h => simp only [sumK, w_some, len]; rw [h]
theorem e_place {l : List SNote} {x s : Int} (hl : l.length ≤ 8) (hh : heldP l x x) (hx : 0 ≤ x) (hx2 : x ≤ 2000000000) (hs : 0 ≤ s) (hs2 : s ≤ 2000000000) :
    Wq (F_feed_place l s) fun r => ∃ i : Nat, r.1 = (i : Int) ∧ i ≤ l.length ∧ (∀ (j : Nat) (h : j < l.length), j < i → l[j].seq < s) ∧ (∀ (j : Nat) (h : j < l.length), i ≤ j → s ≤ l[j].seq) ∧ (r.2 = true ↔ ∃ h : i < l.length, l[i].seq = s) := by
  have sub : ∀ (i : Nat) (h : i < l.length), wr IntKind.i64 (isub l[i].seq s) = l[i].seq - s := fun i h => by
    have := heldP_gt hh l[i] (List.getElem_mem h)
    exact wr_in ⟨by simp only [isub]; omega, by simp only [isub]; omega⟩
  unfold F_feed_place
  refine Wq.bind (Q := fun w : Int => ∃ i : Nat, w = (i : Int) ∧ i ≤ l.length ∧ (∀ (j : Nat) (h : j < l.length), j < i → l[j].seq < s) ∧ (∀ (j : Nat) (h : j < l.length), i ≤ j → s ≤ l[j].seq))
    (w_iter (step := fun v : Int × Int => L_feed_place_60_slices_BinarySearchFunc_api_Note_api_Note_int64_c11 l s v.fst v.snd) (fun v => (v.1 - v.2).toNat)
      (fun v => ∃ lo hi : Nat, v = ((hi : Int), (lo : Int)) ∧ lo ≤ hi ∧ hi ≤ l.length ∧ (∀ (j : Nat) (h : j < l.length), j < lo → l[j].seq < s) ∧ (∀ (j : Nat) (h : j < l.length), hi ≤ j → s ≤ l[j].seq)) _ ?_ LF _ (lt_LF (by simp only [len]; omega)) ⟨0, l.length, rfl, Nat.zero_le _, Nat.le_refl _, fun j _ h => by omega, fun j h1 h2 => by omega⟩) ?_
  · rintro _ ⟨lo, hi, rfl, g1, g2, g3, g4⟩
    simp only [L_feed_place_60_slices_BinarySearchFunc_api_Note_api_Note_int64_c11]
    rw [w_cnd]
    refine ⟨fun h => ?_, fun h => (w_some _).2 ?_⟩
    · rw [ilt_T] at h
      have e1 : wr IntKind.i64 (ishr IntKind.u64 (wr IntKind.u64 (wr IntKind.i64 (iadd (lo : Int) (hi : Int)))) 1) = (((lo + hi) / 2 : Nat) : Int) := by
        rw [← half_sum' (lo + hi) (by omega)]; unfold iadd; rw [Int.natCast_add]
      have hm : (lo + hi) / 2 < l.length := by omega
      rw [e1, cnd_t (inb _ _ hm), lget_nat _ _ hm, w_cnd, w_some, w_some, sub _ hm]
      refine ⟨fun h2 => ?_, fun h2 => ?_⟩
      · simp only [band_T, band_F, bor_T, bor_F, bnot_T, bnot_F, ilt_T, ilt_F, ile_T, ile_F, ieq_T, ieq_F, beq_T, beq_F] at h2
        refine ⟨⟨(lo + hi) / 2 + 1, hi, by rw [wr_succ (by omega)], by omega, g2, fun j hj h3 => ?_, g4⟩, ?_⟩
        · rcases Nat.lt_or_ge j ((lo + hi) / 2) with h4 | h4
          · have := heldP_lt hh h4 hm; omega
          · have : j = (lo + hi) / 2 := by omega
            subst this; omega
        · simp only; rw [wr_succ (by omega)]; omega
      · simp only [band_T, band_F, bor_T, bor_F, bnot_T, bnot_F, ilt_T, ilt_F, ile_T, ile_F, ieq_T, ieq_F, beq_T, beq_F] at h2
        refine ⟨⟨lo, (lo + hi) / 2, rfl, by omega, by omega, g3, fun j hj h3 => ?_⟩, ?_⟩
        · rcases Nat.lt_or_ge ((lo + hi) / 2) j with h4 | h4
          · have := heldP_lt hh h4 hj; omega
          · have : j = (lo + hi) / 2 := by omega
            subst this; omega
        · simp only; omega
    · rw [ilt_F] at h
      have : lo = hi := by omega
      subst this
      exact ⟨lo, rfl, g2, g3, g4⟩
  rintro _ ⟨i, rfl, hi, g1, g2⟩
  by_cases hil : i < l.length
  · have h1 : ilt (i : Int) (len l) = true := ilt_t (by simp only [len]; omega)
    rw [cnd_t (by rw [bor_T]; exact .inl (inb l i hil)), cnd_t h1, w_some, lget_nat l i hil, sub _ hil]
    refine ⟨i, rfl, hi, g1, g2, ?_⟩
    simp only [band_T, band_F, bor_T, bor_F, bnot_T, bnot_F, ilt_T, ilt_F, ile_T, ile_F, ieq_T, ieq_F, beq_T, beq_F]
    constructor
    · intro h; exact ⟨hil, by omega⟩
    · rintro ⟨_, h⟩; exact ⟨by simp only [len]; omega, by omega⟩
  · have h1 : ilt (i : Int) (len l) = false := ilt_f (by simp only [len]; omega)
    rw [cnd_t (by rw [bor_T, bnot_T]; exact .inr h1), cnd_f h1, w_some]
    refine ⟨i, rfl, hi, g1, g2, ?_⟩
    rw [h1]
    constructor
    · intro h; simp [bor] at h
    · rintro ⟨h, _⟩; exact absurd h hil
theorem nol_nil {α : Type} (l : List α) : nol l = [] := by simp [nol]
open Classical in
noncomputable def comeZ (f : SFeed) (n : SNote) (x : Int) : SFeed × List SNote × Int :=
  if ¬ (feedP f x ∧ 1 ≤ n.seq ∧ n.seq ≤ 1000000000) then (f, [], 1)
  else if n.seq < x then (f, [], 0)
  else if x + 8 < n.seq then (⟨f.held, true⟩, [], 0)
  else if n.seq = x then (⟨f.held.drop (rowN f.held (x + 1)), f.gap⟩, n :: f.held.take (rowN f.held (x + 1)), 0)
  else if ∃ m ∈ f.held, m.seq = n.seq then (f, [], 0)
  else (⟨(f.held.filter fun m => m.seq < n.seq) ++ n :: (f.held.filter fun m => n.seq < m.seq), f.gap⟩, [], 0)
theorem split_at {l : List SNote} {s : Int} {i : Nat} (hi : i ≤ l.length) (h1 : ∀ (j : Nat) (h : j < l.length), j < i → l[j].seq < s) (h2 : ∀ (j : Nat) (h : j < l.length), i ≤ j → s ≤ l[j].seq) (hn : ¬ ∃ m ∈ l, m.seq = s) :
    l.take i = (l.filter fun m => m.seq < s) ∧ l.drop i = (l.filter fun m => s < m.seq) := by
  have a1 : ∀ m ∈ l.take i, m.seq < s := fun m hm => by
    obtain ⟨j, hj, rfl⟩ := List.getElem_of_mem hm
    rw [List.getElem_take]
    have hj' : j < i ∧ j < l.length := by simp at hj; omega
    exact h1 j hj'.2 hj'.1
  have a2 : ∀ m ∈ l.drop i, s < m.seq := fun m hm => by
    have hml : m ∈ l := List.mem_of_mem_drop hm
    obtain ⟨j, hj, rfl⟩ := List.getElem_of_mem hm
    rw [List.getElem_drop] at hml ⊢
    have hj' : i + j < l.length := by simp at hj; omega
    have := h2 (i + j) hj' (by omega)
    have : l[i + j].seq ≠ s := fun e => hn ⟨_, hml, e⟩
    omega
  have hl : l = l.take i ++ l.drop i := (List.take_append_drop i l).symm
  have e1 : (l.take i).filter (fun m => decide (m.seq < s)) = l.take i := List.filter_eq_self.2 (fun m hm => by simpa using a1 m hm)
  have e2 : (l.drop i).filter (fun m => decide (m.seq < s)) = [] := List.filter_eq_nil_iff.2 (fun m hm => by have := a2 m hm; simp; omega)
  have e3 : (l.drop i).filter (fun m => decide (s < m.seq)) = l.drop i := List.filter_eq_self.2 (fun m hm => by simpa using a2 m hm)
  have e4 : (l.take i).filter (fun m => decide (s < m.seq)) = [] := List.filter_eq_nil_iff.2 (fun m hm => by have := a1 m hm; simp; omega)
  constructor
  · conv => rhs; rw [hl]
    rw [List.filter_append, e1, e2, List.append_nil]
  · conv => rhs; rw [hl]
    rw [List.filter_append, e3, e4, List.nil_append]
theorem e_feed_Come (f : SFeed) (n : SNote) (x : Int) : F_feed_Come f n x = some (comeZ f n x) := by
  refine Wq.eq ?_
  unfold F_feed_Come comeZ
  refine (s_feed_Right f x).bind fun b hb => ?_
  by_cases hf : feedP f x
  case neg =>
    have : b = false := by cases b with
      | false => rfl
      | true => exact absurd (hb.1 rfl) hf
    subst this
    rw [bnot_false, cnd_true, cnd_true, w_some, if_pos (fun h => hf h.1)]
  obtain rfl := hb.2 hf
  rw [bnot_true, cnd_false]
  by_cases h1 : n.seq < 1
  · rw [cnd_t (ilt_t h1), cnd_t (ilt_t h1), w_some, if_pos (fun h => by omega)]
  rw [cnd_f (ilt_f h1)]
  by_cases h2 : 1000000000 < n.seq
  · rw [cnd_t (ilt_t h2), w_some, if_pos (fun h => by omega)]
  rw [cnd_f (ilt_f h2), if_neg (fun h => h ⟨hf, by omega, by omega⟩)]
  by_cases h3 : n.seq < x
  · rw [cnd_t (ilt_t h3), w_some, if_pos h3]
  rw [cnd_f (ilt_f h3), if_neg h3]
  have hx := hf.1
  have hx2 := hf.2.1
  have hl := hf.2.2.1
  have hwr : wr IntKind.i64 (iadd x 8) = x + 8 := wr_small (by simp only [iadd]; omega) (by simp only [iadd]; omega)
  have hwr1 : wr IntKind.i64 (iadd x 1) = x + 1 := wr_small (by simp only [iadd]; omega) (by simp only [iadd]; omega)
  rw [hwr]
  by_cases h4 : x + 8 < n.seq
  · rw [cnd_t (ilt_t h4), w_some, if_pos h4]
  rw [cnd_f (ilt_f h4), if_neg h4]
  by_cases h5 : n.seq = x
  · rw [cnd_t (by rw [ieq_T]; exact h5), if_pos h5, hwr1, e_row f.held (x + 1) hl (by omega) (by omega), ob_some]
    have hk := rowN_le f.held (x + 1)
    generalize rowN f.held (x + 1) = k at hk ⊢
    have c0 : band (ile 0 (len f.held)) (ile 0 (len f.held)) = true := band_t (ile_t (by simp only [len]; omega)) (ile_t (by simp only [len]; omega))
    have c1 : band (ile 0 (k : Int)) (ile (k : Int) (len f.held)) = true := band_t (ile_t (by omega)) (ile_t (by simp only [len]; omega))
    simp only [nol_nil]
    rw [cnd_t c0, cnd_t (by simp [lapp, len, ile, bor, band, ieq]), cnd_t c1, cnd_t (by simp only [lapp, len, ltake, itn, List.nil_append]; exact ile_t (by simp; omega)), cnd_t c1]
    rw [show F_slices_Clone_api_Note (ldrop f.held (itn (k : Int))) = some (ldrop f.held (itn (k : Int))) from nilq_clone (by simp [ldrop, itn]; omega), ob_some, w_some]
    simp [ldrop, ltake, lapp, itn]
  · rw [cnd_f (by rw [ieq_F]; exact h5), if_neg h5]
    refine Wq.bind (e_place (s := n.seq) hl hf.2.2.2 (by omega) (by omega) (by omega) (by omega)) ?_
    rintro ⟨r1, r2⟩ ⟨i, rfl, hi, g1, g2, g3⟩
    simp only at g3
    by_cases h6 : ∃ m ∈ f.held, m.seq = n.seq
    · rw [if_pos h6]
      obtain ⟨m, hm, hme⟩ := h6
      obtain ⟨j, hj, rfl⟩ := List.getElem_of_mem hm
      have hij : i = j := by
        rcases Nat.lt_trichotomy i j with h | h | h
        · have := heldP_lt hf.2.2.2 h hj
          have := g2 i (by omega) (Nat.le_refl _)
          omega
        · exact h
        · have := g1 j hj h; omega
      subst hij
      rw [cnd_f (by rw [bnot_F]; exact g3.2 ⟨hj, hme⟩), w_some]
    · rw [if_neg h6]
      have : r2 = false := by cases h : r2 with
        | false => rfl
        | true => obtain ⟨h7, h8⟩ := g3.1 h; exact absurd ⟨_, List.getElem_mem h7, h8⟩ h6
      subst this
      rw [bnot_false, cnd_true, show F_slices_Clone_api_Note f.held = some f.held from nilq_clone (by omega), ob_some]
      obtain ⟨e1, e2⟩ := split_at hi g1 g2 h6
      unfold F_slices_Insert_api_Note
      simp only
      rw [cnd_t (band_t (ile_t (by omega)) (band_t (ile_t (by simp only [len]; omega)) (ile_t (by simp only [len, iadd]; omega)))), ob_some, w_some, ← e1, ← e2]
      simp [lapp, ltake, ldrop, itn]
theorem heldP_row : ∀ (l : List SNote) (a x y : Int), heldP l a x → x ≤ y - 1 → (∀ m ∈ l, y ≤ m.seq) → heldP (l.drop (rowN l y)) (y + rowN l y) (y + rowN l y)
  | [], _, _, _, _, _, _ => by simp [rowN, heldP]
  | m :: r, a, x, y, h, hx, hall => by
    unfold rowN
    by_cases he : m.seq = y
    · rw [if_pos he]
      have h2 := heldP_row r m.seq x (y + 1) h.2.2 (by omega) (fun q hq => by have := (heldP_gt h.2.2 q hq).1; omega)
      rw [List.drop_succ_cons, show y + ((rowN r (y + 1) + 1 : Nat) : Int) = y + 1 + (rowN r (y + 1) : Int) by omega]
      exact h2
    · rw [if_neg he]
      simp only [List.drop_zero]
      have h1 := hall m (by simp)
      have h3 := h.2.1
      exact ⟨by omega, by omega, heldP_up h.2.2 (by omega)⟩
theorem heldP_ins : ∀ (l : List SNote) (a x : Int) (n : SNote), heldP l a x → a < n.seq → n.seq ≤ x + 8 → (∀ m ∈ l, m.seq ≠ n.seq) → heldP ((l.filter fun m => m.seq < n.seq) ++ n :: (l.filter fun m => n.seq < m.seq)) a x
  | [], _, _, _, _, h1, h2, _ => by simpa [heldP] using ⟨h1, h2⟩
  | m :: r, a, x, n, h, h1, h2, hn => by
    have hm := hn m (by simp)
    by_cases hlt : m.seq < n.seq
    · rw [List.filter_cons_of_pos (by simpa using hlt), List.filter_cons_of_neg (by simp; omega), List.cons_append]
      exact ⟨h.1, h.2.1, heldP_ins r m.seq x n h.2.2 hlt h2 (fun q hq => hn q (by simp [hq]))⟩
    · have hall : ∀ q ∈ m :: r, n.seq < q.seq := fun q hq => by
        rcases List.mem_cons.1 hq with rfl | hq
        · omega
        · have := (heldP_gt h.2.2 q hq).1; omega
      have e1 : (m :: r).filter (fun q => decide (q.seq < n.seq)) = [] := List.filter_eq_nil_iff.2 (fun q hq => by have := hall q hq; simp; omega)
      have e2 : (m :: r).filter (fun q => decide (n.seq < q.seq)) = m :: r := List.filter_eq_self.2 (fun q hq => by have := hall q hq; simpa using this)
      rw [e1, e2, List.nil_append]
      exact ⟨h1, h2, hall m (by simp), h.2.1, h.2.2⟩
/-- What comes of a note, if it goes well. -/
structure ComeQ (f : SFeed) (n : SNote) (x : Int) (r : SFeed × List SNote × Int) : Prop where
  held : heldP r.1.held (x + r.2.1.length) (x + r.2.1.length)
  len : r.1.held.length ≤ 8
  lo : 1 ≤ x
  hi : x ≤ 1000000001
  mem : ∀ m ∈ r.1.held, m ∈ f.held ∨ m = n
  mem2 : ∀ m ∈ r.2.1, m ∈ f.held ∨ m = n
  len2 : r.2.1.length ≤ 9
theorem come_ok {f : SFeed} {n : SNote} {x : Int} (h0 : (comeZ f n x).2.2 = 0) : ComeQ f n x (comeZ f n x) := by
  unfold comeZ at h0 ⊢
  split at h0
  · cases h0
  rename_i hf
  have hf := Classical.not_not.1 hf
  rw [if_neg (fun h => h hf)]
  obtain ⟨⟨f1, f2, f3, f4⟩, k1, k2⟩ := hf
  have same : ∀ g : Bool, ComeQ f n x (⟨f.held, g⟩, [], 0) := fun g => ⟨by simpa using f4, f3, f1, f2, fun m hm => .inl hm, fun m hm => (by simp at hm), by simp⟩
  by_cases h3 : n.seq < x
  · rw [if_pos h3]; exact same f.gap
  rw [if_neg h3]
  by_cases h4 : x + 8 < n.seq
  · rw [if_pos h4]; exact same true
  rw [if_neg h4]
  by_cases h5 : n.seq = x
  · rw [if_pos h5]
    have hk := rowN_le f.held (x + 1)
    have h2 := heldP_row f.held x x (x + 1) f4 (by omega) (fun m hm => by have := (heldP_gt f4 m hm).1; omega)
    have hl : (n :: f.held.take (rowN f.held (x + 1))).length = rowN f.held (x + 1) + 1 := by simp; omega
    refine ⟨?_, ?_, f1, f2, fun m hm => .inl (List.mem_of_mem_drop hm), fun m hm => ?_, ?_⟩
    · show heldP (f.held.drop _) _ _
      simp only [hl]
      rw [show x + ((rowN f.held (x + 1) + 1 : Nat) : Int) = x + 1 + (rowN f.held (x + 1) : Int) by omega]
      exact h2
    · show (f.held.drop _).length ≤ 8
      simp; omega
    · rcases List.mem_cons.1 hm with rfl | hm
      · exact .inr rfl
      · exact .inl (List.mem_of_mem_take hm)
    · show (n :: f.held.take _).length ≤ 9
      rw [hl]; omega
  rw [if_neg h5]
  split
  · exact same f.gap
  · rename_i h6
    have h7 := heldP_ins f.held x x n f4 (by omega) (by omega) (fun m hm e => h6 ⟨m, hm, e⟩)
    refine ⟨by simpa using h7, ?_, f1, f2, fun m hm => ?_, fun m hm => (by simp at hm), by simp⟩
    · have := heldP_len h7 (by omega)
      show ((f.held.filter fun m => m.seq < n.seq) ++ n :: (f.held.filter fun m => n.seq < m.seq)).length ≤ 8
      omega
    · rcases List.mem_append.1 hm with hm | hm
      · exact .inl (List.mem_filter.1 hm).1
      · rcases List.mem_cons.1 hm with rfl | hm
        · exact .inr rfl
        · exact .inl (List.mem_filter.1 hm).1
theorem s_held (p : SPlain) (hl : p.feed.held.length < 999999) : Wq (iterN (fun v : Int × Bool => L_plain_Right_26 (len p.feed.held) p.feed.held v.fst v.snd) LF (0, false)) fun w => match w with
    | .inl b => b = false ∧ ¬ ∀ n ∈ p.feed.held, recP (noteR n)
    | .inr _ => ∀ n ∈ p.feed.held, recP (noteR n) := by
  refine w_for (n := p.feed.held.length) hl (fun i _ => ∀ n ∈ p.feed.held.take i, recP (noteR n)) _ (fun i q hi hj => ?_) (fun q hj => ?_) _ 0 (Nat.zero_le _) (fun n hn => by simp at hn)
  · simp only [L_plain_Right_26]
    rw [cnd_t (by rw [ilt_nat]; simpa using hi), cnd_t (inb p.feed.held i hi), lget_nat _ i hi, show F_rec_OfNote p.feed.held[i] = some (noteR p.feed.held[i]) from rfl, ob_some]
    refine (s_rec_Right _).bind fun b hb => ?_
    rw [w_cnd, w_some, w_some]
    refine ⟨fun h => ⟨rfl, fun g => ?_⟩, fun h => ⟨wr_succ (by omega), fun n hn => ?_⟩⟩
    · rw [bnot_T] at h; subst h
      have := hb.2 (g _ (List.getElem_mem hi)); cases this
    · rw [bnot_F] at h
      rcases (mem_take_succ hi).1 hn with h1 | rfl
      · exact hj n h1
      · exact hb.1 h
  · simp only [L_plain_Right_26]
    rw [cnd_f (by rw [show ((p.feed.held.length : Nat) : Int) = len p.feed.held from rfl]; simp [ilt]), w_some]
    rw [List.take_length] at hj
    exact hj
theorem s_plain_Right (p : SPlain) (hr : Ok_state p.state) (hs : shortP p.state) (h1 : p.feed.held.length < 999999) (h2 : p.outbox.length < 999999) : Wq (F_plain_Right p) fun b => b = true ↔ plainP p := by
  unfold F_plain_Right plainP
  refine Wq.bind (s_held p h1) fun w hw => ?_
  match w, hw with
  | .inl b, h => simp only [sumK, w_some]; simp [h.1]; intro g; exact absurd g h.2
  | .inr _, hh =>
  simp only [sumK]
  refine (s_book_Right p.state hr hs.1 hs.2.2.1 hs.2.2.2).bind fun b hb => ?_
  cases hbb : b with
  | false =>
    have : ¬ RightS p.state := fun h => by rw [hb.2 h] at hbb; cases hbb
    refine (w_some false).2 ?_
    simp [this]
  | true =>
    have hR := hb.1 hbb
    rw [cnd_true]
    refine (s_outbox p.outbox 0 p.state.lsn h2).bind fun c hc => ?_
    cases hcc : c with
    | false =>
      have : ¬ outP p.outbox 0 p.state.lsn := fun h => by rw [hc.2 h] at hcc; cases hcc
      refine (w_some false).2 ?_
      simp [this]
    | true =>
      have hO := hc.1 hcc
      have hq := hR.fine.seq
      have hw : wr IntKind.i64 (iadd p.state.seq 1) = p.state.seq + 1 := wr_small (by simp only [iadd]; omega) (by simp only [iadd]; omega)
      rw [cnd_t (by rfl), hw]
      refine (s_feed_Right p.feed _).bind fun d hd => ?_
      rw [w_some]
      simp only [band_T, true_and]
      rw [hd]
      exact ⟨fun h => ⟨hh, hR, hO, h⟩, fun h => h.2.2.2⟩
theorem ok_noteR {n : SNote} (h : Ok_note n) : Ok_recd (noteR n) := by
  obtain ⟨h1, h2, h3, h4, h5⟩ := h
  constructor <;> first | assumption | (show inI _; unfold inI; simp [noteR])
theorem outP_mono {l : List SMsg} {a b z : Int} (h : outP l a z) (hb : b ≤ a) : outP l b z := by
  cases l with
  | nil => trivial
  | cons m r => exact ⟨h.1, by have := h.2.1; omega, h.2.2⟩
/-- A plain gate that is right, whose messages go above a number. -/
structure PJ (p : SPlain) (last : Int) (k : Nat) : Prop where
  st : Ok_state p.state
  sh : shortP p.state
  ok : ∀ n ∈ p.feed.held, Ok_note n
  held : ∀ n ∈ p.feed.held, recP (noteR n)
  R : RightS p.state
  feed : feedP p.feed (p.state.seq + 1)
  out : outP p.outbox last p.state.lsn
  la : 0 ≤ last ∧ last ≤ p.state.lsn
  ol : p.outbox.length ≤ k
theorem PJ.P {p : SPlain} {last : Int} {k : Nat} (h : PJ p last k) : plainP p := ⟨h.held, h.R, outP_mono h.out h.la.1, h.feed⟩
theorem PJ.right {p : SPlain} {last : Int} {k : Nat} (h : PJ p last k) (hk : k < 999999) : F_plain_Right p = some true := by
  obtain ⟨b, hb, hq⟩ := s_plain_Right p h.st h.sh (by have := h.feed.2.2.1; omega) (by have := h.ol; omega)
  rw [hb, hq.2 h.P]
theorem e_contains (l : List Int) (x : Int) (hl : l.length < 999999) : F_slices_Contains_int l x = some (decide (x ∈ l)) := by
  refine Wq.dec ?_
  unfold F_slices_Contains_int F_slices_Index_int
  refine Wq.bind (Q := fun w : Int => (0 ≤ w) ↔ x ∈ l) (Wq.bind (Q := fun w : Int ⊕ Int => match w with | .inl b => 0 ≤ b ∧ x ∈ l | .inr _ => x ∉ l)
    (w_for (n := l.length) (step := fun v : Int × Int => L_slices_Index_int_26 (len l) l x v.fst v.snd) hl (fun i _ => x ∉ l.take i) _ ?_ ?_ _ 0 (Nat.zero_le _) (by simp)) ?_) ?_
  · rintro i q hi hj
    simp only [L_slices_Index_int_26]
    rw [cnd_t (by rw [ilt_nat]; simpa using hi), cnd_t (inb l i hi), lget_nat l i hi]
    simp only [w_bind, w_cnd, w_some, band_T, band_F, bor_T, bor_F, bnot_T, bnot_F, ilt_T, ilt_F, ile_T, ile_F, ieq_T, ieq_F, beq_T, beq_F, true_implies, ne_eq, not_true_eq_false, false_implies, and_true, true_and, or_self, reduceCtorEq]
    refine ⟨fun h => ⟨by omega, h ▸ List.getElem_mem hi⟩, fun h => ⟨wr_succ (by omega), fun g => ?_⟩⟩
    rcases (mem_take_succ hi).1 g with g | g
    · exact hj g
    · exact h g
  · rintro q hj
    simp only [L_slices_Index_int_26]
    rw [cnd_f (by rw [show ((l.length : Nat) : Int) = len l from rfl]; simp [ilt]), w_some]
    rw [List.take_length] at hj
    exact hj
  · intro w hw
    match w, hw with
    | .inl b, h => simp only [sumK, w_some]; exact ⟨fun _ => h.2, fun _ => h.1⟩
    | .inr _, h => simp only [sumK, w_some]; exact ⟨fun g => by omega, fun g => absurd g h⟩
  · intro w hw
    rw [w_some, ile_T]; exact hw
theorem ask_orders {s t : SState} {a y : Int} (h : (askS s t a y).2 = 0) : (askS s t a y).1.orders = t.orders := by
  unfold askS at h ⊢
  by_cases h1 : fitS t
  · rw [if_neg (fun g => g h1)] at h ⊢
    by_cases h2 : stopP s t a y
    · rw [if_pos h2] at h; simp at h
    · rw [if_neg h2]
  · rw [if_pos h1] at h; simp at h
theorem asked_in {s : SState} {r : SRec} (h0 : (doS s r).2 = 0) (hk : r.kind = 1 ∨ r.kind = 2 ∨ r.kind = 3) :
    ∃ o ∈ (doS s r).1.orders, o.id = r.order ∧ (r.kind = 2 → 1 ≤ o.newQty ∧ 1 ≤ o.newPrice ∧ 1 ≤ o.version) := by
  have hm := ((doS_q s r).good h0).1
  have hrec := hm.2.1
  have hords := hm.1.fine.ords
  unfold doS at h0 ⊢
  rw [if_neg (fun g => g hm)] at h0 ⊢
  rcases hk with hk | hk | hk
  · rw [if_pos hk] at h0 ⊢
    by_cases h1 : s.kill = true
    · rw [if_pos h1] at h0; simp at h0
    rw [if_neg h1] at h0 ⊢
    by_cases h2 : s.orders.length = 64
    · rw [if_pos h2] at h0; simp at h0
    rw [if_neg h2] at h0 ⊢
    rw [ask_orders h0]
    exact ⟨beginZ r, by simp [lapp], rfl, fun h => by omega⟩
  · rw [if_neg (by omega), if_pos hk] at h0 ⊢
    cases hf : findZ s.orders r.order with
    | none => rw [hf] at h0; simp at h0
    | some k =>
      rw [hf] at h0
      simp only at h0 ⊢
      obtain ⟨hkl, hid⟩ := findZ_some hf
      have hg : lget s.orders k = s.orders[k] := by simp [lget, hkl]
      by_cases h1 : changeP (lget s.orders k)
      · rw [if_neg (fun g => g h1)] at h0 ⊢
        by_cases h2 : s.kill = true
        · rw [if_pos h2] at h0; simp at h0
        rw [if_neg h2] at h0 ⊢
        rw [ask_orders h0]
        refine ⟨changeZ (lget s.orders k) r.qty r.price, ?_, ?_, fun _ => ?_⟩
        · show _ ∈ lset s.orders k _
          exact List.mem_set hkl _
        · rw [hg]; exact hid
        · have hv := (hords s.orders[k] (List.getElem_mem hkl)).1.2.2.2.1
          rw [hg]
          unfold recP at hrec
          refine ⟨?_, ?_, ?_⟩
          · show 1 ≤ r.qty; omega
          · show 1 ≤ r.price; omega
          · show 1 ≤ s.orders[k].version + 1; omega
      · rw [if_pos h1] at h0; simp at h0
  · rw [if_neg (by omega), if_neg (by omega), if_pos hk] at h0 ⊢
    cases hf : findZ s.orders r.order with
    | none => rw [hf] at h0; simp at h0
    | some k =>
      rw [hf] at h0
      simp only at h0 ⊢
      obtain ⟨hkl, hid⟩ := findZ_some hf
      have hg : lget s.orders k = s.orders[k] := by simp [lget, hkl]
      by_cases h1 : (lget s.orders k).asked = true
      · rw [if_pos h1] at h0; simp at h0
      rw [if_neg h1]
      refine ⟨endZ (lget s.orders k), ?_, ?_, fun h => by omega⟩
      · show _ ∈ lset s.orders k _
        exact List.mem_set hkl _
      · rw [hg]; exact hid
def chn : List SMsg → Option Int → Prop
  | [], _ => True
  | m :: r, o => msgP m ∧ (∀ q, o = some q → q < m.lsn) ∧ chn r (some m.lsn)
theorem out_chn : ∀ (l : List SMsg) (a z : Int), outP l a z ↔ chn l (some a) ∧ (∀ m, l.getLast? = some m → m.lsn ≤ z)
  | [], a, z => by simp [outP, chn]
  | [m], a, z => by simp [outP, chn]; grind
  | m :: n :: r, a, z => by
    have ih := out_chn (n :: r) m.lsn z
    rw [show outP (m :: n :: r) a z ↔ msgP m ∧ a < m.lsn ∧ m.lsn ≤ z ∧ outP (n :: r) m.lsn z from Iff.rfl, ih,
      show chn (m :: n :: r) (some a) ↔ msgP m ∧ (∀ q, some a = some q → q < m.lsn) ∧ chn (n :: r) (some m.lsn) from Iff.rfl, List.getLast?_cons_cons]
    constructor
    · rintro ⟨h1, h2, h3, h4, h5⟩
      exact ⟨⟨h1, fun q hq => by cases hq; exact h2, h4⟩, h5⟩
    · rintro ⟨⟨h1, h2, h4⟩, h5⟩
      have ho := ih.2 ⟨h4, h5⟩
      have : m.lsn < n.lsn ∧ n.lsn ≤ z := ⟨ho.2.1, ho.2.2.1⟩
      exact ⟨h1, h2 a rfl, by omega, h4, h5⟩
theorem chn_some {l : List SMsg} {a : Int} : chn l (some a) ↔ chn l none ∧ (∀ h : 0 < l.length, a < l[0].lsn) := by
  cases l with
  | nil => simp [chn]
  | cons m r =>
    simp only [chn]
    constructor
    · rintro ⟨h1, h2, h3⟩; exact ⟨⟨h1, (fun q hq => (by cases hq)), h3⟩, fun _ => h2 a rfl⟩
    · rintro ⟨⟨h1, _, h3⟩, h2⟩; exact ⟨h1, (fun q hq => (by cases hq; exact h2 (by simp))), h3⟩
def pv (l : List SMsg) : Nat → Option Int
  | 0 => none
  | j + 1 => (l[j]?).map (·.lsn)
theorem r_outbox (l : List SMsg) (a z : Int) (hl : l.length < 999999) : Wq (F_snaffleref18_Right l a z) fun b => b = true ↔ outP l a z := by
  unfold F_snaffleref18_Right
  refine Wq.bind (Q := fun w : Bool ⊕ Bool => match w with | .inl b => b = false ∧ ¬ chn l none | .inr _ => chn l none)
    (w_for (n := l.length) (step := fun v : Int × Bool => L_snaffleref18_Right_26 l v.fst v.snd) hl (fun i x => chn l none ↔ chn (l.drop i) (pv l i)) _ ?_ ?_ _ 0 (Nat.zero_le _) (by simp [pv])) ?_
  · rintro i q hi hj
    have hj2 : chn l none ↔ msgP l[i] ∧ (∀ q, pv l i = some q → q < l[i].lsn) ∧ chn (l.drop (i + 1)) (pv l (i + 1)) := by
      rw [hj, List.drop_eq_getElem_cons hi]
      simp only [chn, pv, List.getElem?_eq_getElem hi, Option.map_some]
    have hw : 0 < i → wr IntKind.i64 (isub (i : Int) 1) = ((i - 1 : Nat) : Int) := fun h => by
      rw [wr_small (by simp only [isub]; omega) (by simp only [isub]; omega)]; simp only [isub]; omega
    have hp : 0 < i → pv l i = some (l[i - 1]'(by omega)).lsn := fun h => by
      obtain ⟨j, rfl⟩ : ∃ j, i = j + 1 := ⟨i - 1, by omega⟩
      simp [pv, List.getElem?_eq_getElem (show j < l.length by omega)]
    simp only [L_snaffleref18_Right_26]
    have c1 : band (ile 0 (i : Int)) (ilt (i : Int) (len l)) = true := inb l i hi
    rw [cnd_t (by rw [ilt_nat]; simpa using hi), cnd_t c1, lget_nat l i hi, r_msg, ob_some, cnd_t (by rw [bor_T]; exact .inl c1)]
    by_cases h0 : 0 < i
    · have c2 : band (ile 0 ((i - 1 : Nat) : Int)) (ilt ((i - 1 : Nat) : Int) (len l)) = true := inb l (i - 1) (by omega)
      rw [hw h0, cnd_t (by rw [bor_T]; exact .inl c2), lget_nat l (i - 1) (by omega)]
      simp only [w_bind, w_cnd, w_some, band_T, band_F, bor_T, bor_F, bnot_T, bnot_F, ilt_T, ilt_F, ile_T, ile_F, ieq_T, ieq_F, beq_T, beq_F, true_implies, ne_eq, not_true_eq_false, false_implies, and_true, true_and, or_self, reduceCtorEq]
      rw [hj2, hp h0]
      refine ⟨fun h => ?_, fun h => ⟨wr_succ (by omega), ?_⟩⟩
      · rintro ⟨g1, g2, _⟩
        have := g2 _ rfl
        rcases h with h | h
        · simp [g1] at h
        · omega
      · have g1 : msgP l[i] := by simpa using h.1
        refine ⟨fun g => g.2.2, fun g => ⟨g1, fun q hq => ?_, g⟩⟩
        cases hq
        rcases h.2 with h2 | h2 <;> omega
    · have hz : i = 0 := by omega
      subst hz
      rw [cnd_t (by simp [bor, band, bnot, ilt])]
      simp only [w_bind, w_cnd, w_some, band_T, band_F, bor_T, bor_F, bnot_T, bnot_F, ilt_T, ilt_F, ile_T, ile_F, ieq_T, ieq_F, beq_T, beq_F, true_implies, ne_eq, not_true_eq_false, false_implies, and_true, true_and, or_self, reduceCtorEq]
      rw [hj2]
      refine ⟨fun h => ?_, fun h => ⟨wr_succ (by omega), ?_⟩⟩
      · rintro ⟨g1, _, _⟩
        rcases h with h | h
        · simp [g1] at h
        · omega
      · have g1 : msgP l[0] := by simpa using h.1
        exact ⟨fun g => g.2.2, fun g => ⟨g1, fun q hq => by simp [pv] at hq, g⟩⟩
  · rintro q hj
    simp only [L_snaffleref18_Right_26]
    rw [cnd_f (by rw [show ((l.length : Nat) : Int) = len l from rfl]; simp [ilt]), w_some]
    rw [List.drop_length] at hj
    exact hj.2 trivial
  · intro w hw
    match w, hw with
    | .inl b, h =>
      simp only [sumK, w_some]
      rw [h.1, out_chn, chn_some]
      simp [h.2]
    | .inr _, h =>
      simp only [sumK]
      cases l with
      | nil => exact (w_some _).2 (by simp [outP, bor, ieq, len])
      | cons m r =>
        have hlen : (wr IntKind.i64 (isub (len (m :: r)) 1)) = ((r.length : Nat) : Int) := by
          rw [wr_small (by simp only [isub, len, List.length_cons]; omega) (by simp only [isub, len]; omega)]; simp [isub, len]
        have c2 : band (ile 0 ((r.length : Nat) : Int)) (ilt ((r.length : Nat) : Int) (len (m :: r))) = true := inb (m :: r) r.length (by simp)
        rw [cnd_t (by rw [bor_T, ilt_T]; left; simp only [len, List.length_cons]; omega), hlen, cnd_t (by rw [bor_T]; exact .inl c2), w_some, out_chn, chn_some, lget_nat (m :: r) r.length (by simp)]
        have hg : (m :: r).getLast? = some ((m :: r)[r.length]'(by simp)) := by rw [List.getLast?_eq_getElem?]; simp
        rw [hg]
        have hm0 : lget (m :: r) 0 = m := by simp [lget]
        rw [hm0]
        simp only [band_T, band_F, bor_T, bor_F, bnot_T, bnot_F, ilt_T, ilt_F, ile_T, ile_F, ieq_T, ieq_F, beq_T, beq_F, len]
        constructor
        · rintro (g | ⟨g1, g2⟩)
          · simp at g; omega
          · exact ⟨⟨h, fun _ => g1⟩, fun x hx => by cases hx; exact g2⟩
        · rintro ⟨⟨_, g1⟩, g2⟩
          exact .inr ⟨g1 (by simp), g2 _ rfl⟩
def pvs (l : List SNote) (x : Int) : Nat → Int
  | 0 => x
  | j + 1 => match l[j]? with | some n => n.seq | none => x
theorem r_feed_Right (f : SFeed) (x : Int) (hok : ∀ n ∈ f.held, inI n.seq) : Wq (F_snaffleref17_Right f x) fun b => b = true ↔ feedP f x := by
  unfold F_snaffleref17_Right feedP
  rw [w_cnd]
  refine ⟨fun h => (w_some _).2 ?_, fun h => ?_⟩
  · simp only [band_T, band_F, bor_T, bor_F, bnot_T, bnot_F, ilt_T, ilt_F, ile_T, ile_F, ieq_T, ieq_F, beq_T, beq_F, len] at h
    constructor
    · intro g; cases g
    · intro g; omega
  simp only [band_T, band_F, bor_T, bor_F, bnot_T, bnot_F, ilt_T, ilt_F, ile_T, ile_F, ieq_T, ieq_F, beq_T, beq_F, len] at h
  have hl : f.held.length ≤ 8 := by omega
  refine Wq.bind (Q := fun w : Bool ⊕ Bool => match w with | .inl b => b = false ∧ ¬ heldP f.held x x | .inr _ => heldP f.held x x)
    (w_for (n := f.held.length) (step := fun v : Int × Bool => L_snaffleref17_Right_58 x f v.fst v.snd) (by omega) (fun i y => (heldP f.held x x ↔ heldP (f.held.drop i) (pvs f.held x i) x) ∧ x ≤ pvs f.held x i) _ ?_ ?_ _ 0 (Nat.zero_le _) (by simp [pvs])) ?_
  · rintro i q hi ⟨hj, hx⟩
    have hs := hok _ (List.getElem_mem hi)
    rw [heldP_drop hi] at hj
    have hnext : pvs f.held x (i + 1) = f.held[i].seq := by simp [pvs, List.getElem?_eq_getElem hi]
    have hp : 0 < i → ∃ h : i - 1 < f.held.length, pvs f.held x i = f.held[i - 1].seq := fun h => by
      obtain ⟨j, rfl⟩ : ∃ j, i = j + 1 := ⟨i - 1, by omega⟩
      exact ⟨by omega, by simp [pvs, List.getElem?_eq_getElem (show j < f.held.length by omega)]⟩
    have hw : 0 < i → wr IntKind.i64 (isub (i : Int) 1) = ((i - 1 : Nat) : Int) := fun h => by
      rw [wr_small (by simp only [isub]; omega) (by simp only [isub]; omega)]; simp only [isub]; omega
    have hw8 : x < f.held[i].seq → wr IntKind.i64 (isub f.held[i].seq 8) = f.held[i].seq - 8 := fun h => wr_in ⟨by simp only [isub]; have := hs.1; omega, by simp only [isub]; have := hs.2; omega⟩
    have c1 := inb f.held i hi
    simp only [L_snaffleref17_Right_58]
    rw [cnd_t (by rw [ilt_nat]; simpa using hi), cnd_t c1, lget_nat f.held i hi]
    by_cases h0 : 0 < i
    · obtain ⟨h1, h2⟩ := hp h0
      rw [hw h0, cnd_t (by rw [bor_T]; exact .inl (inb f.held (i - 1) h1)), lget_nat f.held (i - 1) h1, hj, hnext, h2]
      rw [h2] at hx
      by_cases hxs : x < f.held[i].seq
      · rw [hw8 hxs]
        simp only [w_bind, w_cnd, w_some, band_T, band_F, bor_T, bor_F, bnot_T, bnot_F, ilt_T, ilt_F, ile_T, ile_F, ieq_T, ieq_F, beq_T, beq_F, true_implies, ne_eq, not_true_eq_false, false_implies, and_true, true_and, or_self, reduceCtorEq]
        refine ⟨fun h => ?_, fun h => ⟨wr_succ (by omega), ⟨fun g => g.2.2, fun g => ⟨by omega, by omega, g⟩⟩, by omega⟩⟩
        rintro ⟨g1, g2, _⟩
        omega
      · simp only [w_bind, w_cnd, w_some, band_T, band_F, bor_T, bor_F, bnot_T, bnot_F, ilt_T, ilt_F, ile_T, ile_F, ieq_T, ieq_F, beq_T, beq_F, true_implies, ne_eq, not_true_eq_false, false_implies, and_true, true_and, or_self, reduceCtorEq]
        refine ⟨fun h => ?_, fun h => by omega⟩
        rintro ⟨g1, g2, _⟩
        omega
    · have hz : i = 0 := by omega
      subst hz
      rw [cnd_t (by simp [bor, band, bnot, ilt]), hj, hnext]
      by_cases hxs : x < f.held[0].seq
      · rw [hw8 hxs]
        simp only [w_bind, w_cnd, w_some, band_T, band_F, bor_T, bor_F, bnot_T, bnot_F, ilt_T, ilt_F, ile_T, ile_F, ieq_T, ieq_F, beq_T, beq_F, true_implies, ne_eq, not_true_eq_false, false_implies, and_true, true_and, or_self, reduceCtorEq]
        refine ⟨fun h => ?_, fun h => ⟨wr_succ (by omega), ⟨fun g => g.2.2, fun g => ⟨hxs, by omega, g⟩⟩, by omega⟩⟩
        rintro ⟨g1, g2, _⟩
        omega
      · simp only [w_bind, w_cnd, w_some, band_T, band_F, bor_T, bor_F, bnot_T, bnot_F, ilt_T, ilt_F, ile_T, ile_F, ieq_T, ieq_F, beq_T, beq_F, true_implies, ne_eq, not_true_eq_false, false_implies, and_true, true_and, or_self, reduceCtorEq]
        refine ⟨fun h => ?_, fun h => by omega⟩
        rintro ⟨g1, g2, _⟩
        have : pvs f.held x 0 = x := rfl
        omega
  · rintro q ⟨hj, _⟩
    simp only [L_snaffleref17_Right_58]
    rw [cnd_f (by rw [show ((f.held.length : Nat) : Int) = len f.held from rfl]; simp [ilt]), w_some]
    rw [List.drop_length] at hj
    exact hj.2 trivial
  · intro w hw
    match w, hw with
    | .inl b, h => simp only [sumK, w_some]; simp [h.1, h.2]
    | .inr _, h =>
      simp only [sumK, w_some]
      simp only [true_iff]
      exact ⟨by omega, by omega, hl, h⟩
theorem r_plain_Right (p : SPlain) (hr : Ok_state p.state) (hs : shortP p.state) (h1 : p.feed.held.length < 999999) (h2 : p.outbox.length < 999999) (hok : ∀ n ∈ p.feed.held, inI n.seq) : Wq (F_snaffleref21_Right p) fun b => b = true ↔ plainP p := by
  unfold F_snaffleref21_Right plainP
  refine (r_Right hr hs).bind fun b hb => ?_
  cases hbb : b with
  | false =>
    have : ¬ RightS p.state := fun h => by rw [hb.2 h] at hbb; cases hbb
    refine (w_some false).2 ?_
    simp [this]
  | true =>
  have hR := hb.1 hbb
  rw [bnot_true, bnot_false, cnd_true]
  refine (r_outbox p.outbox 0 p.state.lsn h2).bind fun c hc => ?_
  cases hcc : c with
  | false =>
    have : ¬ outP p.outbox 0 p.state.lsn := fun h => by rw [hc.2 h] at hcc; cases hcc
    refine (w_some false).2 ?_
    simp [this]
  | true =>
  have hO := hc.1 hcc
  have hq := hR.fine.seq
  have hw : wr IntKind.i64 (iadd p.state.seq 1) = p.state.seq + 1 := wr_small (by simp only [iadd]; omega) (by simp only [iadd]; omega)
  rw [cnd_t (by rfl), hw]
  refine (r_feed_Right p.feed _ hok).bind fun d hd => ?_
  cases hdd : d with
  | false =>
    have : ¬ feedP p.feed (p.state.seq + 1) := fun h => by rw [hd.2 h] at hdd; cases hdd
    refine (w_some false).2 ?_
    simp [this]
  | true =>
  have hF := hd.1 hdd
  rw [cnd_f (by rfl)]
  refine Wq.bind (Q := fun w : Bool ⊕ Bool => match w with | .inl b => b = false ∧ ¬ ∀ n ∈ p.feed.held, recP (noteR n) | .inr _ => ∀ n ∈ p.feed.held, recP (noteR n))
    (w_for (n := p.feed.held.length) (step := fun v : Int × Bool => L_snaffleref21_Right_58 p v.fst v.snd) h1 (fun i _ => ∀ n ∈ p.feed.held.take i, recP (noteR n)) _ (fun i q hi hj => ?_) (fun q hj => ?_) _ 0 (Nat.zero_le _) (fun n hn => by simp at hn)) fun w hw => ?_
  · simp only [L_snaffleref21_Right_58]
    rw [cnd_t (by rw [ilt_nat]; simpa using hi), cnd_t (inb p.feed.held i hi), lget_nat _ i hi, show F_snaffleref16_OfNote p.feed.held[i] = some (noteR p.feed.held[i]) from rfl, ob_some]
    refine (r_rec_Right _).bind fun b hb => ?_
    rw [w_cnd, w_some, w_some]
    refine ⟨fun h => ⟨rfl, fun g => ?_⟩, fun h => ⟨wr_succ (by omega), fun n hn => ?_⟩⟩
    · rw [bnot_T] at h; subst h
      have := hb.2 (g _ (List.getElem_mem hi)); cases this
    · rw [bnot_F] at h
      rcases (mem_take_succ hi).1 hn with h1 | rfl
      · exact hj n h1
      · exact hb.1 h
  · simp only [L_snaffleref21_Right_58]
    rw [cnd_f (by rw [show ((p.feed.held.length : Nat) : Int) = len p.feed.held from rfl]; simp [ilt]), w_some]
    rw [List.take_length] at hj
    exact hj
  · match w, hw with
    | .inl b, h => simp only [sumK, w_some]; simp [h.1]; intro g; exact absurd g h.2
    | .inr _, h => simp only [sumK, w_some]; exact ⟨fun _ => ⟨h, hR, hO, hF⟩, fun _ => trivial⟩
/-- The reference's message is the program's. -/
theorem r_Of (k : Int) (o : SOrder) (z : Int) : F_snaffleref18_Of k o z = F_outbox_Of k o z := by
  unfold F_snaffleref18_Of F_outbox_Of
  simp only [c_ieq, r_order_Right, e_order_Right, ob_some, r_msg, e_msg]
  by_cases h1 : k = 1 <;> by_cases h2 : k = 2 <;> simp only [h1, h2, if_true, if_false] <;> (try omega) <;>
    by_cases h3 : ordP o <;> simp [h3, cnd, bnot, band, bor, ob_some] <;> split <;> simp_all
theorem rowN_spec : ∀ (l : List SNote) (y : Int), (∀ (j : Nat) (h : j < l.length), j < rowN l y → l[j].seq = y + j) ∧ (∀ h : rowN l y < l.length, l[rowN l y].seq ≠ y + rowN l y)
  | [], y => ⟨fun j h => by simp at h, fun h => by simp at h⟩
  | n :: r, y => by
    obtain ⟨h1, h2⟩ := rowN_spec r (y + 1)
    by_cases he : n.seq = y
    · have hr : rowN (n :: r) y = rowN r (y + 1) + 1 := by simp [rowN, he]
      rw [hr]
      refine ⟨fun j h hj => ?_, fun h => ?_⟩
      · cases j with
        | zero => simp [he]
        | succ j => simp only [List.getElem_cons_succ]; rw [h1 j (by simpa using h) (by omega)]; omega
      · have := h2 (by simpa using h)
        simp only [List.getElem_cons_succ]; omega
    · have hr : rowN (n :: r) y = 0 := by simp [rowN, he]
      refine ⟨fun j h hj => by omega, fun h => ?_⟩
      simp only [hr]; simpa using he
theorem take_snoc {α : Type} {l : List α} {i : Nat} (h : i < l.length) : l.take (i + 1) = l.take i ++ [l[i]] := by rw [List.take_succ_eq_append_getElem h]
theorem r_ready (f : SFeed) (n : SNote) (x : Int) (hl : f.held.length ≤ 8) (hx : 1 ≤ x ∧ x ≤ 1000000001) :
    iterN (fun v : Int × List SNote × List SNote => L_snaffleref17_Come_8106 x f v.fst v.snd.fst v.snd.snd) LF (0, [n], []) = some (n :: f.held.take (rowN f.held (x + 1)), f.held.drop (rowN f.held (x + 1))) := by
  obtain ⟨s1, s2⟩ := rowN_spec f.held (x + 1)
  have hk := rowN_le f.held (x + 1)
  generalize rowN f.held (x + 1) = k at s1 s2 hk ⊢
  refine Wq.eq (w_for (n := f.held.length) (by omega) (fun i v => v.1 = n :: f.held.take (min i k) ∧ v.2 = (f.held.take i).drop k) _ (fun i v hi hj => ?_) (fun v hj => ?_) _ 0 (Nat.zero_le _) ⟨by simp, by simp⟩)
  · obtain ⟨v1, v2⟩ := v
    obtain ⟨rfl, rfl⟩ := hj
    have c1 := inb f.held i hi
    simp only [L_snaffleref17_Come_8106]
    rw [cnd_t (by rw [ilt_nat]; simpa using hi), cnd_t (by rw [bor_T]; exact .inl c1), lget_nat f.held i hi]
    have hlen : len (n :: f.held.take (min i k)) = ((min i k + 1 : Nat) : Int) := by simp [len]; omega
    have hw : wr IntKind.i64 (iadd x (len (n :: f.held.take (min i k)))) = x + ((min i k + 1 : Nat) : Int) := by
      rw [hlen]; exact wr_small (by simp only [iadd]; omega) (by simp only [iadd]; omega)
    have hl2 : len ((f.held.take i).drop k) = ((i - k : Nat) : Int) := by simp [len]; omega
    rw [hw]
    by_cases hik : i < k
    · have hs := s1 i hi hik
      rw [cnd_t (by rw [band_T, ieq_T, ieq_T, hl2, hs]; omega), cnd_t c1, cnd_t (by simp only [lapp, len]; exact ile_t (by simp; omega)), w_some]
      refine ⟨wr_succ (by omega), ?_, ?_⟩
      · show lapp _ _ = _
        simp only [lapp]
        rw [show min i k = i by omega, show min (i + 1) k = i + 1 by omega, take_snoc hi, List.cons_append]
      · show (f.held.take i).drop k = _
        rw [List.drop_eq_nil_of_le (by simp; omega), List.drop_eq_nil_of_le (by simp; omega)]
    · have hc : band (ieq (len ((f.held.take i).drop k)) 0) (ieq f.held[i].seq (x + ((min i k + 1 : Nat) : Int))) = false := by
        rw [band_F, ieq_F, ieq_F, hl2]
        by_cases hek : i = k
        · subst hek
          right
          have := s2 hi
          rw [Nat.min_self]; omega
        · left; omega
      rw [cnd_f hc, cnd_t c1, cnd_t (by simp only [lapp, len]; exact ile_t (by simp; omega)), w_some]
      refine ⟨wr_succ (by omega), ?_, ?_⟩
      · show n :: f.held.take (min i k) = _
        rw [show min i k = k by omega, show min (i + 1) k = k by omega]
      · show lapp _ _ = _
        simp only [lapp]
        rw [take_snoc hi, List.drop_append_of_le_length (by simp; omega)]
  · obtain ⟨v1, v2⟩ := v
    obtain ⟨rfl, rfl⟩ := hj
    simp only [L_snaffleref17_Come_8106]
    rw [cnd_f (by rw [show ((f.held.length : Nat) : Int) = len f.held from rfl]; simp [ilt]), w_some]
    rw [Nat.min_eq_right hk, List.take_length]
/-- The held notes with one more, as the reference puts it. -/
theorem r_putB (f : SFeed) (n : SNote) (hl : f.held.length ≤ 8) {c : Nat} (hc : c ≤ f.held.length) (g1 : ∀ (j : Nat) (h : j < f.held.length), j < c → f.held[j].seq < n.seq) (g2 : ∀ (j : Nat) (h : j < f.held.length), c ≤ j → n.seq < f.held[j].seq) :
    iterN (fun v : Int × Bool × List SNote => L_snaffleref17_Come_2042 n f v.fst v.snd.fst v.snd.snd) LF (0, false, []) = some (decide (c < f.held.length), if c < f.held.length then f.held.take c ++ n :: f.held.drop c else f.held) := by
  refine Wq.eq (w_for (n := f.held.length) (by omega) (fun i v => v.1 = decide (c < i) ∧ v.2 = if c < i then f.held.take c ++ n :: (f.held.take i).drop c else f.held.take i) _ (fun i v hi hj => ?_) (fun v hj => ?_) _ 0 (Nat.zero_le _) ⟨by simp, by simp⟩)
  · obtain ⟨v1, v2⟩ := v
    obtain ⟨rfl, rfl⟩ := hj
    have c1 := inb f.held i hi
    simp only [L_snaffleref17_Come_2042]
    rw [cnd_t (by rw [ilt_nat]; simpa using hi), cnd_t c1, lget_nat f.held i hi]
    by_cases hic : i < c
    · have hs := g1 i hi hic
      rw [cnd_f (by rw [ieq_F]; omega), cnd_t c1, cnd_f (by rw [band_F, ilt_F]; left; omega), cnd_t c1, if_neg (by omega), cnd_t (by simp only [lapp, len]; exact ile_t (by simp; omega)), w_some]
      refine ⟨wr_succ (by omega), ?_, ?_⟩
      · rw [Bool.eq_iff_iff]; simp; omega
      · rw [if_neg (by omega), take_snoc hi]; rfl
    · have hs := g2 i hi (by omega)
      rw [cnd_f (by rw [ieq_F]; omega), cnd_t c1]
      by_cases hec : i = c
      · subst hec
        rw [cnd_t (by rw [band_T, ilt_T, bnot_T]; exact ⟨hs, by simp⟩), if_neg (by omega), cnd_t (by simp only [lapp, len]; exact ile_t (by simp; omega)), cnd_t c1, cnd_t (by simp only [lapp, len]; exact ile_t (by simp; omega)), w_some]
        refine ⟨wr_succ (by omega), ?_, ?_⟩
        · simp
        · rw [if_pos (by omega), take_snoc hi, List.drop_append_of_le_length (by simp; omega)]
          simp [lapp, List.drop_eq_nil_of_le]
      · rw [cnd_f (by rw [band_F, bnot_F]; right; simp; omega), cnd_t c1, if_pos (by omega), cnd_t (by simp only [lapp, len]; exact ile_t (by simp; omega)), w_some]
        refine ⟨wr_succ (by omega), ?_, ?_⟩
        · rw [Bool.eq_iff_iff]; simp; omega
        · rw [if_pos (by omega), take_snoc hi, List.drop_append_of_le_length (by simp; omega)]
          simp [lapp]
  · obtain ⟨v1, v2⟩ := v
    obtain ⟨rfl, rfl⟩ := hj
    simp only [L_snaffleref17_Come_2042]
    rw [cnd_f (by rw [show ((f.held.length : Nat) : Int) = len f.held from rfl]; simp [ilt]), w_some]
    rw [List.take_length]
/-- .. where it is held already. -/
theorem r_putA (f : SFeed) (n : SNote) (hl : f.held.length ≤ 8) {c : Nat} (hc : c < f.held.length) (g0 : f.held[c].seq = n.seq) (g1 : ∀ (j : Nat) (h : j < f.held.length), j < c → f.held[j].seq < n.seq) (g2 : ∀ (j : Nat) (h : j < f.held.length), c < j → n.seq < f.held[j].seq) :
    iterN (fun v : Int × Bool × List SNote => L_snaffleref17_Come_2042 n f v.fst v.snd.fst v.snd.snd) LF (0, false, []) = some (true, f.held) := by
  refine Wq.eq (w_for (n := f.held.length) (by omega) (fun i v => v.1 = decide (c < i) ∧ v.2 = f.held.take i) _ (fun i v hi hj => ?_) (fun v hj => ?_) _ 0 (Nat.zero_le _) ⟨by simp, by simp⟩)
  · obtain ⟨v1, v2⟩ := v
    obtain ⟨rfl, rfl⟩ := hj
    have c1 := inb f.held i hi
    simp only [L_snaffleref17_Come_2042]
    rw [cnd_t (by rw [ilt_nat]; simpa using hi), cnd_t c1, lget_nat f.held i hi]
    have hcap : ile (len (lapp (f.held.take i) [f.held[i]])) 68719476736 = true := by simp only [lapp, len]; exact ile_t (by simp; omega)
    rcases Nat.lt_trichotomy i c with h | h | h
    · have hs := g1 i hi h
      rw [cnd_f (by rw [ieq_F]; omega), cnd_t c1, cnd_f (by rw [band_F, ilt_F]; left; omega), cnd_t c1, cnd_t hcap, w_some]
      exact ⟨wr_succ (by omega), by rw [Bool.eq_iff_iff]; simp; omega, by rw [take_snoc hi]; rfl⟩
    · subst h
      rw [cnd_t (by rw [ieq_T]; exact g0), cnd_t c1, cnd_f (by rw [band_F]; right; rfl), cnd_t c1, cnd_t hcap, w_some]
      exact ⟨wr_succ (by omega), by simp, by rw [take_snoc hi]; rfl⟩
    · have hs := g2 i hi h
      rw [cnd_f (by rw [ieq_F]; omega), cnd_t c1, cnd_f (by rw [band_F, bnot_F]; right; simpa using h), cnd_t c1, cnd_t hcap, w_some]
      exact ⟨wr_succ (by omega), by rw [Bool.eq_iff_iff]; simp; omega, by rw [take_snoc hi]; rfl⟩
  · obtain ⟨v1, v2⟩ := v
    obtain ⟨rfl, rfl⟩ := hj
    simp only [L_snaffleref17_Come_2042]
    rw [cnd_f (by rw [show ((f.held.length : Nat) : Int) = len f.held from rfl]; simp [ilt]), w_some]
    rw [List.take_length]; simpa using hc
theorem r_feed_Come (f : SFeed) (n : SNote) (x : Int) (hok : ∀ m ∈ f.held, inI m.seq) (hn : inI n.seq) : F_snaffleref17_Come f n x = some (comeZ f n x) := by
  refine Wq.eq ?_
  unfold F_snaffleref17_Come
  refine (r_feed_Right f x hok).bind fun b hb => ?_
  rw [w_cnd]
  refine ⟨fun h => (w_some _).2 ?_, fun h => ?_⟩
  · simp only [band_T, band_F, bor_T, bor_F, bnot_T, bnot_F, ilt_T, ilt_F, ile_T, ile_F, ieq_T, ieq_F, beq_T, beq_F] at h
    unfold comeZ
    rw [if_pos]
    rintro ⟨h1, h2, h3⟩
    have := hb.2 h1
    rcases h with (h | h) | h
    · rw [this] at h; cases h
    · omega
    · omega
  simp only [band_T, band_F, bor_T, bor_F, bnot_T, bnot_F, ilt_T, ilt_F, ile_T, ile_F, ieq_T, ieq_F, beq_T, beq_F] at h
  have hf := hb.1 h.1.1
  unfold comeZ
  rw [if_neg (fun g => g ⟨hf, by omega, by omega⟩)]
  by_cases h3 : n.seq < x
  · rw [cnd_t (ilt_t h3), w_some, if_pos h3]
  rw [cnd_f (ilt_f h3), if_neg h3]
  have hx := hf.1
  have hx2 := hf.2.1
  have hl := hf.2.2.1
  have hwr : wr IntKind.i64 (isub n.seq x) = n.seq - x := wr_in ⟨by simp only [isub]; omega, by simp only [isub]; omega⟩
  rw [hwr]
  by_cases h4 : x + 8 < n.seq
  · rw [cnd_t (ilt_t (by omega)), w_some, if_pos h4]
  rw [cnd_f (ilt_f (by omega)), if_neg h4]
  by_cases h5 : n.seq = x
  · rw [cnd_t (by rw [ieq_T]; exact h5), if_pos h5, r_ready f n x hl ⟨hx, hx2⟩, ob_some, w_some]
  rw [cnd_f (by rw [ieq_F]; exact h5), if_neg h5]
  obtain ⟨⟨r1, r2⟩, _, c, _, hc, g1, g2, g3⟩ := e_place (s := n.seq) hl hf.2.2.2 (by omega) (by omega) (by omega) (by omega)
  by_cases h6 : ∃ m ∈ f.held, m.seq = n.seq
  · rw [if_pos h6]
    obtain ⟨m, hm, hme⟩ := h6
    obtain ⟨j, hj, rfl⟩ := List.getElem_of_mem hm
    rw [r_putA f n hl hj hme (fun q hq hqj => by have := heldP_lt hf.2.2.2 hqj hj; omega) (fun q hq hqj => by have := heldP_lt hf.2.2.2 hqj hq; omega), ob_some, bnot_true, cnd_false, w_some]
  · rw [if_neg h6]
    obtain ⟨e1, e2⟩ := split_at hc g1 g2 h6
    rw [r_putB f n hl hc g1 (fun j hj hcj => by have := g2 j hj hcj; have : f.held[j].seq ≠ n.seq := fun e => h6 ⟨_, List.getElem_mem hj, e⟩; omega), ob_some]
    rw [← e1, ← e2]
    by_cases hcl : c < f.held.length
    · rw [if_pos hcl, decide_eq_true hcl, bnot_true, cnd_false, w_some]
    · have hce : c = f.held.length := by omega
      rw [if_neg hcl, decide_eq_false hcl, bnot_false, cnd_true, cnd_t (by simp only [lapp, len]; exact ile_t (by simp; omega)), w_some]
      subst hce
      simp [lapp]
theorem same_msgs (l : List SMsg) (hl : l.length < 999999) : F_snaffleref16_SameMsgs l l = some true := by
  refine Wq.eq ?_
  unfold F_snaffleref16_SameMsgs
  rw [cnd_f (by rw [bnot_F, ieq_T])]
  refine Wq.bind (w_same (l := l) (m := l) rfl hl (step := fun v : Int × Bool => L_snaffleref16_SameMsgs_58 l l v.fst v.snd) (fun i h hh q => ?_) (fun q => ?_) _) fun w hw => ?_
  · simp only [L_snaffleref16_SameMsgs_58]
    rw [cnd_t (by rw [ilt_nat]; simpa using h), cnd_t (inb _ i h), cnd_t (inb _ i hh), lget_nat _ i h, cnd_f (by simp [bnot, band, ieq]), w_some, wr_succ (by omega)]
    exact ⟨fun _ => rfl, fun g => absurd rfl g⟩
  · simp only [L_snaffleref16_SameMsgs_58]
    rw [cnd_f (by rw [show ((l.length : Nat) : Int) = len l from rfl]; simp [ilt])]
  · match w, hw with
    | .inl b, h => exact absurd rfl h.2
    | .inr _, _ => simp only [sumK, w_some]
theorem same_feed (f : SFeed) (hl : f.held.length < 999999) : F_snaffleref17_Same f f = some true := by
  refine Wq.eq ?_
  unfold F_snaffleref17_Same
  rw [cnd_f (by rw [bor_F, bnot_F, bnot_F, ieq_T, beq_T]; exact ⟨rfl, rfl⟩)]
  refine Wq.bind (w_same (l := f.held) (m := f.held) rfl hl (step := fun v : Int × Bool => L_snaffleref17_Same_58 f f v.fst v.snd) (fun i h hh q => ?_) (fun q => ?_) _) fun w hw => ?_
  · simp only [L_snaffleref17_Same_58]
    rw [cnd_t (by rw [ilt_nat]; simpa using h), cnd_t (inb _ i h), cnd_t (inb _ i hh), lget_nat _ i h, cnd_f (by simp [bnot, band, ieq]), w_some, wr_succ (by omega)]
    exact ⟨fun _ => rfl, fun g => absurd rfl g⟩
  · simp only [L_snaffleref17_Same_58]
    rw [cnd_f (by rw [show ((f.held.length : Nat) : Int) = len f.held from rfl]; simp [ilt])]
  · match w, hw with
    | .inl b, h => exact absurd rfl h.2
    | .inr _, _ => simp only [sumK, w_some]
theorem same_plain (p : SPlain) (h1 : shortP p.state) (h2 : p.outbox.length < 999999) (h3 : p.feed.held.length < 999999) : F_snaffleref21_Same p p = some true := by
  unfold F_snaffleref21_Same
  obtain ⟨b, hb, hq⟩ := s_same (a := p.state) (b := p.state) h1
  obtain rfl := hq.2 rfl
  rw [hb, ob_some, cnd_true, same_msgs _ h2, ob_some]
  rw [cnd_t (by rfl), same_feed _ h3]
  rfl
noncomputable instance (p : SPlain) : Decidable (plainP p) := Classical.propDecidable _
/-- A plain gate whose lists are short. -/
structure SP (p : SPlain) : Prop where
  st : Ok_state p.state
  sh : shortP p.state
  ol : p.outbox.length ≤ 200
  hl : p.feed.held.length ≤ 200
  ok : ∀ n ∈ p.feed.held, Ok_note n
theorem e_plain_Right {p : SPlain} (h : SP p) : F_plain_Right p = some (decide (plainP p)) :=
  (s_plain_Right p h.st h.sh (by have := h.hl; omega) (by have := h.ol; omega)).dec
theorem er_plain_Right {p : SPlain} (h : SP p) : F_snaffleref21_Right p = some (decide (plainP p)) :=
  (r_plain_Right p h.st h.sh (by have := h.hl; omega) (by have := h.ol; omega) (fun n hn => (h.ok n hn).seq)).dec
theorem flush_same {p : SPlain} (h : SP p) : ∃ y e, F_plain_Flush p = some y ∧ F_snaffleref21_Flush p = some (y.1, e) ∧ y.2.2 = e ∧ ((e = 0 ∧ y.2.1 = p.outbox) ∨ (e ≠ 0 ∧ y.2.1 = [])) ∧ SP y.1 := by
  unfold F_plain_Flush F_snaffleref21_Flush
  rw [e_plain_Right h, er_plain_Right h, ob_some, ob_some]
  by_cases hp : plainP p
  · rw [decide_eq_true hp, bnot_true]
    exact ⟨_, _, rfl, rfl, rfl, .inl ⟨rfl, rfl⟩, ⟨h.st, h.sh, by simp, h.hl, h.ok⟩⟩
  · rw [decide_eq_false hp, bnot_false]
    exact ⟨_, _, rfl, rfl, rfl, .inr ⟨by simp, rfl⟩, h⟩
theorem e_done {p : SPlain} {r : SRec} (h : SP p) (hr : Ok_recd r) (ks : List Int) (hks : ks.length < 999999) : F_plain_done p r ks = some (if plainP p ∧ r.kind ∈ ks then doS p.state r else (p.state, 1)) := by
  unfold F_plain_done
  rw [e_plain_Right h, ob_some, e_contains ks _ hks]
  by_cases hp : plainP p
  · rw [decide_eq_true hp, bnot_true, bnot_false, cnd_true, ob_some]
    by_cases hk : r.kind ∈ ks
    · rw [decide_eq_true hk, cnd_f (by rfl), e_book_Do h.st hr h.sh.1 h.sh.2.2.1 h.sh.2.2.2, ob_some, if_pos ⟨hp, hk⟩]
    · rw [decide_eq_false hk, cnd_t (by rfl), if_neg (fun g => hk g.2)]
  · rw [decide_eq_false hp, bnot_false, bnot_true, cnd_false, ob_some, cnd_t (by rfl), if_neg (fun g => hp g.1)]
theorem turn_same {p : SPlain} {r : SRec} (h : SP p) (hr : Ok_recd r) : ∃ y e, F_plain_Turn p r = some y ∧ F_snaffleref21_Turn p r = some (y.1, e) ∧ y.2.2 = e ∧ ((e = 0 ∧ y.2.1 = p.outbox) ∨ (e ≠ 0 ∧ y.2.1 = [])) ∧ SP y.1 := by
  unfold F_plain_Turn F_snaffleref21_Turn
  rw [e_done h hr [4, 5] (by simp), er_plain_Right h, ob_some, ob_some]
  by_cases hc : plainP p ∧ r.kind ∈ [4, 5]
  · have hk : r.kind = 4 ∨ r.kind = 5 := by simpa using hc.2
    rw [if_pos hc, decide_eq_true hc.1, bnot_true, cnd_f (show bor false (band (bnot (ieq r.kind 4)) (bnot (ieq r.kind 5))) = false by rcases hk with h | h <;> simp [bor, band, bnot, ieq, h]), r_Do h.st hr h.sh, ob_some]
    by_cases he : (doS p.state r).2 = 0
    · have hz : bnot (ieq (doS p.state r).2 0) = false := by rw [bnot_F, ieq_T]; exact he
      rw [cnd_f hz, cnd_f hz]
      exact ⟨_, _, rfl, rfl, rfl, .inl ⟨rfl, rfl⟩, ⟨(doS_q p.state r).rng h.st hr, doS_short h.sh r, by simp, h.hl, h.ok⟩⟩
    · have hz : bnot (ieq (doS p.state r).2 0) = true := by rw [bnot_T, ieq_F]; exact he
      rw [cnd_t hz, cnd_t hz]
      exact ⟨_, _, rfl, rfl, rfl, .inr ⟨he, rfl⟩, h⟩
  · rw [if_neg hc, cnd_t (by rw [bnot_T, ieq_F]; simp)]
    have : bor (bnot (decide (plainP p))) (band (bnot (ieq r.kind 4)) (bnot (ieq r.kind 5))) = true := by
      simp only [band_T, band_F, bor_T, bor_F, bnot_T, bnot_F, ilt_T, ilt_F, ile_T, ile_F, ieq_T, ieq_F, beq_T, beq_F]
      by_cases hp : plainP p
      · right
        have := fun g => hc ⟨hp, g⟩
        simp at this
        omega
      · left; simpa using hp
    rw [cnd_t this]
    exact ⟨_, _, rfl, rfl, rfl, .inr ⟨by simp, rfl⟩, h⟩
theorem of_any (k : Int) (o : SOrder) (z : Int) : ∃ m, F_outbox_Of k o z = some m := by
  unfold F_outbox_Of
  simp only [c_ieq, e_order_Right, ob_some, e_msg]
  by_cases h1 : k = 1 <;> by_cases h2 : k = 2 <;> simp only [h1, h2, if_true, if_false] <;>
    by_cases h3 : ordP o <;> simp [h3, cnd, bnot, band, bor, ob_some] <;> split <;> exact ⟨_, rfl⟩
theorem submit_same {p : SPlain} {r : SRec} (h : SP p) (hol : p.outbox.length ≤ 100) (hr : Ok_recd r) : ∃ y, F_plain_Submit p r = some y ∧ F_snaffleref21_Submit p r = some y ∧ SP y.1 := by
  unfold F_plain_Submit F_snaffleref21_Submit
  rw [e_done h hr [1, 2, 3] (by simp), er_plain_Right h, ob_some, ob_some]
  by_cases hc : plainP p ∧ r.kind ∈ [1, 2, 3]
  · have hk : r.kind = 1 ∨ r.kind = 2 ∨ r.kind = 3 := by simpa using hc.2
    rw [if_pos hc, decide_eq_true hc.1, bnot_true, cnd_f (show bor (bor false (ilt r.kind 1)) (ilt 3 r.kind) = false by rcases hk with h | h | h <;> simp [bor, ilt, h]), r_Do h.st hr h.sh, ob_some]
    by_cases he : (doS p.state r).2 = 0
    · have hz : bnot (ieq (doS p.state r).2 0) = false := by rw [bnot_F, ieq_T]; exact he
      rw [cnd_f hz, cnd_f hz]
      have t1 := (doS_q p.state r).rng h.st hr
      have t2 := doS_short h.sh r
      have t3 := doS_right hc.1.2.1 h.st hr
      obtain ⟨o, ho, hid, _⟩ := asked_in he hk
      obtain ⟨j, hj, hf, rfl⟩ := find_of t3.fine.asc ho
      rw [hid] at hf
      rw [e_book_Find _ _ t2.1, r_Find _ _ t2.1, ob_some, ob_some, findI_some hf, cnd_t (inb _ j hj), cnd_t (inb _ j hj), show F_slices_Clone_api_Msg p.outbox = some p.outbox from nilq_clone (by omega), ob_some, r_Of]
      obtain ⟨m, hm⟩ := of_any r.kind (lget (doS p.state r).1.orders (itn (j : Int))) (doS p.state r).1.lsn
      have c1 : ile (len (lapp p.outbox [m])) 68719476736 = true := by simp only [lapp, len]; exact ile_t (by simp; omega)
      rw [hm, ob_some, cnd_t c1, cnd_t (by simp only [len]; exact ile_t (by omega))]
      exact ⟨_, rfl, rfl, ⟨t1, t2, by show (lapp p.outbox [m]).length ≤ 200; simp [lapp]; omega, h.hl, h.ok⟩⟩
    · have hz : bnot (ieq (doS p.state r).2 0) = true := by rw [bnot_T, ieq_F]; exact he
      rw [cnd_t hz, cnd_t hz]
      exact ⟨_, rfl, rfl, h⟩
  · rw [if_neg hc, cnd_t (by rw [bnot_T, ieq_F]; simp)]
    have : bor (bor (bnot (decide (plainP p))) (ilt r.kind 1)) (ilt 3 r.kind) = true := by
      simp only [band_T, band_F, bor_T, bor_F, bnot_T, bnot_F, ilt_T, ilt_F, ile_T, ile_F, ieq_T, ieq_F, beq_T, beq_F]
      by_cases hp : plainP p
      · have := fun g => hc ⟨hp, g⟩
        simp at this
        omega
      · left; left; simpa using hp
    rw [cnd_t this]
    exact ⟨_, rfl, rfl, h⟩
/-- Notes, one behind the other. -/
noncomputable def noteF : SState → List SNote → SState × Int
  | s, [] => (s, 0)
  | s, n :: r => if (doS s (noteR n)).2 = 0 then noteF (doS s (noteR n)).1 r else (s, (doS s (noteR n)).2)
theorem come_mem {f : SFeed} {n : SNote} {x : Int} : (comeZ f n x).1.held.length ≤ f.held.length + 1 ∧ (comeZ f n x).2.1.length ≤ f.held.length + 1 ∧ (∀ m ∈ (comeZ f n x).1.held, m ∈ f.held ∨ m = n) ∧ (∀ m ∈ (comeZ f n x).2.1, m ∈ f.held ∨ m = n) := by
  by_cases h0 : (comeZ f n x).2.2 = 0
  · have q := come_ok h0
    refine ⟨?_, ?_, q.mem, q.mem2⟩
    · unfold comeZ
      split
      · simp
      split
      · simp
      split
      · simp
      split
      · simp; omega
      split
      · simp
      · have h1 := List.length_filter_le (fun m : SNote => decide (m.seq < n.seq)) f.held
        simp only [List.length_append, List.length_cons]
        have : ∀ l : List SNote, (l.filter fun m => m.seq < n.seq).length + (l.filter fun m => n.seq < m.seq).length ≤ l.length := fun l => by
          induction l with
          | nil => simp
          | cons a r ih =>
            by_cases g1 : a.seq < n.seq
            · rw [List.filter_cons_of_pos (by simpa using g1), List.filter_cons_of_neg (by simp; omega)]; simp; omega
            · by_cases g2 : n.seq < a.seq
              · rw [List.filter_cons_of_neg (by simpa using g1), List.filter_cons_of_pos (by simpa using g2)]; simp; omega
              · rw [List.filter_cons_of_neg (by simpa using g1), List.filter_cons_of_neg (by simpa using g2)]; simp; omega
        have := this f.held
        omega
    · unfold comeZ
      split
      · simp
      split
      · simp
      split
      · simp
      split
      · simp; omega
      split <;> simp
  · have : (comeZ f n x) = (f, [], 1) := by
      unfold comeZ at h0 ⊢
      split
      · rfl
      · rename_i g
        rw [if_neg g] at h0
        exfalso; apply h0
        split
        · rfl
        split
        · rfl
        split
        · rfl
        split <;> rfl
    rw [this]
    exact ⟨by simp, by simp, fun m hm => .inl hm, fun m hm => (by simp at hm)⟩
theorem note_same {p : SPlain} {n : SNote} (h : SP p) (hhl : p.feed.held.length ≤ 100) (hn : Ok_note n) : ∃ y, F_plain_Note p n = some y ∧ F_snaffleref21_Note p n = some y ∧ SP y.1 := by
  unfold F_plain_Note F_snaffleref21_Note
  rw [e_plain_Right h, er_plain_Right h, ob_some, ob_some]
  by_cases hp : plainP p
  case neg =>
    rw [decide_eq_false hp]
    exact ⟨_, rfl, rfl, h⟩
  rw [decide_eq_true hp, bnot_true, bnot_false, cnd_true, cnd_true, show F_rec_OfNote n = some (noteR n) from rfl, show F_snaffleref16_OfNote n = some (noteR n) from rfl, ob_some, ob_some, cnd_true, cnd_true]
  obtain ⟨b, hb, hbq⟩ := s_rec_Right (noteR n)
  obtain ⟨c, hc, hcq⟩ := r_rec_Right (noteR n)
  have hbc : c = b := by rw [Bool.eq_iff_iff, hbq, hcq]
  subst hbc
  rw [hb, hc, ob_some, ob_some]
  cases c with
  | false => exact ⟨_, rfl, rfl, h⟩
  | true =>
  have hq := hp.2.1.fine.seq
  have hL := hp.2.1.fine.lsn
  have hw : wr IntKind.i64 (iadd p.state.seq 1) = p.state.seq + 1 := wr_small (by simp only [iadd]; omega) (by simp only [iadd]; omega)
  rw [cnd_f (by rfl), cnd_f (by rfl), hw, e_feed_Come, r_feed_Come _ _ _ (fun m hm => (h.ok m hm).seq) hn.seq, ob_some, ob_some]
  have cm := come_mem (f := p.feed) (n := n) (x := p.state.seq + 1)
  obtain ⟨⟨f', l, e⟩, hr⟩ : ∃ r, r = comeZ p.feed n (p.state.seq + 1) := ⟨_, rfl⟩
  rw [← hr] at cm ⊢
  simp only at cm ⊢
  obtain ⟨m1, m2, m3, m4⟩ := cm
  have hmem : ∀ m, m ∈ p.feed.held ∨ m = n → Ok_note m := fun m hm => by
    rcases hm with hm | rfl
    · exact h.ok m hm
    · exact hn
  by_cases he : e = 0
  case neg =>
    have hz : bnot (ieq e 0) = true := by rw [bnot_T, ieq_F]; exact he
    rw [cnd_t hz, cnd_t hz]
    exact ⟨_, rfl, rfl, h⟩
  subst he
  have hz : bnot (ieq 0 0) = false := rfl
  rw [cnd_f hz, cnd_f hz]
  cases hlsn : ilt (wr IntKind.i64 (isub 1000000000 (len l))) p.state.lsn with
  | true => exact ⟨_, rfl, rfl, h⟩
  | false =>
  rw [cnd_false, cnd_false]
  have step : ∀ (i : Nat) (hi : i < l.length) (s : SState), noteF s (l.drop i) = if (doS s (noteR l[i])).2 = 0 then noteF (doS s (noteR l[i])).1 (l.drop (i + 1)) else (s, (doS s (noteR l[i])).2) := fun i hi s => by
    rw [List.drop_eq_getElem_cons hi]; rfl
  have e1 : Wq (iterN (fun v : Int × Int × Int × SPlain × SPlain => L_plain_Note_506 (len l) l p v.fst v.snd.fst v.snd.snd.fst v.snd.snd.snd.fst v.snd.snd.snd.snd) LF (0, 0, 0, SPlain.mk p.state p.outbox f', SPlain.mk (SState.mk 0 0 [] [] [] [] false 0 0 0) [] (SFeed.mk [] false))) fun w => match w with
      | .inl x => x.2.2 = p ∧ x.1 = (noteF p.state l).2 ∧ x.1 ≠ 0
      | .inr x => x.2.2.1 = ⟨(noteF p.state l).1, p.outbox, f'⟩ ∧ (noteF p.state l).2 = 0 ∧ Ok_state (noteF p.state l).1 ∧ shortP (noteF p.state l).1 := by
    refine w_for (n := l.length) (by omega) (fun i x => ∃ s, x.2.2.1 = ⟨s, p.outbox, f'⟩ ∧ Ok_state s ∧ shortP s ∧ noteF p.state l = noteF s (l.drop i)) _ ?_ ?_ _ 0 (Nat.zero_le _) ⟨p.state, rfl, h.st, h.sh, by simp⟩
    · rintro i ⟨x1, x2, x3, x4⟩ hi ⟨s, rfl, g1, g2, g3⟩
      simp only [L_plain_Note_506]
      have hrr := ok_noteR (hmem l[i] (m4 _ (List.getElem_mem hi)))
      rw [cnd_t (by rw [ilt_nat]; simpa using hi), cnd_t (inb l i hi), lget_nat l i hi, show F_rec_OfNote l[i] = some (noteR l[i]) from rfl, ob_some, e_book_Do g1 hrr g2.1 g2.2.2.1 g2.2.2.2, ob_some, w_cnd, w_some, w_some]
      rw [step i hi] at g3
      refine ⟨fun hz => ?_, fun hz => ?_⟩
      · rw [bnot_T, ieq_F] at hz
        rw [if_neg hz] at g3
        exact ⟨rfl, by rw [g3], hz⟩
      · rw [bnot_F, ieq_T] at hz
        rw [if_pos hz] at g3
        exact ⟨wr_succ (by omega), _, rfl, (doS_q s (noteR l[i])).rng g1 hrr, doS_short g2 _, g3⟩
    · rintro ⟨x1, x2, x3, x4⟩ ⟨s, rfl, g1, g2, g3⟩
      simp only [L_plain_Note_506]
      rw [cnd_f (by rw [show ((l.length : Nat) : Int) = len l from rfl]; simp [ilt]), w_some]
      rw [List.drop_length] at g3
      have g3 : noteF p.state l = (s, 0) := g3
      rw [g3]
      exact ⟨rfl, rfl, g1, g2⟩
  have e2 : Wq (iterN (fun v : Int × Int × SState × SPlain => L_snaffleref21_Note_1018 l p v.fst v.snd.fst v.snd.snd.fst v.snd.snd.snd) LF (0, 0, p.state, SPlain.mk (SState.mk 0 0 [] [] [] [] false 0 0 0) [] (SFeed.mk [] false))) fun w => match w with
      | .inl x => x.2.2 = p ∧ x.1 = (noteF p.state l).2 ∧ x.1 ≠ 0
      | .inr x => x.2.1 = (noteF p.state l).1 ∧ (noteF p.state l).2 = 0 := by
    refine w_for (n := l.length) (by omega) (fun i x => Ok_state x.2.1 ∧ shortP x.2.1 ∧ noteF p.state l = noteF x.2.1 (l.drop i)) _ ?_ ?_ _ 0 (Nat.zero_le _) ⟨h.st, h.sh, by simp⟩
    · rintro i ⟨x1, s, x3⟩ hi ⟨g1, g2, g3⟩
      simp only at g1 g2 g3
      simp only [L_snaffleref21_Note_1018]
      have hrr := ok_noteR (hmem l[i] (m4 _ (List.getElem_mem hi)))
      rw [cnd_t (by rw [ilt_nat]; simpa using hi), cnd_t (inb l i hi), lget_nat l i hi, show F_snaffleref16_OfNote l[i] = some (noteR l[i]) from rfl, ob_some, r_Do g1 hrr g2, ob_some, w_cnd, w_some, w_some]
      rw [step i hi] at g3
      refine ⟨fun hz => ?_, fun hz => ?_⟩
      · rw [bnot_T, ieq_F] at hz
        rw [if_neg hz] at g3
        exact ⟨rfl, by rw [g3], hz⟩
      · rw [bnot_F, ieq_T] at hz
        rw [if_pos hz] at g3
        exact ⟨wr_succ (by omega), (doS_q s (noteR l[i])).rng g1 hrr, doS_short g2 _, g3⟩
    · rintro ⟨x1, s, x3⟩ ⟨g1, g2, g3⟩
      simp only at g1 g2 g3
      simp only [L_snaffleref21_Note_1018]
      rw [cnd_f (by rw [show ((l.length : Nat) : Int) = len l from rfl]; simp [ilt]), w_some]
      rw [List.drop_length] at g3
      have g3 : noteF p.state l = (s, 0) := g3
      rw [g3]
      exact ⟨rfl, rfl⟩
  obtain ⟨w1, q1, k1⟩ := e1
  obtain ⟨w2, q2, k2⟩ := e2
  rw [q1, q2, ob_some, ob_some]
  match w1, k1, w2, k2 with
  | .inl x, ⟨a1, a2, a3⟩, .inl y, ⟨b1, b2, b3⟩ =>
    refine ⟨(p, (noteF p.state l).2), ?_, ?_, h⟩
    · simp only [sumK]; rw [a1, a2]
    · simp only [sumK]; rw [b1, b2]
  | .inr x, ⟨a1, a2, a3, a4⟩, .inr y, ⟨b1, b2⟩ =>
    refine ⟨(⟨(noteF p.state l).1, p.outbox, f'⟩, 0), ?_, ?_, ⟨a3, a4, h.ol, ?_, fun m hm => hmem m (m3 m hm)⟩⟩
    · simp only [sumK]; rw [a1]
    · simp only [sumK]; rw [b1]
    · show f'.held.length ≤ 200; omega
  | .inl x, ⟨a1, a2, a3⟩, .inr y, ⟨b1, b2⟩ => exact absurd (a2.trans b2) a3
  | .inr x, ⟨a1, a2, a3, a4⟩, .inl y, ⟨b1, b2, b3⟩ => exact absurd (b2.trans a2) b3
def F_plain_done_d (x0 : SPlain) (x1 : SRec) (x2 : (List Int)) : Option (SState × Int) := obind (F_plain_Right x0) fun y0 ↦ obind (cnd (bnot (bnot y0)) (F_slices_Contains_int x2 x1.kind) (some false)) fun y1 ↦ cnd (bor (bnot y0) (bnot y1)) (some (x0.state, 1)) (obind (F_book_Do_d x0.state x1) fun y2 ↦ some y2)
theorem F_plain_done_d_eq : F_plain_done = F_plain_done_d := by
  funext a0 a1 a2
  unfold F_plain_done F_plain_done_d
  simp only [F_book_Do_d_eq]
def F_slices_Clone_api_Msg_d (x0 : (List SMsg)) : Option ((List SMsg)) := nilD (len x0) fun y0 ↦ cnd (beq y0 true) (some []) (cnd (ile (len x0) 68719476736) (some x0) none)
theorem F_slices_Clone_api_Msg_d_eq : F_slices_Clone_api_Msg = F_slices_Clone_api_Msg_d := by
  funext a0
  unfold F_slices_Clone_api_Msg F_slices_Clone_api_Msg_d
  simp only [nilq_eq]
def F_plain_Submit_d (x0 : SPlain) (x1 : SRec) : Option (SPlain × Int) := obind (F_plain_done_d x0 x1 [1, 2, 3]) fun y0 ↦ cnd (bnot (ieq y0.snd 0)) (some (x0, y0.snd)) (obind (F_book_Find y0.fst x1.order) fun y1 ↦ cnd (band (ile 0 y1) (ilt y1 (len y0.fst.orders))) (obind (F_slices_Clone_api_Msg_d x0.outbox) fun y2 ↦ obind (F_outbox_Of x1.kind (lget y0.fst.orders (itn y1)) y0.fst.lsn) fun y3 ↦ cnd (ile (len (lapp y2 [y3])) 68719476736) (some (SPlain.mk y0.fst (lapp y2 [y3]) x0.feed, 0)) none) none)
theorem F_plain_Submit_d_eq : F_plain_Submit = F_plain_Submit_d := by
  funext a0 a1
  unfold F_plain_Submit F_plain_Submit_d
  simp only [F_plain_done_d_eq, F_slices_Clone_api_Msg_d_eq]
def F_slices_Clone_api_Note_d (x0 : (List SNote)) : Option ((List SNote)) := nilD (len x0) fun y0 ↦ cnd (beq y0 true) (some []) (cnd (ile (len x0) 68719476736) (some x0) none)
theorem F_slices_Clone_api_Note_d_eq : F_slices_Clone_api_Note = F_slices_Clone_api_Note_d := by
  funext a0
  unfold F_slices_Clone_api_Note F_slices_Clone_api_Note_d
  simp only [nilq_eq]
def F_feed_Come_d (x0 : SFeed) (x1 : SNote) (x2 : Int) : Option (SFeed × (List SNote) × Int) := obind (F_feed_Right x0 x2) fun y0 ↦ cnd (bnot y0) (cnd (bnot y0) (some (x0, [], 1)) (cnd (ilt x1.seq x2) (some (x0, [], 0)) (cnd (ilt (wr IntKind.i64 (iadd x2 8)) x1.seq) (some (SFeed.mk x0.held true, [], 0)) (cnd (ieq x1.seq x2) (obind (F_feed_row x0.held (wr IntKind.i64 (iadd x2 1))) fun y1 ↦ cnd (band (ile 0 (len x0.held)) (ile 0 (len x0.held))) (cnd (band (ile (len (lapp (nol x0.held) [x1])) 68719476736) (bor (ieq (len (nol x0.held)) 0) true)) (cnd (band (ile 0 y1) (ile y1 (len x0.held))) (cnd (ile (len (lapp (lapp (nol x0.held) [x1]) (ltake x0.held (itn y1)))) 68719476736) (cnd (band (ile 0 y1) (ile y1 (len x0.held))) (obind (F_slices_Clone_api_Note_d (ldrop x0.held (itn y1))) fun y2 ↦ some (SFeed.mk y2 x0.gap, lapp (lapp (nol x0.held) [x1]) (ltake x0.held (itn y1)), 0)) none) none) none) none) none) (obind (F_feed_place x0.held x1.seq) fun y3 ↦ cnd (bnot y3.snd) (obind (F_slices_Clone_api_Note_d x0.held) fun y4 ↦ obind (F_slices_Insert_api_Note y4 y3.fst [x1]) fun y5 ↦ some (SFeed.mk y5 x0.gap, [], 0)) (some (x0, [], 0))))))) (cnd (ilt x1.seq 1) (cnd (ilt x1.seq 1) (some (x0, [], 1)) (cnd (ilt x1.seq x2) (some (x0, [], 0)) (cnd (ilt (wr IntKind.i64 (iadd x2 8)) x1.seq) (some (SFeed.mk x0.held true, [], 0)) (cnd (ieq x1.seq x2) (obind (F_feed_row x0.held (wr IntKind.i64 (iadd x2 1))) fun y6 ↦ cnd (band (ile 0 (len x0.held)) (ile 0 (len x0.held))) (cnd (band (ile (len (lapp (nol x0.held) [x1])) 68719476736) (bor (ieq (len (nol x0.held)) 0) true)) (cnd (band (ile 0 y6) (ile y6 (len x0.held))) (cnd (ile (len (lapp (lapp (nol x0.held) [x1]) (ltake x0.held (itn y6)))) 68719476736) (cnd (band (ile 0 y6) (ile y6 (len x0.held))) (obind (F_slices_Clone_api_Note_d (ldrop x0.held (itn y6))) fun y7 ↦ some (SFeed.mk y7 x0.gap, lapp (lapp (nol x0.held) [x1]) (ltake x0.held (itn y6)), 0)) none) none) none) none) none) (obind (F_feed_place x0.held x1.seq) fun y8 ↦ cnd (bnot y8.snd) (obind (F_slices_Clone_api_Note_d x0.held) fun y9 ↦ obind (F_slices_Insert_api_Note y9 y8.fst [x1]) fun y10 ↦ some (SFeed.mk y10 x0.gap, [], 0)) (some (x0, [], 0))))))) (cnd (ilt 1000000000 x1.seq) (some (x0, [], 1)) (cnd (ilt x1.seq x2) (some (x0, [], 0)) (cnd (ilt (wr IntKind.i64 (iadd x2 8)) x1.seq) (some (SFeed.mk x0.held true, [], 0)) (cnd (ieq x1.seq x2) (obind (F_feed_row x0.held (wr IntKind.i64 (iadd x2 1))) fun y11 ↦ cnd (band (ile 0 (len x0.held)) (ile 0 (len x0.held))) (cnd (band (ile (len (lapp (nol x0.held) [x1])) 68719476736) (bor (ieq (len (nol x0.held)) 0) true)) (cnd (band (ile 0 y11) (ile y11 (len x0.held))) (cnd (ile (len (lapp (lapp (nol x0.held) [x1]) (ltake x0.held (itn y11)))) 68719476736) (cnd (band (ile 0 y11) (ile y11 (len x0.held))) (obind (F_slices_Clone_api_Note_d (ldrop x0.held (itn y11))) fun y12 ↦ some (SFeed.mk y12 x0.gap, lapp (lapp (nol x0.held) [x1]) (ltake x0.held (itn y11)), 0)) none) none) none) none) none) (obind (F_feed_place x0.held x1.seq) fun y13 ↦ cnd (bnot y13.snd) (obind (F_slices_Clone_api_Note_d x0.held) fun y14 ↦ obind (F_slices_Insert_api_Note y14 y13.fst [x1]) fun y15 ↦ some (SFeed.mk y15 x0.gap, [], 0)) (some (x0, [], 0))))))))
theorem F_feed_Come_d_eq : F_feed_Come = F_feed_Come_d := by
  funext a0 a1 a2
  unfold F_feed_Come F_feed_Come_d
  simp only [F_slices_Clone_api_Note_d_eq]
def L_plain_Note_506_d (p0 : Int) (p1 : (List SNote)) (p2 : SPlain) (v0 : Int) (v1 : Int) (v2 : Int) (v3 : SPlain) (v4 : SPlain) : Option ((Int × Int × Int × SPlain × SPlain) ⊕ ((Int × SPlain × SPlain) ⊕ ((Int × Int × SPlain × SPlain)))) := cnd (ilt v0 p0) (cnd (band (ile 0 v0) (ilt v0 (len p1))) (obind (F_rec_OfNote (lget p1 (itn v0))) fun y0 ↦ obind (F_book_Do_d v3.state y0) fun y1 ↦ cnd (bnot (ieq y1.snd 0)) (some (Sum.inr (Sum.inl (y1.snd, SPlain.mk y1.fst v3.outbox v3.feed, p2)))) (some (Sum.inl (wr IntKind.i64 (iadd v0 1), y1.snd, v2, SPlain.mk y1.fst v3.outbox v3.feed, v4)))) none) (some (Sum.inr (Sum.inr (v1, v2, v3, v4))))
theorem L_plain_Note_506_d_eq : L_plain_Note_506 = L_plain_Note_506_d := by
  funext a0 a1 a2 a3 a4 a5 a6 a7
  unfold L_plain_Note_506 L_plain_Note_506_d
  simp only [F_book_Do_d_eq]
def F_plain_Note_d (x0 : SPlain) (x1 : SNote) : Option (SPlain × Int) := obind (F_plain_Right x0) fun y0 ↦ obind (cnd (bnot (bnot y0)) (F_rec_OfNote x1) (some (SRec.mk 0 0 0 0 0 0 0 0 0 0 false 0 0))) fun y1 ↦ obind (cnd (bnot (bnot y0)) (F_rec_Right y1) (some false)) fun y2 ↦ cnd (bor (bnot y0) (bnot y2)) (some (x0, 1)) (obind (F_feed_Come_d x0.feed x1 (wr IntKind.i64 (iadd x0.state.seq 1))) fun y3 ↦ cnd (bnot (ieq y3.snd.snd 0)) (some (x0, y3.snd.snd)) (cnd (ilt (wr IntKind.i64 (isub 1000000000 (len y3.snd.fst))) x0.state.lsn) (some (x0, 3)) (obind (iterN (fun v ↦ L_plain_Note_506_d (len y3.snd.fst) y3.snd.fst x0 v.fst v.snd.fst v.snd.snd.fst v.snd.snd.snd.fst v.snd.snd.snd.snd) LF (0, y3.snd.snd, 0, SPlain.mk x0.state x0.outbox y3.fst, SPlain.mk (SState.mk 0 0 [] [] [] [] false 0 0 0) [] (SFeed.mk [] false))) fun y4 ↦ sumK y4 (fun y5 ↦ some (y5.snd.snd, y5.fst)) fun y5 ↦ some (y5.snd.snd.fst, 0))))
theorem F_plain_Note_d_eq : F_plain_Note = F_plain_Note_d := by
  funext a0 a1
  unfold F_plain_Note F_plain_Note_d
  simp only [F_feed_Come_d_eq, L_plain_Note_506_d_eq]
def F_plain_Turn_d (x0 : SPlain) (x1 : SRec) : Option (SPlain × (List SMsg) × Int) := obind (F_plain_done_d x0 x1 [4, 5]) fun y0 ↦ cnd (bnot (ieq y0.snd 0)) (some (x0, [], y0.snd)) (some (SPlain.mk y0.fst [] x0.feed, x0.outbox, 0))
theorem F_plain_Turn_d_eq : F_plain_Turn = F_plain_Turn_d := by
  funext a0 a1
  unfold F_plain_Turn F_plain_Turn_d
  simp only [F_plain_done_d_eq]
def F_snafflelaw21_awake_d : Option (Bool) := obind (F_book_New 1 1 (SExpo.mk 50 50 500) 900) fun y0 ↦ obind (F_plain_Submit_d (SPlain.mk y0.fst [] (SFeed.mk [] false)) (SRec.mk 1 1 0 0 1 4 2 0 0 0 false 0 0)) fun y1 ↦ obind (F_plain_Note_d y1.fst (SNote.mk 1 1 1 0 0)) fun y2 ↦ obind (F_plain_Flush y2.fst) fun y3 ↦ obind (F_plain_Turn_d y3.fst (SRec.mk 5 0 0 0 0 0 0 0 0 0 true 0 0)) fun y4 ↦ cnd (bor (ilt 0 (len y3.snd.fst)) (bnot (band (band (band (band (band (ieq y0.snd 0) (ieq y1.snd 0)) (ieq y2.snd 0)) (ieq y3.snd.snd 0)) (ieq y4.snd.snd 0)) (ieq (len y3.snd.fst) 1)))) (cnd (bor (ilt 0 (len y4.fst.state.orders)) (bnot (band (band (band (band (band (band (band (band (band (band (ieq y0.snd 0) (ieq y1.snd 0)) (ieq y2.snd 0)) (ieq y3.snd.snd 0)) (ieq y4.snd.snd 0)) (ieq (len y3.snd.fst) 1)) (ieq (lget y3.snd.fst 0).lsn 1)) (ieq (len y4.snd.fst) 0)) y4.fst.state.kill) (ieq y4.fst.state.lsn 3)) (ieq (len y4.fst.state.orders) 1)))) (obind (cnd (band (band (band (band (band (band (band (band (band (band (band (ieq y0.snd 0) (ieq y1.snd 0)) (ieq y2.snd 0)) (ieq y3.snd.snd 0)) (ieq y4.snd.snd 0)) (ieq (len y3.snd.fst) 1)) (ieq (lget y3.snd.fst 0).lsn 1)) (ieq (len y4.snd.fst) 0)) y4.fst.state.kill) (ieq y4.fst.state.lsn 3)) (ieq (len y4.fst.state.orders) 1)) (ieq (lget y4.fst.state.orders 0).phase 2)) (F_plain_Right y4.fst) (some false)) fun y5 ↦ some (band (band (band (band (band (band (band (band (band (band (band (band (ieq y0.snd 0) (ieq y1.snd 0)) (ieq y2.snd 0)) (ieq y3.snd.snd 0)) (ieq y4.snd.snd 0)) (ieq (len y3.snd.fst) 1)) (ieq (lget y3.snd.fst 0).lsn 1)) (ieq (len y4.snd.fst) 0)) y4.fst.state.kill) (ieq y4.fst.state.lsn 3)) (ieq (len y4.fst.state.orders) 1)) (ieq (lget y4.fst.state.orders 0).phase 2)) y5)) none) none
theorem F_snafflelaw21_awake_d_eq : F_snafflelaw21_awake = F_snafflelaw21_awake_d := by
  unfold F_snafflelaw21_awake F_snafflelaw21_awake_d
  simp only [F_plain_Submit_d_eq, F_plain_Note_d_eq, F_plain_Turn_d_eq]
theorem awake21 : F_snafflelaw21_awake = some true := by rw [F_snafflelaw21_awake_d_eq]; kernel_rfl
theorem s_short21 (p : SPlain) : Wq (F_snaffleref21_Short p) fun b => b = true → shortP p.state ∧ p.outbox.length ≤ 99 ∧ p.feed.held.length ≤ 99 := by
  unfold F_snaffleref21_Short
  refine (s_short p.state).bind fun b hb => ?_
  rw [w_some]
  intro h
  simp only [band_T, band_F, bor_T, bor_F, bnot_T, bnot_F, ilt_T, ilt_F, ile_T, ile_F, ieq_T, ieq_F, beq_T, beq_F, len] at h
  exact ⟨hb h.1.1, by omega, by omega⟩
theorem ok_st {p : SPlain} (h : Ok_plain p) : Ok_state p.state := ⟨h.state_accounts, h.state_symbols, h.state_orders, h.state_cells, h.state_limits, h.state_caps, h.state_last, h.state_seq, h.state_lsn⟩
theorem SP.same {p : SPlain} (h : SP p) : F_snaffleref21_Same p p = some true := same_plain p h.sh (by have := h.ol; omega) (by have := h.hl; omega)
theorem pure_PlainRight (x0 : SPlain) (x1 : SRec) (x2 : SNote) (k0 : Ok_plain x0) (k1 : Ok_recd x1) (k2 : Ok_note x2) : F_snafflelaw21_PlainRight x0 x1 x2 = some true := by
  refine Wq.eq ?_
  unfold F_snafflelaw21_PlainRight
  rw [awake21, ob_some, bnot_true, cnd_false]
  refine (s_short21 x0).bind fun sh hsh => ?_
  rw [w_cnd]
  refine ⟨fun _ => (w_some _).2 rfl, fun hs => ?_⟩
  rw [bnot_F] at hs
  obtain ⟨q1, q2, q3⟩ := hsh hs
  have h : SP x0 := ⟨ok_st k0, q1, by omega, by omega, fun n hn => k0.feed_held.1 n hn⟩
  obtain ⟨y, a1, a2, a3⟩ := submit_same h (by omega) k1
  obtain ⟨z, b1, b2, b3⟩ := note_same h (by omega) k2
  obtain ⟨u, e, c1, c2, c3, c4, c5⟩ := flush_same h
  obtain ⟨v, g, d1, d2, d3, d4, d5⟩ := turn_same h k1
  rw [a1, a2, ob_some, ob_some, e_plain_Right h, er_plain_Right h, ob_some, ob_some]
  have i0 : ∀ t : Int, bnot (ieq t t) = false := fun t => by rw [ieq_refl]; rfl
  rw [beq_refl', i0, bnot_true, cnd_t (by rfl), a3.same, ob_some, cnd_f (by rfl), b1, b2, ob_some, ob_some, i0, cnd_t (by rfl), b3.same, ob_some, cnd_f (by rfl), c1, c2, ob_some, ob_some]
  simp only
  rw [c3, i0, cnd_t (by rfl), c5.same, ob_some]
  have hm := same_msgs x0.outbox (by omega)
  have ff : ∀ t : Bool, bor (bor (bor false (bnot true)) (band t (bnot t))) false = false := fun t => by cases t <;> rfl
  rcases c4 with ⟨rfl, hc⟩ | ⟨hne, hc⟩
  · rw [hc, cnd_t (by rfl), hm, ob_some, cnd_f (by rfl), d1, d2, ob_some, ob_some]
    simp only
    rw [d3, ieq_refl, cnd_true, d5.same, ob_some]
    rcases d4 with ⟨rfl, hd⟩ | ⟨hne2, hd⟩
    · rw [hd, cnd_t (by rfl), hm, ob_some, w_some]; rfl
    · have z0 : ieq g 0 = false := by rw [ieq_F]; exact hne2
      rw [hd, z0]; exact (w_some _).2 rfl
  · have z1 : ieq e 0 = false := by rw [ieq_F]; exact hne
    rw [hc, z1, cnd_f (by rfl), ob_some, cnd_f (by rfl), d1, d2, ob_some, ob_some]
    simp only
    rw [d3, ieq_refl, cnd_true, d5.same, ob_some]
    rcases d4 with ⟨rfl, hd⟩ | ⟨hne2, hd⟩
    · rw [hd, cnd_t (by rfl), hm, ob_some, w_some]; rfl
    · have z0 : ieq g 0 = false := by rw [ieq_F]; exact hne2
      rw [hd, z0]; exact (w_some _).2 rfl
end Go.Av
