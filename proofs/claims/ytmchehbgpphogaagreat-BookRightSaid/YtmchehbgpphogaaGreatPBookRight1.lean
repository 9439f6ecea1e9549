/- The plain law, part 1. No condition. -/
import Derived.Test.YtmchehbgpphogaaGreatPBookRight0
import Derived.KernelRfl
set_option linter.unusedVariables false
set_option linter.unusedSimpArgs false
set_option linter.unnecessarySimpa false
namespace Go.Av
open Go
set_option linter.unusedVariables false
set_option linter.unusedSimpArgs false
theorem r_asked {s : SState} {r : SRec} (hm : mayP s r) (hr : Ok_state s) (hrr : Ok_recd r) (hk : r.kind = 1 ∨ r.kind = 2) :
    Wq (F_snaffleref10_asked s r) fun y => cnd (bnot (ieq y.2 0)) (some (s, y.2)) (some (⟨y.1.accounts, y.1.symbols, y.1.orders, y.1.cells, y.1.limits, y.1.caps, y.1.kill, y.1.last, y.1.seq, wr IntKind.i64 (iadd s.lsn 1)⟩, 0)) = some (doS s r) := by
  obtain ⟨hR, hrec, hlsn, hacc, hsym, hord⟩ := id hm
  have hs := hR.sized
  obtain ⟨lc, ll, lcp, lo⟩ := hs.lens
  have hz := hR.fine
  have hl0 := hz.lsn
  have hwr : wr IntKind.i64 (iadd s.lsn 1) = s.lsn + 1 := wr_lsn hl0.1 hlsn
  have hall : ∀ o ∈ s.orders, orderIn s o ∧ Ok_order o := fun o h => ⟨hz.ords o h, hr.orders.1 o h⟩
  have hrec' := hrec
  unfold recP knownP at hrec'
  have bad : ∀ e : Int, e ≠ 0 → cnd (bnot (ieq e 0)) (some (s, e)) (some ((⟨s.accounts, s.symbols, s.orders, s.cells, s.limits, s.caps, s.kill, s.last, s.seq, wr IntKind.i64 (iadd s.lsn 1)⟩ : SState), (0 : Int))) = some (s, e) := fun e he => by
    rw [cnd_t (by rw [bnot_T, ieq_F]; exact he)]
  rw [hwr]
  rw [hwr] at bad
  unfold F_snaffleref10_asked
  unfold doS
  rw [if_neg (fun h : ¬ mayP s r => h hm)]
  by_cases k1 : r.kind = 1
  · rw [if_pos k1, cnd_t (by rw [ieq_T]; exact k1), r_order_Begin hrec k1, ob_some]
    by_cases hkill : s.kill = true
    · rw [cnd_t hkill, w_some, if_pos hkill]
      exact bad 5 (by decide)
    rw [cnd_f (by simpa using hkill), if_neg hkill, c_ile]
    by_cases h64 : s.orders.length = 64
    · rw [if_pos (by simp only [len]; omega), if_pos h64, w_some]
      exact bad 6 (by decide)
    rw [if_neg (by simp only [len]; omega), if_neg h64, cnd_t (ile_t (by simp only [len]; omega)), cnd_t (ile_t (by simp [len, lapp]; omega))]
    obtain ⟨ho, ho2⟩ := begin_ord hrec k1
    have hro := begin_rng hrr
    have hmem : ∀ o ∈ lapp s.orders [beginZ r], orderIn s o ∧ Ok_order o := fun o h => by
      rcases List.mem_append.1 h with h | h
      · exact hall o h
      · rw [List.mem_singleton] at h
        subst h
        exact ⟨⟨ho, by simp [beginZ], hacc, hsym⟩, hro⟩
    have hlen : (lapp s.orders [beginZ r]).length ≤ 64 := by simp [lapp]; omega
    refine Wq.bind (r_with hs hlen hmem hr.cells) fun y hy => ?_
    rw [w_cnd]
    unfold askS
    have hfe : fitS (withS s (lapp s.orders [beginZ r])) ↔ fitS (⟨s.accounts, s.symbols, lapp s.orders [beginZ r], mkCells s (lapp s.orders [beginZ r]), s.limits, s.caps, s.kill, r.order, s.seq, s.lsn⟩ : SState) := Iff.rfl
    refine ⟨fun h => (w_some _).2 ?_, fun h => ?_⟩
    · rw [bnot_T] at h
      have hn : ¬ fitS (withS s (lapp s.orders [beginZ r])) := fun hf => by rw [hy.1.2 hf] at h; cases h
      rw [if_pos (fun hf => hn (hfe.2 hf))]
      exact bad 3 (by decide)
    · rw [bnot_F] at h
      have hfit := hy.1.1 h
      rw [hy.2 h, if_neg (fun hf => hf (hfe.1 hfit))]
      have ht : sizedP (withS s (lapp s.orders [beginZ r])) := sized_of hs rfl rfl (mkCells_len _ _) rfl rfl hlen
      rw [r_Limits (t := withS s (lapp s.orders [beginZ r])) hR ht rfl rfl hfit.1 hfit.2 (by omega) hacc (by omega) hsym, ob_some, c_dec]
      have hse : stopP s (withS s (lapp s.orders [beginZ r])) r.account r.symbol ↔ stopP s (⟨s.accounts, s.symbols, lapp s.orders [beginZ r], mkCells s (lapp s.orders [beginZ r]), s.limits, s.caps, s.kill, r.order, s.seq, s.lsn⟩ : SState) r.account r.symbol := Iff.rfl
      by_cases hst : stopP s (withS s (lapp s.orders [beginZ r])) r.account r.symbol
      · rw [if_pos hst, if_pos (hse.1 hst), w_some]
        exact bad 4 (by decide)
      · rw [if_neg hst, if_neg (fun h => hst (hse.2 h)), cnd_t (by rw [ieq_T]; exact k1), w_some]
        rfl
  · have k2 : r.kind = 2 := hk.resolve_left k1
    rw [if_neg k1, if_pos k2, cnd_f (by rw [ieq_F]; exact k1), r_Find s r.order (by omega), ob_some]
    cases hf : findZ s.orders r.order with
    | none =>
      rw [findI_none hf, cnd_t (by decide), w_some]
      exact bad 7 (by decide)
    | some m =>
      obtain ⟨hm1, hm2⟩ := findZ_some hf
      have hra : 1 ≤ r.qty ∧ 1 ≤ r.price := by omega
      rw [findI_some hf, cnd_f (ilt_f (by omega)), cnd_t (inb _ m hm1), lget_nat _ m hm1]
      simp only [lget_eq' _ m hm1]
      have hoi := hz.ords _ (List.getElem_mem hm1)
      have hro := hr.orders.1 _ (List.getElem_mem hm1)
      refine Wq.bind (r_order_Change hoi.1 hro hra.1 hra.2) fun y hy => ?_
      by_cases hch : changeP s.orders[m]
      case neg =>
        rw [if_pos hch, cnd_t (by rw [bnot_T, ieq_F]; exact hy.2 hch), w_some]
        exact bad 8 (by decide)
      rw [if_neg (fun h : ¬ changeP s.orders[m] => h hch), hy.1 hch]
      simp only [ieq_00, bnot_true, cnd_false]
      by_cases hkill : s.kill = true
      · rw [cnd_t hkill, w_some, if_pos hkill]
        exact bad 5 (by decide)
      rw [cnd_f (by simpa using hkill), if_neg hkill, r_put hm1 (by omega), ob_some]
      have hpo := change_ord hoi.1 hch hra.1 hra.2
      have hpr := change_rng hro hch hrr.qty hrr.price
      have hmem : ∀ o ∈ s.orders.set m (changeZ s.orders[m] r.qty r.price), orderIn s o ∧ Ok_order o := fun o h => by
        rcases mem_set_cases h with h | rfl
        · exact hall o h
        · exact ⟨⟨hpo, hoi.2.1, hoi.2.2.1, hoi.2.2.2⟩, hpr⟩
      have hlen : (s.orders.set m (changeZ s.orders[m] r.qty r.price)).length ≤ 64 := by simp; omega
      refine Wq.bind (r_with hs hlen hmem hr.cells) fun z hz' => ?_
      rw [w_cnd, lset_eq']
      unfold askS
      refine ⟨fun h => (w_some _).2 ?_, fun h => ?_⟩
      · rw [bnot_T] at h
        have hn : ¬ fitS (withS s (s.orders.set m (changeZ s.orders[m] r.qty r.price))) := fun hf => by rw [hz'.1.2 hf] at h; cases h
        rw [if_pos hn]
        exact bad 3 (by decide)
      · rw [bnot_F] at h
        have hfit := hz'.1.1 h
        rw [hz'.2 h, if_neg (fun hf => hf hfit)]
        have ht : sizedP (withS s (s.orders.set m (changeZ s.orders[m] r.qty r.price))) := sized_of hs rfl rfl (mkCells_len _ _) rfl rfl hlen
        show Wq (obind (F_snaffleref10_Limits s (withS s (s.orders.set m (changeZ s.orders[m] r.qty r.price))) s.orders[m].account s.orders[m].symbol) _) _
        rw [r_Limits hR ht rfl rfl hfit.1 hfit.2 hoi.1.1.2.1.1 hoi.2.2.1 hoi.1.1.2.2.1.1 hoi.2.2.2, ob_some, c_dec]
        by_cases hst : stopP s (withS s (s.orders.set m (changeZ s.orders[m] r.qty r.price))) s.orders[m].account s.orders[m].symbol
        · rw [if_pos hst, if_pos hst, w_some]
          exact bad 4 (by decide)
        · rw [if_neg hst, if_neg hst, cnd_f (by rw [ieq_F]; exact k1), w_some]
          rfl
theorem evL_step (l : List SOrder) (m : Nat) (p x : SOrder) (a : List SOrder) (c : Prop) [Decidable c] (ha : a = if c then l.eraseIdx m else l.set m p) :
    (l.length ≠ m → (if c then (l ++ [x]).eraseIdx m else (l ++ [x]).set m p) = a ++ [x]) ∧ (l.length = m → (if c then (l ++ [x]).eraseIdx m else (l ++ [x]).set m p) = if c then a else a ++ [p]) := by
  subst ha
  constructor
  · intro h
    split
    · by_cases hlt : m < l.length
      · rw [List.eraseIdx_append_of_lt_length hlt]
      · rw [List.eraseIdx_of_length_le (l := l ++ [x]) (by simp; omega), List.eraseIdx_of_length_le (l := l) (by omega)]
    · by_cases hlt : m < l.length
      · rw [List.set_append_left _ _ hlt]
      · rw [List.set_eq_of_length_le (l := l ++ [x]) (by simp; omega), List.set_eq_of_length_le (l := l) (by omega)]
  · intro h
    split
    · rw [List.eraseIdx_append_of_length_le (by omega), List.eraseIdx_of_length_le (l := l) (by omega), show m - l.length = 0 by omega]; simp
    · rw [List.set_append_right _ _ (by omega), List.set_eq_of_length_le (l := l) (by omega), show m - l.length = 0 by omega]; simp
theorem r_event {s : SState} {r : SRec} (hm : mayP s r) (hr : Ok_state s) (hrr : Ok_recd r) (hk : r.kind = 6) :
    Wq (F_snaffleref10_event s r) fun y => cnd (bnot (ieq y.2 0)) (some (s, y.2)) (some (⟨y.1.accounts, y.1.symbols, y.1.orders, y.1.cells, y.1.limits, y.1.caps, y.1.kill, y.1.last, y.1.seq, wr IntKind.i64 (iadd s.lsn 1)⟩, 0)) = some (doS s r) := by
  have hright0 := doS_right hm.1 hr hrr
  obtain ⟨hR, hrec, hlsn, hacc, hsym, hord⟩ := id hm
  have hs := hR.sized
  obtain ⟨lc, ll, lcp, lo⟩ := hs.lens
  have hz := hR.fine
  have hl0 := hz.lsn
  have hq0 := hz.seq
  have hwr : wr IntKind.i64 (iadd s.lsn 1) = s.lsn + 1 := wr_lsn hl0.1 hlsn
  have hall : ∀ o ∈ s.orders, orderIn s o ∧ Ok_order o := fun o h => ⟨hz.ords o h, hr.orders.1 o h⟩
  have hrec' := hrec
  unfold recP knownP at hrec'
  rw [hwr]
  unfold F_snaffleref10_event
  unfold doS
  rw [if_neg (fun h : ¬ mayP s r => h hm), if_neg (by omega), if_neg (by omega), if_neg (by omega), if_neg (by omega), if_neg (by omega)]
  have hws : wr IntKind.i64 (isub r.seq 1) = r.seq - 1 := by unfold isub; exact wr_small (by omega) (by omega)
  rw [hws, c_bnot, c_ieq]
  by_cases c1 : r.seq = s.seq + 1
  case neg =>
    rw [if_neg (by omega), if_pos c1, w_some]; rfl
  rw [if_pos (by omega), if_neg (fun h : r.seq ≠ s.seq + 1 => h c1), r_Find s r.order (by omega), ob_some]
  cases hf : findZ s.orders r.order with
  | none =>
    rw [findI_none hf, cnd_t (by decide), w_some]; rfl
  | some m =>
    obtain ⟨hm1, hm2⟩ := findZ_some hf
    rw [findI_some hf, cnd_f (ilt_f (by omega)), cnd_t (inb _ m hm1), lget_nat _ m hm1]
    simp only [lget_eq' _ m hm1]
    have hoi := hz.ords _ (List.getElem_mem hm1)
    have hro := hr.orders.1 _ (List.getElem_mem hm1)
    have hnote : recP (noteR ⟨r.seq, r.what, r.order, r.qty, r.price⟩) := by
      refine .inr (.inr (.inr (.inr (.inr ⟨rfl, ?_⟩))))
      rcases hrec with h | h | h | h | h | h
      · omega
      · omega
      · omega
      · omega
      · omega
      · exact ⟨h.2.1, rfl, rfl, rfl, rfl, rfl, rfl, rfl, h.2.2.2.2.2.2.2.2.2⟩
    rw [r_order_Take hoi.1 hro hnote hm2.symm hrr.qty]
    cases ht : takeZ s.orders[m] r.what r.qty r.price with
    | none =>
      simp only [ob_some]
      rw [cnd_t (by decide), w_some]; rfl
    | some p =>
      simp only [ob_some, ieq_00, bnot_true, cnd_false]
      have hd : (doS s r).1 = evS s r m p := by
        unfold doS
        rw [if_neg (fun h : ¬ mayP s r => h hm), if_neg (by omega), if_neg (by omega), if_neg (by omega), if_neg (by omega), if_neg (by omega), if_neg (fun h : r.seq ≠ s.seq + 1 => h c1)]
        simp only [hf, lget_eq' _ m hm1, ht]
      have hright : RightS (evS s r m p) := by rw [← hd]; exact hright0
      have hq3 : r.what = 3 → 1 ≤ r.qty := fun h => by omega
      have hp := take_q hoi.1 hro ht hq3 (fun h => by omega) hrr.qty hrr.price
      obtain ⟨k, g1, g2, g3⟩ := at_rng hs hoi
      have hat : atZ s.symbols p = (k : Int) := by unfold atZ; rw [hp.account, hp.symbol]; exact g2
      unfold F_book_ledger_cellOf at g1
      have g1 := Option.some.inj g1
      refine Wq.bind (Q := fun l => l = if p.phase = 3 then s.orders.eraseIdx m else s.orders.set m p)
        (w_for (n := s.orders.length) (step := fun v : Int × List SOrder => L_snaffleref10_event_131066 (m : Int) p s v.fst v.snd) (by omega)
          (fun i x => x = if p.phase = 3 then (s.orders.take i).eraseIdx m else (s.orders.take i).set m p) _ ?_ ?_ _ 0 (Nat.zero_le _) (by simp)) ?_
      · rintro i x hi hx
        have hst := evL_step (s.orders.take i) m p s.orders[i] x (p.phase = 3) hx
        have hlt : (s.orders.take i).length = i := by simp; omega
        rw [hlt] at hst
        rw [← List.take_succ_eq_append_getElem hi] at hst
        have hxl : x.length ≤ 64 := by
          rw [hx]
          split
          · have := List.length_eraseIdx_le (s.orders.take i) m; omega
          · simp; omega
        simp only [L_snaffleref10_event_131066]
        rw [cnd_t (by rw [ilt_nat]; simpa using hi), c_bnot, c_ieq]
        by_cases e : i = m
        · rw [if_pos (by omega), c_bnot, c_ieq]
          rw [hst.2 e]
          by_cases h3 : p.phase = 3
          · rw [if_pos h3, if_pos h3, w_some]
            exact ⟨wr_succ (by omega), rfl⟩
          · rw [if_neg h3, if_neg h3, cnd_t (ile_t (by simp [lapp, len]; omega)), w_some]
            exact ⟨wr_succ (by omega), rfl⟩
        · rw [if_neg (by omega), cnd_t (inb _ i hi), lget_nat _ i hi, cnd_t (ile_t (by simp [lapp, len]; omega)), w_some]
          exact ⟨wr_succ (by omega), by rw [hst.1 (by omega)]; rfl⟩
      · rintro x hx
        simp only [L_snaffleref10_event_131066]
        rw [cnd_f (by rw [ilt_nat]; simp), w_some]
        simp only [List.take_length] at hx
        exact hx
      · rintro l rfl
        have hacc' : wr IntKind.i64 (iadd (wr IntKind.i64 (imul p.account s.symbols)) p.symbol) = (k : Int) := by rw [hp.account, hp.symbol]; exact g1
        have hmem : ∀ o ∈ (if p.phase = 3 then s.orders.eraseIdx m else s.orders.set m p), orderIn s o ∧ Ok_order o := fun o ho => by
          split at ho
          · exact hall o (List.mem_of_mem_eraseIdx ho)
          · rename_i h3
            rcases mem_set_cases ho with h | rfl
            · exact hall o h
            · exact ⟨⟨hp.ord, h3, by rw [hp.account]; exact hoi.2.2.1, by rw [hp.symbol]; exact hoi.2.2.2⟩, hp.rng⟩
        have hlen : (if p.phase = 3 then s.orders.eraseIdx m else s.orders.set m p).length ≤ 64 := by
          split
          · have := List.length_eraseIdx_le s.orders m; omega
          · simp; omega
        have fin : ∀ s' : SState, s'.accounts = s.accounts → s'.symbols = s.symbols → s'.limits = s.limits → s'.caps = s.caps → s'.kill = s.kill → s'.last = s.last → s'.seq = r.seq → s'.cells.length = s.cells.length → s'.orders.length ≤ 64 → okL ok_cell s'.cells → s'.cells = (if r.what = 3 then movC s s.orders[m] r.qty else s.cells) →
            Wq (F_snaffleref10_with s' (if p.phase = 3 then s.orders.eraseIdx m else s.orders.set m p)) fun y => cnd (bnot (ieq ((y.1, (0 : Int)).2) 0)) (some (s, (y.1, (0 : Int)).2)) (some ((⟨y.1.accounts, y.1.symbols, y.1.orders, y.1.cells, y.1.limits, y.1.caps, y.1.kill, y.1.last, y.1.seq, s.lsn + 1⟩ : SState), (0 : Int))) = some (evS s r m p, 0) := by
          intro s' h1 h2 h3 h4 h5 h6 h7 h8 h9 h10 h11
          have hs' : sizedP s' := sized_of hs h1 h2 h8 (by rw [h3]) (by rw [h4]) h9
          have hmem' : ∀ o ∈ (if p.phase = 3 then s.orders.eraseIdx m else s.orders.set m p), orderIn s' o ∧ Ok_order o := fun o ho => by
            obtain ⟨⟨a1, a2, a3, a4⟩, a5⟩ := hmem o ho
            exact ⟨⟨a1, a2, by omega, by omega⟩, a5⟩
          refine (r_with hs' hlen hmem' h10).mono fun y hy => ?_
          have hev : evS s r m p = ⟨s.accounts, s.symbols, (if p.phase = 3 then s.orders.eraseIdx m else s.orders.set m p), mkCells s' (if p.phase = 3 then s.orders.eraseIdx m else s.orders.set m p), s.limits, s.caps, s.kill, s.last, r.seq, s.lsn + 1⟩ := by
            unfold evS withS
            simp only [lget_eq' _ m hm1, lset_eq']
            congr 1
            unfold mkCells
            simp only [h2, h11]
          have hfit : fitS (withS s' (if p.phase = 3 then s.orders.eraseIdx m else s.orders.set m p)) := by
            have a1 := hright.ok; have a2 := hright.acct
            simp only [hev] at a1 a2
            refine ⟨a1, ?_⟩
            show acctOk s'.accounts s'.symbols _
            rw [h1, h2]; exact a2
          have hy2 := hy.2 (hy.1.2 hfit)
          rw [hy2, hev]
          simp only [ieq_00, bnot_true, cnd_false, withS, h1, h2, h3, h4, h5, h6, h7]
        have hck : Ok_cell s.cells[k] := hr.cells.1 _ (List.getElem_mem g3)
        rw [c_ieq]
        by_cases h3 : r.what = 3
        · rw [if_pos h3, cnd_t (ile_t (by simp only [len]; omega)), hacc']
          have hside := hoi.1.1.2.2.2.1
          have hpk := (hR.ok _ (List.getElem_mem g3))
          rw [hp.side, c_ieq]
          obtain ⟨hev1, hev2⟩ := ev_cell hR hr m hm1 k g3 g2 hp hq3
          have hev3 := hev2 h3
          have hpos := hev3.1.pos
          simp only at hpos
          have hmov : movC s s.orders[m] r.qty = s.cells.set k ⟨if s.orders[m].side = 1 then s.cells[k].pos + r.qty else s.cells[k].pos - r.qty, s.cells[k].buy, s.cells[k].sell, s.cells[k].opn⟩ := by
            unfold movC
            rw [g2, lget_nat _ k g3, lset_eq]
          simp only [cnd_t (inb _ k g3), lget_nat _ k g3, lset_eq]
          by_cases hsd : s.orders[m].side = 1
          · rw [if_pos hsd]
            rw [if_pos hsd] at hpos hmov
            have hwp : wr IntKind.i64 (iadd s.cells[k].pos r.qty) = s.cells[k].pos + r.qty := wr_in hpos
            rw [hwp, w_bind]
            refine (fin ⟨s.accounts, s.symbols, s.orders, s.cells.set k ⟨s.cells[k].pos + r.qty, s.cells[k].buy, s.cells[k].sell, s.cells[k].opn⟩, s.limits, s.caps, s.kill, s.last, r.seq, s.lsn⟩ rfl rfl rfl rfl rfl rfl rfl (by simp) lo (okL_set hr.cells ⟨hpos, hck.buy, hck.sell, hck.opn⟩) (by rw [if_pos h3, hmov])).mono fun y hy => (w_some _).2 hy
          · rw [if_neg hsd]
            rw [if_neg hsd] at hpos hmov
            have hwp : wr IntKind.i64 (isub s.cells[k].pos r.qty) = s.cells[k].pos - r.qty := wr_in hpos
            rw [hwp, w_bind]
            refine (fin ⟨s.accounts, s.symbols, s.orders, s.cells.set k ⟨s.cells[k].pos - r.qty, s.cells[k].buy, s.cells[k].sell, s.cells[k].opn⟩, s.limits, s.caps, s.kill, s.last, r.seq, s.lsn⟩ rfl rfl rfl rfl rfl rfl rfl (by simp) lo (okL_set hr.cells ⟨hpos, hck.buy, hck.sell, hck.opn⟩) (by rw [if_pos h3, hmov])).mono fun y hy => (w_some _).2 hy
        · rw [if_neg h3, w_bind]
          refine (fin ⟨s.accounts, s.symbols, s.orders, s.cells, s.limits, s.caps, s.kill, s.last, r.seq, s.lsn⟩ rfl rfl rfl rfl rfl rfl rfl rfl lo hr.cells (by rw [if_neg h3])).mono fun y hy => (w_some _).2 hy
theorem r_Do {s : SState} {r : SRec} (hr : Ok_state s) (hrr : Ok_recd r) (hsh : shortP s) : F_snaffleref10_Do s r = some (doS s r) := by
  refine Wq.eq ?_
  unfold F_snaffleref10_Do
  refine (r_Right hr hsh).bind fun b0 h0 => ?_
  refine Wq.bind (Q := fun b => b = true ↔ (b0 = true ∧ recP r)) ?_ fun b1 h1 => ?_
  · rw [w_cnd]
    refine ⟨fun h => (r_rec_Right r).mono fun b hb => ?_, fun h => (w_some _).2 ?_⟩
    · simp only [band_T, band_F, bor_T, bor_F, bnot_T, bnot_F, ilt_T, ilt_F, ile_T, ile_F, ieq_T, ieq_F, beq_T, beq_F] at h
      rw [hb]; simp [h]
    · simp only [band_T, band_F, bor_T, bor_F, bnot_T, bnot_F, ilt_T, ilt_F, ile_T, ile_F, ieq_T, ieq_F, beq_T, beq_F] at h
      simp [h]
  have hmay : (bor (bor (bor (bor (bor (bnot b0) (bnot b1)) (ile 1000000000 s.lsn)) (ile s.accounts r.account)) (ile s.symbols r.symbol)) (band (ieq r.kind 1) (ile r.order s.last)) = true) ↔ ¬ mayP s r := by
    unfold mayP
    simp only [band_T, band_F, bor_T, bor_F, bnot_T, bnot_F, ilt_T, ilt_F, ile_T, ile_F, ieq_T, ieq_F, beq_T, beq_F]
    rw [← h0]
    constructor
    · rintro (((((h | h) | h) | h) | h) | ⟨h, h'⟩) ⟨a1, a2, a3, a4, a5, a6⟩
      · rw [a1] at h; cases h
      · rw [h1.2 ⟨a1, a2⟩] at h; cases h
      · omega
      · omega
      · omega
      · have := a6 h; omega
    · intro h
      by_cases a1 : b0 = true
      case neg => exact .inl (.inl (.inl (.inl (.inl (by simpa using a1)))))
      by_cases a2 : recP r
      case neg => exact .inl (.inl (.inl (.inl (.inr (by cases e : b1 with | true => exact absurd (h1.1 e).2 a2 | false => rfl)))))
      by_cases a3 : s.lsn < 1000000000
      case neg => exact .inl (.inl (.inl (.inr (by omega))))
      by_cases a4 : r.account < s.accounts
      case neg => exact .inl (.inl (.inr (by omega)))
      by_cases a5 : r.symbol < s.symbols
      case neg => exact .inl (.inr (by omega))
      refine .inr ?_
      by_cases a6 : r.kind = 1
      · exact ⟨a6, by by_cases a7 : s.last < r.order; exact absurd ⟨a1, a2, a3, a4, a5, fun _ => a7⟩ h; omega⟩
      · exact absurd ⟨a1, a2, a3, a4, a5, fun h => absurd h a6⟩ h
  rw [cnd_if]
  by_cases hm : mayP s r
  case neg =>
    rw [if_pos (hmay.2 hm), w_some]
    unfold doS; rw [if_pos hm]
  rw [if_neg (fun h => hmay.1 h hm)]
  obtain ⟨hR, hrec, hlsn, hacc, hsym, hord⟩ := id hm
  have hs := hR.sized
  obtain ⟨lc, ll, lcp, lo⟩ := hs.lens
  have h1a := hs.1
  have h1b := hs.2.1
  have hz := hR.fine
  have hl0 := hz.lsn
  have hwr : wr IntKind.i64 (iadd s.lsn 1) = s.lsn + 1 := wr_lsn hl0.1 hlsn
  have hrec' := hrec
  unfold recP knownP at hrec'
  have ask : r.kind = 1 ∨ r.kind = 2 → Wq (obind (F_snaffleref10_asked s r) fun y2 ↦ cnd (bnot (ieq y2.snd 0)) (some (s, y2.snd)) (some (SState.mk y2.fst.accounts y2.fst.symbols y2.fst.orders y2.fst.cells y2.fst.limits y2.fst.caps y2.fst.kill y2.fst.last y2.fst.seq (wr IntKind.i64 (iadd s.lsn 1)), 0))) fun x => x = doS s r := fun hk =>
    Wq.bind (r_asked hm hr hrr hk) fun y hy => by rw [hy]; exact (w_some _).2 rfl
  rw [c_ieq]
  by_cases k1 : r.kind = 1
  · rw [if_pos k1, cnd_t (by rw [ieq_T]; exact k1)]
    exact ask (.inl k1)
  rw [if_neg k1, c_ieq]
  by_cases k2 : r.kind = 2
  · rw [if_pos k2]
    exact ask (.inr k2)
  rw [if_neg k2, c_ieq]
  by_cases k3 : r.kind = 3
  · rw [if_pos k3, r_Find s r.order (by omega), ob_some]
    unfold doS
    rw [if_neg (fun h : ¬ mayP s r => h hm), if_neg k1, if_neg k2, if_pos k3]
    cases hf : findZ s.orders r.order with
    | none => rw [findI_none hf, cnd_t (by decide), w_some]
    | some m =>
      obtain ⟨hm1, hm2⟩ := findZ_some hf
      rw [findI_some hf, cnd_f (ilt_f (by omega)), cnd_t (inb _ m hm1), lget_nat _ m hm1]
      simp only [lget_eq' _ m hm1]
      have hoi := hz.ords _ (List.getElem_mem hm1)
      rw [r_order_End hoi.1 hoi.2.1, ob_some]
      by_cases ha : s.orders[m].asked = true
      · rw [if_pos ha, if_pos ha]; exact (w_some _).2 rfl
      · rw [if_neg ha, if_neg ha]
        simp only [ieq_00, bnot_true, cnd_false]
        rw [r_put hm1 (by omega), ob_some, w_some, hwr]; rfl
  rw [if_neg k3, c_ieq]
  by_cases k4 : r.kind = 4
  · rw [if_pos k4, c_ieq]
    unfold doS
    rw [if_neg (fun h : ¬ mayP s r => h hm), if_neg k1, if_neg k2, if_neg k3, if_pos k4]
    by_cases hy : r.symbol = -1
    · rw [if_pos hy, if_pos hy, cnd_t (ile_t (by simp only [len]; omega)), cnd_t (band_t (ile_t (by omega)) (ilt_t (by simp only [len]; omega))), w_some, hwr]
    · rw [if_neg hy, if_neg hy, cnd_t (ile_t (by simp only [len]; omega))]
      obtain ⟨k, g1, g2, g3⟩ := s_cellOf hs r.account r.symbol (by omega) hacc (by omega) hsym
      unfold F_book_ledger_cellOf at g1
      have g1 := Option.some.inj g1
      rw [g1, cnd_t (inb _ k (by omega)), w_some, hwr, g2]
  rw [if_neg k4, c_ieq]
  by_cases k5 : r.kind = 5
  · rw [if_pos k5, w_some, hwr]
    unfold doS
    rw [if_neg (fun h : ¬ mayP s r => h hm), if_neg k1, if_neg k2, if_neg k3, if_neg k4, if_pos k5]
  rw [if_neg k5]
  exact Wq.bind (r_event hm hr hrr (by omega)) fun y hy => by rw [hy]; exact (w_some _).2 rfl
end Go.Av

namespace Go.Av
open Go
set_option linter.unusedVariables false
set_option linter.unusedSimpArgs false
/-! A state's beginning. -/
def repL {α : Type} (v0 : Int) (v1 : List α) : Option ((Int × List α) ⊕ List α) := cnd (ilt v0 (len v1)) (cnd (band (ile 0 v0) (ile v0 (len v1))) (cnd (band (ile 0 v0) (ile v0 (len v1))) (some (Sum.inl (wr IntKind.i64 (iadd v0 (imin (len (ltake (ldrop v1 0) (itn v0))) (nti (itn (isub (len v1) v0))))), lcpy v1 (itn v0) (ltake (ltake (ldrop v1 0) (itn v0)) (itn (imin (len (ltake (ldrop v1 0) (itn v0))) (nti (itn (isub (len v1) v0))))))))) none) none) (some (Sum.inr v1))
theorem imin_min (a b : Int) : imin a b = min a b := by unfold imin; split <;> omega
theorem rep_run {α : Type} (x : α) (n m : Nat) (l : List α) (hn : n < 999999) (h1 : 1 ≤ m) (h2 : m ≤ n) (hl : l.length = n) (hx : ∀ (j : Nat) (h : j < l.length), j < m → l[j] = x) :
    Wq (iterN (fun v : Int × List α => repL v.fst v.snd) LF ((m : Int), l)) fun w => w = List.replicate n x := by
  refine w_iter (fun v : Int × List α => n - v.1.toNat) (fun v : Int × List α => ∃ m : Nat, v.1 = (m : Int) ∧ 1 ≤ m ∧ m ≤ n ∧ v.2.length = n ∧ ∀ (j : Nat) (h : j < v.2.length), j < m → v.2[j] = x) _ ?_ LF _ (lt_LF (by simp only; omega)) ⟨m, rfl, h1, h2, hl, hx⟩
  rintro ⟨k, y⟩ ⟨i, hk, hi, hi2, hy, hj⟩
  simp only at hk hy hj
  subst hk
  unfold repL
  by_cases hlt : i < n
  · rw [cnd_t (by rw [ilt_nat]; simpa [hy] using hlt), cnd_t (band_t (ile_t (by omega)) (ile_t (by simp only [len]; omega))), cnd_t (band_t (ile_t (by omega)) (ile_t (by simp only [len]; omega))), w_some]
    have e1 : ltake (ldrop y 0) (itn (i : Int)) = y.take i := by simp [ltake, ldrop, itn]
    have e2 : imin (len (y.take i)) (nti (itn (isub (len y) (i : Int)))) = ((min i (n - i) : Nat) : Int) := by
      rw [imin_min]; unfold len nti itn isub; rw [List.length_take]; omega
    rw [e1, e2]
    have e3 : wr IntKind.i64 (iadd (i : Int) ((min i (n - i) : Nat) : Int)) = ((i + min i (n - i) : Nat) : Int) := by
      rw [wr_small (by unfold iadd; omega) (by unfold iadd; omega)]; unfold iadd; omega
    rw [e3]
    have e4 : lcpy y (itn (i : Int)) (ltake (y.take i) (itn ((min i (n - i) : Nat) : Int))) = y.take i ++ ((y.take i).take (min i (n - i)) ++ y.drop (i + min i (n - i))) := by
      unfold lcpy ltake itn
      simp only [Int.toNat_natCast, List.length_take]
      congr 3; omega
    rw [e4]
    refine ⟨⟨_, rfl, by omega, by omega, ?_, fun j h hj2 => ?_⟩, ?_⟩
    · simp only [List.length_append, List.length_take, List.length_drop]; omega
    · simp only [List.getElem_append, List.length_take]
      split
      · rw [List.getElem_take]; exact hj j (by omega) (by omega)
      · split
        · rw [List.getElem_take, List.getElem_take]; exact hj _ (by omega) (by omega)
        · omega
    · simp only [Int.toNat_natCast]; omega
  · have hin : i = n := by omega
    subst hin
    rw [cnd_f (by rw [ilt_nat]; simp [hy]), w_some]
    exact List.eq_replicate_iff.2 ⟨hy, fun b hb => by obtain ⟨j, h, rfl⟩ := List.getElem_of_mem hb; exact hj j h (by simp only at h; omega)⟩
theorem e_Mul1 (n : Nat) (hn : n ≤ 64) : F_math_bits_Mul (wr IntKind.u64 1) (wr IntKind.u64 (n : Int)) = some (0, (n : Int)) := by
  have e : wr IntKind.u64 (n : Int) = (n : Int) := by
    have : ∀ k : Fin 65, wr IntKind.u64 ((k : Nat) : Int) = ((k : Nat) : Int) := by decide
    exact this ⟨n, by omega⟩
  have e1 : wr IntKind.u64 1 = 1 := by decide
  unfold F_math_bits_Mul
  rw [e, e1, e_Mul64 (by decide) (by decide) (by omega) (by omega), ob_some]
  congr 1
  refine Prod.ext ?_ ?_ <;> simp only <;> omega
theorem rep_start {α : Type} [Inhabited α] (x : α) (n : Nat) (h1 : 1 ≤ n) (h2 : n ≤ 64) :
    (imin (len [x]) (len (lrep α (itn (wr IntKind.i64 (n : Int))))), lcpy (lrep α (itn (wr IntKind.i64 (n : Int)))) 0 (ltake [x] (itn (imin (len [x]) (len (lrep α (itn (wr IntKind.i64 (n : Int))))))))) = (((1 : Nat) : Int), x :: List.replicate (n - 1) default) := by
  have e : wr IntKind.i64 (n : Int) = (n : Int) := wr_small (by omega) (by omega)
  have e2 : imin (len [x]) (len (lrep α n)) = 1 := by rw [imin_min]; unfold len lrep; simp; omega
  have e3 : itn (n : Int) = n := Int.toNat_natCast n
  have e4 : itn 1 = 1 := rfl
  rw [e, e3, e2, e4]
  refine Prod.ext rfl ?_
  show [] ++ ([x] ++ (List.replicate n default).drop (0 + 1)) = _
  simp
theorem e_rep_expo (x : SExpo) (n : Nat) (h1 : 1 ≤ n) (h2 : n ≤ 64) : F_slices_Repeat_api_Expo [x] (n : Int) = some (List.replicate n x) := by
  refine Wq.eq ?_
  unfold F_slices_Repeat_api_Expo
  have e : wr IntKind.i64 (n : Int) = (n : Int) := wr_small (by omega) (by omega)
  rw [cnd_f (ilt_f (by omega)), show len [x] = 1 from rfl, e_Mul1 n h2, ob_some, cnd_f (by simp only [band_T, band_F, bor_T, bor_F, bnot_T, bnot_F, ilt_T, ilt_F, ile_T, ile_F, ieq_T, ieq_F, beq_T, beq_F]; omega)]
  rw [cnd_t (by simp only [e, band_T, band_F, bor_T, bor_F, bnot_T, bnot_F, ilt_T, ilt_F, ile_T, ile_F, ieq_T, ieq_F, beq_T, beq_F]; omega)]
  refine Wq.bind (Q := fun w => w = List.replicate n x) ?_ fun w hw => by rw [w_some]; exact hw
  have := rep_start x n h1 h2
  rw [show len [x] = 1 from rfl] at this
  simp only at this ⊢
  rw [this]
  exact rep_run x n 1 _ (by omega) (Nat.le_refl _) h1 (by simp; omega) fun j h hj => by
    obtain rfl : j = 0 := by omega
    rfl
theorem e_rep_int (x : Int) (n : Nat) (h1 : 1 ≤ n) (h2 : n ≤ 64) : F_slices_Repeat_int64 [x] (n : Int) = some (List.replicate n x) := by
  refine Wq.eq ?_
  unfold F_slices_Repeat_int64
  have e : wr IntKind.i64 (n : Int) = (n : Int) := wr_small (by omega) (by omega)
  rw [cnd_f (ilt_f (by omega)), show len [x] = 1 from rfl, e_Mul1 n h2, ob_some, cnd_f (by simp only [band_T, band_F, bor_T, bor_F, bnot_T, bnot_F, ilt_T, ilt_F, ile_T, ile_F, ieq_T, ieq_F, beq_T, beq_F]; omega)]
  rw [cnd_t (by simp only [e, band_T, band_F, bor_T, bor_F, bnot_T, bnot_F, ilt_T, ilt_F, ile_T, ile_F, ieq_T, ieq_F, beq_T, beq_F]; omega)]
  refine Wq.bind (Q := fun w => w = List.replicate n x) ?_ fun w hw => by rw [w_some]; exact hw
  have := rep_start x n h1 h2
  rw [show len [x] = 1 from rfl] at this
  simp only at this ⊢
  rw [this]
  exact rep_run x n 1 _ (by omega) (Nat.le_refl _) h1 (by simp; omega) fun j h hj => by
    obtain rfl : j = 0 := by omega
    rfl
def zS : SState := ⟨0, 0, [], [], [], [], false, 0, 0, 0⟩
def newS (n m : Int) (l : SExpo) (c : Int) : SState := ⟨n, m, [], List.replicate (n * m).toNat zC, List.replicate (n * m).toNat l, List.replicate n.toNat c, false, 0, 0, 0⟩
def dimP (n m : Int) : Prop := 1 ≤ n ∧ n ≤ 8 ∧ 1 ≤ m ∧ m ≤ 8
theorem dim_mul {n m : Int} (h : dimP n m) : 1 ≤ n * m ∧ n * m ≤ 64 :=
  ⟨by have := Int.mul_le_mul h.1 h.2.2.1 (by omega) (by have := h.1; omega); omega, by have := Int.mul_le_mul h.2.1 h.2.2.2 (by have := h.2.2.1; omega) (by omega); omega⟩
theorem zC_ok : okC zC := by decide
theorem whole_zero : ∀ k, wholeZ (List.replicate k zC) = 0
  | 0 => rfl
  | k + 1 => by
    have := whole_zero k
    unfold wholeZ at *
    rw [List.replicate_succ, List.map_cons, List.sum_cons, this]; rfl
theorem new_right {n m : Int} (h : dimP n m) (l : SExpo) (c : Int) : RightS (newS n m l c) ↔ (limP l ∧ 0 ≤ c) := by
  obtain ⟨q1, q2⟩ := dim_mul h
  obtain ⟨d1, d2, d3, d4⟩ := h
  constructor
  · intro hR
    exact ⟨hR.fine.lims l (List.mem_replicate.2 ⟨by omega, rfl⟩), hR.fine.caps c (List.mem_replicate.2 ⟨by omega, rfl⟩)⟩
  · rintro ⟨h1, h2⟩
    refine ⟨?_, ?_, ?_, ?_, ?_⟩
    · refine ⟨⟨d1, d2⟩, ⟨d3, d4⟩, ?_, ?_, ?_, ?_⟩ <;> simp only [newS, len, List.length_replicate, List.length_nil] <;> omega
    · exact ⟨fun o h => (by cases h), List.Pairwise.nil, fun o h => (by cases h), ⟨Int.le_refl _, by show (0 : Int) ≤ _; decide⟩, ⟨Int.le_refl _, by show (0 : Int) ≤ _; decide⟩, ⟨Int.le_refl _, by show (0 : Int) ≤ _; decide⟩, fun x hx => by rw [List.eq_of_mem_replicate hx]; exact h1, fun x hx => by rw [List.eq_of_mem_replicate hx]; exact h2⟩
    · refine List.ext_getElem (by rw [mkCells_len]) fun i g1 g2 => ?_
      rw [mkCells_get]
      simp only [newS, List.getElem_replicate]
      rfl
    · intro c hc
      rw [List.eq_of_mem_replicate hc]; exact zC_ok
    · intro a h3 h4
      have : acctZ (newS n m l c).symbols (newS n m l c).cells a = List.replicate (acctZ (newS n m l c).symbols (newS n m l c).cells a).length zC :=
        List.eq_replicate_iff.2 ⟨rfl, fun b hb => List.eq_of_mem_replicate (acctZ_mem hb)⟩
      rw [this, whole_zero]; decide
theorem new_ok {n m : Int} (h : dimP n m) {l : SExpo} {c : Int} (hl : Ok_expo l) (hc : inI c) : Ok_state (newS n m l c) ∧ shortP (newS n m l c) := by
  obtain ⟨q1, q2⟩ := dim_mul h
  obtain ⟨d1, d2, d3, d4⟩ := h
  refine ⟨⟨?_, ?_, ?_, ?_, ?_, ?_, ?_, ?_, ?_⟩, ?_⟩
  · show inI n
    unfold inI; omega
  · show inI m
    unfold inI; omega
  · exact ⟨fun o h => (by cases h), Nat.zero_le _⟩
  · exact ⟨fun c hc => by rw [List.eq_of_mem_replicate hc]; exact zC_ok.1, by simp only [newS, List.length_replicate]; omega⟩
  · exact ⟨fun c hc => by rw [List.eq_of_mem_replicate hc]; exact hl, by simp only [newS, List.length_replicate]; omega⟩
  · exact ⟨fun c hc => by rw [List.eq_of_mem_replicate hc]; assumption, by simp only [newS, List.length_replicate]; omega⟩
  · exact (show inI 0 by decide)
  · exact (show inI 0 by decide)
  · exact (show inI 0 by decide)
  · unfold shortP newS; simp only [List.length_replicate, List.length_nil]; omega
open Classical in
theorem e_book_New {n m : Int} {l : SExpo} {c : Int} (hl : Ok_expo l) (hc : inI c) : F_book_New n m l c = some (if dimP n m ∧ limP l ∧ 0 ≤ c then (newS n m l c, 0) else (zS, 1)) := by
  refine Wq.eq ?_
  unfold F_book_New
  rw [cnd_if]
  by_cases h : dimP n m
  case neg =>
    rw [if_pos (by simp only [band_T, band_F, bor_T, bor_F, bnot_T, bnot_F, ilt_T, ilt_F, ile_T, ile_F, ieq_T, ieq_F, beq_T, beq_F]; unfold dimP at h; omega), if_neg (fun h2 => h h2.1), w_some]; rfl
  obtain ⟨q1, q2⟩ := dim_mul h
  have hd := id h
  unfold dimP at hd
  rw [if_neg (by simp only [band_T, band_F, bor_T, bor_F, bnot_T, bnot_F, ilt_T, ilt_F, ile_T, ile_F, ieq_T, ieq_F, beq_T, beq_F]; omega)]
  have ew : wr IntKind.i64 (imul n m) = (((n * m).toNat : Nat) : Int) := by
    rw [wr_small (by unfold imul; omega) (by unfold imul; omega)]; unfold imul; omega
  rw [ew, cnd_t (by simp only [band_T, band_F, bor_T, bor_F, bnot_T, bnot_F, ilt_T, ilt_F, ile_T, ile_F, ieq_T, ieq_F, beq_T, beq_F]; omega), e_rep_expo l _ (by omega) (by omega), ob_some]
  have en : n = ((n.toNat : Nat) : Int) := by omega
  have er := e_rep_int c n.toNat (by omega) (by omega)
  rw [← en] at er
  rw [er, ob_some]
  have es : SState.mk n m [] (lrep SCell (itn (((n * m).toNat : Nat) : Int))) (List.replicate (n * m).toNat l) (List.replicate n.toNat c) false 0 0 0 = newS n m l c := rfl
  rw [es]
  obtain ⟨o1, o2⟩ := new_ok h hl hc
  refine (s_book_Right _ o1 o2.1 o2.2.2.1 o2.2.2.2).bind fun b hb => ?_
  rw [new_right h] at hb
  rw [cnd_if]
  by_cases hlc : limP l ∧ 0 ≤ c
  · rw [if_pos (show dimP n m ∧ limP l ∧ 0 ≤ c from ⟨h, hlc⟩), if_neg (by rw [hb.2 hlc]; decide), w_some]
  · rw [if_neg (fun h2 : dimP n m ∧ limP l ∧ 0 ≤ c => hlc h2.2), if_pos (by rw [bnot_T]; cases e : b with | false => rfl | true => exact absurd (hb.1 e) hlc), w_some]; rfl
theorem r_New {n m : Int} {l : SExpo} {c : Int} (h : dimP n m) : F_snaffleref10_New n m l c = some (newS n m l c) := by
  refine Wq.eq ?_
  obtain ⟨q1, q2⟩ := dim_mul h
  obtain ⟨d1, d2, d3, d4⟩ := h
  unfold F_snaffleref10_New
  have em : ((m.toNat : Nat) : Int) = m := by omega
  have en : ((n.toNat : Nat) : Int) = n := by omega
  have emn : (n * m).toNat = n.toNat * m.toNat := by
    have : (n * m) = ((n.toNat * m.toNat : Nat) : Int) := by rw [Int.natCast_mul, en, em]
    omega
  have hb : ∀ i : Nat, i ≤ n.toNat → i * m.toNat ≤ 64 := fun i hi => by
    have := Nat.mul_le_mul_right m.toNat hi; omega
  refine Wq.bind (Q := fun y : Int × Int × List SOrder × List SCell × List SExpo × List Int × Bool × Int × Int × Int => y = (n, m, [], List.replicate (n.toNat * m.toNat) zC, List.replicate (n.toNat * m.toNat) l, List.replicate n.toNat c, false, 0, 0, 0))
    (w_for (n := n.toNat) (step := fun v : Int × Int × Int × List SOrder × List SCell × List SExpo × List Int × Bool × Int × Int × Int => L_snaffleref10_New_58 n m c l v.fst v.snd.fst v.snd.snd.fst v.snd.snd.snd.fst v.snd.snd.snd.snd.fst v.snd.snd.snd.snd.snd.fst v.snd.snd.snd.snd.snd.snd.fst v.snd.snd.snd.snd.snd.snd.snd.fst v.snd.snd.snd.snd.snd.snd.snd.snd.fst v.snd.snd.snd.snd.snd.snd.snd.snd.snd.fst v.snd.snd.snd.snd.snd.snd.snd.snd.snd.snd) (by omega)
      (fun i x => x = (n, m, [], List.replicate (i * m.toNat) zC, List.replicate (i * m.toNat) l, List.replicate i c, false, 0, 0, 0)) _ ?_ ?_ _ 0 (Nat.zero_le _) (by simp)) ?_
  · rintro i x hi rfl
    simp only [L_snaffleref10_New_58]
    have hbi := hb (i + 1) (by omega)
    rw [Nat.add_mul, Nat.one_mul] at hbi
    rw [cnd_t (ilt_t (by omega)), cnd_t (ile_t (by simp only [lapp, len, List.length_append, List.length_replicate, List.length_cons, List.length_nil]; omega))]
    refine Wq.bind (Q := fun y : Int × Int × List SOrder × List SCell × List SExpo × List Int × Bool × Int × Int × Int => y = (n, m, [], List.replicate (i * m.toNat + m.toNat) zC, List.replicate (i * m.toNat + m.toNat) l, List.replicate (i + 1) c, false, 0, 0, 0))
      (w_for (n := m.toNat) (step := fun v : Int × Int × Int × List SOrder × List SCell × List SExpo × List Int × Bool × Int × Int × Int => L_snaffleref10_New_7462 m l v.fst v.snd.fst v.snd.snd.fst v.snd.snd.snd.fst v.snd.snd.snd.snd.fst v.snd.snd.snd.snd.snd.fst v.snd.snd.snd.snd.snd.snd.fst v.snd.snd.snd.snd.snd.snd.snd.fst v.snd.snd.snd.snd.snd.snd.snd.snd.fst v.snd.snd.snd.snd.snd.snd.snd.snd.snd.fst v.snd.snd.snd.snd.snd.snd.snd.snd.snd.snd) (by omega)
        (fun j x => x = (n, m, [], List.replicate (i * m.toNat + j) zC, List.replicate (i * m.toNat + j) l, List.replicate (i + 1) c, false, 0, 0, 0)) _ ?_ ?_ _ 0 (Nat.zero_le _) (by
          show _ = _
          rw [List.replicate_succ' (n := i)]; rfl)) ?_
    · rintro j x hj rfl
      simp only [L_snaffleref10_New_7462]
      rw [cnd_t (ilt_t (by omega)), cnd_t (ile_t (by simp only [lapp, len, List.length_append, List.length_replicate, List.length_cons, List.length_nil]; omega)), cnd_t (ile_t (by simp only [lapp, len, List.length_append, List.length_replicate, List.length_cons, List.length_nil]; omega)), w_some]
      refine ⟨wr_succ (by omega), ?_⟩
      rw [← Nat.add_assoc, List.replicate_succ' (a := zC), List.replicate_succ' (a := l)]; rfl
    · rintro x rfl
      simp only [L_snaffleref10_New_7462]
      rw [cnd_f (ilt_f (by omega)), w_some]
    · rintro y rfl
      rw [w_some]
      exact ⟨wr_succ (by omega), by rw [Nat.add_mul, Nat.one_mul]⟩
  · rintro x rfl
    simp only [L_snaffleref10_New_58]
    rw [cnd_f (ilt_f (by omega)), w_some]
  · rintro y rfl
    rw [w_some]
    unfold newS
    rw [emn]
end Go.Av

namespace Go.Av
open Go
set_option linter.unusedVariables false
set_option linter.unusedSimpArgs false
/-! Where a cell stands, what it comes to, and what is open of an account. -/
theorem e_book_Open_bad {s : SState} (hr : Ok_state s) (hsh : shortP s) {a : Int} (h : ¬ (RightS s ∧ 0 ≤ a ∧ a < s.accounts)) : F_book_Open s a = some (0, 1) := by
  obtain ⟨b, e, q⟩ := s_book_Right s hr hsh.1 hsh.2.2.1 hsh.2.2.2
  unfold F_book_Open
  cases hc : bor (ilt a 0) (ile s.accounts a) with
  | true => simp only [bnot_true, cnd_false, ob_some]; rfl
  | false =>
    have hb : b = false := by
      cases hb : b with
      | false => rfl
      | true =>
        simp only [band_T, band_F, bor_T, bor_F, bnot_T, bnot_F, ilt_T, ilt_F, ile_T, ile_F, ieq_T, ieq_F, beq_T, beq_F] at hc
        exact absurd ⟨q.1 hb, by omega, by omega⟩ h
    subst hb
    simp only [bnot_false, cnd_true, e, ob_some]; rfl
theorem e_book_Place_bad {s : SState} {a y : Int} (h : ¬ (0 ≤ a ∧ a < s.accounts ∧ 0 ≤ y ∧ y < s.symbols)) : F_book_Place s a y = some (-1) := by
  unfold F_book_Place
  rw [cnd_t (by simp only [band_T, band_F, bor_T, bor_F, bnot_T, bnot_F, ilt_T, ilt_F, ile_T, ile_F, ieq_T, ieq_F, beq_T, beq_F]; omega)]
theorem e_book_Place_in {s : SState} {a y : Int} (h : 0 ≤ a ∧ a < s.accounts ∧ 0 ≤ y ∧ y < s.symbols) : F_book_Place s a y = some (wr IntKind.i64 (iadd (wr IntKind.i64 (imul a s.symbols)) y)) := by
  unfold F_book_Place F_book_ledger_cellOf
  rw [cnd_f (by simp only [band_T, band_F, bor_T, bor_F, bnot_T, bnot_F, ilt_T, ilt_F, ile_T, ile_F, ieq_T, ieq_F, beq_T, beq_F]; omega), ob_some]
theorem e_book_Expo_bad {s : SState} (hr : Ok_state s) (hsh : shortP s) {a y : Int} (h : ¬ (RightS s ∧ 0 ≤ a ∧ a < s.accounts ∧ 0 ≤ y ∧ y < s.symbols)) : F_book_Expo s a y = some (⟨0, 0, 0⟩, 1) := by
  obtain ⟨b, e, q⟩ := s_book_Right s hr hsh.1 hsh.2.2.1 hsh.2.2.2
  unfold F_book_Expo
  by_cases hp : 0 ≤ a ∧ a < s.accounts ∧ 0 ≤ y ∧ y < s.symbols
  · rw [e_book_Place_in hp, ob_some]
    generalize wr IntKind.i64 (iadd (wr IntKind.i64 (imul a s.symbols)) y) = v
    have hb : b = false := by
      cases hb : b with
      | false => rfl
      | true => exact absurd ⟨q.1 hb, hp⟩ h
    subst hb
    cases hv : ieq v (-1) with
    | true => simp only [bnot_true, cnd_false, ob_some]; rfl
    | false => simp only [bnot_false, cnd_true, e, ob_some]; rfl
  · rw [e_book_Place_bad hp, ob_some]
    have : ieq (-1 : Int) (-1) = true := rfl
    simp only [this, bnot_true, cnd_false, ob_some]; rfl
theorem e_book_Expo {s : SState} (hr : Ok_state s) (hsh : shortP s) (hR : RightS s) {a y : Int} (h : 0 ≤ a ∧ a < s.accounts ∧ 0 ≤ y ∧ y < s.symbols) :
    ∃ k : Nat, ∃ hk : k < s.cells.length, wr IntKind.i64 (iadd (wr IntKind.i64 (imul a s.symbols)) y) = (k : Int) ∧ F_book_Expo s a y = some (ofC s.cells[k], 0) := by
  obtain ⟨b, e, q⟩ := s_book_Right s hr hsh.1 hsh.2.2.1 hsh.2.2.2
  obtain ⟨k, g1, g2, g3⟩ := s_cellOf hR.sized a y h.1 h.2.1 h.2.2.1 h.2.2.2
  unfold F_book_ledger_cellOf at g1
  have g1 := Option.some.inj g1
  refine ⟨k, g3, g1, ?_⟩
  unfold F_book_Expo
  rw [e_book_Place_in h, ob_some, g1]
  have : ieq (k : Int) (-1) = false := by rw [ieq_F]; omega
  simp only [this, bnot_false, cnd_true, e, q.2 hR, ob_some, bor_false, bnot_true, cnd_false]
  rw [cnd_t (inb _ k g3), lget_nat _ k g3, e_cell_Of (hR.ok _ (List.getElem_mem g3)), ob_some]
theorem tailR {x0 : SState} {x2 x3 : Int} {y2 : Bool} (k0 : Ok_state x0) (hs : shortP x0) (h2 : y2 = true ↔ RightS x0) : Wq (obind (F_book_Expo x0 x2 x3) fun e ↦ obind (F_book_Open x0 x2) fun o ↦ obind (F_book_Place x0 x2 x3) fun a ↦ cnd (bor (band (ile 0 a) (ilt a (len x0.cells))) (bnot (band (band (bnot (band (bnot (band (band (band (ile 0 x2) (ilt x2 x0.accounts)) (ile 0 x3)) (ilt x3 x0.symbols))) (bor (bnot (ieq a (-1))) (bnot (ieq e.snd 1))))) (band (band (band (band (ile 0 x2) (ilt x2 x0.accounts)) (ile 0 x3)) (ilt x3 x0.symbols)) y2)) (bnot (bor (bnot (ieq a (wr IntKind.i64 (iadd (wr IntKind.i64 (imul x2 x0.symbols)) x3)))) (bnot (ieq e.snd 0))))))) (cnd (bor (band (ile 0 a) (ilt a (len x0.cells))) (bnot (band (band (bnot (band (bnot (band (band (band (ile 0 x2) (ilt x2 x0.accounts)) (ile 0 x3)) (ilt x3 x0.symbols))) (bor (bnot (ieq a (-1))) (bnot (ieq e.snd 1))))) (band (band (band (band (ile 0 x2) (ilt x2 x0.accounts)) (ile 0 x3)) (ilt x3 x0.symbols)) y2)) (bnot (bor (bnot (ieq a (wr IntKind.i64 (iadd (wr IntKind.i64 (imul x2 x0.symbols)) x3)))) (bnot (ieq e.snd 0))))))) (cnd (bor (band (ile 0 a) (ilt a (len x0.cells))) (bnot (band (band (bnot (band (bnot (band (band (band (ile 0 x2) (ilt x2 x0.accounts)) (ile 0 x3)) (ilt x3 x0.symbols))) (bor (bnot (ieq a (-1))) (bnot (ieq e.snd 1))))) (band (band (band (band (ile 0 x2) (ilt x2 x0.accounts)) (ile 0 x3)) (ilt x3 x0.symbols)) y2)) (bnot (bor (bnot (ieq a (wr IntKind.i64 (iadd (wr IntKind.i64 (imul x2 x0.symbols)) x3)))) (bnot (ieq e.snd 0))))))) (cnd (bor (band (ile 0 a) (ilt a (len x0.cells))) (bnot (band (band (bnot (band (bnot (band (band (band (ile 0 x2) (ilt x2 x0.accounts)) (ile 0 x3)) (ilt x3 x0.symbols))) (bor (bnot (ieq a (-1))) (bnot (ieq e.snd 1))))) (band (band (band (band (ile 0 x2) (ilt x2 x0.accounts)) (ile 0 x3)) (ilt x3 x0.symbols)) y2)) (bnot (bor (bnot (ieq a (wr IntKind.i64 (iadd (wr IntKind.i64 (imul x2 x0.symbols)) x3)))) (bnot (ieq e.snd 0))))))) (cnd (bor (band (ile 0 a) (ilt a (len x0.cells))) (bnot (band (band (bnot (band (bnot (band (band (band (ile 0 x2) (ilt x2 x0.accounts)) (ile 0 x3)) (ilt x3 x0.symbols))) (bor (bnot (ieq a (-1))) (bnot (ieq e.snd 1))))) (band (band (band (band (ile 0 x2) (ilt x2 x0.accounts)) (ile 0 x3)) (ilt x3 x0.symbols)) y2)) (bnot (bor (bnot (ieq a (wr IntKind.i64 (iadd (wr IntKind.i64 (imul x2 x0.symbols)) x3)))) (bnot (ieq e.snd 0))))))) (cnd (bor (band (bnot (band (band (band (ile 0 x2) (ilt x2 x0.accounts)) (ile 0 x3)) (ilt x3 x0.symbols))) (bor (bnot (ieq a (-1))) (bnot (ieq e.snd 1)))) (band (band (band (band (band (ile 0 x2) (ilt x2 x0.accounts)) (ile 0 x3)) (ilt x3 x0.symbols)) y2) (bor (bor (bnot (ieq a (wr IntKind.i64 (iadd (wr IntKind.i64 (imul x2 x0.symbols)) x3)))) (bnot (ieq e.snd 0))) (bnot (band (ieq e.fst.long (wr IntKind.i64 (iadd (lget x0.cells (itn a)).pos (lget x0.cells (itn a)).buy))) (band (ieq e.fst.short (wr IntKind.i64 (isub (lget x0.cells (itn a)).sell (lget x0.cells (itn a)).pos))) (ieq e.fst.opn (lget x0.cells (itn a)).opn))))))) (some false) (cnd (bor (bnot y2) (bnot (band (ile 0 x2) (ilt x2 x0.accounts)))) (some (band (band (ieq o.snd 1) (ieq o.fst 0)) (bor y2 (band (ieq e.snd 1) (band (ieq e.fst.long 0) (band (ieq e.fst.short 0) (ieq e.fst.opn 0))))))) (cnd (band (band (ile 0 (wr IntKind.i64 (imul x2 x0.symbols))) (ile (wr IntKind.i64 (imul x2 x0.symbols)) (wr IntKind.i64 (imul (wr IntKind.i64 (iadd x2 1)) x0.symbols)))) (ile (wr IntKind.i64 (imul (wr IntKind.i64 (iadd x2 1)) x0.symbols)) (len x0.cells))) (obind (F_snaffleref09_Whole (ltake (ldrop x0.cells (itn (wr IntKind.i64 (imul x2 x0.symbols)))) (itn (isub (wr IntKind.i64 (imul (wr IntKind.i64 (iadd x2 1)) x0.symbols)) (wr IntKind.i64 (imul x2 x0.symbols)))))) fun w ↦ some (band (ieq o.snd 0) (ieq o.fst w.fst))) none))) none) none) none) none) none) fun x => x = true := by
  have tb : ∀ b, band true b = b := fun _ => rfl
  have fb : ∀ b, band false b = false := fun _ => rfl
  have tbo : ∀ b, bor true b = true := fun _ => rfl
  have fbo : ∀ b, bor false b = b := fun _ => rfl
  have bf : ∀ b, band b false = false := fun b => by cases b <;> rfl
  have bot : ∀ b, bor b true = true := fun b => by cases b <;> rfl
  have er : ∀ a : Int, ieq a a = true := fun a => by simp [ieq]
  -- the account's sum
  have fin : ∀ e : SExpo × Int, (y2 = false → e = (⟨0, 0, 0⟩, 1)) → ∀ o : Int × Int, F_book_Open x0 x2 = some o → Wq (cnd (bor (bnot y2) (bnot (band (ile 0 x2) (ilt x2 x0.accounts)))) (some (band (band (ieq o.snd 1) (ieq o.fst 0)) (bor y2 (band (ieq e.snd 1) (band (ieq e.fst.long 0) (band (ieq e.fst.short 0) (ieq e.fst.opn 0))))))) (cnd (band (band (ile 0 (wr IntKind.i64 (imul x2 x0.symbols))) (ile (wr IntKind.i64 (imul x2 x0.symbols)) (wr IntKind.i64 (imul (wr IntKind.i64 (iadd x2 1)) x0.symbols)))) (ile (wr IntKind.i64 (imul (wr IntKind.i64 (iadd x2 1)) x0.symbols)) (len x0.cells))) (obind (F_snaffleref09_Whole (ltake (ldrop x0.cells (itn (wr IntKind.i64 (imul x2 x0.symbols)))) (itn (isub (wr IntKind.i64 (imul (wr IntKind.i64 (iadd x2 1)) x0.symbols)) (wr IntKind.i64 (imul x2 x0.symbols)))))) fun w ↦ some (band (ieq o.snd 0) (ieq o.fst w.fst))) none)) fun x => x = true := by
    intro e he o ho
    by_cases hR : RightS x0 ∧ 0 ≤ x2 ∧ x2 < x0.accounts
    · obtain ⟨hR, h3, h4⟩ := hR
      have hy := h2.2 hR
      subst hy
      rw [e_book_Open k0 hs hR h3 h4] at ho
      obtain rfl := Option.some.inj ho
      have hsz := hR.sized
      obtain ⟨c1, c2⟩ := cut_ok hsz.1 hsz.2.1 hsz.2.2.1 h3 h4
      rw [cnd_f (by simp only [band_T, band_F, bor_T, bor_F, bnot_T, bnot_F, ilt_T, ilt_F, ile_T, ile_F, ieq_T, ieq_F, beq_T, beq_F]; simp; omega), cnd_t c1, c2]
      have ln := acctZ_len (n := x0.symbols) (cs := x0.cells) (a := x2)
      have := hR.sized.lens.1
      rw [r_Whole (by omega) (acct_nn hR.ok x2), if_pos (hR.acct x2 h3 h4), ob_some, w_some]
      simp only [er, tb]
    · rw [e_book_Open_bad k0 hs hR] at ho
      obtain rfl := Option.some.inj ho
      rw [cnd_t (by
        rw [bor_T]
        cases hy : y2 with
        | false => exact .inl rfl
        | true =>
          have := h2.1 hy
          right
          simp only [band_T, band_F, bor_T, bor_F, bnot_T, bnot_F, ilt_T, ilt_F, ile_T, ile_F, ieq_T, ieq_F, beq_T, beq_F]
          by_cases h3 : 0 ≤ x2
          · right
            by_cases h4 : x2 < x0.accounts
            · exact absurd ⟨this, h3, h4⟩ hR
            · omega
          · left; omega), w_some]
      cases hy : y2 with
      | true => rfl
      | false => rw [he hy]; rfl
  obtain ⟨o, ho⟩ : ∃ o, F_book_Open x0 x2 = some o := by
    by_cases hR : RightS x0 ∧ 0 ≤ x2 ∧ x2 < x0.accounts
    · exact ⟨_, e_book_Open k0 hs hR.1 hR.2.1 hR.2.2⟩
    · exact ⟨_, e_book_Open_bad k0 hs hR⟩
  have hpl : band (band (band (ile 0 x2) (ilt x2 x0.accounts)) (ile 0 x3)) (ilt x3 x0.symbols) = true ↔ (0 ≤ x2 ∧ x2 < x0.accounts ∧ 0 ≤ x3 ∧ x3 < x0.symbols) := by
    simp only [band_T, band_F, bor_T, bor_F, bnot_T, bnot_F, ilt_T, ilt_F, ile_T, ile_F, ieq_T, ieq_F, beq_T, beq_F]; constructor <;> intro h <;> simp only [h, and_self]
  by_cases hP : 0 ≤ x2 ∧ x2 < x0.accounts ∧ 0 ≤ x3 ∧ x3 < x0.symbols
  case neg =>
    have hf : band (band (band (ile 0 x2) (ilt x2 x0.accounts)) (ile 0 x3)) (ilt x3 x0.symbols) = false := by
      cases h : band (band (band (ile 0 x2) (ilt x2 x0.accounts)) (ile 0 x3)) (ilt x3 x0.symbols) with
      | false => rfl
      | true => exact absurd (hpl.1 h) hP
    rw [e_book_Expo_bad k0 hs (fun h => hP h.2), ob_some, ho, ob_some, e_book_Place_bad hP, ob_some]
    have f1 := fin (⟨0, 0, 0⟩, 1) (fun _ => rfl) o ho
    simp only [hf, er, bnot_false, bnot_true, tb, fb, bf, bot, tbo, fbo, bor_false, bor_true, cnd_true, cnd_false] at f1 ⊢
    exact f1
  have ht := hpl.2 hP
  by_cases hR : RightS x0
  case neg =>
    have hy : y2 = false := by cases h : y2 with | false => rfl | true => exact absurd (h2.1 h) hR
    rw [e_book_Expo_bad k0 hs (fun h => hR h.1), ob_some, ho, ob_some, e_book_Place_in hP, ob_some]
    have f1 := fin (⟨0, 0, 0⟩, 1) (fun _ => rfl) o ho
    subst hy
    simp only [ht, er, bnot_false, bnot_true, tb, fb, bf, bot, tbo, fbo, bor_false, bor_true, cnd_true, cnd_false] at f1 ⊢
    exact f1
  have hy := h2.2 hR
  obtain ⟨k, hk, g1, g2⟩ := e_book_Expo k0 hs hR hP
  rw [g2, ob_some, ho, ob_some, e_book_Place_in hP, ob_some, g1, inb _ k hk, lget_nat _ k hk]
  have hck := hR.ok _ (List.getElem_mem hk)
  have w1 : wr IntKind.i64 (iadd x0.cells[k].pos x0.cells[k].buy) = x0.cells[k].pos + x0.cells[k].buy := wr_in hck.2.2.1
  have w2 : wr IntKind.i64 (isub x0.cells[k].sell x0.cells[k].pos) = x0.cells[k].sell - x0.cells[k].pos := wr_in hck.2.2.2
  have f1 := fin (ofC x0.cells[k], 0) (fun h => (by rw [hy] at h; cases h)) o ho
  subst hy
  simp only [w1, w2, ht, er, ofC, bnot_false, bnot_true, tb, fb, bf, bot, tbo, fbo, bor_false, bor_true, cnd_true, cnd_false] at f1 ⊢
  exact f1
end Go.Av

namespace Go.Av
open Go
set_option linter.unusedVariables false
set_option linter.unusedSimpArgs false
def nilD {τ : Type} [DecidableEq τ] (n : Int) (f : Bool → Option τ) : Option τ := if n = 0 then (if f true = f false then f true else none) else f false
theorem nilq_eq {τ : Type} [DecidableEq τ] (n : Int) (f : Bool → Option τ) : nilq n f = nilD n f := by
  unfold nilq nilD
  by_cases h : n = 0
  · rw [if_pos h, if_pos h]
    by_cases h2 : f true = f false
    · rw [if_pos h2, if_pos h2]
    · rw [if_neg h2, if_neg h2]
  · rw [if_neg h, if_neg h]
def F_slices_Clone_api_Order_d (x0 : (List SOrder)) : Option ((List SOrder)) := nilD (len x0) fun y0 ↦ cnd (beq y0 true) (some []) (cnd (ile (len x0) 68719476736) (some x0) none)
theorem F_slices_Clone_api_Order_d_eq : F_slices_Clone_api_Order = F_slices_Clone_api_Order_d := by
  funext a0
  unfold F_slices_Clone_api_Order F_slices_Clone_api_Order_d
  simp only [nilq_eq]
def F_slices_Clone_api_Cell_d (x0 : (List SCell)) : Option ((List SCell)) := nilD (len x0) fun y0 ↦ cnd (beq y0 true) (some []) (cnd (ile (len x0) 68719476736) (some x0) none)
theorem F_slices_Clone_api_Cell_d_eq : F_slices_Clone_api_Cell = F_slices_Clone_api_Cell_d := by
  funext a0
  unfold F_slices_Clone_api_Cell F_slices_Clone_api_Cell_d
  simp only [nilq_eq]
def F_slices_Clone_api_Expo_d (x0 : (List SExpo)) : Option ((List SExpo)) := nilD (len x0) fun y0 ↦ cnd (beq y0 true) (some []) (cnd (ile (len x0) 68719476736) (some x0) none)
theorem F_slices_Clone_api_Expo_d_eq : F_slices_Clone_api_Expo = F_slices_Clone_api_Expo_d := by
  funext a0
  unfold F_slices_Clone_api_Expo F_slices_Clone_api_Expo_d
  simp only [nilq_eq]
def F_slices_Clone_int64_d (x0 : (List Int)) : Option ((List Int)) := nilD (len x0) fun y0 ↦ cnd (beq y0 true) (some []) (cnd (ile (len x0) 68719476736) (some x0) none)
theorem F_slices_Clone_int64_d_eq : F_slices_Clone_int64 = F_slices_Clone_int64_d := by
  funext a0
  unfold F_slices_Clone_int64 F_slices_Clone_int64_d
  simp only [nilq_eq]
def F_book_Do_d (x0 : SState) (x1 : SRec) : Option (SState × Int) := obind (F_num_Add x0.lsn 1) fun y0 ↦ obind (cnd (bnot (bor (bnot (ieq y0.snd 0)) (ile 1000000000 x0.lsn))) (F_rec_Right x1) (some false)) fun y1 ↦ obind (cnd (bnot (bor (bor (bnot (ieq y0.snd 0)) (ile 1000000000 x0.lsn)) (bnot y1))) (F_book_Right x0) (some false)) fun y2 ↦ cnd (bor (bor (bor (bnot (ieq y0.snd 0)) (ile 1000000000 x0.lsn)) (bnot y1)) (bnot y2)) (some (x0, 1)) (obind (F_slices_Clone_api_Order_d x0.orders) fun y3 ↦ obind (F_slices_Clone_api_Cell_d x0.cells) fun y4 ↦ obind (F_slices_Clone_api_Expo_d x0.limits) fun y5 ↦ obind (F_slices_Clone_int64_d x0.caps) fun y6 ↦ cnd (ieq x1.kind 1) (obind (F_order_Begin x1) fun y7 ↦ cnd (ile x1.order x0.last) (cnd (ile x1.order x0.last) (some (x0, 1)) (cnd x0.kill (some (x0, 5)) (cnd (ieq (len y3) 64) (some (x0, 6)) (obind (F_slices_Clone_api_Order_d y3) fun y8 ↦ obind (F_slices_Clone_api_Cell_d y4) fun y9 ↦ obind (F_slices_Clone_api_Expo_d y5) fun y10 ↦ obind (F_slices_Clone_int64_d y6) fun y11 ↦ obind (F_book_ledger_cellOf (SState.mk x0.accounts x0.symbols y3 y4 y5 y6 x0.kill x0.last x0.seq x0.lsn) y7.fst.account y7.fst.symbol) fun y12 ↦ cnd (band (ile 0 y12) (ilt y12 (len y4))) (obind (F_cell_Come (lget y4 (itn y12)) y7.fst) fun y13 ↦ cnd (bnot (ieq y13.snd 0)) (some (x0, 3)) (cnd (ile (len (lapp y3 [y7.fst])) 68719476736) (obind (F_book_ledger_bears (SState.mk x0.accounts x0.symbols (lapp y3 [y7.fst]) (lset y4 (itn y12) y13.fst) y5 y6 x0.kill y7.fst.id x0.seq x0.lsn) (SState.mk x0.accounts x0.symbols y8 y9 y10 y11 x0.kill x0.last x0.seq x0.lsn) y7.fst.account y7.fst.symbol) fun y14 ↦ cnd (bnot (ieq y14 0)) (some (x0, y14)) (some (SState.mk x0.accounts x0.symbols (lapp y3 [y7.fst]) (lset y4 (itn y12) y13.fst) y5 y6 x0.kill y7.fst.id x0.seq (wr IntKind.i64 (iadd x0.lsn 1)), 0))) none)) none)))) (cnd (ile x0.accounts x1.account) (cnd (ile x0.accounts x1.account) (some (x0, 1)) (cnd x0.kill (some (x0, 5)) (cnd (ieq (len y3) 64) (some (x0, 6)) (obind (F_slices_Clone_api_Order_d y3) fun y15 ↦ obind (F_slices_Clone_api_Cell_d y4) fun y16 ↦ obind (F_slices_Clone_api_Expo_d y5) fun y17 ↦ obind (F_slices_Clone_int64_d y6) fun y18 ↦ obind (F_book_ledger_cellOf (SState.mk x0.accounts x0.symbols y3 y4 y5 y6 x0.kill x0.last x0.seq x0.lsn) y7.fst.account y7.fst.symbol) fun y19 ↦ cnd (band (ile 0 y19) (ilt y19 (len y4))) (obind (F_cell_Come (lget y4 (itn y19)) y7.fst) fun y20 ↦ cnd (bnot (ieq y20.snd 0)) (some (x0, 3)) (cnd (ile (len (lapp y3 [y7.fst])) 68719476736) (obind (F_book_ledger_bears (SState.mk x0.accounts x0.symbols (lapp y3 [y7.fst]) (lset y4 (itn y19) y20.fst) y5 y6 x0.kill y7.fst.id x0.seq x0.lsn) (SState.mk x0.accounts x0.symbols y15 y16 y17 y18 x0.kill x0.last x0.seq x0.lsn) y7.fst.account y7.fst.symbol) fun y21 ↦ cnd (bnot (ieq y21 0)) (some (x0, y21)) (some (SState.mk x0.accounts x0.symbols (lapp y3 [y7.fst]) (lset y4 (itn y19) y20.fst) y5 y6 x0.kill y7.fst.id x0.seq (wr IntKind.i64 (iadd x0.lsn 1)), 0))) none)) none)))) (cnd (ile x0.symbols x1.symbol) (some (x0, 1)) (cnd x0.kill (some (x0, 5)) (cnd (ieq (len y3) 64) (some (x0, 6)) (obind (F_slices_Clone_api_Order_d y3) fun y22 ↦ obind (F_slices_Clone_api_Cell_d y4) fun y23 ↦ obind (F_slices_Clone_api_Expo_d y5) fun y24 ↦ obind (F_slices_Clone_int64_d y6) fun y25 ↦ obind (F_book_ledger_cellOf (SState.mk x0.accounts x0.symbols y3 y4 y5 y6 x0.kill x0.last x0.seq x0.lsn) y7.fst.account y7.fst.symbol) fun y26 ↦ cnd (band (ile 0 y26) (ilt y26 (len y4))) (obind (F_cell_Come (lget y4 (itn y26)) y7.fst) fun y27 ↦ cnd (bnot (ieq y27.snd 0)) (some (x0, 3)) (cnd (ile (len (lapp y3 [y7.fst])) 68719476736) (obind (F_book_ledger_bears (SState.mk x0.accounts x0.symbols (lapp y3 [y7.fst]) (lset y4 (itn y26) y27.fst) y5 y6 x0.kill y7.fst.id x0.seq x0.lsn) (SState.mk x0.accounts x0.symbols y22 y23 y24 y25 x0.kill x0.last x0.seq x0.lsn) y7.fst.account y7.fst.symbol) fun y28 ↦ cnd (bnot (ieq y28 0)) (some (x0, y28)) (some (SState.mk x0.accounts x0.symbols (lapp y3 [y7.fst]) (lset y4 (itn y26) y27.fst) y5 y6 x0.kill y7.fst.id x0.seq (wr IntKind.i64 (iadd x0.lsn 1)), 0))) none)) none)))))) (cnd (ieq x1.kind 2) (obind (F_book_Find (SState.mk x0.accounts x0.symbols y3 y4 y5 y6 x0.kill x0.last x0.seq x0.lsn) x1.order) fun y29 ↦ cnd (ieq y29 (-1)) (some (x0, 7)) (cnd (band (ile 0 y29) (ilt y29 (len y3))) (obind (F_order_Change (lget y3 (itn y29)) x1.qty x1.price) fun y30 ↦ cnd (bnot (ieq y30.snd 0)) (some (x0, 8)) (cnd x0.kill (some (x0, 5)) (obind (F_slices_Clone_api_Order_d y3) fun y31 ↦ obind (F_slices_Clone_api_Cell_d y4) fun y32 ↦ obind (F_slices_Clone_api_Expo_d y5) fun y33 ↦ obind (F_slices_Clone_int64_d y6) fun y34 ↦ obind (F_book_ledger_cellOf (SState.mk x0.accounts x0.symbols y3 y4 y5 y6 x0.kill x0.last x0.seq x0.lsn) (lget y3 (itn y29)).account (lget y3 (itn y29)).symbol) fun y35 ↦ cnd (band (ile 0 y35) (ilt y35 (len y4))) (obind (F_cell_Go (lget y4 (itn y35)) (lget y3 (itn y29))) fun y36 ↦ obind (F_cell_Come y36.fst y30.fst) fun y37 ↦ cnd (bnot (ieq y37.snd 0)) (some (x0, 3)) (cnd (band (ile 0 y29) (ilt y29 (len y3))) (obind (F_book_ledger_bears (SState.mk x0.accounts x0.symbols (lset y3 (itn y29) y30.fst) (lset y4 (itn y35) y37.fst) y5 y6 x0.kill x0.last x0.seq x0.lsn) (SState.mk x0.accounts x0.symbols y31 y32 y33 y34 x0.kill x0.last x0.seq x0.lsn) (lget y3 (itn y29)).account (lget y3 (itn y29)).symbol) fun y38 ↦ cnd (bnot (ieq y38 0)) (some (x0, y38)) (some (SState.mk x0.accounts x0.symbols (lset y3 (itn y29) y30.fst) (lset y4 (itn y35) y37.fst) y5 y6 x0.kill x0.last x0.seq (wr IntKind.i64 (iadd x0.lsn 1)), 0))) none)) none))) none)) (cnd (ieq x1.kind 3) (obind (F_book_Find (SState.mk x0.accounts x0.symbols y3 y4 y5 y6 x0.kill x0.last x0.seq x0.lsn) x1.order) fun y39 ↦ cnd (ieq y39 (-1)) (some (x0, 7)) (cnd (band (ile 0 y39) (ilt y39 (len y3))) (obind (F_order_End (lget y3 (itn y39))) fun y40 ↦ cnd (band (ile 0 y39) (ilt y39 (len y3))) (cnd (bnot (ieq y40.snd 0)) (some (x0, y40.snd)) (some (SState.mk x0.accounts x0.symbols (lset y3 (itn y39) y40.fst) y4 y5 y6 x0.kill x0.last x0.seq (wr IntKind.i64 (iadd x0.lsn 1)), 0))) none) none)) (cnd (ieq x1.kind 4) (cnd (ile x0.accounts x1.account) (cnd (ile x0.accounts x1.account) (some (x0, 1)) (cnd (ieq x1.symbol (-1)) (cnd (band (ile 0 x1.account) (ilt x1.account (len y6))) (some (SState.mk x0.accounts x0.symbols y3 y4 y5 (lset y6 (itn x1.account) x1.opn) x0.kill x0.last x0.seq (wr IntKind.i64 (iadd x0.lsn 1)), 0)) none) (obind (F_book_ledger_cellOf (SState.mk x0.accounts x0.symbols y3 y4 y5 y6 x0.kill x0.last x0.seq x0.lsn) x1.account x1.symbol) fun y41 ↦ cnd (band (ile 0 y41) (ilt y41 (len y5))) (some (SState.mk x0.accounts x0.symbols y3 y4 (lset y5 (itn y41) (SExpo.mk x1.long x1.short x1.opn)) y6 x0.kill x0.last x0.seq (wr IntKind.i64 (iadd x0.lsn 1)), 0)) none))) (cnd (ile x0.symbols x1.symbol) (some (x0, 1)) (cnd (ieq x1.symbol (-1)) (cnd (band (ile 0 x1.account) (ilt x1.account (len y6))) (some (SState.mk x0.accounts x0.symbols y3 y4 y5 (lset y6 (itn x1.account) x1.opn) x0.kill x0.last x0.seq (wr IntKind.i64 (iadd x0.lsn 1)), 0)) none) (obind (F_book_ledger_cellOf (SState.mk x0.accounts x0.symbols y3 y4 y5 y6 x0.kill x0.last x0.seq x0.lsn) x1.account x1.symbol) fun y42 ↦ cnd (band (ile 0 y42) (ilt y42 (len y5))) (some (SState.mk x0.accounts x0.symbols y3 y4 (lset y5 (itn y42) (SExpo.mk x1.long x1.short x1.opn)) y6 x0.kill x0.last x0.seq (wr IntKind.i64 (iadd x0.lsn 1)), 0)) none)))) (cnd (ieq x1.kind 5) (some (SState.mk x0.accounts x0.symbols y3 y4 y5 y6 x1.on x0.last x0.seq (wr IntKind.i64 (iadd x0.lsn 1)), 0)) (cnd (bnot (ieq x1.seq (wr IntKind.i64 (iadd x0.seq 1)))) (some (x0, 11)) (obind (F_book_Find (SState.mk x0.accounts x0.symbols y3 y4 y5 y6 x0.kill x0.last x1.seq x0.lsn) x1.order) fun y43 ↦ cnd (ieq y43 (-1)) (some (SState.mk x0.accounts x0.symbols y3 y4 y5 y6 x0.kill x0.last x1.seq (wr IntKind.i64 (iadd x0.lsn 1)), 0)) (cnd (band (ile 0 y43) (ilt y43 (len y3))) (obind (F_order_Take (lget y3 (itn y43)) (SNote.mk x1.seq x1.what x1.order x1.qty x1.price)) fun y44 ↦ cnd (bnot (ieq y44.snd 0)) (some (SState.mk x0.accounts x0.symbols y3 y4 y5 y6 x0.kill x0.last x1.seq (wr IntKind.i64 (iadd x0.lsn 1)), 0)) (obind (F_book_ledger_cellOf (SState.mk x0.accounts x0.symbols y3 y4 y5 y6 x0.kill x0.last x1.seq x0.lsn) (lget y3 (itn y43)).account (lget y3 (itn y43)).symbol) fun y45 ↦ cnd (band (ile 0 y45) (ilt y45 (len y4))) (obind (F_cell_Go (lget y4 (itn y45)) (lget y3 (itn y43))) fun y46 ↦ obind (F_cell_Come (lget (lset y4 (itn y45) y46.fst) (itn y45)) y44.fst) fun y47 ↦ cnd (ieq x1.what 3) (obind (F_cell_Did (lget (lset (lset y4 (itn y45) y46.fst) (itn y45) y47.fst) (itn y45)) (lget y3 (itn y43)).side x1.qty) fun y48 ↦ cnd (band (ile 0 y43) (ilt y43 (len y3))) (cnd (ieq y44.fst.phase 3) (obind (F_slices_Delete_api_Order (lset y3 (itn y43) y44.fst) y43 (wr IntKind.i64 (iadd y43 1))) fun y49 ↦ some (SState.mk x0.accounts x0.symbols y49 (lset (lset (lset y4 (itn y45) y46.fst) (itn y45) y47.fst) (itn y45) y48.fst) y5 y6 x0.kill x0.last x1.seq (wr IntKind.i64 (iadd x0.lsn 1)), 0)) (some (SState.mk x0.accounts x0.symbols (lset y3 (itn y43) y44.fst) (lset (lset (lset y4 (itn y45) y46.fst) (itn y45) y47.fst) (itn y45) y48.fst) y5 y6 x0.kill x0.last x1.seq (wr IntKind.i64 (iadd x0.lsn 1)), 0))) none) (cnd (band (ile 0 y43) (ilt y43 (len y3))) (cnd (ieq y44.fst.phase 3) (obind (F_slices_Delete_api_Order (lset y3 (itn y43) y44.fst) y43 (wr IntKind.i64 (iadd y43 1))) fun y50 ↦ some (SState.mk x0.accounts x0.symbols y50 (lset (lset y4 (itn y45) y46.fst) (itn y45) y47.fst) y5 y6 x0.kill x0.last x1.seq (wr IntKind.i64 (iadd x0.lsn 1)), 0)) (some (SState.mk x0.accounts x0.symbols (lset y3 (itn y43) y44.fst) (lset (lset y4 (itn y45) y46.fst) (itn y45) y47.fst) y5 y6 x0.kill x0.last x1.seq (wr IntKind.i64 (iadd x0.lsn 1)), 0))) none)) none)) none))))))))
theorem F_book_Do_d_eq : F_book_Do = F_book_Do_d := by
  funext a0 a1
  unfold F_book_Do F_book_Do_d
  simp only [F_slices_Clone_api_Order_d_eq, F_slices_Clone_api_Cell_d_eq, F_slices_Clone_api_Expo_d_eq, F_slices_Clone_int64_d_eq]
def F_book_May_d (x0 : SState) (x1 : SRec) : Option (Int) := obind (F_book_Do_d x0 x1) fun y0 ↦ some y0.snd
theorem F_book_May_d_eq : F_book_May = F_book_May_d := by
  funext a0 a1
  unfold F_book_May F_book_May_d
  simp only [F_book_Do_d_eq]
def F_snafflelaw10_awake_d : Option (Bool) := obind (F_book_New 1 2 (SExpo.mk 5 5 50) 60) fun y0 ↦ obind (F_book_Do_d y0.fst (SRec.mk 1 3 0 1 1 5 10 0 0 0 false 0 0)) fun y1 ↦ obind (F_book_Expo y1.fst 0 1) fun y2 ↦ obind (F_book_Open y1.fst 0) fun y3 ↦ obind (F_book_May_d y1.fst (SRec.mk 1 4 0 1 1 1 1 0 0 0 false 0 0)) fun y4 ↦ obind (F_book_May_d y1.fst (SRec.mk 1 4 0 0 1 2 6 0 0 0 false 0 0)) fun y5 ↦ obind (cnd (band (band (band (band (band (band (band (ieq y0.snd 0) (ieq y1.snd 0)) (ieq y2.snd 0)) (ieq y3.snd 0)) (band (ieq y2.fst.long 5) (band (ieq y2.fst.short 0) (ieq y2.fst.opn 50)))) (ieq y3.fst 50)) (ieq y4 4)) (ieq y5 4)) (F_book_Find y1.fst 3) (some 0)) fun y6 ↦ obind (cnd (band (band (band (band (band (band (band (band (ieq y0.snd 0) (ieq y1.snd 0)) (ieq y2.snd 0)) (ieq y3.snd 0)) (band (ieq y2.fst.long 5) (band (ieq y2.fst.short 0) (ieq y2.fst.opn 50)))) (ieq y3.fst 50)) (ieq y4 4)) (ieq y5 4)) (ieq y6 0)) (F_book_Place y1.fst 0 1) (some 0)) fun y7 ↦ obind (cnd (band (band (band (band (band (band (band (band (band (ieq y0.snd 0) (ieq y1.snd 0)) (ieq y2.snd 0)) (ieq y3.snd 0)) (band (ieq y2.fst.long 5) (band (ieq y2.fst.short 0) (ieq y2.fst.opn 50)))) (ieq y3.fst 50)) (ieq y4 4)) (ieq y5 4)) (ieq y6 0)) (ieq y7 1)) (F_book_Right y1.fst) (some false)) fun y8 ↦ some (band (band (band (band (band (band (band (band (band (band (band (ieq y0.snd 0) (ieq y1.snd 0)) (ieq y2.snd 0)) (ieq y3.snd 0)) (band (ieq y2.fst.long 5) (band (ieq y2.fst.short 0) (ieq y2.fst.opn 50)))) (ieq y3.fst 50)) (ieq y4 4)) (ieq y5 4)) (ieq y6 0)) (ieq y7 1)) y8) (ieq y1.fst.lsn 1))
theorem F_snafflelaw10_awake_d_eq : F_snafflelaw10_awake = F_snafflelaw10_awake_d := by
  unfold F_snafflelaw10_awake F_snafflelaw10_awake_d
  simp only [F_book_Do_d_eq, F_book_May_d_eq]

theorem awake10 : F_snafflelaw10_awake = some true := by rw [F_snafflelaw10_awake_d_eq]; kernel_rfl
theorem pure_BookRight (x0 : SState) (x1 : SRec) (x2 x3 : Int) (x4 : SExpo) (x5 : Int) (k0 : Ok_state x0) (k1 : Ok_recd x1) (k2 : inI x2) (k3 : inI x3) (k4 : Ok_expo x4) (k5 : inI x5) : F_snafflelaw10_BookRight x0 x1 x2 x3 x4 x5 = some true := by
  refine Wq.eq ?_
  unfold F_snafflelaw10_BookRight
  rw [awake10, ob_some, bnot_true, cnd_false]
  refine (s_short x0).bind fun y1 h1 => ?_
  rw [w_cnd]
  refine ⟨fun _ => (w_some _).2 rfl, fun h => ?_⟩
  simp only [band_T, band_F, bor_T, bor_F, bnot_T, bnot_F, ilt_T, ilt_F, ile_T, ile_F, ieq_T, ieq_F, beq_T, beq_F] at h
  have hs := h1 h
  refine (r_Right k0 hs).bind fun y2 h2 => ?_
  rw [e_book_Do k0 k1 hs.1 hs.2.2.1 hs.2.2.2, ob_some, r_Do k0 k1 hs, ob_some]
  refine (s_book_Right x0 k0 hs.1 hs.2.2.1 hs.2.2.2).bind fun y5 h5 => ?_
  have e52 : y5 = y2 := by rw [Bool.eq_iff_iff, h2, h5]
  subst e52
  have er : ∀ a : Int, ieq a a = true := fun a => by simp [ieq]
  have eb : ∀ a : Bool, beq a a = true := fun a => by cases a <;> rfl
  have fbo : ∀ b, bor false b = b := fun _ => rfl
  have hk2 := (doS_q x0 x1).rng k0 k1
  have hs2 := doS_short hs x1
  unfold F_book_May
  rw [e_book_Do k0 k1 hs.1 hs.2.2.1 hs.2.2.2]
  simp only [ob_some, er, eb, bnot_true, bnot_false, fbo, cnd_true]
  rw [same_refl hs2, ob_some]
  simp only [bnot_true, bnot_false, fbo, cnd_true]
  rw [e_book_Find x0 x1.order hs.1, ob_some, r_Find x0 x1.order hs.1, ob_some]
  simp only [er, bnot_true, cnd_false]
  rw [e_book_New k4 k5, ob_some]
  have hzs : shortP zS := by unfold shortP zS; decide
  have hd : band (band (band (ile 1 x2) (ile x2 8)) (ile 1 x3)) (ile x3 8) = true ↔ dimP x2 x3 := by
    unfold dimP; simp only [band_T, band_F, bor_T, bor_F, bnot_T, bnot_F, ilt_T, ilt_F, ile_T, ile_F, ieq_T, ieq_F, beq_T, beq_F]; constructor <;> intro h <;> omega
  by_cases hdim : dimP x2 x3
  · have ht := hd.2 hdim
    rw [ht, cnd_true, r_limit_Right, ob_some]
    have tb : ∀ b, band true b = b := fun _ => rfl
    rw [tb]
    by_cases hl : limP x4 ∧ 0 ≤ x5
    · rw [if_pos ⟨hdim, hl⟩, decide_eq_true hl.1, tb, cnd_t (ile_t hl.2)]
      simp only [er, bnot_true, bnot_false, fbo, cnd_true]
      rw [r_New hdim, ob_some, same_refl (new_ok hdim k4 k5).2, ob_some, bnot_true, cnd_false]
      exact tailR k0 hs h2
    · rw [if_neg (fun h => hl h.2), cnd_f (by
        simp only [band_T, band_F, bor_T, bor_F, bnot_T, bnot_F, ilt_T, ilt_F, ile_T, ile_F, ieq_T, ieq_F, beq_T, beq_F, decide_eq_false_iff_not]
        by_cases h : limP x4
        · right; have : ¬ 0 ≤ x5 := fun h2 => hl ⟨h, h2⟩; omega
        · exact .inl h)]
      simp only [er, bnot_true, bnot_false, fbo, cnd_true]
      have es := same_refl hzs
      unfold zS at es ⊢
      rw [es, ob_some, bnot_true, cnd_false]
      exact tailR k0 hs h2
  · have hf : band (band (band (ile 1 x2) (ile x2 8)) (ile 1 x3)) (ile x3 8) = false := by
      cases h : band (band (band (ile 1 x2) (ile x2 8)) (ile 1 x3)) (ile x3 8) with
      | false => rfl
      | true => exact absurd (hd.1 h) hdim
    have fb : ∀ b, band false b = false := fun _ => rfl
    rw [hf, cnd_false, ob_some, fb, fb, cnd_false, if_neg (fun h => hdim h.1)]
    simp only [er, bnot_true, bnot_false, fbo, cnd_true]
    have es := same_refl hzs
    unfold zS at es ⊢
    rw [es, ob_some, bnot_true, cnd_false]
    exact tailR k0 hs h2
end Go.Av

