/- The plain law, part 1. No condition. -/
import Derived.Test.YtgkmpcjcpochoaaGreatPRowRight0
import Derived.KernelRfl
set_option linter.unusedVariables false
set_option linter.unusedSimpArgs false
set_option linter.unnecessarySimpa false
namespace Go.Av
open Go
theorem rl_cells {b : List Int} (hb : byteP b) (hl : b.length < 99999) (hf : FormP b) {a y : Int} {os : List SOrder} {kl : Bool} {l1 l2 l3 : Int} :
    Wq (iterN (fun v : Int × Int × Int × Int × List SOrder × List SCell × List SExpo × List Int × Bool × Int × Int × Int => L_snaffleref13_Decode_262138 (cN b : Int) b v.1 v.2.1 v.2.2.1 v.2.2.2.1 v.2.2.2.2.1 v.2.2.2.2.2.1 v.2.2.2.2.2.2.1 v.2.2.2.2.2.2.2.1 v.2.2.2.2.2.2.2.2.1 v.2.2.2.2.2.2.2.2.2.1 v.2.2.2.2.2.2.2.2.2.2.1 v.2.2.2.2.2.2.2.2.2.2.2) LF
      (0, (off2 b : Int), a, y, os, [], [], [], kl, l1, l2, l3)) fun w => w = ((off3 b : Int), a, y, os, cellsZ b, [], [], kl, l1, l2, l3) := by
  have hn := hf.nums
  have hj := hf.just
  unfold off4 at hj
  have h3 : off3 b = off2 b + 8 * cN b := rfl
  refine w_for (n := cN b) (by omega) (fun i x => x = (((off2 b + 8 * i : Nat) : Int), a, y, os, (List.range i).map (fun i => cellZ b (off2 b + 8 * i)), [], [], kl, l1, l2, l3)) _ ?_ ?_ _ 0 (Nat.zero_le _) rfl
  · rintro i x hi rfl
    simp only
    unfold L_snaffleref13_Decode_262138
    obtain ⟨k, hk⟩ : ∃ k, k = off2 b + 8 * i := ⟨_, rfl⟩
    have hkl : k + 8 ≤ b.length := by omega
    rw [← hk]
    have o8 : wr .i64 (iadd (k : Int) 8) = ((k + 8 : Nat) : Int) := wr_off (j := 8) (by omega)
    simp only [o8]
    rw [cnd_t (ilt_t (by omega)), rn hb rfl (by omega), cnd_t (len_lt (n := 1000) (by simp [lapp]; omega) (by decide)), w_some]
    refine ⟨wr_succ (by omega), ?_⟩
    rw [List.range_succ, List.map_append]
    have e : ((k + 8 : Nat) : Int) = ((off2 b + 8 * (i + 1) : Nat) : Int) := by omega
    rw [e, hk]
    rfl
  · rintro x rfl
    simp only
    unfold L_snaffleref13_Decode_262138
    rw [cnd_f (ilt_f (by omega)), w_some, ← h3]
    rfl
theorem rl_lims {b : List Int} (hb : byteP b) (hl : b.length < 99999) (hf : FormP b) {a y : Int} {os : List SOrder} {cs : List SCell} {kl : Bool} {l1 l2 l3 : Int} :
    Wq (iterN (fun v : Int × Int × Int × Int × List SOrder × List SCell × List SExpo × List Int × Bool × Int × Int × Int => L_snaffleref13_Decode_524282 (cN b : Int) b v.1 v.2.1 v.2.2.1 v.2.2.2.1 v.2.2.2.2.1 v.2.2.2.2.2.1 v.2.2.2.2.2.2.1 v.2.2.2.2.2.2.2.1 v.2.2.2.2.2.2.2.2.1 v.2.2.2.2.2.2.2.2.2.1 v.2.2.2.2.2.2.2.2.2.2.1 v.2.2.2.2.2.2.2.2.2.2.2) LF
      (0, (off3 b : Int), a, y, os, cs, [], [], kl, l1, l2, l3)) fun w => w = ((off4 b : Int), a, y, os, cs, limsZ b, [], kl, l1, l2, l3) := by
  have hn := hf.nums
  have hj := hf.just
  have h4 : off4 b = off3 b + 24 * cN b := rfl
  refine w_for (n := cN b) (by omega) (fun i x => x = (((off3 b + 24 * i : Nat) : Int), a, y, os, cs, (List.range i).map (fun i => limZ b (off3 b + 24 * i)), [], kl, l1, l2, l3)) _ ?_ ?_ _ 0 (Nat.zero_le _) rfl
  · rintro i x hi rfl
    simp only
    unfold L_snaffleref13_Decode_524282
    obtain ⟨k, hk⟩ : ∃ k, k = off3 b + 24 * i := ⟨_, rfl⟩
    have hkl : k + 24 ≤ b.length := by omega
    rw [← hk]
    have o8 : wr .i64 (iadd (k : Int) 8) = ((k + 8 : Nat) : Int) := wr_off (j := 8) (by omega)
    have o16 : wr .i64 (iadd (k : Int) 16) = ((k + 16 : Nat) : Int) := wr_off (j := 16) (by omega)
    have o24 : wr .i64 (iadd (k : Int) 24) = ((k + 24 : Nat) : Int) := wr_off (j := 24) (by omega)
    simp only [o8, o16, o24]
    rw [cnd_t (ilt_t (by omega)), rn hb rfl (by omega), rn hb rfl (by omega), rn hb rfl (by omega), cnd_t (len_lt (n := 1000) (by simp [lapp]; omega) (by decide)), w_some]
    refine ⟨wr_succ (by omega), ?_⟩
    rw [List.range_succ, List.map_append]
    have e : ((k + 24 : Nat) : Int) = ((off3 b + 24 * (i + 1) : Nat) : Int) := by omega
    rw [e, hk]
    rfl
  · rintro x rfl
    simp only
    unfold L_snaffleref13_Decode_524282
    rw [cnd_f (ilt_f (by omega)), w_some, ← h4]
    rfl
theorem rl_caps {b : List Int} (hb : byteP b) (hl : b.length < 99999) (hf : FormP b) {y : Int} {os : List SOrder} {cs : List SCell} {ls : List SExpo} {kl : Bool} {l1 l2 l3 : Int} :
    Wq (iterN (fun v : Int × Int × Int × Int × List SOrder × List SCell × List SExpo × List Int × Bool × Int × Int × Int => L_snaffleref13_Decode_1048570 b v.1 v.2.1 v.2.2.1 v.2.2.2.1 v.2.2.2.2.1 v.2.2.2.2.2.1 v.2.2.2.2.2.2.1 v.2.2.2.2.2.2.2.1 v.2.2.2.2.2.2.2.2.1 v.2.2.2.2.2.2.2.2.2.1 v.2.2.2.2.2.2.2.2.2.2.1 v.2.2.2.2.2.2.2.2.2.2.2) LF
      (0, (off4 b : Int), (nZ b 4 : Int), y, os, cs, ls, [], kl, l1, l2, l3)) fun w => ∃ k : Int, w = (k, (nZ b 4 : Int), y, os, cs, ls, capsZ b, kl, l1, l2, l3) := by
  have hn := hf.nums
  have hj := hf.just
  refine w_for (n := nZ b 4) (by omega) (fun i x => x = (((off4 b + 8 * i : Nat) : Int), (nZ b 4 : Int), y, os, cs, ls, (List.range i).map (fun i => at8 b (off4 b + 8 * i)), kl, l1, l2, l3)) _ ?_ ?_ _ 0 (Nat.zero_le _) rfl
  · rintro i x hi rfl
    simp only
    unfold L_snaffleref13_Decode_1048570
    obtain ⟨k, hk⟩ : ∃ k, k = off4 b + 8 * i := ⟨_, rfl⟩
    have hkl : k + 8 ≤ b.length := by omega
    rw [← hk]
    have o8 : wr .i64 (iadd (k : Int) 8) = ((k + 8 : Nat) : Int) := wr_off (j := 8) (by omega)
    simp only [o8]
    rw [cnd_t (ilt_t (by omega)), rn hb rfl (by omega), cnd_t (len_lt (n := 1000) (by simp [lapp]; omega) (by decide)), w_some]
    refine ⟨wr_succ (by omega), ?_⟩
    rw [List.range_succ, List.map_append]
    have e : ((k + 8 : Nat) : Int) = ((off4 b + 8 * (i + 1) : Nat) : Int) := by omega
    rw [e, hk]
    rfl
  · rintro x rfl
    simp only
    unfold L_snaffleref13_Decode_1048570
    rw [cnd_f (ilt_f (by omega)), w_some]
    exact ⟨_, rfl⟩
theorem rl_sum {b : List Int} (hl : b.length < 99999) (h4 : 4 ≤ b.length) {n : Int} (hn : 0 ≤ n ∧ n < 4294967296) : Wq (iterN (fun v : Int × Int × Int × SState => L_snaffleref13_Decode_4090 b v.1 v.2.1 v.2.2.1 v.2.2.2) LF (0, n, 0, zS)) fun w => match w with
    | .inl w => b.drop (b.length - 4) ≠ tailZ n ∧ w = (10, zS)
    | .inr w => b.drop (b.length - 4) = tailZ n ∧ w = (0, zS) := by
  obtain ⟨t, ht⟩ : ∃ t, t = b.drop (b.length - 4) := ⟨_, rfl⟩
  have htl : t.length = 4 := by rw [ht, List.length_drop]; omega
  rw [← ht]
  refine w_for (n := 4) (by decide) (fun i x => x = (n / 256 ^ i, 0, zS) ∧ ∀ (k : Nat) (h : k < t.length) (h' : k < (tailZ n).length), k < i → t[k] = (tailZ n)[k]) _ ?_ ?_ _ 0 (by decide) ⟨by simp, fun k _ _ h => by omega⟩
  · rintro i x hi ⟨rfl, h⟩
    simp only
    unfold L_snaffleref13_Decode_4090
    have hp : (0 : Int) < 256 ^ i := Int.pow_pos (by decide)
    have hu : 0 ≤ n / 256 ^ i ∧ n / 256 ^ i < 4294967296 := ⟨Int.ediv_nonneg hn.1 (by omega), by have := Int.ediv_le_self (256 ^ i) hn.1; omega⟩
    have hsub : wr IntKind.i64 (isub (len b) 4) = ((b.length - 4 : Nat) : Int) := by
      unfold isub len
      rw [wr_small (by omega) (by omega)]; omega
    have hit : i < t.length := by omega
    have hg : lget b (itn (((b.length - 4 + i : Nat)) : Int)) = t[i] := by
      rw [lget_nat b _ (by omega)]
      have : t[i] = b[b.length - 4 + i]'(by omega) := by
        have h1 : t[i]? = b[b.length - 4 + i]? := by rw [ht, List.getElem?_drop]
        rw [List.getElem?_eq_getElem hit, List.getElem?_eq_getElem (by omega : b.length - 4 + i < b.length)] at h1
        exact Option.some.inj h1
      exact this.symm
    have e2 : wr .u8 (irem (n / 256 ^ i) 256) = n / 256 ^ i % 256 := by
      unfold irem
      rw [Int.tmod_eq_emod_of_nonneg hu.1, wr_u8, Int.emod_emod]
    rw [cnd_t (ilt_t (by omega)), hsub, wr_off (by omega), cnd_t (inb b _ (by omega)), hg, e2]
    have hti : (tailZ n)[i]'(by simp [tailZ]; omega) = n / 256 ^ i % 256 := tail_get n hi
    by_cases he : t[i] = n / 256 ^ i % 256
    · rw [cnd_f (by simp only [band_T, band_F, bor_T, bor_F, bnot_T, bnot_F, ilt_T, ilt_F, ile_T, ile_F, ieq_T, ieq_F, beq_T, beq_F]; exact he), w_some]
      refine ⟨wr_succ (by omega), ?_, fun k h1 h2 hk => ?_⟩
      · have : wr .u32 (iquo (n / 256 ^ i) 256) = n / 256 ^ (i + 1) := by
          unfold iquo
          rw [Int.tdiv_eq_ediv_of_nonneg hu.1, wr_u32, Int.emod_eq_of_lt (by omega) (by omega), Int.pow_succ]
          exact Int.ediv_ediv_of_nonneg (by omega)
        rw [this]
      · by_cases hki : k = i
        · subst hki; rw [he, hti]
        · exact h k h1 h2 (by omega)
    · rw [cnd_t (by simp only [band_T, band_F, bor_T, bor_F, bnot_T, bnot_F, ilt_T, ilt_F, ile_T, ile_F, ieq_T, ieq_F, beq_T, beq_F]; exact he), w_some]
      refine ⟨fun hh => he ?_, rfl⟩
      rw [← hti]
      simp only [hh]
  · rintro x ⟨rfl, h⟩
    simp only
    unfold L_snaffleref13_Decode_4090
    rw [cnd_f (ilt_f (by omega)), w_some]
    exact ⟨List.ext_getElem (by rw [htl]; rfl) fun k h1 h2 => h k h1 h2 (by omega), rfl⟩
theorem inI0 : inI 0 := by decide
theorem t_Add (a b : Int) : Wq (F_snaffleref01_Add a b) fun r => inI r.1 := by
  unfold F_snaffleref01_Add
  rw [w_cnd]
  exact ⟨fun _ => (w_some _).2 (by decide), fun _ => (w_some _).2 (wr_rng _)⟩
theorem t_Worth {o : SOrder} (h : Ok_order o) : Tot (F_snaffleref07_Worth o) := by
  unfold F_snaffleref07_Worth
  rw [r_order_Right, ob_some]
  refine t_cnd (fun _ => t_some _) fun _ => t_cnd (fun _ => t_some _) fun _ => ?_
  refine t_bind (r_Mul (wr_rng _) h.price).tot fun y1 _ => t_cnd (fun _ => t_some _) fun _ => t_cnd (fun _ => ?_) fun _ => t_some _
  exact t_bind (r_Mul (wr_rng _) h.newPrice).tot fun y2 _ => t_cnd (fun _ => t_some _) fun _ => t_cnd (fun _ => t_some _) fun _ => t_some _
theorem t_Open (o : SOrder) : Tot (F_snaffleref07_Open o) := by
  unfold F_snaffleref07_Open
  rw [r_order_Right, ob_some]
  exact t_cnd (fun _ => t_some _) fun _ => t_cnd (fun _ => t_some _) fun _ => t_some _
theorem t_cell {s : SState} (ho : ∀ o ∈ s.orders, Ok_order o) (hol : s.orders.length < 999999) (i : Int) {c : SCell} (hc : Ok_cell c) (a : Bool) (b : List SCell) :
    Wq (iterN (fun v : Int × Bool × List SCell × SCell => L_snaffleref10_Cells_14922 i s v.fst v.snd.fst v.snd.snd.fst v.snd.snd.snd) LF (0, a, b, c)) fun w => match w with
      | .inl w => w.1 = false ∧ w.2.1 = []
      | .inr w => Ok_cell w.2.2 := by
  refine w_for (n := s.orders.length) hol (fun k x => Ok_cell x.2.2) _ ?_ ?_ _ 0 (Nat.zero_le _) hc
  · rintro k ⟨x1, x2, x3⟩ hk hx
    simp only at hx ⊢
    unfold L_snaffleref10_Cells_14922
    rw [rd_in s.orders hk, lget_nat _ k hk]
    have hor := ho _ (List.getElem_mem hk)
    generalize s.orders[k] = o at hor
    rw [w_cnd]
    refine ⟨fun _ => (w_some _).2 ⟨wr_succ (by omega), hx⟩, fun _ => ?_⟩
    refine (t_Worth hor).bind fun y0 _ => ?_
    refine (t_Add _ _).bind fun y1 h1 => ?_
    rw [w_cnd]
    refine ⟨fun _ => ?_, fun _ => ?_⟩
    · refine (t_Open o).bind fun y2 _ => (t_Add _ _).bind fun y3 h3 => ?_
      rw [w_cnd]
      exact ⟨fun _ => (w_some _).2 ⟨rfl, rfl⟩, fun _ => (w_some _).2 ⟨wr_succ (by omega), ⟨hx.pos, h3, hx.sell, h1⟩⟩⟩
    · refine (t_Open o).bind fun y2 _ => (t_Add _ _).bind fun y3 h3 => ?_
      rw [w_cnd]
      exact ⟨fun _ => (w_some _).2 ⟨rfl, rfl⟩, fun _ => (w_some _).2 ⟨wr_succ (by omega), ⟨hx.pos, hx.buy, h3, h1⟩⟩⟩
  · rintro ⟨x1, x2, x3⟩ hx
    simp only at hx ⊢
    unfold L_snaffleref10_Cells_14922
    rw [rd_out, w_some]
    exact hx
theorem t_Cells {s : SState} (hs : sizedP s) (ho : ∀ o ∈ s.orders, Ok_order o) (hc : ∀ c ∈ s.cells, Ok_cell c) : Wq (F_snaffleref10_Cells s) fun r => r.1.length ≤ 64 ∧ ∀ c ∈ r.1, Ok_cell c := by
  obtain ⟨hcl, _, _, hol⟩ := hs.lens
  unfold F_snaffleref10_Cells
  refine Wq.bind (Q := fun w : (Bool × List SCell) ⊕ (List SCell × Bool × List SCell) => match w with
      | .inl w => w.1 = false ∧ w.2 = []
      | .inr w => w.1.length = s.cells.length ∧ ∀ c ∈ w.1, okC c)
    (w_for (n := s.cells.length) (step := fun v : Int × List SCell × Bool × List SCell => L_snaffleref10_Cells_58 s v.fst v.snd.fst v.snd.snd.fst v.snd.snd.snd) (by omega)
      (fun i x => x.1.length = i ∧ ∀ c ∈ x.1, okC c) _ ?_ ?_ _ 0 (Nat.zero_le _) ⟨rfl, by simp⟩) ?_
  · rintro i ⟨x1, x2, x3⟩ hi ⟨g1, g2⟩
    simp only at g1 g2 ⊢
    unfold L_snaffleref10_Cells_58
    rw [rd_in s.cells hi, lget_nat _ i hi]
    have hci := hc _ (List.getElem_mem hi)
    refine (t_cell ho (by omega) (i : Int) (c := SCell.mk s.cells[i].pos 0 0 0) ⟨hci.pos, inI0, inI0, inI0⟩ x2 x3).bind fun w hw => ?_
    cases w with
    | inl w =>
      obtain ⟨h1, h2⟩ := hw
      simp only [sumK, w_some]
      exact ⟨h1, h2⟩
    | inr w =>
      simp only [sumK]
      rw [r_cell_Right hw, ob_some, c_bnot, c_dec]
      by_cases hok : okC w.2.2
      · rw [if_pos hok, cnd_t (len_lt (n := 1000) (by simp [lapp]; omega) (by decide)), w_some]
        refine ⟨wr_succ (by omega), by simp [lapp, g1], fun c hcm => ?_⟩
        rcases List.mem_append.1 hcm with h | h
        · exact g2 c h
        · rw [List.mem_singleton] at h; rw [h]; exact hok
      · rw [if_neg hok, w_some]
        exact ⟨rfl, rfl⟩
  · rintro ⟨x1, x2, x3⟩ ⟨g1, g2⟩
    simp only at g1 g2 ⊢
    unfold L_snaffleref10_Cells_58
    rw [rd_out, w_some]
    exact ⟨g1, g2⟩
  · rintro w hw
    cases w with
    | inl w =>
      obtain ⟨h1, h2⟩ := hw
      simp only [sumK, w_some, h2]
      exact ⟨by simp, by simp⟩
    | inr w =>
      obtain ⟨h1, h2⟩ := hw
      simp only [sumK]
      have hlen : len w.1 = s.accounts * s.symbols := by unfold len; rw [h1]; exact hs.2.2.1
      refine Wq.bind (Q := fun w : (Bool × List SCell) ⊕ (Bool × List SCell) => match w with | .inl w => w.2 = [] | .inr _ => True)
        (w_for (n := s.accounts.toNat) (step := fun v : Int × Bool × List SCell => L_snaffleref10_Cells_122 w.fst s v.fst v.snd.fst v.snd.snd) (by have := hs.1.2; omega)
        (fun i x => True) _ ?_ ?_ _ 0 (Nat.zero_le _) trivial) ?_
      · rintro i q hi _
        have hia : (i : Int) < s.accounts := by omega
        obtain ⟨c1, c2⟩ := cut_ok hs.1 hs.2.1 (cs := w.1) hlen (a := (i : Int)) (by omega) hia
        simp only
        unfold L_snaffleref10_Cells_122
        have hal : (acctZ s.symbols w.1 (i : Int)).length < 999999 := by have := acctZ_len (n := s.symbols) (cs := w.1) (a := (i : Int)); omega
        rw [cnd_t (ilt_t hia), cnd_t c1, c2, r_Whole hal (fun c hcm => by
          have := h2 c (acctZ_mem hcm)
          exact ⟨this.2.1.2.2, this.1.opn⟩), ob_some, w_cnd]
        exact ⟨fun _ => (w_some _).2 rfl, fun _ => (w_some _).2 ⟨wr_succ (by have := hs.1.2; omega), trivial⟩⟩
      · rintro q _
        simp only
        unfold L_snaffleref10_Cells_122
        rw [cnd_f (ilt_f (by omega)), w_some]
        trivial
      · rintro v hv
        cases v with
        | inl v =>
          simp only [sumK, w_some]
          rw [show v.2 = [] from hv]
          exact ⟨by simp, by simp⟩
        | inr v =>
          simp only [sumK, w_some]
          exact ⟨by omega, fun c hcm => (h2 c hcm).1⟩
theorem rl_in {b : List Int} (hb : byteP b) (hl : b.length < 99999) (hf : FormP b) {p5 : List SCell} {p6 : List SExpo} {p7 : List Int} {p8 : Bool} {p9 p10 p11 : Int} :
    Wq (iterN (fun v : Int × Int × SState => L_snaffleref13_Decode_2097146 (nZ b 7 : Int) b (at1 b 4) (at1 b 5) (ordsZ b) p5 p6 p7 p8 p9 p10 p11 v.1 v.2.1 v.2.2) LF (0, 0, zS)) fun w => match w with
      | .inl w => w = (2, zS) ∧ ¬ goodP b
      | .inr _ => ∀ (i : Nat), i < nZ b 7 → ¬ 1 < at1 b (32 + 61 * i + 60) ∧ (ordZ b (32 + 61 * i)).account < at1 b 4 ∧ (ordZ b (32 + 61 * i)).symbol < at1 b 5 := by
  have hn := hf.nums
  have hj := hf.just
  unfold off4 off3 off2 at hj
  have hol : (ordsZ b).length = nZ b 7 := by simp [ordsZ]
  refine w_for (n := nZ b 7) (by omega) (fun i x => x = (0, zS) ∧ ∀ (j : Nat), j < i → ¬ 1 < at1 b (32 + 61 * j + 60) ∧ (ordZ b (32 + 61 * j)).account < at1 b 4 ∧ (ordZ b (32 + 61 * j)).symbol < at1 b 5) _ ?_ ?_ _ 0 (Nat.zero_le _) ⟨rfl, fun j h => by omega⟩
  · rintro i x hi ⟨rfl, h⟩
    simp only
    unfold L_snaffleref13_Decode_2097146
    have ho : lget (ordsZ b) (itn (i : Int)) = ordZ b (32 + 61 * i) := by
      rw [lget_nat _ i (by omega)]
      simp [ordsZ]
    have hw : wr IntKind.i64 (iadd (wr IntKind.i64 (iadd 32 (wr IntKind.i64 (imul 61 (i : Int))))) 60) = ((32 + 61 * i + 60 : Nat) : Int) := by
      unfold iadd imul
      rw [wr_small (n := 61 * (i : Int)) (by omega) (by omega), wr_small (n := 32 + 61 * (i : Int)) (by omega) (by omega), wr_small (by omega) (by omega)]
      omega
    have hmem : ordZ b (32 + 61 * i) ∈ (pZ b).orders := by
      show _ ∈ ordsZ b
      exact List.mem_map.2 ⟨i, List.mem_range.2 hi, rfl⟩
    rw [cnd_t (ilt_t (by omega)), cnd_t (inb (ordsZ b) i (by omega)), ho, hw, inb b _ (by omega), bor_true, cnd_true, lg1]
    by_cases hbad : (at1 b 4 ≤ (ordZ b (32 + 61 * i)).account ∨ at1 b 5 ≤ (ordZ b (32 + 61 * i)).symbol) ∨ 1 < at1 b (32 + 61 * i + 60)
    · rw [cnd_t (by simp only [band_T, band_F, bor_T, bor_F, bnot_T, bnot_F, ilt_T, ilt_F, ile_T, ile_F, ieq_T, ieq_F, beq_T, beq_F]; exact hbad), w_some, noS]
      refine ⟨rfl, fun hg => ?_⟩
      rcases hbad with hx | hx
      · have hin := withS_right_ord hg.2 _ hmem
        have h1 : (ordZ b (32 + 61 * i)).account < at1 b 4 := hin.2.2.1
        have h2 : (ordZ b (32 + 61 * i)).symbol < at1 b 5 := hin.2.2.2
        omega
      · exact hg.1 (.inr ⟨i, hi, hx⟩)
    · rw [cnd_f (by simp only [band_T, band_F, bor_T, bor_F, bnot_T, bnot_F, ilt_T, ilt_F, ile_T, ile_F, ieq_T, ieq_F, beq_T, beq_F]; omega), w_some]
      refine ⟨wr_succ (by omega), rfl, fun j hj2 => ?_⟩
      by_cases hji : j = i
      · subst hji
        exact ⟨fun h => hbad (.inr h), by omega, by omega⟩
      · exact h j (by omega)
  · rintro x ⟨rfl, h⟩
    simp only
    unfold L_snaffleref13_Decode_2097146
    rw [cnd_f (ilt_f (by omega)), w_some]
    exact h
theorem mark_at {b : List Int} (h : 4 ≤ b.length) : b.take 4 = magic ↔ (at1 b 0 = 115 ∧ at1 b 1 = 110 ∧ at1 b 2 = 97 ∧ at1 b 3 = 102) := by
  match b, h with
  | p :: q :: r :: s :: t, _ =>
    simp [magic, at1, lget]
theorem ob_num {α : Type} {b : List Int} (hb : byteP b) {k : Nat} (h : k + 8 ≤ b.length) (f : Int → Option α) : obind (F_snaffleref13_num (ltake (ldrop b k) 8)) f = f (at8 b k) := by
  have e2 : ltake (ldrop b k) 8 = (b.drop k).take 8 := rfl
  rw [e2, r_num ((hb.drop _).take _) (by rw [List.length_take]; omega), ob_some]
  rfl
theorem r_Decode {b : List Int} (hb : byteP b) (hl : b.length < 99999) : Wq (F_snaffleref13_Decode b) (DecQ b) := by
  have r4 := at1_rng hb 4; have r5 := at1_rng hb 5; have r7 := at1_rng hb 7; have r6 := at1_rng hb 6
  have e0 : lget b 0 = at1 b 0 := rfl
  have e1 : lget b 1 = at1 b 1 := rfl
  have e2 : lget b 2 = at1 b 2 := rfl
  have e3 : lget b 3 = at1 b 3 := rfl
  have e4 : lget b 4 = at1 b 4 := rfl
  have e5 : lget b 5 = at1 b 5 := rfl
  have e6 : lget b 6 = at1 b 6 := rfl
  have e7 : lget b 7 = at1 b 7 := rfl
  have notForm : ¬ FormP b → Wq (some (zS, (2 : Int))) (DecQ b) := fun h => (w_some _).2 ⟨fun _ => rfl, fun h' => absurd h' h, fun h' => absurd h' h, fun h' => absurd h' h⟩
  unfold F_snaffleref13_Decode
  rw [noS, e0, e1, e2, e3, e4, e5, e6, e7, wr_byte r4, wr_byte r5, wr_byte r7]
  have c0 : bor (ilt 0 (len b)) (bnot (bnot (ilt (len b) 36))) = true := by simp only [band_T, band_F, bor_T, bor_F, bnot_T, bnot_F, ilt_T, ilt_F, ile_T, ile_F, ieq_T, ieq_F, beq_T, beq_F]; omega
  have c1 : bor (ilt 1 (len b)) (bnot (bnot (bor (ilt (len b) 36) (bnot (ieq (at1 b 0) 115))))) = true := by simp only [band_T, band_F, bor_T, bor_F, bnot_T, bnot_F, ilt_T, ilt_F, ile_T, ile_F, ieq_T, ieq_F, beq_T, beq_F]; omega
  have c2 : bor (ilt 2 (len b)) (bnot (bnot (bor (bor (ilt (len b) 36) (bnot (ieq (at1 b 0) 115))) (bnot (ieq (at1 b 1) 110))))) = true := by simp only [band_T, band_F, bor_T, bor_F, bnot_T, bnot_F, ilt_T, ilt_F, ile_T, ile_F, ieq_T, ieq_F, beq_T, beq_F]; omega
  have c3 : bor (ilt 3 (len b)) (bnot (bnot (bor (bor (bor (ilt (len b) 36) (bnot (ieq (at1 b 0) 115))) (bnot (ieq (at1 b 1) 110))) (bnot (ieq (at1 b 2) 97))))) = true := by simp only [band_T, band_F, bor_T, bor_F, bnot_T, bnot_F, ilt_T, ilt_F, ile_T, ile_F, ieq_T, ieq_F, beq_T, beq_F]; omega
  rw [cnd_t c0, cnd_t c1, cnd_t c2, cnd_t c3]
  by_cases h36 : 36 ≤ b.length ∧ b.take 4 = magic
  case neg =>
    rw [cnd_t (b := bor _ _) (by
      simp only [band_T, band_F, bor_T, bor_F, bnot_T, bnot_F, ilt_T, ilt_F, ile_T, ile_F, ieq_T, ieq_F, beq_T, beq_F]
      unfold len
      by_cases hl36 : 36 ≤ b.length
      · have : ¬ (at1 b 0 = 115 ∧ at1 b 1 = 110 ∧ at1 b 2 = 97 ∧ at1 b 3 = 102) := fun h => h36 ⟨hl36, (mark_at (by omega)).2 h⟩
        omega
      · omega)]
    exact notForm fun hf => h36 ⟨hf.many, hf.mark⟩
  have hmk := (mark_at (by omega)).1 h36.2
  rw [cnd_f (b := bor _ _) (by
    simp only [band_T, band_F, bor_T, bor_F, bnot_T, bnot_F, ilt_T, ilt_F, ile_T, ile_F, ieq_T, ieq_F, beq_T, beq_F]
    unfold len
    omega), cnd_t (ilt_t (by unfold len; omega)), cnd_t (ilt_t (by unfold len; omega)), cnd_t (ilt_t (by unfold len; omega)), cnd_t (ilt_t (by unfold len; omega))]
  by_cases hdim : (1 ≤ at1 b 4 ∧ at1 b 4 ≤ 8) ∧ (1 ≤ at1 b 5 ∧ at1 b 5 ≤ 8) ∧ at1 b 7 ≤ 64
  case neg =>
    rw [cnd_t (b := bor _ _) (by simp only [band_T, band_F, bor_T, bor_F, bnot_T, bnot_F, ilt_T, ilt_F, ile_T, ile_F, ieq_T, ieq_F, beq_T, beq_F]; omega)]
    exact notForm fun hf => hdim ⟨hf.acc, hf.sym, hf.ords⟩
  rw [cnd_f (b := bor _ _) (by simp only [band_T, band_F, bor_T, bor_F, bnot_T, bnot_F, ilt_T, ilt_F, ile_T, ile_F, ieq_T, ieq_F, beq_T, beq_F]; omega)]
  have hcN : ((cN b : Nat) : Int) = at1 b 4 * at1 b 5 := by
    unfold cN
    rw [Int.natCast_mul, nZ_eq hb, nZ_eq hb]
  have n4 := nZ_eq hb 4; have n7 := nZ_eq hb 7
  have m := mul_le64 (a := at1 b 4) (b := at1 b 5) r4.1 (by omega) r5.1 (by omega)
  have hm : wr IntKind.i64 (imul (at1 b 4) (at1 b 5)) = (cN b : Int) := by
    unfold imul
    rw [wr_small m.1 (by omega), hcN]
  have hsz : wr IntKind.i64 (iadd (wr IntKind.i64 (iadd (wr IntKind.i64 (iadd 36 (wr IntKind.i64 (imul 61 (at1 b 7))))) (wr IntKind.i64 (imul 32 (wr IntKind.i64 (imul (at1 b 4) (at1 b 5))))))) (wr IntKind.i64 (imul 8 (at1 b 4)))) = ((off4 b + 8 * nZ b 4 + 4 : Nat) : Int) := by
    rw [hm]
    unfold iadd imul
    rw [wr_small (n := 61 * at1 b 7) (by omega) (by omega), wr_small (n := 36 + 61 * at1 b 7) (by omega) (by omega), wr_small (n := 32 * (cN b : Int)) (by omega) (by omega), wr_small (n := 36 + 61 * at1 b 7 + 32 * (cN b : Int)) (by omega) (by omega), wr_small (n := 8 * at1 b 4) (by omega) (by omega), wr_small (by omega) (by omega)]
    unfold off4 off3 off2
    omega
  rw [hsz]
  by_cases hj : b.length = off4 b + 8 * nZ b 4 + 4
  case neg =>
    rw [cnd_t (b := bnot _) (by
      simp only [band_T, band_F, bor_T, bor_F, bnot_T, bnot_F, ilt_T, ilt_F, ile_T, ile_F, ieq_T, ieq_F, beq_T, beq_F]
      unfold len
      omega)]
    exact notForm fun hf => hj hf.just
  have hf : FormP b := ⟨h36.1, h36.2, hdim.1, hdim.2.1, hdim.2.2, hj⟩
  rw [cnd_f (b := bnot _) (by
    simp only [band_T, band_F, bor_T, bor_F, bnot_T, bnot_F, ilt_T, ilt_F, ile_T, ile_F, ieq_T, ieq_F, beq_T, beq_F]
    unfold len
    omega)]
  have hsub : wr IntKind.i64 (isub (len b) 4) = ((b.length - 4 : Nat) : Int) := by
    unfold isub len
    rw [wr_small (by omega) (by omega)]; omega
  rw [hsub, cnd_t (band_t (ile_t (by omega)) (ile_t (by unfold len; omega))), itn_nat]
  have el : ltake b (b.length - 4) = b.take (b.length - 4) := rfl
  rw [el, r_crc_Sum (by rw [List.length_take]; omega) (hb.take _), ob_some]
  refine (rl_sum hl (by omega) (toI_rng _)).bind fun w hw => ?_
  match w, hw with
  | .inl w, hw =>
    obtain ⟨h1, rfl⟩ := hw
    show Wq (some (zS, (10 : Int))) (DecQ b)
    exact (w_some _).2 ⟨fun h => absurd hf h, fun _ _ => rfl, fun _ h => absurd h h1, fun _ h => absurd h h1⟩
  | .inr w, hw =>
    obtain ⟨hsum, rfl⟩ := hw
    have hsum : sumP b := hsum
    simp only [sumK]
    have hnn := hf.nums
    have hlen : 36 ≤ b.length := h36.1
    rw [cnd_t (ile_t (by unfold len; omega)), ob_num hb (by omega), cnd_t (ile_t (by unfold len; omega)), ob_num hb (by omega), cnd_t (ile_t (by unfold len; omega)), ob_num hb (by omega), hm, ← n7]
    refine (rl_orders hb hl hf).bind fun y6 h6 => ?_
    subst h6
    try simp only
    refine (rl_cells hb hl hf).bind fun y7 h7 => ?_
    subst h7
    try simp only
    refine (rl_lims hb hl hf).bind fun y8 h8 => ?_
    subst h8
    try simp only
    have hcaps := rl_caps hb hl hf (y := at1 b 5) (os := ordsZ b) (cs := cellsZ b) (ls := limsZ b) (kl := ieq (at1 b 6) 1) (l1 := at8 b 8) (l2 := at8 b 16) (l3 := at8 b 24)
    rw [n4] at hcaps
    refine hcaps.bind fun y9 h9 => ?_
    obtain ⟨k9, rfl⟩ := h9
    try simp only
    have bad2 : ¬ goodP b → Wq (some (zS, (2 : Int))) (DecQ b) := fun h => (w_some _).2 ⟨fun h' => absurd hf h', fun _ h' => absurd hsum h', fun _ _ _ => rfl, fun _ _ h' => absurd h' h⟩
    refine (rl_in hb hl hf).bind fun w hw => ?_
    match w, hw with
    | .inl w, hw =>
      obtain ⟨rfl, h2⟩ := hw
      exact bad2 h2
    | .inr w, hin =>
      have hin : ∀ (i : Nat), i < nZ b 7 → ¬ 1 < at1 b (32 + 61 * i + 60) ∧ (ordZ b (32 + 61 * i)).account < at1 b 4 ∧ (ordZ b (32 + 61 * i)).symbol < at1 b 5 := hin
      simp only [sumK]
      have hp : SState.mk (at1 b 4) (at1 b 5) (ordsZ b) (cellsZ b) (limsZ b) (capsZ b) (ieq (at1 b 6) 1) (at8 b 8) (at8 b 16) (at8 b 24) = pZ b := rfl
      rw [hp]
      have hsz := pZ_sized hb hf
      have hor := pZ_ords hb
      have hcz : ∀ c ∈ (pZ b).cells, Ok_cell c := fun c hc => by
        obtain ⟨q1, q2⟩ := pZ_cells c hc
        rw [q2]
        exact ⟨q1, ⟨by simp only; omega, by simp only; omega⟩, ⟨by simp only; omega, by simp only; omega⟩, ⟨by simp only; omega, by simp only; omega⟩⟩
      have hcs : Wq (F_snaffleref10_Cells (pZ b)) fun r => (r.1.length ≤ 64 ∧ ∀ c ∈ r.1, Ok_cell c) ∧ ((∀ o ∈ (pZ b).orders, orderIn (pZ b) o) → (r.2 = true ↔ fitS (fillS (pZ b))) ∧ (r.2 = true → r.1 = mkCells (pZ b) (pZ b).orders)) := by
        obtain ⟨r, er, h1⟩ := t_Cells hsz (fun o h => (hor o h).1) hcz
        refine ⟨r, er, h1, fun hall => ?_⟩
        obtain ⟨r', er', h2⟩ := r_Cells hsz (fun o h => ⟨hall o h, (hor o h).1⟩) ⟨hcz, by have := hsz.lens.1; omega⟩
        rw [er] at er'; cases er'
        exact h2
      refine hcs.bind fun y12 ⟨⟨q1, q2⟩, q3⟩ => ?_
      rw [cnd_t (b := bor (ilt 6 _) _) (by
        have : ilt 6 (len b) = true := ilt_t (by unfold len; omega)
        rw [this]; rfl)]
      have hin2 : ∀ o ∈ (pZ b).orders, orderIn (pZ b) o → True := fun _ _ _ => trivial
      by_cases hgo : y12.2 = true ∧ ¬ 1 < at1 b 6
      case neg =>
        have hb1 : bor (bnot y12.2) (ilt 1 (at1 b 6)) = true := by
          simp only [band_T, band_F, bor_T, bor_F, bnot_T, bnot_F, ilt_T, ilt_F, ile_T, ile_F, ieq_T, ieq_F, beq_T, beq_F]
          cases hy : y12.2 with
          | false => exact .inl rfl
          | true => exact .inr (Decidable.byContradiction fun h => hgo ⟨hy, h⟩)
        rw [hb1, bnot_true, cnd_false, ob_some, bor_true, cnd_true]
        refine bad2 fun hg => hgo ⟨?_, fun h => hg.1 (.inl h)⟩
        have hall := withS_right_ord hg.2
        exact (q3 hall).1.2 ⟨hg.2.ok, hg.2.acct⟩
      have hb1 : bor (bnot y12.2) (ilt 1 (at1 b 6)) = false := by
        rw [hgo.1]
        simp only [band_T, band_F, bor_T, bor_F, bnot_T, bnot_F, ilt_T, ilt_F, ile_T, ile_F, ieq_T, ieq_F, beq_T, beq_F]
        exact ⟨trivial, by omega⟩
      rw [hb1, bnot_false, cnd_true]
      have hno : ¬ oddP b := by
        rintro (h | ⟨i, hi, h⟩)
        · exact hgo.2 h
        · exact (hin i hi).1 h
      obtain ⟨t, ht⟩ : ∃ t, t = SState.mk (at1 b 4) (at1 b 5) (ordsZ b) y12.1 (limsZ b) (capsZ b) (ieq (at1 b 6) 1) (at8 b 8) (at8 b 16) (at8 b 24) := ⟨_, rfl⟩
      rw [← ht]
      have hl2 := hsz.lens
      have htk : Ok_state t := by
        have hc8 := at8_rng b
        rw [ht]
        refine ⟨byte_inI r4, byte_inI r5, ⟨fun o ho => (hor o ho).1, by have : (ordsZ b).length ≤ 64 := hl2.2.2.2; simp only; omega⟩, ⟨q2, by simp only; omega⟩, ⟨fun x hx => ?_, by have : (limsZ b).length = (cellsZ b).length := hl2.2.1; have : (cellsZ b).length ≤ 64 := hl2.1; simp only; omega⟩, ⟨fun x hx => ?_, by have : (capsZ b).length = (at1 b 4).toNat := hl2.2.2.1; simp only; omega⟩, hc8 _, hc8 _, hc8 _⟩
        · obtain ⟨i, _, rfl⟩ := List.mem_map.1 (show x ∈ limsZ b from hx)
          exact ⟨hc8 _, hc8 _, hc8 _⟩
        · obtain ⟨i, _, rfl⟩ := List.mem_map.1 (show x ∈ capsZ b from hx)
          exact hc8 _
      have hts : shortP t := by
        rw [ht]
        refine ⟨?_, ?_, ?_, ?_⟩
        · have : (ordsZ b).length ≤ 64 := hl2.2.2.2
          show (ordsZ b).length < _; omega
        · show y12.1.length < _; omega
        · have : (limsZ b).length = (cellsZ b).length := hl2.2.1
          have : (cellsZ b).length ≤ 64 := hl2.1
          show (limsZ b).length < _; omega
        · have : (capsZ b).length = (at1 b 4).toNat := hl2.2.2.1
          show (capsZ b).length < _; omega
      refine (r_Right htk hts).bind fun y13 h13 => ?_
      have hst : goodP b ↔ RightS t := by
        constructor
        · intro hg
          have hall := withS_right_ord hg.2
          have e := (q3 hall).2 hgo.1
          have : t = fillS (pZ b) := by rw [ht, e]; rfl
          rw [this]; exact hg.2
        · intro hR
          have hall : ∀ o ∈ (pZ b).orders, orderIn (pZ b) o := fun o ho => by
            have := hR.fine.ords o (by rw [ht]; exact ho)
            rw [ht] at this
            exact this
          have e := (q3 hall).2 hgo.1
          have : t = fillS (pZ b) := by rw [ht, e]; rfl
          rw [this] at hR
          exact ⟨hno, hR⟩
      cases y13 with
      | false =>
        rw [bor_false, bnot_false, cnd_true]
        exact bad2 fun hg => by have := h13.2 (hst.1 hg); cases this
      | true =>
        rw [bor_false, bnot_true, cnd_false, w_some]
        have hg := hst.2 (h13.1 rfl)
        have hall := withS_right_ord hg.2
        have e := (q3 hall).2 hgo.1
        have : t = fillS (pZ b) := by rw [ht, e]; rfl
        rw [this]
        exact ⟨fun h => absurd hf h, fun _ h => absurd hsum h, fun _ _ h => absurd hg h, fun _ _ _ => rfl⟩
theorem right_tail {x0 x1 : SState} {b : List Int} (hs : shortP x0) (hb : byteP b) (hl : b.length ≤ 9000) : Wq (obind (F_row_Decode b) fun y6 ↦ obind (F_snaffleref13_Decode b) fun y7 ↦ obind (cnd (ieq y6.snd y7.snd) (F_snaffleref10_Same y6.fst y7.fst) (some false)) fun y8 ↦ obind (cnd (band (ieq y6.snd y7.snd) y8) (F_row_Same x0 x1) (some false)) fun y9 ↦ obind (cnd (band (ieq y6.snd y7.snd) y8) (F_snaffleref10_Same x0 x1) (some false)) fun y10 ↦ some (band (band (ieq y6.snd y7.snd) y8) (beq y9 y10))) fun x => x = true := by
  refine (s_row_DecodeR hb (by omega)).bind fun y6 ⟨h6, r6⟩ => ?_
  refine (r_Decode hb (by omega)).bind fun y7 h7 => ?_
  have e := h6.uniq h7
  subst e
  have hsh : shortP y6.1 := by
    by_cases h0 : y6.2 = 0
    · exact (r6.ok h0).2.2.1
    · rw [(r6.bad h0).1]; exact zS_short
  rw [ieq_refl, cnd_true, same_refl hsh, ob_some, band_true, cnd_true, cnd_true]
  refine (s_row_Same hs).bind fun y9 h9 => ?_
  refine (s_same hs).bind fun y10 h10 => ?_
  have : y9 = y10 := by rw [Bool.eq_iff_iff, h9, h10]
  rw [w_some, this, beq_refl']; rfl
theorem pure_RowRight (x0 x1 : SState) (x2 : List Int) (k0 : Ok_state x0) (k1 : Ok_state x1) (k2 : okL ok_u8 x2) : F_snafflelaw13_RowRight x0 x1 x2 = some true := by
  refine Wq.eq ?_
  unfold F_snafflelaw13_RowRight
  rw [awake13, ob_some, bnot_true, cnd_false]
  refine (s_short x0).bind fun y1 h1 => ?_
  refine Wq.bind (Q := fun b => (y1 = true → b = true → shortP x1)) ?_ fun y2 h2 => ?_
  · rw [w_cnd]
    exact ⟨fun _ => (s_short x1).mono fun b hb _ => hb, fun h => (w_some _).2 fun _ h => by cases h⟩
  rw [w_cnd]
  refine ⟨fun _ => (w_some _).2 rfl, fun h => ?_⟩
  simp only [band_T, band_F, bor_T, bor_F, bnot_T, bnot_F, ilt_T, ilt_F, ile_T, ile_F, ieq_T, ieq_F, beq_T, beq_F] at h
  have hs := h1 h.1.1
  have hlen : x2.length ≤ 9000 := by unfold len at h; omega
  have tail := right_tail (x1 := x1) hs (okL_byte k2) hlen
  by_cases hR : RightS x0
  · rw [e_row_Encode k0 hs hR, ob_some]
    refine (r_Right k0 hs).bind fun y4 h4 => ?_
    rw [h4.2 hR, bnot_true, cnd_false]
    simp only
    rw [ieq_00, bnot_true, bnot_false, cnd_true, r_Encode hR, ob_some, cnd_true, bor_false]
    have : seq (u2s (encZ x0)) (u2s (encZ x0)) = true := by rw [seq_T]
    rw [this, bnot_true, bnot_false, cnd_true, e_row_Size k0 hs hR, ob_some, bor_false, ieq_refl, bnot_true, cnd_false]
    exact tail
  · rw [e_row_Encode_bad k0 hs hR, ob_some]
    refine (r_Right k0 hs).bind fun y4 h4 => ?_
    have : y4 = false := by cases y4 with
      | false => rfl
      | true => exact absurd (h4.1 rfl) hR
    subst this
    rw [bnot_false, cnd_true]
    simp only
    have l0 : len ([] : List Int) = 0 := rfl
    rw [l0, ieq_00, ieq_refl, bnot_true, bor_false, bnot_false, cnd_true, e_row_Size_bad k0 hs hR, ob_some, ieq_00, bnot_true, bor_false, cnd_false]
    exact tail
end Go.Av
