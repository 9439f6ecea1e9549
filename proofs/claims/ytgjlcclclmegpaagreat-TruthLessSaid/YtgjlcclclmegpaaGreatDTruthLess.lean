/- The functions that this claim reaches, each as a plain function; each is what its text comes to. No condition. -/
import Derived.Test.YtgjlcclclmegpaaGreatAvE
import Derived.Test.YtgjlcclclmegpaaGreatProg
import Derived.KernelRfl
import Derived.Maps.OwnSet
import Derived.Maps.AppendAt
import Derived.WalkKit
set_option linter.unusedVariables false
set_option linter.unusedSimpArgs false
set_option linter.unnecessarySimpa false
namespace Go.Av.Com
open Go Go.RowKit Go.Maps Go.Av Go.Proofs
set_option maxHeartbeats 2000000
set_option maxRecDepth 100000
set_option linter.unusedVariables false
set_option linter.unusedSimpArgs false
/-- the set of some keys -/
def KS (l : List Int) : DataW Unit := setOf (.agg []) (l.map (Lit.int .i64))
theorem KS_has (l : List Int) (x : Int) : Maps.has (KS l) (.int .i64 x) = l.contains x := by
  unfold KS
  rw [has_setOf _ _ _ (fun y hy => by obtain ⟨_, _, rfl⟩ := List.mem_map.1 hy; trivial), List.any_map]
  induction l with
  | nil => rfl
  | cons a r ih =>
    rw [List.any_cons, List.contains_cons, ih]
    congr 1
    show decide (IntKind.i64 = IntKind.i64 ∧ a = x) = (x == a)
    by_cases e : a = x
    · subst e; simp
    · have e' : ¬ x = a := fun h => e h.symm
      simp [e, e']
theorem KS_put (l : List Int) (x : Int) : KS (l ++ [x]) = (KS l).put (.int .i64 x) (.agg []) := by
  unfold KS
  rw [List.map_append, List.map_singleton, setOf_snoc]
def cO (o : SOrder) : List Value := [.int .i64 o.id, .int .i64 o.account, .int .i64 o.symbol, .int .i64 o.side, .int .i64 o.qty, .int .i64 o.price, .int .i64 o.filled, .int .i64 o.phase, .int .i64 o.newQty, .int .i64 o.newPrice, .int .i64 o.version, .bool o.asked]
def cM (m : SMsg) : List Value := [.int .i64 m.kind, .int .i64 m.order, .int .i64 m.account, .int .i64 m.symbol, .int .i64 m.side, .int .i64 m.qty, .int .i64 m.price, .int .i64 m.version, .int .i64 m.lsn]
def newM (m : SMsg) : SOrder := ⟨m.order, m.account, m.symbol, m.side, m.qty, m.price, 0, 2, 0, 0, 0, false⟩
def stepC (p : List Int × List SOrder) (m : SMsg) : List Int × List SOrder := if m.order ∈ p.1 ∨ m.kind ≠ 1 then p else (p.1 ++ [m.order], p.2 ++ [newM m])
def foldC (ks : List Int) (l : List SMsg) : List Int × List SOrder := l.foldl stepC (ks, [])
theorem foldC_succ (ks : List Int) {l : List SMsg} {k : Nat} (hk : k < l.length) : foldC ks (l.take (k + 1)) = stepC (foldC ks (l.take k)) l[k] := by
  unfold foldC
  rw [List.take_succ_eq_append_getElem hk, List.foldl_append]; rfl
theorem stepC_len (p : List Int × List SOrder) (m : SMsg) : (stepC p m).1.length ≤ p.1.length + 1 ∧ (stepC p m).2.length ≤ p.2.length + 1 := by
  unfold stepC; split <;> simp
theorem foldC_len (ks : List Int) (l : List SMsg) : ∀ k, k ≤ l.length → (foldC ks (l.take k)).1.length ≤ ks.length + k ∧ (foldC ks (l.take k)).2.length ≤ k
  | 0, _ => by simp [foldC]
  | k + 1, h => by
    have ih := foldC_len ks l k (by omega)
    rw [foldC_succ ks (by omega)]
    have := stepC_len (foldC ks (l.take k)) l[k]
    omega
theorem lawK : Keyed Tryz.prog 2 := int_keyed Tryz.underlying2
theorem zeroU (w : World) : (zeroValue 114).run Tryz.prog w = .ok (.agg #[]) w := by kernel_rfl
def zO : Value := .agg #[.int .i64 0, .int .i64 0, .int .i64 0, .int .i64 0, .int .i64 0, .int .i64 0, .int .i64 0, .int .i64 0, .int .i64 0, .int .i64 0, .int .i64 0, .bool false]
theorem infoO : (Tryz.prog.info? 68).map (fun i => (i.zero, i.size, i.bytes)) = some (some zO, 12, 96) := by kernel_rfl
theorem info_split {P : Program} {t : TypeId} {z : Value} {s b : Nat} (h : (P.info? t).map (fun i => (i.zero, i.size, i.bytes)) = some (some z, s, b)) : ∃ i, P.info? t = some i ∧ i.zero = some z ∧ i.size = s ∧ i.bytes = b := by
  cases hi : P.info? t with
  | none => simp [hi] at h
  | some i => simp [hi] at h; exact ⟨i, rfl, h⟩
theorem cells_new (w : World) (l : List Value) (t : TypeId) : ∀ j u, l[j]? = some u → (w.alloc (.cells l.toArray t)).cell? ((⟨w.heap.size, 0, none⟩ : Addr).add j) = some u := by
  intro j u hj
  have h9 : ((⟨w.heap.size, 0, none⟩ : Addr).add j) = ⟨w.heap.size, j, none⟩ := by by_cases h : j = 0 <;> simp [Addr.add, h]
  rw [h9]
  unfold World.cell?
  simp only [heap_alloc_new]
  simpa using hj
theorem below_le {B B' : Nat} {a b : World} (h : Below B a b) (hB : B' ≤ B) : Below B' a b := ⟨h.os, h.tape, h.output, h.size, fun k hk => h.block k (Nat.lt_of_lt_of_le hk hB)⟩
theorem old_cell {w wr : World} {o : Obj} {b : Nat} {k : Nat} {v : Value} (hnx : Below (w.heap.size + 1) (w.alloc o) wr) (hb : b < w.heap.size) (h : w.cell? ⟨b, k, none⟩ = some v) : wr.cell? ⟨b, k, none⟩ = some v :=
  (hnx.cell (show b < w.heap.size + 1 by omega)).trans ((World.cell?_of_block (by show (w.heap.push o)[b]? = _; rw [Array.getElem?_push_lt hb, Array.getElem?_eq_getElem hb])).trans h)
theorem box_cell {w wr : World} {l : List Value} {t : TypeId} {k : Nat} {v : Value} (hnx : Below (w.heap.size + 1) (w.alloc (.cells l.toArray t)) wr) (h : l[k]? = some v) : wr.cell? ⟨w.heap.size, k, none⟩ = some v := by
  refine (hnx.cell (show w.heap.size < w.heap.size + 1 by omega)).trans ?_
  unfold World.cell?
  simp only [heap_alloc_new]
  simpa using h
theorem grown_cell {wr w1 : World} {l : List Value} {t : TypeId} {o : Obj} {m j : Nat} {v : Value} (hg : ((wr.alloc (.cells l.toArray t)).alloc o).grownBy w1 (some m)) (hm : m < wr.heap.size) (h : l[j]? = some v) : w1.cell? ⟨wr.heap.size, j, none⟩ = some v := by
  refine hg.cell ?_ (by show some wr.heap.size ≠ some m; intro e; cases e; omega)
  have h2 : ((wr.alloc (.cells l.toArray t)).alloc o).heap[wr.heap.size]? = some (.cells l.toArray t (0, 0)) := by
    show ((wr.heap.push (.cells l.toArray t (0, 0))).push o)[wr.heap.size]? = _
    rw [Array.getElem?_push_lt (by simp)]
    simp
  unfold World.cell?
  simp only [h2]
  simpa using h
theorem row_neq {w : World} {base : Nat} {e : TypeId} {size : Nat} {v : Value} {n : Nat} {xs : List Value} (h : w.ownsRow base e size v n xs) {b : Nat} (hb : b < base) : some b ≠ v.ownBlock := fun e1 => by
  have := (h.lt b e1.symm).1
  omega
theorem cO_one (o : SOrder) : ∀ u ∈ cO o, u.oneCell' = true := by
  intro u hu
  simp only [cO, List.mem_cons, List.not_mem_nil, or_false] at hu
  rcases hu with rfl | rfl | rfl | rfl | rfl | rfl | rfl | rfl | rfl | rfl | rfl | rfl <;> rfl
theorem t1 (w : World) (a0 a1 a2 : Option Addr) (c0 c1 n2 c2 : Nat) (I : List SMsg) (L : List SOrder)
   (hwf : ∀ o ∈ L, (Lit.int .i64 o.id).wf = true) (hwm : ∀ m ∈ I, (Lit.int .i64 m.order).wf = true) (hl0 : I.length ≤ 68719476736) (hl1 : L.length ≤ 68719476736)
   (h1 : ∀ k, (hk : k < L.length) → ∃ b o, a1 = some ⟨b, o, none⟩ ∧ b < w.heap.size ∧ ∀ j v, (cO L[k])[j]? = some v → w.cell? ⟨b, o + k * 12 + j, none⟩ = some v)
   (h0 : ∀ k, (hk : k < I.length) → ∃ b o, a0 = some ⟨b, o, none⟩ ∧ b < w.heap.size ∧ ∀ j v, (cM I[k])[j]? = some v → w.cell? ⟨b, o + k * 9 + j, none⟩ = some v) :
   Calls Tryz.prog 27 #[.agg #[.slice a0 I.length c0, .slice a1 L.length c1, .slice a2 n2 c2]] w fun e w' => ∃ v, e = .returned v ∧ Below w.heap.size w w' ∧
     w'.ownsRow (w.heap.size + 2) 68 12 v (foldC (L.map (·.id)) I).2.length ((foldC (L.map (·.id)) I).2.flatMap cO) := by
  have hmm := @run_makeMap Tryz.prog
  obtain ⟨i0, hi, hz0, hz1, hz2⟩ := info_split infoO
  go_enter Tryz.func27, Tryz.ntmps27
  go_wp2
  go_loopw [15] (fun i wr => ∃ k : Nat, k ≤ L.length ∧ i = .int .i64 k ∧ wr.ownsMap Tryz.prog 2 unitElem (w.heap.size + 1) k (KS ((L.take k).map (·.id))) ∧
      Below (w.heap.size + 1) (w.alloc (.cells #[.slice a0 I.length c0, .slice a1 L.length c1, .slice a2 n2 c2] 26)) wr ∧ w.heap.size + 2 ≤ wr.heap.size)
    (fun i _ => L.length - (intOf i).toNat)
  case atStart =>
    refine ⟨0, Nat.zero_le _, rfl, ?_, ?_, by simp⟩
    · have := World.ownsMap_made (H := Unit) (w.alloc (.cells #[.slice a0 I.length c0, .slice a1 L.length c1, .slice a2 n2 c2] 26)) Tryz.prog 2 unitElem
      simpa [KS, setOf] using this
    · exact (Below.refl _ _).alloc (by show w.heap.size + 1 ≤ _; rw [show (w.alloc (.cells #[.slice a0 I.length c0, .slice a1 L.length c1, .slice a2 n2 c2] 26)).heap.size = w.heap.size + 1 from by unfold World.alloc; exact Array.size_push _]; exact Nat.le_refl _) _
  case round =>
    obtain ⟨k, hk, rfl, hown, hnx, hws⟩ := hrel
    by_cases hlt : k < L.length
    · obtain ⟨b, o, rfl, hb, hc⟩ := h1 k (by omega)
      have hcx : ∀ j v, (cO L[k])[j]? = some v → wr.cell? ⟨b, o + k * 12 + j, none⟩ = some v := fun j v hj => old_cell hnx hb (hc j v hj)
      have hx0 : wr.cell? ⟨b, o + k * 12, none⟩ = some (.int .i64 L[k].id) := by simpa using hcx 0 _ rfl
      have hx1 := hcx 1 _ rfl
      have hx2 := hcx 2 _ rfl
      have hx3 := hcx 3 _ rfl
      have hx4 := hcx 4 _ rfl
      have hx5 := hcx 5 _ rfl
      have hx6 := hcx 6 _ rfl
      have hx7 := hcx 7 _ rfl
      have hx8 := hcx 8 _ rfl
      have hx9 := hcx 9 _ rfl
      have hx10 := hcx 10 _ rfl
      have hx11 := hcx 11 _ rfl
      clear hcx hc
      have hkey : keyOf Tryz.prog 2 (.int .i64 L[k].id) = some (.int .i64 L[k].id) := keyOf_int_mk Tryz.underlying2 (hwf _ (List.getElem_mem _))
      go_wp2_with (first
        | (at_mapUpdate; refine wpList_mapUpdate_own _ rfl _ _ _ 113 rfl 2 114 lawK Tryz.underlying113 (unitElem (H := Unit)) (w.heap.size + 1) k _ rfl (hown.alloc _) (by unfold maxLen; omega) _ _ _ rfl rfl hkey _ [] unitElem_mk ?_; intro w1 hown1 hgrow1)
        | go_in)
      have s1 := hgrow1.size
      simp at s1
      go_roundw
      case rel =>
        refine ⟨k + 1, by omega, by go_num, ?_, ?_, by omega⟩
        · rw [List.take_succ_eq_append_getElem (by omega), List.map_append, List.map_singleton, KS_put]
          exact hown1
        · exact (hnx.alloc (by omega) _).grown hgrow1 (by simp; omega) (fun j hj => by cases hj; simp)
      case measure => simp [intOf]; omega
    · have hkn : k = L.length := by omega
      subst hkn
      have hbox := box_cell (k := 0) (l := [.slice a0 I.length c0, .slice a1 L.length c1, .slice a2 n2 c2]) hnx rfl
      go_wp2
      clear hbox
      go_loopw [6, 27] (fun v i wr => ∃ k : Nat, k ≤ I.length ∧ i = .int .i64 k ∧ wr.ownsMap Tryz.prog 2 unitElem (w.heap.size + 1) (L.length + k) (KS (foldC (L.map (·.id)) (I.take k)).1) ∧
          wr.ownsRow (w.heap.size + 2) 68 12 v (foldC (L.map (·.id)) (I.take k)).2.length ((foldC (L.map (·.id)) (I.take k)).2.flatMap cO) ∧
          Below (w.heap.size + 1) (w.alloc (.cells #[.slice a0 I.length c0, .slice a1 L.length c1, .slice a2 n2 c2] 26)) wr ∧ w.heap.size + 2 ≤ wr.heap.size)
        (fun _ i _ => I.length - (intOf i).toNat)
      case atStart =>
        refine ⟨0, Nat.zero_le _, rfl, ?_, World.ownsRow_nil _ _ _ _, hnx, hws⟩
        simpa [foldC] using hown
      case round =>
        clear hown hnx hws
        obtain ⟨k, hk, rfl, hown, hrow, hnx, hws⟩ := hrel
        by_cases hlt : k < I.length
        · obtain ⟨b, o, rfl, hb, hc⟩ := h0 k hlt
          have hcx : ∀ j v, (cM I[k])[j]? = some v → wr.cell? ⟨b, o + k * 9 + j, none⟩ = some v := fun j v hj => old_cell hnx hb (hc j v hj)
          have hx0 : wr.cell? ⟨b, o + k * 9, none⟩ = some (.int .i64 I[k].kind) := by simpa using hcx 0 _ rfl
          have hx1 := hcx 1 _ rfl
          have hx2 := hcx 2 _ rfl
          have hx3 := hcx 3 _ rfl
          have hx4 := hcx 4 _ rfl
          have hx5 := hcx 5 _ rfl
          have hx6 := hcx 6 _ rfl
          have hx7 := hcx 7 _ rfl
          have hx8 := hcx 8 _ rfl
          clear hcx hc
          have hkey : keyOf Tryz.prog 2 (.int .i64 I[k].order) = some (.int .i64 I[k].order) := keyOf_int_mk Tryz.underlying2 (hwm _ (List.getElem_mem _))
          have hfl := foldC_len (L.map (·.id)) I k hk
          go_wp2_with (first
            | (at_lookup; refine wpList_lookup_own_unit _ rfl _ _ 113 rfl 2 114 lawK Tryz.underlying113 (zeroU _) (w.heap.size + 1) (L.length + k) _ rfl (hown.alloc _) _ _ rfl hkey ?_)
            | (at_mapUpdate; refine wpList_mapUpdate_own _ rfl _ _ _ 113 rfl 2 114 lawK Tryz.underlying113 (unitElem (H := Unit)) (w.heap.size + 1) (L.length + k) _ rfl ((hown.alloc _).alloc _) (by unfold maxLen; omega) _ _ _ rfl rfl hkey _ [] unitElem_mk ?_; intro w1 hown1 hgrow1; have hy1 := grown_cell (j := 1) (l := cM I[k]) hgrow1 (by omega) rfl; have hy2 := grown_cell (j := 2) (l := cM I[k]) hgrow1 (by omega) rfl; have hy3 := grown_cell (j := 3) (l := cM I[k]) hgrow1 (by omega) rfl; have hy4 := grown_cell (j := 4) (l := cM I[k]) hgrow1 (by omega) rfl; have hy5 := grown_cell (j := 5) (l := cM I[k]) hgrow1 (by omega) rfl; have hy6 := grown_cell (j := 6) (l := cM I[k]) hgrow1 (by omega) rfl)
            | (at_builtin; refine wpList_append_own _ rfl _ _ 23 rfl (w.heap.size + 2) 68 i0 zO 12 96 Tryz.underlying23 hi hz0 hz1 hz2 rfl (by decide) _ _ _ rfl ((((hrow.alloc _).alloc _).kept hgrow1 (Or.inr (row_neq hrow (Nat.lt_succ_self _)).symm)).alloc _) ⟨w1.heap.size, 0, none⟩ 1 1 (cO (newM I[k])) rfl rfl (cells_new _ _ _) (cO_one _) (by unfold maxLen; omega) (by omega) (by have := hgrow1.size; simp at this ⊢; omega) ?_; intro v' w2 hown' hgrow2 hnil2)
            | go_in)
          · -- it's known
            have ht : Maps.has (KS (foldC (L.map (·.id)) (I.take k)).1) (Lit.int .i64 I[k].order) = true := by assumption
            rw [KS_has] at ht
            have e : foldC (L.map (·.id)) (I.take (k + 1)) = foldC (L.map (·.id)) (I.take k) := by
              rw [foldC_succ _ hlt, stepC, if_pos (.inl (by simpa using ht))]
            go_roundw
            case rel =>
              refine ⟨k + 1, by omega, by go_num, ?_, ?_, (hnx.alloc (by omega) _).alloc (by simp; omega) _, by simp; omega⟩
              · rw [e]; exact ((hown.alloc _).alloc _).mono (by omega)
              · rw [e]; exact (hrow.alloc _).alloc _
            case measure => simp [intOf]; omega
          · -- it's no New
            have ht : (I[k].kind != 1) = true := by assumption
            have e : foldC (L.map (·.id)) (I.take (k + 1)) = foldC (L.map (·.id)) (I.take k) := by
              rw [foldC_succ _ hlt, stepC, if_pos (.inr (by simpa using ht))]
            go_roundw
            case rel =>
              refine ⟨k + 1, by omega, by go_num, ?_, ?_, (hnx.alloc (by omega) _).alloc (by simp; omega) _, by simp; omega⟩
              · rw [e]; exact ((hown.alloc _).alloc _).mono (by omega)
              · rw [e]; exact (hrow.alloc _).alloc _
            case measure => simp [intOf]; omega
          · -- a new one
            have ht : ¬ Maps.has (KS (foldC (L.map (·.id)) (I.take k)).1) (Lit.int .i64 I[k].order) = true := by assumption
            have ht2 : (I[k].kind != 1) = false := by assumption
            rw [KS_has] at ht
            have e : foldC (L.map (·.id)) (I.take (k + 1)) = ((foldC (L.map (·.id)) (I.take k)).1 ++ [I[k].order], (foldC (L.map (·.id)) (I.take k)).2 ++ [newM I[k]]) := by
              rw [foldC_succ _ hlt, stepC, if_neg (by rintro (g | g); exact ht (by simpa using g); exact g (by simpa using ht2))]
            have hr1 := (((hrow.alloc (.cells (cM I[k]).toArray 51)).alloc (.cells #[] 114)).kept hgrow1 (Or.inr (row_neq hrow (Nat.lt_succ_self _)).symm))
            have s1 := hgrow1.size
            have s2 := hgrow2.size
            simp at s1 s2
            go_roundw
            case rel =>
              refine ⟨k + 1, by omega, by go_num, ?_, ?_, ?_, by omega⟩
              · rw [e, KS_put]
                exact (hown1.alloc _).kept hgrow2 (row_neq hr1 (Nat.lt_succ_self _))
              · rw [e]
                simpa using hown'
              · exact ((((hnx.alloc (by omega) _).alloc (by simp; omega) _).grown hgrow1 (by simp; omega) (fun j hj => by cases hj; exact Nat.le_refl _)).alloc (by omega) _).grown hgrow2 (by simp; omega) (fun j hj => Nat.le_trans (Nat.le_succ _) (hr1.lt j hj).1)
            case measure => simp [intOf]; omega
        · have hkn : k = I.length := by omega
          subst hkn
          go_wp2
          go_ret
          rw [List.take_length] at hrow
          exact ⟨_, rfl, ((Below.refl _ _).alloc (Nat.le_refl _) _).trans (below_le hnx (Nat.le_succ _)), hrow⟩
theorem coming_fold : ∀ (l : List SMsg) (ks ks' : List Int) (O : List SOrder), (∀ x, x ∈ ks ↔ x ∈ ks') → (l.foldl stepC (ks, O)).2 = O ++ comingZ ks' l
  | [], _, _, O, _ => by simp [comingZ]
  | m :: r, ks, ks', O, h => by
    rw [List.foldl_cons]
    unfold comingZ
    rw [show stepC (ks, O) m = if m.order ∈ ks ∨ m.kind ≠ 1 then (ks, O) else (ks ++ [m.order], O ++ [newM m]) from rfl]
    by_cases g : m.order ∈ ks ∨ m.kind ≠ 1
    · rw [if_pos g, if_pos (by rw [← h]; exact g)]
      exact coming_fold r ks ks' O h
    · rw [if_neg g, if_neg (by rw [← h]; exact g)]
      have := coming_fold r (ks ++ [m.order]) (m.order :: ks') (O ++ [newM m]) (fun x => by simp [h, or_comm])
      rw [this, List.append_assoc]; rfl
theorem foldC_coming (ks : List Int) (l : List SMsg) : (foldC ks l).2 = comingZ ks l := by
  unfold foldC
  rw [coming_fold l ks ks [] (fun _ => Iff.rfl)]; rfl
theorem cO_len (o : SOrder) : (cO o).length = 12 := rfl
theorem flat_get : ∀ (l : List SOrder) (i k : Nat) (hi : i < l.length), k < 12 → (l.flatMap cO)[i * 12 + k]? = (cO l[i])[k]?
  | o :: r, 0, k, _, hk => by
    rw [List.flatMap_cons, Nat.zero_mul, Nat.zero_add, List.getElem?_append_left (by rw [cO_len]; exact hk)]; rfl
  | o :: r, i + 1, k, hi, hk => by
    rw [List.flatMap_cons, List.getElem?_append_right (by rw [cO_len]; omega), cO_len, show (i + 1) * 12 + k - 12 = i * 12 + k by omega, flat_get r i k (by simpa using hi) hk]; rfl
/-- What lies in a slice that is read alone. -/
theorem ro_open {M : Mem} {w : World} {e : E} {l : List (den e)} {v : Value} (hH : M.H = w.heap) (hF : ∀ b, M.F b → b < w.heap.size) (h : Sees M (.ro e l false) v) :
    ∃ a cap, v = .slice a l.length cap ∧ ∀ k, (hk : k < l.length) → ∃ b o, a = some ⟨b, o, none⟩ ∧ b < w.heap.size ∧ ∀ j, j < esz e → ∃ u, w.cell? ⟨b, o + k * esz e + j, none⟩ = some u ∧ Sees M (nth (cells e l[k]) j) u := by
  cases h with
  | roE e ex a cap hx => exact ⟨a, cap, rfl, fun k hk => absurd hk (Nat.not_lt_zero k)⟩
  | ro e l ex b o cap hl hx hF' cs hc hs =>
    refine ⟨_, cap, rfl, fun k hk => ⟨b, o, rfl, hF b hF', fun j hj => ⟨cs k j, ?_, hs k j hk hj⟩⟩⟩
    have := hc k j hk hj
    unfold cellAt at this
    rw [hH] at this
    unfold World.cell?
    revert this
    cases w.heap[b]? with
    | none => intro h; cases h
    | some ob => cases ob <;> intro h <;> simp_all
theorem cO_sees {M : Mem} {o : SOrder} {j : Nat} {u v : Value} (hj : (cO o)[j]? = some v) (hs : Sees M (nth (cells .order o) j) u) : u = v := by
  have hlt : j < 12 := by have := (List.getElem?_eq_some_iff.1 hj).1; rwa [cO_len] at this
  match j, hlt with
  | 0, _ => cases hj; cases hs; rfl
  | 1, _ => cases hj; cases hs; rfl
  | 2, _ => cases hj; cases hs; rfl
  | 3, _ => cases hj; cases hs; rfl
  | 4, _ => cases hj; cases hs; rfl
  | 5, _ => cases hj; cases hs; rfl
  | 6, _ => cases hj; cases hs; rfl
  | 7, _ => cases hj; cases hs; rfl
  | 8, _ => cases hj; cases hs; rfl
  | 9, _ => cases hj; cases hs; rfl
  | 10, _ => cases hj; cases hs; rfl
  | 11, _ => cases hj; cases hs; rfl
theorem cM_sees {M : Mem} {m : SMsg} {j : Nat} {u v : Value} (hj : (cM m)[j]? = some v) (hs : Sees M (nth (cells .msg m) j) u) : u = v := by
  have hlt : j < 9 := (List.getElem?_eq_some_iff.1 hj).1
  match j, hlt with
  | 0, _ => cases hj; cases hs; rfl
  | 1, _ => cases hj; cases hs; rfl
  | 2, _ => cases hj; cases hs; rfl
  | 3, _ => cases hj; cases hs; rfl
  | 4, _ => cases hj; cases hs; rfl
  | 5, _ => cases hj; cases hs; rfl
  | 6, _ => cases hj; cases hs; rfl
  | 7, _ => cases hj; cases hs; rfl
  | 8, _ => cases hj; cases hs; rfl
theorem sees_cO (M : Mem) (o : SOrder) (k : Nat) (hk : k < 12) : ∃ u, (cO o)[k]? = some u ∧ Sees M (nth (cells .order o) k) u := by
  match k, hk with
  | 0, _ => exact ⟨_, rfl, .int _ _⟩
  | 1, _ => exact ⟨_, rfl, .int _ _⟩
  | 2, _ => exact ⟨_, rfl, .int _ _⟩
  | 3, _ => exact ⟨_, rfl, .int _ _⟩
  | 4, _ => exact ⟨_, rfl, .int _ _⟩
  | 5, _ => exact ⟨_, rfl, .int _ _⟩
  | 6, _ => exact ⟨_, rfl, .int _ _⟩
  | 7, _ => exact ⟨_, rfl, .int _ _⟩
  | 8, _ => exact ⟨_, rfl, .int _ _⟩
  | 9, _ => exact ⟨_, rfl, .int _ _⟩
  | 10, _ => exact ⟨_, rfl, .int _ _⟩
  | 11, _ => exact ⟨_, rfl, .bool _⟩
theorem wf_of {n : Int} (h : rngB n = true) : (Lit.int .i64 n).wf = true := by
  unfold rngB at h
  rw [band_iff, ile_iff, ile_iff] at h
  unfold Lit.wf
  rw [Bool.and_eq_true, decide_eq_true_iff, decide_eq_true_iff]
  exact h
theorem coming_ok (hent : ∀ (vals : Array Value) (w : World), (callFunc 27 vals).run Tryz.prog w = .ok (.enter 27 vals) w) : FnOk Tryz.prog 27 (mkSpec [.val .venue] [.buf .order] true comingF) := by
  refine hand_ok hent fun (x : SVenue) (y : List SOrder) M w v hrun hH hF hs => ?_
  obtain ⟨hg, rfl⟩ : band (band (ile (len x.orders) 68719476736) (ile (len x.inbox) 68719476736)) (band (x.orders.all fun o => rngB o.id) (x.inbox.all fun m => rngB m.order)) = true ∧ y = comingZ (x.orders.map (·.id)) x.inbox := by
    unfold comingF at hrun
    cases hc : band (band (ile (len x.orders) 68719476736) (ile (len x.inbox) 68719476736)) (band (x.orders.all fun o => rngB o.id) (x.inbox.all fun m => rngB m.order)) with
    | false => simp only [hc, cnd] at hrun; cases hrun
    | true => simp only [hc, cnd, Option.some.injEq] at hrun; exact ⟨rfl, hrun.symm⟩
  rw [band_iff, band_iff, band_iff, ile_iff, ile_iff, List.all_eq_true, List.all_eq_true] at hg
  obtain ⟨⟨g1, g2⟩, g3, g4⟩ := hg
  simp only [len] at g1 g2
  cases hs with
  | agg cs vs hn h1 hs =>
  have hn : vs.size = 3 := hn
  have s0 : Sees M (.ro .msg x.inbox false) vs[0] := hs 0 (by simp [cells]) (by omega)
  have s1 : Sees M (.ro .order x.orders false) vs[1] := hs 1 (by simp [cells]) (by omega)
  have s2 : Sees M (.ro .note x.notes false) vs[2] := hs 2 (by simp [cells]) (by omega)
  have hv : vs = #[vs[0], vs[1], vs[2]] := by
    apply Array.ext
    · simp [hn]
    · intro q h1 h2
      have : q = 0 ∨ q = 1 ∨ q = 2 := by simp at h2; omega
      rcases this with rfl | rfl | rfl <;> simp
  rw [hv]
  obtain ⟨a0, c0, e0, h0⟩ := ro_open hH hF s0
  obtain ⟨a1, c1, e1, h1'⟩ := ro_open hH hF s1
  obtain ⟨a2, c2, e2, _⟩ := ro_open hH hF s2
  rw [e0, e1, e2]
  refine (t1 w a0 a1 a2 c0 c1 _ c2 x.inbox x.orders (fun o ho => wf_of (g3 o ho)) (fun m hm => wf_of (g4 m hm)) (by omega) (by omega) (fun k hk => ?_) (fun k hk => ?_)).mono fun ex w' ⟨u, he, hbl, hown⟩ => ⟨u, he, hbl, ?_⟩
  · obtain ⟨b, o, ea, hb, hc⟩ := h1' k hk
    refine ⟨b, o, ea, hb, fun j z hj => ?_⟩
    obtain ⟨u, h2, h3⟩ := hc j (by have := (List.getElem?_eq_some_iff.1 hj).1; rwa [cO_len] at this)
    rw [cO_sees hj h3] at h2
    exact h2
  · obtain ⟨b, o, ea, hb, hc⟩ := h0 k hk
    refine ⟨b, o, ea, hb, fun j z hj => ?_⟩
    obtain ⟨u, h2, h3⟩ := hc j (List.getElem?_eq_some_iff.1 hj).1
    rw [cM_sees hj h3] at h2
    exact h2
  · rw [foldC_coming] at hown
    obtain ⟨hl, hown⟩ := hown
    rcases hown with ⟨rfl, hz⟩ | ⟨g, cap, cur, rfl, hbg, hc, hle, hmx, hsz, hcur⟩
    · refine ⟨none, 0, by rw [hz], by omega, .inl ⟨rfl, rfl⟩⟩
    · refine ⟨_, cap, rfl, hle, .inr ⟨g, cur, _, _, rfl, by omega, hc, ⟨fun o _ hq => by omega, fun _ hq => by omega⟩, by rw [hsz]; exact Nat.le_refl _, fun N => ⟨?_, fun i k hi hk => ?_⟩⟩⟩
      · rw [hsz]; exact Nat.mul_le_mul_right _ hle
      · obtain ⟨u, h2, h3⟩ := sees_cO N (comingZ (x.orders.map (·.id)) x.inbox)[i] k hk
        refine ⟨u, ?_, h3⟩
        rw [← flat_get _ i k hi hk, ← hcur, List.getElem?_take_of_lt (by have := Nat.mul_le_mul_right 12 (show i + 1 ≤ _ from hi); have hk : k < 12 := hk; omega), Array.getElem?_toList] at h2
        exact h2
end Go.Av.Com
namespace Go.Av
open Go
/-- The types whose data are told by a code. -/
def etyL : List (Nat × E) := [(2, .i64), (3, .i64), (4, .bool), (5, .u8), (6, .u8), (9, .str), (10, .str), (11, .str), (26, .venue), (31, .state), (35, .i64), (39, .expo), (51, .msg), (62, .recd), (68, .order), (79, .cell), (82, .note), (98, .venue), (112, .state), (183, .a3), (195, .u8), (196, .u8)]
def ety (t : Nat) : Option E := look etyL t
noncomputable abbrev PG : Program := Go.Proofs.Tryz.prog
end Go.Av

namespace Go.Av
open Go
noncomputable section
theorem eok_2 : EOk PG 2 .i64 := eok_of (by kernel_rfl) (by kernel_rfl)
theorem eok_3 : EOk PG 3 .i64 := eok_of (by kernel_rfl) (by kernel_rfl)
theorem eok_4 : EOk PG 4 .bool := eok_of (by kernel_rfl) (by kernel_rfl)
theorem eok_5 : EOk PG 5 .u8 := eok_of (by kernel_rfl) (by kernel_rfl)
theorem eok_6 : EOk PG 6 .u8 := eok_of (by kernel_rfl) (by kernel_rfl)
theorem eok_9 : EOk PG 9 .str := eok_of (by kernel_rfl) (by kernel_rfl)
theorem eok_10 : EOk PG 10 .str := eok_of (by kernel_rfl) (by kernel_rfl)
theorem eok_11 : EOk PG 11 .str := eok_of (by kernel_rfl) (by kernel_rfl)
theorem eok_26 : EOk PG 26 .venue := eok_of (by kernel_rfl) (by kernel_rfl)
theorem eok_31 : EOk PG 31 .state := eok_of (by kernel_rfl) (by kernel_rfl)
theorem eok_35 : EOk PG 35 .i64 := eok_of (by kernel_rfl) (by kernel_rfl)
theorem eok_39 : EOk PG 39 .expo := eok_of (by kernel_rfl) (by kernel_rfl)
theorem eok_51 : EOk PG 51 .msg := eok_of (by kernel_rfl) (by kernel_rfl)
theorem eok_62 : EOk PG 62 .recd := eok_of (by kernel_rfl) (by kernel_rfl)
theorem eok_68 : EOk PG 68 .order := eok_of (by kernel_rfl) (by kernel_rfl)
theorem eok_79 : EOk PG 79 .cell := eok_of (by kernel_rfl) (by kernel_rfl)
theorem eok_82 : EOk PG 82 .note := eok_of (by kernel_rfl) (by kernel_rfl)
theorem eok_98 : EOk PG 98 .venue := eok_of (by kernel_rfl) (by kernel_rfl)
theorem eok_112 : EOk PG 112 .state := eok_of (by kernel_rfl) (by kernel_rfl)
theorem eok_183 : EOk PG 183 .a3 := eok_of (by kernel_rfl) (by kernel_rfl)
theorem eok_195 : EOk PG 195 .u8 := eok_of (by kernel_rfl) (by kernel_rfl)
theorem eok_196 : EOk PG 196 .u8 := eok_of (by kernel_rfl) (by kernel_rfl)
theorem seatOk : SeatOk PG etyL := ⟨by kernel_rfl, ⟨eok_2, eok_3, eok_4, eok_5, eok_6, eok_9, eok_10, eok_11, eok_26, eok_31, eok_35, eok_39, eok_51, eok_62, eok_68, eok_79, eok_82, eok_98, eok_112, eok_183, eok_195, eok_196, trivial⟩, by kernel_rfl, by kernel_rfl, by kernel_rfl⟩
end
end Go.Av

namespace Go.Av
open Go
noncomputable section
def F_rec_OfNote (x0 : SNote) : Option (SRec) := some (SRec.mk 6 x0.order 0 0 0 x0.qty x0.price 0 0 0 false x0.seq x0.what)
noncomputable def C_rec_OfNote : Cx := { P := PG, ety := ety, fn := look [], inl := memN [], lp := lookLp [] }
theorem F_rec_OfNote_eq (x0 : SNote) : runFn C_rec_OfNote 71 [.val .note] [.val .recd] x0 = F_rec_OfNote x0 := by kernel_rfl
def spec_rec_OfNote : FnSpec := mkSpec [.val .note] [.val .recd] true (fun x => F_rec_OfNote x)
theorem ok_rec_OfNote : FnOk PG 71 spec_rec_OfNote :=
  have K : CxR C_rec_OfNote := seatOk.cx (fun _ => rfl) (l := []) trivial
  fn_entry K (lps_from (l := []) rfl trivial) (by kernel_rfl) (fun x y h => (F_rec_OfNote_eq x).trans h) rfl rfl

def F_rec_fields (x0 : SRec) : Option (SRec) := cnd (ieq x0.kind 1) (some (SRec.mk x0.kind x0.order x0.account x0.symbol x0.side x0.qty x0.price 0 0 0 false 0 0)) (cnd (ieq x0.kind 2) (some (SRec.mk x0.kind x0.order 0 0 0 x0.qty x0.price 0 0 0 false 0 0)) (cnd (ieq x0.kind 3) (some (SRec.mk x0.kind x0.order 0 0 0 0 0 0 0 0 false 0 0)) (cnd (ieq x0.kind 4) (some (SRec.mk x0.kind 0 x0.account x0.symbol 0 0 0 x0.long x0.short x0.opn false 0 0)) (cnd (ieq x0.kind 5) (some (SRec.mk x0.kind 0 0 0 0 0 0 0 0 0 x0.on 0 0)) (cnd (ieq x0.kind 6) (some (SRec.mk x0.kind x0.order 0 0 0 x0.qty x0.price 0 0 0 false x0.seq x0.what)) (some (SRec.mk x0.kind 0 0 0 0 0 0 0 0 0 false 0 0)))))))
noncomputable def C_rec_fields : Cx := { P := PG, ety := ety, fn := look [], inl := memN [], lp := lookLp [] }
theorem F_rec_fields_eq (x0 : SRec) : runFn C_rec_fields 89 [.val .recd] [.val .recd] x0 = F_rec_fields x0 := by kernel_rfl
def spec_rec_fields : FnSpec := mkSpec [.val .recd] [.val .recd] true (fun x => F_rec_fields x)
theorem ok_rec_fields : FnOk PG 89 spec_rec_fields :=
  have K : CxR C_rec_fields := seatOk.cx (fun _ => rfl) (l := []) trivial
  fn_entry K (lps_from (l := []) rfl trivial) (by kernel_rfl) (fun x y h => (F_rec_fields_eq x).trans h) rfl rfl

def F_rec_known (x0 : Int) : Option (Bool) := some (band (ile 1 x0) (ile x0 1000000000000))
noncomputable def C_rec_known : Cx := { P := PG, ety := ety, fn := look [], inl := memN [], lp := lookLp [] }
theorem F_rec_known_eq (x0 : Int) : runFn C_rec_known 90 [.int .i64] [.bool] x0 = F_rec_known x0 := by kernel_rfl
def spec_rec_known : FnSpec := mkSpec [.int .i64] [.bool] true (fun x => F_rec_known x)
theorem ok_rec_known : FnOk PG 90 spec_rec_known :=
  have K : CxR C_rec_known := seatOk.cx (fun _ => rfl) (l := []) trivial
  fn_entry K (lps_from (l := []) rfl trivial) (by kernel_rfl) (fun x y h => (F_rec_known_eq x).trans h) rfl rfl

def F_rec_below (x0 : Int) (x1 : Int) : Option (Bool) := some (band (ile 0 x0) (ilt x0 x1))
noncomputable def C_rec_below : Cx := { P := PG, ety := ety, fn := look [], inl := memN [], lp := lookLp [] }
theorem F_rec_below_eq (x0 : Int) (x1 : Int) : runFn C_rec_below 91 [.int .i64, .int .i64] [.bool] (x0, x1) = F_rec_below x0 x1 := by kernel_rfl
def spec_rec_below : FnSpec := mkSpec [.int .i64, .int .i64] [.bool] true (fun x => F_rec_below x.1 x.2)
theorem ok_rec_below : FnOk PG 91 spec_rec_below :=
  have K : CxR C_rec_below := seatOk.cx (fun _ => rfl) (l := []) trivial
  fn_entry K (lps_from (l := []) rfl trivial) (by kernel_rfl) (fun x y h => (F_rec_below_eq x.1 x.2).trans h) rfl rfl

def F_rec_sized (x0 : SRec) : Option (Bool) := some (band (ile 1 x0.qty) (ile 1 x0.price))
noncomputable def C_rec_sized : Cx := { P := PG, ety := ety, fn := look [], inl := memN [], lp := lookLp [] }
theorem F_rec_sized_eq (x0 : SRec) : runFn C_rec_sized 92 [.val .recd] [.bool] x0 = F_rec_sized x0 := by kernel_rfl
def spec_rec_sized : FnSpec := mkSpec [.val .recd] [.bool] true (fun x => F_rec_sized x)
theorem ok_rec_sized : FnOk PG 92 spec_rec_sized :=
  have K : CxR C_rec_sized := seatOk.cx (fun _ => rfl) (l := []) trivial
  fn_entry K (lps_from (l := []) rfl trivial) (by kernel_rfl) (fun x y h => (F_rec_sized_eq x).trans h) rfl rfl

def F_rec_event (x0 : SRec) : Option (Bool) := obind (cnd (bnot (bor (ilt x0.seq 1) (ilt 1000000000 x0.seq))) (F_rec_known x0.order) (some false)) fun y0 ↦ cnd (bor (bor (ilt x0.seq 1) (ilt 1000000000 x0.seq)) (bnot y0)) (some false) (cnd (ieq x0.what 3) (some (band (ile 1 x0.qty) (ieq x0.price 0))) (cnd (ieq x0.what 5) (obind (F_rec_sized x0) fun y1 ↦ some y1) (cnd (ieq x0.what 1) (cnd (ieq x0.what 1) (some (band (ieq x0.qty 0) (ieq x0.price 0))) (some false)) (cnd (ieq x0.what 2) (cnd (ieq x0.what 2) (some (band (ieq x0.qty 0) (ieq x0.price 0))) (some false)) (cnd (ieq x0.what 4) (cnd (ieq x0.what 4) (some (band (ieq x0.qty 0) (ieq x0.price 0))) (some false)) (cnd (ieq x0.what 6) (some (band (ieq x0.qty 0) (ieq x0.price 0))) (some false)))))))
noncomputable def C_rec_event : Cx := { P := PG, ety := ety, fn := look [(90, spec_rec_known), (92, spec_rec_sized)], inl := memN [], lp := lookLp [] }
theorem F_rec_event_eq (x0 : SRec) : runFn C_rec_event 93 [.val .recd] [.bool] x0 = F_rec_event x0 := by kernel_rfl
def spec_rec_event : FnSpec := mkSpec [.val .recd] [.bool] true (fun x => F_rec_event x)
theorem ok_rec_event : FnOk PG 93 spec_rec_event :=
  have K : CxR C_rec_event := seatOk.cx (fun _ => rfl) (l := [(90, spec_rec_known), (92, spec_rec_sized)]) ⟨ok_rec_known, ok_rec_sized, trivial⟩
  fn_entry K (lps_from (l := []) rfl trivial) (by kernel_rfl) (fun x y h => (F_rec_event_eq x).trans h) rfl rfl

def F_rec_Right (x0 : SRec) : Option (Bool) := obind (F_rec_fields x0) fun y0 ↦ cnd (bnot (band (ieq x0.kind y0.kind) (band (ieq x0.order y0.order) (band (ieq x0.account y0.account) (band (ieq x0.symbol y0.symbol) (band (ieq x0.side y0.side) (band (ieq x0.qty y0.qty) (band (ieq x0.price y0.price) (band (ieq x0.long y0.long) (band (ieq x0.short y0.short) (band (ieq x0.opn y0.opn) (band (beq x0.on y0.on) (band (ieq x0.seq y0.seq) (ieq x0.what y0.what)))))))))))))) (some false) (cnd (ieq x0.kind 1) (obind (F_rec_known x0.order) fun y1 ↦ obind (cnd y1 (F_rec_below x0.account 8) (some false)) fun y2 ↦ obind (cnd (band y1 y2) (F_rec_below x0.symbol 8) (some false)) fun y3 ↦ obind (cnd (band (band (band y1 y2) y3) (bor (ieq x0.side 1) (ieq x0.side 2))) (F_rec_sized x0) (some false)) fun y4 ↦ some (band (band (band (band y1 y2) y3) (bor (ieq x0.side 1) (ieq x0.side 2))) y4)) (cnd (ieq x0.kind 2) (obind (F_rec_known x0.order) fun y5 ↦ obind (cnd y5 (F_rec_sized x0) (some false)) fun y6 ↦ some (band y5 y6)) (cnd (ieq x0.kind 3) (obind (F_rec_known x0.order) fun y7 ↦ some y7) (cnd (ieq x0.kind 4) (obind (F_rec_below x0.account 8) fun y8 ↦ obind (cnd (band y8 (bnot (band (band (ieq x0.symbol (-1)) (ieq x0.long 0)) (ieq x0.short 0)))) (F_rec_below x0.symbol 8) (some false)) fun y9 ↦ some (band (band y8 (bor (band (band (ieq x0.symbol (-1)) (ieq x0.long 0)) (ieq x0.short 0)) y9)) (ile 0 (imin (imin x0.long x0.short) x0.opn)))) (cnd (ieq x0.kind 5) (some true) (cnd (ieq x0.kind 6) (obind (F_rec_event x0) fun y10 ↦ some y10) (some false)))))))
noncomputable def C_rec_Right : Cx := { P := PG, ety := ety, fn := look [(89, spec_rec_fields), (90, spec_rec_known), (91, spec_rec_below), (92, spec_rec_sized), (93, spec_rec_event)], inl := memN [], lp := lookLp [] }
theorem F_rec_Right_eq (x0 : SRec) : runFn C_rec_Right 61 [.val .recd] [.bool] x0 = F_rec_Right x0 := by kernel_rfl
def spec_rec_Right : FnSpec := mkSpec [.val .recd] [.bool] true (fun x => F_rec_Right x)
theorem ok_rec_Right : FnOk PG 61 spec_rec_Right :=
  have K : CxR C_rec_Right := seatOk.cx (fun _ => rfl) (l := [(89, spec_rec_fields), (90, spec_rec_known), (91, spec_rec_below), (92, spec_rec_sized), (93, spec_rec_event)]) ⟨ok_rec_fields, ok_rec_known, ok_rec_below, ok_rec_sized, ok_rec_event, trivial⟩
  fn_entry K (lps_from (l := []) rfl trivial) (by kernel_rfl) (fun x y h => (F_rec_Right_eq x).trans h) rfl rfl

def F_order_pending (x0 : SOrder) : Option (Bool) := some (bor (bnot (ieq x0.newQty 0)) (bnot (ieq x0.newPrice 0)))
noncomputable def C_order_pending : Cx := { P := PG, ety := ety, fn := look [], inl := memN [], lp := lookLp [] }
theorem F_order_pending_eq (x0 : SOrder) : runFn C_order_pending 132 [.val .order] [.bool] x0 = F_order_pending x0 := by kernel_rfl
def spec_order_pending : FnSpec := mkSpec [.val .order] [.bool] true (fun x => F_order_pending x)
theorem ok_order_pending : FnOk PG 132 spec_order_pending :=
  have K : CxR C_order_pending := seatOk.cx (fun _ => rfl) (l := []) trivial
  fn_entry K (lps_from (l := []) rfl trivial) (by kernel_rfl) (fun x y h => (F_order_pending_eq x).trans h) rfl rfl

def F_order_begun (x0 : SOrder) : Option (Bool) := obind (F_rec_Right (SRec.mk 1 x0.id x0.account x0.symbol x0.side x0.qty x0.price 0 0 0 false 0 0)) fun y0 ↦ some y0
noncomputable def C_order_begun : Cx := { P := PG, ety := ety, fn := look [(61, spec_rec_Right)], inl := memN [], lp := lookLp [] }
theorem F_order_begun_eq (x0 : SOrder) : runFn C_order_begun 141 [.val .order] [.bool] x0 = F_order_begun x0 := by kernel_rfl
def spec_order_begun : FnSpec := mkSpec [.val .order] [.bool] true (fun x => F_order_begun x)
theorem ok_order_begun : FnOk PG 141 spec_order_begun :=
  have K : CxR C_order_begun := seatOk.cx (fun _ => rfl) (l := [(61, spec_rec_Right)]) ⟨ok_rec_Right, trivial⟩
  fn_entry K (lps_from (l := []) rfl trivial) (by kernel_rfl) (fun x y h => (F_order_begun_eq x).trans h) rfl rfl

def F_order_Right (x0 : SOrder) : Option (Bool) := obind (F_order_pending x0) fun y0 ↦ obind (F_order_begun x0) fun y1 ↦ cnd (bor (bor (bor (bor (bnot y1) (ilt x0.filled 0)) (ilt x0.qty x0.filled)) (ilt x0.version 0)) (band y0 (ilt (imin x0.newQty x0.newPrice) 1))) (some false) (cnd (ieq x0.phase 1) (some (band (band (ieq x0.filled 0) (ieq x0.version 0)) (bnot y0))) (cnd (ieq x0.phase 2) (some (ilt x0.filled x0.qty)) (cnd (ieq x0.phase 3) (some (bnot y0)) (some false))))
noncomputable def C_order_Right : Cx := { P := PG, ety := ety, fn := look [(132, spec_order_pending), (141, spec_order_begun)], inl := memN [], lp := lookLp [] }
theorem F_order_Right_eq (x0 : SOrder) : runFn C_order_Right 116 [.val .order] [.bool] x0 = F_order_Right x0 := by kernel_rfl
def spec_order_Right : FnSpec := mkSpec [.val .order] [.bool] true (fun x => F_order_Right x)
theorem ok_order_Right : FnOk PG 116 spec_order_Right :=
  have K : CxR C_order_Right := seatOk.cx (fun _ => rfl) (l := [(132, spec_order_pending), (141, spec_order_begun)]) ⟨ok_order_pending, ok_order_begun, trivial⟩
  fn_entry K (lps_from (l := []) rfl trivial) (by kernel_rfl) (fun x y h => (F_order_Right_eq x).trans h) rfl rfl

def F_venue_settled (x0 : SOrder) : Option (Bool) := obind (F_order_Right x0) fun y0 ↦ some (band (band (band y0 (bnot (ieq x0.phase 1))) (ieq x0.newQty 0)) (bnot x0.asked))
noncomputable def C_venue_settled : Cx := { P := PG, ety := ety, fn := look [(116, spec_order_Right)], inl := memN [], lp := lookLp [] }
theorem F_venue_settled_eq (x0 : SOrder) : runFn C_venue_settled 72 [.val .order] [.bool] x0 = F_venue_settled x0 := by kernel_rfl
def spec_venue_settled : FnSpec := mkSpec [.val .order] [.bool] true (fun x => F_venue_settled x)
theorem ok_venue_settled : FnOk PG 72 spec_venue_settled :=
  have K : CxR C_venue_settled := seatOk.cx (fun _ => rfl) (l := [(116, spec_order_Right)]) ⟨ok_order_Right, trivial⟩
  fn_entry K (lps_from (l := []) rfl trivial) (by kernel_rfl) (fun x y h => (F_venue_settled_eq x).trans h) rfl rfl

def F_venue_RightMsg (x0 : SMsg) : Option (Bool) := cnd (bor (bor (bor (bor (bor (ilt x0.order 1) (ilt 1000000000000 x0.order)) (ilt x0.account 0)) (ile 8 x0.account)) (ilt x0.symbol 0)) (ile 8 x0.symbol)) (some false) (cnd (bor (bor (band (bnot (ieq x0.side 1)) (bnot (ieq x0.side 2))) (ilt x0.lsn 0)) (ilt 1000000000 x0.lsn)) (some false) (cnd (ieq x0.kind 1) (some (band (band (ile 1 x0.qty) (ile 1 x0.price)) (ieq x0.version 0))) (cnd (ieq x0.kind 2) (some (band (band (ile 1 x0.qty) (ile 1 x0.price)) (ile 1 x0.version))) (cnd (ieq x0.kind 3) (some (band (band (ieq x0.qty 0) (ieq x0.price 0)) (ieq x0.version 0))) (some false)))))
noncomputable def C_venue_RightMsg : Cx := { P := PG, ety := ety, fn := look [], inl := memN [], lp := lookLp [] }
theorem F_venue_RightMsg_eq (x0 : SMsg) : runFn C_venue_RightMsg 48 [.val .msg] [.bool] x0 = F_venue_RightMsg x0 := by kernel_rfl
def spec_venue_RightMsg : FnSpec := mkSpec [.val .msg] [.bool] true (fun x => F_venue_RightMsg x)
theorem ok_venue_RightMsg : FnOk PG 48 spec_venue_RightMsg :=
  have K : CxR C_venue_RightMsg := seatOk.cx (fun _ => rfl) (l := []) trivial
  fn_entry K (lps_from (l := []) rfl trivial) (by kernel_rfl) (fun x y h => (F_venue_RightMsg_eq x).trans h) rfl rfl

def S_venue_Right_58 : LSh := ⟨87, [(25, .int .i64), (24, .ro .note)], [], [], [(26, .int .i64), (2, .bool)], [], []⟩
@[reducible] def O_venue_Right_58 : List LOut := [⟨.ret, [(2, .bool)], [], []⟩, ⟨.exit 0, [(2, .bool)], [], []⟩]
def L_venue_Right_58 (p0 : Int) (p1 : (List SNote)) (v0 : Int) (v1 : Bool) : Option ((Int × Bool) ⊕ ((Bool) ⊕ ((Bool)))) := cnd (ilt v0 p0) (cnd (band (ile 0 v0) (ilt v0 (len p1))) (obind (cnd (bnot (bnot (ieq (lget p1 (itn v0)).seq (wr IntKind.i64 (iadd v0 1))))) (F_rec_OfNote (lget p1 (itn v0))) (some (SRec.mk 0 0 0 0 0 0 0 0 0 0 false 0 0))) fun y0 ↦ obind (cnd (bnot (bnot (ieq (lget p1 (itn v0)).seq (wr IntKind.i64 (iadd v0 1))))) (F_rec_Right y0) (some false)) fun y1 ↦ cnd (bor (bnot (ieq (lget p1 (itn v0)).seq (wr IntKind.i64 (iadd v0 1)))) (bnot y1)) (some (Sum.inr (Sum.inl false))) (some (Sum.inl (wr IntKind.i64 (iadd v0 1), v1)))) none) (some (Sum.inr (Sum.inr v1)))
def Ls_venue_Right_58 : LSpec := S_venue_Right_58.spec O_venue_Right_58 [27, 28, 29, 30, 4, 3, 31, 32, 33, 34, 35, 36, 37, 38, 39, 40, 41, 2, 42, 26] (fun p v => L_venue_Right_58 p.1 p.2 v.1 v.2)
def S_venue_Right_122 : LSh := ⟨158, [(45, .int .i64), (44, .ro .order)], [(1, .mp 8 0)], [(8, [.val .venue])], [(46, .int .i64), (2, .bool)], [], []⟩
@[reducible] def O_venue_Right_122 : List LOut := [⟨.ret, [(2, .bool)], [], []⟩, ⟨.exit 2, [(2, .bool)], [], []⟩]
def L_venue_Right_122 (p0 : Int) (p1 : (List SOrder)) (p2 : SVenue) (v0 : Int) (v1 : Bool) : Option ((Int × Bool) ⊕ ((Bool) ⊕ ((Bool)))) := cnd (ilt v0 p0) (cnd (band (ile 0 v0) (ilt v0 (len p1))) (obind (F_venue_settled (lget p1 (itn v0))) fun y0 ↦ cnd (bor (band (ile 0 (wr IntKind.i64 (isub v0 1))) (ilt (wr IntKind.i64 (isub v0 1)) (len p2.orders))) (bnot (band (bnot (bnot y0)) (ilt 0 v0)))) (cnd (bor (bnot y0) (band (ilt 0 v0) (ile (lget p1 (itn v0)).id (lget p2.orders (itn (wr IntKind.i64 (isub v0 1)))).id))) (some (Sum.inr (Sum.inl false))) (some (Sum.inl (wr IntKind.i64 (iadd v0 1), v1)))) none) none) (some (Sum.inr (Sum.inr v1)))
def Ls_venue_Right_122 : LSpec := S_venue_Right_122.spec O_venue_Right_122 [47, 48, 49, 50, 6, 5, 51, 52, 53, 54, 55, 56, 57, 58, 59, 60, 61, 62, 63, 64, 65, 66, 67, 68, 69, 2, 70, 46] (fun p v => L_venue_Right_122 p.1 p.2.1 p.2.2 v.1 v.2)
def S_venue_Right_26_slices_IndexFunc_api_Msg_c166_c172 : LSh := ⟨240, [(7, .int .i64), (0, .ro .msg)], [(1, .fn 74 [])], [], [(8, .int .i64), (4, .int .i64)], [], []⟩
@[reducible] def O_venue_Right_26_slices_IndexFunc_api_Msg_c166_c172 : List LOut := [⟨.ret, [(4, .int .i64)], [], []⟩, ⟨.exit 0, [(4, .int .i64)], [], []⟩]
def L_venue_Right_26_slices_IndexFunc_api_Msg_c166_c172 (p0 : Int) (p1 : (List SMsg)) (v0 : Int) (v1 : Int) : Option ((Int × Int) ⊕ ((Int) ⊕ ((Int)))) := cnd (ilt v0 p0) (cnd (band (ile 0 v0) (ilt v0 (len p1))) (obind (F_venue_RightMsg (lget p1 (itn v0))) fun y0 ↦ cnd (bnot y0) (some (Sum.inr (Sum.inl v0))) (some (Sum.inl (wr IntKind.i64 (iadd v0 1), v1)))) none) (some (Sum.inr (Sum.inr v1)))
def Ls_venue_Right_26_slices_IndexFunc_api_Msg_c166_c172 : LSpec := S_venue_Right_26_slices_IndexFunc_api_Msg_c166_c172.spec O_venue_Right_26_slices_IndexFunc_api_Msg_c166_c172 [9, 10, 5, 11, 12, 13, 14, 15, 16, 17, 4, 18, 8] (fun p v => L_venue_Right_26_slices_IndexFunc_api_Msg_c166_c172 p.1 p.2 v.1 v.2)
def F_venue_Right (x0 : SVenue) : Option (Bool) := cnd (bor (bor (ilt 400 (len x0.inbox)) (ilt 400 (len x0.notes))) (ilt 400 (len x0.orders))) (some false) (obind (iterN (fun v ↦ L_venue_Right_58 (len x0.notes) x0.notes v.fst v.snd) LF (0, false)) fun y0 ↦ sumK y0 (fun y1 ↦ some y1) fun y1 ↦ obind (iterN (fun v ↦ L_venue_Right_122 (len x0.orders) x0.orders x0 v.fst v.snd) LF (0, y1)) fun y2 ↦ sumK y2 (fun y3 ↦ some y3) fun y3 ↦ obind (iterN (fun v ↦ L_venue_Right_26_slices_IndexFunc_api_Msg_c166_c172 (len x0.inbox) x0.inbox v.fst v.snd) LF (0, 0)) fun y4 ↦ sumK y4 (fun y5 ↦ some (bnot (ile 0 y5))) fun y5 ↦ some true)
noncomputable def C_venue_Right : Cx := { P := PG, ety := ety, fn := look [(71, spec_rec_OfNote), (61, spec_rec_Right), (72, spec_venue_settled), (48, spec_venue_RightMsg)], inl := memN [73, 117, 74], lp := lookLp [(32, 58, Ls_venue_Right_58), (32, 122, Ls_venue_Right_122), (590298730975122342005, 26, Ls_venue_Right_26_slices_IndexFunc_api_Msg_c166_c172)] }
theorem L_venue_Right_58_eq (p0 : Int) (p1 : (List SNote)) (v0 : Int) (v1 : Bool) : runLp C_venue_Right 900 32 58 (lpBody PG 32 58) S_venue_Right_58 O_venue_Right_58 (p0, p1) (v0, v1) = L_venue_Right_58 p0 p1 v0 v1 := by kernel_rfl
theorem L_venue_Right_122_eq (p0 : Int) (p1 : (List SOrder)) (p2 : SVenue) (v0 : Int) (v1 : Bool) : runLp C_venue_Right 900 32 122 (lpBody PG 32 122) S_venue_Right_122 O_venue_Right_122 (p0, p1, p2) (v0, v1) = L_venue_Right_122 p0 p1 p2 v0 v1 := by kernel_rfl
theorem L_venue_Right_26_slices_IndexFunc_api_Msg_c166_c172_eq (p0 : Int) (p1 : (List SMsg)) (v0 : Int) (v1 : Int) : runLp C_venue_Right 900 590298730975122342005 26 (lpBody PG 117 26) S_venue_Right_26_slices_IndexFunc_api_Msg_c166_c172 O_venue_Right_26_slices_IndexFunc_api_Msg_c166_c172 (p0, p1) (v0, v1) = L_venue_Right_26_slices_IndexFunc_api_Msg_c166_c172 p0 p1 v0 v1 := by kernel_rfl
theorem F_venue_Right_eq (x0 : SVenue) : runFn C_venue_Right 32 [.val .venue] [.bool] x0 = F_venue_Right x0 := by kernel_rfl
def spec_venue_Right : FnSpec := mkSpec [.val .venue] [.bool] true (fun x => F_venue_Right x)
theorem ok_venue_Right : FnOk PG 32 spec_venue_Right :=
  have K : CxR C_venue_Right := seatOk.cx (fun _ => rfl) (l := [(71, spec_rec_OfNote), (61, spec_rec_Right), (72, spec_venue_settled), (48, spec_venue_RightMsg)]) ⟨ok_rec_OfNote, ok_rec_Right, ok_venue_settled, ok_venue_RightMsg, trivial⟩
  fn_entry K (lps_from (l := [(32, 58, Ls_venue_Right_58), (32, 122, Ls_venue_Right_122), (590298730975122342005, 26, Ls_venue_Right_26_slices_IndexFunc_api_Msg_c166_c172)]) rfl ⟨lp_entry (n := 900) (f := 32) K (by kernel_rfl) (by kernel_rfl) (by kernel_rfl) (by kernel_rfl) (by kernel_rfl) (fun p v r h => (L_venue_Right_58_eq p.1 p.2 v.1 v.2).trans h),
    lp_entry (n := 900) (f := 32) K (by kernel_rfl) (by kernel_rfl) (by kernel_rfl) (by kernel_rfl) (by kernel_rfl) (fun p v r h => (L_venue_Right_122_eq p.1 p.2.1 p.2.2 v.1 v.2).trans h),
    lp_entry (n := 900) (f := 117) K (by kernel_rfl) (by kernel_rfl) (by kernel_rfl) (by kernel_rfl) (by kernel_rfl) (fun p v r h => (L_venue_Right_26_slices_IndexFunc_api_Msg_c166_c172_eq p.1 p.2 v.1 v.2).trans h), trivial⟩) (by kernel_rfl) (fun x y h => (F_venue_Right_eq x).trans h) rfl rfl

def F_slices_Clone_api_Msg (x0 : (List SMsg)) : Option ((List SMsg)) := nilq (len x0) fun y0 ↦ cnd (beq y0 true) (some []) (cnd (ile (len x0) 68719476736) (some x0) none)
noncomputable def C_slices_Clone_api_Msg : Cx := { P := PG, ety := ety, fn := look [], inl := memN [], lp := lookLp [] }
theorem F_slices_Clone_api_Msg_eq (x0 : (List SMsg)) : runFn C_slices_Clone_api_Msg 49 [.ro .msg] [.buf .msg] x0 = F_slices_Clone_api_Msg x0 := by kernel_rfl
def spec_slices_Clone_api_Msg : FnSpec := mkSpec [.ro .msg] [.buf .msg] true (fun x => F_slices_Clone_api_Msg x)
theorem ok_slices_Clone_api_Msg : FnOk PG 49 spec_slices_Clone_api_Msg :=
  have K : CxR C_slices_Clone_api_Msg := seatOk.cx (fun _ => rfl) (l := []) trivial
  fn_entry K (lps_from (l := []) rfl trivial) (by kernel_rfl) (fun x y h => (F_slices_Clone_api_Msg_eq x).trans h) rfl rfl

def F_venue_Send (x0 : SVenue) (x1 : SMsg) : Option (SVenue × Int) := obind (F_venue_Right x0) fun y0 ↦ cnd (bnot y0) (cnd (bnot y0) (some (x0, 1)) (cnd (ieq (len x0.inbox) 400) (some (x0, 6)) (obind (F_slices_Clone_api_Msg x0.inbox) fun y1 ↦ cnd (ile (len (lapp y1 [x1])) 68719476736) (some (SVenue.mk (lapp y1 [x1]) x0.orders x0.notes, 0)) none))) (obind (F_venue_RightMsg x1) fun y2 ↦ cnd (bnot y2) (some (x0, 1)) (cnd (ieq (len x0.inbox) 400) (some (x0, 6)) (obind (F_slices_Clone_api_Msg x0.inbox) fun y3 ↦ cnd (ile (len (lapp y3 [x1])) 68719476736) (some (SVenue.mk (lapp y3 [x1]) x0.orders x0.notes, 0)) none)))
noncomputable def C_venue_Send : Cx := { P := PG, ety := ety, fn := look [(32, spec_venue_Right), (48, spec_venue_RightMsg), (49, spec_slices_Clone_api_Msg)], inl := memN [], lp := lookLp [] }
theorem F_venue_Send_eq (x0 : SVenue) (x1 : SMsg) : runFn C_venue_Send 16 [.val .venue, .val .msg] [.val .venue, .int .i64] (x0, x1) = F_venue_Send x0 x1 := by kernel_rfl
def spec_venue_Send : FnSpec := mkSpec [.val .venue, .val .msg] [.val .venue, .int .i64] false (fun x => F_venue_Send x.1 x.2)
theorem ok_venue_Send : FnOk PG 16 spec_venue_Send :=
  have K : CxR C_venue_Send := seatOk.cx (fun _ => rfl) (l := [(32, spec_venue_Right), (48, spec_venue_RightMsg), (49, spec_slices_Clone_api_Msg)]) ⟨ok_venue_Right, ok_venue_RightMsg, ok_slices_Clone_api_Msg, trivial⟩
  fn_entry K (lps_from (l := []) rfl trivial) (by kernel_rfl) (fun x y h => (F_venue_Send_eq x.1 x.2).trans h) rfl rfl

def F_truth_may (x0 : SVenue) (x1 : Int) (x2 : Int) : Option (Bool) := obind (F_venue_Right x0) fun y0 ↦ some (band (band (band (band y0 (ile 0 x1)) (ilt x1 8)) (ile 0 x2)) (ilt x2 8))
noncomputable def C_truth_may : Cx := { P := PG, ety := ety, fn := look [(32, spec_venue_Right)], inl := memN [], lp := lookLp [] }
theorem F_truth_may_eq (x0 : SVenue) (x1 : Int) (x2 : Int) : runFn C_truth_may 23 [.val .venue, .int .i64, .int .i64] [.bool] (x0, x1, x2) = F_truth_may x0 x1 x2 := by kernel_rfl
def spec_truth_may : FnSpec := mkSpec [.val .venue, .int .i64, .int .i64] [.bool] true (fun x => F_truth_may x.1 x.2.1 x.2.2)
theorem ok_truth_may : FnOk PG 23 spec_truth_may :=
  have K : CxR C_truth_may := seatOk.cx (fun _ => rfl) (l := [(32, spec_venue_Right)]) ⟨ok_venue_Right, trivial⟩
  fn_entry K (lps_from (l := []) rfl trivial) (by kernel_rfl) (fun x y h => (F_truth_may_eq x.1 x.2.1 x.2.2).trans h) rfl rfl

def F_slices_Clone_api_Order (x0 : (List SOrder)) : Option ((List SOrder)) := nilq (len x0) fun y0 ↦ cnd (beq y0 true) (some []) (cnd (ile (len x0) 68719476736) (some x0) none)
noncomputable def C_slices_Clone_api_Order : Cx := { P := PG, ety := ety, fn := look [], inl := memN [], lp := lookLp [] }
theorem F_slices_Clone_api_Order_eq (x0 : (List SOrder)) : runFn C_slices_Clone_api_Order 26 [.ro .order] [.buf .order] x0 = F_slices_Clone_api_Order x0 := by kernel_rfl
def spec_slices_Clone_api_Order : FnSpec := mkSpec [.ro .order] [.buf .order] true (fun x => F_slices_Clone_api_Order x)
theorem ok_slices_Clone_api_Order : FnOk PG 26 spec_slices_Clone_api_Order :=
  have K : CxR C_slices_Clone_api_Order := seatOk.cx (fun _ => rfl) (l := []) trivial
  fn_entry K (lps_from (l := []) rfl trivial) (by kernel_rfl) (fun x y h => (F_slices_Clone_api_Order_eq x).trans h) rfl rfl

def F_truth_coming (x0 : SVenue) : Option (List SOrder) := comingF x0
def spec_truth_coming : FnSpec := mkSpec [.val .venue] [.buf .order] true (fun x => F_truth_coming x)
theorem ok_truth_coming : FnOk PG 27 spec_truth_coming := Com.coming_ok (ent_of seatOk (by kernel_rfl))

def F_num_Max (x0 : Int) (x1 : Int) : Option (Int) := some (imax x0 x1)
noncomputable def C_num_Max : Cx := { P := PG, ety := ety, fn := look [], inl := memN [], lp := lookLp [] }
theorem F_num_Max_eq (x0 : Int) (x1 : Int) : runFn C_num_Max 109 [.int .i64, .int .i64] [.int .i64] (x0, x1) = F_num_Max x0 x1 := by kernel_rfl
def spec_num_Max : FnSpec := mkSpec [.int .i64, .int .i64] [.int .i64] true (fun x => F_num_Max x.1 x.2)
theorem ok_num_Max : FnOk PG 109 spec_num_Max :=
  have K : CxR C_num_Max := seatOk.cx (fun _ => rfl) (l := []) trivial
  fn_entry K (lps_from (l := []) rfl trivial) (by kernel_rfl) (fun x y h => (F_num_Max_eq x.1 x.2).trans h) rfl rfl

def F_order_Open (x0 : SOrder) : Option (Int) := obind (F_order_Right x0) fun y0 ↦ cnd (bor (bnot y0) (ieq x0.phase 3)) (some 0) (obind (F_num_Max x0.qty x0.newQty) fun y1 ↦ some (wr IntKind.i64 (isub y1 x0.filled)))
noncomputable def C_order_Open : Cx := { P := PG, ety := ety, fn := look [(116, spec_order_Right), (109, spec_num_Max)], inl := memN [], lp := lookLp [] }
theorem F_order_Open_eq (x0 : SOrder) : runFn C_order_Open 107 [.val .order] [.int .i64] x0 = F_order_Open x0 := by kernel_rfl
def spec_order_Open : FnSpec := mkSpec [.val .order] [.int .i64] true (fun x => F_order_Open x)
theorem ok_order_Open : FnOk PG 107 spec_order_Open :=
  have K : CxR C_order_Open := seatOk.cx (fun _ => rfl) (l := [(116, spec_order_Right), (109, spec_num_Max)]) ⟨ok_order_Right, ok_num_Max, trivial⟩
  fn_entry K (lps_from (l := []) rfl trivial) (by kernel_rfl) (fun x y h => (F_order_Open_eq x).trans h) rfl rfl

def F_num_size (x0 : Int) : Option (Int) := cnd (ilt x0 0) (some (wr IntKind.u64 (isub 0 (wr IntKind.u64 x0)))) (some (wr IntKind.u64 x0))
noncomputable def C_num_size : Cx := { P := PG, ety := ety, fn := look [], inl := memN [], lp := lookLp [] }
theorem F_num_size_eq (x0 : Int) : runFn C_num_size 147 [.int .i64] [.int .u64] x0 = F_num_size x0 := by kernel_rfl
def spec_num_size : FnSpec := mkSpec [.int .i64] [.int .u64] true (fun x => F_num_size x)
theorem ok_num_size : FnOk PG 147 spec_num_size :=
  have K : CxR C_num_size := seatOk.cx (fun _ => rfl) (l := []) trivial
  fn_entry K (lps_from (l := []) rfl trivial) (by kernel_rfl) (fun x y h => (F_num_size_eq x).trans h) rfl rfl

def F_math_bits_Mul64 (x0 : Int) (x1 : Int) : Option (Int × Int) := some (wr IntKind.u64 (iadd (wr IntKind.u64 (iadd (wr IntKind.u64 (imul (ishr IntKind.u64 x0 32) (ishr IntKind.u64 x1 32))) (ishr IntKind.u64 (wr IntKind.u64 (iadd (wr IntKind.u64 (imul (ishr IntKind.u64 x0 32) (wr IntKind.u64 (iand IntKind.u64 x1 4294967295)))) (ishr IntKind.u64 (wr IntKind.u64 (imul (wr IntKind.u64 (iand IntKind.u64 x0 4294967295)) (wr IntKind.u64 (iand IntKind.u64 x1 4294967295)))) 32))) 32))) (ishr IntKind.u64 (wr IntKind.u64 (iadd (wr IntKind.u64 (iand IntKind.u64 (wr IntKind.u64 (iadd (wr IntKind.u64 (imul (ishr IntKind.u64 x0 32) (wr IntKind.u64 (iand IntKind.u64 x1 4294967295)))) (ishr IntKind.u64 (wr IntKind.u64 (imul (wr IntKind.u64 (iand IntKind.u64 x0 4294967295)) (wr IntKind.u64 (iand IntKind.u64 x1 4294967295)))) 32))) 4294967295)) (wr IntKind.u64 (imul (wr IntKind.u64 (iand IntKind.u64 x0 4294967295)) (ishr IntKind.u64 x1 32))))) 32)), wr IntKind.u64 (imul x0 x1))
noncomputable def C_math_bits_Mul64 : Cx := { P := PG, ety := ety, fn := look [], inl := memN [], lp := lookLp [] }
theorem F_math_bits_Mul64_eq (x0 : Int) (x1 : Int) : runFn C_math_bits_Mul64 127 [.int .u64, .int .u64] [.int .u64, .int .u64] (x0, x1) = F_math_bits_Mul64 x0 x1 := by kernel_rfl
def spec_math_bits_Mul64 : FnSpec := mkSpec [.int .u64, .int .u64] [.int .u64, .int .u64] true (fun x => F_math_bits_Mul64 x.1 x.2)
theorem ok_math_bits_Mul64 : FnOk PG 127 spec_math_bits_Mul64 :=
  have K : CxR C_math_bits_Mul64 := seatOk.cx (fun _ => rfl) (l := []) trivial
  fn_entry K (lps_from (l := []) rfl trivial) (by kernel_rfl) (fun x y h => (F_math_bits_Mul64_eq x.1 x.2).trans h) rfl rfl

def F_num_Mul (x0 : Int) (x1 : Int) : Option (Int × Int) := obind (F_num_size x0) fun y0 ↦ obind (F_num_size x1) fun y1 ↦ obind (F_math_bits_Mul64 y0 y1) fun y2 ↦ cnd (band (band (ieq y2.fst 0) (bnot (beq (ilt x0 0) (ilt x1 0)))) (ile y2.snd 9223372036854775808)) (some (wr IntKind.i64 (wr IntKind.u64 (isub 0 y2.snd)), 0)) (cnd (band (ieq y2.fst 0) (ile y2.snd 9223372036854775807)) (some (wr IntKind.i64 y2.snd, 0)) (some (0, 3)))
noncomputable def C_num_Mul : Cx := { P := PG, ety := ety, fn := look [(147, spec_num_size), (127, spec_math_bits_Mul64)], inl := memN [], lp := lookLp [] }
theorem F_num_Mul_eq (x0 : Int) (x1 : Int) : runFn C_num_Mul 135 [.int .i64, .int .i64] [.int .i64, .int .i64] (x0, x1) = F_num_Mul x0 x1 := by kernel_rfl
def spec_num_Mul : FnSpec := mkSpec [.int .i64, .int .i64] [.int .i64, .int .i64] true (fun x => F_num_Mul x.1 x.2)
theorem ok_num_Mul : FnOk PG 135 spec_num_Mul :=
  have K : CxR C_num_Mul := seatOk.cx (fun _ => rfl) (l := [(147, spec_num_size), (127, spec_math_bits_Mul64)]) ⟨ok_num_size, ok_math_bits_Mul64, trivial⟩
  fn_entry K (lps_from (l := []) rfl trivial) (by kernel_rfl) (fun x y h => (F_num_Mul_eq x.1 x.2).trans h) rfl rfl

def F_order_Worth (x0 : SOrder) : Option (Int × Int) := obind (F_order_Right x0) fun y0 ↦ cnd (bnot y0) (some (0, 1)) (cnd (ieq x0.phase 3) (some (0, 0)) (obind (F_num_Mul (wr IntKind.i64 (isub x0.qty x0.filled)) x0.price) fun y1 ↦ cnd (bor (bnot (ieq y1.snd 0)) (ile x0.newQty x0.filled)) (some y1) (obind (F_num_Mul (wr IntKind.i64 (isub x0.newQty x0.filled)) x0.newPrice) fun y2 ↦ cnd (bnot (ieq y2.snd 0)) (some (0, y2.snd)) (obind (F_num_Max y1.fst y2.fst) fun y3 ↦ some (y3, 0)))))
noncomputable def C_order_Worth : Cx := { P := PG, ety := ety, fn := look [(116, spec_order_Right), (135, spec_num_Mul), (109, spec_num_Max)], inl := memN [], lp := lookLp [] }
theorem F_order_Worth_eq (x0 : SOrder) : runFn C_order_Worth 108 [.val .order] [.int .i64, .int .i64] x0 = F_order_Worth x0 := by kernel_rfl
def spec_order_Worth : FnSpec := mkSpec [.val .order] [.int .i64, .int .i64] true (fun x => F_order_Worth x)
theorem ok_order_Worth : FnOk PG 108 spec_order_Worth :=
  have K : CxR C_order_Worth := seatOk.cx (fun _ => rfl) (l := [(116, spec_order_Right), (135, spec_num_Mul), (109, spec_num_Max)]) ⟨ok_order_Right, ok_num_Mul, ok_num_Max, trivial⟩
  fn_entry K (lps_from (l := []) rfl trivial) (by kernel_rfl) (fun x y h => (F_order_Worth_eq x).trans h) rfl rfl

def S_truth_asked_122 : LSh := ⟨85, [(23, .int .i64), (22, .ro .msg)], [(3, .mp 24 0)], [(24, [.val .order])], [(24, .int .i64), (9, .int .i64), (8, .int .i64), (7, .int .i64)], [], []⟩
@[reducible] def O_truth_asked_122 : List LOut := [⟨.exit 0, [(9, .int .i64), (8, .int .i64), (7, .int .i64)], [], []⟩]
def L_truth_asked_122 (p0 : Int) (p1 : (List SMsg)) (p2 : SOrder) (v0 : Int) (v1 : Int) (v2 : Int) (v3 : Int) : Option ((Int × Int × Int × Int) ⊕ ((Int × Int × Int))) := cnd (ilt v0 p0) (cnd (band (ile 0 v0) (ilt v0 (len p1))) (cnd (bnot (ieq v1 0)) (some (Sum.inr (v1, v2, v3))) (cnd (band (band (ieq (lget p1 (itn v0)).kind 2) (ieq (lget p1 (itn v0)).order p2.id)) (ilt p2.version (lget p1 (itn v0)).version)) (obind (F_order_Worth (SOrder.mk p2.id p2.account p2.symbol p2.side p2.qty p2.price p2.filled p2.phase (lget p1 (itn v0)).qty (lget p1 (itn v0)).price p2.version p2.asked)) fun y0 ↦ obind (F_order_Open (SOrder.mk p2.id p2.account p2.symbol p2.side p2.qty p2.price p2.filled p2.phase (lget p1 (itn v0)).qty (lget p1 (itn v0)).price p2.version p2.asked)) fun y1 ↦ obind (F_num_Max v3 y1) fun y2 ↦ obind (F_num_Max v2 y0.fst) fun y3 ↦ some (Sum.inl (wr IntKind.i64 (iadd v0 1), y0.snd, y3, y2))) (some (Sum.inl (wr IntKind.i64 (iadd v0 1), v1, v2, v3))))) none) (some (Sum.inr (v1, v2, v3)))
def Ls_truth_asked_122 : LSpec := S_truth_asked_122.spec O_truth_asked_122 [25, 26, 27, 11, 28, 29, 30, 31, 32, 33, 34, 35, 36, 37, 38, 39, 40, 41, 42, 43, 44, 45, 46, 47, 12, 48, 49, 50, 51, 52, 53, 13, 55, 56, 54, 57, 58, 9, 59, 60, 61, 62, 63, 64, 65, 7, 8, 66, 24] (fun p v => L_truth_asked_122 p.1 p.2.1 p.2.2 v.1 v.2.1 v.2.2.1 v.2.2.2)
def F_truth_asked (x0 : SVenue) (x1 : SOrder) : Option (Int × Int × Int) := obind (F_order_Open x1) fun y0 ↦ obind (F_order_Worth x1) fun y1 ↦ obind (iterN (fun v ↦ L_truth_asked_122 (len x0.inbox) x0.inbox x1 v.fst v.snd.fst v.snd.snd.fst v.snd.snd.snd) LF (0, y1.snd, y1.fst, y0)) fun y2 ↦ some (y2.snd.snd, y2.snd.fst, y2.fst)
noncomputable def C_truth_asked : Cx := { P := PG, ety := ety, fn := look [(107, spec_order_Open), (108, spec_order_Worth), (109, spec_num_Max)], inl := memN [], lp := lookLp [(68, 122, Ls_truth_asked_122)] }
theorem L_truth_asked_122_eq (p0 : Int) (p1 : (List SMsg)) (p2 : SOrder) (v0 : Int) (v1 : Int) (v2 : Int) (v3 : Int) : runLp C_truth_asked 900 68 122 (lpBody PG 68 122) S_truth_asked_122 O_truth_asked_122 (p0, p1, p2) (v0, v1, v2, v3) = L_truth_asked_122 p0 p1 p2 v0 v1 v2 v3 := by kernel_rfl
theorem F_truth_asked_eq (x0 : SVenue) (x1 : SOrder) : runFn C_truth_asked 68 [.val .venue, .val .order] [.int .i64, .int .i64, .int .i64] (x0, x1) = F_truth_asked x0 x1 := by kernel_rfl
def spec_truth_asked : FnSpec := mkSpec [.val .venue, .val .order] [.int .i64, .int .i64, .int .i64] true (fun x => F_truth_asked x.1 x.2)
theorem ok_truth_asked : FnOk PG 68 spec_truth_asked :=
  have K : CxR C_truth_asked := seatOk.cx (fun _ => rfl) (l := [(107, spec_order_Open), (108, spec_order_Worth), (109, spec_num_Max)]) ⟨ok_order_Open, ok_order_Worth, ok_num_Max, trivial⟩
  fn_entry K (lps_from (l := [(68, 122, Ls_truth_asked_122)]) rfl ⟨lp_entry (n := 900) (f := 68) K (by kernel_rfl) (by kernel_rfl) (by kernel_rfl) (by kernel_rfl) (by kernel_rfl) (fun p v r h => (L_truth_asked_122_eq p.1 p.2.1 p.2.2 v.1 v.2.1 v.2.2.1 v.2.2.2).trans h), trivial⟩) (by kernel_rfl) (fun x y h => (F_truth_asked_eq x.1 x.2).trans h) rfl rfl

def F_num_Add (x0 : Int) (x1 : Int) : Option (Int × Int) := cnd (band (bnot (beq (ilt x0 (wr IntKind.i64 (iadd x0 x1))) (ilt 0 x1))) (bnot (ieq x1 0))) (some (0, 3)) (some (wr IntKind.i64 (iadd x0 x1), 0))
noncomputable def C_num_Add : Cx := { P := PG, ety := ety, fn := look [], inl := memN [], lp := lookLp [] }
theorem F_num_Add_eq (x0 : Int) (x1 : Int) : runFn C_num_Add 29 [.int .i64, .int .i64] [.int .i64, .int .i64] (x0, x1) = F_num_Add x0 x1 := by kernel_rfl
def spec_num_Add : FnSpec := mkSpec [.int .i64, .int .i64] [.int .i64, .int .i64] true (fun x => F_num_Add x.1 x.2)
theorem ok_num_Add : FnOk PG 29 spec_num_Add :=
  have K : CxR C_num_Add := seatOk.cx (fun _ => rfl) (l := []) trivial
  fn_entry K (lps_from (l := []) rfl trivial) (by kernel_rfl) (fun x y h => (F_num_Add_eq x.1 x.2).trans h) rfl rfl

def F_num_Sub (x0 : Int) (x1 : Int) : Option (Int × Int) := cnd (band (bnot (beq (ilt (wr IntKind.i64 (isub x0 x1)) x0) (ilt 0 x1))) (bnot (ieq x1 0))) (some (0, 3)) (some (wr IntKind.i64 (isub x0 x1), 0))
noncomputable def C_num_Sub : Cx := { P := PG, ety := ety, fn := look [], inl := memN [], lp := lookLp [] }
theorem F_num_Sub_eq (x0 : Int) (x1 : Int) : runFn C_num_Sub 30 [.int .i64, .int .i64] [.int .i64, .int .i64] (x0, x1) = F_num_Sub x0 x1 := by kernel_rfl
def spec_num_Sub : FnSpec := mkSpec [.int .i64, .int .i64] [.int .i64, .int .i64] true (fun x => F_num_Sub x.1 x.2)
theorem ok_num_Sub : FnOk PG 30 spec_num_Sub :=
  have K : CxR C_num_Sub := seatOk.cx (fun _ => rfl) (l := []) trivial
  fn_entry K (lps_from (l := []) rfl trivial) (by kernel_rfl) (fun x y h => (F_num_Sub_eq x.1 x.2).trans h) rfl rfl

def S_truth_Of_122 : LSh := ⟨86, [(30, .int .i64), (1, .int .i64), (2, .int .i64), (29, .ro .order)], [(8, .mp 96 0), (3, .mp 24 0)], [(24, [.val .venue])], [(31, .int .i64)], [(96, [.buf .i64, .buf .i64, .int .i64, .int .i64, .int .i64, .int .i64])], []⟩
@[reducible] def O_truth_Of_122 : List LOut := [⟨.exit 0, [], [(96, [.buf .i64, .buf .i64, .int .i64, .int .i64, .int .i64, .int .i64])], []⟩]
def L_truth_Of_122 (p0 : Int) (p1 : Int) (p2 : Int) (p3 : (List SOrder)) (p4 : SVenue) (v0 : Int) (v1 : (List Int)) (v2 : (List Int)) (v3 : Int) (v4 : Int) (v5 : Int) (v6 : Int) : Option ((Int × (List Int) × (List Int) × Int × Int × Int × Int) ⊕ (((List Int) × (List Int) × Int × Int × Int × Int))) := cnd (ilt v0 p0) (cnd (band (ile 0 v0) (ilt v0 (len p3))) (cnd (bor (bnot (ieq (lget p3 (itn v0)).account p1)) (bnot (ieq (lget p3 (itn v0)).symbol p2))) (some (Sum.inl (wr IntKind.i64 (iadd v0 1), v1, v2, v3, v4, v5, v6))) (cnd (ieq (lget p3 (itn v0)).side 1) (cnd (ile (len (lapp v1 [(lget p3 (itn v0)).filled])) 68719476736) (cnd (ieq (lget p3 (itn v0)).phase 2) (obind (F_truth_asked p4 (lget p3 (itn v0))) fun y0 ↦ cnd (ieq v6 0) (cnd (ieq (lget p3 (itn v0)).side 1) (cnd (ieq y0.snd.snd 0) (obind (F_num_Add v3 y0.fst) fun y1 ↦ cnd (ieq y1.snd 0) (obind (F_num_Add v5 y0.snd.fst) fun y2 ↦ some (Sum.inl (wr IntKind.i64 (iadd v0 1), lapp v1 [(lget p3 (itn v0)).filled], v2, y1.fst, v4, y2))) (some (Sum.inl (wr IntKind.i64 (iadd v0 1), lapp v1 [(lget p3 (itn v0)).filled], v2, y1.fst, v4, v5, y1.snd)))) (cnd (ieq y0.snd.snd 0) (obind (F_num_Add v5 y0.snd.fst) fun y3 ↦ some (Sum.inl (wr IntKind.i64 (iadd v0 1), lapp v1 [(lget p3 (itn v0)).filled], v2, v3, v4, y3))) (some (Sum.inl (wr IntKind.i64 (iadd v0 1), lapp v1 [(lget p3 (itn v0)).filled], v2, v3, v4, v5, y0.snd.snd))))) (cnd (ieq y0.snd.snd 0) (obind (F_num_Add v4 y0.fst) fun y4 ↦ cnd (ieq y4.snd 0) (obind (F_num_Add v5 y0.snd.fst) fun y5 ↦ some (Sum.inl (wr IntKind.i64 (iadd v0 1), lapp v1 [(lget p3 (itn v0)).filled], v2, v3, y4.fst, y5))) (some (Sum.inl (wr IntKind.i64 (iadd v0 1), lapp v1 [(lget p3 (itn v0)).filled], v2, v3, y4.fst, v5, y4.snd)))) (cnd (ieq y0.snd.snd 0) (obind (F_num_Add v5 y0.snd.fst) fun y6 ↦ some (Sum.inl (wr IntKind.i64 (iadd v0 1), lapp v1 [(lget p3 (itn v0)).filled], v2, v3, v4, y6))) (some (Sum.inl (wr IntKind.i64 (iadd v0 1), lapp v1 [(lget p3 (itn v0)).filled], v2, v3, v4, v5, y0.snd.snd)))))) (cnd (ieq (lget p3 (itn v0)).side 1) (cnd (ieq v6 0) (obind (F_num_Add v3 y0.fst) fun y7 ↦ cnd (ieq y7.snd 0) (obind (F_num_Add v5 y0.snd.fst) fun y8 ↦ some (Sum.inl (wr IntKind.i64 (iadd v0 1), lapp v1 [(lget p3 (itn v0)).filled], v2, y7.fst, v4, y8))) (some (Sum.inl (wr IntKind.i64 (iadd v0 1), lapp v1 [(lget p3 (itn v0)).filled], v2, y7.fst, v4, v5, y7.snd)))) (cnd (ieq v6 0) (obind (F_num_Add v5 y0.snd.fst) fun y9 ↦ some (Sum.inl (wr IntKind.i64 (iadd v0 1), lapp v1 [(lget p3 (itn v0)).filled], v2, v3, v4, y9))) (some (Sum.inl (wr IntKind.i64 (iadd v0 1), lapp v1 [(lget p3 (itn v0)).filled], v2, v3, v4, v5, v6))))) (cnd (ieq v6 0) (obind (F_num_Add v4 y0.fst) fun y10 ↦ cnd (ieq y10.snd 0) (obind (F_num_Add v5 y0.snd.fst) fun y11 ↦ some (Sum.inl (wr IntKind.i64 (iadd v0 1), lapp v1 [(lget p3 (itn v0)).filled], v2, v3, y10.fst, y11))) (some (Sum.inl (wr IntKind.i64 (iadd v0 1), lapp v1 [(lget p3 (itn v0)).filled], v2, v3, y10.fst, v5, y10.snd)))) (cnd (ieq v6 0) (obind (F_num_Add v5 y0.snd.fst) fun y12 ↦ some (Sum.inl (wr IntKind.i64 (iadd v0 1), lapp v1 [(lget p3 (itn v0)).filled], v2, v3, v4, y12))) (some (Sum.inl (wr IntKind.i64 (iadd v0 1), lapp v1 [(lget p3 (itn v0)).filled], v2, v3, v4, v5, v6))))))) (some (Sum.inl (wr IntKind.i64 (iadd v0 1), lapp v1 [(lget p3 (itn v0)).filled], v2, v3, v4, v5, v6)))) none) (cnd (ile (len (lapp v2 [(lget p3 (itn v0)).filled])) 68719476736) (cnd (ieq (lget p3 (itn v0)).phase 2) (obind (F_truth_asked p4 (lget p3 (itn v0))) fun y13 ↦ cnd (ieq v6 0) (cnd (ieq (lget p3 (itn v0)).side 1) (cnd (ieq y13.snd.snd 0) (obind (F_num_Add v3 y13.fst) fun y14 ↦ cnd (ieq y14.snd 0) (obind (F_num_Add v5 y13.snd.fst) fun y15 ↦ some (Sum.inl (wr IntKind.i64 (iadd v0 1), v1, lapp v2 [(lget p3 (itn v0)).filled], y14.fst, v4, y15))) (some (Sum.inl (wr IntKind.i64 (iadd v0 1), v1, lapp v2 [(lget p3 (itn v0)).filled], y14.fst, v4, v5, y14.snd)))) (cnd (ieq y13.snd.snd 0) (obind (F_num_Add v5 y13.snd.fst) fun y16 ↦ some (Sum.inl (wr IntKind.i64 (iadd v0 1), v1, lapp v2 [(lget p3 (itn v0)).filled], v3, v4, y16))) (some (Sum.inl (wr IntKind.i64 (iadd v0 1), v1, lapp v2 [(lget p3 (itn v0)).filled], v3, v4, v5, y13.snd.snd))))) (cnd (ieq y13.snd.snd 0) (obind (F_num_Add v4 y13.fst) fun y17 ↦ cnd (ieq y17.snd 0) (obind (F_num_Add v5 y13.snd.fst) fun y18 ↦ some (Sum.inl (wr IntKind.i64 (iadd v0 1), v1, lapp v2 [(lget p3 (itn v0)).filled], v3, y17.fst, y18))) (some (Sum.inl (wr IntKind.i64 (iadd v0 1), v1, lapp v2 [(lget p3 (itn v0)).filled], v3, y17.fst, v5, y17.snd)))) (cnd (ieq y13.snd.snd 0) (obind (F_num_Add v5 y13.snd.fst) fun y19 ↦ some (Sum.inl (wr IntKind.i64 (iadd v0 1), v1, lapp v2 [(lget p3 (itn v0)).filled], v3, v4, y19))) (some (Sum.inl (wr IntKind.i64 (iadd v0 1), v1, lapp v2 [(lget p3 (itn v0)).filled], v3, v4, v5, y13.snd.snd)))))) (cnd (ieq (lget p3 (itn v0)).side 1) (cnd (ieq v6 0) (obind (F_num_Add v3 y13.fst) fun y20 ↦ cnd (ieq y20.snd 0) (obind (F_num_Add v5 y13.snd.fst) fun y21 ↦ some (Sum.inl (wr IntKind.i64 (iadd v0 1), v1, lapp v2 [(lget p3 (itn v0)).filled], y20.fst, v4, y21))) (some (Sum.inl (wr IntKind.i64 (iadd v0 1), v1, lapp v2 [(lget p3 (itn v0)).filled], y20.fst, v4, v5, y20.snd)))) (cnd (ieq v6 0) (obind (F_num_Add v5 y13.snd.fst) fun y22 ↦ some (Sum.inl (wr IntKind.i64 (iadd v0 1), v1, lapp v2 [(lget p3 (itn v0)).filled], v3, v4, y22))) (some (Sum.inl (wr IntKind.i64 (iadd v0 1), v1, lapp v2 [(lget p3 (itn v0)).filled], v3, v4, v5, v6))))) (cnd (ieq v6 0) (obind (F_num_Add v4 y13.fst) fun y23 ↦ cnd (ieq y23.snd 0) (obind (F_num_Add v5 y13.snd.fst) fun y24 ↦ some (Sum.inl (wr IntKind.i64 (iadd v0 1), v1, lapp v2 [(lget p3 (itn v0)).filled], v3, y23.fst, y24))) (some (Sum.inl (wr IntKind.i64 (iadd v0 1), v1, lapp v2 [(lget p3 (itn v0)).filled], v3, y23.fst, v5, y23.snd)))) (cnd (ieq v6 0) (obind (F_num_Add v5 y13.snd.fst) fun y25 ↦ some (Sum.inl (wr IntKind.i64 (iadd v0 1), v1, lapp v2 [(lget p3 (itn v0)).filled], v3, v4, y25))) (some (Sum.inl (wr IntKind.i64 (iadd v0 1), v1, lapp v2 [(lget p3 (itn v0)).filled], v3, v4, v5, v6))))))) (some (Sum.inl (wr IntKind.i64 (iadd v0 1), v1, lapp v2 [(lget p3 (itn v0)).filled], v3, v4, v5, v6)))) none))) none) (some (Sum.inr (v1, v2, v3, v4, v5, v6)))
def Ls_truth_Of_122 : LSpec := S_truth_Of_122.spec O_truth_Of_122 [32, 33, 34, 10, 35, 36, 37, 38, 39, 40, 41, 42, 43, 44, 45, 46, 47, 48, 49, 50, 51, 52, 53, 54, 55, 31] (fun p v => L_truth_Of_122 p.1 p.2.1 p.2.2.1 p.2.2.2.1 p.2.2.2.2 v.1 v.2.1 v.2.2.1 v.2.2.2.1 v.2.2.2.2.1 v.2.2.2.2.2.1 v.2.2.2.2.2.2)
def S_truth_Of_26_truth_sums_pos_c102 : LSh := ⟨169, [], [(0, .mp 96 0)], [], [(4, .int .i64), (3, .int .i64), (2, .int .i64)], [(96, [.buf .i64, .buf .i64, .int .i64, .int .i64, .int .i64, .int .i64])], []⟩
@[reducible] def O_truth_Of_26_truth_sums_pos_c102 : List LOut := [⟨.exit 0, [(2, .int .i64)], [(96, [.buf .i64, .buf .i64, .int .i64, .int .i64, .int .i64, .int .i64])], []⟩]
def L_truth_Of_26_truth_sums_pos_c102 (v0 : Int) (v1 : Int) (v2 : Int) (v3 : (List Int)) (v4 : (List Int)) (v5 : Int) (v6 : Int) (v7 : Int) (v8 : Int) : Option ((Int × Int × Int × (List Int) × (List Int) × Int × Int × Int × Int) ⊕ ((Int × (List Int) × (List Int) × Int × Int × Int × Int))) := cnd (band (ieq v8 0) (bor (ilt v1 (len v3)) (ilt v0 (len v4)))) (cnd (bor (ieq v0 (len v4)) (band (ilt v2 0) (ilt v1 (len v3)))) (cnd (band (ile 0 v1) (ilt v1 (len v3))) (obind (F_num_Add v2 (lget v3 (itn v1))) fun y0 ↦ some (Sum.inl (v0, wr IntKind.i64 (iadd v1 1), y0.fst, v3, v4, v5, v6, v7, y0.snd))) none) (cnd (band (ile 0 v0) (ilt v0 (len v4))) (obind (F_num_Sub v2 (lget v4 (itn v0))) fun y1 ↦ some (Sum.inl (wr IntKind.i64 (iadd v0 1), v1, y1.fst, v3, v4, v5, v6, v7, y1.snd))) none)) (some (Sum.inr (v2, v3, v4, v5, v6, v7, v8)))
def Ls_truth_Of_26_truth_sums_pos_c102 : LSpec := S_truth_Of_26_truth_sums_pos_c102.spec O_truth_Of_26_truth_sums_pos_c102 [5, 6, 7, 8, 9, 10, 11, 12, 13, 14, 15, 16, 17, 18, 19, 20, 21, 22, 23, 24, 25, 26, 27, 28, 29, 30, 31, 32, 33, 34, 35, 36, 37, 38, 39, 40, 41, 42, 43, 44, 45, 46, 47, 49, 50, 51, 52, 53, 54, 55, 56, 57, 58, 48, 59, 60, 2, 61, 62, 63, 64, 3, 66, 67, 68, 69, 70, 71, 72, 73, 74, 75, 65, 76, 77, 78, 79, 80, 81, 4] (fun p v => L_truth_Of_26_truth_sums_pos_c102 v.1 v.2.1 v.2.2.1 v.2.2.2.1 v.2.2.2.2.1 v.2.2.2.2.2.1 v.2.2.2.2.2.2.1 v.2.2.2.2.2.2.2.1 v.2.2.2.2.2.2.2.2)
def F_truth_Of (x0 : SVenue) (x1 : Int) (x2 : Int) : Option (SExpo × Int) := obind (F_truth_may x0 x1 x2) fun y0 ↦ cnd (bnot y0) (some (SExpo.mk 0 0 0, 1)) (obind (F_slices_Clone_api_Order x0.orders) fun y1 ↦ obind (F_truth_coming x0) fun y2 ↦ cnd (ile (len (lapp y1 y2)) 68719476736) (obind (iterN (fun v ↦ L_truth_Of_122 (len (lapp y1 y2)) x1 x2 (lapp y1 y2) x0 v.fst v.snd.fst v.snd.snd.fst v.snd.snd.snd.fst v.snd.snd.snd.snd.fst v.snd.snd.snd.snd.snd.fst v.snd.snd.snd.snd.snd.snd) LF (0, [], [], 0, 0, 0, 0)) fun y3 ↦ obind (iterN (fun v ↦ L_truth_Of_26_truth_sums_pos_c102 v.fst v.snd.fst v.snd.snd.fst v.snd.snd.snd.fst v.snd.snd.snd.snd.fst v.snd.snd.snd.snd.snd.fst v.snd.snd.snd.snd.snd.snd.fst v.snd.snd.snd.snd.snd.snd.snd.fst v.snd.snd.snd.snd.snd.snd.snd.snd) LF (0, 0, 0, y3)) fun y4 ↦ obind (F_num_Add y4.fst y4.snd.snd.snd.fst) fun y5 ↦ obind (F_num_Sub y4.snd.snd.snd.snd.fst y4.fst) fun y6 ↦ cnd (bor (bor (bnot (ieq y4.snd.snd.snd.snd.snd.snd 0)) (bnot (ieq y5.snd 0))) (bnot (ieq y6.snd 0))) (some (SExpo.mk 0 0 0, 3)) (some (SExpo.mk y5.fst y6.fst y4.snd.snd.snd.snd.snd.fst, 0))) none)
noncomputable def C_truth_Of : Cx := { P := PG, ety := ety, fn := look [(23, spec_truth_may), (26, spec_slices_Clone_api_Order), (27, spec_truth_coming), (68, spec_truth_asked), (29, spec_num_Add), (30, spec_num_Sub)], inl := memN [24, 28, 69, 25], lp := lookLp [(10, 122, Ls_truth_Of_122), (42950090777, 26, Ls_truth_Of_26_truth_sums_pos_c102)] }
theorem L_truth_Of_122_eq (p0 : Int) (p1 : Int) (p2 : Int) (p3 : (List SOrder)) (p4 : SVenue) (v0 : Int) (v1 : (List Int)) (v2 : (List Int)) (v3 : Int) (v4 : Int) (v5 : Int) (v6 : Int) : runLp C_truth_Of 900 10 122 (lpBody PG 10 122) S_truth_Of_122 O_truth_Of_122 (p0, p1, p2, p3, p4) (v0, v1, v2, v3, v4, v5, v6) = L_truth_Of_122 p0 p1 p2 p3 p4 v0 v1 v2 v3 v4 v5 v6 := by kernel_rfl
theorem L_truth_Of_26_truth_sums_pos_c102_eq (v0 : Int) (v1 : Int) (v2 : Int) (v3 : (List Int)) (v4 : (List Int)) (v5 : Int) (v6 : Int) (v7 : Int) (v8 : Int) : runLp C_truth_Of 900 42950090777 26 (lpBody PG 25 26) S_truth_Of_26_truth_sums_pos_c102 O_truth_Of_26_truth_sums_pos_c102 () (v0, v1, v2, v3, v4, v5, v6, v7, v8) = L_truth_Of_26_truth_sums_pos_c102 v0 v1 v2 v3 v4 v5 v6 v7 v8 := by kernel_rfl
theorem F_truth_Of_eq (x0 : SVenue) (x1 : Int) (x2 : Int) : runFn C_truth_Of 10 [.val .venue, .int .i64, .int .i64] [.val .expo, .int .i64] (x0, x1, x2) = F_truth_Of x0 x1 x2 := by kernel_rfl
def spec_truth_Of : FnSpec := mkSpec [.val .venue, .int .i64, .int .i64] [.val .expo, .int .i64] true (fun x => F_truth_Of x.1 x.2.1 x.2.2)
theorem ok_truth_Of : FnOk PG 10 spec_truth_Of :=
  have K : CxR C_truth_Of := seatOk.cx (fun _ => rfl) (l := [(23, spec_truth_may), (26, spec_slices_Clone_api_Order), (27, spec_truth_coming), (68, spec_truth_asked), (29, spec_num_Add), (30, spec_num_Sub)]) ⟨ok_truth_may, ok_slices_Clone_api_Order, ok_truth_coming, ok_truth_asked, ok_num_Add, ok_num_Sub, trivial⟩
  fn_entry K (lps_from (l := [(10, 122, Ls_truth_Of_122), (42950090777, 26, Ls_truth_Of_26_truth_sums_pos_c102)]) rfl ⟨lp_entry (n := 900) (f := 10) K (by kernel_rfl) (by kernel_rfl) (by kernel_rfl) (by kernel_rfl) (by kernel_rfl) (fun p v r h => (L_truth_Of_122_eq p.1 p.2.1 p.2.2.1 p.2.2.2.1 p.2.2.2.2 v.1 v.2.1 v.2.2.1 v.2.2.2.1 v.2.2.2.2.1 v.2.2.2.2.2.1 v.2.2.2.2.2.2).trans h),
    lp_entry (n := 900) (f := 25) K (by kernel_rfl) (by kernel_rfl) (by kernel_rfl) (by kernel_rfl) (by kernel_rfl) (fun p v r h => (L_truth_Of_26_truth_sums_pos_c102_eq v.1 v.2.1 v.2.2.1 v.2.2.2.1 v.2.2.2.2.1 v.2.2.2.2.2.1 v.2.2.2.2.2.2.1 v.2.2.2.2.2.2.2.1 v.2.2.2.2.2.2.2.2).trans h), trivial⟩) (by kernel_rfl) (fun x y h => (F_truth_Of_eq x.1 x.2.1 x.2.2).trans h) rfl rfl

def F_venue_full (x0 : SVenue) : Option (Bool) := some (ieq (len x0.notes) 400)
noncomputable def C_venue_full : Cx := { P := PG, ety := ety, fn := look [], inl := memN [], lp := lookLp [] }
theorem F_venue_full_eq (x0 : SVenue) : runFn C_venue_full 50 [.val .venue] [.bool] x0 = F_venue_full x0 := by kernel_rfl
def spec_venue_full : FnSpec := mkSpec [.val .venue] [.bool] true (fun x => F_venue_full x)
theorem ok_venue_full : FnOk PG 50 spec_venue_full :=
  have K : CxR C_venue_full := seatOk.cx (fun _ => rfl) (l := []) trivial
  fn_entry K (lps_from (l := []) rfl trivial) (by kernel_rfl) (fun x y h => (F_venue_full_eq x).trans h) rfl rfl

def S_venue_Find_26_slices_IndexFunc_api_Order_c10 : LSh := ⟨78, [(7, .int .i64), (0, .ro .order)], [(1, .fn 123 [.mp 24 0])], [(24, [.int .i64])], [(8, .int .i64), (4, .int .i64)], [], []⟩
@[reducible] def O_venue_Find_26_slices_IndexFunc_api_Order_c10 : List LOut := [⟨.ret, [(4, .int .i64)], [], []⟩, ⟨.exit 0, [(4, .int .i64)], [], []⟩]
def L_venue_Find_26_slices_IndexFunc_api_Order_c10 (p0 : Int) (p1 : (List SOrder)) (p2 : Int) (v0 : Int) (v1 : Int) : Option ((Int × Int) ⊕ ((Int) ⊕ ((Int)))) := cnd (ilt v0 p0) (cnd (band (ile 0 v0) (ilt v0 (len p1))) (cnd (ieq (lget p1 (itn v0)).id p2) (some (Sum.inr (Sum.inl v0))) (some (Sum.inl (wr IntKind.i64 (iadd v0 1), v1)))) none) (some (Sum.inr (Sum.inr v1)))
def Ls_venue_Find_26_slices_IndexFunc_api_Order_c10 : LSpec := S_venue_Find_26_slices_IndexFunc_api_Order_c10.spec O_venue_Find_26_slices_IndexFunc_api_Order_c10 [9, 10, 5, 11, 12, 13, 14, 15, 16, 17, 4, 18, 8] (fun p v => L_venue_Find_26_slices_IndexFunc_api_Order_c10 p.1 p.2.1 p.2.2 v.1 v.2)
def F_venue_Find (x0 : SVenue) (x1 : Int) : Option (Int) := obind (iterN (fun v ↦ L_venue_Find_26_slices_IndexFunc_api_Order_c10 (len x0.orders) x0.orders x1 v.fst v.snd) LF (0, 0)) fun y0 ↦ sumK y0 (fun y1 ↦ some y1) fun y1 ↦ some (-1)
noncomputable def C_venue_Find : Cx := { P := PG, ety := ety, fn := look [], inl := memN [123, 122], lp := lookLp [(356482326650, 26, Ls_venue_Find_26_slices_IndexFunc_api_Order_c10)] }
theorem L_venue_Find_26_slices_IndexFunc_api_Order_c10_eq (p0 : Int) (p1 : (List SOrder)) (p2 : Int) (v0 : Int) (v1 : Int) : runLp C_venue_Find 900 356482326650 26 (lpBody PG 122 26) S_venue_Find_26_slices_IndexFunc_api_Order_c10 O_venue_Find_26_slices_IndexFunc_api_Order_c10 (p0, p1, p2) (v0, v1) = L_venue_Find_26_slices_IndexFunc_api_Order_c10 p0 p1 p2 v0 v1 := by kernel_rfl
theorem F_venue_Find_eq (x0 : SVenue) (x1 : Int) : runFn C_venue_Find 83 [.val .venue, .int .i64] [.int .i64] (x0, x1) = F_venue_Find x0 x1 := by kernel_rfl
def spec_venue_Find : FnSpec := mkSpec [.val .venue, .int .i64] [.int .i64] true (fun x => F_venue_Find x.1 x.2)
theorem ok_venue_Find : FnOk PG 83 spec_venue_Find :=
  have K : CxR C_venue_Find := seatOk.cx (fun _ => rfl) (l := []) trivial
  fn_entry K (lps_from (l := [(356482326650, 26, Ls_venue_Find_26_slices_IndexFunc_api_Order_c10)]) rfl ⟨lp_entry (n := 900) (f := 122) K (by kernel_rfl) (by kernel_rfl) (by kernel_rfl) (by kernel_rfl) (by kernel_rfl) (fun p v r h => (L_venue_Find_26_slices_IndexFunc_api_Order_c10_eq p.1 p.2.1 p.2.2 v.1 v.2).trans h), trivial⟩) (by kernel_rfl) (fun x y h => (F_venue_Find_eq x.1 x.2).trans h) rfl rfl

def F_venue_swells (x0 : SVenue) : Option (Bool) := cnd (ilt 0 (len x0.inbox)) (cnd (bor (ilt 0 (len x0.inbox)) (bnot (ieq (lget x0.inbox 0).kind 1))) (obind (cnd (ieq (lget x0.inbox 0).kind 1) (F_venue_Find x0 (lget x0.inbox 0).order) (some 0)) fun y0 ↦ some (band (ieq (lget x0.inbox 0).kind 1) (ieq y0 (-1)))) none) none
noncomputable def C_venue_swells : Cx := { P := PG, ety := ety, fn := look [(83, spec_venue_Find)], inl := memN [], lp := lookLp [] }
theorem F_venue_swells_eq (x0 : SVenue) : runFn C_venue_swells 51 [.val .venue] [.bool] x0 = F_venue_swells x0 := by kernel_rfl
def spec_venue_swells : FnSpec := mkSpec [.val .venue] [.bool] true (fun x => F_venue_swells x)
theorem ok_venue_swells : FnOk PG 51 spec_venue_swells :=
  have K : CxR C_venue_swells := seatOk.cx (fun _ => rfl) (l := [(83, spec_venue_Find)]) ⟨ok_venue_Find, trivial⟩
  fn_entry K (lps_from (l := []) rfl trivial) (by kernel_rfl) (fun x y h => (F_venue_swells_eq x).trans h) rfl rfl

def F_slices_Clone_api_Note (x0 : (List SNote)) : Option ((List SNote)) := nilq (len x0) fun y0 ↦ cnd (beq y0 true) (some []) (cnd (ile (len x0) 68719476736) (some x0) none)
noncomputable def C_slices_Clone_api_Note : Cx := { P := PG, ety := ety, fn := look [], inl := memN [], lp := lookLp [] }
theorem F_slices_Clone_api_Note_eq (x0 : (List SNote)) : runFn C_slices_Clone_api_Note 84 [.ro .note] [.buf .note] x0 = F_slices_Clone_api_Note x0 := by kernel_rfl
def spec_slices_Clone_api_Note : FnSpec := mkSpec [.ro .note] [.buf .note] true (fun x => F_slices_Clone_api_Note x)
theorem ok_slices_Clone_api_Note : FnOk PG 84 spec_slices_Clone_api_Note :=
  have K : CxR C_slices_Clone_api_Note := seatOk.cx (fun _ => rfl) (l := []) trivial
  fn_entry K (lps_from (l := []) rfl trivial) (by kernel_rfl) (fun x y h => (F_slices_Clone_api_Note_eq x).trans h) rfl rfl

def S_slices_BinarySearchFunc_api_Order_api_Order_int64_60 : LSh := ⟨75, [(0, .ro .order), (1, .int .i64)], [(2, .fn 86 [])], [], [(10, .int .i64), (9, .int .i64)], [], []⟩
@[reducible] def O_slices_BinarySearchFunc_api_Order_api_Order_int64_60 : List LOut := [⟨.exit 0, [(9, .int .i64)], [], []⟩]
def L_slices_BinarySearchFunc_api_Order_api_Order_int64_60 (p0 : (List SOrder)) (p1 : Int) (v0 : Int) (v1 : Int) : Option ((Int × Int) ⊕ ((Int))) := cnd (ilt v1 v0) (cnd (band (ile 0 (wr IntKind.i64 (ishr IntKind.u64 (wr IntKind.u64 (wr IntKind.i64 (iadd v1 v0))) 1))) (ilt (wr IntKind.i64 (ishr IntKind.u64 (wr IntKind.u64 (wr IntKind.i64 (iadd v1 v0))) 1)) (len p0))) (cnd (ilt (imin (imax (wr IntKind.i64 (isub (lget p0 (itn (wr IntKind.i64 (ishr IntKind.u64 (wr IntKind.u64 (wr IntKind.i64 (iadd v1 v0))) 1)))).id p1)) (-1)) 1) 0) (some (Sum.inl (v0, wr IntKind.i64 (iadd (wr IntKind.i64 (ishr IntKind.u64 (wr IntKind.u64 (wr IntKind.i64 (iadd v1 v0))) 1)) 1)))) (some (Sum.inl (wr IntKind.i64 (ishr IntKind.u64 (wr IntKind.u64 (wr IntKind.i64 (iadd v1 v0))) 1), v1)))) none) (some (Sum.inr v1))
def Ls_slices_BinarySearchFunc_api_Order_api_Order_int64_60 : LSpec := S_slices_BinarySearchFunc_api_Order_api_Order_int64_60.spec O_slices_BinarySearchFunc_api_Order_api_Order_int64_60 [15, 16, 17, 18, 19, 20, 21, 22, 23, 11, 24, 25, 26, 27, 28, 29, 30, 31, 32, 33, 9, 34, 10] (fun p v => L_slices_BinarySearchFunc_api_Order_api_Order_int64_60 p.1 p.2 v.1 v.2)
def F_slices_BinarySearchFunc_api_Order_api_Order_int64 (x0 : (List SOrder)) (x1 : Int) (x2 : Unit) : Option (Int × Bool) := obind (iterN (fun v ↦ L_slices_BinarySearchFunc_api_Order_api_Order_int64_60 x0 x1 v.fst v.snd) LF (len x0, 0)) fun y0 ↦ cnd (bor (band (ile 0 y0) (ilt y0 (len x0))) (bnot (ilt y0 (len x0)))) (cnd (ilt y0 (len x0)) (some (y0, band (ilt y0 (len x0)) (ieq (imin (imax (wr IntKind.i64 (isub (lget x0 (itn y0)).id x1)) (-1)) 1) 0))) (some (y0, bor (ilt y0 (len x0)) false))) none
noncomputable def C_slices_BinarySearchFunc_api_Order_api_Order_int64 : Cx := { P := PG, ety := ety, fn := look [], inl := memN [86], lp := lookLp [(85, 60, Ls_slices_BinarySearchFunc_api_Order_api_Order_int64_60)] }
theorem L_slices_BinarySearchFunc_api_Order_api_Order_int64_60_eq (p0 : (List SOrder)) (p1 : Int) (v0 : Int) (v1 : Int) : runLp C_slices_BinarySearchFunc_api_Order_api_Order_int64 900 85 60 (lpBody PG 85 60) S_slices_BinarySearchFunc_api_Order_api_Order_int64_60 O_slices_BinarySearchFunc_api_Order_api_Order_int64_60 (p0, p1) (v0, v1) = L_slices_BinarySearchFunc_api_Order_api_Order_int64_60 p0 p1 v0 v1 := by kernel_rfl
theorem F_slices_BinarySearchFunc_api_Order_api_Order_int64_eq (x0 : (List SOrder)) (x1 : Int) (x2 : Unit) : runFn C_slices_BinarySearchFunc_api_Order_api_Order_int64 85 [.ro .order, .int .i64, .fnv 86] [.int .i64, .bool] (x0, x1, x2) = F_slices_BinarySearchFunc_api_Order_api_Order_int64 x0 x1 x2 := by kernel_rfl
def spec_slices_BinarySearchFunc_api_Order_api_Order_int64 : FnSpec := mkSpec [.ro .order, .int .i64, .fnv 86] [.int .i64, .bool] true (fun x => F_slices_BinarySearchFunc_api_Order_api_Order_int64 x.1 x.2.1 x.2.2)
theorem ok_slices_BinarySearchFunc_api_Order_api_Order_int64 : FnOk PG 85 spec_slices_BinarySearchFunc_api_Order_api_Order_int64 :=
  have K : CxR C_slices_BinarySearchFunc_api_Order_api_Order_int64 := seatOk.cx (fun _ => rfl) (l := []) trivial
  fn_entry K (lps_from (l := [(85, 60, Ls_slices_BinarySearchFunc_api_Order_api_Order_int64_60)]) rfl ⟨lp_entry (n := 900) (f := 85) K (by kernel_rfl) (by kernel_rfl) (by kernel_rfl) (by kernel_rfl) (by kernel_rfl) (fun p v r h => (L_slices_BinarySearchFunc_api_Order_api_Order_int64_60_eq p.1 p.2 v.1 v.2).trans h), trivial⟩) (by kernel_rfl) (fun x y h => (F_slices_BinarySearchFunc_api_Order_api_Order_int64_eq x.1 x.2.1 x.2.2).trans h) rfl rfl

def F_slices_Insert_api_Order (x0 : (List SOrder)) (x1 : Int) (x2 : (List SOrder)) : Option ((List SOrder)) := match x2 with | [n] => cnd (band (ile 0 x1) (band (ile x1 (len x0)) (ile (iadd (len x0) 1) 68719476736))) (some (lapp (ltake x0 (itn x1)) (n :: ldrop x0 (itn x1)))) none | _ => none
noncomputable def C_slices_Insert_api_Order : Cx := { P := PG, ety := ety, fn := look [], inl := memN [], lp := lookLp [] }
def spec_slices_Insert_api_Order : FnSpec := insSpec .order (fun x => F_slices_Insert_api_Order x.1 x.2.1 x.2.2)
theorem ok_slices_Insert_api_Order : FnOk PG 87 spec_slices_Insert_api_Order :=
  have K : CxR C_slices_Insert_api_Order := seatOk.cx (fun _ => rfl) (l := []) trivial
  ins_entry K 87 (fnAt PG 87) (fnAt PG ((insRen (fnAt PG 87)).f 29)) (by kernel_rfl) (by kernel_rfl) (by kernel_rfl) (by kernel_rfl) (by kernel_rfl) (e := .order) (by kernel_rfl) (by kernel_rfl) (by kernel_rfl) (by kernel_rfl) (by kernel_rfl) (by kernel_rfl) rfl (fun x y h => by obtain ⟨l, k, xs⟩ := x; match xs, h with | [], h => exact h | [_], h => exact h | _ :: _ :: _, h => exact h)

def F_venue_Take (x0 : SVenue) (x1 : Bool) : Option (SVenue × Int) := obind (F_venue_Right x0) fun y0 ↦ cnd (bnot y0) (some (x0, 1)) (cnd (ieq (len x0.inbox) 0) (some (x0, 7)) (obind (F_venue_full x0) fun y1 ↦ cnd y1 (cnd y1 (some (x0, 6)) (obind (F_slices_Clone_api_Msg x0.inbox) fun y2 ↦ let t9 := (ltake (ldrop y2 1) (itn (isub (len y2) 1))); obind (F_slices_Clone_api_Order x0.orders) fun y3 ↦ obind (F_slices_Clone_api_Note x0.notes) fun y4 ↦ cnd (ilt 0 (len y2)) (cnd (ile 1 (len y2)) (cnd (ieq (lget y2 0).kind 1) (obind (F_slices_BinarySearchFunc_api_Order_api_Order_int64 y3 (lget y2 0).order PUnit.unit) fun y5 ↦ cnd y5.snd (some (SVenue.mk t9 y3 y4, 0)) (cnd x1 (obind (F_slices_Insert_api_Order y3 y5.fst [SOrder.mk (lget y2 0).order (lget y2 0).account (lget y2 0).symbol (lget y2 0).side (lget y2 0).qty (lget y2 0).price 0 2 0 0 0 false]) fun y6 ↦ cnd (ile (len (lapp y4 [SNote.mk (wr IntKind.i64 (iadd (len y4) 1)) 1 (lget y2 0).order 0 0])) 68719476736) (some (SVenue.mk t9 y6 (lapp y4 [SNote.mk (wr IntKind.i64 (iadd (len y4) 1)) 1 (lget y2 0).order 0 0]), 0)) none) (obind (F_slices_Insert_api_Order y3 y5.fst [SOrder.mk (lget y2 0).order (lget y2 0).account (lget y2 0).symbol (lget y2 0).side (lget y2 0).qty (lget y2 0).price 0 3 0 0 0 false]) fun y7 ↦ cnd (ile (len (lapp y4 [SNote.mk (wr IntKind.i64 (iadd (len y4) 1)) 2 (lget y2 0).order 0 0])) 68719476736) (some (SVenue.mk t9 y7 (lapp y4 [SNote.mk (wr IntKind.i64 (iadd (len y4) 1)) 2 (lget y2 0).order 0 0]), 0)) none))) (cnd (ieq (lget y2 0).kind 2) (obind (F_venue_Find (SVenue.mk t9 y3 y4) (lget y2 0).order) fun y8 ↦ let t3 := (lset y3 (itn y8) (SOrder.mk (lget y3 (itn y8)).id (lget y3 (itn y8)).account (lget y3 (itn y8)).symbol (lget y3 (itn y8)).side (lget y3 (itn y8)).qty (lget y3 (itn y8)).price (lget y3 (itn y8)).filled (lget y3 (itn y8)).phase (lget y3 (itn y8)).newQty (lget y3 (itn y8)).newPrice (lget y2 0).version (lget y3 (itn y8)).asked)); let t1 := (lset t3 (itn y8) (SOrder.mk (lget t3 (itn y8)).id (lget t3 (itn y8)).account (lget t3 (itn y8)).symbol (lget t3 (itn y8)).side (lget y2 0).qty (lget t3 (itn y8)).price (lget t3 (itn y8)).filled (lget t3 (itn y8)).phase (lget t3 (itn y8)).newQty (lget t3 (itn y8)).newPrice (lget t3 (itn y8)).version (lget t3 (itn y8)).asked)); let t6 := (lset t1 (itn y8) (SOrder.mk (lget t1 (itn y8)).id (lget t1 (itn y8)).account (lget t1 (itn y8)).symbol (lget t1 (itn y8)).side (lget t1 (itn y8)).qty (lget y2 0).price (lget t1 (itn y8)).filled (lget t1 (itn y8)).phase (lget t1 (itn y8)).newQty (lget t1 (itn y8)).newPrice (lget t1 (itn y8)).version (lget t1 (itn y8)).asked)); cnd (bor (band (ile 0 y8) (ilt y8 (len y3))) (bnot (bnot (ieq y8 (-1))))) (cnd (bor (ieq y8 (-1)) (bnot (ieq (lget y3 (itn y8)).phase 2))) (some (SVenue.mk t9 y3 y4, 0)) (cnd (band (ile 0 y8) (ilt y8 (len y3))) (cnd (ile (lget y2 0).version (lget y3 (itn y8)).version) (some (SVenue.mk t9 y3 y4, 0)) (cnd (bor (bnot x1) (ile (lget y2 0).qty (lget t3 (itn y8)).filled)) (cnd (ile (len (lapp y4 [SNote.mk (wr IntKind.i64 (iadd (len y4) 1)) 6 (lget t3 (itn y8)).id 0 0])) 68719476736) (some (SVenue.mk t9 t3 (lapp y4 [SNote.mk (wr IntKind.i64 (iadd (len y4) 1)) 6 (lget t3 (itn y8)).id 0 0]), 0)) none) (cnd (ile (len (lapp y4 [SNote.mk (wr IntKind.i64 (iadd (len y4) 1)) 5 (lget t6 (itn y8)).id (lget y2 0).qty (lget y2 0).price])) 68719476736) (some (SVenue.mk t9 t6 (lapp y4 [SNote.mk (wr IntKind.i64 (iadd (len y4) 1)) 5 (lget t6 (itn y8)).id (lget y2 0).qty (lget y2 0).price]), 0)) none))) none)) none) (obind (F_venue_Find (SVenue.mk t9 y3 y4) (lget y2 0).order) fun y9 ↦ let t7 := (lset y3 (itn y9) (SOrder.mk (lget y3 (itn y9)).id (lget y3 (itn y9)).account (lget y3 (itn y9)).symbol (lget y3 (itn y9)).side (lget y3 (itn y9)).qty (lget y3 (itn y9)).price (lget y3 (itn y9)).filled 3 (lget y3 (itn y9)).newQty (lget y3 (itn y9)).newPrice (lget y3 (itn y9)).version (lget y3 (itn y9)).asked)); cnd (bor (band (ile 0 y9) (ilt y9 (len y3))) (bnot (bnot (ieq y9 (-1))))) (cnd (bor (ieq y9 (-1)) (bnot (ieq (lget y3 (itn y9)).phase 2))) (some (SVenue.mk t9 y3 y4, 0)) (cnd (band (ile 0 y9) (ilt y9 (len y3))) (cnd x1 (cnd (ile (len (lapp y4 [SNote.mk (wr IntKind.i64 (iadd (len y4) 1)) 4 (lget t7 (itn y9)).id 0 0])) 68719476736) (some (SVenue.mk t9 t7 (lapp y4 [SNote.mk (wr IntKind.i64 (iadd (len y4) 1)) 4 (lget t7 (itn y9)).id 0 0]), 0)) none) (some (SVenue.mk t9 y3 y4, 0))) none)) none))) none) none)) (obind (F_venue_swells x0) fun y10 ↦ cnd (band y10 (ieq (len x0.orders) 400)) (some (x0, 6)) (obind (F_slices_Clone_api_Msg x0.inbox) fun y11 ↦ let t8 := (ltake (ldrop y11 1) (itn (isub (len y11) 1))); obind (F_slices_Clone_api_Order x0.orders) fun y12 ↦ obind (F_slices_Clone_api_Note x0.notes) fun y13 ↦ cnd (ilt 0 (len y11)) (cnd (ile 1 (len y11)) (cnd (ieq (lget y11 0).kind 1) (obind (F_slices_BinarySearchFunc_api_Order_api_Order_int64 y12 (lget y11 0).order PUnit.unit) fun y14 ↦ cnd y14.snd (some (SVenue.mk t8 y12 y13, 0)) (cnd x1 (obind (F_slices_Insert_api_Order y12 y14.fst [SOrder.mk (lget y11 0).order (lget y11 0).account (lget y11 0).symbol (lget y11 0).side (lget y11 0).qty (lget y11 0).price 0 2 0 0 0 false]) fun y15 ↦ cnd (ile (len (lapp y13 [SNote.mk (wr IntKind.i64 (iadd (len y13) 1)) 1 (lget y11 0).order 0 0])) 68719476736) (some (SVenue.mk t8 y15 (lapp y13 [SNote.mk (wr IntKind.i64 (iadd (len y13) 1)) 1 (lget y11 0).order 0 0]), 0)) none) (obind (F_slices_Insert_api_Order y12 y14.fst [SOrder.mk (lget y11 0).order (lget y11 0).account (lget y11 0).symbol (lget y11 0).side (lget y11 0).qty (lget y11 0).price 0 3 0 0 0 false]) fun y16 ↦ cnd (ile (len (lapp y13 [SNote.mk (wr IntKind.i64 (iadd (len y13) 1)) 2 (lget y11 0).order 0 0])) 68719476736) (some (SVenue.mk t8 y16 (lapp y13 [SNote.mk (wr IntKind.i64 (iadd (len y13) 1)) 2 (lget y11 0).order 0 0]), 0)) none))) (cnd (ieq (lget y11 0).kind 2) (obind (F_venue_Find (SVenue.mk t8 y12 y13) (lget y11 0).order) fun y17 ↦ let t2 := (lset y12 (itn y17) (SOrder.mk (lget y12 (itn y17)).id (lget y12 (itn y17)).account (lget y12 (itn y17)).symbol (lget y12 (itn y17)).side (lget y12 (itn y17)).qty (lget y12 (itn y17)).price (lget y12 (itn y17)).filled (lget y12 (itn y17)).phase (lget y12 (itn y17)).newQty (lget y12 (itn y17)).newPrice (lget y11 0).version (lget y12 (itn y17)).asked)); let t0 := (lset t2 (itn y17) (SOrder.mk (lget t2 (itn y17)).id (lget t2 (itn y17)).account (lget t2 (itn y17)).symbol (lget t2 (itn y17)).side (lget y11 0).qty (lget t2 (itn y17)).price (lget t2 (itn y17)).filled (lget t2 (itn y17)).phase (lget t2 (itn y17)).newQty (lget t2 (itn y17)).newPrice (lget t2 (itn y17)).version (lget t2 (itn y17)).asked)); let t4 := (lset t0 (itn y17) (SOrder.mk (lget t0 (itn y17)).id (lget t0 (itn y17)).account (lget t0 (itn y17)).symbol (lget t0 (itn y17)).side (lget t0 (itn y17)).qty (lget y11 0).price (lget t0 (itn y17)).filled (lget t0 (itn y17)).phase (lget t0 (itn y17)).newQty (lget t0 (itn y17)).newPrice (lget t0 (itn y17)).version (lget t0 (itn y17)).asked)); cnd (bor (band (ile 0 y17) (ilt y17 (len y12))) (bnot (bnot (ieq y17 (-1))))) (cnd (bor (ieq y17 (-1)) (bnot (ieq (lget y12 (itn y17)).phase 2))) (some (SVenue.mk t8 y12 y13, 0)) (cnd (band (ile 0 y17) (ilt y17 (len y12))) (cnd (ile (lget y11 0).version (lget y12 (itn y17)).version) (some (SVenue.mk t8 y12 y13, 0)) (cnd (bor (bnot x1) (ile (lget y11 0).qty (lget t2 (itn y17)).filled)) (cnd (ile (len (lapp y13 [SNote.mk (wr IntKind.i64 (iadd (len y13) 1)) 6 (lget t2 (itn y17)).id 0 0])) 68719476736) (some (SVenue.mk t8 t2 (lapp y13 [SNote.mk (wr IntKind.i64 (iadd (len y13) 1)) 6 (lget t2 (itn y17)).id 0 0]), 0)) none) (cnd (ile (len (lapp y13 [SNote.mk (wr IntKind.i64 (iadd (len y13) 1)) 5 (lget t4 (itn y17)).id (lget y11 0).qty (lget y11 0).price])) 68719476736) (some (SVenue.mk t8 t4 (lapp y13 [SNote.mk (wr IntKind.i64 (iadd (len y13) 1)) 5 (lget t4 (itn y17)).id (lget y11 0).qty (lget y11 0).price]), 0)) none))) none)) none) (obind (F_venue_Find (SVenue.mk t8 y12 y13) (lget y11 0).order) fun y18 ↦ let t5 := (lset y12 (itn y18) (SOrder.mk (lget y12 (itn y18)).id (lget y12 (itn y18)).account (lget y12 (itn y18)).symbol (lget y12 (itn y18)).side (lget y12 (itn y18)).qty (lget y12 (itn y18)).price (lget y12 (itn y18)).filled 3 (lget y12 (itn y18)).newQty (lget y12 (itn y18)).newPrice (lget y12 (itn y18)).version (lget y12 (itn y18)).asked)); cnd (bor (band (ile 0 y18) (ilt y18 (len y12))) (bnot (bnot (ieq y18 (-1))))) (cnd (bor (ieq y18 (-1)) (bnot (ieq (lget y12 (itn y18)).phase 2))) (some (SVenue.mk t8 y12 y13, 0)) (cnd (band (ile 0 y18) (ilt y18 (len y12))) (cnd x1 (cnd (ile (len (lapp y13 [SNote.mk (wr IntKind.i64 (iadd (len y13) 1)) 4 (lget t5 (itn y18)).id 0 0])) 68719476736) (some (SVenue.mk t8 t5 (lapp y13 [SNote.mk (wr IntKind.i64 (iadd (len y13) 1)) 4 (lget t5 (itn y18)).id 0 0]), 0)) none) (some (SVenue.mk t8 y12 y13, 0))) none)) none))) none) none))))
noncomputable def C_venue_Take : Cx := { P := PG, ety := ety, fn := look [(32, spec_venue_Right), (50, spec_venue_full), (51, spec_venue_swells), (49, spec_slices_Clone_api_Msg), (26, spec_slices_Clone_api_Order), (84, spec_slices_Clone_api_Note), (85, spec_slices_BinarySearchFunc_api_Order_api_Order_int64), (87, spec_slices_Insert_api_Order), (83, spec_venue_Find)], inl := memN [52, 53, 86, 58, 54, 55, 56], lp := lookLp [] }
theorem F_venue_Take_eq (x0 : SVenue) (x1 : Bool) : runFn C_venue_Take 17 [.val .venue, .bool] [.val .venue, .int .i64] (x0, x1) = F_venue_Take x0 x1 := by kernel_rfl
def spec_venue_Take : FnSpec := mkSpec [.val .venue, .bool] [.val .venue, .int .i64] false (fun x => F_venue_Take x.1 x.2)
theorem ok_venue_Take : FnOk PG 17 spec_venue_Take :=
  have K : CxR C_venue_Take := seatOk.cx (fun _ => rfl) (l := [(32, spec_venue_Right), (50, spec_venue_full), (51, spec_venue_swells), (49, spec_slices_Clone_api_Msg), (26, spec_slices_Clone_api_Order), (84, spec_slices_Clone_api_Note), (85, spec_slices_BinarySearchFunc_api_Order_api_Order_int64), (87, spec_slices_Insert_api_Order), (83, spec_venue_Find)]) ⟨ok_venue_Right, ok_venue_full, ok_venue_swells, ok_slices_Clone_api_Msg, ok_slices_Clone_api_Order, ok_slices_Clone_api_Note, ok_slices_BinarySearchFunc_api_Order_api_Order_int64, ok_slices_Insert_api_Order, ok_venue_Find, trivial⟩
  fn_entry K (lps_from (l := []) rfl trivial) (by kernel_rfl) (fun x y h => (F_venue_Take_eq x.1 x.2).trans h) rfl rfl

def F_venue_Fill (x0 : SVenue) (x1 : Int) (x2 : Int) : Option (SVenue × Int) := obind (F_venue_Right x0) fun y0 ↦ cnd (bor (bnot y0) (ilt x2 1)) (some (x0, 1)) (obind (F_venue_Find x0 x1) fun y1 ↦ cnd (ieq y1 (-1)) (some (x0, 7)) (obind (F_slices_Clone_api_Msg x0.inbox) fun y2 ↦ obind (F_slices_Clone_api_Order x0.orders) fun y3 ↦ obind (F_slices_Clone_api_Note x0.notes) fun y4 ↦ obind (F_venue_Find (SVenue.mk y2 y3 y4) x1) fun y5 ↦ cnd (bor (band (ile 0 y5) (ilt y5 (len y3))) (bnot (bnot (ieq y5 (-1))))) (cnd (bor (ieq y5 (-1)) (bnot (ieq (lget y3 (itn y5)).phase 2))) (some (x0, 8)) (cnd (band (ile 0 y5) (ilt y5 (len y3))) (cnd (ilt (wr IntKind.i64 (isub (lget y3 (itn y5)).qty (lget y3 (itn y5)).filled)) x2) (some (x0, 8)) (obind (F_venue_full x0) fun y6 ↦ cnd y6 (some (x0, 6)) (cnd (ieq (lget (lset y3 (itn y5) (SOrder.mk (lget y3 (itn y5)).id (lget y3 (itn y5)).account (lget y3 (itn y5)).symbol (lget y3 (itn y5)).side (lget y3 (itn y5)).qty (lget y3 (itn y5)).price (wr IntKind.i64 (iadd (lget y3 (itn y5)).filled x2)) (lget y3 (itn y5)).phase (lget y3 (itn y5)).newQty (lget y3 (itn y5)).newPrice (lget y3 (itn y5)).version (lget y3 (itn y5)).asked)) (itn y5)).filled (lget (lset y3 (itn y5) (SOrder.mk (lget y3 (itn y5)).id (lget y3 (itn y5)).account (lget y3 (itn y5)).symbol (lget y3 (itn y5)).side (lget y3 (itn y5)).qty (lget y3 (itn y5)).price (wr IntKind.i64 (iadd (lget y3 (itn y5)).filled x2)) (lget y3 (itn y5)).phase (lget y3 (itn y5)).newQty (lget y3 (itn y5)).newPrice (lget y3 (itn y5)).version (lget y3 (itn y5)).asked)) (itn y5)).qty) (cnd (ile (len (lapp y4 [SNote.mk (wr IntKind.i64 (iadd (len y4) 1)) 3 x1 x2 0])) 68719476736) (some (SVenue.mk y2 (lset (lset y3 (itn y5) (SOrder.mk (lget y3 (itn y5)).id (lget y3 (itn y5)).account (lget y3 (itn y5)).symbol (lget y3 (itn y5)).side (lget y3 (itn y5)).qty (lget y3 (itn y5)).price (wr IntKind.i64 (iadd (lget y3 (itn y5)).filled x2)) (lget y3 (itn y5)).phase (lget y3 (itn y5)).newQty (lget y3 (itn y5)).newPrice (lget y3 (itn y5)).version (lget y3 (itn y5)).asked)) (itn y5) (SOrder.mk (lget (lset y3 (itn y5) (SOrder.mk (lget y3 (itn y5)).id (lget y3 (itn y5)).account (lget y3 (itn y5)).symbol (lget y3 (itn y5)).side (lget y3 (itn y5)).qty (lget y3 (itn y5)).price (wr IntKind.i64 (iadd (lget y3 (itn y5)).filled x2)) (lget y3 (itn y5)).phase (lget y3 (itn y5)).newQty (lget y3 (itn y5)).newPrice (lget y3 (itn y5)).version (lget y3 (itn y5)).asked)) (itn y5)).id (lget (lset y3 (itn y5) (SOrder.mk (lget y3 (itn y5)).id (lget y3 (itn y5)).account (lget y3 (itn y5)).symbol (lget y3 (itn y5)).side (lget y3 (itn y5)).qty (lget y3 (itn y5)).price (wr IntKind.i64 (iadd (lget y3 (itn y5)).filled x2)) (lget y3 (itn y5)).phase (lget y3 (itn y5)).newQty (lget y3 (itn y5)).newPrice (lget y3 (itn y5)).version (lget y3 (itn y5)).asked)) (itn y5)).account (lget (lset y3 (itn y5) (SOrder.mk (lget y3 (itn y5)).id (lget y3 (itn y5)).account (lget y3 (itn y5)).symbol (lget y3 (itn y5)).side (lget y3 (itn y5)).qty (lget y3 (itn y5)).price (wr IntKind.i64 (iadd (lget y3 (itn y5)).filled x2)) (lget y3 (itn y5)).phase (lget y3 (itn y5)).newQty (lget y3 (itn y5)).newPrice (lget y3 (itn y5)).version (lget y3 (itn y5)).asked)) (itn y5)).symbol (lget (lset y3 (itn y5) (SOrder.mk (lget y3 (itn y5)).id (lget y3 (itn y5)).account (lget y3 (itn y5)).symbol (lget y3 (itn y5)).side (lget y3 (itn y5)).qty (lget y3 (itn y5)).price (wr IntKind.i64 (iadd (lget y3 (itn y5)).filled x2)) (lget y3 (itn y5)).phase (lget y3 (itn y5)).newQty (lget y3 (itn y5)).newPrice (lget y3 (itn y5)).version (lget y3 (itn y5)).asked)) (itn y5)).side (lget (lset y3 (itn y5) (SOrder.mk (lget y3 (itn y5)).id (lget y3 (itn y5)).account (lget y3 (itn y5)).symbol (lget y3 (itn y5)).side (lget y3 (itn y5)).qty (lget y3 (itn y5)).price (wr IntKind.i64 (iadd (lget y3 (itn y5)).filled x2)) (lget y3 (itn y5)).phase (lget y3 (itn y5)).newQty (lget y3 (itn y5)).newPrice (lget y3 (itn y5)).version (lget y3 (itn y5)).asked)) (itn y5)).qty (lget (lset y3 (itn y5) (SOrder.mk (lget y3 (itn y5)).id (lget y3 (itn y5)).account (lget y3 (itn y5)).symbol (lget y3 (itn y5)).side (lget y3 (itn y5)).qty (lget y3 (itn y5)).price (wr IntKind.i64 (iadd (lget y3 (itn y5)).filled x2)) (lget y3 (itn y5)).phase (lget y3 (itn y5)).newQty (lget y3 (itn y5)).newPrice (lget y3 (itn y5)).version (lget y3 (itn y5)).asked)) (itn y5)).price (lget (lset y3 (itn y5) (SOrder.mk (lget y3 (itn y5)).id (lget y3 (itn y5)).account (lget y3 (itn y5)).symbol (lget y3 (itn y5)).side (lget y3 (itn y5)).qty (lget y3 (itn y5)).price (wr IntKind.i64 (iadd (lget y3 (itn y5)).filled x2)) (lget y3 (itn y5)).phase (lget y3 (itn y5)).newQty (lget y3 (itn y5)).newPrice (lget y3 (itn y5)).version (lget y3 (itn y5)).asked)) (itn y5)).filled 3 (lget (lset y3 (itn y5) (SOrder.mk (lget y3 (itn y5)).id (lget y3 (itn y5)).account (lget y3 (itn y5)).symbol (lget y3 (itn y5)).side (lget y3 (itn y5)).qty (lget y3 (itn y5)).price (wr IntKind.i64 (iadd (lget y3 (itn y5)).filled x2)) (lget y3 (itn y5)).phase (lget y3 (itn y5)).newQty (lget y3 (itn y5)).newPrice (lget y3 (itn y5)).version (lget y3 (itn y5)).asked)) (itn y5)).newQty (lget (lset y3 (itn y5) (SOrder.mk (lget y3 (itn y5)).id (lget y3 (itn y5)).account (lget y3 (itn y5)).symbol (lget y3 (itn y5)).side (lget y3 (itn y5)).qty (lget y3 (itn y5)).price (wr IntKind.i64 (iadd (lget y3 (itn y5)).filled x2)) (lget y3 (itn y5)).phase (lget y3 (itn y5)).newQty (lget y3 (itn y5)).newPrice (lget y3 (itn y5)).version (lget y3 (itn y5)).asked)) (itn y5)).newPrice (lget (lset y3 (itn y5) (SOrder.mk (lget y3 (itn y5)).id (lget y3 (itn y5)).account (lget y3 (itn y5)).symbol (lget y3 (itn y5)).side (lget y3 (itn y5)).qty (lget y3 (itn y5)).price (wr IntKind.i64 (iadd (lget y3 (itn y5)).filled x2)) (lget y3 (itn y5)).phase (lget y3 (itn y5)).newQty (lget y3 (itn y5)).newPrice (lget y3 (itn y5)).version (lget y3 (itn y5)).asked)) (itn y5)).version (lget (lset y3 (itn y5) (SOrder.mk (lget y3 (itn y5)).id (lget y3 (itn y5)).account (lget y3 (itn y5)).symbol (lget y3 (itn y5)).side (lget y3 (itn y5)).qty (lget y3 (itn y5)).price (wr IntKind.i64 (iadd (lget y3 (itn y5)).filled x2)) (lget y3 (itn y5)).phase (lget y3 (itn y5)).newQty (lget y3 (itn y5)).newPrice (lget y3 (itn y5)).version (lget y3 (itn y5)).asked)) (itn y5)).asked)) (lapp y4 [SNote.mk (wr IntKind.i64 (iadd (len y4) 1)) 3 x1 x2 0]), 0)) none) (cnd (ile (len (lapp y4 [SNote.mk (wr IntKind.i64 (iadd (len y4) 1)) 3 x1 x2 0])) 68719476736) (some (SVenue.mk y2 (lset y3 (itn y5) (SOrder.mk (lget y3 (itn y5)).id (lget y3 (itn y5)).account (lget y3 (itn y5)).symbol (lget y3 (itn y5)).side (lget y3 (itn y5)).qty (lget y3 (itn y5)).price (wr IntKind.i64 (iadd (lget y3 (itn y5)).filled x2)) (lget y3 (itn y5)).phase (lget y3 (itn y5)).newQty (lget y3 (itn y5)).newPrice (lget y3 (itn y5)).version (lget y3 (itn y5)).asked)) (lapp y4 [SNote.mk (wr IntKind.i64 (iadd (len y4) 1)) 3 x1 x2 0]), 0)) none)))) none)) none))
noncomputable def C_venue_Fill : Cx := { P := PG, ety := ety, fn := look [(32, spec_venue_Right), (83, spec_venue_Find), (49, spec_slices_Clone_api_Msg), (26, spec_slices_Clone_api_Order), (84, spec_slices_Clone_api_Note), (50, spec_venue_full)], inl := memN [57, 52, 55, 58], lp := lookLp [] }
theorem F_venue_Fill_eq (x0 : SVenue) (x1 : Int) (x2 : Int) : runFn C_venue_Fill 19 [.val .venue, .int .i64, .int .i64] [.val .venue, .int .i64] (x0, x1, x2) = F_venue_Fill x0 x1 x2 := by kernel_rfl
def spec_venue_Fill : FnSpec := mkSpec [.val .venue, .int .i64, .int .i64] [.val .venue, .int .i64] false (fun x => F_venue_Fill x.1 x.2.1 x.2.2)
theorem ok_venue_Fill : FnOk PG 19 spec_venue_Fill :=
  have K : CxR C_venue_Fill := seatOk.cx (fun _ => rfl) (l := [(32, spec_venue_Right), (83, spec_venue_Find), (49, spec_slices_Clone_api_Msg), (26, spec_slices_Clone_api_Order), (84, spec_slices_Clone_api_Note), (50, spec_venue_full)]) ⟨ok_venue_Right, ok_venue_Find, ok_slices_Clone_api_Msg, ok_slices_Clone_api_Order, ok_slices_Clone_api_Note, ok_venue_full, trivial⟩
  fn_entry K (lps_from (l := []) rfl trivial) (by kernel_rfl) (fun x y h => (F_venue_Fill_eq x.1 x.2.1 x.2.2).trans h) rfl rfl

def S_truth_Pos_122 : LSh := ⟨82, [(21, .int .i64), (20, .ro .order), (1, .int .i64), (2, .int .i64)], [(8, .mp 96 0)], [], [(22, .int .i64)], [(96, [.buf .i64, .buf .i64, .int .i64, .int .i64, .int .i64, .int .i64])], []⟩
@[reducible] def O_truth_Pos_122 : List LOut := [⟨.exit 0, [], [(96, [.buf .i64, .buf .i64, .int .i64, .int .i64, .int .i64, .int .i64])], []⟩]
def L_truth_Pos_122 (p0 : Int) (p1 : (List SOrder)) (p2 : Int) (p3 : Int) (v0 : Int) (v1 : (List Int)) (v2 : (List Int)) (v3 : Int) (v4 : Int) (v5 : Int) (v6 : Int) : Option ((Int × (List Int) × (List Int) × Int × Int × Int × Int) ⊕ (((List Int) × (List Int) × Int × Int × Int × Int))) := cnd (ilt v0 p0) (cnd (band (ile 0 v0) (ilt v0 (len p1))) (cnd (band (ieq (lget p1 (itn v0)).account p2) (ieq (lget p1 (itn v0)).symbol p3)) (cnd (ieq (lget p1 (itn v0)).side 1) (cnd (ile (len (lapp v1 [(lget p1 (itn v0)).filled])) 68719476736) (some (Sum.inl (wr IntKind.i64 (iadd v0 1), lapp v1 [(lget p1 (itn v0)).filled], v2, v3, v4, v5, v6))) none) (cnd (ile (len (lapp v2 [(lget p1 (itn v0)).filled])) 68719476736) (some (Sum.inl (wr IntKind.i64 (iadd v0 1), v1, lapp v2 [(lget p1 (itn v0)).filled], v3, v4, v5, v6))) none)) (some (Sum.inl (wr IntKind.i64 (iadd v0 1), v1, v2, v3, v4, v5, v6)))) none) (some (Sum.inr (v1, v2, v3, v4, v5, v6)))
def Ls_truth_Pos_122 : LSpec := S_truth_Pos_122.spec O_truth_Pos_122 [23, 24, 25, 10, 26, 27, 28, 29, 30, 31, 32, 33, 34, 35, 36, 37, 38, 39, 22] (fun p v => L_truth_Pos_122 p.1 p.2.1 p.2.2.1 p.2.2.2 v.1 v.2.1 v.2.2.1 v.2.2.2.1 v.2.2.2.2.1 v.2.2.2.2.2.1 v.2.2.2.2.2.2)
def S_truth_Pos_26_truth_sums_pos_c98 : LSh := ⟨165, [], [(0, .mp 96 0)], [], [(4, .int .i64), (3, .int .i64), (2, .int .i64)], [(96, [.buf .i64, .buf .i64, .int .i64, .int .i64, .int .i64, .int .i64])], []⟩
@[reducible] def O_truth_Pos_26_truth_sums_pos_c98 : List LOut := [⟨.exit 0, [(2, .int .i64)], [(96, [.buf .i64, .buf .i64, .int .i64, .int .i64, .int .i64, .int .i64])], []⟩]
def L_truth_Pos_26_truth_sums_pos_c98 (v0 : Int) (v1 : Int) (v2 : Int) (v3 : (List Int)) (v4 : (List Int)) (v5 : Int) (v6 : Int) (v7 : Int) (v8 : Int) : Option ((Int × Int × Int × (List Int) × (List Int) × Int × Int × Int × Int) ⊕ ((Int × (List Int) × (List Int) × Int × Int × Int × Int))) := cnd (band (ieq v8 0) (bor (ilt v1 (len v3)) (ilt v0 (len v4)))) (cnd (bor (ieq v0 (len v4)) (band (ilt v2 0) (ilt v1 (len v3)))) (cnd (band (ile 0 v1) (ilt v1 (len v3))) (obind (F_num_Add v2 (lget v3 (itn v1))) fun y0 ↦ some (Sum.inl (v0, wr IntKind.i64 (iadd v1 1), y0.fst, v3, v4, v5, v6, v7, y0.snd))) none) (cnd (band (ile 0 v0) (ilt v0 (len v4))) (obind (F_num_Sub v2 (lget v4 (itn v0))) fun y1 ↦ some (Sum.inl (wr IntKind.i64 (iadd v0 1), v1, y1.fst, v3, v4, v5, v6, v7, y1.snd))) none)) (some (Sum.inr (v2, v3, v4, v5, v6, v7, v8)))
def Ls_truth_Pos_26_truth_sums_pos_c98 : LSpec := S_truth_Pos_26_truth_sums_pos_c98.spec O_truth_Pos_26_truth_sums_pos_c98 [5, 6, 7, 8, 9, 10, 11, 12, 13, 14, 15, 16, 17, 18, 19, 20, 21, 22, 23, 24, 25, 26, 27, 28, 29, 30, 31, 32, 33, 34, 35, 36, 37, 38, 39, 40, 41, 42, 43, 44, 45, 46, 47, 49, 50, 51, 52, 53, 54, 55, 56, 57, 58, 48, 59, 60, 2, 61, 62, 63, 64, 3, 66, 67, 68, 69, 70, 71, 72, 73, 74, 75, 65, 76, 77, 78, 79, 80, 81, 4] (fun p v => L_truth_Pos_26_truth_sums_pos_c98 v.1 v.2.1 v.2.2.1 v.2.2.2.1 v.2.2.2.2.1 v.2.2.2.2.2.1 v.2.2.2.2.2.2.1 v.2.2.2.2.2.2.2.1 v.2.2.2.2.2.2.2.2)
def F_truth_Pos (x0 : SVenue) (x1 : Int) (x2 : Int) : Option (Int × Int) := obind (F_truth_may x0 x1 x2) fun y0 ↦ cnd (bnot y0) (some (0, 1)) (obind (iterN (fun v ↦ L_truth_Pos_122 (len x0.orders) x0.orders x1 x2 v.fst v.snd.fst v.snd.snd.fst v.snd.snd.snd.fst v.snd.snd.snd.snd.fst v.snd.snd.snd.snd.snd.fst v.snd.snd.snd.snd.snd.snd) LF (0, [], [], 0, 0, 0, 0)) fun y1 ↦ obind (iterN (fun v ↦ L_truth_Pos_26_truth_sums_pos_c98 v.fst v.snd.fst v.snd.snd.fst v.snd.snd.snd.fst v.snd.snd.snd.snd.fst v.snd.snd.snd.snd.snd.fst v.snd.snd.snd.snd.snd.snd.fst v.snd.snd.snd.snd.snd.snd.snd.fst v.snd.snd.snd.snd.snd.snd.snd.snd) LF (0, 0, 0, y1)) fun y2 ↦ cnd (bnot (ieq y2.snd.snd.snd.snd.snd.snd 0)) (some (0, 3)) (some (y2.fst, 0)))
noncomputable def C_truth_Pos : Cx := { P := PG, ety := ety, fn := look [(23, spec_truth_may), (29, spec_num_Add), (30, spec_num_Sub)], inl := memN [24, 25], lp := lookLp [(9, 122, Ls_truth_Pos_122), (38655107097, 26, Ls_truth_Pos_26_truth_sums_pos_c98)] }
theorem L_truth_Pos_122_eq (p0 : Int) (p1 : (List SOrder)) (p2 : Int) (p3 : Int) (v0 : Int) (v1 : (List Int)) (v2 : (List Int)) (v3 : Int) (v4 : Int) (v5 : Int) (v6 : Int) : runLp C_truth_Pos 900 9 122 (lpBody PG 9 122) S_truth_Pos_122 O_truth_Pos_122 (p0, p1, p2, p3) (v0, v1, v2, v3, v4, v5, v6) = L_truth_Pos_122 p0 p1 p2 p3 v0 v1 v2 v3 v4 v5 v6 := by kernel_rfl
theorem L_truth_Pos_26_truth_sums_pos_c98_eq (v0 : Int) (v1 : Int) (v2 : Int) (v3 : (List Int)) (v4 : (List Int)) (v5 : Int) (v6 : Int) (v7 : Int) (v8 : Int) : runLp C_truth_Pos 900 38655107097 26 (lpBody PG 25 26) S_truth_Pos_26_truth_sums_pos_c98 O_truth_Pos_26_truth_sums_pos_c98 () (v0, v1, v2, v3, v4, v5, v6, v7, v8) = L_truth_Pos_26_truth_sums_pos_c98 v0 v1 v2 v3 v4 v5 v6 v7 v8 := by kernel_rfl
theorem F_truth_Pos_eq (x0 : SVenue) (x1 : Int) (x2 : Int) : runFn C_truth_Pos 9 [.val .venue, .int .i64, .int .i64] [.int .i64, .int .i64] (x0, x1, x2) = F_truth_Pos x0 x1 x2 := by kernel_rfl
def spec_truth_Pos : FnSpec := mkSpec [.val .venue, .int .i64, .int .i64] [.int .i64, .int .i64] true (fun x => F_truth_Pos x.1 x.2.1 x.2.2)
theorem ok_truth_Pos : FnOk PG 9 spec_truth_Pos :=
  have K : CxR C_truth_Pos := seatOk.cx (fun _ => rfl) (l := [(23, spec_truth_may), (29, spec_num_Add), (30, spec_num_Sub)]) ⟨ok_truth_may, ok_num_Add, ok_num_Sub, trivial⟩
  fn_entry K (lps_from (l := [(9, 122, Ls_truth_Pos_122), (38655107097, 26, Ls_truth_Pos_26_truth_sums_pos_c98)]) rfl ⟨lp_entry (n := 900) (f := 9) K (by kernel_rfl) (by kernel_rfl) (by kernel_rfl) (by kernel_rfl) (by kernel_rfl) (fun p v r h => (L_truth_Pos_122_eq p.1 p.2.1 p.2.2.1 p.2.2.2 v.1 v.2.1 v.2.2.1 v.2.2.2.1 v.2.2.2.2.1 v.2.2.2.2.2.1 v.2.2.2.2.2.2).trans h),
    lp_entry (n := 900) (f := 25) K (by kernel_rfl) (by kernel_rfl) (by kernel_rfl) (by kernel_rfl) (by kernel_rfl) (fun p v r h => (L_truth_Pos_26_truth_sums_pos_c98_eq v.1 v.2.1 v.2.2.1 v.2.2.2.1 v.2.2.2.2.1 v.2.2.2.2.2.1 v.2.2.2.2.2.2.1 v.2.2.2.2.2.2.2.1 v.2.2.2.2.2.2.2.2).trans h), trivial⟩) (by kernel_rfl) (fun x y h => (F_truth_Pos_eq x.1 x.2.1 x.2.2).trans h) rfl rfl

def F_math_bits_Mul32 (x0 : Int) (x1 : Int) : Option (Int × Int) := some (wr IntKind.u32 (ishr IntKind.u64 (wr IntKind.u64 (imul (wr IntKind.u64 x0) (wr IntKind.u64 x1))) 32), wr IntKind.u32 (wr IntKind.u64 (imul (wr IntKind.u64 x0) (wr IntKind.u64 x1))))
noncomputable def C_math_bits_Mul32 : Cx := { P := PG, ety := ety, fn := look [], inl := memN [], lp := lookLp [] }
theorem F_math_bits_Mul32_eq (x0 : Int) (x1 : Int) : runFn C_math_bits_Mul32 126 [.int .u32, .int .u32] [.int .u32, .int .u32] (x0, x1) = F_math_bits_Mul32 x0 x1 := by kernel_rfl
def spec_math_bits_Mul32 : FnSpec := mkSpec [.int .u32, .int .u32] [.int .u32, .int .u32] true (fun x => F_math_bits_Mul32 x.1 x.2)
theorem ok_math_bits_Mul32 : FnOk PG 126 spec_math_bits_Mul32 :=
  have K : CxR C_math_bits_Mul32 := seatOk.cx (fun _ => rfl) (l := []) trivial
  fn_entry K (lps_from (l := []) rfl trivial) (by kernel_rfl) (fun x y h => (F_math_bits_Mul32_eq x.1 x.2).trans h) rfl rfl

def F_math_bits_Mul (x0 : Int) (x1 : Int) : Option (Int × Int) := obind (F_math_bits_Mul64 x0 x1) fun y0 ↦ some y0
noncomputable def C_math_bits_Mul : Cx := { P := PG, ety := ety, fn := look [(126, spec_math_bits_Mul32), (127, spec_math_bits_Mul64)], inl := memN [], lp := lookLp [] }
theorem F_math_bits_Mul_eq (x0 : Int) (x1 : Int) : runFn C_math_bits_Mul 88 [.int .u64, .int .u64] [.int .u64, .int .u64] (x0, x1) = F_math_bits_Mul x0 x1 := by kernel_rfl
def spec_math_bits_Mul : FnSpec := mkSpec [.int .u64, .int .u64] [.int .u64, .int .u64] true (fun x => F_math_bits_Mul x.1 x.2)
theorem ok_math_bits_Mul : FnOk PG 88 spec_math_bits_Mul :=
  have K : CxR C_math_bits_Mul := seatOk.cx (fun _ => rfl) (l := [(126, spec_math_bits_Mul32), (127, spec_math_bits_Mul64)]) ⟨ok_math_bits_Mul32, ok_math_bits_Mul64, trivial⟩
  fn_entry K (lps_from (l := []) rfl trivial) (by kernel_rfl) (fun x y h => (F_math_bits_Mul_eq x.1 x.2).trans h) rfl rfl

def S_slices_Repeat_api_Expo_508 : LSh := ⟨94, [], [(7, .mf 192)], [], [(8, .int .i64)], [], [(192, .expo)]⟩
@[reducible] def O_slices_Repeat_api_Expo_508 : List LOut := [⟨.exit 0, [], [], [(192, .expo)]⟩]
def L_slices_Repeat_api_Expo_508 (v0 : Int) (v1 : (List SExpo)) : Option ((Int × (List SExpo)) ⊕ (((List SExpo)))) := cnd (ilt v0 (len v1)) (cnd (band (ile 0 v0) (ile v0 (len v1))) (cnd (band (ile 0 v0) (ile v0 (len v1))) (some (Sum.inl (wr IntKind.i64 (iadd v0 (imin (len (ltake (ldrop v1 0) (itn v0))) (nti (itn (isub (len v1) v0))))), lcpy v1 (itn v0) (ltake (ltake (ldrop v1 0) (itn v0)) (itn (imin (len (ltake (ldrop v1 0) (itn v0))) (nti (itn (isub (len v1) v0))))))))) none) none) (some (Sum.inr v1))
def Ls_slices_Repeat_api_Expo_508 : LSpec := S_slices_Repeat_api_Expo_508.spec O_slices_Repeat_api_Expo_508 [34, 35, 36, 37, 38, 39, 40, 41, 42, 43, 44, 45, 46, 8] (fun p v => L_slices_Repeat_api_Expo_508 v.1 v.2)
def F_slices_Repeat_api_Expo (x0 : (List SExpo)) (x1 : Int) : Option ((List SExpo)) := cnd (ilt x1 0) none (obind (F_math_bits_Mul (wr IntKind.u64 (len x0)) (wr IntKind.u64 x1)) fun y0 ↦ cnd (bor (ilt 0 y0.fst) (ilt 9223372036854775807 y0.snd)) none (cnd (band (band (ile 0 (wr IntKind.i64 y0.snd)) (ile (wr IntKind.i64 y0.snd) (wr IntKind.i64 y0.snd))) (ile (wr IntKind.i64 y0.snd) 68719476736)) (obind (iterN (fun v ↦ L_slices_Repeat_api_Expo_508 v.fst v.snd) LF (imin (len x0) (len (lrep SExpo (itn (wr IntKind.i64 y0.snd)))), lcpy (lrep SExpo (itn (wr IntKind.i64 y0.snd))) 0 (ltake x0 (itn (imin (len x0) (len (lrep SExpo (itn (wr IntKind.i64 y0.snd))))))))) fun y1 ↦ some y1) none))
noncomputable def C_slices_Repeat_api_Expo : Cx := { P := PG, ety := ety, fn := look [(88, spec_math_bits_Mul)], inl := memN [], lp := lookLp [(59, 508, Ls_slices_Repeat_api_Expo_508)] }
theorem L_slices_Repeat_api_Expo_508_eq (v0 : Int) (v1 : (List SExpo)) : runLp C_slices_Repeat_api_Expo 900 59 508 (lpBody PG 59 508) S_slices_Repeat_api_Expo_508 O_slices_Repeat_api_Expo_508 () (v0, v1) = L_slices_Repeat_api_Expo_508 v0 v1 := by kernel_rfl
theorem F_slices_Repeat_api_Expo_eq (x0 : (List SExpo)) (x1 : Int) : runFn C_slices_Repeat_api_Expo 59 [.ro .expo, .int .i64] [.buf .expo] (x0, x1) = F_slices_Repeat_api_Expo x0 x1 := by kernel_rfl
def spec_slices_Repeat_api_Expo : FnSpec := mkSpec [.ro .expo, .int .i64] [.buf .expo] true (fun x => F_slices_Repeat_api_Expo x.1 x.2)
theorem ok_slices_Repeat_api_Expo : FnOk PG 59 spec_slices_Repeat_api_Expo :=
  have K : CxR C_slices_Repeat_api_Expo := seatOk.cx (fun _ => rfl) (l := [(88, spec_math_bits_Mul)]) ⟨ok_math_bits_Mul, trivial⟩
  fn_entry K (lps_from (l := [(59, 508, Ls_slices_Repeat_api_Expo_508)]) rfl ⟨lp_entry (n := 900) (f := 59) K (by kernel_rfl) (by kernel_rfl) (by kernel_rfl) (by kernel_rfl) (by kernel_rfl) (fun p v r h => (L_slices_Repeat_api_Expo_508_eq v.1 v.2).trans h), trivial⟩) (by kernel_rfl) (fun x y h => (F_slices_Repeat_api_Expo_eq x.1 x.2).trans h) rfl rfl

def S_slices_Repeat_int64_508 : LSh := ⟨94, [], [(7, .mf 192)], [], [(8, .int .i64)], [], [(192, .i64)]⟩
@[reducible] def O_slices_Repeat_int64_508 : List LOut := [⟨.exit 0, [], [], [(192, .i64)]⟩]
def L_slices_Repeat_int64_508 (v0 : Int) (v1 : (List Int)) : Option ((Int × (List Int)) ⊕ (((List Int)))) := cnd (ilt v0 (len v1)) (cnd (band (ile 0 v0) (ile v0 (len v1))) (cnd (band (ile 0 v0) (ile v0 (len v1))) (some (Sum.inl (wr IntKind.i64 (iadd v0 (imin (len (ltake (ldrop v1 0) (itn v0))) (nti (itn (isub (len v1) v0))))), lcpy v1 (itn v0) (ltake (ltake (ldrop v1 0) (itn v0)) (itn (imin (len (ltake (ldrop v1 0) (itn v0))) (nti (itn (isub (len v1) v0))))))))) none) none) (some (Sum.inr v1))
def Ls_slices_Repeat_int64_508 : LSpec := S_slices_Repeat_int64_508.spec O_slices_Repeat_int64_508 [34, 35, 36, 37, 38, 39, 40, 41, 42, 43, 44, 45, 46, 8] (fun p v => L_slices_Repeat_int64_508 v.1 v.2)
def F_slices_Repeat_int64 (x0 : (List Int)) (x1 : Int) : Option ((List Int)) := cnd (ilt x1 0) none (obind (F_math_bits_Mul (wr IntKind.u64 (len x0)) (wr IntKind.u64 x1)) fun y0 ↦ cnd (bor (ilt 0 y0.fst) (ilt 9223372036854775807 y0.snd)) none (cnd (band (band (ile 0 (wr IntKind.i64 y0.snd)) (ile (wr IntKind.i64 y0.snd) (wr IntKind.i64 y0.snd))) (ile (wr IntKind.i64 y0.snd) 68719476736)) (obind (iterN (fun v ↦ L_slices_Repeat_int64_508 v.fst v.snd) LF (imin (len x0) (len (lrep Int (itn (wr IntKind.i64 y0.snd)))), lcpy (lrep Int (itn (wr IntKind.i64 y0.snd))) 0 (ltake x0 (itn (imin (len x0) (len (lrep Int (itn (wr IntKind.i64 y0.snd))))))))) fun y1 ↦ some y1) none))
noncomputable def C_slices_Repeat_int64 : Cx := { P := PG, ety := ety, fn := look [(88, spec_math_bits_Mul)], inl := memN [], lp := lookLp [(60, 508, Ls_slices_Repeat_int64_508)] }
theorem L_slices_Repeat_int64_508_eq (v0 : Int) (v1 : (List Int)) : runLp C_slices_Repeat_int64 900 60 508 (lpBody PG 60 508) S_slices_Repeat_int64_508 O_slices_Repeat_int64_508 () (v0, v1) = L_slices_Repeat_int64_508 v0 v1 := by kernel_rfl
theorem F_slices_Repeat_int64_eq (x0 : (List Int)) (x1 : Int) : runFn C_slices_Repeat_int64 60 [.ro .i64, .int .i64] [.buf .i64] (x0, x1) = F_slices_Repeat_int64 x0 x1 := by kernel_rfl
def spec_slices_Repeat_int64 : FnSpec := mkSpec [.ro .i64, .int .i64] [.buf .i64] true (fun x => F_slices_Repeat_int64 x.1 x.2)
theorem ok_slices_Repeat_int64 : FnOk PG 60 spec_slices_Repeat_int64 :=
  have K : CxR C_slices_Repeat_int64 := seatOk.cx (fun _ => rfl) (l := [(88, spec_math_bits_Mul)]) ⟨ok_math_bits_Mul, trivial⟩
  fn_entry K (lps_from (l := [(60, 508, Ls_slices_Repeat_int64_508)]) rfl ⟨lp_entry (n := 900) (f := 60) K (by kernel_rfl) (by kernel_rfl) (by kernel_rfl) (by kernel_rfl) (by kernel_rfl) (fun p v r h => (L_slices_Repeat_int64_508_eq v.1 v.2).trans h), trivial⟩) (by kernel_rfl) (fun x y h => (F_slices_Repeat_int64_eq x.1 x.2).trans h) rfl rfl

def F_book_ledger_sized (x0 : SState) : Option (Bool) := some (band (band (band (band (band (band (band (ile 1 x0.accounts) (ile x0.accounts 8)) (ile 1 x0.symbols)) (ile x0.symbols 8)) (ieq (len x0.cells) (wr IntKind.i64 (imul x0.accounts x0.symbols)))) (ieq (len x0.limits) (len x0.cells))) (ieq (len x0.caps) x0.accounts)) (ile (len x0.orders) 64))
noncomputable def C_book_ledger_sized : Cx := { P := PG, ety := ety, fn := look [], inl := memN [], lp := lookLp [] }
theorem F_book_ledger_sized_eq (x0 : SState) : runFn C_book_ledger_sized 110 [.val .state] [.bool] x0 = F_book_ledger_sized x0 := by kernel_rfl
def spec_book_ledger_sized : FnSpec := mkSpec [.val .state] [.bool] true (fun x => F_book_ledger_sized x)
theorem ok_book_ledger_sized : FnOk PG 110 spec_book_ledger_sized :=
  have K : CxR C_book_ledger_sized := seatOk.cx (fun _ => rfl) (l := []) trivial
  fn_entry K (lps_from (l := []) rfl trivial) (by kernel_rfl) (fun x y h => (F_book_ledger_sized_eq x).trans h) rfl rfl

def F_limit_Right (x0 : SExpo) : Option (Bool) := some (ile 0 (imin (imin x0.long x0.short) x0.opn))
noncomputable def C_limit_Right : Cx := { P := PG, ety := ety, fn := look [], inl := memN [], lp := lookLp [] }
theorem F_limit_Right_eq (x0 : SExpo) : runFn C_limit_Right 137 [.val .expo] [.bool] x0 = F_limit_Right x0 := by kernel_rfl
def spec_limit_Right : FnSpec := mkSpec [.val .expo] [.bool] true (fun x => F_limit_Right x)
theorem ok_limit_Right : FnOk PG 137 spec_limit_Right :=
  have K : CxR C_limit_Right := seatOk.cx (fun _ => rfl) (l := []) trivial
  fn_entry K (lps_from (l := []) rfl trivial) (by kernel_rfl) (fun x y h => (F_limit_Right_eq x).trans h) rfl rfl

def S_slices_Min_int64_122 : LSh := ⟨74, [(0, .ro .i64)], [], [], [(4, .int .i64), (3, .int .i64)], [], []⟩
@[reducible] def O_slices_Min_int64_122 : List LOut := [⟨.exit 0, [(3, .int .i64)], [], []⟩]
def L_slices_Min_int64_122 (p0 : (List Int)) (v0 : Int) (v1 : Int) : Option ((Int × Int) ⊕ ((Int))) := cnd (ilt v0 (len p0)) (cnd (band (ile 0 v0) (ilt v0 (len p0))) (some (Sum.inl (wr IntKind.i64 (iadd v0 1), imin v1 (lget p0 (itn v0))))) none) (some (Sum.inr v1))
def Ls_slices_Min_int64_122 : LSpec := S_slices_Min_int64_122.spec O_slices_Min_int64_122 [12, 13, 14, 15, 18, 19, 20, 21, 22, 23, 3, 16, 17, 4] (fun p v => L_slices_Min_int64_122 p v.1 v.2)
def F_slices_Min_int64 (x0 : (List Int)) : Option (Int) := cnd (ilt (len x0) 1) none (cnd (ilt 0 (len x0)) (obind (iterN (fun v ↦ L_slices_Min_int64_122 x0 v.fst v.snd) LF (1, lget x0 0)) fun y0 ↦ some y0) none)
noncomputable def C_slices_Min_int64 : Cx := { P := PG, ety := ety, fn := look [], inl := memN [], lp := lookLp [(139, 122, Ls_slices_Min_int64_122)] }
theorem L_slices_Min_int64_122_eq (p0 : (List Int)) (v0 : Int) (v1 : Int) : runLp C_slices_Min_int64 900 139 122 (lpBody PG 139 122) S_slices_Min_int64_122 O_slices_Min_int64_122 p0 (v0, v1) = L_slices_Min_int64_122 p0 v0 v1 := by kernel_rfl
theorem F_slices_Min_int64_eq (x0 : (List Int)) : runFn C_slices_Min_int64 139 [.ro .i64] [.int .i64] x0 = F_slices_Min_int64 x0 := by kernel_rfl
def spec_slices_Min_int64 : FnSpec := mkSpec [.ro .i64] [.int .i64] true (fun x => F_slices_Min_int64 x)
theorem ok_slices_Min_int64 : FnOk PG 139 spec_slices_Min_int64 :=
  have K : CxR C_slices_Min_int64 := seatOk.cx (fun _ => rfl) (l := []) trivial
  fn_entry K (lps_from (l := [(139, 122, Ls_slices_Min_int64_122)]) rfl ⟨lp_entry (n := 900) (f := 139) K (by kernel_rfl) (by kernel_rfl) (by kernel_rfl) (by kernel_rfl) (by kernel_rfl) (fun p v r h => (L_slices_Min_int64_122_eq p v.1 v.2).trans h), trivial⟩) (by kernel_rfl) (fun x y h => (F_slices_Min_int64_eq x).trans h) rfl rfl

def S_book_ledger_fine_58 : LSh := ⟨73, [(10, .int .i64), (9, .ro .order)], [(1, .mp 8 0)], [(8, [.val .state])], [(11, .int .i64), (3, .int .i64), (2, .bool)], [], []⟩
@[reducible] def O_book_ledger_fine_58 : List LOut := [⟨.ret, [(2, .bool)], [], []⟩, ⟨.exit 0, [(3, .int .i64), (2, .bool)], [], []⟩]
def L_book_ledger_fine_58 (p0 : Int) (p1 : (List SOrder)) (p2 : SState) (v0 : Int) (v1 : Int) (v2 : Bool) : Option ((Int × Int × Bool) ⊕ ((Bool) ⊕ ((Int × Bool)))) := cnd (ilt v0 p0) (cnd (band (ile 0 v0) (ilt v0 (len p1))) (obind (F_order_Right (lget p1 (itn v0))) fun y0 ↦ cnd (bor (bor (bor (bor (bnot y0) (ieq (lget p1 (itn v0)).phase 3)) (ile p2.accounts (lget p1 (itn v0)).account)) (ile p2.symbols (lget p1 (itn v0)).symbol)) (ile (lget p1 (itn v0)).id v1)) (some (Sum.inr (Sum.inl false))) (some (Sum.inl (wr IntKind.i64 (iadd v0 1), (lget p1 (itn v0)).id, v2)))) none) (some (Sum.inr (Sum.inr (v1, v2))))
def Ls_book_ledger_fine_58 : LSpec := S_book_ledger_fine_58.spec O_book_ledger_fine_58 [12, 13, 14, 5, 15, 16, 17, 18, 19, 20, 21, 22, 23, 24, 25, 26, 27, 28, 29, 30, 31, 32, 33, 34, 35, 36, 37, 38, 39, 40, 41, 42, 43, 44, 2, 45, 46, 3, 47, 11] (fun p v => L_book_ledger_fine_58 p.1 p.2.1 p.2.2 v.1 v.2.1 v.2.2)
def S_book_ledger_fine_26_slices_IndexFunc_api_Expo_c136_c142 : LSh := ⟨210, [(7, .int .i64), (0, .ro .expo)], [(1, .fn 136 [])], [], [(8, .int .i64), (4, .int .i64)], [], []⟩
@[reducible] def O_book_ledger_fine_26_slices_IndexFunc_api_Expo_c136_c142 : List LOut := [⟨.ret, [(4, .int .i64)], [], []⟩, ⟨.exit 0, [(4, .int .i64)], [], []⟩]
def L_book_ledger_fine_26_slices_IndexFunc_api_Expo_c136_c142 (p0 : Int) (p1 : (List SExpo)) (v0 : Int) (v1 : Int) : Option ((Int × Int) ⊕ ((Int) ⊕ ((Int)))) := cnd (ilt v0 p0) (cnd (band (ile 0 v0) (ilt v0 (len p1))) (obind (F_limit_Right (lget p1 (itn v0))) fun y0 ↦ cnd (bnot y0) (some (Sum.inr (Sum.inl v0))) (some (Sum.inl (wr IntKind.i64 (iadd v0 1), v1)))) none) (some (Sum.inr (Sum.inr v1)))
def Ls_book_ledger_fine_26_slices_IndexFunc_api_Expo_c136_c142 : LSpec := S_book_ledger_fine_26_slices_IndexFunc_api_Expo_c136_c142.spec O_book_ledger_fine_26_slices_IndexFunc_api_Expo_c136_c142 [9, 10, 5, 11, 12, 13, 14, 15, 16, 17, 4, 18, 8] (fun p v => L_book_ledger_fine_26_slices_IndexFunc_api_Expo_c136_c142 p.1 p.2 v.1 v.2)
def F_book_ledger_fine (x0 : SState) : Option (Bool) := obind (iterN (fun v ↦ L_book_ledger_fine_58 (len x0.orders) x0.orders x0 v.fst v.snd.fst v.snd.snd) LF (0, 0, false)) fun y0 ↦ sumK y0 (fun y1 ↦ some y1) fun y1 ↦ cnd (band (band (band (band (band (ile y1.fst x0.last) (ile x0.last 1000000000000)) (ile 0 x0.seq)) (ile x0.seq 1000000000)) (ile 0 x0.lsn)) (ile x0.lsn 1000000000)) (obind (iterN (fun v ↦ L_book_ledger_fine_26_slices_IndexFunc_api_Expo_c136_c142 (len x0.limits) x0.limits v.fst v.snd) LF (0, 0)) fun y2 ↦ sumK y2 (fun y3 ↦ obind (cnd (band (band (band (band (band (band (ile y1.fst x0.last) (ile x0.last 1000000000000)) (ile 0 x0.seq)) (ile x0.seq 1000000000)) (ile 0 x0.lsn)) (ile x0.lsn 1000000000)) (bnot (ile 0 y3))) (F_slices_Min_int64 x0.caps) (some 0)) fun y4 ↦ some (band (band (band (band (band (band (band (band (ile y1.fst x0.last) (ile x0.last 1000000000000)) (ile 0 x0.seq)) (ile x0.seq 1000000000)) (ile 0 x0.lsn)) (ile x0.lsn 1000000000)) (bnot (ile 0 y3))) (ile 0 y4)) (ile 0 x0.last))) fun y3 ↦ obind (cnd (bor (band (band (band (band (band (ile y1.fst x0.last) (ile x0.last 1000000000000)) (ile 0 x0.seq)) (ile x0.seq 1000000000)) (ile 0 x0.lsn)) (ile x0.lsn 1000000000)) false) (F_slices_Min_int64 x0.caps) (some 0)) fun y5 ↦ some (band (band (bor (band (band (band (band (band (ile y1.fst x0.last) (ile x0.last 1000000000000)) (ile 0 x0.seq)) (ile x0.seq 1000000000)) (ile 0 x0.lsn)) (ile x0.lsn 1000000000)) false) (ile 0 y5)) (ile 0 x0.last))) (obind (cnd (bor (band (band (band (band (band (ile y1.fst x0.last) (ile x0.last 1000000000000)) (ile 0 x0.seq)) (ile x0.seq 1000000000)) (ile 0 x0.lsn)) (ile x0.lsn 1000000000)) false) (F_slices_Min_int64 x0.caps) (some 0)) fun y6 ↦ some (band (band (bor (band (band (band (band (band (ile y1.fst x0.last) (ile x0.last 1000000000000)) (ile 0 x0.seq)) (ile x0.seq 1000000000)) (ile 0 x0.lsn)) (ile x0.lsn 1000000000)) false) (ile 0 y6)) (ile 0 x0.last)))
noncomputable def C_book_ledger_fine : Cx := { P := PG, ety := ety, fn := look [(116, spec_order_Right), (137, spec_limit_Right), (139, spec_slices_Min_int64)], inl := memN [136, 138, 148], lp := lookLp [(111, 58, Ls_book_ledger_fine_58), (2047590985311768338580, 26, Ls_book_ledger_fine_26_slices_IndexFunc_api_Expo_c136_c142)] }
theorem L_book_ledger_fine_58_eq (p0 : Int) (p1 : (List SOrder)) (p2 : SState) (v0 : Int) (v1 : Int) (v2 : Bool) : runLp C_book_ledger_fine 900 111 58 (lpBody PG 111 58) S_book_ledger_fine_58 O_book_ledger_fine_58 (p0, p1, p2) (v0, v1, v2) = L_book_ledger_fine_58 p0 p1 p2 v0 v1 v2 := by kernel_rfl
theorem L_book_ledger_fine_26_slices_IndexFunc_api_Expo_c136_c142_eq (p0 : Int) (p1 : (List SExpo)) (v0 : Int) (v1 : Int) : runLp C_book_ledger_fine 900 2047590985311768338580 26 (lpBody PG 148 26) S_book_ledger_fine_26_slices_IndexFunc_api_Expo_c136_c142 O_book_ledger_fine_26_slices_IndexFunc_api_Expo_c136_c142 (p0, p1) (v0, v1) = L_book_ledger_fine_26_slices_IndexFunc_api_Expo_c136_c142 p0 p1 v0 v1 := by kernel_rfl
theorem F_book_ledger_fine_eq (x0 : SState) : runFn C_book_ledger_fine 111 [.val .state] [.bool] x0 = F_book_ledger_fine x0 := by kernel_rfl
def spec_book_ledger_fine : FnSpec := mkSpec [.val .state] [.bool] true (fun x => F_book_ledger_fine x)
theorem ok_book_ledger_fine : FnOk PG 111 spec_book_ledger_fine :=
  have K : CxR C_book_ledger_fine := seatOk.cx (fun _ => rfl) (l := [(116, spec_order_Right), (137, spec_limit_Right), (139, spec_slices_Min_int64)]) ⟨ok_order_Right, ok_limit_Right, ok_slices_Min_int64, trivial⟩
  fn_entry K (lps_from (l := [(111, 58, Ls_book_ledger_fine_58), (2047590985311768338580, 26, Ls_book_ledger_fine_26_slices_IndexFunc_api_Expo_c136_c142)]) rfl ⟨lp_entry (n := 900) (f := 111) K (by kernel_rfl) (by kernel_rfl) (by kernel_rfl) (by kernel_rfl) (by kernel_rfl) (fun p v r h => (L_book_ledger_fine_58_eq p.1 p.2.1 p.2.2 v.1 v.2.1 v.2.2).trans h),
    lp_entry (n := 900) (f := 148) K (by kernel_rfl) (by kernel_rfl) (by kernel_rfl) (by kernel_rfl) (by kernel_rfl) (fun p v r h => (L_book_ledger_fine_26_slices_IndexFunc_api_Expo_c136_c142_eq p.1 p.2 v.1 v.2).trans h), trivial⟩) (by kernel_rfl) (fun x y h => (F_book_ledger_fine_eq x).trans h) rfl rfl

def F_book_ledger_cellOf (x0 : SState) (x1 : Int) (x2 : Int) : Option (Int) := some (wr IntKind.i64 (iadd (wr IntKind.i64 (imul x1 x0.symbols)) x2))
noncomputable def C_book_ledger_cellOf : Cx := { P := PG, ety := ety, fn := look [], inl := memN [], lp := lookLp [] }
theorem F_book_ledger_cellOf_eq (x0 : SState) (x1 : Int) (x2 : Int) : runFn C_book_ledger_cellOf 75 [.val .state, .int .i64, .int .i64] [.int .i64] (x0, x1, x2) = F_book_ledger_cellOf x0 x1 x2 := by kernel_rfl
def spec_book_ledger_cellOf : FnSpec := mkSpec [.val .state, .int .i64, .int .i64] [.int .i64] true (fun x => F_book_ledger_cellOf x.1 x.2.1 x.2.2)
theorem ok_book_ledger_cellOf : FnOk PG 75 spec_book_ledger_cellOf :=
  have K : CxR C_book_ledger_cellOf := seatOk.cx (fun _ => rfl) (l := []) trivial
  fn_entry K (lps_from (l := []) rfl trivial) (by kernel_rfl) (fun x y h => (F_book_ledger_cellOf_eq x.1 x.2.1 x.2.2).trans h) rfl rfl

def F_cell_expo (x0 : SCell) : Option (SExpo × Bool) := obind (F_num_Add x0.pos x0.buy) fun y0 ↦ obind (F_num_Sub x0.sell x0.pos) fun y1 ↦ some (SExpo.mk y0.fst y1.fst x0.opn, band (ieq y0.snd 0) (ieq y1.snd 0))
noncomputable def C_cell_expo : Cx := { P := PG, ety := ety, fn := look [(29, spec_num_Add), (30, spec_num_Sub)], inl := memN [], lp := lookLp [] }
theorem F_cell_expo_eq (x0 : SCell) : runFn C_cell_expo 118 [.val .cell] [.val .expo, .bool] x0 = F_cell_expo x0 := by kernel_rfl
def spec_cell_expo : FnSpec := mkSpec [.val .cell] [.val .expo, .bool] true (fun x => F_cell_expo x)
theorem ok_cell_expo : FnOk PG 118 spec_cell_expo :=
  have K : CxR C_cell_expo := seatOk.cx (fun _ => rfl) (l := [(29, spec_num_Add), (30, spec_num_Sub)]) ⟨ok_num_Add, ok_num_Sub, trivial⟩
  fn_entry K (lps_from (l := []) rfl trivial) (by kernel_rfl) (fun x y h => (F_cell_expo_eq x).trans h) rfl rfl

def F_cell_Right (x0 : SCell) : Option (Bool) := obind (F_cell_expo x0) fun y0 ↦ some (band y0.snd (ile 0 (imin (imin x0.buy x0.sell) x0.opn)))
noncomputable def C_cell_Right : Cx := { P := PG, ety := ety, fn := look [(118, spec_cell_expo)], inl := memN [], lp := lookLp [] }
theorem F_cell_Right_eq (x0 : SCell) : runFn C_cell_Right 113 [.val .cell] [.bool] x0 = F_cell_Right x0 := by kernel_rfl
def spec_cell_Right : FnSpec := mkSpec [.val .cell] [.bool] true (fun x => F_cell_Right x)
theorem ok_cell_Right : FnOk PG 113 spec_cell_Right :=
  have K : CxR C_cell_Right := seatOk.cx (fun _ => rfl) (l := [(118, spec_cell_expo)]) ⟨ok_cell_expo, trivial⟩
  fn_entry K (lps_from (l := []) rfl trivial) (by kernel_rfl) (fun x y h => (F_cell_Right_eq x).trans h) rfl rfl

def F_cell_Come (x0 : SCell) (x1 : SOrder) : Option (SCell × Int) := obind (F_cell_Right x0) fun y0 ↦ obind (cnd (bnot (bnot y0)) (F_order_Right x1) (some false)) fun y1 ↦ cnd (bor (bnot y0) (bnot y1)) (some (x0, 1)) (obind (F_order_Worth x1) fun y2 ↦ cnd (ieq x1.side 2) (obind (F_order_Open x1) fun y3 ↦ obind (F_num_Add x0.sell y3) fun y4 ↦ obind (F_num_Add x0.opn y2.fst) fun y5 ↦ obind (cnd (bnot (bor (bor (bnot (ieq y2.snd 0)) (bnot (ieq y4.snd 0))) (bnot (ieq y5.snd 0)))) (F_cell_Right (SCell.mk x0.pos x0.buy y4.fst y5.fst)) (some false)) fun y6 ↦ cnd (bor (bor (bor (bnot (ieq y2.snd 0)) (bnot (ieq y4.snd 0))) (bnot (ieq y5.snd 0))) (bnot y6)) (some (x0, 3)) (some (SCell.mk x0.pos x0.buy y4.fst y5.fst, 0))) (obind (F_order_Open x1) fun y7 ↦ obind (F_num_Add x0.buy y7) fun y8 ↦ obind (F_num_Add x0.opn y2.fst) fun y9 ↦ obind (cnd (bnot (bor (bor (bnot (ieq y2.snd 0)) (bnot (ieq y8.snd 0))) (bnot (ieq y9.snd 0)))) (F_cell_Right (SCell.mk x0.pos y8.fst x0.sell y9.fst)) (some false)) fun y10 ↦ cnd (bor (bor (bor (bnot (ieq y2.snd 0)) (bnot (ieq y8.snd 0))) (bnot (ieq y9.snd 0))) (bnot y10)) (some (x0, 3)) (some (SCell.mk x0.pos y8.fst x0.sell y9.fst, 0))))
noncomputable def C_cell_Come : Cx := { P := PG, ety := ety, fn := look [(113, spec_cell_Right), (116, spec_order_Right), (108, spec_order_Worth), (107, spec_order_Open), (29, spec_num_Add)], inl := memN [128], lp := lookLp [] }
theorem F_cell_Come_eq (x0 : SCell) (x1 : SOrder) : runFn C_cell_Come 98 [.val .cell, .val .order] [.val .cell, .int .i64] (x0, x1) = F_cell_Come x0 x1 := by kernel_rfl
def spec_cell_Come : FnSpec := mkSpec [.val .cell, .val .order] [.val .cell, .int .i64] true (fun x => F_cell_Come x.1 x.2)
theorem ok_cell_Come : FnOk PG 98 spec_cell_Come :=
  have K : CxR C_cell_Come := seatOk.cx (fun _ => rfl) (l := [(113, spec_cell_Right), (116, spec_order_Right), (108, spec_order_Worth), (107, spec_order_Open), (29, spec_num_Add)]) ⟨ok_cell_Right, ok_order_Right, ok_order_Worth, ok_order_Open, ok_num_Add, trivial⟩
  fn_entry K (lps_from (l := []) rfl trivial) (by kernel_rfl) (fun x y h => (F_cell_Come_eq x.1 x.2).trans h) rfl rfl

def S_book_ledger_summed_58 : LSh := ⟨79, [(18, .int .i64), (17, .ro .order)], [(4, .mf 64), (1, .mp 8 0)], [(8, [.val .state])], [(19, .int .i64), (3, .bool), (2, .buf .cell)], [], [(64, .cell)]⟩
@[reducible] def O_book_ledger_summed_58 : List LOut := [⟨.ret, [(3, .bool), (2, .buf .cell)], [], [(64, .cell)]⟩, ⟨.exit 0, [(3, .bool), (2, .buf .cell)], [], [(64, .cell)]⟩]
def L_book_ledger_summed_58 (p0 : Int) (p1 : (List SOrder)) (p2 : SState) (v0 : Int) (v1 : Bool) (v2 : (List SCell)) (v3 : (List SCell)) : Option ((Int × Bool × (List SCell) × (List SCell)) ⊕ ((Bool × (List SCell) × (List SCell)) ⊕ ((Bool × (List SCell) × (List SCell))))) := cnd (ilt v0 p0) (cnd (band (ile 0 v0) (ilt v0 (len p1))) (obind (F_book_ledger_cellOf p2 (lget p1 (itn v0)).account (lget p1 (itn v0)).symbol) fun y0 ↦ cnd (band (ile 0 y0) (ilt y0 (len v3))) (obind (F_cell_Come (lget v3 (itn y0)) (lget p1 (itn v0))) fun y1 ↦ cnd (bnot (ieq y1.snd 0)) (some (Sum.inr (Sum.inl (false, [], v3)))) (cnd (band (ile 0 y0) (ilt y0 (len v3))) (some (Sum.inl (wr IntKind.i64 (iadd v0 1), v1, v2, lset v3 (itn y0) y1.fst))) none)) none) none) (some (Sum.inr (Sum.inr (v1, v2, v3))))
def Ls_book_ledger_summed_58 : LSpec := S_book_ledger_summed_58.spec O_book_ledger_summed_58 [20, 21, 22, 6, 23, 24, 25, 26, 27, 28, 7, 30, 31, 32, 33, 34, 35, 29, 36, 37, 8, 9, 38, 39, 2, 3, 40, 41, 42, 43, 44, 19] (fun p v => L_book_ledger_summed_58 p.1 p.2.1 p.2.2 v.1 v.2.1 v.2.2.1 v.2.2.2)
def F_book_ledger_summed (x0 : SState) : Option ((List SCell) × Bool) := cnd (band (band (ile 0 (len x0.cells)) (ile (len x0.cells) (len x0.cells))) (ile (len x0.cells) 68719476736)) (obind (iterN (fun v ↦ L_book_ledger_summed_58 (len x0.orders) x0.orders x0 v.fst v.snd.fst v.snd.snd.fst v.snd.snd.snd) LF (0, false, [], lrep SCell (itn (len x0.cells)))) fun y0 ↦ sumK y0 (fun y1 ↦ some (y1.snd.fst, y1.fst)) fun y1 ↦ some (y1.snd.snd, true)) none
noncomputable def C_book_ledger_summed : Cx := { P := PG, ety := ety, fn := look [(75, spec_book_ledger_cellOf), (98, spec_cell_Come)], inl := memN [], lp := lookLp [(112, 58, Ls_book_ledger_summed_58)] }
theorem L_book_ledger_summed_58_eq (p0 : Int) (p1 : (List SOrder)) (p2 : SState) (v0 : Int) (v1 : Bool) (v2 : (List SCell)) (v3 : (List SCell)) : runLp C_book_ledger_summed 900 112 58 (lpBody PG 112 58) S_book_ledger_summed_58 O_book_ledger_summed_58 (p0, p1, p2) (v0, v1, v2, v3) = L_book_ledger_summed_58 p0 p1 p2 v0 v1 v2 v3 := by kernel_rfl
theorem F_book_ledger_summed_eq (x0 : SState) : runFn C_book_ledger_summed 112 [.val .state] [.buf .cell, .bool] x0 = F_book_ledger_summed x0 := by kernel_rfl
def spec_book_ledger_summed : FnSpec := mkSpec [.val .state] [.buf .cell, .bool] true (fun x => F_book_ledger_summed x)
theorem ok_book_ledger_summed : FnOk PG 112 spec_book_ledger_summed :=
  have K : CxR C_book_ledger_summed := seatOk.cx (fun _ => rfl) (l := [(75, spec_book_ledger_cellOf), (98, spec_cell_Come)]) ⟨ok_book_ledger_cellOf, ok_cell_Come, trivial⟩
  fn_entry K (lps_from (l := [(112, 58, Ls_book_ledger_summed_58)]) rfl ⟨lp_entry (n := 900) (f := 112) K (by kernel_rfl) (by kernel_rfl) (by kernel_rfl) (by kernel_rfl) (by kernel_rfl) (fun p v r h => (L_book_ledger_summed_58_eq p.1 p.2.1 p.2.2 v.1 v.2.1 v.2.2.1 v.2.2.2).trans h), trivial⟩) (by kernel_rfl) (fun x y h => (F_book_ledger_summed_eq x).trans h) rfl rfl

def F_book_ledger_account (x0 : SState) (x1 : Int) : Option ((List SCell)) := cnd (band (band (ile 0 (wr IntKind.i64 (imul x1 x0.symbols))) (ile (wr IntKind.i64 (imul x1 x0.symbols)) (wr IntKind.i64 (imul (wr IntKind.i64 (iadd x1 1)) x0.symbols)))) (ile (wr IntKind.i64 (imul (wr IntKind.i64 (iadd x1 1)) x0.symbols)) (len x0.cells))) (some (ltake (ldrop x0.cells (itn (wr IntKind.i64 (imul x1 x0.symbols)))) (itn (isub (wr IntKind.i64 (imul (wr IntKind.i64 (iadd x1 1)) x0.symbols)) (wr IntKind.i64 (imul x1 x0.symbols)))))) none
noncomputable def C_book_ledger_account : Cx := { P := PG, ety := ety, fn := look [], inl := memN [], lp := lookLp [] }
theorem F_book_ledger_account_eq (x0 : SState) (x1 : Int) : runFn C_book_ledger_account 115 [.val .state, .int .i64] [.ro .cell] (x0, x1) = F_book_ledger_account x0 x1 := by kernel_rfl
def spec_book_ledger_account : FnSpec := mkSpec [.val .state, .int .i64] [.ro .cell] false (fun x => F_book_ledger_account x.1 x.2)
theorem ok_book_ledger_account : FnOk PG 115 spec_book_ledger_account :=
  have K : CxR C_book_ledger_account := seatOk.cx (fun _ => rfl) (l := []) trivial
  fn_entry K (lps_from (l := []) rfl trivial) (by kernel_rfl) (fun x y h => (F_book_ledger_account_eq x.1 x.2).trans h) rfl rfl

def S_num_Total_58 : LSh := ⟨71, [(10, .int .i64), (9, .ro .i64)], [], [], [(11, .int .i64), (4, .int .i64), (3, .int .i64), (2, .int .i64)], [], []⟩
@[reducible] def O_num_Total_58 : List LOut := [⟨.ret, [(3, .int .i64), (2, .int .i64)], [], []⟩, ⟨.exit 0, [(4, .int .i64), (3, .int .i64), (2, .int .i64)], [], []⟩]
def L_num_Total_58 (p0 : Int) (p1 : (List Int)) (v0 : Int) (v1 : Int) (v2 : Int) (v3 : Int) : Option ((Int × Int × Int × Int) ⊕ ((Int × Int) ⊕ ((Int × Int × Int)))) := cnd (ilt v0 p0) (cnd (band (ile 0 v0) (ilt v0 (len p1))) (obind (F_num_Add v1 (lget p1 (itn v0))) fun y0 ↦ cnd (bnot (ieq y0.snd 0)) (some (Sum.inr (Sum.inl (y0.snd, 0)))) (some (Sum.inl (wr IntKind.i64 (iadd v0 1), y0.fst, v2, v3)))) none) (some (Sum.inr (Sum.inr (v1, v2, v3))))
def Ls_num_Total_58 : LSpec := S_num_Total_58.spec O_num_Total_58 [12, 13, 14, 6, 16, 17, 18, 15, 19, 20, 7, 8, 21, 22, 23, 2, 3, 24, 4, 25, 11] (fun p v => L_num_Total_58 p.1 p.2 v.1 v.2.1 v.2.2.1 v.2.2.2)
def F_num_Total (x0 : (List Int)) : Option (Int × Int) := obind (iterN (fun v ↦ L_num_Total_58 (len x0) x0 v.fst v.snd.fst v.snd.snd.fst v.snd.snd.snd) LF (0, 0, 0, 0)) fun y0 ↦ sumK y0 (fun y1 ↦ some (y1.snd, y1.fst)) fun y1 ↦ some (y1.fst, 0)
noncomputable def C_num_Total : Cx := { P := PG, ety := ety, fn := look [(29, spec_num_Add)], inl := memN [], lp := lookLp [(140, 58, Ls_num_Total_58)] }
theorem L_num_Total_58_eq (p0 : Int) (p1 : (List Int)) (v0 : Int) (v1 : Int) (v2 : Int) (v3 : Int) : runLp C_num_Total 900 140 58 (lpBody PG 140 58) S_num_Total_58 O_num_Total_58 (p0, p1) (v0, v1, v2, v3) = L_num_Total_58 p0 p1 v0 v1 v2 v3 := by kernel_rfl
theorem F_num_Total_eq (x0 : (List Int)) : runFn C_num_Total 140 [.ro .i64] [.int .i64, .int .i64] x0 = F_num_Total x0 := by kernel_rfl
def spec_num_Total : FnSpec := mkSpec [.ro .i64] [.int .i64, .int .i64] true (fun x => F_num_Total x)
theorem ok_num_Total : FnOk PG 140 spec_num_Total :=
  have K : CxR C_num_Total := seatOk.cx (fun _ => rfl) (l := [(29, spec_num_Add)]) ⟨ok_num_Add, trivial⟩
  fn_entry K (lps_from (l := [(140, 58, Ls_num_Total_58)]) rfl ⟨lp_entry (n := 900) (f := 140) K (by kernel_rfl) (by kernel_rfl) (by kernel_rfl) (by kernel_rfl) (by kernel_rfl) (fun p v r h => (L_num_Total_58_eq p.1 p.2 v.1 v.2.1 v.2.2.1 v.2.2.2).trans h), trivial⟩) (by kernel_rfl) (fun x y h => (F_num_Total_eq x).trans h) rfl rfl

def S_limit_Whole_58 : LSh := ⟨71, [(8, .int .i64), (7, .ro .cell)], [], [], [(9, .int .i64), (4, .buf .i64)], [], []⟩
@[reducible] def O_limit_Whole_58 : List LOut := [⟨.exit 0, [(4, .buf .i64)], [], []⟩]
def L_limit_Whole_58 (p0 : Int) (p1 : (List SCell)) (v0 : Int) (v1 : (List Int)) : Option ((Int × (List Int)) ⊕ (((List Int)))) := cnd (ilt v0 p0) (cnd (band (ile 0 v0) (ilt v0 (len p1))) (cnd (ile (len (lapp v1 [(lget p1 (itn v0)).opn])) 68719476736) (some (Sum.inl (wr IntKind.i64 (iadd v0 1), lapp v1 [(lget p1 (itn v0)).opn]))) none) none) (some (Sum.inr v1))
def Ls_limit_Whole_58 : LSpec := S_limit_Whole_58.spec O_limit_Whole_58 [10, 11, 12, 6, 13, 14, 15, 16, 17, 4, 18, 9] (fun p v => L_limit_Whole_58 p.1 p.2 v.1 v.2)
def F_limit_Whole (x0 : (List SCell)) : Option (Int × Int) := obind (iterN (fun v ↦ L_limit_Whole_58 (len x0) x0 v.fst v.snd) LF (0, [])) fun y0 ↦ obind (F_num_Total y0) fun y1 ↦ some y1
noncomputable def C_limit_Whole : Cx := { P := PG, ety := ety, fn := look [(140, spec_num_Total)], inl := memN [], lp := lookLp [(114, 58, Ls_limit_Whole_58)] }
theorem L_limit_Whole_58_eq (p0 : Int) (p1 : (List SCell)) (v0 : Int) (v1 : (List Int)) : runLp C_limit_Whole 900 114 58 (lpBody PG 114 58) S_limit_Whole_58 O_limit_Whole_58 (p0, p1) (v0, v1) = L_limit_Whole_58 p0 p1 v0 v1 := by kernel_rfl
theorem F_limit_Whole_eq (x0 : (List SCell)) : runFn C_limit_Whole 114 [.ro .cell] [.int .i64, .int .i64] x0 = F_limit_Whole x0 := by kernel_rfl
def spec_limit_Whole : FnSpec := mkSpec [.ro .cell] [.int .i64, .int .i64] true (fun x => F_limit_Whole x)
theorem ok_limit_Whole : FnOk PG 114 spec_limit_Whole :=
  have K : CxR C_limit_Whole := seatOk.cx (fun _ => rfl) (l := [(140, spec_num_Total)]) ⟨ok_num_Total, trivial⟩
  fn_entry K (lps_from (l := [(114, 58, Ls_limit_Whole_58)]) rfl ⟨lp_entry (n := 900) (f := 114) K (by kernel_rfl) (by kernel_rfl) (by kernel_rfl) (by kernel_rfl) (by kernel_rfl) (fun p v r h => (L_limit_Whole_58_eq p.1 p.2 v.1 v.2).trans h), trivial⟩) (by kernel_rfl) (fun x y h => (F_limit_Whole_eq x).trans h) rfl rfl

def S_book_ledger_right_250 : LSh := ⟨89, [(28, .int .i64), (27, .ro .cell)], [(3, .mf 96)], [], [(29, .int .i64), (2, .bool)], [], [(96, .cell)]⟩
@[reducible] def O_book_ledger_right_250 : List LOut := [⟨.ret, [(2, .bool)], [], [(96, .cell)]⟩, ⟨.exit 0, [(2, .bool)], [], [(96, .cell)]⟩]
def L_book_ledger_right_250 (p0 : Int) (p1 : (List SCell)) (v0 : Int) (v1 : Bool) (v2 : (List SCell)) : Option ((Int × Bool × (List SCell)) ⊕ ((Bool × (List SCell)) ⊕ ((Bool × (List SCell))))) := cnd (ilt v0 p0) (cnd (band (ile 0 v0) (ilt v0 (len p1))) (cnd (band (ile 0 v0) (ilt v0 (len v2))) (obind (F_cell_Right (lget p1 (itn v0))) fun y0 ↦ cnd (bor (band (ile 0 v0) (ilt v0 (len (lset v2 (itn v0) (SCell.mk (lget p1 (itn v0)).pos (lget v2 (itn v0)).buy (lget v2 (itn v0)).sell (lget v2 (itn v0)).opn))))) (bnot (bnot (bnot y0)))) (cnd (bor (bnot y0) (bnot (band (ieq (lget (lset v2 (itn v0) (SCell.mk (lget p1 (itn v0)).pos (lget v2 (itn v0)).buy (lget v2 (itn v0)).sell (lget v2 (itn v0)).opn)) (itn v0)).pos (lget p1 (itn v0)).pos) (band (ieq (lget (lset v2 (itn v0) (SCell.mk (lget p1 (itn v0)).pos (lget v2 (itn v0)).buy (lget v2 (itn v0)).sell (lget v2 (itn v0)).opn)) (itn v0)).buy (lget p1 (itn v0)).buy) (band (ieq (lget (lset v2 (itn v0) (SCell.mk (lget p1 (itn v0)).pos (lget v2 (itn v0)).buy (lget v2 (itn v0)).sell (lget v2 (itn v0)).opn)) (itn v0)).sell (lget p1 (itn v0)).sell) (ieq (lget (lset v2 (itn v0) (SCell.mk (lget p1 (itn v0)).pos (lget v2 (itn v0)).buy (lget v2 (itn v0)).sell (lget v2 (itn v0)).opn)) (itn v0)).opn (lget p1 (itn v0)).opn)))))) (some (Sum.inr (Sum.inl (false, lset v2 (itn v0) (SCell.mk (lget p1 (itn v0)).pos (lget v2 (itn v0)).buy (lget v2 (itn v0)).sell (lget v2 (itn v0)).opn))))) (some (Sum.inl (wr IntKind.i64 (iadd v0 1), v1, lset v2 (itn v0) (SCell.mk (lget p1 (itn v0)).pos (lget v2 (itn v0)).buy (lget v2 (itn v0)).sell (lget v2 (itn v0)).opn))))) none) none) none) (some (Sum.inr (Sum.inr (v1, v2))))
def Ls_book_ledger_right_250 : LSpec := S_book_ledger_right_250.spec O_book_ledger_right_250 [30, 31, 32, 33, 6, 5, 34, 35, 36, 37, 38, 39, 40, 41, 42, 43, 44, 45, 46, 47, 48, 49, 50, 2, 51, 29] (fun p v => L_book_ledger_right_250 p.1 p.2 v.1 v.2.1 v.2.2)
def S_book_ledger_right_506 : LSh := ⟨162, [(54, .int .i64)], [(1, .mp 8 0)], [(8, [.val .state])], [(55, .int .i64), (2, .bool)], [], []⟩
@[reducible] def O_book_ledger_right_506 : List LOut := [⟨.ret, [(2, .bool)], [], []⟩, ⟨.exit 2, [(2, .bool)], [], []⟩]
def L_book_ledger_right_506 (p0 : Int) (p1 : SState) (v0 : Int) (v1 : Bool) : Option ((Int × Bool) ⊕ ((Bool) ⊕ ((Bool)))) := cnd (ilt v0 p0) (obind (F_book_ledger_account p1 v0) fun y0 ↦ obind (F_limit_Whole y0) fun y1 ↦ cnd (bnot (ieq y1.snd 0)) (some (Sum.inr (Sum.inl false))) (some (Sum.inl (wr IntKind.i64 (iadd v0 1), v1)))) (some (Sum.inr (Sum.inr v1)))
def Ls_book_ledger_right_506 : LSpec := S_book_ledger_right_506.spec O_book_ledger_right_506 [56, 57, 7, 59, 60, 61, 62, 58, 63, 64, 8, 9, 65, 66, 2, 67, 55] (fun p v => L_book_ledger_right_506 p.1 p.2 v.1 v.2)
def F_book_ledger_right (x0 : SState) : Option (Bool) := obind (F_book_ledger_sized x0) fun y0 ↦ obind (cnd (bnot (bnot y0)) (F_book_ledger_fine x0) (some false)) fun y1 ↦ cnd (bor (bnot y0) (bnot y1)) (some false) (obind (F_book_ledger_summed x0) fun y2 ↦ cnd (bnot y2.snd) (some false) (obind (iterN (fun v ↦ L_book_ledger_right_250 (len x0.cells) x0.cells v.fst v.snd.fst v.snd.snd) LF (0, false, y2.fst)) fun y3 ↦ sumK y3 (fun y4 ↦ some y4.fst) fun y4 ↦ obind (iterN (fun v ↦ L_book_ledger_right_506 x0.accounts x0 v.fst v.snd) LF (0, y4.fst)) fun y5 ↦ sumK y5 (fun y6 ↦ some y6) fun y6 ↦ some true))
noncomputable def C_book_ledger_right : Cx := { P := PG, ety := ety, fn := look [(110, spec_book_ledger_sized), (111, spec_book_ledger_fine), (112, spec_book_ledger_summed), (113, spec_cell_Right), (115, spec_book_ledger_account), (114, spec_limit_Whole)], inl := memN [], lp := lookLp [(70, 250, Ls_book_ledger_right_250), (70, 506, Ls_book_ledger_right_506)] }
theorem L_book_ledger_right_250_eq (p0 : Int) (p1 : (List SCell)) (v0 : Int) (v1 : Bool) (v2 : (List SCell)) : runLp C_book_ledger_right 900 70 250 (lpBody PG 70 250) S_book_ledger_right_250 O_book_ledger_right_250 (p0, p1) (v0, v1, v2) = L_book_ledger_right_250 p0 p1 v0 v1 v2 := by kernel_rfl
theorem L_book_ledger_right_506_eq (p0 : Int) (p1 : SState) (v0 : Int) (v1 : Bool) : runLp C_book_ledger_right 900 70 506 (lpBody PG 70 506) S_book_ledger_right_506 O_book_ledger_right_506 (p0, p1) (v0, v1) = L_book_ledger_right_506 p0 p1 v0 v1 := by kernel_rfl
theorem F_book_ledger_right_eq (x0 : SState) : runFn C_book_ledger_right 70 [.val .state] [.bool] x0 = F_book_ledger_right x0 := by kernel_rfl
def spec_book_ledger_right : FnSpec := mkSpec [.val .state] [.bool] true (fun x => F_book_ledger_right x)
theorem ok_book_ledger_right : FnOk PG 70 spec_book_ledger_right :=
  have K : CxR C_book_ledger_right := seatOk.cx (fun _ => rfl) (l := [(110, spec_book_ledger_sized), (111, spec_book_ledger_fine), (112, spec_book_ledger_summed), (113, spec_cell_Right), (115, spec_book_ledger_account), (114, spec_limit_Whole)]) ⟨ok_book_ledger_sized, ok_book_ledger_fine, ok_book_ledger_summed, ok_cell_Right, ok_book_ledger_account, ok_limit_Whole, trivial⟩
  fn_entry K (lps_from (l := [(70, 250, Ls_book_ledger_right_250), (70, 506, Ls_book_ledger_right_506)]) rfl ⟨lp_entry (n := 900) (f := 70) K (by kernel_rfl) (by kernel_rfl) (by kernel_rfl) (by kernel_rfl) (by kernel_rfl) (fun p v r h => (L_book_ledger_right_250_eq p.1 p.2 v.1 v.2.1 v.2.2).trans h),
    lp_entry (n := 900) (f := 70) K (by kernel_rfl) (by kernel_rfl) (by kernel_rfl) (by kernel_rfl) (by kernel_rfl) (fun p v r h => (L_book_ledger_right_506_eq p.1 p.2 v.1 v.2).trans h), trivial⟩) (by kernel_rfl) (fun x y h => (F_book_ledger_right_eq x).trans h) rfl rfl

def F_book_Right (x0 : SState) : Option (Bool) := obind (F_book_ledger_right x0) fun y0 ↦ some y0
noncomputable def C_book_Right : Cx := { P := PG, ety := ety, fn := look [(70, spec_book_ledger_right)], inl := memN [], lp := lookLp [] }
theorem F_book_Right_eq (x0 : SState) : runFn C_book_Right 31 [.val .state] [.bool] x0 = F_book_Right x0 := by kernel_rfl
def spec_book_Right : FnSpec := mkSpec [.val .state] [.bool] true (fun x => F_book_Right x)
theorem ok_book_Right : FnOk PG 31 spec_book_Right :=
  have K : CxR C_book_Right := seatOk.cx (fun _ => rfl) (l := [(70, spec_book_ledger_right)]) ⟨ok_book_ledger_right, trivial⟩
  fn_entry K (lps_from (l := []) rfl trivial) (by kernel_rfl) (fun x y h => (F_book_Right_eq x).trans h) rfl rfl

def F_book_New (x0 : Int) (x1 : Int) (x2 : SExpo) (x3 : Int) : Option (SState × Int) := cnd (bor (bor (bor (ilt x0 1) (ilt 8 x0)) (ilt x1 1)) (ilt 8 x1)) (some (SState.mk 0 0 [] [] [] [] false 0 0 0, 1)) (cnd (band (band (ile 0 (wr IntKind.i64 (imul x0 x1))) (ile (wr IntKind.i64 (imul x0 x1)) (wr IntKind.i64 (imul x0 x1)))) (ile (wr IntKind.i64 (imul x0 x1)) 68719476736)) (obind (F_slices_Repeat_api_Expo [x2] (wr IntKind.i64 (imul x0 x1))) fun y0 ↦ obind (F_slices_Repeat_int64 [x3] x0) fun y1 ↦ obind (F_book_Right (SState.mk x0 x1 [] (lrep SCell (itn (wr IntKind.i64 (imul x0 x1)))) y0 y1 false 0 0 0)) fun y2 ↦ cnd (bnot y2) (some (SState.mk 0 0 [] [] [] [] false 0 0 0, 1)) (some (SState.mk x0 x1 [] (lrep SCell (itn (wr IntKind.i64 (imul x0 x1)))) y0 y1 false 0 0 0, 0))) none)
noncomputable def C_book_New : Cx := { P := PG, ety := ety, fn := look [(59, spec_slices_Repeat_api_Expo), (60, spec_slices_Repeat_int64), (31, spec_book_Right)], inl := memN [], lp := lookLp [] }
theorem F_book_New_eq (x0 : Int) (x1 : Int) (x2 : SExpo) (x3 : Int) : runFn C_book_New 21 [.int .i64, .int .i64, .val .expo, .int .i64] [.val .state, .int .i64] (x0, x1, x2, x3) = F_book_New x0 x1 x2 x3 := by kernel_rfl
def spec_book_New : FnSpec := mkSpec [.int .i64, .int .i64, .val .expo, .int .i64] [.val .state, .int .i64] false (fun x => F_book_New x.1 x.2.1 x.2.2.1 x.2.2.2)
theorem ok_book_New : FnOk PG 21 spec_book_New :=
  have K : CxR C_book_New := seatOk.cx (fun _ => rfl) (l := [(59, spec_slices_Repeat_api_Expo), (60, spec_slices_Repeat_int64), (31, spec_book_Right)]) ⟨ok_slices_Repeat_api_Expo, ok_slices_Repeat_int64, ok_book_Right, trivial⟩
  fn_entry K (lps_from (l := []) rfl trivial) (by kernel_rfl) (fun x y h => (F_book_New_eq x.1 x.2.1 x.2.2.1 x.2.2.2).trans h) rfl rfl

def F_slices_Clone_api_Cell (x0 : (List SCell)) : Option ((List SCell)) := nilq (len x0) fun y0 ↦ cnd (beq y0 true) (some []) (cnd (ile (len x0) 68719476736) (some x0) none)
noncomputable def C_slices_Clone_api_Cell : Cx := { P := PG, ety := ety, fn := look [], inl := memN [], lp := lookLp [] }
theorem F_slices_Clone_api_Cell_eq (x0 : (List SCell)) : runFn C_slices_Clone_api_Cell 94 [.ro .cell] [.buf .cell] x0 = F_slices_Clone_api_Cell x0 := by kernel_rfl
def spec_slices_Clone_api_Cell : FnSpec := mkSpec [.ro .cell] [.buf .cell] true (fun x => F_slices_Clone_api_Cell x)
theorem ok_slices_Clone_api_Cell : FnOk PG 94 spec_slices_Clone_api_Cell :=
  have K : CxR C_slices_Clone_api_Cell := seatOk.cx (fun _ => rfl) (l := []) trivial
  fn_entry K (lps_from (l := []) rfl trivial) (by kernel_rfl) (fun x y h => (F_slices_Clone_api_Cell_eq x).trans h) rfl rfl

def F_slices_Clone_api_Expo (x0 : (List SExpo)) : Option ((List SExpo)) := nilq (len x0) fun y0 ↦ cnd (beq y0 true) (some []) (cnd (ile (len x0) 68719476736) (some x0) none)
noncomputable def C_slices_Clone_api_Expo : Cx := { P := PG, ety := ety, fn := look [], inl := memN [], lp := lookLp [] }
theorem F_slices_Clone_api_Expo_eq (x0 : (List SExpo)) : runFn C_slices_Clone_api_Expo 95 [.ro .expo] [.buf .expo] x0 = F_slices_Clone_api_Expo x0 := by kernel_rfl
def spec_slices_Clone_api_Expo : FnSpec := mkSpec [.ro .expo] [.buf .expo] true (fun x => F_slices_Clone_api_Expo x)
theorem ok_slices_Clone_api_Expo : FnOk PG 95 spec_slices_Clone_api_Expo :=
  have K : CxR C_slices_Clone_api_Expo := seatOk.cx (fun _ => rfl) (l := []) trivial
  fn_entry K (lps_from (l := []) rfl trivial) (by kernel_rfl) (fun x y h => (F_slices_Clone_api_Expo_eq x).trans h) rfl rfl

def F_slices_Clone_int64 (x0 : (List Int)) : Option ((List Int)) := nilq (len x0) fun y0 ↦ cnd (beq y0 true) (some []) (cnd (ile (len x0) 68719476736) (some x0) none)
noncomputable def C_slices_Clone_int64 : Cx := { P := PG, ety := ety, fn := look [], inl := memN [], lp := lookLp [] }
theorem F_slices_Clone_int64_eq (x0 : (List Int)) : runFn C_slices_Clone_int64 96 [.ro .i64] [.buf .i64] x0 = F_slices_Clone_int64 x0 := by kernel_rfl
def spec_slices_Clone_int64 : FnSpec := mkSpec [.ro .i64] [.buf .i64] true (fun x => F_slices_Clone_int64 x)
theorem ok_slices_Clone_int64 : FnOk PG 96 spec_slices_Clone_int64 :=
  have K : CxR C_slices_Clone_int64 := seatOk.cx (fun _ => rfl) (l := []) trivial
  fn_entry K (lps_from (l := []) rfl trivial) (by kernel_rfl) (fun x y h => (F_slices_Clone_int64_eq x).trans h) rfl rfl

def F_order_Begin (x0 : SRec) : Option (SOrder × Int) := obind (cnd (bnot (bnot (ieq x0.kind 1))) (F_rec_Right x0) (some false)) fun y0 ↦ cnd (bor (bnot (ieq x0.kind 1)) (bnot y0)) (some (SOrder.mk 0 0 0 0 0 0 0 0 0 0 0 false, 1)) (some (SOrder.mk x0.order x0.account x0.symbol x0.side x0.qty x0.price 0 1 0 0 0 false, 0))
noncomputable def C_order_Begin : Cx := { P := PG, ety := ety, fn := look [(61, spec_rec_Right)], inl := memN [], lp := lookLp [] }
theorem F_order_Begin_eq (x0 : SRec) : runFn C_order_Begin 97 [.val .recd] [.val .order, .int .i64] x0 = F_order_Begin x0 := by kernel_rfl
def spec_order_Begin : FnSpec := mkSpec [.val .recd] [.val .order, .int .i64] true (fun x => F_order_Begin x)
theorem ok_order_Begin : FnOk PG 97 spec_order_Begin :=
  have K : CxR C_order_Begin := seatOk.cx (fun _ => rfl) (l := [(61, spec_rec_Right)]) ⟨ok_rec_Right, trivial⟩
  fn_entry K (lps_from (l := []) rfl trivial) (by kernel_rfl) (fun x y h => (F_order_Begin_eq x).trans h) rfl rfl

def F_cell_Of (x0 : SCell) : Option (SExpo × Int) := obind (F_cell_Right x0) fun y0 ↦ cnd (bnot y0) (some (SExpo.mk 0 0 0, 1)) (obind (F_cell_expo x0) fun y1 ↦ some (y1.fst, 0))
noncomputable def C_cell_Of : Cx := { P := PG, ety := ety, fn := look [(113, spec_cell_Right), (118, spec_cell_expo)], inl := memN [], lp := lookLp [] }
theorem F_cell_Of_eq (x0 : SCell) : runFn C_cell_Of 76 [.val .cell] [.val .expo, .int .i64] x0 = F_cell_Of x0 := by kernel_rfl
def spec_cell_Of : FnSpec := mkSpec [.val .cell] [.val .expo, .int .i64] true (fun x => F_cell_Of x)
theorem ok_cell_Of : FnOk PG 76 spec_cell_Of :=
  have K : CxR C_cell_Of := seatOk.cx (fun _ => rfl) (l := [(113, spec_cell_Right), (118, spec_cell_expo)]) ⟨ok_cell_Right, ok_cell_expo, trivial⟩
  fn_entry K (lps_from (l := []) rfl trivial) (by kernel_rfl) (fun x y h => (F_cell_Of_eq x).trans h) rfl rfl

def F_limit_three (x0 : SExpo) : Option (SA3) := some (SA3.mk x0.long x0.short x0.opn)
noncomputable def C_limit_three : Cx := { P := PG, ety := ety, fn := look [], inl := memN [], lp := lookLp [] }
theorem F_limit_three_eq (x0 : SExpo) : runFn C_limit_three 144 [.val .expo] [.val .a3] x0 = F_limit_three x0 := by kernel_rfl
def spec_limit_three : FnSpec := mkSpec [.val .expo] [.val .a3] true (fun x => F_limit_three x)
theorem ok_limit_three : FnOk PG 144 spec_limit_three :=
  have K : CxR C_limit_three := seatOk.cx (fun _ => rfl) (l := []) trivial
  fn_entry K (lps_from (l := []) rfl trivial) (by kernel_rfl) (fun x y h => (F_limit_three_eq x).trans h) rfl rfl

def F_limit_AgainstCap (x0 : Int) (x1 : Int) (x2 : Int) : Option (Bool) := some (ilt (imax x0 x2) x1)
noncomputable def C_limit_AgainstCap : Cx := { P := PG, ety := ety, fn := look [], inl := memN [], lp := lookLp [] }
theorem F_limit_AgainstCap_eq (x0 : Int) (x1 : Int) (x2 : Int) : runFn C_limit_AgainstCap 130 [.int .i64, .int .i64, .int .i64] [.bool] (x0, x1, x2) = F_limit_AgainstCap x0 x1 x2 := by kernel_rfl
def spec_limit_AgainstCap : FnSpec := mkSpec [.int .i64, .int .i64, .int .i64] [.bool] true (fun x => F_limit_AgainstCap x.1 x.2.1 x.2.2)
theorem ok_limit_AgainstCap : FnOk PG 130 spec_limit_AgainstCap :=
  have K : CxR C_limit_AgainstCap := seatOk.cx (fun _ => rfl) (l := []) trivial
  fn_entry K (lps_from (l := []) rfl trivial) (by kernel_rfl) (fun x y h => (F_limit_AgainstCap_eq x.1 x.2.1 x.2.2).trans h) rfl rfl

def F_limit_Against (x0 : SExpo) (x1 : SExpo) (x2 : SExpo) : Option (Bool) := obind (F_limit_three x0) fun y0 ↦ obind (F_limit_three x1) fun y1 ↦ obind (F_limit_three x2) fun y2 ↦ obind (F_limit_AgainstCap y0.a0 y1.a0 y2.a0) fun y3 ↦ cnd y3 (some true) (obind (F_limit_AgainstCap y0.a1 y1.a1 y2.a1) fun y4 ↦ cnd y4 (some true) (obind (F_limit_AgainstCap y0.a2 y1.a2 y2.a2) fun y5 ↦ cnd y5 (some true) (some false)))
noncomputable def C_limit_Against : Cx := { P := PG, ety := ety, fn := look [(144, spec_limit_three), (130, spec_limit_AgainstCap)], inl := memN [], lp := lookLp [] }
theorem F_limit_Against_eq (x0 : SExpo) (x1 : SExpo) (x2 : SExpo) : runFn C_limit_Against 129 [.val .expo, .val .expo, .val .expo] [.bool] (x0, x1, x2) = F_limit_Against x0 x1 x2 := by kernel_rfl
def spec_limit_Against : FnSpec := mkSpec [.val .expo, .val .expo, .val .expo] [.bool] true (fun x => F_limit_Against x.1 x.2.1 x.2.2)
theorem ok_limit_Against : FnOk PG 129 spec_limit_Against :=
  have K : CxR C_limit_Against := seatOk.cx (fun _ => rfl) (l := [(144, spec_limit_three), (130, spec_limit_AgainstCap)]) ⟨ok_limit_three, ok_limit_AgainstCap, trivial⟩
  fn_entry K (lps_from (l := []) rfl trivial) (by kernel_rfl) (fun x y h => (F_limit_Against_eq x.1 x.2.1 x.2.2).trans h) rfl rfl

def F_book_ledger_bears (x0 : SState) (x1 : SState) (x2 : Int) (x3 : Int) : Option (Int) := obind (F_book_ledger_cellOf x0 x2 x3) fun y0 ↦ obind (F_book_ledger_account x0 x2) fun y1 ↦ obind (F_limit_Whole y1) fun y2 ↦ cnd (bnot (ieq y2.snd 0)) (some 3) (obind (F_book_ledger_account x1 x2) fun y3 ↦ obind (F_limit_Whole y3) fun y4 ↦ cnd (band (ile 0 y0) (ilt y0 (len x1.cells))) (obind (F_cell_Of (lget x1.cells (itn y0))) fun y5 ↦ cnd (band (ile 0 y0) (ilt y0 (len x0.cells))) (obind (F_cell_Of (lget x0.cells (itn y0))) fun y6 ↦ cnd (band (ile 0 y0) (ilt y0 (len x0.limits))) (obind (F_limit_Against y5.fst y6.fst (lget x0.limits (itn y0))) fun y7 ↦ cnd (bor (band (ile 0 x2) (ilt x2 (len x0.caps))) (bnot (bnot y7))) (obind (cnd (bnot y7) (F_limit_AgainstCap y4.fst y2.fst (lget x0.caps (itn x2))) (some false)) fun y8 ↦ cnd (bor y7 y8) (some 4) (some 0)) none) none) none) none)
noncomputable def C_book_ledger_bears : Cx := { P := PG, ety := ety, fn := look [(75, spec_book_ledger_cellOf), (115, spec_book_ledger_account), (114, spec_limit_Whole), (76, spec_cell_Of), (129, spec_limit_Against), (130, spec_limit_AgainstCap)], inl := memN [], lp := lookLp [] }
theorem F_book_ledger_bears_eq (x0 : SState) (x1 : SState) (x2 : Int) (x3 : Int) : runFn C_book_ledger_bears 99 [.val .state, .val .state, .int .i64, .int .i64] [.int .i64] (x0, x1, x2, x3) = F_book_ledger_bears x0 x1 x2 x3 := by kernel_rfl
def spec_book_ledger_bears : FnSpec := mkSpec [.val .state, .val .state, .int .i64, .int .i64] [.int .i64] true (fun x => F_book_ledger_bears x.1 x.2.1 x.2.2.1 x.2.2.2)
theorem ok_book_ledger_bears : FnOk PG 99 spec_book_ledger_bears :=
  have K : CxR C_book_ledger_bears := seatOk.cx (fun _ => rfl) (l := [(75, spec_book_ledger_cellOf), (115, spec_book_ledger_account), (114, spec_limit_Whole), (76, spec_cell_Of), (129, spec_limit_Against), (130, spec_limit_AgainstCap)]) ⟨ok_book_ledger_cellOf, ok_book_ledger_account, ok_limit_Whole, ok_cell_Of, ok_limit_Against, ok_limit_AgainstCap, trivial⟩
  fn_entry K (lps_from (l := []) rfl trivial) (by kernel_rfl) (fun x y h => (F_book_ledger_bears_eq x.1 x.2.1 x.2.2.1 x.2.2.2).trans h) rfl rfl

def S_book_Find_26_slices_IndexFunc_api_Order_c10 : LSh := ⟨78, [(7, .int .i64), (0, .ro .order)], [(1, .fn 131 [.mp 24 0])], [(24, [.int .i64])], [(8, .int .i64), (4, .int .i64)], [], []⟩
@[reducible] def O_book_Find_26_slices_IndexFunc_api_Order_c10 : List LOut := [⟨.ret, [(4, .int .i64)], [], []⟩, ⟨.exit 0, [(4, .int .i64)], [], []⟩]
def L_book_Find_26_slices_IndexFunc_api_Order_c10 (p0 : Int) (p1 : (List SOrder)) (p2 : Int) (v0 : Int) (v1 : Int) : Option ((Int × Int) ⊕ ((Int) ⊕ ((Int)))) := cnd (ilt v0 p0) (cnd (band (ile 0 v0) (ilt v0 (len p1))) (cnd (ieq (lget p1 (itn v0)).id p2) (some (Sum.inr (Sum.inl v0))) (some (Sum.inl (wr IntKind.i64 (iadd v0 1), v1)))) none) (some (Sum.inr (Sum.inr v1)))
def Ls_book_Find_26_slices_IndexFunc_api_Order_c10 : LSpec := S_book_Find_26_slices_IndexFunc_api_Order_c10.spec O_book_Find_26_slices_IndexFunc_api_Order_c10 [9, 10, 5, 11, 12, 13, 14, 15, 16, 17, 4, 18, 8] (fun p v => L_book_Find_26_slices_IndexFunc_api_Order_c10 p.1 p.2.1 p.2.2 v.1 v.2)
def F_book_Find (x0 : SState) (x1 : Int) : Option (Int) := obind (iterN (fun v ↦ L_book_Find_26_slices_IndexFunc_api_Order_c10 (len x0.orders) x0.orders x1 v.fst v.snd) LF (0, 0)) fun y0 ↦ sumK y0 (fun y1 ↦ some y1) fun y1 ↦ some (-1)
noncomputable def C_book_Find : Cx := { P := PG, ety := ety, fn := look [], inl := memN [131, 122], lp := lookLp [(429496770682, 26, Ls_book_Find_26_slices_IndexFunc_api_Order_c10)] }
theorem L_book_Find_26_slices_IndexFunc_api_Order_c10_eq (p0 : Int) (p1 : (List SOrder)) (p2 : Int) (v0 : Int) (v1 : Int) : runLp C_book_Find 900 429496770682 26 (lpBody PG 122 26) S_book_Find_26_slices_IndexFunc_api_Order_c10 O_book_Find_26_slices_IndexFunc_api_Order_c10 (p0, p1, p2) (v0, v1) = L_book_Find_26_slices_IndexFunc_api_Order_c10 p0 p1 p2 v0 v1 := by kernel_rfl
theorem F_book_Find_eq (x0 : SState) (x1 : Int) : runFn C_book_Find 100 [.val .state, .int .i64] [.int .i64] (x0, x1) = F_book_Find x0 x1 := by kernel_rfl
def spec_book_Find : FnSpec := mkSpec [.val .state, .int .i64] [.int .i64] true (fun x => F_book_Find x.1 x.2)
theorem ok_book_Find : FnOk PG 100 spec_book_Find :=
  have K : CxR C_book_Find := seatOk.cx (fun _ => rfl) (l := []) trivial
  fn_entry K (lps_from (l := [(429496770682, 26, Ls_book_Find_26_slices_IndexFunc_api_Order_c10)]) rfl ⟨lp_entry (n := 900) (f := 122) K (by kernel_rfl) (by kernel_rfl) (by kernel_rfl) (by kernel_rfl) (by kernel_rfl) (fun p v r h => (L_book_Find_26_slices_IndexFunc_api_Order_c10_eq p.1 p.2.1 p.2.2 v.1 v.2).trans h), trivial⟩) (by kernel_rfl) (fun x y h => (F_book_Find_eq x.1 x.2).trans h) rfl rfl

def F_order_Change (x0 : SOrder) (x1 : Int) (x2 : Int) : Option (SOrder × Int) := obind (F_num_Add x0.version 1) fun y0 ↦ obind (F_order_Right x0) fun y1 ↦ cnd (bnot y1) (cnd (bnot y1) (some (x0, 1)) (cnd (bnot (ieq x0.phase 2)) (cnd (bnot (ieq x0.phase 2)) (some (x0, 8)) (some (SOrder.mk x0.id x0.account x0.symbol x0.side x0.qty x0.price x0.filled x0.phase x1 x2 (wr IntKind.i64 (iadd x0.version 1)) x0.asked, 0))) (obind (F_order_pending x0) fun y2 ↦ cnd y2 (cnd y2 (some (x0, 8)) (some (SOrder.mk x0.id x0.account x0.symbol x0.side x0.qty x0.price x0.filled x0.phase x1 x2 (wr IntKind.i64 (iadd x0.version 1)) x0.asked, 0))) (cnd x0.asked (some (x0, 8)) (some (SOrder.mk x0.id x0.account x0.symbol x0.side x0.qty x0.price x0.filled x0.phase x1 x2 (wr IntKind.i64 (iadd x0.version 1)) x0.asked, 0)))))) (cnd (ilt x1 1) (cnd (ilt x1 1) (some (x0, 1)) (cnd (bnot (ieq x0.phase 2)) (cnd (bnot (ieq x0.phase 2)) (some (x0, 8)) (some (SOrder.mk x0.id x0.account x0.symbol x0.side x0.qty x0.price x0.filled x0.phase x1 x2 (wr IntKind.i64 (iadd x0.version 1)) x0.asked, 0))) (obind (F_order_pending x0) fun y3 ↦ cnd y3 (cnd y3 (some (x0, 8)) (some (SOrder.mk x0.id x0.account x0.symbol x0.side x0.qty x0.price x0.filled x0.phase x1 x2 (wr IntKind.i64 (iadd x0.version 1)) x0.asked, 0))) (cnd x0.asked (some (x0, 8)) (some (SOrder.mk x0.id x0.account x0.symbol x0.side x0.qty x0.price x0.filled x0.phase x1 x2 (wr IntKind.i64 (iadd x0.version 1)) x0.asked, 0)))))) (cnd (ilt x2 1) (cnd (ilt x2 1) (some (x0, 1)) (cnd (bnot (ieq x0.phase 2)) (cnd (bnot (ieq x0.phase 2)) (some (x0, 8)) (some (SOrder.mk x0.id x0.account x0.symbol x0.side x0.qty x0.price x0.filled x0.phase x1 x2 (wr IntKind.i64 (iadd x0.version 1)) x0.asked, 0))) (obind (F_order_pending x0) fun y4 ↦ cnd y4 (cnd y4 (some (x0, 8)) (some (SOrder.mk x0.id x0.account x0.symbol x0.side x0.qty x0.price x0.filled x0.phase x1 x2 (wr IntKind.i64 (iadd x0.version 1)) x0.asked, 0))) (cnd x0.asked (some (x0, 8)) (some (SOrder.mk x0.id x0.account x0.symbol x0.side x0.qty x0.price x0.filled x0.phase x1 x2 (wr IntKind.i64 (iadd x0.version 1)) x0.asked, 0)))))) (cnd (bnot (ieq y0.snd 0)) (some (x0, 1)) (cnd (bnot (ieq x0.phase 2)) (cnd (bnot (ieq x0.phase 2)) (some (x0, 8)) (some (SOrder.mk x0.id x0.account x0.symbol x0.side x0.qty x0.price x0.filled x0.phase x1 x2 (wr IntKind.i64 (iadd x0.version 1)) x0.asked, 0))) (obind (F_order_pending x0) fun y5 ↦ cnd y5 (cnd y5 (some (x0, 8)) (some (SOrder.mk x0.id x0.account x0.symbol x0.side x0.qty x0.price x0.filled x0.phase x1 x2 (wr IntKind.i64 (iadd x0.version 1)) x0.asked, 0))) (cnd x0.asked (some (x0, 8)) (some (SOrder.mk x0.id x0.account x0.symbol x0.side x0.qty x0.price x0.filled x0.phase x1 x2 (wr IntKind.i64 (iadd x0.version 1)) x0.asked, 0))))))))
noncomputable def C_order_Change : Cx := { P := PG, ety := ety, fn := look [(29, spec_num_Add), (116, spec_order_Right), (132, spec_order_pending)], inl := memN [], lp := lookLp [] }
theorem F_order_Change_eq (x0 : SOrder) (x1 : Int) (x2 : Int) : runFn C_order_Change 101 [.val .order, .int .i64, .int .i64] [.val .order, .int .i64] (x0, x1, x2) = F_order_Change x0 x1 x2 := by kernel_rfl
def spec_order_Change : FnSpec := mkSpec [.val .order, .int .i64, .int .i64] [.val .order, .int .i64] true (fun x => F_order_Change x.1 x.2.1 x.2.2)
theorem ok_order_Change : FnOk PG 101 spec_order_Change :=
  have K : CxR C_order_Change := seatOk.cx (fun _ => rfl) (l := [(29, spec_num_Add), (116, spec_order_Right), (132, spec_order_pending)]) ⟨ok_num_Add, ok_order_Right, ok_order_pending, trivial⟩
  fn_entry K (lps_from (l := []) rfl trivial) (by kernel_rfl) (fun x y h => (F_order_Change_eq x.1 x.2.1 x.2.2).trans h) rfl rfl

def F_cell_Go (x0 : SCell) (x1 : SOrder) : Option (SCell × Int) := obind (F_cell_Right x0) fun y0 ↦ obind (cnd (bnot (bnot y0)) (F_order_Right x1) (some false)) fun y1 ↦ cnd (bor (bnot y0) (bnot y1)) (some (x0, 1)) (obind (F_order_Worth x1) fun y2 ↦ cnd (ieq x1.side 2) (obind (F_order_Open x1) fun y3 ↦ obind (F_num_Sub x0.sell y3) fun y4 ↦ obind (F_num_Sub x0.opn y2.fst) fun y5 ↦ obind (cnd (bnot (bor (bor (bnot (ieq y2.snd 0)) (bnot (ieq y4.snd 0))) (bnot (ieq y5.snd 0)))) (F_cell_Right (SCell.mk x0.pos x0.buy y4.fst y5.fst)) (some false)) fun y6 ↦ cnd (bor (bor (bor (bnot (ieq y2.snd 0)) (bnot (ieq y4.snd 0))) (bnot (ieq y5.snd 0))) (bnot y6)) (some (x0, 3)) (some (SCell.mk x0.pos x0.buy y4.fst y5.fst, 0))) (obind (F_order_Open x1) fun y7 ↦ obind (F_num_Sub x0.buy y7) fun y8 ↦ obind (F_num_Sub x0.opn y2.fst) fun y9 ↦ obind (cnd (bnot (bor (bor (bnot (ieq y2.snd 0)) (bnot (ieq y8.snd 0))) (bnot (ieq y9.snd 0)))) (F_cell_Right (SCell.mk x0.pos y8.fst x0.sell y9.fst)) (some false)) fun y10 ↦ cnd (bor (bor (bor (bnot (ieq y2.snd 0)) (bnot (ieq y8.snd 0))) (bnot (ieq y9.snd 0))) (bnot y10)) (some (x0, 3)) (some (SCell.mk x0.pos y8.fst x0.sell y9.fst, 0))))
noncomputable def C_cell_Go : Cx := { P := PG, ety := ety, fn := look [(113, spec_cell_Right), (116, spec_order_Right), (108, spec_order_Worth), (107, spec_order_Open), (30, spec_num_Sub)], inl := memN [128], lp := lookLp [] }
theorem F_cell_Go_eq (x0 : SCell) (x1 : SOrder) : runFn C_cell_Go 102 [.val .cell, .val .order] [.val .cell, .int .i64] (x0, x1) = F_cell_Go x0 x1 := by kernel_rfl
def spec_cell_Go : FnSpec := mkSpec [.val .cell, .val .order] [.val .cell, .int .i64] true (fun x => F_cell_Go x.1 x.2)
theorem ok_cell_Go : FnOk PG 102 spec_cell_Go :=
  have K : CxR C_cell_Go := seatOk.cx (fun _ => rfl) (l := [(113, spec_cell_Right), (116, spec_order_Right), (108, spec_order_Worth), (107, spec_order_Open), (30, spec_num_Sub)]) ⟨ok_cell_Right, ok_order_Right, ok_order_Worth, ok_order_Open, ok_num_Sub, trivial⟩
  fn_entry K (lps_from (l := []) rfl trivial) (by kernel_rfl) (fun x y h => (F_cell_Go_eq x.1 x.2).trans h) rfl rfl

def F_order_End (x0 : SOrder) : Option (SOrder × Int) := obind (F_order_Right x0) fun y0 ↦ cnd (bnot y0) (some (x0, 1)) (cnd (ieq x0.phase 3) (cnd (ieq x0.phase 3) (some (x0, 8)) (some (SOrder.mk x0.id x0.account x0.symbol x0.side x0.qty x0.price x0.filled x0.phase x0.newQty x0.newPrice x0.version true, 0))) (cnd x0.asked (some (x0, 8)) (some (SOrder.mk x0.id x0.account x0.symbol x0.side x0.qty x0.price x0.filled x0.phase x0.newQty x0.newPrice x0.version true, 0))))
noncomputable def C_order_End : Cx := { P := PG, ety := ety, fn := look [(116, spec_order_Right)], inl := memN [], lp := lookLp [] }
theorem F_order_End_eq (x0 : SOrder) : runFn C_order_End 103 [.val .order] [.val .order, .int .i64] x0 = F_order_End x0 := by kernel_rfl
def spec_order_End : FnSpec := mkSpec [.val .order] [.val .order, .int .i64] true (fun x => F_order_End x)
theorem ok_order_End : FnOk PG 103 spec_order_End :=
  have K : CxR C_order_End := seatOk.cx (fun _ => rfl) (l := [(116, spec_order_Right)]) ⟨ok_order_Right, trivial⟩
  fn_entry K (lps_from (l := []) rfl trivial) (by kernel_rfl) (fun x y h => (F_order_End_eq x).trans h) rfl rfl

def F_order_settled (x0 : SOrder) : Option (SOrder) := some (SOrder.mk x0.id x0.account x0.symbol x0.side x0.qty x0.price x0.filled x0.phase 0 0 x0.version x0.asked)
noncomputable def C_order_settled : Cx := { P := PG, ety := ety, fn := look [], inl := memN [], lp := lookLp [] }
theorem F_order_settled_eq (x0 : SOrder) : runFn C_order_settled 146 [.val .order] [.val .order] x0 = F_order_settled x0 := by kernel_rfl
def spec_order_settled : FnSpec := mkSpec [.val .order] [.val .order] true (fun x => F_order_settled x)
theorem ok_order_settled : FnOk PG 146 spec_order_settled :=
  have K : CxR C_order_settled := seatOk.cx (fun _ => rfl) (l := []) trivial
  fn_entry K (lps_from (l := []) rfl trivial) (by kernel_rfl) (fun x y h => (F_order_settled_eq x).trans h) rfl rfl

def F_order_done (x0 : SOrder) : Option (SOrder) := obind (F_order_settled (SOrder.mk x0.id x0.account x0.symbol x0.side x0.qty x0.price x0.filled 3 x0.newQty x0.newPrice x0.version x0.asked)) fun y0 ↦ some y0
noncomputable def C_order_done : Cx := { P := PG, ety := ety, fn := look [(146, spec_order_settled)], inl := memN [], lp := lookLp [] }
theorem F_order_done_eq (x0 : SOrder) : runFn C_order_done 145 [.val .order] [.val .order] x0 = F_order_done x0 := by kernel_rfl
def spec_order_done : FnSpec := mkSpec [.val .order] [.val .order] true (fun x => F_order_done x)
theorem ok_order_done : FnOk PG 145 spec_order_done :=
  have K : CxR C_order_done := seatOk.cx (fun _ => rfl) (l := [(146, spec_order_settled)]) ⟨ok_order_settled, trivial⟩
  fn_entry K (lps_from (l := []) rfl trivial) (by kernel_rfl) (fun x y h => (F_order_done_eq x).trans h) rfl rfl

def F_order_sent (x0 : SOrder) (x1 : SNote) : Option (SOrder × Bool) := cnd (ieq x1.what 1) (some (SOrder.mk x0.id x0.account x0.symbol x0.side x0.qty x0.price x0.filled 2 x0.newQty x0.newPrice x0.version x0.asked, true)) (cnd (ieq x1.what 2) (obind (F_order_done x0) fun y0 ↦ some (y0, true)) (some (x0, false)))
noncomputable def C_order_sent : Cx := { P := PG, ety := ety, fn := look [(145, spec_order_done)], inl := memN [], lp := lookLp [] }
theorem F_order_sent_eq (x0 : SOrder) (x1 : SNote) : runFn C_order_sent 133 [.val .order, .val .note] [.val .order, .bool] (x0, x1) = F_order_sent x0 x1 := by kernel_rfl
def spec_order_sent : FnSpec := mkSpec [.val .order, .val .note] [.val .order, .bool] true (fun x => F_order_sent x.1 x.2)
theorem ok_order_sent : FnOk PG 133 spec_order_sent :=
  have K : CxR C_order_sent := seatOk.cx (fun _ => rfl) (l := [(145, spec_order_done)]) ⟨ok_order_done, trivial⟩
  fn_entry K (lps_from (l := []) rfl trivial) (by kernel_rfl) (fun x y h => (F_order_sent_eq x.1 x.2).trans h) rfl rfl

def F_order_live (x0 : SOrder) (x1 : SNote) : Option (SOrder × Bool) := cnd (ieq x1.what 3) (cnd (ilt (wr IntKind.i64 (isub x0.qty x0.filled)) x1.qty) (some (x0, false)) (cnd (ilt (wr IntKind.i64 (iadd x0.filled x1.qty)) x0.qty) (some (SOrder.mk x0.id x0.account x0.symbol x0.side x0.qty x0.price (wr IntKind.i64 (iadd x0.filled x1.qty)) x0.phase x0.newQty x0.newPrice x0.version x0.asked, true)) (obind (F_order_done (SOrder.mk x0.id x0.account x0.symbol x0.side x0.qty x0.price (wr IntKind.i64 (iadd x0.filled x1.qty)) x0.phase x0.newQty x0.newPrice x0.version x0.asked)) fun y0 ↦ some (y0, true)))) (cnd (ieq x1.what 4) (obind (F_order_done x0) fun y1 ↦ some (y1, true)) (cnd (ieq x1.what 5) (obind (F_order_pending x0) fun y2 ↦ cnd (bor (bor (bor (bnot y2) (bnot (ieq x1.qty x0.newQty))) (bnot (ieq x1.price x0.newPrice))) (ile x1.qty x0.filled)) (some (x0, false)) (obind (F_order_settled (SOrder.mk x0.id x0.account x0.symbol x0.side x1.qty x1.price x0.filled x0.phase x0.newQty x0.newPrice x0.version x0.asked)) fun y3 ↦ some (y3, true))) (cnd (ieq x1.what 6) (obind (F_order_settled x0) fun y4 ↦ obind (F_order_pending x0) fun y5 ↦ some (y4, y5)) (some (x0, false)))))
noncomputable def C_order_live : Cx := { P := PG, ety := ety, fn := look [(145, spec_order_done), (132, spec_order_pending), (146, spec_order_settled)], inl := memN [], lp := lookLp [] }
theorem F_order_live_eq (x0 : SOrder) (x1 : SNote) : runFn C_order_live 134 [.val .order, .val .note] [.val .order, .bool] (x0, x1) = F_order_live x0 x1 := by kernel_rfl
def spec_order_live : FnSpec := mkSpec [.val .order, .val .note] [.val .order, .bool] true (fun x => F_order_live x.1 x.2)
theorem ok_order_live : FnOk PG 134 spec_order_live :=
  have K : CxR C_order_live := seatOk.cx (fun _ => rfl) (l := [(145, spec_order_done), (132, spec_order_pending), (146, spec_order_settled)]) ⟨ok_order_done, ok_order_pending, ok_order_settled, trivial⟩
  fn_entry K (lps_from (l := []) rfl trivial) (by kernel_rfl) (fun x y h => (F_order_live_eq x.1 x.2).trans h) rfl rfl

def F_order_Take (x0 : SOrder) (x1 : SNote) : Option (SOrder × Int) := obind (F_order_Right x0) fun y0 ↦ obind (cnd (bnot (bnot y0)) (F_rec_OfNote x1) (some (SRec.mk 0 0 0 0 0 0 0 0 0 0 false 0 0))) fun y1 ↦ obind (cnd (bnot (bnot y0)) (F_rec_Right y1) (some false)) fun y2 ↦ cnd (bor (bor (bnot y0) (bnot y2)) (bnot (ieq x1.order x0.id))) (some (x0, 1)) (cnd (ieq x0.phase 1) (obind (F_order_sent x0 x1) fun y3 ↦ cnd (bnot y3.snd) (some (x0, 8)) (some (y3.fst, 0))) (cnd (ieq x0.phase 2) (obind (F_order_live x0 x1) fun y4 ↦ cnd (bnot y4.snd) (some (x0, 8)) (some (y4.fst, 0))) (some (x0, 8))))
noncomputable def C_order_Take : Cx := { P := PG, ety := ety, fn := look [(116, spec_order_Right), (71, spec_rec_OfNote), (61, spec_rec_Right), (133, spec_order_sent), (134, spec_order_live)], inl := memN [], lp := lookLp [] }
theorem F_order_Take_eq (x0 : SOrder) (x1 : SNote) : runFn C_order_Take 104 [.val .order, .val .note] [.val .order, .int .i64] (x0, x1) = F_order_Take x0 x1 := by kernel_rfl
def spec_order_Take : FnSpec := mkSpec [.val .order, .val .note] [.val .order, .int .i64] true (fun x => F_order_Take x.1 x.2)
theorem ok_order_Take : FnOk PG 104 spec_order_Take :=
  have K : CxR C_order_Take := seatOk.cx (fun _ => rfl) (l := [(116, spec_order_Right), (71, spec_rec_OfNote), (61, spec_rec_Right), (133, spec_order_sent), (134, spec_order_live)]) ⟨ok_order_Right, ok_rec_OfNote, ok_rec_Right, ok_order_sent, ok_order_live, trivial⟩
  fn_entry K (lps_from (l := []) rfl trivial) (by kernel_rfl) (fun x y h => (F_order_Take_eq x.1 x.2).trans h) rfl rfl

def F_cell_Did (x0 : SCell) (x1 : Int) (x2 : Int) : Option (SCell × Int) := obind (F_cell_Right x0) fun y0 ↦ cnd (bor (bor (bnot y0) (band (bnot (ieq x1 1)) (bnot (ieq x1 2)))) (ilt x2 0)) (some (x0, 1)) (cnd (ieq x1 1) (obind (F_num_Add x0.pos x2) fun y1 ↦ obind (cnd (bnot (bnot (ieq y1.snd 0))) (F_cell_Right (SCell.mk y1.fst x0.buy x0.sell x0.opn)) (some false)) fun y2 ↦ cnd (bor (bnot (ieq y1.snd 0)) (bnot y2)) (some (x0, 3)) (some (SCell.mk y1.fst x0.buy x0.sell x0.opn, 0))) (obind (F_num_Sub x0.pos x2) fun y3 ↦ obind (cnd (bnot (bnot (ieq y3.snd 0))) (F_cell_Right (SCell.mk y3.fst x0.buy x0.sell x0.opn)) (some false)) fun y4 ↦ cnd (bor (bnot (ieq y3.snd 0)) (bnot y4)) (some (x0, 3)) (some (SCell.mk y3.fst x0.buy x0.sell x0.opn, 0))))
noncomputable def C_cell_Did : Cx := { P := PG, ety := ety, fn := look [(113, spec_cell_Right), (29, spec_num_Add), (30, spec_num_Sub)], inl := memN [], lp := lookLp [] }
theorem F_cell_Did_eq (x0 : SCell) (x1 : Int) (x2 : Int) : runFn C_cell_Did 105 [.val .cell, .int .i64, .int .i64] [.val .cell, .int .i64] (x0, x1, x2) = F_cell_Did x0 x1 x2 := by kernel_rfl
def spec_cell_Did : FnSpec := mkSpec [.val .cell, .int .i64, .int .i64] [.val .cell, .int .i64] true (fun x => F_cell_Did x.1 x.2.1 x.2.2)
theorem ok_cell_Did : FnOk PG 105 spec_cell_Did :=
  have K : CxR C_cell_Did := seatOk.cx (fun _ => rfl) (l := [(113, spec_cell_Right), (29, spec_num_Add), (30, spec_num_Sub)]) ⟨ok_cell_Right, ok_num_Add, ok_num_Sub, trivial⟩
  fn_entry K (lps_from (l := []) rfl trivial) (by kernel_rfl) (fun x y h => (F_cell_Did_eq x.1 x.2.1 x.2.2).trans h) rfl rfl

def F_slices_Delete_api_Order (x0 : (List SOrder)) (x1 : Int) (x2 : Int) : Option ((List SOrder)) := cnd (band (band (band (ile 0 x1) (ile x1 x2)) (ile x2 (len x0))) (band (ile x2 (len x0)) (ile (len x0) (len x0)))) (cnd (ieq x1 x2) (some x0) (cnd (band (ile 0 x1) (ile x1 (len x0))) (cnd (band (ile 0 x2) (ile x2 (len x0))) (cnd (ile (iadd (nti (itn x1)) (len (ltake (ldrop x0 (itn x2)) (itn (isub (len x0) x2))))) (len x0)) (cnd (band (band (ile 0 (nti (nad (itn x1) (itn (len (ltake (ldrop x0 (itn x2)) (itn (isub (len x0) x2)))))))) (ile (nti (nad (itn x1) (itn (len (ltake (ldrop x0 (itn x2)) (itn (isub (len x0) x2))))))) (len x0))) (ile (len x0) (isub (len (lcpy x0 (itn x1) (ltake (ldrop x0 (itn x2)) (itn (isub (len x0) x2))))) 0))) (some (ltake (ldrop (lcpy (lcpy x0 (itn x1) (ltake (ldrop x0 (itn x2)) (itn (isub (len x0) x2)))) (nad 0 (itn (nti (nad (itn x1) (itn (len (ltake (ldrop x0 (itn x2)) (itn (isub (len x0) x2))))))))) (lrep SOrder (itn (isub (len x0) (nti (nad (itn x1) (itn (len (ltake (ldrop x0 (itn x2)) (itn (isub (len x0) x2))))))))))) 0) (nad (itn x1) (itn (len (ltake (ldrop x0 (itn x2)) (itn (isub (len x0) x2)))))))) none) none) none) none)) none
noncomputable def C_slices_Delete_api_Order : Cx := { P := PG, ety := ety, fn := look [], inl := memN [], lp := lookLp [] }
theorem F_slices_Delete_api_Order_eq (x0 : (List SOrder)) (x1 : Int) (x2 : Int) : runFn C_slices_Delete_api_Order 106 [.buf .order, .int .i64, .int .i64] [.ro .order] (x0, x1, x2) = F_slices_Delete_api_Order x0 x1 x2 := by kernel_rfl
def spec_slices_Delete_api_Order : FnSpec := mkSpec [.buf .order, .int .i64, .int .i64] [.ro .order] false (fun x => F_slices_Delete_api_Order x.1 x.2.1 x.2.2)
theorem ok_slices_Delete_api_Order : FnOk PG 106 spec_slices_Delete_api_Order :=
  have K : CxR C_slices_Delete_api_Order := seatOk.cx (fun _ => rfl) (l := []) trivial
  fn_entry K (lps_from (l := []) rfl trivial) (by kernel_rfl) (fun x y h => (F_slices_Delete_api_Order_eq x.1 x.2.1 x.2.2).trans h) rfl rfl

def F_book_Do (x0 : SState) (x1 : SRec) : Option (SState × Int) := obind (F_num_Add x0.lsn 1) fun y0 ↦ obind (cnd (bnot (bor (bnot (ieq y0.snd 0)) (ile 1000000000 x0.lsn))) (F_rec_Right x1) (some false)) fun y1 ↦ obind (cnd (bnot (bor (bor (bnot (ieq y0.snd 0)) (ile 1000000000 x0.lsn)) (bnot y1))) (F_book_Right x0) (some false)) fun y2 ↦ cnd (bor (bor (bor (bnot (ieq y0.snd 0)) (ile 1000000000 x0.lsn)) (bnot y1)) (bnot y2)) (some (x0, 1)) (obind (F_slices_Clone_api_Order x0.orders) fun y3 ↦ obind (F_slices_Clone_api_Cell x0.cells) fun y4 ↦ obind (F_slices_Clone_api_Expo x0.limits) fun y5 ↦ obind (F_slices_Clone_int64 x0.caps) fun y6 ↦ cnd (ieq x1.kind 1) (obind (F_order_Begin x1) fun y7 ↦ cnd (ile x1.order x0.last) (cnd (ile x1.order x0.last) (some (x0, 1)) (cnd x0.kill (some (x0, 5)) (cnd (ieq (len y3) 64) (some (x0, 6)) (obind (F_slices_Clone_api_Order y3) fun y8 ↦ obind (F_slices_Clone_api_Cell y4) fun y9 ↦ obind (F_slices_Clone_api_Expo y5) fun y10 ↦ obind (F_slices_Clone_int64 y6) fun y11 ↦ obind (F_book_ledger_cellOf (SState.mk x0.accounts x0.symbols y3 y4 y5 y6 x0.kill x0.last x0.seq x0.lsn) y7.fst.account y7.fst.symbol) fun y12 ↦ cnd (band (ile 0 y12) (ilt y12 (len y4))) (obind (F_cell_Come (lget y4 (itn y12)) y7.fst) fun y13 ↦ cnd (bnot (ieq y13.snd 0)) (some (x0, 3)) (cnd (ile (len (lapp y3 [y7.fst])) 68719476736) (obind (F_book_ledger_bears (SState.mk x0.accounts x0.symbols (lapp y3 [y7.fst]) (lset y4 (itn y12) y13.fst) y5 y6 x0.kill y7.fst.id x0.seq x0.lsn) (SState.mk x0.accounts x0.symbols y8 y9 y10 y11 x0.kill x0.last x0.seq x0.lsn) y7.fst.account y7.fst.symbol) fun y14 ↦ cnd (bnot (ieq y14 0)) (some (x0, y14)) (some (SState.mk x0.accounts x0.symbols (lapp y3 [y7.fst]) (lset y4 (itn y12) y13.fst) y5 y6 x0.kill y7.fst.id x0.seq (wr IntKind.i64 (iadd x0.lsn 1)), 0))) none)) none)))) (cnd (ile x0.accounts x1.account) (cnd (ile x0.accounts x1.account) (some (x0, 1)) (cnd x0.kill (some (x0, 5)) (cnd (ieq (len y3) 64) (some (x0, 6)) (obind (F_slices_Clone_api_Order y3) fun y15 ↦ obind (F_slices_Clone_api_Cell y4) fun y16 ↦ obind (F_slices_Clone_api_Expo y5) fun y17 ↦ obind (F_slices_Clone_int64 y6) fun y18 ↦ obind (F_book_ledger_cellOf (SState.mk x0.accounts x0.symbols y3 y4 y5 y6 x0.kill x0.last x0.seq x0.lsn) y7.fst.account y7.fst.symbol) fun y19 ↦ cnd (band (ile 0 y19) (ilt y19 (len y4))) (obind (F_cell_Come (lget y4 (itn y19)) y7.fst) fun y20 ↦ cnd (bnot (ieq y20.snd 0)) (some (x0, 3)) (cnd (ile (len (lapp y3 [y7.fst])) 68719476736) (obind (F_book_ledger_bears (SState.mk x0.accounts x0.symbols (lapp y3 [y7.fst]) (lset y4 (itn y19) y20.fst) y5 y6 x0.kill y7.fst.id x0.seq x0.lsn) (SState.mk x0.accounts x0.symbols y15 y16 y17 y18 x0.kill x0.last x0.seq x0.lsn) y7.fst.account y7.fst.symbol) fun y21 ↦ cnd (bnot (ieq y21 0)) (some (x0, y21)) (some (SState.mk x0.accounts x0.symbols (lapp y3 [y7.fst]) (lset y4 (itn y19) y20.fst) y5 y6 x0.kill y7.fst.id x0.seq (wr IntKind.i64 (iadd x0.lsn 1)), 0))) none)) none)))) (cnd (ile x0.symbols x1.symbol) (some (x0, 1)) (cnd x0.kill (some (x0, 5)) (cnd (ieq (len y3) 64) (some (x0, 6)) (obind (F_slices_Clone_api_Order y3) fun y22 ↦ obind (F_slices_Clone_api_Cell y4) fun y23 ↦ obind (F_slices_Clone_api_Expo y5) fun y24 ↦ obind (F_slices_Clone_int64 y6) fun y25 ↦ obind (F_book_ledger_cellOf (SState.mk x0.accounts x0.symbols y3 y4 y5 y6 x0.kill x0.last x0.seq x0.lsn) y7.fst.account y7.fst.symbol) fun y26 ↦ cnd (band (ile 0 y26) (ilt y26 (len y4))) (obind (F_cell_Come (lget y4 (itn y26)) y7.fst) fun y27 ↦ cnd (bnot (ieq y27.snd 0)) (some (x0, 3)) (cnd (ile (len (lapp y3 [y7.fst])) 68719476736) (obind (F_book_ledger_bears (SState.mk x0.accounts x0.symbols (lapp y3 [y7.fst]) (lset y4 (itn y26) y27.fst) y5 y6 x0.kill y7.fst.id x0.seq x0.lsn) (SState.mk x0.accounts x0.symbols y22 y23 y24 y25 x0.kill x0.last x0.seq x0.lsn) y7.fst.account y7.fst.symbol) fun y28 ↦ cnd (bnot (ieq y28 0)) (some (x0, y28)) (some (SState.mk x0.accounts x0.symbols (lapp y3 [y7.fst]) (lset y4 (itn y26) y27.fst) y5 y6 x0.kill y7.fst.id x0.seq (wr IntKind.i64 (iadd x0.lsn 1)), 0))) none)) none)))))) (cnd (ieq x1.kind 2) (obind (F_book_Find (SState.mk x0.accounts x0.symbols y3 y4 y5 y6 x0.kill x0.last x0.seq x0.lsn) x1.order) fun y29 ↦ cnd (ieq y29 (-1)) (some (x0, 7)) (cnd (band (ile 0 y29) (ilt y29 (len y3))) (obind (F_order_Change (lget y3 (itn y29)) x1.qty x1.price) fun y30 ↦ cnd (bnot (ieq y30.snd 0)) (some (x0, 8)) (cnd x0.kill (some (x0, 5)) (obind (F_slices_Clone_api_Order y3) fun y31 ↦ obind (F_slices_Clone_api_Cell y4) fun y32 ↦ obind (F_slices_Clone_api_Expo y5) fun y33 ↦ obind (F_slices_Clone_int64 y6) fun y34 ↦ obind (F_book_ledger_cellOf (SState.mk x0.accounts x0.symbols y3 y4 y5 y6 x0.kill x0.last x0.seq x0.lsn) (lget y3 (itn y29)).account (lget y3 (itn y29)).symbol) fun y35 ↦ cnd (band (ile 0 y35) (ilt y35 (len y4))) (obind (F_cell_Go (lget y4 (itn y35)) (lget y3 (itn y29))) fun y36 ↦ obind (F_cell_Come y36.fst y30.fst) fun y37 ↦ cnd (bnot (ieq y37.snd 0)) (some (x0, 3)) (cnd (band (ile 0 y29) (ilt y29 (len y3))) (obind (F_book_ledger_bears (SState.mk x0.accounts x0.symbols (lset y3 (itn y29) y30.fst) (lset y4 (itn y35) y37.fst) y5 y6 x0.kill x0.last x0.seq x0.lsn) (SState.mk x0.accounts x0.symbols y31 y32 y33 y34 x0.kill x0.last x0.seq x0.lsn) (lget y3 (itn y29)).account (lget y3 (itn y29)).symbol) fun y38 ↦ cnd (bnot (ieq y38 0)) (some (x0, y38)) (some (SState.mk x0.accounts x0.symbols (lset y3 (itn y29) y30.fst) (lset y4 (itn y35) y37.fst) y5 y6 x0.kill x0.last x0.seq (wr IntKind.i64 (iadd x0.lsn 1)), 0))) none)) none))) none)) (cnd (ieq x1.kind 3) (obind (F_book_Find (SState.mk x0.accounts x0.symbols y3 y4 y5 y6 x0.kill x0.last x0.seq x0.lsn) x1.order) fun y39 ↦ cnd (ieq y39 (-1)) (some (x0, 7)) (cnd (band (ile 0 y39) (ilt y39 (len y3))) (obind (F_order_End (lget y3 (itn y39))) fun y40 ↦ cnd (band (ile 0 y39) (ilt y39 (len y3))) (cnd (bnot (ieq y40.snd 0)) (some (x0, y40.snd)) (some (SState.mk x0.accounts x0.symbols (lset y3 (itn y39) y40.fst) y4 y5 y6 x0.kill x0.last x0.seq (wr IntKind.i64 (iadd x0.lsn 1)), 0))) none) none)) (cnd (ieq x1.kind 4) (cnd (ile x0.accounts x1.account) (cnd (ile x0.accounts x1.account) (some (x0, 1)) (cnd (ieq x1.symbol (-1)) (cnd (band (ile 0 x1.account) (ilt x1.account (len y6))) (some (SState.mk x0.accounts x0.symbols y3 y4 y5 (lset y6 (itn x1.account) x1.opn) x0.kill x0.last x0.seq (wr IntKind.i64 (iadd x0.lsn 1)), 0)) none) (obind (F_book_ledger_cellOf (SState.mk x0.accounts x0.symbols y3 y4 y5 y6 x0.kill x0.last x0.seq x0.lsn) x1.account x1.symbol) fun y41 ↦ cnd (band (ile 0 y41) (ilt y41 (len y5))) (some (SState.mk x0.accounts x0.symbols y3 y4 (lset y5 (itn y41) (SExpo.mk x1.long x1.short x1.opn)) y6 x0.kill x0.last x0.seq (wr IntKind.i64 (iadd x0.lsn 1)), 0)) none))) (cnd (ile x0.symbols x1.symbol) (some (x0, 1)) (cnd (ieq x1.symbol (-1)) (cnd (band (ile 0 x1.account) (ilt x1.account (len y6))) (some (SState.mk x0.accounts x0.symbols y3 y4 y5 (lset y6 (itn x1.account) x1.opn) x0.kill x0.last x0.seq (wr IntKind.i64 (iadd x0.lsn 1)), 0)) none) (obind (F_book_ledger_cellOf (SState.mk x0.accounts x0.symbols y3 y4 y5 y6 x0.kill x0.last x0.seq x0.lsn) x1.account x1.symbol) fun y42 ↦ cnd (band (ile 0 y42) (ilt y42 (len y5))) (some (SState.mk x0.accounts x0.symbols y3 y4 (lset y5 (itn y42) (SExpo.mk x1.long x1.short x1.opn)) y6 x0.kill x0.last x0.seq (wr IntKind.i64 (iadd x0.lsn 1)), 0)) none)))) (cnd (ieq x1.kind 5) (some (SState.mk x0.accounts x0.symbols y3 y4 y5 y6 x1.on x0.last x0.seq (wr IntKind.i64 (iadd x0.lsn 1)), 0)) (cnd (bnot (ieq x1.seq (wr IntKind.i64 (iadd x0.seq 1)))) (some (x0, 11)) (obind (F_book_Find (SState.mk x0.accounts x0.symbols y3 y4 y5 y6 x0.kill x0.last x1.seq x0.lsn) x1.order) fun y43 ↦ cnd (ieq y43 (-1)) (some (SState.mk x0.accounts x0.symbols y3 y4 y5 y6 x0.kill x0.last x1.seq (wr IntKind.i64 (iadd x0.lsn 1)), 0)) (cnd (band (ile 0 y43) (ilt y43 (len y3))) (obind (F_order_Take (lget y3 (itn y43)) (SNote.mk x1.seq x1.what x1.order x1.qty x1.price)) fun y44 ↦ cnd (bnot (ieq y44.snd 0)) (some (SState.mk x0.accounts x0.symbols y3 y4 y5 y6 x0.kill x0.last x1.seq (wr IntKind.i64 (iadd x0.lsn 1)), 0)) (obind (F_book_ledger_cellOf (SState.mk x0.accounts x0.symbols y3 y4 y5 y6 x0.kill x0.last x1.seq x0.lsn) (lget y3 (itn y43)).account (lget y3 (itn y43)).symbol) fun y45 ↦ cnd (band (ile 0 y45) (ilt y45 (len y4))) (obind (F_cell_Go (lget y4 (itn y45)) (lget y3 (itn y43))) fun y46 ↦ obind (F_cell_Come (lget (lset y4 (itn y45) y46.fst) (itn y45)) y44.fst) fun y47 ↦ cnd (ieq x1.what 3) (obind (F_cell_Did (lget (lset (lset y4 (itn y45) y46.fst) (itn y45) y47.fst) (itn y45)) (lget y3 (itn y43)).side x1.qty) fun y48 ↦ cnd (band (ile 0 y43) (ilt y43 (len y3))) (cnd (ieq y44.fst.phase 3) (obind (F_slices_Delete_api_Order (lset y3 (itn y43) y44.fst) y43 (wr IntKind.i64 (iadd y43 1))) fun y49 ↦ some (SState.mk x0.accounts x0.symbols y49 (lset (lset (lset y4 (itn y45) y46.fst) (itn y45) y47.fst) (itn y45) y48.fst) y5 y6 x0.kill x0.last x1.seq (wr IntKind.i64 (iadd x0.lsn 1)), 0)) (some (SState.mk x0.accounts x0.symbols (lset y3 (itn y43) y44.fst) (lset (lset (lset y4 (itn y45) y46.fst) (itn y45) y47.fst) (itn y45) y48.fst) y5 y6 x0.kill x0.last x1.seq (wr IntKind.i64 (iadd x0.lsn 1)), 0))) none) (cnd (band (ile 0 y43) (ilt y43 (len y3))) (cnd (ieq y44.fst.phase 3) (obind (F_slices_Delete_api_Order (lset y3 (itn y43) y44.fst) y43 (wr IntKind.i64 (iadd y43 1))) fun y50 ↦ some (SState.mk x0.accounts x0.symbols y50 (lset (lset y4 (itn y45) y46.fst) (itn y45) y47.fst) y5 y6 x0.kill x0.last x1.seq (wr IntKind.i64 (iadd x0.lsn 1)), 0)) (some (SState.mk x0.accounts x0.symbols (lset y3 (itn y43) y44.fst) (lset (lset y4 (itn y45) y46.fst) (itn y45) y47.fst) y5 y6 x0.kill x0.last x1.seq (wr IntKind.i64 (iadd x0.lsn 1)), 0))) none)) none)) none))))))))
noncomputable def C_book_Do : Cx := { P := PG, ety := ety, fn := look [(29, spec_num_Add), (61, spec_rec_Right), (31, spec_book_Right), (26, spec_slices_Clone_api_Order), (94, spec_slices_Clone_api_Cell), (95, spec_slices_Clone_api_Expo), (96, spec_slices_Clone_int64), (97, spec_order_Begin), (75, spec_book_ledger_cellOf), (98, spec_cell_Come), (99, spec_book_ledger_bears), (100, spec_book_Find), (101, spec_order_Change), (102, spec_cell_Go), (103, spec_order_End), (104, spec_order_Take), (105, spec_cell_Did), (106, spec_slices_Delete_api_Order)], inl := memN [62, 63, 64, 65, 66, 67], lp := lookLp [] }
theorem F_book_Do_eq (x0 : SState) (x1 : SRec) : runFn C_book_Do 22 [.val .state, .val .recd] [.val .state, .int .i64] (x0, x1) = F_book_Do x0 x1 := by kernel_rfl
def spec_book_Do : FnSpec := mkSpec [.val .state, .val .recd] [.val .state, .int .i64] false (fun x => F_book_Do x.1 x.2)
theorem ok_book_Do : FnOk PG 22 spec_book_Do :=
  have K : CxR C_book_Do := seatOk.cx (fun _ => rfl) (l := [(29, spec_num_Add), (61, spec_rec_Right), (31, spec_book_Right), (26, spec_slices_Clone_api_Order), (94, spec_slices_Clone_api_Cell), (95, spec_slices_Clone_api_Expo), (96, spec_slices_Clone_int64), (97, spec_order_Begin), (75, spec_book_ledger_cellOf), (98, spec_cell_Come), (99, spec_book_ledger_bears), (100, spec_book_Find), (101, spec_order_Change), (102, spec_cell_Go), (103, spec_order_End), (104, spec_order_Take), (105, spec_cell_Did), (106, spec_slices_Delete_api_Order)]) ⟨ok_num_Add, ok_rec_Right, ok_book_Right, ok_slices_Clone_api_Order, ok_slices_Clone_api_Cell, ok_slices_Clone_api_Expo, ok_slices_Clone_int64, ok_order_Begin, ok_book_ledger_cellOf, ok_cell_Come, ok_book_ledger_bears, ok_book_Find, ok_order_Change, ok_cell_Go, ok_order_End, ok_order_Take, ok_cell_Did, ok_slices_Delete_api_Order, trivial⟩
  fn_entry K (lps_from (l := []) rfl trivial) (by kernel_rfl) (fun x y h => (F_book_Do_eq x.1 x.2).trans h) rfl rfl

def F_book_Place (x0 : SState) (x1 : Int) (x2 : Int) : Option (Int) := cnd (bor (bor (bor (ilt x1 0) (ile x0.accounts x1)) (ilt x2 0)) (ile x0.symbols x2)) (some (-1)) (obind (F_book_ledger_cellOf x0 x1 x2) fun y0 ↦ some y0)
noncomputable def C_book_Place : Cx := { P := PG, ety := ety, fn := look [(75, spec_book_ledger_cellOf)], inl := memN [], lp := lookLp [] }
theorem F_book_Place_eq (x0 : SState) (x1 : Int) (x2 : Int) : runFn C_book_Place 33 [.val .state, .int .i64, .int .i64] [.int .i64] (x0, x1, x2) = F_book_Place x0 x1 x2 := by kernel_rfl
def spec_book_Place : FnSpec := mkSpec [.val .state, .int .i64, .int .i64] [.int .i64] true (fun x => F_book_Place x.1 x.2.1 x.2.2)
theorem ok_book_Place : FnOk PG 33 spec_book_Place :=
  have K : CxR C_book_Place := seatOk.cx (fun _ => rfl) (l := [(75, spec_book_ledger_cellOf)]) ⟨ok_book_ledger_cellOf, trivial⟩
  fn_entry K (lps_from (l := []) rfl trivial) (by kernel_rfl) (fun x y h => (F_book_Place_eq x.1 x.2.1 x.2.2).trans h) rfl rfl

def F_book_Expo (x0 : SState) (x1 : Int) (x2 : Int) : Option (SExpo × Int) := obind (F_book_Place x0 x1 x2) fun y0 ↦ obind (cnd (bnot (ieq y0 (-1))) (F_book_Right x0) (some false)) fun y1 ↦ cnd (bor (ieq y0 (-1)) (bnot y1)) (some (SExpo.mk 0 0 0, 1)) (cnd (band (ile 0 y0) (ilt y0 (len x0.cells))) (obind (F_cell_Of (lget x0.cells (itn y0))) fun y2 ↦ some y2) none)
noncomputable def C_book_Expo : Cx := { P := PG, ety := ety, fn := look [(33, spec_book_Place), (31, spec_book_Right), (76, spec_cell_Of)], inl := memN [], lp := lookLp [] }
theorem F_book_Expo_eq (x0 : SState) (x1 : Int) (x2 : Int) : runFn C_book_Expo 34 [.val .state, .int .i64, .int .i64] [.val .expo, .int .i64] (x0, x1, x2) = F_book_Expo x0 x1 x2 := by kernel_rfl
def spec_book_Expo : FnSpec := mkSpec [.val .state, .int .i64, .int .i64] [.val .expo, .int .i64] true (fun x => F_book_Expo x.1 x.2.1 x.2.2)
theorem ok_book_Expo : FnOk PG 34 spec_book_Expo :=
  have K : CxR C_book_Expo := seatOk.cx (fun _ => rfl) (l := [(33, spec_book_Place), (31, spec_book_Right), (76, spec_cell_Of)]) ⟨ok_book_Place, ok_book_Right, ok_cell_Of, trivial⟩
  fn_entry K (lps_from (l := []) rfl trivial) (by kernel_rfl) (fun x y h => (F_book_Expo_eq x.1 x.2.1 x.2.2).trans h) rfl rfl

def F_cell_Covers (x0 : SExpo) (x1 : SExpo) : Option (Bool) := some (band (band (ile x1.long x0.long) (ile x1.short x0.short)) (ile x1.opn x0.opn))
noncomputable def C_cell_Covers : Cx := { P := PG, ety := ety, fn := look [], inl := memN [], lp := lookLp [] }
theorem F_cell_Covers_eq (x0 : SExpo) (x1 : SExpo) : runFn C_cell_Covers 18 [.val .expo, .val .expo] [.bool] (x0, x1) = F_cell_Covers x0 x1 := by kernel_rfl
def spec_cell_Covers : FnSpec := mkSpec [.val .expo, .val .expo] [.bool] true (fun x => F_cell_Covers x.1 x.2)
theorem ok_cell_Covers : FnOk PG 18 spec_cell_Covers :=
  have K : CxR C_cell_Covers := seatOk.cx (fun _ => rfl) (l := []) trivial
  fn_entry K (lps_from (l := []) rfl trivial) (by kernel_rfl) (fun x y h => (F_cell_Covers_eq x.1 x.2).trans h) rfl rfl

def S_truth_Covers_58 : LSh := ⟨85, [(28, .int .i64), (27, .ro .order)], [(2, .mp 16 0)], [(16, [.val .state])], [(29, .int .i64), (4, .bool)], [], []⟩
@[reducible] def O_truth_Covers_58 : List LOut := [⟨.ret, [(4, .bool)], [], []⟩, ⟨.exit 0, [(4, .bool)], [], []⟩]
def L_truth_Covers_58 (p0 : Int) (p1 : (List SOrder)) (p2 : SState) (v0 : Int) (v1 : Bool) : Option ((Int × Bool) ⊕ ((Bool) ⊕ ((Bool)))) := cnd (ilt v0 p0) (cnd (band (ile 0 v0) (ilt v0 (len p1))) (obind (F_book_Place p2 (lget p1 (itn v0)).account (lget p1 (itn v0)).symbol) fun y0 ↦ cnd (ieq y0 (-1)) (some (Sum.inr (Sum.inl false))) (some (Sum.inl (wr IntKind.i64 (iadd v0 1), v1)))) none) (some (Sum.inr (Sum.inr v1)))
def Ls_truth_Covers_58 : LSpec := S_truth_Covers_58.spec O_truth_Covers_58 [30, 31, 32, 6, 33, 34, 35, 36, 37, 38, 39, 4, 40, 29] (fun p v => L_truth_Covers_58 p.1 p.2.1 p.2.2 v.1 v.2)
def S_truth_Covers_122 : LSh := ⟨156, [(43, .int .i64)], [(3, .mp 24 0), (2, .mp 16 0)], [(24, [.val .venue]), (16, [.val .state])], [(44, .int .i64), (4, .bool)], [], []⟩
@[reducible] def O_truth_Covers_122 : List LOut := [⟨.ret, [(4, .bool)], [], []⟩, ⟨.exit 2, [(4, .bool)], [], []⟩]
def L_truth_Covers_122 (p0 : Int) (p1 : SVenue) (p2 : SState) (v0 : Int) (v1 : Bool) : Option ((Int × Bool) ⊕ ((Bool) ⊕ ((Bool)))) := cnd (ilt v0 p0) (cnd (bnot (ieq p2.symbols 0)) (cnd (bnot (ieq p2.symbols 0)) (obind (F_truth_Of p1 (wr IntKind.i64 (iquo v0 p2.symbols)) (irem v0 p2.symbols)) fun y0 ↦ obind (F_book_Expo p2 (wr IntKind.i64 (iquo v0 p2.symbols)) (irem v0 p2.symbols)) fun y1 ↦ obind (cnd (bnot (bnot (ieq y0.snd 0))) (F_cell_Covers y1.fst y0.fst) (some false)) fun y2 ↦ cnd (bor (bnot (ieq y0.snd 0)) (bnot y2)) (some (Sum.inr (Sum.inl false))) (some (Sum.inl (wr IntKind.i64 (iadd v0 1), v1)))) none) none) (some (Sum.inr (Sum.inr v1)))
def Ls_truth_Covers_122 : LSpec := S_truth_Covers_122.spec O_truth_Covers_122 [45, 46, 7, 47, 48, 49, 50, 51, 52, 53, 54, 8, 9, 56, 57, 58, 59, 55, 60, 61, 10, 11, 63, 64, 65, 66, 62, 67, 68, 12, 13, 69, 70, 71, 72, 73, 74, 75, 76, 4, 77, 44] (fun p v => L_truth_Covers_122 p.1 p.2.1 p.2.2 v.1 v.2)
def F_truth_Covers (x0 : SState) (x1 : SVenue) : Option (Bool) := obind (F_book_Right x0) fun y0 ↦ obind (cnd (bnot (bnot y0)) (F_venue_Right x1) (some false)) fun y1 ↦ cnd (bor (bnot y0) (bnot y1)) (some false) (obind (F_slices_Clone_api_Order x1.orders) fun y2 ↦ obind (F_truth_coming x1) fun y3 ↦ cnd (ile (len (lapp y2 y3)) 68719476736) (obind (iterN (fun v ↦ L_truth_Covers_58 (len (lapp y2 y3)) (lapp y2 y3) x0 v.fst v.snd) LF (0, false)) fun y4 ↦ sumK y4 (fun y5 ↦ some y5) fun y5 ↦ obind (iterN (fun v ↦ L_truth_Covers_122 (len x0.cells) x1 x0 v.fst v.snd) LF (0, y5)) fun y6 ↦ sumK y6 (fun y7 ↦ some y7) fun y7 ↦ some true) none)
noncomputable def C_truth_Covers : Cx := { P := PG, ety := ety, fn := look [(31, spec_book_Right), (32, spec_venue_Right), (26, spec_slices_Clone_api_Order), (27, spec_truth_coming), (33, spec_book_Place), (10, spec_truth_Of), (34, spec_book_Expo), (18, spec_cell_Covers)], inl := memN [], lp := lookLp [(11, 58, Ls_truth_Covers_58), (11, 122, Ls_truth_Covers_122)] }
theorem L_truth_Covers_58_eq (p0 : Int) (p1 : (List SOrder)) (p2 : SState) (v0 : Int) (v1 : Bool) : runLp C_truth_Covers 900 11 58 (lpBody PG 11 58) S_truth_Covers_58 O_truth_Covers_58 (p0, p1, p2) (v0, v1) = L_truth_Covers_58 p0 p1 p2 v0 v1 := by kernel_rfl
theorem L_truth_Covers_122_eq (p0 : Int) (p1 : SVenue) (p2 : SState) (v0 : Int) (v1 : Bool) : runLp C_truth_Covers 900 11 122 (lpBody PG 11 122) S_truth_Covers_122 O_truth_Covers_122 (p0, p1, p2) (v0, v1) = L_truth_Covers_122 p0 p1 p2 v0 v1 := by kernel_rfl
theorem F_truth_Covers_eq (x0 : SState) (x1 : SVenue) : runFn C_truth_Covers 11 [.val .state, .val .venue] [.bool] (x0, x1) = F_truth_Covers x0 x1 := by kernel_rfl
def spec_truth_Covers : FnSpec := mkSpec [.val .state, .val .venue] [.bool] true (fun x => F_truth_Covers x.1 x.2)
theorem ok_truth_Covers : FnOk PG 11 spec_truth_Covers :=
  have K : CxR C_truth_Covers := seatOk.cx (fun _ => rfl) (l := [(31, spec_book_Right), (32, spec_venue_Right), (26, spec_slices_Clone_api_Order), (27, spec_truth_coming), (33, spec_book_Place), (10, spec_truth_Of), (34, spec_book_Expo), (18, spec_cell_Covers)]) ⟨ok_book_Right, ok_venue_Right, ok_slices_Clone_api_Order, ok_truth_coming, ok_book_Place, ok_truth_Of, ok_book_Expo, ok_cell_Covers, trivial⟩
  fn_entry K (lps_from (l := [(11, 58, Ls_truth_Covers_58), (11, 122, Ls_truth_Covers_122)]) rfl ⟨lp_entry (n := 900) (f := 11) K (by kernel_rfl) (by kernel_rfl) (by kernel_rfl) (by kernel_rfl) (by kernel_rfl) (fun p v r h => (L_truth_Covers_58_eq p.1 p.2.1 p.2.2 v.1 v.2).trans h),
    lp_entry (n := 900) (f := 11) K (by kernel_rfl) (by kernel_rfl) (by kernel_rfl) (by kernel_rfl) (by kernel_rfl) (fun p v r h => (L_truth_Covers_122_eq p.1 p.2.1 p.2.2 v.1 v.2).trans h), trivial⟩) (by kernel_rfl) (fun x y h => (F_truth_Covers_eq x.1 x.2).trans h) rfl rfl

def F_snafflelaw23_awake : Option (Bool) := obind (F_venue_Send (SVenue.mk [] [] []) (SMsg.mk 1 1 0 0 1 5 2 0 0)) fun y0 ↦ obind (F_truth_Of y0.fst 0 0) fun y1 ↦ obind (F_venue_Take y0.fst true) fun y2 ↦ obind (F_venue_Fill y2.fst 1 3) fun y3 ↦ obind (F_truth_Of y3.fst 0 0) fun y4 ↦ obind (F_truth_Pos y3.fst 0 0) fun y5 ↦ obind (F_book_New 1 1 (SExpo.mk 9 9 99) 99) fun y6 ↦ obind (F_book_Do y6.fst (SRec.mk 1 1 0 0 1 5 2 0 0 0 false 0 0)) fun y7 ↦ obind (cnd (band (band (band (band (band (band (band (band (band (band (ieq y0.snd 0) (ieq y1.snd 0)) (ieq y2.snd 0)) (ieq y3.snd 0)) (ieq y4.snd 0)) (ieq y5.snd 0)) (ieq y6.snd 0)) (ieq y7.snd 0)) (band (ieq y1.fst.long 5) (band (ieq y1.fst.short 0) (ieq y1.fst.opn 10)))) (band (ieq y4.fst.long 5) (band (ieq y4.fst.short (-3)) (ieq y4.fst.opn 4)))) (ieq y5.fst 3)) (F_truth_Covers y7.fst y3.fst) (some false)) fun y8 ↦ obind (cnd (band (band (band (band (band (band (band (band (band (band (band (ieq y0.snd 0) (ieq y1.snd 0)) (ieq y2.snd 0)) (ieq y3.snd 0)) (ieq y4.snd 0)) (ieq y5.snd 0)) (ieq y6.snd 0)) (ieq y7.snd 0)) (band (ieq y1.fst.long 5) (band (ieq y1.fst.short 0) (ieq y1.fst.opn 10)))) (band (ieq y4.fst.long 5) (band (ieq y4.fst.short (-3)) (ieq y4.fst.opn 4)))) (ieq y5.fst 3)) y8) (F_truth_Covers y6.fst y3.fst) (some false)) fun y9 ↦ some (band (band (band (band (band (band (band (band (band (band (band (band (ieq y0.snd 0) (ieq y1.snd 0)) (ieq y2.snd 0)) (ieq y3.snd 0)) (ieq y4.snd 0)) (ieq y5.snd 0)) (ieq y6.snd 0)) (ieq y7.snd 0)) (band (ieq y1.fst.long 5) (band (ieq y1.fst.short 0) (ieq y1.fst.opn 10)))) (band (ieq y4.fst.long 5) (band (ieq y4.fst.short (-3)) (ieq y4.fst.opn 4)))) (ieq y5.fst 3)) y8) (bnot y9))
noncomputable def C_snafflelaw23_awake : Cx := { P := PG, ety := ety, fn := look [(16, spec_venue_Send), (10, spec_truth_Of), (17, spec_venue_Take), (19, spec_venue_Fill), (9, spec_truth_Pos), (21, spec_book_New), (22, spec_book_Do), (11, spec_truth_Covers)], inl := memN [], lp := lookLp [] }
theorem F_snafflelaw23_awake_eq : runFn C_snafflelaw23_awake 6 [] [.bool] () = F_snafflelaw23_awake := by kernel_rfl
def spec_snafflelaw23_awake : FnSpec := mkSpec [] [.bool] true (fun _ => F_snafflelaw23_awake)
theorem ok_snafflelaw23_awake : FnOk PG 6 spec_snafflelaw23_awake :=
  have K : CxR C_snafflelaw23_awake := seatOk.cx (fun _ => rfl) (l := [(16, spec_venue_Send), (10, spec_truth_Of), (17, spec_venue_Take), (19, spec_venue_Fill), (9, spec_truth_Pos), (21, spec_book_New), (22, spec_book_Do), (11, spec_truth_Covers)]) ⟨ok_venue_Send, ok_truth_Of, ok_venue_Take, ok_venue_Fill, ok_truth_Pos, ok_book_New, ok_book_Do, ok_truth_Covers, trivial⟩
  fn_entry K (lps_from (l := []) rfl trivial) (by kernel_rfl) (fun x y h => (F_snafflelaw23_awake_eq).trans h) rfl rfl

def F_snaffleref16_Short (x0 : SVenue) : Option (Bool) := some (band (band (ile (len x0.inbox) 450) (ile (len x0.orders) 450)) (ile (len x0.notes) 450))
noncomputable def C_snaffleref16_Short : Cx := { P := PG, ety := ety, fn := look [], inl := memN [], lp := lookLp [] }
theorem F_snaffleref16_Short_eq (x0 : SVenue) : runFn C_snaffleref16_Short 7 [.val .venue] [.bool] x0 = F_snaffleref16_Short x0 := by kernel_rfl
def spec_snaffleref16_Short : FnSpec := mkSpec [.val .venue] [.bool] true (fun x => F_snaffleref16_Short x)
theorem ok_snaffleref16_Short : FnOk PG 7 spec_snaffleref16_Short :=
  have K : CxR C_snaffleref16_Short := seatOk.cx (fun _ => rfl) (l := []) trivial
  fn_entry K (lps_from (l := []) rfl trivial) (by kernel_rfl) (fun x y h => (F_snaffleref16_Short_eq x).trans h) rfl rfl

def F_venue_Out (x0 : SVenue) (x1 : Int) : Option (SVenue × Int) := obind (F_venue_Right x0) fun y0 ↦ cnd (bnot y0) (some (x0, 1)) (obind (F_venue_Find x0 x1) fun y1 ↦ cnd (ieq y1 (-1)) (some (x0, 7)) (obind (F_slices_Clone_api_Msg x0.inbox) fun y2 ↦ obind (F_slices_Clone_api_Order x0.orders) fun y3 ↦ obind (F_slices_Clone_api_Note x0.notes) fun y4 ↦ obind (F_venue_Find (SVenue.mk y2 y3 y4) x1) fun y5 ↦ cnd (bor (band (ile 0 y5) (ilt y5 (len y3))) (bnot (bnot (ieq y5 (-1))))) (cnd (bor (ieq y5 (-1)) (bnot (ieq (lget y3 (itn y5)).phase 2))) (some (x0, 8)) (cnd (band (ile 0 y5) (ilt y5 (len y3))) (obind (F_venue_full x0) fun y6 ↦ cnd y6 (some (x0, 6)) (cnd (ile (len (lapp y4 [SNote.mk (wr IntKind.i64 (iadd (len y4) 1)) 4 (lget (lset y3 (itn y5) (SOrder.mk (lget y3 (itn y5)).id (lget y3 (itn y5)).account (lget y3 (itn y5)).symbol (lget y3 (itn y5)).side (lget y3 (itn y5)).qty (lget y3 (itn y5)).price (lget y3 (itn y5)).filled 3 (lget y3 (itn y5)).newQty (lget y3 (itn y5)).newPrice (lget y3 (itn y5)).version (lget y3 (itn y5)).asked)) (itn y5)).id 0 0])) 68719476736) (some (SVenue.mk y2 (lset y3 (itn y5) (SOrder.mk (lget y3 (itn y5)).id (lget y3 (itn y5)).account (lget y3 (itn y5)).symbol (lget y3 (itn y5)).side (lget y3 (itn y5)).qty (lget y3 (itn y5)).price (lget y3 (itn y5)).filled 3 (lget y3 (itn y5)).newQty (lget y3 (itn y5)).newPrice (lget y3 (itn y5)).version (lget y3 (itn y5)).asked)) (lapp y4 [SNote.mk (wr IntKind.i64 (iadd (len y4) 1)) 4 (lget (lset y3 (itn y5) (SOrder.mk (lget y3 (itn y5)).id (lget y3 (itn y5)).account (lget y3 (itn y5)).symbol (lget y3 (itn y5)).side (lget y3 (itn y5)).qty (lget y3 (itn y5)).price (lget y3 (itn y5)).filled 3 (lget y3 (itn y5)).newQty (lget y3 (itn y5)).newPrice (lget y3 (itn y5)).version (lget y3 (itn y5)).asked)) (itn y5)).id 0 0]), 0)) none)) none)) none))
noncomputable def C_venue_Out : Cx := { P := PG, ety := ety, fn := look [(32, spec_venue_Right), (83, spec_venue_Find), (49, spec_slices_Clone_api_Msg), (26, spec_slices_Clone_api_Order), (84, spec_slices_Clone_api_Note), (50, spec_venue_full)], inl := memN [57, 52, 55, 56, 58], lp := lookLp [] }
theorem F_venue_Out_eq (x0 : SVenue) (x1 : Int) : runFn C_venue_Out 20 [.val .venue, .int .i64] [.val .venue, .int .i64] (x0, x1) = F_venue_Out x0 x1 := by kernel_rfl
def spec_venue_Out : FnSpec := mkSpec [.val .venue, .int .i64] [.val .venue, .int .i64] false (fun x => F_venue_Out x.1 x.2)
theorem ok_venue_Out : FnOk PG 20 spec_venue_Out :=
  have K : CxR C_venue_Out := seatOk.cx (fun _ => rfl) (l := [(32, spec_venue_Right), (83, spec_venue_Find), (49, spec_slices_Clone_api_Msg), (26, spec_slices_Clone_api_Order), (84, spec_slices_Clone_api_Note), (50, spec_venue_full)]) ⟨ok_venue_Right, ok_venue_Find, ok_slices_Clone_api_Msg, ok_slices_Clone_api_Order, ok_slices_Clone_api_Note, ok_venue_full, trivial⟩
  fn_entry K (lps_from (l := []) rfl trivial) (by kernel_rfl) (fun x y h => (F_venue_Out_eq x.1 x.2).trans h) rfl rfl

def F_snafflelaw23_TruthLess (x0 : SVenue) (x1 : Int) (x2 : Int) (x3 : Bool) (x4 : Int) (x5 : Int) : Option (Bool) := obind F_snafflelaw23_awake fun y0 ↦ cnd (bnot y0) (some false) (obind (F_snaffleref16_Short x0) fun y1 ↦ cnd (bnot y1) (some true) (obind (F_truth_Of x0 x1 x2) fun y2 ↦ cnd (bnot (ieq y2.snd 0)) (some (band (ieq y2.fst.long 0) (band (ieq y2.fst.short 0) (ieq y2.fst.opn 0)))) (obind (F_venue_Take x0 x3) fun y3 ↦ obind (F_truth_Of y3.fst x1 x2) fun y4 ↦ obind (cnd (band (ieq y3.snd 0) (ieq y4.snd 0)) (F_cell_Covers y2.fst y4.fst) (some false)) fun y5 ↦ cnd (band (band (ieq y3.snd 0) (ieq y4.snd 0)) (bnot y5)) (some false) (obind (F_venue_Fill x0 x4 x5) fun y6 ↦ obind (F_truth_Of y6.fst x1 x2) fun y7 ↦ obind (cnd (band (ieq y6.snd 0) (ieq y7.snd 0)) (F_cell_Covers y2.fst y7.fst) (some false)) fun y8 ↦ cnd (band (band (ieq y6.snd 0) (ieq y7.snd 0)) (bnot y8)) (some false) (obind (F_venue_Out x0 x4) fun y9 ↦ obind (F_truth_Of y9.fst x1 x2) fun y10 ↦ obind (cnd (bnot (bor (bnot (ieq y9.snd 0)) (bnot (ieq y10.snd 0)))) (F_cell_Covers y2.fst y10.fst) (some false)) fun y11 ↦ some (bor (bor (bnot (ieq y9.snd 0)) (bnot (ieq y10.snd 0))) y11))))))
noncomputable def C_snafflelaw23_TruthLess : Cx := { P := PG, ety := ety, fn := look [(6, spec_snafflelaw23_awake), (7, spec_snaffleref16_Short), (10, spec_truth_Of), (17, spec_venue_Take), (18, spec_cell_Covers), (19, spec_venue_Fill), (20, spec_venue_Out)], inl := memN [], lp := lookLp [] }
theorem F_snafflelaw23_TruthLess_eq (x0 : SVenue) (x1 : Int) (x2 : Int) (x3 : Bool) (x4 : Int) (x5 : Int) : runFn C_snafflelaw23_TruthLess 5 [.val .venue, .int .i64, .int .i64, .bool, .int .i64, .int .i64] [.bool] (x0, x1, x2, x3, x4, x5) = F_snafflelaw23_TruthLess x0 x1 x2 x3 x4 x5 := by kernel_rfl
def spec_snafflelaw23_TruthLess : FnSpec := mkSpec [.val .venue, .int .i64, .int .i64, .bool, .int .i64, .int .i64] [.bool] true (fun x => F_snafflelaw23_TruthLess x.1 x.2.1 x.2.2.1 x.2.2.2.1 x.2.2.2.2.1 x.2.2.2.2.2)
theorem ok_snafflelaw23_TruthLess : FnOk PG 5 spec_snafflelaw23_TruthLess :=
  have K : CxR C_snafflelaw23_TruthLess := seatOk.cx (fun _ => rfl) (l := [(6, spec_snafflelaw23_awake), (7, spec_snaffleref16_Short), (10, spec_truth_Of), (17, spec_venue_Take), (18, spec_cell_Covers), (19, spec_venue_Fill), (20, spec_venue_Out)]) ⟨ok_snafflelaw23_awake, ok_snaffleref16_Short, ok_truth_Of, ok_venue_Take, ok_cell_Covers, ok_venue_Fill, ok_venue_Out, trivial⟩
  fn_entry K (lps_from (l := []) rfl trivial) (by kernel_rfl) (fun x y h => (F_snafflelaw23_TruthLess_eq x.1 x.2.1 x.2.2.1 x.2.2.2.1 x.2.2.2.2.1 x.2.2.2.2.2).trans h) rfl rfl


end
end Go.Av
