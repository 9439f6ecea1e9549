/- For every input the law TruthLess returns true, and each argument reads behind the call as it read before. No condition. -/
import Derived.Test.YtgjlcclclmegpaaGreatPTruthLess0
import Derived.Test.YtgjlcclclmegpaaGreatAvE
import Derived.Test.YtgjlcclclmegpaaGreatRows
import Derived.ProofKit
import Derived.OpenShut
import Derived.ShutString
import Derived.ChangeOld
import Derived.Below
import Derived.KernelRfl
namespace Go.Proofs.YtgjlcclclmegpaaGreat
open Go.ChangeShapes Go.WideShapes Go.ChangeAt Go.RowKit
set_option linter.unusedVariables false
theorem ownK : ownKnob Tryz.prog.godebug = none := by kernel_rfl
theorem laidO : laidOutB Tryz.prog = true := by kernel_rfl
set_option maxRecDepth 100000 in
theorem lifted (os : Os) (started : os.Started) (H : Type) (enc : TypeId × Value → H) :
    ReturnsInHanded {} Tryz.checked os 5 .any (Rows.truthLessSpec.pre6 enc Tryz.prog Tryz.f5 Rows.truthLessRow.domain false) (Rows.truthLessSpec.post enc Tryz.prog Tryz.f5 false true false false) := by
  refine returnsInHanded_of_change (C := Tryz.checked) ownK started (by kernel_rfl) Tryz.func5
    (ChangeSpec.witness6 (enc := enc) (C := Tryz.checked) false ⟨#[], #[.agg #[.slice none 0 0, .slice none 0 0, .slice none 0 0], .int .i64 0, .int .i64 0, .bool false, .int .i64 0, .int .i64 0], []⟩ 8 (by kernel_rfl) (by kernel_rfl) (by kernel_rfl) (by kernel_rfl)) ?_
  intro W base args ds gs before hval0 hW hcnd _
  have hval : ∀ (j : Nat) t v, Tryz.f5.params[j]? = some t → args[j]? = some v → Value.okWide Tryz.prog W .any base t v := hval0
  have hW' := hW
  obtain ⟨p, q, hA0, hV, rfl, hfz, hnd⟩ := hW
  have hA : DataW.TrodAll enc Tryz.prog W 0 (fun _ => true) true Tryz.f5.params.toList args.toList ds p := hA0
  rw [Tryz.params5] at hA hval
  obtain ⟨v0, vs0, d0, ds0, p0, q0, hargs, rfl, rfl, h0, r0⟩ := trodAll_cons hA
  obtain ⟨v1, vs1, d1, ds1, p1, q1, rfl, rfl, rfl, h1, r1⟩ := trodAll_cons r0
  obtain ⟨v2, vs2, d2, ds2, p2, q2, rfl, rfl, rfl, h2, r2⟩ := trodAll_cons r1
  obtain ⟨v3, vs3, d3, ds3, p3, q3, rfl, rfl, rfl, h3, r3⟩ := trodAll_cons r2
  obtain ⟨v4, vs4, d4, ds4, p4, q4, rfl, rfl, rfl, h4, r4⟩ := trodAll_cons r3
  obtain ⟨v5, vs5, d5, ds5, p5, q5, rfl, rfl, rfl, h5, r5⟩ := trodAll_cons r4
  obtain ⟨rfl, rfl, rfl⟩ := trodAll_nil r5
  obtain rfl : args = #[v0, v1, v2, v3, v4, v5] := by cases args; simp_all
  obtain ⟨rfl, rfl⟩ := trodVars_none hV
  obtain ⟨x0, k0, s0⟩ := Go.Av.arg_sh Go.Av.seatOk (.val .venue) (by kernel_rfl) (by kernel_rfl) rfl (hval 0 26 v0 rfl rfl) h0
  have lt0 : ∀ x ∈ p0, x.block < W.heap.size := by obtain ⟨m, hm⟩ := h0; exact DataW.trod_lt m _ _ _ hm
  obtain ⟨x1, k1, s1⟩ := Go.Av.arg_sh Go.Av.seatOk (.int .i64) (by kernel_rfl) (by kernel_rfl) rfl (hval 1 3 v1 rfl rfl) h1
  have lt1 : ∀ x ∈ p1, x.block < W.heap.size := by obtain ⟨m, hm⟩ := h1; exact DataW.trod_lt m _ _ _ hm
  obtain ⟨x2, k2, s2⟩ := Go.Av.arg_sh Go.Av.seatOk (.int .i64) (by kernel_rfl) (by kernel_rfl) rfl (hval 2 3 v2 rfl rfl) h2
  have lt2 : ∀ x ∈ p2, x.block < W.heap.size := by obtain ⟨m, hm⟩ := h2; exact DataW.trod_lt m _ _ _ hm
  obtain ⟨x3, k3, s3⟩ := Go.Av.arg_sh Go.Av.seatOk (.bool) (by kernel_rfl) (by kernel_rfl) rfl (hval 3 4 v3 rfl rfl) h3
  have lt3 : ∀ x ∈ p3, x.block < W.heap.size := by obtain ⟨m, hm⟩ := h3; exact DataW.trod_lt m _ _ _ hm
  obtain ⟨x4, k4, s4⟩ := Go.Av.arg_sh Go.Av.seatOk (.int .i64) (by kernel_rfl) (by kernel_rfl) rfl (hval 4 2 v4 rfl rfl) h4
  have lt4 : ∀ x ∈ p4, x.block < W.heap.size := by obtain ⟨m, hm⟩ := h4; exact DataW.trod_lt m _ _ _ hm
  obtain ⟨x5, k5, s5⟩ := Go.Av.arg_sh Go.Av.seatOk (.int .i64) (by kernel_rfl) (by kernel_rfl) rfl (hval 5 2 v5 rfl rfl) h5
  have lt5 : ∀ x ∈ p5, x.block < W.heap.size := by obtain ⟨m, hm⟩ := h5; exact DataW.trod_lt m _ _ _ hm
  clear hA0 hval0
  refine (Go.Av.law_calls Go.Av.seatOk (f := 5) (by kernel_rfl) Go.Av.ok_snafflelaw23_TruthLess rfl (x0, x1, x2, x3, x4, x5) (Go.Av.pure_TruthLess x0 x1 x2 x3 x4 x5 k0 k1 k2 k3 k4 k5) #[v0, v1, v2, v3, v4, v5] W (fun p hp => by simp [Go.Av.glL] at hp) rfl ?_).mono fun e W' ⟨he, bel⟩ => ?_
  · intro j a v g1 g2
    match j, g1, g2 with
    | 0, g1, g2 => rw [← Option.some.inj g1, ← Option.some.inj g2]; exact s0 _
    | 1, g1, g2 => rw [← Option.some.inj g1, ← Option.some.inj g2]; exact s1 _
    | 2, g1, g2 => rw [← Option.some.inj g1, ← Option.some.inj g2]; exact s2 _
    | 3, g1, g2 => rw [← Option.some.inj g1, ← Option.some.inj g2]; exact s3 _
    | 4, g1, g2 => rw [← Option.some.inj g1, ← Option.some.inj g2]; exact s4 _
    | 5, g1, g2 => rw [← Option.some.inj g1, ← Option.some.inj g2]; exact s5 _
    | j + 6, g1, g2 => cases g1
  · subst he
    exact ⟨_, rfl, _, _, _, [], _, [], hW', trodAll_mk1 (shut_bool Tryz.underlying4 _), (trodAll_cons_mk (Below.trod laidO (by kernel_rfl) (of_decide_eq_true (by kernel_rfl)) h0 bel lt0) (trodAll_cons_mk (Below.trod laidO (by kernel_rfl) (of_decide_eq_true (by kernel_rfl)) h1 bel lt1) (trodAll_cons_mk (Below.trod laidO (by kernel_rfl) (of_decide_eq_true (by kernel_rfl)) h2 bel lt2) (trodAll_cons_mk (Below.trod laidO (by kernel_rfl) (of_decide_eq_true (by kernel_rfl)) h3 bel lt3) (trodAll_cons_mk (Below.trod laidO (by kernel_rfl) (of_decide_eq_true (by kernel_rfl)) h4 bel lt4) (trodAll_cons_mk (Below.trod laidO (by kernel_rfl) (of_decide_eq_true (by kernel_rfl)) h5 bel lt5) trodAll_mk0)))))), rfl, bel.frame _, fun h => by cases h⟩
theorem over : Rows.truthLessRow.holds Tryz.pinned (OpenSpec.ofChange Rows.truthLessSpec) :=
  OpenClaim.holds_of_wide 5 Tryz.f5 rfl rfl rfl rfl rfl rfl rfl ⟨rfl, rfl, rfl, rfl, rfl⟩ rfl rfl rfl rfl rfl (by kernel_rfl) Tryz.func5 (by kernel_rfl)
    (of_decide_eq_true (by kernel_rfl)) (by unfold Func.isWrapper; first | (rw [if_pos (by decide +kernel)]; kernel_rfl) | (rw [if_neg (by decide +kernel)]; exact ⟨rfl, rfl⟩))
    (fun os started H enc _ => lifted os started H enc)
theorem proved : Rows.TruthLessSaid := over
end Go.Proofs.YtgjlcclclmegpaaGreat
