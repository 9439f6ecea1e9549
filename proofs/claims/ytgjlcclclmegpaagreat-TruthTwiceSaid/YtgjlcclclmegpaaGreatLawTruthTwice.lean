/- For every input the law TruthTwice returns true, and each argument reads behind the call as it read before. No condition. -/
import Derived.Test.YtgjlcclclmegpaaGreatPTruthTwice0
import Derived.Test.YtgjlcclclmegpaaGreatAvE
import Derived.Test.YtgjlcclclmegpaaGreatRows
import Derived.ProofKit
import Derived.OpenShut
import Derived.ShutString
import Derived.ChangeOld
import Derived.Below
import Derived.KernelRfl
namespace Go.Proofs.YtgjlcclclmegpaaGreat
open Go.ChangeShapes Go.WideShapes Go.ChangeAt Go.RowKit
set_option linter.unusedVariables false
theorem ownK : ownKnob Tryz.prog.godebug = none := by kernel_rfl
theorem laidO : laidOutB Tryz.prog = true := by kernel_rfl
set_option maxRecDepth 100000 in
theorem lifted (os : Os) (started : os.Started) (H : Type) (enc : TypeId × Value → H) :
    ReturnsInHanded {} Tryz.checked os 4 .any (Rows.truthTwiceSpec.pre6 enc Tryz.prog Tryz.f4 Rows.truthTwiceRow.domain false) (Rows.truthTwiceSpec.post enc Tryz.prog Tryz.f4 false true false false) := by
  refine returnsInHanded_of_change (C := Tryz.checked) ownK started (by kernel_rfl) Tryz.func4
    (ChangeSpec.witness6 (enc := enc) (C := Tryz.checked) false ⟨#[], #[.agg #[.slice none 0 0, .slice none 0 0, .slice none 0 0], .int .i64 0, .int .i64 0, .int .u8 0], []⟩ 8 (by kernel_rfl) (by kernel_rfl) (by kernel_rfl) (by kernel_rfl)) ?_
  intro W base args ds gs before hval0 hW hcnd _
  have hval : ∀ (j : Nat) t v, Tryz.f4.params[j]? = some t → args[j]? = some v → Value.okWide Tryz.prog W .any base t v := hval0
  have hW' := hW
  obtain ⟨p, q, hA0, hV, rfl, hfz, hnd⟩ := hW
  have hA : DataW.TrodAll enc Tryz.prog W 0 (fun _ => true) true Tryz.f4.params.toList args.toList ds p := hA0
  rw [Tryz.params4] at hA hval
  obtain ⟨v0, vs0, d0, ds0, p0, q0, hargs, rfl, rfl, h0, r0⟩ := trodAll_cons hA
  obtain ⟨v1, vs1, d1, ds1, p1, q1, rfl, rfl, rfl, h1, r1⟩ := trodAll_cons r0
  obtain ⟨v2, vs2, d2, ds2, p2, q2, rfl, rfl, rfl, h2, r2⟩ := trodAll_cons r1
  obtain ⟨v3, vs3, d3, ds3, p3, q3, rfl, rfl, rfl, h3, r3⟩ := trodAll_cons r2
  obtain ⟨rfl, rfl, rfl⟩ := trodAll_nil r3
  obtain rfl : args = #[v0, v1, v2, v3] := by cases args; simp_all
  obtain ⟨rfl, rfl⟩ := trodVars_none hV
  obtain ⟨x0, k0, s0⟩ := Go.Av.arg_sh Go.Av.seatOk (.val .venue) (by kernel_rfl) (by kernel_rfl) rfl (hval 0 26 v0 rfl rfl) h0
  have lt0 : ∀ x ∈ p0, x.block < W.heap.size := by obtain ⟨m, hm⟩ := h0; exact DataW.trod_lt m _ _ _ hm
  obtain ⟨x1, k1, s1⟩ := Go.Av.arg_sh Go.Av.seatOk (.int .i64) (by kernel_rfl) (by kernel_rfl) rfl (hval 1 3 v1 rfl rfl) h1
  have lt1 : ∀ x ∈ p1, x.block < W.heap.size := by obtain ⟨m, hm⟩ := h1; exact DataW.trod_lt m _ _ _ hm
  obtain ⟨x2, k2, s2⟩ := Go.Av.arg_sh Go.Av.seatOk (.int .i64) (by kernel_rfl) (by kernel_rfl) rfl (hval 2 3 v2 rfl rfl) h2
  have lt2 : ∀ x ∈ p2, x.block < W.heap.size := by obtain ⟨m, hm⟩ := h2; exact DataW.trod_lt m _ _ _ hm
  obtain ⟨x3, k3, s3⟩ := Go.Av.arg_sh Go.Av.seatOk (.int .u8) (by kernel_rfl) (by kernel_rfl) rfl (hval 3 5 v3 rfl rfl) h3
  have lt3 : ∀ x ∈ p3, x.block < W.heap.size := by obtain ⟨m, hm⟩ := h3; exact DataW.trod_lt m _ _ _ hm
  clear hA0 hval0
  refine (Go.Av.law_calls Go.Av.seatOk (f := 4) (by kernel_rfl) Go.Av.ok_snafflelaw23_TruthTwice rfl (x0, x1, x2, x3) (Go.Av.pure_TruthTwice x0 x1 x2 x3 k0 k1 k2 k3) #[v0, v1, v2, v3] W (fun p hp => by simp [Go.Av.glL] at hp) rfl ?_).mono fun e W' ⟨he, bel⟩ => ?_
  · intro j a v g1 g2
    match j, g1, g2 with
    | 0, g1, g2 => rw [← Option.some.inj g1, ← Option.some.inj g2]; exact s0 _
    | 1, g1, g2 => rw [← Option.some.inj g1, ← Option.some.inj g2]; exact s1 _
    | 2, g1, g2 => rw [← Option.some.inj g1, ← Option.some.inj g2]; exact s2 _
    | 3, g1, g2 => rw [← Option.some.inj g1, ← Option.some.inj g2]; exact s3 _
    | j + 4, g1, g2 => cases g1
  · subst he
    exact ⟨_, rfl, _, _, _, [], _, [], hW', trodAll_mk1 (shut_bool Tryz.underlying4 _), (trodAll_cons_mk (Below.trod laidO (by kernel_rfl) (of_decide_eq_true (by kernel_rfl)) h0 bel lt0) (trodAll_cons_mk (Below.trod laidO (by kernel_rfl) (of_decide_eq_true (by kernel_rfl)) h1 bel lt1) (trodAll_cons_mk (Below.trod laidO (by kernel_rfl) (of_decide_eq_true (by kernel_rfl)) h2 bel lt2) (trodAll_cons_mk (Below.trod laidO (by kernel_rfl) (of_decide_eq_true (by kernel_rfl)) h3 bel lt3) trodAll_mk0)))), rfl, bel.frame _, fun h => by cases h⟩
theorem over : Rows.truthTwiceRow.holds Tryz.pinned (OpenSpec.ofChange Rows.truthTwiceSpec) :=
  OpenClaim.holds_of_wide 4 Tryz.f4 rfl rfl rfl rfl rfl rfl rfl ⟨rfl, rfl, rfl, rfl, rfl⟩ rfl rfl rfl rfl rfl (by kernel_rfl) Tryz.func4 (by kernel_rfl)
    (of_decide_eq_true (by kernel_rfl)) (by unfold Func.isWrapper; first | (rw [if_pos (by decide +kernel)]; kernel_rfl) | (rw [if_neg (by decide +kernel)]; exact ⟨rfl, rfl⟩))
    (fun os started H enc _ => lifted os started H enc)
theorem proved : Rows.TruthTwiceSaid := over
end Go.Proofs.YtgjlcclclmegpaaGreat
