/- Functions that this claim reaches, part 1. No condition. -/
import Derived.Test.YtgjlcclclmegpaaGreatDTruthRightx0
import Derived.KernelRfl
set_option linter.unusedVariables false
set_option linter.unusedSimpArgs false
set_option linter.unnecessarySimpa false

namespace Go.Av
open Go
noncomputable section
def F_snafflelaw23_TruthRight (x0 : SVenue) (x1 : Int) (x2 : Int) (x3 : SState) : Option (Bool) := obind F_snafflelaw23_awake fun y0 ↦ cnd (bnot y0) (some false) (obind (F_snaffleref16_Short x0) fun y1 ↦ obind (cnd (bnot (bnot y1)) (F_snaffleref10_Short x3) (some false)) fun y2 ↦ cnd (bor (bnot y1) (bnot y2)) (some true) (obind (F_truth_Pos x0 x1 x2) fun y3 ↦ obind (F_truth_Of x0 x1 x2) fun y4 ↦ obind (F_truth_Covers x3 x0) fun y5 ↦ obind (F_snaffleref23_Covers x3 x0) fun y6 ↦ cnd (bnot (beq y5 y6)) (some false) (obind (F_snaffleref16_Right x0) fun y7 ↦ cnd (bor (bor (bor (bor (bnot y7) (ilt x1 0)) (ilt 7 x1)) (ilt x2 0)) (ilt 7 x2)) (some (band (band (band (ieq y3.snd 1) (ieq y4.snd 1)) (ieq y3.fst 0)) (band (ieq y4.fst.long 0) (band (ieq y4.fst.short 0) (ieq y4.fst.opn 0))))) (obind (F_snaffleref23_Pos x0 x1 x2) fun y8 ↦ obind (F_snaffleref23_Of x0 x1 x2) fun y9 ↦ some (band (band (band (ieq y3.fst y8.fst) (band (ieq y4.fst.long y9.fst.long) (band (ieq y4.fst.short y9.fst.short) (ieq y4.fst.opn y9.fst.opn)))) (bor (band y8.snd (ieq y3.snd 0)) (band (bnot y8.snd) (ieq y3.snd 3)))) (bor (band y9.snd (ieq y4.snd 0)) (band (bnot y9.snd) (ieq y4.snd 3))))))))
noncomputable def C_snafflelaw23_TruthRight : Cx := { P := PG, ety := ety, fn := look [(6, spec_snafflelaw23_awake), (7, spec_snaffleref16_Short), (8, spec_snaffleref10_Short), (9, spec_truth_Pos), (10, spec_truth_Of), (11, spec_truth_Covers), (12, spec_snaffleref23_Covers), (13, spec_snaffleref16_Right), (14, spec_snaffleref23_Pos), (15, spec_snaffleref23_Of)], inl := memN [], lp := lookLp [] }
theorem F_snafflelaw23_TruthRight_eq (x0 : SVenue) (x1 : Int) (x2 : Int) (x3 : SState) : runFn C_snafflelaw23_TruthRight 3 [.val .venue, .int .i64, .int .i64, .val .state] [.bool] (x0, x1, x2, x3) = F_snafflelaw23_TruthRight x0 x1 x2 x3 := by kernel_rfl
def spec_snafflelaw23_TruthRight : FnSpec := mkSpec [.val .venue, .int .i64, .int .i64, .val .state] [.bool] true (fun x => F_snafflelaw23_TruthRight x.1 x.2.1 x.2.2.1 x.2.2.2)
theorem ok_snafflelaw23_TruthRight : FnOk PG 3 spec_snafflelaw23_TruthRight :=
  have K : CxR C_snafflelaw23_TruthRight := seatOk.cx (fun _ => rfl) (l := [(6, spec_snafflelaw23_awake), (7, spec_snaffleref16_Short), (8, spec_snaffleref10_Short), (9, spec_truth_Pos), (10, spec_truth_Of), (11, spec_truth_Covers), (12, spec_snaffleref23_Covers), (13, spec_snaffleref16_Right), (14, spec_snaffleref23_Pos), (15, spec_snaffleref23_Of)]) ⟨ok_snafflelaw23_awake, ok_snaffleref16_Short, ok_snaffleref10_Short, ok_truth_Pos, ok_truth_Of, ok_truth_Covers, ok_snaffleref23_Covers, ok_snaffleref16_Right, ok_snaffleref23_Pos, ok_snaffleref23_Of, trivial⟩
  fn_entry K (lps_from (l := []) rfl trivial) (by kernel_rfl) (fun x y h => (F_snafflelaw23_TruthRight_eq x.1 x.2.1 x.2.2.1 x.2.2.2).trans h) rfl rfl


end
end Go.Av
