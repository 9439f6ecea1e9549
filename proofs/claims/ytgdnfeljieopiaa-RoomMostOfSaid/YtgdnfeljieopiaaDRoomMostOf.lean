/- The functions that this claim reaches, each as a plain function; each is what its text comes to. No condition. -/
import Derived.Test.YtgdnfeljieopiaaAvE
import Derived.Test.YtgdnfeljieopiaaProg
import Derived.KernelRfl
set_option linter.unusedVariables false
set_option linter.unusedSimpArgs false
set_option linter.unnecessarySimpa false
namespace Go.Av
open Go
/-- The types whose data are told by a code. -/
def etyL : List (Nat × E) := [(2, .i64), (3, .i64), (4, .bool), (5, .u8), (6, .u8), (9, .str), (10, .str), (11, .str), (27, .state), (30, .i64), (34, .recd), (42, .expo), (52, .order), (60, .state), (71, .cell), (86, .note), (121, .a3), (133, .u8), (134, .u8)]
def ety (t : Nat) : Option E := look etyL t
noncomputable abbrev PG : Program := Go.Proofs.Try.prog
end Go.Av

namespace Go.Av
open Go
noncomputable section
theorem eok_2 : EOk PG 2 .i64 := eok_of (by kernel_rfl) (by kernel_rfl)
theorem eok_3 : EOk PG 3 .i64 := eok_of (by kernel_rfl) (by kernel_rfl)
theorem eok_4 : EOk PG 4 .bool := eok_of (by kernel_rfl) (by kernel_rfl)
theorem eok_5 : EOk PG 5 .u8 := eok_of (by kernel_rfl) (by kernel_rfl)
theorem eok_6 : EOk PG 6 .u8 := eok_of (by kernel_rfl) (by kernel_rfl)
theorem eok_9 : EOk PG 9 .str := eok_of (by kernel_rfl) (by kernel_rfl)
theorem eok_10 : EOk PG 10 .str := eok_of (by kernel_rfl) (by kernel_rfl)
theorem eok_11 : EOk PG 11 .str := eok_of (by kernel_rfl) (by kernel_rfl)
theorem eok_27 : EOk PG 27 .state := eok_of (by kernel_rfl) (by kernel_rfl)
theorem eok_30 : EOk PG 30 .i64 := eok_of (by kernel_rfl) (by kernel_rfl)
theorem eok_34 : EOk PG 34 .recd := eok_of (by kernel_rfl) (by kernel_rfl)
theorem eok_42 : EOk PG 42 .expo := eok_of (by kernel_rfl) (by kernel_rfl)
theorem eok_52 : EOk PG 52 .order := eok_of (by kernel_rfl) (by kernel_rfl)
theorem eok_60 : EOk PG 60 .state := eok_of (by kernel_rfl) (by kernel_rfl)
theorem eok_71 : EOk PG 71 .cell := eok_of (by kernel_rfl) (by kernel_rfl)
theorem eok_86 : EOk PG 86 .note := eok_of (by kernel_rfl) (by kernel_rfl)
theorem eok_121 : EOk PG 121 .a3 := eok_of (by kernel_rfl) (by kernel_rfl)
theorem eok_133 : EOk PG 133 .u8 := eok_of (by kernel_rfl) (by kernel_rfl)
theorem eok_134 : EOk PG 134 .u8 := eok_of (by kernel_rfl) (by kernel_rfl)
theorem seatOk : SeatOk PG etyL := ⟨by kernel_rfl, ⟨eok_2, eok_3, eok_4, eok_5, eok_6, eok_9, eok_10, eok_11, eok_27, eok_30, eok_34, eok_42, eok_52, eok_60, eok_71, eok_86, eok_121, eok_133, eok_134, trivial⟩, by kernel_rfl, by kernel_rfl, by kernel_rfl⟩
end
end Go.Av

namespace Go.Av
open Go
noncomputable section
def F_math_bits_Mul32 (x0 : Int) (x1 : Int) : Option (Int × Int) := some (wr IntKind.u32 (ishr IntKind.u64 (wr IntKind.u64 (imul (wr IntKind.u64 x0) (wr IntKind.u64 x1))) 32), wr IntKind.u32 (wr IntKind.u64 (imul (wr IntKind.u64 x0) (wr IntKind.u64 x1))))
noncomputable def C_math_bits_Mul32 : Cx := { P := PG, ety := ety, fn := look [], inl := memN [], lp := lookLp [] }
theorem F_math_bits_Mul32_eq (x0 : Int) (x1 : Int) : runFn C_math_bits_Mul32 77 [.int .u32, .int .u32] [.int .u32, .int .u32] (x0, x1) = F_math_bits_Mul32 x0 x1 := by kernel_rfl
def spec_math_bits_Mul32 : FnSpec := mkSpec [.int .u32, .int .u32] [.int .u32, .int .u32] true (fun x => F_math_bits_Mul32 x.1 x.2)
theorem ok_math_bits_Mul32 : FnOk PG 77 spec_math_bits_Mul32 :=
  have K : CxR C_math_bits_Mul32 := seatOk.cx (fun _ => rfl) (l := []) trivial
  fn_entry K (lps_from (l := []) rfl trivial) (by kernel_rfl) (fun x y h => (F_math_bits_Mul32_eq x.1 x.2).trans h) rfl rfl

def F_math_bits_Mul64 (x0 : Int) (x1 : Int) : Option (Int × Int) := some (wr IntKind.u64 (iadd (wr IntKind.u64 (iadd (wr IntKind.u64 (imul (ishr IntKind.u64 x0 32) (ishr IntKind.u64 x1 32))) (ishr IntKind.u64 (wr IntKind.u64 (iadd (wr IntKind.u64 (imul (ishr IntKind.u64 x0 32) (wr IntKind.u64 (iand IntKind.u64 x1 4294967295)))) (ishr IntKind.u64 (wr IntKind.u64 (imul (wr IntKind.u64 (iand IntKind.u64 x0 4294967295)) (wr IntKind.u64 (iand IntKind.u64 x1 4294967295)))) 32))) 32))) (ishr IntKind.u64 (wr IntKind.u64 (iadd (wr IntKind.u64 (iand IntKind.u64 (wr IntKind.u64 (iadd (wr IntKind.u64 (imul (ishr IntKind.u64 x0 32) (wr IntKind.u64 (iand IntKind.u64 x1 4294967295)))) (ishr IntKind.u64 (wr IntKind.u64 (imul (wr IntKind.u64 (iand IntKind.u64 x0 4294967295)) (wr IntKind.u64 (iand IntKind.u64 x1 4294967295)))) 32))) 4294967295)) (wr IntKind.u64 (imul (wr IntKind.u64 (iand IntKind.u64 x0 4294967295)) (ishr IntKind.u64 x1 32))))) 32)), wr IntKind.u64 (imul x0 x1))
noncomputable def C_math_bits_Mul64 : Cx := { P := PG, ety := ety, fn := look [], inl := memN [], lp := lookLp [] }
theorem F_math_bits_Mul64_eq (x0 : Int) (x1 : Int) : runFn C_math_bits_Mul64 78 [.int .u64, .int .u64] [.int .u64, .int .u64] (x0, x1) = F_math_bits_Mul64 x0 x1 := by kernel_rfl
def spec_math_bits_Mul64 : FnSpec := mkSpec [.int .u64, .int .u64] [.int .u64, .int .u64] true (fun x => F_math_bits_Mul64 x.1 x.2)
theorem ok_math_bits_Mul64 : FnOk PG 78 spec_math_bits_Mul64 :=
  have K : CxR C_math_bits_Mul64 := seatOk.cx (fun _ => rfl) (l := []) trivial
  fn_entry K (lps_from (l := []) rfl trivial) (by kernel_rfl) (fun x y h => (F_math_bits_Mul64_eq x.1 x.2).trans h) rfl rfl

def F_math_bits_Mul (x0 : Int) (x1 : Int) : Option (Int × Int) := obind (F_math_bits_Mul64 x0 x1) fun y0 ↦ some y0
noncomputable def C_math_bits_Mul : Cx := { P := PG, ety := ety, fn := look [(77, spec_math_bits_Mul32), (78, spec_math_bits_Mul64)], inl := memN [], lp := lookLp [] }
theorem F_math_bits_Mul_eq (x0 : Int) (x1 : Int) : runFn C_math_bits_Mul 60 [.int .u64, .int .u64] [.int .u64, .int .u64] (x0, x1) = F_math_bits_Mul x0 x1 := by kernel_rfl
def spec_math_bits_Mul : FnSpec := mkSpec [.int .u64, .int .u64] [.int .u64, .int .u64] true (fun x => F_math_bits_Mul x.1 x.2)
theorem ok_math_bits_Mul : FnOk PG 60 spec_math_bits_Mul :=
  have K : CxR C_math_bits_Mul := seatOk.cx (fun _ => rfl) (l := [(77, spec_math_bits_Mul32), (78, spec_math_bits_Mul64)]) ⟨ok_math_bits_Mul32, ok_math_bits_Mul64, trivial⟩
  fn_entry K (lps_from (l := []) rfl trivial) (by kernel_rfl) (fun x y h => (F_math_bits_Mul_eq x.1 x.2).trans h) rfl rfl

def S_slices_Repeat_api_Expo_508 : LSh := ⟨94, [], [(7, .mf 192)], [], [(8, .int .i64)], [], [(192, .expo)]⟩
@[reducible] def O_slices_Repeat_api_Expo_508 : List LOut := [⟨.exit 0, [], [], [(192, .expo)]⟩]
def L_slices_Repeat_api_Expo_508 (v0 : Int) (v1 : (List SExpo)) : Option ((Int × (List SExpo)) ⊕ (((List SExpo)))) := cnd (ilt v0 (len v1)) (cnd (band (ile 0 v0) (ile v0 (len v1))) (cnd (band (ile 0 v0) (ile v0 (len v1))) (some (Sum.inl (wr IntKind.i64 (iadd v0 (imin (len (ltake (ldrop v1 0) (itn v0))) (nti (itn (isub (len v1) v0))))), lcpy v1 (itn v0) (ltake (ltake (ldrop v1 0) (itn v0)) (itn (imin (len (ltake (ldrop v1 0) (itn v0))) (nti (itn (isub (len v1) v0))))))))) none) none) (some (Sum.inr v1))
def Ls_slices_Repeat_api_Expo_508 : LSpec := S_slices_Repeat_api_Expo_508.spec O_slices_Repeat_api_Expo_508 [34, 35, 36, 37, 38, 39, 40, 41, 42, 43, 44, 45, 46, 8] (fun p v => L_slices_Repeat_api_Expo_508 v.1 v.2)
def F_slices_Repeat_api_Expo (x0 : (List SExpo)) (x1 : Int) : Option ((List SExpo)) := cnd (ilt x1 0) none (obind (F_math_bits_Mul (wr IntKind.u64 (len x0)) (wr IntKind.u64 x1)) fun y0 ↦ cnd (bor (ilt 0 y0.fst) (ilt 9223372036854775807 y0.snd)) none (cnd (band (band (ile 0 (wr IntKind.i64 y0.snd)) (ile (wr IntKind.i64 y0.snd) (wr IntKind.i64 y0.snd))) (ile (wr IntKind.i64 y0.snd) 68719476736)) (obind (iterN (fun v ↦ L_slices_Repeat_api_Expo_508 v.fst v.snd) LF (imin (len x0) (len (lrep SExpo (itn (wr IntKind.i64 y0.snd)))), lcpy (lrep SExpo (itn (wr IntKind.i64 y0.snd))) 0 (ltake x0 (itn (imin (len x0) (len (lrep SExpo (itn (wr IntKind.i64 y0.snd))))))))) fun y1 ↦ some y1) none))
noncomputable def C_slices_Repeat_api_Expo : Cx := { P := PG, ety := ety, fn := look [(60, spec_math_bits_Mul)], inl := memN [], lp := lookLp [(33, 508, Ls_slices_Repeat_api_Expo_508)] }
theorem L_slices_Repeat_api_Expo_508_eq (v0 : Int) (v1 : (List SExpo)) : runLp C_slices_Repeat_api_Expo 900 33 508 (lpBody PG 33 508) S_slices_Repeat_api_Expo_508 O_slices_Repeat_api_Expo_508 () (v0, v1) = L_slices_Repeat_api_Expo_508 v0 v1 := by kernel_rfl
theorem F_slices_Repeat_api_Expo_eq (x0 : (List SExpo)) (x1 : Int) : runFn C_slices_Repeat_api_Expo 33 [.ro .expo, .int .i64] [.buf .expo] (x0, x1) = F_slices_Repeat_api_Expo x0 x1 := by kernel_rfl
def spec_slices_Repeat_api_Expo : FnSpec := mkSpec [.ro .expo, .int .i64] [.buf .expo] true (fun x => F_slices_Repeat_api_Expo x.1 x.2)
theorem ok_slices_Repeat_api_Expo : FnOk PG 33 spec_slices_Repeat_api_Expo :=
  have K : CxR C_slices_Repeat_api_Expo := seatOk.cx (fun _ => rfl) (l := [(60, spec_math_bits_Mul)]) ⟨ok_math_bits_Mul, trivial⟩
  fn_entry K (lps_from (l := [(33, 508, Ls_slices_Repeat_api_Expo_508)]) rfl ⟨lp_entry (n := 900) (f := 33) K (by kernel_rfl) (by kernel_rfl) (by kernel_rfl) (by kernel_rfl) (by kernel_rfl) (fun p v r h => (L_slices_Repeat_api_Expo_508_eq v.1 v.2).trans h), trivial⟩) (by kernel_rfl) (fun x y h => (F_slices_Repeat_api_Expo_eq x.1 x.2).trans h) rfl rfl

def S_slices_Repeat_int64_508 : LSh := ⟨94, [], [(7, .mf 192)], [], [(8, .int .i64)], [], [(192, .i64)]⟩
@[reducible] def O_slices_Repeat_int64_508 : List LOut := [⟨.exit 0, [], [], [(192, .i64)]⟩]
def L_slices_Repeat_int64_508 (v0 : Int) (v1 : (List Int)) : Option ((Int × (List Int)) ⊕ (((List Int)))) := cnd (ilt v0 (len v1)) (cnd (band (ile 0 v0) (ile v0 (len v1))) (cnd (band (ile 0 v0) (ile v0 (len v1))) (some (Sum.inl (wr IntKind.i64 (iadd v0 (imin (len (ltake (ldrop v1 0) (itn v0))) (nti (itn (isub (len v1) v0))))), lcpy v1 (itn v0) (ltake (ltake (ldrop v1 0) (itn v0)) (itn (imin (len (ltake (ldrop v1 0) (itn v0))) (nti (itn (isub (len v1) v0))))))))) none) none) (some (Sum.inr v1))
def Ls_slices_Repeat_int64_508 : LSpec := S_slices_Repeat_int64_508.spec O_slices_Repeat_int64_508 [34, 35, 36, 37, 38, 39, 40, 41, 42, 43, 44, 45, 46, 8] (fun p v => L_slices_Repeat_int64_508 v.1 v.2)
def F_slices_Repeat_int64 (x0 : (List Int)) (x1 : Int) : Option ((List Int)) := cnd (ilt x1 0) none (obind (F_math_bits_Mul (wr IntKind.u64 (len x0)) (wr IntKind.u64 x1)) fun y0 ↦ cnd (bor (ilt 0 y0.fst) (ilt 9223372036854775807 y0.snd)) none (cnd (band (band (ile 0 (wr IntKind.i64 y0.snd)) (ile (wr IntKind.i64 y0.snd) (wr IntKind.i64 y0.snd))) (ile (wr IntKind.i64 y0.snd) 68719476736)) (obind (iterN (fun v ↦ L_slices_Repeat_int64_508 v.fst v.snd) LF (imin (len x0) (len (lrep Int (itn (wr IntKind.i64 y0.snd)))), lcpy (lrep Int (itn (wr IntKind.i64 y0.snd))) 0 (ltake x0 (itn (imin (len x0) (len (lrep Int (itn (wr IntKind.i64 y0.snd))))))))) fun y1 ↦ some y1) none))
noncomputable def C_slices_Repeat_int64 : Cx := { P := PG, ety := ety, fn := look [(60, spec_math_bits_Mul)], inl := memN [], lp := lookLp [(34, 508, Ls_slices_Repeat_int64_508)] }
theorem L_slices_Repeat_int64_508_eq (v0 : Int) (v1 : (List Int)) : runLp C_slices_Repeat_int64 900 34 508 (lpBody PG 34 508) S_slices_Repeat_int64_508 O_slices_Repeat_int64_508 () (v0, v1) = L_slices_Repeat_int64_508 v0 v1 := by kernel_rfl
theorem F_slices_Repeat_int64_eq (x0 : (List Int)) (x1 : Int) : runFn C_slices_Repeat_int64 34 [.ro .i64, .int .i64] [.buf .i64] (x0, x1) = F_slices_Repeat_int64 x0 x1 := by kernel_rfl
def spec_slices_Repeat_int64 : FnSpec := mkSpec [.ro .i64, .int .i64] [.buf .i64] true (fun x => F_slices_Repeat_int64 x.1 x.2)
theorem ok_slices_Repeat_int64 : FnOk PG 34 spec_slices_Repeat_int64 :=
  have K : CxR C_slices_Repeat_int64 := seatOk.cx (fun _ => rfl) (l := [(60, spec_math_bits_Mul)]) ⟨ok_math_bits_Mul, trivial⟩
  fn_entry K (lps_from (l := [(34, 508, Ls_slices_Repeat_int64_508)]) rfl ⟨lp_entry (n := 900) (f := 34) K (by kernel_rfl) (by kernel_rfl) (by kernel_rfl) (by kernel_rfl) (by kernel_rfl) (fun p v r h => (L_slices_Repeat_int64_508_eq v.1 v.2).trans h), trivial⟩) (by kernel_rfl) (fun x y h => (F_slices_Repeat_int64_eq x.1 x.2).trans h) rfl rfl

def F_book_ledger_sized (x0 : SState) : Option (Bool) := some (band (band (band (band (band (band (band (ile 1 x0.accounts) (ile x0.accounts 8)) (ile 1 x0.symbols)) (ile x0.symbols 8)) (ieq (len x0.cells) (wr IntKind.i64 (imul x0.accounts x0.symbols)))) (ieq (len x0.limits) (len x0.cells))) (ieq (len x0.caps) x0.accounts)) (ile (len x0.orders) 64))
noncomputable def C_book_ledger_sized : Cx := { P := PG, ety := ety, fn := look [], inl := memN [], lp := lookLp [] }
theorem F_book_ledger_sized_eq (x0 : SState) : runFn C_book_ledger_sized 61 [.val .state] [.bool] x0 = F_book_ledger_sized x0 := by kernel_rfl
def spec_book_ledger_sized : FnSpec := mkSpec [.val .state] [.bool] true (fun x => F_book_ledger_sized x)
theorem ok_book_ledger_sized : FnOk PG 61 spec_book_ledger_sized :=
  have K : CxR C_book_ledger_sized := seatOk.cx (fun _ => rfl) (l := []) trivial
  fn_entry K (lps_from (l := []) rfl trivial) (by kernel_rfl) (fun x y h => (F_book_ledger_sized_eq x).trans h) rfl rfl

def F_order_pending (x0 : SOrder) : Option (Bool) := some (bor (bnot (ieq x0.newQty 0)) (bnot (ieq x0.newPrice 0)))
noncomputable def C_order_pending : Cx := { P := PG, ety := ety, fn := look [], inl := memN [], lp := lookLp [] }
theorem F_order_pending_eq (x0 : SOrder) : runFn C_order_pending 71 [.val .order] [.bool] x0 = F_order_pending x0 := by kernel_rfl
def spec_order_pending : FnSpec := mkSpec [.val .order] [.bool] true (fun x => F_order_pending x)
theorem ok_order_pending : FnOk PG 71 spec_order_pending :=
  have K : CxR C_order_pending := seatOk.cx (fun _ => rfl) (l := []) trivial
  fn_entry K (lps_from (l := []) rfl trivial) (by kernel_rfl) (fun x y h => (F_order_pending_eq x).trans h) rfl rfl

def F_rec_fields (x0 : SRec) : Option (SRec) := cnd (ieq x0.kind 1) (some (SRec.mk x0.kind x0.order x0.account x0.symbol x0.side x0.qty x0.price 0 0 0 false 0 0)) (cnd (ieq x0.kind 2) (some (SRec.mk x0.kind x0.order 0 0 0 x0.qty x0.price 0 0 0 false 0 0)) (cnd (ieq x0.kind 3) (some (SRec.mk x0.kind x0.order 0 0 0 0 0 0 0 0 false 0 0)) (cnd (ieq x0.kind 4) (some (SRec.mk x0.kind 0 x0.account x0.symbol 0 0 0 x0.long x0.short x0.opn false 0 0)) (cnd (ieq x0.kind 5) (some (SRec.mk x0.kind 0 0 0 0 0 0 0 0 0 x0.on 0 0)) (cnd (ieq x0.kind 6) (some (SRec.mk x0.kind x0.order 0 0 0 x0.qty x0.price 0 0 0 false x0.seq x0.what)) (some (SRec.mk x0.kind 0 0 0 0 0 0 0 0 0 false 0 0)))))))
noncomputable def C_rec_fields : Cx := { P := PG, ety := ety, fn := look [], inl := memN [], lp := lookLp [] }
theorem F_rec_fields_eq (x0 : SRec) : runFn C_rec_fields 36 [.val .recd] [.val .recd] x0 = F_rec_fields x0 := by kernel_rfl
def spec_rec_fields : FnSpec := mkSpec [.val .recd] [.val .recd] true (fun x => F_rec_fields x)
theorem ok_rec_fields : FnOk PG 36 spec_rec_fields :=
  have K : CxR C_rec_fields := seatOk.cx (fun _ => rfl) (l := []) trivial
  fn_entry K (lps_from (l := []) rfl trivial) (by kernel_rfl) (fun x y h => (F_rec_fields_eq x).trans h) rfl rfl

def F_rec_known (x0 : Int) : Option (Bool) := some (band (ile 1 x0) (ile x0 1000000000000))
noncomputable def C_rec_known : Cx := { P := PG, ety := ety, fn := look [], inl := memN [], lp := lookLp [] }
theorem F_rec_known_eq (x0 : Int) : runFn C_rec_known 37 [.int .i64] [.bool] x0 = F_rec_known x0 := by kernel_rfl
def spec_rec_known : FnSpec := mkSpec [.int .i64] [.bool] true (fun x => F_rec_known x)
theorem ok_rec_known : FnOk PG 37 spec_rec_known :=
  have K : CxR C_rec_known := seatOk.cx (fun _ => rfl) (l := []) trivial
  fn_entry K (lps_from (l := []) rfl trivial) (by kernel_rfl) (fun x y h => (F_rec_known_eq x).trans h) rfl rfl

def F_rec_below (x0 : Int) (x1 : Int) : Option (Bool) := some (band (ile 0 x0) (ilt x0 x1))
noncomputable def C_rec_below : Cx := { P := PG, ety := ety, fn := look [], inl := memN [], lp := lookLp [] }
theorem F_rec_below_eq (x0 : Int) (x1 : Int) : runFn C_rec_below 38 [.int .i64, .int .i64] [.bool] (x0, x1) = F_rec_below x0 x1 := by kernel_rfl
def spec_rec_below : FnSpec := mkSpec [.int .i64, .int .i64] [.bool] true (fun x => F_rec_below x.1 x.2)
theorem ok_rec_below : FnOk PG 38 spec_rec_below :=
  have K : CxR C_rec_below := seatOk.cx (fun _ => rfl) (l := []) trivial
  fn_entry K (lps_from (l := []) rfl trivial) (by kernel_rfl) (fun x y h => (F_rec_below_eq x.1 x.2).trans h) rfl rfl

def F_rec_sized (x0 : SRec) : Option (Bool) := some (band (ile 1 x0.qty) (ile 1 x0.price))
noncomputable def C_rec_sized : Cx := { P := PG, ety := ety, fn := look [], inl := memN [], lp := lookLp [] }
theorem F_rec_sized_eq (x0 : SRec) : runFn C_rec_sized 39 [.val .recd] [.bool] x0 = F_rec_sized x0 := by kernel_rfl
def spec_rec_sized : FnSpec := mkSpec [.val .recd] [.bool] true (fun x => F_rec_sized x)
theorem ok_rec_sized : FnOk PG 39 spec_rec_sized :=
  have K : CxR C_rec_sized := seatOk.cx (fun _ => rfl) (l := []) trivial
  fn_entry K (lps_from (l := []) rfl trivial) (by kernel_rfl) (fun x y h => (F_rec_sized_eq x).trans h) rfl rfl

def F_rec_event (x0 : SRec) : Option (Bool) := obind (cnd (bnot (bor (ilt x0.seq 1) (ilt 1000000000 x0.seq))) (F_rec_known x0.order) (some false)) fun y0 ↦ cnd (bor (bor (ilt x0.seq 1) (ilt 1000000000 x0.seq)) (bnot y0)) (some false) (cnd (ieq x0.what 3) (some (band (ile 1 x0.qty) (ieq x0.price 0))) (cnd (ieq x0.what 5) (obind (F_rec_sized x0) fun y1 ↦ some y1) (cnd (ieq x0.what 1) (cnd (ieq x0.what 1) (some (band (ieq x0.qty 0) (ieq x0.price 0))) (some false)) (cnd (ieq x0.what 2) (cnd (ieq x0.what 2) (some (band (ieq x0.qty 0) (ieq x0.price 0))) (some false)) (cnd (ieq x0.what 4) (cnd (ieq x0.what 4) (some (band (ieq x0.qty 0) (ieq x0.price 0))) (some false)) (cnd (ieq x0.what 6) (some (band (ieq x0.qty 0) (ieq x0.price 0))) (some false)))))))
noncomputable def C_rec_event : Cx := { P := PG, ety := ety, fn := look [(37, spec_rec_known), (39, spec_rec_sized)], inl := memN [], lp := lookLp [] }
theorem F_rec_event_eq (x0 : SRec) : runFn C_rec_event 40 [.val .recd] [.bool] x0 = F_rec_event x0 := by kernel_rfl
def spec_rec_event : FnSpec := mkSpec [.val .recd] [.bool] true (fun x => F_rec_event x)
theorem ok_rec_event : FnOk PG 40 spec_rec_event :=
  have K : CxR C_rec_event := seatOk.cx (fun _ => rfl) (l := [(37, spec_rec_known), (39, spec_rec_sized)]) ⟨ok_rec_known, ok_rec_sized, trivial⟩
  fn_entry K (lps_from (l := []) rfl trivial) (by kernel_rfl) (fun x y h => (F_rec_event_eq x).trans h) rfl rfl

def F_rec_Right (x0 : SRec) : Option (Bool) := obind (F_rec_fields x0) fun y0 ↦ cnd (bnot (band (ieq x0.kind y0.kind) (band (ieq x0.order y0.order) (band (ieq x0.account y0.account) (band (ieq x0.symbol y0.symbol) (band (ieq x0.side y0.side) (band (ieq x0.qty y0.qty) (band (ieq x0.price y0.price) (band (ieq x0.long y0.long) (band (ieq x0.short y0.short) (band (ieq x0.opn y0.opn) (band (beq x0.on y0.on) (band (ieq x0.seq y0.seq) (ieq x0.what y0.what)))))))))))))) (some false) (cnd (ieq x0.kind 1) (obind (F_rec_known x0.order) fun y1 ↦ obind (cnd y1 (F_rec_below x0.account 8) (some false)) fun y2 ↦ obind (cnd (band y1 y2) (F_rec_below x0.symbol 8) (some false)) fun y3 ↦ obind (cnd (band (band (band y1 y2) y3) (bor (ieq x0.side 1) (ieq x0.side 2))) (F_rec_sized x0) (some false)) fun y4 ↦ some (band (band (band (band y1 y2) y3) (bor (ieq x0.side 1) (ieq x0.side 2))) y4)) (cnd (ieq x0.kind 2) (obind (F_rec_known x0.order) fun y5 ↦ obind (cnd y5 (F_rec_sized x0) (some false)) fun y6 ↦ some (band y5 y6)) (cnd (ieq x0.kind 3) (obind (F_rec_known x0.order) fun y7 ↦ some y7) (cnd (ieq x0.kind 4) (obind (F_rec_below x0.account 8) fun y8 ↦ obind (cnd (band y8 (bnot (band (band (ieq x0.symbol (-1)) (ieq x0.long 0)) (ieq x0.short 0)))) (F_rec_below x0.symbol 8) (some false)) fun y9 ↦ some (band (band y8 (bor (band (band (ieq x0.symbol (-1)) (ieq x0.long 0)) (ieq x0.short 0)) y9)) (ile 0 (imin (imin x0.long x0.short) x0.opn)))) (cnd (ieq x0.kind 5) (some true) (cnd (ieq x0.kind 6) (obind (F_rec_event x0) fun y10 ↦ some y10) (some false)))))))
noncomputable def C_rec_Right : Cx := { P := PG, ety := ety, fn := look [(36, spec_rec_fields), (37, spec_rec_known), (38, spec_rec_below), (39, spec_rec_sized), (40, spec_rec_event)], inl := memN [], lp := lookLp [] }
theorem F_rec_Right_eq (x0 : SRec) : runFn C_rec_Right 22 [.val .recd] [.bool] x0 = F_rec_Right x0 := by kernel_rfl
def spec_rec_Right : FnSpec := mkSpec [.val .recd] [.bool] true (fun x => F_rec_Right x)
theorem ok_rec_Right : FnOk PG 22 spec_rec_Right :=
  have K : CxR C_rec_Right := seatOk.cx (fun _ => rfl) (l := [(36, spec_rec_fields), (37, spec_rec_known), (38, spec_rec_below), (39, spec_rec_sized), (40, spec_rec_event)]) ⟨ok_rec_fields, ok_rec_known, ok_rec_below, ok_rec_sized, ok_rec_event, trivial⟩
  fn_entry K (lps_from (l := []) rfl trivial) (by kernel_rfl) (fun x y h => (F_rec_Right_eq x).trans h) rfl rfl

def F_order_begun (x0 : SOrder) : Option (Bool) := obind (F_rec_Right (SRec.mk 1 x0.id x0.account x0.symbol x0.side x0.qty x0.price 0 0 0 false 0 0)) fun y0 ↦ some y0
noncomputable def C_order_begun : Cx := { P := PG, ety := ety, fn := look [(22, spec_rec_Right)], inl := memN [], lp := lookLp [] }
theorem F_order_begun_eq (x0 : SOrder) : runFn C_order_begun 86 [.val .order] [.bool] x0 = F_order_begun x0 := by kernel_rfl
def spec_order_begun : FnSpec := mkSpec [.val .order] [.bool] true (fun x => F_order_begun x)
theorem ok_order_begun : FnOk PG 86 spec_order_begun :=
  have K : CxR C_order_begun := seatOk.cx (fun _ => rfl) (l := [(22, spec_rec_Right)]) ⟨ok_rec_Right, trivial⟩
  fn_entry K (lps_from (l := []) rfl trivial) (by kernel_rfl) (fun x y h => (F_order_begun_eq x).trans h) rfl rfl

def F_order_Right (x0 : SOrder) : Option (Bool) := obind (F_order_pending x0) fun y0 ↦ obind (F_order_begun x0) fun y1 ↦ cnd (bor (bor (bor (bor (bnot y1) (ilt x0.filled 0)) (ilt x0.qty x0.filled)) (ilt x0.version 0)) (band y0 (ilt (imin x0.newQty x0.newPrice) 1))) (some false) (cnd (ieq x0.phase 1) (some (band (band (ieq x0.filled 0) (ieq x0.version 0)) (bnot y0))) (cnd (ieq x0.phase 2) (some (ilt x0.filled x0.qty)) (cnd (ieq x0.phase 3) (some (bnot y0)) (some false))))
noncomputable def C_order_Right : Cx := { P := PG, ety := ety, fn := look [(71, spec_order_pending), (86, spec_order_begun)], inl := memN [], lp := lookLp [] }
theorem F_order_Right_eq (x0 : SOrder) : runFn C_order_Right 70 [.val .order] [.bool] x0 = F_order_Right x0 := by kernel_rfl
def spec_order_Right : FnSpec := mkSpec [.val .order] [.bool] true (fun x => F_order_Right x)
theorem ok_order_Right : FnOk PG 70 spec_order_Right :=
  have K : CxR C_order_Right := seatOk.cx (fun _ => rfl) (l := [(71, spec_order_pending), (86, spec_order_begun)]) ⟨ok_order_pending, ok_order_begun, trivial⟩
  fn_entry K (lps_from (l := []) rfl trivial) (by kernel_rfl) (fun x y h => (F_order_Right_eq x).trans h) rfl rfl

def F_limit_Right (x0 : SExpo) : Option (Bool) := some (ile 0 (imin (imin x0.long x0.short) x0.opn))
noncomputable def C_limit_Right : Cx := { P := PG, ety := ety, fn := look [], inl := memN [], lp := lookLp [] }
theorem F_limit_Right_eq (x0 : SExpo) : runFn C_limit_Right 80 [.val .expo] [.bool] x0 = F_limit_Right x0 := by kernel_rfl
def spec_limit_Right : FnSpec := mkSpec [.val .expo] [.bool] true (fun x => F_limit_Right x)
theorem ok_limit_Right : FnOk PG 80 spec_limit_Right :=
  have K : CxR C_limit_Right := seatOk.cx (fun _ => rfl) (l := []) trivial
  fn_entry K (lps_from (l := []) rfl trivial) (by kernel_rfl) (fun x y h => (F_limit_Right_eq x).trans h) rfl rfl

def S_slices_Min_int64_122 : LSh := ⟨74, [(0, .ro .i64)], [], [], [(4, .int .i64), (3, .int .i64)], [], []⟩
@[reducible] def O_slices_Min_int64_122 : List LOut := [⟨.exit 0, [(3, .int .i64)], [], []⟩]
def L_slices_Min_int64_122 (p0 : (List Int)) (v0 : Int) (v1 : Int) : Option ((Int × Int) ⊕ ((Int))) := cnd (ilt v0 (len p0)) (cnd (band (ile 0 v0) (ilt v0 (len p0))) (some (Sum.inl (wr IntKind.i64 (iadd v0 1), imin v1 (lget p0 (itn v0))))) none) (some (Sum.inr v1))
def Ls_slices_Min_int64_122 : LSpec := S_slices_Min_int64_122.spec O_slices_Min_int64_122 [12, 13, 14, 15, 18, 19, 20, 21, 22, 23, 3, 16, 17, 4] (fun p v => L_slices_Min_int64_122 p v.1 v.2)
def F_slices_Min_int64 (x0 : (List Int)) : Option (Int) := cnd (ilt (len x0) 1) none (cnd (ilt 0 (len x0)) (obind (iterN (fun v ↦ L_slices_Min_int64_122 x0 v.fst v.snd) LF (1, lget x0 0)) fun y0 ↦ some y0) none)
noncomputable def C_slices_Min_int64 : Cx := { P := PG, ety := ety, fn := look [], inl := memN [], lp := lookLp [(82, 122, Ls_slices_Min_int64_122)] }
theorem L_slices_Min_int64_122_eq (p0 : (List Int)) (v0 : Int) (v1 : Int) : runLp C_slices_Min_int64 900 82 122 (lpBody PG 82 122) S_slices_Min_int64_122 O_slices_Min_int64_122 p0 (v0, v1) = L_slices_Min_int64_122 p0 v0 v1 := by kernel_rfl
theorem F_slices_Min_int64_eq (x0 : (List Int)) : runFn C_slices_Min_int64 82 [.ro .i64] [.int .i64] x0 = F_slices_Min_int64 x0 := by kernel_rfl
def spec_slices_Min_int64 : FnSpec := mkSpec [.ro .i64] [.int .i64] true (fun x => F_slices_Min_int64 x)
theorem ok_slices_Min_int64 : FnOk PG 82 spec_slices_Min_int64 :=
  have K : CxR C_slices_Min_int64 := seatOk.cx (fun _ => rfl) (l := []) trivial
  fn_entry K (lps_from (l := [(82, 122, Ls_slices_Min_int64_122)]) rfl ⟨lp_entry (n := 900) (f := 82) K (by kernel_rfl) (by kernel_rfl) (by kernel_rfl) (by kernel_rfl) (by kernel_rfl) (fun p v r h => (L_slices_Min_int64_122_eq p v.1 v.2).trans h), trivial⟩) (by kernel_rfl) (fun x y h => (F_slices_Min_int64_eq x).trans h) rfl rfl

def S_book_ledger_fine_58 : LSh := ⟨73, [(10, .int .i64), (9, .ro .order)], [(1, .mp 8 0)], [(8, [.val .state])], [(11, .int .i64), (3, .int .i64), (2, .bool)], [], []⟩
@[reducible] def O_book_ledger_fine_58 : List LOut := [⟨.ret, [(2, .bool)], [], []⟩, ⟨.exit 0, [(3, .int .i64), (2, .bool)], [], []⟩]
def L_book_ledger_fine_58 (p0 : Int) (p1 : (List SOrder)) (p2 : SState) (v0 : Int) (v1 : Int) (v2 : Bool) : Option ((Int × Int × Bool) ⊕ ((Bool) ⊕ ((Int × Bool)))) := cnd (ilt v0 p0) (cnd (band (ile 0 v0) (ilt v0 (len p1))) (obind (F_order_Right (lget p1 (itn v0))) fun y0 ↦ cnd (bor (bor (bor (bor (bnot y0) (ieq (lget p1 (itn v0)).phase 3)) (ile p2.accounts (lget p1 (itn v0)).account)) (ile p2.symbols (lget p1 (itn v0)).symbol)) (ile (lget p1 (itn v0)).id v1)) (some (Sum.inr (Sum.inl false))) (some (Sum.inl (wr IntKind.i64 (iadd v0 1), (lget p1 (itn v0)).id, v2)))) none) (some (Sum.inr (Sum.inr (v1, v2))))
def Ls_book_ledger_fine_58 : LSpec := S_book_ledger_fine_58.spec O_book_ledger_fine_58 [12, 13, 14, 5, 15, 16, 17, 18, 19, 20, 21, 22, 23, 24, 25, 26, 27, 28, 29, 30, 31, 32, 33, 34, 35, 36, 37, 38, 39, 40, 41, 42, 43, 44, 2, 45, 46, 3, 47, 11] (fun p v => L_book_ledger_fine_58 p.1 p.2.1 p.2.2 v.1 v.2.1 v.2.2)
def S_book_ledger_fine_26_slices_IndexFunc_api_Expo_c136_c142 : LSh := ⟨210, [(7, .int .i64), (0, .ro .expo)], [(1, .fn 79 [])], [], [(8, .int .i64), (4, .int .i64)], [], []⟩
@[reducible] def O_book_ledger_fine_26_slices_IndexFunc_api_Expo_c136_c142 : List LOut := [⟨.ret, [(4, .int .i64)], [], []⟩, ⟨.exit 0, [(4, .int .i64)], [], []⟩]
def L_book_ledger_fine_26_slices_IndexFunc_api_Expo_c136_c142 (p0 : Int) (p1 : (List SExpo)) (v0 : Int) (v1 : Int) : Option ((Int × Int) ⊕ ((Int) ⊕ ((Int)))) := cnd (ilt v0 p0) (cnd (band (ile 0 v0) (ilt v0 (len p1))) (obind (F_limit_Right (lget p1 (itn v0))) fun y0 ↦ cnd (bnot y0) (some (Sum.inr (Sum.inl v0))) (some (Sum.inl (wr IntKind.i64 (iadd v0 1), v1)))) none) (some (Sum.inr (Sum.inr v1)))
def Ls_book_ledger_fine_26_slices_IndexFunc_api_Expo_c136_c142 : LSpec := S_book_ledger_fine_26_slices_IndexFunc_api_Expo_c136_c142.spec O_book_ledger_fine_26_slices_IndexFunc_api_Expo_c136_c142 [9, 10, 5, 11, 12, 13, 14, 15, 16, 17, 4, 18, 8] (fun p v => L_book_ledger_fine_26_slices_IndexFunc_api_Expo_c136_c142 p.1 p.2 v.1 v.2)
def F_book_ledger_fine (x0 : SState) : Option (Bool) := obind (iterN (fun v ↦ L_book_ledger_fine_58 (len x0.orders) x0.orders x0 v.fst v.snd.fst v.snd.snd) LF (0, 0, false)) fun y0 ↦ sumK y0 (fun y1 ↦ some y1) fun y1 ↦ cnd (band (band (band (band (band (ile y1.fst x0.last) (ile x0.last 1000000000000)) (ile 0 x0.seq)) (ile x0.seq 1000000000)) (ile 0 x0.lsn)) (ile x0.lsn 1000000000)) (obind (iterN (fun v ↦ L_book_ledger_fine_26_slices_IndexFunc_api_Expo_c136_c142 (len x0.limits) x0.limits v.fst v.snd) LF (0, 0)) fun y2 ↦ sumK y2 (fun y3 ↦ obind (cnd (band (band (band (band (band (band (ile y1.fst x0.last) (ile x0.last 1000000000000)) (ile 0 x0.seq)) (ile x0.seq 1000000000)) (ile 0 x0.lsn)) (ile x0.lsn 1000000000)) (bnot (ile 0 y3))) (F_slices_Min_int64 x0.caps) (some 0)) fun y4 ↦ some (band (band (band (band (band (band (band (band (ile y1.fst x0.last) (ile x0.last 1000000000000)) (ile 0 x0.seq)) (ile x0.seq 1000000000)) (ile 0 x0.lsn)) (ile x0.lsn 1000000000)) (bnot (ile 0 y3))) (ile 0 y4)) (ile 0 x0.last))) fun y3 ↦ obind (cnd (bor (band (band (band (band (band (ile y1.fst x0.last) (ile x0.last 1000000000000)) (ile 0 x0.seq)) (ile x0.seq 1000000000)) (ile 0 x0.lsn)) (ile x0.lsn 1000000000)) false) (F_slices_Min_int64 x0.caps) (some 0)) fun y5 ↦ some (band (band (bor (band (band (band (band (band (ile y1.fst x0.last) (ile x0.last 1000000000000)) (ile 0 x0.seq)) (ile x0.seq 1000000000)) (ile 0 x0.lsn)) (ile x0.lsn 1000000000)) false) (ile 0 y5)) (ile 0 x0.last))) (obind (cnd (bor (band (band (band (band (band (ile y1.fst x0.last) (ile x0.last 1000000000000)) (ile 0 x0.seq)) (ile x0.seq 1000000000)) (ile 0 x0.lsn)) (ile x0.lsn 1000000000)) false) (F_slices_Min_int64 x0.caps) (some 0)) fun y6 ↦ some (band (band (bor (band (band (band (band (band (ile y1.fst x0.last) (ile x0.last 1000000000000)) (ile 0 x0.seq)) (ile x0.seq 1000000000)) (ile 0 x0.lsn)) (ile x0.lsn 1000000000)) false) (ile 0 y6)) (ile 0 x0.last)))
noncomputable def C_book_ledger_fine : Cx := { P := PG, ety := ety, fn := look [(70, spec_order_Right), (80, spec_limit_Right), (82, spec_slices_Min_int64)], inl := memN [79, 81, 89], lp := lookLp [(62, 58, Ls_book_ledger_fine_58), (1143700525455187173465, 26, Ls_book_ledger_fine_26_slices_IndexFunc_api_Expo_c136_c142)] }
theorem L_book_ledger_fine_58_eq (p0 : Int) (p1 : (List SOrder)) (p2 : SState) (v0 : Int) (v1 : Int) (v2 : Bool) : runLp C_book_ledger_fine 900 62 58 (lpBody PG 62 58) S_book_ledger_fine_58 O_book_ledger_fine_58 (p0, p1, p2) (v0, v1, v2) = L_book_ledger_fine_58 p0 p1 p2 v0 v1 v2 := by kernel_rfl
theorem L_book_ledger_fine_26_slices_IndexFunc_api_Expo_c136_c142_eq (p0 : Int) (p1 : (List SExpo)) (v0 : Int) (v1 : Int) : runLp C_book_ledger_fine 900 1143700525455187173465 26 (lpBody PG 89 26) S_book_ledger_fine_26_slices_IndexFunc_api_Expo_c136_c142 O_book_ledger_fine_26_slices_IndexFunc_api_Expo_c136_c142 (p0, p1) (v0, v1) = L_book_ledger_fine_26_slices_IndexFunc_api_Expo_c136_c142 p0 p1 v0 v1 := by kernel_rfl
theorem F_book_ledger_fine_eq (x0 : SState) : runFn C_book_ledger_fine 62 [.val .state] [.bool] x0 = F_book_ledger_fine x0 := by kernel_rfl
def spec_book_ledger_fine : FnSpec := mkSpec [.val .state] [.bool] true (fun x => F_book_ledger_fine x)
theorem ok_book_ledger_fine : FnOk PG 62 spec_book_ledger_fine :=
  have K : CxR C_book_ledger_fine := seatOk.cx (fun _ => rfl) (l := [(70, spec_order_Right), (80, spec_limit_Right), (82, spec_slices_Min_int64)]) ⟨ok_order_Right, ok_limit_Right, ok_slices_Min_int64, trivial⟩
  fn_entry K (lps_from (l := [(62, 58, Ls_book_ledger_fine_58), (1143700525455187173465, 26, Ls_book_ledger_fine_26_slices_IndexFunc_api_Expo_c136_c142)]) rfl ⟨lp_entry (n := 900) (f := 62) K (by kernel_rfl) (by kernel_rfl) (by kernel_rfl) (by kernel_rfl) (by kernel_rfl) (fun p v r h => (L_book_ledger_fine_58_eq p.1 p.2.1 p.2.2 v.1 v.2.1 v.2.2).trans h),
    lp_entry (n := 900) (f := 89) K (by kernel_rfl) (by kernel_rfl) (by kernel_rfl) (by kernel_rfl) (by kernel_rfl) (fun p v r h => (L_book_ledger_fine_26_slices_IndexFunc_api_Expo_c136_c142_eq p.1 p.2 v.1 v.2).trans h), trivial⟩) (by kernel_rfl) (fun x y h => (F_book_ledger_fine_eq x).trans h) rfl rfl

def F_book_ledger_cellOf (x0 : SState) (x1 : Int) (x2 : Int) : Option (Int) := some (wr IntKind.i64 (iadd (wr IntKind.i64 (imul x1 x0.symbols)) x2))
noncomputable def C_book_ledger_cellOf : Cx := { P := PG, ety := ety, fn := look [], inl := memN [], lp := lookLp [] }
theorem F_book_ledger_cellOf_eq (x0 : SState) (x1 : Int) (x2 : Int) : runFn C_book_ledger_cellOf 46 [.val .state, .int .i64, .int .i64] [.int .i64] (x0, x1, x2) = F_book_ledger_cellOf x0 x1 x2 := by kernel_rfl
def spec_book_ledger_cellOf : FnSpec := mkSpec [.val .state, .int .i64, .int .i64] [.int .i64] true (fun x => F_book_ledger_cellOf x.1 x.2.1 x.2.2)
theorem ok_book_ledger_cellOf : FnOk PG 46 spec_book_ledger_cellOf :=
  have K : CxR C_book_ledger_cellOf := seatOk.cx (fun _ => rfl) (l := []) trivial
  fn_entry K (lps_from (l := []) rfl trivial) (by kernel_rfl) (fun x y h => (F_book_ledger_cellOf_eq x.1 x.2.1 x.2.2).trans h) rfl rfl

def F_num_Add (x0 : Int) (x1 : Int) : Option (Int × Int) := cnd (band (bnot (beq (ilt x0 (wr IntKind.i64 (iadd x0 x1))) (ilt 0 x1))) (bnot (ieq x1 0))) (some (0, 3)) (some (wr IntKind.i64 (iadd x0 x1), 0))
noncomputable def C_num_Add : Cx := { P := PG, ety := ety, fn := look [], inl := memN [], lp := lookLp [] }
theorem F_num_Add_eq (x0 : Int) (x1 : Int) : runFn C_num_Add 21 [.int .i64, .int .i64] [.int .i64, .int .i64] (x0, x1) = F_num_Add x0 x1 := by kernel_rfl
def spec_num_Add : FnSpec := mkSpec [.int .i64, .int .i64] [.int .i64, .int .i64] true (fun x => F_num_Add x.1 x.2)
theorem ok_num_Add : FnOk PG 21 spec_num_Add :=
  have K : CxR C_num_Add := seatOk.cx (fun _ => rfl) (l := []) trivial
  fn_entry K (lps_from (l := []) rfl trivial) (by kernel_rfl) (fun x y h => (F_num_Add_eq x.1 x.2).trans h) rfl rfl

def F_num_Sub (x0 : Int) (x1 : Int) : Option (Int × Int) := cnd (band (bnot (beq (ilt (wr IntKind.i64 (isub x0 x1)) x0) (ilt 0 x1))) (bnot (ieq x1 0))) (some (0, 3)) (some (wr IntKind.i64 (isub x0 x1), 0))
noncomputable def C_num_Sub : Cx := { P := PG, ety := ety, fn := look [], inl := memN [], lp := lookLp [] }
theorem F_num_Sub_eq (x0 : Int) (x1 : Int) : runFn C_num_Sub 57 [.int .i64, .int .i64] [.int .i64, .int .i64] (x0, x1) = F_num_Sub x0 x1 := by kernel_rfl
def spec_num_Sub : FnSpec := mkSpec [.int .i64, .int .i64] [.int .i64, .int .i64] true (fun x => F_num_Sub x.1 x.2)
theorem ok_num_Sub : FnOk PG 57 spec_num_Sub :=
  have K : CxR C_num_Sub := seatOk.cx (fun _ => rfl) (l := []) trivial
  fn_entry K (lps_from (l := []) rfl trivial) (by kernel_rfl) (fun x y h => (F_num_Sub_eq x.1 x.2).trans h) rfl rfl

def F_cell_expo (x0 : SCell) : Option (SExpo × Bool) := obind (F_num_Add x0.pos x0.buy) fun y0 ↦ obind (F_num_Sub x0.sell x0.pos) fun y1 ↦ some (SExpo.mk y0.fst y1.fst x0.opn, band (ieq y0.snd 0) (ieq y1.snd 0))
noncomputable def C_cell_expo : Cx := { P := PG, ety := ety, fn := look [(21, spec_num_Add), (57, spec_num_Sub)], inl := memN [], lp := lookLp [] }
theorem F_cell_expo_eq (x0 : SCell) : runFn C_cell_expo 75 [.val .cell] [.val .expo, .bool] x0 = F_cell_expo x0 := by kernel_rfl
def spec_cell_expo : FnSpec := mkSpec [.val .cell] [.val .expo, .bool] true (fun x => F_cell_expo x)
theorem ok_cell_expo : FnOk PG 75 spec_cell_expo :=
  have K : CxR C_cell_expo := seatOk.cx (fun _ => rfl) (l := [(21, spec_num_Add), (57, spec_num_Sub)]) ⟨ok_num_Add, ok_num_Sub, trivial⟩
  fn_entry K (lps_from (l := []) rfl trivial) (by kernel_rfl) (fun x y h => (F_cell_expo_eq x).trans h) rfl rfl

def F_cell_Right (x0 : SCell) : Option (Bool) := obind (F_cell_expo x0) fun y0 ↦ some (band y0.snd (ile 0 (imin (imin x0.buy x0.sell) x0.opn)))
noncomputable def C_cell_Right : Cx := { P := PG, ety := ety, fn := look [(75, spec_cell_expo)], inl := memN [], lp := lookLp [] }
theorem F_cell_Right_eq (x0 : SCell) : runFn C_cell_Right 64 [.val .cell] [.bool] x0 = F_cell_Right x0 := by kernel_rfl
def spec_cell_Right : FnSpec := mkSpec [.val .cell] [.bool] true (fun x => F_cell_Right x)
theorem ok_cell_Right : FnOk PG 64 spec_cell_Right :=
  have K : CxR C_cell_Right := seatOk.cx (fun _ => rfl) (l := [(75, spec_cell_expo)]) ⟨ok_cell_expo, trivial⟩
  fn_entry K (lps_from (l := []) rfl trivial) (by kernel_rfl) (fun x y h => (F_cell_Right_eq x).trans h) rfl rfl

def F_num_size (x0 : Int) : Option (Int) := cnd (ilt x0 0) (some (wr IntKind.u64 (isub 0 (wr IntKind.u64 x0)))) (some (wr IntKind.u64 x0))
noncomputable def C_num_size : Cx := { P := PG, ety := ety, fn := look [], inl := memN [], lp := lookLp [] }
theorem F_num_size_eq (x0 : Int) : runFn C_num_size 92 [.int .i64] [.int .u64] x0 = F_num_size x0 := by kernel_rfl
def spec_num_size : FnSpec := mkSpec [.int .i64] [.int .u64] true (fun x => F_num_size x)
theorem ok_num_size : FnOk PG 92 spec_num_size :=
  have K : CxR C_num_size := seatOk.cx (fun _ => rfl) (l := []) trivial
  fn_entry K (lps_from (l := []) rfl trivial) (by kernel_rfl) (fun x y h => (F_num_size_eq x).trans h) rfl rfl

def F_num_Mul (x0 : Int) (x1 : Int) : Option (Int × Int) := obind (F_num_size x0) fun y0 ↦ obind (F_num_size x1) fun y1 ↦ obind (F_math_bits_Mul64 y0 y1) fun y2 ↦ cnd (band (band (ieq y2.fst 0) (bnot (beq (ilt x0 0) (ilt x1 0)))) (ile y2.snd 9223372036854775808)) (some (wr IntKind.i64 (wr IntKind.u64 (isub 0 y2.snd)), 0)) (cnd (band (ieq y2.fst 0) (ile y2.snd 9223372036854775807)) (some (wr IntKind.i64 y2.snd, 0)) (some (0, 3)))
noncomputable def C_num_Mul : Cx := { P := PG, ety := ety, fn := look [(92, spec_num_size), (78, spec_math_bits_Mul64)], inl := memN [], lp := lookLp [] }
theorem F_num_Mul_eq (x0 : Int) (x1 : Int) : runFn C_num_Mul 90 [.int .i64, .int .i64] [.int .i64, .int .i64] (x0, x1) = F_num_Mul x0 x1 := by kernel_rfl
def spec_num_Mul : FnSpec := mkSpec [.int .i64, .int .i64] [.int .i64, .int .i64] true (fun x => F_num_Mul x.1 x.2)
theorem ok_num_Mul : FnOk PG 90 spec_num_Mul :=
  have K : CxR C_num_Mul := seatOk.cx (fun _ => rfl) (l := [(92, spec_num_size), (78, spec_math_bits_Mul64)]) ⟨ok_num_size, ok_math_bits_Mul64, trivial⟩
  fn_entry K (lps_from (l := []) rfl trivial) (by kernel_rfl) (fun x y h => (F_num_Mul_eq x.1 x.2).trans h) rfl rfl

def F_num_Max (x0 : Int) (x1 : Int) : Option (Int) := some (imax x0 x1)
noncomputable def C_num_Max : Cx := { P := PG, ety := ety, fn := look [], inl := memN [], lp := lookLp [] }
theorem F_num_Max_eq (x0 : Int) (x1 : Int) : runFn C_num_Max 91 [.int .i64, .int .i64] [.int .i64] (x0, x1) = F_num_Max x0 x1 := by kernel_rfl
def spec_num_Max : FnSpec := mkSpec [.int .i64, .int .i64] [.int .i64] true (fun x => F_num_Max x.1 x.2)
theorem ok_num_Max : FnOk PG 91 spec_num_Max :=
  have K : CxR C_num_Max := seatOk.cx (fun _ => rfl) (l := []) trivial
  fn_entry K (lps_from (l := []) rfl trivial) (by kernel_rfl) (fun x y h => (F_num_Max_eq x.1 x.2).trans h) rfl rfl

def F_order_Worth (x0 : SOrder) : Option (Int × Int) := obind (F_order_Right x0) fun y0 ↦ cnd (bnot y0) (some (0, 1)) (cnd (ieq x0.phase 3) (some (0, 0)) (obind (F_num_Mul (wr IntKind.i64 (isub x0.qty x0.filled)) x0.price) fun y1 ↦ cnd (bor (bnot (ieq y1.snd 0)) (ile x0.newQty x0.filled)) (some y1) (obind (F_num_Mul (wr IntKind.i64 (isub x0.newQty x0.filled)) x0.newPrice) fun y2 ↦ cnd (bnot (ieq y2.snd 0)) (some (0, y2.snd)) (obind (F_num_Max y1.fst y2.fst) fun y3 ↦ some (y3, 0)))))
noncomputable def C_order_Worth : Cx := { P := PG, ety := ety, fn := look [(70, spec_order_Right), (90, spec_num_Mul), (91, spec_num_Max)], inl := memN [], lp := lookLp [] }
theorem F_order_Worth_eq (x0 : SOrder) : runFn C_order_Worth 83 [.val .order] [.int .i64, .int .i64] x0 = F_order_Worth x0 := by kernel_rfl
def spec_order_Worth : FnSpec := mkSpec [.val .order] [.int .i64, .int .i64] true (fun x => F_order_Worth x)
theorem ok_order_Worth : FnOk PG 83 spec_order_Worth :=
  have K : CxR C_order_Worth := seatOk.cx (fun _ => rfl) (l := [(70, spec_order_Right), (90, spec_num_Mul), (91, spec_num_Max)]) ⟨ok_order_Right, ok_num_Mul, ok_num_Max, trivial⟩
  fn_entry K (lps_from (l := []) rfl trivial) (by kernel_rfl) (fun x y h => (F_order_Worth_eq x).trans h) rfl rfl

def F_order_Open (x0 : SOrder) : Option (Int) := obind (F_order_Right x0) fun y0 ↦ cnd (bor (bnot y0) (ieq x0.phase 3)) (some 0) (obind (F_num_Max x0.qty x0.newQty) fun y1 ↦ some (wr IntKind.i64 (isub y1 x0.filled)))
noncomputable def C_order_Open : Cx := { P := PG, ety := ety, fn := look [(70, spec_order_Right), (91, spec_num_Max)], inl := memN [], lp := lookLp [] }
theorem F_order_Open_eq (x0 : SOrder) : runFn C_order_Open 84 [.val .order] [.int .i64] x0 = F_order_Open x0 := by kernel_rfl
def spec_order_Open : FnSpec := mkSpec [.val .order] [.int .i64] true (fun x => F_order_Open x)
theorem ok_order_Open : FnOk PG 84 spec_order_Open :=
  have K : CxR C_order_Open := seatOk.cx (fun _ => rfl) (l := [(70, spec_order_Right), (91, spec_num_Max)]) ⟨ok_order_Right, ok_num_Max, trivial⟩
  fn_entry K (lps_from (l := []) rfl trivial) (by kernel_rfl) (fun x y h => (F_order_Open_eq x).trans h) rfl rfl

def F_cell_Come (x0 : SCell) (x1 : SOrder) : Option (SCell × Int) := obind (F_cell_Right x0) fun y0 ↦ obind (cnd (bnot (bnot y0)) (F_order_Right x1) (some false)) fun y1 ↦ cnd (bor (bnot y0) (bnot y1)) (some (x0, 1)) (obind (F_order_Worth x1) fun y2 ↦ cnd (ieq x1.side 2) (obind (F_order_Open x1) fun y3 ↦ obind (F_num_Add x0.sell y3) fun y4 ↦ obind (F_num_Add x0.opn y2.fst) fun y5 ↦ obind (cnd (bnot (bor (bor (bnot (ieq y2.snd 0)) (bnot (ieq y4.snd 0))) (bnot (ieq y5.snd 0)))) (F_cell_Right (SCell.mk x0.pos x0.buy y4.fst y5.fst)) (some false)) fun y6 ↦ cnd (bor (bor (bor (bnot (ieq y2.snd 0)) (bnot (ieq y4.snd 0))) (bnot (ieq y5.snd 0))) (bnot y6)) (some (x0, 3)) (some (SCell.mk x0.pos x0.buy y4.fst y5.fst, 0))) (obind (F_order_Open x1) fun y7 ↦ obind (F_num_Add x0.buy y7) fun y8 ↦ obind (F_num_Add x0.opn y2.fst) fun y9 ↦ obind (cnd (bnot (bor (bor (bnot (ieq y2.snd 0)) (bnot (ieq y8.snd 0))) (bnot (ieq y9.snd 0)))) (F_cell_Right (SCell.mk x0.pos y8.fst x0.sell y9.fst)) (some false)) fun y10 ↦ cnd (bor (bor (bor (bnot (ieq y2.snd 0)) (bnot (ieq y8.snd 0))) (bnot (ieq y9.snd 0))) (bnot y10)) (some (x0, 3)) (some (SCell.mk x0.pos y8.fst x0.sell y9.fst, 0))))
noncomputable def C_cell_Come : Cx := { P := PG, ety := ety, fn := look [(64, spec_cell_Right), (70, spec_order_Right), (83, spec_order_Worth), (84, spec_order_Open), (21, spec_num_Add)], inl := memN [65], lp := lookLp [] }
theorem F_cell_Come_eq (x0 : SCell) (x1 : SOrder) : runFn C_cell_Come 47 [.val .cell, .val .order] [.val .cell, .int .i64] (x0, x1) = F_cell_Come x0 x1 := by kernel_rfl
def spec_cell_Come : FnSpec := mkSpec [.val .cell, .val .order] [.val .cell, .int .i64] true (fun x => F_cell_Come x.1 x.2)
theorem ok_cell_Come : FnOk PG 47 spec_cell_Come :=
  have K : CxR C_cell_Come := seatOk.cx (fun _ => rfl) (l := [(64, spec_cell_Right), (70, spec_order_Right), (83, spec_order_Worth), (84, spec_order_Open), (21, spec_num_Add)]) ⟨ok_cell_Right, ok_order_Right, ok_order_Worth, ok_order_Open, ok_num_Add, trivial⟩
  fn_entry K (lps_from (l := []) rfl trivial) (by kernel_rfl) (fun x y h => (F_cell_Come_eq x.1 x.2).trans h) rfl rfl

def S_book_ledger_summed_58 : LSh := ⟨79, [(18, .int .i64), (17, .ro .order)], [(4, .mf 64), (1, .mp 8 0)], [(8, [.val .state])], [(19, .int .i64), (3, .bool), (2, .buf .cell)], [], [(64, .cell)]⟩
@[reducible] def O_book_ledger_summed_58 : List LOut := [⟨.ret, [(3, .bool), (2, .buf .cell)], [], [(64, .cell)]⟩, ⟨.exit 0, [(3, .bool), (2, .buf .cell)], [], [(64, .cell)]⟩]
def L_book_ledger_summed_58 (p0 : Int) (p1 : (List SOrder)) (p2 : SState) (v0 : Int) (v1 : Bool) (v2 : (List SCell)) (v3 : (List SCell)) : Option ((Int × Bool × (List SCell) × (List SCell)) ⊕ ((Bool × (List SCell) × (List SCell)) ⊕ ((Bool × (List SCell) × (List SCell))))) := cnd (ilt v0 p0) (cnd (band (ile 0 v0) (ilt v0 (len p1))) (obind (F_book_ledger_cellOf p2 (lget p1 (itn v0)).account (lget p1 (itn v0)).symbol) fun y0 ↦ cnd (band (ile 0 y0) (ilt y0 (len v3))) (obind (F_cell_Come (lget v3 (itn y0)) (lget p1 (itn v0))) fun y1 ↦ cnd (bnot (ieq y1.snd 0)) (some (Sum.inr (Sum.inl (false, [], v3)))) (cnd (band (ile 0 y0) (ilt y0 (len v3))) (some (Sum.inl (wr IntKind.i64 (iadd v0 1), v1, v2, lset v3 (itn y0) y1.fst))) none)) none) none) (some (Sum.inr (Sum.inr (v1, v2, v3))))
def Ls_book_ledger_summed_58 : LSpec := S_book_ledger_summed_58.spec O_book_ledger_summed_58 [20, 21, 22, 6, 23, 24, 25, 26, 27, 28, 7, 30, 31, 32, 33, 34, 35, 29, 36, 37, 8, 9, 38, 39, 2, 3, 40, 41, 42, 43, 44, 19] (fun p v => L_book_ledger_summed_58 p.1 p.2.1 p.2.2 v.1 v.2.1 v.2.2.1 v.2.2.2)
def F_book_ledger_summed (x0 : SState) : Option ((List SCell) × Bool) := cnd (band (band (ile 0 (len x0.cells)) (ile (len x0.cells) (len x0.cells))) (ile (len x0.cells) 68719476736)) (obind (iterN (fun v ↦ L_book_ledger_summed_58 (len x0.orders) x0.orders x0 v.fst v.snd.fst v.snd.snd.fst v.snd.snd.snd) LF (0, false, [], lrep SCell (itn (len x0.cells)))) fun y0 ↦ sumK y0 (fun y1 ↦ some (y1.snd.fst, y1.fst)) fun y1 ↦ some (y1.snd.snd, true)) none
noncomputable def C_book_ledger_summed : Cx := { P := PG, ety := ety, fn := look [(46, spec_book_ledger_cellOf), (47, spec_cell_Come)], inl := memN [], lp := lookLp [(63, 58, Ls_book_ledger_summed_58)] }
theorem L_book_ledger_summed_58_eq (p0 : Int) (p1 : (List SOrder)) (p2 : SState) (v0 : Int) (v1 : Bool) (v2 : (List SCell)) (v3 : (List SCell)) : runLp C_book_ledger_summed 900 63 58 (lpBody PG 63 58) S_book_ledger_summed_58 O_book_ledger_summed_58 (p0, p1, p2) (v0, v1, v2, v3) = L_book_ledger_summed_58 p0 p1 p2 v0 v1 v2 v3 := by kernel_rfl
theorem F_book_ledger_summed_eq (x0 : SState) : runFn C_book_ledger_summed 63 [.val .state] [.buf .cell, .bool] x0 = F_book_ledger_summed x0 := by kernel_rfl
def spec_book_ledger_summed : FnSpec := mkSpec [.val .state] [.buf .cell, .bool] true (fun x => F_book_ledger_summed x)
theorem ok_book_ledger_summed : FnOk PG 63 spec_book_ledger_summed :=
  have K : CxR C_book_ledger_summed := seatOk.cx (fun _ => rfl) (l := [(46, spec_book_ledger_cellOf), (47, spec_cell_Come)]) ⟨ok_book_ledger_cellOf, ok_cell_Come, trivial⟩
  fn_entry K (lps_from (l := [(63, 58, Ls_book_ledger_summed_58)]) rfl ⟨lp_entry (n := 900) (f := 63) K (by kernel_rfl) (by kernel_rfl) (by kernel_rfl) (by kernel_rfl) (by kernel_rfl) (fun p v r h => (L_book_ledger_summed_58_eq p.1 p.2.1 p.2.2 v.1 v.2.1 v.2.2.1 v.2.2.2).trans h), trivial⟩) (by kernel_rfl) (fun x y h => (F_book_ledger_summed_eq x).trans h) rfl rfl

def F_book_ledger_account (x0 : SState) (x1 : Int) : Option ((List SCell)) := cnd (band (band (ile 0 (wr IntKind.i64 (imul x1 x0.symbols))) (ile (wr IntKind.i64 (imul x1 x0.symbols)) (wr IntKind.i64 (imul (wr IntKind.i64 (iadd x1 1)) x0.symbols)))) (ile (wr IntKind.i64 (imul (wr IntKind.i64 (iadd x1 1)) x0.symbols)) (len x0.cells))) (some (ltake (ldrop x0.cells (itn (wr IntKind.i64 (imul x1 x0.symbols)))) (itn (isub (wr IntKind.i64 (imul (wr IntKind.i64 (iadd x1 1)) x0.symbols)) (wr IntKind.i64 (imul x1 x0.symbols)))))) none
noncomputable def C_book_ledger_account : Cx := { P := PG, ety := ety, fn := look [], inl := memN [], lp := lookLp [] }
theorem F_book_ledger_account_eq (x0 : SState) (x1 : Int) : runFn C_book_ledger_account 59 [.val .state, .int .i64] [.ro .cell] (x0, x1) = F_book_ledger_account x0 x1 := by kernel_rfl
def spec_book_ledger_account : FnSpec := mkSpec [.val .state, .int .i64] [.ro .cell] false (fun x => F_book_ledger_account x.1 x.2)
theorem ok_book_ledger_account : FnOk PG 59 spec_book_ledger_account :=
  have K : CxR C_book_ledger_account := seatOk.cx (fun _ => rfl) (l := []) trivial
  fn_entry K (lps_from (l := []) rfl trivial) (by kernel_rfl) (fun x y h => (F_book_ledger_account_eq x.1 x.2).trans h) rfl rfl

def S_num_Total_58 : LSh := ⟨71, [(10, .int .i64), (9, .ro .i64)], [], [], [(11, .int .i64), (4, .int .i64), (3, .int .i64), (2, .int .i64)], [], []⟩
@[reducible] def O_num_Total_58 : List LOut := [⟨.ret, [(3, .int .i64), (2, .int .i64)], [], []⟩, ⟨.exit 0, [(4, .int .i64), (3, .int .i64), (2, .int .i64)], [], []⟩]
def L_num_Total_58 (p0 : Int) (p1 : (List Int)) (v0 : Int) (v1 : Int) (v2 : Int) (v3 : Int) : Option ((Int × Int × Int × Int) ⊕ ((Int × Int) ⊕ ((Int × Int × Int)))) := cnd (ilt v0 p0) (cnd (band (ile 0 v0) (ilt v0 (len p1))) (obind (F_num_Add v1 (lget p1 (itn v0))) fun y0 ↦ cnd (bnot (ieq y0.snd 0)) (some (Sum.inr (Sum.inl (y0.snd, 0)))) (some (Sum.inl (wr IntKind.i64 (iadd v0 1), y0.fst, v2, v3)))) none) (some (Sum.inr (Sum.inr (v1, v2, v3))))
def Ls_num_Total_58 : LSpec := S_num_Total_58.spec O_num_Total_58 [12, 13, 14, 6, 16, 17, 18, 15, 19, 20, 7, 8, 21, 22, 23, 2, 3, 24, 4, 25, 11] (fun p v => L_num_Total_58 p.1 p.2 v.1 v.2.1 v.2.2.1 v.2.2.2)
def F_num_Total (x0 : (List Int)) : Option (Int × Int) := obind (iterN (fun v ↦ L_num_Total_58 (len x0) x0 v.fst v.snd.fst v.snd.snd.fst v.snd.snd.snd) LF (0, 0, 0, 0)) fun y0 ↦ sumK y0 (fun y1 ↦ some (y1.snd, y1.fst)) fun y1 ↦ some (y1.fst, 0)
noncomputable def C_num_Total : Cx := { P := PG, ety := ety, fn := look [(21, spec_num_Add)], inl := memN [], lp := lookLp [(76, 58, Ls_num_Total_58)] }
theorem L_num_Total_58_eq (p0 : Int) (p1 : (List Int)) (v0 : Int) (v1 : Int) (v2 : Int) (v3 : Int) : runLp C_num_Total 900 76 58 (lpBody PG 76 58) S_num_Total_58 O_num_Total_58 (p0, p1) (v0, v1, v2, v3) = L_num_Total_58 p0 p1 v0 v1 v2 v3 := by kernel_rfl
theorem F_num_Total_eq (x0 : (List Int)) : runFn C_num_Total 76 [.ro .i64] [.int .i64, .int .i64] x0 = F_num_Total x0 := by kernel_rfl
def spec_num_Total : FnSpec := mkSpec [.ro .i64] [.int .i64, .int .i64] true (fun x => F_num_Total x)
theorem ok_num_Total : FnOk PG 76 spec_num_Total :=
  have K : CxR C_num_Total := seatOk.cx (fun _ => rfl) (l := [(21, spec_num_Add)]) ⟨ok_num_Add, trivial⟩
  fn_entry K (lps_from (l := [(76, 58, Ls_num_Total_58)]) rfl ⟨lp_entry (n := 900) (f := 76) K (by kernel_rfl) (by kernel_rfl) (by kernel_rfl) (by kernel_rfl) (by kernel_rfl) (fun p v r h => (L_num_Total_58_eq p.1 p.2 v.1 v.2.1 v.2.2.1 v.2.2.2).trans h), trivial⟩) (by kernel_rfl) (fun x y h => (F_num_Total_eq x).trans h) rfl rfl

def S_limit_Whole_58 : LSh := ⟨71, [(8, .int .i64), (7, .ro .cell)], [], [], [(9, .int .i64), (4, .buf .i64)], [], []⟩
@[reducible] def O_limit_Whole_58 : List LOut := [⟨.exit 0, [(4, .buf .i64)], [], []⟩]
def L_limit_Whole_58 (p0 : Int) (p1 : (List SCell)) (v0 : Int) (v1 : (List Int)) : Option ((Int × (List Int)) ⊕ (((List Int)))) := cnd (ilt v0 p0) (cnd (band (ile 0 v0) (ilt v0 (len p1))) (cnd (ile (len (lapp v1 [(lget p1 (itn v0)).opn])) 68719476736) (some (Sum.inl (wr IntKind.i64 (iadd v0 1), lapp v1 [(lget p1 (itn v0)).opn]))) none) none) (some (Sum.inr v1))
def Ls_limit_Whole_58 : LSpec := S_limit_Whole_58.spec O_limit_Whole_58 [10, 11, 12, 6, 13, 14, 15, 16, 17, 4, 18, 9] (fun p v => L_limit_Whole_58 p.1 p.2 v.1 v.2)
def F_limit_Whole (x0 : (List SCell)) : Option (Int × Int) := obind (iterN (fun v ↦ L_limit_Whole_58 (len x0) x0 v.fst v.snd) LF (0, [])) fun y0 ↦ obind (F_num_Total y0) fun y1 ↦ some y1
noncomputable def C_limit_Whole : Cx := { P := PG, ety := ety, fn := look [(76, spec_num_Total)], inl := memN [], lp := lookLp [(58, 58, Ls_limit_Whole_58)] }
theorem L_limit_Whole_58_eq (p0 : Int) (p1 : (List SCell)) (v0 : Int) (v1 : (List Int)) : runLp C_limit_Whole 900 58 58 (lpBody PG 58 58) S_limit_Whole_58 O_limit_Whole_58 (p0, p1) (v0, v1) = L_limit_Whole_58 p0 p1 v0 v1 := by kernel_rfl
theorem F_limit_Whole_eq (x0 : (List SCell)) : runFn C_limit_Whole 58 [.ro .cell] [.int .i64, .int .i64] x0 = F_limit_Whole x0 := by kernel_rfl
def spec_limit_Whole : FnSpec := mkSpec [.ro .cell] [.int .i64, .int .i64] true (fun x => F_limit_Whole x)
theorem ok_limit_Whole : FnOk PG 58 spec_limit_Whole :=
  have K : CxR C_limit_Whole := seatOk.cx (fun _ => rfl) (l := [(76, spec_num_Total)]) ⟨ok_num_Total, trivial⟩
  fn_entry K (lps_from (l := [(58, 58, Ls_limit_Whole_58)]) rfl ⟨lp_entry (n := 900) (f := 58) K (by kernel_rfl) (by kernel_rfl) (by kernel_rfl) (by kernel_rfl) (by kernel_rfl) (fun p v r h => (L_limit_Whole_58_eq p.1 p.2 v.1 v.2).trans h), trivial⟩) (by kernel_rfl) (fun x y h => (F_limit_Whole_eq x).trans h) rfl rfl

def S_book_ledger_right_250 : LSh := ⟨89, [(28, .int .i64), (27, .ro .cell)], [(3, .mf 96)], [], [(29, .int .i64), (2, .bool)], [], [(96, .cell)]⟩
@[reducible] def O_book_ledger_right_250 : List LOut := [⟨.ret, [(2, .bool)], [], [(96, .cell)]⟩, ⟨.exit 0, [(2, .bool)], [], [(96, .cell)]⟩]
def L_book_ledger_right_250 (p0 : Int) (p1 : (List SCell)) (v0 : Int) (v1 : Bool) (v2 : (List SCell)) : Option ((Int × Bool × (List SCell)) ⊕ ((Bool × (List SCell)) ⊕ ((Bool × (List SCell))))) := cnd (ilt v0 p0) (cnd (band (ile 0 v0) (ilt v0 (len p1))) (cnd (band (ile 0 v0) (ilt v0 (len v2))) (obind (F_cell_Right (lget p1 (itn v0))) fun y0 ↦ cnd (bor (band (ile 0 v0) (ilt v0 (len (lset v2 (itn v0) (SCell.mk (lget p1 (itn v0)).pos (lget v2 (itn v0)).buy (lget v2 (itn v0)).sell (lget v2 (itn v0)).opn))))) (bnot (bnot (bnot y0)))) (cnd (bor (bnot y0) (bnot (band (ieq (lget (lset v2 (itn v0) (SCell.mk (lget p1 (itn v0)).pos (lget v2 (itn v0)).buy (lget v2 (itn v0)).sell (lget v2 (itn v0)).opn)) (itn v0)).pos (lget p1 (itn v0)).pos) (band (ieq (lget (lset v2 (itn v0) (SCell.mk (lget p1 (itn v0)).pos (lget v2 (itn v0)).buy (lget v2 (itn v0)).sell (lget v2 (itn v0)).opn)) (itn v0)).buy (lget p1 (itn v0)).buy) (band (ieq (lget (lset v2 (itn v0) (SCell.mk (lget p1 (itn v0)).pos (lget v2 (itn v0)).buy (lget v2 (itn v0)).sell (lget v2 (itn v0)).opn)) (itn v0)).sell (lget p1 (itn v0)).sell) (ieq (lget (lset v2 (itn v0) (SCell.mk (lget p1 (itn v0)).pos (lget v2 (itn v0)).buy (lget v2 (itn v0)).sell (lget v2 (itn v0)).opn)) (itn v0)).opn (lget p1 (itn v0)).opn)))))) (some (Sum.inr (Sum.inl (false, lset v2 (itn v0) (SCell.mk (lget p1 (itn v0)).pos (lget v2 (itn v0)).buy (lget v2 (itn v0)).sell (lget v2 (itn v0)).opn))))) (some (Sum.inl (wr IntKind.i64 (iadd v0 1), v1, lset v2 (itn v0) (SCell.mk (lget p1 (itn v0)).pos (lget v2 (itn v0)).buy (lget v2 (itn v0)).sell (lget v2 (itn v0)).opn))))) none) none) none) (some (Sum.inr (Sum.inr (v1, v2))))
def Ls_book_ledger_right_250 : LSpec := S_book_ledger_right_250.spec O_book_ledger_right_250 [30, 31, 32, 33, 6, 5, 34, 35, 36, 37, 38, 39, 40, 41, 42, 43, 44, 45, 46, 47, 48, 49, 50, 2, 51, 29] (fun p v => L_book_ledger_right_250 p.1 p.2 v.1 v.2.1 v.2.2)
def S_book_ledger_right_506 : LSh := ⟨162, [(54, .int .i64)], [(1, .mp 8 0)], [(8, [.val .state])], [(55, .int .i64), (2, .bool)], [], []⟩
@[reducible] def O_book_ledger_right_506 : List LOut := [⟨.ret, [(2, .bool)], [], []⟩, ⟨.exit 2, [(2, .bool)], [], []⟩]
def L_book_ledger_right_506 (p0 : Int) (p1 : SState) (v0 : Int) (v1 : Bool) : Option ((Int × Bool) ⊕ ((Bool) ⊕ ((Bool)))) := cnd (ilt v0 p0) (obind (F_book_ledger_account p1 v0) fun y0 ↦ obind (F_limit_Whole y0) fun y1 ↦ cnd (bnot (ieq y1.snd 0)) (some (Sum.inr (Sum.inl false))) (some (Sum.inl (wr IntKind.i64 (iadd v0 1), v1)))) (some (Sum.inr (Sum.inr v1)))
def Ls_book_ledger_right_506 : LSpec := S_book_ledger_right_506.spec O_book_ledger_right_506 [56, 57, 7, 59, 60, 61, 62, 58, 63, 64, 8, 9, 65, 66, 2, 67, 55] (fun p v => L_book_ledger_right_506 p.1 p.2 v.1 v.2)
def F_book_ledger_right (x0 : SState) : Option (Bool) := obind (F_book_ledger_sized x0) fun y0 ↦ obind (cnd (bnot (bnot y0)) (F_book_ledger_fine x0) (some false)) fun y1 ↦ cnd (bor (bnot y0) (bnot y1)) (some false) (obind (F_book_ledger_summed x0) fun y2 ↦ cnd (bnot y2.snd) (some false) (obind (iterN (fun v ↦ L_book_ledger_right_250 (len x0.cells) x0.cells v.fst v.snd.fst v.snd.snd) LF (0, false, y2.fst)) fun y3 ↦ sumK y3 (fun y4 ↦ some y4.fst) fun y4 ↦ obind (iterN (fun v ↦ L_book_ledger_right_506 x0.accounts x0 v.fst v.snd) LF (0, y4.fst)) fun y5 ↦ sumK y5 (fun y6 ↦ some y6) fun y6 ↦ some true))
noncomputable def C_book_ledger_right : Cx := { P := PG, ety := ety, fn := look [(61, spec_book_ledger_sized), (62, spec_book_ledger_fine), (63, spec_book_ledger_summed), (64, spec_cell_Right), (59, spec_book_ledger_account), (58, spec_limit_Whole)], inl := memN [], lp := lookLp [(35, 250, Ls_book_ledger_right_250), (35, 506, Ls_book_ledger_right_506)] }
theorem L_book_ledger_right_250_eq (p0 : Int) (p1 : (List SCell)) (v0 : Int) (v1 : Bool) (v2 : (List SCell)) : runLp C_book_ledger_right 900 35 250 (lpBody PG 35 250) S_book_ledger_right_250 O_book_ledger_right_250 (p0, p1) (v0, v1, v2) = L_book_ledger_right_250 p0 p1 v0 v1 v2 := by kernel_rfl
theorem L_book_ledger_right_506_eq (p0 : Int) (p1 : SState) (v0 : Int) (v1 : Bool) : runLp C_book_ledger_right 900 35 506 (lpBody PG 35 506) S_book_ledger_right_506 O_book_ledger_right_506 (p0, p1) (v0, v1) = L_book_ledger_right_506 p0 p1 v0 v1 := by kernel_rfl
theorem F_book_ledger_right_eq (x0 : SState) : runFn C_book_ledger_right 35 [.val .state] [.bool] x0 = F_book_ledger_right x0 := by kernel_rfl
def spec_book_ledger_right : FnSpec := mkSpec [.val .state] [.bool] true (fun x => F_book_ledger_right x)
theorem ok_book_ledger_right : FnOk PG 35 spec_book_ledger_right :=
  have K : CxR C_book_ledger_right := seatOk.cx (fun _ => rfl) (l := [(61, spec_book_ledger_sized), (62, spec_book_ledger_fine), (63, spec_book_ledger_summed), (64, spec_cell_Right), (59, spec_book_ledger_account), (58, spec_limit_Whole)]) ⟨ok_book_ledger_sized, ok_book_ledger_fine, ok_book_ledger_summed, ok_cell_Right, ok_book_ledger_account, ok_limit_Whole, trivial⟩
  fn_entry K (lps_from (l := [(35, 250, Ls_book_ledger_right_250), (35, 506, Ls_book_ledger_right_506)]) rfl ⟨lp_entry (n := 900) (f := 35) K (by kernel_rfl) (by kernel_rfl) (by kernel_rfl) (by kernel_rfl) (by kernel_rfl) (fun p v r h => (L_book_ledger_right_250_eq p.1 p.2 v.1 v.2.1 v.2.2).trans h),
    lp_entry (n := 900) (f := 35) K (by kernel_rfl) (by kernel_rfl) (by kernel_rfl) (by kernel_rfl) (by kernel_rfl) (fun p v r h => (L_book_ledger_right_506_eq p.1 p.2 v.1 v.2).trans h), trivial⟩) (by kernel_rfl) (fun x y h => (F_book_ledger_right_eq x).trans h) rfl rfl

def F_book_Right (x0 : SState) : Option (Bool) := obind (F_book_ledger_right x0) fun y0 ↦ some y0
noncomputable def C_book_Right : Cx := { P := PG, ety := ety, fn := look [(35, spec_book_ledger_right)], inl := memN [], lp := lookLp [] }
theorem F_book_Right_eq (x0 : SState) : runFn C_book_Right 17 [.val .state] [.bool] x0 = F_book_Right x0 := by kernel_rfl
def spec_book_Right : FnSpec := mkSpec [.val .state] [.bool] true (fun x => F_book_Right x)
theorem ok_book_Right : FnOk PG 17 spec_book_Right :=
  have K : CxR C_book_Right := seatOk.cx (fun _ => rfl) (l := [(35, spec_book_ledger_right)]) ⟨ok_book_ledger_right, trivial⟩
  fn_entry K (lps_from (l := []) rfl trivial) (by kernel_rfl) (fun x y h => (F_book_Right_eq x).trans h) rfl rfl

def F_book_New (x0 : Int) (x1 : Int) (x2 : SExpo) (x3 : Int) : Option (SState × Int) := cnd (bor (bor (bor (ilt x0 1) (ilt 8 x0)) (ilt x1 1)) (ilt 8 x1)) (some (SState.mk 0 0 [] [] [] [] false 0 0 0, 1)) (cnd (band (band (ile 0 (wr IntKind.i64 (imul x0 x1))) (ile (wr IntKind.i64 (imul x0 x1)) (wr IntKind.i64 (imul x0 x1)))) (ile (wr IntKind.i64 (imul x0 x1)) 68719476736)) (obind (F_slices_Repeat_api_Expo [x2] (wr IntKind.i64 (imul x0 x1))) fun y0 ↦ obind (F_slices_Repeat_int64 [x3] x0) fun y1 ↦ obind (F_book_Right (SState.mk x0 x1 [] (lrep SCell (itn (wr IntKind.i64 (imul x0 x1)))) y0 y1 false 0 0 0)) fun y2 ↦ cnd (bnot y2) (some (SState.mk 0 0 [] [] [] [] false 0 0 0, 1)) (some (SState.mk x0 x1 [] (lrep SCell (itn (wr IntKind.i64 (imul x0 x1)))) y0 y1 false 0 0 0, 0))) none)
noncomputable def C_book_New : Cx := { P := PG, ety := ety, fn := look [(33, spec_slices_Repeat_api_Expo), (34, spec_slices_Repeat_int64), (17, spec_book_Right)], inl := memN [], lp := lookLp [] }
theorem F_book_New_eq (x0 : Int) (x1 : Int) (x2 : SExpo) (x3 : Int) : runFn C_book_New 14 [.int .i64, .int .i64, .val .expo, .int .i64] [.val .state, .int .i64] (x0, x1, x2, x3) = F_book_New x0 x1 x2 x3 := by kernel_rfl
def spec_book_New : FnSpec := mkSpec [.int .i64, .int .i64, .val .expo, .int .i64] [.val .state, .int .i64] false (fun x => F_book_New x.1 x.2.1 x.2.2.1 x.2.2.2)
theorem ok_book_New : FnOk PG 14 spec_book_New :=
  have K : CxR C_book_New := seatOk.cx (fun _ => rfl) (l := [(33, spec_slices_Repeat_api_Expo), (34, spec_slices_Repeat_int64), (17, spec_book_Right)]) ⟨ok_slices_Repeat_api_Expo, ok_slices_Repeat_int64, ok_book_Right, trivial⟩
  fn_entry K (lps_from (l := []) rfl trivial) (by kernel_rfl) (fun x y h => (F_book_New_eq x.1 x.2.1 x.2.2.1 x.2.2.2).trans h) rfl rfl

def F_slices_Clone_api_Order (x0 : (List SOrder)) : Option ((List SOrder)) := nilq (len x0) fun y0 ↦ cnd (beq y0 true) (some []) (cnd (ile (len x0) 68719476736) (some x0) none)
noncomputable def C_slices_Clone_api_Order : Cx := { P := PG, ety := ety, fn := look [], inl := memN [], lp := lookLp [] }
theorem F_slices_Clone_api_Order_eq (x0 : (List SOrder)) : runFn C_slices_Clone_api_Order 41 [.ro .order] [.buf .order] x0 = F_slices_Clone_api_Order x0 := by kernel_rfl
def spec_slices_Clone_api_Order : FnSpec := mkSpec [.ro .order] [.buf .order] true (fun x => F_slices_Clone_api_Order x)
theorem ok_slices_Clone_api_Order : FnOk PG 41 spec_slices_Clone_api_Order :=
  have K : CxR C_slices_Clone_api_Order := seatOk.cx (fun _ => rfl) (l := []) trivial
  fn_entry K (lps_from (l := []) rfl trivial) (by kernel_rfl) (fun x y h => (F_slices_Clone_api_Order_eq x).trans h) rfl rfl

def F_slices_Clone_api_Cell (x0 : (List SCell)) : Option ((List SCell)) := nilq (len x0) fun y0 ↦ cnd (beq y0 true) (some []) (cnd (ile (len x0) 68719476736) (some x0) none)
noncomputable def C_slices_Clone_api_Cell : Cx := { P := PG, ety := ety, fn := look [], inl := memN [], lp := lookLp [] }
theorem F_slices_Clone_api_Cell_eq (x0 : (List SCell)) : runFn C_slices_Clone_api_Cell 42 [.ro .cell] [.buf .cell] x0 = F_slices_Clone_api_Cell x0 := by kernel_rfl
def spec_slices_Clone_api_Cell : FnSpec := mkSpec [.ro .cell] [.buf .cell] true (fun x => F_slices_Clone_api_Cell x)
theorem ok_slices_Clone_api_Cell : FnOk PG 42 spec_slices_Clone_api_Cell :=
  have K : CxR C_slices_Clone_api_Cell := seatOk.cx (fun _ => rfl) (l := []) trivial
  fn_entry K (lps_from (l := []) rfl trivial) (by kernel_rfl) (fun x y h => (F_slices_Clone_api_Cell_eq x).trans h) rfl rfl

def F_slices_Clone_api_Expo (x0 : (List SExpo)) : Option ((List SExpo)) := nilq (len x0) fun y0 ↦ cnd (beq y0 true) (some []) (cnd (ile (len x0) 68719476736) (some x0) none)
noncomputable def C_slices_Clone_api_Expo : Cx := { P := PG, ety := ety, fn := look [], inl := memN [], lp := lookLp [] }
theorem F_slices_Clone_api_Expo_eq (x0 : (List SExpo)) : runFn C_slices_Clone_api_Expo 43 [.ro .expo] [.buf .expo] x0 = F_slices_Clone_api_Expo x0 := by kernel_rfl
def spec_slices_Clone_api_Expo : FnSpec := mkSpec [.ro .expo] [.buf .expo] true (fun x => F_slices_Clone_api_Expo x)
theorem ok_slices_Clone_api_Expo : FnOk PG 43 spec_slices_Clone_api_Expo :=
  have K : CxR C_slices_Clone_api_Expo := seatOk.cx (fun _ => rfl) (l := []) trivial
  fn_entry K (lps_from (l := []) rfl trivial) (by kernel_rfl) (fun x y h => (F_slices_Clone_api_Expo_eq x).trans h) rfl rfl

def F_slices_Clone_int64 (x0 : (List Int)) : Option ((List Int)) := nilq (len x0) fun y0 ↦ cnd (beq y0 true) (some []) (cnd (ile (len x0) 68719476736) (some x0) none)
noncomputable def C_slices_Clone_int64 : Cx := { P := PG, ety := ety, fn := look [], inl := memN [], lp := lookLp [] }
theorem F_slices_Clone_int64_eq (x0 : (List Int)) : runFn C_slices_Clone_int64 44 [.ro .i64] [.buf .i64] x0 = F_slices_Clone_int64 x0 := by kernel_rfl
def spec_slices_Clone_int64 : FnSpec := mkSpec [.ro .i64] [.buf .i64] true (fun x => F_slices_Clone_int64 x)
theorem ok_slices_Clone_int64 : FnOk PG 44 spec_slices_Clone_int64 :=
  have K : CxR C_slices_Clone_int64 := seatOk.cx (fun _ => rfl) (l := []) trivial
  fn_entry K (lps_from (l := []) rfl trivial) (by kernel_rfl) (fun x y h => (F_slices_Clone_int64_eq x).trans h) rfl rfl

def F_order_Begin (x0 : SRec) : Option (SOrder × Int) := obind (cnd (bnot (bnot (ieq x0.kind 1))) (F_rec_Right x0) (some false)) fun y0 ↦ cnd (bor (bnot (ieq x0.kind 1)) (bnot y0)) (some (SOrder.mk 0 0 0 0 0 0 0 0 0 0 0 false, 1)) (some (SOrder.mk x0.order x0.account x0.symbol x0.side x0.qty x0.price 0 1 0 0 0 false, 0))
noncomputable def C_order_Begin : Cx := { P := PG, ety := ety, fn := look [(22, spec_rec_Right)], inl := memN [], lp := lookLp [] }
theorem F_order_Begin_eq (x0 : SRec) : runFn C_order_Begin 45 [.val .recd] [.val .order, .int .i64] x0 = F_order_Begin x0 := by kernel_rfl
def spec_order_Begin : FnSpec := mkSpec [.val .recd] [.val .order, .int .i64] true (fun x => F_order_Begin x)
theorem ok_order_Begin : FnOk PG 45 spec_order_Begin :=
  have K : CxR C_order_Begin := seatOk.cx (fun _ => rfl) (l := [(22, spec_rec_Right)]) ⟨ok_rec_Right, trivial⟩
  fn_entry K (lps_from (l := []) rfl trivial) (by kernel_rfl) (fun x y h => (F_order_Begin_eq x).trans h) rfl rfl

def F_cell_Of (x0 : SCell) : Option (SExpo × Int) := obind (F_cell_Right x0) fun y0 ↦ cnd (bnot y0) (some (SExpo.mk 0 0 0, 1)) (obind (F_cell_expo x0) fun y1 ↦ some (y1.fst, 0))
noncomputable def C_cell_Of : Cx := { P := PG, ety := ety, fn := look [(64, spec_cell_Right), (75, spec_cell_expo)], inl := memN [], lp := lookLp [] }
theorem F_cell_Of_eq (x0 : SCell) : runFn C_cell_Of 56 [.val .cell] [.val .expo, .int .i64] x0 = F_cell_Of x0 := by kernel_rfl
def spec_cell_Of : FnSpec := mkSpec [.val .cell] [.val .expo, .int .i64] true (fun x => F_cell_Of x)
theorem ok_cell_Of : FnOk PG 56 spec_cell_Of :=
  have K : CxR C_cell_Of := seatOk.cx (fun _ => rfl) (l := [(64, spec_cell_Right), (75, spec_cell_expo)]) ⟨ok_cell_Right, ok_cell_expo, trivial⟩
  fn_entry K (lps_from (l := []) rfl trivial) (by kernel_rfl) (fun x y h => (F_cell_Of_eq x).trans h) rfl rfl

def F_limit_three (x0 : SExpo) : Option (SA3) := some (SA3.mk x0.long x0.short x0.opn)
noncomputable def C_limit_three : Cx := { P := PG, ety := ety, fn := look [], inl := memN [], lp := lookLp [] }
theorem F_limit_three_eq (x0 : SExpo) : runFn C_limit_three 85 [.val .expo] [.val .a3] x0 = F_limit_three x0 := by kernel_rfl
def spec_limit_three : FnSpec := mkSpec [.val .expo] [.val .a3] true (fun x => F_limit_three x)
theorem ok_limit_three : FnOk PG 85 spec_limit_three :=
  have K : CxR C_limit_three := seatOk.cx (fun _ => rfl) (l := []) trivial
  fn_entry K (lps_from (l := []) rfl trivial) (by kernel_rfl) (fun x y h => (F_limit_three_eq x).trans h) rfl rfl

def F_limit_AgainstCap (x0 : Int) (x1 : Int) (x2 : Int) : Option (Bool) := some (ilt (imax x0 x2) x1)
noncomputable def C_limit_AgainstCap : Cx := { P := PG, ety := ety, fn := look [], inl := memN [], lp := lookLp [] }
theorem F_limit_AgainstCap_eq (x0 : Int) (x1 : Int) (x2 : Int) : runFn C_limit_AgainstCap 67 [.int .i64, .int .i64, .int .i64] [.bool] (x0, x1, x2) = F_limit_AgainstCap x0 x1 x2 := by kernel_rfl
def spec_limit_AgainstCap : FnSpec := mkSpec [.int .i64, .int .i64, .int .i64] [.bool] true (fun x => F_limit_AgainstCap x.1 x.2.1 x.2.2)
theorem ok_limit_AgainstCap : FnOk PG 67 spec_limit_AgainstCap :=
  have K : CxR C_limit_AgainstCap := seatOk.cx (fun _ => rfl) (l := []) trivial
  fn_entry K (lps_from (l := []) rfl trivial) (by kernel_rfl) (fun x y h => (F_limit_AgainstCap_eq x.1 x.2.1 x.2.2).trans h) rfl rfl

def F_limit_Against (x0 : SExpo) (x1 : SExpo) (x2 : SExpo) : Option (Bool) := obind (F_limit_three x0) fun y0 ↦ obind (F_limit_three x1) fun y1 ↦ obind (F_limit_three x2) fun y2 ↦ obind (F_limit_AgainstCap y0.a0 y1.a0 y2.a0) fun y3 ↦ cnd y3 (some true) (obind (F_limit_AgainstCap y0.a1 y1.a1 y2.a1) fun y4 ↦ cnd y4 (some true) (obind (F_limit_AgainstCap y0.a2 y1.a2 y2.a2) fun y5 ↦ cnd y5 (some true) (some false)))
noncomputable def C_limit_Against : Cx := { P := PG, ety := ety, fn := look [(85, spec_limit_three), (67, spec_limit_AgainstCap)], inl := memN [], lp := lookLp [] }
theorem F_limit_Against_eq (x0 : SExpo) (x1 : SExpo) (x2 : SExpo) : runFn C_limit_Against 66 [.val .expo, .val .expo, .val .expo] [.bool] (x0, x1, x2) = F_limit_Against x0 x1 x2 := by kernel_rfl
def spec_limit_Against : FnSpec := mkSpec [.val .expo, .val .expo, .val .expo] [.bool] true (fun x => F_limit_Against x.1 x.2.1 x.2.2)
theorem ok_limit_Against : FnOk PG 66 spec_limit_Against :=
  have K : CxR C_limit_Against := seatOk.cx (fun _ => rfl) (l := [(85, spec_limit_three), (67, spec_limit_AgainstCap)]) ⟨ok_limit_three, ok_limit_AgainstCap, trivial⟩
  fn_entry K (lps_from (l := []) rfl trivial) (by kernel_rfl) (fun x y h => (F_limit_Against_eq x.1 x.2.1 x.2.2).trans h) rfl rfl

def F_book_ledger_bears (x0 : SState) (x1 : SState) (x2 : Int) (x3 : Int) : Option (Int) := obind (F_book_ledger_cellOf x0 x2 x3) fun y0 ↦ obind (F_book_ledger_account x0 x2) fun y1 ↦ obind (F_limit_Whole y1) fun y2 ↦ cnd (bnot (ieq y2.snd 0)) (some 3) (obind (F_book_ledger_account x1 x2) fun y3 ↦ obind (F_limit_Whole y3) fun y4 ↦ cnd (band (ile 0 y0) (ilt y0 (len x1.cells))) (obind (F_cell_Of (lget x1.cells (itn y0))) fun y5 ↦ cnd (band (ile 0 y0) (ilt y0 (len x0.cells))) (obind (F_cell_Of (lget x0.cells (itn y0))) fun y6 ↦ cnd (band (ile 0 y0) (ilt y0 (len x0.limits))) (obind (F_limit_Against y5.fst y6.fst (lget x0.limits (itn y0))) fun y7 ↦ cnd (bor (band (ile 0 x2) (ilt x2 (len x0.caps))) (bnot (bnot y7))) (obind (cnd (bnot y7) (F_limit_AgainstCap y4.fst y2.fst (lget x0.caps (itn x2))) (some false)) fun y8 ↦ cnd (bor y7 y8) (some 4) (some 0)) none) none) none) none)
noncomputable def C_book_ledger_bears : Cx := { P := PG, ety := ety, fn := look [(46, spec_book_ledger_cellOf), (59, spec_book_ledger_account), (58, spec_limit_Whole), (56, spec_cell_Of), (66, spec_limit_Against), (67, spec_limit_AgainstCap)], inl := memN [], lp := lookLp [] }
theorem F_book_ledger_bears_eq (x0 : SState) (x1 : SState) (x2 : Int) (x3 : Int) : runFn C_book_ledger_bears 48 [.val .state, .val .state, .int .i64, .int .i64] [.int .i64] (x0, x1, x2, x3) = F_book_ledger_bears x0 x1 x2 x3 := by kernel_rfl
def spec_book_ledger_bears : FnSpec := mkSpec [.val .state, .val .state, .int .i64, .int .i64] [.int .i64] true (fun x => F_book_ledger_bears x.1 x.2.1 x.2.2.1 x.2.2.2)
theorem ok_book_ledger_bears : FnOk PG 48 spec_book_ledger_bears :=
  have K : CxR C_book_ledger_bears := seatOk.cx (fun _ => rfl) (l := [(46, spec_book_ledger_cellOf), (59, spec_book_ledger_account), (58, spec_limit_Whole), (56, spec_cell_Of), (66, spec_limit_Against), (67, spec_limit_AgainstCap)]) ⟨ok_book_ledger_cellOf, ok_book_ledger_account, ok_limit_Whole, ok_cell_Of, ok_limit_Against, ok_limit_AgainstCap, trivial⟩
  fn_entry K (lps_from (l := []) rfl trivial) (by kernel_rfl) (fun x y h => (F_book_ledger_bears_eq x.1 x.2.1 x.2.2.1 x.2.2.2).trans h) rfl rfl

def S_book_Find_26_slices_IndexFunc_api_Order_c10 : LSh := ⟨78, [(7, .int .i64), (0, .ro .order)], [(1, .fn 69 [.mp 24 0])], [(24, [.int .i64])], [(8, .int .i64), (4, .int .i64)], [], []⟩
@[reducible] def O_book_Find_26_slices_IndexFunc_api_Order_c10 : List LOut := [⟨.ret, [(4, .int .i64)], [], []⟩, ⟨.exit 0, [(4, .int .i64)], [], []⟩]
def L_book_Find_26_slices_IndexFunc_api_Order_c10 (p0 : Int) (p1 : (List SOrder)) (p2 : Int) (v0 : Int) (v1 : Int) : Option ((Int × Int) ⊕ ((Int) ⊕ ((Int)))) := cnd (ilt v0 p0) (cnd (band (ile 0 v0) (ilt v0 (len p1))) (cnd (ieq (lget p1 (itn v0)).id p2) (some (Sum.inr (Sum.inl v0))) (some (Sum.inl (wr IntKind.i64 (iadd v0 1), v1)))) none) (some (Sum.inr (Sum.inr v1)))
def Ls_book_Find_26_slices_IndexFunc_api_Order_c10 : LSpec := S_book_Find_26_slices_IndexFunc_api_Order_c10.spec O_book_Find_26_slices_IndexFunc_api_Order_c10 [9, 10, 5, 11, 12, 13, 14, 15, 16, 17, 4, 18, 8] (fun p v => L_book_Find_26_slices_IndexFunc_api_Order_c10 p.1 p.2.1 p.2.2 v.1 v.2)
def F_book_Find (x0 : SState) (x1 : Int) : Option (Int) := obind (iterN (fun v ↦ L_book_Find_26_slices_IndexFunc_api_Order_c10 (len x0.orders) x0.orders x1 v.fst v.snd) LF (0, 0)) fun y0 ↦ sumK y0 (fun y1 ↦ some y1) fun y1 ↦ some (-1)
noncomputable def C_book_Find : Cx := { P := PG, ety := ety, fn := look [], inl := memN [69, 68], lp := lookLp [(210453438532, 26, Ls_book_Find_26_slices_IndexFunc_api_Order_c10)] }
theorem L_book_Find_26_slices_IndexFunc_api_Order_c10_eq (p0 : Int) (p1 : (List SOrder)) (p2 : Int) (v0 : Int) (v1 : Int) : runLp C_book_Find 900 210453438532 26 (lpBody PG 68 26) S_book_Find_26_slices_IndexFunc_api_Order_c10 O_book_Find_26_slices_IndexFunc_api_Order_c10 (p0, p1, p2) (v0, v1) = L_book_Find_26_slices_IndexFunc_api_Order_c10 p0 p1 p2 v0 v1 := by kernel_rfl
theorem F_book_Find_eq (x0 : SState) (x1 : Int) : runFn C_book_Find 49 [.val .state, .int .i64] [.int .i64] (x0, x1) = F_book_Find x0 x1 := by kernel_rfl
def spec_book_Find : FnSpec := mkSpec [.val .state, .int .i64] [.int .i64] true (fun x => F_book_Find x.1 x.2)
theorem ok_book_Find : FnOk PG 49 spec_book_Find :=
  have K : CxR C_book_Find := seatOk.cx (fun _ => rfl) (l := []) trivial
  fn_entry K (lps_from (l := [(210453438532, 26, Ls_book_Find_26_slices_IndexFunc_api_Order_c10)]) rfl ⟨lp_entry (n := 900) (f := 68) K (by kernel_rfl) (by kernel_rfl) (by kernel_rfl) (by kernel_rfl) (by kernel_rfl) (fun p v r h => (L_book_Find_26_slices_IndexFunc_api_Order_c10_eq p.1 p.2.1 p.2.2 v.1 v.2).trans h), trivial⟩) (by kernel_rfl) (fun x y h => (F_book_Find_eq x.1 x.2).trans h) rfl rfl

def F_order_Change (x0 : SOrder) (x1 : Int) (x2 : Int) : Option (SOrder × Int) := obind (F_num_Add x0.version 1) fun y0 ↦ obind (F_order_Right x0) fun y1 ↦ cnd (bnot y1) (cnd (bnot y1) (some (x0, 1)) (cnd (bnot (ieq x0.phase 2)) (cnd (bnot (ieq x0.phase 2)) (some (x0, 8)) (some (SOrder.mk x0.id x0.account x0.symbol x0.side x0.qty x0.price x0.filled x0.phase x1 x2 (wr IntKind.i64 (iadd x0.version 1)) x0.asked, 0))) (obind (F_order_pending x0) fun y2 ↦ cnd y2 (cnd y2 (some (x0, 8)) (some (SOrder.mk x0.id x0.account x0.symbol x0.side x0.qty x0.price x0.filled x0.phase x1 x2 (wr IntKind.i64 (iadd x0.version 1)) x0.asked, 0))) (cnd x0.asked (some (x0, 8)) (some (SOrder.mk x0.id x0.account x0.symbol x0.side x0.qty x0.price x0.filled x0.phase x1 x2 (wr IntKind.i64 (iadd x0.version 1)) x0.asked, 0)))))) (cnd (ilt x1 1) (cnd (ilt x1 1) (some (x0, 1)) (cnd (bnot (ieq x0.phase 2)) (cnd (bnot (ieq x0.phase 2)) (some (x0, 8)) (some (SOrder.mk x0.id x0.account x0.symbol x0.side x0.qty x0.price x0.filled x0.phase x1 x2 (wr IntKind.i64 (iadd x0.version 1)) x0.asked, 0))) (obind (F_order_pending x0) fun y3 ↦ cnd y3 (cnd y3 (some (x0, 8)) (some (SOrder.mk x0.id x0.account x0.symbol x0.side x0.qty x0.price x0.filled x0.phase x1 x2 (wr IntKind.i64 (iadd x0.version 1)) x0.asked, 0))) (cnd x0.asked (some (x0, 8)) (some (SOrder.mk x0.id x0.account x0.symbol x0.side x0.qty x0.price x0.filled x0.phase x1 x2 (wr IntKind.i64 (iadd x0.version 1)) x0.asked, 0)))))) (cnd (ilt x2 1) (cnd (ilt x2 1) (some (x0, 1)) (cnd (bnot (ieq x0.phase 2)) (cnd (bnot (ieq x0.phase 2)) (some (x0, 8)) (some (SOrder.mk x0.id x0.account x0.symbol x0.side x0.qty x0.price x0.filled x0.phase x1 x2 (wr IntKind.i64 (iadd x0.version 1)) x0.asked, 0))) (obind (F_order_pending x0) fun y4 ↦ cnd y4 (cnd y4 (some (x0, 8)) (some (SOrder.mk x0.id x0.account x0.symbol x0.side x0.qty x0.price x0.filled x0.phase x1 x2 (wr IntKind.i64 (iadd x0.version 1)) x0.asked, 0))) (cnd x0.asked (some (x0, 8)) (some (SOrder.mk x0.id x0.account x0.symbol x0.side x0.qty x0.price x0.filled x0.phase x1 x2 (wr IntKind.i64 (iadd x0.version 1)) x0.asked, 0)))))) (cnd (bnot (ieq y0.snd 0)) (some (x0, 1)) (cnd (bnot (ieq x0.phase 2)) (cnd (bnot (ieq x0.phase 2)) (some (x0, 8)) (some (SOrder.mk x0.id x0.account x0.symbol x0.side x0.qty x0.price x0.filled x0.phase x1 x2 (wr IntKind.i64 (iadd x0.version 1)) x0.asked, 0))) (obind (F_order_pending x0) fun y5 ↦ cnd y5 (cnd y5 (some (x0, 8)) (some (SOrder.mk x0.id x0.account x0.symbol x0.side x0.qty x0.price x0.filled x0.phase x1 x2 (wr IntKind.i64 (iadd x0.version 1)) x0.asked, 0))) (cnd x0.asked (some (x0, 8)) (some (SOrder.mk x0.id x0.account x0.symbol x0.side x0.qty x0.price x0.filled x0.phase x1 x2 (wr IntKind.i64 (iadd x0.version 1)) x0.asked, 0))))))))
noncomputable def C_order_Change : Cx := { P := PG, ety := ety, fn := look [(21, spec_num_Add), (70, spec_order_Right), (71, spec_order_pending)], inl := memN [], lp := lookLp [] }
theorem F_order_Change_eq (x0 : SOrder) (x1 : Int) (x2 : Int) : runFn C_order_Change 50 [.val .order, .int .i64, .int .i64] [.val .order, .int .i64] (x0, x1, x2) = F_order_Change x0 x1 x2 := by kernel_rfl
def spec_order_Change : FnSpec := mkSpec [.val .order, .int .i64, .int .i64] [.val .order, .int .i64] true (fun x => F_order_Change x.1 x.2.1 x.2.2)
theorem ok_order_Change : FnOk PG 50 spec_order_Change :=
  have K : CxR C_order_Change := seatOk.cx (fun _ => rfl) (l := [(21, spec_num_Add), (70, spec_order_Right), (71, spec_order_pending)]) ⟨ok_num_Add, ok_order_Right, ok_order_pending, trivial⟩
  fn_entry K (lps_from (l := []) rfl trivial) (by kernel_rfl) (fun x y h => (F_order_Change_eq x.1 x.2.1 x.2.2).trans h) rfl rfl

def F_cell_Go (x0 : SCell) (x1 : SOrder) : Option (SCell × Int) := obind (F_cell_Right x0) fun y0 ↦ obind (cnd (bnot (bnot y0)) (F_order_Right x1) (some false)) fun y1 ↦ cnd (bor (bnot y0) (bnot y1)) (some (x0, 1)) (obind (F_order_Worth x1) fun y2 ↦ cnd (ieq x1.side 2) (obind (F_order_Open x1) fun y3 ↦ obind (F_num_Sub x0.sell y3) fun y4 ↦ obind (F_num_Sub x0.opn y2.fst) fun y5 ↦ obind (cnd (bnot (bor (bor (bnot (ieq y2.snd 0)) (bnot (ieq y4.snd 0))) (bnot (ieq y5.snd 0)))) (F_cell_Right (SCell.mk x0.pos x0.buy y4.fst y5.fst)) (some false)) fun y6 ↦ cnd (bor (bor (bor (bnot (ieq y2.snd 0)) (bnot (ieq y4.snd 0))) (bnot (ieq y5.snd 0))) (bnot y6)) (some (x0, 3)) (some (SCell.mk x0.pos x0.buy y4.fst y5.fst, 0))) (obind (F_order_Open x1) fun y7 ↦ obind (F_num_Sub x0.buy y7) fun y8 ↦ obind (F_num_Sub x0.opn y2.fst) fun y9 ↦ obind (cnd (bnot (bor (bor (bnot (ieq y2.snd 0)) (bnot (ieq y8.snd 0))) (bnot (ieq y9.snd 0)))) (F_cell_Right (SCell.mk x0.pos y8.fst x0.sell y9.fst)) (some false)) fun y10 ↦ cnd (bor (bor (bor (bnot (ieq y2.snd 0)) (bnot (ieq y8.snd 0))) (bnot (ieq y9.snd 0))) (bnot y10)) (some (x0, 3)) (some (SCell.mk x0.pos y8.fst x0.sell y9.fst, 0))))
noncomputable def C_cell_Go : Cx := { P := PG, ety := ety, fn := look [(64, spec_cell_Right), (70, spec_order_Right), (83, spec_order_Worth), (84, spec_order_Open), (57, spec_num_Sub)], inl := memN [65], lp := lookLp [] }
theorem F_cell_Go_eq (x0 : SCell) (x1 : SOrder) : runFn C_cell_Go 51 [.val .cell, .val .order] [.val .cell, .int .i64] (x0, x1) = F_cell_Go x0 x1 := by kernel_rfl
def spec_cell_Go : FnSpec := mkSpec [.val .cell, .val .order] [.val .cell, .int .i64] true (fun x => F_cell_Go x.1 x.2)
theorem ok_cell_Go : FnOk PG 51 spec_cell_Go :=
  have K : CxR C_cell_Go := seatOk.cx (fun _ => rfl) (l := [(64, spec_cell_Right), (70, spec_order_Right), (83, spec_order_Worth), (84, spec_order_Open), (57, spec_num_Sub)]) ⟨ok_cell_Right, ok_order_Right, ok_order_Worth, ok_order_Open, ok_num_Sub, trivial⟩
  fn_entry K (lps_from (l := []) rfl trivial) (by kernel_rfl) (fun x y h => (F_cell_Go_eq x.1 x.2).trans h) rfl rfl

def F_order_End (x0 : SOrder) : Option (SOrder × Int) := obind (F_order_Right x0) fun y0 ↦ cnd (bnot y0) (some (x0, 1)) (cnd (ieq x0.phase 3) (cnd (ieq x0.phase 3) (some (x0, 8)) (some (SOrder.mk x0.id x0.account x0.symbol x0.side x0.qty x0.price x0.filled x0.phase x0.newQty x0.newPrice x0.version true, 0))) (cnd x0.asked (some (x0, 8)) (some (SOrder.mk x0.id x0.account x0.symbol x0.side x0.qty x0.price x0.filled x0.phase x0.newQty x0.newPrice x0.version true, 0))))
noncomputable def C_order_End : Cx := { P := PG, ety := ety, fn := look [(70, spec_order_Right)], inl := memN [], lp := lookLp [] }
theorem F_order_End_eq (x0 : SOrder) : runFn C_order_End 52 [.val .order] [.val .order, .int .i64] x0 = F_order_End x0 := by kernel_rfl
def spec_order_End : FnSpec := mkSpec [.val .order] [.val .order, .int .i64] true (fun x => F_order_End x)
theorem ok_order_End : FnOk PG 52 spec_order_End :=
  have K : CxR C_order_End := seatOk.cx (fun _ => rfl) (l := [(70, spec_order_Right)]) ⟨ok_order_Right, trivial⟩
  fn_entry K (lps_from (l := []) rfl trivial) (by kernel_rfl) (fun x y h => (F_order_End_eq x).trans h) rfl rfl

def F_rec_OfNote (x0 : SNote) : Option (SRec) := some (SRec.mk 6 x0.order 0 0 0 x0.qty x0.price 0 0 0 false x0.seq x0.what)
noncomputable def C_rec_OfNote : Cx := { P := PG, ety := ety, fn := look [], inl := memN [], lp := lookLp [] }
theorem F_rec_OfNote_eq (x0 : SNote) : runFn C_rec_OfNote 72 [.val .note] [.val .recd] x0 = F_rec_OfNote x0 := by kernel_rfl
def spec_rec_OfNote : FnSpec := mkSpec [.val .note] [.val .recd] true (fun x => F_rec_OfNote x)
theorem ok_rec_OfNote : FnOk PG 72 spec_rec_OfNote :=
  have K : CxR C_rec_OfNote := seatOk.cx (fun _ => rfl) (l := []) trivial
  fn_entry K (lps_from (l := []) rfl trivial) (by kernel_rfl) (fun x y h => (F_rec_OfNote_eq x).trans h) rfl rfl

def F_order_settled (x0 : SOrder) : Option (SOrder) := some (SOrder.mk x0.id x0.account x0.symbol x0.side x0.qty x0.price x0.filled x0.phase 0 0 x0.version x0.asked)
noncomputable def C_order_settled : Cx := { P := PG, ety := ety, fn := look [], inl := memN [], lp := lookLp [] }
theorem F_order_settled_eq (x0 : SOrder) : runFn C_order_settled 88 [.val .order] [.val .order] x0 = F_order_settled x0 := by kernel_rfl
def spec_order_settled : FnSpec := mkSpec [.val .order] [.val .order] true (fun x => F_order_settled x)
theorem ok_order_settled : FnOk PG 88 spec_order_settled :=
  have K : CxR C_order_settled := seatOk.cx (fun _ => rfl) (l := []) trivial
  fn_entry K (lps_from (l := []) rfl trivial) (by kernel_rfl) (fun x y h => (F_order_settled_eq x).trans h) rfl rfl

def F_order_done (x0 : SOrder) : Option (SOrder) := obind (F_order_settled (SOrder.mk x0.id x0.account x0.symbol x0.side x0.qty x0.price x0.filled 3 x0.newQty x0.newPrice x0.version x0.asked)) fun y0 ↦ some y0
noncomputable def C_order_done : Cx := { P := PG, ety := ety, fn := look [(88, spec_order_settled)], inl := memN [], lp := lookLp [] }
theorem F_order_done_eq (x0 : SOrder) : runFn C_order_done 87 [.val .order] [.val .order] x0 = F_order_done x0 := by kernel_rfl
def spec_order_done : FnSpec := mkSpec [.val .order] [.val .order] true (fun x => F_order_done x)
theorem ok_order_done : FnOk PG 87 spec_order_done :=
  have K : CxR C_order_done := seatOk.cx (fun _ => rfl) (l := [(88, spec_order_settled)]) ⟨ok_order_settled, trivial⟩
  fn_entry K (lps_from (l := []) rfl trivial) (by kernel_rfl) (fun x y h => (F_order_done_eq x).trans h) rfl rfl

def F_order_sent (x0 : SOrder) (x1 : SNote) : Option (SOrder × Bool) := cnd (ieq x1.what 1) (some (SOrder.mk x0.id x0.account x0.symbol x0.side x0.qty x0.price x0.filled 2 x0.newQty x0.newPrice x0.version x0.asked, true)) (cnd (ieq x1.what 2) (obind (F_order_done x0) fun y0 ↦ some (y0, true)) (some (x0, false)))
noncomputable def C_order_sent : Cx := { P := PG, ety := ety, fn := look [(87, spec_order_done)], inl := memN [], lp := lookLp [] }
theorem F_order_sent_eq (x0 : SOrder) (x1 : SNote) : runFn C_order_sent 73 [.val .order, .val .note] [.val .order, .bool] (x0, x1) = F_order_sent x0 x1 := by kernel_rfl
def spec_order_sent : FnSpec := mkSpec [.val .order, .val .note] [.val .order, .bool] true (fun x => F_order_sent x.1 x.2)
theorem ok_order_sent : FnOk PG 73 spec_order_sent :=
  have K : CxR C_order_sent := seatOk.cx (fun _ => rfl) (l := [(87, spec_order_done)]) ⟨ok_order_done, trivial⟩
  fn_entry K (lps_from (l := []) rfl trivial) (by kernel_rfl) (fun x y h => (F_order_sent_eq x.1 x.2).trans h) rfl rfl

def F_order_live (x0 : SOrder) (x1 : SNote) : Option (SOrder × Bool) := cnd (ieq x1.what 3) (cnd (ilt (wr IntKind.i64 (isub x0.qty x0.filled)) x1.qty) (some (x0, false)) (cnd (ilt (wr IntKind.i64 (iadd x0.filled x1.qty)) x0.qty) (some (SOrder.mk x0.id x0.account x0.symbol x0.side x0.qty x0.price (wr IntKind.i64 (iadd x0.filled x1.qty)) x0.phase x0.newQty x0.newPrice x0.version x0.asked, true)) (obind (F_order_done (SOrder.mk x0.id x0.account x0.symbol x0.side x0.qty x0.price (wr IntKind.i64 (iadd x0.filled x1.qty)) x0.phase x0.newQty x0.newPrice x0.version x0.asked)) fun y0 ↦ some (y0, true)))) (cnd (ieq x1.what 4) (obind (F_order_done x0) fun y1 ↦ some (y1, true)) (cnd (ieq x1.what 5) (obind (F_order_pending x0) fun y2 ↦ cnd (bor (bor (bor (bnot y2) (bnot (ieq x1.qty x0.newQty))) (bnot (ieq x1.price x0.newPrice))) (ile x1.qty x0.filled)) (some (x0, false)) (obind (F_order_settled (SOrder.mk x0.id x0.account x0.symbol x0.side x1.qty x1.price x0.filled x0.phase x0.newQty x0.newPrice x0.version x0.asked)) fun y3 ↦ some (y3, true))) (cnd (ieq x1.what 6) (obind (F_order_settled x0) fun y4 ↦ obind (F_order_pending x0) fun y5 ↦ some (y4, y5)) (some (x0, false)))))
noncomputable def C_order_live : Cx := { P := PG, ety := ety, fn := look [(87, spec_order_done), (71, spec_order_pending), (88, spec_order_settled)], inl := memN [], lp := lookLp [] }
theorem F_order_live_eq (x0 : SOrder) (x1 : SNote) : runFn C_order_live 74 [.val .order, .val .note] [.val .order, .bool] (x0, x1) = F_order_live x0 x1 := by kernel_rfl
def spec_order_live : FnSpec := mkSpec [.val .order, .val .note] [.val .order, .bool] true (fun x => F_order_live x.1 x.2)
theorem ok_order_live : FnOk PG 74 spec_order_live :=
  have K : CxR C_order_live := seatOk.cx (fun _ => rfl) (l := [(87, spec_order_done), (71, spec_order_pending), (88, spec_order_settled)]) ⟨ok_order_done, ok_order_pending, ok_order_settled, trivial⟩
  fn_entry K (lps_from (l := []) rfl trivial) (by kernel_rfl) (fun x y h => (F_order_live_eq x.1 x.2).trans h) rfl rfl

def F_order_Take (x0 : SOrder) (x1 : SNote) : Option (SOrder × Int) := obind (F_order_Right x0) fun y0 ↦ obind (cnd (bnot (bnot y0)) (F_rec_OfNote x1) (some (SRec.mk 0 0 0 0 0 0 0 0 0 0 false 0 0))) fun y1 ↦ obind (cnd (bnot (bnot y0)) (F_rec_Right y1) (some false)) fun y2 ↦ cnd (bor (bor (bnot y0) (bnot y2)) (bnot (ieq x1.order x0.id))) (some (x0, 1)) (cnd (ieq x0.phase 1) (obind (F_order_sent x0 x1) fun y3 ↦ cnd (bnot y3.snd) (some (x0, 8)) (some (y3.fst, 0))) (cnd (ieq x0.phase 2) (obind (F_order_live x0 x1) fun y4 ↦ cnd (bnot y4.snd) (some (x0, 8)) (some (y4.fst, 0))) (some (x0, 8))))
noncomputable def C_order_Take : Cx := { P := PG, ety := ety, fn := look [(70, spec_order_Right), (72, spec_rec_OfNote), (22, spec_rec_Right), (73, spec_order_sent), (74, spec_order_live)], inl := memN [], lp := lookLp [] }
theorem F_order_Take_eq (x0 : SOrder) (x1 : SNote) : runFn C_order_Take 53 [.val .order, .val .note] [.val .order, .int .i64] (x0, x1) = F_order_Take x0 x1 := by kernel_rfl
def spec_order_Take : FnSpec := mkSpec [.val .order, .val .note] [.val .order, .int .i64] true (fun x => F_order_Take x.1 x.2)
theorem ok_order_Take : FnOk PG 53 spec_order_Take :=
  have K : CxR C_order_Take := seatOk.cx (fun _ => rfl) (l := [(70, spec_order_Right), (72, spec_rec_OfNote), (22, spec_rec_Right), (73, spec_order_sent), (74, spec_order_live)]) ⟨ok_order_Right, ok_rec_OfNote, ok_rec_Right, ok_order_sent, ok_order_live, trivial⟩
  fn_entry K (lps_from (l := []) rfl trivial) (by kernel_rfl) (fun x y h => (F_order_Take_eq x.1 x.2).trans h) rfl rfl

def F_cell_Did (x0 : SCell) (x1 : Int) (x2 : Int) : Option (SCell × Int) := obind (F_cell_Right x0) fun y0 ↦ cnd (bor (bor (bnot y0) (band (bnot (ieq x1 1)) (bnot (ieq x1 2)))) (ilt x2 0)) (some (x0, 1)) (cnd (ieq x1 1) (obind (F_num_Add x0.pos x2) fun y1 ↦ obind (cnd (bnot (bnot (ieq y1.snd 0))) (F_cell_Right (SCell.mk y1.fst x0.buy x0.sell x0.opn)) (some false)) fun y2 ↦ cnd (bor (bnot (ieq y1.snd 0)) (bnot y2)) (some (x0, 3)) (some (SCell.mk y1.fst x0.buy x0.sell x0.opn, 0))) (obind (F_num_Sub x0.pos x2) fun y3 ↦ obind (cnd (bnot (bnot (ieq y3.snd 0))) (F_cell_Right (SCell.mk y3.fst x0.buy x0.sell x0.opn)) (some false)) fun y4 ↦ cnd (bor (bnot (ieq y3.snd 0)) (bnot y4)) (some (x0, 3)) (some (SCell.mk y3.fst x0.buy x0.sell x0.opn, 0))))
noncomputable def C_cell_Did : Cx := { P := PG, ety := ety, fn := look [(64, spec_cell_Right), (21, spec_num_Add), (57, spec_num_Sub)], inl := memN [], lp := lookLp [] }
theorem F_cell_Did_eq (x0 : SCell) (x1 : Int) (x2 : Int) : runFn C_cell_Did 54 [.val .cell, .int .i64, .int .i64] [.val .cell, .int .i64] (x0, x1, x2) = F_cell_Did x0 x1 x2 := by kernel_rfl
def spec_cell_Did : FnSpec := mkSpec [.val .cell, .int .i64, .int .i64] [.val .cell, .int .i64] true (fun x => F_cell_Did x.1 x.2.1 x.2.2)
theorem ok_cell_Did : FnOk PG 54 spec_cell_Did :=
  have K : CxR C_cell_Did := seatOk.cx (fun _ => rfl) (l := [(64, spec_cell_Right), (21, spec_num_Add), (57, spec_num_Sub)]) ⟨ok_cell_Right, ok_num_Add, ok_num_Sub, trivial⟩
  fn_entry K (lps_from (l := []) rfl trivial) (by kernel_rfl) (fun x y h => (F_cell_Did_eq x.1 x.2.1 x.2.2).trans h) rfl rfl

def F_slices_Delete_api_Order (x0 : (List SOrder)) (x1 : Int) (x2 : Int) : Option ((List SOrder)) := cnd (band (band (band (ile 0 x1) (ile x1 x2)) (ile x2 (len x0))) (band (ile x2 (len x0)) (ile (len x0) (len x0)))) (cnd (ieq x1 x2) (some x0) (cnd (band (ile 0 x1) (ile x1 (len x0))) (cnd (band (ile 0 x2) (ile x2 (len x0))) (cnd (ile (iadd (nti (itn x1)) (len (ltake (ldrop x0 (itn x2)) (itn (isub (len x0) x2))))) (len x0)) (cnd (band (band (ile 0 (nti (nad (itn x1) (itn (len (ltake (ldrop x0 (itn x2)) (itn (isub (len x0) x2)))))))) (ile (nti (nad (itn x1) (itn (len (ltake (ldrop x0 (itn x2)) (itn (isub (len x0) x2))))))) (len x0))) (ile (len x0) (isub (len (lcpy x0 (itn x1) (ltake (ldrop x0 (itn x2)) (itn (isub (len x0) x2))))) 0))) (some (ltake (ldrop (lcpy (lcpy x0 (itn x1) (ltake (ldrop x0 (itn x2)) (itn (isub (len x0) x2)))) (nad 0 (itn (nti (nad (itn x1) (itn (len (ltake (ldrop x0 (itn x2)) (itn (isub (len x0) x2))))))))) (lrep SOrder (itn (isub (len x0) (nti (nad (itn x1) (itn (len (ltake (ldrop x0 (itn x2)) (itn (isub (len x0) x2))))))))))) 0) (nad (itn x1) (itn (len (ltake (ldrop x0 (itn x2)) (itn (isub (len x0) x2)))))))) none) none) none) none)) none
noncomputable def C_slices_Delete_api_Order : Cx := { P := PG, ety := ety, fn := look [], inl := memN [], lp := lookLp [] }
theorem F_slices_Delete_api_Order_eq (x0 : (List SOrder)) (x1 : Int) (x2 : Int) : runFn C_slices_Delete_api_Order 55 [.buf .order, .int .i64, .int .i64] [.ro .order] (x0, x1, x2) = F_slices_Delete_api_Order x0 x1 x2 := by kernel_rfl
def spec_slices_Delete_api_Order : FnSpec := mkSpec [.buf .order, .int .i64, .int .i64] [.ro .order] false (fun x => F_slices_Delete_api_Order x.1 x.2.1 x.2.2)
theorem ok_slices_Delete_api_Order : FnOk PG 55 spec_slices_Delete_api_Order :=
  have K : CxR C_slices_Delete_api_Order := seatOk.cx (fun _ => rfl) (l := []) trivial
  fn_entry K (lps_from (l := []) rfl trivial) (by kernel_rfl) (fun x y h => (F_slices_Delete_api_Order_eq x.1 x.2.1 x.2.2).trans h) rfl rfl

def F_book_Do (x0 : SState) (x1 : SRec) : Option (SState × Int) := obind (F_num_Add x0.lsn 1) fun y0 ↦ obind (cnd (bnot (bor (bnot (ieq y0.snd 0)) (ile 1000000000 x0.lsn))) (F_rec_Right x1) (some false)) fun y1 ↦ obind (cnd (bnot (bor (bor (bnot (ieq y0.snd 0)) (ile 1000000000 x0.lsn)) (bnot y1))) (F_book_Right x0) (some false)) fun y2 ↦ cnd (bor (bor (bor (bnot (ieq y0.snd 0)) (ile 1000000000 x0.lsn)) (bnot y1)) (bnot y2)) (some (x0, 1)) (obind (F_slices_Clone_api_Order x0.orders) fun y3 ↦ obind (F_slices_Clone_api_Cell x0.cells) fun y4 ↦ obind (F_slices_Clone_api_Expo x0.limits) fun y5 ↦ obind (F_slices_Clone_int64 x0.caps) fun y6 ↦ cnd (ieq x1.kind 1) (obind (F_order_Begin x1) fun y7 ↦ cnd (ile x1.order x0.last) (cnd (ile x1.order x0.last) (some (x0, 1)) (cnd x0.kill (some (x0, 5)) (cnd (ieq (len y3) 64) (some (x0, 6)) (obind (F_slices_Clone_api_Order y3) fun y8 ↦ obind (F_slices_Clone_api_Cell y4) fun y9 ↦ obind (F_slices_Clone_api_Expo y5) fun y10 ↦ obind (F_slices_Clone_int64 y6) fun y11 ↦ obind (F_book_ledger_cellOf (SState.mk x0.accounts x0.symbols y3 y4 y5 y6 x0.kill x0.last x0.seq x0.lsn) y7.fst.account y7.fst.symbol) fun y12 ↦ cnd (band (ile 0 y12) (ilt y12 (len y4))) (obind (F_cell_Come (lget y4 (itn y12)) y7.fst) fun y13 ↦ cnd (bnot (ieq y13.snd 0)) (some (x0, 3)) (cnd (ile (len (lapp y3 [y7.fst])) 68719476736) (obind (F_book_ledger_bears (SState.mk x0.accounts x0.symbols (lapp y3 [y7.fst]) (lset y4 (itn y12) y13.fst) y5 y6 x0.kill y7.fst.id x0.seq x0.lsn) (SState.mk x0.accounts x0.symbols y8 y9 y10 y11 x0.kill x0.last x0.seq x0.lsn) y7.fst.account y7.fst.symbol) fun y14 ↦ cnd (bnot (ieq y14 0)) (some (x0, y14)) (some (SState.mk x0.accounts x0.symbols (lapp y3 [y7.fst]) (lset y4 (itn y12) y13.fst) y5 y6 x0.kill y7.fst.id x0.seq (wr IntKind.i64 (iadd x0.lsn 1)), 0))) none)) none)))) (cnd (ile x0.accounts x1.account) (cnd (ile x0.accounts x1.account) (some (x0, 1)) (cnd x0.kill (some (x0, 5)) (cnd (ieq (len y3) 64) (some (x0, 6)) (obind (F_slices_Clone_api_Order y3) fun y15 ↦ obind (F_slices_Clone_api_Cell y4) fun y16 ↦ obind (F_slices_Clone_api_Expo y5) fun y17 ↦ obind (F_slices_Clone_int64 y6) fun y18 ↦ obind (F_book_ledger_cellOf (SState.mk x0.accounts x0.symbols y3 y4 y5 y6 x0.kill x0.last x0.seq x0.lsn) y7.fst.account y7.fst.symbol) fun y19 ↦ cnd (band (ile 0 y19) (ilt y19 (len y4))) (obind (F_cell_Come (lget y4 (itn y19)) y7.fst) fun y20 ↦ cnd (bnot (ieq y20.snd 0)) (some (x0, 3)) (cnd (ile (len (lapp y3 [y7.fst])) 68719476736) (obind (F_book_ledger_bears (SState.mk x0.accounts x0.symbols (lapp y3 [y7.fst]) (lset y4 (itn y19) y20.fst) y5 y6 x0.kill y7.fst.id x0.seq x0.lsn) (SState.mk x0.accounts x0.symbols y15 y16 y17 y18 x0.kill x0.last x0.seq x0.lsn) y7.fst.account y7.fst.symbol) fun y21 ↦ cnd (bnot (ieq y21 0)) (some (x0, y21)) (some (SState.mk x0.accounts x0.symbols (lapp y3 [y7.fst]) (lset y4 (itn y19) y20.fst) y5 y6 x0.kill y7.fst.id x0.seq (wr IntKind.i64 (iadd x0.lsn 1)), 0))) none)) none)))) (cnd (ile x0.symbols x1.symbol) (some (x0, 1)) (cnd x0.kill (some (x0, 5)) (cnd (ieq (len y3) 64) (some (x0, 6)) (obind (F_slices_Clone_api_Order y3) fun y22 ↦ obind (F_slices_Clone_api_Cell y4) fun y23 ↦ obind (F_slices_Clone_api_Expo y5) fun y24 ↦ obind (F_slices_Clone_int64 y6) fun y25 ↦ obind (F_book_ledger_cellOf (SState.mk x0.accounts x0.symbols y3 y4 y5 y6 x0.kill x0.last x0.seq x0.lsn) y7.fst.account y7.fst.symbol) fun y26 ↦ cnd (band (ile 0 y26) (ilt y26 (len y4))) (obind (F_cell_Come (lget y4 (itn y26)) y7.fst) fun y27 ↦ cnd (bnot (ieq y27.snd 0)) (some (x0, 3)) (cnd (ile (len (lapp y3 [y7.fst])) 68719476736) (obind (F_book_ledger_bears (SState.mk x0.accounts x0.symbols (lapp y3 [y7.fst]) (lset y4 (itn y26) y27.fst) y5 y6 x0.kill y7.fst.id x0.seq x0.lsn) (SState.mk x0.accounts x0.symbols y22 y23 y24 y25 x0.kill x0.last x0.seq x0.lsn) y7.fst.account y7.fst.symbol) fun y28 ↦ cnd (bnot (ieq y28 0)) (some (x0, y28)) (some (SState.mk x0.accounts x0.symbols (lapp y3 [y7.fst]) (lset y4 (itn y26) y27.fst) y5 y6 x0.kill y7.fst.id x0.seq (wr IntKind.i64 (iadd x0.lsn 1)), 0))) none)) none)))))) (cnd (ieq x1.kind 2) (obind (F_book_Find (SState.mk x0.accounts x0.symbols y3 y4 y5 y6 x0.kill x0.last x0.seq x0.lsn) x1.order) fun y29 ↦ cnd (ieq y29 (-1)) (some (x0, 7)) (cnd (band (ile 0 y29) (ilt y29 (len y3))) (obind (F_order_Change (lget y3 (itn y29)) x1.qty x1.price) fun y30 ↦ cnd (bnot (ieq y30.snd 0)) (some (x0, 8)) (cnd x0.kill (some (x0, 5)) (obind (F_slices_Clone_api_Order y3) fun y31 ↦ obind (F_slices_Clone_api_Cell y4) fun y32 ↦ obind (F_slices_Clone_api_Expo y5) fun y33 ↦ obind (F_slices_Clone_int64 y6) fun y34 ↦ obind (F_book_ledger_cellOf (SState.mk x0.accounts x0.symbols y3 y4 y5 y6 x0.kill x0.last x0.seq x0.lsn) (lget y3 (itn y29)).account (lget y3 (itn y29)).symbol) fun y35 ↦ cnd (band (ile 0 y35) (ilt y35 (len y4))) (obind (F_cell_Go (lget y4 (itn y35)) (lget y3 (itn y29))) fun y36 ↦ obind (F_cell_Come y36.fst y30.fst) fun y37 ↦ cnd (bnot (ieq y37.snd 0)) (some (x0, 3)) (cnd (band (ile 0 y29) (ilt y29 (len y3))) (obind (F_book_ledger_bears (SState.mk x0.accounts x0.symbols (lset y3 (itn y29) y30.fst) (lset y4 (itn y35) y37.fst) y5 y6 x0.kill x0.last x0.seq x0.lsn) (SState.mk x0.accounts x0.symbols y31 y32 y33 y34 x0.kill x0.last x0.seq x0.lsn) (lget y3 (itn y29)).account (lget y3 (itn y29)).symbol) fun y38 ↦ cnd (bnot (ieq y38 0)) (some (x0, y38)) (some (SState.mk x0.accounts x0.symbols (lset y3 (itn y29) y30.fst) (lset y4 (itn y35) y37.fst) y5 y6 x0.kill x0.last x0.seq (wr IntKind.i64 (iadd x0.lsn 1)), 0))) none)) none))) none)) (cnd (ieq x1.kind 3) (obind (F_book_Find (SState.mk x0.accounts x0.symbols y3 y4 y5 y6 x0.kill x0.last x0.seq x0.lsn) x1.order) fun y39 ↦ cnd (ieq y39 (-1)) (some (x0, 7)) (cnd (band (ile 0 y39) (ilt y39 (len y3))) (obind (F_order_End (lget y3 (itn y39))) fun y40 ↦ cnd (band (ile 0 y39) (ilt y39 (len y3))) (cnd (bnot (ieq y40.snd 0)) (some (x0, y40.snd)) (some (SState.mk x0.accounts x0.symbols (lset y3 (itn y39) y40.fst) y4 y5 y6 x0.kill x0.last x0.seq (wr IntKind.i64 (iadd x0.lsn 1)), 0))) none) none)) (cnd (ieq x1.kind 4) (cnd (ile x0.accounts x1.account) (cnd (ile x0.accounts x1.account) (some (x0, 1)) (cnd (ieq x1.symbol (-1)) (cnd (band (ile 0 x1.account) (ilt x1.account (len y6))) (some (SState.mk x0.accounts x0.symbols y3 y4 y5 (lset y6 (itn x1.account) x1.opn) x0.kill x0.last x0.seq (wr IntKind.i64 (iadd x0.lsn 1)), 0)) none) (obind (F_book_ledger_cellOf (SState.mk x0.accounts x0.symbols y3 y4 y5 y6 x0.kill x0.last x0.seq x0.lsn) x1.account x1.symbol) fun y41 ↦ cnd (band (ile 0 y41) (ilt y41 (len y5))) (some (SState.mk x0.accounts x0.symbols y3 y4 (lset y5 (itn y41) (SExpo.mk x1.long x1.short x1.opn)) y6 x0.kill x0.last x0.seq (wr IntKind.i64 (iadd x0.lsn 1)), 0)) none))) (cnd (ile x0.symbols x1.symbol) (some (x0, 1)) (cnd (ieq x1.symbol (-1)) (cnd (band (ile 0 x1.account) (ilt x1.account (len y6))) (some (SState.mk x0.accounts x0.symbols y3 y4 y5 (lset y6 (itn x1.account) x1.opn) x0.kill x0.last x0.seq (wr IntKind.i64 (iadd x0.lsn 1)), 0)) none) (obind (F_book_ledger_cellOf (SState.mk x0.accounts x0.symbols y3 y4 y5 y6 x0.kill x0.last x0.seq x0.lsn) x1.account x1.symbol) fun y42 ↦ cnd (band (ile 0 y42) (ilt y42 (len y5))) (some (SState.mk x0.accounts x0.symbols y3 y4 (lset y5 (itn y42) (SExpo.mk x1.long x1.short x1.opn)) y6 x0.kill x0.last x0.seq (wr IntKind.i64 (iadd x0.lsn 1)), 0)) none)))) (cnd (ieq x1.kind 5) (some (SState.mk x0.accounts x0.symbols y3 y4 y5 y6 x1.on x0.last x0.seq (wr IntKind.i64 (iadd x0.lsn 1)), 0)) (cnd (bnot (ieq x1.seq (wr IntKind.i64 (iadd x0.seq 1)))) (some (x0, 11)) (obind (F_book_Find (SState.mk x0.accounts x0.symbols y3 y4 y5 y6 x0.kill x0.last x1.seq x0.lsn) x1.order) fun y43 ↦ cnd (ieq y43 (-1)) (some (SState.mk x0.accounts x0.symbols y3 y4 y5 y6 x0.kill x0.last x1.seq (wr IntKind.i64 (iadd x0.lsn 1)), 0)) (cnd (band (ile 0 y43) (ilt y43 (len y3))) (obind (F_order_Take (lget y3 (itn y43)) (SNote.mk x1.seq x1.what x1.order x1.qty x1.price)) fun y44 ↦ cnd (bnot (ieq y44.snd 0)) (some (SState.mk x0.accounts x0.symbols y3 y4 y5 y6 x0.kill x0.last x1.seq (wr IntKind.i64 (iadd x0.lsn 1)), 0)) (obind (F_book_ledger_cellOf (SState.mk x0.accounts x0.symbols y3 y4 y5 y6 x0.kill x0.last x1.seq x0.lsn) (lget y3 (itn y43)).account (lget y3 (itn y43)).symbol) fun y45 ↦ cnd (band (ile 0 y45) (ilt y45 (len y4))) (obind (F_cell_Go (lget y4 (itn y45)) (lget y3 (itn y43))) fun y46 ↦ obind (F_cell_Come (lget (lset y4 (itn y45) y46.fst) (itn y45)) y44.fst) fun y47 ↦ cnd (ieq x1.what 3) (obind (F_cell_Did (lget (lset (lset y4 (itn y45) y46.fst) (itn y45) y47.fst) (itn y45)) (lget y3 (itn y43)).side x1.qty) fun y48 ↦ cnd (band (ile 0 y43) (ilt y43 (len y3))) (cnd (ieq y44.fst.phase 3) (obind (F_slices_Delete_api_Order (lset y3 (itn y43) y44.fst) y43 (wr IntKind.i64 (iadd y43 1))) fun y49 ↦ some (SState.mk x0.accounts x0.symbols y49 (lset (lset (lset y4 (itn y45) y46.fst) (itn y45) y47.fst) (itn y45) y48.fst) y5 y6 x0.kill x0.last x1.seq (wr IntKind.i64 (iadd x0.lsn 1)), 0)) (some (SState.mk x0.accounts x0.symbols (lset y3 (itn y43) y44.fst) (lset (lset (lset y4 (itn y45) y46.fst) (itn y45) y47.fst) (itn y45) y48.fst) y5 y6 x0.kill x0.last x1.seq (wr IntKind.i64 (iadd x0.lsn 1)), 0))) none) (cnd (band (ile 0 y43) (ilt y43 (len y3))) (cnd (ieq y44.fst.phase 3) (obind (F_slices_Delete_api_Order (lset y3 (itn y43) y44.fst) y43 (wr IntKind.i64 (iadd y43 1))) fun y50 ↦ some (SState.mk x0.accounts x0.symbols y50 (lset (lset y4 (itn y45) y46.fst) (itn y45) y47.fst) y5 y6 x0.kill x0.last x1.seq (wr IntKind.i64 (iadd x0.lsn 1)), 0)) (some (SState.mk x0.accounts x0.symbols (lset y3 (itn y43) y44.fst) (lset (lset y4 (itn y45) y46.fst) (itn y45) y47.fst) y5 y6 x0.kill x0.last x1.seq (wr IntKind.i64 (iadd x0.lsn 1)), 0))) none)) none)) none))))))))
noncomputable def C_book_Do : Cx := { P := PG, ety := ety, fn := look [(21, spec_num_Add), (22, spec_rec_Right), (17, spec_book_Right), (41, spec_slices_Clone_api_Order), (42, spec_slices_Clone_api_Cell), (43, spec_slices_Clone_api_Expo), (44, spec_slices_Clone_int64), (45, spec_order_Begin), (46, spec_book_ledger_cellOf), (47, spec_cell_Come), (48, spec_book_ledger_bears), (49, spec_book_Find), (50, spec_order_Change), (51, spec_cell_Go), (52, spec_order_End), (53, spec_order_Take), (54, spec_cell_Did), (55, spec_slices_Delete_api_Order)], inl := memN [23, 24, 25, 26, 27, 28], lp := lookLp [] }
theorem F_book_Do_eq (x0 : SState) (x1 : SRec) : runFn C_book_Do 11 [.val .state, .val .recd] [.val .state, .int .i64] (x0, x1) = F_book_Do x0 x1 := by kernel_rfl
def spec_book_Do : FnSpec := mkSpec [.val .state, .val .recd] [.val .state, .int .i64] false (fun x => F_book_Do x.1 x.2)
theorem ok_book_Do : FnOk PG 11 spec_book_Do :=
  have K : CxR C_book_Do := seatOk.cx (fun _ => rfl) (l := [(21, spec_num_Add), (22, spec_rec_Right), (17, spec_book_Right), (41, spec_slices_Clone_api_Order), (42, spec_slices_Clone_api_Cell), (43, spec_slices_Clone_api_Expo), (44, spec_slices_Clone_int64), (45, spec_order_Begin), (46, spec_book_ledger_cellOf), (47, spec_cell_Come), (48, spec_book_ledger_bears), (49, spec_book_Find), (50, spec_order_Change), (51, spec_cell_Go), (52, spec_order_End), (53, spec_order_Take), (54, spec_cell_Did), (55, spec_slices_Delete_api_Order)]) ⟨ok_num_Add, ok_rec_Right, ok_book_Right, ok_slices_Clone_api_Order, ok_slices_Clone_api_Cell, ok_slices_Clone_api_Expo, ok_slices_Clone_int64, ok_order_Begin, ok_book_ledger_cellOf, ok_cell_Come, ok_book_ledger_bears, ok_book_Find, ok_order_Change, ok_cell_Go, ok_order_End, ok_order_Take, ok_cell_Did, ok_slices_Delete_api_Order, trivial⟩
  fn_entry K (lps_from (l := []) rfl trivial) (by kernel_rfl) (fun x y h => (F_book_Do_eq x.1 x.2).trans h) rfl rfl

def F_book_Place (x0 : SState) (x1 : Int) (x2 : Int) : Option (Int) := cnd (bor (bor (bor (ilt x1 0) (ile x0.accounts x1)) (ilt x2 0)) (ile x0.symbols x2)) (some (-1)) (obind (F_book_ledger_cellOf x0 x1 x2) fun y0 ↦ some y0)
noncomputable def C_book_Place : Cx := { P := PG, ety := ety, fn := look [(46, spec_book_ledger_cellOf)], inl := memN [], lp := lookLp [] }
theorem F_book_Place_eq (x0 : SState) (x1 : Int) (x2 : Int) : runFn C_book_Place 30 [.val .state, .int .i64, .int .i64] [.int .i64] (x0, x1, x2) = F_book_Place x0 x1 x2 := by kernel_rfl
def spec_book_Place : FnSpec := mkSpec [.val .state, .int .i64, .int .i64] [.int .i64] true (fun x => F_book_Place x.1 x.2.1 x.2.2)
theorem ok_book_Place : FnOk PG 30 spec_book_Place :=
  have K : CxR C_book_Place := seatOk.cx (fun _ => rfl) (l := [(46, spec_book_ledger_cellOf)]) ⟨ok_book_ledger_cellOf, trivial⟩
  fn_entry K (lps_from (l := []) rfl trivial) (by kernel_rfl) (fun x y h => (F_book_Place_eq x.1 x.2.1 x.2.2).trans h) rfl rfl

def F_book_Expo (x0 : SState) (x1 : Int) (x2 : Int) : Option (SExpo × Int) := obind (F_book_Place x0 x1 x2) fun y0 ↦ obind (cnd (bnot (ieq y0 (-1))) (F_book_Right x0) (some false)) fun y1 ↦ cnd (bor (ieq y0 (-1)) (bnot y1)) (some (SExpo.mk 0 0 0, 1)) (cnd (band (ile 0 y0) (ilt y0 (len x0.cells))) (obind (F_cell_Of (lget x0.cells (itn y0))) fun y2 ↦ some y2) none)
noncomputable def C_book_Expo : Cx := { P := PG, ety := ety, fn := look [(30, spec_book_Place), (17, spec_book_Right), (56, spec_cell_Of)], inl := memN [], lp := lookLp [] }
theorem F_book_Expo_eq (x0 : SState) (x1 : Int) (x2 : Int) : runFn C_book_Expo 29 [.val .state, .int .i64, .int .i64] [.val .expo, .int .i64] (x0, x1, x2) = F_book_Expo x0 x1 x2 := by kernel_rfl
def spec_book_Expo : FnSpec := mkSpec [.val .state, .int .i64, .int .i64] [.val .expo, .int .i64] true (fun x => F_book_Expo x.1 x.2.1 x.2.2)
theorem ok_book_Expo : FnOk PG 29 spec_book_Expo :=
  have K : CxR C_book_Expo := seatOk.cx (fun _ => rfl) (l := [(30, spec_book_Place), (17, spec_book_Right), (56, spec_cell_Of)]) ⟨ok_book_Place, ok_book_Right, ok_cell_Of, trivial⟩
  fn_entry K (lps_from (l := []) rfl trivial) (by kernel_rfl) (fun x y h => (F_book_Expo_eq x.1 x.2.1 x.2.2).trans h) rfl rfl

def F_room_left (x0 : Int) (x1 : Int) : Option (Int) := obind (F_num_Sub x0 x1) fun y0 ↦ cnd (band (bnot (ieq y0.snd 0)) (ilt x1 0)) (some 9223372036854775807) (cnd (bnot (ieq y0.snd 0)) (cnd (bnot (ieq y0.snd 0)) (some 0) (some y0.fst)) (cnd (ilt y0.fst 0) (some 0) (some y0.fst)))
noncomputable def C_room_left : Cx := { P := PG, ety := ety, fn := look [(57, spec_num_Sub)], inl := memN [], lp := lookLp [] }
theorem F_room_left_eq (x0 : Int) (x1 : Int) : runFn C_room_left 31 [.int .i64, .int .i64] [.int .i64] (x0, x1) = F_room_left x0 x1 := by kernel_rfl
def spec_room_left : FnSpec := mkSpec [.int .i64, .int .i64] [.int .i64] true (fun x => F_room_left x.1 x.2)
theorem ok_room_left : FnOk PG 31 spec_room_left :=
  have K : CxR C_room_left := seatOk.cx (fun _ => rfl) (l := [(57, spec_num_Sub)]) ⟨ok_num_Sub, trivial⟩
  fn_entry K (lps_from (l := []) rfl trivial) (by kernel_rfl) (fun x y h => (F_room_left_eq x.1 x.2).trans h) rfl rfl

def F_room_Left (x0 : SState) (x1 : Int) (x2 : Int) : Option (SExpo × Int) := obind (F_book_Expo x0 x1 x2) fun y0 ↦ cnd (bnot (ieq y0.snd 0)) (some (SExpo.mk 0 0 0, 1)) (obind (F_book_Place x0 x1 x2) fun y1 ↦ cnd (band (ile 0 y1) (ilt y1 (len x0.limits))) (obind (F_room_left (lget x0.limits (itn y1)).long y0.fst.long) fun y2 ↦ obind (F_room_left (lget x0.limits (itn y1)).short y0.fst.short) fun y3 ↦ obind (F_room_left (lget x0.limits (itn y1)).opn y0.fst.opn) fun y4 ↦ some (SExpo.mk y2 y3 y4, 0)) none)
noncomputable def C_room_Left : Cx := { P := PG, ety := ety, fn := look [(29, spec_book_Expo), (30, spec_book_Place), (31, spec_room_left)], inl := memN [], lp := lookLp [] }
theorem F_room_Left_eq (x0 : SState) (x1 : Int) (x2 : Int) : runFn C_room_Left 12 [.val .state, .int .i64, .int .i64] [.val .expo, .int .i64] (x0, x1, x2) = F_room_Left x0 x1 x2 := by kernel_rfl
def spec_room_Left : FnSpec := mkSpec [.val .state, .int .i64, .int .i64] [.val .expo, .int .i64] true (fun x => F_room_Left x.1 x.2.1 x.2.2)
theorem ok_room_Left : FnOk PG 12 spec_room_Left :=
  have K : CxR C_room_Left := seatOk.cx (fun _ => rfl) (l := [(29, spec_book_Expo), (30, spec_book_Place), (31, spec_room_left)]) ⟨ok_book_Expo, ok_book_Place, ok_room_left, trivial⟩
  fn_entry K (lps_from (l := []) rfl trivial) (by kernel_rfl) (fun x y h => (F_room_Left_eq x.1 x.2.1 x.2.2).trans h) rfl rfl

def F_book_May (x0 : SState) (x1 : SRec) : Option (Int) := obind (F_book_Do x0 x1) fun y0 ↦ some y0.snd
noncomputable def C_book_May : Cx := { P := PG, ety := ety, fn := look [(11, spec_book_Do)], inl := memN [], lp := lookLp [] }
theorem F_book_May_eq (x0 : SState) (x1 : SRec) : runFn C_book_May 9 [.val .state, .val .recd] [.int .i64] (x0, x1) = F_book_May x0 x1 := by kernel_rfl
def spec_book_May : FnSpec := mkSpec [.val .state, .val .recd] [.int .i64] true (fun x => F_book_May x.1 x.2)
theorem ok_book_May : FnOk PG 9 spec_book_May :=
  have K : CxR C_book_May := seatOk.cx (fun _ => rfl) (l := [(11, spec_book_Do)]) ⟨ok_book_Do, trivial⟩
  fn_entry K (lps_from (l := []) rfl trivial) (by kernel_rfl) (fun x y h => (F_book_May_eq x.1 x.2).trans h) rfl rfl

def S_room_Most_58_room_greatest_c57 : LSh := ⟨124, [], [(0, .fn 15 [.mp 392 0, .mp 272 0, .mp 40 0])], [(272, [.int .i64]), (40, [.int .i64, .int .i64, .ro .order, .ro .cell, .ro .expo, .ro .i64, .bool, .int .i64, .int .i64, .int .i64])], [(4, .int .i64), (3, .int .i64)], [(392, [.int .i64, .int .i64, .int .i64, .int .i64, .int .i64, .int .i64, .int .i64, .int .i64, .int .i64, .int .i64, .bool, .int .i64, .int .i64])], []⟩
@[reducible] def O_room_Most_58_room_greatest_c57 : List LOut := [⟨.exit 0, [(3, .int .i64)], [(392, [.int .i64, .int .i64, .int .i64, .int .i64, .int .i64, .int .i64, .int .i64, .int .i64, .int .i64, .int .i64, .bool, .int .i64, .int .i64])], []⟩]
def L_room_Most_58_room_greatest_c57 (p0 : Int) (p1 : Int) (p2 : Int) (p3 : (List SOrder)) (p4 : (List SCell)) (p5 : (List SExpo)) (p6 : (List Int)) (p7 : Bool) (p8 : Int) (p9 : Int) (p10 : Int) (v0 : Int) (v1 : Int) (v2 : Int) (v3 : Int) (v4 : Int) (v5 : Int) (v6 : Int) (v7 : Int) (v8 : Int) (v9 : Int) (v10 : Int) (v11 : Int) (v12 : Bool) (v13 : Int) (v14 : Int) : Option ((Int × Int × Int × Int × Int × Int × Int × Int × Int × Int × Int × Int × Bool × Int × Int) ⊕ ((Int × Int × Int × Int × Int × Int × Int × Int × Int × Int × Int × Bool × Int × Int))) := cnd (ile 0 v0) (cnd (ile 0 v0) (obind (cnd (ile (wr IntKind.i64 (iadd v1 (wr IntKind.i64 (ishl IntKind.i64 1 v0)))) p0) (F_book_May (SState.mk p1 p2 p3 p4 p5 p6 p7 p8 p9 p10) (SRec.mk v2 v3 v4 v5 v6 (wr IntKind.i64 (iadd v1 (wr IntKind.i64 (ishl IntKind.i64 1 v0)))) v8 v9 v10 v11 v12 v13 v14)) (some 0)) fun y0 ↦ cnd (band (ile (wr IntKind.i64 (iadd v1 (wr IntKind.i64 (ishl IntKind.i64 1 v0)))) p0) (ieq y0 0)) (some (Sum.inl (wr IntKind.i64 (isub v0 1), wr IntKind.i64 (iadd v1 (wr IntKind.i64 (ishl IntKind.i64 1 v0))), v2, v3, v4, v5, v6, wr IntKind.i64 (iadd v1 (wr IntKind.i64 (ishl IntKind.i64 1 v0))), v8, v9, v10, v11, v12, v13, v14))) (some (Sum.inl (wr IntKind.i64 (isub v0 1), v1, v2, v3, v4, v5, v6, wr IntKind.i64 (iadd v1 (wr IntKind.i64 (ishl IntKind.i64 1 v0))), v8, v9, v10, v11, v12, v13, v14)))) none) (some (Sum.inr (v1, v2, v3, v4, v5, v6, v7, v8, v9, v10, v11, v12, v13, v14)))
def Ls_room_Most_58_room_greatest_c57 : LSpec := S_room_Most_58_room_greatest_c57.spec O_room_Most_58_room_greatest_c57 [6, 7, 10, 11, 12, 13, 5, 14, 15, 16, 17, 3, 8, 9, 4] (fun p v => L_room_Most_58_room_greatest_c57 p.1 p.2.1 p.2.2.1 p.2.2.2.1 p.2.2.2.2.1 p.2.2.2.2.2.1 p.2.2.2.2.2.2.1 p.2.2.2.2.2.2.2.1 p.2.2.2.2.2.2.2.2.1 p.2.2.2.2.2.2.2.2.2.1 p.2.2.2.2.2.2.2.2.2.2 v.1 v.2.1 v.2.2.1 v.2.2.2.1 v.2.2.2.2.1 v.2.2.2.2.2.1 v.2.2.2.2.2.2.1 v.2.2.2.2.2.2.2.1 v.2.2.2.2.2.2.2.2.1 v.2.2.2.2.2.2.2.2.2.1 v.2.2.2.2.2.2.2.2.2.2.1 v.2.2.2.2.2.2.2.2.2.2.2.1 v.2.2.2.2.2.2.2.2.2.2.2.2.1 v.2.2.2.2.2.2.2.2.2.2.2.2.2.1 v.2.2.2.2.2.2.2.2.2.2.2.2.2.2)
def S_room_Most_58_room_greatest_c54 : LSh := ⟨121, [], [(0, .fn 15 [.mp 368 0, .mp 272 0, .mp 40 0])], [(272, [.int .i64]), (40, [.int .i64, .int .i64, .ro .order, .ro .cell, .ro .expo, .ro .i64, .bool, .int .i64, .int .i64, .int .i64])], [(4, .int .i64), (3, .int .i64)], [(368, [.int .i64, .int .i64, .int .i64, .int .i64, .int .i64, .int .i64, .int .i64, .int .i64, .int .i64, .int .i64, .bool, .int .i64, .int .i64])], []⟩
@[reducible] def O_room_Most_58_room_greatest_c54 : List LOut := [⟨.exit 0, [(3, .int .i64)], [(368, [.int .i64, .int .i64, .int .i64, .int .i64, .int .i64, .int .i64, .int .i64, .int .i64, .int .i64, .int .i64, .bool, .int .i64, .int .i64])], []⟩]
def L_room_Most_58_room_greatest_c54 (p0 : Int) (p1 : Int) (p2 : Int) (p3 : (List SOrder)) (p4 : (List SCell)) (p5 : (List SExpo)) (p6 : (List Int)) (p7 : Bool) (p8 : Int) (p9 : Int) (p10 : Int) (v0 : Int) (v1 : Int) (v2 : Int) (v3 : Int) (v4 : Int) (v5 : Int) (v6 : Int) (v7 : Int) (v8 : Int) (v9 : Int) (v10 : Int) (v11 : Int) (v12 : Bool) (v13 : Int) (v14 : Int) : Option ((Int × Int × Int × Int × Int × Int × Int × Int × Int × Int × Int × Int × Bool × Int × Int) ⊕ ((Int × Int × Int × Int × Int × Int × Int × Int × Int × Int × Int × Bool × Int × Int))) := cnd (ile 0 v0) (cnd (ile 0 v0) (obind (cnd (ile (wr IntKind.i64 (iadd v1 (wr IntKind.i64 (ishl IntKind.i64 1 v0)))) p0) (F_book_May (SState.mk p1 p2 p3 p4 p5 p6 p7 p8 p9 p10) (SRec.mk v2 v3 v4 v5 v6 (wr IntKind.i64 (iadd v1 (wr IntKind.i64 (ishl IntKind.i64 1 v0)))) v8 v9 v10 v11 v12 v13 v14)) (some 0)) fun y0 ↦ cnd (band (ile (wr IntKind.i64 (iadd v1 (wr IntKind.i64 (ishl IntKind.i64 1 v0)))) p0) (ieq y0 0)) (some (Sum.inl (wr IntKind.i64 (isub v0 1), wr IntKind.i64 (iadd v1 (wr IntKind.i64 (ishl IntKind.i64 1 v0))), v2, v3, v4, v5, v6, wr IntKind.i64 (iadd v1 (wr IntKind.i64 (ishl IntKind.i64 1 v0))), v8, v9, v10, v11, v12, v13, v14))) (some (Sum.inl (wr IntKind.i64 (isub v0 1), v1, v2, v3, v4, v5, v6, wr IntKind.i64 (iadd v1 (wr IntKind.i64 (ishl IntKind.i64 1 v0))), v8, v9, v10, v11, v12, v13, v14)))) none) (some (Sum.inr (v1, v2, v3, v4, v5, v6, v7, v8, v9, v10, v11, v12, v13, v14)))
def Ls_room_Most_58_room_greatest_c54 : LSpec := S_room_Most_58_room_greatest_c54.spec O_room_Most_58_room_greatest_c54 [6, 7, 10, 11, 12, 13, 5, 14, 15, 16, 17, 3, 8, 9, 4] (fun p v => L_room_Most_58_room_greatest_c54 p.1 p.2.1 p.2.2.1 p.2.2.2.1 p.2.2.2.2.1 p.2.2.2.2.2.1 p.2.2.2.2.2.2.1 p.2.2.2.2.2.2.2.1 p.2.2.2.2.2.2.2.2.1 p.2.2.2.2.2.2.2.2.2.1 p.2.2.2.2.2.2.2.2.2.2 v.1 v.2.1 v.2.2.1 v.2.2.2.1 v.2.2.2.2.1 v.2.2.2.2.2.1 v.2.2.2.2.2.2.1 v.2.2.2.2.2.2.2.1 v.2.2.2.2.2.2.2.2.1 v.2.2.2.2.2.2.2.2.2.1 v.2.2.2.2.2.2.2.2.2.2.1 v.2.2.2.2.2.2.2.2.2.2.2.1 v.2.2.2.2.2.2.2.2.2.2.2.2.1 v.2.2.2.2.2.2.2.2.2.2.2.2.2.1 v.2.2.2.2.2.2.2.2.2.2.2.2.2.2)
def F_room_Most (x0 : SState) (x1 : Int) (x2 : Int) (x3 : Int) (x4 : Int) : Option (Int × Int) := obind (F_room_Left x0 x1 x2) fun y0 ↦ cnd (bor (bor (bnot (ieq y0.snd 0)) (band (bnot (ieq x3 1)) (bnot (ieq x3 2)))) (ilt x4 1)) (some (0, 1)) (cnd (ieq x3 2) (obind (iterN (fun v ↦ L_room_Most_58_room_greatest_c57 y0.fst.short x0.accounts x0.symbols x0.orders x0.cells x0.limits x0.caps x0.kill x0.last x0.seq x0.lsn v.fst v.snd.fst v.snd.snd.fst v.snd.snd.snd.fst v.snd.snd.snd.snd.fst v.snd.snd.snd.snd.snd.fst v.snd.snd.snd.snd.snd.snd.fst v.snd.snd.snd.snd.snd.snd.snd.fst v.snd.snd.snd.snd.snd.snd.snd.snd.fst v.snd.snd.snd.snd.snd.snd.snd.snd.snd.fst v.snd.snd.snd.snd.snd.snd.snd.snd.snd.snd.fst v.snd.snd.snd.snd.snd.snd.snd.snd.snd.snd.snd.fst v.snd.snd.snd.snd.snd.snd.snd.snd.snd.snd.snd.snd.fst v.snd.snd.snd.snd.snd.snd.snd.snd.snd.snd.snd.snd.snd.fst v.snd.snd.snd.snd.snd.snd.snd.snd.snd.snd.snd.snd.snd.snd) LF (62, 0, 1, wr IntKind.i64 (iadd x0.last 1), x1, x2, x3, 0, x4, 0, 0, 0, false, 0, 0)) fun y1 ↦ some (y1.fst, 0)) (obind (iterN (fun v ↦ L_room_Most_58_room_greatest_c54 y0.fst.long x0.accounts x0.symbols x0.orders x0.cells x0.limits x0.caps x0.kill x0.last x0.seq x0.lsn v.fst v.snd.fst v.snd.snd.fst v.snd.snd.snd.fst v.snd.snd.snd.snd.fst v.snd.snd.snd.snd.snd.fst v.snd.snd.snd.snd.snd.snd.fst v.snd.snd.snd.snd.snd.snd.snd.fst v.snd.snd.snd.snd.snd.snd.snd.snd.fst v.snd.snd.snd.snd.snd.snd.snd.snd.snd.fst v.snd.snd.snd.snd.snd.snd.snd.snd.snd.snd.fst v.snd.snd.snd.snd.snd.snd.snd.snd.snd.snd.snd.fst v.snd.snd.snd.snd.snd.snd.snd.snd.snd.snd.snd.snd.fst v.snd.snd.snd.snd.snd.snd.snd.snd.snd.snd.snd.snd.snd.fst v.snd.snd.snd.snd.snd.snd.snd.snd.snd.snd.snd.snd.snd.snd) LF (62, 0, 1, wr IntKind.i64 (iadd x0.last 1), x1, x2, x3, 0, x4, 0, 0, 0, false, 0, 0)) fun y2 ↦ some (y2.fst, 0)))
noncomputable def C_room_Most : Cx := { P := PG, ety := ety, fn := look [(12, spec_room_Left), (9, spec_book_May)], inl := memN [15, 16], lp := lookLp [(34359971856, 58, Ls_room_Most_58_room_greatest_c57), (34359959568, 58, Ls_room_Most_58_room_greatest_c54)] }
theorem L_room_Most_58_room_greatest_c57_eq (p0 : Int) (p1 : Int) (p2 : Int) (p3 : (List SOrder)) (p4 : (List SCell)) (p5 : (List SExpo)) (p6 : (List Int)) (p7 : Bool) (p8 : Int) (p9 : Int) (p10 : Int) (v0 : Int) (v1 : Int) (v2 : Int) (v3 : Int) (v4 : Int) (v5 : Int) (v6 : Int) (v7 : Int) (v8 : Int) (v9 : Int) (v10 : Int) (v11 : Int) (v12 : Bool) (v13 : Int) (v14 : Int) : runLp C_room_Most 900 34359971856 58 (lpBody PG 16 58) S_room_Most_58_room_greatest_c57 O_room_Most_58_room_greatest_c57 (p0, p1, p2, p3, p4, p5, p6, p7, p8, p9, p10) (v0, v1, v2, v3, v4, v5, v6, v7, v8, v9, v10, v11, v12, v13, v14) = L_room_Most_58_room_greatest_c57 p0 p1 p2 p3 p4 p5 p6 p7 p8 p9 p10 v0 v1 v2 v3 v4 v5 v6 v7 v8 v9 v10 v11 v12 v13 v14 := by kernel_rfl
theorem L_room_Most_58_room_greatest_c54_eq (p0 : Int) (p1 : Int) (p2 : Int) (p3 : (List SOrder)) (p4 : (List SCell)) (p5 : (List SExpo)) (p6 : (List Int)) (p7 : Bool) (p8 : Int) (p9 : Int) (p10 : Int) (v0 : Int) (v1 : Int) (v2 : Int) (v3 : Int) (v4 : Int) (v5 : Int) (v6 : Int) (v7 : Int) (v8 : Int) (v9 : Int) (v10 : Int) (v11 : Int) (v12 : Bool) (v13 : Int) (v14 : Int) : runLp C_room_Most 900 34359959568 58 (lpBody PG 16 58) S_room_Most_58_room_greatest_c54 O_room_Most_58_room_greatest_c54 (p0, p1, p2, p3, p4, p5, p6, p7, p8, p9, p10) (v0, v1, v2, v3, v4, v5, v6, v7, v8, v9, v10, v11, v12, v13, v14) = L_room_Most_58_room_greatest_c54 p0 p1 p2 p3 p4 p5 p6 p7 p8 p9 p10 v0 v1 v2 v3 v4 v5 v6 v7 v8 v9 v10 v11 v12 v13 v14 := by kernel_rfl
theorem F_room_Most_eq (x0 : SState) (x1 : Int) (x2 : Int) (x3 : Int) (x4 : Int) : runFn C_room_Most 8 [.val .state, .int .i64, .int .i64, .int .i64, .int .i64] [.int .i64, .int .i64] (x0, x1, x2, x3, x4) = F_room_Most x0 x1 x2 x3 x4 := by kernel_rfl
def spec_room_Most : FnSpec := mkSpec [.val .state, .int .i64, .int .i64, .int .i64, .int .i64] [.int .i64, .int .i64] true (fun x => F_room_Most x.1 x.2.1 x.2.2.1 x.2.2.2.1 x.2.2.2.2)
theorem ok_room_Most : FnOk PG 8 spec_room_Most :=
  have K : CxR C_room_Most := seatOk.cx (fun _ => rfl) (l := [(12, spec_room_Left), (9, spec_book_May)]) ⟨ok_room_Left, ok_book_May, trivial⟩
  fn_entry K (lps_from (l := [(34359971856, 58, Ls_room_Most_58_room_greatest_c57), (34359959568, 58, Ls_room_Most_58_room_greatest_c54)]) rfl ⟨lp_entry (n := 900) (f := 16) K (by kernel_rfl) (by kernel_rfl) (by kernel_rfl) (by kernel_rfl) (by kernel_rfl) (fun p v r h => (L_room_Most_58_room_greatest_c57_eq p.1 p.2.1 p.2.2.1 p.2.2.2.1 p.2.2.2.2.1 p.2.2.2.2.2.1 p.2.2.2.2.2.2.1 p.2.2.2.2.2.2.2.1 p.2.2.2.2.2.2.2.2.1 p.2.2.2.2.2.2.2.2.2.1 p.2.2.2.2.2.2.2.2.2.2 v.1 v.2.1 v.2.2.1 v.2.2.2.1 v.2.2.2.2.1 v.2.2.2.2.2.1 v.2.2.2.2.2.2.1 v.2.2.2.2.2.2.2.1 v.2.2.2.2.2.2.2.2.1 v.2.2.2.2.2.2.2.2.2.1 v.2.2.2.2.2.2.2.2.2.2.1 v.2.2.2.2.2.2.2.2.2.2.2.1 v.2.2.2.2.2.2.2.2.2.2.2.2.1 v.2.2.2.2.2.2.2.2.2.2.2.2.2.1 v.2.2.2.2.2.2.2.2.2.2.2.2.2.2).trans h),
    lp_entry (n := 900) (f := 16) K (by kernel_rfl) (by kernel_rfl) (by kernel_rfl) (by kernel_rfl) (by kernel_rfl) (fun p v r h => (L_room_Most_58_room_greatest_c54_eq p.1 p.2.1 p.2.2.1 p.2.2.2.1 p.2.2.2.2.1 p.2.2.2.2.2.1 p.2.2.2.2.2.2.1 p.2.2.2.2.2.2.2.1 p.2.2.2.2.2.2.2.2.1 p.2.2.2.2.2.2.2.2.2.1 p.2.2.2.2.2.2.2.2.2.2 v.1 v.2.1 v.2.2.1 v.2.2.2.1 v.2.2.2.2.1 v.2.2.2.2.2.1 v.2.2.2.2.2.2.1 v.2.2.2.2.2.2.2.1 v.2.2.2.2.2.2.2.2.1 v.2.2.2.2.2.2.2.2.2.1 v.2.2.2.2.2.2.2.2.2.2.1 v.2.2.2.2.2.2.2.2.2.2.2.1 v.2.2.2.2.2.2.2.2.2.2.2.2.1 v.2.2.2.2.2.2.2.2.2.2.2.2.2.1 v.2.2.2.2.2.2.2.2.2.2.2.2.2.2).trans h), trivial⟩) (by kernel_rfl) (fun x y h => (F_room_Most_eq x.1 x.2.1 x.2.2.1 x.2.2.2.1 x.2.2.2.2).trans h) rfl rfl

def F_book_Open (x0 : SState) (x1 : Int) : Option (Int × Int) := obind (cnd (bnot (bor (ilt x1 0) (ile x0.accounts x1))) (F_book_Right x0) (some false)) fun y0 ↦ cnd (bor (bor (ilt x1 0) (ile x0.accounts x1)) (bnot y0)) (some (0, 1)) (obind (F_book_ledger_account x0 x1) fun y1 ↦ obind (F_limit_Whole y1) fun y2 ↦ some y2)
noncomputable def C_book_Open : Cx := { P := PG, ety := ety, fn := look [(17, spec_book_Right), (59, spec_book_ledger_account), (58, spec_limit_Whole)], inl := memN [], lp := lookLp [] }
theorem F_book_Open_eq (x0 : SState) (x1 : Int) : runFn C_book_Open 32 [.val .state, .int .i64] [.int .i64, .int .i64] (x0, x1) = F_book_Open x0 x1 := by kernel_rfl
def spec_book_Open : FnSpec := mkSpec [.val .state, .int .i64] [.int .i64, .int .i64] true (fun x => F_book_Open x.1 x.2)
theorem ok_book_Open : FnOk PG 32 spec_book_Open :=
  have K : CxR C_book_Open := seatOk.cx (fun _ => rfl) (l := [(17, spec_book_Right), (59, spec_book_ledger_account), (58, spec_limit_Whole)]) ⟨ok_book_Right, ok_book_ledger_account, ok_limit_Whole, trivial⟩
  fn_entry K (lps_from (l := []) rfl trivial) (by kernel_rfl) (fun x y h => (F_book_Open_eq x.1 x.2).trans h) rfl rfl

def F_room_CapLeft (x0 : SState) (x1 : Int) : Option (Int × Int) := obind (F_book_Open x0 x1) fun y0 ↦ cnd (bnot (ieq y0.snd 0)) (some (0, 1)) (cnd (band (ile 0 x1) (ilt x1 (len x0.caps))) (obind (F_room_left (lget x0.caps (itn x1)) y0.fst) fun y1 ↦ some (y1, 0)) none)
noncomputable def C_room_CapLeft : Cx := { P := PG, ety := ety, fn := look [(32, spec_book_Open), (31, spec_room_left)], inl := memN [], lp := lookLp [] }
theorem F_room_CapLeft_eq (x0 : SState) (x1 : Int) : runFn C_room_CapLeft 13 [.val .state, .int .i64] [.int .i64, .int .i64] (x0, x1) = F_room_CapLeft x0 x1 := by kernel_rfl
def spec_room_CapLeft : FnSpec := mkSpec [.val .state, .int .i64] [.int .i64, .int .i64] true (fun x => F_room_CapLeft x.1 x.2)
theorem ok_room_CapLeft : FnOk PG 13 spec_room_CapLeft :=
  have K : CxR C_room_CapLeft := seatOk.cx (fun _ => rfl) (l := [(32, spec_book_Open), (31, spec_room_left)]) ⟨ok_book_Open, ok_room_left, trivial⟩
  fn_entry K (lps_from (l := []) rfl trivial) (by kernel_rfl) (fun x y h => (F_room_CapLeft_eq x.1 x.2).trans h) rfl rfl

def S_room_MostOf_28_sort_Search_c21 : LSh := ⟨89, [], [(1, .fn 19 [.mp 24 0, .mp 32 0])], [(24, [.int .i64, .int .i64, .ro .order, .ro .cell, .ro .expo, .ro .i64, .bool, .int .i64, .int .i64, .int .i64]), (32, [.int .i64])], [(6, .int .i64), (5, .int .i64)], [], []⟩
@[reducible] def O_room_MostOf_28_sort_Search_c21 : List LOut := [⟨.exit 0, [(5, .int .i64)], [], []⟩]
def L_room_MostOf_28_sort_Search_c21 (p0 : Int) (p1 : Int) (p2 : (List SOrder)) (p3 : (List SCell)) (p4 : (List SExpo)) (p5 : (List Int)) (p6 : Bool) (p7 : Int) (p8 : Int) (p9 : Int) (p10 : Int) (v0 : Int) (v1 : Int) : Option ((Int × Int) ⊕ ((Int))) := cnd (ilt v1 v0) (cnd (band (ile 0 (wr IntKind.i64 (ishr IntKind.u64 (wr IntKind.u64 (wr IntKind.i64 (iadd v1 v0))) 1))) (ilt (wr IntKind.i64 (ishr IntKind.u64 (wr IntKind.u64 (wr IntKind.i64 (iadd v1 v0))) 1)) (len p2))) (cnd (bnot (ile p10 (lget p2 (itn (wr IntKind.i64 (ishr IntKind.u64 (wr IntKind.u64 (wr IntKind.i64 (iadd v1 v0))) 1)))).id)) (some (Sum.inl (v0, wr IntKind.i64 (iadd (wr IntKind.i64 (ishr IntKind.u64 (wr IntKind.u64 (wr IntKind.i64 (iadd v1 v0))) 1)) 1)))) (some (Sum.inl (wr IntKind.i64 (ishr IntKind.u64 (wr IntKind.u64 (wr IntKind.i64 (iadd v1 v0))) 1), v1)))) none) (some (Sum.inr v1))
def Ls_room_MostOf_28_sort_Search_c21 : LSpec := S_room_MostOf_28_sort_Search_c21.spec O_room_MostOf_28_sort_Search_c21 [9, 10, 11, 12, 13, 14, 15, 16, 17, 7, 18, 19, 20, 21, 22, 23, 5, 24, 6] (fun p v => L_room_MostOf_28_sort_Search_c21 p.1 p.2.1 p.2.2.1 p.2.2.2.1 p.2.2.2.2.1 p.2.2.2.2.2.1 p.2.2.2.2.2.2.1 p.2.2.2.2.2.2.2.1 p.2.2.2.2.2.2.2.2.1 p.2.2.2.2.2.2.2.2.2.1 p.2.2.2.2.2.2.2.2.2.2 v.1 v.2)
def S_room_MostOf_58_room_greatest_c115 : LSh := ⟨182, [], [(0, .fn 20 [.mp 24 0, .mp 32 0, .mp 40 0])], [(24, [.int .i64, .int .i64, .ro .order, .ro .cell, .ro .expo, .ro .i64, .bool, .int .i64, .int .i64, .int .i64]), (32, [.int .i64]), (40, [.int .i64])], [(4, .int .i64), (3, .int .i64)], [], []⟩
@[reducible] def O_room_MostOf_58_room_greatest_c115 : List LOut := [⟨.exit 0, [(3, .int .i64)], [], []⟩]
def L_room_MostOf_58_room_greatest_c115 (p0 : Int) (p1 : Int) (p2 : (List SOrder)) (p3 : (List SCell)) (p4 : (List SExpo)) (p5 : (List Int)) (p6 : Bool) (p7 : Int) (p8 : Int) (p9 : Int) (p10 : Int) (p11 : Int) (v0 : Int) (v1 : Int) : Option ((Int × Int) ⊕ ((Int))) := cnd (ile 0 v0) (cnd (ile 0 v0) (obind (F_book_May (SState.mk p0 p1 p2 p3 p4 p5 p6 p7 p8 p9) (SRec.mk 2 p10 0 0 0 (wr IntKind.i64 (iadd v1 (wr IntKind.i64 (ishl IntKind.i64 1 v0)))) p11 0 0 0 false 0 0)) fun y0 ↦ cnd (ieq y0 0) (some (Sum.inl (wr IntKind.i64 (isub v0 1), wr IntKind.i64 (iadd v1 (wr IntKind.i64 (ishl IntKind.i64 1 v0)))))) (some (Sum.inl (wr IntKind.i64 (isub v0 1), v1)))) none) (some (Sum.inr v1))
def Ls_room_MostOf_58_room_greatest_c115 : LSpec := S_room_MostOf_58_room_greatest_c115.spec O_room_MostOf_58_room_greatest_c115 [6, 7, 10, 11, 12, 13, 5, 14, 15, 16, 17, 3, 8, 9, 4] (fun p v => L_room_MostOf_58_room_greatest_c115 p.1 p.2.1 p.2.2.1 p.2.2.2.1 p.2.2.2.2.1 p.2.2.2.2.2.1 p.2.2.2.2.2.2.1 p.2.2.2.2.2.2.2.1 p.2.2.2.2.2.2.2.2.1 p.2.2.2.2.2.2.2.2.2.1 p.2.2.2.2.2.2.2.2.2.2.1 p.2.2.2.2.2.2.2.2.2.2.2 v.1 v.2)
def F_room_MostOf (x0 : SState) (x1 : Int) (x2 : Int) : Option (Int × Int) := obind (cnd (bnot (ilt x2 1)) (F_book_Right x0) (some false)) fun y0 ↦ cnd (bor (ilt x2 1) (bnot y0)) (some (0, 1)) (obind (iterN (fun v ↦ L_room_MostOf_28_sort_Search_c21 x0.accounts x0.symbols x0.orders x0.cells x0.limits x0.caps x0.kill x0.last x0.seq x0.lsn x1 v.fst v.snd) LF (len x0.orders, 0)) fun y1 ↦ cnd (bor (band (ile 0 y1) (ilt y1 (len x0.orders))) (bnot (bnot (ieq y1 (len x0.orders))))) (cnd (bor (ieq y1 (len x0.orders)) (bnot (ieq (lget x0.orders (itn y1)).id x1))) (some (0, 7)) (obind (iterN (fun v ↦ L_room_MostOf_58_room_greatest_c115 x0.accounts x0.symbols x0.orders x0.cells x0.limits x0.caps x0.kill x0.last x0.seq x0.lsn x1 x2 v.fst v.snd) LF (62, 0)) fun y2 ↦ some (y2, 0))) none)
noncomputable def C_room_MostOf : Cx := { P := PG, ety := ety, fn := look [(17, spec_book_Right), (9, spec_book_May)], inl := memN [19, 18, 20, 16], lp := lookLp [(42949758994, 28, Ls_room_MostOf_28_sort_Search_c21), (42950144016, 58, Ls_room_MostOf_58_room_greatest_c115)] }
theorem L_room_MostOf_28_sort_Search_c21_eq (p0 : Int) (p1 : Int) (p2 : (List SOrder)) (p3 : (List SCell)) (p4 : (List SExpo)) (p5 : (List Int)) (p6 : Bool) (p7 : Int) (p8 : Int) (p9 : Int) (p10 : Int) (v0 : Int) (v1 : Int) : runLp C_room_MostOf 900 42949758994 28 (lpBody PG 18 28) S_room_MostOf_28_sort_Search_c21 O_room_MostOf_28_sort_Search_c21 (p0, p1, p2, p3, p4, p5, p6, p7, p8, p9, p10) (v0, v1) = L_room_MostOf_28_sort_Search_c21 p0 p1 p2 p3 p4 p5 p6 p7 p8 p9 p10 v0 v1 := by kernel_rfl
theorem L_room_MostOf_58_room_greatest_c115_eq (p0 : Int) (p1 : Int) (p2 : (List SOrder)) (p3 : (List SCell)) (p4 : (List SExpo)) (p5 : (List Int)) (p6 : Bool) (p7 : Int) (p8 : Int) (p9 : Int) (p10 : Int) (p11 : Int) (v0 : Int) (v1 : Int) : runLp C_room_MostOf 900 42950144016 58 (lpBody PG 16 58) S_room_MostOf_58_room_greatest_c115 O_room_MostOf_58_room_greatest_c115 (p0, p1, p2, p3, p4, p5, p6, p7, p8, p9, p10, p11) (v0, v1) = L_room_MostOf_58_room_greatest_c115 p0 p1 p2 p3 p4 p5 p6 p7 p8 p9 p10 p11 v0 v1 := by kernel_rfl
theorem F_room_MostOf_eq (x0 : SState) (x1 : Int) (x2 : Int) : runFn C_room_MostOf 10 [.val .state, .int .i64, .int .i64] [.int .i64, .int .i64] (x0, x1, x2) = F_room_MostOf x0 x1 x2 := by kernel_rfl
def spec_room_MostOf : FnSpec := mkSpec [.val .state, .int .i64, .int .i64] [.int .i64, .int .i64] true (fun x => F_room_MostOf x.1 x.2.1 x.2.2)
theorem ok_room_MostOf : FnOk PG 10 spec_room_MostOf :=
  have K : CxR C_room_MostOf := seatOk.cx (fun _ => rfl) (l := [(17, spec_book_Right), (9, spec_book_May)]) ⟨ok_book_Right, ok_book_May, trivial⟩
  fn_entry K (lps_from (l := [(42949758994, 28, Ls_room_MostOf_28_sort_Search_c21), (42950144016, 58, Ls_room_MostOf_58_room_greatest_c115)]) rfl ⟨lp_entry (n := 900) (f := 18) K (by kernel_rfl) (by kernel_rfl) (by kernel_rfl) (by kernel_rfl) (by kernel_rfl) (fun p v r h => (L_room_MostOf_28_sort_Search_c21_eq p.1 p.2.1 p.2.2.1 p.2.2.2.1 p.2.2.2.2.1 p.2.2.2.2.2.1 p.2.2.2.2.2.2.1 p.2.2.2.2.2.2.2.1 p.2.2.2.2.2.2.2.2.1 p.2.2.2.2.2.2.2.2.2.1 p.2.2.2.2.2.2.2.2.2.2 v.1 v.2).trans h),
    lp_entry (n := 900) (f := 16) K (by kernel_rfl) (by kernel_rfl) (by kernel_rfl) (by kernel_rfl) (by kernel_rfl) (fun p v r h => (L_room_MostOf_58_room_greatest_c115_eq p.1 p.2.1 p.2.2.1 p.2.2.2.1 p.2.2.2.2.1 p.2.2.2.2.2.1 p.2.2.2.2.2.2.1 p.2.2.2.2.2.2.2.1 p.2.2.2.2.2.2.2.2.1 p.2.2.2.2.2.2.2.2.2.1 p.2.2.2.2.2.2.2.2.2.2.1 p.2.2.2.2.2.2.2.2.2.2.2 v.1 v.2).trans h), trivial⟩) (by kernel_rfl) (fun x y h => (F_room_MostOf_eq x.1 x.2.1 x.2.2).trans h) rfl rfl

def F_snafflelaw27_awake : Option (Bool) := obind (F_book_New 1 1 (SExpo.mk 9 7 30) 25) fun y0 ↦ obind (F_book_Do y0.fst (SRec.mk 1 1 0 0 1 4 2 0 0 0 false 0 0)) fun y1 ↦ obind (F_room_Most y0.fst 0 0 1 1) fun y2 ↦ obind (F_room_Most y1.fst 0 0 1 1) fun y3 ↦ obind (F_room_Most y1.fst 0 0 2 3) fun y4 ↦ obind (F_room_Left y1.fst 0 0) fun y5 ↦ obind (F_room_CapLeft y1.fst 0) fun y6 ↦ obind (F_room_MostOf y1.fst 2 1) fun y7 ↦ some (band (band (band (band (band (band (band (band (band (band (band (band (ieq y0.snd 0) (ieq y1.snd 0)) (ieq y2.snd 0)) (ieq y3.snd 0)) (ieq y4.snd 0)) (ieq y5.snd 0)) (ieq y6.snd 0)) (ieq y7.snd 7)) (ieq y2.fst 9)) (ieq y3.fst 5)) (ieq y4.fst 5)) (band (ieq y5.fst.long 5) (band (ieq y5.fst.short 7) (ieq y5.fst.opn 22)))) (ieq y6.fst 17))
noncomputable def C_snafflelaw27_awake : Cx := { P := PG, ety := ety, fn := look [(14, spec_book_New), (11, spec_book_Do), (8, spec_room_Most), (12, spec_room_Left), (13, spec_room_CapLeft), (10, spec_room_MostOf)], inl := memN [], lp := lookLp [] }
theorem F_snafflelaw27_awake_eq : runFn C_snafflelaw27_awake 6 [] [.bool] () = F_snafflelaw27_awake := by kernel_rfl
def spec_snafflelaw27_awake : FnSpec := mkSpec [] [.bool] true (fun _ => F_snafflelaw27_awake)
theorem ok_snafflelaw27_awake : FnOk PG 6 spec_snafflelaw27_awake :=
  have K : CxR C_snafflelaw27_awake := seatOk.cx (fun _ => rfl) (l := [(14, spec_book_New), (11, spec_book_Do), (8, spec_room_Most), (12, spec_room_Left), (13, spec_room_CapLeft), (10, spec_room_MostOf)]) ⟨ok_book_New, ok_book_Do, ok_room_Most, ok_room_Left, ok_room_CapLeft, ok_room_MostOf, trivial⟩
  fn_entry K (lps_from (l := []) rfl trivial) (by kernel_rfl) (fun x y h => (F_snafflelaw27_awake_eq).trans h) rfl rfl

def F_snaffleref10_Short (x0 : SState) : Option (Bool) := some (band (band (band (ile (len x0.orders) 70) (ile (len x0.cells) 70)) (ile (len x0.limits) 70)) (ile (len x0.caps) 70))
noncomputable def C_snaffleref10_Short : Cx := { P := PG, ety := ety, fn := look [], inl := memN [], lp := lookLp [] }
theorem F_snaffleref10_Short_eq (x0 : SState) : runFn C_snaffleref10_Short 7 [.val .state] [.bool] x0 = F_snaffleref10_Short x0 := by kernel_rfl
def spec_snaffleref10_Short : FnSpec := mkSpec [.val .state] [.bool] true (fun x => F_snaffleref10_Short x)
theorem ok_snaffleref10_Short : FnOk PG 7 spec_snaffleref10_Short :=
  have K : CxR C_snaffleref10_Short := seatOk.cx (fun _ => rfl) (l := []) trivial
  fn_entry K (lps_from (l := []) rfl trivial) (by kernel_rfl) (fun x y h => (F_snaffleref10_Short_eq x).trans h) rfl rfl

def F_snafflelaw27_RoomMostOf (x0 : SState) (x1 : Int) (x2 : Int) (x3 : Int) : Option (Bool) := obind F_snafflelaw27_awake fun y0 ↦ cnd (bnot y0) (some false) (obind (F_snaffleref10_Short x0) fun y1 ↦ cnd (bnot y1) (some true) (obind (F_room_MostOf x0 x1 x2) fun y2 ↦ cnd (bnot (ieq y2.snd 0)) (some (ieq y2.fst 0)) (obind (cnd (band (bnot (ilt y2.fst 0)) (ilt 0 y2.fst)) (F_book_May x0 (SRec.mk 2 x1 0 0 0 y2.fst x2 0 0 0 false 0 0)) (some 0)) fun y3 ↦ cnd (bor (ilt y2.fst 0) (band (ilt 0 y2.fst) (bnot (ieq y3 0)))) (some false) (obind (F_book_May x0 (SRec.mk 2 x1 0 0 0 x3 x2 0 0 0 false 0 0)) fun y4 ↦ some (beq (ieq y4 0) (band (ile 1 x3) (ile x3 y2.fst)))))))
noncomputable def C_snafflelaw27_RoomMostOf : Cx := { P := PG, ety := ety, fn := look [(6, spec_snafflelaw27_awake), (7, spec_snaffleref10_Short), (10, spec_room_MostOf), (9, spec_book_May)], inl := memN [], lp := lookLp [] }
theorem F_snafflelaw27_RoomMostOf_eq (x0 : SState) (x1 : Int) (x2 : Int) (x3 : Int) : runFn C_snafflelaw27_RoomMostOf 4 [.val .state, .int .i64, .int .i64, .int .i64] [.bool] (x0, x1, x2, x3) = F_snafflelaw27_RoomMostOf x0 x1 x2 x3 := by kernel_rfl
def spec_snafflelaw27_RoomMostOf : FnSpec := mkSpec [.val .state, .int .i64, .int .i64, .int .i64] [.bool] true (fun x => F_snafflelaw27_RoomMostOf x.1 x.2.1 x.2.2.1 x.2.2.2)
theorem ok_snafflelaw27_RoomMostOf : FnOk PG 4 spec_snafflelaw27_RoomMostOf :=
  have K : CxR C_snafflelaw27_RoomMostOf := seatOk.cx (fun _ => rfl) (l := [(6, spec_snafflelaw27_awake), (7, spec_snaffleref10_Short), (10, spec_room_MostOf), (9, spec_book_May)]) ⟨ok_snafflelaw27_awake, ok_snaffleref10_Short, ok_room_MostOf, ok_book_May, trivial⟩
  fn_entry K (lps_from (l := []) rfl trivial) (by kernel_rfl) (fun x y h => (F_snafflelaw27_RoomMostOf_eq x.1 x.2.1 x.2.2.1 x.2.2.2).trans h) rfl rfl

end
end Go.Av
