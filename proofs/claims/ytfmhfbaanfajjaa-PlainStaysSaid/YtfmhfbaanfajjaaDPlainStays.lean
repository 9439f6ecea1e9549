/- The functions that this claim reaches, each as a plain function; each is what its text comes to. No condition. -/
import Derived.Test.YtfmhfbaanfajjaaAvE
import Derived.Test.YtfmhfbaanfajjaaProg
import Derived.KernelRfl
set_option linter.unusedVariables false
set_option linter.unusedSimpArgs false
set_option linter.unnecessarySimpa false
namespace Go.Av
open Go
/-- The types whose data are told by a code. -/
def etyL : List (Nat × E) := [(2, .i64), (3, .i64), (4, .bool), (5, .u8), (6, .u8), (9, .str), (10, .str), (11, .str), (27, .state), (31, .feed), (33, .plain), (37, .i64), (41, .note), (44, .recd), (49, .msg), (54, .expo), (56, .order), (75, .state), (97, .cell), (147, .a3), (159, .u8), (160, .u8)]
def ety (t : Nat) : Option E := look etyL t
noncomputable abbrev PG : Program := Go.Proofs.Try.prog
end Go.Av

namespace Go.Av
open Go
noncomputable section
theorem eok_2 : EOk PG 2 .i64 := eok_of (by kernel_rfl) (by kernel_rfl)
theorem eok_3 : EOk PG 3 .i64 := eok_of (by kernel_rfl) (by kernel_rfl)
theorem eok_4 : EOk PG 4 .bool := eok_of (by kernel_rfl) (by kernel_rfl)
theorem eok_5 : EOk PG 5 .u8 := eok_of (by kernel_rfl) (by kernel_rfl)
theorem eok_6 : EOk PG 6 .u8 := eok_of (by kernel_rfl) (by kernel_rfl)
theorem eok_9 : EOk PG 9 .str := eok_of (by kernel_rfl) (by kernel_rfl)
theorem eok_10 : EOk PG 10 .str := eok_of (by kernel_rfl) (by kernel_rfl)
theorem eok_11 : EOk PG 11 .str := eok_of (by kernel_rfl) (by kernel_rfl)
theorem eok_27 : EOk PG 27 .state := eok_of (by kernel_rfl) (by kernel_rfl)
theorem eok_31 : EOk PG 31 .feed := eok_of (by kernel_rfl) (by kernel_rfl)
theorem eok_33 : EOk PG 33 .plain := eok_of (by kernel_rfl) (by kernel_rfl)
theorem eok_37 : EOk PG 37 .i64 := eok_of (by kernel_rfl) (by kernel_rfl)
theorem eok_41 : EOk PG 41 .note := eok_of (by kernel_rfl) (by kernel_rfl)
theorem eok_44 : EOk PG 44 .recd := eok_of (by kernel_rfl) (by kernel_rfl)
theorem eok_49 : EOk PG 49 .msg := eok_of (by kernel_rfl) (by kernel_rfl)
theorem eok_54 : EOk PG 54 .expo := eok_of (by kernel_rfl) (by kernel_rfl)
theorem eok_56 : EOk PG 56 .order := eok_of (by kernel_rfl) (by kernel_rfl)
theorem eok_75 : EOk PG 75 .state := eok_of (by kernel_rfl) (by kernel_rfl)
theorem eok_97 : EOk PG 97 .cell := eok_of (by kernel_rfl) (by kernel_rfl)
theorem eok_147 : EOk PG 147 .a3 := eok_of (by kernel_rfl) (by kernel_rfl)
theorem eok_159 : EOk PG 159 .u8 := eok_of (by kernel_rfl) (by kernel_rfl)
theorem eok_160 : EOk PG 160 .u8 := eok_of (by kernel_rfl) (by kernel_rfl)
theorem seatOk : SeatOk PG etyL := ⟨by kernel_rfl, ⟨eok_2, eok_3, eok_4, eok_5, eok_6, eok_9, eok_10, eok_11, eok_27, eok_31, eok_33, eok_37, eok_41, eok_44, eok_49, eok_54, eok_56, eok_75, eok_97, eok_147, eok_159, eok_160, trivial⟩, by kernel_rfl, by kernel_rfl, by kernel_rfl⟩
end
end Go.Av

namespace Go.Av
open Go
noncomputable section
def F_math_bits_Mul32 (x0 : Int) (x1 : Int) : Option (Int × Int) := some (wr IntKind.u32 (ishr IntKind.u64 (wr IntKind.u64 (imul (wr IntKind.u64 x0) (wr IntKind.u64 x1))) 32), wr IntKind.u32 (wr IntKind.u64 (imul (wr IntKind.u64 x0) (wr IntKind.u64 x1))))
noncomputable def C_math_bits_Mul32 : Cx := { P := PG, ety := ety, fn := look [], inl := memN [], lp := lookLp [] }
theorem F_math_bits_Mul32_eq (x0 : Int) (x1 : Int) : runFn C_math_bits_Mul32 76 [.int .u32, .int .u32] [.int .u32, .int .u32] (x0, x1) = F_math_bits_Mul32 x0 x1 := by kernel_rfl
def spec_math_bits_Mul32 : FnSpec := mkSpec [.int .u32, .int .u32] [.int .u32, .int .u32] true (fun x => F_math_bits_Mul32 x.1 x.2)
theorem ok_math_bits_Mul32 : FnOk PG 76 spec_math_bits_Mul32 :=
  have K : CxR C_math_bits_Mul32 := seatOk.cx (fun _ => rfl) (l := []) trivial
  fn_entry K (lps_from (l := []) rfl trivial) (by kernel_rfl) (fun x y h => (F_math_bits_Mul32_eq x.1 x.2).trans h) rfl rfl

def F_math_bits_Mul64 (x0 : Int) (x1 : Int) : Option (Int × Int) := some (wr IntKind.u64 (iadd (wr IntKind.u64 (iadd (wr IntKind.u64 (imul (ishr IntKind.u64 x0 32) (ishr IntKind.u64 x1 32))) (ishr IntKind.u64 (wr IntKind.u64 (iadd (wr IntKind.u64 (imul (ishr IntKind.u64 x0 32) (wr IntKind.u64 (iand IntKind.u64 x1 4294967295)))) (ishr IntKind.u64 (wr IntKind.u64 (imul (wr IntKind.u64 (iand IntKind.u64 x0 4294967295)) (wr IntKind.u64 (iand IntKind.u64 x1 4294967295)))) 32))) 32))) (ishr IntKind.u64 (wr IntKind.u64 (iadd (wr IntKind.u64 (iand IntKind.u64 (wr IntKind.u64 (iadd (wr IntKind.u64 (imul (ishr IntKind.u64 x0 32) (wr IntKind.u64 (iand IntKind.u64 x1 4294967295)))) (ishr IntKind.u64 (wr IntKind.u64 (imul (wr IntKind.u64 (iand IntKind.u64 x0 4294967295)) (wr IntKind.u64 (iand IntKind.u64 x1 4294967295)))) 32))) 4294967295)) (wr IntKind.u64 (imul (wr IntKind.u64 (iand IntKind.u64 x0 4294967295)) (ishr IntKind.u64 x1 32))))) 32)), wr IntKind.u64 (imul x0 x1))
noncomputable def C_math_bits_Mul64 : Cx := { P := PG, ety := ety, fn := look [], inl := memN [], lp := lookLp [] }
theorem F_math_bits_Mul64_eq (x0 : Int) (x1 : Int) : runFn C_math_bits_Mul64 77 [.int .u64, .int .u64] [.int .u64, .int .u64] (x0, x1) = F_math_bits_Mul64 x0 x1 := by kernel_rfl
def spec_math_bits_Mul64 : FnSpec := mkSpec [.int .u64, .int .u64] [.int .u64, .int .u64] true (fun x => F_math_bits_Mul64 x.1 x.2)
theorem ok_math_bits_Mul64 : FnOk PG 77 spec_math_bits_Mul64 :=
  have K : CxR C_math_bits_Mul64 := seatOk.cx (fun _ => rfl) (l := []) trivial
  fn_entry K (lps_from (l := []) rfl trivial) (by kernel_rfl) (fun x y h => (F_math_bits_Mul64_eq x.1 x.2).trans h) rfl rfl

def F_math_bits_Mul (x0 : Int) (x1 : Int) : Option (Int × Int) := obind (F_math_bits_Mul64 x0 x1) fun y0 ↦ some y0
noncomputable def C_math_bits_Mul : Cx := { P := PG, ety := ety, fn := look [(76, spec_math_bits_Mul32), (77, spec_math_bits_Mul64)], inl := memN [], lp := lookLp [] }
theorem F_math_bits_Mul_eq (x0 : Int) (x1 : Int) : runFn C_math_bits_Mul 48 [.int .u64, .int .u64] [.int .u64, .int .u64] (x0, x1) = F_math_bits_Mul x0 x1 := by kernel_rfl
def spec_math_bits_Mul : FnSpec := mkSpec [.int .u64, .int .u64] [.int .u64, .int .u64] true (fun x => F_math_bits_Mul x.1 x.2)
theorem ok_math_bits_Mul : FnOk PG 48 spec_math_bits_Mul :=
  have K : CxR C_math_bits_Mul := seatOk.cx (fun _ => rfl) (l := [(76, spec_math_bits_Mul32), (77, spec_math_bits_Mul64)]) ⟨ok_math_bits_Mul32, ok_math_bits_Mul64, trivial⟩
  fn_entry K (lps_from (l := []) rfl trivial) (by kernel_rfl) (fun x y h => (F_math_bits_Mul_eq x.1 x.2).trans h) rfl rfl

def S_slices_Repeat_api_Expo_508 : LSh := ⟨94, [], [(7, .mf 192)], [], [(8, .int .i64)], [], [(192, .expo)]⟩
@[reducible] def O_slices_Repeat_api_Expo_508 : List LOut := [⟨.exit 0, [], [], [(192, .expo)]⟩]
def L_slices_Repeat_api_Expo_508 (v0 : Int) (v1 : (List SExpo)) : Option ((Int × (List SExpo)) ⊕ (((List SExpo)))) := cnd (ilt v0 (len v1)) (cnd (band (ile 0 v0) (ile v0 (len v1))) (cnd (band (ile 0 v0) (ile v0 (len v1))) (some (Sum.inl (wr IntKind.i64 (iadd v0 (imin (len (ltake (ldrop v1 0) (itn v0))) (nti (itn (isub (len v1) v0))))), lcpy v1 (itn v0) (ltake (ltake (ldrop v1 0) (itn v0)) (itn (imin (len (ltake (ldrop v1 0) (itn v0))) (nti (itn (isub (len v1) v0))))))))) none) none) (some (Sum.inr v1))
def Ls_slices_Repeat_api_Expo_508 : LSpec := S_slices_Repeat_api_Expo_508.spec O_slices_Repeat_api_Expo_508 [34, 35, 36, 37, 38, 39, 40, 41, 42, 43, 44, 45, 46, 8] (fun p v => L_slices_Repeat_api_Expo_508 v.1 v.2)
def F_slices_Repeat_api_Expo (x0 : (List SExpo)) (x1 : Int) : Option ((List SExpo)) := cnd (ilt x1 0) none (obind (F_math_bits_Mul (wr IntKind.u64 (len x0)) (wr IntKind.u64 x1)) fun y0 ↦ cnd (bor (ilt 0 y0.fst) (ilt 9223372036854775807 y0.snd)) none (cnd (band (band (ile 0 (wr IntKind.i64 y0.snd)) (ile (wr IntKind.i64 y0.snd) (wr IntKind.i64 y0.snd))) (ile (wr IntKind.i64 y0.snd) 68719476736)) (obind (iterN (fun v ↦ L_slices_Repeat_api_Expo_508 v.fst v.snd) LF (imin (len x0) (len (lrep SExpo (itn (wr IntKind.i64 y0.snd)))), lcpy (lrep SExpo (itn (wr IntKind.i64 y0.snd))) 0 (ltake x0 (itn (imin (len x0) (len (lrep SExpo (itn (wr IntKind.i64 y0.snd))))))))) fun y1 ↦ some y1) none))
noncomputable def C_slices_Repeat_api_Expo : Cx := { P := PG, ety := ety, fn := look [(48, spec_math_bits_Mul)], inl := memN [], lp := lookLp [(24, 508, Ls_slices_Repeat_api_Expo_508)] }
theorem L_slices_Repeat_api_Expo_508_eq (v0 : Int) (v1 : (List SExpo)) : runLp C_slices_Repeat_api_Expo 900 24 508 (lpBody PG 24 508) S_slices_Repeat_api_Expo_508 O_slices_Repeat_api_Expo_508 () (v0, v1) = L_slices_Repeat_api_Expo_508 v0 v1 := by kernel_rfl
theorem F_slices_Repeat_api_Expo_eq (x0 : (List SExpo)) (x1 : Int) : runFn C_slices_Repeat_api_Expo 24 [.ro .expo, .int .i64] [.buf .expo] (x0, x1) = F_slices_Repeat_api_Expo x0 x1 := by kernel_rfl
def spec_slices_Repeat_api_Expo : FnSpec := mkSpec [.ro .expo, .int .i64] [.buf .expo] true (fun x => F_slices_Repeat_api_Expo x.1 x.2)
theorem ok_slices_Repeat_api_Expo : FnOk PG 24 spec_slices_Repeat_api_Expo :=
  have K : CxR C_slices_Repeat_api_Expo := seatOk.cx (fun _ => rfl) (l := [(48, spec_math_bits_Mul)]) ⟨ok_math_bits_Mul, trivial⟩
  fn_entry K (lps_from (l := [(24, 508, Ls_slices_Repeat_api_Expo_508)]) rfl ⟨lp_entry (n := 900) (f := 24) K (by kernel_rfl) (by kernel_rfl) (by kernel_rfl) (by kernel_rfl) (by kernel_rfl) (fun p v r h => (L_slices_Repeat_api_Expo_508_eq v.1 v.2).trans h), trivial⟩) (by kernel_rfl) (fun x y h => (F_slices_Repeat_api_Expo_eq x.1 x.2).trans h) rfl rfl

def S_slices_Repeat_int64_508 : LSh := ⟨94, [], [(7, .mf 192)], [], [(8, .int .i64)], [], [(192, .i64)]⟩
@[reducible] def O_slices_Repeat_int64_508 : List LOut := [⟨.exit 0, [], [], [(192, .i64)]⟩]
def L_slices_Repeat_int64_508 (v0 : Int) (v1 : (List Int)) : Option ((Int × (List Int)) ⊕ (((List Int)))) := cnd (ilt v0 (len v1)) (cnd (band (ile 0 v0) (ile v0 (len v1))) (cnd (band (ile 0 v0) (ile v0 (len v1))) (some (Sum.inl (wr IntKind.i64 (iadd v0 (imin (len (ltake (ldrop v1 0) (itn v0))) (nti (itn (isub (len v1) v0))))), lcpy v1 (itn v0) (ltake (ltake (ldrop v1 0) (itn v0)) (itn (imin (len (ltake (ldrop v1 0) (itn v0))) (nti (itn (isub (len v1) v0))))))))) none) none) (some (Sum.inr v1))
def Ls_slices_Repeat_int64_508 : LSpec := S_slices_Repeat_int64_508.spec O_slices_Repeat_int64_508 [34, 35, 36, 37, 38, 39, 40, 41, 42, 43, 44, 45, 46, 8] (fun p v => L_slices_Repeat_int64_508 v.1 v.2)
def F_slices_Repeat_int64 (x0 : (List Int)) (x1 : Int) : Option ((List Int)) := cnd (ilt x1 0) none (obind (F_math_bits_Mul (wr IntKind.u64 (len x0)) (wr IntKind.u64 x1)) fun y0 ↦ cnd (bor (ilt 0 y0.fst) (ilt 9223372036854775807 y0.snd)) none (cnd (band (band (ile 0 (wr IntKind.i64 y0.snd)) (ile (wr IntKind.i64 y0.snd) (wr IntKind.i64 y0.snd))) (ile (wr IntKind.i64 y0.snd) 68719476736)) (obind (iterN (fun v ↦ L_slices_Repeat_int64_508 v.fst v.snd) LF (imin (len x0) (len (lrep Int (itn (wr IntKind.i64 y0.snd)))), lcpy (lrep Int (itn (wr IntKind.i64 y0.snd))) 0 (ltake x0 (itn (imin (len x0) (len (lrep Int (itn (wr IntKind.i64 y0.snd))))))))) fun y1 ↦ some y1) none))
noncomputable def C_slices_Repeat_int64 : Cx := { P := PG, ety := ety, fn := look [(48, spec_math_bits_Mul)], inl := memN [], lp := lookLp [(25, 508, Ls_slices_Repeat_int64_508)] }
theorem L_slices_Repeat_int64_508_eq (v0 : Int) (v1 : (List Int)) : runLp C_slices_Repeat_int64 900 25 508 (lpBody PG 25 508) S_slices_Repeat_int64_508 O_slices_Repeat_int64_508 () (v0, v1) = L_slices_Repeat_int64_508 v0 v1 := by kernel_rfl
theorem F_slices_Repeat_int64_eq (x0 : (List Int)) (x1 : Int) : runFn C_slices_Repeat_int64 25 [.ro .i64, .int .i64] [.buf .i64] (x0, x1) = F_slices_Repeat_int64 x0 x1 := by kernel_rfl
def spec_slices_Repeat_int64 : FnSpec := mkSpec [.ro .i64, .int .i64] [.buf .i64] true (fun x => F_slices_Repeat_int64 x.1 x.2)
theorem ok_slices_Repeat_int64 : FnOk PG 25 spec_slices_Repeat_int64 :=
  have K : CxR C_slices_Repeat_int64 := seatOk.cx (fun _ => rfl) (l := [(48, spec_math_bits_Mul)]) ⟨ok_math_bits_Mul, trivial⟩
  fn_entry K (lps_from (l := [(25, 508, Ls_slices_Repeat_int64_508)]) rfl ⟨lp_entry (n := 900) (f := 25) K (by kernel_rfl) (by kernel_rfl) (by kernel_rfl) (by kernel_rfl) (by kernel_rfl) (fun p v r h => (L_slices_Repeat_int64_508_eq v.1 v.2).trans h), trivial⟩) (by kernel_rfl) (fun x y h => (F_slices_Repeat_int64_eq x.1 x.2).trans h) rfl rfl

def F_book_ledger_sized (x0 : SState) : Option (Bool) := some (band (band (band (band (band (band (band (ile 1 x0.accounts) (ile x0.accounts 8)) (ile 1 x0.symbols)) (ile x0.symbols 8)) (ieq (len x0.cells) (wr IntKind.i64 (imul x0.accounts x0.symbols)))) (ieq (len x0.limits) (len x0.cells))) (ieq (len x0.caps) x0.accounts)) (ile (len x0.orders) 64))
noncomputable def C_book_ledger_sized : Cx := { P := PG, ety := ety, fn := look [], inl := memN [], lp := lookLp [] }
theorem F_book_ledger_sized_eq (x0 : SState) : runFn C_book_ledger_sized 49 [.val .state] [.bool] x0 = F_book_ledger_sized x0 := by kernel_rfl
def spec_book_ledger_sized : FnSpec := mkSpec [.val .state] [.bool] true (fun x => F_book_ledger_sized x)
theorem ok_book_ledger_sized : FnOk PG 49 spec_book_ledger_sized :=
  have K : CxR C_book_ledger_sized := seatOk.cx (fun _ => rfl) (l := []) trivial
  fn_entry K (lps_from (l := []) rfl trivial) (by kernel_rfl) (fun x y h => (F_book_ledger_sized_eq x).trans h) rfl rfl

def F_order_pending (x0 : SOrder) : Option (Bool) := some (bor (bnot (ieq x0.newQty 0)) (bnot (ieq x0.newPrice 0)))
noncomputable def C_order_pending : Cx := { P := PG, ety := ety, fn := look [], inl := memN [], lp := lookLp [] }
theorem F_order_pending_eq (x0 : SOrder) : runFn C_order_pending 74 [.val .order] [.bool] x0 = F_order_pending x0 := by kernel_rfl
def spec_order_pending : FnSpec := mkSpec [.val .order] [.bool] true (fun x => F_order_pending x)
theorem ok_order_pending : FnOk PG 74 spec_order_pending :=
  have K : CxR C_order_pending := seatOk.cx (fun _ => rfl) (l := []) trivial
  fn_entry K (lps_from (l := []) rfl trivial) (by kernel_rfl) (fun x y h => (F_order_pending_eq x).trans h) rfl rfl

def F_rec_fields (x0 : SRec) : Option (SRec) := cnd (ieq x0.kind 1) (some (SRec.mk x0.kind x0.order x0.account x0.symbol x0.side x0.qty x0.price 0 0 0 false 0 0)) (cnd (ieq x0.kind 2) (some (SRec.mk x0.kind x0.order 0 0 0 x0.qty x0.price 0 0 0 false 0 0)) (cnd (ieq x0.kind 3) (some (SRec.mk x0.kind x0.order 0 0 0 0 0 0 0 0 false 0 0)) (cnd (ieq x0.kind 4) (some (SRec.mk x0.kind 0 x0.account x0.symbol 0 0 0 x0.long x0.short x0.opn false 0 0)) (cnd (ieq x0.kind 5) (some (SRec.mk x0.kind 0 0 0 0 0 0 0 0 0 x0.on 0 0)) (cnd (ieq x0.kind 6) (some (SRec.mk x0.kind x0.order 0 0 0 x0.qty x0.price 0 0 0 false x0.seq x0.what)) (some (SRec.mk x0.kind 0 0 0 0 0 0 0 0 0 false 0 0)))))))
noncomputable def C_rec_fields : Cx := { P := PG, ety := ety, fn := look [], inl := memN [], lp := lookLp [] }
theorem F_rec_fields_eq (x0 : SRec) : runFn C_rec_fields 26 [.val .recd] [.val .recd] x0 = F_rec_fields x0 := by kernel_rfl
def spec_rec_fields : FnSpec := mkSpec [.val .recd] [.val .recd] true (fun x => F_rec_fields x)
theorem ok_rec_fields : FnOk PG 26 spec_rec_fields :=
  have K : CxR C_rec_fields := seatOk.cx (fun _ => rfl) (l := []) trivial
  fn_entry K (lps_from (l := []) rfl trivial) (by kernel_rfl) (fun x y h => (F_rec_fields_eq x).trans h) rfl rfl

def F_rec_known (x0 : Int) : Option (Bool) := some (band (ile 1 x0) (ile x0 1000000000000))
noncomputable def C_rec_known : Cx := { P := PG, ety := ety, fn := look [], inl := memN [], lp := lookLp [] }
theorem F_rec_known_eq (x0 : Int) : runFn C_rec_known 27 [.int .i64] [.bool] x0 = F_rec_known x0 := by kernel_rfl
def spec_rec_known : FnSpec := mkSpec [.int .i64] [.bool] true (fun x => F_rec_known x)
theorem ok_rec_known : FnOk PG 27 spec_rec_known :=
  have K : CxR C_rec_known := seatOk.cx (fun _ => rfl) (l := []) trivial
  fn_entry K (lps_from (l := []) rfl trivial) (by kernel_rfl) (fun x y h => (F_rec_known_eq x).trans h) rfl rfl

def F_rec_below (x0 : Int) (x1 : Int) : Option (Bool) := some (band (ile 0 x0) (ilt x0 x1))
noncomputable def C_rec_below : Cx := { P := PG, ety := ety, fn := look [], inl := memN [], lp := lookLp [] }
theorem F_rec_below_eq (x0 : Int) (x1 : Int) : runFn C_rec_below 28 [.int .i64, .int .i64] [.bool] (x0, x1) = F_rec_below x0 x1 := by kernel_rfl
def spec_rec_below : FnSpec := mkSpec [.int .i64, .int .i64] [.bool] true (fun x => F_rec_below x.1 x.2)
theorem ok_rec_below : FnOk PG 28 spec_rec_below :=
  have K : CxR C_rec_below := seatOk.cx (fun _ => rfl) (l := []) trivial
  fn_entry K (lps_from (l := []) rfl trivial) (by kernel_rfl) (fun x y h => (F_rec_below_eq x.1 x.2).trans h) rfl rfl

def F_rec_sized (x0 : SRec) : Option (Bool) := some (band (ile 1 x0.qty) (ile 1 x0.price))
noncomputable def C_rec_sized : Cx := { P := PG, ety := ety, fn := look [], inl := memN [], lp := lookLp [] }
theorem F_rec_sized_eq (x0 : SRec) : runFn C_rec_sized 29 [.val .recd] [.bool] x0 = F_rec_sized x0 := by kernel_rfl
def spec_rec_sized : FnSpec := mkSpec [.val .recd] [.bool] true (fun x => F_rec_sized x)
theorem ok_rec_sized : FnOk PG 29 spec_rec_sized :=
  have K : CxR C_rec_sized := seatOk.cx (fun _ => rfl) (l := []) trivial
  fn_entry K (lps_from (l := []) rfl trivial) (by kernel_rfl) (fun x y h => (F_rec_sized_eq x).trans h) rfl rfl

def F_rec_event (x0 : SRec) : Option (Bool) := obind (cnd (bnot (bor (ilt x0.seq 1) (ilt 1000000000 x0.seq))) (F_rec_known x0.order) (some false)) fun y0 ↦ cnd (bor (bor (ilt x0.seq 1) (ilt 1000000000 x0.seq)) (bnot y0)) (some false) (cnd (ieq x0.what 3) (some (band (ile 1 x0.qty) (ieq x0.price 0))) (cnd (ieq x0.what 5) (obind (F_rec_sized x0) fun y1 ↦ some y1) (cnd (ieq x0.what 1) (cnd (ieq x0.what 1) (some (band (ieq x0.qty 0) (ieq x0.price 0))) (some false)) (cnd (ieq x0.what 2) (cnd (ieq x0.what 2) (some (band (ieq x0.qty 0) (ieq x0.price 0))) (some false)) (cnd (ieq x0.what 4) (cnd (ieq x0.what 4) (some (band (ieq x0.qty 0) (ieq x0.price 0))) (some false)) (cnd (ieq x0.what 6) (some (band (ieq x0.qty 0) (ieq x0.price 0))) (some false)))))))
noncomputable def C_rec_event : Cx := { P := PG, ety := ety, fn := look [(27, spec_rec_known), (29, spec_rec_sized)], inl := memN [], lp := lookLp [] }
theorem F_rec_event_eq (x0 : SRec) : runFn C_rec_event 30 [.val .recd] [.bool] x0 = F_rec_event x0 := by kernel_rfl
def spec_rec_event : FnSpec := mkSpec [.val .recd] [.bool] true (fun x => F_rec_event x)
theorem ok_rec_event : FnOk PG 30 spec_rec_event :=
  have K : CxR C_rec_event := seatOk.cx (fun _ => rfl) (l := [(27, spec_rec_known), (29, spec_rec_sized)]) ⟨ok_rec_known, ok_rec_sized, trivial⟩
  fn_entry K (lps_from (l := []) rfl trivial) (by kernel_rfl) (fun x y h => (F_rec_event_eq x).trans h) rfl rfl

def F_rec_Right (x0 : SRec) : Option (Bool) := obind (F_rec_fields x0) fun y0 ↦ cnd (bnot (band (ieq x0.kind y0.kind) (band (ieq x0.order y0.order) (band (ieq x0.account y0.account) (band (ieq x0.symbol y0.symbol) (band (ieq x0.side y0.side) (band (ieq x0.qty y0.qty) (band (ieq x0.price y0.price) (band (ieq x0.long y0.long) (band (ieq x0.short y0.short) (band (ieq x0.opn y0.opn) (band (beq x0.on y0.on) (band (ieq x0.seq y0.seq) (ieq x0.what y0.what)))))))))))))) (some false) (cnd (ieq x0.kind 1) (obind (F_rec_known x0.order) fun y1 ↦ obind (cnd y1 (F_rec_below x0.account 8) (some false)) fun y2 ↦ obind (cnd (band y1 y2) (F_rec_below x0.symbol 8) (some false)) fun y3 ↦ obind (cnd (band (band (band y1 y2) y3) (bor (ieq x0.side 1) (ieq x0.side 2))) (F_rec_sized x0) (some false)) fun y4 ↦ some (band (band (band (band y1 y2) y3) (bor (ieq x0.side 1) (ieq x0.side 2))) y4)) (cnd (ieq x0.kind 2) (obind (F_rec_known x0.order) fun y5 ↦ obind (cnd y5 (F_rec_sized x0) (some false)) fun y6 ↦ some (band y5 y6)) (cnd (ieq x0.kind 3) (obind (F_rec_known x0.order) fun y7 ↦ some y7) (cnd (ieq x0.kind 4) (obind (F_rec_below x0.account 8) fun y8 ↦ obind (cnd (band y8 (bnot (band (band (ieq x0.symbol (-1)) (ieq x0.long 0)) (ieq x0.short 0)))) (F_rec_below x0.symbol 8) (some false)) fun y9 ↦ some (band (band y8 (bor (band (band (ieq x0.symbol (-1)) (ieq x0.long 0)) (ieq x0.short 0)) y9)) (ile 0 (imin (imin x0.long x0.short) x0.opn)))) (cnd (ieq x0.kind 5) (some true) (cnd (ieq x0.kind 6) (obind (F_rec_event x0) fun y10 ↦ some y10) (some false)))))))
noncomputable def C_rec_Right : Cx := { P := PG, ety := ety, fn := look [(26, spec_rec_fields), (27, spec_rec_known), (28, spec_rec_below), (29, spec_rec_sized), (30, spec_rec_event)], inl := memN [], lp := lookLp [] }
theorem F_rec_Right_eq (x0 : SRec) : runFn C_rec_Right 13 [.val .recd] [.bool] x0 = F_rec_Right x0 := by kernel_rfl
def spec_rec_Right : FnSpec := mkSpec [.val .recd] [.bool] true (fun x => F_rec_Right x)
theorem ok_rec_Right : FnOk PG 13 spec_rec_Right :=
  have K : CxR C_rec_Right := seatOk.cx (fun _ => rfl) (l := [(26, spec_rec_fields), (27, spec_rec_known), (28, spec_rec_below), (29, spec_rec_sized), (30, spec_rec_event)]) ⟨ok_rec_fields, ok_rec_known, ok_rec_below, ok_rec_sized, ok_rec_event, trivial⟩
  fn_entry K (lps_from (l := []) rfl trivial) (by kernel_rfl) (fun x y h => (F_rec_Right_eq x).trans h) rfl rfl

def F_order_begun (x0 : SOrder) : Option (Bool) := obind (F_rec_Right (SRec.mk 1 x0.id x0.account x0.symbol x0.side x0.qty x0.price 0 0 0 false 0 0)) fun y0 ↦ some y0
noncomputable def C_order_begun : Cx := { P := PG, ety := ety, fn := look [(13, spec_rec_Right)], inl := memN [], lp := lookLp [] }
theorem F_order_begun_eq (x0 : SOrder) : runFn C_order_begun 75 [.val .order] [.bool] x0 = F_order_begun x0 := by kernel_rfl
def spec_order_begun : FnSpec := mkSpec [.val .order] [.bool] true (fun x => F_order_begun x)
theorem ok_order_begun : FnOk PG 75 spec_order_begun :=
  have K : CxR C_order_begun := seatOk.cx (fun _ => rfl) (l := [(13, spec_rec_Right)]) ⟨ok_rec_Right, trivial⟩
  fn_entry K (lps_from (l := []) rfl trivial) (by kernel_rfl) (fun x y h => (F_order_begun_eq x).trans h) rfl rfl

def F_order_Right (x0 : SOrder) : Option (Bool) := obind (F_order_pending x0) fun y0 ↦ obind (F_order_begun x0) fun y1 ↦ cnd (bor (bor (bor (bor (bnot y1) (ilt x0.filled 0)) (ilt x0.qty x0.filled)) (ilt x0.version 0)) (band y0 (ilt (imin x0.newQty x0.newPrice) 1))) (some false) (cnd (ieq x0.phase 1) (some (band (band (ieq x0.filled 0) (ieq x0.version 0)) (bnot y0))) (cnd (ieq x0.phase 2) (some (ilt x0.filled x0.qty)) (cnd (ieq x0.phase 3) (some (bnot y0)) (some false))))
noncomputable def C_order_Right : Cx := { P := PG, ety := ety, fn := look [(74, spec_order_pending), (75, spec_order_begun)], inl := memN [], lp := lookLp [] }
theorem F_order_Right_eq (x0 : SOrder) : runFn C_order_Right 47 [.val .order] [.bool] x0 = F_order_Right x0 := by kernel_rfl
def spec_order_Right : FnSpec := mkSpec [.val .order] [.bool] true (fun x => F_order_Right x)
theorem ok_order_Right : FnOk PG 47 spec_order_Right :=
  have K : CxR C_order_Right := seatOk.cx (fun _ => rfl) (l := [(74, spec_order_pending), (75, spec_order_begun)]) ⟨ok_order_pending, ok_order_begun, trivial⟩
  fn_entry K (lps_from (l := []) rfl trivial) (by kernel_rfl) (fun x y h => (F_order_Right_eq x).trans h) rfl rfl

def F_limit_Right (x0 : SExpo) : Option (Bool) := some (ile 0 (imin (imin x0.long x0.short) x0.opn))
noncomputable def C_limit_Right : Cx := { P := PG, ety := ety, fn := look [], inl := memN [], lp := lookLp [] }
theorem F_limit_Right_eq (x0 : SExpo) : runFn C_limit_Right 79 [.val .expo] [.bool] x0 = F_limit_Right x0 := by kernel_rfl
def spec_limit_Right : FnSpec := mkSpec [.val .expo] [.bool] true (fun x => F_limit_Right x)
theorem ok_limit_Right : FnOk PG 79 spec_limit_Right :=
  have K : CxR C_limit_Right := seatOk.cx (fun _ => rfl) (l := []) trivial
  fn_entry K (lps_from (l := []) rfl trivial) (by kernel_rfl) (fun x y h => (F_limit_Right_eq x).trans h) rfl rfl

def S_slices_Min_int64_122 : LSh := ⟨74, [(0, .ro .i64)], [], [], [(4, .int .i64), (3, .int .i64)], [], []⟩
@[reducible] def O_slices_Min_int64_122 : List LOut := [⟨.exit 0, [(3, .int .i64)], [], []⟩]
def L_slices_Min_int64_122 (p0 : (List Int)) (v0 : Int) (v1 : Int) : Option ((Int × Int) ⊕ ((Int))) := cnd (ilt v0 (len p0)) (cnd (band (ile 0 v0) (ilt v0 (len p0))) (some (Sum.inl (wr IntKind.i64 (iadd v0 1), imin v1 (lget p0 (itn v0))))) none) (some (Sum.inr v1))
def Ls_slices_Min_int64_122 : LSpec := S_slices_Min_int64_122.spec O_slices_Min_int64_122 [12, 13, 14, 15, 18, 19, 20, 21, 22, 23, 3, 16, 17, 4] (fun p v => L_slices_Min_int64_122 p v.1 v.2)
def F_slices_Min_int64 (x0 : (List Int)) : Option (Int) := cnd (ilt (len x0) 1) none (cnd (ilt 0 (len x0)) (obind (iterN (fun v ↦ L_slices_Min_int64_122 x0 v.fst v.snd) LF (1, lget x0 0)) fun y0 ↦ some y0) none)
noncomputable def C_slices_Min_int64 : Cx := { P := PG, ety := ety, fn := look [], inl := memN [], lp := lookLp [(81, 122, Ls_slices_Min_int64_122)] }
theorem L_slices_Min_int64_122_eq (p0 : (List Int)) (v0 : Int) (v1 : Int) : runLp C_slices_Min_int64 900 81 122 (lpBody PG 81 122) S_slices_Min_int64_122 O_slices_Min_int64_122 p0 (v0, v1) = L_slices_Min_int64_122 p0 v0 v1 := by kernel_rfl
theorem F_slices_Min_int64_eq (x0 : (List Int)) : runFn C_slices_Min_int64 81 [.ro .i64] [.int .i64] x0 = F_slices_Min_int64 x0 := by kernel_rfl
def spec_slices_Min_int64 : FnSpec := mkSpec [.ro .i64] [.int .i64] true (fun x => F_slices_Min_int64 x)
theorem ok_slices_Min_int64 : FnOk PG 81 spec_slices_Min_int64 :=
  have K : CxR C_slices_Min_int64 := seatOk.cx (fun _ => rfl) (l := []) trivial
  fn_entry K (lps_from (l := [(81, 122, Ls_slices_Min_int64_122)]) rfl ⟨lp_entry (n := 900) (f := 81) K (by kernel_rfl) (by kernel_rfl) (by kernel_rfl) (by kernel_rfl) (by kernel_rfl) (fun p v r h => (L_slices_Min_int64_122_eq p v.1 v.2).trans h), trivial⟩) (by kernel_rfl) (fun x y h => (F_slices_Min_int64_eq x).trans h) rfl rfl

def S_book_ledger_fine_58 : LSh := ⟨73, [(10, .int .i64), (9, .ro .order)], [(1, .mp 8 0)], [(8, [.val .state])], [(11, .int .i64), (3, .int .i64), (2, .bool)], [], []⟩
@[reducible] def O_book_ledger_fine_58 : List LOut := [⟨.ret, [(2, .bool)], [], []⟩, ⟨.exit 0, [(3, .int .i64), (2, .bool)], [], []⟩]
def L_book_ledger_fine_58 (p0 : Int) (p1 : (List SOrder)) (p2 : SState) (v0 : Int) (v1 : Int) (v2 : Bool) : Option ((Int × Int × Bool) ⊕ ((Bool) ⊕ ((Int × Bool)))) := cnd (ilt v0 p0) (cnd (band (ile 0 v0) (ilt v0 (len p1))) (obind (F_order_Right (lget p1 (itn v0))) fun y0 ↦ cnd (bor (bor (bor (bor (bnot y0) (ieq (lget p1 (itn v0)).phase 3)) (ile p2.accounts (lget p1 (itn v0)).account)) (ile p2.symbols (lget p1 (itn v0)).symbol)) (ile (lget p1 (itn v0)).id v1)) (some (Sum.inr (Sum.inl false))) (some (Sum.inl (wr IntKind.i64 (iadd v0 1), (lget p1 (itn v0)).id, v2)))) none) (some (Sum.inr (Sum.inr (v1, v2))))
def Ls_book_ledger_fine_58 : LSpec := S_book_ledger_fine_58.spec O_book_ledger_fine_58 [12, 13, 14, 5, 15, 16, 17, 18, 19, 20, 21, 22, 23, 24, 25, 26, 27, 28, 29, 30, 31, 32, 33, 34, 35, 36, 37, 38, 39, 40, 41, 42, 43, 44, 2, 45, 46, 3, 47, 11] (fun p v => L_book_ledger_fine_58 p.1 p.2.1 p.2.2 v.1 v.2.1 v.2.2)
def S_book_ledger_fine_26_slices_IndexFunc_api_Expo_c136_c142 : LSh := ⟨210, [(7, .int .i64), (0, .ro .expo)], [(1, .fn 78 [])], [], [(8, .int .i64), (4, .int .i64)], [], []⟩
@[reducible] def O_book_ledger_fine_26_slices_IndexFunc_api_Expo_c136_c142 : List LOut := [⟨.ret, [(4, .int .i64)], [], []⟩, ⟨.exit 0, [(4, .int .i64)], [], []⟩]
def L_book_ledger_fine_26_slices_IndexFunc_api_Expo_c136_c142 (p0 : Int) (p1 : (List SExpo)) (v0 : Int) (v1 : Int) : Option ((Int × Int) ⊕ ((Int) ⊕ ((Int)))) := cnd (ilt v0 p0) (cnd (band (ile 0 v0) (ilt v0 (len p1))) (obind (F_limit_Right (lget p1 (itn v0))) fun y0 ↦ cnd (bnot y0) (some (Sum.inr (Sum.inl v0))) (some (Sum.inl (wr IntKind.i64 (iadd v0 1), v1)))) none) (some (Sum.inr (Sum.inr v1)))
def Ls_book_ledger_fine_26_slices_IndexFunc_api_Expo_c136_c142 : LSpec := S_book_ledger_fine_26_slices_IndexFunc_api_Expo_c136_c142.spec O_book_ledger_fine_26_slices_IndexFunc_api_Expo_c136_c142 [9, 10, 5, 11, 12, 13, 14, 15, 16, 17, 4, 18, 8] (fun p v => L_book_ledger_fine_26_slices_IndexFunc_api_Expo_c136_c142 p.1 p.2 v.1 v.2)
def F_book_ledger_fine (x0 : SState) : Option (Bool) := obind (iterN (fun v ↦ L_book_ledger_fine_58 (len x0.orders) x0.orders x0 v.fst v.snd.fst v.snd.snd) LF (0, 0, false)) fun y0 ↦ sumK y0 (fun y1 ↦ some y1) fun y1 ↦ cnd (band (band (band (band (band (ile y1.fst x0.last) (ile x0.last 1000000000000)) (ile 0 x0.seq)) (ile x0.seq 1000000000)) (ile 0 x0.lsn)) (ile x0.lsn 1000000000)) (obind (iterN (fun v ↦ L_book_ledger_fine_26_slices_IndexFunc_api_Expo_c136_c142 (len x0.limits) x0.limits v.fst v.snd) LF (0, 0)) fun y2 ↦ sumK y2 (fun y3 ↦ obind (cnd (band (band (band (band (band (band (ile y1.fst x0.last) (ile x0.last 1000000000000)) (ile 0 x0.seq)) (ile x0.seq 1000000000)) (ile 0 x0.lsn)) (ile x0.lsn 1000000000)) (bnot (ile 0 y3))) (F_slices_Min_int64 x0.caps) (some 0)) fun y4 ↦ some (band (band (band (band (band (band (band (band (ile y1.fst x0.last) (ile x0.last 1000000000000)) (ile 0 x0.seq)) (ile x0.seq 1000000000)) (ile 0 x0.lsn)) (ile x0.lsn 1000000000)) (bnot (ile 0 y3))) (ile 0 y4)) (ile 0 x0.last))) fun y3 ↦ obind (cnd (bor (band (band (band (band (band (ile y1.fst x0.last) (ile x0.last 1000000000000)) (ile 0 x0.seq)) (ile x0.seq 1000000000)) (ile 0 x0.lsn)) (ile x0.lsn 1000000000)) false) (F_slices_Min_int64 x0.caps) (some 0)) fun y5 ↦ some (band (band (bor (band (band (band (band (band (ile y1.fst x0.last) (ile x0.last 1000000000000)) (ile 0 x0.seq)) (ile x0.seq 1000000000)) (ile 0 x0.lsn)) (ile x0.lsn 1000000000)) false) (ile 0 y5)) (ile 0 x0.last))) (obind (cnd (bor (band (band (band (band (band (ile y1.fst x0.last) (ile x0.last 1000000000000)) (ile 0 x0.seq)) (ile x0.seq 1000000000)) (ile 0 x0.lsn)) (ile x0.lsn 1000000000)) false) (F_slices_Min_int64 x0.caps) (some 0)) fun y6 ↦ some (band (band (bor (band (band (band (band (band (ile y1.fst x0.last) (ile x0.last 1000000000000)) (ile 0 x0.seq)) (ile x0.seq 1000000000)) (ile 0 x0.lsn)) (ile x0.lsn 1000000000)) false) (ile 0 y6)) (ile 0 x0.last)))
noncomputable def C_book_ledger_fine : Cx := { P := PG, ety := ety, fn := look [(47, spec_order_Right), (79, spec_limit_Right), (81, spec_slices_Min_int64)], inl := memN [78, 80, 92], lp := lookLp [(50, 58, Ls_book_ledger_fine_58), (922339596566377586780, 26, Ls_book_ledger_fine_26_slices_IndexFunc_api_Expo_c136_c142)] }
theorem L_book_ledger_fine_58_eq (p0 : Int) (p1 : (List SOrder)) (p2 : SState) (v0 : Int) (v1 : Int) (v2 : Bool) : runLp C_book_ledger_fine 900 50 58 (lpBody PG 50 58) S_book_ledger_fine_58 O_book_ledger_fine_58 (p0, p1, p2) (v0, v1, v2) = L_book_ledger_fine_58 p0 p1 p2 v0 v1 v2 := by kernel_rfl
theorem L_book_ledger_fine_26_slices_IndexFunc_api_Expo_c136_c142_eq (p0 : Int) (p1 : (List SExpo)) (v0 : Int) (v1 : Int) : runLp C_book_ledger_fine 900 922339596566377586780 26 (lpBody PG 92 26) S_book_ledger_fine_26_slices_IndexFunc_api_Expo_c136_c142 O_book_ledger_fine_26_slices_IndexFunc_api_Expo_c136_c142 (p0, p1) (v0, v1) = L_book_ledger_fine_26_slices_IndexFunc_api_Expo_c136_c142 p0 p1 v0 v1 := by kernel_rfl
theorem F_book_ledger_fine_eq (x0 : SState) : runFn C_book_ledger_fine 50 [.val .state] [.bool] x0 = F_book_ledger_fine x0 := by kernel_rfl
def spec_book_ledger_fine : FnSpec := mkSpec [.val .state] [.bool] true (fun x => F_book_ledger_fine x)
theorem ok_book_ledger_fine : FnOk PG 50 spec_book_ledger_fine :=
  have K : CxR C_book_ledger_fine := seatOk.cx (fun _ => rfl) (l := [(47, spec_order_Right), (79, spec_limit_Right), (81, spec_slices_Min_int64)]) ⟨ok_order_Right, ok_limit_Right, ok_slices_Min_int64, trivial⟩
  fn_entry K (lps_from (l := [(50, 58, Ls_book_ledger_fine_58), (922339596566377586780, 26, Ls_book_ledger_fine_26_slices_IndexFunc_api_Expo_c136_c142)]) rfl ⟨lp_entry (n := 900) (f := 50) K (by kernel_rfl) (by kernel_rfl) (by kernel_rfl) (by kernel_rfl) (by kernel_rfl) (fun p v r h => (L_book_ledger_fine_58_eq p.1 p.2.1 p.2.2 v.1 v.2.1 v.2.2).trans h),
    lp_entry (n := 900) (f := 92) K (by kernel_rfl) (by kernel_rfl) (by kernel_rfl) (by kernel_rfl) (by kernel_rfl) (fun p v r h => (L_book_ledger_fine_26_slices_IndexFunc_api_Expo_c136_c142_eq p.1 p.2 v.1 v.2).trans h), trivial⟩) (by kernel_rfl) (fun x y h => (F_book_ledger_fine_eq x).trans h) rfl rfl

def F_book_ledger_cellOf (x0 : SState) (x1 : Int) (x2 : Int) : Option (Int) := some (wr IntKind.i64 (iadd (wr IntKind.i64 (imul x1 x0.symbols)) x2))
noncomputable def C_book_ledger_cellOf : Cx := { P := PG, ety := ety, fn := look [], inl := memN [], lp := lookLp [] }
theorem F_book_ledger_cellOf_eq (x0 : SState) (x1 : Int) (x2 : Int) : runFn C_book_ledger_cellOf 64 [.val .state, .int .i64, .int .i64] [.int .i64] (x0, x1, x2) = F_book_ledger_cellOf x0 x1 x2 := by kernel_rfl
def spec_book_ledger_cellOf : FnSpec := mkSpec [.val .state, .int .i64, .int .i64] [.int .i64] true (fun x => F_book_ledger_cellOf x.1 x.2.1 x.2.2)
theorem ok_book_ledger_cellOf : FnOk PG 64 spec_book_ledger_cellOf :=
  have K : CxR C_book_ledger_cellOf := seatOk.cx (fun _ => rfl) (l := []) trivial
  fn_entry K (lps_from (l := []) rfl trivial) (by kernel_rfl) (fun x y h => (F_book_ledger_cellOf_eq x.1 x.2.1 x.2.2).trans h) rfl rfl

def F_num_Add (x0 : Int) (x1 : Int) : Option (Int × Int) := cnd (band (bnot (beq (ilt x0 (wr IntKind.i64 (iadd x0 x1))) (ilt 0 x1))) (bnot (ieq x1 0))) (some (0, 3)) (some (wr IntKind.i64 (iadd x0 x1), 0))
noncomputable def C_num_Add : Cx := { P := PG, ety := ety, fn := look [], inl := memN [], lp := lookLp [] }
theorem F_num_Add_eq (x0 : Int) (x1 : Int) : runFn C_num_Add 37 [.int .i64, .int .i64] [.int .i64, .int .i64] (x0, x1) = F_num_Add x0 x1 := by kernel_rfl
def spec_num_Add : FnSpec := mkSpec [.int .i64, .int .i64] [.int .i64, .int .i64] true (fun x => F_num_Add x.1 x.2)
theorem ok_num_Add : FnOk PG 37 spec_num_Add :=
  have K : CxR C_num_Add := seatOk.cx (fun _ => rfl) (l := []) trivial
  fn_entry K (lps_from (l := []) rfl trivial) (by kernel_rfl) (fun x y h => (F_num_Add_eq x.1 x.2).trans h) rfl rfl

def F_num_Sub (x0 : Int) (x1 : Int) : Option (Int × Int) := cnd (band (bnot (beq (ilt (wr IntKind.i64 (isub x0 x1)) x0) (ilt 0 x1))) (bnot (ieq x1 0))) (some (0, 3)) (some (wr IntKind.i64 (isub x0 x1), 0))
noncomputable def C_num_Sub : Cx := { P := PG, ety := ety, fn := look [], inl := memN [], lp := lookLp [] }
theorem F_num_Sub_eq (x0 : Int) (x1 : Int) : runFn C_num_Sub 89 [.int .i64, .int .i64] [.int .i64, .int .i64] (x0, x1) = F_num_Sub x0 x1 := by kernel_rfl
def spec_num_Sub : FnSpec := mkSpec [.int .i64, .int .i64] [.int .i64, .int .i64] true (fun x => F_num_Sub x.1 x.2)
theorem ok_num_Sub : FnOk PG 89 spec_num_Sub :=
  have K : CxR C_num_Sub := seatOk.cx (fun _ => rfl) (l := []) trivial
  fn_entry K (lps_from (l := []) rfl trivial) (by kernel_rfl) (fun x y h => (F_num_Sub_eq x.1 x.2).trans h) rfl rfl

def F_cell_expo (x0 : SCell) : Option (SExpo × Bool) := obind (F_num_Add x0.pos x0.buy) fun y0 ↦ obind (F_num_Sub x0.sell x0.pos) fun y1 ↦ some (SExpo.mk y0.fst y1.fst x0.opn, band (ieq y0.snd 0) (ieq y1.snd 0))
noncomputable def C_cell_expo : Cx := { P := PG, ety := ety, fn := look [(37, spec_num_Add), (89, spec_num_Sub)], inl := memN [], lp := lookLp [] }
theorem F_cell_expo_eq (x0 : SCell) : runFn C_cell_expo 82 [.val .cell] [.val .expo, .bool] x0 = F_cell_expo x0 := by kernel_rfl
def spec_cell_expo : FnSpec := mkSpec [.val .cell] [.val .expo, .bool] true (fun x => F_cell_expo x)
theorem ok_cell_expo : FnOk PG 82 spec_cell_expo :=
  have K : CxR C_cell_expo := seatOk.cx (fun _ => rfl) (l := [(37, spec_num_Add), (89, spec_num_Sub)]) ⟨ok_num_Add, ok_num_Sub, trivial⟩
  fn_entry K (lps_from (l := []) rfl trivial) (by kernel_rfl) (fun x y h => (F_cell_expo_eq x).trans h) rfl rfl

def F_cell_Right (x0 : SCell) : Option (Bool) := obind (F_cell_expo x0) fun y0 ↦ some (band y0.snd (ile 0 (imin (imin x0.buy x0.sell) x0.opn)))
noncomputable def C_cell_Right : Cx := { P := PG, ety := ety, fn := look [(82, spec_cell_expo)], inl := memN [], lp := lookLp [] }
theorem F_cell_Right_eq (x0 : SCell) : runFn C_cell_Right 52 [.val .cell] [.bool] x0 = F_cell_Right x0 := by kernel_rfl
def spec_cell_Right : FnSpec := mkSpec [.val .cell] [.bool] true (fun x => F_cell_Right x)
theorem ok_cell_Right : FnOk PG 52 spec_cell_Right :=
  have K : CxR C_cell_Right := seatOk.cx (fun _ => rfl) (l := [(82, spec_cell_expo)]) ⟨ok_cell_expo, trivial⟩
  fn_entry K (lps_from (l := []) rfl trivial) (by kernel_rfl) (fun x y h => (F_cell_Right_eq x).trans h) rfl rfl

def F_num_size (x0 : Int) : Option (Int) := cnd (ilt x0 0) (some (wr IntKind.u64 (isub 0 (wr IntKind.u64 x0)))) (some (wr IntKind.u64 x0))
noncomputable def C_num_size : Cx := { P := PG, ety := ety, fn := look [], inl := memN [], lp := lookLp [] }
theorem F_num_size_eq (x0 : Int) : runFn C_num_size 101 [.int .i64] [.int .u64] x0 = F_num_size x0 := by kernel_rfl
def spec_num_size : FnSpec := mkSpec [.int .i64] [.int .u64] true (fun x => F_num_size x)
theorem ok_num_size : FnOk PG 101 spec_num_size :=
  have K : CxR C_num_size := seatOk.cx (fun _ => rfl) (l := []) trivial
  fn_entry K (lps_from (l := []) rfl trivial) (by kernel_rfl) (fun x y h => (F_num_size_eq x).trans h) rfl rfl

def F_num_Mul (x0 : Int) (x1 : Int) : Option (Int × Int) := obind (F_num_size x0) fun y0 ↦ obind (F_num_size x1) fun y1 ↦ obind (F_math_bits_Mul64 y0 y1) fun y2 ↦ cnd (band (band (ieq y2.fst 0) (bnot (beq (ilt x0 0) (ilt x1 0)))) (ile y2.snd 9223372036854775808)) (some (wr IntKind.i64 (wr IntKind.u64 (isub 0 y2.snd)), 0)) (cnd (band (ieq y2.fst 0) (ile y2.snd 9223372036854775807)) (some (wr IntKind.i64 y2.snd, 0)) (some (0, 3)))
noncomputable def C_num_Mul : Cx := { P := PG, ety := ety, fn := look [(101, spec_num_size), (77, spec_math_bits_Mul64)], inl := memN [], lp := lookLp [] }
theorem F_num_Mul_eq (x0 : Int) (x1 : Int) : runFn C_num_Mul 99 [.int .i64, .int .i64] [.int .i64, .int .i64] (x0, x1) = F_num_Mul x0 x1 := by kernel_rfl
def spec_num_Mul : FnSpec := mkSpec [.int .i64, .int .i64] [.int .i64, .int .i64] true (fun x => F_num_Mul x.1 x.2)
theorem ok_num_Mul : FnOk PG 99 spec_num_Mul :=
  have K : CxR C_num_Mul := seatOk.cx (fun _ => rfl) (l := [(101, spec_num_size), (77, spec_math_bits_Mul64)]) ⟨ok_num_size, ok_math_bits_Mul64, trivial⟩
  fn_entry K (lps_from (l := []) rfl trivial) (by kernel_rfl) (fun x y h => (F_num_Mul_eq x.1 x.2).trans h) rfl rfl

def F_num_Max (x0 : Int) (x1 : Int) : Option (Int) := some (imax x0 x1)
noncomputable def C_num_Max : Cx := { P := PG, ety := ety, fn := look [], inl := memN [], lp := lookLp [] }
theorem F_num_Max_eq (x0 : Int) (x1 : Int) : runFn C_num_Max 100 [.int .i64, .int .i64] [.int .i64] (x0, x1) = F_num_Max x0 x1 := by kernel_rfl
def spec_num_Max : FnSpec := mkSpec [.int .i64, .int .i64] [.int .i64] true (fun x => F_num_Max x.1 x.2)
theorem ok_num_Max : FnOk PG 100 spec_num_Max :=
  have K : CxR C_num_Max := seatOk.cx (fun _ => rfl) (l := []) trivial
  fn_entry K (lps_from (l := []) rfl trivial) (by kernel_rfl) (fun x y h => (F_num_Max_eq x.1 x.2).trans h) rfl rfl

def F_order_Worth (x0 : SOrder) : Option (Int × Int) := obind (F_order_Right x0) fun y0 ↦ cnd (bnot y0) (some (0, 1)) (cnd (ieq x0.phase 3) (some (0, 0)) (obind (F_num_Mul (wr IntKind.i64 (isub x0.qty x0.filled)) x0.price) fun y1 ↦ cnd (bor (bnot (ieq y1.snd 0)) (ile x0.newQty x0.filled)) (some y1) (obind (F_num_Mul (wr IntKind.i64 (isub x0.newQty x0.filled)) x0.newPrice) fun y2 ↦ cnd (bnot (ieq y2.snd 0)) (some (0, y2.snd)) (obind (F_num_Max y1.fst y2.fst) fun y3 ↦ some (y3, 0)))))
noncomputable def C_order_Worth : Cx := { P := PG, ety := ety, fn := look [(47, spec_order_Right), (99, spec_num_Mul), (100, spec_num_Max)], inl := memN [], lp := lookLp [] }
theorem F_order_Worth_eq (x0 : SOrder) : runFn C_order_Worth 94 [.val .order] [.int .i64, .int .i64] x0 = F_order_Worth x0 := by kernel_rfl
def spec_order_Worth : FnSpec := mkSpec [.val .order] [.int .i64, .int .i64] true (fun x => F_order_Worth x)
theorem ok_order_Worth : FnOk PG 94 spec_order_Worth :=
  have K : CxR C_order_Worth := seatOk.cx (fun _ => rfl) (l := [(47, spec_order_Right), (99, spec_num_Mul), (100, spec_num_Max)]) ⟨ok_order_Right, ok_num_Mul, ok_num_Max, trivial⟩
  fn_entry K (lps_from (l := []) rfl trivial) (by kernel_rfl) (fun x y h => (F_order_Worth_eq x).trans h) rfl rfl

def F_order_Open (x0 : SOrder) : Option (Int) := obind (F_order_Right x0) fun y0 ↦ cnd (bor (bnot y0) (ieq x0.phase 3)) (some 0) (obind (F_num_Max x0.qty x0.newQty) fun y1 ↦ some (wr IntKind.i64 (isub y1 x0.filled)))
noncomputable def C_order_Open : Cx := { P := PG, ety := ety, fn := look [(47, spec_order_Right), (100, spec_num_Max)], inl := memN [], lp := lookLp [] }
theorem F_order_Open_eq (x0 : SOrder) : runFn C_order_Open 95 [.val .order] [.int .i64] x0 = F_order_Open x0 := by kernel_rfl
def spec_order_Open : FnSpec := mkSpec [.val .order] [.int .i64] true (fun x => F_order_Open x)
theorem ok_order_Open : FnOk PG 95 spec_order_Open :=
  have K : CxR C_order_Open := seatOk.cx (fun _ => rfl) (l := [(47, spec_order_Right), (100, spec_num_Max)]) ⟨ok_order_Right, ok_num_Max, trivial⟩
  fn_entry K (lps_from (l := []) rfl trivial) (by kernel_rfl) (fun x y h => (F_order_Open_eq x).trans h) rfl rfl

def F_cell_Come (x0 : SCell) (x1 : SOrder) : Option (SCell × Int) := obind (F_cell_Right x0) fun y0 ↦ obind (cnd (bnot (bnot y0)) (F_order_Right x1) (some false)) fun y1 ↦ cnd (bor (bnot y0) (bnot y1)) (some (x0, 1)) (obind (F_order_Worth x1) fun y2 ↦ cnd (ieq x1.side 2) (obind (F_order_Open x1) fun y3 ↦ obind (F_num_Add x0.sell y3) fun y4 ↦ obind (F_num_Add x0.opn y2.fst) fun y5 ↦ obind (cnd (bnot (bor (bor (bnot (ieq y2.snd 0)) (bnot (ieq y4.snd 0))) (bnot (ieq y5.snd 0)))) (F_cell_Right (SCell.mk x0.pos x0.buy y4.fst y5.fst)) (some false)) fun y6 ↦ cnd (bor (bor (bor (bnot (ieq y2.snd 0)) (bnot (ieq y4.snd 0))) (bnot (ieq y5.snd 0))) (bnot y6)) (some (x0, 3)) (some (SCell.mk x0.pos x0.buy y4.fst y5.fst, 0))) (obind (F_order_Open x1) fun y7 ↦ obind (F_num_Add x0.buy y7) fun y8 ↦ obind (F_num_Add x0.opn y2.fst) fun y9 ↦ obind (cnd (bnot (bor (bor (bnot (ieq y2.snd 0)) (bnot (ieq y8.snd 0))) (bnot (ieq y9.snd 0)))) (F_cell_Right (SCell.mk x0.pos y8.fst x0.sell y9.fst)) (some false)) fun y10 ↦ cnd (bor (bor (bor (bnot (ieq y2.snd 0)) (bnot (ieq y8.snd 0))) (bnot (ieq y9.snd 0))) (bnot y10)) (some (x0, 3)) (some (SCell.mk x0.pos y8.fst x0.sell y9.fst, 0))))
noncomputable def C_cell_Come : Cx := { P := PG, ety := ety, fn := look [(52, spec_cell_Right), (47, spec_order_Right), (94, spec_order_Worth), (95, spec_order_Open), (37, spec_num_Add)], inl := memN [85], lp := lookLp [] }
theorem F_cell_Come_eq (x0 : SCell) (x1 : SOrder) : runFn C_cell_Come 65 [.val .cell, .val .order] [.val .cell, .int .i64] (x0, x1) = F_cell_Come x0 x1 := by kernel_rfl
def spec_cell_Come : FnSpec := mkSpec [.val .cell, .val .order] [.val .cell, .int .i64] true (fun x => F_cell_Come x.1 x.2)
theorem ok_cell_Come : FnOk PG 65 spec_cell_Come :=
  have K : CxR C_cell_Come := seatOk.cx (fun _ => rfl) (l := [(52, spec_cell_Right), (47, spec_order_Right), (94, spec_order_Worth), (95, spec_order_Open), (37, spec_num_Add)]) ⟨ok_cell_Right, ok_order_Right, ok_order_Worth, ok_order_Open, ok_num_Add, trivial⟩
  fn_entry K (lps_from (l := []) rfl trivial) (by kernel_rfl) (fun x y h => (F_cell_Come_eq x.1 x.2).trans h) rfl rfl

def S_book_ledger_summed_58 : LSh := ⟨79, [(18, .int .i64), (17, .ro .order)], [(4, .mf 64), (1, .mp 8 0)], [(8, [.val .state])], [(19, .int .i64), (3, .bool), (2, .buf .cell)], [], [(64, .cell)]⟩
@[reducible] def O_book_ledger_summed_58 : List LOut := [⟨.ret, [(3, .bool), (2, .buf .cell)], [], [(64, .cell)]⟩, ⟨.exit 0, [(3, .bool), (2, .buf .cell)], [], [(64, .cell)]⟩]
def L_book_ledger_summed_58 (p0 : Int) (p1 : (List SOrder)) (p2 : SState) (v0 : Int) (v1 : Bool) (v2 : (List SCell)) (v3 : (List SCell)) : Option ((Int × Bool × (List SCell) × (List SCell)) ⊕ ((Bool × (List SCell) × (List SCell)) ⊕ ((Bool × (List SCell) × (List SCell))))) := cnd (ilt v0 p0) (cnd (band (ile 0 v0) (ilt v0 (len p1))) (obind (F_book_ledger_cellOf p2 (lget p1 (itn v0)).account (lget p1 (itn v0)).symbol) fun y0 ↦ cnd (band (ile 0 y0) (ilt y0 (len v3))) (obind (F_cell_Come (lget v3 (itn y0)) (lget p1 (itn v0))) fun y1 ↦ cnd (bnot (ieq y1.snd 0)) (some (Sum.inr (Sum.inl (false, [], v3)))) (cnd (band (ile 0 y0) (ilt y0 (len v3))) (some (Sum.inl (wr IntKind.i64 (iadd v0 1), v1, v2, lset v3 (itn y0) y1.fst))) none)) none) none) (some (Sum.inr (Sum.inr (v1, v2, v3))))
def Ls_book_ledger_summed_58 : LSpec := S_book_ledger_summed_58.spec O_book_ledger_summed_58 [20, 21, 22, 6, 23, 24, 25, 26, 27, 28, 7, 30, 31, 32, 33, 34, 35, 29, 36, 37, 8, 9, 38, 39, 2, 3, 40, 41, 42, 43, 44, 19] (fun p v => L_book_ledger_summed_58 p.1 p.2.1 p.2.2 v.1 v.2.1 v.2.2.1 v.2.2.2)
def F_book_ledger_summed (x0 : SState) : Option ((List SCell) × Bool) := cnd (band (band (ile 0 (len x0.cells)) (ile (len x0.cells) (len x0.cells))) (ile (len x0.cells) 68719476736)) (obind (iterN (fun v ↦ L_book_ledger_summed_58 (len x0.orders) x0.orders x0 v.fst v.snd.fst v.snd.snd.fst v.snd.snd.snd) LF (0, false, [], lrep SCell (itn (len x0.cells)))) fun y0 ↦ sumK y0 (fun y1 ↦ some (y1.snd.fst, y1.fst)) fun y1 ↦ some (y1.snd.snd, true)) none
noncomputable def C_book_ledger_summed : Cx := { P := PG, ety := ety, fn := look [(64, spec_book_ledger_cellOf), (65, spec_cell_Come)], inl := memN [], lp := lookLp [(51, 58, Ls_book_ledger_summed_58)] }
theorem L_book_ledger_summed_58_eq (p0 : Int) (p1 : (List SOrder)) (p2 : SState) (v0 : Int) (v1 : Bool) (v2 : (List SCell)) (v3 : (List SCell)) : runLp C_book_ledger_summed 900 51 58 (lpBody PG 51 58) S_book_ledger_summed_58 O_book_ledger_summed_58 (p0, p1, p2) (v0, v1, v2, v3) = L_book_ledger_summed_58 p0 p1 p2 v0 v1 v2 v3 := by kernel_rfl
theorem F_book_ledger_summed_eq (x0 : SState) : runFn C_book_ledger_summed 51 [.val .state] [.buf .cell, .bool] x0 = F_book_ledger_summed x0 := by kernel_rfl
def spec_book_ledger_summed : FnSpec := mkSpec [.val .state] [.buf .cell, .bool] true (fun x => F_book_ledger_summed x)
theorem ok_book_ledger_summed : FnOk PG 51 spec_book_ledger_summed :=
  have K : CxR C_book_ledger_summed := seatOk.cx (fun _ => rfl) (l := [(64, spec_book_ledger_cellOf), (65, spec_cell_Come)]) ⟨ok_book_ledger_cellOf, ok_cell_Come, trivial⟩
  fn_entry K (lps_from (l := [(51, 58, Ls_book_ledger_summed_58)]) rfl ⟨lp_entry (n := 900) (f := 51) K (by kernel_rfl) (by kernel_rfl) (by kernel_rfl) (by kernel_rfl) (by kernel_rfl) (fun p v r h => (L_book_ledger_summed_58_eq p.1 p.2.1 p.2.2 v.1 v.2.1 v.2.2.1 v.2.2.2).trans h), trivial⟩) (by kernel_rfl) (fun x y h => (F_book_ledger_summed_eq x).trans h) rfl rfl

def F_book_ledger_account (x0 : SState) (x1 : Int) : Option ((List SCell)) := cnd (band (band (ile 0 (wr IntKind.i64 (imul x1 x0.symbols))) (ile (wr IntKind.i64 (imul x1 x0.symbols)) (wr IntKind.i64 (imul (wr IntKind.i64 (iadd x1 1)) x0.symbols)))) (ile (wr IntKind.i64 (imul (wr IntKind.i64 (iadd x1 1)) x0.symbols)) (len x0.cells))) (some (ltake (ldrop x0.cells (itn (wr IntKind.i64 (imul x1 x0.symbols)))) (itn (isub (wr IntKind.i64 (imul (wr IntKind.i64 (iadd x1 1)) x0.symbols)) (wr IntKind.i64 (imul x1 x0.symbols)))))) none
noncomputable def C_book_ledger_account : Cx := { P := PG, ety := ety, fn := look [], inl := memN [], lp := lookLp [] }
theorem F_book_ledger_account_eq (x0 : SState) (x1 : Int) : runFn C_book_ledger_account 54 [.val .state, .int .i64] [.ro .cell] (x0, x1) = F_book_ledger_account x0 x1 := by kernel_rfl
def spec_book_ledger_account : FnSpec := mkSpec [.val .state, .int .i64] [.ro .cell] false (fun x => F_book_ledger_account x.1 x.2)
theorem ok_book_ledger_account : FnOk PG 54 spec_book_ledger_account :=
  have K : CxR C_book_ledger_account := seatOk.cx (fun _ => rfl) (l := []) trivial
  fn_entry K (lps_from (l := []) rfl trivial) (by kernel_rfl) (fun x y h => (F_book_ledger_account_eq x.1 x.2).trans h) rfl rfl

def S_num_Total_58 : LSh := ⟨71, [(10, .int .i64), (9, .ro .i64)], [], [], [(11, .int .i64), (4, .int .i64), (3, .int .i64), (2, .int .i64)], [], []⟩
@[reducible] def O_num_Total_58 : List LOut := [⟨.ret, [(3, .int .i64), (2, .int .i64)], [], []⟩, ⟨.exit 0, [(4, .int .i64), (3, .int .i64), (2, .int .i64)], [], []⟩]
def L_num_Total_58 (p0 : Int) (p1 : (List Int)) (v0 : Int) (v1 : Int) (v2 : Int) (v3 : Int) : Option ((Int × Int × Int × Int) ⊕ ((Int × Int) ⊕ ((Int × Int × Int)))) := cnd (ilt v0 p0) (cnd (band (ile 0 v0) (ilt v0 (len p1))) (obind (F_num_Add v1 (lget p1 (itn v0))) fun y0 ↦ cnd (bnot (ieq y0.snd 0)) (some (Sum.inr (Sum.inl (y0.snd, 0)))) (some (Sum.inl (wr IntKind.i64 (iadd v0 1), y0.fst, v2, v3)))) none) (some (Sum.inr (Sum.inr (v1, v2, v3))))
def Ls_num_Total_58 : LSpec := S_num_Total_58.spec O_num_Total_58 [12, 13, 14, 6, 16, 17, 18, 15, 19, 20, 7, 8, 21, 22, 23, 2, 3, 24, 4, 25, 11] (fun p v => L_num_Total_58 p.1 p.2 v.1 v.2.1 v.2.2.1 v.2.2.2)
def F_num_Total (x0 : (List Int)) : Option (Int × Int) := obind (iterN (fun v ↦ L_num_Total_58 (len x0) x0 v.fst v.snd.fst v.snd.snd.fst v.snd.snd.snd) LF (0, 0, 0, 0)) fun y0 ↦ sumK y0 (fun y1 ↦ some (y1.snd, y1.fst)) fun y1 ↦ some (y1.fst, 0)
noncomputable def C_num_Total : Cx := { P := PG, ety := ety, fn := look [(37, spec_num_Add)], inl := memN [], lp := lookLp [(83, 58, Ls_num_Total_58)] }
theorem L_num_Total_58_eq (p0 : Int) (p1 : (List Int)) (v0 : Int) (v1 : Int) (v2 : Int) (v3 : Int) : runLp C_num_Total 900 83 58 (lpBody PG 83 58) S_num_Total_58 O_num_Total_58 (p0, p1) (v0, v1, v2, v3) = L_num_Total_58 p0 p1 v0 v1 v2 v3 := by kernel_rfl
theorem F_num_Total_eq (x0 : (List Int)) : runFn C_num_Total 83 [.ro .i64] [.int .i64, .int .i64] x0 = F_num_Total x0 := by kernel_rfl
def spec_num_Total : FnSpec := mkSpec [.ro .i64] [.int .i64, .int .i64] true (fun x => F_num_Total x)
theorem ok_num_Total : FnOk PG 83 spec_num_Total :=
  have K : CxR C_num_Total := seatOk.cx (fun _ => rfl) (l := [(37, spec_num_Add)]) ⟨ok_num_Add, trivial⟩
  fn_entry K (lps_from (l := [(83, 58, Ls_num_Total_58)]) rfl ⟨lp_entry (n := 900) (f := 83) K (by kernel_rfl) (by kernel_rfl) (by kernel_rfl) (by kernel_rfl) (by kernel_rfl) (fun p v r h => (L_num_Total_58_eq p.1 p.2 v.1 v.2.1 v.2.2.1 v.2.2.2).trans h), trivial⟩) (by kernel_rfl) (fun x y h => (F_num_Total_eq x).trans h) rfl rfl

def S_limit_Whole_58 : LSh := ⟨71, [(8, .int .i64), (7, .ro .cell)], [], [], [(9, .int .i64), (4, .buf .i64)], [], []⟩
@[reducible] def O_limit_Whole_58 : List LOut := [⟨.exit 0, [(4, .buf .i64)], [], []⟩]
def L_limit_Whole_58 (p0 : Int) (p1 : (List SCell)) (v0 : Int) (v1 : (List Int)) : Option ((Int × (List Int)) ⊕ (((List Int)))) := cnd (ilt v0 p0) (cnd (band (ile 0 v0) (ilt v0 (len p1))) (cnd (ile (len (lapp v1 [(lget p1 (itn v0)).opn])) 68719476736) (some (Sum.inl (wr IntKind.i64 (iadd v0 1), lapp v1 [(lget p1 (itn v0)).opn]))) none) none) (some (Sum.inr v1))
def Ls_limit_Whole_58 : LSpec := S_limit_Whole_58.spec O_limit_Whole_58 [10, 11, 12, 6, 13, 14, 15, 16, 17, 4, 18, 9] (fun p v => L_limit_Whole_58 p.1 p.2 v.1 v.2)
def F_limit_Whole (x0 : (List SCell)) : Option (Int × Int) := obind (iterN (fun v ↦ L_limit_Whole_58 (len x0) x0 v.fst v.snd) LF (0, [])) fun y0 ↦ obind (F_num_Total y0) fun y1 ↦ some y1
noncomputable def C_limit_Whole : Cx := { P := PG, ety := ety, fn := look [(83, spec_num_Total)], inl := memN [], lp := lookLp [(53, 58, Ls_limit_Whole_58)] }
theorem L_limit_Whole_58_eq (p0 : Int) (p1 : (List SCell)) (v0 : Int) (v1 : (List Int)) : runLp C_limit_Whole 900 53 58 (lpBody PG 53 58) S_limit_Whole_58 O_limit_Whole_58 (p0, p1) (v0, v1) = L_limit_Whole_58 p0 p1 v0 v1 := by kernel_rfl
theorem F_limit_Whole_eq (x0 : (List SCell)) : runFn C_limit_Whole 53 [.ro .cell] [.int .i64, .int .i64] x0 = F_limit_Whole x0 := by kernel_rfl
def spec_limit_Whole : FnSpec := mkSpec [.ro .cell] [.int .i64, .int .i64] true (fun x => F_limit_Whole x)
theorem ok_limit_Whole : FnOk PG 53 spec_limit_Whole :=
  have K : CxR C_limit_Whole := seatOk.cx (fun _ => rfl) (l := [(83, spec_num_Total)]) ⟨ok_num_Total, trivial⟩
  fn_entry K (lps_from (l := [(53, 58, Ls_limit_Whole_58)]) rfl ⟨lp_entry (n := 900) (f := 53) K (by kernel_rfl) (by kernel_rfl) (by kernel_rfl) (by kernel_rfl) (by kernel_rfl) (fun p v r h => (L_limit_Whole_58_eq p.1 p.2 v.1 v.2).trans h), trivial⟩) (by kernel_rfl) (fun x y h => (F_limit_Whole_eq x).trans h) rfl rfl

def S_book_ledger_right_250 : LSh := ⟨89, [(28, .int .i64), (27, .ro .cell)], [(3, .mf 96)], [], [(29, .int .i64), (2, .bool)], [], [(96, .cell)]⟩
@[reducible] def O_book_ledger_right_250 : List LOut := [⟨.ret, [(2, .bool)], [], [(96, .cell)]⟩, ⟨.exit 0, [(2, .bool)], [], [(96, .cell)]⟩]
def L_book_ledger_right_250 (p0 : Int) (p1 : (List SCell)) (v0 : Int) (v1 : Bool) (v2 : (List SCell)) : Option ((Int × Bool × (List SCell)) ⊕ ((Bool × (List SCell)) ⊕ ((Bool × (List SCell))))) := cnd (ilt v0 p0) (cnd (band (ile 0 v0) (ilt v0 (len p1))) (cnd (band (ile 0 v0) (ilt v0 (len v2))) (obind (F_cell_Right (lget p1 (itn v0))) fun y0 ↦ cnd (bor (band (ile 0 v0) (ilt v0 (len (lset v2 (itn v0) (SCell.mk (lget p1 (itn v0)).pos (lget v2 (itn v0)).buy (lget v2 (itn v0)).sell (lget v2 (itn v0)).opn))))) (bnot (bnot (bnot y0)))) (cnd (bor (bnot y0) (bnot (band (ieq (lget (lset v2 (itn v0) (SCell.mk (lget p1 (itn v0)).pos (lget v2 (itn v0)).buy (lget v2 (itn v0)).sell (lget v2 (itn v0)).opn)) (itn v0)).pos (lget p1 (itn v0)).pos) (band (ieq (lget (lset v2 (itn v0) (SCell.mk (lget p1 (itn v0)).pos (lget v2 (itn v0)).buy (lget v2 (itn v0)).sell (lget v2 (itn v0)).opn)) (itn v0)).buy (lget p1 (itn v0)).buy) (band (ieq (lget (lset v2 (itn v0) (SCell.mk (lget p1 (itn v0)).pos (lget v2 (itn v0)).buy (lget v2 (itn v0)).sell (lget v2 (itn v0)).opn)) (itn v0)).sell (lget p1 (itn v0)).sell) (ieq (lget (lset v2 (itn v0) (SCell.mk (lget p1 (itn v0)).pos (lget v2 (itn v0)).buy (lget v2 (itn v0)).sell (lget v2 (itn v0)).opn)) (itn v0)).opn (lget p1 (itn v0)).opn)))))) (some (Sum.inr (Sum.inl (false, lset v2 (itn v0) (SCell.mk (lget p1 (itn v0)).pos (lget v2 (itn v0)).buy (lget v2 (itn v0)).sell (lget v2 (itn v0)).opn))))) (some (Sum.inl (wr IntKind.i64 (iadd v0 1), v1, lset v2 (itn v0) (SCell.mk (lget p1 (itn v0)).pos (lget v2 (itn v0)).buy (lget v2 (itn v0)).sell (lget v2 (itn v0)).opn))))) none) none) none) (some (Sum.inr (Sum.inr (v1, v2))))
def Ls_book_ledger_right_250 : LSpec := S_book_ledger_right_250.spec O_book_ledger_right_250 [30, 31, 32, 33, 6, 5, 34, 35, 36, 37, 38, 39, 40, 41, 42, 43, 44, 45, 46, 47, 48, 49, 50, 2, 51, 29] (fun p v => L_book_ledger_right_250 p.1 p.2 v.1 v.2.1 v.2.2)
def S_book_ledger_right_506 : LSh := ⟨162, [(54, .int .i64)], [(1, .mp 8 0)], [(8, [.val .state])], [(55, .int .i64), (2, .bool)], [], []⟩
@[reducible] def O_book_ledger_right_506 : List LOut := [⟨.ret, [(2, .bool)], [], []⟩, ⟨.exit 2, [(2, .bool)], [], []⟩]
def L_book_ledger_right_506 (p0 : Int) (p1 : SState) (v0 : Int) (v1 : Bool) : Option ((Int × Bool) ⊕ ((Bool) ⊕ ((Bool)))) := cnd (ilt v0 p0) (obind (F_book_ledger_account p1 v0) fun y0 ↦ obind (F_limit_Whole y0) fun y1 ↦ cnd (bnot (ieq y1.snd 0)) (some (Sum.inr (Sum.inl false))) (some (Sum.inl (wr IntKind.i64 (iadd v0 1), v1)))) (some (Sum.inr (Sum.inr v1)))
def Ls_book_ledger_right_506 : LSpec := S_book_ledger_right_506.spec O_book_ledger_right_506 [56, 57, 7, 59, 60, 61, 62, 58, 63, 64, 8, 9, 65, 66, 2, 67, 55] (fun p v => L_book_ledger_right_506 p.1 p.2 v.1 v.2)
def F_book_ledger_right (x0 : SState) : Option (Bool) := obind (F_book_ledger_sized x0) fun y0 ↦ obind (cnd (bnot (bnot y0)) (F_book_ledger_fine x0) (some false)) fun y1 ↦ cnd (bor (bnot y0) (bnot y1)) (some false) (obind (F_book_ledger_summed x0) fun y2 ↦ cnd (bnot y2.snd) (some false) (obind (iterN (fun v ↦ L_book_ledger_right_250 (len x0.cells) x0.cells v.fst v.snd.fst v.snd.snd) LF (0, false, y2.fst)) fun y3 ↦ sumK y3 (fun y4 ↦ some y4.fst) fun y4 ↦ obind (iterN (fun v ↦ L_book_ledger_right_506 x0.accounts x0 v.fst v.snd) LF (0, y4.fst)) fun y5 ↦ sumK y5 (fun y6 ↦ some y6) fun y6 ↦ some true))
noncomputable def C_book_ledger_right : Cx := { P := PG, ety := ety, fn := look [(49, spec_book_ledger_sized), (50, spec_book_ledger_fine), (51, spec_book_ledger_summed), (52, spec_cell_Right), (54, spec_book_ledger_account), (53, spec_limit_Whole)], inl := memN [], lp := lookLp [(31, 250, Ls_book_ledger_right_250), (31, 506, Ls_book_ledger_right_506)] }
theorem L_book_ledger_right_250_eq (p0 : Int) (p1 : (List SCell)) (v0 : Int) (v1 : Bool) (v2 : (List SCell)) : runLp C_book_ledger_right 900 31 250 (lpBody PG 31 250) S_book_ledger_right_250 O_book_ledger_right_250 (p0, p1) (v0, v1, v2) = L_book_ledger_right_250 p0 p1 v0 v1 v2 := by kernel_rfl
theorem L_book_ledger_right_506_eq (p0 : Int) (p1 : SState) (v0 : Int) (v1 : Bool) : runLp C_book_ledger_right 900 31 506 (lpBody PG 31 506) S_book_ledger_right_506 O_book_ledger_right_506 (p0, p1) (v0, v1) = L_book_ledger_right_506 p0 p1 v0 v1 := by kernel_rfl
theorem F_book_ledger_right_eq (x0 : SState) : runFn C_book_ledger_right 31 [.val .state] [.bool] x0 = F_book_ledger_right x0 := by kernel_rfl
def spec_book_ledger_right : FnSpec := mkSpec [.val .state] [.bool] true (fun x => F_book_ledger_right x)
theorem ok_book_ledger_right : FnOk PG 31 spec_book_ledger_right :=
  have K : CxR C_book_ledger_right := seatOk.cx (fun _ => rfl) (l := [(49, spec_book_ledger_sized), (50, spec_book_ledger_fine), (51, spec_book_ledger_summed), (52, spec_cell_Right), (54, spec_book_ledger_account), (53, spec_limit_Whole)]) ⟨ok_book_ledger_sized, ok_book_ledger_fine, ok_book_ledger_summed, ok_cell_Right, ok_book_ledger_account, ok_limit_Whole, trivial⟩
  fn_entry K (lps_from (l := [(31, 250, Ls_book_ledger_right_250), (31, 506, Ls_book_ledger_right_506)]) rfl ⟨lp_entry (n := 900) (f := 31) K (by kernel_rfl) (by kernel_rfl) (by kernel_rfl) (by kernel_rfl) (by kernel_rfl) (fun p v r h => (L_book_ledger_right_250_eq p.1 p.2 v.1 v.2.1 v.2.2).trans h),
    lp_entry (n := 900) (f := 31) K (by kernel_rfl) (by kernel_rfl) (by kernel_rfl) (by kernel_rfl) (by kernel_rfl) (fun p v r h => (L_book_ledger_right_506_eq p.1 p.2 v.1 v.2).trans h), trivial⟩) (by kernel_rfl) (fun x y h => (F_book_ledger_right_eq x).trans h) rfl rfl

def F_book_Right (x0 : SState) : Option (Bool) := obind (F_book_ledger_right x0) fun y0 ↦ some y0
noncomputable def C_book_Right : Cx := { P := PG, ety := ety, fn := look [(31, spec_book_ledger_right)], inl := memN [], lp := lookLp [] }
theorem F_book_Right_eq (x0 : SState) : runFn C_book_Right 15 [.val .state] [.bool] x0 = F_book_Right x0 := by kernel_rfl
def spec_book_Right : FnSpec := mkSpec [.val .state] [.bool] true (fun x => F_book_Right x)
theorem ok_book_Right : FnOk PG 15 spec_book_Right :=
  have K : CxR C_book_Right := seatOk.cx (fun _ => rfl) (l := [(31, spec_book_ledger_right)]) ⟨ok_book_ledger_right, trivial⟩
  fn_entry K (lps_from (l := []) rfl trivial) (by kernel_rfl) (fun x y h => (F_book_Right_eq x).trans h) rfl rfl

def F_book_New (x0 : Int) (x1 : Int) (x2 : SExpo) (x3 : Int) : Option (SState × Int) := cnd (bor (bor (bor (ilt x0 1) (ilt 8 x0)) (ilt x1 1)) (ilt 8 x1)) (some (SState.mk 0 0 [] [] [] [] false 0 0 0, 1)) (cnd (band (band (ile 0 (wr IntKind.i64 (imul x0 x1))) (ile (wr IntKind.i64 (imul x0 x1)) (wr IntKind.i64 (imul x0 x1)))) (ile (wr IntKind.i64 (imul x0 x1)) 68719476736)) (obind (F_slices_Repeat_api_Expo [x2] (wr IntKind.i64 (imul x0 x1))) fun y0 ↦ obind (F_slices_Repeat_int64 [x3] x0) fun y1 ↦ obind (F_book_Right (SState.mk x0 x1 [] (lrep SCell (itn (wr IntKind.i64 (imul x0 x1)))) y0 y1 false 0 0 0)) fun y2 ↦ cnd (bnot y2) (some (SState.mk 0 0 [] [] [] [] false 0 0 0, 1)) (some (SState.mk x0 x1 [] (lrep SCell (itn (wr IntKind.i64 (imul x0 x1)))) y0 y1 false 0 0 0, 0))) none)
noncomputable def C_book_New : Cx := { P := PG, ety := ety, fn := look [(24, spec_slices_Repeat_api_Expo), (25, spec_slices_Repeat_int64), (15, spec_book_Right)], inl := memN [], lp := lookLp [] }
theorem F_book_New_eq (x0 : Int) (x1 : Int) (x2 : SExpo) (x3 : Int) : runFn C_book_New 11 [.int .i64, .int .i64, .val .expo, .int .i64] [.val .state, .int .i64] (x0, x1, x2, x3) = F_book_New x0 x1 x2 x3 := by kernel_rfl
def spec_book_New : FnSpec := mkSpec [.int .i64, .int .i64, .val .expo, .int .i64] [.val .state, .int .i64] false (fun x => F_book_New x.1 x.2.1 x.2.2.1 x.2.2.2)
theorem ok_book_New : FnOk PG 11 spec_book_New :=
  have K : CxR C_book_New := seatOk.cx (fun _ => rfl) (l := [(24, spec_slices_Repeat_api_Expo), (25, spec_slices_Repeat_int64), (15, spec_book_Right)]) ⟨ok_slices_Repeat_api_Expo, ok_slices_Repeat_int64, ok_book_Right, trivial⟩
  fn_entry K (lps_from (l := []) rfl trivial) (by kernel_rfl) (fun x y h => (F_book_New_eq x.1 x.2.1 x.2.2.1 x.2.2.2).trans h) rfl rfl

def F_rec_OfNote (x0 : SNote) : Option (SRec) := some (SRec.mk 6 x0.order 0 0 0 x0.qty x0.price 0 0 0 false x0.seq x0.what)
noncomputable def C_rec_OfNote : Cx := { P := PG, ety := ety, fn := look [], inl := memN [], lp := lookLp [] }
theorem F_rec_OfNote_eq (x0 : SNote) : runFn C_rec_OfNote 14 [.val .note] [.val .recd] x0 = F_rec_OfNote x0 := by kernel_rfl
def spec_rec_OfNote : FnSpec := mkSpec [.val .note] [.val .recd] true (fun x => F_rec_OfNote x)
theorem ok_rec_OfNote : FnOk PG 14 spec_rec_OfNote :=
  have K : CxR C_rec_OfNote := seatOk.cx (fun _ => rfl) (l := []) trivial
  fn_entry K (lps_from (l := []) rfl trivial) (by kernel_rfl) (fun x y h => (F_rec_OfNote_eq x).trans h) rfl rfl

def F_venue_RightMsg (x0 : SMsg) : Option (Bool) := cnd (bor (bor (bor (bor (bor (ilt x0.order 1) (ilt 1000000000000 x0.order)) (ilt x0.account 0)) (ile 8 x0.account)) (ilt x0.symbol 0)) (ile 8 x0.symbol)) (some false) (cnd (bor (bor (band (bnot (ieq x0.side 1)) (bnot (ieq x0.side 2))) (ilt x0.lsn 0)) (ilt 1000000000 x0.lsn)) (some false) (cnd (ieq x0.kind 1) (some (band (band (ile 1 x0.qty) (ile 1 x0.price)) (ieq x0.version 0))) (cnd (ieq x0.kind 2) (some (band (band (ile 1 x0.qty) (ile 1 x0.price)) (ile 1 x0.version))) (cnd (ieq x0.kind 3) (some (band (band (ieq x0.qty 0) (ieq x0.price 0)) (ieq x0.version 0))) (some false)))))
noncomputable def C_venue_RightMsg : Cx := { P := PG, ety := ety, fn := look [], inl := memN [], lp := lookLp [] }
theorem F_venue_RightMsg_eq (x0 : SMsg) : runFn C_venue_RightMsg 32 [.val .msg] [.bool] x0 = F_venue_RightMsg x0 := by kernel_rfl
def spec_venue_RightMsg : FnSpec := mkSpec [.val .msg] [.bool] true (fun x => F_venue_RightMsg x)
theorem ok_venue_RightMsg : FnOk PG 32 spec_venue_RightMsg :=
  have K : CxR C_venue_RightMsg := seatOk.cx (fun _ => rfl) (l := []) trivial
  fn_entry K (lps_from (l := []) rfl trivial) (by kernel_rfl) (fun x y h => (F_venue_RightMsg_eq x).trans h) rfl rfl

def S_outbox_Right_26 : LSh := ⟨71, [(10, .int .i64), (9, .ro .msg), (2, .int .i64)], [], [], [(11, .int .i64), (6, .bool), (1, .int .i64)], [], []⟩
@[reducible] def O_outbox_Right_26 : List LOut := [⟨.ret, [(6, .bool)], [], []⟩, ⟨.exit 0, [(6, .bool)], [], []⟩]
def L_outbox_Right_26 (p0 : Int) (p1 : (List SMsg)) (p2 : Int) (v0 : Int) (v1 : Bool) (v2 : Int) : Option ((Int × Bool × Int) ⊕ ((Bool) ⊕ ((Bool)))) := cnd (ilt v0 p0) (cnd (band (ile 0 v0) (ilt v0 (len p1))) (obind (F_venue_RightMsg (lget p1 (itn v0))) fun y0 ↦ cnd (bor (bor (bnot y0) (ile (lget p1 (itn v0)).lsn v2)) (ilt p2 (lget p1 (itn v0)).lsn)) (some (Sum.inr (Sum.inl false))) (some (Sum.inl (wr IntKind.i64 (iadd v0 1), v1, (lget p1 (itn v0)).lsn)))) none) (some (Sum.inr (Sum.inr v1)))
def Ls_outbox_Right_26 : LSpec := S_outbox_Right_26.spec O_outbox_Right_26 [12, 13, 14, 8, 15, 16, 17, 18, 19, 20, 21, 22, 23, 24, 25, 26, 27, 28, 29, 6, 30, 31, 1, 32, 11] (fun p v => L_outbox_Right_26 p.1 p.2.1 p.2.2 v.1 v.2.1 v.2.2)
def F_outbox_Right (x0 : (List SMsg)) (x1 : Int) (x2 : Int) : Option (Bool) := obind (iterN (fun v ↦ L_outbox_Right_26 (len x0) x0 x2 v.fst v.snd.fst v.snd.snd) LF (0, false, x1)) fun y0 ↦ sumK y0 (fun y1 ↦ some y1) fun y1 ↦ some true
noncomputable def C_outbox_Right : Cx := { P := PG, ety := ety, fn := look [(32, spec_venue_RightMsg)], inl := memN [], lp := lookLp [(16, 26, Ls_outbox_Right_26)] }
theorem L_outbox_Right_26_eq (p0 : Int) (p1 : (List SMsg)) (p2 : Int) (v0 : Int) (v1 : Bool) (v2 : Int) : runLp C_outbox_Right 900 16 26 (lpBody PG 16 26) S_outbox_Right_26 O_outbox_Right_26 (p0, p1, p2) (v0, v1, v2) = L_outbox_Right_26 p0 p1 p2 v0 v1 v2 := by kernel_rfl
theorem F_outbox_Right_eq (x0 : (List SMsg)) (x1 : Int) (x2 : Int) : runFn C_outbox_Right 16 [.ro .msg, .int .i64, .int .i64] [.bool] (x0, x1, x2) = F_outbox_Right x0 x1 x2 := by kernel_rfl
def spec_outbox_Right : FnSpec := mkSpec [.ro .msg, .int .i64, .int .i64] [.bool] true (fun x => F_outbox_Right x.1 x.2.1 x.2.2)
theorem ok_outbox_Right : FnOk PG 16 spec_outbox_Right :=
  have K : CxR C_outbox_Right := seatOk.cx (fun _ => rfl) (l := [(32, spec_venue_RightMsg)]) ⟨ok_venue_RightMsg, trivial⟩
  fn_entry K (lps_from (l := [(16, 26, Ls_outbox_Right_26)]) rfl ⟨lp_entry (n := 900) (f := 16) K (by kernel_rfl) (by kernel_rfl) (by kernel_rfl) (by kernel_rfl) (by kernel_rfl) (fun p v r h => (L_outbox_Right_26_eq p.1 p.2.1 p.2.2 v.1 v.2.1 v.2.2).trans h), trivial⟩) (by kernel_rfl) (fun x y h => (F_outbox_Right_eq x.1 x.2.1 x.2.2).trans h) rfl rfl

def S_feed_Right_122 : LSh := ⟨86, [(23, .int .i64), (22, .ro .note), (1, .int .i64)], [], [], [(24, .int .i64), (5, .int .i64), (4, .bool)], [], []⟩
@[reducible] def O_feed_Right_122 : List LOut := [⟨.ret, [(4, .bool)], [], []⟩, ⟨.exit 0, [(4, .bool)], [], []⟩]
def L_feed_Right_122 (p0 : Int) (p1 : (List SNote)) (p2 : Int) (v0 : Int) (v1 : Int) (v2 : Bool) : Option ((Int × Int × Bool) ⊕ ((Bool) ⊕ ((Bool)))) := cnd (ilt v0 p0) (cnd (band (ile 0 v0) (ilt v0 (len p1))) (cnd (bor (ile (lget p1 (itn v0)).seq v1) (ilt (wr IntKind.i64 (iadd p2 8)) (lget p1 (itn v0)).seq)) (some (Sum.inr (Sum.inl false))) (some (Sum.inl (wr IntKind.i64 (iadd v0 1), (lget p1 (itn v0)).seq, v2)))) none) (some (Sum.inr (Sum.inr v2)))
def Ls_feed_Right_122 : LSpec := S_feed_Right_122.spec O_feed_Right_122 [25, 26, 27, 7, 28, 29, 30, 31, 32, 33, 34, 35, 36, 37, 38, 4, 39, 40, 5, 41, 24] (fun p v => L_feed_Right_122 p.1 p.2.1 p.2.2 v.1 v.2.1 v.2.2)
def F_feed_Right (x0 : SFeed) (x1 : Int) : Option (Bool) := cnd (bor (bor (ilt x1 1) (ilt 1000000001 x1)) (ilt 8 (len x0.held))) (some false) (obind (iterN (fun v ↦ L_feed_Right_122 (len x0.held) x0.held x1 v.fst v.snd.fst v.snd.snd) LF (0, x1, false)) fun y0 ↦ sumK y0 (fun y1 ↦ some y1) fun y1 ↦ some true)
noncomputable def C_feed_Right : Cx := { P := PG, ety := ety, fn := look [], inl := memN [], lp := lookLp [(17, 122, Ls_feed_Right_122)] }
theorem L_feed_Right_122_eq (p0 : Int) (p1 : (List SNote)) (p2 : Int) (v0 : Int) (v1 : Int) (v2 : Bool) : runLp C_feed_Right 900 17 122 (lpBody PG 17 122) S_feed_Right_122 O_feed_Right_122 (p0, p1, p2) (v0, v1, v2) = L_feed_Right_122 p0 p1 p2 v0 v1 v2 := by kernel_rfl
theorem F_feed_Right_eq (x0 : SFeed) (x1 : Int) : runFn C_feed_Right 17 [.val .feed, .int .i64] [.bool] (x0, x1) = F_feed_Right x0 x1 := by kernel_rfl
def spec_feed_Right : FnSpec := mkSpec [.val .feed, .int .i64] [.bool] true (fun x => F_feed_Right x.1 x.2)
theorem ok_feed_Right : FnOk PG 17 spec_feed_Right :=
  have K : CxR C_feed_Right := seatOk.cx (fun _ => rfl) (l := []) trivial
  fn_entry K (lps_from (l := [(17, 122, Ls_feed_Right_122)]) rfl ⟨lp_entry (n := 900) (f := 17) K (by kernel_rfl) (by kernel_rfl) (by kernel_rfl) (by kernel_rfl) (by kernel_rfl) (fun p v r h => (L_feed_Right_122_eq p.1 p.2.1 p.2.2 v.1 v.2.1 v.2.2).trans h), trivial⟩) (by kernel_rfl) (fun x y h => (F_feed_Right_eq x.1 x.2).trans h) rfl rfl

def S_plain_Right_26 : LSh := ⟨72, [(8, .int .i64), (7, .ro .note)], [], [], [(9, .int .i64), (2, .bool)], [], []⟩
@[reducible] def O_plain_Right_26 : List LOut := [⟨.ret, [(2, .bool)], [], []⟩, ⟨.exit 0, [(2, .bool)], [], []⟩]
def L_plain_Right_26 (p0 : Int) (p1 : (List SNote)) (v0 : Int) (v1 : Bool) : Option ((Int × Bool) ⊕ ((Bool) ⊕ ((Bool)))) := cnd (ilt v0 p0) (cnd (band (ile 0 v0) (ilt v0 (len p1))) (obind (F_rec_OfNote (lget p1 (itn v0))) fun y0 ↦ obind (F_rec_Right y0) fun y1 ↦ cnd (bnot y1) (some (Sum.inr (Sum.inl false))) (some (Sum.inl (wr IntKind.i64 (iadd v0 1), v1)))) none) (some (Sum.inr (Sum.inr v1)))
def Ls_plain_Right_26 : LSpec := S_plain_Right_26.spec O_plain_Right_26 [10, 11, 12, 4, 13, 14, 15, 16, 2, 17, 9] (fun p v => L_plain_Right_26 p.1 p.2 v.1 v.2)
def F_plain_Right (x0 : SPlain) : Option (Bool) := obind (iterN (fun v ↦ L_plain_Right_26 (len x0.feed.held) x0.feed.held v.fst v.snd) LF (0, false)) fun y0 ↦ sumK y0 (fun y1 ↦ some y1) fun y1 ↦ obind (F_book_Right x0.state) fun y2 ↦ obind (cnd y2 (F_outbox_Right x0.outbox 0 x0.state.lsn) (some false)) fun y3 ↦ obind (cnd (band y2 y3) (F_feed_Right x0.feed (wr IntKind.i64 (iadd x0.state.seq 1))) (some false)) fun y4 ↦ some (band (band y2 y3) y4)
noncomputable def C_plain_Right : Cx := { P := PG, ety := ety, fn := look [(14, spec_rec_OfNote), (13, spec_rec_Right), (15, spec_book_Right), (16, spec_outbox_Right), (17, spec_feed_Right)], inl := memN [], lp := lookLp [(6, 26, Ls_plain_Right_26)] }
theorem L_plain_Right_26_eq (p0 : Int) (p1 : (List SNote)) (v0 : Int) (v1 : Bool) : runLp C_plain_Right 900 6 26 (lpBody PG 6 26) S_plain_Right_26 O_plain_Right_26 (p0, p1) (v0, v1) = L_plain_Right_26 p0 p1 v0 v1 := by kernel_rfl
theorem F_plain_Right_eq (x0 : SPlain) : runFn C_plain_Right 6 [.val .plain] [.bool] x0 = F_plain_Right x0 := by kernel_rfl
def spec_plain_Right : FnSpec := mkSpec [.val .plain] [.bool] true (fun x => F_plain_Right x)
theorem ok_plain_Right : FnOk PG 6 spec_plain_Right :=
  have K : CxR C_plain_Right := seatOk.cx (fun _ => rfl) (l := [(14, spec_rec_OfNote), (13, spec_rec_Right), (15, spec_book_Right), (16, spec_outbox_Right), (17, spec_feed_Right)]) ⟨ok_rec_OfNote, ok_rec_Right, ok_book_Right, ok_outbox_Right, ok_feed_Right, trivial⟩
  fn_entry K (lps_from (l := [(6, 26, Ls_plain_Right_26)]) rfl ⟨lp_entry (n := 900) (f := 6) K (by kernel_rfl) (by kernel_rfl) (by kernel_rfl) (by kernel_rfl) (by kernel_rfl) (fun p v r h => (L_plain_Right_26_eq p.1 p.2 v.1 v.2).trans h), trivial⟩) (by kernel_rfl) (fun x y h => (F_plain_Right_eq x).trans h) rfl rfl

def S_slices_Index_int_26 : LSh := ⟨70, [(7, .int .i64), (0, .ro .i64), (1, .int .i64)], [], [], [(8, .int .i64), (4, .int .i64)], [], []⟩
@[reducible] def O_slices_Index_int_26 : List LOut := [⟨.ret, [(4, .int .i64)], [], []⟩, ⟨.exit 0, [(4, .int .i64)], [], []⟩]
def L_slices_Index_int_26 (p0 : Int) (p1 : (List Int)) (p2 : Int) (v0 : Int) (v1 : Int) : Option ((Int × Int) ⊕ ((Int) ⊕ ((Int)))) := cnd (ilt v0 p0) (cnd (band (ile 0 v0) (ilt v0 (len p1))) (cnd (ieq p2 (lget p1 (itn v0))) (some (Sum.inr (Sum.inl v0))) (some (Sum.inl (wr IntKind.i64 (iadd v0 1), v1)))) none) (some (Sum.inr (Sum.inr v1)))
def Ls_slices_Index_int_26 : LSpec := S_slices_Index_int_26.spec O_slices_Index_int_26 [9, 10, 5, 11, 12, 13, 14, 15, 16, 17, 4, 18, 8] (fun p v => L_slices_Index_int_26 p.1 p.2.1 p.2.2 v.1 v.2)
def F_slices_Index_int (x0 : (List Int)) (x1 : Int) : Option (Int) := obind (iterN (fun v ↦ L_slices_Index_int_26 (len x0) x0 x1 v.fst v.snd) LF (0, 0)) fun y0 ↦ sumK y0 (fun y1 ↦ some y1) fun y1 ↦ some (-1)
noncomputable def C_slices_Index_int : Cx := { P := PG, ety := ety, fn := look [], inl := memN [], lp := lookLp [(73, 26, Ls_slices_Index_int_26)] }
theorem L_slices_Index_int_26_eq (p0 : Int) (p1 : (List Int)) (p2 : Int) (v0 : Int) (v1 : Int) : runLp C_slices_Index_int 900 73 26 (lpBody PG 73 26) S_slices_Index_int_26 O_slices_Index_int_26 (p0, p1, p2) (v0, v1) = L_slices_Index_int_26 p0 p1 p2 v0 v1 := by kernel_rfl
theorem F_slices_Index_int_eq (x0 : (List Int)) (x1 : Int) : runFn C_slices_Index_int 73 [.ro .i64, .int .i64] [.int .i64] (x0, x1) = F_slices_Index_int x0 x1 := by kernel_rfl
def spec_slices_Index_int : FnSpec := mkSpec [.ro .i64, .int .i64] [.int .i64] true (fun x => F_slices_Index_int x.1 x.2)
theorem ok_slices_Index_int : FnOk PG 73 spec_slices_Index_int :=
  have K : CxR C_slices_Index_int := seatOk.cx (fun _ => rfl) (l := []) trivial
  fn_entry K (lps_from (l := [(73, 26, Ls_slices_Index_int_26)]) rfl ⟨lp_entry (n := 900) (f := 73) K (by kernel_rfl) (by kernel_rfl) (by kernel_rfl) (by kernel_rfl) (by kernel_rfl) (fun p v r h => (L_slices_Index_int_26_eq p.1 p.2.1 p.2.2 v.1 v.2).trans h), trivial⟩) (by kernel_rfl) (fun x y h => (F_slices_Index_int_eq x.1 x.2).trans h) rfl rfl

def F_slices_Contains_int (x0 : (List Int)) (x1 : Int) : Option (Bool) := obind (F_slices_Index_int x0 x1) fun y0 ↦ some (ile 0 y0)
noncomputable def C_slices_Contains_int : Cx := { P := PG, ety := ety, fn := look [(73, spec_slices_Index_int)], inl := memN [], lp := lookLp [] }
theorem F_slices_Contains_int_eq (x0 : (List Int)) (x1 : Int) : runFn C_slices_Contains_int 44 [.ro .i64, .int .i64] [.bool] (x0, x1) = F_slices_Contains_int x0 x1 := by kernel_rfl
def spec_slices_Contains_int : FnSpec := mkSpec [.ro .i64, .int .i64] [.bool] true (fun x => F_slices_Contains_int x.1 x.2)
theorem ok_slices_Contains_int : FnOk PG 44 spec_slices_Contains_int :=
  have K : CxR C_slices_Contains_int := seatOk.cx (fun _ => rfl) (l := [(73, spec_slices_Index_int)]) ⟨ok_slices_Index_int, trivial⟩
  fn_entry K (lps_from (l := []) rfl trivial) (by kernel_rfl) (fun x y h => (F_slices_Contains_int_eq x.1 x.2).trans h) rfl rfl

def F_slices_Clone_api_Order (x0 : (List SOrder)) : Option ((List SOrder)) := nilq (len x0) fun y0 ↦ cnd (beq y0 true) (some []) (cnd (ile (len x0) 68719476736) (some x0) none)
noncomputable def C_slices_Clone_api_Order : Cx := { P := PG, ety := ety, fn := look [], inl := memN [], lp := lookLp [] }
theorem F_slices_Clone_api_Order_eq (x0 : (List SOrder)) : runFn C_slices_Clone_api_Order 59 [.ro .order] [.buf .order] x0 = F_slices_Clone_api_Order x0 := by kernel_rfl
def spec_slices_Clone_api_Order : FnSpec := mkSpec [.ro .order] [.buf .order] true (fun x => F_slices_Clone_api_Order x)
theorem ok_slices_Clone_api_Order : FnOk PG 59 spec_slices_Clone_api_Order :=
  have K : CxR C_slices_Clone_api_Order := seatOk.cx (fun _ => rfl) (l := []) trivial
  fn_entry K (lps_from (l := []) rfl trivial) (by kernel_rfl) (fun x y h => (F_slices_Clone_api_Order_eq x).trans h) rfl rfl

def F_slices_Clone_api_Cell (x0 : (List SCell)) : Option ((List SCell)) := nilq (len x0) fun y0 ↦ cnd (beq y0 true) (some []) (cnd (ile (len x0) 68719476736) (some x0) none)
noncomputable def C_slices_Clone_api_Cell : Cx := { P := PG, ety := ety, fn := look [], inl := memN [], lp := lookLp [] }
theorem F_slices_Clone_api_Cell_eq (x0 : (List SCell)) : runFn C_slices_Clone_api_Cell 60 [.ro .cell] [.buf .cell] x0 = F_slices_Clone_api_Cell x0 := by kernel_rfl
def spec_slices_Clone_api_Cell : FnSpec := mkSpec [.ro .cell] [.buf .cell] true (fun x => F_slices_Clone_api_Cell x)
theorem ok_slices_Clone_api_Cell : FnOk PG 60 spec_slices_Clone_api_Cell :=
  have K : CxR C_slices_Clone_api_Cell := seatOk.cx (fun _ => rfl) (l := []) trivial
  fn_entry K (lps_from (l := []) rfl trivial) (by kernel_rfl) (fun x y h => (F_slices_Clone_api_Cell_eq x).trans h) rfl rfl

def F_slices_Clone_api_Expo (x0 : (List SExpo)) : Option ((List SExpo)) := nilq (len x0) fun y0 ↦ cnd (beq y0 true) (some []) (cnd (ile (len x0) 68719476736) (some x0) none)
noncomputable def C_slices_Clone_api_Expo : Cx := { P := PG, ety := ety, fn := look [], inl := memN [], lp := lookLp [] }
theorem F_slices_Clone_api_Expo_eq (x0 : (List SExpo)) : runFn C_slices_Clone_api_Expo 61 [.ro .expo] [.buf .expo] x0 = F_slices_Clone_api_Expo x0 := by kernel_rfl
def spec_slices_Clone_api_Expo : FnSpec := mkSpec [.ro .expo] [.buf .expo] true (fun x => F_slices_Clone_api_Expo x)
theorem ok_slices_Clone_api_Expo : FnOk PG 61 spec_slices_Clone_api_Expo :=
  have K : CxR C_slices_Clone_api_Expo := seatOk.cx (fun _ => rfl) (l := []) trivial
  fn_entry K (lps_from (l := []) rfl trivial) (by kernel_rfl) (fun x y h => (F_slices_Clone_api_Expo_eq x).trans h) rfl rfl

def F_slices_Clone_int64 (x0 : (List Int)) : Option ((List Int)) := nilq (len x0) fun y0 ↦ cnd (beq y0 true) (some []) (cnd (ile (len x0) 68719476736) (some x0) none)
noncomputable def C_slices_Clone_int64 : Cx := { P := PG, ety := ety, fn := look [], inl := memN [], lp := lookLp [] }
theorem F_slices_Clone_int64_eq (x0 : (List Int)) : runFn C_slices_Clone_int64 62 [.ro .i64] [.buf .i64] x0 = F_slices_Clone_int64 x0 := by kernel_rfl
def spec_slices_Clone_int64 : FnSpec := mkSpec [.ro .i64] [.buf .i64] true (fun x => F_slices_Clone_int64 x)
theorem ok_slices_Clone_int64 : FnOk PG 62 spec_slices_Clone_int64 :=
  have K : CxR C_slices_Clone_int64 := seatOk.cx (fun _ => rfl) (l := []) trivial
  fn_entry K (lps_from (l := []) rfl trivial) (by kernel_rfl) (fun x y h => (F_slices_Clone_int64_eq x).trans h) rfl rfl

def F_order_Begin (x0 : SRec) : Option (SOrder × Int) := obind (cnd (bnot (bnot (ieq x0.kind 1))) (F_rec_Right x0) (some false)) fun y0 ↦ cnd (bor (bnot (ieq x0.kind 1)) (bnot y0)) (some (SOrder.mk 0 0 0 0 0 0 0 0 0 0 0 false, 1)) (some (SOrder.mk x0.order x0.account x0.symbol x0.side x0.qty x0.price 0 1 0 0 0 false, 0))
noncomputable def C_order_Begin : Cx := { P := PG, ety := ety, fn := look [(13, spec_rec_Right)], inl := memN [], lp := lookLp [] }
theorem F_order_Begin_eq (x0 : SRec) : runFn C_order_Begin 63 [.val .recd] [.val .order, .int .i64] x0 = F_order_Begin x0 := by kernel_rfl
def spec_order_Begin : FnSpec := mkSpec [.val .recd] [.val .order, .int .i64] true (fun x => F_order_Begin x)
theorem ok_order_Begin : FnOk PG 63 spec_order_Begin :=
  have K : CxR C_order_Begin := seatOk.cx (fun _ => rfl) (l := [(13, spec_rec_Right)]) ⟨ok_rec_Right, trivial⟩
  fn_entry K (lps_from (l := []) rfl trivial) (by kernel_rfl) (fun x y h => (F_order_Begin_eq x).trans h) rfl rfl

def F_cell_Of (x0 : SCell) : Option (SExpo × Int) := obind (F_cell_Right x0) fun y0 ↦ cnd (bnot y0) (some (SExpo.mk 0 0 0, 1)) (obind (F_cell_expo x0) fun y1 ↦ some (y1.fst, 0))
noncomputable def C_cell_Of : Cx := { P := PG, ety := ety, fn := look [(52, spec_cell_Right), (82, spec_cell_expo)], inl := memN [], lp := lookLp [] }
theorem F_cell_Of_eq (x0 : SCell) : runFn C_cell_Of 86 [.val .cell] [.val .expo, .int .i64] x0 = F_cell_Of x0 := by kernel_rfl
def spec_cell_Of : FnSpec := mkSpec [.val .cell] [.val .expo, .int .i64] true (fun x => F_cell_Of x)
theorem ok_cell_Of : FnOk PG 86 spec_cell_Of :=
  have K : CxR C_cell_Of := seatOk.cx (fun _ => rfl) (l := [(52, spec_cell_Right), (82, spec_cell_expo)]) ⟨ok_cell_Right, ok_cell_expo, trivial⟩
  fn_entry K (lps_from (l := []) rfl trivial) (by kernel_rfl) (fun x y h => (F_cell_Of_eq x).trans h) rfl rfl

def F_limit_three (x0 : SExpo) : Option (SA3) := some (SA3.mk x0.long x0.short x0.opn)
noncomputable def C_limit_three : Cx := { P := PG, ety := ety, fn := look [], inl := memN [], lp := lookLp [] }
theorem F_limit_three_eq (x0 : SExpo) : runFn C_limit_three 96 [.val .expo] [.val .a3] x0 = F_limit_three x0 := by kernel_rfl
def spec_limit_three : FnSpec := mkSpec [.val .expo] [.val .a3] true (fun x => F_limit_three x)
theorem ok_limit_three : FnOk PG 96 spec_limit_three :=
  have K : CxR C_limit_three := seatOk.cx (fun _ => rfl) (l := []) trivial
  fn_entry K (lps_from (l := []) rfl trivial) (by kernel_rfl) (fun x y h => (F_limit_three_eq x).trans h) rfl rfl

def F_limit_AgainstCap (x0 : Int) (x1 : Int) (x2 : Int) : Option (Bool) := some (ilt (imax x0 x2) x1)
noncomputable def C_limit_AgainstCap : Cx := { P := PG, ety := ety, fn := look [], inl := memN [], lp := lookLp [] }
theorem F_limit_AgainstCap_eq (x0 : Int) (x1 : Int) (x2 : Int) : runFn C_limit_AgainstCap 88 [.int .i64, .int .i64, .int .i64] [.bool] (x0, x1, x2) = F_limit_AgainstCap x0 x1 x2 := by kernel_rfl
def spec_limit_AgainstCap : FnSpec := mkSpec [.int .i64, .int .i64, .int .i64] [.bool] true (fun x => F_limit_AgainstCap x.1 x.2.1 x.2.2)
theorem ok_limit_AgainstCap : FnOk PG 88 spec_limit_AgainstCap :=
  have K : CxR C_limit_AgainstCap := seatOk.cx (fun _ => rfl) (l := []) trivial
  fn_entry K (lps_from (l := []) rfl trivial) (by kernel_rfl) (fun x y h => (F_limit_AgainstCap_eq x.1 x.2.1 x.2.2).trans h) rfl rfl

def F_limit_Against (x0 : SExpo) (x1 : SExpo) (x2 : SExpo) : Option (Bool) := obind (F_limit_three x0) fun y0 ↦ obind (F_limit_three x1) fun y1 ↦ obind (F_limit_three x2) fun y2 ↦ obind (F_limit_AgainstCap y0.a0 y1.a0 y2.a0) fun y3 ↦ cnd y3 (some true) (obind (F_limit_AgainstCap y0.a1 y1.a1 y2.a1) fun y4 ↦ cnd y4 (some true) (obind (F_limit_AgainstCap y0.a2 y1.a2 y2.a2) fun y5 ↦ cnd y5 (some true) (some false)))
noncomputable def C_limit_Against : Cx := { P := PG, ety := ety, fn := look [(96, spec_limit_three), (88, spec_limit_AgainstCap)], inl := memN [], lp := lookLp [] }
theorem F_limit_Against_eq (x0 : SExpo) (x1 : SExpo) (x2 : SExpo) : runFn C_limit_Against 87 [.val .expo, .val .expo, .val .expo] [.bool] (x0, x1, x2) = F_limit_Against x0 x1 x2 := by kernel_rfl
def spec_limit_Against : FnSpec := mkSpec [.val .expo, .val .expo, .val .expo] [.bool] true (fun x => F_limit_Against x.1 x.2.1 x.2.2)
theorem ok_limit_Against : FnOk PG 87 spec_limit_Against :=
  have K : CxR C_limit_Against := seatOk.cx (fun _ => rfl) (l := [(96, spec_limit_three), (88, spec_limit_AgainstCap)]) ⟨ok_limit_three, ok_limit_AgainstCap, trivial⟩
  fn_entry K (lps_from (l := []) rfl trivial) (by kernel_rfl) (fun x y h => (F_limit_Against_eq x.1 x.2.1 x.2.2).trans h) rfl rfl

def F_book_ledger_bears (x0 : SState) (x1 : SState) (x2 : Int) (x3 : Int) : Option (Int) := obind (F_book_ledger_cellOf x0 x2 x3) fun y0 ↦ obind (F_book_ledger_account x0 x2) fun y1 ↦ obind (F_limit_Whole y1) fun y2 ↦ cnd (bnot (ieq y2.snd 0)) (some 3) (obind (F_book_ledger_account x1 x2) fun y3 ↦ obind (F_limit_Whole y3) fun y4 ↦ cnd (band (ile 0 y0) (ilt y0 (len x1.cells))) (obind (F_cell_Of (lget x1.cells (itn y0))) fun y5 ↦ cnd (band (ile 0 y0) (ilt y0 (len x0.cells))) (obind (F_cell_Of (lget x0.cells (itn y0))) fun y6 ↦ cnd (band (ile 0 y0) (ilt y0 (len x0.limits))) (obind (F_limit_Against y5.fst y6.fst (lget x0.limits (itn y0))) fun y7 ↦ cnd (bor (band (ile 0 x2) (ilt x2 (len x0.caps))) (bnot (bnot y7))) (obind (cnd (bnot y7) (F_limit_AgainstCap y4.fst y2.fst (lget x0.caps (itn x2))) (some false)) fun y8 ↦ cnd (bor y7 y8) (some 4) (some 0)) none) none) none) none)
noncomputable def C_book_ledger_bears : Cx := { P := PG, ety := ety, fn := look [(64, spec_book_ledger_cellOf), (54, spec_book_ledger_account), (53, spec_limit_Whole), (86, spec_cell_Of), (87, spec_limit_Against), (88, spec_limit_AgainstCap)], inl := memN [], lp := lookLp [] }
theorem F_book_ledger_bears_eq (x0 : SState) (x1 : SState) (x2 : Int) (x3 : Int) : runFn C_book_ledger_bears 66 [.val .state, .val .state, .int .i64, .int .i64] [.int .i64] (x0, x1, x2, x3) = F_book_ledger_bears x0 x1 x2 x3 := by kernel_rfl
def spec_book_ledger_bears : FnSpec := mkSpec [.val .state, .val .state, .int .i64, .int .i64] [.int .i64] true (fun x => F_book_ledger_bears x.1 x.2.1 x.2.2.1 x.2.2.2)
theorem ok_book_ledger_bears : FnOk PG 66 spec_book_ledger_bears :=
  have K : CxR C_book_ledger_bears := seatOk.cx (fun _ => rfl) (l := [(64, spec_book_ledger_cellOf), (54, spec_book_ledger_account), (53, spec_limit_Whole), (86, spec_cell_Of), (87, spec_limit_Against), (88, spec_limit_AgainstCap)]) ⟨ok_book_ledger_cellOf, ok_book_ledger_account, ok_limit_Whole, ok_cell_Of, ok_limit_Against, ok_limit_AgainstCap, trivial⟩
  fn_entry K (lps_from (l := []) rfl trivial) (by kernel_rfl) (fun x y h => (F_book_ledger_bears_eq x.1 x.2.1 x.2.2.1 x.2.2.2).trans h) rfl rfl

def S_book_Find_26_slices_IndexFunc_api_Order_c10 : LSh := ⟨78, [(7, .int .i64), (0, .ro .order)], [(1, .fn 46 [.mp 24 0])], [(24, [.int .i64])], [(8, .int .i64), (4, .int .i64)], [], []⟩
@[reducible] def O_book_Find_26_slices_IndexFunc_api_Order_c10 : List LOut := [⟨.ret, [(4, .int .i64)], [], []⟩, ⟨.exit 0, [(4, .int .i64)], [], []⟩]
def L_book_Find_26_slices_IndexFunc_api_Order_c10 (p0 : Int) (p1 : (List SOrder)) (p2 : Int) (v0 : Int) (v1 : Int) : Option ((Int × Int) ⊕ ((Int) ⊕ ((Int)))) := cnd (ilt v0 p0) (cnd (band (ile 0 v0) (ilt v0 (len p1))) (cnd (ieq (lget p1 (itn v0)).id p2) (some (Sum.inr (Sum.inl v0))) (some (Sum.inl (wr IntKind.i64 (iadd v0 1), v1)))) none) (some (Sum.inr (Sum.inr v1)))
def Ls_book_Find_26_slices_IndexFunc_api_Order_c10 : LSpec := S_book_Find_26_slices_IndexFunc_api_Order_c10.spec O_book_Find_26_slices_IndexFunc_api_Order_c10 [9, 10, 5, 11, 12, 13, 14, 15, 16, 17, 4, 18, 8] (fun p v => L_book_Find_26_slices_IndexFunc_api_Order_c10 p.1 p.2.1 p.2.2 v.1 v.2)
def F_book_Find (x0 : SState) (x1 : Int) : Option (Int) := obind (iterN (fun v ↦ L_book_Find_26_slices_IndexFunc_api_Order_c10 (len x0.orders) x0.orders x1 v.fst v.snd) LF (0, 0)) fun y0 ↦ sumK y0 (fun y1 ↦ some y1) fun y1 ↦ some (-1)
noncomputable def C_book_Find : Cx := { P := PG, ety := ety, fn := look [], inl := memN [46, 45], lp := lookLp [(90194354221, 26, Ls_book_Find_26_slices_IndexFunc_api_Order_c10)] }
theorem L_book_Find_26_slices_IndexFunc_api_Order_c10_eq (p0 : Int) (p1 : (List SOrder)) (p2 : Int) (v0 : Int) (v1 : Int) : runLp C_book_Find 900 90194354221 26 (lpBody PG 45 26) S_book_Find_26_slices_IndexFunc_api_Order_c10 O_book_Find_26_slices_IndexFunc_api_Order_c10 (p0, p1, p2) (v0, v1) = L_book_Find_26_slices_IndexFunc_api_Order_c10 p0 p1 p2 v0 v1 := by kernel_rfl
theorem F_book_Find_eq (x0 : SState) (x1 : Int) : runFn C_book_Find 21 [.val .state, .int .i64] [.int .i64] (x0, x1) = F_book_Find x0 x1 := by kernel_rfl
def spec_book_Find : FnSpec := mkSpec [.val .state, .int .i64] [.int .i64] true (fun x => F_book_Find x.1 x.2)
theorem ok_book_Find : FnOk PG 21 spec_book_Find :=
  have K : CxR C_book_Find := seatOk.cx (fun _ => rfl) (l := []) trivial
  fn_entry K (lps_from (l := [(90194354221, 26, Ls_book_Find_26_slices_IndexFunc_api_Order_c10)]) rfl ⟨lp_entry (n := 900) (f := 45) K (by kernel_rfl) (by kernel_rfl) (by kernel_rfl) (by kernel_rfl) (by kernel_rfl) (fun p v r h => (L_book_Find_26_slices_IndexFunc_api_Order_c10_eq p.1 p.2.1 p.2.2 v.1 v.2).trans h), trivial⟩) (by kernel_rfl) (fun x y h => (F_book_Find_eq x.1 x.2).trans h) rfl rfl

def F_order_Change (x0 : SOrder) (x1 : Int) (x2 : Int) : Option (SOrder × Int) := obind (F_num_Add x0.version 1) fun y0 ↦ obind (F_order_Right x0) fun y1 ↦ cnd (bnot y1) (cnd (bnot y1) (some (x0, 1)) (cnd (bnot (ieq x0.phase 2)) (cnd (bnot (ieq x0.phase 2)) (some (x0, 8)) (some (SOrder.mk x0.id x0.account x0.symbol x0.side x0.qty x0.price x0.filled x0.phase x1 x2 (wr IntKind.i64 (iadd x0.version 1)) x0.asked, 0))) (obind (F_order_pending x0) fun y2 ↦ cnd y2 (cnd y2 (some (x0, 8)) (some (SOrder.mk x0.id x0.account x0.symbol x0.side x0.qty x0.price x0.filled x0.phase x1 x2 (wr IntKind.i64 (iadd x0.version 1)) x0.asked, 0))) (cnd x0.asked (some (x0, 8)) (some (SOrder.mk x0.id x0.account x0.symbol x0.side x0.qty x0.price x0.filled x0.phase x1 x2 (wr IntKind.i64 (iadd x0.version 1)) x0.asked, 0)))))) (cnd (ilt x1 1) (cnd (ilt x1 1) (some (x0, 1)) (cnd (bnot (ieq x0.phase 2)) (cnd (bnot (ieq x0.phase 2)) (some (x0, 8)) (some (SOrder.mk x0.id x0.account x0.symbol x0.side x0.qty x0.price x0.filled x0.phase x1 x2 (wr IntKind.i64 (iadd x0.version 1)) x0.asked, 0))) (obind (F_order_pending x0) fun y3 ↦ cnd y3 (cnd y3 (some (x0, 8)) (some (SOrder.mk x0.id x0.account x0.symbol x0.side x0.qty x0.price x0.filled x0.phase x1 x2 (wr IntKind.i64 (iadd x0.version 1)) x0.asked, 0))) (cnd x0.asked (some (x0, 8)) (some (SOrder.mk x0.id x0.account x0.symbol x0.side x0.qty x0.price x0.filled x0.phase x1 x2 (wr IntKind.i64 (iadd x0.version 1)) x0.asked, 0)))))) (cnd (ilt x2 1) (cnd (ilt x2 1) (some (x0, 1)) (cnd (bnot (ieq x0.phase 2)) (cnd (bnot (ieq x0.phase 2)) (some (x0, 8)) (some (SOrder.mk x0.id x0.account x0.symbol x0.side x0.qty x0.price x0.filled x0.phase x1 x2 (wr IntKind.i64 (iadd x0.version 1)) x0.asked, 0))) (obind (F_order_pending x0) fun y4 ↦ cnd y4 (cnd y4 (some (x0, 8)) (some (SOrder.mk x0.id x0.account x0.symbol x0.side x0.qty x0.price x0.filled x0.phase x1 x2 (wr IntKind.i64 (iadd x0.version 1)) x0.asked, 0))) (cnd x0.asked (some (x0, 8)) (some (SOrder.mk x0.id x0.account x0.symbol x0.side x0.qty x0.price x0.filled x0.phase x1 x2 (wr IntKind.i64 (iadd x0.version 1)) x0.asked, 0)))))) (cnd (bnot (ieq y0.snd 0)) (some (x0, 1)) (cnd (bnot (ieq x0.phase 2)) (cnd (bnot (ieq x0.phase 2)) (some (x0, 8)) (some (SOrder.mk x0.id x0.account x0.symbol x0.side x0.qty x0.price x0.filled x0.phase x1 x2 (wr IntKind.i64 (iadd x0.version 1)) x0.asked, 0))) (obind (F_order_pending x0) fun y5 ↦ cnd y5 (cnd y5 (some (x0, 8)) (some (SOrder.mk x0.id x0.account x0.symbol x0.side x0.qty x0.price x0.filled x0.phase x1 x2 (wr IntKind.i64 (iadd x0.version 1)) x0.asked, 0))) (cnd x0.asked (some (x0, 8)) (some (SOrder.mk x0.id x0.account x0.symbol x0.side x0.qty x0.price x0.filled x0.phase x1 x2 (wr IntKind.i64 (iadd x0.version 1)) x0.asked, 0))))))))
noncomputable def C_order_Change : Cx := { P := PG, ety := ety, fn := look [(37, spec_num_Add), (47, spec_order_Right), (74, spec_order_pending)], inl := memN [], lp := lookLp [] }
theorem F_order_Change_eq (x0 : SOrder) (x1 : Int) (x2 : Int) : runFn C_order_Change 67 [.val .order, .int .i64, .int .i64] [.val .order, .int .i64] (x0, x1, x2) = F_order_Change x0 x1 x2 := by kernel_rfl
def spec_order_Change : FnSpec := mkSpec [.val .order, .int .i64, .int .i64] [.val .order, .int .i64] true (fun x => F_order_Change x.1 x.2.1 x.2.2)
theorem ok_order_Change : FnOk PG 67 spec_order_Change :=
  have K : CxR C_order_Change := seatOk.cx (fun _ => rfl) (l := [(37, spec_num_Add), (47, spec_order_Right), (74, spec_order_pending)]) ⟨ok_num_Add, ok_order_Right, ok_order_pending, trivial⟩
  fn_entry K (lps_from (l := []) rfl trivial) (by kernel_rfl) (fun x y h => (F_order_Change_eq x.1 x.2.1 x.2.2).trans h) rfl rfl

def F_cell_Go (x0 : SCell) (x1 : SOrder) : Option (SCell × Int) := obind (F_cell_Right x0) fun y0 ↦ obind (cnd (bnot (bnot y0)) (F_order_Right x1) (some false)) fun y1 ↦ cnd (bor (bnot y0) (bnot y1)) (some (x0, 1)) (obind (F_order_Worth x1) fun y2 ↦ cnd (ieq x1.side 2) (obind (F_order_Open x1) fun y3 ↦ obind (F_num_Sub x0.sell y3) fun y4 ↦ obind (F_num_Sub x0.opn y2.fst) fun y5 ↦ obind (cnd (bnot (bor (bor (bnot (ieq y2.snd 0)) (bnot (ieq y4.snd 0))) (bnot (ieq y5.snd 0)))) (F_cell_Right (SCell.mk x0.pos x0.buy y4.fst y5.fst)) (some false)) fun y6 ↦ cnd (bor (bor (bor (bnot (ieq y2.snd 0)) (bnot (ieq y4.snd 0))) (bnot (ieq y5.snd 0))) (bnot y6)) (some (x0, 3)) (some (SCell.mk x0.pos x0.buy y4.fst y5.fst, 0))) (obind (F_order_Open x1) fun y7 ↦ obind (F_num_Sub x0.buy y7) fun y8 ↦ obind (F_num_Sub x0.opn y2.fst) fun y9 ↦ obind (cnd (bnot (bor (bor (bnot (ieq y2.snd 0)) (bnot (ieq y8.snd 0))) (bnot (ieq y9.snd 0)))) (F_cell_Right (SCell.mk x0.pos y8.fst x0.sell y9.fst)) (some false)) fun y10 ↦ cnd (bor (bor (bor (bnot (ieq y2.snd 0)) (bnot (ieq y8.snd 0))) (bnot (ieq y9.snd 0))) (bnot y10)) (some (x0, 3)) (some (SCell.mk x0.pos y8.fst x0.sell y9.fst, 0))))
noncomputable def C_cell_Go : Cx := { P := PG, ety := ety, fn := look [(52, spec_cell_Right), (47, spec_order_Right), (94, spec_order_Worth), (95, spec_order_Open), (89, spec_num_Sub)], inl := memN [85], lp := lookLp [] }
theorem F_cell_Go_eq (x0 : SCell) (x1 : SOrder) : runFn C_cell_Go 68 [.val .cell, .val .order] [.val .cell, .int .i64] (x0, x1) = F_cell_Go x0 x1 := by kernel_rfl
def spec_cell_Go : FnSpec := mkSpec [.val .cell, .val .order] [.val .cell, .int .i64] true (fun x => F_cell_Go x.1 x.2)
theorem ok_cell_Go : FnOk PG 68 spec_cell_Go :=
  have K : CxR C_cell_Go := seatOk.cx (fun _ => rfl) (l := [(52, spec_cell_Right), (47, spec_order_Right), (94, spec_order_Worth), (95, spec_order_Open), (89, spec_num_Sub)]) ⟨ok_cell_Right, ok_order_Right, ok_order_Worth, ok_order_Open, ok_num_Sub, trivial⟩
  fn_entry K (lps_from (l := []) rfl trivial) (by kernel_rfl) (fun x y h => (F_cell_Go_eq x.1 x.2).trans h) rfl rfl

def F_order_End (x0 : SOrder) : Option (SOrder × Int) := obind (F_order_Right x0) fun y0 ↦ cnd (bnot y0) (some (x0, 1)) (cnd (ieq x0.phase 3) (cnd (ieq x0.phase 3) (some (x0, 8)) (some (SOrder.mk x0.id x0.account x0.symbol x0.side x0.qty x0.price x0.filled x0.phase x0.newQty x0.newPrice x0.version true, 0))) (cnd x0.asked (some (x0, 8)) (some (SOrder.mk x0.id x0.account x0.symbol x0.side x0.qty x0.price x0.filled x0.phase x0.newQty x0.newPrice x0.version true, 0))))
noncomputable def C_order_End : Cx := { P := PG, ety := ety, fn := look [(47, spec_order_Right)], inl := memN [], lp := lookLp [] }
theorem F_order_End_eq (x0 : SOrder) : runFn C_order_End 69 [.val .order] [.val .order, .int .i64] x0 = F_order_End x0 := by kernel_rfl
def spec_order_End : FnSpec := mkSpec [.val .order] [.val .order, .int .i64] true (fun x => F_order_End x)
theorem ok_order_End : FnOk PG 69 spec_order_End :=
  have K : CxR C_order_End := seatOk.cx (fun _ => rfl) (l := [(47, spec_order_Right)]) ⟨ok_order_Right, trivial⟩
  fn_entry K (lps_from (l := []) rfl trivial) (by kernel_rfl) (fun x y h => (F_order_End_eq x).trans h) rfl rfl

def F_order_settled (x0 : SOrder) : Option (SOrder) := some (SOrder.mk x0.id x0.account x0.symbol x0.side x0.qty x0.price x0.filled x0.phase 0 0 x0.version x0.asked)
noncomputable def C_order_settled : Cx := { P := PG, ety := ety, fn := look [], inl := memN [], lp := lookLp [] }
theorem F_order_settled_eq (x0 : SOrder) : runFn C_order_settled 98 [.val .order] [.val .order] x0 = F_order_settled x0 := by kernel_rfl
def spec_order_settled : FnSpec := mkSpec [.val .order] [.val .order] true (fun x => F_order_settled x)
theorem ok_order_settled : FnOk PG 98 spec_order_settled :=
  have K : CxR C_order_settled := seatOk.cx (fun _ => rfl) (l := []) trivial
  fn_entry K (lps_from (l := []) rfl trivial) (by kernel_rfl) (fun x y h => (F_order_settled_eq x).trans h) rfl rfl

def F_order_done (x0 : SOrder) : Option (SOrder) := obind (F_order_settled (SOrder.mk x0.id x0.account x0.symbol x0.side x0.qty x0.price x0.filled 3 x0.newQty x0.newPrice x0.version x0.asked)) fun y0 ↦ some y0
noncomputable def C_order_done : Cx := { P := PG, ety := ety, fn := look [(98, spec_order_settled)], inl := memN [], lp := lookLp [] }
theorem F_order_done_eq (x0 : SOrder) : runFn C_order_done 97 [.val .order] [.val .order] x0 = F_order_done x0 := by kernel_rfl
def spec_order_done : FnSpec := mkSpec [.val .order] [.val .order] true (fun x => F_order_done x)
theorem ok_order_done : FnOk PG 97 spec_order_done :=
  have K : CxR C_order_done := seatOk.cx (fun _ => rfl) (l := [(98, spec_order_settled)]) ⟨ok_order_settled, trivial⟩
  fn_entry K (lps_from (l := []) rfl trivial) (by kernel_rfl) (fun x y h => (F_order_done_eq x).trans h) rfl rfl

def F_order_sent (x0 : SOrder) (x1 : SNote) : Option (SOrder × Bool) := cnd (ieq x1.what 1) (some (SOrder.mk x0.id x0.account x0.symbol x0.side x0.qty x0.price x0.filled 2 x0.newQty x0.newPrice x0.version x0.asked, true)) (cnd (ieq x1.what 2) (obind (F_order_done x0) fun y0 ↦ some (y0, true)) (some (x0, false)))
noncomputable def C_order_sent : Cx := { P := PG, ety := ety, fn := look [(97, spec_order_done)], inl := memN [], lp := lookLp [] }
theorem F_order_sent_eq (x0 : SOrder) (x1 : SNote) : runFn C_order_sent 90 [.val .order, .val .note] [.val .order, .bool] (x0, x1) = F_order_sent x0 x1 := by kernel_rfl
def spec_order_sent : FnSpec := mkSpec [.val .order, .val .note] [.val .order, .bool] true (fun x => F_order_sent x.1 x.2)
theorem ok_order_sent : FnOk PG 90 spec_order_sent :=
  have K : CxR C_order_sent := seatOk.cx (fun _ => rfl) (l := [(97, spec_order_done)]) ⟨ok_order_done, trivial⟩
  fn_entry K (lps_from (l := []) rfl trivial) (by kernel_rfl) (fun x y h => (F_order_sent_eq x.1 x.2).trans h) rfl rfl

def F_order_live (x0 : SOrder) (x1 : SNote) : Option (SOrder × Bool) := cnd (ieq x1.what 3) (cnd (ilt (wr IntKind.i64 (isub x0.qty x0.filled)) x1.qty) (some (x0, false)) (cnd (ilt (wr IntKind.i64 (iadd x0.filled x1.qty)) x0.qty) (some (SOrder.mk x0.id x0.account x0.symbol x0.side x0.qty x0.price (wr IntKind.i64 (iadd x0.filled x1.qty)) x0.phase x0.newQty x0.newPrice x0.version x0.asked, true)) (obind (F_order_done (SOrder.mk x0.id x0.account x0.symbol x0.side x0.qty x0.price (wr IntKind.i64 (iadd x0.filled x1.qty)) x0.phase x0.newQty x0.newPrice x0.version x0.asked)) fun y0 ↦ some (y0, true)))) (cnd (ieq x1.what 4) (obind (F_order_done x0) fun y1 ↦ some (y1, true)) (cnd (ieq x1.what 5) (obind (F_order_pending x0) fun y2 ↦ cnd (bor (bor (bor (bnot y2) (bnot (ieq x1.qty x0.newQty))) (bnot (ieq x1.price x0.newPrice))) (ile x1.qty x0.filled)) (some (x0, false)) (obind (F_order_settled (SOrder.mk x0.id x0.account x0.symbol x0.side x1.qty x1.price x0.filled x0.phase x0.newQty x0.newPrice x0.version x0.asked)) fun y3 ↦ some (y3, true))) (cnd (ieq x1.what 6) (obind (F_order_settled x0) fun y4 ↦ obind (F_order_pending x0) fun y5 ↦ some (y4, y5)) (some (x0, false)))))
noncomputable def C_order_live : Cx := { P := PG, ety := ety, fn := look [(97, spec_order_done), (74, spec_order_pending), (98, spec_order_settled)], inl := memN [], lp := lookLp [] }
theorem F_order_live_eq (x0 : SOrder) (x1 : SNote) : runFn C_order_live 91 [.val .order, .val .note] [.val .order, .bool] (x0, x1) = F_order_live x0 x1 := by kernel_rfl
def spec_order_live : FnSpec := mkSpec [.val .order, .val .note] [.val .order, .bool] true (fun x => F_order_live x.1 x.2)
theorem ok_order_live : FnOk PG 91 spec_order_live :=
  have K : CxR C_order_live := seatOk.cx (fun _ => rfl) (l := [(97, spec_order_done), (74, spec_order_pending), (98, spec_order_settled)]) ⟨ok_order_done, ok_order_pending, ok_order_settled, trivial⟩
  fn_entry K (lps_from (l := []) rfl trivial) (by kernel_rfl) (fun x y h => (F_order_live_eq x.1 x.2).trans h) rfl rfl

def F_order_Take (x0 : SOrder) (x1 : SNote) : Option (SOrder × Int) := obind (F_order_Right x0) fun y0 ↦ obind (cnd (bnot (bnot y0)) (F_rec_OfNote x1) (some (SRec.mk 0 0 0 0 0 0 0 0 0 0 false 0 0))) fun y1 ↦ obind (cnd (bnot (bnot y0)) (F_rec_Right y1) (some false)) fun y2 ↦ cnd (bor (bor (bnot y0) (bnot y2)) (bnot (ieq x1.order x0.id))) (some (x0, 1)) (cnd (ieq x0.phase 1) (obind (F_order_sent x0 x1) fun y3 ↦ cnd (bnot y3.snd) (some (x0, 8)) (some (y3.fst, 0))) (cnd (ieq x0.phase 2) (obind (F_order_live x0 x1) fun y4 ↦ cnd (bnot y4.snd) (some (x0, 8)) (some (y4.fst, 0))) (some (x0, 8))))
noncomputable def C_order_Take : Cx := { P := PG, ety := ety, fn := look [(47, spec_order_Right), (14, spec_rec_OfNote), (13, spec_rec_Right), (90, spec_order_sent), (91, spec_order_live)], inl := memN [], lp := lookLp [] }
theorem F_order_Take_eq (x0 : SOrder) (x1 : SNote) : runFn C_order_Take 70 [.val .order, .val .note] [.val .order, .int .i64] (x0, x1) = F_order_Take x0 x1 := by kernel_rfl
def spec_order_Take : FnSpec := mkSpec [.val .order, .val .note] [.val .order, .int .i64] true (fun x => F_order_Take x.1 x.2)
theorem ok_order_Take : FnOk PG 70 spec_order_Take :=
  have K : CxR C_order_Take := seatOk.cx (fun _ => rfl) (l := [(47, spec_order_Right), (14, spec_rec_OfNote), (13, spec_rec_Right), (90, spec_order_sent), (91, spec_order_live)]) ⟨ok_order_Right, ok_rec_OfNote, ok_rec_Right, ok_order_sent, ok_order_live, trivial⟩
  fn_entry K (lps_from (l := []) rfl trivial) (by kernel_rfl) (fun x y h => (F_order_Take_eq x.1 x.2).trans h) rfl rfl

def F_cell_Did (x0 : SCell) (x1 : Int) (x2 : Int) : Option (SCell × Int) := obind (F_cell_Right x0) fun y0 ↦ cnd (bor (bor (bnot y0) (band (bnot (ieq x1 1)) (bnot (ieq x1 2)))) (ilt x2 0)) (some (x0, 1)) (cnd (ieq x1 1) (obind (F_num_Add x0.pos x2) fun y1 ↦ obind (cnd (bnot (bnot (ieq y1.snd 0))) (F_cell_Right (SCell.mk y1.fst x0.buy x0.sell x0.opn)) (some false)) fun y2 ↦ cnd (bor (bnot (ieq y1.snd 0)) (bnot y2)) (some (x0, 3)) (some (SCell.mk y1.fst x0.buy x0.sell x0.opn, 0))) (obind (F_num_Sub x0.pos x2) fun y3 ↦ obind (cnd (bnot (bnot (ieq y3.snd 0))) (F_cell_Right (SCell.mk y3.fst x0.buy x0.sell x0.opn)) (some false)) fun y4 ↦ cnd (bor (bnot (ieq y3.snd 0)) (bnot y4)) (some (x0, 3)) (some (SCell.mk y3.fst x0.buy x0.sell x0.opn, 0))))
noncomputable def C_cell_Did : Cx := { P := PG, ety := ety, fn := look [(52, spec_cell_Right), (37, spec_num_Add), (89, spec_num_Sub)], inl := memN [], lp := lookLp [] }
theorem F_cell_Did_eq (x0 : SCell) (x1 : Int) (x2 : Int) : runFn C_cell_Did 71 [.val .cell, .int .i64, .int .i64] [.val .cell, .int .i64] (x0, x1, x2) = F_cell_Did x0 x1 x2 := by kernel_rfl
def spec_cell_Did : FnSpec := mkSpec [.val .cell, .int .i64, .int .i64] [.val .cell, .int .i64] true (fun x => F_cell_Did x.1 x.2.1 x.2.2)
theorem ok_cell_Did : FnOk PG 71 spec_cell_Did :=
  have K : CxR C_cell_Did := seatOk.cx (fun _ => rfl) (l := [(52, spec_cell_Right), (37, spec_num_Add), (89, spec_num_Sub)]) ⟨ok_cell_Right, ok_num_Add, ok_num_Sub, trivial⟩
  fn_entry K (lps_from (l := []) rfl trivial) (by kernel_rfl) (fun x y h => (F_cell_Did_eq x.1 x.2.1 x.2.2).trans h) rfl rfl

def F_slices_Delete_api_Order (x0 : (List SOrder)) (x1 : Int) (x2 : Int) : Option ((List SOrder)) := cnd (band (band (band (ile 0 x1) (ile x1 x2)) (ile x2 (len x0))) (band (ile x2 (len x0)) (ile (len x0) (len x0)))) (cnd (ieq x1 x2) (some x0) (cnd (band (ile 0 x1) (ile x1 (len x0))) (cnd (band (ile 0 x2) (ile x2 (len x0))) (cnd (ile (iadd (nti (itn x1)) (len (ltake (ldrop x0 (itn x2)) (itn (isub (len x0) x2))))) (len x0)) (cnd (band (band (ile 0 (nti (nad (itn x1) (itn (len (ltake (ldrop x0 (itn x2)) (itn (isub (len x0) x2)))))))) (ile (nti (nad (itn x1) (itn (len (ltake (ldrop x0 (itn x2)) (itn (isub (len x0) x2))))))) (len x0))) (ile (len x0) (isub (len (lcpy x0 (itn x1) (ltake (ldrop x0 (itn x2)) (itn (isub (len x0) x2))))) 0))) (some (ltake (ldrop (lcpy (lcpy x0 (itn x1) (ltake (ldrop x0 (itn x2)) (itn (isub (len x0) x2)))) (nad 0 (itn (nti (nad (itn x1) (itn (len (ltake (ldrop x0 (itn x2)) (itn (isub (len x0) x2))))))))) (lrep SOrder (itn (isub (len x0) (nti (nad (itn x1) (itn (len (ltake (ldrop x0 (itn x2)) (itn (isub (len x0) x2))))))))))) 0) (nad (itn x1) (itn (len (ltake (ldrop x0 (itn x2)) (itn (isub (len x0) x2)))))))) none) none) none) none)) none
noncomputable def C_slices_Delete_api_Order : Cx := { P := PG, ety := ety, fn := look [], inl := memN [], lp := lookLp [] }
theorem F_slices_Delete_api_Order_eq (x0 : (List SOrder)) (x1 : Int) (x2 : Int) : runFn C_slices_Delete_api_Order 72 [.buf .order, .int .i64, .int .i64] [.ro .order] (x0, x1, x2) = F_slices_Delete_api_Order x0 x1 x2 := by kernel_rfl
def spec_slices_Delete_api_Order : FnSpec := mkSpec [.buf .order, .int .i64, .int .i64] [.ro .order] false (fun x => F_slices_Delete_api_Order x.1 x.2.1 x.2.2)
theorem ok_slices_Delete_api_Order : FnOk PG 72 spec_slices_Delete_api_Order :=
  have K : CxR C_slices_Delete_api_Order := seatOk.cx (fun _ => rfl) (l := []) trivial
  fn_entry K (lps_from (l := []) rfl trivial) (by kernel_rfl) (fun x y h => (F_slices_Delete_api_Order_eq x.1 x.2.1 x.2.2).trans h) rfl rfl

def F_book_Do (x0 : SState) (x1 : SRec) : Option (SState × Int) := obind (F_num_Add x0.lsn 1) fun y0 ↦ obind (cnd (bnot (bor (bnot (ieq y0.snd 0)) (ile 1000000000 x0.lsn))) (F_rec_Right x1) (some false)) fun y1 ↦ obind (cnd (bnot (bor (bor (bnot (ieq y0.snd 0)) (ile 1000000000 x0.lsn)) (bnot y1))) (F_book_Right x0) (some false)) fun y2 ↦ cnd (bor (bor (bor (bnot (ieq y0.snd 0)) (ile 1000000000 x0.lsn)) (bnot y1)) (bnot y2)) (some (x0, 1)) (obind (F_slices_Clone_api_Order x0.orders) fun y3 ↦ obind (F_slices_Clone_api_Cell x0.cells) fun y4 ↦ obind (F_slices_Clone_api_Expo x0.limits) fun y5 ↦ obind (F_slices_Clone_int64 x0.caps) fun y6 ↦ cnd (ieq x1.kind 1) (obind (F_order_Begin x1) fun y7 ↦ cnd (ile x1.order x0.last) (cnd (ile x1.order x0.last) (some (x0, 1)) (cnd x0.kill (some (x0, 5)) (cnd (ieq (len y3) 64) (some (x0, 6)) (obind (F_slices_Clone_api_Order y3) fun y8 ↦ obind (F_slices_Clone_api_Cell y4) fun y9 ↦ obind (F_slices_Clone_api_Expo y5) fun y10 ↦ obind (F_slices_Clone_int64 y6) fun y11 ↦ obind (F_book_ledger_cellOf (SState.mk x0.accounts x0.symbols y3 y4 y5 y6 x0.kill x0.last x0.seq x0.lsn) y7.fst.account y7.fst.symbol) fun y12 ↦ cnd (band (ile 0 y12) (ilt y12 (len y4))) (obind (F_cell_Come (lget y4 (itn y12)) y7.fst) fun y13 ↦ cnd (bnot (ieq y13.snd 0)) (some (x0, 3)) (cnd (ile (len (lapp y3 [y7.fst])) 68719476736) (obind (F_book_ledger_bears (SState.mk x0.accounts x0.symbols (lapp y3 [y7.fst]) (lset y4 (itn y12) y13.fst) y5 y6 x0.kill y7.fst.id x0.seq x0.lsn) (SState.mk x0.accounts x0.symbols y8 y9 y10 y11 x0.kill x0.last x0.seq x0.lsn) y7.fst.account y7.fst.symbol) fun y14 ↦ cnd (bnot (ieq y14 0)) (some (x0, y14)) (some (SState.mk x0.accounts x0.symbols (lapp y3 [y7.fst]) (lset y4 (itn y12) y13.fst) y5 y6 x0.kill y7.fst.id x0.seq (wr IntKind.i64 (iadd x0.lsn 1)), 0))) none)) none)))) (cnd (ile x0.accounts x1.account) (cnd (ile x0.accounts x1.account) (some (x0, 1)) (cnd x0.kill (some (x0, 5)) (cnd (ieq (len y3) 64) (some (x0, 6)) (obind (F_slices_Clone_api_Order y3) fun y15 ↦ obind (F_slices_Clone_api_Cell y4) fun y16 ↦ obind (F_slices_Clone_api_Expo y5) fun y17 ↦ obind (F_slices_Clone_int64 y6) fun y18 ↦ obind (F_book_ledger_cellOf (SState.mk x0.accounts x0.symbols y3 y4 y5 y6 x0.kill x0.last x0.seq x0.lsn) y7.fst.account y7.fst.symbol) fun y19 ↦ cnd (band (ile 0 y19) (ilt y19 (len y4))) (obind (F_cell_Come (lget y4 (itn y19)) y7.fst) fun y20 ↦ cnd (bnot (ieq y20.snd 0)) (some (x0, 3)) (cnd (ile (len (lapp y3 [y7.fst])) 68719476736) (obind (F_book_ledger_bears (SState.mk x0.accounts x0.symbols (lapp y3 [y7.fst]) (lset y4 (itn y19) y20.fst) y5 y6 x0.kill y7.fst.id x0.seq x0.lsn) (SState.mk x0.accounts x0.symbols y15 y16 y17 y18 x0.kill x0.last x0.seq x0.lsn) y7.fst.account y7.fst.symbol) fun y21 ↦ cnd (bnot (ieq y21 0)) (some (x0, y21)) (some (SState.mk x0.accounts x0.symbols (lapp y3 [y7.fst]) (lset y4 (itn y19) y20.fst) y5 y6 x0.kill y7.fst.id x0.seq (wr IntKind.i64 (iadd x0.lsn 1)), 0))) none)) none)))) (cnd (ile x0.symbols x1.symbol) (some (x0, 1)) (cnd x0.kill (some (x0, 5)) (cnd (ieq (len y3) 64) (some (x0, 6)) (obind (F_slices_Clone_api_Order y3) fun y22 ↦ obind (F_slices_Clone_api_Cell y4) fun y23 ↦ obind (F_slices_Clone_api_Expo y5) fun y24 ↦ obind (F_slices_Clone_int64 y6) fun y25 ↦ obind (F_book_ledger_cellOf (SState.mk x0.accounts x0.symbols y3 y4 y5 y6 x0.kill x0.last x0.seq x0.lsn) y7.fst.account y7.fst.symbol) fun y26 ↦ cnd (band (ile 0 y26) (ilt y26 (len y4))) (obind (F_cell_Come (lget y4 (itn y26)) y7.fst) fun y27 ↦ cnd (bnot (ieq y27.snd 0)) (some (x0, 3)) (cnd (ile (len (lapp y3 [y7.fst])) 68719476736) (obind (F_book_ledger_bears (SState.mk x0.accounts x0.symbols (lapp y3 [y7.fst]) (lset y4 (itn y26) y27.fst) y5 y6 x0.kill y7.fst.id x0.seq x0.lsn) (SState.mk x0.accounts x0.symbols y22 y23 y24 y25 x0.kill x0.last x0.seq x0.lsn) y7.fst.account y7.fst.symbol) fun y28 ↦ cnd (bnot (ieq y28 0)) (some (x0, y28)) (some (SState.mk x0.accounts x0.symbols (lapp y3 [y7.fst]) (lset y4 (itn y26) y27.fst) y5 y6 x0.kill y7.fst.id x0.seq (wr IntKind.i64 (iadd x0.lsn 1)), 0))) none)) none)))))) (cnd (ieq x1.kind 2) (obind (F_book_Find (SState.mk x0.accounts x0.symbols y3 y4 y5 y6 x0.kill x0.last x0.seq x0.lsn) x1.order) fun y29 ↦ cnd (ieq y29 (-1)) (some (x0, 7)) (cnd (band (ile 0 y29) (ilt y29 (len y3))) (obind (F_order_Change (lget y3 (itn y29)) x1.qty x1.price) fun y30 ↦ cnd (bnot (ieq y30.snd 0)) (some (x0, 8)) (cnd x0.kill (some (x0, 5)) (obind (F_slices_Clone_api_Order y3) fun y31 ↦ obind (F_slices_Clone_api_Cell y4) fun y32 ↦ obind (F_slices_Clone_api_Expo y5) fun y33 ↦ obind (F_slices_Clone_int64 y6) fun y34 ↦ obind (F_book_ledger_cellOf (SState.mk x0.accounts x0.symbols y3 y4 y5 y6 x0.kill x0.last x0.seq x0.lsn) (lget y3 (itn y29)).account (lget y3 (itn y29)).symbol) fun y35 ↦ cnd (band (ile 0 y35) (ilt y35 (len y4))) (obind (F_cell_Go (lget y4 (itn y35)) (lget y3 (itn y29))) fun y36 ↦ obind (F_cell_Come y36.fst y30.fst) fun y37 ↦ cnd (bnot (ieq y37.snd 0)) (some (x0, 3)) (cnd (band (ile 0 y29) (ilt y29 (len y3))) (obind (F_book_ledger_bears (SState.mk x0.accounts x0.symbols (lset y3 (itn y29) y30.fst) (lset y4 (itn y35) y37.fst) y5 y6 x0.kill x0.last x0.seq x0.lsn) (SState.mk x0.accounts x0.symbols y31 y32 y33 y34 x0.kill x0.last x0.seq x0.lsn) (lget y3 (itn y29)).account (lget y3 (itn y29)).symbol) fun y38 ↦ cnd (bnot (ieq y38 0)) (some (x0, y38)) (some (SState.mk x0.accounts x0.symbols (lset y3 (itn y29) y30.fst) (lset y4 (itn y35) y37.fst) y5 y6 x0.kill x0.last x0.seq (wr IntKind.i64 (iadd x0.lsn 1)), 0))) none)) none))) none)) (cnd (ieq x1.kind 3) (obind (F_book_Find (SState.mk x0.accounts x0.symbols y3 y4 y5 y6 x0.kill x0.last x0.seq x0.lsn) x1.order) fun y39 ↦ cnd (ieq y39 (-1)) (some (x0, 7)) (cnd (band (ile 0 y39) (ilt y39 (len y3))) (obind (F_order_End (lget y3 (itn y39))) fun y40 ↦ cnd (band (ile 0 y39) (ilt y39 (len y3))) (cnd (bnot (ieq y40.snd 0)) (some (x0, y40.snd)) (some (SState.mk x0.accounts x0.symbols (lset y3 (itn y39) y40.fst) y4 y5 y6 x0.kill x0.last x0.seq (wr IntKind.i64 (iadd x0.lsn 1)), 0))) none) none)) (cnd (ieq x1.kind 4) (cnd (ile x0.accounts x1.account) (cnd (ile x0.accounts x1.account) (some (x0, 1)) (cnd (ieq x1.symbol (-1)) (cnd (band (ile 0 x1.account) (ilt x1.account (len y6))) (some (SState.mk x0.accounts x0.symbols y3 y4 y5 (lset y6 (itn x1.account) x1.opn) x0.kill x0.last x0.seq (wr IntKind.i64 (iadd x0.lsn 1)), 0)) none) (obind (F_book_ledger_cellOf (SState.mk x0.accounts x0.symbols y3 y4 y5 y6 x0.kill x0.last x0.seq x0.lsn) x1.account x1.symbol) fun y41 ↦ cnd (band (ile 0 y41) (ilt y41 (len y5))) (some (SState.mk x0.accounts x0.symbols y3 y4 (lset y5 (itn y41) (SExpo.mk x1.long x1.short x1.opn)) y6 x0.kill x0.last x0.seq (wr IntKind.i64 (iadd x0.lsn 1)), 0)) none))) (cnd (ile x0.symbols x1.symbol) (some (x0, 1)) (cnd (ieq x1.symbol (-1)) (cnd (band (ile 0 x1.account) (ilt x1.account (len y6))) (some (SState.mk x0.accounts x0.symbols y3 y4 y5 (lset y6 (itn x1.account) x1.opn) x0.kill x0.last x0.seq (wr IntKind.i64 (iadd x0.lsn 1)), 0)) none) (obind (F_book_ledger_cellOf (SState.mk x0.accounts x0.symbols y3 y4 y5 y6 x0.kill x0.last x0.seq x0.lsn) x1.account x1.symbol) fun y42 ↦ cnd (band (ile 0 y42) (ilt y42 (len y5))) (some (SState.mk x0.accounts x0.symbols y3 y4 (lset y5 (itn y42) (SExpo.mk x1.long x1.short x1.opn)) y6 x0.kill x0.last x0.seq (wr IntKind.i64 (iadd x0.lsn 1)), 0)) none)))) (cnd (ieq x1.kind 5) (some (SState.mk x0.accounts x0.symbols y3 y4 y5 y6 x1.on x0.last x0.seq (wr IntKind.i64 (iadd x0.lsn 1)), 0)) (cnd (bnot (ieq x1.seq (wr IntKind.i64 (iadd x0.seq 1)))) (some (x0, 11)) (obind (F_book_Find (SState.mk x0.accounts x0.symbols y3 y4 y5 y6 x0.kill x0.last x1.seq x0.lsn) x1.order) fun y43 ↦ cnd (ieq y43 (-1)) (some (SState.mk x0.accounts x0.symbols y3 y4 y5 y6 x0.kill x0.last x1.seq (wr IntKind.i64 (iadd x0.lsn 1)), 0)) (cnd (band (ile 0 y43) (ilt y43 (len y3))) (obind (F_order_Take (lget y3 (itn y43)) (SNote.mk x1.seq x1.what x1.order x1.qty x1.price)) fun y44 ↦ cnd (bnot (ieq y44.snd 0)) (some (SState.mk x0.accounts x0.symbols y3 y4 y5 y6 x0.kill x0.last x1.seq (wr IntKind.i64 (iadd x0.lsn 1)), 0)) (obind (F_book_ledger_cellOf (SState.mk x0.accounts x0.symbols y3 y4 y5 y6 x0.kill x0.last x1.seq x0.lsn) (lget y3 (itn y43)).account (lget y3 (itn y43)).symbol) fun y45 ↦ cnd (band (ile 0 y45) (ilt y45 (len y4))) (obind (F_cell_Go (lget y4 (itn y45)) (lget y3 (itn y43))) fun y46 ↦ obind (F_cell_Come (lget (lset y4 (itn y45) y46.fst) (itn y45)) y44.fst) fun y47 ↦ cnd (ieq x1.what 3) (obind (F_cell_Did (lget (lset (lset y4 (itn y45) y46.fst) (itn y45) y47.fst) (itn y45)) (lget y3 (itn y43)).side x1.qty) fun y48 ↦ cnd (band (ile 0 y43) (ilt y43 (len y3))) (cnd (ieq y44.fst.phase 3) (obind (F_slices_Delete_api_Order (lset y3 (itn y43) y44.fst) y43 (wr IntKind.i64 (iadd y43 1))) fun y49 ↦ some (SState.mk x0.accounts x0.symbols y49 (lset (lset (lset y4 (itn y45) y46.fst) (itn y45) y47.fst) (itn y45) y48.fst) y5 y6 x0.kill x0.last x1.seq (wr IntKind.i64 (iadd x0.lsn 1)), 0)) (some (SState.mk x0.accounts x0.symbols (lset y3 (itn y43) y44.fst) (lset (lset (lset y4 (itn y45) y46.fst) (itn y45) y47.fst) (itn y45) y48.fst) y5 y6 x0.kill x0.last x1.seq (wr IntKind.i64 (iadd x0.lsn 1)), 0))) none) (cnd (band (ile 0 y43) (ilt y43 (len y3))) (cnd (ieq y44.fst.phase 3) (obind (F_slices_Delete_api_Order (lset y3 (itn y43) y44.fst) y43 (wr IntKind.i64 (iadd y43 1))) fun y50 ↦ some (SState.mk x0.accounts x0.symbols y50 (lset (lset y4 (itn y45) y46.fst) (itn y45) y47.fst) y5 y6 x0.kill x0.last x1.seq (wr IntKind.i64 (iadd x0.lsn 1)), 0)) (some (SState.mk x0.accounts x0.symbols (lset y3 (itn y43) y44.fst) (lset (lset y4 (itn y45) y46.fst) (itn y45) y47.fst) y5 y6 x0.kill x0.last x1.seq (wr IntKind.i64 (iadd x0.lsn 1)), 0))) none)) none)) none))))))))
noncomputable def C_book_Do : Cx := { P := PG, ety := ety, fn := look [(37, spec_num_Add), (13, spec_rec_Right), (15, spec_book_Right), (59, spec_slices_Clone_api_Order), (60, spec_slices_Clone_api_Cell), (61, spec_slices_Clone_api_Expo), (62, spec_slices_Clone_int64), (63, spec_order_Begin), (64, spec_book_ledger_cellOf), (65, spec_cell_Come), (66, spec_book_ledger_bears), (21, spec_book_Find), (67, spec_order_Change), (68, spec_cell_Go), (69, spec_order_End), (70, spec_order_Take), (71, spec_cell_Did), (72, spec_slices_Delete_api_Order)], inl := memN [38, 39, 40, 41, 42, 43], lp := lookLp [] }
theorem F_book_Do_eq (x0 : SState) (x1 : SRec) : runFn C_book_Do 19 [.val .state, .val .recd] [.val .state, .int .i64] (x0, x1) = F_book_Do x0 x1 := by kernel_rfl
def spec_book_Do : FnSpec := mkSpec [.val .state, .val .recd] [.val .state, .int .i64] false (fun x => F_book_Do x.1 x.2)
theorem ok_book_Do : FnOk PG 19 spec_book_Do :=
  have K : CxR C_book_Do := seatOk.cx (fun _ => rfl) (l := [(37, spec_num_Add), (13, spec_rec_Right), (15, spec_book_Right), (59, spec_slices_Clone_api_Order), (60, spec_slices_Clone_api_Cell), (61, spec_slices_Clone_api_Expo), (62, spec_slices_Clone_int64), (63, spec_order_Begin), (64, spec_book_ledger_cellOf), (65, spec_cell_Come), (66, spec_book_ledger_bears), (21, spec_book_Find), (67, spec_order_Change), (68, spec_cell_Go), (69, spec_order_End), (70, spec_order_Take), (71, spec_cell_Did), (72, spec_slices_Delete_api_Order)]) ⟨ok_num_Add, ok_rec_Right, ok_book_Right, ok_slices_Clone_api_Order, ok_slices_Clone_api_Cell, ok_slices_Clone_api_Expo, ok_slices_Clone_int64, ok_order_Begin, ok_book_ledger_cellOf, ok_cell_Come, ok_book_ledger_bears, ok_book_Find, ok_order_Change, ok_cell_Go, ok_order_End, ok_order_Take, ok_cell_Did, ok_slices_Delete_api_Order, trivial⟩
  fn_entry K (lps_from (l := []) rfl trivial) (by kernel_rfl) (fun x y h => (F_book_Do_eq x.1 x.2).trans h) rfl rfl

def F_plain_done (x0 : SPlain) (x1 : SRec) (x2 : (List Int)) : Option (SState × Int) := obind (F_plain_Right x0) fun y0 ↦ obind (cnd (bnot (bnot y0)) (F_slices_Contains_int x2 x1.kind) (some false)) fun y1 ↦ cnd (bor (bnot y0) (bnot y1)) (some (x0.state, 1)) (obind (F_book_Do x0.state x1) fun y2 ↦ some y2)
noncomputable def C_plain_done : Cx := { P := PG, ety := ety, fn := look [(6, spec_plain_Right), (44, spec_slices_Contains_int), (19, spec_book_Do)], inl := memN [], lp := lookLp [] }
theorem F_plain_done_eq (x0 : SPlain) (x1 : SRec) (x2 : (List Int)) : runFn C_plain_done 20 [.val .plain, .val .recd, .ro .i64] [.val .state, .int .i64] (x0, x1, x2) = F_plain_done x0 x1 x2 := by kernel_rfl
def spec_plain_done : FnSpec := mkSpec [.val .plain, .val .recd, .ro .i64] [.val .state, .int .i64] false (fun x => F_plain_done x.1 x.2.1 x.2.2)
theorem ok_plain_done : FnOk PG 20 spec_plain_done :=
  have K : CxR C_plain_done := seatOk.cx (fun _ => rfl) (l := [(6, spec_plain_Right), (44, spec_slices_Contains_int), (19, spec_book_Do)]) ⟨ok_plain_Right, ok_slices_Contains_int, ok_book_Do, trivial⟩
  fn_entry K (lps_from (l := []) rfl trivial) (by kernel_rfl) (fun x y h => (F_plain_done_eq x.1 x.2.1 x.2.2).trans h) rfl rfl

def F_slices_Clone_api_Msg (x0 : (List SMsg)) : Option ((List SMsg)) := nilq (len x0) fun y0 ↦ cnd (beq y0 true) (some []) (cnd (ile (len x0) 68719476736) (some x0) none)
noncomputable def C_slices_Clone_api_Msg : Cx := { P := PG, ety := ety, fn := look [], inl := memN [], lp := lookLp [] }
theorem F_slices_Clone_api_Msg_eq (x0 : (List SMsg)) : runFn C_slices_Clone_api_Msg 22 [.ro .msg] [.buf .msg] x0 = F_slices_Clone_api_Msg x0 := by kernel_rfl
def spec_slices_Clone_api_Msg : FnSpec := mkSpec [.ro .msg] [.buf .msg] true (fun x => F_slices_Clone_api_Msg x)
theorem ok_slices_Clone_api_Msg : FnOk PG 22 spec_slices_Clone_api_Msg :=
  have K : CxR C_slices_Clone_api_Msg := seatOk.cx (fun _ => rfl) (l := []) trivial
  fn_entry K (lps_from (l := []) rfl trivial) (by kernel_rfl) (fun x y h => (F_slices_Clone_api_Msg_eq x).trans h) rfl rfl

def F_outbox_Of (x0 : Int) (x1 : SOrder) (x2 : Int) : Option (SMsg) := cnd (ieq x0 1) (obind (F_order_Right x1) fun y0 ↦ obind (cnd (bnot (bnot y0)) (F_venue_RightMsg (SMsg.mk x0 x1.id x1.account x1.symbol x1.side x1.qty x1.price 0 x2)) (some false)) fun y1 ↦ cnd (bor (bnot y0) (bnot y1)) (some (SMsg.mk 0 0 0 0 0 0 0 0 0)) (some (SMsg.mk x0 x1.id x1.account x1.symbol x1.side x1.qty x1.price 0 x2))) (cnd (ieq x0 2) (obind (F_order_Right x1) fun y2 ↦ obind (cnd (bnot (bnot y2)) (F_venue_RightMsg (SMsg.mk x0 x1.id x1.account x1.symbol x1.side x1.newQty x1.newPrice x1.version x2)) (some false)) fun y3 ↦ cnd (bor (bnot y2) (bnot y3)) (some (SMsg.mk 0 0 0 0 0 0 0 0 0)) (some (SMsg.mk x0 x1.id x1.account x1.symbol x1.side x1.newQty x1.newPrice x1.version x2))) (obind (F_order_Right x1) fun y4 ↦ obind (cnd (bnot (bnot y4)) (F_venue_RightMsg (SMsg.mk x0 x1.id x1.account x1.symbol x1.side 0 0 0 x2)) (some false)) fun y5 ↦ cnd (bor (bnot y4) (bnot y5)) (some (SMsg.mk 0 0 0 0 0 0 0 0 0)) (some (SMsg.mk x0 x1.id x1.account x1.symbol x1.side 0 0 0 x2))))
noncomputable def C_outbox_Of : Cx := { P := PG, ety := ety, fn := look [(47, spec_order_Right), (32, spec_venue_RightMsg)], inl := memN [], lp := lookLp [] }
theorem F_outbox_Of_eq (x0 : Int) (x1 : SOrder) (x2 : Int) : runFn C_outbox_Of 23 [.int .i64, .val .order, .int .i64] [.val .msg] (x0, x1, x2) = F_outbox_Of x0 x1 x2 := by kernel_rfl
def spec_outbox_Of : FnSpec := mkSpec [.int .i64, .val .order, .int .i64] [.val .msg] true (fun x => F_outbox_Of x.1 x.2.1 x.2.2)
theorem ok_outbox_Of : FnOk PG 23 spec_outbox_Of :=
  have K : CxR C_outbox_Of := seatOk.cx (fun _ => rfl) (l := [(47, spec_order_Right), (32, spec_venue_RightMsg)]) ⟨ok_order_Right, ok_venue_RightMsg, trivial⟩
  fn_entry K (lps_from (l := []) rfl trivial) (by kernel_rfl) (fun x y h => (F_outbox_Of_eq x.1 x.2.1 x.2.2).trans h) rfl rfl

def F_plain_Submit (x0 : SPlain) (x1 : SRec) : Option (SPlain × Int) := obind (F_plain_done x0 x1 [1, 2, 3]) fun y0 ↦ cnd (bnot (ieq y0.snd 0)) (some (x0, y0.snd)) (obind (F_book_Find y0.fst x1.order) fun y1 ↦ cnd (band (ile 0 y1) (ilt y1 (len y0.fst.orders))) (obind (F_slices_Clone_api_Msg x0.outbox) fun y2 ↦ obind (F_outbox_Of x1.kind (lget y0.fst.orders (itn y1)) y0.fst.lsn) fun y3 ↦ cnd (ile (len (lapp y2 [y3])) 68719476736) (some (SPlain.mk y0.fst (lapp y2 [y3]) x0.feed, 0)) none) none)
noncomputable def C_plain_Submit : Cx := { P := PG, ety := ety, fn := look [(20, spec_plain_done), (21, spec_book_Find), (22, spec_slices_Clone_api_Msg), (23, spec_outbox_Of)], inl := memN [], lp := lookLp [] }
theorem F_plain_Submit_eq (x0 : SPlain) (x1 : SRec) : runFn C_plain_Submit 8 [.val .plain, .val .recd] [.val .plain, .int .i64] (x0, x1) = F_plain_Submit x0 x1 := by kernel_rfl
def spec_plain_Submit : FnSpec := mkSpec [.val .plain, .val .recd] [.val .plain, .int .i64] false (fun x => F_plain_Submit x.1 x.2)
theorem ok_plain_Submit : FnOk PG 8 spec_plain_Submit :=
  have K : CxR C_plain_Submit := seatOk.cx (fun _ => rfl) (l := [(20, spec_plain_done), (21, spec_book_Find), (22, spec_slices_Clone_api_Msg), (23, spec_outbox_Of)]) ⟨ok_plain_done, ok_book_Find, ok_slices_Clone_api_Msg, ok_outbox_Of, trivial⟩
  fn_entry K (lps_from (l := []) rfl trivial) (by kernel_rfl) (fun x y h => (F_plain_Submit_eq x.1 x.2).trans h) rfl rfl

def S_feed_row_26 : LSh := ⟨70, [(8, .int .i64), (7, .ro .note), (1, .int .i64)], [], [], [(9, .int .i64), (4, .int .i64)], [], []⟩
@[reducible] def O_feed_row_26 : List LOut := [⟨.ret, [(4, .int .i64)], [], []⟩, ⟨.exit 0, [(4, .int .i64)], [], []⟩]
def L_feed_row_26 (p0 : Int) (p1 : (List SNote)) (p2 : Int) (v0 : Int) (v1 : Int) : Option ((Int × Int) ⊕ ((Int) ⊕ ((Int)))) := cnd (ilt v0 p0) (cnd (band (ile 0 v0) (ilt v0 (len p1))) (cnd (bnot (ieq (lget p1 (itn v0)).seq (wr IntKind.i64 (iadd p2 v0)))) (some (Sum.inr (Sum.inl v0))) (some (Sum.inl (wr IntKind.i64 (iadd v0 1), v1)))) none) (some (Sum.inr (Sum.inr v1)))
def Ls_feed_row_26 : LSpec := S_feed_row_26.spec O_feed_row_26 [10, 11, 12, 13, 6, 5, 14, 15, 16, 17, 18, 19, 20, 4, 21, 9] (fun p v => L_feed_row_26 p.1 p.2.1 p.2.2 v.1 v.2)
def F_feed_row (x0 : (List SNote)) (x1 : Int) : Option (Int) := obind (iterN (fun v ↦ L_feed_row_26 (len x0) x0 x1 v.fst v.snd) LF (0, 0)) fun y0 ↦ sumK y0 (fun y1 ↦ some y1) fun y1 ↦ some (len x0)
noncomputable def C_feed_row : Cx := { P := PG, ety := ety, fn := look [], inl := memN [], lp := lookLp [(33, 26, Ls_feed_row_26)] }
theorem L_feed_row_26_eq (p0 : Int) (p1 : (List SNote)) (p2 : Int) (v0 : Int) (v1 : Int) : runLp C_feed_row 900 33 26 (lpBody PG 33 26) S_feed_row_26 O_feed_row_26 (p0, p1, p2) (v0, v1) = L_feed_row_26 p0 p1 p2 v0 v1 := by kernel_rfl
theorem F_feed_row_eq (x0 : (List SNote)) (x1 : Int) : runFn C_feed_row 33 [.ro .note, .int .i64] [.int .i64] (x0, x1) = F_feed_row x0 x1 := by kernel_rfl
def spec_feed_row : FnSpec := mkSpec [.ro .note, .int .i64] [.int .i64] true (fun x => F_feed_row x.1 x.2)
theorem ok_feed_row : FnOk PG 33 spec_feed_row :=
  have K : CxR C_feed_row := seatOk.cx (fun _ => rfl) (l := []) trivial
  fn_entry K (lps_from (l := [(33, 26, Ls_feed_row_26)]) rfl ⟨lp_entry (n := 900) (f := 33) K (by kernel_rfl) (by kernel_rfl) (by kernel_rfl) (by kernel_rfl) (by kernel_rfl) (fun p v r h => (L_feed_row_26_eq p.1 p.2.1 p.2.2 v.1 v.2).trans h), trivial⟩) (by kernel_rfl) (fun x y h => (F_feed_row_eq x.1 x.2).trans h) rfl rfl

def F_slices_Clone_api_Note (x0 : (List SNote)) : Option ((List SNote)) := nilq (len x0) fun y0 ↦ cnd (beq y0 true) (some []) (cnd (ile (len x0) 68719476736) (some x0) none)
noncomputable def C_slices_Clone_api_Note : Cx := { P := PG, ety := ety, fn := look [], inl := memN [], lp := lookLp [] }
theorem F_slices_Clone_api_Note_eq (x0 : (List SNote)) : runFn C_slices_Clone_api_Note 34 [.ro .note] [.buf .note] x0 = F_slices_Clone_api_Note x0 := by kernel_rfl
def spec_slices_Clone_api_Note : FnSpec := mkSpec [.ro .note] [.buf .note] true (fun x => F_slices_Clone_api_Note x)
theorem ok_slices_Clone_api_Note : FnOk PG 34 spec_slices_Clone_api_Note :=
  have K : CxR C_slices_Clone_api_Note := seatOk.cx (fun _ => rfl) (l := []) trivial
  fn_entry K (lps_from (l := []) rfl trivial) (by kernel_rfl) (fun x y h => (F_slices_Clone_api_Note_eq x).trans h) rfl rfl

def S_feed_place_60_slices_BinarySearchFunc_api_Note_api_Note_int64_c11 : LSh := ⟨83, [(0, .ro .note), (1, .int .i64)], [(2, .fn 56 [])], [], [(10, .int .i64), (9, .int .i64)], [], []⟩
@[reducible] def O_feed_place_60_slices_BinarySearchFunc_api_Note_api_Note_int64_c11 : List LOut := [⟨.exit 0, [(9, .int .i64)], [], []⟩]
def L_feed_place_60_slices_BinarySearchFunc_api_Note_api_Note_int64_c11 (p0 : (List SNote)) (p1 : Int) (v0 : Int) (v1 : Int) : Option ((Int × Int) ⊕ ((Int))) := cnd (ilt v1 v0) (cnd (band (ile 0 (wr IntKind.i64 (ishr IntKind.u64 (wr IntKind.u64 (wr IntKind.i64 (iadd v1 v0))) 1))) (ilt (wr IntKind.i64 (ishr IntKind.u64 (wr IntKind.u64 (wr IntKind.i64 (iadd v1 v0))) 1)) (len p0))) (cnd (ilt (wr IntKind.i64 (isub (lget p0 (itn (wr IntKind.i64 (ishr IntKind.u64 (wr IntKind.u64 (wr IntKind.i64 (iadd v1 v0))) 1)))).seq p1)) 0) (some (Sum.inl (v0, wr IntKind.i64 (iadd (wr IntKind.i64 (ishr IntKind.u64 (wr IntKind.u64 (wr IntKind.i64 (iadd v1 v0))) 1)) 1)))) (some (Sum.inl (wr IntKind.i64 (ishr IntKind.u64 (wr IntKind.u64 (wr IntKind.i64 (iadd v1 v0))) 1), v1)))) none) (some (Sum.inr v1))
def Ls_feed_place_60_slices_BinarySearchFunc_api_Note_api_Note_int64_c11 : LSpec := S_feed_place_60_slices_BinarySearchFunc_api_Note_api_Note_int64_c11.spec O_feed_place_60_slices_BinarySearchFunc_api_Note_api_Note_int64_c11 [15, 16, 17, 18, 19, 20, 21, 22, 23, 11, 24, 25, 26, 27, 28, 29, 30, 31, 32, 33, 9, 34, 10] (fun p v => L_feed_place_60_slices_BinarySearchFunc_api_Note_api_Note_int64_c11 p.1 p.2 v.1 v.2)
def F_feed_place (x0 : (List SNote)) (x1 : Int) : Option (Int × Bool) := obind (iterN (fun v ↦ L_feed_place_60_slices_BinarySearchFunc_api_Note_api_Note_int64_c11 x0 x1 v.fst v.snd) LF (len x0, 0)) fun y0 ↦ cnd (bor (band (ile 0 y0) (ilt y0 (len x0))) (bnot (ilt y0 (len x0)))) (cnd (ilt y0 (len x0)) (some (y0, band (ilt y0 (len x0)) (ieq (wr IntKind.i64 (isub (lget x0 (itn y0)).seq x1)) 0))) (some (y0, bor (ilt y0 (len x0)) false))) none
noncomputable def C_feed_place : Cx := { P := PG, ety := ety, fn := look [], inl := memN [55, 56], lp := lookLp [(150323900471, 60, Ls_feed_place_60_slices_BinarySearchFunc_api_Note_api_Note_int64_c11)] }
theorem L_feed_place_60_slices_BinarySearchFunc_api_Note_api_Note_int64_c11_eq (p0 : (List SNote)) (p1 : Int) (v0 : Int) (v1 : Int) : runLp C_feed_place 900 150323900471 60 (lpBody PG 55 60) S_feed_place_60_slices_BinarySearchFunc_api_Note_api_Note_int64_c11 O_feed_place_60_slices_BinarySearchFunc_api_Note_api_Note_int64_c11 (p0, p1) (v0, v1) = L_feed_place_60_slices_BinarySearchFunc_api_Note_api_Note_int64_c11 p0 p1 v0 v1 := by kernel_rfl
theorem F_feed_place_eq (x0 : (List SNote)) (x1 : Int) : runFn C_feed_place 35 [.ro .note, .int .i64] [.int .i64, .bool] (x0, x1) = F_feed_place x0 x1 := by kernel_rfl
def spec_feed_place : FnSpec := mkSpec [.ro .note, .int .i64] [.int .i64, .bool] true (fun x => F_feed_place x.1 x.2)
theorem ok_feed_place : FnOk PG 35 spec_feed_place :=
  have K : CxR C_feed_place := seatOk.cx (fun _ => rfl) (l := []) trivial
  fn_entry K (lps_from (l := [(150323900471, 60, Ls_feed_place_60_slices_BinarySearchFunc_api_Note_api_Note_int64_c11)]) rfl ⟨lp_entry (n := 900) (f := 55) K (by kernel_rfl) (by kernel_rfl) (by kernel_rfl) (by kernel_rfl) (by kernel_rfl) (fun p v r h => (L_feed_place_60_slices_BinarySearchFunc_api_Note_api_Note_int64_c11_eq p.1 p.2 v.1 v.2).trans h), trivial⟩) (by kernel_rfl) (fun x y h => (F_feed_place_eq x.1 x.2).trans h) rfl rfl

def F_slices_Insert_api_Note (x0 : (List SNote)) (x1 : Int) (x2 : (List SNote)) : Option ((List SNote)) := match x2 with | [n] => cnd (band (ile 0 x1) (band (ile x1 (len x0)) (ile (iadd (len x0) 1) 68719476736))) (some (lapp (ltake x0 (itn x1)) (n :: ldrop x0 (itn x1)))) none | _ => none
noncomputable def C_slices_Insert_api_Note : Cx := { P := PG, ety := ety, fn := look [], inl := memN [], lp := lookLp [] }
def spec_slices_Insert_api_Note : FnSpec := insSpec .note (fun x => F_slices_Insert_api_Note x.1 x.2.1 x.2.2)
theorem ok_slices_Insert_api_Note : FnOk PG 36 spec_slices_Insert_api_Note :=
  have K : CxR C_slices_Insert_api_Note := seatOk.cx (fun _ => rfl) (l := []) trivial
  ins_entry K 36 (fnAt PG 36) (fnAt PG ((insRen (fnAt PG 36)).f 29)) (by kernel_rfl) (by kernel_rfl) (by kernel_rfl) (by kernel_rfl) (by kernel_rfl) (e := .note) (by kernel_rfl) (by kernel_rfl) (by kernel_rfl) (by kernel_rfl) (by kernel_rfl) (by kernel_rfl) rfl (fun x y h => by obtain ⟨l, k, xs⟩ := x; match xs, h with | [], h => exact h | [_], h => exact h | _ :: _ :: _, h => exact h)

def F_feed_Come (x0 : SFeed) (x1 : SNote) (x2 : Int) : Option (SFeed × (List SNote) × Int) := obind (F_feed_Right x0 x2) fun y0 ↦ cnd (bnot y0) (cnd (bnot y0) (some (x0, [], 1)) (cnd (ilt x1.seq x2) (some (x0, [], 0)) (cnd (ilt (wr IntKind.i64 (iadd x2 8)) x1.seq) (some (SFeed.mk x0.held true, [], 0)) (cnd (ieq x1.seq x2) (obind (F_feed_row x0.held (wr IntKind.i64 (iadd x2 1))) fun y1 ↦ cnd (band (ile 0 (len x0.held)) (ile 0 (len x0.held))) (cnd (band (ile (len (lapp (nol x0.held) [x1])) 68719476736) (bor (ieq (len (nol x0.held)) 0) true)) (cnd (band (ile 0 y1) (ile y1 (len x0.held))) (cnd (ile (len (lapp (lapp (nol x0.held) [x1]) (ltake x0.held (itn y1)))) 68719476736) (cnd (band (ile 0 y1) (ile y1 (len x0.held))) (obind (F_slices_Clone_api_Note (ldrop x0.held (itn y1))) fun y2 ↦ some (SFeed.mk y2 x0.gap, lapp (lapp (nol x0.held) [x1]) (ltake x0.held (itn y1)), 0)) none) none) none) none) none) (obind (F_feed_place x0.held x1.seq) fun y3 ↦ cnd (bnot y3.snd) (obind (F_slices_Clone_api_Note x0.held) fun y4 ↦ obind (F_slices_Insert_api_Note y4 y3.fst [x1]) fun y5 ↦ some (SFeed.mk y5 x0.gap, [], 0)) (some (x0, [], 0))))))) (cnd (ilt x1.seq 1) (cnd (ilt x1.seq 1) (some (x0, [], 1)) (cnd (ilt x1.seq x2) (some (x0, [], 0)) (cnd (ilt (wr IntKind.i64 (iadd x2 8)) x1.seq) (some (SFeed.mk x0.held true, [], 0)) (cnd (ieq x1.seq x2) (obind (F_feed_row x0.held (wr IntKind.i64 (iadd x2 1))) fun y6 ↦ cnd (band (ile 0 (len x0.held)) (ile 0 (len x0.held))) (cnd (band (ile (len (lapp (nol x0.held) [x1])) 68719476736) (bor (ieq (len (nol x0.held)) 0) true)) (cnd (band (ile 0 y6) (ile y6 (len x0.held))) (cnd (ile (len (lapp (lapp (nol x0.held) [x1]) (ltake x0.held (itn y6)))) 68719476736) (cnd (band (ile 0 y6) (ile y6 (len x0.held))) (obind (F_slices_Clone_api_Note (ldrop x0.held (itn y6))) fun y7 ↦ some (SFeed.mk y7 x0.gap, lapp (lapp (nol x0.held) [x1]) (ltake x0.held (itn y6)), 0)) none) none) none) none) none) (obind (F_feed_place x0.held x1.seq) fun y8 ↦ cnd (bnot y8.snd) (obind (F_slices_Clone_api_Note x0.held) fun y9 ↦ obind (F_slices_Insert_api_Note y9 y8.fst [x1]) fun y10 ↦ some (SFeed.mk y10 x0.gap, [], 0)) (some (x0, [], 0))))))) (cnd (ilt 1000000000 x1.seq) (some (x0, [], 1)) (cnd (ilt x1.seq x2) (some (x0, [], 0)) (cnd (ilt (wr IntKind.i64 (iadd x2 8)) x1.seq) (some (SFeed.mk x0.held true, [], 0)) (cnd (ieq x1.seq x2) (obind (F_feed_row x0.held (wr IntKind.i64 (iadd x2 1))) fun y11 ↦ cnd (band (ile 0 (len x0.held)) (ile 0 (len x0.held))) (cnd (band (ile (len (lapp (nol x0.held) [x1])) 68719476736) (bor (ieq (len (nol x0.held)) 0) true)) (cnd (band (ile 0 y11) (ile y11 (len x0.held))) (cnd (ile (len (lapp (lapp (nol x0.held) [x1]) (ltake x0.held (itn y11)))) 68719476736) (cnd (band (ile 0 y11) (ile y11 (len x0.held))) (obind (F_slices_Clone_api_Note (ldrop x0.held (itn y11))) fun y12 ↦ some (SFeed.mk y12 x0.gap, lapp (lapp (nol x0.held) [x1]) (ltake x0.held (itn y11)), 0)) none) none) none) none) none) (obind (F_feed_place x0.held x1.seq) fun y13 ↦ cnd (bnot y13.snd) (obind (F_slices_Clone_api_Note x0.held) fun y14 ↦ obind (F_slices_Insert_api_Note y14 y13.fst [x1]) fun y15 ↦ some (SFeed.mk y15 x0.gap, [], 0)) (some (x0, [], 0))))))))
noncomputable def C_feed_Come : Cx := { P := PG, ety := ety, fn := look [(17, spec_feed_Right), (33, spec_feed_row), (34, spec_slices_Clone_api_Note), (35, spec_feed_place), (36, spec_slices_Insert_api_Note)], inl := memN [], lp := lookLp [] }
theorem F_feed_Come_eq (x0 : SFeed) (x1 : SNote) (x2 : Int) : runFn C_feed_Come 18 [.val .feed, .val .note, .int .i64] [.val .feed, .buf .note, .int .i64] (x0, x1, x2) = F_feed_Come x0 x1 x2 := by kernel_rfl
def spec_feed_Come : FnSpec := mkSpec [.val .feed, .val .note, .int .i64] [.val .feed, .buf .note, .int .i64] false (fun x => F_feed_Come x.1 x.2.1 x.2.2)
theorem ok_feed_Come : FnOk PG 18 spec_feed_Come :=
  have K : CxR C_feed_Come := seatOk.cx (fun _ => rfl) (l := [(17, spec_feed_Right), (33, spec_feed_row), (34, spec_slices_Clone_api_Note), (35, spec_feed_place), (36, spec_slices_Insert_api_Note)]) ⟨ok_feed_Right, ok_feed_row, ok_slices_Clone_api_Note, ok_feed_place, ok_slices_Insert_api_Note, trivial⟩
  fn_entry K (lps_from (l := []) rfl trivial) (by kernel_rfl) (fun x y h => (F_feed_Come_eq x.1 x.2.1 x.2.2).trans h) rfl rfl

def S_plain_Note_506 : LSh := ⟨117, [(55, .int .i64), (54, .ro .note)], [(9, .mp 384 0), (4, .mp 32 0), (2, .mp 16 0)], [(16, [.val .plain])], [(56, .int .i64), (8, .int .i64), (5, .int .i64)], [(384, [.val .plain]), (32, [.val .plain])], []⟩
@[reducible] def O_plain_Note_506 : List LOut := [⟨.ret, [(5, .int .i64)], [(384, [.val .plain]), (32, [.val .plain])], []⟩, ⟨.exit 1, [(8, .int .i64), (5, .int .i64)], [(384, [.val .plain]), (32, [.val .plain])], []⟩]
def L_plain_Note_506 (p0 : Int) (p1 : (List SNote)) (p2 : SPlain) (v0 : Int) (v1 : Int) (v2 : Int) (v3 : SPlain) (v4 : SPlain) : Option ((Int × Int × Int × SPlain × SPlain) ⊕ ((Int × SPlain × SPlain) ⊕ ((Int × Int × SPlain × SPlain)))) := cnd (ilt v0 p0) (cnd (band (ile 0 v0) (ilt v0 (len p1))) (obind (F_rec_OfNote (lget p1 (itn v0))) fun y0 ↦ obind (F_book_Do v3.state y0) fun y1 ↦ cnd (bnot (ieq y1.snd 0)) (some (Sum.inr (Sum.inl (y1.snd, SPlain.mk y1.fst v3.outbox v3.feed, p2)))) (some (Sum.inl (wr IntKind.i64 (iadd v0 1), y1.snd, v2, SPlain.mk y1.fst v3.outbox v3.feed, v4)))) none) (some (Sum.inr (Sum.inr (v1, v2, v3, v4))))
def Ls_plain_Note_506 : LSpec := S_plain_Note_506.spec O_plain_Note_506 [57, 58, 59, 11, 61, 62, 63, 64, 65, 60, 66, 67, 68, 8, 69, 70, 71, 72, 5, 73, 56] (fun p v => L_plain_Note_506 p.1 p.2.1 p.2.2 v.1 v.2.1 v.2.2.1 v.2.2.2.1 v.2.2.2.2)
def F_plain_Note (x0 : SPlain) (x1 : SNote) : Option (SPlain × Int) := obind (F_plain_Right x0) fun y0 ↦ obind (cnd (bnot (bnot y0)) (F_rec_OfNote x1) (some (SRec.mk 0 0 0 0 0 0 0 0 0 0 false 0 0))) fun y1 ↦ obind (cnd (bnot (bnot y0)) (F_rec_Right y1) (some false)) fun y2 ↦ cnd (bor (bnot y0) (bnot y2)) (some (x0, 1)) (obind (F_feed_Come x0.feed x1 (wr IntKind.i64 (iadd x0.state.seq 1))) fun y3 ↦ cnd (bnot (ieq y3.snd.snd 0)) (some (x0, y3.snd.snd)) (cnd (ilt (wr IntKind.i64 (isub 1000000000 (len y3.snd.fst))) x0.state.lsn) (some (x0, 3)) (obind (iterN (fun v ↦ L_plain_Note_506 (len y3.snd.fst) y3.snd.fst x0 v.fst v.snd.fst v.snd.snd.fst v.snd.snd.snd.fst v.snd.snd.snd.snd) LF (0, y3.snd.snd, 0, SPlain.mk x0.state x0.outbox y3.fst, SPlain.mk (SState.mk 0 0 [] [] [] [] false 0 0 0) [] (SFeed.mk [] false))) fun y4 ↦ sumK y4 (fun y5 ↦ some (y5.snd.snd, y5.fst)) fun y5 ↦ some (y5.snd.snd.fst, 0))))
noncomputable def C_plain_Note : Cx := { P := PG, ety := ety, fn := look [(6, spec_plain_Right), (14, spec_rec_OfNote), (13, spec_rec_Right), (18, spec_feed_Come), (19, spec_book_Do)], inl := memN [], lp := lookLp [(7, 506, Ls_plain_Note_506)] }
theorem L_plain_Note_506_eq (p0 : Int) (p1 : (List SNote)) (p2 : SPlain) (v0 : Int) (v1 : Int) (v2 : Int) (v3 : SPlain) (v4 : SPlain) : runLp C_plain_Note 900 7 506 (lpBody PG 7 506) S_plain_Note_506 O_plain_Note_506 (p0, p1, p2) (v0, v1, v2, v3, v4) = L_plain_Note_506 p0 p1 p2 v0 v1 v2 v3 v4 := by kernel_rfl
theorem F_plain_Note_eq (x0 : SPlain) (x1 : SNote) : runFn C_plain_Note 7 [.val .plain, .val .note] [.val .plain, .int .i64] (x0, x1) = F_plain_Note x0 x1 := by kernel_rfl
def spec_plain_Note : FnSpec := mkSpec [.val .plain, .val .note] [.val .plain, .int .i64] false (fun x => F_plain_Note x.1 x.2)
theorem ok_plain_Note : FnOk PG 7 spec_plain_Note :=
  have K : CxR C_plain_Note := seatOk.cx (fun _ => rfl) (l := [(6, spec_plain_Right), (14, spec_rec_OfNote), (13, spec_rec_Right), (18, spec_feed_Come), (19, spec_book_Do)]) ⟨ok_plain_Right, ok_rec_OfNote, ok_rec_Right, ok_feed_Come, ok_book_Do, trivial⟩
  fn_entry K (lps_from (l := [(7, 506, Ls_plain_Note_506)]) rfl ⟨lp_entry (n := 900) (f := 7) K (by kernel_rfl) (by kernel_rfl) (by kernel_rfl) (by kernel_rfl) (by kernel_rfl) (fun p v r h => (L_plain_Note_506_eq p.1 p.2.1 p.2.2 v.1 v.2.1 v.2.2.1 v.2.2.2.1 v.2.2.2.2).trans h), trivial⟩) (by kernel_rfl) (fun x y h => (F_plain_Note_eq x.1 x.2).trans h) rfl rfl

def F_plain_Flush (x0 : SPlain) : Option (SPlain × (List SMsg) × Int) := obind (F_plain_Right x0) fun y0 ↦ cnd (bnot y0) (some (x0, [], 1)) (some (SPlain.mk x0.state [] x0.feed, x0.outbox, 0))
noncomputable def C_plain_Flush : Cx := { P := PG, ety := ety, fn := look [(6, spec_plain_Right)], inl := memN [], lp := lookLp [] }
theorem F_plain_Flush_eq (x0 : SPlain) : runFn C_plain_Flush 10 [.val .plain] [.val .plain, .ro .msg, .int .i64] x0 = F_plain_Flush x0 := by kernel_rfl
def spec_plain_Flush : FnSpec := mkSpec [.val .plain] [.val .plain, .ro .msg, .int .i64] false (fun x => F_plain_Flush x)
theorem ok_plain_Flush : FnOk PG 10 spec_plain_Flush :=
  have K : CxR C_plain_Flush := seatOk.cx (fun _ => rfl) (l := [(6, spec_plain_Right)]) ⟨ok_plain_Right, trivial⟩
  fn_entry K (lps_from (l := []) rfl trivial) (by kernel_rfl) (fun x y h => (F_plain_Flush_eq x).trans h) rfl rfl

def F_plain_Turn (x0 : SPlain) (x1 : SRec) : Option (SPlain × (List SMsg) × Int) := obind (F_plain_done x0 x1 [4, 5]) fun y0 ↦ cnd (bnot (ieq y0.snd 0)) (some (x0, [], y0.snd)) (some (SPlain.mk y0.fst [] x0.feed, x0.outbox, 0))
noncomputable def C_plain_Turn : Cx := { P := PG, ety := ety, fn := look [(20, spec_plain_done)], inl := memN [], lp := lookLp [] }
theorem F_plain_Turn_eq (x0 : SPlain) (x1 : SRec) : runFn C_plain_Turn 9 [.val .plain, .val .recd] [.val .plain, .ro .msg, .int .i64] (x0, x1) = F_plain_Turn x0 x1 := by kernel_rfl
def spec_plain_Turn : FnSpec := mkSpec [.val .plain, .val .recd] [.val .plain, .ro .msg, .int .i64] false (fun x => F_plain_Turn x.1 x.2)
theorem ok_plain_Turn : FnOk PG 9 spec_plain_Turn :=
  have K : CxR C_plain_Turn := seatOk.cx (fun _ => rfl) (l := [(20, spec_plain_done)]) ⟨ok_plain_done, trivial⟩
  fn_entry K (lps_from (l := []) rfl trivial) (by kernel_rfl) (fun x y h => (F_plain_Turn_eq x.1 x.2).trans h) rfl rfl

def F_snafflelaw21_awake : Option (Bool) := obind (F_book_New 1 1 (SExpo.mk 50 50 500) 900) fun y0 ↦ obind (F_plain_Submit (SPlain.mk y0.fst [] (SFeed.mk [] false)) (SRec.mk 1 1 0 0 1 4 2 0 0 0 false 0 0)) fun y1 ↦ obind (F_plain_Note y1.fst (SNote.mk 1 1 1 0 0)) fun y2 ↦ obind (F_plain_Flush y2.fst) fun y3 ↦ obind (F_plain_Turn y3.fst (SRec.mk 5 0 0 0 0 0 0 0 0 0 true 0 0)) fun y4 ↦ cnd (bor (ilt 0 (len y3.snd.fst)) (bnot (band (band (band (band (band (ieq y0.snd 0) (ieq y1.snd 0)) (ieq y2.snd 0)) (ieq y3.snd.snd 0)) (ieq y4.snd.snd 0)) (ieq (len y3.snd.fst) 1)))) (cnd (bor (ilt 0 (len y4.fst.state.orders)) (bnot (band (band (band (band (band (band (band (band (band (band (ieq y0.snd 0) (ieq y1.snd 0)) (ieq y2.snd 0)) (ieq y3.snd.snd 0)) (ieq y4.snd.snd 0)) (ieq (len y3.snd.fst) 1)) (ieq (lget y3.snd.fst 0).lsn 1)) (ieq (len y4.snd.fst) 0)) y4.fst.state.kill) (ieq y4.fst.state.lsn 3)) (ieq (len y4.fst.state.orders) 1)))) (obind (cnd (band (band (band (band (band (band (band (band (band (band (band (ieq y0.snd 0) (ieq y1.snd 0)) (ieq y2.snd 0)) (ieq y3.snd.snd 0)) (ieq y4.snd.snd 0)) (ieq (len y3.snd.fst) 1)) (ieq (lget y3.snd.fst 0).lsn 1)) (ieq (len y4.snd.fst) 0)) y4.fst.state.kill) (ieq y4.fst.state.lsn 3)) (ieq (len y4.fst.state.orders) 1)) (ieq (lget y4.fst.state.orders 0).phase 2)) (F_plain_Right y4.fst) (some false)) fun y5 ↦ some (band (band (band (band (band (band (band (band (band (band (band (band (ieq y0.snd 0) (ieq y1.snd 0)) (ieq y2.snd 0)) (ieq y3.snd.snd 0)) (ieq y4.snd.snd 0)) (ieq (len y3.snd.fst) 1)) (ieq (lget y3.snd.fst 0).lsn 1)) (ieq (len y4.snd.fst) 0)) y4.fst.state.kill) (ieq y4.fst.state.lsn 3)) (ieq (len y4.fst.state.orders) 1)) (ieq (lget y4.fst.state.orders 0).phase 2)) y5)) none) none
noncomputable def C_snafflelaw21_awake : Cx := { P := PG, ety := ety, fn := look [(11, spec_book_New), (8, spec_plain_Submit), (7, spec_plain_Note), (10, spec_plain_Flush), (9, spec_plain_Turn), (6, spec_plain_Right)], inl := memN [], lp := lookLp [] }
theorem F_snafflelaw21_awake_eq : runFn C_snafflelaw21_awake 4 [] [.bool] () = F_snafflelaw21_awake := by kernel_rfl
def spec_snafflelaw21_awake : FnSpec := mkSpec [] [.bool] true (fun _ => F_snafflelaw21_awake)
theorem ok_snafflelaw21_awake : FnOk PG 4 spec_snafflelaw21_awake :=
  have K : CxR C_snafflelaw21_awake := seatOk.cx (fun _ => rfl) (l := [(11, spec_book_New), (8, spec_plain_Submit), (7, spec_plain_Note), (10, spec_plain_Flush), (9, spec_plain_Turn), (6, spec_plain_Right)]) ⟨ok_book_New, ok_plain_Submit, ok_plain_Note, ok_plain_Flush, ok_plain_Turn, ok_plain_Right, trivial⟩
  fn_entry K (lps_from (l := []) rfl trivial) (by kernel_rfl) (fun x y h => (F_snafflelaw21_awake_eq).trans h) rfl rfl

def F_snaffleref10_Short (x0 : SState) : Option (Bool) := some (band (band (band (ile (len x0.orders) 70) (ile (len x0.cells) 70)) (ile (len x0.limits) 70)) (ile (len x0.caps) 70))
noncomputable def C_snaffleref10_Short : Cx := { P := PG, ety := ety, fn := look [], inl := memN [], lp := lookLp [] }
theorem F_snaffleref10_Short_eq (x0 : SState) : runFn C_snaffleref10_Short 12 [.val .state] [.bool] x0 = F_snaffleref10_Short x0 := by kernel_rfl
def spec_snaffleref10_Short : FnSpec := mkSpec [.val .state] [.bool] true (fun x => F_snaffleref10_Short x)
theorem ok_snaffleref10_Short : FnOk PG 12 spec_snaffleref10_Short :=
  have K : CxR C_snaffleref10_Short := seatOk.cx (fun _ => rfl) (l := []) trivial
  fn_entry K (lps_from (l := []) rfl trivial) (by kernel_rfl) (fun x y h => (F_snaffleref10_Short_eq x).trans h) rfl rfl

def F_snaffleref21_Short (x0 : SPlain) : Option (Bool) := obind (F_snaffleref10_Short x0.state) fun y0 ↦ some (band (band y0 (ile (len x0.outbox) 99)) (ile (len x0.feed.held) 99))
noncomputable def C_snaffleref21_Short : Cx := { P := PG, ety := ety, fn := look [(12, spec_snaffleref10_Short)], inl := memN [], lp := lookLp [] }
theorem F_snaffleref21_Short_eq (x0 : SPlain) : runFn C_snaffleref21_Short 5 [.val .plain] [.bool] x0 = F_snaffleref21_Short x0 := by kernel_rfl
def spec_snaffleref21_Short : FnSpec := mkSpec [.val .plain] [.bool] true (fun x => F_snaffleref21_Short x)
theorem ok_snaffleref21_Short : FnOk PG 5 spec_snaffleref21_Short :=
  have K : CxR C_snaffleref21_Short := seatOk.cx (fun _ => rfl) (l := [(12, spec_snaffleref10_Short)]) ⟨ok_snaffleref10_Short, trivial⟩
  fn_entry K (lps_from (l := []) rfl trivial) (by kernel_rfl) (fun x y h => (F_snaffleref21_Short_eq x).trans h) rfl rfl

def S_snafflelaw21_PlainStays_8201594 : LSh := ⟨236, [(10, .ro .msg)], [], [], [(12, .int .i64), (7, .int .i64), (6, .bool)], [], []⟩
@[reducible] def O_snafflelaw21_PlainStays_8201594 : List LOut := [⟨.ret, [(6, .bool)], [], []⟩, ⟨.exit 2, [(7, .int .i64), (6, .bool)], [], []⟩]
def L_snafflelaw21_PlainStays_8201594 (p0 : (List SMsg)) (v0 : Int) (v1 : Int) (v2 : Bool) : Option ((Int × Int × Bool) ⊕ ((Bool) ⊕ ((Int × Bool)))) := cnd (ilt v0 (len p0)) (cnd (band (ile 0 v0) (ilt v0 (len p0))) (cnd (ile (lget p0 (itn v0)).lsn v1) (some (Sum.inr (Sum.inl false))) (cnd (band (ile 0 v0) (ilt v0 (len p0))) (some (Sum.inl (wr IntKind.i64 (iadd v0 1), (lget p0 (itn v0)).lsn, v2))) none)) none) (some (Sum.inr (Sum.inr (v1, v2))))
def Ls_snafflelaw21_PlainStays_8201594 : LSpec := S_snafflelaw21_PlainStays_8201594.spec O_snafflelaw21_PlainStays_8201594 [102, 103, 104, 105, 108, 109, 110, 111, 112, 113, 114, 6, 115, 116, 117, 118, 119, 7, 106, 107, 12] (fun p v => L_snafflelaw21_PlainStays_8201594 p v.1 v.2.1 v.2.2)
def S_snafflelaw21_PlainStays_250 : LSh := ⟨91, [(1, .ro .recd), (2, .ro .note)], [(3, .mp 24 0)], [], [(8, .int .i64), (7, .int .i64), (6, .bool)], [(24, [.val .plain])], []⟩
@[reducible] def O_snafflelaw21_PlainStays_250 : List LOut := [⟨.ret, [(6, .bool)], [(24, [.val .plain])], []⟩, ⟨.exit 0, [(6, .bool)], [(24, [.val .plain])], []⟩]
def L_snafflelaw21_PlainStays_250 (p0 : (List SRec)) (p1 : (List SNote)) (v0 : Int) (v1 : Int) (v2 : Bool) (v3 : SPlain) : Option ((Int × Int × Bool × SPlain) ⊕ ((Bool × SPlain) ⊕ ((Bool × SPlain)))) := cnd (bor (ilt v0 (len p0)) (ilt v0 (len p1))) (cnd (ilt v0 (len p1)) (cnd (band (ile 0 v0) (ilt v0 (len p1))) (obind (F_plain_Note v3 (lget p1 (itn v0))) fun y0 ↦ cnd (ilt v0 (len p0)) (cnd (band (ile 0 v0) (ilt v0 (len p0))) (obind (F_plain_Submit y0.fst (lget p0 (itn v0))) fun y1 ↦ cnd (band (ile 0 v0) (ilt v0 (len p0))) (obind (F_plain_Turn y1.fst (lget p0 (itn v0))) fun y2 ↦ cnd (band (ieq (irem v0 7) 6) (bnot (ieq y2.snd.snd 0))) (obind (F_plain_Flush y1.fst) fun y3 ↦ cnd (band (ieq y3.snd.snd 0) (bnot (ieq (len y3.fst.outbox) 0))) (some (Sum.inr (Sum.inl (false, y1.fst)))) (obind (iterN (fun v ↦ L_snafflelaw21_PlainStays_8201594 y3.snd.fst v.fst v.snd.fst v.snd.snd) LF (0, v1, v2)) fun y4 ↦ sumK y4 (fun y5 ↦ some (Sum.inr (Sum.inl (y5, y1.fst)))) fun y5 ↦ obind (F_plain_Right y3.fst) fun y6 ↦ cnd (bnot y6) (some (Sum.inr (Sum.inl (false, y3.fst)))) (some (Sum.inl (wr IntKind.i64 (iadd v0 1), y5.fst, y5.snd, y3.fst))))) (cnd (band (ieq y2.snd.snd 0) (bnot (ieq (len y2.fst.outbox) 0))) (some (Sum.inr (Sum.inl (false, y1.fst)))) (obind (iterN (fun v ↦ L_snafflelaw21_PlainStays_8201594 y2.snd.fst v.fst v.snd.fst v.snd.snd) LF (0, v1, v2)) fun y7 ↦ sumK y7 (fun y8 ↦ some (Sum.inr (Sum.inl (y8, y1.fst)))) fun y8 ↦ obind (F_plain_Right y2.fst) fun y9 ↦ cnd (bnot y9) (some (Sum.inr (Sum.inl (false, y2.fst)))) (some (Sum.inl (wr IntKind.i64 (iadd v0 1), y8.fst, y8.snd, y2.fst)))))) none) none) (obind (F_plain_Right y0.fst) fun y10 ↦ cnd (bnot y10) (some (Sum.inr (Sum.inl (false, y0.fst)))) (some (Sum.inl (wr IntKind.i64 (iadd v0 1), v1, v2, y0.fst))))) none) (cnd (ilt v0 (len p0)) (cnd (band (ile 0 v0) (ilt v0 (len p0))) (obind (F_plain_Submit v3 (lget p0 (itn v0))) fun y11 ↦ cnd (band (ile 0 v0) (ilt v0 (len p0))) (obind (F_plain_Turn y11.fst (lget p0 (itn v0))) fun y12 ↦ cnd (band (ieq (irem v0 7) 6) (bnot (ieq y12.snd.snd 0))) (obind (F_plain_Flush y11.fst) fun y13 ↦ cnd (band (ieq y13.snd.snd 0) (bnot (ieq (len y13.fst.outbox) 0))) (some (Sum.inr (Sum.inl (false, y11.fst)))) (obind (iterN (fun v ↦ L_snafflelaw21_PlainStays_8201594 y13.snd.fst v.fst v.snd.fst v.snd.snd) LF (0, v1, v2)) fun y14 ↦ sumK y14 (fun y15 ↦ some (Sum.inr (Sum.inl (y15, y11.fst)))) fun y15 ↦ obind (F_plain_Right y13.fst) fun y16 ↦ cnd (bnot y16) (some (Sum.inr (Sum.inl (false, y13.fst)))) (some (Sum.inl (wr IntKind.i64 (iadd v0 1), y15.fst, y15.snd, y13.fst))))) (cnd (band (ieq y12.snd.snd 0) (bnot (ieq (len y12.fst.outbox) 0))) (some (Sum.inr (Sum.inl (false, y11.fst)))) (obind (iterN (fun v ↦ L_snafflelaw21_PlainStays_8201594 y12.snd.fst v.fst v.snd.fst v.snd.snd) LF (0, v1, v2)) fun y17 ↦ sumK y17 (fun y18 ↦ some (Sum.inr (Sum.inl (y18, y11.fst)))) fun y18 ↦ obind (F_plain_Right y12.fst) fun y19 ↦ cnd (bnot y19) (some (Sum.inr (Sum.inl (false, y12.fst)))) (some (Sum.inl (wr IntKind.i64 (iadd v0 1), y18.fst, y18.snd, y12.fst)))))) none) none) (obind (F_plain_Right v3) fun y20 ↦ cnd (bnot y20) (some (Sum.inr (Sum.inl (false, v3)))) (some (Sum.inl (wr IntKind.i64 (iadd v0 1), v1, v2, v3)))))) (some (Sum.inr (Sum.inr (v2, v3))))
def Ls_snafflelaw21_PlainStays_250 : LSpec := S_snafflelaw21_PlainStays_250.spec O_snafflelaw21_PlainStays_250 [33, 34, 35, 36, 37, 38, 39, 40, 41, 42, 45, 46, 47, 48, 50, 51, 52, 53, 54, 55, 49, 56, 57, 58, 59, 60, 61, 63, 64, 65, 66, 67, 68, 62, 69, 70, 72, 73, 74, 75, 76, 77, 71, 78, 79, 80, 9, 10, 11, 81, 82, 83, 84, 85, 86, 87, 89, 90, 88, 91, 92, 93, 94, 95, 96, 97, 98, 99, 100, 101, 6, 12, 102, 103, 104, 105, 108, 109, 110, 111, 112, 113, 114, 115, 116, 117, 118, 119, 7, 106, 107, 120, 121, 122, 123, 43, 44, 8] (fun p v => L_snafflelaw21_PlainStays_250 p.1 p.2 v.1 v.2.1 v.2.2.1 v.2.2.2)
def F_snafflelaw21_PlainStays (x0 : SPlain) (x1 : (List SRec)) (x2 : (List SNote)) : Option (Bool) := obind F_snafflelaw21_awake fun y0 ↦ cnd (bnot y0) (some false) (obind (F_snaffleref21_Short x0) fun y1 ↦ obind (cnd (bnot (bor (bor (bnot y1) (ilt 60 (len x1))) (ilt 60 (len x2)))) (F_plain_Right x0) (some false)) fun y2 ↦ cnd (bor (bor (bor (bnot y1) (ilt 60 (len x1))) (ilt 60 (len x2))) (bnot y2)) (some true) (obind (iterN (fun v ↦ L_snafflelaw21_PlainStays_250 x1 x2 v.fst v.snd.fst v.snd.snd.fst v.snd.snd.snd) LF (0, 0, false, x0)) fun y3 ↦ sumK y3 (fun y4 ↦ some y4.fst) fun y4 ↦ some true))
noncomputable def C_snafflelaw21_PlainStays : Cx := { P := PG, ety := ety, fn := look [(4, spec_snafflelaw21_awake), (5, spec_snaffleref21_Short), (6, spec_plain_Right), (7, spec_plain_Note), (8, spec_plain_Submit), (9, spec_plain_Turn), (10, spec_plain_Flush)], inl := memN [], lp := lookLp [(3, 8201594, Ls_snafflelaw21_PlainStays_8201594), (3, 250, Ls_snafflelaw21_PlainStays_250)] }
theorem L_snafflelaw21_PlainStays_8201594_eq (p0 : (List SMsg)) (v0 : Int) (v1 : Int) (v2 : Bool) : runLp C_snafflelaw21_PlainStays 900 3 8201594 (lpBody PG 3 8201594) S_snafflelaw21_PlainStays_8201594 O_snafflelaw21_PlainStays_8201594 p0 (v0, v1, v2) = L_snafflelaw21_PlainStays_8201594 p0 v0 v1 v2 := by kernel_rfl
theorem L_snafflelaw21_PlainStays_250_eq (p0 : (List SRec)) (p1 : (List SNote)) (v0 : Int) (v1 : Int) (v2 : Bool) (v3 : SPlain) : runLp C_snafflelaw21_PlainStays 900 3 250 (lpBody PG 3 250) S_snafflelaw21_PlainStays_250 O_snafflelaw21_PlainStays_250 (p0, p1) (v0, v1, v2, v3) = L_snafflelaw21_PlainStays_250 p0 p1 v0 v1 v2 v3 := by kernel_rfl
theorem F_snafflelaw21_PlainStays_eq (x0 : SPlain) (x1 : (List SRec)) (x2 : (List SNote)) : runFn C_snafflelaw21_PlainStays 3 [.val .plain, .ro .recd, .ro .note] [.bool] (x0, x1, x2) = F_snafflelaw21_PlainStays x0 x1 x2 := by kernel_rfl
def spec_snafflelaw21_PlainStays : FnSpec := mkSpec [.val .plain, .ro .recd, .ro .note] [.bool] true (fun x => F_snafflelaw21_PlainStays x.1 x.2.1 x.2.2)
theorem ok_snafflelaw21_PlainStays : FnOk PG 3 spec_snafflelaw21_PlainStays :=
  have K : CxR C_snafflelaw21_PlainStays := seatOk.cx (fun _ => rfl) (l := [(4, spec_snafflelaw21_awake), (5, spec_snaffleref21_Short), (6, spec_plain_Right), (7, spec_plain_Note), (8, spec_plain_Submit), (9, spec_plain_Turn), (10, spec_plain_Flush)]) ⟨ok_snafflelaw21_awake, ok_snaffleref21_Short, ok_plain_Right, ok_plain_Note, ok_plain_Submit, ok_plain_Turn, ok_plain_Flush, trivial⟩
  fn_entry K (lps_from (l := [(3, 8201594, Ls_snafflelaw21_PlainStays_8201594), (3, 250, Ls_snafflelaw21_PlainStays_250)]) rfl ⟨lp_entry (n := 900) (f := 3) K (by kernel_rfl) (by kernel_rfl) (by kernel_rfl) (by kernel_rfl) (by kernel_rfl) (fun p v r h => (L_snafflelaw21_PlainStays_8201594_eq p v.1 v.2.1 v.2.2).trans h),
    lp_entry (n := 900) (f := 3) K (by kernel_rfl) (by kernel_rfl) (by kernel_rfl) (by kernel_rfl) (by kernel_rfl) (fun p v r h => (L_snafflelaw21_PlainStays_250_eq p.1 p.2 v.1 v.2.1 v.2.2.1 v.2.2.2).trans h), trivial⟩) (by kernel_rfl) (fun x y h => (F_snafflelaw21_PlainStays_eq x.1 x.2.1 x.2.2).trans h) rfl rfl

end
end Go.Av
