/- The functions that this claim reaches, each as a plain function; each is what its text comes to. No condition. -/
import Derived.Test.YtkndbmahpiebkaaGreatDoorAvE
import Derived.Test.YtkndbmahpiebkaaGreatDoorProg
import Derived.KernelRfl
import Derived.Shelf.Small.Wraps
import Derived.Shelf.Strconv.ParseIntPublic10
import Derived.WalkKit
set_option linter.unusedVariables false
set_option linter.unusedSimpArgs false
set_option linter.unnecessarySimpa false
namespace Go.Av
open Go
def aqd:List (Nat×E):=[(2,.i64),(3,.i64),(4,.bool),(5,.u8),(6,.u8),(9,.str),(10,.str),(11,.str),(24,.disk),(30,.state),(34,.i64),(51,.bts),(53,.file),(61,.expo),(64,.recd),(68,.slot),(73,.keeper),(95,.order),(97,.cell),(101,.state),(132,.a20),(159,.reader),(198,.note),(251,.i64),(270,.a3),(292,.u8),(293,.u8)]
def ety (t:Nat):Option E:=look aqd t
noncomputable abbrev PG:Program:=Go.Proofs.Tryz.prog
end Go.Av
namespace Go.Av
open Go
noncomputable section
theorem aqa:EOk PG 2 .i64:=nI (by kernel_rfl) (by kernel_rfl)
theorem aqh:EOk PG 3 .i64:=nI (by kernel_rfl) (by kernel_rfl)
theorem aqI:EOk PG 4 .bool:=nI (by kernel_rfl) (by kernel_rfl)
theorem aqJ:EOk PG 5 .u8:=nI (by kernel_rfl) (by kernel_rfl)
theorem aqO:EOk PG 6 .u8:=nI (by kernel_rfl) (by kernel_rfl)
theorem aqH:EOk PG 9 .str:=nI (by kernel_rfl) (by kernel_rfl)
theorem apH:EOk PG 10 .str:=nI (by kernel_rfl) (by kernel_rfl)
theorem apA:EOk PG 11 .str:=nI (by kernel_rfl) (by kernel_rfl)
theorem apV:EOk PG 24 .disk:=nI (by kernel_rfl) (by kernel_rfl)
theorem aoV:EOk PG 30 .state:=nI (by kernel_rfl) (by kernel_rfl)
theorem aps:EOk PG 34 .i64:=nI (by kernel_rfl) (by kernel_rfl)
theorem apq:EOk PG 51 .bts:=nI (by kernel_rfl) (by kernel_rfl)
theorem apo:EOk PG 53 .file:=nI (by kernel_rfl) (by kernel_rfl)
theorem apW:EOk PG 61 .expo:=nI (by kernel_rfl) (by kernel_rfl)
theorem apQ:EOk PG 64 .recd:=nI (by kernel_rfl) (by kernel_rfl)
theorem apN:EOk PG 68 .slot:=nI (by kernel_rfl) (by kernel_rfl)
theorem apz:EOk PG 73 .keeper:=nI (by kernel_rfl) (by kernel_rfl)
theorem apE:EOk PG 95 .order:=nI (by kernel_rfl) (by kernel_rfl)
theorem aoX:EOk PG 97 .cell:=nI (by kernel_rfl) (by kernel_rfl)
theorem anW:EOk PG 101 .state:=nI (by kernel_rfl) (by kernel_rfl)
theorem anw:EOk PG 132 .a20:=nI (by kernel_rfl) (by kernel_rfl)
theorem anN:EOk PG 159 .reader:=nI (by kernel_rfl) (by kernel_rfl)
theorem amL:EOk PG 198 .note:=nI (by kernel_rfl) (by kernel_rfl)
theorem anL:EOk PG 251 .i64:=nI (by kernel_rfl) (by kernel_rfl)
theorem anV:EOk PG 270 .a3:=nI (by kernel_rfl) (by kernel_rfl)
theorem aod:EOk PG 292 .u8:=nI (by kernel_rfl) (by kernel_rfl)
theorem anZ:EOk PG 293 .u8:=nI (by kernel_rfl) (by kernel_rfl)
theorem aZ:Iq PG aqd:=⟨by kernel_rfl,⟨aqa,aqh,aqI,aqJ,aqO,aqH,apH,apA,apV,aoV,aps,apq,apo,apW,apQ,apN,apz,apE,aoX,anW,anw,anN,amL,anL,anV,aod,anZ,trivial⟩,by kernel_rfl,by kernel_rfl,by kernel_rfl⟩
end
end Go.Av
namespace Go.Av
open Go
noncomputable section
def Ju (x0:Int) (x1:Int):Option (Int×Int):=some (wr .u32 (dG .u64 (wr .u64 (jq (wr .u64 x0) (wr .u64 x1))) 32),wr .u32 (wr .u64 (jq (wr .u64 x0) (wr .u64 x1))))
noncomputable def Js:Cx:={ P:=PG,ety:=ety,fn:=look [],inl:=fO [],lp:=bg [] }
theorem Oe (x0:Int) (x1:Int):cO Js 175 [.int .u32,.int .u32] [.int .u32,.int .u32] (x0,x1)=Ju x0 x1:=by kernel_rfl
def yu:aV:=mkSpec [.int .u32,.int .u32] [.int .u32,.int .u32] true (fun x=>Ju x.1 x.2)
theorem SH:dW PG 175 yu:=
 have K:CxR Js:=aZ.cx (fun _=>rfl) (l:=[]) trivial
 aO K (aJ (l:=[]) rfl trivial) (by kernel_rfl) (fun x y h=>(Oe x.1 x.2).trans h) rfl rfl
def oV (x0:Int) (x1:Int):Option (Int×Int):=some (wr .u64 (ax (wr .u64 (ax (wr .u64 (jq (dG .u64 x0 32) (dG .u64 x1 32))) (dG .u64 (wr .u64 (ax (wr .u64 (jq (dG .u64 x0 32) (wr .u64 (oH .u64 x1 4294967295)))) (dG .u64 (wr .u64 (jq (wr .u64 (oH .u64 x0 4294967295)) (wr .u64 (oH .u64 x1 4294967295)))) 32))) 32))) (dG .u64 (wr .u64 (ax (wr .u64 (oH .u64 (wr .u64 (ax (wr .u64 (jq (dG .u64 x0 32) (wr .u64 (oH .u64 x1 4294967295)))) (dG .u64 (wr .u64 (jq (wr .u64 (oH .u64 x0 4294967295)) (wr .u64 (oH .u64 x1 4294967295)))) 32))) 4294967295)) (wr .u64 (jq (wr .u64 (oH .u64 x0 4294967295)) (dG .u64 x1 32))))) 32)),wr .u64 (jq x0 x1))
noncomputable def Jl:Cx:={ P:=PG,ety:=ety,fn:=look [],inl:=fO [],lp:=bg [] }
theorem Pz (x0:Int) (x1:Int):cO Jl 176 [.int .u64,.int .u64] [.int .u64,.int .u64] (x0,x1)=oV x0 x1:=by kernel_rfl
def oz:aV:=mkSpec [.int .u64,.int .u64] [.int .u64,.int .u64] true (fun x=>oV x.1 x.2)
theorem Ia:dW PG 176 oz:=
 have K:CxR Jl:=aZ.cx (fun _=>rfl) (l:=[]) trivial
 aO K (aJ (l:=[]) rfl trivial) (by kernel_rfl) (fun x y h=>(Pz x.1 x.2).trans h) rfl rfl
def ru (x0:Int) (x1:Int):Option (Int×Int):=af (oV x0 x1) fun y0 => some y0
noncomputable def Np:Cx:={ P:=PG,ety:=ety,fn:=look [(175,yu),(176,oz)],inl:=fO [],lp:=bg [] }
theorem SX (x0:Int) (x1:Int):cO Np 114 [.int .u64,.int .u64] [.int .u64,.int .u64] (x0,x1)=ru x0 x1:=by kernel_rfl
def qH:aV:=mkSpec [.int .u64,.int .u64] [.int .u64,.int .u64] true (fun x=>ru x.1 x.2)
theorem KJ:dW PG 114 qH:=
 have K:CxR Np:=aZ.cx (fun _=>rfl) (l:=[(175,yu),(176,oz)]) ⟨SH,Ia,trivial⟩
 aO K (aJ (l:=[]) rfl trivial) (by kernel_rfl) (fun x y h=>(SX x.1 x.2).trans h) rfl rfl
def vY:LSh:=⟨94,[],[(7,.mf 192)],[],[(8,.int .i64)],[],[(192,.expo)]⟩
@[reducible] def wE:List jb:=[⟨.exit 0,[],[],[(192,.expo)]⟩]
def o9 (v0:Int) (v1:(List dD)):Option ((Int×(List dD)) ⊕ (((List dD)))):=cnd (ilt v0 (len v1)) (cnd (band (ile 0 v0) (ile v0 (len v1))) (cnd (band (ile 0 v0) (ile v0 (len v1))) (some (Sum.inl (wr .i64 (ax v0 (jF (len (aC (aH v1 0) (itn v0))) (nti (itn (aG (len v1) v0))))),eu v1 (itn v0) (aC (aC (aH v1 0) (itn v0)) (itn (jF (len (aC (aH v1 0) (itn v0))) (nti (itn (aG (len v1) v0))))))))) none) none) (some (Sum.inr v1))
def uD:iO:=vY.spec wE [34,35,36,37,38,39,40,41,42,43,44,45,46,8] (fun p v=>o9 v.1 v.2)
def kX (x0:(List dD)) (x1:Int):Option ((List dD)):=cnd (ilt x1 0) none (af (ru (wr .u64 (len x0)) (wr .u64 x1)) fun y0 => cnd (bor (ilt 0 y0.fst) (ilt 9223372036854775807 y0.snd)) none (cnd (band (band (ile 0 (wr .i64 y0.snd)) (ile (wr .i64 y0.snd) (wr .i64 y0.snd))) (ile (wr .i64 y0.snd) 68719476736)) (af (bT (fun v => o9 v.fst v.snd) LF (jF (len x0) (len (iQ dD (itn (wr .i64 y0.snd)))),eu (iQ dD (itn (wr .i64 y0.snd))) 0 (aC x0 (itn (jF (len x0) (len (iQ dD (itn (wr .i64 y0.snd))))))))) fun y1 => some y1) none))
noncomputable def sO:Cx:={ P:=PG,ety:=ety,fn:=look [(114,qH)],inl:=fO [],lp:=bg [(57,508,uD)] }
theorem CS (v0:Int) (v1:(List dD)):kD sO 900 57 508 (iq PG 57 508) vY wE () (v0,v1)=o9 v0 v1:=by kernel_rfl
theorem FZ (x0:(List dD)) (x1:Int):cO sO 57 [.ro .expo,.int .i64] [.buf .expo] (x0,x1)=kX x0 x1:=by kernel_rfl
def pW:aV:=mkSpec [.ro .expo,.int .i64] [.buf .expo] true (fun x=>kX x.1 x.2)
theorem IW:dW PG 57 pW:=
 have K:CxR sO:=aZ.cx (fun _=>rfl) (l:=[(114,qH)]) ⟨KJ,trivial⟩
 aO K (aJ (l:=[(57,508,uD)]) rfl ⟨dU (n:=900) (f:=57) K (by kernel_rfl) (by kernel_rfl) (by kernel_rfl) (by kernel_rfl) (by kernel_rfl) (fun p v r h=>(CS v.1 v.2).trans h),trivial⟩) (by kernel_rfl) (fun x y h=>(FZ x.1 x.2).trans h) rfl rfl
def yM:LSh:=⟨94,[],[(7,.mf 192)],[],[(8,.int .i64)],[],[(192,.i64)]⟩
@[reducible] def yL:List jb:=[⟨.exit 0,[],[],[(192,.i64)]⟩]
def qX (v0:Int) (v1:(List Int)):Option ((Int×(List Int)) ⊕ (((List Int)))):=cnd (ilt v0 (len v1)) (cnd (band (ile 0 v0) (ile v0 (len v1))) (cnd (band (ile 0 v0) (ile v0 (len v1))) (some (Sum.inl (wr .i64 (ax v0 (jF (len (aC (aH v1 0) (itn v0))) (nti (itn (aG (len v1) v0))))),eu v1 (itn v0) (aC (aC (aH v1 0) (itn v0)) (itn (jF (len (aC (aH v1 0) (itn v0))) (nti (itn (aG (len v1) v0))))))))) none) none) (some (Sum.inr v1))
def xP:iO:=yM.spec yL [34,35,36,37,38,39,40,41,42,43,44,45,46,8] (fun p v=>qX v.1 v.2)
def mW (x0:(List Int)) (x1:Int):Option ((List Int)):=cnd (ilt x1 0) none (af (ru (wr .u64 (len x0)) (wr .u64 x1)) fun y0 => cnd (bor (ilt 0 y0.fst) (ilt 9223372036854775807 y0.snd)) none (cnd (band (band (ile 0 (wr .i64 y0.snd)) (ile (wr .i64 y0.snd) (wr .i64 y0.snd))) (ile (wr .i64 y0.snd) 68719476736)) (af (bT (fun v => qX v.fst v.snd) LF (jF (len x0) (len (iQ Int (itn (wr .i64 y0.snd)))),eu (iQ Int (itn (wr .i64 y0.snd))) 0 (aC x0 (itn (jF (len x0) (len (iQ Int (itn (wr .i64 y0.snd))))))))) fun y1 => some y1) none))
noncomputable def wO:Cx:={ P:=PG,ety:=ety,fn:=look [(114,qH)],inl:=fO [],lp:=bg [(58,508,xP)] }
theorem Fh (v0:Int) (v1:(List Int)):kD wO 900 58 508 (iq PG 58 508) yM yL () (v0,v1)=qX v0 v1:=by kernel_rfl
theorem JX (x0:(List Int)) (x1:Int):cO wO 58 [.ro .i64,.int .i64] [.buf .i64] (x0,x1)=mW x0 x1:=by kernel_rfl
def sQ:aV:=mkSpec [.ro .i64,.int .i64] [.buf .i64] true (fun x=>mW x.1 x.2)
theorem Mc:dW PG 58 sQ:=
 have K:CxR wO:=aZ.cx (fun _=>rfl) (l:=[(114,qH)]) ⟨KJ,trivial⟩
 aO K (aJ (l:=[(58,508,xP)]) rfl ⟨dU (n:=900) (f:=58) K (by kernel_rfl) (by kernel_rfl) (by kernel_rfl) (by kernel_rfl) (by kernel_rfl) (fun p v r h=>(Fh v.1 v.2).trans h),trivial⟩) (by kernel_rfl) (fun x y h=>(JX x.1 x.2).trans h) rfl rfl
def pz (x0:ai):Option (Bool):=some (band (band (band (band (band (band (band (ile 1 x0.accounts) (ile x0.accounts 8)) (ile 1 x0.symbols)) (ile x0.symbols 8)) (ieq (len x0.cells) (wr .i64 (jq x0.accounts x0.symbols)))) (ieq (len x0.limits) (len x0.cells))) (ieq (len x0.caps) x0.accounts)) (ile (len x0.orders) 64))
noncomputable def FM:Cx:={ P:=PG,ety:=ety,fn:=look [],inl:=fO [],lp:=bg [] }
theorem LC (x0:ai):cO FM 120 [.val .state] [.bool] x0=pz x0:=by kernel_rfl
def uO:aV:=mkSpec [.val .state] [.bool] true (fun x=>pz x)
theorem Oa:dW PG 120 uO:=
 have K:CxR FM:=aZ.cx (fun _=>rfl) (l:=[]) trivial
 aO K (aJ (l:=[]) rfl trivial) (by kernel_rfl) (fun x y h=>(LC x).trans h) rfl rfl
def iY (x0:aA):Option (Bool):=some (bor (aF (ieq x0.newQty 0)) (aF (ieq x0.newPrice 0)))
noncomputable def NH:Cx:={ P:=PG,ety:=ety,fn:=look [],inl:=fO [],lp:=bg [] }
theorem SV (x0:aA):cO NH 194 [.val .order] [.bool] x0=iY x0:=by kernel_rfl
def lF:aV:=mkSpec [.val .order] [.bool] true (fun x=>iY x)
theorem Dp:dW PG 194 lF:=
 have K:CxR NH:=aZ.cx (fun _=>rfl) (l:=[]) trivial
 aO K (aJ (l:=[]) rfl trivial) (by kernel_rfl) (fun x y h=>(SV x).trans h) rfl rfl
def FY (x0:mQ):Option (mQ):=cnd (ieq x0.kind 1) (some (mQ.mk x0.kind x0.order x0.account x0.symbol x0.side x0.qty x0.price 0 0 0 false 0 0)) (cnd (ieq x0.kind 2) (some (mQ.mk x0.kind x0.order 0 0 0 x0.qty x0.price 0 0 0 false 0 0)) (cnd (ieq x0.kind 3) (some (mQ.mk x0.kind x0.order 0 0 0 0 0 0 0 0 false 0 0)) (cnd (ieq x0.kind 4) (some (mQ.mk x0.kind 0 x0.account x0.symbol 0 0 0 x0.long x0.short x0.opn false 0 0)) (cnd (ieq x0.kind 5) (some (mQ.mk x0.kind 0 0 0 0 0 0 0 0 0 x0.on 0 0)) (cnd (ieq x0.kind 6) (some (mQ.mk x0.kind x0.order 0 0 0 x0.qty x0.price 0 0 0 false x0.seq x0.what)) (some (mQ.mk x0.kind 0 0 0 0 0 0 0 0 0 false 0 0)))))))
noncomputable def Ue:Cx:={ P:=PG,ety:=ety,fn:=look [],inl:=fO [],lp:=bg [] }
theorem XQ (x0:mQ):cO Ue 127 [.val .recd] [.val .recd] x0=FY x0:=by kernel_rfl
def Fv:aV:=mkSpec [.val .recd] [.val .recd] true (fun x=>FY x)
theorem aa0:dW PG 127 Fv:=
 have K:CxR Ue:=aZ.cx (fun _=>rfl) (l:=[]) trivial
 aO K (aJ (l:=[]) rfl trivial) (by kernel_rfl) (fun x y h=>(XQ x).trans h) rfl rfl
def mJ (x0:Int):Option (Bool):=some (band (ile 1 x0) (ile x0 1000000000000))
noncomputable def WE:Cx:={ P:=PG,ety:=ety,fn:=look [],inl:=fO [],lp:=bg [] }
theorem Y6 (x0:Int):cO WE 128 [.int .i64] [.bool] x0=mJ x0:=by kernel_rfl
def xY:aV:=mkSpec [.int .i64] [.bool] true (fun x=>mJ x)
theorem TQ:dW PG 128 xY:=
 have K:CxR WE:=aZ.cx (fun _=>rfl) (l:=[]) trivial
 aO K (aJ (l:=[]) rfl trivial) (by kernel_rfl) (fun x y h=>(Y6 x).trans h) rfl rfl
def oC (x0:Int) (x1:Int):Option (Bool):=some (band (ile 0 x0) (ilt x0 x1))
noncomputable def WO:Cx:={ P:=PG,ety:=ety,fn:=look [],inl:=fO [],lp:=bg [] }
theorem Z8 (x0:Int) (x1:Int):cO WO 129 [.int .i64,.int .i64] [.bool] (x0,x1)=oC x0 x1:=by kernel_rfl
def GK:aV:=mkSpec [.int .i64,.int .i64] [.bool] true (fun x=>oC x.1 x.2)
theorem adb:dW PG 129 GK:=
 have K:CxR WO:=aZ.cx (fun _=>rfl) (l:=[]) trivial
 aO K (aJ (l:=[]) rfl trivial) (by kernel_rfl) (fun x y h=>(Z8 x.1 x.2).trans h) rfl rfl
def oJ (x0:mQ):Option (Bool):=some (band (ile 1 x0.qty) (ile 1 x0.price))
noncomputable def Xj:Cx:={ P:=PG,ety:=ety,fn:=look [],inl:=fO [],lp:=bg [] }
theorem ZY (x0:mQ):cO Xj 130 [.val .recd] [.bool] x0=oJ x0:=by kernel_rfl
def xX:aV:=mkSpec [.val .recd] [.bool] true (fun x=>oJ x)
theorem Uj:dW PG 130 xX:=
 have K:CxR Xj:=aZ.cx (fun _=>rfl) (l:=[]) trivial
 aO K (aJ (l:=[]) rfl trivial) (by kernel_rfl) (fun x y h=>(ZY x).trans h) rfl rfl
def EC (x0:mQ):Option (Bool):=af (cnd (aF (bor (ilt x0.seq 1) (ilt 1000000000 x0.seq))) (mJ x0.order) (some false)) fun y0 => cnd (bor (bor (ilt x0.seq 1) (ilt 1000000000 x0.seq)) (aF y0)) (some false) (cnd (ieq x0.what 3) (some (band (ile 1 x0.qty) (ieq x0.price 0))) (cnd (ieq x0.what 5) (af (oJ x0) fun y1 => some y1) (cnd (ieq x0.what 1) (cnd (ieq x0.what 1) (some (band (ieq x0.qty 0) (ieq x0.price 0))) (some false)) (cnd (ieq x0.what 2) (cnd (ieq x0.what 2) (some (band (ieq x0.qty 0) (ieq x0.price 0))) (some false)) (cnd (ieq x0.what 4) (cnd (ieq x0.what 4) (some (band (ieq x0.qty 0) (ieq x0.price 0))) (some false)) (cnd (ieq x0.what 6) (some (band (ieq x0.qty 0) (ieq x0.price 0))) (some false)))))))
noncomputable def WQ:Cx:={ P:=PG,ety:=ety,fn:=look [(128,xY),(130,xX)],inl:=fO [],lp:=bg [] }
theorem Zd (x0:mQ):cO WQ 131 [.val .recd] [.bool] x0=EC x0:=by kernel_rfl
def Hr:aV:=mkSpec [.val .recd] [.bool] true (fun x=>EC x)
theorem ac2:dW PG 131 Hr:=
 have K:CxR WQ:=aZ.cx (fun _=>rfl) (l:=[(128,xY),(130,xX)]) ⟨TQ,Uj,trivial⟩
 aO K (aJ (l:=[]) rfl trivial) (by kernel_rfl) (fun x y h=>(Zd x).trans h) rfl rfl
def rU (x0:mQ):Option (Bool):=af (FY x0) fun y0 => cnd (aF (band (ieq x0.kind y0.kind) (band (ieq x0.order y0.order) (band (ieq x0.account y0.account) (band (ieq x0.symbol y0.symbol) (band (ieq x0.side y0.side) (band (ieq x0.qty y0.qty) (band (ieq x0.price y0.price) (band (ieq x0.long y0.long) (band (ieq x0.short y0.short) (band (ieq x0.opn y0.opn) (band (beq x0.on y0.on) (band (ieq x0.seq y0.seq) (ieq x0.what y0.what)))))))))))))) (some false) (cnd (ieq x0.kind 1) (af (mJ x0.order) fun y1 => af (cnd y1 (oC x0.account 8) (some false)) fun y2 => af (cnd (band y1 y2) (oC x0.symbol 8) (some false)) fun y3 => af (cnd (band (band (band y1 y2) y3) (bor (ieq x0.side 1) (ieq x0.side 2))) (oJ x0) (some false)) fun y4 => some (band (band (band (band y1 y2) y3) (bor (ieq x0.side 1) (ieq x0.side 2))) y4)) (cnd (ieq x0.kind 2) (af (mJ x0.order) fun y5 => af (cnd y5 (oJ x0) (some false)) fun y6 => some (band y5 y6)) (cnd (ieq x0.kind 3) (af (mJ x0.order) fun y7 => some y7) (cnd (ieq x0.kind 4) (af (oC x0.account 8) fun y8 => af (cnd (band y8 (aF (band (band (ieq x0.symbol (-1)) (ieq x0.long 0)) (ieq x0.short 0)))) (oC x0.symbol 8) (some false)) fun y9 => some (band (band y8 (bor (band (band (ieq x0.symbol (-1)) (ieq x0.long 0)) (ieq x0.short 0)) y9)) (ile 0 (jF (jF x0.long x0.short) x0.opn)))) (cnd (ieq x0.kind 5) (some true) (cnd (ieq x0.kind 6) (af (EC x0) fun y10 => some y10) (some false)))))))
noncomputable def WM:Cx:={ P:=PG,ety:=ety,fn:=look [(127,Fv),(128,xY),(129,GK),(130,xX),(131,Hr)],inl:=fO [],lp:=bg [] }
theorem Zk (x0:mQ):cO WM 60 [.val .recd] [.bool] x0=rU x0:=by kernel_rfl
def l7:aV:=mkSpec [.val .recd] [.bool] true (fun x=>rU x)
theorem FV:dW PG 60 l7:=
 have K:CxR WM:=aZ.cx (fun _=>rfl) (l:=[(127,Fv),(128,xY),(129,GK),(130,xX),(131,Hr)]) ⟨aa0,TQ,adb,Uj,ac2,trivial⟩
 aO K (aJ (l:=[]) rfl trivial) (by kernel_rfl) (fun x y h=>(Zk x).trans h) rfl rfl
def yV (x0:aA):Option (Bool):=af (rU (mQ.mk 1 x0.id x0.account x0.symbol x0.side x0.qty x0.price 0 0 0 false 0 0)) fun y0 => some y0
noncomputable def Q5:Cx:={ P:=PG,ety:=ety,fn:=look [(60,l7)],inl:=fO [],lp:=bg [] }
theorem V8 (x0:aA):cO Q5 218 [.val .order] [.bool] x0=yV x0:=by kernel_rfl
def Dw:aV:=mkSpec [.val .order] [.bool] true (fun x=>yV x)
theorem ZU:dW PG 218 Dw:=
 have K:CxR Q5:=aZ.cx (fun _=>rfl) (l:=[(60,l7)]) ⟨FV,trivial⟩
 aO K (aJ (l:=[]) rfl trivial) (by kernel_rfl) (fun x y h=>(V8 x).trans h) rfl rfl
def jw (x0:aA):Option (Bool):=af (iY x0) fun y0 => af (yV x0) fun y1 => cnd (bor (bor (bor (bor (aF y1) (ilt x0.filled 0)) (ilt x0.qty x0.filled)) (ilt x0.version 0)) (band y0 (ilt (jF x0.newQty x0.newPrice) 1))) (some false) (cnd (ieq x0.phase 1) (some (band (band (ieq x0.filled 0) (ieq x0.version 0)) (aF y0))) (cnd (ieq x0.phase 2) (some (ilt x0.filled x0.qty)) (cnd (ieq x0.phase 3) (some (aF y0)) (some false))))
noncomputable def QZ:Cx:={ P:=PG,ety:=ety,fn:=look [(194,lF),(218,Dw)],inl:=fO [],lp:=bg [] }
theorem Vy (x0:aA):cO QZ 180 [.val .order] [.bool] x0=jw x0:=by kernel_rfl
def dX:aV:=mkSpec [.val .order] [.bool] true (fun x=>jw x)
theorem oD:dW PG 180 dX:=
 have K:CxR QZ:=aZ.cx (fun _=>rfl) (l:=[(194,lF),(218,Dw)]) ⟨Dp,ZU,trivial⟩
 aO K (aJ (l:=[]) rfl trivial) (by kernel_rfl) (fun x y h=>(Vy x).trans h) rfl rfl
def yU (x0:dD):Option (Bool):=some (ile 0 (jF (jF x0.long x0.short) x0.opn))
noncomputable def QO:Cx:={ P:=PG,ety:=ety,fn:=look [],inl:=fO [],lp:=bg [] }
theorem V3 (x0:dD):cO QO 182 [.val .expo] [.bool] x0=yU x0:=by kernel_rfl
def Dx:aV:=mkSpec [.val .expo] [.bool] true (fun x=>yU x)
theorem ZL:dW PG 182 Dx:=
 have K:CxR QO:=aZ.cx (fun _=>rfl) (l:=[]) trivial
 aO K (aJ (l:=[]) rfl trivial) (by kernel_rfl) (fun x y h=>(V3 x).trans h) rfl rfl
def BP:LSh:=⟨74,[(0,.ro .i64)],[],[],[(4,.int .i64),(3,.int .i64)],[],[]⟩
@[reducible] def BO:List jb:=[⟨.exit 0,[(3,.int .i64)],[],[]⟩]
def jZ (p0:(List Int)) (v0:Int) (v1:Int):Option ((Int×Int) ⊕ ((Int))):=cnd (ilt v0 (len p0)) (cnd (band (ile 0 v0) (ilt v0 (len p0))) (some (Sum.inl (wr .i64 (ax v0 1),jF v1 (ah p0 (itn v0))))) none) (some (Sum.inr v1))
def AQ:iO:=BP.spec BO [12,13,14,15,18,19,20,21,22,23,3,16,17,4] (fun p v=>jZ p v.1 v.2)
def lG (x0:(List Int)):Option (Int):=cnd (ilt (len x0) 1) none (cnd (ilt 0 (len x0)) (af (bT (fun v => jZ x0 v.fst v.snd) LF (1,ah x0 0)) fun y0 => some y0) none)
noncomputable def Af:Cx:={ P:=PG,ety:=ety,fn:=look [],inl:=fO [],lp:=bg [(184,122,AQ)] }
theorem IX (p0:(List Int)) (v0:Int) (v1:Int):kD Af 900 184 122 (iq PG 184 122) BP BO p0 (v0,v1)=jZ p0 v0 v1:=by kernel_rfl
theorem NS (x0:(List Int)):cO Af 184 [.ro .i64] [.int .i64] x0=lG x0:=by kernel_rfl
def wM:aV:=mkSpec [.ro .i64] [.int .i64] true (fun x=>lG x)
theorem Qv:dW PG 184 wM:=
 have K:CxR Af:=aZ.cx (fun _=>rfl) (l:=[]) trivial
 aO K (aJ (l:=[(184,122,AQ)]) rfl ⟨dU (n:=900) (f:=184) K (by kernel_rfl) (by kernel_rfl) (by kernel_rfl) (by kernel_rfl) (by kernel_rfl) (fun p v r h=>(IX p v.1 v.2).trans h),trivial⟩) (by kernel_rfl) (fun x y h=>(NS x).trans h) rfl rfl
def Dc:LSh:=⟨73,[(10,.int .i64),(9,.ro .order)],[(1,.mp 8 0)],[(8,[.val .state])],[(11,.int .i64),(3,.int .i64),(2,.bool)],[],[]⟩
@[reducible] def CU:List jb:=[⟨.ret,[(2,.bool)],[],[]⟩,⟨.exit 0,[(3,.int .i64),(2,.bool)],[],[]⟩]
def kT (p0:Int) (p1:(List aA)) (p2:ai) (v0:Int) (v1:Int) (v2:Bool):Option ((Int×Int×Bool) ⊕ ((Bool) ⊕ ((Int×Bool)))):=cnd (ilt v0 p0) (cnd (band (ile 0 v0) (ilt v0 (len p1))) (af (jw (ah p1 (itn v0))) fun y0 => cnd (bor (bor (bor (bor (aF y0) (ieq (ah p1 (itn v0)).phase 3)) (ile p2.accounts (ah p1 (itn v0)).account)) (ile p2.symbols (ah p1 (itn v0)).symbol)) (ile (ah p1 (itn v0)).id v1)) (some (Sum.inr (Sum.inl false))) (some (Sum.inl (wr .i64 (ax v0 1),(ah p1 (itn v0)).id,v2)))) none) (some (Sum.inr (Sum.inr (v1,v2))))
def BB:iO:=Dc.spec CU [12,13,14,5,15,16,17,18,19,20,21,22,23,24,25,26,27,28,29,30,31,32,33,34,35,36,37,38,39,40,41,42,43,44,2,45,46,3,47,11] (fun p v=>kT p.1 p.2.1 p.2.2 v.1 v.2.1 v.2.2)
def je:LSh:=⟨210,[(7,.int .i64),(0,.ro .expo)],[(1,.fn 181 [])],[],[(8,.int .i64),(4,.int .i64)],[],[]⟩
@[reducible] def jf:List jb:=[⟨.ret,[(4,.int .i64)],[],[]⟩,⟨.exit 0,[(4,.int .i64)],[],[]⟩]
def bH (p0:Int) (p1:(List dD)) (v0:Int) (v1:Int):Option ((Int×Int) ⊕ ((Int) ⊕ ((Int)))):=cnd (ilt v0 p0) (cnd (band (ile 0 v0) (ilt v0 (len p1))) (af (yU (ah p1 (itn v0))) fun y0 => cnd (aF y0) (some (Sum.inr (Sum.inl v0))) (some (Sum.inl (wr .i64 (ax v0 1),v1)))) none) (some (Sum.inr (Sum.inr v1)))
def iZ:iO:=je.spec jf [9,10,5,11,12,13,14,15,16,17,4,18,8] (fun p v=>bH p.1 p.2 v.1 v.2)
def qI (x0:ai):Option (Bool):=af (bT (fun v => kT (len x0.orders) x0.orders x0 v.fst v.snd.fst v.snd.snd) LF (0,0,false)) fun y0 => qQ y0 (fun y1 => some y1) fun y1 => cnd (band (band (band (band (band (ile y1.fst x0.last) (ile x0.last 1000000000000)) (ile 0 x0.seq)) (ile x0.seq 1000000000)) (ile 0 x0.lsn)) (ile x0.lsn 1000000000)) (af (bT (fun v => bH (len x0.limits) x0.limits v.fst v.snd) LF (0,0)) fun y2 => qQ y2 (fun y3 => af (cnd (band (band (band (band (band (band (ile y1.fst x0.last) (ile x0.last 1000000000000)) (ile 0 x0.seq)) (ile x0.seq 1000000000)) (ile 0 x0.lsn)) (ile x0.lsn 1000000000)) (aF (ile 0 y3))) (lG x0.caps) (some 0)) fun y4 => some (band (band (band (band (band (band (band (band (ile y1.fst x0.last) (ile x0.last 1000000000000)) (ile 0 x0.seq)) (ile x0.seq 1000000000)) (ile 0 x0.lsn)) (ile x0.lsn 1000000000)) (aF (ile 0 y3))) (ile 0 y4)) (ile 0 x0.last))) fun y3 => af (cnd (bor (band (band (band (band (band (ile y1.fst x0.last) (ile x0.last 1000000000000)) (ile 0 x0.seq)) (ile x0.seq 1000000000)) (ile 0 x0.lsn)) (ile x0.lsn 1000000000)) false) (lG x0.caps) (some 0)) fun y5 => some (band (band (bor (band (band (band (band (band (ile y1.fst x0.last) (ile x0.last 1000000000000)) (ile 0 x0.seq)) (ile x0.seq 1000000000)) (ile 0 x0.lsn)) (ile x0.lsn 1000000000)) false) (ile 0 y5)) (ile 0 x0.last))) (af (cnd (bor (band (band (band (band (band (ile y1.fst x0.last) (ile x0.last 1000000000000)) (ile 0 x0.seq)) (ile x0.seq 1000000000)) (ile 0 x0.lsn)) (ile x0.lsn 1000000000)) false) (lG x0.caps) (some 0)) fun y6 => some (band (band (bor (band (band (band (band (band (ile y1.fst x0.last) (ile x0.last 1000000000000)) (ile 0 x0.seq)) (ile x0.seq 1000000000)) (ile 0 x0.lsn)) (ile x0.lsn 1000000000)) false) (ile 0 y6)) (ile 0 x0.last)))
noncomputable def uV:Cx:={ P:=PG,ety:=ety,fn:=look [(180,dX),(182,Dx),(184,wM)],inl:=fO [181,183,219],lp:=bg [(121,58,BB),(2232058426242137383131,26,iZ)] }
theorem JD (p0:Int) (p1:(List aA)) (p2:ai) (v0:Int) (v1:Int) (v2:Bool):kD uV 900 121 58 (iq PG 121 58) Dc CU (p0,p1,p2) (v0,v1,v2)=kT p0 p1 p2 v0 v1 v2:=by kernel_rfl
theorem mO (p0:Int) (p1:(List dD)) (v0:Int) (v1:Int):kD uV 900 2232058426242137383131 26 (iq PG 219 26) je jf (p0,p1) (v0,v1)=bH p0 p1 v0 v1:=by kernel_rfl
theorem NK (x0:ai):cO uV 121 [.val .state] [.bool] x0=qI x0:=by kernel_rfl
def wQ:aV:=mkSpec [.val .state] [.bool] true (fun x=>qI x)
theorem QE:dW PG 121 wQ:=
 have K:CxR uV:=aZ.cx (fun _=>rfl) (l:=[(180,dX),(182,Dx),(184,wM)]) ⟨oD,ZL,Qv,trivial⟩
 aO K (aJ (l:=[(121,58,BB),(2232058426242137383131,26,iZ)]) rfl ⟨dU (n:=900) (f:=121) K (by kernel_rfl) (by kernel_rfl) (by kernel_rfl) (by kernel_rfl) (by kernel_rfl) (fun p v r h=>(JD p.1 p.2.1 p.2.2 v.1 v.2.1 v.2.2).trans h),
  dU (n:=900) (f:=219) K (by kernel_rfl) (by kernel_rfl) (by kernel_rfl) (by kernel_rfl) (by kernel_rfl) (fun p v r h=>(mO p.1 p.2 v.1 v.2).trans h),trivial⟩) (by kernel_rfl) (fun x y h=>(NK x).trans h) rfl rfl
def aX (x0:ai) (x1:Int) (x2:Int):Option (Int):=some (wr .i64 (ax (wr .i64 (jq x1 x0.symbols)) x2))
noncomputable def EF:Cx:={ P:=PG,ety:=ety,fn:=look [],inl:=fO [],lp:=bg [] }
theorem Lp (x0:ai) (x1:Int) (x2:Int):cO EF 137 [.val .state,.int .i64,.int .i64] [.int .i64] (x0,x1,x2)=aX x0 x1 x2:=by kernel_rfl
def fQ:aV:=mkSpec [.val .state,.int .i64,.int .i64] [.int .i64] true (fun x=>aX x.1 x.2.1 x.2.2)
theorem qP:dW PG 137 fQ:=
 have K:CxR EF:=aZ.cx (fun _=>rfl) (l:=[]) trivial
 aO K (aJ (l:=[]) rfl trivial) (by kernel_rfl) (fun x y h=>(Lp x.1 x.2.1 x.2.2).trans h) rfl rfl
def oZ (x0:Int) (x1:Int):Option (Int×Int):=cnd (band (aF (beq (ilt x0 (wr .i64 (ax x0 x1))) (ilt 0 x1))) (aF (ieq x1 0))) (some (0,3)) (some (wr .i64 (ax x0 x1),0))
noncomputable def abW:Cx:={ P:=PG,ety:=ety,fn:=look [],inl:=fO [],lp:=bg [] }
theorem adq (x0:Int) (x1:Int):cO abW 59 [.int .i64,.int .i64] [.int .i64,.int .i64] (x0,x1)=oZ x0 x1:=by kernel_rfl
def kC:aV:=mkSpec [.int .i64,.int .i64] [.int .i64,.int .i64] true (fun x=>oZ x.1 x.2)
theorem DN:dW PG 59 kC:=
 have K:CxR abW:=aZ.cx (fun _=>rfl) (l:=[]) trivial
 aO K (aJ (l:=[]) rfl trivial) (by kernel_rfl) (fun x y h=>(adq x.1 x.2).trans h) rfl rfl
def wH (x0:Int) (x1:Int):Option (Int×Int):=cnd (band (aF (beq (ilt (wr .i64 (aG x0 x1)) x0) (ilt 0 x1))) (aF (ieq x1 0))) (some (0,3)) (some (wr .i64 (aG x0 x1),0))
noncomputable def ab2:Cx:={ P:=PG,ety:=ety,fn:=look [],inl:=fO [],lp:=bg [] }
theorem adw (x0:Int) (x1:Int):cO ab2 195 [.int .i64,.int .i64] [.int .i64,.int .i64] (x0,x1)=wH x0 x1:=by kernel_rfl
def uQ:aV:=mkSpec [.int .i64,.int .i64] [.int .i64,.int .i64] true (fun x=>wH x.1 x.2)
theorem SS:dW PG 195 uQ:=
 have K:CxR ab2:=aZ.cx (fun _=>rfl) (l:=[]) trivial
 aO K (aJ (l:=[]) rfl trivial) (by kernel_rfl) (fun x y h=>(adw x.1 x.2).trans h) rfl rfl
def Bh (x0:aK):Option (dD×Bool):=af (oZ x0.pos x0.buy) fun y0 => af (wH x0.sell x0.pos) fun y1 => some (dD.mk y0.fst y1.fst x0.opn,band (ieq y0.snd 0) (ieq y1.snd 0))
noncomputable def W9:Cx:={ P:=PG,ety:=ety,fn:=look [(59,kC),(195,uQ)],inl:=fO [],lp:=bg [] }
theorem YT (x0:aK):cO W9 185 [.val .cell] [.val .expo,.bool] x0=Bh x0:=by kernel_rfl
def xU:aV:=mkSpec [.val .cell] [.val .expo,.bool] true (fun x=>Bh x)
theorem Ug:dW PG 185 xU:=
 have K:CxR W9:=aZ.cx (fun _=>rfl) (l:=[(59,kC),(195,uQ)]) ⟨DN,SS,trivial⟩
 aO K (aJ (l:=[]) rfl trivial) (by kernel_rfl) (fun x y h=>(YT x).trans h) rfl rfl
def iT (x0:aK):Option (Bool):=af (Bh x0) fun y0 => some (band y0.snd (ile 0 (jF (jF x0.buy x0.sell) x0.opn)))
noncomputable def TJ:Cx:={ P:=PG,ety:=ety,fn:=look [(185,xU)],inl:=fO [],lp:=bg [] }
theorem XG (x0:aK):cO TJ 123 [.val .cell] [.bool] x0=iT x0:=by kernel_rfl
def jr:aV:=mkSpec [.val .cell] [.bool] true (fun x=>iT x)
theorem zf:dW PG 123 jr:=
 have K:CxR TJ:=aZ.cx (fun _=>rfl) (l:=[(185,xU)]) ⟨Ug,trivial⟩
 aO K (aJ (l:=[]) rfl trivial) (by kernel_rfl) (fun x y h=>(XG x).trans h) rfl rfl
def Dq (x0:Int):Option (Int):=cnd (ilt x0 0) (some (wr .u64 (aG 0 (wr .u64 x0)))) (some (wr .u64 x0))
noncomputable def YR:Cx:={ P:=PG,ety:=ety,fn:=look [],inl:=fO [],lp:=bg [] }
theorem aa8 (x0:Int):cO YR 238 [.int .i64] [.int .u64] x0=Dq x0:=by kernel_rfl
def JY:aV:=mkSpec [.int .i64] [.int .u64] true (fun x=>Dq x)
theorem afI:dW PG 238 JY:=
 have K:CxR YR:=aZ.cx (fun _=>rfl) (l:=[]) trivial
 aO K (aJ (l:=[]) rfl trivial) (by kernel_rfl) (fun x y h=>(aa8 x).trans h) rfl rfl
def Gu (x0:Int) (x1:Int):Option (Int×Int):=af (Dq x0) fun y0 => af (Dq x1) fun y1 => af (oV y0 y1) fun y2 => cnd (band (band (ieq y2.fst 0) (aF (beq (ilt x0 0) (ilt x1 0)))) (ile y2.snd 9223372036854775808)) (some (wr .i64 (wr .u64 (aG 0 y2.snd)),0)) (cnd (band (ieq y2.fst 0) (ile y2.snd 9223372036854775807)) (some (wr .i64 y2.snd,0)) (some (0,3)))
noncomputable def abw:Cx:={ P:=PG,ety:=ety,fn:=look [(238,JY),(176,oz)],inl:=fO [],lp:=bg [] }
theorem ad3 (x0:Int) (x1:Int):cO abw 235 [.int .i64,.int .i64] [.int .i64,.int .i64] (x0,x1)=Gu x0 x1:=by kernel_rfl
def MH:aV:=mkSpec [.int .i64,.int .i64] [.int .i64,.int .i64] true (fun x=>Gu x.1 x.2)
theorem agH:dW PG 235 MH:=
 have K:CxR abw:=aZ.cx (fun _=>rfl) (l:=[(238,JY),(176,oz)]) ⟨afI,Ia,trivial⟩
 aO K (aJ (l:=[]) rfl trivial) (by kernel_rfl) (fun x y h=>(ad3 x.1 x.2).trans h) rfl rfl
def Gj (x0:Int) (x1:Int):Option (Int):=some (imax x0 x1)
noncomputable def acr:Cx:={ P:=PG,ety:=ety,fn:=look [],inl:=fO [],lp:=bg [] }
theorem ado (x0:Int) (x1:Int):cO acr 236 [.int .i64,.int .i64] [.int .i64] (x0,x1)=Gj x0 x1:=by kernel_rfl
def BL:aV:=mkSpec [.int .i64,.int .i64] [.int .i64] true (fun x=>Gj x.1 x.2)
theorem YN:dW PG 236 BL:=
 have K:CxR acr:=aZ.cx (fun _=>rfl) (l:=[]) trivial
 aO K (aJ (l:=[]) rfl trivial) (by kernel_rfl) (fun x y h=>(ado x.1 x.2).trans h) rfl rfl
def wG (x0:aA):Option (Int×Int):=af (jw x0) fun y0 => cnd (aF y0) (some (0,1)) (cnd (ieq x0.phase 3) (some (0,0)) (af (Gu (wr .i64 (aG x0.qty x0.filled)) x0.price) fun y1 => cnd (bor (aF (ieq y1.snd 0)) (ile x0.newQty x0.filled)) (some y1) (af (Gu (wr .i64 (aG x0.newQty x0.filled)) x0.newPrice) fun y2 => cnd (aF (ieq y2.snd 0)) (some (0,y2.snd)) (af (Gj y1.fst y2.fst) fun y3 => some (y3,0)))))
noncomputable def Q8:Cx:={ P:=PG,ety:=ety,fn:=look [(180,dX),(235,MH),(236,BL)],inl:=fO [],lp:=bg [] }
theorem Vx (x0:aA):cO Q8 220 [.val .order] [.int .i64,.int .i64] x0=wG x0:=by kernel_rfl
def tH:aV:=mkSpec [.val .order] [.int .i64,.int .i64] true (fun x=>wG x)
theorem Ox:dW PG 220 tH:=
 have K:CxR Q8:=aZ.cx (fun _=>rfl) (l:=[(180,dX),(235,MH),(236,BL)]) ⟨oD,agH,YN,trivial⟩
 aO K (aJ (l:=[]) rfl trivial) (by kernel_rfl) (fun x y h=>(Vx x).trans h) rfl rfl
def rV (x0:aA):Option (Int):=af (jw x0) fun y0 => cnd (bor (aF y0) (ieq x0.phase 3)) (some 0) (af (Gj x0.qty x0.newQty) fun y1 => some (wr .i64 (aG y1 x0.filled)))
noncomputable def Td:Cx:={ P:=PG,ety:=ety,fn:=look [(180,dX),(236,BL)],inl:=fO [],lp:=bg [] }
theorem XH (x0:aA):cO Td 221 [.val .order] [.int .i64] x0=rV x0:=by kernel_rfl
def vT:aV:=mkSpec [.val .order] [.int .i64] true (fun x=>rV x)
theorem QN:dW PG 221 vT:=
 have K:CxR Td:=aZ.cx (fun _=>rfl) (l:=[(180,dX),(236,BL)]) ⟨oD,YN,trivial⟩
 aO K (aJ (l:=[]) rfl trivial) (by kernel_rfl) (fun x y h=>(XH x).trans h) rfl rfl
def iR (x0:aK) (x1:aA):Option (aK×Int):=af (iT x0) fun y0 => af (cnd (aF (aF y0)) (jw x1) (some false)) fun y1 => cnd (bor (aF y0) (aF y1)) (some (x0,1)) (af (wG x1) fun y2 => cnd (ieq x1.side 2) (af (rV x1) fun y3 => af (oZ x0.sell y3) fun y4 => af (oZ x0.opn y2.fst) fun y5 => af (cnd (aF (bor (bor (aF (ieq y2.snd 0)) (aF (ieq y4.snd 0))) (aF (ieq y5.snd 0)))) (iT (aK.mk x0.pos x0.buy y4.fst y5.fst)) (some false)) fun y6 => cnd (bor (bor (bor (aF (ieq y2.snd 0)) (aF (ieq y4.snd 0))) (aF (ieq y5.snd 0))) (aF y6)) (some (x0,3)) (some (aK.mk x0.pos x0.buy y4.fst y5.fst,0))) (af (rV x1) fun y7 => af (oZ x0.buy y7) fun y8 => af (oZ x0.opn y2.fst) fun y9 => af (cnd (aF (bor (bor (aF (ieq y2.snd 0)) (aF (ieq y8.snd 0))) (aF (ieq y9.snd 0)))) (iT (aK.mk x0.pos y8.fst x0.sell y9.fst)) (some false)) fun y10 => cnd (bor (bor (bor (aF (ieq y2.snd 0)) (aF (ieq y8.snd 0))) (aF (ieq y9.snd 0))) (aF y10)) (some (x0,3)) (some (aK.mk x0.pos y8.fst x0.sell y9.fst,0))))
noncomputable def Xm:Cx:={ P:=PG,ety:=ety,fn:=look [(123,jr),(180,dX),(220,tH),(221,vT),(59,kC)],inl:=fO [188],lp:=bg [] }
theorem ZI (x0:aK) (x1:aA):cO Xm 138 [.val .cell,.val .order] [.val .cell,.int .i64] (x0,x1)=iR x0 x1:=by kernel_rfl
def qA:aV:=mkSpec [.val .cell,.val .order] [.val .cell,.int .i64] true (fun x=>iR x.1 x.2)
theorem LH:dW PG 138 qA:=
 have K:CxR Xm:=aZ.cx (fun _=>rfl) (l:=[(123,jr),(180,dX),(220,tH),(221,vT),(59,kC)]) ⟨zf,oD,Ox,QN,DN,trivial⟩
 aO K (aJ (l:=[]) rfl trivial) (by kernel_rfl) (fun x y h=>(ZI x.1 x.2).trans h) rfl rfl
def AP:LSh:=⟨79,[(18,.int .i64),(17,.ro .order)],[(4,.mf 64),(1,.mp 8 0)],[(8,[.val .state])],[(19,.int .i64),(3,.bool),(2,.buf .cell)],[],[(64,.cell)]⟩
@[reducible] def Au:List jb:=[⟨.ret,[(3,.bool),(2,.buf .cell)],[],[(64,.cell)]⟩,⟨.exit 0,[(3,.bool),(2,.buf .cell)],[],[(64,.cell)]⟩]
def jH (p0:Int) (p1:(List aA)) (p2:ai) (v0:Int) (v1:Bool) (v2:(List aK)) (v3:(List aK)):Option ((Int×Bool×(List aK)×(List aK)) ⊕ ((Bool×(List aK)×(List aK)) ⊕ ((Bool×(List aK)×(List aK))))):=cnd (ilt v0 p0) (cnd (band (ile 0 v0) (ilt v0 (len p1))) (af (aX p2 (ah p1 (itn v0)).account (ah p1 (itn v0)).symbol) fun y0 => cnd (band (ile 0 y0) (ilt y0 (len v3))) (af (iR (ah v3 (itn y0)) (ah p1 (itn v0))) fun y1 => cnd (aF (ieq y1.snd 0)) (some (Sum.inr (Sum.inl (false,[],v3)))) (cnd (band (ile 0 y0) (ilt y0 (len v3))) (some (Sum.inl (wr .i64 (ax v0 1),v1,v2,aY v3 (itn y0) y1.fst))) none)) none) none) (some (Sum.inr (Sum.inr (v1,v2,v3))))
def zK:iO:=AP.spec Au [20,21,22,6,23,24,25,26,27,28,7,30,31,32,33,34,35,29,36,37,8,9,38,39,2,3,40,41,42,43,44,19] (fun p v=>jH p.1 p.2.1 p.2.2 v.1 v.2.1 v.2.2.1 v.2.2.2)
def ou (x0:ai):Option ((List aK)×Bool):=cnd (band (band (ile 0 (len x0.cells)) (ile (len x0.cells) (len x0.cells))) (ile (len x0.cells) 68719476736)) (af (bT (fun v => jH (len x0.orders) x0.orders x0 v.fst v.snd.fst v.snd.snd.fst v.snd.snd.snd) LF (0,false,[],iQ aK (itn (len x0.cells)))) fun y0 => qQ y0 (fun y1 => some (y1.snd.fst,y1.fst)) fun y1 => some (y1.snd.snd,true)) none
noncomputable def xH:Cx:={ P:=PG,ety:=ety,fn:=look [(137,fQ),(138,qA)],inl:=fO [],lp:=bg [(122,58,zK)] }
theorem He (p0:Int) (p1:(List aA)) (p2:ai) (v0:Int) (v1:Bool) (v2:(List aK)) (v3:(List aK)):kD xH 900 122 58 (iq PG 122 58) AP Au (p0,p1,p2) (v0,v1,v2,v3)=jH p0 p1 p2 v0 v1 v2 v3:=by kernel_rfl
theorem KW (x0:ai):cO xH 122 [.val .state] [.buf .cell,.bool] x0=ou x0:=by kernel_rfl
def uy:aV:=mkSpec [.val .state] [.buf .cell,.bool] true (fun x=>ou x)
theorem NW:dW PG 122 uy:=
 have K:CxR xH:=aZ.cx (fun _=>rfl) (l:=[(137,fQ),(138,qA)]) ⟨qP,LH,trivial⟩
 aO K (aJ (l:=[(122,58,zK)]) rfl ⟨dU (n:=900) (f:=122) K (by kernel_rfl) (by kernel_rfl) (by kernel_rfl) (by kernel_rfl) (by kernel_rfl) (fun p v r h=>(He p.1 p.2.1 p.2.2 v.1 v.2.1 v.2.2.1 v.2.2.2).trans h),trivial⟩) (by kernel_rfl) (fun x y h=>(KW x).trans h) rfl rfl
def jC (x0:ai) (x1:Int):Option ((List aK)):=cnd (band (band (ile 0 (wr .i64 (jq x1 x0.symbols))) (ile (wr .i64 (jq x1 x0.symbols)) (wr .i64 (jq (wr .i64 (ax x1 1)) x0.symbols)))) (ile (wr .i64 (jq (wr .i64 (ax x1 1)) x0.symbols)) (len x0.cells))) (some (aC (aH x0.cells (itn (wr .i64 (jq x1 x0.symbols)))) (itn (aG (wr .i64 (jq (wr .i64 (ax x1 1)) x0.symbols)) (wr .i64 (jq x1 x0.symbols)))))) none
noncomputable def CV:Cx:={ P:=PG,ety:=ety,fn:=look [],inl:=fO [],lp:=bg [] }
theorem JL (x0:ai) (x1:Int):cO CV 125 [.val .state,.int .i64] [.ro .cell] (x0,x1)=jC x0 x1:=by kernel_rfl
def kY:aV:=mkSpec [.val .state,.int .i64] [.ro .cell] false (fun x=>jC x.1 x.2)
theorem BJ:dW PG 125 kY:=
 have K:CxR CV:=aZ.cx (fun _=>rfl) (l:=[]) trivial
 aO K (aJ (l:=[]) rfl trivial) (by kernel_rfl) (fun x y h=>(JL x.1 x.2).trans h) rfl rfl
def O9:LSh:=⟨71,[(10,.int .i64),(9,.ro .i64)],[],[],[(11,.int .i64),(4,.int .i64),(3,.int .i64),(2,.int .i64)],[],[]⟩
@[reducible] def Pv:List jb:=[⟨.ret,[(3,.int .i64),(2,.int .i64)],[],[]⟩,⟨.exit 0,[(4,.int .i64),(3,.int .i64),(2,.int .i64)],[],[]⟩]
def ug (p0:Int) (p1:(List Int)) (v0:Int) (v1:Int) (v2:Int) (v3:Int):Option ((Int×Int×Int×Int) ⊕ ((Int×Int) ⊕ ((Int×Int×Int)))):=cnd (ilt v0 p0) (cnd (band (ile 0 v0) (ilt v0 (len p1))) (af (oZ v1 (ah p1 (itn v0))) fun y0 => cnd (aF (ieq y0.snd 0)) (some (Sum.inr (Sum.inl (y0.snd,0)))) (some (Sum.inl (wr .i64 (ax v0 1),y0.fst,v2,v3)))) none) (some (Sum.inr (Sum.inr (v1,v2,v3))))
def Nu:iO:=O9.spec Pv [12,13,14,6,16,17,18,15,19,20,7,8,21,22,23,2,3,24,4,25,11] (fun p v=>ug p.1 p.2 v.1 v.2.1 v.2.2.1 v.2.2.2)
def Ej (x0:(List Int)):Option (Int×Int):=af (bT (fun v => ug (len x0) x0 v.fst v.snd.fst v.snd.snd.fst v.snd.snd.snd) LF (0,0,0,0)) fun y0 => qQ y0 (fun y1 => some (y1.snd,y1.fst)) fun y1 => some (y1.fst,0)
noncomputable def OH:Cx:={ P:=PG,ety:=ety,fn:=look [(59,kC)],inl:=fO [],lp:=bg [(186,58,Nu)] }
theorem UU (p0:Int) (p1:(List Int)) (v0:Int) (v1:Int) (v2:Int) (v3:Int):kD OH 900 186 58 (iq PG 186 58) O9 Pv (p0,p1) (v0,v1,v2,v3)=ug p0 p1 v0 v1 v2 v3:=by kernel_rfl
theorem aag (x0:(List Int)):cO OH 186 [.ro .i64] [.int .i64,.int .i64] x0=Ej x0:=by kernel_rfl
def IC:aV:=mkSpec [.ro .i64] [.int .i64,.int .i64] true (fun x=>Ej x)
theorem aeb:dW PG 186 IC:=
 have K:CxR OH:=aZ.cx (fun _=>rfl) (l:=[(59,kC)]) ⟨DN,trivial⟩
 aO K (aJ (l:=[(186,58,Nu)]) rfl ⟨dU (n:=900) (f:=186) K (by kernel_rfl) (by kernel_rfl) (by kernel_rfl) (by kernel_rfl) (by kernel_rfl) (fun p v r h=>(UU p.1 p.2 v.1 v.2.1 v.2.2.1 v.2.2.2).trans h),trivial⟩) (by kernel_rfl) (fun x y h=>(aag x).trans h) rfl rfl
def KO:LSh:=⟨71,[(8,.int .i64),(7,.ro .cell)],[],[],[(9,.int .i64),(4,.buf .i64)],[],[]⟩
@[reducible] def Ll:List jb:=[⟨.exit 0,[(4,.buf .i64)],[],[]⟩]
def qw (p0:Int) (p1:(List aK)) (v0:Int) (v1:(List Int)):Option ((Int×(List Int)) ⊕ (((List Int)))):=cnd (ilt v0 p0) (cnd (band (ile 0 v0) (ilt v0 (len p1))) (cnd (ile (len (jc v1 [(ah p1 (itn v0)).opn])) 68719476736) (some (Sum.inl (wr .i64 (ax v0 1),jc v1 [(ah p1 (itn v0)).opn]))) none) none) (some (Sum.inr v1))
def I7:iO:=KO.spec Ll [10,11,12,6,13,14,15,16,17,4,18,9] (fun p v=>qw p.1 p.2 v.1 v.2)
def sJ (x0:(List aK)):Option (Int×Int):=af (bT (fun v => qw (len x0) x0 v.fst v.snd) LF (0,[])) fun y0 => af (Ej y0) fun y1 => some y1
noncomputable def JK:Cx:={ P:=PG,ety:=ety,fn:=look [(186,IC)],inl:=fO [],lp:=bg [(124,58,I7)] }
theorem Qw (p0:Int) (p1:(List aK)) (v0:Int) (v1:(List Int)):kD JK 900 124 58 (iq PG 124 58) KO Ll (p0,p1) (v0,v1)=qw p0 p1 v0 v1:=by kernel_rfl
theorem Vh (x0:(List aK)):cO JK 124 [.ro .cell] [.int .i64,.int .i64] x0=sJ x0:=by kernel_rfl
def uq:aV:=mkSpec [.ro .cell] [.int .i64,.int .i64] true (fun x=>sJ x)
theorem OW:dW PG 124 uq:=
 have K:CxR JK:=aZ.cx (fun _=>rfl) (l:=[(186,IC)]) ⟨aeb,trivial⟩
 aO K (aJ (l:=[(124,58,I7)]) rfl ⟨dU (n:=900) (f:=124) K (by kernel_rfl) (by kernel_rfl) (by kernel_rfl) (by kernel_rfl) (by kernel_rfl) (fun p v r h=>(Qw p.1 p.2 v.1 v.2).trans h),trivial⟩) (by kernel_rfl) (fun x y h=>(Vh x).trans h) rfl rfl
def Am:LSh:=⟨89,[(28,.int .i64),(27,.ro .cell)],[(3,.mf 96)],[],[(29,.int .i64),(2,.bool)],[],[(96,.cell)]⟩
@[reducible] def Ai:List jb:=[⟨.ret,[(2,.bool)],[],[(96,.cell)]⟩,⟨.exit 0,[(2,.bool)],[],[(96,.cell)]⟩]
def jI (p0:Int) (p1:(List aK)) (v0:Int) (v1:Bool) (v2:(List aK)):Option ((Int×Bool×(List aK)) ⊕ ((Bool×(List aK)) ⊕ ((Bool×(List aK))))):=cnd (ilt v0 p0) (cnd (band (ile 0 v0) (ilt v0 (len p1))) (cnd (band (ile 0 v0) (ilt v0 (len v2))) (af (iT (ah p1 (itn v0))) fun y0 => cnd (bor (band (ile 0 v0) (ilt v0 (len (aY v2 (itn v0) (aK.mk (ah p1 (itn v0)).pos (ah v2 (itn v0)).buy (ah v2 (itn v0)).sell (ah v2 (itn v0)).opn))))) (aF (aF (aF y0)))) (cnd (bor (aF y0) (aF (band (ieq (ah (aY v2 (itn v0) (aK.mk (ah p1 (itn v0)).pos (ah v2 (itn v0)).buy (ah v2 (itn v0)).sell (ah v2 (itn v0)).opn)) (itn v0)).pos (ah p1 (itn v0)).pos) (band (ieq (ah (aY v2 (itn v0) (aK.mk (ah p1 (itn v0)).pos (ah v2 (itn v0)).buy (ah v2 (itn v0)).sell (ah v2 (itn v0)).opn)) (itn v0)).buy (ah p1 (itn v0)).buy) (band (ieq (ah (aY v2 (itn v0) (aK.mk (ah p1 (itn v0)).pos (ah v2 (itn v0)).buy (ah v2 (itn v0)).sell (ah v2 (itn v0)).opn)) (itn v0)).sell (ah p1 (itn v0)).sell) (ieq (ah (aY v2 (itn v0) (aK.mk (ah p1 (itn v0)).pos (ah v2 (itn v0)).buy (ah v2 (itn v0)).sell (ah v2 (itn v0)).opn)) (itn v0)).opn (ah p1 (itn v0)).opn)))))) (some (Sum.inr (Sum.inl (false,aY v2 (itn v0) (aK.mk (ah p1 (itn v0)).pos (ah v2 (itn v0)).buy (ah v2 (itn v0)).sell (ah v2 (itn v0)).opn))))) (some (Sum.inl (wr .i64 (ax v0 1),v1,aY v2 (itn v0) (aK.mk (ah p1 (itn v0)).pos (ah v2 (itn v0)).buy (ah v2 (itn v0)).sell (ah v2 (itn v0)).opn))))) none) none) none) (some (Sum.inr (Sum.inr (v1,v2))))
def zi:iO:=Am.spec Ai [30,31,32,33,6,5,34,35,36,37,38,39,40,41,42,43,44,45,46,47,48,49,50,2,51,29] (fun p v=>jI p.1 p.2 v.1 v.2.1 v.2.2)
def AL:LSh:=⟨162,[(54,.int .i64)],[(1,.mp 8 0)],[(8,[.val .state])],[(55,.int .i64),(2,.bool)],[],[]⟩
@[reducible] def AA:List jb:=[⟨.ret,[(2,.bool)],[],[]⟩,⟨.exit 2,[(2,.bool)],[],[]⟩]
def jK (p0:Int) (p1:ai) (v0:Int) (v1:Bool):Option ((Int×Bool) ⊕ ((Bool) ⊕ ((Bool)))):=cnd (ilt v0 p0) (af (jC p1 v0) fun y0 => af (sJ y0) fun y1 => cnd (aF (ieq y1.snd 0)) (some (Sum.inr (Sum.inl false))) (some (Sum.inl (wr .i64 (ax v0 1),v1)))) (some (Sum.inr (Sum.inr v1)))
def zy:iO:=AL.spec AA [56,57,7,59,60,61,62,58,63,64,8,9,65,66,2,67,55] (fun p v=>jK p.1 p.2 v.1 v.2)
def sV (x0:ai):Option (Bool):=af (pz x0) fun y0 => af (cnd (aF (aF y0)) (qI x0) (some false)) fun y1 => cnd (bor (aF y0) (aF y1)) (some false) (af (ou x0) fun y2 => cnd (aF y2.snd) (some false) (af (bT (fun v => jI (len x0.cells) x0.cells v.fst v.snd.fst v.snd.snd) LF (0,false,y2.fst)) fun y3 => qQ y3 (fun y4 => some y4.fst) fun y4 => af (bT (fun v => jK x0.accounts x0 v.fst v.snd) LF (0,y4.fst)) fun y5 => qQ y5 (fun y6 => some y6) fun y6 => some true))
noncomputable def sW:Cx:={ P:=PG,ety:=ety,fn:=look [(120,uO),(121,wQ),(122,uy),(123,jr),(125,kY),(124,uq)],inl:=fO [],lp:=bg [(51,250,zi),(51,506,zy)] }
theorem G5 (p0:Int) (p1:(List aK)) (v0:Int) (v1:Bool) (v2:(List aK)):kD sW 900 51 250 (iq PG 51 250) Am Ai (p0,p1) (v0,v1,v2)=jI p0 p1 v0 v1 v2:=by kernel_rfl
theorem Ih (p0:Int) (p1:ai) (v0:Int) (v1:Bool):kD sW 900 51 506 (iq PG 51 506) AL AA (p0,p1) (v0,v1)=jK p0 p1 v0 v1:=by kernel_rfl
theorem L8 (x0:ai):cO sW 51 [.val .state] [.bool] x0=sV x0:=by kernel_rfl
def uT:aV:=mkSpec [.val .state] [.bool] true (fun x=>sV x)
theorem OY:dW PG 51 uT:=
 have K:CxR sW:=aZ.cx (fun _=>rfl) (l:=[(120,uO),(121,wQ),(122,uy),(123,jr),(125,kY),(124,uq)]) ⟨Oa,QE,NW,zf,BJ,OW,trivial⟩
 aO K (aJ (l:=[(51,250,zi),(51,506,zy)]) rfl ⟨dU (n:=900) (f:=51) K (by kernel_rfl) (by kernel_rfl) (by kernel_rfl) (by kernel_rfl) (by kernel_rfl) (fun p v r h=>(G5 p.1 p.2 v.1 v.2.1 v.2.2).trans h),
  dU (n:=900) (f:=51) K (by kernel_rfl) (by kernel_rfl) (by kernel_rfl) (by kernel_rfl) (by kernel_rfl) (fun p v r h=>(Ih p.1 p.2 v.1 v.2).trans h),trivial⟩) (by kernel_rfl) (fun x y h=>(L8 x).trans h) rfl rfl
def lW (x0:ai):Option (Bool):=af (sV x0) fun y0 => some y0
noncomputable def UW:Cx:={ P:=PG,ety:=ety,fn:=look [(51,uT)],inl:=fO [],lp:=bg [] }
theorem X4 (x0:ai):cO UW 18 [.val .state] [.bool] x0=lW x0:=by kernel_rfl
def lm:aV:=mkSpec [.val .state] [.bool] true (fun x=>lW x)
theorem Ec:dW PG 18 lm:=
 have K:CxR UW:=aZ.cx (fun _=>rfl) (l:=[(51,uT)]) ⟨OY,trivial⟩
 aO K (aJ (l:=[]) rfl trivial) (by kernel_rfl) (fun x y h=>(X4 x).trans h) rfl rfl
def xI (x0:Int) (x1:Int) (x2:dD) (x3:Int):Option (ai×Int):=cnd (bor (bor (bor (ilt x0 1) (ilt 8 x0)) (ilt x1 1)) (ilt 8 x1)) (some (ai.mk 0 0 [] [] [] [] false 0 0 0,1)) (cnd (band (band (ile 0 (wr .i64 (jq x0 x1))) (ile (wr .i64 (jq x0 x1)) (wr .i64 (jq x0 x1)))) (ile (wr .i64 (jq x0 x1)) 68719476736)) (af (kX [x2] (wr .i64 (jq x0 x1))) fun y0 => af (mW [x3] x0) fun y1 => af (lW (ai.mk x0 x1 [] (iQ aK (itn (wr .i64 (jq x0 x1)))) y0 y1 false 0 0 0)) fun y2 => cnd (aF y2) (some (ai.mk 0 0 [] [] [] [] false 0 0 0,1)) (some (ai.mk x0 x1 [] (iQ aK (itn (wr .i64 (jq x0 x1)))) y0 y1 false 0 0 0,0))) none)
noncomputable def aat:Cx:={ P:=PG,ety:=ety,fn:=look [(57,pW),(58,sQ),(18,lm)],inl:=fO [],lp:=bg [] }
theorem aa2 (x0:Int) (x1:Int) (x2:dD) (x3:Int):cO aat 22 [.int .i64,.int .i64,.val .expo,.int .i64] [.val .state,.int .i64] (x0,x1,x2,x3)=xI x0 x1 x2 x3:=by kernel_rfl
def zF:aV:=mkSpec [.int .i64,.int .i64,.val .expo,.int .i64] [.val .state,.int .i64] false (fun x=>xI x.1 x.2.1 x.2.2.1 x.2.2.2)
theorem Xd:dW PG 22 zF:=
 have K:CxR aat:=aZ.cx (fun _=>rfl) (l:=[(57,pW),(58,sQ),(18,lm)]) ⟨IW,Mc,Ec,trivial⟩
 aO K (aJ (l:=[]) rfl trivial) (by kernel_rfl) (fun x y h=>(aa2 x.1 x.2.1 x.2.2.1 x.2.2.2).trans h) rfl rfl
def eU (x0:(List aA)):Option ((List aA)):=UY (len x0) fun y0 => cnd (beq y0 true) (some []) (cnd (ile (len x0) 68719476736) (some x0) none)
noncomputable def zB:Cx:={ P:=PG,ety:=ety,fn:=look [],inl:=fO [],lp:=bg [] }
theorem FW (x0:(List aA)):cO zB 132 [.ro .order] [.buf .order] x0=eU x0:=by kernel_rfl
def pV:aV:=mkSpec [.ro .order] [.buf .order] true (fun x=>eU x)
theorem IU:dW PG 132 pV:=
 have K:CxR zB:=aZ.cx (fun _=>rfl) (l:=[]) trivial
 aO K (aJ (l:=[]) rfl trivial) (by kernel_rfl) (fun x y h=>(FW x).trans h) rfl rfl
def fA (x0:(List aK)):Option ((List aK)):=UY (len x0) fun y0 => cnd (beq y0 true) (some []) (cnd (ile (len x0) 68719476736) (some x0) none)
noncomputable def Aw:Cx:={ P:=PG,ety:=ety,fn:=look [],inl:=fO [],lp:=bg [] }
theorem Ht (x0:(List aK)):cO Aw 133 [.ro .cell] [.buf .cell] x0=fA x0:=by kernel_rfl
def qL:aV:=mkSpec [.ro .cell] [.buf .cell] true (fun x=>fA x)
theorem JG:dW PG 133 qL:=
 have K:CxR Aw:=aZ.cx (fun _=>rfl) (l:=[]) trivial
 aO K (aJ (l:=[]) rfl trivial) (by kernel_rfl) (fun x y h=>(Ht x).trans h) rfl rfl
def eY (x0:(List dD)):Option ((List dD)):=UY (len x0) fun y0 => cnd (beq y0 true) (some []) (cnd (ile (len x0) 68719476736) (some x0) none)
noncomputable def Ba:Cx:={ P:=PG,ety:=ety,fn:=look [],inl:=fO [],lp:=bg [] }
theorem IE (x0:(List dD)):cO Ba 134 [.ro .expo] [.buf .expo] x0=eY x0:=by kernel_rfl
def qF:aV:=mkSpec [.ro .expo] [.buf .expo] true (fun x=>eY x)
theorem J3:dW PG 134 qF:=
 have K:CxR Ba:=aZ.cx (fun _=>rfl) (l:=[]) trivial
 aO K (aJ (l:=[]) rfl trivial) (by kernel_rfl) (fun x y h=>(IE x).trans h) rfl rfl
def gG (x0:(List Int)):Option ((List Int)):=UY (len x0) fun y0 => cnd (beq y0 true) (some []) (cnd (ile (len x0) 68719476736) (some x0) none)
noncomputable def Eo:Cx:={ P:=PG,ety:=ety,fn:=look [],inl:=fO [],lp:=bg [] }
theorem KC (x0:(List Int)):cO Eo 135 [.ro .i64] [.buf .i64] x0=gG x0:=by kernel_rfl
def sZ:aV:=mkSpec [.ro .i64] [.buf .i64] true (fun x=>gG x)
theorem NQ:dW PG 135 sZ:=
 have K:CxR Eo:=aZ.cx (fun _=>rfl) (l:=[]) trivial
 aO K (aJ (l:=[]) rfl trivial) (by kernel_rfl) (fun x y h=>(KC x).trans h) rfl rfl
def wL (x0:mQ):Option (aA×Int):=af (cnd (aF (aF (ieq x0.kind 1))) (rU x0) (some false)) fun y0 => cnd (bor (aF (ieq x0.kind 1)) (aF y0)) (some (aA.mk 0 0 0 0 0 0 0 0 0 0 0 false,1)) (some (aA.mk x0.order x0.account x0.symbol x0.side x0.qty x0.price 0 1 0 0 0 false,0))
noncomputable def QJ:Cx:={ P:=PG,ety:=ety,fn:=look [(60,l7)],inl:=fO [],lp:=bg [] }
theorem V6 (x0:mQ):cO QJ 136 [.val .recd] [.val .order,.int .i64] x0=wL x0:=by kernel_rfl
def D7:aV:=mkSpec [.val .recd] [.val .order,.int .i64] true (fun x=>wL x)
theorem ZT:dW PG 136 D7:=
 have K:CxR QJ:=aZ.cx (fun _=>rfl) (l:=[(60,l7)]) ⟨FV,trivial⟩
 aO K (aJ (l:=[]) rfl trivial) (by kernel_rfl) (fun x y h=>(V6 x).trans h) rfl rfl
def Gq (x0:aK):Option (dD×Int):=af (iT x0) fun y0 => cnd (aF y0) (some (dD.mk 0 0 0,1)) (af (Bh x0) fun y1 => some (y1.fst,0))
noncomputable def acg:Cx:={ P:=PG,ety:=ety,fn:=look [(123,jr),(185,xU)],inl:=fO [],lp:=bg [] }
theorem adx (x0:aK):cO acg 189 [.val .cell] [.val .expo,.int .i64] x0=Gq x0:=by kernel_rfl
def MC:aV:=mkSpec [.val .cell] [.val .expo,.int .i64] true (fun x=>Gq x)
theorem agw:dW PG 189 MC:=
 have K:CxR acg:=aZ.cx (fun _=>rfl) (l:=[(123,jr),(185,xU)]) ⟨zf,Ug,trivial⟩
 aO K (aJ (l:=[]) rfl trivial) (by kernel_rfl) (fun x y h=>(adx x).trans h) rfl rfl
def wJ (x0:dD):Option (SA3):=some (SA3.mk x0.long x0.short x0.opn)
noncomputable def Ri:Cx:={ P:=PG,ety:=ety,fn:=look [],inl:=fO [],lp:=bg [] }
theorem VF (x0:dD):cO Ri 222 [.val .expo] [.val .a3] x0=wJ x0:=by kernel_rfl
def DT:aV:=mkSpec [.val .expo] [.val .a3] true (fun x=>wJ x)
theorem Yy:dW PG 222 DT:=
 have K:CxR Ri:=aZ.cx (fun _=>rfl) (l:=[]) trivial
 aO K (aJ (l:=[]) rfl trivial) (by kernel_rfl) (fun x y h=>(VF x).trans h) rfl rfl
def jR (x0:Int) (x1:Int) (x2:Int):Option (Bool):=some (ilt (imax x0 x2) x1)
noncomputable def G6:Cx:={ P:=PG,ety:=ety,fn:=look [],inl:=fO [],lp:=bg [] }
theorem NP (x0:Int) (x1:Int) (x2:Int):cO G6 191 [.int .i64,.int .i64,.int .i64] [.bool] (x0,x1,x2)=jR x0 x1 x2:=by kernel_rfl
def mZ:aV:=mkSpec [.int .i64,.int .i64,.int .i64] [.bool] true (fun x=>jR x.1 x.2.1 x.2.2)
theorem FD:dW PG 191 mZ:=
 have K:CxR G6:=aZ.cx (fun _=>rfl) (l:=[]) trivial
 aO K (aJ (l:=[]) rfl trivial) (by kernel_rfl) (fun x y h=>(NP x.1 x.2.1 x.2.2).trans h) rfl rfl
def vO (x0:dD) (x1:dD) (x2:dD):Option (Bool):=af (wJ x0) fun y0 => af (wJ x1) fun y1 => af (wJ x2) fun y2 => af (jR y0.a0 y1.a0 y2.a0) fun y3 => cnd y3 (some true) (af (jR y0.a1 y1.a1 y2.a1) fun y4 => cnd y4 (some true) (af (jR y0.a2 y1.a2 y2.a2) fun y5 => cnd y5 (some true) (some false)))
noncomputable def Nj:Cx:={ P:=PG,ety:=ety,fn:=look [(222,DT),(191,mZ)],inl:=fO [],lp:=bg [] }
theorem RH (x0:dD) (x1:dD) (x2:dD):cO Nj 190 [.val .expo,.val .expo,.val .expo] [.bool] (x0,x1,x2)=vO x0 x1 x2:=by kernel_rfl
def Ag:aV:=mkSpec [.val .expo,.val .expo,.val .expo] [.bool] true (fun x=>vO x.1 x.2.1 x.2.2)
theorem Wn:dW PG 190 Ag:=
 have K:CxR Nj:=aZ.cx (fun _=>rfl) (l:=[(222,DT),(191,mZ)]) ⟨Yy,FD,trivial⟩
 aO K (aJ (l:=[]) rfl trivial) (by kernel_rfl) (fun x y h=>(RH x.1 x.2.1 x.2.2).trans h) rfl rfl
def dO (x0:ai) (x1:ai) (x2:Int) (x3:Int):Option (Int):=af (aX x0 x2 x3) fun y0 => af (jC x0 x2) fun y1 => af (sJ y1) fun y2 => cnd (aF (ieq y2.snd 0)) (some 3) (af (jC x1 x2) fun y3 => af (sJ y3) fun y4 => cnd (band (ile 0 y0) (ilt y0 (len x1.cells))) (af (Gq (ah x1.cells (itn y0))) fun y5 => cnd (band (ile 0 y0) (ilt y0 (len x0.cells))) (af (Gq (ah x0.cells (itn y0))) fun y6 => cnd (band (ile 0 y0) (ilt y0 (len x0.limits))) (af (vO y5.fst y6.fst (ah x0.limits (itn y0))) fun y7 => cnd (bor (band (ile 0 x2) (ilt x2 (len x0.caps))) (aF (aF y7))) (af (cnd (aF y7) (jR y4.fst y2.fst (ah x0.caps (itn x2))) (some false)) fun y8 => cnd (bor y7 y8) (some 4) (some 0)) none) none) none) none)
noncomputable def FT:Cx:={ P:=PG,ety:=ety,fn:=look [(137,fQ),(125,kY),(124,uq),(189,MC),(190,Ag),(191,mZ)],inl:=fO [],lp:=bg [] }
theorem MG (x0:ai) (x1:ai) (x2:Int) (x3:Int):cO FT 139 [.val .state,.val .state,.int .i64,.int .i64] [.int .i64] (x0,x1,x2,x3)=dO x0 x1 x2 x3:=by kernel_rfl
def vg:aV:=mkSpec [.val .state,.val .state,.int .i64,.int .i64] [.int .i64] true (fun x=>dO x.1 x.2.1 x.2.2.1 x.2.2.2)
theorem OX:dW PG 139 vg:=
 have K:CxR FT:=aZ.cx (fun _=>rfl) (l:=[(137,fQ),(125,kY),(124,uq),(189,MC),(190,Ag),(191,mZ)]) ⟨qP,BJ,OW,agw,Wn,FD,trivial⟩
 aO K (aJ (l:=[]) rfl trivial) (by kernel_rfl) (fun x y h=>(MG x.1 x.2.1 x.2.2.1 x.2.2.2).trans h) rfl rfl
def lC:LSh:=⟨78,[(7,.int .i64),(0,.ro .order)],[(1,.fn 193 [.mp 24 0])],[(24,[.int .i64])],[(8,.int .i64),(4,.int .i64)],[],[]⟩
@[reducible] def lu:List jb:=[⟨.ret,[(4,.int .i64)],[],[]⟩,⟨.exit 0,[(4,.int .i64)],[],[]⟩]
def dB (p0:Int) (p1:(List aA)) (p2:Int) (v0:Int) (v1:Int):Option ((Int×Int) ⊕ ((Int) ⊕ ((Int)))):=cnd (ilt v0 p0) (cnd (band (ile 0 v0) (ilt v0 (len p1))) (cnd (ieq (ah p1 (itn v0)).id p2) (some (Sum.inr (Sum.inl v0))) (some (Sum.inl (wr .i64 (ax v0 1),v1)))) none) (some (Sum.inr (Sum.inr v1)))
def kV:iO:=lC.spec lu [9,10,5,11,12,13,14,15,16,17,4,18,8] (fun p v=>dB p.1 p.2.1 p.2.2 v.1 v.2)
def qg (x0:ai) (x1:Int):Option (Int):=af (bT (fun v => dB (len x0.orders) x0.orders x1 v.fst v.snd) LF (0,0)) fun y0 => qQ y0 (fun y1 => some y1) fun y1 => some (-1)
noncomputable def PI:Cx:={ P:=PG,ety:=ety,fn:=look [],inl:=fO [193,192],lp:=bg [(601295462592,26,kV)] }
theorem qW (p0:Int) (p1:(List aA)) (p2:Int) (v0:Int) (v1:Int):kD PI 900 601295462592 26 (iq PG 192 26) lC lu (p0,p1,p2) (v0,v1)=dB p0 p1 p2 v0 v1:=by kernel_rfl
theorem aai (x0:ai) (x1:Int):cO PI 140 [.val .state,.int .i64] [.int .i64] (x0,x1)=qg x0 x1:=by kernel_rfl
def H9:aV:=mkSpec [.val .state,.int .i64] [.int .i64] true (fun x=>qg x.1 x.2)
theorem adL:dW PG 140 H9:=
 have K:CxR PI:=aZ.cx (fun _=>rfl) (l:=[]) trivial
 aO K (aJ (l:=[(601295462592,26,kV)]) rfl ⟨dU (n:=900) (f:=192) K (by kernel_rfl) (by kernel_rfl) (by kernel_rfl) (by kernel_rfl) (by kernel_rfl) (fun p v r h=>(qW p.1 p.2.1 p.2.2 v.1 v.2).trans h),trivial⟩) (by kernel_rfl) (fun x y h=>(aai x.1 x.2).trans h) rfl rfl
def tK (x0:aA) (x1:Int) (x2:Int):Option (aA×Int):=af (oZ x0.version 1) fun y0 => af (jw x0) fun y1 => cnd (aF y1) (cnd (aF y1) (some (x0,1)) (cnd (aF (ieq x0.phase 2)) (cnd (aF (ieq x0.phase 2)) (some (x0,8)) (some (aA.mk x0.id x0.account x0.symbol x0.side x0.qty x0.price x0.filled x0.phase x1 x2 (wr .i64 (ax x0.version 1)) x0.asked,0))) (af (iY x0) fun y2 => cnd y2 (cnd y2 (some (x0,8)) (some (aA.mk x0.id x0.account x0.symbol x0.side x0.qty x0.price x0.filled x0.phase x1 x2 (wr .i64 (ax x0.version 1)) x0.asked,0))) (cnd x0.asked (some (x0,8)) (some (aA.mk x0.id x0.account x0.symbol x0.side x0.qty x0.price x0.filled x0.phase x1 x2 (wr .i64 (ax x0.version 1)) x0.asked,0)))))) (cnd (ilt x1 1) (cnd (ilt x1 1) (some (x0,1)) (cnd (aF (ieq x0.phase 2)) (cnd (aF (ieq x0.phase 2)) (some (x0,8)) (some (aA.mk x0.id x0.account x0.symbol x0.side x0.qty x0.price x0.filled x0.phase x1 x2 (wr .i64 (ax x0.version 1)) x0.asked,0))) (af (iY x0) fun y3 => cnd y3 (cnd y3 (some (x0,8)) (some (aA.mk x0.id x0.account x0.symbol x0.side x0.qty x0.price x0.filled x0.phase x1 x2 (wr .i64 (ax x0.version 1)) x0.asked,0))) (cnd x0.asked (some (x0,8)) (some (aA.mk x0.id x0.account x0.symbol x0.side x0.qty x0.price x0.filled x0.phase x1 x2 (wr .i64 (ax x0.version 1)) x0.asked,0)))))) (cnd (ilt x2 1) (cnd (ilt x2 1) (some (x0,1)) (cnd (aF (ieq x0.phase 2)) (cnd (aF (ieq x0.phase 2)) (some (x0,8)) (some (aA.mk x0.id x0.account x0.symbol x0.side x0.qty x0.price x0.filled x0.phase x1 x2 (wr .i64 (ax x0.version 1)) x0.asked,0))) (af (iY x0) fun y4 => cnd y4 (cnd y4 (some (x0,8)) (some (aA.mk x0.id x0.account x0.symbol x0.side x0.qty x0.price x0.filled x0.phase x1 x2 (wr .i64 (ax x0.version 1)) x0.asked,0))) (cnd x0.asked (some (x0,8)) (some (aA.mk x0.id x0.account x0.symbol x0.side x0.qty x0.price x0.filled x0.phase x1 x2 (wr .i64 (ax x0.version 1)) x0.asked,0)))))) (cnd (aF (ieq y0.snd 0)) (some (x0,1)) (cnd (aF (ieq x0.phase 2)) (cnd (aF (ieq x0.phase 2)) (some (x0,8)) (some (aA.mk x0.id x0.account x0.symbol x0.side x0.qty x0.price x0.filled x0.phase x1 x2 (wr .i64 (ax x0.version 1)) x0.asked,0))) (af (iY x0) fun y5 => cnd y5 (cnd y5 (some (x0,8)) (some (aA.mk x0.id x0.account x0.symbol x0.side x0.qty x0.price x0.filled x0.phase x1 x2 (wr .i64 (ax x0.version 1)) x0.asked,0))) (cnd x0.asked (some (x0,8)) (some (aA.mk x0.id x0.account x0.symbol x0.side x0.qty x0.price x0.filled x0.phase x1 x2 (wr .i64 (ax x0.version 1)) x0.asked,0))))))))
noncomputable def Pq:Cx:={ P:=PG,ety:=ety,fn:=look [(59,kC),(180,dX),(194,lF)],inl:=fO [],lp:=bg [] }
theorem UJ (x0:aA) (x1:Int) (x2:Int):cO Pq 141 [.val .order,.int .i64,.int .i64] [.val .order,.int .i64] (x0,x1,x2)=tK x0 x1 x2:=by kernel_rfl
def CJ:aV:=mkSpec [.val .order,.int .i64,.int .i64] [.val .order,.int .i64] true (fun x=>tK x.1 x.2.1 x.2.2)
theorem X0:dW PG 141 CJ:=
 have K:CxR Pq:=aZ.cx (fun _=>rfl) (l:=[(59,kC),(180,dX),(194,lF)]) ⟨DN,oD,Dp,trivial⟩
 aO K (aJ (l:=[]) rfl trivial) (by kernel_rfl) (fun x y h=>(UJ x.1 x.2.1 x.2.2).trans h) rfl rfl
def Ap (x0:aK) (x1:aA):Option (aK×Int):=af (iT x0) fun y0 => af (cnd (aF (aF y0)) (jw x1) (some false)) fun y1 => cnd (bor (aF y0) (aF y1)) (some (x0,1)) (af (wG x1) fun y2 => cnd (ieq x1.side 2) (af (rV x1) fun y3 => af (wH x0.sell y3) fun y4 => af (wH x0.opn y2.fst) fun y5 => af (cnd (aF (bor (bor (aF (ieq y2.snd 0)) (aF (ieq y4.snd 0))) (aF (ieq y5.snd 0)))) (iT (aK.mk x0.pos x0.buy y4.fst y5.fst)) (some false)) fun y6 => cnd (bor (bor (bor (aF (ieq y2.snd 0)) (aF (ieq y4.snd 0))) (aF (ieq y5.snd 0))) (aF y6)) (some (x0,3)) (some (aK.mk x0.pos x0.buy y4.fst y5.fst,0))) (af (rV x1) fun y7 => af (wH x0.buy y7) fun y8 => af (wH x0.opn y2.fst) fun y9 => af (cnd (aF (bor (bor (aF (ieq y2.snd 0)) (aF (ieq y8.snd 0))) (aF (ieq y9.snd 0)))) (iT (aK.mk x0.pos y8.fst x0.sell y9.fst)) (some false)) fun y10 => cnd (bor (bor (bor (aF (ieq y2.snd 0)) (aF (ieq y8.snd 0))) (aF (ieq y9.snd 0))) (aF y10)) (some (x0,3)) (some (aK.mk x0.pos y8.fst x0.sell y9.fst,0))))
noncomputable def abu:Cx:={ P:=PG,ety:=ety,fn:=look [(123,jr),(180,dX),(220,tH),(221,vT),(195,uQ)],inl:=fO [188],lp:=bg [] }
theorem ad7 (x0:aK) (x1:aA):cO abu 142 [.val .cell,.val .order] [.val .cell,.int .i64] (x0,x1)=Ap x0 x1:=by kernel_rfl
def Nc:aV:=mkSpec [.val .cell,.val .order] [.val .cell,.int .i64] true (fun x=>Ap x.1 x.2)
theorem aha:dW PG 142 Nc:=
 have K:CxR abu:=aZ.cx (fun _=>rfl) (l:=[(123,jr),(180,dX),(220,tH),(221,vT),(195,uQ)]) ⟨zf,oD,Ox,QN,SS,trivial⟩
 aO K (aJ (l:=[]) rfl trivial) (by kernel_rfl) (fun x y h=>(ad7 x.1 x.2).trans h) rfl rfl
def Bg (x0:aA):Option (aA×Int):=af (jw x0) fun y0 => cnd (aF y0) (some (x0,1)) (cnd (ieq x0.phase 3) (cnd (ieq x0.phase 3) (some (x0,8)) (some (aA.mk x0.id x0.account x0.symbol x0.side x0.qty x0.price x0.filled x0.phase x0.newQty x0.newPrice x0.version true,0))) (cnd x0.asked (some (x0,8)) (some (aA.mk x0.id x0.account x0.symbol x0.side x0.qty x0.price x0.filled x0.phase x0.newQty x0.newPrice x0.version true,0))))
noncomputable def WY:Cx:={ P:=PG,ety:=ety,fn:=look [(180,dX)],inl:=fO [],lp:=bg [] }
theorem Ze (x0:aA):cO WY 143 [.val .order] [.val .order,.int .i64] x0=Bg x0:=by kernel_rfl
def H6:aV:=mkSpec [.val .order] [.val .order,.int .i64] true (fun x=>Bg x)
theorem adr:dW PG 143 H6:=
 have K:CxR WY:=aZ.cx (fun _=>rfl) (l:=[(180,dX)]) ⟨oD,trivial⟩
 aO K (aJ (l:=[]) rfl trivial) (by kernel_rfl) (fun x y h=>(Ze x).trans h) rfl rfl
def F9 (x0:zl):Option (mQ):=some (mQ.mk 6 x0.order 0 0 0 x0.qty x0.price 0 0 0 false x0.seq x0.what)
noncomputable def Uy:Cx:={ P:=PG,ety:=ety,fn:=look [],inl:=fO [],lp:=bg [] }
theorem XM (x0:zl):cO Uy 196 [.val .note] [.val .recd] x0=F9 x0:=by kernel_rfl
def Fa:aV:=mkSpec [.val .note] [.val .recd] true (fun x=>F9 x)
theorem aa7:dW PG 196 Fa:=
 have K:CxR Uy:=aZ.cx (fun _=>rfl) (l:=[]) trivial
 aO K (aJ (l:=[]) rfl trivial) (by kernel_rfl) (fun x y h=>(XM x).trans h) rfl rfl
def vK (x0:aA):Option (aA):=some (aA.mk x0.id x0.account x0.symbol x0.side x0.qty x0.price x0.filled x0.phase 0 0 x0.version x0.asked)
noncomputable def NE:Cx:={ P:=PG,ety:=ety,fn:=look [],inl:=fO [],lp:=bg [] }
theorem RD (x0:aA):cO NE 224 [.val .order] [.val .order] x0=vK x0:=by kernel_rfl
def qM:aV:=mkSpec [.val .order] [.val .order] true (fun x=>vK x)
theorem Kz:dW PG 224 qM:=
 have K:CxR NE:=aZ.cx (fun _=>rfl) (l:=[]) trivial
 aO K (aJ (l:=[]) rfl trivial) (by kernel_rfl) (fun x y h=>(RD x).trans h) rfl rfl
def yF (x0:aA):Option (aA):=af (vK (aA.mk x0.id x0.account x0.symbol x0.side x0.qty x0.price x0.filled 3 x0.newQty x0.newPrice x0.version x0.asked)) fun y0 => some y0
noncomputable def U3:Cx:={ P:=PG,ety:=ety,fn:=look [(224,qM)],inl:=fO [],lp:=bg [] }
theorem XA (x0:aA):cO U3 223 [.val .order] [.val .order] x0=yF x0:=by kernel_rfl
def vN:aV:=mkSpec [.val .order] [.val .order] true (fun x=>yF x)
theorem Rf:dW PG 223 vN:=
 have K:CxR U3:=aZ.cx (fun _=>rfl) (l:=[(224,qM)]) ⟨Kz,trivial⟩
 aO K (aJ (l:=[]) rfl trivial) (by kernel_rfl) (fun x y h=>(XA x).trans h) rfl rfl
def Ce (x0:aA) (x1:zl):Option (aA×Bool):=cnd (ieq x1.what 1) (some (aA.mk x0.id x0.account x0.symbol x0.side x0.qty x0.price x0.filled 2 x0.newQty x0.newPrice x0.version x0.asked,true)) (cnd (ieq x1.what 2) (af (yF x0) fun y0 => some (y0,true)) (some (x0,false)))
noncomputable def TK:Cx:={ P:=PG,ety:=ety,fn:=look [(223,vN)],inl:=fO [],lp:=bg [] }
theorem XW (x0:aA) (x1:zl):cO TK 197 [.val .order,.val .note] [.val .order,.bool] (x0,x1)=Ce x0 x1:=by kernel_rfl
def Fq:aV:=mkSpec [.val .order,.val .note] [.val .order,.bool] true (fun x=>Ce x.1 x.2)
theorem aaU:dW PG 197 Fq:=
 have K:CxR TK:=aZ.cx (fun _=>rfl) (l:=[(223,vN)]) ⟨Rf,trivial⟩
 aO K (aJ (l:=[]) rfl trivial) (by kernel_rfl) (fun x y h=>(XW x.1 x.2).trans h) rfl rfl
def BZ (x0:aA) (x1:zl):Option (aA×Bool):=cnd (ieq x1.what 3) (cnd (ilt (wr .i64 (aG x0.qty x0.filled)) x1.qty) (some (x0,false)) (cnd (ilt (wr .i64 (ax x0.filled x1.qty)) x0.qty) (some (aA.mk x0.id x0.account x0.symbol x0.side x0.qty x0.price (wr .i64 (ax x0.filled x1.qty)) x0.phase x0.newQty x0.newPrice x0.version x0.asked,true)) (af (yF (aA.mk x0.id x0.account x0.symbol x0.side x0.qty x0.price (wr .i64 (ax x0.filled x1.qty)) x0.phase x0.newQty x0.newPrice x0.version x0.asked)) fun y0 => some (y0,true)))) (cnd (ieq x1.what 4) (af (yF x0) fun y1 => some (y1,true)) (cnd (ieq x1.what 5) (af (iY x0) fun y2 => cnd (bor (bor (bor (aF y2) (aF (ieq x1.qty x0.newQty))) (aF (ieq x1.price x0.newPrice))) (ile x1.qty x0.filled)) (some (x0,false)) (af (vK (aA.mk x0.id x0.account x0.symbol x0.side x1.qty x1.price x0.filled x0.phase x0.newQty x0.newPrice x0.version x0.asked)) fun y3 => some (y3,true))) (cnd (ieq x1.what 6) (af (vK x0) fun y4 => af (iY x0) fun y5 => some (y4,y5)) (some (x0,false)))))
noncomputable def U1:Cx:={ P:=PG,ety:=ety,fn:=look [(223,vN),(194,lF),(224,qM)],inl:=fO [],lp:=bg [] }
theorem XC (x0:aA) (x1:zl):cO U1 198 [.val .order,.val .note] [.val .order,.bool] (x0,x1)=BZ x0 x1:=by kernel_rfl
def Fp:aV:=mkSpec [.val .order,.val .note] [.val .order,.bool] true (fun x=>BZ x.1 x.2)
theorem aaS:dW PG 198 Fp:=
 have K:CxR U1:=aZ.cx (fun _=>rfl) (l:=[(223,vN),(194,lF),(224,qM)]) ⟨Rf,Dp,Kz,trivial⟩
 aO K (aJ (l:=[]) rfl trivial) (by kernel_rfl) (fun x y h=>(XC x.1 x.2).trans h) rfl rfl
def yE (x0:aA) (x1:zl):Option (aA×Int):=af (jw x0) fun y0 => af (cnd (aF (aF y0)) (F9 x1) (some (mQ.mk 0 0 0 0 0 0 0 0 0 0 false 0 0))) fun y1 => af (cnd (aF (aF y0)) (rU y1) (some false)) fun y2 => cnd (bor (bor (aF y0) (aF y2)) (aF (ieq x1.order x0.id))) (some (x0,1)) (cnd (ieq x0.phase 1) (af (Ce x0 x1) fun y3 => cnd (aF y3.snd) (some (x0,8)) (some (y3.fst,0))) (cnd (ieq x0.phase 2) (af (BZ x0 x1) fun y4 => cnd (aF y4.snd) (some (x0,8)) (some (y4.fst,0))) (some (x0,8))))
noncomputable def UD:Cx:={ P:=PG,ety:=ety,fn:=look [(180,dX),(196,Fa),(60,l7),(197,Fq),(198,Fp)],inl:=fO [],lp:=bg [] }
theorem XV (x0:aA) (x1:zl):cO UD 144 [.val .order,.val .note] [.val .order,.int .i64] (x0,x1)=yE x0 x1:=by kernel_rfl
def E5:aV:=mkSpec [.val .order,.val .note] [.val .order,.int .i64] true (fun x=>yE x.1 x.2)
theorem aaQ:dW PG 144 E5:=
 have K:CxR UD:=aZ.cx (fun _=>rfl) (l:=[(180,dX),(196,Fa),(60,l7),(197,Fq),(198,Fp)]) ⟨oD,aa7,FV,aaU,aaS,trivial⟩
 aO K (aJ (l:=[]) rfl trivial) (by kernel_rfl) (fun x y h=>(XV x.1 x.2).trans h) rfl rfl
def DX (x0:aK) (x1:Int) (x2:Int):Option (aK×Int):=af (iT x0) fun y0 => cnd (bor (bor (aF y0) (band (aF (ieq x1 1)) (aF (ieq x1 2)))) (ilt x2 0)) (some (x0,1)) (cnd (ieq x1 1) (af (oZ x0.pos x2) fun y1 => af (cnd (aF (aF (ieq y1.snd 0))) (iT (aK.mk y1.fst x0.buy x0.sell x0.opn)) (some false)) fun y2 => cnd (bor (aF (ieq y1.snd 0)) (aF y2)) (some (x0,3)) (some (aK.mk y1.fst x0.buy x0.sell x0.opn,0))) (af (wH x0.pos x2) fun y3 => af (cnd (aF (aF (ieq y3.snd 0))) (iT (aK.mk y3.fst x0.buy x0.sell x0.opn)) (some false)) fun y4 => cnd (bor (aF (ieq y3.snd 0)) (aF y4)) (some (x0,3)) (some (aK.mk y3.fst x0.buy x0.sell x0.opn,0))))
noncomputable def aao:Cx:={ P:=PG,ety:=ety,fn:=look [(123,jr),(59,kC),(195,uQ)],inl:=fO [],lp:=bg [] }
theorem abg (x0:aK) (x1:Int) (x2:Int):cO aao 145 [.val .cell,.int .i64,.int .i64] [.val .cell,.int .i64] (x0,x1,x2)=DX x0 x1 x2:=by kernel_rfl
def JQ:aV:=mkSpec [.val .cell,.int .i64,.int .i64] [.val .cell,.int .i64] true (fun x=>DX x.1 x.2.1 x.2.2)
theorem aer:dW PG 145 JQ:=
 have K:CxR aao:=aZ.cx (fun _=>rfl) (l:=[(123,jr),(59,kC),(195,uQ)]) ⟨zf,DN,SS,trivial⟩
 aO K (aJ (l:=[]) rfl trivial) (by kernel_rfl) (fun x y h=>(abg x.1 x.2.1 x.2.2).trans h) rfl rfl
def gm (x0:(List aA)) (x1:Int) (x2:Int):Option ((List aA)):=cnd (band (band (band (ile 0 x1) (ile x1 x2)) (ile x2 (len x0))) (band (ile x2 (len x0)) (ile (len x0) (len x0)))) (cnd (ieq x1 x2) (some x0) (cnd (band (ile 0 x1) (ile x1 (len x0))) (cnd (band (ile 0 x2) (ile x2 (len x0))) (cnd (ile (ax (nti (itn x1)) (len (aC (aH x0 (itn x2)) (itn (aG (len x0) x2))))) (len x0)) (cnd (band (band (ile 0 (nti (nad (itn x1) (itn (len (aC (aH x0 (itn x2)) (itn (aG (len x0) x2)))))))) (ile (nti (nad (itn x1) (itn (len (aC (aH x0 (itn x2)) (itn (aG (len x0) x2))))))) (len x0))) (ile (len x0) (aG (len (eu x0 (itn x1) (aC (aH x0 (itn x2)) (itn (aG (len x0) x2))))) 0))) (some (aC (aH (eu (eu x0 (itn x1) (aC (aH x0 (itn x2)) (itn (aG (len x0) x2)))) (nad 0 (itn (nti (nad (itn x1) (itn (len (aC (aH x0 (itn x2)) (itn (aG (len x0) x2))))))))) (iQ aA (itn (aG (len x0) (nti (nad (itn x1) (itn (len (aC (aH x0 (itn x2)) (itn (aG (len x0) x2))))))))))) 0) (nad (itn x1) (itn (len (aC (aH x0 (itn x2)) (itn (aG (len x0) x2)))))))) none) none) none) none)) none
noncomputable def yI:Cx:={ P:=PG,ety:=ety,fn:=look [],inl:=fO [],lp:=bg [] }
theorem ET (x0:(List aA)) (x1:Int) (x2:Int):cO yI 146 [.buf .order,.int .i64,.int .i64] [.ro .order] (x0,x1,x2)=gm x0 x1 x2:=by kernel_rfl
def o8:aV:=mkSpec [.buf .order,.int .i64,.int .i64] [.ro .order] false (fun x=>gm x.1 x.2.1 x.2.2)
theorem Gy:dW PG 146 o8:=
 have K:CxR yI:=aZ.cx (fun _=>rfl) (l:=[]) trivial
 aO K (aJ (l:=[]) rfl trivial) (by kernel_rfl) (fun x y h=>(ET x.1 x.2.1 x.2.2).trans h) rfl rfl
def wI (x0:ai) (x1:mQ):Option (ai×Int):=af (oZ x0.lsn 1) fun y0 => af (cnd (aF (bor (aF (ieq y0.snd 0)) (ile 1000000000 x0.lsn))) (rU x1) (some false)) fun y1 => af (cnd (aF (bor (bor (aF (ieq y0.snd 0)) (ile 1000000000 x0.lsn)) (aF y1))) (lW x0) (some false)) fun y2 => cnd (bor (bor (bor (aF (ieq y0.snd 0)) (ile 1000000000 x0.lsn)) (aF y1)) (aF y2)) (some (x0,1)) (af (eU x0.orders) fun y3 => af (fA x0.cells) fun y4 => af (eY x0.limits) fun y5 => af (gG x0.caps) fun y6 => cnd (ieq x1.kind 1) (af (wL x1) fun y7 => cnd (ile x1.order x0.last) (cnd (ile x1.order x0.last) (some (x0,1)) (cnd x0.kill (some (x0,5)) (cnd (ieq (len y3) 64) (some (x0,6)) (af (eU y3) fun y8 => af (fA y4) fun y9 => af (eY y5) fun y10 => af (gG y6) fun y11 => af (aX (ai.mk x0.accounts x0.symbols y3 y4 y5 y6 x0.kill x0.last x0.seq x0.lsn) y7.fst.account y7.fst.symbol) fun y12 => cnd (band (ile 0 y12) (ilt y12 (len y4))) (af (iR (ah y4 (itn y12)) y7.fst) fun y13 => cnd (aF (ieq y13.snd 0)) (some (x0,3)) (cnd (ile (len (jc y3 [y7.fst])) 68719476736) (af (dO (ai.mk x0.accounts x0.symbols (jc y3 [y7.fst]) (aY y4 (itn y12) y13.fst) y5 y6 x0.kill y7.fst.id x0.seq x0.lsn) (ai.mk x0.accounts x0.symbols y8 y9 y10 y11 x0.kill x0.last x0.seq x0.lsn) y7.fst.account y7.fst.symbol) fun y14 => cnd (aF (ieq y14 0)) (some (x0,y14)) (some (ai.mk x0.accounts x0.symbols (jc y3 [y7.fst]) (aY y4 (itn y12) y13.fst) y5 y6 x0.kill y7.fst.id x0.seq (wr .i64 (ax x0.lsn 1)),0))) none)) none)))) (cnd (ile x0.accounts x1.account) (cnd (ile x0.accounts x1.account) (some (x0,1)) (cnd x0.kill (some (x0,5)) (cnd (ieq (len y3) 64) (some (x0,6)) (af (eU y3) fun y15 => af (fA y4) fun y16 => af (eY y5) fun y17 => af (gG y6) fun y18 => af (aX (ai.mk x0.accounts x0.symbols y3 y4 y5 y6 x0.kill x0.last x0.seq x0.lsn) y7.fst.account y7.fst.symbol) fun y19 => cnd (band (ile 0 y19) (ilt y19 (len y4))) (af (iR (ah y4 (itn y19)) y7.fst) fun y20 => cnd (aF (ieq y20.snd 0)) (some (x0,3)) (cnd (ile (len (jc y3 [y7.fst])) 68719476736) (af (dO (ai.mk x0.accounts x0.symbols (jc y3 [y7.fst]) (aY y4 (itn y19) y20.fst) y5 y6 x0.kill y7.fst.id x0.seq x0.lsn) (ai.mk x0.accounts x0.symbols y15 y16 y17 y18 x0.kill x0.last x0.seq x0.lsn) y7.fst.account y7.fst.symbol) fun y21 => cnd (aF (ieq y21 0)) (some (x0,y21)) (some (ai.mk x0.accounts x0.symbols (jc y3 [y7.fst]) (aY y4 (itn y19) y20.fst) y5 y6 x0.kill y7.fst.id x0.seq (wr .i64 (ax x0.lsn 1)),0))) none)) none)))) (cnd (ile x0.symbols x1.symbol) (some (x0,1)) (cnd x0.kill (some (x0,5)) (cnd (ieq (len y3) 64) (some (x0,6)) (af (eU y3) fun y22 => af (fA y4) fun y23 => af (eY y5) fun y24 => af (gG y6) fun y25 => af (aX (ai.mk x0.accounts x0.symbols y3 y4 y5 y6 x0.kill x0.last x0.seq x0.lsn) y7.fst.account y7.fst.symbol) fun y26 => cnd (band (ile 0 y26) (ilt y26 (len y4))) (af (iR (ah y4 (itn y26)) y7.fst) fun y27 => cnd (aF (ieq y27.snd 0)) (some (x0,3)) (cnd (ile (len (jc y3 [y7.fst])) 68719476736) (af (dO (ai.mk x0.accounts x0.symbols (jc y3 [y7.fst]) (aY y4 (itn y26) y27.fst) y5 y6 x0.kill y7.fst.id x0.seq x0.lsn) (ai.mk x0.accounts x0.symbols y22 y23 y24 y25 x0.kill x0.last x0.seq x0.lsn) y7.fst.account y7.fst.symbol) fun y28 => cnd (aF (ieq y28 0)) (some (x0,y28)) (some (ai.mk x0.accounts x0.symbols (jc y3 [y7.fst]) (aY y4 (itn y26) y27.fst) y5 y6 x0.kill y7.fst.id x0.seq (wr .i64 (ax x0.lsn 1)),0))) none)) none)))))) (cnd (ieq x1.kind 2) (af (qg (ai.mk x0.accounts x0.symbols y3 y4 y5 y6 x0.kill x0.last x0.seq x0.lsn) x1.order) fun y29 => cnd (ieq y29 (-1)) (some (x0,7)) (cnd (band (ile 0 y29) (ilt y29 (len y3))) (af (tK (ah y3 (itn y29)) x1.qty x1.price) fun y30 => cnd (aF (ieq y30.snd 0)) (some (x0,8)) (cnd x0.kill (some (x0,5)) (af (eU y3) fun y31 => af (fA y4) fun y32 => af (eY y5) fun y33 => af (gG y6) fun y34 => af (aX (ai.mk x0.accounts x0.symbols y3 y4 y5 y6 x0.kill x0.last x0.seq x0.lsn) (ah y3 (itn y29)).account (ah y3 (itn y29)).symbol) fun y35 => cnd (band (ile 0 y35) (ilt y35 (len y4))) (af (Ap (ah y4 (itn y35)) (ah y3 (itn y29))) fun y36 => af (iR y36.fst y30.fst) fun y37 => cnd (aF (ieq y37.snd 0)) (some (x0,3)) (cnd (band (ile 0 y29) (ilt y29 (len y3))) (af (dO (ai.mk x0.accounts x0.symbols (aY y3 (itn y29) y30.fst) (aY y4 (itn y35) y37.fst) y5 y6 x0.kill x0.last x0.seq x0.lsn) (ai.mk x0.accounts x0.symbols y31 y32 y33 y34 x0.kill x0.last x0.seq x0.lsn) (ah y3 (itn y29)).account (ah y3 (itn y29)).symbol) fun y38 => cnd (aF (ieq y38 0)) (some (x0,y38)) (some (ai.mk x0.accounts x0.symbols (aY y3 (itn y29) y30.fst) (aY y4 (itn y35) y37.fst) y5 y6 x0.kill x0.last x0.seq (wr .i64 (ax x0.lsn 1)),0))) none)) none))) none)) (cnd (ieq x1.kind 3) (af (qg (ai.mk x0.accounts x0.symbols y3 y4 y5 y6 x0.kill x0.last x0.seq x0.lsn) x1.order) fun y39 => cnd (ieq y39 (-1)) (some (x0,7)) (cnd (band (ile 0 y39) (ilt y39 (len y3))) (af (Bg (ah y3 (itn y39))) fun y40 => cnd (band (ile 0 y39) (ilt y39 (len y3))) (cnd (aF (ieq y40.snd 0)) (some (x0,y40.snd)) (some (ai.mk x0.accounts x0.symbols (aY y3 (itn y39) y40.fst) y4 y5 y6 x0.kill x0.last x0.seq (wr .i64 (ax x0.lsn 1)),0))) none) none)) (cnd (ieq x1.kind 4) (cnd (ile x0.accounts x1.account) (cnd (ile x0.accounts x1.account) (some (x0,1)) (cnd (ieq x1.symbol (-1)) (cnd (band (ile 0 x1.account) (ilt x1.account (len y6))) (some (ai.mk x0.accounts x0.symbols y3 y4 y5 (aY y6 (itn x1.account) x1.opn) x0.kill x0.last x0.seq (wr .i64 (ax x0.lsn 1)),0)) none) (af (aX (ai.mk x0.accounts x0.symbols y3 y4 y5 y6 x0.kill x0.last x0.seq x0.lsn) x1.account x1.symbol) fun y41 => cnd (band (ile 0 y41) (ilt y41 (len y5))) (some (ai.mk x0.accounts x0.symbols y3 y4 (aY y5 (itn y41) (dD.mk x1.long x1.short x1.opn)) y6 x0.kill x0.last x0.seq (wr .i64 (ax x0.lsn 1)),0)) none))) (cnd (ile x0.symbols x1.symbol) (some (x0,1)) (cnd (ieq x1.symbol (-1)) (cnd (band (ile 0 x1.account) (ilt x1.account (len y6))) (some (ai.mk x0.accounts x0.symbols y3 y4 y5 (aY y6 (itn x1.account) x1.opn) x0.kill x0.last x0.seq (wr .i64 (ax x0.lsn 1)),0)) none) (af (aX (ai.mk x0.accounts x0.symbols y3 y4 y5 y6 x0.kill x0.last x0.seq x0.lsn) x1.account x1.symbol) fun y42 => cnd (band (ile 0 y42) (ilt y42 (len y5))) (some (ai.mk x0.accounts x0.symbols y3 y4 (aY y5 (itn y42) (dD.mk x1.long x1.short x1.opn)) y6 x0.kill x0.last x0.seq (wr .i64 (ax x0.lsn 1)),0)) none)))) (cnd (ieq x1.kind 5) (some (ai.mk x0.accounts x0.symbols y3 y4 y5 y6 x1.on x0.last x0.seq (wr .i64 (ax x0.lsn 1)),0)) (cnd (aF (ieq x1.seq (wr .i64 (ax x0.seq 1)))) (some (x0,11)) (af (qg (ai.mk x0.accounts x0.symbols y3 y4 y5 y6 x0.kill x0.last x1.seq x0.lsn) x1.order) fun y43 => cnd (ieq y43 (-1)) (some (ai.mk x0.accounts x0.symbols y3 y4 y5 y6 x0.kill x0.last x1.seq (wr .i64 (ax x0.lsn 1)),0)) (cnd (band (ile 0 y43) (ilt y43 (len y3))) (af (yE (ah y3 (itn y43)) (zl.mk x1.seq x1.what x1.order x1.qty x1.price)) fun y44 => cnd (aF (ieq y44.snd 0)) (some (ai.mk x0.accounts x0.symbols y3 y4 y5 y6 x0.kill x0.last x1.seq (wr .i64 (ax x0.lsn 1)),0)) (af (aX (ai.mk x0.accounts x0.symbols y3 y4 y5 y6 x0.kill x0.last x1.seq x0.lsn) (ah y3 (itn y43)).account (ah y3 (itn y43)).symbol) fun y45 => cnd (band (ile 0 y45) (ilt y45 (len y4))) (af (Ap (ah y4 (itn y45)) (ah y3 (itn y43))) fun y46 => af (iR (ah (aY y4 (itn y45) y46.fst) (itn y45)) y44.fst) fun y47 => cnd (ieq x1.what 3) (af (DX (ah (aY (aY y4 (itn y45) y46.fst) (itn y45) y47.fst) (itn y45)) (ah y3 (itn y43)).side x1.qty) fun y48 => cnd (band (ile 0 y43) (ilt y43 (len y3))) (cnd (ieq y44.fst.phase 3) (af (gm (aY y3 (itn y43) y44.fst) y43 (wr .i64 (ax y43 1))) fun y49 => some (ai.mk x0.accounts x0.symbols y49 (aY (aY (aY y4 (itn y45) y46.fst) (itn y45) y47.fst) (itn y45) y48.fst) y5 y6 x0.kill x0.last x1.seq (wr .i64 (ax x0.lsn 1)),0)) (some (ai.mk x0.accounts x0.symbols (aY y3 (itn y43) y44.fst) (aY (aY (aY y4 (itn y45) y46.fst) (itn y45) y47.fst) (itn y45) y48.fst) y5 y6 x0.kill x0.last x1.seq (wr .i64 (ax x0.lsn 1)),0))) none) (cnd (band (ile 0 y43) (ilt y43 (len y3))) (cnd (ieq y44.fst.phase 3) (af (gm (aY y3 (itn y43) y44.fst) y43 (wr .i64 (ax y43 1))) fun y50 => some (ai.mk x0.accounts x0.symbols y50 (aY (aY y4 (itn y45) y46.fst) (itn y45) y47.fst) y5 y6 x0.kill x0.last x1.seq (wr .i64 (ax x0.lsn 1)),0)) (some (ai.mk x0.accounts x0.symbols (aY y3 (itn y43) y44.fst) (aY (aY y4 (itn y45) y46.fst) (itn y45) y47.fst) y5 y6 x0.kill x0.last x1.seq (wr .i64 (ax x0.lsn 1)),0))) none)) none)) none))))))))
noncomputable def abE:Cx:={ P:=PG,ety:=ety,fn:=look [(59,kC),(60,l7),(18,lm),(132,pV),(133,qL),(134,qF),(135,sZ),(136,D7),(137,fQ),(138,qA),(139,vg),(140,H9),(141,CJ),(142,Nc),(143,H6),(144,E5),(145,JQ),(146,o8)],inl:=fO [61,62,63,64,65,66],lp:=bg [] }
theorem ade (x0:ai) (x1:mQ):cO abE 23 [.val .state,.val .recd] [.val .state,.int .i64] (x0,x1)=wI x0 x1:=by kernel_rfl
def Cj:aV:=mkSpec [.val .state,.val .recd] [.val .state,.int .i64] false (fun x=>wI x.1 x.2)
theorem ZC:dW PG 23 Cj:=
 have K:CxR abE:=aZ.cx (fun _=>rfl) (l:=[(59,kC),(60,l7),(18,lm),(132,pV),(133,qL),(134,qF),(135,sZ),(136,D7),(137,fQ),(138,qA),(139,vg),(140,H9),(141,CJ),(142,Nc),(143,H6),(144,E5),(145,JQ),(146,o8)]) ⟨DN,FV,Ec,IU,JG,J3,NQ,ZT,qP,LH,OX,adL,X0,aha,adr,aaQ,aer,Gy,trivial⟩
 aO K (aJ (l:=[]) rfl trivial) (by kernel_rfl) (fun x y h=>(ade x.1 x.2).trans h) rfl rfl
def EJ (x0:Int):Option (Bool):=some (bor (bor (band (ile 97 x0) (ile x0 122)) (band (ile 48 x0) (ile x0 57))) (ieq x0 46))
noncomputable def Xr:Cx:={ P:=PG,ety:=ety,fn:=look [],inl:=fO [],lp:=bg [] }
theorem Zj (x0:Int):cO Xr 187 [.int .u8] [.bool] x0=EJ x0:=by kernel_rfl
def H8:aV:=mkSpec [.int .u8] [.bool] true (fun x=>EJ x)
theorem adu:dW PG 187 H8:=
 have K:CxR Xr:=aZ.cx (fun _=>rfl) (l:=[]) trivial
 aO K (aJ (l:=[]) rfl trivial) (by kernel_rfl) (fun x y h=>(Zj x).trans h) rfl rfl
def NC:LSh:=⟨69,[(5,.int .i64),(0,.str)],[],[],[(6,.int .i64),(2,.bool)],[],[]⟩
@[reducible] def Nz:List jb:=[⟨.ret,[(2,.bool)],[],[]⟩,⟨.exit 0,[(2,.bool)],[],[]⟩]
def qZ (p0:Int) (p1:(List UInt8)) (v0:Int) (v1:Bool):Option ((Int×Bool) ⊕ ((Bool) ⊕ ((Bool)))):=cnd (ilt v0 p0) (cnd (band (ile 0 v0) (ilt v0 (len p1))) (af (EJ (ag7 p1 (itn v0))) fun y0 => cnd (aF y0) (some (Sum.inr (Sum.inl false))) (some (Sum.inl (wr .i64 (ax v0 1),v1)))) none) (some (Sum.inr (Sum.inr v1)))
def KH:iO:=NC.spec Nz [7,8,3,9,10,11,12,13,2,14,6] (fun p v=>qZ p.1 p.2 v.1 v.2)
def yx (x0:(List UInt8)):Option (Bool):=af (bT (fun v => qZ (len x0) x0 v.fst v.snd) LF (0,false)) fun y0 => qQ y0 (fun y1 => some y1) fun y1 => some (band (ile 1 (len x0)) (ile (len x0) 16))
noncomputable def MW:Cx:={ P:=PG,ety:=ety,fn:=look [(187,H8)],inl:=fO [],lp:=bg [(126,26,KH)] }
theorem Rt (p0:Int) (p1:(List UInt8)) (v0:Int) (v1:Bool):kD MW 900 126 26 (iq PG 126 26) NC Nz (p0,p1) (v0,v1)=qZ p0 p1 v0 v1:=by kernel_rfl
theorem XB (x0:(List UInt8)):cO MW 126 [.str] [.bool] x0=yx x0:=by kernel_rfl
def vW:aV:=mkSpec [.str] [.bool] true (fun x=>yx x)
theorem QM:dW PG 126 vW:=
 have K:CxR MW:=aZ.cx (fun _=>rfl) (l:=[(187,H8)]) ⟨adu,trivial⟩
 aO K (aJ (l:=[(126,26,KH)]) rfl ⟨dU (n:=900) (f:=126) K (by kernel_rfl) (by kernel_rfl) (by kernel_rfl) (by kernel_rfl) (by kernel_rfl) (fun p v r h=>(Rt p.1 p.2 v.1 v.2).trans h),trivial⟩) (by kernel_rfl) (fun x y h=>(XB x).trans h) rfl rfl
def Kr:LSh:=⟨93,[(29,.int .i64),(28,.ro .file)],[(1,.mp 8 0)],[(8,[.val .disk])],[(30,.int .i64),(3,.int .i64),(2,.bool)],[],[]⟩
@[reducible] def Ku:List jb:=[⟨.ret,[(2,.bool)],[],[]⟩,⟨.exit 0,[(2,.bool)],[],[]⟩]
def qo (p0:Int) (p1:(List ay)) (p2:ak) (v0:Int) (v1:Int) (v2:Bool):Option ((Int×Int×Bool) ⊕ ((Bool) ⊕ ((Bool)))):=cnd (ilt v0 p0) (cnd (band (ile 0 v0) (ilt v0 (len p1))) (af (yx (ah p1 (itn v0)).name) fun y0 => cnd (bor (band (ile 0 (wr .i64 (aG v0 1))) (ilt (wr .i64 (aG v0 1)) (len p2.files))) (aF (band (aF (aF y0)) (ilt 0 v0)))) (cnd (bor (bor (bor (bor (aF y0) (band (ilt 0 v0) (aF (slt (ah p2.files (itn (wr .i64 (aG v0 1)))).name (ah p1 (itn v0)).name)))) (ilt (ah p1 (itn v0)).sure 0)) (ilt (len (ah p1 (itn v0)).data) (ah p1 (itn v0)).sure)) (ilt v1 (len (ah p1 (itn v0)).data))) (some (Sum.inr (Sum.inl false))) (some (Sum.inl (wr .i64 (ax v0 1),wr .i64 (aG v1 (len (ah p1 (itn v0)).data)),v2)))) none) none) (some (Sum.inr (Sum.inr v2)))
def Jm:iO:=Kr.spec Ku [31,32,33,34,5,4,35,36,37,38,39,40,41,42,43,44,45,46,47,48,49,50,51,52,53,54,55,56,57,58,59,60,61,62,63,64,65,66,67,68,69,70,71,72,73,74,2,75,76,77,78,79,3,80,30] (fun p v=>qo p.1 p.2.1 p.2.2 v.1 v.2.1 v.2.2)
def rP (x0:ak):Option (Bool):=cnd (bor (bor (bor (ilt x0.room 0) (ilt 65536 x0.room)) (ilt x0.fuse (-1))) (ilt 64 (len x0.files))) (some false) (af (bT (fun v => qo (len x0.files) x0.files x0 v.fst v.snd.fst v.snd.snd) LF (0,x0.room,false)) fun y0 => qQ y0 (fun y1 => some y1) fun y1 => some true)
noncomputable def Ls:Cx:={ P:=PG,ety:=ety,fn:=look [(126,vW)],inl:=fO [],lp:=bg [(52,122,Jm)] }
theorem Qu (p0:Int) (p1:(List ay)) (p2:ak) (v0:Int) (v1:Int) (v2:Bool):kD Ls 900 52 122 (iq PG 52 122) Kr Ku (p0,p1,p2) (v0,v1,v2)=qo p0 p1 p2 v0 v1 v2:=by kernel_rfl
theorem Xz (x0:ak):cO Ls 52 [.val .disk] [.bool] x0=rP x0:=by kernel_rfl
def pq:aV:=mkSpec [.val .disk] [.bool] true (fun x=>rP x)
theorem JO:dW PG 52 pq:=
 have K:CxR Ls:=aZ.cx (fun _=>rfl) (l:=[(126,vW)]) ⟨QM,trivial⟩
 aO K (aJ (l:=[(52,122,Jm)]) rfl ⟨dU (n:=900) (f:=52) K (by kernel_rfl) (by kernel_rfl) (by kernel_rfl) (by kernel_rfl) (by kernel_rfl) (fun p v r h=>(Qu p.1 p.2.1 p.2.2 v.1 v.2.1 v.2.2).trans h),trivial⟩) (by kernel_rfl) (fun x y h=>(Xz x).trans h) rfl rfl
def jO (x0:Int):Option ((List UInt8)):=cnd (ieq (F5 x0 2) 0) (some [(UInt8.ofNat 115),(UInt8.ofNat 108),(UInt8.ofNat 111),(UInt8.ofNat 116),(UInt8.ofNat 46),(UInt8.ofNat 48)]) (some [(UInt8.ofNat 115),(UInt8.ofNat 108),(UInt8.ofNat 111),(UInt8.ofNat 116),(UInt8.ofNat 46),(UInt8.ofNat 49)])
noncomputable def Xl:Cx:={ P:=PG,ety:=ety,fn:=look [],inl:=fO [],lp:=bg [] }
theorem YI (x0:Int):cO Xl 72 [.int .i64] [.str] x0=jO x0:=by kernel_rfl
def yc:aV:=mkSpec [.int .i64] [.str] true (fun x=>jO x)
theorem UA:dW PG 72 yc:=
 have K:CxR Xl:=aZ.cx (fun _=>rfl) (l:=[]) trivial
 aO K (aJ (l:=[]) rfl trivial) (by kernel_rfl) (fun x y h=>(YI x).trans h) rfl rfl
def kN:LSh:=⟨88,[(7,.int .i64),(0,.ro .str)],[(1,.fn 149 [])],[],[(8,.int .i64),(4,.int .i64)],[],[]⟩
@[reducible] def kL:List jb:=[⟨.ret,[(4,.int .i64)],[],[]⟩,⟨.exit 0,[(4,.int .i64)],[],[]⟩]
def cu (p0:Int) (p1:(List (List UInt8))) (v0:Int) (v1:Int):Option ((Int×Int) ⊕ ((Int) ⊕ ((Int)))):=cnd (ilt v0 p0) (cnd (band (ile 0 v0) (ilt v0 (len p1))) (af (yx (ah p1 (itn v0))) fun y0 => cnd (aF y0) (some (Sum.inr (Sum.inl v0))) (some (Sum.inl (wr .i64 (ax v0 1),v1)))) none) (some (Sum.inr (Sum.inr v1)))
def kE:iO:=kN.spec kL [9,10,5,11,12,13,14,15,16,17,4,18,8] (fun p v=>cu p.1 p.2 v.1 v.2)
def iU (x0:ak) (x1:(List (List UInt8))):Option (Int):=af (rP x0) fun y0 => cnd (aF y0) (some 1) (cnd x0.down (some 9) (af (bT (fun v => cu (len x1) x1 v.fst v.snd) LF (0,0)) fun y1 => qQ y1 (fun y2 => cnd (ile 0 y2) (some 1) (some 0)) fun y2 => some 0))
noncomputable def LP:Cx:={ P:=PG,ety:=ety,fn:=look [(52,pq),(126,vW)],inl:=fO [148,200,149],lp:=bg [(1401952796528185786568,26,kE)] }
theorem qK (p0:Int) (p1:(List (List UInt8))) (v0:Int) (v1:Int):kD LP 900 1401952796528185786568 26 (iq PG 200 26) kN kL (p0,p1) (v0,v1)=cu p0 p1 v0 v1:=by kernel_rfl
theorem XO (x0:ak) (x1:(List (List UInt8))):cO LP 76 [.val .disk,.ro .str] [.int .i64] (x0,x1)=iU x0 x1:=by kernel_rfl
def iC:aV:=mkSpec [.val .disk,.ro .str] [.int .i64] true (fun x=>iU x.1 x.2)
theorem wK:dW PG 76 iC:=
 have K:CxR LP:=aZ.cx (fun _=>rfl) (l:=[(52,pq),(126,vW)]) ⟨JO,QM,trivial⟩
 aO K (aJ (l:=[(1401952796528185786568,26,kE)]) rfl ⟨dU (n:=900) (f:=200) K (by kernel_rfl) (by kernel_rfl) (by kernel_rfl) (by kernel_rfl) (by kernel_rfl) (fun p v r h=>(qK p.1 p.2 v.1 v.2).trans h),trivial⟩) (by kernel_rfl) (fun x y h=>(XO x.1 x.2).trans h) rfl rfl
def rM (x0:(List UInt8)) (x1:(List UInt8)):Option (Int):=some (acU x0 x1)
def xO:aV:=mkSpec [.str,.str] [.int .i64] true (fun x=>rM x.1 x.2)
def QA:Go.Shelf.Ren:=⟨fun | 106=>152 | 213=>201 | 265=>225 | n=>n,fun | 9=>9 | 3=>3 | n=>n,fun | n=>n⟩
theorem Dh:Go.Proofs.Lays.n106 PG QA where
 mixed:=by kernel_rfl
 f106:=by kernel_rfl
 f213:=by kernel_rfl
 f265:=by kernel_rfl
 t3:=by kernel_rfl
 a3:=fun w=>by kernel_rfl
 z3:=fun w=>by kernel_rfl
 v3:=fun w=>by kernel_rfl
 t9:=by kernel_rfl
 a9:=fun w=>by kernel_rfl
 z9:=fun w=>by kernel_rfl
 v9:=fun w=>by kernel_rfl
theorem Sr:dW PG 152 xO:=ajl aZ Dh (by kernel_rfl) fun x y h=>(Option.some.inj h).symm
def jU:LSh:=⟨85,[(0,.ro .file),(1,.str)],[(2,.fn 151 [])],[],[(10,.int .i64),(9,.int .i64)],[],[]⟩
@[reducible] def jX:List jb:=[⟨.exit 0,[(9,.int .i64)],[],[]⟩]
def dK (p0:(List ay)) (p1:(List UInt8)) (v0:Int) (v1:Int):Option ((Int×Int) ⊕ ((Int))):=cnd (ilt v1 v0) (cnd (band (ile 0 (wr .i64 (dG .u64 (wr .u64 (wr .i64 (ax v1 v0))) 1))) (ilt (wr .i64 (dG .u64 (wr .u64 (wr .i64 (ax v1 v0))) 1)) (len p0))) (af (rM (ah p0 (itn (wr .i64 (dG .u64 (wr .u64 (wr .i64 (ax v1 v0))) 1)))).name p1) fun y0 => cnd (ilt y0 0) (some (Sum.inl (v0,wr .i64 (ax (wr .i64 (dG .u64 (wr .u64 (wr .i64 (ax v1 v0))) 1)) 1)))) (some (Sum.inl (wr .i64 (dG .u64 (wr .u64 (wr .i64 (ax v1 v0))) 1),v1)))) none) (some (Sum.inr v1))
def jQ:iO:=jU.spec jX [15,16,17,18,19,20,21,22,23,11,24,25,26,27,28,29,30,31,32,33,9,34,10] (fun p v=>dK p.1 p.2 v.1 v.2)
def dL (x0:ak) (x1:(List UInt8)):Option (Int×Bool):=af (bT (fun v => dK x0.files x1 v.fst v.snd) LF (len x0.files,0)) fun y0 => cnd (bor (band (ile 0 y0) (ilt y0 (len x0.files))) (aF (ilt y0 (len x0.files)))) (cnd (ilt y0 (len x0.files)) (af (rM (ah x0.files (itn y0)).name x1) fun y1 => some (y0,band (ilt y0 (len x0.files)) (ieq y1 0))) (some (y0,bor (ilt y0 (len x0.files)) false))) none
noncomputable def OM:Cx:={ P:=PG,ety:=ety,fn:=look [(152,xO)],inl:=fO [150,151],lp:=bg [(330712535190,60,jQ)] }
theorem pY (p0:(List ay)) (p1:(List UInt8)) (v0:Int) (v1:Int):kD OM 900 330712535190 60 (iq PG 150 60) jU jX (p0,p1) (v0,v1)=dK p0 p1 v0 v1:=by kernel_rfl
theorem Z4 (x0:ak) (x1:(List UInt8)):cO OM 77 [.val .disk,.str] [.int .i64,.bool] (x0,x1)=dL x0 x1:=by kernel_rfl
def ja:aV:=mkSpec [.val .disk,.str] [.int .i64,.bool] true (fun x=>dL x.1 x.2)
theorem yH:dW PG 77 ja:=
 have K:CxR OM:=aZ.cx (fun _=>rfl) (l:=[(152,xO)]) ⟨Sr,trivial⟩
 aO K (aJ (l:=[(330712535190,60,jQ)]) rfl ⟨dU (n:=900) (f:=150) K (by kernel_rfl) (by kernel_rfl) (by kernel_rfl) (by kernel_rfl) (by kernel_rfl) (fun p v r h=>(pY p.1 p.2 v.1 v.2).trans h),trivial⟩) (by kernel_rfl) (fun x y h=>(Z4 x.1 x.2).trans h) rfl rfl
def dw (x0:(List Int)):Option ((List Int)):=UY (len x0) fun y0 => cnd (beq y0 true) (some []) (cnd (ile (len x0) 68719476736) (some x0) none)
noncomputable def FC:Cx:={ P:=PG,ety:=ety,fn:=look [],inl:=fO [],lp:=bg [] }
theorem Lr (x0:(List Int)):cO FC 56 [.ro .u8] [.buf .u8] x0=dw x0:=by kernel_rfl
def jm:aV:=mkSpec [.ro .u8] [.buf .u8] true (fun x=>dw x)
theorem xC:dW PG 56 jm:=
 have K:CxR FC:=aZ.cx (fun _=>rfl) (l:=[]) trivial
 aO K (aJ (l:=[]) rfl trivial) (by kernel_rfl) (fun x y h=>(Lr x).trans h) rfl rfl
def kM (x0:ak) (x1:(List UInt8)):Option ((List Int)×Int):=af (iU x0 [x1]) fun y0 => cnd (aF (ieq y0 0)) (cnd (aF (ieq y0 0)) (some ([],y0)) (cnd (ilt 0 (len x0.files)) (af (dw (ah x0.files 0).data) fun y1 => some (y1,0)) none)) (af (dL x0 x1) fun y2 => cnd (aF y2.snd) (some ([],7)) (cnd (band (ile 0 y2.fst) (ilt y2.fst (len x0.files))) (af (dw (ah x0.files (itn y2.fst)).data) fun y3 => some (y3,0)) none))
noncomputable def Xg:Cx:={ P:=PG,ety:=ety,fn:=look [(76,iC),(77,ja),(56,jm)],inl:=fO [55],lp:=bg [] }
theorem aaD (x0:ak) (x1:(List UInt8)):cO Xg 21 [.val .disk,.str] [.buf .u8,.int .i64] (x0,x1)=kM x0 x1:=by kernel_rfl
def lU:aV:=mkSpec [.val .disk,.str] [.buf .u8,.int .i64] true (fun x=>kM x.1 x.2)
theorem FU:dW PG 21 lU:=
 have K:CxR Xg:=aZ.cx (fun _=>rfl) (l:=[(76,iC),(77,ja),(56,jm)]) ⟨wK,yH,xC,trivial⟩
 aO K (aJ (l:=[]) rfl trivial) (by kernel_rfl) (fun x y h=>(aaD x.1 x.2).trans h) rfl rfl
def QV:LSh:=⟨67,[],[],[],[(4,.int .i64),(0,.int .u32)],[],[]⟩
@[reducible] def QW:List jb:=[⟨.exit 0,[(0,.int .u32)],[],[]⟩]
def zx (v0:Int) (v1:Int):Option ((Int×Int) ⊕ ((Int))):=cnd (ilt v0 4) (cnd (ieq (wr .u32 (oH .u32 v1 1)) 1) (some (Sum.inl (wr .i64 (ax v0 1),wr .u32 (gJ .u32 (dG .u32 v1 1) 3988292384)))) (some (Sum.inl (wr .i64 (ax v0 1),dG .u32 v1 1)))) (some (Sum.inr v1))
def O8:iO:=QV.spec QW [5,6,7,3,8,9,0,10,11,12,13,14,4] (fun p v=>zx v.1 v.2)
def bY (x0:Int):Option (Int):=af (bT (fun v => zx v.fst v.snd) LF (0,x0)) fun y0 => some y0
noncomputable def Tc:Cx:={ P:=PG,ety:=ety,fn:=look [],inl:=fO [],lp:=bg [(199,26,O8)] }
theorem VW (v0:Int) (v1:Int):kD Tc 900 199 26 (iq PG 199 26) QV QW () (v0,v1)=zx v0 v1:=by kernel_rfl
theorem aaW (x0:Int):cO Tc 199 [.int .u32] [.int .u32] x0=bY x0:=by kernel_rfl
def zq:aV:=mkSpec [.int .u32] [.int .u32] true (fun x=>bY x)
theorem Xy:dW PG 199 zq:=
 have K:CxR Tc:=aZ.cx (fun _=>rfl) (l:=[]) trivial
 aO K (aJ (l:=[(199,26,O8)]) rfl ⟨dU (n:=900) (f:=199) K (by kernel_rfl) (by kernel_rfl) (by kernel_rfl) (by kernel_rfl) (by kernel_rfl) (fun p v r h=>(VW v.1 v.2).trans h),trivial⟩) (by kernel_rfl) (fun x y h=>(aaW x).trans h) rfl rfl
def nY (x0:dM):Option (aeK):=af (bY (wr .u32 (oH .u32 (wr .u32 (gJ .u32 4294967295 (wr .u32 (wr .u8 (dG .i64 x0.gen 56))))) 15))) fun y0 => af (bY (wr .u32 (oH .u32 (wr .u32 (gJ .u32 y0 (dG .u32 (wr .u32 (gJ .u32 4294967295 (wr .u32 (wr .u8 (dG .i64 x0.gen 56))))) 4))) 15))) fun y1 => let t8:=(wr .u32 (gJ .u32 (wr .u32 (gJ .u32 y1 (dG .u32 (wr .u32 (gJ .u32 y0 (dG .u32 (wr .u32 (gJ .u32 4294967295 (wr .u32 (wr .u8 (dG .i64 x0.gen 56))))) 4))) 4))) (wr .u32 (wr .u8 (dG .i64 x0.gen 48)))));af (bY (wr .u32 (oH .u32 t8 15))) fun y2 => af (bY (wr .u32 (oH .u32 (wr .u32 (gJ .u32 y2 (dG .u32 t8 4))) 15))) fun y3 => let t5:=(wr .u32 (gJ .u32 (wr .u32 (gJ .u32 y3 (dG .u32 (wr .u32 (gJ .u32 y2 (dG .u32 t8 4))) 4))) (wr .u32 (wr .u8 (dG .i64 x0.gen 40)))));af (bY (wr .u32 (oH .u32 t5 15))) fun y4 => af (bY (wr .u32 (oH .u32 (wr .u32 (gJ .u32 y4 (dG .u32 t5 4))) 15))) fun y5 => let t14:=(wr .u32 (gJ .u32 (wr .u32 (gJ .u32 y5 (dG .u32 (wr .u32 (gJ .u32 y4 (dG .u32 t5 4))) 4))) (wr .u32 (wr .u8 (dG .i64 x0.gen 32)))));af (bY (wr .u32 (oH .u32 t14 15))) fun y6 => af (bY (wr .u32 (oH .u32 (wr .u32 (gJ .u32 y6 (dG .u32 t14 4))) 15))) fun y7 => let t1:=(wr .u32 (gJ .u32 (wr .u32 (gJ .u32 y7 (dG .u32 (wr .u32 (gJ .u32 y6 (dG .u32 t14 4))) 4))) (wr .u32 (wr .u8 (dG .i64 x0.gen 24)))));af (bY (wr .u32 (oH .u32 t1 15))) fun y8 => af (bY (wr .u32 (oH .u32 (wr .u32 (gJ .u32 y8 (dG .u32 t1 4))) 15))) fun y9 => let t15:=(wr .u32 (gJ .u32 (wr .u32 (gJ .u32 y9 (dG .u32 (wr .u32 (gJ .u32 y8 (dG .u32 t1 4))) 4))) (wr .u32 (wr .u8 (dG .i64 x0.gen 16)))));af (bY (wr .u32 (oH .u32 t15 15))) fun y10 => af (bY (wr .u32 (oH .u32 (wr .u32 (gJ .u32 y10 (dG .u32 t15 4))) 15))) fun y11 => let t7:=(wr .u32 (gJ .u32 (wr .u32 (gJ .u32 y11 (dG .u32 (wr .u32 (gJ .u32 y10 (dG .u32 t15 4))) 4))) (wr .u32 (wr .u8 (dG .i64 x0.gen 8)))));af (bY (wr .u32 (oH .u32 t7 15))) fun y12 => af (bY (wr .u32 (oH .u32 (wr .u32 (gJ .u32 y12 (dG .u32 t7 4))) 15))) fun y13 => let t3:=(wr .u32 (gJ .u32 (wr .u32 (gJ .u32 y13 (dG .u32 (wr .u32 (gJ .u32 y12 (dG .u32 t7 4))) 4))) (wr .u32 (wr .u8 (dG .i64 x0.gen 0)))));af (bY (wr .u32 (oH .u32 t3 15))) fun y14 => af (bY (wr .u32 (oH .u32 (wr .u32 (gJ .u32 y14 (dG .u32 t3 4))) 15))) fun y15 => let t10:=(wr .u32 (gJ .u32 (wr .u32 (gJ .u32 y15 (dG .u32 (wr .u32 (gJ .u32 y14 (dG .u32 t3 4))) 4))) (wr .u32 (wr .u8 (dG .i64 x0.lsn 56)))));af (bY (wr .u32 (oH .u32 t10 15))) fun y16 => af (bY (wr .u32 (oH .u32 (wr .u32 (gJ .u32 y16 (dG .u32 t10 4))) 15))) fun y17 => let t0:=(wr .u32 (gJ .u32 (wr .u32 (gJ .u32 y17 (dG .u32 (wr .u32 (gJ .u32 y16 (dG .u32 t10 4))) 4))) (wr .u32 (wr .u8 (dG .i64 x0.lsn 48)))));af (bY (wr .u32 (oH .u32 t0 15))) fun y18 => af (bY (wr .u32 (oH .u32 (wr .u32 (gJ .u32 y18 (dG .u32 t0 4))) 15))) fun y19 => let t11:=(wr .u32 (gJ .u32 (wr .u32 (gJ .u32 y19 (dG .u32 (wr .u32 (gJ .u32 y18 (dG .u32 t0 4))) 4))) (wr .u32 (wr .u8 (dG .i64 x0.lsn 40)))));af (bY (wr .u32 (oH .u32 t11 15))) fun y20 => af (bY (wr .u32 (oH .u32 (wr .u32 (gJ .u32 y20 (dG .u32 t11 4))) 15))) fun y21 => let t6:=(wr .u32 (gJ .u32 (wr .u32 (gJ .u32 y21 (dG .u32 (wr .u32 (gJ .u32 y20 (dG .u32 t11 4))) 4))) (wr .u32 (wr .u8 (dG .i64 x0.lsn 32)))));af (bY (wr .u32 (oH .u32 t6 15))) fun y22 => af (bY (wr .u32 (oH .u32 (wr .u32 (gJ .u32 y22 (dG .u32 t6 4))) 15))) fun y23 => let t12:=(wr .u32 (gJ .u32 (wr .u32 (gJ .u32 y23 (dG .u32 (wr .u32 (gJ .u32 y22 (dG .u32 t6 4))) 4))) (wr .u32 (wr .u8 (dG .i64 x0.lsn 24)))));af (bY (wr .u32 (oH .u32 t12 15))) fun y24 => af (bY (wr .u32 (oH .u32 (wr .u32 (gJ .u32 y24 (dG .u32 t12 4))) 15))) fun y25 => let t2:=(wr .u32 (gJ .u32 (wr .u32 (gJ .u32 y25 (dG .u32 (wr .u32 (gJ .u32 y24 (dG .u32 t12 4))) 4))) (wr .u32 (wr .u8 (dG .i64 x0.lsn 16)))));af (bY (wr .u32 (oH .u32 t2 15))) fun y26 => af (bY (wr .u32 (oH .u32 (wr .u32 (gJ .u32 y26 (dG .u32 t2 4))) 15))) fun y27 => let t13:=(wr .u32 (gJ .u32 (wr .u32 (gJ .u32 y27 (dG .u32 (wr .u32 (gJ .u32 y26 (dG .u32 t2 4))) 4))) (wr .u32 (wr .u8 (dG .i64 x0.lsn 8)))));af (bY (wr .u32 (oH .u32 t13 15))) fun y28 => af (bY (wr .u32 (oH .u32 (wr .u32 (gJ .u32 y28 (dG .u32 t13 4))) 15))) fun y29 => let t4:=(wr .u32 (gJ .u32 (wr .u32 (gJ .u32 y29 (dG .u32 (wr .u32 (gJ .u32 y28 (dG .u32 t13 4))) 4))) (wr .u32 (wr .u8 (dG .i64 x0.lsn 0)))));af (bY (wr .u32 (oH .u32 t4 15))) fun y30 => af (bY (wr .u32 (oH .u32 (wr .u32 (gJ .u32 y30 (dG .u32 t4 4))) 15))) fun y31 => let t9:=(wr .u32 (gJ .u32 4294967295 (wr .u32 (gJ .u32 y31 (dG .u32 (wr .u32 (gJ .u32 y30 (dG .u32 t4 4))) 4)))));some (aeK.mk (wr .u8 (dG .i64 x0.gen 56)) (wr .u8 (dG .i64 x0.gen 48)) (wr .u8 (dG .i64 x0.gen 40)) (wr .u8 (dG .i64 x0.gen 32)) (wr .u8 (dG .i64 x0.gen 24)) (wr .u8 (dG .i64 x0.gen 16)) (wr .u8 (dG .i64 x0.gen 8)) (wr .u8 (dG .i64 x0.gen 0)) (wr .u8 (dG .i64 x0.lsn 56)) (wr .u8 (dG .i64 x0.lsn 48)) (wr .u8 (dG .i64 x0.lsn 40)) (wr .u8 (dG .i64 x0.lsn 32)) (wr .u8 (dG .i64 x0.lsn 24)) (wr .u8 (dG .i64 x0.lsn 16)) (wr .u8 (dG .i64 x0.lsn 8)) (wr .u8 (dG .i64 x0.lsn 0)) (wr .u8 (dG .u32 t9 0)) (wr .u8 (dG .u32 t9 8)) (wr .u8 (dG .u32 t9 16)) (wr .u8 (dG .u32 t9 24)))
noncomputable def TB:Cx:={ P:=PG,ety:=ety,fn:=look [(199,zq)],inl:=fO [71,147],lp:=bg [] }
theorem XY (x0:dM):cO TB 84 [.val .slot] [.val .a20] x0=nY x0:=by kernel_rfl
def wz:aV:=mkSpec [.val .slot] [.val .a20] true (fun x=>nY x)
theorem Rh:dW PG 84 wz:=
 have K:CxR TB:=aZ.cx (fun _=>rfl) (l:=[(199,zq)]) ⟨Xy,trivial⟩
 aO K (aJ (l:=[]) rfl trivial) (by kernel_rfl) (fun x y h=>(XY x).trans h) rfl rfl
def uP (x0:dM):Option (Bool):=some (band (band (band (ile 1 x0.gen) (ile x0.gen 1000000000)) (ile 0 x0.lsn)) (ile x0.lsn 1000000000))
noncomputable def UK:Cx:={ P:=PG,ety:=ety,fn:=look [],inl:=fO [],lp:=bg [] }
theorem XF (x0:dM):cO UK 83 [.val .slot] [.bool] x0=uP x0:=by kernel_rfl
def vZ:aV:=mkSpec [.val .slot] [.bool] true (fun x=>uP x)
theorem QH:dW PG 83 vZ:=
 have K:CxR UK:=aZ.cx (fun _=>rfl) (l:=[]) trivial
 aO K (aJ (l:=[]) rfl trivial) (by kernel_rfl) (fun x y h=>(XF x).trans h) rfl rfl
def lS (x0:(List Int)):Option (dM×Int):=cnd (aF (ieq (len x0) 20)) (some (dM.mk 0 0,2)) (cnd (ilt 0 (len x0)) (cnd (ilt 8 (len x0)) (cnd (ilt 1 (len x0)) (cnd (ilt 9 (len x0)) (cnd (ilt 2 (len x0)) (cnd (ilt 10 (len x0)) (cnd (ilt 3 (len x0)) (cnd (ilt 11 (len x0)) (cnd (ilt 4 (len x0)) (cnd (ilt 12 (len x0)) (cnd (ilt 5 (len x0)) (cnd (ilt 13 (len x0)) (cnd (ilt 6 (len x0)) (cnd (ilt 14 (len x0)) (cnd (ilt 7 (len x0)) (cnd (ilt 15 (len x0)) (af (nY (dM.mk (wr .i64 (ior .i64 (wr .i64 (pU .i64 (wr .i64 (ior .i64 (wr .i64 (pU .i64 (wr .i64 (ior .i64 (wr .i64 (pU .i64 (wr .i64 (ior .i64 (wr .i64 (pU .i64 (wr .i64 (ior .i64 (wr .i64 (pU .i64 (wr .i64 (ior .i64 (wr .i64 (pU .i64 (wr .i64 (ior .i64 (wr .i64 (pU .i64 (wr .i64 (ior .i64 0 (wr .i64 (ah x0 0)))) 8)) (wr .i64 (ah x0 1)))) 8)) (wr .i64 (ah x0 2)))) 8)) (wr .i64 (ah x0 3)))) 8)) (wr .i64 (ah x0 4)))) 8)) (wr .i64 (ah x0 5)))) 8)) (wr .i64 (ah x0 6)))) 8)) (wr .i64 (ah x0 7)))) (wr .i64 (ior .i64 (wr .i64 (pU .i64 (wr .i64 (ior .i64 (wr .i64 (pU .i64 (wr .i64 (ior .i64 (wr .i64 (pU .i64 (wr .i64 (ior .i64 (wr .i64 (pU .i64 (wr .i64 (ior .i64 (wr .i64 (pU .i64 (wr .i64 (ior .i64 (wr .i64 (pU .i64 (wr .i64 (ior .i64 (wr .i64 (pU .i64 (wr .i64 (ior .i64 0 (wr .i64 (ah x0 8)))) 8)) (wr .i64 (ah x0 9)))) 8)) (wr .i64 (ah x0 10)))) 8)) (wr .i64 (ah x0 11)))) 8)) (wr .i64 (ah x0 12)))) 8)) (wr .i64 (ah x0 13)))) 8)) (wr .i64 (ah x0 14)))) 8)) (wr .i64 (ah x0 15)))))) fun y0 => cnd (ile 20 (len x0)) (cnd (aF (band (ieq y0.a0 (ah x0 0)) (band (ieq y0.a1 (ah x0 1)) (band (ieq y0.a2 (ah x0 2)) (band (ieq y0.a3 (ah x0 3)) (band (ieq y0.a4 (ah x0 4)) (band (ieq y0.a5 (ah x0 5)) (band (ieq y0.a6 (ah x0 6)) (band (ieq y0.a7 (ah x0 7)) (band (ieq y0.a8 (ah x0 8)) (band (ieq y0.a9 (ah x0 9)) (band (ieq y0.a10 (ah x0 10)) (band (ieq y0.a11 (ah x0 11)) (band (ieq y0.a12 (ah x0 12)) (band (ieq y0.a13 (ah x0 13)) (band (ieq y0.a14 (ah x0 14)) (band (ieq y0.a15 (ah x0 15)) (band (ieq y0.a16 (ah x0 16)) (band (ieq y0.a17 (ah x0 17)) (band (ieq y0.a18 (ah x0 18)) (band (ieq y0.a19 (ah x0 19)) true))))))))))))))))))))) (some (dM.mk 0 0,10)) (af (uP (dM.mk (wr .i64 (ior .i64 (wr .i64 (pU .i64 (wr .i64 (ior .i64 (wr .i64 (pU .i64 (wr .i64 (ior .i64 (wr .i64 (pU .i64 (wr .i64 (ior .i64 (wr .i64 (pU .i64 (wr .i64 (ior .i64 (wr .i64 (pU .i64 (wr .i64 (ior .i64 (wr .i64 (pU .i64 (wr .i64 (ior .i64 (wr .i64 (pU .i64 (wr .i64 (ior .i64 0 (wr .i64 (ah x0 0)))) 8)) (wr .i64 (ah x0 1)))) 8)) (wr .i64 (ah x0 2)))) 8)) (wr .i64 (ah x0 3)))) 8)) (wr .i64 (ah x0 4)))) 8)) (wr .i64 (ah x0 5)))) 8)) (wr .i64 (ah x0 6)))) 8)) (wr .i64 (ah x0 7)))) (wr .i64 (ior .i64 (wr .i64 (pU .i64 (wr .i64 (ior .i64 (wr .i64 (pU .i64 (wr .i64 (ior .i64 (wr .i64 (pU .i64 (wr .i64 (ior .i64 (wr .i64 (pU .i64 (wr .i64 (ior .i64 (wr .i64 (pU .i64 (wr .i64 (ior .i64 (wr .i64 (pU .i64 (wr .i64 (ior .i64 (wr .i64 (pU .i64 (wr .i64 (ior .i64 0 (wr .i64 (ah x0 8)))) 8)) (wr .i64 (ah x0 9)))) 8)) (wr .i64 (ah x0 10)))) 8)) (wr .i64 (ah x0 11)))) 8)) (wr .i64 (ah x0 12)))) 8)) (wr .i64 (ah x0 13)))) 8)) (wr .i64 (ah x0 14)))) 8)) (wr .i64 (ah x0 15)))))) fun y1 => cnd (aF y1) (some (dM.mk 0 0,2)) (some (dM.mk (wr .i64 (ior .i64 (wr .i64 (pU .i64 (wr .i64 (ior .i64 (wr .i64 (pU .i64 (wr .i64 (ior .i64 (wr .i64 (pU .i64 (wr .i64 (ior .i64 (wr .i64 (pU .i64 (wr .i64 (ior .i64 (wr .i64 (pU .i64 (wr .i64 (ior .i64 (wr .i64 (pU .i64 (wr .i64 (ior .i64 (wr .i64 (pU .i64 (wr .i64 (ior .i64 0 (wr .i64 (ah x0 0)))) 8)) (wr .i64 (ah x0 1)))) 8)) (wr .i64 (ah x0 2)))) 8)) (wr .i64 (ah x0 3)))) 8)) (wr .i64 (ah x0 4)))) 8)) (wr .i64 (ah x0 5)))) 8)) (wr .i64 (ah x0 6)))) 8)) (wr .i64 (ah x0 7)))) (wr .i64 (ior .i64 (wr .i64 (pU .i64 (wr .i64 (ior .i64 (wr .i64 (pU .i64 (wr .i64 (ior .i64 (wr .i64 (pU .i64 (wr .i64 (ior .i64 (wr .i64 (pU .i64 (wr .i64 (ior .i64 (wr .i64 (pU .i64 (wr .i64 (ior .i64 (wr .i64 (pU .i64 (wr .i64 (ior .i64 (wr .i64 (pU .i64 (wr .i64 (ior .i64 0 (wr .i64 (ah x0 8)))) 8)) (wr .i64 (ah x0 9)))) 8)) (wr .i64 (ah x0 10)))) 8)) (wr .i64 (ah x0 11)))) 8)) (wr .i64 (ah x0 12)))) 8)) (wr .i64 (ah x0 13)))) 8)) (wr .i64 (ah x0 14)))) 8)) (wr .i64 (ah x0 15)))),0)))) none) none) none) none) none) none) none) none) none) none) none) none) none) none) none) none) none)
noncomputable def Rn:Cx:={ P:=PG,ety:=ety,fn:=look [(84,wz),(83,vZ)],inl:=fO [],lp:=bg [] }
theorem Vz (x0:(List Int)):cO Rn 73 [.ro .u8] [.val .slot,.int .i64] x0=lS x0:=by kernel_rfl
def Dn:aV:=mkSpec [.ro .u8] [.val .slot,.int .i64] true (fun x=>lS x)
theorem Y1:dW PG 73 Dn:=
 have K:CxR Rn:=aZ.cx (fun _=>rfl) (l:=[(84,wz),(83,vZ)]) ⟨Rh,QH,trivial⟩
 aO K (aJ (l:=[]) rfl trivial) (by kernel_rfl) (fun x y h=>(Vz x).trans h) rfl rfl
def sH (x0:ak):Option (dM×Int):=af (rP x0) fun y0 => cnd (aF y0) (some (dM.mk 0 0,1)) (cnd x0.down (some (dM.mk 0 0,9)) (af (jO 0) fun y1 => af (kM x0 y1) fun y2 => af (lS y2.fst) fun y3 => cnd (band (band (ieq y3.snd 0) (ieq (F5 y3.fst.gen 2) 0)) (ilt 0 y3.fst.gen)) (af (jO 1) fun y4 => af (kM x0 y4) fun y5 => af (lS y5.fst) fun y6 => cnd (band (band (ieq y6.snd 0) (ieq (F5 y6.fst.gen 2) 1)) (ilt y3.fst.gen y6.fst.gen)) (cnd (ieq y6.fst.gen 0) (some (dM.mk 0 0,7)) (some (y6.fst,0))) (cnd (ieq y3.fst.gen 0) (some (dM.mk 0 0,7)) (some (y3.fst,0)))) (af (jO 1) fun y7 => af (kM x0 y7) fun y8 => af (lS y8.fst) fun y9 => cnd (band (band (ieq y9.snd 0) (ieq (F5 y9.fst.gen 2) 1)) (ilt 0 y9.fst.gen)) (cnd (ieq y9.fst.gen 0) (some (dM.mk 0 0,7)) (some (y9.fst,0))) (some (dM.mk 0 0,7)))))
noncomputable def Xo:Cx:={ P:=PG,ety:=ety,fn:=look [(52,pq),(72,yc),(21,lU),(73,Dn)],inl:=fO [],lp:=bg [] }
theorem Za (x0:ak):cO Xo 25 [.val .disk] [.val .slot,.int .i64] x0=sH x0:=by kernel_rfl
def qy:aV:=mkSpec [.val .disk] [.val .slot,.int .i64] true (fun x=>sH x)
theorem MR:dW PG 25 qy:=
 have K:CxR Xo:=aZ.cx (fun _=>rfl) (l:=[(52,pq),(72,yc),(21,lU),(73,Dn)]) ⟨JO,UA,FU,Y1,trivial⟩
 aO K (aJ (l:=[]) rfl trivial) (by kernel_rfl) (fun x y h=>(Za x).trans h) rfl rfl
def pG (x0:Int) (x1:Int):Option (List UInt8):=aiZ x0 x1
def uM:aV:=mkSpec [.int .i64,.int .i64] [.str] true (fun x=>pG x.1 x.2)
def NT:Go.Shelf.Ren:=⟨fun | 173=>49 | 246=>113 | 283=>171 | 284=>172 | 285=>173 | 286=>174 | 129=>212 | 317=>211 | 318=>213 | 319=>214 | 320=>215 | 337=>233 | 338=>234 | n=>n,fun | 2=>2 | 3=>3 | 9=>9 | 4=>4 | 171=>224 | 0=>0 | 53=>219 | 37=>51 | 5=>5 | 173=>227 | 212=>260 | 51=>119 | 20=>20 | 213=>261 | 46=>162 | 232=>285 | 233=>286 | n=>n,fun | 17=>0 | 18=>4 | 19=>5 | n=>n⟩
theorem Bl:Go.Proofs.LaysM.n173 PG NT where
 mixed:=by kernel_rfl
 f129:=by kernel_rfl
 f173:=by kernel_rfl
 f246:=by kernel_rfl
 f283:=by kernel_rfl
 f284:=by kernel_rfl
 f285:=by kernel_rfl
 f286:=by kernel_rfl
 f317:=by kernel_rfl
 f318:=by kernel_rfl
 f319:=by kernel_rfl
 f320:=by kernel_rfl
 f337:=by kernel_rfl
 f338:=by kernel_rfl
 t0:=by kernel_rfl
 a0:=fun w=>by kernel_rfl
 z0:=fun w=>by kernel_rfl
 v0:=fun w=>by kernel_rfl
 t2:=by kernel_rfl
 a2:=fun w=>by kernel_rfl
 z2:=fun w=>by kernel_rfl
 v2:=fun w=>by kernel_rfl
 t3:=by kernel_rfl
 a3:=fun w=>by kernel_rfl
 z3:=fun w=>by kernel_rfl
 v3:=fun w=>by kernel_rfl
 t4:=by kernel_rfl
 a4:=fun w=>by kernel_rfl
 z4:=fun w=>by kernel_rfl
 v4:=fun w=>by kernel_rfl
 t5:=by kernel_rfl
 a5:=fun w=>by kernel_rfl
 z5:=fun w=>by kernel_rfl
 v5:=fun w=>by kernel_rfl
 t9:=by kernel_rfl
 a9:=fun w=>by kernel_rfl
 z9:=fun w=>by kernel_rfl
 v9:=fun w=>by kernel_rfl
 t20:=by kernel_rfl
 a20:=fun w=>by kernel_rfl
 z20:=fun w=>by kernel_rfl
 v20:=fun w=>by kernel_rfl
 t37:=by kernel_rfl
 a37:=fun w=>by kernel_rfl
 z37:=fun w=>by kernel_rfl
 v37:=fun w=>by kernel_rfl
 t46:=by kernel_rfl
 a46:=fun w=>by kernel_rfl
 z46:=fun w=>by kernel_rfl
 v46:=fun w=>by kernel_rfl
 t51:=by kernel_rfl
 a51:=fun w=>by kernel_rfl
 z51:=fun w=>by kernel_rfl
 v51:=fun w=>by kernel_rfl
 t53:=by kernel_rfl
 a53:=fun w=>by kernel_rfl
 z53:=fun w=>by kernel_rfl
 v53:=fun w=>by kernel_rfl
 t171:=by kernel_rfl
 a171:=fun w=>by kernel_rfl
 z171:=fun w=>by kernel_rfl
 v171:=fun w=>by kernel_rfl
 t173:=by kernel_rfl
 a173:=fun w=>by kernel_rfl
 z173:=fun w=>by kernel_rfl
 v173:=fun w=>by kernel_rfl
 t212:=by kernel_rfl
 a212:=fun w=>by kernel_rfl
 z212:=fun w=>by kernel_rfl
 v212:=fun w=>by kernel_rfl
 t213:=by kernel_rfl
 a213:=fun w=>by kernel_rfl
 z213:=fun w=>by kernel_rfl
 t232:=by kernel_rfl
 a232:=fun w=>by kernel_rfl
 z232:=fun w=>by kernel_rfl
 v232:=fun w=>by kernel_rfl
 t233:=by kernel_rfl
 a233:=fun w=>by kernel_rfl
 z233:=fun w=>by kernel_rfl
 v233:=fun w=>by kernel_rfl
 g17:=by kernel_rfl
 g18:=by kernel_rfl
 g19:=by kernel_rfl
 i0:=by kernel_rfl
 i2:=by kernel_rfl
 i3:=by kernel_rfl
 i4:=by kernel_rfl
 i5:=by kernel_rfl
 i9:=by kernel_rfl
 i20:=by kernel_rfl
 i37:=by kernel_rfl
 i46:=by kernel_rfl
 i51:=by kernel_rfl
 i53:=by kernel_rfl
 i171:=by kernel_rfl
 i173:=by kernel_rfl
 i212:=by kernel_rfl
 i232:=by kernel_rfl
 i233:=by kernel_rfl
 m17:=by kernel_rfl
 m18:=by kernel_rfl
 m19:=by kernel_rfl
theorem OA:dW PG 49 uM:=ajT aZ Bl (by kernel_rfl) (g:=0) (by kernel_rfl) (by simp [glL]) fun x y h=>h
def tZ (x0:(List UInt8)) (x1:Int):Option (List UInt8):=ajJ x0 x1
def yR:aV:=mkSpec [.str,.int .i64] [.str] true (fun x=>tZ x.1 x.2)
def Io:Go.Shelf.Ren:=⟨fun | 105=>50 | 212=>114 | 99=>115 | 165=>116 | 166=>117 | 170=>118 | 169=>119 | 263=>175 | 264=>176 | 206=>177 | 240=>178 | 241=>179 | 276=>216 | 277=>217 | n=>n,fun | 9=>9 | 3=>3 | 4=>4 | 20=>20 | 0=>0 | 46=>162 | 109=>163 | 5=>5 | 72=>168 | 76=>170 | 51=>119 | 146=>229 | 53=>219 | 148=>231 | 70=>166 | 37=>51 | 75=>139 | 127=>233 | 164=>264 | 71=>167 | 74=>138 | 80=>173 | n=>n,fun | n=>n⟩
theorem EL:Go.Proofs.Lays.n105 PG Io where
 mixed:=by kernel_rfl
 f99:=by kernel_rfl
 f105:=by kernel_rfl
 f165:=by kernel_rfl
 f166:=by kernel_rfl
 f169:=by kernel_rfl
 f170:=by kernel_rfl
 f206:=by kernel_rfl
 f212:=by kernel_rfl
 f240:=by kernel_rfl
 f241:=by kernel_rfl
 f263:=by kernel_rfl
 f264:=by kernel_rfl
 f276:=by kernel_rfl
 f277:=by kernel_rfl
 t0:=by kernel_rfl
 a0:=fun w=>by kernel_rfl
 z0:=fun w=>by kernel_rfl
 v0:=fun w=>by kernel_rfl
 t3:=by kernel_rfl
 a3:=fun w=>by kernel_rfl
 z3:=fun w=>by kernel_rfl
 v3:=fun w=>by kernel_rfl
 t4:=by kernel_rfl
 a4:=fun w=>by kernel_rfl
 z4:=fun w=>by kernel_rfl
 v4:=fun w=>by kernel_rfl
 t5:=by kernel_rfl
 a5:=fun w=>by kernel_rfl
 z5:=fun w=>by kernel_rfl
 v5:=fun w=>by kernel_rfl
 t9:=by kernel_rfl
 a9:=fun w=>by kernel_rfl
 z9:=fun w=>by kernel_rfl
 v9:=fun w=>by kernel_rfl
 t20:=by kernel_rfl
 a20:=fun w=>by kernel_rfl
 z20:=fun w=>by kernel_rfl
 v20:=fun w=>by kernel_rfl
 t37:=by kernel_rfl
 a37:=fun w=>by kernel_rfl
 z37:=fun w=>by kernel_rfl
 v37:=fun w=>by kernel_rfl
 t46:=by kernel_rfl
 a46:=fun w=>by kernel_rfl
 z46:=fun w=>by kernel_rfl
 v46:=fun w=>by kernel_rfl
 t51:=by kernel_rfl
 a51:=fun w=>by kernel_rfl
 z51:=fun w=>by kernel_rfl
 v51:=fun w=>by kernel_rfl
 t53:=by kernel_rfl
 a53:=fun w=>by kernel_rfl
 z53:=fun w=>by kernel_rfl
 v53:=fun w=>by kernel_rfl
 t70:=by kernel_rfl
 a70:=fun w=>by kernel_rfl
 z70:=fun w=>by kernel_rfl
 v70:=fun w=>by kernel_rfl
 t72:=by kernel_rfl
 a72:=fun w=>by kernel_rfl
 z72:=fun w=>by kernel_rfl
 v72:=fun w=>by kernel_rfl
 t75:=by kernel_rfl
 a75:=fun w=>by kernel_rfl
 z75:=fun w=>by kernel_rfl
 v75:=fun w=>by kernel_rfl
 t76:=by kernel_rfl
 a76:=fun w=>by kernel_rfl
 z76:=fun w=>by kernel_rfl
 v76:=fun w=>by kernel_rfl
 t109:=by kernel_rfl
 a109:=fun w=>by kernel_rfl
 z109:=fun w=>by kernel_rfl
 v109:=fun w=>by kernel_rfl
 t127:=by kernel_rfl
 a127:=fun w=>by kernel_rfl
 z127:=fun w=>by kernel_rfl
 v127:=fun w=>by kernel_rfl
 t146:=by kernel_rfl
 a146:=fun w=>by kernel_rfl
 z146:=fun w=>by kernel_rfl
 v146:=fun w=>by kernel_rfl
 t148:=by kernel_rfl
 a148:=fun w=>by kernel_rfl
 z148:=fun w=>by kernel_rfl
 v148:=fun w=>by kernel_rfl
 t164:=by kernel_rfl
 a164:=fun w=>by kernel_rfl
 z164:=fun w=>by kernel_rfl
 v164:=fun w=>by kernel_rfl
theorem Bj:Go.Proofs.Builder.Extra PG Io where
 sizeBuilder:=by kernel_rfl
 liesBuilder:=by kernel_rfl
 t5:=by kernel_rfl
 a5:=fun w=>by kernel_rfl
 z5:=fun w=>by kernel_rfl
 v5:=fun w=>by kernel_rfl
 infoByte:=by kernel_rfl
 cellsByte:=by kernel_rfl
 sizeByte:=by kernel_rfl
 neB5:=by decide
theorem Uf:dW PG 50 yR:=ajO aZ EL Bj (by kernel_rfl) fun x y h=>h
def dZ (x0:Int):Option ((List UInt8)):=cnd (bor (ilt x0 1) (ilt 1000000000 x0)) (some []) (af (pG x0 10) fun y0 => af (tZ [(UInt8.ofNat 48)] (wr .i64 (aG 10 (len y0)))) fun y1 => cnd (ile (ax 5 (len y1)) 68719476736) (cnd (ile (ax (len (jc [(UInt8.ofNat 115),(UInt8.ofNat 110),(UInt8.ofNat 97),(UInt8.ofNat 112),(UInt8.ofNat 46)] y1)) (len y0)) 68719476736) (some (jc (jc [(UInt8.ofNat 115),(UInt8.ofNat 110),(UInt8.ofNat 97),(UInt8.ofNat 112),(UInt8.ofNat 46)] y1) y0)) none) none)
noncomputable def Uu:Cx:={ P:=PG,ety:=ety,fn:=look [(49,uM),(50,yR)],inl:=fO [],lp:=bg [] }
theorem XL (x0:Int):cO Uu 17 [.int .i64] [.str] x0=dZ x0:=by kernel_rfl
def o6:aV:=mkSpec [.int .i64] [.str] true (fun x=>dZ x)
theorem Eb:dW PG 17 o6:=
 have K:CxR Uu:=aZ.cx (fun _=>rfl) (l:=[(49,uM),(50,yR)]) ⟨OA,Uf,trivial⟩
 aO K (aJ (l:=[]) rfl trivial) (by kernel_rfl) (fun x y h=>(XL x).trans h) rfl rfl
def Dz (x0:Int) (x1:Int) (x2:Int):Option (Int):=some (wr .i64 (ax (wr .i64 (ax (wr .i64 (ax (wr .i64 (ax 32 (wr .i64 (jq x2 61)))) (wr .i64 (jq (wr .i64 (jq x0 x1)) 32)))) (wr .i64 (jq x0 8)))) 4))
noncomputable def Zo:Cx:={ P:=PG,ety:=ety,fn:=look [],inl:=fO [],lp:=bg [] }
theorem abb (x0:Int) (x1:Int) (x2:Int):cO Zo 109 [.int .i64,.int .i64,.int .i64] [.int .i64] (x0,x1,x2)=Dz x0 x1 x2:=by kernel_rfl
def zn:aV:=mkSpec [.int .i64,.int .i64,.int .i64] [.int .i64] true (fun x=>Dz x.1 x.2.1 x.2.2)
theorem WR:dW PG 109 zn:=
 have K:CxR Zo:=aZ.cx (fun _=>rfl) (l:=[]) trivial
 aO K (aJ (l:=[]) rfl trivial) (by kernel_rfl) (fun x y h=>(abb x.1 x.2.1 x.2.2).trans h) rfl rfl
def Q9:LSh:=⟨73,[(11,.int .i64),(10,.ro .u8)],[],[],[(12,.int .i64),(5,.int .u32)],[],[]⟩
@[reducible] def Rq:List jb:=[⟨.exit 0,[(5,.int .u32)],[],[]⟩]
def zL (p0:Int) (p1:(List Int)) (v0:Int) (v1:Int):Option ((Int×Int) ⊕ ((Int))):=cnd (ilt v0 p0) (cnd (band (ile 0 v0) (ilt v0 (len p1))) (af (bY (wr .u32 (oH .u32 (wr .u32 (gJ .u32 v1 (wr .u32 (ah p1 (itn v0))))) 15))) fun y0 => af (bY (wr .u32 (oH .u32 (wr .u32 (gJ .u32 y0 (dG .u32 (wr .u32 (gJ .u32 v1 (wr .u32 (ah p1 (itn v0))))) 4))) 15))) fun y1 => some (Sum.inl (wr .i64 (ax v0 1),wr .u32 (gJ .u32 y1 (dG .u32 (wr .u32 (gJ .u32 y0 (dG .u32 (wr .u32 (gJ .u32 v1 (wr .u32 (ah p1 (itn v0))))) 4))) 4))))) none) (some (Sum.inr v1))
def Ou:iO:=Q9.spec Rq [13,14,15,7,16,17,18,19,5,20,21,22,23,24,25,26,27,28,29,30,31,32,12] (fun p v=>zL p.1 p.2 v.1 v.2)
def LG (x0:Int) (x1:(List Int)):Option (Int):=af (bT (fun v => zL (len x1) x1 v.fst v.snd) LF (0,wr .u32 (gJ .u32 4294967295 x0))) fun y0 => some (wr .u32 (gJ .u32 4294967295 y0))
noncomputable def Rz:Cx:={ P:=PG,ety:=ety,fn:=look [(199,zq)],inl:=fO [],lp:=bg [(147,58,Ou)] }
theorem Vf (p0:Int) (p1:(List Int)) (v0:Int) (v1:Int):kD Rz 900 147 58 (iq PG 147 58) Q9 Rq (p0,p1) (v0,v1)=zL p0 p1 v0 v1:=by kernel_rfl
theorem aaN (x0:Int) (x1:(List Int)):cO Rz 147 [.int .u32,.ro .u8] [.int .u32] (x0,x1)=LG x0 x1:=by kernel_rfl
def JV:aV:=mkSpec [.int .u32,.ro .u8] [.int .u32] true (fun x=>LG x.1 x.2)
theorem af4:dW PG 147 JV:=
 have K:CxR Rz:=aZ.cx (fun _=>rfl) (l:=[(199,zq)]) ⟨Xy,trivial⟩
 aO K (aJ (l:=[(147,58,Ou)]) rfl ⟨dU (n:=900) (f:=147) K (by kernel_rfl) (by kernel_rfl) (by kernel_rfl) (by kernel_rfl) (by kernel_rfl) (fun p v r h=>(Vf p.1 p.2 v.1 v.2).trans h),trivial⟩) (by kernel_rfl) (fun x y h=>(aaN x.1 x.2).trans h) rfl rfl
def Gl (x0:(List Int)):Option (Int):=af (LG 0 x0) fun y0 => some y0
noncomputable def aco:Cx:={ P:=PG,ety:=ety,fn:=look [(147,JV)],inl:=fO [],lp:=bg [] }
theorem acQ (x0:(List Int)):cO aco 71 [.ro .u8] [.int .u32] x0=Gl x0:=by kernel_rfl
def CO:aV:=mkSpec [.ro .u8] [.int .u32] true (fun x=>Gl x)
theorem ZG:dW PG 71 CO:=
 have K:CxR aco:=aZ.cx (fun _=>rfl) (l:=[(147,JV)]) ⟨af4,trivial⟩
 aO K (aJ (l:=[]) rfl trivial) (by kernel_rfl) (fun x y h=>(acQ x).trans h) rfl rfl
def FO:LSh:=⟨76,[(14,.int .i64),(13,.ro .u8)],[],[],[(15,.int .i64),(5,.int .i64)],[],[]⟩
@[reducible] def FN:List jb:=[⟨.exit 0,[(5,.int .i64)],[],[]⟩]
def pI (p0:Int) (p1:(List Int)) (v0:Int) (v1:Int):Option ((Int×Int) ⊕ ((Int))):=cnd (ilt v0 p0) (cnd (band (ile 0 v0) (ilt v0 (len p1))) (some (Sum.inl (wr .i64 (ax v0 1),wr .i64 (ior .i64 (wr .i64 (pU .i64 v1 8)) (wr .i64 (ah p1 (itn v0))))))) none) (some (Sum.inr v1))
def EH:iO:=FO.spec FN [16,17,18,7,19,20,21,22,23,5,24,15] (fun p v=>pI p.1 p.2 v.1 v.2)
def cZ (x0:fJ) (x1:Int):Option (fJ×(Int)):=cnd (band (ile 0 x1) (ile x1 (len x0.rest))) (af (bT (fun v => pI (len (aC x0.rest (itn x1))) (aC x0.rest (itn x1)) v.fst v.snd) LF (0,0)) fun y0 => cnd (band (ile 0 x1) (ile x1 (len x0.rest))) (some (fJ.mk (aH x0.rest (itn x1)) x0.odd,y0)) none) none
noncomputable def DC:Cx:={ P:=PG,ety:=ety,fn:=look [],inl:=fO [],lp:=bg [(168,58,EH)] }
theorem Lu (p0:Int) (p1:(List Int)) (v0:Int) (v1:Int):kD DC 900 168 58 (iq PG 168 58) FO FN (p0,p1) (v0,v1)=pI p0 p1 v0 v1:=by kernel_rfl
theorem Qx (x0:fJ) (x1:Int):Sj DC 168 .reader [.int .i64] [.int .i64] x0 x1=cZ x0 x1:=by kernel_rfl
def kJ:aV:=qO .reader [.int .i64] [.int .i64] (fun x=>cZ x.1 x.2)
theorem BA:dW PG 168 kJ:=
 have K:CxR DC:=aZ.cx (fun _=>rfl) (l:=[]) trivial
 Qr K (aJ (l:=[(168,58,EH)]) rfl ⟨dU (n:=900) (f:=168) K (by kernel_rfl) (by kernel_rfl) (by kernel_rfl) (by kernel_rfl) (by kernel_rfl) (fun p v r h=>(Lu p.1 p.2 v.1 v.2).trans h),trivial⟩) (by kernel_rfl) (fun x y h=>(Qx x.1 x.2).trans h) rfl rfl
def iE (x0:fJ):Option (fJ×(Int)):=af (cZ x0 1) fun y0 => some y0
noncomputable def Kq:Cx:={ P:=PG,ety:=ety,fn:=look [(168,kJ)],inl:=fO [],lp:=bg [] }
theorem Qs (x0:fJ):Sj Kq 166 .reader [] [.int .i64] x0 ()=iE x0:=by kernel_rfl
def kG:aV:=qO .reader [] [.int .i64] (fun x=>iE x.1)
theorem BU:dW PG 166 kG:=
 have K:CxR Kq:=aZ.cx (fun _=>rfl) (l:=[(168,kJ)]) ⟨BA,trivial⟩
 Qr K (aJ (l:=[]) rfl trivial) (by kernel_rfl) (fun x y h=>(Qs x.1).trans h) rfl rfl
def o5 (x0:fJ):Option (fJ×(Bool)):=af (iE x0) fun y0 => some (fJ.mk y0.fst.rest (bor y0.fst.odd (ilt 1 y0.snd)),ieq y0.snd 1)
noncomputable def Je:Cx:={ P:=PG,ety:=ety,fn:=look [(166,kG)],inl:=fO [],lp:=bg [] }
theorem O6 (x0:fJ):Sj Je 167 .reader [] [.bool] x0 ()=o5 x0:=by kernel_rfl
def oG:aV:=qO .reader [] [.bool] (fun x=>o5 x.1)
theorem GL:dW PG 167 oG:=
 have K:CxR Je:=aZ.cx (fun _=>rfl) (l:=[(166,kG)]) ⟨BU,trivial⟩
 Qr K (aJ (l:=[]) rfl trivial) (by kernel_rfl) (fun x y h=>(O6 x.1).trans h) rfl rfl
def qJ (x0:fJ):Option (fJ×(aA)):=af (cZ x0 8) fun y0 => af (iE y0.fst) fun y1 => af (iE y1.fst) fun y2 => af (iE y2.fst) fun y3 => af (iE y3.fst) fun y4 => af (cZ y4.fst 8) fun y5 => af (cZ y5.fst 8) fun y6 => af (cZ y6.fst 8) fun y7 => af (cZ y7.fst 8) fun y8 => af (cZ y8.fst 8) fun y9 => af (cZ y9.fst 8) fun y10 => af (o5 y10.fst) fun y11 => some (y11.fst,aA.mk y0.snd y1.snd y2.snd y3.snd y5.snd y6.snd y7.snd y4.snd y8.snd y9.snd y10.snd y11.snd)
noncomputable def Iu:Cx:={ P:=PG,ety:=ety,fn:=look [(168,kJ),(166,kG),(167,oG)],inl:=fO [],lp:=bg [] }
theorem NI (x0:fJ):Sj Iu 169 .reader [] [.val .order] x0 ()=qJ x0:=by kernel_rfl
def wP:aV:=qO .reader [] [.val .order] (fun x=>qJ x.1)
theorem QB:dW PG 169 wP:=
 have K:CxR Iu:=aZ.cx (fun _=>rfl) (l:=[(168,kJ),(166,kG),(167,oG)]) ⟨BA,BU,GL,trivial⟩
 Qr K (aJ (l:=[]) rfl trivial) (by kernel_rfl) (fun x y h=>(NI x.1).trans h) rfl rfl
def F7 (x0:ai) (x1:Int) (x2:Int):Option (Int):=cnd (bor (bor (bor (ilt x1 0) (ile x0.accounts x1)) (ilt x2 0)) (ile x0.symbols x2)) (some (-1)) (af (aX x0 x1 x2) fun y0 => some y0)
noncomputable def Uz:Cx:={ P:=PG,ety:=ety,fn:=look [(137,fQ)],inl:=fO [],lp:=bg [] }
theorem XE (x0:ai) (x1:Int) (x2:Int):cO Uz 170 [.val .state,.int .i64,.int .i64] [.int .i64] (x0,x1,x2)=F7 x0 x1 x2:=by kernel_rfl
def Fj:aV:=mkSpec [.val .state,.int .i64,.int .i64] [.int .i64] true (fun x=>F7 x.1 x.2.1 x.2.2)
theorem aaK:dW PG 170 Fj:=
 have K:CxR Uz:=aZ.cx (fun _=>rfl) (l:=[(137,fQ)]) ⟨qP,trivial⟩
 aO K (aJ (l:=[]) rfl trivial) (by kernel_rfl) (fun x y h=>(XE x.1 x.2.1 x.2.2).trans h) rfl rfl
def Jg:LSh:=⟨136,[(77,.int .i64),(76,.ro .u8),(9,.int .u32)],[(2,.mp 8 0)],[],[(78,.int .i64),(3,.int .i64)],[(8,[.val .state])],[]⟩
@[reducible] def JA:List jb:=[⟨.ret,[(3,.int .i64)],[(8,[.val .state])],[]⟩,⟨.exit 0,[(3,.int .i64)],[(8,[.val .state])],[]⟩]
def oP (p0:Int) (p1:(List Int)) (p2:Int) (v0:Int) (v1:Int) (v2:ai):Option ((Int×Int×ai) ⊕ ((Int×ai) ⊕ ((Int×ai)))):=cnd (ilt v0 p0) (cnd (band (ile 0 v0) (ilt v0 (len p1))) (cnd (ile 0 (wr .i64 (jq 8 v0))) (cnd (aF (ieq (ah p1 (itn v0)) (wr .u8 (dG .u32 p2 (wr .i64 (jq 8 v0)))))) (some (Sum.inr (Sum.inl (10,ai.mk 0 0 [] [] [] [] false 0 0 0)))) (some (Sum.inl (wr .i64 (ax v0 1),v1,v2)))) none) none) (some (Sum.inr (Sum.inr (v1,v2))))
def Hq:iO:=Jg.spec JA [79,80,81,82,10,11,83,84,85,86,87,88,89,90,3,91,78] (fun p v=>oP p.1 p.2.1 p.2.2 v.1 v.2.1 v.2.2)
def oq:LSh:=⟨245,[(28,.int .i64)],[(3,.mp 1264 0),(0,.mp 1152 0)],[],[(29,.int .i64)],[(1264,[.int .i64,.int .i64,.buf .order,.buf .cell,.buf .expo,.buf .i64,.bool,.int .i64,.int .i64,.int .i64]),(1152,[.val .reader])],[]⟩
@[reducible] def oI:List jb:=[⟨.exit 0,[],[(1264,[.int .i64,.int .i64,.buf .order,.buf .cell,.buf .expo,.buf .i64,.bool,.int .i64,.int .i64,.int .i64]),(1152,[.val .reader])],[]⟩]
def dY (p0:Int) (v0:Int) (v1:Int) (v2:Int) (v3:(List aA)) (v4:(List aK)) (v5:(List dD)) (v6:(List Int)) (v7:Bool) (v8:Int) (v9:Int) (v10:Int) (v11:fJ):Option ((Int×Int×Int×(List aA)×(List aK)×(List dD)×(List Int)×Bool×Int×Int×Int×fJ) ⊕ ((Int×Int×(List aA)×(List aK)×(List dD)×(List Int)×Bool×Int×Int×Int×fJ))):=cnd (ilt v0 p0) (af (qJ v11) fun y0 => cnd (band (ile 0 v0) (ilt v0 (len v3))) (some (Sum.inl (wr .i64 (ax v0 1),v1,v2,aY v3 (itn v0) y0.snd,v4,v5,v6,v7,v8,v9,v10,y0.fst))) none) (some (Sum.inr (v1,v2,v3,v4,v5,v6,v7,v8,v9,v10,v11)))
def nN:iO:=oq.spec oI [30,31,4,32,33,34,35,36,37,38,29] (fun p v=>dY p v.1 v.2.1 v.2.2.1 v.2.2.2.1 v.2.2.2.2.1 v.2.2.2.2.2.1 v.2.2.2.2.2.2.1 v.2.2.2.2.2.2.2.1 v.2.2.2.2.2.2.2.2.1 v.2.2.2.2.2.2.2.2.2.1 v.2.2.2.2.2.2.2.2.2.2.1 v.2.2.2.2.2.2.2.2.2.2.2)
def nS:LSh:=⟨344,[(48,.int .i64)],[(3,.mp 1264 0),(0,.mp 1152 0)],[],[(49,.int .i64)],[(1264,[.int .i64,.int .i64,.buf .order,.buf .cell,.buf .expo,.buf .i64,.bool,.int .i64,.int .i64,.int .i64]),(1152,[.val .reader])],[]⟩
@[reducible] def nO:List jb:=[⟨.exit 2,[],[(1264,[.int .i64,.int .i64,.buf .order,.buf .cell,.buf .expo,.buf .i64,.bool,.int .i64,.int .i64,.int .i64]),(1152,[.val .reader])],[]⟩]
def dQ (p0:Int) (v0:Int) (v1:Int) (v2:Int) (v3:(List aA)) (v4:(List aK)) (v5:(List dD)) (v6:(List Int)) (v7:Bool) (v8:Int) (v9:Int) (v10:Int) (v11:fJ):Option ((Int×Int×Int×(List aA)×(List aK)×(List dD)×(List Int)×Bool×Int×Int×Int×fJ) ⊕ ((Int×Int×(List aA)×(List aK)×(List dD)×(List Int)×Bool×Int×Int×Int×fJ))):=cnd (ilt v0 p0) (af (cZ v11 8) fun y0 => cnd (band (ile 0 v0) (ilt v0 (len v4))) (some (Sum.inl (wr .i64 (ax v0 1),v1,v2,v3,aY v4 (itn v0) (aK.mk y0.snd (ah v4 (itn v0)).buy (ah v4 (itn v0)).sell (ah v4 (itn v0)).opn),v5,v6,v7,v8,v9,v10,y0.fst))) none) (some (Sum.inr (v1,v2,v3,v4,v5,v6,v7,v8,v9,v10,v11)))
def ng:iO:=nS.spec nO [50,51,5,52,53,54,55,56,57,58,59,49] (fun p v=>dQ p v.1 v.2.1 v.2.2.1 v.2.2.2.1 v.2.2.2.2.1 v.2.2.2.2.2.1 v.2.2.2.2.2.2.1 v.2.2.2.2.2.2.2.1 v.2.2.2.2.2.2.2.2.1 v.2.2.2.2.2.2.2.2.2.1 v.2.2.2.2.2.2.2.2.2.2.1 v.2.2.2.2.2.2.2.2.2.2.2)
def nP:LSh:=⟨435,[(62,.int .i64)],[(3,.mp 1264 0),(0,.mp 1152 0)],[],[(63,.int .i64)],[(1264,[.int .i64,.int .i64,.buf .order,.buf .cell,.buf .expo,.buf .i64,.bool,.int .i64,.int .i64,.int .i64]),(1152,[.val .reader])],[]⟩
@[reducible] def nJ:List jb:=[⟨.exit 4,[],[(1264,[.int .i64,.int .i64,.buf .order,.buf .cell,.buf .expo,.buf .i64,.bool,.int .i64,.int .i64,.int .i64]),(1152,[.val .reader])],[]⟩]
def dS (p0:Int) (v0:Int) (v1:Int) (v2:Int) (v3:(List aA)) (v4:(List aK)) (v5:(List dD)) (v6:(List Int)) (v7:Bool) (v8:Int) (v9:Int) (v10:Int) (v11:fJ):Option ((Int×Int×Int×(List aA)×(List aK)×(List dD)×(List Int)×Bool×Int×Int×Int×fJ) ⊕ ((Int×Int×(List aA)×(List aK)×(List dD)×(List Int)×Bool×Int×Int×Int×fJ))):=cnd (ilt v0 p0) (af (cZ v11 8) fun y0 => af (cZ y0.fst 8) fun y1 => af (cZ y1.fst 8) fun y2 => cnd (ile (len (jc v5 [dD.mk y0.snd y1.snd y2.snd])) 68719476736) (some (Sum.inl (wr .i64 (ax v0 1),v1,v2,v3,v4,jc v5 [dD.mk y0.snd y1.snd y2.snd],v6,v7,v8,v9,v10,y2.fst))) none) (some (Sum.inr (v1,v2,v3,v4,v5,v6,v7,v8,v9,v10,v11)))
def ny:iO:=nP.spec nJ [64,65,66,67,68,69,70,71,72,73,74,75,76,77,63] (fun p v=>dS p v.1 v.2.1 v.2.2.1 v.2.2.2.1 v.2.2.2.2.1 v.2.2.2.2.2.1 v.2.2.2.2.2.2.1 v.2.2.2.2.2.2.2.1 v.2.2.2.2.2.2.2.2.1 v.2.2.2.2.2.2.2.2.2.1 v.2.2.2.2.2.2.2.2.2.2.1 v.2.2.2.2.2.2.2.2.2.2.2)
def nM:LSh:=⟨525,[(79,.int .i64)],[(3,.mp 1264 0),(0,.mp 1152 0)],[],[(80,.int .i64)],[(1264,[.int .i64,.int .i64,.buf .order,.buf .cell,.buf .expo,.buf .i64,.bool,.int .i64,.int .i64,.int .i64]),(1152,[.val .reader])],[]⟩
@[reducible] def nK:List jb:=[⟨.exit 6,[],[(1264,[.int .i64,.int .i64,.buf .order,.buf .cell,.buf .expo,.buf .i64,.bool,.int .i64,.int .i64,.int .i64]),(1152,[.val .reader])],[]⟩]
def dR (p0:Int) (v0:Int) (v1:Int) (v2:Int) (v3:(List aA)) (v4:(List aK)) (v5:(List dD)) (v6:(List Int)) (v7:Bool) (v8:Int) (v9:Int) (v10:Int) (v11:fJ):Option ((Int×Int×Int×(List aA)×(List aK)×(List dD)×(List Int)×Bool×Int×Int×Int×fJ) ⊕ ((Int×Int×(List aA)×(List aK)×(List dD)×(List Int)×Bool×Int×Int×Int×fJ))):=cnd (ilt v0 p0) (af (cZ v11 8) fun y0 => cnd (ile (len (jc v6 [y0.snd])) 68719476736) (some (Sum.inl (wr .i64 (ax v0 1),v1,v2,v3,v4,v5,jc v6 [y0.snd],v7,v8,v9,v10,y0.fst))) none) (some (Sum.inr (v1,v2,v3,v4,v5,v6,v7,v8,v9,v10,v11)))
def mX:iO:=nM.spec nK [81,82,83,84,85,86,87,88,89,80] (fun p v=>dR p v.1 v.2.1 v.2.2.1 v.2.2.2.1 v.2.2.2.2.1 v.2.2.2.2.2.1 v.2.2.2.2.2.2.1 v.2.2.2.2.2.2.2.1 v.2.2.2.2.2.2.2.2.1 v.2.2.2.2.2.2.2.2.2.1 v.2.2.2.2.2.2.2.2.2.2.1 v.2.2.2.2.2.2.2.2.2.2.2)
def uG:LSh:=⟨634,[(10,.int .i64)],[(9,.mf 4298),(1,.mp 4512 0)],[],[(11,.int .i64),(2,.bool)],[(4512,[.int .i64,.int .i64,.rf 4298,.rf 4299,.rf 4300,.rf 4301,.bool,.int .i64,.int .i64,.int .i64])],[(4298,.order),(4299,.cell),(4300,.expo),(4301,.i64)]⟩
@[reducible] def uz:List jb:=[⟨.ret,[(2,.bool)],[(4512,[.int .i64,.int .i64,.rf 4298,.rf 4299,.rf 4300,.rf 4301,.bool,.int .i64,.int .i64,.int .i64])],[(4298,.order),(4299,.cell),(4300,.expo),(4301,.i64)]⟩,⟨.exit 0,[(2,.bool)],[(4512,[.int .i64,.int .i64,.rf 4298,.rf 4299,.rf 4300,.rf 4301,.bool,.int .i64,.int .i64,.int .i64])],[(4298,.order),(4299,.cell),(4300,.expo),(4301,.i64)]⟩]
def gY (p0:Int) (v0:Int) (v1:Bool) (v2:Int) (v3:Int) (v4:Unit) (v5:Unit) (v6:Unit) (v7:Unit) (v8:Bool) (v9:Int) (v10:Int) (v11:Int) (v12:(List aA)) (v13:(List aK)) (v14:(List dD)) (v15:(List Int)):Option ((Int×Bool×Int×Int×Unit×Unit×Unit×Unit×Bool×Int×Int×Int×(List aA)×(List aK)×(List dD)×(List Int)) ⊕ ((Bool×Int×Int×Unit×Unit×Unit×Unit×Bool×Int×Int×Int×(List aA)×(List aK)×(List dD)×(List Int)) ⊕ ((Bool×Int×Int×Unit×Unit×Unit×Unit×Bool×Int×Int×Int×(List aA)×(List aK)×(List dD)×(List Int))))):=cnd (ilt v0 p0) (cnd (band (ile 0 v0) (ilt v0 (len v12))) (af (F7 (ai.mk v2 v3 v12 v13 v14 v15 v8 v9 v10 v11) (ah v12 (itn v0)).account (ah v12 (itn v0)).symbol) fun y0 => cnd (ieq y0 (-1)) (some (Sum.inr (Sum.inl (false,v2,v3,PUnit.unit,PUnit.unit,PUnit.unit,PUnit.unit,v8,v9,v10,v11,v12,v13,v14,v15)))) (cnd (band (ile 0 y0) (ilt y0 (len v13))) (af (iR (ah v13 (itn y0)) (ah v12 (itn v0))) fun y1 => cnd (aF (ieq y1.snd 0)) (some (Sum.inr (Sum.inl (false,v2,v3,PUnit.unit,PUnit.unit,PUnit.unit,PUnit.unit,v8,v9,v10,v11,v12,v13,v14,v15)))) (cnd (band (ile 0 y0) (ilt y0 (len v13))) (some (Sum.inl (wr .i64 (ax v0 1),v1,v2,v3,PUnit.unit,PUnit.unit,PUnit.unit,PUnit.unit,v8,v9,v10,v11,v12,aY v13 (itn y0) y1.fst,v14,v15))) none)) none)) none) (some (Sum.inr (Sum.inr (v1,v2,v3,PUnit.unit,PUnit.unit,PUnit.unit,PUnit.unit,v8,v9,v10,v11,v12,v13,v14,v15))))
def uw:iO:=uG.spec uz [12,13,14,4,15,16,17,18,19,20,5,21,22,2,24,25,26,27,28,29,30,23,31,32,6,7,33,34,35,36,37,38,39,40,11] (fun p v=>gY p v.1 v.2.1 v.2.2.1 v.2.2.2.1 v.2.2.2.2.1 v.2.2.2.2.2.1 v.2.2.2.2.2.2.1 v.2.2.2.2.2.2.2.1 v.2.2.2.2.2.2.2.2.1 v.2.2.2.2.2.2.2.2.2.1 v.2.2.2.2.2.2.2.2.2.2.1 v.2.2.2.2.2.2.2.2.2.2.2.1 v.2.2.2.2.2.2.2.2.2.2.2.2.1 v.2.2.2.2.2.2.2.2.2.2.2.2.2.1 v.2.2.2.2.2.2.2.2.2.2.2.2.2.2.1 v.2.2.2.2.2.2.2.2.2.2.2.2.2.2.2)
def su (x0:(List Int)):Option (ai×Int):=cnd (bor (ile 4 (len x0)) (aF (aF (ilt (len x0) 36)))) (cnd (bor (ilt (len x0) 36) (aF (seq (u2s (aC x0 4)) [(UInt8.ofNat 115),(UInt8.ofNat 110),(UInt8.ofNat 97),(UInt8.ofNat 102)]))) (some (ai.mk 0 0 [] [] [] [] false 0 0 0,2)) (cnd (ilt 4 (len x0)) (cnd (ilt 5 (len x0)) (cnd (ilt 7 (len x0)) (af (cnd (aF (bor (bor (bor (bor (ilt (wr .i64 (ah x0 4)) 1) (ilt 8 (wr .i64 (ah x0 4)))) (ilt (wr .i64 (ah x0 5)) 1)) (ilt 8 (wr .i64 (ah x0 5)))) (ilt 64 (wr .i64 (ah x0 7))))) (Dz (wr .i64 (ah x0 4)) (wr .i64 (ah x0 5)) (wr .i64 (ah x0 7))) (some 0)) fun y0 => cnd (bor (bor (bor (bor (bor (ilt (wr .i64 (ah x0 4)) 1) (ilt 8 (wr .i64 (ah x0 4)))) (ilt (wr .i64 (ah x0 5)) 1)) (ilt 8 (wr .i64 (ah x0 5)))) (ilt 64 (wr .i64 (ah x0 7)))) (aF (ieq (len x0) y0))) (some (ai.mk 0 0 [] [] [] [] false 0 0 0,2)) (cnd (band (ile 0 (wr .i64 (aG (len x0) 4))) (ile (wr .i64 (aG (len x0) 4)) (len x0))) (cnd (band (ile 0 (wr .i64 (aG (len x0) 4))) (ile (wr .i64 (aG (len x0) 4)) (len x0))) (af (Gl (aC x0 (itn (wr .i64 (aG (len x0) 4))))) fun y1 => af (bT (fun v => oP (len (aH x0 (itn (wr .i64 (aG (len x0) 4))))) (aH x0 (itn (wr .i64 (aG (len x0) 4)))) y1 v.fst v.snd.fst v.snd.snd) LF (0,0,ai.mk 0 0 [] [] [] [] false 0 0 0)) fun y2 => qQ y2 (fun y3 => some (y3.snd,y3.fst)) fun y3 => cnd (ile 4 (len (aC x0 (itn (wr .i64 (aG (len x0) 4)))))) (af (iE (fJ.mk (aH (aC x0 (itn (wr .i64 (aG (len x0) 4)))) 4) false)) fun y4 => af (iE y4.fst) fun y5 => af (o5 y5.fst) fun y6 => af (iE y6.fst) fun y7 => cnd (band (band (ile 0 y7.snd) (ile y7.snd y7.snd)) (ile y7.snd 68719476736)) (af (cZ y7.fst 8) fun y8 => af (cZ y8.fst 8) fun y9 => af (cZ y9.fst 8) fun y10 => af (bT (fun v => dY (len (iQ aA (itn y7.snd))) v.fst v.snd.fst v.snd.snd.fst v.snd.snd.snd.fst v.snd.snd.snd.snd.fst v.snd.snd.snd.snd.snd.fst v.snd.snd.snd.snd.snd.snd.fst v.snd.snd.snd.snd.snd.snd.snd.fst v.snd.snd.snd.snd.snd.snd.snd.snd.fst v.snd.snd.snd.snd.snd.snd.snd.snd.snd.fst v.snd.snd.snd.snd.snd.snd.snd.snd.snd.snd.fst v.snd.snd.snd.snd.snd.snd.snd.snd.snd.snd.snd) LF (0,y4.snd,y5.snd,iQ aA (itn y7.snd),[],[],[],y6.snd,y8.snd,y9.snd,y10.snd,y10.fst)) fun y11 => cnd (band (band (ile 0 (wr .i64 (jq y11.fst y11.snd.fst))) (ile (wr .i64 (jq y11.fst y11.snd.fst)) (wr .i64 (jq y11.fst y11.snd.fst)))) (ile (wr .i64 (jq y11.fst y11.snd.fst)) 68719476736)) (af (bT (fun v => dQ (len (iQ aK (itn (wr .i64 (jq y11.fst y11.snd.fst))))) v.fst v.snd.fst v.snd.snd.fst v.snd.snd.snd.fst v.snd.snd.snd.snd.fst v.snd.snd.snd.snd.snd.fst v.snd.snd.snd.snd.snd.snd.fst v.snd.snd.snd.snd.snd.snd.snd.fst v.snd.snd.snd.snd.snd.snd.snd.snd.fst v.snd.snd.snd.snd.snd.snd.snd.snd.snd.fst v.snd.snd.snd.snd.snd.snd.snd.snd.snd.snd.fst v.snd.snd.snd.snd.snd.snd.snd.snd.snd.snd.snd) LF (0,y11.fst,y11.snd.fst,y11.snd.snd.fst,iQ aK (itn (wr .i64 (jq y11.fst y11.snd.fst))),y11.snd.snd.snd.snd)) fun y12 => af (bT (fun v => dS (len y12.snd.snd.snd.fst) v.fst v.snd.fst v.snd.snd.fst v.snd.snd.snd.fst v.snd.snd.snd.snd.fst v.snd.snd.snd.snd.snd.fst v.snd.snd.snd.snd.snd.snd.fst v.snd.snd.snd.snd.snd.snd.snd.fst v.snd.snd.snd.snd.snd.snd.snd.snd.fst v.snd.snd.snd.snd.snd.snd.snd.snd.snd.fst v.snd.snd.snd.snd.snd.snd.snd.snd.snd.snd.fst v.snd.snd.snd.snd.snd.snd.snd.snd.snd.snd.snd) LF (0,y12)) fun y13 => af (bT (fun v => dR y13.fst v.fst v.snd.fst v.snd.snd.fst v.snd.snd.snd.fst v.snd.snd.snd.snd.fst v.snd.snd.snd.snd.snd.fst v.snd.snd.snd.snd.snd.snd.fst v.snd.snd.snd.snd.snd.snd.snd.fst v.snd.snd.snd.snd.snd.snd.snd.snd.fst v.snd.snd.snd.snd.snd.snd.snd.snd.snd.fst v.snd.snd.snd.snd.snd.snd.snd.snd.snd.snd.fst v.snd.snd.snd.snd.snd.snd.snd.snd.snd.snd.snd) LF (0,y13)) fun y14 => cnd (aF y14.snd.snd.snd.snd.snd.snd.snd.snd.snd.snd.odd) (af (bT (fun v => gY (len y14.snd.snd.fst) v.fst v.snd.fst v.snd.snd.fst v.snd.snd.snd.fst v.snd.snd.snd.snd.fst v.snd.snd.snd.snd.snd.fst v.snd.snd.snd.snd.snd.snd.fst v.snd.snd.snd.snd.snd.snd.snd.fst v.snd.snd.snd.snd.snd.snd.snd.snd.fst v.snd.snd.snd.snd.snd.snd.snd.snd.snd.fst v.snd.snd.snd.snd.snd.snd.snd.snd.snd.snd.fst v.snd.snd.snd.snd.snd.snd.snd.snd.snd.snd.snd.fst v.snd.snd.snd.snd.snd.snd.snd.snd.snd.snd.snd.snd.fst v.snd.snd.snd.snd.snd.snd.snd.snd.snd.snd.snd.snd.snd.fst v.snd.snd.snd.snd.snd.snd.snd.snd.snd.snd.snd.snd.snd.snd.fst v.snd.snd.snd.snd.snd.snd.snd.snd.snd.snd.snd.snd.snd.snd.snd) LF (0,false,y14.fst,y14.snd.fst,PUnit.unit,PUnit.unit,PUnit.unit,PUnit.unit,y14.snd.snd.snd.snd.snd.snd.fst,y14.snd.snd.snd.snd.snd.snd.snd.fst,y14.snd.snd.snd.snd.snd.snd.snd.snd.fst,y14.snd.snd.snd.snd.snd.snd.snd.snd.snd.fst,y14.snd.snd.fst,y14.snd.snd.snd.fst,y14.snd.snd.snd.snd.fst,y14.snd.snd.snd.snd.snd.fst)) fun y15 => qQ y15 (fun y16 => af (cnd (aF (bor y14.snd.snd.snd.snd.snd.snd.snd.snd.snd.snd.odd (aF y16.fst))) (lW (ai.mk y14.fst y14.snd.fst y16.snd.snd.snd.snd.snd.snd.snd.snd.snd.snd.snd.fst y16.snd.snd.snd.snd.snd.snd.snd.snd.snd.snd.snd.snd.fst y16.snd.snd.snd.snd.snd.snd.snd.snd.snd.snd.snd.snd.snd.fst y16.snd.snd.snd.snd.snd.snd.snd.snd.snd.snd.snd.snd.snd.snd y14.snd.snd.snd.snd.snd.snd.fst y14.snd.snd.snd.snd.snd.snd.snd.fst y14.snd.snd.snd.snd.snd.snd.snd.snd.fst y14.snd.snd.snd.snd.snd.snd.snd.snd.snd.fst)) (some false)) fun y17 => cnd (bor (bor y14.snd.snd.snd.snd.snd.snd.snd.snd.snd.snd.odd (aF y16.fst)) (aF y17)) (some (ai.mk 0 0 [] [] [] [] false 0 0 0,2)) (some (ai.mk y14.fst y14.snd.fst y16.snd.snd.snd.snd.snd.snd.snd.snd.snd.snd.snd.fst y16.snd.snd.snd.snd.snd.snd.snd.snd.snd.snd.snd.snd.fst y16.snd.snd.snd.snd.snd.snd.snd.snd.snd.snd.snd.snd.snd.fst y16.snd.snd.snd.snd.snd.snd.snd.snd.snd.snd.snd.snd.snd.snd y14.snd.snd.snd.snd.snd.snd.fst y14.snd.snd.snd.snd.snd.snd.snd.fst y14.snd.snd.snd.snd.snd.snd.snd.snd.fst y14.snd.snd.snd.snd.snd.snd.snd.snd.snd.fst,0))) fun y16 => af (cnd (aF (bor y14.snd.snd.snd.snd.snd.snd.snd.snd.snd.snd.odd false)) (lW (ai.mk y14.fst y14.snd.fst y16.snd.snd.snd.snd.snd.snd.snd.snd.snd.snd.snd.fst y16.snd.snd.snd.snd.snd.snd.snd.snd.snd.snd.snd.snd.fst y16.snd.snd.snd.snd.snd.snd.snd.snd.snd.snd.snd.snd.snd.fst y16.snd.snd.snd.snd.snd.snd.snd.snd.snd.snd.snd.snd.snd.snd y14.snd.snd.snd.snd.snd.snd.fst y14.snd.snd.snd.snd.snd.snd.snd.fst y14.snd.snd.snd.snd.snd.snd.snd.snd.fst y14.snd.snd.snd.snd.snd.snd.snd.snd.snd.fst)) (some false)) fun y18 => cnd (bor (bor y14.snd.snd.snd.snd.snd.snd.snd.snd.snd.snd.odd false) (aF y18)) (some (ai.mk 0 0 [] [] [] [] false 0 0 0,2)) (some (ai.mk y14.fst y14.snd.fst y16.snd.snd.snd.snd.snd.snd.snd.snd.snd.snd.snd.fst y16.snd.snd.snd.snd.snd.snd.snd.snd.snd.snd.snd.snd.fst y16.snd.snd.snd.snd.snd.snd.snd.snd.snd.snd.snd.snd.snd.fst y16.snd.snd.snd.snd.snd.snd.snd.snd.snd.snd.snd.snd.snd.snd y14.snd.snd.snd.snd.snd.snd.fst y14.snd.snd.snd.snd.snd.snd.snd.fst y14.snd.snd.snd.snd.snd.snd.snd.snd.fst y14.snd.snd.snd.snd.snd.snd.snd.snd.snd.fst,0))) (af (cnd (aF (bor y14.snd.snd.snd.snd.snd.snd.snd.snd.snd.snd.odd true)) (lW (ai.mk y14.fst y14.snd.fst y14.snd.snd.fst y14.snd.snd.snd.fst y14.snd.snd.snd.snd.fst y14.snd.snd.snd.snd.snd.fst y14.snd.snd.snd.snd.snd.snd.fst y14.snd.snd.snd.snd.snd.snd.snd.fst y14.snd.snd.snd.snd.snd.snd.snd.snd.fst y14.snd.snd.snd.snd.snd.snd.snd.snd.snd.fst)) (some false)) fun y19 => cnd (bor (bor y14.snd.snd.snd.snd.snd.snd.snd.snd.snd.snd.odd true) (aF y19)) (some (ai.mk 0 0 [] [] [] [] false 0 0 0,2)) (some (ai.mk y14.fst y14.snd.fst y14.snd.snd.fst y14.snd.snd.snd.fst y14.snd.snd.snd.snd.fst y14.snd.snd.snd.snd.snd.fst y14.snd.snd.snd.snd.snd.snd.fst y14.snd.snd.snd.snd.snd.snd.snd.fst y14.snd.snd.snd.snd.snd.snd.snd.snd.fst y14.snd.snd.snd.snd.snd.snd.snd.snd.snd.fst,0)))) none) none) none) none) none)) none) none) none)) none
noncomputable def rF:Cx:={ P:=PG,ety:=ety,fn:=look [(109,zn),(71,CO),(166,kG),(167,oG),(168,kJ),(169,wP),(170,Fj),(138,qA),(18,lm)],inl:=fO [110,111],lp:=bg [(47,1018,Hq),(201864077422,250,nN),(201864077422,1018,ng),(201864077422,2042,ny),(201864077422,4090,mX),(201865773167,26,uw)] }
theorem OU (p0:Int) (p1:(List Int)) (p2:Int) (v0:Int) (v1:Int) (v2:ai):kD rF 900 47 1018 (iq PG 47 1018) Jg JA (p0,p1,p2) (v0,v1,v2)=oP p0 p1 p2 v0 v1 v2:=by kernel_rfl
theorem vM (p0:Int) (v0:Int) (v1:Int) (v2:Int) (v3:(List aA)) (v4:(List aK)) (v5:(List dD)) (v6:(List Int)) (v7:Bool) (v8:Int) (v9:Int) (v10:Int) (v11:fJ):kD rF 900 201864077422 250 (iq PG 110 250) oq oI p0 (v0,v1,v2,v3,v4,v5,v6,v7,v8,v9,v10,v11)=dY p0 v0 v1 v2 v3 v4 v5 v6 v7 v8 v9 v10 v11:=by kernel_rfl
theorem ve (p0:Int) (v0:Int) (v1:Int) (v2:Int) (v3:(List aA)) (v4:(List aK)) (v5:(List dD)) (v6:(List Int)) (v7:Bool) (v8:Int) (v9:Int) (v10:Int) (v11:fJ):kD rF 900 201864077422 1018 (iq PG 110 1018) nS nO p0 (v0,v1,v2,v3,v4,v5,v6,v7,v8,v9,v10,v11)=dQ p0 v0 v1 v2 v3 v4 v5 v6 v7 v8 v9 v10 v11:=by kernel_rfl
theorem vI (p0:Int) (v0:Int) (v1:Int) (v2:Int) (v3:(List aA)) (v4:(List aK)) (v5:(List dD)) (v6:(List Int)) (v7:Bool) (v8:Int) (v9:Int) (v10:Int) (v11:fJ):kD rF 900 201864077422 2042 (iq PG 110 2042) nP nJ p0 (v0,v1,v2,v3,v4,v5,v6,v7,v8,v9,v10,v11)=dS p0 v0 v1 v2 v3 v4 v5 v6 v7 v8 v9 v10 v11:=by kernel_rfl
theorem vG (p0:Int) (v0:Int) (v1:Int) (v2:Int) (v3:(List aA)) (v4:(List aK)) (v5:(List dD)) (v6:(List Int)) (v7:Bool) (v8:Int) (v9:Int) (v10:Int) (v11:fJ):kD rF 900 201864077422 4090 (iq PG 110 4090) nM nK p0 (v0,v1,v2,v3,v4,v5,v6,v7,v8,v9,v10,v11)=dR p0 v0 v1 v2 v3 v4 v5 v6 v7 v8 v9 v10 v11:=by kernel_rfl
theorem Bz (p0:Int) (v0:Int) (v1:Bool) (v2:Int) (v3:Int) (v4:Unit) (v5:Unit) (v6:Unit) (v7:Unit) (v8:Bool) (v9:Int) (v10:Int) (v11:Int) (v12:(List aA)) (v13:(List aK)) (v14:(List dD)) (v15:(List Int)):kD rF 900 201865773167 26 (iq PG 111 26) uG uz p0 (v0,v1,v2,v3,v4,v5,v6,v7,v8,v9,v10,v11,v12,v13,v14,v15)=gY p0 v0 v1 v2 v3 v4 v5 v6 v7 v8 v9 v10 v11 v12 v13 v14 v15:=by kernel_rfl
theorem XZ (x0:(List Int)):cO rF 47 [.ro .u8] [.val .state,.int .i64] x0=su x0:=by kernel_rfl
def EX:aV:=mkSpec [.ro .u8] [.val .state,.int .i64] false (fun x=>su x)
theorem aa9:dW PG 47 EX:=
 have K:CxR rF:=aZ.cx (fun _=>rfl) (l:=[(109,zn),(71,CO),(166,kG),(167,oG),(168,kJ),(169,wP),(170,Fj),(138,qA),(18,lm)]) ⟨WR,ZG,BU,GL,BA,QB,aaK,LH,Ec,trivial⟩
 aO K (aJ (l:=[(47,1018,Hq),(201864077422,250,nN),(201864077422,1018,ng),(201864077422,2042,ny),(201864077422,4090,mX),(201865773167,26,uw)]) rfl ⟨dU (n:=900) (f:=47) K (by kernel_rfl) (by kernel_rfl) (by kernel_rfl) (by kernel_rfl) (by kernel_rfl) (fun p v r h=>(OU p.1 p.2.1 p.2.2 v.1 v.2.1 v.2.2).trans h),
  dU (n:=900) (f:=110) K (by kernel_rfl) (by kernel_rfl) (by kernel_rfl) (by kernel_rfl) (by kernel_rfl) (fun p v r h=>(vM p v.1 v.2.1 v.2.2.1 v.2.2.2.1 v.2.2.2.2.1 v.2.2.2.2.2.1 v.2.2.2.2.2.2.1 v.2.2.2.2.2.2.2.1 v.2.2.2.2.2.2.2.2.1 v.2.2.2.2.2.2.2.2.2.1 v.2.2.2.2.2.2.2.2.2.2.1 v.2.2.2.2.2.2.2.2.2.2.2).trans h),
  dU (n:=900) (f:=110) K (by kernel_rfl) (by kernel_rfl) (by kernel_rfl) (by kernel_rfl) (by kernel_rfl) (fun p v r h=>(ve p v.1 v.2.1 v.2.2.1 v.2.2.2.1 v.2.2.2.2.1 v.2.2.2.2.2.1 v.2.2.2.2.2.2.1 v.2.2.2.2.2.2.2.1 v.2.2.2.2.2.2.2.2.1 v.2.2.2.2.2.2.2.2.2.1 v.2.2.2.2.2.2.2.2.2.2.1 v.2.2.2.2.2.2.2.2.2.2.2).trans h),
  dU (n:=900) (f:=110) K (by kernel_rfl) (by kernel_rfl) (by kernel_rfl) (by kernel_rfl) (by kernel_rfl) (fun p v r h=>(vI p v.1 v.2.1 v.2.2.1 v.2.2.2.1 v.2.2.2.2.1 v.2.2.2.2.2.1 v.2.2.2.2.2.2.1 v.2.2.2.2.2.2.2.1 v.2.2.2.2.2.2.2.2.1 v.2.2.2.2.2.2.2.2.2.1 v.2.2.2.2.2.2.2.2.2.2.1 v.2.2.2.2.2.2.2.2.2.2.2).trans h),
  dU (n:=900) (f:=110) K (by kernel_rfl) (by kernel_rfl) (by kernel_rfl) (by kernel_rfl) (by kernel_rfl) (fun p v r h=>(vG p v.1 v.2.1 v.2.2.1 v.2.2.2.1 v.2.2.2.2.1 v.2.2.2.2.2.1 v.2.2.2.2.2.2.1 v.2.2.2.2.2.2.2.1 v.2.2.2.2.2.2.2.2.1 v.2.2.2.2.2.2.2.2.2.1 v.2.2.2.2.2.2.2.2.2.2.1 v.2.2.2.2.2.2.2.2.2.2.2).trans h),
  dU (n:=900) (f:=111) K (by kernel_rfl) (by kernel_rfl) (by kernel_rfl) (by kernel_rfl) (by kernel_rfl) (fun p v r h=>(Bz p v.1 v.2.1 v.2.2.1 v.2.2.2.1 v.2.2.2.2.1 v.2.2.2.2.2.1 v.2.2.2.2.2.2.1 v.2.2.2.2.2.2.2.1 v.2.2.2.2.2.2.2.2.1 v.2.2.2.2.2.2.2.2.2.1 v.2.2.2.2.2.2.2.2.2.2.1 v.2.2.2.2.2.2.2.2.2.2.2.1 v.2.2.2.2.2.2.2.2.2.2.2.2.1 v.2.2.2.2.2.2.2.2.2.2.2.2.2.1 v.2.2.2.2.2.2.2.2.2.2.2.2.2.2.1 v.2.2.2.2.2.2.2.2.2.2.2.2.2.2.2).trans h),trivial⟩) (by kernel_rfl) (fun x y h=>(XZ x).trans h) rfl rfl
def pK (x0:ak):Option (ai×Int×Int):=af (sH x0) fun y0 => cnd (aF (ieq y0.snd 0)) (some (ai.mk 0 0 [] [] [] [] false 0 0 0,0,y0.snd)) (af (dZ y0.fst.gen) fun y1 => af (kM x0 y1) fun y2 => cnd (ieq y2.snd 0) (af (su y2.fst) fun y3 => cnd (band (ieq y3.snd 0) (ieq y3.fst.lsn y0.fst.lsn)) (some (y3.fst,y0.fst.gen,0)) (some (ai.mk 0 0 [] [] [] [] false 0 0 0,0,2))) (some (ai.mk 0 0 [] [] [] [] false 0 0 0,0,2)))
noncomputable def Ti:Cx:={ P:=PG,ety:=ety,fn:=look [(25,qy),(17,o6),(21,lU),(47,EX)],inl:=fO [],lp:=bg [] }
theorem X3 (x0:ak):cO Ti 13 [.val .disk] [.val .state,.int .i64,.int .i64] x0=pK x0:=by kernel_rfl
def vJ:aV:=mkSpec [.val .disk] [.val .state,.int .i64,.int .i64] false (fun x=>pK x)
theorem Rj:dW PG 13 vJ:=
 have K:CxR Ti:=aZ.cx (fun _=>rfl) (l:=[(25,qy),(17,o6),(21,lU),(47,EX)]) ⟨MR,Eb,FU,aa9,trivial⟩
 aO K (aJ (l:=[]) rfl trivial) (by kernel_rfl) (fun x y h=>(X3 x).trans h) rfl rfl
def Ad (x0:ai):Option (Int):=af (lW x0) fun y0 => cnd (aF y0) (some 0) (af (Dz x0.accounts x0.symbols (len x0.orders)) fun y1 => some y1)
noncomputable def aaH:Cx:={ P:=PG,ety:=ety,fn:=look [(18,lm),(109,zn)],inl:=fO [],lp:=bg [] }
theorem aaP (x0:ai):cO aaH 67 [.val .state] [.int .i64] x0=Ad x0:=by kernel_rfl
def JF:aV:=mkSpec [.val .state] [.int .i64] true (fun x=>Ad x)
theorem aeZ:dW PG 67 JF:=
 have K:CxR aaH:=aZ.cx (fun _=>rfl) (l:=[(18,lm),(109,zn)]) ⟨Ec,WR,trivial⟩
 aO K (aJ (l:=[]) rfl trivial) (by kernel_rfl) (fun x y h=>(aaP x).trans h) rfl rfl
def KP (x0:Bool):Option (Int):=cnd x0 (some 1) (some 0)
noncomputable def abr:Cx:={ P:=PG,ety:=ety,fn:=look [],inl:=fO [],lp:=bg [] }
theorem adE (x0:Bool):cO abr 69 [.bool] [.int .i64] x0=KP x0:=by kernel_rfl
def Me:aV:=mkSpec [.bool] [.int .i64] true (fun x=>KP x)
theorem agl:dW PG 69 Me:=
 have K:CxR abr:=aZ.cx (fun _=>rfl) (l:=[]) trivial
 aO K (aJ (l:=[]) rfl trivial) (by kernel_rfl) (fun x y h=>(adE x).trans h) rfl rfl
def IK:LSh:=⟨144,[(8,.int .i64)],[],[],[(9,.int .i64),(0,.buf .u8)],[],[]⟩
@[reducible] def Hl:List jb:=[⟨.exit 2,[(0,.buf .u8)],[],[]⟩]
def nD (p0:Int) (v0:Int) (v1:(List Int)):Option ((Int×(List Int)) ⊕ (((List Int)))):=cnd (ile 0 v0) (cnd (ile 0 (wr .i64 (jq 8 v0))) (cnd (ile (len (jc v1 [wr .u8 (dG .i64 p0 (wr .i64 (jq 8 v0)))])) 68719476736) (some (Sum.inl (wr .i64 (aG v0 1),jc v1 [wr .u8 (dG .i64 p0 (wr .i64 (jq 8 v0)))]))) none) none) (some (Sum.inr v1))
def FP:iO:=IK.spec Hl [18,19,22,23,24,25,26,27,28,29,0,20,21,9] (fun p v=>nD p v.1 v.2)
def J6:LSh:=⟨71,[(11,.int .i64),(10,.ro .i64),(1,.int .i64)],[],[],[(12,.int .i64),(0,.buf .u8)],[],[]⟩
@[reducible] def J8:List jb:=[⟨.exit 0,[(0,.buf .u8)],[],[]⟩]
def uh (p0:Int) (p1:(List Int)) (p2:Int) (v0:Int) (v1:(List Int)):Option ((Int×(List Int)) ⊕ (((List Int)))):=cnd (ilt v0 p0) (cnd (band (ile 0 v0) (ilt v0 (len p1))) (af (bT (fun v => nD (ah p1 (itn v0)) v.fst v.snd) LF (wr .i64 (aG p2 1),v1)) fun y0 => some (Sum.inl (wr .i64 (ax v0 1),y0))) none) (some (Sum.inr v1))
def Jd:iO:=J6.spec J8 [13,14,15,8,16,17,9,18,19,22,23,24,25,26,27,28,29,0,20,21,30,12] (fun p v=>uh p.1 p.2.1 p.2.2 v.1 v.2)
def qi (x0:(List Int)) (x1:Int) (x2:(List Int)):Option ((List Int)):=af (bT (fun v => uh (len x2) x2 x1 v.fst v.snd) LF (0,x0)) fun y0 => some y0
noncomputable def Ef:Cx:={ P:=PG,ety:=ety,fn:=look [],inl:=fO [],lp:=bg [(68,6758,FP),(68,26,Jd)] }
theorem N8 (p0:Int) (v0:Int) (v1:(List Int)):kD Ef 900 68 6758 (iq PG 68 6758) IK Hl p0 (v0,v1)=nD p0 v0 v1:=by kernel_rfl
theorem Qy (p0:Int) (p1:(List Int)) (p2:Int) (v0:Int) (v1:(List Int)):kD Ef 900 68 26 (iq PG 68 26) J6 J8 (p0,p1,p2) (v0,v1)=uh p0 p1 p2 v0 v1:=by kernel_rfl
theorem Wj (x0:(List Int)) (x1:Int) (x2:(List Int)):cO Ef 68 [.buf .u8,.int .i64,.ro .i64] [.buf .u8] (x0,x1,x2)=qi x0 x1 x2:=by kernel_rfl
def D6:aV:=mkSpec [.buf .u8,.int .i64,.ro .i64] [.buf .u8] true (fun x=>qi x.1 x.2.1 x.2.2)
theorem aaI:dW PG 68 D6:=
 have K:CxR Ef:=aZ.cx (fun _=>rfl) (l:=[]) trivial
 aO K (aJ (l:=[(68,6758,FP),(68,26,Jd)]) rfl ⟨dU (n:=900) (f:=68) K (by kernel_rfl) (by kernel_rfl) (by kernel_rfl) (by kernel_rfl) (by kernel_rfl) (fun p v r h=>(N8 p v.1 v.2).trans h),
  dU (n:=900) (f:=68) K (by kernel_rfl) (by kernel_rfl) (by kernel_rfl) (by kernel_rfl) (by kernel_rfl) (fun p v r h=>(Qy p.1 p.2.1 p.2.2 v.1 v.2).trans h),trivial⟩) (by kernel_rfl) (fun x y h=>(Wj x.1 x.2.1 x.2.2).trans h) rfl rfl
def EO:LSh:=⟨144,[(8,.int .i64)],[],[],[(9,.int .i64),(0,.buf .u8)],[],[]⟩
@[reducible] def Es:List jb:=[⟨.exit 2,[(0,.buf .u8)],[],[]⟩]
def yg (p0:Int) (v0:Int) (v1:(List Int)):Option ((Int×(List Int)) ⊕ (((List Int)))):=cnd (ile 0 v0) (cnd (ile 0 (wr .i64 (jq 8 v0))) (cnd (ile (len (jc v1 [wr .u8 (dG .i64 p0 (wr .i64 (jq 8 v0)))])) 68719476736) (some (Sum.inl (wr .i64 (aG v0 1),jc v1 [wr .u8 (dG .i64 p0 (wr .i64 (jq 8 v0)))]))) none) none) (some (Sum.inr v1))
def CW:iO:=EO.spec Es [18,19,22,23,24,25,26,27,28,29,0,20,21,9] (fun p v=>yg p v.1 v.2)
def Ig:LSh:=⟨71,[(11,.int .i64),(10,.ro .i64),(1,.int .i64)],[],[],[(12,.int .i64),(0,.buf .u8)],[],[]⟩
@[reducible] def Ib:List jb:=[⟨.exit 0,[(0,.buf .u8)],[],[]⟩]
def zV (p0:Int) (p1:(List Int)) (p2:Int) (v0:Int) (v1:(List Int)):Option ((Int×(List Int)) ⊕ (((List Int)))):=cnd (ilt v0 p0) (cnd (band (ile 0 v0) (ilt v0 (len p1))) (af (bT (fun v => yg (ah p1 (itn v0)) v.fst v.snd) LF (wr .i64 (aG p2 1),v1)) fun y0 => some (Sum.inl (wr .i64 (ax v0 1),y0))) none) (some (Sum.inr v1))
def FI:iO:=Ig.spec Ib [13,14,15,8,16,17,9,18,19,22,23,24,25,26,27,28,29,0,20,21,30,12] (fun p v=>zV p.1 p.2.1 p.2.2 v.1 v.2)
def jS (x0:(List Int)) (x1:Int) (x2:(List Int)):Option ((List Int)):=af (bT (fun v => zV (len x2) x2 x1 v.fst v.snd) LF (0,x0)) fun y0 => some y0
noncomputable def zO:Cx:={ P:=PG,ety:=ety,fn:=look [],inl:=fO [],lp:=bg [(70,6758,CW),(70,26,FI)] }
theorem KT (p0:Int) (v0:Int) (v1:(List Int)):kD zO 900 70 6758 (iq PG 70 6758) EO Es p0 (v0,v1)=yg p0 v0 v1:=by kernel_rfl
theorem NU (p0:Int) (p1:(List Int)) (p2:Int) (v0:Int) (v1:(List Int)):kD zO 900 70 26 (iq PG 70 26) Ig Ib (p0,p1,p2) (v0,v1)=zV p0 p1 p2 v0 v1:=by kernel_rfl
theorem Sz (x0:(List Int)) (x1:Int) (x2:(List Int)):cO zO 70 [.buf .u8,.int .i64,.ro .i64] [.buf .u8] (x0,x1,x2)=jS x0 x1 x2:=by kernel_rfl
def zZ:aV:=mkSpec [.buf .u8,.int .i64,.ro .i64] [.buf .u8] true (fun x=>jS x.1 x.2.1 x.2.2)
theorem U7:dW PG 70 zZ:=
 have K:CxR zO:=aZ.cx (fun _=>rfl) (l:=[]) trivial
 aO K (aJ (l:=[(70,6758,CW),(70,26,FI)]) rfl ⟨dU (n:=900) (f:=70) K (by kernel_rfl) (by kernel_rfl) (by kernel_rfl) (by kernel_rfl) (by kernel_rfl) (fun p v r h=>(KT p v.1 v.2).trans h),
  dU (n:=900) (f:=70) K (by kernel_rfl) (by kernel_rfl) (by kernel_rfl) (by kernel_rfl) (by kernel_rfl) (fun p v r h=>(NU p.1 p.2.1 p.2.2 v.1 v.2).trans h),trivial⟩) (by kernel_rfl) (fun x y h=>(Sz x.1 x.2.1 x.2.2).trans h) rfl rfl
def IZ:LSh:=⟨105,[(45,.int .i64),(44,.ro .order)],[],[],[(46,.int .i64),(5,.buf .u8)],[],[]⟩
@[reducible] def Ji:List jb:=[⟨.exit 0,[(5,.buf .u8)],[],[]⟩]
def sD (p0:Int) (p1:(List aA)) (v0:Int) (v1:(List Int)):Option ((Int×(List Int)) ⊕ (((List Int)))):=cnd (ilt v0 p0) (cnd (band (ile 0 v0) (ilt v0 (len p1))) (af (jS v1 8 [(ah p1 (itn v0)).id]) fun y0 => af (qi y0 1 [(ah p1 (itn v0)).account,(ah p1 (itn v0)).symbol,(ah p1 (itn v0)).side,(ah p1 (itn v0)).phase]) fun y1 => af (jS y1 8 [(ah p1 (itn v0)).qty,(ah p1 (itn v0)).price,(ah p1 (itn v0)).filled,(ah p1 (itn v0)).newQty,(ah p1 (itn v0)).newPrice,(ah p1 (itn v0)).version]) fun y2 => af (KP (ah p1 (itn v0)).asked) fun y3 => af (qi y2 1 [y3]) fun y4 => some (Sum.inl (wr .i64 (ax v0 1),y4))) none) (some (Sum.inr v1))
def Hz:iO:=IZ.spec Ji [47,48,49,7,50,51,52,53,54,5,55,56,57,58,59,60,61,62,63,64,65,66,67,68,69,70,71,72,73,74,75,76,77,78,79,80,81,82,83,84,85,86,87,46] (fun p v=>sD p.1 p.2 v.1 v.2)
def Jq:LSh:=⟨176,[(90,.int .i64),(89,.ro .cell)],[],[],[(91,.int .i64),(5,.buf .u8)],[],[]⟩
@[reducible] def Jh:List jb:=[⟨.exit 2,[(5,.buf .u8)],[],[]⟩]
def rJ (p0:Int) (p1:(List aK)) (v0:Int) (v1:(List Int)):Option ((Int×(List Int)) ⊕ (((List Int)))):=cnd (ilt v0 p0) (cnd (band (ile 0 v0) (ilt v0 (len p1))) (af (jS v1 8 [(ah p1 (itn v0)).pos]) fun y0 => some (Sum.inl (wr .i64 (ax v0 1),y0))) none) (some (Sum.inr v1))
def IA:iO:=Jq.spec Jh [92,93,94,9,95,96,97,98,99,5,100,91] (fun p v=>rJ p.1 p.2 v.1 v.2)
def I8:LSh:=⟨247,[(103,.int .i64),(102,.ro .expo)],[],[],[(104,.int .i64),(5,.buf .u8)],[],[]⟩
@[reducible] def Ja:List jb:=[⟨.exit 4,[(5,.buf .u8)],[],[]⟩]
def rH (p0:Int) (p1:(List dD)) (v0:Int) (v1:(List Int)):Option ((Int×(List Int)) ⊕ (((List Int)))):=cnd (ilt v0 p0) (cnd (band (ile 0 v0) (ilt v0 (len p1))) (af (jS v1 8 [(ah p1 (itn v0)).long,(ah p1 (itn v0)).short,(ah p1 (itn v0)).opn]) fun y0 => some (Sum.inl (wr .i64 (ax v0 1),y0))) none) (some (Sum.inr v1))
def Ie:iO:=I8.spec Ja [105,106,107,11,108,109,110,111,112,113,114,115,116,5,117,104] (fun p v=>rH p.1 p.2 v.1 v.2)
def Gw:LSh:=⟨323,[(12,.int .u32)],[],[],[(124,.int .i64),(5,.buf .u8)],[],[]⟩
@[reducible] def GR:List jb:=[⟨.exit 6,[(5,.buf .u8)],[],[]⟩]
def qG (p0:Int) (v0:Int) (v1:(List Int)):Option ((Int×(List Int)) ⊕ (((List Int)))):=cnd (ilt v0 4) (cnd (ile 0 (wr .i64 (jq 8 v0))) (cnd (ile (len (jc v1 [wr .u8 (dG .u32 p0 (wr .i64 (jq 8 v0)))])) 68719476736) (some (Sum.inl (wr .i64 (ax v0 1),jc v1 [wr .u8 (dG .u32 p0 (wr .i64 (jq 8 v0)))]))) none) none) (some (Sum.inr v1))
def Fz:iO:=Gw.spec GR [125,126,13,127,128,129,130,131,132,133,134,5,135,124] (fun p v=>qG p v.1 v.2)
def rD (x0:ai):Option ((List Int)×Int):=af (Ad x0) fun y0 => cnd (ieq y0 0) (some ([],1)) (cnd (band (ile 0 y0) (ile y0 68719476736)) (af (KP x0.kill) fun y1 => af (qi (jc (iQ Int 0) (s2u [(UInt8.ofNat 115),(UInt8.ofNat 110),(UInt8.ofNat 97),(UInt8.ofNat 102)])) 1 [x0.accounts,x0.symbols,y1,len x0.orders]) fun y2 => af (jS y2 8 [x0.last,x0.seq,x0.lsn]) fun y3 => af (bT (fun v => sD (len x0.orders) x0.orders v.fst v.snd) LF (0,y3)) fun y4 => af (bT (fun v => rJ (len x0.cells) x0.cells v.fst v.snd) LF (0,y4)) fun y5 => af (bT (fun v => rH (len x0.limits) x0.limits v.fst v.snd) LF (0,y5)) fun y6 => af (jS y6 8 x0.caps) fun y7 => af (Gl y7) fun y8 => af (bT (fun v => qG y8 v.fst v.snd) LF (0,y7)) fun y9 => some (y9,0)) none)
noncomputable def yC:Cx:={ P:=PG,ety:=ety,fn:=look [(67,JF),(69,Me),(68,D6),(70,zZ),(71,CO)],inl:=fO [],lp:=bg [(24,1018,Hz),(24,2042,IA),(24,4090,Ie),(24,32762,Fz)] }
theorem PD (p0:Int) (p1:(List aA)) (v0:Int) (v1:(List Int)):kD yC 900 24 1018 (iq PG 24 1018) IZ Ji (p0,p1) (v0,v1)=sD p0 p1 v0 v1:=by kernel_rfl
theorem Oq (p0:Int) (p1:(List aK)) (v0:Int) (v1:(List Int)):kD yC 900 24 2042 (iq PG 24 2042) Jq Jh (p0,p1) (v0,v1)=rJ p0 p1 v0 v1:=by kernel_rfl
theorem Oh (p0:Int) (p1:(List dD)) (v0:Int) (v1:(List Int)):kD yC 900 24 4090 (iq PG 24 4090) I8 Ja (p0,p1) (v0,v1)=rH p0 p1 v0 v1:=by kernel_rfl
theorem NV (p0:Int) (v0:Int) (v1:(List Int)):kD yC 900 24 32762 (iq PG 24 32762) Gw GR p0 (v0,v1)=qG p0 v0 v1:=by kernel_rfl
theorem XK (x0:ai):cO yC 24 [.val .state] [.buf .u8,.int .i64] x0=rD x0:=by kernel_rfl
def Fe:aV:=mkSpec [.val .state] [.buf .u8,.int .i64] true (fun x=>rD x)
theorem aaR:dW PG 24 Fe:=
 have K:CxR yC:=aZ.cx (fun _=>rfl) (l:=[(67,JF),(69,Me),(68,D6),(70,zZ),(71,CO)]) ⟨aeZ,agl,aaI,U7,ZG,trivial⟩
 aO K (aJ (l:=[(24,1018,Hz),(24,2042,IA),(24,4090,Ie),(24,32762,Fz)]) rfl ⟨dU (n:=900) (f:=24) K (by kernel_rfl) (by kernel_rfl) (by kernel_rfl) (by kernel_rfl) (by kernel_rfl) (fun p v r h=>(PD p.1 p.2 v.1 v.2).trans h),
  dU (n:=900) (f:=24) K (by kernel_rfl) (by kernel_rfl) (by kernel_rfl) (by kernel_rfl) (by kernel_rfl) (fun p v r h=>(Oq p.1 p.2 v.1 v.2).trans h),
  dU (n:=900) (f:=24) K (by kernel_rfl) (by kernel_rfl) (by kernel_rfl) (by kernel_rfl) (by kernel_rfl) (fun p v r h=>(Oh p.1 p.2 v.1 v.2).trans h),
  dU (n:=900) (f:=24) K (by kernel_rfl) (by kernel_rfl) (by kernel_rfl) (by kernel_rfl) (by kernel_rfl) (fun p v r h=>(NV p v.1 v.2).trans h),trivial⟩) (by kernel_rfl) (fun x y h=>(XK x).trans h) rfl rfl
def aN (x0:(List ay)):Option ((List ay)):=UY (len x0) fun y0 => cnd (beq y0 true) (some []) (cnd (ile (len x0) 68719476736) (some x0) none)
noncomputable def Az:Cx:={ P:=PG,ety:=ety,fn:=look [],inl:=fO [],lp:=bg [] }
theorem Gx (x0:(List ay)):cO Az 53 [.ro .file] [.buf .file] x0=aN x0:=by kernel_rfl
def bV:aV:=mkSpec [.ro .file] [.buf .file] false (fun x=>aN x)
theorem jy:dW PG 53 bV:=
 have K:CxR Az:=aZ.cx (fun _=>rfl) (l:=[]) trivial
 aO K (aJ (l:=[]) rfl trivial) (by kernel_rfl) (fun x y h=>(Gx x).trans h) rfl rfl
def dJ (x0:(List ay)) (x1:Int) (x2:Int):Option ((List ay)):=cnd (band (band (band (ile 0 x1) (ile x1 x2)) (ile x2 (len x0))) (band (ile x2 (len x0)) (ile (len x0) (len x0)))) (cnd (ieq x1 x2) (some x0) (cnd (band (ile 0 x1) (ile x1 (len x0))) (cnd (band (ile 0 x2) (ile x2 (len x0))) (cnd (ile (ax (nti (itn x1)) (len (aC (aH x0 (itn x2)) (itn (aG (len x0) x2))))) (len x0)) (cnd (band (band (ile 0 (nti (nad (itn x1) (itn (len (aC (aH x0 (itn x2)) (itn (aG (len x0) x2)))))))) (ile (nti (nad (itn x1) (itn (len (aC (aH x0 (itn x2)) (itn (aG (len x0) x2))))))) (len x0))) (ile (len x0) (aG (len (eu x0 (itn x1) (aC (aH x0 (itn x2)) (itn (aG (len x0) x2))))) 0))) (some (aC (aH (eu (eu x0 (itn x1) (aC (aH x0 (itn x2)) (itn (aG (len x0) x2)))) (nad 0 (itn (nti (nad (itn x1) (itn (len (aC (aH x0 (itn x2)) (itn (aG (len x0) x2))))))))) (iQ ay (itn (aG (len x0) (nti (nad (itn x1) (itn (len (aC (aH x0 (itn x2)) (itn (aG (len x0) x2))))))))))) 0) (nad (itn x1) (itn (len (aC (aH x0 (itn x2)) (itn (aG (len x0) x2)))))))) none) none) none) none)) none
noncomputable def yX:Cx:={ P:=PG,ety:=ety,fn:=look [],inl:=fO [],lp:=bg [] }
theorem Gg (x0:(List ay)) (x1:Int) (x2:Int):cO yX 82 [.buf .file,.int .i64,.int .i64] [.ro .file] (x0,x1,x2)=dJ x0 x1 x2:=by kernel_rfl
def pX:aV:=mkSpec [.buf .file,.int .i64,.int .i64] [.ro .file] false (fun x=>dJ x.1 x.2.1 x.2.2)
theorem IQ:dW PG 82 pX:=
 have K:CxR yX:=aZ.cx (fun _=>rfl) (l:=[]) trivial
 aO K (aJ (l:=[]) rfl trivial) (by kernel_rfl) (fun x y h=>(Gg x.1 x.2.1 x.2.2).trans h) rfl rfl
def qf (x0:ak) (x1:(List UInt8)):Option (ak×Int):=af (iU x0 [x1]) fun y0 => cnd (aF (ieq y0 0)) (cnd (aF (ieq y0 0)) (some (x0,y0)) (cnd (ieq x0.fuse 0) (some (ak.mk x0.files x0.room x0.fuse true,9)) (cnd (ieq x0.fuse (-1)) (af (aN x0.files) fun y1 => af (dJ y1 0 1) fun y2 => some (ak.mk y2 x0.room x0.fuse x0.down,0)) (af (aN x0.files) fun y3 => af (dJ y3 0 1) fun y4 => some (ak.mk y4 x0.room (wr .i64 (aG x0.fuse 1)) x0.down,0))))) (af (dL x0 x1) fun y5 => cnd (aF y5.snd) (some (x0,7)) (cnd (ieq x0.fuse 0) (some (ak.mk x0.files x0.room x0.fuse true,9)) (cnd (ieq x0.fuse (-1)) (af (aN x0.files) fun y6 => af (dJ y6 y5.fst (wr .i64 (ax y5.fst 1))) fun y7 => some (ak.mk y7 x0.room x0.fuse x0.down,0)) (af (aN x0.files) fun y8 => af (dJ y8 y5.fst (wr .i64 (ax y5.fst 1))) fun y9 => some (ak.mk y9 x0.room (wr .i64 (aG x0.fuse 1)) x0.down,0)))))
noncomputable def QK:Cx:={ P:=PG,ety:=ety,fn:=look [(76,iC),(77,ja),(53,bV),(82,pX)],inl:=fO [55,81],lp:=bg [] }
theorem Ve (x0:ak) (x1:(List UInt8)):cO QK 75 [.val .disk,.str] [.val .disk,.int .i64] (x0,x1)=qf x0 x1:=by kernel_rfl
def Dk:aV:=mkSpec [.val .disk,.str] [.val .disk,.int .i64] false (fun x=>qf x.1 x.2)
theorem ZE:dW PG 75 Dk:=
 have K:CxR QK:=aZ.cx (fun _=>rfl) (l:=[(76,iC),(77,ja),(53,bV),(82,pX)]) ⟨wK,yH,jy,IQ,trivial⟩
 aO K (aJ (l:=[]) rfl trivial) (by kernel_rfl) (fun x y h=>(Ve x.1 x.2).trans h) rfl rfl
def O4:LSh:=⟨72,[(8,.int .i64),(7,.ro .file)],[],[],[(9,.int .i64),(3,.int .i64)],[],[]⟩
@[reducible] def OT:List jb:=[⟨.exit 0,[(3,.int .i64)],[],[]⟩]
def um (p0:Int) (p1:(List ay)) (v0:Int) (v1:Int):Option ((Int×Int) ⊕ ((Int))):=cnd (ilt v0 p0) (cnd (band (ile 0 v0) (ilt v0 (len p1))) (some (Sum.inl (wr .i64 (ax v0 1),wr .i64 (ax v1 (len (ah p1 (itn v0)).data))))) none) (some (Sum.inr v1))
def Nv:iO:=O4.spec OT [10,11,12,5,13,14,15,16,17,3,18,9] (fun p v=>um p.1 p.2 v.1 v.2)
def Bc (x0:ak):Option (Int):=af (bT (fun v => um (len x0.files) x0.files v.fst v.snd) LF (0,0)) fun y0 => some y0
noncomputable def Pg:Cx:={ P:=PG,ety:=ety,fn:=look [],inl:=fO [],lp:=bg [(78,58,Nv)] }
theorem Uh (p0:Int) (p1:(List ay)) (v0:Int) (v1:Int):kD Pg 900 78 58 (iq PG 78 58) O4 OT (p0,p1) (v0,v1)=um p0 p1 v0 v1:=by kernel_rfl
theorem YK (x0:ak):cO Pg 78 [.val .disk] [.int .i64] x0=Bc x0:=by kernel_rfl
def G9:aV:=mkSpec [.val .disk] [.int .i64] true (fun x=>Bc x)
theorem adR:dW PG 78 G9:=
 have K:CxR Pg:=aZ.cx (fun _=>rfl) (l:=[]) trivial
 aO K (aJ (l:=[(78,58,Nv)]) rfl ⟨dU (n:=900) (f:=78) K (by kernel_rfl) (by kernel_rfl) (by kernel_rfl) (by kernel_rfl) (by kernel_rfl) (fun p v r h=>(Uh p.1 p.2 v.1 v.2).trans h),trivial⟩) (by kernel_rfl) (fun x y h=>(YK x).trans h) rfl rfl
def bf (x0:(List ay)) (x1:Int) (x2:(List ay)):Option ((List ay)):=match x2 with | [n]=>cnd (band (ile 0 x1) (band (ile x1 (len x0)) (ile (ax (len x0) 1) 68719476736))) (some (jc (aC x0 (itn x1)) (n::aH x0 (itn x1)))) none | _=>none
noncomputable def JS:Cx:={ P:=PG,ety:=ety,fn:=look [],inl:=fO [],lp:=bg [] }
def jD:aV:=MJ .file (fun x=>bf x.1 x.2.1 x.2.2)
theorem yJ:dW PG 79 jD:=
 have K:CxR JS:=aZ.cx (fun _=>rfl) (l:=[]) trivial
 akd K 79 (aoR PG 79) (aoR PG ((ES (aoR PG 79)).f 29)) (by kernel_rfl) (by kernel_rfl) (by kernel_rfl) (by kernel_rfl) (by kernel_rfl) (e:= .file) (by kernel_rfl) (by kernel_rfl) (by kernel_rfl) (by kernel_rfl) (by kernel_rfl) (by kernel_rfl) rfl (fun x y h=>by obtain⟨l,k,xs⟩:=x;match xs,h with | [],h=>exact h | [_],h=>exact h | _::_::_,h=>exact h)
def Bd:LSh:=⟨70,[(10,.int .i64),(9,.ro .bts)],[],[],[(11,.int .i64),(3,.int .i64)],[],[]⟩
@[reducible] def Ak:List jb:=[⟨.exit 0,[(3,.int .i64)],[],[]⟩]
def jM (p0:Int) (p1:(List LD)) (v0:Int) (v1:Int):Option ((Int×Int) ⊕ ((Int))):=cnd (ilt v0 p0) (cnd (band (ile 0 v0) (ilt v0 (len p1))) (cnd (ilt (wr .i64 (ax v1 (len (ah p1 (itn v0)).all))) 0) none (some (Sum.inl (wr .i64 (ax v0 1),wr .i64 (ax v1 (len (ah p1 (itn v0)).all)))))) none) (some (Sum.inr v1))
def yZ:iO:=Bd.spec Ak [12,13,14,5,15,16,17,18,3,19,20,21,22,11] (fun p v=>jM p.1 p.2 v.1 v.2)
def zo:LSh:=⟨169,[(26,.int .i64),(25,.ro .bts)],[],[],[(27,.int .i64),(6,.buf .u8)],[],[]⟩
@[reducible] def yS:List jb:=[⟨.exit 2,[(6,.buf .u8)],[],[]⟩]
def iI (p0:Int) (p1:(List LD)) (v0:Int) (v1:(List Int)):Option ((Int×(List Int)) ⊕ (((List Int)))):=cnd (ilt v0 p0) (cnd (band (ile 0 v0) (ilt v0 (len p1))) (cnd (ile (len (jc v1 (ah p1 (itn v0)).all)) 68719476736) (some (Sum.inl (wr .i64 (ax v0 1),jc v1 (ah p1 (itn v0)).all))) none) none) (some (Sum.inr v1))
def yK:iO:=zo.spec yS [28,29,30,8,31,32,33,6,34,27] (fun p v=>iI p.1 p.2 v.1 v.2)
def jg (x0:(List LD)):Option ((List Int)):=af (bT (fun v => jM (len x0) x0 v.fst v.snd) LF (0,0)) fun y0 => cnd (ilt y0 0) none (cnd (ilt 0 (wr .i64 (aG y0 0))) (cnd (band (ilt 0 (wr .i64 (aG y0 0))) (ile (wr .i64 (aG y0 0)) 68719476736)) (cnd (ile 0 (len (iQ Int (itn (wr .i64 (aG y0 0)))))) (af (bT (fun v => iI (len x0) x0 v.fst v.snd) LF (0,aC (iQ Int (itn (wr .i64 (aG y0 0)))) 0)) fun y1 => some y1) none) none) (af (bT (fun v => iI (len x0) x0 v.fst v.snd) LF (0,[])) fun y2 => some y2))
noncomputable def rG:Cx:={ P:=PG,ety:=ety,fn:=look [],inl:=fO [155],lp:=bg [(80,58,yZ),(80,250,yK)] }
theorem GV (p0:Int) (p1:(List LD)) (v0:Int) (v1:Int):kD rG 900 80 58 (iq PG 80 58) Bd Ak (p0,p1) (v0,v1)=jM p0 p1 v0 v1:=by kernel_rfl
theorem F6 (p0:Int) (p1:(List LD)) (v0:Int) (v1:(List Int)):kD rG 900 80 250 (iq PG 80 250) zo yS (p0,p1) (v0,v1)=iI p0 p1 v0 v1:=by kernel_rfl
theorem KN (x0:(List LD)):cO rG 80 [.ro .bts] [.buf .u8] x0=jg x0:=by kernel_rfl
def tJ:aV:=mkSpec [.ro .bts] [.buf .u8] true (fun x=>jg x)
theorem NM:dW PG 80 tJ:=
 have K:CxR rG:=aZ.cx (fun _=>rfl) (l:=[]) trivial
 aO K (aJ (l:=[(80,58,yZ),(80,250,yK)]) rfl ⟨dU (n:=900) (f:=80) K (by kernel_rfl) (by kernel_rfl) (by kernel_rfl) (by kernel_rfl) (by kernel_rfl) (fun p v r h=>(GV p.1 p.2 v.1 v.2).trans h),
  dU (n:=900) (f:=80) K (by kernel_rfl) (by kernel_rfl) (by kernel_rfl) (by kernel_rfl) (by kernel_rfl) (fun p v r h=>(F6 p.1 p.2 v.1 v.2).trans h),trivial⟩) (by kernel_rfl) (fun x y h=>(KN x).trans h) rfl rfl
def iK (x0:ak) (x1:(List UInt8)) (x2:(List Int)):Option (ak×Int):=af (iU x0 [x1]) fun y0 => cnd (aF (ieq y0 0)) (some (x0,y0)) (af (dL x0 x1) fun y1 => af (Bc x0) fun y2 => cnd (bor (ilt (wr .i64 (aG x0.room y2)) (len x2)) (band (aF y1.snd) (ieq (len x0.files) 64))) (some (x0,6)) (af (aN x0.files) fun y3 => cnd (aF y1.snd) (af (bf y3 y1.fst [ay.mk x1 [] 0]) fun y4 => cnd (band (ile 0 y1.fst) (ilt y1.fst (len y4))) (af (jg [LD.mk (ah y4 (itn y1.fst)).data,LD.mk x2]) fun y5 => cnd (band (ile 0 y1.fst) (ilt y1.fst (len y4))) (cnd (ieq x0.fuse 0) (some (ak.mk (aY y4 (itn y1.fst) (ay.mk (ah y4 (itn y1.fst)).name y5 (ah y4 (itn y1.fst)).sure)) x0.room x0.fuse true,9)) (cnd (ieq x0.fuse (-1)) (some (ak.mk (aY y4 (itn y1.fst) (ay.mk (ah y4 (itn y1.fst)).name y5 (ah y4 (itn y1.fst)).sure)) x0.room x0.fuse x0.down,0)) (some (ak.mk (aY y4 (itn y1.fst) (ay.mk (ah y4 (itn y1.fst)).name y5 (ah y4 (itn y1.fst)).sure)) x0.room (wr .i64 (aG x0.fuse 1)) x0.down,0)))) none) none) (cnd (band (ile 0 y1.fst) (ilt y1.fst (len y3))) (af (jg [LD.mk (ah y3 (itn y1.fst)).data,LD.mk x2]) fun y6 => cnd (band (ile 0 y1.fst) (ilt y1.fst (len y3))) (cnd (ieq x0.fuse 0) (some (ak.mk (aY y3 (itn y1.fst) (ay.mk (ah y3 (itn y1.fst)).name y6 (ah y3 (itn y1.fst)).sure)) x0.room x0.fuse true,9)) (cnd (ieq x0.fuse (-1)) (some (ak.mk (aY y3 (itn y1.fst) (ay.mk (ah y3 (itn y1.fst)).name y6 (ah y3 (itn y1.fst)).sure)) x0.room x0.fuse x0.down,0)) (some (ak.mk (aY y3 (itn y1.fst) (ay.mk (ah y3 (itn y1.fst)).name y6 (ah y3 (itn y1.fst)).sure)) x0.room (wr .i64 (aG x0.fuse 1)) x0.down,0)))) none) none)))
noncomputable def QG:Cx:={ P:=PG,ety:=ety,fn:=look [(76,iC),(77,ja),(78,G9),(53,bV),(79,jD),(80,tJ)],inl:=fO [81],lp:=bg [] }
theorem VH (x0:ak) (x1:(List UInt8)) (x2:(List Int)):cO QG 29 [.val .disk,.str,.ro .u8] [.val .disk,.int .i64] (x0,x1,x2)=iK x0 x1 x2:=by kernel_rfl
def uf:aV:=mkSpec [.val .disk,.str,.ro .u8] [.val .disk,.int .i64] false (fun x=>iK x.1 x.2.1 x.2.2)
theorem Pj:dW PG 29 uf:=
 have K:CxR QG:=aZ.cx (fun _=>rfl) (l:=[(76,iC),(77,ja),(78,G9),(53,bV),(79,jD),(80,tJ)]) ⟨wK,yH,adR,jy,yJ,NM,trivial⟩
 aO K (aJ (l:=[]) rfl trivial) (by kernel_rfl) (fun x y h=>(VH x.1 x.2.1 x.2.2).trans h) rfl rfl
def jA (x0:ak) (x1:(List UInt8)):Option (ak×Int):=af (iU x0 [x1]) fun y0 => cnd (aF (ieq y0 0)) (cnd (aF (ieq y0 0)) (some (x0,y0)) (cnd (ieq x0.fuse 0) (some (ak.mk x0.files x0.room x0.fuse true,9)) (cnd (ieq x0.fuse (-1)) (af (aN x0.files) fun y1 => cnd (ilt 0 (len y1)) (cnd (ilt 0 (len y1)) (some (ak.mk (aY y1 0 (ay.mk (ah y1 0).name (ah y1 0).data (len (ah y1 0).data))) x0.room x0.fuse x0.down,0)) none) none) (af (aN x0.files) fun y2 => cnd (ilt 0 (len y2)) (cnd (ilt 0 (len y2)) (some (ak.mk (aY y2 0 (ay.mk (ah y2 0).name (ah y2 0).data (len (ah y2 0).data))) x0.room (wr .i64 (aG x0.fuse 1)) x0.down,0)) none) none)))) (af (dL x0 x1) fun y3 => cnd (aF y3.snd) (some (x0,7)) (cnd (ieq x0.fuse 0) (some (ak.mk x0.files x0.room x0.fuse true,9)) (cnd (ieq x0.fuse (-1)) (af (aN x0.files) fun y4 => cnd (band (ile 0 y3.fst) (ilt y3.fst (len y4))) (cnd (band (ile 0 y3.fst) (ilt y3.fst (len y4))) (some (ak.mk (aY y4 (itn y3.fst) (ay.mk (ah y4 (itn y3.fst)).name (ah y4 (itn y3.fst)).data (len (ah y4 (itn y3.fst)).data))) x0.room x0.fuse x0.down,0)) none) none) (af (aN x0.files) fun y5 => cnd (band (ile 0 y3.fst) (ilt y3.fst (len y5))) (cnd (band (ile 0 y3.fst) (ilt y3.fst (len y5))) (some (ak.mk (aY y5 (itn y3.fst) (ay.mk (ah y5 (itn y3.fst)).name (ah y5 (itn y3.fst)).data (len (ah y5 (itn y3.fst)).data))) x0.room (wr .i64 (aG x0.fuse 1)) x0.down,0)) none) none))))
noncomputable def Xa:Cx:={ P:=PG,ety:=ety,fn:=look [(76,iC),(77,ja),(53,bV)],inl:=fO [55,81],lp:=bg [] }
theorem Yv (x0:ak) (x1:(List UInt8)):cO Xa 31 [.val .disk,.str] [.val .disk,.int .i64] (x0,x1)=jA x0 x1:=by kernel_rfl
def xG:aV:=mkSpec [.val .disk,.str] [.val .disk,.int .i64] false (fun x=>jA x.1 x.2)
theorem UN:dW PG 31 xG:=
 have K:CxR Xa:=aZ.cx (fun _=>rfl) (l:=[(76,iC),(77,ja),(53,bV)]) ⟨wK,yH,jy,trivial⟩
 aO K (aJ (l:=[]) rfl trivial) (by kernel_rfl) (fun x y h=>(Yv x.1 x.2).trans h) rfl rfl
def jT (x0:ak) (x1:(List UInt8)) (x2:(List UInt8)):Option (ak×Int):=cnd (ile (len (jc [x2] [x1])) 68719476736) (af (iU x0 (jc [x2] [x1])) fun y0 => cnd (aF (ieq y0 0)) (cnd (aF (ieq y0 0)) (some (x0,y0)) (cnd (ieq x0.fuse 0) (some (ak.mk x0.files x0.room x0.fuse true,9)) (cnd (ieq x0.fuse (-1)) (cnd (ilt 0 (len x0.files)) (af (aN x0.files) fun y1 => cnd (band (ile 1 (len y1)) (band (ile 1 (len y1)) (ile (len y1) (len y1)))) (cnd (ile 0 (len y1)) (cnd (ile 1 (len y1)) (cnd (ile (ax 0 (len (aC (aH y1 1) (itn (aG (len y1) 1))))) (len y1)) (cnd (band (band (ile 0 (nti (nad 0 (itn (len (aC (aH y1 1) (itn (aG (len y1) 1)))))))) (ile (nti (nad 0 (itn (len (aC (aH y1 1) (itn (aG (len y1) 1))))))) (len y1))) (ile (len y1) (aG (len (eu y1 0 (aC (aH y1 1) (itn (aG (len y1) 1))))) 0))) (af (dL (ak.mk (aC (eu (eu y1 0 (aC (aH y1 1) (itn (aG (len y1) 1)))) (nad 0 (itn (nti (nad 0 (itn (len (aC (aH y1 1) (itn (aG (len y1) 1))))))))) (iQ ay (itn (aG (len y1) (nti (nad 0 (itn (len (aC (aH y1 1) (itn (aG (len y1) 1))))))))))) (nad 0 (itn (len (aC (aH y1 1) (itn (aG (len y1) 1))))))) x0.room x0.fuse x0.down) x2) fun y2 => cnd y2.snd (cnd (band (ile 0 y2.fst) (ilt y2.fst (len (aC (eu (eu y1 0 (aC (aH y1 1) (itn (aG (len y1) 1)))) (nad 0 (itn (nti (nad 0 (itn (len (aC (aH y1 1) (itn (aG (len y1) 1))))))))) (iQ ay (itn (aG (len y1) (nti (nad 0 (itn (len (aC (aH y1 1) (itn (aG (len y1) 1))))))))))) (nad 0 (itn (len (aC (aH y1 1) (itn (aG (len y1) 1)))))))))) (some (ak.mk (aY (aC (eu (eu y1 0 (aC (aH y1 1) (itn (aG (len y1) 1)))) (nad 0 (itn (nti (nad 0 (itn (len (aC (aH y1 1) (itn (aG (len y1) 1))))))))) (iQ ay (itn (aG (len y1) (nti (nad 0 (itn (len (aC (aH y1 1) (itn (aG (len y1) 1))))))))))) (nad 0 (itn (len (aC (aH y1 1) (itn (aG (len y1) 1))))))) (itn y2.fst) (ay.mk x2 (ah x0.files 0).data (ah x0.files 0).sure)) x0.room x0.fuse x0.down,0)) none) (af (bf (aC (eu (eu y1 0 (aC (aH y1 1) (itn (aG (len y1) 1)))) (nad 0 (itn (nti (nad 0 (itn (len (aC (aH y1 1) (itn (aG (len y1) 1))))))))) (iQ ay (itn (aG (len y1) (nti (nad 0 (itn (len (aC (aH y1 1) (itn (aG (len y1) 1))))))))))) (nad 0 (itn (len (aC (aH y1 1) (itn (aG (len y1) 1))))))) y2.fst [ay.mk x2 (ah x0.files 0).data (ah x0.files 0).sure]) fun y3 => some (ak.mk y3 x0.room x0.fuse x0.down,0))) none) none) none) none) none) none) (cnd (ilt 0 (len x0.files)) (af (aN x0.files) fun y4 => cnd (band (ile 1 (len y4)) (band (ile 1 (len y4)) (ile (len y4) (len y4)))) (cnd (ile 0 (len y4)) (cnd (ile 1 (len y4)) (cnd (ile (ax 0 (len (aC (aH y4 1) (itn (aG (len y4) 1))))) (len y4)) (cnd (band (band (ile 0 (nti (nad 0 (itn (len (aC (aH y4 1) (itn (aG (len y4) 1)))))))) (ile (nti (nad 0 (itn (len (aC (aH y4 1) (itn (aG (len y4) 1))))))) (len y4))) (ile (len y4) (aG (len (eu y4 0 (aC (aH y4 1) (itn (aG (len y4) 1))))) 0))) (af (dL (ak.mk (aC (eu (eu y4 0 (aC (aH y4 1) (itn (aG (len y4) 1)))) (nad 0 (itn (nti (nad 0 (itn (len (aC (aH y4 1) (itn (aG (len y4) 1))))))))) (iQ ay (itn (aG (len y4) (nti (nad 0 (itn (len (aC (aH y4 1) (itn (aG (len y4) 1))))))))))) (nad 0 (itn (len (aC (aH y4 1) (itn (aG (len y4) 1))))))) x0.room (wr .i64 (aG x0.fuse 1)) x0.down) x2) fun y5 => cnd y5.snd (cnd (band (ile 0 y5.fst) (ilt y5.fst (len (aC (eu (eu y4 0 (aC (aH y4 1) (itn (aG (len y4) 1)))) (nad 0 (itn (nti (nad 0 (itn (len (aC (aH y4 1) (itn (aG (len y4) 1))))))))) (iQ ay (itn (aG (len y4) (nti (nad 0 (itn (len (aC (aH y4 1) (itn (aG (len y4) 1))))))))))) (nad 0 (itn (len (aC (aH y4 1) (itn (aG (len y4) 1)))))))))) (some (ak.mk (aY (aC (eu (eu y4 0 (aC (aH y4 1) (itn (aG (len y4) 1)))) (nad 0 (itn (nti (nad 0 (itn (len (aC (aH y4 1) (itn (aG (len y4) 1))))))))) (iQ ay (itn (aG (len y4) (nti (nad 0 (itn (len (aC (aH y4 1) (itn (aG (len y4) 1))))))))))) (nad 0 (itn (len (aC (aH y4 1) (itn (aG (len y4) 1))))))) (itn y5.fst) (ay.mk x2 (ah x0.files 0).data (ah x0.files 0).sure)) x0.room (wr .i64 (aG x0.fuse 1)) x0.down,0)) none) (af (bf (aC (eu (eu y4 0 (aC (aH y4 1) (itn (aG (len y4) 1)))) (nad 0 (itn (nti (nad 0 (itn (len (aC (aH y4 1) (itn (aG (len y4) 1))))))))) (iQ ay (itn (aG (len y4) (nti (nad 0 (itn (len (aC (aH y4 1) (itn (aG (len y4) 1))))))))))) (nad 0 (itn (len (aC (aH y4 1) (itn (aG (len y4) 1))))))) y5.fst [ay.mk x2 (ah x0.files 0).data (ah x0.files 0).sure]) fun y6 => some (ak.mk y6 x0.room (wr .i64 (aG x0.fuse 1)) x0.down,0))) none) none) none) none) none) none)))) (af (dL x0 x1) fun y7 => cnd (aF y7.snd) (some (x0,7)) (cnd (ieq x0.fuse 0) (some (ak.mk x0.files x0.room x0.fuse true,9)) (cnd (ieq x0.fuse (-1)) (cnd (band (ile 0 y7.fst) (ilt y7.fst (len x0.files))) (af (aN x0.files) fun y8 => cnd (band (band (band (ile 0 y7.fst) (ile y7.fst (wr .i64 (ax y7.fst 1)))) (ile (wr .i64 (ax y7.fst 1)) (len y8))) (band (ile (wr .i64 (ax y7.fst 1)) (len y8)) (ile (len y8) (len y8)))) (cnd (ieq y7.fst (wr .i64 (ax y7.fst 1))) (af (dL (ak.mk y8 x0.room x0.fuse x0.down) x2) fun y9 => cnd y9.snd (cnd (band (ile 0 y9.fst) (ilt y9.fst (len y8))) (some (ak.mk (aY y8 (itn y9.fst) (ay.mk x2 (ah x0.files (itn y7.fst)).data (ah x0.files (itn y7.fst)).sure)) x0.room x0.fuse x0.down,0)) none) (af (bf y8 y9.fst [ay.mk x2 (ah x0.files (itn y7.fst)).data (ah x0.files (itn y7.fst)).sure]) fun y10 => some (ak.mk y10 x0.room x0.fuse x0.down,0))) (cnd (band (ile 0 y7.fst) (ile y7.fst (len y8))) (cnd (band (ile 0 (wr .i64 (ax y7.fst 1))) (ile (wr .i64 (ax y7.fst 1)) (len y8))) (cnd (ile (ax (nti (itn y7.fst)) (len (aC (aH y8 (itn (wr .i64 (ax y7.fst 1)))) (itn (aG (len y8) (wr .i64 (ax y7.fst 1))))))) (len y8)) (cnd (band (band (ile 0 (nti (nad (itn y7.fst) (itn (len (aC (aH y8 (itn (wr .i64 (ax y7.fst 1)))) (itn (aG (len y8) (wr .i64 (ax y7.fst 1)))))))))) (ile (nti (nad (itn y7.fst) (itn (len (aC (aH y8 (itn (wr .i64 (ax y7.fst 1)))) (itn (aG (len y8) (wr .i64 (ax y7.fst 1))))))))) (len y8))) (ile (len y8) (aG (len (eu y8 (itn y7.fst) (aC (aH y8 (itn (wr .i64 (ax y7.fst 1)))) (itn (aG (len y8) (wr .i64 (ax y7.fst 1))))))) 0))) (af (dL (ak.mk (aC (eu (eu y8 (itn y7.fst) (aC (aH y8 (itn (wr .i64 (ax y7.fst 1)))) (itn (aG (len y8) (wr .i64 (ax y7.fst 1)))))) (nad 0 (itn (nti (nad (itn y7.fst) (itn (len (aC (aH y8 (itn (wr .i64 (ax y7.fst 1)))) (itn (aG (len y8) (wr .i64 (ax y7.fst 1))))))))))) (iQ ay (itn (aG (len y8) (nti (nad (itn y7.fst) (itn (len (aC (aH y8 (itn (wr .i64 (ax y7.fst 1)))) (itn (aG (len y8) (wr .i64 (ax y7.fst 1))))))))))))) (nad (itn y7.fst) (itn (len (aC (aH y8 (itn (wr .i64 (ax y7.fst 1)))) (itn (aG (len y8) (wr .i64 (ax y7.fst 1))))))))) x0.room x0.fuse x0.down) x2) fun y11 => cnd y11.snd (cnd (band (ile 0 y11.fst) (ilt y11.fst (len (aC (eu (eu y8 (itn y7.fst) (aC (aH y8 (itn (wr .i64 (ax y7.fst 1)))) (itn (aG (len y8) (wr .i64 (ax y7.fst 1)))))) (nad 0 (itn (nti (nad (itn y7.fst) (itn (len (aC (aH y8 (itn (wr .i64 (ax y7.fst 1)))) (itn (aG (len y8) (wr .i64 (ax y7.fst 1))))))))))) (iQ ay (itn (aG (len y8) (nti (nad (itn y7.fst) (itn (len (aC (aH y8 (itn (wr .i64 (ax y7.fst 1)))) (itn (aG (len y8) (wr .i64 (ax y7.fst 1))))))))))))) (nad (itn y7.fst) (itn (len (aC (aH y8 (itn (wr .i64 (ax y7.fst 1)))) (itn (aG (len y8) (wr .i64 (ax y7.fst 1)))))))))))) (some (ak.mk (aY (aC (eu (eu y8 (itn y7.fst) (aC (aH y8 (itn (wr .i64 (ax y7.fst 1)))) (itn (aG (len y8) (wr .i64 (ax y7.fst 1)))))) (nad 0 (itn (nti (nad (itn y7.fst) (itn (len (aC (aH y8 (itn (wr .i64 (ax y7.fst 1)))) (itn (aG (len y8) (wr .i64 (ax y7.fst 1))))))))))) (iQ ay (itn (aG (len y8) (nti (nad (itn y7.fst) (itn (len (aC (aH y8 (itn (wr .i64 (ax y7.fst 1)))) (itn (aG (len y8) (wr .i64 (ax y7.fst 1))))))))))))) (nad (itn y7.fst) (itn (len (aC (aH y8 (itn (wr .i64 (ax y7.fst 1)))) (itn (aG (len y8) (wr .i64 (ax y7.fst 1))))))))) (itn y11.fst) (ay.mk x2 (ah x0.files (itn y7.fst)).data (ah x0.files (itn y7.fst)).sure)) x0.room x0.fuse x0.down,0)) none) (af (bf (aC (eu (eu y8 (itn y7.fst) (aC (aH y8 (itn (wr .i64 (ax y7.fst 1)))) (itn (aG (len y8) (wr .i64 (ax y7.fst 1)))))) (nad 0 (itn (nti (nad (itn y7.fst) (itn (len (aC (aH y8 (itn (wr .i64 (ax y7.fst 1)))) (itn (aG (len y8) (wr .i64 (ax y7.fst 1))))))))))) (iQ ay (itn (aG (len y8) (nti (nad (itn y7.fst) (itn (len (aC (aH y8 (itn (wr .i64 (ax y7.fst 1)))) (itn (aG (len y8) (wr .i64 (ax y7.fst 1))))))))))))) (nad (itn y7.fst) (itn (len (aC (aH y8 (itn (wr .i64 (ax y7.fst 1)))) (itn (aG (len y8) (wr .i64 (ax y7.fst 1))))))))) y11.fst [ay.mk x2 (ah x0.files (itn y7.fst)).data (ah x0.files (itn y7.fst)).sure]) fun y12 => some (ak.mk y12 x0.room x0.fuse x0.down,0))) none) none) none) none)) none) none) (cnd (band (ile 0 y7.fst) (ilt y7.fst (len x0.files))) (af (aN x0.files) fun y13 => cnd (band (band (band (ile 0 y7.fst) (ile y7.fst (wr .i64 (ax y7.fst 1)))) (ile (wr .i64 (ax y7.fst 1)) (len y13))) (band (ile (wr .i64 (ax y7.fst 1)) (len y13)) (ile (len y13) (len y13)))) (cnd (ieq y7.fst (wr .i64 (ax y7.fst 1))) (af (dL (ak.mk y13 x0.room (wr .i64 (aG x0.fuse 1)) x0.down) x2) fun y14 => cnd y14.snd (cnd (band (ile 0 y14.fst) (ilt y14.fst (len y13))) (some (ak.mk (aY y13 (itn y14.fst) (ay.mk x2 (ah x0.files (itn y7.fst)).data (ah x0.files (itn y7.fst)).sure)) x0.room (wr .i64 (aG x0.fuse 1)) x0.down,0)) none) (af (bf y13 y14.fst [ay.mk x2 (ah x0.files (itn y7.fst)).data (ah x0.files (itn y7.fst)).sure]) fun y15 => some (ak.mk y15 x0.room (wr .i64 (aG x0.fuse 1)) x0.down,0))) (cnd (band (ile 0 y7.fst) (ile y7.fst (len y13))) (cnd (band (ile 0 (wr .i64 (ax y7.fst 1))) (ile (wr .i64 (ax y7.fst 1)) (len y13))) (cnd (ile (ax (nti (itn y7.fst)) (len (aC (aH y13 (itn (wr .i64 (ax y7.fst 1)))) (itn (aG (len y13) (wr .i64 (ax y7.fst 1))))))) (len y13)) (cnd (band (band (ile 0 (nti (nad (itn y7.fst) (itn (len (aC (aH y13 (itn (wr .i64 (ax y7.fst 1)))) (itn (aG (len y13) (wr .i64 (ax y7.fst 1)))))))))) (ile (nti (nad (itn y7.fst) (itn (len (aC (aH y13 (itn (wr .i64 (ax y7.fst 1)))) (itn (aG (len y13) (wr .i64 (ax y7.fst 1))))))))) (len y13))) (ile (len y13) (aG (len (eu y13 (itn y7.fst) (aC (aH y13 (itn (wr .i64 (ax y7.fst 1)))) (itn (aG (len y13) (wr .i64 (ax y7.fst 1))))))) 0))) (af (dL (ak.mk (aC (eu (eu y13 (itn y7.fst) (aC (aH y13 (itn (wr .i64 (ax y7.fst 1)))) (itn (aG (len y13) (wr .i64 (ax y7.fst 1)))))) (nad 0 (itn (nti (nad (itn y7.fst) (itn (len (aC (aH y13 (itn (wr .i64 (ax y7.fst 1)))) (itn (aG (len y13) (wr .i64 (ax y7.fst 1))))))))))) (iQ ay (itn (aG (len y13) (nti (nad (itn y7.fst) (itn (len (aC (aH y13 (itn (wr .i64 (ax y7.fst 1)))) (itn (aG (len y13) (wr .i64 (ax y7.fst 1))))))))))))) (nad (itn y7.fst) (itn (len (aC (aH y13 (itn (wr .i64 (ax y7.fst 1)))) (itn (aG (len y13) (wr .i64 (ax y7.fst 1))))))))) x0.room (wr .i64 (aG x0.fuse 1)) x0.down) x2) fun y16 => cnd y16.snd (cnd (band (ile 0 y16.fst) (ilt y16.fst (len (aC (eu (eu y13 (itn y7.fst) (aC (aH y13 (itn (wr .i64 (ax y7.fst 1)))) (itn (aG (len y13) (wr .i64 (ax y7.fst 1)))))) (nad 0 (itn (nti (nad (itn y7.fst) (itn (len (aC (aH y13 (itn (wr .i64 (ax y7.fst 1)))) (itn (aG (len y13) (wr .i64 (ax y7.fst 1))))))))))) (iQ ay (itn (aG (len y13) (nti (nad (itn y7.fst) (itn (len (aC (aH y13 (itn (wr .i64 (ax y7.fst 1)))) (itn (aG (len y13) (wr .i64 (ax y7.fst 1))))))))))))) (nad (itn y7.fst) (itn (len (aC (aH y13 (itn (wr .i64 (ax y7.fst 1)))) (itn (aG (len y13) (wr .i64 (ax y7.fst 1)))))))))))) (some (ak.mk (aY (aC (eu (eu y13 (itn y7.fst) (aC (aH y13 (itn (wr .i64 (ax y7.fst 1)))) (itn (aG (len y13) (wr .i64 (ax y7.fst 1)))))) (nad 0 (itn (nti (nad (itn y7.fst) (itn (len (aC (aH y13 (itn (wr .i64 (ax y7.fst 1)))) (itn (aG (len y13) (wr .i64 (ax y7.fst 1))))))))))) (iQ ay (itn (aG (len y13) (nti (nad (itn y7.fst) (itn (len (aC (aH y13 (itn (wr .i64 (ax y7.fst 1)))) (itn (aG (len y13) (wr .i64 (ax y7.fst 1))))))))))))) (nad (itn y7.fst) (itn (len (aC (aH y13 (itn (wr .i64 (ax y7.fst 1)))) (itn (aG (len y13) (wr .i64 (ax y7.fst 1))))))))) (itn y16.fst) (ay.mk x2 (ah x0.files (itn y7.fst)).data (ah x0.files (itn y7.fst)).sure)) x0.room (wr .i64 (aG x0.fuse 1)) x0.down,0)) none) (af (bf (aC (eu (eu y13 (itn y7.fst) (aC (aH y13 (itn (wr .i64 (ax y7.fst 1)))) (itn (aG (len y13) (wr .i64 (ax y7.fst 1)))))) (nad 0 (itn (nti (nad (itn y7.fst) (itn (len (aC (aH y13 (itn (wr .i64 (ax y7.fst 1)))) (itn (aG (len y13) (wr .i64 (ax y7.fst 1))))))))))) (iQ ay (itn (aG (len y13) (nti (nad (itn y7.fst) (itn (len (aC (aH y13 (itn (wr .i64 (ax y7.fst 1)))) (itn (aG (len y13) (wr .i64 (ax y7.fst 1))))))))))))) (nad (itn y7.fst) (itn (len (aC (aH y13 (itn (wr .i64 (ax y7.fst 1)))) (itn (aG (len y13) (wr .i64 (ax y7.fst 1))))))))) y16.fst [ay.mk x2 (ah x0.files (itn y7.fst)).data (ah x0.files (itn y7.fst)).sure]) fun y17 => some (ak.mk y17 x0.room (wr .i64 (aG x0.fuse 1)) x0.down,0))) none) none) none) none)) none) none))))) none
noncomputable def Rk:Cx:={ P:=PG,ety:=ety,fn:=look [(76,iC),(77,ja),(53,bV),(79,jD)],inl:=fO [55,81,82],lp:=bg [] }
theorem Wx (x0:ak) (x1:(List UInt8)) (x2:(List UInt8)):cO Rk 33 [.val .disk,.str,.str] [.val .disk,.int .i64] (x0,x1,x2)=jT x0 x1 x2:=by kernel_rfl
def Dl:aV:=mkSpec [.val .disk,.str,.str] [.val .disk,.int .i64] false (fun x=>jT x.1 x.2.1 x.2.2)
theorem YE:dW PG 33 Dl:=
 have K:CxR Rk:=aZ.cx (fun _=>rfl) (l:=[(76,iC),(77,ja),(53,bV),(79,jD)]) ⟨wK,yH,jy,yJ,trivial⟩
 aO K (aJ (l:=[]) rfl trivial) (by kernel_rfl) (fun x y h=>(Wx x.1 x.2.1 x.2.2).trans h) rfl rfl
def uX (x0:ak) (x1:(List UInt8)) (x2:Int):Option (ak×Int):=af (iU x0 [x1]) fun y0 => cnd (aF (ieq y0 0)) (cnd (aF (ieq y0 0)) (some (x0,y0)) (cnd (ilt x2 0) (cnd (ilt x2 0) (some (x0,1)) (cnd (ieq x0.fuse 0) (some (ak.mk x0.files x0.room x0.fuse true,9)) (cnd (ieq x0.fuse (-1)) (af (aN x0.files) fun y1 => cnd (ilt 0 (len y1)) (cnd (band (ile 0 x2) (ile x2 (len (ah y1 0).data))) (af (dw (aC (ah y1 0).data (itn x2))) fun y2 => some (ak.mk (aY (aY y1 0 (ay.mk (ah y1 0).name y2 (ah y1 0).sure)) 0 (ay.mk (ah (aY y1 0 (ay.mk (ah y1 0).name y2 (ah y1 0).sure)) 0).name (ah (aY y1 0 (ay.mk (ah y1 0).name y2 (ah y1 0).sure)) 0).data (jF (ah y1 0).sure x2))) x0.room x0.fuse x0.down,0)) none) none) (af (aN x0.files) fun y3 => cnd (ilt 0 (len y3)) (cnd (band (ile 0 x2) (ile x2 (len (ah y3 0).data))) (af (dw (aC (ah y3 0).data (itn x2))) fun y4 => some (ak.mk (aY (aY y3 0 (ay.mk (ah y3 0).name y4 (ah y3 0).sure)) 0 (ay.mk (ah (aY y3 0 (ay.mk (ah y3 0).name y4 (ah y3 0).sure)) 0).name (ah (aY y3 0 (ay.mk (ah y3 0).name y4 (ah y3 0).sure)) 0).data (jF (ah y3 0).sure x2))) x0.room (wr .i64 (aG x0.fuse 1)) x0.down,0)) none) none)))) (cnd (ilt 0 (len x0.files)) (cnd (ilt (len (ah x0.files 0).data) x2) (some (x0,1)) (cnd (ieq x0.fuse 0) (some (ak.mk x0.files x0.room x0.fuse true,9)) (cnd (ieq x0.fuse (-1)) (af (aN x0.files) fun y5 => cnd (ilt 0 (len y5)) (cnd (band (ile 0 x2) (ile x2 (len (ah y5 0).data))) (af (dw (aC (ah y5 0).data (itn x2))) fun y6 => some (ak.mk (aY (aY y5 0 (ay.mk (ah y5 0).name y6 (ah y5 0).sure)) 0 (ay.mk (ah (aY y5 0 (ay.mk (ah y5 0).name y6 (ah y5 0).sure)) 0).name (ah (aY y5 0 (ay.mk (ah y5 0).name y6 (ah y5 0).sure)) 0).data (jF (ah y5 0).sure x2))) x0.room x0.fuse x0.down,0)) none) none) (af (aN x0.files) fun y7 => cnd (ilt 0 (len y7)) (cnd (band (ile 0 x2) (ile x2 (len (ah y7 0).data))) (af (dw (aC (ah y7 0).data (itn x2))) fun y8 => some (ak.mk (aY (aY y7 0 (ay.mk (ah y7 0).name y8 (ah y7 0).sure)) 0 (ay.mk (ah (aY y7 0 (ay.mk (ah y7 0).name y8 (ah y7 0).sure)) 0).name (ah (aY y7 0 (ay.mk (ah y7 0).name y8 (ah y7 0).sure)) 0).data (jF (ah y7 0).sure x2))) x0.room (wr .i64 (aG x0.fuse 1)) x0.down,0)) none) none)))) none))) (af (dL x0 x1) fun y9 => cnd (aF y9.snd) (some (x0,7)) (cnd (ilt x2 0) (cnd (ilt x2 0) (some (x0,1)) (cnd (ieq x0.fuse 0) (some (ak.mk x0.files x0.room x0.fuse true,9)) (cnd (ieq x0.fuse (-1)) (af (aN x0.files) fun y10 => cnd (band (ile 0 y9.fst) (ilt y9.fst (len y10))) (cnd (band (ile 0 x2) (ile x2 (len (ah y10 (itn y9.fst)).data))) (af (dw (aC (ah y10 (itn y9.fst)).data (itn x2))) fun y11 => some (ak.mk (aY (aY y10 (itn y9.fst) (ay.mk (ah y10 (itn y9.fst)).name y11 (ah y10 (itn y9.fst)).sure)) (itn y9.fst) (ay.mk (ah (aY y10 (itn y9.fst) (ay.mk (ah y10 (itn y9.fst)).name y11 (ah y10 (itn y9.fst)).sure)) (itn y9.fst)).name (ah (aY y10 (itn y9.fst) (ay.mk (ah y10 (itn y9.fst)).name y11 (ah y10 (itn y9.fst)).sure)) (itn y9.fst)).data (jF (ah y10 (itn y9.fst)).sure x2))) x0.room x0.fuse x0.down,0)) none) none) (af (aN x0.files) fun y12 => cnd (band (ile 0 y9.fst) (ilt y9.fst (len y12))) (cnd (band (ile 0 x2) (ile x2 (len (ah y12 (itn y9.fst)).data))) (af (dw (aC (ah y12 (itn y9.fst)).data (itn x2))) fun y13 => some (ak.mk (aY (aY y12 (itn y9.fst) (ay.mk (ah y12 (itn y9.fst)).name y13 (ah y12 (itn y9.fst)).sure)) (itn y9.fst) (ay.mk (ah (aY y12 (itn y9.fst) (ay.mk (ah y12 (itn y9.fst)).name y13 (ah y12 (itn y9.fst)).sure)) (itn y9.fst)).name (ah (aY y12 (itn y9.fst) (ay.mk (ah y12 (itn y9.fst)).name y13 (ah y12 (itn y9.fst)).sure)) (itn y9.fst)).data (jF (ah y12 (itn y9.fst)).sure x2))) x0.room (wr .i64 (aG x0.fuse 1)) x0.down,0)) none) none)))) (cnd (band (ile 0 y9.fst) (ilt y9.fst (len x0.files))) (cnd (ilt (len (ah x0.files (itn y9.fst)).data) x2) (some (x0,1)) (cnd (ieq x0.fuse 0) (some (ak.mk x0.files x0.room x0.fuse true,9)) (cnd (ieq x0.fuse (-1)) (af (aN x0.files) fun y14 => cnd (band (ile 0 y9.fst) (ilt y9.fst (len y14))) (cnd (band (ile 0 x2) (ile x2 (len (ah y14 (itn y9.fst)).data))) (af (dw (aC (ah y14 (itn y9.fst)).data (itn x2))) fun y15 => some (ak.mk (aY (aY y14 (itn y9.fst) (ay.mk (ah y14 (itn y9.fst)).name y15 (ah y14 (itn y9.fst)).sure)) (itn y9.fst) (ay.mk (ah (aY y14 (itn y9.fst) (ay.mk (ah y14 (itn y9.fst)).name y15 (ah y14 (itn y9.fst)).sure)) (itn y9.fst)).name (ah (aY y14 (itn y9.fst) (ay.mk (ah y14 (itn y9.fst)).name y15 (ah y14 (itn y9.fst)).sure)) (itn y9.fst)).data (jF (ah y14 (itn y9.fst)).sure x2))) x0.room x0.fuse x0.down,0)) none) none) (af (aN x0.files) fun y16 => cnd (band (ile 0 y9.fst) (ilt y9.fst (len y16))) (cnd (band (ile 0 x2) (ile x2 (len (ah y16 (itn y9.fst)).data))) (af (dw (aC (ah y16 (itn y9.fst)).data (itn x2))) fun y17 => some (ak.mk (aY (aY y16 (itn y9.fst) (ay.mk (ah y16 (itn y9.fst)).name y17 (ah y16 (itn y9.fst)).sure)) (itn y9.fst) (ay.mk (ah (aY y16 (itn y9.fst) (ay.mk (ah y16 (itn y9.fst)).name y17 (ah y16 (itn y9.fst)).sure)) (itn y9.fst)).name (ah (aY y16 (itn y9.fst) (ay.mk (ah y16 (itn y9.fst)).name y17 (ah y16 (itn y9.fst)).sure)) (itn y9.fst)).data (jF (ah y16 (itn y9.fst)).sure x2))) x0.room (wr .i64 (aG x0.fuse 1)) x0.down,0)) none) none)))) none)))
noncomputable def aaE:Cx:={ P:=PG,ety:=ety,fn:=look [(76,iC),(77,ja),(53,bV),(56,jm)],inl:=fO [55,81],lp:=bg [] }
theorem aaZ (x0:ak) (x1:(List UInt8)) (x2:Int):cO aaE 87 [.val .disk,.str,.int .i64] [.val .disk,.int .i64] (x0,x1,x2)=uX x0 x1 x2:=by kernel_rfl
def J4:aV:=mkSpec [.val .disk,.str,.int .i64] [.val .disk,.int .i64] false (fun x=>uX x.1 x.2.1 x.2.2)
theorem aey:dW PG 87 J4:=
 have K:CxR aaE:=aZ.cx (fun _=>rfl) (l:=[(76,iC),(77,ja),(53,bV),(56,jm)]) ⟨wK,yH,jy,xC,trivial⟩
 aO K (aJ (l:=[]) rfl trivial) (by kernel_rfl) (fun x y h=>(aaZ x.1 x.2.1 x.2.2).trans h) rfl rfl
def gV (x0:ak) (x1:dM):Option (ak×Int):=af (uP x1) fun y0 => cnd (aF y0) (some (x0,1)) (af (sH x0) fun y1 => cnd (ieq y1.snd 1) (cnd (ieq y1.snd 1) (some (x0,y1.snd)) (cnd (aF (ieq x1.gen (wr .i64 (ax y1.fst.gen 1)))) (some (x0,8)) (af (jO x1.gen) fun y2 => af (nY x1) fun y3 => af (kM x0 y2) fun y4 => cnd (ieq y4.snd 7) (af (iK x0 y2 [y3.a0,y3.a1,y3.a2,y3.a3,y3.a4,y3.a5,y3.a6,y3.a7,y3.a8,y3.a9,y3.a10,y3.a11,y3.a12,y3.a13,y3.a14,y3.a15,y3.a16,y3.a17,y3.a18,y3.a19]) fun y5 => cnd (aF (ieq y5.snd 0)) (some y5) (af (jA y5.fst y2) fun y6 => cnd (aF (ieq y6.snd 0)) (some y6) (some (y6.fst,0)))) (af (uX x0 y2 0) fun y7 => cnd (aF (ieq y7.snd 0)) (some y7) (af (iK y7.fst y2 [y3.a0,y3.a1,y3.a2,y3.a3,y3.a4,y3.a5,y3.a6,y3.a7,y3.a8,y3.a9,y3.a10,y3.a11,y3.a12,y3.a13,y3.a14,y3.a15,y3.a16,y3.a17,y3.a18,y3.a19]) fun y8 => cnd (aF (ieq y8.snd 0)) (some y8) (af (jA y8.fst y2) fun y9 => cnd (aF (ieq y9.snd 0)) (some y9) (some (y9.fst,0)))))))) (cnd (ieq y1.snd 9) (some (x0,y1.snd)) (cnd (aF (ieq x1.gen (wr .i64 (ax y1.fst.gen 1)))) (some (x0,8)) (af (jO x1.gen) fun y10 => af (nY x1) fun y11 => af (kM x0 y10) fun y12 => cnd (ieq y12.snd 7) (af (iK x0 y10 [y11.a0,y11.a1,y11.a2,y11.a3,y11.a4,y11.a5,y11.a6,y11.a7,y11.a8,y11.a9,y11.a10,y11.a11,y11.a12,y11.a13,y11.a14,y11.a15,y11.a16,y11.a17,y11.a18,y11.a19]) fun y13 => cnd (aF (ieq y13.snd 0)) (some y13) (af (jA y13.fst y10) fun y14 => cnd (aF (ieq y14.snd 0)) (some y14) (some (y14.fst,0)))) (af (uX x0 y10 0) fun y15 => cnd (aF (ieq y15.snd 0)) (some y15) (af (iK y15.fst y10 [y11.a0,y11.a1,y11.a2,y11.a3,y11.a4,y11.a5,y11.a6,y11.a7,y11.a8,y11.a9,y11.a10,y11.a11,y11.a12,y11.a13,y11.a14,y11.a15,y11.a16,y11.a17,y11.a18,y11.a19]) fun y16 => cnd (aF (ieq y16.snd 0)) (some y16) (af (jA y16.fst y10) fun y17 => cnd (aF (ieq y17.snd 0)) (some y17) (some (y17.fst,0)))))))))
noncomputable def Ud:Cx:={ P:=PG,ety:=ety,fn:=look [(83,vZ),(25,qy),(72,yc),(84,wz),(21,lU),(87,J4),(29,uf),(31,xG)],inl:=fO [86,88,89,85],lp:=bg [] }
theorem XP (x0:ak) (x1:dM):cO Ud 35 [.val .disk,.val .slot] [.val .disk,.int .i64] (x0,x1)=gV x0 x1:=by kernel_rfl
def E8:aV:=mkSpec [.val .disk,.val .slot] [.val .disk,.int .i64] false (fun x=>gV x.1 x.2)
theorem aa4:dW PG 35 E8:=
 have K:CxR Ud:=aZ.cx (fun _=>rfl) (l:=[(83,vZ),(25,qy),(72,yc),(84,wz),(21,lU),(87,J4),(29,uf),(31,xG)]) ⟨QH,MR,UA,Rh,FU,aey,Pj,UN,trivial⟩
 aO K (aJ (l:=[]) rfl trivial) (by kernel_rfl) (fun x y h=>(XP x.1 x.2).trans h) rfl rfl
def tX (x0:(List UInt8)):Option (Bool):=some (aF (ieq (CQ [115,110,97,112,46] x0) 0))
def yN:aV:=mkSpec [.str] [.bool] true (fun x=>tX x)
def OG:Go.Shelf.Ren:=⟨fun | 174=>91 | 247=>157 | 245=>158 | 287=>203 | 279=>204 | 280=>205 | 281=>206 | 282=>207 | 321=>227 | 322=>228 | 316=>229 | 171=>231 | 205=>230 | 243=>237 | 246=>113 | 283=>171 | 284=>172 | 285=>173 | 286=>174 | 129=>212 | 317=>211 | 318=>213 | 319=>214 | 320=>215 | 337=>233 | 338=>234 | n=>n,fun | 9=>9 | 3=>3 | 2=>2 | 75=>139 | 85=>140 | 4=>4 | 167=>251 | 5=>5 | 53=>219 | 175=>252 | 46=>162 | 168=>254 | 37=>51 | 0=>0 | 210=>277 | 21=>21 | 127=>233 | 145=>284 | 143=>282 | 171=>224 | 173=>227 | 212=>260 | 51=>119 | 20=>20 | 213=>261 | 232=>285 | 233=>286 | 74=>138 | 209=>276 | 144=>283 | 80=>173 | n=>n,fun | 15=>2 | 16=>3 | 17=>0 | 18=>4 | 19=>5 | n=>n⟩
theorem mr:Go.Proofs.LaysC.n174 PG OG where
 mixed:=by kernel_rfl
 f129:=by kernel_rfl
 f171:=by kernel_rfl
 f174:=by kernel_rfl
 f205:=by kernel_rfl
 f243:=by kernel_rfl
 f245:=by kernel_rfl
 f246:=by kernel_rfl
 f247:=by kernel_rfl
 f279:=by kernel_rfl
 f280:=by kernel_rfl
 f281:=by kernel_rfl
 f282:=by kernel_rfl
 f283:=by kernel_rfl
 f284:=by kernel_rfl
 f285:=by kernel_rfl
 f286:=by kernel_rfl
 f287:=by kernel_rfl
 f316:=by kernel_rfl
 f317:=by kernel_rfl
 f318:=by kernel_rfl
 f319:=by kernel_rfl
 f320:=by kernel_rfl
 f321:=by kernel_rfl
 f322:=by kernel_rfl
 f337:=by kernel_rfl
 f338:=by kernel_rfl
 t0:=by kernel_rfl
 a0:=fun w=>by kernel_rfl
 z0:=fun w=>by kernel_rfl
 v0:=fun w=>by kernel_rfl
 t2:=by kernel_rfl
 a2:=fun w=>by kernel_rfl
 z2:=fun w=>by kernel_rfl
 v2:=fun w=>by kernel_rfl
 t3:=by kernel_rfl
 a3:=fun w=>by kernel_rfl
 z3:=fun w=>by kernel_rfl
 v3:=fun w=>by kernel_rfl
 t4:=by kernel_rfl
 a4:=fun w=>by kernel_rfl
 z4:=fun w=>by kernel_rfl
 v4:=fun w=>by kernel_rfl
 t5:=by kernel_rfl
 a5:=fun w=>by kernel_rfl
 z5:=fun w=>by kernel_rfl
 v5:=fun w=>by kernel_rfl
 t9:=by kernel_rfl
 a9:=fun w=>by kernel_rfl
 z9:=fun w=>by kernel_rfl
 v9:=fun w=>by kernel_rfl
 t20:=by kernel_rfl
 a20:=fun w=>by kernel_rfl
 z20:=fun w=>by kernel_rfl
 v20:=fun w=>by kernel_rfl
 t21:=by kernel_rfl
 a21:=fun w=>by kernel_rfl
 z21:=fun w=>by kernel_rfl
 v21:=fun w=>by kernel_rfl
 t37:=by kernel_rfl
 a37:=fun w=>by kernel_rfl
 z37:=fun w=>by kernel_rfl
 v37:=fun w=>by kernel_rfl
 t46:=by kernel_rfl
 a46:=fun w=>by kernel_rfl
 z46:=fun w=>by kernel_rfl
 v46:=fun w=>by kernel_rfl
 t51:=by kernel_rfl
 a51:=fun w=>by kernel_rfl
 z51:=fun w=>by kernel_rfl
 v51:=fun w=>by kernel_rfl
 t53:=by kernel_rfl
 a53:=fun w=>by kernel_rfl
 z53:=fun w=>by kernel_rfl
 v53:=fun w=>by kernel_rfl
 t75:=by kernel_rfl
 a75:=fun w=>by kernel_rfl
 z75:=fun w=>by kernel_rfl
 v75:=fun w=>by kernel_rfl
 t85:=by kernel_rfl
 a85:=fun w=>by kernel_rfl
 z85:=fun w=>by kernel_rfl
 v85:=fun w=>by kernel_rfl
 t127:=by kernel_rfl
 a127:=fun w=>by kernel_rfl
 z127:=fun w=>by kernel_rfl
 v127:=fun w=>by kernel_rfl
 t143:=by kernel_rfl
 a143:=fun w=>by kernel_rfl
 z143:=fun w=>by kernel_rfl
 v143:=fun w=>by kernel_rfl
 t145:=by kernel_rfl
 a145:=fun w=>by kernel_rfl
 z145:=fun w=>by kernel_rfl
 v145:=fun w=>by kernel_rfl
 t167:=by kernel_rfl
 a167:=fun w=>by kernel_rfl
 z167:=fun w=>by kernel_rfl
 v167:=fun w=>by kernel_rfl
 t168:=by kernel_rfl
 a168:=fun w=>by kernel_rfl
 z168:=fun w=>by kernel_rfl
 v168:=fun w=>by kernel_rfl
 t171:=by kernel_rfl
 a171:=fun w=>by kernel_rfl
 z171:=fun w=>by kernel_rfl
 v171:=fun w=>by kernel_rfl
 t173:=by kernel_rfl
 a173:=fun w=>by kernel_rfl
 z173:=fun w=>by kernel_rfl
 v173:=fun w=>by kernel_rfl
 t175:=by kernel_rfl
 a175:=fun w=>by kernel_rfl
 z175:=fun w=>by kernel_rfl
 v175:=fun w=>by kernel_rfl
 t210:=by kernel_rfl
 a210:=fun w=>by kernel_rfl
 z210:=fun w=>by kernel_rfl
 v210:=fun w=>by kernel_rfl
 t212:=by kernel_rfl
 a212:=fun w=>by kernel_rfl
 z212:=fun w=>by kernel_rfl
 v212:=fun w=>by kernel_rfl
 t213:=by kernel_rfl
 a213:=fun w=>by kernel_rfl
 z213:=fun w=>by kernel_rfl
 t232:=by kernel_rfl
 a232:=fun w=>by kernel_rfl
 z232:=fun w=>by kernel_rfl
 v232:=fun w=>by kernel_rfl
 t233:=by kernel_rfl
 a233:=fun w=>by kernel_rfl
 z233:=fun w=>by kernel_rfl
 v233:=fun w=>by kernel_rfl
 g15:=by kernel_rfl
 g16:=by kernel_rfl
 g17:=by kernel_rfl
 g18:=by kernel_rfl
 g19:=by kernel_rfl
 t80:=by kernel_rfl
 a80:=fun w=>by kernel_rfl
 z80:=fun w=>by kernel_rfl
 v80:=fun w=>by kernel_rfl
 i0:=by kernel_rfl
 i2:=by kernel_rfl
 i3:=by kernel_rfl
 i4:=by kernel_rfl
 i5:=by kernel_rfl
 i9:=by kernel_rfl
 i20:=by kernel_rfl
 i21:=by kernel_rfl
 i37:=by kernel_rfl
 i46:=by kernel_rfl
 i51:=by kernel_rfl
 i53:=by kernel_rfl
 i75:=by kernel_rfl
 i80:=by kernel_rfl
 i85:=by kernel_rfl
 i127:=by kernel_rfl
 i143:=by kernel_rfl
 i145:=by kernel_rfl
 i167:=by kernel_rfl
 i168:=by kernel_rfl
 i171:=by kernel_rfl
 i173:=by kernel_rfl
 i175:=by kernel_rfl
 i210:=by kernel_rfl
 i212:=by kernel_rfl
 i232:=by kernel_rfl
 i233:=by kernel_rfl
 m15:=by kernel_rfl
 m16:=by kernel_rfl
 m17:=by kernel_rfl
 m18:=by kernel_rfl
 m19:=by kernel_rfl
 c0:=by kernel_rfl
 c2:=by kernel_rfl
 c3:=by kernel_rfl
 c4:=by kernel_rfl
 c5:=by kernel_rfl
 c9:=by kernel_rfl
 c20:=by kernel_rfl
 c21:=by kernel_rfl
 c37:=by kernel_rfl
 c46:=by kernel_rfl
 c51:=by kernel_rfl
 c53:=by kernel_rfl
 c75:=by kernel_rfl
 c80:=by kernel_rfl
 c85:=by kernel_rfl
 c127:=by kernel_rfl
 c143:=by kernel_rfl
 c145:=by kernel_rfl
 c167:=by kernel_rfl
 c168:=by kernel_rfl
 c171:=by kernel_rfl
 c173:=by kernel_rfl
 c175:=by kernel_rfl
 c210:=by kernel_rfl
 c212:=by kernel_rfl
 c213:=by kernel_rfl
 c232:=by kernel_rfl
 c233:=by kernel_rfl
def N7:Go.Shelf.Ren:=⟨fun | 103=>90 | 210=>156 | 206=>177 | n=>n,fun | 9=>9 | 4=>4 | 24=>136 | 3=>3 | n=>n,fun | n=>n⟩
theorem BH:Go.Proofs.Lays.n103 PG N7 where
 mixed:=by kernel_rfl
 f103:=by kernel_rfl
 f206:=by kernel_rfl
 f210:=by kernel_rfl
 t3:=by kernel_rfl
 a3:=fun w=>by kernel_rfl
 z3:=fun w=>by kernel_rfl
 v3:=fun w=>by kernel_rfl
 t4:=by kernel_rfl
 a4:=fun w=>by kernel_rfl
 z4:=fun w=>by kernel_rfl
 v4:=fun w=>by kernel_rfl
 t9:=by kernel_rfl
 a9:=fun w=>by kernel_rfl
 z9:=fun w=>by kernel_rfl
 v9:=fun w=>by kernel_rfl
 t24:=by kernel_rfl
 a24:=fun w=>by kernel_rfl
 z24:=fun w=>by kernel_rfl
 v24:=fun w=>by kernel_rfl
theorem agJ {B B':Nat} {a b:World} (h:RowKit.Below B a b) (hB:B'<=B):RowKit.Below B' a b:=⟨h.os,h.tape,h.output,h.size,fun k hk=>h.block k (Nat.lt_of_lt_of_le hk hB)⟩
set_option maxHeartbeats 1000000 in
set_option maxRecDepth 100000 in
theorem adk (s r:ByteArray) (w:World)
 (h1:Calls PG 90 #[.string s,.string ⟨#[115,110,97,112,46]⟩] w fun e w'=>e= .returned (.tuple #[.string r,.bool false])/\w'=w):
 Calls PG 36 #[.string s] w fun e w'=>e= .returned (.bool false)/\RowKit.Below w.heap.size w w':=by
 go_enter Go.Proofs.Tryz.func36,Go.Proofs.Tryz.ntmps36
 go_wp2_with (go_at_call 90;refine h1.mono ?_;rintro e W1 ⟨rfl,rfl⟩)
 all_goals (go_ret;exact⟨rfl,RowKit.Below.refl _ _⟩)
set_option maxHeartbeats 1000000 in
set_option maxRecDepth 100000 in
theorem aaT (s r:ByteArray) (w:World)
 (h1:Calls PG 90 #[.string s,.string ⟨#[115,110,97,112,46]⟩] w fun e w'=>e= .returned (.tuple #[.string r,.bool true])/\w'=w) (hr:r.size≠10):
 Calls PG 36 #[.string s] w fun e w'=>e= .returned (.bool false)/\RowKit.Below w.heap.size w w':=by
 have hr':((((r.size:Nat):Int)) != 10)=true:=by simp;omega
 go_enter Go.Proofs.Tryz.func36,Go.Proofs.Tryz.ntmps36
 go_wp2_with (go_at_call 90;refine h1.mono ?_;rintro e W1 ⟨rfl,rfl⟩)
 all_goals (go_ret;exact⟨rfl,RowKit.Below.refl _ _⟩)
set_option maxHeartbeats 1000000 in
set_option maxRecDepth 100000 in
theorem QX (s r:ByteArray) (w:World) (v:Int) (t:TypeId) (q:Value->Prop)
 (h1:Calls PG 90 #[.string s,.string ⟨#[115,110,97,112,46]⟩] w fun e w'=>e= .returned (.tuple #[.string r,.bool true])/\w'=w) (hr:r.size=10)
 (h2:Calls PG 91 #[.string r,.int .i64 10,.int .i64 64] w fun e w'=>∃p,e= .returned (.tuple #[.int .i64 v,.iface t p])/\RowKit.Below w.heap.size w w'):
 Calls PG 36 #[.string s] w fun e w'=>e= .returned (.bool false)/\RowKit.Below w.heap.size w w':=by
 have hr':((r.size:Nat):Int)=10:=by omega
 go_enter Go.Proofs.Tryz.func36,Go.Proofs.Tryz.ntmps36
 go_wp2_with (first | (go_at_call 90;refine h1.mono ?_;rintro e W1 ⟨rfl,rfl⟩) | (go_at_call 91;refine h2.mono ?_;rintro e W2 ⟨p,rfl,hb⟩))
 all_goals (go_ret;exact⟨rfl,hb⟩)
set_option maxHeartbeats 1000000 in
set_option maxRecDepth 100000 in
theorem adW (s r:ByteArray) (w:World) (v:Int) (nm:ByteArray)
 (h1:Calls PG 90 #[.string s,.string ⟨#[115,110,97,112,46]⟩] w fun e w'=>e= .returned (.tuple #[.string r,.bool true])/\w'=w) (hr:r.size=10)
 (h2:Calls PG 91 #[.string r,.int .i64 10,.int .i64 64] w fun e w'=>e= .returned (.tuple #[.int .i64 v,.nilIface])/\RowKit.Below w.heap.size w w')
 (h3:∀w1,RowKit.Below w.heap.size w w1->Calls PG 17 #[.int .i64 v] w1 fun e w'=>e= .returned (.string nm)/\RowKit.Below w1.heap.size w1 w'):
 Calls PG 36 #[.string s] w fun e w'=>e= .returned (.bool (nm.toList == s.toList))/\RowKit.Below w.heap.size w w':=by
 have hr':((r.size:Nat):Int)=10:=by omega
 go_enter Go.Proofs.Tryz.func36,Go.Proofs.Tryz.ntmps36
 go_wp2_with (first | (go_at_call 90;refine h1.mono ?_;rintro e W1 ⟨rfl,rfl⟩) | (go_at_call 91;refine h2.mono ?_;rintro e W2 ⟨rfl,hb⟩) | (go_at_call 17;refine(h3 _ hb).mono ?_;rintro e W3 ⟨rfl,hb3⟩))
 all_goals (go_ret;exact⟨rfl,hb.trans (agJ hb3 hb.size)⟩)
theorem ajy (v:Int) (hv:inI v):dZ v=some (ER [115,110,97,112,46] v):=by
 unfold inI at hv
 unfold dZ ER pG tZ
 by_cases h:v<1\/1000000000<v
 ·rw[if_pos h,show bor (ilt v 1) (ilt 1000000000 v)=true by rw[adJ,Nb,Nb];exact h];rfl
 ·have e1:bor (ilt v 1) (ilt 1000000000 v)=false:=by
   rw[Bool.eq_false_iff];intro g;rw[adJ,Nb,Nb]at g;exact h g
  have hl:(fmt10 v).length<=10:=by
   unfold fmt10;rw[if_neg (by omega)]
   exact Pn 20 _ 10 (by have:(10:Nat)^10=10000000000:=by decide
                        omega) (by decide)
  have e2:wr .i64 (aG 10 (len (fmt10 v)))=((10 - (fmt10 v).length:Nat):Int):=by
   unfold aG len wr IntKind.wrap
   simp [IntKind.bits,IntKind.signed]
   omega
  have e3:aiZ v 10=some (fmt10 v):=by
   unfold aiZ
   rw[show band (ieq 10 10) (band (ile (-9223372036854775808) v) (ile v 9223372036854775807))=true by rw[rO,rO,lZ,lZ];exact⟨rfl,hv⟩];rfl
  have e4:ajJ [UInt8.ofNat 48] ((10 - (fmt10 v).length:Nat):Int)=some (List.replicate (10 - (fmt10 v).length) 48):=by
   unfold ajJ
   rw[show band (ile 0 ((10 - (fmt10 v).length:Nat):Int)) (band (ile ((10 - (fmt10 v).length:Nat):Int) 9223372036854775807) (ile (jq (len [UInt8.ofNat 48]) ((10 - (fmt10 v).length:Nat):Int)) 140737488355328))=true by
    rw[rO,rO,lZ,lZ,lZ];simp only[jq,len,List.length_singleton];omega]
   simp only[cnd,itn,Int.toNat_natCast]
   rw[show UInt8.ofNat 48=48 from rfl,Y3]
  rw[if_neg h,e1,e3]
  simp only[cnd,af,Option.bind_some,e2,e4]
  rw[show ile (ax 5 (len (List.replicate (10 - (fmt10 v).length) (48:UInt8)))) 68719476736=true by rw[lZ];simp only[ax,len,List.length_replicate];omega]
  simp only
  rw[show ile (ax (len (jc [UInt8.ofNat 115,UInt8.ofNat 110,UInt8.ofNat 97,UInt8.ofNat 112,UInt8.ofNat 46] (List.replicate (10 - (fmt10 v).length) (48:UInt8)))) (len (fmt10 v))) 68719476736=true by rw[lZ];simp only[ax,len,jc,List.length_append,List.length_replicate,List.length_cons,List.length_nil];omega]
  rfl
theorem TW:dW PG 36 yN:=by
 refine ad6 (xs:=[.str]) (rs:=[.bool]) rfl rfl (adO aZ (by kernel_rfl)) fun(x:List UInt8) (y:Bool) w hrun hg=> ?_
 have hy:y=aF (ieq (CQ [115,110,97,112,46] x) 0):=(Option.some.inj hrun).symm
 subst hy
 show Calls PG 36 #[.string ⟨x.toArray⟩] w fun e w'=>e= .returned (.bool (aF (ieq (CQ [115,110,97,112,46] x) 0)))/\RowKit.Below w.heap.size w w'
 have hcut:=Go.Proofs.Any.strings_CutPrefix BH ⟨x.toArray⟩ ⟨#[115,110,97,112,46]⟩ w
 change Calls PG 90 #[.string ⟨x.toArray⟩,.string ⟨#[115,110,97,112,46]⟩] w (fun e w'=>e= .returned (.tuple #[.string ⟨(Go.Lib.trimPrefix x [115,110,97,112,46]).toArray⟩,.bool (Go.Lib.hasPrefix x [115,110,97,112,46])])/\w'=w)at hcut
 have nz:∀b:Bool,b=decide (CQ [115,110,97,112,46] x≠0)->aF (ieq (CQ [115,110,97,112,46] x) 0)=b:=fun b hb=>by
  rw[hb]
  by_cases h:CQ [115,110,97,112,46] x=0<;>simp [aF,ieq,h]
 cases hpf:Go.Lib.hasPrefix x [115,110,97,112,46]with
 |false=>
  rw[hpf]at hcut
  have hz:CQ [115,110,97,112,46] x=0:=if_neg fun g=>by
   have:Go.Lib.hasPrefix x [115,110,97,112,46]=true:=by
    unfold Go.Lib.hasPrefix
    rw[List.isPrefixOf_iff_prefix]
    exact⟨x.drop 5,by conv=>rhs;rw[<-List.take_append_drop 5 x,show x.take 5=_ from g.1]⟩
   rw[hpf]at this;cases this
  rw[hz]
  exact adk _ _ w hcut
 |true=>
  rw[hpf]at hcut
  have htk:x.take 5=[115,110,97,112,46]:=by
   unfold Go.Lib.hasPrefix at hpf
   rw[List.isPrefixOf_iff_prefix]at hpf
   obtain⟨r,rfl⟩:=hpf
   rfl
  rw[show Go.Lib.trimPrefix x [115,110,97,112,46]=x.drop 5 by unfold Go.Lib.trimPrefix;rw[if_pos hpf];rfl]at hcut
  by_cases hl:(x.drop 5).length=10
  ·have hsame:=ajH [115,110,97,112,46] x htk (by simp) hl
   change (match Go.Lib.parseIntB 64 (x.drop 5)with | .ok v=>decide (ER [115,110,97,112,46] v=x) | _=>false)=_ at hsame
   have hsz:(⟨(x.drop 5).toArray⟩:ByteArray).size=10:=by
    show(x.drop 5).toArray.size=10
    rw[List.size_toArray];exact hl
   cases hp:Go.Lib.parseIntB 64 (x.drop 5)with
   |ok v=>
    rw[hp]at hsame
    have h2:=(Go.Proofs.Any.strconv_ParseInt_10_at64_ok mr ⟨(x.drop 5).toArray⟩ (by rw[hsz];decide) v hp w).mono (R':=fun e w'=>e= .returned (.tuple #[.int .i64 v,.nilIface])/\RowKit.Below w.heap.size w w') fun e w' ⟨he,hw⟩=>⟨he,by
     rcases hw with rfl | ⟨t,rfl⟩
     ·exact RowKit.Below.refl _ _
     ·exact Go.Lib.bytesWorld_below _ _ _⟩
    have h3:∀w1,RowKit.Below w.heap.size w w1->Calls PG 17 #[.int .i64 v] w1 fun e w'=>e= .returned (.string ⟨(ER [115,110,97,112,46] v).toArray⟩)/\RowKit.Below w1.heap.size w1 w':=fun w1 hb=>
     dW.calls (xs:=[.int .i64]) (r:= .str) aZ (by kernel_rfl) Eb rfl rfl v (ER [115,110,97,112,46] v) (ajy v (ajW hp)) w1 (hg.mono (fun b h=>Nat.lt_of_lt_of_le h hb.size) (fun b h=>hb.block b h))
    have:=adW ⟨x.toArray⟩ ⟨(x.drop 5).toArray⟩ w v ⟨(ER [115,110,97,112,46] v).toArray⟩ hcut hsz h2 h3
    rw[ByteArray.toList_eq,ByteArray.toList_eq]at this
    rw[nz _ hsame]
    refine this.mono fun e w' ⟨he,hb⟩=>⟨he.trans ?_,hb⟩
    congr 2
    simp only
    rw[Bool.eq_iff_iff];simp
   |«syntax»=>
    rw[hp]at hsame
    obtain⟨_,c,t,fr,hc,te,pe,rfl⟩:=hg (2,aiM) (by simp [glL])
    have hcell:w.cell? ⟨2,0,none⟩=some (.iface te pe):=by unfold World.cell?;simp only[hc];rfl
    rw[nz _ hsame]
    refine QX ⟨x.toArray⟩ ⟨(x.drop 5).toArray⟩ w _ _ (fun _=>True) hcut hsz ((Go.Proofs.Any.strconv_ParseInt_10_at64_syntax mr ⟨(x.drop 5).toArray⟩ (by rw[hsz];decide) hp _ w hcell (.inr ⟨te,pe,rfl⟩)).mono fun e w' ⟨N,he,_,_,hb⟩=>⟨_,he,hb⟩)
   |range=>
    rw[hp]at hsame
    obtain⟨_,c,t,fr,hc,te,pe,rfl⟩:=hg (3,aiM) (by simp [glL])
    have hcell:w.cell? ⟨3,0,none⟩=some (.iface te pe):=by unfold World.cell?;simp only[hc];rfl
    rw[nz _ hsame]
    refine QX ⟨x.toArray⟩ ⟨(x.drop 5).toArray⟩ w _ _ (fun _=>True) hcut hsz ((Go.Proofs.Any.strconv_ParseInt_10_at64_range mr ⟨(x.drop 5).toArray⟩ (by rw[hsz];decide) hp _ w hcell (.inr ⟨te,pe,rfl⟩)).mono fun e w' ⟨N,he,_,_,hb⟩=>⟨_,he,hb⟩)
  ·have hz:CQ [115,110,97,112,46] x=0:=if_neg fun g=>hl g.2.1
   rw[hz]
   refine aaT _ _ w hcut fun g=>hl ?_
   have g:(x.drop 5).toArray.size=10:=g
   rwa[List.size_toArray]at g
def Ip:LSh:=⟨304,[(72,.int .i64),(71,.ro .file)],[(11,.mp 336 0),(10,.mp 304 0)],[(304,[.int .i64])],[(73,.int .i64)],[(336,[.val .keeper])],[]⟩
@[reducible] def GI:List jb:=[⟨.exit 1,[],[(336,[.val .keeper])],[]⟩]
def aQ (p0:Int) (p1:(List ay)) (p2:Int) (v0:Int) (v1:bU):Option ((Int×bU) ⊕ ((bU))):=cnd (ilt v0 p0) (cnd (band (ile 0 v0) (ilt v0 (len p1))) (af (tX (ah p1 (itn v0)).name) fun y0 => af (cnd y0 (dZ p2) (some [])) fun y1 => cnd (band y0 (aF (seq (ah p1 (itn v0)).name y1))) (cnd (ieq v1.e 0) (af (qf v1.d (ah p1 (itn v0)).name) fun y2 => some (Sum.inl (wr .i64 (ax v0 1),bU.mk y2.fst y2.snd))) (some (Sum.inl (wr .i64 (ax v0 1),v1)))) (some (Sum.inl (wr .i64 (ax v0 1),v1)))) none) (some (Sum.inr v1))
def FK:iO:=Ip.spec GI [74,75,76,15,77,78,79,80,81,82,83,84,85,86,87,88,89,90,91,73] (fun p v=>aQ p.1 p.2.1 p.2.2 v.1 v.2)
def pR (x0:ak) (x1:ai):Option (ak×Int×Int):=af (rD x1) fun y0 => cnd (aF (ieq y0.snd 0)) (some (x0,0,1)) (af (sH x0) fun y1 => cnd (ieq y1.snd 1) (some (x0,0,y1.snd)) (cnd (ieq y1.snd 9) (some (x0,0,y1.snd)) (cnd (ile 1000000000 y1.fst.gen) (some (x0,0,3)) (af (kM x0 [(UInt8.ofNat 116),(UInt8.ofNat 109),(UInt8.ofNat 112)]) fun y2 => cnd (ieq y2.snd 0) (af (qf x0 [(UInt8.ofNat 116),(UInt8.ofNat 109),(UInt8.ofNat 112)]) fun y3 => cnd (ieq y3.snd 0) (af (iK y3.fst [(UInt8.ofNat 116),(UInt8.ofNat 109),(UInt8.ofNat 112)] y0.fst) fun y4 => cnd (ieq y4.snd 0) (af (jA y4.fst [(UInt8.ofNat 116),(UInt8.ofNat 109),(UInt8.ofNat 112)]) fun y5 => cnd (ieq y5.snd 0) (af (dZ (wr .i64 (ax y1.fst.gen 1))) fun y6 => af (jT y5.fst [(UInt8.ofNat 116),(UInt8.ofNat 109),(UInt8.ofNat 112)] y6) fun y7 => cnd (ieq y7.snd 0) (af (gV y7.fst (dM.mk (wr .i64 (ax y1.fst.gen 1)) x1.lsn)) fun y8 => af (bT (fun v => aQ (len y8.fst.files) y8.fst.files (wr .i64 (ax y1.fst.gen 1)) v.fst v.snd) LF (0,bU.mk y8.fst y8.snd)) fun y9 => cnd (aF (ieq y9.e 0)) (some (y9.d,0,y9.e)) (some (y9.d,wr .i64 (ax y1.fst.gen 1),0))) (af (bT (fun v => aQ (len y7.fst.files) y7.fst.files (wr .i64 (ax y1.fst.gen 1)) v.fst v.snd) LF (0,bU.mk y7.fst y7.snd)) fun y10 => cnd (aF (ieq y10.e 0)) (some (y10.d,0,y10.e)) (some (y10.d,wr .i64 (ax y1.fst.gen 1),0)))) (cnd (ieq y5.snd 0) (af (gV y5.fst (dM.mk (wr .i64 (ax y1.fst.gen 1)) x1.lsn)) fun y11 => af (bT (fun v => aQ (len y11.fst.files) y11.fst.files (wr .i64 (ax y1.fst.gen 1)) v.fst v.snd) LF (0,bU.mk y11.fst y11.snd)) fun y12 => cnd (aF (ieq y12.e 0)) (some (y12.d,0,y12.e)) (some (y12.d,wr .i64 (ax y1.fst.gen 1),0))) (af (bT (fun v => aQ (len y5.fst.files) y5.fst.files (wr .i64 (ax y1.fst.gen 1)) v.fst v.snd) LF (0,bU.mk y5.fst y5.snd)) fun y13 => cnd (aF (ieq y13.e 0)) (some (y13.d,0,y13.e)) (some (y13.d,wr .i64 (ax y1.fst.gen 1),0))))) (cnd (ieq y4.snd 0) (af (dZ (wr .i64 (ax y1.fst.gen 1))) fun y14 => af (jT y4.fst [(UInt8.ofNat 116),(UInt8.ofNat 109),(UInt8.ofNat 112)] y14) fun y15 => cnd (ieq y15.snd 0) (af (gV y15.fst (dM.mk (wr .i64 (ax y1.fst.gen 1)) x1.lsn)) fun y16 => af (bT (fun v => aQ (len y16.fst.files) y16.fst.files (wr .i64 (ax y1.fst.gen 1)) v.fst v.snd) LF (0,bU.mk y16.fst y16.snd)) fun y17 => cnd (aF (ieq y17.e 0)) (some (y17.d,0,y17.e)) (some (y17.d,wr .i64 (ax y1.fst.gen 1),0))) (af (bT (fun v => aQ (len y15.fst.files) y15.fst.files (wr .i64 (ax y1.fst.gen 1)) v.fst v.snd) LF (0,bU.mk y15.fst y15.snd)) fun y18 => cnd (aF (ieq y18.e 0)) (some (y18.d,0,y18.e)) (some (y18.d,wr .i64 (ax y1.fst.gen 1),0)))) (cnd (ieq y4.snd 0) (af (gV y4.fst (dM.mk (wr .i64 (ax y1.fst.gen 1)) x1.lsn)) fun y19 => af (bT (fun v => aQ (len y19.fst.files) y19.fst.files (wr .i64 (ax y1.fst.gen 1)) v.fst v.snd) LF (0,bU.mk y19.fst y19.snd)) fun y20 => cnd (aF (ieq y20.e 0)) (some (y20.d,0,y20.e)) (some (y20.d,wr .i64 (ax y1.fst.gen 1),0))) (af (bT (fun v => aQ (len y4.fst.files) y4.fst.files (wr .i64 (ax y1.fst.gen 1)) v.fst v.snd) LF (0,bU.mk y4.fst y4.snd)) fun y21 => cnd (aF (ieq y21.e 0)) (some (y21.d,0,y21.e)) (some (y21.d,wr .i64 (ax y1.fst.gen 1),0)))))) (cnd (ieq y3.snd 0) (af (jA y3.fst [(UInt8.ofNat 116),(UInt8.ofNat 109),(UInt8.ofNat 112)]) fun y22 => cnd (ieq y22.snd 0) (af (dZ (wr .i64 (ax y1.fst.gen 1))) fun y23 => af (jT y22.fst [(UInt8.ofNat 116),(UInt8.ofNat 109),(UInt8.ofNat 112)] y23) fun y24 => cnd (ieq y24.snd 0) (af (gV y24.fst (dM.mk (wr .i64 (ax y1.fst.gen 1)) x1.lsn)) fun y25 => af (bT (fun v => aQ (len y25.fst.files) y25.fst.files (wr .i64 (ax y1.fst.gen 1)) v.fst v.snd) LF (0,bU.mk y25.fst y25.snd)) fun y26 => cnd (aF (ieq y26.e 0)) (some (y26.d,0,y26.e)) (some (y26.d,wr .i64 (ax y1.fst.gen 1),0))) (af (bT (fun v => aQ (len y24.fst.files) y24.fst.files (wr .i64 (ax y1.fst.gen 1)) v.fst v.snd) LF (0,bU.mk y24.fst y24.snd)) fun y27 => cnd (aF (ieq y27.e 0)) (some (y27.d,0,y27.e)) (some (y27.d,wr .i64 (ax y1.fst.gen 1),0)))) (cnd (ieq y22.snd 0) (af (gV y22.fst (dM.mk (wr .i64 (ax y1.fst.gen 1)) x1.lsn)) fun y28 => af (bT (fun v => aQ (len y28.fst.files) y28.fst.files (wr .i64 (ax y1.fst.gen 1)) v.fst v.snd) LF (0,bU.mk y28.fst y28.snd)) fun y29 => cnd (aF (ieq y29.e 0)) (some (y29.d,0,y29.e)) (some (y29.d,wr .i64 (ax y1.fst.gen 1),0))) (af (bT (fun v => aQ (len y22.fst.files) y22.fst.files (wr .i64 (ax y1.fst.gen 1)) v.fst v.snd) LF (0,bU.mk y22.fst y22.snd)) fun y30 => cnd (aF (ieq y30.e 0)) (some (y30.d,0,y30.e)) (some (y30.d,wr .i64 (ax y1.fst.gen 1),0))))) (cnd (ieq y3.snd 0) (af (dZ (wr .i64 (ax y1.fst.gen 1))) fun y31 => af (jT y3.fst [(UInt8.ofNat 116),(UInt8.ofNat 109),(UInt8.ofNat 112)] y31) fun y32 => cnd (ieq y32.snd 0) (af (gV y32.fst (dM.mk (wr .i64 (ax y1.fst.gen 1)) x1.lsn)) fun y33 => af (bT (fun v => aQ (len y33.fst.files) y33.fst.files (wr .i64 (ax y1.fst.gen 1)) v.fst v.snd) LF (0,bU.mk y33.fst y33.snd)) fun y34 => cnd (aF (ieq y34.e 0)) (some (y34.d,0,y34.e)) (some (y34.d,wr .i64 (ax y1.fst.gen 1),0))) (af (bT (fun v => aQ (len y32.fst.files) y32.fst.files (wr .i64 (ax y1.fst.gen 1)) v.fst v.snd) LF (0,bU.mk y32.fst y32.snd)) fun y35 => cnd (aF (ieq y35.e 0)) (some (y35.d,0,y35.e)) (some (y35.d,wr .i64 (ax y1.fst.gen 1),0)))) (cnd (ieq y3.snd 0) (af (gV y3.fst (dM.mk (wr .i64 (ax y1.fst.gen 1)) x1.lsn)) fun y36 => af (bT (fun v => aQ (len y36.fst.files) y36.fst.files (wr .i64 (ax y1.fst.gen 1)) v.fst v.snd) LF (0,bU.mk y36.fst y36.snd)) fun y37 => cnd (aF (ieq y37.e 0)) (some (y37.d,0,y37.e)) (some (y37.d,wr .i64 (ax y1.fst.gen 1),0))) (af (bT (fun v => aQ (len y3.fst.files) y3.fst.files (wr .i64 (ax y1.fst.gen 1)) v.fst v.snd) LF (0,bU.mk y3.fst y3.snd)) fun y38 => cnd (aF (ieq y38.e 0)) (some (y38.d,0,y38.e)) (some (y38.d,wr .i64 (ax y1.fst.gen 1),0))))))) (af (iK x0 [(UInt8.ofNat 116),(UInt8.ofNat 109),(UInt8.ofNat 112)] y0.fst) fun y39 => cnd (ieq y39.snd 0) (af (jA y39.fst [(UInt8.ofNat 116),(UInt8.ofNat 109),(UInt8.ofNat 112)]) fun y40 => cnd (ieq y40.snd 0) (af (dZ (wr .i64 (ax y1.fst.gen 1))) fun y41 => af (jT y40.fst [(UInt8.ofNat 116),(UInt8.ofNat 109),(UInt8.ofNat 112)] y41) fun y42 => cnd (ieq y42.snd 0) (af (gV y42.fst (dM.mk (wr .i64 (ax y1.fst.gen 1)) x1.lsn)) fun y43 => af (bT (fun v => aQ (len y43.fst.files) y43.fst.files (wr .i64 (ax y1.fst.gen 1)) v.fst v.snd) LF (0,bU.mk y43.fst y43.snd)) fun y44 => cnd (aF (ieq y44.e 0)) (some (y44.d,0,y44.e)) (some (y44.d,wr .i64 (ax y1.fst.gen 1),0))) (af (bT (fun v => aQ (len y42.fst.files) y42.fst.files (wr .i64 (ax y1.fst.gen 1)) v.fst v.snd) LF (0,bU.mk y42.fst y42.snd)) fun y45 => cnd (aF (ieq y45.e 0)) (some (y45.d,0,y45.e)) (some (y45.d,wr .i64 (ax y1.fst.gen 1),0)))) (cnd (ieq y40.snd 0) (af (gV y40.fst (dM.mk (wr .i64 (ax y1.fst.gen 1)) x1.lsn)) fun y46 => af (bT (fun v => aQ (len y46.fst.files) y46.fst.files (wr .i64 (ax y1.fst.gen 1)) v.fst v.snd) LF (0,bU.mk y46.fst y46.snd)) fun y47 => cnd (aF (ieq y47.e 0)) (some (y47.d,0,y47.e)) (some (y47.d,wr .i64 (ax y1.fst.gen 1),0))) (af (bT (fun v => aQ (len y40.fst.files) y40.fst.files (wr .i64 (ax y1.fst.gen 1)) v.fst v.snd) LF (0,bU.mk y40.fst y40.snd)) fun y48 => cnd (aF (ieq y48.e 0)) (some (y48.d,0,y48.e)) (some (y48.d,wr .i64 (ax y1.fst.gen 1),0))))) (cnd (ieq y39.snd 0) (af (dZ (wr .i64 (ax y1.fst.gen 1))) fun y49 => af (jT y39.fst [(UInt8.ofNat 116),(UInt8.ofNat 109),(UInt8.ofNat 112)] y49) fun y50 => cnd (ieq y50.snd 0) (af (gV y50.fst (dM.mk (wr .i64 (ax y1.fst.gen 1)) x1.lsn)) fun y51 => af (bT (fun v => aQ (len y51.fst.files) y51.fst.files (wr .i64 (ax y1.fst.gen 1)) v.fst v.snd) LF (0,bU.mk y51.fst y51.snd)) fun y52 => cnd (aF (ieq y52.e 0)) (some (y52.d,0,y52.e)) (some (y52.d,wr .i64 (ax y1.fst.gen 1),0))) (af (bT (fun v => aQ (len y50.fst.files) y50.fst.files (wr .i64 (ax y1.fst.gen 1)) v.fst v.snd) LF (0,bU.mk y50.fst y50.snd)) fun y53 => cnd (aF (ieq y53.e 0)) (some (y53.d,0,y53.e)) (some (y53.d,wr .i64 (ax y1.fst.gen 1),0)))) (cnd (ieq y39.snd 0) (af (gV y39.fst (dM.mk (wr .i64 (ax y1.fst.gen 1)) x1.lsn)) fun y54 => af (bT (fun v => aQ (len y54.fst.files) y54.fst.files (wr .i64 (ax y1.fst.gen 1)) v.fst v.snd) LF (0,bU.mk y54.fst y54.snd)) fun y55 => cnd (aF (ieq y55.e 0)) (some (y55.d,0,y55.e)) (some (y55.d,wr .i64 (ax y1.fst.gen 1),0))) (af (bT (fun v => aQ (len y39.fst.files) y39.fst.files (wr .i64 (ax y1.fst.gen 1)) v.fst v.snd) LF (0,bU.mk y39.fst y39.snd)) fun y56 => cnd (aF (ieq y56.e 0)) (some (y56.d,0,y56.e)) (some (y56.d,wr .i64 (ax y1.fst.gen 1),0))))))))))
noncomputable def MK:Cx:={ P:=PG,ety:=ety,fn:=look [(24,Fe),(25,qy),(21,lU),(75,Dk),(29,uf),(31,xG),(17,o6),(33,Dl),(35,E8),(36,yN)],inl:=fO [4095,26,74,27,28,30,32,34],lp:=bg [(10,65530,FK)] }
theorem NJ (p0:Int) (p1:(List ay)) (p2:Int) (v0:Int) (v1:bU):kD MK 900 10 65530 (iq PG 10 65530) Ip GI (p0,p1,p2) (v0,v1)=aQ p0 p1 p2 v0 v1:=by kernel_rfl
theorem XI (x0:ak) (x1:ai):cO MK 10 [.val .disk,.val .state] [.val .disk,.int .i64,.int .i64] (x0,x1)=pR x0 x1:=by kernel_rfl
def vX:aV:=mkSpec [.val .disk,.val .state] [.val .disk,.int .i64,.int .i64] false (fun x=>pR x.1 x.2)
theorem Q7:dW PG 10 vX:=
 have K:CxR MK:=aZ.cx (fun _=>rfl) (l:=[(24,Fe),(25,qy),(21,lU),(75,Dk),(29,uf),(31,xG),(17,o6),(33,Dl),(35,E8),(36,yN)]) ⟨aaR,MR,FU,ZE,Pj,UN,Eb,YE,aa4,TW,trivial⟩
 aO K (aJ (l:=[(10,65530,FK)]) rfl ⟨dU (n:=900) (f:=10) K (by kernel_rfl) (by kernel_rfl) (by kernel_rfl) (by kernel_rfl) (by kernel_rfl) (fun p v r h=>(NJ p.1 p.2.1 p.2.2 v.1 v.2).trans h),trivial⟩) (by kernel_rfl) (fun x y h=>(XI x.1 x.2).trans h) rfl rfl
end
end Go.Av
