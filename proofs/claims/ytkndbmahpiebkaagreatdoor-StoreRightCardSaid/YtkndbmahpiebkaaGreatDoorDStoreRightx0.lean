/- The functions that this claim reaches, each as a plain function; each is what its text comes to. No condition. -/
import Derived.Test.YtkndbmahpiebkaaGreatDoorAvE
import Derived.Test.YtkndbmahpiebkaaGreatDoorProg
import Derived.KernelRfl
import Derived.Shelf.Small.Wraps
import Derived.Shelf.Strconv.ParseIntPublic10
import Derived.WalkKit
set_option linter.unusedVariables false
set_option linter.unusedSimpArgs false
set_option linter.unnecessarySimpa false
namespace Go.Av
open Go
def au6:List (Nat×E):=[(2,.i64),(3,.i64),(4,.bool),(5,.u8),(6,.u8),(9,.str),(10,.str),(11,.str),(24,.disk),(30,.state),(34,.i64),(51,.bts),(53,.file),(61,.expo),(64,.recd),(68,.slot),(73,.keeper),(95,.order),(97,.cell),(101,.state),(132,.a20),(159,.reader),(198,.note),(251,.i64),(270,.a3),(292,.u8),(293,.u8)]
def ety (t:Nat):Option E:=look au6 t
noncomputable abbrev PG:Program:=Go.Proofs.Tryz.prog
end Go.Av
namespace Go.Av
open Go
noncomputable section
theorem avw:EOk PG 2 .i64:=qW (by kernel_rfl) (by kernel_rfl)
theorem avL:EOk PG 3 .i64:=qW (by kernel_rfl) (by kernel_rfl)
theorem avC:EOk PG 4 .bool:=qW (by kernel_rfl) (by kernel_rfl)
theorem avs:EOk PG 5 .u8:=qW (by kernel_rfl) (by kernel_rfl)
theorem avh:EOk PG 6 .u8:=qW (by kernel_rfl) (by kernel_rfl)
theorem avi:EOk PG 9 .str:=qW (by kernel_rfl) (by kernel_rfl)
theorem atV:EOk PG 10 .str:=qW (by kernel_rfl) (by kernel_rfl)
theorem aub:EOk PG 11 .str:=qW (by kernel_rfl) (by kernel_rfl)
theorem aua:EOk PG 24 .disk:=qW (by kernel_rfl) (by kernel_rfl)
theorem au0:EOk PG 30 .state:=qW (by kernel_rfl) (by kernel_rfl)
theorem aun:EOk PG 34 .i64:=qW (by kernel_rfl) (by kernel_rfl)
theorem auf:EOk PG 51 .bts:=qW (by kernel_rfl) (by kernel_rfl)
theorem auB:EOk PG 53 .file:=qW (by kernel_rfl) (by kernel_rfl)
theorem aut:EOk PG 61 .expo:=qW (by kernel_rfl) (by kernel_rfl)
theorem auc:EOk PG 64 .recd:=qW (by kernel_rfl) (by kernel_rfl)
theorem auV:EOk PG 68 .slot:=qW (by kernel_rfl) (by kernel_rfl)
theorem aur:EOk PG 73 .keeper:=qW (by kernel_rfl) (by kernel_rfl)
theorem atO:EOk PG 95 .order:=qW (by kernel_rfl) (by kernel_rfl)
theorem auj:EOk PG 97 .cell:=qW (by kernel_rfl) (by kernel_rfl)
theorem atc:EOk PG 101 .state:=qW (by kernel_rfl) (by kernel_rfl)
theorem aso:EOk PG 132 .a20:=qW (by kernel_rfl) (by kernel_rfl)
theorem asN:EOk PG 159 .reader:=qW (by kernel_rfl) (by kernel_rfl)
theorem asu:EOk PG 198 .note:=qW (by kernel_rfl) (by kernel_rfl)
theorem asB:EOk PG 251 .i64:=qW (by kernel_rfl) (by kernel_rfl)
theorem arV:EOk PG 270 .a3:=qW (by kernel_rfl) (by kernel_rfl)
theorem asA:EOk PG 292 .u8:=qW (by kernel_rfl) (by kernel_rfl)
theorem asy:EOk PG 293 .u8:=qW (by kernel_rfl) (by kernel_rfl)
theorem aP:Qs PG au6:=⟨by kernel_rfl,⟨avw,avL,avC,avs,avh,avi,atV,aub,aua,au0,aun,auf,auB,aut,auc,auV,aur,atO,auj,atc,aso,asN,asu,asB,arV,asA,asy,trivial⟩,by kernel_rfl,by kernel_rfl,by kernel_rfl⟩
end
end Go.Av
namespace Go.Av
open Go
noncomputable section
def Sr (x0:Int) (x1:Int):Option (Int×Int):=some (wr .u32 (dN .u64 (wr .u64 (dY (wr .u64 x0) (wr .u64 x1))) 32),wr .u32 (wr .u64 (dY (wr .u64 x0) (wr .u64 x1))))
noncomputable def RU:Cx:={ P:=PG,ety:=ety,fn:=look [],inl:=dR [],lp:=aS [] }
theorem XV (x0:Int) (x1:Int):bP RU 175 [.int .u32,.int .u32] [.int .u32,.int .u32] (x0,x1)=Sr x0 x1:=by kernel_rfl
def Dq:aO:=mkSpec [.int .u32,.int .u32] [.int .u32,.int .u32] true (fun x=>Sr x.1 x.2)
theorem aaY:dI PG 175 Dq:=
 have K:CxR RU:=aP.cx (fun _=>rfl) (l:=[]) trivial
 aH K (aG (l:=[]) rfl trivial) (by kernel_rfl) (fun x y h=>(XV x.1 x.2).trans h) rfl rfl
def tJ (x0:Int) (x1:Int):Option (Int×Int):=some (wr .u64 (aj (wr .u64 (aj (wr .u64 (dY (dN .u64 x0 32) (dN .u64 x1 32))) (dN .u64 (wr .u64 (aj (wr .u64 (dY (dN .u64 x0 32) (wr .u64 (kL .u64 x1 4294967295)))) (dN .u64 (wr .u64 (dY (wr .u64 (kL .u64 x0 4294967295)) (wr .u64 (kL .u64 x1 4294967295)))) 32))) 32))) (dN .u64 (wr .u64 (aj (wr .u64 (kL .u64 (wr .u64 (aj (wr .u64 (dY (dN .u64 x0 32) (wr .u64 (kL .u64 x1 4294967295)))) (dN .u64 (wr .u64 (dY (wr .u64 (kL .u64 x0 4294967295)) (wr .u64 (kL .u64 x1 4294967295)))) 32))) 4294967295)) (wr .u64 (dY (wr .u64 (kL .u64 x0 4294967295)) (dN .u64 x1 32))))) 32)),wr .u64 (dY x0 x1))
noncomputable def RD:Cx:={ P:=PG,ety:=ety,fn:=look [],inl:=dR [],lp:=aS [] }
theorem Yp (x0:Int) (x1:Int):bP RD 176 [.int .u64,.int .u64] [.int .u64,.int .u64] (x0,x1)=tJ x0 x1:=by kernel_rfl
def sO:aO:=mkSpec [.int .u64,.int .u64] [.int .u64,.int .u64] true (fun x=>tJ x.1 x.2)
theorem QS:dI PG 176 sO:=
 have K:CxR RD:=aP.cx (fun _=>rfl) (l:=[]) trivial
 aH K (aG (l:=[]) rfl trivial) (by kernel_rfl) (fun x y h=>(Yp x.1 x.2).trans h) rfl rfl
def G8 (x0:Int) (x1:Int):Option (Int×Int):=af (tJ x0 x1) fun y0 => some y0
noncomputable def Xc:Cx:={ P:=PG,ety:=ety,fn:=look [(175,Dq),(176,sO)],inl:=dR [],lp:=aS [] }
theorem aaE (x0:Int) (x1:Int):bP Xc 114 [.int .u64,.int .u64] [.int .u64,.int .u64] (x0,x1)=G8 x0 x1:=by kernel_rfl
def vC:aO:=mkSpec [.int .u64,.int .u64] [.int .u64,.int .u64] true (fun x=>G8 x.1 x.2)
theorem Ua:dI PG 114 vC:=
 have K:CxR Xc:=aP.cx (fun _=>rfl) (l:=[(175,Dq),(176,sO)]) ⟨aaY,QS,trivial⟩
 aH K (aG (l:=[]) rfl trivial) (by kernel_rfl) (fun x y h=>(aaE x.1 x.2).trans h) rfl rfl
def AQ:LSh:=⟨94,[],[(7,.mf 192)],[],[(8,.int .i64)],[],[(192,.expo)]⟩
@[reducible] def Bc:List fO:=[⟨.exit 0,[],[],[(192,.expo)]⟩]
def uj (v0:Int) (v1:(List dL)):Option ((Int×(List dL)) ⊕ (((List dL)))):=cnd (ilt v0 (len v1)) (cnd (band (ile 0 v0) (ile v0 (len v1))) (cnd (band (ile 0 v0) (ile v0 (len v1))) (some (Sum.inl (wr .i64 (aj v0 (tu (len (aA (aN v1 0) (itn v0))) (nti (itn (aI (len v1) v0))))),fZ v1 (itn v0) (aA (aA (aN v1 0) (itn v0)) (itn (tu (len (aA (aN v1 0) (itn v0))) (nti (itn (aI (len v1) v0))))))))) none) none) (some (Sum.inr v1))
def zk:dU:=AQ.spec Bc [34,35,36,37,38,39,40,41,42,43,44,45,46,8] (fun p v=>uj v.1 v.2)
def xO (x0:(List dL)) (x1:Int):Option ((List dL)):=cnd (ilt x1 0) none (af (G8 (wr .u64 (len x0)) (wr .u64 x1)) fun y0 => cnd (bor (ilt 0 y0.fst) (ilt 9223372036854775807 y0.snd)) none (cnd (band (band (ile 0 (wr .i64 y0.snd)) (ile (wr .i64 y0.snd) (wr .i64 y0.snd))) (ile (wr .i64 y0.snd) 68719476736)) (af (bD (fun v => uj v.fst v.snd) LF (tu (len x0) (len (jR dL (itn (wr .i64 y0.snd)))),fZ (jR dL (itn (wr .i64 y0.snd))) 0 (aA x0 (itn (tu (len x0) (len (jR dL (itn (wr .i64 y0.snd))))))))) fun y1 => some y1) none))
noncomputable def xG:Cx:={ P:=PG,ety:=ety,fn:=look [(114,vC)],inl:=dR [],lp:=aS [(57,508,zk)] }
theorem Kv (v0:Int) (v1:(List dL)):fC xG 900 57 508 (dK PG 57 508) AQ Bc () (v0,v1)=uj v0 v1:=by kernel_rfl
theorem Pg (x0:(List dL)) (x1:Int):bP xG 57 [.ro .expo,.int .i64] [.buf .expo] (x0,x1)=xO x0 x1:=by kernel_rfl
def uJ:aO:=mkSpec [.ro .expo,.int .i64] [.buf .expo] true (fun x=>xO x.1 x.2)
theorem Ri:dI PG 57 uJ:=
 have K:CxR xG:=aP.cx (fun _=>rfl) (l:=[(114,vC)]) ⟨Ua,trivial⟩
 aH K (aG (l:=[(57,508,zk)]) rfl ⟨bF (n:=900) (f:=57) K (by kernel_rfl) (by kernel_rfl) (by kernel_rfl) (by kernel_rfl) (by kernel_rfl) (fun p v r h=>(Kv v.1 v.2).trans h),trivial⟩) (by kernel_rfl) (fun x y h=>(Pg x.1 x.2).trans h) rfl rfl
def EH:LSh:=⟨94,[],[(7,.mf 192)],[],[(8,.int .i64)],[],[(192,.i64)]⟩
@[reducible] def EI:List fO:=[⟨.exit 0,[],[],[(192,.i64)]⟩]
def wH (v0:Int) (v1:(List Int)):Option ((Int×(List Int)) ⊕ (((List Int)))):=cnd (ilt v0 (len v1)) (cnd (band (ile 0 v0) (ile v0 (len v1))) (cnd (band (ile 0 v0) (ile v0 (len v1))) (some (Sum.inl (wr .i64 (aj v0 (tu (len (aA (aN v1 0) (itn v0))) (nti (itn (aI (len v1) v0))))),fZ v1 (itn v0) (aA (aA (aN v1 0) (itn v0)) (itn (tu (len (aA (aN v1 0) (itn v0))) (nti (itn (aI (len v1) v0))))))))) none) none) (some (Sum.inr v1))
def DN:dU:=EH.spec EI [34,35,36,37,38,39,40,41,42,43,44,45,46,8] (fun p v=>wH v.1 v.2)
def BR (x0:(List Int)) (x1:Int):Option ((List Int)):=cnd (ilt x1 0) none (af (G8 (wr .u64 (len x0)) (wr .u64 x1)) fun y0 => cnd (bor (ilt 0 y0.fst) (ilt 9223372036854775807 y0.snd)) none (cnd (band (band (ile 0 (wr .i64 y0.snd)) (ile (wr .i64 y0.snd) (wr .i64 y0.snd))) (ile (wr .i64 y0.snd) 68719476736)) (af (bD (fun v => wH v.fst v.snd) LF (tu (len x0) (len (jR Int (itn (wr .i64 y0.snd)))),fZ (jR Int (itn (wr .i64 y0.snd))) 0 (aA x0 (itn (tu (len x0) (len (jR Int (itn (wr .i64 y0.snd))))))))) fun y1 => some y1) none))
noncomputable def BZ:Cx:={ P:=PG,ety:=ety,fn:=look [(114,vC)],inl:=dR [],lp:=aS [(58,508,DN)] }
theorem NR (v0:Int) (v1:(List Int)):fC BZ 900 58 508 (dK PG 58 508) EH EI () (v0,v1)=wH v0 v1:=by kernel_rfl
theorem SX (x0:(List Int)) (x1:Int):bP BZ 58 [.ro .i64,.int .i64] [.buf .i64] (x0,x1)=BR x0 x1:=by kernel_rfl
def xE:aO:=mkSpec [.ro .i64,.int .i64] [.buf .i64] true (fun x=>BR x.1 x.2)
theorem Ws:dI PG 58 xE:=
 have K:CxR BZ:=aP.cx (fun _=>rfl) (l:=[(114,vC)]) ⟨Ua,trivial⟩
 aH K (aG (l:=[(58,508,DN)]) rfl ⟨bF (n:=900) (f:=58) K (by kernel_rfl) (by kernel_rfl) (by kernel_rfl) (by kernel_rfl) (by kernel_rfl) (fun p v r h=>(NR v.1 v.2).trans h),trivial⟩) (by kernel_rfl) (fun x y h=>(SX x.1 x.2).trans h) rfl rfl
def uy (x0:ax):Option (Bool):=some (band (band (band (band (band (band (band (ile 1 x0.accounts) (ile x0.accounts 8)) (ile 1 x0.symbols)) (ile x0.symbols 8)) (ieq (len x0.cells) (wr .i64 (dY x0.accounts x0.symbols)))) (ieq (len x0.limits) (len x0.cells))) (ieq (len x0.caps) x0.accounts)) (ile (len x0.orders) 64))
noncomputable def OE:Cx:={ P:=PG,ety:=ety,fn:=look [],inl:=dR [],lp:=aS [] }
theorem VN (x0:ax):bP OE 120 [.val .state] [.bool] x0=uy x0:=by kernel_rfl
def Ad:aO:=mkSpec [.val .state] [.bool] true (fun x=>uy x)
theorem X9:dI PG 120 Ad:=
 have K:CxR OE:=aP.cx (fun _=>rfl) (l:=[]) trivial
 aH K (aG (l:=[]) rfl trivial) (by kernel_rfl) (fun x y h=>(VN x).trans h) rfl rfl
def kN (x0:aJ):Option (Bool):=some (bor (ay (ieq x0.newQty 0)) (ay (ieq x0.newPrice 0)))
noncomputable def W9:Cx:={ P:=PG,ety:=ety,fn:=look [],inl:=dR [],lp:=aS [] }
theorem aay (x0:aJ):bP W9 194 [.val .order] [.bool] x0=kN x0:=by kernel_rfl
def oP:aO:=mkSpec [.val .order] [.bool] true (fun x=>kN x)
theorem LH:dI PG 194 oP:=
 have K:CxR W9:=aP.cx (fun _=>rfl) (l:=[]) trivial
 aH K (aG (l:=[]) rfl trivial) (by kernel_rfl) (fun x y h=>(aay x).trans h) rfl rfl
def OT (x0:yC):Option (yC):=cnd (ieq x0.kind 1) (some (yC.mk x0.kind x0.order x0.account x0.symbol x0.side x0.qty x0.price 0 0 0 false 0 0)) (cnd (ieq x0.kind 2) (some (yC.mk x0.kind x0.order 0 0 0 x0.qty x0.price 0 0 0 false 0 0)) (cnd (ieq x0.kind 3) (some (yC.mk x0.kind x0.order 0 0 0 0 0 0 0 0 false 0 0)) (cnd (ieq x0.kind 4) (some (yC.mk x0.kind 0 x0.account x0.symbol 0 0 0 x0.long x0.short x0.opn false 0 0)) (cnd (ieq x0.kind 5) (some (yC.mk x0.kind 0 0 0 0 0 0 0 0 0 x0.on 0 0)) (cnd (ieq x0.kind 6) (some (yC.mk x0.kind x0.order 0 0 0 x0.qty x0.price 0 0 0 false x0.seq x0.what)) (some (yC.mk x0.kind 0 0 0 0 0 0 0 0 0 false 0 0)))))))
noncomputable def abJ:Cx:={ P:=PG,ety:=ety,fn:=look [],inl:=dR [],lp:=aS [] }
theorem aex (x0:yC):bP abJ 127 [.val .recd] [.val .recd] x0=OT x0:=by kernel_rfl
def Ot:aO:=mkSpec [.val .recd] [.val .recd] true (fun x=>OT x)
theorem ahy:dI PG 127 Ot:=
 have K:CxR abJ:=aP.cx (fun _=>rfl) (l:=[]) trivial
 aH K (aG (l:=[]) rfl trivial) (by kernel_rfl) (fun x y h=>(aex x).trans h) rfl rfl
def qF (x0:Int):Option (Bool):=some (band (ile 1 x0) (ile x0 1000000000000))
noncomputable def adR:Cx:={ P:=PG,ety:=ety,fn:=look [],inl:=dR [],lp:=aS [] }
theorem agi (x0:Int):bP adR 128 [.int .i64] [.bool] x0=qF x0:=by kernel_rfl
def Dh:aO:=mkSpec [.int .i64] [.bool] true (fun x=>qF x)
theorem abo:dI PG 128 Dh:=
 have K:CxR adR:=aP.cx (fun _=>rfl) (l:=[]) trivial
 aH K (aG (l:=[]) rfl trivial) (by kernel_rfl) (fun x y h=>(agi x).trans h) rfl rfl
def sV (x0:Int) (x1:Int):Option (Bool):=some (band (ile 0 x0) (ilt x0 x1))
noncomputable def aej:Cx:={ P:=PG,ety:=ety,fn:=look [],inl:=dR [],lp:=aS [] }
theorem ag9 (x0:Int) (x1:Int):bP aej 129 [.int .i64,.int .i64] [.bool] (x0,x1)=sV x0 x1:=by kernel_rfl
def Qm:aO:=mkSpec [.int .i64,.int .i64] [.bool] true (fun x=>sV x.1 x.2)
theorem aj3:dI PG 129 Qm:=
 have K:CxR aej:=aP.cx (fun _=>rfl) (l:=[]) trivial
 aH K (aG (l:=[]) rfl trivial) (by kernel_rfl) (fun x y h=>(ag9 x.1 x.2).trans h) rfl rfl
def su (x0:yC):Option (Bool):=some (band (ile 1 x0.qty) (ile 1 x0.price))
noncomputable def aef:Cx:={ P:=PG,ety:=ety,fn:=look [],inl:=dR [],lp:=aS [] }
theorem agp (x0:yC):bP aef 130 [.val .recd] [.bool] x0=su x0:=by kernel_rfl
def DR:aO:=mkSpec [.val .recd] [.bool] true (fun x=>su x)
theorem abO:dI PG 130 DR:=
 have K:CxR aef:=aP.cx (fun _=>rfl) (l:=[]) trivial
 aH K (aG (l:=[]) rfl trivial) (by kernel_rfl) (fun x y h=>(agp x).trans h) rfl rfl
def MB (x0:yC):Option (Bool):=af (cnd (ay (bor (ilt x0.seq 1) (ilt 1000000000 x0.seq))) (qF x0.order) (some false)) fun y0 => cnd (bor (bor (ilt x0.seq 1) (ilt 1000000000 x0.seq)) (ay y0)) (some false) (cnd (ieq x0.what 3) (some (band (ile 1 x0.qty) (ieq x0.price 0))) (cnd (ieq x0.what 5) (af (su x0) fun y1 => some y1) (cnd (ieq x0.what 1) (cnd (ieq x0.what 1) (some (band (ieq x0.qty 0) (ieq x0.price 0))) (some false)) (cnd (ieq x0.what 2) (cnd (ieq x0.what 2) (some (band (ieq x0.qty 0) (ieq x0.price 0))) (some false)) (cnd (ieq x0.what 4) (cnd (ieq x0.what 4) (some (band (ieq x0.qty 0) (ieq x0.price 0))) (some false)) (cnd (ieq x0.what 6) (some (band (ieq x0.qty 0) (ieq x0.price 0))) (some false)))))))
noncomputable def adY:Cx:={ P:=PG,ety:=ety,fn:=look [(128,Dh),(130,DR)],inl:=dR [],lp:=aS [] }
theorem af8 (x0:yC):bP adY 131 [.val .recd] [.bool] x0=MB x0:=by kernel_rfl
def Qb:aO:=mkSpec [.val .recd] [.bool] true (fun x=>MB x)
theorem aje:dI PG 131 Qb:=
 have K:CxR adY:=aP.cx (fun _=>rfl) (l:=[(128,Dh),(130,DR)]) ⟨abo,abO,trivial⟩
 aH K (aG (l:=[]) rfl trivial) (by kernel_rfl) (fun x y h=>(af8 x).trans h) rfl rfl
def wY (x0:yC):Option (Bool):=af (OT x0) fun y0 => cnd (ay (band (ieq x0.kind y0.kind) (band (ieq x0.order y0.order) (band (ieq x0.account y0.account) (band (ieq x0.symbol y0.symbol) (band (ieq x0.side y0.side) (band (ieq x0.qty y0.qty) (band (ieq x0.price y0.price) (band (ieq x0.long y0.long) (band (ieq x0.short y0.short) (band (ieq x0.opn y0.opn) (band (beq x0.on y0.on) (band (ieq x0.seq y0.seq) (ieq x0.what y0.what)))))))))))))) (some false) (cnd (ieq x0.kind 1) (af (qF x0.order) fun y1 => af (cnd y1 (sV x0.account 8) (some false)) fun y2 => af (cnd (band y1 y2) (sV x0.symbol 8) (some false)) fun y3 => af (cnd (band (band (band y1 y2) y3) (bor (ieq x0.side 1) (ieq x0.side 2))) (su x0) (some false)) fun y4 => some (band (band (band (band y1 y2) y3) (bor (ieq x0.side 1) (ieq x0.side 2))) y4)) (cnd (ieq x0.kind 2) (af (qF x0.order) fun y5 => af (cnd y5 (su x0) (some false)) fun y6 => some (band y5 y6)) (cnd (ieq x0.kind 3) (af (qF x0.order) fun y7 => some y7) (cnd (ieq x0.kind 4) (af (sV x0.account 8) fun y8 => af (cnd (band y8 (ay (band (band (ieq x0.symbol (-1)) (ieq x0.long 0)) (ieq x0.short 0)))) (sV x0.symbol 8) (some false)) fun y9 => some (band (band y8 (bor (band (band (ieq x0.symbol (-1)) (ieq x0.long 0)) (ieq x0.short 0)) y9)) (ile 0 (tu (tu x0.long x0.short) x0.opn)))) (cnd (ieq x0.kind 5) (some true) (cnd (ieq x0.kind 6) (af (MB x0) fun y10 => some y10) (some false)))))))
noncomputable def aei:Cx:={ P:=PG,ety:=ety,fn:=look [(127,Ot),(128,Dh),(129,Qm),(130,DR),(131,Qb)],inl:=dR [],lp:=aS [] }
theorem agm (x0:yC):bP aei 60 [.val .recd] [.bool] x0=wY x0:=by kernel_rfl
def pV:aO:=mkSpec [.val .recd] [.bool] true (fun x=>wY x)
theorem O3:dI PG 60 pV:=
 have K:CxR aei:=aP.cx (fun _=>rfl) (l:=[(127,Ot),(128,Dh),(129,Qm),(130,DR),(131,Qb)]) ⟨ahy,abo,aj3,abO,aje,trivial⟩
 aH K (aG (l:=[]) rfl trivial) (by kernel_rfl) (fun x y h=>(agm x).trans h) rfl rfl
def FI (x0:aJ):Option (Bool):=af (wY (yC.mk 1 x0.id x0.account x0.symbol x0.side x0.qty x0.price 0 0 0 false 0 0)) fun y0 => some y0
noncomputable def ZY:Cx:={ P:=PG,ety:=ety,fn:=look [(60,pV)],inl:=dR [],lp:=aS [] }
theorem acO (x0:aJ):bP ZY 218 [.val .order] [.bool] x0=FI x0:=by kernel_rfl
def Lm:aO:=mkSpec [.val .order] [.bool] true (fun x=>FI x)
theorem afv:dI PG 218 Lm:=
 have K:CxR ZY:=aP.cx (fun _=>rfl) (l:=[(60,pV)]) ⟨O3,trivial⟩
 aH K (aG (l:=[]) rfl trivial) (by kernel_rfl) (fun x y h=>(acO x).trans h) rfl rfl
def kQ (x0:aJ):Option (Bool):=af (kN x0) fun y0 => af (FI x0) fun y1 => cnd (bor (bor (bor (bor (ay y1) (ilt x0.filled 0)) (ilt x0.qty x0.filled)) (ilt x0.version 0)) (band y0 (ilt (tu x0.newQty x0.newPrice) 1))) (some false) (cnd (ieq x0.phase 1) (some (band (band (ieq x0.filled 0) (ieq x0.version 0)) (ay y0))) (cnd (ieq x0.phase 2) (some (ilt x0.filled x0.qty)) (cnd (ieq x0.phase 3) (some (ay y0)) (some false))))
noncomputable def ZQ:Cx:={ P:=PG,ety:=ety,fn:=look [(194,oP),(218,Lm)],inl:=dR [],lp:=aS [] }
theorem acN (x0:aJ):bP ZQ 180 [.val .order] [.bool] x0=kQ x0:=by kernel_rfl
def fJ:aO:=mkSpec [.val .order] [.bool] true (fun x=>kQ x)
theorem sQ:dI PG 180 fJ:=
 have K:CxR ZQ:=aP.cx (fun _=>rfl) (l:=[(194,oP),(218,Lm)]) ⟨LH,afv,trivial⟩
 aH K (aG (l:=[]) rfl trivial) (by kernel_rfl) (fun x y h=>(acN x).trans h) rfl rfl
def Gw (x0:dL):Option (Bool):=some (ile 0 (tu (tu x0.long x0.short) x0.opn))
noncomputable def ZO:Cx:={ P:=PG,ety:=ety,fn:=look [],inl:=dR [],lp:=aS [] }
theorem adf (x0:dL):bP ZO 182 [.val .expo] [.bool] x0=Gw x0:=by kernel_rfl
def LQ:aO:=mkSpec [.val .expo] [.bool] true (fun x=>Gw x)
theorem afA:dI PG 182 LQ:=
 have K:CxR ZO:=aP.cx (fun _=>rfl) (l:=[]) trivial
 aH K (aG (l:=[]) rfl trivial) (by kernel_rfl) (fun x y h=>(adf x).trans h) rfl rfl
def JQ:LSh:=⟨74,[(0,.ro .i64)],[],[],[(4,.int .i64),(3,.int .i64)],[],[]⟩
@[reducible] def JH:List fO:=[⟨.exit 0,[(3,.int .i64)],[],[]⟩]
def ny (p0:(List Int)) (v0:Int) (v1:Int):Option ((Int×Int) ⊕ ((Int))):=cnd (ilt v0 (len p0)) (cnd (band (ile 0 v0) (ilt v0 (len p0))) (some (Sum.inl (wr .i64 (aj v0 1),tu v1 (ai p0 (itn v0))))) none) (some (Sum.inr v1))
def H8:dU:=JQ.spec JH [12,13,14,15,18,19,20,21,22,23,3,16,17,4] (fun p v=>ny p v.1 v.2)
def oN (x0:(List Int)):Option (Int):=cnd (ilt (len x0) 1) none (cnd (ilt 0 (len x0)) (af (bD (fun v => ny x0 v.fst v.snd) LF (1,ai x0 0)) fun y0 => some y0) none)
noncomputable def HY:Cx:={ P:=PG,ety:=ety,fn:=look [],inl:=dR [],lp:=aS [(184,122,H8)] }
theorem Rj (p0:(List Int)) (v0:Int) (v1:Int):fC HY 900 184 122 (dK PG 184 122) JQ JH p0 (v0,v1)=ny p0 v0 v1:=by kernel_rfl
theorem Xj (x0:(List Int)):bP HY 184 [.ro .i64] [.int .i64] x0=oN x0:=by kernel_rfl
def BX:aO:=mkSpec [.ro .i64] [.int .i64] true (fun x=>oN x)
theorem Zv:dI PG 184 BX:=
 have K:CxR HY:=aP.cx (fun _=>rfl) (l:=[]) trivial
 aH K (aG (l:=[(184,122,H8)]) rfl ⟨bF (n:=900) (f:=184) K (by kernel_rfl) (by kernel_rfl) (by kernel_rfl) (by kernel_rfl) (by kernel_rfl) (fun p v r h=>(Rj p v.1 v.2).trans h),trivial⟩) (by kernel_rfl) (fun x y h=>(Xj x).trans h) rfl rfl
def KJ:LSh:=⟨73,[(10,.int .i64),(9,.ro .order)],[(1,.mp 8 0)],[(8,[.val .state])],[(11,.int .i64),(3,.int .i64),(2,.bool)],[],[]⟩
@[reducible] def KP:List fO:=[⟨.ret,[(2,.bool)],[],[]⟩,⟨.exit 0,[(3,.int .i64),(2,.bool)],[],[]⟩]
def nY (p0:Int) (p1:(List aJ)) (p2:ax) (v0:Int) (v1:Int) (v2:Bool):Option ((Int×Int×Bool) ⊕ ((Bool) ⊕ ((Int×Bool)))):=cnd (ilt v0 p0) (cnd (band (ile 0 v0) (ilt v0 (len p1))) (af (kQ (ai p1 (itn v0))) fun y0 => cnd (bor (bor (bor (bor (ay y0) (ieq (ai p1 (itn v0)).phase 3)) (ile p2.accounts (ai p1 (itn v0)).account)) (ile p2.symbols (ai p1 (itn v0)).symbol)) (ile (ai p1 (itn v0)).id v1)) (some (Sum.inr (Sum.inl false))) (some (Sum.inl (wr .i64 (aj v0 1),(ai p1 (itn v0)).id,v2)))) none) (some (Sum.inr (Sum.inr (v1,v2))))
def JF:dU:=KJ.spec KP [12,13,14,5,15,16,17,18,19,20,21,22,23,24,25,26,27,28,29,30,31,32,33,34,35,36,37,38,39,40,41,42,43,44,2,45,46,3,47,11] (fun p v=>nY p.1 p.2.1 p.2.2 v.1 v.2.1 v.2.2)
def jV:LSh:=⟨210,[(7,.int .i64),(0,.ro .expo)],[(1,.fn 181 [])],[],[(8,.int .i64),(4,.int .i64)],[],[]⟩
@[reducible] def jW:List fO:=[⟨.ret,[(4,.int .i64)],[],[]⟩,⟨.exit 0,[(4,.int .i64)],[],[]⟩]
def dn (p0:Int) (p1:(List dL)) (v0:Int) (v1:Int):Option ((Int×Int) ⊕ ((Int) ⊕ ((Int)))):=cnd (ilt v0 p0) (cnd (band (ile 0 v0) (ilt v0 (len p1))) (af (Gw (ai p1 (itn v0))) fun y0 => cnd (ay y0) (some (Sum.inr (Sum.inl v0))) (some (Sum.inl (wr .i64 (aj v0 1),v1)))) none) (some (Sum.inr (Sum.inr v1)))
def jL:dU:=jV.spec jW [9,10,5,11,12,13,14,15,16,17,4,18,8] (fun p v=>dn p.1 p.2 v.1 v.2)
def wo (x0:ax):Option (Bool):=af (bD (fun v => nY (len x0.orders) x0.orders x0 v.fst v.snd.fst v.snd.snd) LF (0,0,false)) fun y0 => gY y0 (fun y1 => some y1) fun y1 => cnd (band (band (band (band (band (ile y1.fst x0.last) (ile x0.last 1000000000000)) (ile 0 x0.seq)) (ile x0.seq 1000000000)) (ile 0 x0.lsn)) (ile x0.lsn 1000000000)) (af (bD (fun v => dn (len x0.limits) x0.limits v.fst v.snd) LF (0,0)) fun y2 => gY y2 (fun y3 => af (cnd (band (band (band (band (band (band (ile y1.fst x0.last) (ile x0.last 1000000000000)) (ile 0 x0.seq)) (ile x0.seq 1000000000)) (ile 0 x0.lsn)) (ile x0.lsn 1000000000)) (ay (ile 0 y3))) (oN x0.caps) (some 0)) fun y4 => some (band (band (band (band (band (band (band (band (ile y1.fst x0.last) (ile x0.last 1000000000000)) (ile 0 x0.seq)) (ile x0.seq 1000000000)) (ile 0 x0.lsn)) (ile x0.lsn 1000000000)) (ay (ile 0 y3))) (ile 0 y4)) (ile 0 x0.last))) fun y3 => af (cnd (bor (band (band (band (band (band (ile y1.fst x0.last) (ile x0.last 1000000000000)) (ile 0 x0.seq)) (ile x0.seq 1000000000)) (ile 0 x0.lsn)) (ile x0.lsn 1000000000)) false) (oN x0.caps) (some 0)) fun y5 => some (band (band (bor (band (band (band (band (band (ile y1.fst x0.last) (ile x0.last 1000000000000)) (ile 0 x0.seq)) (ile x0.seq 1000000000)) (ile 0 x0.lsn)) (ile x0.lsn 1000000000)) false) (ile 0 y5)) (ile 0 x0.last))) (af (cnd (bor (band (band (band (band (band (ile y1.fst x0.last) (ile x0.last 1000000000000)) (ile 0 x0.seq)) (ile x0.seq 1000000000)) (ile 0 x0.lsn)) (ile x0.lsn 1000000000)) false) (oN x0.caps) (some 0)) fun y6 => some (band (band (bor (band (band (band (band (band (ile y1.fst x0.last) (ile x0.last 1000000000000)) (ile 0 x0.seq)) (ile x0.seq 1000000000)) (ile 0 x0.lsn)) (ile x0.lsn 1000000000)) false) (ile 0 y6)) (ile 0 x0.last)))
noncomputable def Aj:Cx:={ P:=PG,ety:=ety,fn:=look [(180,fJ),(182,LQ),(184,BX)],inl:=dR [181,183,219],lp:=aS [(121,58,JF),(2232058426242137383131,26,jL)] }
theorem Tv (p0:Int) (p1:(List aJ)) (p2:ax) (v0:Int) (v1:Int) (v2:Bool):fC Aj 900 121 58 (dK PG 121 58) KJ KP (p0,p1,p2) (v0,v1,v2)=nY p0 p1 p2 v0 v1 v2:=by kernel_rfl
theorem qI (p0:Int) (p1:(List dL)) (v0:Int) (v1:Int):fC Aj 900 2232058426242137383131 26 (dK PG 219 26) jV jW (p0,p1) (v0,v1)=dn p0 p1 v0 v1:=by kernel_rfl
theorem Xv (x0:ax):bP Aj 121 [.val .state] [.bool] x0=wo x0:=by kernel_rfl
def BJ:aO:=mkSpec [.val .state] [.bool] true (fun x=>wo x)
theorem Zt:dI PG 121 BJ:=
 have K:CxR Aj:=aP.cx (fun _=>rfl) (l:=[(180,fJ),(182,LQ),(184,BX)]) ⟨sQ,afA,Zv,trivial⟩
 aH K (aG (l:=[(121,58,JF),(2232058426242137383131,26,jL)]) rfl ⟨bF (n:=900) (f:=121) K (by kernel_rfl) (by kernel_rfl) (by kernel_rfl) (by kernel_rfl) (by kernel_rfl) (fun p v r h=>(Tv p.1 p.2.1 p.2.2 v.1 v.2.1 v.2.2).trans h),
  bF (n:=900) (f:=219) K (by kernel_rfl) (by kernel_rfl) (by kernel_rfl) (by kernel_rfl) (by kernel_rfl) (fun p v r h=>(qI p.1 p.2 v.1 v.2).trans h),trivial⟩) (by kernel_rfl) (fun x y h=>(Xv x).trans h) rfl rfl
def bU (x0:ax) (x1:Int) (x2:Int):Option (Int):=some (wr .i64 (aj (wr .i64 (dY x1 x0.symbols)) x2))
noncomputable def MI:Cx:={ P:=PG,ety:=ety,fn:=look [],inl:=dR [],lp:=aS [] }
theorem UX (x0:ax) (x1:Int) (x2:Int):bP MI 137 [.val .state,.int .i64,.int .i64] [.int .i64] (x0,x1,x2)=bU x0 x1 x2:=by kernel_rfl
def iC:aO:=mkSpec [.val .state,.int .i64,.int .i64] [.int .i64] true (fun x=>bU x.1 x.2.1 x.2.2)
theorem wG:dI PG 137 iC:=
 have K:CxR MI:=aP.cx (fun _=>rfl) (l:=[]) trivial
 aH K (aG (l:=[]) rfl trivial) (by kernel_rfl) (fun x y h=>(UX x.1 x.2.1 x.2.2).trans h) rfl rfl
def tN (x0:Int) (x1:Int):Option (Int×Int):=cnd (band (ay (beq (ilt x0 (wr .i64 (aj x0 x1))) (ilt 0 x1))) (ay (ieq x1 0))) (some (0,3)) (some (wr .i64 (aj x0 x1),0))
noncomputable def aib:Cx:={ P:=PG,ety:=ety,fn:=look [],inl:=dR [],lp:=aS [] }
theorem ajW (x0:Int) (x1:Int):bP aib 59 [.int .i64,.int .i64] [.int .i64,.int .i64] (x0,x1)=tN x0 x1:=by kernel_rfl
def ng:aO:=mkSpec [.int .i64,.int .i64] [.int .i64,.int .i64] true (fun x=>tN x.1 x.2)
theorem KX:dI PG 59 ng:=
 have K:CxR aib:=aP.cx (fun _=>rfl) (l:=[]) trivial
 aH K (aG (l:=[]) rfl trivial) (by kernel_rfl) (fun x y h=>(ajW x.1 x.2).trans h) rfl rfl
def Bo (x0:Int) (x1:Int):Option (Int×Int):=cnd (band (ay (beq (ilt (wr .i64 (aI x0 x1)) x0) (ilt 0 x1))) (ay (ieq x1 0))) (some (0,3)) (some (wr .i64 (aI x0 x1),0))
noncomputable def aii:Cx:={ P:=PG,ety:=ety,fn:=look [],inl:=dR [],lp:=aS [] }
theorem aj6 (x0:Int) (x1:Int):bP aii 195 [.int .i64,.int .i64] [.int .i64,.int .i64] (x0,x1)=Bo x0 x1:=by kernel_rfl
def Ac:aO:=mkSpec [.int .i64,.int .i64] [.int .i64,.int .i64] true (fun x=>Bo x.1 x.2)
theorem aaC:dI PG 195 Ac:=
 have K:CxR aii:=aP.cx (fun _=>rfl) (l:=[]) trivial
 aH K (aG (l:=[]) rfl trivial) (by kernel_rfl) (fun x y h=>(aj6 x.1 x.2).trans h) rfl rfl
def IX (x0:aK):Option (dL×Bool):=af (tN x0.pos x0.buy) fun y0 => af (Bo x0.sell x0.pos) fun y1 => some (dL.mk y0.fst y1.fst x0.opn,band (ieq y0.snd 0) (ieq y1.snd 0))
noncomputable def aee:Cx:={ P:=PG,ety:=ety,fn:=look [(59,ng),(195,Ac)],inl:=dR [],lp:=aS [] }
theorem ag4 (x0:aK):bP aee 185 [.val .cell] [.val .expo,.bool] x0=IX x0:=by kernel_rfl
def Dz:aO:=mkSpec [.val .cell] [.val .expo,.bool] true (fun x=>IX x)
theorem aa5:dI PG 185 Dz:=
 have K:CxR aee:=aP.cx (fun _=>rfl) (l:=[(59,ng),(195,Ac)]) ⟨KX,aaC,trivial⟩
 aH K (aG (l:=[]) rfl trivial) (by kernel_rfl) (fun x y h=>(ag4 x).trans h) rfl rfl
def jJ (x0:aK):Option (Bool):=af (IX x0) fun y0 => some (band y0.snd (ile 0 (tu (tu x0.buy x0.sell) x0.opn)))
noncomputable def abr:Cx:={ P:=PG,ety:=ety,fn:=look [(185,Dz)],inl:=dR [],lp:=aS [] }
theorem aeR (x0:aK):bP abr 123 [.val .cell] [.bool] x0=jJ x0:=by kernel_rfl
def kP:aO:=mkSpec [.val .cell] [.bool] true (fun x=>jJ x)
theorem FN:dI PG 123 kP:=
 have K:CxR abr:=aP.cx (fun _=>rfl) (l:=[(185,Dz)]) ⟨aa5,trivial⟩
 aH K (aG (l:=[]) rfl trivial) (by kernel_rfl) (fun x y h=>(aeR x).trans h) rfl rfl
def LU (x0:Int):Option (Int):=cnd (ilt x0 0) (some (wr .u64 (aI 0 (wr .u64 x0)))) (some (wr .u64 x0))
noncomputable def afz:Cx:={ P:=PG,ety:=ety,fn:=look [],inl:=dR [],lp:=aS [] }
theorem ahB (x0:Int):bP afz 238 [.int .i64] [.int .u64] x0=LU x0:=by kernel_rfl
def TM:aO:=mkSpec [.int .i64] [.int .u64] true (fun x=>LU x)
theorem alo:dI PG 238 TM:=
 have K:CxR afz:=aP.cx (fun _=>rfl) (l:=[]) trivial
 aH K (aG (l:=[]) rfl trivial) (by kernel_rfl) (fun x y h=>(ahB x).trans h) rfl rfl
def Pj (x0:Int) (x1:Int):Option (Int×Int):=af (LU x0) fun y0 => af (LU x1) fun y1 => af (tJ y0 y1) fun y2 => cnd (band (band (ieq y2.fst 0) (ay (beq (ilt x0 0) (ilt x1 0)))) (ile y2.snd 9223372036854775808)) (some (wr .i64 (wr .u64 (aI 0 y2.snd)),0)) (cnd (band (ieq y2.fst 0) (ile y2.snd 9223372036854775807)) (some (wr .i64 y2.snd,0)) (some (0,3)))
noncomputable def ah5:Cx:={ P:=PG,ety:=ety,fn:=look [(238,TM),(176,sO)],inl:=dR [],lp:=aS [] }
theorem aiX (x0:Int) (x1:Int):bP ah5 235 [.int .i64,.int .i64] [.int .i64,.int .i64] (x0,x1)=Pj x0 x1:=by kernel_rfl
def Wn:aO:=mkSpec [.int .i64,.int .i64] [.int .i64,.int .i64] true (fun x=>Pj x.1 x.2)
theorem al6:dI PG 235 Wn:=
 have K:CxR ah5:=aP.cx (fun _=>rfl) (l:=[(238,TM),(176,sO)]) ⟨alo,QS,trivial⟩
 aH K (aG (l:=[]) rfl trivial) (by kernel_rfl) (fun x y h=>(aiX x.1 x.2).trans h) rfl rfl
def Pn (x0:Int) (x1:Int):Option (Int):=some (imax x0 x1)
noncomputable def ahN:Cx:={ P:=PG,ety:=ety,fn:=look [],inl:=dR [],lp:=aS [] }
theorem ajB (x0:Int) (x1:Int):bP ahN 236 [.int .i64,.int .i64] [.int .i64] (x0,x1)=Pn x0 x1:=by kernel_rfl
def JD:aO:=mkSpec [.int .i64,.int .i64] [.int .i64] true (fun x=>Pn x.1 x.2)
theorem aff:dI PG 236 JD:=
 have K:CxR ahN:=aP.cx (fun _=>rfl) (l:=[]) trivial
 aH K (aG (l:=[]) rfl trivial) (by kernel_rfl) (fun x y h=>(ajB x.1 x.2).trans h) rfl rfl
def BA (x0:aJ):Option (Int×Int):=af (kQ x0) fun y0 => cnd (ay y0) (some (0,1)) (cnd (ieq x0.phase 3) (some (0,0)) (af (Pj (wr .i64 (aI x0.qty x0.filled)) x0.price) fun y1 => cnd (bor (ay (ieq y1.snd 0)) (ile x0.newQty x0.filled)) (some y1) (af (Pj (wr .i64 (aI x0.newQty x0.filled)) x0.newPrice) fun y2 => cnd (ay (ieq y2.snd 0)) (some (0,y2.snd)) (af (Pn y1.fst y2.fst) fun y3 => some (y3,0)))))
noncomputable def ZR:Cx:={ P:=PG,ety:=ety,fn:=look [(180,fJ),(235,Wn),(236,JD)],inl:=dR [],lp:=aS [] }
theorem acF (x0:aJ):bP ZR 220 [.val .order] [.int .i64,.int .i64] x0=BA x0:=by kernel_rfl
def yI:aO:=mkSpec [.val .order] [.int .i64,.int .i64] true (fun x=>BA x)
theorem Yw:dI PG 220 yI:=
 have K:CxR ZR:=aP.cx (fun _=>rfl) (l:=[(180,fJ),(235,Wn),(236,JD)]) ⟨sQ,al6,aff,trivial⟩
 aH K (aG (l:=[]) rfl trivial) (by kernel_rfl) (fun x y h=>(acF x).trans h) rfl rfl
def wX (x0:aJ):Option (Int):=af (kQ x0) fun y0 => cnd (bor (ay y0) (ieq x0.phase 3)) (some 0) (af (Pn x0.qty x0.newQty) fun y1 => some (wr .i64 (aI y1 x0.filled)))
noncomputable def ab5:Cx:={ P:=PG,ety:=ety,fn:=look [(180,fJ),(236,JD)],inl:=dR [],lp:=aS [] }
theorem aes (x0:aJ):bP ab5 221 [.val .order] [.int .i64] x0=wX x0:=by kernel_rfl
def AL:aO:=mkSpec [.val .order] [.int .i64] true (fun x=>wX x)
theorem Z7:dI PG 221 AL:=
 have K:CxR ab5:=aP.cx (fun _=>rfl) (l:=[(180,fJ),(236,JD)]) ⟨sQ,aff,trivial⟩
 aH K (aG (l:=[]) rfl trivial) (by kernel_rfl) (fun x y h=>(aes x).trans h) rfl rfl
def jH (x0:aK) (x1:aJ):Option (aK×Int):=af (jJ x0) fun y0 => af (cnd (ay (ay y0)) (kQ x1) (some false)) fun y1 => cnd (bor (ay y0) (ay y1)) (some (x0,1)) (af (BA x1) fun y2 => cnd (ieq x1.side 2) (af (wX x1) fun y3 => af (tN x0.sell y3) fun y4 => af (tN x0.opn y2.fst) fun y5 => af (cnd (ay (bor (bor (ay (ieq y2.snd 0)) (ay (ieq y4.snd 0))) (ay (ieq y5.snd 0)))) (jJ (aK.mk x0.pos x0.buy y4.fst y5.fst)) (some false)) fun y6 => cnd (bor (bor (bor (ay (ieq y2.snd 0)) (ay (ieq y4.snd 0))) (ay (ieq y5.snd 0))) (ay y6)) (some (x0,3)) (some (aK.mk x0.pos x0.buy y4.fst y5.fst,0))) (af (wX x1) fun y7 => af (tN x0.buy y7) fun y8 => af (tN x0.opn y2.fst) fun y9 => af (cnd (ay (bor (bor (ay (ieq y2.snd 0)) (ay (ieq y8.snd 0))) (ay (ieq y9.snd 0)))) (jJ (aK.mk x0.pos y8.fst x0.sell y9.fst)) (some false)) fun y10 => cnd (bor (bor (bor (ay (ieq y2.snd 0)) (ay (ieq y8.snd 0))) (ay (ieq y9.snd 0))) (ay y10)) (some (x0,3)) (some (aK.mk x0.pos y8.fst x0.sell y9.fst,0))))
noncomputable def adN:Cx:={ P:=PG,ety:=ety,fn:=look [(123,kP),(180,fJ),(220,yI),(221,AL),(59,ng)],inl:=dR [188],lp:=aS [] }
theorem af5 (x0:aK) (x1:aJ):bP adN 138 [.val .cell,.val .order] [.val .cell,.int .i64] (x0,x1)=jH x0 x1:=by kernel_rfl
def vZ:aO:=mkSpec [.val .cell,.val .order] [.val .cell,.int .i64] true (fun x=>jH x.1 x.2)
theorem VH:dI PG 138 vZ:=
 have K:CxR adN:=aP.cx (fun _=>rfl) (l:=[(123,kP),(180,fJ),(220,yI),(221,AL),(59,ng)]) ⟨FN,sQ,Yw,Z7,KX,trivial⟩
 aH K (aG (l:=[]) rfl trivial) (by kernel_rfl) (fun x y h=>(af5 x.1 x.2).trans h) rfl rfl
def H9:LSh:=⟨79,[(18,.int .i64),(17,.ro .order)],[(4,.mf 64),(1,.mp 8 0)],[(8,[.val .state])],[(19,.int .i64),(3,.bool),(2,.buf .cell)],[],[(64,.cell)]⟩
@[reducible] def Iq:List fO:=[⟨.ret,[(3,.bool),(2,.buf .cell)],[],[(64,.cell)]⟩,⟨.exit 0,[(3,.bool),(2,.buf .cell)],[],[(64,.cell)]⟩]
def lD (p0:Int) (p1:(List aJ)) (p2:ax) (v0:Int) (v1:Bool) (v2:(List aK)) (v3:(List aK)):Option ((Int×Bool×(List aK)×(List aK)) ⊕ ((Bool×(List aK)×(List aK)) ⊕ ((Bool×(List aK)×(List aK))))):=cnd (ilt v0 p0) (cnd (band (ile 0 v0) (ilt v0 (len p1))) (af (bU p2 (ai p1 (itn v0)).account (ai p1 (itn v0)).symbol) fun y0 => cnd (band (ile 0 y0) (ilt y0 (len v3))) (af (jH (ai v3 (itn y0)) (ai p1 (itn v0))) fun y1 => cnd (ay (ieq y1.snd 0)) (some (Sum.inr (Sum.inl (false,[],v3)))) (cnd (band (ile 0 y0) (ilt y0 (len v3))) (some (Sum.inl (wr .i64 (aj v0 1),v1,v2,bT v3 (itn y0) y1.fst))) none)) none) none) (some (Sum.inr (Sum.inr (v1,v2,v3))))
def Gp:dU:=H9.spec Iq [20,21,22,6,23,24,25,26,27,28,7,30,31,32,33,34,35,29,36,37,8,9,38,39,2,3,40,41,42,43,44,19] (fun p v=>lD p.1 p.2.1 p.2.2 v.1 v.2.1 v.2.2.1 v.2.2.2)
def sD (x0:ax):Option ((List aK)×Bool):=cnd (band (band (ile 0 (len x0.cells)) (ile (len x0.cells) (len x0.cells))) (ile (len x0.cells) 68719476736)) (af (bD (fun v => lD (len x0.orders) x0.orders x0 v.fst v.snd.fst v.snd.snd.fst v.snd.snd.snd) LF (0,false,[],jR aK (itn (len x0.cells)))) fun y0 => gY y0 (fun y1 => some (y1.snd.fst,y1.fst)) fun y1 => some (y1.snd.snd,true)) none
noncomputable def DF:Cx:={ P:=PG,ety:=ety,fn:=look [(137,iC),(138,vZ)],inl:=dR [],lp:=aS [(122,58,Gp)] }
theorem QV (p0:Int) (p1:(List aJ)) (p2:ax) (v0:Int) (v1:Bool) (v2:(List aK)) (v3:(List aK)):fC DF 900 122 58 (dK PG 122 58) H9 Iq (p0,p1,p2) (v0,v1,v2,v3)=lD p0 p1 p2 v0 v1 v2 v3:=by kernel_rfl
theorem UH (x0:ax):bP DF 122 [.val .state] [.buf .cell,.bool] x0=sD x0:=by kernel_rfl
def yw:aO:=mkSpec [.val .state] [.buf .cell,.bool] true (fun x=>sD x)
theorem Xz:dI PG 122 yw:=
 have K:CxR DF:=aP.cx (fun _=>rfl) (l:=[(137,iC),(138,vZ)]) ⟨wG,VH,trivial⟩
 aH K (aG (l:=[(122,58,Gp)]) rfl ⟨bF (n:=900) (f:=122) K (by kernel_rfl) (by kernel_rfl) (by kernel_rfl) (by kernel_rfl) (by kernel_rfl) (fun p v r h=>(QV p.1 p.2.1 p.2.2 v.1 v.2.1 v.2.2.1 v.2.2.2).trans h),trivial⟩) (by kernel_rfl) (fun x y h=>(UH x).trans h) rfl rfl
def kZ (x0:ax) (x1:Int):Option ((List aK)):=cnd (band (band (ile 0 (wr .i64 (dY x1 x0.symbols))) (ile (wr .i64 (dY x1 x0.symbols)) (wr .i64 (dY (wr .i64 (aj x1 1)) x0.symbols)))) (ile (wr .i64 (dY (wr .i64 (aj x1 1)) x0.symbols)) (len x0.cells))) (some (aA (aN x0.cells (itn (wr .i64 (dY x1 x0.symbols)))) (itn (aI (wr .i64 (dY (wr .i64 (aj x1 1)) x0.symbols)) (wr .i64 (dY x1 x0.symbols)))))) none
noncomputable def KF:Cx:={ P:=PG,ety:=ety,fn:=look [],inl:=dR [],lp:=aS [] }
theorem SQ (x0:ax) (x1:Int):bP KF 125 [.val .state,.int .i64] [.ro .cell] (x0,x1)=kZ x0 x1:=by kernel_rfl
def oG:aO:=mkSpec [.val .state,.int .i64] [.ro .cell] false (fun x=>kZ x.1 x.2)
theorem J4:dI PG 125 oG:=
 have K:CxR KF:=aP.cx (fun _=>rfl) (l:=[]) trivial
 aH K (aG (l:=[]) rfl trivial) (by kernel_rfl) (fun x y h=>(SQ x.1 x.2).trans h) rfl rfl
def Yc:LSh:=⟨71,[(10,.int .i64),(9,.ro .i64)],[],[],[(11,.int .i64),(4,.int .i64),(3,.int .i64),(2,.int .i64)],[],[]⟩
@[reducible] def YP:List fO:=[⟨.ret,[(3,.int .i64),(2,.int .i64)],[],[]⟩,⟨.exit 0,[(4,.int .i64),(3,.int .i64),(2,.int .i64)],[],[]⟩]
def yR (p0:Int) (p1:(List Int)) (v0:Int) (v1:Int) (v2:Int) (v3:Int):Option ((Int×Int×Int×Int) ⊕ ((Int×Int) ⊕ ((Int×Int×Int)))):=cnd (ilt v0 p0) (cnd (band (ile 0 v0) (ilt v0 (len p1))) (af (tN v1 (ai p1 (itn v0))) fun y0 => cnd (ay (ieq y0.snd 0)) (some (Sum.inr (Sum.inl (y0.snd,0)))) (some (Sum.inl (wr .i64 (aj v0 1),y0.fst,v2,v3)))) none) (some (Sum.inr (Sum.inr (v1,v2,v3))))
def WV:dU:=Yc.spec YP [12,13,14,6,16,17,18,15,19,20,7,8,21,22,23,2,3,24,4,25,11] (fun p v=>yR p.1 p.2 v.1 v.2.1 v.2.2.1 v.2.2.2)
def MZ (x0:(List Int)):Option (Int×Int):=af (bD (fun v => yR (len x0) x0 v.fst v.snd.fst v.snd.snd.fst v.snd.snd.snd) LF (0,0,0,0)) fun y0 => gY y0 (fun y1 => some (y1.snd,y1.fst)) fun y1 => some (y1.fst,0)
noncomputable def YZ:Cx:={ P:=PG,ety:=ety,fn:=look [(59,ng)],inl:=dR [],lp:=aS [(186,58,WV)] }
theorem acA (p0:Int) (p1:(List Int)) (v0:Int) (v1:Int) (v2:Int) (v3:Int):fC YZ 900 186 58 (dK PG 186 58) Yc YP (p0,p1) (v0,v1,v2,v3)=yR p0 p1 v0 v1 v2 v3:=by kernel_rfl
theorem afU (x0:(List Int)):bP YZ 186 [.ro .i64] [.int .i64,.int .i64] x0=MZ x0:=by kernel_rfl
def Qw:aO:=mkSpec [.ro .i64] [.int .i64,.int .i64] true (fun x=>MZ x)
theorem ajR:dI PG 186 Qw:=
 have K:CxR YZ:=aP.cx (fun _=>rfl) (l:=[(59,ng)]) ⟨KX,trivial⟩
 aH K (aG (l:=[(186,58,WV)]) rfl ⟨bF (n:=900) (f:=186) K (by kernel_rfl) (by kernel_rfl) (by kernel_rfl) (by kernel_rfl) (by kernel_rfl) (fun p v r h=>(acA p.1 p.2 v.1 v.2.1 v.2.2.1 v.2.2.2).trans h),trivial⟩) (by kernel_rfl) (fun x y h=>(afU x).trans h) rfl rfl
def TU:LSh:=⟨71,[(8,.int .i64),(7,.ro .cell)],[],[],[(9,.int .i64),(4,.buf .i64)],[],[]⟩
@[reducible] def TT:List fO:=[⟨.exit 0,[(4,.buf .i64)],[],[]⟩]
def uX (p0:Int) (p1:(List aK)) (v0:Int) (v1:(List Int)):Option ((Int×(List Int)) ⊕ (((List Int)))):=cnd (ilt v0 p0) (cnd (band (ile 0 v0) (ilt v0 (len p1))) (cnd (ile (len (dB v1 [(ai p1 (itn v0)).opn])) 68719476736) (some (Sum.inl (wr .i64 (aj v0 1),dB v1 [(ai p1 (itn v0)).opn]))) none) none) (some (Sum.inr v1))
def RH:dU:=TU.spec TT [10,11,12,6,13,14,15,16,17,4,18,9] (fun p v=>uX p.1 p.2 v.1 v.2)
def xB (x0:(List aK)):Option (Int×Int):=af (bD (fun v => uX (len x0) x0 v.fst v.snd) LF (0,[])) fun y0 => af (MZ y0) fun y1 => some y1
noncomputable def SY:Cx:={ P:=PG,ety:=ety,fn:=look [(186,Qw)],inl:=dR [],lp:=aS [(124,58,RH)] }
theorem ZC (p0:Int) (p1:(List aK)) (v0:Int) (v1:(List Int)):fC SY 900 124 58 (dK PG 124 58) TU TT (p0,p1) (v0,v1)=uX p0 p1 v0 v1:=by kernel_rfl
theorem adr (x0:(List aK)):bP SY 124 [.ro .cell] [.int .i64,.int .i64] x0=xB x0:=by kernel_rfl
def yV:aO:=mkSpec [.ro .cell] [.int .i64,.int .i64] true (fun x=>xB x)
theorem Yt:dI PG 124 yV:=
 have K:CxR SY:=aP.cx (fun _=>rfl) (l:=[(186,Qw)]) ⟨ajR,trivial⟩
 aH K (aG (l:=[(124,58,RH)]) rfl ⟨bF (n:=900) (f:=124) K (by kernel_rfl) (by kernel_rfl) (by kernel_rfl) (by kernel_rfl) (by kernel_rfl) (fun p v r h=>(ZC p.1 p.2 v.1 v.2).trans h),trivial⟩) (by kernel_rfl) (fun x y h=>(adr x).trans h) rfl rfl
def IU:LSh:=⟨89,[(28,.int .i64),(27,.ro .cell)],[(3,.mf 96)],[],[(29,.int .i64),(2,.bool)],[],[(96,.cell)]⟩
@[reducible] def Ij:List fO:=[⟨.ret,[(2,.bool)],[],[(96,.cell)]⟩,⟨.exit 0,[(2,.bool)],[],[(96,.cell)]⟩]
def lH (p0:Int) (p1:(List aK)) (v0:Int) (v1:Bool) (v2:(List aK)):Option ((Int×Bool×(List aK)) ⊕ ((Bool×(List aK)) ⊕ ((Bool×(List aK))))):=cnd (ilt v0 p0) (cnd (band (ile 0 v0) (ilt v0 (len p1))) (cnd (band (ile 0 v0) (ilt v0 (len v2))) (af (jJ (ai p1 (itn v0))) fun y0 => cnd (bor (band (ile 0 v0) (ilt v0 (len (bT v2 (itn v0) (aK.mk (ai p1 (itn v0)).pos (ai v2 (itn v0)).buy (ai v2 (itn v0)).sell (ai v2 (itn v0)).opn))))) (ay (ay (ay y0)))) (cnd (bor (ay y0) (ay (band (ieq (ai (bT v2 (itn v0) (aK.mk (ai p1 (itn v0)).pos (ai v2 (itn v0)).buy (ai v2 (itn v0)).sell (ai v2 (itn v0)).opn)) (itn v0)).pos (ai p1 (itn v0)).pos) (band (ieq (ai (bT v2 (itn v0) (aK.mk (ai p1 (itn v0)).pos (ai v2 (itn v0)).buy (ai v2 (itn v0)).sell (ai v2 (itn v0)).opn)) (itn v0)).buy (ai p1 (itn v0)).buy) (band (ieq (ai (bT v2 (itn v0) (aK.mk (ai p1 (itn v0)).pos (ai v2 (itn v0)).buy (ai v2 (itn v0)).sell (ai v2 (itn v0)).opn)) (itn v0)).sell (ai p1 (itn v0)).sell) (ieq (ai (bT v2 (itn v0) (aK.mk (ai p1 (itn v0)).pos (ai v2 (itn v0)).buy (ai v2 (itn v0)).sell (ai v2 (itn v0)).opn)) (itn v0)).opn (ai p1 (itn v0)).opn)))))) (some (Sum.inr (Sum.inl (false,bT v2 (itn v0) (aK.mk (ai p1 (itn v0)).pos (ai v2 (itn v0)).buy (ai v2 (itn v0)).sell (ai v2 (itn v0)).opn))))) (some (Sum.inl (wr .i64 (aj v0 1),v1,bT v2 (itn v0) (aK.mk (ai p1 (itn v0)).pos (ai v2 (itn v0)).buy (ai v2 (itn v0)).sell (ai v2 (itn v0)).opn))))) none) none) none) (some (Sum.inr (Sum.inr (v1,v2))))
def FX:dU:=IU.spec Ij [30,31,32,33,6,5,34,35,36,37,38,39,40,41,42,43,44,45,46,47,48,49,50,2,51,29] (fun p v=>lH p.1 p.2 v.1 v.2.1 v.2.2)
def I9:LSh:=⟨162,[(54,.int .i64)],[(1,.mp 8 0)],[(8,[.val .state])],[(55,.int .i64),(2,.bool)],[],[]⟩
@[reducible] def IQ:List fO:=[⟨.ret,[(2,.bool)],[],[]⟩,⟨.exit 2,[(2,.bool)],[],[]⟩]
def lF (p0:Int) (p1:ax) (v0:Int) (v1:Bool):Option ((Int×Bool) ⊕ ((Bool) ⊕ ((Bool)))):=cnd (ilt v0 p0) (af (kZ p1 v0) fun y0 => af (xB y0) fun y1 => cnd (ay (ieq y1.snd 0)) (some (Sum.inr (Sum.inl false))) (some (Sum.inl (wr .i64 (aj v0 1),v1)))) (some (Sum.inr (Sum.inr v1)))
def GN:dU:=I9.spec IQ [56,57,7,59,60,61,62,58,63,64,8,9,65,66,2,67,55] (fun p v=>lF p.1 p.2 v.1 v.2)
def yg (x0:ax):Option (Bool):=af (uy x0) fun y0 => af (cnd (ay (ay y0)) (wo x0) (some false)) fun y1 => cnd (bor (ay y0) (ay y1)) (some false) (af (sD x0) fun y2 => cnd (ay y2.snd) (some false) (af (bD (fun v => lH (len x0.cells) x0.cells v.fst v.snd.fst v.snd.snd) LF (0,false,y2.fst)) fun y3 => gY y3 (fun y4 => some y4.fst) fun y4 => af (bD (fun v => lF x0.accounts x0 v.fst v.snd) LF (0,y4.fst)) fun y5 => gY y5 (fun y6 => some y6) fun y6 => some true))
noncomputable def xX:Cx:={ P:=PG,ety:=ety,fn:=look [(120,Ad),(121,BJ),(122,yw),(123,kP),(125,oG),(124,yV)],inl:=dR [],lp:=aS [(51,250,FX),(51,506,GN)] }
theorem Qh (p0:Int) (p1:(List aK)) (v0:Int) (v1:Bool) (v2:(List aK)):fC xX 900 51 250 (dK PG 51 250) IU Ij (p0,p1) (v0,v1,v2)=lH p0 p1 v0 v1 v2:=by kernel_rfl
theorem QH (p0:Int) (p1:ax) (v0:Int) (v1:Bool):fC xX 900 51 506 (dK PG 51 506) I9 IQ (p0,p1) (v0,v1)=lF p0 p1 v0 v1:=by kernel_rfl
theorem V6 (x0:ax):bP xX 51 [.val .state] [.bool] x0=yg x0:=by kernel_rfl
def Au:aO:=mkSpec [.val .state] [.bool] true (fun x=>yg x)
theorem XY:dI PG 51 Au:=
 have K:CxR xX:=aP.cx (fun _=>rfl) (l:=[(120,Ad),(121,BJ),(122,yw),(123,kP),(125,oG),(124,yV)]) ⟨X9,Zt,Xz,FN,J4,Yt,trivial⟩
 aH K (aG (l:=[(51,250,FX),(51,506,GN)]) rfl ⟨bF (n:=900) (f:=51) K (by kernel_rfl) (by kernel_rfl) (by kernel_rfl) (by kernel_rfl) (by kernel_rfl) (fun p v r h=>(Qh p.1 p.2 v.1 v.2.1 v.2.2).trans h),
  bF (n:=900) (f:=51) K (by kernel_rfl) (by kernel_rfl) (by kernel_rfl) (by kernel_rfl) (by kernel_rfl) (fun p v r h=>(QH p.1 p.2 v.1 v.2).trans h),trivial⟩) (by kernel_rfl) (fun x y h=>(V6 x).trans h) rfl rfl
def pY (x0:ax):Option (Bool):=af (yg x0) fun y0 => some y0
noncomputable def abj:Cx:={ P:=PG,ety:=ety,fn:=look [(51,Au)],inl:=dR [],lp:=aS [] }
theorem aew (x0:ax):bP abj 18 [.val .state] [.bool] x0=pY x0:=by kernel_rfl
def oI:aO:=mkSpec [.val .state] [.bool] true (fun x=>pY x)
theorem Mc:dI PG 18 oI:=
 have K:CxR abj:=aP.cx (fun _=>rfl) (l:=[(51,Au)]) ⟨XY,trivial⟩
 aH K (aG (l:=[]) rfl trivial) (by kernel_rfl) (fun x y h=>(aew x).trans h) rfl rfl
def Wh (x0:Int) (x1:Int) (x2:dL) (x3:Int):Option (ax×Int):=cnd (bor (bor (bor (ilt x0 1) (ilt 8 x0)) (ilt x1 1)) (ilt 8 x1)) (some (ax.mk 0 0 [] [] [] [] false 0 0 0,1)) (cnd (band (band (ile 0 (wr .i64 (dY x0 x1))) (ile (wr .i64 (dY x0 x1)) (wr .i64 (dY x0 x1)))) (ile (wr .i64 (dY x0 x1)) 68719476736)) (af (xO [x2] (wr .i64 (dY x0 x1))) fun y0 => af (BR [x3] x0) fun y1 => af (pY (ax.mk x0 x1 [] (jR aK (itn (wr .i64 (dY x0 x1)))) y0 y1 false 0 0 0)) fun y2 => cnd (ay y2) (some (ax.mk 0 0 [] [] [] [] false 0 0 0,1)) (some (ax.mk x0 x1 [] (jR aK (itn (wr .i64 (dY x0 x1)))) y0 y1 false 0 0 0,0))) none)
noncomputable def af4:Cx:={ P:=PG,ety:=ety,fn:=look [(57,uJ),(58,xE),(18,oI)],inl:=dR [],lp:=aS [] }
theorem ahx (x0:Int) (x1:Int) (x2:dL) (x3:Int):bP af4 22 [.int .i64,.int .i64,.val .expo,.int .i64] [.val .state,.int .i64] (x0,x1,x2,x3)=Wh x0 x1 x2 x3:=by kernel_rfl
def Tz:aO:=mkSpec [.int .i64,.int .i64,.val .expo,.int .i64] [.val .state,.int .i64] false (fun x=>Wh x.1 x.2.1 x.2.2.1 x.2.2.2)
theorem akq:dI PG 22 Tz:=
 have K:CxR af4:=aP.cx (fun _=>rfl) (l:=[(57,uJ),(58,xE),(18,oI)]) ⟨Ri,Ws,Mc,trivial⟩
 aH K (aG (l:=[]) rfl trivial) (by kernel_rfl) (fun x y h=>(ahx x.1 x.2.1 x.2.2.1 x.2.2.2).trans h) rfl rfl
def gG (x0:(List aJ)):Option ((List aJ)):=abW (len x0) fun y0 => cnd (beq y0 true) (some []) (cnd (ile (len x0) 68719476736) (some x0) none)
noncomputable def Gi:Cx:={ P:=PG,ety:=ety,fn:=look [],inl:=dR [],lp:=aS [] }
theorem O1 (x0:(List aJ)):bP Gi 132 [.ro .order] [.buf .order] x0=gG x0:=by kernel_rfl
def uG:aO:=mkSpec [.ro .order] [.buf .order] true (fun x=>gG x)
theorem Rx:dI PG 132 uG:=
 have K:CxR Gi:=aP.cx (fun _=>rfl) (l:=[]) trivial
 aH K (aG (l:=[]) rfl trivial) (by kernel_rfl) (fun x y h=>(O1 x).trans h) rfl rfl
def iq (x0:(List aK)):Option ((List aK)):=abW (len x0) fun y0 => cnd (beq y0 true) (some []) (cnd (ile (len x0) 68719476736) (some x0) none)
noncomputable def IV:Cx:={ P:=PG,ety:=ety,fn:=look [],inl:=dR [],lp:=aS [] }
theorem Ql (x0:(List aK)):bP IV 133 [.ro .cell] [.buf .cell] x0=iq x0:=by kernel_rfl
def vW:aO:=mkSpec [.ro .cell] [.buf .cell] true (fun x=>iq x)
theorem Tf:dI PG 133 vW:=
 have K:CxR IV:=aP.cx (fun _=>rfl) (l:=[]) trivial
 aH K (aG (l:=[]) rfl trivial) (by kernel_rfl) (fun x y h=>(Ql x).trans h) rfl rfl
def gZ (x0:(List dL)):Option ((List dL)):=abW (len x0) fun y0 => cnd (beq y0 true) (some []) (cnd (ile (len x0) 68719476736) (some x0) none)
noncomputable def Iu:Cx:={ P:=PG,ety:=ety,fn:=look [],inl:=dR [],lp:=aS [] }
theorem QG (x0:(List dL)):bP Iu 134 [.ro .expo] [.buf .expo] x0=gZ x0:=by kernel_rfl
def vK:aO:=mkSpec [.ro .expo] [.buf .expo] true (fun x=>gZ x)
theorem Tj:dI PG 134 vK:=
 have K:CxR Iu:=aP.cx (fun _=>rfl) (l:=[]) trivial
 aH K (aG (l:=[]) rfl trivial) (by kernel_rfl) (fun x y h=>(QG x).trans h) rfl rfl
def jy (x0:(List Int)):Option ((List Int)):=abW (len x0) fun y0 => cnd (beq y0 true) (some []) (cnd (ile (len x0) 68719476736) (some x0) none)
noncomputable def Na:Cx:={ P:=PG,ety:=ety,fn:=look [],inl:=dR [],lp:=aS [] }
theorem Ur (x0:(List Int)):bP Na 135 [.ro .i64] [.buf .i64] x0=jy x0:=by kernel_rfl
def yB:aO:=mkSpec [.ro .i64] [.buf .i64] true (fun x=>jy x)
theorem XC:dI PG 135 yB:=
 have K:CxR Na:=aP.cx (fun _=>rfl) (l:=[]) trivial
 aH K (aG (l:=[]) rfl trivial) (by kernel_rfl) (fun x y h=>(Ur x).trans h) rfl rfl
def L8 (x0:yC):Option (aJ×Int):=af (cnd (ay (ay (ieq x0.kind 1))) (wY x0) (some false)) fun y0 => cnd (bor (ay (ieq x0.kind 1)) (ay y0)) (some (aJ.mk 0 0 0 0 0 0 0 0 0 0 0 false,1)) (some (aJ.mk x0.order x0.account x0.symbol x0.side x0.qty x0.price 0 1 0 0 0 false,0))
noncomputable def aag:Cx:={ P:=PG,ety:=ety,fn:=look [(60,pV)],inl:=dR [],lp:=aS [] }
theorem ac0 (x0:yC):bP aag 136 [.val .recd] [.val .order,.int .i64] x0=L8 x0:=by kernel_rfl
def LX:aO:=mkSpec [.val .recd] [.val .order,.int .i64] true (fun x=>L8 x)
theorem afQ:dI PG 136 LX:=
 have K:CxR aag:=aP.cx (fun _=>rfl) (l:=[(60,pV)]) ⟨O3,trivial⟩
 aH K (aG (l:=[]) rfl trivial) (by kernel_rfl) (fun x y h=>(ac0 x).trans h) rfl rfl
def Zc (x0:aK):Option (dL×Int):=af (jJ x0) fun y0 => cnd (ay y0) (some (dL.mk 0 0 0,1)) (af (IX x0) fun y1 => some (y1.fst,0))
noncomputable def ahU:Cx:={ P:=PG,ety:=ety,fn:=look [(123,kP),(185,Dz)],inl:=dR [],lp:=aS [] }
theorem ai8 (x0:aK):bP ahU 189 [.val .cell] [.val .expo,.int .i64] x0=Zc x0:=by kernel_rfl
def V3:aO:=mkSpec [.val .cell] [.val .expo,.int .i64] true (fun x=>Zc x)
theorem amC:dI PG 189 V3:=
 have K:CxR ahU:=aP.cx (fun _=>rfl) (l:=[(123,kP),(185,Dz)]) ⟨FN,aa5,trivial⟩
 aH K (aG (l:=[]) rfl trivial) (by kernel_rfl) (fun x y h=>(ai8 x).trans h) rfl rfl
def F5 (x0:dL):Option (SA3):=some (SA3.mk x0.long x0.short x0.opn)
noncomputable def aah:Cx:={ P:=PG,ety:=ety,fn:=look [],inl:=dR [],lp:=aS [] }
theorem acH (x0:dL):bP aah 222 [.val .expo] [.val .a3] x0=F5 x0:=by kernel_rfl
def Lr:aO:=mkSpec [.val .expo] [.val .a3] true (fun x=>F5 x)
theorem aft:dI PG 222 Lr:=
 have K:CxR aah:=aP.cx (fun _=>rfl) (l:=[]) trivial
 aH K (aG (l:=[]) rfl trivial) (by kernel_rfl) (fun x y h=>(acH x).trans h) rfl rfl
def rC (x0:Int) (x1:Int) (x2:Int):Option (Bool):=some (ilt (imax x0 x2) x1)
noncomputable def Qo:Cx:={ P:=PG,ety:=ety,fn:=look [],inl:=dR [],lp:=aS [] }
theorem XG (x0:Int) (x1:Int) (x2:Int):bP Qo 191 [.int .i64,.int .i64,.int .i64] [.bool] (x0,x1,x2)=rC x0 x1 x2:=by kernel_rfl
def qV:aO:=mkSpec [.int .i64,.int .i64,.int .i64] [.bool] true (fun x=>rC x.1 x.2.1 x.2.2)
theorem OM:dI PG 191 qV:=
 have K:CxR Qo:=aP.cx (fun _=>rfl) (l:=[]) trivial
 aH K (aG (l:=[]) rfl trivial) (by kernel_rfl) (fun x y h=>(XG x.1 x.2.1 x.2.2).trans h) rfl rfl
def Oc (x0:dL) (x1:dL) (x2:dL):Option (Bool):=af (F5 x0) fun y0 => af (F5 x1) fun y1 => af (F5 x2) fun y2 => af (rC y0.a0 y1.a0 y2.a0) fun y3 => cnd y3 (some true) (af (rC y0.a1 y1.a1 y2.a1) fun y4 => cnd y4 (some true) (af (rC y0.a2 y1.a2 y2.a2) fun y5 => cnd y5 (some true) (some false)))
noncomputable def WR:Cx:={ P:=PG,ety:=ety,fn:=look [(222,Lr),(191,qV)],inl:=dR [],lp:=aS [] }
theorem aar (x0:dL) (x1:dL) (x2:dL):bP WR 190 [.val .expo,.val .expo,.val .expo] [.bool] (x0,x1,x2)=Oc x0 x1 x2:=by kernel_rfl
def Hf:aO:=mkSpec [.val .expo,.val .expo,.val .expo] [.bool] true (fun x=>Oc x.1 x.2.1 x.2.2)
theorem ac6:dI PG 190 Hf:=
 have K:CxR WR:=aP.cx (fun _=>rfl) (l:=[(222,Lr),(191,qV)]) ⟨aft,OM,trivial⟩
 aH K (aG (l:=[]) rfl trivial) (by kernel_rfl) (fun x y h=>(aar x.1 x.2.1 x.2.2).trans h) rfl rfl
def jf (x0:ax) (x1:ax) (x2:Int) (x3:Int):Option (Int):=af (bU x0 x2 x3) fun y0 => af (kZ x0 x2) fun y1 => af (xB y1) fun y2 => cnd (ay (ieq y2.snd 0)) (some 3) (af (kZ x1 x2) fun y3 => af (xB y3) fun y4 => cnd (band (ile 0 y0) (ilt y0 (len x1.cells))) (af (Zc (ai x1.cells (itn y0))) fun y5 => cnd (band (ile 0 y0) (ilt y0 (len x0.cells))) (af (Zc (ai x0.cells (itn y0))) fun y6 => cnd (band (ile 0 y0) (ilt y0 (len x0.limits))) (af (Oc y5.fst y6.fst (ai x0.limits (itn y0))) fun y7 => cnd (bor (band (ile 0 x2) (ilt x2 (len x0.caps))) (ay (ay y7))) (af (cnd (ay y7) (rC y4.fst y2.fst (ai x0.caps (itn x2))) (some false)) fun y8 => cnd (bor y7 y8) (some 4) (some 0)) none) none) none) none)
noncomputable def OD:Cx:={ P:=PG,ety:=ety,fn:=look [(137,iC),(125,oG),(124,yV),(189,V3),(190,Hf),(191,qV)],inl:=dR [],lp:=aS [] }
theorem Wy (x0:ax) (x1:ax) (x2:Int) (x3:Int):bP OD 139 [.val .state,.val .state,.int .i64,.int .i64] [.int .i64] (x0,x1,x2,x3)=jf x0 x1 x2 x3:=by kernel_rfl
def zT:aO:=mkSpec [.val .state,.val .state,.int .i64,.int .i64] [.int .i64] true (fun x=>jf x.1 x.2.1 x.2.2.1 x.2.2.2)
theorem Yq:dI PG 139 zT:=
 have K:CxR OD:=aP.cx (fun _=>rfl) (l:=[(137,iC),(125,oG),(124,yV),(189,V3),(190,Hf),(191,qV)]) ⟨wG,J4,Yt,amC,ac6,OM,trivial⟩
 aH K (aG (l:=[]) rfl trivial) (by kernel_rfl) (fun x y h=>(Wy x.1 x.2.1 x.2.2.1 x.2.2.2).trans h) rfl rfl
def oK:LSh:=⟨78,[(7,.int .i64),(0,.ro .order)],[(1,.fn 193 [.mp 24 0])],[(24,[.int .i64])],[(8,.int .i64),(4,.int .i64)],[],[]⟩
@[reducible] def oL:List fO:=[⟨.ret,[(4,.int .i64)],[],[]⟩,⟨.exit 0,[(4,.int .i64)],[],[]⟩]
def dS (p0:Int) (p1:(List aJ)) (p2:Int) (v0:Int) (v1:Int):Option ((Int×Int) ⊕ ((Int) ⊕ ((Int)))):=cnd (ilt v0 p0) (cnd (band (ile 0 v0) (ilt v0 (len p1))) (cnd (ieq (ai p1 (itn v0)).id p2) (some (Sum.inr (Sum.inl v0))) (some (Sum.inl (wr .i64 (aj v0 1),v1)))) none) (some (Sum.inr (Sum.inr v1)))
def oq:dU:=oK.spec oL [9,10,5,11,12,13,14,15,16,17,4,18,8] (fun p v=>dS p.1 p.2.1 p.2.2 v.1 v.2)
def uT (x0:ax) (x1:Int):Option (Int):=af (bD (fun v => dS (len x0.orders) x0.orders x1 v.fst v.snd) LF (0,0)) fun y0 => gY y0 (fun y1 => some y1) fun y1 => some (-1)
noncomputable def YA:Cx:={ P:=PG,ety:=ety,fn:=look [],inl:=dR [193,192],lp:=aS [(601295462592,26,oq)] }
theorem wI (p0:Int) (p1:(List aJ)) (p2:Int) (v0:Int) (v1:Int):fC YA 900 601295462592 26 (dK PG 192 26) oK oL (p0,p1,p2) (v0,v1)=dS p0 p1 p2 v0 v1:=by kernel_rfl
theorem afi (x0:ax) (x1:Int):bP YA 140 [.val .state,.int .i64] [.int .i64] (x0,x1)=uT x0 x1:=by kernel_rfl
def QB:aO:=mkSpec [.val .state,.int .i64] [.int .i64] true (fun x=>uT x.1 x.2)
theorem aji:dI PG 140 QB:=
 have K:CxR YA:=aP.cx (fun _=>rfl) (l:=[]) trivial
 aH K (aG (l:=[(601295462592,26,oq)]) rfl ⟨bF (n:=900) (f:=192) K (by kernel_rfl) (by kernel_rfl) (by kernel_rfl) (by kernel_rfl) (by kernel_rfl) (fun p v r h=>(wI p.1 p.2.1 p.2.2 v.1 v.2).trans h),trivial⟩) (by kernel_rfl) (fun x y h=>(afi x.1 x.2).trans h) rfl rfl
def J9 (x0:aJ) (x1:Int) (x2:Int):Option (aJ×Int):=af (tN x0.version 1) fun y0 => af (kQ x0) fun y1 => cnd (ay y1) (cnd (ay y1) (some (x0,1)) (cnd (ay (ieq x0.phase 2)) (cnd (ay (ieq x0.phase 2)) (some (x0,8)) (some (aJ.mk x0.id x0.account x0.symbol x0.side x0.qty x0.price x0.filled x0.phase x1 x2 (wr .i64 (aj x0.version 1)) x0.asked,0))) (af (kN x0) fun y2 => cnd y2 (cnd y2 (some (x0,8)) (some (aJ.mk x0.id x0.account x0.symbol x0.side x0.qty x0.price x0.filled x0.phase x1 x2 (wr .i64 (aj x0.version 1)) x0.asked,0))) (cnd x0.asked (some (x0,8)) (some (aJ.mk x0.id x0.account x0.symbol x0.side x0.qty x0.price x0.filled x0.phase x1 x2 (wr .i64 (aj x0.version 1)) x0.asked,0)))))) (cnd (ilt x1 1) (cnd (ilt x1 1) (some (x0,1)) (cnd (ay (ieq x0.phase 2)) (cnd (ay (ieq x0.phase 2)) (some (x0,8)) (some (aJ.mk x0.id x0.account x0.symbol x0.side x0.qty x0.price x0.filled x0.phase x1 x2 (wr .i64 (aj x0.version 1)) x0.asked,0))) (af (kN x0) fun y3 => cnd y3 (cnd y3 (some (x0,8)) (some (aJ.mk x0.id x0.account x0.symbol x0.side x0.qty x0.price x0.filled x0.phase x1 x2 (wr .i64 (aj x0.version 1)) x0.asked,0))) (cnd x0.asked (some (x0,8)) (some (aJ.mk x0.id x0.account x0.symbol x0.side x0.qty x0.price x0.filled x0.phase x1 x2 (wr .i64 (aj x0.version 1)) x0.asked,0)))))) (cnd (ilt x2 1) (cnd (ilt x2 1) (some (x0,1)) (cnd (ay (ieq x0.phase 2)) (cnd (ay (ieq x0.phase 2)) (some (x0,8)) (some (aJ.mk x0.id x0.account x0.symbol x0.side x0.qty x0.price x0.filled x0.phase x1 x2 (wr .i64 (aj x0.version 1)) x0.asked,0))) (af (kN x0) fun y4 => cnd y4 (cnd y4 (some (x0,8)) (some (aJ.mk x0.id x0.account x0.symbol x0.side x0.qty x0.price x0.filled x0.phase x1 x2 (wr .i64 (aj x0.version 1)) x0.asked,0))) (cnd x0.asked (some (x0,8)) (some (aJ.mk x0.id x0.account x0.symbol x0.side x0.qty x0.price x0.filled x0.phase x1 x2 (wr .i64 (aj x0.version 1)) x0.asked,0)))))) (cnd (ay (ieq y0.snd 0)) (some (x0,1)) (cnd (ay (ieq x0.phase 2)) (cnd (ay (ieq x0.phase 2)) (some (x0,8)) (some (aJ.mk x0.id x0.account x0.symbol x0.side x0.qty x0.price x0.filled x0.phase x1 x2 (wr .i64 (aj x0.version 1)) x0.asked,0))) (af (kN x0) fun y5 => cnd y5 (cnd y5 (some (x0,8)) (some (aJ.mk x0.id x0.account x0.symbol x0.side x0.qty x0.price x0.filled x0.phase x1 x2 (wr .i64 (aj x0.version 1)) x0.asked,0))) (cnd x0.asked (some (x0,8)) (some (aJ.mk x0.id x0.account x0.symbol x0.side x0.qty x0.price x0.filled x0.phase x1 x2 (wr .i64 (aj x0.version 1)) x0.asked,0))))))))
noncomputable def XZ:Cx:={ P:=PG,ety:=ety,fn:=look [(59,ng),(180,fJ),(194,oP)],inl:=dR [],lp:=aS [] }
theorem aco (x0:aJ) (x1:Int) (x2:Int):bP XZ 141 [.val .order,.int .i64,.int .i64] [.val .order,.int .i64] (x0,x1,x2)=J9 x0 x1 x2:=by kernel_rfl
def JL:aO:=mkSpec [.val .order,.int .i64,.int .i64] [.val .order,.int .i64] true (fun x=>J9 x.1 x.2.1 x.2.2)
theorem aeO:dI PG 141 JL:=
 have K:CxR XZ:=aP.cx (fun _=>rfl) (l:=[(59,ng),(180,fJ),(194,oP)]) ⟨KX,sQ,LH,trivial⟩
 aH K (aG (l:=[]) rfl trivial) (by kernel_rfl) (fun x y h=>(aco x.1 x.2.1 x.2.2).trans h) rfl rfl
def Pq (x0:aK) (x1:aJ):Option (aK×Int):=af (jJ x0) fun y0 => af (cnd (ay (ay y0)) (kQ x1) (some false)) fun y1 => cnd (bor (ay y0) (ay y1)) (some (x0,1)) (af (BA x1) fun y2 => cnd (ieq x1.side 2) (af (wX x1) fun y3 => af (Bo x0.sell y3) fun y4 => af (Bo x0.opn y2.fst) fun y5 => af (cnd (ay (bor (bor (ay (ieq y2.snd 0)) (ay (ieq y4.snd 0))) (ay (ieq y5.snd 0)))) (jJ (aK.mk x0.pos x0.buy y4.fst y5.fst)) (some false)) fun y6 => cnd (bor (bor (bor (ay (ieq y2.snd 0)) (ay (ieq y4.snd 0))) (ay (ieq y5.snd 0))) (ay y6)) (some (x0,3)) (some (aK.mk x0.pos x0.buy y4.fst y5.fst,0))) (af (wX x1) fun y7 => af (Bo x0.buy y7) fun y8 => af (Bo x0.opn y2.fst) fun y9 => af (cnd (ay (bor (bor (ay (ieq y2.snd 0)) (ay (ieq y8.snd 0))) (ay (ieq y9.snd 0)))) (jJ (aK.mk x0.pos y8.fst x0.sell y9.fst)) (some false)) fun y10 => cnd (bor (bor (bor (ay (ieq y2.snd 0)) (ay (ieq y8.snd 0))) (ay (ieq y9.snd 0))) (ay y10)) (some (x0,3)) (some (aK.mk x0.pos y8.fst x0.sell y9.fst,0))))
noncomputable def aiD:Cx:={ P:=PG,ety:=ety,fn:=look [(123,kP),(180,fJ),(220,yI),(221,AL),(195,Ac)],inl:=dR [188],lp:=aS [] }
theorem ajg (x0:aK) (x1:aJ):bP aiD 142 [.val .cell,.val .order] [.val .cell,.int .i64] (x0,x1)=Pq x0 x1:=by kernel_rfl
def Vz:aO:=mkSpec [.val .cell,.val .order] [.val .cell,.int .i64] true (fun x=>Pq x.1 x.2)
theorem alX:dI PG 142 Vz:=
 have K:CxR aiD:=aP.cx (fun _=>rfl) (l:=[(123,kP),(180,fJ),(220,yI),(221,AL),(195,Ac)]) ⟨FN,sQ,Yw,Z7,aaC,trivial⟩
 aH K (aG (l:=[]) rfl trivial) (by kernel_rfl) (fun x y h=>(ajg x.1 x.2).trans h) rfl rfl
def SE (x0:aJ):Option (aJ×Int):=af (kQ x0) fun y0 => cnd (ay y0) (some (x0,1)) (cnd (ieq x0.phase 3) (cnd (ieq x0.phase 3) (some (x0,8)) (some (aJ.mk x0.id x0.account x0.symbol x0.side x0.qty x0.price x0.filled x0.phase x0.newQty x0.newPrice x0.version true,0))) (cnd x0.asked (some (x0,8)) (some (aJ.mk x0.id x0.account x0.symbol x0.side x0.qty x0.price x0.filled x0.phase x0.newQty x0.newPrice x0.version true,0))))
noncomputable def adP:Cx:={ P:=PG,ety:=ety,fn:=look [(180,fJ)],inl:=dR [],lp:=aS [] }
theorem afO (x0:aJ):bP adP 143 [.val .order] [.val .order,.int .i64] x0=SE x0:=by kernel_rfl
def PN:aO:=mkSpec [.val .order] [.val .order,.int .i64] true (fun x=>SE x)
theorem ajr:dI PG 143 PN:=
 have K:CxR adP:=aP.cx (fun _=>rfl) (l:=[(180,fJ)]) ⟨sQ,trivial⟩
 aH K (aG (l:=[]) rfl trivial) (by kernel_rfl) (fun x y h=>(afO x).trans h) rfl rfl
def Wl (x0:MJ):Option (yC):=some (yC.mk 6 x0.order 0 0 0 x0.qty x0.price 0 0 0 false x0.seq x0.what)
noncomputable def acy:Cx:={ P:=PG,ety:=ety,fn:=look [],inl:=dR [],lp:=aS [] }
theorem aeM (x0:MJ):bP acy 196 [.val .note] [.val .recd] x0=Wl x0:=by kernel_rfl
def Oh:aO:=mkSpec [.val .note] [.val .recd] true (fun x=>Wl x)
theorem ahm:dI PG 196 Oh:=
 have K:CxR acy:=aP.cx (fun _=>rfl) (l:=[]) trivial
 aH K (aG (l:=[]) rfl trivial) (by kernel_rfl) (fun x y h=>(aeM x).trans h) rfl rfl
def AO (x0:aJ):Option (aJ):=some (aJ.mk x0.id x0.account x0.symbol x0.side x0.qty x0.price x0.filled x0.phase 0 0 x0.version x0.asked)
noncomputable def WT:Cx:={ P:=PG,ety:=ety,fn:=look [],inl:=dR [],lp:=aS [] }
theorem aat (x0:aJ):bP WT 224 [.val .order] [.val .order] x0=AO x0:=by kernel_rfl
def vV:aO:=mkSpec [.val .order] [.val .order] true (fun x=>AO x)
theorem U1:dI PG 224 vV:=
 have K:CxR WT:=aP.cx (fun _=>rfl) (l:=[]) trivial
 aH K (aG (l:=[]) rfl trivial) (by kernel_rfl) (fun x y h=>(aat x).trans h) rfl rfl
def J3 (x0:aJ):Option (aJ):=af (AO (aJ.mk x0.id x0.account x0.symbol x0.side x0.qty x0.price x0.filled 3 x0.newQty x0.newPrice x0.version x0.asked)) fun y0 => some y0
noncomputable def abB:Cx:={ P:=PG,ety:=ety,fn:=look [(224,vV)],inl:=dR [],lp:=aS [] }
theorem aeo (x0:aJ):bP abB 223 [.val .order] [.val .order] x0=J3 x0:=by kernel_rfl
def AY:aO:=mkSpec [.val .order] [.val .order] true (fun x=>J3 x)
theorem ZU:dI PG 223 AY:=
 have K:CxR abB:=aP.cx (fun _=>rfl) (l:=[(224,vV)]) ⟨U1,trivial⟩
 aH K (aG (l:=[]) rfl trivial) (by kernel_rfl) (fun x y h=>(aeo x).trans h) rfl rfl
def VI (x0:aJ) (x1:MJ):Option (aJ×Bool):=cnd (ieq x1.what 1) (some (aJ.mk x0.id x0.account x0.symbol x0.side x0.qty x0.price x0.filled 2 x0.newQty x0.newPrice x0.version x0.asked,true)) (cnd (ieq x1.what 2) (af (J3 x0) fun y0 => some (y0,true)) (some (x0,false)))
noncomputable def abf:Cx:={ P:=PG,ety:=ety,fn:=look [(223,AY)],inl:=dR [],lp:=aS [] }
theorem aez (x0:aJ) (x1:MJ):bP abf 197 [.val .order,.val .note] [.val .order,.bool] (x0,x1)=VI x0 x1:=by kernel_rfl
def Oo:aO:=mkSpec [.val .order,.val .note] [.val .order,.bool] true (fun x=>VI x.1 x.2)
theorem ahn:dI PG 197 Oo:=
 have K:CxR abf:=aP.cx (fun _=>rfl) (l:=[(223,AY)]) ⟨ZU,trivial⟩
 aH K (aG (l:=[]) rfl trivial) (by kernel_rfl) (fun x y h=>(aez x.1 x.2).trans h) rfl rfl
def VA (x0:aJ) (x1:MJ):Option (aJ×Bool):=cnd (ieq x1.what 3) (cnd (ilt (wr .i64 (aI x0.qty x0.filled)) x1.qty) (some (x0,false)) (cnd (ilt (wr .i64 (aj x0.filled x1.qty)) x0.qty) (some (aJ.mk x0.id x0.account x0.symbol x0.side x0.qty x0.price (wr .i64 (aj x0.filled x1.qty)) x0.phase x0.newQty x0.newPrice x0.version x0.asked,true)) (af (J3 (aJ.mk x0.id x0.account x0.symbol x0.side x0.qty x0.price (wr .i64 (aj x0.filled x1.qty)) x0.phase x0.newQty x0.newPrice x0.version x0.asked)) fun y0 => some (y0,true)))) (cnd (ieq x1.what 4) (af (J3 x0) fun y1 => some (y1,true)) (cnd (ieq x1.what 5) (af (kN x0) fun y2 => cnd (bor (bor (bor (ay y2) (ay (ieq x1.qty x0.newQty))) (ay (ieq x1.price x0.newPrice))) (ile x1.qty x0.filled)) (some (x0,false)) (af (AO (aJ.mk x0.id x0.account x0.symbol x0.side x1.qty x1.price x0.filled x0.phase x0.newQty x0.newPrice x0.version x0.asked)) fun y3 => some (y3,true))) (cnd (ieq x1.what 6) (af (AO x0) fun y4 => af (kN x0) fun y5 => some (y4,y5)) (some (x0,false)))))
noncomputable def abn:Cx:={ P:=PG,ety:=ety,fn:=look [(223,AY),(194,oP),(224,vV)],inl:=dR [],lp:=aS [] }
theorem aeC (x0:aJ) (x1:MJ):bP abn 198 [.val .order,.val .note] [.val .order,.bool] (x0,x1)=VA x0 x1:=by kernel_rfl
def N8:aO:=mkSpec [.val .order,.val .note] [.val .order,.bool] true (fun x=>VA x.1 x.2)
theorem ahj:dI PG 198 N8:=
 have K:CxR abn:=aP.cx (fun _=>rfl) (l:=[(223,AY),(194,oP),(224,vV)]) ⟨ZU,LH,U1,trivial⟩
 aH K (aG (l:=[]) rfl trivial) (by kernel_rfl) (fun x y h=>(aeC x.1 x.2).trans h) rfl rfl
def OW (x0:aJ) (x1:MJ):Option (aJ×Int):=af (kQ x0) fun y0 => af (cnd (ay (ay y0)) (Wl x1) (some (yC.mk 0 0 0 0 0 0 0 0 0 0 false 0 0))) fun y1 => af (cnd (ay (ay y0)) (wY y1) (some false)) fun y2 => cnd (bor (bor (ay y0) (ay y2)) (ay (ieq x1.order x0.id))) (some (x0,1)) (cnd (ieq x0.phase 1) (af (VI x0 x1) fun y3 => cnd (ay y3.snd) (some (x0,8)) (some (y3.fst,0))) (cnd (ieq x0.phase 2) (af (VA x0 x1) fun y4 => cnd (ay y4.snd) (some (x0,8)) (some (y4.fst,0))) (some (x0,8))))
noncomputable def abh:Cx:={ P:=PG,ety:=ety,fn:=look [(180,fJ),(196,Oh),(60,pV),(197,Oo),(198,N8)],inl:=dR [],lp:=aS [] }
theorem aeQ (x0:aJ) (x1:MJ):bP abh 144 [.val .order,.val .note] [.val .order,.int .i64] (x0,x1)=OW x0 x1:=by kernel_rfl
def NU:aO:=mkSpec [.val .order,.val .note] [.val .order,.int .i64] true (fun x=>OW x.1 x.2)
theorem ahu:dI PG 144 NU:=
 have K:CxR abh:=aP.cx (fun _=>rfl) (l:=[(180,fJ),(196,Oh),(60,pV),(197,Oo),(198,N8)]) ⟨sQ,ahm,O3,ahn,ahj,trivial⟩
 aH K (aG (l:=[]) rfl trivial) (by kernel_rfl) (fun x y h=>(aeQ x.1 x.2).trans h) rfl rfl
def VU (x0:aK) (x1:Int) (x2:Int):Option (aK×Int):=af (jJ x0) fun y0 => cnd (bor (bor (ay y0) (band (ay (ieq x1 1)) (ay (ieq x1 2)))) (ilt x2 0)) (some (x0,1)) (cnd (ieq x1 1) (af (tN x0.pos x2) fun y1 => af (cnd (ay (ay (ieq y1.snd 0))) (jJ (aK.mk y1.fst x0.buy x0.sell x0.opn)) (some false)) fun y2 => cnd (bor (ay (ieq y1.snd 0)) (ay y2)) (some (x0,3)) (some (aK.mk y1.fst x0.buy x0.sell x0.opn,0))) (af (Bo x0.pos x2) fun y3 => af (cnd (ay (ay (ieq y3.snd 0))) (jJ (aK.mk y3.fst x0.buy x0.sell x0.opn)) (some false)) fun y4 => cnd (bor (ay (ieq y3.snd 0)) (ay y4)) (some (x0,3)) (some (aK.mk y3.fst x0.buy x0.sell x0.opn,0))))
noncomputable def ahb:Cx:={ P:=PG,ety:=ety,fn:=look [(123,kP),(59,ng),(195,Ac)],inl:=dR [],lp:=aS [] }
theorem ahF (x0:aK) (x1:Int) (x2:Int):bP ahb 145 [.val .cell,.int .i64,.int .i64] [.val .cell,.int .i64] (x0,x1,x2)=VU x0 x1 x2:=by kernel_rfl
def Tm:aO:=mkSpec [.val .cell,.int .i64,.int .i64] [.val .cell,.int .i64] true (fun x=>VU x.1 x.2.1 x.2.2)
theorem akN:dI PG 145 Tm:=
 have K:CxR ahb:=aP.cx (fun _=>rfl) (l:=[(123,kP),(59,ng),(195,Ac)]) ⟨FN,KX,aaC,trivial⟩
 aH K (aG (l:=[]) rfl trivial) (by kernel_rfl) (fun x y h=>(ahF x.1 x.2.1 x.2.2).trans h) rfl rfl
def kz (x0:(List aJ)) (x1:Int) (x2:Int):Option ((List aJ)):=cnd (band (band (band (ile 0 x1) (ile x1 x2)) (ile x2 (len x0))) (band (ile x2 (len x0)) (ile (len x0) (len x0)))) (cnd (ieq x1 x2) (some x0) (cnd (band (ile 0 x1) (ile x1 (len x0))) (cnd (band (ile 0 x2) (ile x2 (len x0))) (cnd (ile (aj (nti (itn x1)) (len (aA (aN x0 (itn x2)) (itn (aI (len x0) x2))))) (len x0)) (cnd (band (band (ile 0 (nti (nad (itn x1) (itn (len (aA (aN x0 (itn x2)) (itn (aI (len x0) x2)))))))) (ile (nti (nad (itn x1) (itn (len (aA (aN x0 (itn x2)) (itn (aI (len x0) x2))))))) (len x0))) (ile (len x0) (aI (len (fZ x0 (itn x1) (aA (aN x0 (itn x2)) (itn (aI (len x0) x2))))) 0))) (some (aA (aN (fZ (fZ x0 (itn x1) (aA (aN x0 (itn x2)) (itn (aI (len x0) x2)))) (nad 0 (itn (nti (nad (itn x1) (itn (len (aA (aN x0 (itn x2)) (itn (aI (len x0) x2))))))))) (jR aJ (itn (aI (len x0) (nti (nad (itn x1) (itn (len (aA (aN x0 (itn x2)) (itn (aI (len x0) x2))))))))))) 0) (nad (itn x1) (itn (len (aA (aN x0 (itn x2)) (itn (aI (len x0) x2)))))))) none) none) none) none)) none
noncomputable def EF:Cx:={ P:=PG,ety:=ety,fn:=look [],inl:=dR [],lp:=aS [] }
theorem NW (x0:(List aJ)) (x1:Int) (x2:Int):bP EF 146 [.buf .order,.int .i64,.int .i64] [.ro .order] (x0,x1,x2)=kz x0 x1 x2:=by kernel_rfl
def tZ:aO:=mkSpec [.buf .order,.int .i64,.int .i64] [.ro .order] false (fun x=>kz x.1 x.2.1 x.2.2)
theorem Qj:dI PG 146 tZ:=
 have K:CxR EF:=aP.cx (fun _=>rfl) (l:=[]) trivial
 aH K (aG (l:=[]) rfl trivial) (by kernel_rfl) (fun x y h=>(NW x.1 x.2.1 x.2.2).trans h) rfl rfl
def U7 (x0:ax) (x1:yC):Option (ax×Int):=af (tN x0.lsn 1) fun y0 => af (cnd (ay (bor (ay (ieq y0.snd 0)) (ile 1000000000 x0.lsn))) (wY x1) (some false)) fun y1 => af (cnd (ay (bor (bor (ay (ieq y0.snd 0)) (ile 1000000000 x0.lsn)) (ay y1))) (pY x0) (some false)) fun y2 => cnd (bor (bor (bor (ay (ieq y0.snd 0)) (ile 1000000000 x0.lsn)) (ay y1)) (ay y2)) (some (x0,1)) (af (gG x0.orders) fun y3 => af (iq x0.cells) fun y4 => af (gZ x0.limits) fun y5 => af (jy x0.caps) fun y6 => cnd (ieq x1.kind 1) (af (L8 x1) fun y7 => cnd (ile x1.order x0.last) (cnd (ile x1.order x0.last) (some (x0,1)) (cnd x0.kill (some (x0,5)) (cnd (ieq (len y3) 64) (some (x0,6)) (af (gG y3) fun y8 => af (iq y4) fun y9 => af (gZ y5) fun y10 => af (jy y6) fun y11 => af (bU (ax.mk x0.accounts x0.symbols y3 y4 y5 y6 x0.kill x0.last x0.seq x0.lsn) y7.fst.account y7.fst.symbol) fun y12 => cnd (band (ile 0 y12) (ilt y12 (len y4))) (af (jH (ai y4 (itn y12)) y7.fst) fun y13 => cnd (ay (ieq y13.snd 0)) (some (x0,3)) (cnd (ile (len (dB y3 [y7.fst])) 68719476736) (af (jf (ax.mk x0.accounts x0.symbols (dB y3 [y7.fst]) (bT y4 (itn y12) y13.fst) y5 y6 x0.kill y7.fst.id x0.seq x0.lsn) (ax.mk x0.accounts x0.symbols y8 y9 y10 y11 x0.kill x0.last x0.seq x0.lsn) y7.fst.account y7.fst.symbol) fun y14 => cnd (ay (ieq y14 0)) (some (x0,y14)) (some (ax.mk x0.accounts x0.symbols (dB y3 [y7.fst]) (bT y4 (itn y12) y13.fst) y5 y6 x0.kill y7.fst.id x0.seq (wr .i64 (aj x0.lsn 1)),0))) none)) none)))) (cnd (ile x0.accounts x1.account) (cnd (ile x0.accounts x1.account) (some (x0,1)) (cnd x0.kill (some (x0,5)) (cnd (ieq (len y3) 64) (some (x0,6)) (af (gG y3) fun y15 => af (iq y4) fun y16 => af (gZ y5) fun y17 => af (jy y6) fun y18 => af (bU (ax.mk x0.accounts x0.symbols y3 y4 y5 y6 x0.kill x0.last x0.seq x0.lsn) y7.fst.account y7.fst.symbol) fun y19 => cnd (band (ile 0 y19) (ilt y19 (len y4))) (af (jH (ai y4 (itn y19)) y7.fst) fun y20 => cnd (ay (ieq y20.snd 0)) (some (x0,3)) (cnd (ile (len (dB y3 [y7.fst])) 68719476736) (af (jf (ax.mk x0.accounts x0.symbols (dB y3 [y7.fst]) (bT y4 (itn y19) y20.fst) y5 y6 x0.kill y7.fst.id x0.seq x0.lsn) (ax.mk x0.accounts x0.symbols y15 y16 y17 y18 x0.kill x0.last x0.seq x0.lsn) y7.fst.account y7.fst.symbol) fun y21 => cnd (ay (ieq y21 0)) (some (x0,y21)) (some (ax.mk x0.accounts x0.symbols (dB y3 [y7.fst]) (bT y4 (itn y19) y20.fst) y5 y6 x0.kill y7.fst.id x0.seq (wr .i64 (aj x0.lsn 1)),0))) none)) none)))) (cnd (ile x0.symbols x1.symbol) (some (x0,1)) (cnd x0.kill (some (x0,5)) (cnd (ieq (len y3) 64) (some (x0,6)) (af (gG y3) fun y22 => af (iq y4) fun y23 => af (gZ y5) fun y24 => af (jy y6) fun y25 => af (bU (ax.mk x0.accounts x0.symbols y3 y4 y5 y6 x0.kill x0.last x0.seq x0.lsn) y7.fst.account y7.fst.symbol) fun y26 => cnd (band (ile 0 y26) (ilt y26 (len y4))) (af (jH (ai y4 (itn y26)) y7.fst) fun y27 => cnd (ay (ieq y27.snd 0)) (some (x0,3)) (cnd (ile (len (dB y3 [y7.fst])) 68719476736) (af (jf (ax.mk x0.accounts x0.symbols (dB y3 [y7.fst]) (bT y4 (itn y26) y27.fst) y5 y6 x0.kill y7.fst.id x0.seq x0.lsn) (ax.mk x0.accounts x0.symbols y22 y23 y24 y25 x0.kill x0.last x0.seq x0.lsn) y7.fst.account y7.fst.symbol) fun y28 => cnd (ay (ieq y28 0)) (some (x0,y28)) (some (ax.mk x0.accounts x0.symbols (dB y3 [y7.fst]) (bT y4 (itn y26) y27.fst) y5 y6 x0.kill y7.fst.id x0.seq (wr .i64 (aj x0.lsn 1)),0))) none)) none)))))) (cnd (ieq x1.kind 2) (af (uT (ax.mk x0.accounts x0.symbols y3 y4 y5 y6 x0.kill x0.last x0.seq x0.lsn) x1.order) fun y29 => cnd (ieq y29 (-1)) (some (x0,7)) (cnd (band (ile 0 y29) (ilt y29 (len y3))) (af (J9 (ai y3 (itn y29)) x1.qty x1.price) fun y30 => cnd (ay (ieq y30.snd 0)) (some (x0,8)) (cnd x0.kill (some (x0,5)) (af (gG y3) fun y31 => af (iq y4) fun y32 => af (gZ y5) fun y33 => af (jy y6) fun y34 => af (bU (ax.mk x0.accounts x0.symbols y3 y4 y5 y6 x0.kill x0.last x0.seq x0.lsn) (ai y3 (itn y29)).account (ai y3 (itn y29)).symbol) fun y35 => cnd (band (ile 0 y35) (ilt y35 (len y4))) (af (Pq (ai y4 (itn y35)) (ai y3 (itn y29))) fun y36 => af (jH y36.fst y30.fst) fun y37 => cnd (ay (ieq y37.snd 0)) (some (x0,3)) (cnd (band (ile 0 y29) (ilt y29 (len y3))) (af (jf (ax.mk x0.accounts x0.symbols (bT y3 (itn y29) y30.fst) (bT y4 (itn y35) y37.fst) y5 y6 x0.kill x0.last x0.seq x0.lsn) (ax.mk x0.accounts x0.symbols y31 y32 y33 y34 x0.kill x0.last x0.seq x0.lsn) (ai y3 (itn y29)).account (ai y3 (itn y29)).symbol) fun y38 => cnd (ay (ieq y38 0)) (some (x0,y38)) (some (ax.mk x0.accounts x0.symbols (bT y3 (itn y29) y30.fst) (bT y4 (itn y35) y37.fst) y5 y6 x0.kill x0.last x0.seq (wr .i64 (aj x0.lsn 1)),0))) none)) none))) none)) (cnd (ieq x1.kind 3) (af (uT (ax.mk x0.accounts x0.symbols y3 y4 y5 y6 x0.kill x0.last x0.seq x0.lsn) x1.order) fun y39 => cnd (ieq y39 (-1)) (some (x0,7)) (cnd (band (ile 0 y39) (ilt y39 (len y3))) (af (SE (ai y3 (itn y39))) fun y40 => cnd (band (ile 0 y39) (ilt y39 (len y3))) (cnd (ay (ieq y40.snd 0)) (some (x0,y40.snd)) (some (ax.mk x0.accounts x0.symbols (bT y3 (itn y39) y40.fst) y4 y5 y6 x0.kill x0.last x0.seq (wr .i64 (aj x0.lsn 1)),0))) none) none)) (cnd (ieq x1.kind 4) (cnd (ile x0.accounts x1.account) (cnd (ile x0.accounts x1.account) (some (x0,1)) (cnd (ieq x1.symbol (-1)) (cnd (band (ile 0 x1.account) (ilt x1.account (len y6))) (some (ax.mk x0.accounts x0.symbols y3 y4 y5 (bT y6 (itn x1.account) x1.opn) x0.kill x0.last x0.seq (wr .i64 (aj x0.lsn 1)),0)) none) (af (bU (ax.mk x0.accounts x0.symbols y3 y4 y5 y6 x0.kill x0.last x0.seq x0.lsn) x1.account x1.symbol) fun y41 => cnd (band (ile 0 y41) (ilt y41 (len y5))) (some (ax.mk x0.accounts x0.symbols y3 y4 (bT y5 (itn y41) (dL.mk x1.long x1.short x1.opn)) y6 x0.kill x0.last x0.seq (wr .i64 (aj x0.lsn 1)),0)) none))) (cnd (ile x0.symbols x1.symbol) (some (x0,1)) (cnd (ieq x1.symbol (-1)) (cnd (band (ile 0 x1.account) (ilt x1.account (len y6))) (some (ax.mk x0.accounts x0.symbols y3 y4 y5 (bT y6 (itn x1.account) x1.opn) x0.kill x0.last x0.seq (wr .i64 (aj x0.lsn 1)),0)) none) (af (bU (ax.mk x0.accounts x0.symbols y3 y4 y5 y6 x0.kill x0.last x0.seq x0.lsn) x1.account x1.symbol) fun y42 => cnd (band (ile 0 y42) (ilt y42 (len y5))) (some (ax.mk x0.accounts x0.symbols y3 y4 (bT y5 (itn y42) (dL.mk x1.long x1.short x1.opn)) y6 x0.kill x0.last x0.seq (wr .i64 (aj x0.lsn 1)),0)) none)))) (cnd (ieq x1.kind 5) (some (ax.mk x0.accounts x0.symbols y3 y4 y5 y6 x1.on x0.last x0.seq (wr .i64 (aj x0.lsn 1)),0)) (cnd (ay (ieq x1.seq (wr .i64 (aj x0.seq 1)))) (some (x0,11)) (af (uT (ax.mk x0.accounts x0.symbols y3 y4 y5 y6 x0.kill x0.last x1.seq x0.lsn) x1.order) fun y43 => cnd (ieq y43 (-1)) (some (ax.mk x0.accounts x0.symbols y3 y4 y5 y6 x0.kill x0.last x1.seq (wr .i64 (aj x0.lsn 1)),0)) (cnd (band (ile 0 y43) (ilt y43 (len y3))) (af (OW (ai y3 (itn y43)) (MJ.mk x1.seq x1.what x1.order x1.qty x1.price)) fun y44 => cnd (ay (ieq y44.snd 0)) (some (ax.mk x0.accounts x0.symbols y3 y4 y5 y6 x0.kill x0.last x1.seq (wr .i64 (aj x0.lsn 1)),0)) (af (bU (ax.mk x0.accounts x0.symbols y3 y4 y5 y6 x0.kill x0.last x1.seq x0.lsn) (ai y3 (itn y43)).account (ai y3 (itn y43)).symbol) fun y45 => cnd (band (ile 0 y45) (ilt y45 (len y4))) (af (Pq (ai y4 (itn y45)) (ai y3 (itn y43))) fun y46 => af (jH (ai (bT y4 (itn y45) y46.fst) (itn y45)) y44.fst) fun y47 => cnd (ieq x1.what 3) (af (VU (ai (bT (bT y4 (itn y45) y46.fst) (itn y45) y47.fst) (itn y45)) (ai y3 (itn y43)).side x1.qty) fun y48 => cnd (band (ile 0 y43) (ilt y43 (len y3))) (cnd (ieq y44.fst.phase 3) (af (kz (bT y3 (itn y43) y44.fst) y43 (wr .i64 (aj y43 1))) fun y49 => some (ax.mk x0.accounts x0.symbols y49 (bT (bT (bT y4 (itn y45) y46.fst) (itn y45) y47.fst) (itn y45) y48.fst) y5 y6 x0.kill x0.last x1.seq (wr .i64 (aj x0.lsn 1)),0)) (some (ax.mk x0.accounts x0.symbols (bT y3 (itn y43) y44.fst) (bT (bT (bT y4 (itn y45) y46.fst) (itn y45) y47.fst) (itn y45) y48.fst) y5 y6 x0.kill x0.last x1.seq (wr .i64 (aj x0.lsn 1)),0))) none) (cnd (band (ile 0 y43) (ilt y43 (len y3))) (cnd (ieq y44.fst.phase 3) (af (kz (bT y3 (itn y43) y44.fst) y43 (wr .i64 (aj y43 1))) fun y50 => some (ax.mk x0.accounts x0.symbols y50 (bT (bT y4 (itn y45) y46.fst) (itn y45) y47.fst) y5 y6 x0.kill x0.last x1.seq (wr .i64 (aj x0.lsn 1)),0)) (some (ax.mk x0.accounts x0.symbols (bT y3 (itn y43) y44.fst) (bT (bT y4 (itn y45) y46.fst) (itn y45) y47.fst) y5 y6 x0.kill x0.last x1.seq (wr .i64 (aj x0.lsn 1)),0))) none)) none)) none))))))))
noncomputable def aiQ:Cx:={ P:=PG,ety:=ety,fn:=look [(59,ng),(60,pV),(18,oI),(132,uG),(133,vW),(134,vK),(135,yB),(136,LX),(137,iC),(138,vZ),(139,zT),(140,QB),(141,JL),(142,Vz),(143,PN),(144,NU),(145,Tm),(146,tZ)],inl:=dR [61,62,63,64,65,66],lp:=aS [] }
theorem ajw (x0:ax) (x1:yC):bP aiQ 23 [.val .state,.val .recd] [.val .state,.int .i64] (x0,x1)=U7 x0 x1:=by kernel_rfl
def V5:aO:=mkSpec [.val .state,.val .recd] [.val .state,.int .i64] false (fun x=>U7 x.1 x.2)
theorem amo:dI PG 23 V5:=
 have K:CxR aiQ:=aP.cx (fun _=>rfl) (l:=[(59,ng),(60,pV),(18,oI),(132,uG),(133,vW),(134,vK),(135,yB),(136,LX),(137,iC),(138,vZ),(139,zT),(140,QB),(141,JL),(142,Vz),(143,PN),(144,NU),(145,Tm),(146,tZ)]) ⟨KX,O3,Mc,Rx,Tf,Tj,XC,afQ,wG,VH,Yq,aji,aeO,alX,ajr,ahu,akN,Qj,trivial⟩
 aH K (aG (l:=[]) rfl trivial) (by kernel_rfl) (fun x y h=>(ajw x.1 x.2).trans h) rfl rfl
def Nc (x0:Int):Option (Bool):=some (bor (bor (band (ile 97 x0) (ile x0 122)) (band (ile 48 x0) (ile x0 57))) (ieq x0 46))
noncomputable def adO:Cx:={ P:=PG,ety:=ety,fn:=look [],inl:=dR [],lp:=aS [] }
theorem afq (x0:Int):bP adO 187 [.int .u8] [.bool] x0=Nc x0:=by kernel_rfl
def P7:aO:=mkSpec [.int .u8] [.bool] true (fun x=>Nc x)
theorem ajV:dI PG 187 P7:=
 have K:CxR adO:=aP.cx (fun _=>rfl) (l:=[]) trivial
 aH K (aG (l:=[]) rfl trivial) (by kernel_rfl) (fun x y h=>(afq x).trans h) rfl rfl
def WY:LSh:=⟨69,[(5,.int .i64),(0,.str)],[],[],[(6,.int .i64),(2,.bool)],[],[]⟩
@[reducible] def Xa:List fO:=[⟨.ret,[(2,.bool)],[],[]⟩,⟨.exit 0,[(2,.bool)],[],[]⟩]
def wK (p0:Int) (p1:(List UInt8)) (v0:Int) (v1:Bool):Option ((Int×Bool) ⊕ ((Bool) ⊕ ((Bool)))):=cnd (ilt v0 p0) (cnd (band (ile 0 v0) (ilt v0 (len p1))) (af (Nc (ZM p1 (itn v0))) fun y0 => cnd (ay y0) (some (Sum.inr (Sum.inl false))) (some (Sum.inl (wr .i64 (aj v0 1),v1)))) none) (some (Sum.inr (Sum.inr v1)))
def UW:dU:=WY.spec Xa [7,8,3,9,10,11,12,13,2,14,6] (fun p v=>wK p.1 p.2 v.1 v.2)
def Eo (x0:(List UInt8)):Option (Bool):=af (bD (fun v => wK (len x0) x0 v.fst v.snd) LF (0,false)) fun y0 => gY y0 (fun y1 => some y1) fun y1 => some (band (ile 1 (len x0)) (ile (len x0) 16))
noncomputable def VW:Cx:={ P:=PG,ety:=ety,fn:=look [(187,P7)],inl:=dR [],lp:=aS [(126,26,UW)] }
theorem aaX (p0:Int) (p1:(List UInt8)) (v0:Int) (v1:Bool):fC VW 900 126 26 (dK PG 126 26) WY Xa (p0,p1) (v0,v1)=wK p0 p1 v0 v1:=by kernel_rfl
theorem aeS (x0:(List UInt8)):bP VW 126 [.str] [.bool] x0=Eo x0:=by kernel_rfl
def Bh:aO:=mkSpec [.str] [.bool] true (fun x=>Eo x)
theorem aaj:dI PG 126 Bh:=
 have K:CxR VW:=aP.cx (fun _=>rfl) (l:=[(187,P7)]) ⟨ajV,trivial⟩
 aH K (aG (l:=[(126,26,UW)]) rfl ⟨bF (n:=900) (f:=126) K (by kernel_rfl) (by kernel_rfl) (by kernel_rfl) (by kernel_rfl) (by kernel_rfl) (fun p v r h=>(aaX p.1 p.2 v.1 v.2).trans h),trivial⟩) (by kernel_rfl) (fun x y h=>(aeS x).trans h) rfl rfl
def Uh:LSh:=⟨93,[(29,.int .i64),(28,.ro .file)],[(1,.mp 8 0)],[(8,[.val .disk])],[(30,.int .i64),(3,.int .i64),(2,.bool)],[],[]⟩
@[reducible] def TQ:List fO:=[⟨.ret,[(2,.bool)],[],[]⟩,⟨.exit 0,[(2,.bool)],[],[]⟩]
def uZ (p0:Int) (p1:(List aF)) (p2:au) (v0:Int) (v1:Int) (v2:Bool):Option ((Int×Int×Bool) ⊕ ((Bool) ⊕ ((Bool)))):=cnd (ilt v0 p0) (cnd (band (ile 0 v0) (ilt v0 (len p1))) (af (Eo (ai p1 (itn v0)).name) fun y0 => cnd (bor (band (ile 0 (wr .i64 (aI v0 1))) (ilt (wr .i64 (aI v0 1)) (len p2.files))) (ay (band (ay (ay y0)) (ilt 0 v0)))) (cnd (bor (bor (bor (bor (ay y0) (band (ilt 0 v0) (ay (slt (ai p2.files (itn (wr .i64 (aI v0 1)))).name (ai p1 (itn v0)).name)))) (ilt (ai p1 (itn v0)).sure 0)) (ilt (len (ai p1 (itn v0)).data) (ai p1 (itn v0)).sure)) (ilt v1 (len (ai p1 (itn v0)).data))) (some (Sum.inr (Sum.inl false))) (some (Sum.inl (wr .i64 (aj v0 1),wr .i64 (aI v1 (len (ai p1 (itn v0)).data)),v2)))) none) none) (some (Sum.inr (Sum.inr v2)))
def RX:dU:=Uh.spec TQ [31,32,33,34,5,4,35,36,37,38,39,40,41,42,43,44,45,46,47,48,49,50,51,52,53,54,55,56,57,58,59,60,61,62,63,64,65,66,67,68,69,70,71,72,73,74,2,75,76,77,78,79,3,80,30] (fun p v=>uZ p.1 p.2.1 p.2.2 v.1 v.2.1 v.2.2)
def zN (x0:au):Option (Bool):=cnd (bor (bor (bor (ilt x0.room 0) (ilt 65536 x0.room)) (ilt x0.fuse (-1))) (ilt 64 (len x0.files))) (some false) (af (bD (fun v => uZ (len x0.files) x0.files x0 v.fst v.snd.fst v.snd.snd) LF (0,x0.room,false)) fun y0 => gY y0 (fun y1 => some y1) fun y1 => some true)
noncomputable def VL:Cx:={ P:=PG,ety:=ety,fn:=look [(126,Bh)],inl:=dR [],lp:=aS [(52,122,RX)] }
theorem Zu (p0:Int) (p1:(List aF)) (p2:au) (v0:Int) (v1:Int) (v2:Bool):fC VL 900 52 122 (dK PG 52 122) Uh TQ (p0,p1,p2) (v0,v1,v2)=uZ p0 p1 p2 v0 v1 v2:=by kernel_rfl
theorem aer (x0:au):bP VL 52 [.val .disk] [.bool] x0=zN x0:=by kernel_rfl
def A7:aO:=mkSpec [.val .disk] [.bool] true (fun x=>zN x)
theorem Z9:dI PG 52 A7:=
 have K:CxR VL:=aP.cx (fun _=>rfl) (l:=[(126,Bh)]) ⟨aaj,trivial⟩
 aH K (aG (l:=[(52,122,RX)]) rfl ⟨bF (n:=900) (f:=52) K (by kernel_rfl) (by kernel_rfl) (by kernel_rfl) (by kernel_rfl) (by kernel_rfl) (fun p v r h=>(Zu p.1 p.2.1 p.2.2 v.1 v.2.1 v.2.2).trans h),trivial⟩) (by kernel_rfl) (fun x y h=>(aer x).trans h) rfl rfl
def lT (x0:Int):Option ((List UInt8)):=cnd (ieq (vI x0 2) 0) (some [(UInt8.ofNat 115),(UInt8.ofNat 108),(UInt8.ofNat 111),(UInt8.ofNat 116),(UInt8.ofNat 46),(UInt8.ofNat 48)]) (some [(UInt8.ofNat 115),(UInt8.ofNat 108),(UInt8.ofNat 111),(UInt8.ofNat 116),(UInt8.ofNat 46),(UInt8.ofNat 49)])
noncomputable def aec:Cx:={ P:=PG,ety:=ety,fn:=look [],inl:=dR [],lp:=aS [] }
theorem afo (x0:Int):bP aec 72 [.int .i64] [.str] x0=lT x0:=by kernel_rfl
def DX:aO:=mkSpec [.int .i64] [.str] true (fun x=>lT x)
theorem ab8:dI PG 72 DX:=
 have K:CxR aec:=aP.cx (fun _=>rfl) (l:=[]) trivial
 aH K (aG (l:=[]) rfl trivial) (by kernel_rfl) (fun x y h=>(afo x).trans h) rfl rfl
def nO:LSh:=⟨88,[(7,.int .i64),(0,.ro .str)],[(1,.fn 149 [])],[],[(8,.int .i64),(4,.int .i64)],[],[]⟩
@[reducible] def nR:List fO:=[⟨.ret,[(4,.int .i64)],[],[]⟩,⟨.exit 0,[(4,.int .i64)],[],[]⟩]
def dO (p0:Int) (p1:(List (List UInt8))) (v0:Int) (v1:Int):Option ((Int×Int) ⊕ ((Int) ⊕ ((Int)))):=cnd (ilt v0 p0) (cnd (band (ile 0 v0) (ilt v0 (len p1))) (af (Eo (ai p1 (itn v0))) fun y0 => cnd (ay y0) (some (Sum.inr (Sum.inl v0))) (some (Sum.inl (wr .i64 (aj v0 1),v1)))) none) (some (Sum.inr (Sum.inr v1)))
def nC:dU:=nO.spec nR [9,10,5,11,12,13,14,15,16,17,4,18,8] (fun p v=>dO p.1 p.2 v.1 v.2)
def jK (x0:au) (x1:(List (List UInt8))):Option (Int):=af (zN x0) fun y0 => cnd (ay y0) (some 1) (cnd x0.down (some 9) (af (bD (fun v => dO (len x1) x1 v.fst v.snd) LF (0,0)) fun y1 => gY y1 (fun y2 => cnd (ile 0 y2) (some 1) (some 0)) fun y2 => some 0))
noncomputable def Vj:Cx:={ P:=PG,ety:=ety,fn:=look [(52,A7),(126,Bh)],inl:=dR [148,200,149],lp:=aS [(1401952796528185786568,26,nC)] }
theorem vM (p0:Int) (p1:(List (List UInt8))) (v0:Int) (v1:Int):fC Vj 900 1401952796528185786568 26 (dK PG 200 26) nO nR (p0,p1) (v0,v1)=dO p0 p1 v0 v1:=by kernel_rfl
theorem aem (x0:au) (x1:(List (List UInt8))):bP Vj 76 [.val .disk,.ro .str] [.int .i64] (x0,x1)=jK x0 x1:=by kernel_rfl
def jo:aO:=mkSpec [.val .disk,.ro .str] [.int .i64] true (fun x=>jK x.1 x.2)
theorem Bv:dI PG 76 jo:=
 have K:CxR Vj:=aP.cx (fun _=>rfl) (l:=[(52,A7),(126,Bh)]) ⟨Z9,aaj,trivial⟩
 aH K (aG (l:=[(1401952796528185786568,26,nC)]) rfl ⟨bF (n:=900) (f:=200) K (by kernel_rfl) (by kernel_rfl) (by kernel_rfl) (by kernel_rfl) (by kernel_rfl) (fun p v r h=>(vM p.1 p.2 v.1 v.2).trans h),trivial⟩) (by kernel_rfl) (fun x y h=>(aem x.1 x.2).trans h) rfl rfl
def xg (x0:(List UInt8)) (x1:(List UInt8)):Option (Int):=some (aj0 x0 x1)
def Dn:aO:=mkSpec [.str,.str] [.int .i64] true (fun x=>xg x.1 x.2)
def Zz:Go.Shelf.Ren:=⟨fun | 106=>152 | 213=>201 | 265=>225 | n=>n,fun | 9=>9 | 3=>3 | n=>n,fun | n=>n⟩
theorem Lc:Go.Proofs.Lays.n106 PG Zz where
 mixed:=by kernel_rfl
 f106:=by kernel_rfl
 f213:=by kernel_rfl
 f265:=by kernel_rfl
 t3:=by kernel_rfl
 a3:=fun w=>by kernel_rfl
 z3:=fun w=>by kernel_rfl
 v3:=fun w=>by kernel_rfl
 t9:=by kernel_rfl
 a9:=fun w=>by kernel_rfl
 z9:=fun w=>by kernel_rfl
 v9:=fun w=>by kernel_rfl
theorem aaJ:dI PG 152 Dn:=aoC aP Lc (by kernel_rfl) fun x y h=>(Option.some.inj h).symm
def mG:LSh:=⟨85,[(0,.ro .file),(1,.str)],[(2,.fn 151 [])],[],[(10,.int .i64),(9,.int .i64)],[],[]⟩
@[reducible] def mJ:List fO:=[⟨.exit 0,[(9,.int .i64)],[],[]⟩]
def eG (p0:(List aF)) (p1:(List UInt8)) (v0:Int) (v1:Int):Option ((Int×Int) ⊕ ((Int))):=cnd (ilt v1 v0) (cnd (band (ile 0 (wr .i64 (dN .u64 (wr .u64 (wr .i64 (aj v1 v0))) 1))) (ilt (wr .i64 (dN .u64 (wr .u64 (wr .i64 (aj v1 v0))) 1)) (len p0))) (af (xg (ai p0 (itn (wr .i64 (dN .u64 (wr .u64 (wr .i64 (aj v1 v0))) 1)))).name p1) fun y0 => cnd (ilt y0 0) (some (Sum.inl (v0,wr .i64 (aj (wr .i64 (dN .u64 (wr .u64 (wr .i64 (aj v1 v0))) 1)) 1)))) (some (Sum.inl (wr .i64 (dN .u64 (wr .u64 (wr .i64 (aj v1 v0))) 1),v1)))) none) (some (Sum.inr v1))
def l7:dU:=mG.spec mJ [15,16,17,18,19,20,21,22,23,11,24,25,26,27,28,29,30,31,32,33,9,34,10] (fun p v=>eG p.1 p.2 v.1 v.2)
def eH (x0:au) (x1:(List UInt8)):Option (Int×Bool):=af (bD (fun v => eG x0.files x1 v.fst v.snd) LF (len x0.files,0)) fun y0 => cnd (bor (band (ile 0 y0) (ilt y0 (len x0.files))) (ay (ilt y0 (len x0.files)))) (cnd (ilt y0 (len x0.files)) (af (xg (ai x0.files (itn y0)).name x1) fun y1 => some (y0,band (ilt y0 (len x0.files)) (ieq y1 0))) (some (y0,bor (ilt y0 (len x0.files)) false))) none
noncomputable def XR:Cx:={ P:=PG,ety:=ety,fn:=look [(152,Dn)],inl:=dR [150,151],lp:=aS [(330712535190,60,l7)] }
theorem uK (p0:(List aF)) (p1:(List UInt8)) (v0:Int) (v1:Int):fC XR 900 330712535190 60 (dK PG 150 60) mG mJ (p0,p1) (v0,v1)=eG p0 p1 v0 v1:=by kernel_rfl
theorem agc (x0:au) (x1:(List UInt8)):bP XR 77 [.val .disk,.str] [.int .i64,.bool] (x0,x1)=eH x0 x1:=by kernel_rfl
def jM:aO:=mkSpec [.val .disk,.str] [.int .i64,.bool] true (fun x=>eH x.1 x.2)
theorem Ep:dI PG 77 jM:=
 have K:CxR XR:=aP.cx (fun _=>rfl) (l:=[(152,Dn)]) ⟨aaJ,trivial⟩
 aH K (aG (l:=[(330712535190,60,l7)]) rfl ⟨bF (n:=900) (f:=150) K (by kernel_rfl) (by kernel_rfl) (by kernel_rfl) (by kernel_rfl) (by kernel_rfl) (fun p v r h=>(uK p.1 p.2 v.1 v.2).trans h),trivial⟩) (by kernel_rfl) (fun x y h=>(agc x.1 x.2).trans h) rfl rfl
def dW (x0:(List Int)):Option ((List Int)):=abW (len x0) fun y0 => cnd (beq y0 true) (some []) (cnd (ile (len x0) 68719476736) (some x0) none)
noncomputable def OO:Cx:={ P:=PG,ety:=ety,fn:=look [],inl:=dR [],lp:=aS [] }
theorem Wv (x0:(List Int)):bP OO 56 [.ro .u8] [.buf .u8] x0=dW x0:=by kernel_rfl
def qo:aO:=mkSpec [.ro .u8] [.buf .u8] true (fun x=>dW x)
theorem Nw:dI PG 56 qo:=
 have K:CxR OO:=aP.cx (fun _=>rfl) (l:=[]) trivial
 aH K (aG (l:=[]) rfl trivial) (by kernel_rfl) (fun x y h=>(Wv x).trans h) rfl rfl
def nS (x0:au) (x1:(List UInt8)):Option ((List Int)×Int):=af (jK x0 [x1]) fun y0 => cnd (ay (ieq y0 0)) (cnd (ay (ieq y0 0)) (some ([],y0)) (cnd (ilt 0 (len x0.files)) (af (dW (ai x0.files 0).data) fun y1 => some (y1,0)) none)) (af (eH x0 x1) fun y2 => cnd (ay y2.snd) (some ([],7)) (cnd (band (ile 0 y2.fst) (ilt y2.fst (len x0.files))) (af (dW (ai x0.files (itn y2.fst)).data) fun y3 => some (y3,0)) none))
noncomputable def adL:Cx:={ P:=PG,ety:=ety,fn:=look [(76,jo),(77,jM),(56,qo)],inl:=dR [55],lp:=aS [] }
theorem ag2 (x0:au) (x1:(List UInt8)):bP adL 21 [.val .disk,.str] [.buf .u8,.int .i64] (x0,x1)=nS x0 x1:=by kernel_rfl
def pX:aO:=mkSpec [.val .disk,.str] [.buf .u8,.int .i64] true (fun x=>nS x.1 x.2)
theorem O8:dI PG 21 pX:=
 have K:CxR adL:=aP.cx (fun _=>rfl) (l:=[(76,jo),(77,jM),(56,qo)]) ⟨Bv,Ep,Nw,trivial⟩
 aH K (aG (l:=[]) rfl trivial) (by kernel_rfl) (fun x y h=>(ag2 x.1 x.2).trans h) rfl rfl
def Z8:LSh:=⟨67,[],[],[],[(4,.int .i64),(0,.int .u32)],[],[]⟩
@[reducible] def aac:List fO:=[⟨.exit 0,[(0,.int .u32)],[],[]⟩]
def F6 (v0:Int) (v1:Int):Option ((Int×Int) ⊕ ((Int))):=cnd (ilt v0 4) (cnd (ieq (wr .u32 (kL .u32 v1 1)) 1) (some (Sum.inl (wr .i64 (aj v0 1),wr .u32 (iG .u32 (dN .u32 v1 1) 3988292384)))) (some (Sum.inl (wr .i64 (aj v0 1),dN .u32 v1 1)))) (some (Sum.inr v1))
def Yd:dU:=Z8.spec aac [5,6,7,3,8,9,0,10,11,12,13,14,4] (fun p v=>F6 v.1 v.2)
def dM (x0:Int):Option (Int):=af (bD (fun v => F6 v.fst v.snd) LF (0,x0)) fun y0 => some y0
noncomputable def aa2:Cx:={ P:=PG,ety:=ety,fn:=look [],inl:=dR [],lp:=aS [(199,26,Yd)] }
theorem adn (v0:Int) (v1:Int):fC aa2 900 199 26 (dK PG 199 26) Z8 aac () (v0,v1)=F6 v0 v1:=by kernel_rfl
theorem ahA (x0:Int):bP aa2 199 [.int .u32] [.int .u32] x0=dM x0:=by kernel_rfl
def FT:aO:=mkSpec [.int .u32] [.int .u32] true (fun x=>dM x)
theorem ad5:dI PG 199 FT:=
 have K:CxR aa2:=aP.cx (fun _=>rfl) (l:=[]) trivial
 aH K (aG (l:=[(199,26,Yd)]) rfl ⟨bF (n:=900) (f:=199) K (by kernel_rfl) (by kernel_rfl) (by kernel_rfl) (by kernel_rfl) (by kernel_rfl) (fun p v r h=>(adn v.1 v.2).trans h),trivial⟩) (by kernel_rfl) (fun x y h=>(ahA x).trans h) rfl rfl
def rQ (x0:dw):Option (ak5):=af (dM (wr .u32 (kL .u32 (wr .u32 (iG .u32 4294967295 (wr .u32 (wr .u8 (dN .i64 x0.gen 56))))) 15))) fun y0 => af (dM (wr .u32 (kL .u32 (wr .u32 (iG .u32 y0 (dN .u32 (wr .u32 (iG .u32 4294967295 (wr .u32 (wr .u8 (dN .i64 x0.gen 56))))) 4))) 15))) fun y1 => let t8:=(wr .u32 (iG .u32 (wr .u32 (iG .u32 y1 (dN .u32 (wr .u32 (iG .u32 y0 (dN .u32 (wr .u32 (iG .u32 4294967295 (wr .u32 (wr .u8 (dN .i64 x0.gen 56))))) 4))) 4))) (wr .u32 (wr .u8 (dN .i64 x0.gen 48)))));af (dM (wr .u32 (kL .u32 t8 15))) fun y2 => af (dM (wr .u32 (kL .u32 (wr .u32 (iG .u32 y2 (dN .u32 t8 4))) 15))) fun y3 => let t5:=(wr .u32 (iG .u32 (wr .u32 (iG .u32 y3 (dN .u32 (wr .u32 (iG .u32 y2 (dN .u32 t8 4))) 4))) (wr .u32 (wr .u8 (dN .i64 x0.gen 40)))));af (dM (wr .u32 (kL .u32 t5 15))) fun y4 => af (dM (wr .u32 (kL .u32 (wr .u32 (iG .u32 y4 (dN .u32 t5 4))) 15))) fun y5 => let t14:=(wr .u32 (iG .u32 (wr .u32 (iG .u32 y5 (dN .u32 (wr .u32 (iG .u32 y4 (dN .u32 t5 4))) 4))) (wr .u32 (wr .u8 (dN .i64 x0.gen 32)))));af (dM (wr .u32 (kL .u32 t14 15))) fun y6 => af (dM (wr .u32 (kL .u32 (wr .u32 (iG .u32 y6 (dN .u32 t14 4))) 15))) fun y7 => let t1:=(wr .u32 (iG .u32 (wr .u32 (iG .u32 y7 (dN .u32 (wr .u32 (iG .u32 y6 (dN .u32 t14 4))) 4))) (wr .u32 (wr .u8 (dN .i64 x0.gen 24)))));af (dM (wr .u32 (kL .u32 t1 15))) fun y8 => af (dM (wr .u32 (kL .u32 (wr .u32 (iG .u32 y8 (dN .u32 t1 4))) 15))) fun y9 => let t15:=(wr .u32 (iG .u32 (wr .u32 (iG .u32 y9 (dN .u32 (wr .u32 (iG .u32 y8 (dN .u32 t1 4))) 4))) (wr .u32 (wr .u8 (dN .i64 x0.gen 16)))));af (dM (wr .u32 (kL .u32 t15 15))) fun y10 => af (dM (wr .u32 (kL .u32 (wr .u32 (iG .u32 y10 (dN .u32 t15 4))) 15))) fun y11 => let t7:=(wr .u32 (iG .u32 (wr .u32 (iG .u32 y11 (dN .u32 (wr .u32 (iG .u32 y10 (dN .u32 t15 4))) 4))) (wr .u32 (wr .u8 (dN .i64 x0.gen 8)))));af (dM (wr .u32 (kL .u32 t7 15))) fun y12 => af (dM (wr .u32 (kL .u32 (wr .u32 (iG .u32 y12 (dN .u32 t7 4))) 15))) fun y13 => let t3:=(wr .u32 (iG .u32 (wr .u32 (iG .u32 y13 (dN .u32 (wr .u32 (iG .u32 y12 (dN .u32 t7 4))) 4))) (wr .u32 (wr .u8 (dN .i64 x0.gen 0)))));af (dM (wr .u32 (kL .u32 t3 15))) fun y14 => af (dM (wr .u32 (kL .u32 (wr .u32 (iG .u32 y14 (dN .u32 t3 4))) 15))) fun y15 => let t10:=(wr .u32 (iG .u32 (wr .u32 (iG .u32 y15 (dN .u32 (wr .u32 (iG .u32 y14 (dN .u32 t3 4))) 4))) (wr .u32 (wr .u8 (dN .i64 x0.lsn 56)))));af (dM (wr .u32 (kL .u32 t10 15))) fun y16 => af (dM (wr .u32 (kL .u32 (wr .u32 (iG .u32 y16 (dN .u32 t10 4))) 15))) fun y17 => let t0:=(wr .u32 (iG .u32 (wr .u32 (iG .u32 y17 (dN .u32 (wr .u32 (iG .u32 y16 (dN .u32 t10 4))) 4))) (wr .u32 (wr .u8 (dN .i64 x0.lsn 48)))));af (dM (wr .u32 (kL .u32 t0 15))) fun y18 => af (dM (wr .u32 (kL .u32 (wr .u32 (iG .u32 y18 (dN .u32 t0 4))) 15))) fun y19 => let t11:=(wr .u32 (iG .u32 (wr .u32 (iG .u32 y19 (dN .u32 (wr .u32 (iG .u32 y18 (dN .u32 t0 4))) 4))) (wr .u32 (wr .u8 (dN .i64 x0.lsn 40)))));af (dM (wr .u32 (kL .u32 t11 15))) fun y20 => af (dM (wr .u32 (kL .u32 (wr .u32 (iG .u32 y20 (dN .u32 t11 4))) 15))) fun y21 => let t6:=(wr .u32 (iG .u32 (wr .u32 (iG .u32 y21 (dN .u32 (wr .u32 (iG .u32 y20 (dN .u32 t11 4))) 4))) (wr .u32 (wr .u8 (dN .i64 x0.lsn 32)))));af (dM (wr .u32 (kL .u32 t6 15))) fun y22 => af (dM (wr .u32 (kL .u32 (wr .u32 (iG .u32 y22 (dN .u32 t6 4))) 15))) fun y23 => let t12:=(wr .u32 (iG .u32 (wr .u32 (iG .u32 y23 (dN .u32 (wr .u32 (iG .u32 y22 (dN .u32 t6 4))) 4))) (wr .u32 (wr .u8 (dN .i64 x0.lsn 24)))));af (dM (wr .u32 (kL .u32 t12 15))) fun y24 => af (dM (wr .u32 (kL .u32 (wr .u32 (iG .u32 y24 (dN .u32 t12 4))) 15))) fun y25 => let t2:=(wr .u32 (iG .u32 (wr .u32 (iG .u32 y25 (dN .u32 (wr .u32 (iG .u32 y24 (dN .u32 t12 4))) 4))) (wr .u32 (wr .u8 (dN .i64 x0.lsn 16)))));af (dM (wr .u32 (kL .u32 t2 15))) fun y26 => af (dM (wr .u32 (kL .u32 (wr .u32 (iG .u32 y26 (dN .u32 t2 4))) 15))) fun y27 => let t13:=(wr .u32 (iG .u32 (wr .u32 (iG .u32 y27 (dN .u32 (wr .u32 (iG .u32 y26 (dN .u32 t2 4))) 4))) (wr .u32 (wr .u8 (dN .i64 x0.lsn 8)))));af (dM (wr .u32 (kL .u32 t13 15))) fun y28 => af (dM (wr .u32 (kL .u32 (wr .u32 (iG .u32 y28 (dN .u32 t13 4))) 15))) fun y29 => let t4:=(wr .u32 (iG .u32 (wr .u32 (iG .u32 y29 (dN .u32 (wr .u32 (iG .u32 y28 (dN .u32 t13 4))) 4))) (wr .u32 (wr .u8 (dN .i64 x0.lsn 0)))));af (dM (wr .u32 (kL .u32 t4 15))) fun y30 => af (dM (wr .u32 (kL .u32 (wr .u32 (iG .u32 y30 (dN .u32 t4 4))) 15))) fun y31 => let t9:=(wr .u32 (iG .u32 4294967295 (wr .u32 (iG .u32 y31 (dN .u32 (wr .u32 (iG .u32 y30 (dN .u32 t4 4))) 4)))));some (ak5.mk (wr .u8 (dN .i64 x0.gen 56)) (wr .u8 (dN .i64 x0.gen 48)) (wr .u8 (dN .i64 x0.gen 40)) (wr .u8 (dN .i64 x0.gen 32)) (wr .u8 (dN .i64 x0.gen 24)) (wr .u8 (dN .i64 x0.gen 16)) (wr .u8 (dN .i64 x0.gen 8)) (wr .u8 (dN .i64 x0.gen 0)) (wr .u8 (dN .i64 x0.lsn 56)) (wr .u8 (dN .i64 x0.lsn 48)) (wr .u8 (dN .i64 x0.lsn 40)) (wr .u8 (dN .i64 x0.lsn 32)) (wr .u8 (dN .i64 x0.lsn 24)) (wr .u8 (dN .i64 x0.lsn 16)) (wr .u8 (dN .i64 x0.lsn 8)) (wr .u8 (dN .i64 x0.lsn 0)) (wr .u8 (dN .u32 t9 0)) (wr .u8 (dN .u32 t9 8)) (wr .u8 (dN .u32 t9 16)) (wr .u8 (dN .u32 t9 24)))
noncomputable def abm:Cx:={ P:=PG,ety:=ety,fn:=look [(199,FT)],inl:=dR [71,147],lp:=aS [] }
theorem aeG (x0:dw):bP abm 84 [.val .slot] [.val .a20] x0=rQ x0:=by kernel_rfl
def Az:aO:=mkSpec [.val .slot] [.val .a20] true (fun x=>rQ x)
theorem aai:dI PG 84 Az:=
 have K:CxR abm:=aP.cx (fun _=>rfl) (l:=[(199,FT)]) ⟨ad5,trivial⟩
 aH K (aG (l:=[]) rfl trivial) (by kernel_rfl) (fun x y h=>(aeG x).trans h) rfl rfl
def Ak (x0:dw):Option (Bool):=some (band (band (band (ile 1 x0.gen) (ile x0.gen 1000000000)) (ile 0 x0.lsn)) (ile x0.lsn 1000000000))
noncomputable def ab2:Cx:={ P:=PG,ety:=ety,fn:=look [],inl:=dR [],lp:=aS [] }
theorem aeJ (x0:dw):bP ab2 83 [.val .slot] [.bool] x0=Ak x0:=by kernel_rfl
def AP:aO:=mkSpec [.val .slot] [.bool] true (fun x=>Ak x)
theorem Z4:dI PG 83 AP:=
 have K:CxR ab2:=aP.cx (fun _=>rfl) (l:=[]) trivial
 aH K (aG (l:=[]) rfl trivial) (by kernel_rfl) (fun x y h=>(aeJ x).trans h) rfl rfl
def pO (x0:(List Int)):Option (dw×Int):=cnd (ay (ieq (len x0) 20)) (some (dw.mk 0 0,2)) (cnd (ilt 0 (len x0)) (cnd (ilt 8 (len x0)) (cnd (ilt 1 (len x0)) (cnd (ilt 9 (len x0)) (cnd (ilt 2 (len x0)) (cnd (ilt 10 (len x0)) (cnd (ilt 3 (len x0)) (cnd (ilt 11 (len x0)) (cnd (ilt 4 (len x0)) (cnd (ilt 12 (len x0)) (cnd (ilt 5 (len x0)) (cnd (ilt 13 (len x0)) (cnd (ilt 6 (len x0)) (cnd (ilt 14 (len x0)) (cnd (ilt 7 (len x0)) (cnd (ilt 15 (len x0)) (af (rQ (dw.mk (wr .i64 (ior .i64 (wr .i64 (qZ .i64 (wr .i64 (ior .i64 (wr .i64 (qZ .i64 (wr .i64 (ior .i64 (wr .i64 (qZ .i64 (wr .i64 (ior .i64 (wr .i64 (qZ .i64 (wr .i64 (ior .i64 (wr .i64 (qZ .i64 (wr .i64 (ior .i64 (wr .i64 (qZ .i64 (wr .i64 (ior .i64 (wr .i64 (qZ .i64 (wr .i64 (ior .i64 0 (wr .i64 (ai x0 0)))) 8)) (wr .i64 (ai x0 1)))) 8)) (wr .i64 (ai x0 2)))) 8)) (wr .i64 (ai x0 3)))) 8)) (wr .i64 (ai x0 4)))) 8)) (wr .i64 (ai x0 5)))) 8)) (wr .i64 (ai x0 6)))) 8)) (wr .i64 (ai x0 7)))) (wr .i64 (ior .i64 (wr .i64 (qZ .i64 (wr .i64 (ior .i64 (wr .i64 (qZ .i64 (wr .i64 (ior .i64 (wr .i64 (qZ .i64 (wr .i64 (ior .i64 (wr .i64 (qZ .i64 (wr .i64 (ior .i64 (wr .i64 (qZ .i64 (wr .i64 (ior .i64 (wr .i64 (qZ .i64 (wr .i64 (ior .i64 (wr .i64 (qZ .i64 (wr .i64 (ior .i64 0 (wr .i64 (ai x0 8)))) 8)) (wr .i64 (ai x0 9)))) 8)) (wr .i64 (ai x0 10)))) 8)) (wr .i64 (ai x0 11)))) 8)) (wr .i64 (ai x0 12)))) 8)) (wr .i64 (ai x0 13)))) 8)) (wr .i64 (ai x0 14)))) 8)) (wr .i64 (ai x0 15)))))) fun y0 => cnd (ile 20 (len x0)) (cnd (ay (band (ieq y0.a0 (ai x0 0)) (band (ieq y0.a1 (ai x0 1)) (band (ieq y0.a2 (ai x0 2)) (band (ieq y0.a3 (ai x0 3)) (band (ieq y0.a4 (ai x0 4)) (band (ieq y0.a5 (ai x0 5)) (band (ieq y0.a6 (ai x0 6)) (band (ieq y0.a7 (ai x0 7)) (band (ieq y0.a8 (ai x0 8)) (band (ieq y0.a9 (ai x0 9)) (band (ieq y0.a10 (ai x0 10)) (band (ieq y0.a11 (ai x0 11)) (band (ieq y0.a12 (ai x0 12)) (band (ieq y0.a13 (ai x0 13)) (band (ieq y0.a14 (ai x0 14)) (band (ieq y0.a15 (ai x0 15)) (band (ieq y0.a16 (ai x0 16)) (band (ieq y0.a17 (ai x0 17)) (band (ieq y0.a18 (ai x0 18)) (band (ieq y0.a19 (ai x0 19)) true))))))))))))))))))))) (some (dw.mk 0 0,10)) (af (Ak (dw.mk (wr .i64 (ior .i64 (wr .i64 (qZ .i64 (wr .i64 (ior .i64 (wr .i64 (qZ .i64 (wr .i64 (ior .i64 (wr .i64 (qZ .i64 (wr .i64 (ior .i64 (wr .i64 (qZ .i64 (wr .i64 (ior .i64 (wr .i64 (qZ .i64 (wr .i64 (ior .i64 (wr .i64 (qZ .i64 (wr .i64 (ior .i64 (wr .i64 (qZ .i64 (wr .i64 (ior .i64 0 (wr .i64 (ai x0 0)))) 8)) (wr .i64 (ai x0 1)))) 8)) (wr .i64 (ai x0 2)))) 8)) (wr .i64 (ai x0 3)))) 8)) (wr .i64 (ai x0 4)))) 8)) (wr .i64 (ai x0 5)))) 8)) (wr .i64 (ai x0 6)))) 8)) (wr .i64 (ai x0 7)))) (wr .i64 (ior .i64 (wr .i64 (qZ .i64 (wr .i64 (ior .i64 (wr .i64 (qZ .i64 (wr .i64 (ior .i64 (wr .i64 (qZ .i64 (wr .i64 (ior .i64 (wr .i64 (qZ .i64 (wr .i64 (ior .i64 (wr .i64 (qZ .i64 (wr .i64 (ior .i64 (wr .i64 (qZ .i64 (wr .i64 (ior .i64 (wr .i64 (qZ .i64 (wr .i64 (ior .i64 0 (wr .i64 (ai x0 8)))) 8)) (wr .i64 (ai x0 9)))) 8)) (wr .i64 (ai x0 10)))) 8)) (wr .i64 (ai x0 11)))) 8)) (wr .i64 (ai x0 12)))) 8)) (wr .i64 (ai x0 13)))) 8)) (wr .i64 (ai x0 14)))) 8)) (wr .i64 (ai x0 15)))))) fun y1 => cnd (ay y1) (some (dw.mk 0 0,2)) (some (dw.mk (wr .i64 (ior .i64 (wr .i64 (qZ .i64 (wr .i64 (ior .i64 (wr .i64 (qZ .i64 (wr .i64 (ior .i64 (wr .i64 (qZ .i64 (wr .i64 (ior .i64 (wr .i64 (qZ .i64 (wr .i64 (ior .i64 (wr .i64 (qZ .i64 (wr .i64 (ior .i64 (wr .i64 (qZ .i64 (wr .i64 (ior .i64 (wr .i64 (qZ .i64 (wr .i64 (ior .i64 0 (wr .i64 (ai x0 0)))) 8)) (wr .i64 (ai x0 1)))) 8)) (wr .i64 (ai x0 2)))) 8)) (wr .i64 (ai x0 3)))) 8)) (wr .i64 (ai x0 4)))) 8)) (wr .i64 (ai x0 5)))) 8)) (wr .i64 (ai x0 6)))) 8)) (wr .i64 (ai x0 7)))) (wr .i64 (ior .i64 (wr .i64 (qZ .i64 (wr .i64 (ior .i64 (wr .i64 (qZ .i64 (wr .i64 (ior .i64 (wr .i64 (qZ .i64 (wr .i64 (ior .i64 (wr .i64 (qZ .i64 (wr .i64 (ior .i64 (wr .i64 (qZ .i64 (wr .i64 (ior .i64 (wr .i64 (qZ .i64 (wr .i64 (ior .i64 (wr .i64 (qZ .i64 (wr .i64 (ior .i64 0 (wr .i64 (ai x0 8)))) 8)) (wr .i64 (ai x0 9)))) 8)) (wr .i64 (ai x0 10)))) 8)) (wr .i64 (ai x0 11)))) 8)) (wr .i64 (ai x0 12)))) 8)) (wr .i64 (ai x0 13)))) 8)) (wr .i64 (ai x0 14)))) 8)) (wr .i64 (ai x0 15)))),0)))) none) none) none) none) none) none) none) none) none) none) none) none) none) none) none) none) none)
noncomputable def ZX:Cx:={ P:=PG,ety:=ety,fn:=look [(84,Az),(83,AP)],inl:=dR [],lp:=aS [] }
theorem acD (x0:(List Int)):bP ZX 73 [.ro .u8] [.val .slot,.int .i64] x0=pO x0:=by kernel_rfl
def LG:aO:=mkSpec [.ro .u8] [.val .slot,.int .i64] true (fun x=>pO x)
theorem afj:dI PG 73 LG:=
 have K:CxR ZX:=aP.cx (fun _=>rfl) (l:=[(84,Az),(83,AP)]) ⟨aai,Z4,trivial⟩
 aH K (aG (l:=[]) rfl trivial) (by kernel_rfl) (fun x y h=>(acD x).trans h) rfl rfl
def wP (x0:au):Option (dw×Int):=af (zN x0) fun y0 => cnd (ay y0) (some (dw.mk 0 0,1)) (cnd x0.down (some (dw.mk 0 0,9)) (af (lT 0) fun y1 => af (nS x0 y1) fun y2 => af (pO y2.fst) fun y3 => cnd (band (band (ieq y3.snd 0) (ieq (vI y3.fst.gen 2) 0)) (ilt 0 y3.fst.gen)) (af (lT 1) fun y4 => af (nS x0 y4) fun y5 => af (pO y5.fst) fun y6 => cnd (band (band (ieq y6.snd 0) (ieq (vI y6.fst.gen 2) 1)) (ilt y3.fst.gen y6.fst.gen)) (cnd (ieq y6.fst.gen 0) (some (dw.mk 0 0,7)) (some (y6.fst,0))) (cnd (ieq y3.fst.gen 0) (some (dw.mk 0 0,7)) (some (y3.fst,0)))) (af (lT 1) fun y7 => af (nS x0 y7) fun y8 => af (pO y8.fst) fun y9 => cnd (band (band (ieq y9.snd 0) (ieq (vI y9.fst.gen 2) 1)) (ilt 0 y9.fst.gen)) (cnd (ieq y9.fst.gen 0) (some (dw.mk 0 0,7)) (some (y9.fst,0))) (some (dw.mk 0 0,7)))))
noncomputable def aeg:Cx:={ P:=PG,ety:=ety,fn:=look [(52,A7),(72,DX),(21,pX),(73,LG)],inl:=dR [],lp:=aS [] }
theorem afa (x0:au):bP aeg 25 [.val .disk] [.val .slot,.int .i64] x0=wP x0:=by kernel_rfl
def vN:aO:=mkSpec [.val .disk] [.val .slot,.int .i64] true (fun x=>wP x)
theorem Vl:dI PG 25 vN:=
 have K:CxR aeg:=aP.cx (fun _=>rfl) (l:=[(52,A7),(72,DX),(21,pX),(73,LG)]) ⟨Z9,ab8,O8,afj,trivial⟩
 aH K (aG (l:=[]) rfl trivial) (by kernel_rfl) (fun x y h=>(afa x).trans h) rfl rfl
def uw (x0:Int) (x1:Int):Option (List UInt8):=aoz x0 x1
def Am:aO:=mkSpec [.int .i64,.int .i64] [.str] true (fun x=>uw x.1 x.2)
def Xx:Go.Shelf.Ren:=⟨fun | 173=>49 | 246=>113 | 283=>171 | 284=>172 | 285=>173 | 286=>174 | 129=>212 | 317=>211 | 318=>213 | 319=>214 | 320=>215 | 337=>233 | 338=>234 | n=>n,fun | 2=>2 | 3=>3 | 9=>9 | 4=>4 | 171=>224 | 0=>0 | 53=>219 | 37=>51 | 5=>5 | 173=>227 | 212=>260 | 51=>119 | 20=>20 | 213=>261 | 46=>162 | 232=>285 | 233=>286 | n=>n,fun | 17=>0 | 18=>4 | 19=>5 | n=>n⟩
theorem Jf:Go.Proofs.LaysM.n173 PG Xx where
 mixed:=by kernel_rfl
 f129:=by kernel_rfl
 f173:=by kernel_rfl
 f246:=by kernel_rfl
 f283:=by kernel_rfl
 f284:=by kernel_rfl
 f285:=by kernel_rfl
 f286:=by kernel_rfl
 f317:=by kernel_rfl
 f318:=by kernel_rfl
 f319:=by kernel_rfl
 f320:=by kernel_rfl
 f337:=by kernel_rfl
 f338:=by kernel_rfl
 t0:=by kernel_rfl
 a0:=fun w=>by kernel_rfl
 z0:=fun w=>by kernel_rfl
 v0:=fun w=>by kernel_rfl
 t2:=by kernel_rfl
 a2:=fun w=>by kernel_rfl
 z2:=fun w=>by kernel_rfl
 v2:=fun w=>by kernel_rfl
 t3:=by kernel_rfl
 a3:=fun w=>by kernel_rfl
 z3:=fun w=>by kernel_rfl
 v3:=fun w=>by kernel_rfl
 t4:=by kernel_rfl
 a4:=fun w=>by kernel_rfl
 z4:=fun w=>by kernel_rfl
 v4:=fun w=>by kernel_rfl
 t5:=by kernel_rfl
 a5:=fun w=>by kernel_rfl
 z5:=fun w=>by kernel_rfl
 v5:=fun w=>by kernel_rfl
 t9:=by kernel_rfl
 a9:=fun w=>by kernel_rfl
 z9:=fun w=>by kernel_rfl
 v9:=fun w=>by kernel_rfl
 t20:=by kernel_rfl
 a20:=fun w=>by kernel_rfl
 z20:=fun w=>by kernel_rfl
 v20:=fun w=>by kernel_rfl
 t37:=by kernel_rfl
 a37:=fun w=>by kernel_rfl
 z37:=fun w=>by kernel_rfl
 v37:=fun w=>by kernel_rfl
 t46:=by kernel_rfl
 a46:=fun w=>by kernel_rfl
 z46:=fun w=>by kernel_rfl
 v46:=fun w=>by kernel_rfl
 t51:=by kernel_rfl
 a51:=fun w=>by kernel_rfl
 z51:=fun w=>by kernel_rfl
 v51:=fun w=>by kernel_rfl
 t53:=by kernel_rfl
 a53:=fun w=>by kernel_rfl
 z53:=fun w=>by kernel_rfl
 v53:=fun w=>by kernel_rfl
 t171:=by kernel_rfl
 a171:=fun w=>by kernel_rfl
 z171:=fun w=>by kernel_rfl
 v171:=fun w=>by kernel_rfl
 t173:=by kernel_rfl
 a173:=fun w=>by kernel_rfl
 z173:=fun w=>by kernel_rfl
 v173:=fun w=>by kernel_rfl
 t212:=by kernel_rfl
 a212:=fun w=>by kernel_rfl
 z212:=fun w=>by kernel_rfl
 v212:=fun w=>by kernel_rfl
 t213:=by kernel_rfl
 a213:=fun w=>by kernel_rfl
 z213:=fun w=>by kernel_rfl
 t232:=by kernel_rfl
 a232:=fun w=>by kernel_rfl
 z232:=fun w=>by kernel_rfl
 v232:=fun w=>by kernel_rfl
 t233:=by kernel_rfl
 a233:=fun w=>by kernel_rfl
 z233:=fun w=>by kernel_rfl
 v233:=fun w=>by kernel_rfl
 g17:=by kernel_rfl
 g18:=by kernel_rfl
 g19:=by kernel_rfl
 i0:=by kernel_rfl
 i2:=by kernel_rfl
 i3:=by kernel_rfl
 i4:=by kernel_rfl
 i5:=by kernel_rfl
 i9:=by kernel_rfl
 i20:=by kernel_rfl
 i37:=by kernel_rfl
 i46:=by kernel_rfl
 i51:=by kernel_rfl
 i53:=by kernel_rfl
 i171:=by kernel_rfl
 i173:=by kernel_rfl
 i212:=by kernel_rfl
 i232:=by kernel_rfl
 i233:=by kernel_rfl
 m17:=by kernel_rfl
 m18:=by kernel_rfl
 m19:=by kernel_rfl
theorem Yo:dI PG 49 Am:=aoU aP Jf (by kernel_rfl) (g:=0) (by kernel_rfl) (by simp [glL]) fun x y h=>h
def zi (x0:(List UInt8)) (x1:Int):Option (List UInt8):=ao9 x0 x1
def FC:aO:=mkSpec [.str,.int .i64] [.str] true (fun x=>zi x.1 x.2)
def Qk:Go.Shelf.Ren:=⟨fun | 105=>50 | 212=>114 | 99=>115 | 165=>116 | 166=>117 | 170=>118 | 169=>119 | 263=>175 | 264=>176 | 206=>177 | 240=>178 | 241=>179 | 276=>216 | 277=>217 | n=>n,fun | 9=>9 | 3=>3 | 4=>4 | 20=>20 | 0=>0 | 46=>162 | 109=>163 | 5=>5 | 72=>168 | 76=>170 | 51=>119 | 146=>229 | 53=>219 | 148=>231 | 70=>166 | 37=>51 | 75=>139 | 127=>233 | 164=>264 | 71=>167 | 74=>138 | 80=>173 | n=>n,fun | n=>n⟩
theorem Ns:Go.Proofs.Lays.n105 PG Qk where
 mixed:=by kernel_rfl
 f99:=by kernel_rfl
 f105:=by kernel_rfl
 f165:=by kernel_rfl
 f166:=by kernel_rfl
 f169:=by kernel_rfl
 f170:=by kernel_rfl
 f206:=by kernel_rfl
 f212:=by kernel_rfl
 f240:=by kernel_rfl
 f241:=by kernel_rfl
 f263:=by kernel_rfl
 f264:=by kernel_rfl
 f276:=by kernel_rfl
 f277:=by kernel_rfl
 t0:=by kernel_rfl
 a0:=fun w=>by kernel_rfl
 z0:=fun w=>by kernel_rfl
 v0:=fun w=>by kernel_rfl
 t3:=by kernel_rfl
 a3:=fun w=>by kernel_rfl
 z3:=fun w=>by kernel_rfl
 v3:=fun w=>by kernel_rfl
 t4:=by kernel_rfl
 a4:=fun w=>by kernel_rfl
 z4:=fun w=>by kernel_rfl
 v4:=fun w=>by kernel_rfl
 t5:=by kernel_rfl
 a5:=fun w=>by kernel_rfl
 z5:=fun w=>by kernel_rfl
 v5:=fun w=>by kernel_rfl
 t9:=by kernel_rfl
 a9:=fun w=>by kernel_rfl
 z9:=fun w=>by kernel_rfl
 v9:=fun w=>by kernel_rfl
 t20:=by kernel_rfl
 a20:=fun w=>by kernel_rfl
 z20:=fun w=>by kernel_rfl
 v20:=fun w=>by kernel_rfl
 t37:=by kernel_rfl
 a37:=fun w=>by kernel_rfl
 z37:=fun w=>by kernel_rfl
 v37:=fun w=>by kernel_rfl
 t46:=by kernel_rfl
 a46:=fun w=>by kernel_rfl
 z46:=fun w=>by kernel_rfl
 v46:=fun w=>by kernel_rfl
 t51:=by kernel_rfl
 a51:=fun w=>by kernel_rfl
 z51:=fun w=>by kernel_rfl
 v51:=fun w=>by kernel_rfl
 t53:=by kernel_rfl
 a53:=fun w=>by kernel_rfl
 z53:=fun w=>by kernel_rfl
 v53:=fun w=>by kernel_rfl
 t70:=by kernel_rfl
 a70:=fun w=>by kernel_rfl
 z70:=fun w=>by kernel_rfl
 v70:=fun w=>by kernel_rfl
 t72:=by kernel_rfl
 a72:=fun w=>by kernel_rfl
 z72:=fun w=>by kernel_rfl
 v72:=fun w=>by kernel_rfl
 t75:=by kernel_rfl
 a75:=fun w=>by kernel_rfl
 z75:=fun w=>by kernel_rfl
 v75:=fun w=>by kernel_rfl
 t76:=by kernel_rfl
 a76:=fun w=>by kernel_rfl
 z76:=fun w=>by kernel_rfl
 v76:=fun w=>by kernel_rfl
 t109:=by kernel_rfl
 a109:=fun w=>by kernel_rfl
 z109:=fun w=>by kernel_rfl
 v109:=fun w=>by kernel_rfl
 t127:=by kernel_rfl
 a127:=fun w=>by kernel_rfl
 z127:=fun w=>by kernel_rfl
 v127:=fun w=>by kernel_rfl
 t146:=by kernel_rfl
 a146:=fun w=>by kernel_rfl
 z146:=fun w=>by kernel_rfl
 v146:=fun w=>by kernel_rfl
 t148:=by kernel_rfl
 a148:=fun w=>by kernel_rfl
 z148:=fun w=>by kernel_rfl
 v148:=fun w=>by kernel_rfl
 t164:=by kernel_rfl
 a164:=fun w=>by kernel_rfl
 z164:=fun w=>by kernel_rfl
 v164:=fun w=>by kernel_rfl
theorem Jg:Go.Proofs.Builder.Extra PG Qk where
 sizeBuilder:=by kernel_rfl
 liesBuilder:=by kernel_rfl
 t5:=by kernel_rfl
 a5:=fun w=>by kernel_rfl
 z5:=fun w=>by kernel_rfl
 v5:=fun w=>by kernel_rfl
 infoByte:=by kernel_rfl
 cellsByte:=by kernel_rfl
 sizeByte:=by kernel_rfl
 neB5:=by decide
theorem abM:dI PG 50 FC:=aop aP Ns Jg (by kernel_rfl) fun x y h=>h
def dV (x0:Int):Option ((List UInt8)):=cnd (bor (ilt x0 1) (ilt 1000000000 x0)) (some []) (af (uw x0 10) fun y0 => af (zi [(UInt8.ofNat 48)] (wr .i64 (aI 10 (len y0)))) fun y1 => cnd (ile (aj 5 (len y1)) 68719476736) (cnd (ile (aj (len (dB [(UInt8.ofNat 115),(UInt8.ofNat 110),(UInt8.ofNat 97),(UInt8.ofNat 112),(UInt8.ofNat 46)] y1)) (len y0)) 68719476736) (some (dB (dB [(UInt8.ofNat 115),(UInt8.ofNat 110),(UInt8.ofNat 97),(UInt8.ofNat 112),(UInt8.ofNat 46)] y1) y0)) none) none)
noncomputable def abS:Cx:={ P:=PG,ety:=ety,fn:=look [(49,Am),(50,FC)],inl:=dR [],lp:=aS [] }
theorem aeu (x0:Int):bP abS 17 [.int .i64] [.str] x0=dV x0:=by kernel_rfl
def oJ:aO:=mkSpec [.int .i64] [.str] true (fun x=>dV x)
theorem Gj:dI PG 17 oJ:=
 have K:CxR abS:=aP.cx (fun _=>rfl) (l:=[(49,Am),(50,FC)]) ⟨Yo,abM,trivial⟩
 aH K (aG (l:=[]) rfl trivial) (by kernel_rfl) (fun x y h=>(aeu x).trans h) rfl rfl
def KU (x0:Int) (x1:Int) (x2:Int):Option (Int):=some (wr .i64 (aj (wr .i64 (aj (wr .i64 (aj (wr .i64 (aj 32 (wr .i64 (dY x2 61)))) (wr .i64 (dY (wr .i64 (dY x0 x1)) 32)))) (wr .i64 (dY x0 8)))) 4))
noncomputable def afm:Cx:={ P:=PG,ety:=ety,fn:=look [],inl:=dR [],lp:=aS [] }
theorem ahd (x0:Int) (x1:Int) (x2:Int):bP afm 109 [.int .i64,.int .i64,.int .i64] [.int .i64] (x0,x1,x2)=KU x0 x1 x2:=by kernel_rfl
def GK:aO:=mkSpec [.int .i64,.int .i64,.int .i64] [.int .i64] true (fun x=>KU x.1 x.2.1 x.2.2)
theorem ad4:dI PG 109 GK:=
 have K:CxR afm:=aP.cx (fun _=>rfl) (l:=[]) trivial
 aH K (aG (l:=[]) rfl trivial) (by kernel_rfl) (fun x y h=>(ahd x.1 x.2.1 x.2.2).trans h) rfl rfl
def aaf:LSh:=⟨73,[(11,.int .i64),(10,.ro .u8)],[],[],[(12,.int .i64),(5,.int .u32)],[],[]⟩
@[reducible] def ZV:List fO:=[⟨.exit 0,[(5,.int .u32)],[],[]⟩]
def Gm (p0:Int) (p1:(List Int)) (v0:Int) (v1:Int):Option ((Int×Int) ⊕ ((Int))):=cnd (ilt v0 p0) (cnd (band (ile 0 v0) (ilt v0 (len p1))) (af (dM (wr .u32 (kL .u32 (wr .u32 (iG .u32 v1 (wr .u32 (ai p1 (itn v0))))) 15))) fun y0 => af (dM (wr .u32 (kL .u32 (wr .u32 (iG .u32 y0 (dN .u32 (wr .u32 (iG .u32 v1 (wr .u32 (ai p1 (itn v0))))) 4))) 15))) fun y1 => some (Sum.inl (wr .i64 (aj v0 1),wr .u32 (iG .u32 y1 (dN .u32 (wr .u32 (iG .u32 y0 (dN .u32 (wr .u32 (iG .u32 v1 (wr .u32 (ai p1 (itn v0))))) 4))) 4))))) none) (some (Sum.inr v1))
def YD:dU:=aaf.spec ZV [13,14,15,7,16,17,18,19,5,20,21,22,23,24,25,26,27,28,29,30,31,32,12] (fun p v=>Gm p.1 p.2 v.1 v.2)
def Vq (x0:Int) (x1:(List Int)):Option (Int):=af (bD (fun v => Gm (len x1) x1 v.fst v.snd) LF (0,wr .u32 (iG .u32 4294967295 x0))) fun y0 => some (wr .u32 (iG .u32 4294967295 y0))
noncomputable def aaS:Cx:={ P:=PG,ety:=ety,fn:=look [(199,FT)],inl:=dR [],lp:=aS [(147,58,YD)] }
theorem adv (p0:Int) (p1:(List Int)) (v0:Int) (v1:Int):fC aaS 900 147 58 (dK PG 147 58) aaf ZV (p0,p1) (v0,v1)=Gm p0 p1 v0 v1:=by kernel_rfl
theorem ahH (x0:Int) (x1:(List Int)):bP aaS 147 [.int .u32,.ro .u8] [.int .u32] (x0,x1)=Vq x0 x1:=by kernel_rfl
def TJ:aO:=mkSpec [.int .u32,.ro .u8] [.int .u32] true (fun x=>Vq x.1 x.2)
theorem alq:dI PG 147 TJ:=
 have K:CxR aaS:=aP.cx (fun _=>rfl) (l:=[(199,FT)]) ⟨ad5,trivial⟩
 aH K (aG (l:=[(147,58,YD)]) rfl ⟨bF (n:=900) (f:=147) K (by kernel_rfl) (by kernel_rfl) (by kernel_rfl) (by kernel_rfl) (by kernel_rfl) (fun p v r h=>(adv p.1 p.2 v.1 v.2).trans h),trivial⟩) (by kernel_rfl) (fun x y h=>(ahH x.1 x.2).trans h) rfl rfl
def Pv (x0:(List Int)):Option (Int):=af (Vq 0 x0) fun y0 => some y0
noncomputable def aiM:Cx:={ P:=PG,ety:=ety,fn:=look [(147,TJ)],inl:=dR [],lp:=aS [] }
theorem ajk (x0:(List Int)):bP aiM 71 [.ro .u8] [.int .u32] x0=Pv x0:=by kernel_rfl
def JJ:aO:=mkSpec [.ro .u8] [.int .u32] true (fun x=>Pv x)
theorem afF:dI PG 71 JJ:=
 have K:CxR aiM:=aP.cx (fun _=>rfl) (l:=[(147,TJ)]) ⟨alq,trivial⟩
 aH K (aG (l:=[]) rfl trivial) (by kernel_rfl) (fun x y h=>(ajk x).trans h) rfl rfl
def OH:LSh:=⟨76,[(14,.int .i64),(13,.ro .u8)],[],[],[(15,.int .i64),(5,.int .i64)],[],[]⟩
@[reducible] def OA:List fO:=[⟨.exit 0,[(5,.int .i64)],[],[]⟩]
def um (p0:Int) (p1:(List Int)) (v0:Int) (v1:Int):Option ((Int×Int) ⊕ ((Int))):=cnd (ilt v0 p0) (cnd (band (ile 0 v0) (ilt v0 (len p1))) (some (Sum.inl (wr .i64 (aj v0 1),wr .i64 (ior .i64 (wr .i64 (qZ .i64 v1 8)) (wr .i64 (ai p1 (itn v0))))))) none) (some (Sum.inr v1))
def Np:dU:=OH.spec OA [16,17,18,7,19,20,21,22,23,5,24,15] (fun p v=>um p.1 p.2 v.1 v.2)
def dP (x0:gV) (x1:Int):Option (gV×(Int)):=cnd (band (ile 0 x1) (ile x1 (len x0.rest))) (af (bD (fun v => um (len (aA x0.rest (itn x1))) (aA x0.rest (itn x1)) v.fst v.snd) LF (0,0)) fun y0 => cnd (band (ile 0 x1) (ile x1 (len x0.rest))) (some (gV.mk (aN x0.rest (itn x1)) x0.odd,y0)) none) none
noncomputable def KT:Cx:={ P:=PG,ety:=ety,fn:=look [],inl:=dR [],lp:=aS [(168,58,Np)] }
theorem Vu (p0:Int) (p1:(List Int)) (v0:Int) (v1:Int):fC KT 900 168 58 (dK PG 168 58) OH OA (p0,p1) (v0,v1)=um p0 p1 v0 v1:=by kernel_rfl
theorem ZH (x0:gV) (x1:Int):aan KT 168 .reader [.int .i64] [.int .i64] x0 x1=dP x0 x1:=by kernel_rfl
def nN:aO:=wE .reader [.int .i64] [.int .i64] (fun x=>dP x.1 x.2)
theorem Ko:dI PG 168 nN:=
 have K:CxR KT:=aP.cx (fun _=>rfl) (l:=[]) trivial
 Za K (aG (l:=[(168,58,Np)]) rfl ⟨bF (n:=900) (f:=168) K (by kernel_rfl) (by kernel_rfl) (by kernel_rfl) (by kernel_rfl) (by kernel_rfl) (fun p v r h=>(Vu p.1 p.2 v.1 v.2).trans h),trivial⟩) (by kernel_rfl) (fun x y h=>(ZH x.1 x.2).trans h) rfl rfl
def jl (x0:gV):Option (gV×(Int)):=af (dP x0 1) fun y0 => some y0
noncomputable def UU:Cx:={ P:=PG,ety:=ety,fn:=look [(168,nN)],inl:=dR [],lp:=aS [] }
theorem ZG (x0:gV):aan UU 166 .reader [] [.int .i64] x0 ()=jl x0:=by kernel_rfl
def nK:aO:=wE .reader [] [.int .i64] (fun x=>jl x.1)
theorem Jr:dI PG 166 nK:=
 have K:CxR UU:=aP.cx (fun _=>rfl) (l:=[(168,nN)]) ⟨Ko,trivial⟩
 Za K (aG (l:=[]) rfl trivial) (by kernel_rfl) (fun x y h=>(ZG x.1).trans h) rfl rfl
def tX (x0:gV):Option (gV×(Bool)):=af (jl x0) fun y0 => some (gV.mk y0.fst.rest (bor y0.fst.odd (ilt 1 y0.snd)),ieq y0.snd 1)
noncomputable def SC:Cx:={ P:=PG,ety:=ety,fn:=look [(166,nK)],inl:=dR [],lp:=aS [] }
theorem Y0 (x0:gV):aan SC 167 .reader [] [.bool] x0 ()=tX x0:=by kernel_rfl
def sW:aO:=wE .reader [] [.bool] (fun x=>tX x.1)
theorem Qe:dI PG 167 sW:=
 have K:CxR SC:=aP.cx (fun _=>rfl) (l:=[(166,nK)]) ⟨Jr,trivial⟩
 Za K (aG (l:=[]) rfl trivial) (by kernel_rfl) (fun x y h=>(Y0 x.1).trans h) rfl rfl
def vG (x0:gV):Option (gV×(aJ)):=af (dP x0 8) fun y0 => af (jl y0.fst) fun y1 => af (jl y1.fst) fun y2 => af (jl y2.fst) fun y3 => af (jl y3.fst) fun y4 => af (dP y4.fst 8) fun y5 => af (dP y5.fst 8) fun y6 => af (dP y6.fst 8) fun y7 => af (dP y7.fst 8) fun y8 => af (dP y8.fst 8) fun y9 => af (dP y9.fst 8) fun y10 => af (tX y10.fst) fun y11 => some (y11.fst,aJ.mk y0.snd y1.snd y2.snd y3.snd y5.snd y6.snd y7.snd y4.snd y8.snd y9.snd y10.snd y11.snd)
noncomputable def QC:Cx:={ P:=PG,ety:=ety,fn:=look [(168,nN),(166,nK),(167,sW)],inl:=dR [],lp:=aS [] }
theorem XK (x0:gV):aan QC 169 .reader [] [.val .order] x0 ()=vG x0:=by kernel_rfl
def BL:aO:=wE .reader [] [.val .order] (fun x=>vG x.1)
theorem Zy:dI PG 169 BL:=
 have K:CxR QC:=aP.cx (fun _=>rfl) (l:=[(168,nN),(166,nK),(167,sW)]) ⟨Ko,Jr,Qe,trivial⟩
 Za K (aG (l:=[]) rfl trivial) (by kernel_rfl) (fun x y h=>(XK x.1).trans h) rfl rfl
def O7 (x0:ax) (x1:Int) (x2:Int):Option (Int):=cnd (bor (bor (bor (ilt x1 0) (ile x0.accounts x1)) (ilt x2 0)) (ile x0.symbols x2)) (some (-1)) (af (bU x0 x1 x2) fun y0 => some y0)
noncomputable def ace:Cx:={ P:=PG,ety:=ety,fn:=look [(137,iC)],inl:=dR [],lp:=aS [] }
theorem aeN (x0:ax) (x1:Int) (x2:Int):bP ace 170 [.val .state,.int .i64,.int .i64] [.int .i64] (x0,x1,x2)=O7 x0 x1 x2:=by kernel_rfl
def Oi:aO:=mkSpec [.val .state,.int .i64,.int .i64] [.int .i64] true (fun x=>O7 x.1 x.2.1 x.2.2)
theorem ahi:dI PG 170 Oi:=
 have K:CxR ace:=aP.cx (fun _=>rfl) (l:=[(137,iC)]) ⟨wG,trivial⟩
 aH K (aG (l:=[]) rfl trivial) (by kernel_rfl) (fun x y h=>(aeN x.1 x.2.1 x.2.2).trans h) rfl rfl
def RP:LSh:=⟨136,[(77,.int .i64),(76,.ro .u8),(9,.int .u32)],[(2,.mp 8 0)],[],[(78,.int .i64),(3,.int .i64)],[(8,[.val .state])],[]⟩
@[reducible] def RV:List fO:=[⟨.ret,[(3,.int .i64)],[(8,[.val .state])],[]⟩,⟨.exit 0,[(3,.int .i64)],[(8,[.val .state])],[]⟩]
def tH (p0:Int) (p1:(List Int)) (p2:Int) (v0:Int) (v1:Int) (v2:ax):Option ((Int×Int×ax) ⊕ ((Int×ax) ⊕ ((Int×ax)))):=cnd (ilt v0 p0) (cnd (band (ile 0 v0) (ilt v0 (len p1))) (cnd (ile 0 (wr .i64 (dY 8 v0))) (cnd (ay (ieq (ai p1 (itn v0)) (wr .u8 (dN .u32 p2 (wr .i64 (dY 8 v0)))))) (some (Sum.inr (Sum.inl (10,ax.mk 0 0 [] [] [] [] false 0 0 0)))) (some (Sum.inl (wr .i64 (aj v0 1),v1,v2)))) none) none) (some (Sum.inr (Sum.inr (v1,v2))))
def PW:dU:=RP.spec RV [79,80,81,82,10,11,83,84,85,86,87,88,89,90,3,91,78] (fun p v=>tH p.1 p.2.1 p.2.2 v.1 v.2.1 v.2.2)
def sS:LSh:=⟨245,[(28,.int .i64)],[(3,.mp 1264 0),(0,.mp 1152 0)],[],[(29,.int .i64)],[(1264,[.int .i64,.int .i64,.buf .order,.buf .cell,.buf .expo,.buf .i64,.bool,.int .i64,.int .i64,.int .i64]),(1152,[.val .reader])],[]⟩
@[reducible] def rY:List fO:=[⟨.exit 0,[],[(1264,[.int .i64,.int .i64,.buf .order,.buf .cell,.buf .expo,.buf .i64,.bool,.int .i64,.int .i64,.int .i64]),(1152,[.val .reader])],[]⟩]
def fG (p0:Int) (v0:Int) (v1:Int) (v2:Int) (v3:(List aJ)) (v4:(List aK)) (v5:(List dL)) (v6:(List Int)) (v7:Bool) (v8:Int) (v9:Int) (v10:Int) (v11:gV):Option ((Int×Int×Int×(List aJ)×(List aK)×(List dL)×(List Int)×Bool×Int×Int×Int×gV) ⊕ ((Int×Int×(List aJ)×(List aK)×(List dL)×(List Int)×Bool×Int×Int×Int×gV))):=cnd (ilt v0 p0) (af (vG v11) fun y0 => cnd (band (ile 0 v0) (ilt v0 (len v3))) (some (Sum.inl (wr .i64 (aj v0 1),v1,v2,bT v3 (itn v0) y0.snd,v4,v5,v6,v7,v8,v9,v10,y0.fst))) none) (some (Sum.inr (v1,v2,v3,v4,v5,v6,v7,v8,v9,v10,v11)))
def rG:dU:=sS.spec rY [30,31,4,32,33,34,35,36,37,38,29] (fun p v=>fG p v.1 v.2.1 v.2.2.1 v.2.2.2.1 v.2.2.2.2.1 v.2.2.2.2.2.1 v.2.2.2.2.2.2.1 v.2.2.2.2.2.2.2.1 v.2.2.2.2.2.2.2.2.1 v.2.2.2.2.2.2.2.2.2.1 v.2.2.2.2.2.2.2.2.2.2.1 v.2.2.2.2.2.2.2.2.2.2.2)
def rF:LSh:=⟨344,[(48,.int .i64)],[(3,.mp 1264 0),(0,.mp 1152 0)],[],[(49,.int .i64)],[(1264,[.int .i64,.int .i64,.buf .order,.buf .cell,.buf .expo,.buf .i64,.bool,.int .i64,.int .i64,.int .i64]),(1152,[.val .reader])],[]⟩
@[reducible] def rJ:List fO:=[⟨.exit 2,[],[(1264,[.int .i64,.int .i64,.buf .order,.buf .cell,.buf .expo,.buf .i64,.bool,.int .i64,.int .i64,.int .i64]),(1152,[.val .reader])],[]⟩]
def eX (p0:Int) (v0:Int) (v1:Int) (v2:Int) (v3:(List aJ)) (v4:(List aK)) (v5:(List dL)) (v6:(List Int)) (v7:Bool) (v8:Int) (v9:Int) (v10:Int) (v11:gV):Option ((Int×Int×Int×(List aJ)×(List aK)×(List dL)×(List Int)×Bool×Int×Int×Int×gV) ⊕ ((Int×Int×(List aJ)×(List aK)×(List dL)×(List Int)×Bool×Int×Int×Int×gV))):=cnd (ilt v0 p0) (af (dP v11 8) fun y0 => cnd (band (ile 0 v0) (ilt v0 (len v4))) (some (Sum.inl (wr .i64 (aj v0 1),v1,v2,v3,bT v4 (itn v0) (aK.mk y0.snd (ai v4 (itn v0)).buy (ai v4 (itn v0)).sell (ai v4 (itn v0)).opn),v5,v6,v7,v8,v9,v10,y0.fst))) none) (some (Sum.inr (v1,v2,v3,v4,v5,v6,v7,v8,v9,v10,v11)))
def qP:dU:=rF.spec rJ [50,51,5,52,53,54,55,56,57,58,59,49] (fun p v=>eX p v.1 v.2.1 v.2.2.1 v.2.2.2.1 v.2.2.2.2.1 v.2.2.2.2.2.1 v.2.2.2.2.2.2.1 v.2.2.2.2.2.2.2.1 v.2.2.2.2.2.2.2.2.1 v.2.2.2.2.2.2.2.2.2.1 v.2.2.2.2.2.2.2.2.2.2.1 v.2.2.2.2.2.2.2.2.2.2.2)
def rE:LSh:=⟨435,[(62,.int .i64)],[(3,.mp 1264 0),(0,.mp 1152 0)],[],[(63,.int .i64)],[(1264,[.int .i64,.int .i64,.buf .order,.buf .cell,.buf .expo,.buf .i64,.bool,.int .i64,.int .i64,.int .i64]),(1152,[.val .reader])],[]⟩
@[reducible] def rM:List fO:=[⟨.exit 4,[],[(1264,[.int .i64,.int .i64,.buf .order,.buf .cell,.buf .expo,.buf .i64,.bool,.int .i64,.int .i64,.int .i64]),(1152,[.val .reader])],[]⟩]
def fA (p0:Int) (v0:Int) (v1:Int) (v2:Int) (v3:(List aJ)) (v4:(List aK)) (v5:(List dL)) (v6:(List Int)) (v7:Bool) (v8:Int) (v9:Int) (v10:Int) (v11:gV):Option ((Int×Int×Int×(List aJ)×(List aK)×(List dL)×(List Int)×Bool×Int×Int×Int×gV) ⊕ ((Int×Int×(List aJ)×(List aK)×(List dL)×(List Int)×Bool×Int×Int×Int×gV))):=cnd (ilt v0 p0) (af (dP v11 8) fun y0 => af (dP y0.fst 8) fun y1 => af (dP y1.fst 8) fun y2 => cnd (ile (len (dB v5 [dL.mk y0.snd y1.snd y2.snd])) 68719476736) (some (Sum.inl (wr .i64 (aj v0 1),v1,v2,v3,v4,dB v5 [dL.mk y0.snd y1.snd y2.snd],v6,v7,v8,v9,v10,y2.fst))) none) (some (Sum.inr (v1,v2,v3,v4,v5,v6,v7,v8,v9,v10,v11)))
def qN:dU:=rE.spec rM [64,65,66,67,68,69,70,71,72,73,74,75,76,77,63] (fun p v=>fA p v.1 v.2.1 v.2.2.1 v.2.2.2.1 v.2.2.2.2.1 v.2.2.2.2.2.1 v.2.2.2.2.2.2.1 v.2.2.2.2.2.2.2.1 v.2.2.2.2.2.2.2.2.1 v.2.2.2.2.2.2.2.2.2.1 v.2.2.2.2.2.2.2.2.2.2.1 v.2.2.2.2.2.2.2.2.2.2.2)
def rO:LSh:=⟨525,[(79,.int .i64)],[(3,.mp 1264 0),(0,.mp 1152 0)],[],[(80,.int .i64)],[(1264,[.int .i64,.int .i64,.buf .order,.buf .cell,.buf .expo,.buf .i64,.bool,.int .i64,.int .i64,.int .i64]),(1152,[.val .reader])],[]⟩
@[reducible] def rH:List fO:=[⟨.exit 6,[],[(1264,[.int .i64,.int .i64,.buf .order,.buf .cell,.buf .expo,.buf .i64,.bool,.int .i64,.int .i64,.int .i64]),(1152,[.val .reader])],[]⟩]
def eY (p0:Int) (v0:Int) (v1:Int) (v2:Int) (v3:(List aJ)) (v4:(List aK)) (v5:(List dL)) (v6:(List Int)) (v7:Bool) (v8:Int) (v9:Int) (v10:Int) (v11:gV):Option ((Int×Int×Int×(List aJ)×(List aK)×(List dL)×(List Int)×Bool×Int×Int×Int×gV) ⊕ ((Int×Int×(List aJ)×(List aK)×(List dL)×(List Int)×Bool×Int×Int×Int×gV))):=cnd (ilt v0 p0) (af (dP v11 8) fun y0 => cnd (ile (len (dB v6 [y0.snd])) 68719476736) (some (Sum.inl (wr .i64 (aj v0 1),v1,v2,v3,v4,v5,dB v6 [y0.snd],v7,v8,v9,v10,y0.fst))) none) (some (Sum.inr (v1,v2,v3,v4,v5,v6,v7,v8,v9,v10,v11)))
def qO:dU:=rO.spec rH [81,82,83,84,85,86,87,88,89,80] (fun p v=>eY p v.1 v.2.1 v.2.2.1 v.2.2.2.1 v.2.2.2.2.1 v.2.2.2.2.2.1 v.2.2.2.2.2.2.1 v.2.2.2.2.2.2.2.1 v.2.2.2.2.2.2.2.2.1 v.2.2.2.2.2.2.2.2.2.1 v.2.2.2.2.2.2.2.2.2.2.1 v.2.2.2.2.2.2.2.2.2.2.2)
def zn:LSh:=⟨634,[(10,.int .i64)],[(9,.mf 4298),(1,.mp 4512 0)],[],[(11,.int .i64),(2,.bool)],[(4512,[.int .i64,.int .i64,.rf 4298,.rf 4299,.rf 4300,.rf 4301,.bool,.int .i64,.int .i64,.int .i64])],[(4298,.order),(4299,.cell),(4300,.expo),(4301,.i64)]⟩
@[reducible] def zH:List fO:=[⟨.ret,[(2,.bool)],[(4512,[.int .i64,.int .i64,.rf 4298,.rf 4299,.rf 4300,.rf 4301,.bool,.int .i64,.int .i64,.int .i64])],[(4298,.order),(4299,.cell),(4300,.expo),(4301,.i64)]⟩,⟨.exit 0,[(2,.bool)],[(4512,[.int .i64,.int .i64,.rf 4298,.rf 4299,.rf 4300,.rf 4301,.bool,.int .i64,.int .i64,.int .i64])],[(4298,.order),(4299,.cell),(4300,.expo),(4301,.i64)]⟩]
def iZ (p0:Int) (v0:Int) (v1:Bool) (v2:Int) (v3:Int) (v4:Unit) (v5:Unit) (v6:Unit) (v7:Unit) (v8:Bool) (v9:Int) (v10:Int) (v11:Int) (v12:(List aJ)) (v13:(List aK)) (v14:(List dL)) (v15:(List Int)):Option ((Int×Bool×Int×Int×Unit×Unit×Unit×Unit×Bool×Int×Int×Int×(List aJ)×(List aK)×(List dL)×(List Int)) ⊕ ((Bool×Int×Int×Unit×Unit×Unit×Unit×Bool×Int×Int×Int×(List aJ)×(List aK)×(List dL)×(List Int)) ⊕ ((Bool×Int×Int×Unit×Unit×Unit×Unit×Bool×Int×Int×Int×(List aJ)×(List aK)×(List dL)×(List Int))))):=cnd (ilt v0 p0) (cnd (band (ile 0 v0) (ilt v0 (len v12))) (af (O7 (ax.mk v2 v3 v12 v13 v14 v15 v8 v9 v10 v11) (ai v12 (itn v0)).account (ai v12 (itn v0)).symbol) fun y0 => cnd (ieq y0 (-1)) (some (Sum.inr (Sum.inl (false,v2,v3,PUnit.unit,PUnit.unit,PUnit.unit,PUnit.unit,v8,v9,v10,v11,v12,v13,v14,v15)))) (cnd (band (ile 0 y0) (ilt y0 (len v13))) (af (jH (ai v13 (itn y0)) (ai v12 (itn v0))) fun y1 => cnd (ay (ieq y1.snd 0)) (some (Sum.inr (Sum.inl (false,v2,v3,PUnit.unit,PUnit.unit,PUnit.unit,PUnit.unit,v8,v9,v10,v11,v12,v13,v14,v15)))) (cnd (band (ile 0 y0) (ilt y0 (len v13))) (some (Sum.inl (wr .i64 (aj v0 1),v1,v2,v3,PUnit.unit,PUnit.unit,PUnit.unit,PUnit.unit,v8,v9,v10,v11,v12,bT v13 (itn y0) y1.fst,v14,v15))) none)) none)) none) (some (Sum.inr (Sum.inr (v1,v2,v3,PUnit.unit,PUnit.unit,PUnit.unit,PUnit.unit,v8,v9,v10,v11,v12,v13,v14,v15))))
def yY:dU:=zn.spec zH [12,13,14,4,15,16,17,18,19,20,5,21,22,2,24,25,26,27,28,29,30,23,31,32,6,7,33,34,35,36,37,38,39,40,11] (fun p v=>iZ p v.1 v.2.1 v.2.2.1 v.2.2.2.1 v.2.2.2.2.1 v.2.2.2.2.2.1 v.2.2.2.2.2.2.1 v.2.2.2.2.2.2.2.1 v.2.2.2.2.2.2.2.2.1 v.2.2.2.2.2.2.2.2.2.1 v.2.2.2.2.2.2.2.2.2.2.1 v.2.2.2.2.2.2.2.2.2.2.2.1 v.2.2.2.2.2.2.2.2.2.2.2.2.1 v.2.2.2.2.2.2.2.2.2.2.2.2.2.1 v.2.2.2.2.2.2.2.2.2.2.2.2.2.2.1 v.2.2.2.2.2.2.2.2.2.2.2.2.2.2.2)
def zI (x0:(List Int)):Option (ax×Int):=cnd (bor (ile 4 (len x0)) (ay (ay (ilt (len x0) 36)))) (cnd (bor (ilt (len x0) 36) (ay (seq (u2s (aA x0 4)) [(UInt8.ofNat 115),(UInt8.ofNat 110),(UInt8.ofNat 97),(UInt8.ofNat 102)]))) (some (ax.mk 0 0 [] [] [] [] false 0 0 0,2)) (cnd (ilt 4 (len x0)) (cnd (ilt 5 (len x0)) (cnd (ilt 7 (len x0)) (af (cnd (ay (bor (bor (bor (bor (ilt (wr .i64 (ai x0 4)) 1) (ilt 8 (wr .i64 (ai x0 4)))) (ilt (wr .i64 (ai x0 5)) 1)) (ilt 8 (wr .i64 (ai x0 5)))) (ilt 64 (wr .i64 (ai x0 7))))) (KU (wr .i64 (ai x0 4)) (wr .i64 (ai x0 5)) (wr .i64 (ai x0 7))) (some 0)) fun y0 => cnd (bor (bor (bor (bor (bor (ilt (wr .i64 (ai x0 4)) 1) (ilt 8 (wr .i64 (ai x0 4)))) (ilt (wr .i64 (ai x0 5)) 1)) (ilt 8 (wr .i64 (ai x0 5)))) (ilt 64 (wr .i64 (ai x0 7)))) (ay (ieq (len x0) y0))) (some (ax.mk 0 0 [] [] [] [] false 0 0 0,2)) (cnd (band (ile 0 (wr .i64 (aI (len x0) 4))) (ile (wr .i64 (aI (len x0) 4)) (len x0))) (cnd (band (ile 0 (wr .i64 (aI (len x0) 4))) (ile (wr .i64 (aI (len x0) 4)) (len x0))) (af (Pv (aA x0 (itn (wr .i64 (aI (len x0) 4))))) fun y1 => af (bD (fun v => tH (len (aN x0 (itn (wr .i64 (aI (len x0) 4))))) (aN x0 (itn (wr .i64 (aI (len x0) 4)))) y1 v.fst v.snd.fst v.snd.snd) LF (0,0,ax.mk 0 0 [] [] [] [] false 0 0 0)) fun y2 => gY y2 (fun y3 => some (y3.snd,y3.fst)) fun y3 => cnd (ile 4 (len (aA x0 (itn (wr .i64 (aI (len x0) 4)))))) (af (jl (gV.mk (aN (aA x0 (itn (wr .i64 (aI (len x0) 4)))) 4) false)) fun y4 => af (jl y4.fst) fun y5 => af (tX y5.fst) fun y6 => af (jl y6.fst) fun y7 => cnd (band (band (ile 0 y7.snd) (ile y7.snd y7.snd)) (ile y7.snd 68719476736)) (af (dP y7.fst 8) fun y8 => af (dP y8.fst 8) fun y9 => af (dP y9.fst 8) fun y10 => af (bD (fun v => fG (len (jR aJ (itn y7.snd))) v.fst v.snd.fst v.snd.snd.fst v.snd.snd.snd.fst v.snd.snd.snd.snd.fst v.snd.snd.snd.snd.snd.fst v.snd.snd.snd.snd.snd.snd.fst v.snd.snd.snd.snd.snd.snd.snd.fst v.snd.snd.snd.snd.snd.snd.snd.snd.fst v.snd.snd.snd.snd.snd.snd.snd.snd.snd.fst v.snd.snd.snd.snd.snd.snd.snd.snd.snd.snd.fst v.snd.snd.snd.snd.snd.snd.snd.snd.snd.snd.snd) LF (0,y4.snd,y5.snd,jR aJ (itn y7.snd),[],[],[],y6.snd,y8.snd,y9.snd,y10.snd,y10.fst)) fun y11 => cnd (band (band (ile 0 (wr .i64 (dY y11.fst y11.snd.fst))) (ile (wr .i64 (dY y11.fst y11.snd.fst)) (wr .i64 (dY y11.fst y11.snd.fst)))) (ile (wr .i64 (dY y11.fst y11.snd.fst)) 68719476736)) (af (bD (fun v => eX (len (jR aK (itn (wr .i64 (dY y11.fst y11.snd.fst))))) v.fst v.snd.fst v.snd.snd.fst v.snd.snd.snd.fst v.snd.snd.snd.snd.fst v.snd.snd.snd.snd.snd.fst v.snd.snd.snd.snd.snd.snd.fst v.snd.snd.snd.snd.snd.snd.snd.fst v.snd.snd.snd.snd.snd.snd.snd.snd.fst v.snd.snd.snd.snd.snd.snd.snd.snd.snd.fst v.snd.snd.snd.snd.snd.snd.snd.snd.snd.snd.fst v.snd.snd.snd.snd.snd.snd.snd.snd.snd.snd.snd) LF (0,y11.fst,y11.snd.fst,y11.snd.snd.fst,jR aK (itn (wr .i64 (dY y11.fst y11.snd.fst))),y11.snd.snd.snd.snd)) fun y12 => af (bD (fun v => fA (len y12.snd.snd.snd.fst) v.fst v.snd.fst v.snd.snd.fst v.snd.snd.snd.fst v.snd.snd.snd.snd.fst v.snd.snd.snd.snd.snd.fst v.snd.snd.snd.snd.snd.snd.fst v.snd.snd.snd.snd.snd.snd.snd.fst v.snd.snd.snd.snd.snd.snd.snd.snd.fst v.snd.snd.snd.snd.snd.snd.snd.snd.snd.fst v.snd.snd.snd.snd.snd.snd.snd.snd.snd.snd.fst v.snd.snd.snd.snd.snd.snd.snd.snd.snd.snd.snd) LF (0,y12)) fun y13 => af (bD (fun v => eY y13.fst v.fst v.snd.fst v.snd.snd.fst v.snd.snd.snd.fst v.snd.snd.snd.snd.fst v.snd.snd.snd.snd.snd.fst v.snd.snd.snd.snd.snd.snd.fst v.snd.snd.snd.snd.snd.snd.snd.fst v.snd.snd.snd.snd.snd.snd.snd.snd.fst v.snd.snd.snd.snd.snd.snd.snd.snd.snd.fst v.snd.snd.snd.snd.snd.snd.snd.snd.snd.snd.fst v.snd.snd.snd.snd.snd.snd.snd.snd.snd.snd.snd) LF (0,y13)) fun y14 => cnd (ay y14.snd.snd.snd.snd.snd.snd.snd.snd.snd.snd.odd) (af (bD (fun v => iZ (len y14.snd.snd.fst) v.fst v.snd.fst v.snd.snd.fst v.snd.snd.snd.fst v.snd.snd.snd.snd.fst v.snd.snd.snd.snd.snd.fst v.snd.snd.snd.snd.snd.snd.fst v.snd.snd.snd.snd.snd.snd.snd.fst v.snd.snd.snd.snd.snd.snd.snd.snd.fst v.snd.snd.snd.snd.snd.snd.snd.snd.snd.fst v.snd.snd.snd.snd.snd.snd.snd.snd.snd.snd.fst v.snd.snd.snd.snd.snd.snd.snd.snd.snd.snd.snd.fst v.snd.snd.snd.snd.snd.snd.snd.snd.snd.snd.snd.snd.fst v.snd.snd.snd.snd.snd.snd.snd.snd.snd.snd.snd.snd.snd.fst v.snd.snd.snd.snd.snd.snd.snd.snd.snd.snd.snd.snd.snd.snd.fst v.snd.snd.snd.snd.snd.snd.snd.snd.snd.snd.snd.snd.snd.snd.snd) LF (0,false,y14.fst,y14.snd.fst,PUnit.unit,PUnit.unit,PUnit.unit,PUnit.unit,y14.snd.snd.snd.snd.snd.snd.fst,y14.snd.snd.snd.snd.snd.snd.snd.fst,y14.snd.snd.snd.snd.snd.snd.snd.snd.fst,y14.snd.snd.snd.snd.snd.snd.snd.snd.snd.fst,y14.snd.snd.fst,y14.snd.snd.snd.fst,y14.snd.snd.snd.snd.fst,y14.snd.snd.snd.snd.snd.fst)) fun y15 => gY y15 (fun y16 => af (cnd (ay (bor y14.snd.snd.snd.snd.snd.snd.snd.snd.snd.snd.odd (ay y16.fst))) (pY (ax.mk y14.fst y14.snd.fst y16.snd.snd.snd.snd.snd.snd.snd.snd.snd.snd.snd.fst y16.snd.snd.snd.snd.snd.snd.snd.snd.snd.snd.snd.snd.fst y16.snd.snd.snd.snd.snd.snd.snd.snd.snd.snd.snd.snd.snd.fst y16.snd.snd.snd.snd.snd.snd.snd.snd.snd.snd.snd.snd.snd.snd y14.snd.snd.snd.snd.snd.snd.fst y14.snd.snd.snd.snd.snd.snd.snd.fst y14.snd.snd.snd.snd.snd.snd.snd.snd.fst y14.snd.snd.snd.snd.snd.snd.snd.snd.snd.fst)) (some false)) fun y17 => cnd (bor (bor y14.snd.snd.snd.snd.snd.snd.snd.snd.snd.snd.odd (ay y16.fst)) (ay y17)) (some (ax.mk 0 0 [] [] [] [] false 0 0 0,2)) (some (ax.mk y14.fst y14.snd.fst y16.snd.snd.snd.snd.snd.snd.snd.snd.snd.snd.snd.fst y16.snd.snd.snd.snd.snd.snd.snd.snd.snd.snd.snd.snd.fst y16.snd.snd.snd.snd.snd.snd.snd.snd.snd.snd.snd.snd.snd.fst y16.snd.snd.snd.snd.snd.snd.snd.snd.snd.snd.snd.snd.snd.snd y14.snd.snd.snd.snd.snd.snd.fst y14.snd.snd.snd.snd.snd.snd.snd.fst y14.snd.snd.snd.snd.snd.snd.snd.snd.fst y14.snd.snd.snd.snd.snd.snd.snd.snd.snd.fst,0))) fun y16 => af (cnd (ay (bor y14.snd.snd.snd.snd.snd.snd.snd.snd.snd.snd.odd false)) (pY (ax.mk y14.fst y14.snd.fst y16.snd.snd.snd.snd.snd.snd.snd.snd.snd.snd.snd.fst y16.snd.snd.snd.snd.snd.snd.snd.snd.snd.snd.snd.snd.fst y16.snd.snd.snd.snd.snd.snd.snd.snd.snd.snd.snd.snd.snd.fst y16.snd.snd.snd.snd.snd.snd.snd.snd.snd.snd.snd.snd.snd.snd y14.snd.snd.snd.snd.snd.snd.fst y14.snd.snd.snd.snd.snd.snd.snd.fst y14.snd.snd.snd.snd.snd.snd.snd.snd.fst y14.snd.snd.snd.snd.snd.snd.snd.snd.snd.fst)) (some false)) fun y18 => cnd (bor (bor y14.snd.snd.snd.snd.snd.snd.snd.snd.snd.snd.odd false) (ay y18)) (some (ax.mk 0 0 [] [] [] [] false 0 0 0,2)) (some (ax.mk y14.fst y14.snd.fst y16.snd.snd.snd.snd.snd.snd.snd.snd.snd.snd.snd.fst y16.snd.snd.snd.snd.snd.snd.snd.snd.snd.snd.snd.snd.fst y16.snd.snd.snd.snd.snd.snd.snd.snd.snd.snd.snd.snd.snd.fst y16.snd.snd.snd.snd.snd.snd.snd.snd.snd.snd.snd.snd.snd.snd y14.snd.snd.snd.snd.snd.snd.fst y14.snd.snd.snd.snd.snd.snd.snd.fst y14.snd.snd.snd.snd.snd.snd.snd.snd.fst y14.snd.snd.snd.snd.snd.snd.snd.snd.snd.fst,0))) (af (cnd (ay (bor y14.snd.snd.snd.snd.snd.snd.snd.snd.snd.snd.odd true)) (pY (ax.mk y14.fst y14.snd.fst y14.snd.snd.fst y14.snd.snd.snd.fst y14.snd.snd.snd.snd.fst y14.snd.snd.snd.snd.snd.fst y14.snd.snd.snd.snd.snd.snd.fst y14.snd.snd.snd.snd.snd.snd.snd.fst y14.snd.snd.snd.snd.snd.snd.snd.snd.fst y14.snd.snd.snd.snd.snd.snd.snd.snd.snd.fst)) (some false)) fun y19 => cnd (bor (bor y14.snd.snd.snd.snd.snd.snd.snd.snd.snd.snd.odd true) (ay y19)) (some (ax.mk 0 0 [] [] [] [] false 0 0 0,2)) (some (ax.mk y14.fst y14.snd.fst y14.snd.snd.fst y14.snd.snd.snd.fst y14.snd.snd.snd.snd.fst y14.snd.snd.snd.snd.snd.fst y14.snd.snd.snd.snd.snd.snd.fst y14.snd.snd.snd.snd.snd.snd.snd.fst y14.snd.snd.snd.snd.snd.snd.snd.snd.fst y14.snd.snd.snd.snd.snd.snd.snd.snd.snd.fst,0)))) none) none) none) none) none)) none) none) none)) none
noncomputable def xk:Cx:={ P:=PG,ety:=ety,fn:=look [(109,GK),(71,JJ),(166,nK),(167,sW),(168,nN),(169,BL),(170,Oi),(138,vZ),(18,oI)],inl:=dR [110,111],lp:=aS [(47,1018,PW),(201864077422,250,rG),(201864077422,1018,qP),(201864077422,2042,qN),(201864077422,4090,qO),(201865773167,26,yY)] }
theorem X3 (p0:Int) (p1:(List Int)) (p2:Int) (v0:Int) (v1:Int) (v2:ax):fC xk 900 47 1018 (dK PG 47 1018) RP RV (p0,p1,p2) (v0,v1,v2)=tH p0 p1 p2 v0 v1 v2:=by kernel_rfl
theorem AA (p0:Int) (v0:Int) (v1:Int) (v2:Int) (v3:(List aJ)) (v4:(List aK)) (v5:(List dL)) (v6:(List Int)) (v7:Bool) (v8:Int) (v9:Int) (v10:Int) (v11:gV):fC xk 900 201864077422 250 (dK PG 110 250) sS rY p0 (v0,v1,v2,v3,v4,v5,v6,v7,v8,v9,v10,v11)=fG p0 v0 v1 v2 v3 v4 v5 v6 v7 v8 v9 v10 v11:=by kernel_rfl
theorem zU (p0:Int) (v0:Int) (v1:Int) (v2:Int) (v3:(List aJ)) (v4:(List aK)) (v5:(List dL)) (v6:(List Int)) (v7:Bool) (v8:Int) (v9:Int) (v10:Int) (v11:gV):fC xk 900 201864077422 1018 (dK PG 110 1018) rF rJ p0 (v0,v1,v2,v3,v4,v5,v6,v7,v8,v9,v10,v11)=eX p0 v0 v1 v2 v3 v4 v5 v6 v7 v8 v9 v10 v11:=by kernel_rfl
theorem zK (p0:Int) (v0:Int) (v1:Int) (v2:Int) (v3:(List aJ)) (v4:(List aK)) (v5:(List dL)) (v6:(List Int)) (v7:Bool) (v8:Int) (v9:Int) (v10:Int) (v11:gV):fC xk 900 201864077422 2042 (dK PG 110 2042) rE rM p0 (v0,v1,v2,v3,v4,v5,v6,v7,v8,v9,v10,v11)=fA p0 v0 v1 v2 v3 v4 v5 v6 v7 v8 v9 v10 v11:=by kernel_rfl
theorem Ah (p0:Int) (v0:Int) (v1:Int) (v2:Int) (v3:(List aJ)) (v4:(List aK)) (v5:(List dL)) (v6:(List Int)) (v7:Bool) (v8:Int) (v9:Int) (v10:Int) (v11:gV):fC xk 900 201864077422 4090 (dK PG 110 4090) rO rH p0 (v0,v1,v2,v3,v4,v5,v6,v7,v8,v9,v10,v11)=eY p0 v0 v1 v2 v3 v4 v5 v6 v7 v8 v9 v10 v11:=by kernel_rfl
theorem JM (p0:Int) (v0:Int) (v1:Bool) (v2:Int) (v3:Int) (v4:Unit) (v5:Unit) (v6:Unit) (v7:Unit) (v8:Bool) (v9:Int) (v10:Int) (v11:Int) (v12:(List aJ)) (v13:(List aK)) (v14:(List dL)) (v15:(List Int)):fC xk 900 201865773167 26 (dK PG 111 26) zn zH p0 (v0,v1,v2,v3,v4,v5,v6,v7,v8,v9,v10,v11,v12,v13,v14,v15)=iZ p0 v0 v1 v2 v3 v4 v5 v6 v7 v8 v9 v10 v11 v12 v13 v14 v15:=by kernel_rfl
theorem aeF (x0:(List Int)):bP xk 47 [.ro .u8] [.val .state,.int .i64] x0=zI x0:=by kernel_rfl
def Oa:aO:=mkSpec [.ro .u8] [.val .state,.int .i64] false (fun x=>zI x)
theorem ahs:dI PG 47 Oa:=
 have K:CxR xk:=aP.cx (fun _=>rfl) (l:=[(109,GK),(71,JJ),(166,nK),(167,sW),(168,nN),(169,BL),(170,Oi),(138,vZ),(18,oI)]) ⟨ad4,afF,Jr,Qe,Ko,Zy,ahi,VH,Mc,trivial⟩
 aH K (aG (l:=[(47,1018,PW),(201864077422,250,rG),(201864077422,1018,qP),(201864077422,2042,qN),(201864077422,4090,qO),(201865773167,26,yY)]) rfl ⟨bF (n:=900) (f:=47) K (by kernel_rfl) (by kernel_rfl) (by kernel_rfl) (by kernel_rfl) (by kernel_rfl) (fun p v r h=>(X3 p.1 p.2.1 p.2.2 v.1 v.2.1 v.2.2).trans h),
  bF (n:=900) (f:=110) K (by kernel_rfl) (by kernel_rfl) (by kernel_rfl) (by kernel_rfl) (by kernel_rfl) (fun p v r h=>(AA p v.1 v.2.1 v.2.2.1 v.2.2.2.1 v.2.2.2.2.1 v.2.2.2.2.2.1 v.2.2.2.2.2.2.1 v.2.2.2.2.2.2.2.1 v.2.2.2.2.2.2.2.2.1 v.2.2.2.2.2.2.2.2.2.1 v.2.2.2.2.2.2.2.2.2.2.1 v.2.2.2.2.2.2.2.2.2.2.2).trans h),
  bF (n:=900) (f:=110) K (by kernel_rfl) (by kernel_rfl) (by kernel_rfl) (by kernel_rfl) (by kernel_rfl) (fun p v r h=>(zU p v.1 v.2.1 v.2.2.1 v.2.2.2.1 v.2.2.2.2.1 v.2.2.2.2.2.1 v.2.2.2.2.2.2.1 v.2.2.2.2.2.2.2.1 v.2.2.2.2.2.2.2.2.1 v.2.2.2.2.2.2.2.2.2.1 v.2.2.2.2.2.2.2.2.2.2.1 v.2.2.2.2.2.2.2.2.2.2.2).trans h),
  bF (n:=900) (f:=110) K (by kernel_rfl) (by kernel_rfl) (by kernel_rfl) (by kernel_rfl) (by kernel_rfl) (fun p v r h=>(zK p v.1 v.2.1 v.2.2.1 v.2.2.2.1 v.2.2.2.2.1 v.2.2.2.2.2.1 v.2.2.2.2.2.2.1 v.2.2.2.2.2.2.2.1 v.2.2.2.2.2.2.2.2.1 v.2.2.2.2.2.2.2.2.2.1 v.2.2.2.2.2.2.2.2.2.2.1 v.2.2.2.2.2.2.2.2.2.2.2).trans h),
  bF (n:=900) (f:=110) K (by kernel_rfl) (by kernel_rfl) (by kernel_rfl) (by kernel_rfl) (by kernel_rfl) (fun p v r h=>(Ah p v.1 v.2.1 v.2.2.1 v.2.2.2.1 v.2.2.2.2.1 v.2.2.2.2.2.1 v.2.2.2.2.2.2.1 v.2.2.2.2.2.2.2.1 v.2.2.2.2.2.2.2.2.1 v.2.2.2.2.2.2.2.2.2.1 v.2.2.2.2.2.2.2.2.2.2.1 v.2.2.2.2.2.2.2.2.2.2.2).trans h),
  bF (n:=900) (f:=111) K (by kernel_rfl) (by kernel_rfl) (by kernel_rfl) (by kernel_rfl) (by kernel_rfl) (fun p v r h=>(JM p v.1 v.2.1 v.2.2.1 v.2.2.2.1 v.2.2.2.2.1 v.2.2.2.2.2.1 v.2.2.2.2.2.2.1 v.2.2.2.2.2.2.2.1 v.2.2.2.2.2.2.2.2.1 v.2.2.2.2.2.2.2.2.2.1 v.2.2.2.2.2.2.2.2.2.2.1 v.2.2.2.2.2.2.2.2.2.2.2.1 v.2.2.2.2.2.2.2.2.2.2.2.2.1 v.2.2.2.2.2.2.2.2.2.2.2.2.2.1 v.2.2.2.2.2.2.2.2.2.2.2.2.2.2.1 v.2.2.2.2.2.2.2.2.2.2.2.2.2.2.2).trans h),trivial⟩) (by kernel_rfl) (fun x y h=>(aeF x).trans h) rfl rfl
def uN (x0:au):Option (ax×Int×Int):=af (wP x0) fun y0 => cnd (ay (ieq y0.snd 0)) (some (ax.mk 0 0 [] [] [] [] false 0 0 0,0,y0.snd)) (af (dV y0.fst.gen) fun y1 => af (nS x0 y1) fun y2 => cnd (ieq y2.snd 0) (af (zI y2.fst) fun y3 => cnd (band (ieq y3.snd 0) (ieq y3.fst.lsn y0.fst.lsn)) (some (y3.fst,y0.fst.gen,0)) (some (ax.mk 0 0 [] [] [] [] false 0 0 0,0,2))) (some (ax.mk 0 0 [] [] [] [] false 0 0 0,0,2)))
noncomputable def abx:Cx:={ P:=PG,ety:=ety,fn:=look [(25,vN),(17,oJ),(21,pX),(47,Oa)],inl:=dR [],lp:=aS [] }
theorem aeA (x0:au):bP abx 13 [.val .disk] [.val .state,.int .i64,.int .i64] x0=uN x0:=by kernel_rfl
def Ba:aO:=mkSpec [.val .disk] [.val .state,.int .i64,.int .i64] false (fun x=>uN x)
theorem aal:dI PG 13 Ba:=
 have K:CxR abx:=aP.cx (fun _=>rfl) (l:=[(25,vN),(17,oJ),(21,pX),(47,Oa)]) ⟨Vl,Gj,O8,ahs,trivial⟩
 aH K (aG (l:=[]) rfl trivial) (by kernel_rfl) (fun x y h=>(aeA x).trans h) rfl rfl
def Hr (x0:ax):Option (Int):=af (pY x0) fun y0 => cnd (ay y0) (some 0) (af (KU x0.accounts x0.symbols (len x0.orders)) fun y1 => some y1)
noncomputable def agr:Cx:={ P:=PG,ety:=ety,fn:=look [(18,oI),(109,GK)],inl:=dR [],lp:=aS [] }
theorem ahr (x0:ax):bP agr 67 [.val .state] [.int .i64] x0=Hr x0:=by kernel_rfl
def TB:aO:=mkSpec [.val .state] [.int .i64] true (fun x=>Hr x)
theorem alG:dI PG 67 TB:=
 have K:CxR agr:=aP.cx (fun _=>rfl) (l:=[(18,oI),(109,GK)]) ⟨Mc,ad4,trivial⟩
 aH K (aG (l:=[]) rfl trivial) (by kernel_rfl) (fun x y h=>(ahr x).trans h) rfl rfl
def UG (x0:Bool):Option (Int):=cnd x0 (some 1) (some 0)
noncomputable def ah7:Cx:={ P:=PG,ety:=ety,fn:=look [],inl:=dR [],lp:=aS [] }
theorem ajq (x0:Bool):bP ah7 69 [.bool] [.int .i64] x0=UG x0:=by kernel_rfl
def Wx:aO:=mkSpec [.bool] [.int .i64] true (fun x=>UG x)
theorem amJ:dI PG 69 Wx:=
 have K:CxR ah7:=aP.cx (fun _=>rfl) (l:=[]) trivial
 aH K (aG (l:=[]) rfl trivial) (by kernel_rfl) (fun x y h=>(ajq x).trans h) rfl rfl
def Qr:LSh:=⟨144,[(8,.int .i64)],[],[],[(9,.int .i64),(0,.buf .u8)],[],[]⟩
@[reducible] def Qd:List fO:=[⟨.exit 2,[(0,.buf .u8)],[],[]⟩]
def qY (p0:Int) (v0:Int) (v1:(List Int)):Option ((Int×(List Int)) ⊕ (((List Int)))):=cnd (ile 0 v0) (cnd (ile 0 (wr .i64 (dY 8 v0))) (cnd (ile (len (dB v1 [wr .u8 (dN .i64 p0 (wr .i64 (dY 8 v0)))])) 68719476736) (some (Sum.inl (wr .i64 (aI v0 1),dB v1 [wr .u8 (dN .i64 p0 (wr .i64 (dY 8 v0)))]))) none) none) (some (Sum.inr v1))
def OC:dU:=Qr.spec Qd [18,19,22,23,24,25,26,27,28,29,0,20,21,9] (fun p v=>qY p v.1 v.2)
def Uy:LSh:=⟨71,[(11,.int .i64),(10,.ro .i64),(1,.int .i64)],[],[],[(12,.int .i64),(0,.buf .u8)],[],[]⟩
@[reducible] def Un:List fO:=[⟨.exit 0,[(0,.buf .u8)],[],[]⟩]
def yT (p0:Int) (p1:(List Int)) (p2:Int) (v0:Int) (v1:(List Int)):Option ((Int×(List Int)) ⊕ (((List Int)))):=cnd (ilt v0 p0) (cnd (band (ile 0 v0) (ilt v0 (len p1))) (af (bD (fun v => qY (ai p1 (itn v0)) v.fst v.snd) LF (wr .i64 (aI p2 1),v1)) fun y0 => some (Sum.inl (wr .i64 (aj v0 1),y0))) none) (some (Sum.inr v1))
def RI:dU:=Uy.spec Un [13,14,15,8,16,17,9,18,19,22,23,24,25,26,27,28,29,0,20,21,30,12] (fun p v=>yT p.1 p.2.1 p.2.2 v.1 v.2)
def uS (x0:(List Int)) (x1:Int) (x2:(List Int)):Option ((List Int)):=af (bD (fun v => yT (len x2) x2 x1 v.fst v.snd) LF (0,x0)) fun y0 => some y0
noncomputable def L9:Cx:={ P:=PG,ety:=ety,fn:=look [],inl:=dR [],lp:=aS [(68,6758,OC),(68,26,RI)] }
theorem Xh (p0:Int) (v0:Int) (v1:(List Int)):fC L9 900 68 6758 (dK PG 68 6758) Qr Qd p0 (v0,v1)=qY p0 v0 v1:=by kernel_rfl
theorem ZB (p0:Int) (p1:(List Int)) (p2:Int) (v0:Int) (v1:(List Int)):fC L9 900 68 26 (dK PG 68 26) Uy Un (p0,p1,p2) (v0,v1)=yT p0 p1 p2 v0 v1:=by kernel_rfl
theorem acT (x0:(List Int)) (x1:Int) (x2:(List Int)):bP L9 68 [.buf .u8,.int .i64,.ro .i64] [.buf .u8] (x0,x1,x2)=uS x0 x1 x2:=by kernel_rfl
def LD:aO:=mkSpec [.buf .u8,.int .i64,.ro .i64] [.buf .u8] true (fun x=>uS x.1 x.2.1 x.2.2)
theorem agq:dI PG 68 LD:=
 have K:CxR L9:=aP.cx (fun _=>rfl) (l:=[]) trivial
 aH K (aG (l:=[(68,6758,OC),(68,26,RI)]) rfl ⟨bF (n:=900) (f:=68) K (by kernel_rfl) (by kernel_rfl) (by kernel_rfl) (by kernel_rfl) (by kernel_rfl) (fun p v r h=>(Xh p v.1 v.2).trans h),
  bF (n:=900) (f:=68) K (by kernel_rfl) (by kernel_rfl) (by kernel_rfl) (by kernel_rfl) (by kernel_rfl) (fun p v r h=>(ZB p.1 p.2.1 p.2.2 v.1 v.2).trans h),trivial⟩) (by kernel_rfl) (fun x y h=>(acT x.1 x.2.1 x.2.2).trans h) rfl rfl
def ML:LSh:=⟨144,[(8,.int .i64)],[],[],[(9,.int .i64),(0,.buf .u8)],[],[]⟩
@[reducible] def NE:List fO:=[⟨.exit 2,[(0,.buf .u8)],[],[]⟩]
def Df (p0:Int) (v0:Int) (v1:(List Int)):Option ((Int×(List Int)) ⊕ (((List Int)))):=cnd (ile 0 v0) (cnd (ile 0 (wr .i64 (dY 8 v0))) (cnd (ile (len (dB v1 [wr .u8 (dN .i64 p0 (wr .i64 (dY 8 v0)))])) 68719476736) (some (Sum.inl (wr .i64 (aI v0 1),dB v1 [wr .u8 (dN .i64 p0 (wr .i64 (dY 8 v0)))]))) none) none) (some (Sum.inr v1))
def KG:dU:=ML.spec NE [18,19,22,23,24,25,26,27,28,29,0,20,21,9] (fun p v=>Df p v.1 v.2)
def Qx:LSh:=⟨71,[(11,.int .i64),(10,.ro .i64),(1,.int .i64)],[],[],[(12,.int .i64),(0,.buf .u8)],[],[]⟩
@[reducible] def QJ:List fO:=[⟨.exit 0,[(0,.buf .u8)],[],[]⟩]
def Hg (p0:Int) (p1:(List Int)) (p2:Int) (v0:Int) (v1:(List Int)):Option ((Int×(List Int)) ⊕ (((List Int)))):=cnd (ilt v0 p0) (cnd (band (ile 0 v0) (ilt v0 (len p1))) (af (bD (fun v => Df (ai p1 (itn v0)) v.fst v.snd) LF (wr .i64 (aI p2 1),v1)) fun y0 => some (Sum.inl (wr .i64 (aj v0 1),y0))) none) (some (Sum.inr v1))
def Ou:dU:=Qx.spec QJ [13,14,15,8,16,17,9,18,19,22,23,24,25,26,27,28,29,0,20,21,30,12] (fun p v=>Hg p.1 p.2.1 p.2.2 v.1 v.2)
def mD (x0:(List Int)) (x1:Int) (x2:(List Int)):Option ((List Int)):=af (bD (fun v => Hg (len x2) x2 x1 v.fst v.snd) LF (0,x0)) fun y0 => some y0
noncomputable def G9:Cx:={ P:=PG,ety:=ety,fn:=look [],inl:=dR [],lp:=aS [(70,6758,KG),(70,26,Ou)] }
theorem UI (p0:Int) (v0:Int) (v1:(List Int)):fC G9 900 70 6758 (dK PG 70 6758) ML NE p0 (v0,v1)=Df p0 v0 v1:=by kernel_rfl
theorem Xk (p0:Int) (p1:(List Int)) (p2:Int) (v0:Int) (v1:(List Int)):fC G9 900 70 26 (dK PG 70 26) Qx QJ (p0,p1,p2) (v0,v1)=Hg p0 p1 p2 v0 v1:=by kernel_rfl
theorem aaW (x0:(List Int)) (x1:Int) (x2:(List Int)):bP G9 70 [.buf .u8,.int .i64,.ro .i64] [.buf .u8] (x0,x1,x2)=mD x0 x1 x2:=by kernel_rfl
def H6:aO:=mkSpec [.buf .u8,.int .i64,.ro .i64] [.buf .u8] true (fun x=>mD x.1 x.2.1 x.2.2)
theorem acG:dI PG 70 H6:=
 have K:CxR G9:=aP.cx (fun _=>rfl) (l:=[]) trivial
 aH K (aG (l:=[(70,6758,KG),(70,26,Ou)]) rfl ⟨bF (n:=900) (f:=70) K (by kernel_rfl) (by kernel_rfl) (by kernel_rfl) (by kernel_rfl) (by kernel_rfl) (fun p v r h=>(UI p v.1 v.2).trans h),
  bF (n:=900) (f:=70) K (by kernel_rfl) (by kernel_rfl) (by kernel_rfl) (by kernel_rfl) (by kernel_rfl) (fun p v r h=>(Xk p.1 p.2.1 p.2.2 v.1 v.2).trans h),trivial⟩) (by kernel_rfl) (fun x y h=>(aaW x.1 x.2.1 x.2.2).trans h) rfl rfl
def RY:LSh:=⟨105,[(45,.int .i64),(44,.ro .order)],[],[],[(46,.int .i64),(5,.buf .u8)],[],[]⟩
@[reducible] def Sj:List fO:=[⟨.exit 0,[(5,.buf .u8)],[],[]⟩]
def wO (p0:Int) (p1:(List aJ)) (v0:Int) (v1:(List Int)):Option ((Int×(List Int)) ⊕ (((List Int)))):=cnd (ilt v0 p0) (cnd (band (ile 0 v0) (ilt v0 (len p1))) (af (mD v1 8 [(ai p1 (itn v0)).id]) fun y0 => af (uS y0 1 [(ai p1 (itn v0)).account,(ai p1 (itn v0)).symbol,(ai p1 (itn v0)).side,(ai p1 (itn v0)).phase]) fun y1 => af (mD y1 8 [(ai p1 (itn v0)).qty,(ai p1 (itn v0)).price,(ai p1 (itn v0)).filled,(ai p1 (itn v0)).newQty,(ai p1 (itn v0)).newPrice,(ai p1 (itn v0)).version]) fun y2 => af (UG (ai p1 (itn v0)).asked) fun y3 => af (uS y2 1 [y3]) fun y4 => some (Sum.inl (wr .i64 (aj v0 1),y4))) none) (some (Sum.inr v1))
def P9:dU:=RY.spec Sj [47,48,49,7,50,51,52,53,54,5,55,56,57,58,59,60,61,62,63,64,65,66,67,68,69,70,71,72,73,74,75,76,77,78,79,80,81,82,83,84,85,86,87,46] (fun p v=>wO p.1 p.2 v.1 v.2)
def Sz:LSh:=⟨176,[(90,.int .i64),(89,.ro .cell)],[],[],[(91,.int .i64),(5,.buf .u8)],[],[]⟩
@[reducible] def Sv:List fO:=[⟨.exit 2,[(5,.buf .u8)],[],[]⟩]
def wM (p0:Int) (p1:(List aK)) (v0:Int) (v1:(List Int)):Option ((Int×(List Int)) ⊕ (((List Int)))):=cnd (ilt v0 p0) (cnd (band (ile 0 v0) (ilt v0 (len p1))) (af (mD v1 8 [(ai p1 (itn v0)).pos]) fun y0 => some (Sum.inl (wr .i64 (aj v0 1),y0))) none) (some (Sum.inr v1))
def Q7:dU:=Sz.spec Sv [92,93,94,9,95,96,97,98,99,5,100,91] (fun p v=>wM p.1 p.2 v.1 v.2)
def RJ:LSh:=⟨247,[(103,.int .i64),(102,.ro .expo)],[],[],[(104,.int .i64),(5,.buf .u8)],[],[]⟩
@[reducible] def RN:List fO:=[⟨.exit 4,[(5,.buf .u8)],[],[]⟩]
def wV (p0:Int) (p1:(List dL)) (v0:Int) (v1:(List Int)):Option ((Int×(List Int)) ⊕ (((List Int)))):=cnd (ilt v0 p0) (cnd (band (ile 0 v0) (ilt v0 (len p1))) (af (mD v1 8 [(ai p1 (itn v0)).long,(ai p1 (itn v0)).short,(ai p1 (itn v0)).opn]) fun y0 => some (Sum.inl (wr .i64 (aj v0 1),y0))) none) (some (Sum.inr v1))
def QN:dU:=RJ.spec RN [105,106,107,11,108,109,110,111,112,113,114,115,116,5,117,104] (fun p v=>wV p.1 p.2 v.1 v.2)
def P6:LSh:=⟨323,[(12,.int .u32)],[],[],[(124,.int .i64),(5,.buf .u8)],[],[]⟩
@[reducible] def Qc:List fO:=[⟨.exit 6,[(5,.buf .u8)],[],[]⟩]
def vz (p0:Int) (v0:Int) (v1:(List Int)):Option ((Int×(List Int)) ⊕ (((List Int)))):=cnd (ilt v0 4) (cnd (ile 0 (wr .i64 (dY 8 v0))) (cnd (ile (len (dB v1 [wr .u8 (dN .u32 p0 (wr .i64 (dY 8 v0)))])) 68719476736) (some (Sum.inl (wr .i64 (aj v0 1),dB v1 [wr .u8 (dN .u32 p0 (wr .i64 (dY 8 v0)))]))) none) none) (some (Sum.inr v1))
def OB:dU:=P6.spec Qc [125,126,13,127,128,129,130,131,132,133,134,5,135,124] (fun p v=>vz p v.1 v.2)
def wQ (x0:ax):Option ((List Int)×Int):=af (Hr x0) fun y0 => cnd (ieq y0 0) (some ([],1)) (cnd (band (ile 0 y0) (ile y0 68719476736)) (af (UG x0.kill) fun y1 => af (uS (dB (jR Int 0) (s2u [(UInt8.ofNat 115),(UInt8.ofNat 110),(UInt8.ofNat 97),(UInt8.ofNat 102)])) 1 [x0.accounts,x0.symbols,y1,len x0.orders]) fun y2 => af (mD y2 8 [x0.last,x0.seq,x0.lsn]) fun y3 => af (bD (fun v => wO (len x0.orders) x0.orders v.fst v.snd) LF (0,y3)) fun y4 => af (bD (fun v => wM (len x0.cells) x0.cells v.fst v.snd) LF (0,y4)) fun y5 => af (bD (fun v => wV (len x0.limits) x0.limits v.fst v.snd) LF (0,y5)) fun y6 => af (mD y6 8 x0.caps) fun y7 => af (Pv y7) fun y8 => af (bD (fun v => vz y8 v.fst v.snd) LF (0,y7)) fun y9 => some (y9,0)) none)
noncomputable def Et:Cx:={ P:=PG,ety:=ety,fn:=look [(67,TB),(69,Wx),(68,LD),(70,H6),(71,JJ)],inl:=dR [],lp:=aS [(24,1018,P9),(24,2042,Q7),(24,4090,QN),(24,32762,OB)] }
theorem Yk (p0:Int) (p1:(List aJ)) (v0:Int) (v1:(List Int)):fC Et 900 24 1018 (dK PG 24 1018) RY Sj (p0,p1) (v0,v1)=wO p0 p1 v0 v1:=by kernel_rfl
theorem Ye (p0:Int) (p1:(List aK)) (v0:Int) (v1:(List Int)):fC Et 900 24 2042 (dK PG 24 2042) Sz Sv (p0,p1) (v0,v1)=wM p0 p1 v0 v1:=by kernel_rfl
theorem Yb (p0:Int) (p1:(List dL)) (v0:Int) (v1:(List Int)):fC Et 900 24 4090 (dK PG 24 4090) RJ RN (p0,p1) (v0,v1)=wV p0 p1 v0 v1:=by kernel_rfl
theorem XO (p0:Int) (v0:Int) (v1:(List Int)):fC Et 900 24 32762 (dK PG 24 32762) P6 Qc p0 (v0,v1)=vz p0 v0 v1:=by kernel_rfl
theorem aeK (x0:ax):bP Et 24 [.val .state] [.buf .u8,.int .i64] x0=wQ x0:=by kernel_rfl
def NY:aO:=mkSpec [.val .state] [.buf .u8,.int .i64] true (fun x=>wQ x)
theorem ahG:dI PG 24 NY:=
 have K:CxR Et:=aP.cx (fun _=>rfl) (l:=[(67,TB),(69,Wx),(68,LD),(70,H6),(71,JJ)]) ⟨alG,amJ,agq,acG,afF,trivial⟩
 aH K (aG (l:=[(24,1018,P9),(24,2042,Q7),(24,4090,QN),(24,32762,OB)]) rfl ⟨bF (n:=900) (f:=24) K (by kernel_rfl) (by kernel_rfl) (by kernel_rfl) (by kernel_rfl) (by kernel_rfl) (fun p v r h=>(Yk p.1 p.2 v.1 v.2).trans h),
  bF (n:=900) (f:=24) K (by kernel_rfl) (by kernel_rfl) (by kernel_rfl) (by kernel_rfl) (by kernel_rfl) (fun p v r h=>(Ye p.1 p.2 v.1 v.2).trans h),
  bF (n:=900) (f:=24) K (by kernel_rfl) (by kernel_rfl) (by kernel_rfl) (by kernel_rfl) (by kernel_rfl) (fun p v r h=>(Yb p.1 p.2 v.1 v.2).trans h),
  bF (n:=900) (f:=24) K (by kernel_rfl) (by kernel_rfl) (by kernel_rfl) (by kernel_rfl) (by kernel_rfl) (fun p v r h=>(XO p v.1 v.2).trans h),trivial⟩) (by kernel_rfl) (fun x y h=>(aeK x).trans h) rfl rfl
def aV (x0:(List aF)):Option ((List aF)):=abW (len x0) fun y0 => cnd (beq y0 true) (some []) (cnd (ile (len x0) 68719476736) (some x0) none)
noncomputable def Ik:Cx:={ P:=PG,ety:=ety,fn:=look [],inl:=dR [],lp:=aS [] }
theorem Qv (x0:(List aF)):bP Ik 53 [.ro .file] [.buf .file] x0=aV x0:=by kernel_rfl
def dX:aO:=mkSpec [.ro .file] [.buf .file] false (fun x=>aV x)
theorem oz:dI PG 53 dX:=
 have K:CxR Ik:=aP.cx (fun _=>rfl) (l:=[]) trivial
 aH K (aG (l:=[]) rfl trivial) (by kernel_rfl) (fun x y h=>(Qv x).trans h) rfl rfl
def eF (x0:(List aF)) (x1:Int) (x2:Int):Option ((List aF)):=cnd (band (band (band (ile 0 x1) (ile x1 x2)) (ile x2 (len x0))) (band (ile x2 (len x0)) (ile (len x0) (len x0)))) (cnd (ieq x1 x2) (some x0) (cnd (band (ile 0 x1) (ile x1 (len x0))) (cnd (band (ile 0 x2) (ile x2 (len x0))) (cnd (ile (aj (nti (itn x1)) (len (aA (aN x0 (itn x2)) (itn (aI (len x0) x2))))) (len x0)) (cnd (band (band (ile 0 (nti (nad (itn x1) (itn (len (aA (aN x0 (itn x2)) (itn (aI (len x0) x2)))))))) (ile (nti (nad (itn x1) (itn (len (aA (aN x0 (itn x2)) (itn (aI (len x0) x2))))))) (len x0))) (ile (len x0) (aI (len (fZ x0 (itn x1) (aA (aN x0 (itn x2)) (itn (aI (len x0) x2))))) 0))) (some (aA (aN (fZ (fZ x0 (itn x1) (aA (aN x0 (itn x2)) (itn (aI (len x0) x2)))) (nad 0 (itn (nti (nad (itn x1) (itn (len (aA (aN x0 (itn x2)) (itn (aI (len x0) x2))))))))) (jR aF (itn (aI (len x0) (nti (nad (itn x1) (itn (len (aA (aN x0 (itn x2)) (itn (aI (len x0) x2))))))))))) 0) (nad (itn x1) (itn (len (aA (aN x0 (itn x2)) (itn (aI (len x0) x2)))))))) none) none) none) none)) none
noncomputable def FW:Cx:={ P:=PG,ety:=ety,fn:=look [],inl:=dR [],lp:=aS [] }
theorem OV (x0:(List aF)) (x1:Int) (x2:Int):bP FW 82 [.buf .file,.int .i64,.int .i64] [.ro .file] (x0,x1,x2)=eF x0 x1 x2:=by kernel_rfl
def uO:aO:=mkSpec [.buf .file,.int .i64,.int .i64] [.ro .file] false (fun x=>eF x.1 x.2.1 x.2.2)
theorem Rw:dI PG 82 uO:=
 have K:CxR FW:=aP.cx (fun _=>rfl) (l:=[]) trivial
 aH K (aG (l:=[]) rfl trivial) (by kernel_rfl) (fun x y h=>(OV x.1 x.2.1 x.2.2).trans h) rfl rfl
def uP (x0:au) (x1:(List UInt8)):Option (au×Int):=af (jK x0 [x1]) fun y0 => cnd (ay (ieq y0 0)) (cnd (ay (ieq y0 0)) (some (x0,y0)) (cnd (ieq x0.fuse 0) (some (au.mk x0.files x0.room x0.fuse true,9)) (cnd (ieq x0.fuse (-1)) (af (aV x0.files) fun y1 => af (eF y1 0 1) fun y2 => some (au.mk y2 x0.room x0.fuse x0.down,0)) (af (aV x0.files) fun y3 => af (eF y3 0 1) fun y4 => some (au.mk y4 x0.room (wr .i64 (aI x0.fuse 1)) x0.down,0))))) (af (eH x0 x1) fun y5 => cnd (ay y5.snd) (some (x0,7)) (cnd (ieq x0.fuse 0) (some (au.mk x0.files x0.room x0.fuse true,9)) (cnd (ieq x0.fuse (-1)) (af (aV x0.files) fun y6 => af (eF y6 y5.fst (wr .i64 (aj y5.fst 1))) fun y7 => some (au.mk y7 x0.room x0.fuse x0.down,0)) (af (aV x0.files) fun y8 => af (eF y8 y5.fst (wr .i64 (aj y5.fst 1))) fun y9 => some (au.mk y9 x0.room (wr .i64 (aI x0.fuse 1)) x0.down,0)))))
noncomputable def ZT:Cx:={ P:=PG,ety:=ety,fn:=look [(76,jo),(77,jM),(53,dX),(82,uO)],inl:=dR [55,81],lp:=aS [] }
theorem ac2 (x0:au) (x1:(List UInt8)):bP ZT 75 [.val .disk,.str] [.val .disk,.int .i64] (x0,x1)=uP x0 x1:=by kernel_rfl
def LY:aO:=mkSpec [.val .disk,.str] [.val .disk,.int .i64] false (fun x=>uP x.1 x.2)
theorem afx:dI PG 75 LY:=
 have K:CxR ZT:=aP.cx (fun _=>rfl) (l:=[(76,jo),(77,jM),(53,dX),(82,uO)]) ⟨Bv,Ep,oz,Rw,trivial⟩
 aH K (aG (l:=[]) rfl trivial) (by kernel_rfl) (fun x y h=>(ac2 x.1 x.2).trans h) rfl rfl
def YU:LSh:=⟨72,[(8,.int .i64),(7,.ro .file)],[],[],[(9,.int .i64),(3,.int .i64)],[],[]⟩
@[reducible] def Yf:List fO:=[⟨.exit 0,[(3,.int .i64)],[],[]⟩]
def yQ (p0:Int) (p1:(List aF)) (v0:Int) (v1:Int):Option ((Int×Int) ⊕ ((Int))):=cnd (ilt v0 p0) (cnd (band (ile 0 v0) (ilt v0 (len p1))) (some (Sum.inl (wr .i64 (aj v0 1),wr .i64 (aj v1 (len (ai p1 (itn v0)).data))))) none) (some (Sum.inr v1))
def Xg:dU:=YU.spec Yf [10,11,12,5,13,14,15,16,17,3,18,9] (fun p v=>yQ p.1 p.2 v.1 v.2)
def IG (x0:au):Option (Int):=af (bD (fun v => yQ (len x0.files) x0.files v.fst v.snd) LF (0,0)) fun y0 => some y0
noncomputable def YT:Cx:={ P:=PG,ety:=ety,fn:=look [],inl:=dR [],lp:=aS [(78,58,Xg)] }
theorem acg (p0:Int) (p1:(List aF)) (v0:Int) (v1:Int):fC YT 900 78 58 (dK PG 78 58) YU Yf (p0,p1) (v0,v1)=yQ p0 p1 v0 v1:=by kernel_rfl
theorem agu (x0:au):bP YT 78 [.val .disk] [.int .i64] x0=IG x0:=by kernel_rfl
def QM:aO:=mkSpec [.val .disk] [.int .i64] true (fun x=>IG x)
theorem ajt:dI PG 78 QM:=
 have K:CxR YT:=aP.cx (fun _=>rfl) (l:=[]) trivial
 aH K (aG (l:=[(78,58,Xg)]) rfl ⟨bF (n:=900) (f:=78) K (by kernel_rfl) (by kernel_rfl) (by kernel_rfl) (by kernel_rfl) (by kernel_rfl) (fun p v r h=>(acg p.1 p.2 v.1 v.2).trans h),trivial⟩) (by kernel_rfl) (fun x y h=>(agu x).trans h) rfl rfl
def bQ (x0:(List aF)) (x1:Int) (x2:(List aF)):Option ((List aF)):=match x2 with | [n]=>cnd (band (ile 0 x1) (band (ile x1 (len x0)) (ile (aj (len x0) 1) 68719476736))) (some (dB (aA x0 (itn x1)) (n::aN x0 (itn x1)))) none | _=>none
noncomputable def TN:Cx:={ P:=PG,ety:=ety,fn:=look [],inl:=dR [],lp:=aS [] }
def lC:aO:=Vr .file (fun x=>bQ x.1 x.2.1 x.2.2)
theorem EO:dI PG 79 lC:=
 have K:CxR TN:=aP.cx (fun _=>rfl) (l:=[]) trivial
 apk K 79 (at6 PG 79) (at6 PG ((N7 (at6 PG 79)).f 29)) (by kernel_rfl) (by kernel_rfl) (by kernel_rfl) (by kernel_rfl) (by kernel_rfl) (e:= .file) (by kernel_rfl) (by kernel_rfl) (by kernel_rfl) (by kernel_rfl) (by kernel_rfl) (by kernel_rfl) rfl (fun x y h=>by obtain⟨l,k,xs⟩:=x;match xs,h with | [],h=>exact h | [_],h=>exact h | _::_::_,h=>exact h)
def IA:LSh:=⟨70,[(10,.int .i64),(9,.ro .bts)],[],[],[(11,.int .i64),(3,.int .i64)],[],[]⟩
@[reducible] def H7:List fO:=[⟨.exit 0,[(3,.int .i64)],[],[]⟩]
def lJ (p0:Int) (p1:(List Va)) (v0:Int) (v1:Int):Option ((Int×Int) ⊕ ((Int))):=cnd (ilt v0 p0) (cnd (band (ile 0 v0) (ilt v0 (len p1))) (cnd (ilt (wr .i64 (aj v1 (len (ai p1 (itn v0)).all))) 0) none (some (Sum.inl (wr .i64 (aj v0 1),wr .i64 (aj v1 (len (ai p1 (itn v0)).all)))))) none) (some (Sum.inr v1))
def Gv:dU:=IA.spec H7 [12,13,14,5,15,16,17,18,3,19,20,21,22,11] (fun p v=>lJ p.1 p.2 v.1 v.2)
def FU:LSh:=⟨169,[(26,.int .i64),(25,.ro .bts)],[],[],[(27,.int .i64),(6,.buf .u8)],[],[]⟩
@[reducible] def GX:List fO:=[⟨.exit 2,[(6,.buf .u8)],[],[]⟩]
def jB (p0:Int) (p1:(List Va)) (v0:Int) (v1:(List Int)):Option ((Int×(List Int)) ⊕ (((List Int)))):=cnd (ilt v0 p0) (cnd (band (ile 0 v0) (ilt v0 (len p1))) (cnd (ile (len (dB v1 (ai p1 (itn v0)).all)) 68719476736) (some (Sum.inl (wr .i64 (aj v0 1),dB v1 (ai p1 (itn v0)).all))) none) none) (some (Sum.inr v1))
def E5:dU:=FU.spec GX [28,29,30,8,31,32,33,6,34,27] (fun p v=>jB p.1 p.2 v.1 v.2)
def jX (x0:(List Va)):Option ((List Int)):=af (bD (fun v => lJ (len x0) x0 v.fst v.snd) LF (0,0)) fun y0 => cnd (ilt y0 0) none (cnd (ilt 0 (wr .i64 (aI y0 0))) (cnd (band (ilt 0 (wr .i64 (aI y0 0))) (ile (wr .i64 (aI y0 0)) 68719476736)) (cnd (ile 0 (len (jR Int (itn (wr .i64 (aI y0 0)))))) (af (bD (fun v => jB (len x0) x0 v.fst v.snd) LF (0,aA (jR Int (itn (wr .i64 (aI y0 0)))) 0)) fun y1 => some y1) none) none) (af (bD (fun v => jB (len x0) x0 v.fst v.snd) LF (0,[])) fun y2 => some y2))
noncomputable def wS:Cx:={ P:=PG,ety:=ety,fn:=look [],inl:=dR [155],lp:=aS [(80,58,Gv),(80,250,E5)] }
theorem PU (p0:Int) (p1:(List Va)) (v0:Int) (v1:Int):fC wS 900 80 58 (dK PG 80 58) IA H7 (p0,p1) (v0,v1)=lJ p0 p1 v0 v1:=by kernel_rfl
theorem Pe (p0:Int) (p1:(List Va)) (v0:Int) (v1:(List Int)):fC wS 900 80 250 (dK PG 80 250) FU GX (p0,p1) (v0,v1)=jB p0 p1 v0 v1:=by kernel_rfl
theorem Uj (x0:(List Va)):bP wS 80 [.ro .bts] [.buf .u8] x0=jX x0:=by kernel_rfl
def yM:aO:=mkSpec [.ro .bts] [.buf .u8] true (fun x=>jX x)
theorem Xi:dI PG 80 yM:=
 have K:CxR wS:=aP.cx (fun _=>rfl) (l:=[]) trivial
 aH K (aG (l:=[(80,58,Gv),(80,250,E5)]) rfl ⟨bF (n:=900) (f:=80) K (by kernel_rfl) (by kernel_rfl) (by kernel_rfl) (by kernel_rfl) (by kernel_rfl) (fun p v r h=>(PU p.1 p.2 v.1 v.2).trans h),
  bF (n:=900) (f:=80) K (by kernel_rfl) (by kernel_rfl) (by kernel_rfl) (by kernel_rfl) (by kernel_rfl) (fun p v r h=>(Pe p.1 p.2 v.1 v.2).trans h),trivial⟩) (by kernel_rfl) (fun x y h=>(Uj x).trans h) rfl rfl
def jD (x0:au) (x1:(List UInt8)) (x2:(List Int)):Option (au×Int):=af (jK x0 [x1]) fun y0 => cnd (ay (ieq y0 0)) (some (x0,y0)) (af (eH x0 x1) fun y1 => af (IG x0) fun y2 => cnd (bor (ilt (wr .i64 (aI x0.room y2)) (len x2)) (band (ay y1.snd) (ieq (len x0.files) 64))) (some (x0,6)) (af (aV x0.files) fun y3 => cnd (ay y1.snd) (af (bQ y3 y1.fst [aF.mk x1 [] 0]) fun y4 => cnd (band (ile 0 y1.fst) (ilt y1.fst (len y4))) (af (jX [Va.mk (ai y4 (itn y1.fst)).data,Va.mk x2]) fun y5 => cnd (band (ile 0 y1.fst) (ilt y1.fst (len y4))) (cnd (ieq x0.fuse 0) (some (au.mk (bT y4 (itn y1.fst) (aF.mk (ai y4 (itn y1.fst)).name y5 (ai y4 (itn y1.fst)).sure)) x0.room x0.fuse true,9)) (cnd (ieq x0.fuse (-1)) (some (au.mk (bT y4 (itn y1.fst) (aF.mk (ai y4 (itn y1.fst)).name y5 (ai y4 (itn y1.fst)).sure)) x0.room x0.fuse x0.down,0)) (some (au.mk (bT y4 (itn y1.fst) (aF.mk (ai y4 (itn y1.fst)).name y5 (ai y4 (itn y1.fst)).sure)) x0.room (wr .i64 (aI x0.fuse 1)) x0.down,0)))) none) none) (cnd (band (ile 0 y1.fst) (ilt y1.fst (len y3))) (af (jX [Va.mk (ai y3 (itn y1.fst)).data,Va.mk x2]) fun y6 => cnd (band (ile 0 y1.fst) (ilt y1.fst (len y3))) (cnd (ieq x0.fuse 0) (some (au.mk (bT y3 (itn y1.fst) (aF.mk (ai y3 (itn y1.fst)).name y6 (ai y3 (itn y1.fst)).sure)) x0.room x0.fuse true,9)) (cnd (ieq x0.fuse (-1)) (some (au.mk (bT y3 (itn y1.fst) (aF.mk (ai y3 (itn y1.fst)).name y6 (ai y3 (itn y1.fst)).sure)) x0.room x0.fuse x0.down,0)) (some (au.mk (bT y3 (itn y1.fst) (aF.mk (ai y3 (itn y1.fst)).name y6 (ai y3 (itn y1.fst)).sure)) x0.room (wr .i64 (aI x0.fuse 1)) x0.down,0)))) none) none)))
noncomputable def ZN:Cx:={ P:=PG,ety:=ety,fn:=look [(76,jo),(77,jM),(78,QM),(53,dX),(79,lC),(80,yM)],inl:=dR [81],lp:=aS [] }
theorem adC (x0:au) (x1:(List UInt8)) (x2:(List Int)):bP ZN 29 [.val .disk,.str,.ro .u8] [.val .disk,.int .i64] (x0,x1,x2)=jD x0 x1 x2:=by kernel_rfl
def yU:aO:=mkSpec [.val .disk,.str,.ro .u8] [.val .disk,.int .i64] false (fun x=>jD x.1 x.2.1 x.2.2)
theorem YM:dI PG 29 yU:=
 have K:CxR ZN:=aP.cx (fun _=>rfl) (l:=[(76,jo),(77,jM),(78,QM),(53,dX),(79,lC),(80,yM)]) ⟨Bv,Ep,ajt,oz,EO,Xi,trivial⟩
 aH K (aG (l:=[]) rfl trivial) (by kernel_rfl) (fun x y h=>(adC x.1 x.2.1 x.2.2).trans h) rfl rfl
def kX (x0:au) (x1:(List UInt8)):Option (au×Int):=af (jK x0 [x1]) fun y0 => cnd (ay (ieq y0 0)) (cnd (ay (ieq y0 0)) (some (x0,y0)) (cnd (ieq x0.fuse 0) (some (au.mk x0.files x0.room x0.fuse true,9)) (cnd (ieq x0.fuse (-1)) (af (aV x0.files) fun y1 => cnd (ilt 0 (len y1)) (cnd (ilt 0 (len y1)) (some (au.mk (bT y1 0 (aF.mk (ai y1 0).name (ai y1 0).data (len (ai y1 0).data))) x0.room x0.fuse x0.down,0)) none) none) (af (aV x0.files) fun y2 => cnd (ilt 0 (len y2)) (cnd (ilt 0 (len y2)) (some (au.mk (bT y2 0 (aF.mk (ai y2 0).name (ai y2 0).data (len (ai y2 0).data))) x0.room (wr .i64 (aI x0.fuse 1)) x0.down,0)) none) none)))) (af (eH x0 x1) fun y3 => cnd (ay y3.snd) (some (x0,7)) (cnd (ieq x0.fuse 0) (some (au.mk x0.files x0.room x0.fuse true,9)) (cnd (ieq x0.fuse (-1)) (af (aV x0.files) fun y4 => cnd (band (ile 0 y3.fst) (ilt y3.fst (len y4))) (cnd (band (ile 0 y3.fst) (ilt y3.fst (len y4))) (some (au.mk (bT y4 (itn y3.fst) (aF.mk (ai y4 (itn y3.fst)).name (ai y4 (itn y3.fst)).data (len (ai y4 (itn y3.fst)).data))) x0.room x0.fuse x0.down,0)) none) none) (af (aV x0.files) fun y5 => cnd (band (ile 0 y3.fst) (ilt y3.fst (len y5))) (cnd (band (ile 0 y3.fst) (ilt y3.fst (len y5))) (some (au.mk (bT y5 (itn y3.fst) (aF.mk (ai y5 (itn y3.fst)).name (ai y5 (itn y3.fst)).data (len (ai y5 (itn y3.fst)).data))) x0.room (wr .i64 (aI x0.fuse 1)) x0.down,0)) none) none))))
noncomputable def ad1:Cx:={ P:=PG,ety:=ety,fn:=look [(76,jo),(77,jM),(53,dX)],inl:=dR [55,81],lp:=aS [] }
theorem agY (x0:au) (x1:(List UInt8)):bP ad1 31 [.val .disk,.str] [.val .disk,.int .i64] (x0,x1)=kX x0 x1:=by kernel_rfl
def Eh:aO:=mkSpec [.val .disk,.str] [.val .disk,.int .i64] false (fun x=>kX x.1 x.2)
theorem ab4:dI PG 31 Eh:=
 have K:CxR ad1:=aP.cx (fun _=>rfl) (l:=[(76,jo),(77,jM),(53,dX)]) ⟨Bv,Ep,oz,trivial⟩
 aH K (aG (l:=[]) rfl trivial) (by kernel_rfl) (fun x y h=>(agY x.1 x.2).trans h) rfl rfl
def mF (x0:au) (x1:(List UInt8)) (x2:(List UInt8)):Option (au×Int):=cnd (ile (len (dB [x2] [x1])) 68719476736) (af (jK x0 (dB [x2] [x1])) fun y0 => cnd (ay (ieq y0 0)) (cnd (ay (ieq y0 0)) (some (x0,y0)) (cnd (ieq x0.fuse 0) (some (au.mk x0.files x0.room x0.fuse true,9)) (cnd (ieq x0.fuse (-1)) (cnd (ilt 0 (len x0.files)) (af (aV x0.files) fun y1 => cnd (band (ile 1 (len y1)) (band (ile 1 (len y1)) (ile (len y1) (len y1)))) (cnd (ile 0 (len y1)) (cnd (ile 1 (len y1)) (cnd (ile (aj 0 (len (aA (aN y1 1) (itn (aI (len y1) 1))))) (len y1)) (cnd (band (band (ile 0 (nti (nad 0 (itn (len (aA (aN y1 1) (itn (aI (len y1) 1)))))))) (ile (nti (nad 0 (itn (len (aA (aN y1 1) (itn (aI (len y1) 1))))))) (len y1))) (ile (len y1) (aI (len (fZ y1 0 (aA (aN y1 1) (itn (aI (len y1) 1))))) 0))) (af (eH (au.mk (aA (fZ (fZ y1 0 (aA (aN y1 1) (itn (aI (len y1) 1)))) (nad 0 (itn (nti (nad 0 (itn (len (aA (aN y1 1) (itn (aI (len y1) 1))))))))) (jR aF (itn (aI (len y1) (nti (nad 0 (itn (len (aA (aN y1 1) (itn (aI (len y1) 1))))))))))) (nad 0 (itn (len (aA (aN y1 1) (itn (aI (len y1) 1))))))) x0.room x0.fuse x0.down) x2) fun y2 => cnd y2.snd (cnd (band (ile 0 y2.fst) (ilt y2.fst (len (aA (fZ (fZ y1 0 (aA (aN y1 1) (itn (aI (len y1) 1)))) (nad 0 (itn (nti (nad 0 (itn (len (aA (aN y1 1) (itn (aI (len y1) 1))))))))) (jR aF (itn (aI (len y1) (nti (nad 0 (itn (len (aA (aN y1 1) (itn (aI (len y1) 1))))))))))) (nad 0 (itn (len (aA (aN y1 1) (itn (aI (len y1) 1)))))))))) (some (au.mk (bT (aA (fZ (fZ y1 0 (aA (aN y1 1) (itn (aI (len y1) 1)))) (nad 0 (itn (nti (nad 0 (itn (len (aA (aN y1 1) (itn (aI (len y1) 1))))))))) (jR aF (itn (aI (len y1) (nti (nad 0 (itn (len (aA (aN y1 1) (itn (aI (len y1) 1))))))))))) (nad 0 (itn (len (aA (aN y1 1) (itn (aI (len y1) 1))))))) (itn y2.fst) (aF.mk x2 (ai x0.files 0).data (ai x0.files 0).sure)) x0.room x0.fuse x0.down,0)) none) (af (bQ (aA (fZ (fZ y1 0 (aA (aN y1 1) (itn (aI (len y1) 1)))) (nad 0 (itn (nti (nad 0 (itn (len (aA (aN y1 1) (itn (aI (len y1) 1))))))))) (jR aF (itn (aI (len y1) (nti (nad 0 (itn (len (aA (aN y1 1) (itn (aI (len y1) 1))))))))))) (nad 0 (itn (len (aA (aN y1 1) (itn (aI (len y1) 1))))))) y2.fst [aF.mk x2 (ai x0.files 0).data (ai x0.files 0).sure]) fun y3 => some (au.mk y3 x0.room x0.fuse x0.down,0))) none) none) none) none) none) none) (cnd (ilt 0 (len x0.files)) (af (aV x0.files) fun y4 => cnd (band (ile 1 (len y4)) (band (ile 1 (len y4)) (ile (len y4) (len y4)))) (cnd (ile 0 (len y4)) (cnd (ile 1 (len y4)) (cnd (ile (aj 0 (len (aA (aN y4 1) (itn (aI (len y4) 1))))) (len y4)) (cnd (band (band (ile 0 (nti (nad 0 (itn (len (aA (aN y4 1) (itn (aI (len y4) 1)))))))) (ile (nti (nad 0 (itn (len (aA (aN y4 1) (itn (aI (len y4) 1))))))) (len y4))) (ile (len y4) (aI (len (fZ y4 0 (aA (aN y4 1) (itn (aI (len y4) 1))))) 0))) (af (eH (au.mk (aA (fZ (fZ y4 0 (aA (aN y4 1) (itn (aI (len y4) 1)))) (nad 0 (itn (nti (nad 0 (itn (len (aA (aN y4 1) (itn (aI (len y4) 1))))))))) (jR aF (itn (aI (len y4) (nti (nad 0 (itn (len (aA (aN y4 1) (itn (aI (len y4) 1))))))))))) (nad 0 (itn (len (aA (aN y4 1) (itn (aI (len y4) 1))))))) x0.room (wr .i64 (aI x0.fuse 1)) x0.down) x2) fun y5 => cnd y5.snd (cnd (band (ile 0 y5.fst) (ilt y5.fst (len (aA (fZ (fZ y4 0 (aA (aN y4 1) (itn (aI (len y4) 1)))) (nad 0 (itn (nti (nad 0 (itn (len (aA (aN y4 1) (itn (aI (len y4) 1))))))))) (jR aF (itn (aI (len y4) (nti (nad 0 (itn (len (aA (aN y4 1) (itn (aI (len y4) 1))))))))))) (nad 0 (itn (len (aA (aN y4 1) (itn (aI (len y4) 1)))))))))) (some (au.mk (bT (aA (fZ (fZ y4 0 (aA (aN y4 1) (itn (aI (len y4) 1)))) (nad 0 (itn (nti (nad 0 (itn (len (aA (aN y4 1) (itn (aI (len y4) 1))))))))) (jR aF (itn (aI (len y4) (nti (nad 0 (itn (len (aA (aN y4 1) (itn (aI (len y4) 1))))))))))) (nad 0 (itn (len (aA (aN y4 1) (itn (aI (len y4) 1))))))) (itn y5.fst) (aF.mk x2 (ai x0.files 0).data (ai x0.files 0).sure)) x0.room (wr .i64 (aI x0.fuse 1)) x0.down,0)) none) (af (bQ (aA (fZ (fZ y4 0 (aA (aN y4 1) (itn (aI (len y4) 1)))) (nad 0 (itn (nti (nad 0 (itn (len (aA (aN y4 1) (itn (aI (len y4) 1))))))))) (jR aF (itn (aI (len y4) (nti (nad 0 (itn (len (aA (aN y4 1) (itn (aI (len y4) 1))))))))))) (nad 0 (itn (len (aA (aN y4 1) (itn (aI (len y4) 1))))))) y5.fst [aF.mk x2 (ai x0.files 0).data (ai x0.files 0).sure]) fun y6 => some (au.mk y6 x0.room (wr .i64 (aI x0.fuse 1)) x0.down,0))) none) none) none) none) none) none)))) (af (eH x0 x1) fun y7 => cnd (ay y7.snd) (some (x0,7)) (cnd (ieq x0.fuse 0) (some (au.mk x0.files x0.room x0.fuse true,9)) (cnd (ieq x0.fuse (-1)) (cnd (band (ile 0 y7.fst) (ilt y7.fst (len x0.files))) (af (aV x0.files) fun y8 => cnd (band (band (band (ile 0 y7.fst) (ile y7.fst (wr .i64 (aj y7.fst 1)))) (ile (wr .i64 (aj y7.fst 1)) (len y8))) (band (ile (wr .i64 (aj y7.fst 1)) (len y8)) (ile (len y8) (len y8)))) (cnd (ieq y7.fst (wr .i64 (aj y7.fst 1))) (af (eH (au.mk y8 x0.room x0.fuse x0.down) x2) fun y9 => cnd y9.snd (cnd (band (ile 0 y9.fst) (ilt y9.fst (len y8))) (some (au.mk (bT y8 (itn y9.fst) (aF.mk x2 (ai x0.files (itn y7.fst)).data (ai x0.files (itn y7.fst)).sure)) x0.room x0.fuse x0.down,0)) none) (af (bQ y8 y9.fst [aF.mk x2 (ai x0.files (itn y7.fst)).data (ai x0.files (itn y7.fst)).sure]) fun y10 => some (au.mk y10 x0.room x0.fuse x0.down,0))) (cnd (band (ile 0 y7.fst) (ile y7.fst (len y8))) (cnd (band (ile 0 (wr .i64 (aj y7.fst 1))) (ile (wr .i64 (aj y7.fst 1)) (len y8))) (cnd (ile (aj (nti (itn y7.fst)) (len (aA (aN y8 (itn (wr .i64 (aj y7.fst 1)))) (itn (aI (len y8) (wr .i64 (aj y7.fst 1))))))) (len y8)) (cnd (band (band (ile 0 (nti (nad (itn y7.fst) (itn (len (aA (aN y8 (itn (wr .i64 (aj y7.fst 1)))) (itn (aI (len y8) (wr .i64 (aj y7.fst 1)))))))))) (ile (nti (nad (itn y7.fst) (itn (len (aA (aN y8 (itn (wr .i64 (aj y7.fst 1)))) (itn (aI (len y8) (wr .i64 (aj y7.fst 1))))))))) (len y8))) (ile (len y8) (aI (len (fZ y8 (itn y7.fst) (aA (aN y8 (itn (wr .i64 (aj y7.fst 1)))) (itn (aI (len y8) (wr .i64 (aj y7.fst 1))))))) 0))) (af (eH (au.mk (aA (fZ (fZ y8 (itn y7.fst) (aA (aN y8 (itn (wr .i64 (aj y7.fst 1)))) (itn (aI (len y8) (wr .i64 (aj y7.fst 1)))))) (nad 0 (itn (nti (nad (itn y7.fst) (itn (len (aA (aN y8 (itn (wr .i64 (aj y7.fst 1)))) (itn (aI (len y8) (wr .i64 (aj y7.fst 1))))))))))) (jR aF (itn (aI (len y8) (nti (nad (itn y7.fst) (itn (len (aA (aN y8 (itn (wr .i64 (aj y7.fst 1)))) (itn (aI (len y8) (wr .i64 (aj y7.fst 1))))))))))))) (nad (itn y7.fst) (itn (len (aA (aN y8 (itn (wr .i64 (aj y7.fst 1)))) (itn (aI (len y8) (wr .i64 (aj y7.fst 1))))))))) x0.room x0.fuse x0.down) x2) fun y11 => cnd y11.snd (cnd (band (ile 0 y11.fst) (ilt y11.fst (len (aA (fZ (fZ y8 (itn y7.fst) (aA (aN y8 (itn (wr .i64 (aj y7.fst 1)))) (itn (aI (len y8) (wr .i64 (aj y7.fst 1)))))) (nad 0 (itn (nti (nad (itn y7.fst) (itn (len (aA (aN y8 (itn (wr .i64 (aj y7.fst 1)))) (itn (aI (len y8) (wr .i64 (aj y7.fst 1))))))))))) (jR aF (itn (aI (len y8) (nti (nad (itn y7.fst) (itn (len (aA (aN y8 (itn (wr .i64 (aj y7.fst 1)))) (itn (aI (len y8) (wr .i64 (aj y7.fst 1))))))))))))) (nad (itn y7.fst) (itn (len (aA (aN y8 (itn (wr .i64 (aj y7.fst 1)))) (itn (aI (len y8) (wr .i64 (aj y7.fst 1)))))))))))) (some (au.mk (bT (aA (fZ (fZ y8 (itn y7.fst) (aA (aN y8 (itn (wr .i64 (aj y7.fst 1)))) (itn (aI (len y8) (wr .i64 (aj y7.fst 1)))))) (nad 0 (itn (nti (nad (itn y7.fst) (itn (len (aA (aN y8 (itn (wr .i64 (aj y7.fst 1)))) (itn (aI (len y8) (wr .i64 (aj y7.fst 1))))))))))) (jR aF (itn (aI (len y8) (nti (nad (itn y7.fst) (itn (len (aA (aN y8 (itn (wr .i64 (aj y7.fst 1)))) (itn (aI (len y8) (wr .i64 (aj y7.fst 1))))))))))))) (nad (itn y7.fst) (itn (len (aA (aN y8 (itn (wr .i64 (aj y7.fst 1)))) (itn (aI (len y8) (wr .i64 (aj y7.fst 1))))))))) (itn y11.fst) (aF.mk x2 (ai x0.files (itn y7.fst)).data (ai x0.files (itn y7.fst)).sure)) x0.room x0.fuse x0.down,0)) none) (af (bQ (aA (fZ (fZ y8 (itn y7.fst) (aA (aN y8 (itn (wr .i64 (aj y7.fst 1)))) (itn (aI (len y8) (wr .i64 (aj y7.fst 1)))))) (nad 0 (itn (nti (nad (itn y7.fst) (itn (len (aA (aN y8 (itn (wr .i64 (aj y7.fst 1)))) (itn (aI (len y8) (wr .i64 (aj y7.fst 1))))))))))) (jR aF (itn (aI (len y8) (nti (nad (itn y7.fst) (itn (len (aA (aN y8 (itn (wr .i64 (aj y7.fst 1)))) (itn (aI (len y8) (wr .i64 (aj y7.fst 1))))))))))))) (nad (itn y7.fst) (itn (len (aA (aN y8 (itn (wr .i64 (aj y7.fst 1)))) (itn (aI (len y8) (wr .i64 (aj y7.fst 1))))))))) y11.fst [aF.mk x2 (ai x0.files (itn y7.fst)).data (ai x0.files (itn y7.fst)).sure]) fun y12 => some (au.mk y12 x0.room x0.fuse x0.down,0))) none) none) none) none)) none) none) (cnd (band (ile 0 y7.fst) (ilt y7.fst (len x0.files))) (af (aV x0.files) fun y13 => cnd (band (band (band (ile 0 y7.fst) (ile y7.fst (wr .i64 (aj y7.fst 1)))) (ile (wr .i64 (aj y7.fst 1)) (len y13))) (band (ile (wr .i64 (aj y7.fst 1)) (len y13)) (ile (len y13) (len y13)))) (cnd (ieq y7.fst (wr .i64 (aj y7.fst 1))) (af (eH (au.mk y13 x0.room (wr .i64 (aI x0.fuse 1)) x0.down) x2) fun y14 => cnd y14.snd (cnd (band (ile 0 y14.fst) (ilt y14.fst (len y13))) (some (au.mk (bT y13 (itn y14.fst) (aF.mk x2 (ai x0.files (itn y7.fst)).data (ai x0.files (itn y7.fst)).sure)) x0.room (wr .i64 (aI x0.fuse 1)) x0.down,0)) none) (af (bQ y13 y14.fst [aF.mk x2 (ai x0.files (itn y7.fst)).data (ai x0.files (itn y7.fst)).sure]) fun y15 => some (au.mk y15 x0.room (wr .i64 (aI x0.fuse 1)) x0.down,0))) (cnd (band (ile 0 y7.fst) (ile y7.fst (len y13))) (cnd (band (ile 0 (wr .i64 (aj y7.fst 1))) (ile (wr .i64 (aj y7.fst 1)) (len y13))) (cnd (ile (aj (nti (itn y7.fst)) (len (aA (aN y13 (itn (wr .i64 (aj y7.fst 1)))) (itn (aI (len y13) (wr .i64 (aj y7.fst 1))))))) (len y13)) (cnd (band (band (ile 0 (nti (nad (itn y7.fst) (itn (len (aA (aN y13 (itn (wr .i64 (aj y7.fst 1)))) (itn (aI (len y13) (wr .i64 (aj y7.fst 1)))))))))) (ile (nti (nad (itn y7.fst) (itn (len (aA (aN y13 (itn (wr .i64 (aj y7.fst 1)))) (itn (aI (len y13) (wr .i64 (aj y7.fst 1))))))))) (len y13))) (ile (len y13) (aI (len (fZ y13 (itn y7.fst) (aA (aN y13 (itn (wr .i64 (aj y7.fst 1)))) (itn (aI (len y13) (wr .i64 (aj y7.fst 1))))))) 0))) (af (eH (au.mk (aA (fZ (fZ y13 (itn y7.fst) (aA (aN y13 (itn (wr .i64 (aj y7.fst 1)))) (itn (aI (len y13) (wr .i64 (aj y7.fst 1)))))) (nad 0 (itn (nti (nad (itn y7.fst) (itn (len (aA (aN y13 (itn (wr .i64 (aj y7.fst 1)))) (itn (aI (len y13) (wr .i64 (aj y7.fst 1))))))))))) (jR aF (itn (aI (len y13) (nti (nad (itn y7.fst) (itn (len (aA (aN y13 (itn (wr .i64 (aj y7.fst 1)))) (itn (aI (len y13) (wr .i64 (aj y7.fst 1))))))))))))) (nad (itn y7.fst) (itn (len (aA (aN y13 (itn (wr .i64 (aj y7.fst 1)))) (itn (aI (len y13) (wr .i64 (aj y7.fst 1))))))))) x0.room (wr .i64 (aI x0.fuse 1)) x0.down) x2) fun y16 => cnd y16.snd (cnd (band (ile 0 y16.fst) (ilt y16.fst (len (aA (fZ (fZ y13 (itn y7.fst) (aA (aN y13 (itn (wr .i64 (aj y7.fst 1)))) (itn (aI (len y13) (wr .i64 (aj y7.fst 1)))))) (nad 0 (itn (nti (nad (itn y7.fst) (itn (len (aA (aN y13 (itn (wr .i64 (aj y7.fst 1)))) (itn (aI (len y13) (wr .i64 (aj y7.fst 1))))))))))) (jR aF (itn (aI (len y13) (nti (nad (itn y7.fst) (itn (len (aA (aN y13 (itn (wr .i64 (aj y7.fst 1)))) (itn (aI (len y13) (wr .i64 (aj y7.fst 1))))))))))))) (nad (itn y7.fst) (itn (len (aA (aN y13 (itn (wr .i64 (aj y7.fst 1)))) (itn (aI (len y13) (wr .i64 (aj y7.fst 1)))))))))))) (some (au.mk (bT (aA (fZ (fZ y13 (itn y7.fst) (aA (aN y13 (itn (wr .i64 (aj y7.fst 1)))) (itn (aI (len y13) (wr .i64 (aj y7.fst 1)))))) (nad 0 (itn (nti (nad (itn y7.fst) (itn (len (aA (aN y13 (itn (wr .i64 (aj y7.fst 1)))) (itn (aI (len y13) (wr .i64 (aj y7.fst 1))))))))))) (jR aF (itn (aI (len y13) (nti (nad (itn y7.fst) (itn (len (aA (aN y13 (itn (wr .i64 (aj y7.fst 1)))) (itn (aI (len y13) (wr .i64 (aj y7.fst 1))))))))))))) (nad (itn y7.fst) (itn (len (aA (aN y13 (itn (wr .i64 (aj y7.fst 1)))) (itn (aI (len y13) (wr .i64 (aj y7.fst 1))))))))) (itn y16.fst) (aF.mk x2 (ai x0.files (itn y7.fst)).data (ai x0.files (itn y7.fst)).sure)) x0.room (wr .i64 (aI x0.fuse 1)) x0.down,0)) none) (af (bQ (aA (fZ (fZ y13 (itn y7.fst) (aA (aN y13 (itn (wr .i64 (aj y7.fst 1)))) (itn (aI (len y13) (wr .i64 (aj y7.fst 1)))))) (nad 0 (itn (nti (nad (itn y7.fst) (itn (len (aA (aN y13 (itn (wr .i64 (aj y7.fst 1)))) (itn (aI (len y13) (wr .i64 (aj y7.fst 1))))))))))) (jR aF (itn (aI (len y13) (nti (nad (itn y7.fst) (itn (len (aA (aN y13 (itn (wr .i64 (aj y7.fst 1)))) (itn (aI (len y13) (wr .i64 (aj y7.fst 1))))))))))))) (nad (itn y7.fst) (itn (len (aA (aN y13 (itn (wr .i64 (aj y7.fst 1)))) (itn (aI (len y13) (wr .i64 (aj y7.fst 1))))))))) y16.fst [aF.mk x2 (ai x0.files (itn y7.fst)).data (ai x0.files (itn y7.fst)).sure]) fun y17 => some (au.mk y17 x0.room (wr .i64 (aI x0.fuse 1)) x0.down,0))) none) none) none) none)) none) none))))) none
noncomputable def aae:Cx:={ P:=PG,ety:=ety,fn:=look [(76,jo),(77,jM),(53,dX),(79,lC)],inl:=dR [55,81,82],lp:=aS [] }
theorem acZ (x0:au) (x1:(List UInt8)) (x2:(List UInt8)):bP aae 33 [.val .disk,.str,.str] [.val .disk,.int .i64] (x0,x1,x2)=mF x0 x1 x2:=by kernel_rfl
def LJ:aO:=mkSpec [.val .disk,.str,.str] [.val .disk,.int .i64] false (fun x=>mF x.1 x.2.1 x.2.2)
theorem agj:dI PG 33 LJ:=
 have K:CxR aae:=aP.cx (fun _=>rfl) (l:=[(76,jo),(77,jM),(53,dX),(79,lC)]) ⟨Bv,Ep,oz,EO,trivial⟩
 aH K (aG (l:=[]) rfl trivial) (by kernel_rfl) (fun x y h=>(acZ x.1 x.2.1 x.2.2).trans h) rfl rfl
def zX (x0:au) (x1:(List UInt8)) (x2:Int):Option (au×Int):=af (jK x0 [x1]) fun y0 => cnd (ay (ieq y0 0)) (cnd (ay (ieq y0 0)) (some (x0,y0)) (cnd (ilt x2 0) (cnd (ilt x2 0) (some (x0,1)) (cnd (ieq x0.fuse 0) (some (au.mk x0.files x0.room x0.fuse true,9)) (cnd (ieq x0.fuse (-1)) (af (aV x0.files) fun y1 => cnd (ilt 0 (len y1)) (cnd (band (ile 0 x2) (ile x2 (len (ai y1 0).data))) (af (dW (aA (ai y1 0).data (itn x2))) fun y2 => some (au.mk (bT (bT y1 0 (aF.mk (ai y1 0).name y2 (ai y1 0).sure)) 0 (aF.mk (ai (bT y1 0 (aF.mk (ai y1 0).name y2 (ai y1 0).sure)) 0).name (ai (bT y1 0 (aF.mk (ai y1 0).name y2 (ai y1 0).sure)) 0).data (tu (ai y1 0).sure x2))) x0.room x0.fuse x0.down,0)) none) none) (af (aV x0.files) fun y3 => cnd (ilt 0 (len y3)) (cnd (band (ile 0 x2) (ile x2 (len (ai y3 0).data))) (af (dW (aA (ai y3 0).data (itn x2))) fun y4 => some (au.mk (bT (bT y3 0 (aF.mk (ai y3 0).name y4 (ai y3 0).sure)) 0 (aF.mk (ai (bT y3 0 (aF.mk (ai y3 0).name y4 (ai y3 0).sure)) 0).name (ai (bT y3 0 (aF.mk (ai y3 0).name y4 (ai y3 0).sure)) 0).data (tu (ai y3 0).sure x2))) x0.room (wr .i64 (aI x0.fuse 1)) x0.down,0)) none) none)))) (cnd (ilt 0 (len x0.files)) (cnd (ilt (len (ai x0.files 0).data) x2) (some (x0,1)) (cnd (ieq x0.fuse 0) (some (au.mk x0.files x0.room x0.fuse true,9)) (cnd (ieq x0.fuse (-1)) (af (aV x0.files) fun y5 => cnd (ilt 0 (len y5)) (cnd (band (ile 0 x2) (ile x2 (len (ai y5 0).data))) (af (dW (aA (ai y5 0).data (itn x2))) fun y6 => some (au.mk (bT (bT y5 0 (aF.mk (ai y5 0).name y6 (ai y5 0).sure)) 0 (aF.mk (ai (bT y5 0 (aF.mk (ai y5 0).name y6 (ai y5 0).sure)) 0).name (ai (bT y5 0 (aF.mk (ai y5 0).name y6 (ai y5 0).sure)) 0).data (tu (ai y5 0).sure x2))) x0.room x0.fuse x0.down,0)) none) none) (af (aV x0.files) fun y7 => cnd (ilt 0 (len y7)) (cnd (band (ile 0 x2) (ile x2 (len (ai y7 0).data))) (af (dW (aA (ai y7 0).data (itn x2))) fun y8 => some (au.mk (bT (bT y7 0 (aF.mk (ai y7 0).name y8 (ai y7 0).sure)) 0 (aF.mk (ai (bT y7 0 (aF.mk (ai y7 0).name y8 (ai y7 0).sure)) 0).name (ai (bT y7 0 (aF.mk (ai y7 0).name y8 (ai y7 0).sure)) 0).data (tu (ai y7 0).sure x2))) x0.room (wr .i64 (aI x0.fuse 1)) x0.down,0)) none) none)))) none))) (af (eH x0 x1) fun y9 => cnd (ay y9.snd) (some (x0,7)) (cnd (ilt x2 0) (cnd (ilt x2 0) (some (x0,1)) (cnd (ieq x0.fuse 0) (some (au.mk x0.files x0.room x0.fuse true,9)) (cnd (ieq x0.fuse (-1)) (af (aV x0.files) fun y10 => cnd (band (ile 0 y9.fst) (ilt y9.fst (len y10))) (cnd (band (ile 0 x2) (ile x2 (len (ai y10 (itn y9.fst)).data))) (af (dW (aA (ai y10 (itn y9.fst)).data (itn x2))) fun y11 => some (au.mk (bT (bT y10 (itn y9.fst) (aF.mk (ai y10 (itn y9.fst)).name y11 (ai y10 (itn y9.fst)).sure)) (itn y9.fst) (aF.mk (ai (bT y10 (itn y9.fst) (aF.mk (ai y10 (itn y9.fst)).name y11 (ai y10 (itn y9.fst)).sure)) (itn y9.fst)).name (ai (bT y10 (itn y9.fst) (aF.mk (ai y10 (itn y9.fst)).name y11 (ai y10 (itn y9.fst)).sure)) (itn y9.fst)).data (tu (ai y10 (itn y9.fst)).sure x2))) x0.room x0.fuse x0.down,0)) none) none) (af (aV x0.files) fun y12 => cnd (band (ile 0 y9.fst) (ilt y9.fst (len y12))) (cnd (band (ile 0 x2) (ile x2 (len (ai y12 (itn y9.fst)).data))) (af (dW (aA (ai y12 (itn y9.fst)).data (itn x2))) fun y13 => some (au.mk (bT (bT y12 (itn y9.fst) (aF.mk (ai y12 (itn y9.fst)).name y13 (ai y12 (itn y9.fst)).sure)) (itn y9.fst) (aF.mk (ai (bT y12 (itn y9.fst) (aF.mk (ai y12 (itn y9.fst)).name y13 (ai y12 (itn y9.fst)).sure)) (itn y9.fst)).name (ai (bT y12 (itn y9.fst) (aF.mk (ai y12 (itn y9.fst)).name y13 (ai y12 (itn y9.fst)).sure)) (itn y9.fst)).data (tu (ai y12 (itn y9.fst)).sure x2))) x0.room (wr .i64 (aI x0.fuse 1)) x0.down,0)) none) none)))) (cnd (band (ile 0 y9.fst) (ilt y9.fst (len x0.files))) (cnd (ilt (len (ai x0.files (itn y9.fst)).data) x2) (some (x0,1)) (cnd (ieq x0.fuse 0) (some (au.mk x0.files x0.room x0.fuse true,9)) (cnd (ieq x0.fuse (-1)) (af (aV x0.files) fun y14 => cnd (band (ile 0 y9.fst) (ilt y9.fst (len y14))) (cnd (band (ile 0 x2) (ile x2 (len (ai y14 (itn y9.fst)).data))) (af (dW (aA (ai y14 (itn y9.fst)).data (itn x2))) fun y15 => some (au.mk (bT (bT y14 (itn y9.fst) (aF.mk (ai y14 (itn y9.fst)).name y15 (ai y14 (itn y9.fst)).sure)) (itn y9.fst) (aF.mk (ai (bT y14 (itn y9.fst) (aF.mk (ai y14 (itn y9.fst)).name y15 (ai y14 (itn y9.fst)).sure)) (itn y9.fst)).name (ai (bT y14 (itn y9.fst) (aF.mk (ai y14 (itn y9.fst)).name y15 (ai y14 (itn y9.fst)).sure)) (itn y9.fst)).data (tu (ai y14 (itn y9.fst)).sure x2))) x0.room x0.fuse x0.down,0)) none) none) (af (aV x0.files) fun y16 => cnd (band (ile 0 y9.fst) (ilt y9.fst (len y16))) (cnd (band (ile 0 x2) (ile x2 (len (ai y16 (itn y9.fst)).data))) (af (dW (aA (ai y16 (itn y9.fst)).data (itn x2))) fun y17 => some (au.mk (bT (bT y16 (itn y9.fst) (aF.mk (ai y16 (itn y9.fst)).name y17 (ai y16 (itn y9.fst)).sure)) (itn y9.fst) (aF.mk (ai (bT y16 (itn y9.fst) (aF.mk (ai y16 (itn y9.fst)).name y17 (ai y16 (itn y9.fst)).sure)) (itn y9.fst)).name (ai (bT y16 (itn y9.fst) (aF.mk (ai y16 (itn y9.fst)).name y17 (ai y16 (itn y9.fst)).sure)) (itn y9.fst)).data (tu (ai y16 (itn y9.fst)).sure x2))) x0.room (wr .i64 (aI x0.fuse 1)) x0.down,0)) none) none)))) none)))
noncomputable def agK:Cx:={ P:=PG,ety:=ety,fn:=look [(76,jo),(77,jM),(53,dX),(56,qo)],inl:=dR [55,81],lp:=aS [] }
theorem ahD (x0:au) (x1:(List UInt8)) (x2:Int):bP agK 87 [.val .disk,.str,.int .i64] [.val .disk,.int .i64] (x0,x1,x2)=zX x0 x1 x2:=by kernel_rfl
def TL:aO:=mkSpec [.val .disk,.str,.int .i64] [.val .disk,.int .i64] false (fun x=>zX x.1 x.2.1 x.2.2)
theorem ak6:dI PG 87 TL:=
 have K:CxR agK:=aP.cx (fun _=>rfl) (l:=[(76,jo),(77,jM),(53,dX),(56,qo)]) ⟨Bv,Ep,oz,Nw,trivial⟩
 aH K (aG (l:=[]) rfl trivial) (by kernel_rfl) (fun x y h=>(ahD x.1 x.2.1 x.2.2).trans h) rfl rfl
def iU (x0:au) (x1:dw):Option (au×Int):=af (Ak x1) fun y0 => cnd (ay y0) (some (x0,1)) (af (wP x0) fun y1 => cnd (ieq y1.snd 1) (cnd (ieq y1.snd 1) (some (x0,y1.snd)) (cnd (ay (ieq x1.gen (wr .i64 (aj y1.fst.gen 1)))) (some (x0,8)) (af (lT x1.gen) fun y2 => af (rQ x1) fun y3 => af (nS x0 y2) fun y4 => cnd (ieq y4.snd 7) (af (jD x0 y2 [y3.a0,y3.a1,y3.a2,y3.a3,y3.a4,y3.a5,y3.a6,y3.a7,y3.a8,y3.a9,y3.a10,y3.a11,y3.a12,y3.a13,y3.a14,y3.a15,y3.a16,y3.a17,y3.a18,y3.a19]) fun y5 => cnd (ay (ieq y5.snd 0)) (some y5) (af (kX y5.fst y2) fun y6 => cnd (ay (ieq y6.snd 0)) (some y6) (some (y6.fst,0)))) (af (zX x0 y2 0) fun y7 => cnd (ay (ieq y7.snd 0)) (some y7) (af (jD y7.fst y2 [y3.a0,y3.a1,y3.a2,y3.a3,y3.a4,y3.a5,y3.a6,y3.a7,y3.a8,y3.a9,y3.a10,y3.a11,y3.a12,y3.a13,y3.a14,y3.a15,y3.a16,y3.a17,y3.a18,y3.a19]) fun y8 => cnd (ay (ieq y8.snd 0)) (some y8) (af (kX y8.fst y2) fun y9 => cnd (ay (ieq y9.snd 0)) (some y9) (some (y9.fst,0)))))))) (cnd (ieq y1.snd 9) (some (x0,y1.snd)) (cnd (ay (ieq x1.gen (wr .i64 (aj y1.fst.gen 1)))) (some (x0,8)) (af (lT x1.gen) fun y10 => af (rQ x1) fun y11 => af (nS x0 y10) fun y12 => cnd (ieq y12.snd 7) (af (jD x0 y10 [y11.a0,y11.a1,y11.a2,y11.a3,y11.a4,y11.a5,y11.a6,y11.a7,y11.a8,y11.a9,y11.a10,y11.a11,y11.a12,y11.a13,y11.a14,y11.a15,y11.a16,y11.a17,y11.a18,y11.a19]) fun y13 => cnd (ay (ieq y13.snd 0)) (some y13) (af (kX y13.fst y10) fun y14 => cnd (ay (ieq y14.snd 0)) (some y14) (some (y14.fst,0)))) (af (zX x0 y10 0) fun y15 => cnd (ay (ieq y15.snd 0)) (some y15) (af (jD y15.fst y10 [y11.a0,y11.a1,y11.a2,y11.a3,y11.a4,y11.a5,y11.a6,y11.a7,y11.a8,y11.a9,y11.a10,y11.a11,y11.a12,y11.a13,y11.a14,y11.a15,y11.a16,y11.a17,y11.a18,y11.a19]) fun y16 => cnd (ay (ieq y16.snd 0)) (some y16) (af (kX y16.fst y10) fun y17 => cnd (ay (ieq y17.snd 0)) (some y17) (some (y17.fst,0)))))))))
noncomputable def abq:Cx:={ P:=PG,ety:=ety,fn:=look [(83,AP),(25,vN),(72,DX),(84,Az),(21,pX),(87,TL),(29,yU),(31,Eh)],inl:=dR [86,88,89,85],lp:=aS [] }
theorem aeP (x0:au) (x1:dw):bP abq 35 [.val .disk,.val .slot] [.val .disk,.int .i64] (x0,x1)=iU x0 x1:=by kernel_rfl
def Ol:aO:=mkSpec [.val .disk,.val .slot] [.val .disk,.int .i64] false (fun x=>iU x.1 x.2)
theorem ahI:dI PG 35 Ol:=
 have K:CxR abq:=aP.cx (fun _=>rfl) (l:=[(83,AP),(25,vN),(72,DX),(84,Az),(21,pX),(87,TL),(29,yU),(31,Eh)]) ⟨Z4,Vl,ab8,aai,O8,ak6,YM,ab4,trivial⟩
 aH K (aG (l:=[]) rfl trivial) (by kernel_rfl) (fun x y h=>(aeP x.1 x.2).trans h) rfl rfl
def zf (x0:(List UInt8)):Option (Bool):=some (ay (ieq (Hl [115,110,97,112,46] x0) 0))
def FD:aO:=mkSpec [.str] [.bool] true (fun x=>zf x)
def YH:Go.Shelf.Ren:=⟨fun | 174=>91 | 247=>157 | 245=>158 | 287=>203 | 279=>204 | 280=>205 | 281=>206 | 282=>207 | 321=>227 | 322=>228 | 316=>229 | 171=>231 | 205=>230 | 243=>237 | 246=>113 | 283=>171 | 284=>172 | 285=>173 | 286=>174 | 129=>212 | 317=>211 | 318=>213 | 319=>214 | 320=>215 | 337=>233 | 338=>234 | n=>n,fun | 9=>9 | 3=>3 | 2=>2 | 75=>139 | 85=>140 | 4=>4 | 167=>251 | 5=>5 | 53=>219 | 175=>252 | 46=>162 | 168=>254 | 37=>51 | 0=>0 | 210=>277 | 21=>21 | 127=>233 | 145=>284 | 143=>282 | 171=>224 | 173=>227 | 212=>260 | 51=>119 | 20=>20 | 213=>261 | 232=>285 | 233=>286 | 74=>138 | 209=>276 | 144=>283 | 80=>173 | n=>n,fun | 15=>2 | 16=>3 | 17=>0 | 18=>4 | 19=>5 | n=>n⟩
theorem qi:Go.Proofs.LaysC.n174 PG YH where
 mixed:=by kernel_rfl
 f129:=by kernel_rfl
 f171:=by kernel_rfl
 f174:=by kernel_rfl
 f205:=by kernel_rfl
 f243:=by kernel_rfl
 f245:=by kernel_rfl
 f246:=by kernel_rfl
 f247:=by kernel_rfl
 f279:=by kernel_rfl
 f280:=by kernel_rfl
 f281:=by kernel_rfl
 f282:=by kernel_rfl
 f283:=by kernel_rfl
 f284:=by kernel_rfl
 f285:=by kernel_rfl
 f286:=by kernel_rfl
 f287:=by kernel_rfl
 f316:=by kernel_rfl
 f317:=by kernel_rfl
 f318:=by kernel_rfl
 f319:=by kernel_rfl
 f320:=by kernel_rfl
 f321:=by kernel_rfl
 f322:=by kernel_rfl
 f337:=by kernel_rfl
 f338:=by kernel_rfl
 t0:=by kernel_rfl
 a0:=fun w=>by kernel_rfl
 z0:=fun w=>by kernel_rfl
 v0:=fun w=>by kernel_rfl
 t2:=by kernel_rfl
 a2:=fun w=>by kernel_rfl
 z2:=fun w=>by kernel_rfl
 v2:=fun w=>by kernel_rfl
 t3:=by kernel_rfl
 a3:=fun w=>by kernel_rfl
 z3:=fun w=>by kernel_rfl
 v3:=fun w=>by kernel_rfl
 t4:=by kernel_rfl
 a4:=fun w=>by kernel_rfl
 z4:=fun w=>by kernel_rfl
 v4:=fun w=>by kernel_rfl
 t5:=by kernel_rfl
 a5:=fun w=>by kernel_rfl
 z5:=fun w=>by kernel_rfl
 v5:=fun w=>by kernel_rfl
 t9:=by kernel_rfl
 a9:=fun w=>by kernel_rfl
 z9:=fun w=>by kernel_rfl
 v9:=fun w=>by kernel_rfl
 t20:=by kernel_rfl
 a20:=fun w=>by kernel_rfl
 z20:=fun w=>by kernel_rfl
 v20:=fun w=>by kernel_rfl
 t21:=by kernel_rfl
 a21:=fun w=>by kernel_rfl
 z21:=fun w=>by kernel_rfl
 v21:=fun w=>by kernel_rfl
 t37:=by kernel_rfl
 a37:=fun w=>by kernel_rfl
 z37:=fun w=>by kernel_rfl
 v37:=fun w=>by kernel_rfl
 t46:=by kernel_rfl
 a46:=fun w=>by kernel_rfl
 z46:=fun w=>by kernel_rfl
 v46:=fun w=>by kernel_rfl
 t51:=by kernel_rfl
 a51:=fun w=>by kernel_rfl
 z51:=fun w=>by kernel_rfl
 v51:=fun w=>by kernel_rfl
 t53:=by kernel_rfl
 a53:=fun w=>by kernel_rfl
 z53:=fun w=>by kernel_rfl
 v53:=fun w=>by kernel_rfl
 t75:=by kernel_rfl
 a75:=fun w=>by kernel_rfl
 z75:=fun w=>by kernel_rfl
 v75:=fun w=>by kernel_rfl
 t85:=by kernel_rfl
 a85:=fun w=>by kernel_rfl
 z85:=fun w=>by kernel_rfl
 v85:=fun w=>by kernel_rfl
 t127:=by kernel_rfl
 a127:=fun w=>by kernel_rfl
 z127:=fun w=>by kernel_rfl
 v127:=fun w=>by kernel_rfl
 t143:=by kernel_rfl
 a143:=fun w=>by kernel_rfl
 z143:=fun w=>by kernel_rfl
 v143:=fun w=>by kernel_rfl
 t145:=by kernel_rfl
 a145:=fun w=>by kernel_rfl
 z145:=fun w=>by kernel_rfl
 v145:=fun w=>by kernel_rfl
 t167:=by kernel_rfl
 a167:=fun w=>by kernel_rfl
 z167:=fun w=>by kernel_rfl
 v167:=fun w=>by kernel_rfl
 t168:=by kernel_rfl
 a168:=fun w=>by kernel_rfl
 z168:=fun w=>by kernel_rfl
 v168:=fun w=>by kernel_rfl
 t171:=by kernel_rfl
 a171:=fun w=>by kernel_rfl
 z171:=fun w=>by kernel_rfl
 v171:=fun w=>by kernel_rfl
 t173:=by kernel_rfl
 a173:=fun w=>by kernel_rfl
 z173:=fun w=>by kernel_rfl
 v173:=fun w=>by kernel_rfl
 t175:=by kernel_rfl
 a175:=fun w=>by kernel_rfl
 z175:=fun w=>by kernel_rfl
 v175:=fun w=>by kernel_rfl
 t210:=by kernel_rfl
 a210:=fun w=>by kernel_rfl
 z210:=fun w=>by kernel_rfl
 v210:=fun w=>by kernel_rfl
 t212:=by kernel_rfl
 a212:=fun w=>by kernel_rfl
 z212:=fun w=>by kernel_rfl
 v212:=fun w=>by kernel_rfl
 t213:=by kernel_rfl
 a213:=fun w=>by kernel_rfl
 z213:=fun w=>by kernel_rfl
 t232:=by kernel_rfl
 a232:=fun w=>by kernel_rfl
 z232:=fun w=>by kernel_rfl
 v232:=fun w=>by kernel_rfl
 t233:=by kernel_rfl
 a233:=fun w=>by kernel_rfl
 z233:=fun w=>by kernel_rfl
 v233:=fun w=>by kernel_rfl
 g15:=by kernel_rfl
 g16:=by kernel_rfl
 g17:=by kernel_rfl
 g18:=by kernel_rfl
 g19:=by kernel_rfl
 t80:=by kernel_rfl
 a80:=fun w=>by kernel_rfl
 z80:=fun w=>by kernel_rfl
 v80:=fun w=>by kernel_rfl
 i0:=by kernel_rfl
 i2:=by kernel_rfl
 i3:=by kernel_rfl
 i4:=by kernel_rfl
 i5:=by kernel_rfl
 i9:=by kernel_rfl
 i20:=by kernel_rfl
 i21:=by kernel_rfl
 i37:=by kernel_rfl
 i46:=by kernel_rfl
 i51:=by kernel_rfl
 i53:=by kernel_rfl
 i75:=by kernel_rfl
 i80:=by kernel_rfl
 i85:=by kernel_rfl
 i127:=by kernel_rfl
 i143:=by kernel_rfl
 i145:=by kernel_rfl
 i167:=by kernel_rfl
 i168:=by kernel_rfl
 i171:=by kernel_rfl
 i173:=by kernel_rfl
 i175:=by kernel_rfl
 i210:=by kernel_rfl
 i212:=by kernel_rfl
 i232:=by kernel_rfl
 i233:=by kernel_rfl
 m15:=by kernel_rfl
 m16:=by kernel_rfl
 m17:=by kernel_rfl
 m18:=by kernel_rfl
 m19:=by kernel_rfl
 c0:=by kernel_rfl
 c2:=by kernel_rfl
 c3:=by kernel_rfl
 c4:=by kernel_rfl
 c5:=by kernel_rfl
 c9:=by kernel_rfl
 c20:=by kernel_rfl
 c21:=by kernel_rfl
 c37:=by kernel_rfl
 c46:=by kernel_rfl
 c51:=by kernel_rfl
 c53:=by kernel_rfl
 c75:=by kernel_rfl
 c80:=by kernel_rfl
 c85:=by kernel_rfl
 c127:=by kernel_rfl
 c143:=by kernel_rfl
 c145:=by kernel_rfl
 c167:=by kernel_rfl
 c168:=by kernel_rfl
 c171:=by kernel_rfl
 c173:=by kernel_rfl
 c175:=by kernel_rfl
 c210:=by kernel_rfl
 c212:=by kernel_rfl
 c213:=by kernel_rfl
 c232:=by kernel_rfl
 c233:=by kernel_rfl
def XM:Go.Shelf.Ren:=⟨fun | 103=>90 | 210=>156 | 206=>177 | n=>n,fun | 9=>9 | 4=>4 | 24=>136 | 3=>3 | n=>n,fun | n=>n⟩
theorem JU:Go.Proofs.Lays.n103 PG XM where
 mixed:=by kernel_rfl
 f103:=by kernel_rfl
 f206:=by kernel_rfl
 f210:=by kernel_rfl
 t3:=by kernel_rfl
 a3:=fun w=>by kernel_rfl
 z3:=fun w=>by kernel_rfl
 v3:=fun w=>by kernel_rfl
 t4:=by kernel_rfl
 a4:=fun w=>by kernel_rfl
 z4:=fun w=>by kernel_rfl
 v4:=fun w=>by kernel_rfl
 t9:=by kernel_rfl
 a9:=fun w=>by kernel_rfl
 z9:=fun w=>by kernel_rfl
 v9:=fun w=>by kernel_rfl
 t24:=by kernel_rfl
 a24:=fun w=>by kernel_rfl
 z24:=fun w=>by kernel_rfl
 v24:=fun w=>by kernel_rfl
theorem amH {B B':Nat} {a b:World} (h:RowKit.Below B a b) (hB:B'<=B):RowKit.Below B' a b:=⟨h.os,h.tape,h.output,h.size,fun k hk=>h.block k (Nat.lt_of_lt_of_le hk hB)⟩
set_option maxHeartbeats 1000000 in
set_option maxRecDepth 100000 in
theorem aj1 (s r:ByteArray) (w:World)
 (h1:Calls PG 90 #[.string s,.string ⟨#[115,110,97,112,46]⟩] w fun e w'=>e= .returned (.tuple #[.string r,.bool false])/\w'=w):
 Calls PG 36 #[.string s] w fun e w'=>e= .returned (.bool false)/\RowKit.Below w.heap.size w w':=by
 go_enter Go.Proofs.Tryz.func36,Go.Proofs.Tryz.ntmps36
 go_wp2_with (go_at_call 90;refine h1.mono ?_;rintro e W1 ⟨rfl,rfl⟩)
 all_goals (go_ret;exact⟨rfl,RowKit.Below.refl _ _⟩)
set_option maxHeartbeats 1000000 in
set_option maxRecDepth 100000 in
theorem ahk (s r:ByteArray) (w:World)
 (h1:Calls PG 90 #[.string s,.string ⟨#[115,110,97,112,46]⟩] w fun e w'=>e= .returned (.tuple #[.string r,.bool true])/\w'=w) (hr:r.size≠10):
 Calls PG 36 #[.string s] w fun e w'=>e= .returned (.bool false)/\RowKit.Below w.heap.size w w':=by
 have hr':((((r.size:Nat):Int)) != 10)=true:=by simp;omega
 go_enter Go.Proofs.Tryz.func36,Go.Proofs.Tryz.ntmps36
 go_wp2_with (go_at_call 90;refine h1.mono ?_;rintro e W1 ⟨rfl,rfl⟩)
 all_goals (go_ret;exact⟨rfl,RowKit.Below.refl _ _⟩)
set_option maxHeartbeats 1000000 in
set_option maxRecDepth 100000 in
theorem aak (s r:ByteArray) (w:World) (v:Int) (t:TypeId) (q:Value->Prop)
 (h1:Calls PG 90 #[.string s,.string ⟨#[115,110,97,112,46]⟩] w fun e w'=>e= .returned (.tuple #[.string r,.bool true])/\w'=w) (hr:r.size=10)
 (h2:Calls PG 91 #[.string r,.int .i64 10,.int .i64 64] w fun e w'=>∃p,e= .returned (.tuple #[.int .i64 v,.iface t p])/\RowKit.Below w.heap.size w w'):
 Calls PG 36 #[.string s] w fun e w'=>e= .returned (.bool false)/\RowKit.Below w.heap.size w w':=by
 have hr':((r.size:Nat):Int)=10:=by omega
 go_enter Go.Proofs.Tryz.func36,Go.Proofs.Tryz.ntmps36
 go_wp2_with (first | (go_at_call 90;refine h1.mono ?_;rintro e W1 ⟨rfl,rfl⟩) | (go_at_call 91;refine h2.mono ?_;rintro e W2 ⟨p,rfl,hb⟩))
 all_goals (go_ret;exact⟨rfl,hb⟩)
set_option maxHeartbeats 1000000 in
set_option maxRecDepth 100000 in
theorem ajQ (s r:ByteArray) (w:World) (v:Int) (nm:ByteArray)
 (h1:Calls PG 90 #[.string s,.string ⟨#[115,110,97,112,46]⟩] w fun e w'=>e= .returned (.tuple #[.string r,.bool true])/\w'=w) (hr:r.size=10)
 (h2:Calls PG 91 #[.string r,.int .i64 10,.int .i64 64] w fun e w'=>e= .returned (.tuple #[.int .i64 v,.nilIface])/\RowKit.Below w.heap.size w w')
 (h3:∀w1,RowKit.Below w.heap.size w w1->Calls PG 17 #[.int .i64 v] w1 fun e w'=>e= .returned (.string nm)/\RowKit.Below w1.heap.size w1 w'):
 Calls PG 36 #[.string s] w fun e w'=>e= .returned (.bool (nm.toList == s.toList))/\RowKit.Below w.heap.size w w':=by
 have hr':((r.size:Nat):Int)=10:=by omega
 go_enter Go.Proofs.Tryz.func36,Go.Proofs.Tryz.ntmps36
 go_wp2_with (first | (go_at_call 90;refine h1.mono ?_;rintro e W1 ⟨rfl,rfl⟩) | (go_at_call 91;refine h2.mono ?_;rintro e W2 ⟨rfl,hb⟩) | (go_at_call 17;refine(h3 _ hb).mono ?_;rintro e W3 ⟨rfl,hb3⟩))
 all_goals (go_ret;exact⟨rfl,hb.trans (amH hb3 hb.size)⟩)
theorem apx (v:Int) (hv:inI v):dV v=some (Nb [115,110,97,112,46] v):=by
 unfold inI at hv
 unfold dV Nb uw zi
 by_cases h:v<1\/1000000000<v
 ·rw[if_pos h,show bor (ilt v 1) (ilt 1000000000 v)=true by rw[ajJ,Wi,Wi];exact h];rfl
 ·have e1:bor (ilt v 1) (ilt 1000000000 v)=false:=by
   rw[Bool.eq_false_iff];intro g;rw[ajJ,Wi,Wi]at g;exact h g
  have hl:(fmt10 v).length<=10:=by
   unfold fmt10;rw[if_neg (by omega)]
   exact YC 20 _ 10 (by have:(10:Nat)^10=10000000000:=by decide
                        omega) (by decide)
  have e2:wr .i64 (aI 10 (len (fmt10 v)))=((10 - (fmt10 v).length:Nat):Int):=by
   unfold aI len wr IntKind.wrap
   simp [IntKind.bits,IntKind.signed]
   omega
  have e3:aoz v 10=some (fmt10 v):=by
   unfold aoz
   rw[show band (ieq 10 10) (band (ile (-9223372036854775808) v) (ile v 9223372036854775807))=true by rw[xw,xw,pW,pW];exact⟨rfl,hv⟩];rfl
  have e4:ao9 [UInt8.ofNat 48] ((10 - (fmt10 v).length:Nat):Int)=some (List.replicate (10 - (fmt10 v).length) 48):=by
   unfold ao9
   rw[show band (ile 0 ((10 - (fmt10 v).length:Nat):Int)) (band (ile ((10 - (fmt10 v).length:Nat):Int) 9223372036854775807) (ile (dY (len [UInt8.ofNat 48]) ((10 - (fmt10 v).length:Nat):Int)) 140737488355328))=true by
    rw[xw,xw,pW,pW,pW];simp only[dY,len,List.length_singleton];omega]
   simp only[cnd,itn,Int.toNat_natCast]
   rw[show UInt8.ofNat 48=48 from rfl,agV]
  rw[if_neg h,e1,e3]
  simp only[cnd,af,Option.bind_some,e2,e4]
  rw[show ile (aj 5 (len (List.replicate (10 - (fmt10 v).length) (48:UInt8)))) 68719476736=true by rw[pW];simp only[aj,len,List.length_replicate];omega]
  simp only
  rw[show ile (aj (len (dB [UInt8.ofNat 115,UInt8.ofNat 110,UInt8.ofNat 97,UInt8.ofNat 112,UInt8.ofNat 46] (List.replicate (10 - (fmt10 v).length) (48:UInt8)))) (len (fmt10 v))) 68719476736=true by rw[pW];simp only[aj,len,dB,List.length_append,List.length_replicate,List.length_cons,List.length_nil];omega]
  rfl
theorem abH:dI PG 36 FD:=by
 refine ajf (xs:=[.str]) (rs:=[.bool]) rfl rfl (ai6 aP (by kernel_rfl)) fun(x:List UInt8) (y:Bool) w hrun hg=> ?_
 have hy:y=ay (ieq (Hl [115,110,97,112,46] x) 0):=(Option.some.inj hrun).symm
 subst hy
 show Calls PG 36 #[.string ⟨x.toArray⟩] w fun e w'=>e= .returned (.bool (ay (ieq (Hl [115,110,97,112,46] x) 0)))/\RowKit.Below w.heap.size w w'
 have hcut:=Go.Proofs.Any.strings_CutPrefix JU ⟨x.toArray⟩ ⟨#[115,110,97,112,46]⟩ w
 change Calls PG 90 #[.string ⟨x.toArray⟩,.string ⟨#[115,110,97,112,46]⟩] w (fun e w'=>e= .returned (.tuple #[.string ⟨(Go.Lib.trimPrefix x [115,110,97,112,46]).toArray⟩,.bool (Go.Lib.hasPrefix x [115,110,97,112,46])])/\w'=w)at hcut
 have nz:∀b:Bool,b=decide (Hl [115,110,97,112,46] x≠0)->ay (ieq (Hl [115,110,97,112,46] x) 0)=b:=fun b hb=>by
  rw[hb]
  by_cases h:Hl [115,110,97,112,46] x=0<;>simp [ay,ieq,h]
 cases hpf:Go.Lib.hasPrefix x [115,110,97,112,46]with
 |false=>
  rw[hpf]at hcut
  have hz:Hl [115,110,97,112,46] x=0:=if_neg fun g=>by
   have:Go.Lib.hasPrefix x [115,110,97,112,46]=true:=by
    unfold Go.Lib.hasPrefix
    rw[List.isPrefixOf_iff_prefix]
    exact⟨x.drop 5,by conv=>rhs;rw[<-List.take_append_drop 5 x,show x.take 5=_ from g.1]⟩
   rw[hpf]at this;cases this
  rw[hz]
  exact aj1 _ _ w hcut
 |true=>
  rw[hpf]at hcut
  have htk:x.take 5=[115,110,97,112,46]:=by
   unfold Go.Lib.hasPrefix at hpf
   rw[List.isPrefixOf_iff_prefix]at hpf
   obtain⟨r,rfl⟩:=hpf
   rfl
  rw[show Go.Lib.trimPrefix x [115,110,97,112,46]=x.drop 5 by unfold Go.Lib.trimPrefix;rw[if_pos hpf];rfl]at hcut
  by_cases hl:(x.drop 5).length=10
  ·have hsame:=apl [115,110,97,112,46] x htk (by simp) hl
   change (match Go.Lib.parseIntB 64 (x.drop 5)with | .ok v=>decide (Nb [115,110,97,112,46] v=x) | _=>false)=_ at hsame
   have hsz:(⟨(x.drop 5).toArray⟩:ByteArray).size=10:=by
    show(x.drop 5).toArray.size=10
    rw[List.size_toArray];exact hl
   cases hp:Go.Lib.parseIntB 64 (x.drop 5)with
   |ok v=>
    rw[hp]at hsame
    have h2:=(Go.Proofs.Any.strconv_ParseInt_10_at64_ok qi ⟨(x.drop 5).toArray⟩ (by rw[hsz];decide) v hp w).mono (R':=fun e w'=>e= .returned (.tuple #[.int .i64 v,.nilIface])/\RowKit.Below w.heap.size w w') fun e w' ⟨he,hw⟩=>⟨he,by
     rcases hw with rfl | ⟨t,rfl⟩
     ·exact RowKit.Below.refl _ _
     ·exact Go.Lib.bytesWorld_below _ _ _⟩
    have h3:∀w1,RowKit.Below w.heap.size w w1->Calls PG 17 #[.int .i64 v] w1 fun e w'=>e= .returned (.string ⟨(Nb [115,110,97,112,46] v).toArray⟩)/\RowKit.Below w1.heap.size w1 w':=fun w1 hb=>
     dI.calls (xs:=[.int .i64]) (r:= .str) aP (by kernel_rfl) Gj rfl rfl v (Nb [115,110,97,112,46] v) (apx v (aoN hp)) w1 (hg.mono (fun b h=>Nat.lt_of_lt_of_le h hb.size) (fun b h=>hb.block b h))
    have:=ajQ ⟨x.toArray⟩ ⟨(x.drop 5).toArray⟩ w v ⟨(Nb [115,110,97,112,46] v).toArray⟩ hcut hsz h2 h3
    rw[ByteArray.toList_eq,ByteArray.toList_eq]at this
    rw[nz _ hsame]
    refine this.mono fun e w' ⟨he,hb⟩=>⟨he.trans ?_,hb⟩
    congr 2
    simp only
    rw[Bool.eq_iff_iff];simp
   |«syntax»=>
    rw[hp]at hsame
    obtain⟨_,c,t,fr,hc,te,pe,rfl⟩:=hg (2,anY) (by simp [glL])
    have hcell:w.cell? ⟨2,0,none⟩=some (.iface te pe):=by unfold World.cell?;simp only[hc];rfl
    rw[nz _ hsame]
    refine aak ⟨x.toArray⟩ ⟨(x.drop 5).toArray⟩ w _ _ (fun _=>True) hcut hsz ((Go.Proofs.Any.strconv_ParseInt_10_at64_syntax qi ⟨(x.drop 5).toArray⟩ (by rw[hsz];decide) hp _ w hcell (.inr ⟨te,pe,rfl⟩)).mono fun e w' ⟨N,he,_,_,hb⟩=>⟨_,he,hb⟩)
   |range=>
    rw[hp]at hsame
    obtain⟨_,c,t,fr,hc,te,pe,rfl⟩:=hg (3,anY) (by simp [glL])
    have hcell:w.cell? ⟨3,0,none⟩=some (.iface te pe):=by unfold World.cell?;simp only[hc];rfl
    rw[nz _ hsame]
    refine aak ⟨x.toArray⟩ ⟨(x.drop 5).toArray⟩ w _ _ (fun _=>True) hcut hsz ((Go.Proofs.Any.strconv_ParseInt_10_at64_range qi ⟨(x.drop 5).toArray⟩ (by rw[hsz];decide) hp _ w hcell (.inr ⟨te,pe,rfl⟩)).mono fun e w' ⟨N,he,_,_,hb⟩=>⟨_,he,hb⟩)
  ·have hz:Hl [115,110,97,112,46] x=0:=if_neg fun g=>hl g.2.1
   rw[hz]
   refine ahk _ _ w hcut fun g=>hl ?_
   have g:(x.drop 5).toArray.size=10:=g
   rwa[List.size_toArray]at g
def Qn:LSh:=⟨304,[(72,.int .i64),(71,.ro .file)],[(11,.mp 336 0),(10,.mp 304 0)],[(304,[.int .i64])],[(73,.int .i64)],[(336,[.val .keeper])],[]⟩
@[reducible] def P5:List fO:=[⟨.exit 1,[],[(336,[.val .keeper])],[]⟩]
def aX (p0:Int) (p1:(List aF)) (p2:Int) (v0:Int) (v1:dJ):Option ((Int×dJ) ⊕ ((dJ))):=cnd (ilt v0 p0) (cnd (band (ile 0 v0) (ilt v0 (len p1))) (af (zf (ai p1 (itn v0)).name) fun y0 => af (cnd y0 (dV p2) (some [])) fun y1 => cnd (band y0 (ay (seq (ai p1 (itn v0)).name y1))) (cnd (ieq v1.e 0) (af (uP v1.d (ai p1 (itn v0)).name) fun y2 => some (Sum.inl (wr .i64 (aj v0 1),dJ.mk y2.fst y2.snd))) (some (Sum.inl (wr .i64 (aj v0 1),v1)))) (some (Sum.inl (wr .i64 (aj v0 1),v1)))) none) (some (Sum.inr v1))
def OG:dU:=Qn.spec P5 [74,75,76,15,77,78,79,80,81,82,83,84,85,86,87,88,89,90,91,73] (fun p v=>aX p.1 p.2.1 p.2.2 v.1 v.2)
def uF (x0:au) (x1:ax):Option (au×Int×Int):=af (wQ x1) fun y0 => cnd (ay (ieq y0.snd 0)) (some (x0,0,1)) (af (wP x0) fun y1 => cnd (ieq y1.snd 1) (some (x0,0,y1.snd)) (cnd (ieq y1.snd 9) (some (x0,0,y1.snd)) (cnd (ile 1000000000 y1.fst.gen) (some (x0,0,3)) (af (nS x0 [(UInt8.ofNat 116),(UInt8.ofNat 109),(UInt8.ofNat 112)]) fun y2 => cnd (ieq y2.snd 0) (af (uP x0 [(UInt8.ofNat 116),(UInt8.ofNat 109),(UInt8.ofNat 112)]) fun y3 => cnd (ieq y3.snd 0) (af (jD y3.fst [(UInt8.ofNat 116),(UInt8.ofNat 109),(UInt8.ofNat 112)] y0.fst) fun y4 => cnd (ieq y4.snd 0) (af (kX y4.fst [(UInt8.ofNat 116),(UInt8.ofNat 109),(UInt8.ofNat 112)]) fun y5 => cnd (ieq y5.snd 0) (af (dV (wr .i64 (aj y1.fst.gen 1))) fun y6 => af (mF y5.fst [(UInt8.ofNat 116),(UInt8.ofNat 109),(UInt8.ofNat 112)] y6) fun y7 => cnd (ieq y7.snd 0) (af (iU y7.fst (dw.mk (wr .i64 (aj y1.fst.gen 1)) x1.lsn)) fun y8 => af (bD (fun v => aX (len y8.fst.files) y8.fst.files (wr .i64 (aj y1.fst.gen 1)) v.fst v.snd) LF (0,dJ.mk y8.fst y8.snd)) fun y9 => cnd (ay (ieq y9.e 0)) (some (y9.d,0,y9.e)) (some (y9.d,wr .i64 (aj y1.fst.gen 1),0))) (af (bD (fun v => aX (len y7.fst.files) y7.fst.files (wr .i64 (aj y1.fst.gen 1)) v.fst v.snd) LF (0,dJ.mk y7.fst y7.snd)) fun y10 => cnd (ay (ieq y10.e 0)) (some (y10.d,0,y10.e)) (some (y10.d,wr .i64 (aj y1.fst.gen 1),0)))) (cnd (ieq y5.snd 0) (af (iU y5.fst (dw.mk (wr .i64 (aj y1.fst.gen 1)) x1.lsn)) fun y11 => af (bD (fun v => aX (len y11.fst.files) y11.fst.files (wr .i64 (aj y1.fst.gen 1)) v.fst v.snd) LF (0,dJ.mk y11.fst y11.snd)) fun y12 => cnd (ay (ieq y12.e 0)) (some (y12.d,0,y12.e)) (some (y12.d,wr .i64 (aj y1.fst.gen 1),0))) (af (bD (fun v => aX (len y5.fst.files) y5.fst.files (wr .i64 (aj y1.fst.gen 1)) v.fst v.snd) LF (0,dJ.mk y5.fst y5.snd)) fun y13 => cnd (ay (ieq y13.e 0)) (some (y13.d,0,y13.e)) (some (y13.d,wr .i64 (aj y1.fst.gen 1),0))))) (cnd (ieq y4.snd 0) (af (dV (wr .i64 (aj y1.fst.gen 1))) fun y14 => af (mF y4.fst [(UInt8.ofNat 116),(UInt8.ofNat 109),(UInt8.ofNat 112)] y14) fun y15 => cnd (ieq y15.snd 0) (af (iU y15.fst (dw.mk (wr .i64 (aj y1.fst.gen 1)) x1.lsn)) fun y16 => af (bD (fun v => aX (len y16.fst.files) y16.fst.files (wr .i64 (aj y1.fst.gen 1)) v.fst v.snd) LF (0,dJ.mk y16.fst y16.snd)) fun y17 => cnd (ay (ieq y17.e 0)) (some (y17.d,0,y17.e)) (some (y17.d,wr .i64 (aj y1.fst.gen 1),0))) (af (bD (fun v => aX (len y15.fst.files) y15.fst.files (wr .i64 (aj y1.fst.gen 1)) v.fst v.snd) LF (0,dJ.mk y15.fst y15.snd)) fun y18 => cnd (ay (ieq y18.e 0)) (some (y18.d,0,y18.e)) (some (y18.d,wr .i64 (aj y1.fst.gen 1),0)))) (cnd (ieq y4.snd 0) (af (iU y4.fst (dw.mk (wr .i64 (aj y1.fst.gen 1)) x1.lsn)) fun y19 => af (bD (fun v => aX (len y19.fst.files) y19.fst.files (wr .i64 (aj y1.fst.gen 1)) v.fst v.snd) LF (0,dJ.mk y19.fst y19.snd)) fun y20 => cnd (ay (ieq y20.e 0)) (some (y20.d,0,y20.e)) (some (y20.d,wr .i64 (aj y1.fst.gen 1),0))) (af (bD (fun v => aX (len y4.fst.files) y4.fst.files (wr .i64 (aj y1.fst.gen 1)) v.fst v.snd) LF (0,dJ.mk y4.fst y4.snd)) fun y21 => cnd (ay (ieq y21.e 0)) (some (y21.d,0,y21.e)) (some (y21.d,wr .i64 (aj y1.fst.gen 1),0)))))) (cnd (ieq y3.snd 0) (af (kX y3.fst [(UInt8.ofNat 116),(UInt8.ofNat 109),(UInt8.ofNat 112)]) fun y22 => cnd (ieq y22.snd 0) (af (dV (wr .i64 (aj y1.fst.gen 1))) fun y23 => af (mF y22.fst [(UInt8.ofNat 116),(UInt8.ofNat 109),(UInt8.ofNat 112)] y23) fun y24 => cnd (ieq y24.snd 0) (af (iU y24.fst (dw.mk (wr .i64 (aj y1.fst.gen 1)) x1.lsn)) fun y25 => af (bD (fun v => aX (len y25.fst.files) y25.fst.files (wr .i64 (aj y1.fst.gen 1)) v.fst v.snd) LF (0,dJ.mk y25.fst y25.snd)) fun y26 => cnd (ay (ieq y26.e 0)) (some (y26.d,0,y26.e)) (some (y26.d,wr .i64 (aj y1.fst.gen 1),0))) (af (bD (fun v => aX (len y24.fst.files) y24.fst.files (wr .i64 (aj y1.fst.gen 1)) v.fst v.snd) LF (0,dJ.mk y24.fst y24.snd)) fun y27 => cnd (ay (ieq y27.e 0)) (some (y27.d,0,y27.e)) (some (y27.d,wr .i64 (aj y1.fst.gen 1),0)))) (cnd (ieq y22.snd 0) (af (iU y22.fst (dw.mk (wr .i64 (aj y1.fst.gen 1)) x1.lsn)) fun y28 => af (bD (fun v => aX (len y28.fst.files) y28.fst.files (wr .i64 (aj y1.fst.gen 1)) v.fst v.snd) LF (0,dJ.mk y28.fst y28.snd)) fun y29 => cnd (ay (ieq y29.e 0)) (some (y29.d,0,y29.e)) (some (y29.d,wr .i64 (aj y1.fst.gen 1),0))) (af (bD (fun v => aX (len y22.fst.files) y22.fst.files (wr .i64 (aj y1.fst.gen 1)) v.fst v.snd) LF (0,dJ.mk y22.fst y22.snd)) fun y30 => cnd (ay (ieq y30.e 0)) (some (y30.d,0,y30.e)) (some (y30.d,wr .i64 (aj y1.fst.gen 1),0))))) (cnd (ieq y3.snd 0) (af (dV (wr .i64 (aj y1.fst.gen 1))) fun y31 => af (mF y3.fst [(UInt8.ofNat 116),(UInt8.ofNat 109),(UInt8.ofNat 112)] y31) fun y32 => cnd (ieq y32.snd 0) (af (iU y32.fst (dw.mk (wr .i64 (aj y1.fst.gen 1)) x1.lsn)) fun y33 => af (bD (fun v => aX (len y33.fst.files) y33.fst.files (wr .i64 (aj y1.fst.gen 1)) v.fst v.snd) LF (0,dJ.mk y33.fst y33.snd)) fun y34 => cnd (ay (ieq y34.e 0)) (some (y34.d,0,y34.e)) (some (y34.d,wr .i64 (aj y1.fst.gen 1),0))) (af (bD (fun v => aX (len y32.fst.files) y32.fst.files (wr .i64 (aj y1.fst.gen 1)) v.fst v.snd) LF (0,dJ.mk y32.fst y32.snd)) fun y35 => cnd (ay (ieq y35.e 0)) (some (y35.d,0,y35.e)) (some (y35.d,wr .i64 (aj y1.fst.gen 1),0)))) (cnd (ieq y3.snd 0) (af (iU y3.fst (dw.mk (wr .i64 (aj y1.fst.gen 1)) x1.lsn)) fun y36 => af (bD (fun v => aX (len y36.fst.files) y36.fst.files (wr .i64 (aj y1.fst.gen 1)) v.fst v.snd) LF (0,dJ.mk y36.fst y36.snd)) fun y37 => cnd (ay (ieq y37.e 0)) (some (y37.d,0,y37.e)) (some (y37.d,wr .i64 (aj y1.fst.gen 1),0))) (af (bD (fun v => aX (len y3.fst.files) y3.fst.files (wr .i64 (aj y1.fst.gen 1)) v.fst v.snd) LF (0,dJ.mk y3.fst y3.snd)) fun y38 => cnd (ay (ieq y38.e 0)) (some (y38.d,0,y38.e)) (some (y38.d,wr .i64 (aj y1.fst.gen 1),0))))))) (af (jD x0 [(UInt8.ofNat 116),(UInt8.ofNat 109),(UInt8.ofNat 112)] y0.fst) fun y39 => cnd (ieq y39.snd 0) (af (kX y39.fst [(UInt8.ofNat 116),(UInt8.ofNat 109),(UInt8.ofNat 112)]) fun y40 => cnd (ieq y40.snd 0) (af (dV (wr .i64 (aj y1.fst.gen 1))) fun y41 => af (mF y40.fst [(UInt8.ofNat 116),(UInt8.ofNat 109),(UInt8.ofNat 112)] y41) fun y42 => cnd (ieq y42.snd 0) (af (iU y42.fst (dw.mk (wr .i64 (aj y1.fst.gen 1)) x1.lsn)) fun y43 => af (bD (fun v => aX (len y43.fst.files) y43.fst.files (wr .i64 (aj y1.fst.gen 1)) v.fst v.snd) LF (0,dJ.mk y43.fst y43.snd)) fun y44 => cnd (ay (ieq y44.e 0)) (some (y44.d,0,y44.e)) (some (y44.d,wr .i64 (aj y1.fst.gen 1),0))) (af (bD (fun v => aX (len y42.fst.files) y42.fst.files (wr .i64 (aj y1.fst.gen 1)) v.fst v.snd) LF (0,dJ.mk y42.fst y42.snd)) fun y45 => cnd (ay (ieq y45.e 0)) (some (y45.d,0,y45.e)) (some (y45.d,wr .i64 (aj y1.fst.gen 1),0)))) (cnd (ieq y40.snd 0) (af (iU y40.fst (dw.mk (wr .i64 (aj y1.fst.gen 1)) x1.lsn)) fun y46 => af (bD (fun v => aX (len y46.fst.files) y46.fst.files (wr .i64 (aj y1.fst.gen 1)) v.fst v.snd) LF (0,dJ.mk y46.fst y46.snd)) fun y47 => cnd (ay (ieq y47.e 0)) (some (y47.d,0,y47.e)) (some (y47.d,wr .i64 (aj y1.fst.gen 1),0))) (af (bD (fun v => aX (len y40.fst.files) y40.fst.files (wr .i64 (aj y1.fst.gen 1)) v.fst v.snd) LF (0,dJ.mk y40.fst y40.snd)) fun y48 => cnd (ay (ieq y48.e 0)) (some (y48.d,0,y48.e)) (some (y48.d,wr .i64 (aj y1.fst.gen 1),0))))) (cnd (ieq y39.snd 0) (af (dV (wr .i64 (aj y1.fst.gen 1))) fun y49 => af (mF y39.fst [(UInt8.ofNat 116),(UInt8.ofNat 109),(UInt8.ofNat 112)] y49) fun y50 => cnd (ieq y50.snd 0) (af (iU y50.fst (dw.mk (wr .i64 (aj y1.fst.gen 1)) x1.lsn)) fun y51 => af (bD (fun v => aX (len y51.fst.files) y51.fst.files (wr .i64 (aj y1.fst.gen 1)) v.fst v.snd) LF (0,dJ.mk y51.fst y51.snd)) fun y52 => cnd (ay (ieq y52.e 0)) (some (y52.d,0,y52.e)) (some (y52.d,wr .i64 (aj y1.fst.gen 1),0))) (af (bD (fun v => aX (len y50.fst.files) y50.fst.files (wr .i64 (aj y1.fst.gen 1)) v.fst v.snd) LF (0,dJ.mk y50.fst y50.snd)) fun y53 => cnd (ay (ieq y53.e 0)) (some (y53.d,0,y53.e)) (some (y53.d,wr .i64 (aj y1.fst.gen 1),0)))) (cnd (ieq y39.snd 0) (af (iU y39.fst (dw.mk (wr .i64 (aj y1.fst.gen 1)) x1.lsn)) fun y54 => af (bD (fun v => aX (len y54.fst.files) y54.fst.files (wr .i64 (aj y1.fst.gen 1)) v.fst v.snd) LF (0,dJ.mk y54.fst y54.snd)) fun y55 => cnd (ay (ieq y55.e 0)) (some (y55.d,0,y55.e)) (some (y55.d,wr .i64 (aj y1.fst.gen 1),0))) (af (bD (fun v => aX (len y39.fst.files) y39.fst.files (wr .i64 (aj y1.fst.gen 1)) v.fst v.snd) LF (0,dJ.mk y39.fst y39.snd)) fun y56 => cnd (ay (ieq y56.e 0)) (some (y56.d,0,y56.e)) (some (y56.d,wr .i64 (aj y1.fst.gen 1),0))))))))))
noncomputable def Vx:Cx:={ P:=PG,ety:=ety,fn:=look [(24,NY),(25,vN),(21,pX),(75,LY),(29,yU),(31,Eh),(17,oJ),(33,LJ),(35,Ol),(36,FD)],inl:=dR [4095,26,74,27,28,30,32,34],lp:=aS [(10,65530,OG)] }
theorem Xy (p0:Int) (p1:(List aF)) (p2:Int) (v0:Int) (v1:dJ):fC Vx 900 10 65530 (dK PG 10 65530) Qn P5 (p0,p1,p2) (v0,v1)=aX p0 p1 p2 v0 v1:=by kernel_rfl
theorem aeL (x0:au) (x1:ax):bP Vx 10 [.val .disk,.val .state] [.val .disk,.int .i64,.int .i64] (x0,x1)=uF x0 x1:=by kernel_rfl
def AU:aO:=mkSpec [.val .disk,.val .state] [.val .disk,.int .i64,.int .i64] false (fun x=>uF x.1 x.2)
theorem Z5:dI PG 10 AU:=
 have K:CxR Vx:=aP.cx (fun _=>rfl) (l:=[(24,NY),(25,vN),(21,pX),(75,LY),(29,yU),(31,Eh),(17,oJ),(33,LJ),(35,Ol),(36,FD)]) ⟨ahG,Vl,O8,afx,YM,ab4,Gj,agj,ahI,abH,trivial⟩
 aH K (aG (l:=[(10,65530,OG)]) rfl ⟨bF (n:=900) (f:=10) K (by kernel_rfl) (by kernel_rfl) (by kernel_rfl) (by kernel_rfl) (by kernel_rfl) (fun p v r h=>(Xy p.1 p.2.1 p.2.2 v.1 v.2).trans h),trivial⟩) (by kernel_rfl) (fun x y h=>(aeL x.1 x.2).trans h) rfl rfl
end
end Go.Av
