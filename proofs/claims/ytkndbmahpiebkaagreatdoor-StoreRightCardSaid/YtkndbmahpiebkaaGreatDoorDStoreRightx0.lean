/- The functions that this claim reaches, each as a plain function; each is what its text comes to. No condition. -/
import Derived.Test.YtkndbmahpiebkaaGreatDoorAvE
import Derived.Test.YtkndbmahpiebkaaGreatDoorProg
import Derived.KernelRfl
import Derived.Shelf.Small.Wraps
import Derived.Shelf.Strconv.ParseIntPublic10
import Derived.WalkKit
set_option linter.unusedVariables false
set_option linter.unusedSimpArgs false
set_option linter.unnecessarySimpa false
namespace Go.Av
open Go
def au9:List (Nat×E):=[(2,.i64),(3,.i64),(4,.bool),(5,.u8),(6,.u8),(9,.str),(10,.str),(11,.str),(24,.disk),(30,.state),(34,.i64),(51,.bts),(53,.file),(61,.expo),(64,.recd),(68,.slot),(73,.keeper),(95,.order),(97,.cell),(101,.state),(132,.a20),(159,.reader),(198,.note),(251,.i64),(270,.a3),(292,.u8),(293,.u8)]
def ety (t:Nat):Option E:=look au9 t
noncomputable abbrev PG:Program:=Go.Proofs.Tryz.prog
end Go.Av
namespace Go.Av
open Go
noncomputable section
theorem avp:EOk PG 2 .i64:=qZ (by kernel_rfl) (by kernel_rfl)
theorem avs:EOk PG 3 .i64:=qZ (by kernel_rfl) (by kernel_rfl)
theorem au2:EOk PG 4 .bool:=qZ (by kernel_rfl) (by kernel_rfl)
theorem avH:EOk PG 5 .u8:=qZ (by kernel_rfl) (by kernel_rfl)
theorem avG:EOk PG 6 .u8:=qZ (by kernel_rfl) (by kernel_rfl)
theorem au6:EOk PG 9 .str:=qZ (by kernel_rfl) (by kernel_rfl)
theorem aus:EOk PG 10 .str:=qZ (by kernel_rfl) (by kernel_rfl)
theorem auT:EOk PG 11 .str:=qZ (by kernel_rfl) (by kernel_rfl)
theorem auu:EOk PG 24 .disk:=qZ (by kernel_rfl) (by kernel_rfl)
theorem aud:EOk PG 30 .state:=qZ (by kernel_rfl) (by kernel_rfl)
theorem aul:EOk PG 34 .i64:=qZ (by kernel_rfl) (by kernel_rfl)
theorem auJ:EOk PG 51 .bts:=qZ (by kernel_rfl) (by kernel_rfl)
theorem atH:EOk PG 53 .file:=qZ (by kernel_rfl) (by kernel_rfl)
theorem atM:EOk PG 61 .expo:=qZ (by kernel_rfl) (by kernel_rfl)
theorem auU:EOk PG 64 .recd:=qZ (by kernel_rfl) (by kernel_rfl)
theorem auK:EOk PG 68 .slot:=qZ (by kernel_rfl) (by kernel_rfl)
theorem auj:EOk PG 73 .keeper:=qZ (by kernel_rfl) (by kernel_rfl)
theorem auV:EOk PG 95 .order:=qZ (by kernel_rfl) (by kernel_rfl)
theorem auW:EOk PG 97 .cell:=qZ (by kernel_rfl) (by kernel_rfl)
theorem arZ:EOk PG 101 .state:=qZ (by kernel_rfl) (by kernel_rfl)
theorem arQ:EOk PG 132 .a20:=qZ (by kernel_rfl) (by kernel_rfl)
theorem ata:EOk PG 159 .reader:=qZ (by kernel_rfl) (by kernel_rfl)
theorem as1:EOk PG 198 .note:=qZ (by kernel_rfl) (by kernel_rfl)
theorem asb:EOk PG 251 .i64:=qZ (by kernel_rfl) (by kernel_rfl)
theorem asB:EOk PG 270 .a3:=qZ (by kernel_rfl) (by kernel_rfl)
theorem asw:EOk PG 292 .u8:=qZ (by kernel_rfl) (by kernel_rfl)
theorem as2:EOk PG 293 .u8:=qZ (by kernel_rfl) (by kernel_rfl)
theorem aP:Qm PG au9:=⟨by kernel_rfl,⟨avp,avs,au2,avH,avG,au6,aus,auT,auu,aud,aul,auJ,atH,atM,auU,auK,auj,auV,auW,arZ,arQ,ata,as1,asb,asB,asw,as2,trivial⟩,by kernel_rfl,by kernel_rfl,by kernel_rfl⟩
end
end Go.Av
namespace Go.Av
open Go
noncomputable section
def RJ (x0:Int) (x1:Int):Option (Int×Int):=some (wr .u32 (dN .u64 (wr .u64 (dX (wr .u64 x0) (wr .u64 x1))) 32),wr .u32 (wr .u64 (dX (wr .u64 x0) (wr .u64 x1))))
noncomputable def RN:Cx:={ P:=PG,ety:=ety,fn:=look [],inl:=dR [],lp:=aS [] }
theorem X6 (x0:Int) (x1:Int):bP RN 175 [.int .u32,.int .u32] [.int .u32,.int .u32] (x0,x1)=RJ x0 x1:=by kernel_rfl
def Eg:aO:=mkSpec [.int .u32,.int .u32] [.int .u32,.int .u32] true (fun x=>RJ x.1 x.2)
theorem aaV:dI PG 175 Eg:=
 have K:CxR RN:=aP.cx (fun _=>rfl) (l:=[]) trivial
 aH K (aG (l:=[]) rfl trivial) (by kernel_rfl) (fun x y h=>(X6 x.1 x.2).trans h) rfl rfl
def tX (x0:Int) (x1:Int):Option (Int×Int):=some (wr .u64 (aj (wr .u64 (aj (wr .u64 (dX (dN .u64 x0 32) (dN .u64 x1 32))) (dN .u64 (wr .u64 (aj (wr .u64 (dX (dN .u64 x0 32) (wr .u64 (kM .u64 x1 4294967295)))) (dN .u64 (wr .u64 (dX (wr .u64 (kM .u64 x0 4294967295)) (wr .u64 (kM .u64 x1 4294967295)))) 32))) 32))) (dN .u64 (wr .u64 (aj (wr .u64 (kM .u64 (wr .u64 (aj (wr .u64 (dX (dN .u64 x0 32) (wr .u64 (kM .u64 x1 4294967295)))) (dN .u64 (wr .u64 (dX (wr .u64 (kM .u64 x0 4294967295)) (wr .u64 (kM .u64 x1 4294967295)))) 32))) 4294967295)) (wr .u64 (dX (wr .u64 (kM .u64 x0 4294967295)) (dN .u64 x1 32))))) 32)),wr .u64 (dX x0 x1))
noncomputable def Sl:Cx:={ P:=PG,ety:=ety,fn:=look [],inl:=dR [],lp:=aS [] }
theorem Yf (x0:Int) (x1:Int):bP Sl 176 [.int .u64,.int .u64] [.int .u64,.int .u64] (x0,x1)=tX x0 x1:=by kernel_rfl
def sS:aO:=mkSpec [.int .u64,.int .u64] [.int .u64,.int .u64] true (fun x=>tX x.1 x.2)
theorem Qp:dI PG 176 sS:=
 have K:CxR Sl:=aP.cx (fun _=>rfl) (l:=[]) trivial
 aH K (aG (l:=[]) rfl trivial) (by kernel_rfl) (fun x y h=>(Yf x.1 x.2).trans h) rfl rfl
def G6 (x0:Int) (x1:Int):Option (Int×Int):=af (tX x0 x1) fun y0=>some y0
noncomputable def Xe:Cx:={ P:=PG,ety:=ety,fn:=look [(175,Eg),(176,sS)],inl:=dR [],lp:=aS [] }
theorem aaS (x0:Int) (x1:Int):bP Xe 114 [.int .u64,.int .u64] [.int .u64,.int .u64] (x0,x1)=G6 x0 x1:=by kernel_rfl
def vM:aO:=mkSpec [.int .u64,.int .u64] [.int .u64,.int .u64] true (fun x=>G6 x.1 x.2)
theorem Ue:dI PG 114 vM:=
 have K:CxR Xe:=aP.cx (fun _=>rfl) (l:=[(175,Eg),(176,sS)]) ⟨aaV,Qp,trivial⟩
 aH K (aG (l:=[]) rfl trivial) (by kernel_rfl) (fun x y h=>(aaS x.1 x.2).trans h) rfl rfl
def AX:LSh:=⟨94,[],[(7,.mf 192)],[],[(8,.int .i64)],[],[(192,.expo)]⟩
@[reducible] def A7:List fO:=[⟨.exit 0,[],[],[(192,.expo)]⟩]
def ug (v0:Int) (v1:(List dL)):Option ((Int×(List dL)) ⊕ (((List dL)))):=cnd (ilt v0 (len v1)) (cnd (band (ile 0 v0) (ile v0 (len v1))) (cnd (band (ile 0 v0) (ile v0 (len v1))) (some (Sum.inl (wr .i64 (aj v0 (tu (len (aA (aN v1 0) (itn v0))) (nti (itn (aI (len v1) v0))))),fZ v1 (itn v0) (aA (aA (aN v1 0) (itn v0)) (itn (tu (len (aA (aN v1 0) (itn v0))) (nti (itn (aI (len v1) v0))))))))) none) none) (some (Sum.inr v1))
def zu:dU:=AX.spec A7 [34,35,36,37,38,39,40,41,42,43,44,45,46,8] (fun p v=>ug v.1 v.2)
def xC (x0:(List dL)) (x1:Int):Option ((List dL)):=cnd (ilt x1 0) none (af (G6 (wr .u64 (len x0)) (wr .u64 x1)) fun y0=>cnd (bor (ilt 0 y0.fst) (ilt 9223372036854775807 y0.snd)) none (cnd (band (band (ile 0 (wr .i64 y0.snd)) (ile (wr .i64 y0.snd) (wr .i64 y0.snd))) (ile (wr .i64 y0.snd) 68719476736)) (af (bD (fun v=>ug v.fst v.snd) LF (tu (len x0) (len (jO dL (itn (wr .i64 y0.snd)))),fZ (jO dL (itn (wr .i64 y0.snd))) 0 (aA x0 (itn (tu (len x0) (len (jO dL (itn (wr .i64 y0.snd))))))))) fun y1=>some y1) none))
noncomputable def xB:Cx:={ P:=PG,ety:=ety,fn:=look [(114,vM)],inl:=dR [],lp:=aS [(57,508,zu)] }
theorem Kv (v0:Int) (v1:(List dL)):fC xB 900 57 508 (dK PG 57 508) AX A7 () (v0,v1)=ug v0 v1:=by kernel_rfl
theorem O9 (x0:(List dL)) (x1:Int):bP xB 57 [.ro .expo,.int .i64] [.buf .expo] (x0,x1)=xC x0 x1:=by kernel_rfl
def uH:aO:=mkSpec [.ro .expo,.int .i64] [.buf .expo] true (fun x=>xC x.1 x.2)
theorem Ri:dI PG 57 uH:=
 have K:CxR xB:=aP.cx (fun _=>rfl) (l:=[(114,vM)]) ⟨Ue,trivial⟩
 aH K (aG (l:=[(57,508,zu)]) rfl ⟨bF (n:=900) (f:=57) K (by kernel_rfl) (by kernel_rfl) (by kernel_rfl) (by kernel_rfl) (by kernel_rfl) (fun p v r h=>(Kv v.1 v.2).trans h),trivial⟩) (by kernel_rfl) (fun x y h=>(O9 x.1 x.2).trans h) rfl rfl
def EL:LSh:=⟨94,[],[(7,.mf 192)],[],[(8,.int .i64)],[],[(192,.i64)]⟩
@[reducible] def Ey:List fO:=[⟨.exit 0,[],[],[(192,.i64)]⟩]
def wH (v0:Int) (v1:(List Int)):Option ((Int×(List Int)) ⊕ (((List Int)))):=cnd (ilt v0 (len v1)) (cnd (band (ile 0 v0) (ile v0 (len v1))) (cnd (band (ile 0 v0) (ile v0 (len v1))) (some (Sum.inl (wr .i64 (aj v0 (tu (len (aA (aN v1 0) (itn v0))) (nti (itn (aI (len v1) v0))))),fZ v1 (itn v0) (aA (aA (aN v1 0) (itn v0)) (itn (tu (len (aA (aN v1 0) (itn v0))) (nti (itn (aI (len v1) v0))))))))) none) none) (some (Sum.inr v1))
def Ed:dU:=EL.spec Ey [34,35,36,37,38,39,40,41,42,43,44,45,46,8] (fun p v=>wH v.1 v.2)
def BX (x0:(List Int)) (x1:Int):Option ((List Int)):=cnd (ilt x1 0) none (af (G6 (wr .u64 (len x0)) (wr .u64 x1)) fun y0=>cnd (bor (ilt 0 y0.fst) (ilt 9223372036854775807 y0.snd)) none (cnd (band (band (ile 0 (wr .i64 y0.snd)) (ile (wr .i64 y0.snd) (wr .i64 y0.snd))) (ile (wr .i64 y0.snd) 68719476736)) (af (bD (fun v=>wH v.fst v.snd) LF (tu (len x0) (len (jO Int (itn (wr .i64 y0.snd)))),fZ (jO Int (itn (wr .i64 y0.snd))) 0 (aA x0 (itn (tu (len x0) (len (jO Int (itn (wr .i64 y0.snd))))))))) fun y1=>some y1) none))
noncomputable def BU:Cx:={ P:=PG,ety:=ety,fn:=look [(114,vM)],inl:=dR [],lp:=aS [(58,508,Ed)] }
theorem Oc (v0:Int) (v1:(List Int)):fC BU 900 58 508 (dK PG 58 508) EL Ey () (v0,v1)=wH v0 v1:=by kernel_rfl
theorem Tf (x0:(List Int)) (x1:Int):bP BU 58 [.ro .i64,.int .i64] [.buf .i64] (x0,x1)=BX x0 x1:=by kernel_rfl
def xA:aO:=mkSpec [.ro .i64,.int .i64] [.buf .i64] true (fun x=>BX x.1 x.2)
theorem Ws:dI PG 58 xA:=
 have K:CxR BU:=aP.cx (fun _=>rfl) (l:=[(114,vM)]) ⟨Ue,trivial⟩
 aH K (aG (l:=[(58,508,Ed)]) rfl ⟨bF (n:=900) (f:=58) K (by kernel_rfl) (by kernel_rfl) (by kernel_rfl) (by kernel_rfl) (by kernel_rfl) (fun p v r h=>(Oc v.1 v.2).trans h),trivial⟩) (by kernel_rfl) (fun x y h=>(Tf x.1 x.2).trans h) rfl rfl
def uy (x0:ax):Option (Bool):=some (band (band (band (band (band (band (band (ile 1 x0.accounts) (ile x0.accounts 8)) (ile 1 x0.symbols)) (ile x0.symbols 8)) (ieq (len x0.cells) (wr .i64 (dX x0.accounts x0.symbols)))) (ieq (len x0.limits) (len x0.cells))) (ieq (len x0.caps) x0.accounts)) (ile (len x0.orders) 64))
noncomputable def OD:Cx:={ P:=PG,ety:=ety,fn:=look [],inl:=dR [],lp:=aS [] }
theorem V6 (x0:ax):bP OD 120 [.val .state] [.bool] x0=uy x0:=by kernel_rfl
def Ad:aO:=mkSpec [.val .state] [.bool] true (fun x=>uy x)
theorem YX:dI PG 120 Ad:=
 have K:CxR OD:=aP.cx (fun _=>rfl) (l:=[]) trivial
 aH K (aG (l:=[]) rfl trivial) (by kernel_rfl) (fun x y h=>(V6 x).trans h) rfl rfl
def kL (x0:aJ):Option (Bool):=some (bor (ay (ieq x0.newQty 0)) (ay (ieq x0.newPrice 0)))
noncomputable def WX:Cx:={ P:=PG,ety:=ety,fn:=look [],inl:=dR [],lp:=aS [] }
theorem aaH (x0:aJ):bP WX 194 [.val .order] [.bool] x0=kL x0:=by kernel_rfl
def oN:aO:=mkSpec [.val .order] [.bool] true (fun x=>kL x)
theorem LD:dI PG 194 oN:=
 have K:CxR WX:=aP.cx (fun _=>rfl) (l:=[]) trivial
 aH K (aG (l:=[]) rfl trivial) (by kernel_rfl) (fun x y h=>(aaH x).trans h) rfl rfl
def O1 (x0:yX):Option (yX):=cnd (ieq x0.kind 1) (some (yX.mk x0.kind x0.order x0.account x0.symbol x0.side x0.qty x0.price 0 0 0 false 0 0)) (cnd (ieq x0.kind 2) (some (yX.mk x0.kind x0.order 0 0 0 x0.qty x0.price 0 0 0 false 0 0)) (cnd (ieq x0.kind 3) (some (yX.mk x0.kind x0.order 0 0 0 0 0 0 0 0 false 0 0)) (cnd (ieq x0.kind 4) (some (yX.mk x0.kind 0 x0.account x0.symbol 0 0 0 x0.long x0.short x0.opn false 0 0)) (cnd (ieq x0.kind 5) (some (yX.mk x0.kind 0 0 0 0 0 0 0 0 0 x0.on 0 0)) (cnd (ieq x0.kind 6) (some (yX.mk x0.kind x0.order 0 0 0 x0.qty x0.price 0 0 0 false x0.seq x0.what)) (some (yX.mk x0.kind 0 0 0 0 0 0 0 0 0 false 0 0)))))))
noncomputable def acd:Cx:={ P:=PG,ety:=ety,fn:=look [],inl:=dR [],lp:=aS [] }
theorem aer (x0:yX):bP acd 127 [.val .recd] [.val .recd] x0=O1 x0:=by kernel_rfl
def Og:aO:=mkSpec [.val .recd] [.val .recd] true (fun x=>O1 x)
theorem ahD:dI PG 127 Og:=
 have K:CxR acd:=aP.cx (fun _=>rfl) (l:=[]) trivial
 aH K (aG (l:=[]) rfl trivial) (by kernel_rfl) (fun x y h=>(aer x).trans h) rfl rfl
def qH (x0:Int):Option (Bool):=some (band (ile 1 x0) (ile x0 1000000000000))
noncomputable def aeg:Cx:={ P:=PG,ety:=ety,fn:=look [],inl:=dR [],lp:=aS [] }
theorem agS (x0:Int):bP aeg 128 [.int .i64] [.bool] x0=qH x0:=by kernel_rfl
def Di:aO:=mkSpec [.int .i64] [.bool] true (fun x=>qH x)
theorem acv:dI PG 128 Di:=
 have K:CxR aeg:=aP.cx (fun _=>rfl) (l:=[]) trivial
 aH K (aG (l:=[]) rfl trivial) (by kernel_rfl) (fun x y h=>(agS x).trans h) rfl rfl
def sO (x0:Int) (x1:Int):Option (Bool):=some (band (ile 0 x0) (ilt x0 x1))
noncomputable def aeb:Cx:={ P:=PG,ety:=ety,fn:=look [],inl:=dR [],lp:=aS [] }
theorem afE (x0:Int) (x1:Int):bP aeb 129 [.int .i64,.int .i64] [.bool] (x0,x1)=sO x0 x1:=by kernel_rfl
def Qj:aO:=mkSpec [.int .i64,.int .i64] [.bool] true (fun x=>sO x.1 x.2)
theorem ajs:dI PG 129 Qj:=
 have K:CxR aeb:=aP.cx (fun _=>rfl) (l:=[]) trivial
 aH K (aG (l:=[]) rfl trivial) (by kernel_rfl) (fun x y h=>(afE x.1 x.2).trans h) rfl rfl
def rZ (x0:yX):Option (Bool):=some (band (ile 1 x0.qty) (ile 1 x0.price))
noncomputable def adV:Cx:={ P:=PG,ety:=ety,fn:=look [],inl:=dR [],lp:=aS [] }
theorem afP (x0:yX):bP adV 130 [.val .recd] [.bool] x0=rZ x0:=by kernel_rfl
def Ei:aO:=mkSpec [.val .recd] [.bool] true (fun x=>rZ x)
theorem abU:dI PG 130 Ei:=
 have K:CxR adV:=aP.cx (fun _=>rfl) (l:=[]) trivial
 aH K (aG (l:=[]) rfl trivial) (by kernel_rfl) (fun x y h=>(afP x).trans h) rfl rfl
def MC (x0:yX):Option (Bool):=af (cnd (ay (bor (ilt x0.seq 1) (ilt 1000000000 x0.seq))) (qH x0.order) (some false)) fun y0=>cnd (bor (bor (ilt x0.seq 1) (ilt 1000000000 x0.seq)) (ay y0)) (some false) (cnd (ieq x0.what 3) (some (band (ile 1 x0.qty) (ieq x0.price 0))) (cnd (ieq x0.what 5) (af (rZ x0) fun y1=>some y1) (cnd (ieq x0.what 1) (cnd (ieq x0.what 1) (some (band (ieq x0.qty 0) (ieq x0.price 0))) (some false)) (cnd (ieq x0.what 2) (cnd (ieq x0.what 2) (some (band (ieq x0.qty 0) (ieq x0.price 0))) (some false)) (cnd (ieq x0.what 4) (cnd (ieq x0.what 4) (some (band (ieq x0.qty 0) (ieq x0.price 0))) (some false)) (cnd (ieq x0.what 6) (some (band (ieq x0.qty 0) (ieq x0.price 0))) (some false)))))))
noncomputable def ad4:Cx:={ P:=PG,ety:=ety,fn:=look [(128,Di),(130,Ei)],inl:=dR [],lp:=aS [] }
theorem afm (x0:yX):bP ad4 131 [.val .recd] [.bool] x0=MC x0:=by kernel_rfl
def PY:aO:=mkSpec [.val .recd] [.bool] true (fun x=>MC x)
theorem ai5:dI PG 131 PY:=
 have K:CxR ad4:=aP.cx (fun _=>rfl) (l:=[(128,Di),(130,Ei)]) ⟨acv,abU,trivial⟩
 aH K (aG (l:=[]) rfl trivial) (by kernel_rfl) (fun x y h=>(afm x).trans h) rfl rfl
def wY (x0:yX):Option (Bool):=af (O1 x0) fun y0=>cnd (ay (band (ieq x0.kind y0.kind) (band (ieq x0.order y0.order) (band (ieq x0.account y0.account) (band (ieq x0.symbol y0.symbol) (band (ieq x0.side y0.side) (band (ieq x0.qty y0.qty) (band (ieq x0.price y0.price) (band (ieq x0.long y0.long) (band (ieq x0.short y0.short) (band (ieq x0.opn y0.opn) (band (beq x0.on y0.on) (band (ieq x0.seq y0.seq) (ieq x0.what y0.what)))))))))))))) (some false) (cnd (ieq x0.kind 1) (af (qH x0.order) fun y1=>af (cnd y1 (sO x0.account 8) (some false)) fun y2=>af (cnd (band y1 y2) (sO x0.symbol 8) (some false)) fun y3=>af (cnd (band (band (band y1 y2) y3) (bor (ieq x0.side 1) (ieq x0.side 2))) (rZ x0) (some false)) fun y4=>some (band (band (band (band y1 y2) y3) (bor (ieq x0.side 1) (ieq x0.side 2))) y4)) (cnd (ieq x0.kind 2) (af (qH x0.order) fun y5=>af (cnd y5 (rZ x0) (some false)) fun y6=>some (band y5 y6)) (cnd (ieq x0.kind 3) (af (qH x0.order) fun y7=>some y7) (cnd (ieq x0.kind 4) (af (sO x0.account 8) fun y8=>af (cnd (band y8 (ay (band (band (ieq x0.symbol (-1)) (ieq x0.long 0)) (ieq x0.short 0)))) (sO x0.symbol 8) (some false)) fun y9=>some (band (band y8 (bor (band (band (ieq x0.symbol (-1)) (ieq x0.long 0)) (ieq x0.short 0)) y9)) (ile 0 (tu (tu x0.long x0.short) x0.opn)))) (cnd (ieq x0.kind 5) (some true) (cnd (ieq x0.kind 6) (af (MC x0) fun y10=>some y10) (some false)))))))
noncomputable def adT:Cx:={ P:=PG,ety:=ety,fn:=look [(127,Og),(128,Di),(129,Qj),(130,Ei),(131,PY)],inl:=dR [],lp:=aS [] }
theorem afM (x0:yX):bP adT 60 [.val .recd] [.bool] x0=wY x0:=by kernel_rfl
def qw:aO:=mkSpec [.val .recd] [.bool] true (fun x=>wY x)
theorem Pg:dI PG 60 qw:=
 have K:CxR adT:=aP.cx (fun _=>rfl) (l:=[(127,Og),(128,Di),(129,Qj),(130,Ei),(131,PY)]) ⟨ahD,acv,ajs,abU,ai5,trivial⟩
 aH K (aG (l:=[]) rfl trivial) (by kernel_rfl) (fun x y h=>(afM x).trans h) rfl rfl
def Gn (x0:aJ):Option (Bool):=af (wY (yX.mk 1 x0.id x0.account x0.symbol x0.side x0.qty x0.price 0 0 0 false 0 0)) fun y0=>some y0
noncomputable def aaf:Cx:={ P:=PG,ety:=ety,fn:=look [(60,qw)],inl:=dR [],lp:=aS [] }
theorem ac9 (x0:aJ):bP aaf 218 [.val .order] [.bool] x0=Gn x0:=by kernel_rfl
def LK:aO:=mkSpec [.val .order] [.bool] true (fun x=>Gn x)
theorem afA:dI PG 218 LK:=
 have K:CxR aaf:=aP.cx (fun _=>rfl) (l:=[(60,qw)]) ⟨Pg,trivial⟩
 aH K (aG (l:=[]) rfl trivial) (by kernel_rfl) (fun x y h=>(ac9 x).trans h) rfl rfl
def kR (x0:aJ):Option (Bool):=af (kL x0) fun y0=>af (Gn x0) fun y1=>cnd (bor (bor (bor (bor (ay y1) (ilt x0.filled 0)) (ilt x0.qty x0.filled)) (ilt x0.version 0)) (band y0 (ilt (tu x0.newQty x0.newPrice) 1))) (some false) (cnd (ieq x0.phase 1) (some (band (band (ieq x0.filled 0) (ieq x0.version 0)) (ay y0))) (cnd (ieq x0.phase 2) (some (ilt x0.filled x0.qty)) (cnd (ieq x0.phase 3) (some (ay y0)) (some false))))
noncomputable def ZT:Cx:={ P:=PG,ety:=ety,fn:=look [(194,oN),(218,LK)],inl:=dR [],lp:=aS [] }
theorem adi (x0:aJ):bP ZT 180 [.val .order] [.bool] x0=kR x0:=by kernel_rfl
def fD:aO:=mkSpec [.val .order] [.bool] true (fun x=>kR x)
theorem su:dI PG 180 fD:=
 have K:CxR ZT:=aP.cx (fun _=>rfl) (l:=[(194,oN),(218,LK)]) ⟨LD,afA,trivial⟩
 aH K (aG (l:=[]) rfl trivial) (by kernel_rfl) (fun x y h=>(adi x).trans h) rfl rfl
def F5 (x0:dL):Option (Bool):=some (ile 0 (tu (tu x0.long x0.short) x0.opn))
noncomputable def ZX:Cx:={ P:=PG,ety:=ety,fn:=look [],inl:=dR [],lp:=aS [] }
theorem acP (x0:dL):bP ZX 182 [.val .expo] [.bool] x0=F5 x0:=by kernel_rfl
def Lh:aO:=mkSpec [.val .expo] [.bool] true (fun x=>F5 x)
theorem af0:dI PG 182 Lh:=
 have K:CxR ZX:=aP.cx (fun _=>rfl) (l:=[]) trivial
 aH K (aG (l:=[]) rfl trivial) (by kernel_rfl) (fun x y h=>(acP x).trans h) rfl rfl
def J5:LSh:=⟨74,[(0,.ro .i64)],[],[],[(4,.int .i64),(3,.int .i64)],[],[]⟩
@[reducible] def JH:List fO:=[⟨.exit 0,[(3,.int .i64)],[],[]⟩]
def ny (p0:(List Int)) (v0:Int) (v1:Int):Option ((Int×Int) ⊕ ((Int))):=cnd (ilt v0 (len p0)) (cnd (band (ile 0 v0) (ilt v0 (len p0))) (some (Sum.inl (wr .i64 (aj v0 1),tu v1 (ai p0 (itn v0))))) none) (some (Sum.inr v1))
def IL:dU:=J5.spec JH [12,13,14,15,18,19,20,21,22,23,3,16,17,4] (fun p v=>ny p v.1 v.2)
def oP (x0:(List Int)):Option (Int):=cnd (ilt (len x0) 1) none (cnd (ilt 0 (len x0)) (af (bD (fun v=>ny x0 v.fst v.snd) LF (1,ai x0 0)) fun y0=>some y0) none)
noncomputable def Hy:Cx:={ P:=PG,ety:=ety,fn:=look [],inl:=dR [],lp:=aS [(184,122,IL)] }
theorem Rk (p0:(List Int)) (v0:Int) (v1:Int):fC Hy 900 184 122 (dK PG 184 122) J5 JH p0 (v0,v1)=ny p0 v0 v1:=by kernel_rfl
theorem XE (x0:(List Int)):bP Hy 184 [.ro .i64] [.int .i64] x0=oP x0:=by kernel_rfl
def BM:aO:=mkSpec [.ro .i64] [.int .i64] true (fun x=>oP x)
theorem ZM:dI PG 184 BM:=
 have K:CxR Hy:=aP.cx (fun _=>rfl) (l:=[]) trivial
 aH K (aG (l:=[(184,122,IL)]) rfl ⟨bF (n:=900) (f:=184) K (by kernel_rfl) (by kernel_rfl) (by kernel_rfl) (by kernel_rfl) (by kernel_rfl) (fun p v r h=>(Rk p v.1 v.2).trans h),trivial⟩) (by kernel_rfl) (fun x y h=>(XE x).trans h) rfl rfl
def KG:LSh:=⟨73,[(10,.int .i64),(9,.ro .order)],[(1,.mp 8 0)],[(8,[.val .state])],[(11,.int .i64),(3,.int .i64),(2,.bool)],[],[]⟩
@[reducible] def KL:List fO:=[⟨.ret,[(2,.bool)],[],[]⟩,⟨.exit 0,[(3,.int .i64),(2,.bool)],[],[]⟩]
def og (p0:Int) (p1:(List aJ)) (p2:ax) (v0:Int) (v1:Int) (v2:Bool):Option ((Int×Int×Bool) ⊕ ((Bool) ⊕ ((Int×Bool)))):=cnd (ilt v0 p0) (cnd (band (ile 0 v0) (ilt v0 (len p1))) (af (kR (ai p1 (itn v0))) fun y0=>cnd (bor (bor (bor (bor (ay y0) (ieq (ai p1 (itn v0)).phase 3)) (ile p2.accounts (ai p1 (itn v0)).account)) (ile p2.symbols (ai p1 (itn v0)).symbol)) (ile (ai p1 (itn v0)).id v1)) (some (Sum.inr (Sum.inl false))) (some (Sum.inl (wr .i64 (aj v0 1),(ai p1 (itn v0)).id,v2)))) none) (some (Sum.inr (Sum.inr (v1,v2))))
def Kq:dU:=KG.spec KL [12,13,14,5,15,16,17,18,19,20,21,22,23,24,25,26,27,28,29,30,31,32,33,34,35,36,37,38,39,40,41,42,43,44,2,45,46,3,47,11] (fun p v=>og p.1 p.2.1 p.2.2 v.1 v.2.1 v.2.2)
def jV:LSh:=⟨210,[(7,.int .i64),(0,.ro .expo)],[(1,.fn 181 [])],[],[(8,.int .i64),(4,.int .i64)],[],[]⟩
@[reducible] def jW:List fO:=[⟨.ret,[(4,.int .i64)],[],[]⟩,⟨.exit 0,[(4,.int .i64)],[],[]⟩]
def dn (p0:Int) (p1:(List dL)) (v0:Int) (v1:Int):Option ((Int×Int) ⊕ ((Int) ⊕ ((Int)))):=cnd (ilt v0 p0) (cnd (band (ile 0 v0) (ilt v0 (len p1))) (af (F5 (ai p1 (itn v0))) fun y0=>cnd (ay y0) (some (Sum.inr (Sum.inl v0))) (some (Sum.inl (wr .i64 (aj v0 1),v1)))) none) (some (Sum.inr (Sum.inr v1)))
def jR:dU:=jV.spec jW [9,10,5,11,12,13,14,15,16,17,4,18,8] (fun p v=>dn p.1 p.2 v.1 v.2)
def vP (x0:ax):Option (Bool):=af (bD (fun v=>og (len x0.orders) x0.orders x0 v.fst v.snd.fst v.snd.snd) LF (0,0,false)) fun y0=>gY y0 (fun y1=>some y1) fun y1=>cnd (band (band (band (band (band (ile y1.fst x0.last) (ile x0.last 1000000000000)) (ile 0 x0.seq)) (ile x0.seq 1000000000)) (ile 0 x0.lsn)) (ile x0.lsn 1000000000)) (af (bD (fun v=>dn (len x0.limits) x0.limits v.fst v.snd) LF (0,0)) fun y2=>gY y2 (fun y3=>af (cnd (band (band (band (band (band (band (ile y1.fst x0.last) (ile x0.last 1000000000000)) (ile 0 x0.seq)) (ile x0.seq 1000000000)) (ile 0 x0.lsn)) (ile x0.lsn 1000000000)) (ay (ile 0 y3))) (oP x0.caps) (some 0)) fun y4=>some (band (band (band (band (band (band (band (band (ile y1.fst x0.last) (ile x0.last 1000000000000)) (ile 0 x0.seq)) (ile x0.seq 1000000000)) (ile 0 x0.lsn)) (ile x0.lsn 1000000000)) (ay (ile 0 y3))) (ile 0 y4)) (ile 0 x0.last))) fun y3=>af (cnd (bor (band (band (band (band (band (ile y1.fst x0.last) (ile x0.last 1000000000000)) (ile 0 x0.seq)) (ile x0.seq 1000000000)) (ile 0 x0.lsn)) (ile x0.lsn 1000000000)) false) (oP x0.caps) (some 0)) fun y5=>some (band (band (bor (band (band (band (band (band (ile y1.fst x0.last) (ile x0.last 1000000000000)) (ile 0 x0.seq)) (ile x0.seq 1000000000)) (ile 0 x0.lsn)) (ile x0.lsn 1000000000)) false) (ile 0 y5)) (ile 0 x0.last))) (af (cnd (bor (band (band (band (band (band (ile y1.fst x0.last) (ile x0.last 1000000000000)) (ile 0 x0.seq)) (ile x0.seq 1000000000)) (ile 0 x0.lsn)) (ile x0.lsn 1000000000)) false) (oP x0.caps) (some 0)) fun y6=>some (band (band (bor (band (band (band (band (band (ile y1.fst x0.last) (ile x0.last 1000000000000)) (ile 0 x0.seq)) (ile x0.seq 1000000000)) (ile 0 x0.lsn)) (ile x0.lsn 1000000000)) false) (ile 0 y6)) (ile 0 x0.last)))
noncomputable def Aa:Cx:={ P:=PG,ety:=ety,fn:=look [(180,fD),(182,Lh),(184,BM)],inl:=dR [181,183,219],lp:=aS [(121,58,Kq),(2232058426242137383131,26,jR)] }
theorem Ti (p0:Int) (p1:(List aJ)) (p2:ax) (v0:Int) (v1:Int) (v2:Bool):fC Aa 900 121 58 (dK PG 121 58) KG KL (p0,p1,p2) (v0,v1,v2)=og p0 p1 p2 v0 v1 v2:=by kernel_rfl
theorem qI (p0:Int) (p1:(List dL)) (v0:Int) (v1:Int):fC Aa 900 2232058426242137383131 26 (dK PG 219 26) jV jW (p0,p1) (v0,v1)=dn p0 p1 v0 v1:=by kernel_rfl
theorem Xz (x0:ax):bP Aa 121 [.val .state] [.bool] x0=vP x0:=by kernel_rfl
def BK:aO:=mkSpec [.val .state] [.bool] true (fun x=>vP x)
theorem Zu:dI PG 121 BK:=
 have K:CxR Aa:=aP.cx (fun _=>rfl) (l:=[(180,fD),(182,Lh),(184,BM)]) ⟨su,af0,ZM,trivial⟩
 aH K (aG (l:=[(121,58,Kq),(2232058426242137383131,26,jR)]) rfl ⟨bF (n:=900) (f:=121) K (by kernel_rfl) (by kernel_rfl) (by kernel_rfl) (by kernel_rfl) (by kernel_rfl) (fun p v r h=>(Ti p.1 p.2.1 p.2.2 v.1 v.2.1 v.2.2).trans h),
  bF (n:=900) (f:=219) K (by kernel_rfl) (by kernel_rfl) (by kernel_rfl) (by kernel_rfl) (by kernel_rfl) (fun p v r h=>(qI p.1 p.2 v.1 v.2).trans h),trivial⟩) (by kernel_rfl) (fun x y h=>(Xz x).trans h) rfl rfl
def bU (x0:ax) (x1:Int) (x2:Int):Option (Int):=some (wr .i64 (aj (wr .i64 (dX x1 x0.symbols)) x2))
noncomputable def Nk:Cx:={ P:=PG,ety:=ety,fn:=look [],inl:=dR [],lp:=aS [] }
theorem TT (x0:ax) (x1:Int) (x2:Int):bP Nk 137 [.val .state,.int .i64,.int .i64] [.int .i64] (x0,x1,x2)=bU x0 x1 x2:=by kernel_rfl
def iq:aO:=mkSpec [.val .state,.int .i64,.int .i64] [.int .i64] true (fun x=>bU x.1 x.2.1 x.2.2)
theorem wG:dI PG 137 iq:=
 have K:CxR Nk:=aP.cx (fun _=>rfl) (l:=[]) trivial
 aH K (aG (l:=[]) rfl trivial) (by kernel_rfl) (fun x y h=>(TT x.1 x.2.1 x.2.2).trans h) rfl rfl
def tH (x0:Int) (x1:Int):Option (Int×Int):=cnd (band (ay (beq (ilt x0 (wr .i64 (aj x0 x1))) (ilt 0 x1))) (ay (ieq x1 0))) (some (0,3)) (some (wr .i64 (aj x0 x1),0))
noncomputable def aib:Cx:={ P:=PG,ety:=ety,fn:=look [],inl:=dR [],lp:=aS [] }
theorem aj0 (x0:Int) (x1:Int):bP aib 59 [.int .i64,.int .i64] [.int .i64,.int .i64] (x0,x1)=tH x0 x1:=by kernel_rfl
def mP:aO:=mkSpec [.int .i64,.int .i64] [.int .i64,.int .i64] true (fun x=>tH x.1 x.2)
theorem LM:dI PG 59 mP:=
 have K:CxR aib:=aP.cx (fun _=>rfl) (l:=[]) trivial
 aH K (aG (l:=[]) rfl trivial) (by kernel_rfl) (fun x y h=>(aj0 x.1 x.2).trans h) rfl rfl
def Bz (x0:Int) (x1:Int):Option (Int×Int):=cnd (band (ay (beq (ilt (wr .i64 (aI x0 x1)) x0) (ilt 0 x1))) (ay (ieq x1 0))) (some (0,3)) (some (wr .i64 (aI x0 x1),0))
noncomputable def ahQ:Cx:={ P:=PG,ety:=ety,fn:=look [],inl:=dR [],lp:=aS [] }
theorem aja (x0:Int) (x1:Int):bP ahQ 195 [.int .i64,.int .i64] [.int .i64,.int .i64] (x0,x1)=Bz x0 x1:=by kernel_rfl
def zI:aO:=mkSpec [.int .i64,.int .i64] [.int .i64,.int .i64] true (fun x=>Bz x.1 x.2)
theorem aaD:dI PG 195 zI:=
 have K:CxR ahQ:=aP.cx (fun _=>rfl) (l:=[]) trivial
 aH K (aG (l:=[]) rfl trivial) (by kernel_rfl) (fun x y h=>(aja x.1 x.2).trans h) rfl rfl
def H7 (x0:aK):Option (dL×Bool):=af (tH x0.pos x0.buy) fun y0=>af (Bz x0.sell x0.pos) fun y1=>some (dL.mk y0.fst y1.fst x0.opn,band (ieq y0.snd 0) (ieq y1.snd 0))
noncomputable def ad5:Cx:={ P:=PG,ety:=ety,fn:=look [(59,mP),(195,zI)],inl:=dR [],lp:=aS [] }
theorem agF (x0:aK):bP ad5 185 [.val .cell] [.val .expo,.bool] x0=H7 x0:=by kernel_rfl
def Ea:aO:=mkSpec [.val .cell] [.val .expo,.bool] true (fun x=>H7 x)
theorem abT:dI PG 185 Ea:=
 have K:CxR ad5:=aP.cx (fun _=>rfl) (l:=[(59,mP),(195,zI)]) ⟨LM,aaD,trivial⟩
 aH K (aG (l:=[]) rfl trivial) (by kernel_rfl) (fun x y h=>(agF x).trans h) rfl rfl
def jI (x0:aK):Option (Bool):=af (H7 x0) fun y0=>some (band y0.snd (ile 0 (tu (tu x0.buy x0.sell) x0.opn)))
noncomputable def acg:Cx:={ P:=PG,ety:=ety,fn:=look [(185,Ea)],inl:=dR [],lp:=aS [] }
theorem aeK (x0:aK):bP acg 123 [.val .cell] [.bool] x0=jI x0:=by kernel_rfl
def kP:aO:=mkSpec [.val .cell] [.bool] true (fun x=>jI x)
theorem FV:dI PG 123 kP:=
 have K:CxR acg:=aP.cx (fun _=>rfl) (l:=[(185,Ea)]) ⟨abT,trivial⟩
 aH K (aG (l:=[]) rfl trivial) (by kernel_rfl) (fun x y h=>(aeK x).trans h) rfl rfl
def KX (x0:Int):Option (Int):=cnd (ilt x0 0) (some (wr .u64 (aI 0 (wr .u64 x0)))) (some (wr .u64 x0))
noncomputable def afR:Cx:={ P:=PG,ety:=ety,fn:=look [],inl:=dR [],lp:=aS [] }
theorem ahG (x0:Int):bP afR 238 [.int .i64] [.int .u64] x0=KX x0:=by kernel_rfl
def TN:aO:=mkSpec [.int .i64] [.int .u64] true (fun x=>KX x)
theorem akl:dI PG 238 TN:=
 have K:CxR afR:=aP.cx (fun _=>rfl) (l:=[]) trivial
 aH K (aG (l:=[]) rfl trivial) (by kernel_rfl) (fun x y h=>(ahG x).trans h) rfl rfl
def Pj (x0:Int) (x1:Int):Option (Int×Int):=af (KX x0) fun y0=>af (KX x1) fun y1=>af (tX y0 y1) fun y2=>cnd (band (band (ieq y2.fst 0) (ay (beq (ilt x0 0) (ilt x1 0)))) (ile y2.snd 9223372036854775808)) (some (wr .i64 (wr .u64 (aI 0 y2.snd)),0)) (cnd (band (ieq y2.fst 0) (ile y2.snd 9223372036854775807)) (some (wr .i64 y2.snd,0)) (some (0,3)))
noncomputable def aiS:Cx:={ P:=PG,ety:=ety,fn:=look [(238,TN),(176,sS)],inl:=dR [],lp:=aS [] }
theorem ajW (x0:Int) (x1:Int):bP aiS 235 [.int .i64,.int .i64] [.int .i64,.int .i64] (x0,x1)=Pj x0 x1:=by kernel_rfl
def VT:aO:=mkSpec [.int .i64,.int .i64] [.int .i64,.int .i64] true (fun x=>Pj x.1 x.2)
theorem alU:dI PG 235 VT:=
 have K:CxR aiS:=aP.cx (fun _=>rfl) (l:=[(238,TN),(176,sS)]) ⟨akl,Qp,trivial⟩
 aH K (aG (l:=[]) rfl trivial) (by kernel_rfl) (fun x y h=>(ajW x.1 x.2).trans h) rfl rfl
def Pq (x0:Int) (x1:Int):Option (Int):=some (imax x0 x1)
noncomputable def aic:Cx:={ P:=PG,ety:=ety,fn:=look [],inl:=dR [],lp:=aS [] }
theorem ai3 (x0:Int) (x1:Int):bP aic 236 [.int .i64,.int .i64] [.int .i64] (x0,x1)=Pq x0 x1:=by kernel_rfl
def JR:aO:=mkSpec [.int .i64,.int .i64] [.int .i64] true (fun x=>Pq x.1 x.2)
theorem afG:dI PG 236 JR:=
 have K:CxR aic:=aP.cx (fun _=>rfl) (l:=[]) trivial
 aH K (aG (l:=[]) rfl trivial) (by kernel_rfl) (fun x y h=>(ai3 x.1 x.2).trans h) rfl rfl
def BA (x0:aJ):Option (Int×Int):=af (kR x0) fun y0=>cnd (ay y0) (some (0,1)) (cnd (ieq x0.phase 3) (some (0,0)) (af (Pj (wr .i64 (aI x0.qty x0.filled)) x0.price) fun y1=>cnd (bor (ay (ieq y1.snd 0)) (ile x0.newQty x0.filled)) (some y1) (af (Pj (wr .i64 (aI x0.newQty x0.filled)) x0.newPrice) fun y2=>cnd (ay (ieq y2.snd 0)) (some (0,y2.snd)) (af (Pq y1.fst y2.fst) fun y3=>some (y3,0)))))
noncomputable def ZY:Cx:={ P:=PG,ety:=ety,fn:=look [(180,fD),(235,VT),(236,JR)],inl:=dR [],lp:=aS [] }
theorem adp (x0:aJ):bP ZY 220 [.val .order] [.int .i64,.int .i64] x0=BA x0:=by kernel_rfl
def yN:aO:=mkSpec [.val .order] [.int .i64,.int .i64] true (fun x=>BA x)
theorem YW:dI PG 220 yN:=
 have K:CxR ZY:=aP.cx (fun _=>rfl) (l:=[(180,fD),(235,VT),(236,JR)]) ⟨su,alU,afG,trivial⟩
 aH K (aG (l:=[]) rfl trivial) (by kernel_rfl) (fun x y h=>(adp x).trans h) rfl rfl
def xk (x0:aJ):Option (Int):=af (kR x0) fun y0=>cnd (bor (ay y0) (ieq x0.phase 3)) (some 0) (af (Pq x0.qty x0.newQty) fun y1=>some (wr .i64 (aI y1 x0.filled)))
noncomputable def abK:Cx:={ P:=PG,ety:=ety,fn:=look [(180,fD),(236,JR)],inl:=dR [],lp:=aS [] }
theorem aeJ (x0:aJ):bP abK 221 [.val .order] [.int .i64] x0=xk x0:=by kernel_rfl
def AU:aO:=mkSpec [.val .order] [.int .i64] true (fun x=>xk x)
theorem aae:dI PG 221 AU:=
 have K:CxR abK:=aP.cx (fun _=>rfl) (l:=[(180,fD),(236,JR)]) ⟨su,afG,trivial⟩
 aH K (aG (l:=[]) rfl trivial) (by kernel_rfl) (fun x y h=>(aeJ x).trans h) rfl rfl
def jG (x0:aK) (x1:aJ):Option (aK×Int):=af (jI x0) fun y0=>af (cnd (ay (ay y0)) (kR x1) (some false)) fun y1=>cnd (bor (ay y0) (ay y1)) (some (x0,1)) (af (BA x1) fun y2=>cnd (ieq x1.side 2) (af (xk x1) fun y3=>af (tH x0.sell y3) fun y4=>af (tH x0.opn y2.fst) fun y5=>af (cnd (ay (bor (bor (ay (ieq y2.snd 0)) (ay (ieq y4.snd 0))) (ay (ieq y5.snd 0)))) (jI (aK.mk x0.pos x0.buy y4.fst y5.fst)) (some false)) fun y6=>cnd (bor (bor (bor (ay (ieq y2.snd 0)) (ay (ieq y4.snd 0))) (ay (ieq y5.snd 0))) (ay y6)) (some (x0,3)) (some (aK.mk x0.pos x0.buy y4.fst y5.fst,0))) (af (xk x1) fun y7=>af (tH x0.buy y7) fun y8=>af (tH x0.opn y2.fst) fun y9=>af (cnd (ay (bor (bor (ay (ieq y2.snd 0)) (ay (ieq y8.snd 0))) (ay (ieq y9.snd 0)))) (jI (aK.mk x0.pos y8.fst x0.sell y9.fst)) (some false)) fun y10=>cnd (bor (bor (bor (ay (ieq y2.snd 0)) (ay (ieq y8.snd 0))) (ay (ieq y9.snd 0))) (ay y10)) (some (x0,3)) (some (aK.mk x0.pos y8.fst x0.sell y9.fst,0))))
noncomputable def adQ:Cx:={ P:=PG,ety:=ety,fn:=look [(123,kP),(180,fD),(220,yN),(221,AU),(59,mP)],inl:=dR [188],lp:=aS [] }
theorem afB (x0:aK) (x1:aJ):bP adQ 138 [.val .cell,.val .order] [.val .cell,.int .i64] (x0,x1)=jG x0 x1:=by kernel_rfl
def vJ:aO:=mkSpec [.val .cell,.val .order] [.val .cell,.int .i64] true (fun x=>jG x.1 x.2)
theorem WG:dI PG 138 vJ:=
 have K:CxR adQ:=aP.cx (fun _=>rfl) (l:=[(123,kP),(180,fD),(220,yN),(221,AU),(59,mP)]) ⟨FV,su,YW,aae,LM,trivial⟩
 aH K (aG (l:=[]) rfl trivial) (by kernel_rfl) (fun x y h=>(afB x.1 x.2).trans h) rfl rfl
def Ig:LSh:=⟨79,[(18,.int .i64),(17,.ro .order)],[(4,.mf 64),(1,.mp 8 0)],[(8,[.val .state])],[(19,.int .i64),(3,.bool),(2,.buf .cell)],[],[(64,.cell)]⟩
@[reducible] def Ii:List fO:=[⟨.ret,[(3,.bool),(2,.buf .cell)],[],[(64,.cell)]⟩,⟨.exit 0,[(3,.bool),(2,.buf .cell)],[],[(64,.cell)]⟩]
def lM (p0:Int) (p1:(List aJ)) (p2:ax) (v0:Int) (v1:Bool) (v2:(List aK)) (v3:(List aK)):Option ((Int×Bool×(List aK)×(List aK)) ⊕ ((Bool×(List aK)×(List aK)) ⊕ ((Bool×(List aK)×(List aK))))):=cnd (ilt v0 p0) (cnd (band (ile 0 v0) (ilt v0 (len p1))) (af (bU p2 (ai p1 (itn v0)).account (ai p1 (itn v0)).symbol) fun y0=>cnd (band (ile 0 y0) (ilt y0 (len v3))) (af (jG (ai v3 (itn y0)) (ai p1 (itn v0))) fun y1=>cnd (ay (ieq y1.snd 0)) (some (Sum.inr (Sum.inl (false,[],v3)))) (cnd (band (ile 0 y0) (ilt y0 (len v3))) (some (Sum.inl (wr .i64 (aj v0 1),v1,v2,bT v3 (itn y0) y1.fst))) none)) none) none) (some (Sum.inr (Sum.inr (v1,v2,v3))))
def Gy:dU:=Ig.spec Ii [20,21,22,6,23,24,25,26,27,28,7,30,31,32,33,34,35,29,36,37,8,9,38,39,2,3,40,41,42,43,44,19] (fun p v=>lM p.1 p.2.1 p.2.2 v.1 v.2.1 v.2.2.1 v.2.2.2)
def sF (x0:ax):Option ((List aK)×Bool):=cnd (band (band (ile 0 (len x0.cells)) (ile (len x0.cells) (len x0.cells))) (ile (len x0.cells) 68719476736)) (af (bD (fun v=>lM (len x0.orders) x0.orders x0 v.fst v.snd.fst v.snd.snd.fst v.snd.snd.snd) LF (0,false,[],jO aK (itn (len x0.cells)))) fun y0=>gY y0 (fun y1=>some (y1.snd.fst,y1.fst)) fun y1=>some (y1.snd.snd,true)) none
noncomputable def D6:Cx:={ P:=PG,ety:=ety,fn:=look [(137,iq),(138,vJ)],inl:=dR [],lp:=aS [(122,58,Gy)] }
theorem Qe (p0:Int) (p1:(List aJ)) (p2:ax) (v0:Int) (v1:Bool) (v2:(List aK)) (v3:(List aK)):fC D6 900 122 58 (dK PG 122 58) Ig Ii (p0,p1,p2) (v0,v1,v2,v3)=lM p0 p1 p2 v0 v1 v2 v3:=by kernel_rfl
theorem UL (x0:ax):bP D6 122 [.val .state] [.buf .cell,.bool] x0=sF x0:=by kernel_rfl
def yL:aO:=mkSpec [.val .state] [.buf .cell,.bool] true (fun x=>sF x)
theorem XB:dI PG 122 yL:=
 have K:CxR D6:=aP.cx (fun _=>rfl) (l:=[(137,iq),(138,vJ)]) ⟨wG,WG,trivial⟩
 aH K (aG (l:=[(122,58,Gy)]) rfl ⟨bF (n:=900) (f:=122) K (by kernel_rfl) (by kernel_rfl) (by kernel_rfl) (by kernel_rfl) (by kernel_rfl) (fun p v r h=>(Qe p.1 p.2.1 p.2.2 v.1 v.2.1 v.2.2.1 v.2.2.2).trans h),trivial⟩) (by kernel_rfl) (fun x y h=>(UL x).trans h) rfl rfl
def kY (x0:ax) (x1:Int):Option ((List aK)):=cnd (band (band (ile 0 (wr .i64 (dX x1 x0.symbols))) (ile (wr .i64 (dX x1 x0.symbols)) (wr .i64 (dX (wr .i64 (aj x1 1)) x0.symbols)))) (ile (wr .i64 (dX (wr .i64 (aj x1 1)) x0.symbols)) (len x0.cells))) (some (aA (aN x0.cells (itn (wr .i64 (dX x1 x0.symbols)))) (itn (aI (wr .i64 (dX (wr .i64 (aj x1 1)) x0.symbols)) (wr .i64 (dX x1 x0.symbols)))))) none
noncomputable def KF:Cx:={ P:=PG,ety:=ety,fn:=look [],inl:=dR [],lp:=aS [] }
theorem SY (x0:ax) (x1:Int):bP KF 125 [.val .state,.int .i64] [.ro .cell] (x0,x1)=kY x0 x1:=by kernel_rfl
def oz:aO:=mkSpec [.val .state,.int .i64] [.ro .cell] false (fun x=>kY x.1 x.2)
theorem JL:dI PG 125 oz:=
 have K:CxR KF:=aP.cx (fun _=>rfl) (l:=[]) trivial
 aH K (aG (l:=[]) rfl trivial) (by kernel_rfl) (fun x y h=>(SY x.1 x.2).trans h) rfl rfl
def YL:LSh:=⟨71,[(10,.int .i64),(9,.ro .i64)],[],[],[(11,.int .i64),(4,.int .i64),(3,.int .i64),(2,.int .i64)],[],[]⟩
@[reducible] def YD:List fO:=[⟨.ret,[(3,.int .i64),(2,.int .i64)],[],[]⟩,⟨.exit 0,[(4,.int .i64),(3,.int .i64),(2,.int .i64)],[],[]⟩]
def yB (p0:Int) (p1:(List Int)) (v0:Int) (v1:Int) (v2:Int) (v3:Int):Option ((Int×Int×Int×Int) ⊕ ((Int×Int) ⊕ ((Int×Int×Int)))):=cnd (ilt v0 p0) (cnd (band (ile 0 v0) (ilt v0 (len p1))) (af (tH v1 (ai p1 (itn v0))) fun y0=>cnd (ay (ieq y0.snd 0)) (some (Sum.inr (Sum.inl (y0.snd,0)))) (some (Sum.inl (wr .i64 (aj v0 1),y0.fst,v2,v3)))) none) (some (Sum.inr (Sum.inr (v1,v2,v3))))
def Xf:dU:=YL.spec YD [12,13,14,6,16,17,18,15,19,20,7,8,21,22,23,2,3,24,4,25,11] (fun p v=>yB p.1 p.2 v.1 v.2.1 v.2.2.1 v.2.2.2)
def MN (x0:(List Int)):Option (Int×Int):=af (bD (fun v=>yB (len x0) x0 v.fst v.snd.fst v.snd.snd.fst v.snd.snd.snd) LF (0,0,0,0)) fun y0=>gY y0 (fun y1=>some (y1.snd,y1.fst)) fun y1=>some (y1.fst,0)
noncomputable def Yp:Cx:={ P:=PG,ety:=ety,fn:=look [(59,mP)],inl:=dR [],lp:=aS [(186,58,Xf)] }
theorem abO (p0:Int) (p1:(List Int)) (v0:Int) (v1:Int) (v2:Int) (v3:Int):fC Yp 900 186 58 (dK PG 186 58) YL YD (p0,p1) (v0,v1,v2,v3)=yB p0 p1 v0 v1 v2 v3:=by kernel_rfl
theorem af9 (x0:(List Int)):bP Yp 186 [.ro .i64] [.int .i64,.int .i64] x0=MN x0:=by kernel_rfl
def PN:aO:=mkSpec [.ro .i64] [.int .i64,.int .i64] true (fun x=>MN x)
theorem ajP:dI PG 186 PN:=
 have K:CxR Yp:=aP.cx (fun _=>rfl) (l:=[(59,mP)]) ⟨LM,trivial⟩
 aH K (aG (l:=[(186,58,Xf)]) rfl ⟨bF (n:=900) (f:=186) K (by kernel_rfl) (by kernel_rfl) (by kernel_rfl) (by kernel_rfl) (by kernel_rfl) (fun p v r h=>(abO p.1 p.2 v.1 v.2.1 v.2.2.1 v.2.2.2).trans h),trivial⟩) (by kernel_rfl) (fun x y h=>(af9 x).trans h) rfl rfl
def U5:LSh:=⟨71,[(8,.int .i64),(7,.ro .cell)],[],[],[(9,.int .i64),(4,.buf .i64)],[],[]⟩
@[reducible] def UK:List fO:=[⟨.exit 0,[(4,.buf .i64)],[],[]⟩]
def uZ (p0:Int) (p1:(List aK)) (v0:Int) (v1:(List Int)):Option ((Int×(List Int)) ⊕ (((List Int)))):=cnd (ilt v0 p0) (cnd (band (ile 0 v0) (ilt v0 (len p1))) (cnd (ile (len (dB v1 [(ai p1 (itn v0)).opn])) 68719476736) (some (Sum.inl (wr .i64 (aj v0 1),dB v1 [(ai p1 (itn v0)).opn]))) none) none) (some (Sum.inr v1))
def RY:dU:=U5.spec UK [10,11,12,6,13,14,15,16,17,4,18,9] (fun p v=>uZ p.1 p.2 v.1 v.2)
def xO (x0:(List aK)):Option (Int×Int):=af (bD (fun v=>uZ (len x0) x0 v.fst v.snd) LF (0,[])) fun y0=>af (MN y0) fun y1=>some y1
noncomputable def TG:Cx:={ P:=PG,ety:=ety,fn:=look [(186,PN)],inl:=dR [],lp:=aS [(124,58,RY)] }
theorem Zw (p0:Int) (p1:(List aK)) (v0:Int) (v1:(List Int)):fC TG 900 124 58 (dK PG 124 58) U5 UK (p0,p1) (v0,v1)=uZ p0 p1 v0 v1:=by kernel_rfl
theorem acU (x0:(List aK)):bP TG 124 [.ro .cell] [.int .i64,.int .i64] x0=xO x0:=by kernel_rfl
def yE:aO:=mkSpec [.ro .cell] [.int .i64,.int .i64] true (fun x=>xO x)
theorem YI:dI PG 124 yE:=
 have K:CxR TG:=aP.cx (fun _=>rfl) (l:=[(186,PN)]) ⟨ajP,trivial⟩
 aH K (aG (l:=[(124,58,RY)]) rfl ⟨bF (n:=900) (f:=124) K (by kernel_rfl) (by kernel_rfl) (by kernel_rfl) (by kernel_rfl) (by kernel_rfl) (fun p v r h=>(Zw p.1 p.2 v.1 v.2).trans h),trivial⟩) (by kernel_rfl) (fun x y h=>(acU x).trans h) rfl rfl
def IB:LSh:=⟨89,[(28,.int .i64),(27,.ro .cell)],[(3,.mf 96)],[],[(29,.int .i64),(2,.bool)],[],[(96,.cell)]⟩
@[reducible] def Jc:List fO:=[⟨.ret,[(2,.bool)],[],[(96,.cell)]⟩,⟨.exit 0,[(2,.bool)],[],[(96,.cell)]⟩]
def lF (p0:Int) (p1:(List aK)) (v0:Int) (v1:Bool) (v2:(List aK)):Option ((Int×Bool×(List aK)) ⊕ ((Bool×(List aK)) ⊕ ((Bool×(List aK))))):=cnd (ilt v0 p0) (cnd (band (ile 0 v0) (ilt v0 (len p1))) (cnd (band (ile 0 v0) (ilt v0 (len v2))) (af (jI (ai p1 (itn v0))) fun y0=>cnd (bor (band (ile 0 v0) (ilt v0 (len (bT v2 (itn v0) (aK.mk (ai p1 (itn v0)).pos (ai v2 (itn v0)).buy (ai v2 (itn v0)).sell (ai v2 (itn v0)).opn))))) (ay (ay (ay y0)))) (cnd (bor (ay y0) (ay (band (ieq (ai (bT v2 (itn v0) (aK.mk (ai p1 (itn v0)).pos (ai v2 (itn v0)).buy (ai v2 (itn v0)).sell (ai v2 (itn v0)).opn)) (itn v0)).pos (ai p1 (itn v0)).pos) (band (ieq (ai (bT v2 (itn v0) (aK.mk (ai p1 (itn v0)).pos (ai v2 (itn v0)).buy (ai v2 (itn v0)).sell (ai v2 (itn v0)).opn)) (itn v0)).buy (ai p1 (itn v0)).buy) (band (ieq (ai (bT v2 (itn v0) (aK.mk (ai p1 (itn v0)).pos (ai v2 (itn v0)).buy (ai v2 (itn v0)).sell (ai v2 (itn v0)).opn)) (itn v0)).sell (ai p1 (itn v0)).sell) (ieq (ai (bT v2 (itn v0) (aK.mk (ai p1 (itn v0)).pos (ai v2 (itn v0)).buy (ai v2 (itn v0)).sell (ai v2 (itn v0)).opn)) (itn v0)).opn (ai p1 (itn v0)).opn)))))) (some (Sum.inr (Sum.inl (false,bT v2 (itn v0) (aK.mk (ai p1 (itn v0)).pos (ai v2 (itn v0)).buy (ai v2 (itn v0)).sell (ai v2 (itn v0)).opn))))) (some (Sum.inl (wr .i64 (aj v0 1),v1,bT v2 (itn v0) (aK.mk (ai p1 (itn v0)).pos (ai v2 (itn v0)).buy (ai v2 (itn v0)).sell (ai v2 (itn v0)).opn))))) none) none) none) (some (Sum.inr (Sum.inr (v1,v2))))
def FX:dU:=IB.spec Jc [30,31,32,33,6,5,34,35,36,37,38,39,40,41,42,43,44,45,46,47,48,49,50,2,51,29] (fun p v=>lF p.1 p.2 v.1 v.2.1 v.2.2)
def Je:LSh:=⟨162,[(54,.int .i64)],[(1,.mp 8 0)],[(8,[.val .state])],[(55,.int .i64),(2,.bool)],[],[]⟩
@[reducible] def H8:List fO:=[⟨.ret,[(2,.bool)],[],[]⟩,⟨.exit 2,[(2,.bool)],[],[]⟩]
def lI (p0:Int) (p1:ax) (v0:Int) (v1:Bool):Option ((Int×Bool) ⊕ ((Bool) ⊕ ((Bool)))):=cnd (ilt v0 p0) (af (kY p1 v0) fun y0=>af (xO y0) fun y1=>cnd (ay (ieq y1.snd 0)) (some (Sum.inr (Sum.inl false))) (some (Sum.inl (wr .i64 (aj v0 1),v1)))) (some (Sum.inr (Sum.inr v1)))
def Gf:dU:=Je.spec H8 [56,57,7,59,60,61,62,58,63,64,8,9,65,66,2,67,55] (fun p v=>lI p.1 p.2 v.1 v.2)
def xX (x0:ax):Option (Bool):=af (uy x0) fun y0=>af (cnd (ay (ay y0)) (vP x0) (some false)) fun y1=>cnd (bor (ay y0) (ay y1)) (some false) (af (sF x0) fun y2=>cnd (ay y2.snd) (some false) (af (bD (fun v=>lF (len x0.cells) x0.cells v.fst v.snd.fst v.snd.snd) LF (0,false,y2.fst)) fun y3=>gY y3 (fun y4=>some y4.fst) fun y4=>af (bD (fun v=>lI x0.accounts x0 v.fst v.snd) LF (0,y4.fst)) fun y5=>gY y5 (fun y6=>some y6) fun y6=>some true))
noncomputable def xZ:Cx:={ P:=PG,ety:=ety,fn:=look [(120,Ad),(121,BK),(122,yL),(123,kP),(125,oz),(124,yE)],inl:=dR [],lp:=aS [(51,250,FX),(51,506,Gf)] }
theorem PZ (p0:Int) (p1:(List aK)) (v0:Int) (v1:Bool) (v2:(List aK)):fC xZ 900 51 250 (dK PG 51 250) IB Jc (p0,p1) (v0,v1,v2)=lF p0 p1 v0 v1 v2:=by kernel_rfl
theorem QZ (p0:Int) (p1:ax) (v0:Int) (v1:Bool):fC xZ 900 51 506 (dK PG 51 506) Je H8 (p0,p1) (v0,v1)=lI p0 p1 v0 v1:=by kernel_rfl
theorem VF (x0:ax):bP xZ 51 [.val .state] [.bool] x0=xX x0:=by kernel_rfl
def Ag:aO:=mkSpec [.val .state] [.bool] true (fun x=>xX x)
theorem Yx:dI PG 51 Ag:=
 have K:CxR xZ:=aP.cx (fun _=>rfl) (l:=[(120,Ad),(121,BK),(122,yL),(123,kP),(125,oz),(124,yE)]) ⟨YX,Zu,XB,FV,JL,YI,trivial⟩
 aH K (aG (l:=[(51,250,FX),(51,506,Gf)]) rfl ⟨bF (n:=900) (f:=51) K (by kernel_rfl) (by kernel_rfl) (by kernel_rfl) (by kernel_rfl) (by kernel_rfl) (fun p v r h=>(PZ p.1 p.2 v.1 v.2.1 v.2.2).trans h),
  bF (n:=900) (f:=51) K (by kernel_rfl) (by kernel_rfl) (by kernel_rfl) (by kernel_rfl) (by kernel_rfl) (fun p v r h=>(QZ p.1 p.2 v.1 v.2).trans h),trivial⟩) (by kernel_rfl) (fun x y h=>(VF x).trans h) rfl rfl
def qi (x0:ax):Option (Bool):=af (xX x0) fun y0=>some y0
noncomputable def aco:Cx:={ P:=PG,ety:=ety,fn:=look [(51,Ag)],inl:=dR [],lp:=aS [] }
theorem aes (x0:ax):bP aco 18 [.val .state] [.bool] x0=qi x0:=by kernel_rfl
def oH:aO:=mkSpec [.val .state] [.bool] true (fun x=>qi x)
theorem L9:dI PG 18 oH:=
 have K:CxR aco:=aP.cx (fun _=>rfl) (l:=[(51,Ag)]) ⟨Yx,trivial⟩
 aH K (aG (l:=[]) rfl trivial) (by kernel_rfl) (fun x y h=>(aes x).trans h) rfl rfl
def Wv (x0:Int) (x1:Int) (x2:dL) (x3:Int):Option (ax×Int):=cnd (bor (bor (bor (ilt x0 1) (ilt 8 x0)) (ilt x1 1)) (ilt 8 x1)) (some (ax.mk 0 0 [] [] [] [] false 0 0 0,1)) (cnd (band (band (ile 0 (wr .i64 (dX x0 x1))) (ile (wr .i64 (dX x0 x1)) (wr .i64 (dX x0 x1)))) (ile (wr .i64 (dX x0 x1)) 68719476736)) (af (xC [x2] (wr .i64 (dX x0 x1))) fun y0=>af (BX [x3] x0) fun y1=>af (qi (ax.mk x0 x1 [] (jO aK (itn (wr .i64 (dX x0 x1)))) y0 y1 false 0 0 0)) fun y2=>cnd (ay y2) (some (ax.mk 0 0 [] [] [] [] false 0 0 0,1)) (some (ax.mk x0 x1 [] (jO aK (itn (wr .i64 (dX x0 x1)))) y0 y1 false 0 0 0,0))) none)
noncomputable def ae9:Cx:={ P:=PG,ety:=ety,fn:=look [(57,uH),(58,xA),(18,oH)],inl:=dR [],lp:=aS [] }
theorem ahF (x0:Int) (x1:Int) (x2:dL) (x3:Int):bP ae9 22 [.int .i64,.int .i64,.val .expo,.int .i64] [.val .state,.int .i64] (x0,x1,x2,x3)=Wv x0 x1 x2 x3:=by kernel_rfl
def SV:aO:=mkSpec [.int .i64,.int .i64,.val .expo,.int .i64] [.val .state,.int .i64] false (fun x=>Wv x.1 x.2.1 x.2.2.1 x.2.2.2)
theorem alK:dI PG 22 SV:=
 have K:CxR ae9:=aP.cx (fun _=>rfl) (l:=[(57,uH),(58,xA),(18,oH)]) ⟨Ri,Ws,L9,trivial⟩
 aH K (aG (l:=[]) rfl trivial) (by kernel_rfl) (fun x y h=>(ahF x.1 x.2.1 x.2.2.1 x.2.2.2).trans h) rfl rfl
def gK (x0:(List aJ)):Option ((List aJ)):=acw (len x0) fun y0=>cnd (beq y0 true) (some []) (cnd (ile (len x0) 68719476736) (some x0) none)
noncomputable def GZ:Cx:={ P:=PG,ety:=ety,fn:=look [],inl:=dR [],lp:=aS [] }
theorem OX (x0:(List aJ)):bP GZ 132 [.ro .order] [.buf .order] x0=gK x0:=by kernel_rfl
def uJ:aO:=mkSpec [.ro .order] [.buf .order] true (fun x=>gK x)
theorem Rx:dI PG 132 uJ:=
 have K:CxR GZ:=aP.cx (fun _=>rfl) (l:=[]) trivial
 aH K (aG (l:=[]) rfl trivial) (by kernel_rfl) (fun x y h=>(OX x).trans h) rfl rfl
def iy (x0:(List aK)):Option ((List aK)):=acw (len x0) fun y0=>cnd (beq y0 true) (some []) (cnd (ile (len x0) 68719476736) (some x0) none)
noncomputable def IU:Cx:={ P:=PG,ety:=ety,fn:=look [],inl:=dR [],lp:=aS [] }
theorem QB (x0:(List aK)):bP IU 133 [.ro .cell] [.buf .cell] x0=iy x0:=by kernel_rfl
def vz:aO:=mkSpec [.ro .cell] [.buf .cell] true (fun x=>iy x)
theorem TM:dI PG 133 vz:=
 have K:CxR IU:=aP.cx (fun _=>rfl) (l:=[]) trivial
 aH K (aG (l:=[]) rfl trivial) (by kernel_rfl) (fun x y h=>(QB x).trans h) rfl rfl
def iC (x0:(List dL)):Option ((List dL)):=acw (len x0) fun y0=>cnd (beq y0 true) (some []) (cnd (ile (len x0) 68719476736) (some x0) none)
noncomputable def IJ:Cx:={ P:=PG,ety:=ety,fn:=look [],inl:=dR [],lp:=aS [] }
theorem PW (x0:(List dL)):bP IJ 134 [.ro .expo] [.buf .expo] x0=iC x0:=by kernel_rfl
def vT:aO:=mkSpec [.ro .expo] [.buf .expo] true (fun x=>iC x)
theorem TI:dI PG 134 vT:=
 have K:CxR IJ:=aP.cx (fun _=>rfl) (l:=[]) trivial
 aH K (aG (l:=[]) rfl trivial) (by kernel_rfl) (fun x y h=>(PW x).trans h) rfl rfl
def jv (x0:(List Int)):Option ((List Int)):=acw (len x0) fun y0=>cnd (beq y0 true) (some []) (cnd (ile (len x0) 68719476736) (some x0) none)
noncomputable def Nw:Cx:={ P:=PG,ety:=ety,fn:=look [],inl:=dR [],lp:=aS [] }
theorem U2 (x0:(List Int)):bP Nw 135 [.ro .i64] [.buf .i64] x0=jv x0:=by kernel_rfl
def yO:aO:=mkSpec [.ro .i64] [.buf .i64] true (fun x=>jv x)
theorem XI:dI PG 135 yO:=
 have K:CxR Nw:=aP.cx (fun _=>rfl) (l:=[]) trivial
 aH K (aG (l:=[]) rfl trivial) (by kernel_rfl) (fun x y h=>(U2 x).trans h) rfl rfl
def L8 (x0:yX):Option (aJ×Int):=af (cnd (ay (ay (ieq x0.kind 1))) (wY x0) (some false)) fun y0=>cnd (bor (ay (ieq x0.kind 1)) (ay y0)) (some (aJ.mk 0 0 0 0 0 0 0 0 0 0 0 false,1)) (some (aJ.mk x0.order x0.account x0.symbol x0.side x0.qty x0.price 0 1 0 0 0 false,0))
noncomputable def ZN:Cx:={ P:=PG,ety:=ety,fn:=look [(60,qw)],inl:=dR [],lp:=aS [] }
theorem adB (x0:yX):bP ZN 136 [.val .recd] [.val .order,.int .i64] x0=L8 x0:=by kernel_rfl
def Ll:aO:=mkSpec [.val .recd] [.val .order,.int .i64] true (fun x=>L8 x)
theorem agM:dI PG 136 Ll:=
 have K:CxR ZN:=aP.cx (fun _=>rfl) (l:=[(60,qw)]) ⟨Pg,trivial⟩
 aH K (aG (l:=[]) rfl trivial) (by kernel_rfl) (fun x y h=>(adB x).trans h) rfl rfl
def Y5 (x0:aK):Option (dL×Int):=af (jI x0) fun y0=>cnd (ay y0) (some (dL.mk 0 0 0,1)) (af (H7 x0) fun y1=>some (y1.fst,0))
noncomputable def ahK:Cx:={ P:=PG,ety:=ety,fn:=look [(123,kP),(185,Ea)],inl:=dR [],lp:=aS [] }
theorem ajD (x0:aK):bP ahK 189 [.val .cell] [.val .expo,.int .i64] x0=Y5 x0:=by kernel_rfl
def Vb:aO:=mkSpec [.val .cell] [.val .expo,.int .i64] true (fun x=>Y5 x)
theorem amQ:dI PG 189 Vb:=
 have K:CxR ahK:=aP.cx (fun _=>rfl) (l:=[(123,kP),(185,Ea)]) ⟨FV,abT,trivial⟩
 aH K (aG (l:=[]) rfl trivial) (by kernel_rfl) (fun x y h=>(ajD x).trans h) rfl rfl
def GI (x0:dL):Option (SA3):=some (SA3.mk x0.long x0.short x0.opn)
noncomputable def ZO:Cx:={ P:=PG,ety:=ety,fn:=look [],inl:=dR [],lp:=aS [] }
theorem acG (x0:dL):bP ZO 222 [.val .expo] [.val .a3] x0=GI x0:=by kernel_rfl
def Lm:aO:=mkSpec [.val .expo] [.val .a3] true (fun x=>GI x)
theorem ag0:dI PG 222 Lm:=
 have K:CxR ZO:=aP.cx (fun _=>rfl) (l:=[]) trivial
 aH K (aG (l:=[]) rfl trivial) (by kernel_rfl) (fun x y h=>(acG x).trans h) rfl rfl
def qX (x0:Int) (x1:Int) (x2:Int):Option (Bool):=some (ilt (imax x0 x2) x1)
noncomputable def QE:Cx:={ P:=PG,ety:=ety,fn:=look [],inl:=dR [],lp:=aS [] }
theorem XP (x0:Int) (x1:Int) (x2:Int):bP QE 191 [.int .i64,.int .i64,.int .i64] [.bool] (x0,x1,x2)=qX x0 x1 x2:=by kernel_rfl
def qM:aO:=mkSpec [.int .i64,.int .i64,.int .i64] [.bool] true (fun x=>qX x.1 x.2.1 x.2.2)
theorem OH:dI PG 191 qM:=
 have K:CxR QE:=aP.cx (fun _=>rfl) (l:=[]) trivial
 aH K (aG (l:=[]) rfl trivial) (by kernel_rfl) (fun x y h=>(XP x.1 x.2.1 x.2.2).trans h) rfl rfl
def Oo (x0:dL) (x1:dL) (x2:dL):Option (Bool):=af (GI x0) fun y0=>af (GI x1) fun y1=>af (GI x2) fun y2=>af (qX y0.a0 y1.a0 y2.a0) fun y3=>cnd y3 (some true) (af (qX y0.a1 y1.a1 y2.a1) fun y4=>cnd y4 (some true) (af (qX y0.a2 y1.a2 y2.a2) fun y5=>cnd y5 (some true) (some false)))
noncomputable def WZ:Cx:={ P:=PG,ety:=ety,fn:=look [(222,Lm),(191,qM)],inl:=dR [],lp:=aS [] }
theorem aaG (x0:dL) (x1:dL) (x2:dL):bP WZ 190 [.val .expo,.val .expo,.val .expo] [.bool] (x0,x1,x2)=Oo x0 x1 x2:=by kernel_rfl
def Hr:aO:=mkSpec [.val .expo,.val .expo,.val .expo] [.bool] true (fun x=>Oo x.1 x.2.1 x.2.2)
theorem adH:dI PG 190 Hr:=
 have K:CxR WZ:=aP.cx (fun _=>rfl) (l:=[(222,Lm),(191,qM)]) ⟨ag0,OH,trivial⟩
 aH K (aG (l:=[]) rfl trivial) (by kernel_rfl) (fun x y h=>(aaG x.1 x.2.1 x.2.2).trans h) rfl rfl
def jg (x0:ax) (x1:ax) (x2:Int) (x3:Int):Option (Int):=af (bU x0 x2 x3) fun y0=>af (kY x0 x2) fun y1=>af (xO y1) fun y2=>cnd (ay (ieq y2.snd 0)) (some 3) (af (kY x1 x2) fun y3=>af (xO y3) fun y4=>cnd (band (ile 0 y0) (ilt y0 (len x1.cells))) (af (Y5 (ai x1.cells (itn y0))) fun y5=>cnd (band (ile 0 y0) (ilt y0 (len x0.cells))) (af (Y5 (ai x0.cells (itn y0))) fun y6=>cnd (band (ile 0 y0) (ilt y0 (len x0.limits))) (af (Oo y5.fst y6.fst (ai x0.limits (itn y0))) fun y7=>cnd (bor (band (ile 0 x2) (ilt x2 (len x0.caps))) (ay (ay y7))) (af (cnd (ay y7) (qX y4.fst y2.fst (ai x0.caps (itn x2))) (some false)) fun y8=>cnd (bor y7 y8) (some 4) (some 0)) none) none) none) none)
noncomputable def OB:Cx:={ P:=PG,ety:=ety,fn:=look [(137,iq),(125,oz),(124,yE),(189,Vb),(190,Hr),(191,qM)],inl:=dR [],lp:=aS [] }
theorem Vl (x0:ax) (x1:ax) (x2:Int) (x3:Int):bP OB 139 [.val .state,.val .state,.int .i64,.int .i64] [.int .i64] (x0,x1,x2,x3)=jg x0 x1 x2 x3:=by kernel_rfl
def zN:aO:=mkSpec [.val .state,.val .state,.int .i64,.int .i64] [.int .i64] true (fun x=>jg x.1 x.2.1 x.2.2.1 x.2.2.2)
theorem YR:dI PG 139 zN:=
 have K:CxR OB:=aP.cx (fun _=>rfl) (l:=[(137,iq),(125,oz),(124,yE),(189,Vb),(190,Hr),(191,qM)]) ⟨wG,JL,YI,amQ,adH,OH,trivial⟩
 aH K (aG (l:=[]) rfl trivial) (by kernel_rfl) (fun x y h=>(Vl x.1 x.2.1 x.2.2.1 x.2.2.2).trans h) rfl rfl
def oM:LSh:=⟨78,[(7,.int .i64),(0,.ro .order)],[(1,.fn 193 [.mp 24 0])],[(24,[.int .i64])],[(8,.int .i64),(4,.int .i64)],[],[]⟩
@[reducible] def oK:List fO:=[⟨.ret,[(4,.int .i64)],[],[]⟩,⟨.exit 0,[(4,.int .i64)],[],[]⟩]
def dS (p0:Int) (p1:(List aJ)) (p2:Int) (v0:Int) (v1:Int):Option ((Int×Int) ⊕ ((Int) ⊕ ((Int)))):=cnd (ilt v0 p0) (cnd (band (ile 0 v0) (ilt v0 (len p1))) (cnd (ieq (ai p1 (itn v0)).id p2) (some (Sum.inr (Sum.inl v0))) (some (Sum.inl (wr .i64 (aj v0 1),v1)))) none) (some (Sum.inr (Sum.inr v1)))
def ou:dU:=oM.spec oK [9,10,5,11,12,13,14,15,16,17,4,18,8] (fun p v=>dS p.1 p.2.1 p.2.2 v.1 v.2)
def uU (x0:ax) (x1:Int):Option (Int):=af (bD (fun v=>dS (len x0.orders) x0.orders x1 v.fst v.snd) LF (0,0)) fun y0=>gY y0 (fun y1=>some y1) fun y1=>some (-1)
noncomputable def Yu:Cx:={ P:=PG,ety:=ety,fn:=look [],inl:=dR [193,192],lp:=aS [(601295462592,26,ou)] }
theorem wI (p0:Int) (p1:(List aJ)) (p2:Int) (v0:Int) (v1:Int):fC Yu 900 601295462592 26 (dK PG 192 26) oM oK (p0,p1,p2) (v0,v1)=dS p0 p1 p2 v0 v1:=by kernel_rfl
theorem agY (x0:ax) (x1:Int):bP Yu 140 [.val .state,.int .i64] [.int .i64] (x0,x1)=uU x0 x1:=by kernel_rfl
def QN:aO:=mkSpec [.val .state,.int .i64] [.int .i64] true (fun x=>uU x.1 x.2)
theorem ajZ:dI PG 140 QN:=
 have K:CxR Yu:=aP.cx (fun _=>rfl) (l:=[]) trivial
 aH K (aG (l:=[(601295462592,26,ou)]) rfl ⟨bF (n:=900) (f:=192) K (by kernel_rfl) (by kernel_rfl) (by kernel_rfl) (by kernel_rfl) (by kernel_rfl) (fun p v r h=>(wI p.1 p.2.1 p.2.2 v.1 v.2).trans h),trivial⟩) (by kernel_rfl) (fun x y h=>(agY x.1 x.2).trans h) rfl rfl
def Jm (x0:aJ) (x1:Int) (x2:Int):Option (aJ×Int):=af (tH x0.version 1) fun y0=>af (kR x0) fun y1=>cnd (ay y1) (cnd (ay y1) (some (x0,1)) (cnd (ay (ieq x0.phase 2)) (cnd (ay (ieq x0.phase 2)) (some (x0,8)) (some (aJ.mk x0.id x0.account x0.symbol x0.side x0.qty x0.price x0.filled x0.phase x1 x2 (wr .i64 (aj x0.version 1)) x0.asked,0))) (af (kL x0) fun y2=>cnd y2 (cnd y2 (some (x0,8)) (some (aJ.mk x0.id x0.account x0.symbol x0.side x0.qty x0.price x0.filled x0.phase x1 x2 (wr .i64 (aj x0.version 1)) x0.asked,0))) (cnd x0.asked (some (x0,8)) (some (aJ.mk x0.id x0.account x0.symbol x0.side x0.qty x0.price x0.filled x0.phase x1 x2 (wr .i64 (aj x0.version 1)) x0.asked,0)))))) (cnd (ilt x1 1) (cnd (ilt x1 1) (some (x0,1)) (cnd (ay (ieq x0.phase 2)) (cnd (ay (ieq x0.phase 2)) (some (x0,8)) (some (aJ.mk x0.id x0.account x0.symbol x0.side x0.qty x0.price x0.filled x0.phase x1 x2 (wr .i64 (aj x0.version 1)) x0.asked,0))) (af (kL x0) fun y3=>cnd y3 (cnd y3 (some (x0,8)) (some (aJ.mk x0.id x0.account x0.symbol x0.side x0.qty x0.price x0.filled x0.phase x1 x2 (wr .i64 (aj x0.version 1)) x0.asked,0))) (cnd x0.asked (some (x0,8)) (some (aJ.mk x0.id x0.account x0.symbol x0.side x0.qty x0.price x0.filled x0.phase x1 x2 (wr .i64 (aj x0.version 1)) x0.asked,0)))))) (cnd (ilt x2 1) (cnd (ilt x2 1) (some (x0,1)) (cnd (ay (ieq x0.phase 2)) (cnd (ay (ieq x0.phase 2)) (some (x0,8)) (some (aJ.mk x0.id x0.account x0.symbol x0.side x0.qty x0.price x0.filled x0.phase x1 x2 (wr .i64 (aj x0.version 1)) x0.asked,0))) (af (kL x0) fun y4=>cnd y4 (cnd y4 (some (x0,8)) (some (aJ.mk x0.id x0.account x0.symbol x0.side x0.qty x0.price x0.filled x0.phase x1 x2 (wr .i64 (aj x0.version 1)) x0.asked,0))) (cnd x0.asked (some (x0,8)) (some (aJ.mk x0.id x0.account x0.symbol x0.side x0.qty x0.price x0.filled x0.phase x1 x2 (wr .i64 (aj x0.version 1)) x0.asked,0)))))) (cnd (ay (ieq y0.snd 0)) (some (x0,1)) (cnd (ay (ieq x0.phase 2)) (cnd (ay (ieq x0.phase 2)) (some (x0,8)) (some (aJ.mk x0.id x0.account x0.symbol x0.side x0.qty x0.price x0.filled x0.phase x1 x2 (wr .i64 (aj x0.version 1)) x0.asked,0))) (af (kL x0) fun y5=>cnd y5 (cnd y5 (some (x0,8)) (some (aJ.mk x0.id x0.account x0.symbol x0.side x0.qty x0.price x0.filled x0.phase x1 x2 (wr .i64 (aj x0.version 1)) x0.asked,0))) (cnd x0.asked (some (x0,8)) (some (aJ.mk x0.id x0.account x0.symbol x0.side x0.qty x0.price x0.filled x0.phase x1 x2 (wr .i64 (aj x0.version 1)) x0.asked,0))))))))
noncomputable def YT:Cx:={ P:=PG,ety:=ety,fn:=look [(59,mP),(180,fD),(194,oN)],inl:=dR [],lp:=aS [] }
theorem abo (x0:aJ) (x1:Int) (x2:Int):bP YT 141 [.val .order,.int .i64,.int .i64] [.val .order,.int .i64] (x0,x1,x2)=Jm x0 x1 x2:=by kernel_rfl
def J8:aO:=mkSpec [.val .order,.int .i64,.int .i64] [.val .order,.int .i64] true (fun x=>Jm x.1 x.2.1 x.2.2)
theorem aeG:dI PG 141 J8:=
 have K:CxR YT:=aP.cx (fun _=>rfl) (l:=[(59,mP),(180,fD),(194,oN)]) ⟨LM,su,LD,trivial⟩
 aH K (aG (l:=[]) rfl trivial) (by kernel_rfl) (fun x y h=>(abo x.1 x.2.1 x.2.2).trans h) rfl rfl
def Pv (x0:aK) (x1:aJ):Option (aK×Int):=af (jI x0) fun y0=>af (cnd (ay (ay y0)) (kR x1) (some false)) fun y1=>cnd (bor (ay y0) (ay y1)) (some (x0,1)) (af (BA x1) fun y2=>cnd (ieq x1.side 2) (af (xk x1) fun y3=>af (Bz x0.sell y3) fun y4=>af (Bz x0.opn y2.fst) fun y5=>af (cnd (ay (bor (bor (ay (ieq y2.snd 0)) (ay (ieq y4.snd 0))) (ay (ieq y5.snd 0)))) (jI (aK.mk x0.pos x0.buy y4.fst y5.fst)) (some false)) fun y6=>cnd (bor (bor (bor (ay (ieq y2.snd 0)) (ay (ieq y4.snd 0))) (ay (ieq y5.snd 0))) (ay y6)) (some (x0,3)) (some (aK.mk x0.pos x0.buy y4.fst y5.fst,0))) (af (xk x1) fun y7=>af (Bz x0.buy y7) fun y8=>af (Bz x0.opn y2.fst) fun y9=>af (cnd (ay (bor (bor (ay (ieq y2.snd 0)) (ay (ieq y8.snd 0))) (ay (ieq y9.snd 0)))) (jI (aK.mk x0.pos y8.fst x0.sell y9.fst)) (some false)) fun y10=>cnd (bor (bor (bor (ay (ieq y2.snd 0)) (ay (ieq y8.snd 0))) (ay (ieq y9.snd 0))) (ay y10)) (some (x0,3)) (some (aK.mk x0.pos y8.fst x0.sell y9.fst,0))))
noncomputable def air:Cx:={ P:=PG,ety:=ety,fn:=look [(123,kP),(180,fD),(220,yN),(221,AU),(195,zI)],inl:=dR [188],lp:=aS [] }
theorem ajw (x0:aK) (x1:aJ):bP air 142 [.val .cell,.val .order] [.val .cell,.int .i64] (x0,x1)=Pv x0 x1:=by kernel_rfl
def VL:aO:=mkSpec [.val .cell,.val .order] [.val .cell,.int .i64] true (fun x=>Pv x.1 x.2)
theorem amD:dI PG 142 VL:=
 have K:CxR air:=aP.cx (fun _=>rfl) (l:=[(123,kP),(180,fD),(220,yN),(221,AU),(195,zI)]) ⟨FV,su,YW,aae,aaD,trivial⟩
 aH K (aG (l:=[]) rfl trivial) (by kernel_rfl) (fun x y h=>(ajw x.1 x.2).trans h) rfl rfl
def RI (x0:aJ):Option (aJ×Int):=af (kR x0) fun y0=>cnd (ay y0) (some (x0,1)) (cnd (ieq x0.phase 3) (cnd (ieq x0.phase 3) (some (x0,8)) (some (aJ.mk x0.id x0.account x0.symbol x0.side x0.qty x0.price x0.filled x0.phase x0.newQty x0.newPrice x0.version true,0))) (cnd x0.asked (some (x0,8)) (some (aJ.mk x0.id x0.account x0.symbol x0.side x0.qty x0.price x0.filled x0.phase x0.newQty x0.newPrice x0.version true,0))))
noncomputable def adR:Cx:={ P:=PG,ety:=ety,fn:=look [(180,fD)],inl:=dR [],lp:=aS [] }
theorem afp (x0:aJ):bP adR 143 [.val .order] [.val .order,.int .i64] x0=RI x0:=by kernel_rfl
def Pz:aO:=mkSpec [.val .order] [.val .order,.int .i64] true (fun x=>RI x)
theorem ajR:dI PG 143 Pz:=
 have K:CxR adR:=aP.cx (fun _=>rfl) (l:=[(180,fD)]) ⟨su,trivial⟩
 aH K (aG (l:=[]) rfl trivial) (by kernel_rfl) (fun x y h=>(afp x).trans h) rfl rfl
def WA (x0:ML):Option (yX):=some (yX.mk 6 x0.order 0 0 0 x0.qty x0.price 0 0 0 false x0.seq x0.what)
noncomputable def abm:Cx:={ P:=PG,ety:=ety,fn:=look [],inl:=dR [],lp:=aS [] }
theorem aeD (x0:ML):bP abm 196 [.val .note] [.val .recd] x0=WA x0:=by kernel_rfl
def N9:aO:=mkSpec [.val .note] [.val .recd] true (fun x=>WA x)
theorem ahE:dI PG 196 N9:=
 have K:CxR abm:=aP.cx (fun _=>rfl) (l:=[]) trivial
 aH K (aG (l:=[]) rfl trivial) (by kernel_rfl) (fun x y h=>(aeD x).trans h) rfl rfl
def AO (x0:aJ):Option (aJ):=some (aJ.mk x0.id x0.account x0.symbol x0.side x0.qty x0.price x0.filled x0.phase 0 0 x0.version x0.asked)
noncomputable def W9:Cx:={ P:=PG,ety:=ety,fn:=look [],inl:=dR [],lp:=aS [] }
theorem aa1 (x0:aJ):bP W9 224 [.val .order] [.val .order] x0=AO x0:=by kernel_rfl
def wu:aO:=mkSpec [.val .order] [.val .order] true (fun x=>AO x)
theorem U6:dI PG 224 wu:=
 have K:CxR W9:=aP.cx (fun _=>rfl) (l:=[]) trivial
 aH K (aG (l:=[]) rfl trivial) (by kernel_rfl) (fun x y h=>(aa1 x).trans h) rfl rfl
def Kt (x0:aJ):Option (aJ):=af (AO (aJ.mk x0.id x0.account x0.symbol x0.side x0.qty x0.price x0.filled 3 x0.newQty x0.newPrice x0.version x0.asked)) fun y0=>some y0
noncomputable def abk:Cx:={ P:=PG,ety:=ety,fn:=look [(224,wu)],inl:=dR [],lp:=aS [] }
theorem aeo (x0:aJ):bP abk 223 [.val .order] [.val .order] x0=Kt x0:=by kernel_rfl
def AZ:aO:=mkSpec [.val .order] [.val .order] true (fun x=>Kt x)
theorem ZW:dI PG 223 AZ:=
 have K:CxR abk:=aP.cx (fun _=>rfl) (l:=[(224,wu)]) ⟨U6,trivial⟩
 aH K (aG (l:=[]) rfl trivial) (by kernel_rfl) (fun x y h=>(aeo x).trans h) rfl rfl
def WE (x0:aJ) (x1:ML):Option (aJ×Bool):=cnd (ieq x1.what 1) (some (aJ.mk x0.id x0.account x0.symbol x0.side x0.qty x0.price x0.filled 2 x0.newQty x0.newPrice x0.version x0.asked,true)) (cnd (ieq x1.what 2) (af (Kt x0) fun y0=>some (y0,true)) (some (x0,false)))
noncomputable def abj:Cx:={ P:=PG,ety:=ety,fn:=look [(223,AZ)],inl:=dR [],lp:=aS [] }
theorem aey (x0:aJ) (x1:ML):bP abj 197 [.val .order,.val .note] [.val .order,.bool] (x0,x1)=WE x0 x1:=by kernel_rfl
def NT:aO:=mkSpec [.val .order,.val .note] [.val .order,.bool] true (fun x=>WE x.1 x.2)
theorem aho:dI PG 197 NT:=
 have K:CxR abj:=aP.cx (fun _=>rfl) (l:=[(223,AZ)]) ⟨ZW,trivial⟩
 aH K (aG (l:=[]) rfl trivial) (by kernel_rfl) (fun x y h=>(aey x.1 x.2).trans h) rfl rfl
def Vr (x0:aJ) (x1:ML):Option (aJ×Bool):=cnd (ieq x1.what 3) (cnd (ilt (wr .i64 (aI x0.qty x0.filled)) x1.qty) (some (x0,false)) (cnd (ilt (wr .i64 (aj x0.filled x1.qty)) x0.qty) (some (aJ.mk x0.id x0.account x0.symbol x0.side x0.qty x0.price (wr .i64 (aj x0.filled x1.qty)) x0.phase x0.newQty x0.newPrice x0.version x0.asked,true)) (af (Kt (aJ.mk x0.id x0.account x0.symbol x0.side x0.qty x0.price (wr .i64 (aj x0.filled x1.qty)) x0.phase x0.newQty x0.newPrice x0.version x0.asked)) fun y0=>some (y0,true)))) (cnd (ieq x1.what 4) (af (Kt x0) fun y1=>some (y1,true)) (cnd (ieq x1.what 5) (af (kL x0) fun y2=>cnd (bor (bor (bor (ay y2) (ay (ieq x1.qty x0.newQty))) (ay (ieq x1.price x0.newPrice))) (ile x1.qty x0.filled)) (some (x0,false)) (af (AO (aJ.mk x0.id x0.account x0.symbol x0.side x1.qty x1.price x0.filled x0.phase x0.newQty x0.newPrice x0.version x0.asked)) fun y3=>some (y3,true))) (cnd (ieq x1.what 6) (af (AO x0) fun y4=>af (kL x0) fun y5=>some (y4,y5)) (some (x0,false)))))
noncomputable def abl:Cx:={ P:=PG,ety:=ety,fn:=look [(223,AZ),(194,oN),(224,wu)],inl:=dR [],lp:=aS [] }
theorem aez (x0:aJ) (x1:ML):bP abl 198 [.val .order,.val .note] [.val .order,.bool] (x0,x1)=Vr x0 x1:=by kernel_rfl
def NY:aO:=mkSpec [.val .order,.val .note] [.val .order,.bool] true (fun x=>Vr x.1 x.2)
theorem aht:dI PG 198 NY:=
 have K:CxR abl:=aP.cx (fun _=>rfl) (l:=[(223,AZ),(194,oN),(224,wu)]) ⟨ZW,LD,U6,trivial⟩
 aH K (aG (l:=[]) rfl trivial) (by kernel_rfl) (fun x y h=>(aez x.1 x.2).trans h) rfl rfl
def Ph (x0:aJ) (x1:ML):Option (aJ×Int):=af (kR x0) fun y0=>af (cnd (ay (ay y0)) (WA x1) (some (yX.mk 0 0 0 0 0 0 0 0 0 0 false 0 0))) fun y1=>af (cnd (ay (ay y0)) (wY y1) (some false)) fun y2=>cnd (bor (bor (ay y0) (ay y2)) (ay (ieq x1.order x0.id))) (some (x0,1)) (cnd (ieq x0.phase 1) (af (WE x0 x1) fun y3=>cnd (ay y3.snd) (some (x0,8)) (some (y3.fst,0))) (cnd (ieq x0.phase 2) (af (Vr x0 x1) fun y4=>cnd (ay y4.snd) (some (x0,8)) (some (y4.fst,0))) (some (x0,8))))
noncomputable def abu:Cx:={ P:=PG,ety:=ety,fn:=look [(180,fD),(196,N9),(60,qw),(197,NT),(198,NY)],inl:=dR [],lp:=aS [] }
theorem aen (x0:aJ) (x1:ML):bP abu 144 [.val .order,.val .note] [.val .order,.int .i64] (x0,x1)=Ph x0 x1:=by kernel_rfl
def Oh:aO:=mkSpec [.val .order,.val .note] [.val .order,.int .i64] true (fun x=>Ph x.1 x.2)
theorem ahm:dI PG 144 Oh:=
 have K:CxR abu:=aP.cx (fun _=>rfl) (l:=[(180,fD),(196,N9),(60,qw),(197,NT),(198,NY)]) ⟨su,ahE,Pg,aho,aht,trivial⟩
 aH K (aG (l:=[]) rfl trivial) (by kernel_rfl) (fun x y h=>(aen x.1 x.2).trans h) rfl rfl
def VI (x0:aK) (x1:Int) (x2:Int):Option (aK×Int):=af (jI x0) fun y0=>cnd (bor (bor (ay y0) (band (ay (ieq x1 1)) (ay (ieq x1 2)))) (ilt x2 0)) (some (x0,1)) (cnd (ieq x1 1) (af (tH x0.pos x2) fun y1=>af (cnd (ay (ay (ieq y1.snd 0))) (jI (aK.mk y1.fst x0.buy x0.sell x0.opn)) (some false)) fun y2=>cnd (bor (ay (ieq y1.snd 0)) (ay y2)) (some (x0,3)) (some (aK.mk y1.fst x0.buy x0.sell x0.opn,0))) (af (Bz x0.pos x2) fun y3=>af (cnd (ay (ay (ieq y3.snd 0))) (jI (aK.mk y3.fst x0.buy x0.sell x0.opn)) (some false)) fun y4=>cnd (bor (ay (ieq y3.snd 0)) (ay y4)) (some (x0,3)) (some (aK.mk y3.fst x0.buy x0.sell x0.opn,0))))
noncomputable def af7:Cx:={ P:=PG,ety:=ety,fn:=look [(123,kP),(59,mP),(195,zI)],inl:=dR [],lp:=aS [] }
theorem ahe (x0:aK) (x1:Int) (x2:Int):bP af7 145 [.val .cell,.int .i64,.int .i64] [.val .cell,.int .i64] (x0,x1,x2)=VI x0 x1 x2:=by kernel_rfl
def Tt:aO:=mkSpec [.val .cell,.int .i64,.int .i64] [.val .cell,.int .i64] true (fun x=>VI x.1 x.2.1 x.2.2)
theorem ala:dI PG 145 Tt:=
 have K:CxR af7:=aP.cx (fun _=>rfl) (l:=[(123,kP),(59,mP),(195,zI)]) ⟨FV,LM,aaD,trivial⟩
 aH K (aG (l:=[]) rfl trivial) (by kernel_rfl) (fun x y h=>(ahe x.1 x.2.1 x.2.2).trans h) rfl rfl
def kF (x0:(List aJ)) (x1:Int) (x2:Int):Option ((List aJ)):=cnd (band (band (band (ile 0 x1) (ile x1 x2)) (ile x2 (len x0))) (band (ile x2 (len x0)) (ile (len x0) (len x0)))) (cnd (ieq x1 x2) (some x0) (cnd (band (ile 0 x1) (ile x1 (len x0))) (cnd (band (ile 0 x2) (ile x2 (len x0))) (cnd (ile (aj (nti (itn x1)) (len (aA (aN x0 (itn x2)) (itn (aI (len x0) x2))))) (len x0)) (cnd (band (band (ile 0 (nti (nad (itn x1) (itn (len (aA (aN x0 (itn x2)) (itn (aI (len x0) x2)))))))) (ile (nti (nad (itn x1) (itn (len (aA (aN x0 (itn x2)) (itn (aI (len x0) x2))))))) (len x0))) (ile (len x0) (aI (len (fZ x0 (itn x1) (aA (aN x0 (itn x2)) (itn (aI (len x0) x2))))) 0))) (some (aA (aN (fZ (fZ x0 (itn x1) (aA (aN x0 (itn x2)) (itn (aI (len x0) x2)))) (nad 0 (itn (nti (nad (itn x1) (itn (len (aA (aN x0 (itn x2)) (itn (aI (len x0) x2))))))))) (jO aJ (itn (aI (len x0) (nti (nad (itn x1) (itn (len (aA (aN x0 (itn x2)) (itn (aI (len x0) x2))))))))))) 0) (nad (itn x1) (itn (len (aA (aN x0 (itn x2)) (itn (aI (len x0) x2)))))))) none) none) none) none)) none
noncomputable def EI:Cx:={ P:=PG,ety:=ety,fn:=look [],inl:=dR [],lp:=aS [] }
theorem NV (x0:(List aJ)) (x1:Int) (x2:Int):bP EI 146 [.buf .order,.int .i64,.int .i64] [.ro .order] (x0,x1,x2)=kF x0 x1 x2:=by kernel_rfl
def tY:aO:=mkSpec [.buf .order,.int .i64,.int .i64] [.ro .order] false (fun x=>kF x.1 x.2.1 x.2.2)
theorem Qd:dI PG 146 tY:=
 have K:CxR EI:=aP.cx (fun _=>rfl) (l:=[]) trivial
 aH K (aG (l:=[]) rfl trivial) (by kernel_rfl) (fun x y h=>(NV x.1 x.2.1 x.2.2).trans h) rfl rfl
def U7 (x0:ax) (x1:yX):Option (ax×Int):=af (tH x0.lsn 1) fun y0=>af (cnd (ay (bor (ay (ieq y0.snd 0)) (ile 1000000000 x0.lsn))) (wY x1) (some false)) fun y1=>af (cnd (ay (bor (bor (ay (ieq y0.snd 0)) (ile 1000000000 x0.lsn)) (ay y1))) (qi x0) (some false)) fun y2=>cnd (bor (bor (bor (ay (ieq y0.snd 0)) (ile 1000000000 x0.lsn)) (ay y1)) (ay y2)) (some (x0,1)) (af (gK x0.orders) fun y3=>af (iy x0.cells) fun y4=>af (iC x0.limits) fun y5=>af (jv x0.caps) fun y6=>cnd (ieq x1.kind 1) (af (L8 x1) fun y7=>cnd (ile x1.order x0.last) (cnd (ile x1.order x0.last) (some (x0,1)) (cnd x0.kill (some (x0,5)) (cnd (ieq (len y3) 64) (some (x0,6)) (af (gK y3) fun y8=>af (iy y4) fun y9=>af (iC y5) fun y10=>af (jv y6) fun y11=>af (bU (ax.mk x0.accounts x0.symbols y3 y4 y5 y6 x0.kill x0.last x0.seq x0.lsn) y7.fst.account y7.fst.symbol) fun y12=>cnd (band (ile 0 y12) (ilt y12 (len y4))) (af (jG (ai y4 (itn y12)) y7.fst) fun y13=>cnd (ay (ieq y13.snd 0)) (some (x0,3)) (cnd (ile (len (dB y3 [y7.fst])) 68719476736) (af (jg (ax.mk x0.accounts x0.symbols (dB y3 [y7.fst]) (bT y4 (itn y12) y13.fst) y5 y6 x0.kill y7.fst.id x0.seq x0.lsn) (ax.mk x0.accounts x0.symbols y8 y9 y10 y11 x0.kill x0.last x0.seq x0.lsn) y7.fst.account y7.fst.symbol) fun y14=>cnd (ay (ieq y14 0)) (some (x0,y14)) (some (ax.mk x0.accounts x0.symbols (dB y3 [y7.fst]) (bT y4 (itn y12) y13.fst) y5 y6 x0.kill y7.fst.id x0.seq (wr .i64 (aj x0.lsn 1)),0))) none)) none)))) (cnd (ile x0.accounts x1.account) (cnd (ile x0.accounts x1.account) (some (x0,1)) (cnd x0.kill (some (x0,5)) (cnd (ieq (len y3) 64) (some (x0,6)) (af (gK y3) fun y15=>af (iy y4) fun y16=>af (iC y5) fun y17=>af (jv y6) fun y18=>af (bU (ax.mk x0.accounts x0.symbols y3 y4 y5 y6 x0.kill x0.last x0.seq x0.lsn) y7.fst.account y7.fst.symbol) fun y19=>cnd (band (ile 0 y19) (ilt y19 (len y4))) (af (jG (ai y4 (itn y19)) y7.fst) fun y20=>cnd (ay (ieq y20.snd 0)) (some (x0,3)) (cnd (ile (len (dB y3 [y7.fst])) 68719476736) (af (jg (ax.mk x0.accounts x0.symbols (dB y3 [y7.fst]) (bT y4 (itn y19) y20.fst) y5 y6 x0.kill y7.fst.id x0.seq x0.lsn) (ax.mk x0.accounts x0.symbols y15 y16 y17 y18 x0.kill x0.last x0.seq x0.lsn) y7.fst.account y7.fst.symbol) fun y21=>cnd (ay (ieq y21 0)) (some (x0,y21)) (some (ax.mk x0.accounts x0.symbols (dB y3 [y7.fst]) (bT y4 (itn y19) y20.fst) y5 y6 x0.kill y7.fst.id x0.seq (wr .i64 (aj x0.lsn 1)),0))) none)) none)))) (cnd (ile x0.symbols x1.symbol) (some (x0,1)) (cnd x0.kill (some (x0,5)) (cnd (ieq (len y3) 64) (some (x0,6)) (af (gK y3) fun y22=>af (iy y4) fun y23=>af (iC y5) fun y24=>af (jv y6) fun y25=>af (bU (ax.mk x0.accounts x0.symbols y3 y4 y5 y6 x0.kill x0.last x0.seq x0.lsn) y7.fst.account y7.fst.symbol) fun y26=>cnd (band (ile 0 y26) (ilt y26 (len y4))) (af (jG (ai y4 (itn y26)) y7.fst) fun y27=>cnd (ay (ieq y27.snd 0)) (some (x0,3)) (cnd (ile (len (dB y3 [y7.fst])) 68719476736) (af (jg (ax.mk x0.accounts x0.symbols (dB y3 [y7.fst]) (bT y4 (itn y26) y27.fst) y5 y6 x0.kill y7.fst.id x0.seq x0.lsn) (ax.mk x0.accounts x0.symbols y22 y23 y24 y25 x0.kill x0.last x0.seq x0.lsn) y7.fst.account y7.fst.symbol) fun y28=>cnd (ay (ieq y28 0)) (some (x0,y28)) (some (ax.mk x0.accounts x0.symbols (dB y3 [y7.fst]) (bT y4 (itn y26) y27.fst) y5 y6 x0.kill y7.fst.id x0.seq (wr .i64 (aj x0.lsn 1)),0))) none)) none)))))) (cnd (ieq x1.kind 2) (af (uU (ax.mk x0.accounts x0.symbols y3 y4 y5 y6 x0.kill x0.last x0.seq x0.lsn) x1.order) fun y29=>cnd (ieq y29 (-1)) (some (x0,7)) (cnd (band (ile 0 y29) (ilt y29 (len y3))) (af (Jm (ai y3 (itn y29)) x1.qty x1.price) fun y30=>cnd (ay (ieq y30.snd 0)) (some (x0,8)) (cnd x0.kill (some (x0,5)) (af (gK y3) fun y31=>af (iy y4) fun y32=>af (iC y5) fun y33=>af (jv y6) fun y34=>af (bU (ax.mk x0.accounts x0.symbols y3 y4 y5 y6 x0.kill x0.last x0.seq x0.lsn) (ai y3 (itn y29)).account (ai y3 (itn y29)).symbol) fun y35=>cnd (band (ile 0 y35) (ilt y35 (len y4))) (af (Pv (ai y4 (itn y35)) (ai y3 (itn y29))) fun y36=>af (jG y36.fst y30.fst) fun y37=>cnd (ay (ieq y37.snd 0)) (some (x0,3)) (cnd (band (ile 0 y29) (ilt y29 (len y3))) (af (jg (ax.mk x0.accounts x0.symbols (bT y3 (itn y29) y30.fst) (bT y4 (itn y35) y37.fst) y5 y6 x0.kill x0.last x0.seq x0.lsn) (ax.mk x0.accounts x0.symbols y31 y32 y33 y34 x0.kill x0.last x0.seq x0.lsn) (ai y3 (itn y29)).account (ai y3 (itn y29)).symbol) fun y38=>cnd (ay (ieq y38 0)) (some (x0,y38)) (some (ax.mk x0.accounts x0.symbols (bT y3 (itn y29) y30.fst) (bT y4 (itn y35) y37.fst) y5 y6 x0.kill x0.last x0.seq (wr .i64 (aj x0.lsn 1)),0))) none)) none))) none)) (cnd (ieq x1.kind 3) (af (uU (ax.mk x0.accounts x0.symbols y3 y4 y5 y6 x0.kill x0.last x0.seq x0.lsn) x1.order) fun y39=>cnd (ieq y39 (-1)) (some (x0,7)) (cnd (band (ile 0 y39) (ilt y39 (len y3))) (af (RI (ai y3 (itn y39))) fun y40=>cnd (band (ile 0 y39) (ilt y39 (len y3))) (cnd (ay (ieq y40.snd 0)) (some (x0,y40.snd)) (some (ax.mk x0.accounts x0.symbols (bT y3 (itn y39) y40.fst) y4 y5 y6 x0.kill x0.last x0.seq (wr .i64 (aj x0.lsn 1)),0))) none) none)) (cnd (ieq x1.kind 4) (cnd (ile x0.accounts x1.account) (cnd (ile x0.accounts x1.account) (some (x0,1)) (cnd (ieq x1.symbol (-1)) (cnd (band (ile 0 x1.account) (ilt x1.account (len y6))) (some (ax.mk x0.accounts x0.symbols y3 y4 y5 (bT y6 (itn x1.account) x1.opn) x0.kill x0.last x0.seq (wr .i64 (aj x0.lsn 1)),0)) none) (af (bU (ax.mk x0.accounts x0.symbols y3 y4 y5 y6 x0.kill x0.last x0.seq x0.lsn) x1.account x1.symbol) fun y41=>cnd (band (ile 0 y41) (ilt y41 (len y5))) (some (ax.mk x0.accounts x0.symbols y3 y4 (bT y5 (itn y41) (dL.mk x1.long x1.short x1.opn)) y6 x0.kill x0.last x0.seq (wr .i64 (aj x0.lsn 1)),0)) none))) (cnd (ile x0.symbols x1.symbol) (some (x0,1)) (cnd (ieq x1.symbol (-1)) (cnd (band (ile 0 x1.account) (ilt x1.account (len y6))) (some (ax.mk x0.accounts x0.symbols y3 y4 y5 (bT y6 (itn x1.account) x1.opn) x0.kill x0.last x0.seq (wr .i64 (aj x0.lsn 1)),0)) none) (af (bU (ax.mk x0.accounts x0.symbols y3 y4 y5 y6 x0.kill x0.last x0.seq x0.lsn) x1.account x1.symbol) fun y42=>cnd (band (ile 0 y42) (ilt y42 (len y5))) (some (ax.mk x0.accounts x0.symbols y3 y4 (bT y5 (itn y42) (dL.mk x1.long x1.short x1.opn)) y6 x0.kill x0.last x0.seq (wr .i64 (aj x0.lsn 1)),0)) none)))) (cnd (ieq x1.kind 5) (some (ax.mk x0.accounts x0.symbols y3 y4 y5 y6 x1.on x0.last x0.seq (wr .i64 (aj x0.lsn 1)),0)) (cnd (ay (ieq x1.seq (wr .i64 (aj x0.seq 1)))) (some (x0,11)) (af (uU (ax.mk x0.accounts x0.symbols y3 y4 y5 y6 x0.kill x0.last x1.seq x0.lsn) x1.order) fun y43=>cnd (ieq y43 (-1)) (some (ax.mk x0.accounts x0.symbols y3 y4 y5 y6 x0.kill x0.last x1.seq (wr .i64 (aj x0.lsn 1)),0)) (cnd (band (ile 0 y43) (ilt y43 (len y3))) (af (Ph (ai y3 (itn y43)) (ML.mk x1.seq x1.what x1.order x1.qty x1.price)) fun y44=>cnd (ay (ieq y44.snd 0)) (some (ax.mk x0.accounts x0.symbols y3 y4 y5 y6 x0.kill x0.last x1.seq (wr .i64 (aj x0.lsn 1)),0)) (af (bU (ax.mk x0.accounts x0.symbols y3 y4 y5 y6 x0.kill x0.last x1.seq x0.lsn) (ai y3 (itn y43)).account (ai y3 (itn y43)).symbol) fun y45=>cnd (band (ile 0 y45) (ilt y45 (len y4))) (af (Pv (ai y4 (itn y45)) (ai y3 (itn y43))) fun y46=>af (jG (ai (bT y4 (itn y45) y46.fst) (itn y45)) y44.fst) fun y47=>cnd (ieq x1.what 3) (af (VI (ai (bT (bT y4 (itn y45) y46.fst) (itn y45) y47.fst) (itn y45)) (ai y3 (itn y43)).side x1.qty) fun y48=>cnd (band (ile 0 y43) (ilt y43 (len y3))) (cnd (ieq y44.fst.phase 3) (af (kF (bT y3 (itn y43) y44.fst) y43 (wr .i64 (aj y43 1))) fun y49=>some (ax.mk x0.accounts x0.symbols y49 (bT (bT (bT y4 (itn y45) y46.fst) (itn y45) y47.fst) (itn y45) y48.fst) y5 y6 x0.kill x0.last x1.seq (wr .i64 (aj x0.lsn 1)),0)) (some (ax.mk x0.accounts x0.symbols (bT y3 (itn y43) y44.fst) (bT (bT (bT y4 (itn y45) y46.fst) (itn y45) y47.fst) (itn y45) y48.fst) y5 y6 x0.kill x0.last x1.seq (wr .i64 (aj x0.lsn 1)),0))) none) (cnd (band (ile 0 y43) (ilt y43 (len y3))) (cnd (ieq y44.fst.phase 3) (af (kF (bT y3 (itn y43) y44.fst) y43 (wr .i64 (aj y43 1))) fun y50=>some (ax.mk x0.accounts x0.symbols y50 (bT (bT y4 (itn y45) y46.fst) (itn y45) y47.fst) y5 y6 x0.kill x0.last x1.seq (wr .i64 (aj x0.lsn 1)),0)) (some (ax.mk x0.accounts x0.symbols (bT y3 (itn y43) y44.fst) (bT (bT y4 (itn y45) y46.fst) (itn y45) y47.fst) y5 y6 x0.kill x0.last x1.seq (wr .i64 (aj x0.lsn 1)),0))) none)) none)) none))))))))
noncomputable def ahO:Cx:={ P:=PG,ety:=ety,fn:=look [(59,mP),(60,qw),(18,oH),(132,uJ),(133,vz),(134,vT),(135,yO),(136,Ll),(137,iq),(138,vJ),(139,zN),(140,QN),(141,J8),(142,VL),(143,Pz),(144,Oh),(145,Tt),(146,tY)],inl:=dR [61,62,63,64,65,66],lp:=aS [] }
theorem ajx (x0:ax) (x1:yX):bP ahO 23 [.val .state,.val .recd] [.val .state,.int .i64] (x0,x1)=U7 x0 x1:=by kernel_rfl
def WQ:aO:=mkSpec [.val .state,.val .recd] [.val .state,.int .i64] false (fun x=>U7 x.1 x.2)
theorem amb:dI PG 23 WQ:=
 have K:CxR ahO:=aP.cx (fun _=>rfl) (l:=[(59,mP),(60,qw),(18,oH),(132,uJ),(133,vz),(134,vT),(135,yO),(136,Ll),(137,iq),(138,vJ),(139,zN),(140,QN),(141,J8),(142,VL),(143,Pz),(144,Oh),(145,Tt),(146,tY)]) ⟨LM,Pg,L9,Rx,TM,TI,XI,agM,wG,WG,YR,ajZ,aeG,amD,ajR,ahm,ala,Qd,trivial⟩
 aH K (aG (l:=[]) rfl trivial) (by kernel_rfl) (fun x y h=>(ajx x.1 x.2).trans h) rfl rfl
def Ns (x0:Int):Option (Bool):=some (bor (bor (band (ile 97 x0) (ile x0 122)) (band (ile 48 x0) (ile x0 57))) (ieq x0 46))
noncomputable def adY:Cx:={ P:=PG,ety:=ety,fn:=look [],inl:=dR [],lp:=aS [] }
theorem agK (x0:Int):bP adY 187 [.int .u8] [.bool] x0=Ns x0:=by kernel_rfl
def QF:aO:=mkSpec [.int .u8] [.bool] true (fun x=>Ns x)
theorem ajX:dI PG 187 QF:=
 have K:CxR adY:=aP.cx (fun _=>rfl) (l:=[]) trivial
 aH K (aG (l:=[]) rfl trivial) (by kernel_rfl) (fun x y h=>(agK x).trans h) rfl rfl
def Xa:LSh:=⟨69,[(5,.int .i64),(0,.str)],[],[],[(6,.int .i64),(2,.bool)],[],[]⟩
@[reducible] def Xc:List fO:=[⟨.ret,[(2,.bool)],[],[]⟩,⟨.exit 0,[(2,.bool)],[],[]⟩]
def wK (p0:Int) (p1:(List UInt8)) (v0:Int) (v1:Bool):Option ((Int×Bool) ⊕ ((Bool) ⊕ ((Bool)))):=cnd (ilt v0 p0) (cnd (band (ile 0 v0) (ilt v0 (len p1))) (af (Ns (Zt p1 (itn v0))) fun y0=>cnd (ay y0) (some (Sum.inr (Sum.inl false))) (some (Sum.inl (wr .i64 (aj v0 1),v1)))) none) (some (Sum.inr (Sum.inr v1)))
def TQ:dU:=Xa.spec Xc [7,8,3,9,10,11,12,13,2,14,6] (fun p v=>wK p.1 p.2 v.1 v.2)
def Es (x0:(List UInt8)):Option (Bool):=af (bD (fun v=>wK (len x0) x0 v.fst v.snd) LF (0,false)) fun y0=>gY y0 (fun y1=>some y1) fun y1=>some (band (ile 1 (len x0)) (ile (len x0) 16))
noncomputable def Wl:Cx:={ P:=PG,ety:=ety,fn:=look [(187,QF)],inl:=dR [],lp:=aS [(126,26,TQ)] }
theorem aaF (p0:Int) (p1:(List UInt8)) (v0:Int) (v1:Bool):fC Wl 900 126 26 (dK PG 126 26) Xa Xc (p0,p1) (v0,v1)=wK p0 p1 v0 v1:=by kernel_rfl
theorem aeL (x0:(List UInt8)):bP Wl 126 [.str] [.bool] x0=Es x0:=by kernel_rfl
def Bl:aO:=mkSpec [.str] [.bool] true (fun x=>Es x)
theorem ZV:dI PG 126 Bl:=
 have K:CxR Wl:=aP.cx (fun _=>rfl) (l:=[(187,QF)]) ⟨ajX,trivial⟩
 aH K (aG (l:=[(126,26,TQ)]) rfl ⟨bF (n:=900) (f:=126) K (by kernel_rfl) (by kernel_rfl) (by kernel_rfl) (by kernel_rfl) (by kernel_rfl) (fun p v r h=>(aaF p.1 p.2 v.1 v.2).trans h),trivial⟩) (by kernel_rfl) (fun x y h=>(aeL x).trans h) rfl rfl
def Uy:LSh:=⟨93,[(29,.int .i64),(28,.ro .file)],[(1,.mp 8 0)],[(8,[.val .disk])],[(30,.int .i64),(3,.int .i64),(2,.bool)],[],[]⟩
@[reducible] def UF:List fO:=[⟨.ret,[(2,.bool)],[],[]⟩,⟨.exit 0,[(2,.bool)],[],[]⟩]
def ve (p0:Int) (p1:(List aF)) (p2:au) (v0:Int) (v1:Int) (v2:Bool):Option ((Int×Int×Bool) ⊕ ((Bool) ⊕ ((Bool)))):=cnd (ilt v0 p0) (cnd (band (ile 0 v0) (ilt v0 (len p1))) (af (Es (ai p1 (itn v0)).name) fun y0=>cnd (bor (band (ile 0 (wr .i64 (aI v0 1))) (ilt (wr .i64 (aI v0 1)) (len p2.files))) (ay (band (ay (ay y0)) (ilt 0 v0)))) (cnd (bor (bor (bor (bor (ay y0) (band (ilt 0 v0) (ay (slt (ai p2.files (itn (wr .i64 (aI v0 1)))).name (ai p1 (itn v0)).name)))) (ilt (ai p1 (itn v0)).sure 0)) (ilt (len (ai p1 (itn v0)).data) (ai p1 (itn v0)).sure)) (ilt v1 (len (ai p1 (itn v0)).data))) (some (Sum.inr (Sum.inl false))) (some (Sum.inl (wr .i64 (aj v0 1),wr .i64 (aI v1 (len (ai p1 (itn v0)).data)),v2)))) none) none) (some (Sum.inr (Sum.inr v2)))
def Sz:dU:=Uy.spec UF [31,32,33,34,5,4,35,36,37,38,39,40,41,42,43,44,45,46,47,48,49,50,51,52,53,54,55,56,57,58,59,60,61,62,63,64,65,66,67,68,69,70,71,72,73,74,2,75,76,77,78,79,3,80,30] (fun p v=>ve p.1 p.2.1 p.2.2 v.1 v.2.1 v.2.2)
def Au (x0:au):Option (Bool):=cnd (bor (bor (bor (ilt x0.room 0) (ilt 65536 x0.room)) (ilt x0.fuse (-1))) (ilt 64 (len x0.files))) (some false) (af (bD (fun v=>ve (len x0.files) x0.files x0 v.fst v.snd.fst v.snd.snd) LF (0,x0.room,false)) fun y0=>gY y0 (fun y1=>some y1) fun y1=>some true)
noncomputable def VU:Cx:={ P:=PG,ety:=ety,fn:=look [(126,Bl)],inl:=dR [],lp:=aS [(52,122,Sz)] }
theorem ZF (p0:Int) (p1:(List aF)) (p2:au) (v0:Int) (v1:Int) (v2:Bool):fC VU 900 52 122 (dK PG 52 122) Uy UF (p0,p1,p2) (v0,v1,v2)=ve p0 p1 p2 v0 v1 v2:=by kernel_rfl
theorem aep (x0:au):bP VU 52 [.val .disk] [.bool] x0=Au x0:=by kernel_rfl
def AY:aO:=mkSpec [.val .disk] [.bool] true (fun x=>Au x)
theorem ZR:dI PG 52 AY:=
 have K:CxR VU:=aP.cx (fun _=>rfl) (l:=[(126,Bl)]) ⟨ZV,trivial⟩
 aH K (aG (l:=[(52,122,Sz)]) rfl ⟨bF (n:=900) (f:=52) K (by kernel_rfl) (by kernel_rfl) (by kernel_rfl) (by kernel_rfl) (by kernel_rfl) (fun p v r h=>(ZF p.1 p.2.1 p.2.2 v.1 v.2.1 v.2.2).trans h),trivial⟩) (by kernel_rfl) (fun x y h=>(aep x).trans h) rfl rfl
def l7 (x0:Int):Option ((List UInt8)):=cnd (ieq (wo x0 2) 0) (some [(UInt8.ofNat 115),(UInt8.ofNat 108),(UInt8.ofNat 111),(UInt8.ofNat 116),(UInt8.ofNat 46),(UInt8.ofNat 48)]) (some [(UInt8.ofNat 115),(UInt8.ofNat 108),(UInt8.ofNat 111),(UInt8.ofNat 116),(UInt8.ofNat 46),(UInt8.ofNat 49)])
noncomputable def ad2:Cx:={ P:=PG,ety:=ety,fn:=look [],inl:=dR [],lp:=aS [] }
theorem agZ (x0:Int):bP ad2 72 [.int .i64] [.str] x0=l7 x0:=by kernel_rfl
def Dv:aO:=mkSpec [.int .i64] [.str] true (fun x=>l7 x)
theorem abG:dI PG 72 Dv:=
 have K:CxR ad2:=aP.cx (fun _=>rfl) (l:=[]) trivial
 aH K (aG (l:=[]) rfl trivial) (by kernel_rfl) (fun x y h=>(agZ x).trans h) rfl rfl
def nS:LSh:=⟨88,[(7,.int .i64),(0,.ro .str)],[(1,.fn 149 [])],[],[(8,.int .i64),(4,.int .i64)],[],[]⟩
@[reducible] def nO:List fO:=[⟨.ret,[(4,.int .i64)],[],[]⟩,⟨.exit 0,[(4,.int .i64)],[],[]⟩]
def dO (p0:Int) (p1:(List (List UInt8))) (v0:Int) (v1:Int):Option ((Int×Int) ⊕ ((Int) ⊕ ((Int)))):=cnd (ilt v0 p0) (cnd (band (ile 0 v0) (ilt v0 (len p1))) (af (Es (ai p1 (itn v0))) fun y0=>cnd (ay y0) (some (Sum.inr (Sum.inl v0))) (some (Sum.inl (wr .i64 (aj v0 1),v1)))) none) (some (Sum.inr (Sum.inr v1)))
def nD:dU:=nS.spec nO [9,10,5,11,12,13,14,15,16,17,4,18,8] (fun p v=>dO p.1 p.2 v.1 v.2)
def jK (x0:au) (x1:(List (List UInt8))):Option (Int):=af (Au x0) fun y0=>cnd (ay y0) (some 1) (cnd x0.down (some 9) (af (bD (fun v=>dO (len x1) x1 v.fst v.snd) LF (0,0)) fun y1=>gY y1 (fun y2=>cnd (ile 0 y2) (some 1) (some 0)) fun y2=>some 0))
noncomputable def Va:Cx:={ P:=PG,ety:=ety,fn:=look [(52,AY),(126,Bl)],inl:=dR [148,200,149],lp:=aS [(1401952796528185786568,26,nD)] }
theorem vS (p0:Int) (p1:(List (List UInt8))) (v0:Int) (v1:Int):fC Va 900 1401952796528185786568 26 (dK PG 200 26) nS nO (p0,p1) (v0,v1)=dO p0 p1 v0 v1:=by kernel_rfl
theorem aev (x0:au) (x1:(List (List UInt8))):bP Va 76 [.val .disk,.ro .str] [.int .i64] (x0,x1)=jK x0 x1:=by kernel_rfl
def jr:aO:=mkSpec [.val .disk,.ro .str] [.int .i64] true (fun x=>jK x.1 x.2)
theorem Bq:dI PG 76 jr:=
 have K:CxR Va:=aP.cx (fun _=>rfl) (l:=[(52,AY),(126,Bl)]) ⟨ZR,ZV,trivial⟩
 aH K (aG (l:=[(1401952796528185786568,26,nD)]) rfl ⟨bF (n:=900) (f:=200) K (by kernel_rfl) (by kernel_rfl) (by kernel_rfl) (by kernel_rfl) (by kernel_rfl) (fun p v r h=>(vS p.1 p.2 v.1 v.2).trans h),trivial⟩) (by kernel_rfl) (fun x y h=>(aev x.1 x.2).trans h) rfl rfl
def wP (x0:(List UInt8)) (x1:(List UInt8)):Option (Int):=some (ajh x0 x1)
def Dj:aO:=mkSpec [.str,.str] [.int .i64] true (fun x=>wP x.1 x.2)
def ZJ:Go.Shelf.Ren:=⟨fun | 106=>152 | 213=>201 | 265=>225 | n=>n,fun | 9=>9 | 3=>3 | n=>n,fun | n=>n⟩
theorem LV:Go.Proofs.Lays.n106 PG ZJ where
 mixed:=by kernel_rfl
 f106:=by kernel_rfl
 f213:=by kernel_rfl
 f265:=by kernel_rfl
 t3:=by kernel_rfl
 a3:=fun w=>by kernel_rfl
 z3:=fun w=>by kernel_rfl
 v3:=fun w=>by kernel_rfl
 t9:=by kernel_rfl
 a9:=fun w=>by kernel_rfl
 z9:=fun w=>by kernel_rfl
 v9:=fun w=>by kernel_rfl
theorem aaP:dI PG 152 Dj:=ao4 aP LV (by kernel_rfl) fun x y h=>(Option.some.inj h).symm
def mJ:LSh:=⟨85,[(0,.ro .file),(1,.str)],[(2,.fn 151 [])],[],[(10,.int .i64),(9,.int .i64)],[],[]⟩
@[reducible] def mM:List fO:=[⟨.exit 0,[(9,.int .i64)],[],[]⟩]
def eG (p0:(List aF)) (p1:(List UInt8)) (v0:Int) (v1:Int):Option ((Int×Int) ⊕ ((Int))):=cnd (ilt v1 v0) (cnd (band (ile 0 (wr .i64 (dN .u64 (wr .u64 (wr .i64 (aj v1 v0))) 1))) (ilt (wr .i64 (dN .u64 (wr .u64 (wr .i64 (aj v1 v0))) 1)) (len p0))) (af (wP (ai p0 (itn (wr .i64 (dN .u64 (wr .u64 (wr .i64 (aj v1 v0))) 1)))).name p1) fun y0=>cnd (ilt y0 0) (some (Sum.inl (v0,wr .i64 (aj (wr .i64 (dN .u64 (wr .u64 (wr .i64 (aj v1 v0))) 1)) 1)))) (some (Sum.inl (wr .i64 (dN .u64 (wr .u64 (wr .i64 (aj v1 v0))) 1),v1)))) none) (some (Sum.inr v1))
def lY:dU:=mJ.spec mM [15,16,17,18,19,20,21,22,23,11,24,25,26,27,28,29,30,31,32,33,9,34,10] (fun p v=>eG p.1 p.2 v.1 v.2)
def eH (x0:au) (x1:(List UInt8)):Option (Int×Bool):=af (bD (fun v=>eG x0.files x1 v.fst v.snd) LF (len x0.files,0)) fun y0=>cnd (bor (band (ile 0 y0) (ilt y0 (len x0.files))) (ay (ilt y0 (len x0.files)))) (cnd (ilt y0 (len x0.files)) (af (wP (ai x0.files (itn y0)).name x1) fun y1=>some (y0,band (ilt y0 (len x0.files)) (ieq y1 0))) (some (y0,bor (ilt y0 (len x0.files)) false))) none
noncomputable def Yj:Cx:={ P:=PG,ety:=ety,fn:=look [(152,Dj)],inl:=dR [150,151],lp:=aS [(330712535190,60,lY)] }
theorem uM (p0:(List aF)) (p1:(List UInt8)) (v0:Int) (v1:Int):fC Yj 900 330712535190 60 (dK PG 150 60) mJ mM (p0,p1) (v0,v1)=eG p0 p1 v0 v1:=by kernel_rfl
theorem agi (x0:au) (x1:(List UInt8)):bP Yj 77 [.val .disk,.str] [.int .i64,.bool] (x0,x1)=eH x0 x1:=by kernel_rfl
def jP:aO:=mkSpec [.val .disk,.str] [.int .i64,.bool] true (fun x=>eH x.1 x.2)
theorem Et:dI PG 77 jP:=
 have K:CxR Yj:=aP.cx (fun _=>rfl) (l:=[(152,Dj)]) ⟨aaP,trivial⟩
 aH K (aG (l:=[(330712535190,60,lY)]) rfl ⟨bF (n:=900) (f:=150) K (by kernel_rfl) (by kernel_rfl) (by kernel_rfl) (by kernel_rfl) (by kernel_rfl) (fun p v r h=>(uM p.1 p.2 v.1 v.2).trans h),trivial⟩) (by kernel_rfl) (fun x y h=>(agi x.1 x.2).trans h) rfl rfl
def dW (x0:(List Int)):Option ((List Int)):=acw (len x0) fun y0=>cnd (beq y0 true) (some []) (cnd (ile (len x0) 68719476736) (some x0) none)
noncomputable def OM:Cx:={ P:=PG,ety:=ety,fn:=look [],inl:=dR [],lp:=aS [] }
theorem VN (x0:(List Int)):bP OM 56 [.ro .u8] [.buf .u8] x0=dW x0:=by kernel_rfl
def pW:aO:=mkSpec [.ro .u8] [.buf .u8] true (fun x=>dW x)
theorem Nc:dI PG 56 pW:=
 have K:CxR OM:=aP.cx (fun _=>rfl) (l:=[]) trivial
 aH K (aG (l:=[]) rfl trivial) (by kernel_rfl) (fun x y h=>(VN x).trans h) rfl rfl
def nP (x0:au) (x1:(List UInt8)):Option ((List Int)×Int):=af (jK x0 [x1]) fun y0=>cnd (ay (ieq y0 0)) (cnd (ay (ieq y0 0)) (some ([],y0)) (cnd (ilt 0 (len x0.files)) (af (dW (ai x0.files 0).data) fun y1=>some (y1,0)) none)) (af (eH x0 x1) fun y2=>cnd (ay y2.snd) (some ([],7)) (cnd (band (ile 0 y2.fst) (ilt y2.fst (len x0.files))) (af (dW (ai x0.files (itn y2.fst)).data) fun y3=>some (y3,0)) none))
noncomputable def ad6:Cx:={ P:=PG,ety:=ety,fn:=look [(76,jr),(77,jP),(56,pW)],inl:=dR [55],lp:=aS [] }
theorem agB (x0:au) (x1:(List UInt8)):bP ad6 21 [.val .disk,.str] [.buf .u8,.int .i64] (x0,x1)=nP x0 x1:=by kernel_rfl
def qh:aO:=mkSpec [.val .disk,.str] [.buf .u8,.int .i64] true (fun x=>nP x.1 x.2)
theorem O6:dI PG 21 qh:=
 have K:CxR ad6:=aP.cx (fun _=>rfl) (l:=[(76,jr),(77,jP),(56,pW)]) ⟨Bq,Et,Nc,trivial⟩
 aH K (aG (l:=[]) rfl trivial) (by kernel_rfl) (fun x y h=>(agB x.1 x.2).trans h) rfl rfl
def aah:LSh:=⟨67,[],[],[],[(4,.int .i64),(0,.int .u32)],[],[]⟩
@[reducible] def aad:List fO:=[⟨.exit 0,[(0,.int .u32)],[],[]⟩]
def Gg (v0:Int) (v1:Int):Option ((Int×Int) ⊕ ((Int))):=cnd (ilt v0 4) (cnd (ieq (wr .u32 (kM .u32 v1 1)) 1) (some (Sum.inl (wr .i64 (aj v0 1),wr .u32 (iH .u32 (dN .u32 v1 1) 3988292384)))) (some (Sum.inl (wr .i64 (aj v0 1),dN .u32 v1 1)))) (some (Sum.inr v1))
def Yg:dU:=aah.spec aad [5,6,7,3,8,9,0,10,11,12,13,14,4] (fun p v=>Gg v.1 v.2)
def dM (x0:Int):Option (Int):=af (bD (fun v=>Gg v.fst v.snd) LF (0,x0)) fun y0=>some y0
noncomputable def aay:Cx:={ P:=PG,ety:=ety,fn:=look [],inl:=dR [],lp:=aS [(199,26,Yg)] }
theorem acL (v0:Int) (v1:Int):fC aay 900 199 26 (dK PG 199 26) aah aad () (v0,v1)=Gg v0 v1:=by kernel_rfl
theorem ahn (x0:Int):bP aay 199 [.int .u32] [.int .u32] x0=dM x0:=by kernel_rfl
def F7:aO:=mkSpec [.int .u32] [.int .u32] true (fun x=>dM x)
theorem aei:dI PG 199 F7:=
 have K:CxR aay:=aP.cx (fun _=>rfl) (l:=[]) trivial
 aH K (aG (l:=[(199,26,Yg)]) rfl ⟨bF (n:=900) (f:=199) K (by kernel_rfl) (by kernel_rfl) (by kernel_rfl) (by kernel_rfl) (by kernel_rfl) (fun p v r h=>(acL v.1 v.2).trans h),trivial⟩) (by kernel_rfl) (fun x y h=>(ahn x).trans h) rfl rfl
def rP (x0:dw):Option (alO):=af (dM (wr .u32 (kM .u32 (wr .u32 (iH .u32 4294967295 (wr .u32 (wr .u8 (dN .i64 x0.gen 56))))) 15))) fun y0=>af (dM (wr .u32 (kM .u32 (wr .u32 (iH .u32 y0 (dN .u32 (wr .u32 (iH .u32 4294967295 (wr .u32 (wr .u8 (dN .i64 x0.gen 56))))) 4))) 15))) fun y1=>let t8:=(wr .u32 (iH .u32 (wr .u32 (iH .u32 y1 (dN .u32 (wr .u32 (iH .u32 y0 (dN .u32 (wr .u32 (iH .u32 4294967295 (wr .u32 (wr .u8 (dN .i64 x0.gen 56))))) 4))) 4))) (wr .u32 (wr .u8 (dN .i64 x0.gen 48)))));af (dM (wr .u32 (kM .u32 t8 15))) fun y2=>af (dM (wr .u32 (kM .u32 (wr .u32 (iH .u32 y2 (dN .u32 t8 4))) 15))) fun y3=>let t5:=(wr .u32 (iH .u32 (wr .u32 (iH .u32 y3 (dN .u32 (wr .u32 (iH .u32 y2 (dN .u32 t8 4))) 4))) (wr .u32 (wr .u8 (dN .i64 x0.gen 40)))));af (dM (wr .u32 (kM .u32 t5 15))) fun y4=>af (dM (wr .u32 (kM .u32 (wr .u32 (iH .u32 y4 (dN .u32 t5 4))) 15))) fun y5=>let t14:=(wr .u32 (iH .u32 (wr .u32 (iH .u32 y5 (dN .u32 (wr .u32 (iH .u32 y4 (dN .u32 t5 4))) 4))) (wr .u32 (wr .u8 (dN .i64 x0.gen 32)))));af (dM (wr .u32 (kM .u32 t14 15))) fun y6=>af (dM (wr .u32 (kM .u32 (wr .u32 (iH .u32 y6 (dN .u32 t14 4))) 15))) fun y7=>let t1:=(wr .u32 (iH .u32 (wr .u32 (iH .u32 y7 (dN .u32 (wr .u32 (iH .u32 y6 (dN .u32 t14 4))) 4))) (wr .u32 (wr .u8 (dN .i64 x0.gen 24)))));af (dM (wr .u32 (kM .u32 t1 15))) fun y8=>af (dM (wr .u32 (kM .u32 (wr .u32 (iH .u32 y8 (dN .u32 t1 4))) 15))) fun y9=>let t15:=(wr .u32 (iH .u32 (wr .u32 (iH .u32 y9 (dN .u32 (wr .u32 (iH .u32 y8 (dN .u32 t1 4))) 4))) (wr .u32 (wr .u8 (dN .i64 x0.gen 16)))));af (dM (wr .u32 (kM .u32 t15 15))) fun y10=>af (dM (wr .u32 (kM .u32 (wr .u32 (iH .u32 y10 (dN .u32 t15 4))) 15))) fun y11=>let t7:=(wr .u32 (iH .u32 (wr .u32 (iH .u32 y11 (dN .u32 (wr .u32 (iH .u32 y10 (dN .u32 t15 4))) 4))) (wr .u32 (wr .u8 (dN .i64 x0.gen 8)))));af (dM (wr .u32 (kM .u32 t7 15))) fun y12=>af (dM (wr .u32 (kM .u32 (wr .u32 (iH .u32 y12 (dN .u32 t7 4))) 15))) fun y13=>let t3:=(wr .u32 (iH .u32 (wr .u32 (iH .u32 y13 (dN .u32 (wr .u32 (iH .u32 y12 (dN .u32 t7 4))) 4))) (wr .u32 (wr .u8 (dN .i64 x0.gen 0)))));af (dM (wr .u32 (kM .u32 t3 15))) fun y14=>af (dM (wr .u32 (kM .u32 (wr .u32 (iH .u32 y14 (dN .u32 t3 4))) 15))) fun y15=>let t10:=(wr .u32 (iH .u32 (wr .u32 (iH .u32 y15 (dN .u32 (wr .u32 (iH .u32 y14 (dN .u32 t3 4))) 4))) (wr .u32 (wr .u8 (dN .i64 x0.lsn 56)))));af (dM (wr .u32 (kM .u32 t10 15))) fun y16=>af (dM (wr .u32 (kM .u32 (wr .u32 (iH .u32 y16 (dN .u32 t10 4))) 15))) fun y17=>let t0:=(wr .u32 (iH .u32 (wr .u32 (iH .u32 y17 (dN .u32 (wr .u32 (iH .u32 y16 (dN .u32 t10 4))) 4))) (wr .u32 (wr .u8 (dN .i64 x0.lsn 48)))));af (dM (wr .u32 (kM .u32 t0 15))) fun y18=>af (dM (wr .u32 (kM .u32 (wr .u32 (iH .u32 y18 (dN .u32 t0 4))) 15))) fun y19=>let t11:=(wr .u32 (iH .u32 (wr .u32 (iH .u32 y19 (dN .u32 (wr .u32 (iH .u32 y18 (dN .u32 t0 4))) 4))) (wr .u32 (wr .u8 (dN .i64 x0.lsn 40)))));af (dM (wr .u32 (kM .u32 t11 15))) fun y20=>af (dM (wr .u32 (kM .u32 (wr .u32 (iH .u32 y20 (dN .u32 t11 4))) 15))) fun y21=>let t6:=(wr .u32 (iH .u32 (wr .u32 (iH .u32 y21 (dN .u32 (wr .u32 (iH .u32 y20 (dN .u32 t11 4))) 4))) (wr .u32 (wr .u8 (dN .i64 x0.lsn 32)))));af (dM (wr .u32 (kM .u32 t6 15))) fun y22=>af (dM (wr .u32 (kM .u32 (wr .u32 (iH .u32 y22 (dN .u32 t6 4))) 15))) fun y23=>let t12:=(wr .u32 (iH .u32 (wr .u32 (iH .u32 y23 (dN .u32 (wr .u32 (iH .u32 y22 (dN .u32 t6 4))) 4))) (wr .u32 (wr .u8 (dN .i64 x0.lsn 24)))));af (dM (wr .u32 (kM .u32 t12 15))) fun y24=>af (dM (wr .u32 (kM .u32 (wr .u32 (iH .u32 y24 (dN .u32 t12 4))) 15))) fun y25=>let t2:=(wr .u32 (iH .u32 (wr .u32 (iH .u32 y25 (dN .u32 (wr .u32 (iH .u32 y24 (dN .u32 t12 4))) 4))) (wr .u32 (wr .u8 (dN .i64 x0.lsn 16)))));af (dM (wr .u32 (kM .u32 t2 15))) fun y26=>af (dM (wr .u32 (kM .u32 (wr .u32 (iH .u32 y26 (dN .u32 t2 4))) 15))) fun y27=>let t13:=(wr .u32 (iH .u32 (wr .u32 (iH .u32 y27 (dN .u32 (wr .u32 (iH .u32 y26 (dN .u32 t2 4))) 4))) (wr .u32 (wr .u8 (dN .i64 x0.lsn 8)))));af (dM (wr .u32 (kM .u32 t13 15))) fun y28=>af (dM (wr .u32 (kM .u32 (wr .u32 (iH .u32 y28 (dN .u32 t13 4))) 15))) fun y29=>let t4:=(wr .u32 (iH .u32 (wr .u32 (iH .u32 y29 (dN .u32 (wr .u32 (iH .u32 y28 (dN .u32 t13 4))) 4))) (wr .u32 (wr .u8 (dN .i64 x0.lsn 0)))));af (dM (wr .u32 (kM .u32 t4 15))) fun y30=>af (dM (wr .u32 (kM .u32 (wr .u32 (iH .u32 y30 (dN .u32 t4 4))) 15))) fun y31=>let t9:=(wr .u32 (iH .u32 4294967295 (wr .u32 (iH .u32 y31 (dN .u32 (wr .u32 (iH .u32 y30 (dN .u32 t4 4))) 4)))));some (alO.mk (wr .u8 (dN .i64 x0.gen 56)) (wr .u8 (dN .i64 x0.gen 48)) (wr .u8 (dN .i64 x0.gen 40)) (wr .u8 (dN .i64 x0.gen 32)) (wr .u8 (dN .i64 x0.gen 24)) (wr .u8 (dN .i64 x0.gen 16)) (wr .u8 (dN .i64 x0.gen 8)) (wr .u8 (dN .i64 x0.gen 0)) (wr .u8 (dN .i64 x0.lsn 56)) (wr .u8 (dN .i64 x0.lsn 48)) (wr .u8 (dN .i64 x0.lsn 40)) (wr .u8 (dN .i64 x0.lsn 32)) (wr .u8 (dN .i64 x0.lsn 24)) (wr .u8 (dN .i64 x0.lsn 16)) (wr .u8 (dN .i64 x0.lsn 8)) (wr .u8 (dN .i64 x0.lsn 0)) (wr .u8 (dN .u32 t9 0)) (wr .u8 (dN .u32 t9 8)) (wr .u8 (dN .u32 t9 16)) (wr .u8 (dN .u32 t9 24)))
noncomputable def acj:Cx:={ P:=PG,ety:=ety,fn:=look [(199,F7)],inl:=dR [71,147],lp:=aS [] }
theorem aeF (x0:dw):bP acj 84 [.val .slot] [.val .a20] x0=rP x0:=by kernel_rfl
def Bf:aO:=mkSpec [.val .slot] [.val .a20] true (fun x=>rP x)
theorem aal:dI PG 84 Bf:=
 have K:CxR acj:=aP.cx (fun _=>rfl) (l:=[(199,F7)]) ⟨aei,trivial⟩
 aH K (aG (l:=[]) rfl trivial) (by kernel_rfl) (fun x y h=>(aeF x).trans h) rfl rfl
def zY (x0:dw):Option (Bool):=some (band (band (band (ile 1 x0.gen) (ile x0.gen 1000000000)) (ile 0 x0.lsn)) (ile x0.lsn 1000000000))
noncomputable def abh:Cx:={ P:=PG,ety:=ety,fn:=look [],inl:=dR [],lp:=aS [] }
theorem aew (x0:dw):bP abh 83 [.val .slot] [.bool] x0=zY x0:=by kernel_rfl
def Bh:aO:=mkSpec [.val .slot] [.bool] true (fun x=>zY x)
theorem aag:dI PG 83 Bh:=
 have K:CxR abh:=aP.cx (fun _=>rfl) (l:=[]) trivial
 aH K (aG (l:=[]) rfl trivial) (by kernel_rfl) (fun x y h=>(aew x).trans h) rfl rfl
def pO (x0:(List Int)):Option (dw×Int):=cnd (ay (ieq (len x0) 20)) (some (dw.mk 0 0,2)) (cnd (ilt 0 (len x0)) (cnd (ilt 8 (len x0)) (cnd (ilt 1 (len x0)) (cnd (ilt 9 (len x0)) (cnd (ilt 2 (len x0)) (cnd (ilt 10 (len x0)) (cnd (ilt 3 (len x0)) (cnd (ilt 11 (len x0)) (cnd (ilt 4 (len x0)) (cnd (ilt 12 (len x0)) (cnd (ilt 5 (len x0)) (cnd (ilt 13 (len x0)) (cnd (ilt 6 (len x0)) (cnd (ilt 14 (len x0)) (cnd (ilt 7 (len x0)) (cnd (ilt 15 (len x0)) (af (rP (dw.mk (wr .i64 (ior .i64 (wr .i64 (qW .i64 (wr .i64 (ior .i64 (wr .i64 (qW .i64 (wr .i64 (ior .i64 (wr .i64 (qW .i64 (wr .i64 (ior .i64 (wr .i64 (qW .i64 (wr .i64 (ior .i64 (wr .i64 (qW .i64 (wr .i64 (ior .i64 (wr .i64 (qW .i64 (wr .i64 (ior .i64 (wr .i64 (qW .i64 (wr .i64 (ior .i64 0 (wr .i64 (ai x0 0)))) 8)) (wr .i64 (ai x0 1)))) 8)) (wr .i64 (ai x0 2)))) 8)) (wr .i64 (ai x0 3)))) 8)) (wr .i64 (ai x0 4)))) 8)) (wr .i64 (ai x0 5)))) 8)) (wr .i64 (ai x0 6)))) 8)) (wr .i64 (ai x0 7)))) (wr .i64 (ior .i64 (wr .i64 (qW .i64 (wr .i64 (ior .i64 (wr .i64 (qW .i64 (wr .i64 (ior .i64 (wr .i64 (qW .i64 (wr .i64 (ior .i64 (wr .i64 (qW .i64 (wr .i64 (ior .i64 (wr .i64 (qW .i64 (wr .i64 (ior .i64 (wr .i64 (qW .i64 (wr .i64 (ior .i64 (wr .i64 (qW .i64 (wr .i64 (ior .i64 0 (wr .i64 (ai x0 8)))) 8)) (wr .i64 (ai x0 9)))) 8)) (wr .i64 (ai x0 10)))) 8)) (wr .i64 (ai x0 11)))) 8)) (wr .i64 (ai x0 12)))) 8)) (wr .i64 (ai x0 13)))) 8)) (wr .i64 (ai x0 14)))) 8)) (wr .i64 (ai x0 15)))))) fun y0=>cnd (ile 20 (len x0)) (cnd (ay (band (ieq y0.a0 (ai x0 0)) (band (ieq y0.a1 (ai x0 1)) (band (ieq y0.a2 (ai x0 2)) (band (ieq y0.a3 (ai x0 3)) (band (ieq y0.a4 (ai x0 4)) (band (ieq y0.a5 (ai x0 5)) (band (ieq y0.a6 (ai x0 6)) (band (ieq y0.a7 (ai x0 7)) (band (ieq y0.a8 (ai x0 8)) (band (ieq y0.a9 (ai x0 9)) (band (ieq y0.a10 (ai x0 10)) (band (ieq y0.a11 (ai x0 11)) (band (ieq y0.a12 (ai x0 12)) (band (ieq y0.a13 (ai x0 13)) (band (ieq y0.a14 (ai x0 14)) (band (ieq y0.a15 (ai x0 15)) (band (ieq y0.a16 (ai x0 16)) (band (ieq y0.a17 (ai x0 17)) (band (ieq y0.a18 (ai x0 18)) (band (ieq y0.a19 (ai x0 19)) true))))))))))))))))))))) (some (dw.mk 0 0,10)) (af (zY (dw.mk (wr .i64 (ior .i64 (wr .i64 (qW .i64 (wr .i64 (ior .i64 (wr .i64 (qW .i64 (wr .i64 (ior .i64 (wr .i64 (qW .i64 (wr .i64 (ior .i64 (wr .i64 (qW .i64 (wr .i64 (ior .i64 (wr .i64 (qW .i64 (wr .i64 (ior .i64 (wr .i64 (qW .i64 (wr .i64 (ior .i64 (wr .i64 (qW .i64 (wr .i64 (ior .i64 0 (wr .i64 (ai x0 0)))) 8)) (wr .i64 (ai x0 1)))) 8)) (wr .i64 (ai x0 2)))) 8)) (wr .i64 (ai x0 3)))) 8)) (wr .i64 (ai x0 4)))) 8)) (wr .i64 (ai x0 5)))) 8)) (wr .i64 (ai x0 6)))) 8)) (wr .i64 (ai x0 7)))) (wr .i64 (ior .i64 (wr .i64 (qW .i64 (wr .i64 (ior .i64 (wr .i64 (qW .i64 (wr .i64 (ior .i64 (wr .i64 (qW .i64 (wr .i64 (ior .i64 (wr .i64 (qW .i64 (wr .i64 (ior .i64 (wr .i64 (qW .i64 (wr .i64 (ior .i64 (wr .i64 (qW .i64 (wr .i64 (ior .i64 (wr .i64 (qW .i64 (wr .i64 (ior .i64 0 (wr .i64 (ai x0 8)))) 8)) (wr .i64 (ai x0 9)))) 8)) (wr .i64 (ai x0 10)))) 8)) (wr .i64 (ai x0 11)))) 8)) (wr .i64 (ai x0 12)))) 8)) (wr .i64 (ai x0 13)))) 8)) (wr .i64 (ai x0 14)))) 8)) (wr .i64 (ai x0 15)))))) fun y1=>cnd (ay y1) (some (dw.mk 0 0,2)) (some (dw.mk (wr .i64 (ior .i64 (wr .i64 (qW .i64 (wr .i64 (ior .i64 (wr .i64 (qW .i64 (wr .i64 (ior .i64 (wr .i64 (qW .i64 (wr .i64 (ior .i64 (wr .i64 (qW .i64 (wr .i64 (ior .i64 (wr .i64 (qW .i64 (wr .i64 (ior .i64 (wr .i64 (qW .i64 (wr .i64 (ior .i64 (wr .i64 (qW .i64 (wr .i64 (ior .i64 0 (wr .i64 (ai x0 0)))) 8)) (wr .i64 (ai x0 1)))) 8)) (wr .i64 (ai x0 2)))) 8)) (wr .i64 (ai x0 3)))) 8)) (wr .i64 (ai x0 4)))) 8)) (wr .i64 (ai x0 5)))) 8)) (wr .i64 (ai x0 6)))) 8)) (wr .i64 (ai x0 7)))) (wr .i64 (ior .i64 (wr .i64 (qW .i64 (wr .i64 (ior .i64 (wr .i64 (qW .i64 (wr .i64 (ior .i64 (wr .i64 (qW .i64 (wr .i64 (ior .i64 (wr .i64 (qW .i64 (wr .i64 (ior .i64 (wr .i64 (qW .i64 (wr .i64 (ior .i64 (wr .i64 (qW .i64 (wr .i64 (ior .i64 (wr .i64 (qW .i64 (wr .i64 (ior .i64 0 (wr .i64 (ai x0 8)))) 8)) (wr .i64 (ai x0 9)))) 8)) (wr .i64 (ai x0 10)))) 8)) (wr .i64 (ai x0 11)))) 8)) (wr .i64 (ai x0 12)))) 8)) (wr .i64 (ai x0 13)))) 8)) (wr .i64 (ai x0 14)))) 8)) (wr .i64 (ai x0 15)))),0)))) none) none) none) none) none) none) none) none) none) none) none) none) none) none) none) none) none)
noncomputable def aam:Cx:={ P:=PG,ety:=ety,fn:=look [(84,Bf),(83,Bh)],inl:=dR [],lp:=aS [] }
theorem adK (x0:(List Int)):bP aam 73 [.ro .u8] [.val .slot,.int .i64] x0=pO x0:=by kernel_rfl
def LQ:aO:=mkSpec [.ro .u8] [.val .slot,.int .i64] true (fun x=>pO x)
theorem afl:dI PG 73 LQ:=
 have K:CxR aam:=aP.cx (fun _=>rfl) (l:=[(84,Bf),(83,Bh)]) ⟨aal,aag,trivial⟩
 aH K (aG (l:=[]) rfl trivial) (by kernel_rfl) (fun x y h=>(adK x).trans h) rfl rfl
def xg (x0:au):Option (dw×Int):=af (Au x0) fun y0=>cnd (ay y0) (some (dw.mk 0 0,1)) (cnd x0.down (some (dw.mk 0 0,9)) (af (l7 0) fun y1=>af (nP x0 y1) fun y2=>af (pO y2.fst) fun y3=>cnd (band (band (ieq y3.snd 0) (ieq (wo y3.fst.gen 2) 0)) (ilt 0 y3.fst.gen)) (af (l7 1) fun y4=>af (nP x0 y4) fun y5=>af (pO y5.fst) fun y6=>cnd (band (band (ieq y6.snd 0) (ieq (wo y6.fst.gen 2) 1)) (ilt y3.fst.gen y6.fst.gen)) (cnd (ieq y6.fst.gen 0) (some (dw.mk 0 0,7)) (some (y6.fst,0))) (cnd (ieq y3.fst.gen 0) (some (dw.mk 0 0,7)) (some (y3.fst,0)))) (af (l7 1) fun y7=>af (nP x0 y7) fun y8=>af (pO y8.fst) fun y9=>cnd (band (band (ieq y9.snd 0) (ieq (wo y9.fst.gen 2) 1)) (ilt 0 y9.fst.gen)) (cnd (ieq y9.fst.gen 0) (some (dw.mk 0 0,7)) (some (y9.fst,0))) (some (dw.mk 0 0,7)))))
noncomputable def adW:Cx:={ P:=PG,ety:=ety,fn:=look [(52,AY),(72,Dv),(21,qh),(73,LQ)],inl:=dR [],lp:=aS [] }
theorem ag4 (x0:au):bP adW 25 [.val .disk] [.val .slot,.int .i64] x0=xg x0:=by kernel_rfl
def vY:aO:=mkSpec [.val .disk] [.val .slot,.int .i64] true (fun x=>xg x)
theorem Vg:dI PG 25 vY:=
 have K:CxR adW:=aP.cx (fun _=>rfl) (l:=[(52,AY),(72,Dv),(21,qh),(73,LQ)]) ⟨ZR,abG,O6,afl,trivial⟩
 aH K (aG (l:=[]) rfl trivial) (by kernel_rfl) (fun x y h=>(ag4 x).trans h) rfl rfl
def uz (x0:Int) (x1:Int):Option (List UInt8):=aow x0 x1
def zL:aO:=mkSpec [.int .i64,.int .i64] [.str] true (fun x=>uz x.1 x.2)
def Xr:Go.Shelf.Ren:=⟨fun | 173=>49 | 246=>113 | 283=>171 | 284=>172 | 285=>173 | 286=>174 | 129=>212 | 317=>211 | 318=>213 | 319=>214 | 320=>215 | 337=>233 | 338=>234 | n=>n,fun | 2=>2 | 3=>3 | 9=>9 | 4=>4 | 171=>224 | 0=>0 | 53=>219 | 37=>51 | 5=>5 | 173=>227 | 212=>260 | 51=>119 | 20=>20 | 213=>261 | 46=>162 | 232=>285 | 233=>286 | n=>n,fun | 17=>0 | 18=>4 | 19=>5 | n=>n⟩
theorem Jg:Go.Proofs.LaysM.n173 PG Xr where
 mixed:=by kernel_rfl
 f129:=by kernel_rfl
 f173:=by kernel_rfl
 f246:=by kernel_rfl
 f283:=by kernel_rfl
 f284:=by kernel_rfl
 f285:=by kernel_rfl
 f286:=by kernel_rfl
 f317:=by kernel_rfl
 f318:=by kernel_rfl
 f319:=by kernel_rfl
 f320:=by kernel_rfl
 f337:=by kernel_rfl
 f338:=by kernel_rfl
 t0:=by kernel_rfl
 a0:=fun w=>by kernel_rfl
 z0:=fun w=>by kernel_rfl
 v0:=fun w=>by kernel_rfl
 t2:=by kernel_rfl
 a2:=fun w=>by kernel_rfl
 z2:=fun w=>by kernel_rfl
 v2:=fun w=>by kernel_rfl
 t3:=by kernel_rfl
 a3:=fun w=>by kernel_rfl
 z3:=fun w=>by kernel_rfl
 v3:=fun w=>by kernel_rfl
 t4:=by kernel_rfl
 a4:=fun w=>by kernel_rfl
 z4:=fun w=>by kernel_rfl
 v4:=fun w=>by kernel_rfl
 t5:=by kernel_rfl
 a5:=fun w=>by kernel_rfl
 z5:=fun w=>by kernel_rfl
 v5:=fun w=>by kernel_rfl
 t9:=by kernel_rfl
 a9:=fun w=>by kernel_rfl
 z9:=fun w=>by kernel_rfl
 v9:=fun w=>by kernel_rfl
 t20:=by kernel_rfl
 a20:=fun w=>by kernel_rfl
 z20:=fun w=>by kernel_rfl
 v20:=fun w=>by kernel_rfl
 t37:=by kernel_rfl
 a37:=fun w=>by kernel_rfl
 z37:=fun w=>by kernel_rfl
 v37:=fun w=>by kernel_rfl
 t46:=by kernel_rfl
 a46:=fun w=>by kernel_rfl
 z46:=fun w=>by kernel_rfl
 v46:=fun w=>by kernel_rfl
 t51:=by kernel_rfl
 a51:=fun w=>by kernel_rfl
 z51:=fun w=>by kernel_rfl
 v51:=fun w=>by kernel_rfl
 t53:=by kernel_rfl
 a53:=fun w=>by kernel_rfl
 z53:=fun w=>by kernel_rfl
 v53:=fun w=>by kernel_rfl
 t171:=by kernel_rfl
 a171:=fun w=>by kernel_rfl
 z171:=fun w=>by kernel_rfl
 v171:=fun w=>by kernel_rfl
 t173:=by kernel_rfl
 a173:=fun w=>by kernel_rfl
 z173:=fun w=>by kernel_rfl
 v173:=fun w=>by kernel_rfl
 t212:=by kernel_rfl
 a212:=fun w=>by kernel_rfl
 z212:=fun w=>by kernel_rfl
 v212:=fun w=>by kernel_rfl
 t213:=by kernel_rfl
 a213:=fun w=>by kernel_rfl
 z213:=fun w=>by kernel_rfl
 t232:=by kernel_rfl
 a232:=fun w=>by kernel_rfl
 z232:=fun w=>by kernel_rfl
 v232:=fun w=>by kernel_rfl
 t233:=by kernel_rfl
 a233:=fun w=>by kernel_rfl
 z233:=fun w=>by kernel_rfl
 v233:=fun w=>by kernel_rfl
 g17:=by kernel_rfl
 g18:=by kernel_rfl
 g19:=by kernel_rfl
 i0:=by kernel_rfl
 i2:=by kernel_rfl
 i3:=by kernel_rfl
 i4:=by kernel_rfl
 i5:=by kernel_rfl
 i9:=by kernel_rfl
 i20:=by kernel_rfl
 i37:=by kernel_rfl
 i46:=by kernel_rfl
 i51:=by kernel_rfl
 i53:=by kernel_rfl
 i171:=by kernel_rfl
 i173:=by kernel_rfl
 i212:=by kernel_rfl
 i232:=by kernel_rfl
 i233:=by kernel_rfl
 m17:=by kernel_rfl
 m18:=by kernel_rfl
 m19:=by kernel_rfl
theorem YM:dI PG 49 zL:=aoO aP Jg (by kernel_rfl) (g:=0) (by kernel_rfl) (by simp [glL]) fun x y h=>h
def yU (x0:(List UInt8)) (x1:Int):Option (List UInt8):=apa x0 x1
def Fh:aO:=mkSpec [.str,.int .i64] [.str] true (fun x=>yU x.1 x.2)
def Qw:Go.Shelf.Ren:=⟨fun | 105=>50 | 212=>114 | 99=>115 | 165=>116 | 166=>117 | 170=>118 | 169=>119 | 263=>175 | 264=>176 | 206=>177 | 240=>178 | 241=>179 | 276=>216 | 277=>217 | n=>n,fun | 9=>9 | 3=>3 | 4=>4 | 20=>20 | 0=>0 | 46=>162 | 109=>163 | 5=>5 | 72=>168 | 76=>170 | 51=>119 | 146=>229 | 53=>219 | 148=>231 | 70=>166 | 37=>51 | 75=>139 | 127=>233 | 164=>264 | 71=>167 | 74=>138 | 80=>173 | n=>n,fun | n=>n⟩
theorem NE:Go.Proofs.Lays.n105 PG Qw where
 mixed:=by kernel_rfl
 f99:=by kernel_rfl
 f105:=by kernel_rfl
 f165:=by kernel_rfl
 f166:=by kernel_rfl
 f169:=by kernel_rfl
 f170:=by kernel_rfl
 f206:=by kernel_rfl
 f212:=by kernel_rfl
 f240:=by kernel_rfl
 f241:=by kernel_rfl
 f263:=by kernel_rfl
 f264:=by kernel_rfl
 f276:=by kernel_rfl
 f277:=by kernel_rfl
 t0:=by kernel_rfl
 a0:=fun w=>by kernel_rfl
 z0:=fun w=>by kernel_rfl
 v0:=fun w=>by kernel_rfl
 t3:=by kernel_rfl
 a3:=fun w=>by kernel_rfl
 z3:=fun w=>by kernel_rfl
 v3:=fun w=>by kernel_rfl
 t4:=by kernel_rfl
 a4:=fun w=>by kernel_rfl
 z4:=fun w=>by kernel_rfl
 v4:=fun w=>by kernel_rfl
 t5:=by kernel_rfl
 a5:=fun w=>by kernel_rfl
 z5:=fun w=>by kernel_rfl
 v5:=fun w=>by kernel_rfl
 t9:=by kernel_rfl
 a9:=fun w=>by kernel_rfl
 z9:=fun w=>by kernel_rfl
 v9:=fun w=>by kernel_rfl
 t20:=by kernel_rfl
 a20:=fun w=>by kernel_rfl
 z20:=fun w=>by kernel_rfl
 v20:=fun w=>by kernel_rfl
 t37:=by kernel_rfl
 a37:=fun w=>by kernel_rfl
 z37:=fun w=>by kernel_rfl
 v37:=fun w=>by kernel_rfl
 t46:=by kernel_rfl
 a46:=fun w=>by kernel_rfl
 z46:=fun w=>by kernel_rfl
 v46:=fun w=>by kernel_rfl
 t51:=by kernel_rfl
 a51:=fun w=>by kernel_rfl
 z51:=fun w=>by kernel_rfl
 v51:=fun w=>by kernel_rfl
 t53:=by kernel_rfl
 a53:=fun w=>by kernel_rfl
 z53:=fun w=>by kernel_rfl
 v53:=fun w=>by kernel_rfl
 t70:=by kernel_rfl
 a70:=fun w=>by kernel_rfl
 z70:=fun w=>by kernel_rfl
 v70:=fun w=>by kernel_rfl
 t72:=by kernel_rfl
 a72:=fun w=>by kernel_rfl
 z72:=fun w=>by kernel_rfl
 v72:=fun w=>by kernel_rfl
 t75:=by kernel_rfl
 a75:=fun w=>by kernel_rfl
 z75:=fun w=>by kernel_rfl
 v75:=fun w=>by kernel_rfl
 t76:=by kernel_rfl
 a76:=fun w=>by kernel_rfl
 z76:=fun w=>by kernel_rfl
 v76:=fun w=>by kernel_rfl
 t109:=by kernel_rfl
 a109:=fun w=>by kernel_rfl
 z109:=fun w=>by kernel_rfl
 v109:=fun w=>by kernel_rfl
 t127:=by kernel_rfl
 a127:=fun w=>by kernel_rfl
 z127:=fun w=>by kernel_rfl
 v127:=fun w=>by kernel_rfl
 t146:=by kernel_rfl
 a146:=fun w=>by kernel_rfl
 z146:=fun w=>by kernel_rfl
 v146:=fun w=>by kernel_rfl
 t148:=by kernel_rfl
 a148:=fun w=>by kernel_rfl
 z148:=fun w=>by kernel_rfl
 v148:=fun w=>by kernel_rfl
 t164:=by kernel_rfl
 a164:=fun w=>by kernel_rfl
 z164:=fun w=>by kernel_rfl
 v164:=fun w=>by kernel_rfl
theorem Jf:Go.Proofs.Builder.Extra PG Qw where
 sizeBuilder:=by kernel_rfl
 liesBuilder:=by kernel_rfl
 t5:=by kernel_rfl
 a5:=fun w=>by kernel_rfl
 z5:=fun w=>by kernel_rfl
 v5:=fun w=>by kernel_rfl
 infoByte:=by kernel_rfl
 cellsByte:=by kernel_rfl
 sizeByte:=by kernel_rfl
 neB5:=by decide
theorem aby:dI PG 50 Fh:=aoJ aP NE Jf (by kernel_rfl) fun x y h=>h
def dV (x0:Int):Option ((List UInt8)):=cnd (bor (ilt x0 1) (ilt 1000000000 x0)) (some []) (af (uz x0 10) fun y0=>af (yU [(UInt8.ofNat 48)] (wr .i64 (aI 10 (len y0)))) fun y1=>cnd (ile (aj 5 (len y1)) 68719476736) (cnd (ile (aj (len (dB [(UInt8.ofNat 115),(UInt8.ofNat 110),(UInt8.ofNat 97),(UInt8.ofNat 112),(UInt8.ofNat 46)] y1)) (len y0)) 68719476736) (some (dB (dB [(UInt8.ofNat 115),(UInt8.ofNat 110),(UInt8.ofNat 97),(UInt8.ofNat 112),(UInt8.ofNat 46)] y1) y0)) none) none)
noncomputable def abD:Cx:={ P:=PG,ety:=ety,fn:=look [(49,zL),(50,Fh)],inl:=dR [],lp:=aS [] }
theorem aeN (x0:Int):bP abD 17 [.int .i64] [.str] x0=dV x0:=by kernel_rfl
def oI:aO:=mkSpec [.int .i64] [.str] true (fun x=>dV x)
theorem GK:dI PG 17 oI:=
 have K:CxR abD:=aP.cx (fun _=>rfl) (l:=[(49,zL),(50,Fh)]) ⟨YM,aby,trivial⟩
 aH K (aG (l:=[]) rfl trivial) (by kernel_rfl) (fun x y h=>(aeN x).trans h) rfl rfl
def La (x0:Int) (x1:Int) (x2:Int):Option (Int):=some (wr .i64 (aj (wr .i64 (aj (wr .i64 (aj (wr .i64 (aj 32 (wr .i64 (dX x2 61)))) (wr .i64 (dX (wr .i64 (dX x0 x1)) 32)))) (wr .i64 (dX x0 8)))) 4))
noncomputable def aft:Cx:={ P:=PG,ety:=ety,fn:=look [],inl:=dR [],lp:=aS [] }
theorem ahs (x0:Int) (x1:Int) (x2:Int):bP aft 109 [.int .i64,.int .i64,.int .i64] [.int .i64] (x0,x1,x2)=La x0 x1 x2:=by kernel_rfl
def Gw:aO:=mkSpec [.int .i64,.int .i64,.int .i64] [.int .i64] true (fun x=>La x.1 x.2.1 x.2.2)
theorem adS:dI PG 109 Gw:=
 have K:CxR aft:=aP.cx (fun _=>rfl) (l:=[]) trivial
 aH K (aG (l:=[]) rfl trivial) (by kernel_rfl) (fun x y h=>(ahs x.1 x.2.1 x.2.2).trans h) rfl rfl
def aaj:LSh:=⟨73,[(11,.int .i64),(10,.ro .u8)],[],[],[(12,.int .i64),(5,.int .u32)],[],[]⟩
@[reducible] def ZU:List fO:=[⟨.exit 0,[(5,.int .u32)],[],[]⟩]
def Gs (p0:Int) (p1:(List Int)) (v0:Int) (v1:Int):Option ((Int×Int) ⊕ ((Int))):=cnd (ilt v0 p0) (cnd (band (ile 0 v0) (ilt v0 (len p1))) (af (dM (wr .u32 (kM .u32 (wr .u32 (iH .u32 v1 (wr .u32 (ai p1 (itn v0))))) 15))) fun y0=>af (dM (wr .u32 (kM .u32 (wr .u32 (iH .u32 y0 (dN .u32 (wr .u32 (iH .u32 v1 (wr .u32 (ai p1 (itn v0))))) 4))) 15))) fun y1=>some (Sum.inl (wr .i64 (aj v0 1),wr .u32 (iH .u32 y1 (dN .u32 (wr .u32 (iH .u32 y0 (dN .u32 (wr .u32 (iH .u32 v1 (wr .u32 (ai p1 (itn v0))))) 4))) 4))))) none) (some (Sum.inr v1))
def Yw:dU:=aaj.spec ZU [13,14,15,7,16,17,18,19,5,20,21,22,23,24,25,26,27,28,29,30,31,32,12] (fun p v=>Gs p.1 p.2 v.1 v.2)
def Vu (x0:Int) (x1:(List Int)):Option (Int):=af (bD (fun v=>Gs (len x1) x1 v.fst v.snd) LF (0,wr .u32 (iH .u32 4294967295 x0))) fun y0=>some (wr .u32 (iH .u32 4294967295 y0))
noncomputable def aap:Cx:={ P:=PG,ety:=ety,fn:=look [(199,F7)],inl:=dR [],lp:=aS [(147,58,Yw)] }
theorem ado (p0:Int) (p1:(List Int)) (v0:Int) (v1:Int):fC aap 900 147 58 (dK PG 147 58) aaj ZU (p0,p1) (v0,v1)=Gs p0 p1 v0 v1:=by kernel_rfl
theorem ahI (x0:Int) (x1:(List Int)):bP aap 147 [.int .u32,.ro .u8] [.int .u32] (x0,x1)=Vu x0 x1:=by kernel_rfl
def Tn:aO:=mkSpec [.int .u32,.ro .u8] [.int .u32] true (fun x=>Vu x.1 x.2)
theorem alL:dI PG 147 Tn:=
 have K:CxR aap:=aP.cx (fun _=>rfl) (l:=[(199,F7)]) ⟨aei,trivial⟩
 aH K (aG (l:=[(147,58,Yw)]) rfl ⟨bF (n:=900) (f:=147) K (by kernel_rfl) (by kernel_rfl) (by kernel_rfl) (by kernel_rfl) (by kernel_rfl) (fun p v r h=>(ado p.1 p.2 v.1 v.2).trans h),trivial⟩) (by kernel_rfl) (fun x y h=>(ahI x.1 x.2).trans h) rfl rfl
def Py (x0:(List Int)):Option (Int):=af (Vu 0 x0) fun y0=>some y0
noncomputable def ahW:Cx:={ P:=PG,ety:=ety,fn:=look [(147,Tn)],inl:=dR [],lp:=aS [] }
theorem ajm (x0:(List Int)):bP ahW 71 [.ro .u8] [.int .u32] x0=Py x0:=by kernel_rfl
def J6:aO:=mkSpec [.ro .u8] [.int .u32] true (fun x=>Py x)
theorem ag2:dI PG 71 J6:=
 have K:CxR ahW:=aP.cx (fun _=>rfl) (l:=[(147,Tn)]) ⟨alL,trivial⟩
 aH K (aG (l:=[]) rfl trivial) (by kernel_rfl) (fun x y h=>(ajm x).trans h) rfl rfl
def OL:LSh:=⟨76,[(14,.int .i64),(13,.ro .u8)],[],[],[(15,.int .i64),(5,.int .i64)],[],[]⟩
@[reducible] def Ox:List fO:=[⟨.exit 0,[(5,.int .i64)],[],[]⟩]
def uq (p0:Int) (p1:(List Int)) (v0:Int) (v1:Int):Option ((Int×Int) ⊕ ((Int))):=cnd (ilt v0 p0) (cnd (band (ile 0 v0) (ilt v0 (len p1))) (some (Sum.inl (wr .i64 (aj v0 1),wr .i64 (ior .i64 (wr .i64 (qW .i64 v1 8)) (wr .i64 (ai p1 (itn v0))))))) none) (some (Sum.inr v1))
def ND:dU:=OL.spec Ox [16,17,18,7,19,20,21,22,23,5,24,15] (fun p v=>uq p.1 p.2 v.1 v.2)
def dP (x0:gV) (x1:Int):Option (gV×(Int)):=cnd (band (ile 0 x1) (ile x1 (len x0.rest))) (af (bD (fun v=>uq (len (aA x0.rest (itn x1))) (aA x0.rest (itn x1)) v.fst v.snd) LF (0,0)) fun y0=>cnd (band (ile 0 x1) (ile x1 (len x0.rest))) (some (gV.mk (aN x0.rest (itn x1)) x0.odd,y0)) none) none
noncomputable def LJ:Cx:={ P:=PG,ety:=ety,fn:=look [],inl:=dR [],lp:=aS [(168,58,ND)] }
theorem Wy (p0:Int) (p1:(List Int)) (v0:Int) (v1:Int):fC LJ 900 168 58 (dK PG 168 58) OL Ox (p0,p1) (v0,v1)=uq p0 p1 v0 v1:=by kernel_rfl
theorem Zx (x0:gV) (x1:Int):aaE LJ 168 .reader [.int .i64] [.int .i64] x0 x1=dP x0 x1:=by kernel_rfl
def nJ:aO:=wE .reader [.int .i64] [.int .i64] (fun x=>dP x.1 x.2)
theorem Jz:dI PG 168 nJ:=
 have K:CxR LJ:=aP.cx (fun _=>rfl) (l:=[]) trivial
 Y1 K (aG (l:=[(168,58,ND)]) rfl ⟨bF (n:=900) (f:=168) K (by kernel_rfl) (by kernel_rfl) (by kernel_rfl) (by kernel_rfl) (by kernel_rfl) (fun p v r h=>(Wy p.1 p.2 v.1 v.2).trans h),trivial⟩) (by kernel_rfl) (fun x y h=>(Zx x.1 x.2).trans h) rfl rfl
def jl (x0:gV):Option (gV×(Int)):=af (dP x0 1) fun y0=>some y0
noncomputable def UE:Cx:={ P:=PG,ety:=ety,fn:=look [(168,nJ)],inl:=dR [],lp:=aS [] }
theorem ZI (x0:gV):aaE UE 166 .reader [] [.int .i64] x0 ()=jl x0:=by kernel_rfl
def nN:aO:=wE .reader [] [.int .i64] (fun x=>jl x.1)
theorem JZ:dI PG 166 nN:=
 have K:CxR UE:=aP.cx (fun _=>rfl) (l:=[(168,nJ)]) ⟨Jz,trivial⟩
 Y1 K (aG (l:=[]) rfl trivial) (by kernel_rfl) (fun x y h=>(ZI x.1).trans h) rfl rfl
def tK (x0:gV):Option (gV×(Bool)):=af (jl x0) fun y0=>some (gV.mk y0.fst.rest (bor y0.fst.odd (ilt 1 y0.snd)),ieq y0.snd 1)
noncomputable def SE:Cx:={ P:=PG,ety:=ety,fn:=look [(166,nN)],inl:=dR [],lp:=aS [] }
theorem Yc (x0:gV):aaE SE 167 .reader [] [.bool] x0 ()=tK x0:=by kernel_rfl
def sH:aO:=wE .reader [] [.bool] (fun x=>tK x.1)
theorem QJ:dI PG 167 sH:=
 have K:CxR SE:=aP.cx (fun _=>rfl) (l:=[(166,nN)]) ⟨JZ,trivial⟩
 Y1 K (aG (l:=[]) rfl trivial) (by kernel_rfl) (fun x y h=>(Yc x.1).trans h) rfl rfl
def vX (x0:gV):Option (gV×(aJ)):=af (dP x0 8) fun y0=>af (jl y0.fst) fun y1=>af (jl y1.fst) fun y2=>af (jl y2.fst) fun y3=>af (jl y3.fst) fun y4=>af (dP y4.fst 8) fun y5=>af (dP y5.fst 8) fun y6=>af (dP y6.fst 8) fun y7=>af (dP y7.fst 8) fun y8=>af (dP y8.fst 8) fun y9=>af (dP y9.fst 8) fun y10=>af (tK y10.fst) fun y11=>some (y11.fst,aJ.mk y0.snd y1.snd y2.snd y3.snd y5.snd y6.snd y7.snd y4.snd y8.snd y9.snd y10.snd y11.snd)
noncomputable def Qh:Cx:={ P:=PG,ety:=ety,fn:=look [(168,nJ),(166,nN),(167,sH)],inl:=dR [],lp:=aS [] }
theorem Xh (x0:gV):aaE Qh 169 .reader [] [.val .order] x0 ()=vX x0:=by kernel_rfl
def BI:aO:=wE .reader [] [.val .order] (fun x=>vX x.1)
theorem ZA:dI PG 169 BI:=
 have K:CxR Qh:=aP.cx (fun _=>rfl) (l:=[(168,nJ),(166,nN),(167,sH)]) ⟨Jz,JZ,QJ,trivial⟩
 Y1 K (aG (l:=[]) rfl trivial) (by kernel_rfl) (fun x y h=>(Xh x.1).trans h) rfl rfl
def OW (x0:ax) (x1:Int) (x2:Int):Option (Int):=cnd (bor (bor (bor (ilt x1 0) (ile x0.accounts x1)) (ilt x2 0)) (ile x0.symbols x2)) (some (-1)) (af (bU x0 x1 x2) fun y0=>some y0)
noncomputable def acz:Cx:={ P:=PG,ety:=ety,fn:=look [(137,iq)],inl:=dR [],lp:=aS [] }
theorem aem (x0:ax) (x1:Int) (x2:Int):bP acz 170 [.val .state,.int .i64,.int .i64] [.int .i64] (x0,x1,x2)=OW x0 x1 x2:=by kernel_rfl
def Ob:aO:=mkSpec [.val .state,.int .i64,.int .i64] [.int .i64] true (fun x=>OW x.1 x.2.1 x.2.2)
theorem ahr:dI PG 170 Ob:=
 have K:CxR acz:=aP.cx (fun _=>rfl) (l:=[(137,iq)]) ⟨wG,trivial⟩
 aH K (aG (l:=[]) rfl trivial) (by kernel_rfl) (fun x y h=>(aem x.1 x.2.1 x.2.2).trans h) rfl rfl
def RX:LSh:=⟨136,[(77,.int .i64),(76,.ro .u8),(9,.int .u32)],[(2,.mp 8 0)],[],[(78,.int .i64),(3,.int .i64)],[(8,[.val .state])],[]⟩
@[reducible] def SG:List fO:=[⟨.ret,[(3,.int .i64)],[(8,[.val .state])],[]⟩,⟨.exit 0,[(3,.int .i64)],[(8,[.val .state])],[]⟩]
def tN (p0:Int) (p1:(List Int)) (p2:Int) (v0:Int) (v1:Int) (v2:ax):Option ((Int×Int×ax) ⊕ ((Int×ax) ⊕ ((Int×ax)))):=cnd (ilt v0 p0) (cnd (band (ile 0 v0) (ilt v0 (len p1))) (cnd (ile 0 (wr .i64 (dX 8 v0))) (cnd (ay (ieq (ai p1 (itn v0)) (wr .u8 (dN .u32 p2 (wr .i64 (dX 8 v0)))))) (some (Sum.inr (Sum.inl (10,ax.mk 0 0 [] [] [] [] false 0 0 0)))) (some (Sum.inl (wr .i64 (aj v0 1),v1,v2)))) none) none) (some (Sum.inr (Sum.inr (v1,v2))))
def Qo:dU:=RX.spec SG [79,80,81,82,10,11,83,84,85,86,87,88,89,90,3,91,78] (fun p v=>tN p.1 p.2.1 p.2.2 v.1 v.2.1 v.2.2)
def sZ:LSh:=⟨245,[(28,.int .i64)],[(3,.mp 1264 0),(0,.mp 1152 0)],[],[(29,.int .i64)],[(1264,[.int .i64,.int .i64,.buf .order,.buf .cell,.buf .expo,.buf .i64,.bool,.int .i64,.int .i64,.int .i64]),(1152,[.val .reader])],[]⟩
@[reducible] def tq:List fO:=[⟨.exit 0,[],[(1264,[.int .i64,.int .i64,.buf .order,.buf .cell,.buf .expo,.buf .i64,.bool,.int .i64,.int .i64,.int .i64]),(1152,[.val .reader])],[]⟩]
def fG (p0:Int) (v0:Int) (v1:Int) (v2:Int) (v3:(List aJ)) (v4:(List aK)) (v5:(List dL)) (v6:(List Int)) (v7:Bool) (v8:Int) (v9:Int) (v10:Int) (v11:gV):Option ((Int×Int×Int×(List aJ)×(List aK)×(List dL)×(List Int)×Bool×Int×Int×Int×gV) ⊕ ((Int×Int×(List aJ)×(List aK)×(List dL)×(List Int)×Bool×Int×Int×Int×gV))):=cnd (ilt v0 p0) (af (vX v11) fun y0=>cnd (band (ile 0 v0) (ilt v0 (len v3))) (some (Sum.inl (wr .i64 (aj v0 1),v1,v2,bT v3 (itn v0) y0.snd,v4,v5,v6,v7,v8,v9,v10,y0.fst))) none) (some (Sum.inr (v1,v2,v3,v4,v5,v6,v7,v8,v9,v10,v11)))
def rF:dU:=sZ.spec tq [30,31,4,32,33,34,35,36,37,38,29] (fun p v=>fG p v.1 v.2.1 v.2.2.1 v.2.2.2.1 v.2.2.2.2.1 v.2.2.2.2.2.1 v.2.2.2.2.2.2.1 v.2.2.2.2.2.2.2.1 v.2.2.2.2.2.2.2.2.1 v.2.2.2.2.2.2.2.2.2.1 v.2.2.2.2.2.2.2.2.2.2.1 v.2.2.2.2.2.2.2.2.2.2.2)
def rG:LSh:=⟨344,[(48,.int .i64)],[(3,.mp 1264 0),(0,.mp 1152 0)],[],[(49,.int .i64)],[(1264,[.int .i64,.int .i64,.buf .order,.buf .cell,.buf .expo,.buf .i64,.bool,.int .i64,.int .i64,.int .i64]),(1152,[.val .reader])],[]⟩
@[reducible] def rH:List fO:=[⟨.exit 2,[],[(1264,[.int .i64,.int .i64,.buf .order,.buf .cell,.buf .expo,.buf .i64,.bool,.int .i64,.int .i64,.int .i64]),(1152,[.val .reader])],[]⟩]
def eY (p0:Int) (v0:Int) (v1:Int) (v2:Int) (v3:(List aJ)) (v4:(List aK)) (v5:(List dL)) (v6:(List Int)) (v7:Bool) (v8:Int) (v9:Int) (v10:Int) (v11:gV):Option ((Int×Int×Int×(List aJ)×(List aK)×(List dL)×(List Int)×Bool×Int×Int×Int×gV) ⊕ ((Int×Int×(List aJ)×(List aK)×(List dL)×(List Int)×Bool×Int×Int×Int×gV))):=cnd (ilt v0 p0) (af (dP v11 8) fun y0=>cnd (band (ile 0 v0) (ilt v0 (len v4))) (some (Sum.inl (wr .i64 (aj v0 1),v1,v2,v3,bT v4 (itn v0) (aK.mk y0.snd (ai v4 (itn v0)).buy (ai v4 (itn v0)).sell (ai v4 (itn v0)).opn),v5,v6,v7,v8,v9,v10,y0.fst))) none) (some (Sum.inr (v1,v2,v3,v4,v5,v6,v7,v8,v9,v10,v11)))
def qN:dU:=rG.spec rH [50,51,5,52,53,54,55,56,57,58,59,49] (fun p v=>eY p v.1 v.2.1 v.2.2.1 v.2.2.2.1 v.2.2.2.2.1 v.2.2.2.2.2.1 v.2.2.2.2.2.2.1 v.2.2.2.2.2.2.2.1 v.2.2.2.2.2.2.2.2.1 v.2.2.2.2.2.2.2.2.2.1 v.2.2.2.2.2.2.2.2.2.2.1 v.2.2.2.2.2.2.2.2.2.2.2)
def rM:LSh:=⟨435,[(62,.int .i64)],[(3,.mp 1264 0),(0,.mp 1152 0)],[],[(63,.int .i64)],[(1264,[.int .i64,.int .i64,.buf .order,.buf .cell,.buf .expo,.buf .i64,.bool,.int .i64,.int .i64,.int .i64]),(1152,[.val .reader])],[]⟩
@[reducible] def rJ:List fO:=[⟨.exit 4,[],[(1264,[.int .i64,.int .i64,.buf .order,.buf .cell,.buf .expo,.buf .i64,.bool,.int .i64,.int .i64,.int .i64]),(1152,[.val .reader])],[]⟩]
def eX (p0:Int) (v0:Int) (v1:Int) (v2:Int) (v3:(List aJ)) (v4:(List aK)) (v5:(List dL)) (v6:(List Int)) (v7:Bool) (v8:Int) (v9:Int) (v10:Int) (v11:gV):Option ((Int×Int×Int×(List aJ)×(List aK)×(List dL)×(List Int)×Bool×Int×Int×Int×gV) ⊕ ((Int×Int×(List aJ)×(List aK)×(List dL)×(List Int)×Bool×Int×Int×Int×gV))):=cnd (ilt v0 p0) (af (dP v11 8) fun y0=>af (dP y0.fst 8) fun y1=>af (dP y1.fst 8) fun y2=>cnd (ile (len (dB v5 [dL.mk y0.snd y1.snd y2.snd])) 68719476736) (some (Sum.inl (wr .i64 (aj v0 1),v1,v2,v3,v4,dB v5 [dL.mk y0.snd y1.snd y2.snd],v6,v7,v8,v9,v10,y2.fst))) none) (some (Sum.inr (v1,v2,v3,v4,v5,v6,v7,v8,v9,v10,v11)))
def qO:dU:=rM.spec rJ [64,65,66,67,68,69,70,71,72,73,74,75,76,77,63] (fun p v=>eX p v.1 v.2.1 v.2.2.1 v.2.2.2.1 v.2.2.2.2.1 v.2.2.2.2.2.1 v.2.2.2.2.2.2.1 v.2.2.2.2.2.2.2.1 v.2.2.2.2.2.2.2.2.1 v.2.2.2.2.2.2.2.2.2.1 v.2.2.2.2.2.2.2.2.2.2.1 v.2.2.2.2.2.2.2.2.2.2.2)
def rO:LSh:=⟨525,[(79,.int .i64)],[(3,.mp 1264 0),(0,.mp 1152 0)],[],[(80,.int .i64)],[(1264,[.int .i64,.int .i64,.buf .order,.buf .cell,.buf .expo,.buf .i64,.bool,.int .i64,.int .i64,.int .i64]),(1152,[.val .reader])],[]⟩
@[reducible] def rE:List fO:=[⟨.exit 6,[],[(1264,[.int .i64,.int .i64,.buf .order,.buf .cell,.buf .expo,.buf .i64,.bool,.int .i64,.int .i64,.int .i64]),(1152,[.val .reader])],[]⟩]
def fA (p0:Int) (v0:Int) (v1:Int) (v2:Int) (v3:(List aJ)) (v4:(List aK)) (v5:(List dL)) (v6:(List Int)) (v7:Bool) (v8:Int) (v9:Int) (v10:Int) (v11:gV):Option ((Int×Int×Int×(List aJ)×(List aK)×(List dL)×(List Int)×Bool×Int×Int×Int×gV) ⊕ ((Int×Int×(List aJ)×(List aK)×(List dL)×(List Int)×Bool×Int×Int×Int×gV))):=cnd (ilt v0 p0) (af (dP v11 8) fun y0=>cnd (ile (len (dB v6 [y0.snd])) 68719476736) (some (Sum.inl (wr .i64 (aj v0 1),v1,v2,v3,v4,v5,dB v6 [y0.snd],v7,v8,v9,v10,y0.fst))) none) (some (Sum.inr (v1,v2,v3,v4,v5,v6,v7,v8,v9,v10,v11)))
def qR:dU:=rO.spec rE [81,82,83,84,85,86,87,88,89,80] (fun p v=>fA p v.1 v.2.1 v.2.2.1 v.2.2.2.1 v.2.2.2.2.1 v.2.2.2.2.2.1 v.2.2.2.2.2.2.1 v.2.2.2.2.2.2.2.1 v.2.2.2.2.2.2.2.2.1 v.2.2.2.2.2.2.2.2.2.1 v.2.2.2.2.2.2.2.2.2.2.1 v.2.2.2.2.2.2.2.2.2.2.2)
def zD:LSh:=⟨634,[(10,.int .i64)],[(9,.mf 4298),(1,.mp 4512 0)],[],[(11,.int .i64),(2,.bool)],[(4512,[.int .i64,.int .i64,.rf 4298,.rf 4299,.rf 4300,.rf 4301,.bool,.int .i64,.int .i64,.int .i64])],[(4298,.order),(4299,.cell),(4300,.expo),(4301,.i64)]⟩
@[reducible] def zy:List fO:=[⟨.ret,[(2,.bool)],[(4512,[.int .i64,.int .i64,.rf 4298,.rf 4299,.rf 4300,.rf 4301,.bool,.int .i64,.int .i64,.int .i64])],[(4298,.order),(4299,.cell),(4300,.expo),(4301,.i64)]⟩,⟨.exit 0,[(2,.bool)],[(4512,[.int .i64,.int .i64,.rf 4298,.rf 4299,.rf 4300,.rf 4301,.bool,.int .i64,.int .i64,.int .i64])],[(4298,.order),(4299,.cell),(4300,.expo),(4301,.i64)]⟩]
def jc (p0:Int) (v0:Int) (v1:Bool) (v2:Int) (v3:Int) (v4:Unit) (v5:Unit) (v6:Unit) (v7:Unit) (v8:Bool) (v9:Int) (v10:Int) (v11:Int) (v12:(List aJ)) (v13:(List aK)) (v14:(List dL)) (v15:(List Int)):Option ((Int×Bool×Int×Int×Unit×Unit×Unit×Unit×Bool×Int×Int×Int×(List aJ)×(List aK)×(List dL)×(List Int)) ⊕ ((Bool×Int×Int×Unit×Unit×Unit×Unit×Bool×Int×Int×Int×(List aJ)×(List aK)×(List dL)×(List Int)) ⊕ ((Bool×Int×Int×Unit×Unit×Unit×Unit×Bool×Int×Int×Int×(List aJ)×(List aK)×(List dL)×(List Int))))):=cnd (ilt v0 p0) (cnd (band (ile 0 v0) (ilt v0 (len v12))) (af (OW (ax.mk v2 v3 v12 v13 v14 v15 v8 v9 v10 v11) (ai v12 (itn v0)).account (ai v12 (itn v0)).symbol) fun y0=>cnd (ieq y0 (-1)) (some (Sum.inr (Sum.inl (false,v2,v3,PUnit.unit,PUnit.unit,PUnit.unit,PUnit.unit,v8,v9,v10,v11,v12,v13,v14,v15)))) (cnd (band (ile 0 y0) (ilt y0 (len v13))) (af (jG (ai v13 (itn y0)) (ai v12 (itn v0))) fun y1=>cnd (ay (ieq y1.snd 0)) (some (Sum.inr (Sum.inl (false,v2,v3,PUnit.unit,PUnit.unit,PUnit.unit,PUnit.unit,v8,v9,v10,v11,v12,v13,v14,v15)))) (cnd (band (ile 0 y0) (ilt y0 (len v13))) (some (Sum.inl (wr .i64 (aj v0 1),v1,v2,v3,PUnit.unit,PUnit.unit,PUnit.unit,PUnit.unit,v8,v9,v10,v11,v12,bT v13 (itn y0) y1.fst,v14,v15))) none)) none)) none) (some (Sum.inr (Sum.inr (v1,v2,v3,PUnit.unit,PUnit.unit,PUnit.unit,PUnit.unit,v8,v9,v10,v11,v12,v13,v14,v15))))
def yM:dU:=zD.spec zy [12,13,14,4,15,16,17,18,19,20,5,21,22,2,24,25,26,27,28,29,30,23,31,32,6,7,33,34,35,36,37,38,39,40,11] (fun p v=>jc p v.1 v.2.1 v.2.2.1 v.2.2.2.1 v.2.2.2.2.1 v.2.2.2.2.2.1 v.2.2.2.2.2.2.1 v.2.2.2.2.2.2.2.1 v.2.2.2.2.2.2.2.2.1 v.2.2.2.2.2.2.2.2.2.1 v.2.2.2.2.2.2.2.2.2.2.1 v.2.2.2.2.2.2.2.2.2.2.2.1 v.2.2.2.2.2.2.2.2.2.2.2.2.1 v.2.2.2.2.2.2.2.2.2.2.2.2.2.1 v.2.2.2.2.2.2.2.2.2.2.2.2.2.2.1 v.2.2.2.2.2.2.2.2.2.2.2.2.2.2.2)
def Ah (x0:(List Int)):Option (ax×Int):=cnd (bor (ile 4 (len x0)) (ay (ay (ilt (len x0) 36)))) (cnd (bor (ilt (len x0) 36) (ay (seq (u2s (aA x0 4)) [(UInt8.ofNat 115),(UInt8.ofNat 110),(UInt8.ofNat 97),(UInt8.ofNat 102)]))) (some (ax.mk 0 0 [] [] [] [] false 0 0 0,2)) (cnd (ilt 4 (len x0)) (cnd (ilt 5 (len x0)) (cnd (ilt 7 (len x0)) (af (cnd (ay (bor (bor (bor (bor (ilt (wr .i64 (ai x0 4)) 1) (ilt 8 (wr .i64 (ai x0 4)))) (ilt (wr .i64 (ai x0 5)) 1)) (ilt 8 (wr .i64 (ai x0 5)))) (ilt 64 (wr .i64 (ai x0 7))))) (La (wr .i64 (ai x0 4)) (wr .i64 (ai x0 5)) (wr .i64 (ai x0 7))) (some 0)) fun y0=>cnd (bor (bor (bor (bor (bor (ilt (wr .i64 (ai x0 4)) 1) (ilt 8 (wr .i64 (ai x0 4)))) (ilt (wr .i64 (ai x0 5)) 1)) (ilt 8 (wr .i64 (ai x0 5)))) (ilt 64 (wr .i64 (ai x0 7)))) (ay (ieq (len x0) y0))) (some (ax.mk 0 0 [] [] [] [] false 0 0 0,2)) (cnd (band (ile 0 (wr .i64 (aI (len x0) 4))) (ile (wr .i64 (aI (len x0) 4)) (len x0))) (cnd (band (ile 0 (wr .i64 (aI (len x0) 4))) (ile (wr .i64 (aI (len x0) 4)) (len x0))) (af (Py (aA x0 (itn (wr .i64 (aI (len x0) 4))))) fun y1=>af (bD (fun v=>tN (len (aN x0 (itn (wr .i64 (aI (len x0) 4))))) (aN x0 (itn (wr .i64 (aI (len x0) 4)))) y1 v.fst v.snd.fst v.snd.snd) LF (0,0,ax.mk 0 0 [] [] [] [] false 0 0 0)) fun y2=>gY y2 (fun y3=>some (y3.snd,y3.fst)) fun y3=>cnd (ile 4 (len (aA x0 (itn (wr .i64 (aI (len x0) 4)))))) (af (jl (gV.mk (aN (aA x0 (itn (wr .i64 (aI (len x0) 4)))) 4) false)) fun y4=>af (jl y4.fst) fun y5=>af (tK y5.fst) fun y6=>af (jl y6.fst) fun y7=>cnd (band (band (ile 0 y7.snd) (ile y7.snd y7.snd)) (ile y7.snd 68719476736)) (af (dP y7.fst 8) fun y8=>af (dP y8.fst 8) fun y9=>af (dP y9.fst 8) fun y10=>af (bD (fun v=>fG (len (jO aJ (itn y7.snd))) v.fst v.snd.fst v.snd.snd.fst v.snd.snd.snd.fst v.snd.snd.snd.snd.fst v.snd.snd.snd.snd.snd.fst v.snd.snd.snd.snd.snd.snd.fst v.snd.snd.snd.snd.snd.snd.snd.fst v.snd.snd.snd.snd.snd.snd.snd.snd.fst v.snd.snd.snd.snd.snd.snd.snd.snd.snd.fst v.snd.snd.snd.snd.snd.snd.snd.snd.snd.snd.fst v.snd.snd.snd.snd.snd.snd.snd.snd.snd.snd.snd) LF (0,y4.snd,y5.snd,jO aJ (itn y7.snd),[],[],[],y6.snd,y8.snd,y9.snd,y10.snd,y10.fst)) fun y11=>cnd (band (band (ile 0 (wr .i64 (dX y11.fst y11.snd.fst))) (ile (wr .i64 (dX y11.fst y11.snd.fst)) (wr .i64 (dX y11.fst y11.snd.fst)))) (ile (wr .i64 (dX y11.fst y11.snd.fst)) 68719476736)) (af (bD (fun v=>eY (len (jO aK (itn (wr .i64 (dX y11.fst y11.snd.fst))))) v.fst v.snd.fst v.snd.snd.fst v.snd.snd.snd.fst v.snd.snd.snd.snd.fst v.snd.snd.snd.snd.snd.fst v.snd.snd.snd.snd.snd.snd.fst v.snd.snd.snd.snd.snd.snd.snd.fst v.snd.snd.snd.snd.snd.snd.snd.snd.fst v.snd.snd.snd.snd.snd.snd.snd.snd.snd.fst v.snd.snd.snd.snd.snd.snd.snd.snd.snd.snd.fst v.snd.snd.snd.snd.snd.snd.snd.snd.snd.snd.snd) LF (0,y11.fst,y11.snd.fst,y11.snd.snd.fst,jO aK (itn (wr .i64 (dX y11.fst y11.snd.fst))),y11.snd.snd.snd.snd)) fun y12=>af (bD (fun v=>eX (len y12.snd.snd.snd.fst) v.fst v.snd.fst v.snd.snd.fst v.snd.snd.snd.fst v.snd.snd.snd.snd.fst v.snd.snd.snd.snd.snd.fst v.snd.snd.snd.snd.snd.snd.fst v.snd.snd.snd.snd.snd.snd.snd.fst v.snd.snd.snd.snd.snd.snd.snd.snd.fst v.snd.snd.snd.snd.snd.snd.snd.snd.snd.fst v.snd.snd.snd.snd.snd.snd.snd.snd.snd.snd.fst v.snd.snd.snd.snd.snd.snd.snd.snd.snd.snd.snd) LF (0,y12)) fun y13=>af (bD (fun v=>fA y13.fst v.fst v.snd.fst v.snd.snd.fst v.snd.snd.snd.fst v.snd.snd.snd.snd.fst v.snd.snd.snd.snd.snd.fst v.snd.snd.snd.snd.snd.snd.fst v.snd.snd.snd.snd.snd.snd.snd.fst v.snd.snd.snd.snd.snd.snd.snd.snd.fst v.snd.snd.snd.snd.snd.snd.snd.snd.snd.fst v.snd.snd.snd.snd.snd.snd.snd.snd.snd.snd.fst v.snd.snd.snd.snd.snd.snd.snd.snd.snd.snd.snd) LF (0,y13)) fun y14=>cnd (ay y14.snd.snd.snd.snd.snd.snd.snd.snd.snd.snd.odd) (af (bD (fun v=>jc (len y14.snd.snd.fst) v.fst v.snd.fst v.snd.snd.fst v.snd.snd.snd.fst v.snd.snd.snd.snd.fst v.snd.snd.snd.snd.snd.fst v.snd.snd.snd.snd.snd.snd.fst v.snd.snd.snd.snd.snd.snd.snd.fst v.snd.snd.snd.snd.snd.snd.snd.snd.fst v.snd.snd.snd.snd.snd.snd.snd.snd.snd.fst v.snd.snd.snd.snd.snd.snd.snd.snd.snd.snd.fst v.snd.snd.snd.snd.snd.snd.snd.snd.snd.snd.snd.fst v.snd.snd.snd.snd.snd.snd.snd.snd.snd.snd.snd.snd.fst v.snd.snd.snd.snd.snd.snd.snd.snd.snd.snd.snd.snd.snd.fst v.snd.snd.snd.snd.snd.snd.snd.snd.snd.snd.snd.snd.snd.snd.fst v.snd.snd.snd.snd.snd.snd.snd.snd.snd.snd.snd.snd.snd.snd.snd) LF (0,false,y14.fst,y14.snd.fst,PUnit.unit,PUnit.unit,PUnit.unit,PUnit.unit,y14.snd.snd.snd.snd.snd.snd.fst,y14.snd.snd.snd.snd.snd.snd.snd.fst,y14.snd.snd.snd.snd.snd.snd.snd.snd.fst,y14.snd.snd.snd.snd.snd.snd.snd.snd.snd.fst,y14.snd.snd.fst,y14.snd.snd.snd.fst,y14.snd.snd.snd.snd.fst,y14.snd.snd.snd.snd.snd.fst)) fun y15=>gY y15 (fun y16=>af (cnd (ay (bor y14.snd.snd.snd.snd.snd.snd.snd.snd.snd.snd.odd (ay y16.fst))) (qi (ax.mk y14.fst y14.snd.fst y16.snd.snd.snd.snd.snd.snd.snd.snd.snd.snd.snd.fst y16.snd.snd.snd.snd.snd.snd.snd.snd.snd.snd.snd.snd.fst y16.snd.snd.snd.snd.snd.snd.snd.snd.snd.snd.snd.snd.snd.fst y16.snd.snd.snd.snd.snd.snd.snd.snd.snd.snd.snd.snd.snd.snd y14.snd.snd.snd.snd.snd.snd.fst y14.snd.snd.snd.snd.snd.snd.snd.fst y14.snd.snd.snd.snd.snd.snd.snd.snd.fst y14.snd.snd.snd.snd.snd.snd.snd.snd.snd.fst)) (some false)) fun y17=>cnd (bor (bor y14.snd.snd.snd.snd.snd.snd.snd.snd.snd.snd.odd (ay y16.fst)) (ay y17)) (some (ax.mk 0 0 [] [] [] [] false 0 0 0,2)) (some (ax.mk y14.fst y14.snd.fst y16.snd.snd.snd.snd.snd.snd.snd.snd.snd.snd.snd.fst y16.snd.snd.snd.snd.snd.snd.snd.snd.snd.snd.snd.snd.fst y16.snd.snd.snd.snd.snd.snd.snd.snd.snd.snd.snd.snd.snd.fst y16.snd.snd.snd.snd.snd.snd.snd.snd.snd.snd.snd.snd.snd.snd y14.snd.snd.snd.snd.snd.snd.fst y14.snd.snd.snd.snd.snd.snd.snd.fst y14.snd.snd.snd.snd.snd.snd.snd.snd.fst y14.snd.snd.snd.snd.snd.snd.snd.snd.snd.fst,0))) fun y16=>af (cnd (ay (bor y14.snd.snd.snd.snd.snd.snd.snd.snd.snd.snd.odd false)) (qi (ax.mk y14.fst y14.snd.fst y16.snd.snd.snd.snd.snd.snd.snd.snd.snd.snd.snd.fst y16.snd.snd.snd.snd.snd.snd.snd.snd.snd.snd.snd.snd.fst y16.snd.snd.snd.snd.snd.snd.snd.snd.snd.snd.snd.snd.snd.fst y16.snd.snd.snd.snd.snd.snd.snd.snd.snd.snd.snd.snd.snd.snd y14.snd.snd.snd.snd.snd.snd.fst y14.snd.snd.snd.snd.snd.snd.snd.fst y14.snd.snd.snd.snd.snd.snd.snd.snd.fst y14.snd.snd.snd.snd.snd.snd.snd.snd.snd.fst)) (some false)) fun y18=>cnd (bor (bor y14.snd.snd.snd.snd.snd.snd.snd.snd.snd.snd.odd false) (ay y18)) (some (ax.mk 0 0 [] [] [] [] false 0 0 0,2)) (some (ax.mk y14.fst y14.snd.fst y16.snd.snd.snd.snd.snd.snd.snd.snd.snd.snd.snd.fst y16.snd.snd.snd.snd.snd.snd.snd.snd.snd.snd.snd.snd.fst y16.snd.snd.snd.snd.snd.snd.snd.snd.snd.snd.snd.snd.snd.fst y16.snd.snd.snd.snd.snd.snd.snd.snd.snd.snd.snd.snd.snd.snd y14.snd.snd.snd.snd.snd.snd.fst y14.snd.snd.snd.snd.snd.snd.snd.fst y14.snd.snd.snd.snd.snd.snd.snd.snd.fst y14.snd.snd.snd.snd.snd.snd.snd.snd.snd.fst,0))) (af (cnd (ay (bor y14.snd.snd.snd.snd.snd.snd.snd.snd.snd.snd.odd true)) (qi (ax.mk y14.fst y14.snd.fst y14.snd.snd.fst y14.snd.snd.snd.fst y14.snd.snd.snd.snd.fst y14.snd.snd.snd.snd.snd.fst y14.snd.snd.snd.snd.snd.snd.fst y14.snd.snd.snd.snd.snd.snd.snd.fst y14.snd.snd.snd.snd.snd.snd.snd.snd.fst y14.snd.snd.snd.snd.snd.snd.snd.snd.snd.fst)) (some false)) fun y19=>cnd (bor (bor y14.snd.snd.snd.snd.snd.snd.snd.snd.snd.snd.odd true) (ay y19)) (some (ax.mk 0 0 [] [] [] [] false 0 0 0,2)) (some (ax.mk y14.fst y14.snd.fst y14.snd.snd.fst y14.snd.snd.snd.fst y14.snd.snd.snd.snd.fst y14.snd.snd.snd.snd.snd.fst y14.snd.snd.snd.snd.snd.snd.fst y14.snd.snd.snd.snd.snd.snd.snd.fst y14.snd.snd.snd.snd.snd.snd.snd.snd.fst y14.snd.snd.snd.snd.snd.snd.snd.snd.snd.fst,0)))) none) none) none) none) none)) none) none) none)) none
noncomputable def wV:Cx:={ P:=PG,ety:=ety,fn:=look [(109,Gw),(71,J6),(166,nN),(167,sH),(168,nJ),(169,BI),(170,Ob),(138,vJ),(18,oH)],inl:=dR [110,111],lp:=aS [(47,1018,Qo),(201864077422,250,rF),(201864077422,1018,qN),(201864077422,2042,qO),(201864077422,4090,qR),(201865773167,26,yM)] }
theorem XQ (p0:Int) (p1:(List Int)) (p2:Int) (v0:Int) (v1:Int) (v2:ax):fC wV 900 47 1018 (dK PG 47 1018) RX SG (p0,p1,p2) (v0,v1,v2)=tN p0 p1 p2 v0 v1 v2:=by kernel_rfl
theorem Aw (p0:Int) (v0:Int) (v1:Int) (v2:Int) (v3:(List aJ)) (v4:(List aK)) (v5:(List dL)) (v6:(List Int)) (v7:Bool) (v8:Int) (v9:Int) (v10:Int) (v11:gV):fC wV 900 201864077422 250 (dK PG 110 250) sZ tq p0 (v0,v1,v2,v3,v4,v5,v6,v7,v8,v9,v10,v11)=fG p0 v0 v1 v2 v3 v4 v5 v6 v7 v8 v9 v10 v11:=by kernel_rfl
theorem zW (p0:Int) (v0:Int) (v1:Int) (v2:Int) (v3:(List aJ)) (v4:(List aK)) (v5:(List dL)) (v6:(List Int)) (v7:Bool) (v8:Int) (v9:Int) (v10:Int) (v11:gV):fC wV 900 201864077422 1018 (dK PG 110 1018) rG rH p0 (v0,v1,v2,v3,v4,v5,v6,v7,v8,v9,v10,v11)=eY p0 v0 v1 v2 v3 v4 v5 v6 v7 v8 v9 v10 v11:=by kernel_rfl
theorem Ac (p0:Int) (v0:Int) (v1:Int) (v2:Int) (v3:(List aJ)) (v4:(List aK)) (v5:(List dL)) (v6:(List Int)) (v7:Bool) (v8:Int) (v9:Int) (v10:Int) (v11:gV):fC wV 900 201864077422 2042 (dK PG 110 2042) rM rJ p0 (v0,v1,v2,v3,v4,v5,v6,v7,v8,v9,v10,v11)=eX p0 v0 v1 v2 v3 v4 v5 v6 v7 v8 v9 v10 v11:=by kernel_rfl
theorem zX (p0:Int) (v0:Int) (v1:Int) (v2:Int) (v3:(List aJ)) (v4:(List aK)) (v5:(List dL)) (v6:(List Int)) (v7:Bool) (v8:Int) (v9:Int) (v10:Int) (v11:gV):fC wV 900 201864077422 4090 (dK PG 110 4090) rO rE p0 (v0,v1,v2,v3,v4,v5,v6,v7,v8,v9,v10,v11)=fA p0 v0 v1 v2 v3 v4 v5 v6 v7 v8 v9 v10 v11:=by kernel_rfl
theorem JS (p0:Int) (v0:Int) (v1:Bool) (v2:Int) (v3:Int) (v4:Unit) (v5:Unit) (v6:Unit) (v7:Unit) (v8:Bool) (v9:Int) (v10:Int) (v11:Int) (v12:(List aJ)) (v13:(List aK)) (v14:(List dL)) (v15:(List Int)):fC wV 900 201865773167 26 (dK PG 111 26) zD zy p0 (v0,v1,v2,v3,v4,v5,v6,v7,v8,v9,v10,v11,v12,v13,v14,v15)=jc p0 v0 v1 v2 v3 v4 v5 v6 v7 v8 v9 v10 v11 v12 v13 v14 v15:=by kernel_rfl
theorem aeR (x0:(List Int)):bP wV 47 [.ro .u8] [.val .state,.int .i64] x0=Ah x0:=by kernel_rfl
def Oa:aO:=mkSpec [.ro .u8] [.val .state,.int .i64] false (fun x=>Ah x)
theorem ahp:dI PG 47 Oa:=
 have K:CxR wV:=aP.cx (fun _=>rfl) (l:=[(109,Gw),(71,J6),(166,nN),(167,sH),(168,nJ),(169,BI),(170,Ob),(138,vJ),(18,oH)]) ⟨adS,ag2,JZ,QJ,Jz,ZA,ahr,WG,L9,trivial⟩
 aH K (aG (l:=[(47,1018,Qo),(201864077422,250,rF),(201864077422,1018,qN),(201864077422,2042,qO),(201864077422,4090,qR),(201865773167,26,yM)]) rfl ⟨bF (n:=900) (f:=47) K (by kernel_rfl) (by kernel_rfl) (by kernel_rfl) (by kernel_rfl) (by kernel_rfl) (fun p v r h=>(XQ p.1 p.2.1 p.2.2 v.1 v.2.1 v.2.2).trans h),
  bF (n:=900) (f:=110) K (by kernel_rfl) (by kernel_rfl) (by kernel_rfl) (by kernel_rfl) (by kernel_rfl) (fun p v r h=>(Aw p v.1 v.2.1 v.2.2.1 v.2.2.2.1 v.2.2.2.2.1 v.2.2.2.2.2.1 v.2.2.2.2.2.2.1 v.2.2.2.2.2.2.2.1 v.2.2.2.2.2.2.2.2.1 v.2.2.2.2.2.2.2.2.2.1 v.2.2.2.2.2.2.2.2.2.2.1 v.2.2.2.2.2.2.2.2.2.2.2).trans h),
  bF (n:=900) (f:=110) K (by kernel_rfl) (by kernel_rfl) (by kernel_rfl) (by kernel_rfl) (by kernel_rfl) (fun p v r h=>(zW p v.1 v.2.1 v.2.2.1 v.2.2.2.1 v.2.2.2.2.1 v.2.2.2.2.2.1 v.2.2.2.2.2.2.1 v.2.2.2.2.2.2.2.1 v.2.2.2.2.2.2.2.2.1 v.2.2.2.2.2.2.2.2.2.1 v.2.2.2.2.2.2.2.2.2.2.1 v.2.2.2.2.2.2.2.2.2.2.2).trans h),
  bF (n:=900) (f:=110) K (by kernel_rfl) (by kernel_rfl) (by kernel_rfl) (by kernel_rfl) (by kernel_rfl) (fun p v r h=>(Ac p v.1 v.2.1 v.2.2.1 v.2.2.2.1 v.2.2.2.2.1 v.2.2.2.2.2.1 v.2.2.2.2.2.2.1 v.2.2.2.2.2.2.2.1 v.2.2.2.2.2.2.2.2.1 v.2.2.2.2.2.2.2.2.2.1 v.2.2.2.2.2.2.2.2.2.2.1 v.2.2.2.2.2.2.2.2.2.2.2).trans h),
  bF (n:=900) (f:=110) K (by kernel_rfl) (by kernel_rfl) (by kernel_rfl) (by kernel_rfl) (by kernel_rfl) (fun p v r h=>(zX p v.1 v.2.1 v.2.2.1 v.2.2.2.1 v.2.2.2.2.1 v.2.2.2.2.2.1 v.2.2.2.2.2.2.1 v.2.2.2.2.2.2.2.1 v.2.2.2.2.2.2.2.2.1 v.2.2.2.2.2.2.2.2.2.1 v.2.2.2.2.2.2.2.2.2.2.1 v.2.2.2.2.2.2.2.2.2.2.2).trans h),
  bF (n:=900) (f:=111) K (by kernel_rfl) (by kernel_rfl) (by kernel_rfl) (by kernel_rfl) (by kernel_rfl) (fun p v r h=>(JS p v.1 v.2.1 v.2.2.1 v.2.2.2.1 v.2.2.2.2.1 v.2.2.2.2.2.1 v.2.2.2.2.2.2.1 v.2.2.2.2.2.2.2.1 v.2.2.2.2.2.2.2.2.1 v.2.2.2.2.2.2.2.2.2.1 v.2.2.2.2.2.2.2.2.2.2.1 v.2.2.2.2.2.2.2.2.2.2.2.1 v.2.2.2.2.2.2.2.2.2.2.2.2.1 v.2.2.2.2.2.2.2.2.2.2.2.2.2.1 v.2.2.2.2.2.2.2.2.2.2.2.2.2.2.1 v.2.2.2.2.2.2.2.2.2.2.2.2.2.2.2).trans h),trivial⟩) (by kernel_rfl) (fun x y h=>(aeR x).trans h) rfl rfl
def uG (x0:au):Option (ax×Int×Int):=af (xg x0) fun y0=>cnd (ay (ieq y0.snd 0)) (some (ax.mk 0 0 [] [] [] [] false 0 0 0,0,y0.snd)) (af (dV y0.fst.gen) fun y1=>af (nP x0 y1) fun y2=>cnd (ieq y2.snd 0) (af (Ah y2.fst) fun y3=>cnd (band (ieq y3.snd 0) (ieq y3.fst.lsn y0.fst.lsn)) (some (y3.fst,y0.fst.gen,0)) (some (ax.mk 0 0 [] [] [] [] false 0 0 0,0,2))) (some (ax.mk 0 0 [] [] [] [] false 0 0 0,0,2)))
noncomputable def abI:Cx:={ P:=PG,ety:=ety,fn:=look [(25,vY),(17,oI),(21,qh),(47,Oa)],inl:=dR [],lp:=aS [] }
theorem aeu (x0:au):bP abI 13 [.val .disk] [.val .state,.int .i64,.int .i64] x0=uG x0:=by kernel_rfl
def AA:aO:=mkSpec [.val .disk] [.val .state,.int .i64,.int .i64] false (fun x=>uG x)
theorem ZQ:dI PG 13 AA:=
 have K:CxR abI:=aP.cx (fun _=>rfl) (l:=[(25,vY),(17,oI),(21,qh),(47,Oa)]) ⟨Vg,GK,O6,ahp,trivial⟩
 aH K (aG (l:=[]) rfl trivial) (by kernel_rfl) (fun x y h=>(aeu x).trans h) rfl rfl
def Hw (x0:ax):Option (Int):=af (qi x0) fun y0=>cnd (ay y0) (some 0) (af (La x0.accounts x0.symbols (len x0.orders)) fun y1=>some y1)
noncomputable def afX:Cx:={ P:=PG,ety:=ety,fn:=look [(18,oH),(109,Gw)],inl:=dR [],lp:=aS [] }
theorem ahB (x0:ax):bP afX 67 [.val .state] [.int .i64] x0=Hw x0:=by kernel_rfl
def SQ:aO:=mkSpec [.val .state] [.int .i64] true (fun x=>Hw x)
theorem alD:dI PG 67 SQ:=
 have K:CxR afX:=aP.cx (fun _=>rfl) (l:=[(18,oH),(109,Gw)]) ⟨L9,adS,trivial⟩
 aH K (aG (l:=[]) rfl trivial) (by kernel_rfl) (fun x y h=>(ahB x).trans h) rfl rfl
def Un (x0:Bool):Option (Int):=cnd x0 (some 1) (some 0)
noncomputable def ahY:Cx:={ P:=PG,ety:=ety,fn:=look [],inl:=dR [],lp:=aS [] }
theorem ajO (x0:Bool):bP ahY 69 [.bool] [.int .i64] x0=Un x0:=by kernel_rfl
def VW:aO:=mkSpec [.bool] [.int .i64] true (fun x=>Un x)
theorem amd:dI PG 69 VW:=
 have K:CxR ahY:=aP.cx (fun _=>rfl) (l:=[]) trivial
 aH K (aG (l:=[]) rfl trivial) (by kernel_rfl) (fun x y h=>(ajO x).trans h) rfl rfl
def Qb:LSh:=⟨144,[(8,.int .i64)],[],[],[(9,.int .i64),(0,.buf .u8)],[],[]⟩
@[reducible] def Qv:List fO:=[⟨.exit 2,[(0,.buf .u8)],[],[]⟩]
def qY (p0:Int) (v0:Int) (v1:(List Int)):Option ((Int×(List Int)) ⊕ (((List Int)))):=cnd (ile 0 v0) (cnd (ile 0 (wr .i64 (dX 8 v0))) (cnd (ile (len (dB v1 [wr .u8 (dN .i64 p0 (wr .i64 (dX 8 v0)))])) 68719476736) (some (Sum.inl (wr .i64 (aI v0 1),dB v1 [wr .u8 (dN .i64 p0 (wr .i64 (dX 8 v0)))]))) none) none) (some (Sum.inr v1))
def OA:dU:=Qb.spec Qv [18,19,22,23,24,25,26,27,28,29,0,20,21,9] (fun p v=>qY p v.1 v.2)
def Ur:LSh:=⟨71,[(11,.int .i64),(10,.ro .i64),(1,.int .i64)],[],[],[(12,.int .i64),(0,.buf .u8)],[],[]⟩
@[reducible] def UW:List fO:=[⟨.exit 0,[(0,.buf .u8)],[],[]⟩]
def yj (p0:Int) (p1:(List Int)) (p2:Int) (v0:Int) (v1:(List Int)):Option ((Int×(List Int)) ⊕ (((List Int)))):=cnd (ilt v0 p0) (cnd (band (ile 0 v0) (ilt v0 (len p1))) (af (bD (fun v=>qY (ai p1 (itn v0)) v.fst v.snd) LF (wr .i64 (aI p2 1),v1)) fun y0=>some (Sum.inl (wr .i64 (aj v0 1),y0))) none) (some (Sum.inr v1))
def RG:dU:=Ur.spec UW [13,14,15,8,16,17,9,18,19,22,23,24,25,26,27,28,29,0,20,21,30,12] (fun p v=>yj p.1 p.2.1 p.2.2 v.1 v.2)
def uP (x0:(List Int)) (x1:Int) (x2:(List Int)):Option ((List Int)):=af (bD (fun v=>yj (len x2) x2 x1 v.fst v.snd) LF (0,x0)) fun y0=>some y0
noncomputable def LZ:Cx:={ P:=PG,ety:=ety,fn:=look [],inl:=dR [],lp:=aS [(68,6758,OA),(68,26,RG)] }
theorem XA (p0:Int) (v0:Int) (v1:(List Int)):fC LZ 900 68 6758 (dK PG 68 6758) Qb Qv p0 (v0,v1)=qY p0 v0 v1:=by kernel_rfl
theorem ZK (p0:Int) (p1:(List Int)) (p2:Int) (v0:Int) (v1:(List Int)):fC LZ 900 68 26 (dK PG 68 26) Ur UW (p0,p1,p2) (v0,v1)=yj p0 p1 p2 v0 v1:=by kernel_rfl
theorem adu (x0:(List Int)) (x1:Int) (x2:(List Int)):bP LZ 68 [.buf .u8,.int .i64,.ro .i64] [.buf .u8] (x0,x1,x2)=uP x0 x1 x2:=by kernel_rfl
def KW:aO:=mkSpec [.buf .u8,.int .i64,.ro .i64] [.buf .u8] true (fun x=>uP x.1 x.2.1 x.2.2)
theorem ag5:dI PG 68 KW:=
 have K:CxR LZ:=aP.cx (fun _=>rfl) (l:=[]) trivial
 aH K (aG (l:=[(68,6758,OA),(68,26,RG)]) rfl ⟨bF (n:=900) (f:=68) K (by kernel_rfl) (by kernel_rfl) (by kernel_rfl) (by kernel_rfl) (by kernel_rfl) (fun p v r h=>(XA p v.1 v.2).trans h),
  bF (n:=900) (f:=68) K (by kernel_rfl) (by kernel_rfl) (by kernel_rfl) (by kernel_rfl) (by kernel_rfl) (fun p v r h=>(ZK p.1 p.2.1 p.2.2 v.1 v.2).trans h),trivial⟩) (by kernel_rfl) (fun x y h=>(adu x.1 x.2.1 x.2.2).trans h) rfl rfl
def Nh:LSh:=⟨144,[(8,.int .i64)],[],[],[(9,.int .i64),(0,.buf .u8)],[],[]⟩
@[reducible] def NH:List fO:=[⟨.exit 2,[(0,.buf .u8)],[],[]⟩]
def DX (p0:Int) (v0:Int) (v1:(List Int)):Option ((Int×(List Int)) ⊕ (((List Int)))):=cnd (ile 0 v0) (cnd (ile 0 (wr .i64 (dX 8 v0))) (cnd (ile (len (dB v1 [wr .u8 (dN .i64 p0 (wr .i64 (dX 8 v0)))])) 68719476736) (some (Sum.inl (wr .i64 (aI v0 1),dB v1 [wr .u8 (dN .i64 p0 (wr .i64 (dX 8 v0)))]))) none) none) (some (Sum.inr v1))
def KC:dU:=Nh.spec NH [18,19,22,23,24,25,26,27,28,29,0,20,21,9] (fun p v=>DX p v.1 v.2)
def PX:LSh:=⟨71,[(11,.int .i64),(10,.ro .i64),(1,.int .i64)],[],[],[(12,.int .i64),(0,.buf .u8)],[],[]⟩
@[reducible] def QX:List fO:=[⟨.exit 0,[(0,.buf .u8)],[],[]⟩]
def HY (p0:Int) (p1:(List Int)) (p2:Int) (v0:Int) (v1:(List Int)):Option ((Int×(List Int)) ⊕ (((List Int)))):=cnd (ilt v0 p0) (cnd (band (ile 0 v0) (ilt v0 (len p1))) (af (bD (fun v=>DX (ai p1 (itn v0)) v.fst v.snd) LF (wr .i64 (aI p2 1),v1)) fun y0=>some (Sum.inl (wr .i64 (aj v0 1),y0))) none) (some (Sum.inr v1))
def Oz:dU:=PX.spec QX [13,14,15,8,16,17,9,18,19,22,23,24,25,26,27,28,29,0,20,21,30,12] (fun p v=>HY p.1 p.2.1 p.2.2 v.1 v.2)
def mD (x0:(List Int)) (x1:Int) (x2:(List Int)):Option ((List Int)):=af (bD (fun v=>HY (len x2) x2 x1 v.fst v.snd) LF (0,x0)) fun y0=>some y0
noncomputable def He:Cx:={ P:=PG,ety:=ety,fn:=look [],inl:=dR [],lp:=aS [(70,6758,KC),(70,26,Oz)] }
theorem UY (p0:Int) (v0:Int) (v1:(List Int)):fC He 900 70 6758 (dK PG 70 6758) Nh NH p0 (v0,v1)=DX p0 v0 v1:=by kernel_rfl
theorem Xy (p0:Int) (p1:(List Int)) (p2:Int) (v0:Int) (v1:(List Int)):fC He 900 70 26 (dK PG 70 26) PX QX (p0,p1,p2) (v0,v1)=HY p0 p1 p2 v0 v1:=by kernel_rfl
theorem aaB (x0:(List Int)) (x1:Int) (x2:(List Int)):bP He 70 [.buf .u8,.int .i64,.ro .i64] [.buf .u8] (x0,x1,x2)=mD x0 x1 x2:=by kernel_rfl
def Hg:aO:=mkSpec [.buf .u8,.int .i64,.ro .i64] [.buf .u8] true (fun x=>mD x.1 x.2.1 x.2.2)
theorem acX:dI PG 70 Hg:=
 have K:CxR He:=aP.cx (fun _=>rfl) (l:=[]) trivial
 aH K (aG (l:=[(70,6758,KC),(70,26,Oz)]) rfl ⟨bF (n:=900) (f:=70) K (by kernel_rfl) (by kernel_rfl) (by kernel_rfl) (by kernel_rfl) (by kernel_rfl) (fun p v r h=>(UY p v.1 v.2).trans h),
  bF (n:=900) (f:=70) K (by kernel_rfl) (by kernel_rfl) (by kernel_rfl) (by kernel_rfl) (by kernel_rfl) (fun p v r h=>(Xy p.1 p.2.1 p.2.2 v.1 v.2).trans h),trivial⟩) (by kernel_rfl) (fun x y h=>(aaB x.1 x.2.1 x.2.2).trans h) rfl rfl
def RZ:LSh:=⟨105,[(45,.int .i64),(44,.ro .order)],[],[],[(46,.int .i64),(5,.buf .u8)],[],[]⟩
@[reducible] def RH:List fO:=[⟨.exit 0,[(5,.buf .u8)],[],[]⟩]
def xu (p0:Int) (p1:(List aJ)) (v0:Int) (v1:(List Int)):Option ((Int×(List Int)) ⊕ (((List Int)))):=cnd (ilt v0 p0) (cnd (band (ile 0 v0) (ilt v0 (len p1))) (af (mD v1 8 [(ai p1 (itn v0)).id]) fun y0=>af (uP y0 1 [(ai p1 (itn v0)).account,(ai p1 (itn v0)).symbol,(ai p1 (itn v0)).side,(ai p1 (itn v0)).phase]) fun y1=>af (mD y1 8 [(ai p1 (itn v0)).qty,(ai p1 (itn v0)).price,(ai p1 (itn v0)).filled,(ai p1 (itn v0)).newQty,(ai p1 (itn v0)).newPrice,(ai p1 (itn v0)).version]) fun y2=>af (Un (ai p1 (itn v0)).asked) fun y3=>af (uP y2 1 [y3]) fun y4=>some (Sum.inl (wr .i64 (aj v0 1),y4))) none) (some (Sum.inr v1))
def PK:dU:=RZ.spec RH [47,48,49,7,50,51,52,53,54,5,55,56,57,58,59,60,61,62,63,64,65,66,67,68,69,70,71,72,73,74,75,76,77,78,79,80,81,82,83,84,85,86,87,46] (fun p v=>xu p.1 p.2 v.1 v.2)
def SB:LSh:=⟨176,[(90,.int .i64),(89,.ro .cell)],[],[],[(91,.int .i64),(5,.buf .u8)],[],[]⟩
@[reducible] def Sr:List fO:=[⟨.exit 2,[(5,.buf .u8)],[],[]⟩]
def wW (p0:Int) (p1:(List aK)) (v0:Int) (v1:(List Int)):Option ((Int×(List Int)) ⊕ (((List Int)))):=cnd (ilt v0 p0) (cnd (band (ile 0 v0) (ilt v0 (len p1))) (af (mD v1 8 [(ai p1 (itn v0)).pos]) fun y0=>some (Sum.inl (wr .i64 (aj v0 1),y0))) none) (some (Sum.inr v1))
def Qs:dU:=SB.spec Sr [92,93,94,9,95,96,97,98,99,5,100,91] (fun p v=>wW p.1 p.2 v.1 v.2)
def RF:LSh:=⟨247,[(103,.int .i64),(102,.ro .expo)],[],[],[(104,.int .i64),(5,.buf .u8)],[],[]⟩
@[reducible] def Si:List fO:=[⟨.exit 4,[(5,.buf .u8)],[],[]⟩]
def wZ (p0:Int) (p1:(List dL)) (v0:Int) (v1:(List Int)):Option ((Int×(List Int)) ⊕ (((List Int)))):=cnd (ilt v0 p0) (cnd (band (ile 0 v0) (ilt v0 (len p1))) (af (mD v1 8 [(ai p1 (itn v0)).long,(ai p1 (itn v0)).short,(ai p1 (itn v0)).opn]) fun y0=>some (Sum.inl (wr .i64 (aj v0 1),y0))) none) (some (Sum.inr v1))
def Qc:dU:=RF.spec Si [105,106,107,11,108,109,110,111,112,113,114,115,116,5,117,104] (fun p v=>wZ p.1 p.2 v.1 v.2)
def Qu:LSh:=⟨323,[(12,.int .u32)],[],[],[(124,.int .i64),(5,.buf .u8)],[],[]⟩
@[reducible] def QC:List fO:=[⟨.exit 6,[(5,.buf .u8)],[],[]⟩]
def vC (p0:Int) (v0:Int) (v1:(List Int)):Option ((Int×(List Int)) ⊕ (((List Int)))):=cnd (ilt v0 4) (cnd (ile 0 (wr .i64 (dX 8 v0))) (cnd (ile (len (dB v1 [wr .u8 (dN .u32 p0 (wr .i64 (dX 8 v0)))])) 68719476736) (some (Sum.inl (wr .i64 (aj v0 1),dB v1 [wr .u8 (dN .u32 p0 (wr .i64 (dX 8 v0)))]))) none) none) (some (Sum.inr v1))
def OG:dU:=Qu.spec QC [125,126,13,127,128,129,130,131,132,133,134,5,135,124] (fun p v=>vC p v.1 v.2)
def wR (x0:ax):Option ((List Int)×Int):=af (Hw x0) fun y0=>cnd (ieq y0 0) (some ([],1)) (cnd (band (ile 0 y0) (ile y0 68719476736)) (af (Un x0.kill) fun y1=>af (uP (dB (jO Int 0) (s2u [(UInt8.ofNat 115),(UInt8.ofNat 110),(UInt8.ofNat 97),(UInt8.ofNat 102)])) 1 [x0.accounts,x0.symbols,y1,len x0.orders]) fun y2=>af (mD y2 8 [x0.last,x0.seq,x0.lsn]) fun y3=>af (bD (fun v=>xu (len x0.orders) x0.orders v.fst v.snd) LF (0,y3)) fun y4=>af (bD (fun v=>wW (len x0.cells) x0.cells v.fst v.snd) LF (0,y4)) fun y5=>af (bD (fun v=>wZ (len x0.limits) x0.limits v.fst v.snd) LF (0,y5)) fun y6=>af (mD y6 8 x0.caps) fun y7=>af (Py y7) fun y8=>af (bD (fun v=>vC y8 v.fst v.snd) LF (0,y7)) fun y9=>some (y9,0)) none)
noncomputable def En:Cx:={ P:=PG,ety:=ety,fn:=look [(67,SQ),(69,VW),(68,KW),(70,Hg),(71,J6)],inl:=dR [],lp:=aS [(24,1018,PK),(24,2042,Qs),(24,4090,Qc),(24,32762,OG)] }
theorem XR (p0:Int) (p1:(List aJ)) (v0:Int) (v1:(List Int)):fC En 900 24 1018 (dK PG 24 1018) RZ RH (p0,p1) (v0,v1)=xu p0 p1 v0 v1:=by kernel_rfl
theorem X7 (p0:Int) (p1:(List aK)) (v0:Int) (v1:(List Int)):fC En 900 24 2042 (dK PG 24 2042) SB Sr (p0,p1) (v0,v1)=wW p0 p1 v0 v1:=by kernel_rfl
theorem YP (p0:Int) (p1:(List dL)) (v0:Int) (v1:(List Int)):fC En 900 24 4090 (dK PG 24 4090) RF Si (p0,p1) (v0,v1)=wZ p0 p1 v0 v1:=by kernel_rfl
theorem XM (p0:Int) (v0:Int) (v1:(List Int)):fC En 900 24 32762 (dK PG 24 32762) Qu QC p0 (v0,v1)=vC p0 v0 v1:=by kernel_rfl
theorem aeM (x0:ax):bP En 24 [.val .state] [.buf .u8,.int .i64] x0=wR x0:=by kernel_rfl
def Om:aO:=mkSpec [.val .state] [.buf .u8,.int .i64] true (fun x=>wR x)
theorem ahw:dI PG 24 Om:=
 have K:CxR En:=aP.cx (fun _=>rfl) (l:=[(67,SQ),(69,VW),(68,KW),(70,Hg),(71,J6)]) ⟨alD,amd,ag5,acX,ag2,trivial⟩
 aH K (aG (l:=[(24,1018,PK),(24,2042,Qs),(24,4090,Qc),(24,32762,OG)]) rfl ⟨bF (n:=900) (f:=24) K (by kernel_rfl) (by kernel_rfl) (by kernel_rfl) (by kernel_rfl) (by kernel_rfl) (fun p v r h=>(XR p.1 p.2 v.1 v.2).trans h),
  bF (n:=900) (f:=24) K (by kernel_rfl) (by kernel_rfl) (by kernel_rfl) (by kernel_rfl) (by kernel_rfl) (fun p v r h=>(X7 p.1 p.2 v.1 v.2).trans h),
  bF (n:=900) (f:=24) K (by kernel_rfl) (by kernel_rfl) (by kernel_rfl) (by kernel_rfl) (by kernel_rfl) (fun p v r h=>(YP p.1 p.2 v.1 v.2).trans h),
  bF (n:=900) (f:=24) K (by kernel_rfl) (by kernel_rfl) (by kernel_rfl) (by kernel_rfl) (by kernel_rfl) (fun p v r h=>(XM p v.1 v.2).trans h),trivial⟩) (by kernel_rfl) (fun x y h=>(aeM x).trans h) rfl rfl
def aV (x0:(List aF)):Option ((List aF)):=acw (len x0) fun y0=>cnd (beq y0 true) (some []) (cnd (ile (len x0) 68719476736) (some x0) none)
noncomputable def IE:Cx:={ P:=PG,ety:=ety,fn:=look [],inl:=dR [],lp:=aS [] }
theorem Qq (x0:(List aF)):bP IE 53 [.ro .file] [.buf .file] x0=aV x0:=by kernel_rfl
def dY:aO:=mkSpec [.ro .file] [.buf .file] false (fun x=>aV x)
theorem oq:dI PG 53 dY:=
 have K:CxR IE:=aP.cx (fun _=>rfl) (l:=[]) trivial
 aH K (aG (l:=[]) rfl trivial) (by kernel_rfl) (fun x y h=>(Qq x).trans h) rfl rfl
def eF (x0:(List aF)) (x1:Int) (x2:Int):Option ((List aF)):=cnd (band (band (band (ile 0 x1) (ile x1 x2)) (ile x2 (len x0))) (band (ile x2 (len x0)) (ile (len x0) (len x0)))) (cnd (ieq x1 x2) (some x0) (cnd (band (ile 0 x1) (ile x1 (len x0))) (cnd (band (ile 0 x2) (ile x2 (len x0))) (cnd (ile (aj (nti (itn x1)) (len (aA (aN x0 (itn x2)) (itn (aI (len x0) x2))))) (len x0)) (cnd (band (band (ile 0 (nti (nad (itn x1) (itn (len (aA (aN x0 (itn x2)) (itn (aI (len x0) x2)))))))) (ile (nti (nad (itn x1) (itn (len (aA (aN x0 (itn x2)) (itn (aI (len x0) x2))))))) (len x0))) (ile (len x0) (aI (len (fZ x0 (itn x1) (aA (aN x0 (itn x2)) (itn (aI (len x0) x2))))) 0))) (some (aA (aN (fZ (fZ x0 (itn x1) (aA (aN x0 (itn x2)) (itn (aI (len x0) x2)))) (nad 0 (itn (nti (nad (itn x1) (itn (len (aA (aN x0 (itn x2)) (itn (aI (len x0) x2))))))))) (jO aF (itn (aI (len x0) (nti (nad (itn x1) (itn (len (aA (aN x0 (itn x2)) (itn (aI (len x0) x2))))))))))) 0) (nad (itn x1) (itn (len (aA (aN x0 (itn x2)) (itn (aI (len x0) x2)))))))) none) none) none) none)) none
noncomputable def FZ:Cx:={ P:=PG,ety:=ety,fn:=look [],inl:=dR [],lp:=aS [] }
theorem O0 (x0:(List aF)) (x1:Int) (x2:Int):bP FZ 82 [.buf .file,.int .i64,.int .i64] [.ro .file] (x0,x1,x2)=eF x0 x1 x2:=by kernel_rfl
def uI:aO:=mkSpec [.buf .file,.int .i64,.int .i64] [.ro .file] false (fun x=>eF x.1 x.2.1 x.2.2)
theorem Rf:dI PG 82 uI:=
 have K:CxR FZ:=aP.cx (fun _=>rfl) (l:=[]) trivial
 aH K (aG (l:=[]) rfl trivial) (by kernel_rfl) (fun x y h=>(O0 x.1 x.2.1 x.2.2).trans h) rfl rfl
def uT (x0:au) (x1:(List UInt8)):Option (au×Int):=af (jK x0 [x1]) fun y0=>cnd (ay (ieq y0 0)) (cnd (ay (ieq y0 0)) (some (x0,y0)) (cnd (ieq x0.fuse 0) (some (au.mk x0.files x0.room x0.fuse true,9)) (cnd (ieq x0.fuse (-1)) (af (aV x0.files) fun y1=>af (eF y1 0 1) fun y2=>some (au.mk y2 x0.room x0.fuse x0.down,0)) (af (aV x0.files) fun y3=>af (eF y3 0 1) fun y4=>some (au.mk y4 x0.room (wr .i64 (aI x0.fuse 1)) x0.down,0))))) (af (eH x0 x1) fun y5=>cnd (ay y5.snd) (some (x0,7)) (cnd (ieq x0.fuse 0) (some (au.mk x0.files x0.room x0.fuse true,9)) (cnd (ieq x0.fuse (-1)) (af (aV x0.files) fun y6=>af (eF y6 y5.fst (wr .i64 (aj y5.fst 1))) fun y7=>some (au.mk y7 x0.room x0.fuse x0.down,0)) (af (aV x0.files) fun y8=>af (eF y8 y5.fst (wr .i64 (aj y5.fst 1))) fun y9=>some (au.mk y9 x0.room (wr .i64 (aI x0.fuse 1)) x0.down,0)))))
noncomputable def Z8:Cx:={ P:=PG,ety:=ety,fn:=look [(76,jr),(77,jP),(53,dY),(82,uI)],inl:=dR [55,81],lp:=aS [] }
theorem adG (x0:au) (x1:(List UInt8)):bP Z8 75 [.val .disk,.str] [.val .disk,.int .i64] (x0,x1)=uT x0 x1:=by kernel_rfl
def Ls:aO:=mkSpec [.val .disk,.str] [.val .disk,.int .i64] false (fun x=>uT x.1 x.2)
theorem ags:dI PG 75 Ls:=
 have K:CxR Z8:=aP.cx (fun _=>rfl) (l:=[(76,jr),(77,jP),(53,dY),(82,uI)]) ⟨Bq,Et,oq,Rf,trivial⟩
 aH K (aG (l:=[]) rfl trivial) (by kernel_rfl) (fun x y h=>(adG x.1 x.2).trans h) rfl rfl
def YJ:LSh:=⟨72,[(8,.int .i64),(7,.ro .file)],[],[],[(9,.int .i64),(3,.int .i64)],[],[]⟩
@[reducible] def Yk:List fO:=[⟨.exit 0,[(3,.int .i64)],[],[]⟩]
def yw (p0:Int) (p1:(List aF)) (v0:Int) (v1:Int):Option ((Int×Int) ⊕ ((Int))):=cnd (ilt v0 p0) (cnd (band (ile 0 v0) (ilt v0 (len p1))) (some (Sum.inl (wr .i64 (aj v0 1),wr .i64 (aj v1 (len (ai p1 (itn v0)).data))))) none) (some (Sum.inr v1))
def WT:dU:=YJ.spec Yk [10,11,12,5,13,14,15,16,17,3,18,9] (fun p v=>yw p.1 p.2 v.1 v.2)
def Ja (x0:au):Option (Int):=af (bD (fun v=>yw (len x0.files) x0.files v.fst v.snd) LF (0,0)) fun y0=>some y0
noncomputable def Yv:Cx:={ P:=PG,ety:=ety,fn:=look [],inl:=dR [],lp:=aS [(78,58,WT)] }
theorem abd (p0:Int) (p1:(List aF)) (v0:Int) (v1:Int):fC Yv 900 78 58 (dK PG 78 58) YJ Yk (p0,p1) (v0,v1)=yw p0 p1 v0 v1:=by kernel_rfl
theorem afI (x0:au):bP Yv 78 [.val .disk] [.int .i64] x0=Ja x0:=by kernel_rfl
def Qz:aO:=mkSpec [.val .disk] [.int .i64] true (fun x=>Ja x)
theorem ajp:dI PG 78 Qz:=
 have K:CxR Yv:=aP.cx (fun _=>rfl) (l:=[]) trivial
 aH K (aG (l:=[(78,58,WT)]) rfl ⟨bF (n:=900) (f:=78) K (by kernel_rfl) (by kernel_rfl) (by kernel_rfl) (by kernel_rfl) (by kernel_rfl) (fun p v r h=>(abd p.1 p.2 v.1 v.2).trans h),trivial⟩) (by kernel_rfl) (fun x y h=>(afI x).trans h) rfl rfl
def bQ (x0:(List aF)) (x1:Int) (x2:(List aF)):Option ((List aF)):=match x2 with | [n]=>cnd (band (ile 0 x1) (band (ile x1 (len x0)) (ile (aj (len x0) 1) 68719476736))) (some (dB (aA x0 (itn x1)) (n::aN x0 (itn x1)))) none | _=>none
noncomputable def Tc:Cx:={ P:=PG,ety:=ety,fn:=look [],inl:=dR [],lp:=aS [] }
def lm:aO:=VQ .file (fun x=>bQ x.1 x.2.1 x.2.2)
theorem ER:dI PG 79 lm:=
 have K:CxR Tc:=aP.cx (fun _=>rfl) (l:=[]) trivial
 aon K 79 (auO PG 79) (auO PG ((Oq (auO PG 79)).f 29)) (by kernel_rfl) (by kernel_rfl) (by kernel_rfl) (by kernel_rfl) (by kernel_rfl) (e:= .file) (by kernel_rfl) (by kernel_rfl) (by kernel_rfl) (by kernel_rfl) (by kernel_rfl) (by kernel_rfl) rfl (fun x y h=>by obtain⟨l,k,xs⟩:=x;match xs,h with | [],h=>exact h | [_],h=>exact h | _::_::_,h=>exact h)
def IC:LSh:=⟨70,[(10,.int .i64),(9,.ro .bts)],[],[],[(11,.int .i64),(3,.int .i64)],[],[]⟩
@[reducible] def IV:List fO:=[⟨.exit 0,[(3,.int .i64)],[],[]⟩]
def lQ (p0:Int) (p1:(List WH)) (v0:Int) (v1:Int):Option ((Int×Int) ⊕ ((Int))):=cnd (ilt v0 p0) (cnd (band (ile 0 v0) (ilt v0 (len p1))) (cnd (ilt (wr .i64 (aj v1 (len (ai p1 (itn v0)).all))) 0) none (some (Sum.inl (wr .i64 (aj v0 1),wr .i64 (aj v1 (len (ai p1 (itn v0)).all)))))) none) (some (Sum.inr v1))
def FP:dU:=IC.spec IV [12,13,14,5,15,16,17,18,3,19,20,21,22,11] (fun p v=>lQ p.1 p.2 v.1 v.2)
def F8:LSh:=⟨169,[(26,.int .i64),(25,.ro .bts)],[],[],[(27,.int .i64),(6,.buf .u8)],[],[]⟩
@[reducible] def F9:List fO:=[⟨.exit 2,[(6,.buf .u8)],[],[]⟩]
def jC (p0:Int) (p1:(List WH)) (v0:Int) (v1:(List Int)):Option ((Int×(List Int)) ⊕ (((List Int)))):=cnd (ilt v0 p0) (cnd (band (ile 0 v0) (ilt v0 (len p1))) (cnd (ile (len (dB v1 (ai p1 (itn v0)).all)) 68719476736) (some (Sum.inl (wr .i64 (aj v0 1),dB v1 (ai p1 (itn v0)).all))) none) none) (some (Sum.inr v1))
def EP:dU:=F8.spec F9 [28,29,30,8,31,32,33,6,34,27] (fun p v=>jC p.1 p.2 v.1 v.2)
def jZ (x0:(List WH)):Option ((List Int)):=af (bD (fun v=>lQ (len x0) x0 v.fst v.snd) LF (0,0)) fun y0=>cnd (ilt y0 0) none (cnd (ilt 0 (wr .i64 (aI y0 0))) (cnd (band (ilt 0 (wr .i64 (aI y0 0))) (ile (wr .i64 (aI y0 0)) 68719476736)) (cnd (ile 0 (len (jO Int (itn (wr .i64 (aI y0 0)))))) (af (bD (fun v=>jC (len x0) x0 v.fst v.snd) LF (0,aA (jO Int (itn (wr .i64 (aI y0 0)))) 0)) fun y1=>some y1) none) none) (af (bD (fun v=>jC (len x0) x0 v.fst v.snd) LF (0,[])) fun y2=>some y2))
noncomputable def wQ:Cx:={ P:=PG,ety:=ety,fn:=look [],inl:=dR [155],lp:=aS [(80,58,FP),(80,250,EP)] }
theorem P6 (p0:Int) (p1:(List WH)) (v0:Int) (v1:Int):fC wQ 900 80 58 (dK PG 80 58) IC IV (p0,p1) (v0,v1)=lQ p0 p1 v0 v1:=by kernel_rfl
theorem OV (p0:Int) (p1:(List WH)) (v0:Int) (v1:(List Int)):fC wQ 900 80 250 (dK PG 80 250) F8 F9 (p0,p1) (v0,v1)=jC p0 p1 v0 v1:=by kernel_rfl
theorem UD (x0:(List WH)):bP wQ 80 [.ro .bts] [.buf .u8] x0=jZ x0:=by kernel_rfl
def yZ:aO:=mkSpec [.ro .bts] [.buf .u8] true (fun x=>jZ x)
theorem Xw:dI PG 80 yZ:=
 have K:CxR wQ:=aP.cx (fun _=>rfl) (l:=[]) trivial
 aH K (aG (l:=[(80,58,FP),(80,250,EP)]) rfl ⟨bF (n:=900) (f:=80) K (by kernel_rfl) (by kernel_rfl) (by kernel_rfl) (by kernel_rfl) (by kernel_rfl) (fun p v r h=>(P6 p.1 p.2 v.1 v.2).trans h),
  bF (n:=900) (f:=80) K (by kernel_rfl) (by kernel_rfl) (by kernel_rfl) (by kernel_rfl) (by kernel_rfl) (fun p v r h=>(OV p.1 p.2 v.1 v.2).trans h),trivial⟩) (by kernel_rfl) (fun x y h=>(UD x).trans h) rfl rfl
def jD (x0:au) (x1:(List UInt8)) (x2:(List Int)):Option (au×Int):=af (jK x0 [x1]) fun y0=>cnd (ay (ieq y0 0)) (some (x0,y0)) (af (eH x0 x1) fun y1=>af (Ja x0) fun y2=>cnd (bor (ilt (wr .i64 (aI x0.room y2)) (len x2)) (band (ay y1.snd) (ieq (len x0.files) 64))) (some (x0,6)) (af (aV x0.files) fun y3=>cnd (ay y1.snd) (af (bQ y3 y1.fst [aF.mk x1 [] 0]) fun y4=>cnd (band (ile 0 y1.fst) (ilt y1.fst (len y4))) (af (jZ [WH.mk (ai y4 (itn y1.fst)).data,WH.mk x2]) fun y5=>cnd (band (ile 0 y1.fst) (ilt y1.fst (len y4))) (cnd (ieq x0.fuse 0) (some (au.mk (bT y4 (itn y1.fst) (aF.mk (ai y4 (itn y1.fst)).name y5 (ai y4 (itn y1.fst)).sure)) x0.room x0.fuse true,9)) (cnd (ieq x0.fuse (-1)) (some (au.mk (bT y4 (itn y1.fst) (aF.mk (ai y4 (itn y1.fst)).name y5 (ai y4 (itn y1.fst)).sure)) x0.room x0.fuse x0.down,0)) (some (au.mk (bT y4 (itn y1.fst) (aF.mk (ai y4 (itn y1.fst)).name y5 (ai y4 (itn y1.fst)).sure)) x0.room (wr .i64 (aI x0.fuse 1)) x0.down,0)))) none) none) (cnd (band (ile 0 y1.fst) (ilt y1.fst (len y3))) (af (jZ [WH.mk (ai y3 (itn y1.fst)).data,WH.mk x2]) fun y6=>cnd (band (ile 0 y1.fst) (ilt y1.fst (len y3))) (cnd (ieq x0.fuse 0) (some (au.mk (bT y3 (itn y1.fst) (aF.mk (ai y3 (itn y1.fst)).name y6 (ai y3 (itn y1.fst)).sure)) x0.room x0.fuse true,9)) (cnd (ieq x0.fuse (-1)) (some (au.mk (bT y3 (itn y1.fst) (aF.mk (ai y3 (itn y1.fst)).name y6 (ai y3 (itn y1.fst)).sure)) x0.room x0.fuse x0.down,0)) (some (au.mk (bT y3 (itn y1.fst) (aF.mk (ai y3 (itn y1.fst)).name y6 (ai y3 (itn y1.fst)).sure)) x0.room (wr .i64 (aI x0.fuse 1)) x0.down,0)))) none) none)))
noncomputable def Z4:Cx:={ P:=PG,ety:=ety,fn:=look [(76,jr),(77,jP),(78,Qz),(53,dY),(79,lm),(80,yZ)],inl:=dR [81],lp:=aS [] }
theorem adF (x0:au) (x1:(List UInt8)) (x2:(List Int)):bP Z4 29 [.val .disk,.str,.ro .u8] [.val .disk,.int .i64] (x0,x1,x2)=jD x0 x1 x2:=by kernel_rfl
def zf:aO:=mkSpec [.val .disk,.str,.ro .u8] [.val .disk,.int .i64] false (fun x=>jD x.1 x.2.1 x.2.2)
theorem Ya:dI PG 29 zf:=
 have K:CxR Z4:=aP.cx (fun _=>rfl) (l:=[(76,jr),(77,jP),(78,Qz),(53,dY),(79,lm),(80,yZ)]) ⟨Bq,Et,ajp,oq,ER,Xw,trivial⟩
 aH K (aG (l:=[]) rfl trivial) (by kernel_rfl) (fun x y h=>(adF x.1 x.2.1 x.2.2).trans h) rfl rfl
def kX (x0:au) (x1:(List UInt8)):Option (au×Int):=af (jK x0 [x1]) fun y0=>cnd (ay (ieq y0 0)) (cnd (ay (ieq y0 0)) (some (x0,y0)) (cnd (ieq x0.fuse 0) (some (au.mk x0.files x0.room x0.fuse true,9)) (cnd (ieq x0.fuse (-1)) (af (aV x0.files) fun y1=>cnd (ilt 0 (len y1)) (cnd (ilt 0 (len y1)) (some (au.mk (bT y1 0 (aF.mk (ai y1 0).name (ai y1 0).data (len (ai y1 0).data))) x0.room x0.fuse x0.down,0)) none) none) (af (aV x0.files) fun y2=>cnd (ilt 0 (len y2)) (cnd (ilt 0 (len y2)) (some (au.mk (bT y2 0 (aF.mk (ai y2 0).name (ai y2 0).data (len (ai y2 0).data))) x0.room (wr .i64 (aI x0.fuse 1)) x0.down,0)) none) none)))) (af (eH x0 x1) fun y3=>cnd (ay y3.snd) (some (x0,7)) (cnd (ieq x0.fuse 0) (some (au.mk x0.files x0.room x0.fuse true,9)) (cnd (ieq x0.fuse (-1)) (af (aV x0.files) fun y4=>cnd (band (ile 0 y3.fst) (ilt y3.fst (len y4))) (cnd (band (ile 0 y3.fst) (ilt y3.fst (len y4))) (some (au.mk (bT y4 (itn y3.fst) (aF.mk (ai y4 (itn y3.fst)).name (ai y4 (itn y3.fst)).data (len (ai y4 (itn y3.fst)).data))) x0.room x0.fuse x0.down,0)) none) none) (af (aV x0.files) fun y5=>cnd (band (ile 0 y3.fst) (ilt y3.fst (len y5))) (cnd (band (ile 0 y3.fst) (ilt y3.fst (len y5))) (some (au.mk (bT y5 (itn y3.fst) (aF.mk (ai y5 (itn y3.fst)).name (ai y5 (itn y3.fst)).data (len (ai y5 (itn y3.fst)).data))) x0.room (wr .i64 (aI x0.fuse 1)) x0.down,0)) none) none))))
noncomputable def ad7:Cx:={ P:=PG,ety:=ety,fn:=look [(76,jr),(77,jP),(53,dY)],inl:=dR [55,81],lp:=aS [] }
theorem agG (x0:au) (x1:(List UInt8)):bP ad7 31 [.val .disk,.str] [.val .disk,.int .i64] (x0,x1)=kX x0 x1:=by kernel_rfl
def DU:aO:=mkSpec [.val .disk,.str] [.val .disk,.int .i64] false (fun x=>kX x.1 x.2)
theorem ab7:dI PG 31 DU:=
 have K:CxR ad7:=aP.cx (fun _=>rfl) (l:=[(76,jr),(77,jP),(53,dY)]) ⟨Bq,Et,oq,trivial⟩
 aH K (aG (l:=[]) rfl trivial) (by kernel_rfl) (fun x y h=>(agG x.1 x.2).trans h) rfl rfl
def mF (x0:au) (x1:(List UInt8)) (x2:(List UInt8)):Option (au×Int):=cnd (ile (len (dB [x2] [x1])) 68719476736) (af (jK x0 (dB [x2] [x1])) fun y0=>cnd (ay (ieq y0 0)) (cnd (ay (ieq y0 0)) (some (x0,y0)) (cnd (ieq x0.fuse 0) (some (au.mk x0.files x0.room x0.fuse true,9)) (cnd (ieq x0.fuse (-1)) (cnd (ilt 0 (len x0.files)) (af (aV x0.files) fun y1=>cnd (band (ile 1 (len y1)) (band (ile 1 (len y1)) (ile (len y1) (len y1)))) (cnd (ile 0 (len y1)) (cnd (ile 1 (len y1)) (cnd (ile (aj 0 (len (aA (aN y1 1) (itn (aI (len y1) 1))))) (len y1)) (cnd (band (band (ile 0 (nti (nad 0 (itn (len (aA (aN y1 1) (itn (aI (len y1) 1)))))))) (ile (nti (nad 0 (itn (len (aA (aN y1 1) (itn (aI (len y1) 1))))))) (len y1))) (ile (len y1) (aI (len (fZ y1 0 (aA (aN y1 1) (itn (aI (len y1) 1))))) 0))) (af (eH (au.mk (aA (fZ (fZ y1 0 (aA (aN y1 1) (itn (aI (len y1) 1)))) (nad 0 (itn (nti (nad 0 (itn (len (aA (aN y1 1) (itn (aI (len y1) 1))))))))) (jO aF (itn (aI (len y1) (nti (nad 0 (itn (len (aA (aN y1 1) (itn (aI (len y1) 1))))))))))) (nad 0 (itn (len (aA (aN y1 1) (itn (aI (len y1) 1))))))) x0.room x0.fuse x0.down) x2) fun y2=>cnd y2.snd (cnd (band (ile 0 y2.fst) (ilt y2.fst (len (aA (fZ (fZ y1 0 (aA (aN y1 1) (itn (aI (len y1) 1)))) (nad 0 (itn (nti (nad 0 (itn (len (aA (aN y1 1) (itn (aI (len y1) 1))))))))) (jO aF (itn (aI (len y1) (nti (nad 0 (itn (len (aA (aN y1 1) (itn (aI (len y1) 1))))))))))) (nad 0 (itn (len (aA (aN y1 1) (itn (aI (len y1) 1)))))))))) (some (au.mk (bT (aA (fZ (fZ y1 0 (aA (aN y1 1) (itn (aI (len y1) 1)))) (nad 0 (itn (nti (nad 0 (itn (len (aA (aN y1 1) (itn (aI (len y1) 1))))))))) (jO aF (itn (aI (len y1) (nti (nad 0 (itn (len (aA (aN y1 1) (itn (aI (len y1) 1))))))))))) (nad 0 (itn (len (aA (aN y1 1) (itn (aI (len y1) 1))))))) (itn y2.fst) (aF.mk x2 (ai x0.files 0).data (ai x0.files 0).sure)) x0.room x0.fuse x0.down,0)) none) (af (bQ (aA (fZ (fZ y1 0 (aA (aN y1 1) (itn (aI (len y1) 1)))) (nad 0 (itn (nti (nad 0 (itn (len (aA (aN y1 1) (itn (aI (len y1) 1))))))))) (jO aF (itn (aI (len y1) (nti (nad 0 (itn (len (aA (aN y1 1) (itn (aI (len y1) 1))))))))))) (nad 0 (itn (len (aA (aN y1 1) (itn (aI (len y1) 1))))))) y2.fst [aF.mk x2 (ai x0.files 0).data (ai x0.files 0).sure]) fun y3=>some (au.mk y3 x0.room x0.fuse x0.down,0))) none) none) none) none) none) none) (cnd (ilt 0 (len x0.files)) (af (aV x0.files) fun y4=>cnd (band (ile 1 (len y4)) (band (ile 1 (len y4)) (ile (len y4) (len y4)))) (cnd (ile 0 (len y4)) (cnd (ile 1 (len y4)) (cnd (ile (aj 0 (len (aA (aN y4 1) (itn (aI (len y4) 1))))) (len y4)) (cnd (band (band (ile 0 (nti (nad 0 (itn (len (aA (aN y4 1) (itn (aI (len y4) 1)))))))) (ile (nti (nad 0 (itn (len (aA (aN y4 1) (itn (aI (len y4) 1))))))) (len y4))) (ile (len y4) (aI (len (fZ y4 0 (aA (aN y4 1) (itn (aI (len y4) 1))))) 0))) (af (eH (au.mk (aA (fZ (fZ y4 0 (aA (aN y4 1) (itn (aI (len y4) 1)))) (nad 0 (itn (nti (nad 0 (itn (len (aA (aN y4 1) (itn (aI (len y4) 1))))))))) (jO aF (itn (aI (len y4) (nti (nad 0 (itn (len (aA (aN y4 1) (itn (aI (len y4) 1))))))))))) (nad 0 (itn (len (aA (aN y4 1) (itn (aI (len y4) 1))))))) x0.room (wr .i64 (aI x0.fuse 1)) x0.down) x2) fun y5=>cnd y5.snd (cnd (band (ile 0 y5.fst) (ilt y5.fst (len (aA (fZ (fZ y4 0 (aA (aN y4 1) (itn (aI (len y4) 1)))) (nad 0 (itn (nti (nad 0 (itn (len (aA (aN y4 1) (itn (aI (len y4) 1))))))))) (jO aF (itn (aI (len y4) (nti (nad 0 (itn (len (aA (aN y4 1) (itn (aI (len y4) 1))))))))))) (nad 0 (itn (len (aA (aN y4 1) (itn (aI (len y4) 1)))))))))) (some (au.mk (bT (aA (fZ (fZ y4 0 (aA (aN y4 1) (itn (aI (len y4) 1)))) (nad 0 (itn (nti (nad 0 (itn (len (aA (aN y4 1) (itn (aI (len y4) 1))))))))) (jO aF (itn (aI (len y4) (nti (nad 0 (itn (len (aA (aN y4 1) (itn (aI (len y4) 1))))))))))) (nad 0 (itn (len (aA (aN y4 1) (itn (aI (len y4) 1))))))) (itn y5.fst) (aF.mk x2 (ai x0.files 0).data (ai x0.files 0).sure)) x0.room (wr .i64 (aI x0.fuse 1)) x0.down,0)) none) (af (bQ (aA (fZ (fZ y4 0 (aA (aN y4 1) (itn (aI (len y4) 1)))) (nad 0 (itn (nti (nad 0 (itn (len (aA (aN y4 1) (itn (aI (len y4) 1))))))))) (jO aF (itn (aI (len y4) (nti (nad 0 (itn (len (aA (aN y4 1) (itn (aI (len y4) 1))))))))))) (nad 0 (itn (len (aA (aN y4 1) (itn (aI (len y4) 1))))))) y5.fst [aF.mk x2 (ai x0.files 0).data (ai x0.files 0).sure]) fun y6=>some (au.mk y6 x0.room (wr .i64 (aI x0.fuse 1)) x0.down,0))) none) none) none) none) none) none)))) (af (eH x0 x1) fun y7=>cnd (ay y7.snd) (some (x0,7)) (cnd (ieq x0.fuse 0) (some (au.mk x0.files x0.room x0.fuse true,9)) (cnd (ieq x0.fuse (-1)) (cnd (band (ile 0 y7.fst) (ilt y7.fst (len x0.files))) (af (aV x0.files) fun y8=>cnd (band (band (band (ile 0 y7.fst) (ile y7.fst (wr .i64 (aj y7.fst 1)))) (ile (wr .i64 (aj y7.fst 1)) (len y8))) (band (ile (wr .i64 (aj y7.fst 1)) (len y8)) (ile (len y8) (len y8)))) (cnd (ieq y7.fst (wr .i64 (aj y7.fst 1))) (af (eH (au.mk y8 x0.room x0.fuse x0.down) x2) fun y9=>cnd y9.snd (cnd (band (ile 0 y9.fst) (ilt y9.fst (len y8))) (some (au.mk (bT y8 (itn y9.fst) (aF.mk x2 (ai x0.files (itn y7.fst)).data (ai x0.files (itn y7.fst)).sure)) x0.room x0.fuse x0.down,0)) none) (af (bQ y8 y9.fst [aF.mk x2 (ai x0.files (itn y7.fst)).data (ai x0.files (itn y7.fst)).sure]) fun y10=>some (au.mk y10 x0.room x0.fuse x0.down,0))) (cnd (band (ile 0 y7.fst) (ile y7.fst (len y8))) (cnd (band (ile 0 (wr .i64 (aj y7.fst 1))) (ile (wr .i64 (aj y7.fst 1)) (len y8))) (cnd (ile (aj (nti (itn y7.fst)) (len (aA (aN y8 (itn (wr .i64 (aj y7.fst 1)))) (itn (aI (len y8) (wr .i64 (aj y7.fst 1))))))) (len y8)) (cnd (band (band (ile 0 (nti (nad (itn y7.fst) (itn (len (aA (aN y8 (itn (wr .i64 (aj y7.fst 1)))) (itn (aI (len y8) (wr .i64 (aj y7.fst 1)))))))))) (ile (nti (nad (itn y7.fst) (itn (len (aA (aN y8 (itn (wr .i64 (aj y7.fst 1)))) (itn (aI (len y8) (wr .i64 (aj y7.fst 1))))))))) (len y8))) (ile (len y8) (aI (len (fZ y8 (itn y7.fst) (aA (aN y8 (itn (wr .i64 (aj y7.fst 1)))) (itn (aI (len y8) (wr .i64 (aj y7.fst 1))))))) 0))) (af (eH (au.mk (aA (fZ (fZ y8 (itn y7.fst) (aA (aN y8 (itn (wr .i64 (aj y7.fst 1)))) (itn (aI (len y8) (wr .i64 (aj y7.fst 1)))))) (nad 0 (itn (nti (nad (itn y7.fst) (itn (len (aA (aN y8 (itn (wr .i64 (aj y7.fst 1)))) (itn (aI (len y8) (wr .i64 (aj y7.fst 1))))))))))) (jO aF (itn (aI (len y8) (nti (nad (itn y7.fst) (itn (len (aA (aN y8 (itn (wr .i64 (aj y7.fst 1)))) (itn (aI (len y8) (wr .i64 (aj y7.fst 1))))))))))))) (nad (itn y7.fst) (itn (len (aA (aN y8 (itn (wr .i64 (aj y7.fst 1)))) (itn (aI (len y8) (wr .i64 (aj y7.fst 1))))))))) x0.room x0.fuse x0.down) x2) fun y11=>cnd y11.snd (cnd (band (ile 0 y11.fst) (ilt y11.fst (len (aA (fZ (fZ y8 (itn y7.fst) (aA (aN y8 (itn (wr .i64 (aj y7.fst 1)))) (itn (aI (len y8) (wr .i64 (aj y7.fst 1)))))) (nad 0 (itn (nti (nad (itn y7.fst) (itn (len (aA (aN y8 (itn (wr .i64 (aj y7.fst 1)))) (itn (aI (len y8) (wr .i64 (aj y7.fst 1))))))))))) (jO aF (itn (aI (len y8) (nti (nad (itn y7.fst) (itn (len (aA (aN y8 (itn (wr .i64 (aj y7.fst 1)))) (itn (aI (len y8) (wr .i64 (aj y7.fst 1))))))))))))) (nad (itn y7.fst) (itn (len (aA (aN y8 (itn (wr .i64 (aj y7.fst 1)))) (itn (aI (len y8) (wr .i64 (aj y7.fst 1)))))))))))) (some (au.mk (bT (aA (fZ (fZ y8 (itn y7.fst) (aA (aN y8 (itn (wr .i64 (aj y7.fst 1)))) (itn (aI (len y8) (wr .i64 (aj y7.fst 1)))))) (nad 0 (itn (nti (nad (itn y7.fst) (itn (len (aA (aN y8 (itn (wr .i64 (aj y7.fst 1)))) (itn (aI (len y8) (wr .i64 (aj y7.fst 1))))))))))) (jO aF (itn (aI (len y8) (nti (nad (itn y7.fst) (itn (len (aA (aN y8 (itn (wr .i64 (aj y7.fst 1)))) (itn (aI (len y8) (wr .i64 (aj y7.fst 1))))))))))))) (nad (itn y7.fst) (itn (len (aA (aN y8 (itn (wr .i64 (aj y7.fst 1)))) (itn (aI (len y8) (wr .i64 (aj y7.fst 1))))))))) (itn y11.fst) (aF.mk x2 (ai x0.files (itn y7.fst)).data (ai x0.files (itn y7.fst)).sure)) x0.room x0.fuse x0.down,0)) none) (af (bQ (aA (fZ (fZ y8 (itn y7.fst) (aA (aN y8 (itn (wr .i64 (aj y7.fst 1)))) (itn (aI (len y8) (wr .i64 (aj y7.fst 1)))))) (nad 0 (itn (nti (nad (itn y7.fst) (itn (len (aA (aN y8 (itn (wr .i64 (aj y7.fst 1)))) (itn (aI (len y8) (wr .i64 (aj y7.fst 1))))))))))) (jO aF (itn (aI (len y8) (nti (nad (itn y7.fst) (itn (len (aA (aN y8 (itn (wr .i64 (aj y7.fst 1)))) (itn (aI (len y8) (wr .i64 (aj y7.fst 1))))))))))))) (nad (itn y7.fst) (itn (len (aA (aN y8 (itn (wr .i64 (aj y7.fst 1)))) (itn (aI (len y8) (wr .i64 (aj y7.fst 1))))))))) y11.fst [aF.mk x2 (ai x0.files (itn y7.fst)).data (ai x0.files (itn y7.fst)).sure]) fun y12=>some (au.mk y12 x0.room x0.fuse x0.down,0))) none) none) none) none)) none) none) (cnd (band (ile 0 y7.fst) (ilt y7.fst (len x0.files))) (af (aV x0.files) fun y13=>cnd (band (band (band (ile 0 y7.fst) (ile y7.fst (wr .i64 (aj y7.fst 1)))) (ile (wr .i64 (aj y7.fst 1)) (len y13))) (band (ile (wr .i64 (aj y7.fst 1)) (len y13)) (ile (len y13) (len y13)))) (cnd (ieq y7.fst (wr .i64 (aj y7.fst 1))) (af (eH (au.mk y13 x0.room (wr .i64 (aI x0.fuse 1)) x0.down) x2) fun y14=>cnd y14.snd (cnd (band (ile 0 y14.fst) (ilt y14.fst (len y13))) (some (au.mk (bT y13 (itn y14.fst) (aF.mk x2 (ai x0.files (itn y7.fst)).data (ai x0.files (itn y7.fst)).sure)) x0.room (wr .i64 (aI x0.fuse 1)) x0.down,0)) none) (af (bQ y13 y14.fst [aF.mk x2 (ai x0.files (itn y7.fst)).data (ai x0.files (itn y7.fst)).sure]) fun y15=>some (au.mk y15 x0.room (wr .i64 (aI x0.fuse 1)) x0.down,0))) (cnd (band (ile 0 y7.fst) (ile y7.fst (len y13))) (cnd (band (ile 0 (wr .i64 (aj y7.fst 1))) (ile (wr .i64 (aj y7.fst 1)) (len y13))) (cnd (ile (aj (nti (itn y7.fst)) (len (aA (aN y13 (itn (wr .i64 (aj y7.fst 1)))) (itn (aI (len y13) (wr .i64 (aj y7.fst 1))))))) (len y13)) (cnd (band (band (ile 0 (nti (nad (itn y7.fst) (itn (len (aA (aN y13 (itn (wr .i64 (aj y7.fst 1)))) (itn (aI (len y13) (wr .i64 (aj y7.fst 1)))))))))) (ile (nti (nad (itn y7.fst) (itn (len (aA (aN y13 (itn (wr .i64 (aj y7.fst 1)))) (itn (aI (len y13) (wr .i64 (aj y7.fst 1))))))))) (len y13))) (ile (len y13) (aI (len (fZ y13 (itn y7.fst) (aA (aN y13 (itn (wr .i64 (aj y7.fst 1)))) (itn (aI (len y13) (wr .i64 (aj y7.fst 1))))))) 0))) (af (eH (au.mk (aA (fZ (fZ y13 (itn y7.fst) (aA (aN y13 (itn (wr .i64 (aj y7.fst 1)))) (itn (aI (len y13) (wr .i64 (aj y7.fst 1)))))) (nad 0 (itn (nti (nad (itn y7.fst) (itn (len (aA (aN y13 (itn (wr .i64 (aj y7.fst 1)))) (itn (aI (len y13) (wr .i64 (aj y7.fst 1))))))))))) (jO aF (itn (aI (len y13) (nti (nad (itn y7.fst) (itn (len (aA (aN y13 (itn (wr .i64 (aj y7.fst 1)))) (itn (aI (len y13) (wr .i64 (aj y7.fst 1))))))))))))) (nad (itn y7.fst) (itn (len (aA (aN y13 (itn (wr .i64 (aj y7.fst 1)))) (itn (aI (len y13) (wr .i64 (aj y7.fst 1))))))))) x0.room (wr .i64 (aI x0.fuse 1)) x0.down) x2) fun y16=>cnd y16.snd (cnd (band (ile 0 y16.fst) (ilt y16.fst (len (aA (fZ (fZ y13 (itn y7.fst) (aA (aN y13 (itn (wr .i64 (aj y7.fst 1)))) (itn (aI (len y13) (wr .i64 (aj y7.fst 1)))))) (nad 0 (itn (nti (nad (itn y7.fst) (itn (len (aA (aN y13 (itn (wr .i64 (aj y7.fst 1)))) (itn (aI (len y13) (wr .i64 (aj y7.fst 1))))))))))) (jO aF (itn (aI (len y13) (nti (nad (itn y7.fst) (itn (len (aA (aN y13 (itn (wr .i64 (aj y7.fst 1)))) (itn (aI (len y13) (wr .i64 (aj y7.fst 1))))))))))))) (nad (itn y7.fst) (itn (len (aA (aN y13 (itn (wr .i64 (aj y7.fst 1)))) (itn (aI (len y13) (wr .i64 (aj y7.fst 1)))))))))))) (some (au.mk (bT (aA (fZ (fZ y13 (itn y7.fst) (aA (aN y13 (itn (wr .i64 (aj y7.fst 1)))) (itn (aI (len y13) (wr .i64 (aj y7.fst 1)))))) (nad 0 (itn (nti (nad (itn y7.fst) (itn (len (aA (aN y13 (itn (wr .i64 (aj y7.fst 1)))) (itn (aI (len y13) (wr .i64 (aj y7.fst 1))))))))))) (jO aF (itn (aI (len y13) (nti (nad (itn y7.fst) (itn (len (aA (aN y13 (itn (wr .i64 (aj y7.fst 1)))) (itn (aI (len y13) (wr .i64 (aj y7.fst 1))))))))))))) (nad (itn y7.fst) (itn (len (aA (aN y13 (itn (wr .i64 (aj y7.fst 1)))) (itn (aI (len y13) (wr .i64 (aj y7.fst 1))))))))) (itn y16.fst) (aF.mk x2 (ai x0.files (itn y7.fst)).data (ai x0.files (itn y7.fst)).sure)) x0.room (wr .i64 (aI x0.fuse 1)) x0.down,0)) none) (af (bQ (aA (fZ (fZ y13 (itn y7.fst) (aA (aN y13 (itn (wr .i64 (aj y7.fst 1)))) (itn (aI (len y13) (wr .i64 (aj y7.fst 1)))))) (nad 0 (itn (nti (nad (itn y7.fst) (itn (len (aA (aN y13 (itn (wr .i64 (aj y7.fst 1)))) (itn (aI (len y13) (wr .i64 (aj y7.fst 1))))))))))) (jO aF (itn (aI (len y13) (nti (nad (itn y7.fst) (itn (len (aA (aN y13 (itn (wr .i64 (aj y7.fst 1)))) (itn (aI (len y13) (wr .i64 (aj y7.fst 1))))))))))))) (nad (itn y7.fst) (itn (len (aA (aN y13 (itn (wr .i64 (aj y7.fst 1)))) (itn (aI (len y13) (wr .i64 (aj y7.fst 1))))))))) y16.fst [aF.mk x2 (ai x0.files (itn y7.fst)).data (ai x0.files (itn y7.fst)).sure]) fun y17=>some (au.mk y17 x0.room (wr .i64 (aI x0.fuse 1)) x0.down,0))) none) none) none) none)) none) none))))) none
noncomputable def aak:Cx:={ P:=PG,ety:=ety,fn:=look [(76,jr),(77,jP),(53,dY),(79,lm)],inl:=dR [55,81,82],lp:=aS [] }
theorem acQ (x0:au) (x1:(List UInt8)) (x2:(List UInt8)):bP aak 33 [.val .disk,.str,.str] [.val .disk,.int .i64] (x0,x1,x2)=mF x0 x1 x2:=by kernel_rfl
def KZ:aO:=mkSpec [.val .disk,.str,.str] [.val .disk,.int .i64] false (fun x=>mF x.1 x.2.1 x.2.2)
theorem af4:dI PG 33 KZ:=
 have K:CxR aak:=aP.cx (fun _=>rfl) (l:=[(76,jr),(77,jP),(53,dY),(79,lm)]) ⟨Bq,Et,oq,ER,trivial⟩
 aH K (aG (l:=[]) rfl trivial) (by kernel_rfl) (fun x y h=>(acQ x.1 x.2.1 x.2.2).trans h) rfl rfl
def Ae (x0:au) (x1:(List UInt8)) (x2:Int):Option (au×Int):=af (jK x0 [x1]) fun y0=>cnd (ay (ieq y0 0)) (cnd (ay (ieq y0 0)) (some (x0,y0)) (cnd (ilt x2 0) (cnd (ilt x2 0) (some (x0,1)) (cnd (ieq x0.fuse 0) (some (au.mk x0.files x0.room x0.fuse true,9)) (cnd (ieq x0.fuse (-1)) (af (aV x0.files) fun y1=>cnd (ilt 0 (len y1)) (cnd (band (ile 0 x2) (ile x2 (len (ai y1 0).data))) (af (dW (aA (ai y1 0).data (itn x2))) fun y2=>some (au.mk (bT (bT y1 0 (aF.mk (ai y1 0).name y2 (ai y1 0).sure)) 0 (aF.mk (ai (bT y1 0 (aF.mk (ai y1 0).name y2 (ai y1 0).sure)) 0).name (ai (bT y1 0 (aF.mk (ai y1 0).name y2 (ai y1 0).sure)) 0).data (tu (ai y1 0).sure x2))) x0.room x0.fuse x0.down,0)) none) none) (af (aV x0.files) fun y3=>cnd (ilt 0 (len y3)) (cnd (band (ile 0 x2) (ile x2 (len (ai y3 0).data))) (af (dW (aA (ai y3 0).data (itn x2))) fun y4=>some (au.mk (bT (bT y3 0 (aF.mk (ai y3 0).name y4 (ai y3 0).sure)) 0 (aF.mk (ai (bT y3 0 (aF.mk (ai y3 0).name y4 (ai y3 0).sure)) 0).name (ai (bT y3 0 (aF.mk (ai y3 0).name y4 (ai y3 0).sure)) 0).data (tu (ai y3 0).sure x2))) x0.room (wr .i64 (aI x0.fuse 1)) x0.down,0)) none) none)))) (cnd (ilt 0 (len x0.files)) (cnd (ilt (len (ai x0.files 0).data) x2) (some (x0,1)) (cnd (ieq x0.fuse 0) (some (au.mk x0.files x0.room x0.fuse true,9)) (cnd (ieq x0.fuse (-1)) (af (aV x0.files) fun y5=>cnd (ilt 0 (len y5)) (cnd (band (ile 0 x2) (ile x2 (len (ai y5 0).data))) (af (dW (aA (ai y5 0).data (itn x2))) fun y6=>some (au.mk (bT (bT y5 0 (aF.mk (ai y5 0).name y6 (ai y5 0).sure)) 0 (aF.mk (ai (bT y5 0 (aF.mk (ai y5 0).name y6 (ai y5 0).sure)) 0).name (ai (bT y5 0 (aF.mk (ai y5 0).name y6 (ai y5 0).sure)) 0).data (tu (ai y5 0).sure x2))) x0.room x0.fuse x0.down,0)) none) none) (af (aV x0.files) fun y7=>cnd (ilt 0 (len y7)) (cnd (band (ile 0 x2) (ile x2 (len (ai y7 0).data))) (af (dW (aA (ai y7 0).data (itn x2))) fun y8=>some (au.mk (bT (bT y7 0 (aF.mk (ai y7 0).name y8 (ai y7 0).sure)) 0 (aF.mk (ai (bT y7 0 (aF.mk (ai y7 0).name y8 (ai y7 0).sure)) 0).name (ai (bT y7 0 (aF.mk (ai y7 0).name y8 (ai y7 0).sure)) 0).data (tu (ai y7 0).sure x2))) x0.room (wr .i64 (aI x0.fuse 1)) x0.down,0)) none) none)))) none))) (af (eH x0 x1) fun y9=>cnd (ay y9.snd) (some (x0,7)) (cnd (ilt x2 0) (cnd (ilt x2 0) (some (x0,1)) (cnd (ieq x0.fuse 0) (some (au.mk x0.files x0.room x0.fuse true,9)) (cnd (ieq x0.fuse (-1)) (af (aV x0.files) fun y10=>cnd (band (ile 0 y9.fst) (ilt y9.fst (len y10))) (cnd (band (ile 0 x2) (ile x2 (len (ai y10 (itn y9.fst)).data))) (af (dW (aA (ai y10 (itn y9.fst)).data (itn x2))) fun y11=>some (au.mk (bT (bT y10 (itn y9.fst) (aF.mk (ai y10 (itn y9.fst)).name y11 (ai y10 (itn y9.fst)).sure)) (itn y9.fst) (aF.mk (ai (bT y10 (itn y9.fst) (aF.mk (ai y10 (itn y9.fst)).name y11 (ai y10 (itn y9.fst)).sure)) (itn y9.fst)).name (ai (bT y10 (itn y9.fst) (aF.mk (ai y10 (itn y9.fst)).name y11 (ai y10 (itn y9.fst)).sure)) (itn y9.fst)).data (tu (ai y10 (itn y9.fst)).sure x2))) x0.room x0.fuse x0.down,0)) none) none) (af (aV x0.files) fun y12=>cnd (band (ile 0 y9.fst) (ilt y9.fst (len y12))) (cnd (band (ile 0 x2) (ile x2 (len (ai y12 (itn y9.fst)).data))) (af (dW (aA (ai y12 (itn y9.fst)).data (itn x2))) fun y13=>some (au.mk (bT (bT y12 (itn y9.fst) (aF.mk (ai y12 (itn y9.fst)).name y13 (ai y12 (itn y9.fst)).sure)) (itn y9.fst) (aF.mk (ai (bT y12 (itn y9.fst) (aF.mk (ai y12 (itn y9.fst)).name y13 (ai y12 (itn y9.fst)).sure)) (itn y9.fst)).name (ai (bT y12 (itn y9.fst) (aF.mk (ai y12 (itn y9.fst)).name y13 (ai y12 (itn y9.fst)).sure)) (itn y9.fst)).data (tu (ai y12 (itn y9.fst)).sure x2))) x0.room (wr .i64 (aI x0.fuse 1)) x0.down,0)) none) none)))) (cnd (band (ile 0 y9.fst) (ilt y9.fst (len x0.files))) (cnd (ilt (len (ai x0.files (itn y9.fst)).data) x2) (some (x0,1)) (cnd (ieq x0.fuse 0) (some (au.mk x0.files x0.room x0.fuse true,9)) (cnd (ieq x0.fuse (-1)) (af (aV x0.files) fun y14=>cnd (band (ile 0 y9.fst) (ilt y9.fst (len y14))) (cnd (band (ile 0 x2) (ile x2 (len (ai y14 (itn y9.fst)).data))) (af (dW (aA (ai y14 (itn y9.fst)).data (itn x2))) fun y15=>some (au.mk (bT (bT y14 (itn y9.fst) (aF.mk (ai y14 (itn y9.fst)).name y15 (ai y14 (itn y9.fst)).sure)) (itn y9.fst) (aF.mk (ai (bT y14 (itn y9.fst) (aF.mk (ai y14 (itn y9.fst)).name y15 (ai y14 (itn y9.fst)).sure)) (itn y9.fst)).name (ai (bT y14 (itn y9.fst) (aF.mk (ai y14 (itn y9.fst)).name y15 (ai y14 (itn y9.fst)).sure)) (itn y9.fst)).data (tu (ai y14 (itn y9.fst)).sure x2))) x0.room x0.fuse x0.down,0)) none) none) (af (aV x0.files) fun y16=>cnd (band (ile 0 y9.fst) (ilt y9.fst (len y16))) (cnd (band (ile 0 x2) (ile x2 (len (ai y16 (itn y9.fst)).data))) (af (dW (aA (ai y16 (itn y9.fst)).data (itn x2))) fun y17=>some (au.mk (bT (bT y16 (itn y9.fst) (aF.mk (ai y16 (itn y9.fst)).name y17 (ai y16 (itn y9.fst)).sure)) (itn y9.fst) (aF.mk (ai (bT y16 (itn y9.fst) (aF.mk (ai y16 (itn y9.fst)).name y17 (ai y16 (itn y9.fst)).sure)) (itn y9.fst)).name (ai (bT y16 (itn y9.fst) (aF.mk (ai y16 (itn y9.fst)).name y17 (ai y16 (itn y9.fst)).sure)) (itn y9.fst)).data (tu (ai y16 (itn y9.fst)).sure x2))) x0.room (wr .i64 (aI x0.fuse 1)) x0.down,0)) none) none)))) none)))
noncomputable def ae7:Cx:={ P:=PG,ety:=ety,fn:=look [(76,jr),(77,jP),(53,dY),(56,pW)],inl:=dR [55,81],lp:=aS [] }
theorem ahu (x0:au) (x1:(List UInt8)) (x2:Int):bP ae7 87 [.val .disk,.str,.int .i64] [.val .disk,.int .i64] (x0,x1,x2)=Ae x0 x1 x2:=by kernel_rfl
def TF:aO:=mkSpec [.val .disk,.str,.int .i64] [.val .disk,.int .i64] false (fun x=>Ae x.1 x.2.1 x.2.2)
theorem alr:dI PG 87 TF:=
 have K:CxR ae7:=aP.cx (fun _=>rfl) (l:=[(76,jr),(77,jP),(53,dY),(56,pW)]) ⟨Bq,Et,oq,Nc,trivial⟩
 aH K (aG (l:=[]) rfl trivial) (by kernel_rfl) (fun x y h=>(ahu x.1 x.2.1 x.2.2).trans h) rfl rfl
def iY (x0:au) (x1:dw):Option (au×Int):=af (zY x1) fun y0=>cnd (ay y0) (some (x0,1)) (af (xg x0) fun y1=>cnd (ieq y1.snd 1) (cnd (ieq y1.snd 1) (some (x0,y1.snd)) (cnd (ay (ieq x1.gen (wr .i64 (aj y1.fst.gen 1)))) (some (x0,8)) (af (l7 x1.gen) fun y2=>af (rP x1) fun y3=>af (nP x0 y2) fun y4=>cnd (ieq y4.snd 7) (af (jD x0 y2 [y3.a0,y3.a1,y3.a2,y3.a3,y3.a4,y3.a5,y3.a6,y3.a7,y3.a8,y3.a9,y3.a10,y3.a11,y3.a12,y3.a13,y3.a14,y3.a15,y3.a16,y3.a17,y3.a18,y3.a19]) fun y5=>cnd (ay (ieq y5.snd 0)) (some y5) (af (kX y5.fst y2) fun y6=>cnd (ay (ieq y6.snd 0)) (some y6) (some (y6.fst,0)))) (af (Ae x0 y2 0) fun y7=>cnd (ay (ieq y7.snd 0)) (some y7) (af (jD y7.fst y2 [y3.a0,y3.a1,y3.a2,y3.a3,y3.a4,y3.a5,y3.a6,y3.a7,y3.a8,y3.a9,y3.a10,y3.a11,y3.a12,y3.a13,y3.a14,y3.a15,y3.a16,y3.a17,y3.a18,y3.a19]) fun y8=>cnd (ay (ieq y8.snd 0)) (some y8) (af (kX y8.fst y2) fun y9=>cnd (ay (ieq y9.snd 0)) (some y9) (some (y9.fst,0)))))))) (cnd (ieq y1.snd 9) (some (x0,y1.snd)) (cnd (ay (ieq x1.gen (wr .i64 (aj y1.fst.gen 1)))) (some (x0,8)) (af (l7 x1.gen) fun y10=>af (rP x1) fun y11=>af (nP x0 y10) fun y12=>cnd (ieq y12.snd 7) (af (jD x0 y10 [y11.a0,y11.a1,y11.a2,y11.a3,y11.a4,y11.a5,y11.a6,y11.a7,y11.a8,y11.a9,y11.a10,y11.a11,y11.a12,y11.a13,y11.a14,y11.a15,y11.a16,y11.a17,y11.a18,y11.a19]) fun y13=>cnd (ay (ieq y13.snd 0)) (some y13) (af (kX y13.fst y10) fun y14=>cnd (ay (ieq y14.snd 0)) (some y14) (some (y14.fst,0)))) (af (Ae x0 y10 0) fun y15=>cnd (ay (ieq y15.snd 0)) (some y15) (af (jD y15.fst y10 [y11.a0,y11.a1,y11.a2,y11.a3,y11.a4,y11.a5,y11.a6,y11.a7,y11.a8,y11.a9,y11.a10,y11.a11,y11.a12,y11.a13,y11.a14,y11.a15,y11.a16,y11.a17,y11.a18,y11.a19]) fun y16=>cnd (ay (ieq y16.snd 0)) (some y16) (af (kX y16.fst y10) fun y17=>cnd (ay (ieq y17.snd 0)) (some y17) (some (y17.fst,0)))))))))
noncomputable def ab1:Cx:={ P:=PG,ety:=ety,fn:=look [(83,Bh),(25,vY),(72,Dv),(84,Bf),(21,qh),(87,TF),(29,zf),(31,DU)],inl:=dR [86,88,89,85],lp:=aS [] }
theorem aex (x0:au) (x1:dw):bP ab1 35 [.val .disk,.val .slot] [.val .disk,.int .i64] (x0,x1)=iY x0 x1:=by kernel_rfl
def NU:aO:=mkSpec [.val .disk,.val .slot] [.val .disk,.int .i64] false (fun x=>iY x.1 x.2)
theorem ahx:dI PG 35 NU:=
 have K:CxR ab1:=aP.cx (fun _=>rfl) (l:=[(83,Bh),(25,vY),(72,Dv),(84,Bf),(21,qh),(87,TF),(29,zf),(31,DU)]) ⟨aag,Vg,abG,aal,O6,alr,Ya,ab7,trivial⟩
 aH K (aG (l:=[]) rfl trivial) (by kernel_rfl) (fun x y h=>(aex x.1 x.2).trans h) rfl rfl
def yQ (x0:(List UInt8)):Option (Bool):=some (ay (ieq (Hu [115,110,97,112,46] x0) 0))
def FC:aO:=mkSpec [.str] [.bool] true (fun x=>yQ x)
def Y0:Go.Shelf.Ren:=⟨fun | 174=>91 | 247=>157 | 245=>158 | 287=>203 | 279=>204 | 280=>205 | 281=>206 | 282=>207 | 321=>227 | 322=>228 | 316=>229 | 171=>231 | 205=>230 | 243=>237 | 246=>113 | 283=>171 | 284=>172 | 285=>173 | 286=>174 | 129=>212 | 317=>211 | 318=>213 | 319=>214 | 320=>215 | 337=>233 | 338=>234 | n=>n,fun | 9=>9 | 3=>3 | 2=>2 | 75=>139 | 85=>140 | 4=>4 | 167=>251 | 5=>5 | 53=>219 | 175=>252 | 46=>162 | 168=>254 | 37=>51 | 0=>0 | 210=>277 | 21=>21 | 127=>233 | 145=>284 | 143=>282 | 171=>224 | 173=>227 | 212=>260 | 51=>119 | 20=>20 | 213=>261 | 232=>285 | 233=>286 | 74=>138 | 209=>276 | 144=>283 | 80=>173 | n=>n,fun | 15=>2 | 16=>3 | 17=>0 | 18=>4 | 19=>5 | n=>n⟩
theorem qx:Go.Proofs.LaysC.n174 PG Y0 where
 mixed:=by kernel_rfl
 f129:=by kernel_rfl
 f171:=by kernel_rfl
 f174:=by kernel_rfl
 f205:=by kernel_rfl
 f243:=by kernel_rfl
 f245:=by kernel_rfl
 f246:=by kernel_rfl
 f247:=by kernel_rfl
 f279:=by kernel_rfl
 f280:=by kernel_rfl
 f281:=by kernel_rfl
 f282:=by kernel_rfl
 f283:=by kernel_rfl
 f284:=by kernel_rfl
 f285:=by kernel_rfl
 f286:=by kernel_rfl
 f287:=by kernel_rfl
 f316:=by kernel_rfl
 f317:=by kernel_rfl
 f318:=by kernel_rfl
 f319:=by kernel_rfl
 f320:=by kernel_rfl
 f321:=by kernel_rfl
 f322:=by kernel_rfl
 f337:=by kernel_rfl
 f338:=by kernel_rfl
 t0:=by kernel_rfl
 a0:=fun w=>by kernel_rfl
 z0:=fun w=>by kernel_rfl
 v0:=fun w=>by kernel_rfl
 t2:=by kernel_rfl
 a2:=fun w=>by kernel_rfl
 z2:=fun w=>by kernel_rfl
 v2:=fun w=>by kernel_rfl
 t3:=by kernel_rfl
 a3:=fun w=>by kernel_rfl
 z3:=fun w=>by kernel_rfl
 v3:=fun w=>by kernel_rfl
 t4:=by kernel_rfl
 a4:=fun w=>by kernel_rfl
 z4:=fun w=>by kernel_rfl
 v4:=fun w=>by kernel_rfl
 t5:=by kernel_rfl
 a5:=fun w=>by kernel_rfl
 z5:=fun w=>by kernel_rfl
 v5:=fun w=>by kernel_rfl
 t9:=by kernel_rfl
 a9:=fun w=>by kernel_rfl
 z9:=fun w=>by kernel_rfl
 v9:=fun w=>by kernel_rfl
 t20:=by kernel_rfl
 a20:=fun w=>by kernel_rfl
 z20:=fun w=>by kernel_rfl
 v20:=fun w=>by kernel_rfl
 t21:=by kernel_rfl
 a21:=fun w=>by kernel_rfl
 z21:=fun w=>by kernel_rfl
 v21:=fun w=>by kernel_rfl
 t37:=by kernel_rfl
 a37:=fun w=>by kernel_rfl
 z37:=fun w=>by kernel_rfl
 v37:=fun w=>by kernel_rfl
 t46:=by kernel_rfl
 a46:=fun w=>by kernel_rfl
 z46:=fun w=>by kernel_rfl
 v46:=fun w=>by kernel_rfl
 t51:=by kernel_rfl
 a51:=fun w=>by kernel_rfl
 z51:=fun w=>by kernel_rfl
 v51:=fun w=>by kernel_rfl
 t53:=by kernel_rfl
 a53:=fun w=>by kernel_rfl
 z53:=fun w=>by kernel_rfl
 v53:=fun w=>by kernel_rfl
 t75:=by kernel_rfl
 a75:=fun w=>by kernel_rfl
 z75:=fun w=>by kernel_rfl
 v75:=fun w=>by kernel_rfl
 t85:=by kernel_rfl
 a85:=fun w=>by kernel_rfl
 z85:=fun w=>by kernel_rfl
 v85:=fun w=>by kernel_rfl
 t127:=by kernel_rfl
 a127:=fun w=>by kernel_rfl
 z127:=fun w=>by kernel_rfl
 v127:=fun w=>by kernel_rfl
 t143:=by kernel_rfl
 a143:=fun w=>by kernel_rfl
 z143:=fun w=>by kernel_rfl
 v143:=fun w=>by kernel_rfl
 t145:=by kernel_rfl
 a145:=fun w=>by kernel_rfl
 z145:=fun w=>by kernel_rfl
 v145:=fun w=>by kernel_rfl
 t167:=by kernel_rfl
 a167:=fun w=>by kernel_rfl
 z167:=fun w=>by kernel_rfl
 v167:=fun w=>by kernel_rfl
 t168:=by kernel_rfl
 a168:=fun w=>by kernel_rfl
 z168:=fun w=>by kernel_rfl
 v168:=fun w=>by kernel_rfl
 t171:=by kernel_rfl
 a171:=fun w=>by kernel_rfl
 z171:=fun w=>by kernel_rfl
 v171:=fun w=>by kernel_rfl
 t173:=by kernel_rfl
 a173:=fun w=>by kernel_rfl
 z173:=fun w=>by kernel_rfl
 v173:=fun w=>by kernel_rfl
 t175:=by kernel_rfl
 a175:=fun w=>by kernel_rfl
 z175:=fun w=>by kernel_rfl
 v175:=fun w=>by kernel_rfl
 t210:=by kernel_rfl
 a210:=fun w=>by kernel_rfl
 z210:=fun w=>by kernel_rfl
 v210:=fun w=>by kernel_rfl
 t212:=by kernel_rfl
 a212:=fun w=>by kernel_rfl
 z212:=fun w=>by kernel_rfl
 v212:=fun w=>by kernel_rfl
 t213:=by kernel_rfl
 a213:=fun w=>by kernel_rfl
 z213:=fun w=>by kernel_rfl
 t232:=by kernel_rfl
 a232:=fun w=>by kernel_rfl
 z232:=fun w=>by kernel_rfl
 v232:=fun w=>by kernel_rfl
 t233:=by kernel_rfl
 a233:=fun w=>by kernel_rfl
 z233:=fun w=>by kernel_rfl
 v233:=fun w=>by kernel_rfl
 g15:=by kernel_rfl
 g16:=by kernel_rfl
 g17:=by kernel_rfl
 g18:=by kernel_rfl
 g19:=by kernel_rfl
 t80:=by kernel_rfl
 a80:=fun w=>by kernel_rfl
 z80:=fun w=>by kernel_rfl
 v80:=fun w=>by kernel_rfl
 i0:=by kernel_rfl
 i2:=by kernel_rfl
 i3:=by kernel_rfl
 i4:=by kernel_rfl
 i5:=by kernel_rfl
 i9:=by kernel_rfl
 i20:=by kernel_rfl
 i21:=by kernel_rfl
 i37:=by kernel_rfl
 i46:=by kernel_rfl
 i51:=by kernel_rfl
 i53:=by kernel_rfl
 i75:=by kernel_rfl
 i80:=by kernel_rfl
 i85:=by kernel_rfl
 i127:=by kernel_rfl
 i143:=by kernel_rfl
 i145:=by kernel_rfl
 i167:=by kernel_rfl
 i168:=by kernel_rfl
 i171:=by kernel_rfl
 i173:=by kernel_rfl
 i175:=by kernel_rfl
 i210:=by kernel_rfl
 i212:=by kernel_rfl
 i232:=by kernel_rfl
 i233:=by kernel_rfl
 m15:=by kernel_rfl
 m16:=by kernel_rfl
 m17:=by kernel_rfl
 m18:=by kernel_rfl
 m19:=by kernel_rfl
 c0:=by kernel_rfl
 c2:=by kernel_rfl
 c3:=by kernel_rfl
 c4:=by kernel_rfl
 c5:=by kernel_rfl
 c9:=by kernel_rfl
 c20:=by kernel_rfl
 c21:=by kernel_rfl
 c37:=by kernel_rfl
 c46:=by kernel_rfl
 c51:=by kernel_rfl
 c53:=by kernel_rfl
 c75:=by kernel_rfl
 c80:=by kernel_rfl
 c85:=by kernel_rfl
 c127:=by kernel_rfl
 c143:=by kernel_rfl
 c145:=by kernel_rfl
 c167:=by kernel_rfl
 c168:=by kernel_rfl
 c171:=by kernel_rfl
 c173:=by kernel_rfl
 c175:=by kernel_rfl
 c210:=by kernel_rfl
 c212:=by kernel_rfl
 c213:=by kernel_rfl
 c232:=by kernel_rfl
 c233:=by kernel_rfl
def Xq:Go.Shelf.Ren:=⟨fun | 103=>90 | 210=>156 | 206=>177 | n=>n,fun | 9=>9 | 4=>4 | 24=>136 | 3=>3 | n=>n,fun | n=>n⟩
theorem JO:Go.Proofs.Lays.n103 PG Xq where
 mixed:=by kernel_rfl
 f103:=by kernel_rfl
 f206:=by kernel_rfl
 f210:=by kernel_rfl
 t3:=by kernel_rfl
 a3:=fun w=>by kernel_rfl
 z3:=fun w=>by kernel_rfl
 v3:=fun w=>by kernel_rfl
 t4:=by kernel_rfl
 a4:=fun w=>by kernel_rfl
 z4:=fun w=>by kernel_rfl
 v4:=fun w=>by kernel_rfl
 t9:=by kernel_rfl
 a9:=fun w=>by kernel_rfl
 z9:=fun w=>by kernel_rfl
 v9:=fun w=>by kernel_rfl
 t24:=by kernel_rfl
 a24:=fun w=>by kernel_rfl
 z24:=fun w=>by kernel_rfl
 v24:=fun w=>by kernel_rfl
theorem amP {B B':Nat} {a b:World} (h:RowKit.Below B a b) (hB:B'<=B):RowKit.Below B' a b:=⟨h.os,h.tape,h.output,h.size,fun k hk=>h.block k (Nat.lt_of_lt_of_le hk hB)⟩
set_option maxHeartbeats 1000000 in
set_option maxRecDepth 100000 in
theorem ai7 (s r:ByteArray) (w:World)
  (h1:Calls PG 90 #[.string s,.string ⟨#[115,110,97,112,46]⟩] w fun e w'=>e= .returned (.tuple #[.string r,.bool false])/\w'=w):
  Calls PG 36 #[.string s] w fun e w'=>e= .returned (.bool false)/\RowKit.Below w.heap.size w w':=by
 go_enter Go.Proofs.Tryz.func36,Go.Proofs.Tryz.ntmps36
 go_wp2_with (go_at_call 90;refine h1.mono ?_;rintro e W1 ⟨rfl,rfl⟩)
 all_goals (go_ret;exact⟨rfl,RowKit.Below.refl _ _⟩)
set_option maxHeartbeats 1000000 in
set_option maxRecDepth 100000 in
theorem ahC (s r:ByteArray) (w:World)
  (h1:Calls PG 90 #[.string s,.string ⟨#[115,110,97,112,46]⟩] w fun e w'=>e= .returned (.tuple #[.string r,.bool true])/\w'=w) (hr:r.size≠10):
  Calls PG 36 #[.string s] w fun e w'=>e= .returned (.bool false)/\RowKit.Below w.heap.size w w':=by
 have hr':((((r.size:Nat):Int)) != 10)=true:=by simp;omega
 go_enter Go.Proofs.Tryz.func36,Go.Proofs.Tryz.ntmps36
 go_wp2_with (go_at_call 90;refine h1.mono ?_;rintro e W1 ⟨rfl,rfl⟩)
 all_goals (go_ret;exact⟨rfl,RowKit.Below.refl _ _⟩)
set_option maxHeartbeats 1000000 in
set_option maxRecDepth 100000 in
theorem ZP (s r:ByteArray) (w:World) (v:Int) (t:TypeId) (q:Value->Prop)
  (h1:Calls PG 90 #[.string s,.string ⟨#[115,110,97,112,46]⟩] w fun e w'=>e= .returned (.tuple #[.string r,.bool true])/\w'=w) (hr:r.size=10)
  (h2:Calls PG 91 #[.string r,.int .i64 10,.int .i64 64] w fun e w'=>∃p,e= .returned (.tuple #[.int .i64 v,.iface t p])/\RowKit.Below w.heap.size w w'):
  Calls PG 36 #[.string s] w fun e w'=>e= .returned (.bool false)/\RowKit.Below w.heap.size w w':=by
 have hr':((r.size:Nat):Int)=10:=by omega
 go_enter Go.Proofs.Tryz.func36,Go.Proofs.Tryz.ntmps36
 go_wp2_with (first | (go_at_call 90;refine h1.mono ?_;rintro e W1 ⟨rfl,rfl⟩) | (go_at_call 91;refine h2.mono ?_;rintro e W2 ⟨p,rfl,hb⟩))
 all_goals (go_ret;exact⟨rfl,hb⟩)
set_option maxHeartbeats 1000000 in
set_option maxRecDepth 100000 in
theorem ajj (s r:ByteArray) (w:World) (v:Int) (nm:ByteArray)
  (h1:Calls PG 90 #[.string s,.string ⟨#[115,110,97,112,46]⟩] w fun e w'=>e= .returned (.tuple #[.string r,.bool true])/\w'=w) (hr:r.size=10)
  (h2:Calls PG 91 #[.string r,.int .i64 10,.int .i64 64] w fun e w'=>e= .returned (.tuple #[.int .i64 v,.nilIface])/\RowKit.Below w.heap.size w w')
  (h3:∀w1,RowKit.Below w.heap.size w w1->Calls PG 17 #[.int .i64 v] w1 fun e w'=>e= .returned (.string nm)/\RowKit.Below w1.heap.size w1 w'):
  Calls PG 36 #[.string s] w fun e w'=>e= .returned (.bool (nm.toList == s.toList))/\RowKit.Below w.heap.size w w':=by
 have hr':((r.size:Nat):Int)=10:=by omega
 go_enter Go.Proofs.Tryz.func36,Go.Proofs.Tryz.ntmps36
 go_wp2_with (first | (go_at_call 90;refine h1.mono ?_;rintro e W1 ⟨rfl,rfl⟩) | (go_at_call 91;refine h2.mono ?_;rintro e W2 ⟨rfl,hb⟩) | (go_at_call 17;refine(h3 _ hb).mono ?_;rintro e W3 ⟨rfl,hb3⟩))
 all_goals (go_ret;exact⟨rfl,hb.trans (amP hb3 hb.size)⟩)
theorem apf (v:Int) (hv:inI v):dV v=some (Nj [115,110,97,112,46] v):=by
 unfold inI at hv
 unfold dV Nj uz yU
 by_cases h:v<1\/1000000000<v
 ·rw[if_pos h,show bor (ilt v 1) (ilt 1000000000 v)=true by rw[ajr,V9,V9];exact h];rfl
 ·have e1:bor (ilt v 1) (ilt 1000000000 v)=false:=by
   rw[Bool.eq_false_iff];intro g;rw[ajr,V9,V9]at g;exact h g
  have hl:(fmt10 v).length<=10:=by
   unfold fmt10;rw[if_neg (by omega)]
   exact YG 20 _ 10 (by have:(10:Nat)^10=10000000000:=by decide
                 omega) (by decide)
  have e2:wr .i64 (aI 10 (len (fmt10 v)))=((10 - (fmt10 v).length:Nat):Int):=by
   unfold aI len wr IntKind.wrap
   simp [IntKind.bits,IntKind.signed]
   omega
  have e3:aow v 10=some (fmt10 v):=by
   unfold aow
   rw[show band (ieq 10 10) (band (ile (-9223372036854775808) v) (ile v 9223372036854775807))=true by rw[wL,wL,pV,pV];exact⟨rfl,hv⟩];rfl
  have e4:apa [UInt8.ofNat 48] ((10 - (fmt10 v).length:Nat):Int)=some (List.replicate (10 - (fmt10 v).length) 48):=by
   unfold apa
   rw[show band (ile 0 ((10 - (fmt10 v).length:Nat):Int)) (band (ile ((10 - (fmt10 v).length:Nat):Int) 9223372036854775807) (ile (dX (len [UInt8.ofNat 48]) ((10 - (fmt10 v).length:Nat):Int)) 140737488355328))=true by
    rw[wL,wL,pV,pV,pV];simp only[dX,len,List.length_singleton];omega]
   simp only[cnd,itn,Int.toNat_natCast]
   rw[show UInt8.ofNat 48=48 from rfl,afQ]
  rw[if_neg h,e1,e3]
  simp only[cnd,af,Option.bind_some,e2,e4]
  rw[show ile (aj 5 (len (List.replicate (10 - (fmt10 v).length) (48:UInt8)))) 68719476736=true by rw[pV];simp only[aj,len,List.length_replicate];omega]
  simp only
  rw[show ile (aj (len (dB [UInt8.ofNat 115,UInt8.ofNat 110,UInt8.ofNat 97,UInt8.ofNat 112,UInt8.ofNat 46] (List.replicate (10 - (fmt10 v).length) (48:UInt8)))) (len (fmt10 v))) 68719476736=true by rw[pV];simp only[aj,len,dB,List.length_append,List.length_replicate,List.length_cons,List.length_nil];omega]
  rfl
theorem aa9:dI PG 36 FC:=by
 refine aj6 (xs:=[.str]) (rs:=[.bool]) rfl rfl (ajL aP (by kernel_rfl)) fun(x:List UInt8) (y:Bool) w hrun hg=> ?_
 have hy:y=ay (ieq (Hu [115,110,97,112,46] x) 0):=(Option.some.inj hrun).symm
 subst hy
 show Calls PG 36 #[.string ⟨x.toArray⟩] w fun e w'=>e= .returned (.bool (ay (ieq (Hu [115,110,97,112,46] x) 0)))/\RowKit.Below w.heap.size w w'
 have hcut:=Go.Proofs.Any.strings_CutPrefix JO ⟨x.toArray⟩ ⟨#[115,110,97,112,46]⟩ w
 change Calls PG 90 #[.string ⟨x.toArray⟩,.string ⟨#[115,110,97,112,46]⟩] w (fun e w'=>e= .returned (.tuple #[.string ⟨(Go.Lib.trimPrefix x [115,110,97,112,46]).toArray⟩,.bool (Go.Lib.hasPrefix x [115,110,97,112,46])])/\w'=w)at hcut
 have nz:∀b:Bool,b=decide (Hu [115,110,97,112,46] x≠0)->ay (ieq (Hu [115,110,97,112,46] x) 0)=b:=fun b hb=>by
  rw[hb]
  by_cases h:Hu [115,110,97,112,46] x=0<;>simp [ay,ieq,h]
 cases hpf:Go.Lib.hasPrefix x [115,110,97,112,46]with
 |false=>
  rw[hpf]at hcut
  have hz:Hu [115,110,97,112,46] x=0:=if_neg fun g=>by
   have:Go.Lib.hasPrefix x [115,110,97,112,46]=true:=by
    unfold Go.Lib.hasPrefix
    rw[List.isPrefixOf_iff_prefix]
    exact⟨x.drop 5,by conv=>rhs;rw[<-List.take_append_drop 5 x,show x.take 5=_ from g.1]⟩
   rw[hpf]at this;cases this
  rw[hz]
  exact ai7 _ _ w hcut
 |true=>
  rw[hpf]at hcut
  have htk:x.take 5=[115,110,97,112,46]:=by
   unfold Go.Lib.hasPrefix at hpf
   rw[List.isPrefixOf_iff_prefix]at hpf
   obtain⟨r,rfl⟩:=hpf
   rfl
  rw[show Go.Lib.trimPrefix x [115,110,97,112,46]=x.drop 5 by unfold Go.Lib.trimPrefix;rw[if_pos hpf];rfl]at hcut
  by_cases hl:(x.drop 5).length=10
  ·have hsame:=aot [115,110,97,112,46] x htk (by simp) hl
   change (match Go.Lib.parseIntB 64 (x.drop 5)with | .ok v=>decide (Nj [115,110,97,112,46] v=x) | _=>false)=_ at hsame
   have hsz:(⟨(x.drop 5).toArray⟩:ByteArray).size=10:=by
    show(x.drop 5).toArray.size=10
    rw[List.size_toArray];exact hl
   cases hp:Go.Lib.parseIntB 64 (x.drop 5)with
   |ok v=>
    rw[hp]at hsame
    have h2:=(Go.Proofs.Any.strconv_ParseInt_10_at64_ok qx ⟨(x.drop 5).toArray⟩ (by rw[hsz];decide) v hp w).mono (R':=fun e w'=>e= .returned (.tuple #[.int .i64 v,.nilIface])/\RowKit.Below w.heap.size w w') fun e w' ⟨he,hw⟩=>⟨he,by
     rcases hw with rfl | ⟨t,rfl⟩
     ·exact RowKit.Below.refl _ _
     ·exact Go.Lib.bytesWorld_below _ _ _⟩
    have h3:∀w1,RowKit.Below w.heap.size w w1->Calls PG 17 #[.int .i64 v] w1 fun e w'=>e= .returned (.string ⟨(Nj [115,110,97,112,46] v).toArray⟩)/\RowKit.Below w1.heap.size w1 w':=fun w1 hb=>
     dI.calls (xs:=[.int .i64]) (r:= .str) aP (by kernel_rfl) GK rfl rfl v (Nj [115,110,97,112,46] v) (apf v (aoA hp)) w1 (hg.mono (fun b h=>Nat.lt_of_lt_of_le h hb.size) (fun b h=>hb.block b h))
    have:=ajj ⟨x.toArray⟩ ⟨(x.drop 5).toArray⟩ w v ⟨(Nj [115,110,97,112,46] v).toArray⟩ hcut hsz h2 h3
    rw[ByteArray.toList_eq,ByteArray.toList_eq]at this
    rw[nz _ hsame]
    refine this.mono fun e w' ⟨he,hb⟩=>⟨he.trans ?_,hb⟩
    congr 2
    simp only
    rw[Bool.eq_iff_iff];simp
   |«syntax»=>
    rw[hp]at hsame
    obtain⟨_,c,t,fr,hc,te,pe,rfl⟩:=hg (2,am8) (by simp [glL])
    have hcell:w.cell? ⟨2,0,none⟩=some (.iface te pe):=by unfold World.cell?;simp only[hc];rfl
    rw[nz _ hsame]
    refine ZP ⟨x.toArray⟩ ⟨(x.drop 5).toArray⟩ w _ _ (fun _=>True) hcut hsz ((Go.Proofs.Any.strconv_ParseInt_10_at64_syntax qx ⟨(x.drop 5).toArray⟩ (by rw[hsz];decide) hp _ w hcell (.inr ⟨te,pe,rfl⟩)).mono fun e w' ⟨N,he,_,_,hb⟩=>⟨_,he,hb⟩)
   |range=>
    rw[hp]at hsame
    obtain⟨_,c,t,fr,hc,te,pe,rfl⟩:=hg (3,am8) (by simp [glL])
    have hcell:w.cell? ⟨3,0,none⟩=some (.iface te pe):=by unfold World.cell?;simp only[hc];rfl
    rw[nz _ hsame]
    refine ZP ⟨x.toArray⟩ ⟨(x.drop 5).toArray⟩ w _ _ (fun _=>True) hcut hsz ((Go.Proofs.Any.strconv_ParseInt_10_at64_range qx ⟨(x.drop 5).toArray⟩ (by rw[hsz];decide) hp _ w hcell (.inr ⟨te,pe,rfl⟩)).mono fun e w' ⟨N,he,_,_,hb⟩=>⟨_,he,hb⟩)
  ·have hz:Hu [115,110,97,112,46] x=0:=if_neg fun g=>hl g.2.1
   rw[hz]
   refine ahC _ _ w hcut fun g=>hl ?_
   have g:(x.drop 5).toArray.size=10:=g
   rwa[List.size_toArray]at g
def Qa:LSh:=⟨304,[(72,.int .i64),(71,.ro .file)],[(11,.mp 336 0),(10,.mp 304 0)],[(304,[.int .i64])],[(73,.int .i64)],[(336,[.val .keeper])],[]⟩
@[reducible] def QA:List fO:=[⟨.exit 1,[],[(336,[.val .keeper])],[]⟩]
def aX (p0:Int) (p1:(List aF)) (p2:Int) (v0:Int) (v1:dJ):Option ((Int×dJ) ⊕ ((dJ))):=cnd (ilt v0 p0) (cnd (band (ile 0 v0) (ilt v0 (len p1))) (af (yQ (ai p1 (itn v0)).name) fun y0=>af (cnd y0 (dV p2) (some [])) fun y1=>cnd (band y0 (ay (seq (ai p1 (itn v0)).name y1))) (cnd (ieq v1.e 0) (af (uT v1.d (ai p1 (itn v0)).name) fun y2=>some (Sum.inl (wr .i64 (aj v0 1),dJ.mk y2.fst y2.snd))) (some (Sum.inl (wr .i64 (aj v0 1),v1)))) (some (Sum.inl (wr .i64 (aj v0 1),v1)))) none) (some (Sum.inr v1))
def OI:dU:=Qa.spec QA [74,75,76,15,77,78,79,80,81,82,83,84,85,86,87,88,89,90,91,73] (fun p v=>aX p.1 p.2.1 p.2.2 v.1 v.2)
def uK (x0:au) (x1:ax):Option (au×Int×Int):=af (wR x1) fun y0=>cnd (ay (ieq y0.snd 0)) (some (x0,0,1)) (af (xg x0) fun y1=>cnd (ieq y1.snd 1) (some (x0,0,y1.snd)) (cnd (ieq y1.snd 9) (some (x0,0,y1.snd)) (cnd (ile 1000000000 y1.fst.gen) (some (x0,0,3)) (af (nP x0 [(UInt8.ofNat 116),(UInt8.ofNat 109),(UInt8.ofNat 112)]) fun y2=>cnd (ieq y2.snd 0) (af (uT x0 [(UInt8.ofNat 116),(UInt8.ofNat 109),(UInt8.ofNat 112)]) fun y3=>cnd (ieq y3.snd 0) (af (jD y3.fst [(UInt8.ofNat 116),(UInt8.ofNat 109),(UInt8.ofNat 112)] y0.fst) fun y4=>cnd (ieq y4.snd 0) (af (kX y4.fst [(UInt8.ofNat 116),(UInt8.ofNat 109),(UInt8.ofNat 112)]) fun y5=>cnd (ieq y5.snd 0) (af (dV (wr .i64 (aj y1.fst.gen 1))) fun y6=>af (mF y5.fst [(UInt8.ofNat 116),(UInt8.ofNat 109),(UInt8.ofNat 112)] y6) fun y7=>cnd (ieq y7.snd 0) (af (iY y7.fst (dw.mk (wr .i64 (aj y1.fst.gen 1)) x1.lsn)) fun y8=>af (bD (fun v=>aX (len y8.fst.files) y8.fst.files (wr .i64 (aj y1.fst.gen 1)) v.fst v.snd) LF (0,dJ.mk y8.fst y8.snd)) fun y9=>cnd (ay (ieq y9.e 0)) (some (y9.d,0,y9.e)) (some (y9.d,wr .i64 (aj y1.fst.gen 1),0))) (af (bD (fun v=>aX (len y7.fst.files) y7.fst.files (wr .i64 (aj y1.fst.gen 1)) v.fst v.snd) LF (0,dJ.mk y7.fst y7.snd)) fun y10=>cnd (ay (ieq y10.e 0)) (some (y10.d,0,y10.e)) (some (y10.d,wr .i64 (aj y1.fst.gen 1),0)))) (cnd (ieq y5.snd 0) (af (iY y5.fst (dw.mk (wr .i64 (aj y1.fst.gen 1)) x1.lsn)) fun y11=>af (bD (fun v=>aX (len y11.fst.files) y11.fst.files (wr .i64 (aj y1.fst.gen 1)) v.fst v.snd) LF (0,dJ.mk y11.fst y11.snd)) fun y12=>cnd (ay (ieq y12.e 0)) (some (y12.d,0,y12.e)) (some (y12.d,wr .i64 (aj y1.fst.gen 1),0))) (af (bD (fun v=>aX (len y5.fst.files) y5.fst.files (wr .i64 (aj y1.fst.gen 1)) v.fst v.snd) LF (0,dJ.mk y5.fst y5.snd)) fun y13=>cnd (ay (ieq y13.e 0)) (some (y13.d,0,y13.e)) (some (y13.d,wr .i64 (aj y1.fst.gen 1),0))))) (cnd (ieq y4.snd 0) (af (dV (wr .i64 (aj y1.fst.gen 1))) fun y14=>af (mF y4.fst [(UInt8.ofNat 116),(UInt8.ofNat 109),(UInt8.ofNat 112)] y14) fun y15=>cnd (ieq y15.snd 0) (af (iY y15.fst (dw.mk (wr .i64 (aj y1.fst.gen 1)) x1.lsn)) fun y16=>af (bD (fun v=>aX (len y16.fst.files) y16.fst.files (wr .i64 (aj y1.fst.gen 1)) v.fst v.snd) LF (0,dJ.mk y16.fst y16.snd)) fun y17=>cnd (ay (ieq y17.e 0)) (some (y17.d,0,y17.e)) (some (y17.d,wr .i64 (aj y1.fst.gen 1),0))) (af (bD (fun v=>aX (len y15.fst.files) y15.fst.files (wr .i64 (aj y1.fst.gen 1)) v.fst v.snd) LF (0,dJ.mk y15.fst y15.snd)) fun y18=>cnd (ay (ieq y18.e 0)) (some (y18.d,0,y18.e)) (some (y18.d,wr .i64 (aj y1.fst.gen 1),0)))) (cnd (ieq y4.snd 0) (af (iY y4.fst (dw.mk (wr .i64 (aj y1.fst.gen 1)) x1.lsn)) fun y19=>af (bD (fun v=>aX (len y19.fst.files) y19.fst.files (wr .i64 (aj y1.fst.gen 1)) v.fst v.snd) LF (0,dJ.mk y19.fst y19.snd)) fun y20=>cnd (ay (ieq y20.e 0)) (some (y20.d,0,y20.e)) (some (y20.d,wr .i64 (aj y1.fst.gen 1),0))) (af (bD (fun v=>aX (len y4.fst.files) y4.fst.files (wr .i64 (aj y1.fst.gen 1)) v.fst v.snd) LF (0,dJ.mk y4.fst y4.snd)) fun y21=>cnd (ay (ieq y21.e 0)) (some (y21.d,0,y21.e)) (some (y21.d,wr .i64 (aj y1.fst.gen 1),0)))))) (cnd (ieq y3.snd 0) (af (kX y3.fst [(UInt8.ofNat 116),(UInt8.ofNat 109),(UInt8.ofNat 112)]) fun y22=>cnd (ieq y22.snd 0) (af (dV (wr .i64 (aj y1.fst.gen 1))) fun y23=>af (mF y22.fst [(UInt8.ofNat 116),(UInt8.ofNat 109),(UInt8.ofNat 112)] y23) fun y24=>cnd (ieq y24.snd 0) (af (iY y24.fst (dw.mk (wr .i64 (aj y1.fst.gen 1)) x1.lsn)) fun y25=>af (bD (fun v=>aX (len y25.fst.files) y25.fst.files (wr .i64 (aj y1.fst.gen 1)) v.fst v.snd) LF (0,dJ.mk y25.fst y25.snd)) fun y26=>cnd (ay (ieq y26.e 0)) (some (y26.d,0,y26.e)) (some (y26.d,wr .i64 (aj y1.fst.gen 1),0))) (af (bD (fun v=>aX (len y24.fst.files) y24.fst.files (wr .i64 (aj y1.fst.gen 1)) v.fst v.snd) LF (0,dJ.mk y24.fst y24.snd)) fun y27=>cnd (ay (ieq y27.e 0)) (some (y27.d,0,y27.e)) (some (y27.d,wr .i64 (aj y1.fst.gen 1),0)))) (cnd (ieq y22.snd 0) (af (iY y22.fst (dw.mk (wr .i64 (aj y1.fst.gen 1)) x1.lsn)) fun y28=>af (bD (fun v=>aX (len y28.fst.files) y28.fst.files (wr .i64 (aj y1.fst.gen 1)) v.fst v.snd) LF (0,dJ.mk y28.fst y28.snd)) fun y29=>cnd (ay (ieq y29.e 0)) (some (y29.d,0,y29.e)) (some (y29.d,wr .i64 (aj y1.fst.gen 1),0))) (af (bD (fun v=>aX (len y22.fst.files) y22.fst.files (wr .i64 (aj y1.fst.gen 1)) v.fst v.snd) LF (0,dJ.mk y22.fst y22.snd)) fun y30=>cnd (ay (ieq y30.e 0)) (some (y30.d,0,y30.e)) (some (y30.d,wr .i64 (aj y1.fst.gen 1),0))))) (cnd (ieq y3.snd 0) (af (dV (wr .i64 (aj y1.fst.gen 1))) fun y31=>af (mF y3.fst [(UInt8.ofNat 116),(UInt8.ofNat 109),(UInt8.ofNat 112)] y31) fun y32=>cnd (ieq y32.snd 0) (af (iY y32.fst (dw.mk (wr .i64 (aj y1.fst.gen 1)) x1.lsn)) fun y33=>af (bD (fun v=>aX (len y33.fst.files) y33.fst.files (wr .i64 (aj y1.fst.gen 1)) v.fst v.snd) LF (0,dJ.mk y33.fst y33.snd)) fun y34=>cnd (ay (ieq y34.e 0)) (some (y34.d,0,y34.e)) (some (y34.d,wr .i64 (aj y1.fst.gen 1),0))) (af (bD (fun v=>aX (len y32.fst.files) y32.fst.files (wr .i64 (aj y1.fst.gen 1)) v.fst v.snd) LF (0,dJ.mk y32.fst y32.snd)) fun y35=>cnd (ay (ieq y35.e 0)) (some (y35.d,0,y35.e)) (some (y35.d,wr .i64 (aj y1.fst.gen 1),0)))) (cnd (ieq y3.snd 0) (af (iY y3.fst (dw.mk (wr .i64 (aj y1.fst.gen 1)) x1.lsn)) fun y36=>af (bD (fun v=>aX (len y36.fst.files) y36.fst.files (wr .i64 (aj y1.fst.gen 1)) v.fst v.snd) LF (0,dJ.mk y36.fst y36.snd)) fun y37=>cnd (ay (ieq y37.e 0)) (some (y37.d,0,y37.e)) (some (y37.d,wr .i64 (aj y1.fst.gen 1),0))) (af (bD (fun v=>aX (len y3.fst.files) y3.fst.files (wr .i64 (aj y1.fst.gen 1)) v.fst v.snd) LF (0,dJ.mk y3.fst y3.snd)) fun y38=>cnd (ay (ieq y38.e 0)) (some (y38.d,0,y38.e)) (some (y38.d,wr .i64 (aj y1.fst.gen 1),0))))))) (af (jD x0 [(UInt8.ofNat 116),(UInt8.ofNat 109),(UInt8.ofNat 112)] y0.fst) fun y39=>cnd (ieq y39.snd 0) (af (kX y39.fst [(UInt8.ofNat 116),(UInt8.ofNat 109),(UInt8.ofNat 112)]) fun y40=>cnd (ieq y40.snd 0) (af (dV (wr .i64 (aj y1.fst.gen 1))) fun y41=>af (mF y40.fst [(UInt8.ofNat 116),(UInt8.ofNat 109),(UInt8.ofNat 112)] y41) fun y42=>cnd (ieq y42.snd 0) (af (iY y42.fst (dw.mk (wr .i64 (aj y1.fst.gen 1)) x1.lsn)) fun y43=>af (bD (fun v=>aX (len y43.fst.files) y43.fst.files (wr .i64 (aj y1.fst.gen 1)) v.fst v.snd) LF (0,dJ.mk y43.fst y43.snd)) fun y44=>cnd (ay (ieq y44.e 0)) (some (y44.d,0,y44.e)) (some (y44.d,wr .i64 (aj y1.fst.gen 1),0))) (af (bD (fun v=>aX (len y42.fst.files) y42.fst.files (wr .i64 (aj y1.fst.gen 1)) v.fst v.snd) LF (0,dJ.mk y42.fst y42.snd)) fun y45=>cnd (ay (ieq y45.e 0)) (some (y45.d,0,y45.e)) (some (y45.d,wr .i64 (aj y1.fst.gen 1),0)))) (cnd (ieq y40.snd 0) (af (iY y40.fst (dw.mk (wr .i64 (aj y1.fst.gen 1)) x1.lsn)) fun y46=>af (bD (fun v=>aX (len y46.fst.files) y46.fst.files (wr .i64 (aj y1.fst.gen 1)) v.fst v.snd) LF (0,dJ.mk y46.fst y46.snd)) fun y47=>cnd (ay (ieq y47.e 0)) (some (y47.d,0,y47.e)) (some (y47.d,wr .i64 (aj y1.fst.gen 1),0))) (af (bD (fun v=>aX (len y40.fst.files) y40.fst.files (wr .i64 (aj y1.fst.gen 1)) v.fst v.snd) LF (0,dJ.mk y40.fst y40.snd)) fun y48=>cnd (ay (ieq y48.e 0)) (some (y48.d,0,y48.e)) (some (y48.d,wr .i64 (aj y1.fst.gen 1),0))))) (cnd (ieq y39.snd 0) (af (dV (wr .i64 (aj y1.fst.gen 1))) fun y49=>af (mF y39.fst [(UInt8.ofNat 116),(UInt8.ofNat 109),(UInt8.ofNat 112)] y49) fun y50=>cnd (ieq y50.snd 0) (af (iY y50.fst (dw.mk (wr .i64 (aj y1.fst.gen 1)) x1.lsn)) fun y51=>af (bD (fun v=>aX (len y51.fst.files) y51.fst.files (wr .i64 (aj y1.fst.gen 1)) v.fst v.snd) LF (0,dJ.mk y51.fst y51.snd)) fun y52=>cnd (ay (ieq y52.e 0)) (some (y52.d,0,y52.e)) (some (y52.d,wr .i64 (aj y1.fst.gen 1),0))) (af (bD (fun v=>aX (len y50.fst.files) y50.fst.files (wr .i64 (aj y1.fst.gen 1)) v.fst v.snd) LF (0,dJ.mk y50.fst y50.snd)) fun y53=>cnd (ay (ieq y53.e 0)) (some (y53.d,0,y53.e)) (some (y53.d,wr .i64 (aj y1.fst.gen 1),0)))) (cnd (ieq y39.snd 0) (af (iY y39.fst (dw.mk (wr .i64 (aj y1.fst.gen 1)) x1.lsn)) fun y54=>af (bD (fun v=>aX (len y54.fst.files) y54.fst.files (wr .i64 (aj y1.fst.gen 1)) v.fst v.snd) LF (0,dJ.mk y54.fst y54.snd)) fun y55=>cnd (ay (ieq y55.e 0)) (some (y55.d,0,y55.e)) (some (y55.d,wr .i64 (aj y1.fst.gen 1),0))) (af (bD (fun v=>aX (len y39.fst.files) y39.fst.files (wr .i64 (aj y1.fst.gen 1)) v.fst v.snd) LF (0,dJ.mk y39.fst y39.snd)) fun y56=>cnd (ay (ieq y56.e 0)) (some (y56.d,0,y56.e)) (some (y56.d,wr .i64 (aj y1.fst.gen 1),0))))))))))
noncomputable def VP:Cx:={ P:=PG,ety:=ety,fn:=look [(24,Om),(25,vY),(21,qh),(75,Ls),(29,zf),(31,DU),(17,oI),(33,KZ),(35,NU),(36,FC)],inl:=dR [4095,26,74,27,28,30,32,34],lp:=aS [(10,65530,OI)] }
theorem XK (p0:Int) (p1:(List aF)) (p2:Int) (v0:Int) (v1:dJ):fC VP 900 10 65530 (dK PG 10 65530) Qa QA (p0,p1,p2) (v0,v1)=aX p0 p1 p2 v0 v1:=by kernel_rfl
theorem aeC (x0:au) (x1:ax):bP VP 10 [.val .disk,.val .state] [.val .disk,.int .i64,.int .i64] (x0,x1)=uK x0 x1:=by kernel_rfl
def Bd:aO:=mkSpec [.val .disk,.val .state] [.val .disk,.int .i64,.int .i64] false (fun x=>uK x.1 x.2)
theorem aai:dI PG 10 Bd:=
 have K:CxR VP:=aP.cx (fun _=>rfl) (l:=[(24,Om),(25,vY),(21,qh),(75,Ls),(29,zf),(31,DU),(17,oI),(33,KZ),(35,NU),(36,FC)]) ⟨ahw,Vg,O6,ags,Ya,ab7,GK,af4,ahx,aa9,trivial⟩
 aH K (aG (l:=[(10,65530,OI)]) rfl ⟨bF (n:=900) (f:=10) K (by kernel_rfl) (by kernel_rfl) (by kernel_rfl) (by kernel_rfl) (by kernel_rfl) (fun p v r h=>(XK p.1 p.2.1 p.2.2 v.1 v.2).trans h),trivial⟩) (by kernel_rfl) (fun x y h=>(aeC x.1 x.2).trans h) rfl rfl
end
end Go.Av
