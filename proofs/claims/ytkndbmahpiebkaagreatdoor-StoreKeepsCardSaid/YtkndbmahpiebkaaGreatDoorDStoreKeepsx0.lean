/- The functions that this claim reaches, each as a plain function; each is what its text comes to. No condition. -/
import Derived.Test.YtkndbmahpiebkaaGreatDoorAvE
import Derived.Test.YtkndbmahpiebkaaGreatDoorProg
import Derived.KernelRfl
import Derived.Shelf.Small.Wraps
import Derived.Shelf.Strconv.ParseIntPublic10
import Derived.WalkKit
set_option linter.unusedVariables false
set_option linter.unusedSimpArgs false
set_option linter.unnecessarySimpa false
namespace Go.Av
open Go
def aom:List (Nat×E):=[(2,.i64),(3,.i64),(4,.bool),(5,.u8),(6,.u8),(9,.str),(10,.str),(11,.str),(24,.disk),(30,.state),(34,.i64),(51,.bts),(53,.file),(61,.expo),(64,.recd),(68,.slot),(73,.keeper),(95,.order),(97,.cell),(101,.state),(132,.a20),(159,.reader),(198,.note),(251,.i64),(270,.a3),(292,.u8),(293,.u8)]
def ety (t:Nat):Option E:=look aom t
noncomputable abbrev PG:Program:=Go.Proofs.Tryz.prog
end Go.Av
namespace Go.Av
open Go
noncomputable section
theorem anW:EOk PG 2 .i64:=mQ (by kernel_rfl) (by kernel_rfl)
theorem aoJ:EOk PG 3 .i64:=mQ (by kernel_rfl) (by kernel_rfl)
theorem aoG:EOk PG 4 .bool:=mQ (by kernel_rfl) (by kernel_rfl)
theorem aob:EOk PG 5 .u8:=mQ (by kernel_rfl) (by kernel_rfl)
theorem aoT:EOk PG 6 .u8:=mQ (by kernel_rfl) (by kernel_rfl)
theorem aov:EOk PG 9 .str:=mQ (by kernel_rfl) (by kernel_rfl)
theorem amO:EOk PG 10 .str:=mQ (by kernel_rfl) (by kernel_rfl)
theorem anx:EOk PG 11 .str:=mQ (by kernel_rfl) (by kernel_rfl)
theorem anC:EOk PG 24 .disk:=mQ (by kernel_rfl) (by kernel_rfl)
theorem amK:EOk PG 30 .state:=mQ (by kernel_rfl) (by kernel_rfl)
theorem ank:EOk PG 34 .i64:=mQ (by kernel_rfl) (by kernel_rfl)
theorem anP:EOk PG 51 .bts:=mQ (by kernel_rfl) (by kernel_rfl)
theorem anq:EOk PG 53 .file:=mQ (by kernel_rfl) (by kernel_rfl)
theorem anO:EOk PG 61 .expo:=mQ (by kernel_rfl) (by kernel_rfl)
theorem amY:EOk PG 64 .recd:=mQ (by kernel_rfl) (by kernel_rfl)
theorem ant:EOk PG 68 .slot:=mQ (by kernel_rfl) (by kernel_rfl)
theorem anM:EOk PG 73 .keeper:=mQ (by kernel_rfl) (by kernel_rfl)
theorem amV:EOk PG 95 .order:=mQ (by kernel_rfl) (by kernel_rfl)
theorem anR:EOk PG 97 .cell:=mQ (by kernel_rfl) (by kernel_rfl)
theorem alR:EOk PG 101 .state:=mQ (by kernel_rfl) (by kernel_rfl)
theorem alK:EOk PG 132 .a20:=mQ (by kernel_rfl) (by kernel_rfl)
theorem alH:EOk PG 159 .reader:=mQ (by kernel_rfl) (by kernel_rfl)
theorem ale:EOk PG 198 .note:=mQ (by kernel_rfl) (by kernel_rfl)
theorem alp:EOk PG 251 .i64:=mQ (by kernel_rfl) (by kernel_rfl)
theorem alJ:EOk PG 270 .a3:=mQ (by kernel_rfl) (by kernel_rfl)
theorem amo:EOk PG 292 .u8:=mQ (by kernel_rfl) (by kernel_rfl)
theorem ak2:EOk PG 293 .u8:=mQ (by kernel_rfl) (by kernel_rfl)
theorem aX:FP PG aom:=⟨by kernel_rfl,⟨anW,aoJ,aoG,aob,aoT,aov,amO,anx,anC,amK,ank,anP,anq,anO,amY,ant,anM,amV,anR,alR,alK,alH,ale,alp,alJ,amo,ak2,trivial⟩,by kernel_rfl,by kernel_rfl,by kernel_rfl⟩
end
end Go.Av
namespace Go.Av
open Go
noncomputable section
def Ii (x0:Int) (x1:Int):Option (Int×Int):=some (wr .u32 (cZ .u64 (wr .u64 (jr (wr .u64 x0) (wr .u64 x1))) 32),wr .u32 (wr .u64 (jr (wr .u64 x0) (wr .u64 x1))))
noncomputable def Ic:Cx:={ P:=PG,ety:=ety,fn:=look [],inl:=eU [],lp:=aY [] }
theorem NM (x0:Int) (x1:Int):bP Ic 175 [.int .u32,.int .u32] [.int .u32,.int .u32] (x0,x1)=Ii x0 x1:=by kernel_rfl
def wG:aV:=mkSpec [.int .u32,.int .u32] [.int .u32,.int .u32] true (fun x=>Ii x.1 x.2)
theorem Rn:dJ PG 175 wG:=
 have K:CxR Ic:=aX.cx (fun _=>rfl) (l:=[]) trivial
 aJ K (aI (l:=[]) rfl trivial) (by kernel_rfl) (fun x y h=>(NM x.1 x.2).trans h) rfl rfl
def oH (x0:Int) (x1:Int):Option (Int×Int):=some (wr .u64 (ak (wr .u64 (ak (wr .u64 (jr (cZ .u64 x0 32) (cZ .u64 x1 32))) (cZ .u64 (wr .u64 (ak (wr .u64 (jr (cZ .u64 x0 32) (wr .u64 (nO .u64 x1 4294967295)))) (cZ .u64 (wr .u64 (jr (wr .u64 (nO .u64 x0 4294967295)) (wr .u64 (nO .u64 x1 4294967295)))) 32))) 32))) (cZ .u64 (wr .u64 (ak (wr .u64 (nO .u64 (wr .u64 (ak (wr .u64 (jr (cZ .u64 x0 32) (wr .u64 (nO .u64 x1 4294967295)))) (cZ .u64 (wr .u64 (jr (wr .u64 (nO .u64 x0 4294967295)) (wr .u64 (nO .u64 x1 4294967295)))) 32))) 4294967295)) (wr .u64 (jr (wr .u64 (nO .u64 x0 4294967295)) (cZ .u64 x1 32))))) 32)),wr .u64 (jr x0 x1))
noncomputable def H8:Cx:={ P:=PG,ety:=ety,fn:=look [],inl:=eU [],lp:=aY [] }
theorem Oh (x0:Int) (x1:Int):bP H8 176 [.int .u64,.int .u64] [.int .u64,.int .u64] (x0,x1)=oH x0 x1:=by kernel_rfl
def nV:aV:=mkSpec [.int .u64,.int .u64] [.int .u64,.int .u64] true (fun x=>oH x.1 x.2)
theorem GH:dJ PG 176 nV:=
 have K:CxR H8:=aX.cx (fun _=>rfl) (l:=[]) trivial
 aJ K (aI (l:=[]) rfl trivial) (by kernel_rfl) (fun x y h=>(Oh x.1 x.2).trans h) rfl rfl
def yY (x0:Int) (x1:Int):Option (Int×Int):=af (oH x0 x1) fun y0 => some y0
noncomputable def L9:Cx:={ P:=PG,ety:=ety,fn:=look [(175,wG),(176,nV)],inl:=eU [],lp:=aY [] }
theorem Rf (x0:Int) (x1:Int):bP L9 114 [.int .u64,.int .u64] [.int .u64,.int .u64] (x0,x1)=yY x0 x1:=by kernel_rfl
def qh:aV:=mkSpec [.int .u64,.int .u64] [.int .u64,.int .u64] true (fun x=>yY x.1 x.2)
theorem JD:dJ PG 114 qh:=
 have K:CxR L9:=aX.cx (fun _=>rfl) (l:=[(175,wG),(176,nV)]) ⟨Rn,GH,trivial⟩
 aJ K (aI (l:=[]) rfl trivial) (by kernel_rfl) (fun x y h=>(Rf x.1 x.2).trans h) rfl rfl
def uZ:LSh:=⟨94,[],[(7,.mf 192)],[],[(8,.int .i64)],[],[(192,.expo)]⟩
@[reducible] def vg:List iQ:=[⟨.exit 0,[],[],[(192,.expo)]⟩]
def oI (v0:Int) (v1:(List dP)):Option ((Int×(List dP)) ⊕ (((List dP)))):=cnd (ilt v0 (len v1)) (cnd (band (ile 0 v0) (ile v0 (len v1))) (cnd (band (ile 0 v0) (ile v0 (len v1))) (some (Sum.inl (wr .i64 (ak v0 (kH (len (aB (aH v1 0) (itn v0))) (nti (itn (aF (len v1) v0))))),dY v1 (itn v0) (aB (aB (aH v1 0) (itn v0)) (itn (kH (len (aB (aH v1 0) (itn v0))) (nti (itn (aF (len v1) v0))))))))) none) none) (some (Sum.inr v1))
def tC:iF:=uZ.spec vg [34,35,36,37,38,39,40,41,42,43,44,45,46,8] (fun p v=>oI v.1 v.2)
def rE (x0:(List dP)) (x1:Int):Option ((List dP)):=cnd (ilt x1 0) none (af (yY (wr .u64 (len x0)) (wr .u64 x1)) fun y0 => cnd (bor (ilt 0 y0.fst) (ilt 9223372036854775807 y0.snd)) none (cnd (band (band (ile 0 (wr .i64 y0.snd)) (ile (wr .i64 y0.snd) (wr .i64 y0.snd))) (ile (wr .i64 y0.snd) 68719476736)) (af (bF (fun v => oI v.fst v.snd) LF (kH (len x0) (len (ja dP (itn (wr .i64 y0.snd)))),dY (ja dP (itn (wr .i64 y0.snd))) 0 (aB x0 (itn (kH (len x0) (len (ja dP (itn (wr .i64 y0.snd))))))))) fun y1 => some y1) none))
noncomputable def rJ:Cx:={ P:=PG,ety:=ety,fn:=look [(114,qh)],inl:=eU [],lp:=aY [(57,508,tC)] }
theorem BB (v0:Int) (v1:(List dP)):jW rJ 900 57 508 (gJ PG 57 508) uZ vg () (v0,v1)=oI v0 v1:=by kernel_rfl
theorem Fb (x0:(List dP)) (x1:Int):bP rJ 57 [.ro .expo,.int .i64] [.buf .expo] (x0,x1)=rE x0 x1:=by kernel_rfl
def oZ:aV:=mkSpec [.ro .expo,.int .i64] [.buf .expo] true (fun x=>rE x.1 x.2)
theorem Hw:dJ PG 57 oZ:=
 have K:CxR rJ:=aX.cx (fun _=>rfl) (l:=[(114,qh)]) ⟨JD,trivial⟩
 aJ K (aI (l:=[(57,508,tC)]) rfl ⟨dN (n:=900) (f:=57) K (by kernel_rfl) (by kernel_rfl) (by kernel_rfl) (by kernel_rfl) (by kernel_rfl) (fun p v r h=>(BB v.1 v.2).trans h),trivial⟩) (by kernel_rfl) (fun x y h=>(Fb x.1 x.2).trans h) rfl rfl
def xP:LSh:=⟨94,[],[(7,.mf 192)],[],[(8,.int .i64)],[],[(192,.i64)]⟩
@[reducible] def xU:List iQ:=[⟨.exit 0,[],[],[(192,.i64)]⟩]
def qF (v0:Int) (v1:(List Int)):Option ((Int×(List Int)) ⊕ (((List Int)))):=cnd (ilt v0 (len v1)) (cnd (band (ile 0 v0) (ile v0 (len v1))) (cnd (band (ile 0 v0) (ile v0 (len v1))) (some (Sum.inl (wr .i64 (ak v0 (kH (len (aB (aH v1 0) (itn v0))) (nti (itn (aF (len v1) v0))))),dY v1 (itn v0) (aB (aB (aH v1 0) (itn v0)) (itn (kH (len (aB (aH v1 0) (itn v0))) (nti (itn (aF (len v1) v0))))))))) none) none) (some (Sum.inr v1))
def wZ:iF:=xP.spec xU [34,35,36,37,38,39,40,41,42,43,44,45,46,8] (fun p v=>qF v.1 v.2)
def vO (x0:(List Int)) (x1:Int):Option ((List Int)):=cnd (ilt x1 0) none (af (yY (wr .u64 (len x0)) (wr .u64 x1)) fun y0 => cnd (bor (ilt 0 y0.fst) (ilt 9223372036854775807 y0.snd)) none (cnd (band (band (ile 0 (wr .i64 y0.snd)) (ile (wr .i64 y0.snd) (wr .i64 y0.snd))) (ile (wr .i64 y0.snd) 68719476736)) (af (bF (fun v => qF v.fst v.snd) LF (kH (len x0) (len (ja Int (itn (wr .i64 y0.snd)))),dY (ja Int (itn (wr .i64 y0.snd))) 0 (aB x0 (itn (kH (len x0) (len (ja Int (itn (wr .i64 y0.snd))))))))) fun y1 => some y1) none))
noncomputable def vK:Cx:={ P:=PG,ety:=ety,fn:=look [(114,qh)],inl:=eU [],lp:=aY [(58,508,wZ)] }
theorem Ez (v0:Int) (v1:(List Int)):jW vK 900 58 508 (gJ PG 58 508) xP xU () (v0,v1)=qF v0 v1:=by kernel_rfl
theorem Jc (x0:(List Int)) (x1:Int):bP vK 58 [.ro .i64,.int .i64] [.buf .i64] (x0,x1)=vO x0 x1:=by kernel_rfl
def rG:aV:=mkSpec [.ro .i64,.int .i64] [.buf .i64] true (fun x=>vO x.1 x.2)
theorem KP:dJ PG 58 rG:=
 have K:CxR vK:=aX.cx (fun _=>rfl) (l:=[(114,qh)]) ⟨JD,trivial⟩
 aJ K (aI (l:=[(58,508,wZ)]) rfl ⟨dN (n:=900) (f:=58) K (by kernel_rfl) (by kernel_rfl) (by kernel_rfl) (by kernel_rfl) (by kernel_rfl) (fun p v r h=>(Ez v.1 v.2).trans h),trivial⟩) (by kernel_rfl) (fun x y h=>(Jc x.1 x.2).trans h) rfl rfl
def oN (x0:aj):Option (Bool):=some (band (band (band (band (band (band (band (ile 1 x0.accounts) (ile x0.accounts 8)) (ile 1 x0.symbols)) (ile x0.symbols 8)) (ieq (len x0.cells) (wr .i64 (jr x0.accounts x0.symbols)))) (ieq (len x0.limits) (len x0.cells))) (ieq (len x0.caps) x0.accounts)) (ile (len x0.orders) 64))
noncomputable def ED:Cx:={ P:=PG,ety:=ety,fn:=look [],inl:=eU [],lp:=aY [] }
theorem KC (x0:aj):bP ED 120 [.val .state] [.bool] x0=oN x0:=by kernel_rfl
def uq:aV:=mkSpec [.val .state] [.bool] true (fun x=>oN x)
theorem Nc:dJ PG 120 uq:=
 have K:CxR ED:=aX.cx (fun _=>rfl) (l:=[]) trivial
 aJ K (aI (l:=[]) rfl trivial) (by kernel_rfl) (fun x y h=>(KC x).trans h) rfl rfl
def je (x0:aG):Option (Bool):=some (bor (aC (ieq x0.newQty 0)) (aC (ieq x0.newPrice 0)))
noncomputable def L8:Cx:={ P:=PG,ety:=ety,fn:=look [],inl:=eU [],lp:=aY [] }
theorem Q5 (x0:aG):bP L8 194 [.val .order] [.bool] x0=je x0:=by kernel_rfl
def kW:aV:=mkSpec [.val .order] [.bool] true (fun x=>je x)
theorem CP:dJ PG 194 kW:=
 have K:CxR L8:=aX.cx (fun _=>rfl) (l:=[]) trivial
 aJ K (aI (l:=[]) rfl trivial) (by kernel_rfl) (fun x y h=>(Q5 x).trans h) rfl rfl
def ES (x0:vT):Option (vT):=cnd (ieq x0.kind 1) (some (vT.mk x0.kind x0.order x0.account x0.symbol x0.side x0.qty x0.price 0 0 0 false 0 0)) (cnd (ieq x0.kind 2) (some (vT.mk x0.kind x0.order 0 0 0 x0.qty x0.price 0 0 0 false 0 0)) (cnd (ieq x0.kind 3) (some (vT.mk x0.kind x0.order 0 0 0 0 0 0 0 0 false 0 0)) (cnd (ieq x0.kind 4) (some (vT.mk x0.kind 0 x0.account x0.symbol 0 0 0 x0.long x0.short x0.opn false 0 0)) (cnd (ieq x0.kind 5) (some (vT.mk x0.kind 0 0 0 0 0 0 0 0 0 x0.on 0 0)) (cnd (ieq x0.kind 6) (some (vT.mk x0.kind x0.order 0 0 0 x0.qty x0.price 0 0 0 false x0.seq x0.what)) (some (vT.mk x0.kind 0 0 0 0 0 0 0 0 0 false 0 0)))))))
noncomputable def RQ:Cx:={ P:=PG,ety:=ety,fn:=look [],inl:=eU [],lp:=aY [] }
theorem WC (x0:vT):bP RQ 127 [.val .recd] [.val .recd] x0=ES x0:=by kernel_rfl
def Eb:aV:=mkSpec [.val .recd] [.val .recd] true (fun x=>ES x)
theorem Z7:dJ PG 127 Eb:=
 have K:CxR RQ:=aX.cx (fun _=>rfl) (l:=[]) trivial
 aJ K (aI (l:=[]) rfl trivial) (by kernel_rfl) (fun x y h=>(WC x).trans h) rfl rfl
def lV (x0:Int):Option (Bool):=some (band (ile 1 x0) (ile x0 1000000000000))
noncomputable def Vy:Cx:={ P:=PG,ety:=ety,fn:=look [],inl:=eU [],lp:=aY [] }
theorem XW (x0:Int):bP Vy 128 [.int .i64] [.bool] x0=lV x0:=by kernel_rfl
def wU:aV:=mkSpec [.int .i64] [.bool] true (fun x=>lV x)
theorem TY:dJ PG 128 wU:=
 have K:CxR Vy:=aX.cx (fun _=>rfl) (l:=[]) trivial
 aJ K (aI (l:=[]) rfl trivial) (by kernel_rfl) (fun x y h=>(XW x).trans h) rfl rfl
def oq (x0:Int) (x1:Int):Option (Bool):=some (band (ile 0 x0) (ilt x0 x1))
noncomputable def VT:Cx:={ P:=PG,ety:=ety,fn:=look [],inl:=eU [],lp:=aY [] }
theorem Xt (x0:Int) (x1:Int):bP VT 129 [.int .i64,.int .i64] [.bool] (x0,x1)=oq x0 x1:=by kernel_rfl
def GI:aV:=mkSpec [.int .i64,.int .i64] [.bool] true (fun x=>oq x.1 x.2)
theorem acF:dJ PG 129 GI:=
 have K:CxR VT:=aX.cx (fun _=>rfl) (l:=[]) trivial
 aJ K (aI (l:=[]) rfl trivial) (by kernel_rfl) (fun x y h=>(Xt x.1 x.2).trans h) rfl rfl
def nM (x0:vT):Option (Bool):=some (band (ile 1 x0.qty) (ile 1 x0.price))
noncomputable def V6:Cx:={ P:=PG,ety:=ety,fn:=look [],inl:=eU [],lp:=aY [] }
theorem YQ (x0:vT):bP V6 130 [.val .recd] [.bool] x0=nM x0:=by kernel_rfl
def wV:aV:=mkSpec [.val .recd] [.bool] true (fun x=>nM x)
theorem Rw:dJ PG 130 wV:=
 have K:CxR V6:=aX.cx (fun _=>rfl) (l:=[]) trivial
 aJ K (aI (l:=[]) rfl trivial) (by kernel_rfl) (fun x y h=>(YQ x).trans h) rfl rfl
def DW (x0:vT):Option (Bool):=af (cnd (aC (bor (ilt x0.seq 1) (ilt 1000000000 x0.seq))) (lV x0.order) (some false)) fun y0 => cnd (bor (bor (ilt x0.seq 1) (ilt 1000000000 x0.seq)) (aC y0)) (some false) (cnd (ieq x0.what 3) (some (band (ile 1 x0.qty) (ieq x0.price 0))) (cnd (ieq x0.what 5) (af (nM x0) fun y1 => some y1) (cnd (ieq x0.what 1) (cnd (ieq x0.what 1) (some (band (ieq x0.qty 0) (ieq x0.price 0))) (some false)) (cnd (ieq x0.what 2) (cnd (ieq x0.what 2) (some (band (ieq x0.qty 0) (ieq x0.price 0))) (some false)) (cnd (ieq x0.what 4) (cnd (ieq x0.what 4) (some (band (ieq x0.qty 0) (ieq x0.price 0))) (some false)) (cnd (ieq x0.what 6) (some (band (ieq x0.qty 0) (ieq x0.price 0))) (some false)))))))
noncomputable def VI:Cx:={ P:=PG,ety:=ety,fn:=look [(128,wU),(130,wV)],inl:=eU [],lp:=aY [] }
theorem Yl (x0:vT):bP VI 131 [.val .recd] [.bool] x0=DW x0:=by kernel_rfl
def Gq:aV:=mkSpec [.val .recd] [.bool] true (fun x=>DW x)
theorem acW:dJ PG 131 Gq:=
 have K:CxR VI:=aX.cx (fun _=>rfl) (l:=[(128,wU),(130,wV)]) ⟨TY,Rw,trivial⟩
 aJ K (aI (l:=[]) rfl trivial) (by kernel_rfl) (fun x y h=>(Yl x).trans h) rfl rfl
def rC (x0:vT):Option (Bool):=af (ES x0) fun y0 => cnd (aC (band (ieq x0.kind y0.kind) (band (ieq x0.order y0.order) (band (ieq x0.account y0.account) (band (ieq x0.symbol y0.symbol) (band (ieq x0.side y0.side) (band (ieq x0.qty y0.qty) (band (ieq x0.price y0.price) (band (ieq x0.long y0.long) (band (ieq x0.short y0.short) (band (ieq x0.opn y0.opn) (band (beq x0.on y0.on) (band (ieq x0.seq y0.seq) (ieq x0.what y0.what)))))))))))))) (some false) (cnd (ieq x0.kind 1) (af (lV x0.order) fun y1 => af (cnd y1 (oq x0.account 8) (some false)) fun y2 => af (cnd (band y1 y2) (oq x0.symbol 8) (some false)) fun y3 => af (cnd (band (band (band y1 y2) y3) (bor (ieq x0.side 1) (ieq x0.side 2))) (nM x0) (some false)) fun y4 => some (band (band (band (band y1 y2) y3) (bor (ieq x0.side 1) (ieq x0.side 2))) y4)) (cnd (ieq x0.kind 2) (af (lV x0.order) fun y5 => af (cnd y5 (nM x0) (some false)) fun y6 => some (band y5 y6)) (cnd (ieq x0.kind 3) (af (lV x0.order) fun y7 => some y7) (cnd (ieq x0.kind 4) (af (oq x0.account 8) fun y8 => af (cnd (band y8 (aC (band (band (ieq x0.symbol (-1)) (ieq x0.long 0)) (ieq x0.short 0)))) (oq x0.symbol 8) (some false)) fun y9 => some (band (band y8 (bor (band (band (ieq x0.symbol (-1)) (ieq x0.long 0)) (ieq x0.short 0)) y9)) (ile 0 (kH (kH x0.long x0.short) x0.opn)))) (cnd (ieq x0.kind 5) (some true) (cnd (ieq x0.kind 6) (af (DW x0) fun y10 => some y10) (some false)))))))
noncomputable def Vu:Cx:={ P:=PG,ety:=ety,fn:=look [(127,Eb),(128,wU),(129,GI),(130,wV),(131,Gq)],inl:=eU [],lp:=aY [] }
theorem Zj (x0:vT):bP Vu 60 [.val .recd] [.bool] x0=rC x0:=by kernel_rfl
def lC:aV:=mkSpec [.val .recd] [.bool] true (fun x=>rC x)
theorem EX:dJ PG 60 lC:=
 have K:CxR Vu:=aX.cx (fun _=>rfl) (l:=[(127,Eb),(128,wU),(129,GI),(130,wV),(131,Gq)]) ⟨Z7,TY,acF,Rw,acW,trivial⟩
 aJ K (aI (l:=[]) rfl trivial) (by kernel_rfl) (fun x y h=>(Zj x).trans h) rfl rfl
def yu (x0:aG):Option (Bool):=af (rC (vT.mk 1 x0.id x0.account x0.symbol x0.side x0.qty x0.price 0 0 0 false 0 0)) fun y0 => some y0
noncomputable def Qb:Cx:={ P:=PG,ety:=ety,fn:=look [(60,lC)],inl:=eU [],lp:=aY [] }
theorem UN (x0:aG):bP Qb 218 [.val .order] [.bool] x0=yu x0:=by kernel_rfl
def Cj:aV:=mkSpec [.val .order] [.bool] true (fun x=>yu x)
theorem ZF:dJ PG 218 Cj:=
 have K:CxR Qb:=aX.cx (fun _=>rfl) (l:=[(60,lC)]) ⟨EX,trivial⟩
 aJ K (aI (l:=[]) rfl trivial) (by kernel_rfl) (fun x y h=>(UN x).trans h) rfl rfl
def jh (x0:aG):Option (Bool):=af (je x0) fun y0 => af (yu x0) fun y1 => cnd (bor (bor (bor (bor (aC y1) (ilt x0.filled 0)) (ilt x0.qty x0.filled)) (ilt x0.version 0)) (band y0 (ilt (kH x0.newQty x0.newPrice) 1))) (some false) (cnd (ieq x0.phase 1) (some (band (band (ieq x0.filled 0) (ieq x0.version 0)) (aC y0))) (cnd (ieq x0.phase 2) (some (ilt x0.filled x0.qty)) (cnd (ieq x0.phase 3) (some (aC y0)) (some false))))
noncomputable def PV:Cx:={ P:=PG,ety:=ety,fn:=look [(194,kW),(218,Cj)],inl:=eU [],lp:=aY [] }
theorem Ul (x0:aG):bP PV 180 [.val .order] [.bool] x0=jh x0:=by kernel_rfl
def dQ:aV:=mkSpec [.val .order] [.bool] true (fun x=>jh x)
theorem nJ:dJ PG 180 dQ:=
 have K:CxR PV:=aX.cx (fun _=>rfl) (l:=[(194,kW),(218,Cj)]) ⟨CP,ZF,trivial⟩
 aJ K (aI (l:=[]) rfl trivial) (by kernel_rfl) (fun x y h=>(Ul x).trans h) rfl rfl
def yw (x0:dP):Option (Bool):=some (ile 0 (kH (kH x0.long x0.short) x0.opn))
noncomputable def P9:Cx:={ P:=PG,ety:=ety,fn:=look [],inl:=eU [],lp:=aY [] }
theorem U0 (x0:dP):bP P9 182 [.val .expo] [.bool] x0=yw x0:=by kernel_rfl
def BN:aV:=mkSpec [.val .expo] [.bool] true (fun x=>yw x)
theorem X8:dJ PG 182 BN:=
 have K:CxR P9:=aX.cx (fun _=>rfl) (l:=[]) trivial
 aJ K (aI (l:=[]) rfl trivial) (by kernel_rfl) (fun x y h=>(U0 x).trans h) rfl rfl
def AA:LSh:=⟨74,[(0,.ro .i64)],[],[],[(4,.int .i64),(3,.int .i64)],[],[]⟩
@[reducible] def AB:List iQ:=[⟨.exit 0,[(3,.int .i64)],[],[]⟩]
def jV (p0:(List Int)) (v0:Int) (v1:Int):Option ((Int×Int) ⊕ ((Int))):=cnd (ilt v0 (len p0)) (cnd (band (ile 0 v0) (ilt v0 (len p0))) (some (Sum.inl (wr .i64 (ak v0 1),kH v1 (ah p0 (itn v0))))) none) (some (Sum.inr v1))
def zU:iF:=AA.spec AB [12,13,14,15,18,19,20,21,22,23,3,16,17,4] (fun p v=>jV p v.1 v.2)
def kV (x0:(List Int)):Option (Int):=cnd (ilt (len x0) 1) none (cnd (ilt 0 (len x0)) (af (bF (fun v => jV x0 v.fst v.snd) LF (1,ah x0 0)) fun y0 => some y0) none)
noncomputable def zA:Cx:={ P:=PG,ety:=ety,fn:=look [],inl:=eU [],lp:=aY [(184,122,zU)] }
theorem HY (p0:(List Int)) (v0:Int) (v1:Int):jW zA 900 184 122 (gJ PG 184 122) AA AB p0 (v0,v1)=jV p0 v0 v1:=by kernel_rfl
theorem MG (x0:(List Int)):bP zA 184 [.ro .i64] [.int .i64] x0=kV x0:=by kernel_rfl
def vP:aV:=mkSpec [.ro .i64] [.int .i64] true (fun x=>kV x)
theorem PE:dJ PG 184 vP:=
 have K:CxR zA:=aX.cx (fun _=>rfl) (l:=[]) trivial
 aJ K (aI (l:=[(184,122,zU)]) rfl ⟨dN (n:=900) (f:=184) K (by kernel_rfl) (by kernel_rfl) (by kernel_rfl) (by kernel_rfl) (by kernel_rfl) (fun p v r h=>(HY p v.1 v.2).trans h),trivial⟩) (by kernel_rfl) (fun x y h=>(MG x).trans h) rfl rfl
def BJ:LSh:=⟨73,[(10,.int .i64),(9,.ro .order)],[(1,.mp 8 0)],[(8,[.val .state])],[(11,.int .i64),(3,.int .i64),(2,.bool)],[],[]⟩
@[reducible] def BG:List iQ:=[⟨.ret,[(2,.bool)],[],[]⟩,⟨.exit 0,[(3,.int .i64),(2,.bool)],[],[]⟩]
def kJ (p0:Int) (p1:(List aG)) (p2:aj) (v0:Int) (v1:Int) (v2:Bool):Option ((Int×Int×Bool) ⊕ ((Bool) ⊕ ((Int×Bool)))):=cnd (ilt v0 p0) (cnd (band (ile 0 v0) (ilt v0 (len p1))) (af (jh (ah p1 (itn v0))) fun y0 => cnd (bor (bor (bor (bor (aC y0) (ieq (ah p1 (itn v0)).phase 3)) (ile p2.accounts (ah p1 (itn v0)).account)) (ile p2.symbols (ah p1 (itn v0)).symbol)) (ile (ah p1 (itn v0)).id v1)) (some (Sum.inr (Sum.inl false))) (some (Sum.inl (wr .i64 (ak v0 1),(ah p1 (itn v0)).id,v2)))) none) (some (Sum.inr (Sum.inr (v1,v2))))
def Bd:iF:=BJ.spec BG [12,13,14,5,15,16,17,18,19,20,21,22,23,24,25,26,27,28,29,30,31,32,33,34,35,36,37,38,39,40,41,42,43,44,2,45,46,3,47,11] (fun p v=>kJ p.1 p.2.1 p.2.2 v.1 v.2.1 v.2.2)
def iR:LSh:=⟨210,[(7,.int .i64),(0,.ro .expo)],[(1,.fn 181 [])],[],[(8,.int .i64),(4,.int .i64)],[],[]⟩
@[reducible] def iT:List iQ:=[⟨.ret,[(4,.int .i64)],[],[]⟩,⟨.exit 0,[(4,.int .i64)],[],[]⟩]
def bC (p0:Int) (p1:(List dP)) (v0:Int) (v1:Int):Option ((Int×Int) ⊕ ((Int) ⊕ ((Int)))):=cnd (ilt v0 p0) (cnd (band (ile 0 v0) (ilt v0 (len p1))) (af (yw (ah p1 (itn v0))) fun y0 => cnd (aC y0) (some (Sum.inr (Sum.inl v0))) (some (Sum.inl (wr .i64 (ak v0 1),v1)))) none) (some (Sum.inr (Sum.inr v1)))
def iO:iF:=iR.spec iT [9,10,5,11,12,13,14,15,16,17,4,18,8] (fun p v=>bC p.1 p.2 v.1 v.2)
def pX (x0:aj):Option (Bool):=af (bF (fun v => kJ (len x0.orders) x0.orders x0 v.fst v.snd.fst v.snd.snd) LF (0,0,false)) fun y0 => qf y0 (fun y1 => some y1) fun y1 => cnd (band (band (band (band (band (ile y1.fst x0.last) (ile x0.last 1000000000000)) (ile 0 x0.seq)) (ile x0.seq 1000000000)) (ile 0 x0.lsn)) (ile x0.lsn 1000000000)) (af (bF (fun v => bC (len x0.limits) x0.limits v.fst v.snd) LF (0,0)) fun y2 => qf y2 (fun y3 => af (cnd (band (band (band (band (band (band (ile y1.fst x0.last) (ile x0.last 1000000000000)) (ile 0 x0.seq)) (ile x0.seq 1000000000)) (ile 0 x0.lsn)) (ile x0.lsn 1000000000)) (aC (ile 0 y3))) (kV x0.caps) (some 0)) fun y4 => some (band (band (band (band (band (band (band (band (ile y1.fst x0.last) (ile x0.last 1000000000000)) (ile 0 x0.seq)) (ile x0.seq 1000000000)) (ile 0 x0.lsn)) (ile x0.lsn 1000000000)) (aC (ile 0 y3))) (ile 0 y4)) (ile 0 x0.last))) fun y3 => af (cnd (bor (band (band (band (band (band (ile y1.fst x0.last) (ile x0.last 1000000000000)) (ile 0 x0.seq)) (ile x0.seq 1000000000)) (ile 0 x0.lsn)) (ile x0.lsn 1000000000)) false) (kV x0.caps) (some 0)) fun y5 => some (band (band (bor (band (band (band (band (band (ile y1.fst x0.last) (ile x0.last 1000000000000)) (ile 0 x0.seq)) (ile x0.seq 1000000000)) (ile 0 x0.lsn)) (ile x0.lsn 1000000000)) false) (ile 0 y5)) (ile 0 x0.last))) (af (cnd (bor (band (band (band (band (band (ile y1.fst x0.last) (ile x0.last 1000000000000)) (ile 0 x0.seq)) (ile x0.seq 1000000000)) (ile 0 x0.lsn)) (ile x0.lsn 1000000000)) false) (kV x0.caps) (some 0)) fun y6 => some (band (band (bor (band (band (band (band (band (ile y1.fst x0.last) (ile x0.last 1000000000000)) (ile 0 x0.seq)) (ile x0.seq 1000000000)) (ile 0 x0.lsn)) (ile x0.lsn 1000000000)) false) (ile 0 y6)) (ile 0 x0.last)))
noncomputable def uw:Cx:={ P:=PG,ety:=ety,fn:=look [(180,dQ),(182,BN),(184,vP)],inl:=eU [181,183,219],lp:=aY [(121,58,Bd),(2232058426242137383131,26,iO)] }
theorem Ji (p0:Int) (p1:(List aG)) (p2:aj) (v0:Int) (v1:Int) (v2:Bool):jW uw 900 121 58 (gJ PG 121 58) BJ BG (p0,p1,p2) (v0,v1,v2)=kJ p0 p1 p2 v0 v1 v2:=by kernel_rfl
theorem lY (p0:Int) (p1:(List dP)) (v0:Int) (v1:Int):jW uw 900 2232058426242137383131 26 (gJ PG 219 26) iR iT (p0,p1) (v0,v1)=bC p0 p1 v0 v1:=by kernel_rfl
theorem MO (x0:aj):bP uw 121 [.val .state] [.bool] x0=pX x0:=by kernel_rfl
def vN:aV:=mkSpec [.val .state] [.bool] true (fun x=>pX x)
theorem PK:dJ PG 121 vN:=
 have K:CxR uw:=aX.cx (fun _=>rfl) (l:=[(180,dQ),(182,BN),(184,vP)]) ⟨nJ,X8,PE,trivial⟩
 aJ K (aI (l:=[(121,58,Bd),(2232058426242137383131,26,iO)]) rfl ⟨dN (n:=900) (f:=121) K (by kernel_rfl) (by kernel_rfl) (by kernel_rfl) (by kernel_rfl) (by kernel_rfl) (fun p v r h=>(Ji p.1 p.2.1 p.2.2 v.1 v.2.1 v.2.2).trans h),
  dN (n:=900) (f:=219) K (by kernel_rfl) (by kernel_rfl) (by kernel_rfl) (by kernel_rfl) (by kernel_rfl) (fun p v r h=>(lY p.1 p.2 v.1 v.2).trans h),trivial⟩) (by kernel_rfl) (fun x y h=>(MO x).trans h) rfl rfl
def bg (x0:aj) (x1:Int) (x2:Int):Option (Int):=some (wr .i64 (ak (wr .i64 (jr x1 x0.symbols)) x2))
noncomputable def D9:Cx:={ P:=PG,ety:=ety,fn:=look [],inl:=eU [],lp:=aY [] }
theorem JU (x0:aj) (x1:Int) (x2:Int):bP D9 137 [.val .state,.int .i64,.int .i64] [.int .i64] (x0,x1,x2)=bg x0 x1 x2:=by kernel_rfl
def fD:aV:=mkSpec [.val .state,.int .i64,.int .i64] [.int .i64] true (fun x=>bg x.1 x.2.1 x.2.2)
theorem qx:dJ PG 137 fD:=
 have K:CxR D9:=aX.cx (fun _=>rfl) (l:=[]) trivial
 aJ K (aI (l:=[]) rfl trivial) (by kernel_rfl) (fun x y h=>(JU x.1 x.2.1 x.2.2).trans h) rfl rfl
def oz (x0:Int) (x1:Int):Option (Int×Int):=cnd (band (aC (beq (ilt x0 (wr .i64 (ak x0 x1))) (ilt 0 x1))) (aC (ieq x1 0))) (some (0,3)) (some (wr .i64 (ak x0 x1),0))
noncomputable def abl:Cx:={ P:=PG,ety:=ety,fn:=look [],inl:=eU [],lp:=aY [] }
theorem abI (x0:Int) (x1:Int):bP abl 59 [.int .i64,.int .i64] [.int .i64,.int .i64] (x0,x1)=oz x0 x1:=by kernel_rfl
def jP:aV:=mkSpec [.int .i64,.int .i64] [.int .i64,.int .i64] true (fun x=>oz x.1 x.2)
theorem CS:dJ PG 59 jP:=
 have K:CxR abl:=aX.cx (fun _=>rfl) (l:=[]) trivial
 aJ K (aI (l:=[]) rfl trivial) (by kernel_rfl) (fun x y h=>(abI x.1 x.2).trans h) rfl rfl
def vI (x0:Int) (x1:Int):Option (Int×Int):=cnd (band (aC (beq (ilt (wr .i64 (aF x0 x1)) x0) (ilt 0 x1))) (aC (ieq x1 0))) (some (0,3)) (some (wr .i64 (aF x0 x1),0))
noncomputable def aaA:Cx:={ P:=PG,ety:=ety,fn:=look [],inl:=eU [],lp:=aY [] }
theorem abP (x0:Int) (x1:Int):bP aaA 195 [.int .i64,.int .i64] [.int .i64,.int .i64] (x0,x1)=vI x0 x1:=by kernel_rfl
def uG:aV:=mkSpec [.int .i64,.int .i64] [.int .i64,.int .i64] true (fun x=>vI x.1 x.2)
theorem QV:dJ PG 195 uG:=
 have K:CxR aaA:=aX.cx (fun _=>rfl) (l:=[]) trivial
 aJ K (aI (l:=[]) rfl trivial) (by kernel_rfl) (fun x y h=>(abP x.1 x.2).trans h) rfl rfl
def zJ (x0:aS):Option (dP×Bool):=af (oz x0.pos x0.buy) fun y0 => af (vI x0.sell x0.pos) fun y1 => some (dP.mk y0.fst y1.fst x0.opn,band (ieq y0.snd 0) (ieq y1.snd 0))
noncomputable def V9:Cx:={ P:=PG,ety:=ety,fn:=look [(59,jP),(195,uG)],inl:=eU [],lp:=aY [] }
theorem Y1 (x0:aS):bP V9 185 [.val .cell] [.val .expo,.bool] x0=zJ x0:=by kernel_rfl
def wP:aV:=mkSpec [.val .cell] [.val .expo,.bool] true (fun x=>zJ x)
theorem Tm:dJ PG 185 wP:=
 have K:CxR V9:=aX.cx (fun _=>rfl) (l:=[(59,jP),(195,uG)]) ⟨CS,QV,trivial⟩
 aJ K (aI (l:=[]) rfl trivial) (by kernel_rfl) (fun x y h=>(Y1 x).trans h) rfl rfl
def iJ (x0:aS):Option (Bool):=af (zJ x0) fun y0 => some (band y0.snd (ile 0 (kH (kH x0.buy x0.sell) x0.opn)))
noncomputable def Sr:Cx:={ P:=PG,ety:=ety,fn:=look [(185,wP)],inl:=eU [],lp:=aY [] }
theorem WY (x0:aS):bP Sr 123 [.val .cell] [.bool] x0=iJ x0:=by kernel_rfl
def jd:aV:=mkSpec [.val .cell] [.bool] true (fun x=>iJ x)
theorem yh:dJ PG 123 jd:=
 have K:CxR Sr:=aX.cx (fun _=>rfl) (l:=[(185,wP)]) ⟨Tm,trivial⟩
 aJ K (aI (l:=[]) rfl trivial) (by kernel_rfl) (fun x y h=>(WY x).trans h) rfl rfl
def Dc (x0:Int):Option (Int):=cnd (ilt x0 0) (some (wr .u64 (aF 0 (wr .u64 x0)))) (some (wr .u64 x0))
noncomputable def Yi:Cx:={ P:=PG,ety:=ety,fn:=look [],inl:=eU [],lp:=aY [] }
theorem Z9 (x0:Int):bP Yi 238 [.int .i64] [.int .u64] x0=Dc x0:=by kernel_rfl
def Ja:aV:=mkSpec [.int .i64] [.int .u64] true (fun x=>Dc x)
theorem ae2:dJ PG 238 Ja:=
 have K:CxR Yi:=aX.cx (fun _=>rfl) (l:=[]) trivial
 aJ K (aI (l:=[]) rfl trivial) (by kernel_rfl) (fun x y h=>(Z9 x).trans h) rfl rfl
def Fz (x0:Int) (x1:Int):Option (Int×Int):=af (Dc x0) fun y0 => af (Dc x1) fun y1 => af (oH y0 y1) fun y2 => cnd (band (band (ieq y2.fst 0) (aC (beq (ilt x0 0) (ilt x1 0)))) (ile y2.snd 9223372036854775808)) (some (wr .i64 (wr .u64 (aF 0 y2.snd)),0)) (cnd (band (ieq y2.fst 0) (ile y2.snd 9223372036854775807)) (some (wr .i64 y2.snd,0)) (some (0,3)))
noncomputable def aa2:Cx:={ P:=PG,ety:=ety,fn:=look [(238,Ja),(176,nV)],inl:=eU [],lp:=aY [] }
theorem ac8 (x0:Int) (x1:Int):bP aa2 235 [.int .i64,.int .i64] [.int .i64,.int .i64] (x0,x1)=Fz x0 x1:=by kernel_rfl
def KR:aV:=mkSpec [.int .i64,.int .i64] [.int .i64,.int .i64] true (fun x=>Fz x.1 x.2)
theorem af6:dJ PG 235 KR:=
 have K:CxR aa2:=aX.cx (fun _=>rfl) (l:=[(238,Ja),(176,nV)]) ⟨ae2,GH,trivial⟩
 aJ K (aI (l:=[]) rfl trivial) (by kernel_rfl) (fun x y h=>(ac8 x.1 x.2).trans h) rfl rfl
def Fj (x0:Int) (x1:Int):Option (Int):=some (imax x0 x1)
noncomputable def aaK:Cx:={ P:=PG,ety:=ety,fn:=look [],inl:=eU [],lp:=aY [] }
theorem acS (x0:Int) (x1:Int):bP aaK 236 [.int .i64,.int .i64] [.int .i64] (x0,x1)=Fj x0 x1:=by kernel_rfl
def Bq:aV:=mkSpec [.int .i64,.int .i64] [.int .i64] true (fun x=>Fj x.1 x.2)
theorem Xr:dJ PG 236 Bq:=
 have K:CxR aaK:=aX.cx (fun _=>rfl) (l:=[]) trivial
 aJ K (aI (l:=[]) rfl trivial) (by kernel_rfl) (fun x y h=>(acS x.1 x.2).trans h) rfl rfl
def vJ (x0:aG):Option (Int×Int):=af (jh x0) fun y0 => cnd (aC y0) (some (0,1)) (cnd (ieq x0.phase 3) (some (0,0)) (af (Fz (wr .i64 (aF x0.qty x0.filled)) x0.price) fun y1 => cnd (bor (aC (ieq y1.snd 0)) (ile x0.newQty x0.filled)) (some y1) (af (Fz (wr .i64 (aF x0.newQty x0.filled)) x0.newPrice) fun y2 => cnd (aC (ieq y2.snd 0)) (some (0,y2.snd)) (af (Fj y1.fst y2.fst) fun y3 => some (y3,0)))))
noncomputable def Qh:Cx:={ P:=PG,ety:=ety,fn:=look [(180,dQ),(235,KR),(236,Bq)],inl:=eU [],lp:=aY [] }
theorem Ui (x0:aG):bP Qh 220 [.val .order] [.int .i64,.int .i64] x0=vJ x0:=by kernel_rfl
def sH:aV:=mkSpec [.val .order] [.int .i64,.int .i64] true (fun x=>vJ x)
theorem NG:dJ PG 220 sH:=
 have K:CxR Qh:=aX.cx (fun _=>rfl) (l:=[(180,dQ),(235,KR),(236,Bq)]) ⟨nJ,af6,Xr,trivial⟩
 aJ K (aI (l:=[]) rfl trivial) (by kernel_rfl) (fun x y h=>(Ui x).trans h) rfl rfl
def qN (x0:aG):Option (Int):=af (jh x0) fun y0 => cnd (bor (aC y0) (ieq x0.phase 3)) (some 0) (af (Fj x0.qty x0.newQty) fun y1 => some (wr .i64 (aF y1 x0.filled)))
noncomputable def Tc:Cx:={ P:=PG,ety:=ety,fn:=look [(180,dQ),(236,Bq)],inl:=eU [],lp:=aY [] }
theorem Xb (x0:aG):bP Tc 221 [.val .order] [.int .i64] x0=qN x0:=by kernel_rfl
def ve:aV:=mkSpec [.val .order] [.int .i64] true (fun x=>qN x)
theorem Qg:dJ PG 221 ve:=
 have K:CxR Tc:=aX.cx (fun _=>rfl) (l:=[(180,dQ),(236,Bq)]) ⟨nJ,Xr,trivial⟩
 aJ K (aI (l:=[]) rfl trivial) (by kernel_rfl) (fun x y h=>(Xb x).trans h) rfl rfl
def iI (x0:aS) (x1:aG):Option (aS×Int):=af (iJ x0) fun y0 => af (cnd (aC (aC y0)) (jh x1) (some false)) fun y1 => cnd (bor (aC y0) (aC y1)) (some (x0,1)) (af (vJ x1) fun y2 => cnd (ieq x1.side 2) (af (qN x1) fun y3 => af (oz x0.sell y3) fun y4 => af (oz x0.opn y2.fst) fun y5 => af (cnd (aC (bor (bor (aC (ieq y2.snd 0)) (aC (ieq y4.snd 0))) (aC (ieq y5.snd 0)))) (iJ (aS.mk x0.pos x0.buy y4.fst y5.fst)) (some false)) fun y6 => cnd (bor (bor (bor (aC (ieq y2.snd 0)) (aC (ieq y4.snd 0))) (aC (ieq y5.snd 0))) (aC y6)) (some (x0,3)) (some (aS.mk x0.pos x0.buy y4.fst y5.fst,0))) (af (qN x1) fun y7 => af (oz x0.buy y7) fun y8 => af (oz x0.opn y2.fst) fun y9 => af (cnd (aC (bor (bor (aC (ieq y2.snd 0)) (aC (ieq y8.snd 0))) (aC (ieq y9.snd 0)))) (iJ (aS.mk x0.pos y8.fst x0.sell y9.fst)) (some false)) fun y10 => cnd (bor (bor (bor (aC (ieq y2.snd 0)) (aC (ieq y8.snd 0))) (aC (ieq y9.snd 0))) (aC y10)) (some (x0,3)) (some (aS.mk x0.pos y8.fst x0.sell y9.fst,0))))
noncomputable def VE:Cx:={ P:=PG,ety:=ety,fn:=look [(123,jd),(180,dQ),(220,sH),(221,ve),(59,jP)],inl:=eU [188],lp:=aY [] }
theorem Zp (x0:aS) (x1:aG):bP VE 138 [.val .cell,.val .order] [.val .cell,.int .i64] (x0,x1)=iI x0 x1:=by kernel_rfl
def qw:aV:=mkSpec [.val .cell,.val .order] [.val .cell,.int .i64] true (fun x=>iI x.1 x.2)
theorem Kr:dJ PG 138 qw:=
 have K:CxR VE:=aX.cx (fun _=>rfl) (l:=[(123,jd),(180,dQ),(220,sH),(221,ve),(59,jP)]) ⟨yh,nJ,NG,Qg,CS,trivial⟩
 aJ K (aI (l:=[]) rfl trivial) (by kernel_rfl) (fun x y h=>(Zp x.1 x.2).trans h) rfl rfl
def Ae:LSh:=⟨79,[(18,.int .i64),(17,.ro .order)],[(4,.mf 64),(1,.mp 8 0)],[(8,[.val .state])],[(19,.int .i64),(3,.bool),(2,.buf .cell)],[],[(64,.cell)]⟩
@[reducible] def Ag:List iQ:=[⟨.ret,[(3,.bool),(2,.buf .cell)],[],[(64,.cell)]⟩,⟨.exit 0,[(3,.bool),(2,.buf .cell)],[],[(64,.cell)]⟩]
def jC (p0:Int) (p1:(List aG)) (p2:aj) (v0:Int) (v1:Bool) (v2:(List aS)) (v3:(List aS)):Option ((Int×Bool×(List aS)×(List aS)) ⊕ ((Bool×(List aS)×(List aS)) ⊕ ((Bool×(List aS)×(List aS))))):=cnd (ilt v0 p0) (cnd (band (ile 0 v0) (ilt v0 (len p1))) (af (bg p2 (ah p1 (itn v0)).account (ah p1 (itn v0)).symbol) fun y0 => cnd (band (ile 0 y0) (ilt y0 (len v3))) (af (iI (ah v3 (itn y0)) (ah p1 (itn v0))) fun y1 => cnd (aC (ieq y1.snd 0)) (some (Sum.inr (Sum.inl (false,[],v3)))) (cnd (band (ile 0 y0) (ilt y0 (len v3))) (some (Sum.inl (wr .i64 (ak v0 1),v1,v2,bf v3 (itn y0) y1.fst))) none)) none) none) (some (Sum.inr (Sum.inr (v1,v2,v3))))
def yI:iF:=Ae.spec Ag [20,21,22,6,23,24,25,26,27,28,7,30,31,32,33,34,35,29,36,37,8,9,38,39,2,3,40,41,42,43,44,19] (fun p v=>jC p.1 p.2.1 p.2.2 v.1 v.2.1 v.2.2.1 v.2.2.2)
def og (x0:aj):Option ((List aS)×Bool):=cnd (band (band (ile 0 (len x0.cells)) (ile (len x0.cells) (len x0.cells))) (ile (len x0.cells) 68719476736)) (af (bF (fun v => jC (len x0.orders) x0.orders x0 v.fst v.snd.fst v.snd.snd.fst v.snd.snd.snd) LF (0,false,[],ja aS (itn (len x0.cells)))) fun y0 => qf y0 (fun y1 => some (y1.snd.fst,y1.fst)) fun y1 => some (y1.snd.snd,true)) none
noncomputable def wB:Cx:={ P:=PG,ety:=ety,fn:=look [(137,fD),(138,qw)],inl:=eU [],lp:=aY [(122,58,yI)] }
theorem Hl (p0:Int) (p1:(List aG)) (p2:aj) (v0:Int) (v1:Bool) (v2:(List aS)) (v3:(List aS)):jW wB 900 122 58 (gJ PG 122 58) Ae Ag (p0,p1,p2) (v0,v1,v2,v3)=jC p0 p1 p2 v0 v1 v2 v3:=by kernel_rfl
theorem JB (x0:aj):bP wB 122 [.val .state] [.buf .cell,.bool] x0=og x0:=by kernel_rfl
def sV:aV:=mkSpec [.val .state] [.buf .cell,.bool] true (fun x=>og x)
theorem Na:dJ PG 122 sV:=
 have K:CxR wB:=aX.cx (fun _=>rfl) (l:=[(137,fD),(138,qw)]) ⟨qx,Kr,trivial⟩
 aJ K (aI (l:=[(122,58,yI)]) rfl ⟨dN (n:=900) (f:=122) K (by kernel_rfl) (by kernel_rfl) (by kernel_rfl) (by kernel_rfl) (by kernel_rfl) (fun p v r h=>(Hl p.1 p.2.1 p.2.2 v.1 v.2.1 v.2.2.1 v.2.2.2).trans h),trivial⟩) (by kernel_rfl) (fun x y h=>(JB x).trans h) rfl rfl
def jk (x0:aj) (x1:Int):Option ((List aS)):=cnd (band (band (ile 0 (wr .i64 (jr x1 x0.symbols))) (ile (wr .i64 (jr x1 x0.symbols)) (wr .i64 (jr (wr .i64 (ak x1 1)) x0.symbols)))) (ile (wr .i64 (jr (wr .i64 (ak x1 1)) x0.symbols)) (len x0.cells))) (some (aB (aH x0.cells (itn (wr .i64 (jr x1 x0.symbols)))) (itn (aF (wr .i64 (jr (wr .i64 (ak x1 1)) x0.symbols)) (wr .i64 (jr x1 x0.symbols)))))) none
noncomputable def BL:Cx:={ P:=PG,ety:=ety,fn:=look [],inl:=eU [],lp:=aY [] }
theorem Jb (x0:aj) (x1:Int):bP BL 125 [.val .state,.int .i64] [.ro .cell] (x0,x1)=jk x0 x1:=by kernel_rfl
def kL:aV:=mkSpec [.val .state,.int .i64] [.ro .cell] false (fun x=>jk x.1 x.2)
theorem Bz:dJ PG 125 kL:=
 have K:CxR BL:=aX.cx (fun _=>rfl) (l:=[]) trivial
 aJ K (aI (l:=[]) rfl trivial) (by kernel_rfl) (fun x y h=>(Jb x.1 x.2).trans h) rfl rfl
def N7:LSh:=⟨71,[(10,.int .i64),(9,.ro .i64)],[],[],[(11,.int .i64),(4,.int .i64),(3,.int .i64),(2,.int .i64)],[],[]⟩
@[reducible] def ND:List iQ:=[⟨.ret,[(3,.int .i64),(2,.int .i64)],[],[]⟩,⟨.exit 0,[(4,.int .i64),(3,.int .i64),(2,.int .i64)],[],[]⟩]
def sN (p0:Int) (p1:(List Int)) (v0:Int) (v1:Int) (v2:Int) (v3:Int):Option ((Int×Int×Int×Int) ⊕ ((Int×Int) ⊕ ((Int×Int×Int)))):=cnd (ilt v0 p0) (cnd (band (ile 0 v0) (ilt v0 (len p1))) (af (oz v1 (ah p1 (itn v0))) fun y0 => cnd (aC (ieq y0.snd 0)) (some (Sum.inr (Sum.inl (y0.snd,0)))) (some (Sum.inl (wr .i64 (ak v0 1),y0.fst,v2,v3)))) none) (some (Sum.inr (Sum.inr (v1,v2,v3))))
def MC:iF:=N7.spec ND [12,13,14,6,16,17,18,15,19,20,7,8,21,22,23,2,3,24,4,25,11] (fun p v=>sN p.1 p.2 v.1 v.2.1 v.2.2.1 v.2.2.2)
def DU (x0:(List Int)):Option (Int×Int):=af (bF (fun v => sN (len x0) x0 v.fst v.snd.fst v.snd.snd.fst v.snd.snd.snd) LF (0,0,0,0)) fun y0 => qf y0 (fun y1 => some (y1.snd,y1.fst)) fun y1 => some (y1.fst,0)
noncomputable def Nh:Cx:={ P:=PG,ety:=ety,fn:=look [(59,jP)],inl:=eU [],lp:=aY [(186,58,MC)] }
theorem TR (p0:Int) (p1:(List Int)) (v0:Int) (v1:Int) (v2:Int) (v3:Int):jW Nh 900 186 58 (gJ PG 186 58) N7 ND (p0,p1) (v0,v1,v2,v3)=sN p0 p1 v0 v1 v2 v3:=by kernel_rfl
theorem Zz (x0:(List Int)):bP Nh 186 [.ro .i64] [.int .i64,.int .i64] x0=DU x0:=by kernel_rfl
def FZ:aV:=mkSpec [.ro .i64] [.int .i64,.int .i64] true (fun x=>DU x)
theorem abT:dJ PG 186 FZ:=
 have K:CxR Nh:=aX.cx (fun _=>rfl) (l:=[(59,jP)]) ⟨CS,trivial⟩
 aJ K (aI (l:=[(186,58,MC)]) rfl ⟨dN (n:=900) (f:=186) K (by kernel_rfl) (by kernel_rfl) (by kernel_rfl) (by kernel_rfl) (by kernel_rfl) (fun p v r h=>(TR p.1 p.2 v.1 v.2.1 v.2.2.1 v.2.2.2).trans h),trivial⟩) (by kernel_rfl) (fun x y h=>(Zz x).trans h) rfl rfl
def Jw:LSh:=⟨71,[(8,.int .i64),(7,.ro .cell)],[],[],[(9,.int .i64),(4,.buf .i64)],[],[]⟩
@[reducible] def Jm:List iQ:=[⟨.exit 0,[(4,.buf .i64)],[],[]⟩]
def pO (p0:Int) (p1:(List aS)) (v0:Int) (v1:(List Int)):Option ((Int×(List Int)) ⊕ (((List Int)))):=cnd (ilt v0 p0) (cnd (band (ile 0 v0) (ilt v0 (len p1))) (cnd (ile (len (jQ v1 [(ah p1 (itn v0)).opn])) 68719476736) (some (Sum.inl (wr .i64 (ak v0 1),jQ v1 [(ah p1 (itn v0)).opn]))) none) none) (some (Sum.inr v1))
def IA:iF:=Jw.spec Jm [10,11,12,6,13,14,15,16,17,4,18,9] (fun p v=>pO p.1 p.2 v.1 v.2)
def rF (x0:(List aS)):Option (Int×Int):=af (bF (fun v => pO (len x0) x0 v.fst v.snd) LF (0,[])) fun y0 => af (DU y0) fun y1 => some y1
noncomputable def IX:Cx:={ P:=PG,ety:=ety,fn:=look [(186,FZ)],inl:=eU [],lp:=aY [(124,58,IA)] }
theorem PO (p0:Int) (p1:(List aS)) (v0:Int) (v1:(List Int)):jW IX 900 124 58 (gJ PG 124 58) Jw Jm (p0,p1) (v0,v1)=pO p0 p1 v0 v1:=by kernel_rfl
theorem Vd (x0:(List aS)):bP IX 124 [.ro .cell] [.int .i64,.int .i64] x0=rF x0:=by kernel_rfl
def sW:aV:=mkSpec [.ro .cell] [.int .i64,.int .i64] true (fun x=>rF x)
theorem NW:dJ PG 124 sW:=
 have K:CxR IX:=aX.cx (fun _=>rfl) (l:=[(186,FZ)]) ⟨abT,trivial⟩
 aJ K (aI (l:=[(124,58,IA)]) rfl ⟨dN (n:=900) (f:=124) K (by kernel_rfl) (by kernel_rfl) (by kernel_rfl) (by kernel_rfl) (by kernel_rfl) (fun p v r h=>(PO p.1 p.2 v.1 v.2).trans h),trivial⟩) (by kernel_rfl) (fun x y h=>(Vd x).trans h) rfl rfl
def Ai:LSh:=⟨89,[(28,.int .i64),(27,.ro .cell)],[(3,.mf 96)],[],[(29,.int .i64),(2,.bool)],[],[(96,.cell)]⟩
@[reducible] def zX:List iQ:=[⟨.ret,[(2,.bool)],[],[(96,.cell)]⟩,⟨.exit 0,[(2,.bool)],[],[(96,.cell)]⟩]
def jD (p0:Int) (p1:(List aS)) (v0:Int) (v1:Bool) (v2:(List aS)):Option ((Int×Bool×(List aS)) ⊕ ((Bool×(List aS)) ⊕ ((Bool×(List aS))))):=cnd (ilt v0 p0) (cnd (band (ile 0 v0) (ilt v0 (len p1))) (cnd (band (ile 0 v0) (ilt v0 (len v2))) (af (iJ (ah p1 (itn v0))) fun y0 => cnd (bor (band (ile 0 v0) (ilt v0 (len (bf v2 (itn v0) (aS.mk (ah p1 (itn v0)).pos (ah v2 (itn v0)).buy (ah v2 (itn v0)).sell (ah v2 (itn v0)).opn))))) (aC (aC (aC y0)))) (cnd (bor (aC y0) (aC (band (ieq (ah (bf v2 (itn v0) (aS.mk (ah p1 (itn v0)).pos (ah v2 (itn v0)).buy (ah v2 (itn v0)).sell (ah v2 (itn v0)).opn)) (itn v0)).pos (ah p1 (itn v0)).pos) (band (ieq (ah (bf v2 (itn v0) (aS.mk (ah p1 (itn v0)).pos (ah v2 (itn v0)).buy (ah v2 (itn v0)).sell (ah v2 (itn v0)).opn)) (itn v0)).buy (ah p1 (itn v0)).buy) (band (ieq (ah (bf v2 (itn v0) (aS.mk (ah p1 (itn v0)).pos (ah v2 (itn v0)).buy (ah v2 (itn v0)).sell (ah v2 (itn v0)).opn)) (itn v0)).sell (ah p1 (itn v0)).sell) (ieq (ah (bf v2 (itn v0) (aS.mk (ah p1 (itn v0)).pos (ah v2 (itn v0)).buy (ah v2 (itn v0)).sell (ah v2 (itn v0)).opn)) (itn v0)).opn (ah p1 (itn v0)).opn)))))) (some (Sum.inr (Sum.inl (false,bf v2 (itn v0) (aS.mk (ah p1 (itn v0)).pos (ah v2 (itn v0)).buy (ah v2 (itn v0)).sell (ah v2 (itn v0)).opn))))) (some (Sum.inl (wr .i64 (ak v0 1),v1,bf v2 (itn v0) (aS.mk (ah p1 (itn v0)).pos (ah v2 (itn v0)).buy (ah v2 (itn v0)).sell (ah v2 (itn v0)).opn))))) none) none) none) (some (Sum.inr (Sum.inr (v1,v2))))
def yB:iF:=Ai.spec zX [30,31,32,33,6,5,34,35,36,37,38,39,40,41,42,43,44,45,46,47,48,49,50,2,51,29] (fun p v=>jD p.1 p.2 v.1 v.2.1 v.2.2)
def Ad:LSh:=⟨162,[(54,.int .i64)],[(1,.mp 8 0)],[(8,[.val .state])],[(55,.int .i64),(2,.bool)],[],[]⟩
@[reducible] def zV:List iQ:=[⟨.ret,[(2,.bool)],[],[]⟩,⟨.exit 2,[(2,.bool)],[],[]⟩]
def jA (p0:Int) (p1:aj) (v0:Int) (v1:Bool):Option ((Int×Bool) ⊕ ((Bool) ⊕ ((Bool)))):=cnd (ilt v0 p0) (af (jk p1 v0) fun y0 => af (rF y0) fun y1 => cnd (aC (ieq y1.snd 0)) (some (Sum.inr (Sum.inl false))) (some (Sum.inl (wr .i64 (ak v0 1),v1)))) (some (Sum.inr (Sum.inr v1)))
def yS:iF:=Ad.spec zV [56,57,7,59,60,61,62,58,63,64,8,9,65,66,2,67,55] (fun p v=>jA p.1 p.2 v.1 v.2)
def rP (x0:aj):Option (Bool):=af (oN x0) fun y0 => af (cnd (aC (aC y0)) (pX x0) (some false)) fun y1 => cnd (bor (aC y0) (aC y1)) (some false) (af (og x0) fun y2 => cnd (aC y2.snd) (some false) (af (bF (fun v => jD (len x0.cells) x0.cells v.fst v.snd.fst v.snd.snd) LF (0,false,y2.fst)) fun y3 => qf y3 (fun y4 => some y4.fst) fun y4 => af (bF (fun v => jA x0.accounts x0 v.fst v.snd) LF (0,y4.fst)) fun y5 => qf y5 (fun y6 => some y6) fun y6 => some true))
noncomputable def rQ:Cx:={ P:=PG,ety:=ety,fn:=look [(120,uq),(121,vN),(122,sV),(123,jd),(125,kL),(124,sW)],inl:=eU [],lp:=aY [(51,250,yB),(51,506,yS)] }
theorem Gg (p0:Int) (p1:(List aS)) (v0:Int) (v1:Bool) (v2:(List aS)):jW rQ 900 51 250 (gJ PG 51 250) Ai zX (p0,p1) (v0,v1,v2)=jD p0 p1 v0 v1 v2:=by kernel_rfl
theorem GZ (p0:Int) (p1:aj) (v0:Int) (v1:Bool):jW rQ 900 51 506 (gJ PG 51 506) Ad zV (p0,p1) (v0,v1)=jA p0 p1 v0 v1:=by kernel_rfl
theorem KW (x0:aj):bP rQ 51 [.val .state] [.bool] x0=rP x0:=by kernel_rfl
def tZ:aV:=mkSpec [.val .state] [.bool] true (fun x=>rP x)
theorem Oj:dJ PG 51 tZ:=
 have K:CxR rQ:=aX.cx (fun _=>rfl) (l:=[(120,uq),(121,vN),(122,sV),(123,jd),(125,kL),(124,sW)]) ⟨Nc,PK,Na,yh,Bz,NW,trivial⟩
 aJ K (aI (l:=[(51,250,yB),(51,506,yS)]) rfl ⟨dN (n:=900) (f:=51) K (by kernel_rfl) (by kernel_rfl) (by kernel_rfl) (by kernel_rfl) (by kernel_rfl) (fun p v r h=>(Gg p.1 p.2 v.1 v.2.1 v.2.2).trans h),
  dN (n:=900) (f:=51) K (by kernel_rfl) (by kernel_rfl) (by kernel_rfl) (by kernel_rfl) (by kernel_rfl) (fun p v r h=>(GZ p.1 p.2 v.1 v.2).trans h),trivial⟩) (by kernel_rfl) (fun x y h=>(KW x).trans h) rfl rfl
def jT (x0:aj):Option (Bool):=af (rP x0) fun y0 => some y0
noncomputable def Tv:Cx:={ P:=PG,ety:=ety,fn:=look [(51,tZ)],inl:=eU [],lp:=aY [] }
theorem Wj (x0:aj):bP Tv 18 [.val .state] [.bool] x0=jT x0:=by kernel_rfl
def jb:aV:=mkSpec [.val .state] [.bool] true (fun x=>jT x)
theorem yg:dJ PG 18 jb:=
 have K:CxR Tv:=aX.cx (fun _=>rfl) (l:=[(51,tZ)]) ⟨Oj,trivial⟩
 aJ K (aI (l:=[]) rfl trivial) (by kernel_rfl) (fun x y h=>(Wj x).trans h) rfl rfl
def LK (x0:Int) (x1:Int) (x2:dP) (x3:Int):Option (aj×Int):=cnd (bor (bor (bor (ilt x0 1) (ilt 8 x0)) (ilt x1 1)) (ilt 8 x1)) (some (aj.mk 0 0 [] [] [] [] false 0 0 0,1)) (cnd (band (band (ile 0 (wr .i64 (jr x0 x1))) (ile (wr .i64 (jr x0 x1)) (wr .i64 (jr x0 x1)))) (ile (wr .i64 (jr x0 x1)) 68719476736)) (af (rE [x2] (wr .i64 (jr x0 x1))) fun y0 => af (vO [x3] x0) fun y1 => af (jT (aj.mk x0 x1 [] (ja aS (itn (wr .i64 (jr x0 x1)))) y0 y1 false 0 0 0)) fun y2 => cnd (aC y2) (some (aj.mk 0 0 [] [] [] [] false 0 0 0,1)) (some (aj.mk x0 x1 [] (ja aS (itn (wr .i64 (jr x0 x1)))) y0 y1 false 0 0 0,0))) none)
noncomputable def Y5:Cx:={ P:=PG,ety:=ety,fn:=look [(57,oZ),(58,rG),(18,jb)],inl:=eU [],lp:=aY [] }
theorem ZQ (x0:Int) (x1:Int) (x2:dP) (x3:Int):bP Y5 22 [.int .i64,.int .i64,.val .expo,.int .i64] [.val .state,.int .i64] (x0,x1,x2,x3)=LK x0 x1 x2 x3:=by kernel_rfl
def Jk:aV:=mkSpec [.int .i64,.int .i64,.val .expo,.int .i64] [.val .state,.int .i64] false (fun x=>LK x.1 x.2.1 x.2.2.1 x.2.2.2)
theorem ad7:dJ PG 22 Jk:=
 have K:CxR Y5:=aX.cx (fun _=>rfl) (l:=[(57,oZ),(58,rG),(18,jb)]) ⟨Hw,KP,yg,trivial⟩
 aJ K (aI (l:=[]) rfl trivial) (by kernel_rfl) (fun x y h=>(ZQ x.1 x.2.1 x.2.2.1 x.2.2.2).trans h) rfl rfl
def eG (x0:(List aG)):Option ((List aG)):=TL (len x0) fun y0 => cnd (beq y0 true) (some []) (cnd (ile (len x0) 68719476736) (some x0) none)
noncomputable def yj:Cx:={ P:=PG,ety:=ety,fn:=look [],inl:=eU [],lp:=aY [] }
theorem E8 (x0:(List aG)):bP yj 132 [.ro .order] [.buf .order] x0=eG x0:=by kernel_rfl
def o6:aV:=mkSpec [.ro .order] [.buf .order] true (fun x=>eG x)
theorem H6:dJ PG 132 o6:=
 have K:CxR yj:=aX.cx (fun _=>rfl) (l:=[]) trivial
 aJ K (aI (l:=[]) rfl trivial) (by kernel_rfl) (fun x y h=>(E8 x).trans h) rfl rfl
def fC (x0:(List aS)):Option ((List aS)):=TL (len x0) fun y0 => cnd (beq y0 true) (some []) (cnd (ile (len x0) 68719476736) (some x0) none)
noncomputable def zO:Cx:={ P:=PG,ety:=ety,fn:=look [],inl:=eU [],lp:=aY [] }
theorem FT (x0:(List aS)):bP zO 133 [.ro .cell] [.buf .cell] x0=fC x0:=by kernel_rfl
def qo:aV:=mkSpec [.ro .cell] [.buf .cell] true (fun x=>fC x)
theorem I9:dJ PG 133 qo:=
 have K:CxR zO:=aX.cx (fun _=>rfl) (l:=[]) trivial
 aJ K (aI (l:=[]) rfl trivial) (by kernel_rfl) (fun x y h=>(FT x).trans h) rfl rfl
def fA (x0:(List dP)):Option ((List dP)):=TL (len x0) fun y0 => cnd (beq y0 true) (some []) (cnd (ile (len x0) 68719476736) (some x0) none)
noncomputable def zF:Cx:={ P:=PG,ety:=ety,fn:=look [],inl:=eU [],lp:=aY [] }
theorem GL (x0:(List dP)):bP zF 134 [.ro .expo] [.buf .expo] x0=fA x0:=by kernel_rfl
def qp:aV:=mkSpec [.ro .expo] [.buf .expo] true (fun x=>fA x)
theorem IW:dJ PG 134 qp:=
 have K:CxR zF:=aX.cx (fun _=>rfl) (l:=[]) trivial
 aJ K (aI (l:=[]) rfl trivial) (by kernel_rfl) (fun x y h=>(GL x).trans h) rfl rfl
def iw (x0:(List Int)):Option ((List Int)):=TL (len x0) fun y0 => cnd (beq y0 true) (some []) (cnd (ile (len x0) 68719476736) (some x0) none)
noncomputable def D8:Cx:={ P:=PG,ety:=ety,fn:=look [],inl:=eU [],lp:=aY [] }
theorem Js (x0:(List Int)):bP D8 135 [.ro .i64] [.buf .i64] x0=iw x0:=by kernel_rfl
def sZ:aV:=mkSpec [.ro .i64] [.buf .i64] true (fun x=>iw x)
theorem MR:dJ PG 135 sZ:=
 have K:CxR D8:=aX.cx (fun _=>rfl) (l:=[]) trivial
 aJ K (aI (l:=[]) rfl trivial) (by kernel_rfl) (fun x y h=>(Js x).trans h) rfl rfl
def Dj (x0:vT):Option (aG×Int):=af (cnd (aC (aC (ieq x0.kind 1))) (rC x0) (some false)) fun y0 => cnd (bor (aC (ieq x0.kind 1)) (aC y0)) (some (aG.mk 0 0 0 0 0 0 0 0 0 0 0 false,1)) (some (aG.mk x0.order x0.account x0.symbol x0.side x0.qty x0.price 0 1 0 0 0 false,0))
noncomputable def PW:Cx:={ P:=PG,ety:=ety,fn:=look [(60,lC)],inl:=eU [],lp:=aY [] }
theorem Uj (x0:vT):bP PW 136 [.val .recd] [.val .order,.int .i64] x0=Dj x0:=by kernel_rfl
def BU:aV:=mkSpec [.val .recd] [.val .order,.int .i64] true (fun x=>Dj x)
theorem Zd:dJ PG 136 BU:=
 have K:CxR PW:=aX.cx (fun _=>rfl) (l:=[(60,lC)]) ⟨EX,trivial⟩
 aJ K (aI (l:=[]) rfl trivial) (by kernel_rfl) (fun x y h=>(Uj x).trans h) rfl rfl
def OV (x0:aS):Option (dP×Int):=af (iJ x0) fun y0 => cnd (aC y0) (some (dP.mk 0 0 0,1)) (af (zJ x0) fun y1 => some (y1.fst,0))
noncomputable def abk:Cx:={ P:=PG,ety:=ety,fn:=look [(123,jd),(185,wP)],inl:=eU [],lp:=aY [] }
theorem aci (x0:aS):bP abk 189 [.val .cell] [.val .expo,.int .i64] x0=OV x0:=by kernel_rfl
def KG:aV:=mkSpec [.val .cell] [.val .expo,.int .i64] true (fun x=>OV x)
theorem afw:dJ PG 189 KG:=
 have K:CxR abk:=aX.cx (fun _=>rfl) (l:=[(123,jd),(185,wP)]) ⟨yh,Tm,trivial⟩
 aJ K (aI (l:=[]) rfl trivial) (by kernel_rfl) (fun x y h=>(aci x).trans h) rfl rfl
def yA (x0:dP):Option (SA3):=some (SA3.mk x0.long x0.short x0.opn)
noncomputable def Qo:Cx:={ P:=PG,ety:=ety,fn:=look [],inl:=eU [],lp:=aY [] }
theorem U4 (x0:dP):bP Qo 222 [.val .expo] [.val .a3] x0=yA x0:=by kernel_rfl
def BX:aV:=mkSpec [.val .expo] [.val .a3] true (fun x=>yA x)
theorem YZ:dJ PG 222 BX:=
 have K:CxR Qo:=aX.cx (fun _=>rfl) (l:=[]) trivial
 aJ K (aI (l:=[]) rfl trivial) (by kernel_rfl) (fun x y h=>(U4 x).trans h) rfl rfl
def mJ (x0:Int) (x1:Int) (x2:Int):Option (Bool):=some (ilt (imax x0 x2) x1)
noncomputable def Gv:Cx:={ P:=PG,ety:=ety,fn:=look [],inl:=eU [],lp:=aY [] }
theorem MV (x0:Int) (x1:Int) (x2:Int):bP Gv 191 [.int .i64,.int .i64,.int .i64] [.bool] (x0,x1,x2)=mJ x0 x1 x2:=by kernel_rfl
def mg:aV:=mkSpec [.int .i64,.int .i64,.int .i64] [.bool] true (fun x=>mJ x.1 x.2.1 x.2.2)
theorem EJ:dJ PG 191 mg:=
 have K:CxR Gv:=aX.cx (fun _=>rfl) (l:=[]) trivial
 aJ K (aI (l:=[]) rfl trivial) (by kernel_rfl) (fun x y h=>(MV x.1 x.2.1 x.2.2).trans h) rfl rfl
def Eg (x0:dP) (x1:dP) (x2:dP):Option (Bool):=af (yA x0) fun y0 => af (yA x1) fun y1 => af (yA x2) fun y2 => af (mJ y0.a0 y1.a0 y2.a0) fun y3 => cnd y3 (some true) (af (mJ y0.a1 y1.a1 y2.a1) fun y4 => cnd y4 (some true) (af (mJ y0.a2 y1.a2 y2.a2) fun y5 => cnd y5 (some true) (some false)))
noncomputable def MB:Cx:={ P:=PG,ety:=ety,fn:=look [(222,BX),(191,mg)],inl:=eU [],lp:=aY [] }
theorem QG (x0:dP) (x1:dP) (x2:dP):bP MB 190 [.val .expo,.val .expo,.val .expo] [.bool] (x0,x1,x2)=Eg x0 x1 x2:=by kernel_rfl
def zk:aV:=mkSpec [.val .expo,.val .expo,.val .expo] [.bool] true (fun x=>Eg x.1 x.2.1 x.2.2)
theorem Vr:dJ PG 190 zk:=
 have K:CxR MB:=aX.cx (fun _=>rfl) (l:=[(222,BX),(191,mg)]) ⟨YZ,EJ,trivial⟩
 aJ K (aI (l:=[]) rfl trivial) (by kernel_rfl) (fun x y h=>(QG x.1 x.2.1 x.2.2).trans h) rfl rfl
def gK (x0:aj) (x1:aj) (x2:Int) (x3:Int):Option (Int):=af (bg x0 x2 x3) fun y0 => af (jk x0 x2) fun y1 => af (rF y1) fun y2 => cnd (aC (ieq y2.snd 0)) (some 3) (af (jk x1 x2) fun y3 => af (rF y3) fun y4 => cnd (band (ile 0 y0) (ilt y0 (len x1.cells))) (af (OV (ah x1.cells (itn y0))) fun y5 => cnd (band (ile 0 y0) (ilt y0 (len x0.cells))) (af (OV (ah x0.cells (itn y0))) fun y6 => cnd (band (ile 0 y0) (ilt y0 (len x0.limits))) (af (Eg y5.fst y6.fst (ah x0.limits (itn y0))) fun y7 => cnd (bor (band (ile 0 x2) (ilt x2 (len x0.caps))) (aC (aC y7))) (af (cnd (aC y7) (mJ y4.fst y2.fst (ah x0.caps (itn x2))) (some false)) fun y8 => cnd (bor y7 y8) (some 4) (some 0)) none) none) none) none)
noncomputable def EQ:Cx:={ P:=PG,ety:=ety,fn:=look [(137,fD),(125,kL),(124,sW),(189,KG),(190,zk),(191,mg)],inl:=eU [],lp:=aY [] }
theorem KZ (x0:aj) (x1:aj) (x2:Int) (x3:Int):bP EQ 139 [.val .state,.val .state,.int .i64,.int .i64] [.int .i64] (x0,x1,x2,x3)=gK x0 x1 x2 x3:=by kernel_rfl
def ug:aV:=mkSpec [.val .state,.val .state,.int .i64,.int .i64] [.int .i64] true (fun x=>gK x.1 x.2.1 x.2.2.1 x.2.2.2)
theorem NT:dJ PG 139 ug:=
 have K:CxR EQ:=aX.cx (fun _=>rfl) (l:=[(137,fD),(125,kL),(124,sW),(189,KG),(190,zk),(191,mg)]) ⟨qx,Bz,NW,afw,Vr,EJ,trivial⟩
 aJ K (aI (l:=[]) rfl trivial) (by kernel_rfl) (fun x y h=>(KZ x.1 x.2.1 x.2.2.1 x.2.2.2).trans h) rfl rfl
def kU:LSh:=⟨78,[(7,.int .i64),(0,.ro .order)],[(1,.fn 193 [.mp 24 0])],[(24,[.int .i64])],[(8,.int .i64),(4,.int .i64)],[],[]⟩
@[reducible] def kS:List iQ:=[⟨.ret,[(4,.int .i64)],[],[]⟩,⟨.exit 0,[(4,.int .i64)],[],[]⟩]
def bY (p0:Int) (p1:(List aG)) (p2:Int) (v0:Int) (v1:Int):Option ((Int×Int) ⊕ ((Int) ⊕ ((Int)))):=cnd (ilt v0 p0) (cnd (band (ile 0 v0) (ilt v0 (len p1))) (cnd (ieq (ah p1 (itn v0)).id p2) (some (Sum.inr (Sum.inl v0))) (some (Sum.inl (wr .i64 (ak v0 1),v1)))) none) (some (Sum.inr (Sum.inr v1)))
def kN:iF:=kU.spec kS [9,10,5,11,12,13,14,15,16,17,4,18,8] (fun p v=>bY p.1 p.2.1 p.2.2 v.1 v.2)
def pJ (x0:aj) (x1:Int):Option (Int):=af (bF (fun v => bY (len x0.orders) x0.orders x1 v.fst v.snd) LF (0,0)) fun y0 => qf y0 (fun y1 => some y1) fun y1 => some (-1)
noncomputable def Nv:Cx:={ P:=PG,ety:=ety,fn:=look [],inl:=eU [193,192],lp:=aY [(601295462592,26,kN)] }
theorem qE (p0:Int) (p1:(List aG)) (p2:Int) (v0:Int) (v1:Int):jW Nv 900 601295462592 26 (gJ PG 192 26) kU kS (p0,p1,p2) (v0,v1)=bY p0 p1 p2 v0 v1:=by kernel_rfl
theorem X3 (x0:aj) (x1:Int):bP Nv 140 [.val .state,.int .i64] [.int .i64] (x0,x1)=pJ x0 x1:=by kernel_rfl
def F8:aV:=mkSpec [.val .state,.int .i64] [.int .i64] true (fun x=>pJ x.1 x.2)
theorem ab4:dJ PG 140 F8:=
 have K:CxR Nv:=aX.cx (fun _=>rfl) (l:=[]) trivial
 aJ K (aI (l:=[(601295462592,26,kN)]) rfl ⟨dN (n:=900) (f:=192) K (by kernel_rfl) (by kernel_rfl) (by kernel_rfl) (by kernel_rfl) (by kernel_rfl) (fun p v r h=>(qE p.1 p.2.1 p.2.2 v.1 v.2).trans h),trivial⟩) (by kernel_rfl) (fun x y h=>(X3 x.1 x.2).trans h) rfl rfl
def A8 (x0:aG) (x1:Int) (x2:Int):Option (aG×Int):=af (oz x0.version 1) fun y0 => af (jh x0) fun y1 => cnd (aC y1) (cnd (aC y1) (some (x0,1)) (cnd (aC (ieq x0.phase 2)) (cnd (aC (ieq x0.phase 2)) (some (x0,8)) (some (aG.mk x0.id x0.account x0.symbol x0.side x0.qty x0.price x0.filled x0.phase x1 x2 (wr .i64 (ak x0.version 1)) x0.asked,0))) (af (je x0) fun y2 => cnd y2 (cnd y2 (some (x0,8)) (some (aG.mk x0.id x0.account x0.symbol x0.side x0.qty x0.price x0.filled x0.phase x1 x2 (wr .i64 (ak x0.version 1)) x0.asked,0))) (cnd x0.asked (some (x0,8)) (some (aG.mk x0.id x0.account x0.symbol x0.side x0.qty x0.price x0.filled x0.phase x1 x2 (wr .i64 (ak x0.version 1)) x0.asked,0)))))) (cnd (ilt x1 1) (cnd (ilt x1 1) (some (x0,1)) (cnd (aC (ieq x0.phase 2)) (cnd (aC (ieq x0.phase 2)) (some (x0,8)) (some (aG.mk x0.id x0.account x0.symbol x0.side x0.qty x0.price x0.filled x0.phase x1 x2 (wr .i64 (ak x0.version 1)) x0.asked,0))) (af (je x0) fun y3 => cnd y3 (cnd y3 (some (x0,8)) (some (aG.mk x0.id x0.account x0.symbol x0.side x0.qty x0.price x0.filled x0.phase x1 x2 (wr .i64 (ak x0.version 1)) x0.asked,0))) (cnd x0.asked (some (x0,8)) (some (aG.mk x0.id x0.account x0.symbol x0.side x0.qty x0.price x0.filled x0.phase x1 x2 (wr .i64 (ak x0.version 1)) x0.asked,0)))))) (cnd (ilt x2 1) (cnd (ilt x2 1) (some (x0,1)) (cnd (aC (ieq x0.phase 2)) (cnd (aC (ieq x0.phase 2)) (some (x0,8)) (some (aG.mk x0.id x0.account x0.symbol x0.side x0.qty x0.price x0.filled x0.phase x1 x2 (wr .i64 (ak x0.version 1)) x0.asked,0))) (af (je x0) fun y4 => cnd y4 (cnd y4 (some (x0,8)) (some (aG.mk x0.id x0.account x0.symbol x0.side x0.qty x0.price x0.filled x0.phase x1 x2 (wr .i64 (ak x0.version 1)) x0.asked,0))) (cnd x0.asked (some (x0,8)) (some (aG.mk x0.id x0.account x0.symbol x0.side x0.qty x0.price x0.filled x0.phase x1 x2 (wr .i64 (ak x0.version 1)) x0.asked,0)))))) (cnd (aC (ieq y0.snd 0)) (some (x0,1)) (cnd (aC (ieq x0.phase 2)) (cnd (aC (ieq x0.phase 2)) (some (x0,8)) (some (aG.mk x0.id x0.account x0.symbol x0.side x0.qty x0.price x0.filled x0.phase x1 x2 (wr .i64 (ak x0.version 1)) x0.asked,0))) (af (je x0) fun y5 => cnd y5 (cnd y5 (some (x0,8)) (some (aG.mk x0.id x0.account x0.symbol x0.side x0.qty x0.price x0.filled x0.phase x1 x2 (wr .i64 (ak x0.version 1)) x0.asked,0))) (cnd x0.asked (some (x0,8)) (some (aG.mk x0.id x0.account x0.symbol x0.side x0.qty x0.price x0.filled x0.phase x1 x2 (wr .i64 (ak x0.version 1)) x0.asked,0))))))))
noncomputable def NI:Cx:={ P:=PG,ety:=ety,fn:=look [(59,jP),(180,dQ),(194,kW)],inl:=eU [],lp:=aY [] }
theorem TD (x0:aG) (x1:Int) (x2:Int):bP NI 141 [.val .order,.int .i64,.int .i64] [.val .order,.int .i64] (x0,x1,x2)=A8 x0 x1 x2:=by kernel_rfl
def Bg:aV:=mkSpec [.val .order,.int .i64,.int .i64] [.val .order,.int .i64] true (fun x=>A8 x.1 x.2.1 x.2.2)
theorem WZ:dJ PG 141 Bg:=
 have K:CxR NI:=aX.cx (fun _=>rfl) (l:=[(59,jP),(180,dQ),(194,kW)]) ⟨CS,nJ,CP,trivial⟩
 aJ K (aI (l:=[]) rfl trivial) (by kernel_rfl) (fun x y h=>(TD x.1 x.2.1 x.2.2).trans h) rfl rfl
def Fp (x0:aS) (x1:aG):Option (aS×Int):=af (iJ x0) fun y0 => af (cnd (aC (aC y0)) (jh x1) (some false)) fun y1 => cnd (bor (aC y0) (aC y1)) (some (x0,1)) (af (vJ x1) fun y2 => cnd (ieq x1.side 2) (af (qN x1) fun y3 => af (vI x0.sell y3) fun y4 => af (vI x0.opn y2.fst) fun y5 => af (cnd (aC (bor (bor (aC (ieq y2.snd 0)) (aC (ieq y4.snd 0))) (aC (ieq y5.snd 0)))) (iJ (aS.mk x0.pos x0.buy y4.fst y5.fst)) (some false)) fun y6 => cnd (bor (bor (bor (aC (ieq y2.snd 0)) (aC (ieq y4.snd 0))) (aC (ieq y5.snd 0))) (aC y6)) (some (x0,3)) (some (aS.mk x0.pos x0.buy y4.fst y5.fst,0))) (af (qN x1) fun y7 => af (vI x0.buy y7) fun y8 => af (vI x0.opn y2.fst) fun y9 => af (cnd (aC (bor (bor (aC (ieq y2.snd 0)) (aC (ieq y8.snd 0))) (aC (ieq y9.snd 0)))) (iJ (aS.mk x0.pos y8.fst x0.sell y9.fst)) (some false)) fun y10 => cnd (bor (bor (bor (aC (ieq y2.snd 0)) (aC (ieq y8.snd 0))) (aC (ieq y9.snd 0))) (aC y10)) (some (x0,3)) (some (aS.mk x0.pos y8.fst x0.sell y9.fst,0))))
noncomputable def aaX:Cx:={ P:=PG,ety:=ety,fn:=look [(123,jd),(180,dQ),(220,sH),(221,ve),(195,uG)],inl:=eU [188],lp:=aY [] }
theorem aco (x0:aS) (x1:aG):bP aaX 142 [.val .cell,.val .order] [.val .cell,.int .i64] (x0,x1)=Fp x0 x1:=by kernel_rfl
def Ky:aV:=mkSpec [.val .cell,.val .order] [.val .cell,.int .i64] true (fun x=>Fp x.1 x.2)
theorem ae7:dJ PG 142 Ky:=
 have K:CxR aaX:=aX.cx (fun _=>rfl) (l:=[(123,jd),(180,dQ),(220,sH),(221,ve),(195,uG)]) ⟨yh,nJ,NG,Qg,QV,trivial⟩
 aJ K (aI (l:=[]) rfl trivial) (by kernel_rfl) (fun x y h=>(aco x.1 x.2).trans h) rfl rfl
def Iu (x0:aG):Option (aG×Int):=af (jh x0) fun y0 => cnd (aC y0) (some (x0,1)) (cnd (ieq x0.phase 3) (cnd (ieq x0.phase 3) (some (x0,8)) (some (aG.mk x0.id x0.account x0.symbol x0.side x0.qty x0.price x0.filled x0.phase x0.newQty x0.newPrice x0.version true,0))) (cnd x0.asked (some (x0,8)) (some (aG.mk x0.id x0.account x0.symbol x0.side x0.qty x0.price x0.filled x0.phase x0.newQty x0.newPrice x0.version true,0))))
noncomputable def VN:Cx:={ P:=PG,ety:=ety,fn:=look [(180,dQ)],inl:=eU [],lp:=aY [] }
theorem YU (x0:aG):bP VN 143 [.val .order] [.val .order,.int .i64] x0=Iu x0:=by kernel_rfl
def G7:aV:=mkSpec [.val .order] [.val .order,.int .i64] true (fun x=>Iu x)
theorem acQ:dJ PG 143 G7:=
 have K:CxR VN:=aX.cx (fun _=>rfl) (l:=[(180,dQ)]) ⟨nJ,trivial⟩
 aJ K (aI (l:=[]) rfl trivial) (by kernel_rfl) (fun x y h=>(YU x).trans h) rfl rfl
def LJ (x0:D7):Option (vT):=some (vT.mk 6 x0.order 0 0 0 x0.qty x0.price 0 0 0 false x0.seq x0.what)
noncomputable def SG:Cx:={ P:=PG,ety:=ety,fn:=look [],inl:=eU [],lp:=aY [] }
theorem Wy (x0:D7):bP SG 196 [.val .note] [.val .recd] x0=LJ x0:=by kernel_rfl
def Ey:aV:=mkSpec [.val .note] [.val .recd] true (fun x=>LJ x)
theorem Z4:dJ PG 196 Ey:=
 have K:CxR SG:=aX.cx (fun _=>rfl) (l:=[]) trivial
 aJ K (aI (l:=[]) rfl trivial) (by kernel_rfl) (fun x y h=>(Wy x).trans h) rfl rfl
def uU (x0:aG):Option (aG):=some (aG.mk x0.id x0.account x0.symbol x0.side x0.qty x0.price x0.filled x0.phase 0 0 x0.version x0.asked)
noncomputable def MF:Cx:={ P:=PG,ety:=ety,fn:=look [],inl:=eU [],lp:=aY [] }
theorem QD (x0:aG):bP MF 224 [.val .order] [.val .order] x0=uU x0:=by kernel_rfl
def pW:aV:=mkSpec [.val .order] [.val .order] true (fun x=>uU x)
theorem Ju:dJ PG 224 pW:=
 have K:CxR MF:=aX.cx (fun _=>rfl) (l:=[]) trivial
 aJ K (aI (l:=[]) rfl trivial) (by kernel_rfl) (fun x y h=>(QD x).trans h) rfl rfl
def Ar (x0:aG):Option (aG):=af (uU (aG.mk x0.id x0.account x0.symbol x0.side x0.qty x0.price x0.filled 3 x0.newQty x0.newPrice x0.version x0.asked)) fun y0 => some y0
noncomputable def Si:Cx:={ P:=PG,ety:=ety,fn:=look [(224,pW)],inl:=eU [],lp:=aY [] }
theorem Wx (x0:aG):bP Si 223 [.val .order] [.val .order] x0=Ar x0:=by kernel_rfl
def uT:aV:=mkSpec [.val .order] [.val .order] true (fun x=>Ar x)
theorem Qc:dJ PG 223 uT:=
 have K:CxR Si:=aX.cx (fun _=>rfl) (l:=[(224,pW)]) ⟨Ju,trivial⟩
 aJ K (aI (l:=[]) rfl trivial) (by kernel_rfl) (fun x y h=>(Wx x).trans h) rfl rfl
def La (x0:aG) (x1:D7):Option (aG×Bool):=cnd (ieq x1.what 1) (some (aG.mk x0.id x0.account x0.symbol x0.side x0.qty x0.price x0.filled 2 x0.newQty x0.newPrice x0.version x0.asked,true)) (cnd (ieq x1.what 2) (af (Ar x0) fun y0 => some (y0,true)) (some (x0,false)))
noncomputable def RF:Cx:={ P:=PG,ety:=ety,fn:=look [(223,uT)],inl:=eU [],lp:=aY [] }
theorem W9 (x0:aG) (x1:D7):bP RF 197 [.val .order,.val .note] [.val .order,.bool] (x0,x1)=La x0 x1:=by kernel_rfl
def En:aV:=mkSpec [.val .order,.val .note] [.val .order,.bool] true (fun x=>La x.1 x.2)
theorem ZX:dJ PG 197 En:=
 have K:CxR RF:=aX.cx (fun _=>rfl) (l:=[(223,uT)]) ⟨Qc,trivial⟩
 aJ K (aI (l:=[]) rfl trivial) (by kernel_rfl) (fun x y h=>(W9 x.1 x.2).trans h) rfl rfl
def Kv (x0:aG) (x1:D7):Option (aG×Bool):=cnd (ieq x1.what 3) (cnd (ilt (wr .i64 (aF x0.qty x0.filled)) x1.qty) (some (x0,false)) (cnd (ilt (wr .i64 (ak x0.filled x1.qty)) x0.qty) (some (aG.mk x0.id x0.account x0.symbol x0.side x0.qty x0.price (wr .i64 (ak x0.filled x1.qty)) x0.phase x0.newQty x0.newPrice x0.version x0.asked,true)) (af (Ar (aG.mk x0.id x0.account x0.symbol x0.side x0.qty x0.price (wr .i64 (ak x0.filled x1.qty)) x0.phase x0.newQty x0.newPrice x0.version x0.asked)) fun y0 => some (y0,true)))) (cnd (ieq x1.what 4) (af (Ar x0) fun y1 => some (y1,true)) (cnd (ieq x1.what 5) (af (je x0) fun y2 => cnd (bor (bor (bor (aC y2) (aC (ieq x1.qty x0.newQty))) (aC (ieq x1.price x0.newPrice))) (ile x1.qty x0.filled)) (some (x0,false)) (af (uU (aG.mk x0.id x0.account x0.symbol x0.side x1.qty x1.price x0.filled x0.phase x0.newQty x0.newPrice x0.version x0.asked)) fun y3 => some (y3,true))) (cnd (ieq x1.what 6) (af (uU x0) fun y4 => af (je x0) fun y5 => some (y4,y5)) (some (x0,false)))))
noncomputable def TB:Cx:={ P:=PG,ety:=ety,fn:=look [(223,uT),(194,kW),(224,pW)],inl:=eU [],lp:=aY [] }
theorem WR (x0:aG) (x1:D7):bP TB 198 [.val .order,.val .note] [.val .order,.bool] (x0,x1)=Kv x0 x1:=by kernel_rfl
def Eo:aV:=mkSpec [.val .order,.val .note] [.val .order,.bool] true (fun x=>Kv x.1 x.2)
theorem ZR:dJ PG 198 Eo:=
 have K:CxR TB:=aX.cx (fun _=>rfl) (l:=[(223,uT),(194,kW),(224,pW)]) ⟨Qc,CP,Ju,trivial⟩
 aJ K (aI (l:=[]) rfl trivial) (by kernel_rfl) (fun x y h=>(WR x.1 x.2).trans h) rfl rfl
def E5 (x0:aG) (x1:D7):Option (aG×Int):=af (jh x0) fun y0 => af (cnd (aC (aC y0)) (LJ x1) (some (vT.mk 0 0 0 0 0 0 0 0 0 0 false 0 0))) fun y1 => af (cnd (aC (aC y0)) (rC y1) (some false)) fun y2 => cnd (bor (bor (aC y0) (aC y2)) (aC (ieq x1.order x0.id))) (some (x0,1)) (cnd (ieq x0.phase 1) (af (La x0 x1) fun y3 => cnd (aC y3.snd) (some (x0,8)) (some (y3.fst,0))) (cnd (ieq x0.phase 2) (af (Kv x0 x1) fun y4 => cnd (aC y4.snd) (some (x0,8)) (some (y4.fst,0))) (some (x0,8))))
noncomputable def SC:Cx:={ P:=PG,ety:=ety,fn:=look [(180,dQ),(196,Ey),(60,lC),(197,En),(198,Eo)],inl:=eU [],lp:=aY [] }
theorem WN (x0:aG) (x1:D7):bP SC 144 [.val .order,.val .note] [.val .order,.int .i64] (x0,x1)=E5 x0 x1:=by kernel_rfl
def Ep:aV:=mkSpec [.val .order,.val .note] [.val .order,.int .i64] true (fun x=>E5 x.1 x.2)
theorem aaf:dJ PG 144 Ep:=
 have K:CxR SC:=aX.cx (fun _=>rfl) (l:=[(180,dQ),(196,Ey),(60,lC),(197,En),(198,Eo)]) ⟨nJ,Z4,EX,ZX,ZR,trivial⟩
 aJ K (aI (l:=[]) rfl trivial) (by kernel_rfl) (fun x y h=>(WN x.1 x.2).trans h) rfl rfl
def KU (x0:aS) (x1:Int) (x2:Int):Option (aS×Int):=af (iJ x0) fun y0 => cnd (bor (bor (aC y0) (band (aC (ieq x1 1)) (aC (ieq x1 2)))) (ilt x2 0)) (some (x0,1)) (cnd (ieq x1 1) (af (oz x0.pos x2) fun y1 => af (cnd (aC (aC (ieq y1.snd 0))) (iJ (aS.mk y1.fst x0.buy x0.sell x0.opn)) (some false)) fun y2 => cnd (bor (aC (ieq y1.snd 0)) (aC y2)) (some (x0,3)) (some (aS.mk y1.fst x0.buy x0.sell x0.opn,0))) (af (vI x0.pos x2) fun y3 => af (cnd (aC (aC (ieq y3.snd 0))) (iJ (aS.mk y3.fst x0.buy x0.sell x0.opn)) (some false)) fun y4 => cnd (bor (aC (ieq y3.snd 0)) (aC y4)) (some (x0,3)) (some (aS.mk y3.fst x0.buy x0.sell x0.opn,0))))
noncomputable def YA:Cx:={ P:=PG,ety:=ety,fn:=look [(123,jd),(59,jP),(195,uG)],inl:=eU [],lp:=aY [] }
theorem aai (x0:aS) (x1:Int) (x2:Int):bP YA 145 [.val .cell,.int .i64,.int .i64] [.val .cell,.int .i64] (x0,x1,x2)=KU x0 x1 x2:=by kernel_rfl
def IV:aV:=mkSpec [.val .cell,.int .i64,.int .i64] [.val .cell,.int .i64] true (fun x=>KU x.1 x.2.1 x.2.2)
theorem aey:dJ PG 145 IV:=
 have K:CxR YA:=aX.cx (fun _=>rfl) (l:=[(123,jd),(59,jP),(195,uG)]) ⟨yh,CS,QV,trivial⟩
 aJ K (aI (l:=[]) rfl trivial) (by kernel_rfl) (fun x y h=>(aai x.1 x.2.1 x.2.2).trans h) rfl rfl
def iW (x0:(List aG)) (x1:Int) (x2:Int):Option ((List aG)):=cnd (band (band (band (ile 0 x1) (ile x1 x2)) (ile x2 (len x0))) (band (ile x2 (len x0)) (ile (len x0) (len x0)))) (cnd (ieq x1 x2) (some x0) (cnd (band (ile 0 x1) (ile x1 (len x0))) (cnd (band (ile 0 x2) (ile x2 (len x0))) (cnd (ile (ak (nti (itn x1)) (len (aB (aH x0 (itn x2)) (itn (aF (len x0) x2))))) (len x0)) (cnd (band (band (ile 0 (nti (nad (itn x1) (itn (len (aB (aH x0 (itn x2)) (itn (aF (len x0) x2)))))))) (ile (nti (nad (itn x1) (itn (len (aB (aH x0 (itn x2)) (itn (aF (len x0) x2))))))) (len x0))) (ile (len x0) (aF (len (dY x0 (itn x1) (aB (aH x0 (itn x2)) (itn (aF (len x0) x2))))) 0))) (some (aB (aH (dY (dY x0 (itn x1) (aB (aH x0 (itn x2)) (itn (aF (len x0) x2)))) (nad 0 (itn (nti (nad (itn x1) (itn (len (aB (aH x0 (itn x2)) (itn (aF (len x0) x2))))))))) (ja aG (itn (aF (len x0) (nti (nad (itn x1) (itn (len (aB (aH x0 (itn x2)) (itn (aF (len x0) x2))))))))))) 0) (nad (itn x1) (itn (len (aB (aH x0 (itn x2)) (itn (aF (len x0) x2)))))))) none) none) none) none)) none
noncomputable def xM:Cx:={ P:=PG,ety:=ety,fn:=look [],inl:=eU [],lp:=aY [] }
theorem Ej (x0:(List aG)) (x1:Int) (x2:Int):bP xM 146 [.buf .order,.int .i64,.int .i64] [.ro .order] (x0,x1,x2)=iW x0 x1 x2:=by kernel_rfl
def oK:aV:=mkSpec [.buf .order,.int .i64,.int .i64] [.ro .order] false (fun x=>iW x.1 x.2.1 x.2.2)
theorem FQ:dJ PG 146 oK:=
 have K:CxR xM:=aX.cx (fun _=>rfl) (l:=[]) trivial
 aJ K (aI (l:=[]) rfl trivial) (by kernel_rfl) (fun x y h=>(Ej x.1 x.2.1 x.2.2).trans h) rfl rfl
def JQ (x0:aj) (x1:vT):Option (aj×Int):=af (oz x0.lsn 1) fun y0 => af (cnd (aC (bor (aC (ieq y0.snd 0)) (ile 1000000000 x0.lsn))) (rC x1) (some false)) fun y1 => af (cnd (aC (bor (bor (aC (ieq y0.snd 0)) (ile 1000000000 x0.lsn)) (aC y1))) (jT x0) (some false)) fun y2 => cnd (bor (bor (bor (aC (ieq y0.snd 0)) (ile 1000000000 x0.lsn)) (aC y1)) (aC y2)) (some (x0,1)) (af (eG x0.orders) fun y3 => af (fC x0.cells) fun y4 => af (fA x0.limits) fun y5 => af (iw x0.caps) fun y6 => cnd (ieq x1.kind 1) (af (Dj x1) fun y7 => cnd (ile x1.order x0.last) (cnd (ile x1.order x0.last) (some (x0,1)) (cnd x0.kill (some (x0,5)) (cnd (ieq (len y3) 64) (some (x0,6)) (af (eG y3) fun y8 => af (fC y4) fun y9 => af (fA y5) fun y10 => af (iw y6) fun y11 => af (bg (aj.mk x0.accounts x0.symbols y3 y4 y5 y6 x0.kill x0.last x0.seq x0.lsn) y7.fst.account y7.fst.symbol) fun y12 => cnd (band (ile 0 y12) (ilt y12 (len y4))) (af (iI (ah y4 (itn y12)) y7.fst) fun y13 => cnd (aC (ieq y13.snd 0)) (some (x0,3)) (cnd (ile (len (jQ y3 [y7.fst])) 68719476736) (af (gK (aj.mk x0.accounts x0.symbols (jQ y3 [y7.fst]) (bf y4 (itn y12) y13.fst) y5 y6 x0.kill y7.fst.id x0.seq x0.lsn) (aj.mk x0.accounts x0.symbols y8 y9 y10 y11 x0.kill x0.last x0.seq x0.lsn) y7.fst.account y7.fst.symbol) fun y14 => cnd (aC (ieq y14 0)) (some (x0,y14)) (some (aj.mk x0.accounts x0.symbols (jQ y3 [y7.fst]) (bf y4 (itn y12) y13.fst) y5 y6 x0.kill y7.fst.id x0.seq (wr .i64 (ak x0.lsn 1)),0))) none)) none)))) (cnd (ile x0.accounts x1.account) (cnd (ile x0.accounts x1.account) (some (x0,1)) (cnd x0.kill (some (x0,5)) (cnd (ieq (len y3) 64) (some (x0,6)) (af (eG y3) fun y15 => af (fC y4) fun y16 => af (fA y5) fun y17 => af (iw y6) fun y18 => af (bg (aj.mk x0.accounts x0.symbols y3 y4 y5 y6 x0.kill x0.last x0.seq x0.lsn) y7.fst.account y7.fst.symbol) fun y19 => cnd (band (ile 0 y19) (ilt y19 (len y4))) (af (iI (ah y4 (itn y19)) y7.fst) fun y20 => cnd (aC (ieq y20.snd 0)) (some (x0,3)) (cnd (ile (len (jQ y3 [y7.fst])) 68719476736) (af (gK (aj.mk x0.accounts x0.symbols (jQ y3 [y7.fst]) (bf y4 (itn y19) y20.fst) y5 y6 x0.kill y7.fst.id x0.seq x0.lsn) (aj.mk x0.accounts x0.symbols y15 y16 y17 y18 x0.kill x0.last x0.seq x0.lsn) y7.fst.account y7.fst.symbol) fun y21 => cnd (aC (ieq y21 0)) (some (x0,y21)) (some (aj.mk x0.accounts x0.symbols (jQ y3 [y7.fst]) (bf y4 (itn y19) y20.fst) y5 y6 x0.kill y7.fst.id x0.seq (wr .i64 (ak x0.lsn 1)),0))) none)) none)))) (cnd (ile x0.symbols x1.symbol) (some (x0,1)) (cnd x0.kill (some (x0,5)) (cnd (ieq (len y3) 64) (some (x0,6)) (af (eG y3) fun y22 => af (fC y4) fun y23 => af (fA y5) fun y24 => af (iw y6) fun y25 => af (bg (aj.mk x0.accounts x0.symbols y3 y4 y5 y6 x0.kill x0.last x0.seq x0.lsn) y7.fst.account y7.fst.symbol) fun y26 => cnd (band (ile 0 y26) (ilt y26 (len y4))) (af (iI (ah y4 (itn y26)) y7.fst) fun y27 => cnd (aC (ieq y27.snd 0)) (some (x0,3)) (cnd (ile (len (jQ y3 [y7.fst])) 68719476736) (af (gK (aj.mk x0.accounts x0.symbols (jQ y3 [y7.fst]) (bf y4 (itn y26) y27.fst) y5 y6 x0.kill y7.fst.id x0.seq x0.lsn) (aj.mk x0.accounts x0.symbols y22 y23 y24 y25 x0.kill x0.last x0.seq x0.lsn) y7.fst.account y7.fst.symbol) fun y28 => cnd (aC (ieq y28 0)) (some (x0,y28)) (some (aj.mk x0.accounts x0.symbols (jQ y3 [y7.fst]) (bf y4 (itn y26) y27.fst) y5 y6 x0.kill y7.fst.id x0.seq (wr .i64 (ak x0.lsn 1)),0))) none)) none)))))) (cnd (ieq x1.kind 2) (af (pJ (aj.mk x0.accounts x0.symbols y3 y4 y5 y6 x0.kill x0.last x0.seq x0.lsn) x1.order) fun y29 => cnd (ieq y29 (-1)) (some (x0,7)) (cnd (band (ile 0 y29) (ilt y29 (len y3))) (af (A8 (ah y3 (itn y29)) x1.qty x1.price) fun y30 => cnd (aC (ieq y30.snd 0)) (some (x0,8)) (cnd x0.kill (some (x0,5)) (af (eG y3) fun y31 => af (fC y4) fun y32 => af (fA y5) fun y33 => af (iw y6) fun y34 => af (bg (aj.mk x0.accounts x0.symbols y3 y4 y5 y6 x0.kill x0.last x0.seq x0.lsn) (ah y3 (itn y29)).account (ah y3 (itn y29)).symbol) fun y35 => cnd (band (ile 0 y35) (ilt y35 (len y4))) (af (Fp (ah y4 (itn y35)) (ah y3 (itn y29))) fun y36 => af (iI y36.fst y30.fst) fun y37 => cnd (aC (ieq y37.snd 0)) (some (x0,3)) (cnd (band (ile 0 y29) (ilt y29 (len y3))) (af (gK (aj.mk x0.accounts x0.symbols (bf y3 (itn y29) y30.fst) (bf y4 (itn y35) y37.fst) y5 y6 x0.kill x0.last x0.seq x0.lsn) (aj.mk x0.accounts x0.symbols y31 y32 y33 y34 x0.kill x0.last x0.seq x0.lsn) (ah y3 (itn y29)).account (ah y3 (itn y29)).symbol) fun y38 => cnd (aC (ieq y38 0)) (some (x0,y38)) (some (aj.mk x0.accounts x0.symbols (bf y3 (itn y29) y30.fst) (bf y4 (itn y35) y37.fst) y5 y6 x0.kill x0.last x0.seq (wr .i64 (ak x0.lsn 1)),0))) none)) none))) none)) (cnd (ieq x1.kind 3) (af (pJ (aj.mk x0.accounts x0.symbols y3 y4 y5 y6 x0.kill x0.last x0.seq x0.lsn) x1.order) fun y39 => cnd (ieq y39 (-1)) (some (x0,7)) (cnd (band (ile 0 y39) (ilt y39 (len y3))) (af (Iu (ah y3 (itn y39))) fun y40 => cnd (band (ile 0 y39) (ilt y39 (len y3))) (cnd (aC (ieq y40.snd 0)) (some (x0,y40.snd)) (some (aj.mk x0.accounts x0.symbols (bf y3 (itn y39) y40.fst) y4 y5 y6 x0.kill x0.last x0.seq (wr .i64 (ak x0.lsn 1)),0))) none) none)) (cnd (ieq x1.kind 4) (cnd (ile x0.accounts x1.account) (cnd (ile x0.accounts x1.account) (some (x0,1)) (cnd (ieq x1.symbol (-1)) (cnd (band (ile 0 x1.account) (ilt x1.account (len y6))) (some (aj.mk x0.accounts x0.symbols y3 y4 y5 (bf y6 (itn x1.account) x1.opn) x0.kill x0.last x0.seq (wr .i64 (ak x0.lsn 1)),0)) none) (af (bg (aj.mk x0.accounts x0.symbols y3 y4 y5 y6 x0.kill x0.last x0.seq x0.lsn) x1.account x1.symbol) fun y41 => cnd (band (ile 0 y41) (ilt y41 (len y5))) (some (aj.mk x0.accounts x0.symbols y3 y4 (bf y5 (itn y41) (dP.mk x1.long x1.short x1.opn)) y6 x0.kill x0.last x0.seq (wr .i64 (ak x0.lsn 1)),0)) none))) (cnd (ile x0.symbols x1.symbol) (some (x0,1)) (cnd (ieq x1.symbol (-1)) (cnd (band (ile 0 x1.account) (ilt x1.account (len y6))) (some (aj.mk x0.accounts x0.symbols y3 y4 y5 (bf y6 (itn x1.account) x1.opn) x0.kill x0.last x0.seq (wr .i64 (ak x0.lsn 1)),0)) none) (af (bg (aj.mk x0.accounts x0.symbols y3 y4 y5 y6 x0.kill x0.last x0.seq x0.lsn) x1.account x1.symbol) fun y42 => cnd (band (ile 0 y42) (ilt y42 (len y5))) (some (aj.mk x0.accounts x0.symbols y3 y4 (bf y5 (itn y42) (dP.mk x1.long x1.short x1.opn)) y6 x0.kill x0.last x0.seq (wr .i64 (ak x0.lsn 1)),0)) none)))) (cnd (ieq x1.kind 5) (some (aj.mk x0.accounts x0.symbols y3 y4 y5 y6 x1.on x0.last x0.seq (wr .i64 (ak x0.lsn 1)),0)) (cnd (aC (ieq x1.seq (wr .i64 (ak x0.seq 1)))) (some (x0,11)) (af (pJ (aj.mk x0.accounts x0.symbols y3 y4 y5 y6 x0.kill x0.last x1.seq x0.lsn) x1.order) fun y43 => cnd (ieq y43 (-1)) (some (aj.mk x0.accounts x0.symbols y3 y4 y5 y6 x0.kill x0.last x1.seq (wr .i64 (ak x0.lsn 1)),0)) (cnd (band (ile 0 y43) (ilt y43 (len y3))) (af (E5 (ah y3 (itn y43)) (D7.mk x1.seq x1.what x1.order x1.qty x1.price)) fun y44 => cnd (aC (ieq y44.snd 0)) (some (aj.mk x0.accounts x0.symbols y3 y4 y5 y6 x0.kill x0.last x1.seq (wr .i64 (ak x0.lsn 1)),0)) (af (bg (aj.mk x0.accounts x0.symbols y3 y4 y5 y6 x0.kill x0.last x1.seq x0.lsn) (ah y3 (itn y43)).account (ah y3 (itn y43)).symbol) fun y45 => cnd (band (ile 0 y45) (ilt y45 (len y4))) (af (Fp (ah y4 (itn y45)) (ah y3 (itn y43))) fun y46 => af (iI (ah (bf y4 (itn y45) y46.fst) (itn y45)) y44.fst) fun y47 => cnd (ieq x1.what 3) (af (KU (ah (bf (bf y4 (itn y45) y46.fst) (itn y45) y47.fst) (itn y45)) (ah y3 (itn y43)).side x1.qty) fun y48 => cnd (band (ile 0 y43) (ilt y43 (len y3))) (cnd (ieq y44.fst.phase 3) (af (iW (bf y3 (itn y43) y44.fst) y43 (wr .i64 (ak y43 1))) fun y49 => some (aj.mk x0.accounts x0.symbols y49 (bf (bf (bf y4 (itn y45) y46.fst) (itn y45) y47.fst) (itn y45) y48.fst) y5 y6 x0.kill x0.last x1.seq (wr .i64 (ak x0.lsn 1)),0)) (some (aj.mk x0.accounts x0.symbols (bf y3 (itn y43) y44.fst) (bf (bf (bf y4 (itn y45) y46.fst) (itn y45) y47.fst) (itn y45) y48.fst) y5 y6 x0.kill x0.last x1.seq (wr .i64 (ak x0.lsn 1)),0))) none) (cnd (band (ile 0 y43) (ilt y43 (len y3))) (cnd (ieq y44.fst.phase 3) (af (iW (bf y3 (itn y43) y44.fst) y43 (wr .i64 (ak y43 1))) fun y50 => some (aj.mk x0.accounts x0.symbols y50 (bf (bf y4 (itn y45) y46.fst) (itn y45) y47.fst) y5 y6 x0.kill x0.last x1.seq (wr .i64 (ak x0.lsn 1)),0)) (some (aj.mk x0.accounts x0.symbols (bf y3 (itn y43) y44.fst) (bf (bf y4 (itn y45) y46.fst) (itn y45) y47.fst) y5 y6 x0.kill x0.last x1.seq (wr .i64 (ak x0.lsn 1)),0))) none)) none)) none))))))))
noncomputable def abr:Cx:={ P:=PG,ety:=ety,fn:=look [(59,jP),(60,lC),(18,jb),(132,o6),(133,qo),(134,qp),(135,sZ),(136,BU),(137,fD),(138,qw),(139,ug),(140,F8),(141,Bg),(142,Ky),(143,G7),(144,Ep),(145,IV),(146,oK)],inl:=eU [61,62,63,64,65,66],lp:=aY [] }
theorem ac1 (x0:aj) (x1:vT):bP abr 23 [.val .state,.val .recd] [.val .state,.int .i64] (x0,x1)=JQ x0 x1:=by kernel_rfl
def Ku:aV:=mkSpec [.val .state,.val .recd] [.val .state,.int .i64] false (fun x=>JQ x.1 x.2)
theorem afn:dJ PG 23 Ku:=
 have K:CxR abr:=aX.cx (fun _=>rfl) (l:=[(59,jP),(60,lC),(18,jb),(132,o6),(133,qo),(134,qp),(135,sZ),(136,BU),(137,fD),(138,qw),(139,ug),(140,F8),(141,Bg),(142,Ky),(143,G7),(144,Ep),(145,IV),(146,oK)]) ⟨CS,EX,yg,H6,I9,IW,MR,Zd,qx,Kr,NT,ab4,WZ,ae7,acQ,aaf,aey,FQ,trivial⟩
 aJ K (aI (l:=[]) rfl trivial) (by kernel_rfl) (fun x y h=>(ac1 x.1 x.2).trans h) rfl rfl
def DC (x0:Int):Option (Bool):=some (bor (bor (band (ile 97 x0) (ile x0 122)) (band (ile 48 x0) (ile x0 57))) (ieq x0 46))
noncomputable def VA:Cx:={ P:=PG,ety:=ety,fn:=look [],inl:=eU [],lp:=aY [] }
theorem XR (x0:Int):bP VA 187 [.int .u8] [.bool] x0=DC x0:=by kernel_rfl
def FU:aV:=mkSpec [.int .u8] [.bool] true (fun x=>DC x)
theorem acr:dJ PG 187 FU:=
 have K:CxR VA:=aX.cx (fun _=>rfl) (l:=[]) trivial
 aJ K (aI (l:=[]) rfl trivial) (by kernel_rfl) (fun x y h=>(XR x).trans h) rfl rfl
def LU:LSh:=⟨69,[(5,.int .i64),(0,.str)],[],[],[(6,.int .i64),(2,.bool)],[],[]⟩
@[reducible] def Mc:List iQ:=[⟨.ret,[(2,.bool)],[],[]⟩,⟨.exit 0,[(2,.bool)],[],[]⟩]
def qG (p0:Int) (p1:(List UInt8)) (v0:Int) (v1:Bool):Option ((Int×Bool) ⊕ ((Bool) ⊕ ((Bool)))):=cnd (ilt v0 p0) (cnd (band (ile 0 v0) (ilt v0 (len p1))) (af (DC (afF p1 (itn v0))) fun y0 => cnd (aC y0) (some (Sum.inr (Sum.inl false))) (some (Sum.inl (wr .i64 (ak v0 1),v1)))) none) (some (Sum.inr (Sum.inr v1)))
def Jz:iF:=LU.spec Mc [7,8,3,9,10,11,12,13,2,14,6] (fun p v=>qG p.1 p.2 v.1 v.2)
def xJ (x0:(List UInt8)):Option (Bool):=af (bF (fun v => qG (len x0) x0 v.fst v.snd) LF (0,false)) fun y0 => qf y0 (fun y1 => some y1) fun y1 => some (band (ile 1 (len x0)) (ile (len x0) 16))
noncomputable def KX:Cx:={ P:=PG,ety:=ety,fn:=look [(187,FU)],inl:=eU [],lp:=aY [(126,26,Jz)] }
theorem QJ (p0:Int) (p1:(List UInt8)) (v0:Int) (v1:Bool):jW KX 900 126 26 (gJ PG 126 26) LU Mc (p0,p1) (v0,v1)=qG p0 p1 v0 v1:=by kernel_rfl
theorem WT (x0:(List UInt8)):bP KX 126 [.str] [.bool] x0=xJ x0:=by kernel_rfl
def uS:aV:=mkSpec [.str] [.bool] true (fun x=>xJ x)
theorem Qe:dJ PG 126 uS:=
 have K:CxR KX:=aX.cx (fun _=>rfl) (l:=[(187,FU)]) ⟨acr,trivial⟩
 aJ K (aI (l:=[(126,26,Jz)]) rfl ⟨dN (n:=900) (f:=126) K (by kernel_rfl) (by kernel_rfl) (by kernel_rfl) (by kernel_rfl) (by kernel_rfl) (fun p v r h=>(QJ p.1 p.2 v.1 v.2).trans h),trivial⟩) (by kernel_rfl) (fun x y h=>(WT x).trans h) rfl rfl
def J3:LSh:=⟨93,[(29,.int .i64),(28,.ro .file)],[(1,.mp 8 0)],[(8,[.val .disk])],[(30,.int .i64),(3,.int .i64),(2,.bool)],[],[]⟩
@[reducible] def JM:List iQ:=[⟨.ret,[(2,.bool)],[],[]⟩,⟨.exit 0,[(2,.bool)],[],[]⟩]
def pV (p0:Int) (p1:(List ax)) (p2:ai) (v0:Int) (v1:Int) (v2:Bool):Option ((Int×Int×Bool) ⊕ ((Bool) ⊕ ((Bool)))):=cnd (ilt v0 p0) (cnd (band (ile 0 v0) (ilt v0 (len p1))) (af (xJ (ah p1 (itn v0)).name) fun y0 => cnd (bor (band (ile 0 (wr .i64 (aF v0 1))) (ilt (wr .i64 (aF v0 1)) (len p2.files))) (aC (band (aC (aC y0)) (ilt 0 v0)))) (cnd (bor (bor (bor (bor (aC y0) (band (ilt 0 v0) (aC (slt (ah p2.files (itn (wr .i64 (aF v0 1)))).name (ah p1 (itn v0)).name)))) (ilt (ah p1 (itn v0)).sure 0)) (ilt (len (ah p1 (itn v0)).data) (ah p1 (itn v0)).sure)) (ilt v1 (len (ah p1 (itn v0)).data))) (some (Sum.inr (Sum.inl false))) (some (Sum.inl (wr .i64 (ak v0 1),wr .i64 (aF v1 (len (ah p1 (itn v0)).data)),v2)))) none) none) (some (Sum.inr (Sum.inr v2)))
def Ib:iF:=J3.spec JM [31,32,33,34,5,4,35,36,37,38,39,40,41,42,43,44,45,46,47,48,49,50,51,52,53,54,55,56,57,58,59,60,61,62,63,64,65,66,67,68,69,70,71,72,73,74,2,75,76,77,78,79,3,80,30] (fun p v=>pV p.1 p.2.1 p.2.2 v.1 v.2.1 v.2.2)
def qU (x0:ai):Option (Bool):=cnd (bor (bor (bor (ilt x0.room 0) (ilt 65536 x0.room)) (ilt x0.fuse (-1))) (ilt 64 (len x0.files))) (some false) (af (bF (fun v => pV (len x0.files) x0.files x0 v.fst v.snd.fst v.snd.snd) LF (0,x0.room,false)) fun y0 => qf y0 (fun y1 => some y1) fun y1 => some true)
noncomputable def KL:Cx:={ P:=PG,ety:=ety,fn:=look [(126,uS)],inl:=eU [],lp:=aY [(52,122,Ib)] }
theorem Pz (p0:Int) (p1:(List ax)) (p2:ai) (v0:Int) (v1:Int) (v2:Bool):jW KL 900 52 122 (gJ PG 52 122) J3 JM (p0,p1,p2) (v0,v1,v2)=pV p0 p1 p2 v0 v1 v2:=by kernel_rfl
theorem WE (x0:ai):bP KL 52 [.val .disk] [.bool] x0=qU x0:=by kernel_rfl
def oJ:aV:=mkSpec [.val .disk] [.bool] true (fun x=>qU x)
theorem Jg:dJ PG 52 oJ:=
 have K:CxR KL:=aX.cx (fun _=>rfl) (l:=[(126,uS)]) ⟨Qe,trivial⟩
 aJ K (aI (l:=[(52,122,Ib)]) rfl ⟨dN (n:=900) (f:=52) K (by kernel_rfl) (by kernel_rfl) (by kernel_rfl) (by kernel_rfl) (by kernel_rfl) (fun p v r h=>(Pz p.1 p.2.1 p.2.2 v.1 v.2.1 v.2.2).trans h),trivial⟩) (by kernel_rfl) (fun x y h=>(WE x).trans h) rfl rfl
def jH (x0:Int):Option ((List UInt8)):=cnd (ieq (I4 x0 2) 0) (some [(UInt8.ofNat 115),(UInt8.ofNat 108),(UInt8.ofNat 111),(UInt8.ofNat 116),(UInt8.ofNat 46),(UInt8.ofNat 48)]) (some [(UInt8.ofNat 115),(UInt8.ofNat 108),(UInt8.ofNat 111),(UInt8.ofNat 116),(UInt8.ofNat 46),(UInt8.ofNat 49)])
noncomputable def VB:Cx:={ P:=PG,ety:=ety,fn:=look [],inl:=eU [],lp:=aY [] }
theorem XL (x0:Int):bP VB 72 [.int .i64] [.str] x0=jH x0:=by kernel_rfl
def wI:aV:=mkSpec [.int .i64] [.str] true (fun x=>jH x)
theorem Rz:dJ PG 72 wI:=
 have K:CxR VB:=aX.cx (fun _=>rfl) (l:=[]) trivial
 aJ K (aI (l:=[]) rfl trivial) (by kernel_rfl) (fun x y h=>(XL x).trans h) rfl rfl
def kG:LSh:=⟨88,[(7,.int .i64),(0,.ro .str)],[(1,.fn 149 [])],[],[(8,.int .i64),(4,.int .i64)],[],[]⟩
@[reducible] def kD:List iQ:=[⟨.ret,[(4,.int .i64)],[],[]⟩,⟨.exit 0,[(4,.int .i64)],[],[]⟩]
def bT (p0:Int) (p1:(List (List UInt8))) (v0:Int) (v1:Int):Option ((Int×Int) ⊕ ((Int) ⊕ ((Int)))):=cnd (ilt v0 p0) (cnd (band (ile 0 v0) (ilt v0 (len p1))) (af (xJ (ah p1 (itn v0))) fun y0 => cnd (aC y0) (some (Sum.inr (Sum.inl v0))) (some (Sum.inl (wr .i64 (ak v0 1),v1)))) none) (some (Sum.inr (Sum.inr v1)))
def jY:iF:=kG.spec kD [9,10,5,11,12,13,14,15,16,17,4,18,8] (fun p v=>bT p.1 p.2 v.1 v.2)
def iK (x0:ai) (x1:(List (List UInt8))):Option (Int):=af (qU x0) fun y0 => cnd (aC y0) (some 1) (cnd x0.down (some 9) (af (bF (fun v => bT (len x1) x1 v.fst v.snd) LF (0,0)) fun y1 => qf y1 (fun y2 => cnd (ile 0 y2) (some 1) (some 0)) fun y2 => some 0))
noncomputable def LD:Cx:={ P:=PG,ety:=ety,fn:=look [(52,oJ),(126,uS)],inl:=eU [148,200,149],lp:=aY [(1401952796528185786568,26,jY)] }
theorem qc (p0:Int) (p1:(List (List UInt8))) (v0:Int) (v1:Int):jW LD 900 1401952796528185786568 26 (gJ PG 200 26) kG kD (p0,p1) (v0,v1)=bT p0 p1 v0 v1:=by kernel_rfl
theorem WJ (x0:ai) (x1:(List (List UInt8))):bP LD 76 [.val .disk,.ro .str] [.int .i64] (x0,x1)=iK x0 x1:=by kernel_rfl
def gZ:aV:=mkSpec [.val .disk,.ro .str] [.int .i64] true (fun x=>iK x.1 x.2)
theorem vz:dJ PG 76 gZ:=
 have K:CxR LD:=aX.cx (fun _=>rfl) (l:=[(52,oJ),(126,uS)]) ⟨Jg,Qe,trivial⟩
 aJ K (aI (l:=[(1401952796528185786568,26,jY)]) rfl ⟨dN (n:=900) (f:=200) K (by kernel_rfl) (by kernel_rfl) (by kernel_rfl) (by kernel_rfl) (by kernel_rfl) (fun p v r h=>(qc p.1 p.2 v.1 v.2).trans h),trivial⟩) (by kernel_rfl) (fun x y h=>(WJ x.1 x.2).trans h) rfl rfl
def qZ (x0:(List UInt8)) (x1:(List UInt8)):Option (Int):=some (acD x0 x1)
def wO:aV:=mkSpec [.str,.str] [.int .i64] true (fun x=>qZ x.1 x.2)
def Po:Go.Shelf.Ren:=⟨fun | 106=>152 | 213=>201 | 265=>225 | n=>n,fun | 9=>9 | 3=>3 | n=>n,fun | n=>n⟩
theorem CX:Go.Proofs.Lays.n106 PG Po where
 mixed:=by kernel_rfl
 f106:=by kernel_rfl
 f213:=by kernel_rfl
 f265:=by kernel_rfl
 t3:=by kernel_rfl
 a3:=fun w=>by kernel_rfl
 z3:=fun w=>by kernel_rfl
 v3:=fun w=>by kernel_rfl
 t9:=by kernel_rfl
 a9:=fun w=>by kernel_rfl
 z9:=fun w=>by kernel_rfl
 v9:=fun w=>by kernel_rfl
theorem Q8:dJ PG 152 wO:=aii aX CX (by kernel_rfl) fun x y h=>(Option.some.inj h).symm
def jL:LSh:=⟨85,[(0,.ro .file),(1,.str)],[(2,.fn 151 [])],[],[(10,.int .i64),(9,.int .i64)],[],[]⟩
@[reducible] def jM:List iQ:=[⟨.exit 0,[(9,.int .i64)],[],[]⟩]
def dA (p0:(List ax)) (p1:(List UInt8)) (v0:Int) (v1:Int):Option ((Int×Int) ⊕ ((Int))):=cnd (ilt v1 v0) (cnd (band (ile 0 (wr .i64 (cZ .u64 (wr .u64 (wr .i64 (ak v1 v0))) 1))) (ilt (wr .i64 (cZ .u64 (wr .u64 (wr .i64 (ak v1 v0))) 1)) (len p0))) (af (qZ (ah p0 (itn (wr .i64 (cZ .u64 (wr .u64 (wr .i64 (ak v1 v0))) 1)))).name p1) fun y0 => cnd (ilt y0 0) (some (Sum.inl (v0,wr .i64 (ak (wr .i64 (cZ .u64 (wr .u64 (wr .i64 (ak v1 v0))) 1)) 1)))) (some (Sum.inl (wr .i64 (cZ .u64 (wr .u64 (wr .i64 (ak v1 v0))) 1),v1)))) none) (some (Sum.inr v1))
def jF:iF:=jL.spec jM [15,16,17,18,19,20,21,22,23,11,24,25,26,27,28,29,30,31,32,33,9,34,10] (fun p v=>dA p.1 p.2 v.1 v.2)
def dB (x0:ai) (x1:(List UInt8)):Option (Int×Bool):=af (bF (fun v => dA x0.files x1 v.fst v.snd) LF (len x0.files,0)) fun y0 => cnd (bor (band (ile 0 y0) (ilt y0 (len x0.files))) (aC (ilt y0 (len x0.files)))) (cnd (ilt y0 (len x0.files)) (af (qZ (ah x0.files (itn y0)).name x1) fun y1 => some (y0,band (ilt y0 (len x0.files)) (ieq y1 0))) (some (y0,bor (ilt y0 (len x0.files)) false))) none
noncomputable def NV:Cx:={ P:=PG,ety:=ety,fn:=look [(152,wO)],inl:=eU [150,151],lp:=aY [(330712535190,60,jF)] }
theorem pq (p0:(List ax)) (p1:(List UInt8)) (v0:Int) (v1:Int):jW NV 900 330712535190 60 (gJ PG 150 60) jL jM (p0,p1) (v0,v1)=dA p0 p1 v0 v1:=by kernel_rfl
theorem XI (x0:ai) (x1:(List UInt8)):bP NV 77 [.val .disk,.str] [.int .i64,.bool] (x0,x1)=dB x0 x1:=by kernel_rfl
def iM:aV:=mkSpec [.val .disk,.str] [.int .i64,.bool] true (fun x=>dB x.1 x.2)
theorem xG:dJ PG 77 iM:=
 have K:CxR NV:=aX.cx (fun _=>rfl) (l:=[(152,wO)]) ⟨Q8,trivial⟩
 aJ K (aI (l:=[(330712535190,60,jF)]) rfl ⟨dN (n:=900) (f:=150) K (by kernel_rfl) (by kernel_rfl) (by kernel_rfl) (by kernel_rfl) (by kernel_rfl) (fun p v r h=>(pq p.1 p.2 v.1 v.2).trans h),trivial⟩) (by kernel_rfl) (fun x y h=>(XI x.1 x.2).trans h) rfl rfl
def bW (x0:(List Int)):Option ((List Int)):=TL (len x0) fun y0 => cnd (beq y0 true) (some []) (cnd (ile (len x0) 68719476736) (some x0) none)
noncomputable def EH:Cx:={ P:=PG,ety:=ety,fn:=look [],inl:=eU [],lp:=aY [] }
theorem Lu (x0:(List Int)):bP EH 56 [.ro .u8] [.buf .u8] x0=bW x0:=by kernel_rfl
def iY:aV:=mkSpec [.ro .u8] [.buf .u8] true (fun x=>bW x)
theorem xA:dJ PG 56 iY:=
 have K:CxR EH:=aX.cx (fun _=>rfl) (l:=[]) trivial
 aJ K (aI (l:=[]) rfl trivial) (by kernel_rfl) (fun x y h=>(Lu x).trans h) rfl rfl
def kE (x0:ai) (x1:(List UInt8)):Option ((List Int)×Int):=af (iK x0 [x1]) fun y0 => cnd (aC (ieq y0 0)) (cnd (aC (ieq y0 0)) (some ([],y0)) (cnd (ilt 0 (len x0.files)) (af (bW (ah x0.files 0).data) fun y1 => some (y1,0)) none)) (af (dB x0 x1) fun y2 => cnd (aC y2.snd) (some ([],7)) (cnd (band (ile 0 y2.fst) (ilt y2.fst (len x0.files))) (af (bW (ah x0.files (itn y2.fst)).data) fun y3 => some (y3,0)) none))
noncomputable def VO:Cx:={ P:=PG,ety:=ety,fn:=look [(76,gZ),(77,iM),(56,iY)],inl:=eU [55],lp:=aY [] }
theorem YJ (x0:ai) (x1:(List UInt8)):bP VO 21 [.val .disk,.str] [.buf .u8,.int .i64] (x0,x1)=kE x0 x1:=by kernel_rfl
def lK:aV:=mkSpec [.val .disk,.str] [.buf .u8,.int .i64] true (fun x=>kE x.1 x.2)
theorem EU:dJ PG 21 lK:=
 have K:CxR VO:=aX.cx (fun _=>rfl) (l:=[(76,gZ),(77,iM),(56,iY)]) ⟨vz,xG,xA,trivial⟩
 aJ K (aI (l:=[]) rfl trivial) (by kernel_rfl) (fun x y h=>(YJ x.1 x.2).trans h) rfl rfl
def PY:LSh:=⟨67,[],[],[],[(4,.int .i64),(0,.int .u32)],[],[]⟩
@[reducible] def Qd:List iQ:=[⟨.exit 0,[(0,.int .u32)],[],[]⟩]
def yc (v0:Int) (v1:Int):Option ((Int×Int) ⊕ ((Int))):=cnd (ilt v0 4) (cnd (ieq (wr .u32 (nO .u32 v1 1)) 1) (some (Sum.inl (wr .i64 (ak v0 1),wr .u32 (fV .u32 (cZ .u32 v1 1) 3988292384)))) (some (Sum.inl (wr .i64 (ak v0 1),cZ .u32 v1 1)))) (some (Sum.inr v1))
def OA:iF:=PY.spec Qd [5,6,7,3,8,9,0,10,11,12,13,14,4] (fun p v=>yc v.1 v.2)
def bK (x0:Int):Option (Int):=af (bF (fun v => yc v.fst v.snd) LF (0,x0)) fun y0 => some y0
noncomputable def QY:Cx:={ P:=PG,ety:=ety,fn:=look [],inl:=eU [],lp:=aY [(199,26,OA)] }
theorem Vb (v0:Int) (v1:Int):jW QY 900 199 26 (gJ PG 199 26) PY Qd () (v0,v1)=yc v0 v1:=by kernel_rfl
theorem ZV (x0:Int):bP QY 199 [.int .u32] [.int .u32] x0=bK x0:=by kernel_rfl
def yV:aV:=mkSpec [.int .u32] [.int .u32] true (fun x=>bK x)
theorem VD:dJ PG 199 yV:=
 have K:CxR QY:=aX.cx (fun _=>rfl) (l:=[]) trivial
 aJ K (aI (l:=[(199,26,OA)]) rfl ⟨dN (n:=900) (f:=199) K (by kernel_rfl) (by kernel_rfl) (by kernel_rfl) (by kernel_rfl) (by kernel_rfl) (fun p v r h=>(Vb v.1 v.2).trans h),trivial⟩) (by kernel_rfl) (fun x y h=>(ZV x).trans h) rfl rfl
def nC (x0:dD):Option (aeK):=af (bK (wr .u32 (nO .u32 (wr .u32 (fV .u32 4294967295 (wr .u32 (wr .u8 (cZ .i64 x0.gen 56))))) 15))) fun y0 => af (bK (wr .u32 (nO .u32 (wr .u32 (fV .u32 y0 (cZ .u32 (wr .u32 (fV .u32 4294967295 (wr .u32 (wr .u8 (cZ .i64 x0.gen 56))))) 4))) 15))) fun y1 => let t8:=(wr .u32 (fV .u32 (wr .u32 (fV .u32 y1 (cZ .u32 (wr .u32 (fV .u32 y0 (cZ .u32 (wr .u32 (fV .u32 4294967295 (wr .u32 (wr .u8 (cZ .i64 x0.gen 56))))) 4))) 4))) (wr .u32 (wr .u8 (cZ .i64 x0.gen 48)))));af (bK (wr .u32 (nO .u32 t8 15))) fun y2 => af (bK (wr .u32 (nO .u32 (wr .u32 (fV .u32 y2 (cZ .u32 t8 4))) 15))) fun y3 => let t5:=(wr .u32 (fV .u32 (wr .u32 (fV .u32 y3 (cZ .u32 (wr .u32 (fV .u32 y2 (cZ .u32 t8 4))) 4))) (wr .u32 (wr .u8 (cZ .i64 x0.gen 40)))));af (bK (wr .u32 (nO .u32 t5 15))) fun y4 => af (bK (wr .u32 (nO .u32 (wr .u32 (fV .u32 y4 (cZ .u32 t5 4))) 15))) fun y5 => let t14:=(wr .u32 (fV .u32 (wr .u32 (fV .u32 y5 (cZ .u32 (wr .u32 (fV .u32 y4 (cZ .u32 t5 4))) 4))) (wr .u32 (wr .u8 (cZ .i64 x0.gen 32)))));af (bK (wr .u32 (nO .u32 t14 15))) fun y6 => af (bK (wr .u32 (nO .u32 (wr .u32 (fV .u32 y6 (cZ .u32 t14 4))) 15))) fun y7 => let t1:=(wr .u32 (fV .u32 (wr .u32 (fV .u32 y7 (cZ .u32 (wr .u32 (fV .u32 y6 (cZ .u32 t14 4))) 4))) (wr .u32 (wr .u8 (cZ .i64 x0.gen 24)))));af (bK (wr .u32 (nO .u32 t1 15))) fun y8 => af (bK (wr .u32 (nO .u32 (wr .u32 (fV .u32 y8 (cZ .u32 t1 4))) 15))) fun y9 => let t15:=(wr .u32 (fV .u32 (wr .u32 (fV .u32 y9 (cZ .u32 (wr .u32 (fV .u32 y8 (cZ .u32 t1 4))) 4))) (wr .u32 (wr .u8 (cZ .i64 x0.gen 16)))));af (bK (wr .u32 (nO .u32 t15 15))) fun y10 => af (bK (wr .u32 (nO .u32 (wr .u32 (fV .u32 y10 (cZ .u32 t15 4))) 15))) fun y11 => let t7:=(wr .u32 (fV .u32 (wr .u32 (fV .u32 y11 (cZ .u32 (wr .u32 (fV .u32 y10 (cZ .u32 t15 4))) 4))) (wr .u32 (wr .u8 (cZ .i64 x0.gen 8)))));af (bK (wr .u32 (nO .u32 t7 15))) fun y12 => af (bK (wr .u32 (nO .u32 (wr .u32 (fV .u32 y12 (cZ .u32 t7 4))) 15))) fun y13 => let t3:=(wr .u32 (fV .u32 (wr .u32 (fV .u32 y13 (cZ .u32 (wr .u32 (fV .u32 y12 (cZ .u32 t7 4))) 4))) (wr .u32 (wr .u8 (cZ .i64 x0.gen 0)))));af (bK (wr .u32 (nO .u32 t3 15))) fun y14 => af (bK (wr .u32 (nO .u32 (wr .u32 (fV .u32 y14 (cZ .u32 t3 4))) 15))) fun y15 => let t10:=(wr .u32 (fV .u32 (wr .u32 (fV .u32 y15 (cZ .u32 (wr .u32 (fV .u32 y14 (cZ .u32 t3 4))) 4))) (wr .u32 (wr .u8 (cZ .i64 x0.lsn 56)))));af (bK (wr .u32 (nO .u32 t10 15))) fun y16 => af (bK (wr .u32 (nO .u32 (wr .u32 (fV .u32 y16 (cZ .u32 t10 4))) 15))) fun y17 => let t0:=(wr .u32 (fV .u32 (wr .u32 (fV .u32 y17 (cZ .u32 (wr .u32 (fV .u32 y16 (cZ .u32 t10 4))) 4))) (wr .u32 (wr .u8 (cZ .i64 x0.lsn 48)))));af (bK (wr .u32 (nO .u32 t0 15))) fun y18 => af (bK (wr .u32 (nO .u32 (wr .u32 (fV .u32 y18 (cZ .u32 t0 4))) 15))) fun y19 => let t11:=(wr .u32 (fV .u32 (wr .u32 (fV .u32 y19 (cZ .u32 (wr .u32 (fV .u32 y18 (cZ .u32 t0 4))) 4))) (wr .u32 (wr .u8 (cZ .i64 x0.lsn 40)))));af (bK (wr .u32 (nO .u32 t11 15))) fun y20 => af (bK (wr .u32 (nO .u32 (wr .u32 (fV .u32 y20 (cZ .u32 t11 4))) 15))) fun y21 => let t6:=(wr .u32 (fV .u32 (wr .u32 (fV .u32 y21 (cZ .u32 (wr .u32 (fV .u32 y20 (cZ .u32 t11 4))) 4))) (wr .u32 (wr .u8 (cZ .i64 x0.lsn 32)))));af (bK (wr .u32 (nO .u32 t6 15))) fun y22 => af (bK (wr .u32 (nO .u32 (wr .u32 (fV .u32 y22 (cZ .u32 t6 4))) 15))) fun y23 => let t12:=(wr .u32 (fV .u32 (wr .u32 (fV .u32 y23 (cZ .u32 (wr .u32 (fV .u32 y22 (cZ .u32 t6 4))) 4))) (wr .u32 (wr .u8 (cZ .i64 x0.lsn 24)))));af (bK (wr .u32 (nO .u32 t12 15))) fun y24 => af (bK (wr .u32 (nO .u32 (wr .u32 (fV .u32 y24 (cZ .u32 t12 4))) 15))) fun y25 => let t2:=(wr .u32 (fV .u32 (wr .u32 (fV .u32 y25 (cZ .u32 (wr .u32 (fV .u32 y24 (cZ .u32 t12 4))) 4))) (wr .u32 (wr .u8 (cZ .i64 x0.lsn 16)))));af (bK (wr .u32 (nO .u32 t2 15))) fun y26 => af (bK (wr .u32 (nO .u32 (wr .u32 (fV .u32 y26 (cZ .u32 t2 4))) 15))) fun y27 => let t13:=(wr .u32 (fV .u32 (wr .u32 (fV .u32 y27 (cZ .u32 (wr .u32 (fV .u32 y26 (cZ .u32 t2 4))) 4))) (wr .u32 (wr .u8 (cZ .i64 x0.lsn 8)))));af (bK (wr .u32 (nO .u32 t13 15))) fun y28 => af (bK (wr .u32 (nO .u32 (wr .u32 (fV .u32 y28 (cZ .u32 t13 4))) 15))) fun y29 => let t4:=(wr .u32 (fV .u32 (wr .u32 (fV .u32 y29 (cZ .u32 (wr .u32 (fV .u32 y28 (cZ .u32 t13 4))) 4))) (wr .u32 (wr .u8 (cZ .i64 x0.lsn 0)))));af (bK (wr .u32 (nO .u32 t4 15))) fun y30 => af (bK (wr .u32 (nO .u32 (wr .u32 (fV .u32 y30 (cZ .u32 t4 4))) 15))) fun y31 => let t9:=(wr .u32 (fV .u32 4294967295 (wr .u32 (fV .u32 y31 (cZ .u32 (wr .u32 (fV .u32 y30 (cZ .u32 t4 4))) 4)))));some (aeK.mk (wr .u8 (cZ .i64 x0.gen 56)) (wr .u8 (cZ .i64 x0.gen 48)) (wr .u8 (cZ .i64 x0.gen 40)) (wr .u8 (cZ .i64 x0.gen 32)) (wr .u8 (cZ .i64 x0.gen 24)) (wr .u8 (cZ .i64 x0.gen 16)) (wr .u8 (cZ .i64 x0.gen 8)) (wr .u8 (cZ .i64 x0.gen 0)) (wr .u8 (cZ .i64 x0.lsn 56)) (wr .u8 (cZ .i64 x0.lsn 48)) (wr .u8 (cZ .i64 x0.lsn 40)) (wr .u8 (cZ .i64 x0.lsn 32)) (wr .u8 (cZ .i64 x0.lsn 24)) (wr .u8 (cZ .i64 x0.lsn 16)) (wr .u8 (cZ .i64 x0.lsn 8)) (wr .u8 (cZ .i64 x0.lsn 0)) (wr .u8 (cZ .u32 t9 0)) (wr .u8 (cZ .u32 t9 8)) (wr .u8 (cZ .u32 t9 16)) (wr .u8 (cZ .u32 t9 24)))
noncomputable def Tz:Cx:={ P:=PG,ety:=ety,fn:=look [(199,yV)],inl:=eU [71,147],lp:=aY [] }
theorem Xa (x0:dD):bP Tz 84 [.val .slot] [.val .a20] x0=nC x0:=by kernel_rfl
def uV:aV:=mkSpec [.val .slot] [.val .a20] true (fun x=>nC x)
theorem Qn:dJ PG 84 uV:=
 have K:CxR Tz:=aX.cx (fun _=>rfl) (l:=[(199,yV)]) ⟨VD,trivial⟩
 aJ K (aI (l:=[]) rfl trivial) (by kernel_rfl) (fun x y h=>(Xa x).trans h) rfl rfl
def tY (x0:dD):Option (Bool):=some (band (band (band (ile 1 x0.gen) (ile x0.gen 1000000000)) (ile 0 x0.lsn)) (ile x0.lsn 1000000000))
noncomputable def Ua:Cx:={ P:=PG,ety:=ety,fn:=look [],inl:=eU [],lp:=aY [] }
theorem Wh (x0:dD):bP Ua 83 [.val .slot] [.bool] x0=tY x0:=by kernel_rfl
def uQ:aV:=mkSpec [.val .slot] [.bool] true (fun x=>tY x)
theorem PZ:dJ PG 83 uQ:=
 have K:CxR Ua:=aX.cx (fun _=>rfl) (l:=[]) trivial
 aJ K (aI (l:=[]) rfl trivial) (by kernel_rfl) (fun x y h=>(Wh x).trans h) rfl rfl
def lu (x0:(List Int)):Option (dD×Int):=cnd (aC (ieq (len x0) 20)) (some (dD.mk 0 0,2)) (cnd (ilt 0 (len x0)) (cnd (ilt 8 (len x0)) (cnd (ilt 1 (len x0)) (cnd (ilt 9 (len x0)) (cnd (ilt 2 (len x0)) (cnd (ilt 10 (len x0)) (cnd (ilt 3 (len x0)) (cnd (ilt 11 (len x0)) (cnd (ilt 4 (len x0)) (cnd (ilt 12 (len x0)) (cnd (ilt 5 (len x0)) (cnd (ilt 13 (len x0)) (cnd (ilt 6 (len x0)) (cnd (ilt 14 (len x0)) (cnd (ilt 7 (len x0)) (cnd (ilt 15 (len x0)) (af (nC (dD.mk (wr .i64 (ior .i64 (wr .i64 (o7 .i64 (wr .i64 (ior .i64 (wr .i64 (o7 .i64 (wr .i64 (ior .i64 (wr .i64 (o7 .i64 (wr .i64 (ior .i64 (wr .i64 (o7 .i64 (wr .i64 (ior .i64 (wr .i64 (o7 .i64 (wr .i64 (ior .i64 (wr .i64 (o7 .i64 (wr .i64 (ior .i64 (wr .i64 (o7 .i64 (wr .i64 (ior .i64 0 (wr .i64 (ah x0 0)))) 8)) (wr .i64 (ah x0 1)))) 8)) (wr .i64 (ah x0 2)))) 8)) (wr .i64 (ah x0 3)))) 8)) (wr .i64 (ah x0 4)))) 8)) (wr .i64 (ah x0 5)))) 8)) (wr .i64 (ah x0 6)))) 8)) (wr .i64 (ah x0 7)))) (wr .i64 (ior .i64 (wr .i64 (o7 .i64 (wr .i64 (ior .i64 (wr .i64 (o7 .i64 (wr .i64 (ior .i64 (wr .i64 (o7 .i64 (wr .i64 (ior .i64 (wr .i64 (o7 .i64 (wr .i64 (ior .i64 (wr .i64 (o7 .i64 (wr .i64 (ior .i64 (wr .i64 (o7 .i64 (wr .i64 (ior .i64 (wr .i64 (o7 .i64 (wr .i64 (ior .i64 0 (wr .i64 (ah x0 8)))) 8)) (wr .i64 (ah x0 9)))) 8)) (wr .i64 (ah x0 10)))) 8)) (wr .i64 (ah x0 11)))) 8)) (wr .i64 (ah x0 12)))) 8)) (wr .i64 (ah x0 13)))) 8)) (wr .i64 (ah x0 14)))) 8)) (wr .i64 (ah x0 15)))))) fun y0 => cnd (ile 20 (len x0)) (cnd (aC (band (ieq y0.a0 (ah x0 0)) (band (ieq y0.a1 (ah x0 1)) (band (ieq y0.a2 (ah x0 2)) (band (ieq y0.a3 (ah x0 3)) (band (ieq y0.a4 (ah x0 4)) (band (ieq y0.a5 (ah x0 5)) (band (ieq y0.a6 (ah x0 6)) (band (ieq y0.a7 (ah x0 7)) (band (ieq y0.a8 (ah x0 8)) (band (ieq y0.a9 (ah x0 9)) (band (ieq y0.a10 (ah x0 10)) (band (ieq y0.a11 (ah x0 11)) (band (ieq y0.a12 (ah x0 12)) (band (ieq y0.a13 (ah x0 13)) (band (ieq y0.a14 (ah x0 14)) (band (ieq y0.a15 (ah x0 15)) (band (ieq y0.a16 (ah x0 16)) (band (ieq y0.a17 (ah x0 17)) (band (ieq y0.a18 (ah x0 18)) (band (ieq y0.a19 (ah x0 19)) true))))))))))))))))))))) (some (dD.mk 0 0,10)) (af (tY (dD.mk (wr .i64 (ior .i64 (wr .i64 (o7 .i64 (wr .i64 (ior .i64 (wr .i64 (o7 .i64 (wr .i64 (ior .i64 (wr .i64 (o7 .i64 (wr .i64 (ior .i64 (wr .i64 (o7 .i64 (wr .i64 (ior .i64 (wr .i64 (o7 .i64 (wr .i64 (ior .i64 (wr .i64 (o7 .i64 (wr .i64 (ior .i64 (wr .i64 (o7 .i64 (wr .i64 (ior .i64 0 (wr .i64 (ah x0 0)))) 8)) (wr .i64 (ah x0 1)))) 8)) (wr .i64 (ah x0 2)))) 8)) (wr .i64 (ah x0 3)))) 8)) (wr .i64 (ah x0 4)))) 8)) (wr .i64 (ah x0 5)))) 8)) (wr .i64 (ah x0 6)))) 8)) (wr .i64 (ah x0 7)))) (wr .i64 (ior .i64 (wr .i64 (o7 .i64 (wr .i64 (ior .i64 (wr .i64 (o7 .i64 (wr .i64 (ior .i64 (wr .i64 (o7 .i64 (wr .i64 (ior .i64 (wr .i64 (o7 .i64 (wr .i64 (ior .i64 (wr .i64 (o7 .i64 (wr .i64 (ior .i64 (wr .i64 (o7 .i64 (wr .i64 (ior .i64 (wr .i64 (o7 .i64 (wr .i64 (ior .i64 0 (wr .i64 (ah x0 8)))) 8)) (wr .i64 (ah x0 9)))) 8)) (wr .i64 (ah x0 10)))) 8)) (wr .i64 (ah x0 11)))) 8)) (wr .i64 (ah x0 12)))) 8)) (wr .i64 (ah x0 13)))) 8)) (wr .i64 (ah x0 14)))) 8)) (wr .i64 (ah x0 15)))))) fun y1 => cnd (aC y1) (some (dD.mk 0 0,2)) (some (dD.mk (wr .i64 (ior .i64 (wr .i64 (o7 .i64 (wr .i64 (ior .i64 (wr .i64 (o7 .i64 (wr .i64 (ior .i64 (wr .i64 (o7 .i64 (wr .i64 (ior .i64 (wr .i64 (o7 .i64 (wr .i64 (ior .i64 (wr .i64 (o7 .i64 (wr .i64 (ior .i64 (wr .i64 (o7 .i64 (wr .i64 (ior .i64 (wr .i64 (o7 .i64 (wr .i64 (ior .i64 0 (wr .i64 (ah x0 0)))) 8)) (wr .i64 (ah x0 1)))) 8)) (wr .i64 (ah x0 2)))) 8)) (wr .i64 (ah x0 3)))) 8)) (wr .i64 (ah x0 4)))) 8)) (wr .i64 (ah x0 5)))) 8)) (wr .i64 (ah x0 6)))) 8)) (wr .i64 (ah x0 7)))) (wr .i64 (ior .i64 (wr .i64 (o7 .i64 (wr .i64 (ior .i64 (wr .i64 (o7 .i64 (wr .i64 (ior .i64 (wr .i64 (o7 .i64 (wr .i64 (ior .i64 (wr .i64 (o7 .i64 (wr .i64 (ior .i64 (wr .i64 (o7 .i64 (wr .i64 (ior .i64 (wr .i64 (o7 .i64 (wr .i64 (ior .i64 (wr .i64 (o7 .i64 (wr .i64 (ior .i64 0 (wr .i64 (ah x0 8)))) 8)) (wr .i64 (ah x0 9)))) 8)) (wr .i64 (ah x0 10)))) 8)) (wr .i64 (ah x0 11)))) 8)) (wr .i64 (ah x0 12)))) 8)) (wr .i64 (ah x0 13)))) 8)) (wr .i64 (ah x0 14)))) 8)) (wr .i64 (ah x0 15)))),0)))) none) none) none) none) none) none) none) none) none) none) none) none) none) none) none) none) none)
noncomputable def Qp:Cx:={ P:=PG,ety:=ety,fn:=look [(84,uV),(83,uQ)],inl:=eU [],lp:=aY [] }
theorem Uf (x0:(List Int)):bP Qp 73 [.ro .u8] [.val .slot,.int .i64] x0=lu x0:=by kernel_rfl
def BQ:aV:=mkSpec [.ro .u8] [.val .slot,.int .i64] true (fun x=>lu x)
theorem Zy:dJ PG 73 BQ:=
 have K:CxR Qp:=aX.cx (fun _=>rfl) (l:=[(84,uV),(83,uQ)]) ⟨Qn,PZ,trivial⟩
 aJ K (aI (l:=[]) rfl trivial) (by kernel_rfl) (fun x y h=>(Uf x).trans h) rfl rfl
def qL (x0:ai):Option (dD×Int):=af (qU x0) fun y0 => cnd (aC y0) (some (dD.mk 0 0,1)) (cnd x0.down (some (dD.mk 0 0,9)) (af (jH 0) fun y1 => af (kE x0 y1) fun y2 => af (lu y2.fst) fun y3 => cnd (band (band (ieq y3.snd 0) (ieq (I4 y3.fst.gen 2) 0)) (ilt 0 y3.fst.gen)) (af (jH 1) fun y4 => af (kE x0 y4) fun y5 => af (lu y5.fst) fun y6 => cnd (band (band (ieq y6.snd 0) (ieq (I4 y6.fst.gen 2) 1)) (ilt y3.fst.gen y6.fst.gen)) (cnd (ieq y6.fst.gen 0) (some (dD.mk 0 0,7)) (some (y6.fst,0))) (cnd (ieq y3.fst.gen 0) (some (dD.mk 0 0,7)) (some (y3.fst,0)))) (af (jH 1) fun y7 => af (kE x0 y7) fun y8 => af (lu y8.fst) fun y9 => cnd (band (band (ieq y9.snd 0) (ieq (I4 y9.fst.gen 2) 1)) (ilt 0 y9.fst.gen)) (cnd (ieq y9.fst.gen 0) (some (dD.mk 0 0,7)) (some (y9.fst,0))) (some (dD.mk 0 0,7)))))
noncomputable def VH:Cx:={ P:=PG,ety:=ety,fn:=look [(52,oJ),(72,wI),(21,lK),(73,BQ)],inl:=eU [],lp:=aY [] }
theorem Zk (x0:ai):bP VH 25 [.val .disk] [.val .slot,.int .i64] x0=qL x0:=by kernel_rfl
def pY:aV:=mkSpec [.val .disk] [.val .slot,.int .i64] true (fun x=>qL x)
theorem KO:dJ PG 25 pY:=
 have K:CxR VH:=aX.cx (fun _=>rfl) (l:=[(52,oJ),(72,wI),(21,lK),(73,BQ)]) ⟨Jg,Rz,EU,Zy,trivial⟩
 aJ K (aI (l:=[]) rfl trivial) (by kernel_rfl) (fun x y h=>(Zk x).trans h) rfl rfl
def oV (x0:Int) (x1:Int):Option (List UInt8):=ahy x0 x1
def uj:aV:=mkSpec [.int .i64,.int .i64] [.str] true (fun x=>oV x.1 x.2)
def MZ:Go.Shelf.Ren:=⟨fun | 173=>49 | 246=>113 | 283=>171 | 284=>172 | 285=>173 | 286=>174 | 129=>212 | 317=>211 | 318=>213 | 319=>214 | 320=>215 | 337=>233 | 338=>234 | n=>n,fun | 2=>2 | 3=>3 | 9=>9 | 4=>4 | 171=>224 | 0=>0 | 53=>219 | 37=>51 | 5=>5 | 173=>227 | 212=>260 | 51=>119 | 20=>20 | 213=>261 | 46=>162 | 232=>285 | 233=>286 | n=>n,fun | 17=>0 | 18=>4 | 19=>5 | n=>n⟩
theorem Am:Go.Proofs.LaysM.n173 PG MZ where
 mixed:=by kernel_rfl
 f129:=by kernel_rfl
 f173:=by kernel_rfl
 f246:=by kernel_rfl
 f283:=by kernel_rfl
 f284:=by kernel_rfl
 f285:=by kernel_rfl
 f286:=by kernel_rfl
 f317:=by kernel_rfl
 f318:=by kernel_rfl
 f319:=by kernel_rfl
 f320:=by kernel_rfl
 f337:=by kernel_rfl
 f338:=by kernel_rfl
 t0:=by kernel_rfl
 a0:=fun w=>by kernel_rfl
 z0:=fun w=>by kernel_rfl
 v0:=fun w=>by kernel_rfl
 t2:=by kernel_rfl
 a2:=fun w=>by kernel_rfl
 z2:=fun w=>by kernel_rfl
 v2:=fun w=>by kernel_rfl
 t3:=by kernel_rfl
 a3:=fun w=>by kernel_rfl
 z3:=fun w=>by kernel_rfl
 v3:=fun w=>by kernel_rfl
 t4:=by kernel_rfl
 a4:=fun w=>by kernel_rfl
 z4:=fun w=>by kernel_rfl
 v4:=fun w=>by kernel_rfl
 t5:=by kernel_rfl
 a5:=fun w=>by kernel_rfl
 z5:=fun w=>by kernel_rfl
 v5:=fun w=>by kernel_rfl
 t9:=by kernel_rfl
 a9:=fun w=>by kernel_rfl
 z9:=fun w=>by kernel_rfl
 v9:=fun w=>by kernel_rfl
 t20:=by kernel_rfl
 a20:=fun w=>by kernel_rfl
 z20:=fun w=>by kernel_rfl
 v20:=fun w=>by kernel_rfl
 t37:=by kernel_rfl
 a37:=fun w=>by kernel_rfl
 z37:=fun w=>by kernel_rfl
 v37:=fun w=>by kernel_rfl
 t46:=by kernel_rfl
 a46:=fun w=>by kernel_rfl
 z46:=fun w=>by kernel_rfl
 v46:=fun w=>by kernel_rfl
 t51:=by kernel_rfl
 a51:=fun w=>by kernel_rfl
 z51:=fun w=>by kernel_rfl
 v51:=fun w=>by kernel_rfl
 t53:=by kernel_rfl
 a53:=fun w=>by kernel_rfl
 z53:=fun w=>by kernel_rfl
 v53:=fun w=>by kernel_rfl
 t171:=by kernel_rfl
 a171:=fun w=>by kernel_rfl
 z171:=fun w=>by kernel_rfl
 v171:=fun w=>by kernel_rfl
 t173:=by kernel_rfl
 a173:=fun w=>by kernel_rfl
 z173:=fun w=>by kernel_rfl
 v173:=fun w=>by kernel_rfl
 t212:=by kernel_rfl
 a212:=fun w=>by kernel_rfl
 z212:=fun w=>by kernel_rfl
 v212:=fun w=>by kernel_rfl
 t213:=by kernel_rfl
 a213:=fun w=>by kernel_rfl
 z213:=fun w=>by kernel_rfl
 t232:=by kernel_rfl
 a232:=fun w=>by kernel_rfl
 z232:=fun w=>by kernel_rfl
 v232:=fun w=>by kernel_rfl
 t233:=by kernel_rfl
 a233:=fun w=>by kernel_rfl
 z233:=fun w=>by kernel_rfl
 v233:=fun w=>by kernel_rfl
 g17:=by kernel_rfl
 g18:=by kernel_rfl
 g19:=by kernel_rfl
 i0:=by kernel_rfl
 i2:=by kernel_rfl
 i3:=by kernel_rfl
 i4:=by kernel_rfl
 i5:=by kernel_rfl
 i9:=by kernel_rfl
 i20:=by kernel_rfl
 i37:=by kernel_rfl
 i46:=by kernel_rfl
 i51:=by kernel_rfl
 i53:=by kernel_rfl
 i171:=by kernel_rfl
 i173:=by kernel_rfl
 i212:=by kernel_rfl
 i232:=by kernel_rfl
 i233:=by kernel_rfl
 m17:=by kernel_rfl
 m18:=by kernel_rfl
 m19:=by kernel_rfl
theorem Nw:dJ PG 49 uj:=ah9 aX Am (by kernel_rfl) (g:=0) (by kernel_rfl) (by simp [glL]) fun x y h=>h
def sU (x0:(List UInt8)) (x1:Int):Option (List UInt8):=aiI x0 x1
def xY:aV:=mkSpec [.str,.int .i64] [.str] true (fun x=>sU x.1 x.2)
def Hg:Go.Shelf.Ren:=⟨fun | 105=>50 | 212=>114 | 99=>115 | 165=>116 | 166=>117 | 170=>118 | 169=>119 | 263=>175 | 264=>176 | 206=>177 | 240=>178 | 241=>179 | 276=>216 | 277=>217 | n=>n,fun | 9=>9 | 3=>3 | 4=>4 | 20=>20 | 0=>0 | 46=>162 | 109=>163 | 5=>5 | 72=>168 | 76=>170 | 51=>119 | 146=>229 | 53=>219 | 148=>231 | 70=>166 | 37=>51 | 75=>139 | 127=>233 | 164=>264 | 71=>167 | 74=>138 | 80=>173 | n=>n,fun | n=>n⟩
theorem D5:Go.Proofs.Lays.n105 PG Hg where
 mixed:=by kernel_rfl
 f99:=by kernel_rfl
 f105:=by kernel_rfl
 f165:=by kernel_rfl
 f166:=by kernel_rfl
 f169:=by kernel_rfl
 f170:=by kernel_rfl
 f206:=by kernel_rfl
 f212:=by kernel_rfl
 f240:=by kernel_rfl
 f241:=by kernel_rfl
 f263:=by kernel_rfl
 f264:=by kernel_rfl
 f276:=by kernel_rfl
 f277:=by kernel_rfl
 t0:=by kernel_rfl
 a0:=fun w=>by kernel_rfl
 z0:=fun w=>by kernel_rfl
 v0:=fun w=>by kernel_rfl
 t3:=by kernel_rfl
 a3:=fun w=>by kernel_rfl
 z3:=fun w=>by kernel_rfl
 v3:=fun w=>by kernel_rfl
 t4:=by kernel_rfl
 a4:=fun w=>by kernel_rfl
 z4:=fun w=>by kernel_rfl
 v4:=fun w=>by kernel_rfl
 t5:=by kernel_rfl
 a5:=fun w=>by kernel_rfl
 z5:=fun w=>by kernel_rfl
 v5:=fun w=>by kernel_rfl
 t9:=by kernel_rfl
 a9:=fun w=>by kernel_rfl
 z9:=fun w=>by kernel_rfl
 v9:=fun w=>by kernel_rfl
 t20:=by kernel_rfl
 a20:=fun w=>by kernel_rfl
 z20:=fun w=>by kernel_rfl
 v20:=fun w=>by kernel_rfl
 t37:=by kernel_rfl
 a37:=fun w=>by kernel_rfl
 z37:=fun w=>by kernel_rfl
 v37:=fun w=>by kernel_rfl
 t46:=by kernel_rfl
 a46:=fun w=>by kernel_rfl
 z46:=fun w=>by kernel_rfl
 v46:=fun w=>by kernel_rfl
 t51:=by kernel_rfl
 a51:=fun w=>by kernel_rfl
 z51:=fun w=>by kernel_rfl
 v51:=fun w=>by kernel_rfl
 t53:=by kernel_rfl
 a53:=fun w=>by kernel_rfl
 z53:=fun w=>by kernel_rfl
 v53:=fun w=>by kernel_rfl
 t70:=by kernel_rfl
 a70:=fun w=>by kernel_rfl
 z70:=fun w=>by kernel_rfl
 v70:=fun w=>by kernel_rfl
 t72:=by kernel_rfl
 a72:=fun w=>by kernel_rfl
 z72:=fun w=>by kernel_rfl
 v72:=fun w=>by kernel_rfl
 t75:=by kernel_rfl
 a75:=fun w=>by kernel_rfl
 z75:=fun w=>by kernel_rfl
 v75:=fun w=>by kernel_rfl
 t76:=by kernel_rfl
 a76:=fun w=>by kernel_rfl
 z76:=fun w=>by kernel_rfl
 v76:=fun w=>by kernel_rfl
 t109:=by kernel_rfl
 a109:=fun w=>by kernel_rfl
 z109:=fun w=>by kernel_rfl
 v109:=fun w=>by kernel_rfl
 t127:=by kernel_rfl
 a127:=fun w=>by kernel_rfl
 z127:=fun w=>by kernel_rfl
 v127:=fun w=>by kernel_rfl
 t146:=by kernel_rfl
 a146:=fun w=>by kernel_rfl
 z146:=fun w=>by kernel_rfl
 v146:=fun w=>by kernel_rfl
 t148:=by kernel_rfl
 a148:=fun w=>by kernel_rfl
 z148:=fun w=>by kernel_rfl
 v148:=fun w=>by kernel_rfl
 t164:=by kernel_rfl
 a164:=fun w=>by kernel_rfl
 z164:=fun w=>by kernel_rfl
 v164:=fun w=>by kernel_rfl
theorem Ak:Go.Proofs.Builder.Extra PG Hg where
 sizeBuilder:=by kernel_rfl
 liesBuilder:=by kernel_rfl
 t5:=by kernel_rfl
 a5:=fun w=>by kernel_rfl
 z5:=fun w=>by kernel_rfl
 v5:=fun w=>by kernel_rfl
 infoByte:=by kernel_rfl
 cellsByte:=by kernel_rfl
 sizeByte:=by kernel_rfl
 neB5:=by decide
theorem SE:dJ PG 50 xY:=aiL aX D5 Ak (by kernel_rfl) fun x y h=>h
def dS (x0:Int):Option ((List UInt8)):=cnd (bor (ilt x0 1) (ilt 1000000000 x0)) (some []) (af (oV x0 10) fun y0 => af (sU [(UInt8.ofNat 48)] (wr .i64 (aF 10 (len y0)))) fun y1 => cnd (ile (ak 5 (len y1)) 68719476736) (cnd (ile (ak (len (jQ [(UInt8.ofNat 115),(UInt8.ofNat 110),(UInt8.ofNat 97),(UInt8.ofNat 112),(UInt8.ofNat 46)] y1)) (len y0)) 68719476736) (some (jQ (jQ [(UInt8.ofNat 115),(UInt8.ofNat 110),(UInt8.ofNat 97),(UInt8.ofNat 112),(UInt8.ofNat 46)] y1) y0)) none) none)
noncomputable def Tf:Cx:={ P:=PG,ety:=ety,fn:=look [(49,uj),(50,xY)],inl:=eU [],lp:=aY [] }
theorem Wv (x0:Int):bP Tf 17 [.int .i64] [.str] x0=dS x0:=by kernel_rfl
def oL:aV:=mkSpec [.int .i64] [.str] true (fun x=>dS x)
theorem Dk:dJ PG 17 oL:=
 have K:CxR Tf:=aX.cx (fun _=>rfl) (l:=[(49,uj),(50,xY)]) ⟨Nw,SE,trivial⟩
 aJ K (aI (l:=[]) rfl trivial) (by kernel_rfl) (fun x y h=>(Wv x).trans h) rfl rfl
def BV (x0:Int) (x1:Int) (x2:Int):Option (Int):=some (wr .i64 (ak (wr .i64 (ak (wr .i64 (ak (wr .i64 (ak 32 (wr .i64 (jr x2 61)))) (wr .i64 (jr (wr .i64 (jr x0 x1)) 32)))) (wr .i64 (jr x0 8)))) 4))
noncomputable def Y4:Cx:={ P:=PG,ety:=ety,fn:=look [],inl:=eU [],lp:=aY [] }
theorem ZK (x0:Int) (x1:Int) (x2:Int):bP Y4 109 [.int .i64,.int .i64,.int .i64] [.int .i64] (x0,x1,x2)=BV x0 x1 x2:=by kernel_rfl
def yT:aV:=mkSpec [.int .i64,.int .i64,.int .i64] [.int .i64] true (fun x=>BV x.1 x.2.1 x.2.2)
theorem VQ:dJ PG 109 yT:=
 have K:CxR Y4:=aX.cx (fun _=>rfl) (l:=[]) trivial
 aJ K (aI (l:=[]) rfl trivial) (by kernel_rfl) (fun x y h=>(ZK x.1 x.2.1 x.2.2).trans h) rfl rfl
def Qk:LSh:=⟨73,[(11,.int .i64),(10,.ro .u8)],[],[],[(12,.int .i64),(5,.int .u32)],[],[]⟩
@[reducible] def P6:List iQ:=[⟨.exit 0,[(5,.int .u32)],[],[]⟩]
def yD (p0:Int) (p1:(List Int)) (v0:Int) (v1:Int):Option ((Int×Int) ⊕ ((Int))):=cnd (ilt v0 p0) (cnd (band (ile 0 v0) (ilt v0 (len p1))) (af (bK (wr .u32 (nO .u32 (wr .u32 (fV .u32 v1 (wr .u32 (ah p1 (itn v0))))) 15))) fun y0 => af (bK (wr .u32 (nO .u32 (wr .u32 (fV .u32 y0 (cZ .u32 (wr .u32 (fV .u32 v1 (wr .u32 (ah p1 (itn v0))))) 4))) 15))) fun y1 => some (Sum.inl (wr .i64 (ak v0 1),wr .u32 (fV .u32 y1 (cZ .u32 (wr .u32 (fV .u32 y0 (cZ .u32 (wr .u32 (fV .u32 v1 (wr .u32 (ah p1 (itn v0))))) 4))) 4))))) none) (some (Sum.inr v1))
def Ov:iF:=Qk.spec P6 [13,14,15,7,16,17,18,19,5,20,21,22,23,24,25,26,27,28,29,30,31,32,12] (fun p v=>yD p.1 p.2 v.1 v.2)
def Lr (x0:Int) (x1:(List Int)):Option (Int):=af (bF (fun v => yD (len x1) x1 v.fst v.snd) LF (0,wr .u32 (fV .u32 4294967295 x0))) fun y0 => some (wr .u32 (fV .u32 4294967295 y0))
noncomputable def QT:Cx:={ P:=PG,ety:=ety,fn:=look [(199,yV)],inl:=eU [],lp:=aY [(147,58,Ov)] }
theorem UW (p0:Int) (p1:(List Int)) (v0:Int) (v1:Int):jW QT 900 147 58 (gJ PG 147 58) Qk P6 (p0,p1) (v0,v1)=yD p0 p1 v0 v1:=by kernel_rfl
theorem ZN (x0:Int) (x1:(List Int)):bP QT 147 [.int .u32,.ro .u8] [.int .u32] (x0,x1)=Lr x0 x1:=by kernel_rfl
def I8:aV:=mkSpec [.int .u32,.ro .u8] [.int .u32] true (fun x=>Lr x.1 x.2)
theorem ad3:dJ PG 147 I8:=
 have K:CxR QT:=aX.cx (fun _=>rfl) (l:=[(199,yV)]) ⟨VD,trivial⟩
 aJ K (aI (l:=[(147,58,Ov)]) rfl ⟨dN (n:=900) (f:=147) K (by kernel_rfl) (by kernel_rfl) (by kernel_rfl) (by kernel_rfl) (by kernel_rfl) (fun p v r h=>(UW p.1 p.2 v.1 v.2).trans h),trivial⟩) (by kernel_rfl) (fun x y h=>(ZN x.1 x.2).trans h) rfl rfl
def Fq (x0:(List Int)):Option (Int):=af (Lr 0 x0) fun y0 => some y0
noncomputable def abm:Cx:={ P:=PG,ety:=ety,fn:=look [(147,I8)],inl:=eU [],lp:=aY [] }
theorem abV (x0:(List Int)):bP abm 71 [.ro .u8] [.int .u32] x0=Fq x0:=by kernel_rfl
def BA:aV:=mkSpec [.ro .u8] [.int .u32] true (fun x=>Fq x)
theorem Zv:dJ PG 71 BA:=
 have K:CxR abm:=aX.cx (fun _=>rfl) (l:=[(147,I8)]) ⟨ad3,trivial⟩
 aJ K (aI (l:=[]) rfl trivial) (by kernel_rfl) (fun x y h=>(abV x).trans h) rfl rfl
def EN:LSh:=⟨76,[(14,.int .i64),(13,.ro .u8)],[],[],[(15,.int .i64),(5,.int .i64)],[],[]⟩
@[reducible] def EK:List iQ:=[⟨.exit 0,[(5,.int .i64)],[],[]⟩]
def oM (p0:Int) (p1:(List Int)) (v0:Int) (v1:Int):Option ((Int×Int) ⊕ ((Int))):=cnd (ilt v0 p0) (cnd (band (ile 0 v0) (ilt v0 (len p1))) (some (Sum.inl (wr .i64 (ak v0 1),wr .i64 (ior .i64 (wr .i64 (o7 .i64 v1 8)) (wr .i64 (ah p1 (itn v0))))))) none) (some (Sum.inr v1))
def DK:iF:=EN.spec EK [16,17,18,7,19,20,21,22,23,5,24,15] (fun p v=>oM p.1 p.2 v.1 v.2)
def bV (x0:eY) (x1:Int):Option (eY×(Int)):=cnd (band (ile 0 x1) (ile x1 (len x0.rest))) (af (bF (fun v => oM (len (aB x0.rest (itn x1))) (aB x0.rest (itn x1)) v.fst v.snd) LF (0,0)) fun y0 => cnd (band (ile 0 x1) (ile x1 (len x0.rest))) (some (eY.mk (aH x0.rest (itn x1)) x0.odd,y0)) none) none
noncomputable def CG:Cx:={ P:=PG,ety:=ety,fn:=look [],inl:=eU [],lp:=aY [(168,58,DK)] }
theorem Lh (p0:Int) (p1:(List Int)) (v0:Int) (v1:Int):jW CG 900 168 58 (gJ PG 168 58) EN EK (p0,p1) (v0,v1)=oM p0 p1 v0 v1:=by kernel_rfl
theorem Px (x0:eY) (x1:Int):QX CG 168 .reader [.int .i64] [.int .i64] x0 x1=bV x0 x1:=by kernel_rfl
def jZ:aV:=qy .reader [.int .i64] [.int .i64] (fun x=>bV x.1 x.2)
theorem AL:dJ PG 168 jZ:=
 have K:CxR CG:=aX.cx (fun _=>rfl) (l:=[]) trivial
 O3 K (aI (l:=[(168,58,DK)]) rfl ⟨dN (n:=900) (f:=168) K (by kernel_rfl) (by kernel_rfl) (by kernel_rfl) (by kernel_rfl) (by kernel_rfl) (fun p v r h=>(Lh p.1 p.2 v.1 v.2).trans h),trivial⟩) (by kernel_rfl) (fun x y h=>(Px x.1 x.2).trans h) rfl rfl
def gY (x0:eY):Option (eY×(Int)):=af (bV x0 1) fun y0 => some y0
noncomputable def JX:Cx:={ P:=PG,ety:=ety,fn:=look [(168,jZ)],inl:=eU [],lp:=aY [] }
theorem Py (x0:eY):QX JX 166 .reader [] [.int .i64] x0 ()=gY x0:=by kernel_rfl
def ku:aV:=qy .reader [] [.int .i64] (fun x=>gY x.1)
theorem Bj:dJ PG 166 ku:=
 have K:CxR JX:=aX.cx (fun _=>rfl) (l:=[(168,jZ)]) ⟨AL,trivial⟩
 O3 K (aI (l:=[]) rfl trivial) (by kernel_rfl) (fun x y h=>(Py x.1).trans h) rfl rfl
def ou (x0:eY):Option (eY×(Bool)):=af (gY x0) fun y0 => some (eY.mk y0.fst.rest (bor y0.fst.odd (ilt 1 y0.snd)),ieq y0.snd 1)
noncomputable def Iy:Cx:={ P:=PG,ety:=ety,fn:=look [(166,ku)],inl:=eU [],lp:=aY [] }
theorem NR (x0:eY):QX Iy 167 .reader [] [.bool] x0 ()=ou x0:=by kernel_rfl
def nR:aV:=qy .reader [] [.bool] (fun x=>ou x.1)
theorem G8:dJ PG 167 nR:=
 have K:CxR Iy:=aX.cx (fun _=>rfl) (l:=[(166,ku)]) ⟨Bj,trivial⟩
 O3 K (aI (l:=[]) rfl trivial) (by kernel_rfl) (fun x y h=>(NR x.1).trans h) rfl rfl
def qj (x0:eY):Option (eY×(aG)):=af (bV x0 8) fun y0 => af (gY y0.fst) fun y1 => af (gY y1.fst) fun y2 => af (gY y2.fst) fun y3 => af (gY y3.fst) fun y4 => af (bV y4.fst 8) fun y5 => af (bV y5.fst 8) fun y6 => af (bV y6.fst 8) fun y7 => af (bV y7.fst 8) fun y8 => af (bV y8.fst 8) fun y9 => af (bV y9.fst 8) fun y10 => af (ou y10.fst) fun y11 => some (y11.fst,aG.mk y0.snd y1.snd y2.snd y3.snd y5.snd y6.snd y7.snd y4.snd y8.snd y9.snd y10.snd y11.snd)
noncomputable def FY:Cx:={ P:=PG,ety:=ety,fn:=look [(168,jZ),(166,ku),(167,nR)],inl:=eU [],lp:=aY [] }
theorem MQ (x0:eY):QX FY 169 .reader [] [.val .order] x0 ()=qj x0:=by kernel_rfl
def vM:aV:=qy .reader [] [.val .order] (fun x=>qj x.1)
theorem PI:dJ PG 169 vM:=
 have K:CxR FY:=aX.cx (fun _=>rfl) (l:=[(168,jZ),(166,ku),(167,nR)]) ⟨AL,Bj,G8,trivial⟩
 O3 K (aI (l:=[]) rfl trivial) (by kernel_rfl) (fun x y h=>(MQ x.1).trans h) rfl rfl
def EY (x0:aj) (x1:Int) (x2:Int):Option (Int):=cnd (bor (bor (bor (ilt x1 0) (ile x0.accounts x1)) (ilt x2 0)) (ile x0.symbols x2)) (some (-1)) (af (bg x0 x1 x2) fun y0 => some y0)
noncomputable def SV:Cx:={ P:=PG,ety:=ety,fn:=look [(137,fD)],inl:=eU [],lp:=aY [] }
theorem Wu (x0:aj) (x1:Int) (x2:Int):bP SV 170 [.val .state,.int .i64,.int .i64] [.int .i64] (x0,x1,x2)=EY x0 x1 x2:=by kernel_rfl
def Ed:aV:=mkSpec [.val .state,.int .i64,.int .i64] [.int .i64] true (fun x=>EY x.1 x.2.1 x.2.2)
theorem aac:dJ PG 170 Ed:=
 have K:CxR SV:=aX.cx (fun _=>rfl) (l:=[(137,fD)]) ⟨qx,trivial⟩
 aJ K (aI (l:=[]) rfl trivial) (by kernel_rfl) (fun x y h=>(Wu x.1 x.2.1 x.2.2).trans h) rfl rfl
def IQ:LSh:=⟨136,[(77,.int .i64),(76,.ro .u8),(9,.int .u32)],[(2,.mp 8 0)],[],[(78,.int .i64),(3,.int .i64)],[(8,[.val .state])],[]⟩
@[reducible] def IJ:List iQ:=[⟨.ret,[(3,.int .i64)],[(8,[.val .state])],[]⟩,⟨.exit 0,[(3,.int .i64)],[(8,[.val .state])],[]⟩]
def oC (p0:Int) (p1:(List Int)) (p2:Int) (v0:Int) (v1:Int) (v2:aj):Option ((Int×Int×aj) ⊕ ((Int×aj) ⊕ ((Int×aj)))):=cnd (ilt v0 p0) (cnd (band (ile 0 v0) (ilt v0 (len p1))) (cnd (ile 0 (wr .i64 (jr 8 v0))) (cnd (aC (ieq (ah p1 (itn v0)) (wr .u8 (cZ .u32 p2 (wr .i64 (jr 8 v0)))))) (some (Sum.inr (Sum.inl (10,aj.mk 0 0 [] [] [] [] false 0 0 0)))) (some (Sum.inl (wr .i64 (ak v0 1),v1,v2)))) none) none) (some (Sum.inr (Sum.inr (v1,v2))))
def F5:iF:=IQ.spec IJ [79,80,81,82,10,11,83,84,85,86,87,88,89,90,3,91,78] (fun p v=>oC p.1 p.2.1 p.2.2 v.1 v.2.1 v.2.2)
def nY:LSh:=⟨245,[(28,.int .i64)],[(3,.mp 1264 0),(0,.mp 1152 0)],[],[(29,.int .i64)],[(1264,[.int .i64,.int .i64,.buf .order,.buf .cell,.buf .expo,.buf .i64,.bool,.int .i64,.int .i64,.int .i64]),(1152,[.val .reader])],[]⟩
@[reducible] def nT:List iQ:=[⟨.exit 0,[],[(1264,[.int .i64,.int .i64,.buf .order,.buf .cell,.buf .expo,.buf .i64,.bool,.int .i64,.int .i64,.int .i64]),(1152,[.val .reader])],[]⟩]
def dR (p0:Int) (v0:Int) (v1:Int) (v2:Int) (v3:(List aG)) (v4:(List aS)) (v5:(List dP)) (v6:(List Int)) (v7:Bool) (v8:Int) (v9:Int) (v10:Int) (v11:eY):Option ((Int×Int×Int×(List aG)×(List aS)×(List dP)×(List Int)×Bool×Int×Int×Int×eY) ⊕ ((Int×Int×(List aG)×(List aS)×(List dP)×(List Int)×Bool×Int×Int×Int×eY))):=cnd (ilt v0 p0) (af (qj v11) fun y0 => cnd (band (ile 0 v0) (ilt v0 (len v3))) (some (Sum.inl (wr .i64 (ak v0 1),v1,v2,bf v3 (itn v0) y0.snd,v4,v5,v6,v7,v8,v9,v10,y0.fst))) none) (some (Sum.inr (v1,v2,v3,v4,v5,v6,v7,v8,v9,v10,v11)))
def mX:iF:=nY.spec nT [30,31,4,32,33,34,35,36,37,38,29] (fun p v=>dR p v.1 v.2.1 v.2.2.1 v.2.2.2.1 v.2.2.2.2.1 v.2.2.2.2.2.1 v.2.2.2.2.2.2.1 v.2.2.2.2.2.2.2.1 v.2.2.2.2.2.2.2.2.1 v.2.2.2.2.2.2.2.2.2.1 v.2.2.2.2.2.2.2.2.2.2.1 v.2.2.2.2.2.2.2.2.2.2.2)
def mY:LSh:=⟨344,[(48,.int .i64)],[(3,.mp 1264 0),(0,.mp 1152 0)],[],[(49,.int .i64)],[(1264,[.int .i64,.int .i64,.buf .order,.buf .cell,.buf .expo,.buf .i64,.bool,.int .i64,.int .i64,.int .i64]),(1152,[.val .reader])],[]⟩
@[reducible] def mZ:List iQ:=[⟨.exit 2,[],[(1264,[.int .i64,.int .i64,.buf .order,.buf .cell,.buf .expo,.buf .i64,.bool,.int .i64,.int .i64,.int .i64]),(1152,[.val .reader])],[]⟩]
def dL (p0:Int) (v0:Int) (v1:Int) (v2:Int) (v3:(List aG)) (v4:(List aS)) (v5:(List dP)) (v6:(List Int)) (v7:Bool) (v8:Int) (v9:Int) (v10:Int) (v11:eY):Option ((Int×Int×Int×(List aG)×(List aS)×(List dP)×(List Int)×Bool×Int×Int×Int×eY) ⊕ ((Int×Int×(List aG)×(List aS)×(List dP)×(List Int)×Bool×Int×Int×Int×eY))):=cnd (ilt v0 p0) (af (bV v11 8) fun y0 => cnd (band (ile 0 v0) (ilt v0 (len v4))) (some (Sum.inl (wr .i64 (ak v0 1),v1,v2,v3,bf v4 (itn v0) (aS.mk y0.snd (ah v4 (itn v0)).buy (ah v4 (itn v0)).sell (ah v4 (itn v0)).opn),v5,v6,v7,v8,v9,v10,y0.fst))) none) (some (Sum.inr (v1,v2,v3,v4,v5,v6,v7,v8,v9,v10,v11)))
def mr:iF:=mY.spec mZ [50,51,5,52,53,54,55,56,57,58,59,49] (fun p v=>dL p v.1 v.2.1 v.2.2.1 v.2.2.2.1 v.2.2.2.2.1 v.2.2.2.2.2.1 v.2.2.2.2.2.2.1 v.2.2.2.2.2.2.2.1 v.2.2.2.2.2.2.2.2.1 v.2.2.2.2.2.2.2.2.2.1 v.2.2.2.2.2.2.2.2.2.2.1 v.2.2.2.2.2.2.2.2.2.2.2)
def mW:LSh:=⟨435,[(62,.int .i64)],[(3,.mp 1264 0),(0,.mp 1152 0)],[],[(63,.int .i64)],[(1264,[.int .i64,.int .i64,.buf .order,.buf .cell,.buf .expo,.buf .i64,.bool,.int .i64,.int .i64,.int .i64]),(1152,[.val .reader])],[]⟩
@[reducible] def mV:List iQ:=[⟨.exit 4,[],[(1264,[.int .i64,.int .i64,.buf .order,.buf .cell,.buf .expo,.buf .i64,.bool,.int .i64,.int .i64,.int .i64]),(1152,[.val .reader])],[]⟩]
def dK (p0:Int) (v0:Int) (v1:Int) (v2:Int) (v3:(List aG)) (v4:(List aS)) (v5:(List dP)) (v6:(List Int)) (v7:Bool) (v8:Int) (v9:Int) (v10:Int) (v11:eY):Option ((Int×Int×Int×(List aG)×(List aS)×(List dP)×(List Int)×Bool×Int×Int×Int×eY) ⊕ ((Int×Int×(List aG)×(List aS)×(List dP)×(List Int)×Bool×Int×Int×Int×eY))):=cnd (ilt v0 p0) (af (bV v11 8) fun y0 => af (bV y0.fst 8) fun y1 => af (bV y1.fst 8) fun y2 => cnd (ile (len (jQ v5 [dP.mk y0.snd y1.snd y2.snd])) 68719476736) (some (Sum.inl (wr .i64 (ak v0 1),v1,v2,v3,v4,jQ v5 [dP.mk y0.snd y1.snd y2.snd],v6,v7,v8,v9,v10,y2.fst))) none) (some (Sum.inr (v1,v2,v3,v4,v5,v6,v7,v8,v9,v10,v11)))
def mG:iF:=mW.spec mV [64,65,66,67,68,69,70,71,72,73,74,75,76,77,63] (fun p v=>dK p v.1 v.2.1 v.2.2.1 v.2.2.2.1 v.2.2.2.2.1 v.2.2.2.2.2.1 v.2.2.2.2.2.2.1 v.2.2.2.2.2.2.2.1 v.2.2.2.2.2.2.2.2.1 v.2.2.2.2.2.2.2.2.2.1 v.2.2.2.2.2.2.2.2.2.2.1 v.2.2.2.2.2.2.2.2.2.2.2)
def ng:LSh:=⟨525,[(79,.int .i64)],[(3,.mp 1264 0),(0,.mp 1152 0)],[],[(80,.int .i64)],[(1264,[.int .i64,.int .i64,.buf .order,.buf .cell,.buf .expo,.buf .i64,.bool,.int .i64,.int .i64,.int .i64]),(1152,[.val .reader])],[]⟩
@[reducible] def ny:List iQ:=[⟨.exit 6,[],[(1264,[.int .i64,.int .i64,.buf .order,.buf .cell,.buf .expo,.buf .i64,.bool,.int .i64,.int .i64,.int .i64]),(1152,[.val .reader])],[]⟩]
def dM (p0:Int) (v0:Int) (v1:Int) (v2:Int) (v3:(List aG)) (v4:(List aS)) (v5:(List dP)) (v6:(List Int)) (v7:Bool) (v8:Int) (v9:Int) (v10:Int) (v11:eY):Option ((Int×Int×Int×(List aG)×(List aS)×(List dP)×(List Int)×Bool×Int×Int×Int×eY) ⊕ ((Int×Int×(List aG)×(List aS)×(List dP)×(List Int)×Bool×Int×Int×Int×eY))):=cnd (ilt v0 p0) (af (bV v11 8) fun y0 => cnd (ile (len (jQ v6 [y0.snd])) 68719476736) (some (Sum.inl (wr .i64 (ak v0 1),v1,v2,v3,v4,v5,jQ v6 [y0.snd],v7,v8,v9,v10,y0.fst))) none) (some (Sum.inr (v1,v2,v3,v4,v5,v6,v7,v8,v9,v10,v11)))
def mF:iF:=ng.spec ny [81,82,83,84,85,86,87,88,89,80] (fun p v=>dM p v.1 v.2.1 v.2.2.1 v.2.2.2.1 v.2.2.2.2.1 v.2.2.2.2.2.1 v.2.2.2.2.2.2.1 v.2.2.2.2.2.2.2.1 v.2.2.2.2.2.2.2.2.1 v.2.2.2.2.2.2.2.2.2.1 v.2.2.2.2.2.2.2.2.2.2.1 v.2.2.2.2.2.2.2.2.2.2.2)
def tN:LSh:=⟨634,[(10,.int .i64)],[(9,.mf 4298),(1,.mp 4512 0)],[],[(11,.int .i64),(2,.bool)],[(4512,[.int .i64,.int .i64,.rf 4298,.rf 4299,.rf 4300,.rf 4301,.bool,.int .i64,.int .i64,.int .i64])],[(4298,.order),(4299,.cell),(4300,.expo),(4301,.i64)]⟩
@[reducible] def tK:List iQ:=[⟨.ret,[(2,.bool)],[(4512,[.int .i64,.int .i64,.rf 4298,.rf 4299,.rf 4300,.rf 4301,.bool,.int .i64,.int .i64,.int .i64])],[(4298,.order),(4299,.cell),(4300,.expo),(4301,.i64)]⟩,⟨.exit 0,[(2,.bool)],[(4512,[.int .i64,.int .i64,.rf 4298,.rf 4299,.rf 4300,.rf 4301,.bool,.int .i64,.int .i64,.int .i64])],[(4298,.order),(4299,.cell),(4300,.expo),(4301,.i64)]⟩]
def gy (p0:Int) (v0:Int) (v1:Bool) (v2:Int) (v3:Int) (v4:Unit) (v5:Unit) (v6:Unit) (v7:Unit) (v8:Bool) (v9:Int) (v10:Int) (v11:Int) (v12:(List aG)) (v13:(List aS)) (v14:(List dP)) (v15:(List Int)):Option ((Int×Bool×Int×Int×Unit×Unit×Unit×Unit×Bool×Int×Int×Int×(List aG)×(List aS)×(List dP)×(List Int)) ⊕ ((Bool×Int×Int×Unit×Unit×Unit×Unit×Bool×Int×Int×Int×(List aG)×(List aS)×(List dP)×(List Int)) ⊕ ((Bool×Int×Int×Unit×Unit×Unit×Unit×Bool×Int×Int×Int×(List aG)×(List aS)×(List dP)×(List Int))))):=cnd (ilt v0 p0) (cnd (band (ile 0 v0) (ilt v0 (len v12))) (af (EY (aj.mk v2 v3 v12 v13 v14 v15 v8 v9 v10 v11) (ah v12 (itn v0)).account (ah v12 (itn v0)).symbol) fun y0 => cnd (ieq y0 (-1)) (some (Sum.inr (Sum.inl (false,v2,v3,PUnit.unit,PUnit.unit,PUnit.unit,PUnit.unit,v8,v9,v10,v11,v12,v13,v14,v15)))) (cnd (band (ile 0 y0) (ilt y0 (len v13))) (af (iI (ah v13 (itn y0)) (ah v12 (itn v0))) fun y1 => cnd (aC (ieq y1.snd 0)) (some (Sum.inr (Sum.inl (false,v2,v3,PUnit.unit,PUnit.unit,PUnit.unit,PUnit.unit,v8,v9,v10,v11,v12,v13,v14,v15)))) (cnd (band (ile 0 y0) (ilt y0 (len v13))) (some (Sum.inl (wr .i64 (ak v0 1),v1,v2,v3,PUnit.unit,PUnit.unit,PUnit.unit,PUnit.unit,v8,v9,v10,v11,v12,bf v13 (itn y0) y1.fst,v14,v15))) none)) none)) none) (some (Sum.inr (Sum.inr (v1,v2,v3,PUnit.unit,PUnit.unit,PUnit.unit,PUnit.unit,v8,v9,v10,v11,v12,v13,v14,v15))))
def sO:iF:=tN.spec tK [12,13,14,4,15,16,17,18,19,20,5,21,22,2,24,25,26,27,28,29,30,23,31,32,6,7,33,34,35,36,37,38,39,40,11] (fun p v=>gy p v.1 v.2.1 v.2.2.1 v.2.2.2.1 v.2.2.2.2.1 v.2.2.2.2.2.1 v.2.2.2.2.2.2.1 v.2.2.2.2.2.2.2.1 v.2.2.2.2.2.2.2.2.1 v.2.2.2.2.2.2.2.2.2.1 v.2.2.2.2.2.2.2.2.2.2.1 v.2.2.2.2.2.2.2.2.2.2.2.1 v.2.2.2.2.2.2.2.2.2.2.2.2.1 v.2.2.2.2.2.2.2.2.2.2.2.2.2.1 v.2.2.2.2.2.2.2.2.2.2.2.2.2.2.1 v.2.2.2.2.2.2.2.2.2.2.2.2.2.2.2)
def qM (x0:(List Int)):Option (aj×Int):=cnd (bor (ile 4 (len x0)) (aC (aC (ilt (len x0) 36)))) (cnd (bor (ilt (len x0) 36) (aC (seq (u2s (aB x0 4)) [(UInt8.ofNat 115),(UInt8.ofNat 110),(UInt8.ofNat 97),(UInt8.ofNat 102)]))) (some (aj.mk 0 0 [] [] [] [] false 0 0 0,2)) (cnd (ilt 4 (len x0)) (cnd (ilt 5 (len x0)) (cnd (ilt 7 (len x0)) (af (cnd (aC (bor (bor (bor (bor (ilt (wr .i64 (ah x0 4)) 1) (ilt 8 (wr .i64 (ah x0 4)))) (ilt (wr .i64 (ah x0 5)) 1)) (ilt 8 (wr .i64 (ah x0 5)))) (ilt 64 (wr .i64 (ah x0 7))))) (BV (wr .i64 (ah x0 4)) (wr .i64 (ah x0 5)) (wr .i64 (ah x0 7))) (some 0)) fun y0 => cnd (bor (bor (bor (bor (bor (ilt (wr .i64 (ah x0 4)) 1) (ilt 8 (wr .i64 (ah x0 4)))) (ilt (wr .i64 (ah x0 5)) 1)) (ilt 8 (wr .i64 (ah x0 5)))) (ilt 64 (wr .i64 (ah x0 7)))) (aC (ieq (len x0) y0))) (some (aj.mk 0 0 [] [] [] [] false 0 0 0,2)) (cnd (band (ile 0 (wr .i64 (aF (len x0) 4))) (ile (wr .i64 (aF (len x0) 4)) (len x0))) (cnd (band (ile 0 (wr .i64 (aF (len x0) 4))) (ile (wr .i64 (aF (len x0) 4)) (len x0))) (af (Fq (aB x0 (itn (wr .i64 (aF (len x0) 4))))) fun y1 => af (bF (fun v => oC (len (aH x0 (itn (wr .i64 (aF (len x0) 4))))) (aH x0 (itn (wr .i64 (aF (len x0) 4)))) y1 v.fst v.snd.fst v.snd.snd) LF (0,0,aj.mk 0 0 [] [] [] [] false 0 0 0)) fun y2 => qf y2 (fun y3 => some (y3.snd,y3.fst)) fun y3 => cnd (ile 4 (len (aB x0 (itn (wr .i64 (aF (len x0) 4)))))) (af (gY (eY.mk (aH (aB x0 (itn (wr .i64 (aF (len x0) 4)))) 4) false)) fun y4 => af (gY y4.fst) fun y5 => af (ou y5.fst) fun y6 => af (gY y6.fst) fun y7 => cnd (band (band (ile 0 y7.snd) (ile y7.snd y7.snd)) (ile y7.snd 68719476736)) (af (bV y7.fst 8) fun y8 => af (bV y8.fst 8) fun y9 => af (bV y9.fst 8) fun y10 => af (bF (fun v => dR (len (ja aG (itn y7.snd))) v.fst v.snd.fst v.snd.snd.fst v.snd.snd.snd.fst v.snd.snd.snd.snd.fst v.snd.snd.snd.snd.snd.fst v.snd.snd.snd.snd.snd.snd.fst v.snd.snd.snd.snd.snd.snd.snd.fst v.snd.snd.snd.snd.snd.snd.snd.snd.fst v.snd.snd.snd.snd.snd.snd.snd.snd.snd.fst v.snd.snd.snd.snd.snd.snd.snd.snd.snd.snd.fst v.snd.snd.snd.snd.snd.snd.snd.snd.snd.snd.snd) LF (0,y4.snd,y5.snd,ja aG (itn y7.snd),[],[],[],y6.snd,y8.snd,y9.snd,y10.snd,y10.fst)) fun y11 => cnd (band (band (ile 0 (wr .i64 (jr y11.fst y11.snd.fst))) (ile (wr .i64 (jr y11.fst y11.snd.fst)) (wr .i64 (jr y11.fst y11.snd.fst)))) (ile (wr .i64 (jr y11.fst y11.snd.fst)) 68719476736)) (af (bF (fun v => dL (len (ja aS (itn (wr .i64 (jr y11.fst y11.snd.fst))))) v.fst v.snd.fst v.snd.snd.fst v.snd.snd.snd.fst v.snd.snd.snd.snd.fst v.snd.snd.snd.snd.snd.fst v.snd.snd.snd.snd.snd.snd.fst v.snd.snd.snd.snd.snd.snd.snd.fst v.snd.snd.snd.snd.snd.snd.snd.snd.fst v.snd.snd.snd.snd.snd.snd.snd.snd.snd.fst v.snd.snd.snd.snd.snd.snd.snd.snd.snd.snd.fst v.snd.snd.snd.snd.snd.snd.snd.snd.snd.snd.snd) LF (0,y11.fst,y11.snd.fst,y11.snd.snd.fst,ja aS (itn (wr .i64 (jr y11.fst y11.snd.fst))),y11.snd.snd.snd.snd)) fun y12 => af (bF (fun v => dK (len y12.snd.snd.snd.fst) v.fst v.snd.fst v.snd.snd.fst v.snd.snd.snd.fst v.snd.snd.snd.snd.fst v.snd.snd.snd.snd.snd.fst v.snd.snd.snd.snd.snd.snd.fst v.snd.snd.snd.snd.snd.snd.snd.fst v.snd.snd.snd.snd.snd.snd.snd.snd.fst v.snd.snd.snd.snd.snd.snd.snd.snd.snd.fst v.snd.snd.snd.snd.snd.snd.snd.snd.snd.snd.fst v.snd.snd.snd.snd.snd.snd.snd.snd.snd.snd.snd) LF (0,y12)) fun y13 => af (bF (fun v => dM y13.fst v.fst v.snd.fst v.snd.snd.fst v.snd.snd.snd.fst v.snd.snd.snd.snd.fst v.snd.snd.snd.snd.snd.fst v.snd.snd.snd.snd.snd.snd.fst v.snd.snd.snd.snd.snd.snd.snd.fst v.snd.snd.snd.snd.snd.snd.snd.snd.fst v.snd.snd.snd.snd.snd.snd.snd.snd.snd.fst v.snd.snd.snd.snd.snd.snd.snd.snd.snd.snd.fst v.snd.snd.snd.snd.snd.snd.snd.snd.snd.snd.snd) LF (0,y13)) fun y14 => cnd (aC y14.snd.snd.snd.snd.snd.snd.snd.snd.snd.snd.odd) (af (bF (fun v => gy (len y14.snd.snd.fst) v.fst v.snd.fst v.snd.snd.fst v.snd.snd.snd.fst v.snd.snd.snd.snd.fst v.snd.snd.snd.snd.snd.fst v.snd.snd.snd.snd.snd.snd.fst v.snd.snd.snd.snd.snd.snd.snd.fst v.snd.snd.snd.snd.snd.snd.snd.snd.fst v.snd.snd.snd.snd.snd.snd.snd.snd.snd.fst v.snd.snd.snd.snd.snd.snd.snd.snd.snd.snd.fst v.snd.snd.snd.snd.snd.snd.snd.snd.snd.snd.snd.fst v.snd.snd.snd.snd.snd.snd.snd.snd.snd.snd.snd.snd.fst v.snd.snd.snd.snd.snd.snd.snd.snd.snd.snd.snd.snd.snd.fst v.snd.snd.snd.snd.snd.snd.snd.snd.snd.snd.snd.snd.snd.snd.fst v.snd.snd.snd.snd.snd.snd.snd.snd.snd.snd.snd.snd.snd.snd.snd) LF (0,false,y14.fst,y14.snd.fst,PUnit.unit,PUnit.unit,PUnit.unit,PUnit.unit,y14.snd.snd.snd.snd.snd.snd.fst,y14.snd.snd.snd.snd.snd.snd.snd.fst,y14.snd.snd.snd.snd.snd.snd.snd.snd.fst,y14.snd.snd.snd.snd.snd.snd.snd.snd.snd.fst,y14.snd.snd.fst,y14.snd.snd.snd.fst,y14.snd.snd.snd.snd.fst,y14.snd.snd.snd.snd.snd.fst)) fun y15 => qf y15 (fun y16 => af (cnd (aC (bor y14.snd.snd.snd.snd.snd.snd.snd.snd.snd.snd.odd (aC y16.fst))) (jT (aj.mk y14.fst y14.snd.fst y16.snd.snd.snd.snd.snd.snd.snd.snd.snd.snd.snd.fst y16.snd.snd.snd.snd.snd.snd.snd.snd.snd.snd.snd.snd.fst y16.snd.snd.snd.snd.snd.snd.snd.snd.snd.snd.snd.snd.snd.fst y16.snd.snd.snd.snd.snd.snd.snd.snd.snd.snd.snd.snd.snd.snd y14.snd.snd.snd.snd.snd.snd.fst y14.snd.snd.snd.snd.snd.snd.snd.fst y14.snd.snd.snd.snd.snd.snd.snd.snd.fst y14.snd.snd.snd.snd.snd.snd.snd.snd.snd.fst)) (some false)) fun y17 => cnd (bor (bor y14.snd.snd.snd.snd.snd.snd.snd.snd.snd.snd.odd (aC y16.fst)) (aC y17)) (some (aj.mk 0 0 [] [] [] [] false 0 0 0,2)) (some (aj.mk y14.fst y14.snd.fst y16.snd.snd.snd.snd.snd.snd.snd.snd.snd.snd.snd.fst y16.snd.snd.snd.snd.snd.snd.snd.snd.snd.snd.snd.snd.fst y16.snd.snd.snd.snd.snd.snd.snd.snd.snd.snd.snd.snd.snd.fst y16.snd.snd.snd.snd.snd.snd.snd.snd.snd.snd.snd.snd.snd.snd y14.snd.snd.snd.snd.snd.snd.fst y14.snd.snd.snd.snd.snd.snd.snd.fst y14.snd.snd.snd.snd.snd.snd.snd.snd.fst y14.snd.snd.snd.snd.snd.snd.snd.snd.snd.fst,0))) fun y16 => af (cnd (aC (bor y14.snd.snd.snd.snd.snd.snd.snd.snd.snd.snd.odd false)) (jT (aj.mk y14.fst y14.snd.fst y16.snd.snd.snd.snd.snd.snd.snd.snd.snd.snd.snd.fst y16.snd.snd.snd.snd.snd.snd.snd.snd.snd.snd.snd.snd.fst y16.snd.snd.snd.snd.snd.snd.snd.snd.snd.snd.snd.snd.snd.fst y16.snd.snd.snd.snd.snd.snd.snd.snd.snd.snd.snd.snd.snd.snd y14.snd.snd.snd.snd.snd.snd.fst y14.snd.snd.snd.snd.snd.snd.snd.fst y14.snd.snd.snd.snd.snd.snd.snd.snd.fst y14.snd.snd.snd.snd.snd.snd.snd.snd.snd.fst)) (some false)) fun y18 => cnd (bor (bor y14.snd.snd.snd.snd.snd.snd.snd.snd.snd.snd.odd false) (aC y18)) (some (aj.mk 0 0 [] [] [] [] false 0 0 0,2)) (some (aj.mk y14.fst y14.snd.fst y16.snd.snd.snd.snd.snd.snd.snd.snd.snd.snd.snd.fst y16.snd.snd.snd.snd.snd.snd.snd.snd.snd.snd.snd.snd.fst y16.snd.snd.snd.snd.snd.snd.snd.snd.snd.snd.snd.snd.snd.fst y16.snd.snd.snd.snd.snd.snd.snd.snd.snd.snd.snd.snd.snd.snd y14.snd.snd.snd.snd.snd.snd.fst y14.snd.snd.snd.snd.snd.snd.snd.fst y14.snd.snd.snd.snd.snd.snd.snd.snd.fst y14.snd.snd.snd.snd.snd.snd.snd.snd.snd.fst,0))) (af (cnd (aC (bor y14.snd.snd.snd.snd.snd.snd.snd.snd.snd.snd.odd true)) (jT (aj.mk y14.fst y14.snd.fst y14.snd.snd.fst y14.snd.snd.snd.fst y14.snd.snd.snd.snd.fst y14.snd.snd.snd.snd.snd.fst y14.snd.snd.snd.snd.snd.snd.fst y14.snd.snd.snd.snd.snd.snd.snd.fst y14.snd.snd.snd.snd.snd.snd.snd.snd.fst y14.snd.snd.snd.snd.snd.snd.snd.snd.snd.fst)) (some false)) fun y19 => cnd (bor (bor y14.snd.snd.snd.snd.snd.snd.snd.snd.snd.snd.odd true) (aC y19)) (some (aj.mk 0 0 [] [] [] [] false 0 0 0,2)) (some (aj.mk y14.fst y14.snd.fst y14.snd.snd.fst y14.snd.snd.snd.fst y14.snd.snd.snd.snd.fst y14.snd.snd.snd.snd.snd.fst y14.snd.snd.snd.snd.snd.snd.fst y14.snd.snd.snd.snd.snd.snd.snd.fst y14.snd.snd.snd.snd.snd.snd.snd.snd.fst y14.snd.snd.snd.snd.snd.snd.snd.snd.snd.fst,0)))) none) none) none) none) none)) none) none) none)) none
noncomputable def qV:Cx:={ P:=PG,ety:=ety,fn:=look [(109,yT),(71,BA),(166,ku),(167,nR),(168,jZ),(169,vM),(170,Ed),(138,qw),(18,jb)],inl:=eU [110,111],lp:=aY [(47,1018,F5),(201864077422,250,mX),(201864077422,1018,mr),(201864077422,2042,mG),(201864077422,4090,mF),(201865773167,26,sO)] }
theorem Oy (p0:Int) (p1:(List Int)) (p2:Int) (v0:Int) (v1:Int) (v2:aj):jW qV 900 47 1018 (gJ PG 47 1018) IQ IJ (p0,p1,p2) (v0,v1,v2)=oC p0 p1 p2 v0 v1 v2:=by kernel_rfl
theorem uN (p0:Int) (v0:Int) (v1:Int) (v2:Int) (v3:(List aG)) (v4:(List aS)) (v5:(List dP)) (v6:(List Int)) (v7:Bool) (v8:Int) (v9:Int) (v10:Int) (v11:eY):jW qV 900 201864077422 250 (gJ PG 110 250) nY nT p0 (v0,v1,v2,v3,v4,v5,v6,v7,v8,v9,v10,v11)=dR p0 v0 v1 v2 v3 v4 v5 v6 v7 v8 v9 v10 v11:=by kernel_rfl
theorem um (p0:Int) (v0:Int) (v1:Int) (v2:Int) (v3:(List aG)) (v4:(List aS)) (v5:(List dP)) (v6:(List Int)) (v7:Bool) (v8:Int) (v9:Int) (v10:Int) (v11:eY):jW qV 900 201864077422 1018 (gJ PG 110 1018) mY mZ p0 (v0,v1,v2,v3,v4,v5,v6,v7,v8,v9,v10,v11)=dL p0 v0 v1 v2 v3 v4 v5 v6 v7 v8 v9 v10 v11:=by kernel_rfl
theorem uD (p0:Int) (v0:Int) (v1:Int) (v2:Int) (v3:(List aG)) (v4:(List aS)) (v5:(List dP)) (v6:(List Int)) (v7:Bool) (v8:Int) (v9:Int) (v10:Int) (v11:eY):jW qV 900 201864077422 2042 (gJ PG 110 2042) mW mV p0 (v0,v1,v2,v3,v4,v5,v6,v7,v8,v9,v10,v11)=dK p0 v0 v1 v2 v3 v4 v5 v6 v7 v8 v9 v10 v11:=by kernel_rfl
theorem uh (p0:Int) (v0:Int) (v1:Int) (v2:Int) (v3:(List aG)) (v4:(List aS)) (v5:(List dP)) (v6:(List Int)) (v7:Bool) (v8:Int) (v9:Int) (v10:Int) (v11:eY):jW qV 900 201864077422 4090 (gJ PG 110 4090) ng ny p0 (v0,v1,v2,v3,v4,v5,v6,v7,v8,v9,v10,v11)=dM p0 v0 v1 v2 v3 v4 v5 v6 v7 v8 v9 v10 v11:=by kernel_rfl
theorem Bo (p0:Int) (v0:Int) (v1:Bool) (v2:Int) (v3:Int) (v4:Unit) (v5:Unit) (v6:Unit) (v7:Unit) (v8:Bool) (v9:Int) (v10:Int) (v11:Int) (v12:(List aG)) (v13:(List aS)) (v14:(List dP)) (v15:(List Int)):jW qV 900 201865773167 26 (gJ PG 111 26) tN tK p0 (v0,v1,v2,v3,v4,v5,v6,v7,v8,v9,v10,v11,v12,v13,v14,v15)=gy p0 v0 v1 v2 v3 v4 v5 v6 v7 v8 v9 v10 v11 v12 v13 v14 v15:=by kernel_rfl
theorem WQ (x0:(List Int)):bP qV 47 [.ro .u8] [.val .state,.int .i64] x0=qM x0:=by kernel_rfl
def Et:aV:=mkSpec [.ro .u8] [.val .state,.int .i64] false (fun x=>qM x)
theorem ZO:dJ PG 47 Et:=
 have K:CxR qV:=aX.cx (fun _=>rfl) (l:=[(109,yT),(71,BA),(166,ku),(167,nR),(168,jZ),(169,vM),(170,Ed),(138,qw),(18,jb)]) ⟨VQ,Zv,Bj,G8,AL,PI,aac,Kr,yg,trivial⟩
 aJ K (aI (l:=[(47,1018,F5),(201864077422,250,mX),(201864077422,1018,mr),(201864077422,2042,mG),(201864077422,4090,mF),(201865773167,26,sO)]) rfl ⟨dN (n:=900) (f:=47) K (by kernel_rfl) (by kernel_rfl) (by kernel_rfl) (by kernel_rfl) (by kernel_rfl) (fun p v r h=>(Oy p.1 p.2.1 p.2.2 v.1 v.2.1 v.2.2).trans h),
  dN (n:=900) (f:=110) K (by kernel_rfl) (by kernel_rfl) (by kernel_rfl) (by kernel_rfl) (by kernel_rfl) (fun p v r h=>(uN p v.1 v.2.1 v.2.2.1 v.2.2.2.1 v.2.2.2.2.1 v.2.2.2.2.2.1 v.2.2.2.2.2.2.1 v.2.2.2.2.2.2.2.1 v.2.2.2.2.2.2.2.2.1 v.2.2.2.2.2.2.2.2.2.1 v.2.2.2.2.2.2.2.2.2.2.1 v.2.2.2.2.2.2.2.2.2.2.2).trans h),
  dN (n:=900) (f:=110) K (by kernel_rfl) (by kernel_rfl) (by kernel_rfl) (by kernel_rfl) (by kernel_rfl) (fun p v r h=>(um p v.1 v.2.1 v.2.2.1 v.2.2.2.1 v.2.2.2.2.1 v.2.2.2.2.2.1 v.2.2.2.2.2.2.1 v.2.2.2.2.2.2.2.1 v.2.2.2.2.2.2.2.2.1 v.2.2.2.2.2.2.2.2.2.1 v.2.2.2.2.2.2.2.2.2.2.1 v.2.2.2.2.2.2.2.2.2.2.2).trans h),
  dN (n:=900) (f:=110) K (by kernel_rfl) (by kernel_rfl) (by kernel_rfl) (by kernel_rfl) (by kernel_rfl) (fun p v r h=>(uD p v.1 v.2.1 v.2.2.1 v.2.2.2.1 v.2.2.2.2.1 v.2.2.2.2.2.1 v.2.2.2.2.2.2.1 v.2.2.2.2.2.2.2.1 v.2.2.2.2.2.2.2.2.1 v.2.2.2.2.2.2.2.2.2.1 v.2.2.2.2.2.2.2.2.2.2.1 v.2.2.2.2.2.2.2.2.2.2.2).trans h),
  dN (n:=900) (f:=110) K (by kernel_rfl) (by kernel_rfl) (by kernel_rfl) (by kernel_rfl) (by kernel_rfl) (fun p v r h=>(uh p v.1 v.2.1 v.2.2.1 v.2.2.2.1 v.2.2.2.2.1 v.2.2.2.2.2.1 v.2.2.2.2.2.2.1 v.2.2.2.2.2.2.2.1 v.2.2.2.2.2.2.2.2.1 v.2.2.2.2.2.2.2.2.2.1 v.2.2.2.2.2.2.2.2.2.2.1 v.2.2.2.2.2.2.2.2.2.2.2).trans h),
  dN (n:=900) (f:=111) K (by kernel_rfl) (by kernel_rfl) (by kernel_rfl) (by kernel_rfl) (by kernel_rfl) (fun p v r h=>(Bo p v.1 v.2.1 v.2.2.1 v.2.2.2.1 v.2.2.2.2.1 v.2.2.2.2.2.1 v.2.2.2.2.2.2.1 v.2.2.2.2.2.2.2.1 v.2.2.2.2.2.2.2.2.1 v.2.2.2.2.2.2.2.2.2.1 v.2.2.2.2.2.2.2.2.2.2.1 v.2.2.2.2.2.2.2.2.2.2.2.1 v.2.2.2.2.2.2.2.2.2.2.2.2.1 v.2.2.2.2.2.2.2.2.2.2.2.2.2.1 v.2.2.2.2.2.2.2.2.2.2.2.2.2.2.1 v.2.2.2.2.2.2.2.2.2.2.2.2.2.2.2).trans h),trivial⟩) (by kernel_rfl) (fun x y h=>(WQ x).trans h) rfl rfl
def kP (x0:ai):Option (aj×Int×Int):=af (qL x0) fun y0 => cnd (aC (ieq y0.snd 0)) (some (aj.mk 0 0 [] [] [] [] false 0 0 0,0,y0.snd)) (af (dS y0.fst.gen) fun y1 => af (kE x0 y1) fun y2 => cnd (ieq y2.snd 0) (af (qM y2.fst) fun y3 => cnd (band (ieq y3.snd 0) (ieq y3.fst.lsn y0.fst.lsn)) (some (y3.fst,y0.fst.gen,0)) (some (aj.mk 0 0 [] [] [] [] false 0 0 0,0,2))) (some (aj.mk 0 0 [] [] [] [] false 0 0 0,0,2)))
noncomputable def RY:Cx:={ P:=PG,ety:=ety,fn:=look [(25,pY),(17,oL),(21,lK),(47,Et)],inl:=eU [],lp:=aY [] }
theorem WH (x0:ai):bP RY 13 [.val .disk] [.val .state,.int .i64,.int .i64] x0=kP x0:=by kernel_rfl
def uP:aV:=mkSpec [.val .disk] [.val .state,.int .i64,.int .i64] false (fun x=>kP x)
theorem PX:dJ PG 13 uP:=
 have K:CxR RY:=aX.cx (fun _=>rfl) (l:=[(25,pY),(17,oL),(21,lK),(47,Et)]) ⟨KO,Dk,EU,ZO,trivial⟩
 aJ K (aI (l:=[]) rfl trivial) (by kernel_rfl) (fun x y h=>(WH x).trans h) rfl rfl
def zn (x0:aj):Option (Int):=af (jT x0) fun y0 => cnd (aC y0) (some 0) (af (BV x0.accounts x0.symbols (len x0.orders)) fun y1 => some y1)
noncomputable def YW:Cx:={ P:=PG,ety:=ety,fn:=look [(18,jb),(109,yT)],inl:=eU [],lp:=aY [] }
theorem Z8 (x0:aj):bP YW 67 [.val .state] [.int .i64] x0=zn x0:=by kernel_rfl
def Jj:aV:=mkSpec [.val .state] [.int .i64] true (fun x=>zn x)
theorem adn:dJ PG 67 Jj:=
 have K:CxR YW:=aX.cx (fun _=>rfl) (l:=[(18,jb),(109,yT)]) ⟨yg,VQ,trivial⟩
 aJ K (aI (l:=[]) rfl trivial) (by kernel_rfl) (fun x y h=>(Z8 x).trans h) rfl rfl
def JE (x0:Bool):Option (Int):=cnd x0 (some 1) (some 0)
noncomputable def abw:Cx:={ P:=PG,ety:=ety,fn:=look [],inl:=eU [],lp:=aY [] }
theorem acy (x0:Bool):bP abw 69 [.bool] [.int .i64] x0=JE x0:=by kernel_rfl
def LG:aV:=mkSpec [.bool] [.int .i64] true (fun x=>JE x)
theorem afG:dJ PG 69 LG:=
 have K:CxR abw:=aX.cx (fun _=>rfl) (l:=[]) trivial
 aJ K (aI (l:=[]) rfl trivial) (by kernel_rfl) (fun x y h=>(acy x).trans h) rfl rfl
def Gl:LSh:=⟨144,[(8,.int .i64)],[],[],[(9,.int .i64),(0,.buf .u8)],[],[]⟩
@[reducible] def Hr:List iQ:=[⟨.exit 2,[(0,.buf .u8)],[],[]⟩]
def mP (p0:Int) (v0:Int) (v1:(List Int)):Option ((Int×(List Int)) ⊕ (((List Int)))):=cnd (ile 0 v0) (cnd (ile 0 (wr .i64 (jr 8 v0))) (cnd (ile (len (jQ v1 [wr .u8 (cZ .i64 p0 (wr .i64 (jr 8 v0)))])) 68719476736) (some (Sum.inl (wr .i64 (aF v0 1),jQ v1 [wr .u8 (cZ .i64 p0 (wr .i64 (jr 8 v0)))]))) none) none) (some (Sum.inr v1))
def EO:iF:=Gl.spec Hr [18,19,22,23,24,25,26,27,28,29,0,20,21,9] (fun p v=>mP p v.1 v.2)
def JG:LSh:=⟨71,[(11,.int .i64),(10,.ro .i64),(1,.int .i64)],[],[],[(12,.int .i64),(0,.buf .u8)],[],[]⟩
@[reducible] def J8:List iQ:=[⟨.exit 0,[(0,.buf .u8)],[],[]⟩]
def sF (p0:Int) (p1:(List Int)) (p2:Int) (v0:Int) (v1:(List Int)):Option ((Int×(List Int)) ⊕ (((List Int)))):=cnd (ilt v0 p0) (cnd (band (ile 0 v0) (ilt v0 (len p1))) (af (bF (fun v => mP (ah p1 (itn v0)) v.fst v.snd) LF (wr .i64 (aF p2 1),v1)) fun y0 => some (Sum.inl (wr .i64 (ak v0 1),y0))) none) (some (Sum.inr v1))
def IK:iF:=JG.spec J8 [13,14,15,8,16,17,9,18,19,22,23,24,25,26,27,28,29,0,20,21,30,12] (fun p v=>sF p.1 p.2.1 p.2.2 v.1 v.2)
def pF (x0:(List Int)) (x1:Int) (x2:(List Int)):Option ((List Int)):=af (bF (fun v => sF (len x2) x2 x1 v.fst v.snd) LF (0,x0)) fun y0 => some y0
noncomputable def Dn:Cx:={ P:=PG,ety:=ety,fn:=look [],inl:=eU [],lp:=aY [(68,6758,EO),(68,26,IK)] }
theorem MW (p0:Int) (v0:Int) (v1:(List Int)):jW Dn 900 68 6758 (gJ PG 68 6758) Gl Hr p0 (v0,v1)=mP p0 v0 v1:=by kernel_rfl
theorem Pv (p0:Int) (p1:(List Int)) (p2:Int) (v0:Int) (v1:(List Int)):jW Dn 900 68 26 (gJ PG 68 26) JG J8 (p0,p1,p2) (v0,v1)=sF p0 p1 p2 v0 v1:=by kernel_rfl
theorem UO (x0:(List Int)) (x1:Int) (x2:(List Int)):bP Dn 68 [.buf .u8,.int .i64,.ro .i64] [.buf .u8] (x0,x1,x2)=pF x0 x1 x2:=by kernel_rfl
def BO:aV:=mkSpec [.buf .u8,.int .i64,.ro .i64] [.buf .u8] true (fun x=>pF x.1 x.2.1 x.2.2)
theorem Yp:dJ PG 68 BO:=
 have K:CxR Dn:=aX.cx (fun _=>rfl) (l:=[]) trivial
 aJ K (aI (l:=[(68,6758,EO),(68,26,IK)]) rfl ⟨dN (n:=900) (f:=68) K (by kernel_rfl) (by kernel_rfl) (by kernel_rfl) (by kernel_rfl) (by kernel_rfl) (fun p v r h=>(MW p v.1 v.2).trans h),
  dN (n:=900) (f:=68) K (by kernel_rfl) (by kernel_rfl) (by kernel_rfl) (by kernel_rfl) (by kernel_rfl) (fun p v r h=>(Pv p.1 p.2.1 p.2.2 v.1 v.2).trans h),trivial⟩) (by kernel_rfl) (fun x y h=>(UO x.1 x.2.1 x.2.2).trans h) rfl rfl
def DF:LSh:=⟨144,[(8,.int .i64)],[],[],[(9,.int .i64),(0,.buf .u8)],[],[]⟩
@[reducible] def DT:List iQ:=[⟨.exit 2,[(0,.buf .u8)],[],[]⟩]
def wW (p0:Int) (v0:Int) (v1:(List Int)):Option ((Int×(List Int)) ⊕ (((List Int)))):=cnd (ile 0 v0) (cnd (ile 0 (wr .i64 (jr 8 v0))) (cnd (ile (len (jQ v1 [wr .u8 (cZ .i64 p0 (wr .i64 (jr 8 v0)))])) 68719476736) (some (Sum.inl (wr .i64 (aF v0 1),jQ v1 [wr .u8 (cZ .i64 p0 (wr .i64 (jr 8 v0)))]))) none) none) (some (Sum.inr v1))
def BF:iF:=DF.spec DT [18,19,22,23,24,25,26,27,28,29,0,20,21,9] (fun p v=>wW p v.1 v.2)
def Gw:LSh:=⟨71,[(11,.int .i64),(10,.ro .i64),(1,.int .i64)],[],[],[(12,.int .i64),(0,.buf .u8)],[],[]⟩
@[reducible] def Hq:List iQ:=[⟨.exit 0,[(0,.buf .u8)],[],[]⟩]
def zl (p0:Int) (p1:(List Int)) (p2:Int) (v0:Int) (v1:(List Int)):Option ((Int×(List Int)) ⊕ (((List Int)))):=cnd (ilt v0 p0) (cnd (band (ile 0 v0) (ilt v0 (len p1))) (af (bF (fun v => wW (ah p1 (itn v0)) v.fst v.snd) LF (wr .i64 (aF p2 1),v1)) fun y0 => some (Sum.inl (wr .i64 (ak v0 1),y0))) none) (some (Sum.inr v1))
def EF:iF:=Gw.spec Hq [13,14,15,8,16,17,9,18,19,22,23,24,25,26,27,28,29,0,20,21,30,12] (fun p v=>zl p.1 p.2.1 p.2.2 v.1 v.2)
def jI (x0:(List Int)) (x1:Int) (x2:(List Int)):Option ((List Int)):=af (bF (fun v => zl (len x2) x2 x1 v.fst v.snd) LF (0,x0)) fun y0 => some y0
noncomputable def yZ:Cx:={ P:=PG,ety:=ety,fn:=look [],inl:=eU [],lp:=aY [(70,6758,BF),(70,26,EF)] }
theorem Jy (p0:Int) (v0:Int) (v1:(List Int)):jW yZ 900 70 6758 (gJ PG 70 6758) DF DT p0 (v0,v1)=wW p0 v0 v1:=by kernel_rfl
theorem Nb (p0:Int) (p1:(List Int)) (p2:Int) (v0:Int) (v1:(List Int)):jW yZ 900 70 26 (gJ PG 70 26) Gw Hq (p0,p1,p2) (v0,v1)=zl p0 p1 p2 v0 v1:=by kernel_rfl
theorem Rk (x0:(List Int)) (x1:Int) (x2:(List Int)):bP yZ 70 [.buf .u8,.int .i64,.ro .i64] [.buf .u8] (x0,x1,x2)=jI x0 x1 x2:=by kernel_rfl
def zy:aV:=mkSpec [.buf .u8,.int .i64,.ro .i64] [.buf .u8] true (fun x=>jI x.1 x.2.1 x.2.2)
theorem UD:dJ PG 70 zy:=
 have K:CxR yZ:=aX.cx (fun _=>rfl) (l:=[]) trivial
 aJ K (aI (l:=[(70,6758,BF),(70,26,EF)]) rfl ⟨dN (n:=900) (f:=70) K (by kernel_rfl) (by kernel_rfl) (by kernel_rfl) (by kernel_rfl) (by kernel_rfl) (fun p v r h=>(Jy p v.1 v.2).trans h),
  dN (n:=900) (f:=70) K (by kernel_rfl) (by kernel_rfl) (by kernel_rfl) (by kernel_rfl) (by kernel_rfl) (fun p v r h=>(Nb p.1 p.2.1 p.2.2 v.1 v.2).trans h),trivial⟩) (by kernel_rfl) (fun x y h=>(Rk x.1 x.2.1 x.2.2).trans h) rfl rfl
def H7:LSh:=⟨105,[(45,.int .i64),(44,.ro .order)],[],[],[(46,.int .i64),(5,.buf .u8)],[],[]⟩
@[reducible] def Ih:List iQ:=[⟨.exit 0,[(5,.buf .u8)],[],[]⟩]
def qO (p0:Int) (p1:(List aG)) (v0:Int) (v1:(List Int)):Option ((Int×(List Int)) ⊕ (((List Int)))):=cnd (ilt v0 p0) (cnd (band (ile 0 v0) (ilt v0 (len p1))) (af (jI v1 8 [(ah p1 (itn v0)).id]) fun y0 => af (pF y0 1 [(ah p1 (itn v0)).account,(ah p1 (itn v0)).symbol,(ah p1 (itn v0)).side,(ah p1 (itn v0)).phase]) fun y1 => af (jI y1 8 [(ah p1 (itn v0)).qty,(ah p1 (itn v0)).price,(ah p1 (itn v0)).filled,(ah p1 (itn v0)).newQty,(ah p1 (itn v0)).newPrice,(ah p1 (itn v0)).version]) fun y2 => af (JE (ah p1 (itn v0)).asked) fun y3 => af (pF y2 1 [y3]) fun y4 => some (Sum.inl (wr .i64 (ak v0 1),y4))) none) (some (Sum.inr v1))
def GR:iF:=H7.spec Ih [47,48,49,7,50,51,52,53,54,5,55,56,57,58,59,60,61,62,63,64,65,66,67,68,69,70,71,72,73,74,75,76,77,78,79,80,81,82,83,84,85,86,87,46] (fun p v=>qO p.1 p.2 v.1 v.2)
def Ir:LSh:=⟨176,[(90,.int .i64),(89,.ro .cell)],[],[],[(91,.int .i64),(5,.buf .u8)],[],[]⟩
@[reducible] def IL:List iQ:=[⟨.exit 2,[(5,.buf .u8)],[],[]⟩]
def qX (p0:Int) (p1:(List aS)) (v0:Int) (v1:(List Int)):Option ((Int×(List Int)) ⊕ (((List Int)))):=cnd (ilt v0 p0) (cnd (band (ile 0 v0) (ilt v0 (len p1))) (af (jI v1 8 [(ah p1 (itn v0)).pos]) fun y0 => some (Sum.inl (wr .i64 (ak v0 1),y0))) none) (some (Sum.inr v1))
def FM:iF:=Ir.spec IL [92,93,94,9,95,96,97,98,99,5,100,91] (fun p v=>qX p.1 p.2 v.1 v.2)
def II:LSh:=⟨247,[(103,.int .i64),(102,.ro .expo)],[],[],[(104,.int .i64),(5,.buf .u8)],[],[]⟩
@[reducible] def Iw:List iQ:=[⟨.exit 4,[(5,.buf .u8)],[],[]⟩]
def qR (p0:Int) (p1:(List dP)) (v0:Int) (v1:(List Int)):Option ((Int×(List Int)) ⊕ (((List Int)))):=cnd (ilt v0 p0) (cnd (band (ile 0 v0) (ilt v0 (len p1))) (af (jI v1 8 [(ah p1 (itn v0)).long,(ah p1 (itn v0)).short,(ah p1 (itn v0)).opn]) fun y0 => some (Sum.inl (wr .i64 (ak v0 1),y0))) none) (some (Sum.inr v1))
def FO:iF:=II.spec Iw [105,106,107,11,108,109,110,111,112,113,114,115,116,5,117,104] (fun p v=>qR p.1 p.2 v.1 v.2)
def G9:LSh:=⟨323,[(12,.int .u32)],[],[],[(124,.int .i64),(5,.buf .u8)],[],[]⟩
@[reducible] def FX:List iQ:=[⟨.exit 6,[(5,.buf .u8)],[],[]⟩]
def qm (p0:Int) (v0:Int) (v1:(List Int)):Option ((Int×(List Int)) ⊕ (((List Int)))):=cnd (ilt v0 4) (cnd (ile 0 (wr .i64 (jr 8 v0))) (cnd (ile (len (jQ v1 [wr .u8 (cZ .u32 p0 (wr .i64 (jr 8 v0)))])) 68719476736) (some (Sum.inl (wr .i64 (ak v0 1),jQ v1 [wr .u8 (cZ .u32 p0 (wr .i64 (jr 8 v0)))]))) none) none) (some (Sum.inr v1))
def EI:iF:=G9.spec FX [125,126,13,127,128,129,130,131,132,133,134,5,135,124] (fun p v=>qm p v.1 v.2)
def qP (x0:aj):Option ((List Int)×Int):=af (zn x0) fun y0 => cnd (ieq y0 0) (some ([],1)) (cnd (band (ile 0 y0) (ile y0 68719476736)) (af (JE x0.kill) fun y1 => af (pF (jQ (ja Int 0) (s2u [(UInt8.ofNat 115),(UInt8.ofNat 110),(UInt8.ofNat 97),(UInt8.ofNat 102)])) 1 [x0.accounts,x0.symbols,y1,len x0.orders]) fun y2 => af (jI y2 8 [x0.last,x0.seq,x0.lsn]) fun y3 => af (bF (fun v => qO (len x0.orders) x0.orders v.fst v.snd) LF (0,y3)) fun y4 => af (bF (fun v => qX (len x0.cells) x0.cells v.fst v.snd) LF (0,y4)) fun y5 => af (bF (fun v => qR (len x0.limits) x0.limits v.fst v.snd) LF (0,y5)) fun y6 => af (jI y6 8 x0.caps) fun y7 => af (Fq y7) fun y8 => af (bF (fun v => qm y8 v.fst v.snd) LF (0,y7)) fun y9 => some (y9,0)) none)
noncomputable def xH:Cx:={ P:=PG,ety:=ety,fn:=look [(67,Jj),(69,LG),(68,BO),(70,zy),(71,BA)],inl:=eU [],lp:=aY [(24,1018,GR),(24,2042,FM),(24,4090,FO),(24,32762,EI)] }
theorem NQ (p0:Int) (p1:(List aG)) (v0:Int) (v1:(List Int)):jW xH 900 24 1018 (gJ PG 24 1018) H7 Ih (p0,p1) (v0,v1)=qO p0 p1 v0 v1:=by kernel_rfl
theorem Ob (p0:Int) (p1:(List aS)) (v0:Int) (v1:(List Int)):jW xH 900 24 2042 (gJ PG 24 2042) Ir IL (p0,p1) (v0,v1)=qX p0 p1 v0 v1:=by kernel_rfl
theorem Nq (p0:Int) (p1:(List dP)) (v0:Int) (v1:(List Int)):jW xH 900 24 4090 (gJ PG 24 4090) II Iw (p0,p1) (v0,v1)=qR p0 p1 v0 v1:=by kernel_rfl
theorem MJ (p0:Int) (v0:Int) (v1:(List Int)):jW xH 900 24 32762 (gJ PG 24 32762) G9 FX p0 (v0,v1)=qm p0 v0 v1:=by kernel_rfl
theorem Wn (x0:aj):bP xH 24 [.val .state] [.buf .u8,.int .i64] x0=qP x0:=by kernel_rfl
def Ei:aV:=mkSpec [.val .state] [.buf .u8,.int .i64] true (fun x=>qP x)
theorem aah:dJ PG 24 Ei:=
 have K:CxR xH:=aX.cx (fun _=>rfl) (l:=[(67,Jj),(69,LG),(68,BO),(70,zy),(71,BA)]) ⟨adn,afG,Yp,UD,Zv,trivial⟩
 aJ K (aI (l:=[(24,1018,GR),(24,2042,FM),(24,4090,FO),(24,32762,EI)]) rfl ⟨dN (n:=900) (f:=24) K (by kernel_rfl) (by kernel_rfl) (by kernel_rfl) (by kernel_rfl) (by kernel_rfl) (fun p v r h=>(NQ p.1 p.2 v.1 v.2).trans h),
  dN (n:=900) (f:=24) K (by kernel_rfl) (by kernel_rfl) (by kernel_rfl) (by kernel_rfl) (by kernel_rfl) (fun p v r h=>(Ob p.1 p.2 v.1 v.2).trans h),
  dN (n:=900) (f:=24) K (by kernel_rfl) (by kernel_rfl) (by kernel_rfl) (by kernel_rfl) (by kernel_rfl) (fun p v r h=>(Nq p.1 p.2 v.1 v.2).trans h),
  dN (n:=900) (f:=24) K (by kernel_rfl) (by kernel_rfl) (by kernel_rfl) (by kernel_rfl) (by kernel_rfl) (fun p v r h=>(MJ p v.1 v.2).trans h),trivial⟩) (by kernel_rfl) (fun x y h=>(Wn x).trans h) rfl rfl
def aK (x0:(List ax)):Option ((List ax)):=TL (len x0) fun y0 => cnd (beq y0 true) (some []) (cnd (ile (len x0) 68719476736) (some x0) none)
noncomputable def zI:Cx:={ P:=PG,ety:=ety,fn:=look [],inl:=eU [],lp:=aY [] }
theorem GV (x0:(List ax)):bP zI 53 [.ro .file] [.buf .file] x0=aK x0:=by kernel_rfl
def bI:aV:=mkSpec [.ro .file] [.buf .file] false (fun x=>aK x)
theorem jg:dJ PG 53 bI:=
 have K:CxR zI:=aX.cx (fun _=>rfl) (l:=[]) trivial
 aJ K (aI (l:=[]) rfl trivial) (by kernel_rfl) (fun x y h=>(GV x).trans h) rfl rfl
def dm (x0:(List ax)) (x1:Int) (x2:Int):Option ((List ax)):=cnd (band (band (band (ile 0 x1) (ile x1 x2)) (ile x2 (len x0))) (band (ile x2 (len x0)) (ile (len x0) (len x0)))) (cnd (ieq x1 x2) (some x0) (cnd (band (ile 0 x1) (ile x1 (len x0))) (cnd (band (ile 0 x2) (ile x2 (len x0))) (cnd (ile (ak (nti (itn x1)) (len (aB (aH x0 (itn x2)) (itn (aF (len x0) x2))))) (len x0)) (cnd (band (band (ile 0 (nti (nad (itn x1) (itn (len (aB (aH x0 (itn x2)) (itn (aF (len x0) x2)))))))) (ile (nti (nad (itn x1) (itn (len (aB (aH x0 (itn x2)) (itn (aF (len x0) x2))))))) (len x0))) (ile (len x0) (aF (len (dY x0 (itn x1) (aB (aH x0 (itn x2)) (itn (aF (len x0) x2))))) 0))) (some (aB (aH (dY (dY x0 (itn x1) (aB (aH x0 (itn x2)) (itn (aF (len x0) x2)))) (nad 0 (itn (nti (nad (itn x1) (itn (len (aB (aH x0 (itn x2)) (itn (aF (len x0) x2))))))))) (ja ax (itn (aF (len x0) (nti (nad (itn x1) (itn (len (aB (aH x0 (itn x2)) (itn (aF (len x0) x2))))))))))) 0) (nad (itn x1) (itn (len (aB (aH x0 (itn x2)) (itn (aF (len x0) x2)))))))) none) none) none) none)) none
noncomputable def yC:Cx:={ P:=PG,ety:=ety,fn:=look [],inl:=eU [],lp:=aY [] }
theorem ER (x0:(List ax)) (x1:Int) (x2:Int):bP yC 82 [.buf .file,.int .i64,.int .i64] [.ro .file] (x0,x1,x2)=dm x0 x1 x2:=by kernel_rfl
def o9:aV:=mkSpec [.buf .file,.int .i64,.int .i64] [.ro .file] false (fun x=>dm x.1 x.2.1 x.2.2)
theorem Ht:dJ PG 82 o9:=
 have K:CxR yC:=aX.cx (fun _=>rfl) (l:=[]) trivial
 aJ K (aI (l:=[]) rfl trivial) (by kernel_rfl) (fun x y h=>(ER x.1 x.2.1 x.2.2).trans h) rfl rfl
def pI (x0:ai) (x1:(List UInt8)):Option (ai×Int):=af (iK x0 [x1]) fun y0 => cnd (aC (ieq y0 0)) (cnd (aC (ieq y0 0)) (some (x0,y0)) (cnd (ieq x0.fuse 0) (some (ai.mk x0.files x0.room x0.fuse true,9)) (cnd (ieq x0.fuse (-1)) (af (aK x0.files) fun y1 => af (dm y1 0 1) fun y2 => some (ai.mk y2 x0.room x0.fuse x0.down,0)) (af (aK x0.files) fun y3 => af (dm y3 0 1) fun y4 => some (ai.mk y4 x0.room (wr .i64 (aF x0.fuse 1)) x0.down,0))))) (af (dB x0 x1) fun y5 => cnd (aC y5.snd) (some (x0,7)) (cnd (ieq x0.fuse 0) (some (ai.mk x0.files x0.room x0.fuse true,9)) (cnd (ieq x0.fuse (-1)) (af (aK x0.files) fun y6 => af (dm y6 y5.fst (wr .i64 (ak y5.fst 1))) fun y7 => some (ai.mk y7 x0.room x0.fuse x0.down,0)) (af (aK x0.files) fun y8 => af (dm y8 y5.fst (wr .i64 (ak y5.fst 1))) fun y9 => some (ai.mk y9 x0.room (wr .i64 (aF x0.fuse 1)) x0.down,0)))))
noncomputable def P8:Cx:={ P:=PG,ety:=ety,fn:=look [(76,gZ),(77,iM),(53,bI),(82,o9)],inl:=eU [55,81],lp:=aY [] }
theorem Uy (x0:ai) (x1:(List UInt8)):bP P8 75 [.val .disk,.str] [.val .disk,.int .i64] (x0,x1)=pI x0 x1:=by kernel_rfl
def Ci:aV:=mkSpec [.val .disk,.str] [.val .disk,.int .i64] false (fun x=>pI x.1 x.2)
theorem Zr:dJ PG 75 Ci:=
 have K:CxR P8:=aX.cx (fun _=>rfl) (l:=[(76,gZ),(77,iM),(53,bI),(82,o9)]) ⟨vz,xG,jg,Ht,trivial⟩
 aJ K (aI (l:=[]) rfl trivial) (by kernel_rfl) (fun x y h=>(Uy x.1 x.2).trans h) rfl rfl
def N8:LSh:=⟨72,[(8,.int .i64),(7,.ro .file)],[],[],[(9,.int .i64),(3,.int .i64)],[],[]⟩
@[reducible] def Ox:List iQ:=[⟨.exit 0,[(3,.int .i64)],[],[]⟩]
def rW (p0:Int) (p1:(List ax)) (v0:Int) (v1:Int):Option ((Int×Int) ⊕ ((Int))):=cnd (ilt v0 p0) (cnd (band (ile 0 v0) (ilt v0 (len p1))) (some (Sum.inl (wr .i64 (ak v0 1),wr .i64 (ak v1 (len (ah p1 (itn v0)).data))))) none) (some (Sum.inr v1))
def LZ:iF:=N8.spec Ox [10,11,12,5,13,14,15,16,17,3,18,9] (fun p v=>rW p.1 p.2 v.1 v.2)
def Aj (x0:ai):Option (Int):=af (bF (fun v => rW (len x0.files) x0.files v.fst v.snd) LF (0,0)) fun y0 => some y0
noncomputable def Nk:Cx:={ P:=PG,ety:=ety,fn:=look [],inl:=eU [],lp:=aY [(78,58,LZ)] }
theorem SK (p0:Int) (p1:(List ax)) (v0:Int) (v1:Int):jW Nk 900 78 58 (gJ PG 78 58) N8 Ox (p0,p1) (v0,v1)=rW p0 p1 v0 v1:=by kernel_rfl
theorem Yq (x0:ai):bP Nk 78 [.val .disk] [.int .i64] x0=Aj x0:=by kernel_rfl
def Gz:aV:=mkSpec [.val .disk] [.int .i64] true (fun x=>Aj x)
theorem abE:dJ PG 78 Gz:=
 have K:CxR Nk:=aX.cx (fun _=>rfl) (l:=[]) trivial
 aJ K (aI (l:=[(78,58,LZ)]) rfl ⟨dN (n:=900) (f:=78) K (by kernel_rfl) (by kernel_rfl) (by kernel_rfl) (by kernel_rfl) (by kernel_rfl) (fun p v r h=>(SK p.1 p.2 v.1 v.2).trans h),trivial⟩) (by kernel_rfl) (fun x y h=>(Yq x).trans h) rfl rfl
def aZ (x0:(List ax)) (x1:Int) (x2:(List ax)):Option ((List ax)):=match x2 with | [n]=>cnd (band (ile 0 x1) (band (ile x1 (len x0)) (ile (ak (len x0) 1) 68719476736))) (some (jQ (aB x0 (itn x1)) (n::aH x0 (itn x1)))) none | _=>none
noncomputable def I5:Cx:={ P:=PG,ety:=ety,fn:=look [],inl:=eU [],lp:=aY [] }
def jm:aV:=KH .file (fun x=>aZ x.1 x.2.1 x.2.2)
theorem xO:dJ PG 79 jm:=
 have K:CxR I5:=aX.cx (fun _=>rfl) (l:=[]) trivial
 aiK K 79 (amL PG 79) (amL PG ((Ec (amL PG 79)).f 29)) (by kernel_rfl) (by kernel_rfl) (by kernel_rfl) (by kernel_rfl) (by kernel_rfl) (e:= .file) (by kernel_rfl) (by kernel_rfl) (by kernel_rfl) (by kernel_rfl) (by kernel_rfl) (by kernel_rfl) rfl (fun x y h=>by obtain⟨l,k,xs⟩:=x;match xs,h with | [],h=>exact h | [_],h=>exact h | _::_::_,h=>exact h)
def zM:LSh:=⟨70,[(10,.int .i64),(9,.ro .bts)],[],[],[(11,.int .i64),(3,.int .i64)],[],[]⟩
@[reducible] def zY:List iQ:=[⟨.exit 0,[(3,.int .i64)],[],[]⟩]
def jy (p0:Int) (p1:(List J9)) (v0:Int) (v1:Int):Option ((Int×Int) ⊕ ((Int))):=cnd (ilt v0 p0) (cnd (band (ile 0 v0) (ilt v0 (len p1))) (cnd (ilt (wr .i64 (ak v1 (len (ah p1 (itn v0)).all))) 0) none (some (Sum.inl (wr .i64 (ak v0 1),wr .i64 (ak v1 (len (ah p1 (itn v0)).all)))))) none) (some (Sum.inr v1))
def yU:iF:=zM.spec zY [12,13,14,5,15,16,17,18,3,19,20,21,22,11] (fun p v=>jy p.1 p.2 v.1 v.2)
def yL:LSh:=⟨169,[(26,.int .i64),(25,.ro .bts)],[],[],[(27,.int .i64),(6,.buf .u8)],[],[]⟩
@[reducible] def yK:List iQ:=[⟨.exit 2,[(6,.buf .u8)],[],[]⟩]
def iy (p0:Int) (p1:(List J9)) (v0:Int) (v1:(List Int)):Option ((Int×(List Int)) ⊕ (((List Int)))):=cnd (ilt v0 p0) (cnd (band (ile 0 v0) (ilt v0 (len p1))) (cnd (ile (len (jQ v1 (ah p1 (itn v0)).all)) 68719476736) (some (Sum.inl (wr .i64 (ak v0 1),jQ v1 (ah p1 (itn v0)).all))) none) none) (some (Sum.inr v1))
def xR:iF:=yL.spec yK [28,29,30,8,31,32,33,6,34,27] (fun p v=>iy p.1 p.2 v.1 v.2)
def iV (x0:(List J9)):Option ((List Int)):=af (bF (fun v => jy (len x0) x0 v.fst v.snd) LF (0,0)) fun y0 => cnd (ilt y0 0) none (cnd (ilt 0 (wr .i64 (aF y0 0))) (cnd (band (ilt 0 (wr .i64 (aF y0 0))) (ile (wr .i64 (aF y0 0)) 68719476736)) (cnd (ile 0 (len (ja Int (itn (wr .i64 (aF y0 0)))))) (af (bF (fun v => iy (len x0) x0 v.fst v.snd) LF (0,aB (ja Int (itn (wr .i64 (aF y0 0)))) 0)) fun y1 => some y1) none) none) (af (bF (fun v => iy (len x0) x0 v.fst v.snd) LF (0,[])) fun y2 => some y2))
noncomputable def qQ:Cx:={ P:=PG,ety:=ety,fn:=look [],inl:=eU [155],lp:=aY [(80,58,yU),(80,250,xR)] }
theorem Gx (p0:Int) (p1:(List J9)) (v0:Int) (v1:Int):jW qQ 900 80 58 (gJ PG 80 58) zM zY (p0,p1) (v0,v1)=jy p0 p1 v0 v1:=by kernel_rfl
theorem Fa (p0:Int) (p1:(List J9)) (v0:Int) (v1:(List Int)):jW qQ 900 80 250 (gJ PG 80 250) yL yK (p0,p1) (v0,v1)=iy p0 p1 v0 v1:=by kernel_rfl
theorem JZ (x0:(List J9)):bP qQ 80 [.ro .bts] [.buf .u8] x0=iV x0:=by kernel_rfl
def rV:aV:=mkSpec [.ro .bts] [.buf .u8] true (fun x=>iV x)
theorem MK:dJ PG 80 rV:=
 have K:CxR qQ:=aX.cx (fun _=>rfl) (l:=[]) trivial
 aJ K (aI (l:=[(80,58,yU),(80,250,xR)]) rfl ⟨dN (n:=900) (f:=80) K (by kernel_rfl) (by kernel_rfl) (by kernel_rfl) (by kernel_rfl) (by kernel_rfl) (fun p v r h=>(Gx p.1 p.2 v.1 v.2).trans h),
  dN (n:=900) (f:=80) K (by kernel_rfl) (by kernel_rfl) (by kernel_rfl) (by kernel_rfl) (by kernel_rfl) (fun p v r h=>(Fa p.1 p.2 v.1 v.2).trans h),trivial⟩) (by kernel_rfl) (fun x y h=>(JZ x).trans h) rfl rfl
def iD (x0:ai) (x1:(List UInt8)) (x2:(List Int)):Option (ai×Int):=af (iK x0 [x1]) fun y0 => cnd (aC (ieq y0 0)) (some (x0,y0)) (af (dB x0 x1) fun y1 => af (Aj x0) fun y2 => cnd (bor (ilt (wr .i64 (aF x0.room y2)) (len x2)) (band (aC y1.snd) (ieq (len x0.files) 64))) (some (x0,6)) (af (aK x0.files) fun y3 => cnd (aC y1.snd) (af (aZ y3 y1.fst [ax.mk x1 [] 0]) fun y4 => cnd (band (ile 0 y1.fst) (ilt y1.fst (len y4))) (af (iV [J9.mk (ah y4 (itn y1.fst)).data,J9.mk x2]) fun y5 => cnd (band (ile 0 y1.fst) (ilt y1.fst (len y4))) (cnd (ieq x0.fuse 0) (some (ai.mk (bf y4 (itn y1.fst) (ax.mk (ah y4 (itn y1.fst)).name y5 (ah y4 (itn y1.fst)).sure)) x0.room x0.fuse true,9)) (cnd (ieq x0.fuse (-1)) (some (ai.mk (bf y4 (itn y1.fst) (ax.mk (ah y4 (itn y1.fst)).name y5 (ah y4 (itn y1.fst)).sure)) x0.room x0.fuse x0.down,0)) (some (ai.mk (bf y4 (itn y1.fst) (ax.mk (ah y4 (itn y1.fst)).name y5 (ah y4 (itn y1.fst)).sure)) x0.room (wr .i64 (aF x0.fuse 1)) x0.down,0)))) none) none) (cnd (band (ile 0 y1.fst) (ilt y1.fst (len y3))) (af (iV [J9.mk (ah y3 (itn y1.fst)).data,J9.mk x2]) fun y6 => cnd (band (ile 0 y1.fst) (ilt y1.fst (len y3))) (cnd (ieq x0.fuse 0) (some (ai.mk (bf y3 (itn y1.fst) (ax.mk (ah y3 (itn y1.fst)).name y6 (ah y3 (itn y1.fst)).sure)) x0.room x0.fuse true,9)) (cnd (ieq x0.fuse (-1)) (some (ai.mk (bf y3 (itn y1.fst) (ax.mk (ah y3 (itn y1.fst)).name y6 (ah y3 (itn y1.fst)).sure)) x0.room x0.fuse x0.down,0)) (some (ai.mk (bf y3 (itn y1.fst) (ax.mk (ah y3 (itn y1.fst)).name y6 (ah y3 (itn y1.fst)).sure)) x0.room (wr .i64 (aF x0.fuse 1)) x0.down,0)))) none) none)))
noncomputable def Qm:Cx:={ P:=PG,ety:=ety,fn:=look [(76,gZ),(77,iM),(78,Gz),(53,bI),(79,jm),(80,rV)],inl:=eU [81],lp:=aY [] }
theorem Vh (x0:ai) (x1:(List UInt8)) (x2:(List Int)):bP Qm 29 [.val .disk,.str,.ro .u8] [.val .disk,.int .i64] (x0,x1,x2)=iD x0 x1 x2:=by kernel_rfl
def su:aV:=mkSpec [.val .disk,.str,.ro .u8] [.val .disk,.int .i64] false (fun x=>iD x.1 x.2.1 x.2.2)
theorem Oq:dJ PG 29 su:=
 have K:CxR Qm:=aX.cx (fun _=>rfl) (l:=[(76,gZ),(77,iM),(78,Gz),(53,bI),(79,jm),(80,rV)]) ⟨vz,xG,abE,jg,xO,MK,trivial⟩
 aJ K (aI (l:=[]) rfl trivial) (by kernel_rfl) (fun x y h=>(Vh x.1 x.2.1 x.2.2).trans h) rfl rfl
def ji (x0:ai) (x1:(List UInt8)):Option (ai×Int):=af (iK x0 [x1]) fun y0 => cnd (aC (ieq y0 0)) (cnd (aC (ieq y0 0)) (some (x0,y0)) (cnd (ieq x0.fuse 0) (some (ai.mk x0.files x0.room x0.fuse true,9)) (cnd (ieq x0.fuse (-1)) (af (aK x0.files) fun y1 => cnd (ilt 0 (len y1)) (cnd (ilt 0 (len y1)) (some (ai.mk (bf y1 0 (ax.mk (ah y1 0).name (ah y1 0).data (len (ah y1 0).data))) x0.room x0.fuse x0.down,0)) none) none) (af (aK x0.files) fun y2 => cnd (ilt 0 (len y2)) (cnd (ilt 0 (len y2)) (some (ai.mk (bf y2 0 (ax.mk (ah y2 0).name (ah y2 0).data (len (ah y2 0).data))) x0.room (wr .i64 (aF x0.fuse 1)) x0.down,0)) none) none)))) (af (dB x0 x1) fun y3 => cnd (aC y3.snd) (some (x0,7)) (cnd (ieq x0.fuse 0) (some (ai.mk x0.files x0.room x0.fuse true,9)) (cnd (ieq x0.fuse (-1)) (af (aK x0.files) fun y4 => cnd (band (ile 0 y3.fst) (ilt y3.fst (len y4))) (cnd (band (ile 0 y3.fst) (ilt y3.fst (len y4))) (some (ai.mk (bf y4 (itn y3.fst) (ax.mk (ah y4 (itn y3.fst)).name (ah y4 (itn y3.fst)).data (len (ah y4 (itn y3.fst)).data))) x0.room x0.fuse x0.down,0)) none) none) (af (aK x0.files) fun y5 => cnd (band (ile 0 y3.fst) (ilt y3.fst (len y5))) (cnd (band (ile 0 y3.fst) (ilt y3.fst (len y5))) (some (ai.mk (bf y5 (itn y3.fst) (ax.mk (ah y5 (itn y3.fst)).name (ah y5 (itn y3.fst)).data (len (ah y5 (itn y3.fst)).data))) x0.room (wr .i64 (aF x0.fuse 1)) x0.down,0)) none) none))))
noncomputable def VX:Cx:={ P:=PG,ety:=ety,fn:=look [(76,gZ),(77,iM),(53,bI)],inl:=eU [55,81],lp:=aY [] }
theorem YT (x0:ai) (x1:(List UInt8)):bP VX 31 [.val .disk,.str] [.val .disk,.int .i64] (x0,x1)=ji x0 x1:=by kernel_rfl
def wS:aV:=mkSpec [.val .disk,.str] [.val .disk,.int .i64] false (fun x=>ji x.1 x.2)
theorem RX:dJ PG 31 wS:=
 have K:CxR VX:=aX.cx (fun _=>rfl) (l:=[(76,gZ),(77,iM),(53,bI)]) ⟨vz,xG,jg,trivial⟩
 aJ K (aI (l:=[]) rfl trivial) (by kernel_rfl) (fun x y h=>(YT x.1 x.2).trans h) rfl rfl
def jJ (x0:ai) (x1:(List UInt8)) (x2:(List UInt8)):Option (ai×Int):=cnd (ile (len (jQ [x2] [x1])) 68719476736) (af (iK x0 (jQ [x2] [x1])) fun y0 => cnd (aC (ieq y0 0)) (cnd (aC (ieq y0 0)) (some (x0,y0)) (cnd (ieq x0.fuse 0) (some (ai.mk x0.files x0.room x0.fuse true,9)) (cnd (ieq x0.fuse (-1)) (cnd (ilt 0 (len x0.files)) (af (aK x0.files) fun y1 => cnd (band (ile 1 (len y1)) (band (ile 1 (len y1)) (ile (len y1) (len y1)))) (cnd (ile 0 (len y1)) (cnd (ile 1 (len y1)) (cnd (ile (ak 0 (len (aB (aH y1 1) (itn (aF (len y1) 1))))) (len y1)) (cnd (band (band (ile 0 (nti (nad 0 (itn (len (aB (aH y1 1) (itn (aF (len y1) 1)))))))) (ile (nti (nad 0 (itn (len (aB (aH y1 1) (itn (aF (len y1) 1))))))) (len y1))) (ile (len y1) (aF (len (dY y1 0 (aB (aH y1 1) (itn (aF (len y1) 1))))) 0))) (af (dB (ai.mk (aB (dY (dY y1 0 (aB (aH y1 1) (itn (aF (len y1) 1)))) (nad 0 (itn (nti (nad 0 (itn (len (aB (aH y1 1) (itn (aF (len y1) 1))))))))) (ja ax (itn (aF (len y1) (nti (nad 0 (itn (len (aB (aH y1 1) (itn (aF (len y1) 1))))))))))) (nad 0 (itn (len (aB (aH y1 1) (itn (aF (len y1) 1))))))) x0.room x0.fuse x0.down) x2) fun y2 => cnd y2.snd (cnd (band (ile 0 y2.fst) (ilt y2.fst (len (aB (dY (dY y1 0 (aB (aH y1 1) (itn (aF (len y1) 1)))) (nad 0 (itn (nti (nad 0 (itn (len (aB (aH y1 1) (itn (aF (len y1) 1))))))))) (ja ax (itn (aF (len y1) (nti (nad 0 (itn (len (aB (aH y1 1) (itn (aF (len y1) 1))))))))))) (nad 0 (itn (len (aB (aH y1 1) (itn (aF (len y1) 1)))))))))) (some (ai.mk (bf (aB (dY (dY y1 0 (aB (aH y1 1) (itn (aF (len y1) 1)))) (nad 0 (itn (nti (nad 0 (itn (len (aB (aH y1 1) (itn (aF (len y1) 1))))))))) (ja ax (itn (aF (len y1) (nti (nad 0 (itn (len (aB (aH y1 1) (itn (aF (len y1) 1))))))))))) (nad 0 (itn (len (aB (aH y1 1) (itn (aF (len y1) 1))))))) (itn y2.fst) (ax.mk x2 (ah x0.files 0).data (ah x0.files 0).sure)) x0.room x0.fuse x0.down,0)) none) (af (aZ (aB (dY (dY y1 0 (aB (aH y1 1) (itn (aF (len y1) 1)))) (nad 0 (itn (nti (nad 0 (itn (len (aB (aH y1 1) (itn (aF (len y1) 1))))))))) (ja ax (itn (aF (len y1) (nti (nad 0 (itn (len (aB (aH y1 1) (itn (aF (len y1) 1))))))))))) (nad 0 (itn (len (aB (aH y1 1) (itn (aF (len y1) 1))))))) y2.fst [ax.mk x2 (ah x0.files 0).data (ah x0.files 0).sure]) fun y3 => some (ai.mk y3 x0.room x0.fuse x0.down,0))) none) none) none) none) none) none) (cnd (ilt 0 (len x0.files)) (af (aK x0.files) fun y4 => cnd (band (ile 1 (len y4)) (band (ile 1 (len y4)) (ile (len y4) (len y4)))) (cnd (ile 0 (len y4)) (cnd (ile 1 (len y4)) (cnd (ile (ak 0 (len (aB (aH y4 1) (itn (aF (len y4) 1))))) (len y4)) (cnd (band (band (ile 0 (nti (nad 0 (itn (len (aB (aH y4 1) (itn (aF (len y4) 1)))))))) (ile (nti (nad 0 (itn (len (aB (aH y4 1) (itn (aF (len y4) 1))))))) (len y4))) (ile (len y4) (aF (len (dY y4 0 (aB (aH y4 1) (itn (aF (len y4) 1))))) 0))) (af (dB (ai.mk (aB (dY (dY y4 0 (aB (aH y4 1) (itn (aF (len y4) 1)))) (nad 0 (itn (nti (nad 0 (itn (len (aB (aH y4 1) (itn (aF (len y4) 1))))))))) (ja ax (itn (aF (len y4) (nti (nad 0 (itn (len (aB (aH y4 1) (itn (aF (len y4) 1))))))))))) (nad 0 (itn (len (aB (aH y4 1) (itn (aF (len y4) 1))))))) x0.room (wr .i64 (aF x0.fuse 1)) x0.down) x2) fun y5 => cnd y5.snd (cnd (band (ile 0 y5.fst) (ilt y5.fst (len (aB (dY (dY y4 0 (aB (aH y4 1) (itn (aF (len y4) 1)))) (nad 0 (itn (nti (nad 0 (itn (len (aB (aH y4 1) (itn (aF (len y4) 1))))))))) (ja ax (itn (aF (len y4) (nti (nad 0 (itn (len (aB (aH y4 1) (itn (aF (len y4) 1))))))))))) (nad 0 (itn (len (aB (aH y4 1) (itn (aF (len y4) 1)))))))))) (some (ai.mk (bf (aB (dY (dY y4 0 (aB (aH y4 1) (itn (aF (len y4) 1)))) (nad 0 (itn (nti (nad 0 (itn (len (aB (aH y4 1) (itn (aF (len y4) 1))))))))) (ja ax (itn (aF (len y4) (nti (nad 0 (itn (len (aB (aH y4 1) (itn (aF (len y4) 1))))))))))) (nad 0 (itn (len (aB (aH y4 1) (itn (aF (len y4) 1))))))) (itn y5.fst) (ax.mk x2 (ah x0.files 0).data (ah x0.files 0).sure)) x0.room (wr .i64 (aF x0.fuse 1)) x0.down,0)) none) (af (aZ (aB (dY (dY y4 0 (aB (aH y4 1) (itn (aF (len y4) 1)))) (nad 0 (itn (nti (nad 0 (itn (len (aB (aH y4 1) (itn (aF (len y4) 1))))))))) (ja ax (itn (aF (len y4) (nti (nad 0 (itn (len (aB (aH y4 1) (itn (aF (len y4) 1))))))))))) (nad 0 (itn (len (aB (aH y4 1) (itn (aF (len y4) 1))))))) y5.fst [ax.mk x2 (ah x0.files 0).data (ah x0.files 0).sure]) fun y6 => some (ai.mk y6 x0.room (wr .i64 (aF x0.fuse 1)) x0.down,0))) none) none) none) none) none) none)))) (af (dB x0 x1) fun y7 => cnd (aC y7.snd) (some (x0,7)) (cnd (ieq x0.fuse 0) (some (ai.mk x0.files x0.room x0.fuse true,9)) (cnd (ieq x0.fuse (-1)) (cnd (band (ile 0 y7.fst) (ilt y7.fst (len x0.files))) (af (aK x0.files) fun y8 => cnd (band (band (band (ile 0 y7.fst) (ile y7.fst (wr .i64 (ak y7.fst 1)))) (ile (wr .i64 (ak y7.fst 1)) (len y8))) (band (ile (wr .i64 (ak y7.fst 1)) (len y8)) (ile (len y8) (len y8)))) (cnd (ieq y7.fst (wr .i64 (ak y7.fst 1))) (af (dB (ai.mk y8 x0.room x0.fuse x0.down) x2) fun y9 => cnd y9.snd (cnd (band (ile 0 y9.fst) (ilt y9.fst (len y8))) (some (ai.mk (bf y8 (itn y9.fst) (ax.mk x2 (ah x0.files (itn y7.fst)).data (ah x0.files (itn y7.fst)).sure)) x0.room x0.fuse x0.down,0)) none) (af (aZ y8 y9.fst [ax.mk x2 (ah x0.files (itn y7.fst)).data (ah x0.files (itn y7.fst)).sure]) fun y10 => some (ai.mk y10 x0.room x0.fuse x0.down,0))) (cnd (band (ile 0 y7.fst) (ile y7.fst (len y8))) (cnd (band (ile 0 (wr .i64 (ak y7.fst 1))) (ile (wr .i64 (ak y7.fst 1)) (len y8))) (cnd (ile (ak (nti (itn y7.fst)) (len (aB (aH y8 (itn (wr .i64 (ak y7.fst 1)))) (itn (aF (len y8) (wr .i64 (ak y7.fst 1))))))) (len y8)) (cnd (band (band (ile 0 (nti (nad (itn y7.fst) (itn (len (aB (aH y8 (itn (wr .i64 (ak y7.fst 1)))) (itn (aF (len y8) (wr .i64 (ak y7.fst 1)))))))))) (ile (nti (nad (itn y7.fst) (itn (len (aB (aH y8 (itn (wr .i64 (ak y7.fst 1)))) (itn (aF (len y8) (wr .i64 (ak y7.fst 1))))))))) (len y8))) (ile (len y8) (aF (len (dY y8 (itn y7.fst) (aB (aH y8 (itn (wr .i64 (ak y7.fst 1)))) (itn (aF (len y8) (wr .i64 (ak y7.fst 1))))))) 0))) (af (dB (ai.mk (aB (dY (dY y8 (itn y7.fst) (aB (aH y8 (itn (wr .i64 (ak y7.fst 1)))) (itn (aF (len y8) (wr .i64 (ak y7.fst 1)))))) (nad 0 (itn (nti (nad (itn y7.fst) (itn (len (aB (aH y8 (itn (wr .i64 (ak y7.fst 1)))) (itn (aF (len y8) (wr .i64 (ak y7.fst 1))))))))))) (ja ax (itn (aF (len y8) (nti (nad (itn y7.fst) (itn (len (aB (aH y8 (itn (wr .i64 (ak y7.fst 1)))) (itn (aF (len y8) (wr .i64 (ak y7.fst 1))))))))))))) (nad (itn y7.fst) (itn (len (aB (aH y8 (itn (wr .i64 (ak y7.fst 1)))) (itn (aF (len y8) (wr .i64 (ak y7.fst 1))))))))) x0.room x0.fuse x0.down) x2) fun y11 => cnd y11.snd (cnd (band (ile 0 y11.fst) (ilt y11.fst (len (aB (dY (dY y8 (itn y7.fst) (aB (aH y8 (itn (wr .i64 (ak y7.fst 1)))) (itn (aF (len y8) (wr .i64 (ak y7.fst 1)))))) (nad 0 (itn (nti (nad (itn y7.fst) (itn (len (aB (aH y8 (itn (wr .i64 (ak y7.fst 1)))) (itn (aF (len y8) (wr .i64 (ak y7.fst 1))))))))))) (ja ax (itn (aF (len y8) (nti (nad (itn y7.fst) (itn (len (aB (aH y8 (itn (wr .i64 (ak y7.fst 1)))) (itn (aF (len y8) (wr .i64 (ak y7.fst 1))))))))))))) (nad (itn y7.fst) (itn (len (aB (aH y8 (itn (wr .i64 (ak y7.fst 1)))) (itn (aF (len y8) (wr .i64 (ak y7.fst 1)))))))))))) (some (ai.mk (bf (aB (dY (dY y8 (itn y7.fst) (aB (aH y8 (itn (wr .i64 (ak y7.fst 1)))) (itn (aF (len y8) (wr .i64 (ak y7.fst 1)))))) (nad 0 (itn (nti (nad (itn y7.fst) (itn (len (aB (aH y8 (itn (wr .i64 (ak y7.fst 1)))) (itn (aF (len y8) (wr .i64 (ak y7.fst 1))))))))))) (ja ax (itn (aF (len y8) (nti (nad (itn y7.fst) (itn (len (aB (aH y8 (itn (wr .i64 (ak y7.fst 1)))) (itn (aF (len y8) (wr .i64 (ak y7.fst 1))))))))))))) (nad (itn y7.fst) (itn (len (aB (aH y8 (itn (wr .i64 (ak y7.fst 1)))) (itn (aF (len y8) (wr .i64 (ak y7.fst 1))))))))) (itn y11.fst) (ax.mk x2 (ah x0.files (itn y7.fst)).data (ah x0.files (itn y7.fst)).sure)) x0.room x0.fuse x0.down,0)) none) (af (aZ (aB (dY (dY y8 (itn y7.fst) (aB (aH y8 (itn (wr .i64 (ak y7.fst 1)))) (itn (aF (len y8) (wr .i64 (ak y7.fst 1)))))) (nad 0 (itn (nti (nad (itn y7.fst) (itn (len (aB (aH y8 (itn (wr .i64 (ak y7.fst 1)))) (itn (aF (len y8) (wr .i64 (ak y7.fst 1))))))))))) (ja ax (itn (aF (len y8) (nti (nad (itn y7.fst) (itn (len (aB (aH y8 (itn (wr .i64 (ak y7.fst 1)))) (itn (aF (len y8) (wr .i64 (ak y7.fst 1))))))))))))) (nad (itn y7.fst) (itn (len (aB (aH y8 (itn (wr .i64 (ak y7.fst 1)))) (itn (aF (len y8) (wr .i64 (ak y7.fst 1))))))))) y11.fst [ax.mk x2 (ah x0.files (itn y7.fst)).data (ah x0.files (itn y7.fst)).sure]) fun y12 => some (ai.mk y12 x0.room x0.fuse x0.down,0))) none) none) none) none)) none) none) (cnd (band (ile 0 y7.fst) (ilt y7.fst (len x0.files))) (af (aK x0.files) fun y13 => cnd (band (band (band (ile 0 y7.fst) (ile y7.fst (wr .i64 (ak y7.fst 1)))) (ile (wr .i64 (ak y7.fst 1)) (len y13))) (band (ile (wr .i64 (ak y7.fst 1)) (len y13)) (ile (len y13) (len y13)))) (cnd (ieq y7.fst (wr .i64 (ak y7.fst 1))) (af (dB (ai.mk y13 x0.room (wr .i64 (aF x0.fuse 1)) x0.down) x2) fun y14 => cnd y14.snd (cnd (band (ile 0 y14.fst) (ilt y14.fst (len y13))) (some (ai.mk (bf y13 (itn y14.fst) (ax.mk x2 (ah x0.files (itn y7.fst)).data (ah x0.files (itn y7.fst)).sure)) x0.room (wr .i64 (aF x0.fuse 1)) x0.down,0)) none) (af (aZ y13 y14.fst [ax.mk x2 (ah x0.files (itn y7.fst)).data (ah x0.files (itn y7.fst)).sure]) fun y15 => some (ai.mk y15 x0.room (wr .i64 (aF x0.fuse 1)) x0.down,0))) (cnd (band (ile 0 y7.fst) (ile y7.fst (len y13))) (cnd (band (ile 0 (wr .i64 (ak y7.fst 1))) (ile (wr .i64 (ak y7.fst 1)) (len y13))) (cnd (ile (ak (nti (itn y7.fst)) (len (aB (aH y13 (itn (wr .i64 (ak y7.fst 1)))) (itn (aF (len y13) (wr .i64 (ak y7.fst 1))))))) (len y13)) (cnd (band (band (ile 0 (nti (nad (itn y7.fst) (itn (len (aB (aH y13 (itn (wr .i64 (ak y7.fst 1)))) (itn (aF (len y13) (wr .i64 (ak y7.fst 1)))))))))) (ile (nti (nad (itn y7.fst) (itn (len (aB (aH y13 (itn (wr .i64 (ak y7.fst 1)))) (itn (aF (len y13) (wr .i64 (ak y7.fst 1))))))))) (len y13))) (ile (len y13) (aF (len (dY y13 (itn y7.fst) (aB (aH y13 (itn (wr .i64 (ak y7.fst 1)))) (itn (aF (len y13) (wr .i64 (ak y7.fst 1))))))) 0))) (af (dB (ai.mk (aB (dY (dY y13 (itn y7.fst) (aB (aH y13 (itn (wr .i64 (ak y7.fst 1)))) (itn (aF (len y13) (wr .i64 (ak y7.fst 1)))))) (nad 0 (itn (nti (nad (itn y7.fst) (itn (len (aB (aH y13 (itn (wr .i64 (ak y7.fst 1)))) (itn (aF (len y13) (wr .i64 (ak y7.fst 1))))))))))) (ja ax (itn (aF (len y13) (nti (nad (itn y7.fst) (itn (len (aB (aH y13 (itn (wr .i64 (ak y7.fst 1)))) (itn (aF (len y13) (wr .i64 (ak y7.fst 1))))))))))))) (nad (itn y7.fst) (itn (len (aB (aH y13 (itn (wr .i64 (ak y7.fst 1)))) (itn (aF (len y13) (wr .i64 (ak y7.fst 1))))))))) x0.room (wr .i64 (aF x0.fuse 1)) x0.down) x2) fun y16 => cnd y16.snd (cnd (band (ile 0 y16.fst) (ilt y16.fst (len (aB (dY (dY y13 (itn y7.fst) (aB (aH y13 (itn (wr .i64 (ak y7.fst 1)))) (itn (aF (len y13) (wr .i64 (ak y7.fst 1)))))) (nad 0 (itn (nti (nad (itn y7.fst) (itn (len (aB (aH y13 (itn (wr .i64 (ak y7.fst 1)))) (itn (aF (len y13) (wr .i64 (ak y7.fst 1))))))))))) (ja ax (itn (aF (len y13) (nti (nad (itn y7.fst) (itn (len (aB (aH y13 (itn (wr .i64 (ak y7.fst 1)))) (itn (aF (len y13) (wr .i64 (ak y7.fst 1))))))))))))) (nad (itn y7.fst) (itn (len (aB (aH y13 (itn (wr .i64 (ak y7.fst 1)))) (itn (aF (len y13) (wr .i64 (ak y7.fst 1)))))))))))) (some (ai.mk (bf (aB (dY (dY y13 (itn y7.fst) (aB (aH y13 (itn (wr .i64 (ak y7.fst 1)))) (itn (aF (len y13) (wr .i64 (ak y7.fst 1)))))) (nad 0 (itn (nti (nad (itn y7.fst) (itn (len (aB (aH y13 (itn (wr .i64 (ak y7.fst 1)))) (itn (aF (len y13) (wr .i64 (ak y7.fst 1))))))))))) (ja ax (itn (aF (len y13) (nti (nad (itn y7.fst) (itn (len (aB (aH y13 (itn (wr .i64 (ak y7.fst 1)))) (itn (aF (len y13) (wr .i64 (ak y7.fst 1))))))))))))) (nad (itn y7.fst) (itn (len (aB (aH y13 (itn (wr .i64 (ak y7.fst 1)))) (itn (aF (len y13) (wr .i64 (ak y7.fst 1))))))))) (itn y16.fst) (ax.mk x2 (ah x0.files (itn y7.fst)).data (ah x0.files (itn y7.fst)).sure)) x0.room (wr .i64 (aF x0.fuse 1)) x0.down,0)) none) (af (aZ (aB (dY (dY y13 (itn y7.fst) (aB (aH y13 (itn (wr .i64 (ak y7.fst 1)))) (itn (aF (len y13) (wr .i64 (ak y7.fst 1)))))) (nad 0 (itn (nti (nad (itn y7.fst) (itn (len (aB (aH y13 (itn (wr .i64 (ak y7.fst 1)))) (itn (aF (len y13) (wr .i64 (ak y7.fst 1))))))))))) (ja ax (itn (aF (len y13) (nti (nad (itn y7.fst) (itn (len (aB (aH y13 (itn (wr .i64 (ak y7.fst 1)))) (itn (aF (len y13) (wr .i64 (ak y7.fst 1))))))))))))) (nad (itn y7.fst) (itn (len (aB (aH y13 (itn (wr .i64 (ak y7.fst 1)))) (itn (aF (len y13) (wr .i64 (ak y7.fst 1))))))))) y16.fst [ax.mk x2 (ah x0.files (itn y7.fst)).data (ah x0.files (itn y7.fst)).sure]) fun y17 => some (ai.mk y17 x0.room (wr .i64 (aF x0.fuse 1)) x0.down,0))) none) none) none) none)) none) none))))) none
noncomputable def P7:Cx:={ P:=PG,ety:=ety,fn:=look [(76,gZ),(77,iM),(53,bI),(79,jm)],inl:=eU [55,81,82],lp:=aY [] }
theorem Va (x0:ai) (x1:(List UInt8)) (x2:(List UInt8)):bP P7 33 [.val .disk,.str,.str] [.val .disk,.int .i64] (x0,x1,x2)=jJ x0 x1 x2:=by kernel_rfl
def Df:aV:=mkSpec [.val .disk,.str,.str] [.val .disk,.int .i64] false (fun x=>jJ x.1 x.2.1 x.2.2)
theorem XO:dJ PG 33 Df:=
 have K:CxR P7:=aX.cx (fun _=>rfl) (l:=[(76,gZ),(77,iM),(53,bI),(79,jm)]) ⟨vz,xG,jg,xO,trivial⟩
 aJ K (aI (l:=[]) rfl trivial) (by kernel_rfl) (fun x y h=>(Va x.1 x.2.1 x.2.2).trans h) rfl rfl
def uf (x0:ai) (x1:(List UInt8)) (x2:Int):Option (ai×Int):=af (iK x0 [x1]) fun y0 => cnd (aC (ieq y0 0)) (cnd (aC (ieq y0 0)) (some (x0,y0)) (cnd (ilt x2 0) (cnd (ilt x2 0) (some (x0,1)) (cnd (ieq x0.fuse 0) (some (ai.mk x0.files x0.room x0.fuse true,9)) (cnd (ieq x0.fuse (-1)) (af (aK x0.files) fun y1 => cnd (ilt 0 (len y1)) (cnd (band (ile 0 x2) (ile x2 (len (ah y1 0).data))) (af (bW (aB (ah y1 0).data (itn x2))) fun y2 => some (ai.mk (bf (bf y1 0 (ax.mk (ah y1 0).name y2 (ah y1 0).sure)) 0 (ax.mk (ah (bf y1 0 (ax.mk (ah y1 0).name y2 (ah y1 0).sure)) 0).name (ah (bf y1 0 (ax.mk (ah y1 0).name y2 (ah y1 0).sure)) 0).data (kH (ah y1 0).sure x2))) x0.room x0.fuse x0.down,0)) none) none) (af (aK x0.files) fun y3 => cnd (ilt 0 (len y3)) (cnd (band (ile 0 x2) (ile x2 (len (ah y3 0).data))) (af (bW (aB (ah y3 0).data (itn x2))) fun y4 => some (ai.mk (bf (bf y3 0 (ax.mk (ah y3 0).name y4 (ah y3 0).sure)) 0 (ax.mk (ah (bf y3 0 (ax.mk (ah y3 0).name y4 (ah y3 0).sure)) 0).name (ah (bf y3 0 (ax.mk (ah y3 0).name y4 (ah y3 0).sure)) 0).data (kH (ah y3 0).sure x2))) x0.room (wr .i64 (aF x0.fuse 1)) x0.down,0)) none) none)))) (cnd (ilt 0 (len x0.files)) (cnd (ilt (len (ah x0.files 0).data) x2) (some (x0,1)) (cnd (ieq x0.fuse 0) (some (ai.mk x0.files x0.room x0.fuse true,9)) (cnd (ieq x0.fuse (-1)) (af (aK x0.files) fun y5 => cnd (ilt 0 (len y5)) (cnd (band (ile 0 x2) (ile x2 (len (ah y5 0).data))) (af (bW (aB (ah y5 0).data (itn x2))) fun y6 => some (ai.mk (bf (bf y5 0 (ax.mk (ah y5 0).name y6 (ah y5 0).sure)) 0 (ax.mk (ah (bf y5 0 (ax.mk (ah y5 0).name y6 (ah y5 0).sure)) 0).name (ah (bf y5 0 (ax.mk (ah y5 0).name y6 (ah y5 0).sure)) 0).data (kH (ah y5 0).sure x2))) x0.room x0.fuse x0.down,0)) none) none) (af (aK x0.files) fun y7 => cnd (ilt 0 (len y7)) (cnd (band (ile 0 x2) (ile x2 (len (ah y7 0).data))) (af (bW (aB (ah y7 0).data (itn x2))) fun y8 => some (ai.mk (bf (bf y7 0 (ax.mk (ah y7 0).name y8 (ah y7 0).sure)) 0 (ax.mk (ah (bf y7 0 (ax.mk (ah y7 0).name y8 (ah y7 0).sure)) 0).name (ah (bf y7 0 (ax.mk (ah y7 0).name y8 (ah y7 0).sure)) 0).data (kH (ah y7 0).sure x2))) x0.room (wr .i64 (aF x0.fuse 1)) x0.down,0)) none) none)))) none))) (af (dB x0 x1) fun y9 => cnd (aC y9.snd) (some (x0,7)) (cnd (ilt x2 0) (cnd (ilt x2 0) (some (x0,1)) (cnd (ieq x0.fuse 0) (some (ai.mk x0.files x0.room x0.fuse true,9)) (cnd (ieq x0.fuse (-1)) (af (aK x0.files) fun y10 => cnd (band (ile 0 y9.fst) (ilt y9.fst (len y10))) (cnd (band (ile 0 x2) (ile x2 (len (ah y10 (itn y9.fst)).data))) (af (bW (aB (ah y10 (itn y9.fst)).data (itn x2))) fun y11 => some (ai.mk (bf (bf y10 (itn y9.fst) (ax.mk (ah y10 (itn y9.fst)).name y11 (ah y10 (itn y9.fst)).sure)) (itn y9.fst) (ax.mk (ah (bf y10 (itn y9.fst) (ax.mk (ah y10 (itn y9.fst)).name y11 (ah y10 (itn y9.fst)).sure)) (itn y9.fst)).name (ah (bf y10 (itn y9.fst) (ax.mk (ah y10 (itn y9.fst)).name y11 (ah y10 (itn y9.fst)).sure)) (itn y9.fst)).data (kH (ah y10 (itn y9.fst)).sure x2))) x0.room x0.fuse x0.down,0)) none) none) (af (aK x0.files) fun y12 => cnd (band (ile 0 y9.fst) (ilt y9.fst (len y12))) (cnd (band (ile 0 x2) (ile x2 (len (ah y12 (itn y9.fst)).data))) (af (bW (aB (ah y12 (itn y9.fst)).data (itn x2))) fun y13 => some (ai.mk (bf (bf y12 (itn y9.fst) (ax.mk (ah y12 (itn y9.fst)).name y13 (ah y12 (itn y9.fst)).sure)) (itn y9.fst) (ax.mk (ah (bf y12 (itn y9.fst) (ax.mk (ah y12 (itn y9.fst)).name y13 (ah y12 (itn y9.fst)).sure)) (itn y9.fst)).name (ah (bf y12 (itn y9.fst) (ax.mk (ah y12 (itn y9.fst)).name y13 (ah y12 (itn y9.fst)).sure)) (itn y9.fst)).data (kH (ah y12 (itn y9.fst)).sure x2))) x0.room (wr .i64 (aF x0.fuse 1)) x0.down,0)) none) none)))) (cnd (band (ile 0 y9.fst) (ilt y9.fst (len x0.files))) (cnd (ilt (len (ah x0.files (itn y9.fst)).data) x2) (some (x0,1)) (cnd (ieq x0.fuse 0) (some (ai.mk x0.files x0.room x0.fuse true,9)) (cnd (ieq x0.fuse (-1)) (af (aK x0.files) fun y14 => cnd (band (ile 0 y9.fst) (ilt y9.fst (len y14))) (cnd (band (ile 0 x2) (ile x2 (len (ah y14 (itn y9.fst)).data))) (af (bW (aB (ah y14 (itn y9.fst)).data (itn x2))) fun y15 => some (ai.mk (bf (bf y14 (itn y9.fst) (ax.mk (ah y14 (itn y9.fst)).name y15 (ah y14 (itn y9.fst)).sure)) (itn y9.fst) (ax.mk (ah (bf y14 (itn y9.fst) (ax.mk (ah y14 (itn y9.fst)).name y15 (ah y14 (itn y9.fst)).sure)) (itn y9.fst)).name (ah (bf y14 (itn y9.fst) (ax.mk (ah y14 (itn y9.fst)).name y15 (ah y14 (itn y9.fst)).sure)) (itn y9.fst)).data (kH (ah y14 (itn y9.fst)).sure x2))) x0.room x0.fuse x0.down,0)) none) none) (af (aK x0.files) fun y16 => cnd (band (ile 0 y9.fst) (ilt y9.fst (len y16))) (cnd (band (ile 0 x2) (ile x2 (len (ah y16 (itn y9.fst)).data))) (af (bW (aB (ah y16 (itn y9.fst)).data (itn x2))) fun y17 => some (ai.mk (bf (bf y16 (itn y9.fst) (ax.mk (ah y16 (itn y9.fst)).name y17 (ah y16 (itn y9.fst)).sure)) (itn y9.fst) (ax.mk (ah (bf y16 (itn y9.fst) (ax.mk (ah y16 (itn y9.fst)).name y17 (ah y16 (itn y9.fst)).sure)) (itn y9.fst)).name (ah (bf y16 (itn y9.fst) (ax.mk (ah y16 (itn y9.fst)).name y17 (ah y16 (itn y9.fst)).sure)) (itn y9.fst)).data (kH (ah y16 (itn y9.fst)).sure x2))) x0.room (wr .i64 (aF x0.fuse 1)) x0.down,0)) none) none)))) none)))
noncomputable def ZE:Cx:={ P:=PG,ety:=ety,fn:=look [(76,gZ),(77,iM),(53,bI),(56,iY)],inl:=eU [55,81],lp:=aY [] }
theorem ZH (x0:ai) (x1:(List UInt8)) (x2:Int):bP ZE 87 [.val .disk,.str,.int .i64] [.val .disk,.int .i64] (x0,x1,x2)=uf x0 x1 x2:=by kernel_rfl
def Jd:aV:=mkSpec [.val .disk,.str,.int .i64] [.val .disk,.int .i64] false (fun x=>uf x.1 x.2.1 x.2.2)
theorem aeh:dJ PG 87 Jd:=
 have K:CxR ZE:=aX.cx (fun _=>rfl) (l:=[(76,gZ),(77,iM),(53,bI),(56,iY)]) ⟨vz,xG,jg,xA,trivial⟩
 aJ K (aI (l:=[]) rfl trivial) (by kernel_rfl) (fun x y h=>(ZH x.1 x.2.1 x.2.2).trans h) rfl rfl
def gu (x0:ai) (x1:dD):Option (ai×Int):=af (tY x1) fun y0 => cnd (aC y0) (some (x0,1)) (af (qL x0) fun y1 => cnd (ieq y1.snd 1) (cnd (ieq y1.snd 1) (some (x0,y1.snd)) (cnd (aC (ieq x1.gen (wr .i64 (ak y1.fst.gen 1)))) (some (x0,8)) (af (jH x1.gen) fun y2 => af (nC x1) fun y3 => af (kE x0 y2) fun y4 => cnd (ieq y4.snd 7) (af (iD x0 y2 [y3.a0,y3.a1,y3.a2,y3.a3,y3.a4,y3.a5,y3.a6,y3.a7,y3.a8,y3.a9,y3.a10,y3.a11,y3.a12,y3.a13,y3.a14,y3.a15,y3.a16,y3.a17,y3.a18,y3.a19]) fun y5 => cnd (aC (ieq y5.snd 0)) (some y5) (af (ji y5.fst y2) fun y6 => cnd (aC (ieq y6.snd 0)) (some y6) (some (y6.fst,0)))) (af (uf x0 y2 0) fun y7 => cnd (aC (ieq y7.snd 0)) (some y7) (af (iD y7.fst y2 [y3.a0,y3.a1,y3.a2,y3.a3,y3.a4,y3.a5,y3.a6,y3.a7,y3.a8,y3.a9,y3.a10,y3.a11,y3.a12,y3.a13,y3.a14,y3.a15,y3.a16,y3.a17,y3.a18,y3.a19]) fun y8 => cnd (aC (ieq y8.snd 0)) (some y8) (af (ji y8.fst y2) fun y9 => cnd (aC (ieq y9.snd 0)) (some y9) (some (y9.fst,0)))))))) (cnd (ieq y1.snd 9) (some (x0,y1.snd)) (cnd (aC (ieq x1.gen (wr .i64 (ak y1.fst.gen 1)))) (some (x0,8)) (af (jH x1.gen) fun y10 => af (nC x1) fun y11 => af (kE x0 y10) fun y12 => cnd (ieq y12.snd 7) (af (iD x0 y10 [y11.a0,y11.a1,y11.a2,y11.a3,y11.a4,y11.a5,y11.a6,y11.a7,y11.a8,y11.a9,y11.a10,y11.a11,y11.a12,y11.a13,y11.a14,y11.a15,y11.a16,y11.a17,y11.a18,y11.a19]) fun y13 => cnd (aC (ieq y13.snd 0)) (some y13) (af (ji y13.fst y10) fun y14 => cnd (aC (ieq y14.snd 0)) (some y14) (some (y14.fst,0)))) (af (uf x0 y10 0) fun y15 => cnd (aC (ieq y15.snd 0)) (some y15) (af (iD y15.fst y10 [y11.a0,y11.a1,y11.a2,y11.a3,y11.a4,y11.a5,y11.a6,y11.a7,y11.a8,y11.a9,y11.a10,y11.a11,y11.a12,y11.a13,y11.a14,y11.a15,y11.a16,y11.a17,y11.a18,y11.a19]) fun y16 => cnd (aC (ieq y16.snd 0)) (some y16) (af (ji y16.fst y10) fun y17 => cnd (aC (ieq y17.snd 0)) (some y17) (some (y17.fst,0)))))))))
noncomputable def SQ:Cx:={ P:=PG,ety:=ety,fn:=look [(83,uQ),(25,pY),(72,wI),(84,uV),(21,lK),(87,Jd),(29,su),(31,wS)],inl:=eU [86,88,89,85],lp:=aY [] }
theorem WA (x0:ai) (x1:dD):bP SQ 35 [.val .disk,.val .slot] [.val .disk,.int .i64] (x0,x1)=gu x0 x1:=by kernel_rfl
def Ew:aV:=mkSpec [.val .disk,.val .slot] [.val .disk,.int .i64] false (fun x=>gu x.1 x.2)
theorem ZP:dJ PG 35 Ew:=
 have K:CxR SQ:=aX.cx (fun _=>rfl) (l:=[(83,uQ),(25,pY),(72,wI),(84,uV),(21,lK),(87,Jd),(29,su),(31,wS)]) ⟨PZ,KO,Rz,Qn,EU,aeh,Oq,RX,trivial⟩
 aJ K (aI (l:=[]) rfl trivial) (by kernel_rfl) (fun x y h=>(WA x.1 x.2).trans h) rfl rfl
def sJ (x0:(List UInt8)):Option (Bool):=some (aC (ieq (BD [115,110,97,112,46] x0) 0))
def xW:aV:=mkSpec [.str] [.bool] true (fun x=>sJ x)
def Ou:Go.Shelf.Ren:=⟨fun | 174=>91 | 247=>157 | 245=>158 | 287=>203 | 279=>204 | 280=>205 | 281=>206 | 282=>207 | 321=>227 | 322=>228 | 316=>229 | 171=>231 | 205=>230 | 243=>237 | 246=>113 | 283=>171 | 284=>172 | 285=>173 | 286=>174 | 129=>212 | 317=>211 | 318=>213 | 319=>214 | 320=>215 | 337=>233 | 338=>234 | n=>n,fun | 9=>9 | 3=>3 | 2=>2 | 75=>139 | 85=>140 | 4=>4 | 167=>251 | 5=>5 | 53=>219 | 175=>252 | 46=>162 | 168=>254 | 37=>51 | 0=>0 | 210=>277 | 21=>21 | 127=>233 | 145=>284 | 143=>282 | 171=>224 | 173=>227 | 212=>260 | 51=>119 | 20=>20 | 213=>261 | 232=>285 | 233=>286 | 74=>138 | 209=>276 | 144=>283 | 80=>173 | n=>n,fun | 15=>2 | 16=>3 | 17=>0 | 18=>4 | 19=>5 | n=>n⟩
theorem lF:Go.Proofs.LaysC.n174 PG Ou where
 mixed:=by kernel_rfl
 f129:=by kernel_rfl
 f171:=by kernel_rfl
 f174:=by kernel_rfl
 f205:=by kernel_rfl
 f243:=by kernel_rfl
 f245:=by kernel_rfl
 f246:=by kernel_rfl
 f247:=by kernel_rfl
 f279:=by kernel_rfl
 f280:=by kernel_rfl
 f281:=by kernel_rfl
 f282:=by kernel_rfl
 f283:=by kernel_rfl
 f284:=by kernel_rfl
 f285:=by kernel_rfl
 f286:=by kernel_rfl
 f287:=by kernel_rfl
 f316:=by kernel_rfl
 f317:=by kernel_rfl
 f318:=by kernel_rfl
 f319:=by kernel_rfl
 f320:=by kernel_rfl
 f321:=by kernel_rfl
 f322:=by kernel_rfl
 f337:=by kernel_rfl
 f338:=by kernel_rfl
 t0:=by kernel_rfl
 a0:=fun w=>by kernel_rfl
 z0:=fun w=>by kernel_rfl
 v0:=fun w=>by kernel_rfl
 t2:=by kernel_rfl
 a2:=fun w=>by kernel_rfl
 z2:=fun w=>by kernel_rfl
 v2:=fun w=>by kernel_rfl
 t3:=by kernel_rfl
 a3:=fun w=>by kernel_rfl
 z3:=fun w=>by kernel_rfl
 v3:=fun w=>by kernel_rfl
 t4:=by kernel_rfl
 a4:=fun w=>by kernel_rfl
 z4:=fun w=>by kernel_rfl
 v4:=fun w=>by kernel_rfl
 t5:=by kernel_rfl
 a5:=fun w=>by kernel_rfl
 z5:=fun w=>by kernel_rfl
 v5:=fun w=>by kernel_rfl
 t9:=by kernel_rfl
 a9:=fun w=>by kernel_rfl
 z9:=fun w=>by kernel_rfl
 v9:=fun w=>by kernel_rfl
 t20:=by kernel_rfl
 a20:=fun w=>by kernel_rfl
 z20:=fun w=>by kernel_rfl
 v20:=fun w=>by kernel_rfl
 t21:=by kernel_rfl
 a21:=fun w=>by kernel_rfl
 z21:=fun w=>by kernel_rfl
 v21:=fun w=>by kernel_rfl
 t37:=by kernel_rfl
 a37:=fun w=>by kernel_rfl
 z37:=fun w=>by kernel_rfl
 v37:=fun w=>by kernel_rfl
 t46:=by kernel_rfl
 a46:=fun w=>by kernel_rfl
 z46:=fun w=>by kernel_rfl
 v46:=fun w=>by kernel_rfl
 t51:=by kernel_rfl
 a51:=fun w=>by kernel_rfl
 z51:=fun w=>by kernel_rfl
 v51:=fun w=>by kernel_rfl
 t53:=by kernel_rfl
 a53:=fun w=>by kernel_rfl
 z53:=fun w=>by kernel_rfl
 v53:=fun w=>by kernel_rfl
 t75:=by kernel_rfl
 a75:=fun w=>by kernel_rfl
 z75:=fun w=>by kernel_rfl
 v75:=fun w=>by kernel_rfl
 t85:=by kernel_rfl
 a85:=fun w=>by kernel_rfl
 z85:=fun w=>by kernel_rfl
 v85:=fun w=>by kernel_rfl
 t127:=by kernel_rfl
 a127:=fun w=>by kernel_rfl
 z127:=fun w=>by kernel_rfl
 v127:=fun w=>by kernel_rfl
 t143:=by kernel_rfl
 a143:=fun w=>by kernel_rfl
 z143:=fun w=>by kernel_rfl
 v143:=fun w=>by kernel_rfl
 t145:=by kernel_rfl
 a145:=fun w=>by kernel_rfl
 z145:=fun w=>by kernel_rfl
 v145:=fun w=>by kernel_rfl
 t167:=by kernel_rfl
 a167:=fun w=>by kernel_rfl
 z167:=fun w=>by kernel_rfl
 v167:=fun w=>by kernel_rfl
 t168:=by kernel_rfl
 a168:=fun w=>by kernel_rfl
 z168:=fun w=>by kernel_rfl
 v168:=fun w=>by kernel_rfl
 t171:=by kernel_rfl
 a171:=fun w=>by kernel_rfl
 z171:=fun w=>by kernel_rfl
 v171:=fun w=>by kernel_rfl
 t173:=by kernel_rfl
 a173:=fun w=>by kernel_rfl
 z173:=fun w=>by kernel_rfl
 v173:=fun w=>by kernel_rfl
 t175:=by kernel_rfl
 a175:=fun w=>by kernel_rfl
 z175:=fun w=>by kernel_rfl
 v175:=fun w=>by kernel_rfl
 t210:=by kernel_rfl
 a210:=fun w=>by kernel_rfl
 z210:=fun w=>by kernel_rfl
 v210:=fun w=>by kernel_rfl
 t212:=by kernel_rfl
 a212:=fun w=>by kernel_rfl
 z212:=fun w=>by kernel_rfl
 v212:=fun w=>by kernel_rfl
 t213:=by kernel_rfl
 a213:=fun w=>by kernel_rfl
 z213:=fun w=>by kernel_rfl
 t232:=by kernel_rfl
 a232:=fun w=>by kernel_rfl
 z232:=fun w=>by kernel_rfl
 v232:=fun w=>by kernel_rfl
 t233:=by kernel_rfl
 a233:=fun w=>by kernel_rfl
 z233:=fun w=>by kernel_rfl
 v233:=fun w=>by kernel_rfl
 g15:=by kernel_rfl
 g16:=by kernel_rfl
 g17:=by kernel_rfl
 g18:=by kernel_rfl
 g19:=by kernel_rfl
 t80:=by kernel_rfl
 a80:=fun w=>by kernel_rfl
 z80:=fun w=>by kernel_rfl
 v80:=fun w=>by kernel_rfl
 i0:=by kernel_rfl
 i2:=by kernel_rfl
 i3:=by kernel_rfl
 i4:=by kernel_rfl
 i5:=by kernel_rfl
 i9:=by kernel_rfl
 i20:=by kernel_rfl
 i21:=by kernel_rfl
 i37:=by kernel_rfl
 i46:=by kernel_rfl
 i51:=by kernel_rfl
 i53:=by kernel_rfl
 i75:=by kernel_rfl
 i80:=by kernel_rfl
 i85:=by kernel_rfl
 i127:=by kernel_rfl
 i143:=by kernel_rfl
 i145:=by kernel_rfl
 i167:=by kernel_rfl
 i168:=by kernel_rfl
 i171:=by kernel_rfl
 i173:=by kernel_rfl
 i175:=by kernel_rfl
 i210:=by kernel_rfl
 i212:=by kernel_rfl
 i232:=by kernel_rfl
 i233:=by kernel_rfl
 m15:=by kernel_rfl
 m16:=by kernel_rfl
 m17:=by kernel_rfl
 m18:=by kernel_rfl
 m19:=by kernel_rfl
 c0:=by kernel_rfl
 c2:=by kernel_rfl
 c3:=by kernel_rfl
 c4:=by kernel_rfl
 c5:=by kernel_rfl
 c9:=by kernel_rfl
 c20:=by kernel_rfl
 c21:=by kernel_rfl
 c37:=by kernel_rfl
 c46:=by kernel_rfl
 c51:=by kernel_rfl
 c53:=by kernel_rfl
 c75:=by kernel_rfl
 c80:=by kernel_rfl
 c85:=by kernel_rfl
 c127:=by kernel_rfl
 c143:=by kernel_rfl
 c145:=by kernel_rfl
 c167:=by kernel_rfl
 c168:=by kernel_rfl
 c171:=by kernel_rfl
 c173:=by kernel_rfl
 c175:=by kernel_rfl
 c210:=by kernel_rfl
 c212:=by kernel_rfl
 c213:=by kernel_rfl
 c232:=by kernel_rfl
 c233:=by kernel_rfl
def ML:Go.Shelf.Ren:=⟨fun | 103=>90 | 210=>156 | 206=>177 | n=>n,fun | 9=>9 | 4=>4 | 24=>136 | 3=>3 | n=>n,fun | n=>n⟩
theorem AZ:Go.Proofs.Lays.n103 PG ML where
 mixed:=by kernel_rfl
 f103:=by kernel_rfl
 f206:=by kernel_rfl
 f210:=by kernel_rfl
 t3:=by kernel_rfl
 a3:=fun w=>by kernel_rfl
 z3:=fun w=>by kernel_rfl
 v3:=fun w=>by kernel_rfl
 t4:=by kernel_rfl
 a4:=fun w=>by kernel_rfl
 z4:=fun w=>by kernel_rfl
 v4:=fun w=>by kernel_rfl
 t9:=by kernel_rfl
 a9:=fun w=>by kernel_rfl
 z9:=fun w=>by kernel_rfl
 v9:=fun w=>by kernel_rfl
 t24:=by kernel_rfl
 a24:=fun w=>by kernel_rfl
 z24:=fun w=>by kernel_rfl
 v24:=fun w=>by kernel_rfl
theorem afD {B B':Nat} {a b:World} (h:RowKit.Below B a b) (hB:B'<=B):RowKit.Below B' a b:=⟨h.os,h.tape,h.output,h.size,fun k hk=>h.block k (Nat.lt_of_lt_of_le hk hB)⟩
set_option maxHeartbeats 1000000 in
set_option maxRecDepth 100000 in
theorem abB (s r:ByteArray) (w:World)
 (h1:Calls PG 90 #[.string s,.string ⟨#[115,110,97,112,46]⟩] w fun e w'=>e= .returned (.tuple #[.string r,.bool false])/\w'=w):
 Calls PG 36 #[.string s] w fun e w'=>e= .returned (.bool false)/\RowKit.Below w.heap.size w w':=by
 go_enter Go.Proofs.Tryz.func36,Go.Proofs.Tryz.ntmps36
 go_wp2_with (go_at_call 90;refine h1.mono ?_;rintro e W1 ⟨rfl,rfl⟩)
 all_goals (go_ret;exact⟨rfl,RowKit.Below.refl _ _⟩)
set_option maxHeartbeats 1000000 in
set_option maxRecDepth 100000 in
theorem aad (s r:ByteArray) (w:World)
 (h1:Calls PG 90 #[.string s,.string ⟨#[115,110,97,112,46]⟩] w fun e w'=>e= .returned (.tuple #[.string r,.bool true])/\w'=w) (hr:r.size≠10):
 Calls PG 36 #[.string s] w fun e w'=>e= .returned (.bool false)/\RowKit.Below w.heap.size w w':=by
 have hr':((((r.size:Nat):Int)) != 10)=true:=by simp;omega
 go_enter Go.Proofs.Tryz.func36,Go.Proofs.Tryz.ntmps36
 go_wp2_with (go_at_call 90;refine h1.mono ?_;rintro e W1 ⟨rfl,rfl⟩)
 all_goals (go_ret;exact⟨rfl,RowKit.Below.refl _ _⟩)
set_option maxHeartbeats 1000000 in
set_option maxRecDepth 100000 in
theorem Qq (s r:ByteArray) (w:World) (v:Int) (t:TypeId) (q:Value->Prop)
 (h1:Calls PG 90 #[.string s,.string ⟨#[115,110,97,112,46]⟩] w fun e w'=>e= .returned (.tuple #[.string r,.bool true])/\w'=w) (hr:r.size=10)
 (h2:Calls PG 91 #[.string r,.int .i64 10,.int .i64 64] w fun e w'=>∃p,e= .returned (.tuple #[.int .i64 v,.iface t p])/\RowKit.Below w.heap.size w w'):
 Calls PG 36 #[.string s] w fun e w'=>e= .returned (.bool false)/\RowKit.Below w.heap.size w w':=by
 have hr':((r.size:Nat):Int)=10:=by omega
 go_enter Go.Proofs.Tryz.func36,Go.Proofs.Tryz.ntmps36
 go_wp2_with (first | (go_at_call 90;refine h1.mono ?_;rintro e W1 ⟨rfl,rfl⟩) | (go_at_call 91;refine h2.mono ?_;rintro e W2 ⟨p,rfl,hb⟩))
 all_goals (go_ret;exact⟨rfl,hb⟩)
set_option maxHeartbeats 1000000 in
set_option maxRecDepth 100000 in
theorem acY (s r:ByteArray) (w:World) (v:Int) (nm:ByteArray)
 (h1:Calls PG 90 #[.string s,.string ⟨#[115,110,97,112,46]⟩] w fun e w'=>e= .returned (.tuple #[.string r,.bool true])/\w'=w) (hr:r.size=10)
 (h2:Calls PG 91 #[.string r,.int .i64 10,.int .i64 64] w fun e w'=>e= .returned (.tuple #[.int .i64 v,.nilIface])/\RowKit.Below w.heap.size w w')
 (h3:∀w1,RowKit.Below w.heap.size w w1->Calls PG 17 #[.int .i64 v] w1 fun e w'=>e= .returned (.string nm)/\RowKit.Below w1.heap.size w1 w'):
 Calls PG 36 #[.string s] w fun e w'=>e= .returned (.bool (nm.toList == s.toList))/\RowKit.Below w.heap.size w w':=by
 have hr':((r.size:Nat):Int)=10:=by omega
 go_enter Go.Proofs.Tryz.func36,Go.Proofs.Tryz.ntmps36
 go_wp2_with (first | (go_at_call 90;refine h1.mono ?_;rintro e W1 ⟨rfl,rfl⟩) | (go_at_call 91;refine h2.mono ?_;rintro e W2 ⟨rfl,hb⟩) | (go_at_call 17;refine(h3 _ hb).mono ?_;rintro e W3 ⟨rfl,hb3⟩))
 all_goals (go_ret;exact⟨rfl,hb.trans (afD hb3 hb.size)⟩)
theorem ahw (v:Int) (hv:inI v):dS v=some (DL [115,110,97,112,46] v):=by
 unfold inI at hv
 unfold dS DL oV sU
 by_cases h:v<1\/1000000000<v
 ·rw[if_pos h,show bor (ilt v 1) (ilt 1000000000 v)=true by rw[ac7,Lc,Lc];exact h];rfl
 ·have e1:bor (ilt v 1) (ilt 1000000000 v)=false:=by
   rw[Bool.eq_false_iff];intro g;rw[ac7,Lc,Lc]at g;exact h g
  have hl:(fmt10 v).length<=10:=by
   unfold fmt10;rw[if_neg (by omega)]
   exact Oc 20 _ 10 (by have:(10:Nat)^10=10000000000:=by decide
                        omega) (by decide)
  have e2:wr .i64 (aF 10 (len (fmt10 v)))=((10 - (fmt10 v).length:Nat):Int):=by
   unfold aF len wr IntKind.wrap
   simp [IntKind.bits,IntKind.signed]
   omega
  have e3:ahy v 10=some (fmt10 v):=by
   unfold ahy
   rw[show band (ieq 10 10) (band (ile (-9223372036854775808) v) (ile v 9223372036854775807))=true by rw[qK,qK,lN,lN];exact⟨rfl,hv⟩];rfl
  have e4:aiI [UInt8.ofNat 48] ((10 - (fmt10 v).length:Nat):Int)=some (List.replicate (10 - (fmt10 v).length) 48):=by
   unfold aiI
   rw[show band (ile 0 ((10 - (fmt10 v).length:Nat):Int)) (band (ile ((10 - (fmt10 v).length:Nat):Int) 9223372036854775807) (ile (jr (len [UInt8.ofNat 48]) ((10 - (fmt10 v).length:Nat):Int)) 140737488355328))=true by
    rw[qK,qK,lN,lN,lN];simp only[jr,len,List.length_singleton];omega]
   simp only[cnd,itn,Int.toNat_natCast]
   rw[show UInt8.ofNat 48=48 from rfl,Yg]
  rw[if_neg h,e1,e3]
  simp only[cnd,af,Option.bind_some,e2,e4]
  rw[show ile (ak 5 (len (List.replicate (10 - (fmt10 v).length) (48:UInt8)))) 68719476736=true by rw[lN];simp only[ak,len,List.length_replicate];omega]
  simp only
  rw[show ile (ak (len (jQ [UInt8.ofNat 115,UInt8.ofNat 110,UInt8.ofNat 97,UInt8.ofNat 112,UInt8.ofNat 46] (List.replicate (10 - (fmt10 v).length) (48:UInt8)))) (len (fmt10 v))) 68719476736=true by rw[lN];simp only[ak,len,jQ,List.length_append,List.length_replicate,List.length_cons,List.length_nil];omega]
  rfl
theorem RN:dJ PG 36 xW:=by
 refine abG (xs:=[.str]) (rs:=[.bool]) rfl rfl (acn aX (by kernel_rfl)) fun(x:List UInt8) (y:Bool) w hrun hg=> ?_
 have hy:y=aC (ieq (BD [115,110,97,112,46] x) 0):=(Option.some.inj hrun).symm
 subst hy
 show Calls PG 36 #[.string ⟨x.toArray⟩] w fun e w'=>e= .returned (.bool (aC (ieq (BD [115,110,97,112,46] x) 0)))/\RowKit.Below w.heap.size w w'
 have hcut:=Go.Proofs.Any.strings_CutPrefix AZ ⟨x.toArray⟩ ⟨#[115,110,97,112,46]⟩ w
 change Calls PG 90 #[.string ⟨x.toArray⟩,.string ⟨#[115,110,97,112,46]⟩] w (fun e w'=>e= .returned (.tuple #[.string ⟨(Go.Lib.trimPrefix x [115,110,97,112,46]).toArray⟩,.bool (Go.Lib.hasPrefix x [115,110,97,112,46])])/\w'=w)at hcut
 have nz:∀b:Bool,b=decide (BD [115,110,97,112,46] x≠0)->aC (ieq (BD [115,110,97,112,46] x) 0)=b:=fun b hb=>by
  rw[hb]
  by_cases h:BD [115,110,97,112,46] x=0<;>simp [aC,ieq,h]
 cases hpf:Go.Lib.hasPrefix x [115,110,97,112,46]with
 |false=>
  rw[hpf]at hcut
  have hz:BD [115,110,97,112,46] x=0:=if_neg fun g=>by
   have:Go.Lib.hasPrefix x [115,110,97,112,46]=true:=by
    unfold Go.Lib.hasPrefix
    rw[List.isPrefixOf_iff_prefix]
    exact⟨x.drop 5,by conv=>rhs;rw[<-List.take_append_drop 5 x,show x.take 5=_ from g.1]⟩
   rw[hpf]at this;cases this
  rw[hz]
  exact abB _ _ w hcut
 |true=>
  rw[hpf]at hcut
  have htk:x.take 5=[115,110,97,112,46]:=by
   unfold Go.Lib.hasPrefix at hpf
   rw[List.isPrefixOf_iff_prefix]at hpf
   obtain⟨r,rfl⟩:=hpf
   rfl
  rw[show Go.Lib.trimPrefix x [115,110,97,112,46]=x.drop 5 by unfold Go.Lib.trimPrefix;rw[if_pos hpf];rfl]at hcut
  by_cases hl:(x.drop 5).length=10
  ·have hsame:=ahX [115,110,97,112,46] x htk (by simp) hl
   change (match Go.Lib.parseIntB 64 (x.drop 5)with | .ok v=>decide (DL [115,110,97,112,46] v=x) | _=>false)=_ at hsame
   have hsz:(⟨(x.drop 5).toArray⟩:ByteArray).size=10:=by
    show(x.drop 5).toArray.size=10
    rw[List.size_toArray];exact hl
   cases hp:Go.Lib.parseIntB 64 (x.drop 5)with
   |ok v=>
    rw[hp]at hsame
    have h2:=(Go.Proofs.Any.strconv_ParseInt_10_at64_ok lF ⟨(x.drop 5).toArray⟩ (by rw[hsz];decide) v hp w).mono (R':=fun e w'=>e= .returned (.tuple #[.int .i64 v,.nilIface])/\RowKit.Below w.heap.size w w') fun e w' ⟨he,hw⟩=>⟨he,by
     rcases hw with rfl | ⟨t,rfl⟩
     ·exact RowKit.Below.refl _ _
     ·exact Go.Lib.bytesWorld_below _ _ _⟩
    have h3:∀w1,RowKit.Below w.heap.size w w1->Calls PG 17 #[.int .i64 v] w1 fun e w'=>e= .returned (.string ⟨(DL [115,110,97,112,46] v).toArray⟩)/\RowKit.Below w1.heap.size w1 w':=fun w1 hb=>
     dJ.calls (xs:=[.int .i64]) (r:= .str) aX (by kernel_rfl) Dk rfl rfl v (DL [115,110,97,112,46] v) (ahw v (ahI hp)) w1 (hg.mono (fun b h=>Nat.lt_of_lt_of_le h hb.size) (fun b h=>hb.block b h))
    have:=acY ⟨x.toArray⟩ ⟨(x.drop 5).toArray⟩ w v ⟨(DL [115,110,97,112,46] v).toArray⟩ hcut hsz h2 h3
    rw[ByteArray.toList_eq,ByteArray.toList_eq]at this
    rw[nz _ hsame]
    refine this.mono fun e w' ⟨he,hb⟩=>⟨he.trans ?_,hb⟩
    congr 2
    simp only
    rw[Bool.eq_iff_iff];simp
   |«syntax»=>
    rw[hp]at hsame
    obtain⟨_,c,t,fr,hc,te,pe,rfl⟩:=hg (2,agv) (by simp [glL])
    have hcell:w.cell? ⟨2,0,none⟩=some (.iface te pe):=by unfold World.cell?;simp only[hc];rfl
    rw[nz _ hsame]
    refine Qq ⟨x.toArray⟩ ⟨(x.drop 5).toArray⟩ w _ _ (fun _=>True) hcut hsz ((Go.Proofs.Any.strconv_ParseInt_10_at64_syntax lF ⟨(x.drop 5).toArray⟩ (by rw[hsz];decide) hp _ w hcell (.inr ⟨te,pe,rfl⟩)).mono fun e w' ⟨N,he,_,_,hb⟩=>⟨_,he,hb⟩)
   |range=>
    rw[hp]at hsame
    obtain⟨_,c,t,fr,hc,te,pe,rfl⟩:=hg (3,agv) (by simp [glL])
    have hcell:w.cell? ⟨3,0,none⟩=some (.iface te pe):=by unfold World.cell?;simp only[hc];rfl
    rw[nz _ hsame]
    refine Qq ⟨x.toArray⟩ ⟨(x.drop 5).toArray⟩ w _ _ (fun _=>True) hcut hsz ((Go.Proofs.Any.strconv_ParseInt_10_at64_range lF ⟨(x.drop 5).toArray⟩ (by rw[hsz];decide) hp _ w hcell (.inr ⟨te,pe,rfl⟩)).mono fun e w' ⟨N,he,_,_,hb⟩=>⟨_,he,hb⟩)
  ·have hz:BD [115,110,97,112,46] x=0:=if_neg fun g=>hl g.2.1
   rw[hz]
   refine aad _ _ w hcut fun g=>hl ?_
   have g:(x.drop 5).toArray.size=10:=g
   rwa[List.size_toArray]at g
def Gu:LSh:=⟨304,[(72,.int .i64),(71,.ro .file)],[(11,.mp 336 0),(10,.mp 304 0)],[(304,[.int .i64])],[(73,.int .i64)],[(336,[.val .keeper])],[]⟩
@[reducible] def Gi:List iQ:=[⟨.exit 1,[],[(336,[.val .keeper])],[]⟩]
def aO (p0:Int) (p1:(List ax)) (p2:Int) (v0:Int) (v1:bG):Option ((Int×bG) ⊕ ((bG))):=cnd (ilt v0 p0) (cnd (band (ile 0 v0) (ilt v0 (len p1))) (af (sJ (ah p1 (itn v0)).name) fun y0 => af (cnd y0 (dS p2) (some [])) fun y1 => cnd (band y0 (aC (seq (ah p1 (itn v0)).name y1))) (cnd (ieq v1.e 0) (af (pI v1.d (ah p1 (itn v0)).name) fun y2 => some (Sum.inl (wr .i64 (ak v0 1),bG.mk y2.fst y2.snd))) (some (Sum.inl (wr .i64 (ak v0 1),v1)))) (some (Sum.inl (wr .i64 (ak v0 1),v1)))) none) (some (Sum.inr v1))
def EG:iF:=Gu.spec Gi [74,75,76,15,77,78,79,80,81,82,83,84,85,86,87,88,89,90,91,73] (fun p v=>aO p.1 p.2.1 p.2.2 v.1 v.2)
def lI (x0:ai) (x1:aj):Option (ai×Int×Int):=af (qP x1) fun y0 => cnd (aC (ieq y0.snd 0)) (some (x0,0,1)) (af (qL x0) fun y1 => cnd (ieq y1.snd 1) (some (x0,0,y1.snd)) (cnd (ieq y1.snd 9) (some (x0,0,y1.snd)) (cnd (ile 1000000000 y1.fst.gen) (some (x0,0,3)) (af (kE x0 [(UInt8.ofNat 116),(UInt8.ofNat 109),(UInt8.ofNat 112)]) fun y2 => cnd (ieq y2.snd 0) (af (pI x0 [(UInt8.ofNat 116),(UInt8.ofNat 109),(UInt8.ofNat 112)]) fun y3 => cnd (ieq y3.snd 0) (af (iD y3.fst [(UInt8.ofNat 116),(UInt8.ofNat 109),(UInt8.ofNat 112)] y0.fst) fun y4 => cnd (ieq y4.snd 0) (af (ji y4.fst [(UInt8.ofNat 116),(UInt8.ofNat 109),(UInt8.ofNat 112)]) fun y5 => cnd (ieq y5.snd 0) (af (dS (wr .i64 (ak y1.fst.gen 1))) fun y6 => af (jJ y5.fst [(UInt8.ofNat 116),(UInt8.ofNat 109),(UInt8.ofNat 112)] y6) fun y7 => cnd (ieq y7.snd 0) (af (gu y7.fst (dD.mk (wr .i64 (ak y1.fst.gen 1)) x1.lsn)) fun y8 => af (bF (fun v => aO (len y8.fst.files) y8.fst.files (wr .i64 (ak y1.fst.gen 1)) v.fst v.snd) LF (0,bG.mk y8.fst y8.snd)) fun y9 => cnd (aC (ieq y9.e 0)) (some (y9.d,0,y9.e)) (some (y9.d,wr .i64 (ak y1.fst.gen 1),0))) (af (bF (fun v => aO (len y7.fst.files) y7.fst.files (wr .i64 (ak y1.fst.gen 1)) v.fst v.snd) LF (0,bG.mk y7.fst y7.snd)) fun y10 => cnd (aC (ieq y10.e 0)) (some (y10.d,0,y10.e)) (some (y10.d,wr .i64 (ak y1.fst.gen 1),0)))) (cnd (ieq y5.snd 0) (af (gu y5.fst (dD.mk (wr .i64 (ak y1.fst.gen 1)) x1.lsn)) fun y11 => af (bF (fun v => aO (len y11.fst.files) y11.fst.files (wr .i64 (ak y1.fst.gen 1)) v.fst v.snd) LF (0,bG.mk y11.fst y11.snd)) fun y12 => cnd (aC (ieq y12.e 0)) (some (y12.d,0,y12.e)) (some (y12.d,wr .i64 (ak y1.fst.gen 1),0))) (af (bF (fun v => aO (len y5.fst.files) y5.fst.files (wr .i64 (ak y1.fst.gen 1)) v.fst v.snd) LF (0,bG.mk y5.fst y5.snd)) fun y13 => cnd (aC (ieq y13.e 0)) (some (y13.d,0,y13.e)) (some (y13.d,wr .i64 (ak y1.fst.gen 1),0))))) (cnd (ieq y4.snd 0) (af (dS (wr .i64 (ak y1.fst.gen 1))) fun y14 => af (jJ y4.fst [(UInt8.ofNat 116),(UInt8.ofNat 109),(UInt8.ofNat 112)] y14) fun y15 => cnd (ieq y15.snd 0) (af (gu y15.fst (dD.mk (wr .i64 (ak y1.fst.gen 1)) x1.lsn)) fun y16 => af (bF (fun v => aO (len y16.fst.files) y16.fst.files (wr .i64 (ak y1.fst.gen 1)) v.fst v.snd) LF (0,bG.mk y16.fst y16.snd)) fun y17 => cnd (aC (ieq y17.e 0)) (some (y17.d,0,y17.e)) (some (y17.d,wr .i64 (ak y1.fst.gen 1),0))) (af (bF (fun v => aO (len y15.fst.files) y15.fst.files (wr .i64 (ak y1.fst.gen 1)) v.fst v.snd) LF (0,bG.mk y15.fst y15.snd)) fun y18 => cnd (aC (ieq y18.e 0)) (some (y18.d,0,y18.e)) (some (y18.d,wr .i64 (ak y1.fst.gen 1),0)))) (cnd (ieq y4.snd 0) (af (gu y4.fst (dD.mk (wr .i64 (ak y1.fst.gen 1)) x1.lsn)) fun y19 => af (bF (fun v => aO (len y19.fst.files) y19.fst.files (wr .i64 (ak y1.fst.gen 1)) v.fst v.snd) LF (0,bG.mk y19.fst y19.snd)) fun y20 => cnd (aC (ieq y20.e 0)) (some (y20.d,0,y20.e)) (some (y20.d,wr .i64 (ak y1.fst.gen 1),0))) (af (bF (fun v => aO (len y4.fst.files) y4.fst.files (wr .i64 (ak y1.fst.gen 1)) v.fst v.snd) LF (0,bG.mk y4.fst y4.snd)) fun y21 => cnd (aC (ieq y21.e 0)) (some (y21.d,0,y21.e)) (some (y21.d,wr .i64 (ak y1.fst.gen 1),0)))))) (cnd (ieq y3.snd 0) (af (ji y3.fst [(UInt8.ofNat 116),(UInt8.ofNat 109),(UInt8.ofNat 112)]) fun y22 => cnd (ieq y22.snd 0) (af (dS (wr .i64 (ak y1.fst.gen 1))) fun y23 => af (jJ y22.fst [(UInt8.ofNat 116),(UInt8.ofNat 109),(UInt8.ofNat 112)] y23) fun y24 => cnd (ieq y24.snd 0) (af (gu y24.fst (dD.mk (wr .i64 (ak y1.fst.gen 1)) x1.lsn)) fun y25 => af (bF (fun v => aO (len y25.fst.files) y25.fst.files (wr .i64 (ak y1.fst.gen 1)) v.fst v.snd) LF (0,bG.mk y25.fst y25.snd)) fun y26 => cnd (aC (ieq y26.e 0)) (some (y26.d,0,y26.e)) (some (y26.d,wr .i64 (ak y1.fst.gen 1),0))) (af (bF (fun v => aO (len y24.fst.files) y24.fst.files (wr .i64 (ak y1.fst.gen 1)) v.fst v.snd) LF (0,bG.mk y24.fst y24.snd)) fun y27 => cnd (aC (ieq y27.e 0)) (some (y27.d,0,y27.e)) (some (y27.d,wr .i64 (ak y1.fst.gen 1),0)))) (cnd (ieq y22.snd 0) (af (gu y22.fst (dD.mk (wr .i64 (ak y1.fst.gen 1)) x1.lsn)) fun y28 => af (bF (fun v => aO (len y28.fst.files) y28.fst.files (wr .i64 (ak y1.fst.gen 1)) v.fst v.snd) LF (0,bG.mk y28.fst y28.snd)) fun y29 => cnd (aC (ieq y29.e 0)) (some (y29.d,0,y29.e)) (some (y29.d,wr .i64 (ak y1.fst.gen 1),0))) (af (bF (fun v => aO (len y22.fst.files) y22.fst.files (wr .i64 (ak y1.fst.gen 1)) v.fst v.snd) LF (0,bG.mk y22.fst y22.snd)) fun y30 => cnd (aC (ieq y30.e 0)) (some (y30.d,0,y30.e)) (some (y30.d,wr .i64 (ak y1.fst.gen 1),0))))) (cnd (ieq y3.snd 0) (af (dS (wr .i64 (ak y1.fst.gen 1))) fun y31 => af (jJ y3.fst [(UInt8.ofNat 116),(UInt8.ofNat 109),(UInt8.ofNat 112)] y31) fun y32 => cnd (ieq y32.snd 0) (af (gu y32.fst (dD.mk (wr .i64 (ak y1.fst.gen 1)) x1.lsn)) fun y33 => af (bF (fun v => aO (len y33.fst.files) y33.fst.files (wr .i64 (ak y1.fst.gen 1)) v.fst v.snd) LF (0,bG.mk y33.fst y33.snd)) fun y34 => cnd (aC (ieq y34.e 0)) (some (y34.d,0,y34.e)) (some (y34.d,wr .i64 (ak y1.fst.gen 1),0))) (af (bF (fun v => aO (len y32.fst.files) y32.fst.files (wr .i64 (ak y1.fst.gen 1)) v.fst v.snd) LF (0,bG.mk y32.fst y32.snd)) fun y35 => cnd (aC (ieq y35.e 0)) (some (y35.d,0,y35.e)) (some (y35.d,wr .i64 (ak y1.fst.gen 1),0)))) (cnd (ieq y3.snd 0) (af (gu y3.fst (dD.mk (wr .i64 (ak y1.fst.gen 1)) x1.lsn)) fun y36 => af (bF (fun v => aO (len y36.fst.files) y36.fst.files (wr .i64 (ak y1.fst.gen 1)) v.fst v.snd) LF (0,bG.mk y36.fst y36.snd)) fun y37 => cnd (aC (ieq y37.e 0)) (some (y37.d,0,y37.e)) (some (y37.d,wr .i64 (ak y1.fst.gen 1),0))) (af (bF (fun v => aO (len y3.fst.files) y3.fst.files (wr .i64 (ak y1.fst.gen 1)) v.fst v.snd) LF (0,bG.mk y3.fst y3.snd)) fun y38 => cnd (aC (ieq y38.e 0)) (some (y38.d,0,y38.e)) (some (y38.d,wr .i64 (ak y1.fst.gen 1),0))))))) (af (iD x0 [(UInt8.ofNat 116),(UInt8.ofNat 109),(UInt8.ofNat 112)] y0.fst) fun y39 => cnd (ieq y39.snd 0) (af (ji y39.fst [(UInt8.ofNat 116),(UInt8.ofNat 109),(UInt8.ofNat 112)]) fun y40 => cnd (ieq y40.snd 0) (af (dS (wr .i64 (ak y1.fst.gen 1))) fun y41 => af (jJ y40.fst [(UInt8.ofNat 116),(UInt8.ofNat 109),(UInt8.ofNat 112)] y41) fun y42 => cnd (ieq y42.snd 0) (af (gu y42.fst (dD.mk (wr .i64 (ak y1.fst.gen 1)) x1.lsn)) fun y43 => af (bF (fun v => aO (len y43.fst.files) y43.fst.files (wr .i64 (ak y1.fst.gen 1)) v.fst v.snd) LF (0,bG.mk y43.fst y43.snd)) fun y44 => cnd (aC (ieq y44.e 0)) (some (y44.d,0,y44.e)) (some (y44.d,wr .i64 (ak y1.fst.gen 1),0))) (af (bF (fun v => aO (len y42.fst.files) y42.fst.files (wr .i64 (ak y1.fst.gen 1)) v.fst v.snd) LF (0,bG.mk y42.fst y42.snd)) fun y45 => cnd (aC (ieq y45.e 0)) (some (y45.d,0,y45.e)) (some (y45.d,wr .i64 (ak y1.fst.gen 1),0)))) (cnd (ieq y40.snd 0) (af (gu y40.fst (dD.mk (wr .i64 (ak y1.fst.gen 1)) x1.lsn)) fun y46 => af (bF (fun v => aO (len y46.fst.files) y46.fst.files (wr .i64 (ak y1.fst.gen 1)) v.fst v.snd) LF (0,bG.mk y46.fst y46.snd)) fun y47 => cnd (aC (ieq y47.e 0)) (some (y47.d,0,y47.e)) (some (y47.d,wr .i64 (ak y1.fst.gen 1),0))) (af (bF (fun v => aO (len y40.fst.files) y40.fst.files (wr .i64 (ak y1.fst.gen 1)) v.fst v.snd) LF (0,bG.mk y40.fst y40.snd)) fun y48 => cnd (aC (ieq y48.e 0)) (some (y48.d,0,y48.e)) (some (y48.d,wr .i64 (ak y1.fst.gen 1),0))))) (cnd (ieq y39.snd 0) (af (dS (wr .i64 (ak y1.fst.gen 1))) fun y49 => af (jJ y39.fst [(UInt8.ofNat 116),(UInt8.ofNat 109),(UInt8.ofNat 112)] y49) fun y50 => cnd (ieq y50.snd 0) (af (gu y50.fst (dD.mk (wr .i64 (ak y1.fst.gen 1)) x1.lsn)) fun y51 => af (bF (fun v => aO (len y51.fst.files) y51.fst.files (wr .i64 (ak y1.fst.gen 1)) v.fst v.snd) LF (0,bG.mk y51.fst y51.snd)) fun y52 => cnd (aC (ieq y52.e 0)) (some (y52.d,0,y52.e)) (some (y52.d,wr .i64 (ak y1.fst.gen 1),0))) (af (bF (fun v => aO (len y50.fst.files) y50.fst.files (wr .i64 (ak y1.fst.gen 1)) v.fst v.snd) LF (0,bG.mk y50.fst y50.snd)) fun y53 => cnd (aC (ieq y53.e 0)) (some (y53.d,0,y53.e)) (some (y53.d,wr .i64 (ak y1.fst.gen 1),0)))) (cnd (ieq y39.snd 0) (af (gu y39.fst (dD.mk (wr .i64 (ak y1.fst.gen 1)) x1.lsn)) fun y54 => af (bF (fun v => aO (len y54.fst.files) y54.fst.files (wr .i64 (ak y1.fst.gen 1)) v.fst v.snd) LF (0,bG.mk y54.fst y54.snd)) fun y55 => cnd (aC (ieq y55.e 0)) (some (y55.d,0,y55.e)) (some (y55.d,wr .i64 (ak y1.fst.gen 1),0))) (af (bF (fun v => aO (len y39.fst.files) y39.fst.files (wr .i64 (ak y1.fst.gen 1)) v.fst v.snd) LF (0,bG.mk y39.fst y39.snd)) fun y56 => cnd (aC (ieq y56.e 0)) (some (y56.d,0,y56.e)) (some (y56.d,wr .i64 (ak y1.fst.gen 1),0))))))))))
noncomputable def Ls:Cx:={ P:=PG,ety:=ety,fn:=look [(24,Ei),(25,pY),(21,lK),(75,Ci),(29,su),(31,wS),(17,oL),(33,Df),(35,Ew),(36,xW)],inl:=eU [4095,26,74,27,28,30,32,34],lp:=aY [(10,65530,EG)] }
theorem MH (p0:Int) (p1:(List ax)) (p2:Int) (v0:Int) (v1:bG):jW Ls 900 10 65530 (gJ PG 10 65530) Gu Gi (p0,p1,p2) (v0,v1)=aO p0 p1 p2 v0 v1:=by kernel_rfl
theorem WV (x0:ai) (x1:aj):bP Ls 10 [.val .disk,.val .state] [.val .disk,.int .i64,.int .i64] (x0,x1)=lI x0 x1:=by kernel_rfl
def uK:aV:=mkSpec [.val .disk,.val .state] [.val .disk,.int .i64,.int .i64] false (fun x=>lI x.1 x.2)
theorem P5:dJ PG 10 uK:=
 have K:CxR Ls:=aX.cx (fun _=>rfl) (l:=[(24,Ei),(25,pY),(21,lK),(75,Ci),(29,su),(31,wS),(17,oL),(33,Df),(35,Ew),(36,xW)]) ⟨aah,KO,EU,Zr,Oq,RX,Dk,XO,ZP,RN,trivial⟩
 aJ K (aI (l:=[(10,65530,EG)]) rfl ⟨dN (n:=900) (f:=10) K (by kernel_rfl) (by kernel_rfl) (by kernel_rfl) (by kernel_rfl) (by kernel_rfl) (fun p v r h=>(MH p.1 p.2.1 p.2.2 v.1 v.2).trans h),trivial⟩) (by kernel_rfl) (fun x y h=>(WV x.1 x.2).trans h) rfl rfl
end
end Go.Av
