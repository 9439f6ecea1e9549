/- The functions that this claim reaches, each as a plain function; each is what its text comes to. No condition. -/
import Derived.Test.YtkndbmahpiebkaaGreatDoorAvE
import Derived.Test.YtkndbmahpiebkaaGreatDoorProg
import Derived.KernelRfl
import Derived.Shelf.Small.Wraps
import Derived.Shelf.Strconv.ParseIntPublic10
import Derived.WalkKit
set_option linter.unusedVariables false
set_option linter.unusedSimpArgs false
set_option linter.unnecessarySimpa false
namespace Go.Av
open Go
def amc:List (Nat×E):=[(2,.i64),(3,.i64),(4,.bool),(5,.u8),(6,.u8),(9,.str),(10,.str),(11,.str),(24,.disk),(30,.state),(34,.i64),(51,.bts),(53,.file),(61,.expo),(64,.recd),(68,.slot),(73,.keeper),(95,.order),(97,.cell),(101,.state),(132,.a20),(159,.reader),(198,.note),(251,.i64),(270,.a3),(292,.u8),(293,.u8)]
def ety (t:Nat):Option E:=look amc t
noncomputable abbrev PG:Program:=Go.Proofs.Tryz.prog
end Go.Av
namespace Go.Av
open Go
noncomputable section
theorem amo:EOk PG 2 .i64:=lU (by kernel_rfl) (by kernel_rfl)
theorem amH:EOk PG 3 .i64:=lU (by kernel_rfl) (by kernel_rfl)
theorem ami:EOk PG 4 .bool:=lU (by kernel_rfl) (by kernel_rfl)
theorem alV:EOk PG 5 .u8:=lU (by kernel_rfl) (by kernel_rfl)
theorem al8:EOk PG 6 .u8:=lU (by kernel_rfl) (by kernel_rfl)
theorem amG:EOk PG 9 .str:=lU (by kernel_rfl) (by kernel_rfl)
theorem ak1:EOk PG 10 .str:=lU (by kernel_rfl) (by kernel_rfl)
theorem alx:EOk PG 11 .str:=lU (by kernel_rfl) (by kernel_rfl)
theorem ala:EOk PG 24 .disk:=lU (by kernel_rfl) (by kernel_rfl)
theorem alj:EOk PG 30 .state:=lU (by kernel_rfl) (by kernel_rfl)
theorem alN:EOk PG 34 .i64:=lU (by kernel_rfl) (by kernel_rfl)
theorem ak4:EOk PG 51 .bts:=lU (by kernel_rfl) (by kernel_rfl)
theorem alr:EOk PG 53 .file:=lU (by kernel_rfl) (by kernel_rfl)
theorem alQ:EOk PG 61 .expo:=lU (by kernel_rfl) (by kernel_rfl)
theorem akV:EOk PG 64 .recd:=lU (by kernel_rfl) (by kernel_rfl)
theorem alJ:EOk PG 68 .slot:=lU (by kernel_rfl) (by kernel_rfl)
theorem alb:EOk PG 73 .keeper:=lU (by kernel_rfl) (by kernel_rfl)
theorem ak2:EOk PG 95 .order:=lU (by kernel_rfl) (by kernel_rfl)
theorem akM:EOk PG 97 .cell:=lU (by kernel_rfl) (by kernel_rfl)
theorem akb:EOk PG 101 .state:=lU (by kernel_rfl) (by kernel_rfl)
theorem ajQ:EOk PG 132 .a20:=lU (by kernel_rfl) (by kernel_rfl)
theorem akg:EOk PG 159 .reader:=lU (by kernel_rfl) (by kernel_rfl)
theorem ajr:EOk PG 198 .note:=lU (by kernel_rfl) (by kernel_rfl)
theorem ajT:EOk PG 251 .i64:=lU (by kernel_rfl) (by kernel_rfl)
theorem akc:EOk PG 270 .a3:=lU (by kernel_rfl) (by kernel_rfl)
theorem aj3:EOk PG 292 .u8:=lU (by kernel_rfl) (by kernel_rfl)
theorem ajR:EOk PG 293 .u8:=lU (by kernel_rfl) (by kernel_rfl)
theorem aV:F5 PG amc:=⟨by kernel_rfl,⟨amo,amH,ami,alV,al8,amG,ak1,alx,ala,alj,alN,ak4,alr,alQ,akV,alJ,alb,ak2,akM,akb,ajQ,akg,ajr,ajT,akc,aj3,ajR,trivial⟩,by kernel_rfl,by kernel_rfl,by kernel_rfl⟩
end
end Go.Av
namespace Go.Av
open Go
noncomputable section
def H8 (x0:Int) (x1:Int):Option (Int×Int):=some (wr .u32 (bU .u64 (wr .u64 (ji (wr .u64 x0) (wr .u64 x1))) 32),wr .u32 (wr .u64 (ji (wr .u64 x0) (wr .u64 x1))))
noncomputable def GL:Cx:={ P:=PG,ety:=ety,fn:=look [],inl:=dP [],lp:=aY [] }
theorem NT (x0:Int) (x1:Int):bK GL 175 [.int .u32,.int .u32] [.int .u32,.int .u32] (x0,x1)=H8 x0 x1:=by kernel_rfl
def vP:aT:=mkSpec [.int .u32,.int .u32] [.int .u32,.int .u32] true (fun x=>H8 x.1 x.2)
theorem Qe:dh PG 175 vP:=
 have K:CxR GL:=aV.cx (fun _=>rfl) (l:=[]) trivial
 aI K (aH (l:=[]) rfl trivial) (by kernel_rfl) (fun x y h=>(NT x.1 x.2).trans h) rfl rfl
def nJ (x0:Int) (x1:Int):Option (Int×Int):=some (wr .u64 (aj (wr .u64 (aj (wr .u64 (ji (bU .u64 x0 32) (bU .u64 x1 32))) (bU .u64 (wr .u64 (aj (wr .u64 (ji (bU .u64 x0 32) (wr .u64 (ng .u64 x1 4294967295)))) (bU .u64 (wr .u64 (ji (wr .u64 (ng .u64 x0 4294967295)) (wr .u64 (ng .u64 x1 4294967295)))) 32))) 32))) (bU .u64 (wr .u64 (aj (wr .u64 (ng .u64 (wr .u64 (aj (wr .u64 (ji (bU .u64 x0 32) (wr .u64 (ng .u64 x1 4294967295)))) (bU .u64 (wr .u64 (ji (wr .u64 (ng .u64 x0 4294967295)) (wr .u64 (ng .u64 x1 4294967295)))) 32))) 4294967295)) (wr .u64 (ji (wr .u64 (ng .u64 x0 4294967295)) (bU .u64 x1 32))))) 32)),wr .u64 (ji x0 x1))
noncomputable def H6:Cx:={ P:=PG,ety:=ety,fn:=look [],inl:=dP [],lp:=aY [] }
theorem N7 (x0:Int) (x1:Int):bK H6 176 [.int .u64,.int .u64] [.int .u64,.int .u64] (x0,x1)=nJ x0 x1:=by kernel_rfl
def mX:aT:=mkSpec [.int .u64,.int .u64] [.int .u64,.int .u64] true (fun x=>nJ x.1 x.2)
theorem Fv:dh PG 176 mX:=
 have K:CxR H6:=aV.cx (fun _=>rfl) (l:=[]) trivial
 aI K (aH (l:=[]) rfl trivial) (by kernel_rfl) (fun x y h=>(N7 x.1 x.2).trans h) rfl rfl
def yB (x0:Int) (x1:Int):Option (Int×Int):=af (nJ x0 x1) fun y0 => some y0
noncomputable def KR:Cx:={ P:=PG,ety:=ety,fn:=look [(175,vP),(176,mX)],inl:=dP [],lp:=aY [] }
theorem PZ (x0:Int) (x1:Int):bK KR 114 [.int .u64,.int .u64] [.int .u64,.int .u64] (x0,x1)=yB x0 x1:=by kernel_rfl
def o7:aT:=mkSpec [.int .u64,.int .u64] [.int .u64,.int .u64] true (fun x=>yB x.1 x.2)
theorem Jy:dh PG 114 o7:=
 have K:CxR KR:=aV.cx (fun _=>rfl) (l:=[(175,vP),(176,mX)]) ⟨Qe,Fv,trivial⟩
 aI K (aH (l:=[]) rfl trivial) (by kernel_rfl) (fun x y h=>(PZ x.1 x.2).trans h) rfl rfl
def tZ:LSh:=⟨94,[],[(7,.mf 192)],[],[(8,.int .i64)],[],[(192,.expo)]⟩
@[reducible] def um:List gQ:=[⟨.exit 0,[],[],[(192,.expo)]⟩]
def nR (v0:Int) (v1:(List dL)):Option ((Int×(List dL)) ⊕ (((List dL)))):=cnd (ilt v0 (len v1)) (cnd (band (ile 0 v0) (ile v0 (len v1))) (cnd (band (ile 0 v0) (ile v0 (len v1))) (some (Sum.inl (wr .i64 (aj v0 (jY (len (ax (aG v1 0) (itn v0))) (nti (itn (aC (len v1) v0))))),dJ v1 (itn v0) (ax (ax (aG v1 0) (itn v0)) (itn (jY (len (ax (aG v1 0) (itn v0))) (nti (itn (aC (len v1) v0))))))))) none) none) (some (Sum.inr v1))
def su:fM:=tZ.spec um [34,35,36,37,38,39,40,41,42,43,44,45,46,8] (fun p v=>nR v.1 v.2)
def qJ (x0:(List dL)) (x1:Int):Option ((List dL)):=cnd (ilt x1 0) none (af (yB (wr .u64 (len x0)) (wr .u64 x1)) fun y0 => cnd (bor (ilt 0 y0.fst) (ilt 9223372036854775807 y0.snd)) none (cnd (band (band (ile 0 (wr .i64 y0.snd)) (ile (wr .i64 y0.snd) (wr .i64 y0.snd))) (ile (wr .i64 y0.snd) 68719476736)) (af (bG (fun v => nR v.fst v.snd) LF (jY (len x0) (len (jC dL (itn (wr .i64 y0.snd)))),dJ (jC dL (itn (wr .i64 y0.snd))) 0 (ax x0 (itn (jY (len x0) (len (jC dL (itn (wr .i64 y0.snd))))))))) fun y1 => some y1) none))
noncomputable def qG:Cx:={ P:=PG,ety:=ety,fn:=look [(114,o7)],inl:=dP [],lp:=aY [(57,508,su)] }
theorem AY (v0:Int) (v1:(List dL)):jk qG 900 57 508 (eF PG 57 508) tZ um () (v0,v1)=nR v0 v1:=by kernel_rfl
theorem Et (x0:(List dL)) (x1:Int):bK qG 57 [.ro .expo,.int .i64] [.buf .expo] (x0,x1)=qJ x0 x1:=by kernel_rfl
def ou:aT:=mkSpec [.ro .expo,.int .i64] [.buf .expo] true (fun x=>qJ x.1 x.2)
theorem Gv:dh PG 57 ou:=
 have K:CxR qG:=aV.cx (fun _=>rfl) (l:=[(114,o7)]) ⟨Jy,trivial⟩
 aI K (aH (l:=[(57,508,su)]) rfl ⟨cu (n:=900) (f:=57) K (by kernel_rfl) (by kernel_rfl) (by kernel_rfl) (by kernel_rfl) (by kernel_rfl) (fun p v r h=>(AY v.1 v.2).trans h),trivial⟩) (by kernel_rfl) (fun x y h=>(Et x.1 x.2).trans h) rfl rfl
def wX:LSh:=⟨94,[],[(7,.mf 192)],[],[(8,.int .i64)],[],[(192,.i64)]⟩
@[reducible] def wR:List gQ:=[⟨.exit 0,[],[],[(192,.i64)]⟩]
def pV (v0:Int) (v1:(List Int)):Option ((Int×(List Int)) ⊕ (((List Int)))):=cnd (ilt v0 (len v1)) (cnd (band (ile 0 v0) (ile v0 (len v1))) (cnd (band (ile 0 v0) (ile v0 (len v1))) (some (Sum.inl (wr .i64 (aj v0 (jY (len (ax (aG v1 0) (itn v0))) (nti (itn (aC (len v1) v0))))),dJ v1 (itn v0) (ax (ax (aG v1 0) (itn v0)) (itn (jY (len (ax (aG v1 0) (itn v0))) (nti (itn (aC (len v1) v0))))))))) none) none) (some (Sum.inr v1))
def wB:fM:=wX.spec wR [34,35,36,37,38,39,40,41,42,43,44,45,46,8] (fun p v=>pV v.1 v.2)
def uO (x0:(List Int)) (x1:Int):Option ((List Int)):=cnd (ilt x1 0) none (af (yB (wr .u64 (len x0)) (wr .u64 x1)) fun y0 => cnd (bor (ilt 0 y0.fst) (ilt 9223372036854775807 y0.snd)) none (cnd (band (band (ile 0 (wr .i64 y0.snd)) (ile (wr .i64 y0.snd) (wr .i64 y0.snd))) (ile (wr .i64 y0.snd) 68719476736)) (af (bG (fun v => pV v.fst v.snd) LF (jY (len x0) (len (jC Int (itn (wr .i64 y0.snd)))),dJ (jC Int (itn (wr .i64 y0.snd))) 0 (ax x0 (itn (jY (len x0) (len (jC Int (itn (wr .i64 y0.snd))))))))) fun y1 => some y1) none))
noncomputable def uJ:Cx:={ P:=PG,ety:=ety,fn:=look [(114,o7)],inl:=dP [],lp:=aY [(58,508,wB)] }
theorem Dz (v0:Int) (v1:(List Int)):jk uJ 900 58 508 (eF PG 58 508) wX wR () (v0,v1)=pV v0 v1:=by kernel_rfl
theorem Ig (x0:(List Int)) (x1:Int):bK uJ 58 [.ro .i64,.int .i64] [.buf .i64] (x0,x1)=uO x0 x1:=by kernel_rfl
def qI:aT:=mkSpec [.ro .i64,.int .i64] [.buf .i64] true (fun x=>uO x.1 x.2)
theorem JY:dh PG 58 qI:=
 have K:CxR uJ:=aV.cx (fun _=>rfl) (l:=[(114,o7)]) ⟨Jy,trivial⟩
 aI K (aH (l:=[(58,508,wB)]) rfl ⟨cu (n:=900) (f:=58) K (by kernel_rfl) (by kernel_rfl) (by kernel_rfl) (by kernel_rfl) (by kernel_rfl) (fun p v r h=>(Dz v.1 v.2).trans h),trivial⟩) (by kernel_rfl) (fun x y h=>(Ig x.1 x.2).trans h) rfl rfl
def nS (x0:ay):Option (Bool):=some (band (band (band (band (band (band (band (ile 1 x0.accounts) (ile x0.accounts 8)) (ile 1 x0.symbols)) (ile x0.symbols 8)) (ieq (len x0.cells) (wr .i64 (ji x0.accounts x0.symbols)))) (ieq (len x0.limits) (len x0.cells))) (ieq (len x0.caps) x0.accounts)) (ile (len x0.orders) 64))
noncomputable def Ec:Cx:={ P:=PG,ety:=ety,fn:=look [],inl:=dP [],lp:=aY [] }
theorem J6 (x0:ay):bK Ec 120 [.val .state] [.bool] x0=nS x0:=by kernel_rfl
def sG:aT:=mkSpec [.val .state] [.bool] true (fun x=>nS x)
theorem Nc:dh PG 120 sG:=
 have K:CxR Ec:=aV.cx (fun _=>rfl) (l:=[]) trivial
 aI K (aH (l:=[]) rfl trivial) (by kernel_rfl) (fun x y h=>(J6 x).trans h) rfl rfl
def iM (x0:aK):Option (Bool):=some (bor (aB (ieq x0.newQty 0)) (aB (ieq x0.newPrice 0)))
noncomputable def Lh:Cx:={ P:=PG,ety:=ety,fn:=look [],inl:=dP [],lp:=aY [] }
theorem Qh (x0:aK):bK Lh 194 [.val .order] [.bool] x0=iM x0:=by kernel_rfl
def kJ:aT:=mkSpec [.val .order] [.bool] true (fun x=>iM x)
theorem BX:dh PG 194 kJ:=
 have K:CxR Lh:=aV.cx (fun _=>rfl) (l:=[]) trivial
 aI K (aH (l:=[]) rfl trivial) (by kernel_rfl) (fun x y h=>(Qh x).trans h) rfl rfl
def Es (x0:uK):Option (uK):=cnd (ieq x0.kind 1) (some (uK.mk x0.kind x0.order x0.account x0.symbol x0.side x0.qty x0.price 0 0 0 false 0 0)) (cnd (ieq x0.kind 2) (some (uK.mk x0.kind x0.order 0 0 0 x0.qty x0.price 0 0 0 false 0 0)) (cnd (ieq x0.kind 3) (some (uK.mk x0.kind x0.order 0 0 0 0 0 0 0 0 false 0 0)) (cnd (ieq x0.kind 4) (some (uK.mk x0.kind 0 x0.account x0.symbol 0 0 0 x0.long x0.short x0.opn false 0 0)) (cnd (ieq x0.kind 5) (some (uK.mk x0.kind 0 0 0 0 0 0 0 0 0 x0.on 0 0)) (cnd (ieq x0.kind 6) (some (uK.mk x0.kind x0.order 0 0 0 x0.qty x0.price 0 0 0 false x0.seq x0.what)) (some (uK.mk x0.kind 0 0 0 0 0 0 0 0 0 false 0 0)))))))
noncomputable def QH:Cx:={ P:=PG,ety:=ety,fn:=look [],inl:=dP [],lp:=aY [] }
theorem Vx (x0:uK):bK QH 127 [.val .recd] [.val .recd] x0=Es x0:=by kernel_rfl
def DL:aT:=mkSpec [.val .recd] [.val .recd] true (fun x=>Es x)
theorem Y0:dh PG 127 DL:=
 have K:CxR QH:=aV.cx (fun _=>rfl) (l:=[]) trivial
 aI K (aH (l:=[]) rfl trivial) (by kernel_rfl) (fun x y h=>(Vx x).trans h) rfl rfl
def lD (x0:Int):Option (Bool):=some (band (ile 1 x0) (ile x0 1000000000000))
noncomputable def UO:Cx:={ P:=PG,ety:=ety,fn:=look [],inl:=dP [],lp:=aY [] }
theorem XC (x0:Int):bK UO 128 [.int .i64] [.bool] x0=lD x0:=by kernel_rfl
def vY:aT:=mkSpec [.int .i64] [.bool] true (fun x=>lD x)
theorem Sz:dh PG 128 vY:=
 have K:CxR UO:=aV.cx (fun _=>rfl) (l:=[]) trivial
 aI K (aH (l:=[]) rfl trivial) (by kernel_rfl) (fun x y h=>(XC x).trans h) rfl rfl
def mQ (x0:Int) (x1:Int):Option (Bool):=some (band (ile 0 x0) (ilt x0 x1))
noncomputable def Vh:Cx:={ P:=PG,ety:=ety,fn:=look [],inl:=dP [],lp:=aY [] }
theorem Ye (x0:Int) (x1:Int):bK Vh 129 [.int .i64,.int .i64] [.bool] (x0,x1)=mQ x0 x1:=by kernel_rfl
def FD:aT:=mkSpec [.int .i64,.int .i64] [.bool] true (fun x=>mQ x.1 x.2)
theorem aa9:dh PG 129 FD:=
 have K:CxR Vh:=aV.cx (fun _=>rfl) (l:=[]) trivial
 aI K (aH (l:=[]) rfl trivial) (by kernel_rfl) (fun x y h=>(Ye x.1 x.2).trans h) rfl rfl
def mW (x0:uK):Option (Bool):=some (band (ile 1 x0.qty) (ile 1 x0.price))
noncomputable def U5:Cx:={ P:=PG,ety:=ety,fn:=look [],inl:=dP [],lp:=aY [] }
theorem Wv (x0:uK):bK U5 130 [.val .recd] [.bool] x0=mW x0:=by kernel_rfl
def wz:aT:=mkSpec [.val .recd] [.bool] true (fun x=>mW x)
theorem QT:dh PG 130 wz:=
 have K:CxR U5:=aV.cx (fun _=>rfl) (l:=[]) trivial
 aI K (aH (l:=[]) rfl trivial) (by kernel_rfl) (fun x y h=>(Wv x).trans h) rfl rfl
def Df (x0:uK):Option (Bool):=af (cnd (aB (bor (ilt x0.seq 1) (ilt 1000000000 x0.seq))) (lD x0.order) (some false)) fun y0 => cnd (bor (bor (ilt x0.seq 1) (ilt 1000000000 x0.seq)) (aB y0)) (some false) (cnd (ieq x0.what 3) (some (band (ile 1 x0.qty) (ieq x0.price 0))) (cnd (ieq x0.what 5) (af (mW x0) fun y1 => some y1) (cnd (ieq x0.what 1) (cnd (ieq x0.what 1) (some (band (ieq x0.qty 0) (ieq x0.price 0))) (some false)) (cnd (ieq x0.what 2) (cnd (ieq x0.what 2) (some (band (ieq x0.qty 0) (ieq x0.price 0))) (some false)) (cnd (ieq x0.what 4) (cnd (ieq x0.what 4) (some (band (ieq x0.qty 0) (ieq x0.price 0))) (some false)) (cnd (ieq x0.what 6) (some (band (ieq x0.qty 0) (ieq x0.price 0))) (some false)))))))
noncomputable def U6:Cx:={ P:=PG,ety:=ety,fn:=look [(128,vY),(130,wz)],inl:=dP [],lp:=aY [] }
theorem Ya (x0:uK):bK U6 131 [.val .recd] [.bool] x0=Df x0:=by kernel_rfl
def Gu:aT:=mkSpec [.val .recd] [.bool] true (fun x=>Df x)
theorem aa2:dh PG 131 Gu:=
 have K:CxR U6:=aV.cx (fun _=>rfl) (l:=[(128,vY),(130,wz)]) ⟨Sz,QT,trivial⟩
 aI K (aH (l:=[]) rfl trivial) (by kernel_rfl) (fun x y h=>(Ya x).trans h) rfl rfl
def qh (x0:uK):Option (Bool):=af (Es x0) fun y0 => cnd (aB (band (ieq x0.kind y0.kind) (band (ieq x0.order y0.order) (band (ieq x0.account y0.account) (band (ieq x0.symbol y0.symbol) (band (ieq x0.side y0.side) (band (ieq x0.qty y0.qty) (band (ieq x0.price y0.price) (band (ieq x0.long y0.long) (band (ieq x0.short y0.short) (band (ieq x0.opn y0.opn) (band (beq x0.on y0.on) (band (ieq x0.seq y0.seq) (ieq x0.what y0.what)))))))))))))) (some false) (cnd (ieq x0.kind 1) (af (lD x0.order) fun y1 => af (cnd y1 (mQ x0.account 8) (some false)) fun y2 => af (cnd (band y1 y2) (mQ x0.symbol 8) (some false)) fun y3 => af (cnd (band (band (band y1 y2) y3) (bor (ieq x0.side 1) (ieq x0.side 2))) (mW x0) (some false)) fun y4 => some (band (band (band (band y1 y2) y3) (bor (ieq x0.side 1) (ieq x0.side 2))) y4)) (cnd (ieq x0.kind 2) (af (lD x0.order) fun y5 => af (cnd y5 (mW x0) (some false)) fun y6 => some (band y5 y6)) (cnd (ieq x0.kind 3) (af (lD x0.order) fun y7 => some y7) (cnd (ieq x0.kind 4) (af (mQ x0.account 8) fun y8 => af (cnd (band y8 (aB (band (band (ieq x0.symbol (-1)) (ieq x0.long 0)) (ieq x0.short 0)))) (mQ x0.symbol 8) (some false)) fun y9 => some (band (band y8 (bor (band (band (ieq x0.symbol (-1)) (ieq x0.long 0)) (ieq x0.short 0)) y9)) (ile 0 (jY (jY x0.long x0.short) x0.opn)))) (cnd (ieq x0.kind 5) (some true) (cnd (ieq x0.kind 6) (af (Df x0) fun y10 => some y10) (some false)))))))
noncomputable def UJ:Cx:={ P:=PG,ety:=ety,fn:=look [(127,DL),(128,vY),(129,FD),(130,wz),(131,Gu)],inl:=dP [],lp:=aY [] }
theorem Xd (x0:uK):bK UJ 60 [.val .recd] [.bool] x0=qh x0:=by kernel_rfl
def lu:aT:=mkSpec [.val .recd] [.bool] true (fun x=>qh x)
theorem Eu:dh PG 60 lu:=
 have K:CxR UJ:=aV.cx (fun _=>rfl) (l:=[(127,DL),(128,vY),(129,FD),(130,wz),(131,Gu)]) ⟨Y0,Sz,aa9,QT,aa2,trivial⟩
 aI K (aH (l:=[]) rfl trivial) (by kernel_rfl) (fun x y h=>(Xd x).trans h) rfl rfl
def xu (x0:aK):Option (Bool):=af (qh (uK.mk 1 x0.id x0.account x0.symbol x0.side x0.qty x0.price 0 0 0 false 0 0)) fun y0 => some y0
noncomputable def O7:Cx:={ P:=PG,ety:=ety,fn:=look [(60,lu)],inl:=dP [],lp:=aY [] }
theorem Uh (x0:aK):bK O7 218 [.val .order] [.bool] x0=xu x0:=by kernel_rfl
def Bl:aT:=mkSpec [.val .order] [.bool] true (fun x=>xu x)
theorem YH:dh PG 218 Bl:=
 have K:CxR O7:=aV.cx (fun _=>rfl) (l:=[(60,lu)]) ⟨Eu,trivial⟩
 aI K (aH (l:=[]) rfl trivial) (by kernel_rfl) (fun x y h=>(Uh x).trans h) rfl rfl
def iQ (x0:aK):Option (Bool):=af (iM x0) fun y0 => af (xu x0) fun y1 => cnd (bor (bor (bor (bor (aB y1) (ilt x0.filled 0)) (ilt x0.qty x0.filled)) (ilt x0.version 0)) (band y0 (ilt (jY x0.newQty x0.newPrice) 1))) (some false) (cnd (ieq x0.phase 1) (some (band (band (ieq x0.filled 0) (ieq x0.version 0)) (aB y0))) (cnd (ieq x0.phase 2) (some (ilt x0.filled x0.qty)) (cnd (ieq x0.phase 3) (some (aB y0)) (some false))))
noncomputable def Px:Cx:={ P:=PG,ety:=ety,fn:=look [(194,kJ),(218,Bl)],inl:=dP [],lp:=aY [] }
theorem TQ (x0:aK):bK Px 180 [.val .order] [.bool] x0=iQ x0:=by kernel_rfl
def dm:aT:=mkSpec [.val .order] [.bool] true (fun x=>iQ x)
theorem nC:dh PG 180 dm:=
 have K:CxR Px:=aV.cx (fun _=>rfl) (l:=[(194,kJ),(218,Bl)]) ⟨BX,YH,trivial⟩
 aI K (aH (l:=[]) rfl trivial) (by kernel_rfl) (fun x y h=>(TQ x).trans h) rfl rfl
def xM (x0:dL):Option (Bool):=some (ile 0 (jY (jY x0.long x0.short) x0.opn))
noncomputable def PN:Cx:={ P:=PG,ety:=ety,fn:=look [],inl:=dP [],lp:=aY [] }
theorem Ti (x0:dL):bK PN 182 [.val .expo] [.bool] x0=xM x0:=by kernel_rfl
def BU:aT:=mkSpec [.val .expo] [.bool] true (fun x=>xM x)
theorem Xq:dh PG 182 BU:=
 have K:CxR PN:=aV.cx (fun _=>rfl) (l:=[]) trivial
 aI K (aH (l:=[]) rfl trivial) (by kernel_rfl) (fun x y h=>(Ti x).trans h) rfl rfl
def Ap:LSh:=⟨74,[(0,.ro .i64)],[],[],[(4,.int .i64),(3,.int .i64)],[],[]⟩
@[reducible] def Aj:List gQ:=[⟨.exit 0,[(3,.int .i64)],[],[]⟩]
def jO (p0:(List Int)) (v0:Int) (v1:Int):Option ((Int×Int) ⊕ ((Int))):=cnd (ilt v0 (len p0)) (cnd (band (ile 0 v0) (ilt v0 (len p0))) (some (Sum.inl (wr .i64 (aj v0 1),jY v1 (ah p0 (itn v0))))) none) (some (Sum.inr v1))
def zG:fM:=Ap.spec Aj [12,13,14,15,18,19,20,21,22,23,3,16,17,4] (fun p v=>jO p v.1 v.2)
def kK (x0:(List Int)):Option (Int):=cnd (ilt (len x0) 1) none (cnd (ilt 0 (len x0)) (af (bG (fun v => jO x0 v.fst v.snd) LF (1,ah x0 0)) fun y0 => some y0) none)
noncomputable def yP:Cx:={ P:=PG,ety:=ety,fn:=look [],inl:=dP [],lp:=aY [(184,122,zG)] }
theorem GI (p0:(List Int)) (v0:Int) (v1:Int):jk yP 900 184 122 (eF PG 184 122) Ap Aj p0 (v0,v1)=jO p0 v0 v1:=by kernel_rfl
theorem LG (x0:(List Int)):bK yP 184 [.ro .i64] [.int .i64] x0=kK x0:=by kernel_rfl
def uI:aT:=mkSpec [.ro .i64] [.int .i64] true (fun x=>kK x)
theorem OZ:dh PG 184 uI:=
 have K:CxR yP:=aV.cx (fun _=>rfl) (l:=[]) trivial
 aI K (aH (l:=[(184,122,zG)]) rfl ⟨cu (n:=900) (f:=184) K (by kernel_rfl) (by kernel_rfl) (by kernel_rfl) (by kernel_rfl) (by kernel_rfl) (fun p v r h=>(GI p v.1 v.2).trans h),trivial⟩) (by kernel_rfl) (fun x y h=>(LG x).trans h) rfl rfl
def A8:LSh:=⟨73,[(10,.int .i64),(9,.ro .order)],[(1,.mp 8 0)],[(8,[.val .state])],[(11,.int .i64),(3,.int .i64),(2,.bool)],[],[]⟩
@[reducible] def Bd:List gQ:=[⟨.ret,[(2,.bool)],[],[]⟩,⟨.exit 0,[(3,.int .i64),(2,.bool)],[],[]⟩]
def jZ (p0:Int) (p1:(List aK)) (p2:ay) (v0:Int) (v1:Int) (v2:Bool):Option ((Int×Int×Bool) ⊕ ((Bool) ⊕ ((Int×Bool)))):=cnd (ilt v0 p0) (cnd (band (ile 0 v0) (ilt v0 (len p1))) (af (iQ (ah p1 (itn v0))) fun y0 => cnd (bor (bor (bor (bor (aB y0) (ieq (ah p1 (itn v0)).phase 3)) (ile p2.accounts (ah p1 (itn v0)).account)) (ile p2.symbols (ah p1 (itn v0)).symbol)) (ile (ah p1 (itn v0)).id v1)) (some (Sum.inr (Sum.inl false))) (some (Sum.inl (wr .i64 (aj v0 1),(ah p1 (itn v0)).id,v2)))) none) (some (Sum.inr (Sum.inr (v1,v2))))
def AB:fM:=A8.spec Bd [12,13,14,5,15,16,17,18,19,20,21,22,23,24,25,26,27,28,29,30,31,32,33,34,35,36,37,38,39,40,41,42,43,44,2,45,46,3,47,11] (fun p v=>jZ p.1 p.2.1 p.2.2 v.1 v.2.1 v.2.2)
def iE:LSh:=⟨210,[(7,.int .i64),(0,.ro .expo)],[(1,.fn 181 [])],[],[(8,.int .i64),(4,.int .i64)],[],[]⟩
@[reducible] def iC:List gQ:=[⟨.ret,[(4,.int .i64)],[],[]⟩,⟨.exit 0,[(4,.int .i64)],[],[]⟩]
def bC (p0:Int) (p1:(List dL)) (v0:Int) (v1:Int):Option ((Int×Int) ⊕ ((Int) ⊕ ((Int)))):=cnd (ilt v0 p0) (cnd (band (ile 0 v0) (ilt v0 (len p1))) (af (xM (ah p1 (itn v0))) fun y0 => cnd (aB y0) (some (Sum.inr (Sum.inl v0))) (some (Sum.inl (wr .i64 (aj v0 1),v1)))) none) (some (Sum.inr (Sum.inr v1)))
def ig:fM:=iE.spec iC [9,10,5,11,12,13,14,15,16,17,4,18,8] (fun p v=>bC p.1 p.2 v.1 v.2)
def o8 (x0:ay):Option (Bool):=af (bG (fun v => jZ (len x0.orders) x0.orders x0 v.fst v.snd.fst v.snd.snd) LF (0,0,false)) fun y0 => qO y0 (fun y1 => some y1) fun y1 => cnd (band (band (band (band (band (ile y1.fst x0.last) (ile x0.last 1000000000000)) (ile 0 x0.seq)) (ile x0.seq 1000000000)) (ile 0 x0.lsn)) (ile x0.lsn 1000000000)) (af (bG (fun v => bC (len x0.limits) x0.limits v.fst v.snd) LF (0,0)) fun y2 => qO y2 (fun y3 => af (cnd (band (band (band (band (band (band (ile y1.fst x0.last) (ile x0.last 1000000000000)) (ile 0 x0.seq)) (ile x0.seq 1000000000)) (ile 0 x0.lsn)) (ile x0.lsn 1000000000)) (aB (ile 0 y3))) (kK x0.caps) (some 0)) fun y4 => some (band (band (band (band (band (band (band (band (ile y1.fst x0.last) (ile x0.last 1000000000000)) (ile 0 x0.seq)) (ile x0.seq 1000000000)) (ile 0 x0.lsn)) (ile x0.lsn 1000000000)) (aB (ile 0 y3))) (ile 0 y4)) (ile 0 x0.last))) fun y3 => af (cnd (bor (band (band (band (band (band (ile y1.fst x0.last) (ile x0.last 1000000000000)) (ile 0 x0.seq)) (ile x0.seq 1000000000)) (ile 0 x0.lsn)) (ile x0.lsn 1000000000)) false) (kK x0.caps) (some 0)) fun y5 => some (band (band (bor (band (band (band (band (band (ile y1.fst x0.last) (ile x0.last 1000000000000)) (ile 0 x0.seq)) (ile x0.seq 1000000000)) (ile 0 x0.lsn)) (ile x0.lsn 1000000000)) false) (ile 0 y5)) (ile 0 x0.last))) (af (cnd (bor (band (band (band (band (band (ile y1.fst x0.last) (ile x0.last 1000000000000)) (ile 0 x0.seq)) (ile x0.seq 1000000000)) (ile 0 x0.lsn)) (ile x0.lsn 1000000000)) false) (kK x0.caps) (some 0)) fun y6 => some (band (band (bor (band (band (band (band (band (ile y1.fst x0.last) (ile x0.last 1000000000000)) (ile 0 x0.seq)) (ile x0.seq 1000000000)) (ile 0 x0.lsn)) (ile x0.lsn 1000000000)) false) (ile 0 y6)) (ile 0 x0.last)))
noncomputable def sU:Cx:={ P:=PG,ety:=ety,fn:=look [(180,dm),(182,BU),(184,uI)],inl:=dP [181,183,219],lp:=aY [(121,58,AB),(2232058426242137383131,26,ig)] }
theorem Iu (p0:Int) (p1:(List aK)) (p2:ay) (v0:Int) (v1:Int) (v2:Bool):jk sU 900 121 58 (eF PG 121 58) A8 Bd (p0,p1,p2) (v0,v1,v2)=jZ p0 p1 p2 v0 v1 v2:=by kernel_rfl
theorem lH (p0:Int) (p1:(List dL)) (v0:Int) (v1:Int):jk sU 900 2232058426242137383131 26 (eF PG 219 26) iE iC (p0,p1) (v0,v1)=bC p0 p1 v0 v1:=by kernel_rfl
theorem LY (x0:ay):bK sU 121 [.val .state] [.bool] x0=o8 x0:=by kernel_rfl
def uS:aT:=mkSpec [.val .state] [.bool] true (fun x=>o8 x)
theorem OL:dh PG 121 uS:=
 have K:CxR sU:=aV.cx (fun _=>rfl) (l:=[(180,dm),(182,BU),(184,uI)]) ⟨nC,Xq,OZ,trivial⟩
 aI K (aH (l:=[(121,58,AB),(2232058426242137383131,26,ig)]) rfl ⟨cu (n:=900) (f:=121) K (by kernel_rfl) (by kernel_rfl) (by kernel_rfl) (by kernel_rfl) (by kernel_rfl) (fun p v r h=>(Iu p.1 p.2.1 p.2.2 v.1 v.2.1 v.2.2).trans h),
  cu (n:=900) (f:=219) K (by kernel_rfl) (by kernel_rfl) (by kernel_rfl) (by kernel_rfl) (by kernel_rfl) (fun p v r h=>(lH p.1 p.2 v.1 v.2).trans h),trivial⟩) (by kernel_rfl) (fun x y h=>(LY x).trans h) rfl rfl
def bn (x0:ay) (x1:Int) (x2:Int):Option (Int):=some (wr .i64 (aj (wr .i64 (ji x1 x0.symbols)) x2))
noncomputable def Dh:Cx:={ P:=PG,ety:=ety,fn:=look [],inl:=dP [],lp:=aY [] }
theorem Je (x0:ay) (x1:Int) (x2:Int):bK Dh 137 [.val .state,.int .i64,.int .i64] [.int .i64] (x0,x1,x2)=bn x0 x1 x2:=by kernel_rfl
def dX:aT:=mkSpec [.val .state,.int .i64,.int .i64] [.int .i64] true (fun x=>bn x.1 x.2.1 x.2.2)
theorem pI:dh PG 137 dX:=
 have K:CxR Dh:=aV.cx (fun _=>rfl) (l:=[]) trivial
 aI K (aH (l:=[]) rfl trivial) (by kernel_rfl) (fun x y h=>(Je x.1 x.2.1 x.2.2).trans h) rfl rfl
def nK (x0:Int) (x1:Int):Option (Int×Int):=cnd (band (aB (beq (ilt x0 (wr .i64 (aj x0 x1))) (ilt 0 x1))) (aB (ieq x1 0))) (some (0,3)) (some (wr .i64 (aj x0 x1),0))
noncomputable def aan:Cx:={ P:=PG,ety:=ety,fn:=look [],inl:=dP [],lp:=aY [] }
theorem abd (x0:Int) (x1:Int):bK aan 59 [.int .i64,.int .i64] [.int .i64,.int .i64] (x0,x1)=nK x0 x1:=by kernel_rfl
def jM:aT:=mkSpec [.int .i64,.int .i64] [.int .i64,.int .i64] true (fun x=>nK x.1 x.2)
theorem Ci:dh PG 59 jM:=
 have K:CxR aan:=aV.cx (fun _=>rfl) (l:=[]) trivial
 aI K (aH (l:=[]) rfl trivial) (by kernel_rfl) (fun x y h=>(abd x.1 x.2).trans h) rfl rfl
def uG (x0:Int) (x1:Int):Option (Int×Int):=cnd (band (aB (beq (ilt (wr .i64 (aC x0 x1)) x0) (ilt 0 x1))) (aB (ieq x1 0))) (some (0,3)) (some (wr .i64 (aC x0 x1),0))
noncomputable def aau:Cx:={ P:=PG,ety:=ety,fn:=look [],inl:=dP [],lp:=aY [] }
theorem aa7 (x0:Int) (x1:Int):bK aau 195 [.int .i64,.int .i64] [.int .i64,.int .i64] (x0,x1)=uG x0 x1:=by kernel_rfl
def sO:aT:=mkSpec [.int .i64,.int .i64] [.int .i64,.int .i64] true (fun x=>uG x.1 x.2)
theorem Qd:dh PG 195 sO:=
 have K:CxR aau:=aV.cx (fun _=>rfl) (l:=[]) trivial
 aI K (aH (l:=[]) rfl trivial) (by kernel_rfl) (fun x y h=>(aa7 x.1 x.2).trans h) rfl rfl
def yS (x0:aW):Option (dL×Bool):=af (nK x0.pos x0.buy) fun y0 => af (uG x0.sell x0.pos) fun y1 => some (dL.mk y0.fst y1.fst x0.opn,band (ieq y0.snd 0) (ieq y1.snd 0))
noncomputable def Ve:Cx:={ P:=PG,ety:=ety,fn:=look [(59,jM),(195,sO)],inl:=dP [],lp:=aY [] }
theorem YP (x0:aW):bK Ve 185 [.val .cell] [.val .expo,.bool] x0=yS x0:=by kernel_rfl
def vN:aT:=mkSpec [.val .cell] [.val .expo,.bool] true (fun x=>yS x)
theorem Sl:dh PG 185 vN:=
 have K:CxR Ve:=aV.cx (fun _=>rfl) (l:=[(59,jM),(195,sO)]) ⟨Ci,Qd,trivial⟩
 aI K (aH (l:=[]) rfl trivial) (by kernel_rfl) (fun x y h=>(YP x).trans h) rfl rfl
def gX (x0:aW):Option (Bool):=af (yS x0) fun y0 => some (band y0.snd (ile 0 (jY (jY x0.buy x0.sell) x0.opn)))
noncomputable def RJ:Cx:={ P:=PG,ety:=ety,fn:=look [(185,vN)],inl:=dP [],lp:=aY [] }
theorem VJ (x0:aW):bK RJ 123 [.val .cell] [.bool] x0=gX x0:=by kernel_rfl
def iO:aT:=mkSpec [.val .cell] [.bool] true (fun x=>gX x)
theorem xI:dh PG 123 iO:=
 have K:CxR RJ:=aV.cx (fun _=>rfl) (l:=[(185,vN)]) ⟨Sl,trivial⟩
 aI K (aH (l:=[]) rfl trivial) (by kernel_rfl) (fun x y h=>(VJ x).trans h) rfl rfl
def BP (x0:Int):Option (Int):=cnd (ilt x0 0) (some (wr .u64 (aC 0 (wr .u64 x0)))) (some (wr .u64 x0))
noncomputable def Yw:Cx:={ P:=PG,ety:=ety,fn:=look [],inl:=dP [],lp:=aY [] }
theorem Y6 (x0:Int):bK Yw 238 [.int .i64] [.int .u64] x0=BP x0:=by kernel_rfl
def Ii:aT:=mkSpec [.int .i64] [.int .u64] true (fun x=>BP x)
theorem acA:dh PG 238 Ii:=
 have K:CxR Yw:=aV.cx (fun _=>rfl) (l:=[]) trivial
 aI K (aH (l:=[]) rfl trivial) (by kernel_rfl) (fun x y h=>(Y6 x).trans h) rfl rfl
def EM (x0:Int) (x1:Int):Option (Int×Int):=af (BP x0) fun y0 => af (BP x1) fun y1 => af (nJ y0 y1) fun y2 => cnd (band (band (ieq y2.fst 0) (aB (beq (ilt x0 0) (ilt x1 0)))) (ile y2.snd 9223372036854775808)) (some (wr .i64 (wr .u64 (aC 0 y2.snd)),0)) (cnd (band (ieq y2.fst 0) (ile y2.snd 9223372036854775807)) (some (wr .i64 y2.snd,0)) (some (0,3)))
noncomputable def Zv:Cx:={ P:=PG,ety:=ety,fn:=look [(238,Ii),(176,mX)],inl:=dP [],lp:=aY [] }
theorem aaV (x0:Int) (x1:Int):bK Zv 235 [.int .i64,.int .i64] [.int .i64,.int .i64] (x0,x1)=EM x0 x1:=by kernel_rfl
def JO:aT:=mkSpec [.int .i64,.int .i64] [.int .i64,.int .i64] true (fun x=>EM x.1 x.2)
theorem aey:dh PG 235 JO:=
 have K:CxR Zv:=aV.cx (fun _=>rfl) (l:=[(238,Ii),(176,mX)]) ⟨acA,Fv,trivial⟩
 aI K (aH (l:=[]) rfl trivial) (by kernel_rfl) (fun x y h=>(aaV x.1 x.2).trans h) rfl rfl
def EO (x0:Int) (x1:Int):Option (Int):=some (imax x0 x1)
noncomputable def Zw:Cx:={ P:=PG,ety:=ety,fn:=look [],inl:=dP [],lp:=aY [] }
theorem aaQ (x0:Int) (x1:Int):bK Zw 236 [.int .i64,.int .i64] [.int .i64] (x0,x1)=EO x0 x1:=by kernel_rfl
def AA:aT:=mkSpec [.int .i64,.int .i64] [.int .i64] true (fun x=>EO x.1 x.2)
theorem XG:dh PG 236 AA:=
 have K:CxR Zw:=aV.cx (fun _=>rfl) (l:=[]) trivial
 aI K (aH (l:=[]) rfl trivial) (by kernel_rfl) (fun x y h=>(aaQ x.1 x.2).trans h) rfl rfl
def uz (x0:aK):Option (Int×Int):=af (iQ x0) fun y0 => cnd (aB y0) (some (0,1)) (cnd (ieq x0.phase 3) (some (0,0)) (af (EM (wr .i64 (aC x0.qty x0.filled)) x0.price) fun y1 => cnd (bor (aB (ieq y1.snd 0)) (ile x0.newQty x0.filled)) (some y1) (af (EM (wr .i64 (aC x0.newQty x0.filled)) x0.newPrice) fun y2 => cnd (aB (ieq y2.snd 0)) (some (0,y2.snd)) (af (EO y1.fst y2.fst) fun y3 => some (y3,0)))))
noncomputable def Pj:Cx:={ P:=PG,ety:=ety,fn:=look [(180,dm),(235,JO),(236,AA)],inl:=dP [],lp:=aY [] }
theorem TV (x0:aK):bK Pj 220 [.val .order] [.int .i64,.int .i64] x0=uz x0:=by kernel_rfl
def ru:aT:=mkSpec [.val .order] [.int .i64,.int .i64] true (fun x=>uz x)
theorem NI:dh PG 220 ru:=
 have K:CxR Pj:=aV.cx (fun _=>rfl) (l:=[(180,dm),(235,JO),(236,AA)]) ⟨nC,aey,XG,trivial⟩
 aI K (aH (l:=[]) rfl trivial) (by kernel_rfl) (fun x y h=>(TV x).trans h) rfl rfl
def qo (x0:aK):Option (Int):=af (iQ x0) fun y0 => cnd (bor (aB y0) (ieq x0.phase 3)) (some 0) (af (EO x0.qty x0.newQty) fun y1 => some (wr .i64 (aC y1 x0.filled)))
noncomputable def SA:Cx:={ P:=PG,ety:=ety,fn:=look [(180,dm),(236,AA)],inl:=dP [],lp:=aY [] }
theorem VA (x0:aK):bK SA 221 [.val .order] [.int .i64] x0=qo x0:=by kernel_rfl
def tY:aT:=mkSpec [.val .order] [.int .i64] true (fun x=>qo x)
theorem Pm:dh PG 221 tY:=
 have K:CxR SA:=aV.cx (fun _=>rfl) (l:=[(180,dm),(236,AA)]) ⟨nC,XG,trivial⟩
 aI K (aH (l:=[]) rfl trivial) (by kernel_rfl) (fun x y h=>(VA x).trans h) rfl rfl
def iW (x0:aW) (x1:aK):Option (aW×Int):=af (gX x0) fun y0 => af (cnd (aB (aB y0)) (iQ x1) (some false)) fun y1 => cnd (bor (aB y0) (aB y1)) (some (x0,1)) (af (uz x1) fun y2 => cnd (ieq x1.side 2) (af (qo x1) fun y3 => af (nK x0.sell y3) fun y4 => af (nK x0.opn y2.fst) fun y5 => af (cnd (aB (bor (bor (aB (ieq y2.snd 0)) (aB (ieq y4.snd 0))) (aB (ieq y5.snd 0)))) (gX (aW.mk x0.pos x0.buy y4.fst y5.fst)) (some false)) fun y6 => cnd (bor (bor (bor (aB (ieq y2.snd 0)) (aB (ieq y4.snd 0))) (aB (ieq y5.snd 0))) (aB y6)) (some (x0,3)) (some (aW.mk x0.pos x0.buy y4.fst y5.fst,0))) (af (qo x1) fun y7 => af (nK x0.buy y7) fun y8 => af (nK x0.opn y2.fst) fun y9 => af (cnd (aB (bor (bor (aB (ieq y2.snd 0)) (aB (ieq y8.snd 0))) (aB (ieq y9.snd 0)))) (gX (aW.mk x0.pos y8.fst x0.sell y9.fst)) (some false)) fun y10 => cnd (bor (bor (bor (aB (ieq y2.snd 0)) (aB (ieq y8.snd 0))) (aB (ieq y9.snd 0))) (aB y10)) (some (x0,3)) (some (aW.mk x0.pos y8.fst x0.sell y9.fst,0))))
noncomputable def U3:Cx:={ P:=PG,ety:=ety,fn:=look [(123,iO),(180,dm),(220,ru),(221,tY),(59,jM)],inl:=dP [188],lp:=aY [] }
theorem XD (x0:aW) (x1:aK):bK U3 138 [.val .cell,.val .order] [.val .cell,.int .i64] (x0,x1)=iW x0 x1:=by kernel_rfl
def oV:aT:=mkSpec [.val .cell,.val .order] [.val .cell,.int .i64] true (fun x=>iW x.1 x.2)
theorem KO:dh PG 138 oV:=
 have K:CxR U3:=aV.cx (fun _=>rfl) (l:=[(123,iO),(180,dm),(220,ru),(221,tY),(59,jM)]) ⟨xI,nC,NI,Pm,Ci,trivial⟩
 aI K (aH (l:=[]) rfl trivial) (by kernel_rfl) (fun x y h=>(XD x.1 x.2).trans h) rfl rfl
def zx:LSh:=⟨79,[(18,.int .i64),(17,.ro .order)],[(4,.mf 64),(1,.mp 8 0)],[(8,[.val .state])],[(19,.int .i64),(3,.bool),(2,.buf .cell)],[],[(64,.cell)]⟩
@[reducible] def zI:List gQ:=[⟨.ret,[(3,.bool),(2,.buf .cell)],[],[(64,.cell)]⟩,⟨.exit 0,[(3,.bool),(2,.buf .cell)],[],[(64,.cell)]⟩]
def jq (p0:Int) (p1:(List aK)) (p2:ay) (v0:Int) (v1:Bool) (v2:(List aW)) (v3:(List aW)):Option ((Int×Bool×(List aW)×(List aW)) ⊕ ((Bool×(List aW)×(List aW)) ⊕ ((Bool×(List aW)×(List aW))))):=cnd (ilt v0 p0) (cnd (band (ile 0 v0) (ilt v0 (len p1))) (af (bn p2 (ah p1 (itn v0)).account (ah p1 (itn v0)).symbol) fun y0 => cnd (band (ile 0 y0) (ilt y0 (len v3))) (af (iW (ah v3 (itn y0)) (ah p1 (itn v0))) fun y1 => cnd (aB (ieq y1.snd 0)) (some (Sum.inr (Sum.inl (false,[],v3)))) (cnd (band (ile 0 y0) (ilt y0 (len v3))) (some (Sum.inl (wr .i64 (aj v0 1),v1,v2,bf v3 (itn y0) y1.fst))) none)) none) none) (some (Sum.inr (Sum.inr (v1,v2,v3))))
def xK:fM:=zx.spec zI [20,21,22,6,23,24,25,26,27,28,7,30,31,32,33,34,35,29,36,37,8,9,38,39,2,3,40,41,42,43,44,19] (fun p v=>jq p.1 p.2.1 p.2.2 v.1 v.2.1 v.2.2.1 v.2.2.2)
def nD (x0:ay):Option ((List aW)×Bool):=cnd (band (band (ile 0 (len x0.cells)) (ile (len x0.cells) (len x0.cells))) (ile (len x0.cells) 68719476736)) (af (bG (fun v => jq (len x0.orders) x0.orders x0 v.fst v.snd.fst v.snd.snd.fst v.snd.snd.snd) LF (0,false,[],jC aW (itn (len x0.cells)))) fun y0 => qO y0 (fun y1 => some (y1.snd.fst,y1.fst)) fun y1 => some (y1.snd.snd,true)) none
noncomputable def wG:Cx:={ P:=PG,ety:=ety,fn:=look [(137,dX),(138,oV)],inl:=dP [],lp:=aY [(122,58,xK)] }
theorem Gp (p0:Int) (p1:(List aK)) (p2:ay) (v0:Int) (v1:Bool) (v2:(List aW)) (v3:(List aW)):jk wG 900 122 58 (eF PG 122 58) zx zI (p0,p1,p2) (v0,v1,v2,v3)=jq p0 p1 p2 v0 v1 v2 v3:=by kernel_rfl
theorem II (x0:ay):bK wG 122 [.val .state] [.buf .cell,.bool] x0=nD x0:=by kernel_rfl
def rC:aT:=mkSpec [.val .state] [.buf .cell,.bool] true (fun x=>nD x)
theorem Lr:dh PG 122 rC:=
 have K:CxR wG:=aV.cx (fun _=>rfl) (l:=[(137,dX),(138,oV)]) ⟨pI,KO,trivial⟩
 aI K (aH (l:=[(122,58,xK)]) rfl ⟨cu (n:=900) (f:=122) K (by kernel_rfl) (by kernel_rfl) (by kernel_rfl) (by kernel_rfl) (by kernel_rfl) (fun p v r h=>(Gp p.1 p.2.1 p.2.2 v.1 v.2.1 v.2.2.1 v.2.2.2).trans h),trivial⟩) (by kernel_rfl) (fun x y h=>(II x).trans h) rfl rfl
def iZ (x0:ay) (x1:Int):Option ((List aW)):=cnd (band (band (ile 0 (wr .i64 (ji x1 x0.symbols))) (ile (wr .i64 (ji x1 x0.symbols)) (wr .i64 (ji (wr .i64 (aj x1 1)) x0.symbols)))) (ile (wr .i64 (ji (wr .i64 (aj x1 1)) x0.symbols)) (len x0.cells))) (some (ax (aG x0.cells (itn (wr .i64 (ji x1 x0.symbols)))) (itn (aC (wr .i64 (ji (wr .i64 (aj x1 1)) x0.symbols)) (wr .i64 (ji x1 x0.symbols)))))) none
noncomputable def A7:Cx:={ P:=PG,ety:=ety,fn:=look [],inl:=dP [],lp:=aY [] }
theorem IB (x0:ay) (x1:Int):bK A7 125 [.val .state,.int .i64] [.ro .cell] (x0,x1)=iZ x0 x1:=by kernel_rfl
def kC:aT:=mkSpec [.val .state,.int .i64] [.ro .cell] false (fun x=>iZ x.1 x.2)
theorem zV:dh PG 125 kC:=
 have K:CxR A7:=aV.cx (fun _=>rfl) (l:=[]) trivial
 aI K (aH (l:=[]) rfl trivial) (by kernel_rfl) (fun x y h=>(IB x.1 x.2).trans h) rfl rfl
def Nw:LSh:=⟨71,[(10,.int .i64),(9,.ro .i64)],[],[],[(11,.int .i64),(4,.int .i64),(3,.int .i64),(2,.int .i64)],[],[]⟩
@[reducible] def Nu:List gQ:=[⟨.ret,[(3,.int .i64),(2,.int .i64)],[],[]⟩,⟨.exit 0,[(4,.int .i64),(3,.int .i64),(2,.int .i64)],[],[]⟩]
def rX (p0:Int) (p1:(List Int)) (v0:Int) (v1:Int) (v2:Int) (v3:Int):Option ((Int×Int×Int×Int) ⊕ ((Int×Int) ⊕ ((Int×Int×Int)))):=cnd (ilt v0 p0) (cnd (band (ile 0 v0) (ilt v0 (len p1))) (af (nK v1 (ah p1 (itn v0))) fun y0 => cnd (aB (ieq y0.snd 0)) (some (Sum.inr (Sum.inl (y0.snd,0)))) (some (Sum.inl (wr .i64 (aj v0 1),y0.fst,v2,v3)))) none) (some (Sum.inr (Sum.inr (v1,v2,v3))))
def La:fM:=Nw.spec Nu [12,13,14,6,16,17,18,15,19,20,7,8,21,22,23,2,3,24,4,25,11] (fun p v=>rX p.1 p.2 v.1 v.2.1 v.2.2.1 v.2.2.2)
def Dk (x0:(List Int)):Option (Int×Int):=af (bG (fun v => rX (len x0) x0 v.fst v.snd.fst v.snd.snd.fst v.snd.snd.snd) LF (0,0,0,0)) fun y0 => qO y0 (fun y1 => some (y1.snd,y1.fst)) fun y1 => some (y1.fst,0)
noncomputable def Md:Cx:={ P:=PG,ety:=ety,fn:=look [(59,jM)],inl:=dP [],lp:=aY [(186,58,La)] }
theorem Rf (p0:Int) (p1:(List Int)) (v0:Int) (v1:Int) (v2:Int) (v3:Int):jk Md 900 186 58 (eF PG 186 58) Nw Nu (p0,p1) (v0,v1,v2,v3)=rX p0 p1 v0 v1 v2 v3:=by kernel_rfl
theorem XI (x0:(List Int)):bK Md 186 [.ro .i64] [.int .i64,.int .i64] x0=Dk x0:=by kernel_rfl
def Fh:aT:=mkSpec [.ro .i64] [.int .i64,.int .i64] true (fun x=>Dk x)
theorem abD:dh PG 186 Fh:=
 have K:CxR Md:=aV.cx (fun _=>rfl) (l:=[(59,jM)]) ⟨Ci,trivial⟩
 aI K (aH (l:=[(186,58,La)]) rfl ⟨cu (n:=900) (f:=186) K (by kernel_rfl) (by kernel_rfl) (by kernel_rfl) (by kernel_rfl) (by kernel_rfl) (fun p v r h=>(Rf p.1 p.2 v.1 v.2.1 v.2.2.1 v.2.2.2).trans h),trivial⟩) (by kernel_rfl) (fun x y h=>(XI x).trans h) rfl rfl
def IG:LSh:=⟨71,[(8,.int .i64),(7,.ro .cell)],[],[],[(9,.int .i64),(4,.buf .i64)],[],[]⟩
@[reducible] def I8:List gQ:=[⟨.exit 0,[(4,.buf .i64)],[],[]⟩]
def oN (p0:Int) (p1:(List aW)) (v0:Int) (v1:(List Int)):Option ((Int×(List Int)) ⊕ (((List Int)))):=cnd (ilt v0 p0) (cnd (band (ile 0 v0) (ilt v0 (len p1))) (cnd (ile (len (jR v1 [(ah p1 (itn v0)).opn])) 68719476736) (some (Sum.inl (wr .i64 (aj v0 1),jR v1 [(ah p1 (itn v0)).opn]))) none) none) (some (Sum.inr v1))
def GN:fM:=IG.spec I8 [10,11,12,6,13,14,15,16,17,4,18,9] (fun p v=>oN p.1 p.2 v.1 v.2)
def qH (x0:(List aW)):Option (Int×Int):=af (bG (fun v => oN (len x0) x0 v.fst v.snd) LF (0,[])) fun y0 => af (Dk y0) fun y1 => some y1
noncomputable def IC:Cx:={ P:=PG,ety:=ety,fn:=look [(186,Fh)],inl:=dP [],lp:=aY [(124,58,GN)] }
theorem OV (p0:Int) (p1:(List aW)) (v0:Int) (v1:(List Int)):jk IC 900 124 58 (eF PG 124 58) IG I8 (p0,p1) (v0,v1)=oN p0 p1 v0 v1:=by kernel_rfl
theorem TG (x0:(List aW)):bK IC 124 [.ro .cell] [.int .i64,.int .i64] x0=qH x0:=by kernel_rfl
def rD:aT:=mkSpec [.ro .cell] [.int .i64,.int .i64] true (fun x=>qH x)
theorem Mc:dh PG 124 rD:=
 have K:CxR IC:=aV.cx (fun _=>rfl) (l:=[(186,Fh)]) ⟨abD,trivial⟩
 aI K (aH (l:=[(124,58,GN)]) rfl ⟨cu (n:=900) (f:=124) K (by kernel_rfl) (by kernel_rfl) (by kernel_rfl) (by kernel_rfl) (by kernel_rfl) (fun p v r h=>(OV p.1 p.2 v.1 v.2).trans h),trivial⟩) (by kernel_rfl) (fun x y h=>(TG x).trans h) rfl rfl
def yX:LSh:=⟨89,[(28,.int .i64),(27,.ro .cell)],[(3,.mf 96)],[],[(29,.int .i64),(2,.bool)],[],[(96,.cell)]⟩
@[reducible] def zu:List gQ:=[⟨.ret,[(2,.bool)],[],[(96,.cell)]⟩,⟨.exit 0,[(2,.bool)],[],[(96,.cell)]⟩]
def jo (p0:Int) (p1:(List aW)) (v0:Int) (v1:Bool) (v2:(List aW)):Option ((Int×Bool×(List aW)) ⊕ ((Bool×(List aW)) ⊕ ((Bool×(List aW))))):=cnd (ilt v0 p0) (cnd (band (ile 0 v0) (ilt v0 (len p1))) (cnd (band (ile 0 v0) (ilt v0 (len v2))) (af (gX (ah p1 (itn v0))) fun y0 => cnd (bor (band (ile 0 v0) (ilt v0 (len (bf v2 (itn v0) (aW.mk (ah p1 (itn v0)).pos (ah v2 (itn v0)).buy (ah v2 (itn v0)).sell (ah v2 (itn v0)).opn))))) (aB (aB (aB y0)))) (cnd (bor (aB y0) (aB (band (ieq (ah (bf v2 (itn v0) (aW.mk (ah p1 (itn v0)).pos (ah v2 (itn v0)).buy (ah v2 (itn v0)).sell (ah v2 (itn v0)).opn)) (itn v0)).pos (ah p1 (itn v0)).pos) (band (ieq (ah (bf v2 (itn v0) (aW.mk (ah p1 (itn v0)).pos (ah v2 (itn v0)).buy (ah v2 (itn v0)).sell (ah v2 (itn v0)).opn)) (itn v0)).buy (ah p1 (itn v0)).buy) (band (ieq (ah (bf v2 (itn v0) (aW.mk (ah p1 (itn v0)).pos (ah v2 (itn v0)).buy (ah v2 (itn v0)).sell (ah v2 (itn v0)).opn)) (itn v0)).sell (ah p1 (itn v0)).sell) (ieq (ah (bf v2 (itn v0) (aW.mk (ah p1 (itn v0)).pos (ah v2 (itn v0)).buy (ah v2 (itn v0)).sell (ah v2 (itn v0)).opn)) (itn v0)).opn (ah p1 (itn v0)).opn)))))) (some (Sum.inr (Sum.inl (false,bf v2 (itn v0) (aW.mk (ah p1 (itn v0)).pos (ah v2 (itn v0)).buy (ah v2 (itn v0)).sell (ah v2 (itn v0)).opn))))) (some (Sum.inl (wr .i64 (aj v0 1),v1,bf v2 (itn v0) (aW.mk (ah p1 (itn v0)).pos (ah v2 (itn v0)).buy (ah v2 (itn v0)).sell (ah v2 (itn v0)).opn))))) none) none) none) (some (Sum.inr (Sum.inr (v1,v2))))
def xB:fM:=yX.spec zu [30,31,32,33,6,5,34,35,36,37,38,39,40,41,42,43,44,45,46,47,48,49,50,2,51,29] (fun p v=>jo p.1 p.2 v.1 v.2.1 v.2.2)
def yU:LSh:=⟨162,[(54,.int .i64)],[(1,.mp 8 0)],[(8,[.val .state])],[(55,.int .i64),(2,.bool)],[],[]⟩
@[reducible] def zM:List gQ:=[⟨.ret,[(2,.bool)],[],[]⟩,⟨.exit 2,[(2,.bool)],[],[]⟩]
def jv (p0:Int) (p1:ay) (v0:Int) (v1:Bool):Option ((Int×Bool) ⊕ ((Bool) ⊕ ((Bool)))):=cnd (ilt v0 p0) (af (iZ p1 v0) fun y0 => af (qH y0) fun y1 => cnd (aB (ieq y1.snd 0)) (some (Sum.inr (Sum.inl false))) (some (Sum.inl (wr .i64 (aj v0 1),v1)))) (some (Sum.inr (Sum.inr v1)))
def yg:fM:=yU.spec zM [56,57,7,59,60,61,62,58,63,64,8,9,65,66,2,67,55] (fun p v=>jv p.1 p.2 v.1 v.2)
def qR (x0:ay):Option (Bool):=af (nS x0) fun y0 => af (cnd (aB (aB y0)) (o8 x0) (some false)) fun y1 => cnd (bor (aB y0) (aB y1)) (some false) (af (nD x0) fun y2 => cnd (aB y2.snd) (some false) (af (bG (fun v => jo (len x0.cells) x0.cells v.fst v.snd.fst v.snd.snd) LF (0,false,y2.fst)) fun y3 => qO y3 (fun y4 => some y4.fst) fun y4 => af (bG (fun v => jv x0.accounts x0 v.fst v.snd) LF (0,y4.fst)) fun y5 => qO y5 (fun y6 => some y6) fun y6 => some true))
noncomputable def qP:Cx:={ P:=PG,ety:=ety,fn:=look [(120,sG),(121,uS),(122,rC),(123,iO),(125,kC),(124,rD)],inl:=dP [],lp:=aY [(51,250,xB),(51,506,yg)] }
theorem FP (p0:Int) (p1:(List aW)) (v0:Int) (v1:Bool) (v2:(List aW)):jk qP 900 51 250 (eF PG 51 250) yX zu (p0,p1) (v0,v1,v2)=jo p0 p1 v0 v1 v2:=by kernel_rfl
theorem FO (p0:Int) (p1:ay) (v0:Int) (v1:Bool):jk qP 900 51 506 (eF PG 51 506) yU zM (p0,p1) (v0,v1)=jv p0 p1 v0 v1:=by kernel_rfl
theorem JA (x0:ay):bK qP 51 [.val .state] [.bool] x0=qR x0:=by kernel_rfl
def tK:aT:=mkSpec [.val .state] [.bool] true (fun x=>qR x)
theorem NM:dh PG 51 tK:=
 have K:CxR qP:=aV.cx (fun _=>rfl) (l:=[(120,sG),(121,uS),(122,rC),(123,iO),(125,kC),(124,rD)]) ⟨Nc,OL,Lr,xI,zV,Mc,trivial⟩
 aI K (aH (l:=[(51,250,xB),(51,506,yg)]) rfl ⟨cu (n:=900) (f:=51) K (by kernel_rfl) (by kernel_rfl) (by kernel_rfl) (by kernel_rfl) (by kernel_rfl) (fun p v r h=>(FP p.1 p.2 v.1 v.2.1 v.2.2).trans h),
  cu (n:=900) (f:=51) K (by kernel_rfl) (by kernel_rfl) (by kernel_rfl) (by kernel_rfl) (by kernel_rfl) (fun p v r h=>(FO p.1 p.2 v.1 v.2).trans h),trivial⟩) (by kernel_rfl) (fun x y h=>(JA x).trans h) rfl rfl
def jP (x0:ay):Option (Bool):=af (qR x0) fun y0 => some y0
noncomputable def Si:Cx:={ P:=PG,ety:=ety,fn:=look [(51,tK)],inl:=dP [],lp:=aY [] }
theorem VE (x0:ay):bK Si 18 [.val .state] [.bool] x0=jP x0:=by kernel_rfl
def iP:aT:=mkSpec [.val .state] [.bool] true (fun x=>jP x)
theorem xX:dh PG 18 iP:=
 have K:CxR Si:=aV.cx (fun _=>rfl) (l:=[(51,tK)]) ⟨NM,trivial⟩
 aI K (aH (l:=[]) rfl trivial) (by kernel_rfl) (fun x y h=>(VE x).trans h) rfl rfl
def KI (x0:Int) (x1:Int) (x2:dL) (x3:Int):Option (ay×Int):=cnd (bor (bor (bor (ilt x0 1) (ilt 8 x0)) (ilt x1 1)) (ilt 8 x1)) (some (ay.mk 0 0 [] [] [] [] false 0 0 0,1)) (cnd (band (band (ile 0 (wr .i64 (ji x0 x1))) (ile (wr .i64 (ji x0 x1)) (wr .i64 (ji x0 x1)))) (ile (wr .i64 (ji x0 x1)) 68719476736)) (af (qJ [x2] (wr .i64 (ji x0 x1))) fun y0 => af (uO [x3] x0) fun y1 => af (jP (ay.mk x0 x1 [] (jC aW (itn (wr .i64 (ji x0 x1)))) y0 y1 false 0 0 0)) fun y2 => cnd (aB y2) (some (ay.mk 0 0 [] [] [] [] false 0 0 0,1)) (some (ay.mk x0 x1 [] (jC aW (itn (wr .i64 (ji x0 x1)))) y0 y1 false 0 0 0,0))) none)
noncomputable def YF:Cx:={ P:=PG,ety:=ety,fn:=look [(57,ou),(58,qI),(18,iP)],inl:=dP [],lp:=aY [] }
theorem YW (x0:Int) (x1:Int) (x2:dL) (x3:Int):bK YF 22 [.int .i64,.int .i64,.val .expo,.int .i64] [.val .state,.int .i64] (x0,x1,x2,x3)=KI x0 x1 x2 x3:=by kernel_rfl
def Ik:aT:=mkSpec [.int .i64,.int .i64,.val .expo,.int .i64] [.val .state,.int .i64] false (fun x=>KI x.1 x.2.1 x.2.2.1 x.2.2.2)
theorem ach:dh PG 22 Ik:=
 have K:CxR YF:=aV.cx (fun _=>rfl) (l:=[(57,ou),(58,qI),(18,iP)]) ⟨Gv,JY,xX,trivial⟩
 aI K (aH (l:=[]) rfl trivial) (by kernel_rfl) (fun x y h=>(YW x.1 x.2.1 x.2.2.1 x.2.2.2).trans h) rfl rfl
def dO (x0:(List aK)):Option ((List aK)):=SE (len x0) fun y0 => cnd (beq y0 true) (some []) (cnd (ile (len x0) 68719476736) (some x0) none)
noncomputable def xC:Cx:={ P:=PG,ety:=ety,fn:=look [],inl:=dP [],lp:=aY [] }
theorem EF (x0:(List aK)):bK xC 132 [.ro .order] [.buf .order] x0=dO x0:=by kernel_rfl
def nZ:aT:=mkSpec [.ro .order] [.buf .order] true (fun x=>dO x)
theorem Gy:dh PG 132 nZ:=
 have K:CxR xC:=aV.cx (fun _=>rfl) (l:=[]) trivial
 aI K (aH (l:=[]) rfl trivial) (by kernel_rfl) (fun x y h=>(EF x).trans h) rfl rfl
def dW (x0:(List aW)):Option ((List aW)):=SE (len x0) fun y0 => cnd (beq y0 true) (some []) (cnd (ile (len x0) 68719476736) (some x0) none)
noncomputable def yY:Cx:={ P:=PG,ety:=ety,fn:=look [],inl:=dP [],lp:=aY [] }
theorem EW (x0:(List aW)):bK yY 133 [.ro .cell] [.buf .cell] x0=dW x0:=by kernel_rfl
def pF:aT:=mkSpec [.ro .cell] [.buf .cell] true (fun x=>dW x)
theorem Ih:dh PG 133 pF:=
 have K:CxR yY:=aV.cx (fun _=>rfl) (l:=[]) trivial
 aI K (aH (l:=[]) rfl trivial) (by kernel_rfl) (fun x y h=>(EW x).trans h) rfl rfl
def dV (x0:(List dL)):Option ((List dL)):=SE (len x0) fun y0 => cnd (beq y0 true) (some []) (cnd (ile (len x0) 68719476736) (some x0) none)
noncomputable def zq:Cx:={ P:=PG,ety:=ety,fn:=look [],inl:=dP [],lp:=aY [] }
theorem E5 (x0:(List dL)):bK zq 134 [.ro .expo] [.buf .expo] x0=dV x0:=by kernel_rfl
def o5:aT:=mkSpec [.ro .expo] [.buf .expo] true (fun x=>dV x)
theorem Ib:dh PG 134 o5:=
 have K:CxR zq:=aV.cx (fun _=>rfl) (l:=[]) trivial
 aI K (aH (l:=[]) rfl trivial) (by kernel_rfl) (fun x y h=>(E5 x).trans h) rfl rfl
def gm (x0:(List Int)):Option ((List Int)):=SE (len x0) fun y0 => cnd (beq y0 true) (some []) (cnd (ile (len x0) 68719476736) (some x0) none)
noncomputable def Dn:Cx:={ P:=PG,ety:=ety,fn:=look [],inl:=dP [],lp:=aY [] }
theorem I9 (x0:(List Int)):bK Dn 135 [.ro .i64] [.buf .i64] x0=gm x0:=by kernel_rfl
def qU:aT:=mkSpec [.ro .i64] [.buf .i64] true (fun x=>gm x)
theorem Ls:dh PG 135 qU:=
 have K:CxR Dn:=aV.cx (fun _=>rfl) (l:=[]) trivial
 aI K (aH (l:=[]) rfl trivial) (by kernel_rfl) (fun x y h=>(I9 x).trans h) rfl rfl
def Cm (x0:uK):Option (aK×Int):=af (cnd (aB (aB (ieq x0.kind 1))) (qh x0) (some false)) fun y0 => cnd (bor (aB (ieq x0.kind 1)) (aB y0)) (some (aK.mk 0 0 0 0 0 0 0 0 0 0 0 false,1)) (some (aK.mk x0.order x0.account x0.symbol x0.side x0.qty x0.price 0 1 0 0 0 false,0))
noncomputable def O9:Cx:={ P:=PG,ety:=ety,fn:=look [(60,lu)],inl:=dP [],lp:=aY [] }
theorem Tf (x0:uK):bK O9 136 [.val .recd] [.val .order,.int .i64] x0=Cm x0:=by kernel_rfl
def BA:aT:=mkSpec [.val .recd] [.val .order,.int .i64] true (fun x=>Cm x)
theorem XP:dh PG 136 BA:=
 have K:CxR O9:=aV.cx (fun _=>rfl) (l:=[(60,lu)]) ⟨Eu,trivial⟩
 aI K (aH (l:=[]) rfl trivial) (by kernel_rfl) (fun x y h=>(Tf x).trans h) rfl rfl
def Ol (x0:aW):Option (dL×Int):=af (gX x0) fun y0 => cnd (aB y0) (some (dL.mk 0 0 0,1)) (af (yS x0) fun y1 => some (y1.fst,0))
noncomputable def aal:Cx:={ P:=PG,ety:=ety,fn:=look [(123,iO),(185,vN)],inl:=dP [],lp:=aY [] }
theorem aaO (x0:aW):bK aal 189 [.val .cell] [.val .expo,.int .i64] x0=Ol x0:=by kernel_rfl
def JR:aT:=mkSpec [.val .cell] [.val .expo,.int .i64] true (fun x=>Ol x)
theorem aeO:dh PG 189 JR:=
 have K:CxR aal:=aV.cx (fun _=>rfl) (l:=[(123,iO),(185,vN)]) ⟨xI,Sl,trivial⟩
 aI K (aH (l:=[]) rfl trivial) (by kernel_rfl) (fun x y h=>(aaO x).trans h) rfl rfl
def yu (x0:dL):Option (SA3):=some (SA3.mk x0.long x0.short x0.opn)
noncomputable def O4:Cx:={ P:=PG,ety:=ety,fn:=look [],inl:=dP [],lp:=aY [] }
theorem Ul (x0:dL):bK O4 222 [.val .expo] [.val .a3] x0=yu x0:=by kernel_rfl
def Ce:aT:=mkSpec [.val .expo] [.val .a3] true (fun x=>yu x)
theorem Xn:dh PG 222 Ce:=
 have K:CxR O4:=aV.cx (fun _=>rfl) (l:=[]) trivial
 aI K (aH (l:=[]) rfl trivial) (by kernel_rfl) (fun x y h=>(Ul x).trans h) rfl rfl
def lX (x0:Int) (x1:Int) (x2:Int):Option (Bool):=some (ilt (imax x0 x2) x1)
noncomputable def Gq:Cx:={ P:=PG,ety:=ety,fn:=look [],inl:=dP [],lp:=aY [] }
theorem LZ (x0:Int) (x1:Int) (x2:Int):bK Gq 191 [.int .i64,.int .i64,.int .i64] [.bool] (x0,x1,x2)=lX x0 x1 x2:=by kernel_rfl
def lM:aT:=mkSpec [.int .i64,.int .i64,.int .i64] [.bool] true (fun x=>lX x.1 x.2.1 x.2.2)
theorem Ei:dh PG 191 lM:=
 have K:CxR Gq:=aV.cx (fun _=>rfl) (l:=[]) trivial
 aI K (aH (l:=[]) rfl trivial) (by kernel_rfl) (fun x y h=>(LZ x.1 x.2.1 x.2.2).trans h) rfl rfl
def D9 (x0:dL) (x1:dL) (x2:dL):Option (Bool):=af (yu x0) fun y0 => af (yu x1) fun y1 => af (yu x2) fun y2 => af (lX y0.a0 y1.a0 y2.a0) fun y3 => cnd y3 (some true) (af (lX y0.a1 y1.a1 y2.a1) fun y4 => cnd y4 (some true) (af (lX y0.a2 y1.a2 y2.a2) fun y5 => cnd y5 (some true) (some false)))
noncomputable def Lp:Cx:={ P:=PG,ety:=ety,fn:=look [(222,Ce),(191,lM)],inl:=dP [],lp:=aY [] }
theorem Qn (x0:dL) (x1:dL) (x2:dL):bK Lp 190 [.val .expo,.val .expo,.val .expo] [.bool] (x0,x1,x2)=D9 x0 x1 x2:=by kernel_rfl
def yG:aT:=mkSpec [.val .expo,.val .expo,.val .expo] [.bool] true (fun x=>D9 x.1 x.2.1 x.2.2)
theorem Uk:dh PG 190 yG:=
 have K:CxR Lp:=aV.cx (fun _=>rfl) (l:=[(222,Ce),(191,lM)]) ⟨Xn,Ei,trivial⟩
 aI K (aH (l:=[]) rfl trivial) (by kernel_rfl) (fun x y h=>(Qn x.1 x.2.1 x.2.2).trans h) rfl rfl
def fG (x0:ay) (x1:ay) (x2:Int) (x3:Int):Option (Int):=af (bn x0 x2 x3) fun y0 => af (iZ x0 x2) fun y1 => af (qH y1) fun y2 => cnd (aB (ieq y2.snd 0)) (some 3) (af (iZ x1 x2) fun y3 => af (qH y3) fun y4 => cnd (band (ile 0 y0) (ilt y0 (len x1.cells))) (af (Ol (ah x1.cells (itn y0))) fun y5 => cnd (band (ile 0 y0) (ilt y0 (len x0.cells))) (af (Ol (ah x0.cells (itn y0))) fun y6 => cnd (band (ile 0 y0) (ilt y0 (len x0.limits))) (af (D9 y5.fst y6.fst (ah x0.limits (itn y0))) fun y7 => cnd (bor (band (ile 0 x2) (ilt x2 (len x0.caps))) (aB (aB y7))) (af (cnd (aB y7) (lX y4.fst y2.fst (ah x0.caps (itn x2))) (some false)) fun y8 => cnd (bor y7 y8) (some 4) (some 0)) none) none) none) none)
noncomputable def Ed:Cx:={ P:=PG,ety:=ety,fn:=look [(137,dX),(125,kC),(124,rD),(189,JR),(190,yG),(191,lM)],inl:=dP [],lp:=aY [] }
theorem Kt (x0:ay) (x1:ay) (x2:Int) (x3:Int):bK Ed 139 [.val .state,.val .state,.int .i64,.int .i64] [.int .i64] (x0,x1,x2,x3)=fG x0 x1 x2 x3:=by kernel_rfl
def sW:aT:=mkSpec [.val .state,.val .state,.int .i64,.int .i64] [.int .i64] true (fun x=>fG x.1 x.2.1 x.2.2.1 x.2.2.2)
theorem Nr:dh PG 139 sW:=
 have K:CxR Ed:=aV.cx (fun _=>rfl) (l:=[(137,dX),(125,kC),(124,rD),(189,JR),(190,yG),(191,lM)]) ⟨pI,zV,Mc,aeO,Uk,Ei,trivial⟩
 aI K (aH (l:=[]) rfl trivial) (by kernel_rfl) (fun x y h=>(Kt x.1 x.2.1 x.2.2.1 x.2.2.2).trans h) rfl rfl
def kG:LSh:=⟨78,[(7,.int .i64),(0,.ro .order)],[(1,.fn 193 [.mp 24 0])],[(24,[.int .i64])],[(8,.int .i64),(4,.int .i64)],[],[]⟩
@[reducible] def kH:List gQ:=[⟨.ret,[(4,.int .i64)],[],[]⟩,⟨.exit 0,[(4,.int .i64)],[],[]⟩]
def bQ (p0:Int) (p1:(List aK)) (p2:Int) (v0:Int) (v1:Int):Option ((Int×Int) ⊕ ((Int) ⊕ ((Int)))):=cnd (ilt v0 p0) (cnd (band (ile 0 v0) (ilt v0 (len p1))) (cnd (ieq (ah p1 (itn v0)).id p2) (some (Sum.inr (Sum.inl v0))) (some (Sum.inl (wr .i64 (aj v0 1),v1)))) none) (some (Sum.inr (Sum.inr v1)))
def ku:fM:=kG.spec kH [9,10,5,11,12,13,14,15,16,17,4,18,8] (fun p v=>bQ p.1 p.2.1 p.2.2 v.1 v.2)
def oH (x0:ay) (x1:Int):Option (Int):=af (bG (fun v => bQ (len x0.orders) x0.orders x1 v.fst v.snd) LF (0,0)) fun y0 => qO y0 (fun y1 => some y1) fun y1 => some (-1)
noncomputable def Nz:Cx:={ P:=PG,ety:=ety,fn:=look [],inl:=dP [193,192],lp:=aY [(601295462592,26,ku)] }
theorem pU (p0:Int) (p1:(List aK)) (p2:Int) (v0:Int) (v1:Int):jk Nz 900 601295462592 26 (eF PG 192 26) kG kH (p0,p1,p2) (v0,v1)=bQ p0 p1 p2 v0 v1:=by kernel_rfl
theorem X0 (x0:ay) (x1:Int):bK Nz 140 [.val .state,.int .i64] [.int .i64] (x0,x1)=oH x0 x1:=by kernel_rfl
def Fg:aT:=mkSpec [.val .state,.int .i64] [.int .i64] true (fun x=>oH x.1 x.2)
theorem aaZ:dh PG 140 Fg:=
 have K:CxR Nz:=aV.cx (fun _=>rfl) (l:=[]) trivial
 aI K (aH (l:=[(601295462592,26,ku)]) rfl ⟨cu (n:=900) (f:=192) K (by kernel_rfl) (by kernel_rfl) (by kernel_rfl) (by kernel_rfl) (by kernel_rfl) (fun p v r h=>(pU p.1 p.2.1 p.2.2 v.1 v.2).trans h),trivial⟩) (by kernel_rfl) (fun x y h=>(X0 x.1 x.2).trans h) rfl rfl
def Aa (x0:aK) (x1:Int) (x2:Int):Option (aK×Int):=af (nK x0.version 1) fun y0 => af (iQ x0) fun y1 => cnd (aB y1) (cnd (aB y1) (some (x0,1)) (cnd (aB (ieq x0.phase 2)) (cnd (aB (ieq x0.phase 2)) (some (x0,8)) (some (aK.mk x0.id x0.account x0.symbol x0.side x0.qty x0.price x0.filled x0.phase x1 x2 (wr .i64 (aj x0.version 1)) x0.asked,0))) (af (iM x0) fun y2 => cnd y2 (cnd y2 (some (x0,8)) (some (aK.mk x0.id x0.account x0.symbol x0.side x0.qty x0.price x0.filled x0.phase x1 x2 (wr .i64 (aj x0.version 1)) x0.asked,0))) (cnd x0.asked (some (x0,8)) (some (aK.mk x0.id x0.account x0.symbol x0.side x0.qty x0.price x0.filled x0.phase x1 x2 (wr .i64 (aj x0.version 1)) x0.asked,0)))))) (cnd (ilt x1 1) (cnd (ilt x1 1) (some (x0,1)) (cnd (aB (ieq x0.phase 2)) (cnd (aB (ieq x0.phase 2)) (some (x0,8)) (some (aK.mk x0.id x0.account x0.symbol x0.side x0.qty x0.price x0.filled x0.phase x1 x2 (wr .i64 (aj x0.version 1)) x0.asked,0))) (af (iM x0) fun y3 => cnd y3 (cnd y3 (some (x0,8)) (some (aK.mk x0.id x0.account x0.symbol x0.side x0.qty x0.price x0.filled x0.phase x1 x2 (wr .i64 (aj x0.version 1)) x0.asked,0))) (cnd x0.asked (some (x0,8)) (some (aK.mk x0.id x0.account x0.symbol x0.side x0.qty x0.price x0.filled x0.phase x1 x2 (wr .i64 (aj x0.version 1)) x0.asked,0)))))) (cnd (ilt x2 1) (cnd (ilt x2 1) (some (x0,1)) (cnd (aB (ieq x0.phase 2)) (cnd (aB (ieq x0.phase 2)) (some (x0,8)) (some (aK.mk x0.id x0.account x0.symbol x0.side x0.qty x0.price x0.filled x0.phase x1 x2 (wr .i64 (aj x0.version 1)) x0.asked,0))) (af (iM x0) fun y4 => cnd y4 (cnd y4 (some (x0,8)) (some (aK.mk x0.id x0.account x0.symbol x0.side x0.qty x0.price x0.filled x0.phase x1 x2 (wr .i64 (aj x0.version 1)) x0.asked,0))) (cnd x0.asked (some (x0,8)) (some (aK.mk x0.id x0.account x0.symbol x0.side x0.qty x0.price x0.filled x0.phase x1 x2 (wr .i64 (aj x0.version 1)) x0.asked,0)))))) (cnd (aB (ieq y0.snd 0)) (some (x0,1)) (cnd (aB (ieq x0.phase 2)) (cnd (aB (ieq x0.phase 2)) (some (x0,8)) (some (aK.mk x0.id x0.account x0.symbol x0.side x0.qty x0.price x0.filled x0.phase x1 x2 (wr .i64 (aj x0.version 1)) x0.asked,0))) (af (iM x0) fun y5 => cnd y5 (cnd y5 (some (x0,8)) (some (aK.mk x0.id x0.account x0.symbol x0.side x0.qty x0.price x0.filled x0.phase x1 x2 (wr .i64 (aj x0.version 1)) x0.asked,0))) (cnd x0.asked (some (x0,8)) (some (aK.mk x0.id x0.account x0.symbol x0.side x0.qty x0.price x0.filled x0.phase x1 x2 (wr .i64 (aj x0.version 1)) x0.asked,0))))))))
noncomputable def NW:Cx:={ P:=PG,ety:=ety,fn:=look [(59,jM),(180,dm),(194,kJ)],inl:=dP [],lp:=aY [] }
theorem RU (x0:aK) (x1:Int) (x2:Int):bK NW 141 [.val .order,.int .i64,.int .i64] [.val .order,.int .i64] (x0,x1,x2)=Aa x0 x1 x2:=by kernel_rfl
def Am:aT:=mkSpec [.val .order,.int .i64,.int .i64] [.val .order,.int .i64] true (fun x=>Aa x.1 x.2.1 x.2.2)
theorem Vr:dh PG 141 Am:=
 have K:CxR NW:=aV.cx (fun _=>rfl) (l:=[(59,jM),(180,dm),(194,kJ)]) ⟨Ci,nC,BX,trivial⟩
 aI K (aH (l:=[]) rfl trivial) (by kernel_rfl) (fun x y h=>(RU x.1 x.2.1 x.2.2).trans h) rfl rfl
def EL (x0:aW) (x1:aK):Option (aW×Int):=af (gX x0) fun y0 => af (cnd (aB (aB y0)) (iQ x1) (some false)) fun y1 => cnd (bor (aB y0) (aB y1)) (some (x0,1)) (af (uz x1) fun y2 => cnd (ieq x1.side 2) (af (qo x1) fun y3 => af (uG x0.sell y3) fun y4 => af (uG x0.opn y2.fst) fun y5 => af (cnd (aB (bor (bor (aB (ieq y2.snd 0)) (aB (ieq y4.snd 0))) (aB (ieq y5.snd 0)))) (gX (aW.mk x0.pos x0.buy y4.fst y5.fst)) (some false)) fun y6 => cnd (bor (bor (bor (aB (ieq y2.snd 0)) (aB (ieq y4.snd 0))) (aB (ieq y5.snd 0))) (aB y6)) (some (x0,3)) (some (aW.mk x0.pos x0.buy y4.fst y5.fst,0))) (af (qo x1) fun y7 => af (uG x0.buy y7) fun y8 => af (uG x0.opn y2.fst) fun y9 => af (cnd (aB (bor (bor (aB (ieq y2.snd 0)) (aB (ieq y8.snd 0))) (aB (ieq y9.snd 0)))) (gX (aW.mk x0.pos y8.fst x0.sell y9.fst)) (some false)) fun y10 => cnd (bor (bor (bor (aB (ieq y2.snd 0)) (aB (ieq y8.snd 0))) (aB (ieq y9.snd 0))) (aB y10)) (some (x0,3)) (some (aW.mk x0.pos y8.fst x0.sell y9.fst,0))))
noncomputable def ZP:Cx:={ P:=PG,ety:=ety,fn:=look [(123,iO),(180,dm),(220,ru),(221,tY),(195,sO)],inl:=dP [188],lp:=aY [] }
theorem abA (x0:aW) (x1:aK):bK ZP 142 [.val .cell,.val .order] [.val .cell,.int .i64] (x0,x1)=EL x0 x1:=by kernel_rfl
def Ko:aT:=mkSpec [.val .cell,.val .order] [.val .cell,.int .i64] true (fun x=>EL x.1 x.2)
theorem aeH:dh PG 142 Ko:=
 have K:CxR ZP:=aV.cx (fun _=>rfl) (l:=[(123,iO),(180,dm),(220,ru),(221,tY),(195,sO)]) ⟨xI,nC,NI,Pm,Qd,trivial⟩
 aI K (aH (l:=[]) rfl trivial) (by kernel_rfl) (fun x y h=>(abA x.1 x.2).trans h) rfl rfl
def Hu (x0:aK):Option (aK×Int):=af (iQ x0) fun y0 => cnd (aB y0) (some (x0,1)) (cnd (ieq x0.phase 3) (cnd (ieq x0.phase 3) (some (x0,8)) (some (aK.mk x0.id x0.account x0.symbol x0.side x0.qty x0.price x0.filled x0.phase x0.newQty x0.newPrice x0.version true,0))) (cnd x0.asked (some (x0,8)) (some (aK.mk x0.id x0.account x0.symbol x0.side x0.qty x0.price x0.filled x0.phase x0.newQty x0.newPrice x0.version true,0))))
noncomputable def UW:Cx:={ P:=PG,ety:=ety,fn:=look [(180,dm)],inl:=dP [],lp:=aY [] }
theorem WH (x0:aK):bK UW 143 [.val .order] [.val .order,.int .i64] x0=Hu x0:=by kernel_rfl
def ES:aT:=mkSpec [.val .order] [.val .order,.int .i64] true (fun x=>Hu x)
theorem abE:dh PG 143 ES:=
 have K:CxR UW:=aV.cx (fun _=>rfl) (l:=[(180,dm)]) ⟨nC,trivial⟩
 aI K (aH (l:=[]) rfl trivial) (by kernel_rfl) (fun x y h=>(WH x).trans h) rfl rfl
def Ku (x0:Dq):Option (uK):=some (uK.mk 6 x0.order 0 0 0 x0.qty x0.price 0 0 0 false x0.seq x0.what)
noncomputable def QJ:Cx:={ P:=PG,ety:=ety,fn:=look [],inl:=dP [],lp:=aY [] }
theorem VK (x0:Dq):bK QJ 196 [.val .note] [.val .recd] x0=Ku x0:=by kernel_rfl
def DW:aT:=mkSpec [.val .note] [.val .recd] true (fun x=>Ku x)
theorem Zb:dh PG 196 DW:=
 have K:CxR QJ:=aV.cx (fun _=>rfl) (l:=[]) trivial
 aI K (aH (l:=[]) rfl trivial) (by kernel_rfl) (fun x y h=>(VK x).trans h) rfl rfl
def tX (x0:aK):Option (aK):=some (aK.mk x0.id x0.account x0.symbol x0.side x0.qty x0.price x0.filled x0.phase 0 0 x0.version x0.asked)
noncomputable def Lc:Cx:={ P:=PG,ety:=ety,fn:=look [],inl:=dP [],lp:=aY [] }
theorem Qz (x0:aK):bK Lc 224 [.val .order] [.val .order] x0=tX x0:=by kernel_rfl
def pz:aT:=mkSpec [.val .order] [.val .order] true (fun x=>tX x)
theorem Jl:dh PG 224 pz:=
 have K:CxR Lc:=aV.cx (fun _=>rfl) (l:=[]) trivial
 aI K (aH (l:=[]) rfl trivial) (by kernel_rfl) (fun x y h=>(Qz x).trans h) rfl rfl
def AL (x0:aK):Option (aK):=af (tX (aK.mk x0.id x0.account x0.symbol x0.side x0.qty x0.price x0.filled 3 x0.newQty x0.newPrice x0.version x0.asked)) fun y0 => some y0
noncomputable def SQ:Cx:={ P:=PG,ety:=ety,fn:=look [(224,pz)],inl:=dP [],lp:=aY [] }
theorem VF (x0:aK):bK SQ 223 [.val .order] [.val .order] x0=AL x0:=by kernel_rfl
def uj:aT:=mkSpec [.val .order] [.val .order] true (fun x=>AL x)
theorem Ph:dh PG 223 uj:=
 have K:CxR SQ:=aV.cx (fun _=>rfl) (l:=[(224,pz)]) ⟨Jl,trivial⟩
 aI K (aH (l:=[]) rfl trivial) (by kernel_rfl) (fun x y h=>(VF x).trans h) rfl rfl
def JD (x0:aK) (x1:Dq):Option (aK×Bool):=cnd (ieq x1.what 1) (some (aK.mk x0.id x0.account x0.symbol x0.side x0.qty x0.price x0.filled 2 x0.newQty x0.newPrice x0.version x0.asked,true)) (cnd (ieq x1.what 2) (af (AL x0) fun y0 => some (y0,true)) (some (x0,false)))
noncomputable def SS:Cx:={ P:=PG,ety:=ety,fn:=look [(223,uj)],inl:=dP [],lp:=aY [] }
theorem Vs (x0:aK) (x1:Dq):bK SS 197 [.val .order,.val .note] [.val .order,.bool] (x0,x1)=JD x0 x1:=by kernel_rfl
def DK:aT:=mkSpec [.val .order,.val .note] [.val .order,.bool] true (fun x=>JD x.1 x.2)
theorem Y7:dh PG 197 DK:=
 have K:CxR SS:=aV.cx (fun _=>rfl) (l:=[(223,uj)]) ⟨Ph,trivial⟩
 aI K (aH (l:=[]) rfl trivial) (by kernel_rfl) (fun x y h=>(Vs x.1 x.2).trans h) rfl rfl
def JZ (x0:aK) (x1:Dq):Option (aK×Bool):=cnd (ieq x1.what 3) (cnd (ilt (wr .i64 (aC x0.qty x0.filled)) x1.qty) (some (x0,false)) (cnd (ilt (wr .i64 (aj x0.filled x1.qty)) x0.qty) (some (aK.mk x0.id x0.account x0.symbol x0.side x0.qty x0.price (wr .i64 (aj x0.filled x1.qty)) x0.phase x0.newQty x0.newPrice x0.version x0.asked,true)) (af (AL (aK.mk x0.id x0.account x0.symbol x0.side x0.qty x0.price (wr .i64 (aj x0.filled x1.qty)) x0.phase x0.newQty x0.newPrice x0.version x0.asked)) fun y0 => some (y0,true)))) (cnd (ieq x1.what 4) (af (AL x0) fun y1 => some (y1,true)) (cnd (ieq x1.what 5) (af (iM x0) fun y2 => cnd (bor (bor (bor (aB y2) (aB (ieq x1.qty x0.newQty))) (aB (ieq x1.price x0.newPrice))) (ile x1.qty x0.filled)) (some (x0,false)) (af (tX (aK.mk x0.id x0.account x0.symbol x0.side x1.qty x1.price x0.filled x0.phase x0.newQty x0.newPrice x0.version x0.asked)) fun y3 => some (y3,true))) (cnd (ieq x1.what 6) (af (tX x0) fun y4 => af (iM x0) fun y5 => some (y4,y5)) (some (x0,false)))))
noncomputable def RV:Cx:={ P:=PG,ety:=ety,fn:=look [(223,uj),(194,kJ),(224,pz)],inl:=dP [],lp:=aY [] }
theorem VB (x0:aK) (x1:Dq):bK RV 198 [.val .order,.val .note] [.val .order,.bool] (x0,x1)=JZ x0 x1:=by kernel_rfl
def DZ:aT:=mkSpec [.val .order,.val .note] [.val .order,.bool] true (fun x=>JZ x.1 x.2)
theorem YT:dh PG 198 DZ:=
 have K:CxR RV:=aV.cx (fun _=>rfl) (l:=[(223,uj),(194,kJ),(224,pz)]) ⟨Ph,BX,Jl,trivial⟩
 aI K (aH (l:=[]) rfl trivial) (by kernel_rfl) (fun x y h=>(VB x.1 x.2).trans h) rfl rfl
def EG (x0:aK) (x1:Dq):Option (aK×Int):=af (iQ x0) fun y0 => af (cnd (aB (aB y0)) (Ku x1) (some (uK.mk 0 0 0 0 0 0 0 0 0 0 false 0 0))) fun y1 => af (cnd (aB (aB y0)) (qh y1) (some false)) fun y2 => cnd (bor (bor (aB y0) (aB y2)) (aB (ieq x1.order x0.id))) (some (x0,1)) (cnd (ieq x0.phase 1) (af (JD x0 x1) fun y3 => cnd (aB y3.snd) (some (x0,8)) (some (y3.fst,0))) (cnd (ieq x0.phase 2) (af (JZ x0 x1) fun y4 => cnd (aB y4.snd) (some (x0,8)) (some (y4.fst,0))) (some (x0,8))))
noncomputable def Sm:Cx:={ P:=PG,ety:=ety,fn:=look [(180,dm),(196,DW),(60,lu),(197,DK),(198,DZ)],inl:=dP [],lp:=aY [] }
theorem VL (x0:aK) (x1:Dq):bK Sm 144 [.val .order,.val .note] [.val .order,.int .i64] (x0,x1)=EG x0 x1:=by kernel_rfl
def DR:aT:=mkSpec [.val .order,.val .note] [.val .order,.int .i64] true (fun x=>EG x.1 x.2)
theorem Zg:dh PG 144 DR:=
 have K:CxR Sm:=aV.cx (fun _=>rfl) (l:=[(180,dm),(196,DW),(60,lu),(197,DK),(198,DZ)]) ⟨nC,Zb,Eu,Y7,YT,trivial⟩
 aI K (aH (l:=[]) rfl trivial) (by kernel_rfl) (fun x y h=>(VL x.1 x.2).trans h) rfl rfl
def JL (x0:aW) (x1:Int) (x2:Int):Option (aW×Int):=af (gX x0) fun y0 => cnd (bor (bor (aB y0) (band (aB (ieq x1 1)) (aB (ieq x1 2)))) (ilt x2 0)) (some (x0,1)) (cnd (ieq x1 1) (af (nK x0.pos x2) fun y1 => af (cnd (aB (aB (ieq y1.snd 0))) (gX (aW.mk y1.fst x0.buy x0.sell x0.opn)) (some false)) fun y2 => cnd (bor (aB (ieq y1.snd 0)) (aB y2)) (some (x0,3)) (some (aW.mk y1.fst x0.buy x0.sell x0.opn,0))) (af (uG x0.pos x2) fun y3 => af (cnd (aB (aB (ieq y3.snd 0))) (gX (aW.mk y3.fst x0.buy x0.sell x0.opn)) (some false)) fun y4 => cnd (bor (aB (ieq y3.snd 0)) (aB y4)) (some (x0,3)) (some (aW.mk y3.fst x0.buy x0.sell x0.opn,0))))
noncomputable def XB:Cx:={ P:=PG,ety:=ety,fn:=look [(123,iO),(59,jM),(195,sO)],inl:=dP [],lp:=aY [] }
theorem Zc (x0:aW) (x1:Int) (x2:Int):bK XB 145 [.val .cell,.int .i64,.int .i64] [.val .cell,.int .i64] (x0,x1,x2)=JL x0 x1 x2:=by kernel_rfl
def Iz:aT:=mkSpec [.val .cell,.int .i64,.int .i64] [.val .cell,.int .i64] true (fun x=>JL x.1 x.2.1 x.2.2)
theorem adb:dh PG 145 Iz:=
 have K:CxR XB:=aV.cx (fun _=>rfl) (l:=[(123,iO),(59,jM),(195,sO)]) ⟨xI,Ci,Qd,trivial⟩
 aI K (aH (l:=[]) rfl trivial) (by kernel_rfl) (fun x y h=>(Zc x.1 x.2.1 x.2.2).trans h) rfl rfl
def iG (x0:(List aK)) (x1:Int) (x2:Int):Option ((List aK)):=cnd (band (band (band (ile 0 x1) (ile x1 x2)) (ile x2 (len x0))) (band (ile x2 (len x0)) (ile (len x0) (len x0)))) (cnd (ieq x1 x2) (some x0) (cnd (band (ile 0 x1) (ile x1 (len x0))) (cnd (band (ile 0 x2) (ile x2 (len x0))) (cnd (ile (aj (nti (itn x1)) (len (ax (aG x0 (itn x2)) (itn (aC (len x0) x2))))) (len x0)) (cnd (band (band (ile 0 (nti (nad (itn x1) (itn (len (ax (aG x0 (itn x2)) (itn (aC (len x0) x2)))))))) (ile (nti (nad (itn x1) (itn (len (ax (aG x0 (itn x2)) (itn (aC (len x0) x2))))))) (len x0))) (ile (len x0) (aC (len (dJ x0 (itn x1) (ax (aG x0 (itn x2)) (itn (aC (len x0) x2))))) 0))) (some (ax (aG (dJ (dJ x0 (itn x1) (ax (aG x0 (itn x2)) (itn (aC (len x0) x2)))) (nad 0 (itn (nti (nad (itn x1) (itn (len (ax (aG x0 (itn x2)) (itn (aC (len x0) x2))))))))) (jC aK (itn (aC (len x0) (nti (nad (itn x1) (itn (len (ax (aG x0 (itn x2)) (itn (aC (len x0) x2))))))))))) 0) (nad (itn x1) (itn (len (ax (aG x0 (itn x2)) (itn (aC (len x0) x2)))))))) none) none) none) none)) none
noncomputable def wS:Cx:={ P:=PG,ety:=ety,fn:=look [],inl:=dP [],lp:=aY [] }
theorem DI (x0:(List aK)) (x1:Int) (x2:Int):bK wS 146 [.buf .order,.int .i64,.int .i64] [.ro .order] (x0,x1,x2)=iG x0 x1 x2:=by kernel_rfl
def nO:aT:=mkSpec [.buf .order,.int .i64,.int .i64] [.ro .order] false (fun x=>iG x.1 x.2.1 x.2.2)
theorem Fq:dh PG 146 nO:=
 have K:CxR wS:=aV.cx (fun _=>rfl) (l:=[]) trivial
 aI K (aH (l:=[]) rfl trivial) (by kernel_rfl) (fun x y h=>(DI x.1 x.2.1 x.2.2).trans h) rfl rfl
def Ji (x0:ay) (x1:uK):Option (ay×Int):=af (nK x0.lsn 1) fun y0 => af (cnd (aB (bor (aB (ieq y0.snd 0)) (ile 1000000000 x0.lsn))) (qh x1) (some false)) fun y1 => af (cnd (aB (bor (bor (aB (ieq y0.snd 0)) (ile 1000000000 x0.lsn)) (aB y1))) (jP x0) (some false)) fun y2 => cnd (bor (bor (bor (aB (ieq y0.snd 0)) (ile 1000000000 x0.lsn)) (aB y1)) (aB y2)) (some (x0,1)) (af (dO x0.orders) fun y3 => af (dW x0.cells) fun y4 => af (dV x0.limits) fun y5 => af (gm x0.caps) fun y6 => cnd (ieq x1.kind 1) (af (Cm x1) fun y7 => cnd (ile x1.order x0.last) (cnd (ile x1.order x0.last) (some (x0,1)) (cnd x0.kill (some (x0,5)) (cnd (ieq (len y3) 64) (some (x0,6)) (af (dO y3) fun y8 => af (dW y4) fun y9 => af (dV y5) fun y10 => af (gm y6) fun y11 => af (bn (ay.mk x0.accounts x0.symbols y3 y4 y5 y6 x0.kill x0.last x0.seq x0.lsn) y7.fst.account y7.fst.symbol) fun y12 => cnd (band (ile 0 y12) (ilt y12 (len y4))) (af (iW (ah y4 (itn y12)) y7.fst) fun y13 => cnd (aB (ieq y13.snd 0)) (some (x0,3)) (cnd (ile (len (jR y3 [y7.fst])) 68719476736) (af (fG (ay.mk x0.accounts x0.symbols (jR y3 [y7.fst]) (bf y4 (itn y12) y13.fst) y5 y6 x0.kill y7.fst.id x0.seq x0.lsn) (ay.mk x0.accounts x0.symbols y8 y9 y10 y11 x0.kill x0.last x0.seq x0.lsn) y7.fst.account y7.fst.symbol) fun y14 => cnd (aB (ieq y14 0)) (some (x0,y14)) (some (ay.mk x0.accounts x0.symbols (jR y3 [y7.fst]) (bf y4 (itn y12) y13.fst) y5 y6 x0.kill y7.fst.id x0.seq (wr .i64 (aj x0.lsn 1)),0))) none)) none)))) (cnd (ile x0.accounts x1.account) (cnd (ile x0.accounts x1.account) (some (x0,1)) (cnd x0.kill (some (x0,5)) (cnd (ieq (len y3) 64) (some (x0,6)) (af (dO y3) fun y15 => af (dW y4) fun y16 => af (dV y5) fun y17 => af (gm y6) fun y18 => af (bn (ay.mk x0.accounts x0.symbols y3 y4 y5 y6 x0.kill x0.last x0.seq x0.lsn) y7.fst.account y7.fst.symbol) fun y19 => cnd (band (ile 0 y19) (ilt y19 (len y4))) (af (iW (ah y4 (itn y19)) y7.fst) fun y20 => cnd (aB (ieq y20.snd 0)) (some (x0,3)) (cnd (ile (len (jR y3 [y7.fst])) 68719476736) (af (fG (ay.mk x0.accounts x0.symbols (jR y3 [y7.fst]) (bf y4 (itn y19) y20.fst) y5 y6 x0.kill y7.fst.id x0.seq x0.lsn) (ay.mk x0.accounts x0.symbols y15 y16 y17 y18 x0.kill x0.last x0.seq x0.lsn) y7.fst.account y7.fst.symbol) fun y21 => cnd (aB (ieq y21 0)) (some (x0,y21)) (some (ay.mk x0.accounts x0.symbols (jR y3 [y7.fst]) (bf y4 (itn y19) y20.fst) y5 y6 x0.kill y7.fst.id x0.seq (wr .i64 (aj x0.lsn 1)),0))) none)) none)))) (cnd (ile x0.symbols x1.symbol) (some (x0,1)) (cnd x0.kill (some (x0,5)) (cnd (ieq (len y3) 64) (some (x0,6)) (af (dO y3) fun y22 => af (dW y4) fun y23 => af (dV y5) fun y24 => af (gm y6) fun y25 => af (bn (ay.mk x0.accounts x0.symbols y3 y4 y5 y6 x0.kill x0.last x0.seq x0.lsn) y7.fst.account y7.fst.symbol) fun y26 => cnd (band (ile 0 y26) (ilt y26 (len y4))) (af (iW (ah y4 (itn y26)) y7.fst) fun y27 => cnd (aB (ieq y27.snd 0)) (some (x0,3)) (cnd (ile (len (jR y3 [y7.fst])) 68719476736) (af (fG (ay.mk x0.accounts x0.symbols (jR y3 [y7.fst]) (bf y4 (itn y26) y27.fst) y5 y6 x0.kill y7.fst.id x0.seq x0.lsn) (ay.mk x0.accounts x0.symbols y22 y23 y24 y25 x0.kill x0.last x0.seq x0.lsn) y7.fst.account y7.fst.symbol) fun y28 => cnd (aB (ieq y28 0)) (some (x0,y28)) (some (ay.mk x0.accounts x0.symbols (jR y3 [y7.fst]) (bf y4 (itn y26) y27.fst) y5 y6 x0.kill y7.fst.id x0.seq (wr .i64 (aj x0.lsn 1)),0))) none)) none)))))) (cnd (ieq x1.kind 2) (af (oH (ay.mk x0.accounts x0.symbols y3 y4 y5 y6 x0.kill x0.last x0.seq x0.lsn) x1.order) fun y29 => cnd (ieq y29 (-1)) (some (x0,7)) (cnd (band (ile 0 y29) (ilt y29 (len y3))) (af (Aa (ah y3 (itn y29)) x1.qty x1.price) fun y30 => cnd (aB (ieq y30.snd 0)) (some (x0,8)) (cnd x0.kill (some (x0,5)) (af (dO y3) fun y31 => af (dW y4) fun y32 => af (dV y5) fun y33 => af (gm y6) fun y34 => af (bn (ay.mk x0.accounts x0.symbols y3 y4 y5 y6 x0.kill x0.last x0.seq x0.lsn) (ah y3 (itn y29)).account (ah y3 (itn y29)).symbol) fun y35 => cnd (band (ile 0 y35) (ilt y35 (len y4))) (af (EL (ah y4 (itn y35)) (ah y3 (itn y29))) fun y36 => af (iW y36.fst y30.fst) fun y37 => cnd (aB (ieq y37.snd 0)) (some (x0,3)) (cnd (band (ile 0 y29) (ilt y29 (len y3))) (af (fG (ay.mk x0.accounts x0.symbols (bf y3 (itn y29) y30.fst) (bf y4 (itn y35) y37.fst) y5 y6 x0.kill x0.last x0.seq x0.lsn) (ay.mk x0.accounts x0.symbols y31 y32 y33 y34 x0.kill x0.last x0.seq x0.lsn) (ah y3 (itn y29)).account (ah y3 (itn y29)).symbol) fun y38 => cnd (aB (ieq y38 0)) (some (x0,y38)) (some (ay.mk x0.accounts x0.symbols (bf y3 (itn y29) y30.fst) (bf y4 (itn y35) y37.fst) y5 y6 x0.kill x0.last x0.seq (wr .i64 (aj x0.lsn 1)),0))) none)) none))) none)) (cnd (ieq x1.kind 3) (af (oH (ay.mk x0.accounts x0.symbols y3 y4 y5 y6 x0.kill x0.last x0.seq x0.lsn) x1.order) fun y39 => cnd (ieq y39 (-1)) (some (x0,7)) (cnd (band (ile 0 y39) (ilt y39 (len y3))) (af (Hu (ah y3 (itn y39))) fun y40 => cnd (band (ile 0 y39) (ilt y39 (len y3))) (cnd (aB (ieq y40.snd 0)) (some (x0,y40.snd)) (some (ay.mk x0.accounts x0.symbols (bf y3 (itn y39) y40.fst) y4 y5 y6 x0.kill x0.last x0.seq (wr .i64 (aj x0.lsn 1)),0))) none) none)) (cnd (ieq x1.kind 4) (cnd (ile x0.accounts x1.account) (cnd (ile x0.accounts x1.account) (some (x0,1)) (cnd (ieq x1.symbol (-1)) (cnd (band (ile 0 x1.account) (ilt x1.account (len y6))) (some (ay.mk x0.accounts x0.symbols y3 y4 y5 (bf y6 (itn x1.account) x1.opn) x0.kill x0.last x0.seq (wr .i64 (aj x0.lsn 1)),0)) none) (af (bn (ay.mk x0.accounts x0.symbols y3 y4 y5 y6 x0.kill x0.last x0.seq x0.lsn) x1.account x1.symbol) fun y41 => cnd (band (ile 0 y41) (ilt y41 (len y5))) (some (ay.mk x0.accounts x0.symbols y3 y4 (bf y5 (itn y41) (dL.mk x1.long x1.short x1.opn)) y6 x0.kill x0.last x0.seq (wr .i64 (aj x0.lsn 1)),0)) none))) (cnd (ile x0.symbols x1.symbol) (some (x0,1)) (cnd (ieq x1.symbol (-1)) (cnd (band (ile 0 x1.account) (ilt x1.account (len y6))) (some (ay.mk x0.accounts x0.symbols y3 y4 y5 (bf y6 (itn x1.account) x1.opn) x0.kill x0.last x0.seq (wr .i64 (aj x0.lsn 1)),0)) none) (af (bn (ay.mk x0.accounts x0.symbols y3 y4 y5 y6 x0.kill x0.last x0.seq x0.lsn) x1.account x1.symbol) fun y42 => cnd (band (ile 0 y42) (ilt y42 (len y5))) (some (ay.mk x0.accounts x0.symbols y3 y4 (bf y5 (itn y42) (dL.mk x1.long x1.short x1.opn)) y6 x0.kill x0.last x0.seq (wr .i64 (aj x0.lsn 1)),0)) none)))) (cnd (ieq x1.kind 5) (some (ay.mk x0.accounts x0.symbols y3 y4 y5 y6 x1.on x0.last x0.seq (wr .i64 (aj x0.lsn 1)),0)) (cnd (aB (ieq x1.seq (wr .i64 (aj x0.seq 1)))) (some (x0,11)) (af (oH (ay.mk x0.accounts x0.symbols y3 y4 y5 y6 x0.kill x0.last x1.seq x0.lsn) x1.order) fun y43 => cnd (ieq y43 (-1)) (some (ay.mk x0.accounts x0.symbols y3 y4 y5 y6 x0.kill x0.last x1.seq (wr .i64 (aj x0.lsn 1)),0)) (cnd (band (ile 0 y43) (ilt y43 (len y3))) (af (EG (ah y3 (itn y43)) (Dq.mk x1.seq x1.what x1.order x1.qty x1.price)) fun y44 => cnd (aB (ieq y44.snd 0)) (some (ay.mk x0.accounts x0.symbols y3 y4 y5 y6 x0.kill x0.last x1.seq (wr .i64 (aj x0.lsn 1)),0)) (af (bn (ay.mk x0.accounts x0.symbols y3 y4 y5 y6 x0.kill x0.last x1.seq x0.lsn) (ah y3 (itn y43)).account (ah y3 (itn y43)).symbol) fun y45 => cnd (band (ile 0 y45) (ilt y45 (len y4))) (af (EL (ah y4 (itn y45)) (ah y3 (itn y43))) fun y46 => af (iW (ah (bf y4 (itn y45) y46.fst) (itn y45)) y44.fst) fun y47 => cnd (ieq x1.what 3) (af (JL (ah (bf (bf y4 (itn y45) y46.fst) (itn y45) y47.fst) (itn y45)) (ah y3 (itn y43)).side x1.qty) fun y48 => cnd (band (ile 0 y43) (ilt y43 (len y3))) (cnd (ieq y44.fst.phase 3) (af (iG (bf y3 (itn y43) y44.fst) y43 (wr .i64 (aj y43 1))) fun y49 => some (ay.mk x0.accounts x0.symbols y49 (bf (bf (bf y4 (itn y45) y46.fst) (itn y45) y47.fst) (itn y45) y48.fst) y5 y6 x0.kill x0.last x1.seq (wr .i64 (aj x0.lsn 1)),0)) (some (ay.mk x0.accounts x0.symbols (bf y3 (itn y43) y44.fst) (bf (bf (bf y4 (itn y45) y46.fst) (itn y45) y47.fst) (itn y45) y48.fst) y5 y6 x0.kill x0.last x1.seq (wr .i64 (aj x0.lsn 1)),0))) none) (cnd (band (ile 0 y43) (ilt y43 (len y3))) (cnd (ieq y44.fst.phase 3) (af (iG (bf y3 (itn y43) y44.fst) y43 (wr .i64 (aj y43 1))) fun y50 => some (ay.mk x0.accounts x0.symbols y50 (bf (bf y4 (itn y45) y46.fst) (itn y45) y47.fst) y5 y6 x0.kill x0.last x1.seq (wr .i64 (aj x0.lsn 1)),0)) (some (ay.mk x0.accounts x0.symbols (bf y3 (itn y43) y44.fst) (bf (bf y4 (itn y45) y46.fst) (itn y45) y47.fst) y5 y6 x0.kill x0.last x1.seq (wr .i64 (aj x0.lsn 1)),0))) none)) none)) none))))))))
noncomputable def aaF:Cx:={ P:=PG,ety:=ety,fn:=look [(59,jM),(60,lu),(18,iP),(132,nZ),(133,pF),(134,o5),(135,qU),(136,BA),(137,dX),(138,oV),(139,sW),(140,Fg),(141,Am),(142,Ko),(143,ES),(144,DR),(145,Iz),(146,nO)],inl:=dP [61,62,63,64,65,66],lp:=aY [] }
theorem aaT (x0:ay) (x1:uK):bK aaF 23 [.val .state,.val .recd] [.val .state,.int .i64] (x0,x1)=Ji x0 x1:=by kernel_rfl
def Kv:aT:=mkSpec [.val .state,.val .recd] [.val .state,.int .i64] false (fun x=>Ji x.1 x.2)
theorem adR:dh PG 23 Kv:=
 have K:CxR aaF:=aV.cx (fun _=>rfl) (l:=[(59,jM),(60,lu),(18,iP),(132,nZ),(133,pF),(134,o5),(135,qU),(136,BA),(137,dX),(138,oV),(139,sW),(140,Fg),(141,Am),(142,Ko),(143,ES),(144,DR),(145,Iz),(146,nO)]) ⟨Ci,Eu,xX,Gy,Ih,Ib,Ls,XP,pI,KO,Nr,aaZ,Vr,aeH,abE,Zg,adb,Fq,trivial⟩
 aI K (aH (l:=[]) rfl trivial) (by kernel_rfl) (fun x y h=>(aaT x.1 x.2).trans h) rfl rfl
def Dj (x0:Int):Option (Bool):=some (bor (bor (band (ile 97 x0) (ile x0 122)) (band (ile 48 x0) (ile x0 57))) (ieq x0 46))
noncomputable def UQ:Cx:={ P:=PG,ety:=ety,fn:=look [],inl:=dP [],lp:=aY [] }
theorem Xp (x0:Int):bK UQ 187 [.int .u8] [.bool] x0=Dj x0:=by kernel_rfl
def EQ:aT:=mkSpec [.int .u8] [.bool] true (fun x=>Dj x)
theorem aaU:dh PG 187 EQ:=
 have K:CxR UQ:=aV.cx (fun _=>rfl) (l:=[]) trivial
 aI K (aH (l:=[]) rfl trivial) (by kernel_rfl) (fun x y h=>(Xp x).trans h) rfl rfl
def KQ:LSh:=⟨69,[(5,.int .i64),(0,.str)],[],[],[(6,.int .i64),(2,.bool)],[],[]⟩
@[reducible] def KX:List gQ:=[⟨.ret,[(2,.bool)],[],[]⟩,⟨.exit 0,[(2,.bool)],[],[]⟩]
def pX (p0:Int) (p1:(List UInt8)) (v0:Int) (v1:Bool):Option ((Int×Bool) ⊕ ((Bool) ⊕ ((Bool)))):=cnd (ilt v0 p0) (cnd (band (ile 0 v0) (ilt v0 (len p1))) (af (Dj (Xe p1 (itn v0))) fun y0 => cnd (aB y0) (some (Sum.inr (Sum.inl false))) (some (Sum.inl (wr .i64 (aj v0 1),v1)))) none) (some (Sum.inr (Sum.inr v1)))
def Jz:fM:=KQ.spec KX [7,8,3,9,10,11,12,13,2,14,6] (fun p v=>pX p.1 p.2 v.1 v.2)
def wQ (x0:(List UInt8)):Option (Bool):=af (bG (fun v => pX (len x0) x0 v.fst v.snd) LF (0,false)) fun y0 => qO y0 (fun y1 => some y1) fun y1 => some (band (ile 1 (len x0)) (ile (len x0) 16))
noncomputable def Kq:Cx:={ P:=PG,ety:=ety,fn:=look [(187,EQ)],inl:=dP [],lp:=aY [(126,26,Jz)] }
theorem Qk (p0:Int) (p1:(List UInt8)) (v0:Int) (v1:Bool):jk Kq 900 126 26 (eF PG 126 26) KQ KX (p0,p1) (v0,v1)=pX p0 p1 v0 v1:=by kernel_rfl
theorem VH (x0:(List UInt8)):bK Kq 126 [.str] [.bool] x0=wQ x0:=by kernel_rfl
def uw:aT:=mkSpec [.str] [.bool] true (fun x=>wQ x)
theorem O5:dh PG 126 uw:=
 have K:CxR Kq:=aV.cx (fun _=>rfl) (l:=[(187,EQ)]) ⟨aaU,trivial⟩
 aI K (aH (l:=[(126,26,Jz)]) rfl ⟨cu (n:=900) (f:=126) K (by kernel_rfl) (by kernel_rfl) (by kernel_rfl) (by kernel_rfl) (by kernel_rfl) (fun p v r h=>(Qk p.1 p.2 v.1 v.2).trans h),trivial⟩) (by kernel_rfl) (fun x y h=>(VH x).trans h) rfl rfl
def Jr:LSh:=⟨93,[(29,.int .i64),(28,.ro .file)],[(1,.mp 8 0)],[(8,[.val .disk])],[(30,.int .i64),(3,.int .i64),(2,.bool)],[],[]⟩
@[reducible] def Jj:List gQ:=[⟨.ret,[(2,.bool)],[],[]⟩,⟨.exit 0,[(2,.bool)],[],[]⟩]
def oK (p0:Int) (p1:(List ak)) (p2:ai) (v0:Int) (v1:Int) (v2:Bool):Option ((Int×Int×Bool) ⊕ ((Bool) ⊕ ((Bool)))):=cnd (ilt v0 p0) (cnd (band (ile 0 v0) (ilt v0 (len p1))) (af (wQ (ah p1 (itn v0)).name) fun y0 => cnd (bor (band (ile 0 (wr .i64 (aC v0 1))) (ilt (wr .i64 (aC v0 1)) (len p2.files))) (aB (band (aB (aB y0)) (ilt 0 v0)))) (cnd (bor (bor (bor (bor (aB y0) (band (ilt 0 v0) (aB (slt (ah p2.files (itn (wr .i64 (aC v0 1)))).name (ah p1 (itn v0)).name)))) (ilt (ah p1 (itn v0)).sure 0)) (ilt (len (ah p1 (itn v0)).data) (ah p1 (itn v0)).sure)) (ilt v1 (len (ah p1 (itn v0)).data))) (some (Sum.inr (Sum.inl false))) (some (Sum.inl (wr .i64 (aj v0 1),wr .i64 (aC v1 (len (ah p1 (itn v0)).data)),v2)))) none) none) (some (Sum.inr (Sum.inr v2)))
def Hw:fM:=Jr.spec Jj [31,32,33,34,5,4,35,36,37,38,39,40,41,42,43,44,45,46,47,48,49,50,51,52,53,54,55,56,57,58,59,60,61,62,63,64,65,66,67,68,69,70,71,72,73,74,2,75,76,77,78,79,3,80,30] (fun p v=>oK p.1 p.2.1 p.2.2 v.1 v.2.1 v.2.2)
def qm (x0:ai):Option (Bool):=cnd (bor (bor (bor (ilt x0.room 0) (ilt 65536 x0.room)) (ilt x0.fuse (-1))) (ilt 64 (len x0.files))) (some false) (af (bG (fun v => oK (len x0.files) x0.files x0 v.fst v.snd.fst v.snd.snd) LF (0,x0.room,false)) fun y0 => qO y0 (fun y1 => some y1) fun y1 => some true)
noncomputable def Kw:Cx:={ P:=PG,ety:=ety,fn:=look [(126,uw)],inl:=dP [],lp:=aY [(52,122,Hw)] }
theorem OT (p0:Int) (p1:(List ak)) (p2:ai) (v0:Int) (v1:Int) (v2:Bool):jk Kw 900 52 122 (eF PG 52 122) Jr Jj (p0,p1,p2) (v0,v1,v2)=oK p0 p1 p2 v0 v1 v2:=by kernel_rfl
theorem Vz (x0:ai):bK Kw 52 [.val .disk] [.bool] x0=qm x0:=by kernel_rfl
def nN:aT:=mkSpec [.val .disk] [.bool] true (fun x=>qm x)
theorem Ir:dh PG 52 nN:=
 have K:CxR Kw:=aV.cx (fun _=>rfl) (l:=[(126,uw)]) ⟨O5,trivial⟩
 aI K (aH (l:=[(52,122,Hw)]) rfl ⟨cu (n:=900) (f:=52) K (by kernel_rfl) (by kernel_rfl) (by kernel_rfl) (by kernel_rfl) (by kernel_rfl) (fun p v r h=>(OT p.1 p.2.1 p.2.2 v.1 v.2.1 v.2.2).trans h),trivial⟩) (by kernel_rfl) (fun x y h=>(Vz x).trans h) rfl rfl
def jA (x0:Int):Option ((List UInt8)):=cnd (ieq (Ip x0 2) 0) (some [(UInt8.ofNat 115),(UInt8.ofNat 108),(UInt8.ofNat 111),(UInt8.ofNat 116),(UInt8.ofNat 46),(UInt8.ofNat 48)]) (some [(UInt8.ofNat 115),(UInt8.ofNat 108),(UInt8.ofNat 111),(UInt8.ofNat 116),(UInt8.ofNat 46),(UInt8.ofNat 49)])
noncomputable def UX:Cx:={ P:=PG,ety:=ety,fn:=look [],inl:=dP [],lp:=aY [] }
theorem YA (x0:Int):bK UX 72 [.int .i64] [.str] x0=jA x0:=by kernel_rfl
def wF:aT:=mkSpec [.int .i64] [.str] true (fun x=>jA x)
theorem QS:dh PG 72 wF:=
 have K:CxR UX:=aV.cx (fun _=>rfl) (l:=[]) trivial
 aI K (aH (l:=[]) rfl trivial) (by kernel_rfl) (fun x y h=>(YA x).trans h) rfl rfl
def jV:LSh:=⟨88,[(7,.int .i64),(0,.ro .str)],[(1,.fn 149 [])],[],[(8,.int .i64),(4,.int .i64)],[],[]⟩
@[reducible] def jU:List gQ:=[⟨.ret,[(4,.int .i64)],[],[]⟩,⟨.exit 0,[(4,.int .i64)],[],[]⟩]
def bM (p0:Int) (p1:(List (List UInt8))) (v0:Int) (v1:Int):Option ((Int×Int) ⊕ ((Int) ⊕ ((Int)))):=cnd (ilt v0 p0) (cnd (band (ile 0 v0) (ilt v0 (len p1))) (af (wQ (ah p1 (itn v0))) fun y0 => cnd (aB y0) (some (Sum.inr (Sum.inl v0))) (some (Sum.inl (wr .i64 (aj v0 1),v1)))) none) (some (Sum.inr (Sum.inr v1)))
def jQ:fM:=jV.spec jU [9,10,5,11,12,13,14,15,16,17,4,18,8] (fun p v=>bM p.1 p.2 v.1 v.2)
def gY (x0:ai) (x1:(List (List UInt8))):Option (Int):=af (qm x0) fun y0 => cnd (aB y0) (some 1) (cnd x0.down (some 9) (af (bG (fun v => bM (len x1) x1 v.fst v.snd) LF (0,0)) fun y1 => qO y1 (fun y2 => cnd (ile 0 y2) (some 1) (some 0)) fun y2 => some 0))
noncomputable def JI:Cx:={ P:=PG,ety:=ety,fn:=look [(52,nN),(126,uw)],inl:=dP [148,200,149],lp:=aY [(1401952796528185786568,26,jQ)] }
theorem oZ (p0:Int) (p1:(List (List UInt8))) (v0:Int) (v1:Int):jk JI 900 1401952796528185786568 26 (eF PG 200 26) jV jU (p0,p1) (v0,v1)=bM p0 p1 v0 v1:=by kernel_rfl
theorem Vq (x0:ai) (x1:(List (List UInt8))):bK JI 76 [.val .disk,.ro .str] [.int .i64] (x0,x1)=gY x0 x1:=by kernel_rfl
def fP:aT:=mkSpec [.val .disk,.ro .str] [.int .i64] true (fun x=>gY x.1 x.2)
theorem uD:dh PG 76 fP:=
 have K:CxR JI:=aV.cx (fun _=>rfl) (l:=[(52,nN),(126,uw)]) ⟨Ir,O5,trivial⟩
 aI K (aH (l:=[(1401952796528185786568,26,jQ)]) rfl ⟨cu (n:=900) (f:=200) K (by kernel_rfl) (by kernel_rfl) (by kernel_rfl) (by kernel_rfl) (by kernel_rfl) (fun p v r h=>(oZ p.1 p.2 v.1 v.2).trans h),trivial⟩) (by kernel_rfl) (fun x y h=>(Vq x.1 x.2).trans h) rfl rfl
def ql (x0:(List UInt8)) (x1:(List UInt8)):Option (Int):=some (aaH x0 x1)
def vS:aT:=mkSpec [.str,.str] [.int .i64] true (fun x=>ql x.1 x.2)
def OO:Go.Shelf.Ren:=⟨fun | 106=>152 | 213=>201 | 265=>225 | n=>n,fun | 9=>9 | 3=>3 | n=>n,fun | n=>n⟩
theorem BD:Go.Proofs.Lays.n106 PG OO where
 mixed:=by kernel_rfl
 f106:=by kernel_rfl
 f213:=by kernel_rfl
 f265:=by kernel_rfl
 t3:=by kernel_rfl
 a3:=fun w=>by kernel_rfl
 z3:=fun w=>by kernel_rfl
 v3:=fun w=>by kernel_rfl
 t9:=by kernel_rfl
 a9:=fun w=>by kernel_rfl
 z9:=fun w=>by kernel_rfl
 v9:=fun w=>by kernel_rfl
theorem Qq:dh PG 152 vS:=af4 aV BD (by kernel_rfl) fun x y h=>(Option.some.inj h).symm
def jG:LSh:=⟨85,[(0,.ro .file),(1,.str)],[(2,.fn 151 [])],[],[(10,.int .i64),(9,.int .i64)],[],[]⟩
@[reducible] def jH:List gQ:=[⟨.exit 0,[(9,.int .i64)],[],[]⟩]
def bY (p0:(List ak)) (p1:(List UInt8)) (v0:Int) (v1:Int):Option ((Int×Int) ⊕ ((Int))):=cnd (ilt v1 v0) (cnd (band (ile 0 (wr .i64 (bU .u64 (wr .u64 (wr .i64 (aj v1 v0))) 1))) (ilt (wr .i64 (bU .u64 (wr .u64 (wr .i64 (aj v1 v0))) 1)) (len p0))) (af (ql (ah p0 (itn (wr .i64 (bU .u64 (wr .u64 (wr .i64 (aj v1 v0))) 1)))).name p1) fun y0 => cnd (ilt y0 0) (some (Sum.inl (v0,wr .i64 (aj (wr .i64 (bU .u64 (wr .u64 (wr .i64 (aj v1 v0))) 1)) 1)))) (some (Sum.inl (wr .i64 (bU .u64 (wr .u64 (wr .i64 (aj v1 v0))) 1),v1)))) none) (some (Sum.inr v1))
def jy:fM:=jG.spec jH [15,16,17,18,19,20,21,22,23,11,24,25,26,27,28,29,30,31,32,33,9,34,10] (fun p v=>bY p.1 p.2 v.1 v.2)
def bZ (x0:ai) (x1:(List UInt8)):Option (Int×Bool):=af (bG (fun v => bY x0.files x1 v.fst v.snd) LF (len x0.files,0)) fun y0 => cnd (bor (band (ile 0 y0) (ilt y0 (len x0.files))) (aB (ilt y0 (len x0.files)))) (cnd (ilt y0 (len x0.files)) (af (ql (ah x0.files (itn y0)).name x1) fun y1 => some (y0,band (ilt y0 (len x0.files)) (ieq y1 0))) (some (y0,bor (ilt y0 (len x0.files)) false))) none
noncomputable def MR:Cx:={ P:=PG,ety:=ety,fn:=look [(152,vS)],inl:=dP [150,151],lp:=aY [(330712535190,60,jy)] }
theorem oC (p0:(List ak)) (p1:(List UInt8)) (v0:Int) (v1:Int):jk MR 900 330712535190 60 (eF PG 150 60) jG jH (p0,p1) (v0,v1)=bY p0 p1 v0 v1:=by kernel_rfl
theorem Yj (x0:ai) (x1:(List UInt8)):bK MR 77 [.val .disk,.str] [.int .i64,.bool] (x0,x1)=bZ x0 x1:=by kernel_rfl
def gZ:aT:=mkSpec [.val .disk,.str] [.int .i64,.bool] true (fun x=>bZ x.1 x.2)
theorem wI:dh PG 77 gZ:=
 have K:CxR MR:=aV.cx (fun _=>rfl) (l:=[(152,vS)]) ⟨Qq,trivial⟩
 aI K (aH (l:=[(330712535190,60,jy)]) rfl ⟨cu (n:=900) (f:=150) K (by kernel_rfl) (by kernel_rfl) (by kernel_rfl) (by kernel_rfl) (by kernel_rfl) (fun p v r h=>(oC p.1 p.2 v.1 v.2).trans h),trivial⟩) (by kernel_rfl) (fun x y h=>(Yj x.1 x.2).trans h) rfl rfl
def bP (x0:(List Int)):Option ((List Int)):=SE (len x0) fun y0 => cnd (beq y0 true) (some []) (cnd (ile (len x0) 68719476736) (some x0) none)
noncomputable def Eg:Cx:={ P:=PG,ety:=ety,fn:=look [],inl:=dP [],lp:=aY [] }
theorem KH (x0:(List Int)):bK Eg 56 [.ro .u8] [.buf .u8] x0=bP x0:=by kernel_rfl
def iI:aT:=mkSpec [.ro .u8] [.buf .u8] true (fun x=>bP x)
theorem vI:dh PG 56 iI:=
 have K:CxR Eg:=aV.cx (fun _=>rfl) (l:=[]) trivial
 aI K (aH (l:=[]) rfl trivial) (by kernel_rfl) (fun x y h=>(KH x).trans h) rfl rfl
def jD (x0:ai) (x1:(List UInt8)):Option ((List Int)×Int):=af (gY x0 [x1]) fun y0 => cnd (aB (ieq y0 0)) (cnd (aB (ieq y0 0)) (some ([],y0)) (cnd (ilt 0 (len x0.files)) (af (bP (ah x0.files 0).data) fun y1 => some (y1,0)) none)) (af (bZ x0 x1) fun y2 => cnd (aB y2.snd) (some ([],7)) (cnd (band (ile 0 y2.fst) (ilt y2.fst (len x0.files))) (af (bP (ah x0.files (itn y2.fst)).data) fun y3 => some (y3,0)) none))
noncomputable def Vf:Cx:={ P:=PG,ety:=ety,fn:=look [(76,fP),(77,gZ),(56,iI)],inl:=dP [55],lp:=aY [] }
theorem WG (x0:ai) (x1:(List UInt8)):bK Vf 21 [.val .disk,.str] [.buf .u8,.int .i64] (x0,x1)=jD x0 x1:=by kernel_rfl
def jw:aT:=mkSpec [.val .disk,.str] [.buf .u8,.int .i64] true (fun x=>jD x.1 x.2)
theorem zW:dh PG 21 jw:=
 have K:CxR Vf:=aV.cx (fun _=>rfl) (l:=[(76,fP),(77,gZ),(56,iI)]) ⟨uD,wI,vI,trivial⟩
 aI K (aH (l:=[]) rfl trivial) (by kernel_rfl) (fun x y h=>(WG x.1 x.2).trans h) rfl rfl
def Pn:LSh:=⟨67,[],[],[],[(4,.int .i64),(0,.int .u32)],[],[]⟩
@[reducible] def Py:List gQ:=[⟨.exit 0,[(0,.int .u32)],[],[]⟩]
def yx (v0:Int) (v1:Int):Option ((Int×Int) ⊕ ((Int))):=cnd (ilt v0 4) (cnd (ieq (wr .u32 (ng .u32 v1 1)) 1) (some (Sum.inl (wr .i64 (aj v0 1),wr .u32 (eU .u32 (bU .u32 v1 1) 3988292384)))) (some (Sum.inl (wr .i64 (aj v0 1),bU .u32 v1 1)))) (some (Sum.inr v1))
def MJ:fM:=Pn.spec Py [5,6,7,3,8,9,0,10,11,12,13,14,4] (fun p v=>yx v.1 v.2)
def bJ (x0:Int):Option (Int):=af (bG (fun v => yx v.fst v.snd) LF (0,x0)) fun y0 => some y0
noncomputable def P6:Cx:={ P:=PG,ety:=ety,fn:=look [],inl:=dP [],lp:=aY [(199,26,MJ)] }
theorem TF (v0:Int) (v1:Int):jk P6 900 199 26 (eF PG 199 26) Pn Py () (v0,v1)=yx v0 v1:=by kernel_rfl
theorem YS (x0:Int):bK P6 199 [.int .u32] [.int .u32] x0=bJ x0:=by kernel_rfl
def xE:aT:=mkSpec [.int .u32] [.int .u32] true (fun x=>bJ x)
theorem UR:dh PG 199 xE:=
 have K:CxR P6:=aV.cx (fun _=>rfl) (l:=[]) trivial
 aI K (aH (l:=[(199,26,MJ)]) rfl ⟨cu (n:=900) (f:=199) K (by kernel_rfl) (by kernel_rfl) (by kernel_rfl) (by kernel_rfl) (by kernel_rfl) (fun p v r h=>(TF v.1 v.2).trans h),trivial⟩) (by kernel_rfl) (fun x y h=>(YS x).trans h) rfl rfl
def mM (x0:dB):Option (acO):=af (bJ (wr .u32 (ng .u32 (wr .u32 (eU .u32 4294967295 (wr .u32 (wr .u8 (bU .i64 x0.gen 56))))) 15))) fun y0 => af (bJ (wr .u32 (ng .u32 (wr .u32 (eU .u32 y0 (bU .u32 (wr .u32 (eU .u32 4294967295 (wr .u32 (wr .u8 (bU .i64 x0.gen 56))))) 4))) 15))) fun y1 => let t8:=(wr .u32 (eU .u32 (wr .u32 (eU .u32 y1 (bU .u32 (wr .u32 (eU .u32 y0 (bU .u32 (wr .u32 (eU .u32 4294967295 (wr .u32 (wr .u8 (bU .i64 x0.gen 56))))) 4))) 4))) (wr .u32 (wr .u8 (bU .i64 x0.gen 48)))));af (bJ (wr .u32 (ng .u32 t8 15))) fun y2 => af (bJ (wr .u32 (ng .u32 (wr .u32 (eU .u32 y2 (bU .u32 t8 4))) 15))) fun y3 => let t5:=(wr .u32 (eU .u32 (wr .u32 (eU .u32 y3 (bU .u32 (wr .u32 (eU .u32 y2 (bU .u32 t8 4))) 4))) (wr .u32 (wr .u8 (bU .i64 x0.gen 40)))));af (bJ (wr .u32 (ng .u32 t5 15))) fun y4 => af (bJ (wr .u32 (ng .u32 (wr .u32 (eU .u32 y4 (bU .u32 t5 4))) 15))) fun y5 => let t14:=(wr .u32 (eU .u32 (wr .u32 (eU .u32 y5 (bU .u32 (wr .u32 (eU .u32 y4 (bU .u32 t5 4))) 4))) (wr .u32 (wr .u8 (bU .i64 x0.gen 32)))));af (bJ (wr .u32 (ng .u32 t14 15))) fun y6 => af (bJ (wr .u32 (ng .u32 (wr .u32 (eU .u32 y6 (bU .u32 t14 4))) 15))) fun y7 => let t1:=(wr .u32 (eU .u32 (wr .u32 (eU .u32 y7 (bU .u32 (wr .u32 (eU .u32 y6 (bU .u32 t14 4))) 4))) (wr .u32 (wr .u8 (bU .i64 x0.gen 24)))));af (bJ (wr .u32 (ng .u32 t1 15))) fun y8 => af (bJ (wr .u32 (ng .u32 (wr .u32 (eU .u32 y8 (bU .u32 t1 4))) 15))) fun y9 => let t15:=(wr .u32 (eU .u32 (wr .u32 (eU .u32 y9 (bU .u32 (wr .u32 (eU .u32 y8 (bU .u32 t1 4))) 4))) (wr .u32 (wr .u8 (bU .i64 x0.gen 16)))));af (bJ (wr .u32 (ng .u32 t15 15))) fun y10 => af (bJ (wr .u32 (ng .u32 (wr .u32 (eU .u32 y10 (bU .u32 t15 4))) 15))) fun y11 => let t7:=(wr .u32 (eU .u32 (wr .u32 (eU .u32 y11 (bU .u32 (wr .u32 (eU .u32 y10 (bU .u32 t15 4))) 4))) (wr .u32 (wr .u8 (bU .i64 x0.gen 8)))));af (bJ (wr .u32 (ng .u32 t7 15))) fun y12 => af (bJ (wr .u32 (ng .u32 (wr .u32 (eU .u32 y12 (bU .u32 t7 4))) 15))) fun y13 => let t3:=(wr .u32 (eU .u32 (wr .u32 (eU .u32 y13 (bU .u32 (wr .u32 (eU .u32 y12 (bU .u32 t7 4))) 4))) (wr .u32 (wr .u8 (bU .i64 x0.gen 0)))));af (bJ (wr .u32 (ng .u32 t3 15))) fun y14 => af (bJ (wr .u32 (ng .u32 (wr .u32 (eU .u32 y14 (bU .u32 t3 4))) 15))) fun y15 => let t10:=(wr .u32 (eU .u32 (wr .u32 (eU .u32 y15 (bU .u32 (wr .u32 (eU .u32 y14 (bU .u32 t3 4))) 4))) (wr .u32 (wr .u8 (bU .i64 x0.lsn 56)))));af (bJ (wr .u32 (ng .u32 t10 15))) fun y16 => af (bJ (wr .u32 (ng .u32 (wr .u32 (eU .u32 y16 (bU .u32 t10 4))) 15))) fun y17 => let t0:=(wr .u32 (eU .u32 (wr .u32 (eU .u32 y17 (bU .u32 (wr .u32 (eU .u32 y16 (bU .u32 t10 4))) 4))) (wr .u32 (wr .u8 (bU .i64 x0.lsn 48)))));af (bJ (wr .u32 (ng .u32 t0 15))) fun y18 => af (bJ (wr .u32 (ng .u32 (wr .u32 (eU .u32 y18 (bU .u32 t0 4))) 15))) fun y19 => let t11:=(wr .u32 (eU .u32 (wr .u32 (eU .u32 y19 (bU .u32 (wr .u32 (eU .u32 y18 (bU .u32 t0 4))) 4))) (wr .u32 (wr .u8 (bU .i64 x0.lsn 40)))));af (bJ (wr .u32 (ng .u32 t11 15))) fun y20 => af (bJ (wr .u32 (ng .u32 (wr .u32 (eU .u32 y20 (bU .u32 t11 4))) 15))) fun y21 => let t6:=(wr .u32 (eU .u32 (wr .u32 (eU .u32 y21 (bU .u32 (wr .u32 (eU .u32 y20 (bU .u32 t11 4))) 4))) (wr .u32 (wr .u8 (bU .i64 x0.lsn 32)))));af (bJ (wr .u32 (ng .u32 t6 15))) fun y22 => af (bJ (wr .u32 (ng .u32 (wr .u32 (eU .u32 y22 (bU .u32 t6 4))) 15))) fun y23 => let t12:=(wr .u32 (eU .u32 (wr .u32 (eU .u32 y23 (bU .u32 (wr .u32 (eU .u32 y22 (bU .u32 t6 4))) 4))) (wr .u32 (wr .u8 (bU .i64 x0.lsn 24)))));af (bJ (wr .u32 (ng .u32 t12 15))) fun y24 => af (bJ (wr .u32 (ng .u32 (wr .u32 (eU .u32 y24 (bU .u32 t12 4))) 15))) fun y25 => let t2:=(wr .u32 (eU .u32 (wr .u32 (eU .u32 y25 (bU .u32 (wr .u32 (eU .u32 y24 (bU .u32 t12 4))) 4))) (wr .u32 (wr .u8 (bU .i64 x0.lsn 16)))));af (bJ (wr .u32 (ng .u32 t2 15))) fun y26 => af (bJ (wr .u32 (ng .u32 (wr .u32 (eU .u32 y26 (bU .u32 t2 4))) 15))) fun y27 => let t13:=(wr .u32 (eU .u32 (wr .u32 (eU .u32 y27 (bU .u32 (wr .u32 (eU .u32 y26 (bU .u32 t2 4))) 4))) (wr .u32 (wr .u8 (bU .i64 x0.lsn 8)))));af (bJ (wr .u32 (ng .u32 t13 15))) fun y28 => af (bJ (wr .u32 (ng .u32 (wr .u32 (eU .u32 y28 (bU .u32 t13 4))) 15))) fun y29 => let t4:=(wr .u32 (eU .u32 (wr .u32 (eU .u32 y29 (bU .u32 (wr .u32 (eU .u32 y28 (bU .u32 t13 4))) 4))) (wr .u32 (wr .u8 (bU .i64 x0.lsn 0)))));af (bJ (wr .u32 (ng .u32 t4 15))) fun y30 => af (bJ (wr .u32 (ng .u32 (wr .u32 (eU .u32 y30 (bU .u32 t4 4))) 15))) fun y31 => let t9:=(wr .u32 (eU .u32 4294967295 (wr .u32 (eU .u32 y31 (bU .u32 (wr .u32 (eU .u32 y30 (bU .u32 t4 4))) 4)))));some (acO.mk (wr .u8 (bU .i64 x0.gen 56)) (wr .u8 (bU .i64 x0.gen 48)) (wr .u8 (bU .i64 x0.gen 40)) (wr .u8 (bU .i64 x0.gen 32)) (wr .u8 (bU .i64 x0.gen 24)) (wr .u8 (bU .i64 x0.gen 16)) (wr .u8 (bU .i64 x0.gen 8)) (wr .u8 (bU .i64 x0.gen 0)) (wr .u8 (bU .i64 x0.lsn 56)) (wr .u8 (bU .i64 x0.lsn 48)) (wr .u8 (bU .i64 x0.lsn 40)) (wr .u8 (bU .i64 x0.lsn 32)) (wr .u8 (bU .i64 x0.lsn 24)) (wr .u8 (bU .i64 x0.lsn 16)) (wr .u8 (bU .i64 x0.lsn 8)) (wr .u8 (bU .i64 x0.lsn 0)) (wr .u8 (bU .u32 t9 0)) (wr .u8 (bU .u32 t9 8)) (wr .u8 (bU .u32 t9 16)) (wr .u8 (bU .u32 t9 24)))
noncomputable def QI:Cx:={ P:=PG,ety:=ety,fn:=look [(199,xE)],inl:=dP [71,147],lp:=aY [] }
theorem VN (x0:dB):bK QI 84 [.val .slot] [.val .a20] x0=mM x0:=by kernel_rfl
def uo:aT:=mkSpec [.val .slot] [.val .a20] true (fun x=>mM x)
theorem Pq:dh PG 84 uo:=
 have K:CxR QI:=aV.cx (fun _=>rfl) (l:=[(199,xE)]) ⟨UR,trivial⟩
 aI K (aH (l:=[]) rfl trivial) (by kernel_rfl) (fun x y h=>(VN x).trans h) rfl rfl
def sQ (x0:dB):Option (Bool):=some (band (band (band (ile 1 x0.gen) (ile x0.gen 1000000000)) (ile 0 x0.lsn)) (ile x0.lsn 1000000000))
noncomputable def Rz:Cx:={ P:=PG,ety:=ety,fn:=look [],inl:=dP [],lp:=aY [] }
theorem VR (x0:dB):bK Rz 83 [.val .slot] [.bool] x0=sQ x0:=by kernel_rfl
def uh:aT:=mkSpec [.val .slot] [.bool] true (fun x=>sQ x)
theorem O8:dh PG 83 uh:=
 have K:CxR Rz:=aV.cx (fun _=>rfl) (l:=[]) trivial
 aI K (aH (l:=[]) rfl trivial) (by kernel_rfl) (fun x y h=>(VR x).trans h) rfl rfl
def kS (x0:(List Int)):Option (dB×Int):=cnd (aB (ieq (len x0) 20)) (some (dB.mk 0 0,2)) (cnd (ilt 0 (len x0)) (cnd (ilt 8 (len x0)) (cnd (ilt 1 (len x0)) (cnd (ilt 9 (len x0)) (cnd (ilt 2 (len x0)) (cnd (ilt 10 (len x0)) (cnd (ilt 3 (len x0)) (cnd (ilt 11 (len x0)) (cnd (ilt 4 (len x0)) (cnd (ilt 12 (len x0)) (cnd (ilt 5 (len x0)) (cnd (ilt 13 (len x0)) (cnd (ilt 6 (len x0)) (cnd (ilt 14 (len x0)) (cnd (ilt 7 (len x0)) (cnd (ilt 15 (len x0)) (af (mM (dB.mk (wr .i64 (ior .i64 (wr .i64 (nY .i64 (wr .i64 (ior .i64 (wr .i64 (nY .i64 (wr .i64 (ior .i64 (wr .i64 (nY .i64 (wr .i64 (ior .i64 (wr .i64 (nY .i64 (wr .i64 (ior .i64 (wr .i64 (nY .i64 (wr .i64 (ior .i64 (wr .i64 (nY .i64 (wr .i64 (ior .i64 (wr .i64 (nY .i64 (wr .i64 (ior .i64 0 (wr .i64 (ah x0 0)))) 8)) (wr .i64 (ah x0 1)))) 8)) (wr .i64 (ah x0 2)))) 8)) (wr .i64 (ah x0 3)))) 8)) (wr .i64 (ah x0 4)))) 8)) (wr .i64 (ah x0 5)))) 8)) (wr .i64 (ah x0 6)))) 8)) (wr .i64 (ah x0 7)))) (wr .i64 (ior .i64 (wr .i64 (nY .i64 (wr .i64 (ior .i64 (wr .i64 (nY .i64 (wr .i64 (ior .i64 (wr .i64 (nY .i64 (wr .i64 (ior .i64 (wr .i64 (nY .i64 (wr .i64 (ior .i64 (wr .i64 (nY .i64 (wr .i64 (ior .i64 (wr .i64 (nY .i64 (wr .i64 (ior .i64 (wr .i64 (nY .i64 (wr .i64 (ior .i64 0 (wr .i64 (ah x0 8)))) 8)) (wr .i64 (ah x0 9)))) 8)) (wr .i64 (ah x0 10)))) 8)) (wr .i64 (ah x0 11)))) 8)) (wr .i64 (ah x0 12)))) 8)) (wr .i64 (ah x0 13)))) 8)) (wr .i64 (ah x0 14)))) 8)) (wr .i64 (ah x0 15)))))) fun y0 => cnd (ile 20 (len x0)) (cnd (aB (band (ieq y0.a0 (ah x0 0)) (band (ieq y0.a1 (ah x0 1)) (band (ieq y0.a2 (ah x0 2)) (band (ieq y0.a3 (ah x0 3)) (band (ieq y0.a4 (ah x0 4)) (band (ieq y0.a5 (ah x0 5)) (band (ieq y0.a6 (ah x0 6)) (band (ieq y0.a7 (ah x0 7)) (band (ieq y0.a8 (ah x0 8)) (band (ieq y0.a9 (ah x0 9)) (band (ieq y0.a10 (ah x0 10)) (band (ieq y0.a11 (ah x0 11)) (band (ieq y0.a12 (ah x0 12)) (band (ieq y0.a13 (ah x0 13)) (band (ieq y0.a14 (ah x0 14)) (band (ieq y0.a15 (ah x0 15)) (band (ieq y0.a16 (ah x0 16)) (band (ieq y0.a17 (ah x0 17)) (band (ieq y0.a18 (ah x0 18)) (band (ieq y0.a19 (ah x0 19)) true))))))))))))))))))))) (some (dB.mk 0 0,10)) (af (sQ (dB.mk (wr .i64 (ior .i64 (wr .i64 (nY .i64 (wr .i64 (ior .i64 (wr .i64 (nY .i64 (wr .i64 (ior .i64 (wr .i64 (nY .i64 (wr .i64 (ior .i64 (wr .i64 (nY .i64 (wr .i64 (ior .i64 (wr .i64 (nY .i64 (wr .i64 (ior .i64 (wr .i64 (nY .i64 (wr .i64 (ior .i64 (wr .i64 (nY .i64 (wr .i64 (ior .i64 0 (wr .i64 (ah x0 0)))) 8)) (wr .i64 (ah x0 1)))) 8)) (wr .i64 (ah x0 2)))) 8)) (wr .i64 (ah x0 3)))) 8)) (wr .i64 (ah x0 4)))) 8)) (wr .i64 (ah x0 5)))) 8)) (wr .i64 (ah x0 6)))) 8)) (wr .i64 (ah x0 7)))) (wr .i64 (ior .i64 (wr .i64 (nY .i64 (wr .i64 (ior .i64 (wr .i64 (nY .i64 (wr .i64 (ior .i64 (wr .i64 (nY .i64 (wr .i64 (ior .i64 (wr .i64 (nY .i64 (wr .i64 (ior .i64 (wr .i64 (nY .i64 (wr .i64 (ior .i64 (wr .i64 (nY .i64 (wr .i64 (ior .i64 (wr .i64 (nY .i64 (wr .i64 (ior .i64 0 (wr .i64 (ah x0 8)))) 8)) (wr .i64 (ah x0 9)))) 8)) (wr .i64 (ah x0 10)))) 8)) (wr .i64 (ah x0 11)))) 8)) (wr .i64 (ah x0 12)))) 8)) (wr .i64 (ah x0 13)))) 8)) (wr .i64 (ah x0 14)))) 8)) (wr .i64 (ah x0 15)))))) fun y1 => cnd (aB y1) (some (dB.mk 0 0,2)) (some (dB.mk (wr .i64 (ior .i64 (wr .i64 (nY .i64 (wr .i64 (ior .i64 (wr .i64 (nY .i64 (wr .i64 (ior .i64 (wr .i64 (nY .i64 (wr .i64 (ior .i64 (wr .i64 (nY .i64 (wr .i64 (ior .i64 (wr .i64 (nY .i64 (wr .i64 (ior .i64 (wr .i64 (nY .i64 (wr .i64 (ior .i64 (wr .i64 (nY .i64 (wr .i64 (ior .i64 0 (wr .i64 (ah x0 0)))) 8)) (wr .i64 (ah x0 1)))) 8)) (wr .i64 (ah x0 2)))) 8)) (wr .i64 (ah x0 3)))) 8)) (wr .i64 (ah x0 4)))) 8)) (wr .i64 (ah x0 5)))) 8)) (wr .i64 (ah x0 6)))) 8)) (wr .i64 (ah x0 7)))) (wr .i64 (ior .i64 (wr .i64 (nY .i64 (wr .i64 (ior .i64 (wr .i64 (nY .i64 (wr .i64 (ior .i64 (wr .i64 (nY .i64 (wr .i64 (ior .i64 (wr .i64 (nY .i64 (wr .i64 (ior .i64 (wr .i64 (nY .i64 (wr .i64 (ior .i64 (wr .i64 (nY .i64 (wr .i64 (ior .i64 (wr .i64 (nY .i64 (wr .i64 (ior .i64 0 (wr .i64 (ah x0 8)))) 8)) (wr .i64 (ah x0 9)))) 8)) (wr .i64 (ah x0 10)))) 8)) (wr .i64 (ah x0 11)))) 8)) (wr .i64 (ah x0 12)))) 8)) (wr .i64 (ah x0 13)))) 8)) (wr .i64 (ah x0 14)))) 8)) (wr .i64 (ah x0 15)))),0)))) none) none) none) none) none) none) none) none) none) none) none) none) none) none) none) none) none)
noncomputable def Pv:Cx:={ P:=PG,ety:=ety,fn:=look [(84,uo),(83,uh)],inl:=dP [],lp:=aY [] }
theorem Uc (x0:(List Int)):bK Pv 73 [.ro .u8] [.val .slot,.int .i64] x0=kS x0:=by kernel_rfl
def BR:aT:=mkSpec [.ro .u8] [.val .slot,.int .i64] true (fun x=>kS x)
theorem Wn:dh PG 73 BR:=
 have K:CxR Pv:=aV.cx (fun _=>rfl) (l:=[(84,uo),(83,uh)]) ⟨Pq,O8,trivial⟩
 aI K (aH (l:=[]) rfl trivial) (by kernel_rfl) (fun x y h=>(Uc x).trans h) rfl rfl
def qA (x0:ai):Option (dB×Int):=af (qm x0) fun y0 => cnd (aB y0) (some (dB.mk 0 0,1)) (cnd x0.down (some (dB.mk 0 0,9)) (af (jA 0) fun y1 => af (jD x0 y1) fun y2 => af (kS y2.fst) fun y3 => cnd (band (band (ieq y3.snd 0) (ieq (Ip y3.fst.gen 2) 0)) (ilt 0 y3.fst.gen)) (af (jA 1) fun y4 => af (jD x0 y4) fun y5 => af (kS y5.fst) fun y6 => cnd (band (band (ieq y6.snd 0) (ieq (Ip y6.fst.gen 2) 1)) (ilt y3.fst.gen y6.fst.gen)) (cnd (ieq y6.fst.gen 0) (some (dB.mk 0 0,7)) (some (y6.fst,0))) (cnd (ieq y3.fst.gen 0) (some (dB.mk 0 0,7)) (some (y3.fst,0)))) (af (jA 1) fun y7 => af (jD x0 y7) fun y8 => af (kS y8.fst) fun y9 => cnd (band (band (ieq y9.snd 0) (ieq (Ip y9.fst.gen 2) 1)) (ilt 0 y9.fst.gen)) (cnd (ieq y9.fst.gen 0) (some (dB.mk 0 0,7)) (some (y9.fst,0))) (some (dB.mk 0 0,7)))))
noncomputable def UN:Cx:={ P:=PG,ety:=ety,fn:=look [(52,nN),(72,wF),(21,jw),(73,BR)],inl:=dP [],lp:=aY [] }
theorem Yb (x0:ai):bK UN 25 [.val .disk] [.val .slot,.int .i64] x0=qA x0:=by kernel_rfl
def oU:aT:=mkSpec [.val .disk] [.val .slot,.int .i64] true (fun x=>qA x)
theorem JH:dh PG 25 oU:=
 have K:CxR UN:=aV.cx (fun _=>rfl) (l:=[(52,nN),(72,wF),(21,jw),(73,BR)]) ⟨Ir,QS,zW,Wn,trivial⟩
 aI K (aH (l:=[]) rfl trivial) (by kernel_rfl) (fun x y h=>(Yb x).trans h) rfl rfl
def nT (x0:Int) (x1:Int):Option (List UInt8):=agI x0 x1
def tV:aT:=mkSpec [.int .i64,.int .i64] [.str] true (fun x=>nT x.1 x.2)
def LX:Go.Shelf.Ren:=⟨fun | 173=>49 | 246=>113 | 283=>171 | 284=>172 | 285=>173 | 286=>174 | 129=>212 | 317=>211 | 318=>213 | 319=>214 | 320=>215 | 337=>233 | 338=>234 | n=>n,fun | 2=>2 | 3=>3 | 9=>9 | 4=>4 | 171=>224 | 0=>0 | 53=>219 | 37=>51 | 5=>5 | 173=>227 | 212=>260 | 51=>119 | 20=>20 | 213=>261 | 46=>162 | 232=>285 | 233=>286 | n=>n,fun | 17=>0 | 18=>4 | 19=>5 | n=>n⟩
theorem zO:Go.Proofs.LaysM.n173 PG LX where
 mixed:=by kernel_rfl
 f129:=by kernel_rfl
 f173:=by kernel_rfl
 f246:=by kernel_rfl
 f283:=by kernel_rfl
 f284:=by kernel_rfl
 f285:=by kernel_rfl
 f286:=by kernel_rfl
 f317:=by kernel_rfl
 f318:=by kernel_rfl
 f319:=by kernel_rfl
 f320:=by kernel_rfl
 f337:=by kernel_rfl
 f338:=by kernel_rfl
 t0:=by kernel_rfl
 a0:=fun w=>by kernel_rfl
 z0:=fun w=>by kernel_rfl
 v0:=fun w=>by kernel_rfl
 t2:=by kernel_rfl
 a2:=fun w=>by kernel_rfl
 z2:=fun w=>by kernel_rfl
 v2:=fun w=>by kernel_rfl
 t3:=by kernel_rfl
 a3:=fun w=>by kernel_rfl
 z3:=fun w=>by kernel_rfl
 v3:=fun w=>by kernel_rfl
 t4:=by kernel_rfl
 a4:=fun w=>by kernel_rfl
 z4:=fun w=>by kernel_rfl
 v4:=fun w=>by kernel_rfl
 t5:=by kernel_rfl
 a5:=fun w=>by kernel_rfl
 z5:=fun w=>by kernel_rfl
 v5:=fun w=>by kernel_rfl
 t9:=by kernel_rfl
 a9:=fun w=>by kernel_rfl
 z9:=fun w=>by kernel_rfl
 v9:=fun w=>by kernel_rfl
 t20:=by kernel_rfl
 a20:=fun w=>by kernel_rfl
 z20:=fun w=>by kernel_rfl
 v20:=fun w=>by kernel_rfl
 t37:=by kernel_rfl
 a37:=fun w=>by kernel_rfl
 z37:=fun w=>by kernel_rfl
 v37:=fun w=>by kernel_rfl
 t46:=by kernel_rfl
 a46:=fun w=>by kernel_rfl
 z46:=fun w=>by kernel_rfl
 v46:=fun w=>by kernel_rfl
 t51:=by kernel_rfl
 a51:=fun w=>by kernel_rfl
 z51:=fun w=>by kernel_rfl
 v51:=fun w=>by kernel_rfl
 t53:=by kernel_rfl
 a53:=fun w=>by kernel_rfl
 z53:=fun w=>by kernel_rfl
 v53:=fun w=>by kernel_rfl
 t171:=by kernel_rfl
 a171:=fun w=>by kernel_rfl
 z171:=fun w=>by kernel_rfl
 v171:=fun w=>by kernel_rfl
 t173:=by kernel_rfl
 a173:=fun w=>by kernel_rfl
 z173:=fun w=>by kernel_rfl
 v173:=fun w=>by kernel_rfl
 t212:=by kernel_rfl
 a212:=fun w=>by kernel_rfl
 z212:=fun w=>by kernel_rfl
 v212:=fun w=>by kernel_rfl
 t213:=by kernel_rfl
 a213:=fun w=>by kernel_rfl
 z213:=fun w=>by kernel_rfl
 t232:=by kernel_rfl
 a232:=fun w=>by kernel_rfl
 z232:=fun w=>by kernel_rfl
 v232:=fun w=>by kernel_rfl
 t233:=by kernel_rfl
 a233:=fun w=>by kernel_rfl
 z233:=fun w=>by kernel_rfl
 v233:=fun w=>by kernel_rfl
 g17:=by kernel_rfl
 g18:=by kernel_rfl
 g19:=by kernel_rfl
 i0:=by kernel_rfl
 i2:=by kernel_rfl
 i3:=by kernel_rfl
 i4:=by kernel_rfl
 i5:=by kernel_rfl
 i9:=by kernel_rfl
 i20:=by kernel_rfl
 i37:=by kernel_rfl
 i46:=by kernel_rfl
 i51:=by kernel_rfl
 i53:=by kernel_rfl
 i171:=by kernel_rfl
 i173:=by kernel_rfl
 i212:=by kernel_rfl
 i232:=by kernel_rfl
 i233:=by kernel_rfl
 m17:=by kernel_rfl
 m18:=by kernel_rfl
 m19:=by kernel_rfl
theorem MS:dh PG 49 tV:=afZ aV zO (by kernel_rfl) (g:=0) (by kernel_rfl) (by simp [glL]) fun x y h=>h
def rP (x0:(List UInt8)) (x1:Int):Option (List UInt8):=agx x0 x1
def wY:aT:=mkSpec [.str,.int .i64] [.str] true (fun x=>rP x.1 x.2)
def Fp:Go.Shelf.Ren:=⟨fun | 105=>50 | 212=>114 | 99=>115 | 165=>116 | 166=>117 | 170=>118 | 169=>119 | 263=>175 | 264=>176 | 206=>177 | 240=>178 | 241=>179 | 276=>216 | 277=>217 | n=>n,fun | 9=>9 | 3=>3 | 4=>4 | 20=>20 | 0=>0 | 46=>162 | 109=>163 | 5=>5 | 72=>168 | 76=>170 | 51=>119 | 146=>229 | 53=>219 | 148=>231 | 70=>166 | 37=>51 | 75=>139 | 127=>233 | 164=>264 | 71=>167 | 74=>138 | 80=>173 | n=>n,fun | n=>n⟩
theorem CY:Go.Proofs.Lays.n105 PG Fp where
 mixed:=by kernel_rfl
 f99:=by kernel_rfl
 f105:=by kernel_rfl
 f165:=by kernel_rfl
 f166:=by kernel_rfl
 f169:=by kernel_rfl
 f170:=by kernel_rfl
 f206:=by kernel_rfl
 f212:=by kernel_rfl
 f240:=by kernel_rfl
 f241:=by kernel_rfl
 f263:=by kernel_rfl
 f264:=by kernel_rfl
 f276:=by kernel_rfl
 f277:=by kernel_rfl
 t0:=by kernel_rfl
 a0:=fun w=>by kernel_rfl
 z0:=fun w=>by kernel_rfl
 v0:=fun w=>by kernel_rfl
 t3:=by kernel_rfl
 a3:=fun w=>by kernel_rfl
 z3:=fun w=>by kernel_rfl
 v3:=fun w=>by kernel_rfl
 t4:=by kernel_rfl
 a4:=fun w=>by kernel_rfl
 z4:=fun w=>by kernel_rfl
 v4:=fun w=>by kernel_rfl
 t5:=by kernel_rfl
 a5:=fun w=>by kernel_rfl
 z5:=fun w=>by kernel_rfl
 v5:=fun w=>by kernel_rfl
 t9:=by kernel_rfl
 a9:=fun w=>by kernel_rfl
 z9:=fun w=>by kernel_rfl
 v9:=fun w=>by kernel_rfl
 t20:=by kernel_rfl
 a20:=fun w=>by kernel_rfl
 z20:=fun w=>by kernel_rfl
 v20:=fun w=>by kernel_rfl
 t37:=by kernel_rfl
 a37:=fun w=>by kernel_rfl
 z37:=fun w=>by kernel_rfl
 v37:=fun w=>by kernel_rfl
 t46:=by kernel_rfl
 a46:=fun w=>by kernel_rfl
 z46:=fun w=>by kernel_rfl
 v46:=fun w=>by kernel_rfl
 t51:=by kernel_rfl
 a51:=fun w=>by kernel_rfl
 z51:=fun w=>by kernel_rfl
 v51:=fun w=>by kernel_rfl
 t53:=by kernel_rfl
 a53:=fun w=>by kernel_rfl
 z53:=fun w=>by kernel_rfl
 v53:=fun w=>by kernel_rfl
 t70:=by kernel_rfl
 a70:=fun w=>by kernel_rfl
 z70:=fun w=>by kernel_rfl
 v70:=fun w=>by kernel_rfl
 t72:=by kernel_rfl
 a72:=fun w=>by kernel_rfl
 z72:=fun w=>by kernel_rfl
 v72:=fun w=>by kernel_rfl
 t75:=by kernel_rfl
 a75:=fun w=>by kernel_rfl
 z75:=fun w=>by kernel_rfl
 v75:=fun w=>by kernel_rfl
 t76:=by kernel_rfl
 a76:=fun w=>by kernel_rfl
 z76:=fun w=>by kernel_rfl
 v76:=fun w=>by kernel_rfl
 t109:=by kernel_rfl
 a109:=fun w=>by kernel_rfl
 z109:=fun w=>by kernel_rfl
 v109:=fun w=>by kernel_rfl
 t127:=by kernel_rfl
 a127:=fun w=>by kernel_rfl
 z127:=fun w=>by kernel_rfl
 v127:=fun w=>by kernel_rfl
 t146:=by kernel_rfl
 a146:=fun w=>by kernel_rfl
 z146:=fun w=>by kernel_rfl
 v146:=fun w=>by kernel_rfl
 t148:=by kernel_rfl
 a148:=fun w=>by kernel_rfl
 z148:=fun w=>by kernel_rfl
 v148:=fun w=>by kernel_rfl
 t164:=by kernel_rfl
 a164:=fun w=>by kernel_rfl
 z164:=fun w=>by kernel_rfl
 v164:=fun w=>by kernel_rfl
theorem zN:Go.Proofs.Builder.Extra PG Fp where
 sizeBuilder:=by kernel_rfl
 liesBuilder:=by kernel_rfl
 t5:=by kernel_rfl
 a5:=fun w=>by kernel_rfl
 z5:=fun w=>by kernel_rfl
 v5:=fun w=>by kernel_rfl
 infoByte:=by kernel_rfl
 cellsByte:=by kernel_rfl
 sizeByte:=by kernel_rfl
 neB5:=by decide
theorem QY:dh PG 50 wY:=ag7 aV CY zN (by kernel_rfl) fun x y h=>h
def dw (x0:Int):Option ((List UInt8)):=cnd (bor (ilt x0 1) (ilt 1000000000 x0)) (some []) (af (nT x0 10) fun y0 => af (rP [(UInt8.ofNat 48)] (wr .i64 (aC 10 (len y0)))) fun y1 => cnd (ile (aj 5 (len y1)) 68719476736) (cnd (ile (aj (len (jR [(UInt8.ofNat 115),(UInt8.ofNat 110),(UInt8.ofNat 97),(UInt8.ofNat 112),(UInt8.ofNat 46)] y1)) (len y0)) 68719476736) (some (jR (jR [(UInt8.ofNat 115),(UInt8.ofNat 110),(UInt8.ofNat 97),(UInt8.ofNat 112),(UInt8.ofNat 46)] y1) y0)) none) none)
noncomputable def RY:Cx:={ P:=PG,ety:=ety,fn:=look [(49,tV),(50,wY)],inl:=dP [],lp:=aY [] }
theorem VI (x0:Int):bK RY 17 [.int .i64] [.str] x0=dw x0:=by kernel_rfl
def nP:aT:=mkSpec [.int .i64] [.str] true (fun x=>dw x)
theorem CB:dh PG 17 nP:=
 have K:CxR RY:=aV.cx (fun _=>rfl) (l:=[(49,tV),(50,wY)]) ⟨MS,QY,trivial⟩
 aI K (aH (l:=[]) rfl trivial) (by kernel_rfl) (fun x y h=>(VI x).trans h) rfl rfl
def BM (x0:Int) (x1:Int) (x2:Int):Option (Int):=some (wr .i64 (aj (wr .i64 (aj (wr .i64 (aj (wr .i64 (aj 32 (wr .i64 (ji x2 61)))) (wr .i64 (ji (wr .i64 (ji x0 x1)) 32)))) (wr .i64 (ji x0 8)))) 4))
noncomputable def Yx:Cx:={ P:=PG,ety:=ety,fn:=look [],inl:=dP [],lp:=aY [] }
theorem Zl (x0:Int) (x1:Int) (x2:Int):bK Yx 109 [.int .i64,.int .i64,.int .i64] [.int .i64] (x0,x1,x2)=BM x0 x1 x2:=by kernel_rfl
def xO:aT:=mkSpec [.int .i64,.int .i64,.int .i64] [.int .i64] true (fun x=>BM x.1 x.2.1 x.2.2)
theorem U4:dh PG 109 xO:=
 have K:CxR Yx:=aV.cx (fun _=>rfl) (l:=[]) trivial
 aI K (aH (l:=[]) rfl trivial) (by kernel_rfl) (fun x y h=>(Zl x.1 x.2.1 x.2.2).trans h) rfl rfl
def Pe:LSh:=⟨73,[(11,.int .i64),(10,.ro .u8)],[],[],[(12,.int .i64),(5,.int .u32)],[],[]⟩
@[reducible] def Po:List gQ:=[⟨.exit 0,[(5,.int .u32)],[],[]⟩]
def xW (p0:Int) (p1:(List Int)) (v0:Int) (v1:Int):Option ((Int×Int) ⊕ ((Int))):=cnd (ilt v0 p0) (cnd (band (ile 0 v0) (ilt v0 (len p1))) (af (bJ (wr .u32 (ng .u32 (wr .u32 (eU .u32 v1 (wr .u32 (ah p1 (itn v0))))) 15))) fun y0 => af (bJ (wr .u32 (ng .u32 (wr .u32 (eU .u32 y0 (bU .u32 (wr .u32 (eU .u32 v1 (wr .u32 (ah p1 (itn v0))))) 4))) 15))) fun y1 => some (Sum.inl (wr .i64 (aj v0 1),wr .u32 (eU .u32 y1 (bU .u32 (wr .u32 (eU .u32 y0 (bU .u32 (wr .u32 (eU .u32 v1 (wr .u32 (ah p1 (itn v0))))) 4))) 4))))) none) (some (Sum.inr v1))
def Ns:fM:=Pe.spec Po [13,14,15,7,16,17,18,19,5,20,21,22,23,24,25,26,27,28,29,30,31,32,12] (fun p v=>xW p.1 p.2 v.1 v.2)
def KJ (x0:Int) (x1:(List Int)):Option (Int):=af (bG (fun v => xW (len x1) x1 v.fst v.snd) LF (0,wr .u32 (eU .u32 4294967295 x0))) fun y0 => some (wr .u32 (eU .u32 4294967295 y0))
noncomputable def P8:Cx:={ P:=PG,ety:=ety,fn:=look [(199,xE)],inl:=dP [],lp:=aY [(147,58,Ns)] }
theorem TJ (p0:Int) (p1:(List Int)) (v0:Int) (v1:Int):jk P8 900 147 58 (eF PG 147 58) Pe Po (p0,p1) (v0,v1)=xW p0 p1 v0 v1:=by kernel_rfl
theorem Y5 (x0:Int) (x1:(List Int)):bK P8 147 [.int .u32,.ro .u8] [.int .u32] (x0,x1)=KJ x0 x1:=by kernel_rfl
def Iw:aT:=mkSpec [.int .u32,.ro .u8] [.int .u32] true (fun x=>KJ x.1 x.2)
theorem ado:dh PG 147 Iw:=
 have K:CxR P8:=aV.cx (fun _=>rfl) (l:=[(199,xE)]) ⟨UR,trivial⟩
 aI K (aH (l:=[(147,58,Ns)]) rfl ⟨cu (n:=900) (f:=147) K (by kernel_rfl) (by kernel_rfl) (by kernel_rfl) (by kernel_rfl) (by kernel_rfl) (fun p v r h=>(TJ p.1 p.2 v.1 v.2).trans h),trivial⟩) (by kernel_rfl) (fun x y h=>(Y5 x.1 x.2).trans h) rfl rfl
def EN (x0:(List Int)):Option (Int):=af (KJ 0 x0) fun y0 => some y0
noncomputable def ZB:Cx:={ P:=PG,ety:=ety,fn:=look [(147,Iw)],inl:=dP [],lp:=aY [] }
theorem abp (x0:(List Int)):bK ZB 71 [.ro .u8] [.int .u32] x0=EN x0:=by kernel_rfl
def Ah:aT:=mkSpec [.ro .u8] [.int .u32] true (fun x=>EN x)
theorem WE:dh PG 71 Ah:=
 have K:CxR ZB:=aV.cx (fun _=>rfl) (l:=[(147,Iw)]) ⟨ado,trivial⟩
 aI K (aH (l:=[]) rfl trivial) (by kernel_rfl) (fun x y h=>(abp x).trans h) rfl rfl
def Em:LSh:=⟨76,[(14,.int .i64),(13,.ro .u8)],[],[],[(15,.int .i64),(5,.int .i64)],[],[]⟩
@[reducible] def En:List gQ:=[⟨.exit 0,[(5,.int .i64)],[],[]⟩]
def wZ (p0:Int) (p1:(List Int)) (v0:Int) (v1:Int):Option ((Int×Int) ⊕ ((Int))):=cnd (ilt v0 p0) (cnd (band (ile 0 v0) (ilt v0 (len p1))) (some (Sum.inl (wr .i64 (aj v0 1),wr .i64 (ior .i64 (wr .i64 (nY .i64 v1 8)) (wr .i64 (ah p1 (itn v0))))))) none) (some (Sum.inr v1))
def CQ:fM:=Em.spec En [16,17,18,7,19,20,21,22,23,5,24,15] (fun p v=>wZ p.1 p.2 v.1 v.2)
def cZ (x0:gq) (x1:Int):Option (gq×(Int)):=cnd (band (ile 0 x1) (ile x1 (len x0.rest))) (af (bG (fun v => wZ (len (ax x0.rest (itn x1))) (ax x0.rest (itn x1)) v.fst v.snd) LF (0,0)) fun y0 => cnd (band (ile 0 x1) (ile x1 (len x0.rest))) (some (gq.mk (aG x0.rest (itn x1)) x0.odd,y0)) none) none
noncomputable def Bv:Cx:={ P:=PG,ety:=ety,fn:=look [],inl:=dP [],lp:=aY [(168,58,CQ)] }
theorem Kz (p0:Int) (p1:(List Int)) (v0:Int) (v1:Int):jk Bv 900 168 58 (eF PG 168 58) Em En (p0,p1) (v0,v1)=wZ p0 p1 v0 v1:=by kernel_rfl
theorem O0 (x0:gq) (x1:Int):QB Bv 168 .reader [.int .i64] [.int .i64] x0 x1=cZ x0 x1:=by kernel_rfl
def jS:aT:=pG .reader [.int .i64] [.int .i64] (fun x=>cZ x.1 x.2)
theorem AQ:dh PG 168 jS:=
 have K:CxR Bv:=aV.cx (fun _=>rfl) (l:=[]) trivial
 OE K (aH (l:=[(168,58,CQ)]) rfl ⟨cu (n:=900) (f:=168) K (by kernel_rfl) (by kernel_rfl) (by kernel_rfl) (by kernel_rfl) (by kernel_rfl) (fun p v r h=>(Kz p.1 p.2 v.1 v.2).trans h),trivial⟩) (by kernel_rfl) (fun x y h=>(O0 x.1 x.2).trans h) rfl rfl
def iU (x0:gq):Option (gq×(Int)):=af (cZ x0 1) fun y0 => some y0
noncomputable def Js:Cx:={ P:=PG,ety:=ety,fn:=look [(168,jS)],inl:=dP [],lp:=aY [] }
theorem OJ (x0:gq):QB Js 166 .reader [] [.int .i64] x0 ()=iU x0:=by kernel_rfl
def jT:aT:=pG .reader [] [.int .i64] (fun x=>iU x.1)
theorem Au:dh PG 166 jT:=
 have K:CxR Js:=aV.cx (fun _=>rfl) (l:=[(168,jS)]) ⟨AQ,trivial⟩
 OE K (aH (l:=[]) rfl trivial) (by kernel_rfl) (fun x y h=>(OJ x.1).trans h) rfl rfl
def uY (x0:gq):Option (gq×(Bool)):=af (iU x0) fun y0 => some (gq.mk y0.fst.rest (bor y0.fst.odd (ilt 1 y0.snd)),ieq y0.snd 1)
noncomputable def Hg:Cx:={ P:=PG,ety:=ety,fn:=look [(166,jT)],inl:=dP [],lp:=aY [] }
theorem Np (x0:gq):QB Hg 167 .reader [] [.bool] x0 ()=uY x0:=by kernel_rfl
def ny:aT:=pG .reader [] [.bool] (fun x=>uY x.1)
theorem FQ:dh PG 167 ny:=
 have K:CxR Hg:=aV.cx (fun _=>rfl) (l:=[(166,jT)]) ⟨Au,trivial⟩
 OE K (aH (l:=[]) rfl trivial) (by kernel_rfl) (fun x y h=>(Np x.1).trans h) rfl rfl
def yK (x0:gq):Option (gq×(aK)):=af (cZ x0 8) fun y0 => af (iU y0.fst) fun y1 => af (iU y1.fst) fun y2 => af (iU y2.fst) fun y3 => af (iU y3.fst) fun y4 => af (cZ y4.fst 8) fun y5 => af (cZ y5.fst 8) fun y6 => af (cZ y6.fst 8) fun y7 => af (cZ y7.fst 8) fun y8 => af (cZ y8.fst 8) fun y9 => af (cZ y9.fst 8) fun y10 => af (uY y10.fst) fun y11 => some (y11.fst,aK.mk y0.snd y1.snd y2.snd y3.snd y5.snd y6.snd y7.snd y4.snd y8.snd y9.snd y10.snd y11.snd)
noncomputable def FK:Cx:={ P:=PG,ety:=ety,fn:=look [(168,jS),(166,jT),(167,ny)],inl:=dP [],lp:=aY [] }
theorem LQ (x0:gq):QB FK 169 .reader [] [.val .order] x0 ()=yK x0:=by kernel_rfl
def uQ:aT:=pG .reader [] [.val .order] (fun x=>yK x.1)
theorem OI:dh PG 169 uQ:=
 have K:CxR FK:=aV.cx (fun _=>rfl) (l:=[(168,jS),(166,jT),(167,ny)]) ⟨AQ,Au,FQ,trivial⟩
 OE K (aH (l:=[]) rfl trivial) (by kernel_rfl) (fun x y h=>(LQ x.1).trans h) rfl rfl
def JE (x0:ay) (x1:Int) (x2:Int):Option (Int):=cnd (bor (bor (bor (ilt x1 0) (ile x0.accounts x1)) (ilt x2 0)) (ile x0.symbols x2)) (some (-1)) (af (bn x0 x1 x2) fun y0 => some y0)
noncomputable def QZ:Cx:={ P:=PG,ety:=ety,fn:=look [(137,dX)],inl:=dP [],lp:=aY [] }
theorem VG (x0:ay) (x1:Int) (x2:Int):bK QZ 170 [.val .state,.int .i64,.int .i64] [.int .i64] (x0,x1,x2)=JE x0 x1 x2:=by kernel_rfl
def DF:aT:=mkSpec [.val .state,.int .i64,.int .i64] [.int .i64] true (fun x=>JE x.1 x.2.1 x.2.2)
theorem Zi:dh PG 170 DF:=
 have K:CxR QZ:=aV.cx (fun _=>rfl) (l:=[(137,dX)]) ⟨pI,trivial⟩
 aI K (aH (l:=[]) rfl trivial) (by kernel_rfl) (fun x y h=>(VG x.1 x.2.1 x.2.2).trans h) rfl rfl
def Hy:LSh:=⟨136,[(77,.int .i64),(76,.ro .u8),(9,.int .u32)],[(2,.mp 8 0)],[],[(78,.int .i64),(3,.int .i64)],[(8,[.val .state])],[]⟩
@[reducible] def G5:List gQ:=[⟨.ret,[(3,.int .i64)],[(8,[.val .state])],[]⟩,⟨.exit 0,[(3,.int .i64)],[(8,[.val .state])],[]⟩]
def zZ (p0:Int) (p1:(List Int)) (p2:Int) (v0:Int) (v1:Int) (v2:ay):Option ((Int×Int×ay) ⊕ ((Int×ay) ⊕ ((Int×ay)))):=cnd (ilt v0 p0) (cnd (band (ile 0 v0) (ilt v0 (len p1))) (cnd (ile 0 (wr .i64 (ji 8 v0))) (cnd (aB (ieq (ah p1 (itn v0)) (wr .u8 (bU .u32 p2 (wr .i64 (ji 8 v0)))))) (some (Sum.inr (Sum.inl (10,ay.mk 0 0 [] [] [] [] false 0 0 0)))) (some (Sum.inl (wr .i64 (aj v0 1),v1,v2)))) none) none) (some (Sum.inr (Sum.inr (v1,v2))))
def FZ:fM:=Hy.spec G5 [79,80,81,82,10,11,83,84,85,86,87,88,89,90,3,91,78] (fun p v=>zZ p.1 p.2.1 p.2.2 v.1 v.2.1 v.2.2)
def nG:LSh:=⟨245,[(28,.int .i64)],[(3,.mp 1264 0),(0,.mp 1152 0)],[],[(29,.int .i64)],[(1264,[.int .i64,.int .i64,.buf .order,.buf .cell,.buf .expo,.buf .i64,.bool,.int .i64,.int .i64,.int .i64]),(1152,[.val .reader])],[]⟩
@[reducible] def mZ:List gQ:=[⟨.exit 0,[],[(1264,[.int .i64,.int .i64,.buf .order,.buf .cell,.buf .expo,.buf .i64,.bool,.int .i64,.int .i64,.int .i64]),(1152,[.val .reader])],[]⟩]
def jB (p0:Int) (v0:Int) (v1:Int) (v2:Int) (v3:(List aK)) (v4:(List aW)) (v5:(List dL)) (v6:(List Int)) (v7:Bool) (v8:Int) (v9:Int) (v10:Int) (v11:gq):Option ((Int×Int×Int×(List aK)×(List aW)×(List dL)×(List Int)×Bool×Int×Int×Int×gq) ⊕ ((Int×Int×(List aK)×(List aW)×(List dL)×(List Int)×Bool×Int×Int×Int×gq))):=cnd (ilt v0 p0) (af (yK v11) fun y0 => cnd (band (ile 0 v0) (ilt v0 (len v3))) (some (Sum.inl (wr .i64 (aj v0 1),v1,v2,bf v3 (itn v0) y0.snd,v4,v5,v6,v7,v8,v9,v10,y0.fst))) none) (some (Sum.inr (v1,v2,v3,v4,v5,v6,v7,v8,v9,v10,v11)))
def mD:fM:=nG.spec mZ [30,31,4,32,33,34,35,36,37,38,29] (fun p v=>jB p v.1 v.2.1 v.2.2.1 v.2.2.2.1 v.2.2.2.2.1 v.2.2.2.2.2.1 v.2.2.2.2.2.2.1 v.2.2.2.2.2.2.2.1 v.2.2.2.2.2.2.2.2.1 v.2.2.2.2.2.2.2.2.2.1 v.2.2.2.2.2.2.2.2.2.2.1 v.2.2.2.2.2.2.2.2.2.2.2)
def mr:LSh:=⟨344,[(48,.int .i64)],[(3,.mp 1264 0),(0,.mp 1152 0)],[],[(49,.int .i64)],[(1264,[.int .i64,.int .i64,.buf .order,.buf .cell,.buf .expo,.buf .i64,.bool,.int .i64,.int .i64,.int .i64]),(1152,[.val .reader])],[]⟩
@[reducible] def lZ:List gQ:=[⟨.exit 2,[],[(1264,[.int .i64,.int .i64,.buf .order,.buf .cell,.buf .expo,.buf .i64,.bool,.int .i64,.int .i64,.int .i64]),(1152,[.val .reader])],[]⟩]
def jf (p0:Int) (v0:Int) (v1:Int) (v2:Int) (v3:(List aK)) (v4:(List aW)) (v5:(List dL)) (v6:(List Int)) (v7:Bool) (v8:Int) (v9:Int) (v10:Int) (v11:gq):Option ((Int×Int×Int×(List aK)×(List aW)×(List dL)×(List Int)×Bool×Int×Int×Int×gq) ⊕ ((Int×Int×(List aK)×(List aW)×(List dL)×(List Int)×Bool×Int×Int×Int×gq))):=cnd (ilt v0 p0) (af (cZ v11 8) fun y0 => cnd (band (ile 0 v0) (ilt v0 (len v4))) (some (Sum.inl (wr .i64 (aj v0 1),v1,v2,v3,bf v4 (itn v0) (aW.mk y0.snd (ah v4 (itn v0)).buy (ah v4 (itn v0)).sell (ah v4 (itn v0)).opn),v5,v6,v7,v8,v9,v10,y0.fst))) none) (some (Sum.inr (v1,v2,v3,v4,v5,v6,v7,v8,v9,v10,v11)))
def lQ:fM:=mr.spec lZ [50,51,5,52,53,54,55,56,57,58,59,49] (fun p v=>jf p v.1 v.2.1 v.2.2.1 v.2.2.2.1 v.2.2.2.2.1 v.2.2.2.2.2.1 v.2.2.2.2.2.2.1 v.2.2.2.2.2.2.2.1 v.2.2.2.2.2.2.2.2.1 v.2.2.2.2.2.2.2.2.2.1 v.2.2.2.2.2.2.2.2.2.2.1 v.2.2.2.2.2.2.2.2.2.2.2)
def mg:LSh:=⟨435,[(62,.int .i64)],[(3,.mp 1264 0),(0,.mp 1152 0)],[],[(63,.int .i64)],[(1264,[.int .i64,.int .i64,.buf .order,.buf .cell,.buf .expo,.buf .i64,.bool,.int .i64,.int .i64,.int .i64]),(1152,[.val .reader])],[]⟩
@[reducible] def lY:List gQ:=[⟨.exit 4,[],[(1264,[.int .i64,.int .i64,.buf .order,.buf .cell,.buf .expo,.buf .i64,.bool,.int .i64,.int .i64,.int .i64]),(1152,[.val .reader])],[]⟩]
def jh (p0:Int) (v0:Int) (v1:Int) (v2:Int) (v3:(List aK)) (v4:(List aW)) (v5:(List dL)) (v6:(List Int)) (v7:Bool) (v8:Int) (v9:Int) (v10:Int) (v11:gq):Option ((Int×Int×Int×(List aK)×(List aW)×(List dL)×(List Int)×Bool×Int×Int×Int×gq) ⊕ ((Int×Int×(List aK)×(List aW)×(List dL)×(List Int)×Bool×Int×Int×Int×gq))):=cnd (ilt v0 p0) (af (cZ v11 8) fun y0 => af (cZ y0.fst 8) fun y1 => af (cZ y1.fst 8) fun y2 => cnd (ile (len (jR v5 [dL.mk y0.snd y1.snd y2.snd])) 68719476736) (some (Sum.inl (wr .i64 (aj v0 1),v1,v2,v3,v4,jR v5 [dL.mk y0.snd y1.snd y2.snd],v6,v7,v8,v9,v10,y2.fst))) none) (some (Sum.inr (v1,v2,v3,v4,v5,v6,v7,v8,v9,v10,v11)))
def lK:fM:=mg.spec lY [64,65,66,67,68,69,70,71,72,73,74,75,76,77,63] (fun p v=>jh p v.1 v.2.1 v.2.2.1 v.2.2.2.1 v.2.2.2.2.1 v.2.2.2.2.2.1 v.2.2.2.2.2.2.1 v.2.2.2.2.2.2.2.1 v.2.2.2.2.2.2.2.2.1 v.2.2.2.2.2.2.2.2.2.1 v.2.2.2.2.2.2.2.2.2.2.1 v.2.2.2.2.2.2.2.2.2.2.2)
def mF:LSh:=⟨525,[(79,.int .i64)],[(3,.mp 1264 0),(0,.mp 1152 0)],[],[(80,.int .i64)],[(1264,[.int .i64,.int .i64,.buf .order,.buf .cell,.buf .expo,.buf .i64,.bool,.int .i64,.int .i64,.int .i64]),(1152,[.val .reader])],[]⟩
@[reducible] def l7:List gQ:=[⟨.exit 6,[],[(1264,[.int .i64,.int .i64,.buf .order,.buf .cell,.buf .expo,.buf .i64,.bool,.int .i64,.int .i64,.int .i64]),(1152,[.val .reader])],[]⟩]
def jg (p0:Int) (v0:Int) (v1:Int) (v2:Int) (v3:(List aK)) (v4:(List aW)) (v5:(List dL)) (v6:(List Int)) (v7:Bool) (v8:Int) (v9:Int) (v10:Int) (v11:gq):Option ((Int×Int×Int×(List aK)×(List aW)×(List dL)×(List Int)×Bool×Int×Int×Int×gq) ⊕ ((Int×Int×(List aK)×(List aW)×(List dL)×(List Int)×Bool×Int×Int×Int×gq))):=cnd (ilt v0 p0) (af (cZ v11 8) fun y0 => cnd (ile (len (jR v6 [y0.snd])) 68719476736) (some (Sum.inl (wr .i64 (aj v0 1),v1,v2,v3,v4,v5,jR v6 [y0.snd],v7,v8,v9,v10,y0.fst))) none) (some (Sum.inr (v1,v2,v3,v4,v5,v6,v7,v8,v9,v10,v11)))
def lN:fM:=mF.spec l7 [81,82,83,84,85,86,87,88,89,80] (fun p v=>jg p v.1 v.2.1 v.2.2.1 v.2.2.2.1 v.2.2.2.2.1 v.2.2.2.2.2.1 v.2.2.2.2.2.2.1 v.2.2.2.2.2.2.2.1 v.2.2.2.2.2.2.2.2.1 v.2.2.2.2.2.2.2.2.2.1 v.2.2.2.2.2.2.2.2.2.2.1 v.2.2.2.2.2.2.2.2.2.2.2)
def sF:LSh:=⟨634,[(10,.int .i64)],[(9,.mf 4298),(1,.mp 4512 0)],[],[(11,.int .i64),(2,.bool)],[(4512,[.int .i64,.int .i64,.rf 4298,.rf 4299,.rf 4300,.rf 4301,.bool,.int .i64,.int .i64,.int .i64])],[(4298,.order),(4299,.cell),(4300,.expo),(4301,.i64)]⟩
@[reducible] def sD:List gQ:=[⟨.ret,[(2,.bool)],[(4512,[.int .i64,.int .i64,.rf 4298,.rf 4299,.rf 4300,.rf 4301,.bool,.int .i64,.int .i64,.int .i64])],[(4298,.order),(4299,.cell),(4300,.expo),(4301,.i64)]⟩,⟨.exit 0,[(2,.bool)],[(4512,[.int .i64,.int .i64,.rf 4298,.rf 4299,.rf 4300,.rf 4301,.bool,.int .i64,.int .i64,.int .i64])],[(4298,.order),(4299,.cell),(4300,.expo),(4301,.i64)]⟩]
def nI (p0:Int) (v0:Int) (v1:Bool) (v2:Int) (v3:Int) (v4:Unit) (v5:Unit) (v6:Unit) (v7:Unit) (v8:Bool) (v9:Int) (v10:Int) (v11:Int) (v12:(List aK)) (v13:(List aW)) (v14:(List dL)) (v15:(List Int)):Option ((Int×Bool×Int×Int×Unit×Unit×Unit×Unit×Bool×Int×Int×Int×(List aK)×(List aW)×(List dL)×(List Int)) ⊕ ((Bool×Int×Int×Unit×Unit×Unit×Unit×Bool×Int×Int×Int×(List aK)×(List aW)×(List dL)×(List Int)) ⊕ ((Bool×Int×Int×Unit×Unit×Unit×Unit×Bool×Int×Int×Int×(List aK)×(List aW)×(List dL)×(List Int))))):=cnd (ilt v0 p0) (cnd (band (ile 0 v0) (ilt v0 (len v12))) (af (JE (ay.mk v2 v3 v12 v13 v14 v15 v8 v9 v10 v11) (ah v12 (itn v0)).account (ah v12 (itn v0)).symbol) fun y0 => cnd (ieq y0 (-1)) (some (Sum.inr (Sum.inl (false,v2,v3,PUnit.unit,PUnit.unit,PUnit.unit,PUnit.unit,v8,v9,v10,v11,v12,v13,v14,v15)))) (cnd (band (ile 0 y0) (ilt y0 (len v13))) (af (iW (ah v13 (itn y0)) (ah v12 (itn v0))) fun y1 => cnd (aB (ieq y1.snd 0)) (some (Sum.inr (Sum.inl (false,v2,v3,PUnit.unit,PUnit.unit,PUnit.unit,PUnit.unit,v8,v9,v10,v11,v12,v13,v14,v15)))) (cnd (band (ile 0 y0) (ilt y0 (len v13))) (some (Sum.inl (wr .i64 (aj v0 1),v1,v2,v3,PUnit.unit,PUnit.unit,PUnit.unit,PUnit.unit,v8,v9,v10,v11,v12,bf v13 (itn y0) y1.fst,v14,v15))) none)) none)) none) (some (Sum.inr (Sum.inr (v1,v2,v3,PUnit.unit,PUnit.unit,PUnit.unit,PUnit.unit,v8,v9,v10,v11,v12,v13,v14,v15))))
def rU:fM:=sF.spec sD [12,13,14,4,15,16,17,18,19,20,5,21,22,2,24,25,26,27,28,29,30,23,31,32,6,7,33,34,35,36,37,38,39,40,11] (fun p v=>nI p v.1 v.2.1 v.2.2.1 v.2.2.2.1 v.2.2.2.2.1 v.2.2.2.2.2.1 v.2.2.2.2.2.2.1 v.2.2.2.2.2.2.2.1 v.2.2.2.2.2.2.2.2.1 v.2.2.2.2.2.2.2.2.2.1 v.2.2.2.2.2.2.2.2.2.2.1 v.2.2.2.2.2.2.2.2.2.2.2.1 v.2.2.2.2.2.2.2.2.2.2.2.2.1 v.2.2.2.2.2.2.2.2.2.2.2.2.2.1 v.2.2.2.2.2.2.2.2.2.2.2.2.2.2.1 v.2.2.2.2.2.2.2.2.2.2.2.2.2.2.2)
def EC (x0:(List Int)):Option (ay×Int):=cnd (bor (ile 4 (len x0)) (aB (aB (ilt (len x0) 36)))) (cnd (bor (ilt (len x0) 36) (aB (seq (u2s (ax x0 4)) [(UInt8.ofNat 115),(UInt8.ofNat 110),(UInt8.ofNat 97),(UInt8.ofNat 102)]))) (some (ay.mk 0 0 [] [] [] [] false 0 0 0,2)) (cnd (ilt 4 (len x0)) (cnd (ilt 5 (len x0)) (cnd (ilt 7 (len x0)) (af (cnd (aB (bor (bor (bor (bor (ilt (wr .i64 (ah x0 4)) 1) (ilt 8 (wr .i64 (ah x0 4)))) (ilt (wr .i64 (ah x0 5)) 1)) (ilt 8 (wr .i64 (ah x0 5)))) (ilt 64 (wr .i64 (ah x0 7))))) (BM (wr .i64 (ah x0 4)) (wr .i64 (ah x0 5)) (wr .i64 (ah x0 7))) (some 0)) fun y0 => cnd (bor (bor (bor (bor (bor (ilt (wr .i64 (ah x0 4)) 1) (ilt 8 (wr .i64 (ah x0 4)))) (ilt (wr .i64 (ah x0 5)) 1)) (ilt 8 (wr .i64 (ah x0 5)))) (ilt 64 (wr .i64 (ah x0 7)))) (aB (ieq (len x0) y0))) (some (ay.mk 0 0 [] [] [] [] false 0 0 0,2)) (cnd (band (ile 0 (wr .i64 (aC (len x0) 4))) (ile (wr .i64 (aC (len x0) 4)) (len x0))) (cnd (band (ile 0 (wr .i64 (aC (len x0) 4))) (ile (wr .i64 (aC (len x0) 4)) (len x0))) (af (EN (ax x0 (itn (wr .i64 (aC (len x0) 4))))) fun y1 => af (bG (fun v => zZ (len (aG x0 (itn (wr .i64 (aC (len x0) 4))))) (aG x0 (itn (wr .i64 (aC (len x0) 4)))) y1 v.fst v.snd.fst v.snd.snd) LF (0,0,ay.mk 0 0 [] [] [] [] false 0 0 0)) fun y2 => qO y2 (fun y3 => some (y3.snd,y3.fst)) fun y3 => cnd (ile 4 (len (ax x0 (itn (wr .i64 (aC (len x0) 4)))))) (af (iU (gq.mk (aG (ax x0 (itn (wr .i64 (aC (len x0) 4)))) 4) false)) fun y4 => af (iU y4.fst) fun y5 => af (uY y5.fst) fun y6 => af (iU y6.fst) fun y7 => cnd (band (band (ile 0 y7.snd) (ile y7.snd y7.snd)) (ile y7.snd 68719476736)) (af (cZ y7.fst 8) fun y8 => af (cZ y8.fst 8) fun y9 => af (cZ y9.fst 8) fun y10 => af (bG (fun v => jB (len (jC aK (itn y7.snd))) v.fst v.snd.fst v.snd.snd.fst v.snd.snd.snd.fst v.snd.snd.snd.snd.fst v.snd.snd.snd.snd.snd.fst v.snd.snd.snd.snd.snd.snd.fst v.snd.snd.snd.snd.snd.snd.snd.fst v.snd.snd.snd.snd.snd.snd.snd.snd.fst v.snd.snd.snd.snd.snd.snd.snd.snd.snd.fst v.snd.snd.snd.snd.snd.snd.snd.snd.snd.snd.fst v.snd.snd.snd.snd.snd.snd.snd.snd.snd.snd.snd) LF (0,y4.snd,y5.snd,jC aK (itn y7.snd),[],[],[],y6.snd,y8.snd,y9.snd,y10.snd,y10.fst)) fun y11 => cnd (band (band (ile 0 (wr .i64 (ji y11.fst y11.snd.fst))) (ile (wr .i64 (ji y11.fst y11.snd.fst)) (wr .i64 (ji y11.fst y11.snd.fst)))) (ile (wr .i64 (ji y11.fst y11.snd.fst)) 68719476736)) (af (bG (fun v => jf (len (jC aW (itn (wr .i64 (ji y11.fst y11.snd.fst))))) v.fst v.snd.fst v.snd.snd.fst v.snd.snd.snd.fst v.snd.snd.snd.snd.fst v.snd.snd.snd.snd.snd.fst v.snd.snd.snd.snd.snd.snd.fst v.snd.snd.snd.snd.snd.snd.snd.fst v.snd.snd.snd.snd.snd.snd.snd.snd.fst v.snd.snd.snd.snd.snd.snd.snd.snd.snd.fst v.snd.snd.snd.snd.snd.snd.snd.snd.snd.snd.fst v.snd.snd.snd.snd.snd.snd.snd.snd.snd.snd.snd) LF (0,y11.fst,y11.snd.fst,y11.snd.snd.fst,jC aW (itn (wr .i64 (ji y11.fst y11.snd.fst))),y11.snd.snd.snd.snd)) fun y12 => af (bG (fun v => jh (len y12.snd.snd.snd.fst) v.fst v.snd.fst v.snd.snd.fst v.snd.snd.snd.fst v.snd.snd.snd.snd.fst v.snd.snd.snd.snd.snd.fst v.snd.snd.snd.snd.snd.snd.fst v.snd.snd.snd.snd.snd.snd.snd.fst v.snd.snd.snd.snd.snd.snd.snd.snd.fst v.snd.snd.snd.snd.snd.snd.snd.snd.snd.fst v.snd.snd.snd.snd.snd.snd.snd.snd.snd.snd.fst v.snd.snd.snd.snd.snd.snd.snd.snd.snd.snd.snd) LF (0,y12)) fun y13 => af (bG (fun v => jg y13.fst v.fst v.snd.fst v.snd.snd.fst v.snd.snd.snd.fst v.snd.snd.snd.snd.fst v.snd.snd.snd.snd.snd.fst v.snd.snd.snd.snd.snd.snd.fst v.snd.snd.snd.snd.snd.snd.snd.fst v.snd.snd.snd.snd.snd.snd.snd.snd.fst v.snd.snd.snd.snd.snd.snd.snd.snd.snd.fst v.snd.snd.snd.snd.snd.snd.snd.snd.snd.snd.fst v.snd.snd.snd.snd.snd.snd.snd.snd.snd.snd.snd) LF (0,y13)) fun y14 => cnd (aB y14.snd.snd.snd.snd.snd.snd.snd.snd.snd.snd.odd) (af (bG (fun v => nI (len y14.snd.snd.fst) v.fst v.snd.fst v.snd.snd.fst v.snd.snd.snd.fst v.snd.snd.snd.snd.fst v.snd.snd.snd.snd.snd.fst v.snd.snd.snd.snd.snd.snd.fst v.snd.snd.snd.snd.snd.snd.snd.fst v.snd.snd.snd.snd.snd.snd.snd.snd.fst v.snd.snd.snd.snd.snd.snd.snd.snd.snd.fst v.snd.snd.snd.snd.snd.snd.snd.snd.snd.snd.fst v.snd.snd.snd.snd.snd.snd.snd.snd.snd.snd.snd.fst v.snd.snd.snd.snd.snd.snd.snd.snd.snd.snd.snd.snd.fst v.snd.snd.snd.snd.snd.snd.snd.snd.snd.snd.snd.snd.snd.fst v.snd.snd.snd.snd.snd.snd.snd.snd.snd.snd.snd.snd.snd.snd.fst v.snd.snd.snd.snd.snd.snd.snd.snd.snd.snd.snd.snd.snd.snd.snd) LF (0,false,y14.fst,y14.snd.fst,PUnit.unit,PUnit.unit,PUnit.unit,PUnit.unit,y14.snd.snd.snd.snd.snd.snd.fst,y14.snd.snd.snd.snd.snd.snd.snd.fst,y14.snd.snd.snd.snd.snd.snd.snd.snd.fst,y14.snd.snd.snd.snd.snd.snd.snd.snd.snd.fst,y14.snd.snd.fst,y14.snd.snd.snd.fst,y14.snd.snd.snd.snd.fst,y14.snd.snd.snd.snd.snd.fst)) fun y15 => qO y15 (fun y16 => af (cnd (aB (bor y14.snd.snd.snd.snd.snd.snd.snd.snd.snd.snd.odd (aB y16.fst))) (jP (ay.mk y14.fst y14.snd.fst y16.snd.snd.snd.snd.snd.snd.snd.snd.snd.snd.snd.fst y16.snd.snd.snd.snd.snd.snd.snd.snd.snd.snd.snd.snd.fst y16.snd.snd.snd.snd.snd.snd.snd.snd.snd.snd.snd.snd.snd.fst y16.snd.snd.snd.snd.snd.snd.snd.snd.snd.snd.snd.snd.snd.snd y14.snd.snd.snd.snd.snd.snd.fst y14.snd.snd.snd.snd.snd.snd.snd.fst y14.snd.snd.snd.snd.snd.snd.snd.snd.fst y14.snd.snd.snd.snd.snd.snd.snd.snd.snd.fst)) (some false)) fun y17 => cnd (bor (bor y14.snd.snd.snd.snd.snd.snd.snd.snd.snd.snd.odd (aB y16.fst)) (aB y17)) (some (ay.mk 0 0 [] [] [] [] false 0 0 0,2)) (some (ay.mk y14.fst y14.snd.fst y16.snd.snd.snd.snd.snd.snd.snd.snd.snd.snd.snd.fst y16.snd.snd.snd.snd.snd.snd.snd.snd.snd.snd.snd.snd.fst y16.snd.snd.snd.snd.snd.snd.snd.snd.snd.snd.snd.snd.snd.fst y16.snd.snd.snd.snd.snd.snd.snd.snd.snd.snd.snd.snd.snd.snd y14.snd.snd.snd.snd.snd.snd.fst y14.snd.snd.snd.snd.snd.snd.snd.fst y14.snd.snd.snd.snd.snd.snd.snd.snd.fst y14.snd.snd.snd.snd.snd.snd.snd.snd.snd.fst,0))) fun y16 => af (cnd (aB (bor y14.snd.snd.snd.snd.snd.snd.snd.snd.snd.snd.odd false)) (jP (ay.mk y14.fst y14.snd.fst y16.snd.snd.snd.snd.snd.snd.snd.snd.snd.snd.snd.fst y16.snd.snd.snd.snd.snd.snd.snd.snd.snd.snd.snd.snd.fst y16.snd.snd.snd.snd.snd.snd.snd.snd.snd.snd.snd.snd.snd.fst y16.snd.snd.snd.snd.snd.snd.snd.snd.snd.snd.snd.snd.snd.snd y14.snd.snd.snd.snd.snd.snd.fst y14.snd.snd.snd.snd.snd.snd.snd.fst y14.snd.snd.snd.snd.snd.snd.snd.snd.fst y14.snd.snd.snd.snd.snd.snd.snd.snd.snd.fst)) (some false)) fun y18 => cnd (bor (bor y14.snd.snd.snd.snd.snd.snd.snd.snd.snd.snd.odd false) (aB y18)) (some (ay.mk 0 0 [] [] [] [] false 0 0 0,2)) (some (ay.mk y14.fst y14.snd.fst y16.snd.snd.snd.snd.snd.snd.snd.snd.snd.snd.snd.fst y16.snd.snd.snd.snd.snd.snd.snd.snd.snd.snd.snd.snd.fst y16.snd.snd.snd.snd.snd.snd.snd.snd.snd.snd.snd.snd.snd.fst y16.snd.snd.snd.snd.snd.snd.snd.snd.snd.snd.snd.snd.snd.snd y14.snd.snd.snd.snd.snd.snd.fst y14.snd.snd.snd.snd.snd.snd.snd.fst y14.snd.snd.snd.snd.snd.snd.snd.snd.fst y14.snd.snd.snd.snd.snd.snd.snd.snd.snd.fst,0))) (af (cnd (aB (bor y14.snd.snd.snd.snd.snd.snd.snd.snd.snd.snd.odd true)) (jP (ay.mk y14.fst y14.snd.fst y14.snd.snd.fst y14.snd.snd.snd.fst y14.snd.snd.snd.snd.fst y14.snd.snd.snd.snd.snd.fst y14.snd.snd.snd.snd.snd.snd.fst y14.snd.snd.snd.snd.snd.snd.snd.fst y14.snd.snd.snd.snd.snd.snd.snd.snd.fst y14.snd.snd.snd.snd.snd.snd.snd.snd.snd.fst)) (some false)) fun y19 => cnd (bor (bor y14.snd.snd.snd.snd.snd.snd.snd.snd.snd.snd.odd true) (aB y19)) (some (ay.mk 0 0 [] [] [] [] false 0 0 0,2)) (some (ay.mk y14.fst y14.snd.fst y14.snd.snd.fst y14.snd.snd.snd.fst y14.snd.snd.snd.snd.fst y14.snd.snd.snd.snd.snd.fst y14.snd.snd.snd.snd.snd.snd.fst y14.snd.snd.snd.snd.snd.snd.snd.fst y14.snd.snd.snd.snd.snd.snd.snd.snd.fst y14.snd.snd.snd.snd.snd.snd.snd.snd.snd.fst,0)))) none) none) none) none) none)) none) none) none)) none
noncomputable def qf:Cx:={ P:=PG,ety:=ety,fn:=look [(109,xO),(71,Ah),(166,jT),(167,ny),(168,jS),(169,uQ),(170,DF),(138,oV),(18,iP)],inl:=dP [110,111],lp:=aY [(47,1018,FZ),(201864077422,250,mD),(201864077422,1018,lQ),(201864077422,2042,lK),(201864077422,4090,lN),(201865773167,26,rU)] }
theorem Nl (p0:Int) (p1:(List Int)) (p2:Int) (v0:Int) (v1:Int) (v2:ay):jk qf 900 47 1018 (eF PG 47 1018) Hy G5 (p0,p1,p2) (v0,v1,v2)=zZ p0 p1 p2 v0 v1 v2:=by kernel_rfl
theorem uf (p0:Int) (v0:Int) (v1:Int) (v2:Int) (v3:(List aK)) (v4:(List aW)) (v5:(List dL)) (v6:(List Int)) (v7:Bool) (v8:Int) (v9:Int) (v10:Int) (v11:gq):jk qf 900 201864077422 250 (eF PG 110 250) nG mZ p0 (v0,v1,v2,v3,v4,v5,v6,v7,v8,v9,v10,v11)=jB p0 v0 v1 v2 v3 v4 v5 v6 v7 v8 v9 v10 v11:=by kernel_rfl
theorem sH (p0:Int) (v0:Int) (v1:Int) (v2:Int) (v3:(List aK)) (v4:(List aW)) (v5:(List dL)) (v6:(List Int)) (v7:Bool) (v8:Int) (v9:Int) (v10:Int) (v11:gq):jk qf 900 201864077422 1018 (eF PG 110 1018) mr lZ p0 (v0,v1,v2,v3,v4,v5,v6,v7,v8,v9,v10,v11)=jf p0 v0 v1 v2 v3 v4 v5 v6 v7 v8 v9 v10 v11:=by kernel_rfl
theorem tq (p0:Int) (v0:Int) (v1:Int) (v2:Int) (v3:(List aK)) (v4:(List aW)) (v5:(List dL)) (v6:(List Int)) (v7:Bool) (v8:Int) (v9:Int) (v10:Int) (v11:gq):jk qf 900 201864077422 2042 (eF PG 110 2042) mg lY p0 (v0,v1,v2,v3,v4,v5,v6,v7,v8,v9,v10,v11)=jh p0 v0 v1 v2 v3 v4 v5 v6 v7 v8 v9 v10 v11:=by kernel_rfl
theorem sN (p0:Int) (v0:Int) (v1:Int) (v2:Int) (v3:(List aK)) (v4:(List aW)) (v5:(List dL)) (v6:(List Int)) (v7:Bool) (v8:Int) (v9:Int) (v10:Int) (v11:gq):jk qf 900 201864077422 4090 (eF PG 110 4090) mF l7 p0 (v0,v1,v2,v3,v4,v5,v6,v7,v8,v9,v10,v11)=jg p0 v0 v1 v2 v3 v4 v5 v6 v7 v8 v9 v10 v11:=by kernel_rfl
theorem zU (p0:Int) (v0:Int) (v1:Bool) (v2:Int) (v3:Int) (v4:Unit) (v5:Unit) (v6:Unit) (v7:Unit) (v8:Bool) (v9:Int) (v10:Int) (v11:Int) (v12:(List aK)) (v13:(List aW)) (v14:(List dL)) (v15:(List Int)):jk qf 900 201865773167 26 (eF PG 111 26) sF sD p0 (v0,v1,v2,v3,v4,v5,v6,v7,v8,v9,v10,v11,v12,v13,v14,v15)=nI p0 v0 v1 v2 v3 v4 v5 v6 v7 v8 v9 v10 v11 v12 v13 v14 v15:=by kernel_rfl
theorem VQ (x0:(List Int)):bK qf 47 [.ro .u8] [.val .state,.int .i64] x0=EC x0:=by kernel_rfl
def DJ:aT:=mkSpec [.ro .u8] [.val .state,.int .i64] false (fun x=>EC x)
theorem YZ:dh PG 47 DJ:=
 have K:CxR qf:=aV.cx (fun _=>rfl) (l:=[(109,xO),(71,Ah),(166,jT),(167,ny),(168,jS),(169,uQ),(170,DF),(138,oV),(18,iP)]) ⟨U4,WE,Au,FQ,AQ,OI,Zi,KO,xX,trivial⟩
 aI K (aH (l:=[(47,1018,FZ),(201864077422,250,mD),(201864077422,1018,lQ),(201864077422,2042,lK),(201864077422,4090,lN),(201865773167,26,rU)]) rfl ⟨cu (n:=900) (f:=47) K (by kernel_rfl) (by kernel_rfl) (by kernel_rfl) (by kernel_rfl) (by kernel_rfl) (fun p v r h=>(Nl p.1 p.2.1 p.2.2 v.1 v.2.1 v.2.2).trans h),
  cu (n:=900) (f:=110) K (by kernel_rfl) (by kernel_rfl) (by kernel_rfl) (by kernel_rfl) (by kernel_rfl) (fun p v r h=>(uf p v.1 v.2.1 v.2.2.1 v.2.2.2.1 v.2.2.2.2.1 v.2.2.2.2.2.1 v.2.2.2.2.2.2.1 v.2.2.2.2.2.2.2.1 v.2.2.2.2.2.2.2.2.1 v.2.2.2.2.2.2.2.2.2.1 v.2.2.2.2.2.2.2.2.2.2.1 v.2.2.2.2.2.2.2.2.2.2.2).trans h),
  cu (n:=900) (f:=110) K (by kernel_rfl) (by kernel_rfl) (by kernel_rfl) (by kernel_rfl) (by kernel_rfl) (fun p v r h=>(sH p v.1 v.2.1 v.2.2.1 v.2.2.2.1 v.2.2.2.2.1 v.2.2.2.2.2.1 v.2.2.2.2.2.2.1 v.2.2.2.2.2.2.2.1 v.2.2.2.2.2.2.2.2.1 v.2.2.2.2.2.2.2.2.2.1 v.2.2.2.2.2.2.2.2.2.2.1 v.2.2.2.2.2.2.2.2.2.2.2).trans h),
  cu (n:=900) (f:=110) K (by kernel_rfl) (by kernel_rfl) (by kernel_rfl) (by kernel_rfl) (by kernel_rfl) (fun p v r h=>(tq p v.1 v.2.1 v.2.2.1 v.2.2.2.1 v.2.2.2.2.1 v.2.2.2.2.2.1 v.2.2.2.2.2.2.1 v.2.2.2.2.2.2.2.1 v.2.2.2.2.2.2.2.2.1 v.2.2.2.2.2.2.2.2.2.1 v.2.2.2.2.2.2.2.2.2.2.1 v.2.2.2.2.2.2.2.2.2.2.2).trans h),
  cu (n:=900) (f:=110) K (by kernel_rfl) (by kernel_rfl) (by kernel_rfl) (by kernel_rfl) (by kernel_rfl) (fun p v r h=>(sN p v.1 v.2.1 v.2.2.1 v.2.2.2.1 v.2.2.2.2.1 v.2.2.2.2.2.1 v.2.2.2.2.2.2.1 v.2.2.2.2.2.2.2.1 v.2.2.2.2.2.2.2.2.1 v.2.2.2.2.2.2.2.2.2.1 v.2.2.2.2.2.2.2.2.2.2.1 v.2.2.2.2.2.2.2.2.2.2.2).trans h),
  cu (n:=900) (f:=111) K (by kernel_rfl) (by kernel_rfl) (by kernel_rfl) (by kernel_rfl) (by kernel_rfl) (fun p v r h=>(zU p v.1 v.2.1 v.2.2.1 v.2.2.2.1 v.2.2.2.2.1 v.2.2.2.2.2.1 v.2.2.2.2.2.2.1 v.2.2.2.2.2.2.2.1 v.2.2.2.2.2.2.2.2.1 v.2.2.2.2.2.2.2.2.2.1 v.2.2.2.2.2.2.2.2.2.2.1 v.2.2.2.2.2.2.2.2.2.2.2.1 v.2.2.2.2.2.2.2.2.2.2.2.2.1 v.2.2.2.2.2.2.2.2.2.2.2.2.2.1 v.2.2.2.2.2.2.2.2.2.2.2.2.2.2.1 v.2.2.2.2.2.2.2.2.2.2.2.2.2.2.2).trans h),trivial⟩) (by kernel_rfl) (fun x y h=>(VQ x).trans h) rfl rfl
def wP (x0:ai):Option (ay×Int×Int):=af (qA x0) fun y0 => cnd (aB (ieq y0.snd 0)) (some (ay.mk 0 0 [] [] [] [] false 0 0 0,0,y0.snd)) (af (dw y0.fst.gen) fun y1 => af (jD x0 y1) fun y2 => cnd (ieq y2.snd 0) (af (EC y2.fst) fun y3 => cnd (band (ieq y3.snd 0) (ieq y3.fst.lsn y0.fst.lsn)) (some (y3.fst,y0.fst.gen,0)) (some (ay.mk 0 0 [] [] [] [] false 0 0 0,0,2))) (some (ay.mk 0 0 [] [] [] [] false 0 0 0,0,2)))
noncomputable def SH:Cx:={ P:=PG,ety:=ety,fn:=look [(25,oU),(17,nP),(21,jw),(47,DJ)],inl:=dP [],lp:=aY [] }
theorem VP (x0:ai):bK SH 13 [.val .disk] [.val .state,.int .i64,.int .i64] x0=wP x0:=by kernel_rfl
def DU:aT:=mkSpec [.val .disk] [.val .state,.int .i64,.int .i64] false (fun x=>wP x)
theorem YX:dh PG 13 DU:=
 have K:CxR SH:=aV.cx (fun _=>rfl) (l:=[(25,oU),(17,nP),(21,jw),(47,DJ)]) ⟨JH,CB,zW,YZ,trivial⟩
 aI K (aH (l:=[]) rfl trivial) (by kernel_rfl) (fun x y h=>(VP x).trans h) rfl rfl
def yH (x0:ay):Option (Int):=af (jP x0) fun y0 => cnd (aB y0) (some 0) (af (BM x0.accounts x0.symbols (len x0.orders)) fun y1 => some y1)
noncomputable def Xz:Cx:={ P:=PG,ety:=ety,fn:=look [(18,iP),(109,xO)],inl:=dP [],lp:=aY [] }
theorem Y2 (x0:ay):bK Xz 67 [.val .state] [.int .i64] x0=yH x0:=by kernel_rfl
def IA:aT:=mkSpec [.val .state] [.int .i64] true (fun x=>yH x)
theorem adh:dh PG 67 IA:=
 have K:CxR Xz:=aV.cx (fun _=>rfl) (l:=[(18,iP),(109,xO)]) ⟨xX,U4,trivial⟩
 aI K (aH (l:=[]) rfl trivial) (by kernel_rfl) (fun x y h=>(Y2 x).trans h) rfl rfl
def Jb (x0:Bool):Option (Int):=cnd x0 (some 1) (some 0)
noncomputable def ZR:Cx:={ P:=PG,ety:=ety,fn:=look [],inl:=dP [],lp:=aY [] }
theorem aaM (x0:Bool):bK ZR 69 [.bool] [.int .i64] x0=Jb x0:=by kernel_rfl
def JC:aT:=mkSpec [.bool] [.int .i64] true (fun x=>Jb x)
theorem ad6:dh PG 69 JC:=
 have K:CxR ZR:=aV.cx (fun _=>rfl) (l:=[]) trivial
 aI K (aH (l:=[]) rfl trivial) (by kernel_rfl) (fun x y h=>(aaM x).trans h) rfl rfl
def F7:LSh:=⟨144,[(8,.int .i64)],[],[],[(9,.int .i64),(0,.buf .u8)],[],[]⟩
@[reducible] def Gi:List gQ:=[⟨.exit 2,[(0,.buf .u8)],[],[]⟩]
def lW (p0:Int) (v0:Int) (v1:(List Int)):Option ((Int×(List Int)) ⊕ (((List Int)))):=cnd (ile 0 v0) (cnd (ile 0 (wr .i64 (ji 8 v0))) (cnd (ile (len (jR v1 [wr .u8 (bU .i64 p0 (wr .i64 (ji 8 v0)))])) 68719476736) (some (Sum.inl (wr .i64 (aC v0 1),jR v1 [wr .u8 (bU .i64 p0 (wr .i64 (ji 8 v0)))]))) none) none) (some (Sum.inr v1))
def Ee:fM:=F7.spec Gi [18,19,22,23,24,25,26,27,28,29,0,20,21,9] (fun p v=>lW p v.1 v.2)
def Ja:LSh:=⟨71,[(11,.int .i64),(10,.ro .i64),(1,.int .i64)],[],[],[(12,.int .i64),(0,.buf .u8)],[],[]⟩
@[reducible] def IU:List gQ:=[⟨.exit 0,[(0,.buf .u8)],[],[]⟩]
def rE (p0:Int) (p1:(List Int)) (p2:Int) (v0:Int) (v1:(List Int)):Option ((Int×(List Int)) ⊕ (((List Int)))):=cnd (ilt v0 p0) (cnd (band (ile 0 v0) (ilt v0 (len p1))) (af (bG (fun v => lW (ah p1 (itn v0)) v.fst v.snd) LF (wr .i64 (aC p2 1),v1)) fun y0 => some (Sum.inl (wr .i64 (aj v0 1),y0))) none) (some (Sum.inr v1))
def G8:fM:=Ja.spec IU [13,14,15,8,16,17,9,18,19,22,23,24,25,26,27,28,29,0,20,21,30,12] (fun p v=>rE p.1 p.2.1 p.2.2 v.1 v.2)
def oD (x0:(List Int)) (x1:Int) (x2:(List Int)):Option ((List Int)):=af (bG (fun v => rE (len x2) x2 x1 v.fst v.snd) LF (0,x0)) fun y0 => some y0
noncomputable def Cj:Cx:={ P:=PG,ety:=ety,fn:=look [],inl:=dP [],lp:=aY [(68,6758,Ee),(68,26,G8)] }
theorem LD (p0:Int) (v0:Int) (v1:(List Int)):jk Cj 900 68 6758 (eF PG 68 6758) F7 Gi p0 (v0,v1)=lW p0 v0 v1:=by kernel_rfl
theorem OW (p0:Int) (p1:(List Int)) (p2:Int) (v0:Int) (v1:(List Int)):jk Cj 900 68 26 (eF PG 68 26) Ja IU (p0,p1,p2) (v0,v1)=rE p0 p1 p2 v0 v1:=by kernel_rfl
theorem Ui (x0:(List Int)) (x1:Int) (x2:(List Int)):bK Cj 68 [.buf .u8,.int .i64,.ro .i64] [.buf .u8] (x0,x1,x2)=oD x0 x1 x2:=by kernel_rfl
def Cb:aT:=mkSpec [.buf .u8,.int .i64,.ro .i64] [.buf .u8] true (fun x=>oD x.1 x.2.1 x.2.2)
theorem XJ:dh PG 68 Cb:=
 have K:CxR Cj:=aV.cx (fun _=>rfl) (l:=[]) trivial
 aI K (aH (l:=[(68,6758,Ee),(68,26,G8)]) rfl ⟨cu (n:=900) (f:=68) K (by kernel_rfl) (by kernel_rfl) (by kernel_rfl) (by kernel_rfl) (by kernel_rfl) (fun p v r h=>(LD p v.1 v.2).trans h),
  cu (n:=900) (f:=68) K (by kernel_rfl) (by kernel_rfl) (by kernel_rfl) (by kernel_rfl) (by kernel_rfl) (fun p v r h=>(OW p.1 p.2.1 p.2.2 v.1 v.2).trans h),trivial⟩) (by kernel_rfl) (fun x y h=>(Ui x.1 x.2.1 x.2.2).trans h) rfl rfl
def Dp:LSh:=⟨144,[(8,.int .i64)],[],[],[(9,.int .i64),(0,.buf .u8)],[],[]⟩
@[reducible] def C9:List gQ:=[⟨.exit 2,[(0,.buf .u8)],[],[]⟩]
def vT (p0:Int) (v0:Int) (v1:(List Int)):Option ((Int×(List Int)) ⊕ (((List Int)))):=cnd (ile 0 v0) (cnd (ile 0 (wr .i64 (ji 8 v0))) (cnd (ile (len (jR v1 [wr .u8 (bU .i64 p0 (wr .i64 (ji 8 v0)))])) 68719476736) (some (Sum.inl (wr .i64 (aC v0 1),jR v1 [wr .u8 (bU .i64 p0 (wr .i64 (ji 8 v0)))]))) none) none) (some (Sum.inr v1))
def Bc:fM:=Dp.spec C9 [18,19,22,23,24,25,26,27,28,29,0,20,21,9] (fun p v=>vT p v.1 v.2)
def E8:LSh:=⟨71,[(11,.int .i64),(10,.ro .i64),(1,.int .i64)],[],[],[(12,.int .i64),(0,.buf .u8)],[],[]⟩
@[reducible] def Gh:List gQ:=[⟨.exit 0,[(0,.buf .u8)],[],[]⟩]
def yQ (p0:Int) (p1:(List Int)) (p2:Int) (v0:Int) (v1:(List Int)):Option ((Int×(List Int)) ⊕ (((List Int)))):=cnd (ilt v0 p0) (cnd (band (ile 0 v0) (ilt v0 (len p1))) (af (bG (fun v => vT (ah p1 (itn v0)) v.fst v.snd) LF (wr .i64 (aC p2 1),v1)) fun y0 => some (Sum.inl (wr .i64 (aj v0 1),y0))) none) (some (Sum.inr v1))
def Ef:fM:=E8.spec Gh [13,14,15,8,16,17,9,18,19,22,23,24,25,26,27,28,29,0,20,21,30,12] (fun p v=>yQ p.1 p.2.1 p.2.2 v.1 v.2)
def jE (x0:(List Int)) (x1:Int) (x2:(List Int)):Option ((List Int)):=af (bG (fun v => yQ (len x2) x2 x1 v.fst v.snd) LF (0,x0)) fun y0 => some y0
noncomputable def yE:Cx:={ P:=PG,ety:=ety,fn:=look [],inl:=dP [],lp:=aY [(70,6758,Bc),(70,26,Ef)] }
theorem IW (p0:Int) (v0:Int) (v1:(List Int)):jk yE 900 70 6758 (eF PG 70 6758) Dp C9 p0 (v0,v1)=vT p0 v0 v1:=by kernel_rfl
theorem Lu (p0:Int) (p1:(List Int)) (p2:Int) (v0:Int) (v1:(List Int)):jk yE 900 70 26 (eF PG 70 26) E8 Gh (p0,p1,p2) (v0,v1)=yQ p0 p1 p2 v0 v1:=by kernel_rfl
theorem Qy (x0:(List Int)) (x1:Int) (x2:(List Int)):bK yE 70 [.buf .u8,.int .i64,.ro .i64] [.buf .u8] (x0,x1,x2)=jE x0 x1 x2:=by kernel_rfl
def yJ:aT:=mkSpec [.buf .u8,.int .i64,.ro .i64] [.buf .u8] true (fun x=>jE x.1 x.2.1 x.2.2)
theorem TW:dh PG 70 yJ:=
 have K:CxR yE:=aV.cx (fun _=>rfl) (l:=[]) trivial
 aI K (aH (l:=[(70,6758,Bc),(70,26,Ef)]) rfl ⟨cu (n:=900) (f:=70) K (by kernel_rfl) (by kernel_rfl) (by kernel_rfl) (by kernel_rfl) (by kernel_rfl) (fun p v r h=>(IW p v.1 v.2).trans h),
  cu (n:=900) (f:=70) K (by kernel_rfl) (by kernel_rfl) (by kernel_rfl) (by kernel_rfl) (by kernel_rfl) (fun p v r h=>(Lu p.1 p.2.1 p.2.2 v.1 v.2).trans h),trivial⟩) (by kernel_rfl) (fun x y h=>(Qy x.1 x.2.1 x.2.2).trans h) rfl rfl
def He:LSh:=⟨105,[(45,.int .i64),(44,.ro .order)],[],[],[(46,.int .i64),(5,.buf .u8)],[],[]⟩
@[reducible] def Hl:List gQ:=[⟨.exit 0,[(5,.buf .u8)],[],[]⟩]
def qc (p0:Int) (p1:(List aK)) (v0:Int) (v1:(List Int)):Option ((Int×(List Int)) ⊕ (((List Int)))):=cnd (ilt v0 p0) (cnd (band (ile 0 v0) (ilt v0 (len p1))) (af (jE v1 8 [(ah p1 (itn v0)).id]) fun y0 => af (oD y0 1 [(ah p1 (itn v0)).account,(ah p1 (itn v0)).symbol,(ah p1 (itn v0)).side,(ah p1 (itn v0)).phase]) fun y1 => af (jE y1 8 [(ah p1 (itn v0)).qty,(ah p1 (itn v0)).price,(ah p1 (itn v0)).filled,(ah p1 (itn v0)).newQty,(ah p1 (itn v0)).newPrice,(ah p1 (itn v0)).version]) fun y2 => af (Jb (ah p1 (itn v0)).asked) fun y3 => af (oD y2 1 [y3]) fun y4 => some (Sum.inl (wr .i64 (aj v0 1),y4))) none) (some (Sum.inr v1))
def Fz:fM:=He.spec Hl [47,48,49,7,50,51,52,53,54,5,55,56,57,58,59,60,61,62,63,64,65,66,67,68,69,70,71,72,73,74,75,76,77,78,79,80,81,82,83,84,85,86,87,46] (fun p v=>qc p.1 p.2 v.1 v.2)
def GR:LSh:=⟨176,[(90,.int .i64),(89,.ro .cell)],[],[],[(91,.int .i64),(5,.buf .u8)],[],[]⟩
@[reducible] def Ho:List gQ:=[⟨.exit 2,[(5,.buf .u8)],[],[]⟩]
def qB (p0:Int) (p1:(List aW)) (v0:Int) (v1:(List Int)):Option ((Int×(List Int)) ⊕ (((List Int)))):=cnd (ilt v0 p0) (cnd (band (ile 0 v0) (ilt v0 (len p1))) (af (jE v1 8 [(ah p1 (itn v0)).pos]) fun y0 => some (Sum.inl (wr .i64 (aj v0 1),y0))) none) (some (Sum.inr v1))
def Fj:fM:=GR.spec Ho [92,93,94,9,95,96,97,98,99,5,100,91] (fun p v=>qB p.1 p.2 v.1 v.2)
def GX:LSh:=⟨247,[(103,.int .i64),(102,.ro .expo)],[],[],[(104,.int .i64),(5,.buf .u8)],[],[]⟩
@[reducible] def Hz:List gQ:=[⟨.exit 4,[(5,.buf .u8)],[],[]⟩]
def qy (p0:Int) (p1:(List dL)) (v0:Int) (v1:(List Int)):Option ((Int×(List Int)) ⊕ (((List Int)))):=cnd (ilt v0 p0) (cnd (band (ile 0 v0) (ilt v0 (len p1))) (af (jE v1 8 [(ah p1 (itn v0)).long,(ah p1 (itn v0)).short,(ah p1 (itn v0)).opn]) fun y0 => some (Sum.inl (wr .i64 (aj v0 1),y0))) none) (some (Sum.inr v1))
def FM:fM:=GX.spec Hz [105,106,107,11,108,109,110,111,112,113,114,115,116,5,117,104] (fun p v=>qy p.1 p.2 v.1 v.2)
def ER:LSh:=⟨323,[(12,.int .u32)],[],[],[(124,.int .i64),(5,.buf .u8)],[],[]⟩
@[reducible] def Fa:List gQ:=[⟨.exit 6,[(5,.buf .u8)],[],[]⟩]
def oQ (p0:Int) (v0:Int) (v1:(List Int)):Option ((Int×(List Int)) ⊕ (((List Int)))):=cnd (ilt v0 4) (cnd (ile 0 (wr .i64 (ji 8 v0))) (cnd (ile (len (jR v1 [wr .u8 (bU .u32 p0 (wr .i64 (ji 8 v0)))])) 68719476736) (some (Sum.inl (wr .i64 (aj v0 1),jR v1 [wr .u8 (bU .u32 p0 (wr .i64 (ji 8 v0)))]))) none) none) (some (Sum.inr v1))
def Eh:fM:=ER.spec Fa [125,126,13,127,128,129,130,131,132,133,134,5,135,124] (fun p v=>oQ p v.1 v.2)
def qi (x0:ay):Option ((List Int)×Int):=af (yH x0) fun y0 => cnd (ieq y0 0) (some ([],1)) (cnd (band (ile 0 y0) (ile y0 68719476736)) (af (Jb x0.kill) fun y1 => af (oD (jR (jC Int 0) (s2u [(UInt8.ofNat 115),(UInt8.ofNat 110),(UInt8.ofNat 97),(UInt8.ofNat 102)])) 1 [x0.accounts,x0.symbols,y1,len x0.orders]) fun y2 => af (jE y2 8 [x0.last,x0.seq,x0.lsn]) fun y3 => af (bG (fun v => qc (len x0.orders) x0.orders v.fst v.snd) LF (0,y3)) fun y4 => af (bG (fun v => qB (len x0.cells) x0.cells v.fst v.snd) LF (0,y4)) fun y5 => af (bG (fun v => qy (len x0.limits) x0.limits v.fst v.snd) LF (0,y5)) fun y6 => af (jE y6 8 x0.caps) fun y7 => af (EN y7) fun y8 => af (bG (fun v => oQ y8 v.fst v.snd) LF (0,y7)) fun y9 => some (y9,0)) none)
noncomputable def wO:Cx:={ P:=PG,ety:=ety,fn:=look [(67,IA),(69,JC),(68,Cb),(70,yJ),(71,Ah)],inl:=dP [],lp:=aY [(24,1018,Fz),(24,2042,Fj),(24,4090,FM),(24,32762,Eh)] }
theorem MB (p0:Int) (p1:(List aK)) (v0:Int) (v1:(List Int)):jk wO 900 24 1018 (eF PG 24 1018) He Hl (p0,p1) (v0,v1)=qc p0 p1 v0 v1:=by kernel_rfl
theorem NC (p0:Int) (p1:(List aW)) (v0:Int) (v1:(List Int)):jk wO 900 24 2042 (eF PG 24 2042) GR Ho (p0,p1) (v0,v1)=qB p0 p1 v0 v1:=by kernel_rfl
theorem MW (p0:Int) (p1:(List dL)) (v0:Int) (v1:(List Int)):jk wO 900 24 4090 (eF PG 24 4090) GX Hz (p0,p1) (v0,v1)=qy p0 p1 v0 v1:=by kernel_rfl
theorem LJ (p0:Int) (v0:Int) (v1:(List Int)):jk wO 900 24 32762 (eF PG 24 32762) ER Fa p0 (v0,v1)=oQ p0 v0 v1:=by kernel_rfl
theorem VO (x0:ay):bK wO 24 [.val .state] [.buf .u8,.int .i64] x0=qi x0:=by kernel_rfl
def DV:aT:=mkSpec [.val .state] [.buf .u8,.int .i64] true (fun x=>qi x)
theorem Y9:dh PG 24 DV:=
 have K:CxR wO:=aV.cx (fun _=>rfl) (l:=[(67,IA),(69,JC),(68,Cb),(70,yJ),(71,Ah)]) ⟨adh,ad6,XJ,TW,WE,trivial⟩
 aI K (aH (l:=[(24,1018,Fz),(24,2042,Fj),(24,4090,FM),(24,32762,Eh)]) rfl ⟨cu (n:=900) (f:=24) K (by kernel_rfl) (by kernel_rfl) (by kernel_rfl) (by kernel_rfl) (by kernel_rfl) (fun p v r h=>(MB p.1 p.2 v.1 v.2).trans h),
  cu (n:=900) (f:=24) K (by kernel_rfl) (by kernel_rfl) (by kernel_rfl) (by kernel_rfl) (by kernel_rfl) (fun p v r h=>(NC p.1 p.2 v.1 v.2).trans h),
  cu (n:=900) (f:=24) K (by kernel_rfl) (by kernel_rfl) (by kernel_rfl) (by kernel_rfl) (by kernel_rfl) (fun p v r h=>(MW p.1 p.2 v.1 v.2).trans h),
  cu (n:=900) (f:=24) K (by kernel_rfl) (by kernel_rfl) (by kernel_rfl) (by kernel_rfl) (by kernel_rfl) (fun p v r h=>(LJ p v.1 v.2).trans h),trivial⟩) (by kernel_rfl) (fun x y h=>(VO x).trans h) rfl rfl
def aJ (x0:(List ak)):Option ((List ak)):=SE (len x0) fun y0 => cnd (beq y0 true) (some []) (cnd (ile (len x0) 68719476736) (some x0) none)
noncomputable def zn:Cx:={ P:=PG,ety:=ety,fn:=look [],inl:=dP [],lp:=aY [] }
theorem Gj (x0:(List ak)):bK zn 53 [.ro .file] [.buf .file] x0=aJ x0:=by kernel_rfl
def bH:aT:=mkSpec [.ro .file] [.buf .file] false (fun x=>aJ x)
theorem iR:dh PG 53 bH:=
 have K:CxR zn:=aV.cx (fun _=>rfl) (l:=[]) trivial
 aI K (aH (l:=[]) rfl trivial) (by kernel_rfl) (fun x y h=>(Gj x).trans h) rfl rfl
def bW (x0:(List ak)) (x1:Int) (x2:Int):Option ((List ak)):=cnd (band (band (band (ile 0 x1) (ile x1 x2)) (ile x2 (len x0))) (band (ile x2 (len x0)) (ile (len x0) (len x0)))) (cnd (ieq x1 x2) (some x0) (cnd (band (ile 0 x1) (ile x1 (len x0))) (cnd (band (ile 0 x2) (ile x2 (len x0))) (cnd (ile (aj (nti (itn x1)) (len (ax (aG x0 (itn x2)) (itn (aC (len x0) x2))))) (len x0)) (cnd (band (band (ile 0 (nti (nad (itn x1) (itn (len (ax (aG x0 (itn x2)) (itn (aC (len x0) x2)))))))) (ile (nti (nad (itn x1) (itn (len (ax (aG x0 (itn x2)) (itn (aC (len x0) x2))))))) (len x0))) (ile (len x0) (aC (len (dJ x0 (itn x1) (ax (aG x0 (itn x2)) (itn (aC (len x0) x2))))) 0))) (some (ax (aG (dJ (dJ x0 (itn x1) (ax (aG x0 (itn x2)) (itn (aC (len x0) x2)))) (nad 0 (itn (nti (nad (itn x1) (itn (len (ax (aG x0 (itn x2)) (itn (aC (len x0) x2))))))))) (jC ak (itn (aC (len x0) (nti (nad (itn x1) (itn (len (ax (aG x0 (itn x2)) (itn (aC (len x0) x2))))))))))) 0) (nad (itn x1) (itn (len (ax (aG x0 (itn x2)) (itn (aC (len x0) x2)))))))) none) none) none) none)) none
noncomputable def xQ:Cx:={ P:=PG,ety:=ety,fn:=look [],inl:=dP [],lp:=aY [] }
theorem Ey (x0:(List ak)) (x1:Int) (x2:Int):bK xQ 82 [.buf .file,.int .i64,.int .i64] [.ro .file] (x0,x1,x2)=bW x0 x1 x2:=by kernel_rfl
def nX:aT:=mkSpec [.buf .file,.int .i64,.int .i64] [.ro .file] false (fun x=>bW x.1 x.2.1 x.2.2)
theorem Gw:dh PG 82 nX:=
 have K:CxR xQ:=aV.cx (fun _=>rfl) (l:=[]) trivial
 aI K (aH (l:=[]) rfl trivial) (by kernel_rfl) (fun x y h=>(Ey x.1 x.2.1 x.2.2).trans h) rfl rfl
def oI (x0:ai) (x1:(List UInt8)):Option (ai×Int):=af (gY x0 [x1]) fun y0 => cnd (aB (ieq y0 0)) (cnd (aB (ieq y0 0)) (some (x0,y0)) (cnd (ieq x0.fuse 0) (some (ai.mk x0.files x0.room x0.fuse true,9)) (cnd (ieq x0.fuse (-1)) (af (aJ x0.files) fun y1 => af (bW y1 0 1) fun y2 => some (ai.mk y2 x0.room x0.fuse x0.down,0)) (af (aJ x0.files) fun y3 => af (bW y3 0 1) fun y4 => some (ai.mk y4 x0.room (wr .i64 (aC x0.fuse 1)) x0.down,0))))) (af (bZ x0 x1) fun y5 => cnd (aB y5.snd) (some (x0,7)) (cnd (ieq x0.fuse 0) (some (ai.mk x0.files x0.room x0.fuse true,9)) (cnd (ieq x0.fuse (-1)) (af (aJ x0.files) fun y6 => af (bW y6 y5.fst (wr .i64 (aj y5.fst 1))) fun y7 => some (ai.mk y7 x0.room x0.fuse x0.down,0)) (af (aJ x0.files) fun y8 => af (bW y8 y5.fst (wr .i64 (aj y5.fst 1))) fun y9 => some (ai.mk y9 x0.room (wr .i64 (aC x0.fuse 1)) x0.down,0)))))
noncomputable def Pz:Cx:={ P:=PG,ety:=ety,fn:=look [(76,fP),(77,gZ),(53,bH),(82,nX)],inl:=dP [55,81],lp:=aY [] }
theorem TK (x0:ai) (x1:(List UInt8)):bK Pz 75 [.val .disk,.str] [.val .disk,.int .i64] (x0,x1)=oI x0 x1:=by kernel_rfl
def Cc:aT:=mkSpec [.val .disk,.str] [.val .disk,.int .i64] false (fun x=>oI x.1 x.2)
theorem Yn:dh PG 75 Cc:=
 have K:CxR Pz:=aV.cx (fun _=>rfl) (l:=[(76,fP),(77,gZ),(53,bH),(82,nX)]) ⟨uD,wI,iR,Gw,trivial⟩
 aI K (aH (l:=[]) rfl trivial) (by kernel_rfl) (fun x y h=>(TK x.1 x.2).trans h) rfl rfl
def MZ:LSh:=⟨72,[(8,.int .i64),(7,.ro .file)],[],[],[(9,.int .i64),(3,.int .i64)],[],[]⟩
@[reducible] def NJ:List gQ:=[⟨.exit 0,[(3,.int .i64)],[],[]⟩]
def qW (p0:Int) (p1:(List ak)) (v0:Int) (v1:Int):Option ((Int×Int) ⊕ ((Int))):=cnd (ilt v0 p0) (cnd (band (ile 0 v0) (ilt v0 (len p1))) (some (Sum.inl (wr .i64 (aj v0 1),wr .i64 (aj v1 (len (ah p1 (itn v0)).data))))) none) (some (Sum.inr v1))
def Ld:fM:=MZ.spec NJ [10,11,12,5,13,14,15,16,17,3,18,9] (fun p v=>qW p.1 p.2 v.1 v.2)
def yV (x0:ai):Option (Int):=af (bG (fun v => qW (len x0.files) x0.files v.fst v.snd) LF (0,0)) fun y0 => some y0
noncomputable def MO:Cx:={ P:=PG,ety:=ety,fn:=look [],inl:=dP [],lp:=aY [(78,58,Ld)] }
theorem Rw (p0:Int) (p1:(List ak)) (v0:Int) (v1:Int):jk MO 900 78 58 (eF PG 78 58) MZ NJ (p0,p1) (v0,v1)=qW p0 p1 v0 v1:=by kernel_rfl
theorem Yl (x0:ai):bK MO 78 [.val .disk] [.int .i64] x0=yV x0:=by kernel_rfl
def Gf:aT:=mkSpec [.val .disk] [.int .i64] true (fun x=>yV x)
theorem abg:dh PG 78 Gf:=
 have K:CxR MO:=aV.cx (fun _=>rfl) (l:=[]) trivial
 aI K (aH (l:=[(78,58,Ld)]) rfl ⟨cu (n:=900) (f:=78) K (by kernel_rfl) (by kernel_rfl) (by kernel_rfl) (by kernel_rfl) (by kernel_rfl) (fun p v r h=>(Rw p.1 p.2 v.1 v.2).trans h),trivial⟩) (by kernel_rfl) (fun x y h=>(Yl x).trans h) rfl rfl
def aZ (x0:(List ak)) (x1:Int) (x2:(List ak)):Option ((List ak)):=match x2 with | [n]=>cnd (band (ile 0 x1) (band (ile x1 (len x0)) (ile (aj (len x0) 1) 68719476736))) (some (jR (ax x0 (itn x1)) (n::aG x0 (itn x1)))) none | _=>none
noncomputable def Iy:Cx:={ P:=PG,ety:=ety,fn:=look [],inl:=dP [],lp:=aY [] }
def je:aT:=J9 .file (fun x=>aZ x.1 x.2.1 x.2.2)
theorem wV:dh PG 79 je:=
 have K:CxR Iy:=aV.cx (fun _=>rfl) (l:=[]) trivial
 agQ K 79 (ak8 PG 79) (ak8 PG ((Ea (ak8 PG 79)).f 29)) (by kernel_rfl) (by kernel_rfl) (by kernel_rfl) (by kernel_rfl) (by kernel_rfl) (e:= .file) (by kernel_rfl) (by kernel_rfl) (by kernel_rfl) (by kernel_rfl) (by kernel_rfl) (by kernel_rfl) rfl (fun x y h=>by obtain⟨l,k,xs⟩:=x;match xs,h with | [],h=>exact h | [_],h=>exact h | _::_::_,h=>exact h)
def yT:LSh:=⟨70,[(10,.int .i64),(9,.ro .bts)],[],[],[(11,.int .i64),(3,.int .i64)],[],[]⟩
@[reducible] def zF:List gQ:=[⟨.exit 0,[(3,.int .i64)],[],[]⟩]
def jl (p0:Int) (p1:(List KL)) (v0:Int) (v1:Int):Option ((Int×Int) ⊕ ((Int))):=cnd (ilt v0 p0) (cnd (band (ile 0 v0) (ilt v0 (len p1))) (cnd (ilt (wr .i64 (aj v1 (len (ah p1 (itn v0)).all))) 0) none (some (Sum.inl (wr .i64 (aj v0 1),wr .i64 (aj v1 (len (ah p1 (itn v0)).all)))))) none) (some (Sum.inr v1))
def xP:fM:=yT.spec zF [12,13,14,5,15,16,17,18,3,19,20,21,22,11] (fun p v=>jl p.1 p.2 v.1 v.2)
def yh:LSh:=⟨169,[(26,.int .i64),(25,.ro .bts)],[],[],[(27,.int .i64),(6,.buf .u8)],[],[]⟩
@[reducible] def xH:List gQ:=[⟨.exit 2,[(6,.buf .u8)],[],[]⟩]
def gG (p0:Int) (p1:(List KL)) (v0:Int) (v1:(List Int)):Option ((Int×(List Int)) ⊕ (((List Int)))):=cnd (ilt v0 p0) (cnd (band (ile 0 v0) (ilt v0 (len p1))) (cnd (ile (len (jR v1 (ah p1 (itn v0)).all)) 68719476736) (some (Sum.inl (wr .i64 (aj v0 1),jR v1 (ah p1 (itn v0)).all))) none) none) (some (Sum.inr v1))
def wU:fM:=yh.spec xH [28,29,30,8,31,32,33,6,34,27] (fun p v=>gG p.1 p.2 v.1 v.2)
def iF (x0:(List KL)):Option ((List Int)):=af (bG (fun v => jl (len x0) x0 v.fst v.snd) LF (0,0)) fun y0 => cnd (ilt y0 0) none (cnd (ilt 0 (wr .i64 (aC y0 0))) (cnd (band (ilt 0 (wr .i64 (aC y0 0))) (ile (wr .i64 (aC y0 0)) 68719476736)) (cnd (ile 0 (len (jC Int (itn (wr .i64 (aC y0 0)))))) (af (bG (fun v => gG (len x0) x0 v.fst v.snd) LF (0,ax (jC Int (itn (wr .i64 (aC y0 0)))) 0)) fun y1 => some y1) none) none) (af (bG (fun v => gG (len x0) x0 v.fst v.snd) LF (0,[])) fun y2 => some y2))
noncomputable def qj:Cx:={ P:=PG,ety:=ety,fn:=look [],inl:=dP [155],lp:=aY [(80,58,xP),(80,250,wU)] }
theorem FW (p0:Int) (p1:(List KL)) (v0:Int) (v1:Int):jk qj 900 80 58 (eF PG 80 58) yT zF (p0,p1) (v0,v1)=jl p0 p1 v0 v1:=by kernel_rfl
theorem EJ (p0:Int) (p1:(List KL)) (v0:Int) (v1:(List Int)):jk qj 900 80 250 (eF PG 80 250) yh xH (p0,p1) (v0,v1)=gG p0 p1 v0 v1:=by kernel_rfl
theorem Jt (x0:(List KL)):bK qj 80 [.ro .bts] [.buf .u8] x0=iF x0:=by kernel_rfl
def rF:aT:=mkSpec [.ro .bts] [.buf .u8] true (fun x=>iF x)
theorem LV:dh PG 80 rF:=
 have K:CxR qj:=aV.cx (fun _=>rfl) (l:=[]) trivial
 aI K (aH (l:=[(80,58,xP),(80,250,wU)]) rfl ⟨cu (n:=900) (f:=80) K (by kernel_rfl) (by kernel_rfl) (by kernel_rfl) (by kernel_rfl) (by kernel_rfl) (fun p v r h=>(FW p.1 p.2 v.1 v.2).trans h),
  cu (n:=900) (f:=80) K (by kernel_rfl) (by kernel_rfl) (by kernel_rfl) (by kernel_rfl) (by kernel_rfl) (fun p v r h=>(EJ p.1 p.2 v.1 v.2).trans h),trivial⟩) (by kernel_rfl) (fun x y h=>(Jt x).trans h) rfl rfl
def gy (x0:ai) (x1:(List UInt8)) (x2:(List Int)):Option (ai×Int):=af (gY x0 [x1]) fun y0 => cnd (aB (ieq y0 0)) (some (x0,y0)) (af (bZ x0 x1) fun y1 => af (yV x0) fun y2 => cnd (bor (ilt (wr .i64 (aC x0.room y2)) (len x2)) (band (aB y1.snd) (ieq (len x0.files) 64))) (some (x0,6)) (af (aJ x0.files) fun y3 => cnd (aB y1.snd) (af (aZ y3 y1.fst [ak.mk x1 [] 0]) fun y4 => cnd (band (ile 0 y1.fst) (ilt y1.fst (len y4))) (af (iF [KL.mk (ah y4 (itn y1.fst)).data,KL.mk x2]) fun y5 => cnd (band (ile 0 y1.fst) (ilt y1.fst (len y4))) (cnd (ieq x0.fuse 0) (some (ai.mk (bf y4 (itn y1.fst) (ak.mk (ah y4 (itn y1.fst)).name y5 (ah y4 (itn y1.fst)).sure)) x0.room x0.fuse true,9)) (cnd (ieq x0.fuse (-1)) (some (ai.mk (bf y4 (itn y1.fst) (ak.mk (ah y4 (itn y1.fst)).name y5 (ah y4 (itn y1.fst)).sure)) x0.room x0.fuse x0.down,0)) (some (ai.mk (bf y4 (itn y1.fst) (ak.mk (ah y4 (itn y1.fst)).name y5 (ah y4 (itn y1.fst)).sure)) x0.room (wr .i64 (aC x0.fuse 1)) x0.down,0)))) none) none) (cnd (band (ile 0 y1.fst) (ilt y1.fst (len y3))) (af (iF [KL.mk (ah y3 (itn y1.fst)).data,KL.mk x2]) fun y6 => cnd (band (ile 0 y1.fst) (ilt y1.fst (len y3))) (cnd (ieq x0.fuse 0) (some (ai.mk (bf y3 (itn y1.fst) (ak.mk (ah y3 (itn y1.fst)).name y6 (ah y3 (itn y1.fst)).sure)) x0.room x0.fuse true,9)) (cnd (ieq x0.fuse (-1)) (some (ai.mk (bf y3 (itn y1.fst) (ak.mk (ah y3 (itn y1.fst)).name y6 (ah y3 (itn y1.fst)).sure)) x0.room x0.fuse x0.down,0)) (some (ai.mk (bf y3 (itn y1.fst) (ak.mk (ah y3 (itn y1.fst)).name y6 (ah y3 (itn y1.fst)).sure)) x0.room (wr .i64 (aC x0.fuse 1)) x0.down,0)))) none) none)))
noncomputable def O6:Cx:={ P:=PG,ety:=ety,fn:=look [(76,fP),(77,gZ),(78,Gf),(53,bH),(79,je),(80,rF)],inl:=dP [81],lp:=aY [] }
theorem Um (x0:ai) (x1:(List UInt8)) (x2:(List Int)):bK O6 29 [.val .disk,.str,.ro .u8] [.val .disk,.int .i64] (x0,x1,x2)=gy x0 x1 x2:=by kernel_rfl
def rY:aT:=mkSpec [.val .disk,.str,.ro .u8] [.val .disk,.int .i64] false (fun x=>gy x.1 x.2.1 x.2.2)
theorem Nj:dh PG 29 rY:=
 have K:CxR O6:=aV.cx (fun _=>rfl) (l:=[(76,fP),(77,gZ),(78,Gf),(53,bH),(79,je),(80,rF)]) ⟨uD,wI,abg,iR,wV,LV,trivial⟩
 aI K (aH (l:=[]) rfl trivial) (by kernel_rfl) (fun x y h=>(Um x.1 x.2.1 x.2.2).trans h) rfl rfl
def iY (x0:ai) (x1:(List UInt8)):Option (ai×Int):=af (gY x0 [x1]) fun y0 => cnd (aB (ieq y0 0)) (cnd (aB (ieq y0 0)) (some (x0,y0)) (cnd (ieq x0.fuse 0) (some (ai.mk x0.files x0.room x0.fuse true,9)) (cnd (ieq x0.fuse (-1)) (af (aJ x0.files) fun y1 => cnd (ilt 0 (len y1)) (cnd (ilt 0 (len y1)) (some (ai.mk (bf y1 0 (ak.mk (ah y1 0).name (ah y1 0).data (len (ah y1 0).data))) x0.room x0.fuse x0.down,0)) none) none) (af (aJ x0.files) fun y2 => cnd (ilt 0 (len y2)) (cnd (ilt 0 (len y2)) (some (ai.mk (bf y2 0 (ak.mk (ah y2 0).name (ah y2 0).data (len (ah y2 0).data))) x0.room (wr .i64 (aC x0.fuse 1)) x0.down,0)) none) none)))) (af (bZ x0 x1) fun y3 => cnd (aB y3.snd) (some (x0,7)) (cnd (ieq x0.fuse 0) (some (ai.mk x0.files x0.room x0.fuse true,9)) (cnd (ieq x0.fuse (-1)) (af (aJ x0.files) fun y4 => cnd (band (ile 0 y3.fst) (ilt y3.fst (len y4))) (cnd (band (ile 0 y3.fst) (ilt y3.fst (len y4))) (some (ai.mk (bf y4 (itn y3.fst) (ak.mk (ah y4 (itn y3.fst)).name (ah y4 (itn y3.fst)).data (len (ah y4 (itn y3.fst)).data))) x0.room x0.fuse x0.down,0)) none) none) (af (aJ x0.files) fun y5 => cnd (band (ile 0 y3.fst) (ilt y3.fst (len y5))) (cnd (band (ile 0 y3.fst) (ilt y3.fst (len y5))) (some (ai.mk (bf y5 (itn y3.fst) (ak.mk (ah y5 (itn y3.fst)).name (ah y5 (itn y3.fst)).data (len (ah y5 (itn y3.fst)).data))) x0.room (wr .i64 (aC x0.fuse 1)) x0.down,0)) none) none))))
noncomputable def U1:Cx:={ P:=PG,ety:=ety,fn:=look [(76,fP),(77,gZ),(53,bH)],inl:=dP [55,81],lp:=aY [] }
theorem Xl (x0:ai) (x1:(List UInt8)):bK U1 31 [.val .disk,.str] [.val .disk,.int .i64] (x0,x1)=iY x0 x1:=by kernel_rfl
def wE:aT:=mkSpec [.val .disk,.str] [.val .disk,.int .i64] false (fun x=>iY x.1 x.2)
theorem QU:dh PG 31 wE:=
 have K:CxR U1:=aV.cx (fun _=>rfl) (l:=[(76,fP),(77,gZ),(53,bH)]) ⟨uD,wI,iR,trivial⟩
 aI K (aH (l:=[]) rfl trivial) (by kernel_rfl) (fun x y h=>(Xl x.1 x.2).trans h) rfl rfl
def jF (x0:ai) (x1:(List UInt8)) (x2:(List UInt8)):Option (ai×Int):=cnd (ile (len (jR [x2] [x1])) 68719476736) (af (gY x0 (jR [x2] [x1])) fun y0 => cnd (aB (ieq y0 0)) (cnd (aB (ieq y0 0)) (some (x0,y0)) (cnd (ieq x0.fuse 0) (some (ai.mk x0.files x0.room x0.fuse true,9)) (cnd (ieq x0.fuse (-1)) (cnd (ilt 0 (len x0.files)) (af (aJ x0.files) fun y1 => cnd (band (ile 1 (len y1)) (band (ile 1 (len y1)) (ile (len y1) (len y1)))) (cnd (ile 0 (len y1)) (cnd (ile 1 (len y1)) (cnd (ile (aj 0 (len (ax (aG y1 1) (itn (aC (len y1) 1))))) (len y1)) (cnd (band (band (ile 0 (nti (nad 0 (itn (len (ax (aG y1 1) (itn (aC (len y1) 1)))))))) (ile (nti (nad 0 (itn (len (ax (aG y1 1) (itn (aC (len y1) 1))))))) (len y1))) (ile (len y1) (aC (len (dJ y1 0 (ax (aG y1 1) (itn (aC (len y1) 1))))) 0))) (af (bZ (ai.mk (ax (dJ (dJ y1 0 (ax (aG y1 1) (itn (aC (len y1) 1)))) (nad 0 (itn (nti (nad 0 (itn (len (ax (aG y1 1) (itn (aC (len y1) 1))))))))) (jC ak (itn (aC (len y1) (nti (nad 0 (itn (len (ax (aG y1 1) (itn (aC (len y1) 1))))))))))) (nad 0 (itn (len (ax (aG y1 1) (itn (aC (len y1) 1))))))) x0.room x0.fuse x0.down) x2) fun y2 => cnd y2.snd (cnd (band (ile 0 y2.fst) (ilt y2.fst (len (ax (dJ (dJ y1 0 (ax (aG y1 1) (itn (aC (len y1) 1)))) (nad 0 (itn (nti (nad 0 (itn (len (ax (aG y1 1) (itn (aC (len y1) 1))))))))) (jC ak (itn (aC (len y1) (nti (nad 0 (itn (len (ax (aG y1 1) (itn (aC (len y1) 1))))))))))) (nad 0 (itn (len (ax (aG y1 1) (itn (aC (len y1) 1)))))))))) (some (ai.mk (bf (ax (dJ (dJ y1 0 (ax (aG y1 1) (itn (aC (len y1) 1)))) (nad 0 (itn (nti (nad 0 (itn (len (ax (aG y1 1) (itn (aC (len y1) 1))))))))) (jC ak (itn (aC (len y1) (nti (nad 0 (itn (len (ax (aG y1 1) (itn (aC (len y1) 1))))))))))) (nad 0 (itn (len (ax (aG y1 1) (itn (aC (len y1) 1))))))) (itn y2.fst) (ak.mk x2 (ah x0.files 0).data (ah x0.files 0).sure)) x0.room x0.fuse x0.down,0)) none) (af (aZ (ax (dJ (dJ y1 0 (ax (aG y1 1) (itn (aC (len y1) 1)))) (nad 0 (itn (nti (nad 0 (itn (len (ax (aG y1 1) (itn (aC (len y1) 1))))))))) (jC ak (itn (aC (len y1) (nti (nad 0 (itn (len (ax (aG y1 1) (itn (aC (len y1) 1))))))))))) (nad 0 (itn (len (ax (aG y1 1) (itn (aC (len y1) 1))))))) y2.fst [ak.mk x2 (ah x0.files 0).data (ah x0.files 0).sure]) fun y3 => some (ai.mk y3 x0.room x0.fuse x0.down,0))) none) none) none) none) none) none) (cnd (ilt 0 (len x0.files)) (af (aJ x0.files) fun y4 => cnd (band (ile 1 (len y4)) (band (ile 1 (len y4)) (ile (len y4) (len y4)))) (cnd (ile 0 (len y4)) (cnd (ile 1 (len y4)) (cnd (ile (aj 0 (len (ax (aG y4 1) (itn (aC (len y4) 1))))) (len y4)) (cnd (band (band (ile 0 (nti (nad 0 (itn (len (ax (aG y4 1) (itn (aC (len y4) 1)))))))) (ile (nti (nad 0 (itn (len (ax (aG y4 1) (itn (aC (len y4) 1))))))) (len y4))) (ile (len y4) (aC (len (dJ y4 0 (ax (aG y4 1) (itn (aC (len y4) 1))))) 0))) (af (bZ (ai.mk (ax (dJ (dJ y4 0 (ax (aG y4 1) (itn (aC (len y4) 1)))) (nad 0 (itn (nti (nad 0 (itn (len (ax (aG y4 1) (itn (aC (len y4) 1))))))))) (jC ak (itn (aC (len y4) (nti (nad 0 (itn (len (ax (aG y4 1) (itn (aC (len y4) 1))))))))))) (nad 0 (itn (len (ax (aG y4 1) (itn (aC (len y4) 1))))))) x0.room (wr .i64 (aC x0.fuse 1)) x0.down) x2) fun y5 => cnd y5.snd (cnd (band (ile 0 y5.fst) (ilt y5.fst (len (ax (dJ (dJ y4 0 (ax (aG y4 1) (itn (aC (len y4) 1)))) (nad 0 (itn (nti (nad 0 (itn (len (ax (aG y4 1) (itn (aC (len y4) 1))))))))) (jC ak (itn (aC (len y4) (nti (nad 0 (itn (len (ax (aG y4 1) (itn (aC (len y4) 1))))))))))) (nad 0 (itn (len (ax (aG y4 1) (itn (aC (len y4) 1)))))))))) (some (ai.mk (bf (ax (dJ (dJ y4 0 (ax (aG y4 1) (itn (aC (len y4) 1)))) (nad 0 (itn (nti (nad 0 (itn (len (ax (aG y4 1) (itn (aC (len y4) 1))))))))) (jC ak (itn (aC (len y4) (nti (nad 0 (itn (len (ax (aG y4 1) (itn (aC (len y4) 1))))))))))) (nad 0 (itn (len (ax (aG y4 1) (itn (aC (len y4) 1))))))) (itn y5.fst) (ak.mk x2 (ah x0.files 0).data (ah x0.files 0).sure)) x0.room (wr .i64 (aC x0.fuse 1)) x0.down,0)) none) (af (aZ (ax (dJ (dJ y4 0 (ax (aG y4 1) (itn (aC (len y4) 1)))) (nad 0 (itn (nti (nad 0 (itn (len (ax (aG y4 1) (itn (aC (len y4) 1))))))))) (jC ak (itn (aC (len y4) (nti (nad 0 (itn (len (ax (aG y4 1) (itn (aC (len y4) 1))))))))))) (nad 0 (itn (len (ax (aG y4 1) (itn (aC (len y4) 1))))))) y5.fst [ak.mk x2 (ah x0.files 0).data (ah x0.files 0).sure]) fun y6 => some (ai.mk y6 x0.room (wr .i64 (aC x0.fuse 1)) x0.down,0))) none) none) none) none) none) none)))) (af (bZ x0 x1) fun y7 => cnd (aB y7.snd) (some (x0,7)) (cnd (ieq x0.fuse 0) (some (ai.mk x0.files x0.room x0.fuse true,9)) (cnd (ieq x0.fuse (-1)) (cnd (band (ile 0 y7.fst) (ilt y7.fst (len x0.files))) (af (aJ x0.files) fun y8 => cnd (band (band (band (ile 0 y7.fst) (ile y7.fst (wr .i64 (aj y7.fst 1)))) (ile (wr .i64 (aj y7.fst 1)) (len y8))) (band (ile (wr .i64 (aj y7.fst 1)) (len y8)) (ile (len y8) (len y8)))) (cnd (ieq y7.fst (wr .i64 (aj y7.fst 1))) (af (bZ (ai.mk y8 x0.room x0.fuse x0.down) x2) fun y9 => cnd y9.snd (cnd (band (ile 0 y9.fst) (ilt y9.fst (len y8))) (some (ai.mk (bf y8 (itn y9.fst) (ak.mk x2 (ah x0.files (itn y7.fst)).data (ah x0.files (itn y7.fst)).sure)) x0.room x0.fuse x0.down,0)) none) (af (aZ y8 y9.fst [ak.mk x2 (ah x0.files (itn y7.fst)).data (ah x0.files (itn y7.fst)).sure]) fun y10 => some (ai.mk y10 x0.room x0.fuse x0.down,0))) (cnd (band (ile 0 y7.fst) (ile y7.fst (len y8))) (cnd (band (ile 0 (wr .i64 (aj y7.fst 1))) (ile (wr .i64 (aj y7.fst 1)) (len y8))) (cnd (ile (aj (nti (itn y7.fst)) (len (ax (aG y8 (itn (wr .i64 (aj y7.fst 1)))) (itn (aC (len y8) (wr .i64 (aj y7.fst 1))))))) (len y8)) (cnd (band (band (ile 0 (nti (nad (itn y7.fst) (itn (len (ax (aG y8 (itn (wr .i64 (aj y7.fst 1)))) (itn (aC (len y8) (wr .i64 (aj y7.fst 1)))))))))) (ile (nti (nad (itn y7.fst) (itn (len (ax (aG y8 (itn (wr .i64 (aj y7.fst 1)))) (itn (aC (len y8) (wr .i64 (aj y7.fst 1))))))))) (len y8))) (ile (len y8) (aC (len (dJ y8 (itn y7.fst) (ax (aG y8 (itn (wr .i64 (aj y7.fst 1)))) (itn (aC (len y8) (wr .i64 (aj y7.fst 1))))))) 0))) (af (bZ (ai.mk (ax (dJ (dJ y8 (itn y7.fst) (ax (aG y8 (itn (wr .i64 (aj y7.fst 1)))) (itn (aC (len y8) (wr .i64 (aj y7.fst 1)))))) (nad 0 (itn (nti (nad (itn y7.fst) (itn (len (ax (aG y8 (itn (wr .i64 (aj y7.fst 1)))) (itn (aC (len y8) (wr .i64 (aj y7.fst 1))))))))))) (jC ak (itn (aC (len y8) (nti (nad (itn y7.fst) (itn (len (ax (aG y8 (itn (wr .i64 (aj y7.fst 1)))) (itn (aC (len y8) (wr .i64 (aj y7.fst 1))))))))))))) (nad (itn y7.fst) (itn (len (ax (aG y8 (itn (wr .i64 (aj y7.fst 1)))) (itn (aC (len y8) (wr .i64 (aj y7.fst 1))))))))) x0.room x0.fuse x0.down) x2) fun y11 => cnd y11.snd (cnd (band (ile 0 y11.fst) (ilt y11.fst (len (ax (dJ (dJ y8 (itn y7.fst) (ax (aG y8 (itn (wr .i64 (aj y7.fst 1)))) (itn (aC (len y8) (wr .i64 (aj y7.fst 1)))))) (nad 0 (itn (nti (nad (itn y7.fst) (itn (len (ax (aG y8 (itn (wr .i64 (aj y7.fst 1)))) (itn (aC (len y8) (wr .i64 (aj y7.fst 1))))))))))) (jC ak (itn (aC (len y8) (nti (nad (itn y7.fst) (itn (len (ax (aG y8 (itn (wr .i64 (aj y7.fst 1)))) (itn (aC (len y8) (wr .i64 (aj y7.fst 1))))))))))))) (nad (itn y7.fst) (itn (len (ax (aG y8 (itn (wr .i64 (aj y7.fst 1)))) (itn (aC (len y8) (wr .i64 (aj y7.fst 1)))))))))))) (some (ai.mk (bf (ax (dJ (dJ y8 (itn y7.fst) (ax (aG y8 (itn (wr .i64 (aj y7.fst 1)))) (itn (aC (len y8) (wr .i64 (aj y7.fst 1)))))) (nad 0 (itn (nti (nad (itn y7.fst) (itn (len (ax (aG y8 (itn (wr .i64 (aj y7.fst 1)))) (itn (aC (len y8) (wr .i64 (aj y7.fst 1))))))))))) (jC ak (itn (aC (len y8) (nti (nad (itn y7.fst) (itn (len (ax (aG y8 (itn (wr .i64 (aj y7.fst 1)))) (itn (aC (len y8) (wr .i64 (aj y7.fst 1))))))))))))) (nad (itn y7.fst) (itn (len (ax (aG y8 (itn (wr .i64 (aj y7.fst 1)))) (itn (aC (len y8) (wr .i64 (aj y7.fst 1))))))))) (itn y11.fst) (ak.mk x2 (ah x0.files (itn y7.fst)).data (ah x0.files (itn y7.fst)).sure)) x0.room x0.fuse x0.down,0)) none) (af (aZ (ax (dJ (dJ y8 (itn y7.fst) (ax (aG y8 (itn (wr .i64 (aj y7.fst 1)))) (itn (aC (len y8) (wr .i64 (aj y7.fst 1)))))) (nad 0 (itn (nti (nad (itn y7.fst) (itn (len (ax (aG y8 (itn (wr .i64 (aj y7.fst 1)))) (itn (aC (len y8) (wr .i64 (aj y7.fst 1))))))))))) (jC ak (itn (aC (len y8) (nti (nad (itn y7.fst) (itn (len (ax (aG y8 (itn (wr .i64 (aj y7.fst 1)))) (itn (aC (len y8) (wr .i64 (aj y7.fst 1))))))))))))) (nad (itn y7.fst) (itn (len (ax (aG y8 (itn (wr .i64 (aj y7.fst 1)))) (itn (aC (len y8) (wr .i64 (aj y7.fst 1))))))))) y11.fst [ak.mk x2 (ah x0.files (itn y7.fst)).data (ah x0.files (itn y7.fst)).sure]) fun y12 => some (ai.mk y12 x0.room x0.fuse x0.down,0))) none) none) none) none)) none) none) (cnd (band (ile 0 y7.fst) (ilt y7.fst (len x0.files))) (af (aJ x0.files) fun y13 => cnd (band (band (band (ile 0 y7.fst) (ile y7.fst (wr .i64 (aj y7.fst 1)))) (ile (wr .i64 (aj y7.fst 1)) (len y13))) (band (ile (wr .i64 (aj y7.fst 1)) (len y13)) (ile (len y13) (len y13)))) (cnd (ieq y7.fst (wr .i64 (aj y7.fst 1))) (af (bZ (ai.mk y13 x0.room (wr .i64 (aC x0.fuse 1)) x0.down) x2) fun y14 => cnd y14.snd (cnd (band (ile 0 y14.fst) (ilt y14.fst (len y13))) (some (ai.mk (bf y13 (itn y14.fst) (ak.mk x2 (ah x0.files (itn y7.fst)).data (ah x0.files (itn y7.fst)).sure)) x0.room (wr .i64 (aC x0.fuse 1)) x0.down,0)) none) (af (aZ y13 y14.fst [ak.mk x2 (ah x0.files (itn y7.fst)).data (ah x0.files (itn y7.fst)).sure]) fun y15 => some (ai.mk y15 x0.room (wr .i64 (aC x0.fuse 1)) x0.down,0))) (cnd (band (ile 0 y7.fst) (ile y7.fst (len y13))) (cnd (band (ile 0 (wr .i64 (aj y7.fst 1))) (ile (wr .i64 (aj y7.fst 1)) (len y13))) (cnd (ile (aj (nti (itn y7.fst)) (len (ax (aG y13 (itn (wr .i64 (aj y7.fst 1)))) (itn (aC (len y13) (wr .i64 (aj y7.fst 1))))))) (len y13)) (cnd (band (band (ile 0 (nti (nad (itn y7.fst) (itn (len (ax (aG y13 (itn (wr .i64 (aj y7.fst 1)))) (itn (aC (len y13) (wr .i64 (aj y7.fst 1)))))))))) (ile (nti (nad (itn y7.fst) (itn (len (ax (aG y13 (itn (wr .i64 (aj y7.fst 1)))) (itn (aC (len y13) (wr .i64 (aj y7.fst 1))))))))) (len y13))) (ile (len y13) (aC (len (dJ y13 (itn y7.fst) (ax (aG y13 (itn (wr .i64 (aj y7.fst 1)))) (itn (aC (len y13) (wr .i64 (aj y7.fst 1))))))) 0))) (af (bZ (ai.mk (ax (dJ (dJ y13 (itn y7.fst) (ax (aG y13 (itn (wr .i64 (aj y7.fst 1)))) (itn (aC (len y13) (wr .i64 (aj y7.fst 1)))))) (nad 0 (itn (nti (nad (itn y7.fst) (itn (len (ax (aG y13 (itn (wr .i64 (aj y7.fst 1)))) (itn (aC (len y13) (wr .i64 (aj y7.fst 1))))))))))) (jC ak (itn (aC (len y13) (nti (nad (itn y7.fst) (itn (len (ax (aG y13 (itn (wr .i64 (aj y7.fst 1)))) (itn (aC (len y13) (wr .i64 (aj y7.fst 1))))))))))))) (nad (itn y7.fst) (itn (len (ax (aG y13 (itn (wr .i64 (aj y7.fst 1)))) (itn (aC (len y13) (wr .i64 (aj y7.fst 1))))))))) x0.room (wr .i64 (aC x0.fuse 1)) x0.down) x2) fun y16 => cnd y16.snd (cnd (band (ile 0 y16.fst) (ilt y16.fst (len (ax (dJ (dJ y13 (itn y7.fst) (ax (aG y13 (itn (wr .i64 (aj y7.fst 1)))) (itn (aC (len y13) (wr .i64 (aj y7.fst 1)))))) (nad 0 (itn (nti (nad (itn y7.fst) (itn (len (ax (aG y13 (itn (wr .i64 (aj y7.fst 1)))) (itn (aC (len y13) (wr .i64 (aj y7.fst 1))))))))))) (jC ak (itn (aC (len y13) (nti (nad (itn y7.fst) (itn (len (ax (aG y13 (itn (wr .i64 (aj y7.fst 1)))) (itn (aC (len y13) (wr .i64 (aj y7.fst 1))))))))))))) (nad (itn y7.fst) (itn (len (ax (aG y13 (itn (wr .i64 (aj y7.fst 1)))) (itn (aC (len y13) (wr .i64 (aj y7.fst 1)))))))))))) (some (ai.mk (bf (ax (dJ (dJ y13 (itn y7.fst) (ax (aG y13 (itn (wr .i64 (aj y7.fst 1)))) (itn (aC (len y13) (wr .i64 (aj y7.fst 1)))))) (nad 0 (itn (nti (nad (itn y7.fst) (itn (len (ax (aG y13 (itn (wr .i64 (aj y7.fst 1)))) (itn (aC (len y13) (wr .i64 (aj y7.fst 1))))))))))) (jC ak (itn (aC (len y13) (nti (nad (itn y7.fst) (itn (len (ax (aG y13 (itn (wr .i64 (aj y7.fst 1)))) (itn (aC (len y13) (wr .i64 (aj y7.fst 1))))))))))))) (nad (itn y7.fst) (itn (len (ax (aG y13 (itn (wr .i64 (aj y7.fst 1)))) (itn (aC (len y13) (wr .i64 (aj y7.fst 1))))))))) (itn y16.fst) (ak.mk x2 (ah x0.files (itn y7.fst)).data (ah x0.files (itn y7.fst)).sure)) x0.room (wr .i64 (aC x0.fuse 1)) x0.down,0)) none) (af (aZ (ax (dJ (dJ y13 (itn y7.fst) (ax (aG y13 (itn (wr .i64 (aj y7.fst 1)))) (itn (aC (len y13) (wr .i64 (aj y7.fst 1)))))) (nad 0 (itn (nti (nad (itn y7.fst) (itn (len (ax (aG y13 (itn (wr .i64 (aj y7.fst 1)))) (itn (aC (len y13) (wr .i64 (aj y7.fst 1))))))))))) (jC ak (itn (aC (len y13) (nti (nad (itn y7.fst) (itn (len (ax (aG y13 (itn (wr .i64 (aj y7.fst 1)))) (itn (aC (len y13) (wr .i64 (aj y7.fst 1))))))))))))) (nad (itn y7.fst) (itn (len (ax (aG y13 (itn (wr .i64 (aj y7.fst 1)))) (itn (aC (len y13) (wr .i64 (aj y7.fst 1))))))))) y16.fst [ak.mk x2 (ah x0.files (itn y7.fst)).data (ah x0.files (itn y7.fst)).sure]) fun y17 => some (ai.mk y17 x0.room (wr .i64 (aC x0.fuse 1)) x0.down,0))) none) none) none) none)) none) none))))) none
noncomputable def O1:Cx:={ P:=PG,ety:=ety,fn:=look [(76,fP),(77,gZ),(53,bH),(79,je)],inl:=dP [55,81,82],lp:=aY [] }
theorem TB (x0:ai) (x1:(List UInt8)) (x2:(List UInt8)):bK O1 33 [.val .disk,.str,.str] [.val .disk,.int .i64] (x0,x1,x2)=jF x0 x1 x2:=by kernel_rfl
def BQ:aT:=mkSpec [.val .disk,.str,.str] [.val .disk,.int .i64] false (fun x=>jF x.1 x.2.1 x.2.2)
theorem YO:dh PG 33 BQ:=
 have K:CxR O1:=aV.cx (fun _=>rfl) (l:=[(76,fP),(77,gZ),(53,bH),(79,je)]) ⟨uD,wI,iR,wV,trivial⟩
 aI K (aH (l:=[]) rfl trivial) (by kernel_rfl) (fun x y h=>(TB x.1 x.2.1 x.2.2).trans h) rfl rfl
def tC (x0:ai) (x1:(List UInt8)) (x2:Int):Option (ai×Int):=af (gY x0 [x1]) fun y0 => cnd (aB (ieq y0 0)) (cnd (aB (ieq y0 0)) (some (x0,y0)) (cnd (ilt x2 0) (cnd (ilt x2 0) (some (x0,1)) (cnd (ieq x0.fuse 0) (some (ai.mk x0.files x0.room x0.fuse true,9)) (cnd (ieq x0.fuse (-1)) (af (aJ x0.files) fun y1 => cnd (ilt 0 (len y1)) (cnd (band (ile 0 x2) (ile x2 (len (ah y1 0).data))) (af (bP (ax (ah y1 0).data (itn x2))) fun y2 => some (ai.mk (bf (bf y1 0 (ak.mk (ah y1 0).name y2 (ah y1 0).sure)) 0 (ak.mk (ah (bf y1 0 (ak.mk (ah y1 0).name y2 (ah y1 0).sure)) 0).name (ah (bf y1 0 (ak.mk (ah y1 0).name y2 (ah y1 0).sure)) 0).data (jY (ah y1 0).sure x2))) x0.room x0.fuse x0.down,0)) none) none) (af (aJ x0.files) fun y3 => cnd (ilt 0 (len y3)) (cnd (band (ile 0 x2) (ile x2 (len (ah y3 0).data))) (af (bP (ax (ah y3 0).data (itn x2))) fun y4 => some (ai.mk (bf (bf y3 0 (ak.mk (ah y3 0).name y4 (ah y3 0).sure)) 0 (ak.mk (ah (bf y3 0 (ak.mk (ah y3 0).name y4 (ah y3 0).sure)) 0).name (ah (bf y3 0 (ak.mk (ah y3 0).name y4 (ah y3 0).sure)) 0).data (jY (ah y3 0).sure x2))) x0.room (wr .i64 (aC x0.fuse 1)) x0.down,0)) none) none)))) (cnd (ilt 0 (len x0.files)) (cnd (ilt (len (ah x0.files 0).data) x2) (some (x0,1)) (cnd (ieq x0.fuse 0) (some (ai.mk x0.files x0.room x0.fuse true,9)) (cnd (ieq x0.fuse (-1)) (af (aJ x0.files) fun y5 => cnd (ilt 0 (len y5)) (cnd (band (ile 0 x2) (ile x2 (len (ah y5 0).data))) (af (bP (ax (ah y5 0).data (itn x2))) fun y6 => some (ai.mk (bf (bf y5 0 (ak.mk (ah y5 0).name y6 (ah y5 0).sure)) 0 (ak.mk (ah (bf y5 0 (ak.mk (ah y5 0).name y6 (ah y5 0).sure)) 0).name (ah (bf y5 0 (ak.mk (ah y5 0).name y6 (ah y5 0).sure)) 0).data (jY (ah y5 0).sure x2))) x0.room x0.fuse x0.down,0)) none) none) (af (aJ x0.files) fun y7 => cnd (ilt 0 (len y7)) (cnd (band (ile 0 x2) (ile x2 (len (ah y7 0).data))) (af (bP (ax (ah y7 0).data (itn x2))) fun y8 => some (ai.mk (bf (bf y7 0 (ak.mk (ah y7 0).name y8 (ah y7 0).sure)) 0 (ak.mk (ah (bf y7 0 (ak.mk (ah y7 0).name y8 (ah y7 0).sure)) 0).name (ah (bf y7 0 (ak.mk (ah y7 0).name y8 (ah y7 0).sure)) 0).data (jY (ah y7 0).sure x2))) x0.room (wr .i64 (aC x0.fuse 1)) x0.down,0)) none) none)))) none))) (af (bZ x0 x1) fun y9 => cnd (aB y9.snd) (some (x0,7)) (cnd (ilt x2 0) (cnd (ilt x2 0) (some (x0,1)) (cnd (ieq x0.fuse 0) (some (ai.mk x0.files x0.room x0.fuse true,9)) (cnd (ieq x0.fuse (-1)) (af (aJ x0.files) fun y10 => cnd (band (ile 0 y9.fst) (ilt y9.fst (len y10))) (cnd (band (ile 0 x2) (ile x2 (len (ah y10 (itn y9.fst)).data))) (af (bP (ax (ah y10 (itn y9.fst)).data (itn x2))) fun y11 => some (ai.mk (bf (bf y10 (itn y9.fst) (ak.mk (ah y10 (itn y9.fst)).name y11 (ah y10 (itn y9.fst)).sure)) (itn y9.fst) (ak.mk (ah (bf y10 (itn y9.fst) (ak.mk (ah y10 (itn y9.fst)).name y11 (ah y10 (itn y9.fst)).sure)) (itn y9.fst)).name (ah (bf y10 (itn y9.fst) (ak.mk (ah y10 (itn y9.fst)).name y11 (ah y10 (itn y9.fst)).sure)) (itn y9.fst)).data (jY (ah y10 (itn y9.fst)).sure x2))) x0.room x0.fuse x0.down,0)) none) none) (af (aJ x0.files) fun y12 => cnd (band (ile 0 y9.fst) (ilt y9.fst (len y12))) (cnd (band (ile 0 x2) (ile x2 (len (ah y12 (itn y9.fst)).data))) (af (bP (ax (ah y12 (itn y9.fst)).data (itn x2))) fun y13 => some (ai.mk (bf (bf y12 (itn y9.fst) (ak.mk (ah y12 (itn y9.fst)).name y13 (ah y12 (itn y9.fst)).sure)) (itn y9.fst) (ak.mk (ah (bf y12 (itn y9.fst) (ak.mk (ah y12 (itn y9.fst)).name y13 (ah y12 (itn y9.fst)).sure)) (itn y9.fst)).name (ah (bf y12 (itn y9.fst) (ak.mk (ah y12 (itn y9.fst)).name y13 (ah y12 (itn y9.fst)).sure)) (itn y9.fst)).data (jY (ah y12 (itn y9.fst)).sure x2))) x0.room (wr .i64 (aC x0.fuse 1)) x0.down,0)) none) none)))) (cnd (band (ile 0 y9.fst) (ilt y9.fst (len x0.files))) (cnd (ilt (len (ah x0.files (itn y9.fst)).data) x2) (some (x0,1)) (cnd (ieq x0.fuse 0) (some (ai.mk x0.files x0.room x0.fuse true,9)) (cnd (ieq x0.fuse (-1)) (af (aJ x0.files) fun y14 => cnd (band (ile 0 y9.fst) (ilt y9.fst (len y14))) (cnd (band (ile 0 x2) (ile x2 (len (ah y14 (itn y9.fst)).data))) (af (bP (ax (ah y14 (itn y9.fst)).data (itn x2))) fun y15 => some (ai.mk (bf (bf y14 (itn y9.fst) (ak.mk (ah y14 (itn y9.fst)).name y15 (ah y14 (itn y9.fst)).sure)) (itn y9.fst) (ak.mk (ah (bf y14 (itn y9.fst) (ak.mk (ah y14 (itn y9.fst)).name y15 (ah y14 (itn y9.fst)).sure)) (itn y9.fst)).name (ah (bf y14 (itn y9.fst) (ak.mk (ah y14 (itn y9.fst)).name y15 (ah y14 (itn y9.fst)).sure)) (itn y9.fst)).data (jY (ah y14 (itn y9.fst)).sure x2))) x0.room x0.fuse x0.down,0)) none) none) (af (aJ x0.files) fun y16 => cnd (band (ile 0 y9.fst) (ilt y9.fst (len y16))) (cnd (band (ile 0 x2) (ile x2 (len (ah y16 (itn y9.fst)).data))) (af (bP (ax (ah y16 (itn y9.fst)).data (itn x2))) fun y17 => some (ai.mk (bf (bf y16 (itn y9.fst) (ak.mk (ah y16 (itn y9.fst)).name y17 (ah y16 (itn y9.fst)).sure)) (itn y9.fst) (ak.mk (ah (bf y16 (itn y9.fst) (ak.mk (ah y16 (itn y9.fst)).name y17 (ah y16 (itn y9.fst)).sure)) (itn y9.fst)).name (ah (bf y16 (itn y9.fst) (ak.mk (ah y16 (itn y9.fst)).name y17 (ah y16 (itn y9.fst)).sure)) (itn y9.fst)).data (jY (ah y16 (itn y9.fst)).sure x2))) x0.room (wr .i64 (aC x0.fuse 1)) x0.down,0)) none) none)))) none)))
noncomputable def W9:Cx:={ P:=PG,ety:=ety,fn:=look [(76,fP),(77,gZ),(53,bH),(56,iI)],inl:=dP [55,81],lp:=aY [] }
theorem Za (x0:ai) (x1:(List UInt8)) (x2:Int):bK W9 87 [.val .disk,.str,.int .i64] [.val .disk,.int .i64] (x0,x1,x2)=tC x0 x1 x2:=by kernel_rfl
def Ij:aT:=mkSpec [.val .disk,.str,.int .i64] [.val .disk,.int .i64] false (fun x=>tC x.1 x.2.1 x.2.2)
theorem ab6:dh PG 87 Ij:=
 have K:CxR W9:=aV.cx (fun _=>rfl) (l:=[(76,fP),(77,gZ),(53,bH),(56,iI)]) ⟨uD,wI,iR,vI,trivial⟩
 aI K (aH (l:=[]) rfl trivial) (by kernel_rfl) (fun x y h=>(Za x.1 x.2.1 x.2.2).trans h) rfl rfl
def fB (x0:ai) (x1:dB):Option (ai×Int):=af (sQ x1) fun y0 => cnd (aB y0) (some (x0,1)) (af (qA x0) fun y1 => cnd (ieq y1.snd 1) (cnd (ieq y1.snd 1) (some (x0,y1.snd)) (cnd (aB (ieq x1.gen (wr .i64 (aj y1.fst.gen 1)))) (some (x0,8)) (af (jA x1.gen) fun y2 => af (mM x1) fun y3 => af (jD x0 y2) fun y4 => cnd (ieq y4.snd 7) (af (gy x0 y2 [y3.a0,y3.a1,y3.a2,y3.a3,y3.a4,y3.a5,y3.a6,y3.a7,y3.a8,y3.a9,y3.a10,y3.a11,y3.a12,y3.a13,y3.a14,y3.a15,y3.a16,y3.a17,y3.a18,y3.a19]) fun y5 => cnd (aB (ieq y5.snd 0)) (some y5) (af (iY y5.fst y2) fun y6 => cnd (aB (ieq y6.snd 0)) (some y6) (some (y6.fst,0)))) (af (tC x0 y2 0) fun y7 => cnd (aB (ieq y7.snd 0)) (some y7) (af (gy y7.fst y2 [y3.a0,y3.a1,y3.a2,y3.a3,y3.a4,y3.a5,y3.a6,y3.a7,y3.a8,y3.a9,y3.a10,y3.a11,y3.a12,y3.a13,y3.a14,y3.a15,y3.a16,y3.a17,y3.a18,y3.a19]) fun y8 => cnd (aB (ieq y8.snd 0)) (some y8) (af (iY y8.fst y2) fun y9 => cnd (aB (ieq y9.snd 0)) (some y9) (some (y9.fst,0)))))))) (cnd (ieq y1.snd 9) (some (x0,y1.snd)) (cnd (aB (ieq x1.gen (wr .i64 (aj y1.fst.gen 1)))) (some (x0,8)) (af (jA x1.gen) fun y10 => af (mM x1) fun y11 => af (jD x0 y10) fun y12 => cnd (ieq y12.snd 7) (af (gy x0 y10 [y11.a0,y11.a1,y11.a2,y11.a3,y11.a4,y11.a5,y11.a6,y11.a7,y11.a8,y11.a9,y11.a10,y11.a11,y11.a12,y11.a13,y11.a14,y11.a15,y11.a16,y11.a17,y11.a18,y11.a19]) fun y13 => cnd (aB (ieq y13.snd 0)) (some y13) (af (iY y13.fst y10) fun y14 => cnd (aB (ieq y14.snd 0)) (some y14) (some (y14.fst,0)))) (af (tC x0 y10 0) fun y15 => cnd (aB (ieq y15.snd 0)) (some y15) (af (gy y15.fst y10 [y11.a0,y11.a1,y11.a2,y11.a3,y11.a4,y11.a5,y11.a6,y11.a7,y11.a8,y11.a9,y11.a10,y11.a11,y11.a12,y11.a13,y11.a14,y11.a15,y11.a16,y11.a17,y11.a18,y11.a19]) fun y16 => cnd (aB (ieq y16.snd 0)) (some y16) (af (iY y16.fst y10) fun y17 => cnd (aB (ieq y17.snd 0)) (some y17) (some (y17.fst,0)))))))))
noncomputable def SN:Cx:={ P:=PG,ety:=ety,fn:=look [(83,uh),(25,oU),(72,wF),(84,uo),(21,jw),(87,Ij),(29,rY),(31,wE)],inl:=dP [86,88,89,85],lp:=aY [] }
theorem VD (x0:ai) (x1:dB):bK SN 35 [.val .disk,.val .slot] [.val .disk,.int .i64] (x0,x1)=fB x0 x1:=by kernel_rfl
def DC:aT:=mkSpec [.val .disk,.val .slot] [.val .disk,.int .i64] false (fun x=>fB x.1 x.2)
theorem Y8:dh PG 35 DC:=
 have K:CxR SN:=aV.cx (fun _=>rfl) (l:=[(83,uh),(25,oU),(72,wF),(84,uo),(21,jw),(87,Ij),(29,rY),(31,wE)]) ⟨O8,JH,QS,Pq,zW,ab6,Nj,QU,trivial⟩
 aI K (aH (l:=[]) rfl trivial) (by kernel_rfl) (fun x y h=>(VD x.1 x.2).trans h) rfl rfl
def rW (x0:(List UInt8)):Option (Bool):=some (aB (ieq (pJ [115,110,97,112,46] x0) 0))
def xk:aT:=mkSpec [.str] [.bool] true (fun x=>rW x)
def Nb:Go.Shelf.Ren:=⟨fun | 174=>91 | 247=>157 | 245=>158 | 287=>203 | 279=>204 | 280=>205 | 281=>206 | 282=>207 | 321=>227 | 322=>228 | 316=>229 | 171=>231 | 205=>230 | 243=>237 | 246=>113 | 283=>171 | 284=>172 | 285=>173 | 286=>174 | 129=>212 | 317=>211 | 318=>213 | 319=>214 | 320=>215 | 337=>233 | 338=>234 | n=>n,fun | 9=>9 | 3=>3 | 2=>2 | 75=>139 | 85=>140 | 4=>4 | 167=>251 | 5=>5 | 53=>219 | 175=>252 | 46=>162 | 168=>254 | 37=>51 | 0=>0 | 210=>277 | 21=>21 | 127=>233 | 145=>284 | 143=>282 | 171=>224 | 173=>227 | 212=>260 | 51=>119 | 20=>20 | 213=>261 | 232=>285 | 233=>286 | 74=>138 | 209=>276 | 144=>283 | 80=>173 | n=>n,fun | 15=>2 | 16=>3 | 17=>0 | 18=>4 | 19=>5 | n=>n⟩
theorem kT:Go.Proofs.LaysC.n174 PG Nb where
 mixed:=by kernel_rfl
 f129:=by kernel_rfl
 f171:=by kernel_rfl
 f174:=by kernel_rfl
 f205:=by kernel_rfl
 f243:=by kernel_rfl
 f245:=by kernel_rfl
 f246:=by kernel_rfl
 f247:=by kernel_rfl
 f279:=by kernel_rfl
 f280:=by kernel_rfl
 f281:=by kernel_rfl
 f282:=by kernel_rfl
 f283:=by kernel_rfl
 f284:=by kernel_rfl
 f285:=by kernel_rfl
 f286:=by kernel_rfl
 f287:=by kernel_rfl
 f316:=by kernel_rfl
 f317:=by kernel_rfl
 f318:=by kernel_rfl
 f319:=by kernel_rfl
 f320:=by kernel_rfl
 f321:=by kernel_rfl
 f322:=by kernel_rfl
 f337:=by kernel_rfl
 f338:=by kernel_rfl
 t0:=by kernel_rfl
 a0:=fun w=>by kernel_rfl
 z0:=fun w=>by kernel_rfl
 v0:=fun w=>by kernel_rfl
 t2:=by kernel_rfl
 a2:=fun w=>by kernel_rfl
 z2:=fun w=>by kernel_rfl
 v2:=fun w=>by kernel_rfl
 t3:=by kernel_rfl
 a3:=fun w=>by kernel_rfl
 z3:=fun w=>by kernel_rfl
 v3:=fun w=>by kernel_rfl
 t4:=by kernel_rfl
 a4:=fun w=>by kernel_rfl
 z4:=fun w=>by kernel_rfl
 v4:=fun w=>by kernel_rfl
 t5:=by kernel_rfl
 a5:=fun w=>by kernel_rfl
 z5:=fun w=>by kernel_rfl
 v5:=fun w=>by kernel_rfl
 t9:=by kernel_rfl
 a9:=fun w=>by kernel_rfl
 z9:=fun w=>by kernel_rfl
 v9:=fun w=>by kernel_rfl
 t20:=by kernel_rfl
 a20:=fun w=>by kernel_rfl
 z20:=fun w=>by kernel_rfl
 v20:=fun w=>by kernel_rfl
 t21:=by kernel_rfl
 a21:=fun w=>by kernel_rfl
 z21:=fun w=>by kernel_rfl
 v21:=fun w=>by kernel_rfl
 t37:=by kernel_rfl
 a37:=fun w=>by kernel_rfl
 z37:=fun w=>by kernel_rfl
 v37:=fun w=>by kernel_rfl
 t46:=by kernel_rfl
 a46:=fun w=>by kernel_rfl
 z46:=fun w=>by kernel_rfl
 v46:=fun w=>by kernel_rfl
 t51:=by kernel_rfl
 a51:=fun w=>by kernel_rfl
 z51:=fun w=>by kernel_rfl
 v51:=fun w=>by kernel_rfl
 t53:=by kernel_rfl
 a53:=fun w=>by kernel_rfl
 z53:=fun w=>by kernel_rfl
 v53:=fun w=>by kernel_rfl
 t75:=by kernel_rfl
 a75:=fun w=>by kernel_rfl
 z75:=fun w=>by kernel_rfl
 v75:=fun w=>by kernel_rfl
 t85:=by kernel_rfl
 a85:=fun w=>by kernel_rfl
 z85:=fun w=>by kernel_rfl
 v85:=fun w=>by kernel_rfl
 t127:=by kernel_rfl
 a127:=fun w=>by kernel_rfl
 z127:=fun w=>by kernel_rfl
 v127:=fun w=>by kernel_rfl
 t143:=by kernel_rfl
 a143:=fun w=>by kernel_rfl
 z143:=fun w=>by kernel_rfl
 v143:=fun w=>by kernel_rfl
 t145:=by kernel_rfl
 a145:=fun w=>by kernel_rfl
 z145:=fun w=>by kernel_rfl
 v145:=fun w=>by kernel_rfl
 t167:=by kernel_rfl
 a167:=fun w=>by kernel_rfl
 z167:=fun w=>by kernel_rfl
 v167:=fun w=>by kernel_rfl
 t168:=by kernel_rfl
 a168:=fun w=>by kernel_rfl
 z168:=fun w=>by kernel_rfl
 v168:=fun w=>by kernel_rfl
 t171:=by kernel_rfl
 a171:=fun w=>by kernel_rfl
 z171:=fun w=>by kernel_rfl
 v171:=fun w=>by kernel_rfl
 t173:=by kernel_rfl
 a173:=fun w=>by kernel_rfl
 z173:=fun w=>by kernel_rfl
 v173:=fun w=>by kernel_rfl
 t175:=by kernel_rfl
 a175:=fun w=>by kernel_rfl
 z175:=fun w=>by kernel_rfl
 v175:=fun w=>by kernel_rfl
 t210:=by kernel_rfl
 a210:=fun w=>by kernel_rfl
 z210:=fun w=>by kernel_rfl
 v210:=fun w=>by kernel_rfl
 t212:=by kernel_rfl
 a212:=fun w=>by kernel_rfl
 z212:=fun w=>by kernel_rfl
 v212:=fun w=>by kernel_rfl
 t213:=by kernel_rfl
 a213:=fun w=>by kernel_rfl
 z213:=fun w=>by kernel_rfl
 t232:=by kernel_rfl
 a232:=fun w=>by kernel_rfl
 z232:=fun w=>by kernel_rfl
 v232:=fun w=>by kernel_rfl
 t233:=by kernel_rfl
 a233:=fun w=>by kernel_rfl
 z233:=fun w=>by kernel_rfl
 v233:=fun w=>by kernel_rfl
 g15:=by kernel_rfl
 g16:=by kernel_rfl
 g17:=by kernel_rfl
 g18:=by kernel_rfl
 g19:=by kernel_rfl
 t80:=by kernel_rfl
 a80:=fun w=>by kernel_rfl
 z80:=fun w=>by kernel_rfl
 v80:=fun w=>by kernel_rfl
 i0:=by kernel_rfl
 i2:=by kernel_rfl
 i3:=by kernel_rfl
 i4:=by kernel_rfl
 i5:=by kernel_rfl
 i9:=by kernel_rfl
 i20:=by kernel_rfl
 i21:=by kernel_rfl
 i37:=by kernel_rfl
 i46:=by kernel_rfl
 i51:=by kernel_rfl
 i53:=by kernel_rfl
 i75:=by kernel_rfl
 i80:=by kernel_rfl
 i85:=by kernel_rfl
 i127:=by kernel_rfl
 i143:=by kernel_rfl
 i145:=by kernel_rfl
 i167:=by kernel_rfl
 i168:=by kernel_rfl
 i171:=by kernel_rfl
 i173:=by kernel_rfl
 i175:=by kernel_rfl
 i210:=by kernel_rfl
 i212:=by kernel_rfl
 i232:=by kernel_rfl
 i233:=by kernel_rfl
 m15:=by kernel_rfl
 m16:=by kernel_rfl
 m17:=by kernel_rfl
 m18:=by kernel_rfl
 m19:=by kernel_rfl
 c0:=by kernel_rfl
 c2:=by kernel_rfl
 c3:=by kernel_rfl
 c4:=by kernel_rfl
 c5:=by kernel_rfl
 c9:=by kernel_rfl
 c20:=by kernel_rfl
 c21:=by kernel_rfl
 c37:=by kernel_rfl
 c46:=by kernel_rfl
 c51:=by kernel_rfl
 c53:=by kernel_rfl
 c75:=by kernel_rfl
 c80:=by kernel_rfl
 c85:=by kernel_rfl
 c127:=by kernel_rfl
 c143:=by kernel_rfl
 c145:=by kernel_rfl
 c167:=by kernel_rfl
 c168:=by kernel_rfl
 c171:=by kernel_rfl
 c173:=by kernel_rfl
 c175:=by kernel_rfl
 c210:=by kernel_rfl
 c212:=by kernel_rfl
 c213:=by kernel_rfl
 c232:=by kernel_rfl
 c233:=by kernel_rfl
def LW:Go.Shelf.Ren:=⟨fun | 103=>90 | 210=>156 | 206=>177 | n=>n,fun | 9=>9 | 4=>4 | 24=>136 | 3=>3 | n=>n,fun | n=>n⟩
theorem Ae:Go.Proofs.Lays.n103 PG LW where
 mixed:=by kernel_rfl
 f103:=by kernel_rfl
 f206:=by kernel_rfl
 f210:=by kernel_rfl
 t3:=by kernel_rfl
 a3:=fun w=>by kernel_rfl
 z3:=fun w=>by kernel_rfl
 v3:=fun w=>by kernel_rfl
 t4:=by kernel_rfl
 a4:=fun w=>by kernel_rfl
 z4:=fun w=>by kernel_rfl
 v4:=fun w=>by kernel_rfl
 t9:=by kernel_rfl
 a9:=fun w=>by kernel_rfl
 z9:=fun w=>by kernel_rfl
 v9:=fun w=>by kernel_rfl
 t24:=by kernel_rfl
 a24:=fun w=>by kernel_rfl
 z24:=fun w=>by kernel_rfl
 v24:=fun w=>by kernel_rfl
theorem aeQ {B B':Nat} {a b:World} (h:RowKit.Below B a b) (hB:B'<=B):RowKit.Below B' a b:=⟨h.os,h.tape,h.output,h.size,fun k hk=>h.block k (Nat.lt_of_lt_of_le hk hB)⟩
set_option maxHeartbeats 1000000 in
set_option maxRecDepth 100000 in
theorem aaX (s r:ByteArray) (w:World)
 (h1:Calls PG 90 #[.string s,.string ⟨#[115,110,97,112,46]⟩] w fun e w'=>e= .returned (.tuple #[.string r,.bool false])/\w'=w):
 Calls PG 36 #[.string s] w fun e w'=>e= .returned (.bool false)/\RowKit.Below w.heap.size w w':=by
 go_enter Go.Proofs.Tryz.func36,Go.Proofs.Tryz.ntmps36
 go_wp2_with (go_at_call 90;refine h1.mono ?_;rintro e W1 ⟨rfl,rfl⟩)
 all_goals (go_ret;exact⟨rfl,RowKit.Below.refl _ _⟩)
set_option maxHeartbeats 1000000 in
set_option maxRecDepth 100000 in
theorem Zd (s r:ByteArray) (w:World)
 (h1:Calls PG 90 #[.string s,.string ⟨#[115,110,97,112,46]⟩] w fun e w'=>e= .returned (.tuple #[.string r,.bool true])/\w'=w) (hr:r.size≠10):
 Calls PG 36 #[.string s] w fun e w'=>e= .returned (.bool false)/\RowKit.Below w.heap.size w w':=by
 have hr':((((r.size:Nat):Int)) != 10)=true:=by simp;omega
 go_enter Go.Proofs.Tryz.func36,Go.Proofs.Tryz.ntmps36
 go_wp2_with (go_at_call 90;refine h1.mono ?_;rintro e W1 ⟨rfl,rfl⟩)
 all_goals (go_ret;exact⟨rfl,RowKit.Below.refl _ _⟩)
set_option maxHeartbeats 1000000 in
set_option maxRecDepth 100000 in
theorem PK (s r:ByteArray) (w:World) (v:Int) (t:TypeId) (q:Value->Prop)
 (h1:Calls PG 90 #[.string s,.string ⟨#[115,110,97,112,46]⟩] w fun e w'=>e= .returned (.tuple #[.string r,.bool true])/\w'=w) (hr:r.size=10)
 (h2:Calls PG 91 #[.string r,.int .i64 10,.int .i64 64] w fun e w'=>∃p,e= .returned (.tuple #[.int .i64 v,.iface t p])/\RowKit.Below w.heap.size w w'):
 Calls PG 36 #[.string s] w fun e w'=>e= .returned (.bool false)/\RowKit.Below w.heap.size w w':=by
 have hr':((r.size:Nat):Int)=10:=by omega
 go_enter Go.Proofs.Tryz.func36,Go.Proofs.Tryz.ntmps36
 go_wp2_with (first | (go_at_call 90;refine h1.mono ?_;rintro e W1 ⟨rfl,rfl⟩) | (go_at_call 91;refine h2.mono ?_;rintro e W2 ⟨p,rfl,hb⟩))
 all_goals (go_ret;exact⟨rfl,hb⟩)
set_option maxHeartbeats 1000000 in
set_option maxRecDepth 100000 in
theorem abb (s r:ByteArray) (w:World) (v:Int) (nm:ByteArray)
 (h1:Calls PG 90 #[.string s,.string ⟨#[115,110,97,112,46]⟩] w fun e w'=>e= .returned (.tuple #[.string r,.bool true])/\w'=w) (hr:r.size=10)
 (h2:Calls PG 91 #[.string r,.int .i64 10,.int .i64 64] w fun e w'=>e= .returned (.tuple #[.int .i64 v,.nilIface])/\RowKit.Below w.heap.size w w')
 (h3:∀w1,RowKit.Below w.heap.size w w1->Calls PG 17 #[.int .i64 v] w1 fun e w'=>e= .returned (.string nm)/\RowKit.Below w1.heap.size w1 w'):
 Calls PG 36 #[.string s] w fun e w'=>e= .returned (.bool (nm.toList == s.toList))/\RowKit.Below w.heap.size w w':=by
 have hr':((r.size:Nat):Int)=10:=by omega
 go_enter Go.Proofs.Tryz.func36,Go.Proofs.Tryz.ntmps36
 go_wp2_with (first | (go_at_call 90;refine h1.mono ?_;rintro e W1 ⟨rfl,rfl⟩) | (go_at_call 91;refine h2.mono ?_;rintro e W2 ⟨rfl,hb⟩) | (go_at_call 17;refine(h3 _ hb).mono ?_;rintro e W3 ⟨rfl,hb3⟩))
 all_goals (go_ret;exact⟨rfl,hb.trans (aeQ hb3 hb.size)⟩)
theorem agU (v:Int) (hv:inI v):dw v=some (Dc [115,110,97,112,46] v):=by
 unfold inI at hv
 unfold dw Dc nT rP
 by_cases h:v<1\/1000000000<v
 ·rw[if_pos h,show bor (ilt v 1) (ilt 1000000000 v)=true by rw[aaL,JS,JS];exact h];rfl
 ·have e1:bor (ilt v 1) (ilt 1000000000 v)=false:=by
   rw[Bool.eq_false_iff];intro g;rw[aaL,JS,JS]at g;exact h g
  have hl:(fmt10 v).length<=10:=by
   unfold fmt10;rw[if_neg (by omega)]
   exact MK 20 _ 10 (by have:(10:Nat)^10=10000000000:=by decide
                        omega) (by decide)
  have e2:wr .i64 (aC 10 (len (fmt10 v)))=((10 - (fmt10 v).length:Nat):Int):=by
   unfold aC len wr IntKind.wrap
   simp [IntKind.bits,IntKind.signed]
   omega
  have e3:agI v 10=some (fmt10 v):=by
   unfold agI
   rw[show band (ieq 10 10) (band (ile (-9223372036854775808) v) (ile v 9223372036854775807))=true by rw[qE,qE,kZ,kZ];exact⟨rfl,hv⟩];rfl
  have e4:agx [UInt8.ofNat 48] ((10 - (fmt10 v).length:Nat):Int)=some (List.replicate (10 - (fmt10 v).length) 48):=by
   unfold agx
   rw[show band (ile 0 ((10 - (fmt10 v).length:Nat):Int)) (band (ile ((10 - (fmt10 v).length:Nat):Int) 9223372036854775807) (ile (ji (len [UInt8.ofNat 48]) ((10 - (fmt10 v).length:Nat):Int)) 140737488355328))=true by
    rw[qE,qE,kZ,kZ,kZ];simp only[ji,len,List.length_singleton];omega]
   simp only[cnd,itn,Int.toNat_natCast]
   rw[show UInt8.ofNat 48=48 from rfl,Ym]
  rw[if_neg h,e1,e3]
  simp only[cnd,af,Option.bind_some,e2,e4]
  rw[show ile (aj 5 (len (List.replicate (10 - (fmt10 v).length) (48:UInt8)))) 68719476736=true by rw[kZ];simp only[aj,len,List.length_replicate];omega]
  simp only
  rw[show ile (aj (len (jR [UInt8.ofNat 115,UInt8.ofNat 110,UInt8.ofNat 97,UInt8.ofNat 112,UInt8.ofNat 46] (List.replicate (10 - (fmt10 v).length) (48:UInt8)))) (len (fmt10 v))) 68719476736=true by rw[kZ];simp only[aj,len,jR,List.length_append,List.length_replicate,List.length_cons,List.length_nil];omega]
  rfl
theorem Rt:dh PG 36 xk:=by
 refine abT (xs:=[.str]) (rs:=[.bool]) rfl rfl (aa4 aV (by kernel_rfl)) fun(x:List UInt8) (y:Bool) w hrun hg=> ?_
 have hy:y=aB (ieq (pJ [115,110,97,112,46] x) 0):=(Option.some.inj hrun).symm
 subst hy
 show Calls PG 36 #[.string ⟨x.toArray⟩] w fun e w'=>e= .returned (.bool (aB (ieq (pJ [115,110,97,112,46] x) 0)))/\RowKit.Below w.heap.size w w'
 have hcut:=Go.Proofs.Any.strings_CutPrefix Ae ⟨x.toArray⟩ ⟨#[115,110,97,112,46]⟩ w
 change Calls PG 90 #[.string ⟨x.toArray⟩,.string ⟨#[115,110,97,112,46]⟩] w (fun e w'=>e= .returned (.tuple #[.string ⟨(Go.Lib.trimPrefix x [115,110,97,112,46]).toArray⟩,.bool (Go.Lib.hasPrefix x [115,110,97,112,46])])/\w'=w)at hcut
 have nz:∀b:Bool,b=decide (pJ [115,110,97,112,46] x≠0)->aB (ieq (pJ [115,110,97,112,46] x) 0)=b:=fun b hb=>by
  rw[hb]
  by_cases h:pJ [115,110,97,112,46] x=0<;>simp [aB,ieq,h]
 cases hpf:Go.Lib.hasPrefix x [115,110,97,112,46]with
 |false=>
  rw[hpf]at hcut
  have hz:pJ [115,110,97,112,46] x=0:=if_neg fun g=>by
   have:Go.Lib.hasPrefix x [115,110,97,112,46]=true:=by
    unfold Go.Lib.hasPrefix
    rw[List.isPrefixOf_iff_prefix]
    exact⟨x.drop 5,by conv=>rhs;rw[<-List.take_append_drop 5 x,show x.take 5=_ from g.1]⟩
   rw[hpf]at this;cases this
  rw[hz]
  exact aaX _ _ w hcut
 |true=>
  rw[hpf]at hcut
  have htk:x.take 5=[115,110,97,112,46]:=by
   unfold Go.Lib.hasPrefix at hpf
   rw[List.isPrefixOf_iff_prefix]at hpf
   obtain⟨r,rfl⟩:=hpf
   rfl
  rw[show Go.Lib.trimPrefix x [115,110,97,112,46]=x.drop 5 by unfold Go.Lib.trimPrefix;rw[if_pos hpf];rfl]at hcut
  by_cases hl:(x.drop 5).length=10
  ·have hsame:=agD [115,110,97,112,46] x htk (by simp) hl
   change (match Go.Lib.parseIntB 64 (x.drop 5)with | .ok v=>decide (Dc [115,110,97,112,46] v=x) | _=>false)=_ at hsame
   have hsz:(⟨(x.drop 5).toArray⟩:ByteArray).size=10:=by
    show(x.drop 5).toArray.size=10
    rw[List.size_toArray];exact hl
   cases hp:Go.Lib.parseIntB 64 (x.drop 5)with
   |ok v=>
    rw[hp]at hsame
    have h2:=(Go.Proofs.Any.strconv_ParseInt_10_at64_ok kT ⟨(x.drop 5).toArray⟩ (by rw[hsz];decide) v hp w).mono (R':=fun e w'=>e= .returned (.tuple #[.int .i64 v,.nilIface])/\RowKit.Below w.heap.size w w') fun e w' ⟨he,hw⟩=>⟨he,by
     rcases hw with rfl | ⟨t,rfl⟩
     ·exact RowKit.Below.refl _ _
     ·exact Go.Lib.bytesWorld_below _ _ _⟩
    have h3:∀w1,RowKit.Below w.heap.size w w1->Calls PG 17 #[.int .i64 v] w1 fun e w'=>e= .returned (.string ⟨(Dc [115,110,97,112,46] v).toArray⟩)/\RowKit.Below w1.heap.size w1 w':=fun w1 hb=>
     dh.calls (xs:=[.int .i64]) (r:= .str) aV (by kernel_rfl) CB rfl rfl v (Dc [115,110,97,112,46] v) (agU v (agw hp)) w1 (hg.mono (fun b h=>Nat.lt_of_lt_of_le h hb.size) (fun b h=>hb.block b h))
    have:=abb ⟨x.toArray⟩ ⟨(x.drop 5).toArray⟩ w v ⟨(Dc [115,110,97,112,46] v).toArray⟩ hcut hsz h2 h3
    rw[ByteArray.toList_eq,ByteArray.toList_eq]at this
    rw[nz _ hsame]
    refine this.mono fun e w' ⟨he,hb⟩=>⟨he.trans ?_,hb⟩
    congr 2
    simp only
    rw[Bool.eq_iff_iff];simp
   |«syntax»=>
    rw[hp]at hsame
    obtain⟨_,c,t,fr,hc,te,pe,rfl⟩:=hg (2,afz) (by simp [glL])
    have hcell:w.cell? ⟨2,0,none⟩=some (.iface te pe):=by unfold World.cell?;simp only[hc];rfl
    rw[nz _ hsame]
    refine PK ⟨x.toArray⟩ ⟨(x.drop 5).toArray⟩ w _ _ (fun _=>True) hcut hsz ((Go.Proofs.Any.strconv_ParseInt_10_at64_syntax kT ⟨(x.drop 5).toArray⟩ (by rw[hsz];decide) hp _ w hcell (.inr ⟨te,pe,rfl⟩)).mono fun e w' ⟨N,he,_,_,hb⟩=>⟨_,he,hb⟩)
   |range=>
    rw[hp]at hsame
    obtain⟨_,c,t,fr,hc,te,pe,rfl⟩:=hg (3,afz) (by simp [glL])
    have hcell:w.cell? ⟨3,0,none⟩=some (.iface te pe):=by unfold World.cell?;simp only[hc];rfl
    rw[nz _ hsame]
    refine PK ⟨x.toArray⟩ ⟨(x.drop 5).toArray⟩ w _ _ (fun _=>True) hcut hsz ((Go.Proofs.Any.strconv_ParseInt_10_at64_range kT ⟨(x.drop 5).toArray⟩ (by rw[hsz];decide) hp _ w hcell (.inr ⟨te,pe,rfl⟩)).mono fun e w' ⟨N,he,_,_,hb⟩=>⟨_,he,hb⟩)
  ·have hz:pJ [115,110,97,112,46] x=0:=if_neg fun g=>hl g.2.1
   rw[hz]
   refine Zd _ _ w hcut fun g=>hl ?_
   have g:(x.drop 5).toArray.size=10:=g
   rwa[List.size_toArray]at g
def FU:LSh:=⟨304,[(72,.int .i64),(71,.ro .file)],[(11,.mp 336 0),(10,.mp 304 0)],[(304,[.int .i64])],[(73,.int .i64)],[(336,[.val .keeper])],[]⟩
@[reducible] def Fb:List gQ:=[⟨.exit 1,[],[(336,[.val .keeper])],[]⟩]
def aO (p0:Int) (p1:(List ak)) (p2:Int) (v0:Int) (v1:bF):Option ((Int×bF) ⊕ ((bF))):=cnd (ilt v0 p0) (cnd (band (ile 0 v0) (ilt v0 (len p1))) (af (rW (ah p1 (itn v0)).name) fun y0 => af (cnd y0 (dw p2) (some [])) fun y1 => cnd (band y0 (aB (seq (ah p1 (itn v0)).name y1))) (cnd (ieq v1.e 0) (af (oI v1.d (ah p1 (itn v0)).name) fun y2 => some (Sum.inl (wr .i64 (aj v0 1),bF.mk y2.fst y2.snd))) (some (Sum.inl (wr .i64 (aj v0 1),v1)))) (some (Sum.inl (wr .i64 (aj v0 1),v1)))) none) (some (Sum.inr v1))
def Eo:fM:=FU.spec Fb [74,75,76,15,77,78,79,80,81,82,83,84,85,86,87,88,89,90,91,73] (fun p v=>aO p.1 p.2.1 p.2.2 v.1 v.2)
def oq (x0:ai) (x1:ay):Option (ai×Int×Int):=af (qi x1) fun y0 => cnd (aB (ieq y0.snd 0)) (some (x0,0,1)) (af (qA x0) fun y1 => cnd (ieq y1.snd 1) (some (x0,0,y1.snd)) (cnd (ieq y1.snd 9) (some (x0,0,y1.snd)) (cnd (ile 1000000000 y1.fst.gen) (some (x0,0,3)) (af (jD x0 [(UInt8.ofNat 116),(UInt8.ofNat 109),(UInt8.ofNat 112)]) fun y2 => cnd (ieq y2.snd 0) (af (oI x0 [(UInt8.ofNat 116),(UInt8.ofNat 109),(UInt8.ofNat 112)]) fun y3 => cnd (ieq y3.snd 0) (af (gy y3.fst [(UInt8.ofNat 116),(UInt8.ofNat 109),(UInt8.ofNat 112)] y0.fst) fun y4 => cnd (ieq y4.snd 0) (af (iY y4.fst [(UInt8.ofNat 116),(UInt8.ofNat 109),(UInt8.ofNat 112)]) fun y5 => cnd (ieq y5.snd 0) (af (dw (wr .i64 (aj y1.fst.gen 1))) fun y6 => af (jF y5.fst [(UInt8.ofNat 116),(UInt8.ofNat 109),(UInt8.ofNat 112)] y6) fun y7 => cnd (ieq y7.snd 0) (af (fB y7.fst (dB.mk (wr .i64 (aj y1.fst.gen 1)) x1.lsn)) fun y8 => af (bG (fun v => aO (len y8.fst.files) y8.fst.files (wr .i64 (aj y1.fst.gen 1)) v.fst v.snd) LF (0,bF.mk y8.fst y8.snd)) fun y9 => cnd (aB (ieq y9.e 0)) (some (y9.d,0,y9.e)) (some (y9.d,wr .i64 (aj y1.fst.gen 1),0))) (af (bG (fun v => aO (len y7.fst.files) y7.fst.files (wr .i64 (aj y1.fst.gen 1)) v.fst v.snd) LF (0,bF.mk y7.fst y7.snd)) fun y10 => cnd (aB (ieq y10.e 0)) (some (y10.d,0,y10.e)) (some (y10.d,wr .i64 (aj y1.fst.gen 1),0)))) (cnd (ieq y5.snd 0) (af (fB y5.fst (dB.mk (wr .i64 (aj y1.fst.gen 1)) x1.lsn)) fun y11 => af (bG (fun v => aO (len y11.fst.files) y11.fst.files (wr .i64 (aj y1.fst.gen 1)) v.fst v.snd) LF (0,bF.mk y11.fst y11.snd)) fun y12 => cnd (aB (ieq y12.e 0)) (some (y12.d,0,y12.e)) (some (y12.d,wr .i64 (aj y1.fst.gen 1),0))) (af (bG (fun v => aO (len y5.fst.files) y5.fst.files (wr .i64 (aj y1.fst.gen 1)) v.fst v.snd) LF (0,bF.mk y5.fst y5.snd)) fun y13 => cnd (aB (ieq y13.e 0)) (some (y13.d,0,y13.e)) (some (y13.d,wr .i64 (aj y1.fst.gen 1),0))))) (cnd (ieq y4.snd 0) (af (dw (wr .i64 (aj y1.fst.gen 1))) fun y14 => af (jF y4.fst [(UInt8.ofNat 116),(UInt8.ofNat 109),(UInt8.ofNat 112)] y14) fun y15 => cnd (ieq y15.snd 0) (af (fB y15.fst (dB.mk (wr .i64 (aj y1.fst.gen 1)) x1.lsn)) fun y16 => af (bG (fun v => aO (len y16.fst.files) y16.fst.files (wr .i64 (aj y1.fst.gen 1)) v.fst v.snd) LF (0,bF.mk y16.fst y16.snd)) fun y17 => cnd (aB (ieq y17.e 0)) (some (y17.d,0,y17.e)) (some (y17.d,wr .i64 (aj y1.fst.gen 1),0))) (af (bG (fun v => aO (len y15.fst.files) y15.fst.files (wr .i64 (aj y1.fst.gen 1)) v.fst v.snd) LF (0,bF.mk y15.fst y15.snd)) fun y18 => cnd (aB (ieq y18.e 0)) (some (y18.d,0,y18.e)) (some (y18.d,wr .i64 (aj y1.fst.gen 1),0)))) (cnd (ieq y4.snd 0) (af (fB y4.fst (dB.mk (wr .i64 (aj y1.fst.gen 1)) x1.lsn)) fun y19 => af (bG (fun v => aO (len y19.fst.files) y19.fst.files (wr .i64 (aj y1.fst.gen 1)) v.fst v.snd) LF (0,bF.mk y19.fst y19.snd)) fun y20 => cnd (aB (ieq y20.e 0)) (some (y20.d,0,y20.e)) (some (y20.d,wr .i64 (aj y1.fst.gen 1),0))) (af (bG (fun v => aO (len y4.fst.files) y4.fst.files (wr .i64 (aj y1.fst.gen 1)) v.fst v.snd) LF (0,bF.mk y4.fst y4.snd)) fun y21 => cnd (aB (ieq y21.e 0)) (some (y21.d,0,y21.e)) (some (y21.d,wr .i64 (aj y1.fst.gen 1),0)))))) (cnd (ieq y3.snd 0) (af (iY y3.fst [(UInt8.ofNat 116),(UInt8.ofNat 109),(UInt8.ofNat 112)]) fun y22 => cnd (ieq y22.snd 0) (af (dw (wr .i64 (aj y1.fst.gen 1))) fun y23 => af (jF y22.fst [(UInt8.ofNat 116),(UInt8.ofNat 109),(UInt8.ofNat 112)] y23) fun y24 => cnd (ieq y24.snd 0) (af (fB y24.fst (dB.mk (wr .i64 (aj y1.fst.gen 1)) x1.lsn)) fun y25 => af (bG (fun v => aO (len y25.fst.files) y25.fst.files (wr .i64 (aj y1.fst.gen 1)) v.fst v.snd) LF (0,bF.mk y25.fst y25.snd)) fun y26 => cnd (aB (ieq y26.e 0)) (some (y26.d,0,y26.e)) (some (y26.d,wr .i64 (aj y1.fst.gen 1),0))) (af (bG (fun v => aO (len y24.fst.files) y24.fst.files (wr .i64 (aj y1.fst.gen 1)) v.fst v.snd) LF (0,bF.mk y24.fst y24.snd)) fun y27 => cnd (aB (ieq y27.e 0)) (some (y27.d,0,y27.e)) (some (y27.d,wr .i64 (aj y1.fst.gen 1),0)))) (cnd (ieq y22.snd 0) (af (fB y22.fst (dB.mk (wr .i64 (aj y1.fst.gen 1)) x1.lsn)) fun y28 => af (bG (fun v => aO (len y28.fst.files) y28.fst.files (wr .i64 (aj y1.fst.gen 1)) v.fst v.snd) LF (0,bF.mk y28.fst y28.snd)) fun y29 => cnd (aB (ieq y29.e 0)) (some (y29.d,0,y29.e)) (some (y29.d,wr .i64 (aj y1.fst.gen 1),0))) (af (bG (fun v => aO (len y22.fst.files) y22.fst.files (wr .i64 (aj y1.fst.gen 1)) v.fst v.snd) LF (0,bF.mk y22.fst y22.snd)) fun y30 => cnd (aB (ieq y30.e 0)) (some (y30.d,0,y30.e)) (some (y30.d,wr .i64 (aj y1.fst.gen 1),0))))) (cnd (ieq y3.snd 0) (af (dw (wr .i64 (aj y1.fst.gen 1))) fun y31 => af (jF y3.fst [(UInt8.ofNat 116),(UInt8.ofNat 109),(UInt8.ofNat 112)] y31) fun y32 => cnd (ieq y32.snd 0) (af (fB y32.fst (dB.mk (wr .i64 (aj y1.fst.gen 1)) x1.lsn)) fun y33 => af (bG (fun v => aO (len y33.fst.files) y33.fst.files (wr .i64 (aj y1.fst.gen 1)) v.fst v.snd) LF (0,bF.mk y33.fst y33.snd)) fun y34 => cnd (aB (ieq y34.e 0)) (some (y34.d,0,y34.e)) (some (y34.d,wr .i64 (aj y1.fst.gen 1),0))) (af (bG (fun v => aO (len y32.fst.files) y32.fst.files (wr .i64 (aj y1.fst.gen 1)) v.fst v.snd) LF (0,bF.mk y32.fst y32.snd)) fun y35 => cnd (aB (ieq y35.e 0)) (some (y35.d,0,y35.e)) (some (y35.d,wr .i64 (aj y1.fst.gen 1),0)))) (cnd (ieq y3.snd 0) (af (fB y3.fst (dB.mk (wr .i64 (aj y1.fst.gen 1)) x1.lsn)) fun y36 => af (bG (fun v => aO (len y36.fst.files) y36.fst.files (wr .i64 (aj y1.fst.gen 1)) v.fst v.snd) LF (0,bF.mk y36.fst y36.snd)) fun y37 => cnd (aB (ieq y37.e 0)) (some (y37.d,0,y37.e)) (some (y37.d,wr .i64 (aj y1.fst.gen 1),0))) (af (bG (fun v => aO (len y3.fst.files) y3.fst.files (wr .i64 (aj y1.fst.gen 1)) v.fst v.snd) LF (0,bF.mk y3.fst y3.snd)) fun y38 => cnd (aB (ieq y38.e 0)) (some (y38.d,0,y38.e)) (some (y38.d,wr .i64 (aj y1.fst.gen 1),0))))))) (af (gy x0 [(UInt8.ofNat 116),(UInt8.ofNat 109),(UInt8.ofNat 112)] y0.fst) fun y39 => cnd (ieq y39.snd 0) (af (iY y39.fst [(UInt8.ofNat 116),(UInt8.ofNat 109),(UInt8.ofNat 112)]) fun y40 => cnd (ieq y40.snd 0) (af (dw (wr .i64 (aj y1.fst.gen 1))) fun y41 => af (jF y40.fst [(UInt8.ofNat 116),(UInt8.ofNat 109),(UInt8.ofNat 112)] y41) fun y42 => cnd (ieq y42.snd 0) (af (fB y42.fst (dB.mk (wr .i64 (aj y1.fst.gen 1)) x1.lsn)) fun y43 => af (bG (fun v => aO (len y43.fst.files) y43.fst.files (wr .i64 (aj y1.fst.gen 1)) v.fst v.snd) LF (0,bF.mk y43.fst y43.snd)) fun y44 => cnd (aB (ieq y44.e 0)) (some (y44.d,0,y44.e)) (some (y44.d,wr .i64 (aj y1.fst.gen 1),0))) (af (bG (fun v => aO (len y42.fst.files) y42.fst.files (wr .i64 (aj y1.fst.gen 1)) v.fst v.snd) LF (0,bF.mk y42.fst y42.snd)) fun y45 => cnd (aB (ieq y45.e 0)) (some (y45.d,0,y45.e)) (some (y45.d,wr .i64 (aj y1.fst.gen 1),0)))) (cnd (ieq y40.snd 0) (af (fB y40.fst (dB.mk (wr .i64 (aj y1.fst.gen 1)) x1.lsn)) fun y46 => af (bG (fun v => aO (len y46.fst.files) y46.fst.files (wr .i64 (aj y1.fst.gen 1)) v.fst v.snd) LF (0,bF.mk y46.fst y46.snd)) fun y47 => cnd (aB (ieq y47.e 0)) (some (y47.d,0,y47.e)) (some (y47.d,wr .i64 (aj y1.fst.gen 1),0))) (af (bG (fun v => aO (len y40.fst.files) y40.fst.files (wr .i64 (aj y1.fst.gen 1)) v.fst v.snd) LF (0,bF.mk y40.fst y40.snd)) fun y48 => cnd (aB (ieq y48.e 0)) (some (y48.d,0,y48.e)) (some (y48.d,wr .i64 (aj y1.fst.gen 1),0))))) (cnd (ieq y39.snd 0) (af (dw (wr .i64 (aj y1.fst.gen 1))) fun y49 => af (jF y39.fst [(UInt8.ofNat 116),(UInt8.ofNat 109),(UInt8.ofNat 112)] y49) fun y50 => cnd (ieq y50.snd 0) (af (fB y50.fst (dB.mk (wr .i64 (aj y1.fst.gen 1)) x1.lsn)) fun y51 => af (bG (fun v => aO (len y51.fst.files) y51.fst.files (wr .i64 (aj y1.fst.gen 1)) v.fst v.snd) LF (0,bF.mk y51.fst y51.snd)) fun y52 => cnd (aB (ieq y52.e 0)) (some (y52.d,0,y52.e)) (some (y52.d,wr .i64 (aj y1.fst.gen 1),0))) (af (bG (fun v => aO (len y50.fst.files) y50.fst.files (wr .i64 (aj y1.fst.gen 1)) v.fst v.snd) LF (0,bF.mk y50.fst y50.snd)) fun y53 => cnd (aB (ieq y53.e 0)) (some (y53.d,0,y53.e)) (some (y53.d,wr .i64 (aj y1.fst.gen 1),0)))) (cnd (ieq y39.snd 0) (af (fB y39.fst (dB.mk (wr .i64 (aj y1.fst.gen 1)) x1.lsn)) fun y54 => af (bG (fun v => aO (len y54.fst.files) y54.fst.files (wr .i64 (aj y1.fst.gen 1)) v.fst v.snd) LF (0,bF.mk y54.fst y54.snd)) fun y55 => cnd (aB (ieq y55.e 0)) (some (y55.d,0,y55.e)) (some (y55.d,wr .i64 (aj y1.fst.gen 1),0))) (af (bG (fun v => aO (len y39.fst.files) y39.fst.files (wr .i64 (aj y1.fst.gen 1)) v.fst v.snd) LF (0,bF.mk y39.fst y39.snd)) fun y56 => cnd (aB (ieq y56.e 0)) (some (y56.d,0,y56.e)) (some (y56.d,wr .i64 (aj y1.fst.gen 1),0))))))))))
noncomputable def KF:Cx:={ P:=PG,ety:=ety,fn:=look [(24,DV),(25,oU),(21,jw),(75,Cc),(29,rY),(31,wE),(17,nP),(33,BQ),(35,DC),(36,xk)],inl:=dP [4095,26,74,27,28,30,32,34],lp:=aY [(10,65530,Eo)] }
theorem LC (p0:Int) (p1:(List ak)) (p2:Int) (v0:Int) (v1:bF):jk KF 900 10 65530 (eF PG 10 65530) FU Fb (p0,p1,p2) (v0,v1)=aO p0 p1 p2 v0 v1:=by kernel_rfl
theorem Vp (x0:ai) (x1:ay):bK KF 10 [.val .disk,.val .state] [.val .disk,.int .i64,.int .i64] (x0,x1)=oq x0 x1:=by kernel_rfl
def uq:aT:=mkSpec [.val .disk,.val .state] [.val .disk,.int .i64,.int .i64] false (fun x=>oq x.1 x.2)
theorem PD:dh PG 10 uq:=
 have K:CxR KF:=aV.cx (fun _=>rfl) (l:=[(24,DV),(25,oU),(21,jw),(75,Cc),(29,rY),(31,wE),(17,nP),(33,BQ),(35,DC),(36,xk)]) ⟨Y9,JH,zW,Yn,Nj,QU,CB,YO,Y8,Rt,trivial⟩
 aI K (aH (l:=[(10,65530,Eo)]) rfl ⟨cu (n:=900) (f:=10) K (by kernel_rfl) (by kernel_rfl) (by kernel_rfl) (by kernel_rfl) (by kernel_rfl) (fun p v r h=>(LC p.1 p.2.1 p.2.2 v.1 v.2).trans h),trivial⟩) (by kernel_rfl) (fun x y h=>(Vp x.1 x.2).trans h) rfl rfl
end
end Go.Av
