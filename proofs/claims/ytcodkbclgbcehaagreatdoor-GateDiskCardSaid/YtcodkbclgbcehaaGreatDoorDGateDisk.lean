/- The functions that this claim reaches, each as a plain function; each is what its text comes to. No condition. -/
import Derived.Test.YtcodkbclgbcehaaGreatDoorAvE
import Derived.Test.YtcodkbclgbcehaaGreatDoorProg
import Derived.KernelRfl
import Derived.Shelf.Small.Wraps
import Derived.Shelf.Strconv.ParseIntPublic10
import Derived.WalkKit
import Derived.Laws.RangeAny
set_option linter.unusedVariables false
set_option linter.unusedSimpArgs false
set_option linter.unnecessarySimpa false
namespace Go.Av
open Go
def ajZ:List (Nat×E):=[(2,.i64),(3,.i64),(4,.bool),(5,.u8),(6,.u8),(9,.str),(10,.str),(11,.str),(24,.disk),(27,.wal),(33,.state),(37,.feed),(39,.gate),(41,.recd),(43,.note),(46,.i64),(75,.expo),(83,.msg),(90,.a6),(92,.frame),(105,.order),(132,.bts),(134,.file),(136,.cell),(159,.state),(199,.slot),(204,.keeper),(285,.a20),(366,.bts),(371,.bts),(382,.i64),(391,.a3),(422,.u8),(423,.u8)]
def ety (t:Nat):Option E:=look ajZ t
noncomputable abbrev PG:Program:=Go.Proofs.Tryz.prog
end Go.Av
namespace Go.Av
open Go
noncomputable section
theorem ajI:EOk PG 2 .i64:=jq (by kernel_rfl) (by kernel_rfl)
theorem aj3:EOk PG 3 .i64:=jq (by kernel_rfl) (by kernel_rfl)
theorem akf:EOk PG 4 .bool:=jq (by kernel_rfl) (by kernel_rfl)
theorem ajM:EOk PG 5 .u8:=jq (by kernel_rfl) (by kernel_rfl)
theorem ajD:EOk PG 6 .u8:=jq (by kernel_rfl) (by kernel_rfl)
theorem ajN:EOk PG 9 .str:=jq (by kernel_rfl) (by kernel_rfl)
theorem aiC:EOk PG 10 .str:=jq (by kernel_rfl) (by kernel_rfl)
theorem ajr:EOk PG 11 .str:=jq (by kernel_rfl) (by kernel_rfl)
theorem aiW:EOk PG 24 .disk:=jq (by kernel_rfl) (by kernel_rfl)
theorem ai3:EOk PG 27 .wal:=jq (by kernel_rfl) (by kernel_rfl)
theorem ai0:EOk PG 33 .state:=jq (by kernel_rfl) (by kernel_rfl)
theorem aiw:EOk PG 37 .feed:=jq (by kernel_rfl) (by kernel_rfl)
theorem aiF:EOk PG 39 .gate:=jq (by kernel_rfl) (by kernel_rfl)
theorem ajb:EOk PG 41 .recd:=jq (by kernel_rfl) (by kernel_rfl)
theorem aiA:EOk PG 43 .note:=jq (by kernel_rfl) (by kernel_rfl)
theorem ajx:EOk PG 46 .i64:=jq (by kernel_rfl) (by kernel_rfl)
theorem aiK:EOk PG 75 .expo:=jq (by kernel_rfl) (by kernel_rfl)
theorem ajo:EOk PG 83 .msg:=jq (by kernel_rfl) (by kernel_rfl)
theorem ajy:EOk PG 90 .a6:=jq (by kernel_rfl) (by kernel_rfl)
theorem ajs:EOk PG 92 .frame:=jq (by kernel_rfl) (by kernel_rfl)
theorem ahf:EOk PG 105 .order:=jq (by kernel_rfl) (by kernel_rfl)
theorem ahX:EOk PG 132 .bts:=jq (by kernel_rfl) (by kernel_rfl)
theorem ahv:EOk PG 134 .file:=jq (by kernel_rfl) (by kernel_rfl)
theorem ahh:EOk PG 136 .cell:=jq (by kernel_rfl) (by kernel_rfl)
theorem ag5:EOk PG 159 .state:=jq (by kernel_rfl) (by kernel_rfl)
theorem ahr:EOk PG 199 .slot:=jq (by kernel_rfl) (by kernel_rfl)
theorem ahk:EOk PG 204 .keeper:=jq (by kernel_rfl) (by kernel_rfl)
theorem ahP:EOk PG 285 .a20:=jq (by kernel_rfl) (by kernel_rfl)
theorem ahT:EOk PG 366 .bts:=jq (by kernel_rfl) (by kernel_rfl)
theorem ahp:EOk PG 371 .bts:=jq (by kernel_rfl) (by kernel_rfl)
theorem ahy:EOk PG 382 .i64:=jq (by kernel_rfl) (by kernel_rfl)
theorem ag1:EOk PG 391 .a3:=jq (by kernel_rfl) (by kernel_rfl)
theorem ag9:EOk PG 422 .u8:=jq (by kernel_rfl) (by kernel_rfl)
theorem ahS:EOk PG 423 .u8:=jq (by kernel_rfl) (by kernel_rfl)
theorem yL:DI PG ajZ:=⟨by kernel_rfl,⟨ajI,aj3,akf,ajM,ajD,ajN,aiC,ajr,aiW,ai3,ai0,aiw,aiF,ajb,aiA,ajx,aiK,ajo,ajy,ajs,ahf,ahX,ahv,ahh,ag5,ahr,ahk,ahP,ahT,ahp,ahy,ag1,ag9,ahS,trivial⟩,by kernel_rfl,by kernel_rfl,by kernel_rfl⟩
end
end Go.Av
namespace Go.Av
open Go
noncomputable section
def cX (l:List (Nat×aH)) (i:List Nat) (p:List (Nat×Nat×dV)):Cx:={ P:=PG,ety:=ety,fn:=look l,inl:=aiV i,lp:=Oc p }
theorem cxK {l:List (Nat×aH)} {i:List Nat} {p:List (Nat×Nat×dV)} (h:RZ PG l):CxR (cX l i p):=yL.cx (fun _=>rfl) h
theorem okP {f:Nat} {xs rs:List Sh} {s:Bool} {run:Tup xs->Option (Tup rs)} (l:List (Nat×aH)) (i:List Nat) (p:List (Nat×Nat×dV)) (h:RZ PG l) (hp:CxR (cX l i p)->Ry (cX l i p) p)
 (hr:∀x,ZO (cX l i p) f xs rs x=run x) (hb:hasB PG f=true:=by kernel_rfl) (h3:(Nat.ble rs.length 8&&(xs.all Yt&&rs.all Yt))=true:=by kernel_rfl) (h4:(!s||rs.all Qu)=true:=by kernel_rfl):bW PG f (mkSpec xs rs s run):=
 afX (cxK h) (afP (l:=p) rfl (hp (cxK h))) hb (fun x y e=>(hr x).trans e) h3 h4
theorem okN {f:Nat} {xs rs:List Sh} {s:Bool} {run:Tup xs->Option (Tup rs)} (l:List (Nat×aH)) (i:List Nat) (h:RZ PG l)
 (hr:∀x,ZO (cX l i []) f xs rs x=run x) (hb:hasB PG f=true:=by kernel_rfl) (h3:(Nat.ble rs.length 8&&(xs.all Yt&&rs.all Yt))=true:=by kernel_rfl) (h4:(!s||rs.all Qu)=true:=by kernel_rfl):bW PG f (mkSpec xs rs s run):=
 okP l i [] h (fun _=>trivial) hr hb h3 h4
theorem kz {C:Cx} (K:CxR C) {s:LSh} {os:List qg} {D:List Nat} {step:Tup s.pk->Tup s.vk->Option (Tup s.vk ⊕ Wh os)} {pf pos:Nat} (hs:∀p v,ac4 C 900 pf pos (QZ C.P (pf%4096) pos) s os p v=step p v)
 (h2:Nat.blt (Nat.log2 pos) 301=true:=by kernel_rfl) (h3:s.good D=true:=by kernel_rfl) (h4:os.all (qg.good s)=true:=by kernel_rfl) (h5:Ji D (QZ C.P (pf%4096) pos)=true:=by kernel_rfl):
 ∀c,At C.P pf pos (.loop c)->rD C pf (2*pos)->adC C.P pf c (s.spec os D step):=
 afL (n:=900) (f:=pf%4096) K rfl h2 h3 h4 h5 (fun p v r h=>(hs p v).trans h)
def sP (l:List (Nat×Nat)):List Nat:=l.flatMap fun a=>List.range' a.1 a.2
end
end Go.Av
namespace Go.Av
open Go
noncomputable section
def Pg (x0:Int) (x1:Int):Option (Int×Int):=some (wr .u32 (bQ .u64 (wr .u64 (fQ (wr .u64 x0) (wr .u64 x1))) 32),wr .u32 (wr .u64 (fQ (wr .u64 x0) (wr .u64 x1))))
def Bg:aH:=mkSpec [.int .u32,.int .u32] [.int .u32,.int .u32] true (fun x=>Pg x.1 x.2)
theorem Ot:bW PG 296 Bg:=okN [] [] trivial fun x=>by kernel_rfl
def oQ (x0:Int) (x1:Int):Option (Int×Int):=some (wr .u64 (ai (wr .u64 (ai (wr .u64 (fQ (bQ .u64 x0 32) (bQ .u64 x1 32))) (bQ .u64 (wr .u64 (ai (wr .u64 (fQ (bQ .u64 x0 32) (wr .u64 (mr .u64 x1 4294967295)))) (bQ .u64 (wr .u64 (fQ (wr .u64 (mr .u64 x0 4294967295)) (wr .u64 (mr .u64 x1 4294967295)))) 32))) 32))) (bQ .u64 (wr .u64 (ai (wr .u64 (mr .u64 (wr .u64 (ai (wr .u64 (fQ (bQ .u64 x0 32) (wr .u64 (mr .u64 x1 4294967295)))) (bQ .u64 (wr .u64 (fQ (wr .u64 (mr .u64 x0 4294967295)) (wr .u64 (mr .u64 x1 4294967295)))) 32))) 4294967295)) (wr .u64 (fQ (wr .u64 (mr .u64 x0 4294967295)) (bQ .u64 x1 32))))) 32)),wr .u64 (fQ x0 x1))
def uy:aH:=mkSpec [.int .u64,.int .u64] [.int .u64,.int .u64] true (fun x=>oQ x.1 x.2)
theorem Ew:bW PG 297 uy:=okN [] [] trivial fun x=>by kernel_rfl
def BN (x0:Int) (x1:Int):Option (Int×Int):=af (oQ x0 x1) fun y0=>some y0
def xI:aH:=mkSpec [.int .u64,.int .u64] [.int .u64,.int .u64] true (fun x=>BN x.1 x.2)
theorem Hz:bW PG 242 xI:=okN [(296,Bg),(297,uy)] [] ⟨Ot,Ew,trivial⟩ fun x=>by kernel_rfl
def rE (v0:Int) (v1:(List jm)):Option ((Int×(List jm)) ⊕ (((List jm)))):=cnd (ilt v0 (len v1)) (cnd (band (ile 0 v0) (ile v0 (len v1))) (cnd (band (ile 0 v0) (ile v0 (len v1))) (some (Sum.inl (wr .i64 (ai v0 (eU (len (ay (aF v1 0) (itn v0))) (nti (itn (aA (len v1) v0))))),dY v1 (itn v0) (ay (ay (aF v1 0) (itn v0)) (itn (eU (len (ay (aF v1 0) (itn v0))) (nti (itn (aA (len v1) v0))))))))) none) none) (some (Sum.inr v1))
def Bh:dV:=LSh.spec ⟨94,[],[(7,.mf 192)],[],[(8,.int .i64)],[],[(192,.expo)]⟩ [⟨.exit 0,[],[],[(192,.expo)]⟩] (sP [(8,1),(34,13)]) (fun p v=>rE v.1 v.2)
def wO (x0:(List jm)) (x1:Int):Option ((List jm)):=cnd (ilt x1 0) none (af (BN (wr .u64 (len x0)) (wr .u64 x1)) fun y0=>cnd (bor (ilt 0 y0.1) (ilt 9223372036854775807 y0.2)) none (cnd (band (band (ile 0 (wr .i64 y0.2)) (ile (wr .i64 y0.2) (wr .i64 y0.2))) (ile (wr .i64 y0.2) 68719476736)) (af (bD (fun v=>rE v.1 v.2) LF (eU (len x0) (len (jJ jm (itn (wr .i64 y0.2)))),dY (jJ jm (itn (wr .i64 y0.2))) 0 (ay x0 (itn (eU (len x0) (len (jJ jm (itn (wr .i64 y0.2))))))))) fun y1=>some y1) none))
def sV:aH:=mkSpec [.ro .expo,.int .i64] [.buf .expo] true (fun x=>wO x.1 x.2)
theorem EH:bW PG 159 sV:=okP [(242,xI)] [] [(159,508,Bh)] ⟨Hz,trivial⟩ (fun K=>⟨kz K fun p v=>by kernel_rfl,trivial⟩) fun x=>by kernel_rfl
def vZ (v0:Int) (v1:(List Int)):Option ((Int×(List Int)) ⊕ (((List Int)))):=cnd (ilt v0 (len v1)) (cnd (band (ile 0 v0) (ile v0 (len v1))) (cnd (band (ile 0 v0) (ile v0 (len v1))) (some (Sum.inl (wr .i64 (ai v0 (eU (len (ay (aF v1 0) (itn v0))) (nti (itn (aA (len v1) v0))))),dY v1 (itn v0) (ay (ay (aF v1 0) (itn v0)) (itn (eU (len (ay (aF v1 0) (itn v0))) (nti (itn (aA (len v1) v0))))))))) none) none) (some (Sum.inr v1))
def DK:dV:=LSh.spec ⟨94,[],[(7,.mf 192)],[],[(8,.int .i64)],[],[(192,.i64)]⟩ [⟨.exit 0,[],[],[(192,.i64)]⟩] (sP [(8,1),(34,13)]) (fun p v=>vZ v.1 v.2)
def zK (x0:(List Int)) (x1:Int):Option ((List Int)):=cnd (ilt x1 0) none (af (BN (wr .u64 (len x0)) (wr .u64 x1)) fun y0=>cnd (bor (ilt 0 y0.1) (ilt 9223372036854775807 y0.2)) none (cnd (band (band (ile 0 (wr .i64 y0.2)) (ile (wr .i64 y0.2) (wr .i64 y0.2))) (ile (wr .i64 y0.2) 68719476736)) (af (bD (fun v=>vZ v.1 v.2) LF (eU (len x0) (len (jJ Int (itn (wr .i64 y0.2)))),dY (jJ Int (itn (wr .i64 y0.2))) 0 (ay x0 (itn (eU (len x0) (len (jJ Int (itn (wr .i64 y0.2))))))))) fun y1=>some y1) none))
def wV:aH:=mkSpec [.ro .i64,.int .i64] [.buf .i64] true (fun x=>zK x.1 x.2)
theorem II:bW PG 160 wV:=okP [(242,xI)] [] [(160,508,DK)] ⟨Hz,trivial⟩ (fun K=>⟨kz K fun p v=>by kernel_rfl,trivial⟩) fun x=>by kernel_rfl
def qj (x0:aC):Option (Bool):=some (band (band (band (band (band (band (band (ile 1 x0.accounts) (ile x0.accounts 8)) (ile 1 x0.symbols)) (ile x0.symbols 8)) (ieq (len x0.cells) (wr .i64 (fQ x0.accounts x0.symbols)))) (ieq (len x0.limits) (len x0.cells))) (ieq (len x0.caps) x0.accounts)) (ile (len x0.orders) 64))
def zH:aH:=mkSpec [.val .state] [.bool] true (fun x=>qj x)
theorem KH:bW PG 175 zH:=okN [] [] trivial fun x=>by kernel_rfl
def iK (x0:aG):Option (Bool):=some (bor (aj (ieq x0.newQty 0)) (aj (ieq x0.newPrice 0)))
def qX:aH:=mkSpec [.val .order] [.bool] true (fun x=>iK x)
theorem Am:bW PG 190 qX:=okN [] [] trivial fun x=>by kernel_rfl
def IB (x0:iT):Option (iT):=cnd (ieq x0.kind 1) (some (iT.mk x0.kind x0.order x0.account x0.symbol x0.side x0.qty x0.price 0 0 0 false 0 0)) (cnd (ieq x0.kind 2) (some (iT.mk x0.kind x0.order 0 0 0 x0.qty x0.price 0 0 0 false 0 0)) (cnd (ieq x0.kind 3) (some (iT.mk x0.kind x0.order 0 0 0 0 0 0 0 0 false 0 0)) (cnd (ieq x0.kind 4) (some (iT.mk x0.kind 0 x0.account x0.symbol 0 0 0 x0.long x0.short x0.opn false 0 0)) (cnd (ieq x0.kind 5) (some (iT.mk x0.kind 0 0 0 0 0 0 0 0 0 x0.on 0 0)) (cnd (ieq x0.kind 6) (some (iT.mk x0.kind x0.order 0 0 0 x0.qty x0.price 0 0 0 false x0.seq x0.what)) (some (iT.mk x0.kind 0 0 0 0 0 0 0 0 0 false 0 0)))))))
def Jm:aH:=mkSpec [.val .recd] [.val .recd] true (fun x=>IB x)
theorem Wy:bW PG 95 Jm:=okN [] [] trivial fun x=>by kernel_rfl
def lM (x0:Int):Option (Bool):=some (band (ile 1 x0) (ile x0 1000000000000))
def Eo:aH:=mkSpec [.int .i64] [.bool] true (fun x=>lM x)
theorem P8:bW PG 96 Eo:=okN [] [] trivial fun x=>by kernel_rfl
def nC (x0:Int) (x1:Int):Option (Bool):=some (band (ile 0 x0) (ilt x0 x1))
def J5:aH:=mkSpec [.int .i64,.int .i64] [.bool] true (fun x=>nC x.1 x.2)
theorem Yj:bW PG 97 J5:=okN [] [] trivial fun x=>by kernel_rfl
def ny (x0:iT):Option (Bool):=some (band (ile 1 x0.qty) (ile 1 x0.price))
def Et:aH:=mkSpec [.val .recd] [.bool] true (fun x=>ny x)
theorem Px:bW PG 98 Et:=okN [] [] trivial fun x=>by kernel_rfl
def EM (x0:iT):Option (Bool):=af (cnd (aj (bor (ilt x0.seq 1) (ilt 1000000000 x0.seq))) (lM x0.order) (some false)) fun y0=>cnd (bor (bor (ilt x0.seq 1) (ilt 1000000000 x0.seq)) (aj y0)) (some false) (cnd (ieq x0.what 3) (some (band (ile 1 x0.qty) (ieq x0.price 0))) (cnd (ieq x0.what 5) (af (ny x0) fun y1=>some y1) (cnd (ieq x0.what 1) (cnd (ieq x0.what 1) (some (band (ieq x0.qty 0) (ieq x0.price 0))) (some false)) (cnd (ieq x0.what 2) (cnd (ieq x0.what 2) (some (band (ieq x0.qty 0) (ieq x0.price 0))) (some false)) (cnd (ieq x0.what 4) (cnd (ieq x0.what 4) (some (band (ieq x0.qty 0) (ieq x0.price 0))) (some false)) (cnd (ieq x0.what 6) (some (band (ieq x0.qty 0) (ieq x0.price 0))) (some false)))))))
def JS:aH:=mkSpec [.val .recd] [.bool] true (fun x=>EM x)
theorem Yf:bW PG 99 JS:=okN [(96,Eo),(98,Et)] [] ⟨P8,Px,trivial⟩ fun x=>by kernel_rfl
def lQ (x0:iT):Option (Bool):=af (IB x0) fun y0=>cnd (aj (band (ieq x0.kind y0.kind) (band (ieq x0.order y0.order) (band (ieq x0.account y0.account) (band (ieq x0.symbol y0.symbol) (band (ieq x0.side y0.side) (band (ieq x0.qty y0.qty) (band (ieq x0.price y0.price) (band (ieq x0.long y0.long) (band (ieq x0.short y0.short) (band (ieq x0.opn y0.opn) (band (beq x0.on y0.on) (band (ieq x0.seq y0.seq) (ieq x0.what y0.what)))))))))))))) (some false) (cnd (ieq x0.kind 1) (af (lM x0.order) fun y1=>af (cnd y1 (nC x0.account 8) (some false)) fun y2=>af (cnd (band y1 y2) (nC x0.symbol 8) (some false)) fun y3=>af (cnd (band (band (band y1 y2) y3) (bor (ieq x0.side 1) (ieq x0.side 2))) (ny x0) (some false)) fun y4=>some (band (band (band (band y1 y2) y3) (bor (ieq x0.side 1) (ieq x0.side 2))) y4)) (cnd (ieq x0.kind 2) (af (lM x0.order) fun y5=>af (cnd y5 (ny x0) (some false)) fun y6=>some (band y5 y6)) (cnd (ieq x0.kind 3) (af (lM x0.order) fun y7=>some y7) (cnd (ieq x0.kind 4) (af (nC x0.account 8) fun y8=>af (cnd (band y8 (aj (band (band (ieq x0.symbol (-1)) (ieq x0.long 0)) (ieq x0.short 0)))) (nC x0.symbol 8) (some false)) fun y9=>some (band (band y8 (bor (band (band (ieq x0.symbol (-1)) (ieq x0.long 0)) (ieq x0.short 0)) y9)) (ile 0 (eU (eU x0.long x0.short) x0.opn)))) (cnd (ieq x0.kind 5) (some true) (cnd (ieq x0.kind 6) (af (EM x0) fun y10=>some y10) (some false)))))))
def lT:aH:=mkSpec [.val .recd] [.bool] true (fun x=>lQ x)
theorem rC:bW PG 40 lT:=okN [(95,Jm),(96,Eo),(97,J5),(98,Et),(99,JS)] [] ⟨Wy,P8,Yj,Px,Yf,trivial⟩ fun x=>by kernel_rfl
def Bd (x0:aG):Option (Bool):=af (lQ (iT.mk 1 x0.id x0.account x0.symbol x0.side x0.qty x0.price 0 0 0 false 0 0)) fun y0=>some y0
def Hl:aH:=mkSpec [.val .order] [.bool] true (fun x=>Bd x)
theorem Um:bW PG 191 Hl:=okN [(40,lT)] [] ⟨rC,trivial⟩ fun x=>by kernel_rfl
def gQ (x0:aG):Option (Bool):=af (iK x0) fun y0=>af (Bd x0) fun y1=>cnd (bor (bor (bor (bor (aj y1) (ilt x0.filled 0)) (ilt x0.qty x0.filled)) (ilt x0.version 0)) (band y0 (ilt (eU x0.newQty x0.newPrice) 1))) (some false) (cnd (ieq x0.phase 1) (some (band (band (ieq x0.filled 0) (ieq x0.version 0)) (aj y0))) (cnd (ieq x0.phase 2) (some (ilt x0.filled x0.qty)) (cnd (ieq x0.phase 3) (some (aj y0)) (some false))))
def iO:aH:=mkSpec [.val .order] [.bool] true (fun x=>gQ x)
theorem kH:bW PG 116 iO:=okN [(190,qX),(191,Hl)] [] ⟨Am,Um,trivial⟩ fun x=>by kernel_rfl
def AX (x0:jm):Option (Bool):=some (ile 0 (eU (eU x0.long x0.short) x0.opn))
def H6:aH:=mkSpec [.val .expo] [.bool] true (fun x=>AX x)
theorem UM:bW PG 260 H6:=okN [] [] trivial fun x=>by kernel_rfl
def kU (p0:(List Int)) (v0:Int) (v1:Int):Option ((Int×Int) ⊕ ((Int))):=cnd (ilt v0 (len p0)) (cnd (band (ile 0 v0) (ilt v0 (len p0))) (some (Sum.inl (wr .i64 (ai v0 1),eU v1 (ah p0 (itn v0))))) none) (some (Sum.inr v1))
def HY:dV:=LSh.spec ⟨74,[(0,.ro .i64)],[],[],[(4,.int .i64),(3,.int .i64)],[],[]⟩ [⟨.exit 0,[(3,.int .i64)],[],[]⟩] (sP [(3,2),(12,12)]) (fun p v=>kU p v.1 v.2)
def lC (x0:(List Int)):Option (Int):=cnd (ilt (len x0) 1) none (cnd (ilt 0 (len x0)) (af (bD (fun v=>kU x0 v.1 v.2) LF (1,ah x0 0)) fun y0=>some y0) none)
def zS:aH:=mkSpec [.ro .i64] [.int .i64] true (fun x=>lC x)
theorem ML:bW PG 262 zS:=okP [] [] [(262,122,HY)] trivial (fun K=>⟨kz K fun p v=>by kernel_rfl,trivial⟩) fun x=>by kernel_rfl
def lq (p0:Int) (p1:(List aG)) (p2:aC) (v0:Int) (v1:Int) (v2:Bool):Option ((Int×Int×Bool) ⊕ ((Bool) ⊕ ((Int×Bool)))):=cnd (ilt v0 p0) (cnd (band (ile 0 v0) (ilt v0 (len p1))) (af (gQ (ah p1 (itn v0))) fun y0=>cnd (bor (bor (bor (bor (aj y0) (ieq (ah p1 (itn v0)).phase 3)) (ile p2.accounts (ah p1 (itn v0)).account)) (ile p2.symbols (ah p1 (itn v0)).symbol)) (ile (ah p1 (itn v0)).id v1)) (some (Sum.inr (Sum.inl false))) (some (Sum.inl (wr .i64 (ai v0 1),(ah p1 (itn v0)).id,v2)))) none) (some (Sum.inr (Sum.inr (v1,v2))))
def IW:dV:=LSh.spec ⟨73,[(10,.int .i64),(9,.ro .order)],[(1,.mp 8 0)],[(8,[.val .state])],[(11,.int .i64),(3,.int .i64),(2,.bool)],[],[]⟩ [⟨.ret,[(2,.bool)],[],[]⟩,⟨.exit 0,[(3,.int .i64),(2,.bool)],[],[]⟩] (sP [(2,2),(5,1),(11,37)]) (fun p v=>lq p.1 p.2.1 p.2.2 v.1 v.2.1 v.2.2)
def bT (p0:Int) (p1:(List jm)) (v0:Int) (v1:Int):Option ((Int×Int) ⊕ ((Int) ⊕ ((Int)))):=cnd (ilt v0 p0) (cnd (band (ile 0 v0) (ilt v0 (len p1))) (af (AX (ah p1 (itn v0))) fun y0=>cnd (aj y0) (some (Sum.inr (Sum.inl v0))) (some (Sum.inl (wr .i64 (ai v0 1),v1)))) none) (some (Sum.inr (Sum.inr v1)))
def lF:dV:=LSh.spec ⟨210,[(7,.int .i64),(0,.ro .expo)],[(1,.fn 259 [])],[],[(8,.int .i64),(4,.int .i64)],[],[]⟩ [⟨.ret,[(4,.int .i64)],[],[]⟩,⟨.exit 0,[(4,.int .i64)],[],[]⟩] (sP [(4,2),(8,11)]) (fun p v=>bT p.1 p.2 v.1 v.2)
def ru (x0:aC):Option (Bool):=af (bD (fun v=>lq (len x0.orders) x0.orders x0 v.1 v.2.1 v.2.2) LF (0,0,false)) fun y0=>gK y0 (fun y1=>some y1) fun y1=>cnd (band (band (band (band (band (ile y1.1 x0.last) (ile x0.last 1000000000000)) (ile 0 x0.seq)) (ile x0.seq 1000000000)) (ile 0 x0.lsn)) (ile x0.lsn 1000000000)) (af (bD (fun v=>bT (len x0.limits) x0.limits v.1 v.2) LF (0,0)) fun y2=>gK y2 (fun y3=>af (cnd (band (band (band (band (band (band (ile y1.1 x0.last) (ile x0.last 1000000000000)) (ile 0 x0.seq)) (ile x0.seq 1000000000)) (ile 0 x0.lsn)) (ile x0.lsn 1000000000)) (aj (ile 0 y3))) (lC x0.caps) (some 0)) fun y4=>some (band (band (band (band (band (band (band (band (ile y1.1 x0.last) (ile x0.last 1000000000000)) (ile 0 x0.seq)) (ile x0.seq 1000000000)) (ile 0 x0.lsn)) (ile x0.lsn 1000000000)) (aj (ile 0 y3))) (ile 0 y4)) (ile 0 x0.last))) fun y3=>af (cnd (bor (band (band (band (band (band (ile y1.1 x0.last) (ile x0.last 1000000000000)) (ile 0 x0.seq)) (ile x0.seq 1000000000)) (ile 0 x0.lsn)) (ile x0.lsn 1000000000)) false) (lC x0.caps) (some 0)) fun y5=>some (band (band (bor (band (band (band (band (band (ile y1.1 x0.last) (ile x0.last 1000000000000)) (ile 0 x0.seq)) (ile x0.seq 1000000000)) (ile 0 x0.lsn)) (ile x0.lsn 1000000000)) false) (ile 0 y5)) (ile 0 x0.last))) (af (cnd (bor (band (band (band (band (band (ile y1.1 x0.last) (ile x0.last 1000000000000)) (ile 0 x0.seq)) (ile x0.seq 1000000000)) (ile 0 x0.lsn)) (ile x0.lsn 1000000000)) false) (lC x0.caps) (some 0)) fun y6=>some (band (band (bor (band (band (band (band (band (ile y1.1 x0.last) (ile x0.last 1000000000000)) (ile 0 x0.seq)) (ile x0.seq 1000000000)) (ile 0 x0.lsn)) (ile x0.lsn 1000000000)) false) (ile 0 y6)) (ile 0 x0.last)))
def zQ:aH:=mkSpec [.val .state] [.bool] true (fun x=>ru x)
theorem LZ:bW PG 176 zQ:=okP [(116,iO),(260,H6),(262,zS)] [259,261,306] [(176,58,IW),(3246629350631170171186,26,lF)] ⟨kH,UM,ML,trivial⟩ (fun K=>⟨kz K fun p v=>by kernel_rfl,kz K fun p v=>by kernel_rfl,trivial⟩) fun x=>by kernel_rfl
def bf (x0:aC) (x1:Int) (x2:Int):Option (Int):=some (wr .i64 (ai (wr .i64 (fQ x1 x0.symbols)) x2))
def lU:aH:=mkSpec [.val .state,.int .i64,.int .i64] [.int .i64] true (fun x=>bf x.1 x.2.1 x.2.2)
theorem sG:bW PG 248 lU:=okN [] [] trivial fun x=>by kernel_rfl
def nI (x0:Int) (x1:Int):Option (Int×Int):=cnd (band (aj (beq (ilt x0 (wr .i64 (ai x0 x1))) (ilt 0 x1))) (aj (ieq x1 0))) (some (0,3)) (some (wr .i64 (ai x0 x1),0))
def qW:aH:=mkSpec [.int .i64,.int .i64] [.int .i64,.int .i64] true (fun x=>nI x.1 x.2)
theorem zY:bW PG 161 qW:=okN [] [] trivial fun x=>by kernel_rfl
def vV (x0:Int) (x1:Int):Option (Int×Int):=cnd (band (aj (beq (ilt (wr .i64 (aA x0 x1)) x0) (ilt 0 x1))) (aj (ieq x1 0))) (some (0,3)) (some (wr .i64 (aA x0 x1),0))
def CW:aH:=mkSpec [.int .i64,.int .i64] [.int .i64,.int .i64] true (fun x=>vV x.1 x.2)
theorem OA:bW PG 302 CW:=okN [] [] trivial fun x=>by kernel_rfl
def BM (x0:aX):Option (jm×Bool):=af (nI x0.pos x0.buy) fun y0=>af (vV x0.sell x0.pos) fun y1=>some (jm.mk y0.1 y1.1 x0.opn,band (ieq y0.2 0) (ieq y1.2 0))
def DV:aH:=mkSpec [.val .cell] [.val .expo,.bool] true (fun x=>BM x)
theorem Qa:bW PG 263 DV:=okN [(161,qW),(302,CW)] [] ⟨zY,OA,trivial⟩ fun x=>by kernel_rfl
def iF (x0:aX):Option (Bool):=af (BM x0) fun y0=>some (band y0.2 (ile 0 (eU (eU x0.buy x0.sell) x0.opn)))
def oC:aH:=mkSpec [.val .cell] [.bool] true (fun x=>iF x)
theorem wY:bW PG 178 oC:=okN [(263,DV)] [] ⟨Qa,trivial⟩ fun x=>by kernel_rfl
def Ea (x0:Int):Option (Int):=cnd (ilt x0 0) (some (wr .u64 (aA 0 (wr .u64 x0)))) (some (wr .u64 x0))
def Nc:aH:=mkSpec [.int .i64] [.int .u64] true (fun x=>Ea x)
theorem aao:bW PG 350 Nc:=okN [] [] trivial fun x=>by kernel_rfl
def G6 (x0:Int) (x1:Int):Option (Int×Int):=af (Ea x0) fun y0=>af (Ea x1) fun y1=>af (oQ y0 y1) fun y2=>cnd (band (band (ieq y2.1 0) (aj (beq (ilt x0 0) (ilt x1 0)))) (ile y2.2 9223372036854775808)) (some (wr .i64 (wr .u64 (aA 0 y2.2)),0)) (cnd (band (ieq y2.1 0) (ile y2.2 9223372036854775807)) (some (wr .i64 y2.2,0)) (some (0,3)))
def Qg:aH:=mkSpec [.int .i64,.int .i64] [.int .i64,.int .i64] true (fun x=>G6 x.1 x.2)
theorem abS:bW PG 345 Qg:=okN [(350,Nc),(297,uy)] [] ⟨aao,Ew,trivial⟩ fun x=>by kernel_rfl
def H7 (x0:Int) (x1:Int):Option (Int):=some (imax x0 x1)
def Ir:aH:=mkSpec [.int .i64,.int .i64] [.int .i64] true (fun x=>H7 x.1 x.2)
theorem UD:bW PG 346 Ir:=okN [] [] trivial fun x=>by kernel_rfl
def wR (x0:aG):Option (Int×Int):=af (gQ x0) fun y0=>cnd (aj y0) (some (0,1)) (cnd (ieq x0.phase 3) (some (0,0)) (af (G6 (wr .i64 (aA x0.qty x0.filled)) x0.price) fun y1=>cnd (bor (aj (ieq y1.2 0)) (ile x0.newQty x0.filled)) (some y1) (af (G6 (wr .i64 (aA x0.newQty x0.filled)) x0.newPrice) fun y2=>cnd (aj (ieq y2.2 0)) (some (0,y2.2)) (af (H7 y1.1 y2.1) fun y3=>some (y3,0)))))
def Ai:aH:=mkSpec [.val .order] [.int .i64,.int .i64] true (fun x=>wR x)
theorem Kr:bW PG 326 Ai:=okN [(116,iO),(345,Qg),(346,Ir)] [] ⟨kH,abS,UD,trivial⟩ fun x=>by kernel_rfl
def qV (x0:aG):Option (Int):=af (gQ x0) fun y0=>cnd (bor (aj y0) (ieq x0.phase 3)) (some 0) (af (H7 x0.qty x0.newQty) fun y1=>some (wr .i64 (aA y1 x0.filled)))
def BX:aH:=mkSpec [.val .order] [.int .i64] true (fun x=>qV x)
theorem MQ:bW PG 327 BX:=okN [(116,iO),(346,Ir)] [] ⟨kH,UD,trivial⟩ fun x=>by kernel_rfl
def jC (x0:aX) (x1:aG):Option (aX×Int):=af (iF x0) fun y0=>af (cnd (aj (aj y0)) (gQ x1) (some false)) fun y1=>cnd (bor (aj y0) (aj y1)) (some (x0,1)) (af (wR x1) fun y2=>cnd (ieq x1.side 2) (af (qV x1) fun y3=>af (nI x0.sell y3) fun y4=>af (nI x0.opn y2.1) fun y5=>af (cnd (aj (bor (bor (aj (ieq y2.2 0)) (aj (ieq y4.2 0))) (aj (ieq y5.2 0)))) (iF (aX.mk x0.pos x0.buy y4.1 y5.1)) (some false)) fun y6=>cnd (bor (bor (bor (aj (ieq y2.2 0)) (aj (ieq y4.2 0))) (aj (ieq y5.2 0))) (aj y6)) (some (x0,3)) (some (aX.mk x0.pos x0.buy y4.1 y5.1,0))) (af (qV x1) fun y7=>af (nI x0.buy y7) fun y8=>af (nI x0.opn y2.1) fun y9=>af (cnd (aj (bor (bor (aj (ieq y2.2 0)) (aj (ieq y8.2 0))) (aj (ieq y9.2 0)))) (iF (aX.mk x0.pos y8.1 x0.sell y9.1)) (some false)) fun y10=>cnd (bor (bor (bor (aj (ieq y2.2 0)) (aj (ieq y8.2 0))) (aj (ieq y9.2 0))) (aj y10)) (some (x0,3)) (some (aX.mk x0.pos y8.1 x0.sell y9.1,0))))
def D5:aH:=mkSpec [.val .cell,.val .order] [.val .cell,.int .i64] true (fun x=>jC x.1 x.2)
theorem PN:bW PG 249 D5:=okN [(178,oC),(116,iO),(326,Ai),(327,BX),(161,qW)] [298] ⟨wY,kH,Kr,MQ,zY,trivial⟩ fun x=>by kernel_rfl
def jU (p0:Int) (p1:(List aG)) (p2:aC) (v0:Int) (v1:Bool) (v2:(List aX)) (v3:(List aX)):Option ((Int×Bool×(List aX)×(List aX)) ⊕ ((Bool×(List aX)×(List aX)) ⊕ ((Bool×(List aX)×(List aX))))):=cnd (ilt v0 p0) (cnd (band (ile 0 v0) (ilt v0 (len p1))) (af (bf p2 (ah p1 (itn v0)).account (ah p1 (itn v0)).symbol) fun y0=>cnd (band (ile 0 y0) (ilt y0 (len v3))) (af (jC (ah v3 (itn y0)) (ah p1 (itn v0))) fun y1=>cnd (aj (ieq y1.2 0)) (some (Sum.inr (Sum.inl (false,[],v3)))) (cnd (band (ile 0 y0) (ilt y0 (len v3))) (some (Sum.inl (wr .i64 (ai v0 1),v1,v2,aZ v3 (itn y0) y1.1))) none)) none) none) (some (Sum.inr (Sum.inr (v1,v2,v3))))
def Gh:dV:=LSh.spec ⟨79,[(18,.int .i64),(17,.ro .order)],[(4,.mf 64),(1,.mp 8 0)],[(8,[.val .state])],[(19,.int .i64),(3,.bool),(2,.buf .cell)],[],[(64,.cell)]⟩ [⟨.ret,[(3,.bool),(2,.buf .cell)],[],[(64,.cell)]⟩,⟨.exit 0,[(3,.bool),(2,.buf .cell)],[],[(64,.cell)]⟩] (sP [(2,2),(6,4),(19,26)]) (fun p v=>jU p.1 p.2.1 p.2.2 v.1 v.2.1 v.2.2.1 v.2.2.2)
def oK (x0:aC):Option ((List aX)×Bool):=cnd (band (band (ile 0 (len x0.cells)) (ile (len x0.cells) (len x0.cells))) (ile (len x0.cells) 68719476736)) (af (bD (fun v=>jU (len x0.orders) x0.orders x0 v.1 v.2.1 v.2.2.1 v.2.2.2) LF (0,false,[],jJ aX (itn (len x0.cells)))) fun y0=>gK y0 (fun y1=>some (y1.2.1,y1.1)) fun y1=>some (y1.2.2,true)) none
def yu:aH:=mkSpec [.val .state] [.buf .cell,.bool] true (fun x=>oK x)
theorem Jw:bW PG 177 yu:=okP [(248,lU),(249,D5)] [] [(177,58,Gh)] ⟨sG,PN,trivial⟩ (fun K=>⟨kz K fun p v=>by kernel_rfl,trivial⟩) fun x=>by kernel_rfl
def jE (x0:aC) (x1:Int):Option ((List aX)):=cnd (band (band (ile 0 (wr .i64 (fQ x1 x0.symbols))) (ile (wr .i64 (fQ x1 x0.symbols)) (wr .i64 (fQ (wr .i64 (ai x1 1)) x0.symbols)))) (ile (wr .i64 (fQ (wr .i64 (ai x1 1)) x0.symbols)) (len x0.cells))) (some (ay (aF x0.cells (itn (wr .i64 (fQ x1 x0.symbols)))) (itn (aA (wr .i64 (fQ (wr .i64 (ai x1 1)) x0.symbols)) (wr .i64 (fQ x1 x0.symbols)))))) none
def pR:aH:=mkSpec [.val .state,.int .i64] [.ro .cell] false (fun x=>jE x.1 x.2)
theorem zx:bW PG 180 pR:=okN [] [] trivial fun x=>by kernel_rfl
def uN (p0:Int) (p1:(List Int)) (v0:Int) (v1:Int) (v2:Int) (v3:Int):Option ((Int×Int×Int×Int) ⊕ ((Int×Int) ⊕ ((Int×Int×Int)))):=cnd (ilt v0 p0) (cnd (band (ile 0 v0) (ilt v0 (len p1))) (af (nI v1 (ah p1 (itn v0))) fun y0=>cnd (aj (ieq y0.2 0)) (some (Sum.inr (Sum.inl (y0.2,0)))) (some (Sum.inl (wr .i64 (ai v0 1),y0.1,v2,v3)))) none) (some (Sum.inr (Sum.inr (v1,v2,v3))))
def Ti:dV:=LSh.spec ⟨71,[(10,.int .i64),(9,.ro .i64)],[],[],[(11,.int .i64),(4,.int .i64),(3,.int .i64),(2,.int .i64)],[],[]⟩ [⟨.ret,[(3,.int .i64),(2,.int .i64)],[],[]⟩,⟨.exit 0,[(4,.int .i64),(3,.int .i64),(2,.int .i64)],[],[]⟩] (sP [(2,3),(6,3),(11,15)]) (fun p v=>uN p.1 p.2 v.1 v.2.1 v.2.2.1 v.2.2.2)
def EQ (x0:(List Int)):Option (Int×Int):=af (bD (fun v=>uN (len x0) x0 v.1 v.2.1 v.2.2.1 v.2.2.2) LF (0,0,0,0)) fun y0=>gK y0 (fun y1=>some (y1.2,y1.1)) fun y1=>some (y1.1,0)
def JO:aH:=mkSpec [.ro .i64] [.int .i64,.int .i64] true (fun x=>EQ x)
theorem Zc:bW PG 264 JO:=okP [(161,qW)] [] [(264,58,Ti)] ⟨zY,trivial⟩ (fun K=>⟨kz K fun p v=>by kernel_rfl,trivial⟩) fun x=>by kernel_rfl
def qy (p0:Int) (p1:(List aX)) (v0:Int) (v1:(List Int)):Option ((Int×(List Int)) ⊕ (((List Int)))):=cnd (ilt v0 p0) (cnd (band (ile 0 v0) (ilt v0 (len p1))) (cnd (ile (len (dm v1 [(ah p1 (itn v0)).opn])) 68719476736) (some (Sum.inl (wr .i64 (ai v0 1),dm v1 [(ah p1 (itn v0)).opn]))) none) none) (some (Sum.inr v1))
def O9:dV:=LSh.spec ⟨71,[(8,.int .i64),(7,.ro .cell)],[],[],[(9,.int .i64),(4,.buf .i64)],[],[]⟩ [⟨.exit 0,[(4,.buf .i64)],[],[]⟩] (sP [(4,1),(6,1),(9,10)]) (fun p v=>qy p.1 p.2 v.1 v.2)
def rW (x0:(List aX)):Option (Int×Int):=af (bD (fun v=>qy (len x0) x0 v.1 v.2) LF (0,[])) fun y0=>af (EQ y0) fun y1=>some y1
def zX:aH:=mkSpec [.ro .cell] [.int .i64,.int .i64] true (fun x=>rW x)
theorem JV:bW PG 179 zX:=okP [(264,JO)] [] [(179,58,O9)] ⟨Zc,trivial⟩ (fun K=>⟨kz K fun p v=>by kernel_rfl,trivial⟩) fun x=>by kernel_rfl
def jQ (p0:Int) (p1:(List aX)) (v0:Int) (v1:Bool) (v2:(List aX)):Option ((Int×Bool×(List aX)) ⊕ ((Bool×(List aX)) ⊕ ((Bool×(List aX))))):=cnd (ilt v0 p0) (cnd (band (ile 0 v0) (ilt v0 (len p1))) (cnd (band (ile 0 v0) (ilt v0 (len v2))) (af (iF (ah p1 (itn v0))) fun y0=>cnd (bor (band (ile 0 v0) (ilt v0 (len (aZ v2 (itn v0) (aX.mk (ah p1 (itn v0)).pos (ah v2 (itn v0)).buy (ah v2 (itn v0)).sell (ah v2 (itn v0)).opn))))) (aj (aj (aj y0)))) (cnd (bor (aj y0) (aj (band (ieq (ah (aZ v2 (itn v0) (aX.mk (ah p1 (itn v0)).pos (ah v2 (itn v0)).buy (ah v2 (itn v0)).sell (ah v2 (itn v0)).opn)) (itn v0)).pos (ah p1 (itn v0)).pos) (band (ieq (ah (aZ v2 (itn v0) (aX.mk (ah p1 (itn v0)).pos (ah v2 (itn v0)).buy (ah v2 (itn v0)).sell (ah v2 (itn v0)).opn)) (itn v0)).buy (ah p1 (itn v0)).buy) (band (ieq (ah (aZ v2 (itn v0) (aX.mk (ah p1 (itn v0)).pos (ah v2 (itn v0)).buy (ah v2 (itn v0)).sell (ah v2 (itn v0)).opn)) (itn v0)).sell (ah p1 (itn v0)).sell) (ieq (ah (aZ v2 (itn v0) (aX.mk (ah p1 (itn v0)).pos (ah v2 (itn v0)).buy (ah v2 (itn v0)).sell (ah v2 (itn v0)).opn)) (itn v0)).opn (ah p1 (itn v0)).opn)))))) (some (Sum.inr (Sum.inl (false,aZ v2 (itn v0) (aX.mk (ah p1 (itn v0)).pos (ah v2 (itn v0)).buy (ah v2 (itn v0)).sell (ah v2 (itn v0)).opn))))) (some (Sum.inl (wr .i64 (ai v0 1),v1,aZ v2 (itn v0) (aX.mk (ah p1 (itn v0)).pos (ah v2 (itn v0)).buy (ah v2 (itn v0)).sell (ah v2 (itn v0)).opn))))) none) none) none) (some (Sum.inr (Sum.inr (v1,v2))))
def Gm:dV:=LSh.spec ⟨89,[(28,.int .i64),(27,.ro .cell)],[(3,.mf 96)],[],[(29,.int .i64),(2,.bool)],[],[(96,.cell)]⟩ [⟨.ret,[(2,.bool)],[],[(96,.cell)]⟩,⟨.exit 0,[(2,.bool)],[],[(96,.cell)]⟩] (sP [(2,1),(5,2),(29,23)]) (fun p v=>jQ p.1 p.2 v.1 v.2.1 v.2.2)
def jL (p0:Int) (p1:aC) (v0:Int) (v1:Bool):Option ((Int×Bool) ⊕ ((Bool) ⊕ ((Bool)))):=cnd (ilt v0 p0) (af (jE p1 v0) fun y0=>af (rW y0) fun y1=>cnd (aj (ieq y1.2 0)) (some (Sum.inr (Sum.inl false))) (some (Sum.inl (wr .i64 (ai v0 1),v1)))) (some (Sum.inr (Sum.inr v1)))
def Gf:dV:=LSh.spec ⟨162,[(54,.int .i64)],[(1,.mp 8 0)],[(8,[.val .state])],[(55,.int .i64),(2,.bool)],[],[]⟩ [⟨.ret,[(2,.bool)],[],[]⟩,⟨.exit 2,[(2,.bool)],[],[]⟩] (sP [(2,1),(7,3),(55,13)]) (fun p v=>jL p.1 p.2 v.1 v.2)
def wE (x0:aC):Option (Bool):=af (qj x0) fun y0=>af (cnd (aj (aj y0)) (ru x0) (some false)) fun y1=>cnd (bor (aj y0) (aj y1)) (some false) (af (oK x0) fun y2=>cnd (aj y2.2) (some false) (af (bD (fun v=>jQ (len x0.cells) x0.cells v.1 v.2.1 v.2.2) LF (0,false,y2.1)) fun y3=>gK y3 (fun y4=>some y4.1) fun y4=>af (bD (fun v=>jL x0.accounts x0 v.1 v.2) LF (0,y4.1)) fun y5=>gK y5 (fun y6=>some y6) fun y6=>some true))
def yQ:aH:=mkSpec [.val .state] [.bool] true (fun x=>wE x)
theorem JG:bW PG 91 yQ:=okP [(175,zH),(176,zQ),(177,yu),(178,oC),(180,pR),(179,zX)] [] [(91,250,Gm),(91,506,Gf)] ⟨KH,LZ,Jw,wY,zx,JV,trivial⟩ (fun K=>⟨kz K fun p v=>by kernel_rfl,kz K fun p v=>by kernel_rfl,trivial⟩) fun x=>by kernel_rfl
def mQ (x0:aC):Option (Bool):=af (wE x0) fun y0=>some y0
def rF:aH:=mkSpec [.val .state] [.bool] true (fun x=>mQ x)
theorem Bc:bW PG 37 rF:=okN [(91,yQ)] [] ⟨JG,trivial⟩ fun x=>by kernel_rfl
def Oz (x0:Int) (x1:Int) (x2:jm) (x3:Int):Option (aC×Int):=cnd (bor (bor (bor (ilt x0 1) (ilt 8 x0)) (ilt x1 1)) (ilt 8 x1)) (some (aC.mk 0 0 [] [] [] [] false 0 0 0,1)) (cnd (band (band (ile 0 (wr .i64 (fQ x0 x1))) (ile (wr .i64 (fQ x0 x1)) (wr .i64 (fQ x0 x1)))) (ile (wr .i64 (fQ x0 x1)) 68719476736)) (af (wO [x2] (wr .i64 (fQ x0 x1))) fun y0=>af (zK [x3] x0) fun y1=>af (mQ (aC.mk x0 x1 [] (jJ aX (itn (wr .i64 (fQ x0 x1)))) y0 y1 false 0 0 0)) fun y2=>cnd (aj y2) (some (aC.mk 0 0 [] [] [] [] false 0 0 0,1)) (some (aC.mk x0 x1 [] (jJ aX (itn (wr .i64 (fQ x0 x1)))) y0 y1 false 0 0 0,0))) none)
def MZ:aH:=mkSpec [.int .i64,.int .i64,.val .expo,.int .i64] [.val .state,.int .i64] false (fun x=>Oz x.1 x.2.1 x.2.2.1 x.2.2.2)
theorem aaR:bW PG 78 MZ:=okN [(159,sV),(160,wV),(37,rF)] [] ⟨EH,II,Bc,trivial⟩ fun x=>by kernel_rfl
def FD (x0:Int):Option (Bool):=some (bor (bor (band (ile 97 x0) (ile x0 122)) (band (ile 48 x0) (ile x0 57))) (ieq x0 46))
def KX:aH:=mkSpec [.int .u8] [.bool] true (fun x=>FD x)
theorem Yu:bW PG 174 KX:=okN [] [] trivial fun x=>by kernel_rfl
def rM (p0:Int) (p1:(List UInt8)) (v0:Int) (v1:Bool):Option ((Int×Bool) ⊕ ((Bool) ⊕ ((Bool)))):=cnd (ilt v0 p0) (cnd (band (ile 0 v0) (ilt v0 (len p1))) (af (FD (abm p1 (itn v0))) fun y0=>cnd (aj y0) (some (Sum.inr (Sum.inl false))) (some (Sum.inl (wr .i64 (ai v0 1),v1)))) none) (some (Sum.inr (Sum.inr v1)))
def Qv:dV:=LSh.spec ⟨69,[(5,.int .i64),(0,.str)],[],[],[(6,.int .i64),(2,.bool)],[],[]⟩ [⟨.ret,[(2,.bool)],[],[]⟩,⟨.exit 0,[(2,.bool)],[],[]⟩] (sP [(2,2),(6,9)]) (fun p v=>rM p.1 p.2 v.1 v.2)
def yS (x0:(List UInt8)):Option (Bool):=af (bD (fun v=>rM (len x0) x0 v.1 v.2) LF (0,false)) fun y0=>gK y0 (fun y1=>some y1) fun y1=>some (band (ile 1 (len x0)) (ile (len x0) 16))
def BU:aH:=mkSpec [.str] [.bool] true (fun x=>yS x)
theorem Nb:bW PG 90 BU:=okP [(174,KX)] [] [(90,26,Qv)] ⟨Yu,trivial⟩ (fun K=>⟨kz K fun p v=>by kernel_rfl,trivial⟩) fun x=>by kernel_rfl
def qp (p0:Int) (p1:(List aB)) (p2:ax) (v0:Int) (v1:Int) (v2:Bool):Option ((Int×Int×Bool) ⊕ ((Bool) ⊕ ((Bool)))):=cnd (ilt v0 p0) (cnd (band (ile 0 v0) (ilt v0 (len p1))) (af (yS (ah p1 (itn v0)).name) fun y0=>cnd (bor (band (ile 0 (wr .i64 (aA v0 1))) (ilt (wr .i64 (aA v0 1)) (len p2.files))) (aj (band (aj (aj y0)) (ilt 0 v0)))) (cnd (bor (bor (bor (bor (aj y0) (band (ilt 0 v0) (aj (slt (ah p2.files (itn (wr .i64 (aA v0 1)))).name (ah p1 (itn v0)).name)))) (ilt (ah p1 (itn v0)).sure 0)) (ilt (len (ah p1 (itn v0)).data) (ah p1 (itn v0)).sure)) (ilt v1 (len (ah p1 (itn v0)).data))) (some (Sum.inr (Sum.inl false))) (some (Sum.inl (wr .i64 (ai v0 1),wr .i64 (aA v1 (len (ah p1 (itn v0)).data)),v2)))) none) none) (some (Sum.inr (Sum.inr v2)))
def Pn:dV:=LSh.spec ⟨93,[(29,.int .i64),(28,.ro .file)],[(1,.mp 8 0)],[(8,[.val .disk])],[(30,.int .i64),(3,.int .i64),(2,.bool)],[],[]⟩ [⟨.ret,[(2,.bool)],[],[]⟩,⟨.exit 0,[(2,.bool)],[],[]⟩] (sP [(2,4),(30,51)]) (fun p v=>qp p.1 p.2.1 p.2.2 v.1 v.2.1 v.2.2)
def lI (x0:ax):Option (Bool):=cnd (bor (bor (bor (ilt x0.room 0) (ilt 65536 x0.room)) (ilt x0.fuse (-1))) (ilt 64 (len x0.files))) (some false) (af (bD (fun v=>qp (len x0.files) x0.files x0 v.1 v.2.1 v.2.2) LF (0,x0.room,false)) fun y0=>gK y0 (fun y1=>some y1) fun y1=>some true)
def oH:aH:=mkSpec [.val .disk] [.bool] true (fun x=>lI x)
theorem xk:bW PG 36 oH:=okP [(90,BU)] [] [(36,122,Pn)] ⟨Nb,trivial⟩ (fun K=>⟨kz K fun p v=>by kernel_rfl,trivial⟩) fun x=>by kernel_rfl
def wS (x0:eX):Option (Bool):=some (band (band (band (band (band (ile 1 x0.epoch) (ile x0.epoch 1000000)) (ile 1 x0.lsn)) (ile x0.lsn 1000000000)) (ile 1 x0.kind)) (ile x0.kind 6))
def Ak:aH:=mkSpec [.val .frame] [.bool] true (fun x=>wS x)
theorem JL:bW PG 265 Ak:=okN [] [] trivial fun x=>by kernel_rfl
def wZ (p0:Int) (p1:(List eX)) (v0:Int) (v1:Bool) (v2:Int) (v3:Int):Option ((Int×Bool×Int×Int) ⊕ ((Bool×Int×Int) ⊕ ((Bool×Int×Int)))):=cnd (ilt v0 p0) (cnd (band (ile 0 v0) (ilt v0 (len p1))) (af (wS (ah p1 (itn v0))) fun y0=>cnd (bor (bor (aj y0) (aj (ieq (ah p1 (itn v0)).lsn v2))) (ilt (ah p1 (itn v0)).epoch v3)) (some (Sum.inr (Sum.inl (false,v2,v3)))) (some (Sum.inl (wr .i64 (ai v0 1),v1,wr .i64 (ai (ah p1 (itn v0)).lsn 1),(ah p1 (itn v0)).epoch)))) none) (some (Sum.inr (Sum.inr (v1,v2,v3))))
def Vz:dV:=LSh.spec ⟨76,[(14,.int .i64),(13,.ro .frame)],[(7,.mp 56 0)],[],[(15,.int .i64),(6,.bool)],[(56,[.int .i64,.int .i64])],[]⟩ [⟨.ret,[(6,.bool)],[(56,[.int .i64,.int .i64])],[]⟩,⟨.exit 0,[(6,.bool)],[(56,[.int .i64,.int .i64])],[]⟩] (sP [(6,1),(9,1),(15,8)]) (fun p v=>wZ p.1 p.2 v.1 v.2.1 v.2.2.1 v.2.2.2)
def I4 (x0:(List eX)) (x1:Int) (x2:Int):Option (Bool):=af (bD (fun v=>wZ (len x0) x0 v.1 v.2.1 v.2.2.1 v.2.2.2) LF (0,false,x1,x2)) fun y0=>gK y0 (fun y1=>some y1.1) fun y1=>some true
def MO:aH:=mkSpec [.ro .frame,.int .i64,.int .i64] [.bool] true (fun x=>I4 x.1 x.2.1 x.2.2)
theorem ZV:bW PG 93 MO:=okP [(265,Ak)] [181] [(93,58,Vz)] ⟨JL,trivial⟩ (fun K=>⟨kz K fun p v=>by kernel_rfl,trivial⟩) fun x=>by kernel_rfl
def dw (p0:Int) (p1:(List eX)) (p2:Int) (p3:Int) (p4:Int) (p5:Int) (p6:Int) (p7:(List eX)) (v0:Int) (v1:Int):Option ((Int×Int) ⊕ ((Int) ⊕ ((Int)))):=cnd (ilt v0 p0) (cnd (band (ile 0 v0) (ilt v0 (len p1))) (cnd (aj (ieq (ah p1 (itn v0)).epoch p2)) (some (Sum.inr (Sum.inl v0))) (some (Sum.inl (wr .i64 (ai v0 1),v1)))) none) (some (Sum.inr (Sum.inr v1)))
def nO:dV:=LSh.spec ⟨140,[(7,.int .i64),(0,.ro .frame)],[(1,.fn 92 [.mp 8 0])],[(8,[.int .i64,.int .i64,.int .i64,.int .i64,.int .i64,.ro .frame])],[(8,.int .i64),(4,.int .i64)],[],[]⟩ [⟨.ret,[(4,.int .i64)],[],[]⟩,⟨.exit 0,[(4,.int .i64)],[],[]⟩] (sP [(4,2),(8,11)]) (fun p v=>dw p.1 p.2.1 p.2.2.1 p.2.2.2.1 p.2.2.2.2.1 p.2.2.2.2.2.1 p.2.2.2.2.2.2.1 p.2.2.2.2.2.2.2 v.1 v.2)
def qK (x0:dU):Option (Bool):=cnd (bor (bor (bor (bor (bor (ilt x0.epoch 1) (ilt 1000000 x0.epoch)) (ilt x0.next 1)) (ilt 1000000001 x0.next)) (ilt x0.sure 0)) (ile x0.next x0.sure)) (some false) (af (cnd (aj (bor (ilt 32 (len x0.wait)) (aj (ieq (len x0.wait) (wr .i64 (aA (wr .i64 (aA x0.next 1)) x0.sure)))))) (I4 x0.wait (wr .i64 (ai x0.sure 1)) 1) (some false)) fun y0=>cnd (aj (bor (bor (ilt 32 (len x0.wait)) (aj (ieq (len x0.wait) (wr .i64 (aA (wr .i64 (aA x0.next 1)) x0.sure))))) (aj y0))) (af (bD (fun v=>dw (len x0.wait) x0.wait x0.epoch x0.next x0.sure x0.seg x0.count x0.wait v.1 v.2) LF (0,0)) fun y1=>gK y1 (fun y2=>cnd (bor (bor (bor (ilt 32 (len x0.wait)) (aj (ieq (len x0.wait) (wr .i64 (aA (wr .i64 (aA x0.next 1)) x0.sure))))) (aj y0)) (ile 0 y2)) (some false) (cnd (ieq x0.seg 0) (some (ieq x0.count 0)) (some (band (band (band (band (ile 1 x0.seg) (ile 1 x0.count)) (ile x0.count 8)) (ile x0.seg (wr .i64 (ai x0.sure 1)))) (ieq (wr .i64 (ai x0.seg x0.count)) (wr .i64 (ai x0.sure 1))))))) fun y2=>cnd (bor (bor (bor (ilt 32 (len x0.wait)) (aj (ieq (len x0.wait) (wr .i64 (aA (wr .i64 (aA x0.next 1)) x0.sure))))) (aj y0)) false) (some false) (cnd (ieq x0.seg 0) (some (ieq x0.count 0)) (some (band (band (band (band (ile 1 x0.seg) (ile 1 x0.count)) (ile x0.count 8)) (ile x0.seg (wr .i64 (ai x0.sure 1)))) (ieq (wr .i64 (ai x0.seg x0.count)) (wr .i64 (ai x0.sure 1))))))) (cnd (bor (bor (bor (ilt 32 (len x0.wait)) (aj (ieq (len x0.wait) (wr .i64 (aA (wr .i64 (aA x0.next 1)) x0.sure))))) (aj y0)) false) (some false) (cnd (ieq x0.seg 0) (some (ieq x0.count 0)) (some (band (band (band (band (ile 1 x0.seg) (ile 1 x0.count)) (ile x0.count 8)) (ile x0.seg (wr .i64 (ai x0.sure 1)))) (ieq (wr .i64 (ai x0.seg x0.count)) (wr .i64 (ai x0.sure 1))))))))
def zn:aH:=mkSpec [.val .wal] [.bool] true (fun x=>qK x)
theorem IL:bW PG 38 zn:=okP [(93,MO)] [92,94,173] [(700977436288969113773,26,nO)] ⟨ZV,trivial⟩ (fun K=>⟨kz K fun p v=>by kernel_rfl,trivial⟩) fun x=>by kernel_rfl
def mP (x0:fE):Option (iT):=some (iT.mk 6 x0.order 0 0 0 x0.qty x0.price 0 0 0 false x0.seq x0.what)
def xB:aH:=mkSpec [.val .note] [.val .recd] true (fun x=>mP x)
theorem FO:bW PG 29 xB:=okN [] [] trivial fun x=>by kernel_rfl
def jX (x0:jw):Option (Bool):=cnd (bor (bor (bor (bor (bor (ilt x0.order 1) (ilt 1000000000000 x0.order)) (ilt x0.account 0)) (ile 8 x0.account)) (ilt x0.symbol 0)) (ile 8 x0.symbol)) (some false) (cnd (bor (bor (band (aj (ieq x0.side 1)) (aj (ieq x0.side 2))) (ilt x0.lsn 0)) (ilt 1000000000 x0.lsn)) (some false) (cnd (ieq x0.kind 1) (some (band (band (ile 1 x0.qty) (ile 1 x0.price)) (ieq x0.version 0))) (cnd (ieq x0.kind 2) (some (band (band (ile 1 x0.qty) (ile 1 x0.price)) (ile 1 x0.version))) (cnd (ieq x0.kind 3) (some (band (band (ieq x0.qty 0) (ieq x0.price 0)) (ieq x0.version 0))) (some false)))))
def wH:aH:=mkSpec [.val .msg] [.bool] true (fun x=>jX x)
theorem Fa:bW PG 100 wH:=okN [] [] trivial fun x=>by kernel_rfl
def oZ (p0:Int) (p1:(List jw)) (p2:Int) (v0:Int) (v1:Bool) (v2:Int):Option ((Int×Bool×Int) ⊕ ((Bool) ⊕ ((Bool)))):=cnd (ilt v0 p0) (cnd (band (ile 0 v0) (ilt v0 (len p1))) (af (jX (ah p1 (itn v0))) fun y0=>cnd (bor (bor (aj y0) (ile (ah p1 (itn v0)).lsn v2)) (ilt p2 (ah p1 (itn v0)).lsn)) (some (Sum.inr (Sum.inl false))) (some (Sum.inl (wr .i64 (ai v0 1),v1,(ah p1 (itn v0)).lsn)))) none) (some (Sum.inr (Sum.inr v1)))
def NM:dV:=LSh.spec ⟨71,[(10,.int .i64),(9,.ro .msg),(2,.int .i64)],[],[],[(11,.int .i64),(6,.bool),(1,.int .i64)],[],[]⟩ [⟨.ret,[(6,.bool)],[],[]⟩,⟨.exit 0,[(6,.bool)],[],[]⟩] (sP [(1,1),(6,1),(8,1),(11,22)]) (fun p v=>oZ p.1 p.2.1 p.2.2 v.1 v.2.1 v.2.2)
def uK (x0:(List jw)) (x1:Int) (x2:Int):Option (Bool):=af (bD (fun v=>oZ (len x0) x0 x2 v.1 v.2.1 v.2.2) LF (0,false,x1)) fun y0=>gK y0 (fun y1=>some y1) fun y1=>some true
def E8:aH:=mkSpec [.ro .msg,.int .i64,.int .i64] [.bool] true (fun x=>uK x.1 x.2.1 x.2.2)
theorem SH:bW PG 41 E8:=okP [(100,wH)] [] [(41,26,NM)] ⟨Fa,trivial⟩ (fun K=>⟨kz K fun p v=>by kernel_rfl,trivial⟩) fun x=>by kernel_rfl
def qH (p0:Int) (p1:(List fE)) (p2:Int) (v0:Int) (v1:Int) (v2:Bool):Option ((Int×Int×Bool) ⊕ ((Bool) ⊕ ((Bool)))):=cnd (ilt v0 p0) (cnd (band (ile 0 v0) (ilt v0 (len p1))) (cnd (bor (ile (ah p1 (itn v0)).seq v1) (ilt (wr .i64 (ai p2 8)) (ah p1 (itn v0)).seq)) (some (Sum.inr (Sum.inl false))) (some (Sum.inl (wr .i64 (ai v0 1),(ah p1 (itn v0)).seq,v2)))) none) (some (Sum.inr (Sum.inr v2)))
def OO:dV:=LSh.spec ⟨86,[(23,.int .i64),(22,.ro .note),(1,.int .i64)],[],[],[(24,.int .i64),(5,.int .i64),(4,.bool)],[],[]⟩ [⟨.ret,[(4,.bool)],[],[]⟩,⟨.exit 0,[(4,.bool)],[],[]⟩] (sP [(4,2),(7,1),(24,18)]) (fun p v=>qH p.1 p.2.1 p.2.2 v.1 v.2.1 v.2.2)
def vO (x0:kD) (x1:Int):Option (Bool):=cnd (bor (bor (ilt x1 1) (ilt 1000000001 x1)) (ilt 8 (len x0.held))) (some false) (af (bD (fun v=>qH (len x0.held) x0.held x1 v.1 v.2.1 v.2.2) LF (0,x1,false)) fun y0=>gK y0 (fun y1=>some y1) fun y1=>some true)
def BP:aH:=mkSpec [.val .feed,.int .i64] [.bool] true (fun x=>vO x.1 x.2)
theorem Nu:bW PG 42 BP:=okP [] [] [(42,122,OO)] trivial (fun K=>⟨kz K fun p v=>by kernel_rfl,trivial⟩) fun x=>by kernel_rfl
def jy (x0:Int) (x1:Int):Option (List UInt8):=aau x0 x1
def qU:aH:=mkSpec [.int .i64,.int .i64] [.str] true (fun x=>jy x.1 x.2)
def Jp:Go.Shelf.Ren:=⟨fun | 173=>223 | 246=>286 | 283=>314 | 284=>315 | 285=>316 | 286=>317 | 129=>334 | 317=>333 | 318=>335 | 319=>336 | 320=>337 | 337=>347 | 338=>348 | n=>n,fun | 2=>2 | 3=>3 | 9=>9 | 4=>4 | 171=>376 | 0=>0 | 53=>331 | 37=>132 | 5=>5 | 173=>379 | 212=>398 | 51=>270 | 20=>20 | 213=>399 | 46=>300 | 232=>415 | 233=>416 | n=>n,fun | 17=>1 | 18=>4 | 19=>5 | n=>n⟩
theorem yI:Go.Proofs.LaysM.n173 PG Jp where
 mixed:=by kernel_rfl
 f129:=by kernel_rfl
 f173:=by kernel_rfl
 f246:=by kernel_rfl
 f283:=by kernel_rfl
 f284:=by kernel_rfl
 f285:=by kernel_rfl
 f286:=by kernel_rfl
 f317:=by kernel_rfl
 f318:=by kernel_rfl
 f319:=by kernel_rfl
 f320:=by kernel_rfl
 f337:=by kernel_rfl
 f338:=by kernel_rfl
 t0:=by kernel_rfl
 a0:=fun w=>by kernel_rfl
 z0:=fun w=>by kernel_rfl
 v0:=fun w=>by kernel_rfl
 t2:=by kernel_rfl
 a2:=fun w=>by kernel_rfl
 z2:=fun w=>by kernel_rfl
 v2:=fun w=>by kernel_rfl
 t3:=by kernel_rfl
 a3:=fun w=>by kernel_rfl
 z3:=fun w=>by kernel_rfl
 v3:=fun w=>by kernel_rfl
 t4:=by kernel_rfl
 a4:=fun w=>by kernel_rfl
 z4:=fun w=>by kernel_rfl
 v4:=fun w=>by kernel_rfl
 t5:=by kernel_rfl
 a5:=fun w=>by kernel_rfl
 z5:=fun w=>by kernel_rfl
 v5:=fun w=>by kernel_rfl
 t9:=by kernel_rfl
 a9:=fun w=>by kernel_rfl
 z9:=fun w=>by kernel_rfl
 v9:=fun w=>by kernel_rfl
 t20:=by kernel_rfl
 a20:=fun w=>by kernel_rfl
 z20:=fun w=>by kernel_rfl
 v20:=fun w=>by kernel_rfl
 t37:=by kernel_rfl
 a37:=fun w=>by kernel_rfl
 z37:=fun w=>by kernel_rfl
 v37:=fun w=>by kernel_rfl
 t46:=by kernel_rfl
 a46:=fun w=>by kernel_rfl
 z46:=fun w=>by kernel_rfl
 v46:=fun w=>by kernel_rfl
 t51:=by kernel_rfl
 a51:=fun w=>by kernel_rfl
 z51:=fun w=>by kernel_rfl
 v51:=fun w=>by kernel_rfl
 t53:=by kernel_rfl
 a53:=fun w=>by kernel_rfl
 z53:=fun w=>by kernel_rfl
 v53:=fun w=>by kernel_rfl
 t171:=by kernel_rfl
 a171:=fun w=>by kernel_rfl
 z171:=fun w=>by kernel_rfl
 v171:=fun w=>by kernel_rfl
 t173:=by kernel_rfl
 a173:=fun w=>by kernel_rfl
 z173:=fun w=>by kernel_rfl
 v173:=fun w=>by kernel_rfl
 t212:=by kernel_rfl
 a212:=fun w=>by kernel_rfl
 z212:=fun w=>by kernel_rfl
 v212:=fun w=>by kernel_rfl
 t213:=by kernel_rfl
 a213:=fun w=>by kernel_rfl
 z213:=fun w=>by kernel_rfl
 t232:=by kernel_rfl
 a232:=fun w=>by kernel_rfl
 z232:=fun w=>by kernel_rfl
 v232:=fun w=>by kernel_rfl
 t233:=by kernel_rfl
 a233:=fun w=>by kernel_rfl
 z233:=fun w=>by kernel_rfl
 v233:=fun w=>by kernel_rfl
 g17:=by kernel_rfl
 g18:=by kernel_rfl
 g19:=by kernel_rfl
 i0:=by kernel_rfl
 i2:=by kernel_rfl
 i3:=by kernel_rfl
 i4:=by kernel_rfl
 i5:=by kernel_rfl
 i9:=by kernel_rfl
 i20:=by kernel_rfl
 i37:=by kernel_rfl
 i46:=by kernel_rfl
 i51:=by kernel_rfl
 i53:=by kernel_rfl
 i171:=by kernel_rfl
 i173:=by kernel_rfl
 i212:=by kernel_rfl
 i232:=by kernel_rfl
 i233:=by kernel_rfl
 m17:=by kernel_rfl
 m18:=by kernel_rfl
 m19:=by kernel_rfl
theorem Bo:bW PG 223 qU:=adD yL yI (by kernel_rfl) (g:=1) (by kernel_rfl) (by simp [glL]) fun x y h=>h
def lD (x0:(List UInt8)) (x1:Int):Option (List UInt8):=aag x0 x1
def wz:aH:=mkSpec [.str,.int .i64] [.str] true (fun x=>lD x.1 x.2)
def Ec:Go.Shelf.Ren:=⟨fun | 105=>224 | 212=>242 | 99=>287 | 165=>288 | 166=>289 | 170=>290 | 169=>291 | 263=>296 | 264=>297 | 206=>318 | 240=>319 | 241=>320 | 276=>338 | 277=>339 | n=>n,fun | 9=>9 | 3=>3 | 4=>4 | 20=>20 | 0=>0 | 46=>300 | 109=>301 | 5=>5 | 72=>350 | 76=>352 | 51=>270 | 146=>358 | 53=>331 | 148=>360 | 70=>348 | 37=>132 | 75=>291 | 127=>381 | 164=>402 | 71=>349 | 74=>290 | 80=>355 | n=>n,fun | n=>n⟩
theorem BD:Go.Proofs.Lays.n105 PG Ec where
 mixed:=by kernel_rfl
 f99:=by kernel_rfl
 f105:=by kernel_rfl
 f165:=by kernel_rfl
 f166:=by kernel_rfl
 f169:=by kernel_rfl
 f170:=by kernel_rfl
 f206:=by kernel_rfl
 f212:=by kernel_rfl
 f240:=by kernel_rfl
 f241:=by kernel_rfl
 f263:=by kernel_rfl
 f264:=by kernel_rfl
 f276:=by kernel_rfl
 f277:=by kernel_rfl
 t0:=by kernel_rfl
 a0:=fun w=>by kernel_rfl
 z0:=fun w=>by kernel_rfl
 v0:=fun w=>by kernel_rfl
 t3:=by kernel_rfl
 a3:=fun w=>by kernel_rfl
 z3:=fun w=>by kernel_rfl
 v3:=fun w=>by kernel_rfl
 t4:=by kernel_rfl
 a4:=fun w=>by kernel_rfl
 z4:=fun w=>by kernel_rfl
 v4:=fun w=>by kernel_rfl
 t5:=by kernel_rfl
 a5:=fun w=>by kernel_rfl
 z5:=fun w=>by kernel_rfl
 v5:=fun w=>by kernel_rfl
 t9:=by kernel_rfl
 a9:=fun w=>by kernel_rfl
 z9:=fun w=>by kernel_rfl
 v9:=fun w=>by kernel_rfl
 t20:=by kernel_rfl
 a20:=fun w=>by kernel_rfl
 z20:=fun w=>by kernel_rfl
 v20:=fun w=>by kernel_rfl
 t37:=by kernel_rfl
 a37:=fun w=>by kernel_rfl
 z37:=fun w=>by kernel_rfl
 v37:=fun w=>by kernel_rfl
 t46:=by kernel_rfl
 a46:=fun w=>by kernel_rfl
 z46:=fun w=>by kernel_rfl
 v46:=fun w=>by kernel_rfl
 t51:=by kernel_rfl
 a51:=fun w=>by kernel_rfl
 z51:=fun w=>by kernel_rfl
 v51:=fun w=>by kernel_rfl
 t53:=by kernel_rfl
 a53:=fun w=>by kernel_rfl
 z53:=fun w=>by kernel_rfl
 v53:=fun w=>by kernel_rfl
 t70:=by kernel_rfl
 a70:=fun w=>by kernel_rfl
 z70:=fun w=>by kernel_rfl
 v70:=fun w=>by kernel_rfl
 t72:=by kernel_rfl
 a72:=fun w=>by kernel_rfl
 z72:=fun w=>by kernel_rfl
 v72:=fun w=>by kernel_rfl
 t75:=by kernel_rfl
 a75:=fun w=>by kernel_rfl
 z75:=fun w=>by kernel_rfl
 v75:=fun w=>by kernel_rfl
 t76:=by kernel_rfl
 a76:=fun w=>by kernel_rfl
 z76:=fun w=>by kernel_rfl
 v76:=fun w=>by kernel_rfl
 t109:=by kernel_rfl
 a109:=fun w=>by kernel_rfl
 z109:=fun w=>by kernel_rfl
 v109:=fun w=>by kernel_rfl
 t127:=by kernel_rfl
 a127:=fun w=>by kernel_rfl
 z127:=fun w=>by kernel_rfl
 v127:=fun w=>by kernel_rfl
 t146:=by kernel_rfl
 a146:=fun w=>by kernel_rfl
 z146:=fun w=>by kernel_rfl
 v146:=fun w=>by kernel_rfl
 t148:=by kernel_rfl
 a148:=fun w=>by kernel_rfl
 z148:=fun w=>by kernel_rfl
 v148:=fun w=>by kernel_rfl
 t164:=by kernel_rfl
 a164:=fun w=>by kernel_rfl
 z164:=fun w=>by kernel_rfl
 v164:=fun w=>by kernel_rfl
theorem yH:Go.Proofs.Builder.Extra PG Ec where
 sizeBuilder:=by kernel_rfl
 liesBuilder:=by kernel_rfl
 t5:=by kernel_rfl
 a5:=fun w=>by kernel_rfl
 z5:=fun w=>by kernel_rfl
 v5:=fun w=>by kernel_rfl
 infoByte:=by kernel_rfl
 cellsByte:=by kernel_rfl
 sizeByte:=by kernel_rfl
 neB5:=by decide
theorem EN:bW PG 224 wz:=aep yL BD yH (by kernel_rfl) fun x y h=>h
def iq (x0:Int):Option ((List UInt8)):=cnd (bor (ilt x0 1) (ilt 1000000000 x0)) (some []) (af (jy x0 10) fun y0=>af (lD [(UInt8.ofNat 48)] (wr .i64 (aA 10 (len y0)))) fun y1=>cnd (ile (ai 4 (len y1)) 68719476736) (cnd (ile (ai (len (dm [(UInt8.ofNat 108),(UInt8.ofNat 111),(UInt8.ofNat 103),(UInt8.ofNat 46)] y1)) (len y0)) 68719476736) (some (dm (dm [(UInt8.ofNat 108),(UInt8.ofNat 111),(UInt8.ofNat 103),(UInt8.ofNat 46)] y1) y0)) none) none)
def Gi:aH:=mkSpec [.int .i64] [.str] true (fun x=>iq x)
theorem Kz:bW PG 151 Gi:=okN [(223,qU),(224,wz)] [] ⟨Bo,EN,trivial⟩ fun x=>by kernel_rfl
def CV (x0:(List UInt8)):Option (Int):=some (oq [108,111,103,46] x0)
def BZ:aH:=mkSpec [.str] [.int .i64] true (fun x=>CV x)
def OJ:Go.Shelf.Ren:=⟨fun | 103=>231 | 210=>292 | 206=>318 | n=>n,fun | 9=>9 | 4=>4 | 24=>288 | 3=>3 | n=>n,fun | n=>n⟩
theorem Oj:Go.Proofs.Lays.n103 PG OJ where
 mixed:=by kernel_rfl
 f103:=by kernel_rfl
 f206:=by kernel_rfl
 f210:=by kernel_rfl
 t3:=by kernel_rfl
 a3:=fun w=>by kernel_rfl
 z3:=fun w=>by kernel_rfl
 v3:=fun w=>by kernel_rfl
 t4:=by kernel_rfl
 a4:=fun w=>by kernel_rfl
 z4:=fun w=>by kernel_rfl
 v4:=fun w=>by kernel_rfl
 t9:=by kernel_rfl
 a9:=fun w=>by kernel_rfl
 z9:=fun w=>by kernel_rfl
 v9:=fun w=>by kernel_rfl
 t24:=by kernel_rfl
 a24:=fun w=>by kernel_rfl
 z24:=fun w=>by kernel_rfl
 v24:=fun w=>by kernel_rfl
theorem Qw (s:ByteArray) (pos:Nat) (h:pos<s.size):1<=(Utf8.decode s pos).2:=by
 by_cases ha:(s[pos]'h).toNat<128
 ·rw[decode_ascii s pos h ha]
  exact Nat.le_refl _
 ·exact(decode_high s pos h (by omega)).2
theorem SY (w:World) (s:ByteArray) (pos:Nat):Go.RowKit.Below w.heap.size w (w.iter s pos):=
 ⟨rfl,rfl,rfl,by show _<=(w.heap.push _).size;rw[Array.size_push];omega,fun k hk=>by show(w.heap.push _)[k]? =_;rw[Array.getElem?_push,if_neg (by omega)]⟩
theorem P6 (n:Int):inI (Go.RowKit.wrap64 n):=by unfold inI Go.RowKit.wrap64;omega
theorem PE {B B':Nat} {a b:World} (h:Go.RowKit.Below B a b) (hB:B'<=B):Go.RowKit.Below B' a b:=⟨h.os,h.tape,h.output,h.size,fun k hk=>h.block k (Nat.lt_of_lt_of_le hk hB)⟩
def zU (l:List UInt8):Prop:=l.length=10/\∀c∈l,O0 c
theorem VH (n c:Nat) (h:n<10000000000) (h1:48<=c) (h2:c<=57):Go.RowKit.wrap64 (Go.RowKit.wrap64 ((n:Int)*10)+Go.RowKit.wrap64 (Go.RowKit.wrap32 ((c:Int) - 48)))=((n*10+(c - 48):Nat):Int):=by
 have e1:Go.RowKit.wrap32 ((c:Int) - 48)=(c:Int) - 48:=by unfold Go.RowKit.wrap32;omega
 have e2:Go.RowKit.wrap64 ((n:Int)*10)=(n:Int)*10:=by unfold Go.RowKit.wrap64;omega
 have e3:Go.RowKit.wrap64 ((c:Int) - 48)=(c:Int) - 48:=by unfold Go.RowKit.wrap64;omega
 have e4:Go.RowKit.wrap64 ((n:Int)*10+((c:Int) - 48))=(n:Int)*10+((c:Int) - 48):=by unfold Go.RowKit.wrap64;omega
 rw[e1,e2,e3,e4];omega
theorem Qx {l:List UInt8} {pos:Nat} (ht:zU l) (h:pos<=10):qh (l.take pos)<10000000000:=by
 have hb2:=Lp (l.take pos).length (l.take pos) rfl (fun c hc=>ht.2 c (List.mem_of_mem_take hc))
 have hb3:(10:Nat)^(l.take pos).length<=10^10:=Nat.pow_le_pow_right (by decide) (by rw[List.length_take];omega)
 have hbig:(10:Nat)^10=10000000000:=by decide
 omega
theorem SX (l:List UInt8) (pos:Nat) (h:pos<(⟨l.toArray⟩:ByteArray).size) (h2:pos<l.length):(⟨l.toArray⟩:ByteArray)[pos]'h=l[pos]'h2:=by
 show l.toArray[pos]'(by rw[List.size_toArray];exact h2)=_
 rw[List.getElem_toArray]
theorem Rh {l:List UInt8} {r:ByteArray} {pos:Nat} {acc:Int} (hr:(⟨l.toArray⟩:ByteArray)=r) (hsz:r.size=l.length) (ht:zU l) (hp:pos<r.size) (hv:pos<=10/\acc=((qh (l.take pos):Nat):Int)):
 pos+(Utf8.decode r pos).2<=10/\Go.RowKit.wrap64 (Go.RowKit.wrap64 (acc*10)+Go.RowKit.wrap64 (Go.RowKit.wrap32 (((Utf8.decode r pos).1:Int) - 48)))=((qh (l.take (pos+(Utf8.decode r pos).2)):Nat):Int):=by
 obtain⟨h10,rfl⟩:=hv
 have hp10:pos<10:=by rw[hsz,ht.1]at hp;exact hp
 have hpl:pos<l.length:=by rw[ht.1];exact hp10
 have hb:r[pos]'hp=l[pos]'hpl:=by subst hr;exact SX l pos hp hpl
 have hd:=rP.1 (ht.2 _ (List.getElem_mem hpl))
 have hdec:=decode_ascii r pos hp (by rw[hb];omega)
 rw[hb]at hdec
 have d1:(Utf8.decode r pos).1=(l[pos]'hpl).toNat:=by rw[hdec]
 have d2:(Utf8.decode r pos).2=1:=by rw[hdec]
 rw[d1,d2]
 refine⟨hp10,?_⟩
 rw[List.take_succ_eq_append_getElem hpl,JY]
 exact VH _ _ (Qx ht h10) hd.1 hd.2
theorem NI (s r:ByteArray) (w:World)
 (h1:Calls PG 231 #[.string s,.string ⟨#[108,111,103,46]⟩] w fun e w'=>e= .returned (.tuple #[.string r,.bool false])/\w'=w):
 Calls PG 172 #[.string s] w fun e w'=>e= .returned (.int .i64 0)/\Go.RowKit.Below w.heap.size w w':=by
 go_enter Go.Proofs.Tryz.func172,Go.Proofs.Tryz.ntmps172
 go_wp2_with (go_at_call 231;refine h1.mono ?_;rintro e W1 ⟨rfl,rfl⟩)
 all_goals (go_ret;exact⟨rfl,Go.RowKit.Below.refl _ _⟩)
set_option maxHeartbeats 1000000 in
set_option maxRecDepth 1000000 in
theorem Tc (s:ByteArray) (l:List UInt8) (nm:Int->List UInt8) (w:World)
 (h1:Calls PG 231 #[.string s,.string ⟨#[108,111,103,46]⟩] w fun e w'=>e= .returned (.tuple #[.string ⟨l.toArray⟩,.bool true])/\w'=w)
 (h3:∀v,inI v->∀w1,Go.RowKit.Below w.heap.size w w1->Calls PG 151 #[.int .i64 v] w1 fun e w'=>e= .returned (.string ⟨(nm v).toArray⟩)/\Go.RowKit.Below w1.heap.size w1 w'):
 Calls PG 172 #[.string s] w fun e w'=>(∃v,inI v/\(zU l->v=((qh l:Nat):Int))/\e= .returned (.int .i64 (if nm v=s.toList then v else 0)))/\Go.RowKit.Below w.heap.size w w':=by
 generalize hr:(⟨l.toArray⟩:ByteArray)=r at h1
 have hsz:r.size=l.length:=by rw[<-hr];show l.toArray.size=_;rw[List.size_toArray]
 go_enter Go.Proofs.Tryz.func172,Go.Proofs.Tryz.ntmps172
 go_wp2_with (go_at_call 231;refine h1.mono ?_;rintro e W1 ⟨rfl,rfl⟩)
 go_loopw [5] (fun n w'=>∃(pos:Nat) (acc:Int),w'=W1.iter r pos/\n= .int .i64 acc/\inI acc/\(zU l->pos<=10/\acc=((qh (l.take pos):Nat):Int))) (fun _ w'=>r.size - w'.iterPos W1.heap.size)
 case atStart=>exact⟨0,0,rfl,rfl,by unfold inI;omega,fun _=>⟨by omega,rfl⟩⟩
 case round=>
  obtain⟨pos,acc,rfl,rfl,hacc,hv⟩:=hrel
  by_cases hp:pos<r.size
  ·have hnx:∀ty,(Instr.next (.pointer (some ⟨W1.heap.size,0,none⟩)) true ty).run PG (W1.iter r pos)=_:=fun ty=>run_next_any W1 r pos ty hp
   go_wp2
   have hwd:=Qw r pos hp
   go_roundw
   case rel=>
    refine⟨pos+(Utf8.decode r pos).2,_,rfl,rfl,?_,?_⟩
    ·exact P6 _
    ·intro ht
     exact Rh hr hsz ht hp (hv ht)
   case measure=>
    simp
    omega
  ·have hnx:∀ty,(Instr.next (.pointer (some ⟨W1.heap.size,0,none⟩)) true ty).run PG (W1.iter r pos)=_:=fun ty=>run_next_end W1 r pos ty hp
   have hbl:Go.RowKit.Below W1.heap.size W1 (W1.iter r pos):=SY W1 r pos
   go_wp2_with (go_at_call 151;refine(h3 acc hacc _ hbl).mono ?_;rintro e W3 ⟨rfl,hb3⟩)
   all_goals go_ret
   all_goals refine⟨⟨acc,hacc,fun ht=> ?_,?_⟩,hbl.trans (PE hb3 hbl.size)⟩
   all_goals first
    |(have h10:=(hv ht).1
      have hp:¬pos<10:=by rw[hsz,ht.1]at hp;exact hp
      have:=(hv ht).2
      rw[show pos=10 by omega,List.take_of_length_le (by rw[ht.1];exact Nat.le_refl _)]at this
      exact this)
    |skip
   ·rename_i hne
    have hne:nm acc≠s.toList:=by intro e;rw[e]at hne;simp at hne
    rw[if_neg hne];rfl
   ·rename_i heq
    have heq:nm acc=s.toList:=by simpa using heq
    rw[if_pos heq];rfl
theorem aaL (v:Int) (hv:inI v):iq v=some (oM [108,111,103,46] v):=by
 unfold inI at hv
 unfold iq oM jy lD
 by_cases h:v<1\/1000000000<v
 ·rw[if_pos h,show bor (ilt v 1) (ilt 1000000000 v)=true by rw[OD,yR,yR];exact h];rfl
 ·have e1:bor (ilt v 1) (ilt 1000000000 v)=false:=by
   rw[Bool.eq_false_iff];intro g;rw[OD,yR,yR]at g;exact h g
  have hl:(fmt10 v).length<=10:=by
   unfold fmt10;rw[if_neg (by omega)]
   exact DN 20 _ 10 (by have:(10:Nat)^10=10000000000:=by decide
                        omega) (by decide)
  have e2:wr .i64 (aA 10 (len (fmt10 v)))=((10 - (fmt10 v).length:Nat):Int):=by
   unfold aA len wr IntKind.wrap
   simp [IntKind.bits,IntKind.signed]
   omega
  have e3:aau v 10=some (fmt10 v):=by
   unfold aau
   rw[show band (ieq 10 10) (band (ile (-9223372036854775808) v) (ile v 9223372036854775807))=true by rw[lu,lu,iL,iL];exact⟨rfl,hv⟩];rfl
  have e4:aag [UInt8.ofNat 48] ((10 - (fmt10 v).length:Nat):Int)=some (List.replicate (10 - (fmt10 v).length) 48):=by
   unfold aag
   rw[show band (ile 0 ((10 - (fmt10 v).length:Nat):Int)) (band (ile ((10 - (fmt10 v).length:Nat):Int) 9223372036854775807) (ile (fQ (len [UInt8.ofNat 48]) ((10 - (fmt10 v).length:Nat):Int)) 140737488355328))=true by
    rw[lu,lu,iL,iL,iL];simp only[fQ,len,List.length_singleton];omega]
   simp only[cnd,itn,Int.toNat_natCast]
   rw[show UInt8.ofNat 48=48 from rfl,Ph]
  rw[if_neg h,e1,e3]
  simp only[cnd,af,Option.bind_some,e2,e4]
  rw[show ile (ai 4 (len (List.replicate (10 - (fmt10 v).length) (48:UInt8)))) 68719476736=true by rw[iL];simp only[ai,len,List.length_replicate];omega]
  simp only
  rw[show ile (ai (len (dm [UInt8.ofNat 108,UInt8.ofNat 111,UInt8.ofNat 103,UInt8.ofNat 46] (List.replicate (10 - (fmt10 v).length) (48:UInt8)))) (len (fmt10 v))) 68719476736=true by rw[iL];simp only[ai,len,dm,List.length_append,List.length_replicate,List.length_cons,List.length_nil];omega]
  rfl
theorem Zo (pre s:List UInt8) (hp:s.take pre.length=pre) (hpre:pre≠[]) (v:Int) (hv:zU (s.drop pre.length)->v=((qh (s.drop pre.length):Nat):Int)):
 (if oM pre v=s then v else 0)=oq pre s:=by
 have hs:s=pre++s.drop pre.length:=by
  conv=>lhs;rw[<-List.take_append_drop pre.length s,hp]
 have hsne:s≠[]:=fun e=>by rw[e]at hp;simp at hp;exact hpre hp
 have key:oM pre v=s->zU (s.drop pre.length)/\1<=v/\v<=1000000000:=fun hn=>by
  have hr:¬(v<1\/1000000000<v):=fun g=>by unfold oM at hn;rw[if_pos g]at hn;exact hsne hn.symm
  have hd:s.drop pre.length=List.replicate (10 - (fmt10 v).length) 48++fmt10 v:=by
   unfold oM at hn;rw[if_neg hr,List.append_assoc]at hn
   rw[<-hn,List.drop_left]
  have hl:(fmt10 v).length<=10:=by
   unfold fmt10;rw[if_neg (by omega)]
   exact DN 20 _ 10 (by have:(10:Nat)^10=10000000000:=by decide
                        omega) (by decide)
  refine⟨⟨by rw[hd,List.length_append,List.length_replicate];omega,fun c hc=> ?_⟩,by omega,by omega⟩
  rw[hd]at hc
  exact ZU v hr c hc
 by_cases hc:s.take pre.length=pre/\(s.drop pre.length).length=10/\(∀c∈s.drop pre.length,48<=c/\c<=57)/\qh (s.drop pre.length)<=1000000000
 ·have e:oq pre s=((qh (s.drop pre.length):Nat):Int):=if_pos hc
  have hvd:=hv ⟨hc.2.1,hc.2.2.1⟩
  rw[e]
  by_cases h0:qh (s.drop pre.length)=0
  ·rw[h0]at hvd ⊢
   rw[if_neg (fun g=>by have:=(key g).2.1;rw[hvd]at this;revert this;decide)];rfl
  ·have hn:oM pre v=s:=by
    rw[hvd]
    unfold oM
    rw[if_neg (by omega)]
    have hf:fmt10 ((qh (s.drop pre.length):Nat):Int)=Ez 20 (qh (s.drop pre.length)):=by
     unfold fmt10;rw[if_neg (by omega)];rfl
    rw[hf,List.append_assoc,abd hc.2.1 hc.2.2.1 (Lp 10 _ hc.2.1 hc.2.2.1)];exact hs.symm
   rw[if_pos hn,hvd]
 ·have e:oq pre s=0:=if_neg hc
  rw[e]
  by_cases hn:oM pre v=s
  ·exfalso
   obtain⟨k1,k2,k3⟩:=key hn
   have:=hv k1
   exact hc ⟨hp,k1.1,k1.2,by omega⟩
  ·rw[if_neg hn]
theorem Ny:bW PG 172 BZ:=by
 refine U2 (xs:=[.str]) (rs:=[.int .i64]) rfl rfl (U9 yL (by kernel_rfl)) fun(x:List UInt8) (y:Int) w hrun hg=> ?_
 have hy:y=oq [108,111,103,46] x:=(Option.some.inj hrun).symm
 subst hy
 show Calls PG 172 #[.string ⟨x.toArray⟩] w fun e w'=>e= .returned (.int .i64 (oq [108,111,103,46] x))/\Go.RowKit.Below w.heap.size w w'
 have hcut:=Go.Proofs.Any.strings_CutPrefix Oj ⟨x.toArray⟩ ⟨#[108,111,103,46]⟩ w
 change Calls PG 231 #[.string ⟨x.toArray⟩,.string ⟨#[108,111,103,46]⟩] w (fun e w'=>e= .returned (.tuple #[.string ⟨(Go.Lib.trimPrefix x [108,111,103,46]).toArray⟩,.bool (Go.Lib.hasPrefix x [108,111,103,46])])/\w'=w)at hcut
 cases hpf:Go.Lib.hasPrefix x [108,111,103,46]with
 |false=>
  rw[hpf]at hcut
  have hz:oq [108,111,103,46] x=0:=if_neg fun g=>by
   have:Go.Lib.hasPrefix x [108,111,103,46]=true:=by
    unfold Go.Lib.hasPrefix
    rw[List.isPrefixOf_iff_prefix]
    exact⟨x.drop 4,by conv=>rhs;rw[<-List.take_append_drop 4 x,show x.take 4=_ from g.1]⟩
   rw[hpf]at this;cases this
  rw[hz]
  exact NI _ _ w hcut
 |true=>
  rw[hpf]at hcut
  have htk:x.take 4=[108,111,103,46]:=by
   unfold Go.Lib.hasPrefix at hpf
   rw[List.isPrefixOf_iff_prefix]at hpf
   obtain⟨r,rfl⟩:=hpf
   rfl
  rw[show Go.Lib.trimPrefix x [108,111,103,46]=x.drop 4 by unfold Go.Lib.trimPrefix;rw[if_pos hpf];rfl]at hcut
  have h3:∀v,inI v->∀w1,Go.RowKit.Below w.heap.size w w1->Calls PG 151 #[.int .i64 v] w1 fun e w'=>e= .returned (.string ⟨(oM [108,111,103,46] v).toArray⟩)/\Go.RowKit.Below w1.heap.size w1 w':=fun v hv w1 hb=>
   bW.calls (xs:=[.int .i64]) (r:= .str) yL (by kernel_rfl) Kz rfl rfl v (oM [108,111,103,46] v) (aaL v hv) w1 (hg.mono (fun b h=>Nat.lt_of_lt_of_le h hb.size) (fun b h=>hb.block b h))
  refine(Tc ⟨x.toArray⟩ (x.drop 4) (oM [108,111,103,46]) w hcut h3).mono fun e w' ⟨⟨v,h1,h2,he⟩,hb⟩=>⟨?_,hb⟩
  rw[ByteArray.toList_eq]at he
  rw[he,<-Zo [108,111,103,46] x htk (by simp) v h2]
def uh (p0:Int) (p1:(List aB)) (p2:dU) (v0:Int) (v1:Bool) (v2:Bool):Option ((Int×Bool×Bool) ⊕ ((Bool) ⊕ ((Bool×Bool)))):=cnd (ilt v0 p0) (cnd (band (ile 0 v0) (ilt v0 (len p1))) (af (CV (ah p1 (itn v0)).name) fun y0=>cnd (band (ilt 0 y0) (ieq y0 p2.seg)) (some (Sum.inl (wr .i64 (ai v0 1),ieq (len (ah p1 (itn v0)).data) (wr .i64 (fQ p2.count 72)),v2))) (cnd (ilt p2.sure y0) (some (Sum.inr (Sum.inl false))) (some (Sum.inl (wr .i64 (ai v0 1),v1,v2))))) none) (some (Sum.inr (Sum.inr (v1,v2))))
def S9:dV:=LSh.spec ⟨85,[(22,.int .i64),(21,.ro .file)],[(2,.mp 16 0)],[(16,[.val .wal])],[(23,.int .i64),(5,.bool),(4,.bool)],[],[]⟩ [⟨.ret,[(4,.bool)],[],[]⟩,⟨.exit 0,[(5,.bool),(4,.bool)],[],[]⟩] (sP [(4,2),(7,2),(23,29)]) (fun p v=>uh p.1 p.2.1 p.2.2 v.1 v.2.1 v.2.2)
def xR (x0:dU) (x1:ax):Option (Bool):=af (qK x0) fun y0=>af (cnd (aj (aj y0)) (lI x1) (some false)) fun y1=>cnd (bor (aj y0) (aj y1)) (some false) (af (bD (fun v=>uh (len x1.files) x1.files x0 v.1 v.2.1 v.2.2) LF (0,ieq x0.seg 0,false)) fun y2=>gK y2 (fun y3=>some y3) fun y3=>some y3.1)
def FW:aH:=mkSpec [.val .wal,.val .disk] [.bool] true (fun x=>xR x.1 x.2)
theorem Sm:bW PG 149 FW:=okP [(38,zn),(36,oH),(172,BZ)] [] [(149,122,S9)] ⟨IL,xk,Ny,trivial⟩ (fun K=>⟨kz K fun p v=>by kernel_rfl,trivial⟩) fun x=>by kernel_rfl
def nT (p0:Int) (p1:(List aB)) (v0:Int) (v1:(List Int)):Option ((Int×(List Int)) ⊕ (((List Int)))):=cnd (ilt v0 p0) (cnd (band (ile 0 v0) (ilt v0 (len p1))) (af (CV (ah p1 (itn v0)).name) fun y0=>cnd (ilt 0 y0) (cnd (ile (len (dm v1 [y0])) 68719476736) (some (Sum.inl (wr .i64 (ai v0 1),dm v1 [y0]))) none) (some (Sum.inl (wr .i64 (ai v0 1),v1)))) none) (some (Sum.inr v1))
def MH:dV:=LSh.spec ⟨75,[(12,.int .i64),(11,.ro .file)],[],[],[(13,.int .i64),(3,.buf .i64)],[],[]⟩ [⟨.exit 0,[(3,.buf .i64)],[],[]⟩] (sP [(3,1),(5,2),(13,14)]) (fun p v=>nT p.1 p.2 v.1 v.2)
def uf (x0:ax):Option ((List Int)):=af (lI x0) fun y0=>cnd (aj y0) (some []) (af (bD (fun v=>nT (len x0.files) x0.files v.1 v.2) LF (0,[])) fun y1=>some y1)
def EU:aH:=mkSpec [.val .disk] [.buf .i64] true (fun x=>uf x)
theorem SV:bW PG 86 EU:=okP [(36,oH),(172,BZ)] [] [(86,122,MH)] ⟨xk,Ny,trivial⟩ (fun K=>⟨kz K fun p v=>by kernel_rfl,trivial⟩) fun x=>by kernel_rfl
def dI (p0:Int) (p1:(List (List UInt8))) (v0:Int) (v1:Int):Option ((Int×Int) ⊕ ((Int) ⊕ ((Int)))):=cnd (ilt v0 p0) (cnd (band (ile 0 v0) (ilt v0 (len p1))) (af (yS (ah p1 (itn v0))) fun y0=>cnd (aj y0) (some (Sum.inr (Sum.inl v0))) (some (Sum.inl (wr .i64 (ai v0 1),v1)))) none) (some (Sum.inr (Sum.inr v1)))
def nY:dV:=LSh.spec ⟨88,[(7,.int .i64),(0,.ro .str)],[(1,.fn 279 [])],[],[(8,.int .i64),(4,.int .i64)],[],[]⟩ [⟨.ret,[(4,.int .i64)],[],[]⟩,⟨.exit 0,[(4,.int .i64)],[],[]⟩] (sP [(4,2),(8,11)]) (fun p v=>dI p.1 p.2 v.1 v.2)
def iI (x0:ax) (x1:(List (List UInt8))):Option (Int):=af (lI x0) fun y0=>cnd (aj y0) (some 1) (cnd x0.down (some 9) (af (bD (fun v=>dI (len x1) x1 v.1 v.2) LF (0,0)) fun y1=>gK y1 (fun y2=>cnd (ile 0 y2) (some 1) (some 0)) fun y2=>some 0))
def mg:aH:=mkSpec [.val .disk,.ro .str] [.int .i64] true (fun x=>iI x.1 x.2)
theorem rV:bW PG 216 mg:=okP [(36,oH),(90,BU)] [278,311,279] [(3984496967405868761399,26,nY)] ⟨xk,Nb,trivial⟩ (fun K=>⟨kz K fun p v=>by kernel_rfl,trivial⟩) fun x=>by kernel_rfl
def oP (x0:(List UInt8)) (x1:(List UInt8)):Option (Int):=some (YR x0 x1)
def BJ:aH:=mkSpec [.str,.str] [.int .i64] true (fun x=>oP x.1 x.2)
def Mc:Go.Shelf.Ren:=⟨fun | 106=>282 | 213=>312 | 265=>331 | n=>n,fun | 9=>9 | 3=>3 | n=>n,fun | n=>n⟩
theorem Ar:Go.Proofs.Lays.n106 PG Mc where
 mixed:=by kernel_rfl
 f106:=by kernel_rfl
 f213:=by kernel_rfl
 f265:=by kernel_rfl
 t3:=by kernel_rfl
 a3:=fun w=>by kernel_rfl
 z3:=fun w=>by kernel_rfl
 v3:=fun w=>by kernel_rfl
 t9:=by kernel_rfl
 a9:=fun w=>by kernel_rfl
 z9:=fun w=>by kernel_rfl
 v9:=fun w=>by kernel_rfl
theorem NJ:bW PG 282 BJ:=adR yL Ar (by kernel_rfl) fun x y h=>(Option.some.inj h).symm
def eu (p0:(List aB)) (p1:(List UInt8)) (v0:Int) (v1:Int):Option ((Int×Int) ⊕ ((Int))):=cnd (ilt v1 v0) (cnd (band (ile 0 (wr .i64 (bQ .u64 (wr .u64 (wr .i64 (ai v1 v0))) 1))) (ilt (wr .i64 (bQ .u64 (wr .u64 (wr .i64 (ai v1 v0))) 1)) (len p0))) (af (oP (ah p0 (itn (wr .i64 (bQ .u64 (wr .u64 (wr .i64 (ai v1 v0))) 1)))).name p1) fun y0=>cnd (ilt y0 0) (some (Sum.inl (v0,wr .i64 (ai (wr .i64 (bQ .u64 (wr .u64 (wr .i64 (ai v1 v0))) 1)) 1)))) (some (Sum.inl (wr .i64 (bQ .u64 (wr .u64 (wr .i64 (ai v1 v0))) 1),v1)))) none) (some (Sum.inr v1))
def nP:dV:=LSh.spec ⟨85,[(0,.ro .file),(1,.str)],[(2,.fn 281 [])],[],[(10,.int .i64),(9,.int .i64)],[],[]⟩ [⟨.exit 0,[(9,.int .i64)],[],[]⟩] (sP [(9,3),(15,20)]) (fun p v=>eu p.1 p.2 v.1 v.2)
def dR (x0:ax) (x1:(List UInt8)):Option (Int×Bool):=af (bD (fun v=>eu x0.files x1 v.1 v.2) LF (len x0.files,0)) fun y0=>cnd (bor (band (ile 0 y0) (ilt y0 (len x0.files))) (aj (ilt y0 (len x0.files)))) (cnd (ilt y0 (len x0.files)) (af (oP (ah x0.files (itn y0)).name x1) fun y1=>some (y0,band (ilt y0 (len x0.files)) (ieq y1 0))) (some (y0,bor (ilt y0 (len x0.files)) false))) none
def nR:aH:=mkSpec [.val .disk,.str] [.int .i64,.bool] true (fun x=>dR x.1 x.2)
theorem vK:bW PG 217 nR:=okP [(282,BJ)] [280,281] [(932007956760,60,nP)] ⟨NJ,trivial⟩ (fun K=>⟨kz K fun p v=>by kernel_rfl,trivial⟩) fun x=>by kernel_rfl
def aK (x0:(List aB)):Option ((List aB)):=JH (len x0) fun y0=>cnd (beq y0 true) (some []) (cnd (ile (len x0) 68719476736) (some x0) none)
def iw:aH:=mkSpec [.ro .file] [.buf .file] false (fun x=>aK x)
theorem jF:bW PG 80 iw:=okN [] [] trivial fun x=>by kernel_rfl
def dK (x0:(List aB)) (x1:Int) (x2:Int):Option ((List aB)):=cnd (band (band (band (ile 0 x1) (ile x1 x2)) (ile x2 (len x0))) (band (ile x2 (len x0)) (ile (len x0) (len x0)))) (cnd (ieq x1 x2) (some x0) (cnd (band (ile 0 x1) (ile x1 (len x0))) (cnd (band (ile 0 x2) (ile x2 (len x0))) (cnd (ile (ai (nti (itn x1)) (len (ay (aF x0 (itn x2)) (itn (aA (len x0) x2))))) (len x0)) (cnd (band (band (ile 0 (nti (nad (itn x1) (itn (len (ay (aF x0 (itn x2)) (itn (aA (len x0) x2)))))))) (ile (nti (nad (itn x1) (itn (len (ay (aF x0 (itn x2)) (itn (aA (len x0) x2))))))) (len x0))) (ile (len x0) (aA (len (dY x0 (itn x1) (ay (aF x0 (itn x2)) (itn (aA (len x0) x2))))) 0))) (some (ay (aF (dY (dY x0 (itn x1) (ay (aF x0 (itn x2)) (itn (aA (len x0) x2)))) (nad 0 (itn (nti (nad (itn x1) (itn (len (ay (aF x0 (itn x2)) (itn (aA (len x0) x2))))))))) (jJ aB (itn (aA (len x0) (nti (nad (itn x1) (itn (len (ay (aF x0 (itn x2)) (itn (aA (len x0) x2))))))))))) 0) (nad (itn x1) (itn (len (ay (aF x0 (itn x2)) (itn (aA (len x0) x2)))))))) none) none) none) none)) none
def tq:aH:=mkSpec [.buf .file,.int .i64,.int .i64] [.ro .file] false (fun x=>dK x.1 x.2.1 x.2.2)
theorem EI:bW PG 222 tq:=okN [] [] trivial fun x=>by kernel_rfl
def kE (x0:ax) (x1:(List UInt8)):Option (ax×Int):=af (iI x0 [x1]) fun y0=>cnd (aj (ieq y0 0)) (cnd (aj (ieq y0 0)) (some (x0,y0)) (cnd (ieq x0.fuse 0) (some (ax.mk x0.files x0.room x0.fuse true,9)) (cnd (ieq x0.fuse (-1)) (af (aK x0.files) fun y1=>af (dK y1 0 1) fun y2=>some (ax.mk y2 x0.room x0.fuse x0.down,0)) (af (aK x0.files) fun y3=>af (dK y3 0 1) fun y4=>some (ax.mk y4 x0.room (wr .i64 (aA x0.fuse 1)) x0.down,0))))) (af (dR x0 x1) fun y5=>cnd (aj y5.2) (some (x0,7)) (cnd (ieq x0.fuse 0) (some (ax.mk x0.files x0.room x0.fuse true,9)) (cnd (ieq x0.fuse (-1)) (af (aK x0.files) fun y6=>af (dK y6 y5.1 (wr .i64 (ai y5.1 1))) fun y7=>some (ax.mk y7 x0.room x0.fuse x0.down,0)) (af (aK x0.files) fun y8=>af (dK y8 y5.1 (wr .i64 (ai y5.1 1))) fun y9=>some (ax.mk y9 x0.room (wr .i64 (aA x0.fuse 1)) x0.down,0)))))
def AL:aH:=mkSpec [.val .disk,.str] [.val .disk,.int .i64] false (fun x=>kE x.1 x.2)
theorem JM:bW PG 150 AL:=okN [(216,mg),(217,nR),(80,iw),(222,tq)] [214,221] ⟨rV,vK,jF,EI,trivial⟩ fun x=>by kernel_rfl
def nS (p0:Int) (p1:Int) (p2:(List Int)) (p3:(List Int)) (p4:dU) (v0:Int) (v1:Int) (v2:ax) (v3:ax):Option ((Int×Int×ax×ax) ⊕ ((Int×ax×ax) ⊕ ((Int×ax×ax)))):=cnd (ilt v0 p0) (cnd (band (ile 0 v0) (ilt v0 (len p2))) (cnd (ilt (wr .i64 (ai v0 1)) (len p3)) (cnd (band (ile 0 (wr .i64 (ai v0 1))) (ilt (wr .i64 (ai v0 1)) (len p3))) (cnd (ieq (ah p2 (itn v0)) p4.seg) (some (Sum.inl (wr .i64 (ai v0 1),v1,v2,v3))) (cnd (ilt p1 (wr .i64 (aA (ah p3 (itn (wr .i64 (ai v0 1)))) 1))) (some (Sum.inr (Sum.inl (v1,v2,v3)))) (af (iq (ah p2 (itn v0))) fun y0=>af (kE v3 y0) fun y1=>cnd (aj (ieq y1.2 0)) (some (Sum.inr (Sum.inr (y1.2,y1.1,y1.1)))) (some (Sum.inl (wr .i64 (ai v0 1),v1,v2,y1.1)))))) none) (cnd (ieq (ah p2 (itn v0)) p4.seg) (some (Sum.inl (wr .i64 (ai v0 1),v1,v2,v3))) (cnd (ilt p1 p4.sure) (some (Sum.inr (Sum.inl (v1,v2,v3)))) (af (iq (ah p2 (itn v0))) fun y2=>af (kE v3 y2) fun y3=>cnd (aj (ieq y3.2 0)) (some (Sum.inr (Sum.inr (y3.2,y3.1,y3.1)))) (some (Sum.inl (wr .i64 (ai v0 1),v1,v2,y3.1))))))) none) (some (Sum.inr (Sum.inl (v1,v2,v3))))
def SC:dV:=LSh.spec ⟨81,[(22,.int .i64),(2,.int .i64),(21,.ro .i64),(8,.ro .i64)],[(6,.mp 40 0),(4,.mp 32 0),(3,.mp 24 0)],[(24,[.val .wal])],[(23,.int .i64),(7,.int .i64)],[(40,[.val .disk]),(32,[.val .disk])],[]⟩ [⟨.exit 0,[(7,.int .i64)],[(40,[.val .disk]),(32,[.val .disk])],[]⟩,⟨.ret,[(7,.int .i64)],[(40,[.val .disk]),(32,[.val .disk])],[]⟩] (sP [(7,1),(9,5),(23,38)]) (fun p v=>nS p.1 p.2.1 p.2.2.1 p.2.2.2.1 p.2.2.2.2 v.1 v.2.1 v.2.2.1 v.2.2.2)
def xP (x0:dU) (x1:ax) (x2:Int):Option (ax×Int):=af (xR x0 x1) fun y0=>cnd (aj y0) (some (x1,1)) (af (uf x1) fun y1=>af (bD (fun v=>nS (len y1) x2 y1 y1 x0 v.1 v.2.1 v.2.2.1 v.2.2.2) LF (0,0,ax.mk [] 0 0 false,x1)) fun y2=>gK y2 (fun y3=>some (y3.2.2,0)) fun y3=>some (y3.2.1,y3.1))
def F6:aH:=mkSpec [.val .wal,.val .disk,.int .i64] [.val .disk,.int .i64] false (fun x=>xP x.1 x.2.1 x.2.2)
theorem Sv:bW PG 75 F6:=okP [(149,FW),(86,EU),(151,Gi),(150,AL)] [] [(75,122,SC)] ⟨Sm,SV,Kz,JM,trivial⟩ (fun K=>⟨kz K fun p v=>by kernel_rfl,trivial⟩) fun x=>by kernel_rfl
def ng (x0:dU) (x1:ax):Option (Bool):=af (xP x0 x1 0) fun y0=>some (aj (ieq y0.2 1))
def KE:aH:=mkSpec [.val .wal,.val .disk] [.bool] true (fun x=>ng x.1 x.2)
theorem Zb:bW PG 44 KE:=okN [(75,F6)] [4095] ⟨Sv,trivial⟩ fun x=>by kernel_rfl
def kQ (x0:aW):Option (Bool):=some (band (band (ieq (len x0.outbox) 0) (ieq (len x0.feed.held) 0)) (aj x0.feed.gap))
def Jb:aH:=mkSpec [.val .gate] [.bool] true (fun x=>kQ x)
theorem VX:bW PG 45 Jb:=okN [] [] trivial fun x=>by kernel_rfl
def bV (p0:Int) (p1:(List fE)) (v0:Int) (v1:Int):Option ((Int×Int) ⊕ ((Int) ⊕ ((Int)))):=cnd (ilt v0 p0) (cnd (band (ile 0 v0) (ilt v0 (len p1))) (af (mP (ah p1 (itn v0))) fun y0=>af (lQ y0) fun y1=>cnd (aj y1) (some (Sum.inr (Sum.inl v0))) (some (Sum.inl (wr .i64 (ai v0 1),v1)))) none) (some (Sum.inr (Sum.inr v1)))
def nN:dV:=LSh.spec ⟨131,[(7,.int .i64),(0,.ro .note)],[(1,.fn 39 [])],[],[(8,.int .i64),(4,.int .i64)],[],[]⟩ [⟨.ret,[(4,.int .i64)],[],[]⟩,⟨.exit 0,[(4,.int .i64)],[],[]⟩] (sP [(4,2),(8,11)]) (fun p v=>bV p.1 p.2 v.1 v.2)
def qZ (x0:aW):Option (Bool):=af (lI x0.disk) fun y0=>af (cnd (aj (aj y0)) (mQ x0.state) (some false)) fun y1=>af (cnd (aj (bor (aj y0) (aj y1))) (qK x0.wal) (some false)) fun y2=>cnd (bor (bor (aj y0) (aj y1)) (aj y2)) (some false) (af (cnd (aj (aj (ieq x0.state.lsn (wr .i64 (aA x0.wal.next 1))))) (uK x0.outbox x0.wal.sure x0.state.lsn) (some false)) fun y3=>af (cnd (aj (bor (aj (ieq x0.state.lsn (wr .i64 (aA x0.wal.next 1)))) (aj y3))) (vO x0.feed (wr .i64 (ai x0.state.seq 1))) (some false)) fun y4=>cnd (aj (bor (bor (aj (ieq x0.state.lsn (wr .i64 (aA x0.wal.next 1)))) (aj y3)) (aj y4))) (af (bD (fun v=>bV (len x0.feed.held) x0.feed.held v.1 v.2) LF (0,0)) fun y5=>gK y5 (fun y6=>cnd (bor (bor (bor (aj (ieq x0.state.lsn (wr .i64 (aA x0.wal.next 1)))) (aj y3)) (aj y4)) (ile 0 y6)) (some false) (af (cnd (band (band (band (ile 0 x0.gen) (ile x0.gen 1000000000)) (aj (beq x0.up x0.disk.down))) x0.up) (ng x0.wal x0.disk) (some false)) fun y7=>af (cnd (band (band (band (band (ile 0 x0.gen) (ile x0.gen 1000000000)) (aj (beq x0.up x0.disk.down))) (aj (band x0.up y7))) (aj x0.up)) (kQ x0) (some false)) fun y8=>some (band (band (band (ile 0 x0.gen) (ile x0.gen 1000000000)) (aj (beq x0.up x0.disk.down))) (bor (band x0.up y7) (band (aj x0.up) y8))))) fun y6=>cnd (bor (bor (bor (aj (ieq x0.state.lsn (wr .i64 (aA x0.wal.next 1)))) (aj y3)) (aj y4)) false) (some false) (af (cnd (band (band (band (ile 0 x0.gen) (ile x0.gen 1000000000)) (aj (beq x0.up x0.disk.down))) x0.up) (ng x0.wal x0.disk) (some false)) fun y9=>af (cnd (band (band (band (band (ile 0 x0.gen) (ile x0.gen 1000000000)) (aj (beq x0.up x0.disk.down))) (aj (band x0.up y9))) (aj x0.up)) (kQ x0) (some false)) fun y10=>some (band (band (band (ile 0 x0.gen) (ile x0.gen 1000000000)) (aj (beq x0.up x0.disk.down))) (bor (band x0.up y9) (band (aj x0.up) y10))))) (cnd (bor (bor (bor (aj (ieq x0.state.lsn (wr .i64 (aA x0.wal.next 1)))) (aj y3)) (aj y4)) false) (some false) (af (cnd (band (band (band (ile 0 x0.gen) (ile x0.gen 1000000000)) (aj (beq x0.up x0.disk.down))) x0.up) (ng x0.wal x0.disk) (some false)) fun y11=>af (cnd (band (band (band (band (ile 0 x0.gen) (ile x0.gen 1000000000)) (aj (beq x0.up x0.disk.down))) (aj (band x0.up y11))) (aj x0.up)) (kQ x0) (some false)) fun y12=>some (band (band (band (ile 0 x0.gen) (ile x0.gen 1000000000)) (aj (beq x0.up x0.disk.down))) (bor (band x0.up y11) (band (aj x0.up) y12))))))
def BR:aH:=mkSpec [.val .gate] [.bool] true (fun x=>qZ x)
theorem Nv:bW PG 10 BR:=okP [(36,oH),(37,rF),(38,zn),(29,xB),(40,lT),(41,E8),(42,BP),(44,KE),(45,Jb)] [4095,39,43,101] [(184468443676383899749,26,nN)] ⟨xk,Bc,IL,FO,rC,SH,Nu,Zb,VX,trivial⟩ (fun K=>⟨kz K fun p v=>by kernel_rfl,trivial⟩) fun x=>by kernel_rfl
def pG (x0:Int) (x1:jm) (x2:Int):Option (aW×Bool):=af (Oz 2 2 x1 x2) fun y0=>af (cnd (ieq y0.2 0) (qZ (aW.mk (ax.mk [] x0 (-1) false) (dU.mk 1 1 0 0 0 []) y0.1 [] (kD.mk [] false) 0 true)) (some false)) fun y1=>some (aW.mk (ax.mk [] x0 (-1) false) (dU.mk 1 1 0 0 0 []) y0.1 [] (kD.mk [] false) 0 true,band (ieq y0.2 0) y1)
def yC:aH:=mkSpec [.int .i64,.val .expo,.int .i64] [.val .gate,.bool] false (fun x=>pG x.1 x.2.1 x.2.2)
theorem Jt:bW PG 28 yC:=okN [(78,MZ),(10,BR)] [4095] ⟨aaR,Nv,trivial⟩ fun x=>by kernel_rfl
def mM (x0:aW):Option (Int):=af (qZ x0) fun y0=>cnd (aj y0) (some 1) (cnd (aj x0.up) (some 9) (some 0))
def rG:aH:=mkSpec [.val .gate] [.int .i64] true (fun x=>mM x)
theorem AP:bW PG 54 rG:=okN [(10,BR)] [4095] ⟨Nv,trivial⟩ fun x=>by kernel_rfl
def eG (x0:(List aG)):Option ((List aG)):=JH (len x0) fun y0=>cnd (beq y0 true) (some []) (cnd (ile (len x0) 68719476736) (some x0) none)
def sO:aH:=mkSpec [.ro .order] [.buf .order] true (fun x=>eG x)
theorem ED:bW PG 243 sO:=okN [] [] trivial fun x=>by kernel_rfl
def fB (x0:(List aX)):Option ((List aX)):=JH (len x0) fun y0=>cnd (beq y0 true) (some []) (cnd (ile (len x0) 68719476736) (some x0) none)
def uT:aH:=mkSpec [.ro .cell] [.buf .cell] true (fun x=>fB x)
theorem FX:bW PG 244 uT:=okN [] [] trivial fun x=>by kernel_rfl
def fA (x0:(List jm)):Option ((List jm)):=JH (len x0) fun y0=>cnd (beq y0 true) (some []) (cnd (ile (len x0) 68719476736) (some x0) none)
def uG:aH:=mkSpec [.ro .expo] [.buf .expo] true (fun x=>fA x)
theorem FY:bW PG 245 uG:=okN [] [] trivial fun x=>by kernel_rfl
def gG (x0:(List Int)):Option ((List Int)):=JH (len x0) fun y0=>cnd (beq y0 true) (some []) (cnd (ile (len x0) 68719476736) (some x0) none)
def yj:aH:=mkSpec [.ro .i64] [.buf .i64] true (fun x=>gG x)
theorem Jv:bW PG 246 yj:=okN [] [] trivial fun x=>by kernel_rfl
def wW (x0:iT):Option (aG×Int):=af (cnd (aj (aj (ieq x0.kind 1))) (lQ x0) (some false)) fun y0=>cnd (bor (aj (ieq x0.kind 1)) (aj y0)) (some (aG.mk 0 0 0 0 0 0 0 0 0 0 0 false,1)) (some (aG.mk x0.order x0.account x0.symbol x0.side x0.qty x0.price 0 1 0 0 0 false,0))
def He:aH:=mkSpec [.val .recd] [.val .order,.int .i64] true (fun x=>wW x)
theorem UY:bW PG 247 He:=okN [(40,lT)] [] ⟨rC,trivial⟩ fun x=>by kernel_rfl
def GI (x0:aX):Option (jm×Int):=af (iF x0) fun y0=>cnd (aj y0) (some (jm.mk 0 0 0,1)) (af (BM x0) fun y1=>some (y1.1,0))
def OW:aH:=mkSpec [.val .cell] [.val .expo,.int .i64] true (fun x=>GI x)
theorem abo:bW PG 299 OW:=okN [(178,oC),(263,DV)] [] ⟨wY,Qa,trivial⟩ fun x=>by kernel_rfl
def wU (x0:jm):Option (SA3):=some (SA3.mk x0.long x0.short x0.opn)
def Hq:aH:=mkSpec [.val .expo] [.val .a3] true (fun x=>wU x)
theorem UE:bW PG 328 Hq:=okN [] [] trivial fun x=>by kernel_rfl
def jK (x0:Int) (x1:Int) (x2:Int):Option (Bool):=some (ilt (imax x0 x2) x1)
def su:aH:=mkSpec [.int .i64,.int .i64,.int .i64] [.bool] true (fun x=>jK x.1 x.2.1 x.2.2)
theorem CO:bW PG 301 su:=okN [] [] trivial fun x=>by kernel_rfl
def xA (x0:jm) (x1:jm) (x2:jm):Option (Bool):=af (wU x0) fun y0=>af (wU x1) fun y1=>af (wU x2) fun y2=>af (jK y0.a0 y1.a0 y2.a0) fun y3=>cnd y3 (some true) (af (jK y0.a1 y1.a1 y2.a1) fun y4=>cnd y4 (some true) (af (jK y0.a2 y1.a2 y2.a2) fun y5=>cnd y5 (some true) (some false)))
def DY:aH:=mkSpec [.val .expo,.val .expo,.val .expo] [.bool] true (fun x=>xA x.1 x.2.1 x.2.2)
theorem Rz:bW PG 300 DY:=okN [(328,Hq),(301,su)] [] ⟨UE,CO,trivial⟩ fun x=>by kernel_rfl
def dQ (x0:aC) (x1:aC) (x2:Int) (x3:Int):Option (Int):=af (bf x0 x2 x3) fun y0=>af (jE x0 x2) fun y1=>af (rW y1) fun y2=>cnd (aj (ieq y2.2 0)) (some 3) (af (jE x1 x2) fun y3=>af (rW y3) fun y4=>cnd (band (ile 0 y0) (ilt y0 (len x1.cells))) (af (GI (ah x1.cells (itn y0))) fun y5=>cnd (band (ile 0 y0) (ilt y0 (len x0.cells))) (af (GI (ah x0.cells (itn y0))) fun y6=>cnd (band (ile 0 y0) (ilt y0 (len x0.limits))) (af (xA y5.1 y6.1 (ah x0.limits (itn y0))) fun y7=>cnd (bor (band (ile 0 x2) (ilt x2 (len x0.caps))) (aj (aj y7))) (af (cnd (aj y7) (jK y4.1 y2.1 (ah x0.caps (itn x2))) (some false)) fun y8=>cnd (bor y7 y8) (some 4) (some 0)) none) none) none) none)
def zF:aH:=mkSpec [.val .state,.val .state,.int .i64,.int .i64] [.int .i64] true (fun x=>dQ x.1 x.2.1 x.2.2.1 x.2.2.2)
theorem KR:bW PG 250 zF:=okN [(248,lU),(180,pR),(179,zX),(299,OW),(300,DY),(301,su)] [] ⟨sG,zx,JV,abo,Rz,CO,trivial⟩ fun x=>by kernel_rfl
def dP (p0:Int) (p1:(List aG)) (p2:Int) (v0:Int) (v1:Int):Option ((Int×Int) ⊕ ((Int) ⊕ ((Int)))):=cnd (ilt v0 p0) (cnd (band (ile 0 v0) (ilt v0 (len p1))) (cnd (ieq (ah p1 (itn v0)).id p2) (some (Sum.inr (Sum.inl v0))) (some (Sum.inl (wr .i64 (ai v0 1),v1)))) none) (some (Sum.inr (Sum.inr v1)))
def pY:dV:=LSh.spec ⟨78,[(7,.int .i64),(0,.ro .order)],[(1,.fn 115 [.mp 24 0])],[(24,[.int .i64])],[(8,.int .i64),(4,.int .i64)],[],[]⟩ [⟨.ret,[(4,.int .i64)],[],[]⟩,⟨.exit 0,[(4,.int .i64)],[],[]⟩] (sP [(4,2),(8,11)]) (fun p v=>dP p.1 p.2.1 p.2.2 v.1 v.2)
def lN (x0:aC) (x1:Int):Option (Int):=af (bD (fun v=>dP (len x0.orders) x0.orders x1 v.1 v.2) LF (0,0)) fun y0=>gK y0 (fun y1=>some y1) fun y1=>some (-1)
def D8:aH:=mkSpec [.val .state,.int .i64] [.int .i64] true (fun x=>lN x.1 x.2)
theorem PZ:bW PG 56 D8:=okP [] [115,114] [(240518209650,26,pY)] trivial (fun K=>⟨kz K fun p v=>by kernel_rfl,trivial⟩) fun x=>by kernel_rfl
def uM (x0:aG) (x1:Int) (x2:Int):Option (aG×Int):=af (nI x0.version 1) fun y0=>af (gQ x0) fun y1=>cnd (aj y1) (cnd (aj y1) (some (x0,1)) (cnd (aj (ieq x0.phase 2)) (cnd (aj (ieq x0.phase 2)) (some (x0,8)) (some (aG.mk x0.id x0.account x0.symbol x0.side x0.qty x0.price x0.filled x0.phase x1 x2 (wr .i64 (ai x0.version 1)) x0.asked,0))) (af (iK x0) fun y2=>cnd y2 (cnd y2 (some (x0,8)) (some (aG.mk x0.id x0.account x0.symbol x0.side x0.qty x0.price x0.filled x0.phase x1 x2 (wr .i64 (ai x0.version 1)) x0.asked,0))) (cnd x0.asked (some (x0,8)) (some (aG.mk x0.id x0.account x0.symbol x0.side x0.qty x0.price x0.filled x0.phase x1 x2 (wr .i64 (ai x0.version 1)) x0.asked,0)))))) (cnd (ilt x1 1) (cnd (ilt x1 1) (some (x0,1)) (cnd (aj (ieq x0.phase 2)) (cnd (aj (ieq x0.phase 2)) (some (x0,8)) (some (aG.mk x0.id x0.account x0.symbol x0.side x0.qty x0.price x0.filled x0.phase x1 x2 (wr .i64 (ai x0.version 1)) x0.asked,0))) (af (iK x0) fun y3=>cnd y3 (cnd y3 (some (x0,8)) (some (aG.mk x0.id x0.account x0.symbol x0.side x0.qty x0.price x0.filled x0.phase x1 x2 (wr .i64 (ai x0.version 1)) x0.asked,0))) (cnd x0.asked (some (x0,8)) (some (aG.mk x0.id x0.account x0.symbol x0.side x0.qty x0.price x0.filled x0.phase x1 x2 (wr .i64 (ai x0.version 1)) x0.asked,0)))))) (cnd (ilt x2 1) (cnd (ilt x2 1) (some (x0,1)) (cnd (aj (ieq x0.phase 2)) (cnd (aj (ieq x0.phase 2)) (some (x0,8)) (some (aG.mk x0.id x0.account x0.symbol x0.side x0.qty x0.price x0.filled x0.phase x1 x2 (wr .i64 (ai x0.version 1)) x0.asked,0))) (af (iK x0) fun y4=>cnd y4 (cnd y4 (some (x0,8)) (some (aG.mk x0.id x0.account x0.symbol x0.side x0.qty x0.price x0.filled x0.phase x1 x2 (wr .i64 (ai x0.version 1)) x0.asked,0))) (cnd x0.asked (some (x0,8)) (some (aG.mk x0.id x0.account x0.symbol x0.side x0.qty x0.price x0.filled x0.phase x1 x2 (wr .i64 (ai x0.version 1)) x0.asked,0)))))) (cnd (aj (ieq y0.2 0)) (some (x0,1)) (cnd (aj (ieq x0.phase 2)) (cnd (aj (ieq x0.phase 2)) (some (x0,8)) (some (aG.mk x0.id x0.account x0.symbol x0.side x0.qty x0.price x0.filled x0.phase x1 x2 (wr .i64 (ai x0.version 1)) x0.asked,0))) (af (iK x0) fun y5=>cnd y5 (cnd y5 (some (x0,8)) (some (aG.mk x0.id x0.account x0.symbol x0.side x0.qty x0.price x0.filled x0.phase x1 x2 (wr .i64 (ai x0.version 1)) x0.asked,0))) (cnd x0.asked (some (x0,8)) (some (aG.mk x0.id x0.account x0.symbol x0.side x0.qty x0.price x0.filled x0.phase x1 x2 (wr .i64 (ai x0.version 1)) x0.asked,0))))))))
def Fp:aH:=mkSpec [.val .order,.int .i64,.int .i64] [.val .order,.int .i64] true (fun x=>uM x.1 x.2.1 x.2.2)
theorem SQ:bW PG 251 Fp:=okN [(161,qW),(116,iO),(190,qX)] [] ⟨zY,kH,Am,trivial⟩ fun x=>by kernel_rfl
def AB (x0:aX) (x1:aG):Option (aX×Int):=af (iF x0) fun y0=>af (cnd (aj (aj y0)) (gQ x1) (some false)) fun y1=>cnd (bor (aj y0) (aj y1)) (some (x0,1)) (af (wR x1) fun y2=>cnd (ieq x1.side 2) (af (qV x1) fun y3=>af (vV x0.sell y3) fun y4=>af (vV x0.opn y2.1) fun y5=>af (cnd (aj (bor (bor (aj (ieq y2.2 0)) (aj (ieq y4.2 0))) (aj (ieq y5.2 0)))) (iF (aX.mk x0.pos x0.buy y4.1 y5.1)) (some false)) fun y6=>cnd (bor (bor (bor (aj (ieq y2.2 0)) (aj (ieq y4.2 0))) (aj (ieq y5.2 0))) (aj y6)) (some (x0,3)) (some (aX.mk x0.pos x0.buy y4.1 y5.1,0))) (af (qV x1) fun y7=>af (vV x0.buy y7) fun y8=>af (vV x0.opn y2.1) fun y9=>af (cnd (aj (bor (bor (aj (ieq y2.2 0)) (aj (ieq y8.2 0))) (aj (ieq y9.2 0)))) (iF (aX.mk x0.pos y8.1 x0.sell y9.1)) (some false)) fun y10=>cnd (bor (bor (bor (aj (ieq y2.2 0)) (aj (ieq y8.2 0))) (aj (ieq y9.2 0))) (aj y10)) (some (x0,3)) (some (aX.mk x0.pos y8.1 x0.sell y9.1,0))))
def PI:aH:=mkSpec [.val .cell,.val .order] [.val .cell,.int .i64] true (fun x=>AB x.1 x.2)
theorem abf:bW PG 252 PI:=okN [(178,oC),(116,iO),(326,Ai),(327,BX),(302,CW)] [298] ⟨wY,kH,Kr,MQ,OA,trivial⟩ fun x=>by kernel_rfl
def BF (x0:aG):Option (aG×Int):=af (gQ x0) fun y0=>cnd (aj y0) (some (x0,1)) (cnd (ieq x0.phase 3) (cnd (ieq x0.phase 3) (some (x0,8)) (some (aG.mk x0.id x0.account x0.symbol x0.side x0.qty x0.price x0.filled x0.phase x0.newQty x0.newPrice x0.version true,0))) (cnd x0.asked (some (x0,8)) (some (aG.mk x0.id x0.account x0.symbol x0.side x0.qty x0.price x0.filled x0.phase x0.newQty x0.newPrice x0.version true,0))))
def J9:aH:=mkSpec [.val .order] [.val .order,.int .i64] true (fun x=>BF x)
theorem YZ:bW PG 253 J9:=okN [(116,iO)] [] ⟨kH,trivial⟩ fun x=>by kernel_rfl
def xw (x0:aG):Option (aG):=some (aG.mk x0.id x0.account x0.symbol x0.side x0.qty x0.price x0.filled x0.phase 0 0 x0.version x0.asked)
def xQ:aH:=mkSpec [.val .order] [.val .order] true (fun x=>xw x)
theorem GZ:bW PG 330 xQ:=okN [] [] trivial fun x=>by kernel_rfl
def yU (x0:aG):Option (aG):=af (xw (aG.mk x0.id x0.account x0.symbol x0.side x0.qty x0.price x0.filled 3 x0.newQty x0.newPrice x0.version x0.asked)) fun y0=>some y0
def Ce:aH:=mkSpec [.val .order] [.val .order] true (fun x=>yU x)
theorem Nj:bW PG 329 Ce:=okN [(330,xQ)] [] ⟨GZ,trivial⟩ fun x=>by kernel_rfl
def CX (x0:aG) (x1:fE):Option (aG×Bool):=cnd (ieq x1.what 1) (some (aG.mk x0.id x0.account x0.symbol x0.side x0.qty x0.price x0.filled 2 x0.newQty x0.newPrice x0.version x0.asked,true)) (cnd (ieq x1.what 2) (af (yU x0) fun y0=>some (y0,true)) (some (x0,false)))
def Jj:aH:=mkSpec [.val .order,.val .note] [.val .order,.bool] true (fun x=>CX x.1 x.2)
theorem VW:bW PG 303 Jj:=okN [(329,Ce)] [] ⟨Nj,trivial⟩ fun x=>by kernel_rfl
def Dn (x0:aG) (x1:fE):Option (aG×Bool):=cnd (ieq x1.what 3) (cnd (ilt (wr .i64 (aA x0.qty x0.filled)) x1.qty) (some (x0,false)) (cnd (ilt (wr .i64 (ai x0.filled x1.qty)) x0.qty) (some (aG.mk x0.id x0.account x0.symbol x0.side x0.qty x0.price (wr .i64 (ai x0.filled x1.qty)) x0.phase x0.newQty x0.newPrice x0.version x0.asked,true)) (af (yU (aG.mk x0.id x0.account x0.symbol x0.side x0.qty x0.price (wr .i64 (ai x0.filled x1.qty)) x0.phase x0.newQty x0.newPrice x0.version x0.asked)) fun y0=>some (y0,true)))) (cnd (ieq x1.what 4) (af (yU x0) fun y1=>some (y1,true)) (cnd (ieq x1.what 5) (af (iK x0) fun y2=>cnd (bor (bor (bor (aj y2) (aj (ieq x1.qty x0.newQty))) (aj (ieq x1.price x0.newPrice))) (ile x1.qty x0.filled)) (some (x0,false)) (af (xw (aG.mk x0.id x0.account x0.symbol x0.side x1.qty x1.price x0.filled x0.phase x0.newQty x0.newPrice x0.version x0.asked)) fun y3=>some (y3,true))) (cnd (ieq x1.what 6) (af (xw x0) fun y4=>af (iK x0) fun y5=>some (y4,y5)) (some (x0,false)))))
def Jh:aH:=mkSpec [.val .order,.val .note] [.val .order,.bool] true (fun x=>Dn x.1 x.2)
theorem V5:bW PG 304 Jh:=okN [(329,Ce),(190,qX),(330,xQ)] [] ⟨Nj,Am,GZ,trivial⟩ fun x=>by kernel_rfl
def zA (x0:aG) (x1:fE):Option (aG×Int):=af (gQ x0) fun y0=>af (cnd (aj (aj y0)) (mP x1) (some (iT.mk 0 0 0 0 0 0 0 0 0 0 false 0 0))) fun y1=>af (cnd (aj (aj y0)) (lQ y1) (some false)) fun y2=>cnd (bor (bor (aj y0) (aj y2)) (aj (ieq x1.order x0.id))) (some (x0,1)) (cnd (ieq x0.phase 1) (af (CX x0 x1) fun y3=>cnd (aj y3.2) (some (x0,8)) (some (y3.1,0))) (cnd (ieq x0.phase 2) (af (Dn x0 x1) fun y4=>cnd (aj y4.2) (some (x0,8)) (some (y4.1,0))) (some (x0,8))))
def Jd:aH:=mkSpec [.val .order,.val .note] [.val .order,.int .i64] true (fun x=>zA x.1 x.2)
theorem V9:bW PG 254 Jd:=okN [(116,iO),(29,xB),(40,lT),(303,Jj),(304,Jh)] [] ⟨kH,FO,rC,VW,V5,trivial⟩ fun x=>by kernel_rfl
def Ef (x0:aX) (x1:Int) (x2:Int):Option (aX×Int):=af (iF x0) fun y0=>cnd (bor (bor (aj y0) (band (aj (ieq x1 1)) (aj (ieq x1 2)))) (ilt x2 0)) (some (x0,1)) (cnd (ieq x1 1) (af (nI x0.pos x2) fun y1=>af (cnd (aj (aj (ieq y1.2 0))) (iF (aX.mk y1.1 x0.buy x0.sell x0.opn)) (some false)) fun y2=>cnd (bor (aj (ieq y1.2 0)) (aj y2)) (some (x0,3)) (some (aX.mk y1.1 x0.buy x0.sell x0.opn,0))) (af (vV x0.pos x2) fun y3=>af (cnd (aj (aj (ieq y3.2 0))) (iF (aX.mk y3.1 x0.buy x0.sell x0.opn)) (some false)) fun y4=>cnd (bor (aj (ieq y3.2 0)) (aj y4)) (some (x0,3)) (some (aX.mk y3.1 x0.buy x0.sell x0.opn,0))))
def MX:aH:=mkSpec [.val .cell,.int .i64,.int .i64] [.val .cell,.int .i64] true (fun x=>Ef x.1 x.2.1 x.2.2)
theorem aaF:bW PG 255 MX:=okN [(178,oC),(161,qW),(302,CW)] [] ⟨wY,zY,OA,trivial⟩ fun x=>by kernel_rfl
def gm (x0:(List aG)) (x1:Int) (x2:Int):Option ((List aG)):=cnd (band (band (band (ile 0 x1) (ile x1 x2)) (ile x2 (len x0))) (band (ile x2 (len x0)) (ile (len x0) (len x0)))) (cnd (ieq x1 x2) (some x0) (cnd (band (ile 0 x1) (ile x1 (len x0))) (cnd (band (ile 0 x2) (ile x2 (len x0))) (cnd (ile (ai (nti (itn x1)) (len (ay (aF x0 (itn x2)) (itn (aA (len x0) x2))))) (len x0)) (cnd (band (band (ile 0 (nti (nad (itn x1) (itn (len (ay (aF x0 (itn x2)) (itn (aA (len x0) x2)))))))) (ile (nti (nad (itn x1) (itn (len (ay (aF x0 (itn x2)) (itn (aA (len x0) x2))))))) (len x0))) (ile (len x0) (aA (len (dY x0 (itn x1) (ay (aF x0 (itn x2)) (itn (aA (len x0) x2))))) 0))) (some (ay (aF (dY (dY x0 (itn x1) (ay (aF x0 (itn x2)) (itn (aA (len x0) x2)))) (nad 0 (itn (nti (nad (itn x1) (itn (len (ay (aF x0 (itn x2)) (itn (aA (len x0) x2))))))))) (jJ aG (itn (aA (len x0) (nti (nad (itn x1) (itn (len (ay (aF x0 (itn x2)) (itn (aA (len x0) x2))))))))))) 0) (nad (itn x1) (itn (len (ay (aF x0 (itn x2)) (itn (aA (len x0) x2)))))))) none) none) none) none)) none
def rU:aH:=mkSpec [.buf .order,.int .i64,.int .i64] [.ro .order] false (fun x=>gm x.1 x.2.1 x.2.2)
theorem Em:bW PG 256 rU:=okN [] [] trivial fun x=>by kernel_rfl
def xY (x0:aC) (x1:iT):Option (aC×Int):=af (nI x0.lsn 1) fun y0=>af (cnd (aj (bor (aj (ieq y0.2 0)) (ile 1000000000 x0.lsn))) (lQ x1) (some false)) fun y1=>af (cnd (aj (bor (bor (aj (ieq y0.2 0)) (ile 1000000000 x0.lsn)) (aj y1))) (mQ x0) (some false)) fun y2=>cnd (bor (bor (bor (aj (ieq y0.2 0)) (ile 1000000000 x0.lsn)) (aj y1)) (aj y2)) (some (x0,1)) (af (eG x0.orders) fun y3=>af (fB x0.cells) fun y4=>af (fA x0.limits) fun y5=>af (gG x0.caps) fun y6=>cnd (ieq x1.kind 1) (af (wW x1) fun y7=>cnd (ile x1.order x0.last) (cnd (ile x1.order x0.last) (some (x0,1)) (cnd x0.kill (some (x0,5)) (cnd (ieq (len y3) 64) (some (x0,6)) (af (eG y3) fun y8=>af (fB y4) fun y9=>af (fA y5) fun y10=>af (gG y6) fun y11=>af (bf (aC.mk x0.accounts x0.symbols y3 y4 y5 y6 x0.kill x0.last x0.seq x0.lsn) y7.1.account y7.1.symbol) fun y12=>cnd (band (ile 0 y12) (ilt y12 (len y4))) (af (jC (ah y4 (itn y12)) y7.1) fun y13=>cnd (aj (ieq y13.2 0)) (some (x0,3)) (cnd (ile (len (dm y3 [y7.1])) 68719476736) (af (dQ (aC.mk x0.accounts x0.symbols (dm y3 [y7.1]) (aZ y4 (itn y12) y13.1) y5 y6 x0.kill y7.1.id x0.seq x0.lsn) (aC.mk x0.accounts x0.symbols y8 y9 y10 y11 x0.kill x0.last x0.seq x0.lsn) y7.1.account y7.1.symbol) fun y14=>cnd (aj (ieq y14 0)) (some (x0,y14)) (some (aC.mk x0.accounts x0.symbols (dm y3 [y7.1]) (aZ y4 (itn y12) y13.1) y5 y6 x0.kill y7.1.id x0.seq (wr .i64 (ai x0.lsn 1)),0))) none)) none)))) (cnd (ile x0.accounts x1.account) (cnd (ile x0.accounts x1.account) (some (x0,1)) (cnd x0.kill (some (x0,5)) (cnd (ieq (len y3) 64) (some (x0,6)) (af (eG y3) fun y15=>af (fB y4) fun y16=>af (fA y5) fun y17=>af (gG y6) fun y18=>af (bf (aC.mk x0.accounts x0.symbols y3 y4 y5 y6 x0.kill x0.last x0.seq x0.lsn) y7.1.account y7.1.symbol) fun y19=>cnd (band (ile 0 y19) (ilt y19 (len y4))) (af (jC (ah y4 (itn y19)) y7.1) fun y20=>cnd (aj (ieq y20.2 0)) (some (x0,3)) (cnd (ile (len (dm y3 [y7.1])) 68719476736) (af (dQ (aC.mk x0.accounts x0.symbols (dm y3 [y7.1]) (aZ y4 (itn y19) y20.1) y5 y6 x0.kill y7.1.id x0.seq x0.lsn) (aC.mk x0.accounts x0.symbols y15 y16 y17 y18 x0.kill x0.last x0.seq x0.lsn) y7.1.account y7.1.symbol) fun y21=>cnd (aj (ieq y21 0)) (some (x0,y21)) (some (aC.mk x0.accounts x0.symbols (dm y3 [y7.1]) (aZ y4 (itn y19) y20.1) y5 y6 x0.kill y7.1.id x0.seq (wr .i64 (ai x0.lsn 1)),0))) none)) none)))) (cnd (ile x0.symbols x1.symbol) (some (x0,1)) (cnd x0.kill (some (x0,5)) (cnd (ieq (len y3) 64) (some (x0,6)) (af (eG y3) fun y22=>af (fB y4) fun y23=>af (fA y5) fun y24=>af (gG y6) fun y25=>af (bf (aC.mk x0.accounts x0.symbols y3 y4 y5 y6 x0.kill x0.last x0.seq x0.lsn) y7.1.account y7.1.symbol) fun y26=>cnd (band (ile 0 y26) (ilt y26 (len y4))) (af (jC (ah y4 (itn y26)) y7.1) fun y27=>cnd (aj (ieq y27.2 0)) (some (x0,3)) (cnd (ile (len (dm y3 [y7.1])) 68719476736) (af (dQ (aC.mk x0.accounts x0.symbols (dm y3 [y7.1]) (aZ y4 (itn y26) y27.1) y5 y6 x0.kill y7.1.id x0.seq x0.lsn) (aC.mk x0.accounts x0.symbols y22 y23 y24 y25 x0.kill x0.last x0.seq x0.lsn) y7.1.account y7.1.symbol) fun y28=>cnd (aj (ieq y28 0)) (some (x0,y28)) (some (aC.mk x0.accounts x0.symbols (dm y3 [y7.1]) (aZ y4 (itn y26) y27.1) y5 y6 x0.kill y7.1.id x0.seq (wr .i64 (ai x0.lsn 1)),0))) none)) none)))))) (cnd (ieq x1.kind 2) (af (lN (aC.mk x0.accounts x0.symbols y3 y4 y5 y6 x0.kill x0.last x0.seq x0.lsn) x1.order) fun y29=>cnd (ieq y29 (-1)) (some (x0,7)) (cnd (band (ile 0 y29) (ilt y29 (len y3))) (af (uM (ah y3 (itn y29)) x1.qty x1.price) fun y30=>cnd (aj (ieq y30.2 0)) (some (x0,8)) (cnd x0.kill (some (x0,5)) (af (eG y3) fun y31=>af (fB y4) fun y32=>af (fA y5) fun y33=>af (gG y6) fun y34=>af (bf (aC.mk x0.accounts x0.symbols y3 y4 y5 y6 x0.kill x0.last x0.seq x0.lsn) (ah y3 (itn y29)).account (ah y3 (itn y29)).symbol) fun y35=>cnd (band (ile 0 y35) (ilt y35 (len y4))) (af (AB (ah y4 (itn y35)) (ah y3 (itn y29))) fun y36=>af (jC y36.1 y30.1) fun y37=>cnd (aj (ieq y37.2 0)) (some (x0,3)) (cnd (band (ile 0 y29) (ilt y29 (len y3))) (af (dQ (aC.mk x0.accounts x0.symbols (aZ y3 (itn y29) y30.1) (aZ y4 (itn y35) y37.1) y5 y6 x0.kill x0.last x0.seq x0.lsn) (aC.mk x0.accounts x0.symbols y31 y32 y33 y34 x0.kill x0.last x0.seq x0.lsn) (ah y3 (itn y29)).account (ah y3 (itn y29)).symbol) fun y38=>cnd (aj (ieq y38 0)) (some (x0,y38)) (some (aC.mk x0.accounts x0.symbols (aZ y3 (itn y29) y30.1) (aZ y4 (itn y35) y37.1) y5 y6 x0.kill x0.last x0.seq (wr .i64 (ai x0.lsn 1)),0))) none)) none))) none)) (cnd (ieq x1.kind 3) (af (lN (aC.mk x0.accounts x0.symbols y3 y4 y5 y6 x0.kill x0.last x0.seq x0.lsn) x1.order) fun y39=>cnd (ieq y39 (-1)) (some (x0,7)) (cnd (band (ile 0 y39) (ilt y39 (len y3))) (af (BF (ah y3 (itn y39))) fun y40=>cnd (band (ile 0 y39) (ilt y39 (len y3))) (cnd (aj (ieq y40.2 0)) (some (x0,y40.2)) (some (aC.mk x0.accounts x0.symbols (aZ y3 (itn y39) y40.1) y4 y5 y6 x0.kill x0.last x0.seq (wr .i64 (ai x0.lsn 1)),0))) none) none)) (cnd (ieq x1.kind 4) (cnd (ile x0.accounts x1.account) (cnd (ile x0.accounts x1.account) (some (x0,1)) (cnd (ieq x1.symbol (-1)) (cnd (band (ile 0 x1.account) (ilt x1.account (len y6))) (some (aC.mk x0.accounts x0.symbols y3 y4 y5 (aZ y6 (itn x1.account) x1.opn) x0.kill x0.last x0.seq (wr .i64 (ai x0.lsn 1)),0)) none) (af (bf (aC.mk x0.accounts x0.symbols y3 y4 y5 y6 x0.kill x0.last x0.seq x0.lsn) x1.account x1.symbol) fun y41=>cnd (band (ile 0 y41) (ilt y41 (len y5))) (some (aC.mk x0.accounts x0.symbols y3 y4 (aZ y5 (itn y41) (jm.mk x1.long x1.short x1.opn)) y6 x0.kill x0.last x0.seq (wr .i64 (ai x0.lsn 1)),0)) none))) (cnd (ile x0.symbols x1.symbol) (some (x0,1)) (cnd (ieq x1.symbol (-1)) (cnd (band (ile 0 x1.account) (ilt x1.account (len y6))) (some (aC.mk x0.accounts x0.symbols y3 y4 y5 (aZ y6 (itn x1.account) x1.opn) x0.kill x0.last x0.seq (wr .i64 (ai x0.lsn 1)),0)) none) (af (bf (aC.mk x0.accounts x0.symbols y3 y4 y5 y6 x0.kill x0.last x0.seq x0.lsn) x1.account x1.symbol) fun y42=>cnd (band (ile 0 y42) (ilt y42 (len y5))) (some (aC.mk x0.accounts x0.symbols y3 y4 (aZ y5 (itn y42) (jm.mk x1.long x1.short x1.opn)) y6 x0.kill x0.last x0.seq (wr .i64 (ai x0.lsn 1)),0)) none)))) (cnd (ieq x1.kind 5) (some (aC.mk x0.accounts x0.symbols y3 y4 y5 y6 x1.on x0.last x0.seq (wr .i64 (ai x0.lsn 1)),0)) (cnd (aj (ieq x1.seq (wr .i64 (ai x0.seq 1)))) (some (x0,11)) (af (lN (aC.mk x0.accounts x0.symbols y3 y4 y5 y6 x0.kill x0.last x1.seq x0.lsn) x1.order) fun y43=>cnd (ieq y43 (-1)) (some (aC.mk x0.accounts x0.symbols y3 y4 y5 y6 x0.kill x0.last x1.seq (wr .i64 (ai x0.lsn 1)),0)) (cnd (band (ile 0 y43) (ilt y43 (len y3))) (af (zA (ah y3 (itn y43)) (fE.mk x1.seq x1.what x1.order x1.qty x1.price)) fun y44=>cnd (aj (ieq y44.2 0)) (some (aC.mk x0.accounts x0.symbols y3 y4 y5 y6 x0.kill x0.last x1.seq (wr .i64 (ai x0.lsn 1)),0)) (af (bf (aC.mk x0.accounts x0.symbols y3 y4 y5 y6 x0.kill x0.last x1.seq x0.lsn) (ah y3 (itn y43)).account (ah y3 (itn y43)).symbol) fun y45=>cnd (band (ile 0 y45) (ilt y45 (len y4))) (af (AB (ah y4 (itn y45)) (ah y3 (itn y43))) fun y46=>af (jC (ah (aZ y4 (itn y45) y46.1) (itn y45)) y44.1) fun y47=>cnd (ieq x1.what 3) (af (Ef (ah (aZ (aZ y4 (itn y45) y46.1) (itn y45) y47.1) (itn y45)) (ah y3 (itn y43)).side x1.qty) fun y48=>cnd (band (ile 0 y43) (ilt y43 (len y3))) (cnd (ieq y44.1.phase 3) (af (gm (aZ y3 (itn y43) y44.1) y43 (wr .i64 (ai y43 1))) fun y49=>some (aC.mk x0.accounts x0.symbols y49 (aZ (aZ (aZ y4 (itn y45) y46.1) (itn y45) y47.1) (itn y45) y48.1) y5 y6 x0.kill x0.last x1.seq (wr .i64 (ai x0.lsn 1)),0)) (some (aC.mk x0.accounts x0.symbols (aZ y3 (itn y43) y44.1) (aZ (aZ (aZ y4 (itn y45) y46.1) (itn y45) y47.1) (itn y45) y48.1) y5 y6 x0.kill x0.last x1.seq (wr .i64 (ai x0.lsn 1)),0))) none) (cnd (band (ile 0 y43) (ilt y43 (len y3))) (cnd (ieq y44.1.phase 3) (af (gm (aZ y3 (itn y43) y44.1) y43 (wr .i64 (ai y43 1))) fun y50=>some (aC.mk x0.accounts x0.symbols y50 (aZ (aZ y4 (itn y45) y46.1) (itn y45) y47.1) y5 y6 x0.kill x0.last x1.seq (wr .i64 (ai x0.lsn 1)),0)) (some (aC.mk x0.accounts x0.symbols (aZ y3 (itn y43) y44.1) (aZ (aZ y4 (itn y45) y46.1) (itn y45) y47.1) y5 y6 x0.kill x0.last x1.seq (wr .i64 (ai x0.lsn 1)),0))) none)) none)) none))))))))
def Iw:aH:=mkSpec [.val .state,.val .recd] [.val .state,.int .i64] false (fun x=>xY x.1 x.2)
theorem Uy:bW PG 79 Iw:=okN [(161,qW),(40,lT),(37,rF),(243,sO),(244,uT),(245,uG),(246,yj),(247,He),(248,lU),(249,D5),(250,zF),(56,D8),(251,Fp),(252,PI),(253,J9),(254,Jd),(255,MX),(256,rU)] [162,163,164,165,166,167] ⟨zY,rC,Bc,ED,FX,FY,Jv,UY,sG,PN,KR,PZ,SQ,abf,YZ,V9,aaF,Em,trivial⟩ fun x=>by kernel_rfl
def Ei (x0:iT):Option (SA6×Int):=af (lQ x0) fun y0=>cnd (aj y0) (some (SA6.mk 0 0 0 0 0 0,1)) (cnd (ieq x0.kind 1) (some (SA6.mk x0.order x0.account x0.symbol x0.side x0.qty x0.price,0)) (cnd (ieq x0.kind 4) (some (SA6.mk x0.account x0.symbol x0.long x0.short x0.opn 0,0)) (cnd (ieq x0.kind 5) (cnd x0.on (some (SA6.mk 1 0 0 0 0 0,0)) (some (SA6.mk 0 0 0 0 0 0,0))) (cnd (ieq x0.kind 6) (some (SA6.mk x0.seq x0.what x0.order x0.qty x0.price 0,0)) (some (SA6.mk x0.order x0.qty x0.price 0 0 0,0))))))
def MW:aH:=mkSpec [.val .recd] [.val .a6,.int .i64] true (fun x=>Ei x)
theorem aal:bW PG 112 MW:=okN [(40,lT)] [] ⟨rC,trivial⟩ fun x=>by kernel_rfl
def bU (x0:(List eX)):Option ((List eX)):=JH (len x0) fun y0=>cnd (beq y0 true) (some []) (cnd (ile (len x0) 68719476736) (some x0) none)
def mY:aH:=mkSpec [.ro .frame] [.buf .frame] true (fun x=>bU x)
theorem vY:bW PG 189 mY:=okN [] [] trivial fun x=>by kernel_rfl
def Du (x0:dU) (x1:Int) (x2:SA6):Option (dU×Int):=af (qK x0) fun y0=>cnd (aj y0) (cnd (aj y0) (some (x0,1)) (cnd (ilt 1000000000 x0.next) (some (x0,3)) (cnd (ieq (len x0.wait) 32) (some (x0,6)) (af (bU x0.wait) fun y1=>cnd (ile (len (dm y1 [eX.mk x0.epoch x0.next x1 x2.a0 x2.a1 x2.a2 x2.a3 x2.a4 x2.a5])) 68719476736) (some (dU.mk x0.epoch (wr .i64 (ai x0.next 1)) x0.sure x0.seg x0.count (dm y1 [eX.mk x0.epoch x0.next x1 x2.a0 x2.a1 x2.a2 x2.a3 x2.a4 x2.a5]),0)) none)))) (cnd (ilt x1 1) (cnd (ilt x1 1) (some (x0,1)) (cnd (ilt 1000000000 x0.next) (some (x0,3)) (cnd (ieq (len x0.wait) 32) (some (x0,6)) (af (bU x0.wait) fun y2=>cnd (ile (len (dm y2 [eX.mk x0.epoch x0.next x1 x2.a0 x2.a1 x2.a2 x2.a3 x2.a4 x2.a5])) 68719476736) (some (dU.mk x0.epoch (wr .i64 (ai x0.next 1)) x0.sure x0.seg x0.count (dm y2 [eX.mk x0.epoch x0.next x1 x2.a0 x2.a1 x2.a2 x2.a3 x2.a4 x2.a5]),0)) none)))) (cnd (ilt 6 x1) (some (x0,1)) (cnd (ilt 1000000000 x0.next) (some (x0,3)) (cnd (ieq (len x0.wait) 32) (some (x0,6)) (af (bU x0.wait) fun y3=>cnd (ile (len (dm y3 [eX.mk x0.epoch x0.next x1 x2.a0 x2.a1 x2.a2 x2.a3 x2.a4 x2.a5])) 68719476736) (some (dU.mk x0.epoch (wr .i64 (ai x0.next 1)) x0.sure x0.seg x0.count (dm y3 [eX.mk x0.epoch x0.next x1 x2.a0 x2.a1 x2.a2 x2.a3 x2.a4 x2.a5]),0)) none)))))
def Pz:aH:=mkSpec [.val .wal,.int .i64,.val .a6] [.val .wal,.int .i64] false (fun x=>Du x.1 x.2.1 x.2.2)
theorem ab2:bW PG 113 Pz:=okN [(38,zn),(189,mY)] [] ⟨IL,vY,trivial⟩ fun x=>by kernel_rfl
def oJ (x0:aW) (x1:iT):Option (aW×Int):=af (xY x0.state x1) fun y0=>cnd (aj (ieq y0.2 0)) (some (x0,y0.2)) (af (Ei x1) fun y1=>af (Du x0.wal x1.kind y1.1) fun y2=>cnd (aj (ieq y2.2 0)) (some (x0,y2.2)) (some (aW.mk x0.disk y2.1 y0.1 x0.outbox x0.feed x0.gen x0.up,0)))
def xu:aH:=mkSpec [.val .gate,.val .recd] [.val .gate,.int .i64] false (fun x=>oJ x.1 x.2)
theorem F9:bW PG 55 xu:=okN [(79,Iw),(112,MW),(113,Pz)] [] ⟨Uy,aal,ab2,trivial⟩ fun x=>by kernel_rfl
def dM (x0:(List jw)):Option ((List jw)):=JH (len x0) fun y0=>cnd (beq y0 true) (some []) (cnd (ile (len x0) 68719476736) (some x0) none)
def nZ:aH:=mkSpec [.ro .msg] [.buf .msg] true (fun x=>dM x)
theorem yc:bW PG 57 nZ:=okN [] [] trivial fun x=>by kernel_rfl
def o7 (x0:Int) (x1:aG) (x2:Int):Option (jw):=cnd (ieq x0 1) (af (gQ x1) fun y0=>af (cnd (aj (aj y0)) (jX (jw.mk x0 x1.id x1.account x1.symbol x1.side x1.qty x1.price 0 x2)) (some false)) fun y1=>cnd (bor (aj y0) (aj y1)) (some (jw.mk 0 0 0 0 0 0 0 0 0)) (some (jw.mk x0 x1.id x1.account x1.symbol x1.side x1.qty x1.price 0 x2))) (cnd (ieq x0 2) (af (gQ x1) fun y2=>af (cnd (aj (aj y2)) (jX (jw.mk x0 x1.id x1.account x1.symbol x1.side x1.newQty x1.newPrice x1.version x2)) (some false)) fun y3=>cnd (bor (aj y2) (aj y3)) (some (jw.mk 0 0 0 0 0 0 0 0 0)) (some (jw.mk x0 x1.id x1.account x1.symbol x1.side x1.newQty x1.newPrice x1.version x2))) (af (gQ x1) fun y4=>af (cnd (aj (aj y4)) (jX (jw.mk x0 x1.id x1.account x1.symbol x1.side 0 0 0 x2)) (some false)) fun y5=>cnd (bor (aj y4) (aj y5)) (some (jw.mk 0 0 0 0 0 0 0 0 0)) (some (jw.mk x0 x1.id x1.account x1.symbol x1.side 0 0 0 x2))))
def KT:aH:=mkSpec [.int .i64,.val .order,.int .i64] [.val .msg] true (fun x=>o7 x.1 x.2.1 x.2.2)
theorem YA:bW PG 58 KT:=okN [(116,iO),(100,wH)] [] ⟨kH,Fa,trivial⟩ fun x=>by kernel_rfl
def pK (x0:aW) (x1:iT):Option (aW×Int):=af (mM x0) fun y0=>cnd (aj (ieq y0 0)) (some (x0,y0)) (cnd (bor (ilt x1.kind 1) (ilt 3 x1.kind)) (some (x0,1)) (af (oJ x0 x1) fun y1=>cnd (aj (ieq y1.2 0)) (some (x0,y1.2)) (af (lN y1.1.state x1.order) fun y2=>cnd (band (ile 0 y2) (ilt y2 (len y1.1.state.orders))) (af (dM x0.outbox) fun y3=>af (o7 x1.kind (ah y1.1.state.orders (itn y2)) y1.1.state.lsn) fun y4=>cnd (ile (len (dm y3 [y4])) 68719476736) (some (aW.mk y1.1.disk y1.1.wal y1.1.state (dm y3 [y4]) y1.1.feed y1.1.gen y1.1.up,0)) none) none)))
def zW:aH:=mkSpec [.val .gate,.val .recd] [.val .gate,.int .i64] false (fun x=>pK x.1 x.2)
theorem KW:bW PG 12 zW:=okN [(54,rG),(55,xu),(56,D8),(57,nZ),(58,KT)] [4095] ⟨AP,F9,PZ,yc,YA,trivial⟩ fun x=>by kernel_rfl
def A8 (v0:Int) (v1:Int):Option ((Int×Int) ⊕ ((Int))):=cnd (ilt v0 4) (cnd (ieq (wr .u32 (mr .u32 v1 1)) 1) (some (Sum.inl (wr .i64 (ai v0 1),wr .u32 (gY .u32 (bQ .u32 v1 1) 3988292384)))) (some (Sum.inl (wr .i64 (ai v0 1),bQ .u32 v1 1)))) (some (Sum.inr v1))
def UN:dV:=LSh.spec ⟨67,[],[],[],[(4,.int .i64),(0,.int .u32)],[],[]⟩ [⟨.exit 0,[(0,.int .u32)],[],[]⟩] (sP [(0,1),(3,12)]) (fun p v=>A8 v.1 v.2)
def cO (x0:Int):Option (Int):=af (bD (fun v=>A8 v.1 v.2) LF (0,x0)) fun y0=>some y0
def Gs:aH:=mkSpec [.int .u32] [.int .u32] true (fun x=>cO x)
theorem RX:bW PG 310 Gs:=okP [] [] [(310,26,UN)] trivial (fun K=>⟨kz K fun p v=>by kernel_rfl,trivial⟩) fun x=>by kernel_rfl
def Bf (p0:Int) (p1:(List Int)) (v0:Int) (v1:Int):Option ((Int×Int) ⊕ ((Int))):=cnd (ilt v0 p0) (cnd (band (ile 0 v0) (ilt v0 (len p1))) (af (cO (wr .u32 (mr .u32 (wr .u32 (gY .u32 v1 (wr .u32 (ah p1 (itn v0))))) 15))) fun y0=>af (cO (wr .u32 (mr .u32 (wr .u32 (gY .u32 y0 (bQ .u32 (wr .u32 (gY .u32 v1 (wr .u32 (ah p1 (itn v0))))) 4))) 15))) fun y1=>some (Sum.inl (wr .i64 (ai v0 1),wr .u32 (gY .u32 y1 (bQ .u32 (wr .u32 (gY .u32 y0 (bQ .u32 (wr .u32 (gY .u32 v1 (wr .u32 (ah p1 (itn v0))))) 4))) 4))))) none) (some (Sum.inr v1))
def Vp:dV:=LSh.spec ⟨73,[(11,.int .i64),(10,.ro .u8)],[],[],[(12,.int .i64),(5,.int .u32)],[],[]⟩ [⟨.exit 0,[(5,.int .u32)],[],[]⟩] (sP [(5,1),(7,1),(12,21)]) (fun p v=>Bf p.1 p.2 v.1 v.2)
def Oe (x0:Int) (x1:(List Int)):Option (Int):=af (bD (fun v=>Bf (len x1) x1 v.1 v.2) LF (0,wr .u32 (gY .u32 4294967295 x0))) fun y0=>some (wr .u32 (gY .u32 4294967295 y0))
def Ns:aH:=mkSpec [.int .u32,.ro .u8] [.int .u32] true (fun x=>Oe x.1 x.2)
theorem aaY:bW PG 277 Ns:=okP [(310,Gs)] [] [(277,58,Vp)] ⟨RX,trivial⟩ (fun K=>⟨kz K fun p v=>by kernel_rfl,trivial⟩) fun x=>by kernel_rfl
def Hg (x0:(List Int)):Option (Int):=af (Oe 0 x0) fun y0=>some y0
def IA:aH:=mkSpec [.ro .u8] [.int .u32] true (fun x=>Hg x)
theorem U6:bW PG 211 IA:=okN [(277,Ns)] [] ⟨aaY,trivial⟩ fun x=>by kernel_rfl
def aN (p0:Int) (v0:Int) (v1:(List Int)):Option ((Int×(List Int)) ⊕ (((List Int)))):=cnd (ile 0 v0) (cnd (ile 0 (wr .i64 (fQ 8 v0))) (cnd (ile (len (dm v1 [wr .u8 (bQ .u64 p0 (wr .i64 (fQ 8 v0)))])) 68719476736) (some (Sum.inl (wr .i64 (aA v0 1),dm v1 [wr .u8 (bQ .u64 p0 (wr .i64 (fQ 8 v0)))]))) none) none) (some (Sum.inr v1))
def vX:dV:=LSh.spec ⟨76,[(1,.int .u64)],[(0,.mp 56 0)],[],[(6,.int .i64)],[(56,[.buf .u8])],[]⟩ [⟨.exit 0,[],[(56,[.buf .u8])],[]⟩] (sP [(6,1),(9,16)]) (fun p v=>aN p v.1 v.2)
def jv (p0:Int) (v0:Int) (v1:(List Int)):Option ((Int×(List Int)) ⊕ (((List Int)))):=cnd (ile 0 v0) (cnd (ile 0 (wr .i64 (fQ 8 v0))) (cnd (ile (len (dm v1 [wr .u8 (bQ .u64 p0 (wr .i64 (fQ 8 v0)))])) 68719476736) (some (Sum.inl (wr .i64 (aA v0 1),dm v1 [wr .u8 (bQ .u64 p0 (wr .i64 (fQ 8 v0)))]))) none) none) (some (Sum.inr v1))
def uj:dV:=LSh.spec ⟨150,[(1,.int .u64)],[(0,.mp 56 0)],[],[(6,.int .i64)],[(56,[.buf .u8])],[]⟩ [⟨.exit 0,[],[(56,[.buf .u8])],[]⟩] (sP [(6,1),(9,16)]) (fun p v=>jv p v.1 v.2)
def jh (p0:Int) (v0:Int) (v1:(List Int)):Option ((Int×(List Int)) ⊕ (((List Int)))):=cnd (ile 0 v0) (cnd (ile 0 (wr .i64 (fQ 8 v0))) (cnd (ile (len (dm v1 [wr .u8 (bQ .u64 p0 (wr .i64 (fQ 8 v0)))])) 68719476736) (some (Sum.inl (wr .i64 (aA v0 1),dm v1 [wr .u8 (bQ .u64 p0 (wr .i64 (fQ 8 v0)))]))) none) none) (some (Sum.inr v1))
def tJ:dV:=LSh.spec ⟨224,[(1,.int .u64)],[(0,.mp 56 0)],[],[(6,.int .i64)],[(56,[.buf .u8])],[]⟩ [⟨.exit 0,[],[(56,[.buf .u8])],[]⟩] (sP [(6,1),(9,16)]) (fun p v=>jh p v.1 v.2)
def ja (p0:Int) (v0:Int) (v1:(List Int)):Option ((Int×(List Int)) ⊕ (((List Int)))):=cnd (ile 0 v0) (cnd (ile 0 (wr .i64 (fQ 8 v0))) (cnd (ile (len (dm v1 [wr .u8 (bQ .u64 p0 (wr .i64 (fQ 8 v0)))])) 68719476736) (some (Sum.inl (wr .i64 (aA v0 1),dm v1 [wr .u8 (bQ .u64 p0 (wr .i64 (fQ 8 v0)))]))) none) none) (some (Sum.inr v1))
def tN:dV:=LSh.spec ⟨298,[(1,.int .u64)],[(0,.mp 56 0)],[],[(6,.int .i64)],[(56,[.buf .u8])],[]⟩ [⟨.exit 0,[],[(56,[.buf .u8])],[]⟩] (sP [(6,1),(9,16)]) (fun p v=>ja p v.1 v.2)
def iZ (p0:Int) (v0:Int) (v1:(List Int)):Option ((Int×(List Int)) ⊕ (((List Int)))):=cnd (ile 0 v0) (cnd (ile 0 (wr .i64 (fQ 8 v0))) (cnd (ile (len (dm v1 [wr .u8 (bQ .u64 p0 (wr .i64 (fQ 8 v0)))])) 68719476736) (some (Sum.inl (wr .i64 (aA v0 1),dm v1 [wr .u8 (bQ .u64 p0 (wr .i64 (fQ 8 v0)))]))) none) none) (some (Sum.inr v1))
def tK:dV:=LSh.spec ⟨377,[(1,.int .u64)],[(0,.mp 56 0)],[],[(6,.int .i64)],[(56,[.buf .u8])],[]⟩ [⟨.exit 0,[],[(56,[.buf .u8])],[]⟩] (sP [(6,1),(9,16)]) (fun p v=>iZ p v.1 v.2)
def je (p0:Int) (v0:Int) (v1:(List Int)):Option ((Int×(List Int)) ⊕ (((List Int)))):=cnd (ile 0 v0) (cnd (ile 0 (wr .i64 (fQ 8 v0))) (cnd (ile (len (dm v1 [wr .u8 (bQ .u64 p0 (wr .i64 (fQ 8 v0)))])) 68719476736) (some (Sum.inl (wr .i64 (aA v0 1),dm v1 [wr .u8 (bQ .u64 p0 (wr .i64 (fQ 8 v0)))]))) none) none) (some (Sum.inr v1))
def tV:dV:=LSh.spec ⟨455,[(1,.int .u64)],[(0,.mp 56 0)],[],[(6,.int .i64)],[(56,[.buf .u8])],[]⟩ [⟨.exit 0,[],[(56,[.buf .u8])],[]⟩] (sP [(6,1),(9,16)]) (fun p v=>je p v.1 v.2)
def ji (p0:Int) (v0:Int) (v1:(List Int)):Option ((Int×(List Int)) ⊕ (((List Int)))):=cnd (ile 0 v0) (cnd (ile 0 (wr .i64 (fQ 8 v0))) (cnd (ile (len (dm v1 [wr .u8 (bQ .u64 p0 (wr .i64 (fQ 8 v0)))])) 68719476736) (some (Sum.inl (wr .i64 (aA v0 1),dm v1 [wr .u8 (bQ .u64 p0 (wr .i64 (fQ 8 v0)))]))) none) none) (some (Sum.inr v1))
def tH:dV:=LSh.spec ⟨533,[(1,.int .u64)],[(0,.mp 56 0)],[],[(6,.int .i64)],[(56,[.buf .u8])],[]⟩ [⟨.exit 0,[],[(56,[.buf .u8])],[]⟩] (sP [(6,1),(9,16)]) (fun p v=>ji p v.1 v.2)
def jb (p0:Int) (v0:Int) (v1:(List Int)):Option ((Int×(List Int)) ⊕ (((List Int)))):=cnd (ile 0 v0) (cnd (ile 0 (wr .i64 (fQ 8 v0))) (cnd (ile (len (dm v1 [wr .u8 (bQ .u64 p0 (wr .i64 (fQ 8 v0)))])) 68719476736) (some (Sum.inl (wr .i64 (aA v0 1),dm v1 [wr .u8 (bQ .u64 p0 (wr .i64 (fQ 8 v0)))]))) none) none) (some (Sum.inr v1))
def tZ:dV:=LSh.spec ⟨611,[(1,.int .u64)],[(0,.mp 56 0)],[],[(6,.int .i64)],[(56,[.buf .u8])],[]⟩ [⟨.exit 0,[],[(56,[.buf .u8])],[]⟩] (sP [(6,1),(9,16)]) (fun p v=>jb p v.1 v.2)
def jd (p0:Int) (v0:Int) (v1:(List Int)):Option ((Int×(List Int)) ⊕ (((List Int)))):=cnd (ile 0 v0) (cnd (ile 0 (wr .i64 (fQ 8 v0))) (cnd (ile (len (dm v1 [wr .u8 (bQ .u64 p0 (wr .i64 (fQ 8 v0)))])) 68719476736) (some (Sum.inl (wr .i64 (aA v0 1),dm v1 [wr .u8 (bQ .u64 p0 (wr .i64 (fQ 8 v0)))]))) none) none) (some (Sum.inr v1))
def tX:dV:=LSh.spec ⟨689,[(1,.int .u64)],[(0,.mp 56 0)],[],[(6,.int .i64)],[(56,[.buf .u8])],[]⟩ [⟨.exit 0,[],[(56,[.buf .u8])],[]⟩] (sP [(6,1),(9,16)]) (fun p v=>jd p v.1 v.2)
def iY (p0:Int) (v0:Int) (v1:(List Int)):Option ((Int×(List Int)) ⊕ (((List Int)))):=cnd (ile 0 v0) (cnd (ile 0 (wr .i64 (fQ 8 v0))) (cnd (ile (len (dm v1 [wr .u8 (bQ .u64 p0 (wr .i64 (fQ 8 v0)))])) 68719476736) (some (Sum.inl (wr .i64 (aA v0 1),dm v1 [wr .u8 (bQ .u64 p0 (wr .i64 (fQ 8 v0)))]))) none) none) (some (Sum.inr v1))
def tY:dV:=LSh.spec ⟨767,[(1,.int .u64)],[(0,.mp 56 0)],[],[(6,.int .i64)],[(56,[.buf .u8])],[]⟩ [⟨.exit 0,[],[(56,[.buf .u8])],[]⟩] (sP [(6,1),(9,16)]) (fun p v=>iY p v.1 v.2)
def yV (x0:eX):Option ((List Int)×Int):=af (wS x0) fun y0=>cnd (aj y0) (some ([],1)) (af (bD (fun v=>aN 72 v.1 v.2) LF (3,[])) fun y1=>af (bD (fun v=>jv (wr .u64 x0.epoch) v.1 v.2) LF (3,y1)) fun y2=>af (bD (fun v=>jh (wr .u64 x0.lsn) v.1 v.2) LF (7,y2)) fun y3=>af (bD (fun v=>ja (wr .u64 x0.kind) v.1 v.2) LF (3,y3)) fun y4=>af (bD (fun v=>iZ (wr .u64 x0.b0) v.1 v.2) LF (7,y4)) fun y5=>af (bD (fun v=>je (wr .u64 x0.b1) v.1 v.2) LF (7,y5)) fun y6=>af (bD (fun v=>ji (wr .u64 x0.b2) v.1 v.2) LF (7,y6)) fun y7=>af (bD (fun v=>jb (wr .u64 x0.b3) v.1 v.2) LF (7,y7)) fun y8=>af (bD (fun v=>jd (wr .u64 x0.b4) v.1 v.2) LF (7,y8)) fun y9=>af (bD (fun v=>iY (wr .u64 x0.b5) v.1 v.2) LF (7,y9)) fun y10=>af (Hg y10) fun y11=>cnd (ile (len (dm y10 [wr .u8 y11,wr .u8 (bQ .u32 y11 8),wr .u8 (bQ .u32 y11 16),wr .u8 (bQ .u32 y11 24)])) 68719476736) (some (dm y10 [wr .u8 y11,wr .u8 (bQ .u32 y11 8),wr .u8 (bQ .u32 y11 16),wr .u8 (bQ .u32 y11 24)],0)) none)
def Fv:aH:=mkSpec [.val .frame] [.buf .u8,.int .i64] true (fun x=>yV x)
theorem SE:bW PG 269 Fv:=okP [(265,Ak),(211,IA)] [309] [(1155346239797,6,vX),(1155346542901,6,uj),(1155346846005,6,tJ),(1155347149109,6,tN),(1155347472693,6,tK),(1155347792181,6,tV),(1155348111669,6,tH),(1155348431157,6,tZ),(1155348750645,6,tX),(1155349070133,6,tY)] ⟨JL,U6,trivial⟩ (fun K=>⟨kz K fun p v=>by kernel_rfl,kz K fun p v=>by kernel_rfl,kz K fun p v=>by kernel_rfl,kz K fun p v=>by kernel_rfl,kz K fun p v=>by kernel_rfl,kz K fun p v=>by kernel_rfl,kz K fun p v=>by kernel_rfl,kz K fun p v=>by kernel_rfl,kz K fun p v=>by kernel_rfl,kz K fun p v=>by kernel_rfl,trivial⟩) fun x=>by kernel_rfl
def wL (p0:Int) (p1:(List eX)) (v0:Int) (v1:(List Int)) (v2:Int) (v3:(List Int)):Option ((Int×(List Int)×Int×(List Int)) ⊕ ((Int×(List Int)) ⊕ (((List Int)×Int×(List Int))))):=cnd (ilt v0 p0) (cnd (band (ile 0 v0) (ilt v0 (len p1))) (af (yV (ah p1 (itn v0))) fun y0=>cnd (aj (ieq y0.2 0)) (some (Sum.inr (Sum.inl (y0.2,[])))) (cnd (ile (len (dm v1 y0.1)) 68719476736) (some (Sum.inl (wr .i64 (ai v0 1),dm v1 y0.1,v2,v3))) none)) none) (some (Sum.inr (Sum.inr (v1,v2,v3))))
def TL:dV:=LSh.spec ⟨71,[(10,.int .i64),(9,.ro .frame)],[],[],[(11,.int .i64),(4,.buf .u8),(3,.int .i64),(2,.buf .u8)],[],[]⟩ [⟨.ret,[(3,.int .i64),(2,.buf .u8)],[],[]⟩,⟨.exit 0,[(4,.buf .u8),(3,.int .i64),(2,.buf .u8)],[],[]⟩] (sP [(2,3),(6,3),(11,16)]) (fun p v=>wL p.1 p.2 v.1 v.2.1 v.2.2.1 v.2.2.2)
def uO (x0:(List eX)):Option ((List Int)×Int):=af (bD (fun v=>wL (len x0) x0 v.1 v.2.1 v.2.2.1 v.2.2.2) LF (0,[],0,[])) fun y0=>gK y0 (fun y1=>some (y1.2,y1.1)) fun y1=>some (y1.1,0)
def Nz:aH:=mkSpec [.ro .frame] [.buf .u8,.int .i64] true (fun x=>uO x)
theorem Zm:bW PG 196 Nz:=okP [(269,Fv)] [] [(196,58,TL)] ⟨SE,trivial⟩ (fun K=>⟨kz K fun p v=>by kernel_rfl,trivial⟩) fun x=>by kernel_rfl
def uQ (p0:Int) (p1:(List aB)) (v0:Int) (v1:Int):Option ((Int×Int) ⊕ ((Int))):=cnd (ilt v0 p0) (cnd (band (ile 0 v0) (ilt v0 (len p1))) (some (Sum.inl (wr .i64 (ai v0 1),wr .i64 (ai v1 (len (ah p1 (itn v0)).data))))) none) (some (Sum.inr v1))
def Td:dV:=LSh.spec ⟨72,[(8,.int .i64),(7,.ro .file)],[],[],[(9,.int .i64),(3,.int .i64)],[],[]⟩ [⟨.exit 0,[(3,.int .i64)],[],[]⟩] (sP [(3,1),(5,1),(9,10)]) (fun p v=>uQ p.1 p.2 v.1 v.2)
def BK (x0:ax):Option (Int):=af (bD (fun v=>uQ (len x0.files) x0.files v.1 v.2) LF (0,0)) fun y0=>some y0
def JE:aH:=mkSpec [.val .disk] [.int .i64] true (fun x=>BK x)
theorem YV:bW PG 218 JE:=okP [] [] [(218,58,Td)] trivial (fun K=>⟨kz K fun p v=>by kernel_rfl,trivial⟩) fun x=>by kernel_rfl
def bG (x0:(List aB)) (x1:Int) (x2:(List aB)):Option ((List aB)):=match x2 with | [n]=>cnd (band (ile 0 x1) (band (ile x1 (len x0)) (ile (ai (len x0) 1) 68719476736))) (some (dm (ay x0 (itn x1)) (n::aF x0 (itn x1)))) none | _=>none
noncomputable def F7:Cx:={ P:=PG,ety:=ety,fn:=look [],inl:=aiV [],lp:=Oc [] }
def mZ:aH:=FB .file (fun x=>bG x.1 x.2.1 x.2.2)
theorem wo:bW PG 219 mZ:=
 have K:CxR F7:=yL.cx (fun _=>rfl) (l:=[]) trivial
 Xm K 219 (adq PG 219) (adq PG ((Au (adq PG 219)).f 29)) (by kernel_rfl) (by kernel_rfl) (by kernel_rfl) (by kernel_rfl) (by kernel_rfl) (e:= .file) (by kernel_rfl) (by kernel_rfl) (by kernel_rfl) (by kernel_rfl) (by kernel_rfl) (by kernel_rfl) rfl (fun x y h=>by obtain⟨l,k,xs⟩:=x;match xs,h with | [],h=>exact h | [_],h=>exact h | _::_::_,h=>exact h)
def jW (p0:Int) (p1:(List Md)) (v0:Int) (v1:Int):Option ((Int×Int) ⊕ ((Int))):=cnd (ilt v0 p0) (cnd (band (ile 0 v0) (ilt v0 (len p1))) (cnd (ilt (wr .i64 (ai v1 (len (ah p1 (itn v0)).all))) 0) none (some (Sum.inl (wr .i64 (ai v0 1),wr .i64 (ai v1 (len (ah p1 (itn v0)).all)))))) none) (some (Sum.inr v1))
def Gn:dV:=LSh.spec ⟨70,[(10,.int .i64),(9,.ro .bts)],[],[],[(11,.int .i64),(3,.int .i64)],[],[]⟩ [⟨.exit 0,[(3,.int .i64)],[],[]⟩] (sP [(3,1),(5,1),(11,12)]) (fun p v=>jW p.1 p.2 v.1 v.2)
def iM (p0:Int) (p1:(List Md)) (v0:Int) (v1:(List Int)):Option ((Int×(List Int)) ⊕ (((List Int)))):=cnd (ilt v0 p0) (cnd (band (ile 0 v0) (ilt v0 (len p1))) (cnd (ile (len (dm v1 (ah p1 (itn v0)).all)) 68719476736) (some (Sum.inl (wr .i64 (ai v0 1),dm v1 (ah p1 (itn v0)).all))) none) none) (some (Sum.inr v1))
def EF:dV:=LSh.spec ⟨169,[(26,.int .i64),(25,.ro .bts)],[],[],[(27,.int .i64),(6,.buf .u8)],[],[]⟩ [⟨.exit 2,[(6,.buf .u8)],[],[]⟩] (sP [(6,1),(8,1),(27,8)]) (fun p v=>iM p.1 p.2 v.1 v.2)
def jc (x0:(List Md)):Option ((List Int)):=af (bD (fun v=>jW (len x0) x0 v.1 v.2) LF (0,0)) fun y0=>cnd (ilt y0 0) none (cnd (ilt 0 (wr .i64 (aA y0 0))) (cnd (band (ilt 0 (wr .i64 (aA y0 0))) (ile (wr .i64 (aA y0 0)) 68719476736)) (cnd (ile 0 (len (jJ Int (itn (wr .i64 (aA y0 0)))))) (af (bD (fun v=>iM (len x0) x0 v.1 v.2) LF (0,ay (jJ Int (itn (wr .i64 (aA y0 0)))) 0)) fun y1=>some y1) none) none) (af (bD (fun v=>iM (len x0) x0 v.1 v.2) LF (0,[])) fun y2=>some y2))
def xX:aH:=mkSpec [.ro .bts] [.buf .u8] true (fun x=>jc x)
theorem Js:bW PG 220 xX:=okP [] [285] [(220,58,Gn),(220,250,EF)] trivial (fun K=>⟨kz K fun p v=>by kernel_rfl,kz K fun p v=>by kernel_rfl,trivial⟩) fun x=>by kernel_rfl
def iD (x0:ax) (x1:(List UInt8)) (x2:(List Int)):Option (ax×Int):=af (iI x0 [x1]) fun y0=>cnd (aj (ieq y0 0)) (some (x0,y0)) (af (dR x0 x1) fun y1=>af (BK x0) fun y2=>cnd (bor (ilt (wr .i64 (aA x0.room y2)) (len x2)) (band (aj y1.2) (ieq (len x0.files) 64))) (some (x0,6)) (af (aK x0.files) fun y3=>cnd (aj y1.2) (af (bG y3 y1.1 [aB.mk x1 [] 0]) fun y4=>cnd (band (ile 0 y1.1) (ilt y1.1 (len y4))) (af (jc [Md.mk (ah y4 (itn y1.1)).data,Md.mk x2]) fun y5=>cnd (band (ile 0 y1.1) (ilt y1.1 (len y4))) (cnd (ieq x0.fuse 0) (some (ax.mk (aZ y4 (itn y1.1) (aB.mk (ah y4 (itn y1.1)).name y5 (ah y4 (itn y1.1)).sure)) x0.room x0.fuse true,9)) (cnd (ieq x0.fuse (-1)) (some (ax.mk (aZ y4 (itn y1.1) (aB.mk (ah y4 (itn y1.1)).name y5 (ah y4 (itn y1.1)).sure)) x0.room x0.fuse x0.down,0)) (some (ax.mk (aZ y4 (itn y1.1) (aB.mk (ah y4 (itn y1.1)).name y5 (ah y4 (itn y1.1)).sure)) x0.room (wr .i64 (aA x0.fuse 1)) x0.down,0)))) none) none) (cnd (band (ile 0 y1.1) (ilt y1.1 (len y3))) (af (jc [Md.mk (ah y3 (itn y1.1)).data,Md.mk x2]) fun y6=>cnd (band (ile 0 y1.1) (ilt y1.1 (len y3))) (cnd (ieq x0.fuse 0) (some (ax.mk (aZ y3 (itn y1.1) (aB.mk (ah y3 (itn y1.1)).name y6 (ah y3 (itn y1.1)).sure)) x0.room x0.fuse true,9)) (cnd (ieq x0.fuse (-1)) (some (ax.mk (aZ y3 (itn y1.1) (aB.mk (ah y3 (itn y1.1)).name y6 (ah y3 (itn y1.1)).sure)) x0.room x0.fuse x0.down,0)) (some (ax.mk (aZ y3 (itn y1.1) (aB.mk (ah y3 (itn y1.1)).name y6 (ah y3 (itn y1.1)).sure)) x0.room (wr .i64 (aA x0.fuse 1)) x0.down,0)))) none) none)))
def vG:aH:=mkSpec [.val .disk,.str,.ro .u8] [.val .disk,.int .i64] false (fun x=>iD x.1 x.2.1 x.2.2)
theorem DW:bW PG 140 vG:=okN [(216,mg),(217,nR),(218,JE),(80,iw),(219,mZ),(220,xX)] [221] ⟨rV,vK,YV,jF,wo,Js,trivial⟩ fun x=>by kernel_rfl
def iU (x0:ax) (x1:(List UInt8)):Option (ax×Int):=af (iI x0 [x1]) fun y0=>cnd (aj (ieq y0 0)) (cnd (aj (ieq y0 0)) (some (x0,y0)) (cnd (ieq x0.fuse 0) (some (ax.mk x0.files x0.room x0.fuse true,9)) (cnd (ieq x0.fuse (-1)) (af (aK x0.files) fun y1=>cnd (ilt 0 (len y1)) (cnd (ilt 0 (len y1)) (some (ax.mk (aZ y1 0 (aB.mk (ah y1 0).name (ah y1 0).data (len (ah y1 0).data))) x0.room x0.fuse x0.down,0)) none) none) (af (aK x0.files) fun y2=>cnd (ilt 0 (len y2)) (cnd (ilt 0 (len y2)) (some (ax.mk (aZ y2 0 (aB.mk (ah y2 0).name (ah y2 0).data (len (ah y2 0).data))) x0.room (wr .i64 (aA x0.fuse 1)) x0.down,0)) none) none)))) (af (dR x0 x1) fun y3=>cnd (aj y3.2) (some (x0,7)) (cnd (ieq x0.fuse 0) (some (ax.mk x0.files x0.room x0.fuse true,9)) (cnd (ieq x0.fuse (-1)) (af (aK x0.files) fun y4=>cnd (band (ile 0 y3.1) (ilt y3.1 (len y4))) (cnd (band (ile 0 y3.1) (ilt y3.1 (len y4))) (some (ax.mk (aZ y4 (itn y3.1) (aB.mk (ah y4 (itn y3.1)).name (ah y4 (itn y3.1)).data (len (ah y4 (itn y3.1)).data))) x0.room x0.fuse x0.down,0)) none) none) (af (aK x0.files) fun y5=>cnd (band (ile 0 y3.1) (ilt y3.1 (len y5))) (cnd (band (ile 0 y3.1) (ilt y3.1 (len y5))) (some (ax.mk (aZ y5 (itn y3.1) (aB.mk (ah y5 (itn y3.1)).name (ah y5 (itn y3.1)).data (len (ah y5 (itn y3.1)).data))) x0.room (wr .i64 (aA x0.fuse 1)) x0.down,0)) none) none))))
def zq:aH:=mkSpec [.val .disk,.str] [.val .disk,.int .i64] false (fun x=>iU x.1 x.2)
theorem Iy:bW PG 142 zq:=okN [(216,mg),(217,nR),(80,iw)] [214,221] ⟨rV,vK,jF,trivial⟩ fun x=>by kernel_rfl
def oG (v0:Int) (v1:ax) (v2:dU) (v3:ax) (v4:dU):Option ((Int×ax×dU×ax×dU) ⊕ ((Int×ax×dU×ax×dU) ⊕ ((Int×ax×dU×ax×dU)))):=cnd (ilt 0 (len v4.wait)) (cnd (bor (ieq v4.seg 0) (ieq v4.count 8)) (cnd (band (ile 0 (eU (len v4.wait) 8)) (ile (eU (len v4.wait) 8) (len v4.wait))) (af (uO (ay v4.wait (itn (eU (len v4.wait) 8)))) fun y0=>af (iq (wr .i64 (ai v4.sure 1))) fun y1=>af (iD v3 y1 y0.1) fun y2=>cnd (ieq y2.2 0) (af (iq (wr .i64 (ai v4.sure 1))) fun y3=>af (iU y2.1 y3) fun y4=>cnd (aj (ieq y4.2 0)) (some (Sum.inr (Sum.inl (y4.2,y4.1,v4,y4.1,v4)))) (cnd (band (ile 0 (eU (len v4.wait) 8)) (ile (eU (len v4.wait) 8) (len v4.wait))) (af (bU (aF v4.wait (itn (eU (len v4.wait) 8)))) fun y5=>some (Sum.inl (v0,v1,v2,y4.1,dU.mk v4.epoch v4.next (wr .i64 (ai v4.sure (eU (len v4.wait) 8))) (wr .i64 (ai v4.sure 1)) (wr .i64 (ai 0 (eU (len v4.wait) 8))) y5))) none)) (cnd (aj (ieq y2.2 0)) (some (Sum.inr (Sum.inl (y2.2,y2.1,v4,y2.1,v4)))) (cnd (band (ile 0 (eU (len v4.wait) 8)) (ile (eU (len v4.wait) 8) (len v4.wait))) (af (bU (aF v4.wait (itn (eU (len v4.wait) 8)))) fun y6=>some (Sum.inl (v0,v1,v2,y2.1,dU.mk v4.epoch v4.next (wr .i64 (ai v4.sure (eU (len v4.wait) 8))) (wr .i64 (ai v4.sure 1)) (wr .i64 (ai 0 (eU (len v4.wait) 8))) y6))) none))) none) (cnd (band (ile 0 (eU (len v4.wait) (wr .i64 (aA 8 v4.count)))) (ile (eU (len v4.wait) (wr .i64 (aA 8 v4.count))) (len v4.wait))) (af (uO (ay v4.wait (itn (eU (len v4.wait) (wr .i64 (aA 8 v4.count)))))) fun y7=>af (iq v4.seg) fun y8=>af (iD v3 y8 y7.1) fun y9=>cnd (ieq y9.2 0) (af (iq v4.seg) fun y10=>af (iU y9.1 y10) fun y11=>cnd (aj (ieq y11.2 0)) (some (Sum.inr (Sum.inl (y11.2,y11.1,v4,y11.1,v4)))) (cnd (band (ile 0 (eU (len v4.wait) (wr .i64 (aA 8 v4.count)))) (ile (eU (len v4.wait) (wr .i64 (aA 8 v4.count))) (len v4.wait))) (af (bU (aF v4.wait (itn (eU (len v4.wait) (wr .i64 (aA 8 v4.count)))))) fun y12=>some (Sum.inl (v0,v1,v2,y11.1,dU.mk v4.epoch v4.next (wr .i64 (ai v4.sure (eU (len v4.wait) (wr .i64 (aA 8 v4.count))))) v4.seg (wr .i64 (ai v4.count (eU (len v4.wait) (wr .i64 (aA 8 v4.count))))) y12))) none)) (cnd (aj (ieq y9.2 0)) (some (Sum.inr (Sum.inl (y9.2,y9.1,v4,y9.1,v4)))) (cnd (band (ile 0 (eU (len v4.wait) (wr .i64 (aA 8 v4.count)))) (ile (eU (len v4.wait) (wr .i64 (aA 8 v4.count))) (len v4.wait))) (af (bU (aF v4.wait (itn (eU (len v4.wait) (wr .i64 (aA 8 v4.count)))))) fun y13=>some (Sum.inl (v0,v1,v2,y9.1,dU.mk v4.epoch v4.next (wr .i64 (ai v4.sure (eU (len v4.wait) (wr .i64 (aA 8 v4.count))))) v4.seg (wr .i64 (ai v4.count (eU (len v4.wait) (wr .i64 (aA 8 v4.count))))) y13))) none))) none)) (some (Sum.inr (Sum.inr (v0,v1,v2,v3,v4))))
def Rw:dV:=LSh.spec ⟨75,[],[(5,.mp 40 0),(4,.mp 32 0),(3,.mp 24 0),(2,.mp 16 0)],[],[(6,.int .i64)],[(40,[.val .disk]),(32,[.val .wal]),(24,[.val .disk]),(16,[.val .wal])],[]⟩ [⟨.ret,[(6,.int .i64)],[(40,[.val .disk]),(32,[.val .wal]),(24,[.val .disk]),(16,[.val .wal])],[]⟩,⟨.exit 0,[(6,.int .i64)],[(40,[.val .disk]),(32,[.val .wal]),(24,[.val .disk]),(16,[.val .wal])],[]⟩] (sP [(6,8),(20,71)]) (fun p v=>oG v.1 v.2.1 v.2.2.1 v.2.2.2.1 v.2.2.2.2)
def vI (x0:dU) (x1:ax):Option (dU×ax×Int):=af (xR x0 x1) fun y0=>cnd (aj y0) (some (x0,x1,1)) (af (bD (fun v=>oG v.1 v.2.1 v.2.2.1 v.2.2.2.1 v.2.2.2.2) LF (0,ax.mk [] 0 0 false,dU.mk 0 0 0 0 0 [],x1,x0)) fun y1=>gK y1 (fun y2=>some (y2.2.2.1,y2.2.1,y2.1)) fun y2=>some (y2.2.2.2.2,y2.2.2.2.1,0))
def Ja:aH:=mkSpec [.val .wal,.val .disk] [.val .wal,.val .disk,.int .i64] false (fun x=>vI x.1 x.2)
theorem Wl:bW PG 124 Ja:=okP [(149,FW),(196,Nz),(151,Gi),(140,vG),(142,zq),(189,mY)] [] [(124,28,Rw)] ⟨Sm,Zm,Kz,DW,Iy,vY,trivial⟩ (fun K=>⟨kz K fun p v=>by kernel_rfl,trivial⟩) fun x=>by kernel_rfl
def o6 (x0:aW):Option (aW):=some (aW.mk x0.disk x0.wal x0.state [] (kD.mk [] false) x0.gen false)
def zf:aH:=mkSpec [.val .gate] [.val .gate] false (fun x=>o6 x)
theorem Ik:bW PG 72 zf:=okN [] [] trivial fun x=>by kernel_rfl
def nJ (x0:aW):Option (aW×Int):=af (vI x0.wal x0.disk) fun y0=>cnd y0.2.1.down (af (o6 (aW.mk y0.2.1 y0.1 x0.state x0.outbox x0.feed x0.gen x0.up)) fun y1=>some (y1,y0.2.2)) (some (aW.mk y0.2.1 y0.1 x0.state x0.outbox x0.feed x0.gen x0.up,y0.2.2))
def yM:aH:=mkSpec [.val .gate] [.val .gate,.int .i64] false (fun x=>nJ x)
theorem I9:bW PG 66 yM:=okN [(124,Ja),(72,zf)] [4095] ⟨Wl,Ik,trivial⟩ fun x=>by kernel_rfl
def cZ (p0:Int) (p1:(List jw)) (p2:Int) (v0:Int) (v1:Int):Option ((Int×Int) ⊕ ((Int) ⊕ ((Int)))):=cnd (ilt v0 p0) (cnd (band (ile 0 v0) (ilt v0 (len p1))) (cnd (ilt p2 (ah p1 (itn v0)).lsn) (some (Sum.inr (Sum.inl v0))) (some (Sum.inl (wr .i64 (ai v0 1),v1)))) none) (some (Sum.inr (Sum.inr v1)))
def pX:dV:=LSh.spec ⟨77,[(7,.int .i64),(0,.ro .msg)],[(1,.fn 126 [.mp 16 0])],[(16,[.int .i64])],[(8,.int .i64),(4,.int .i64)],[],[]⟩ [⟨.ret,[(4,.int .i64)],[],[]⟩,⟨.exit 0,[(4,.int .i64)],[],[]⟩] (sP [(4,2),(8,11)]) (fun p v=>cZ p.1 p.2.1 p.2.2 v.1 v.2)
def qB (x0:(List jw)) (x1:Int):Option ((List jw)×(List jw)):=af (bD (fun v=>cZ (len x0) x0 x1 v.1 v.2) LF (0,0)) fun y0=>gK y0 (fun y1=>cnd (ilt y1 0) (cnd (band (ile 0 (len x0)) (ile (len x0) (len x0))) (af (dM (ay x0 (itn (len x0)))) fun y2=>cnd (band (ile 0 (len x0)) (ile (len x0) (len x0))) (af (dM (aF x0 (itn (len x0)))) fun y3=>some (y2,y3)) none) none) (cnd (band (ile 0 y1) (ile y1 (len x0))) (af (dM (ay x0 (itn y1))) fun y4=>cnd (band (ile 0 y1) (ile y1 (len x0))) (af (dM (aF x0 (itn y1))) fun y5=>some (y4,y5)) none) none)) fun y1=>cnd (band (ile 0 (len x0)) (ile (len x0) (len x0))) (af (dM (ay x0 (itn (len x0)))) fun y6=>cnd (band (ile 0 (len x0)) (ile (len x0) (len x0))) (af (dM (aF x0 (itn (len x0)))) fun y7=>some (y6,y7)) none) none
def Fj:aH:=mkSpec [.ro .msg,.int .i64] [.buf .msg,.buf .msg] true (fun x=>qB x.1 x.2)
theorem Tf:bW PG 67 Fj:=okP [(57,nZ)] [126,125] [(287762845821,26,pX)] ⟨yc,trivial⟩ (fun K=>⟨kz K fun p v=>by kernel_rfl,trivial⟩) fun x=>by kernel_rfl
def mW (x0:aW):Option (aW×(List jw)×Int):=af (mM x0) fun y0=>cnd (aj (ieq y0 0)) (some (x0,[],y0)) (af (nJ x0) fun y1=>cnd (aj y1.1.up) (some (y1.1,[],y1.2)) (af (qB y1.1.outbox y1.1.wal.sure) fun y2=>some (aW.mk y1.1.disk y1.1.wal y1.1.state y2.2 y1.1.feed y1.1.gen y1.1.up,y2.1,y1.2)))
def rO:aH:=mkSpec [.val .gate] [.val .gate,.buf .msg,.int .i64] false (fun x=>mW x)
theorem AU:bW PG 17 rO:=okN [(54,rG),(66,yM),(67,Fj)] [4095] ⟨AP,I9,Tf,trivial⟩ fun x=>by kernel_rfl
def Ij (x0:aC) (x1:iT):Option (Int):=af (xY x0 x1) fun y0=>some y0.2
def Nh:aH:=mkSpec [.val .state,.val .recd] [.int .i64] true (fun x=>Ij x.1 x.2)
theorem Zw:bW PG 71 Nh:=okN [(79,Iw)] [] ⟨Uy,trivial⟩ fun x=>by kernel_rfl
def Fg (x0:aW) (x1:iT):Option (aW×(List jw)×Int):=af (mM x0) fun y0=>cnd (aj (ieq y0 0)) (some (x0,[],y0)) (cnd (band (aj (ieq x1.kind 4)) (aj (ieq x1.kind 5))) (some (x0,[],1)) (af (Ij x0.state x1) fun y1=>cnd (aj (ieq y1 0)) (some (x0,[],y1)) (af (mW x0) fun y2=>cnd (aj (ieq y2.2.2 0)) (some y2) (af (oJ y2.1 x1) fun y3=>cnd (aj (ieq y3.2 0)) (some (y2.1,y2.2.1,y3.2)) (af (nJ y3.1) fun y4=>cnd (ieq y4.2 0) (some (y4.1,y2.2.1,0)) (cnd y4.1.up (some (y2.1,y2.2.1,y4.2)) (af (o6 (aW.mk y4.1.disk y2.1.wal y2.1.state y2.1.outbox y2.1.feed y2.1.gen y2.1.up)) fun y5=>some (y5,y2.2.1,y4.2))))))))
def Lh:aH:=mkSpec [.val .gate,.val .recd] [.val .gate,.buf .msg,.int .i64] false (fun x=>Fg x.1 x.2)
theorem Yp:bW PG 20 Lh:=okN [(54,rG),(71,Nh),(17,rO),(55,xu),(66,yM),(72,zf)] [4095] ⟨AP,Zw,AU,F9,I9,Ik,trivial⟩ fun x=>by kernel_rfl
def VS (x0:Int) (x1:Int) (x2:Int):Option (Int):=some (wr .i64 (ai (wr .i64 (ai (wr .i64 (ai (wr .i64 (ai 32 (wr .i64 (fQ x2 61)))) (wr .i64 (fQ (wr .i64 (fQ x0 x1)) 32)))) (wr .i64 (fQ x0 8)))) 4))
def Nk:aH:=mkSpec [.int .i64,.int .i64,.int .i64] [.int .i64] true (fun x=>VS x.1 x.2.1 x.2.2)
theorem Ze:bW PG 276 Nk:=okN [] [] trivial fun x=>by kernel_rfl
def VN (x0:aC):Option (Int):=af (mQ x0) fun y0=>cnd (aj y0) (some 0) (af (VS x0.accounts x0.symbols (len x0.orders)) fun y1=>some y1)
def Nr:aH:=mkSpec [.val .state] [.int .i64] true (fun x=>VN x)
theorem aar:bW PG 207 Nr:=okN [(37,rF),(276,Nk)] [] ⟨Bc,Ze,trivial⟩ fun x=>by kernel_rfl
def QB (x0:Bool):Option (Int):=cnd x0 (some 1) (some 0)
def OG:aH:=mkSpec [.bool] [.int .i64] true (fun x=>QB x)
theorem abj:bW PG 209 OG:=okN [] [] trivial fun x=>by kernel_rfl
def D9 (p0:Int) (v0:Int) (v1:(List Int)):Option ((Int×(List Int)) ⊕ (((List Int)))):=cnd (ile 0 v0) (cnd (ile 0 (wr .i64 (fQ 8 v0))) (cnd (ile (len (dm v1 [wr .u8 (bQ .i64 p0 (wr .i64 (fQ 8 v0)))])) 68719476736) (some (Sum.inl (wr .i64 (aA v0 1),dm v1 [wr .u8 (bQ .i64 p0 (wr .i64 (fQ 8 v0)))]))) none) none) (some (Sum.inr v1))
def MB:dV:=LSh.spec ⟨144,[(8,.int .i64)],[],[],[(9,.int .i64),(0,.buf .u8)],[],[]⟩ [⟨.exit 2,[(0,.buf .u8)],[],[]⟩] (sP [(0,1),(9,1),(18,12)]) (fun p v=>D9 p v.1 v.2)
def Hr (p0:Int) (p1:(List Int)) (p2:Int) (v0:Int) (v1:(List Int)):Option ((Int×(List Int)) ⊕ (((List Int)))):=cnd (ilt v0 p0) (cnd (band (ile 0 v0) (ilt v0 (len p1))) (af (bD (fun v=>D9 (ah p1 (itn v0)) v.1 v.2) LF (wr .i64 (aA p2 1),v1)) fun y0=>some (Sum.inl (wr .i64 (ai v0 1),y0))) none) (some (Sum.inr v1))
def PD:dV:=LSh.spec ⟨71,[(11,.int .i64),(10,.ro .i64),(1,.int .i64)],[],[],[(12,.int .i64),(0,.buf .u8)],[],[]⟩ [⟨.exit 0,[(0,.buf .u8)],[],[]⟩] (sP [(0,1),(8,2),(12,19)]) (fun p v=>Hr p.1 p.2.1 p.2.2 v.1 v.2)
def AY (x0:(List Int)) (x1:Int) (x2:(List Int)):Option ((List Int)):=af (bD (fun v=>Hr (len x2) x2 x1 v.1 v.2) LF (0,x0)) fun y0=>some y0
def Ia:aH:=mkSpec [.buf .u8,.int .i64,.ro .i64] [.buf .u8] true (fun x=>AY x.1 x.2.1 x.2.2)
theorem Ue:bW PG 208 Ia:=okP [] [] [(208,6758,MB),(208,26,PD)] trivial (fun K=>⟨kz K fun p v=>by kernel_rfl,kz K fun p v=>by kernel_rfl,trivial⟩) fun x=>by kernel_rfl
def Bq (p0:Int) (v0:Int) (v1:(List Int)):Option ((Int×(List Int)) ⊕ (((List Int)))):=cnd (ile 0 v0) (cnd (ile 0 (wr .i64 (fQ 8 v0))) (cnd (ile (len (dm v1 [wr .u8 (bQ .i64 p0 (wr .i64 (fQ 8 v0)))])) 68719476736) (some (Sum.inl (wr .i64 (aA v0 1),dm v1 [wr .u8 (bQ .i64 p0 (wr .i64 (fQ 8 v0)))]))) none) none) (some (Sum.inr v1))
def Jq:dV:=LSh.spec ⟨144,[(8,.int .i64)],[],[],[(9,.int .i64),(0,.buf .u8)],[],[]⟩ [⟨.exit 2,[(0,.buf .u8)],[],[]⟩] (sP [(0,1),(9,1),(18,12)]) (fun p v=>Bq p v.1 v.2)
def Eu (p0:Int) (p1:(List Int)) (p2:Int) (v0:Int) (v1:(List Int)):Option ((Int×(List Int)) ⊕ (((List Int)))):=cnd (ilt v0 p0) (cnd (band (ile 0 v0) (ilt v0 (len p1))) (af (bD (fun v=>Bq (ah p1 (itn v0)) v.1 v.2) LF (wr .i64 (aA p2 1),v1)) fun y0=>some (Sum.inl (wr .i64 (ai v0 1),y0))) none) (some (Sum.inr v1))
def MN:dV:=LSh.spec ⟨71,[(11,.int .i64),(10,.ro .i64),(1,.int .i64)],[],[],[(12,.int .i64),(0,.buf .u8)],[],[]⟩ [⟨.exit 0,[(0,.buf .u8)],[],[]⟩] (sP [(0,1),(8,2),(12,19)]) (fun p v=>Eu p.1 p.2.1 p.2.2 v.1 v.2)
def lY (x0:(List Int)) (x1:Int) (x2:(List Int)):Option ((List Int)):=af (bD (fun v=>Eu (len x2) x2 x1 v.1 v.2) LF (0,x0)) fun y0=>some y0
def Es:aH:=mkSpec [.buf .u8,.int .i64,.ro .i64] [.buf .u8] true (fun x=>lY x.1 x.2.1 x.2.2)
theorem Ru:bW PG 210 Es:=okP [] [] [(210,6758,Jq),(210,26,MN)] trivial (fun K=>⟨kz K fun p v=>by kernel_rfl,kz K fun p v=>by kernel_rfl,trivial⟩) fun x=>by kernel_rfl
def Fh (p0:Int) (p1:(List aG)) (v0:Int) (v1:(List Int)):Option ((Int×(List Int)) ⊕ (((List Int)))):=cnd (ilt v0 p0) (cnd (band (ile 0 v0) (ilt v0 (len p1))) (af (lY v1 8 [(ah p1 (itn v0)).id]) fun y0=>af (AY y0 1 [(ah p1 (itn v0)).account,(ah p1 (itn v0)).symbol,(ah p1 (itn v0)).side,(ah p1 (itn v0)).phase]) fun y1=>af (lY y1 8 [(ah p1 (itn v0)).qty,(ah p1 (itn v0)).price,(ah p1 (itn v0)).filled,(ah p1 (itn v0)).newQty,(ah p1 (itn v0)).newPrice,(ah p1 (itn v0)).version]) fun y2=>af (QB (ah p1 (itn v0)).asked) fun y3=>af (AY y2 1 [y3]) fun y4=>some (Sum.inl (wr .i64 (ai v0 1),y4))) none) (some (Sum.inr v1))
def Om:dV:=LSh.spec ⟨105,[(45,.int .i64),(44,.ro .order)],[],[],[(46,.int .i64),(5,.buf .u8)],[],[]⟩ [⟨.exit 0,[(5,.buf .u8)],[],[]⟩] (sP [(5,1),(7,1),(46,42)]) (fun p v=>Fh p.1 p.2 v.1 v.2)
def FI (p0:Int) (p1:(List aX)) (v0:Int) (v1:(List Int)):Option ((Int×(List Int)) ⊕ (((List Int)))):=cnd (ilt v0 p0) (cnd (band (ile 0 v0) (ilt v0 (len p1))) (af (lY v1 8 [(ah p1 (itn v0)).pos]) fun y0=>some (Sum.inl (wr .i64 (ai v0 1),y0))) none) (some (Sum.inr v1))
def N9:dV:=LSh.spec ⟨176,[(90,.int .i64),(89,.ro .cell)],[],[],[(91,.int .i64),(5,.buf .u8)],[],[]⟩ [⟨.exit 2,[(5,.buf .u8)],[],[]⟩] (sP [(5,1),(9,1),(91,10)]) (fun p v=>FI p.1 p.2 v.1 v.2)
def FN (p0:Int) (p1:(List jm)) (v0:Int) (v1:(List Int)):Option ((Int×(List Int)) ⊕ (((List Int)))):=cnd (ilt v0 p0) (cnd (band (ile 0 v0) (ilt v0 (len p1))) (af (lY v1 8 [(ah p1 (itn v0)).long,(ah p1 (itn v0)).short,(ah p1 (itn v0)).opn]) fun y0=>some (Sum.inl (wr .i64 (ai v0 1),y0))) none) (some (Sum.inr v1))
def NH:dV:=LSh.spec ⟨247,[(103,.int .i64),(102,.ro .expo)],[],[],[(104,.int .i64),(5,.buf .u8)],[],[]⟩ [⟨.exit 4,[(5,.buf .u8)],[],[]⟩] (sP [(5,1),(11,1),(104,14)]) (fun p v=>FN p.1 p.2 v.1 v.2)
def DC (p0:Int) (v0:Int) (v1:(List Int)):Option ((Int×(List Int)) ⊕ (((List Int)))):=cnd (ilt v0 4) (cnd (ile 0 (wr .i64 (fQ 8 v0))) (cnd (ile (len (dm v1 [wr .u8 (bQ .u32 p0 (wr .i64 (fQ 8 v0)))])) 68719476736) (some (Sum.inl (wr .i64 (ai v0 1),dm v1 [wr .u8 (bQ .u32 p0 (wr .i64 (fQ 8 v0)))]))) none) none) (some (Sum.inr v1))
def LY:dV:=LSh.spec ⟨323,[(12,.int .u32)],[],[],[(124,.int .i64),(5,.buf .u8)],[],[]⟩ [⟨.exit 6,[(5,.buf .u8)],[],[]⟩] (sP [(5,1),(13,1),(124,12)]) (fun p v=>DC p v.1 v.2)
def IQ (x0:aC):Option ((List Int)×Int):=af (VN x0) fun y0=>cnd (ieq y0 0) (some ([],1)) (cnd (band (ile 0 y0) (ile y0 68719476736)) (af (QB x0.kill) fun y1=>af (AY (dm (jJ Int 0) (s2u [(UInt8.ofNat 115),(UInt8.ofNat 110),(UInt8.ofNat 97),(UInt8.ofNat 102)])) 1 [x0.accounts,x0.symbols,y1,len x0.orders]) fun y2=>af (lY y2 8 [x0.last,x0.seq,x0.lsn]) fun y3=>af (bD (fun v=>Fh (len x0.orders) x0.orders v.1 v.2) LF (0,y3)) fun y4=>af (bD (fun v=>FI (len x0.cells) x0.cells v.1 v.2) LF (0,y4)) fun y5=>af (bD (fun v=>FN (len x0.limits) x0.limits v.1 v.2) LF (0,y5)) fun y6=>af (lY y6 8 x0.caps) fun y7=>af (Hg y7) fun y8=>af (bD (fun v=>DC y8 v.1 v.2) LF (0,y7)) fun y9=>some (y9,0)) none)
def I8:aH:=mkSpec [.val .state] [.buf .u8,.int .i64] true (fun x=>IQ x)
theorem Wx:bW PG 134 I8:=okP [(207,Nr),(209,OG),(208,Ia),(210,Es),(211,IA)] [] [(134,1018,Om),(134,2042,N9),(134,4090,NH),(134,32762,LY)] ⟨aar,abj,Ue,Ru,U6,trivial⟩ (fun K=>⟨kz K fun p v=>by kernel_rfl,kz K fun p v=>by kernel_rfl,kz K fun p v=>by kernel_rfl,kz K fun p v=>by kernel_rfl,trivial⟩) fun x=>by kernel_rfl
def lJ (x0:Int):Option ((List UInt8)):=cnd (ieq (YK x0 2) 0) (some [(UInt8.ofNat 115),(UInt8.ofNat 108),(UInt8.ofNat 111),(UInt8.ofNat 116),(UInt8.ofNat 46),(UInt8.ofNat 48)]) (some [(UInt8.ofNat 115),(UInt8.ofNat 108),(UInt8.ofNat 111),(UInt8.ofNat 116),(UInt8.ofNat 46),(UInt8.ofNat 49)])
def D7:aH:=mkSpec [.int .i64] [.str] true (fun x=>lJ x)
theorem OC:bW PG 212 D7:=okN [] [] trivial fun x=>by kernel_rfl
def dX (x0:(List Int)):Option ((List Int)):=JH (len x0) fun y0=>cnd (beq y0 true) (some []) (cnd (ile (len x0) 68719476736) (some x0) none)
def qN:aH:=mkSpec [.ro .u8] [.buf .u8] true (fun x=>dX x)
theorem Bv:bW PG 168 qN:=okN [] [] trivial fun x=>by kernel_rfl
def oV (x0:ax) (x1:(List UInt8)):Option ((List Int)×Int):=af (iI x0 [x1]) fun y0=>cnd (aj (ieq y0 0)) (cnd (aj (ieq y0 0)) (some ([],y0)) (cnd (ilt 0 (len x0.files)) (af (dX (ah x0.files 0).data) fun y1=>some (y1,0)) none)) (af (dR x0 x1) fun y2=>cnd (aj y2.2) (some ([],7)) (cnd (band (ile 0 y2.1) (ilt y2.1 (len x0.files))) (af (dX (ah x0.files (itn y2.1)).data) fun y3=>some (y3,0)) none))
def yJ:aH:=mkSpec [.val .disk,.str] [.buf .u8,.int .i64] true (fun x=>oV x.1 x.2)
theorem IY:bW PG 136 yJ:=okN [(216,mg),(217,nR),(168,qN)] [214] ⟨rV,vK,Bv,trivial⟩ fun x=>by kernel_rfl
def vM (x0:iE):Option (adG):=af (cO (wr .u32 (mr .u32 (wr .u32 (gY .u32 4294967295 (wr .u32 (wr .u8 (bQ .i64 x0.gen 56))))) 15))) fun y0=>af (cO (wr .u32 (mr .u32 (wr .u32 (gY .u32 y0 (bQ .u32 (wr .u32 (gY .u32 4294967295 (wr .u32 (wr .u8 (bQ .i64 x0.gen 56))))) 4))) 15))) fun y1=>let t8:=(wr .u32 (gY .u32 (wr .u32 (gY .u32 y1 (bQ .u32 (wr .u32 (gY .u32 y0 (bQ .u32 (wr .u32 (gY .u32 4294967295 (wr .u32 (wr .u8 (bQ .i64 x0.gen 56))))) 4))) 4))) (wr .u32 (wr .u8 (bQ .i64 x0.gen 48)))));af (cO (wr .u32 (mr .u32 t8 15))) fun y2=>af (cO (wr .u32 (mr .u32 (wr .u32 (gY .u32 y2 (bQ .u32 t8 4))) 15))) fun y3=>let t5:=(wr .u32 (gY .u32 (wr .u32 (gY .u32 y3 (bQ .u32 (wr .u32 (gY .u32 y2 (bQ .u32 t8 4))) 4))) (wr .u32 (wr .u8 (bQ .i64 x0.gen 40)))));af (cO (wr .u32 (mr .u32 t5 15))) fun y4=>af (cO (wr .u32 (mr .u32 (wr .u32 (gY .u32 y4 (bQ .u32 t5 4))) 15))) fun y5=>let t14:=(wr .u32 (gY .u32 (wr .u32 (gY .u32 y5 (bQ .u32 (wr .u32 (gY .u32 y4 (bQ .u32 t5 4))) 4))) (wr .u32 (wr .u8 (bQ .i64 x0.gen 32)))));af (cO (wr .u32 (mr .u32 t14 15))) fun y6=>af (cO (wr .u32 (mr .u32 (wr .u32 (gY .u32 y6 (bQ .u32 t14 4))) 15))) fun y7=>let t1:=(wr .u32 (gY .u32 (wr .u32 (gY .u32 y7 (bQ .u32 (wr .u32 (gY .u32 y6 (bQ .u32 t14 4))) 4))) (wr .u32 (wr .u8 (bQ .i64 x0.gen 24)))));af (cO (wr .u32 (mr .u32 t1 15))) fun y8=>af (cO (wr .u32 (mr .u32 (wr .u32 (gY .u32 y8 (bQ .u32 t1 4))) 15))) fun y9=>let t15:=(wr .u32 (gY .u32 (wr .u32 (gY .u32 y9 (bQ .u32 (wr .u32 (gY .u32 y8 (bQ .u32 t1 4))) 4))) (wr .u32 (wr .u8 (bQ .i64 x0.gen 16)))));af (cO (wr .u32 (mr .u32 t15 15))) fun y10=>af (cO (wr .u32 (mr .u32 (wr .u32 (gY .u32 y10 (bQ .u32 t15 4))) 15))) fun y11=>let t7:=(wr .u32 (gY .u32 (wr .u32 (gY .u32 y11 (bQ .u32 (wr .u32 (gY .u32 y10 (bQ .u32 t15 4))) 4))) (wr .u32 (wr .u8 (bQ .i64 x0.gen 8)))));af (cO (wr .u32 (mr .u32 t7 15))) fun y12=>af (cO (wr .u32 (mr .u32 (wr .u32 (gY .u32 y12 (bQ .u32 t7 4))) 15))) fun y13=>let t3:=(wr .u32 (gY .u32 (wr .u32 (gY .u32 y13 (bQ .u32 (wr .u32 (gY .u32 y12 (bQ .u32 t7 4))) 4))) (wr .u32 (wr .u8 (bQ .i64 x0.gen 0)))));af (cO (wr .u32 (mr .u32 t3 15))) fun y14=>af (cO (wr .u32 (mr .u32 (wr .u32 (gY .u32 y14 (bQ .u32 t3 4))) 15))) fun y15=>let t10:=(wr .u32 (gY .u32 (wr .u32 (gY .u32 y15 (bQ .u32 (wr .u32 (gY .u32 y14 (bQ .u32 t3 4))) 4))) (wr .u32 (wr .u8 (bQ .i64 x0.lsn 56)))));af (cO (wr .u32 (mr .u32 t10 15))) fun y16=>af (cO (wr .u32 (mr .u32 (wr .u32 (gY .u32 y16 (bQ .u32 t10 4))) 15))) fun y17=>let t0:=(wr .u32 (gY .u32 (wr .u32 (gY .u32 y17 (bQ .u32 (wr .u32 (gY .u32 y16 (bQ .u32 t10 4))) 4))) (wr .u32 (wr .u8 (bQ .i64 x0.lsn 48)))));af (cO (wr .u32 (mr .u32 t0 15))) fun y18=>af (cO (wr .u32 (mr .u32 (wr .u32 (gY .u32 y18 (bQ .u32 t0 4))) 15))) fun y19=>let t11:=(wr .u32 (gY .u32 (wr .u32 (gY .u32 y19 (bQ .u32 (wr .u32 (gY .u32 y18 (bQ .u32 t0 4))) 4))) (wr .u32 (wr .u8 (bQ .i64 x0.lsn 40)))));af (cO (wr .u32 (mr .u32 t11 15))) fun y20=>af (cO (wr .u32 (mr .u32 (wr .u32 (gY .u32 y20 (bQ .u32 t11 4))) 15))) fun y21=>let t6:=(wr .u32 (gY .u32 (wr .u32 (gY .u32 y21 (bQ .u32 (wr .u32 (gY .u32 y20 (bQ .u32 t11 4))) 4))) (wr .u32 (wr .u8 (bQ .i64 x0.lsn 32)))));af (cO (wr .u32 (mr .u32 t6 15))) fun y22=>af (cO (wr .u32 (mr .u32 (wr .u32 (gY .u32 y22 (bQ .u32 t6 4))) 15))) fun y23=>let t12:=(wr .u32 (gY .u32 (wr .u32 (gY .u32 y23 (bQ .u32 (wr .u32 (gY .u32 y22 (bQ .u32 t6 4))) 4))) (wr .u32 (wr .u8 (bQ .i64 x0.lsn 24)))));af (cO (wr .u32 (mr .u32 t12 15))) fun y24=>af (cO (wr .u32 (mr .u32 (wr .u32 (gY .u32 y24 (bQ .u32 t12 4))) 15))) fun y25=>let t2:=(wr .u32 (gY .u32 (wr .u32 (gY .u32 y25 (bQ .u32 (wr .u32 (gY .u32 y24 (bQ .u32 t12 4))) 4))) (wr .u32 (wr .u8 (bQ .i64 x0.lsn 16)))));af (cO (wr .u32 (mr .u32 t2 15))) fun y26=>af (cO (wr .u32 (mr .u32 (wr .u32 (gY .u32 y26 (bQ .u32 t2 4))) 15))) fun y27=>let t13:=(wr .u32 (gY .u32 (wr .u32 (gY .u32 y27 (bQ .u32 (wr .u32 (gY .u32 y26 (bQ .u32 t2 4))) 4))) (wr .u32 (wr .u8 (bQ .i64 x0.lsn 8)))));af (cO (wr .u32 (mr .u32 t13 15))) fun y28=>af (cO (wr .u32 (mr .u32 (wr .u32 (gY .u32 y28 (bQ .u32 t13 4))) 15))) fun y29=>let t4:=(wr .u32 (gY .u32 (wr .u32 (gY .u32 y29 (bQ .u32 (wr .u32 (gY .u32 y28 (bQ .u32 t13 4))) 4))) (wr .u32 (wr .u8 (bQ .i64 x0.lsn 0)))));af (cO (wr .u32 (mr .u32 t4 15))) fun y30=>af (cO (wr .u32 (mr .u32 (wr .u32 (gY .u32 y30 (bQ .u32 t4 4))) 15))) fun y31=>let t9:=(wr .u32 (gY .u32 4294967295 (wr .u32 (gY .u32 y31 (bQ .u32 (wr .u32 (gY .u32 y30 (bQ .u32 t4 4))) 4)))));some (adG.mk (wr .u8 (bQ .i64 x0.gen 56)) (wr .u8 (bQ .i64 x0.gen 48)) (wr .u8 (bQ .i64 x0.gen 40)) (wr .u8 (bQ .i64 x0.gen 32)) (wr .u8 (bQ .i64 x0.gen 24)) (wr .u8 (bQ .i64 x0.gen 16)) (wr .u8 (bQ .i64 x0.gen 8)) (wr .u8 (bQ .i64 x0.gen 0)) (wr .u8 (bQ .i64 x0.lsn 56)) (wr .u8 (bQ .i64 x0.lsn 48)) (wr .u8 (bQ .i64 x0.lsn 40)) (wr .u8 (bQ .i64 x0.lsn 32)) (wr .u8 (bQ .i64 x0.lsn 24)) (wr .u8 (bQ .i64 x0.lsn 16)) (wr .u8 (bQ .i64 x0.lsn 8)) (wr .u8 (bQ .i64 x0.lsn 0)) (wr .u8 (bQ .u32 t9 0)) (wr .u8 (bQ .u32 t9 8)) (wr .u8 (bQ .u32 t9 16)) (wr .u8 (bQ .u32 t9 24)))
def BO:aH:=mkSpec [.val .slot] [.val .a20] true (fun x=>vM x)
theorem MP:bW PG 226 BO:=okN [(310,Gs)] [211,277] ⟨RX,trivial⟩ fun x=>by kernel_rfl
def Dh (x0:iE):Option (Bool):=some (band (band (band (ile 1 x0.gen) (ile x0.gen 1000000000)) (ile 0 x0.lsn)) (ile x0.lsn 1000000000))
def BQ:aH:=mkSpec [.val .slot] [.bool] true (fun x=>Dh x)
theorem ND:bW PG 225 BQ:=okN [] [] trivial fun x=>by kernel_rfl
def pU (x0:(List Int)):Option (iE×Int):=cnd (aj (ieq (len x0) 20)) (some (iE.mk 0 0,2)) (cnd (ilt 0 (len x0)) (cnd (ilt 8 (len x0)) (cnd (ilt 1 (len x0)) (cnd (ilt 9 (len x0)) (cnd (ilt 2 (len x0)) (cnd (ilt 10 (len x0)) (cnd (ilt 3 (len x0)) (cnd (ilt 11 (len x0)) (cnd (ilt 4 (len x0)) (cnd (ilt 12 (len x0)) (cnd (ilt 5 (len x0)) (cnd (ilt 13 (len x0)) (cnd (ilt 6 (len x0)) (cnd (ilt 14 (len x0)) (cnd (ilt 7 (len x0)) (cnd (ilt 15 (len x0)) (af (vM (iE.mk (wr .i64 (ior .i64 (wr .i64 (oz .i64 (wr .i64 (ior .i64 (wr .i64 (oz .i64 (wr .i64 (ior .i64 (wr .i64 (oz .i64 (wr .i64 (ior .i64 (wr .i64 (oz .i64 (wr .i64 (ior .i64 (wr .i64 (oz .i64 (wr .i64 (ior .i64 (wr .i64 (oz .i64 (wr .i64 (ior .i64 (wr .i64 (oz .i64 (wr .i64 (ior .i64 0 (wr .i64 (ah x0 0)))) 8)) (wr .i64 (ah x0 1)))) 8)) (wr .i64 (ah x0 2)))) 8)) (wr .i64 (ah x0 3)))) 8)) (wr .i64 (ah x0 4)))) 8)) (wr .i64 (ah x0 5)))) 8)) (wr .i64 (ah x0 6)))) 8)) (wr .i64 (ah x0 7)))) (wr .i64 (ior .i64 (wr .i64 (oz .i64 (wr .i64 (ior .i64 (wr .i64 (oz .i64 (wr .i64 (ior .i64 (wr .i64 (oz .i64 (wr .i64 (ior .i64 (wr .i64 (oz .i64 (wr .i64 (ior .i64 (wr .i64 (oz .i64 (wr .i64 (ior .i64 (wr .i64 (oz .i64 (wr .i64 (ior .i64 (wr .i64 (oz .i64 (wr .i64 (ior .i64 0 (wr .i64 (ah x0 8)))) 8)) (wr .i64 (ah x0 9)))) 8)) (wr .i64 (ah x0 10)))) 8)) (wr .i64 (ah x0 11)))) 8)) (wr .i64 (ah x0 12)))) 8)) (wr .i64 (ah x0 13)))) 8)) (wr .i64 (ah x0 14)))) 8)) (wr .i64 (ah x0 15)))))) fun y0=>cnd (ile 20 (len x0)) (cnd (aj (band (ieq y0.a0 (ah x0 0)) (band (ieq y0.a1 (ah x0 1)) (band (ieq y0.a2 (ah x0 2)) (band (ieq y0.a3 (ah x0 3)) (band (ieq y0.a4 (ah x0 4)) (band (ieq y0.a5 (ah x0 5)) (band (ieq y0.a6 (ah x0 6)) (band (ieq y0.a7 (ah x0 7)) (band (ieq y0.a8 (ah x0 8)) (band (ieq y0.a9 (ah x0 9)) (band (ieq y0.a10 (ah x0 10)) (band (ieq y0.a11 (ah x0 11)) (band (ieq y0.a12 (ah x0 12)) (band (ieq y0.a13 (ah x0 13)) (band (ieq y0.a14 (ah x0 14)) (band (ieq y0.a15 (ah x0 15)) (band (ieq y0.a16 (ah x0 16)) (band (ieq y0.a17 (ah x0 17)) (band (ieq y0.a18 (ah x0 18)) (band (ieq y0.a19 (ah x0 19)) true))))))))))))))))))))) (some (iE.mk 0 0,10)) (af (Dh (iE.mk (wr .i64 (ior .i64 (wr .i64 (oz .i64 (wr .i64 (ior .i64 (wr .i64 (oz .i64 (wr .i64 (ior .i64 (wr .i64 (oz .i64 (wr .i64 (ior .i64 (wr .i64 (oz .i64 (wr .i64 (ior .i64 (wr .i64 (oz .i64 (wr .i64 (ior .i64 (wr .i64 (oz .i64 (wr .i64 (ior .i64 (wr .i64 (oz .i64 (wr .i64 (ior .i64 0 (wr .i64 (ah x0 0)))) 8)) (wr .i64 (ah x0 1)))) 8)) (wr .i64 (ah x0 2)))) 8)) (wr .i64 (ah x0 3)))) 8)) (wr .i64 (ah x0 4)))) 8)) (wr .i64 (ah x0 5)))) 8)) (wr .i64 (ah x0 6)))) 8)) (wr .i64 (ah x0 7)))) (wr .i64 (ior .i64 (wr .i64 (oz .i64 (wr .i64 (ior .i64 (wr .i64 (oz .i64 (wr .i64 (ior .i64 (wr .i64 (oz .i64 (wr .i64 (ior .i64 (wr .i64 (oz .i64 (wr .i64 (ior .i64 (wr .i64 (oz .i64 (wr .i64 (ior .i64 (wr .i64 (oz .i64 (wr .i64 (ior .i64 (wr .i64 (oz .i64 (wr .i64 (ior .i64 0 (wr .i64 (ah x0 8)))) 8)) (wr .i64 (ah x0 9)))) 8)) (wr .i64 (ah x0 10)))) 8)) (wr .i64 (ah x0 11)))) 8)) (wr .i64 (ah x0 12)))) 8)) (wr .i64 (ah x0 13)))) 8)) (wr .i64 (ah x0 14)))) 8)) (wr .i64 (ah x0 15)))))) fun y1=>cnd (aj y1) (some (iE.mk 0 0,2)) (some (iE.mk (wr .i64 (ior .i64 (wr .i64 (oz .i64 (wr .i64 (ior .i64 (wr .i64 (oz .i64 (wr .i64 (ior .i64 (wr .i64 (oz .i64 (wr .i64 (ior .i64 (wr .i64 (oz .i64 (wr .i64 (ior .i64 (wr .i64 (oz .i64 (wr .i64 (ior .i64 (wr .i64 (oz .i64 (wr .i64 (ior .i64 (wr .i64 (oz .i64 (wr .i64 (ior .i64 0 (wr .i64 (ah x0 0)))) 8)) (wr .i64 (ah x0 1)))) 8)) (wr .i64 (ah x0 2)))) 8)) (wr .i64 (ah x0 3)))) 8)) (wr .i64 (ah x0 4)))) 8)) (wr .i64 (ah x0 5)))) 8)) (wr .i64 (ah x0 6)))) 8)) (wr .i64 (ah x0 7)))) (wr .i64 (ior .i64 (wr .i64 (oz .i64 (wr .i64 (ior .i64 (wr .i64 (oz .i64 (wr .i64 (ior .i64 (wr .i64 (oz .i64 (wr .i64 (ior .i64 (wr .i64 (oz .i64 (wr .i64 (ior .i64 (wr .i64 (oz .i64 (wr .i64 (ior .i64 (wr .i64 (oz .i64 (wr .i64 (ior .i64 (wr .i64 (oz .i64 (wr .i64 (ior .i64 0 (wr .i64 (ah x0 8)))) 8)) (wr .i64 (ah x0 9)))) 8)) (wr .i64 (ah x0 10)))) 8)) (wr .i64 (ah x0 11)))) 8)) (wr .i64 (ah x0 12)))) 8)) (wr .i64 (ah x0 13)))) 8)) (wr .i64 (ah x0 14)))) 8)) (wr .i64 (ah x0 15)))),0)))) none) none) none) none) none) none) none) none) none) none) none) none) none) none) none) none) none)
def GY:aH:=mkSpec [.ro .u8] [.val .slot,.int .i64] true (fun x=>pU x)
theorem UI:bW PG 213 GY:=okN [(226,BO),(225,BQ)] [] ⟨MP,ND,trivial⟩ fun x=>by kernel_rfl
def Bj (x0:ax):Option (iE×Int):=af (lI x0) fun y0=>cnd (aj y0) (some (iE.mk 0 0,1)) (cnd x0.down (some (iE.mk 0 0,9)) (af (lJ 0) fun y1=>af (oV x0 y1) fun y2=>af (pU y2.1) fun y3=>cnd (band (band (ieq y3.2 0) (ieq (YK y3.1.gen 2) 0)) (ilt 0 y3.1.gen)) (af (lJ 1) fun y4=>af (oV x0 y4) fun y5=>af (pU y5.1) fun y6=>cnd (band (band (ieq y6.2 0) (ieq (YK y6.1.gen 2) 1)) (ilt y3.1.gen y6.1.gen)) (cnd (ieq y6.1.gen 0) (some (iE.mk 0 0,7)) (some (y6.1,0))) (cnd (ieq y3.1.gen 0) (some (iE.mk 0 0,7)) (some (y3.1,0)))) (af (lJ 1) fun y7=>af (oV x0 y7) fun y8=>af (pU y8.1) fun y9=>cnd (band (band (ieq y9.2 0) (ieq (YK y9.1.gen 2) 1)) (ilt 0 y9.1.gen)) (cnd (ieq y9.1.gen 0) (some (iE.mk 0 0,7)) (some (y9.1,0))) (some (iE.mk 0 0,7)))))
def Eb:aH:=mkSpec [.val .disk] [.val .slot,.int .i64] true (fun x=>Bj x)
theorem Pv:bW PG 135 Eb:=okN [(36,oH),(212,D7),(136,yJ),(213,GY)] [] ⟨xk,OC,IY,UI,trivial⟩ fun x=>by kernel_rfl
def gu (x0:Int):Option ((List UInt8)):=cnd (bor (ilt x0 1) (ilt 1000000000 x0)) (some []) (af (jy x0 10) fun y0=>af (lD [(UInt8.ofNat 48)] (wr .i64 (aA 10 (len y0)))) fun y1=>cnd (ile (ai 5 (len y1)) 68719476736) (cnd (ile (ai (len (dm [(UInt8.ofNat 115),(UInt8.ofNat 110),(UInt8.ofNat 97),(UInt8.ofNat 112),(UInt8.ofNat 46)] y1)) (len y0)) 68719476736) (some (dm (dm [(UInt8.ofNat 115),(UInt8.ofNat 110),(UInt8.ofNat 97),(UInt8.ofNat 112),(UInt8.ofNat 46)] y1) y0)) none) none)
def Jk:aH:=mkSpec [.int .i64] [.str] true (fun x=>gu x)
theorem Nl:bW PG 145 Jk:=okN [(223,qU),(224,wz)] [] ⟨Bo,EN,trivial⟩ fun x=>by kernel_rfl
def lH (x0:ax) (x1:(List UInt8)) (x2:(List UInt8)):Option (ax×Int):=cnd (ile (len (dm [x2] [x1])) 68719476736) (af (iI x0 (dm [x2] [x1])) fun y0=>cnd (aj (ieq y0 0)) (cnd (aj (ieq y0 0)) (some (x0,y0)) (cnd (ieq x0.fuse 0) (some (ax.mk x0.files x0.room x0.fuse true,9)) (cnd (ieq x0.fuse (-1)) (cnd (ilt 0 (len x0.files)) (af (aK x0.files) fun y1=>cnd (band (ile 1 (len y1)) (band (ile 1 (len y1)) (ile (len y1) (len y1)))) (cnd (ile 0 (len y1)) (cnd (ile 1 (len y1)) (cnd (ile (ai 0 (len (ay (aF y1 1) (itn (aA (len y1) 1))))) (len y1)) (cnd (band (band (ile 0 (nti (nad 0 (itn (len (ay (aF y1 1) (itn (aA (len y1) 1)))))))) (ile (nti (nad 0 (itn (len (ay (aF y1 1) (itn (aA (len y1) 1))))))) (len y1))) (ile (len y1) (aA (len (dY y1 0 (ay (aF y1 1) (itn (aA (len y1) 1))))) 0))) (af (dR (ax.mk (ay (dY (dY y1 0 (ay (aF y1 1) (itn (aA (len y1) 1)))) (nad 0 (itn (nti (nad 0 (itn (len (ay (aF y1 1) (itn (aA (len y1) 1))))))))) (jJ aB (itn (aA (len y1) (nti (nad 0 (itn (len (ay (aF y1 1) (itn (aA (len y1) 1))))))))))) (nad 0 (itn (len (ay (aF y1 1) (itn (aA (len y1) 1))))))) x0.room x0.fuse x0.down) x2) fun y2=>cnd y2.2 (cnd (band (ile 0 y2.1) (ilt y2.1 (len (ay (dY (dY y1 0 (ay (aF y1 1) (itn (aA (len y1) 1)))) (nad 0 (itn (nti (nad 0 (itn (len (ay (aF y1 1) (itn (aA (len y1) 1))))))))) (jJ aB (itn (aA (len y1) (nti (nad 0 (itn (len (ay (aF y1 1) (itn (aA (len y1) 1))))))))))) (nad 0 (itn (len (ay (aF y1 1) (itn (aA (len y1) 1)))))))))) (some (ax.mk (aZ (ay (dY (dY y1 0 (ay (aF y1 1) (itn (aA (len y1) 1)))) (nad 0 (itn (nti (nad 0 (itn (len (ay (aF y1 1) (itn (aA (len y1) 1))))))))) (jJ aB (itn (aA (len y1) (nti (nad 0 (itn (len (ay (aF y1 1) (itn (aA (len y1) 1))))))))))) (nad 0 (itn (len (ay (aF y1 1) (itn (aA (len y1) 1))))))) (itn y2.1) (aB.mk x2 (ah x0.files 0).data (ah x0.files 0).sure)) x0.room x0.fuse x0.down,0)) none) (af (bG (ay (dY (dY y1 0 (ay (aF y1 1) (itn (aA (len y1) 1)))) (nad 0 (itn (nti (nad 0 (itn (len (ay (aF y1 1) (itn (aA (len y1) 1))))))))) (jJ aB (itn (aA (len y1) (nti (nad 0 (itn (len (ay (aF y1 1) (itn (aA (len y1) 1))))))))))) (nad 0 (itn (len (ay (aF y1 1) (itn (aA (len y1) 1))))))) y2.1 [aB.mk x2 (ah x0.files 0).data (ah x0.files 0).sure]) fun y3=>some (ax.mk y3 x0.room x0.fuse x0.down,0))) none) none) none) none) none) none) (cnd (ilt 0 (len x0.files)) (af (aK x0.files) fun y4=>cnd (band (ile 1 (len y4)) (band (ile 1 (len y4)) (ile (len y4) (len y4)))) (cnd (ile 0 (len y4)) (cnd (ile 1 (len y4)) (cnd (ile (ai 0 (len (ay (aF y4 1) (itn (aA (len y4) 1))))) (len y4)) (cnd (band (band (ile 0 (nti (nad 0 (itn (len (ay (aF y4 1) (itn (aA (len y4) 1)))))))) (ile (nti (nad 0 (itn (len (ay (aF y4 1) (itn (aA (len y4) 1))))))) (len y4))) (ile (len y4) (aA (len (dY y4 0 (ay (aF y4 1) (itn (aA (len y4) 1))))) 0))) (af (dR (ax.mk (ay (dY (dY y4 0 (ay (aF y4 1) (itn (aA (len y4) 1)))) (nad 0 (itn (nti (nad 0 (itn (len (ay (aF y4 1) (itn (aA (len y4) 1))))))))) (jJ aB (itn (aA (len y4) (nti (nad 0 (itn (len (ay (aF y4 1) (itn (aA (len y4) 1))))))))))) (nad 0 (itn (len (ay (aF y4 1) (itn (aA (len y4) 1))))))) x0.room (wr .i64 (aA x0.fuse 1)) x0.down) x2) fun y5=>cnd y5.2 (cnd (band (ile 0 y5.1) (ilt y5.1 (len (ay (dY (dY y4 0 (ay (aF y4 1) (itn (aA (len y4) 1)))) (nad 0 (itn (nti (nad 0 (itn (len (ay (aF y4 1) (itn (aA (len y4) 1))))))))) (jJ aB (itn (aA (len y4) (nti (nad 0 (itn (len (ay (aF y4 1) (itn (aA (len y4) 1))))))))))) (nad 0 (itn (len (ay (aF y4 1) (itn (aA (len y4) 1)))))))))) (some (ax.mk (aZ (ay (dY (dY y4 0 (ay (aF y4 1) (itn (aA (len y4) 1)))) (nad 0 (itn (nti (nad 0 (itn (len (ay (aF y4 1) (itn (aA (len y4) 1))))))))) (jJ aB (itn (aA (len y4) (nti (nad 0 (itn (len (ay (aF y4 1) (itn (aA (len y4) 1))))))))))) (nad 0 (itn (len (ay (aF y4 1) (itn (aA (len y4) 1))))))) (itn y5.1) (aB.mk x2 (ah x0.files 0).data (ah x0.files 0).sure)) x0.room (wr .i64 (aA x0.fuse 1)) x0.down,0)) none) (af (bG (ay (dY (dY y4 0 (ay (aF y4 1) (itn (aA (len y4) 1)))) (nad 0 (itn (nti (nad 0 (itn (len (ay (aF y4 1) (itn (aA (len y4) 1))))))))) (jJ aB (itn (aA (len y4) (nti (nad 0 (itn (len (ay (aF y4 1) (itn (aA (len y4) 1))))))))))) (nad 0 (itn (len (ay (aF y4 1) (itn (aA (len y4) 1))))))) y5.1 [aB.mk x2 (ah x0.files 0).data (ah x0.files 0).sure]) fun y6=>some (ax.mk y6 x0.room (wr .i64 (aA x0.fuse 1)) x0.down,0))) none) none) none) none) none) none)))) (af (dR x0 x1) fun y7=>cnd (aj y7.2) (some (x0,7)) (cnd (ieq x0.fuse 0) (some (ax.mk x0.files x0.room x0.fuse true,9)) (cnd (ieq x0.fuse (-1)) (cnd (band (ile 0 y7.1) (ilt y7.1 (len x0.files))) (af (aK x0.files) fun y8=>cnd (band (band (band (ile 0 y7.1) (ile y7.1 (wr .i64 (ai y7.1 1)))) (ile (wr .i64 (ai y7.1 1)) (len y8))) (band (ile (wr .i64 (ai y7.1 1)) (len y8)) (ile (len y8) (len y8)))) (cnd (ieq y7.1 (wr .i64 (ai y7.1 1))) (af (dR (ax.mk y8 x0.room x0.fuse x0.down) x2) fun y9=>cnd y9.2 (cnd (band (ile 0 y9.1) (ilt y9.1 (len y8))) (some (ax.mk (aZ y8 (itn y9.1) (aB.mk x2 (ah x0.files (itn y7.1)).data (ah x0.files (itn y7.1)).sure)) x0.room x0.fuse x0.down,0)) none) (af (bG y8 y9.1 [aB.mk x2 (ah x0.files (itn y7.1)).data (ah x0.files (itn y7.1)).sure]) fun y10=>some (ax.mk y10 x0.room x0.fuse x0.down,0))) (cnd (band (ile 0 y7.1) (ile y7.1 (len y8))) (cnd (band (ile 0 (wr .i64 (ai y7.1 1))) (ile (wr .i64 (ai y7.1 1)) (len y8))) (cnd (ile (ai (nti (itn y7.1)) (len (ay (aF y8 (itn (wr .i64 (ai y7.1 1)))) (itn (aA (len y8) (wr .i64 (ai y7.1 1))))))) (len y8)) (cnd (band (band (ile 0 (nti (nad (itn y7.1) (itn (len (ay (aF y8 (itn (wr .i64 (ai y7.1 1)))) (itn (aA (len y8) (wr .i64 (ai y7.1 1)))))))))) (ile (nti (nad (itn y7.1) (itn (len (ay (aF y8 (itn (wr .i64 (ai y7.1 1)))) (itn (aA (len y8) (wr .i64 (ai y7.1 1))))))))) (len y8))) (ile (len y8) (aA (len (dY y8 (itn y7.1) (ay (aF y8 (itn (wr .i64 (ai y7.1 1)))) (itn (aA (len y8) (wr .i64 (ai y7.1 1))))))) 0))) (af (dR (ax.mk (ay (dY (dY y8 (itn y7.1) (ay (aF y8 (itn (wr .i64 (ai y7.1 1)))) (itn (aA (len y8) (wr .i64 (ai y7.1 1)))))) (nad 0 (itn (nti (nad (itn y7.1) (itn (len (ay (aF y8 (itn (wr .i64 (ai y7.1 1)))) (itn (aA (len y8) (wr .i64 (ai y7.1 1))))))))))) (jJ aB (itn (aA (len y8) (nti (nad (itn y7.1) (itn (len (ay (aF y8 (itn (wr .i64 (ai y7.1 1)))) (itn (aA (len y8) (wr .i64 (ai y7.1 1))))))))))))) (nad (itn y7.1) (itn (len (ay (aF y8 (itn (wr .i64 (ai y7.1 1)))) (itn (aA (len y8) (wr .i64 (ai y7.1 1))))))))) x0.room x0.fuse x0.down) x2) fun y11=>cnd y11.2 (cnd (band (ile 0 y11.1) (ilt y11.1 (len (ay (dY (dY y8 (itn y7.1) (ay (aF y8 (itn (wr .i64 (ai y7.1 1)))) (itn (aA (len y8) (wr .i64 (ai y7.1 1)))))) (nad 0 (itn (nti (nad (itn y7.1) (itn (len (ay (aF y8 (itn (wr .i64 (ai y7.1 1)))) (itn (aA (len y8) (wr .i64 (ai y7.1 1))))))))))) (jJ aB (itn (aA (len y8) (nti (nad (itn y7.1) (itn (len (ay (aF y8 (itn (wr .i64 (ai y7.1 1)))) (itn (aA (len y8) (wr .i64 (ai y7.1 1))))))))))))) (nad (itn y7.1) (itn (len (ay (aF y8 (itn (wr .i64 (ai y7.1 1)))) (itn (aA (len y8) (wr .i64 (ai y7.1 1)))))))))))) (some (ax.mk (aZ (ay (dY (dY y8 (itn y7.1) (ay (aF y8 (itn (wr .i64 (ai y7.1 1)))) (itn (aA (len y8) (wr .i64 (ai y7.1 1)))))) (nad 0 (itn (nti (nad (itn y7.1) (itn (len (ay (aF y8 (itn (wr .i64 (ai y7.1 1)))) (itn (aA (len y8) (wr .i64 (ai y7.1 1))))))))))) (jJ aB (itn (aA (len y8) (nti (nad (itn y7.1) (itn (len (ay (aF y8 (itn (wr .i64 (ai y7.1 1)))) (itn (aA (len y8) (wr .i64 (ai y7.1 1))))))))))))) (nad (itn y7.1) (itn (len (ay (aF y8 (itn (wr .i64 (ai y7.1 1)))) (itn (aA (len y8) (wr .i64 (ai y7.1 1))))))))) (itn y11.1) (aB.mk x2 (ah x0.files (itn y7.1)).data (ah x0.files (itn y7.1)).sure)) x0.room x0.fuse x0.down,0)) none) (af (bG (ay (dY (dY y8 (itn y7.1) (ay (aF y8 (itn (wr .i64 (ai y7.1 1)))) (itn (aA (len y8) (wr .i64 (ai y7.1 1)))))) (nad 0 (itn (nti (nad (itn y7.1) (itn (len (ay (aF y8 (itn (wr .i64 (ai y7.1 1)))) (itn (aA (len y8) (wr .i64 (ai y7.1 1))))))))))) (jJ aB (itn (aA (len y8) (nti (nad (itn y7.1) (itn (len (ay (aF y8 (itn (wr .i64 (ai y7.1 1)))) (itn (aA (len y8) (wr .i64 (ai y7.1 1))))))))))))) (nad (itn y7.1) (itn (len (ay (aF y8 (itn (wr .i64 (ai y7.1 1)))) (itn (aA (len y8) (wr .i64 (ai y7.1 1))))))))) y11.1 [aB.mk x2 (ah x0.files (itn y7.1)).data (ah x0.files (itn y7.1)).sure]) fun y12=>some (ax.mk y12 x0.room x0.fuse x0.down,0))) none) none) none) none)) none) none) (cnd (band (ile 0 y7.1) (ilt y7.1 (len x0.files))) (af (aK x0.files) fun y13=>cnd (band (band (band (ile 0 y7.1) (ile y7.1 (wr .i64 (ai y7.1 1)))) (ile (wr .i64 (ai y7.1 1)) (len y13))) (band (ile (wr .i64 (ai y7.1 1)) (len y13)) (ile (len y13) (len y13)))) (cnd (ieq y7.1 (wr .i64 (ai y7.1 1))) (af (dR (ax.mk y13 x0.room (wr .i64 (aA x0.fuse 1)) x0.down) x2) fun y14=>cnd y14.2 (cnd (band (ile 0 y14.1) (ilt y14.1 (len y13))) (some (ax.mk (aZ y13 (itn y14.1) (aB.mk x2 (ah x0.files (itn y7.1)).data (ah x0.files (itn y7.1)).sure)) x0.room (wr .i64 (aA x0.fuse 1)) x0.down,0)) none) (af (bG y13 y14.1 [aB.mk x2 (ah x0.files (itn y7.1)).data (ah x0.files (itn y7.1)).sure]) fun y15=>some (ax.mk y15 x0.room (wr .i64 (aA x0.fuse 1)) x0.down,0))) (cnd (band (ile 0 y7.1) (ile y7.1 (len y13))) (cnd (band (ile 0 (wr .i64 (ai y7.1 1))) (ile (wr .i64 (ai y7.1 1)) (len y13))) (cnd (ile (ai (nti (itn y7.1)) (len (ay (aF y13 (itn (wr .i64 (ai y7.1 1)))) (itn (aA (len y13) (wr .i64 (ai y7.1 1))))))) (len y13)) (cnd (band (band (ile 0 (nti (nad (itn y7.1) (itn (len (ay (aF y13 (itn (wr .i64 (ai y7.1 1)))) (itn (aA (len y13) (wr .i64 (ai y7.1 1)))))))))) (ile (nti (nad (itn y7.1) (itn (len (ay (aF y13 (itn (wr .i64 (ai y7.1 1)))) (itn (aA (len y13) (wr .i64 (ai y7.1 1))))))))) (len y13))) (ile (len y13) (aA (len (dY y13 (itn y7.1) (ay (aF y13 (itn (wr .i64 (ai y7.1 1)))) (itn (aA (len y13) (wr .i64 (ai y7.1 1))))))) 0))) (af (dR (ax.mk (ay (dY (dY y13 (itn y7.1) (ay (aF y13 (itn (wr .i64 (ai y7.1 1)))) (itn (aA (len y13) (wr .i64 (ai y7.1 1)))))) (nad 0 (itn (nti (nad (itn y7.1) (itn (len (ay (aF y13 (itn (wr .i64 (ai y7.1 1)))) (itn (aA (len y13) (wr .i64 (ai y7.1 1))))))))))) (jJ aB (itn (aA (len y13) (nti (nad (itn y7.1) (itn (len (ay (aF y13 (itn (wr .i64 (ai y7.1 1)))) (itn (aA (len y13) (wr .i64 (ai y7.1 1))))))))))))) (nad (itn y7.1) (itn (len (ay (aF y13 (itn (wr .i64 (ai y7.1 1)))) (itn (aA (len y13) (wr .i64 (ai y7.1 1))))))))) x0.room (wr .i64 (aA x0.fuse 1)) x0.down) x2) fun y16=>cnd y16.2 (cnd (band (ile 0 y16.1) (ilt y16.1 (len (ay (dY (dY y13 (itn y7.1) (ay (aF y13 (itn (wr .i64 (ai y7.1 1)))) (itn (aA (len y13) (wr .i64 (ai y7.1 1)))))) (nad 0 (itn (nti (nad (itn y7.1) (itn (len (ay (aF y13 (itn (wr .i64 (ai y7.1 1)))) (itn (aA (len y13) (wr .i64 (ai y7.1 1))))))))))) (jJ aB (itn (aA (len y13) (nti (nad (itn y7.1) (itn (len (ay (aF y13 (itn (wr .i64 (ai y7.1 1)))) (itn (aA (len y13) (wr .i64 (ai y7.1 1))))))))))))) (nad (itn y7.1) (itn (len (ay (aF y13 (itn (wr .i64 (ai y7.1 1)))) (itn (aA (len y13) (wr .i64 (ai y7.1 1)))))))))))) (some (ax.mk (aZ (ay (dY (dY y13 (itn y7.1) (ay (aF y13 (itn (wr .i64 (ai y7.1 1)))) (itn (aA (len y13) (wr .i64 (ai y7.1 1)))))) (nad 0 (itn (nti (nad (itn y7.1) (itn (len (ay (aF y13 (itn (wr .i64 (ai y7.1 1)))) (itn (aA (len y13) (wr .i64 (ai y7.1 1))))))))))) (jJ aB (itn (aA (len y13) (nti (nad (itn y7.1) (itn (len (ay (aF y13 (itn (wr .i64 (ai y7.1 1)))) (itn (aA (len y13) (wr .i64 (ai y7.1 1))))))))))))) (nad (itn y7.1) (itn (len (ay (aF y13 (itn (wr .i64 (ai y7.1 1)))) (itn (aA (len y13) (wr .i64 (ai y7.1 1))))))))) (itn y16.1) (aB.mk x2 (ah x0.files (itn y7.1)).data (ah x0.files (itn y7.1)).sure)) x0.room (wr .i64 (aA x0.fuse 1)) x0.down,0)) none) (af (bG (ay (dY (dY y13 (itn y7.1) (ay (aF y13 (itn (wr .i64 (ai y7.1 1)))) (itn (aA (len y13) (wr .i64 (ai y7.1 1)))))) (nad 0 (itn (nti (nad (itn y7.1) (itn (len (ay (aF y13 (itn (wr .i64 (ai y7.1 1)))) (itn (aA (len y13) (wr .i64 (ai y7.1 1))))))))))) (jJ aB (itn (aA (len y13) (nti (nad (itn y7.1) (itn (len (ay (aF y13 (itn (wr .i64 (ai y7.1 1)))) (itn (aA (len y13) (wr .i64 (ai y7.1 1))))))))))))) (nad (itn y7.1) (itn (len (ay (aF y13 (itn (wr .i64 (ai y7.1 1)))) (itn (aA (len y13) (wr .i64 (ai y7.1 1))))))))) y16.1 [aB.mk x2 (ah x0.files (itn y7.1)).data (ah x0.files (itn y7.1)).sure]) fun y17=>some (ax.mk y17 x0.room (wr .i64 (aA x0.fuse 1)) x0.down,0))) none) none) none) none)) none) none))))) none
def GN:aH:=mkSpec [.val .disk,.str,.str] [.val .disk,.int .i64] false (fun x=>lH x.1 x.2.1 x.2.2)
theorem Uk:bW PG 144 GN:=okN [(216,mg),(217,nR),(80,iw),(219,mZ)] [214,221,222] ⟨rV,vK,jF,wo,trivial⟩ fun x=>by kernel_rfl
def DX (x0:ax) (x1:(List UInt8)) (x2:Int):Option (ax×Int):=af (iI x0 [x1]) fun y0=>cnd (aj (ieq y0 0)) (cnd (aj (ieq y0 0)) (some (x0,y0)) (cnd (ilt x2 0) (cnd (ilt x2 0) (some (x0,1)) (cnd (ieq x0.fuse 0) (some (ax.mk x0.files x0.room x0.fuse true,9)) (cnd (ieq x0.fuse (-1)) (af (aK x0.files) fun y1=>cnd (ilt 0 (len y1)) (cnd (band (ile 0 x2) (ile x2 (len (ah y1 0).data))) (af (dX (ay (ah y1 0).data (itn x2))) fun y2=>some (ax.mk (aZ (aZ y1 0 (aB.mk (ah y1 0).name y2 (ah y1 0).sure)) 0 (aB.mk (ah (aZ y1 0 (aB.mk (ah y1 0).name y2 (ah y1 0).sure)) 0).name (ah (aZ y1 0 (aB.mk (ah y1 0).name y2 (ah y1 0).sure)) 0).data (eU (ah y1 0).sure x2))) x0.room x0.fuse x0.down,0)) none) none) (af (aK x0.files) fun y3=>cnd (ilt 0 (len y3)) (cnd (band (ile 0 x2) (ile x2 (len (ah y3 0).data))) (af (dX (ay (ah y3 0).data (itn x2))) fun y4=>some (ax.mk (aZ (aZ y3 0 (aB.mk (ah y3 0).name y4 (ah y3 0).sure)) 0 (aB.mk (ah (aZ y3 0 (aB.mk (ah y3 0).name y4 (ah y3 0).sure)) 0).name (ah (aZ y3 0 (aB.mk (ah y3 0).name y4 (ah y3 0).sure)) 0).data (eU (ah y3 0).sure x2))) x0.room (wr .i64 (aA x0.fuse 1)) x0.down,0)) none) none)))) (cnd (ilt 0 (len x0.files)) (cnd (ilt (len (ah x0.files 0).data) x2) (some (x0,1)) (cnd (ieq x0.fuse 0) (some (ax.mk x0.files x0.room x0.fuse true,9)) (cnd (ieq x0.fuse (-1)) (af (aK x0.files) fun y5=>cnd (ilt 0 (len y5)) (cnd (band (ile 0 x2) (ile x2 (len (ah y5 0).data))) (af (dX (ay (ah y5 0).data (itn x2))) fun y6=>some (ax.mk (aZ (aZ y5 0 (aB.mk (ah y5 0).name y6 (ah y5 0).sure)) 0 (aB.mk (ah (aZ y5 0 (aB.mk (ah y5 0).name y6 (ah y5 0).sure)) 0).name (ah (aZ y5 0 (aB.mk (ah y5 0).name y6 (ah y5 0).sure)) 0).data (eU (ah y5 0).sure x2))) x0.room x0.fuse x0.down,0)) none) none) (af (aK x0.files) fun y7=>cnd (ilt 0 (len y7)) (cnd (band (ile 0 x2) (ile x2 (len (ah y7 0).data))) (af (dX (ay (ah y7 0).data (itn x2))) fun y8=>some (ax.mk (aZ (aZ y7 0 (aB.mk (ah y7 0).name y8 (ah y7 0).sure)) 0 (aB.mk (ah (aZ y7 0 (aB.mk (ah y7 0).name y8 (ah y7 0).sure)) 0).name (ah (aZ y7 0 (aB.mk (ah y7 0).name y8 (ah y7 0).sure)) 0).data (eU (ah y7 0).sure x2))) x0.room (wr .i64 (aA x0.fuse 1)) x0.down,0)) none) none)))) none))) (af (dR x0 x1) fun y9=>cnd (aj y9.2) (some (x0,7)) (cnd (ilt x2 0) (cnd (ilt x2 0) (some (x0,1)) (cnd (ieq x0.fuse 0) (some (ax.mk x0.files x0.room x0.fuse true,9)) (cnd (ieq x0.fuse (-1)) (af (aK x0.files) fun y10=>cnd (band (ile 0 y9.1) (ilt y9.1 (len y10))) (cnd (band (ile 0 x2) (ile x2 (len (ah y10 (itn y9.1)).data))) (af (dX (ay (ah y10 (itn y9.1)).data (itn x2))) fun y11=>some (ax.mk (aZ (aZ y10 (itn y9.1) (aB.mk (ah y10 (itn y9.1)).name y11 (ah y10 (itn y9.1)).sure)) (itn y9.1) (aB.mk (ah (aZ y10 (itn y9.1) (aB.mk (ah y10 (itn y9.1)).name y11 (ah y10 (itn y9.1)).sure)) (itn y9.1)).name (ah (aZ y10 (itn y9.1) (aB.mk (ah y10 (itn y9.1)).name y11 (ah y10 (itn y9.1)).sure)) (itn y9.1)).data (eU (ah y10 (itn y9.1)).sure x2))) x0.room x0.fuse x0.down,0)) none) none) (af (aK x0.files) fun y12=>cnd (band (ile 0 y9.1) (ilt y9.1 (len y12))) (cnd (band (ile 0 x2) (ile x2 (len (ah y12 (itn y9.1)).data))) (af (dX (ay (ah y12 (itn y9.1)).data (itn x2))) fun y13=>some (ax.mk (aZ (aZ y12 (itn y9.1) (aB.mk (ah y12 (itn y9.1)).name y13 (ah y12 (itn y9.1)).sure)) (itn y9.1) (aB.mk (ah (aZ y12 (itn y9.1) (aB.mk (ah y12 (itn y9.1)).name y13 (ah y12 (itn y9.1)).sure)) (itn y9.1)).name (ah (aZ y12 (itn y9.1) (aB.mk (ah y12 (itn y9.1)).name y13 (ah y12 (itn y9.1)).sure)) (itn y9.1)).data (eU (ah y12 (itn y9.1)).sure x2))) x0.room (wr .i64 (aA x0.fuse 1)) x0.down,0)) none) none)))) (cnd (band (ile 0 y9.1) (ilt y9.1 (len x0.files))) (cnd (ilt (len (ah x0.files (itn y9.1)).data) x2) (some (x0,1)) (cnd (ieq x0.fuse 0) (some (ax.mk x0.files x0.room x0.fuse true,9)) (cnd (ieq x0.fuse (-1)) (af (aK x0.files) fun y14=>cnd (band (ile 0 y9.1) (ilt y9.1 (len y14))) (cnd (band (ile 0 x2) (ile x2 (len (ah y14 (itn y9.1)).data))) (af (dX (ay (ah y14 (itn y9.1)).data (itn x2))) fun y15=>some (ax.mk (aZ (aZ y14 (itn y9.1) (aB.mk (ah y14 (itn y9.1)).name y15 (ah y14 (itn y9.1)).sure)) (itn y9.1) (aB.mk (ah (aZ y14 (itn y9.1) (aB.mk (ah y14 (itn y9.1)).name y15 (ah y14 (itn y9.1)).sure)) (itn y9.1)).name (ah (aZ y14 (itn y9.1) (aB.mk (ah y14 (itn y9.1)).name y15 (ah y14 (itn y9.1)).sure)) (itn y9.1)).data (eU (ah y14 (itn y9.1)).sure x2))) x0.room x0.fuse x0.down,0)) none) none) (af (aK x0.files) fun y16=>cnd (band (ile 0 y9.1) (ilt y9.1 (len y16))) (cnd (band (ile 0 x2) (ile x2 (len (ah y16 (itn y9.1)).data))) (af (dX (ay (ah y16 (itn y9.1)).data (itn x2))) fun y17=>some (ax.mk (aZ (aZ y16 (itn y9.1) (aB.mk (ah y16 (itn y9.1)).name y17 (ah y16 (itn y9.1)).sure)) (itn y9.1) (aB.mk (ah (aZ y16 (itn y9.1) (aB.mk (ah y16 (itn y9.1)).name y17 (ah y16 (itn y9.1)).sure)) (itn y9.1)).name (ah (aZ y16 (itn y9.1) (aB.mk (ah y16 (itn y9.1)).name y17 (ah y16 (itn y9.1)).sure)) (itn y9.1)).data (eU (ah y16 (itn y9.1)).sure x2))) x0.room (wr .i64 (aA x0.fuse 1)) x0.down,0)) none) none)))) none)))
def MV:aH:=mkSpec [.val .disk,.str,.int .i64] [.val .disk,.int .i64] false (fun x=>DX x.1 x.2.1 x.2.2)
theorem aaU:bW PG 170 MV:=okN [(216,mg),(217,nR),(80,iw),(168,qN)] [214,221] ⟨rV,vK,jF,Bv,trivial⟩ fun x=>by kernel_rfl
def iG (x0:ax) (x1:iE):Option (ax×Int):=af (Dh x1) fun y0=>cnd (aj y0) (some (x0,1)) (af (Bj x0) fun y1=>cnd (ieq y1.2 1) (cnd (ieq y1.2 1) (some (x0,y1.2)) (cnd (aj (ieq x1.gen (wr .i64 (ai y1.1.gen 1)))) (some (x0,8)) (af (lJ x1.gen) fun y2=>af (vM x1) fun y3=>af (oV x0 y2) fun y4=>cnd (ieq y4.2 7) (af (iD x0 y2 [y3.a0,y3.a1,y3.a2,y3.a3,y3.a4,y3.a5,y3.a6,y3.a7,y3.a8,y3.a9,y3.a10,y3.a11,y3.a12,y3.a13,y3.a14,y3.a15,y3.a16,y3.a17,y3.a18,y3.a19]) fun y5=>cnd (aj (ieq y5.2 0)) (some y5) (af (iU y5.1 y2) fun y6=>cnd (aj (ieq y6.2 0)) (some y6) (some (y6.1,0)))) (af (DX x0 y2 0) fun y7=>cnd (aj (ieq y7.2 0)) (some y7) (af (iD y7.1 y2 [y3.a0,y3.a1,y3.a2,y3.a3,y3.a4,y3.a5,y3.a6,y3.a7,y3.a8,y3.a9,y3.a10,y3.a11,y3.a12,y3.a13,y3.a14,y3.a15,y3.a16,y3.a17,y3.a18,y3.a19]) fun y8=>cnd (aj (ieq y8.2 0)) (some y8) (af (iU y8.1 y2) fun y9=>cnd (aj (ieq y9.2 0)) (some y9) (some (y9.1,0)))))))) (cnd (ieq y1.2 9) (some (x0,y1.2)) (cnd (aj (ieq x1.gen (wr .i64 (ai y1.1.gen 1)))) (some (x0,8)) (af (lJ x1.gen) fun y10=>af (vM x1) fun y11=>af (oV x0 y10) fun y12=>cnd (ieq y12.2 7) (af (iD x0 y10 [y11.a0,y11.a1,y11.a2,y11.a3,y11.a4,y11.a5,y11.a6,y11.a7,y11.a8,y11.a9,y11.a10,y11.a11,y11.a12,y11.a13,y11.a14,y11.a15,y11.a16,y11.a17,y11.a18,y11.a19]) fun y13=>cnd (aj (ieq y13.2 0)) (some y13) (af (iU y13.1 y10) fun y14=>cnd (aj (ieq y14.2 0)) (some y14) (some (y14.1,0)))) (af (DX x0 y10 0) fun y15=>cnd (aj (ieq y15.2 0)) (some y15) (af (iD y15.1 y10 [y11.a0,y11.a1,y11.a2,y11.a3,y11.a4,y11.a5,y11.a6,y11.a7,y11.a8,y11.a9,y11.a10,y11.a11,y11.a12,y11.a13,y11.a14,y11.a15,y11.a16,y11.a17,y11.a18,y11.a19]) fun y16=>cnd (aj (ieq y16.2 0)) (some y16) (af (iU y16.1 y10) fun y17=>cnd (aj (ieq y17.2 0)) (some y17) (some (y17.1,0)))))))))
def Je:aH:=mkSpec [.val .disk,.val .slot] [.val .disk,.int .i64] false (fun x=>iG x.1 x.2)
theorem WC:bW PG 147 Je:=okN [(225,BQ),(135,Eb),(212,D7),(226,BO),(136,yJ),(170,MV),(140,vG),(142,zq)] [228,229,230,227] ⟨ND,Pv,OC,MP,IY,aaU,DW,Iy,trivial⟩ fun x=>by kernel_rfl
def Af (x0:(List UInt8)):Option (Bool):=some (aj (ieq (oq [115,110,97,112,46] x0) 0))
def CP:aH:=mkSpec [.str] [.bool] true (fun x=>Af x)
def J8:Go.Shelf.Ren:=⟨fun | 174=>232 | 247=>293 | 245=>294 | 287=>321 | 279=>322 | 280=>323 | 281=>324 | 282=>325 | 321=>340 | 322=>341 | 316=>342 | 171=>344 | 205=>343 | 243=>349 | 246=>286 | 283=>314 | 284=>315 | 285=>316 | 286=>317 | 129=>334 | 317=>333 | 318=>335 | 319=>336 | 320=>337 | 337=>347 | 338=>348 | n=>n,fun | 9=>9 | 3=>3 | 2=>2 | 75=>291 | 85=>292 | 4=>4 | 167=>382 | 5=>5 | 53=>331 | 175=>383 | 46=>300 | 168=>385 | 37=>132 | 0=>0 | 210=>408 | 21=>21 | 127=>381 | 145=>414 | 143=>412 | 171=>376 | 173=>379 | 212=>398 | 51=>270 | 20=>20 | 213=>399 | 232=>415 | 233=>416 | 74=>290 | 209=>407 | 144=>413 | 80=>355 | n=>n,fun | 15=>2 | 16=>3 | 17=>1 | 18=>4 | 19=>5 | n=>n⟩
theorem kK:Go.Proofs.LaysC.n174 PG J8 where
 mixed:=by kernel_rfl
 f129:=by kernel_rfl
 f171:=by kernel_rfl
 f174:=by kernel_rfl
 f205:=by kernel_rfl
 f243:=by kernel_rfl
 f245:=by kernel_rfl
 f246:=by kernel_rfl
 f247:=by kernel_rfl
 f279:=by kernel_rfl
 f280:=by kernel_rfl
 f281:=by kernel_rfl
 f282:=by kernel_rfl
 f283:=by kernel_rfl
 f284:=by kernel_rfl
 f285:=by kernel_rfl
 f286:=by kernel_rfl
 f287:=by kernel_rfl
 f316:=by kernel_rfl
 f317:=by kernel_rfl
 f318:=by kernel_rfl
 f319:=by kernel_rfl
 f320:=by kernel_rfl
 f321:=by kernel_rfl
 f322:=by kernel_rfl
 f337:=by kernel_rfl
 f338:=by kernel_rfl
 t0:=by kernel_rfl
 a0:=fun w=>by kernel_rfl
 z0:=fun w=>by kernel_rfl
 v0:=fun w=>by kernel_rfl
 t2:=by kernel_rfl
 a2:=fun w=>by kernel_rfl
 z2:=fun w=>by kernel_rfl
 v2:=fun w=>by kernel_rfl
 t3:=by kernel_rfl
 a3:=fun w=>by kernel_rfl
 z3:=fun w=>by kernel_rfl
 v3:=fun w=>by kernel_rfl
 t4:=by kernel_rfl
 a4:=fun w=>by kernel_rfl
 z4:=fun w=>by kernel_rfl
 v4:=fun w=>by kernel_rfl
 t5:=by kernel_rfl
 a5:=fun w=>by kernel_rfl
 z5:=fun w=>by kernel_rfl
 v5:=fun w=>by kernel_rfl
 t9:=by kernel_rfl
 a9:=fun w=>by kernel_rfl
 z9:=fun w=>by kernel_rfl
 v9:=fun w=>by kernel_rfl
 t20:=by kernel_rfl
 a20:=fun w=>by kernel_rfl
 z20:=fun w=>by kernel_rfl
 v20:=fun w=>by kernel_rfl
 t21:=by kernel_rfl
 a21:=fun w=>by kernel_rfl
 z21:=fun w=>by kernel_rfl
 v21:=fun w=>by kernel_rfl
 t37:=by kernel_rfl
 a37:=fun w=>by kernel_rfl
 z37:=fun w=>by kernel_rfl
 v37:=fun w=>by kernel_rfl
 t46:=by kernel_rfl
 a46:=fun w=>by kernel_rfl
 z46:=fun w=>by kernel_rfl
 v46:=fun w=>by kernel_rfl
 t51:=by kernel_rfl
 a51:=fun w=>by kernel_rfl
 z51:=fun w=>by kernel_rfl
 v51:=fun w=>by kernel_rfl
 t53:=by kernel_rfl
 a53:=fun w=>by kernel_rfl
 z53:=fun w=>by kernel_rfl
 v53:=fun w=>by kernel_rfl
 t75:=by kernel_rfl
 a75:=fun w=>by kernel_rfl
 z75:=fun w=>by kernel_rfl
 v75:=fun w=>by kernel_rfl
 t85:=by kernel_rfl
 a85:=fun w=>by kernel_rfl
 z85:=fun w=>by kernel_rfl
 v85:=fun w=>by kernel_rfl
 t127:=by kernel_rfl
 a127:=fun w=>by kernel_rfl
 z127:=fun w=>by kernel_rfl
 v127:=fun w=>by kernel_rfl
 t143:=by kernel_rfl
 a143:=fun w=>by kernel_rfl
 z143:=fun w=>by kernel_rfl
 v143:=fun w=>by kernel_rfl
 t145:=by kernel_rfl
 a145:=fun w=>by kernel_rfl
 z145:=fun w=>by kernel_rfl
 v145:=fun w=>by kernel_rfl
 t167:=by kernel_rfl
 a167:=fun w=>by kernel_rfl
 z167:=fun w=>by kernel_rfl
 v167:=fun w=>by kernel_rfl
 t168:=by kernel_rfl
 a168:=fun w=>by kernel_rfl
 z168:=fun w=>by kernel_rfl
 v168:=fun w=>by kernel_rfl
 t171:=by kernel_rfl
 a171:=fun w=>by kernel_rfl
 z171:=fun w=>by kernel_rfl
 v171:=fun w=>by kernel_rfl
 t173:=by kernel_rfl
 a173:=fun w=>by kernel_rfl
 z173:=fun w=>by kernel_rfl
 v173:=fun w=>by kernel_rfl
 t175:=by kernel_rfl
 a175:=fun w=>by kernel_rfl
 z175:=fun w=>by kernel_rfl
 v175:=fun w=>by kernel_rfl
 t210:=by kernel_rfl
 a210:=fun w=>by kernel_rfl
 z210:=fun w=>by kernel_rfl
 v210:=fun w=>by kernel_rfl
 t212:=by kernel_rfl
 a212:=fun w=>by kernel_rfl
 z212:=fun w=>by kernel_rfl
 v212:=fun w=>by kernel_rfl
 t213:=by kernel_rfl
 a213:=fun w=>by kernel_rfl
 z213:=fun w=>by kernel_rfl
 t232:=by kernel_rfl
 a232:=fun w=>by kernel_rfl
 z232:=fun w=>by kernel_rfl
 v232:=fun w=>by kernel_rfl
 t233:=by kernel_rfl
 a233:=fun w=>by kernel_rfl
 z233:=fun w=>by kernel_rfl
 v233:=fun w=>by kernel_rfl
 g15:=by kernel_rfl
 g16:=by kernel_rfl
 g17:=by kernel_rfl
 g18:=by kernel_rfl
 g19:=by kernel_rfl
 t80:=by kernel_rfl
 a80:=fun w=>by kernel_rfl
 z80:=fun w=>by kernel_rfl
 v80:=fun w=>by kernel_rfl
 i0:=by kernel_rfl
 i2:=by kernel_rfl
 i3:=by kernel_rfl
 i4:=by kernel_rfl
 i5:=by kernel_rfl
 i9:=by kernel_rfl
 i20:=by kernel_rfl
 i21:=by kernel_rfl
 i37:=by kernel_rfl
 i46:=by kernel_rfl
 i51:=by kernel_rfl
 i53:=by kernel_rfl
 i75:=by kernel_rfl
 i80:=by kernel_rfl
 i85:=by kernel_rfl
 i127:=by kernel_rfl
 i143:=by kernel_rfl
 i145:=by kernel_rfl
 i167:=by kernel_rfl
 i168:=by kernel_rfl
 i171:=by kernel_rfl
 i173:=by kernel_rfl
 i175:=by kernel_rfl
 i210:=by kernel_rfl
 i212:=by kernel_rfl
 i232:=by kernel_rfl
 i233:=by kernel_rfl
 m15:=by kernel_rfl
 m16:=by kernel_rfl
 m17:=by kernel_rfl
 m18:=by kernel_rfl
 m19:=by kernel_rfl
 c0:=by kernel_rfl
 c2:=by kernel_rfl
 c3:=by kernel_rfl
 c4:=by kernel_rfl
 c5:=by kernel_rfl
 c9:=by kernel_rfl
 c20:=by kernel_rfl
 c21:=by kernel_rfl
 c37:=by kernel_rfl
 c46:=by kernel_rfl
 c51:=by kernel_rfl
 c53:=by kernel_rfl
 c75:=by kernel_rfl
 c80:=by kernel_rfl
 c85:=by kernel_rfl
 c127:=by kernel_rfl
 c143:=by kernel_rfl
 c145:=by kernel_rfl
 c167:=by kernel_rfl
 c168:=by kernel_rfl
 c171:=by kernel_rfl
 c173:=by kernel_rfl
 c175:=by kernel_rfl
 c210:=by kernel_rfl
 c212:=by kernel_rfl
 c213:=by kernel_rfl
 c232:=by kernel_rfl
 c233:=by kernel_rfl
def JA:Go.Shelf.Ren:=⟨fun | 103=>231 | 210=>292 | 206=>318 | n=>n,fun | 9=>9 | 4=>4 | 24=>288 | 3=>3 | n=>n,fun | n=>n⟩
theorem yZ:Go.Proofs.Lays.n103 PG JA where
 mixed:=by kernel_rfl
 f103:=by kernel_rfl
 f206:=by kernel_rfl
 f210:=by kernel_rfl
 t3:=by kernel_rfl
 a3:=fun w=>by kernel_rfl
 z3:=fun w=>by kernel_rfl
 v3:=fun w=>by kernel_rfl
 t4:=by kernel_rfl
 a4:=fun w=>by kernel_rfl
 z4:=fun w=>by kernel_rfl
 v4:=fun w=>by kernel_rfl
 t9:=by kernel_rfl
 a9:=fun w=>by kernel_rfl
 z9:=fun w=>by kernel_rfl
 v9:=fun w=>by kernel_rfl
 t24:=by kernel_rfl
 a24:=fun w=>by kernel_rfl
 z24:=fun w=>by kernel_rfl
 v24:=fun w=>by kernel_rfl
theorem abH {B B':Nat} {a b:World} (h:RowKit.Below B a b) (hB:B'<=B):RowKit.Below B' a b:=⟨h.os,h.tape,h.output,h.size,fun k hk=>h.block k (Nat.lt_of_lt_of_le hk hB)⟩
set_option maxHeartbeats 1000000 in
set_option maxRecDepth 100000 in
theorem Y1 (s r:ByteArray) (w:World)
 (h1:Calls PG 231 #[.string s,.string ⟨#[115,110,97,112,46]⟩] w fun e w'=>e= .returned (.tuple #[.string r,.bool false])/\w'=w):
 Calls PG 148 #[.string s] w fun e w'=>e= .returned (.bool false)/\RowKit.Below w.heap.size w w':=by
 go_enter Go.Proofs.Tryz.func148,Go.Proofs.Tryz.ntmps148
 go_wp2_with (go_at_call 231;refine h1.mono ?_;rintro e W1 ⟨rfl,rfl⟩)
 all_goals (go_ret;exact⟨rfl,RowKit.Below.refl _ _⟩)
set_option maxHeartbeats 1000000 in
set_option maxRecDepth 100000 in
theorem VU (s r:ByteArray) (w:World)
 (h1:Calls PG 231 #[.string s,.string ⟨#[115,110,97,112,46]⟩] w fun e w'=>e= .returned (.tuple #[.string r,.bool true])/\w'=w) (hr:r.size≠10):
 Calls PG 148 #[.string s] w fun e w'=>e= .returned (.bool false)/\RowKit.Below w.heap.size w w':=by
 have hr':((((r.size:Nat):Int)) != 10)=true:=by simp;omega
 go_enter Go.Proofs.Tryz.func148,Go.Proofs.Tryz.ntmps148
 go_wp2_with (go_at_call 231;refine h1.mono ?_;rintro e W1 ⟨rfl,rfl⟩)
 all_goals (go_ret;exact⟨rfl,RowKit.Below.refl _ _⟩)
set_option maxHeartbeats 1000000 in
set_option maxRecDepth 100000 in
theorem MS (s r:ByteArray) (w:World) (v:Int) (t:TypeId) (q:Value->Prop)
 (h1:Calls PG 231 #[.string s,.string ⟨#[115,110,97,112,46]⟩] w fun e w'=>e= .returned (.tuple #[.string r,.bool true])/\w'=w) (hr:r.size=10)
 (h2:Calls PG 232 #[.string r,.int .i64 10,.int .i64 64] w fun e w'=>∃p,e= .returned (.tuple #[.int .i64 v,.iface t p])/\RowKit.Below w.heap.size w w'):
 Calls PG 148 #[.string s] w fun e w'=>e= .returned (.bool false)/\RowKit.Below w.heap.size w w':=by
 have hr':((r.size:Nat):Int)=10:=by omega
 go_enter Go.Proofs.Tryz.func148,Go.Proofs.Tryz.ntmps148
 go_wp2_with (first | (go_at_call 231;refine h1.mono ?_;rintro e W1 ⟨rfl,rfl⟩) | (go_at_call 232;refine h2.mono ?_;rintro e W2 ⟨p,rfl,hb⟩))
 all_goals (go_ret;exact⟨rfl,hb⟩)
set_option maxHeartbeats 1000000 in
set_option maxRecDepth 100000 in
theorem YE (s r:ByteArray) (w:World) (v:Int) (nm:ByteArray)
 (h1:Calls PG 231 #[.string s,.string ⟨#[115,110,97,112,46]⟩] w fun e w'=>e= .returned (.tuple #[.string r,.bool true])/\w'=w) (hr:r.size=10)
 (h2:Calls PG 232 #[.string r,.int .i64 10,.int .i64 64] w fun e w'=>e= .returned (.tuple #[.int .i64 v,.nilIface])/\RowKit.Below w.heap.size w w')
 (h3:∀w1,RowKit.Below w.heap.size w w1->Calls PG 145 #[.int .i64 v] w1 fun e w'=>e= .returned (.string nm)/\RowKit.Below w1.heap.size w1 w'):
 Calls PG 148 #[.string s] w fun e w'=>e= .returned (.bool (nm.toList == s.toList))/\RowKit.Below w.heap.size w w':=by
 have hr':((r.size:Nat):Int)=10:=by omega
 go_enter Go.Proofs.Tryz.func148,Go.Proofs.Tryz.ntmps148
 go_wp2_with (first | (go_at_call 231;refine h1.mono ?_;rintro e W1 ⟨rfl,rfl⟩) | (go_at_call 232;refine h2.mono ?_;rintro e W2 ⟨rfl,hb⟩) | (go_at_call 145;refine(h3 _ hb).mono ?_;rintro e W3 ⟨rfl,hb3⟩))
 all_goals (go_ret;exact⟨rfl,hb.trans (abH hb3 hb.size)⟩)
theorem adW (v:Int) (hv:inI v):gu v=some (oM [115,110,97,112,46] v):=by
 unfold inI at hv
 unfold gu oM jy lD
 by_cases h:v<1\/1000000000<v
 ·rw[if_pos h,show bor (ilt v 1) (ilt 1000000000 v)=true by rw[OD,yR,yR];exact h];rfl
 ·have e1:bor (ilt v 1) (ilt 1000000000 v)=false:=by
   rw[Bool.eq_false_iff];intro g;rw[OD,yR,yR]at g;exact h g
  have hl:(fmt10 v).length<=10:=by
   unfold fmt10;rw[if_neg (by omega)]
   exact DN 20 _ 10 (by have:(10:Nat)^10=10000000000:=by decide
                        omega) (by decide)
  have e2:wr .i64 (aA 10 (len (fmt10 v)))=((10 - (fmt10 v).length:Nat):Int):=by
   unfold aA len wr IntKind.wrap
   simp [IntKind.bits,IntKind.signed]
   omega
  have e3:aau v 10=some (fmt10 v):=by
   unfold aau
   rw[show band (ieq 10 10) (band (ile (-9223372036854775808) v) (ile v 9223372036854775807))=true by rw[lu,lu,iL,iL];exact⟨rfl,hv⟩];rfl
  have e4:aag [UInt8.ofNat 48] ((10 - (fmt10 v).length:Nat):Int)=some (List.replicate (10 - (fmt10 v).length) 48):=by
   unfold aag
   rw[show band (ile 0 ((10 - (fmt10 v).length:Nat):Int)) (band (ile ((10 - (fmt10 v).length:Nat):Int) 9223372036854775807) (ile (fQ (len [UInt8.ofNat 48]) ((10 - (fmt10 v).length:Nat):Int)) 140737488355328))=true by
    rw[lu,lu,iL,iL,iL];simp only[fQ,len,List.length_singleton];omega]
   simp only[cnd,itn,Int.toNat_natCast]
   rw[show UInt8.ofNat 48=48 from rfl,Ph]
  rw[if_neg h,e1,e3]
  simp only[cnd,af,Option.bind_some,e2,e4]
  rw[show ile (ai 5 (len (List.replicate (10 - (fmt10 v).length) (48:UInt8)))) 68719476736=true by rw[iL];simp only[ai,len,List.length_replicate];omega]
  simp only
  rw[show ile (ai (len (dm [UInt8.ofNat 115,UInt8.ofNat 110,UInt8.ofNat 97,UInt8.ofNat 112,UInt8.ofNat 46] (List.replicate (10 - (fmt10 v).length) (48:UInt8)))) (len (fmt10 v))) 68719476736=true by rw[iL];simp only[ai,len,dm,List.length_append,List.length_replicate,List.length_cons,List.length_nil];omega]
  rfl
theorem PX:bW PG 148 CP:=by
 refine U2 (xs:=[.str]) (rs:=[.bool]) rfl rfl (U9 yL (by kernel_rfl)) fun(x:List UInt8) (y:Bool) w hrun hg=> ?_
 have hy:y=aj (ieq (oq [115,110,97,112,46] x) 0):=(Option.some.inj hrun).symm
 subst hy
 show Calls PG 148 #[.string ⟨x.toArray⟩] w fun e w'=>e= .returned (.bool (aj (ieq (oq [115,110,97,112,46] x) 0)))/\RowKit.Below w.heap.size w w'
 have hcut:=Go.Proofs.Any.strings_CutPrefix yZ ⟨x.toArray⟩ ⟨#[115,110,97,112,46]⟩ w
 change Calls PG 231 #[.string ⟨x.toArray⟩,.string ⟨#[115,110,97,112,46]⟩] w (fun e w'=>e= .returned (.tuple #[.string ⟨(Go.Lib.trimPrefix x [115,110,97,112,46]).toArray⟩,.bool (Go.Lib.hasPrefix x [115,110,97,112,46])])/\w'=w)at hcut
 have nz:∀b:Bool,b=decide (oq [115,110,97,112,46] x≠0)->aj (ieq (oq [115,110,97,112,46] x) 0)=b:=fun b hb=>by
  rw[hb]
  by_cases h:oq [115,110,97,112,46] x=0<;>simp [aj,ieq,h]
 cases hpf:Go.Lib.hasPrefix x [115,110,97,112,46]with
 |false=>
  rw[hpf]at hcut
  have hz:oq [115,110,97,112,46] x=0:=if_neg fun g=>by
   have:Go.Lib.hasPrefix x [115,110,97,112,46]=true:=by
    unfold Go.Lib.hasPrefix
    rw[List.isPrefixOf_iff_prefix]
    exact⟨x.drop 5,by conv=>rhs;rw[<-List.take_append_drop 5 x,show x.take 5=_ from g.1]⟩
   rw[hpf]at this;cases this
  rw[hz]
  exact Y1 _ _ w hcut
 |true=>
  rw[hpf]at hcut
  have htk:x.take 5=[115,110,97,112,46]:=by
   unfold Go.Lib.hasPrefix at hpf
   rw[List.isPrefixOf_iff_prefix]at hpf
   obtain⟨r,rfl⟩:=hpf
   rfl
  rw[show Go.Lib.trimPrefix x [115,110,97,112,46]=x.drop 5 by unfold Go.Lib.trimPrefix;rw[if_pos hpf];rfl]at hcut
  by_cases hl:(x.drop 5).length=10
  ·have hsame:=aea [115,110,97,112,46] x htk (by simp) hl
   change (match Go.Lib.parseIntB 64 (x.drop 5)with | .ok v=>decide (oM [115,110,97,112,46] v=x) | _=>false)=_ at hsame
   have hsz:(⟨(x.drop 5).toArray⟩:ByteArray).size=10:=by
    show(x.drop 5).toArray.size=10
    rw[List.size_toArray];exact hl
   cases hp:Go.Lib.parseIntB 64 (x.drop 5)with
   |ok v=>
    rw[hp]at hsame
    have h2:=(Go.Proofs.Any.strconv_ParseInt_10_at64_ok kK ⟨(x.drop 5).toArray⟩ (by rw[hsz];decide) v hp w).mono (R':=fun e w'=>e= .returned (.tuple #[.int .i64 v,.nilIface])/\RowKit.Below w.heap.size w w') fun e w' ⟨he,hw⟩=>⟨he,by
     rcases hw with rfl | ⟨t,rfl⟩
     ·exact RowKit.Below.refl _ _
     ·exact Go.Lib.bytesWorld_below _ _ _⟩
    have h3:∀w1,RowKit.Below w.heap.size w w1->Calls PG 145 #[.int .i64 v] w1 fun e w'=>e= .returned (.string ⟨(oM [115,110,97,112,46] v).toArray⟩)/\RowKit.Below w1.heap.size w1 w':=fun w1 hb=>
     bW.calls (xs:=[.int .i64]) (r:= .str) yL (by kernel_rfl) Nl rfl rfl v (oM [115,110,97,112,46] v) (adW v (adU hp)) w1 (hg.mono (fun b h=>Nat.lt_of_lt_of_le h hb.size) (fun b h=>hb.block b h))
    have:=YE ⟨x.toArray⟩ ⟨(x.drop 5).toArray⟩ w v ⟨(oM [115,110,97,112,46] v).toArray⟩ hcut hsz h2 h3
    rw[ByteArray.toList_eq,ByteArray.toList_eq]at this
    rw[nz _ hsame]
    refine this.mono fun e w' ⟨he,hb⟩=>⟨he.trans ?_,hb⟩
    congr 2
    simp only
    rw[Bool.eq_iff_iff];simp
   |«syntax»=>
    rw[hp]at hsame
    obtain⟨_,c,t,fr,hc,te,pe,rfl⟩:=hg (2,acw) (by simp [glL])
    have hcell:w.cell? ⟨2,0,none⟩=some (.iface te pe):=by unfold World.cell?;simp only[hc];rfl
    rw[nz _ hsame]
    refine MS ⟨x.toArray⟩ ⟨(x.drop 5).toArray⟩ w _ _ (fun _=>True) hcut hsz ((Go.Proofs.Any.strconv_ParseInt_10_at64_syntax kK ⟨(x.drop 5).toArray⟩ (by rw[hsz];decide) hp _ w hcell (.inr ⟨te,pe,rfl⟩)).mono fun e w' ⟨N,he,_,_,hb⟩=>⟨_,he,hb⟩)
   |range=>
    rw[hp]at hsame
    obtain⟨_,c,t,fr,hc,te,pe,rfl⟩:=hg (3,acw) (by simp [glL])
    have hcell:w.cell? ⟨3,0,none⟩=some (.iface te pe):=by unfold World.cell?;simp only[hc];rfl
    rw[nz _ hsame]
    refine MS ⟨x.toArray⟩ ⟨(x.drop 5).toArray⟩ w _ _ (fun _=>True) hcut hsz ((Go.Proofs.Any.strconv_ParseInt_10_at64_range kK ⟨(x.drop 5).toArray⟩ (by rw[hsz];decide) hp _ w hcell (.inr ⟨te,pe,rfl⟩)).mono fun e w' ⟨N,he,_,_,hb⟩=>⟨_,he,hb⟩)
  ·have hz:oq [115,110,97,112,46] x=0:=if_neg fun g=>hl g.2.1
   rw[hz]
   refine VU _ _ w hcut fun g=>hl ?_
   have g:(x.drop 5).toArray.size=10:=g
   rwa[List.size_toArray]at g
def aV (p0:Int) (p1:(List aB)) (p2:Int) (v0:Int) (v1:cu):Option ((Int×cu) ⊕ ((cu))):=cnd (ilt v0 p0) (cnd (band (ile 0 v0) (ilt v0 (len p1))) (af (Af (ah p1 (itn v0)).name) fun y0=>af (cnd y0 (gu p2) (some [])) fun y1=>cnd (band y0 (aj (seq (ah p1 (itn v0)).name y1))) (cnd (ieq v1.e 0) (af (kE v1.d (ah p1 (itn v0)).name) fun y2=>some (Sum.inl (wr .i64 (ai v0 1),cu.mk y2.1 y2.2))) (some (Sum.inl (wr .i64 (ai v0 1),v1)))) (some (Sum.inl (wr .i64 (ai v0 1),v1)))) none) (some (Sum.inr v1))
def MF:dV:=LSh.spec ⟨304,[(72,.int .i64),(71,.ro .file)],[(11,.mp 336 0),(10,.mp 304 0)],[(304,[.int .i64])],[(73,.int .i64)],[(336,[.val .keeper])],[]⟩ [⟨.exit 1,[],[(336,[.val .keeper])],[]⟩] (sP [(15,1),(73,19)]) (fun p v=>aV p.1 p.2.1 p.2.2 v.1 v.2)
def Dj (x0:ax) (x1:aC):Option (ax×Int×Int):=af (IQ x1) fun y0=>cnd (aj (ieq y0.2 0)) (some (x0,0,1)) (af (Bj x0) fun y1=>cnd (ieq y1.2 1) (some (x0,0,y1.2)) (cnd (ieq y1.2 9) (some (x0,0,y1.2)) (cnd (ile 1000000000 y1.1.gen) (some (x0,0,3)) (af (oV x0 [(UInt8.ofNat 116),(UInt8.ofNat 109),(UInt8.ofNat 112)]) fun y2=>cnd (ieq y2.2 0) (af (kE x0 [(UInt8.ofNat 116),(UInt8.ofNat 109),(UInt8.ofNat 112)]) fun y3=>cnd (ieq y3.2 0) (af (iD y3.1 [(UInt8.ofNat 116),(UInt8.ofNat 109),(UInt8.ofNat 112)] y0.1) fun y4=>cnd (ieq y4.2 0) (af (iU y4.1 [(UInt8.ofNat 116),(UInt8.ofNat 109),(UInt8.ofNat 112)]) fun y5=>cnd (ieq y5.2 0) (af (gu (wr .i64 (ai y1.1.gen 1))) fun y6=>af (lH y5.1 [(UInt8.ofNat 116),(UInt8.ofNat 109),(UInt8.ofNat 112)] y6) fun y7=>cnd (ieq y7.2 0) (af (iG y7.1 (iE.mk (wr .i64 (ai y1.1.gen 1)) x1.lsn)) fun y8=>af (bD (fun v=>aV (len y8.1.files) y8.1.files (wr .i64 (ai y1.1.gen 1)) v.1 v.2) LF (0,cu.mk y8.1 y8.2)) fun y9=>cnd (aj (ieq y9.e 0)) (some (y9.d,0,y9.e)) (some (y9.d,wr .i64 (ai y1.1.gen 1),0))) (af (bD (fun v=>aV (len y7.1.files) y7.1.files (wr .i64 (ai y1.1.gen 1)) v.1 v.2) LF (0,cu.mk y7.1 y7.2)) fun y10=>cnd (aj (ieq y10.e 0)) (some (y10.d,0,y10.e)) (some (y10.d,wr .i64 (ai y1.1.gen 1),0)))) (cnd (ieq y5.2 0) (af (iG y5.1 (iE.mk (wr .i64 (ai y1.1.gen 1)) x1.lsn)) fun y11=>af (bD (fun v=>aV (len y11.1.files) y11.1.files (wr .i64 (ai y1.1.gen 1)) v.1 v.2) LF (0,cu.mk y11.1 y11.2)) fun y12=>cnd (aj (ieq y12.e 0)) (some (y12.d,0,y12.e)) (some (y12.d,wr .i64 (ai y1.1.gen 1),0))) (af (bD (fun v=>aV (len y5.1.files) y5.1.files (wr .i64 (ai y1.1.gen 1)) v.1 v.2) LF (0,cu.mk y5.1 y5.2)) fun y13=>cnd (aj (ieq y13.e 0)) (some (y13.d,0,y13.e)) (some (y13.d,wr .i64 (ai y1.1.gen 1),0))))) (cnd (ieq y4.2 0) (af (gu (wr .i64 (ai y1.1.gen 1))) fun y14=>af (lH y4.1 [(UInt8.ofNat 116),(UInt8.ofNat 109),(UInt8.ofNat 112)] y14) fun y15=>cnd (ieq y15.2 0) (af (iG y15.1 (iE.mk (wr .i64 (ai y1.1.gen 1)) x1.lsn)) fun y16=>af (bD (fun v=>aV (len y16.1.files) y16.1.files (wr .i64 (ai y1.1.gen 1)) v.1 v.2) LF (0,cu.mk y16.1 y16.2)) fun y17=>cnd (aj (ieq y17.e 0)) (some (y17.d,0,y17.e)) (some (y17.d,wr .i64 (ai y1.1.gen 1),0))) (af (bD (fun v=>aV (len y15.1.files) y15.1.files (wr .i64 (ai y1.1.gen 1)) v.1 v.2) LF (0,cu.mk y15.1 y15.2)) fun y18=>cnd (aj (ieq y18.e 0)) (some (y18.d,0,y18.e)) (some (y18.d,wr .i64 (ai y1.1.gen 1),0)))) (cnd (ieq y4.2 0) (af (iG y4.1 (iE.mk (wr .i64 (ai y1.1.gen 1)) x1.lsn)) fun y19=>af (bD (fun v=>aV (len y19.1.files) y19.1.files (wr .i64 (ai y1.1.gen 1)) v.1 v.2) LF (0,cu.mk y19.1 y19.2)) fun y20=>cnd (aj (ieq y20.e 0)) (some (y20.d,0,y20.e)) (some (y20.d,wr .i64 (ai y1.1.gen 1),0))) (af (bD (fun v=>aV (len y4.1.files) y4.1.files (wr .i64 (ai y1.1.gen 1)) v.1 v.2) LF (0,cu.mk y4.1 y4.2)) fun y21=>cnd (aj (ieq y21.e 0)) (some (y21.d,0,y21.e)) (some (y21.d,wr .i64 (ai y1.1.gen 1),0)))))) (cnd (ieq y3.2 0) (af (iU y3.1 [(UInt8.ofNat 116),(UInt8.ofNat 109),(UInt8.ofNat 112)]) fun y22=>cnd (ieq y22.2 0) (af (gu (wr .i64 (ai y1.1.gen 1))) fun y23=>af (lH y22.1 [(UInt8.ofNat 116),(UInt8.ofNat 109),(UInt8.ofNat 112)] y23) fun y24=>cnd (ieq y24.2 0) (af (iG y24.1 (iE.mk (wr .i64 (ai y1.1.gen 1)) x1.lsn)) fun y25=>af (bD (fun v=>aV (len y25.1.files) y25.1.files (wr .i64 (ai y1.1.gen 1)) v.1 v.2) LF (0,cu.mk y25.1 y25.2)) fun y26=>cnd (aj (ieq y26.e 0)) (some (y26.d,0,y26.e)) (some (y26.d,wr .i64 (ai y1.1.gen 1),0))) (af (bD (fun v=>aV (len y24.1.files) y24.1.files (wr .i64 (ai y1.1.gen 1)) v.1 v.2) LF (0,cu.mk y24.1 y24.2)) fun y27=>cnd (aj (ieq y27.e 0)) (some (y27.d,0,y27.e)) (some (y27.d,wr .i64 (ai y1.1.gen 1),0)))) (cnd (ieq y22.2 0) (af (iG y22.1 (iE.mk (wr .i64 (ai y1.1.gen 1)) x1.lsn)) fun y28=>af (bD (fun v=>aV (len y28.1.files) y28.1.files (wr .i64 (ai y1.1.gen 1)) v.1 v.2) LF (0,cu.mk y28.1 y28.2)) fun y29=>cnd (aj (ieq y29.e 0)) (some (y29.d,0,y29.e)) (some (y29.d,wr .i64 (ai y1.1.gen 1),0))) (af (bD (fun v=>aV (len y22.1.files) y22.1.files (wr .i64 (ai y1.1.gen 1)) v.1 v.2) LF (0,cu.mk y22.1 y22.2)) fun y30=>cnd (aj (ieq y30.e 0)) (some (y30.d,0,y30.e)) (some (y30.d,wr .i64 (ai y1.1.gen 1),0))))) (cnd (ieq y3.2 0) (af (gu (wr .i64 (ai y1.1.gen 1))) fun y31=>af (lH y3.1 [(UInt8.ofNat 116),(UInt8.ofNat 109),(UInt8.ofNat 112)] y31) fun y32=>cnd (ieq y32.2 0) (af (iG y32.1 (iE.mk (wr .i64 (ai y1.1.gen 1)) x1.lsn)) fun y33=>af (bD (fun v=>aV (len y33.1.files) y33.1.files (wr .i64 (ai y1.1.gen 1)) v.1 v.2) LF (0,cu.mk y33.1 y33.2)) fun y34=>cnd (aj (ieq y34.e 0)) (some (y34.d,0,y34.e)) (some (y34.d,wr .i64 (ai y1.1.gen 1),0))) (af (bD (fun v=>aV (len y32.1.files) y32.1.files (wr .i64 (ai y1.1.gen 1)) v.1 v.2) LF (0,cu.mk y32.1 y32.2)) fun y35=>cnd (aj (ieq y35.e 0)) (some (y35.d,0,y35.e)) (some (y35.d,wr .i64 (ai y1.1.gen 1),0)))) (cnd (ieq y3.2 0) (af (iG y3.1 (iE.mk (wr .i64 (ai y1.1.gen 1)) x1.lsn)) fun y36=>af (bD (fun v=>aV (len y36.1.files) y36.1.files (wr .i64 (ai y1.1.gen 1)) v.1 v.2) LF (0,cu.mk y36.1 y36.2)) fun y37=>cnd (aj (ieq y37.e 0)) (some (y37.d,0,y37.e)) (some (y37.d,wr .i64 (ai y1.1.gen 1),0))) (af (bD (fun v=>aV (len y3.1.files) y3.1.files (wr .i64 (ai y1.1.gen 1)) v.1 v.2) LF (0,cu.mk y3.1 y3.2)) fun y38=>cnd (aj (ieq y38.e 0)) (some (y38.d,0,y38.e)) (some (y38.d,wr .i64 (ai y1.1.gen 1),0))))))) (af (iD x0 [(UInt8.ofNat 116),(UInt8.ofNat 109),(UInt8.ofNat 112)] y0.1) fun y39=>cnd (ieq y39.2 0) (af (iU y39.1 [(UInt8.ofNat 116),(UInt8.ofNat 109),(UInt8.ofNat 112)]) fun y40=>cnd (ieq y40.2 0) (af (gu (wr .i64 (ai y1.1.gen 1))) fun y41=>af (lH y40.1 [(UInt8.ofNat 116),(UInt8.ofNat 109),(UInt8.ofNat 112)] y41) fun y42=>cnd (ieq y42.2 0) (af (iG y42.1 (iE.mk (wr .i64 (ai y1.1.gen 1)) x1.lsn)) fun y43=>af (bD (fun v=>aV (len y43.1.files) y43.1.files (wr .i64 (ai y1.1.gen 1)) v.1 v.2) LF (0,cu.mk y43.1 y43.2)) fun y44=>cnd (aj (ieq y44.e 0)) (some (y44.d,0,y44.e)) (some (y44.d,wr .i64 (ai y1.1.gen 1),0))) (af (bD (fun v=>aV (len y42.1.files) y42.1.files (wr .i64 (ai y1.1.gen 1)) v.1 v.2) LF (0,cu.mk y42.1 y42.2)) fun y45=>cnd (aj (ieq y45.e 0)) (some (y45.d,0,y45.e)) (some (y45.d,wr .i64 (ai y1.1.gen 1),0)))) (cnd (ieq y40.2 0) (af (iG y40.1 (iE.mk (wr .i64 (ai y1.1.gen 1)) x1.lsn)) fun y46=>af (bD (fun v=>aV (len y46.1.files) y46.1.files (wr .i64 (ai y1.1.gen 1)) v.1 v.2) LF (0,cu.mk y46.1 y46.2)) fun y47=>cnd (aj (ieq y47.e 0)) (some (y47.d,0,y47.e)) (some (y47.d,wr .i64 (ai y1.1.gen 1),0))) (af (bD (fun v=>aV (len y40.1.files) y40.1.files (wr .i64 (ai y1.1.gen 1)) v.1 v.2) LF (0,cu.mk y40.1 y40.2)) fun y48=>cnd (aj (ieq y48.e 0)) (some (y48.d,0,y48.e)) (some (y48.d,wr .i64 (ai y1.1.gen 1),0))))) (cnd (ieq y39.2 0) (af (gu (wr .i64 (ai y1.1.gen 1))) fun y49=>af (lH y39.1 [(UInt8.ofNat 116),(UInt8.ofNat 109),(UInt8.ofNat 112)] y49) fun y50=>cnd (ieq y50.2 0) (af (iG y50.1 (iE.mk (wr .i64 (ai y1.1.gen 1)) x1.lsn)) fun y51=>af (bD (fun v=>aV (len y51.1.files) y51.1.files (wr .i64 (ai y1.1.gen 1)) v.1 v.2) LF (0,cu.mk y51.1 y51.2)) fun y52=>cnd (aj (ieq y52.e 0)) (some (y52.d,0,y52.e)) (some (y52.d,wr .i64 (ai y1.1.gen 1),0))) (af (bD (fun v=>aV (len y50.1.files) y50.1.files (wr .i64 (ai y1.1.gen 1)) v.1 v.2) LF (0,cu.mk y50.1 y50.2)) fun y53=>cnd (aj (ieq y53.e 0)) (some (y53.d,0,y53.e)) (some (y53.d,wr .i64 (ai y1.1.gen 1),0)))) (cnd (ieq y39.2 0) (af (iG y39.1 (iE.mk (wr .i64 (ai y1.1.gen 1)) x1.lsn)) fun y54=>af (bD (fun v=>aV (len y54.1.files) y54.1.files (wr .i64 (ai y1.1.gen 1)) v.1 v.2) LF (0,cu.mk y54.1 y54.2)) fun y55=>cnd (aj (ieq y55.e 0)) (some (y55.d,0,y55.e)) (some (y55.d,wr .i64 (ai y1.1.gen 1),0))) (af (bD (fun v=>aV (len y39.1.files) y39.1.files (wr .i64 (ai y1.1.gen 1)) v.1 v.2) LF (0,cu.mk y39.1 y39.2)) fun y56=>cnd (aj (ieq y56.e 0)) (some (y56.d,0,y56.e)) (some (y56.d,wr .i64 (ai y1.1.gen 1),0))))))))))
def Jc:aH:=mkSpec [.val .disk,.val .state] [.val .disk,.int .i64,.int .i64] false (fun x=>Dj x.1 x.2)
theorem Wv:bW PG 74 Jc:=okP [(134,I8),(135,Eb),(136,yJ),(150,AL),(140,vG),(142,zq),(145,Jk),(144,GN),(147,Je),(148,CP)] [4095,137,215,138,139,141,143,146] [(74,65530,MF)] ⟨Wx,Pv,IY,JM,DW,Iy,Nl,Uk,WC,PX,trivial⟩ (fun K=>⟨kz K fun p v=>by kernel_rfl,trivial⟩) fun x=>by kernel_rfl
def FM (x0:aW):Option (aW×(List jw)×Int):=af (mW x0) fun y0=>cnd (aj (ieq y0.2.2 0)) (some y0) (af (Dj y0.1.disk y0.1.state) fun y1=>cnd (ieq y1.2.2 0) (af (xP y0.1.wal y1.1 y0.1.state.lsn) fun y2=>cnd (ieq y2.2 0) (some (aW.mk y2.1 y0.1.wal y0.1.state y0.1.outbox y0.1.feed y1.2.1 y0.1.up,y0.2.1,y2.2)) (cnd y2.1.down (af (o6 (aW.mk y2.1 y0.1.wal y0.1.state y0.1.outbox y0.1.feed y0.1.gen y0.1.up)) fun y3=>some (y3,y0.2.1,y2.2)) (some (aW.mk y2.1 y0.1.wal y0.1.state y0.1.outbox y0.1.feed y0.1.gen y0.1.up,y0.2.1,y2.2)))) (cnd (ieq y1.2.2 0) (some (aW.mk y1.1 y0.1.wal y0.1.state y0.1.outbox y0.1.feed y1.2.1 y0.1.up,y0.2.1,y1.2.2)) (cnd y1.1.down (af (o6 (aW.mk y1.1 y0.1.wal y0.1.state y0.1.outbox y0.1.feed y0.1.gen y0.1.up)) fun y4=>some (y4,y0.2.1,y1.2.2)) (some (aW.mk y1.1 y0.1.wal y0.1.state y0.1.outbox y0.1.feed y0.1.gen y0.1.up,y0.2.1,y1.2.2)))))
def JQ:aH:=mkSpec [.val .gate] [.val .gate,.buf .msg,.int .i64] false (fun x=>FM x)
theorem YW:bW PG 22 JQ:=okN [(17,rO),(74,Jc),(75,F6),(72,zf)] [4095] ⟨AU,Wv,Sv,Ik,trivial⟩ fun x=>by kernel_rfl
def lK:Option (Bool):=af (pG 5000 (jm.mk 50 50 500) 900) fun y0=>af (pK y0.1 (iT.mk 1 1 0 0 1 4 2 0 0 0 false 0 0)) fun y1=>af (mW y1.1) fun y2=>af (Fg y1.1 (iT.mk 5 0 0 0 0 0 0 0 0 0 true 0 0)) fun y3=>af (FM y3.1) fun y4=>cnd (bor (ilt 0 (len y2.2.1)) (aj (band (band (band (band (band (band (band y0.2 (ieq y1.2 0)) (ieq y2.2.2 0)) (ieq y3.2.2 0)) (ieq y4.2.2 0)) (ieq (len y1.1.outbox) 1)) (ieq (len y2.1.outbox) 0)) (ieq (len y2.2.1) 1)))) (some (band (band (band (band (band (band (band (band (band (band (band (band y0.2 (ieq y1.2 0)) (ieq y2.2.2 0)) (ieq y3.2.2 0)) (ieq y4.2.2 0)) (ieq (len y1.1.outbox) 1)) (ieq (len y2.1.outbox) 0)) (ieq (len y2.2.1) 1)) (ieq (ah y2.2.1 0).lsn 1)) (ieq (len y3.2.1) 1)) y3.1.state.kill) (ieq y4.1.gen 1)) (ieq y2.1.wal.sure 1))) none
def yx:aH:=mkSpec [] [.bool] true (fun _=>lK)
theorem JD:bW PG 8 yx:=okN [(28,yC),(12,zW),(17,rO),(20,Lh),(22,JQ)] [4095] ⟨Jt,KW,AU,Yp,YW,trivial⟩ fun x=>by kernel_rfl
def jG (p0:ax) (v0:Int) (v1:Int) (v2:Bool):Option ((Int×Int×Bool) ⊕ ((Bool) ⊕ ((Int×Bool)))):=cnd (ilt v0 (len p0.files)) (cnd (band (ile 0 v0) (ilt v0 (len p0.files))) (cnd (bor (band (ile 0 v0) (ilt v0 (len p0.files))) (aj (aj (ilt 70000 (len (ah p0.files (itn v0)).data))))) (cnd (bor (ilt 70000 (len (ah p0.files (itn v0)).data)) (ilt 100 (len (ah p0.files (itn v0)).name))) (some (Sum.inr (Sum.inl false))) (cnd (band (ile 0 v0) (ilt v0 (len p0.files))) (some (Sum.inl (wr .i64 (ai v0 1),wr .i64 (ai v1 (len (ah p0.files (itn v0)).data)),v2))) none)) none) none) (some (Sum.inr (Sum.inr (v1,v2))))
def EK:dV:=LSh.spec ⟨73,[],[(1,.mp 8 0)],[(8,[.val .disk])],[(4,.int .i64),(3,.int .i64),(2,.bool)],[],[]⟩ [⟨.ret,[(2,.bool)],[],[]⟩,⟨.exit 0,[(3,.int .i64),(2,.bool)],[],[]⟩] (sP [(2,3),(9,34)]) (fun p v=>jG p v.1 v.2.1 v.2.2)
def pJ (x0:ax):Option (Bool):=cnd (ilt 70 (len x0.files)) (some false) (af (bD (fun v=>jG x0 v.1 v.2.1 v.2.2) LF (0,0,false)) fun y0=>gK y0 (fun y1=>some y1) fun y1=>some (ile y1.1 70000))
def yE:aH:=mkSpec [.val .disk] [.bool] true (fun x=>pJ x)
theorem JC:bW PG 34 yE:=okP [] [] [(34,122,EK)] trivial (fun K=>⟨kz K fun p v=>by kernel_rfl,trivial⟩) fun x=>by kernel_rfl
def oN (x0:aC):Option (Bool):=some (band (band (band (ile (len x0.orders) 70) (ile (len x0.cells) 70)) (ile (len x0.limits) 70)) (ile (len x0.caps) 70))
def yG:aH:=mkSpec [.val .state] [.bool] true (fun x=>oN x)
theorem Jr:bW PG 35 yG:=okN [] [] trivial fun x=>by kernel_rfl
def oU (x0:aW):Option (Bool):=af (pJ x0.disk) fun y0=>af (cnd y0 (oN x0.state) (some false)) fun y1=>some (band (band (band (band y0 y1) (ile (len x0.wal.wait) 40)) (ile (len x0.outbox) 99)) (ile (len x0.feed.held) 99))
def yD:aH:=mkSpec [.val .gate] [.bool] true (fun x=>oU x)
theorem Jz:bW PG 9 yD:=okN [(34,yE),(35,yG)] [] ⟨JC,Jr,trivial⟩ fun x=>by kernel_rfl
def wM (p0:Int) (p1:(List fE)) (p2:Int) (v0:Int) (v1:Int):Option ((Int×Int) ⊕ ((Int) ⊕ ((Int)))):=cnd (ilt v0 p0) (cnd (band (ile 0 v0) (ilt v0 (len p1))) (cnd (aj (ieq (ah p1 (itn v0)).seq (wr .i64 (ai p2 v0)))) (some (Sum.inr (Sum.inl v0))) (some (Sum.inl (wr .i64 (ai v0 1),v1)))) none) (some (Sum.inr (Sum.inr v1)))
def Uc:dV:=LSh.spec ⟨70,[(8,.int .i64),(7,.ro .note),(1,.int .i64)],[],[],[(9,.int .i64),(4,.int .i64)],[],[]⟩ [⟨.ret,[(4,.int .i64)],[],[]⟩,⟨.exit 0,[(4,.int .i64)],[],[]⟩] (sP [(4,3),(9,13)]) (fun p v=>wM p.1 p.2.1 p.2.2 v.1 v.2)
def Az (x0:(List fE)) (x1:Int):Option (Int):=af (bD (fun v=>wM (len x0) x0 x1 v.1 v.2) LF (0,0)) fun y0=>gK y0 (fun y1=>some y1) fun y1=>some (len x0)
def Np:aH:=mkSpec [.ro .note,.int .i64] [.int .i64] true (fun x=>Az x.1 x.2)
theorem Zh:bW PG 120 Np:=okP [] [] [(120,26,Uc)] trivial (fun K=>⟨kz K fun p v=>by kernel_rfl,trivial⟩) fun x=>by kernel_rfl
def fD (x0:(List fE)):Option ((List fE)):=JH (len x0) fun y0=>cnd (beq y0 true) (some []) (cnd (ile (len x0) 68719476736) (some x0) none)
def uw:aH:=mkSpec [.ro .note] [.buf .note] true (fun x=>fD x)
theorem Gv:bW PG 121 uw:=okN [] [] trivial fun x=>by kernel_rfl
def bY (p0:(List fE)) (p1:Int) (v0:Int) (v1:Int):Option ((Int×Int) ⊕ ((Int))):=cnd (ilt v1 v0) (cnd (band (ile 0 (wr .i64 (bQ .u64 (wr .u64 (wr .i64 (ai v1 v0))) 1))) (ilt (wr .i64 (bQ .u64 (wr .u64 (wr .i64 (ai v1 v0))) 1)) (len p0))) (cnd (ilt (wr .i64 (aA (ah p0 (itn (wr .i64 (bQ .u64 (wr .u64 (wr .i64 (ai v1 v0))) 1)))).seq p1)) 0) (some (Sum.inl (v0,wr .i64 (ai (wr .i64 (bQ .u64 (wr .u64 (wr .i64 (ai v1 v0))) 1)) 1)))) (some (Sum.inl (wr .i64 (bQ .u64 (wr .u64 (wr .i64 (ai v1 v0))) 1),v1)))) none) (some (Sum.inr v1))
def jI:dV:=LSh.spec ⟨83,[(0,.ro .note),(1,.int .i64)],[(2,.fn 193 [])],[],[(10,.int .i64),(9,.int .i64)],[],[]⟩ [⟨.exit 0,[(9,.int .i64)],[],[]⟩] (sP [(9,3),(15,20)]) (fun p v=>bY p.1 p.2 v.1 v.2)
def vJ (x0:(List fE)) (x1:Int):Option (Int×Bool):=af (bD (fun v=>bY x0 x1 v.1 v.2) LF (len x0,0)) fun y0=>cnd (bor (band (ile 0 y0) (ilt y0 (len x0))) (aj (ilt y0 (len x0)))) (cnd (ilt y0 (len x0)) (some (y0,band (ilt y0 (len x0)) (ieq (wr .i64 (aA (ah x0 (itn y0)).seq x1)) 0))) (some (y0,bor (ilt y0 (len x0)) false))) none
def Jf:aH:=mkSpec [.ro .note,.int .i64] [.int .i64,.bool] true (fun x=>vJ x.1 x.2)
theorem Wu:bW PG 122 Jf:=okP [] [192,193] [(523986055360,60,jI)] trivial (fun K=>⟨kz K fun p v=>by kernel_rfl,trivial⟩) fun x=>by kernel_rfl
def jH (x0:(List fE)) (x1:Int) (x2:(List fE)):Option ((List fE)):=match x2 with | [n]=>cnd (band (ile 0 x1) (band (ile x1 (len x0)) (ile (ai (len x0) 1) 68719476736))) (some (dm (ay x0 (itn x1)) (n::aF x0 (itn x1)))) none | _=>none
noncomputable def Gp:Cx:={ P:=PG,ety:=ety,fn:=look [],inl:=aiV [],lp:=Oc [] }
def sQ:aH:=FB .note (fun x=>jH x.1 x.2.1 x.2.2)
theorem EG:bW PG 123 sQ:=
 have K:CxR Gp:=yL.cx (fun _=>rfl) (l:=[]) trivial
 Xm K 123 (adq PG 123) (adq PG ((Au (adq PG 123)).f 29)) (by kernel_rfl) (by kernel_rfl) (by kernel_rfl) (by kernel_rfl) (by kernel_rfl) (e:= .note) (by kernel_rfl) (by kernel_rfl) (by kernel_rfl) (by kernel_rfl) (by kernel_rfl) (by kernel_rfl) rfl (fun x y h=>by obtain⟨l,k,xs⟩:=x;match xs,h with | [],h=>exact h | [_],h=>exact h | _::_::_,h=>exact h)
def E5 (x0:kD) (x1:fE) (x2:Int):Option (kD×(List fE)×Int):=af (vO x0 x2) fun y0=>cnd (aj y0) (cnd (aj y0) (some (x0,[],1)) (cnd (ilt x1.seq x2) (some (x0,[],0)) (cnd (ilt (wr .i64 (ai x2 8)) x1.seq) (some (kD.mk x0.held true,[],0)) (cnd (ieq x1.seq x2) (af (Az x0.held (wr .i64 (ai x2 1))) fun y1=>cnd (band (ile 0 (len x0.held)) (ile 0 (len x0.held))) (cnd (band (ile (len (dm (nol x0.held) [x1])) 68719476736) (bor (ieq (len (nol x0.held)) 0) true)) (cnd (band (ile 0 y1) (ile y1 (len x0.held))) (cnd (ile (len (dm (dm (nol x0.held) [x1]) (ay x0.held (itn y1)))) 68719476736) (cnd (band (ile 0 y1) (ile y1 (len x0.held))) (af (fD (aF x0.held (itn y1))) fun y2=>some (kD.mk y2 x0.gap,dm (dm (nol x0.held) [x1]) (ay x0.held (itn y1)),0)) none) none) none) none) none) (af (vJ x0.held x1.seq) fun y3=>cnd (aj y3.2) (af (fD x0.held) fun y4=>af (jH y4 y3.1 [x1]) fun y5=>some (kD.mk y5 x0.gap,[],0)) (some (x0,[],0))))))) (cnd (ilt x1.seq 1) (cnd (ilt x1.seq 1) (some (x0,[],1)) (cnd (ilt x1.seq x2) (some (x0,[],0)) (cnd (ilt (wr .i64 (ai x2 8)) x1.seq) (some (kD.mk x0.held true,[],0)) (cnd (ieq x1.seq x2) (af (Az x0.held (wr .i64 (ai x2 1))) fun y6=>cnd (band (ile 0 (len x0.held)) (ile 0 (len x0.held))) (cnd (band (ile (len (dm (nol x0.held) [x1])) 68719476736) (bor (ieq (len (nol x0.held)) 0) true)) (cnd (band (ile 0 y6) (ile y6 (len x0.held))) (cnd (ile (len (dm (dm (nol x0.held) [x1]) (ay x0.held (itn y6)))) 68719476736) (cnd (band (ile 0 y6) (ile y6 (len x0.held))) (af (fD (aF x0.held (itn y6))) fun y7=>some (kD.mk y7 x0.gap,dm (dm (nol x0.held) [x1]) (ay x0.held (itn y6)),0)) none) none) none) none) none) (af (vJ x0.held x1.seq) fun y8=>cnd (aj y8.2) (af (fD x0.held) fun y9=>af (jH y9 y8.1 [x1]) fun y10=>some (kD.mk y10 x0.gap,[],0)) (some (x0,[],0))))))) (cnd (ilt 1000000000 x1.seq) (some (x0,[],1)) (cnd (ilt x1.seq x2) (some (x0,[],0)) (cnd (ilt (wr .i64 (ai x2 8)) x1.seq) (some (kD.mk x0.held true,[],0)) (cnd (ieq x1.seq x2) (af (Az x0.held (wr .i64 (ai x2 1))) fun y11=>cnd (band (ile 0 (len x0.held)) (ile 0 (len x0.held))) (cnd (band (ile (len (dm (nol x0.held) [x1])) 68719476736) (bor (ieq (len (nol x0.held)) 0) true)) (cnd (band (ile 0 y11) (ile y11 (len x0.held))) (cnd (ile (len (dm (dm (nol x0.held) [x1]) (ay x0.held (itn y11)))) 68719476736) (cnd (band (ile 0 y11) (ile y11 (len x0.held))) (af (fD (aF x0.held (itn y11))) fun y12=>some (kD.mk y12 x0.gap,dm (dm (nol x0.held) [x1]) (ay x0.held (itn y11)),0)) none) none) none) none) none) (af (vJ x0.held x1.seq) fun y13=>cnd (aj y13.2) (af (fD x0.held) fun y14=>af (jH y14 y13.1 [x1]) fun y15=>some (kD.mk y15 x0.gap,[],0)) (some (x0,[],0))))))))
def J7:aH:=mkSpec [.val .feed,.val .note,.int .i64] [.val .feed,.buf .note,.int .i64] false (fun x=>E5 x.1 x.2.1 x.2.2)
theorem Yg:bW PG 64 J7:=okN [(42,BP),(120,Np),(121,uw),(122,Jf),(123,sQ)] [] ⟨Nu,Zh,Gv,Wu,EG,trivial⟩ fun x=>by kernel_rfl
def nG (p0:Int) (p1:(List fE)) (p2:aW) (v0:Int) (v1:Int) (v2:Int) (v3:aW) (v4:aW):Option ((Int×Int×Int×aW×aW) ⊕ ((Int×aW×aW) ⊕ ((Int×Int×aW×aW)))):=cnd (ilt v0 p0) (cnd (band (ile 0 v0) (ilt v0 (len p1))) (af (mP (ah p1 (itn v0))) fun y0=>af (oJ v3 y0) fun y1=>cnd (aj (ieq y1.2 0)) (some (Sum.inr (Sum.inl (y1.2,y1.1,p2)))) (some (Sum.inl (wr .i64 (ai v0 1),y1.2,v2,y1.1,v4)))) none) (some (Sum.inr (Sum.inr (v1,v2,v3,v4))))
def Pm:dV:=LSh.spec ⟨121,[(62,.int .i64),(61,.ro .note)],[(10,.mp 416 0),(4,.mp 32 0),(2,.mp 16 0)],[(16,[.val .gate])],[(63,.int .i64),(9,.int .i64),(5,.int .i64)],[(416,[.val .gate]),(32,[.val .gate])],[]⟩ [⟨.ret,[(5,.int .i64)],[(416,[.val .gate]),(32,[.val .gate])],[]⟩,⟨.exit 1,[(9,.int .i64),(5,.int .i64)],[(416,[.val .gate]),(32,[.val .gate])],[]⟩] (sP [(5,1),(9,1),(12,1),(63,16)]) (fun p v=>nG p.1 p.2.1 p.2.2 v.1 v.2.1 v.2.2.1 v.2.2.2.1 v.2.2.2.2)
def EY (x0:aW) (x1:fE):Option (aW×Int):=af (mM x0) fun y0=>cnd (aj (ieq y0 0)) (some (x0,y0)) (af (mP x1) fun y1=>af (lQ y1) fun y2=>cnd (aj y2) (some (x0,1)) (af (E5 x0.feed x1 (wr .i64 (ai x0.state.seq 1))) fun y3=>cnd (aj (ieq y3.2.2 0)) (some (x0,y3.2.2)) (cnd (ilt 1000000000 (wr .i64 (ai x0.state.lsn (len y3.2.1)))) (some (x0,3)) (cnd (ilt 32 (wr .i64 (ai (len y3.2.1) (len x0.wal.wait)))) (some (x0,6)) (af (bD (fun v=>nG (len y3.2.1) y3.2.1 x0 v.1 v.2.1 v.2.2.1 v.2.2.2.1 v.2.2.2.2) LF (0,y3.2.2,0,x0,aW.mk (ax.mk [] 0 0 false) (dU.mk 0 0 0 0 0 []) (aC.mk 0 0 [] [] [] [] false 0 0 0) [] (kD.mk [] false) 0 false)) fun y4=>gK y4 (fun y5=>some (y5.2.2,y5.1)) fun y5=>some (aW.mk y5.2.2.1.disk y5.2.2.1.wal y5.2.2.1.state y5.2.2.1.outbox y3.1 y5.2.2.1.gen y5.2.2.1.up,0))))))
def La:aH:=mkSpec [.val .gate,.val .note] [.val .gate,.int .i64] false (fun x=>EY x.1 x.2)
theorem Yi:bW PG 15 La:=okP [(54,rG),(29,xB),(40,lT),(64,J7),(55,xu)] [4095] [(15,1018,Pm)] ⟨AP,FO,rC,Yg,F9,trivial⟩ (fun K=>⟨kz K fun p v=>by kernel_rfl,trivial⟩) fun x=>by kernel_rfl
def kS (p0:ax) (p1:ax) (v0:Int) (v1:Bool):Option ((Int×Bool) ⊕ ((Bool) ⊕ ((Bool)))):=cnd (ilt v0 (len p1.files)) (cnd (band (ile 0 v0) (ilt v0 (len p1.files))) (cnd (band (ile 0 v0) (ilt v0 (len p0.files))) (cnd (bor (bor (aj (seq (ah p1.files (itn v0)).name (ah p0.files (itn v0)).name)) (aj (ieq (ah p1.files (itn v0)).sure (ah p0.files (itn v0)).sure))) (aj (seq (u2s (ah p1.files (itn v0)).data) (u2s (ah p0.files (itn v0)).data)))) (some (Sum.inr (Sum.inl false))) (some (Sum.inl (wr .i64 (ai v0 1),v1)))) none) none) (some (Sum.inr (Sum.inr v1)))
def Ic:dV:=LSh.spec ⟨98,[],[(3,.mp 24 0),(2,.mp 16 0)],[(24,[.val .disk]),(16,[.val .disk])],[(5,.int .i64),(4,.bool)],[],[]⟩ [⟨.ret,[(4,.bool)],[],[]⟩,⟨.exit 0,[(4,.bool)],[],[]⟩] (sP [(4,4),(36,38)]) (fun p v=>kS p.1 p.2 v.1 v.2)
def mG (x0:ax) (x1:ax):Option (Bool):=cnd (bor (bor (bor (aj (ieq (len x0.files) (len x1.files))) (aj (ieq x0.room x1.room))) (aj (ieq x0.fuse x1.fuse))) (aj (beq x0.down x1.down))) (some false) (af (bD (fun v=>kS x1 x0 v.1 v.2) LF (0,false)) fun y0=>gK y0 (fun y1=>some y1) fun y1=>some true)
def yN:aH:=mkSpec [.val .disk,.val .disk] [.bool] true (fun x=>mG x.1 x.2)
theorem KI:bW PG 25 yN:=okP [] [] [(25,58,Ic)] trivial (fun K=>⟨kz K fun p v=>by kernel_rfl,trivial⟩) fun x=>by kernel_rfl
def iR (p0:(List jw)) (p1:(List jw)) (v0:Int) (v1:Bool):Option ((Int×Bool) ⊕ ((Bool) ⊕ ((Bool)))):=cnd (ilt v0 (len p0)) (cnd (band (ile 0 v0) (ilt v0 (len p0))) (cnd (band (ile 0 v0) (ilt v0 (len p1))) (cnd (aj (band (ieq (ah p0 (itn v0)).kind (ah p1 (itn v0)).kind) (band (ieq (ah p0 (itn v0)).order (ah p1 (itn v0)).order) (band (ieq (ah p0 (itn v0)).account (ah p1 (itn v0)).account) (band (ieq (ah p0 (itn v0)).symbol (ah p1 (itn v0)).symbol) (band (ieq (ah p0 (itn v0)).side (ah p1 (itn v0)).side) (band (ieq (ah p0 (itn v0)).qty (ah p1 (itn v0)).qty) (band (ieq (ah p0 (itn v0)).price (ah p1 (itn v0)).price) (band (ieq (ah p0 (itn v0)).version (ah p1 (itn v0)).version) (ieq (ah p0 (itn v0)).lsn (ah p1 (itn v0)).lsn)))))))))) (some (Sum.inr (Sum.inl false))) (some (Sum.inl (wr .i64 (ai v0 1),v1)))) none) none) (some (Sum.inr (Sum.inr v1)))
def Di:dV:=LSh.spec ⟨73,[(0,.ro .msg),(1,.ro .msg)],[],[],[(5,.int .i64),(4,.bool)],[],[]⟩ [⟨.ret,[(4,.bool)],[],[]⟩,⟨.exit 0,[(4,.bool)],[],[]⟩] (sP [(4,2),(11,15)]) (fun p v=>iR p.1 p.2 v.1 v.2)
def jM (x0:(List jw)) (x1:(List jw)):Option (Bool):=cnd (aj (ieq (len x0) (len x1))) (some false) (af (bD (fun v=>iR x0 x1 v.1 v.2) LF (0,false)) fun y0=>gK y0 (fun y1=>some y1) fun y1=>some true)
def uS:aH:=mkSpec [.ro .msg,.ro .msg] [.bool] true (fun x=>jM x.1 x.2)
theorem F8:bW PG 19 uS:=okP [] [] [(19,58,Di)] trivial (fun K=>⟨kz K fun p v=>by kernel_rfl,trivial⟩) fun x=>by kernel_rfl
def kL (p0:aC) (p1:aC) (v0:Int) (v1:Bool):Option ((Int×Bool) ⊕ ((Bool) ⊕ ((Bool)))):=cnd (ilt v0 (len p1.orders)) (cnd (band (ile 0 v0) (ilt v0 (len p1.orders))) (cnd (band (ile 0 v0) (ilt v0 (len p0.orders))) (cnd (aj (band (ieq (ah p1.orders (itn v0)).id (ah p0.orders (itn v0)).id) (band (ieq (ah p1.orders (itn v0)).account (ah p0.orders (itn v0)).account) (band (ieq (ah p1.orders (itn v0)).symbol (ah p0.orders (itn v0)).symbol) (band (ieq (ah p1.orders (itn v0)).side (ah p0.orders (itn v0)).side) (band (ieq (ah p1.orders (itn v0)).qty (ah p0.orders (itn v0)).qty) (band (ieq (ah p1.orders (itn v0)).price (ah p0.orders (itn v0)).price) (band (ieq (ah p1.orders (itn v0)).filled (ah p0.orders (itn v0)).filled) (band (ieq (ah p1.orders (itn v0)).phase (ah p0.orders (itn v0)).phase) (band (ieq (ah p1.orders (itn v0)).newQty (ah p0.orders (itn v0)).newQty) (band (ieq (ah p1.orders (itn v0)).newPrice (ah p0.orders (itn v0)).newPrice) (band (ieq (ah p1.orders (itn v0)).version (ah p0.orders (itn v0)).version) (beq (ah p1.orders (itn v0)).asked (ah p0.orders (itn v0)).asked))))))))))))) (some (Sum.inr (Sum.inl false))) (some (Sum.inl (wr .i64 (ai v0 1),v1)))) none) none) (some (Sum.inr (Sum.inr v1)))
def Gw:dV:=LSh.spec ⟨146,[],[(3,.mp 24 0),(2,.mp 16 0)],[(24,[.val .state]),(16,[.val .state])],[(5,.int .i64),(4,.bool)],[],[]⟩ [⟨.ret,[(4,.bool)],[],[]⟩,⟨.exit 0,[(4,.bool)],[],[]⟩] (sP [(4,2),(85,18)]) (fun p v=>kL p.1 p.2 v.1 v.2)
def jR (p0:aC) (p1:aC) (v0:Int) (v1:Bool):Option ((Int×Bool) ⊕ ((Bool) ⊕ ((Bool)))):=cnd (ilt v0 (len p1.cells)) (cnd (band (ile 0 v0) (ilt v0 (len p1.cells))) (cnd (band (ile 0 v0) (ilt v0 (len p0.cells))) (cnd (aj (band (ieq (ah p1.cells (itn v0)).pos (ah p0.cells (itn v0)).pos) (band (ieq (ah p1.cells (itn v0)).buy (ah p0.cells (itn v0)).buy) (band (ieq (ah p1.cells (itn v0)).sell (ah p0.cells (itn v0)).sell) (ieq (ah p1.cells (itn v0)).opn (ah p0.cells (itn v0)).opn))))) (some (Sum.inr (Sum.inl false))) (some (Sum.inl (wr .i64 (ai v0 1),v1)))) none) none) (some (Sum.inr (Sum.inr v1)))
def FZ:dV:=LSh.spec ⟨214,[],[(3,.mp 24 0),(2,.mp 16 0)],[(24,[.val .state]),(16,[.val .state])],[(6,.int .i64),(4,.bool)],[],[]⟩ [⟨.ret,[(4,.bool)],[],[]⟩,⟨.exit 2,[(4,.bool)],[],[]⟩] (sP [(4,1),(6,1),(103,18)]) (fun p v=>jR p.1 p.2 v.1 v.2)
def jO (p0:aC) (p1:aC) (v0:Int) (v1:Bool):Option ((Int×Bool) ⊕ ((Bool) ⊕ ((Bool)))):=cnd (ilt v0 (len p1.limits)) (cnd (band (ile 0 v0) (ilt v0 (len p1.limits))) (cnd (band (ile 0 v0) (ilt v0 (len p0.limits))) (cnd (aj (band (ieq (ah p1.limits (itn v0)).long (ah p0.limits (itn v0)).long) (band (ieq (ah p1.limits (itn v0)).short (ah p0.limits (itn v0)).short) (ieq (ah p1.limits (itn v0)).opn (ah p0.limits (itn v0)).opn)))) (some (Sum.inr (Sum.inl false))) (some (Sum.inl (wr .i64 (ai v0 1),v1)))) none) none) (some (Sum.inr (Sum.inr v1)))
def Gt:dV:=LSh.spec ⟨282,[],[(3,.mp 24 0),(2,.mp 16 0)],[(24,[.val .state]),(16,[.val .state])],[(7,.int .i64),(4,.bool)],[],[]⟩ [⟨.ret,[(4,.bool)],[],[]⟩,⟨.exit 4,[(4,.bool)],[],[]⟩] (sP [(4,1),(7,1),(121,18)]) (fun p v=>jO p.1 p.2 v.1 v.2)
def jV (p0:aC) (p1:aC) (v0:Int) (v1:Bool):Option ((Int×Bool) ⊕ ((Bool) ⊕ ((Bool)))):=cnd (ilt v0 (len p1.caps)) (cnd (band (ile 0 v0) (ilt v0 (len p1.caps))) (cnd (band (ile 0 v0) (ilt v0 (len p0.caps))) (cnd (aj (ieq (ah p1.caps (itn v0)) (ah p0.caps (itn v0)))) (some (Sum.inr (Sum.inl false))) (some (Sum.inl (wr .i64 (ai v0 1),v1)))) none) none) (some (Sum.inr (Sum.inr v1)))
def Gl:dV:=LSh.spec ⟨350,[],[(3,.mp 24 0),(2,.mp 16 0)],[(24,[.val .state]),(16,[.val .state])],[(8,.int .i64),(4,.bool)],[],[]⟩ [⟨.ret,[(4,.bool)],[],[]⟩,⟨.exit 6,[(4,.bool)],[],[]⟩] (sP [(4,1),(8,1),(139,18)]) (fun p v=>jV p.1 p.2 v.1 v.2)
def mJ (x0:aC) (x1:aC):Option (Bool):=cnd (bor (bor (bor (bor (bor (bor (bor (bor (bor (aj (ieq x0.accounts x1.accounts)) (aj (ieq x0.symbols x1.symbols))) (aj (beq x0.kill x1.kill))) (aj (ieq x0.last x1.last))) (aj (ieq x0.seq x1.seq))) (aj (ieq x0.lsn x1.lsn))) (aj (ieq (len x0.orders) (len x1.orders)))) (aj (ieq (len x0.cells) (len x1.cells)))) (aj (ieq (len x0.limits) (len x1.limits)))) (aj (ieq (len x0.caps) (len x1.caps)))) (some false) (af (bD (fun v=>kL x1 x0 v.1 v.2) LF (0,false)) fun y0=>gK y0 (fun y1=>some y1) fun y1=>af (bD (fun v=>jR x1 x0 v.1 v.2) LF (0,y1)) fun y2=>gK y2 (fun y3=>some y3) fun y3=>af (bD (fun v=>jO x1 x0 v.1 v.2) LF (0,y3)) fun y4=>gK y4 (fun y5=>some y5) fun y5=>af (bD (fun v=>jV x1 x0 v.1 v.2) LF (0,y5)) fun y6=>gK y6 (fun y7=>some y7) fun y7=>some true)
def yX:aH:=mkSpec [.val .state,.val .state] [.bool] true (fun x=>mJ x.1 x.2)
theorem KG:bW PG 26 yX:=okP [] [] [(26,58,Gw),(26,122,FZ),(26,250,Gt),(26,506,Gl)] trivial (fun K=>⟨kz K fun p v=>by kernel_rfl,kz K fun p v=>by kernel_rfl,kz K fun p v=>by kernel_rfl,kz K fun p v=>by kernel_rfl,trivial⟩) fun x=>by kernel_rfl
def kP (p0:kD) (p1:kD) (v0:Int) (v1:Bool):Option ((Int×Bool) ⊕ ((Bool) ⊕ ((Bool)))):=cnd (ilt v0 (len p1.held)) (cnd (band (ile 0 v0) (ilt v0 (len p1.held))) (cnd (band (ile 0 v0) (ilt v0 (len p0.held))) (cnd (aj (band (ieq (ah p1.held (itn v0)).seq (ah p0.held (itn v0)).seq) (band (ieq (ah p1.held (itn v0)).what (ah p0.held (itn v0)).what) (band (ieq (ah p1.held (itn v0)).order (ah p0.held (itn v0)).order) (band (ieq (ah p1.held (itn v0)).qty (ah p0.held (itn v0)).qty) (ieq (ah p1.held (itn v0)).price (ah p0.held (itn v0)).price)))))) (some (Sum.inr (Sum.inl false))) (some (Sum.inl (wr .i64 (ai v0 1),v1)))) none) none) (some (Sum.inr (Sum.inr v1)))
def Hf:dV:=LSh.spec ⟨84,[],[(3,.mp 24 0),(2,.mp 16 0)],[(24,[.val .feed]),(16,[.val .feed])],[(5,.int .i64),(4,.bool)],[],[]⟩ [⟨.ret,[(4,.bool)],[],[]⟩,⟨.exit 0,[(4,.bool)],[],[]⟩] (sP [(4,2),(20,18)]) (fun p v=>kP p.1 p.2 v.1 v.2)
def qm (x0:kD) (x1:kD):Option (Bool):=cnd (bor (aj (beq x0.gap x1.gap)) (aj (ieq (len x0.held) (len x1.held)))) (some false) (af (bD (fun v=>kP x1 x0 v.1 v.2) LF (0,false)) fun y0=>gK y0 (fun y1=>some y1) fun y1=>some true)
def zD:aH:=mkSpec [.val .feed,.val .feed] [.bool] true (fun x=>qm x.1 x.2)
theorem KZ:bW PG 27 zD:=okP [] [] [(27,58,Hf)] trivial (fun K=>⟨kz K fun p v=>by kernel_rfl,trivial⟩) fun x=>by kernel_rfl
def qF (x0:aW) (x1:iT) (x2:fE):Option (Bool):=af lK fun y0=>cnd (aj y0) (some false) (af (oU x0) fun y1=>cnd (aj y1) (some true) (af (pK x0 x1) fun y2=>af (EY x0 x2) fun y3=>af (mG y2.1.disk x0.disk) fun y4=>af (cnd (aj (aj y4)) (mG y3.1.disk x0.disk) (some false)) fun y5=>af (cnd (aj (bor (bor (bor (bor (bor (aj y4) (aj y5)) (aj (ieq y2.1.wal.sure x0.wal.sure))) (aj (ieq y3.1.wal.sure x0.wal.sure))) (aj (ieq y2.1.gen x0.gen))) (aj (ieq y3.1.gen x0.gen)))) (jM y3.1.outbox x0.outbox) (some false)) fun y6=>cnd (bor (bor (bor (bor (bor (bor (aj y4) (aj y5)) (aj (ieq y2.1.wal.sure x0.wal.sure))) (aj (ieq y3.1.wal.sure x0.wal.sure))) (aj (ieq y2.1.gen x0.gen))) (aj (ieq y3.1.gen x0.gen))) (aj y6)) (some false) (af (mW x0) fun y7=>cnd (bor (ieq y7.2.2 1) (aj y7.1.up)) (some (ieq (len y7.2.1) 0)) (af (mJ y7.1.state x0.state) fun y8=>af (cnd (aj (aj y8)) (qm y7.1.feed x0.feed) (some false)) fun y9=>cnd (bor (bor (bor (bor (aj y8) (aj y9)) (aj (ieq y7.1.wal.next x0.wal.next))) (aj (ieq y7.1.gen x0.gen))) (aj (ieq (wr .i64 (ai (len y7.2.1) (len y7.1.outbox))) (len x0.outbox)))) (some false) (af (cnd (band (aj (aj (ieq y7.2.2 0))) (band (ieq y7.1.wal.sure y7.1.state.lsn) (ieq (len y7.1.outbox) 0))) (jM y7.2.1 x0.outbox) (some false)) fun y10=>some (bor (aj (ieq y7.2.2 0)) (band (band (ieq y7.1.wal.sure y7.1.state.lsn) (ieq (len y7.1.outbox) 0)) y10)))))))
def DU:aH:=mkSpec [.val .gate,.val .recd,.val .note] [.bool] true (fun x=>qF x.1 x.2.1 x.2.2)
theorem F5:bW PG 5 DU:=okN [(8,yx),(9,yD),(12,zW),(15,La),(25,yN),(19,uS),(17,rO),(26,yX),(27,zD)] [4095] ⟨JD,Jz,KW,Yi,KI,F8,AU,KG,KZ,trivial⟩ fun x=>by kernel_rfl
end
end Go.Av
