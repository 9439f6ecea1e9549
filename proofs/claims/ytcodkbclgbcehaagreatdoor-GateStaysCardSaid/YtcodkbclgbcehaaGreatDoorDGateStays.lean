/- The functions that this claim reaches, each as a plain function; each is what its text comes to. No condition. -/
import Derived.Test.YtcodkbclgbcehaaGreatDoorAvE
import Derived.Test.YtcodkbclgbcehaaGreatDoorProg
import Derived.KernelRfl
import Derived.Shelf.Small.Wraps
import Derived.Shelf.Strconv.ParseIntPublic10
import Derived.WalkKit
import Derived.Laws.RangeAny
set_option linter.unusedVariables false
set_option linter.unusedSimpArgs false
set_option linter.unnecessarySimpa false
namespace Go.Av
open Go
def anh:List (Nat×E):=[(2,.i64),(3,.i64),(4,.bool),(5,.u8),(6,.u8),(9,.str),(10,.str),(11,.str),(24,.disk),(27,.wal),(33,.state),(37,.feed),(39,.gate),(41,.recd),(43,.note),(46,.i64),(66,.deed),(75,.expo),(83,.msg),(90,.a6),(92,.frame),(105,.order),(132,.bts),(134,.file),(136,.cell),(159,.state),(199,.slot),(204,.keeper),(285,.a20),(366,.bts),(371,.bts),(382,.i64),(391,.a3),(422,.u8),(423,.u8)]
def ety (t:Nat):Option E:=look anh t
noncomputable abbrev PG:Program:=Go.Proofs.Tryz.prog
end Go.Av
namespace Go.Av
open Go
noncomputable section
theorem anH:EOk PG 2 .i64:=jA (by kernel_rfl) (by kernel_rfl)
theorem am2:EOk PG 3 .i64:=jA (by kernel_rfl) (by kernel_rfl)
theorem am3:EOk PG 4 .bool:=jA (by kernel_rfl) (by kernel_rfl)
theorem ane:EOk PG 5 .u8:=jA (by kernel_rfl) (by kernel_rfl)
theorem anC:EOk PG 6 .u8:=jA (by kernel_rfl) (by kernel_rfl)
theorem am4:EOk PG 9 .str:=jA (by kernel_rfl) (by kernel_rfl)
theorem al1:EOk PG 10 .str:=jA (by kernel_rfl) (by kernel_rfl)
theorem al0:EOk PG 11 .str:=jA (by kernel_rfl) (by kernel_rfl)
theorem alI:EOk PG 24 .disk:=jA (by kernel_rfl) (by kernel_rfl)
theorem amw:EOk PG 27 .wal:=jA (by kernel_rfl) (by kernel_rfl)
theorem amA:EOk PG 33 .state:=jA (by kernel_rfl) (by kernel_rfl)
theorem alQ:EOk PG 37 .feed:=jA (by kernel_rfl) (by kernel_rfl)
theorem alx:EOk PG 39 .gate:=jA (by kernel_rfl) (by kernel_rfl)
theorem amj:EOk PG 41 .recd:=jA (by kernel_rfl) (by kernel_rfl)
theorem aml:EOk PG 43 .note:=jA (by kernel_rfl) (by kernel_rfl)
theorem alK:EOk PG 46 .i64:=jA (by kernel_rfl) (by kernel_rfl)
theorem alB:EOk PG 66 .deed:=jA (by kernel_rfl) (by kernel_rfl)
theorem alF:EOk PG 75 .expo:=jA (by kernel_rfl) (by kernel_rfl)
theorem amu:EOk PG 83 .msg:=jA (by kernel_rfl) (by kernel_rfl)
theorem alJ:EOk PG 90 .a6:=jA (by kernel_rfl) (by kernel_rfl)
theorem amB:EOk PG 92 .frame:=jA (by kernel_rfl) (by kernel_rfl)
theorem akR:EOk PG 105 .order:=jA (by kernel_rfl) (by kernel_rfl)
theorem akO:EOk PG 132 .bts:=jA (by kernel_rfl) (by kernel_rfl)
theorem akp:EOk PG 134 .file:=jA (by kernel_rfl) (by kernel_rfl)
theorem ak7:EOk PG 136 .cell:=jA (by kernel_rfl) (by kernel_rfl)
theorem aj2:EOk PG 159 .state:=jA (by kernel_rfl) (by kernel_rfl)
theorem akZ:EOk PG 199 .slot:=jA (by kernel_rfl) (by kernel_rfl)
theorem akw:EOk PG 204 .keeper:=jA (by kernel_rfl) (by kernel_rfl)
theorem aky:EOk PG 285 .a20:=jA (by kernel_rfl) (by kernel_rfl)
theorem ajK:EOk PG 366 .bts:=jA (by kernel_rfl) (by kernel_rfl)
theorem akP:EOk PG 371 .bts:=jA (by kernel_rfl) (by kernel_rfl)
theorem akS:EOk PG 382 .i64:=jA (by kernel_rfl) (by kernel_rfl)
theorem akD:EOk PG 391 .a3:=jA (by kernel_rfl) (by kernel_rfl)
theorem ajU:EOk PG 422 .u8:=jA (by kernel_rfl) (by kernel_rfl)
theorem aj0:EOk PG 423 .u8:=jA (by kernel_rfl) (by kernel_rfl)
theorem Cj:FU PG anh:=⟨by kernel_rfl,⟨anH,am2,am3,ane,anC,am4,al1,al0,alI,amw,amA,alQ,alx,amj,aml,alK,alB,alF,amu,alJ,amB,akR,akO,akp,ak7,aj2,akZ,akw,aky,ajK,akP,akS,akD,ajU,aj0,trivial⟩,by kernel_rfl,by kernel_rfl,by kernel_rfl⟩
end
end Go.Av
namespace Go.Av
open Go
noncomputable section
def cX (l:List (Nat×aI)) (i:List Nat) (p:List (Nat×Nat×fE)):Cx:={ P:=PG,ety:=ety,fn:=look l,inl:=amD i,lp:=Qe p }
theorem cxK {l:List (Nat×aI)} {i:List Nat} {p:List (Nat×Nat×fE)} (h:U2 PG l):CxR (cX l i p):=Cj.cx (fun _=>rfl) h
theorem okP {f:Nat} {xs rs:List Sh} {s:Bool} {run:Tup xs->Option (Tup rs)} (l:List (Nat×aI)) (i:List Nat) (p:List (Nat×Nat×fE)) (h:U2 PG l) (hp:CxR (cX l i p)->UJ (cX l i p) p)
 (hr:∀x,adf (cX l i p) f xs rs x=run x) (hb:hasB PG f=true:=by kernel_rfl) (h3:(Nat.ble rs.length 8&&(xs.all abI&&rs.all abI))=true:=by kernel_rfl) (h4:(!s||rs.all Ul)=true:=by kernel_rfl):dm PG f (mkSpec xs rs s run):=
 ai7 (cxK h) (ahT (l:=p) rfl (hp (cxK h))) hb (fun x y e=>(hr x).trans e) h3 h4
theorem okN {f:Nat} {xs rs:List Sh} {s:Bool} {run:Tup xs->Option (Tup rs)} (l:List (Nat×aI)) (i:List Nat) (h:U2 PG l)
 (hr:∀x,adf (cX l i []) f xs rs x=run x) (hb:hasB PG f=true:=by kernel_rfl) (h3:(Nat.ble rs.length 8&&(xs.all abI&&rs.all abI))=true:=by kernel_rfl) (h4:(!s||rs.all Ul)=true:=by kernel_rfl):dm PG f (mkSpec xs rs s run):=
 okP l i [] h (fun _=>trivial) hr hb h3 h4
theorem mg {C:Cx} (K:CxR C) {s:LSh} {os:List qX} {D:List Nat} {step:Tup s.pk->Tup s.vk->Option (Tup s.vk ⊕ YD os)} {pf pos:Nat} (hs:∀p v,afq C 900 pf pos (TP C.P (pf%4096) pos) s os p v=step p v)
 (h2:Nat.blt (Nat.log2 pos) 301=true:=by kernel_rfl) (h3:s.good D=true:=by kernel_rfl) (h4:os.all (qX.good s)=true:=by kernel_rfl) (h5:KI D (TP C.P (pf%4096) pos)=true:=by kernel_rfl):
 ∀c,At C.P pf pos (.loop c)->sJ C pf (2*pos)->agR C.P pf c (s.spec os D step):=
 aid (n:=900) (f:=pf%4096) K rfl h2 h3 h4 h5 (fun p v r h=>(hs p v).trans h)
def sP (l:List (Nat×Nat)):List Nat:=l.flatMap fun a=>List.range' a.1 a.2
end
end Go.Av
namespace Go.Av
open Go
noncomputable section
def SK (x0:Int) (x1:Int):Option (Int×Int):=some (wr .u32 (bP .u64 (wr .u64 (gu (wr .u64 x0) (wr .u64 x1))) 32),wr .u32 (wr .u64 (gu (wr .u64 x0) (wr .u64 x1))))
def Dn:aI:=mkSpec [.int .u32,.int .u32] [.int .u32,.int .u32] true (fun x=>SK x.1 x.2)
theorem P8:dm PG 296 Dn:=okN [] [] trivial fun x=>by kernel_rfl
def qo (x0:Int) (x1:Int):Option (Int×Int):=some (wr .u64 (au (wr .u64 (au (wr .u64 (gu (bP .u64 x0 32) (bP .u64 x1 32))) (bP .u64 (wr .u64 (au (wr .u64 (gu (bP .u64 x0 32) (wr .u64 (mW .u64 x1 4294967295)))) (bP .u64 (wr .u64 (gu (wr .u64 (mW .u64 x0 4294967295)) (wr .u64 (mW .u64 x1 4294967295)))) 32))) 32))) (bP .u64 (wr .u64 (au (wr .u64 (mW .u64 (wr .u64 (au (wr .u64 (gu (bP .u64 x0 32) (wr .u64 (mW .u64 x1 4294967295)))) (bP .u64 (wr .u64 (gu (wr .u64 (mW .u64 x0 4294967295)) (wr .u64 (mW .u64 x1 4294967295)))) 32))) 4294967295)) (wr .u64 (gu (wr .u64 (mW .u64 x0 4294967295)) (bP .u64 x1 32))))) 32)),wr .u64 (gu x0 x1))
def wz:aI:=mkSpec [.int .u64,.int .u64] [.int .u64,.int .u64] true (fun x=>qo x.1 x.2)
theorem FC:dm PG 297 wz:=okN [] [] trivial fun x=>by kernel_rfl
def D7 (x0:Int) (x1:Int):Option (Int×Int):=af (qo x0 x1) fun y0=>some y0
def zo:aI:=mkSpec [.int .u64,.int .u64] [.int .u64,.int .u64] true (fun x=>D7 x.1 x.2)
theorem IY:dm PG 242 zo:=okN [(296,Dn),(297,wz)] [] ⟨P8,FC,trivial⟩ fun x=>by kernel_rfl
def uf (v0:Int) (v1:(List jL)):Option ((Int×(List jL)) ⊕ (((List jL)))):=cnd (ilt v0 (len v1)) (cnd (band (ile 0 v0) (ile v0 (len v1))) (cnd (band (ile 0 v0) (ile v0 (len v1))) (some (Sum.inl (wr .i64 (au v0 (fJ (len (ay (aF v1 0) (itn v0))) (nti (itn (aB (len v1) v0))))),eU v1 (itn v0) (ay (ay (aF v1 0) (itn v0)) (itn (fJ (len (ay (aF v1 0) (itn v0))) (nti (itn (aB (len v1) v0))))))))) none) none) (some (Sum.inr v1))
def Dw:fE:=LSh.spec ⟨94,[],[(7,.mf 192)],[],[(8,.int .i64)],[],[(192,.expo)]⟩ [⟨.exit 0,[],[],[(192,.expo)]⟩] (sP [(8,1),(34,13)]) (fun p v=>uf v.1 v.2)
def yh (x0:(List jL)) (x1:Int):Option ((List jL)):=cnd (ilt x1 0) none (af (D7 (wr .u64 (len x0)) (wr .u64 x1)) fun y0=>cnd (bor (ilt 0 y0.1) (ilt 9223372036854775807 y0.2)) none (cnd (band (band (ile 0 (wr .i64 y0.2)) (ile (wr .i64 y0.2) (wr .i64 y0.2))) (ile (wr .i64 y0.2) 68719476736)) (af (bM (fun v=>uf v.1 v.2) LF (fJ (len x0) (len (jY jL (itn (wr .i64 y0.2)))),eU (jY jL (itn (wr .i64 y0.2))) 0 (ay x0 (itn (fJ (len x0) (len (jY jL (itn (wr .i64 y0.2))))))))) fun y1=>some y1) none))
def uP:aI:=mkSpec [.ro .expo,.int .i64] [.buf .expo] true (fun x=>yh x.1 x.2)
theorem Gm:dm PG 159 uP:=okP [(242,zo)] [] [(159,508,Dw)] ⟨IY,trivial⟩ (fun K=>⟨mg K fun p v=>by kernel_rfl,trivial⟩) fun x=>by kernel_rfl
def xQ (v0:Int) (v1:(List Int)):Option ((Int×(List Int)) ⊕ (((List Int)))):=cnd (ilt v0 (len v1)) (cnd (band (ile 0 v0) (ile v0 (len v1))) (cnd (band (ile 0 v0) (ile v0 (len v1))) (some (Sum.inl (wr .i64 (au v0 (fJ (len (ay (aF v1 0) (itn v0))) (nti (itn (aB (len v1) v0))))),eU v1 (itn v0) (ay (ay (aF v1 0) (itn v0)) (itn (fJ (len (ay (aF v1 0) (itn v0))) (nti (itn (aB (len v1) v0))))))))) none) none) (some (Sum.inr v1))
def EU:fE:=LSh.spec ⟨94,[],[(7,.mf 192)],[],[(8,.int .i64)],[],[(192,.i64)]⟩ [⟨.exit 0,[],[],[(192,.i64)]⟩] (sP [(8,1),(34,13)]) (fun p v=>xQ v.1 v.2)
def Bz (x0:(List Int)) (x1:Int):Option ((List Int)):=cnd (ilt x1 0) none (af (D7 (wr .u64 (len x0)) (wr .u64 x1)) fun y0=>cnd (bor (ilt 0 y0.1) (ilt 9223372036854775807 y0.2)) none (cnd (band (band (ile 0 (wr .i64 y0.2)) (ile (wr .i64 y0.2) (wr .i64 y0.2))) (ile (wr .i64 y0.2) 68719476736)) (af (bM (fun v=>xQ v.1 v.2) LF (fJ (len x0) (len (jY Int (itn (wr .i64 y0.2)))),eU (jY Int (itn (wr .i64 y0.2))) 0 (ay x0 (itn (fJ (len x0) (len (jY Int (itn (wr .i64 y0.2))))))))) fun y1=>some y1) none))
def yM:aI:=mkSpec [.ro .i64,.int .i64] [.buf .i64] true (fun x=>Bz x.1 x.2)
theorem JZ:dm PG 160 yM:=okP [(242,zo)] [] [(160,508,EU)] ⟨IY,trivial⟩ (fun K=>⟨mg K fun p v=>by kernel_rfl,trivial⟩) fun x=>by kernel_rfl
def qY (x0:aC):Option (Bool):=some (band (band (band (band (band (band (band (ile 1 x0.accounts) (ile x0.accounts 8)) (ile 1 x0.symbols)) (ile x0.symbols 8)) (ieq (len x0.cells) (wr .i64 (gu x0.accounts x0.symbols)))) (ieq (len x0.limits) (len x0.cells))) (ieq (len x0.caps) x0.accounts)) (ile (len x0.orders) 64))
def Ap:aI:=mkSpec [.val .state] [.bool] true (fun x=>qY x)
theorem Ll:dm PG 175 Ap:=okN [] [] trivial fun x=>by kernel_rfl
def je (x0:aG):Option (Bool):=some (bor (ax (ieq x0.newQty 0)) (ax (ieq x0.newPrice 0)))
def sV:aI:=mkSpec [.val .order] [.bool] true (fun x=>je x)
theorem Cc:dm PG 190 sV:=okN [] [] trivial fun x=>by kernel_rfl
def JS (x0:jm):Option (jm):=cnd (ieq x0.kind 1) (some (jm.mk x0.kind x0.order x0.account x0.symbol x0.side x0.qty x0.price 0 0 0 false 0 0)) (cnd (ieq x0.kind 2) (some (jm.mk x0.kind x0.order 0 0 0 x0.qty x0.price 0 0 0 false 0 0)) (cnd (ieq x0.kind 3) (some (jm.mk x0.kind x0.order 0 0 0 0 0 0 0 0 false 0 0)) (cnd (ieq x0.kind 4) (some (jm.mk x0.kind 0 x0.account x0.symbol 0 0 0 x0.long x0.short x0.opn false 0 0)) (cnd (ieq x0.kind 5) (some (jm.mk x0.kind 0 0 0 0 0 0 0 0 0 x0.on 0 0)) (cnd (ieq x0.kind 6) (some (jm.mk x0.kind x0.order 0 0 0 x0.qty x0.price 0 0 0 false x0.seq x0.what)) (some (jm.mk x0.kind 0 0 0 0 0 0 0 0 0 false 0 0)))))))
def Ku:aI:=mkSpec [.val .recd] [.val .recd] true (fun x=>JS x)
theorem YT:dm PG 95 Ku:=okN [] [] trivial fun x=>by kernel_rfl
def mV (x0:Int):Option (Bool):=some (band (ile 1 x0) (ile x0 1000000000000))
def E8:aI:=mkSpec [.int .i64] [.bool] true (fun x=>mV x)
theorem QG:dm PG 96 E8:=okN [] [] trivial fun x=>by kernel_rfl
def oH (x0:Int) (x1:Int):Option (Bool):=some (band (ile 0 x0) (ilt x0 x1))
def MR:aI:=mkSpec [.int .i64,.int .i64] [.bool] true (fun x=>oH x.1 x.2)
theorem abE:dm PG 97 MR:=okN [] [] trivial fun x=>by kernel_rfl
def oD (x0:jm):Option (Bool):=some (band (ile 1 x0.qty) (ile 1 x0.price))
def ET:aI:=mkSpec [.val .recd] [.bool] true (fun x=>oD x)
theorem Tf:dm PG 98 ET:=okN [] [] trivial fun x=>by kernel_rfl
def GR (x0:jm):Option (Bool):=af (cnd (ax (bor (ilt x0.seq 1) (ilt 1000000000 x0.seq))) (mV x0.order) (some false)) fun y0=>cnd (bor (bor (ilt x0.seq 1) (ilt 1000000000 x0.seq)) (ax y0)) (some false) (cnd (ieq x0.what 3) (some (band (ile 1 x0.qty) (ieq x0.price 0))) (cnd (ieq x0.what 5) (af (oD x0) fun y1=>some y1) (cnd (ieq x0.what 1) (cnd (ieq x0.what 1) (some (band (ieq x0.qty 0) (ieq x0.price 0))) (some false)) (cnd (ieq x0.what 2) (cnd (ieq x0.what 2) (some (band (ieq x0.qty 0) (ieq x0.price 0))) (some false)) (cnd (ieq x0.what 4) (cnd (ieq x0.what 4) (some (band (ieq x0.qty 0) (ieq x0.price 0))) (some false)) (cnd (ieq x0.what 6) (some (band (ieq x0.qty 0) (ieq x0.price 0))) (some false)))))))
def LM:aI:=mkSpec [.val .recd] [.bool] true (fun x=>GR x)
theorem aax:dm PG 99 LM:=okN [(96,E8),(98,ET)] [] ⟨QG,Tf,trivial⟩ fun x=>by kernel_rfl
def ng (x0:jm):Option (Bool):=af (JS x0) fun y0=>cnd (ax (band (ieq x0.kind y0.kind) (band (ieq x0.order y0.order) (band (ieq x0.account y0.account) (band (ieq x0.symbol y0.symbol) (band (ieq x0.side y0.side) (band (ieq x0.qty y0.qty) (band (ieq x0.price y0.price) (band (ieq x0.long y0.long) (band (ieq x0.short y0.short) (band (ieq x0.opn y0.opn) (band (beq x0.on y0.on) (band (ieq x0.seq y0.seq) (ieq x0.what y0.what)))))))))))))) (some false) (cnd (ieq x0.kind 1) (af (mV x0.order) fun y1=>af (cnd y1 (oH x0.account 8) (some false)) fun y2=>af (cnd (band y1 y2) (oH x0.symbol 8) (some false)) fun y3=>af (cnd (band (band (band y1 y2) y3) (bor (ieq x0.side 1) (ieq x0.side 2))) (oD x0) (some false)) fun y4=>some (band (band (band (band y1 y2) y3) (bor (ieq x0.side 1) (ieq x0.side 2))) y4)) (cnd (ieq x0.kind 2) (af (mV x0.order) fun y5=>af (cnd y5 (oD x0) (some false)) fun y6=>some (band y5 y6)) (cnd (ieq x0.kind 3) (af (mV x0.order) fun y7=>some y7) (cnd (ieq x0.kind 4) (af (oH x0.account 8) fun y8=>af (cnd (band y8 (ax (band (band (ieq x0.symbol (-1)) (ieq x0.long 0)) (ieq x0.short 0)))) (oH x0.symbol 8) (some false)) fun y9=>some (band (band y8 (bor (band (band (ieq x0.symbol (-1)) (ieq x0.long 0)) (ieq x0.short 0)) y9)) (ile 0 (fJ (fJ x0.long x0.short) x0.opn)))) (cnd (ieq x0.kind 5) (some true) (cnd (ieq x0.kind 6) (af (GR x0) fun y10=>some y10) (some false)))))))
def mZ:aI:=mkSpec [.val .recd] [.bool] true (fun x=>ng x)
theorem sN:dm PG 40 mZ:=okN [(95,Ku),(96,E8),(97,MR),(98,ET),(99,LM)] [] ⟨YT,QG,abE,Tf,aax,trivial⟩ fun x=>by kernel_rfl
def CX (x0:aG):Option (Bool):=af (ng (jm.mk 1 x0.id x0.account x0.symbol x0.side x0.qty x0.price 0 0 0 false 0 0)) fun y0=>some y0
def Ir:aI:=mkSpec [.val .order] [.bool] true (fun x=>CX x)
theorem Yq:dm PG 191 Ir:=okN [(40,mZ)] [] ⟨sN,trivial⟩ fun x=>by kernel_rfl
def iJ (x0:aG):Option (Bool):=af (je x0) fun y0=>af (CX x0) fun y1=>cnd (bor (bor (bor (bor (ax y1) (ilt x0.filled 0)) (ilt x0.qty x0.filled)) (ilt x0.version 0)) (band y0 (ilt (fJ x0.newQty x0.newPrice) 1))) (some false) (cnd (ieq x0.phase 1) (some (band (band (ieq x0.filled 0) (ieq x0.version 0)) (ax y0))) (cnd (ieq x0.phase 2) (some (ilt x0.filled x0.qty)) (cnd (ieq x0.phase 3) (some (ax y0)) (some false))))
def jk:aI:=mkSpec [.val .order] [.bool] true (fun x=>iJ x)
theorem lN:dm PG 116 jk:=okN [(190,sV),(191,Ir)] [] ⟨Cc,Yq,trivial⟩ fun x=>by kernel_rfl
def CY (x0:jL):Option (Bool):=some (ile 0 (fJ (fJ x0.long x0.short) x0.opn))
def IX:aI:=mkSpec [.val .expo] [.bool] true (fun x=>CY x)
theorem WY:dm PG 260 IX:=okN [] [] trivial fun x=>by kernel_rfl
def lI (p0:(List Int)) (v0:Int) (v1:Int):Option ((Int×Int) ⊕ ((Int))):=cnd (ilt v0 (len p0)) (cnd (band (ile 0 v0) (ilt v0 (len p0))) (some (Sum.inl (wr .i64 (au v0 1),fJ v1 (aj p0 (itn v0))))) none) (some (Sum.inr v1))
def Jh:fE:=LSh.spec ⟨74,[(0,.ro .i64)],[],[],[(4,.int .i64),(3,.int .i64)],[],[]⟩ [⟨.exit 0,[(3,.int .i64)],[],[]⟩] (sP [(3,2),(12,12)]) (fun p v=>lI p v.1 v.2)
def l9 (x0:(List Int)):Option (Int):=cnd (ilt (len x0) 1) none (cnd (ilt 0 (len x0)) (af (bM (fun v=>lI x0 v.1 v.2) LF (1,aj x0 0)) fun y0=>some y0) none)
def BA:aI:=mkSpec [.ro .i64] [.int .i64] true (fun x=>l9 x)
theorem Ox:dm PG 262 BA:=okP [] [] [(262,122,Jh)] trivial (fun K=>⟨mg K fun p v=>by kernel_rfl,trivial⟩) fun x=>by kernel_rfl
def lX (p0:Int) (p1:(List aG)) (p2:aC) (v0:Int) (v1:Int) (v2:Bool):Option ((Int×Int×Bool) ⊕ ((Bool) ⊕ ((Int×Bool)))):=cnd (ilt v0 p0) (cnd (band (ile 0 v0) (ilt v0 (len p1))) (af (iJ (aj p1 (itn v0))) fun y0=>cnd (bor (bor (bor (bor (ax y0) (ieq (aj p1 (itn v0)).phase 3)) (ile p2.accounts (aj p1 (itn v0)).account)) (ile p2.symbols (aj p1 (itn v0)).symbol)) (ile (aj p1 (itn v0)).id v1)) (some (Sum.inr (Sum.inl false))) (some (Sum.inl (wr .i64 (au v0 1),(aj p1 (itn v0)).id,v2)))) none) (some (Sum.inr (Sum.inr (v1,v2))))
def J3:fE:=LSh.spec ⟨73,[(10,.int .i64),(9,.ro .order)],[(1,.mp 8 0)],[(8,[.val .state])],[(11,.int .i64),(3,.int .i64),(2,.bool)],[],[]⟩ [⟨.ret,[(2,.bool)],[],[]⟩,⟨.exit 0,[(3,.int .i64),(2,.bool)],[],[]⟩] (sP [(2,2),(5,1),(11,37)]) (fun p v=>lX p.1 p.2.1 p.2.2 v.1 v.2.1 v.2.2)
def cu (p0:Int) (p1:(List jL)) (v0:Int) (v1:Int):Option ((Int×Int) ⊕ ((Int) ⊕ ((Int)))):=cnd (ilt v0 p0) (cnd (band (ile 0 v0) (ilt v0 (len p1))) (af (CY (aj p1 (itn v0))) fun y0=>cnd (ax y0) (some (Sum.inr (Sum.inl v0))) (some (Sum.inl (wr .i64 (au v0 1),v1)))) none) (some (Sum.inr (Sum.inr v1)))
def mD:fE:=LSh.spec ⟨210,[(7,.int .i64),(0,.ro .expo)],[(1,.fn 259 [])],[],[(8,.int .i64),(4,.int .i64)],[],[]⟩ [⟨.ret,[(4,.int .i64)],[],[]⟩,⟨.exit 0,[(4,.int .i64)],[],[]⟩] (sP [(4,2),(8,11)]) (fun p v=>cu p.1 p.2 v.1 v.2)
def tq (x0:aC):Option (Bool):=af (bM (fun v=>lX (len x0.orders) x0.orders x0 v.1 v.2.1 v.2.2) LF (0,0,false)) fun y0=>jB y0 (fun y1=>some y1) fun y1=>cnd (band (band (band (band (band (ile y1.1 x0.last) (ile x0.last 1000000000000)) (ile 0 x0.seq)) (ile x0.seq 1000000000)) (ile 0 x0.lsn)) (ile x0.lsn 1000000000)) (af (bM (fun v=>cu (len x0.limits) x0.limits v.1 v.2) LF (0,0)) fun y2=>jB y2 (fun y3=>af (cnd (band (band (band (band (band (band (ile y1.1 x0.last) (ile x0.last 1000000000000)) (ile 0 x0.seq)) (ile x0.seq 1000000000)) (ile 0 x0.lsn)) (ile x0.lsn 1000000000)) (ax (ile 0 y3))) (l9 x0.caps) (some 0)) fun y4=>some (band (band (band (band (band (band (band (band (ile y1.1 x0.last) (ile x0.last 1000000000000)) (ile 0 x0.seq)) (ile x0.seq 1000000000)) (ile 0 x0.lsn)) (ile x0.lsn 1000000000)) (ax (ile 0 y3))) (ile 0 y4)) (ile 0 x0.last))) fun y3=>af (cnd (bor (band (band (band (band (band (ile y1.1 x0.last) (ile x0.last 1000000000000)) (ile 0 x0.seq)) (ile x0.seq 1000000000)) (ile 0 x0.lsn)) (ile x0.lsn 1000000000)) false) (l9 x0.caps) (some 0)) fun y5=>some (band (band (bor (band (band (band (band (band (ile y1.1 x0.last) (ile x0.last 1000000000000)) (ile 0 x0.seq)) (ile x0.seq 1000000000)) (ile 0 x0.lsn)) (ile x0.lsn 1000000000)) false) (ile 0 y5)) (ile 0 x0.last))) (af (cnd (bor (band (band (band (band (band (ile y1.1 x0.last) (ile x0.last 1000000000000)) (ile 0 x0.seq)) (ile x0.seq 1000000000)) (ile 0 x0.lsn)) (ile x0.lsn 1000000000)) false) (l9 x0.caps) (some 0)) fun y6=>some (band (band (bor (band (band (band (band (band (ile y1.1 x0.last) (ile x0.last 1000000000000)) (ile 0 x0.seq)) (ile x0.seq 1000000000)) (ile 0 x0.lsn)) (ile x0.lsn 1000000000)) false) (ile 0 y6)) (ile 0 x0.last)))
def BB:aI:=mkSpec [.val .state] [.bool] true (fun x=>tq x)
theorem OB:dm PG 176 BB:=okP [(116,jk),(260,IX),(262,BA)] [259,261,306] [(176,58,J3),(3246629350631170171186,26,mD)] ⟨lN,WY,Ox,trivial⟩ (fun K=>⟨mg K fun p v=>by kernel_rfl,mg K fun p v=>by kernel_rfl,trivial⟩) fun x=>by kernel_rfl
def bF (x0:aC) (x1:Int) (x2:Int):Option (Int):=some (wr .i64 (au (wr .i64 (gu x1 x0.symbols)) x2))
def nD:aI:=mkSpec [.val .state,.int .i64,.int .i64] [.int .i64] true (fun x=>bF x.1 x.2.1 x.2.2)
theorem uq:dm PG 248 nD:=okN [] [] trivial fun x=>by kernel_rfl
def oL (x0:Int) (x1:Int):Option (Int×Int):=cnd (band (ax (beq (ilt x0 (wr .i64 (au x0 x1))) (ilt 0 x1))) (ax (ieq x1 0))) (some (0,3)) (some (wr .i64 (au x0 x1),0))
def sZ:aI:=mkSpec [.int .i64,.int .i64] [.int .i64,.int .i64] true (fun x=>oL x.1 x.2)
theorem BH:dm PG 161 sZ:=okN [] [] trivial fun x=>by kernel_rfl
def wY (x0:Int) (x1:Int):Option (Int×Int):=cnd (band (ax (beq (ilt (wr .i64 (aB x0 x1)) x0) (ilt 0 x1))) (ax (ieq x1 0))) (some (0,3)) (some (wr .i64 (aB x0 x1),0))
def ED:aI:=mkSpec [.int .i64,.int .i64] [.int .i64,.int .i64] true (fun x=>wY x.1 x.2)
theorem PO:dm PG 302 ED:=okN [] [] trivial fun x=>by kernel_rfl
def Dk (x0:bC):Option (jL×Bool):=af (oL x0.pos x0.buy) fun y0=>af (wY x0.sell x0.pos) fun y1=>some (jL.mk y0.1 y1.1 x0.opn,band (ieq y0.2 0) (ieq y1.2 0))
def ER:aI:=mkSpec [.val .cell] [.val .expo,.bool] true (fun x=>Dk x)
theorem QH:dm PG 263 ER:=okN [(161,sZ),(302,ED)] [] ⟨BH,PO,trivial⟩ fun x=>by kernel_rfl
def jd (x0:bC):Option (Bool):=af (Dk x0) fun y0=>some (band y0.2 (ile 0 (fJ (fJ x0.buy x0.sell) x0.opn)))
def pR:aI:=mkSpec [.val .cell] [.bool] true (fun x=>jd x)
theorem yG:dm PG 178 pR:=okN [(263,ER)] [] ⟨QH,trivial⟩ fun x=>by kernel_rfl
def FT (x0:Int):Option (Int):=cnd (ilt x0 0) (some (wr .u64 (aB 0 (wr .u64 x0)))) (some (wr .u64 x0))
def OV:aI:=mkSpec [.int .i64] [.int .u64] true (fun x=>FT x)
theorem abX:dm PG 350 OV:=okN [] [] trivial fun x=>by kernel_rfl
def Jg (x0:Int) (x1:Int):Option (Int×Int):=af (FT x0) fun y0=>af (FT x1) fun y1=>af (qo y0 y1) fun y2=>cnd (band (band (ieq y2.1 0) (ax (beq (ilt x0 0) (ilt x1 0)))) (ile y2.2 9223372036854775808)) (some (wr .i64 (wr .u64 (aB 0 y2.2)),0)) (cnd (band (ieq y2.1 0) (ile y2.2 9223372036854775807)) (some (wr .i64 y2.2,0)) (some (0,3)))
def SL:aI:=mkSpec [.int .i64,.int .i64] [.int .i64,.int .i64] true (fun x=>Jg x.1 x.2)
theorem aej:dm PG 345 SL:=okN [(350,OV),(297,wz)] [] ⟨abX,FC,trivial⟩ fun x=>by kernel_rfl
def IB (x0:Int) (x1:Int):Option (Int):=some (imax x0 x1)
def Jt:aI:=mkSpec [.int .i64,.int .i64] [.int .i64] true (fun x=>IB x.1 x.2)
theorem Yc:dm PG 346 Jt:=okN [] [] trivial fun x=>by kernel_rfl
def yA (x0:aG):Option (Int×Int):=af (iJ x0) fun y0=>cnd (ax y0) (some (0,1)) (cnd (ieq x0.phase 3) (some (0,0)) (af (Jg (wr .i64 (aB x0.qty x0.filled)) x0.price) fun y1=>cnd (bor (ax (ieq y1.2 0)) (ile x0.newQty x0.filled)) (some y1) (af (Jg (wr .i64 (aB x0.newQty x0.filled)) x0.newPrice) fun y2=>cnd (ax (ieq y2.2 0)) (some (0,y2.2)) (af (IB y1.1 y2.1) fun y3=>some (y3,0)))))
def BQ:aI:=mkSpec [.val .order] [.int .i64,.int .i64] true (fun x=>yA x)
theorem NE:dm PG 326 BQ:=okN [(116,jk),(345,SL),(346,Jt)] [] ⟨lN,aej,Yc,trivial⟩ fun x=>by kernel_rfl
def sG (x0:aG):Option (Int):=af (iJ x0) fun y0=>cnd (bor (ax y0) (ieq x0.phase 3)) (some 0) (af (IB x0.qty x0.newQty) fun y1=>some (wr .i64 (aB y1 x0.filled)))
def D9:aI:=mkSpec [.val .order] [.int .i64] true (fun x=>sG x)
theorem OJ:dm PG 327 D9:=okN [(116,jk),(346,Jt)] [] ⟨lN,Yc,trivial⟩ fun x=>by kernel_rfl
def kz (x0:bC) (x1:aG):Option (bC×Int):=af (jd x0) fun y0=>af (cnd (ax (ax y0)) (iJ x1) (some false)) fun y1=>cnd (bor (ax y0) (ax y1)) (some (x0,1)) (af (yA x1) fun y2=>cnd (ieq x1.side 2) (af (sG x1) fun y3=>af (oL x0.sell y3) fun y4=>af (oL x0.opn y2.1) fun y5=>af (cnd (ax (bor (bor (ax (ieq y2.2 0)) (ax (ieq y4.2 0))) (ax (ieq y5.2 0)))) (jd (bC.mk x0.pos x0.buy y4.1 y5.1)) (some false)) fun y6=>cnd (bor (bor (bor (ax (ieq y2.2 0)) (ax (ieq y4.2 0))) (ax (ieq y5.2 0))) (ax y6)) (some (x0,3)) (some (bC.mk x0.pos x0.buy y4.1 y5.1,0))) (af (sG x1) fun y7=>af (oL x0.buy y7) fun y8=>af (oL x0.opn y2.1) fun y9=>af (cnd (ax (bor (bor (ax (ieq y2.2 0)) (ax (ieq y8.2 0))) (ax (ieq y9.2 0)))) (jd (bC.mk x0.pos y8.1 x0.sell y9.1)) (some false)) fun y10=>cnd (bor (bor (bor (ax (ieq y2.2 0)) (ax (ieq y8.2 0))) (ax (ieq y9.2 0))) (ax y10)) (some (x0,3)) (some (bC.mk x0.pos y8.1 x0.sell y9.1,0))))
def EP:aI:=mkSpec [.val .cell,.val .order] [.val .cell,.int .i64] true (fun x=>kz x.1 x.2)
theorem SC:dm PG 249 EP:=okN [(178,pR),(116,jk),(326,BQ),(327,D9),(161,sZ)] [298] ⟨yG,lN,NE,OJ,BH,trivial⟩ fun x=>by kernel_rfl
def kY (p0:Int) (p1:(List aG)) (p2:aC) (v0:Int) (v1:Bool) (v2:(List bC)) (v3:(List bC)):Option ((Int×Bool×(List bC)×(List bC)) ⊕ ((Bool×(List bC)×(List bC)) ⊕ ((Bool×(List bC)×(List bC))))):=cnd (ilt v0 p0) (cnd (band (ile 0 v0) (ilt v0 (len p1))) (af (bF p2 (aj p1 (itn v0)).account (aj p1 (itn v0)).symbol) fun y0=>cnd (band (ile 0 y0) (ilt y0 (len v3))) (af (kz (aj v3 (itn y0)) (aj p1 (itn v0))) fun y1=>cnd (ax (ieq y1.2 0)) (some (Sum.inr (Sum.inl (false,[],v3)))) (cnd (band (ile 0 y0) (ilt y0 (len v3))) (some (Sum.inl (wr .i64 (au v0 1),v1,v2,aY v3 (itn y0) y1.1))) none)) none) none) (some (Sum.inr (Sum.inr (v1,v2,v3))))
def Hr:fE:=LSh.spec ⟨79,[(18,.int .i64),(17,.ro .order)],[(4,.mf 64),(1,.mp 8 0)],[(8,[.val .state])],[(19,.int .i64),(3,.bool),(2,.buf .cell)],[],[(64,.cell)]⟩ [⟨.ret,[(3,.bool),(2,.buf .cell)],[],[(64,.cell)]⟩,⟨.exit 0,[(3,.bool),(2,.buf .cell)],[],[(64,.cell)]⟩] (sP [(2,2),(6,4),(19,26)]) (fun p v=>kY p.1 p.2.1 p.2.2 v.1 v.2.1 v.2.2.1 v.2.2.2)
def qA (x0:aC):Option ((List bC)×Bool):=cnd (band (band (ile 0 (len x0.cells)) (ile (len x0.cells) (len x0.cells))) (ile (len x0.cells) 68719476736)) (af (bM (fun v=>kY (len x0.orders) x0.orders x0 v.1 v.2.1 v.2.2.1 v.2.2.2) LF (0,false,[],jY bC (itn (len x0.cells)))) fun y0=>jB y0 (fun y1=>some (y1.2.1,y1.1)) fun y1=>some (y1.2.2,true)) none
def zS:aI:=mkSpec [.val .state] [.buf .cell,.bool] true (fun x=>qA x)
theorem KU:dm PG 177 zS:=okP [(248,nD),(249,EP)] [] [(177,58,Hr)] ⟨uq,SC,trivial⟩ (fun K=>⟨mg K fun p v=>by kernel_rfl,trivial⟩) fun x=>by kernel_rfl
def kD (x0:aC) (x1:Int):Option ((List bC)):=cnd (band (band (ile 0 (wr .i64 (gu x1 x0.symbols))) (ile (wr .i64 (gu x1 x0.symbols)) (wr .i64 (gu (wr .i64 (au x1 1)) x0.symbols)))) (ile (wr .i64 (gu (wr .i64 (au x1 1)) x0.symbols)) (len x0.cells))) (some (ay (aF x0.cells (itn (wr .i64 (gu x1 x0.symbols)))) (itn (aB (wr .i64 (gu (wr .i64 (au x1 1)) x0.symbols)) (wr .i64 (gu x1 x0.symbols)))))) none
def qJ:aI:=mkSpec [.val .state,.int .i64] [.ro .cell] false (fun x=>kD x.1 x.2)
theorem AL:dm PG 180 qJ:=okN [] [] trivial fun x=>by kernel_rfl
def wo (p0:Int) (p1:(List Int)) (v0:Int) (v1:Int) (v2:Int) (v3:Int):Option ((Int×Int×Int×Int) ⊕ ((Int×Int) ⊕ ((Int×Int×Int)))):=cnd (ilt v0 p0) (cnd (band (ile 0 v0) (ilt v0 (len p1))) (af (oL v1 (aj p1 (itn v0))) fun y0=>cnd (ax (ieq y0.2 0)) (some (Sum.inr (Sum.inl (y0.2,0)))) (some (Sum.inl (wr .i64 (au v0 1),y0.1,v2,v3)))) none) (some (Sum.inr (Sum.inr (v1,v2,v3))))
def Vw:fE:=LSh.spec ⟨71,[(10,.int .i64),(9,.ro .i64)],[],[],[(11,.int .i64),(4,.int .i64),(3,.int .i64),(2,.int .i64)],[],[]⟩ [⟨.ret,[(3,.int .i64),(2,.int .i64)],[],[]⟩,⟨.exit 0,[(4,.int .i64),(3,.int .i64),(2,.int .i64)],[],[]⟩] (sP [(2,3),(6,3),(11,15)]) (fun p v=>wo p.1 p.2 v.1 v.2.1 v.2.2.1 v.2.2.2)
def G8 (x0:(List Int)):Option (Int×Int):=af (bM (fun v=>wo (len x0) x0 v.1 v.2.1 v.2.2.1 v.2.2.2) LF (0,0,0,0)) fun y0=>jB y0 (fun y1=>some (y1.2,y1.1)) fun y1=>some (y1.1,0)
def MK:aI:=mkSpec [.ro .i64] [.int .i64,.int .i64] true (fun x=>G8 x)
theorem abK:dm PG 264 MK:=okP [(161,sZ)] [] [(264,58,Vw)] ⟨BH,trivial⟩ (fun K=>⟨mg K fun p v=>by kernel_rfl,trivial⟩) fun x=>by kernel_rfl
def rM (p0:Int) (p1:(List bC)) (v0:Int) (v1:(List Int)):Option ((Int×(List Int)) ⊕ (((List Int)))):=cnd (ilt v0 p0) (cnd (band (ile 0 v0) (ilt v0 (len p1))) (cnd (ile (len (dB v1 [(aj p1 (itn v0)).opn])) 68719476736) (some (Sum.inl (wr .i64 (au v0 1),dB v1 [(aj p1 (itn v0)).opn]))) none) none) (some (Sum.inr v1))
def Sv:fE:=LSh.spec ⟨71,[(8,.int .i64),(7,.ro .cell)],[],[],[(9,.int .i64),(4,.buf .i64)],[],[]⟩ [⟨.exit 0,[(4,.buf .i64)],[],[]⟩] (sP [(4,1),(6,1),(9,10)]) (fun p v=>rM p.1 p.2 v.1 v.2)
def um (x0:(List bC)):Option (Int×Int):=af (bM (fun v=>rM (len x0) x0 v.1 v.2) LF (0,[])) fun y0=>af (G8 y0) fun y1=>some y1
def Cm:aI:=mkSpec [.ro .cell] [.int .i64,.int .i64] true (fun x=>um x)
theorem Nc:dm PG 179 Cm:=okP [(264,MK)] [] [(179,58,Sv)] ⟨abK,trivial⟩ (fun K=>⟨mg K fun p v=>by kernel_rfl,trivial⟩) fun x=>by kernel_rfl
def kS (p0:Int) (p1:(List bC)) (v0:Int) (v1:Bool) (v2:(List bC)):Option ((Int×Bool×(List bC)) ⊕ ((Bool×(List bC)) ⊕ ((Bool×(List bC))))):=cnd (ilt v0 p0) (cnd (band (ile 0 v0) (ilt v0 (len p1))) (cnd (band (ile 0 v0) (ilt v0 (len v2))) (af (jd (aj p1 (itn v0))) fun y0=>cnd (bor (band (ile 0 v0) (ilt v0 (len (aY v2 (itn v0) (bC.mk (aj p1 (itn v0)).pos (aj v2 (itn v0)).buy (aj v2 (itn v0)).sell (aj v2 (itn v0)).opn))))) (ax (ax (ax y0)))) (cnd (bor (ax y0) (ax (band (ieq (aj (aY v2 (itn v0) (bC.mk (aj p1 (itn v0)).pos (aj v2 (itn v0)).buy (aj v2 (itn v0)).sell (aj v2 (itn v0)).opn)) (itn v0)).pos (aj p1 (itn v0)).pos) (band (ieq (aj (aY v2 (itn v0) (bC.mk (aj p1 (itn v0)).pos (aj v2 (itn v0)).buy (aj v2 (itn v0)).sell (aj v2 (itn v0)).opn)) (itn v0)).buy (aj p1 (itn v0)).buy) (band (ieq (aj (aY v2 (itn v0) (bC.mk (aj p1 (itn v0)).pos (aj v2 (itn v0)).buy (aj v2 (itn v0)).sell (aj v2 (itn v0)).opn)) (itn v0)).sell (aj p1 (itn v0)).sell) (ieq (aj (aY v2 (itn v0) (bC.mk (aj p1 (itn v0)).pos (aj v2 (itn v0)).buy (aj v2 (itn v0)).sell (aj v2 (itn v0)).opn)) (itn v0)).opn (aj p1 (itn v0)).opn)))))) (some (Sum.inr (Sum.inl (false,aY v2 (itn v0) (bC.mk (aj p1 (itn v0)).pos (aj v2 (itn v0)).buy (aj v2 (itn v0)).sell (aj v2 (itn v0)).opn))))) (some (Sum.inl (wr .i64 (au v0 1),v1,aY v2 (itn v0) (bC.mk (aj p1 (itn v0)).pos (aj v2 (itn v0)).buy (aj v2 (itn v0)).sell (aj v2 (itn v0)).opn))))) none) none) none) (some (Sum.inr (Sum.inr (v1,v2))))
def Ic:fE:=LSh.spec ⟨89,[(28,.int .i64),(27,.ro .cell)],[(3,.mf 96)],[],[(29,.int .i64),(2,.bool)],[],[(96,.cell)]⟩ [⟨.ret,[(2,.bool)],[],[(96,.cell)]⟩,⟨.exit 0,[(2,.bool)],[],[(96,.cell)]⟩] (sP [(2,1),(5,2),(29,23)]) (fun p v=>kS p.1 p.2 v.1 v.2.1 v.2.2)
def kR (p0:Int) (p1:aC) (v0:Int) (v1:Bool):Option ((Int×Bool) ⊕ ((Bool) ⊕ ((Bool)))):=cnd (ilt v0 p0) (af (kD p1 v0) fun y0=>af (um y0) fun y1=>cnd (ax (ieq y1.2 0)) (some (Sum.inr (Sum.inl false))) (some (Sum.inl (wr .i64 (au v0 1),v1)))) (some (Sum.inr (Sum.inr v1)))
def H8:fE:=LSh.spec ⟨162,[(54,.int .i64)],[(1,.mp 8 0)],[(8,[.val .state])],[(55,.int .i64),(2,.bool)],[],[]⟩ [⟨.ret,[(2,.bool)],[],[]⟩,⟨.exit 2,[(2,.bool)],[],[]⟩] (sP [(2,1),(7,3),(55,13)]) (fun p v=>kR p.1 p.2 v.1 v.2)
def yc (x0:aC):Option (Bool):=af (qY x0) fun y0=>af (cnd (ax (ax y0)) (tq x0) (some false)) fun y1=>cnd (bor (ax y0) (ax y1)) (some false) (af (qA x0) fun y2=>cnd (ax y2.2) (some false) (af (bM (fun v=>kS (len x0.cells) x0.cells v.1 v.2.1 v.2.2) LF (0,false,y2.1)) fun y3=>jB y3 (fun y4=>some y4.1) fun y4=>af (bM (fun v=>kR x0.accounts x0 v.1 v.2) LF (0,y4.1)) fun y5=>jB y5 (fun y6=>some y6) fun y6=>some true))
def Ba:aI:=mkSpec [.val .state] [.bool] true (fun x=>yc x)
theorem LZ:dm PG 91 Ba:=okP [(175,Ap),(176,BB),(177,zS),(178,pR),(180,qJ),(179,Cm)] [] [(91,250,Ic),(91,506,H8)] ⟨Ll,OB,KU,yG,AL,Nc,trivial⟩ (fun K=>⟨mg K fun p v=>by kernel_rfl,mg K fun p v=>by kernel_rfl,trivial⟩) fun x=>by kernel_rfl
def nT (x0:aC):Option (Bool):=af (yc x0) fun y0=>some y0
def tX:aI:=mkSpec [.val .state] [.bool] true (fun x=>nT x)
theorem CV:dm PG 37 tX:=okN [(91,Ba)] [] ⟨LZ,trivial⟩ fun x=>by kernel_rfl
def Qy (x0:Int) (x1:Int) (x2:jL) (x3:Int):Option (aC×Int):=cnd (bor (bor (bor (ilt x0 1) (ilt 8 x0)) (ilt x1 1)) (ilt 8 x1)) (some (aC.mk 0 0 [] [] [] [] false 0 0 0,1)) (cnd (band (band (ile 0 (wr .i64 (gu x0 x1))) (ile (wr .i64 (gu x0 x1)) (wr .i64 (gu x0 x1)))) (ile (wr .i64 (gu x0 x1)) 68719476736)) (af (yh [x2] (wr .i64 (gu x0 x1))) fun y0=>af (Bz [x3] x0) fun y1=>af (nT (aC.mk x0 x1 [] (jY bC (itn (wr .i64 (gu x0 x1)))) y0 y1 false 0 0 0)) fun y2=>cnd (ax y2) (some (aC.mk 0 0 [] [] [] [] false 0 0 0,1)) (some (aC.mk x0 x1 [] (jY bC (itn (wr .i64 (gu x0 x1)))) y0 y1 false 0 0 0,0))) none)
def OW:aI:=mkSpec [.int .i64,.int .i64,.val .expo,.int .i64] [.val .state,.int .i64] false (fun x=>Qy x.1 x.2.1 x.2.2.1 x.2.2.2)
theorem ace:dm PG 78 OW:=okN [(159,uP),(160,yM),(37,tX)] [] ⟨Gm,JZ,CV,trivial⟩ fun x=>by kernel_rfl
def Gx (x0:Int):Option (Bool):=some (bor (bor (band (ile 97 x0) (ile x0 122)) (band (ile 48 x0) (ile x0 57))) (ieq x0 46))
def ML:aI:=mkSpec [.int .u8] [.bool] true (fun x=>Gx x)
theorem aaO:dm PG 174 ML:=okN [] [] trivial fun x=>by kernel_rfl
def tZ (p0:Int) (p1:(List UInt8)) (v0:Int) (v1:Bool):Option ((Int×Bool) ⊕ ((Bool) ⊕ ((Bool)))):=cnd (ilt v0 p0) (cnd (band (ile 0 v0) (ilt v0 (len p1))) (af (Gx (aez p1 (itn v0))) fun y0=>cnd (ax y0) (some (Sum.inr (Sum.inl false))) (some (Sum.inl (wr .i64 (au v0 1),v1)))) none) (some (Sum.inr (Sum.inr v1)))
def UH:fE:=LSh.spec ⟨69,[(5,.int .i64),(0,.str)],[],[],[(6,.int .i64),(2,.bool)],[],[]⟩ [⟨.ret,[(2,.bool)],[],[]⟩,⟨.exit 0,[(2,.bool)],[],[]⟩] (sP [(2,2),(6,9)]) (fun p v=>tZ p.1 p.2 v.1 v.2)
def AA (x0:(List UInt8)):Option (Bool):=af (bM (fun v=>tZ (len x0) x0 v.1 v.2) LF (0,false)) fun y0=>jB y0 (fun y1=>some y1) fun y1=>some (band (ile 1 (len x0)) (ile (len x0) 16))
def Ed:aI:=mkSpec [.str] [.bool] true (fun x=>AA x)
theorem OL:dm PG 90 Ed:=okP [(174,ML)] [] [(90,26,UH)] ⟨aaO,trivial⟩ (fun K=>⟨mg K fun p v=>by kernel_rfl,trivial⟩) fun x=>by kernel_rfl
def rJ (p0:Int) (p1:(List aA)) (p2:ah) (v0:Int) (v1:Int) (v2:Bool):Option ((Int×Int×Bool) ⊕ ((Bool) ⊕ ((Bool)))):=cnd (ilt v0 p0) (cnd (band (ile 0 v0) (ilt v0 (len p1))) (af (AA (aj p1 (itn v0)).name) fun y0=>cnd (bor (band (ile 0 (wr .i64 (aB v0 1))) (ilt (wr .i64 (aB v0 1)) (len p2.files))) (ax (band (ax (ax y0)) (ilt 0 v0)))) (cnd (bor (bor (bor (bor (ax y0) (band (ilt 0 v0) (ax (slt (aj p2.files (itn (wr .i64 (aB v0 1)))).name (aj p1 (itn v0)).name)))) (ilt (aj p1 (itn v0)).sure 0)) (ilt (len (aj p1 (itn v0)).data) (aj p1 (itn v0)).sure)) (ilt v1 (len (aj p1 (itn v0)).data))) (some (Sum.inr (Sum.inl false))) (some (Sum.inl (wr .i64 (au v0 1),wr .i64 (aB v1 (len (aj p1 (itn v0)).data)),v2)))) none) none) (some (Sum.inr (Sum.inr v2)))
def QV:fE:=LSh.spec ⟨93,[(29,.int .i64),(28,.ro .file)],[(1,.mp 8 0)],[(8,[.val .disk])],[(30,.int .i64),(3,.int .i64),(2,.bool)],[],[]⟩ [⟨.ret,[(2,.bool)],[],[]⟩,⟨.exit 0,[(2,.bool)],[],[]⟩] (sP [(2,4),(30,51)]) (fun p v=>rJ p.1 p.2.1 p.2.2 v.1 v.2.1 v.2.2)
def mJ (x0:ah):Option (Bool):=cnd (bor (bor (bor (ilt x0.room 0) (ilt 65536 x0.room)) (ilt x0.fuse (-1))) (ilt 64 (len x0.files))) (some false) (af (bM (fun v=>rJ (len x0.files) x0.files x0 v.1 v.2.1 v.2.2) LF (0,x0.room,false)) fun y0=>jB y0 (fun y1=>some y1) fun y1=>some true)
def pW:aI:=mkSpec [.val .disk] [.bool] true (fun x=>mJ x)
theorem yH:dm PG 36 pW:=okP [(90,Ed)] [] [(36,122,QV)] ⟨OL,trivial⟩ (fun K=>⟨mg K fun p v=>by kernel_rfl,trivial⟩) fun x=>by kernel_rfl
def yN (x0:fM):Option (Bool):=some (band (band (band (band (band (ile 1 x0.epoch) (ile x0.epoch 1000000)) (ile 1 x0.lsn)) (ile x0.lsn 1000000000)) (ile 1 x0.kind)) (ile x0.kind 6))
def CJ:aI:=mkSpec [.val .frame] [.bool] true (fun x=>yN x)
theorem Na:dm PG 265 CJ:=okN [] [] trivial fun x=>by kernel_rfl
def yI (p0:Int) (p1:(List fM)) (v0:Int) (v1:Bool) (v2:Int) (v3:Int):Option ((Int×Bool×Int×Int) ⊕ ((Bool×Int×Int) ⊕ ((Bool×Int×Int)))):=cnd (ilt v0 p0) (cnd (band (ile 0 v0) (ilt v0 (len p1))) (af (yN (aj p1 (itn v0))) fun y0=>cnd (bor (bor (ax y0) (ax (ieq (aj p1 (itn v0)).lsn v2))) (ilt (aj p1 (itn v0)).epoch v3)) (some (Sum.inr (Sum.inl (false,v2,v3)))) (some (Sum.inl (wr .i64 (au v0 1),v1,wr .i64 (au (aj p1 (itn v0)).lsn 1),(aj p1 (itn v0)).epoch)))) none) (some (Sum.inr (Sum.inr (v1,v2,v3))))
def XF:fE:=LSh.spec ⟨76,[(14,.int .i64),(13,.ro .frame)],[(7,.mp 56 0)],[],[(15,.int .i64),(6,.bool)],[(56,[.int .i64,.int .i64])],[]⟩ [⟨.ret,[(6,.bool)],[(56,[.int .i64,.int .i64])],[]⟩,⟨.exit 0,[(6,.bool)],[(56,[.int .i64,.int .i64])],[]⟩] (sP [(6,1),(9,1),(15,8)]) (fun p v=>yI p.1 p.2 v.1 v.2.1 v.2.2.1 v.2.2.2)
def Kr (x0:(List fM)) (x1:Int) (x2:Int):Option (Bool):=af (bM (fun v=>yI (len x0) x0 v.1 v.2.1 v.2.2.1 v.2.2.2) LF (0,false,x1,x2)) fun y0=>jB y0 (fun y1=>some y1.1) fun y1=>some true
def O8:aI:=mkSpec [.ro .frame,.int .i64,.int .i64] [.bool] true (fun x=>Kr x.1 x.2.1 x.2.2)
theorem acw:dm PG 93 O8:=okP [(265,CJ)] [181] [(93,58,XF)] ⟨Na,trivial⟩ (fun K=>⟨mg K fun p v=>by kernel_rfl,trivial⟩) fun x=>by kernel_rfl
def dI (p0:Int) (p1:(List fM)) (p2:Int) (p3:Int) (p4:Int) (p5:Int) (p6:Int) (p7:(List fM)) (v0:Int) (v1:Int):Option ((Int×Int) ⊕ ((Int) ⊕ ((Int)))):=cnd (ilt v0 p0) (cnd (band (ile 0 v0) (ilt v0 (len p1))) (cnd (ax (ieq (aj p1 (itn v0)).epoch p2)) (some (Sum.inr (Sum.inl v0))) (some (Sum.inl (wr .i64 (au v0 1),v1)))) none) (some (Sum.inr (Sum.inr v1)))
def oQ:fE:=LSh.spec ⟨140,[(7,.int .i64),(0,.ro .frame)],[(1,.fn 92 [.mp 8 0])],[(8,[.int .i64,.int .i64,.int .i64,.int .i64,.int .i64,.ro .frame])],[(8,.int .i64),(4,.int .i64)],[],[]⟩ [⟨.ret,[(4,.int .i64)],[],[]⟩,⟨.exit 0,[(4,.int .i64)],[],[]⟩] (sP [(4,2),(8,11)]) (fun p v=>dI p.1 p.2.1 p.2.2.1 p.2.2.2.1 p.2.2.2.2.1 p.2.2.2.2.2.1 p.2.2.2.2.2.2.1 p.2.2.2.2.2.2.2 v.1 v.2)
def rX (x0:dZ):Option (Bool):=cnd (bor (bor (bor (bor (bor (ilt x0.epoch 1) (ilt 1000000 x0.epoch)) (ilt x0.next 1)) (ilt 1000000001 x0.next)) (ilt x0.sure 0)) (ile x0.next x0.sure)) (some false) (af (cnd (ax (bor (ilt 32 (len x0.wait)) (ax (ieq (len x0.wait) (wr .i64 (aB (wr .i64 (aB x0.next 1)) x0.sure)))))) (Kr x0.wait (wr .i64 (au x0.sure 1)) 1) (some false)) fun y0=>cnd (ax (bor (bor (ilt 32 (len x0.wait)) (ax (ieq (len x0.wait) (wr .i64 (aB (wr .i64 (aB x0.next 1)) x0.sure))))) (ax y0))) (af (bM (fun v=>dI (len x0.wait) x0.wait x0.epoch x0.next x0.sure x0.seg x0.count x0.wait v.1 v.2) LF (0,0)) fun y1=>jB y1 (fun y2=>cnd (bor (bor (bor (ilt 32 (len x0.wait)) (ax (ieq (len x0.wait) (wr .i64 (aB (wr .i64 (aB x0.next 1)) x0.sure))))) (ax y0)) (ile 0 y2)) (some false) (cnd (ieq x0.seg 0) (some (ieq x0.count 0)) (some (band (band (band (band (ile 1 x0.seg) (ile 1 x0.count)) (ile x0.count 8)) (ile x0.seg (wr .i64 (au x0.sure 1)))) (ieq (wr .i64 (au x0.seg x0.count)) (wr .i64 (au x0.sure 1))))))) fun y2=>cnd (bor (bor (bor (ilt 32 (len x0.wait)) (ax (ieq (len x0.wait) (wr .i64 (aB (wr .i64 (aB x0.next 1)) x0.sure))))) (ax y0)) false) (some false) (cnd (ieq x0.seg 0) (some (ieq x0.count 0)) (some (band (band (band (band (ile 1 x0.seg) (ile 1 x0.count)) (ile x0.count 8)) (ile x0.seg (wr .i64 (au x0.sure 1)))) (ieq (wr .i64 (au x0.seg x0.count)) (wr .i64 (au x0.sure 1))))))) (cnd (bor (bor (bor (ilt 32 (len x0.wait)) (ax (ieq (len x0.wait) (wr .i64 (aB (wr .i64 (aB x0.next 1)) x0.sure))))) (ax y0)) false) (some false) (cnd (ieq x0.seg 0) (some (ieq x0.count 0)) (some (band (band (band (band (ile 1 x0.seg) (ile 1 x0.count)) (ile x0.count 8)) (ile x0.seg (wr .i64 (au x0.sure 1)))) (ieq (wr .i64 (au x0.seg x0.count)) (wr .i64 (au x0.sure 1))))))))
def Bd:aI:=mkSpec [.val .wal] [.bool] true (fun x=>rX x)
theorem JF:dm PG 38 Bd:=okP [(93,O8)] [92,94,173] [(700977436288969113773,26,oQ)] ⟨acw,trivial⟩ (fun K=>⟨mg K fun p v=>by kernel_rfl,trivial⟩) fun x=>by kernel_rfl
def og (x0:gq):Option (jm):=some (jm.mk 6 x0.order 0 0 0 x0.qty x0.price 0 0 0 false x0.seq x0.what)
def yV:aI:=mkSpec [.val .note] [.val .recd] true (fun x=>og x)
theorem Ie:dm PG 29 yV:=okN [] [] trivial fun x=>by kernel_rfl
def kV (x0:kM):Option (Bool):=cnd (bor (bor (bor (bor (bor (ilt x0.order 1) (ilt 1000000000000 x0.order)) (ilt x0.account 0)) (ile 8 x0.account)) (ilt x0.symbol 0)) (ile 8 x0.symbol)) (some false) (cnd (bor (bor (band (ax (ieq x0.side 1)) (ax (ieq x0.side 2))) (ilt x0.lsn 0)) (ilt 1000000000 x0.lsn)) (some false) (cnd (ieq x0.kind 1) (some (band (band (ile 1 x0.qty) (ile 1 x0.price)) (ieq x0.version 0))) (cnd (ieq x0.kind 2) (some (band (band (ile 1 x0.qty) (ile 1 x0.price)) (ile 1 x0.version))) (cnd (ieq x0.kind 3) (some (band (band (ieq x0.qty 0) (ieq x0.price 0)) (ieq x0.version 0))) (some false)))))
def xW:aI:=mkSpec [.val .msg] [.bool] true (fun x=>kV x)
theorem Gz:dm PG 100 xW:=okN [] [] trivial fun x=>by kernel_rfl
def qg (p0:Int) (p1:(List kM)) (p2:Int) (v0:Int) (v1:Bool) (v2:Int):Option ((Int×Bool×Int) ⊕ ((Bool) ⊕ ((Bool)))):=cnd (ilt v0 p0) (cnd (band (ile 0 v0) (ilt v0 (len p1))) (af (kV (aj p1 (itn v0))) fun y0=>cnd (bor (bor (ax y0) (ile (aj p1 (itn v0)).lsn v2)) (ilt p2 (aj p1 (itn v0)).lsn)) (some (Sum.inr (Sum.inl false))) (some (Sum.inl (wr .i64 (au v0 1),v1,(aj p1 (itn v0)).lsn)))) none) (some (Sum.inr (Sum.inr v1)))
def PK:fE:=LSh.spec ⟨71,[(10,.int .i64),(9,.ro .msg),(2,.int .i64)],[],[],[(11,.int .i64),(6,.bool),(1,.int .i64)],[],[]⟩ [⟨.ret,[(6,.bool)],[],[]⟩,⟨.exit 0,[(6,.bool)],[],[]⟩] (sP [(1,1),(6,1),(8,1),(11,22)]) (fun p v=>qg p.1 p.2.1 p.2.2 v.1 v.2.1 v.2.2)
def wK (x0:(List kM)) (x1:Int) (x2:Int):Option (Bool):=af (bM (fun v=>qg (len x0) x0 x2 v.1 v.2.1 v.2.2) LF (0,false,x1)) fun y0=>jB y0 (fun y1=>some y1) fun y1=>some true
def GZ:aI:=mkSpec [.ro .msg,.int .i64,.int .i64] [.bool] true (fun x=>wK x.1 x.2.1 x.2.2)
theorem Vt:dm PG 41 GZ:=okP [(100,xW)] [] [(41,26,PK)] ⟨Gz,trivial⟩ (fun K=>⟨mg K fun p v=>by kernel_rfl,trivial⟩) fun x=>by kernel_rfl
def rU (p0:Int) (p1:(List gq)) (p2:Int) (v0:Int) (v1:Int) (v2:Bool):Option ((Int×Int×Bool) ⊕ ((Bool) ⊕ ((Bool)))):=cnd (ilt v0 p0) (cnd (band (ile 0 v0) (ilt v0 (len p1))) (cnd (bor (ile (aj p1 (itn v0)).seq v1) (ilt (wr .i64 (au p2 8)) (aj p1 (itn v0)).seq)) (some (Sum.inr (Sum.inl false))) (some (Sum.inl (wr .i64 (au v0 1),(aj p1 (itn v0)).seq,v2)))) none) (some (Sum.inr (Sum.inr v2)))
def QI:fE:=LSh.spec ⟨86,[(23,.int .i64),(22,.ro .note),(1,.int .i64)],[],[],[(24,.int .i64),(5,.int .i64),(4,.bool)],[],[]⟩ [⟨.ret,[(4,.bool)],[],[]⟩,⟨.exit 0,[(4,.bool)],[],[]⟩] (sP [(4,2),(7,1),(24,18)]) (fun p v=>rU p.1 p.2.1 p.2.2 v.1 v.2.1 v.2.2)
def xI (x0:mY) (x1:Int):Option (Bool):=cnd (bor (bor (ilt x1 1) (ilt 1000000001 x1)) (ilt 8 (len x0.held))) (some false) (af (bM (fun v=>rU (len x0.held) x0.held x1 v.1 v.2.1 v.2.2) LF (0,x1,false)) fun y0=>jB y0 (fun y1=>some y1) fun y1=>some true)
def DY:aI:=mkSpec [.val .feed,.int .i64] [.bool] true (fun x=>xI x.1 x.2)
theorem O4:dm PG 42 DY:=okP [] [] [(42,122,QI)] trivial (fun K=>⟨mg K fun p v=>by kernel_rfl,trivial⟩) fun x=>by kernel_rfl
def iO (x0:Int) (x1:Int):Option (List UInt8):=abv x0 x1
def sQ:aI:=mkSpec [.int .i64,.int .i64] [.str] true (fun x=>iO x.1 x.2)
def Lc:Go.Shelf.Ren:=⟨fun | 173=>223 | 246=>286 | 283=>314 | 284=>315 | 285=>316 | 286=>317 | 129=>334 | 317=>333 | 318=>335 | 319=>336 | 320=>337 | 337=>347 | 338=>348 | n=>n,fun | 2=>2 | 3=>3 | 9=>9 | 4=>4 | 171=>376 | 0=>0 | 53=>331 | 37=>132 | 5=>5 | 173=>379 | 212=>398 | 51=>270 | 20=>20 | 213=>399 | 46=>300 | 232=>415 | 233=>416 | n=>n,fun | 17=>1 | 18=>4 | 19=>5 | n=>n⟩
theorem zX:Go.Proofs.LaysM.n173 PG Lc where
 mixed:=by kernel_rfl
 f129:=by kernel_rfl
 f173:=by kernel_rfl
 f246:=by kernel_rfl
 f283:=by kernel_rfl
 f284:=by kernel_rfl
 f285:=by kernel_rfl
 f286:=by kernel_rfl
 f317:=by kernel_rfl
 f318:=by kernel_rfl
 f319:=by kernel_rfl
 f320:=by kernel_rfl
 f337:=by kernel_rfl
 f338:=by kernel_rfl
 t0:=by kernel_rfl
 a0:=fun w=>by kernel_rfl
 z0:=fun w=>by kernel_rfl
 v0:=fun w=>by kernel_rfl
 t2:=by kernel_rfl
 a2:=fun w=>by kernel_rfl
 z2:=fun w=>by kernel_rfl
 v2:=fun w=>by kernel_rfl
 t3:=by kernel_rfl
 a3:=fun w=>by kernel_rfl
 z3:=fun w=>by kernel_rfl
 v3:=fun w=>by kernel_rfl
 t4:=by kernel_rfl
 a4:=fun w=>by kernel_rfl
 z4:=fun w=>by kernel_rfl
 v4:=fun w=>by kernel_rfl
 t5:=by kernel_rfl
 a5:=fun w=>by kernel_rfl
 z5:=fun w=>by kernel_rfl
 v5:=fun w=>by kernel_rfl
 t9:=by kernel_rfl
 a9:=fun w=>by kernel_rfl
 z9:=fun w=>by kernel_rfl
 v9:=fun w=>by kernel_rfl
 t20:=by kernel_rfl
 a20:=fun w=>by kernel_rfl
 z20:=fun w=>by kernel_rfl
 v20:=fun w=>by kernel_rfl
 t37:=by kernel_rfl
 a37:=fun w=>by kernel_rfl
 z37:=fun w=>by kernel_rfl
 v37:=fun w=>by kernel_rfl
 t46:=by kernel_rfl
 a46:=fun w=>by kernel_rfl
 z46:=fun w=>by kernel_rfl
 v46:=fun w=>by kernel_rfl
 t51:=by kernel_rfl
 a51:=fun w=>by kernel_rfl
 z51:=fun w=>by kernel_rfl
 v51:=fun w=>by kernel_rfl
 t53:=by kernel_rfl
 a53:=fun w=>by kernel_rfl
 z53:=fun w=>by kernel_rfl
 v53:=fun w=>by kernel_rfl
 t171:=by kernel_rfl
 a171:=fun w=>by kernel_rfl
 z171:=fun w=>by kernel_rfl
 v171:=fun w=>by kernel_rfl
 t173:=by kernel_rfl
 a173:=fun w=>by kernel_rfl
 z173:=fun w=>by kernel_rfl
 v173:=fun w=>by kernel_rfl
 t212:=by kernel_rfl
 a212:=fun w=>by kernel_rfl
 z212:=fun w=>by kernel_rfl
 v212:=fun w=>by kernel_rfl
 t213:=by kernel_rfl
 a213:=fun w=>by kernel_rfl
 z213:=fun w=>by kernel_rfl
 t232:=by kernel_rfl
 a232:=fun w=>by kernel_rfl
 z232:=fun w=>by kernel_rfl
 v232:=fun w=>by kernel_rfl
 t233:=by kernel_rfl
 a233:=fun w=>by kernel_rfl
 z233:=fun w=>by kernel_rfl
 v233:=fun w=>by kernel_rfl
 g17:=by kernel_rfl
 g18:=by kernel_rfl
 g19:=by kernel_rfl
 i0:=by kernel_rfl
 i2:=by kernel_rfl
 i3:=by kernel_rfl
 i4:=by kernel_rfl
 i5:=by kernel_rfl
 i9:=by kernel_rfl
 i20:=by kernel_rfl
 i37:=by kernel_rfl
 i46:=by kernel_rfl
 i51:=by kernel_rfl
 i53:=by kernel_rfl
 i171:=by kernel_rfl
 i173:=by kernel_rfl
 i212:=by kernel_rfl
 i232:=by kernel_rfl
 i233:=by kernel_rfl
 m17:=by kernel_rfl
 m18:=by kernel_rfl
 m19:=by kernel_rfl
theorem Dq:dm PG 223 sQ:=ahr Cj zX (by kernel_rfl) (g:=1) (by kernel_rfl) (by simp [glL]) fun x y h=>h
def jV (x0:(List UInt8)) (x1:Int):Option (List UInt8):=aa3 x0 x1
def xU:aI:=mkSpec [.str,.int .i64] [.str] true (fun x=>jV x.1 x.2)
def ES:Go.Shelf.Ren:=⟨fun | 105=>224 | 212=>242 | 99=>287 | 165=>288 | 166=>289 | 170=>290 | 169=>291 | 263=>296 | 264=>297 | 206=>318 | 240=>319 | 241=>320 | 276=>338 | 277=>339 | n=>n,fun | 9=>9 | 3=>3 | 4=>4 | 20=>20 | 0=>0 | 46=>300 | 109=>301 | 5=>5 | 72=>350 | 76=>352 | 51=>270 | 146=>358 | 53=>331 | 148=>360 | 70=>348 | 37=>132 | 75=>291 | 127=>381 | 164=>402 | 71=>349 | 74=>290 | 80=>355 | n=>n,fun | n=>n⟩
theorem Dx:Go.Proofs.Lays.n105 PG ES where
 mixed:=by kernel_rfl
 f99:=by kernel_rfl
 f105:=by kernel_rfl
 f165:=by kernel_rfl
 f166:=by kernel_rfl
 f169:=by kernel_rfl
 f170:=by kernel_rfl
 f206:=by kernel_rfl
 f212:=by kernel_rfl
 f240:=by kernel_rfl
 f241:=by kernel_rfl
 f263:=by kernel_rfl
 f264:=by kernel_rfl
 f276:=by kernel_rfl
 f277:=by kernel_rfl
 t0:=by kernel_rfl
 a0:=fun w=>by kernel_rfl
 z0:=fun w=>by kernel_rfl
 v0:=fun w=>by kernel_rfl
 t3:=by kernel_rfl
 a3:=fun w=>by kernel_rfl
 z3:=fun w=>by kernel_rfl
 v3:=fun w=>by kernel_rfl
 t4:=by kernel_rfl
 a4:=fun w=>by kernel_rfl
 z4:=fun w=>by kernel_rfl
 v4:=fun w=>by kernel_rfl
 t5:=by kernel_rfl
 a5:=fun w=>by kernel_rfl
 z5:=fun w=>by kernel_rfl
 v5:=fun w=>by kernel_rfl
 t9:=by kernel_rfl
 a9:=fun w=>by kernel_rfl
 z9:=fun w=>by kernel_rfl
 v9:=fun w=>by kernel_rfl
 t20:=by kernel_rfl
 a20:=fun w=>by kernel_rfl
 z20:=fun w=>by kernel_rfl
 v20:=fun w=>by kernel_rfl
 t37:=by kernel_rfl
 a37:=fun w=>by kernel_rfl
 z37:=fun w=>by kernel_rfl
 v37:=fun w=>by kernel_rfl
 t46:=by kernel_rfl
 a46:=fun w=>by kernel_rfl
 z46:=fun w=>by kernel_rfl
 v46:=fun w=>by kernel_rfl
 t51:=by kernel_rfl
 a51:=fun w=>by kernel_rfl
 z51:=fun w=>by kernel_rfl
 v51:=fun w=>by kernel_rfl
 t53:=by kernel_rfl
 a53:=fun w=>by kernel_rfl
 z53:=fun w=>by kernel_rfl
 v53:=fun w=>by kernel_rfl
 t70:=by kernel_rfl
 a70:=fun w=>by kernel_rfl
 z70:=fun w=>by kernel_rfl
 v70:=fun w=>by kernel_rfl
 t72:=by kernel_rfl
 a72:=fun w=>by kernel_rfl
 z72:=fun w=>by kernel_rfl
 v72:=fun w=>by kernel_rfl
 t75:=by kernel_rfl
 a75:=fun w=>by kernel_rfl
 z75:=fun w=>by kernel_rfl
 v75:=fun w=>by kernel_rfl
 t76:=by kernel_rfl
 a76:=fun w=>by kernel_rfl
 z76:=fun w=>by kernel_rfl
 v76:=fun w=>by kernel_rfl
 t109:=by kernel_rfl
 a109:=fun w=>by kernel_rfl
 z109:=fun w=>by kernel_rfl
 v109:=fun w=>by kernel_rfl
 t127:=by kernel_rfl
 a127:=fun w=>by kernel_rfl
 z127:=fun w=>by kernel_rfl
 v127:=fun w=>by kernel_rfl
 t146:=by kernel_rfl
 a146:=fun w=>by kernel_rfl
 z146:=fun w=>by kernel_rfl
 v146:=fun w=>by kernel_rfl
 t148:=by kernel_rfl
 a148:=fun w=>by kernel_rfl
 z148:=fun w=>by kernel_rfl
 v148:=fun w=>by kernel_rfl
 t164:=by kernel_rfl
 a164:=fun w=>by kernel_rfl
 z164:=fun w=>by kernel_rfl
 v164:=fun w=>by kernel_rfl
theorem zV:Go.Proofs.Builder.Extra PG ES where
 sizeBuilder:=by kernel_rfl
 liesBuilder:=by kernel_rfl
 t5:=by kernel_rfl
 a5:=fun w=>by kernel_rfl
 z5:=fun w=>by kernel_rfl
 v5:=fun w=>by kernel_rfl
 infoByte:=by kernel_rfl
 cellsByte:=by kernel_rfl
 sizeByte:=by kernel_rfl
 neB5:=by decide
theorem G9:dm PG 224 xU:=agt Cj Dx zV (by kernel_rfl) fun x y h=>h
def iQ (x0:Int):Option ((List UInt8)):=cnd (bor (ilt x0 1) (ilt 1000000000 x0)) (some []) (af (iO x0 10) fun y0=>af (jV [(UInt8.ofNat 48)] (wr .i64 (aB 10 (len y0)))) fun y1=>cnd (ile (au 4 (len y1)) 68719476736) (cnd (ile (au (len (dB [(UInt8.ofNat 108),(UInt8.ofNat 111),(UInt8.ofNat 103),(UInt8.ofNat 46)] y1)) (len y0)) 68719476736) (some (dB (dB [(UInt8.ofNat 108),(UInt8.ofNat 111),(UInt8.ofNat 103),(UInt8.ofNat 46)] y1) y0)) none) none)
def Il:aI:=mkSpec [.int .i64] [.str] true (fun x=>iQ x)
theorem LG:dm PG 151 Il:=okN [(223,sQ),(224,xU)] [] ⟨Dq,G9,trivial⟩ fun x=>by kernel_rfl
def Ez (x0:(List UInt8)):Option (Int):=some (jE [108,111,103,46] x0)
def D6:aI:=mkSpec [.str] [.int .i64] true (fun x=>Ez x)
def QJ:Go.Shelf.Ren:=⟨fun | 103=>231 | 210=>292 | 206=>318 | n=>n,fun | 9=>9 | 4=>4 | 24=>288 | 3=>3 | n=>n,fun | n=>n⟩
theorem Qw:Go.Proofs.Lays.n103 PG QJ where
 mixed:=by kernel_rfl
 f103:=by kernel_rfl
 f206:=by kernel_rfl
 f210:=by kernel_rfl
 t3:=by kernel_rfl
 a3:=fun w=>by kernel_rfl
 z3:=fun w=>by kernel_rfl
 v3:=fun w=>by kernel_rfl
 t4:=by kernel_rfl
 a4:=fun w=>by kernel_rfl
 z4:=fun w=>by kernel_rfl
 v4:=fun w=>by kernel_rfl
 t9:=by kernel_rfl
 a9:=fun w=>by kernel_rfl
 z9:=fun w=>by kernel_rfl
 v9:=fun w=>by kernel_rfl
 t24:=by kernel_rfl
 a24:=fun w=>by kernel_rfl
 z24:=fun w=>by kernel_rfl
 v24:=fun w=>by kernel_rfl
theorem TQ (s:ByteArray) (pos:Nat) (h:pos<s.size):1<=(Utf8.decode s pos).2:=by
 by_cases ha:(s[pos]'h).toNat<128
 ·rw[decode_ascii s pos h ha]
  exact Nat.le_refl _
 ·exact(decode_high s pos h (by omega)).2
theorem Vx (w:World) (s:ByteArray) (pos:Nat):Go.RowKit.Below w.heap.size w (w.iter s pos):=
 ⟨rfl,rfl,rfl,by show _<=(w.heap.push _).size;rw[Array.size_push];omega,fun k hk=>by show(w.heap.push _)[k]? =_;rw[Array.getElem?_push,if_neg (by omega)]⟩
theorem Ti (n:Int):inI (Go.RowKit.wrap64 n):=by unfold inI Go.RowKit.wrap64;omega
theorem Rj {B B':Nat} {a b:World} (h:Go.RowKit.Below B a b) (hB:B'<=B):Go.RowKit.Below B' a b:=⟨h.os,h.tape,h.output,h.size,fun k hk=>h.block k (Nat.lt_of_lt_of_le hk hB)⟩
def Ce (l:List UInt8):Prop:=l.length=10/\∀c∈l,QW c
theorem XR (n c:Nat) (h:n<10000000000) (h1:48<=c) (h2:c<=57):Go.RowKit.wrap64 (Go.RowKit.wrap64 ((n:Int)*10)+Go.RowKit.wrap64 (Go.RowKit.wrap32 ((c:Int) - 48)))=((n*10+(c - 48):Nat):Int):=by
 have e1:Go.RowKit.wrap32 ((c:Int) - 48)=(c:Int) - 48:=by unfold Go.RowKit.wrap32;omega
 have e2:Go.RowKit.wrap64 ((n:Int)*10)=(n:Int)*10:=by unfold Go.RowKit.wrap64;omega
 have e3:Go.RowKit.wrap64 ((c:Int) - 48)=(c:Int) - 48:=by unfold Go.RowKit.wrap64;omega
 have e4:Go.RowKit.wrap64 ((n:Int)*10+((c:Int) - 48))=(n:Int)*10+((c:Int) - 48):=by unfold Go.RowKit.wrap64;omega
 rw[e1,e2,e3,e4];omega
theorem Uo {l:List UInt8} {pos:Nat} (ht:Ce l) (h:pos<=10):qB (l.take pos)<10000000000:=by
 have hb2:=J9 (l.take pos).length (l.take pos) rfl (fun c hc=>ht.2 c (List.mem_of_mem_take hc))
 have hb3:(10:Nat)^(l.take pos).length<=10^10:=Nat.pow_le_pow_right (by decide) (by rw[List.length_take];omega)
 have hbig:(10:Nat)^10=10000000000:=by decide
 omega
theorem VD (l:List UInt8) (pos:Nat) (h:pos<(⟨l.toArray⟩:ByteArray).size) (h2:pos<l.length):(⟨l.toArray⟩:ByteArray)[pos]'h=l[pos]'h2:=by
 show l.toArray[pos]'(by rw[List.size_toArray];exact h2)=_
 rw[List.getElem_toArray]
theorem TJ {l:List UInt8} {r:ByteArray} {pos:Nat} {acc:Int} (hr:(⟨l.toArray⟩:ByteArray)=r) (hsz:r.size=l.length) (ht:Ce l) (hp:pos<r.size) (hv:pos<=10/\acc=((qB (l.take pos):Nat):Int)):
 pos+(Utf8.decode r pos).2<=10/\Go.RowKit.wrap64 (Go.RowKit.wrap64 (acc*10)+Go.RowKit.wrap64 (Go.RowKit.wrap32 (((Utf8.decode r pos).1:Int) - 48)))=((qB (l.take (pos+(Utf8.decode r pos).2)):Nat):Int):=by
 obtain⟨h10,rfl⟩:=hv
 have hp10:pos<10:=by rw[hsz,ht.1]at hp;exact hp
 have hpl:pos<l.length:=by rw[ht.1];exact hp10
 have hb:r[pos]'hp=l[pos]'hpl:=by subst hr;exact VD l pos hp hpl
 have hd:=tY.1 (ht.2 _ (List.getElem_mem hpl))
 have hdec:=decode_ascii r pos hp (by rw[hb];omega)
 rw[hb]at hdec
 have d1:(Utf8.decode r pos).1=(l[pos]'hpl).toNat:=by rw[hdec]
 have d2:(Utf8.decode r pos).2=1:=by rw[hdec]
 rw[d1,d2]
 refine⟨hp10,?_⟩
 rw[List.take_succ_eq_append_getElem hpl,LY]
 exact XR _ _ (Uo ht h10) hd.1 hd.2
theorem Pq (s r:ByteArray) (w:World)
 (h1:Calls PG 231 #[.string s,.string ⟨#[108,111,103,46]⟩] w fun e w'=>e= .returned (.tuple #[.string r,.bool false])/\w'=w):
 Calls PG 172 #[.string s] w fun e w'=>e= .returned (.int .i64 0)/\Go.RowKit.Below w.heap.size w w':=by
 go_enter Go.Proofs.Tryz.func172,Go.Proofs.Tryz.ntmps172
 go_wp2_with (go_at_call 231;refine h1.mono ?_;rintro e W1 ⟨rfl,rfl⟩)
 all_goals (go_ret;exact⟨rfl,Go.RowKit.Below.refl _ _⟩)
set_option maxHeartbeats 1000000 in
set_option maxRecDepth 1000000 in
theorem VE (s:ByteArray) (l:List UInt8) (nm:Int->List UInt8) (w:World)
 (h1:Calls PG 231 #[.string s,.string ⟨#[108,111,103,46]⟩] w fun e w'=>e= .returned (.tuple #[.string ⟨l.toArray⟩,.bool true])/\w'=w)
 (h3:∀v,inI v->∀w1,Go.RowKit.Below w.heap.size w w1->Calls PG 151 #[.int .i64 v] w1 fun e w'=>e= .returned (.string ⟨(nm v).toArray⟩)/\Go.RowKit.Below w1.heap.size w1 w'):
 Calls PG 172 #[.string s] w fun e w'=>(∃v,inI v/\(Ce l->v=((qB l:Nat):Int))/\e= .returned (.int .i64 (if nm v=s.toList then v else 0)))/\Go.RowKit.Below w.heap.size w w':=by
 generalize hr:(⟨l.toArray⟩:ByteArray)=r at h1
 have hsz:r.size=l.length:=by rw[<-hr];show l.toArray.size=_;rw[List.size_toArray]
 go_enter Go.Proofs.Tryz.func172,Go.Proofs.Tryz.ntmps172
 go_wp2_with (go_at_call 231;refine h1.mono ?_;rintro e W1 ⟨rfl,rfl⟩)
 go_loopw [5] (fun n w'=>∃(pos:Nat) (acc:Int),w'=W1.iter r pos/\n= .int .i64 acc/\inI acc/\(Ce l->pos<=10/\acc=((qB (l.take pos):Nat):Int))) (fun _ w'=>r.size - w'.iterPos W1.heap.size)
 case atStart=>exact⟨0,0,rfl,rfl,by unfold inI;omega,fun _=>⟨by omega,rfl⟩⟩
 case round=>
  obtain⟨pos,acc,rfl,rfl,hacc,hv⟩:=hrel
  by_cases hp:pos<r.size
  ·have hnx:∀ty,(Instr.next (.pointer (some ⟨W1.heap.size,0,none⟩)) true ty).run PG (W1.iter r pos)=_:=fun ty=>run_next_any W1 r pos ty hp
   go_wp2
   have hwd:=TQ r pos hp
   go_roundw
   case rel=>
    refine⟨pos+(Utf8.decode r pos).2,_,rfl,rfl,?_,?_⟩
    ·exact Ti _
    ·intro ht
     exact TJ hr hsz ht hp (hv ht)
   case measure=>
    simp
    omega
  ·have hnx:∀ty,(Instr.next (.pointer (some ⟨W1.heap.size,0,none⟩)) true ty).run PG (W1.iter r pos)=_:=fun ty=>run_next_end W1 r pos ty hp
   have hbl:Go.RowKit.Below W1.heap.size W1 (W1.iter r pos):=Vx W1 r pos
   go_wp2_with (go_at_call 151;refine(h3 acc hacc _ hbl).mono ?_;rintro e W3 ⟨rfl,hb3⟩)
   all_goals go_ret
   all_goals refine⟨⟨acc,hacc,fun ht=> ?_,?_⟩,hbl.trans (Rj hb3 hbl.size)⟩
   all_goals first
    |(have h10:=(hv ht).1
      have hp:¬pos<10:=by rw[hsz,ht.1]at hp;exact hp
      have:=(hv ht).2
      rw[show pos=10 by omega,List.take_of_length_le (by rw[ht.1];exact Nat.le_refl _)]at this
      exact this)
    |skip
   ·rename_i hne
    have hne:nm acc≠s.toList:=by intro e;rw[e]at hne;simp at hne
    rw[if_neg hne];rfl
   ·rename_i heq
    have heq:nm acc=s.toList:=by simpa using heq
    rw[if_pos heq];rfl
theorem ach (v:Int) (hv:inI v):iQ v=some (nR [108,111,103,46] v):=by
 unfold inI at hv
 unfold iQ nR iO jV
 by_cases h:v<1\/1000000000<v
 ·rw[if_pos h,show bor (ilt v 1) (ilt 1000000000 v)=true by rw[RV,AO,AO];exact h];rfl
 ·have e1:bor (ilt v 1) (ilt 1000000000 v)=false:=by
   rw[Bool.eq_false_iff];intro g;rw[RV,AO,AO]at g;exact h g
  have hl:(fmt10 v).length<=10:=by
   unfold fmt10;rw[if_neg (by omega)]
   exact EW 20 _ 10 (by have:(10:Nat)^10=10000000000:=by decide
                        omega) (by decide)
  have e2:wr .i64 (aB 10 (len (fmt10 v)))=((10 - (fmt10 v).length:Nat):Int):=by
   unfold aB len wr IntKind.wrap
   simp [IntKind.bits,IntKind.signed]
   omega
  have e3:abv v 10=some (fmt10 v):=by
   unfold abv
   rw[show band (ieq 10 10) (band (ile (-9223372036854775808) v) (ile v 9223372036854775807))=true by rw[l7,l7,ji,ji];exact⟨rfl,hv⟩];rfl
  have e4:aa3 [UInt8.ofNat 48] ((10 - (fmt10 v).length:Nat):Int)=some (List.replicate (10 - (fmt10 v).length) 48):=by
   unfold aa3
   rw[show band (ile 0 ((10 - (fmt10 v).length:Nat):Int)) (band (ile ((10 - (fmt10 v).length:Nat):Int) 9223372036854775807) (ile (gu (len [UInt8.ofNat 48]) ((10 - (fmt10 v).length:Nat):Int)) 140737488355328))=true by
    rw[l7,l7,ji,ji,ji];simp only[gu,len,List.length_singleton];omega]
   simp only[cnd,itn,Int.toNat_natCast]
   rw[show UInt8.ofNat 48=48 from rfl,Mc]
  rw[if_neg h,e1,e3]
  simp only[cnd,af,Option.bind_some,e2,e4]
  rw[show ile (au 4 (len (List.replicate (10 - (fmt10 v).length) (48:UInt8)))) 68719476736=true by rw[ji];simp only[au,len,List.length_replicate];omega]
  simp only
  rw[show ile (au (len (dB [UInt8.ofNat 108,UInt8.ofNat 111,UInt8.ofNat 103,UInt8.ofNat 46] (List.replicate (10 - (fmt10 v).length) (48:UInt8)))) (len (fmt10 v))) 68719476736=true by rw[ji];simp only[au,len,dB,List.length_append,List.length_replicate,List.length_cons,List.length_nil];omega]
  rfl
theorem adD (pre s:List UInt8) (hp:s.take pre.length=pre) (hpre:pre≠[]) (v:Int) (hv:Ce (s.drop pre.length)->v=((qB (s.drop pre.length):Nat):Int)):
 (if nR pre v=s then v else 0)=jE pre s:=by
 have hs:s=pre++s.drop pre.length:=by
  conv=>lhs;rw[<-List.take_append_drop pre.length s,hp]
 have hsne:s≠[]:=fun e=>by rw[e]at hp;simp at hp;exact hpre hp
 have key:nR pre v=s->Ce (s.drop pre.length)/\1<=v/\v<=1000000000:=fun hn=>by
  have hr:¬(v<1\/1000000000<v):=fun g=>by unfold nR at hn;rw[if_pos g]at hn;exact hsne hn.symm
  have hd:s.drop pre.length=List.replicate (10 - (fmt10 v).length) 48++fmt10 v:=by
   unfold nR at hn;rw[if_neg hr,List.append_assoc]at hn
   rw[<-hn,List.drop_left]
  have hl:(fmt10 v).length<=10:=by
   unfold fmt10;rw[if_neg (by omega)]
   exact EW 20 _ 10 (by have:(10:Nat)^10=10000000000:=by decide
                        omega) (by decide)
  refine⟨⟨by rw[hd,List.length_append,List.length_replicate];omega,fun c hc=> ?_⟩,by omega,by omega⟩
  rw[hd]at hc
  exact acT v hr c hc
 by_cases hc:s.take pre.length=pre/\(s.drop pre.length).length=10/\(∀c∈s.drop pre.length,48<=c/\c<=57)/\qB (s.drop pre.length)<=1000000000
 ·have e:jE pre s=((qB (s.drop pre.length):Nat):Int):=if_pos hc
  have hvd:=hv ⟨hc.2.1,hc.2.2.1⟩
  rw[e]
  by_cases h0:qB (s.drop pre.length)=0
  ·rw[h0]at hvd ⊢
   rw[if_neg (fun g=>by have:=(key g).2.1;rw[hvd]at this;revert this;decide)];rfl
  ·have hn:nR pre v=s:=by
    rw[hvd]
    unfold nR
    rw[if_neg (by omega)]
    have hf:fmt10 ((qB (s.drop pre.length):Nat):Int)=Fv 20 (qB (s.drop pre.length)):=by
     unfold fmt10;rw[if_neg (by omega)];rfl
    rw[hf,List.append_assoc,abn hc.2.1 hc.2.2.1 (J9 10 _ hc.2.1 hc.2.2.1)];exact hs.symm
   rw[if_pos hn,hvd]
 ·have e:jE pre s=0:=if_neg hc
  rw[e]
  by_cases hn:nR pre v=s
  ·exfalso
   obtain⟨k1,k2,k3⟩:=key hn
   have:=hv k1
   exact hc ⟨hp,k1.1,k1.2,by omega⟩
  ·rw[if_neg hn]
theorem O1:dm PG 172 D6:=by
 refine X8 (xs:=[.str]) (rs:=[.int .i64]) rfl rfl (X6 Cj (by kernel_rfl)) fun(x:List UInt8) (y:Int) w hrun hg=> ?_
 have hy:y=jE [108,111,103,46] x:=(Option.some.inj hrun).symm
 subst hy
 show Calls PG 172 #[.string ⟨x.toArray⟩] w fun e w'=>e= .returned (.int .i64 (jE [108,111,103,46] x))/\Go.RowKit.Below w.heap.size w w'
 have hcut:=Go.Proofs.Any.strings_CutPrefix Qw ⟨x.toArray⟩ ⟨#[108,111,103,46]⟩ w
 change Calls PG 231 #[.string ⟨x.toArray⟩,.string ⟨#[108,111,103,46]⟩] w (fun e w'=>e= .returned (.tuple #[.string ⟨(Go.Lib.trimPrefix x [108,111,103,46]).toArray⟩,.bool (Go.Lib.hasPrefix x [108,111,103,46])])/\w'=w)at hcut
 cases hpf:Go.Lib.hasPrefix x [108,111,103,46]with
 |false=>
  rw[hpf]at hcut
  have hz:jE [108,111,103,46] x=0:=if_neg fun g=>by
   have:Go.Lib.hasPrefix x [108,111,103,46]=true:=by
    unfold Go.Lib.hasPrefix
    rw[List.isPrefixOf_iff_prefix]
    exact⟨x.drop 4,by conv=>rhs;rw[<-List.take_append_drop 4 x,show x.take 4=_ from g.1]⟩
   rw[hpf]at this;cases this
  rw[hz]
  exact Pq _ _ w hcut
 |true=>
  rw[hpf]at hcut
  have htk:x.take 4=[108,111,103,46]:=by
   unfold Go.Lib.hasPrefix at hpf
   rw[List.isPrefixOf_iff_prefix]at hpf
   obtain⟨r,rfl⟩:=hpf
   rfl
  rw[show Go.Lib.trimPrefix x [108,111,103,46]=x.drop 4 by unfold Go.Lib.trimPrefix;rw[if_pos hpf];rfl]at hcut
  have h3:∀v,inI v->∀w1,Go.RowKit.Below w.heap.size w w1->Calls PG 151 #[.int .i64 v] w1 fun e w'=>e= .returned (.string ⟨(nR [108,111,103,46] v).toArray⟩)/\Go.RowKit.Below w1.heap.size w1 w':=fun v hv w1 hb=>
   dm.calls (xs:=[.int .i64]) (r:= .str) Cj (by kernel_rfl) LG rfl rfl v (nR [108,111,103,46] v) (ach v hv) w1 (hg.mono (fun b h=>Nat.lt_of_lt_of_le h hb.size) (fun b h=>hb.block b h))
  refine(VE ⟨x.toArray⟩ (x.drop 4) (nR [108,111,103,46]) w hcut h3).mono fun e w' ⟨⟨v,h1,h2,he⟩,hb⟩=>⟨?_,hb⟩
  rw[ByteArray.toList_eq]at he
  rw[he,<-adD [108,111,103,46] x htk (by simp) v h2]
def wL (p0:Int) (p1:(List aA)) (p2:dZ) (v0:Int) (v1:Bool) (v2:Bool):Option ((Int×Bool×Bool) ⊕ ((Bool) ⊕ ((Bool×Bool)))):=cnd (ilt v0 p0) (cnd (band (ile 0 v0) (ilt v0 (len p1))) (af (Ez (aj p1 (itn v0)).name) fun y0=>cnd (band (ilt 0 y0) (ieq y0 p2.seg)) (some (Sum.inl (wr .i64 (au v0 1),ieq (len (aj p1 (itn v0)).data) (wr .i64 (gu p2.count 72)),v2))) (cnd (ilt p2.sure y0) (some (Sum.inr (Sum.inl false))) (some (Sum.inl (wr .i64 (au v0 1),v1,v2))))) none) (some (Sum.inr (Sum.inr (v1,v2))))
def Vs:fE:=LSh.spec ⟨85,[(22,.int .i64),(21,.ro .file)],[(2,.mp 16 0)],[(16,[.val .wal])],[(23,.int .i64),(5,.bool),(4,.bool)],[],[]⟩ [⟨.ret,[(4,.bool)],[],[]⟩,⟨.exit 0,[(5,.bool),(4,.bool)],[],[]⟩] (sP [(4,2),(7,2),(23,29)]) (fun p v=>wL p.1 p.2.1 p.2.2 v.1 v.2.1 v.2.2)
def zl (x0:dZ) (x1:ah):Option (Bool):=af (rX x0) fun y0=>af (cnd (ax (ax y0)) (mJ x1) (some false)) fun y1=>cnd (bor (ax y0) (ax y1)) (some false) (af (bM (fun v=>wL (len x1.files) x1.files x0 v.1 v.2.1 v.2.2) LF (0,ieq x0.seg 0,false)) fun y2=>jB y2 (fun y3=>some y3) fun y3=>some y3.1)
def Ht:aI:=mkSpec [.val .wal,.val .disk] [.bool] true (fun x=>zl x.1 x.2)
theorem Vh:dm PG 149 Ht:=okP [(38,Bd),(36,pW),(172,D6)] [] [(149,122,Vs)] ⟨JF,yH,O1,trivial⟩ (fun K=>⟨mg K fun p v=>by kernel_rfl,trivial⟩) fun x=>by kernel_rfl
def oU (p0:Int) (p1:(List aA)) (v0:Int) (v1:(List Int)):Option ((Int×(List Int)) ⊕ (((List Int)))):=cnd (ilt v0 p0) (cnd (band (ile 0 v0) (ilt v0 (len p1))) (af (Ez (aj p1 (itn v0)).name) fun y0=>cnd (ilt 0 y0) (cnd (ile (len (dB v1 [y0])) 68719476736) (some (Sum.inl (wr .i64 (au v0 1),dB v1 [y0]))) none) (some (Sum.inl (wr .i64 (au v0 1),v1)))) none) (some (Sum.inr v1))
def Ot:fE:=LSh.spec ⟨75,[(12,.int .i64),(11,.ro .file)],[],[],[(13,.int .i64),(3,.buf .i64)],[],[]⟩ [⟨.exit 0,[(3,.buf .i64)],[],[]⟩] (sP [(3,1),(5,2),(13,14)]) (fun p v=>oU p.1 p.2 v.1 v.2)
def wO (x0:ah):Option ((List Int)):=af (mJ x0) fun y0=>cnd (ax y0) (some []) (af (bM (fun v=>oU (len x0.files) x0.files v.1 v.2) LF (0,[])) fun y1=>some y1)
def Gy:aI:=mkSpec [.val .disk] [.buf .i64] true (fun x=>wO x)
theorem VB:dm PG 86 Gy:=okP [(36,pW),(172,D6)] [] [(86,122,Ot)] ⟨yH,O1,trivial⟩ (fun K=>⟨mg K fun p v=>by kernel_rfl,trivial⟩) fun x=>by kernel_rfl
def dO (p0:Int) (p1:(List (List UInt8))) (v0:Int) (v1:Int):Option ((Int×Int) ⊕ ((Int) ⊕ ((Int)))):=cnd (ilt v0 p0) (cnd (band (ile 0 v0) (ilt v0 (len p1))) (af (AA (aj p1 (itn v0))) fun y0=>cnd (ax y0) (some (Sum.inr (Sum.inl v0))) (some (Sum.inl (wr .i64 (au v0 1),v1)))) none) (some (Sum.inr (Sum.inr v1)))
def pO:fE:=LSh.spec ⟨88,[(7,.int .i64),(0,.ro .str)],[(1,.fn 279 [])],[],[(8,.int .i64),(4,.int .i64)],[],[]⟩ [⟨.ret,[(4,.int .i64)],[],[]⟩,⟨.exit 0,[(4,.int .i64)],[],[]⟩] (sP [(4,2),(8,11)]) (fun p v=>dO p.1 p.2 v.1 v.2)
def jb (x0:ah) (x1:(List (List UInt8))):Option (Int):=af (mJ x0) fun y0=>cnd (ax y0) (some 1) (cnd x0.down (some 9) (af (bM (fun v=>dO (len x1) x1 v.1 v.2) LF (0,0)) fun y1=>jB y1 (fun y2=>cnd (ile 0 y2) (some 1) (some 0)) fun y2=>some 0))
def nP:aI:=mkSpec [.val .disk,.ro .str] [.int .i64] true (fun x=>jb x.1 x.2)
theorem uj:dm PG 216 nP:=okP [(36,pW),(90,Ed)] [278,311,279] [(3984496967405868761399,26,pO)] ⟨yH,OL,trivial⟩ (fun K=>⟨mg K fun p v=>by kernel_rfl,trivial⟩) fun x=>by kernel_rfl
def qw (x0:(List UInt8)) (x1:(List UInt8)):Option (Int):=some (aa8 x0 x1)
def DF:aI:=mkSpec [.str,.str] [.int .i64] true (fun x=>qw x.1 x.2)
def OG:Go.Shelf.Ren:=⟨fun | 106=>282 | 213=>312 | 265=>331 | n=>n,fun | 9=>9 | 3=>3 | n=>n,fun | n=>n⟩
theorem CQ:Go.Proofs.Lays.n106 PG OG where
 mixed:=by kernel_rfl
 f106:=by kernel_rfl
 f213:=by kernel_rfl
 f265:=by kernel_rfl
 t3:=by kernel_rfl
 a3:=fun w=>by kernel_rfl
 z3:=fun w=>by kernel_rfl
 v3:=fun w=>by kernel_rfl
 t9:=by kernel_rfl
 a9:=fun w=>by kernel_rfl
 z9:=fun w=>by kernel_rfl
 v9:=fun w=>by kernel_rfl
theorem Qz:dm PG 282 DF:=ag3 Cj CQ (by kernel_rfl) fun x y h=>(Option.some.inj h).symm
def fB (p0:(List aA)) (p1:(List UInt8)) (v0:Int) (v1:Int):Option ((Int×Int) ⊕ ((Int))):=cnd (ilt v1 v0) (cnd (band (ile 0 (wr .i64 (bP .u64 (wr .u64 (wr .i64 (au v1 v0))) 1))) (ilt (wr .i64 (bP .u64 (wr .u64 (wr .i64 (au v1 v0))) 1)) (len p0))) (af (qw (aj p0 (itn (wr .i64 (bP .u64 (wr .u64 (wr .i64 (au v1 v0))) 1)))).name p1) fun y0=>cnd (ilt y0 0) (some (Sum.inl (v0,wr .i64 (au (wr .i64 (bP .u64 (wr .u64 (wr .i64 (au v1 v0))) 1)) 1)))) (some (Sum.inl (wr .i64 (bP .u64 (wr .u64 (wr .i64 (au v1 v0))) 1),v1)))) none) (some (Sum.inr v1))
def o7:fE:=LSh.spec ⟨85,[(0,.ro .file),(1,.str)],[(2,.fn 281 [])],[],[(10,.int .i64),(9,.int .i64)],[],[]⟩ [⟨.exit 0,[(9,.int .i64)],[],[]⟩] (sP [(9,3),(15,20)]) (fun p v=>fB p.1 p.2 v.1 v.2)
def dP (x0:ah) (x1:(List UInt8)):Option (Int×Bool):=af (bM (fun v=>fB x0.files x1 v.1 v.2) LF (len x0.files,0)) fun y0=>cnd (bor (band (ile 0 y0) (ilt y0 (len x0.files))) (ax (ilt y0 (len x0.files)))) (cnd (ilt y0 (len x0.files)) (af (qw (aj x0.files (itn y0)).name x1) fun y1=>some (y0,band (ilt y0 (len x0.files)) (ieq y1 0))) (some (y0,bor (ilt y0 (len x0.files)) false))) none
def oZ:aI:=mkSpec [.val .disk,.str] [.int .i64,.bool] true (fun x=>dP x.1 x.2)
theorem xg:dm PG 217 oZ:=okP [(282,DF)] [280,281] [(932007956760,60,o7)] ⟨Qz,trivial⟩ (fun K=>⟨mg K fun p v=>by kernel_rfl,trivial⟩) fun x=>by kernel_rfl
def aK (x0:(List aA)):Option ((List aA)):=MG (len x0) fun y0=>cnd (beq y0 true) (some []) (cnd (ile (len x0) 68719476736) (some x0) none)
def iT:aI:=mkSpec [.ro .file] [.buf .file] false (fun x=>aK x)
theorem kG:dm PG 80 iT:=okN [] [] trivial fun x=>by kernel_rfl
def dR (x0:(List aA)) (x1:Int) (x2:Int):Option ((List aA)):=cnd (band (band (band (ile 0 x1) (ile x1 x2)) (ile x2 (len x0))) (band (ile x2 (len x0)) (ile (len x0) (len x0)))) (cnd (ieq x1 x2) (some x0) (cnd (band (ile 0 x1) (ile x1 (len x0))) (cnd (band (ile 0 x2) (ile x2 (len x0))) (cnd (ile (au (nti (itn x1)) (len (ay (aF x0 (itn x2)) (itn (aB (len x0) x2))))) (len x0)) (cnd (band (band (ile 0 (nti (nad (itn x1) (itn (len (ay (aF x0 (itn x2)) (itn (aB (len x0) x2)))))))) (ile (nti (nad (itn x1) (itn (len (ay (aF x0 (itn x2)) (itn (aB (len x0) x2))))))) (len x0))) (ile (len x0) (aB (len (eU x0 (itn x1) (ay (aF x0 (itn x2)) (itn (aB (len x0) x2))))) 0))) (some (ay (aF (eU (eU x0 (itn x1) (ay (aF x0 (itn x2)) (itn (aB (len x0) x2)))) (nad 0 (itn (nti (nad (itn x1) (itn (len (ay (aF x0 (itn x2)) (itn (aB (len x0) x2))))))))) (jY aA (itn (aB (len x0) (nti (nad (itn x1) (itn (len (ay (aF x0 (itn x2)) (itn (aB (len x0) x2))))))))))) 0) (nad (itn x1) (itn (len (ay (aF x0 (itn x2)) (itn (aB (len x0) x2)))))))) none) none) none) none)) none
def uI:aI:=mkSpec [.buf .file,.int .i64,.int .i64] [.ro .file] false (fun x=>dR x.1 x.2.1 x.2.2)
theorem Gl:dm PG 222 uI:=okN [] [] trivial fun x=>by kernel_rfl
def lC (x0:ah) (x1:(List UInt8)):Option (ah×Int):=af (jb x0 [x1]) fun y0=>cnd (ax (ieq y0 0)) (cnd (ax (ieq y0 0)) (some (x0,y0)) (cnd (ieq x0.fuse 0) (some (ah.mk x0.files x0.room x0.fuse true,9)) (cnd (ieq x0.fuse (-1)) (af (aK x0.files) fun y1=>af (dR y1 0 1) fun y2=>some (ah.mk y2 x0.room x0.fuse x0.down,0)) (af (aK x0.files) fun y3=>af (dR y3 0 1) fun y4=>some (ah.mk y4 x0.room (wr .i64 (aB x0.fuse 1)) x0.down,0))))) (af (dP x0 x1) fun y5=>cnd (ax y5.2) (some (x0,7)) (cnd (ieq x0.fuse 0) (some (ah.mk x0.files x0.room x0.fuse true,9)) (cnd (ieq x0.fuse (-1)) (af (aK x0.files) fun y6=>af (dR y6 y5.1 (wr .i64 (au y5.1 1))) fun y7=>some (ah.mk y7 x0.room x0.fuse x0.down,0)) (af (aK x0.files) fun y8=>af (dR y8 y5.1 (wr .i64 (au y5.1 1))) fun y9=>some (ah.mk y9 x0.room (wr .i64 (aB x0.fuse 1)) x0.down,0)))))
def BO:aI:=mkSpec [.val .disk,.str] [.val .disk,.int .i64] false (fun x=>lC x.1 x.2)
theorem MJ:dm PG 150 BO:=okN [(216,nP),(217,oZ),(80,iT),(222,uI)] [214,221] ⟨uj,xg,kG,Gl,trivial⟩ fun x=>by kernel_rfl
def o8 (p0:Int) (p1:Int) (p2:(List Int)) (p3:(List Int)) (p4:dZ) (v0:Int) (v1:Int) (v2:ah) (v3:ah):Option ((Int×Int×ah×ah) ⊕ ((Int×ah×ah) ⊕ ((Int×ah×ah)))):=cnd (ilt v0 p0) (cnd (band (ile 0 v0) (ilt v0 (len p2))) (cnd (ilt (wr .i64 (au v0 1)) (len p3)) (cnd (band (ile 0 (wr .i64 (au v0 1))) (ilt (wr .i64 (au v0 1)) (len p3))) (cnd (ieq (aj p2 (itn v0)) p4.seg) (some (Sum.inl (wr .i64 (au v0 1),v1,v2,v3))) (cnd (ilt p1 (wr .i64 (aB (aj p3 (itn (wr .i64 (au v0 1)))) 1))) (some (Sum.inr (Sum.inl (v1,v2,v3)))) (af (iQ (aj p2 (itn v0))) fun y0=>af (lC v3 y0) fun y1=>cnd (ax (ieq y1.2 0)) (some (Sum.inr (Sum.inr (y1.2,y1.1,y1.1)))) (some (Sum.inl (wr .i64 (au v0 1),v1,v2,y1.1)))))) none) (cnd (ieq (aj p2 (itn v0)) p4.seg) (some (Sum.inl (wr .i64 (au v0 1),v1,v2,v3))) (cnd (ilt p1 p4.sure) (some (Sum.inr (Sum.inl (v1,v2,v3)))) (af (iQ (aj p2 (itn v0))) fun y2=>af (lC v3 y2) fun y3=>cnd (ax (ieq y3.2 0)) (some (Sum.inr (Sum.inr (y3.2,y3.1,y3.1)))) (some (Sum.inl (wr .i64 (au v0 1),v1,v2,y3.1))))))) none) (some (Sum.inr (Sum.inl (v1,v2,v3))))
def Vy:fE:=LSh.spec ⟨81,[(22,.int .i64),(2,.int .i64),(21,.ro .i64),(8,.ro .i64)],[(6,.mp 40 0),(4,.mp 32 0),(3,.mp 24 0)],[(24,[.val .wal])],[(23,.int .i64),(7,.int .i64)],[(40,[.val .disk]),(32,[.val .disk])],[]⟩ [⟨.exit 0,[(7,.int .i64)],[(40,[.val .disk]),(32,[.val .disk])],[]⟩,⟨.ret,[(7,.int .i64)],[(40,[.val .disk]),(32,[.val .disk])],[]⟩] (sP [(7,1),(9,5),(23,38)]) (fun p v=>o8 p.1 p.2.1 p.2.2.1 p.2.2.2.1 p.2.2.2.2 v.1 v.2.1 v.2.2.1 v.2.2.2)
def zh (x0:dZ) (x1:ah) (x2:Int):Option (ah×Int):=af (zl x0 x1) fun y0=>cnd (ax y0) (some (x1,1)) (af (wO x1) fun y1=>af (bM (fun v=>o8 (len y1) x2 y1 y1 x0 v.1 v.2.1 v.2.2.1 v.2.2.2) LF (0,0,ah.mk [] 0 0 false,x1)) fun y2=>jB y2 (fun y3=>some (y3.2.2,0)) fun y3=>some (y3.2.1,y3.1))
def Hw:aI:=mkSpec [.val .wal,.val .disk,.int .i64] [.val .disk,.int .i64] false (fun x=>zh x.1 x.2.1 x.2.2)
theorem UQ:dm PG 75 Hw:=okP [(149,Ht),(86,Gy),(151,Il),(150,BO)] [] [(75,122,Vy)] ⟨Vh,VB,LG,MJ,trivial⟩ (fun K=>⟨mg K fun p v=>by kernel_rfl,trivial⟩) fun x=>by kernel_rfl
def oG (x0:dZ) (x1:ah):Option (Bool):=af (zh x0 x1 0) fun y0=>some (ax (ieq y0.2 1))
def LH:aI:=mkSpec [.val .wal,.val .disk] [.bool] true (fun x=>oG x.1 x.2)
theorem aay:dm PG 44 LH:=okN [(75,Hw)] [4095] ⟨UQ,trivial⟩ fun x=>by kernel_rfl
def lF (x0:aN):Option (Bool):=some (band (band (ieq (len x0.outbox) 0) (ieq (len x0.feed.held) 0)) (ax x0.feed.gap))
def KG:aI:=mkSpec [.val .gate] [.bool] true (fun x=>lF x)
theorem YH:dm PG 45 KG:=okN [] [] trivial fun x=>by kernel_rfl
def cZ (p0:Int) (p1:(List gq)) (v0:Int) (v1:Int):Option ((Int×Int) ⊕ ((Int) ⊕ ((Int)))):=cnd (ilt v0 p0) (cnd (band (ile 0 v0) (ilt v0 (len p1))) (af (og (aj p1 (itn v0))) fun y0=>af (ng y0) fun y1=>cnd (ax y1) (some (Sum.inr (Sum.inl v0))) (some (Sum.inl (wr .i64 (au v0 1),v1)))) none) (some (Sum.inr (Sum.inr v1)))
def oP:fE:=LSh.spec ⟨131,[(7,.int .i64),(0,.ro .note)],[(1,.fn 39 [])],[],[(8,.int .i64),(4,.int .i64)],[],[]⟩ [⟨.ret,[(4,.int .i64)],[],[]⟩,⟨.exit 0,[(4,.int .i64)],[],[]⟩] (sP [(4,2),(8,11)]) (fun p v=>cZ p.1 p.2 v.1 v.2)
def mG (x0:aN):Option (Bool):=af (mJ x0.disk) fun y0=>af (cnd (ax (ax y0)) (nT x0.state) (some false)) fun y1=>af (cnd (ax (bor (ax y0) (ax y1))) (rX x0.wal) (some false)) fun y2=>cnd (bor (bor (ax y0) (ax y1)) (ax y2)) (some false) (af (cnd (ax (ax (ieq x0.state.lsn (wr .i64 (aB x0.wal.next 1))))) (wK x0.outbox x0.wal.sure x0.state.lsn) (some false)) fun y3=>af (cnd (ax (bor (ax (ieq x0.state.lsn (wr .i64 (aB x0.wal.next 1)))) (ax y3))) (xI x0.feed (wr .i64 (au x0.state.seq 1))) (some false)) fun y4=>cnd (ax (bor (bor (ax (ieq x0.state.lsn (wr .i64 (aB x0.wal.next 1)))) (ax y3)) (ax y4))) (af (bM (fun v=>cZ (len x0.feed.held) x0.feed.held v.1 v.2) LF (0,0)) fun y5=>jB y5 (fun y6=>cnd (bor (bor (bor (ax (ieq x0.state.lsn (wr .i64 (aB x0.wal.next 1)))) (ax y3)) (ax y4)) (ile 0 y6)) (some false) (af (cnd (band (band (band (ile 0 x0.gen) (ile x0.gen 1000000000)) (ax (beq x0.up x0.disk.down))) x0.up) (oG x0.wal x0.disk) (some false)) fun y7=>af (cnd (band (band (band (band (ile 0 x0.gen) (ile x0.gen 1000000000)) (ax (beq x0.up x0.disk.down))) (ax (band x0.up y7))) (ax x0.up)) (lF x0) (some false)) fun y8=>some (band (band (band (ile 0 x0.gen) (ile x0.gen 1000000000)) (ax (beq x0.up x0.disk.down))) (bor (band x0.up y7) (band (ax x0.up) y8))))) fun y6=>cnd (bor (bor (bor (ax (ieq x0.state.lsn (wr .i64 (aB x0.wal.next 1)))) (ax y3)) (ax y4)) false) (some false) (af (cnd (band (band (band (ile 0 x0.gen) (ile x0.gen 1000000000)) (ax (beq x0.up x0.disk.down))) x0.up) (oG x0.wal x0.disk) (some false)) fun y9=>af (cnd (band (band (band (band (ile 0 x0.gen) (ile x0.gen 1000000000)) (ax (beq x0.up x0.disk.down))) (ax (band x0.up y9))) (ax x0.up)) (lF x0) (some false)) fun y10=>some (band (band (band (ile 0 x0.gen) (ile x0.gen 1000000000)) (ax (beq x0.up x0.disk.down))) (bor (band x0.up y9) (band (ax x0.up) y10))))) (cnd (bor (bor (bor (ax (ieq x0.state.lsn (wr .i64 (aB x0.wal.next 1)))) (ax y3)) (ax y4)) false) (some false) (af (cnd (band (band (band (ile 0 x0.gen) (ile x0.gen 1000000000)) (ax (beq x0.up x0.disk.down))) x0.up) (oG x0.wal x0.disk) (some false)) fun y11=>af (cnd (band (band (band (band (ile 0 x0.gen) (ile x0.gen 1000000000)) (ax (beq x0.up x0.disk.down))) (ax (band x0.up y11))) (ax x0.up)) (lF x0) (some false)) fun y12=>some (band (band (band (ile 0 x0.gen) (ile x0.gen 1000000000)) (ax (beq x0.up x0.disk.down))) (bor (band x0.up y11) (band (ax x0.up) y12))))))
def yT:aI:=mkSpec [.val .gate] [.bool] true (fun x=>mG x)
theorem H7:dm PG 10 yT:=okP [(36,pW),(37,tX),(38,Bd),(29,yV),(40,mZ),(41,GZ),(42,DY),(44,LH),(45,KG)] [4095,39,43,101] [(184468443676383899749,26,oP)] ⟨yH,CV,JF,Ie,sN,Vt,O4,aay,YH,trivial⟩ (fun K=>⟨mg K fun p v=>by kernel_rfl,trivial⟩) fun x=>by kernel_rfl
def qc (x0:Int) (x1:jL) (x2:Int):Option (aN×Bool):=af (Qy 2 2 x1 x2) fun y0=>af (cnd (ieq y0.2 0) (mG (aN.mk (ah.mk [] x0 (-1) false) (dZ.mk 1 1 0 0 0 []) y0.1 [] (mY.mk [] false) 0 true)) (some false)) fun y1=>some (aN.mk (ah.mk [] x0 (-1) false) (dZ.mk 1 1 0 0 0 []) y0.1 [] (mY.mk [] false) 0 true,band (ieq y0.2 0) y1)
def zF:aI:=mkSpec [.int .i64,.val .expo,.int .i64] [.val .gate,.bool] false (fun x=>qc x.1 x.2.1 x.2.2)
theorem Lh:dm PG 28 zF:=okN [(78,OW),(10,yT)] [4095] ⟨ace,H7,trivial⟩ fun x=>by kernel_rfl
def nZ (x0:aN):Option (Int):=af (mG x0) fun y0=>cnd (ax y0) (some 1) (cnd (ax x0.up) (some 9) (some 0))
def uh:aI:=mkSpec [.val .gate] [.int .i64] true (fun x=>nZ x)
theorem C9:dm PG 54 uh:=okN [(10,yT)] [4095] ⟨H7,trivial⟩ fun x=>by kernel_rfl
def fG (x0:(List aG)):Option ((List aG)):=MG (len x0) fun y0=>cnd (beq y0 true) (some []) (cnd (ile (len x0) 68719476736) (some x0) none)
def uH:aI:=mkSpec [.ro .order] [.buf .order] true (fun x=>fG x)
theorem Gn:dm PG 243 uH:=okN [] [] trivial fun x=>by kernel_rfl
def fO (x0:(List bC)):Option ((List bC)):=MG (len x0) fun y0=>cnd (beq y0 true) (some []) (cnd (ile (len x0) 68719476736) (some x0) none)
def vX:aI:=mkSpec [.ro .cell] [.buf .cell] true (fun x=>fO x)
theorem Iq:dm PG 244 vX:=okN [] [] trivial fun x=>by kernel_rfl
def fP (x0:(List jL)):Option ((List jL)):=MG (len x0) fun y0=>cnd (beq y0 true) (some []) (cnd (ile (len x0) 68719476736) (some x0) none)
def wX:aI:=mkSpec [.ro .expo] [.buf .expo] true (fun x=>fP x)
theorem Hu:dm PG 245 wX:=okN [] [] trivial fun x=>by kernel_rfl
def iE (x0:(List Int)):Option ((List Int)):=MG (len x0) fun y0=>cnd (beq y0 true) (some []) (cnd (ile (len x0) 68719476736) (some x0) none)
def zN:aI:=mkSpec [.ro .i64] [.buf .i64] true (fun x=>iE x)
theorem KW:dm PG 246 zN:=okN [] [] trivial fun x=>by kernel_rfl
def yE (x0:jm):Option (aG×Int):=af (cnd (ax (ax (ieq x0.kind 1))) (ng x0) (some false)) fun y0=>cnd (bor (ax (ieq x0.kind 1)) (ax y0)) (some (aG.mk 0 0 0 0 0 0 0 0 0 0 0 false,1)) (some (aG.mk x0.order x0.account x0.symbol x0.side x0.qty x0.price 0 1 0 0 0 false,0))
def I5:aI:=mkSpec [.val .recd] [.val .order,.int .i64] true (fun x=>yE x)
theorem Wl:dm PG 247 I5:=okN [(40,mZ)] [] ⟨sN,trivial⟩ fun x=>by kernel_rfl
def II (x0:bC):Option (jL×Int):=af (jd x0) fun y0=>cnd (ax y0) (some (jL.mk 0 0 0,1)) (af (Dk x0) fun y1=>some (y1.1,0))
def SS:aI:=mkSpec [.val .cell] [.val .expo,.int .i64] true (fun x=>II x)
theorem ad6:dm PG 299 SS:=okN [(178,pR),(263,ER)] [] ⟨yG,QH,trivial⟩ fun x=>by kernel_rfl
def yu (x0:jL):Option (SA3):=some (SA3.mk x0.long x0.short x0.opn)
def IC:aI:=mkSpec [.val .expo] [.val .a3] true (fun x=>yu x)
theorem Xa:dm PG 328 IC:=okN [] [] trivial fun x=>by kernel_rfl
def kP (x0:Int) (x1:Int) (x2:Int):Option (Bool):=some (ilt (imax x0 x2) x1)
def uw:aI:=mkSpec [.int .i64,.int .i64,.int .i64] [.bool] true (fun x=>kP x.1 x.2.1 x.2.2)
theorem Eh:dm PG 301 uw:=okN [] [] trivial fun x=>by kernel_rfl
def yS (x0:jL) (x1:jL) (x2:jL):Option (Bool):=af (yu x0) fun y0=>af (yu x1) fun y1=>af (yu x2) fun y2=>af (kP y0.a0 y1.a0 y2.a0) fun y3=>cnd y3 (some true) (af (kP y0.a1 y1.a1 y2.a1) fun y4=>cnd y4 (some true) (af (kP y0.a2 y1.a2 y2.a2) fun y5=>cnd y5 (some true) (some false)))
def Fg:aI:=mkSpec [.val .expo,.val .expo,.val .expo] [.bool] true (fun x=>yS x.1 x.2.1 x.2.2)
theorem UG:dm PG 300 Fg:=okN [(328,IC),(301,uw)] [] ⟨Xa,Eh,trivial⟩ fun x=>by kernel_rfl
def dY (x0:aC) (x1:aC) (x2:Int) (x3:Int):Option (Int):=af (bF x0 x2 x3) fun y0=>af (kD x0 x2) fun y1=>af (um y1) fun y2=>cnd (ax (ieq y2.2 0)) (some 3) (af (kD x1 x2) fun y3=>af (um y3) fun y4=>cnd (band (ile 0 y0) (ilt y0 (len x1.cells))) (af (II (aj x1.cells (itn y0))) fun y5=>cnd (band (ile 0 y0) (ilt y0 (len x0.cells))) (af (II (aj x0.cells (itn y0))) fun y6=>cnd (band (ile 0 y0) (ilt y0 (len x0.limits))) (af (yS y5.1 y6.1 (aj x0.limits (itn y0))) fun y7=>cnd (bor (band (ile 0 x2) (ilt x2 (len x0.caps))) (ax (ax y7))) (af (cnd (ax y7) (kP y4.1 y2.1 (aj x0.caps (itn x2))) (some false)) fun y8=>cnd (bor y7 y8) (some 4) (some 0)) none) none) none) none)
def AB:aI:=mkSpec [.val .state,.val .state,.int .i64,.int .i64] [.int .i64] true (fun x=>dY x.1 x.2.1 x.2.2.1 x.2.2.2)
theorem LX:dm PG 250 AB:=okN [(248,nD),(180,qJ),(179,Cm),(299,SS),(300,Fg),(301,uw)] [] ⟨uq,AL,Nc,ad6,UG,Eh,trivial⟩ fun x=>by kernel_rfl
def dX (p0:Int) (p1:(List aG)) (p2:Int) (v0:Int) (v1:Int):Option ((Int×Int) ⊕ ((Int) ⊕ ((Int)))):=cnd (ilt v0 p0) (cnd (band (ile 0 v0) (ilt v0 (len p1))) (cnd (ieq (aj p1 (itn v0)).id p2) (some (Sum.inr (Sum.inl v0))) (some (Sum.inl (wr .i64 (au v0 1),v1)))) none) (some (Sum.inr (Sum.inr v1)))
def qK:fE:=LSh.spec ⟨78,[(7,.int .i64),(0,.ro .order)],[(1,.fn 115 [.mp 24 0])],[(24,[.int .i64])],[(8,.int .i64),(4,.int .i64)],[],[]⟩ [⟨.ret,[(4,.int .i64)],[],[]⟩,⟨.exit 0,[(4,.int .i64)],[],[]⟩] (sP [(4,2),(8,11)]) (fun p v=>dX p.1 p.2.1 p.2.2 v.1 v.2)
def mP (x0:aC) (x1:Int):Option (Int):=af (bM (fun v=>dX (len x0.orders) x0.orders x1 v.1 v.2) LF (0,0)) fun y0=>jB y0 (fun y1=>some y1) fun y1=>some (-1)
def Fe:aI:=mkSpec [.val .state,.int .i64] [.int .i64] true (fun x=>mP x.1 x.2)
theorem Rw:dm PG 56 Fe:=okP [] [115,114] [(240518209650,26,qK)] trivial (fun K=>⟨mg K fun p v=>by kernel_rfl,trivial⟩) fun x=>by kernel_rfl
def wI (x0:aG) (x1:Int) (x2:Int):Option (aG×Int):=af (oL x0.version 1) fun y0=>af (iJ x0) fun y1=>cnd (ax y1) (cnd (ax y1) (some (x0,1)) (cnd (ax (ieq x0.phase 2)) (cnd (ax (ieq x0.phase 2)) (some (x0,8)) (some (aG.mk x0.id x0.account x0.symbol x0.side x0.qty x0.price x0.filled x0.phase x1 x2 (wr .i64 (au x0.version 1)) x0.asked,0))) (af (je x0) fun y2=>cnd y2 (cnd y2 (some (x0,8)) (some (aG.mk x0.id x0.account x0.symbol x0.side x0.qty x0.price x0.filled x0.phase x1 x2 (wr .i64 (au x0.version 1)) x0.asked,0))) (cnd x0.asked (some (x0,8)) (some (aG.mk x0.id x0.account x0.symbol x0.side x0.qty x0.price x0.filled x0.phase x1 x2 (wr .i64 (au x0.version 1)) x0.asked,0)))))) (cnd (ilt x1 1) (cnd (ilt x1 1) (some (x0,1)) (cnd (ax (ieq x0.phase 2)) (cnd (ax (ieq x0.phase 2)) (some (x0,8)) (some (aG.mk x0.id x0.account x0.symbol x0.side x0.qty x0.price x0.filled x0.phase x1 x2 (wr .i64 (au x0.version 1)) x0.asked,0))) (af (je x0) fun y3=>cnd y3 (cnd y3 (some (x0,8)) (some (aG.mk x0.id x0.account x0.symbol x0.side x0.qty x0.price x0.filled x0.phase x1 x2 (wr .i64 (au x0.version 1)) x0.asked,0))) (cnd x0.asked (some (x0,8)) (some (aG.mk x0.id x0.account x0.symbol x0.side x0.qty x0.price x0.filled x0.phase x1 x2 (wr .i64 (au x0.version 1)) x0.asked,0)))))) (cnd (ilt x2 1) (cnd (ilt x2 1) (some (x0,1)) (cnd (ax (ieq x0.phase 2)) (cnd (ax (ieq x0.phase 2)) (some (x0,8)) (some (aG.mk x0.id x0.account x0.symbol x0.side x0.qty x0.price x0.filled x0.phase x1 x2 (wr .i64 (au x0.version 1)) x0.asked,0))) (af (je x0) fun y4=>cnd y4 (cnd y4 (some (x0,8)) (some (aG.mk x0.id x0.account x0.symbol x0.side x0.qty x0.price x0.filled x0.phase x1 x2 (wr .i64 (au x0.version 1)) x0.asked,0))) (cnd x0.asked (some (x0,8)) (some (aG.mk x0.id x0.account x0.symbol x0.side x0.qty x0.price x0.filled x0.phase x1 x2 (wr .i64 (au x0.version 1)) x0.asked,0)))))) (cnd (ax (ieq y0.2 0)) (some (x0,1)) (cnd (ax (ieq x0.phase 2)) (cnd (ax (ieq x0.phase 2)) (some (x0,8)) (some (aG.mk x0.id x0.account x0.symbol x0.side x0.qty x0.price x0.filled x0.phase x1 x2 (wr .i64 (au x0.version 1)) x0.asked,0))) (af (je x0) fun y5=>cnd y5 (cnd y5 (some (x0,8)) (some (aG.mk x0.id x0.account x0.symbol x0.side x0.qty x0.price x0.filled x0.phase x1 x2 (wr .i64 (au x0.version 1)) x0.asked,0))) (cnd x0.asked (some (x0,8)) (some (aG.mk x0.id x0.account x0.symbol x0.side x0.qty x0.price x0.filled x0.phase x1 x2 (wr .i64 (au x0.version 1)) x0.asked,0))))))))
def Gw:aI:=mkSpec [.val .order,.int .i64,.int .i64] [.val .order,.int .i64] true (fun x=>wI x.1 x.2.1 x.2.2)
theorem Vz:dm PG 251 Gw:=okN [(161,sZ),(116,jk),(190,sV)] [] ⟨BH,lN,Cc,trivial⟩ fun x=>by kernel_rfl
def Cb (x0:bC) (x1:aG):Option (bC×Int):=af (jd x0) fun y0=>af (cnd (ax (ax y0)) (iJ x1) (some false)) fun y1=>cnd (bor (ax y0) (ax y1)) (some (x0,1)) (af (yA x1) fun y2=>cnd (ieq x1.side 2) (af (sG x1) fun y3=>af (wY x0.sell y3) fun y4=>af (wY x0.opn y2.1) fun y5=>af (cnd (ax (bor (bor (ax (ieq y2.2 0)) (ax (ieq y4.2 0))) (ax (ieq y5.2 0)))) (jd (bC.mk x0.pos x0.buy y4.1 y5.1)) (some false)) fun y6=>cnd (bor (bor (bor (ax (ieq y2.2 0)) (ax (ieq y4.2 0))) (ax (ieq y5.2 0))) (ax y6)) (some (x0,3)) (some (bC.mk x0.pos x0.buy y4.1 y5.1,0))) (af (sG x1) fun y7=>af (wY x0.buy y7) fun y8=>af (wY x0.opn y2.1) fun y9=>af (cnd (ax (bor (bor (ax (ieq y2.2 0)) (ax (ieq y8.2 0))) (ax (ieq y9.2 0)))) (jd (bC.mk x0.pos y8.1 x0.sell y9.1)) (some false)) fun y10=>cnd (bor (bor (bor (ax (ieq y2.2 0)) (ax (ieq y8.2 0))) (ax (ieq y9.2 0))) (ax y10)) (some (x0,3)) (some (bC.mk x0.pos y8.1 x0.sell y9.1,0))))
def Tc:aI:=mkSpec [.val .cell,.val .order] [.val .cell,.int .i64] true (fun x=>Cb x.1 x.2)
theorem aeg:dm PG 252 Tc:=okN [(178,pR),(116,jk),(326,BQ),(327,D9),(302,ED)] [298] ⟨yG,lN,NE,OJ,PO,trivial⟩ fun x=>by kernel_rfl
def Df (x0:aG):Option (aG×Int):=af (iJ x0) fun y0=>cnd (ax y0) (some (x0,1)) (cnd (ieq x0.phase 3) (cnd (ieq x0.phase 3) (some (x0,8)) (some (aG.mk x0.id x0.account x0.symbol x0.side x0.qty x0.price x0.filled x0.phase x0.newQty x0.newPrice x0.version true,0))) (cnd x0.asked (some (x0,8)) (some (aG.mk x0.id x0.account x0.symbol x0.side x0.qty x0.price x0.filled x0.phase x0.newQty x0.newPrice x0.version true,0))))
def NG:aI:=mkSpec [.val .order] [.val .order,.int .i64] true (fun x=>Df x)
theorem aaP:dm PG 253 NG:=okN [(116,jk)] [] ⟨lN,trivial⟩ fun x=>by kernel_rfl
def yQ (x0:aG):Option (aG):=some (aG.mk x0.id x0.account x0.symbol x0.side x0.qty x0.price x0.filled x0.phase 0 0 x0.version x0.asked)
def zu:aI:=mkSpec [.val .order] [.val .order] true (fun x=>yQ x)
theorem IW:dm PG 330 zu:=okN [] [] trivial fun x=>by kernel_rfl
def Am (x0:aG):Option (aG):=af (yQ (aG.mk x0.id x0.account x0.symbol x0.side x0.qty x0.price x0.filled 3 x0.newQty x0.newPrice x0.version x0.asked)) fun y0=>some y0
def D5:aI:=mkSpec [.val .order] [.val .order] true (fun x=>Am x)
theorem Ph:dm PG 329 D5:=okN [(330,zu)] [] ⟨IW,trivial⟩ fun x=>by kernel_rfl
def Ey (x0:aG) (x1:gq):Option (aG×Bool):=cnd (ieq x1.what 1) (some (aG.mk x0.id x0.account x0.symbol x0.side x0.qty x0.price x0.filled 2 x0.newQty x0.newPrice x0.version x0.asked,true)) (cnd (ieq x1.what 2) (af (Am x0) fun y0=>some (y0,true)) (some (x0,false)))
def Kv:aI:=mkSpec [.val .order,.val .note] [.val .order,.bool] true (fun x=>Ey x.1 x.2)
theorem YM:dm PG 303 Kv:=okN [(329,D5)] [] ⟨Ph,trivial⟩ fun x=>by kernel_rfl
def EG (x0:aG) (x1:gq):Option (aG×Bool):=cnd (ieq x1.what 3) (cnd (ilt (wr .i64 (aB x0.qty x0.filled)) x1.qty) (some (x0,false)) (cnd (ilt (wr .i64 (au x0.filled x1.qty)) x0.qty) (some (aG.mk x0.id x0.account x0.symbol x0.side x0.qty x0.price (wr .i64 (au x0.filled x1.qty)) x0.phase x0.newQty x0.newPrice x0.version x0.asked,true)) (af (Am (aG.mk x0.id x0.account x0.symbol x0.side x0.qty x0.price (wr .i64 (au x0.filled x1.qty)) x0.phase x0.newQty x0.newPrice x0.version x0.asked)) fun y0=>some (y0,true)))) (cnd (ieq x1.what 4) (af (Am x0) fun y1=>some (y1,true)) (cnd (ieq x1.what 5) (af (je x0) fun y2=>cnd (bor (bor (bor (ax y2) (ax (ieq x1.qty x0.newQty))) (ax (ieq x1.price x0.newPrice))) (ile x1.qty x0.filled)) (some (x0,false)) (af (yQ (aG.mk x0.id x0.account x0.symbol x0.side x1.qty x1.price x0.filled x0.phase x0.newQty x0.newPrice x0.version x0.asked)) fun y3=>some (y3,true))) (cnd (ieq x1.what 6) (af (yQ x0) fun y4=>af (je x0) fun y5=>some (y4,y5)) (some (x0,false)))))
def Kz:aI:=mkSpec [.val .order,.val .note] [.val .order,.bool] true (fun x=>EG x.1 x.2)
theorem YF:dm PG 304 Kz:=okN [(329,D5),(190,sV),(330,zu)] [] ⟨Ph,Cc,IW,trivial⟩ fun x=>by kernel_rfl
def AX (x0:aG) (x1:gq):Option (aG×Int):=af (iJ x0) fun y0=>af (cnd (ax (ax y0)) (og x1) (some (jm.mk 0 0 0 0 0 0 0 0 0 0 false 0 0))) fun y1=>af (cnd (ax (ax y0)) (ng y1) (some false)) fun y2=>cnd (bor (bor (ax y0) (ax y2)) (ax (ieq x1.order x0.id))) (some (x0,1)) (cnd (ieq x0.phase 1) (af (Ey x0 x1) fun y3=>cnd (ax y3.2) (some (x0,8)) (some (y3.1,0))) (cnd (ieq x0.phase 2) (af (EG x0 x1) fun y4=>cnd (ax y4.2) (some (x0,8)) (some (y4.1,0))) (some (x0,8))))
def KD:aI:=mkSpec [.val .order,.val .note] [.val .order,.int .i64] true (fun x=>AX x.1 x.2)
theorem YS:dm PG 254 KD:=okN [(116,jk),(29,yV),(40,mZ),(303,Kv),(304,Kz)] [] ⟨lN,Ie,sN,YM,YF,trivial⟩ fun x=>by kernel_rfl
def FI (x0:bC) (x1:Int) (x2:Int):Option (bC×Int):=af (jd x0) fun y0=>cnd (bor (bor (ax y0) (band (ax (ieq x1 1)) (ax (ieq x1 2)))) (ilt x2 0)) (some (x0,1)) (cnd (ieq x1 1) (af (oL x0.pos x2) fun y1=>af (cnd (ax (ax (ieq y1.2 0))) (jd (bC.mk y1.1 x0.buy x0.sell x0.opn)) (some false)) fun y2=>cnd (bor (ax (ieq y1.2 0)) (ax y2)) (some (x0,3)) (some (bC.mk y1.1 x0.buy x0.sell x0.opn,0))) (af (wY x0.pos x2) fun y3=>af (cnd (ax (ax (ieq y3.2 0))) (jd (bC.mk y3.1 x0.buy x0.sell x0.opn)) (some false)) fun y4=>cnd (bor (ax (ieq y3.2 0)) (ax y4)) (some (x0,3)) (some (bC.mk y3.1 x0.buy x0.sell x0.opn,0))))
def Pm:aI:=mkSpec [.val .cell,.int .i64,.int .i64] [.val .cell,.int .i64] true (fun x=>FI x.1 x.2.1 x.2.2)
theorem adw:dm PG 255 Pm:=okN [(178,pR),(161,sZ),(302,ED)] [] ⟨yG,BH,PO,trivial⟩ fun x=>by kernel_rfl
def iy (x0:(List aG)) (x1:Int) (x2:Int):Option ((List aG)):=cnd (band (band (band (ile 0 x1) (ile x1 x2)) (ile x2 (len x0))) (band (ile x2 (len x0)) (ile (len x0) (len x0)))) (cnd (ieq x1 x2) (some x0) (cnd (band (ile 0 x1) (ile x1 (len x0))) (cnd (band (ile 0 x2) (ile x2 (len x0))) (cnd (ile (au (nti (itn x1)) (len (ay (aF x0 (itn x2)) (itn (aB (len x0) x2))))) (len x0)) (cnd (band (band (ile 0 (nti (nad (itn x1) (itn (len (ay (aF x0 (itn x2)) (itn (aB (len x0) x2)))))))) (ile (nti (nad (itn x1) (itn (len (ay (aF x0 (itn x2)) (itn (aB (len x0) x2))))))) (len x0))) (ile (len x0) (aB (len (eU x0 (itn x1) (ay (aF x0 (itn x2)) (itn (aB (len x0) x2))))) 0))) (some (ay (aF (eU (eU x0 (itn x1) (ay (aF x0 (itn x2)) (itn (aB (len x0) x2)))) (nad 0 (itn (nti (nad (itn x1) (itn (len (ay (aF x0 (itn x2)) (itn (aB (len x0) x2))))))))) (jY aG (itn (aB (len x0) (nti (nad (itn x1) (itn (len (ay (aF x0 (itn x2)) (itn (aB (len x0) x2))))))))))) 0) (nad (itn x1) (itn (len (ay (aF x0 (itn x2)) (itn (aB (len x0) x2)))))))) none) none) none) none)) none
def tN:aI:=mkSpec [.buf .order,.int .i64,.int .i64] [.ro .order] false (fun x=>iy x.1 x.2.1 x.2.2)
theorem EX:dm PG 256 tN:=okN [] [] trivial fun x=>by kernel_rfl
def zH (x0:aC) (x1:jm):Option (aC×Int):=af (oL x0.lsn 1) fun y0=>af (cnd (ax (bor (ax (ieq y0.2 0)) (ile 1000000000 x0.lsn))) (ng x1) (some false)) fun y1=>af (cnd (ax (bor (bor (ax (ieq y0.2 0)) (ile 1000000000 x0.lsn)) (ax y1))) (nT x0) (some false)) fun y2=>cnd (bor (bor (bor (ax (ieq y0.2 0)) (ile 1000000000 x0.lsn)) (ax y1)) (ax y2)) (some (x0,1)) (af (fG x0.orders) fun y3=>af (fO x0.cells) fun y4=>af (fP x0.limits) fun y5=>af (iE x0.caps) fun y6=>cnd (ieq x1.kind 1) (af (yE x1) fun y7=>cnd (ile x1.order x0.last) (cnd (ile x1.order x0.last) (some (x0,1)) (cnd x0.kill (some (x0,5)) (cnd (ieq (len y3) 64) (some (x0,6)) (af (fG y3) fun y8=>af (fO y4) fun y9=>af (fP y5) fun y10=>af (iE y6) fun y11=>af (bF (aC.mk x0.accounts x0.symbols y3 y4 y5 y6 x0.kill x0.last x0.seq x0.lsn) y7.1.account y7.1.symbol) fun y12=>cnd (band (ile 0 y12) (ilt y12 (len y4))) (af (kz (aj y4 (itn y12)) y7.1) fun y13=>cnd (ax (ieq y13.2 0)) (some (x0,3)) (cnd (ile (len (dB y3 [y7.1])) 68719476736) (af (dY (aC.mk x0.accounts x0.symbols (dB y3 [y7.1]) (aY y4 (itn y12) y13.1) y5 y6 x0.kill y7.1.id x0.seq x0.lsn) (aC.mk x0.accounts x0.symbols y8 y9 y10 y11 x0.kill x0.last x0.seq x0.lsn) y7.1.account y7.1.symbol) fun y14=>cnd (ax (ieq y14 0)) (some (x0,y14)) (some (aC.mk x0.accounts x0.symbols (dB y3 [y7.1]) (aY y4 (itn y12) y13.1) y5 y6 x0.kill y7.1.id x0.seq (wr .i64 (au x0.lsn 1)),0))) none)) none)))) (cnd (ile x0.accounts x1.account) (cnd (ile x0.accounts x1.account) (some (x0,1)) (cnd x0.kill (some (x0,5)) (cnd (ieq (len y3) 64) (some (x0,6)) (af (fG y3) fun y15=>af (fO y4) fun y16=>af (fP y5) fun y17=>af (iE y6) fun y18=>af (bF (aC.mk x0.accounts x0.symbols y3 y4 y5 y6 x0.kill x0.last x0.seq x0.lsn) y7.1.account y7.1.symbol) fun y19=>cnd (band (ile 0 y19) (ilt y19 (len y4))) (af (kz (aj y4 (itn y19)) y7.1) fun y20=>cnd (ax (ieq y20.2 0)) (some (x0,3)) (cnd (ile (len (dB y3 [y7.1])) 68719476736) (af (dY (aC.mk x0.accounts x0.symbols (dB y3 [y7.1]) (aY y4 (itn y19) y20.1) y5 y6 x0.kill y7.1.id x0.seq x0.lsn) (aC.mk x0.accounts x0.symbols y15 y16 y17 y18 x0.kill x0.last x0.seq x0.lsn) y7.1.account y7.1.symbol) fun y21=>cnd (ax (ieq y21 0)) (some (x0,y21)) (some (aC.mk x0.accounts x0.symbols (dB y3 [y7.1]) (aY y4 (itn y19) y20.1) y5 y6 x0.kill y7.1.id x0.seq (wr .i64 (au x0.lsn 1)),0))) none)) none)))) (cnd (ile x0.symbols x1.symbol) (some (x0,1)) (cnd x0.kill (some (x0,5)) (cnd (ieq (len y3) 64) (some (x0,6)) (af (fG y3) fun y22=>af (fO y4) fun y23=>af (fP y5) fun y24=>af (iE y6) fun y25=>af (bF (aC.mk x0.accounts x0.symbols y3 y4 y5 y6 x0.kill x0.last x0.seq x0.lsn) y7.1.account y7.1.symbol) fun y26=>cnd (band (ile 0 y26) (ilt y26 (len y4))) (af (kz (aj y4 (itn y26)) y7.1) fun y27=>cnd (ax (ieq y27.2 0)) (some (x0,3)) (cnd (ile (len (dB y3 [y7.1])) 68719476736) (af (dY (aC.mk x0.accounts x0.symbols (dB y3 [y7.1]) (aY y4 (itn y26) y27.1) y5 y6 x0.kill y7.1.id x0.seq x0.lsn) (aC.mk x0.accounts x0.symbols y22 y23 y24 y25 x0.kill x0.last x0.seq x0.lsn) y7.1.account y7.1.symbol) fun y28=>cnd (ax (ieq y28 0)) (some (x0,y28)) (some (aC.mk x0.accounts x0.symbols (dB y3 [y7.1]) (aY y4 (itn y26) y27.1) y5 y6 x0.kill y7.1.id x0.seq (wr .i64 (au x0.lsn 1)),0))) none)) none)))))) (cnd (ieq x1.kind 2) (af (mP (aC.mk x0.accounts x0.symbols y3 y4 y5 y6 x0.kill x0.last x0.seq x0.lsn) x1.order) fun y29=>cnd (ieq y29 (-1)) (some (x0,7)) (cnd (band (ile 0 y29) (ilt y29 (len y3))) (af (wI (aj y3 (itn y29)) x1.qty x1.price) fun y30=>cnd (ax (ieq y30.2 0)) (some (x0,8)) (cnd x0.kill (some (x0,5)) (af (fG y3) fun y31=>af (fO y4) fun y32=>af (fP y5) fun y33=>af (iE y6) fun y34=>af (bF (aC.mk x0.accounts x0.symbols y3 y4 y5 y6 x0.kill x0.last x0.seq x0.lsn) (aj y3 (itn y29)).account (aj y3 (itn y29)).symbol) fun y35=>cnd (band (ile 0 y35) (ilt y35 (len y4))) (af (Cb (aj y4 (itn y35)) (aj y3 (itn y29))) fun y36=>af (kz y36.1 y30.1) fun y37=>cnd (ax (ieq y37.2 0)) (some (x0,3)) (cnd (band (ile 0 y29) (ilt y29 (len y3))) (af (dY (aC.mk x0.accounts x0.symbols (aY y3 (itn y29) y30.1) (aY y4 (itn y35) y37.1) y5 y6 x0.kill x0.last x0.seq x0.lsn) (aC.mk x0.accounts x0.symbols y31 y32 y33 y34 x0.kill x0.last x0.seq x0.lsn) (aj y3 (itn y29)).account (aj y3 (itn y29)).symbol) fun y38=>cnd (ax (ieq y38 0)) (some (x0,y38)) (some (aC.mk x0.accounts x0.symbols (aY y3 (itn y29) y30.1) (aY y4 (itn y35) y37.1) y5 y6 x0.kill x0.last x0.seq (wr .i64 (au x0.lsn 1)),0))) none)) none))) none)) (cnd (ieq x1.kind 3) (af (mP (aC.mk x0.accounts x0.symbols y3 y4 y5 y6 x0.kill x0.last x0.seq x0.lsn) x1.order) fun y39=>cnd (ieq y39 (-1)) (some (x0,7)) (cnd (band (ile 0 y39) (ilt y39 (len y3))) (af (Df (aj y3 (itn y39))) fun y40=>cnd (band (ile 0 y39) (ilt y39 (len y3))) (cnd (ax (ieq y40.2 0)) (some (x0,y40.2)) (some (aC.mk x0.accounts x0.symbols (aY y3 (itn y39) y40.1) y4 y5 y6 x0.kill x0.last x0.seq (wr .i64 (au x0.lsn 1)),0))) none) none)) (cnd (ieq x1.kind 4) (cnd (ile x0.accounts x1.account) (cnd (ile x0.accounts x1.account) (some (x0,1)) (cnd (ieq x1.symbol (-1)) (cnd (band (ile 0 x1.account) (ilt x1.account (len y6))) (some (aC.mk x0.accounts x0.symbols y3 y4 y5 (aY y6 (itn x1.account) x1.opn) x0.kill x0.last x0.seq (wr .i64 (au x0.lsn 1)),0)) none) (af (bF (aC.mk x0.accounts x0.symbols y3 y4 y5 y6 x0.kill x0.last x0.seq x0.lsn) x1.account x1.symbol) fun y41=>cnd (band (ile 0 y41) (ilt y41 (len y5))) (some (aC.mk x0.accounts x0.symbols y3 y4 (aY y5 (itn y41) (jL.mk x1.long x1.short x1.opn)) y6 x0.kill x0.last x0.seq (wr .i64 (au x0.lsn 1)),0)) none))) (cnd (ile x0.symbols x1.symbol) (some (x0,1)) (cnd (ieq x1.symbol (-1)) (cnd (band (ile 0 x1.account) (ilt x1.account (len y6))) (some (aC.mk x0.accounts x0.symbols y3 y4 y5 (aY y6 (itn x1.account) x1.opn) x0.kill x0.last x0.seq (wr .i64 (au x0.lsn 1)),0)) none) (af (bF (aC.mk x0.accounts x0.symbols y3 y4 y5 y6 x0.kill x0.last x0.seq x0.lsn) x1.account x1.symbol) fun y42=>cnd (band (ile 0 y42) (ilt y42 (len y5))) (some (aC.mk x0.accounts x0.symbols y3 y4 (aY y5 (itn y42) (jL.mk x1.long x1.short x1.opn)) y6 x0.kill x0.last x0.seq (wr .i64 (au x0.lsn 1)),0)) none)))) (cnd (ieq x1.kind 5) (some (aC.mk x0.accounts x0.symbols y3 y4 y5 y6 x1.on x0.last x0.seq (wr .i64 (au x0.lsn 1)),0)) (cnd (ax (ieq x1.seq (wr .i64 (au x0.seq 1)))) (some (x0,11)) (af (mP (aC.mk x0.accounts x0.symbols y3 y4 y5 y6 x0.kill x0.last x1.seq x0.lsn) x1.order) fun y43=>cnd (ieq y43 (-1)) (some (aC.mk x0.accounts x0.symbols y3 y4 y5 y6 x0.kill x0.last x1.seq (wr .i64 (au x0.lsn 1)),0)) (cnd (band (ile 0 y43) (ilt y43 (len y3))) (af (AX (aj y3 (itn y43)) (gq.mk x1.seq x1.what x1.order x1.qty x1.price)) fun y44=>cnd (ax (ieq y44.2 0)) (some (aC.mk x0.accounts x0.symbols y3 y4 y5 y6 x0.kill x0.last x1.seq (wr .i64 (au x0.lsn 1)),0)) (af (bF (aC.mk x0.accounts x0.symbols y3 y4 y5 y6 x0.kill x0.last x1.seq x0.lsn) (aj y3 (itn y43)).account (aj y3 (itn y43)).symbol) fun y45=>cnd (band (ile 0 y45) (ilt y45 (len y4))) (af (Cb (aj y4 (itn y45)) (aj y3 (itn y43))) fun y46=>af (kz (aj (aY y4 (itn y45) y46.1) (itn y45)) y44.1) fun y47=>cnd (ieq x1.what 3) (af (FI (aj (aY (aY y4 (itn y45) y46.1) (itn y45) y47.1) (itn y45)) (aj y3 (itn y43)).side x1.qty) fun y48=>cnd (band (ile 0 y43) (ilt y43 (len y3))) (cnd (ieq y44.1.phase 3) (af (iy (aY y3 (itn y43) y44.1) y43 (wr .i64 (au y43 1))) fun y49=>some (aC.mk x0.accounts x0.symbols y49 (aY (aY (aY y4 (itn y45) y46.1) (itn y45) y47.1) (itn y45) y48.1) y5 y6 x0.kill x0.last x1.seq (wr .i64 (au x0.lsn 1)),0)) (some (aC.mk x0.accounts x0.symbols (aY y3 (itn y43) y44.1) (aY (aY (aY y4 (itn y45) y46.1) (itn y45) y47.1) (itn y45) y48.1) y5 y6 x0.kill x0.last x1.seq (wr .i64 (au x0.lsn 1)),0))) none) (cnd (band (ile 0 y43) (ilt y43 (len y3))) (cnd (ieq y44.1.phase 3) (af (iy (aY y3 (itn y43) y44.1) y43 (wr .i64 (au y43 1))) fun y50=>some (aC.mk x0.accounts x0.symbols y50 (aY (aY y4 (itn y45) y46.1) (itn y45) y47.1) y5 y6 x0.kill x0.last x1.seq (wr .i64 (au x0.lsn 1)),0)) (some (aC.mk x0.accounts x0.symbols (aY y3 (itn y43) y44.1) (aY (aY y4 (itn y45) y46.1) (itn y45) y47.1) y5 y6 x0.kill x0.last x1.seq (wr .i64 (au x0.lsn 1)),0))) none)) none)) none))))))))
def JG:aI:=mkSpec [.val .state,.val .recd] [.val .state,.int .i64] false (fun x=>zH x.1 x.2)
theorem Xh:dm PG 79 JG:=okN [(161,sZ),(40,mZ),(37,tX),(243,uH),(244,vX),(245,wX),(246,zN),(247,I5),(248,nD),(249,EP),(250,AB),(56,Fe),(251,Gw),(252,Tc),(253,NG),(254,KD),(255,Pm),(256,tN)] [162,163,164,165,166,167] ⟨BH,sN,CV,Gn,Iq,Hu,KW,Wl,uq,SC,LX,Rw,Vz,aeg,aaP,YS,adw,EX,trivial⟩ fun x=>by kernel_rfl
def EY (x0:jm):Option (SA6×Int):=af (ng x0) fun y0=>cnd (ax y0) (some (SA6.mk 0 0 0 0 0 0,1)) (cnd (ieq x0.kind 1) (some (SA6.mk x0.order x0.account x0.symbol x0.side x0.qty x0.price,0)) (cnd (ieq x0.kind 4) (some (SA6.mk x0.account x0.symbol x0.long x0.short x0.opn 0,0)) (cnd (ieq x0.kind 5) (cnd x0.on (some (SA6.mk 1 0 0 0 0 0,0)) (some (SA6.mk 0 0 0 0 0 0,0))) (cnd (ieq x0.kind 6) (some (SA6.mk x0.seq x0.what x0.order x0.qty x0.price 0,0)) (some (SA6.mk x0.order x0.qty x0.price 0 0 0,0))))))
def Pj:aI:=mkSpec [.val .recd] [.val .a6,.int .i64] true (fun x=>EY x)
theorem abY:dm PG 112 Pj:=okN [(40,mZ)] [] ⟨sN,trivial⟩ fun x=>by kernel_rfl
def cO (x0:(List fM)):Option ((List fM)):=MG (len x0) fun y0=>cnd (beq y0 true) (some []) (cnd (ile (len x0) 68719476736) (some x0) none)
def oz:aI:=mkSpec [.ro .frame] [.buf .frame] true (fun x=>cO x)
theorem xP:dm PG 189 oz:=okN [] [] trivial fun x=>by kernel_rfl
def EH (x0:dZ) (x1:Int) (x2:SA6):Option (dZ×Int):=af (rX x0) fun y0=>cnd (ax y0) (cnd (ax y0) (some (x0,1)) (cnd (ilt 1000000000 x0.next) (some (x0,3)) (cnd (ieq (len x0.wait) 32) (some (x0,6)) (af (cO x0.wait) fun y1=>cnd (ile (len (dB y1 [fM.mk x0.epoch x0.next x1 x2.a0 x2.a1 x2.a2 x2.a3 x2.a4 x2.a5])) 68719476736) (some (dZ.mk x0.epoch (wr .i64 (au x0.next 1)) x0.sure x0.seg x0.count (dB y1 [fM.mk x0.epoch x0.next x1 x2.a0 x2.a1 x2.a2 x2.a3 x2.a4 x2.a5]),0)) none)))) (cnd (ilt x1 1) (cnd (ilt x1 1) (some (x0,1)) (cnd (ilt 1000000000 x0.next) (some (x0,3)) (cnd (ieq (len x0.wait) 32) (some (x0,6)) (af (cO x0.wait) fun y2=>cnd (ile (len (dB y2 [fM.mk x0.epoch x0.next x1 x2.a0 x2.a1 x2.a2 x2.a3 x2.a4 x2.a5])) 68719476736) (some (dZ.mk x0.epoch (wr .i64 (au x0.next 1)) x0.sure x0.seg x0.count (dB y2 [fM.mk x0.epoch x0.next x1 x2.a0 x2.a1 x2.a2 x2.a3 x2.a4 x2.a5]),0)) none)))) (cnd (ilt 6 x1) (some (x0,1)) (cnd (ilt 1000000000 x0.next) (some (x0,3)) (cnd (ieq (len x0.wait) 32) (some (x0,6)) (af (cO x0.wait) fun y3=>cnd (ile (len (dB y3 [fM.mk x0.epoch x0.next x1 x2.a0 x2.a1 x2.a2 x2.a3 x2.a4 x2.a5])) 68719476736) (some (dZ.mk x0.epoch (wr .i64 (au x0.next 1)) x0.sure x0.seg x0.count (dB y3 [fM.mk x0.epoch x0.next x1 x2.a0 x2.a1 x2.a2 x2.a3 x2.a4 x2.a5]),0)) none)))))
def RI:aI:=mkSpec [.val .wal,.int .i64,.val .a6] [.val .wal,.int .i64] false (fun x=>EH x.1 x.2.1 x.2.2)
theorem ae6:dm PG 113 RI:=okN [(38,Bd),(189,oz)] [] ⟨JF,xP,trivial⟩ fun x=>by kernel_rfl
def qf (x0:aN) (x1:jm):Option (aN×Int):=af (zH x0.state x1) fun y0=>cnd (ax (ieq y0.2 0)) (some (x0,y0.2)) (af (EY x1) fun y1=>af (EH x0.wal x1.kind y1.1) fun y2=>cnd (ax (ieq y2.2 0)) (some (x0,y2.2)) (some (aN.mk x0.disk y2.1 y0.1 x0.outbox x0.feed x0.gen x0.up,0)))
def yU:aI:=mkSpec [.val .gate,.val .recd] [.val .gate,.int .i64] false (fun x=>qf x.1 x.2)
theorem Io:dm PG 55 yU:=okN [(79,JG),(112,Pj),(113,RI)] [] ⟨Xh,abY,ae6,trivial⟩ fun x=>by kernel_rfl
def dU (x0:(List kM)):Option ((List kM)):=MG (len x0) fun y0=>cnd (beq y0 true) (some []) (cnd (ile (len x0) 68719476736) (some x0) none)
def pJ:aI:=mkSpec [.ro .msg] [.buf .msg] true (fun x=>dU x)
theorem zy:dm PG 57 pJ:=okN [] [] trivial fun x=>by kernel_rfl
def qp (x0:Int) (x1:aG) (x2:Int):Option (kM):=cnd (ieq x0 1) (af (iJ x1) fun y0=>af (cnd (ax (ax y0)) (kV (kM.mk x0 x1.id x1.account x1.symbol x1.side x1.qty x1.price 0 x2)) (some false)) fun y1=>cnd (bor (ax y0) (ax y1)) (some (kM.mk 0 0 0 0 0 0 0 0 0)) (some (kM.mk x0 x1.id x1.account x1.symbol x1.side x1.qty x1.price 0 x2))) (cnd (ieq x0 2) (af (iJ x1) fun y2=>af (cnd (ax (ax y2)) (kV (kM.mk x0 x1.id x1.account x1.symbol x1.side x1.newQty x1.newPrice x1.version x2)) (some false)) fun y3=>cnd (bor (ax y2) (ax y3)) (some (kM.mk 0 0 0 0 0 0 0 0 0)) (some (kM.mk x0 x1.id x1.account x1.symbol x1.side x1.newQty x1.newPrice x1.version x2))) (af (iJ x1) fun y4=>af (cnd (ax (ax y4)) (kV (kM.mk x0 x1.id x1.account x1.symbol x1.side 0 0 0 x2)) (some false)) fun y5=>cnd (bor (ax y4) (ax y5)) (some (kM.mk 0 0 0 0 0 0 0 0 0)) (some (kM.mk x0 x1.id x1.account x1.symbol x1.side 0 0 0 x2))))
def ND:aI:=mkSpec [.int .i64,.val .order,.int .i64] [.val .msg] true (fun x=>qp x.1 x.2.1 x.2.2)
theorem aaS:dm PG 58 ND:=okN [(116,jk),(100,xW)] [] ⟨lN,Gz,trivial⟩ fun x=>by kernel_rfl
def qQ (x0:aN) (x1:jm):Option (aN×Int):=af (nZ x0) fun y0=>cnd (ax (ieq y0 0)) (some (x0,y0)) (cnd (bor (ilt x1.kind 1) (ilt 3 x1.kind)) (some (x0,1)) (af (qf x0 x1) fun y1=>cnd (ax (ieq y1.2 0)) (some (x0,y1.2)) (af (mP y1.1.state x1.order) fun y2=>cnd (band (ile 0 y2) (ilt y2 (len y1.1.state.orders))) (af (dU x0.outbox) fun y3=>af (qp x1.kind (aj y1.1.state.orders (itn y2)) y1.1.state.lsn) fun y4=>cnd (ile (len (dB y3 [y4])) 68719476736) (some (aN.mk y1.1.disk y1.1.wal y1.1.state (dB y3 [y4]) y1.1.feed y1.1.gen y1.1.up,0)) none) none)))
def BG:aI:=mkSpec [.val .gate,.val .recd] [.val .gate,.int .i64] false (fun x=>qQ x.1 x.2)
theorem MW:dm PG 12 BG:=okN [(54,uh),(55,yU),(56,Fe),(57,pJ),(58,ND)] [4095] ⟨C9,Io,Rw,zy,aaS,trivial⟩ fun x=>by kernel_rfl
def CZ (v0:Int) (v1:Int):Option ((Int×Int) ⊕ ((Int))):=cnd (ilt v0 4) (cnd (ieq (wr .u32 (mW .u32 v1 1)) 1) (some (Sum.inl (wr .i64 (au v0 1),wr .u32 (gY .u32 (bP .u32 v1 1) 3988292384)))) (some (Sum.inl (wr .i64 (au v0 1),bP .u32 v1 1)))) (some (Sum.inr v1))
def Yi:fE:=LSh.spec ⟨67,[],[],[],[(4,.int .i64),(0,.int .u32)],[],[]⟩ [⟨.exit 0,[(0,.int .u32)],[],[]⟩] (sP [(0,1),(3,12)]) (fun p v=>CZ v.1 v.2)
def dn (x0:Int):Option (Int):=af (bM (fun v=>CZ v.1 v.2) LF (0,x0)) fun y0=>some y0
def Ij:aI:=mkSpec [.int .u32] [.int .u32] true (fun x=>dn x)
theorem U6:dm PG 310 Ij:=okP [] [] [(310,26,Yi)] trivial (fun K=>⟨mg K fun p v=>by kernel_rfl,trivial⟩) fun x=>by kernel_rfl
def CS (p0:Int) (p1:(List Int)) (v0:Int) (v1:Int):Option ((Int×Int) ⊕ ((Int))):=cnd (ilt v0 p0) (cnd (band (ile 0 v0) (ilt v0 (len p1))) (af (dn (wr .u32 (mW .u32 (wr .u32 (gY .u32 v1 (wr .u32 (aj p1 (itn v0))))) 15))) fun y0=>af (dn (wr .u32 (mW .u32 (wr .u32 (gY .u32 y0 (bP .u32 (wr .u32 (gY .u32 v1 (wr .u32 (aj p1 (itn v0))))) 4))) 15))) fun y1=>some (Sum.inl (wr .i64 (au v0 1),wr .u32 (gY .u32 y1 (bP .u32 (wr .u32 (gY .u32 y0 (bP .u32 (wr .u32 (gY .u32 v1 (wr .u32 (aj p1 (itn v0))))) 4))) 4))))) none) (some (Sum.inr v1))
def Yo:fE:=LSh.spec ⟨73,[(11,.int .i64),(10,.ro .u8)],[],[],[(12,.int .i64),(5,.int .u32)],[],[]⟩ [⟨.exit 0,[(5,.int .u32)],[],[]⟩] (sP [(5,1),(7,1),(12,21)]) (fun p v=>CS p.1 p.2 v.1 v.2)
def Qa (x0:Int) (x1:(List Int)):Option (Int):=af (bM (fun v=>CS (len x1) x1 v.1 v.2) LF (0,wr .u32 (gY .u32 4294967295 x0))) fun y0=>some (wr .u32 (gY .u32 4294967295 y0))
def OU:aI:=mkSpec [.int .u32,.ro .u8] [.int .u32] true (fun x=>Qa x.1 x.2)
theorem acg:dm PG 277 OU:=okP [(310,Ij)] [] [(277,58,Yo)] ⟨U6,trivial⟩ (fun K=>⟨mg K fun p v=>by kernel_rfl,trivial⟩) fun x=>by kernel_rfl
def Je (x0:(List Int)):Option (Int):=af (Qa 0 x0) fun y0=>some y0
def Js:aI:=mkSpec [.ro .u8] [.int .u32] true (fun x=>Je x)
theorem XP:dm PG 211 Js:=okN [(277,OU)] [] ⟨acg,trivial⟩ fun x=>by kernel_rfl
def aO (p0:Int) (v0:Int) (v1:(List Int)):Option ((Int×(List Int)) ⊕ (((List Int)))):=cnd (ile 0 v0) (cnd (ile 0 (wr .i64 (gu 8 v0))) (cnd (ile (len (dB v1 [wr .u8 (bP .u64 p0 (wr .i64 (gu 8 v0)))])) 68719476736) (some (Sum.inl (wr .i64 (aB v0 1),dB v1 [wr .u8 (bP .u64 p0 (wr .i64 (gu 8 v0)))]))) none) none) (some (Sum.inr v1))
def wZ:fE:=LSh.spec ⟨76,[(1,.int .u64)],[(0,.mp 56 0)],[],[(6,.int .i64)],[(56,[.buf .u8])],[]⟩ [⟨.exit 0,[],[(56,[.buf .u8])],[]⟩] (sP [(6,1),(9,16)]) (fun p v=>aO p v.1 v.2)
def jT (p0:Int) (v0:Int) (v1:(List Int)):Option ((Int×(List Int)) ⊕ (((List Int)))):=cnd (ile 0 v0) (cnd (ile 0 (wr .i64 (gu 8 v0))) (cnd (ile (len (dB v1 [wr .u8 (bP .u64 p0 (wr .i64 (gu 8 v0)))])) 68719476736) (some (Sum.inl (wr .i64 (aB v0 1),dB v1 [wr .u8 (bP .u64 p0 (wr .i64 (gu 8 v0)))]))) none) none) (some (Sum.inr v1))
def wB:fE:=LSh.spec ⟨150,[(1,.int .u64)],[(0,.mp 56 0)],[],[(6,.int .i64)],[(56,[.buf .u8])],[]⟩ [⟨.exit 0,[],[(56,[.buf .u8])],[]⟩] (sP [(6,1),(9,16)]) (fun p v=>jT p v.1 v.2)
def jI (p0:Int) (v0:Int) (v1:(List Int)):Option ((Int×(List Int)) ⊕ (((List Int)))):=cnd (ile 0 v0) (cnd (ile 0 (wr .i64 (gu 8 v0))) (cnd (ile (len (dB v1 [wr .u8 (bP .u64 p0 (wr .i64 (gu 8 v0)))])) 68719476736) (some (Sum.inl (wr .i64 (aB v0 1),dB v1 [wr .u8 (bP .u64 p0 (wr .i64 (gu 8 v0)))]))) none) none) (some (Sum.inr v1))
def ve:fE:=LSh.spec ⟨224,[(1,.int .u64)],[(0,.mp 56 0)],[],[(6,.int .i64)],[(56,[.buf .u8])],[]⟩ [⟨.exit 0,[],[(56,[.buf .u8])],[]⟩] (sP [(6,1),(9,16)]) (fun p v=>jI p v.1 v.2)
def jy (p0:Int) (v0:Int) (v1:(List Int)):Option ((Int×(List Int)) ⊕ (((List Int)))):=cnd (ile 0 v0) (cnd (ile 0 (wr .i64 (gu 8 v0))) (cnd (ile (len (dB v1 [wr .u8 (bP .u64 p0 (wr .i64 (gu 8 v0)))])) 68719476736) (some (Sum.inl (wr .i64 (aB v0 1),dB v1 [wr .u8 (bP .u64 p0 (wr .i64 (gu 8 v0)))]))) none) none) (some (Sum.inr v1))
def vz:fE:=LSh.spec ⟨298,[(1,.int .u64)],[(0,.mp 56 0)],[],[(6,.int .i64)],[(56,[.buf .u8])],[]⟩ [⟨.exit 0,[],[(56,[.buf .u8])],[]⟩] (sP [(6,1),(9,16)]) (fun p v=>jy p v.1 v.2)
def jO (p0:Int) (v0:Int) (v1:(List Int)):Option ((Int×(List Int)) ⊕ (((List Int)))):=cnd (ile 0 v0) (cnd (ile 0 (wr .i64 (gu 8 v0))) (cnd (ile (len (dB v1 [wr .u8 (bP .u64 p0 (wr .i64 (gu 8 v0)))])) 68719476736) (some (Sum.inl (wr .i64 (aB v0 1),dB v1 [wr .u8 (bP .u64 p0 (wr .i64 (gu 8 v0)))]))) none) none) (some (Sum.inr v1))
def vC:fE:=LSh.spec ⟨377,[(1,.int .u64)],[(0,.mp 56 0)],[],[(6,.int .i64)],[(56,[.buf .u8])],[]⟩ [⟨.exit 0,[],[(56,[.buf .u8])],[]⟩] (sP [(6,1),(9,16)]) (fun p v=>jO p v.1 v.2)
def jC (p0:Int) (v0:Int) (v1:(List Int)):Option ((Int×(List Int)) ⊕ (((List Int)))):=cnd (ile 0 v0) (cnd (ile 0 (wr .i64 (gu 8 v0))) (cnd (ile (len (dB v1 [wr .u8 (bP .u64 p0 (wr .i64 (gu 8 v0)))])) 68719476736) (some (Sum.inl (wr .i64 (aB v0 1),dB v1 [wr .u8 (bP .u64 p0 (wr .i64 (gu 8 v0)))]))) none) none) (some (Sum.inr v1))
def uZ:fE:=LSh.spec ⟨455,[(1,.int .u64)],[(0,.mp 56 0)],[],[(6,.int .i64)],[(56,[.buf .u8])],[]⟩ [⟨.exit 0,[],[(56,[.buf .u8])],[]⟩] (sP [(6,1),(9,16)]) (fun p v=>jC p v.1 v.2)
def jH (p0:Int) (v0:Int) (v1:(List Int)):Option ((Int×(List Int)) ⊕ (((List Int)))):=cnd (ile 0 v0) (cnd (ile 0 (wr .i64 (gu 8 v0))) (cnd (ile (len (dB v1 [wr .u8 (bP .u64 p0 (wr .i64 (gu 8 v0)))])) 68719476736) (some (Sum.inl (wr .i64 (aB v0 1),dB v1 [wr .u8 (bP .u64 p0 (wr .i64 (gu 8 v0)))]))) none) none) (some (Sum.inr v1))
def vI:fE:=LSh.spec ⟨533,[(1,.int .u64)],[(0,.mp 56 0)],[],[(6,.int .i64)],[(56,[.buf .u8])],[]⟩ [⟨.exit 0,[],[(56,[.buf .u8])],[]⟩] (sP [(6,1),(9,16)]) (fun p v=>jH p v.1 v.2)
def jF (p0:Int) (v0:Int) (v1:(List Int)):Option ((Int×(List Int)) ⊕ (((List Int)))):=cnd (ile 0 v0) (cnd (ile 0 (wr .i64 (gu 8 v0))) (cnd (ile (len (dB v1 [wr .u8 (bP .u64 p0 (wr .i64 (gu 8 v0)))])) 68719476736) (some (Sum.inl (wr .i64 (aB v0 1),dB v1 [wr .u8 (bP .u64 p0 (wr .i64 (gu 8 v0)))]))) none) none) (some (Sum.inr v1))
def vJ:fE:=LSh.spec ⟨611,[(1,.int .u64)],[(0,.mp 56 0)],[],[(6,.int .i64)],[(56,[.buf .u8])],[]⟩ [⟨.exit 0,[],[(56,[.buf .u8])],[]⟩] (sP [(6,1),(9,16)]) (fun p v=>jF p v.1 v.2)
def jM (p0:Int) (v0:Int) (v1:(List Int)):Option ((Int×(List Int)) ⊕ (((List Int)))):=cnd (ile 0 v0) (cnd (ile 0 (wr .i64 (gu 8 v0))) (cnd (ile (len (dB v1 [wr .u8 (bP .u64 p0 (wr .i64 (gu 8 v0)))])) 68719476736) (some (Sum.inl (wr .i64 (aB v0 1),dB v1 [wr .u8 (bP .u64 p0 (wr .i64 (gu 8 v0)))]))) none) none) (some (Sum.inr v1))
def vg:fE:=LSh.spec ⟨689,[(1,.int .u64)],[(0,.mp 56 0)],[],[(6,.int .i64)],[(56,[.buf .u8])],[]⟩ [⟨.exit 0,[],[(56,[.buf .u8])],[]⟩] (sP [(6,1),(9,16)]) (fun p v=>jM p v.1 v.2)
def jJ (p0:Int) (v0:Int) (v1:(List Int)):Option ((Int×(List Int)) ⊕ (((List Int)))):=cnd (ile 0 v0) (cnd (ile 0 (wr .i64 (gu 8 v0))) (cnd (ile (len (dB v1 [wr .u8 (bP .u64 p0 (wr .i64 (gu 8 v0)))])) 68719476736) (some (Sum.inl (wr .i64 (aB v0 1),dB v1 [wr .u8 (bP .u64 p0 (wr .i64 (gu 8 v0)))]))) none) none) (some (Sum.inr v1))
def vG:fE:=LSh.spec ⟨767,[(1,.int .u64)],[(0,.mp 56 0)],[],[(6,.int .i64)],[(56,[.buf .u8])],[]⟩ [⟨.exit 0,[],[(56,[.buf .u8])],[]⟩] (sP [(6,1),(9,16)]) (fun p v=>jJ p v.1 v.2)
def Aq (x0:fM):Option ((List Int)×Int):=af (yN x0) fun y0=>cnd (ax y0) (some ([],1)) (af (bM (fun v=>aO 72 v.1 v.2) LF (3,[])) fun y1=>af (bM (fun v=>jT (wr .u64 x0.epoch) v.1 v.2) LF (3,y1)) fun y2=>af (bM (fun v=>jI (wr .u64 x0.lsn) v.1 v.2) LF (7,y2)) fun y3=>af (bM (fun v=>jy (wr .u64 x0.kind) v.1 v.2) LF (3,y3)) fun y4=>af (bM (fun v=>jO (wr .u64 x0.b0) v.1 v.2) LF (7,y4)) fun y5=>af (bM (fun v=>jC (wr .u64 x0.b1) v.1 v.2) LF (7,y5)) fun y6=>af (bM (fun v=>jH (wr .u64 x0.b2) v.1 v.2) LF (7,y6)) fun y7=>af (bM (fun v=>jF (wr .u64 x0.b3) v.1 v.2) LF (7,y7)) fun y8=>af (bM (fun v=>jM (wr .u64 x0.b4) v.1 v.2) LF (7,y8)) fun y9=>af (bM (fun v=>jJ (wr .u64 x0.b5) v.1 v.2) LF (7,y9)) fun y10=>af (Je y10) fun y11=>cnd (ile (len (dB y10 [wr .u8 y11,wr .u8 (bP .u32 y11 8),wr .u8 (bP .u32 y11 16),wr .u8 (bP .u32 y11 24)])) 68719476736) (some (dB y10 [wr .u8 y11,wr .u8 (bP .u32 y11 8),wr .u8 (bP .u32 y11 16),wr .u8 (bP .u32 y11 24)],0)) none)
def GH:aI:=mkSpec [.val .frame] [.buf .u8,.int .i64] true (fun x=>Aq x)
theorem Vm:dm PG 269 GH:=okP [(265,CJ),(211,Js)] [309] [(1155346239797,6,wZ),(1155346542901,6,wB),(1155346846005,6,ve),(1155347149109,6,vz),(1155347472693,6,vC),(1155347792181,6,uZ),(1155348111669,6,vI),(1155348431157,6,vJ),(1155348750645,6,vg),(1155349070133,6,vG)] ⟨Na,XP,trivial⟩ (fun K=>⟨mg K fun p v=>by kernel_rfl,mg K fun p v=>by kernel_rfl,mg K fun p v=>by kernel_rfl,mg K fun p v=>by kernel_rfl,mg K fun p v=>by kernel_rfl,mg K fun p v=>by kernel_rfl,mg K fun p v=>by kernel_rfl,mg K fun p v=>by kernel_rfl,mg K fun p v=>by kernel_rfl,mg K fun p v=>by kernel_rfl,trivial⟩) fun x=>by kernel_rfl
def yJ (p0:Int) (p1:(List fM)) (v0:Int) (v1:(List Int)) (v2:Int) (v3:(List Int)):Option ((Int×(List Int)×Int×(List Int)) ⊕ ((Int×(List Int)) ⊕ (((List Int)×Int×(List Int))))):=cnd (ilt v0 p0) (cnd (band (ile 0 v0) (ilt v0 (len p1))) (af (Aq (aj p1 (itn v0))) fun y0=>cnd (ax (ieq y0.2 0)) (some (Sum.inr (Sum.inl (y0.2,[])))) (cnd (ile (len (dB v1 y0.1)) 68719476736) (some (Sum.inl (wr .i64 (au v0 1),dB v1 y0.1,v2,v3))) none)) none) (some (Sum.inr (Sum.inr (v1,v2,v3))))
def V4:fE:=LSh.spec ⟨71,[(10,.int .i64),(9,.ro .frame)],[],[],[(11,.int .i64),(4,.buf .u8),(3,.int .i64),(2,.buf .u8)],[],[]⟩ [⟨.ret,[(3,.int .i64),(2,.buf .u8)],[],[]⟩,⟨.exit 0,[(4,.buf .u8),(3,.int .i64),(2,.buf .u8)],[],[]⟩] (sP [(2,3),(6,3),(11,16)]) (fun p v=>yJ p.1 p.2 v.1 v.2.1 v.2.2.1 v.2.2.2)
def wV (x0:(List fM)):Option ((List Int)×Int):=af (bM (fun v=>yJ (len x0) x0 v.1 v.2.1 v.2.2.1 v.2.2.2) LF (0,[],0,[])) fun y0=>jB y0 (fun y1=>some (y1.2,y1.1)) fun y1=>some (y1.1,0)
def O3:aI:=mkSpec [.ro .frame] [.buf .u8,.int .i64] true (fun x=>wV x)
theorem ac1:dm PG 196 O3:=okP [(269,GH)] [] [(196,58,V4)] ⟨Vm,trivial⟩ (fun K=>⟨mg K fun p v=>by kernel_rfl,trivial⟩) fun x=>by kernel_rfl
def wU (p0:Int) (p1:(List aA)) (v0:Int) (v1:Int):Option ((Int×Int) ⊕ ((Int))):=cnd (ilt v0 p0) (cnd (band (ile 0 v0) (ilt v0 (len p1))) (some (Sum.inl (wr .i64 (au v0 1),wr .i64 (au v1 (len (aj p1 (itn v0)).data))))) none) (some (Sum.inr v1))
def Vq:fE:=LSh.spec ⟨72,[(8,.int .i64),(7,.ro .file)],[],[],[(9,.int .i64),(3,.int .i64)],[],[]⟩ [⟨.exit 0,[(3,.int .i64)],[],[]⟩] (sP [(3,1),(5,1),(9,10)]) (fun p v=>wU p.1 p.2 v.1 v.2)
def Dh (x0:ah):Option (Int):=af (bM (fun v=>wU (len x0.files) x0.files v.1 v.2) LF (0,0)) fun y0=>some y0
def LJ:aI:=mkSpec [.val .disk] [.int .i64] true (fun x=>Dh x)
theorem aa5:dm PG 218 LJ:=okP [] [] [(218,58,Vq)] trivial (fun K=>⟨mg K fun p v=>by kernel_rfl,trivial⟩) fun x=>by kernel_rfl
def bg (x0:(List aA)) (x1:Int) (x2:(List aA)):Option ((List aA)):=match x2 with | [n]=>cnd (band (ile 0 x1) (band (ile x1 (len x0)) (ile (au (len x0) 1) 68719476736))) (some (dB (ay x0 (itn x1)) (n::aF x0 (itn x1)))) none | _=>none
noncomputable def Ii:Cx:={ P:=PG,ety:=ety,fn:=look [],inl:=amD [],lp:=Qe [] }
def nS:aI:=Gv .file (fun x=>bg x.1 x.2.1 x.2.2)
theorem xR:dm PG 219 nS:=
 have K:CxR Ii:=Cj.cx (fun _=>rfl) (l:=[]) trivial
 aak K 219 (ahh PG 219) (ahh PG ((BL (ahh PG 219)).f 29)) (by kernel_rfl) (by kernel_rfl) (by kernel_rfl) (by kernel_rfl) (by kernel_rfl) (e:= .file) (by kernel_rfl) (by kernel_rfl) (by kernel_rfl) (by kernel_rfl) (by kernel_rfl) (by kernel_rfl) rfl (fun x y h=>by obtain⟨l,k,xs⟩:=x;match xs,h with | [],h=>exact h | [_],h=>exact h | _::_::_,h=>exact h)
def kW (p0:Int) (p1:(List Oz)) (v0:Int) (v1:Int):Option ((Int×Int) ⊕ ((Int))):=cnd (ilt v0 p0) (cnd (band (ile 0 v0) (ilt v0 (len p1))) (cnd (ilt (wr .i64 (au v1 (len (aj p1 (itn v0)).all))) 0) none (some (Sum.inl (wr .i64 (au v0 1),wr .i64 (au v1 (len (aj p1 (itn v0)).all)))))) none) (some (Sum.inr v1))
def H6:fE:=LSh.spec ⟨70,[(10,.int .i64),(9,.ro .bts)],[],[],[(11,.int .i64),(3,.int .i64)],[],[]⟩ [⟨.exit 0,[(3,.int .i64)],[],[]⟩] (sP [(3,1),(5,1),(11,12)]) (fun p v=>kW p.1 p.2 v.1 v.2)
def jl (p0:Int) (p1:(List Oz)) (v0:Int) (v1:(List Int)):Option ((Int×(List Int)) ⊕ (((List Int)))):=cnd (ilt v0 p0) (cnd (band (ile 0 v0) (ilt v0 (len p1))) (cnd (ile (len (dB v1 (aj p1 (itn v0)).all)) 68719476736) (some (Sum.inl (wr .i64 (au v0 1),dB v1 (aj p1 (itn v0)).all))) none) none) (some (Sum.inr v1))
def Gp:fE:=LSh.spec ⟨169,[(26,.int .i64),(25,.ro .bts)],[],[],[(27,.int .i64),(6,.buf .u8)],[],[]⟩ [⟨.exit 2,[(6,.buf .u8)],[],[]⟩] (sP [(6,1),(8,1),(27,8)]) (fun p v=>jl p.1 p.2 v.1 v.2)
def jP (x0:(List Oz)):Option ((List Int)):=af (bM (fun v=>kW (len x0) x0 v.1 v.2) LF (0,0)) fun y0=>cnd (ilt y0 0) none (cnd (ilt 0 (wr .i64 (aB y0 0))) (cnd (band (ilt 0 (wr .i64 (aB y0 0))) (ile (wr .i64 (aB y0 0)) 68719476736)) (cnd (ile 0 (len (jY Int (itn (wr .i64 (aB y0 0)))))) (af (bM (fun v=>jl (len x0) x0 v.1 v.2) LF (0,ay (jY Int (itn (wr .i64 (aB y0 0)))) 0)) fun y1=>some y1) none) none) (af (bM (fun v=>jl (len x0) x0 v.1 v.2) LF (0,[])) fun y2=>some y2))
def zK:aI:=mkSpec [.ro .bts] [.buf .u8] true (fun x=>jP x)
theorem Ld:dm PG 220 zK:=okP [] [285] [(220,58,H6),(220,250,Gp)] trivial (fun K=>⟨mg K fun p v=>by kernel_rfl,mg K fun p v=>by kernel_rfl,trivial⟩) fun x=>by kernel_rfl
def gV (x0:ah) (x1:(List UInt8)) (x2:(List Int)):Option (ah×Int):=af (jb x0 [x1]) fun y0=>cnd (ax (ieq y0 0)) (some (x0,y0)) (af (dP x0 x1) fun y1=>af (Dh x0) fun y2=>cnd (bor (ilt (wr .i64 (aB x0.room y2)) (len x2)) (band (ax y1.2) (ieq (len x0.files) 64))) (some (x0,6)) (af (aK x0.files) fun y3=>cnd (ax y1.2) (af (bg y3 y1.1 [aA.mk x1 [] 0]) fun y4=>cnd (band (ile 0 y1.1) (ilt y1.1 (len y4))) (af (jP [Oz.mk (aj y4 (itn y1.1)).data,Oz.mk x2]) fun y5=>cnd (band (ile 0 y1.1) (ilt y1.1 (len y4))) (cnd (ieq x0.fuse 0) (some (ah.mk (aY y4 (itn y1.1) (aA.mk (aj y4 (itn y1.1)).name y5 (aj y4 (itn y1.1)).sure)) x0.room x0.fuse true,9)) (cnd (ieq x0.fuse (-1)) (some (ah.mk (aY y4 (itn y1.1) (aA.mk (aj y4 (itn y1.1)).name y5 (aj y4 (itn y1.1)).sure)) x0.room x0.fuse x0.down,0)) (some (ah.mk (aY y4 (itn y1.1) (aA.mk (aj y4 (itn y1.1)).name y5 (aj y4 (itn y1.1)).sure)) x0.room (wr .i64 (aB x0.fuse 1)) x0.down,0)))) none) none) (cnd (band (ile 0 y1.1) (ilt y1.1 (len y3))) (af (jP [Oz.mk (aj y3 (itn y1.1)).data,Oz.mk x2]) fun y6=>cnd (band (ile 0 y1.1) (ilt y1.1 (len y3))) (cnd (ieq x0.fuse 0) (some (ah.mk (aY y3 (itn y1.1) (aA.mk (aj y3 (itn y1.1)).name y6 (aj y3 (itn y1.1)).sure)) x0.room x0.fuse true,9)) (cnd (ieq x0.fuse (-1)) (some (ah.mk (aY y3 (itn y1.1) (aA.mk (aj y3 (itn y1.1)).name y6 (aj y3 (itn y1.1)).sure)) x0.room x0.fuse x0.down,0)) (some (ah.mk (aY y3 (itn y1.1) (aA.mk (aj y3 (itn y1.1)).name y6 (aj y3 (itn y1.1)).sure)) x0.room (wr .i64 (aB x0.fuse 1)) x0.down,0)))) none) none)))
def xA:aI:=mkSpec [.val .disk,.str,.ro .u8] [.val .disk,.int .i64] false (fun x=>gV x.1 x.2.1 x.2.2)
theorem FD:dm PG 140 xA:=okN [(216,nP),(217,oZ),(218,LJ),(80,iT),(219,nS),(220,zK)] [221] ⟨uj,xg,aa5,kG,xR,Ld,trivial⟩ fun x=>by kernel_rfl
def iM (x0:ah) (x1:(List UInt8)):Option (ah×Int):=af (jb x0 [x1]) fun y0=>cnd (ax (ieq y0 0)) (cnd (ax (ieq y0 0)) (some (x0,y0)) (cnd (ieq x0.fuse 0) (some (ah.mk x0.files x0.room x0.fuse true,9)) (cnd (ieq x0.fuse (-1)) (af (aK x0.files) fun y1=>cnd (ilt 0 (len y1)) (cnd (ilt 0 (len y1)) (some (ah.mk (aY y1 0 (aA.mk (aj y1 0).name (aj y1 0).data (len (aj y1 0).data))) x0.room x0.fuse x0.down,0)) none) none) (af (aK x0.files) fun y2=>cnd (ilt 0 (len y2)) (cnd (ilt 0 (len y2)) (some (ah.mk (aY y2 0 (aA.mk (aj y2 0).name (aj y2 0).data (len (aj y2 0).data))) x0.room (wr .i64 (aB x0.fuse 1)) x0.down,0)) none) none)))) (af (dP x0 x1) fun y3=>cnd (ax y3.2) (some (x0,7)) (cnd (ieq x0.fuse 0) (some (ah.mk x0.files x0.room x0.fuse true,9)) (cnd (ieq x0.fuse (-1)) (af (aK x0.files) fun y4=>cnd (band (ile 0 y3.1) (ilt y3.1 (len y4))) (cnd (band (ile 0 y3.1) (ilt y3.1 (len y4))) (some (ah.mk (aY y4 (itn y3.1) (aA.mk (aj y4 (itn y3.1)).name (aj y4 (itn y3.1)).data (len (aj y4 (itn y3.1)).data))) x0.room x0.fuse x0.down,0)) none) none) (af (aK x0.files) fun y5=>cnd (band (ile 0 y3.1) (ilt y3.1 (len y5))) (cnd (band (ile 0 y3.1) (ilt y3.1 (len y5))) (some (ah.mk (aY y5 (itn y3.1) (aA.mk (aj y5 (itn y3.1)).name (aj y5 (itn y3.1)).data (len (aj y5 (itn y3.1)).data))) x0.room (wr .i64 (aB x0.fuse 1)) x0.down,0)) none) none))))
def Af:aI:=mkSpec [.val .disk,.str] [.val .disk,.int .i64] false (fun x=>iM x.1 x.2)
theorem JM:dm PG 142 Af:=okN [(216,nP),(217,oZ),(80,iT)] [214,221] ⟨uj,xg,kG,trivial⟩ fun x=>by kernel_rfl
def pX (v0:Int) (v1:ah) (v2:dZ) (v3:ah) (v4:dZ):Option ((Int×ah×dZ×ah×dZ) ⊕ ((Int×ah×dZ×ah×dZ) ⊕ ((Int×ah×dZ×ah×dZ)))):=cnd (ilt 0 (len v4.wait)) (cnd (bor (ieq v4.seg 0) (ieq v4.count 8)) (cnd (band (ile 0 (fJ (len v4.wait) 8)) (ile (fJ (len v4.wait) 8) (len v4.wait))) (af (wV (ay v4.wait (itn (fJ (len v4.wait) 8)))) fun y0=>af (iQ (wr .i64 (au v4.sure 1))) fun y1=>af (gV v3 y1 y0.1) fun y2=>cnd (ieq y2.2 0) (af (iQ (wr .i64 (au v4.sure 1))) fun y3=>af (iM y2.1 y3) fun y4=>cnd (ax (ieq y4.2 0)) (some (Sum.inr (Sum.inl (y4.2,y4.1,v4,y4.1,v4)))) (cnd (band (ile 0 (fJ (len v4.wait) 8)) (ile (fJ (len v4.wait) 8) (len v4.wait))) (af (cO (aF v4.wait (itn (fJ (len v4.wait) 8)))) fun y5=>some (Sum.inl (v0,v1,v2,y4.1,dZ.mk v4.epoch v4.next (wr .i64 (au v4.sure (fJ (len v4.wait) 8))) (wr .i64 (au v4.sure 1)) (wr .i64 (au 0 (fJ (len v4.wait) 8))) y5))) none)) (cnd (ax (ieq y2.2 0)) (some (Sum.inr (Sum.inl (y2.2,y2.1,v4,y2.1,v4)))) (cnd (band (ile 0 (fJ (len v4.wait) 8)) (ile (fJ (len v4.wait) 8) (len v4.wait))) (af (cO (aF v4.wait (itn (fJ (len v4.wait) 8)))) fun y6=>some (Sum.inl (v0,v1,v2,y2.1,dZ.mk v4.epoch v4.next (wr .i64 (au v4.sure (fJ (len v4.wait) 8))) (wr .i64 (au v4.sure 1)) (wr .i64 (au 0 (fJ (len v4.wait) 8))) y6))) none))) none) (cnd (band (ile 0 (fJ (len v4.wait) (wr .i64 (aB 8 v4.count)))) (ile (fJ (len v4.wait) (wr .i64 (aB 8 v4.count))) (len v4.wait))) (af (wV (ay v4.wait (itn (fJ (len v4.wait) (wr .i64 (aB 8 v4.count)))))) fun y7=>af (iQ v4.seg) fun y8=>af (gV v3 y8 y7.1) fun y9=>cnd (ieq y9.2 0) (af (iQ v4.seg) fun y10=>af (iM y9.1 y10) fun y11=>cnd (ax (ieq y11.2 0)) (some (Sum.inr (Sum.inl (y11.2,y11.1,v4,y11.1,v4)))) (cnd (band (ile 0 (fJ (len v4.wait) (wr .i64 (aB 8 v4.count)))) (ile (fJ (len v4.wait) (wr .i64 (aB 8 v4.count))) (len v4.wait))) (af (cO (aF v4.wait (itn (fJ (len v4.wait) (wr .i64 (aB 8 v4.count)))))) fun y12=>some (Sum.inl (v0,v1,v2,y11.1,dZ.mk v4.epoch v4.next (wr .i64 (au v4.sure (fJ (len v4.wait) (wr .i64 (aB 8 v4.count))))) v4.seg (wr .i64 (au v4.count (fJ (len v4.wait) (wr .i64 (aB 8 v4.count))))) y12))) none)) (cnd (ax (ieq y9.2 0)) (some (Sum.inr (Sum.inl (y9.2,y9.1,v4,y9.1,v4)))) (cnd (band (ile 0 (fJ (len v4.wait) (wr .i64 (aB 8 v4.count)))) (ile (fJ (len v4.wait) (wr .i64 (aB 8 v4.count))) (len v4.wait))) (af (cO (aF v4.wait (itn (fJ (len v4.wait) (wr .i64 (aB 8 v4.count)))))) fun y13=>some (Sum.inl (v0,v1,v2,y9.1,dZ.mk v4.epoch v4.next (wr .i64 (au v4.sure (fJ (len v4.wait) (wr .i64 (aB 8 v4.count))))) v4.seg (wr .i64 (au v4.count (fJ (len v4.wait) (wr .i64 (aB 8 v4.count))))) y13))) none))) none)) (some (Sum.inr (Sum.inr (v0,v1,v2,v3,v4))))
def Tq:fE:=LSh.spec ⟨75,[],[(5,.mp 40 0),(4,.mp 32 0),(3,.mp 24 0),(2,.mp 16 0)],[],[(6,.int .i64)],[(40,[.val .disk]),(32,[.val .wal]),(24,[.val .disk]),(16,[.val .wal])],[]⟩ [⟨.ret,[(6,.int .i64)],[(40,[.val .disk]),(32,[.val .wal]),(24,[.val .disk]),(16,[.val .wal])],[]⟩,⟨.exit 0,[(6,.int .i64)],[(40,[.val .disk]),(32,[.val .wal]),(24,[.val .disk]),(16,[.val .wal])],[]⟩] (sP [(6,8),(20,71)]) (fun p v=>pX v.1 v.2.1 v.2.2.1 v.2.2.2.1 v.2.2.2.2)
def xw (x0:dZ) (x1:ah):Option (dZ×ah×Int):=af (zl x0 x1) fun y0=>cnd (ax y0) (some (x0,x1,1)) (af (bM (fun v=>pX v.1 v.2.1 v.2.2.1 v.2.2.2.1 v.2.2.2.2) LF (0,ah.mk [] 0 0 false,dZ.mk 0 0 0 0 0 [],x1,x0)) fun y1=>jB y1 (fun y2=>some (y2.2.2.1,y2.2.1,y2.1)) fun y2=>some (y2.2.2.2.2,y2.2.2.2.1,0))
def KO:aI:=mkSpec [.val .wal,.val .disk] [.val .wal,.val .disk,.int .i64] false (fun x=>xw x.1 x.2)
theorem YK:dm PG 124 KO:=okP [(149,Ht),(196,O3),(151,Il),(140,xA),(142,Af),(189,oz)] [] [(124,28,Tq)] ⟨Vh,ac1,LG,FD,JM,xP,trivial⟩ (fun K=>⟨mg K fun p v=>by kernel_rfl,trivial⟩) fun x=>by kernel_rfl
def qh (x0:aN):Option (aN):=some (aN.mk x0.disk x0.wal x0.state [] (mY.mk [] false) x0.gen false)
def Ah:aI:=mkSpec [.val .gate] [.val .gate] false (fun x=>qh x)
theorem JH:dm PG 72 Ah:=okN [] [] trivial fun x=>by kernel_rfl
def o6 (x0:aN):Option (aN×Int):=af (xw x0.wal x0.disk) fun y0=>cnd y0.2.1.down (af (qh (aN.mk y0.2.1 y0.1 x0.state x0.outbox x0.feed x0.gen x0.up)) fun y1=>some (y1,y0.2.2)) (some (aN.mk y0.2.1 y0.1 x0.state x0.outbox x0.feed x0.gen x0.up,y0.2.2))
def Bg:aI:=mkSpec [.val .gate] [.val .gate,.int .i64] false (fun x=>o6 x)
theorem KJ:dm PG 66 Bg:=okN [(124,KO),(72,Ah)] [4095] ⟨YK,JH,trivial⟩ fun x=>by kernel_rfl
def dD (p0:Int) (p1:(List kM)) (p2:Int) (v0:Int) (v1:Int):Option ((Int×Int) ⊕ ((Int) ⊕ ((Int)))):=cnd (ilt v0 p0) (cnd (band (ile 0 v0) (ilt v0 (len p1))) (cnd (ilt p2 (aj p1 (itn v0)).lsn) (some (Sum.inr (Sum.inl v0))) (some (Sum.inl (wr .i64 (au v0 1),v1)))) none) (some (Sum.inr (Sum.inr v1)))
def qO:fE:=LSh.spec ⟨77,[(7,.int .i64),(0,.ro .msg)],[(1,.fn 126 [.mp 16 0])],[(16,[.int .i64])],[(8,.int .i64),(4,.int .i64)],[],[]⟩ [⟨.ret,[(4,.int .i64)],[],[]⟩,⟨.exit 0,[(4,.int .i64)],[],[]⟩] (sP [(4,2),(8,11)]) (fun p v=>dD p.1 p.2.1 p.2.2 v.1 v.2)
def rO (x0:(List kM)) (x1:Int):Option ((List kM)×(List kM)):=af (bM (fun v=>dD (len x0) x0 x1 v.1 v.2) LF (0,0)) fun y0=>jB y0 (fun y1=>cnd (ilt y1 0) (cnd (band (ile 0 (len x0)) (ile (len x0) (len x0))) (af (dU (ay x0 (itn (len x0)))) fun y2=>cnd (band (ile 0 (len x0)) (ile (len x0) (len x0))) (af (dU (aF x0 (itn (len x0)))) fun y3=>some (y2,y3)) none) none) (cnd (band (ile 0 y1) (ile y1 (len x0))) (af (dU (ay x0 (itn y1))) fun y4=>cnd (band (ile 0 y1) (ile y1 (len x0))) (af (dU (aF x0 (itn y1))) fun y5=>some (y4,y5)) none) none)) fun y1=>cnd (band (ile 0 (len x0)) (ile (len x0) (len x0))) (af (dU (ay x0 (itn (len x0)))) fun y6=>cnd (band (ile 0 (len x0)) (ile (len x0) (len x0))) (af (dU (aF x0 (itn (len x0)))) fun y7=>some (y6,y7)) none) none
def GU:aI:=mkSpec [.ro .msg,.int .i64] [.buf .msg,.buf .msg] true (fun x=>rO x.1 x.2)
theorem Vr:dm PG 67 GU:=okP [(57,pJ)] [126,125] [(287762845821,26,qO)] ⟨zy,trivial⟩ (fun K=>⟨mg K fun p v=>by kernel_rfl,trivial⟩) fun x=>by kernel_rfl
def nX (x0:aN):Option (aN×(List kM)×Int):=af (nZ x0) fun y0=>cnd (ax (ieq y0 0)) (some (x0,[],y0)) (af (o6 x0) fun y1=>cnd (ax y1.1.up) (some (y1.1,[],y1.2)) (af (rO y1.1.outbox y1.1.wal.sure) fun y2=>some (aN.mk y1.1.disk y1.1.wal y1.1.state y2.2 y1.1.feed y1.1.gen y1.1.up,y2.1,y1.2)))
def tK:aI:=mkSpec [.val .gate] [.val .gate,.buf .msg,.int .i64] false (fun x=>nX x)
theorem CU:dm PG 17 tK:=okN [(54,uh),(66,Bg),(67,GU)] [4095] ⟨C9,KJ,Vr,trivial⟩ fun x=>by kernel_rfl
def BP (x0:aC) (x1:jm):Option (Int):=af (zH x0 x1) fun y0=>some y0.2
def O0:aI:=mkSpec [.val .state,.val .recd] [.int .i64] true (fun x=>BP x.1 x.2)
theorem acG:dm PG 71 O0:=okN [(79,JG)] [] ⟨Xh,trivial⟩ fun x=>by kernel_rfl
def vO (x0:aN) (x1:jm):Option (aN×(List kM)×Int):=af (nZ x0) fun y0=>cnd (ax (ieq y0 0)) (some (x0,[],y0)) (cnd (band (ax (ieq x1.kind 4)) (ax (ieq x1.kind 5))) (some (x0,[],1)) (af (BP x0.state x1) fun y1=>cnd (ax (ieq y1 0)) (some (x0,[],y1)) (af (nX x0) fun y2=>cnd (ax (ieq y2.2.2 0)) (some y2) (af (qf y2.1 x1) fun y3=>cnd (ax (ieq y3.2 0)) (some (y2.1,y2.2.1,y3.2)) (af (o6 y3.1) fun y4=>cnd (ieq y4.2 0) (some (y4.1,y2.2.1,0)) (cnd y4.1.up (some (y2.1,y2.2.1,y4.2)) (af (qh (aN.mk y4.1.disk y2.1.wal y2.1.state y2.1.outbox y2.1.feed y2.1.gen y2.1.up)) fun y5=>some (y5,y2.2.1,y4.2))))))))
def FB:aI:=mkSpec [.val .gate,.val .recd] [.val .gate,.buf .msg,.int .i64] false (fun x=>vO x.1 x.2)
theorem QY:dm PG 20 FB:=okN [(54,uh),(71,O0),(17,tK),(55,yU),(66,Bg),(72,Ah)] [4095] ⟨C9,acG,CU,Io,KJ,JH,trivial⟩ fun x=>by kernel_rfl
def JO (x0:Int) (x1:Int) (x2:Int):Option (Int):=some (wr .i64 (au (wr .i64 (au (wr .i64 (au (wr .i64 (au 32 (wr .i64 (gu x2 61)))) (wr .i64 (gu (wr .i64 (gu x0 x1)) 32)))) (wr .i64 (gu x0 8)))) 4))
def O6:aI:=mkSpec [.int .i64,.int .i64,.int .i64] [.int .i64] true (fun x=>JO x.1 x.2.1 x.2.2)
theorem adB:dm PG 276 O6:=okN [] [] trivial fun x=>by kernel_rfl
def BK (x0:aC):Option (Int):=af (nT x0) fun y0=>cnd (ax y0) (some 0) (af (JO x0.accounts x0.symbols (len x0.orders)) fun y1=>some y1)
def OO:aI:=mkSpec [.val .state] [.int .i64] true (fun x=>BK x)
theorem adz:dm PG 207 OO:=okN [(37,tX),(276,O6)] [] ⟨CV,adB,trivial⟩ fun x=>by kernel_rfl
def Ob (x0:Bool):Option (Int):=cnd x0 (some 1) (some 0)
def SX:aI:=mkSpec [.bool] [.int .i64] true (fun x=>Ob x)
theorem aeF:dm PG 209 SX:=okN [] [] trivial fun x=>by kernel_rfl
def o9 (p0:Int) (v0:Int) (v1:(List Int)):Option ((Int×(List Int)) ⊕ (((List Int)))):=cnd (ile 0 v0) (cnd (ile 0 (wr .i64 (gu 8 v0))) (cnd (ile (len (dB v1 [wr .u8 (bP .i64 p0 (wr .i64 (gu 8 v0)))])) 68719476736) (some (Sum.inl (wr .i64 (aB v0 1),dB v1 [wr .u8 (bP .i64 p0 (wr .i64 (gu 8 v0)))]))) none) none) (some (Sum.inr v1))
def OE:fE:=LSh.spec ⟨144,[(8,.int .i64)],[],[],[(9,.int .i64),(0,.buf .u8)],[],[]⟩ [⟨.exit 2,[(0,.buf .u8)],[],[]⟩] (sP [(0,1),(9,1),(18,12)]) (fun p v=>o9 p v.1 v.2)
def xq (p0:Int) (p1:(List Int)) (p2:Int) (v0:Int) (v1:(List Int)):Option ((Int×(List Int)) ⊕ (((List Int)))):=cnd (ilt v0 p0) (cnd (band (ile 0 v0) (ilt v0 (len p1))) (af (bM (fun v=>o9 (aj p1 (itn v0)) v.1 v.2) LF (wr .i64 (aB p2 1),v1)) fun y0=>some (Sum.inl (wr .i64 (au v0 1),y0))) none) (some (Sum.inr v1))
def RX:fE:=LSh.spec ⟨71,[(11,.int .i64),(10,.ro .i64),(1,.int .i64)],[],[],[(12,.int .i64),(0,.buf .u8)],[],[]⟩ [⟨.exit 0,[(0,.buf .u8)],[],[]⟩] (sP [(0,1),(8,2),(12,19)]) (fun p v=>xq p.1 p.2.1 p.2.2 v.1 v.2)
def qL (x0:(List Int)) (x1:Int) (x2:(List Int)):Option ((List Int)):=af (bM (fun v=>xq (len x2) x2 x1 v.1 v.2) LF (0,x0)) fun y0=>some y0
def Jb:aI:=mkSpec [.buf .u8,.int .i64,.ro .i64] [.buf .u8] true (fun x=>qL x.1 x.2.1 x.2.2)
theorem Yh:dm PG 208 Jb:=okP [] [] [(208,6758,OE),(208,26,RX)] trivial (fun K=>⟨mg K fun p v=>by kernel_rfl,mg K fun p v=>by kernel_rfl,trivial⟩) fun x=>by kernel_rfl
def DI (p0:Int) (v0:Int) (v1:(List Int)):Option ((Int×(List Int)) ⊕ (((List Int)))):=cnd (ile 0 v0) (cnd (ile 0 (wr .i64 (gu 8 v0))) (cnd (ile (len (dB v1 [wr .u8 (bP .i64 p0 (wr .i64 (gu 8 v0)))])) 68719476736) (some (Sum.inl (wr .i64 (aB v0 1),dB v1 [wr .u8 (bP .i64 p0 (wr .i64 (gu 8 v0)))]))) none) none) (some (Sum.inr v1))
def KQ:fE:=LSh.spec ⟨144,[(8,.int .i64)],[],[],[(9,.int .i64),(0,.buf .u8)],[],[]⟩ [⟨.exit 2,[(0,.buf .u8)],[],[]⟩] (sP [(0,1),(9,1),(18,12)]) (fun p v=>DI p v.1 v.2)
def FV (p0:Int) (p1:(List Int)) (p2:Int) (v0:Int) (v1:(List Int)):Option ((Int×(List Int)) ⊕ (((List Int)))):=cnd (ilt v0 p0) (cnd (band (ile 0 v0) (ilt v0 (len p1))) (af (bM (fun v=>DI (aj p1 (itn v0)) v.1 v.2) LF (wr .i64 (aB p2 1),v1)) fun y0=>some (Sum.inl (wr .i64 (au v0 1),y0))) none) (some (Sum.inr v1))
def OH:fE:=LSh.spec ⟨71,[(11,.int .i64),(10,.ro .i64),(1,.int .i64)],[],[],[(12,.int .i64),(0,.buf .u8)],[],[]⟩ [⟨.exit 0,[(0,.buf .u8)],[],[]⟩] (sP [(0,1),(8,2),(12,19)]) (fun p v=>FV p.1 p.2.1 p.2.2 v.1 v.2)
def kL (x0:(List Int)) (x1:Int) (x2:(List Int)):Option ((List Int)):=af (bM (fun v=>FV (len x2) x2 x1 v.1 v.2) LF (0,x0)) fun y0=>some y0
def EZ:aI:=mkSpec [.buf .u8,.int .i64,.ro .i64] [.buf .u8] true (fun x=>kL x.1 x.2.1 x.2.2)
theorem UA:dm PG 210 EZ:=okP [] [] [(210,6758,KQ),(210,26,OH)] trivial (fun K=>⟨mg K fun p v=>by kernel_rfl,mg K fun p v=>by kernel_rfl,trivial⟩) fun x=>by kernel_rfl
def uF (p0:Int) (p1:(List aG)) (v0:Int) (v1:(List Int)):Option ((Int×(List Int)) ⊕ (((List Int)))):=cnd (ilt v0 p0) (cnd (band (ile 0 v0) (ilt v0 (len p1))) (af (kL v1 8 [(aj p1 (itn v0)).id]) fun y0=>af (qL y0 1 [(aj p1 (itn v0)).account,(aj p1 (itn v0)).symbol,(aj p1 (itn v0)).side,(aj p1 (itn v0)).phase]) fun y1=>af (kL y1 8 [(aj p1 (itn v0)).qty,(aj p1 (itn v0)).price,(aj p1 (itn v0)).filled,(aj p1 (itn v0)).newQty,(aj p1 (itn v0)).newPrice,(aj p1 (itn v0)).version]) fun y2=>af (Ob (aj p1 (itn v0)).asked) fun y3=>af (qL y2 1 [y3]) fun y4=>some (Sum.inl (wr .i64 (au v0 1),y4))) none) (some (Sum.inr v1))
def Px:fE:=LSh.spec ⟨105,[(45,.int .i64),(44,.ro .order)],[],[],[(46,.int .i64),(5,.buf .u8)],[],[]⟩ [⟨.exit 0,[(5,.buf .u8)],[],[]⟩] (sP [(5,1),(7,1),(46,42)]) (fun p v=>uF p.1 p.2 v.1 v.2)
def uG (p0:Int) (p1:(List bC)) (v0:Int) (v1:(List Int)):Option ((Int×(List Int)) ⊕ (((List Int)))):=cnd (ilt v0 p0) (cnd (band (ile 0 v0) (ilt v0 (len p1))) (af (kL v1 8 [(aj p1 (itn v0)).pos]) fun y0=>some (Sum.inl (wr .i64 (au v0 1),y0))) none) (some (Sum.inr v1))
def Ql:fE:=LSh.spec ⟨176,[(90,.int .i64),(89,.ro .cell)],[],[],[(91,.int .i64),(5,.buf .u8)],[],[]⟩ [⟨.exit 2,[(5,.buf .u8)],[],[]⟩] (sP [(5,1),(9,1),(91,10)]) (fun p v=>uG p.1 p.2 v.1 v.2)
def uX (p0:Int) (p1:(List jL)) (v0:Int) (v1:(List Int)):Option ((Int×(List Int)) ⊕ (((List Int)))):=cnd (ilt v0 p0) (cnd (band (ile 0 v0) (ilt v0 (len p1))) (af (kL v1 8 [(aj p1 (itn v0)).long,(aj p1 (itn v0)).short,(aj p1 (itn v0)).opn]) fun y0=>some (Sum.inl (wr .i64 (au v0 1),y0))) none) (some (Sum.inr v1))
def PN:fE:=LSh.spec ⟨247,[(103,.int .i64),(102,.ro .expo)],[],[],[(104,.int .i64),(5,.buf .u8)],[],[]⟩ [⟨.exit 4,[(5,.buf .u8)],[],[]⟩] (sP [(5,1),(11,1),(104,14)]) (fun p v=>uX p.1 p.2 v.1 v.2)
def tC (p0:Int) (v0:Int) (v1:(List Int)):Option ((Int×(List Int)) ⊕ (((List Int)))):=cnd (ilt v0 4) (cnd (ile 0 (wr .i64 (gu 8 v0))) (cnd (ile (len (dB v1 [wr .u8 (bP .u32 p0 (wr .i64 (gu 8 v0)))])) 68719476736) (some (Sum.inl (wr .i64 (au v0 1),dB v1 [wr .u8 (bP .u32 p0 (wr .i64 (gu 8 v0)))]))) none) none) (some (Sum.inr v1))
def Oy:fE:=LSh.spec ⟨323,[(12,.int .u32)],[],[],[(124,.int .i64),(5,.buf .u8)],[],[]⟩ [⟨.exit 6,[(5,.buf .u8)],[],[]⟩] (sP [(5,1),(13,1),(124,12)]) (fun p v=>tC p v.1 v.2)
def sU (x0:aC):Option ((List Int)×Int):=af (BK x0) fun y0=>cnd (ieq y0 0) (some ([],1)) (cnd (band (ile 0 y0) (ile y0 68719476736)) (af (Ob x0.kill) fun y1=>af (qL (dB (jY Int 0) (s2u [(UInt8.ofNat 115),(UInt8.ofNat 110),(UInt8.ofNat 97),(UInt8.ofNat 102)])) 1 [x0.accounts,x0.symbols,y1,len x0.orders]) fun y2=>af (kL y2 8 [x0.last,x0.seq,x0.lsn]) fun y3=>af (bM (fun v=>uF (len x0.orders) x0.orders v.1 v.2) LF (0,y3)) fun y4=>af (bM (fun v=>uG (len x0.cells) x0.cells v.1 v.2) LF (0,y4)) fun y5=>af (bM (fun v=>uX (len x0.limits) x0.limits v.1 v.2) LF (0,y5)) fun y6=>af (kL y6 8 x0.caps) fun y7=>af (Je y7) fun y8=>af (bM (fun v=>tC y8 v.1 v.2) LF (0,y7)) fun y9=>some (y9,0)) none)
def KC:aI:=mkSpec [.val .state] [.buf .u8,.int .i64] true (fun x=>sU x)
theorem Y0:dm PG 134 KC:=okP [(207,OO),(209,SX),(208,Jb),(210,EZ),(211,Js)] [] [(134,1018,Px),(134,2042,Ql),(134,4090,PN),(134,32762,Oy)] ⟨adz,aeF,Yh,UA,XP,trivial⟩ (fun K=>⟨mg K fun p v=>by kernel_rfl,mg K fun p v=>by kernel_rfl,mg K fun p v=>by kernel_rfl,mg K fun p v=>by kernel_rfl,trivial⟩) fun x=>by kernel_rfl
def jZ (x0:Int):Option ((List UInt8)):=cnd (ieq (zY x0 2) 0) (some [(UInt8.ofNat 115),(UInt8.ofNat 108),(UInt8.ofNat 111),(UInt8.ofNat 116),(UInt8.ofNat 46),(UInt8.ofNat 48)]) (some [(UInt8.ofNat 115),(UInt8.ofNat 108),(UInt8.ofNat 111),(UInt8.ofNat 116),(UInt8.ofNat 46),(UInt8.ofNat 49)])
def Fb:aI:=mkSpec [.int .i64] [.str] true (fun x=>jZ x)
theorem SI:dm PG 212 Fb:=okN [] [] trivial fun x=>by kernel_rfl
def dN (x0:(List Int)):Option ((List Int)):=MG (len x0) fun y0=>cnd (beq y0 true) (some []) (cnd (ile (len x0) 68719476736) (some x0) none)
def su:aI:=mkSpec [.ro .u8] [.buf .u8] true (fun x=>dN x)
theorem Dy:dm PG 168 su:=okN [] [] trivial fun x=>by kernel_rfl
def lS (x0:ah) (x1:(List UInt8)):Option ((List Int)×Int):=af (jb x0 [x1]) fun y0=>cnd (ax (ieq y0 0)) (cnd (ax (ieq y0 0)) (some ([],y0)) (cnd (ilt 0 (len x0.files)) (af (dN (aj x0.files 0).data) fun y1=>some (y1,0)) none)) (af (dP x0 x1) fun y2=>cnd (ax y2.2) (some ([],7)) (cnd (band (ile 0 y2.1) (ilt y2.1 (len x0.files))) (af (dN (aj x0.files (itn y2.1)).data) fun y3=>some (y3,0)) none))
def Ar:aI:=mkSpec [.val .disk,.str] [.buf .u8,.int .i64] true (fun x=>lS x.1 x.2)
theorem J7:dm PG 136 Ar:=okN [(216,nP),(217,oZ),(168,su)] [214] ⟨uj,xg,Dy,trivial⟩ fun x=>by kernel_rfl
def ou (x0:eF):Option (acD):=af (dn (wr .u32 (mW .u32 (wr .u32 (gY .u32 4294967295 (wr .u32 (wr .u8 (bP .i64 x0.gen 56))))) 15))) fun y0=>af (dn (wr .u32 (mW .u32 (wr .u32 (gY .u32 y0 (bP .u32 (wr .u32 (gY .u32 4294967295 (wr .u32 (wr .u8 (bP .i64 x0.gen 56))))) 4))) 15))) fun y1=>let t8:=(wr .u32 (gY .u32 (wr .u32 (gY .u32 y1 (bP .u32 (wr .u32 (gY .u32 y0 (bP .u32 (wr .u32 (gY .u32 4294967295 (wr .u32 (wr .u8 (bP .i64 x0.gen 56))))) 4))) 4))) (wr .u32 (wr .u8 (bP .i64 x0.gen 48)))));af (dn (wr .u32 (mW .u32 t8 15))) fun y2=>af (dn (wr .u32 (mW .u32 (wr .u32 (gY .u32 y2 (bP .u32 t8 4))) 15))) fun y3=>let t5:=(wr .u32 (gY .u32 (wr .u32 (gY .u32 y3 (bP .u32 (wr .u32 (gY .u32 y2 (bP .u32 t8 4))) 4))) (wr .u32 (wr .u8 (bP .i64 x0.gen 40)))));af (dn (wr .u32 (mW .u32 t5 15))) fun y4=>af (dn (wr .u32 (mW .u32 (wr .u32 (gY .u32 y4 (bP .u32 t5 4))) 15))) fun y5=>let t14:=(wr .u32 (gY .u32 (wr .u32 (gY .u32 y5 (bP .u32 (wr .u32 (gY .u32 y4 (bP .u32 t5 4))) 4))) (wr .u32 (wr .u8 (bP .i64 x0.gen 32)))));af (dn (wr .u32 (mW .u32 t14 15))) fun y6=>af (dn (wr .u32 (mW .u32 (wr .u32 (gY .u32 y6 (bP .u32 t14 4))) 15))) fun y7=>let t1:=(wr .u32 (gY .u32 (wr .u32 (gY .u32 y7 (bP .u32 (wr .u32 (gY .u32 y6 (bP .u32 t14 4))) 4))) (wr .u32 (wr .u8 (bP .i64 x0.gen 24)))));af (dn (wr .u32 (mW .u32 t1 15))) fun y8=>af (dn (wr .u32 (mW .u32 (wr .u32 (gY .u32 y8 (bP .u32 t1 4))) 15))) fun y9=>let t15:=(wr .u32 (gY .u32 (wr .u32 (gY .u32 y9 (bP .u32 (wr .u32 (gY .u32 y8 (bP .u32 t1 4))) 4))) (wr .u32 (wr .u8 (bP .i64 x0.gen 16)))));af (dn (wr .u32 (mW .u32 t15 15))) fun y10=>af (dn (wr .u32 (mW .u32 (wr .u32 (gY .u32 y10 (bP .u32 t15 4))) 15))) fun y11=>let t7:=(wr .u32 (gY .u32 (wr .u32 (gY .u32 y11 (bP .u32 (wr .u32 (gY .u32 y10 (bP .u32 t15 4))) 4))) (wr .u32 (wr .u8 (bP .i64 x0.gen 8)))));af (dn (wr .u32 (mW .u32 t7 15))) fun y12=>af (dn (wr .u32 (mW .u32 (wr .u32 (gY .u32 y12 (bP .u32 t7 4))) 15))) fun y13=>let t3:=(wr .u32 (gY .u32 (wr .u32 (gY .u32 y13 (bP .u32 (wr .u32 (gY .u32 y12 (bP .u32 t7 4))) 4))) (wr .u32 (wr .u8 (bP .i64 x0.gen 0)))));af (dn (wr .u32 (mW .u32 t3 15))) fun y14=>af (dn (wr .u32 (mW .u32 (wr .u32 (gY .u32 y14 (bP .u32 t3 4))) 15))) fun y15=>let t10:=(wr .u32 (gY .u32 (wr .u32 (gY .u32 y15 (bP .u32 (wr .u32 (gY .u32 y14 (bP .u32 t3 4))) 4))) (wr .u32 (wr .u8 (bP .i64 x0.lsn 56)))));af (dn (wr .u32 (mW .u32 t10 15))) fun y16=>af (dn (wr .u32 (mW .u32 (wr .u32 (gY .u32 y16 (bP .u32 t10 4))) 15))) fun y17=>let t0:=(wr .u32 (gY .u32 (wr .u32 (gY .u32 y17 (bP .u32 (wr .u32 (gY .u32 y16 (bP .u32 t10 4))) 4))) (wr .u32 (wr .u8 (bP .i64 x0.lsn 48)))));af (dn (wr .u32 (mW .u32 t0 15))) fun y18=>af (dn (wr .u32 (mW .u32 (wr .u32 (gY .u32 y18 (bP .u32 t0 4))) 15))) fun y19=>let t11:=(wr .u32 (gY .u32 (wr .u32 (gY .u32 y19 (bP .u32 (wr .u32 (gY .u32 y18 (bP .u32 t0 4))) 4))) (wr .u32 (wr .u8 (bP .i64 x0.lsn 40)))));af (dn (wr .u32 (mW .u32 t11 15))) fun y20=>af (dn (wr .u32 (mW .u32 (wr .u32 (gY .u32 y20 (bP .u32 t11 4))) 15))) fun y21=>let t6:=(wr .u32 (gY .u32 (wr .u32 (gY .u32 y21 (bP .u32 (wr .u32 (gY .u32 y20 (bP .u32 t11 4))) 4))) (wr .u32 (wr .u8 (bP .i64 x0.lsn 32)))));af (dn (wr .u32 (mW .u32 t6 15))) fun y22=>af (dn (wr .u32 (mW .u32 (wr .u32 (gY .u32 y22 (bP .u32 t6 4))) 15))) fun y23=>let t12:=(wr .u32 (gY .u32 (wr .u32 (gY .u32 y23 (bP .u32 (wr .u32 (gY .u32 y22 (bP .u32 t6 4))) 4))) (wr .u32 (wr .u8 (bP .i64 x0.lsn 24)))));af (dn (wr .u32 (mW .u32 t12 15))) fun y24=>af (dn (wr .u32 (mW .u32 (wr .u32 (gY .u32 y24 (bP .u32 t12 4))) 15))) fun y25=>let t2:=(wr .u32 (gY .u32 (wr .u32 (gY .u32 y25 (bP .u32 (wr .u32 (gY .u32 y24 (bP .u32 t12 4))) 4))) (wr .u32 (wr .u8 (bP .i64 x0.lsn 16)))));af (dn (wr .u32 (mW .u32 t2 15))) fun y26=>af (dn (wr .u32 (mW .u32 (wr .u32 (gY .u32 y26 (bP .u32 t2 4))) 15))) fun y27=>let t13:=(wr .u32 (gY .u32 (wr .u32 (gY .u32 y27 (bP .u32 (wr .u32 (gY .u32 y26 (bP .u32 t2 4))) 4))) (wr .u32 (wr .u8 (bP .i64 x0.lsn 8)))));af (dn (wr .u32 (mW .u32 t13 15))) fun y28=>af (dn (wr .u32 (mW .u32 (wr .u32 (gY .u32 y28 (bP .u32 t13 4))) 15))) fun y29=>let t4:=(wr .u32 (gY .u32 (wr .u32 (gY .u32 y29 (bP .u32 (wr .u32 (gY .u32 y28 (bP .u32 t13 4))) 4))) (wr .u32 (wr .u8 (bP .i64 x0.lsn 0)))));af (dn (wr .u32 (mW .u32 t4 15))) fun y30=>af (dn (wr .u32 (mW .u32 (wr .u32 (gY .u32 y30 (bP .u32 t4 4))) 15))) fun y31=>let t9:=(wr .u32 (gY .u32 4294967295 (wr .u32 (gY .u32 y31 (bP .u32 (wr .u32 (gY .u32 y30 (bP .u32 t4 4))) 4)))));some (acD.mk (wr .u8 (bP .i64 x0.gen 56)) (wr .u8 (bP .i64 x0.gen 48)) (wr .u8 (bP .i64 x0.gen 40)) (wr .u8 (bP .i64 x0.gen 32)) (wr .u8 (bP .i64 x0.gen 24)) (wr .u8 (bP .i64 x0.gen 16)) (wr .u8 (bP .i64 x0.gen 8)) (wr .u8 (bP .i64 x0.gen 0)) (wr .u8 (bP .i64 x0.lsn 56)) (wr .u8 (bP .i64 x0.lsn 48)) (wr .u8 (bP .i64 x0.lsn 40)) (wr .u8 (bP .i64 x0.lsn 32)) (wr .u8 (bP .i64 x0.lsn 24)) (wr .u8 (bP .i64 x0.lsn 16)) (wr .u8 (bP .i64 x0.lsn 8)) (wr .u8 (bP .i64 x0.lsn 0)) (wr .u8 (bP .u32 t9 0)) (wr .u8 (bP .u32 t9 8)) (wr .u8 (bP .u32 t9 16)) (wr .u8 (bP .u32 t9 24)))
def Ef:aI:=mkSpec [.val .slot] [.val .a20] true (fun x=>ou x)
theorem Pg:dm PG 226 Ef:=okN [(310,Ij)] [211,277] ⟨U6,trivial⟩ fun x=>by kernel_rfl
def xu (x0:eF):Option (Bool):=some (band (band (band (ile 1 x0.gen) (ile x0.gen 1000000000)) (ile 0 x0.lsn)) (ile x0.lsn 1000000000))
def DZ:aI:=mkSpec [.val .slot] [.bool] true (fun x=>xu x)
theorem OM:dm PG 225 DZ:=okN [] [] trivial fun x=>by kernel_rfl
def mO (x0:(List Int)):Option (eF×Int):=cnd (ax (ieq (len x0) 20)) (some (eF.mk 0 0,2)) (cnd (ilt 0 (len x0)) (cnd (ilt 8 (len x0)) (cnd (ilt 1 (len x0)) (cnd (ilt 9 (len x0)) (cnd (ilt 2 (len x0)) (cnd (ilt 10 (len x0)) (cnd (ilt 3 (len x0)) (cnd (ilt 11 (len x0)) (cnd (ilt 4 (len x0)) (cnd (ilt 12 (len x0)) (cnd (ilt 5 (len x0)) (cnd (ilt 13 (len x0)) (cnd (ilt 6 (len x0)) (cnd (ilt 14 (len x0)) (cnd (ilt 7 (len x0)) (cnd (ilt 15 (len x0)) (af (ou (eF.mk (wr .i64 (ior .i64 (wr .i64 (oJ .i64 (wr .i64 (ior .i64 (wr .i64 (oJ .i64 (wr .i64 (ior .i64 (wr .i64 (oJ .i64 (wr .i64 (ior .i64 (wr .i64 (oJ .i64 (wr .i64 (ior .i64 (wr .i64 (oJ .i64 (wr .i64 (ior .i64 (wr .i64 (oJ .i64 (wr .i64 (ior .i64 (wr .i64 (oJ .i64 (wr .i64 (ior .i64 0 (wr .i64 (aj x0 0)))) 8)) (wr .i64 (aj x0 1)))) 8)) (wr .i64 (aj x0 2)))) 8)) (wr .i64 (aj x0 3)))) 8)) (wr .i64 (aj x0 4)))) 8)) (wr .i64 (aj x0 5)))) 8)) (wr .i64 (aj x0 6)))) 8)) (wr .i64 (aj x0 7)))) (wr .i64 (ior .i64 (wr .i64 (oJ .i64 (wr .i64 (ior .i64 (wr .i64 (oJ .i64 (wr .i64 (ior .i64 (wr .i64 (oJ .i64 (wr .i64 (ior .i64 (wr .i64 (oJ .i64 (wr .i64 (ior .i64 (wr .i64 (oJ .i64 (wr .i64 (ior .i64 (wr .i64 (oJ .i64 (wr .i64 (ior .i64 (wr .i64 (oJ .i64 (wr .i64 (ior .i64 0 (wr .i64 (aj x0 8)))) 8)) (wr .i64 (aj x0 9)))) 8)) (wr .i64 (aj x0 10)))) 8)) (wr .i64 (aj x0 11)))) 8)) (wr .i64 (aj x0 12)))) 8)) (wr .i64 (aj x0 13)))) 8)) (wr .i64 (aj x0 14)))) 8)) (wr .i64 (aj x0 15)))))) fun y0=>cnd (ile 20 (len x0)) (cnd (ax (band (ieq y0.a0 (aj x0 0)) (band (ieq y0.a1 (aj x0 1)) (band (ieq y0.a2 (aj x0 2)) (band (ieq y0.a3 (aj x0 3)) (band (ieq y0.a4 (aj x0 4)) (band (ieq y0.a5 (aj x0 5)) (band (ieq y0.a6 (aj x0 6)) (band (ieq y0.a7 (aj x0 7)) (band (ieq y0.a8 (aj x0 8)) (band (ieq y0.a9 (aj x0 9)) (band (ieq y0.a10 (aj x0 10)) (band (ieq y0.a11 (aj x0 11)) (band (ieq y0.a12 (aj x0 12)) (band (ieq y0.a13 (aj x0 13)) (band (ieq y0.a14 (aj x0 14)) (band (ieq y0.a15 (aj x0 15)) (band (ieq y0.a16 (aj x0 16)) (band (ieq y0.a17 (aj x0 17)) (band (ieq y0.a18 (aj x0 18)) (band (ieq y0.a19 (aj x0 19)) true))))))))))))))))))))) (some (eF.mk 0 0,10)) (af (xu (eF.mk (wr .i64 (ior .i64 (wr .i64 (oJ .i64 (wr .i64 (ior .i64 (wr .i64 (oJ .i64 (wr .i64 (ior .i64 (wr .i64 (oJ .i64 (wr .i64 (ior .i64 (wr .i64 (oJ .i64 (wr .i64 (ior .i64 (wr .i64 (oJ .i64 (wr .i64 (ior .i64 (wr .i64 (oJ .i64 (wr .i64 (ior .i64 (wr .i64 (oJ .i64 (wr .i64 (ior .i64 0 (wr .i64 (aj x0 0)))) 8)) (wr .i64 (aj x0 1)))) 8)) (wr .i64 (aj x0 2)))) 8)) (wr .i64 (aj x0 3)))) 8)) (wr .i64 (aj x0 4)))) 8)) (wr .i64 (aj x0 5)))) 8)) (wr .i64 (aj x0 6)))) 8)) (wr .i64 (aj x0 7)))) (wr .i64 (ior .i64 (wr .i64 (oJ .i64 (wr .i64 (ior .i64 (wr .i64 (oJ .i64 (wr .i64 (ior .i64 (wr .i64 (oJ .i64 (wr .i64 (ior .i64 (wr .i64 (oJ .i64 (wr .i64 (ior .i64 (wr .i64 (oJ .i64 (wr .i64 (ior .i64 (wr .i64 (oJ .i64 (wr .i64 (ior .i64 (wr .i64 (oJ .i64 (wr .i64 (ior .i64 0 (wr .i64 (aj x0 8)))) 8)) (wr .i64 (aj x0 9)))) 8)) (wr .i64 (aj x0 10)))) 8)) (wr .i64 (aj x0 11)))) 8)) (wr .i64 (aj x0 12)))) 8)) (wr .i64 (aj x0 13)))) 8)) (wr .i64 (aj x0 14)))) 8)) (wr .i64 (aj x0 15)))))) fun y1=>cnd (ax y1) (some (eF.mk 0 0,2)) (some (eF.mk (wr .i64 (ior .i64 (wr .i64 (oJ .i64 (wr .i64 (ior .i64 (wr .i64 (oJ .i64 (wr .i64 (ior .i64 (wr .i64 (oJ .i64 (wr .i64 (ior .i64 (wr .i64 (oJ .i64 (wr .i64 (ior .i64 (wr .i64 (oJ .i64 (wr .i64 (ior .i64 (wr .i64 (oJ .i64 (wr .i64 (ior .i64 (wr .i64 (oJ .i64 (wr .i64 (ior .i64 0 (wr .i64 (aj x0 0)))) 8)) (wr .i64 (aj x0 1)))) 8)) (wr .i64 (aj x0 2)))) 8)) (wr .i64 (aj x0 3)))) 8)) (wr .i64 (aj x0 4)))) 8)) (wr .i64 (aj x0 5)))) 8)) (wr .i64 (aj x0 6)))) 8)) (wr .i64 (aj x0 7)))) (wr .i64 (ior .i64 (wr .i64 (oJ .i64 (wr .i64 (ior .i64 (wr .i64 (oJ .i64 (wr .i64 (ior .i64 (wr .i64 (oJ .i64 (wr .i64 (ior .i64 (wr .i64 (oJ .i64 (wr .i64 (ior .i64 (wr .i64 (oJ .i64 (wr .i64 (ior .i64 (wr .i64 (oJ .i64 (wr .i64 (ior .i64 (wr .i64 (oJ .i64 (wr .i64 (ior .i64 0 (wr .i64 (aj x0 8)))) 8)) (wr .i64 (aj x0 9)))) 8)) (wr .i64 (aj x0 10)))) 8)) (wr .i64 (aj x0 11)))) 8)) (wr .i64 (aj x0 12)))) 8)) (wr .i64 (aj x0 13)))) 8)) (wr .i64 (aj x0 14)))) 8)) (wr .i64 (aj x0 15)))),0)))) none) none) none) none) none) none) none) none) none) none) none) none) none) none) none) none) none)
def I8:aI:=mkSpec [.ro .u8] [.val .slot,.int .i64] true (fun x=>mO x)
theorem XU:dm PG 213 I8:=okN [(226,Ef),(225,DZ)] [] ⟨Pg,OM,trivial⟩ fun x=>by kernel_rfl
def wu (x0:ah):Option (eF×Int):=af (mJ x0) fun y0=>cnd (ax y0) (some (eF.mk 0 0,1)) (cnd x0.down (some (eF.mk 0 0,9)) (af (jZ 0) fun y1=>af (lS x0 y1) fun y2=>af (mO y2.1) fun y3=>cnd (band (band (ieq y3.2 0) (ieq (zY y3.1.gen 2) 0)) (ilt 0 y3.1.gen)) (af (jZ 1) fun y4=>af (lS x0 y4) fun y5=>af (mO y5.1) fun y6=>cnd (band (band (ieq y6.2 0) (ieq (zY y6.1.gen 2) 1)) (ilt y3.1.gen y6.1.gen)) (cnd (ieq y6.1.gen 0) (some (eF.mk 0 0,7)) (some (y6.1,0))) (cnd (ieq y3.1.gen 0) (some (eF.mk 0 0,7)) (some (y3.1,0)))) (af (jZ 1) fun y7=>af (lS x0 y7) fun y8=>af (mO y8.1) fun y9=>cnd (band (band (ieq y9.2 0) (ieq (zY y9.1.gen 2) 1)) (ilt 0 y9.1.gen)) (cnd (ieq y9.1.gen 0) (some (eF.mk 0 0,7)) (some (y9.1,0))) (some (eF.mk 0 0,7)))))
def Fh:aI:=mkSpec [.val .disk] [.val .slot,.int .i64] true (fun x=>wu x)
theorem RZ:dm PG 135 Fh:=okN [(36,pW),(212,Fb),(136,Ar),(213,I8)] [] ⟨yH,SI,J7,XU,trivial⟩ fun x=>by kernel_rfl
def gQ (x0:Int):Option ((List UInt8)):=cnd (bor (ilt x0 1) (ilt 1000000000 x0)) (some []) (af (iO x0 10) fun y0=>af (jV [(UInt8.ofNat 48)] (wr .i64 (aB 10 (len y0)))) fun y1=>cnd (ile (au 5 (len y1)) 68719476736) (cnd (ile (au (len (dB [(UInt8.ofNat 115),(UInt8.ofNat 110),(UInt8.ofNat 97),(UInt8.ofNat 112),(UInt8.ofNat 46)] y1)) (len y0)) 68719476736) (some (dB (dB [(UInt8.ofNat 115),(UInt8.ofNat 110),(UInt8.ofNat 97),(UInt8.ofNat 112),(UInt8.ofNat 46)] y1) y0)) none) none)
def KN:aI:=mkSpec [.int .i64] [.str] true (fun x=>gQ x)
theorem O5:dm PG 145 KN:=okN [(223,sQ),(224,xU)] [] ⟨Dq,G9,trivial⟩ fun x=>by kernel_rfl
def kJ (x0:ah) (x1:(List UInt8)) (x2:(List UInt8)):Option (ah×Int):=cnd (ile (len (dB [x2] [x1])) 68719476736) (af (jb x0 (dB [x2] [x1])) fun y0=>cnd (ax (ieq y0 0)) (cnd (ax (ieq y0 0)) (some (x0,y0)) (cnd (ieq x0.fuse 0) (some (ah.mk x0.files x0.room x0.fuse true,9)) (cnd (ieq x0.fuse (-1)) (cnd (ilt 0 (len x0.files)) (af (aK x0.files) fun y1=>cnd (band (ile 1 (len y1)) (band (ile 1 (len y1)) (ile (len y1) (len y1)))) (cnd (ile 0 (len y1)) (cnd (ile 1 (len y1)) (cnd (ile (au 0 (len (ay (aF y1 1) (itn (aB (len y1) 1))))) (len y1)) (cnd (band (band (ile 0 (nti (nad 0 (itn (len (ay (aF y1 1) (itn (aB (len y1) 1)))))))) (ile (nti (nad 0 (itn (len (ay (aF y1 1) (itn (aB (len y1) 1))))))) (len y1))) (ile (len y1) (aB (len (eU y1 0 (ay (aF y1 1) (itn (aB (len y1) 1))))) 0))) (af (dP (ah.mk (ay (eU (eU y1 0 (ay (aF y1 1) (itn (aB (len y1) 1)))) (nad 0 (itn (nti (nad 0 (itn (len (ay (aF y1 1) (itn (aB (len y1) 1))))))))) (jY aA (itn (aB (len y1) (nti (nad 0 (itn (len (ay (aF y1 1) (itn (aB (len y1) 1))))))))))) (nad 0 (itn (len (ay (aF y1 1) (itn (aB (len y1) 1))))))) x0.room x0.fuse x0.down) x2) fun y2=>cnd y2.2 (cnd (band (ile 0 y2.1) (ilt y2.1 (len (ay (eU (eU y1 0 (ay (aF y1 1) (itn (aB (len y1) 1)))) (nad 0 (itn (nti (nad 0 (itn (len (ay (aF y1 1) (itn (aB (len y1) 1))))))))) (jY aA (itn (aB (len y1) (nti (nad 0 (itn (len (ay (aF y1 1) (itn (aB (len y1) 1))))))))))) (nad 0 (itn (len (ay (aF y1 1) (itn (aB (len y1) 1)))))))))) (some (ah.mk (aY (ay (eU (eU y1 0 (ay (aF y1 1) (itn (aB (len y1) 1)))) (nad 0 (itn (nti (nad 0 (itn (len (ay (aF y1 1) (itn (aB (len y1) 1))))))))) (jY aA (itn (aB (len y1) (nti (nad 0 (itn (len (ay (aF y1 1) (itn (aB (len y1) 1))))))))))) (nad 0 (itn (len (ay (aF y1 1) (itn (aB (len y1) 1))))))) (itn y2.1) (aA.mk x2 (aj x0.files 0).data (aj x0.files 0).sure)) x0.room x0.fuse x0.down,0)) none) (af (bg (ay (eU (eU y1 0 (ay (aF y1 1) (itn (aB (len y1) 1)))) (nad 0 (itn (nti (nad 0 (itn (len (ay (aF y1 1) (itn (aB (len y1) 1))))))))) (jY aA (itn (aB (len y1) (nti (nad 0 (itn (len (ay (aF y1 1) (itn (aB (len y1) 1))))))))))) (nad 0 (itn (len (ay (aF y1 1) (itn (aB (len y1) 1))))))) y2.1 [aA.mk x2 (aj x0.files 0).data (aj x0.files 0).sure]) fun y3=>some (ah.mk y3 x0.room x0.fuse x0.down,0))) none) none) none) none) none) none) (cnd (ilt 0 (len x0.files)) (af (aK x0.files) fun y4=>cnd (band (ile 1 (len y4)) (band (ile 1 (len y4)) (ile (len y4) (len y4)))) (cnd (ile 0 (len y4)) (cnd (ile 1 (len y4)) (cnd (ile (au 0 (len (ay (aF y4 1) (itn (aB (len y4) 1))))) (len y4)) (cnd (band (band (ile 0 (nti (nad 0 (itn (len (ay (aF y4 1) (itn (aB (len y4) 1)))))))) (ile (nti (nad 0 (itn (len (ay (aF y4 1) (itn (aB (len y4) 1))))))) (len y4))) (ile (len y4) (aB (len (eU y4 0 (ay (aF y4 1) (itn (aB (len y4) 1))))) 0))) (af (dP (ah.mk (ay (eU (eU y4 0 (ay (aF y4 1) (itn (aB (len y4) 1)))) (nad 0 (itn (nti (nad 0 (itn (len (ay (aF y4 1) (itn (aB (len y4) 1))))))))) (jY aA (itn (aB (len y4) (nti (nad 0 (itn (len (ay (aF y4 1) (itn (aB (len y4) 1))))))))))) (nad 0 (itn (len (ay (aF y4 1) (itn (aB (len y4) 1))))))) x0.room (wr .i64 (aB x0.fuse 1)) x0.down) x2) fun y5=>cnd y5.2 (cnd (band (ile 0 y5.1) (ilt y5.1 (len (ay (eU (eU y4 0 (ay (aF y4 1) (itn (aB (len y4) 1)))) (nad 0 (itn (nti (nad 0 (itn (len (ay (aF y4 1) (itn (aB (len y4) 1))))))))) (jY aA (itn (aB (len y4) (nti (nad 0 (itn (len (ay (aF y4 1) (itn (aB (len y4) 1))))))))))) (nad 0 (itn (len (ay (aF y4 1) (itn (aB (len y4) 1)))))))))) (some (ah.mk (aY (ay (eU (eU y4 0 (ay (aF y4 1) (itn (aB (len y4) 1)))) (nad 0 (itn (nti (nad 0 (itn (len (ay (aF y4 1) (itn (aB (len y4) 1))))))))) (jY aA (itn (aB (len y4) (nti (nad 0 (itn (len (ay (aF y4 1) (itn (aB (len y4) 1))))))))))) (nad 0 (itn (len (ay (aF y4 1) (itn (aB (len y4) 1))))))) (itn y5.1) (aA.mk x2 (aj x0.files 0).data (aj x0.files 0).sure)) x0.room (wr .i64 (aB x0.fuse 1)) x0.down,0)) none) (af (bg (ay (eU (eU y4 0 (ay (aF y4 1) (itn (aB (len y4) 1)))) (nad 0 (itn (nti (nad 0 (itn (len (ay (aF y4 1) (itn (aB (len y4) 1))))))))) (jY aA (itn (aB (len y4) (nti (nad 0 (itn (len (ay (aF y4 1) (itn (aB (len y4) 1))))))))))) (nad 0 (itn (len (ay (aF y4 1) (itn (aB (len y4) 1))))))) y5.1 [aA.mk x2 (aj x0.files 0).data (aj x0.files 0).sure]) fun y6=>some (ah.mk y6 x0.room (wr .i64 (aB x0.fuse 1)) x0.down,0))) none) none) none) none) none) none)))) (af (dP x0 x1) fun y7=>cnd (ax y7.2) (some (x0,7)) (cnd (ieq x0.fuse 0) (some (ah.mk x0.files x0.room x0.fuse true,9)) (cnd (ieq x0.fuse (-1)) (cnd (band (ile 0 y7.1) (ilt y7.1 (len x0.files))) (af (aK x0.files) fun y8=>cnd (band (band (band (ile 0 y7.1) (ile y7.1 (wr .i64 (au y7.1 1)))) (ile (wr .i64 (au y7.1 1)) (len y8))) (band (ile (wr .i64 (au y7.1 1)) (len y8)) (ile (len y8) (len y8)))) (cnd (ieq y7.1 (wr .i64 (au y7.1 1))) (af (dP (ah.mk y8 x0.room x0.fuse x0.down) x2) fun y9=>cnd y9.2 (cnd (band (ile 0 y9.1) (ilt y9.1 (len y8))) (some (ah.mk (aY y8 (itn y9.1) (aA.mk x2 (aj x0.files (itn y7.1)).data (aj x0.files (itn y7.1)).sure)) x0.room x0.fuse x0.down,0)) none) (af (bg y8 y9.1 [aA.mk x2 (aj x0.files (itn y7.1)).data (aj x0.files (itn y7.1)).sure]) fun y10=>some (ah.mk y10 x0.room x0.fuse x0.down,0))) (cnd (band (ile 0 y7.1) (ile y7.1 (len y8))) (cnd (band (ile 0 (wr .i64 (au y7.1 1))) (ile (wr .i64 (au y7.1 1)) (len y8))) (cnd (ile (au (nti (itn y7.1)) (len (ay (aF y8 (itn (wr .i64 (au y7.1 1)))) (itn (aB (len y8) (wr .i64 (au y7.1 1))))))) (len y8)) (cnd (band (band (ile 0 (nti (nad (itn y7.1) (itn (len (ay (aF y8 (itn (wr .i64 (au y7.1 1)))) (itn (aB (len y8) (wr .i64 (au y7.1 1)))))))))) (ile (nti (nad (itn y7.1) (itn (len (ay (aF y8 (itn (wr .i64 (au y7.1 1)))) (itn (aB (len y8) (wr .i64 (au y7.1 1))))))))) (len y8))) (ile (len y8) (aB (len (eU y8 (itn y7.1) (ay (aF y8 (itn (wr .i64 (au y7.1 1)))) (itn (aB (len y8) (wr .i64 (au y7.1 1))))))) 0))) (af (dP (ah.mk (ay (eU (eU y8 (itn y7.1) (ay (aF y8 (itn (wr .i64 (au y7.1 1)))) (itn (aB (len y8) (wr .i64 (au y7.1 1)))))) (nad 0 (itn (nti (nad (itn y7.1) (itn (len (ay (aF y8 (itn (wr .i64 (au y7.1 1)))) (itn (aB (len y8) (wr .i64 (au y7.1 1))))))))))) (jY aA (itn (aB (len y8) (nti (nad (itn y7.1) (itn (len (ay (aF y8 (itn (wr .i64 (au y7.1 1)))) (itn (aB (len y8) (wr .i64 (au y7.1 1))))))))))))) (nad (itn y7.1) (itn (len (ay (aF y8 (itn (wr .i64 (au y7.1 1)))) (itn (aB (len y8) (wr .i64 (au y7.1 1))))))))) x0.room x0.fuse x0.down) x2) fun y11=>cnd y11.2 (cnd (band (ile 0 y11.1) (ilt y11.1 (len (ay (eU (eU y8 (itn y7.1) (ay (aF y8 (itn (wr .i64 (au y7.1 1)))) (itn (aB (len y8) (wr .i64 (au y7.1 1)))))) (nad 0 (itn (nti (nad (itn y7.1) (itn (len (ay (aF y8 (itn (wr .i64 (au y7.1 1)))) (itn (aB (len y8) (wr .i64 (au y7.1 1))))))))))) (jY aA (itn (aB (len y8) (nti (nad (itn y7.1) (itn (len (ay (aF y8 (itn (wr .i64 (au y7.1 1)))) (itn (aB (len y8) (wr .i64 (au y7.1 1))))))))))))) (nad (itn y7.1) (itn (len (ay (aF y8 (itn (wr .i64 (au y7.1 1)))) (itn (aB (len y8) (wr .i64 (au y7.1 1)))))))))))) (some (ah.mk (aY (ay (eU (eU y8 (itn y7.1) (ay (aF y8 (itn (wr .i64 (au y7.1 1)))) (itn (aB (len y8) (wr .i64 (au y7.1 1)))))) (nad 0 (itn (nti (nad (itn y7.1) (itn (len (ay (aF y8 (itn (wr .i64 (au y7.1 1)))) (itn (aB (len y8) (wr .i64 (au y7.1 1))))))))))) (jY aA (itn (aB (len y8) (nti (nad (itn y7.1) (itn (len (ay (aF y8 (itn (wr .i64 (au y7.1 1)))) (itn (aB (len y8) (wr .i64 (au y7.1 1))))))))))))) (nad (itn y7.1) (itn (len (ay (aF y8 (itn (wr .i64 (au y7.1 1)))) (itn (aB (len y8) (wr .i64 (au y7.1 1))))))))) (itn y11.1) (aA.mk x2 (aj x0.files (itn y7.1)).data (aj x0.files (itn y7.1)).sure)) x0.room x0.fuse x0.down,0)) none) (af (bg (ay (eU (eU y8 (itn y7.1) (ay (aF y8 (itn (wr .i64 (au y7.1 1)))) (itn (aB (len y8) (wr .i64 (au y7.1 1)))))) (nad 0 (itn (nti (nad (itn y7.1) (itn (len (ay (aF y8 (itn (wr .i64 (au y7.1 1)))) (itn (aB (len y8) (wr .i64 (au y7.1 1))))))))))) (jY aA (itn (aB (len y8) (nti (nad (itn y7.1) (itn (len (ay (aF y8 (itn (wr .i64 (au y7.1 1)))) (itn (aB (len y8) (wr .i64 (au y7.1 1))))))))))))) (nad (itn y7.1) (itn (len (ay (aF y8 (itn (wr .i64 (au y7.1 1)))) (itn (aB (len y8) (wr .i64 (au y7.1 1))))))))) y11.1 [aA.mk x2 (aj x0.files (itn y7.1)).data (aj x0.files (itn y7.1)).sure]) fun y12=>some (ah.mk y12 x0.room x0.fuse x0.down,0))) none) none) none) none)) none) none) (cnd (band (ile 0 y7.1) (ilt y7.1 (len x0.files))) (af (aK x0.files) fun y13=>cnd (band (band (band (ile 0 y7.1) (ile y7.1 (wr .i64 (au y7.1 1)))) (ile (wr .i64 (au y7.1 1)) (len y13))) (band (ile (wr .i64 (au y7.1 1)) (len y13)) (ile (len y13) (len y13)))) (cnd (ieq y7.1 (wr .i64 (au y7.1 1))) (af (dP (ah.mk y13 x0.room (wr .i64 (aB x0.fuse 1)) x0.down) x2) fun y14=>cnd y14.2 (cnd (band (ile 0 y14.1) (ilt y14.1 (len y13))) (some (ah.mk (aY y13 (itn y14.1) (aA.mk x2 (aj x0.files (itn y7.1)).data (aj x0.files (itn y7.1)).sure)) x0.room (wr .i64 (aB x0.fuse 1)) x0.down,0)) none) (af (bg y13 y14.1 [aA.mk x2 (aj x0.files (itn y7.1)).data (aj x0.files (itn y7.1)).sure]) fun y15=>some (ah.mk y15 x0.room (wr .i64 (aB x0.fuse 1)) x0.down,0))) (cnd (band (ile 0 y7.1) (ile y7.1 (len y13))) (cnd (band (ile 0 (wr .i64 (au y7.1 1))) (ile (wr .i64 (au y7.1 1)) (len y13))) (cnd (ile (au (nti (itn y7.1)) (len (ay (aF y13 (itn (wr .i64 (au y7.1 1)))) (itn (aB (len y13) (wr .i64 (au y7.1 1))))))) (len y13)) (cnd (band (band (ile 0 (nti (nad (itn y7.1) (itn (len (ay (aF y13 (itn (wr .i64 (au y7.1 1)))) (itn (aB (len y13) (wr .i64 (au y7.1 1)))))))))) (ile (nti (nad (itn y7.1) (itn (len (ay (aF y13 (itn (wr .i64 (au y7.1 1)))) (itn (aB (len y13) (wr .i64 (au y7.1 1))))))))) (len y13))) (ile (len y13) (aB (len (eU y13 (itn y7.1) (ay (aF y13 (itn (wr .i64 (au y7.1 1)))) (itn (aB (len y13) (wr .i64 (au y7.1 1))))))) 0))) (af (dP (ah.mk (ay (eU (eU y13 (itn y7.1) (ay (aF y13 (itn (wr .i64 (au y7.1 1)))) (itn (aB (len y13) (wr .i64 (au y7.1 1)))))) (nad 0 (itn (nti (nad (itn y7.1) (itn (len (ay (aF y13 (itn (wr .i64 (au y7.1 1)))) (itn (aB (len y13) (wr .i64 (au y7.1 1))))))))))) (jY aA (itn (aB (len y13) (nti (nad (itn y7.1) (itn (len (ay (aF y13 (itn (wr .i64 (au y7.1 1)))) (itn (aB (len y13) (wr .i64 (au y7.1 1))))))))))))) (nad (itn y7.1) (itn (len (ay (aF y13 (itn (wr .i64 (au y7.1 1)))) (itn (aB (len y13) (wr .i64 (au y7.1 1))))))))) x0.room (wr .i64 (aB x0.fuse 1)) x0.down) x2) fun y16=>cnd y16.2 (cnd (band (ile 0 y16.1) (ilt y16.1 (len (ay (eU (eU y13 (itn y7.1) (ay (aF y13 (itn (wr .i64 (au y7.1 1)))) (itn (aB (len y13) (wr .i64 (au y7.1 1)))))) (nad 0 (itn (nti (nad (itn y7.1) (itn (len (ay (aF y13 (itn (wr .i64 (au y7.1 1)))) (itn (aB (len y13) (wr .i64 (au y7.1 1))))))))))) (jY aA (itn (aB (len y13) (nti (nad (itn y7.1) (itn (len (ay (aF y13 (itn (wr .i64 (au y7.1 1)))) (itn (aB (len y13) (wr .i64 (au y7.1 1))))))))))))) (nad (itn y7.1) (itn (len (ay (aF y13 (itn (wr .i64 (au y7.1 1)))) (itn (aB (len y13) (wr .i64 (au y7.1 1)))))))))))) (some (ah.mk (aY (ay (eU (eU y13 (itn y7.1) (ay (aF y13 (itn (wr .i64 (au y7.1 1)))) (itn (aB (len y13) (wr .i64 (au y7.1 1)))))) (nad 0 (itn (nti (nad (itn y7.1) (itn (len (ay (aF y13 (itn (wr .i64 (au y7.1 1)))) (itn (aB (len y13) (wr .i64 (au y7.1 1))))))))))) (jY aA (itn (aB (len y13) (nti (nad (itn y7.1) (itn (len (ay (aF y13 (itn (wr .i64 (au y7.1 1)))) (itn (aB (len y13) (wr .i64 (au y7.1 1))))))))))))) (nad (itn y7.1) (itn (len (ay (aF y13 (itn (wr .i64 (au y7.1 1)))) (itn (aB (len y13) (wr .i64 (au y7.1 1))))))))) (itn y16.1) (aA.mk x2 (aj x0.files (itn y7.1)).data (aj x0.files (itn y7.1)).sure)) x0.room (wr .i64 (aB x0.fuse 1)) x0.down,0)) none) (af (bg (ay (eU (eU y13 (itn y7.1) (ay (aF y13 (itn (wr .i64 (au y7.1 1)))) (itn (aB (len y13) (wr .i64 (au y7.1 1)))))) (nad 0 (itn (nti (nad (itn y7.1) (itn (len (ay (aF y13 (itn (wr .i64 (au y7.1 1)))) (itn (aB (len y13) (wr .i64 (au y7.1 1))))))))))) (jY aA (itn (aB (len y13) (nti (nad (itn y7.1) (itn (len (ay (aF y13 (itn (wr .i64 (au y7.1 1)))) (itn (aB (len y13) (wr .i64 (au y7.1 1))))))))))))) (nad (itn y7.1) (itn (len (ay (aF y13 (itn (wr .i64 (au y7.1 1)))) (itn (aB (len y13) (wr .i64 (au y7.1 1))))))))) y16.1 [aA.mk x2 (aj x0.files (itn y7.1)).data (aj x0.files (itn y7.1)).sure]) fun y17=>some (ah.mk y17 x0.room (wr .i64 (aB x0.fuse 1)) x0.down,0))) none) none) none) none)) none) none))))) none
def IJ:aI:=mkSpec [.val .disk,.str,.str] [.val .disk,.int .i64] false (fun x=>kJ x.1 x.2.1 x.2.2)
theorem WZ:dm PG 144 IJ:=okN [(216,nP),(217,oZ),(80,iT),(219,nS)] [214,221,222] ⟨uj,xg,kG,xR,trivial⟩ fun x=>by kernel_rfl
def wW (x0:ah) (x1:(List UInt8)) (x2:Int):Option (ah×Int):=af (jb x0 [x1]) fun y0=>cnd (ax (ieq y0 0)) (cnd (ax (ieq y0 0)) (some (x0,y0)) (cnd (ilt x2 0) (cnd (ilt x2 0) (some (x0,1)) (cnd (ieq x0.fuse 0) (some (ah.mk x0.files x0.room x0.fuse true,9)) (cnd (ieq x0.fuse (-1)) (af (aK x0.files) fun y1=>cnd (ilt 0 (len y1)) (cnd (band (ile 0 x2) (ile x2 (len (aj y1 0).data))) (af (dN (ay (aj y1 0).data (itn x2))) fun y2=>some (ah.mk (aY (aY y1 0 (aA.mk (aj y1 0).name y2 (aj y1 0).sure)) 0 (aA.mk (aj (aY y1 0 (aA.mk (aj y1 0).name y2 (aj y1 0).sure)) 0).name (aj (aY y1 0 (aA.mk (aj y1 0).name y2 (aj y1 0).sure)) 0).data (fJ (aj y1 0).sure x2))) x0.room x0.fuse x0.down,0)) none) none) (af (aK x0.files) fun y3=>cnd (ilt 0 (len y3)) (cnd (band (ile 0 x2) (ile x2 (len (aj y3 0).data))) (af (dN (ay (aj y3 0).data (itn x2))) fun y4=>some (ah.mk (aY (aY y3 0 (aA.mk (aj y3 0).name y4 (aj y3 0).sure)) 0 (aA.mk (aj (aY y3 0 (aA.mk (aj y3 0).name y4 (aj y3 0).sure)) 0).name (aj (aY y3 0 (aA.mk (aj y3 0).name y4 (aj y3 0).sure)) 0).data (fJ (aj y3 0).sure x2))) x0.room (wr .i64 (aB x0.fuse 1)) x0.down,0)) none) none)))) (cnd (ilt 0 (len x0.files)) (cnd (ilt (len (aj x0.files 0).data) x2) (some (x0,1)) (cnd (ieq x0.fuse 0) (some (ah.mk x0.files x0.room x0.fuse true,9)) (cnd (ieq x0.fuse (-1)) (af (aK x0.files) fun y5=>cnd (ilt 0 (len y5)) (cnd (band (ile 0 x2) (ile x2 (len (aj y5 0).data))) (af (dN (ay (aj y5 0).data (itn x2))) fun y6=>some (ah.mk (aY (aY y5 0 (aA.mk (aj y5 0).name y6 (aj y5 0).sure)) 0 (aA.mk (aj (aY y5 0 (aA.mk (aj y5 0).name y6 (aj y5 0).sure)) 0).name (aj (aY y5 0 (aA.mk (aj y5 0).name y6 (aj y5 0).sure)) 0).data (fJ (aj y5 0).sure x2))) x0.room x0.fuse x0.down,0)) none) none) (af (aK x0.files) fun y7=>cnd (ilt 0 (len y7)) (cnd (band (ile 0 x2) (ile x2 (len (aj y7 0).data))) (af (dN (ay (aj y7 0).data (itn x2))) fun y8=>some (ah.mk (aY (aY y7 0 (aA.mk (aj y7 0).name y8 (aj y7 0).sure)) 0 (aA.mk (aj (aY y7 0 (aA.mk (aj y7 0).name y8 (aj y7 0).sure)) 0).name (aj (aY y7 0 (aA.mk (aj y7 0).name y8 (aj y7 0).sure)) 0).data (fJ (aj y7 0).sure x2))) x0.room (wr .i64 (aB x0.fuse 1)) x0.down,0)) none) none)))) none))) (af (dP x0 x1) fun y9=>cnd (ax y9.2) (some (x0,7)) (cnd (ilt x2 0) (cnd (ilt x2 0) (some (x0,1)) (cnd (ieq x0.fuse 0) (some (ah.mk x0.files x0.room x0.fuse true,9)) (cnd (ieq x0.fuse (-1)) (af (aK x0.files) fun y10=>cnd (band (ile 0 y9.1) (ilt y9.1 (len y10))) (cnd (band (ile 0 x2) (ile x2 (len (aj y10 (itn y9.1)).data))) (af (dN (ay (aj y10 (itn y9.1)).data (itn x2))) fun y11=>some (ah.mk (aY (aY y10 (itn y9.1) (aA.mk (aj y10 (itn y9.1)).name y11 (aj y10 (itn y9.1)).sure)) (itn y9.1) (aA.mk (aj (aY y10 (itn y9.1) (aA.mk (aj y10 (itn y9.1)).name y11 (aj y10 (itn y9.1)).sure)) (itn y9.1)).name (aj (aY y10 (itn y9.1) (aA.mk (aj y10 (itn y9.1)).name y11 (aj y10 (itn y9.1)).sure)) (itn y9.1)).data (fJ (aj y10 (itn y9.1)).sure x2))) x0.room x0.fuse x0.down,0)) none) none) (af (aK x0.files) fun y12=>cnd (band (ile 0 y9.1) (ilt y9.1 (len y12))) (cnd (band (ile 0 x2) (ile x2 (len (aj y12 (itn y9.1)).data))) (af (dN (ay (aj y12 (itn y9.1)).data (itn x2))) fun y13=>some (ah.mk (aY (aY y12 (itn y9.1) (aA.mk (aj y12 (itn y9.1)).name y13 (aj y12 (itn y9.1)).sure)) (itn y9.1) (aA.mk (aj (aY y12 (itn y9.1) (aA.mk (aj y12 (itn y9.1)).name y13 (aj y12 (itn y9.1)).sure)) (itn y9.1)).name (aj (aY y12 (itn y9.1) (aA.mk (aj y12 (itn y9.1)).name y13 (aj y12 (itn y9.1)).sure)) (itn y9.1)).data (fJ (aj y12 (itn y9.1)).sure x2))) x0.room (wr .i64 (aB x0.fuse 1)) x0.down,0)) none) none)))) (cnd (band (ile 0 y9.1) (ilt y9.1 (len x0.files))) (cnd (ilt (len (aj x0.files (itn y9.1)).data) x2) (some (x0,1)) (cnd (ieq x0.fuse 0) (some (ah.mk x0.files x0.room x0.fuse true,9)) (cnd (ieq x0.fuse (-1)) (af (aK x0.files) fun y14=>cnd (band (ile 0 y9.1) (ilt y9.1 (len y14))) (cnd (band (ile 0 x2) (ile x2 (len (aj y14 (itn y9.1)).data))) (af (dN (ay (aj y14 (itn y9.1)).data (itn x2))) fun y15=>some (ah.mk (aY (aY y14 (itn y9.1) (aA.mk (aj y14 (itn y9.1)).name y15 (aj y14 (itn y9.1)).sure)) (itn y9.1) (aA.mk (aj (aY y14 (itn y9.1) (aA.mk (aj y14 (itn y9.1)).name y15 (aj y14 (itn y9.1)).sure)) (itn y9.1)).name (aj (aY y14 (itn y9.1) (aA.mk (aj y14 (itn y9.1)).name y15 (aj y14 (itn y9.1)).sure)) (itn y9.1)).data (fJ (aj y14 (itn y9.1)).sure x2))) x0.room x0.fuse x0.down,0)) none) none) (af (aK x0.files) fun y16=>cnd (band (ile 0 y9.1) (ilt y9.1 (len y16))) (cnd (band (ile 0 x2) (ile x2 (len (aj y16 (itn y9.1)).data))) (af (dN (ay (aj y16 (itn y9.1)).data (itn x2))) fun y17=>some (ah.mk (aY (aY y16 (itn y9.1) (aA.mk (aj y16 (itn y9.1)).name y17 (aj y16 (itn y9.1)).sure)) (itn y9.1) (aA.mk (aj (aY y16 (itn y9.1) (aA.mk (aj y16 (itn y9.1)).name y17 (aj y16 (itn y9.1)).sure)) (itn y9.1)).name (aj (aY y16 (itn y9.1) (aA.mk (aj y16 (itn y9.1)).name y17 (aj y16 (itn y9.1)).sure)) (itn y9.1)).data (fJ (aj y16 (itn y9.1)).sure x2))) x0.room (wr .i64 (aB x0.fuse 1)) x0.down,0)) none) none)))) none)))
def O9:aI:=mkSpec [.val .disk,.str,.int .i64] [.val .disk,.int .i64] false (fun x=>wW x.1 x.2.1 x.2.2)
theorem abP:dm PG 170 O9:=okN [(216,nP),(217,oZ),(80,iT),(168,su)] [214,221] ⟨uj,xg,kG,Dy,trivial⟩ fun x=>by kernel_rfl
def iG (x0:ah) (x1:eF):Option (ah×Int):=af (xu x1) fun y0=>cnd (ax y0) (some (x0,1)) (af (wu x0) fun y1=>cnd (ieq y1.2 1) (cnd (ieq y1.2 1) (some (x0,y1.2)) (cnd (ax (ieq x1.gen (wr .i64 (au y1.1.gen 1)))) (some (x0,8)) (af (jZ x1.gen) fun y2=>af (ou x1) fun y3=>af (lS x0 y2) fun y4=>cnd (ieq y4.2 7) (af (gV x0 y2 [y3.a0,y3.a1,y3.a2,y3.a3,y3.a4,y3.a5,y3.a6,y3.a7,y3.a8,y3.a9,y3.a10,y3.a11,y3.a12,y3.a13,y3.a14,y3.a15,y3.a16,y3.a17,y3.a18,y3.a19]) fun y5=>cnd (ax (ieq y5.2 0)) (some y5) (af (iM y5.1 y2) fun y6=>cnd (ax (ieq y6.2 0)) (some y6) (some (y6.1,0)))) (af (wW x0 y2 0) fun y7=>cnd (ax (ieq y7.2 0)) (some y7) (af (gV y7.1 y2 [y3.a0,y3.a1,y3.a2,y3.a3,y3.a4,y3.a5,y3.a6,y3.a7,y3.a8,y3.a9,y3.a10,y3.a11,y3.a12,y3.a13,y3.a14,y3.a15,y3.a16,y3.a17,y3.a18,y3.a19]) fun y8=>cnd (ax (ieq y8.2 0)) (some y8) (af (iM y8.1 y2) fun y9=>cnd (ax (ieq y9.2 0)) (some y9) (some (y9.1,0)))))))) (cnd (ieq y1.2 9) (some (x0,y1.2)) (cnd (ax (ieq x1.gen (wr .i64 (au y1.1.gen 1)))) (some (x0,8)) (af (jZ x1.gen) fun y10=>af (ou x1) fun y11=>af (lS x0 y10) fun y12=>cnd (ieq y12.2 7) (af (gV x0 y10 [y11.a0,y11.a1,y11.a2,y11.a3,y11.a4,y11.a5,y11.a6,y11.a7,y11.a8,y11.a9,y11.a10,y11.a11,y11.a12,y11.a13,y11.a14,y11.a15,y11.a16,y11.a17,y11.a18,y11.a19]) fun y13=>cnd (ax (ieq y13.2 0)) (some y13) (af (iM y13.1 y10) fun y14=>cnd (ax (ieq y14.2 0)) (some y14) (some (y14.1,0)))) (af (wW x0 y10 0) fun y15=>cnd (ax (ieq y15.2 0)) (some y15) (af (gV y15.1 y10 [y11.a0,y11.a1,y11.a2,y11.a3,y11.a4,y11.a5,y11.a6,y11.a7,y11.a8,y11.a9,y11.a10,y11.a11,y11.a12,y11.a13,y11.a14,y11.a15,y11.a16,y11.a17,y11.a18,y11.a19]) fun y16=>cnd (ax (ieq y16.2 0)) (some y16) (af (iM y16.1 y10) fun y17=>cnd (ax (ieq y17.2 0)) (some y17) (some (y17.1,0)))))))))
def Ky:aI:=mkSpec [.val .disk,.val .slot] [.val .disk,.int .i64] false (fun x=>iG x.1 x.2)
theorem YE:dm PG 147 Ky:=okN [(225,DZ),(135,Fh),(212,Fb),(226,Ef),(136,Ar),(170,O9),(140,xA),(142,Af)] [228,229,230,227] ⟨OM,RZ,SI,Pg,J7,abP,FD,JM,trivial⟩ fun x=>by kernel_rfl
def rE (x0:(List UInt8)):Option (Bool):=some (ax (ieq (jE [115,110,97,112,46] x0) 0))
def Eg:aI:=mkSpec [.str] [.bool] true (fun x=>rE x)
def Nl:Go.Shelf.Ren:=⟨fun | 174=>232 | 247=>293 | 245=>294 | 287=>321 | 279=>322 | 280=>323 | 281=>324 | 282=>325 | 321=>340 | 322=>341 | 316=>342 | 171=>344 | 205=>343 | 243=>349 | 246=>286 | 283=>314 | 284=>315 | 285=>316 | 286=>317 | 129=>334 | 317=>333 | 318=>335 | 319=>336 | 320=>337 | 337=>347 | 338=>348 | n=>n,fun | 9=>9 | 3=>3 | 2=>2 | 75=>291 | 85=>292 | 4=>4 | 167=>382 | 5=>5 | 53=>331 | 175=>383 | 46=>300 | 168=>385 | 37=>132 | 0=>0 | 210=>408 | 21=>21 | 127=>381 | 145=>414 | 143=>412 | 171=>376 | 173=>379 | 212=>398 | 51=>270 | 20=>20 | 213=>399 | 232=>415 | 233=>416 | 74=>290 | 209=>407 | 144=>413 | 80=>355 | n=>n,fun | 15=>2 | 16=>3 | 17=>1 | 18=>4 | 19=>5 | n=>n⟩
theorem lQ:Go.Proofs.LaysC.n174 PG Nl where
 mixed:=by kernel_rfl
 f129:=by kernel_rfl
 f171:=by kernel_rfl
 f174:=by kernel_rfl
 f205:=by kernel_rfl
 f243:=by kernel_rfl
 f245:=by kernel_rfl
 f246:=by kernel_rfl
 f247:=by kernel_rfl
 f279:=by kernel_rfl
 f280:=by kernel_rfl
 f281:=by kernel_rfl
 f282:=by kernel_rfl
 f283:=by kernel_rfl
 f284:=by kernel_rfl
 f285:=by kernel_rfl
 f286:=by kernel_rfl
 f287:=by kernel_rfl
 f316:=by kernel_rfl
 f317:=by kernel_rfl
 f318:=by kernel_rfl
 f319:=by kernel_rfl
 f320:=by kernel_rfl
 f321:=by kernel_rfl
 f322:=by kernel_rfl
 f337:=by kernel_rfl
 f338:=by kernel_rfl
 t0:=by kernel_rfl
 a0:=fun w=>by kernel_rfl
 z0:=fun w=>by kernel_rfl
 v0:=fun w=>by kernel_rfl
 t2:=by kernel_rfl
 a2:=fun w=>by kernel_rfl
 z2:=fun w=>by kernel_rfl
 v2:=fun w=>by kernel_rfl
 t3:=by kernel_rfl
 a3:=fun w=>by kernel_rfl
 z3:=fun w=>by kernel_rfl
 v3:=fun w=>by kernel_rfl
 t4:=by kernel_rfl
 a4:=fun w=>by kernel_rfl
 z4:=fun w=>by kernel_rfl
 v4:=fun w=>by kernel_rfl
 t5:=by kernel_rfl
 a5:=fun w=>by kernel_rfl
 z5:=fun w=>by kernel_rfl
 v5:=fun w=>by kernel_rfl
 t9:=by kernel_rfl
 a9:=fun w=>by kernel_rfl
 z9:=fun w=>by kernel_rfl
 v9:=fun w=>by kernel_rfl
 t20:=by kernel_rfl
 a20:=fun w=>by kernel_rfl
 z20:=fun w=>by kernel_rfl
 v20:=fun w=>by kernel_rfl
 t21:=by kernel_rfl
 a21:=fun w=>by kernel_rfl
 z21:=fun w=>by kernel_rfl
 v21:=fun w=>by kernel_rfl
 t37:=by kernel_rfl
 a37:=fun w=>by kernel_rfl
 z37:=fun w=>by kernel_rfl
 v37:=fun w=>by kernel_rfl
 t46:=by kernel_rfl
 a46:=fun w=>by kernel_rfl
 z46:=fun w=>by kernel_rfl
 v46:=fun w=>by kernel_rfl
 t51:=by kernel_rfl
 a51:=fun w=>by kernel_rfl
 z51:=fun w=>by kernel_rfl
 v51:=fun w=>by kernel_rfl
 t53:=by kernel_rfl
 a53:=fun w=>by kernel_rfl
 z53:=fun w=>by kernel_rfl
 v53:=fun w=>by kernel_rfl
 t75:=by kernel_rfl
 a75:=fun w=>by kernel_rfl
 z75:=fun w=>by kernel_rfl
 v75:=fun w=>by kernel_rfl
 t85:=by kernel_rfl
 a85:=fun w=>by kernel_rfl
 z85:=fun w=>by kernel_rfl
 v85:=fun w=>by kernel_rfl
 t127:=by kernel_rfl
 a127:=fun w=>by kernel_rfl
 z127:=fun w=>by kernel_rfl
 v127:=fun w=>by kernel_rfl
 t143:=by kernel_rfl
 a143:=fun w=>by kernel_rfl
 z143:=fun w=>by kernel_rfl
 v143:=fun w=>by kernel_rfl
 t145:=by kernel_rfl
 a145:=fun w=>by kernel_rfl
 z145:=fun w=>by kernel_rfl
 v145:=fun w=>by kernel_rfl
 t167:=by kernel_rfl
 a167:=fun w=>by kernel_rfl
 z167:=fun w=>by kernel_rfl
 v167:=fun w=>by kernel_rfl
 t168:=by kernel_rfl
 a168:=fun w=>by kernel_rfl
 z168:=fun w=>by kernel_rfl
 v168:=fun w=>by kernel_rfl
 t171:=by kernel_rfl
 a171:=fun w=>by kernel_rfl
 z171:=fun w=>by kernel_rfl
 v171:=fun w=>by kernel_rfl
 t173:=by kernel_rfl
 a173:=fun w=>by kernel_rfl
 z173:=fun w=>by kernel_rfl
 v173:=fun w=>by kernel_rfl
 t175:=by kernel_rfl
 a175:=fun w=>by kernel_rfl
 z175:=fun w=>by kernel_rfl
 v175:=fun w=>by kernel_rfl
 t210:=by kernel_rfl
 a210:=fun w=>by kernel_rfl
 z210:=fun w=>by kernel_rfl
 v210:=fun w=>by kernel_rfl
 t212:=by kernel_rfl
 a212:=fun w=>by kernel_rfl
 z212:=fun w=>by kernel_rfl
 v212:=fun w=>by kernel_rfl
 t213:=by kernel_rfl
 a213:=fun w=>by kernel_rfl
 z213:=fun w=>by kernel_rfl
 t232:=by kernel_rfl
 a232:=fun w=>by kernel_rfl
 z232:=fun w=>by kernel_rfl
 v232:=fun w=>by kernel_rfl
 t233:=by kernel_rfl
 a233:=fun w=>by kernel_rfl
 z233:=fun w=>by kernel_rfl
 v233:=fun w=>by kernel_rfl
 g15:=by kernel_rfl
 g16:=by kernel_rfl
 g17:=by kernel_rfl
 g18:=by kernel_rfl
 g19:=by kernel_rfl
 t80:=by kernel_rfl
 a80:=fun w=>by kernel_rfl
 z80:=fun w=>by kernel_rfl
 v80:=fun w=>by kernel_rfl
 i0:=by kernel_rfl
 i2:=by kernel_rfl
 i3:=by kernel_rfl
 i4:=by kernel_rfl
 i5:=by kernel_rfl
 i9:=by kernel_rfl
 i20:=by kernel_rfl
 i21:=by kernel_rfl
 i37:=by kernel_rfl
 i46:=by kernel_rfl
 i51:=by kernel_rfl
 i53:=by kernel_rfl
 i75:=by kernel_rfl
 i80:=by kernel_rfl
 i85:=by kernel_rfl
 i127:=by kernel_rfl
 i143:=by kernel_rfl
 i145:=by kernel_rfl
 i167:=by kernel_rfl
 i168:=by kernel_rfl
 i171:=by kernel_rfl
 i173:=by kernel_rfl
 i175:=by kernel_rfl
 i210:=by kernel_rfl
 i212:=by kernel_rfl
 i232:=by kernel_rfl
 i233:=by kernel_rfl
 m15:=by kernel_rfl
 m16:=by kernel_rfl
 m17:=by kernel_rfl
 m18:=by kernel_rfl
 m19:=by kernel_rfl
 c0:=by kernel_rfl
 c2:=by kernel_rfl
 c3:=by kernel_rfl
 c4:=by kernel_rfl
 c5:=by kernel_rfl
 c9:=by kernel_rfl
 c20:=by kernel_rfl
 c21:=by kernel_rfl
 c37:=by kernel_rfl
 c46:=by kernel_rfl
 c51:=by kernel_rfl
 c53:=by kernel_rfl
 c75:=by kernel_rfl
 c80:=by kernel_rfl
 c85:=by kernel_rfl
 c127:=by kernel_rfl
 c143:=by kernel_rfl
 c145:=by kernel_rfl
 c167:=by kernel_rfl
 c168:=by kernel_rfl
 c171:=by kernel_rfl
 c173:=by kernel_rfl
 c175:=by kernel_rfl
 c210:=by kernel_rfl
 c212:=by kernel_rfl
 c213:=by kernel_rfl
 c232:=by kernel_rfl
 c233:=by kernel_rfl
def La:Go.Shelf.Ren:=⟨fun | 103=>231 | 210=>292 | 206=>318 | n=>n,fun | 9=>9 | 4=>4 | 24=>288 | 3=>3 | n=>n,fun | n=>n⟩
theorem AY:Go.Proofs.Lays.n103 PG La where
 mixed:=by kernel_rfl
 f103:=by kernel_rfl
 f206:=by kernel_rfl
 f210:=by kernel_rfl
 t3:=by kernel_rfl
 a3:=fun w=>by kernel_rfl
 z3:=fun w=>by kernel_rfl
 v3:=fun w=>by kernel_rfl
 t4:=by kernel_rfl
 a4:=fun w=>by kernel_rfl
 z4:=fun w=>by kernel_rfl
 v4:=fun w=>by kernel_rfl
 t9:=by kernel_rfl
 a9:=fun w=>by kernel_rfl
 z9:=fun w=>by kernel_rfl
 v9:=fun w=>by kernel_rfl
 t24:=by kernel_rfl
 a24:=fun w=>by kernel_rfl
 z24:=fun w=>by kernel_rfl
 v24:=fun w=>by kernel_rfl
theorem aes {B B':Nat} {a b:World} (h:RowKit.Below B a b) (hB:B'<=B):RowKit.Below B' a b:=⟨h.os,h.tape,h.output,h.size,fun k hk=>h.block k (Nat.lt_of_lt_of_le hk hB)⟩
set_option maxHeartbeats 1000000 in
set_option maxRecDepth 100000 in
theorem abm (s r:ByteArray) (w:World)
 (h1:Calls PG 231 #[.string s,.string ⟨#[115,110,97,112,46]⟩] w fun e w'=>e= .returned (.tuple #[.string r,.bool false])/\w'=w):
 Calls PG 148 #[.string s] w fun e w'=>e= .returned (.bool false)/\RowKit.Below w.heap.size w w':=by
 go_enter Go.Proofs.Tryz.func148,Go.Proofs.Tryz.ntmps148
 go_wp2_with (go_at_call 231;refine h1.mono ?_;rintro e W1 ⟨rfl,rfl⟩)
 all_goals (go_ret;exact⟨rfl,RowKit.Below.refl _ _⟩)
set_option maxHeartbeats 1000000 in
set_option maxRecDepth 100000 in
theorem YU (s r:ByteArray) (w:World)
 (h1:Calls PG 231 #[.string s,.string ⟨#[115,110,97,112,46]⟩] w fun e w'=>e= .returned (.tuple #[.string r,.bool true])/\w'=w) (hr:r.size≠10):
 Calls PG 148 #[.string s] w fun e w'=>e= .returned (.bool false)/\RowKit.Below w.heap.size w w':=by
 have hr':((((r.size:Nat):Int)) != 10)=true:=by simp;omega
 go_enter Go.Proofs.Tryz.func148,Go.Proofs.Tryz.ntmps148
 go_wp2_with (go_at_call 231;refine h1.mono ?_;rintro e W1 ⟨rfl,rfl⟩)
 all_goals (go_ret;exact⟨rfl,RowKit.Below.refl _ _⟩)
set_option maxHeartbeats 1000000 in
set_option maxRecDepth 100000 in
theorem OQ (s r:ByteArray) (w:World) (v:Int) (t:TypeId) (q:Value->Prop)
 (h1:Calls PG 231 #[.string s,.string ⟨#[115,110,97,112,46]⟩] w fun e w'=>e= .returned (.tuple #[.string r,.bool true])/\w'=w) (hr:r.size=10)
 (h2:Calls PG 232 #[.string r,.int .i64 10,.int .i64 64] w fun e w'=>∃p,e= .returned (.tuple #[.int .i64 v,.iface t p])/\RowKit.Below w.heap.size w w'):
 Calls PG 148 #[.string s] w fun e w'=>e= .returned (.bool false)/\RowKit.Below w.heap.size w w':=by
 have hr':((r.size:Nat):Int)=10:=by omega
 go_enter Go.Proofs.Tryz.func148,Go.Proofs.Tryz.ntmps148
 go_wp2_with (first | (go_at_call 231;refine h1.mono ?_;rintro e W1 ⟨rfl,rfl⟩) | (go_at_call 232;refine h2.mono ?_;rintro e W2 ⟨p,rfl,hb⟩))
 all_goals (go_ret;exact⟨rfl,hb⟩)
set_option maxHeartbeats 1000000 in
set_option maxRecDepth 100000 in
theorem aaC (s r:ByteArray) (w:World) (v:Int) (nm:ByteArray)
 (h1:Calls PG 231 #[.string s,.string ⟨#[115,110,97,112,46]⟩] w fun e w'=>e= .returned (.tuple #[.string r,.bool true])/\w'=w) (hr:r.size=10)
 (h2:Calls PG 232 #[.string r,.int .i64 10,.int .i64 64] w fun e w'=>e= .returned (.tuple #[.int .i64 v,.nilIface])/\RowKit.Below w.heap.size w w')
 (h3:∀w1,RowKit.Below w.heap.size w w1->Calls PG 145 #[.int .i64 v] w1 fun e w'=>e= .returned (.string nm)/\RowKit.Below w1.heap.size w1 w'):
 Calls PG 148 #[.string s] w fun e w'=>e= .returned (.bool (nm.toList == s.toList))/\RowKit.Below w.heap.size w w':=by
 have hr':((r.size:Nat):Int)=10:=by omega
 go_enter Go.Proofs.Tryz.func148,Go.Proofs.Tryz.ntmps148
 go_wp2_with (first | (go_at_call 231;refine h1.mono ?_;rintro e W1 ⟨rfl,rfl⟩) | (go_at_call 232;refine h2.mono ?_;rintro e W2 ⟨rfl,hb⟩) | (go_at_call 145;refine(h3 _ hb).mono ?_;rintro e W3 ⟨rfl,hb3⟩))
 all_goals (go_ret;exact⟨rfl,hb.trans (aes hb3 hb.size)⟩)
theorem agC (v:Int) (hv:inI v):gQ v=some (nR [115,110,97,112,46] v):=by
 unfold inI at hv
 unfold gQ nR iO jV
 by_cases h:v<1\/1000000000<v
 ·rw[if_pos h,show bor (ilt v 1) (ilt 1000000000 v)=true by rw[RV,AO,AO];exact h];rfl
 ·have e1:bor (ilt v 1) (ilt 1000000000 v)=false:=by
   rw[Bool.eq_false_iff];intro g;rw[RV,AO,AO]at g;exact h g
  have hl:(fmt10 v).length<=10:=by
   unfold fmt10;rw[if_neg (by omega)]
   exact EW 20 _ 10 (by have:(10:Nat)^10=10000000000:=by decide
                        omega) (by decide)
  have e2:wr .i64 (aB 10 (len (fmt10 v)))=((10 - (fmt10 v).length:Nat):Int):=by
   unfold aB len wr IntKind.wrap
   simp [IntKind.bits,IntKind.signed]
   omega
  have e3:abv v 10=some (fmt10 v):=by
   unfold abv
   rw[show band (ieq 10 10) (band (ile (-9223372036854775808) v) (ile v 9223372036854775807))=true by rw[l7,l7,ji,ji];exact⟨rfl,hv⟩];rfl
  have e4:aa3 [UInt8.ofNat 48] ((10 - (fmt10 v).length:Nat):Int)=some (List.replicate (10 - (fmt10 v).length) 48):=by
   unfold aa3
   rw[show band (ile 0 ((10 - (fmt10 v).length:Nat):Int)) (band (ile ((10 - (fmt10 v).length:Nat):Int) 9223372036854775807) (ile (gu (len [UInt8.ofNat 48]) ((10 - (fmt10 v).length:Nat):Int)) 140737488355328))=true by
    rw[l7,l7,ji,ji,ji];simp only[gu,len,List.length_singleton];omega]
   simp only[cnd,itn,Int.toNat_natCast]
   rw[show UInt8.ofNat 48=48 from rfl,Mc]
  rw[if_neg h,e1,e3]
  simp only[cnd,af,Option.bind_some,e2,e4]
  rw[show ile (au 5 (len (List.replicate (10 - (fmt10 v).length) (48:UInt8)))) 68719476736=true by rw[ji];simp only[au,len,List.length_replicate];omega]
  simp only
  rw[show ile (au (len (dB [UInt8.ofNat 115,UInt8.ofNat 110,UInt8.ofNat 97,UInt8.ofNat 112,UInt8.ofNat 46] (List.replicate (10 - (fmt10 v).length) (48:UInt8)))) (len (fmt10 v))) 68719476736=true by rw[ji];simp only[au,len,dB,List.length_append,List.length_replicate,List.length_cons,List.length_nil];omega]
  rfl
theorem RN:dm PG 148 Eg:=by
 refine X8 (xs:=[.str]) (rs:=[.bool]) rfl rfl (X6 Cj (by kernel_rfl)) fun(x:List UInt8) (y:Bool) w hrun hg=> ?_
 have hy:y=ax (ieq (jE [115,110,97,112,46] x) 0):=(Option.some.inj hrun).symm
 subst hy
 show Calls PG 148 #[.string ⟨x.toArray⟩] w fun e w'=>e= .returned (.bool (ax (ieq (jE [115,110,97,112,46] x) 0)))/\RowKit.Below w.heap.size w w'
 have hcut:=Go.Proofs.Any.strings_CutPrefix AY ⟨x.toArray⟩ ⟨#[115,110,97,112,46]⟩ w
 change Calls PG 231 #[.string ⟨x.toArray⟩,.string ⟨#[115,110,97,112,46]⟩] w (fun e w'=>e= .returned (.tuple #[.string ⟨(Go.Lib.trimPrefix x [115,110,97,112,46]).toArray⟩,.bool (Go.Lib.hasPrefix x [115,110,97,112,46])])/\w'=w)at hcut
 have nz:∀b:Bool,b=decide (jE [115,110,97,112,46] x≠0)->ax (ieq (jE [115,110,97,112,46] x) 0)=b:=fun b hb=>by
  rw[hb]
  by_cases h:jE [115,110,97,112,46] x=0<;>simp [ax,ieq,h]
 cases hpf:Go.Lib.hasPrefix x [115,110,97,112,46]with
 |false=>
  rw[hpf]at hcut
  have hz:jE [115,110,97,112,46] x=0:=if_neg fun g=>by
   have:Go.Lib.hasPrefix x [115,110,97,112,46]=true:=by
    unfold Go.Lib.hasPrefix
    rw[List.isPrefixOf_iff_prefix]
    exact⟨x.drop 5,by conv=>rhs;rw[<-List.take_append_drop 5 x,show x.take 5=_ from g.1]⟩
   rw[hpf]at this;cases this
  rw[hz]
  exact abm _ _ w hcut
 |true=>
  rw[hpf]at hcut
  have htk:x.take 5=[115,110,97,112,46]:=by
   unfold Go.Lib.hasPrefix at hpf
   rw[List.isPrefixOf_iff_prefix]at hpf
   obtain⟨r,rfl⟩:=hpf
   rfl
  rw[show Go.Lib.trimPrefix x [115,110,97,112,46]=x.drop 5 by unfold Go.Lib.trimPrefix;rw[if_pos hpf];rfl]at hcut
  by_cases hl:(x.drop 5).length=10
  ·have hsame:=ahc [115,110,97,112,46] x htk (by simp) hl
   change (match Go.Lib.parseIntB 64 (x.drop 5)with | .ok v=>decide (nR [115,110,97,112,46] v=x) | _=>false)=_ at hsame
   have hsz:(⟨(x.drop 5).toArray⟩:ByteArray).size=10:=by
    show(x.drop 5).toArray.size=10
    rw[List.size_toArray];exact hl
   cases hp:Go.Lib.parseIntB 64 (x.drop 5)with
   |ok v=>
    rw[hp]at hsame
    have h2:=(Go.Proofs.Any.strconv_ParseInt_10_at64_ok lQ ⟨(x.drop 5).toArray⟩ (by rw[hsz];decide) v hp w).mono (R':=fun e w'=>e= .returned (.tuple #[.int .i64 v,.nilIface])/\RowKit.Below w.heap.size w w') fun e w' ⟨he,hw⟩=>⟨he,by
     rcases hw with rfl | ⟨t,rfl⟩
     ·exact RowKit.Below.refl _ _
     ·exact Go.Lib.bytesWorld_below _ _ _⟩
    have h3:∀w1,RowKit.Below w.heap.size w w1->Calls PG 145 #[.int .i64 v] w1 fun e w'=>e= .returned (.string ⟨(nR [115,110,97,112,46] v).toArray⟩)/\RowKit.Below w1.heap.size w1 w':=fun w1 hb=>
     dm.calls (xs:=[.int .i64]) (r:= .str) Cj (by kernel_rfl) O5 rfl rfl v (nR [115,110,97,112,46] v) (agC v (agB hp)) w1 (hg.mono (fun b h=>Nat.lt_of_lt_of_le h hb.size) (fun b h=>hb.block b h))
    have:=aaC ⟨x.toArray⟩ ⟨(x.drop 5).toArray⟩ w v ⟨(nR [115,110,97,112,46] v).toArray⟩ hcut hsz h2 h3
    rw[ByteArray.toList_eq,ByteArray.toList_eq]at this
    rw[nz _ hsame]
    refine this.mono fun e w' ⟨he,hb⟩=>⟨he.trans ?_,hb⟩
    congr 2
    simp only
    rw[Bool.eq_iff_iff];simp
   |range=>
    rw[hp]at hsame
    obtain⟨_,c,t,fr,hc,te,pe,rfl⟩:=hg (3,afU) (by simp [glL])
    have hcell:w.cell? ⟨3,0,none⟩=some (.iface te pe):=by unfold World.cell?;simp only[hc];rfl
    rw[nz _ hsame]
    refine OQ ⟨x.toArray⟩ ⟨(x.drop 5).toArray⟩ w _ _ (fun _=>True) hcut hsz ((Go.Proofs.Any.strconv_ParseInt_10_at64_range lQ ⟨(x.drop 5).toArray⟩ (by rw[hsz];decide) hp _ w hcell (.inr ⟨te,pe,rfl⟩)).mono fun e w' ⟨N,he,_,_,hb⟩=>⟨_,he,hb⟩)
   |_=>
    rw[hp]at hsame
    obtain⟨_,c,t,fr,hc,te,pe,rfl⟩:=hg (2,afU) (by simp [glL])
    have hcell:w.cell? ⟨2,0,none⟩=some (.iface te pe):=by unfold World.cell?;simp only[hc];rfl
    rw[nz _ hsame]
    refine OQ ⟨x.toArray⟩ ⟨(x.drop 5).toArray⟩ w _ _ (fun _=>True) hcut hsz ((Go.Proofs.Any.strconv_ParseInt_10_at64_syntax lQ ⟨(x.drop 5).toArray⟩ (by rw[hsz];decide) hp _ w hcell (.inr ⟨te,pe,rfl⟩)).mono fun e w' ⟨N,he,_,_,hb⟩=>⟨_,he,hb⟩)
  ·have hz:jE [115,110,97,112,46] x=0:=if_neg fun g=>hl g.2.1
   rw[hz]
   refine YU _ _ w hcut fun g=>hl ?_
   have g:(x.drop 5).toArray.size=10:=g
   rwa[List.size_toArray]at g
def aP (p0:Int) (p1:(List aA)) (p2:Int) (v0:Int) (v1:bZ):Option ((Int×bZ) ⊕ ((bZ))):=cnd (ilt v0 p0) (cnd (band (ile 0 v0) (ilt v0 (len p1))) (af (rE (aj p1 (itn v0)).name) fun y0=>af (cnd y0 (gQ p2) (some [])) fun y1=>cnd (band y0 (ax (seq (aj p1 (itn v0)).name y1))) (cnd (ieq v1.e 0) (af (lC v1.d (aj p1 (itn v0)).name) fun y2=>some (Sum.inl (wr .i64 (au v0 1),bZ.mk y2.1 y2.2))) (some (Sum.inl (wr .i64 (au v0 1),v1)))) (some (Sum.inl (wr .i64 (au v0 1),v1)))) none) (some (Sum.inr v1))
def OD:fE:=LSh.spec ⟨304,[(72,.int .i64),(71,.ro .file)],[(11,.mp 336 0),(10,.mp 304 0)],[(304,[.int .i64])],[(73,.int .i64)],[(336,[.val .keeper])],[]⟩ [⟨.exit 1,[],[(336,[.val .keeper])],[]⟩] (sP [(15,1),(73,19)]) (fun p v=>aP p.1 p.2.1 p.2.2 v.1 v.2)
def xO (x0:ah) (x1:aC):Option (ah×Int×Int):=af (sU x1) fun y0=>cnd (ax (ieq y0.2 0)) (some (x0,0,1)) (af (wu x0) fun y1=>cnd (ieq y1.2 1) (some (x0,0,y1.2)) (cnd (ieq y1.2 9) (some (x0,0,y1.2)) (cnd (ile 1000000000 y1.1.gen) (some (x0,0,3)) (af (lS x0 [(UInt8.ofNat 116),(UInt8.ofNat 109),(UInt8.ofNat 112)]) fun y2=>cnd (ieq y2.2 0) (af (lC x0 [(UInt8.ofNat 116),(UInt8.ofNat 109),(UInt8.ofNat 112)]) fun y3=>cnd (ieq y3.2 0) (af (gV y3.1 [(UInt8.ofNat 116),(UInt8.ofNat 109),(UInt8.ofNat 112)] y0.1) fun y4=>cnd (ieq y4.2 0) (af (iM y4.1 [(UInt8.ofNat 116),(UInt8.ofNat 109),(UInt8.ofNat 112)]) fun y5=>cnd (ieq y5.2 0) (af (gQ (wr .i64 (au y1.1.gen 1))) fun y6=>af (kJ y5.1 [(UInt8.ofNat 116),(UInt8.ofNat 109),(UInt8.ofNat 112)] y6) fun y7=>cnd (ieq y7.2 0) (af (iG y7.1 (eF.mk (wr .i64 (au y1.1.gen 1)) x1.lsn)) fun y8=>af (bM (fun v=>aP (len y8.1.files) y8.1.files (wr .i64 (au y1.1.gen 1)) v.1 v.2) LF (0,bZ.mk y8.1 y8.2)) fun y9=>cnd (ax (ieq y9.e 0)) (some (y9.d,0,y9.e)) (some (y9.d,wr .i64 (au y1.1.gen 1),0))) (af (bM (fun v=>aP (len y7.1.files) y7.1.files (wr .i64 (au y1.1.gen 1)) v.1 v.2) LF (0,bZ.mk y7.1 y7.2)) fun y10=>cnd (ax (ieq y10.e 0)) (some (y10.d,0,y10.e)) (some (y10.d,wr .i64 (au y1.1.gen 1),0)))) (cnd (ieq y5.2 0) (af (iG y5.1 (eF.mk (wr .i64 (au y1.1.gen 1)) x1.lsn)) fun y11=>af (bM (fun v=>aP (len y11.1.files) y11.1.files (wr .i64 (au y1.1.gen 1)) v.1 v.2) LF (0,bZ.mk y11.1 y11.2)) fun y12=>cnd (ax (ieq y12.e 0)) (some (y12.d,0,y12.e)) (some (y12.d,wr .i64 (au y1.1.gen 1),0))) (af (bM (fun v=>aP (len y5.1.files) y5.1.files (wr .i64 (au y1.1.gen 1)) v.1 v.2) LF (0,bZ.mk y5.1 y5.2)) fun y13=>cnd (ax (ieq y13.e 0)) (some (y13.d,0,y13.e)) (some (y13.d,wr .i64 (au y1.1.gen 1),0))))) (cnd (ieq y4.2 0) (af (gQ (wr .i64 (au y1.1.gen 1))) fun y14=>af (kJ y4.1 [(UInt8.ofNat 116),(UInt8.ofNat 109),(UInt8.ofNat 112)] y14) fun y15=>cnd (ieq y15.2 0) (af (iG y15.1 (eF.mk (wr .i64 (au y1.1.gen 1)) x1.lsn)) fun y16=>af (bM (fun v=>aP (len y16.1.files) y16.1.files (wr .i64 (au y1.1.gen 1)) v.1 v.2) LF (0,bZ.mk y16.1 y16.2)) fun y17=>cnd (ax (ieq y17.e 0)) (some (y17.d,0,y17.e)) (some (y17.d,wr .i64 (au y1.1.gen 1),0))) (af (bM (fun v=>aP (len y15.1.files) y15.1.files (wr .i64 (au y1.1.gen 1)) v.1 v.2) LF (0,bZ.mk y15.1 y15.2)) fun y18=>cnd (ax (ieq y18.e 0)) (some (y18.d,0,y18.e)) (some (y18.d,wr .i64 (au y1.1.gen 1),0)))) (cnd (ieq y4.2 0) (af (iG y4.1 (eF.mk (wr .i64 (au y1.1.gen 1)) x1.lsn)) fun y19=>af (bM (fun v=>aP (len y19.1.files) y19.1.files (wr .i64 (au y1.1.gen 1)) v.1 v.2) LF (0,bZ.mk y19.1 y19.2)) fun y20=>cnd (ax (ieq y20.e 0)) (some (y20.d,0,y20.e)) (some (y20.d,wr .i64 (au y1.1.gen 1),0))) (af (bM (fun v=>aP (len y4.1.files) y4.1.files (wr .i64 (au y1.1.gen 1)) v.1 v.2) LF (0,bZ.mk y4.1 y4.2)) fun y21=>cnd (ax (ieq y21.e 0)) (some (y21.d,0,y21.e)) (some (y21.d,wr .i64 (au y1.1.gen 1),0)))))) (cnd (ieq y3.2 0) (af (iM y3.1 [(UInt8.ofNat 116),(UInt8.ofNat 109),(UInt8.ofNat 112)]) fun y22=>cnd (ieq y22.2 0) (af (gQ (wr .i64 (au y1.1.gen 1))) fun y23=>af (kJ y22.1 [(UInt8.ofNat 116),(UInt8.ofNat 109),(UInt8.ofNat 112)] y23) fun y24=>cnd (ieq y24.2 0) (af (iG y24.1 (eF.mk (wr .i64 (au y1.1.gen 1)) x1.lsn)) fun y25=>af (bM (fun v=>aP (len y25.1.files) y25.1.files (wr .i64 (au y1.1.gen 1)) v.1 v.2) LF (0,bZ.mk y25.1 y25.2)) fun y26=>cnd (ax (ieq y26.e 0)) (some (y26.d,0,y26.e)) (some (y26.d,wr .i64 (au y1.1.gen 1),0))) (af (bM (fun v=>aP (len y24.1.files) y24.1.files (wr .i64 (au y1.1.gen 1)) v.1 v.2) LF (0,bZ.mk y24.1 y24.2)) fun y27=>cnd (ax (ieq y27.e 0)) (some (y27.d,0,y27.e)) (some (y27.d,wr .i64 (au y1.1.gen 1),0)))) (cnd (ieq y22.2 0) (af (iG y22.1 (eF.mk (wr .i64 (au y1.1.gen 1)) x1.lsn)) fun y28=>af (bM (fun v=>aP (len y28.1.files) y28.1.files (wr .i64 (au y1.1.gen 1)) v.1 v.2) LF (0,bZ.mk y28.1 y28.2)) fun y29=>cnd (ax (ieq y29.e 0)) (some (y29.d,0,y29.e)) (some (y29.d,wr .i64 (au y1.1.gen 1),0))) (af (bM (fun v=>aP (len y22.1.files) y22.1.files (wr .i64 (au y1.1.gen 1)) v.1 v.2) LF (0,bZ.mk y22.1 y22.2)) fun y30=>cnd (ax (ieq y30.e 0)) (some (y30.d,0,y30.e)) (some (y30.d,wr .i64 (au y1.1.gen 1),0))))) (cnd (ieq y3.2 0) (af (gQ (wr .i64 (au y1.1.gen 1))) fun y31=>af (kJ y3.1 [(UInt8.ofNat 116),(UInt8.ofNat 109),(UInt8.ofNat 112)] y31) fun y32=>cnd (ieq y32.2 0) (af (iG y32.1 (eF.mk (wr .i64 (au y1.1.gen 1)) x1.lsn)) fun y33=>af (bM (fun v=>aP (len y33.1.files) y33.1.files (wr .i64 (au y1.1.gen 1)) v.1 v.2) LF (0,bZ.mk y33.1 y33.2)) fun y34=>cnd (ax (ieq y34.e 0)) (some (y34.d,0,y34.e)) (some (y34.d,wr .i64 (au y1.1.gen 1),0))) (af (bM (fun v=>aP (len y32.1.files) y32.1.files (wr .i64 (au y1.1.gen 1)) v.1 v.2) LF (0,bZ.mk y32.1 y32.2)) fun y35=>cnd (ax (ieq y35.e 0)) (some (y35.d,0,y35.e)) (some (y35.d,wr .i64 (au y1.1.gen 1),0)))) (cnd (ieq y3.2 0) (af (iG y3.1 (eF.mk (wr .i64 (au y1.1.gen 1)) x1.lsn)) fun y36=>af (bM (fun v=>aP (len y36.1.files) y36.1.files (wr .i64 (au y1.1.gen 1)) v.1 v.2) LF (0,bZ.mk y36.1 y36.2)) fun y37=>cnd (ax (ieq y37.e 0)) (some (y37.d,0,y37.e)) (some (y37.d,wr .i64 (au y1.1.gen 1),0))) (af (bM (fun v=>aP (len y3.1.files) y3.1.files (wr .i64 (au y1.1.gen 1)) v.1 v.2) LF (0,bZ.mk y3.1 y3.2)) fun y38=>cnd (ax (ieq y38.e 0)) (some (y38.d,0,y38.e)) (some (y38.d,wr .i64 (au y1.1.gen 1),0))))))) (af (gV x0 [(UInt8.ofNat 116),(UInt8.ofNat 109),(UInt8.ofNat 112)] y0.1) fun y39=>cnd (ieq y39.2 0) (af (iM y39.1 [(UInt8.ofNat 116),(UInt8.ofNat 109),(UInt8.ofNat 112)]) fun y40=>cnd (ieq y40.2 0) (af (gQ (wr .i64 (au y1.1.gen 1))) fun y41=>af (kJ y40.1 [(UInt8.ofNat 116),(UInt8.ofNat 109),(UInt8.ofNat 112)] y41) fun y42=>cnd (ieq y42.2 0) (af (iG y42.1 (eF.mk (wr .i64 (au y1.1.gen 1)) x1.lsn)) fun y43=>af (bM (fun v=>aP (len y43.1.files) y43.1.files (wr .i64 (au y1.1.gen 1)) v.1 v.2) LF (0,bZ.mk y43.1 y43.2)) fun y44=>cnd (ax (ieq y44.e 0)) (some (y44.d,0,y44.e)) (some (y44.d,wr .i64 (au y1.1.gen 1),0))) (af (bM (fun v=>aP (len y42.1.files) y42.1.files (wr .i64 (au y1.1.gen 1)) v.1 v.2) LF (0,bZ.mk y42.1 y42.2)) fun y45=>cnd (ax (ieq y45.e 0)) (some (y45.d,0,y45.e)) (some (y45.d,wr .i64 (au y1.1.gen 1),0)))) (cnd (ieq y40.2 0) (af (iG y40.1 (eF.mk (wr .i64 (au y1.1.gen 1)) x1.lsn)) fun y46=>af (bM (fun v=>aP (len y46.1.files) y46.1.files (wr .i64 (au y1.1.gen 1)) v.1 v.2) LF (0,bZ.mk y46.1 y46.2)) fun y47=>cnd (ax (ieq y47.e 0)) (some (y47.d,0,y47.e)) (some (y47.d,wr .i64 (au y1.1.gen 1),0))) (af (bM (fun v=>aP (len y40.1.files) y40.1.files (wr .i64 (au y1.1.gen 1)) v.1 v.2) LF (0,bZ.mk y40.1 y40.2)) fun y48=>cnd (ax (ieq y48.e 0)) (some (y48.d,0,y48.e)) (some (y48.d,wr .i64 (au y1.1.gen 1),0))))) (cnd (ieq y39.2 0) (af (gQ (wr .i64 (au y1.1.gen 1))) fun y49=>af (kJ y39.1 [(UInt8.ofNat 116),(UInt8.ofNat 109),(UInt8.ofNat 112)] y49) fun y50=>cnd (ieq y50.2 0) (af (iG y50.1 (eF.mk (wr .i64 (au y1.1.gen 1)) x1.lsn)) fun y51=>af (bM (fun v=>aP (len y51.1.files) y51.1.files (wr .i64 (au y1.1.gen 1)) v.1 v.2) LF (0,bZ.mk y51.1 y51.2)) fun y52=>cnd (ax (ieq y52.e 0)) (some (y52.d,0,y52.e)) (some (y52.d,wr .i64 (au y1.1.gen 1),0))) (af (bM (fun v=>aP (len y50.1.files) y50.1.files (wr .i64 (au y1.1.gen 1)) v.1 v.2) LF (0,bZ.mk y50.1 y50.2)) fun y53=>cnd (ax (ieq y53.e 0)) (some (y53.d,0,y53.e)) (some (y53.d,wr .i64 (au y1.1.gen 1),0)))) (cnd (ieq y39.2 0) (af (iG y39.1 (eF.mk (wr .i64 (au y1.1.gen 1)) x1.lsn)) fun y54=>af (bM (fun v=>aP (len y54.1.files) y54.1.files (wr .i64 (au y1.1.gen 1)) v.1 v.2) LF (0,bZ.mk y54.1 y54.2)) fun y55=>cnd (ax (ieq y55.e 0)) (some (y55.d,0,y55.e)) (some (y55.d,wr .i64 (au y1.1.gen 1),0))) (af (bM (fun v=>aP (len y39.1.files) y39.1.files (wr .i64 (au y1.1.gen 1)) v.1 v.2) LF (0,bZ.mk y39.1 y39.2)) fun y56=>cnd (ax (ieq y56.e 0)) (some (y56.d,0,y56.e)) (some (y56.d,wr .i64 (au y1.1.gen 1),0))))))))))
def Kw:aI:=mkSpec [.val .disk,.val .state] [.val .disk,.int .i64,.int .i64] false (fun x=>xO x.1 x.2)
theorem YB:dm PG 74 Kw:=okP [(134,KC),(135,Fh),(136,Ar),(150,BO),(140,xA),(142,Af),(145,KN),(144,IJ),(147,Ky),(148,Eg)] [4095,137,215,138,139,141,143,146] [(74,65530,OD)] ⟨Y0,RZ,J7,MJ,FD,JM,O5,WZ,YE,RN,trivial⟩ (fun K=>⟨mg K fun p v=>by kernel_rfl,trivial⟩) fun x=>by kernel_rfl
def wS (x0:aN):Option (aN×(List kM)×Int):=af (nX x0) fun y0=>cnd (ax (ieq y0.2.2 0)) (some y0) (af (xO y0.1.disk y0.1.state) fun y1=>cnd (ieq y1.2.2 0) (af (zh y0.1.wal y1.1 y0.1.state.lsn) fun y2=>cnd (ieq y2.2 0) (some (aN.mk y2.1 y0.1.wal y0.1.state y0.1.outbox y0.1.feed y1.2.1 y0.1.up,y0.2.1,y2.2)) (cnd y2.1.down (af (qh (aN.mk y2.1 y0.1.wal y0.1.state y0.1.outbox y0.1.feed y0.1.gen y0.1.up)) fun y3=>some (y3,y0.2.1,y2.2)) (some (aN.mk y2.1 y0.1.wal y0.1.state y0.1.outbox y0.1.feed y0.1.gen y0.1.up,y0.2.1,y2.2)))) (cnd (ieq y1.2.2 0) (some (aN.mk y1.1 y0.1.wal y0.1.state y0.1.outbox y0.1.feed y1.2.1 y0.1.up,y0.2.1,y1.2.2)) (cnd y1.1.down (af (qh (aN.mk y1.1 y0.1.wal y0.1.state y0.1.outbox y0.1.feed y0.1.gen y0.1.up)) fun y4=>some (y4,y0.2.1,y1.2.2)) (some (aN.mk y1.1 y0.1.wal y0.1.state y0.1.outbox y0.1.feed y0.1.gen y0.1.up,y0.2.1,y1.2.2)))))
def F5:aI:=mkSpec [.val .gate] [.val .gate,.buf .msg,.int .i64] false (fun x=>wS x)
theorem SH:dm PG 22 F5:=okN [(17,tK),(74,Kw),(75,Hw),(72,Ah)] [4095] ⟨CU,YB,UQ,JH,trivial⟩ fun x=>by kernel_rfl
def mQ:Option (Bool):=af (qc 5000 (jL.mk 50 50 500) 900) fun y0=>af (qQ y0.1 (jm.mk 1 1 0 0 1 4 2 0 0 0 false 0 0)) fun y1=>af (nX y1.1) fun y2=>af (vO y1.1 (jm.mk 5 0 0 0 0 0 0 0 0 0 true 0 0)) fun y3=>af (wS y3.1) fun y4=>cnd (bor (ilt 0 (len y2.2.1)) (ax (band (band (band (band (band (band (band y0.2 (ieq y1.2 0)) (ieq y2.2.2 0)) (ieq y3.2.2 0)) (ieq y4.2.2 0)) (ieq (len y1.1.outbox) 1)) (ieq (len y2.1.outbox) 0)) (ieq (len y2.2.1) 1)))) (some (band (band (band (band (band (band (band (band (band (band (band (band y0.2 (ieq y1.2 0)) (ieq y2.2.2 0)) (ieq y3.2.2 0)) (ieq y4.2.2 0)) (ieq (len y1.1.outbox) 1)) (ieq (len y2.1.outbox) 0)) (ieq (len y2.2.1) 1)) (ieq (aj y2.2.1 0).lsn 1)) (ieq (len y3.2.1) 1)) y3.1.state.kill) (ieq y4.1.gen 1)) (ieq y2.1.wal.sure 1))) none
def zU:aI:=mkSpec [] [.bool] true (fun _=>mQ)
theorem KX:dm PG 8 zU:=okN [(28,zF),(12,BG),(17,tK),(20,FB),(22,F5)] [4095] ⟨Lh,MW,CU,QY,SH,trivial⟩ fun x=>by kernel_rfl
def kH (p0:ah) (v0:Int) (v1:Int) (v2:Bool):Option ((Int×Int×Bool) ⊕ ((Bool) ⊕ ((Int×Bool)))):=cnd (ilt v0 (len p0.files)) (cnd (band (ile 0 v0) (ilt v0 (len p0.files))) (cnd (bor (band (ile 0 v0) (ilt v0 (len p0.files))) (ax (ax (ilt 70000 (len (aj p0.files (itn v0)).data))))) (cnd (bor (ilt 70000 (len (aj p0.files (itn v0)).data)) (ilt 100 (len (aj p0.files (itn v0)).name))) (some (Sum.inr (Sum.inl false))) (cnd (band (ile 0 v0) (ilt v0 (len p0.files))) (some (Sum.inl (wr .i64 (au v0 1),wr .i64 (au v1 (len (aj p0.files (itn v0)).data)),v2))) none)) none) none) (some (Sum.inr (Sum.inr (v1,v2))))
def Gh:fE:=LSh.spec ⟨73,[],[(1,.mp 8 0)],[(8,[.val .disk])],[(4,.int .i64),(3,.int .i64),(2,.bool)],[],[]⟩ [⟨.ret,[(2,.bool)],[],[]⟩,⟨.exit 0,[(3,.int .i64),(2,.bool)],[],[]⟩] (sP [(2,3),(9,34)]) (fun p v=>kH p v.1 v.2.1 v.2.2)
def qm (x0:ah):Option (Bool):=cnd (ilt 70 (len x0.files)) (some false) (af (bM (fun v=>kH x0 v.1 v.2.1 v.2.2) LF (0,0,false)) fun y0=>jB y0 (fun y1=>some y1) fun y1=>some (ile y1.1 70000))
def zA:aI:=mkSpec [.val .disk] [.bool] true (fun x=>qm x)
theorem KR:dm PG 34 zA:=okP [] [] [(34,122,Gh)] trivial (fun K=>⟨mg K fun p v=>by kernel_rfl,trivial⟩) fun x=>by kernel_rfl
def qi (x0:aC):Option (Bool):=some (band (band (band (ile (len x0.orders) 70) (ile (len x0.cells) 70)) (ile (len x0.limits) 70)) (ile (len x0.caps) 70))
def zB:aI:=mkSpec [.val .state] [.bool] true (fun x=>qi x)
theorem KY:dm PG 35 zB:=okN [] [] trivial fun x=>by kernel_rfl
def qj (x0:aN):Option (Bool):=af (qm x0.disk) fun y0=>af (cnd y0 (qi x0.state) (some false)) fun y1=>some (band (band (band (band y0 y1) (ile (len x0.wal.wait) 40)) (ile (len x0.outbox) 99)) (ile (len x0.feed.held) 99))
def zI:aI:=mkSpec [.val .gate] [.bool] true (fun x=>qj x)
theorem Lj:dm PG 9 zI:=okN [(34,zA),(35,zB)] [] ⟨KR,KY,trivial⟩ fun x=>by kernel_rfl
def yL (p0:Int) (p1:(List gq)) (p2:Int) (v0:Int) (v1:Int):Option ((Int×Int) ⊕ ((Int) ⊕ ((Int)))):=cnd (ilt v0 p0) (cnd (band (ile 0 v0) (ilt v0 (len p1))) (cnd (ax (ieq (aj p1 (itn v0)).seq (wr .i64 (au p2 v0)))) (some (Sum.inr (Sum.inl v0))) (some (Sum.inl (wr .i64 (au v0 1),v1)))) none) (some (Sum.inr (Sum.inr v1)))
def XT:fE:=LSh.spec ⟨70,[(8,.int .i64),(7,.ro .note),(1,.int .i64)],[],[],[(9,.int .i64),(4,.int .i64)],[],[]⟩ [⟨.ret,[(4,.int .i64)],[],[]⟩,⟨.exit 0,[(4,.int .i64)],[],[]⟩] (sP [(4,3),(9,13)]) (fun p v=>yL p.1 p.2.1 p.2.2 v.1 v.2)
def CP (x0:(List gq)) (x1:Int):Option (Int):=af (bM (fun v=>yL (len x0) x0 x1 v.1 v.2) LF (0,0)) fun y0=>jB y0 (fun y1=>some y1) fun y1=>some (len x0)
def Pn:aI:=mkSpec [.ro .note,.int .i64] [.int .i64] true (fun x=>CP x.1 x.2)
theorem adk:dm PG 120 Pn:=okP [] [] [(120,26,XT)] trivial (fun K=>⟨mg K fun p v=>by kernel_rfl,trivial⟩) fun x=>by kernel_rfl
def fQ (x0:(List gq)):Option ((List gq)):=MG (len x0) fun y0=>cnd (beq y0 true) (some []) (cnd (ile (len x0) 68719476736) (some x0) none)
def wR:aI:=mkSpec [.ro .note] [.buf .note] true (fun x=>fQ x)
theorem Hz:dm PG 121 wR:=okN [] [] trivial fun x=>by kernel_rfl
def dh (p0:(List gq)) (p1:Int) (v0:Int) (v1:Int):Option ((Int×Int) ⊕ ((Int))):=cnd (ilt v1 v0) (cnd (band (ile 0 (wr .i64 (bP .u64 (wr .u64 (wr .i64 (au v1 v0))) 1))) (ilt (wr .i64 (bP .u64 (wr .u64 (wr .i64 (au v1 v0))) 1)) (len p0))) (cnd (ilt (wr .i64 (aB (aj p0 (itn (wr .i64 (bP .u64 (wr .u64 (wr .i64 (au v1 v0))) 1)))).seq p1)) 0) (some (Sum.inl (v0,wr .i64 (au (wr .i64 (bP .u64 (wr .u64 (wr .i64 (au v1 v0))) 1)) 1)))) (some (Sum.inl (wr .i64 (bP .u64 (wr .u64 (wr .i64 (au v1 v0))) 1),v1)))) none) (some (Sum.inr v1))
def kE:fE:=LSh.spec ⟨83,[(0,.ro .note),(1,.int .i64)],[(2,.fn 193 [])],[],[(10,.int .i64),(9,.int .i64)],[],[]⟩ [⟨.exit 0,[(9,.int .i64)],[],[]⟩] (sP [(9,3),(15,20)]) (fun p v=>dh p.1 p.2 v.1 v.2)
def xJ (x0:(List gq)) (x1:Int):Option (Int×Bool):=af (bM (fun v=>dh x0 x1 v.1 v.2) LF (len x0,0)) fun y0=>cnd (bor (band (ile 0 y0) (ilt y0 (len x0))) (ax (ilt y0 (len x0)))) (cnd (ilt y0 (len x0)) (some (y0,band (ilt y0 (len x0)) (ieq (wr .i64 (aB (aj x0 (itn y0)).seq x1)) 0))) (some (y0,bor (ilt y0 (len x0)) false))) none
def KL:aI:=mkSpec [.ro .note,.int .i64] [.int .i64,.bool] true (fun x=>xJ x.1 x.2)
theorem Y1:dm PG 122 KL:=okP [] [192,193] [(523986055360,60,kE)] trivial (fun K=>⟨mg K fun p v=>by kernel_rfl,trivial⟩) fun x=>by kernel_rfl
def kF (x0:(List gq)) (x1:Int) (x2:(List gq)):Option ((List gq)):=match x2 with | [n]=>cnd (band (ile 0 x1) (band (ile x1 (len x0)) (ile (au (len x0) 1) 68719476736))) (some (dB (ay x0 (itn x1)) (n::aF x0 (itn x1)))) none | _=>none
noncomputable def Ib:Cx:={ P:=PG,ety:=ety,fn:=look [],inl:=amD [],lp:=Qe [] }
def uM:aI:=Gv .note (fun x=>kF x.1 x.2.1 x.2.2)
theorem Gq:dm PG 123 uM:=
 have K:CxR Ib:=Cj.cx (fun _=>rfl) (l:=[]) trivial
 aak K 123 (ahh PG 123) (ahh PG ((BL (ahh PG 123)).f 29)) (by kernel_rfl) (by kernel_rfl) (by kernel_rfl) (by kernel_rfl) (by kernel_rfl) (e:= .note) (by kernel_rfl) (by kernel_rfl) (by kernel_rfl) (by kernel_rfl) (by kernel_rfl) (by kernel_rfl) rfl (fun x y h=>by obtain⟨l,k,xs⟩:=x;match xs,h with | [],h=>exact h | [_],h=>exact h | _::_::_,h=>exact h)
def GK (x0:mY) (x1:gq) (x2:Int):Option (mY×(List gq)×Int):=af (xI x0 x2) fun y0=>cnd (ax y0) (cnd (ax y0) (some (x0,[],1)) (cnd (ilt x1.seq x2) (some (x0,[],0)) (cnd (ilt (wr .i64 (au x2 8)) x1.seq) (some (mY.mk x0.held true,[],0)) (cnd (ieq x1.seq x2) (af (CP x0.held (wr .i64 (au x2 1))) fun y1=>cnd (band (ile 0 (len x0.held)) (ile 0 (len x0.held))) (cnd (band (ile (len (dB (nol x0.held) [x1])) 68719476736) (bor (ieq (len (nol x0.held)) 0) true)) (cnd (band (ile 0 y1) (ile y1 (len x0.held))) (cnd (ile (len (dB (dB (nol x0.held) [x1]) (ay x0.held (itn y1)))) 68719476736) (cnd (band (ile 0 y1) (ile y1 (len x0.held))) (af (fQ (aF x0.held (itn y1))) fun y2=>some (mY.mk y2 x0.gap,dB (dB (nol x0.held) [x1]) (ay x0.held (itn y1)),0)) none) none) none) none) none) (af (xJ x0.held x1.seq) fun y3=>cnd (ax y3.2) (af (fQ x0.held) fun y4=>af (kF y4 y3.1 [x1]) fun y5=>some (mY.mk y5 x0.gap,[],0)) (some (x0,[],0))))))) (cnd (ilt x1.seq 1) (cnd (ilt x1.seq 1) (some (x0,[],1)) (cnd (ilt x1.seq x2) (some (x0,[],0)) (cnd (ilt (wr .i64 (au x2 8)) x1.seq) (some (mY.mk x0.held true,[],0)) (cnd (ieq x1.seq x2) (af (CP x0.held (wr .i64 (au x2 1))) fun y6=>cnd (band (ile 0 (len x0.held)) (ile 0 (len x0.held))) (cnd (band (ile (len (dB (nol x0.held) [x1])) 68719476736) (bor (ieq (len (nol x0.held)) 0) true)) (cnd (band (ile 0 y6) (ile y6 (len x0.held))) (cnd (ile (len (dB (dB (nol x0.held) [x1]) (ay x0.held (itn y6)))) 68719476736) (cnd (band (ile 0 y6) (ile y6 (len x0.held))) (af (fQ (aF x0.held (itn y6))) fun y7=>some (mY.mk y7 x0.gap,dB (dB (nol x0.held) [x1]) (ay x0.held (itn y6)),0)) none) none) none) none) none) (af (xJ x0.held x1.seq) fun y8=>cnd (ax y8.2) (af (fQ x0.held) fun y9=>af (kF y9 y8.1 [x1]) fun y10=>some (mY.mk y10 x0.gap,[],0)) (some (x0,[],0))))))) (cnd (ilt 1000000000 x1.seq) (some (x0,[],1)) (cnd (ilt x1.seq x2) (some (x0,[],0)) (cnd (ilt (wr .i64 (au x2 8)) x1.seq) (some (mY.mk x0.held true,[],0)) (cnd (ieq x1.seq x2) (af (CP x0.held (wr .i64 (au x2 1))) fun y11=>cnd (band (ile 0 (len x0.held)) (ile 0 (len x0.held))) (cnd (band (ile (len (dB (nol x0.held) [x1])) 68719476736) (bor (ieq (len (nol x0.held)) 0) true)) (cnd (band (ile 0 y11) (ile y11 (len x0.held))) (cnd (ile (len (dB (dB (nol x0.held) [x1]) (ay x0.held (itn y11)))) 68719476736) (cnd (band (ile 0 y11) (ile y11 (len x0.held))) (af (fQ (aF x0.held (itn y11))) fun y12=>some (mY.mk y12 x0.gap,dB (dB (nol x0.held) [x1]) (ay x0.held (itn y11)),0)) none) none) none) none) none) (af (xJ x0.held x1.seq) fun y13=>cnd (ax y13.2) (af (fQ x0.held) fun y14=>af (kF y14 y13.1 [x1]) fun y15=>some (mY.mk y15 x0.gap,[],0)) (some (x0,[],0))))))))
def MQ:aI:=mkSpec [.val .feed,.val .note,.int .i64] [.val .feed,.buf .note,.int .i64] false (fun x=>GK x.1 x.2.1 x.2.2)
theorem aaE:dm PG 64 MQ:=okN [(42,DY),(120,Pn),(121,wR),(122,KL),(123,uM)] [] ⟨O4,adk,Hz,Y1,Gq,trivial⟩ fun x=>by kernel_rfl
def oI (p0:Int) (p1:(List gq)) (p2:aN) (v0:Int) (v1:Int) (v2:Int) (v3:aN) (v4:aN):Option ((Int×Int×Int×aN×aN) ⊕ ((Int×aN×aN) ⊕ ((Int×Int×aN×aN)))):=cnd (ilt v0 p0) (cnd (band (ile 0 v0) (ilt v0 (len p1))) (af (og (aj p1 (itn v0))) fun y0=>af (qf v3 y0) fun y1=>cnd (ax (ieq y1.2 0)) (some (Sum.inr (Sum.inl (y1.2,y1.1,p2)))) (some (Sum.inl (wr .i64 (au v0 1),y1.2,v2,y1.1,v4)))) none) (some (Sum.inr (Sum.inr (v1,v2,v3,v4))))
def Rk:fE:=LSh.spec ⟨121,[(62,.int .i64),(61,.ro .note)],[(10,.mp 416 0),(4,.mp 32 0),(2,.mp 16 0)],[(16,[.val .gate])],[(63,.int .i64),(9,.int .i64),(5,.int .i64)],[(416,[.val .gate]),(32,[.val .gate])],[]⟩ [⟨.ret,[(5,.int .i64)],[(416,[.val .gate]),(32,[.val .gate])],[]⟩,⟨.exit 1,[(9,.int .i64),(5,.int .i64)],[(416,[.val .gate]),(32,[.val .gate])],[]⟩] (sP [(5,1),(9,1),(12,1),(63,16)]) (fun p v=>oI p.1 p.2.1 p.2.2 v.1 v.2.1 v.2.2.1 v.2.2.2.1 v.2.2.2.2)
def G6 (x0:aN) (x1:gq):Option (aN×Int):=af (nZ x0) fun y0=>cnd (ax (ieq y0 0)) (some (x0,y0)) (af (og x1) fun y1=>af (ng y1) fun y2=>cnd (ax y2) (some (x0,1)) (af (GK x0.feed x1 (wr .i64 (au x0.state.seq 1))) fun y3=>cnd (ax (ieq y3.2.2 0)) (some (x0,y3.2.2)) (cnd (ilt 1000000000 (wr .i64 (au x0.state.lsn (len y3.2.1)))) (some (x0,3)) (cnd (ilt 32 (wr .i64 (au (len y3.2.1) (len x0.wal.wait)))) (some (x0,6)) (af (bM (fun v=>oI (len y3.2.1) y3.2.1 x0 v.1 v.2.1 v.2.2.1 v.2.2.2.1 v.2.2.2.2) LF (0,y3.2.2,0,x0,aN.mk (ah.mk [] 0 0 false) (dZ.mk 0 0 0 0 0 []) (aC.mk 0 0 [] [] [] [] false 0 0 0) [] (mY.mk [] false) 0 false)) fun y4=>jB y4 (fun y5=>some (y5.2.2,y5.1)) fun y5=>some (aN.mk y5.2.2.1.disk y5.2.2.1.wal y5.2.2.1.state y5.2.2.1.outbox y3.1 y5.2.2.1.gen y5.2.2.1.up,0))))))
def Ny:aI:=mkSpec [.val .gate,.val .note] [.val .gate,.int .i64] false (fun x=>G6 x.1 x.2)
theorem abt:dm PG 15 Ny:=okP [(54,uh),(29,yV),(40,mZ),(64,MQ),(55,yU)] [4095] [(15,1018,Rk)] ⟨C9,Ie,sN,aaE,Io,trivial⟩ (fun K=>⟨mg K fun p v=>by kernel_rfl,trivial⟩) fun x=>by kernel_rfl
def ru (x0:aN) (x1:IG):Option (aN×(List kM)×Int):=cnd (ieq (zY x1.kind 6) 0) (af (qQ x0 x1.r) fun y0=>some (y0.1,[],y0.2)) (cnd (ieq (zY x1.kind 6) 1) (af (G6 x0 x1.n) fun y1=>some (y1.1,[],y1.2)) (cnd (ieq (zY x1.kind 6) 2) (af (nX x0) fun y2=>some y2) (cnd (ieq (zY x1.kind 6) 3) (af (vO x0 x1.r) fun y3=>some y3) (cnd (ieq (zY x1.kind 6) 4) (af (wS x0) fun y4=>some y4) (some (aN.mk (ah.mk x0.disk.files x0.disk.room (wr .i64 (aB (zY (wr .i64 x1.fuse) 30) 1)) x0.disk.down) x0.wal x0.state x0.outbox x0.feed x0.gen x0.up,[],0))))))
def Ad:aI:=mkSpec [.val .gate,.val .deed] [.val .gate,.buf .msg,.int .i64] false (fun x=>ru x.1 x.2)
theorem LQ:dm PG 24 Ad:=okN [(12,BG),(15,Ny),(17,tK),(20,FB),(22,F5)] [4095] ⟨MW,abt,CU,QY,SH,trivial⟩ fun x=>by kernel_rfl
def jg (p0:(List IG)) (v0:Int) (v1:Bool) (v2:aN):Option ((Int×Bool×aN) ⊕ ((Bool×aN) ⊕ ((Bool×aN)))):=cnd (ilt v0 (len p0)) (cnd (band (ile 0 v0) (ilt v0 (len p0))) (af (ru v2 (aj p0 (itn v0))) fun y0=>af (mG y0.1) fun y1=>cnd (bor (bor (ax y1) (band (band (ax y0.1.up) v2.up) (ax (ieq y0.2.2 9)))) (band y0.1.up (ieq y0.2.2 9))) (some (Sum.inr (Sum.inl (false,v2)))) (some (Sum.inl (wr .i64 (au v0 1),v1,y0.1)))) none) (some (Sum.inr (Sum.inr (v1,v2))))
def Dj:fE:=LSh.spec ⟨84,[(1,.ro .deed)],[(2,.mp 16 0)],[],[(5,.int .i64),(4,.bool)],[(16,[.val .gate])],[]⟩ [⟨.ret,[(4,.bool)],[(16,[.val .gate])],[]⟩,⟨.exit 0,[(4,.bool)],[(16,[.val .gate])],[]⟩] (sP [(4,5),(24,41)]) (fun p v=>jg p v.1 v.2.1 v.2.2)
def qG (x0:aN) (x1:(List IG)):Option (Bool):=af mQ fun y0=>cnd (ax y0) (some false) (af (qj x0) fun y1=>af (cnd (ax (bor (ax y1) (ilt 40 (len x1)))) (mG x0) (some false)) fun y2=>cnd (bor (bor (ax y1) (ilt 40 (len x1))) (ax y2)) (some true) (af (bM (fun v=>jg x1 v.1 v.2.1 v.2.2) LF (0,false,x0)) fun y3=>jB y3 (fun y4=>some y4.1) fun y4=>some true))
def Ew:aI:=mkSpec [.val .gate,.ro .deed] [.bool] true (fun x=>qG x.1 x.2)
theorem Gj:dm PG 4 Ew:=okP [(8,zU),(9,zI),(10,yT),(24,Ad)] [4095] [(4,122,Dj)] ⟨KX,Lj,H7,LQ,trivial⟩ (fun K=>⟨mg K fun p v=>by kernel_rfl,trivial⟩) fun x=>by kernel_rfl
end
end Go.Av
