/- The functions that this claim reaches, each as a plain function; each is what its text comes to. No condition. -/
import Derived.Test.YtcodkbclgbcehaaGreatDoorAvE
import Derived.Test.YtcodkbclgbcehaaGreatDoorProg
import Derived.KernelRfl
import Derived.Shelf.Small.Wraps
import Derived.Shelf.Strconv.ParseIntPublic10
import Derived.WalkKit
import Derived.Laws.RangeAny
set_option linter.unusedVariables false
set_option linter.unusedSimpArgs false
set_option linter.unnecessarySimpa false
namespace Go.Av
open Go
def avm:List (Nat×E):=[(2,.i64),(3,.i64),(4,.bool),(5,.u8),(6,.u8),(9,.str),(10,.str),(11,.str),(24,.disk),(27,.wal),(33,.state),(37,.feed),(39,.gate),(41,.recd),(43,.note),(46,.i64),(57,.went),(75,.expo),(83,.msg),(90,.a6),(92,.frame),(105,.order),(132,.bts),(134,.file),(136,.cell),(159,.state),(199,.slot),(204,.keeper),(285,.a20),(366,.bts),(371,.bts),(382,.i64),(391,.a3),(422,.u8),(423,.u8)]
def ety (t:Nat):Option E:=look avm t
noncomputable abbrev PG:Program:=Go.Proofs.Tryz.prog
noncomputable section
theorem avU:EOk PG 2 .i64:=lF (by kernel_rfl) (by kernel_rfl)
theorem avu:EOk PG 3 .i64:=lF (by kernel_rfl) (by kernel_rfl)
theorem avJ:EOk PG 4 .bool:=lF (by kernel_rfl) (by kernel_rfl)
theorem avf:EOk PG 5 .u8:=lF (by kernel_rfl) (by kernel_rfl)
theorem avv:EOk PG 6 .u8:=lF (by kernel_rfl) (by kernel_rfl)
theorem avg:EOk PG 9 .str:=lF (by kernel_rfl) (by kernel_rfl)
theorem auZ:EOk PG 10 .str:=lF (by kernel_rfl) (by kernel_rfl)
theorem aue:EOk PG 11 .str:=lF (by kernel_rfl) (by kernel_rfl)
theorem atL:EOk PG 24 .disk:=lF (by kernel_rfl) (by kernel_rfl)
theorem auj:EOk PG 27 .wal:=lF (by kernel_rfl) (by kernel_rfl)
theorem at6:EOk PG 33 .state:=lF (by kernel_rfl) (by kernel_rfl)
theorem auk:EOk PG 37 .feed:=lF (by kernel_rfl) (by kernel_rfl)
theorem auA:EOk PG 39 .gate:=lF (by kernel_rfl) (by kernel_rfl)
theorem atJ:EOk PG 41 .recd:=lF (by kernel_rfl) (by kernel_rfl)
theorem au0:EOk PG 43 .note:=lF (by kernel_rfl) (by kernel_rfl)
theorem auH:EOk PG 46 .i64:=lF (by kernel_rfl) (by kernel_rfl)
theorem auE:EOk PG 57 .went:=lF (by kernel_rfl) (by kernel_rfl)
theorem atV:EOk PG 75 .expo:=lF (by kernel_rfl) (by kernel_rfl)
theorem atQ:EOk PG 83 .msg:=lF (by kernel_rfl) (by kernel_rfl)
theorem aul:EOk PG 90 .a6:=lF (by kernel_rfl) (by kernel_rfl)
theorem auX:EOk PG 92 .frame:=lF (by kernel_rfl) (by kernel_rfl)
theorem arY:EOk PG 105 .order:=lF (by kernel_rfl) (by kernel_rfl)
theorem asD:EOk PG 132 .bts:=lF (by kernel_rfl) (by kernel_rfl)
theorem as4:EOk PG 134 .file:=lF (by kernel_rfl) (by kernel_rfl)
theorem asB:EOk PG 136 .cell:=lF (by kernel_rfl) (by kernel_rfl)
theorem asj:EOk PG 159 .state:=lF (by kernel_rfl) (by kernel_rfl)
theorem arH:EOk PG 199 .slot:=lF (by kernel_rfl) (by kernel_rfl)
theorem asN:EOk PG 204 .keeper:=lF (by kernel_rfl) (by kernel_rfl)
theorem asl:EOk PG 285 .a20:=lF (by kernel_rfl) (by kernel_rfl)
theorem asK:EOk PG 366 .bts:=lF (by kernel_rfl) (by kernel_rfl)
theorem asZ:EOk PG 371 .bts:=lF (by kernel_rfl) (by kernel_rfl)
theorem ase:EOk PG 382 .i64:=lF (by kernel_rfl) (by kernel_rfl)
theorem ar1:EOk PG 391 .a3:=lF (by kernel_rfl) (by kernel_rfl)
theorem asi:EOk PG 422 .u8:=lF (by kernel_rfl) (by kernel_rfl)
theorem arG:EOk PG 423 .u8:=lF (by kernel_rfl) (by kernel_rfl)
theorem IC:NZ PG avm:=⟨by kernel_rfl,⟨avU,avu,avJ,avf,avv,avg,auZ,aue,atL,auj,at6,auk,auA,atJ,au0,auH,auE,atV,atQ,aul,auX,arY,asD,as4,asB,asj,arH,asN,asl,asK,asZ,ase,ar1,asi,arG,azv⟩,by kernel_rfl,by kernel_rfl,by kernel_rfl⟩
end
noncomputable section
def cX (l:List (Nat×aA)) (i:List Nat) (p:List (Nat×Nat×dB)):Cx:={ P:=PG,ety:=ety,fn:=look l,inl:=au2 i,lp:=ZU p }
theorem cxK {l:List (Nat×aA)} {i:List Nat} {p:List (Nat×Nat×dB)} (h:ac9 PG l):CxR (cX l i p):=IC.cx (fun _=>rfl) h
theorem okP {f:Nat} {xs rs:List Sh} {s:Bool} {run:Tup xs->Option (Tup rs)} (l:List (Nat×aA)) (i:List Nat) (p:List (Nat×Nat×dB)) (h:ac9 PG l) (hp:CxR (cX l i p)->acJ (cX l i p) p)
 (hr:∀x,ahm (cX l i p) f xs rs x=run x:=by intro x;kernel_rfl) (hb:hasB PG f=true:=by kernel_rfl) (h3:(Nat.ble rs.length 8&&(xs.all ah4&&rs.all ah4))=true:=by kernel_rfl) (h4:(!s||rs.all Ze)=true:=by kernel_rfl):bY PG f (mkSpec xs rs s run):=
 ak1 (cxK h) (aj3 (l:=p) rfl (hp (cxK h))) hb (fun x y e=>(hr x).trans e) h3 h4
theorem okN {f:Nat} {xs rs:List Sh} {s:Bool} {run:Tup xs->Option (Tup rs)} (l:List (Nat×aA)) (i:List Nat) (h:ac9 PG l)
 (hr:∀x,ahm (cX l i []) f xs rs x=run x:=by intro x;kernel_rfl) (hb:hasB PG f=true:=by kernel_rfl) (h3:(Nat.ble rs.length 8&&(xs.all ah4&&rs.all ah4))=true:=by kernel_rfl) (h4:(!s||rs.all Ze)=true:=by kernel_rfl):bY PG f (mkSpec xs rs s run):=
 okP l i [] h (fun _=>trivial) hr hb h3 h4
theorem fZ {C:Cx} (K:CxR C) {s:LSh} {os:List zB} {D:List Nat} {step:Tup s.pk->Tup s.vk->Option (Tup s.vk ⊕ agn os)} {pf pos:Nat} (hs:∀p v,aoa C 900 pf pos (ach C.P (pf%4096) pos) s os p v=step p v:=by intro p v;kernel_rfl)
 (h2:Nat.blt (Nat.log2 pos) 301=true:=by kernel_rfl) (h3:s.good D=true:=by kernel_rfl) (h4:os.all (zB.good s)=true:=by kernel_rfl) (h5:Va D (ach C.P (pf%4096) pos)=true:=by kernel_rfl):
 ∀c,At C.P pf pos (.loop c)->BA C pf (2*pos)->ao4 C.P pf c (s.spec os D step):=
 aqh (n:=900) (f:=pf%4096) K rfl h2 h3 h4 h5 (fun p v r h=>(hs p v).trans h)
theorem aje {f:Nat} {e:E} {s:Bool} (hr:∀x:List (den e),ahm (cX [] [] []) f [.ro e] [.buf e] x=amH (len x) fun y0=>cnd (beq y0 true) (some []) (cnd (ile (len x) 68719476736) (some x) none)) (hb:hasB PG f=true:=by kernel_rfl)
 (h4:(!s||[Sh.buf e].all Ze)=true:=by kernel_rfl):bY PG f (mkSpec [.ro e] [.buf e] s (fun x=>Je x)):=
 ak1 (cxK (l:=[]) trivial) (aj3 (l:=[]) rfl trivial) hb (fun x y h=>(hr x).trans (alP h)) rfl h4
def sP (l:List (Nat×Nat)):List Nat:=l.flatMap fun a=>List.range' a.1 a.2
end
noncomputable section
def aaR (x0:Int) (x1:Int):Option (Int×Int):=some (wr .u32 (dw .u64 (wr .u64 (dA (wr .u64 x0) (wr .u64 x1))) 32),wr .u32 (wr .u64 (dA (wr .u64 x0) (wr .u64 x1))))
def Lm:aA:=mkSpec [.int .u32,.int .u32] [.int .u32,.int .u32] true (fun x=>aaR x.1 x.2)
theorem Z5:bY PG 296 Lm:=okN [] [] trivial
def xZ (x0:Int) (x1:Int):Option (Int×Int):=some (wr .u64 (ay (wr .u64 (ay (wr .u64 (dA (dw .u64 x0 32) (dw .u64 x1 32))) (dw .u64 (wr .u64 (ay (wr .u64 (dA (dw .u64 x0 32) (wr .u64 (jT .u64 x1 4294967295)))) (dw .u64 (wr .u64 (dA (wr .u64 (jT .u64 x0 4294967295)) (wr .u64 (jT .u64 x1 4294967295)))) 32))) 32))) (dw .u64 (wr .u64 (ay (wr .u64 (jT .u64 (wr .u64 (ay (wr .u64 (dA (dw .u64 x0 32) (wr .u64 (jT .u64 x1 4294967295)))) (dw .u64 (wr .u64 (dA (wr .u64 (jT .u64 x0 4294967295)) (wr .u64 (jT .u64 x1 4294967295)))) 32))) 4294967295)) (wr .u64 (dA (wr .u64 (jT .u64 x0 4294967295)) (dw .u64 x1 32))))) 32)),wr .u64 (dA x0 x1))
def DK:aA:=mkSpec [.int .u64,.int .u64] [.int .u64,.int .u64] true (fun x=>xZ x.1 x.2)
theorem Og:bY PG 297 DK:=okN [] [] trivial
def LG (x0:Int) (x1:Int):Option (Int×Int):=ah (xZ x0 x1) fun y0=>some y0
def F9:aA:=mkSpec [.int .u64,.int .u64] [.int .u64,.int .u64] true (fun x=>LG x.1 x.2)
theorem SH:bY PG 242 F9:=okN [(296,Lm),(297,DK)] [] ⟨Z5,Og,azv⟩
def BF (v0:Int) (v1:(List jQ)):Option ((Int×(List jQ)) ⊕ (((List jQ)))):=cnd (ilt v0 (len v1)) (cnd (band (ile 0 v0) (ile v0 (len v1))) (cnd (band (ile 0 v0) (ile v0 (len v1))) (some (.inl (wr .i64 (ay v0 (kP (len (aV (bZ v1 0) (itn v0))) (nti (itn (aO (len v1) v0))))),jq v1 (itn v0) (aV (aV (bZ v1 0) (itn v0)) (itn (kP (len (aV (bZ v1 0) (itn v0))) (nti (itn (aO (len v1) v0))))))))) none) none) (some (.inr v1))
def KH:dB:=LSh.spec ⟨94,[],[(7,.mf 192)],[],[(8,.int .i64)],[],[(192,.expo)]⟩ [⟨.exit 0,[],[],[(192,.expo)]⟩] (sP [(8,1),(34,13)]) (fun p v=>BF v.1 v.2)
def FI (x0:(List jQ)) (x1:Int):Option ((List jQ)):=cnd (ilt x1 0) none (ah (LG (wr .u64 (len x0)) (wr .u64 x1)) fun y0=>cnd (bor (ilt 0 y0.1) (ilt 9223372036854775807 y0.2)) none (cnd (band (band (ile 0 (wr .i64 y0.2)) (ile (wr .i64 y0.2) (wr .i64 y0.2))) (ile (wr .i64 y0.2) 68719476736)) (ah (bU (fun v=>BF v.1 v.2) LF (kP (len x0) (len (sK jQ (itn (wr .i64 y0.2)))),jq (sK jQ (itn (wr .i64 y0.2))) 0 (aV x0 (itn (kP (len x0) (len (sK jQ (itn (wr .i64 y0.2))))))))) fun y1=>some y1) none))
def CS:aA:=mkSpec [.ro .expo,.int .i64] [.buf .expo] true (fun x=>FI x.1 x.2)
theorem O7:bY PG 159 CS:=okP [(242,F9)] [] [(159,508,KH)] ⟨SH,azv⟩ (fun K=>⟨fZ K,azv⟩)
def EK (v0:Int) (v1:(List Int)):Option ((Int×(List Int)) ⊕ (((List Int)))):=cnd (ilt v0 (len v1)) (cnd (band (ile 0 v0) (ile v0 (len v1))) (cnd (band (ile 0 v0) (ile v0 (len v1))) (some (.inl (wr .i64 (ay v0 (kP (len (aV (bZ v1 0) (itn v0))) (nti (itn (aO (len v1) v0))))),jq v1 (itn v0) (aV (aV (bZ v1 0) (itn v0)) (itn (kP (len (aV (bZ v1 0) (itn v0))) (nti (itn (aO (len v1) v0))))))))) none) none) (some (.inr v1))
def NT:dB:=LSh.spec ⟨94,[],[(7,.mf 192)],[],[(8,.int .i64)],[],[(192,.i64)]⟩ [⟨.exit 0,[],[],[(192,.i64)]⟩] (sP [(8,1),(34,13)]) (fun p v=>EK v.1 v.2)
def Jj (x0:(List Int)) (x1:Int):Option ((List Int)):=cnd (ilt x1 0) none (ah (LG (wr .u64 (len x0)) (wr .u64 x1)) fun y0=>cnd (bor (ilt 0 y0.1) (ilt 9223372036854775807 y0.2)) none (cnd (band (band (ile 0 (wr .i64 y0.2)) (ile (wr .i64 y0.2) (wr .i64 y0.2))) (ile (wr .i64 y0.2) 68719476736)) (ah (bU (fun v=>EK v.1 v.2) LF (kP (len x0) (len (sK Int (itn (wr .i64 y0.2)))),jq (sK Int (itn (wr .i64 y0.2))) 0 (aV x0 (itn (kP (len x0) (len (sK Int (itn (wr .i64 y0.2))))))))) fun y1=>some y1) none))
def FU:aA:=mkSpec [.ro .i64,.int .i64] [.buf .i64] true (fun x=>Jj x.1 x.2)
theorem Ud:bY PG 160 FU:=okP [(242,F9)] [] [(160,508,NT)] ⟨SH,azv⟩ (fun K=>⟨fZ K,azv⟩)
def zS (x0:aB):Option (Bool):=some (band (band (band (band (band (band (band (ile 1 x0.t) (ile x0.t 8)) (ile 1 x0.i)) (ile x0.i 8)) (ieq (len x0.cells) (wr .i64 (dA x0.t x0.i)))) (ieq (len x0.G) (len x0.cells))) (ieq (len x0.W) x0.t)) (ile (len x0.a) 64))
def Iu:aA:=mkSpec [.val .state] [.bool] true (fun x=>zS x)
theorem W9:bY PG 175 Iu:=okN [] [] trivial
def jR (x0:aC):Option (Bool):=some (bor (ax (ieq x0.V 0)) (ax (ieq x0.U 0)))
def AP:aA:=mkSpec [.val .order] [.bool] true (fun x=>jR x)
theorem JG:bY PG 190 AP:=okN [] [] trivial
def TU (x0:iJ):Option (iJ):=cnd (ieq x0.L 1) (some (iJ.mk x0.L x0.order x0.y x0.z x0.X x0.N x0.I 0 0 0 false 0 0)) (cnd (ieq x0.L 2) (some (iJ.mk x0.L x0.order 0 0 0 x0.N x0.I 0 0 0 false 0 0)) (cnd (ieq x0.L 3) (some (iJ.mk x0.L x0.order 0 0 0 0 0 0 0 0 false 0 0)) (cnd (ieq x0.L 4) (some (iJ.mk x0.L 0 x0.y x0.z 0 0 0 x0.long x0.qX x0.opn false 0 0)) (cnd (ieq x0.L 5) (some (iJ.mk x0.L 0 0 0 0 0 0 0 0 0 x0.on 0 0)) (cnd (ieq x0.L 6) (some (iJ.mk x0.L x0.order 0 0 0 x0.N x0.I 0 0 0 false x0.A x0.Z)) (some (iJ.mk x0.L 0 0 0 0 0 0 0 0 0 false 0 0)))))))
def U5:aA:=mkSpec [.val .recd] [.val .recd] true (fun x=>TU x)
theorem agc:bY PG 95 U5:=okN [] [] trivial
def tV (x0:Int):Option (Bool):=some (band (ile 1 x0) (ile x0 1000000000000))
def OM:aA:=mkSpec [.int .i64] [.bool] true (fun x=>tV x)
theorem aaP:bY PG 96 OM:=okN [] [] trivial
def vV (x0:Int) (x1:Int):Option (Bool):=some (band (ile 0 x0) (ilt x0 x1))
def WG:aA:=mkSpec [.int .i64,.int .i64] [.bool] true (fun x=>vV x.1 x.2)
theorem aja:bY PG 97 WG:=okN [] [] trivial
def wo (x0:iJ):Option (Bool):=some (band (ile 1 x0.N) (ile 1 x0.I))
def Ot:aA:=mkSpec [.val .recd] [.bool] true (fun x=>wo x)
theorem abe:bY PG 98 Ot:=okN [] [] trivial
def PZ (x0:iJ):Option (Bool):=ah (cnd (ax (bor (ilt x0.A 1) (ilt 1000000000 x0.A))) (tV x0.order) (some false)) fun y0=>cnd (bor (bor (ilt x0.A 1) (ilt 1000000000 x0.A)) (ax y0)) (some false) (cnd (ieq x0.Z 3) (some (band (ile 1 x0.N) (ieq x0.I 0))) (cnd (ieq x0.Z 5) (ah (wo x0) fun y1=>some y1) (cnd (ieq x0.Z 1) (cnd (ieq x0.Z 1) (some (band (ieq x0.N 0) (ieq x0.I 0))) (some false)) (cnd (ieq x0.Z 2) (cnd (ieq x0.Z 2) (some (band (ieq x0.N 0) (ieq x0.I 0))) (some false)) (cnd (ieq x0.Z 4) (cnd (ieq x0.Z 4) (some (band (ieq x0.N 0) (ieq x0.I 0))) (some false)) (cnd (ieq x0.Z 6) (some (band (ieq x0.N 0) (ieq x0.I 0))) (some false)))))))
def Xi:aA:=mkSpec [.val .recd] [.bool] true (fun x=>PZ x)
theorem aiC:bY PG 99 Xi:=okN [(96,OM),(98,Ot)] [] ⟨aaP,abe,azv⟩
def vS (x0:iJ):Option (Bool):=ah (TU x0) fun y0=>cnd (ax (band (ieq x0.L y0.L) (band (ieq x0.order y0.order) (band (ieq x0.y y0.y) (band (ieq x0.z y0.z) (band (ieq x0.X y0.X) (band (ieq x0.N y0.N) (band (ieq x0.I y0.I) (band (ieq x0.long y0.long) (band (ieq x0.qX y0.qX) (band (ieq x0.opn y0.opn) (band (beq x0.on y0.on) (band (ieq x0.A y0.A) (ieq x0.Z y0.Z)))))))))))))) (some false) (cnd (ieq x0.L 1) (ah (tV x0.order) fun y1=>ah (cnd y1 (vV x0.y 8) (some false)) fun y2=>ah (cnd (band y1 y2) (vV x0.z 8) (some false)) fun y3=>ah (cnd (band (band (band y1 y2) y3) (bor (ieq x0.X 1) (ieq x0.X 2))) (wo x0) (some false)) fun y4=>some (band (band (band (band y1 y2) y3) (bor (ieq x0.X 1) (ieq x0.X 2))) y4)) (cnd (ieq x0.L 2) (ah (tV x0.order) fun y5=>ah (cnd y5 (wo x0) (some false)) fun y6=>some (band y5 y6)) (cnd (ieq x0.L 3) (ah (tV x0.order) fun y7=>some y7) (cnd (ieq x0.L 4) (ah (vV x0.y 8) fun y8=>ah (cnd (band y8 (ax (band (band (ieq x0.z (-1)) (ieq x0.long 0)) (ieq x0.qX 0)))) (vV x0.z 8) (some false)) fun y9=>some (band (band y8 (bor (band (band (ieq x0.z (-1)) (ieq x0.long 0)) (ieq x0.qX 0)) y9)) (ile 0 (kP (kP x0.long x0.qX) x0.opn)))) (cnd (ieq x0.L 5) (some true) (cnd (ieq x0.L 6) (ah (PZ x0) fun y10=>some y10) (some false)))))))
def tZ:aA:=mkSpec [.val .recd] [.bool] true (fun x=>vS x)
theorem Ba:bY PG 40 tZ:=okN [(95,U5),(96,OM),(97,WG),(98,Ot),(99,Xi)] [] ⟨agc,aaP,aja,abe,aiC,azv⟩
def KD (x0:aC):Option (Bool):=ah (vS (iJ.mk 1 x0.id x0.y x0.z x0.X x0.N x0.I 0 0 0 false 0 0)) fun y0=>some y0
def SN:aA:=mkSpec [.val .order] [.bool] true (fun x=>KD x)
theorem ae4:bY PG 191 SN:=okN [(40,tZ)] [] ⟨Ba,azv⟩
def jd (x0:aC):Option (Bool):=ah (jR x0) fun y0=>ah (KD x0) fun y1=>cnd (bor (bor (bor (bor (ax y1) (ilt x0.H 0)) (ilt x0.N x0.H)) (ilt x0.O 0)) (band y0 (ilt (kP x0.V x0.U) 1))) (some false) (cnd (ieq x0.P 1) (some (band (band (ieq x0.H 0) (ieq x0.O 0)) (ax y0))) (cnd (ieq x0.P 2) (some (ilt x0.H x0.N)) (cnd (ieq x0.P 3) (some (ax y0)) (some false))))
def jY:aA:=mkSpec [.val .order] [.bool] true (fun x=>jd x)
theorem qC:bY PG 116 jY:=okN [(190,AP),(191,SN)] [] ⟨JG,ae4,azv⟩
def Kz (x0:jQ):Option (Bool):=some (ile 0 (kP (kP x0.long x0.qX) x0.opn))
def SY:aA:=mkSpec [.val .expo] [.bool] true (fun x=>Kz x)
theorem afw:bY PG 260 SY:=okN [] [] trivial
def qh (p0:(List Int)) (v0:Int) (v1:Int):Option ((Int×Int) ⊕ ((Int))):=cnd (ilt v0 (len p0)) (cnd (band (ile 0 v0) (ilt v0 (len p0))) (some (.inl (wr .i64 (ay v0 1),kP v1 (aj p0 (itn v0))))) none) (some (.inr v1))
def RD:dB:=LSh.spec ⟨74,[(0,.ro .i64)],[],[],[(4,.int .i64),(3,.int .i64)],[],[]⟩ [⟨.exit 0,[(3,.int .i64)],[],[]⟩] (sP [(3,2),(12,12)]) (fun p v=>qh p v.1 v.2)
def sF (x0:(List Int)):Option (Int):=cnd (ilt (len x0) 1) none (cnd (ilt 0 (len x0)) (ah (bU (fun v=>qh x0 v.1 v.2) LF (1,aj x0 0)) fun y0=>some y0) none)
def Jk:aA:=mkSpec [.ro .i64] [.int .i64] true (fun x=>sF x)
theorem Yx:bY PG 262 Jk:=okP [] [] [(262,122,RD)] trivial (fun K=>⟨fZ K,azv⟩)
def rU (p0:Int) (p1:(List aC)) (p2:aB) (v0:Int) (v1:Int) (v2:Bool):Option ((Int×Int×Bool) ⊕ ((Bool) ⊕ ((Int×Bool)))):=cnd (ilt v0 p0) (cnd (band (ile 0 v0) (ilt v0 (len p1))) (ah (jd (aj p1 (itn v0))) fun y0=>cnd (bor (bor (bor (bor (ax y0) (ieq (aj p1 (itn v0)).P 3)) (ile p2.t (aj p1 (itn v0)).y)) (ile p2.i (aj p1 (itn v0)).z)) (ile (aj p1 (itn v0)).id v1)) (some (.inr (.inl false))) (some (.inl (wr .i64 (ay v0 1),(aj p1 (itn v0)).id,v2)))) none) (some (.inr (.inr (v1,v2))))
def Ux:dB:=LSh.spec ⟨73,[(10,.int .i64),(9,.ro .order)],[(1,.mp 8 0)],[(8,[.val .state])],[(11,.int .i64),(3,.int .i64),(2,.bool)],[],[]⟩ [⟨.ret,[(2,.bool)],[],[]⟩,⟨.exit 0,[(3,.int .i64),(2,.bool)],[],[]⟩] (sP [(2,2),(5,1),(11,37)]) (fun p v=>rU p.1 p.2.1 p.2.2 v.1 v.2.1 v.2.2)
def dL (p0:Int) (p1:(List jQ)) (v0:Int) (v1:Int):Option ((Int×Int) ⊕ ((Int) ⊕ ((Int)))):=cnd (ilt v0 p0) (cnd (band (ile 0 v0) (ilt v0 (len p1))) (ah (Kz (aj p1 (itn v0))) fun y0=>cnd (ax y0) (some (.inr (.inl v0))) (some (.inl (wr .i64 (ay v0 1),v1)))) none) (some (.inr (.inr v1)))
def sH:dB:=LSh.spec ⟨210,[(7,.int .i64),(0,.ro .expo)],[(1,.fn 259 [])],[],[(8,.int .i64),(4,.int .i64)],[],[]⟩ [⟨.ret,[(4,.int .i64)],[],[]⟩,⟨.exit 0,[(4,.int .i64)],[],[]⟩] (sP [(4,2),(8,11)]) (fun p v=>dL p.1 p.2 v.1 v.2)
def Bv (x0:aB):Option (Bool):=ah (bU (fun v=>rU (len x0.a) x0.a x0 v.1 v.2.1 v.2.2) LF (0,0,false)) fun y0=>dK y0 (fun y1=>some y1) fun y1=>cnd (band (band (band (band (band (ile y1.1 x0.S) (ile x0.S 1000000000000)) (ile 0 x0.A)) (ile x0.A 1000000000)) (ile 0 x0.B)) (ile x0.B 1000000000)) (ah (bU (fun v=>dL (len x0.G) x0.G v.1 v.2) LF (0,0)) fun y2=>dK y2 (fun y3=>ah (cnd (band (band (band (band (band (band (ile y1.1 x0.S) (ile x0.S 1000000000000)) (ile 0 x0.A)) (ile x0.A 1000000000)) (ile 0 x0.B)) (ile x0.B 1000000000)) (ax (ile 0 y3))) (sF x0.W) (some 0)) fun y4=>some (band (band (band (band (band (band (band (band (ile y1.1 x0.S) (ile x0.S 1000000000000)) (ile 0 x0.A)) (ile x0.A 1000000000)) (ile 0 x0.B)) (ile x0.B 1000000000)) (ax (ile 0 y3))) (ile 0 y4)) (ile 0 x0.S))) fun y3=>ah (cnd (bor (band (band (band (band (band (ile y1.1 x0.S) (ile x0.S 1000000000000)) (ile 0 x0.A)) (ile x0.A 1000000000)) (ile 0 x0.B)) (ile x0.B 1000000000)) false) (sF x0.W) (some 0)) fun y5=>some (band (band (bor (band (band (band (band (band (ile y1.1 x0.S) (ile x0.S 1000000000000)) (ile 0 x0.A)) (ile x0.A 1000000000)) (ile 0 x0.B)) (ile x0.B 1000000000)) false) (ile 0 y5)) (ile 0 x0.S))) (ah (cnd (bor (band (band (band (band (band (ile y1.1 x0.S) (ile x0.S 1000000000000)) (ile 0 x0.A)) (ile x0.A 1000000000)) (ile 0 x0.B)) (ile x0.B 1000000000)) false) (sF x0.W) (some 0)) fun y6=>some (band (band (bor (band (band (band (band (band (ile y1.1 x0.S) (ile x0.S 1000000000000)) (ile 0 x0.A)) (ile x0.A 1000000000)) (ile 0 x0.B)) (ile x0.B 1000000000)) false) (ile 0 y6)) (ile 0 x0.S)))
def JB:aA:=mkSpec [.val .state] [.bool] true (fun x=>Bv x)
theorem YB:bY PG 176 JB:=okP [(116,jY),(260,SY),(262,Jk)] [259,261,306] [(176,58,Ux),(3246629350631170171186,26,sH)] ⟨qC,afw,Yx,azv⟩ (fun K=>⟨fZ K,fZ K,azv⟩)
def dJ (x0:aB) (x1:Int) (x2:Int):Option (Int):=some (wr .i64 (ay (wr .i64 (dA x1 x0.i)) x2))
def uF:aA:=mkSpec [.val .state,.int .i64,.int .i64] [.int .i64] true (fun x=>dJ x.1 x.2.1 x.2.2)
theorem Cm:bY PG 248 uF:=okN [] [] trivial
def xK (x0:Int) (x1:Int):Option (Int×Int):=cnd (band (ax (beq (ilt x0 (wr .i64 (ay x0 x1))) (ilt 0 x1))) (ax (ieq x1 0))) (some (0,3)) (some (wr .i64 (ay x0 x1),0))
def BB:aA:=mkSpec [.int .i64,.int .i64] [.int .i64,.int .i64] true (fun x=>xK x.1 x.2)
theorem JI:bY PG 161 BB:=okN [] [] trivial
def Ep (x0:Int) (x1:Int):Option (Int×Int):=cnd (band (ax (beq (ilt (wr .i64 (aO x0 x1)) x0) (ilt 0 x1))) (ax (ieq x1 0))) (some (0,3)) (some (wr .i64 (aO x0 x1),0))
def MX:aA:=mkSpec [.int .i64,.int .i64] [.int .i64,.int .i64] true (fun x=>Ep x.1 x.2)
theorem ZN:bY PG 302 MX:=okN [] [] trivial
def KJ (x0:bF):Option (jQ×Bool):=ah (xK x0.pos x0.buy) fun y0=>ah (Ep x0.qK x0.pos) fun y1=>some (jQ.mk y0.1 y1.1 x0.opn,band (ieq y0.2 0) (ieq y1.2 0))
def OX:aA:=mkSpec [.val .cell] [.val .expo,.bool] true (fun x=>KJ x)
theorem abv:bY PG 263 OX:=okN [(161,BB),(302,MX)] [] ⟨JI,ZN,azv⟩
def jP (x0:bF):Option (Bool):=ah (KJ x0) fun y0=>some (band y0.2 (ile 0 (kP (kP x0.buy x0.qK) x0.opn)))
def xO:aA:=mkSpec [.val .cell] [.bool] true (fun x=>jP x)
theorem FT:bY PG 178 xO:=okN [(263,OX)] [] ⟨abv,azv⟩
def OB (x0:Int):Option (Int):=cnd (ilt x0 0) (some (wr .u64 (aO 0 (wr .u64 x0)))) (some (wr .u64 x0))
def Y2:aA:=mkSpec [.int .i64] [.int .u64] true (fun x=>OB x)
theorem ald:bY PG 350 Y2:=okN [] [] trivial
def Rq (x0:Int) (x1:Int):Option (Int×Int):=ah (OB x0) fun y0=>ah (OB x1) fun y1=>ah (xZ y0 y1) fun y2=>cnd (band (band (ieq y2.1 0) (ax (beq (ilt x0 0) (ilt x1 0)))) (ile y2.2 9223372036854775808)) (some (wr .i64 (wr .u64 (aO 0 y2.2)),0)) (cnd (band (ieq y2.1 0) (ile y2.2 9223372036854775807)) (some (wr .i64 y2.2,0)) (some (0,3)))
def aaF:aA:=mkSpec [.int .i64,.int .i64] [.int .i64,.int .i64] true (fun x=>Rq x.1 x.2)
theorem amz:bY PG 345 aaF:=okN [(350,Y2),(297,DK)] [] ⟨ald,Og,azv⟩
def TI (x0:Int) (x1:Int):Option (Int):=some (imax x0 x1)
def UY:aA:=mkSpec [.int .i64,.int .i64] [.int .i64] true (fun x=>TI x.1 x.2)
theorem aeD:bY PG 346 UY:=okN [] [] trivial
def Fj (x0:aC):Option (Int×Int):=ah (jd x0) fun y0=>cnd (ax y0) (some (0,1)) (cnd (ieq x0.P 3) (some (0,0)) (ah (Rq (wr .i64 (aO x0.N x0.H)) x0.I) fun y1=>cnd (bor (ax (ieq y1.2 0)) (ile x0.V x0.H)) (some y1) (ah (Rq (wr .i64 (aO x0.V x0.H)) x0.U) fun y2=>cnd (ax (ieq y2.2 0)) (some (0,y2.2)) (ah (TI y1.1 y2.1) fun y3=>some (y3,0)))))
def Ku:aA:=mkSpec [.val .order] [.int .i64,.int .i64] true (fun x=>Fj x)
theorem V5:bY PG 326 Ku:=okN [(116,jY),(345,aaF),(346,UY)] [] ⟨qC,amz,aeD,azv⟩
def AU (x0:aC):Option (Int):=ah (jd x0) fun y0=>cnd (bor (ax y0) (ieq x0.P 3)) (some 0) (ah (TI x0.N x0.V) fun y1=>some (wr .i64 (aO y1 x0.H)))
def LK:aA:=mkSpec [.val .order] [.int .i64] true (fun x=>AU x)
theorem Za:bY PG 327 LK:=okN [(116,jY),(346,UY)] [] ⟨qC,aeD,azv⟩
def yK (x0:bF) (x1:aC):Option (bF×Int):=ah (jP x0) fun y0=>ah (cnd (ax (ax y0)) (jd x1) (some false)) fun y1=>cnd (bor (ax y0) (ax y1)) (some (x0,1)) (ah (Fj x1) fun y2=>cnd (ieq x1.X 2) (ah (AU x1) fun y3=>ah (xK x0.qK y3) fun y4=>ah (xK x0.opn y2.1) fun y5=>ah (cnd (ax (bor (bor (ax (ieq y2.2 0)) (ax (ieq y4.2 0))) (ax (ieq y5.2 0)))) (jP (bF.mk x0.pos x0.buy y4.1 y5.1)) (some false)) fun y6=>cnd (bor (bor (bor (ax (ieq y2.2 0)) (ax (ieq y4.2 0))) (ax (ieq y5.2 0))) (ax y6)) (some (x0,3)) (some (bF.mk x0.pos x0.buy y4.1 y5.1,0))) (ah (AU x1) fun y7=>ah (xK x0.buy y7) fun y8=>ah (xK x0.opn y2.1) fun y9=>ah (cnd (ax (bor (bor (ax (ieq y2.2 0)) (ax (ieq y8.2 0))) (ax (ieq y9.2 0)))) (jP (bF.mk x0.pos y8.1 x0.qK y9.1)) (some false)) fun y10=>cnd (bor (bor (bor (ax (ieq y2.2 0)) (ax (ieq y8.2 0))) (ax (ieq y9.2 0))) (ax y10)) (some (x0,3)) (some (bF.mk x0.pos y8.1 x0.qK y9.1,0))))
def OA:aA:=mkSpec [.val .cell,.val .order] [.val .cell,.int .i64] true (fun x=>yK x.1 x.2)
theorem aan:bY PG 249 OA:=okN [(178,xO),(116,jY),(326,Ku),(327,LK),(161,BB)] [298] ⟨FT,qC,V5,Za,JI,azv⟩
def oU (p0:Int) (p1:(List aC)) (p2:aB) (v0:Int) (v1:Bool) (v2:(List bF)) (v3:(List bF)):Option ((Int×Bool×(List bF)×(List bF)) ⊕ ((Bool×(List bF)×(List bF)) ⊕ ((Bool×(List bF)×(List bF))))):=cnd (ilt v0 p0) (cnd (band (ile 0 v0) (ilt v0 (len p1))) (ah (dJ p2 (aj p1 (itn v0)).y (aj p1 (itn v0)).z) fun y0=>cnd (band (ile 0 y0) (ilt y0 (len v3))) (ah (yK (aj v3 (itn y0)) (aj p1 (itn v0))) fun y1=>cnd (ax (ieq y1.2 0)) (some (.inr (.inl (false,[],v3)))) (cnd (band (ile 0 y0) (ilt y0 (len v3))) (some (.inl (wr .i64 (ay v0 1),v1,v2,dP v3 (itn y0) y1.1))) none)) none) none) (some (.inr (.inr (v1,v2,v3))))
def Qw:dB:=LSh.spec ⟨79,[(18,.int .i64),(17,.ro .order)],[(4,.mf 64),(1,.mp 8 0)],[(8,[.val .state])],[(19,.int .i64),(3,.bool),(2,.buf .cell)],[],[(64,.cell)]⟩ [⟨.ret,[(3,.bool),(2,.buf .cell)],[],[(64,.cell)]⟩,⟨.exit 0,[(3,.bool),(2,.buf .cell)],[],[(64,.cell)]⟩] (sP [(2,2),(6,4),(19,26)]) (fun p v=>oU p.1 p.2.1 p.2.2 v.1 v.2.1 v.2.2.1 v.2.2.2)
def xY (x0:aB):Option ((List bF)×Bool):=cnd (band (band (ile 0 (len x0.cells)) (ile (len x0.cells) (len x0.cells))) (ile (len x0.cells) 68719476736)) (ah (bU (fun v=>oU (len x0.a) x0.a x0 v.1 v.2.1 v.2.2.1 v.2.2.2) LF (0,false,[],sK bF (itn (len x0.cells)))) fun y0=>dK y0 (fun y1=>some (y1.2.1,y1.1)) fun y1=>some (y1.2.2,true)) none
def GK:aA:=mkSpec [.val .state] [.buf .cell,.bool] true (fun x=>xY x)
theorem Vo:bY PG 177 GK:=okP [(248,uF),(249,OA)] [] [(177,58,Qw)] ⟨Cm,aan,azv⟩ (fun K=>⟨fZ K,azv⟩)
def mQ (x0:aB) (x1:Int):Option ((List bF)):=cnd (band (band (ile 0 (wr .i64 (dA x1 x0.i))) (ile (wr .i64 (dA x1 x0.i)) (wr .i64 (dA (wr .i64 (ay x1 1)) x0.i)))) (ile (wr .i64 (dA (wr .i64 (ay x1 1)) x0.i)) (len x0.cells))) (some (aV (bZ x0.cells (itn (wr .i64 (dA x1 x0.i)))) (itn (aO (wr .i64 (dA (wr .i64 (ay x1 1)) x0.i)) (wr .i64 (dA x1 x0.i)))))) none
def zf:aA:=mkSpec [.val .state,.int .i64] [.ro .cell] false (fun x=>mQ x.1 x.2)
theorem Hy:bY PG 180 zf:=okN [] [] trivial
def DJ (p0:Int) (p1:(List Int)) (v0:Int) (v1:Int) (v2:Int) (v3:Int):Option ((Int×Int×Int×Int) ⊕ ((Int×Int) ⊕ ((Int×Int×Int)))):=cnd (ilt v0 p0) (cnd (band (ile 0 v0) (ilt v0 (len p1))) (ah (xK v1 (aj p1 (itn v0))) fun y0=>cnd (ax (ieq y0.2 0)) (some (.inr (.inl (y0.2,0)))) (some (.inl (wr .i64 (ay v0 1),y0.1,v2,v3)))) none) (some (.inr (.inr (v1,v2,v3))))
def adu:dB:=LSh.spec ⟨71,[(10,.int .i64),(9,.ro .i64)],[],[],[(11,.int .i64),(4,.int .i64),(3,.int .i64),(2,.int .i64)],[],[]⟩ [⟨.ret,[(3,.int .i64),(2,.int .i64)],[],[]⟩,⟨.exit 0,[(4,.int .i64),(3,.int .i64),(2,.int .i64)],[],[]⟩] (sP [(2,3),(6,3),(11,15)]) (fun p v=>DJ p.1 p.2 v.1 v.2.1 v.2.2.1 v.2.2.2)
def PX (x0:(List Int)):Option (Int×Int):=ah (bU (fun v=>DJ (len x0) x0 v.1 v.2.1 v.2.2.1 v.2.2.2) LF (0,0,0,0)) fun y0=>dK y0 (fun y1=>some (y1.2,y1.1)) fun y1=>some (y1.1,0)
def XB:aA:=mkSpec [.ro .i64] [.int .i64,.int .i64] true (fun x=>PX x)
theorem aiF:bY PG 264 XB:=okP [(161,BB)] [] [(264,58,adu)] ⟨JI,azv⟩ (fun K=>⟨fZ K,azv⟩)
def Af (p0:Int) (p1:(List bF)) (v0:Int) (v1:(List Int)):Option ((Int×(List Int)) ⊕ (((List Int)))):=cnd (ilt v0 p0) (cnd (band (ile 0 v0) (ilt v0 (len p1))) (cnd (ile (len (aJ v1 [(aj p1 (itn v0)).opn])) 68719476736) (some (.inl (wr .i64 (ay v0 1),aJ v1 [(aj p1 (itn v0)).opn]))) none) none) (some (.inr v1))
def aal:dB:=LSh.spec ⟨71,[(8,.int .i64),(7,.ro .cell)],[],[],[(9,.int .i64),(4,.buf .i64)],[],[]⟩ [⟨.exit 0,[(4,.buf .i64)],[],[]⟩] (sP [(4,1),(6,1),(9,10)]) (fun p v=>Af p.1 p.2 v.1 v.2)
def BV (x0:(List bF)):Option (Int×Int):=ah (bU (fun v=>Af (len x0) x0 v.1 v.2) LF (0,[])) fun y0=>ah (PX y0) fun y1=>some y1
def JM:aA:=mkSpec [.ro .cell] [.int .i64,.int .i64] true (fun x=>BV x)
theorem XK:bY PG 179 JM:=okP [(264,XB)] [] [(179,58,aal)] ⟨aiF,azv⟩ (fun K=>⟨fZ K,azv⟩)
def oJ (p0:Int) (p1:(List bF)) (v0:Int) (v1:Bool) (v2:(List bF)):Option ((Int×Bool×(List bF)) ⊕ ((Bool×(List bF)) ⊕ ((Bool×(List bF))))):=cnd (ilt v0 p0) (cnd (band (ile 0 v0) (ilt v0 (len p1))) (cnd (band (ile 0 v0) (ilt v0 (len v2))) (ah (jP (aj p1 (itn v0))) fun y0=>cnd (bor (band (ile 0 v0) (ilt v0 (len (dP v2 (itn v0) (bF.mk (aj p1 (itn v0)).pos (aj v2 (itn v0)).buy (aj v2 (itn v0)).qK (aj v2 (itn v0)).opn))))) (ax (ax (ax y0)))) (cnd (bor (ax y0) (ax (band (ieq (aj (dP v2 (itn v0) (bF.mk (aj p1 (itn v0)).pos (aj v2 (itn v0)).buy (aj v2 (itn v0)).qK (aj v2 (itn v0)).opn)) (itn v0)).pos (aj p1 (itn v0)).pos) (band (ieq (aj (dP v2 (itn v0) (bF.mk (aj p1 (itn v0)).pos (aj v2 (itn v0)).buy (aj v2 (itn v0)).qK (aj v2 (itn v0)).opn)) (itn v0)).buy (aj p1 (itn v0)).buy) (band (ieq (aj (dP v2 (itn v0) (bF.mk (aj p1 (itn v0)).pos (aj v2 (itn v0)).buy (aj v2 (itn v0)).qK (aj v2 (itn v0)).opn)) (itn v0)).qK (aj p1 (itn v0)).qK) (ieq (aj (dP v2 (itn v0) (bF.mk (aj p1 (itn v0)).pos (aj v2 (itn v0)).buy (aj v2 (itn v0)).qK (aj v2 (itn v0)).opn)) (itn v0)).opn (aj p1 (itn v0)).opn)))))) (some (.inr (.inl (false,dP v2 (itn v0) (bF.mk (aj p1 (itn v0)).pos (aj v2 (itn v0)).buy (aj v2 (itn v0)).qK (aj v2 (itn v0)).opn))))) (some (.inl (wr .i64 (ay v0 1),v1,dP v2 (itn v0) (bF.mk (aj p1 (itn v0)).pos (aj v2 (itn v0)).buy (aj v2 (itn v0)).qK (aj v2 (itn v0)).opn))))) none) none) none) (some (.inr (.inr (v1,v2))))
def Qy:dB:=LSh.spec ⟨89,[(28,.int .i64),(27,.ro .cell)],[(3,.mf 96)],[],[(29,.int .i64),(2,.bool)],[],[(96,.cell)]⟩ [⟨.ret,[(2,.bool)],[],[(96,.cell)]⟩,⟨.exit 0,[(2,.bool)],[],[(96,.cell)]⟩] (sP [(2,1),(5,2),(29,23)]) (fun p v=>oJ p.1 p.2 v.1 v.2.1 v.2.2)
def o7 (p0:Int) (p1:aB) (v0:Int) (v1:Bool):Option ((Int×Bool) ⊕ ((Bool) ⊕ ((Bool)))):=cnd (ilt v0 p0) (ah (mQ p1 v0) fun y0=>ah (BV y0) fun y1=>cnd (ax (ieq y1.2 0)) (some (.inr (.inl false))) (some (.inl (wr .i64 (ay v0 1),v1)))) (some (.inr (.inr v1)))
def Q9:dB:=LSh.spec ⟨162,[(54,.int .i64)],[(1,.mp 8 0)],[(8,[.val .state])],[(55,.int .i64),(2,.bool)],[],[]⟩ [⟨.ret,[(2,.bool)],[],[]⟩,⟨.exit 2,[(2,.bool)],[],[]⟩] (sP [(2,1),(7,3),(55,13)]) (fun p v=>o7 p.1 p.2 v.1 v.2)
def EU (x0:aB):Option (Bool):=ah (zS x0) fun y0=>ah (cnd (ax (ax y0)) (Bv x0) (some false)) fun y1=>cnd (bor (ax y0) (ax y1)) (some false) (ah (xY x0) fun y2=>cnd (ax y2.2) (some false) (ah (bU (fun v=>oJ (len x0.cells) x0.cells v.1 v.2.1 v.2.2) LF (0,false,y2.1)) fun y3=>dK y3 (fun y4=>some y4.1) fun y4=>ah (bU (fun v=>o7 x0.t x0 v.1 v.2) LF (0,y4.1)) fun y5=>dK y5 (fun y6=>some y6) fun y6=>some true))
def Jg:aA:=mkSpec [.val .state] [.bool] true (fun x=>EU x)
theorem XC:bY PG 91 Jg:=okP [(175,Iu),(176,JB),(177,GK),(178,xO),(180,zf),(179,JM)] [] [(91,250,Qy),(91,506,Q9)] ⟨W9,YB,Vo,FT,Hy,XK,azv⟩ (fun K=>⟨fZ K,fZ K,azv⟩)
def Bh (x0:aB):Option (Bool):=ah (EU x0) fun y0=>some y0
def BH:aA:=mkSpec [.val .state] [.bool] true (fun x=>Bh x)
theorem KC:bY PG 37 BH:=okN [(91,Jg)] [] ⟨XC,azv⟩
def ae5 (x0:Int) (x1:Int) (x2:jQ) (x3:Int):Option (aB×Int):=cnd (bor (bor (bor (ilt x0 1) (ilt 8 x0)) (ilt x1 1)) (ilt 8 x1)) (some (aB.mk 0 0 [] [] [] [] false 0 0 0,1)) (cnd (band (band (ile 0 (wr .i64 (dA x0 x1))) (ile (wr .i64 (dA x0 x1)) (wr .i64 (dA x0 x1)))) (ile (wr .i64 (dA x0 x1)) 68719476736)) (ah (FI [x2] (wr .i64 (dA x0 x1))) fun y0=>ah (Jj [x3] x0) fun y1=>ah (Bh (aB.mk x0 x1 [] (sK bF (itn (wr .i64 (dA x0 x1)))) y0 y1 false 0 0 0)) fun y2=>cnd (ax y2) (some (aB.mk 0 0 [] [] [] [] false 0 0 0,1)) (some (aB.mk x0 x1 [] (sK bF (itn (wr .i64 (dA x0 x1)))) y0 y1 false 0 0 0,0))) none)
def YT:aA:=mkSpec [.int .i64,.int .i64,.val .expo,.int .i64] [.val .state,.int .i64] false (fun x=>ae5 x.1 x.2.1 x.2.2.1 x.2.2.2)
theorem alg:bY PG 78 YT:=okN [(159,CS),(160,FU),(37,BH)] [] ⟨O7,Ud,KC,azv⟩
def Qh (x0:Int):Option (Bool):=some (bor (bor (band (ile 97 x0) (ile x0 122)) (band (ile 48 x0) (ile x0 57))) (ieq x0 46))
def Wj:aA:=mkSpec [.int .u8] [.bool] true (fun x=>Qh x)
theorem aiO:bY PG 174 Wj:=okN [] [] trivial
def BK (p0:Int) (p1:(List UInt8)) (v0:Int) (v1:Bool):Option ((Int×Bool) ⊕ ((Bool) ⊕ ((Bool)))):=cnd (ilt v0 p0) (cnd (band (ile 0 v0) (ilt v0 (len p1))) (ah (Qh (SI p1 (itn v0))) fun y0=>cnd (ax y0) (some (.inr (.inl false))) (some (.inl (wr .i64 (ay v0 1),v1)))) none) (some (.inr (.inr v1)))
def abN:dB:=LSh.spec ⟨69,[(5,.int .i64),(0,.str)],[],[],[(6,.int .i64),(2,.bool)],[],[]⟩ [⟨.ret,[(2,.bool)],[],[]⟩,⟨.exit 0,[(2,.bool)],[],[]⟩] (sP [(2,2),(6,9)]) (fun p v=>BK p.1 p.2 v.1 v.2)
def I4 (x0:(List UInt8)):Option (Bool):=ah (bU (fun v=>BK (len x0) x0 v.1 v.2) LF (0,false)) fun y0=>dK y0 (fun y1=>some y1) fun y1=>some (band (ile 1 (len x0)) (ile (len x0) 16))
def LW:aA:=mkSpec [.str] [.bool] true (fun x=>I4 x)
theorem Y1:bY PG 90 LW:=okP [(174,Wj)] [] [(90,26,abN)] ⟨aiO,azv⟩ (fun K=>⟨fZ K,azv⟩)
def Ai (p0:Int) (p1:(List aS)) (p2:ak) (v0:Int) (v1:Int) (v2:Bool):Option ((Int×Int×Bool) ⊕ ((Bool) ⊕ ((Bool)))):=cnd (ilt v0 p0) (cnd (band (ile 0 v0) (ilt v0 (len p1))) (ah (I4 (aj p1 (itn v0)).name) fun y0=>cnd (bor (band (ile 0 (wr .i64 (aO v0 1))) (ilt (wr .i64 (aO v0 1)) (len p2.b))) (ax (band (ax (ax y0)) (ilt 0 v0)))) (cnd (bor (bor (bor (bor (ax y0) (band (ilt 0 v0) (ax (slt (aj p2.b (itn (wr .i64 (aO v0 1)))).name (aj p1 (itn v0)).name)))) (ilt (aj p1 (itn v0)).J 0)) (ilt (len (aj p1 (itn v0)).data) (aj p1 (itn v0)).J)) (ilt v1 (len (aj p1 (itn v0)).data))) (some (.inr (.inl false))) (some (.inl (wr .i64 (ay v0 1),wr .i64 (aO v1 (len (aj p1 (itn v0)).data)),v2)))) none) none) (some (.inr (.inr v2)))
def abw:dB:=LSh.spec ⟨93,[(29,.int .i64),(28,.ro .file)],[(1,.mp 8 0)],[(8,[.val .disk])],[(30,.int .i64),(3,.int .i64),(2,.bool)],[],[]⟩ [⟨.ret,[(2,.bool)],[],[]⟩,⟨.exit 0,[(2,.bool)],[],[]⟩] (sP [(2,4),(30,51)]) (fun p v=>Ai p.1 p.2.1 p.2.2 v.1 v.2.1 v.2.2)
def xR (x0:ak):Option (Bool):=cnd (bor (bor (bor (ilt x0.qZ 0) (ilt 65536 x0.qZ)) (ilt x0.T (-1))) (ilt 64 (len x0.b))) (some false) (ah (bU (fun v=>Ai (len x0.b) x0.b x0 v.1 v.2.1 v.2.2) LF (0,x0.qZ,false)) fun y0=>dK y0 (fun y1=>some y1) fun y1=>some true)
def xP:aA:=mkSpec [.val .disk] [.bool] true (fun x=>xR x)
theorem Fv:bY PG 36 xP:=okP [(90,LW)] [] [(36,122,abw)] ⟨Y1,azv⟩ (fun K=>⟨fZ K,azv⟩)
def EY (x0:fE):Option (Bool):=some (band (band (band (band (band (ile 1 x0.q9) (ile x0.q9 1000000)) (ile 1 x0.B)) (ile x0.B 1000000000)) (ile 1 x0.L)) (ile x0.L 6))
def J9:aA:=mkSpec [.val .frame] [.bool] true (fun x=>EY x)
theorem VQ:bY PG 265 J9:=okN [] [] trivial
def Fa (p0:Int) (p1:(List fE)) (v0:Int) (v1:Bool) (v2:Int) (v3:Int):Option ((Int×Bool×Int×Int) ⊕ ((Bool×Int×Int) ⊕ ((Bool×Int×Int)))):=cnd (ilt v0 p0) (cnd (band (ile 0 v0) (ilt v0 (len p1))) (ah (EY (aj p1 (itn v0))) fun y0=>cnd (bor (bor (ax y0) (ax (ieq (aj p1 (itn v0)).B v2))) (ilt (aj p1 (itn v0)).q9 v3)) (some (.inr (.inl (false,v2,v3)))) (some (.inl (wr .i64 (ay v0 1),v1,wr .i64 (ay (aj p1 (itn v0)).B 1),(aj p1 (itn v0)).q9)))) none) (some (.inr (.inr (v1,v2,v3))))
def aea:dB:=LSh.spec ⟨76,[(14,.int .i64),(13,.ro .frame)],[(7,.mp 56 0)],[],[(15,.int .i64),(6,.bool)],[(56,[.int .i64,.int .i64])],[]⟩ [⟨.ret,[(6,.bool)],[(56,[.int .i64,.int .i64])],[]⟩,⟨.exit 0,[(6,.bool)],[(56,[.int .i64,.int .i64])],[]⟩] (sP [(6,1),(9,1),(15,8)]) (fun p v=>Fa p.1 p.2 v.1 v.2.1 v.2.2.1 v.2.2.2)
def UJ (x0:(List fE)) (x1:Int) (x2:Int):Option (Bool):=ah (bU (fun v=>Fa (len x0) x0 v.1 v.2.1 v.2.2.1 v.2.2.2) LF (0,false,x1,x2)) fun y0=>dK y0 (fun y1=>some y1.1) fun y1=>some true
def Zc:aA:=mkSpec [.ro .frame,.int .i64,.int .i64] [.bool] true (fun x=>UJ x.1 x.2.1 x.2.2)
theorem akW:bY PG 93 Zc:=okP [(265,J9)] [181] [(93,58,aea)] ⟨VQ,azv⟩ (fun K=>⟨fZ K,azv⟩)
def eP (p0:Int) (p1:(List fE)) (p2:Int) (p3:Int) (p4:Int) (p5:Int) (p6:Int) (p7:(List fE)) (v0:Int) (v1:Int):Option ((Int×Int) ⊕ ((Int) ⊕ ((Int)))):=cnd (ilt v0 p0) (cnd (band (ile 0 v0) (ilt v0 (len p1))) (cnd (ax (ieq (aj p1 (itn v0)).q9 p2)) (some (.inr (.inl v0))) (some (.inl (wr .i64 (ay v0 1),v1)))) none) (some (.inr (.inr v1)))
def wO:dB:=LSh.spec ⟨140,[(7,.int .i64),(0,.ro .frame)],[(1,.fn 92 [.mp 8 0])],[(8,[.int .i64,.int .i64,.int .i64,.int .i64,.int .i64,.ro .frame])],[(8,.int .i64),(4,.int .i64)],[],[]⟩ [⟨.ret,[(4,.int .i64)],[],[]⟩,⟨.exit 0,[(4,.int .i64)],[],[]⟩] (sP [(4,2),(8,11)]) (fun p v=>eP p.1 p.2.1 p.2.2.1 p.2.2.2.1 p.2.2.2.2.1 p.2.2.2.2.2.1 p.2.2.2.2.2.2.1 p.2.2.2.2.2.2.2 v.1 v.2)
def Gm (x0:dR):Option (Bool):=cnd (bor (bor (bor (bor (bor (ilt x0.q9 1) (ilt 1000000 x0.q9)) (ilt x0.next 1)) (ilt 1000000001 x0.next)) (ilt x0.J 0)) (ile x0.next x0.J)) (some false) (ah (cnd (ax (bor (ilt 32 (len x0.M)) (ax (ieq (len x0.M) (wr .i64 (aO (wr .i64 (aO x0.next 1)) x0.J)))))) (UJ x0.M (wr .i64 (ay x0.J 1)) 1) (some false)) fun y0=>cnd (ax (bor (bor (ilt 32 (len x0.M)) (ax (ieq (len x0.M) (wr .i64 (aO (wr .i64 (aO x0.next 1)) x0.J))))) (ax y0))) (ah (bU (fun v=>eP (len x0.M) x0.M x0.q9 x0.next x0.J x0.seg x0.qQ x0.M v.1 v.2) LF (0,0)) fun y1=>dK y1 (fun y2=>cnd (bor (bor (bor (ilt 32 (len x0.M)) (ax (ieq (len x0.M) (wr .i64 (aO (wr .i64 (aO x0.next 1)) x0.J))))) (ax y0)) (ile 0 y2)) (some false) (cnd (ieq x0.seg 0) (some (ieq x0.qQ 0)) (some (band (band (band (band (ile 1 x0.seg) (ile 1 x0.qQ)) (ile x0.qQ 8)) (ile x0.seg (wr .i64 (ay x0.J 1)))) (ieq (wr .i64 (ay x0.seg x0.qQ)) (wr .i64 (ay x0.J 1))))))) fun y2=>cnd (bor (bor (bor (ilt 32 (len x0.M)) (ax (ieq (len x0.M) (wr .i64 (aO (wr .i64 (aO x0.next 1)) x0.J))))) (ax y0)) false) (some false) (cnd (ieq x0.seg 0) (some (ieq x0.qQ 0)) (some (band (band (band (band (ile 1 x0.seg) (ile 1 x0.qQ)) (ile x0.qQ 8)) (ile x0.seg (wr .i64 (ay x0.J 1)))) (ieq (wr .i64 (ay x0.seg x0.qQ)) (wr .i64 (ay x0.J 1))))))) (cnd (bor (bor (bor (ilt 32 (len x0.M)) (ax (ieq (len x0.M) (wr .i64 (aO (wr .i64 (aO x0.next 1)) x0.J))))) (ax y0)) false) (some false) (cnd (ieq x0.seg 0) (some (ieq x0.qQ 0)) (some (band (band (band (band (ile 1 x0.seg) (ile 1 x0.qQ)) (ile x0.qQ 8)) (ile x0.seg (wr .i64 (ay x0.J 1)))) (ieq (wr .i64 (ay x0.seg x0.qQ)) (wr .i64 (ay x0.J 1))))))))
def IW:aA:=mkSpec [.val .wal] [.bool] true (fun x=>Gm x)
theorem UZ:bY PG 38 IW:=okP [(93,Zc)] [92,94,173] [(700977436288969113773,26,wO)] ⟨akW,azv⟩ (fun K=>⟨fZ K,azv⟩)
def uV (x0:dV):Option (iJ):=some (iJ.mk 6 x0.order 0 0 0 x0.N x0.I 0 0 0 false x0.A x0.Z)
def FZ:aA:=mkSpec [.val .note] [.val .recd] true (fun x=>uV x)
theorem QW:bY PG 29 FZ:=okN [] [] trivial
def o6 (x0:jh):Option (Bool):=cnd (bor (bor (bor (bor (bor (ilt x0.order 1) (ilt 1000000000000 x0.order)) (ilt x0.y 0)) (ile 8 x0.y)) (ilt x0.z 0)) (ile 8 x0.z)) (some false) (cnd (bor (bor (band (ax (ieq x0.X 1)) (ax (ieq x0.X 2))) (ilt x0.B 0)) (ilt 1000000000 x0.B)) (some false) (cnd (ieq x0.L 1) (some (band (band (ile 1 x0.N) (ile 1 x0.I)) (ieq x0.O 0))) (cnd (ieq x0.L 2) (some (band (band (ile 1 x0.N) (ile 1 x0.I)) (ile 1 x0.O))) (cnd (ieq x0.L 3) (some (band (band (ieq x0.N 0) (ieq x0.I 0)) (ieq x0.O 0))) (some false)))))
def ER:aA:=mkSpec [.val .msg] [.bool] true (fun x=>o6 x)
theorem PK:bY PG 100 ER:=okN [] [] trivial
def yF (p0:Int) (p1:(List jh)) (p2:Int) (v0:Int) (v1:Bool) (v2:Int):Option ((Int×Bool×Int) ⊕ ((Bool) ⊕ ((Bool)))):=cnd (ilt v0 p0) (cnd (band (ile 0 v0) (ilt v0 (len p1))) (ah (o6 (aj p1 (itn v0))) fun y0=>cnd (bor (bor (ax y0) (ile (aj p1 (itn v0)).B v2)) (ilt p2 (aj p1 (itn v0)).B)) (some (.inr (.inl false))) (some (.inl (wr .i64 (ay v0 1),v1,(aj p1 (itn v0)).B)))) none) (some (.inr (.inr v1)))
def aac:dB:=LSh.spec ⟨71,[(10,.int .i64),(9,.ro .msg),(2,.int .i64)],[],[],[(11,.int .i64),(6,.bool),(1,.int .i64)],[],[]⟩ [⟨.ret,[(6,.bool)],[],[]⟩,⟨.exit 0,[(6,.bool)],[],[]⟩] (sP [(1,1),(6,1),(8,1),(11,22)]) (fun p v=>yF p.1 p.2.1 p.2.2 v.1 v.2.1 v.2.2)
def Ir (x0:(List jh)) (x1:Int) (x2:Int):Option (Bool):=ah (bU (fun v=>yF (len x0) x0 x2 v.1 v.2.1 v.2.2) LF (0,false,x1)) fun y0=>dK y0 (fun y1=>some y1) fun y1=>some true
def Qb:aA:=mkSpec [.ro .msg,.int .i64,.int .i64] [.bool] true (fun x=>Ir x.1 x.2.1 x.2.2)
theorem adw:bY PG 41 Qb:=okP [(100,ER)] [] [(41,26,aac)] ⟨PK,azv⟩ (fun K=>⟨fZ K,azv⟩)
def zW (p0:Int) (p1:(List dV)) (p2:Int) (v0:Int) (v1:Int) (v2:Bool):Option ((Int×Int×Bool) ⊕ ((Bool) ⊕ ((Bool)))):=cnd (ilt v0 p0) (cnd (band (ile 0 v0) (ilt v0 (len p1))) (cnd (bor (ile (aj p1 (itn v0)).A v1) (ilt (wr .i64 (ay p2 8)) (aj p1 (itn v0)).A)) (some (.inr (.inl false))) (some (.inl (wr .i64 (ay v0 1),(aj p1 (itn v0)).A,v2)))) none) (some (.inr (.inr v2)))
def abu:dB:=LSh.spec ⟨86,[(23,.int .i64),(22,.ro .note),(1,.int .i64)],[],[],[(24,.int .i64),(5,.int .i64),(4,.bool)],[],[]⟩ [⟨.ret,[(4,.bool)],[],[]⟩,⟨.exit 0,[(4,.bool)],[],[]⟩] (sP [(4,2),(7,1),(24,18)]) (fun p v=>zW p.1 p.2.1 p.2.2 v.1 v.2.1 v.2.2)
def Ih (x0:jl) (x1:Int):Option (Bool):=cnd (bor (bor (ilt x1 1) (ilt 1000000001 x1)) (ilt 8 (len x0.F))) (some false) (ah (bU (fun v=>zW (len x0.F) x0.F x1 v.1 v.2.1 v.2.2) LF (0,x1,false)) fun y0=>dK y0 (fun y1=>some y1) fun y1=>some true)
def LV:aA:=mkSpec [.val .feed,.int .i64] [.bool] true (fun x=>Ih x.1 x.2)
theorem YR:bY PG 42 LV:=okP [] [] [(42,122,abu)] trivial (fun K=>⟨fZ K,azv⟩)
def jv (x0:Int) (x1:Int):Option (List UInt8):=ai2 x0 x1
def AZ:aA:=mkSpec [.int .i64,.int .i64] [.str] true (fun x=>jv x.1 x.2)
def VI:Go.Shelf.Ren:=⟨fun | 173=>223 | 246=>286 | 283=>314 | 284=>315 | 285=>316 | 286=>317 | 129=>334 | 317=>333 | 318=>335 | 319=>336 | 320=>337 | 337=>347 | 338=>348 | n=>n,fun | 2=>2 | 3=>3 | 9=>9 | 4=>4 | 171=>376 | 0=>0 | 53=>331 | 37=>132 | 5=>5 | 173=>379 | 212=>398 | 51=>270 | 20=>20 | 213=>399 | 46=>300 | 232=>415 | 233=>416 | n=>n,fun | 17=>1 | 18=>4 | 19=>5 | n=>n⟩
theorem Hr:Go.Proofs.LaysM.n173 PG VI where
 mixed:=by kernel_rfl
 f129:=by kernel_rfl
 f173:=by kernel_rfl
 f246:=by kernel_rfl
 f283:=by kernel_rfl
 f284:=by kernel_rfl
 f285:=by kernel_rfl
 f286:=by kernel_rfl
 f317:=by kernel_rfl
 f318:=by kernel_rfl
 f319:=by kernel_rfl
 f320:=by kernel_rfl
 f337:=by kernel_rfl
 f338:=by kernel_rfl
 t0:=by kernel_rfl
 a0:=fun w=>by kernel_rfl
 z0:=fun w=>by kernel_rfl
 v0:=fun w=>by kernel_rfl
 t2:=by kernel_rfl
 a2:=fun w=>by kernel_rfl
 z2:=fun w=>by kernel_rfl
 v2:=fun w=>by kernel_rfl
 t3:=by kernel_rfl
 a3:=fun w=>by kernel_rfl
 z3:=fun w=>by kernel_rfl
 v3:=fun w=>by kernel_rfl
 t4:=by kernel_rfl
 a4:=fun w=>by kernel_rfl
 z4:=fun w=>by kernel_rfl
 v4:=fun w=>by kernel_rfl
 t5:=by kernel_rfl
 a5:=fun w=>by kernel_rfl
 z5:=fun w=>by kernel_rfl
 v5:=fun w=>by kernel_rfl
 t9:=by kernel_rfl
 a9:=fun w=>by kernel_rfl
 z9:=fun w=>by kernel_rfl
 v9:=fun w=>by kernel_rfl
 t20:=by kernel_rfl
 a20:=fun w=>by kernel_rfl
 z20:=fun w=>by kernel_rfl
 v20:=fun w=>by kernel_rfl
 t37:=by kernel_rfl
 a37:=fun w=>by kernel_rfl
 z37:=fun w=>by kernel_rfl
 v37:=fun w=>by kernel_rfl
 t46:=by kernel_rfl
 a46:=fun w=>by kernel_rfl
 z46:=fun w=>by kernel_rfl
 v46:=fun w=>by kernel_rfl
 t51:=by kernel_rfl
 a51:=fun w=>by kernel_rfl
 z51:=fun w=>by kernel_rfl
 v51:=fun w=>by kernel_rfl
 t53:=by kernel_rfl
 a53:=fun w=>by kernel_rfl
 z53:=fun w=>by kernel_rfl
 v53:=fun w=>by kernel_rfl
 t171:=by kernel_rfl
 a171:=fun w=>by kernel_rfl
 z171:=fun w=>by kernel_rfl
 v171:=fun w=>by kernel_rfl
 t173:=by kernel_rfl
 a173:=fun w=>by kernel_rfl
 z173:=fun w=>by kernel_rfl
 v173:=fun w=>by kernel_rfl
 t212:=by kernel_rfl
 a212:=fun w=>by kernel_rfl
 z212:=fun w=>by kernel_rfl
 v212:=fun w=>by kernel_rfl
 t213:=by kernel_rfl
 a213:=fun w=>by kernel_rfl
 z213:=fun w=>by kernel_rfl
 t232:=by kernel_rfl
 a232:=fun w=>by kernel_rfl
 z232:=fun w=>by kernel_rfl
 v232:=fun w=>by kernel_rfl
 t233:=by kernel_rfl
 a233:=fun w=>by kernel_rfl
 z233:=fun w=>by kernel_rfl
 v233:=fun w=>by kernel_rfl
 g17:=by kernel_rfl
 g18:=by kernel_rfl
 g19:=by kernel_rfl
 i0:=by kernel_rfl
 i2:=by kernel_rfl
 i3:=by kernel_rfl
 i4:=by kernel_rfl
 i5:=by kernel_rfl
 i9:=by kernel_rfl
 i20:=by kernel_rfl
 i37:=by kernel_rfl
 i46:=by kernel_rfl
 i51:=by kernel_rfl
 i53:=by kernel_rfl
 i171:=by kernel_rfl
 i173:=by kernel_rfl
 i212:=by kernel_rfl
 i232:=by kernel_rfl
 i233:=by kernel_rfl
 m17:=by kernel_rfl
 m18:=by kernel_rfl
 m19:=by kernel_rfl
theorem Lr:bY PG 223 AZ:=aom IC Hr (by kernel_rfl) (g:=1) (by kernel_rfl) (by simp [glL]) fun x y h=>h
def lQ (x0:(List UInt8)) (x1:Int):Option (List UInt8):=aiR x0 x1
def EP:aA:=mkSpec [.str,.int .i64] [.str] true (fun x=>lQ x.1 x.2)
def OI:Go.Shelf.Ren:=⟨fun | 105=>224 | 212=>242 | 99=>287 | 165=>288 | 166=>289 | 170=>290 | 169=>291 | 263=>296 | 264=>297 | 206=>318 | 240=>319 | 241=>320 | 276=>338 | 277=>339 | n=>n,fun | 9=>9 | 3=>3 | 4=>4 | 20=>20 | 0=>0 | 46=>300 | 109=>301 | 5=>5 | 72=>350 | 76=>352 | 51=>270 | 146=>358 | 53=>331 | 148=>360 | 70=>348 | 37=>132 | 75=>291 | 127=>381 | 164=>402 | 71=>349 | 74=>290 | 80=>355 | n=>n,fun | n=>n⟩
theorem KL:Go.Proofs.Lays.n105 PG OI where
 mixed:=by kernel_rfl
 f99:=by kernel_rfl
 f105:=by kernel_rfl
 f165:=by kernel_rfl
 f166:=by kernel_rfl
 f169:=by kernel_rfl
 f170:=by kernel_rfl
 f206:=by kernel_rfl
 f212:=by kernel_rfl
 f240:=by kernel_rfl
 f241:=by kernel_rfl
 f263:=by kernel_rfl
 f264:=by kernel_rfl
 f276:=by kernel_rfl
 f277:=by kernel_rfl
 t0:=by kernel_rfl
 a0:=fun w=>by kernel_rfl
 z0:=fun w=>by kernel_rfl
 v0:=fun w=>by kernel_rfl
 t3:=by kernel_rfl
 a3:=fun w=>by kernel_rfl
 z3:=fun w=>by kernel_rfl
 v3:=fun w=>by kernel_rfl
 t4:=by kernel_rfl
 a4:=fun w=>by kernel_rfl
 z4:=fun w=>by kernel_rfl
 v4:=fun w=>by kernel_rfl
 t5:=by kernel_rfl
 a5:=fun w=>by kernel_rfl
 z5:=fun w=>by kernel_rfl
 v5:=fun w=>by kernel_rfl
 t9:=by kernel_rfl
 a9:=fun w=>by kernel_rfl
 z9:=fun w=>by kernel_rfl
 v9:=fun w=>by kernel_rfl
 t20:=by kernel_rfl
 a20:=fun w=>by kernel_rfl
 z20:=fun w=>by kernel_rfl
 v20:=fun w=>by kernel_rfl
 t37:=by kernel_rfl
 a37:=fun w=>by kernel_rfl
 z37:=fun w=>by kernel_rfl
 v37:=fun w=>by kernel_rfl
 t46:=by kernel_rfl
 a46:=fun w=>by kernel_rfl
 z46:=fun w=>by kernel_rfl
 v46:=fun w=>by kernel_rfl
 t51:=by kernel_rfl
 a51:=fun w=>by kernel_rfl
 z51:=fun w=>by kernel_rfl
 v51:=fun w=>by kernel_rfl
 t53:=by kernel_rfl
 a53:=fun w=>by kernel_rfl
 z53:=fun w=>by kernel_rfl
 v53:=fun w=>by kernel_rfl
 t70:=by kernel_rfl
 a70:=fun w=>by kernel_rfl
 z70:=fun w=>by kernel_rfl
 v70:=fun w=>by kernel_rfl
 t72:=by kernel_rfl
 a72:=fun w=>by kernel_rfl
 z72:=fun w=>by kernel_rfl
 v72:=fun w=>by kernel_rfl
 t75:=by kernel_rfl
 a75:=fun w=>by kernel_rfl
 z75:=fun w=>by kernel_rfl
 v75:=fun w=>by kernel_rfl
 t76:=by kernel_rfl
 a76:=fun w=>by kernel_rfl
 z76:=fun w=>by kernel_rfl
 v76:=fun w=>by kernel_rfl
 t109:=by kernel_rfl
 a109:=fun w=>by kernel_rfl
 z109:=fun w=>by kernel_rfl
 v109:=fun w=>by kernel_rfl
 t127:=by kernel_rfl
 a127:=fun w=>by kernel_rfl
 z127:=fun w=>by kernel_rfl
 v127:=fun w=>by kernel_rfl
 t146:=by kernel_rfl
 a146:=fun w=>by kernel_rfl
 z146:=fun w=>by kernel_rfl
 v146:=fun w=>by kernel_rfl
 t148:=by kernel_rfl
 a148:=fun w=>by kernel_rfl
 z148:=fun w=>by kernel_rfl
 v148:=fun w=>by kernel_rfl
 t164:=by kernel_rfl
 a164:=fun w=>by kernel_rfl
 z164:=fun w=>by kernel_rfl
 v164:=fun w=>by kernel_rfl
theorem Hq:Go.Proofs.Builder.Extra PG OI where
 sizeBuilder:=by kernel_rfl
 liesBuilder:=by kernel_rfl
 t5:=by kernel_rfl
 a5:=fun w=>by kernel_rfl
 z5:=fun w=>by kernel_rfl
 v5:=fun w=>by kernel_rfl
 infoByte:=by kernel_rfl
 cellsByte:=by kernel_rfl
 sizeByte:=by kernel_rfl
 neB5:=by decide
theorem Qd:bY PG 224 EP:=aok IC KL Hq (by kernel_rfl) fun x y h=>h
def qA (x0:Int):Option ((List UInt8)):=cnd (bor (ilt x0 1) (ilt 1000000000 x0)) (some []) (ah (jv x0 10) fun y0=>ah (lQ [(UInt8.ofNat 48)] (wr .i64 (aO 10 (len y0)))) fun y1=>cnd (ile (ay 4 (len y1)) 68719476736) (cnd (ile (ay (len (aJ [(UInt8.ofNat 108),(UInt8.ofNat 111),(UInt8.ofNat 103),(UInt8.ofNat 46)] y1)) (len y0)) 68719476736) (some (aJ (aJ [(UInt8.ofNat 108),(UInt8.ofNat 111),(UInt8.ofNat 103),(UInt8.ofNat 46)] y1) y0)) none) none)
def Rf:aA:=mkSpec [.int .i64] [.str] true (fun x=>qA x)
theorem Xh:bY PG 151 Rf:=okN [(223,AZ),(224,EP)] [] ⟨Lr,Qd,azv⟩
def MO (x0:(List UInt8)):Option (Int):=some (ji [108,111,103,46] x0)
def Me:aA:=mkSpec [.str] [.int .i64] true (fun x=>MO x)
def aaO:Go.Shelf.Ren:=⟨fun | 103=>231 | 210=>292 | 206=>318 | n=>n,fun | 9=>9 | 4=>4 | 24=>288 | 3=>3 | n=>n,fun | n=>n⟩
theorem ZH:Go.Proofs.Lays.n103 PG aaO where
 mixed:=by kernel_rfl
 f103:=by kernel_rfl
 f206:=by kernel_rfl
 f210:=by kernel_rfl
 t3:=by kernel_rfl
 a3:=fun w=>by kernel_rfl
 z3:=fun w=>by kernel_rfl
 v3:=fun w=>by kernel_rfl
 t4:=by kernel_rfl
 a4:=fun w=>by kernel_rfl
 z4:=fun w=>by kernel_rfl
 v4:=fun w=>by kernel_rfl
 t9:=by kernel_rfl
 a9:=fun w=>by kernel_rfl
 z9:=fun w=>by kernel_rfl
 v9:=fun w=>by kernel_rfl
 t24:=by kernel_rfl
 a24:=fun w=>by kernel_rfl
 z24:=fun w=>by kernel_rfl
 v24:=fun w=>by kernel_rfl
theorem acU (s:ByteArray) (pos:Nat) (h:pos<s.size):1<=(Utf8.decode s pos).2:=by
 by_cases ha:(s[pos]'h).toNat<128
 ·rw[decode_ascii s pos h ha];exact awk _
 ·exact(decode_high s pos h (by omega)).2
theorem ady (w:World) (s:ByteArray) (pos:Nat):Go.RowKit.Below w.heap.size w (w.iter s pos):=
 ⟨rfl,rfl,rfl,by show _<=(w.heap.push _).size;rw[Array.size_push];omega,fun k hk=>by show(w.heap.push _)[k]? =_;rw[Array.getElem?_push,awg (by omega)]⟩
theorem abf (n:Int):inI (Go.RowKit.wrap64 n):=by unfold inI Go.RowKit.wrap64;omega
theorem abk {B B':Nat} {a b:World} (h:Go.RowKit.Below B a b) (hB:B'<=B):Go.RowKit.Below B' a b:=⟨h.os,h.tape,h.output,h.size,fun k hk=>h.block k (axf hk hB)⟩
def JO (l:List UInt8):Prop:=l.length=10/\∀c∈l,Nc c
theorem afn (n c:Nat) (h:n<10000000000) (h1:48<=c) (h2:c<=57):Go.RowKit.wrap64 (Go.RowKit.wrap64 ((n:Int)*10)+Go.RowKit.wrap64 (Go.RowKit.wrap32 ((c:Int) - 48)))=((n*10+(c - 48):Nat):Int):=by
 have e1:Go.RowKit.wrap32 ((c:Int) - 48)=(c:Int) - 48:=by unfold Go.RowKit.wrap32;omega
 have e2:Go.RowKit.wrap64 ((n:Int)*10)=(n:Int)*10:=by unfold Go.RowKit.wrap64;omega
 have e3:Go.RowKit.wrap64 ((c:Int) - 48)=(c:Int) - 48:=by unfold Go.RowKit.wrap64;omega
 have e4:Go.RowKit.wrap64 ((n:Int)*10+((c:Int) - 48))=(n:Int)*10+((c:Int) - 48):=by unfold Go.RowKit.wrap64;omega
 rw[e1,e2,e3,e4];omega
theorem abW {l:List UInt8} {pos:Nat} (ht:JO l) (h:pos<=10):pU (l.take pos)<10000000000:=by
 have hb2:=MP (l.take pos).length (l.take pos) rfl (fun c hc=>ht.2 c (axo hc));have hb3:(10:Nat)^(l.take pos).length<=10^10:=ayD (by decide) (by rw[awu];omega);have hbig:(10:Nat)^10=10000000000:=by decide
 omega
theorem adE (l:List UInt8) (pos:Nat) (h:pos<(⟨l.toArray⟩:ByteArray).size) (h2:pos<l.length):(⟨l.toArray⟩:ByteArray)[pos]'h=l[pos]'h2:=by
 show l.toArray[pos]'(by rw[ay1];exact h2)=_;rw[List.getElem_toArray]
theorem acv {l:List UInt8} {r:ByteArray} {pos:Nat} {acc:Int} (hr:(⟨l.toArray⟩:ByteArray)=r) (hsz:r.size=l.length) (ht:JO l) (hp:pos<r.size) (hv:pos<=10/\acc=((pU (l.take pos):Nat):Int)):
 pos+(Utf8.decode r pos).2<=10/\Go.RowKit.wrap64 (Go.RowKit.wrap64 (acc*10)+Go.RowKit.wrap64 (Go.RowKit.wrap32 (((Utf8.decode r pos).1:Int) - 48)))=((pU (l.take (pos+(Utf8.decode r pos).2)):Nat):Int):=by
 obtain⟨h10,rfl⟩:=hv
 have hp10:pos<10:=by rw[hsz,ht.1]at hp;exact hp
 have hpl:pos<l.length:=by rw[ht.1];exact hp10
 have hb:r[pos]'hp=l[pos]'hpl:=by subst hr;exact adE l pos hp hpl
 have hd:=rW.1 (ht.2 _ (awl hpl))
 have hdec:=decode_ascii r pos hp (by rw[hb];omega)
 rw[hb]at hdec
 have d1:(Utf8.decode r pos).1=(l[pos]'hpl).toNat:=by rw[hdec]
 have d2:(Utf8.decode r pos).2=1:=by rw[hdec]
 rw[d1,d2]
 refine⟨hp10,?_⟩
 rw[awQ hpl,Oe]
 exact afn _ _ (abW ht h10) hd.1 hd.2
theorem Zu (s r:ByteArray) (w:World)
 (h1:Calls PG 231 #[.string s,.string ⟨#[108,111,103,46]⟩] w fun e w'=>e= .returned (.tuple #[.string r,.bool false])/\w'=w):
 Calls PG 172 #[.string s] w fun e w'=>e= .returned (.int .i64 0)/\Go.RowKit.Below w.heap.size w w':=by
 go_enter Go.Proofs.Tryz.func172,Go.Proofs.Tryz.ntmps172
 go_wp2_with (go_at_call 231;refine h1.mono ?_;rintro e W1 ⟨rfl,rfl⟩)
 all_goals (go_ret;exact⟨rfl,Go.RowKit.Below.refl _ _⟩)
set_option maxHeartbeats 1000000 in
set_option maxRecDepth 1000000 in
theorem adC (s:ByteArray) (l:List UInt8) (nm:Int->List UInt8) (w:World)
 (h1:Calls PG 231 #[.string s,.string ⟨#[108,111,103,46]⟩] w fun e w'=>e= .returned (.tuple #[.string ⟨l.toArray⟩,.bool true])/\w'=w)
 (h3:∀v,inI v->∀w1,Go.RowKit.Below w.heap.size w w1->Calls PG 151 #[.int .i64 v] w1 fun e w'=>e= .returned (.string ⟨(nm v).toArray⟩)/\Go.RowKit.Below w1.heap.size w1 w'):
 Calls PG 172 #[.string s] w fun e w'=>(∃v,inI v/\(JO l->v=((pU l:Nat):Int))/\e= .returned (.int .i64 (if nm v=s.toList then v else 0)))/\Go.RowKit.Below w.heap.size w w':=by
 generalize hr:(⟨l.toArray⟩:ByteArray)=r at h1
 have hsz:r.size=l.length:=by rw[<-hr];show l.toArray.size=_;rw[ay1]
 go_enter Go.Proofs.Tryz.func172,Go.Proofs.Tryz.ntmps172
 go_wp2_with (go_at_call 231;refine h1.mono ?_;rintro e W1 ⟨rfl,rfl⟩)
 go_loopw [5] (fun n w'=>∃(pos:Nat) (acc:Int),w'=W1.iter r pos/\n= .int .i64 acc/\inI acc/\(JO l->pos<=10/\acc=((pU (l.take pos):Nat):Int))) (fun _ w'=>r.size - w'.iterPos W1.heap.size)
 case atStart=>exact⟨0,0,rfl,rfl,by unfold inI;omega,fun _=>⟨by omega,rfl⟩⟩
 case round=>
  obtain⟨pos,acc,rfl,rfl,hacc,hv⟩:=hrel
  by_cases hp:pos<r.size
  ·have hnx:∀ty,(Instr.next (.pointer (some ⟨W1.heap.size,0,none⟩)) true ty).run PG (W1.iter r pos)=_:=fun ty=>run_next_any W1 r pos ty hp
   go_wp2
   have hwd:=acU r pos hp
   go_roundw
   case rel=>
    refine⟨pos+(Utf8.decode r pos).2,_,rfl,rfl,?_,?_⟩
    ·exact abf _
    ·intro ht
     exact acv hr hsz ht hp (hv ht)
   case measure=>
    simp
    omega
  ·have hnx:∀ty,(Instr.next (.pointer (some ⟨W1.heap.size,0,none⟩)) true ty).run PG (W1.iter r pos)=_:=fun ty=>run_next_end W1 r pos ty hp
   have hbl:Go.RowKit.Below W1.heap.size W1 (W1.iter r pos):=ady W1 r pos
   go_wp2_with (go_at_call 151;refine(h3 acc hacc _ hbl).mono ?_;rintro e W3 ⟨rfl,hb3⟩)
   all_goals go_ret
   all_goals refine⟨⟨acc,hacc,fun ht=> ?_,?_⟩,hbl.trans (abk hb3 hbl.size)⟩
   all_goals first
    |(have h10:=(hv ht).1
      have hp:¬pos<10:=by rw[hsz,ht.1]at hp;exact hp
      have:=(hv ht).2
      rw[show pos=10 by omega,aw5 (by rw[ht.1];exact awk _)]at this
      exact this)
    |skip
   ·rename_i hne
    have hne:nm acc≠s.toList:=by intro e;rw[e]at hne;simp at hne
    rw[awg hne];rfl
   ·rename_i heq
    have heq:nm acc=s.toList:=by simpa using heq
    rw[awh heq];rfl
theorem ajQ (v:Int) (hv:inI v):qA v=some (uT [108,111,103,46] v):=by
 unfold inI at hv;unfold qA uT jv lQ;by_cases h:v<1\/1000000000<v
 ·rw[awh h,show bor (ilt v 1) (ilt 1000000000 v)=true by rw[aaz,Ie,Ie];exact h];rfl
 ·have e1:bor (ilt v 1) (ilt 1000000000 v)=false:=by
   rw[Bool.eq_false_iff];intro g;rw[aaz,Ie,Ie]at g;exact h g
  have hl:(fmt10 v).length<=10:=by
   unfold fmt10;rw[awg (by omega)]
   exact OH 20 _ 10 (by have:(10:Nat)^10=10000000000:=by decide
                        omega) (by decide)
  have e2:wr .i64 (aO 10 (len (fmt10 v)))=((10 - (fmt10 v).length:Nat):Int):=by
   unfold aO len wr IntKind.wrap;simp [IntKind.bits,IntKind.signed];omega
  have e3:ai2 v 10=some (fmt10 v):=by
   unfold ai2;rw[show band (ieq 10 10) (band (ile (-9223372036854775808) v) (ile v 9223372036854775807))=true by rw[rZ,rZ,jV,jV];exact⟨rfl,hv⟩];rfl
  have e4:aiR [UInt8.ofNat 48] ((10 - (fmt10 v).length:Nat):Int)=some (List.replicate (10 - (fmt10 v).length) 48):=by
   unfold aiR
   rw[show band (ile 0 ((10 - (fmt10 v).length:Nat):Int)) (band (ile ((10 - (fmt10 v).length:Nat):Int) 9223372036854775807) (ile (dA (len [UInt8.ofNat 48]) ((10 - (fmt10 v).length:Nat):Int)) 140737488355328))=true by
    rw[rZ,rZ,jV,jV,jV];simp only[dA,len,awY];omega]
   simp only[cnd,itn,axh];rw[show UInt8.ofNat 48=48 from rfl,Xq]
  rw[awg h,e1,e3];simp only[cnd,ah,ayC,e2,e4];rw[show ile (ay 4 (len (List.replicate (10 - (fmt10 v).length) (48:UInt8)))) 68719476736=true by rw[jV];simp only[ay,len,axv];omega];simp only;rw[show ile (ay (len (aJ [UInt8.ofNat 108,UInt8.ofNat 111,UInt8.ofNat 103,UInt8.ofNat 46] (List.replicate (10 - (fmt10 v).length) (48:UInt8)))) (len (fmt10 v))) 68719476736=true by rw[jV];simp only[ay,len,aJ,awn,axv,awF,axm];omega]
  rfl
theorem aln (pre s:List UInt8) (hp:s.take pre.length=pre) (hpre:pre≠[]) (v:Int) (hv:JO (s.drop pre.length)->v=((pU (s.drop pre.length):Nat):Int)):
 (if uT pre v=s then v else 0)=ji pre s:=by
 have hs:s=pre++s.drop pre.length:=by
  conv=>lhs;rw[<-aw7 pre.length s,hp]
 have hsne:s≠[]:=fun e=>by rw[e]at hp;simp at hp;exact hpre hp
 have key:uT pre v=s->JO (s.drop pre.length)/\1<=v/\v<=1000000000:=fun hn=>by
  have hr:¬(v<1\/1000000000<v):=fun g=>by unfold uT at hn;rw[awh g]at hn;exact hsne hn.symm
  have hd:s.drop pre.length=List.replicate (10 - (fmt10 v).length) 48++fmt10 v:=by
   unfold uT at hn;rw[awg hr,awT]at hn
   rw[<-hn,List.drop_left]
  have hl:(fmt10 v).length<=10:=by
   unfold fmt10;rw[awg (by omega)]
   exact OH 20 _ 10 (by have:(10:Nat)^10=10000000000:=by decide
                        omega) (by decide)
  refine⟨⟨by rw[hd,awn,axv];omega,fun c hc=> ?_⟩,by omega,by omega⟩
  rw[hd]at hc
  exact ajE v hr c hc
 by_cases hc:s.take pre.length=pre/\(s.drop pre.length).length=10/\(∀c∈s.drop pre.length,48<=c/\c<=57)/\pU (s.drop pre.length)<=1000000000
 ·have e:ji pre s=((pU (s.drop pre.length):Nat):Int):=awh hc
  have hvd:=hv ⟨hc.2.1,hc.2.2.1⟩
  rw[e]
  by_cases h0:pU (s.drop pre.length)=0
  ·rw[h0]at hvd ⊢
   rw[awg (fun g=>by have:=(key g).2.1;rw[hvd]at this;revert this;decide)];rfl
  ·have hn:uT pre v=s:=by
    rw[hvd]
    unfold uT
    rw[awg (by omega)]
    have hf:fmt10 ((pU (s.drop pre.length):Nat):Int)=NS 20 (pU (s.drop pre.length)):=by
     unfold fmt10;rw[awg (by omega)];rfl
    rw[hf,awT,ajf hc.2.1 hc.2.2.1 (MP 10 _ hc.2.1 hc.2.2.1)];exact hs.symm
   rw[awh hn,hvd]
 ·have e:ji pre s=0:=awg hc
  rw[e]
  by_cases hn:uT pre v=s
  ·exfalso
   obtain⟨k1,k2,k3⟩:=key hn
   have:=hv k1
   exact hc ⟨hp,k1.1,k1.2,by omega⟩
  ·rw[awg hn]
theorem YZ:bY PG 172 Me:=by
 refine aen (xs:=[.str]) (rs:=[.int .i64]) rfl rfl (ae0 IC (by kernel_rfl)) fun(x:List UInt8) (y:Int) w hrun hg=> ?_;have hy:y=ji [108,111,103,46] x:=(awr hrun).symm;subst hy;show Calls PG 172 #[.string ⟨x.toArray⟩] w fun e w'=>e= .returned (.int .i64 (ji [108,111,103,46] x))/\Go.RowKit.Below w.heap.size w w';have hcut:=Go.Proofs.Any.strings_CutPrefix ZH ⟨x.toArray⟩ ⟨#[108,111,103,46]⟩ w;change Calls PG 231 #[.string ⟨x.toArray⟩,.string ⟨#[108,111,103,46]⟩] w (fun e w'=>e= .returned (.tuple #[.string ⟨(Go.Lib.trimPrefix x [108,111,103,46]).toArray⟩,.bool (Go.Lib.hasPrefix x [108,111,103,46])])/\w'=w)at hcut;cases hpf:Go.Lib.hasPrefix x [108,111,103,46]with
 |false=>
  rw[hpf]at hcut;have hz:ji [108,111,103,46] x=0:=awg fun g=>by
   have:Go.Lib.hasPrefix x [108,111,103,46]=true:=by
    unfold Go.Lib.hasPrefix;rw[ay2];exact⟨x.drop 4,by conv=>rhs;rw[<-aw7 4 x,show x.take 4=_ from g.1]⟩
   rw[hpf]at this;cases this
  rw[hz];exact Zu _ _ w hcut
 |true=>
  rw[hpf]at hcut;have htk:x.take 4=[108,111,103,46]:=by
   unfold Go.Lib.hasPrefix at hpf;rw[ay2]at hpf;obtain⟨r,rfl⟩:=hpf
   rfl
  rw[show Go.Lib.trimPrefix x [108,111,103,46]=x.drop 4 by unfold Go.Lib.trimPrefix;rw[awh hpf];rfl]at hcut;have h3:∀v,inI v->∀w1,Go.RowKit.Below w.heap.size w w1->Calls PG 151 #[.int .i64 v] w1 fun e w'=>e= .returned (.string ⟨(uT [108,111,103,46] v).toArray⟩)/\Go.RowKit.Below w1.heap.size w1 w':=fun v hv w1 hb=>
   bY.calls (xs:=[.int .i64]) (r:= .str) IC (by kernel_rfl) Xh rfl rfl v (uT [108,111,103,46] v) (ajQ v hv) w1 (hg.mono (fun b h=>axf h hb.size) (fun b h=>hb.block b h))
  refine(adC ⟨x.toArray⟩ (x.drop 4) (uT [108,111,103,46]) w hcut h3).mono fun e w' ⟨⟨v,h1,h2,he⟩,hb⟩=>⟨?_,hb⟩;rw[ByteArray.toList_eq]at he;rw[he,<-aln [108,111,103,46] x htk (by simp) v h2]
def D6 (p0:Int) (p1:(List aS)) (p2:dR) (v0:Int) (v1:Bool) (v2:Bool):Option ((Int×Bool×Bool) ⊕ ((Bool) ⊕ ((Bool×Bool)))):=cnd (ilt v0 p0) (cnd (band (ile 0 v0) (ilt v0 (len p1))) (ah (MO (aj p1 (itn v0)).name) fun y0=>cnd (band (ilt 0 y0) (ieq y0 p2.seg)) (some (.inl (wr .i64 (ay v0 1),ieq (len (aj p1 (itn v0)).data) (wr .i64 (dA p2.qQ 72)),v2))) (cnd (ilt p2.J y0) (some (.inr (.inl false))) (some (.inl (wr .i64 (ay v0 1),v1,v2))))) none) (some (.inr (.inr (v1,v2))))
def adG:dB:=LSh.spec ⟨85,[(22,.int .i64),(21,.ro .file)],[(2,.mp 16 0)],[(16,[.val .wal])],[(23,.int .i64),(5,.bool),(4,.bool)],[],[]⟩ [⟨.ret,[(4,.bool)],[],[]⟩,⟨.exit 0,[(5,.bool),(4,.bool)],[],[]⟩] (sP [(4,2),(7,2),(23,29)]) (fun p v=>D6 p.1 p.2.1 p.2.2 v.1 v.2.1 v.2.2)
def Ol (x0:dR) (x1:ak):Option (Bool):=ah (Gm x0) fun y0=>ah (cnd (ax (ax y0)) (xR x1) (some false)) fun y1=>cnd (bor (ax y0) (ax y1)) (some false) (ah (bU (fun v=>D6 (len x1.b) x1.b x0 v.1 v.2.1 v.2.2) LF (0,ieq x0.seg 0,false)) fun y2=>dK y2 (fun y3=>some y3) fun y3=>some y3.1)
def QV:aA:=mkSpec [.val .wal,.val .disk] [.bool] true (fun x=>Ol x.1 x.2)
theorem ada:bY PG 149 QV:=okP [(38,IW),(36,xP),(172,Me)] [] [(149,122,adG)] ⟨UZ,Fv,YZ,azv⟩ (fun K=>⟨fZ K,azv⟩)
def wG (p0:Int) (p1:(List aS)) (v0:Int) (v1:(List Int)):Option ((Int×(List Int)) ⊕ (((List Int)))):=cnd (ilt v0 p0) (cnd (band (ile 0 v0) (ilt v0 (len p1))) (ah (MO (aj p1 (itn v0)).name) fun y0=>cnd (ilt 0 y0) (cnd (ile (len (aJ v1 [y0])) 68719476736) (some (.inl (wr .i64 (ay v0 1),aJ v1 [y0]))) none) (some (.inl (wr .i64 (ay v0 1),v1)))) none) (some (.inr v1))
def YJ:dB:=LSh.spec ⟨75,[(12,.int .i64),(11,.ro .file)],[],[],[(13,.int .i64),(3,.buf .i64)],[],[]⟩ [⟨.exit 0,[(3,.buf .i64)],[],[]⟩] (sP [(3,1),(5,2),(13,14)]) (fun p v=>wG p.1 p.2 v.1 v.2)
def IQ (x0:ak):Option ((List Int)):=ah (xR x0) fun y0=>cnd (ax y0) (some []) (ah (bU (fun v=>wG (len x0.b) x0.b v.1 v.2) LF (0,[])) fun y1=>some y1)
def Qn:aA:=mkSpec [.val .disk] [.buf .i64] true (fun x=>IQ x)
theorem adH:bY PG 86 Qn:=okP [(36,xP),(172,Me)] [] [(86,122,YJ)] ⟨Fv,YZ,azv⟩ (fun K=>⟨fZ K,azv⟩)
def eX (p0:Int) (p1:(List (List UInt8))) (v0:Int) (v1:Int):Option ((Int×Int) ⊕ ((Int) ⊕ ((Int)))):=cnd (ilt v0 p0) (cnd (band (ile 0 v0) (ilt v0 (len p1))) (ah (I4 (aj p1 (itn v0))) fun y0=>cnd (ax y0) (some (.inr (.inl v0))) (some (.inl (wr .i64 (ay v0 1),v1)))) none) (some (.inr (.inr v1)))
def xJ:dB:=LSh.spec ⟨88,[(7,.int .i64),(0,.ro .str)],[(1,.fn 279 [])],[],[(8,.int .i64),(4,.int .i64)],[],[]⟩ [⟨.ret,[(4,.int .i64)],[],[]⟩,⟨.exit 0,[(4,.int .i64)],[],[]⟩] (sP [(4,2),(8,11)]) (fun p v=>eX p.1 p.2 v.1 v.2)
def vI (x0:ak) (x1:(List (List UInt8))):Option (Int):=ah (xR x0) fun y0=>cnd (ax y0) (some 1) (cnd x0.Q (some 9) (ah (bU (fun v=>eX (len x1) x1 v.1 v.2) LF (0,0)) fun y1=>dK y1 (fun y2=>cnd (ile 0 y2) (some 1) (some 0)) fun y2=>some 0))
def uM:aA:=mkSpec [.val .disk,.ro .str] [.int .i64] true (fun x=>vI x.1 x.2)
theorem BP:bY PG 216 uM:=okP [(36,xP),(90,LW)] [278,311,279] [(3984496967405868761399,26,xJ)] ⟨Fv,Y1,azv⟩ (fun K=>⟨fZ K,azv⟩)
def yu (x0:(List UInt8)) (x1:(List UInt8)):Option (Int):=some (ail x0 x1)
def KI:aA:=mkSpec [.str,.str] [.int .i64] true (fun x=>yu x.1 x.2)
def Yr:Go.Shelf.Ren:=⟨fun | 106=>282 | 213=>312 | 265=>331 | n=>n,fun | 9=>9 | 3=>3 | n=>n,fun | n=>n⟩
theorem JH:Go.Proofs.Lays.n106 PG Yr where
 mixed:=by kernel_rfl
 f106:=by kernel_rfl
 f213:=by kernel_rfl
 f265:=by kernel_rfl
 t3:=by kernel_rfl
 a3:=fun w=>by kernel_rfl
 z3:=fun w=>by kernel_rfl
 v3:=fun w=>by kernel_rfl
 t9:=by kernel_rfl
 a9:=fun w=>by kernel_rfl
 z9:=fun w=>by kernel_rfl
 v9:=fun w=>by kernel_rfl
theorem Z8:bY PG 282 KI:=aoz IC JH (by kernel_rfl) fun x y h=>(awr h).symm
def fV (p0:(List aS)) (p1:(List UInt8)) (v0:Int) (v1:Int):Option ((Int×Int) ⊕ ((Int))):=cnd (ilt v1 v0) (cnd (band (ile 0 (wr .i64 (dw .u64 (wr .u64 (wr .i64 (ay v1 v0))) 1))) (ilt (wr .i64 (dw .u64 (wr .u64 (wr .i64 (ay v1 v0))) 1)) (len p0))) (ah (yu (aj p0 (itn (wr .i64 (dw .u64 (wr .u64 (wr .i64 (ay v1 v0))) 1)))).name p1) fun y0=>cnd (ilt y0 0) (some (.inl (v0,wr .i64 (ay (wr .i64 (dw .u64 (wr .u64 (wr .i64 (ay v1 v0))) 1)) 1)))) (some (.inl (wr .i64 (dw .u64 (wr .u64 (wr .i64 (ay v1 v0))) 1),v1)))) none) (some (.inr v1))
def wF:dB:=LSh.spec ⟨85,[(0,.ro .file),(1,.str)],[(2,.fn 281 [])],[],[(10,.int .i64),(9,.int .i64)],[],[]⟩ [⟨.exit 0,[(9,.int .i64)],[],[]⟩] (sP [(9,3),(15,20)]) (fun p v=>fV p.1 p.2 v.1 v.2)
def jL (x0:ak) (x1:(List UInt8)):Option (Int×Bool):=ah (bU (fun v=>fV x0.b x1 v.1 v.2) LF (len x0.b,0)) fun y0=>cnd (bor (band (ile 0 y0) (ilt y0 (len x0.b))) (ax (ilt y0 (len x0.b)))) (cnd (ilt y0 (len x0.b)) (ah (yu (aj x0.b (itn y0)).name x1) fun y1=>some (y0,band (ilt y0 (len x0.b)) (ieq y1 0))) (some (y0,bor (ilt y0 (len x0.b)) false))) none
def wU:aA:=mkSpec [.val .disk,.str] [.int .i64,.bool] true (fun x=>jL x.1 x.2)
theorem EI:bY PG 217 wU:=okP [(282,KI)] [280,281] [(932007956760,60,wF)] ⟨Z8,azv⟩ (fun K=>⟨fZ K,azv⟩)
def bP (x0:(List aS)):Option ((List aS)):=Je x0
def jy:aA:=mkSpec [.ro .file] [.buf .file] false (fun x=>bP x)
theorem nC:bY PG 80 jy:=aje fun x=>by kernel_rfl
def ja (x0:(List aS)) (x1:Int) (x2:Int):Option ((List aS)):=cnd (band (band (band (ile 0 x1) (ile x1 x2)) (ile x2 (len x0))) (band (ile x2 (len x0)) (ile (len x0) (len x0)))) (cnd (ieq x1 x2) (some x0) (cnd (band (ile 0 x1) (ile x1 (len x0))) (cnd (band (ile 0 x2) (ile x2 (len x0))) (cnd (ile (ay (nti (itn x1)) (len (aV (bZ x0 (itn x2)) (itn (aO (len x0) x2))))) (len x0)) (cnd (band (band (ile 0 (nti (nad (itn x1) (itn (len (aV (bZ x0 (itn x2)) (itn (aO (len x0) x2)))))))) (ile (nti (nad (itn x1) (itn (len (aV (bZ x0 (itn x2)) (itn (aO (len x0) x2))))))) (len x0))) (ile (len x0) (aO (len (jq x0 (itn x1) (aV (bZ x0 (itn x2)) (itn (aO (len x0) x2))))) 0))) (some (aV (bZ (jq (jq x0 (itn x1) (aV (bZ x0 (itn x2)) (itn (aO (len x0) x2)))) (nad 0 (itn (nti (nad (itn x1) (itn (len (aV (bZ x0 (itn x2)) (itn (aO (len x0) x2))))))))) (sK aS (itn (aO (len x0) (nti (nad (itn x1) (itn (len (aV (bZ x0 (itn x2)) (itn (aO (len x0) x2))))))))))) 0) (nad (itn x1) (itn (len (aV (bZ x0 (itn x2)) (itn (aO (len x0) x2)))))))) none) none) none) none)) none
def Df:aA:=mkSpec [.buf .file,.int .i64,.int .i64] [.ro .file] false (fun x=>ja x.1 x.2.1 x.2.2)
theorem OZ:bY PG 222 Df:=okN [] [] trivial
def vX (x0:ak) (x1:(List UInt8)):Option (ak×Int):=ah (vI x0 [x1]) fun y0=>cnd (ax (ieq y0 0)) (cnd (ax (ieq y0 0)) (some (x0,y0)) (cnd (ieq x0.T 0) (some (ak.mk x0.b x0.qZ x0.T true,9)) (cnd (ieq x0.T (-1)) (ah (bP x0.b) fun y1=>ah (ja y1 0 1) fun y2=>some (ak.mk y2 x0.qZ x0.T x0.Q,0)) (ah (bP x0.b) fun y3=>ah (ja y3 0 1) fun y4=>some (ak.mk y4 x0.qZ (wr .i64 (aO x0.T 1)) x0.Q,0))))) (ah (jL x0 x1) fun y5=>cnd (ax y5.2) (some (x0,7)) (cnd (ieq x0.T 0) (some (ak.mk x0.b x0.qZ x0.T true,9)) (cnd (ieq x0.T (-1)) (ah (bP x0.b) fun y6=>ah (ja y6 y5.1 (wr .i64 (ay y5.1 1))) fun y7=>some (ak.mk y7 x0.qZ x0.T x0.Q,0)) (ah (bP x0.b) fun y8=>ah (ja y8 y5.1 (wr .i64 (ay y5.1 1))) fun y9=>some (ak.mk y9 x0.qZ (wr .i64 (aO x0.T 1)) x0.Q,0)))))
def JS:aA:=mkSpec [.val .disk,.str] [.val .disk,.int .i64] false (fun x=>vX x.1 x.2)
theorem WH:bY PG 150 JS:=okN [(216,uM),(217,wU),(80,jy),(222,Df)] [214,221] ⟨BP,EI,nC,OZ,azv⟩
def Ei (p0:Int) (p1:Int) (p2:(List Int)) (p3:(List Int)) (p4:dR) (v0:Int) (v1:Int) (v2:ak) (v3:ak):Option ((Int×Int×ak×ak) ⊕ ((Int×ak×ak) ⊕ ((Int×ak×ak)))):=cnd (ilt v0 p0) (cnd (band (ile 0 v0) (ilt v0 (len p2))) (cnd (ilt (wr .i64 (ay v0 1)) (len p3)) (cnd (band (ile 0 (wr .i64 (ay v0 1))) (ilt (wr .i64 (ay v0 1)) (len p3))) (cnd (ieq (aj p2 (itn v0)) p4.seg) (some (.inl (wr .i64 (ay v0 1),v1,v2,v3))) (cnd (ilt p1 (wr .i64 (aO (aj p3 (itn (wr .i64 (ay v0 1)))) 1))) (some (.inr (.inl (v1,v2,v3)))) (ah (qA (aj p2 (itn v0))) fun y0=>ah (vX v3 y0) fun y1=>cnd (ax (ieq y1.2 0)) (some (.inr (.inr (y1.2,y1.1,y1.1)))) (some (.inl (wr .i64 (ay v0 1),v1,v2,y1.1)))))) none) (cnd (ieq (aj p2 (itn v0)) p4.seg) (some (.inl (wr .i64 (ay v0 1),v1,v2,v3))) (cnd (ilt p1 p4.J) (some (.inr (.inl (v1,v2,v3)))) (ah (qA (aj p2 (itn v0))) fun y2=>ah (vX v3 y2) fun y3=>cnd (ax (ieq y3.2 0)) (some (.inr (.inr (y3.2,y3.1,y3.1)))) (some (.inl (wr .i64 (ay v0 1),v1,v2,y3.1))))))) none) (some (.inr (.inl (v1,v2,v3))))
def adx:dB:=LSh.spec ⟨81,[(22,.int .i64),(2,.int .i64),(21,.ro .i64),(8,.ro .i64)],[(6,.mp 40 0),(4,.mp 32 0),(3,.mp 24 0)],[(24,[.val .wal])],[(23,.int .i64),(7,.int .i64)],[(40,[.val .disk]),(32,[.val .disk])],[]⟩ [⟨.exit 0,[(7,.int .i64)],[(40,[.val .disk]),(32,[.val .disk])],[]⟩,⟨.ret,[(7,.int .i64)],[(40,[.val .disk]),(32,[.val .disk])],[]⟩] (sP [(7,1),(9,5),(23,38)]) (fun p v=>Ei p.1 p.2.1 p.2.2.1 p.2.2.2.1 p.2.2.2.2 v.1 v.2.1 v.2.2.1 v.2.2.2)
def OQ (x0:dR) (x1:ak) (x2:Int):Option (ak×Int):=ah (Ol x0 x1) fun y0=>cnd (ax y0) (some (x1,1)) (ah (IQ x1) fun y1=>ah (bU (fun v=>Ei (len y1) x2 y1 y1 x0 v.1 v.2.1 v.2.2.1 v.2.2.2) LF (0,0,ak.mk [] 0 0 false,x1)) fun y2=>dK y2 (fun y3=>some (y3.2.2,0)) fun y3=>some (y3.2.1,y3.1))
def Qu:aA:=mkSpec [.val .wal,.val .disk,.int .i64] [.val .disk,.int .i64] false (fun x=>OQ x.1 x.2.1 x.2.2)
theorem adr:bY PG 75 Qu:=okP [(149,QV),(86,Qn),(151,Rf),(150,JS)] [] [(75,122,adx)] ⟨ada,adH,Xh,WH,azv⟩ (fun K=>⟨fZ K,azv⟩)
def Ap (x0:dR) (x1:ak):Option (Bool):=ah (OQ x0 x1 0) fun y0=>some (ax (ieq y0.2 1))
def WZ:aA:=mkSpec [.val .wal,.val .disk] [.bool] true (fun x=>Ap x.1 x.2)
theorem aiU:bY PG 44 WZ:=okN [(75,Qu)] [4095] ⟨adr,azv⟩
def vC (x0:bD):Option (Bool):=some (band (band (ieq (len x0.Y) 0) (ieq (len x0.feed.F) 0)) (ax x0.feed.gap))
def Vf:aA:=mkSpec [.val .gate] [.bool] true (fun x=>vC x)
theorem agl:bY PG 45 Vf:=okN [] [] trivial
def eG (p0:Int) (p1:(List dV)) (v0:Int) (v1:Int):Option ((Int×Int) ⊕ ((Int) ⊕ ((Int)))):=cnd (ilt v0 p0) (cnd (band (ile 0 v0) (ilt v0 (len p1))) (ah (uV (aj p1 (itn v0))) fun y0=>ah (vS y0) fun y1=>cnd (ax y1) (some (.inr (.inl v0))) (some (.inl (wr .i64 (ay v0 1),v1)))) none) (some (.inr (.inr v1)))
def wB:dB:=LSh.spec ⟨131,[(7,.int .i64),(0,.ro .note)],[(1,.fn 39 [])],[],[(8,.int .i64),(4,.int .i64)],[],[]⟩ [⟨.ret,[(4,.int .i64)],[],[]⟩,⟨.exit 0,[(4,.int .i64)],[],[]⟩] (sP [(4,2),(8,11)]) (fun p v=>eG p.1 p.2 v.1 v.2)
def Eu (x0:bD):Option (Bool):=ah (xR x0.disk) fun y0=>ah (cnd (ax (ax y0)) (Bh x0.state) (some false)) fun y1=>ah (cnd (ax (bor (ax y0) (ax y1))) (Gm x0.wal) (some false)) fun y2=>cnd (bor (bor (ax y0) (ax y1)) (ax y2)) (some false) (ah (cnd (ax (ax (ieq x0.state.B (wr .i64 (aO x0.wal.next 1))))) (Ir x0.Y x0.wal.J x0.state.B) (some false)) fun y3=>ah (cnd (ax (bor (ax (ieq x0.state.B (wr .i64 (aO x0.wal.next 1)))) (ax y3))) (Ih x0.feed (wr .i64 (ay x0.state.A 1))) (some false)) fun y4=>cnd (ax (bor (bor (ax (ieq x0.state.B (wr .i64 (aO x0.wal.next 1)))) (ax y3)) (ax y4))) (ah (bU (fun v=>eG (len x0.feed.F) x0.feed.F v.1 v.2) LF (0,0)) fun y5=>dK y5 (fun y6=>cnd (bor (bor (bor (ax (ieq x0.state.B (wr .i64 (aO x0.wal.next 1)))) (ax y3)) (ax y4)) (ile 0 y6)) (some false) (ah (cnd (band (band (band (ile 0 x0.K) (ile x0.K 1000000000)) (ax (beq x0.up x0.disk.Q))) x0.up) (Ap x0.wal x0.disk) (some false)) fun y7=>ah (cnd (band (band (band (band (ile 0 x0.K) (ile x0.K 1000000000)) (ax (beq x0.up x0.disk.Q))) (ax (band x0.up y7))) (ax x0.up)) (vC x0) (some false)) fun y8=>some (band (band (band (ile 0 x0.K) (ile x0.K 1000000000)) (ax (beq x0.up x0.disk.Q))) (bor (band x0.up y7) (band (ax x0.up) y8))))) fun y6=>cnd (bor (bor (bor (ax (ieq x0.state.B (wr .i64 (aO x0.wal.next 1)))) (ax y3)) (ax y4)) false) (some false) (ah (cnd (band (band (band (ile 0 x0.K) (ile x0.K 1000000000)) (ax (beq x0.up x0.disk.Q))) x0.up) (Ap x0.wal x0.disk) (some false)) fun y9=>ah (cnd (band (band (band (band (ile 0 x0.K) (ile x0.K 1000000000)) (ax (beq x0.up x0.disk.Q))) (ax (band x0.up y9))) (ax x0.up)) (vC x0) (some false)) fun y10=>some (band (band (band (ile 0 x0.K) (ile x0.K 1000000000)) (ax (beq x0.up x0.disk.Q))) (bor (band x0.up y9) (band (ax x0.up) y10))))) (cnd (bor (bor (bor (ax (ieq x0.state.B (wr .i64 (aO x0.wal.next 1)))) (ax y3)) (ax y4)) false) (some false) (ah (cnd (band (band (band (ile 0 x0.K) (ile x0.K 1000000000)) (ax (beq x0.up x0.disk.Q))) x0.up) (Ap x0.wal x0.disk) (some false)) fun y11=>ah (cnd (band (band (band (band (ile 0 x0.K) (ile x0.K 1000000000)) (ax (beq x0.up x0.disk.Q))) (ax (band x0.up y11))) (ax x0.up)) (vC x0) (some false)) fun y12=>some (band (band (band (ile 0 x0.K) (ile x0.K 1000000000)) (ax (beq x0.up x0.disk.Q))) (bor (band x0.up y11) (band (ax x0.up) y12))))))
def F8:aA:=mkSpec [.val .gate] [.bool] true (fun x=>Eu x)
theorem QU:bY PG 10 F8:=okP [(36,xP),(37,BH),(38,IW),(29,FZ),(40,tZ),(41,Qb),(42,LV),(44,WZ),(45,Vf)] [4095,39,43,101] [(184468443676383899749,26,wB)] ⟨Fv,KC,UZ,QW,Ba,adw,YR,aiU,agl,azv⟩ (fun K=>⟨fZ K,azv⟩)
def KG (x0:Int) (x1:jQ) (x2:Int):Option (bD×Bool):=ah (ae5 2 2 x1 x2) fun y0=>ah (cnd (ieq y0.2 0) (Eu (bD.mk (ak.mk [] x0 (-1) false) (dR.mk 1 1 0 0 0 []) y0.1 [] (jl.mk [] false) 0 true)) (some false)) fun y1=>some (bD.mk (ak.mk [] x0 (-1) false) (dR.mk 1 1 0 0 0 []) y0.1 [] (jl.mk [] false) 0 true,band (ieq y0.2 0) y1)
def Gv:aA:=mkSpec [.int .i64,.val .expo,.int .i64] [.val .gate,.bool] false (fun x=>KG x.1 x.2.1 x.2.2)
theorem VJ:bY PG 28 Gv:=okN [(78,YT),(10,F8)] [4095] ⟨alg,QU,azv⟩
def Bc (x0:bD):Option (Int):=ah (Eu x0) fun y0=>cnd (ax y0) (some 1) (cnd (ax x0.up) (some 9) (some 0))
def BO:aA:=mkSpec [.val .gate] [.int .i64] true (fun x=>Bc x)
theorem Kv:bY PG 54 BO:=okN [(10,F8)] [4095] ⟨QU,azv⟩
def jg (x0:(List aC)):Option ((List aC)):=Je x0
def CQ:aA:=mkSpec [.ro .order] [.buf .order] true (fun x=>jg x)
theorem O3:bY PG 243 CQ:=aje fun x=>by kernel_rfl
def jA (x0:(List bF)):Option ((List bF)):=Je x0
def D8:aA:=mkSpec [.ro .cell] [.buf .cell] true (fun x=>jA x)
theorem QE:bY PG 244 D8:=aje fun x=>by kernel_rfl
def jB (x0:(List jQ)):Option ((List jQ)):=Je x0
def Ej:aA:=mkSpec [.ro .expo] [.buf .expo] true (fun x=>jB x)
theorem QX:bY PG 245 Ej:=aje fun x=>by kernel_rfl
def lC (x0:(List Int)):Option ((List Int)):=Je x0
def Gy:aA:=mkSpec [.ro .i64] [.buf .i64] true (fun x=>lC x)
theorem VL:bY PG 246 Gy:=aje fun x=>by kernel_rfl
def Ky (x0:iJ):Option (aC×Int):=ah (cnd (ax (ax (ieq x0.L 1))) (vS x0) (some false)) fun y0=>cnd (bor (ax (ieq x0.L 1)) (ax y0)) (some (aC.mk 0 0 0 0 0 0 0 0 0 0 0 false,1)) (some (aC.mk x0.order x0.y x0.z x0.X x0.N x0.I 0 1 0 0 0 false,0))
def Tf:aA:=mkSpec [.val .recd] [.val .order,.int .i64] true (fun x=>Ky x)
theorem afy:bY PG 247 Tf:=okN [(40,tZ)] [] ⟨Ba,azv⟩
def RX (x0:bF):Option (jQ×Int):=ah (jP x0) fun y0=>cnd (ax y0) (some (jQ.mk 0 0 0,1)) (ah (KJ x0) fun y1=>some (y1.1,0))
def aa0:aA:=mkSpec [.val .cell] [.val .expo,.int .i64] true (fun x=>RX x)
theorem alE:bY PG 299 aa0:=okN [(178,xO),(263,OX)] [] ⟨FT,abv,azv⟩
def Fh (x0:jQ):Option (SA3):=some (SA3.mk x0.long x0.qX x0.opn)
def Rn:aA:=mkSpec [.val .expo] [.val .a3] true (fun x=>Fh x)
theorem aeL:bY PG 328 Rn:=okN [] [] trivial
def oz (x0:Int) (x1:Int) (x2:Int):Option (Bool):=some (ilt (imax x0 x2) x1)
def CG:aA:=mkSpec [.int .i64,.int .i64,.int .i64] [.bool] true (fun x=>oz x.1 x.2.1 x.2.2)
theorem MB:bY PG 301 CG:=okN [] [] trivial
def F7 (x0:jQ) (x1:jQ) (x2:jQ):Option (Bool):=ah (Fh x0) fun y0=>ah (Fh x1) fun y1=>ah (Fh x2) fun y2=>ah (oz y0.a0 y1.a0 y2.a0) fun y3=>cnd y3 (some true) (ah (oz y0.a1 y1.a1 y2.a1) fun y4=>cnd y4 (some true) (ah (oz y0.a2 y1.a2 y2.a2) fun y5=>cnd y5 (some true) (some false)))
def Ov:aA:=mkSpec [.val .expo,.val .expo,.val .expo] [.bool] true (fun x=>F7 x.1 x.2.1 x.2.2)
theorem acI:bY PG 300 Ov:=okN [(328,Rn),(301,CG)] [] ⟨aeL,MB,azv⟩
def iP (x0:aB) (x1:aB) (x2:Int) (x3:Int):Option (Int):=ah (dJ x0 x2 x3) fun y0=>ah (mQ x0 x2) fun y1=>ah (BV y1) fun y2=>cnd (ax (ieq y2.2 0)) (some 3) (ah (mQ x1 x2) fun y3=>ah (BV y3) fun y4=>cnd (band (ile 0 y0) (ilt y0 (len x1.cells))) (ah (RX (aj x1.cells (itn y0))) fun y5=>cnd (band (ile 0 y0) (ilt y0 (len x0.cells))) (ah (RX (aj x0.cells (itn y0))) fun y6=>cnd (band (ile 0 y0) (ilt y0 (len x0.G))) (ah (F7 y5.1 y6.1 (aj x0.G (itn y0))) fun y7=>cnd (bor (band (ile 0 x2) (ilt x2 (len x0.W))) (ax (ax y7))) (ah (cnd (ax y7) (oz y4.1 y2.1 (aj x0.W (itn x2))) (some false)) fun y8=>cnd (bor y7 y8) (some 4) (some 0)) none) none) none) none)
def H7:aA:=mkSpec [.val .state,.val .state,.int .i64,.int .i64] [.int .i64] true (fun x=>iP x.1 x.2.1 x.2.2.1 x.2.2.2)
theorem VR:bY PG 250 H7:=okN [(248,uF),(180,zf),(179,JM),(299,aa0),(300,Ov),(301,CG)] [] ⟨Cm,Hy,XK,alE,acI,MB,azv⟩
def fC (p0:Int) (p1:(List aC)) (p2:Int) (v0:Int) (v1:Int):Option ((Int×Int) ⊕ ((Int) ⊕ ((Int)))):=cnd (ilt v0 p0) (cnd (band (ile 0 v0) (ilt v0 (len p1))) (cnd (ieq (aj p1 (itn v0)).id p2) (some (.inr (.inl v0))) (some (.inl (wr .i64 (ay v0 1),v1)))) none) (some (.inr (.inr v1)))
def yQ:dB:=LSh.spec ⟨78,[(7,.int .i64),(0,.ro .order)],[(1,.fn 115 [.mp 24 0])],[(24,[.int .i64])],[(8,.int .i64),(4,.int .i64)],[],[]⟩ [⟨.ret,[(4,.int .i64)],[],[]⟩,⟨.exit 0,[(4,.int .i64)],[],[]⟩] (sP [(4,2),(8,11)]) (fun p v=>fC p.1 p.2.1 p.2.2 v.1 v.2)
def DV (x0:aB) (x1:Int):Option (Int):=ah (bU (fun v=>fC (len x0.a) x0.a x1 v.1 v.2) LF (0,0)) fun y0=>dK y0 (fun y1=>some y1) fun y1=>some (-1)
def NV:aA:=mkSpec [.val .state,.int .i64] [.int .i64] true (fun x=>DV x.1 x.2)
theorem aa8:bY PG 56 NV:=okP [] [115,114] [(240518209650,26,yQ)] trivial (fun K=>⟨fZ K,azv⟩)
def IY (x0:aC) (x1:Int) (x2:Int):Option (aC×Int):=ah (xK x0.O 1) fun y0=>ah (jd x0) fun y1=>cnd (ax y1) (cnd (ax y1) (some (x0,1)) (cnd (ax (ieq x0.P 2)) (cnd (ax (ieq x0.P 2)) (some (x0,8)) (some (aC.mk x0.id x0.y x0.z x0.X x0.N x0.I x0.H x0.P x1 x2 (wr .i64 (ay x0.O 1)) x0.z6,0))) (ah (jR x0) fun y2=>cnd y2 (cnd y2 (some (x0,8)) (some (aC.mk x0.id x0.y x0.z x0.X x0.N x0.I x0.H x0.P x1 x2 (wr .i64 (ay x0.O 1)) x0.z6,0))) (cnd x0.z6 (some (x0,8)) (some (aC.mk x0.id x0.y x0.z x0.X x0.N x0.I x0.H x0.P x1 x2 (wr .i64 (ay x0.O 1)) x0.z6,0)))))) (cnd (ilt x1 1) (cnd (ilt x1 1) (some (x0,1)) (cnd (ax (ieq x0.P 2)) (cnd (ax (ieq x0.P 2)) (some (x0,8)) (some (aC.mk x0.id x0.y x0.z x0.X x0.N x0.I x0.H x0.P x1 x2 (wr .i64 (ay x0.O 1)) x0.z6,0))) (ah (jR x0) fun y3=>cnd y3 (cnd y3 (some (x0,8)) (some (aC.mk x0.id x0.y x0.z x0.X x0.N x0.I x0.H x0.P x1 x2 (wr .i64 (ay x0.O 1)) x0.z6,0))) (cnd x0.z6 (some (x0,8)) (some (aC.mk x0.id x0.y x0.z x0.X x0.N x0.I x0.H x0.P x1 x2 (wr .i64 (ay x0.O 1)) x0.z6,0)))))) (cnd (ilt x2 1) (cnd (ilt x2 1) (some (x0,1)) (cnd (ax (ieq x0.P 2)) (cnd (ax (ieq x0.P 2)) (some (x0,8)) (some (aC.mk x0.id x0.y x0.z x0.X x0.N x0.I x0.H x0.P x1 x2 (wr .i64 (ay x0.O 1)) x0.z6,0))) (ah (jR x0) fun y4=>cnd y4 (cnd y4 (some (x0,8)) (some (aC.mk x0.id x0.y x0.z x0.X x0.N x0.I x0.H x0.P x1 x2 (wr .i64 (ay x0.O 1)) x0.z6,0))) (cnd x0.z6 (some (x0,8)) (some (aC.mk x0.id x0.y x0.z x0.X x0.N x0.I x0.H x0.P x1 x2 (wr .i64 (ay x0.O 1)) x0.z6,0)))))) (cnd (ax (ieq y0.2 0)) (some (x0,1)) (cnd (ax (ieq x0.P 2)) (cnd (ax (ieq x0.P 2)) (some (x0,8)) (some (aC.mk x0.id x0.y x0.z x0.X x0.N x0.I x0.H x0.P x1 x2 (wr .i64 (ay x0.O 1)) x0.z6,0))) (ah (jR x0) fun y5=>cnd y5 (cnd y5 (some (x0,8)) (some (aC.mk x0.id x0.y x0.z x0.X x0.N x0.I x0.H x0.P x1 x2 (wr .i64 (ay x0.O 1)) x0.z6,0))) (cnd x0.z6 (some (x0,8)) (some (aC.mk x0.id x0.y x0.z x0.X x0.N x0.I x0.H x0.P x1 x2 (wr .i64 (ay x0.O 1)) x0.z6,0))))))))
def Qj:aA:=mkSpec [.val .order,.int .i64,.int .i64] [.val .order,.int .i64] true (fun x=>IY x.1 x.2.1 x.2.2)
theorem adz:bY PG 251 Qj:=okN [(161,BB),(116,jY),(190,AP)] [] ⟨JI,qC,JG,azv⟩
def Rz (x0:bF) (x1:aC):Option (bF×Int):=ah (jP x0) fun y0=>ah (cnd (ax (ax y0)) (jd x1) (some false)) fun y1=>cnd (bor (ax y0) (ax y1)) (some (x0,1)) (ah (Fj x1) fun y2=>cnd (ieq x1.X 2) (ah (AU x1) fun y3=>ah (Ep x0.qK y3) fun y4=>ah (Ep x0.opn y2.1) fun y5=>ah (cnd (ax (bor (bor (ax (ieq y2.2 0)) (ax (ieq y4.2 0))) (ax (ieq y5.2 0)))) (jP (bF.mk x0.pos x0.buy y4.1 y5.1)) (some false)) fun y6=>cnd (bor (bor (bor (ax (ieq y2.2 0)) (ax (ieq y4.2 0))) (ax (ieq y5.2 0))) (ax y6)) (some (x0,3)) (some (bF.mk x0.pos x0.buy y4.1 y5.1,0))) (ah (AU x1) fun y7=>ah (Ep x0.buy y7) fun y8=>ah (Ep x0.opn y2.1) fun y9=>ah (cnd (ax (bor (bor (ax (ieq y2.2 0)) (ax (ieq y8.2 0))) (ax (ieq y9.2 0)))) (jP (bF.mk x0.pos y8.1 x0.qK y9.1)) (some false)) fun y10=>cnd (bor (bor (bor (ax (ieq y2.2 0)) (ax (ieq y8.2 0))) (ax (ieq y9.2 0))) (ax y10)) (some (x0,3)) (some (bF.mk x0.pos y8.1 x0.qK y9.1,0))))
def abz:aA:=mkSpec [.val .cell,.val .order] [.val .cell,.int .i64] true (fun x=>Rz x.1 x.2)
theorem amu:bY PG 252 abz:=okN [(178,xO),(116,jY),(326,Ku),(327,LK),(302,MX)] [298] ⟨FT,qC,V5,Za,ZN,azv⟩
def Qq (x0:aC):Option (aC×Int):=ah (jd x0) fun y0=>cnd (ax y0) (some (x0,1)) (cnd (ieq x0.P 3) (cnd (ieq x0.P 3) (some (x0,8)) (some (aC.mk x0.id x0.y x0.z x0.X x0.N x0.I x0.H x0.P x0.V x0.U x0.O true,0))) (cnd x0.z6 (some (x0,8)) (some (aC.mk x0.id x0.y x0.z x0.X x0.N x0.I x0.H x0.P x0.V x0.U x0.O true,0))))
def Xl:aA:=mkSpec [.val .order] [.val .order,.int .i64] true (fun x=>Qq x)
theorem ais:bY PG 253 Xl:=okN [(116,jY)] [] ⟨qC,azv⟩
def FW (x0:aC):Option (aC):=some (aC.mk x0.id x0.y x0.z x0.X x0.N x0.I x0.H x0.P 0 0 x0.O x0.z6)
def Gi:aA:=mkSpec [.val .order] [.val .order] true (fun x=>FW x)
theorem RH:bY PG 330 Gi:=okN [] [] trivial
def IA (x0:aC):Option (aC):=ah (FW (aC.mk x0.id x0.y x0.z x0.X x0.N x0.I x0.H 3 x0.V x0.U x0.O x0.z6)) fun y0=>some y0
def LZ:aA:=mkSpec [.val .order] [.val .order] true (fun x=>IA x)
theorem Y9:bY PG 329 LZ:=okN [(330,Gi)] [] ⟨RH,azv⟩
def MV (x0:aC) (x1:dV):Option (aC×Bool):=cnd (ieq x1.Z 1) (some (aC.mk x0.id x0.y x0.z x0.X x0.N x0.I x0.H 2 x0.V x0.U x0.O x0.z6,true)) (cnd (ieq x1.Z 2) (ah (IA x0) fun y0=>some (y0,true)) (some (x0,false)))
def U6:aA:=mkSpec [.val .order,.val .note] [.val .order,.bool] true (fun x=>MV x.1 x.2)
theorem agv:bY PG 303 U6:=okN [(329,LZ)] [] ⟨Y9,azv⟩
def MZ (x0:aC) (x1:dV):Option (aC×Bool):=cnd (ieq x1.Z 3) (cnd (ilt (wr .i64 (aO x0.N x0.H)) x1.N) (some (x0,false)) (cnd (ilt (wr .i64 (ay x0.H x1.N)) x0.N) (some (aC.mk x0.id x0.y x0.z x0.X x0.N x0.I (wr .i64 (ay x0.H x1.N)) x0.P x0.V x0.U x0.O x0.z6,true)) (ah (IA (aC.mk x0.id x0.y x0.z x0.X x0.N x0.I (wr .i64 (ay x0.H x1.N)) x0.P x0.V x0.U x0.O x0.z6)) fun y0=>some (y0,true)))) (cnd (ieq x1.Z 4) (ah (IA x0) fun y1=>some (y1,true)) (cnd (ieq x1.Z 5) (ah (jR x0) fun y2=>cnd (bor (bor (bor (ax y2) (ax (ieq x1.N x0.V))) (ax (ieq x1.I x0.U))) (ile x1.N x0.H)) (some (x0,false)) (ah (FW (aC.mk x0.id x0.y x0.z x0.X x1.N x1.I x0.H x0.P x0.V x0.U x0.O x0.z6)) fun y3=>some (y3,true))) (cnd (ieq x1.Z 6) (ah (FW x0) fun y4=>ah (jR x0) fun y5=>some (y4,y5)) (some (x0,false)))))
def U8:aA:=mkSpec [.val .order,.val .note] [.val .order,.bool] true (fun x=>MZ x.1 x.2)
theorem agz:bY PG 304 U8:=okN [(329,LZ),(190,AP),(330,Gi)] [] ⟨Y9,JG,RH,azv⟩
def MR (x0:aC) (x1:dV):Option (aC×Int):=ah (jd x0) fun y0=>ah (cnd (ax (ax y0)) (uV x1) (some (iJ.mk 0 0 0 0 0 0 0 0 0 0 false 0 0))) fun y1=>ah (cnd (ax (ax y0)) (vS y1) (some false)) fun y2=>cnd (bor (bor (ax y0) (ax y2)) (ax (ieq x1.order x0.id))) (some (x0,1)) (cnd (ieq x0.P 1) (ah (MV x0 x1) fun y3=>cnd (ax y3.2) (some (x0,8)) (some (y3.1,0))) (cnd (ieq x0.P 2) (ah (MZ x0 x1) fun y4=>cnd (ax y4.2) (some (x0,8)) (some (y4.1,0))) (some (x0,8))))
def U9:aA:=mkSpec [.val .order,.val .note] [.val .order,.int .i64] true (fun x=>MR x.1 x.2)
theorem agi:bY PG 254 U9:=okN [(116,jY),(29,FZ),(40,tZ),(303,U6),(304,U8)] [] ⟨qC,QW,Ba,agv,agz,azv⟩
def Ur (x0:bF) (x1:Int) (x2:Int):Option (bF×Int):=ah (jP x0) fun y0=>cnd (bor (bor (ax y0) (band (ax (ieq x1 1)) (ax (ieq x1 2)))) (ilt x2 0)) (some (x0,1)) (cnd (ieq x1 1) (ah (xK x0.pos x2) fun y1=>ah (cnd (ax (ax (ieq y1.2 0))) (jP (bF.mk y1.1 x0.buy x0.qK x0.opn)) (some false)) fun y2=>cnd (bor (ax (ieq y1.2 0)) (ax y2)) (some (x0,3)) (some (bF.mk y1.1 x0.buy x0.qK x0.opn,0))) (ah (Ep x0.pos x2) fun y3=>ah (cnd (ax (ax (ieq y3.2 0))) (jP (bF.mk y3.1 x0.buy x0.qK x0.opn)) (some false)) fun y4=>cnd (bor (ax (ieq y3.2 0)) (ax y4)) (some (x0,3)) (some (bF.mk y3.1 x0.buy x0.qK x0.opn,0))))
def YQ:aA:=mkSpec [.val .cell,.int .i64,.int .i64] [.val .cell,.int .i64] true (fun x=>Ur x.1 x.2.1 x.2.2)
theorem ajq:bY PG 255 YQ:=okN [(178,xO),(161,BB),(302,MX)] [] ⟨FT,JI,ZN,azv⟩
def lU (x0:(List aC)) (x1:Int) (x2:Int):Option ((List aC)):=cnd (band (band (band (ile 0 x1) (ile x1 x2)) (ile x2 (len x0))) (band (ile x2 (len x0)) (ile (len x0) (len x0)))) (cnd (ieq x1 x2) (some x0) (cnd (band (ile 0 x1) (ile x1 (len x0))) (cnd (band (ile 0 x2) (ile x2 (len x0))) (cnd (ile (ay (nti (itn x1)) (len (aV (bZ x0 (itn x2)) (itn (aO (len x0) x2))))) (len x0)) (cnd (band (band (ile 0 (nti (nad (itn x1) (itn (len (aV (bZ x0 (itn x2)) (itn (aO (len x0) x2)))))))) (ile (nti (nad (itn x1) (itn (len (aV (bZ x0 (itn x2)) (itn (aO (len x0) x2))))))) (len x0))) (ile (len x0) (aO (len (jq x0 (itn x1) (aV (bZ x0 (itn x2)) (itn (aO (len x0) x2))))) 0))) (some (aV (bZ (jq (jq x0 (itn x1) (aV (bZ x0 (itn x2)) (itn (aO (len x0) x2)))) (nad 0 (itn (nti (nad (itn x1) (itn (len (aV (bZ x0 (itn x2)) (itn (aO (len x0) x2))))))))) (sK aC (itn (aO (len x0) (nti (nad (itn x1) (itn (len (aV (bZ x0 (itn x2)) (itn (aO (len x0) x2))))))))))) 0) (nad (itn x1) (itn (len (aV (bZ x0 (itn x2)) (itn (aO (len x0) x2)))))))) none) none) none) none)) none
def BD:aA:=mkSpec [.buf .order,.int .i64,.int .i64] [.ro .order] false (fun x=>lU x.1 x.2.1 x.2.2)
theorem OV:bY PG 256 BD:=okN [] [] trivial
def ND (x0:aB) (x1:iJ):Option (aB×Int):=ah (xK x0.B 1) fun y0=>ah (cnd (ax (bor (ax (ieq y0.2 0)) (ile 1000000000 x0.B))) (vS x1) (some false)) fun y1=>ah (cnd (ax (bor (bor (ax (ieq y0.2 0)) (ile 1000000000 x0.B)) (ax y1))) (Bh x0) (some false)) fun y2=>cnd (bor (bor (bor (ax (ieq y0.2 0)) (ile 1000000000 x0.B)) (ax y1)) (ax y2)) (some (x0,1)) (ah (jg x0.a) fun y3=>ah (jA x0.cells) fun y4=>ah (jB x0.G) fun y5=>ah (lC x0.W) fun y6=>cnd (ieq x1.L 1) (ah (Ky x1) fun y7=>cnd (ile x1.order x0.S) (cnd (ile x1.order x0.S) (some (x0,1)) (cnd x0.qJ (some (x0,5)) (cnd (ieq (len y3) 64) (some (x0,6)) (ah (jg y3) fun y8=>ah (jA y4) fun y9=>ah (jB y5) fun y10=>ah (lC y6) fun y11=>ah (dJ (aB.mk x0.t x0.i y3 y4 y5 y6 x0.qJ x0.S x0.A x0.B) y7.1.y y7.1.z) fun y12=>cnd (band (ile 0 y12) (ilt y12 (len y4))) (ah (yK (aj y4 (itn y12)) y7.1) fun y13=>cnd (ax (ieq y13.2 0)) (some (x0,3)) (cnd (ile (len (aJ y3 [y7.1])) 68719476736) (ah (iP (aB.mk x0.t x0.i (aJ y3 [y7.1]) (dP y4 (itn y12) y13.1) y5 y6 x0.qJ y7.1.id x0.A x0.B) (aB.mk x0.t x0.i y8 y9 y10 y11 x0.qJ x0.S x0.A x0.B) y7.1.y y7.1.z) fun y14=>cnd (ax (ieq y14 0)) (some (x0,y14)) (some (aB.mk x0.t x0.i (aJ y3 [y7.1]) (dP y4 (itn y12) y13.1) y5 y6 x0.qJ y7.1.id x0.A (wr .i64 (ay x0.B 1)),0))) none)) none)))) (cnd (ile x0.t x1.y) (cnd (ile x0.t x1.y) (some (x0,1)) (cnd x0.qJ (some (x0,5)) (cnd (ieq (len y3) 64) (some (x0,6)) (ah (jg y3) fun y15=>ah (jA y4) fun y16=>ah (jB y5) fun y17=>ah (lC y6) fun y18=>ah (dJ (aB.mk x0.t x0.i y3 y4 y5 y6 x0.qJ x0.S x0.A x0.B) y7.1.y y7.1.z) fun y19=>cnd (band (ile 0 y19) (ilt y19 (len y4))) (ah (yK (aj y4 (itn y19)) y7.1) fun y20=>cnd (ax (ieq y20.2 0)) (some (x0,3)) (cnd (ile (len (aJ y3 [y7.1])) 68719476736) (ah (iP (aB.mk x0.t x0.i (aJ y3 [y7.1]) (dP y4 (itn y19) y20.1) y5 y6 x0.qJ y7.1.id x0.A x0.B) (aB.mk x0.t x0.i y15 y16 y17 y18 x0.qJ x0.S x0.A x0.B) y7.1.y y7.1.z) fun y21=>cnd (ax (ieq y21 0)) (some (x0,y21)) (some (aB.mk x0.t x0.i (aJ y3 [y7.1]) (dP y4 (itn y19) y20.1) y5 y6 x0.qJ y7.1.id x0.A (wr .i64 (ay x0.B 1)),0))) none)) none)))) (cnd (ile x0.i x1.z) (some (x0,1)) (cnd x0.qJ (some (x0,5)) (cnd (ieq (len y3) 64) (some (x0,6)) (ah (jg y3) fun y22=>ah (jA y4) fun y23=>ah (jB y5) fun y24=>ah (lC y6) fun y25=>ah (dJ (aB.mk x0.t x0.i y3 y4 y5 y6 x0.qJ x0.S x0.A x0.B) y7.1.y y7.1.z) fun y26=>cnd (band (ile 0 y26) (ilt y26 (len y4))) (ah (yK (aj y4 (itn y26)) y7.1) fun y27=>cnd (ax (ieq y27.2 0)) (some (x0,3)) (cnd (ile (len (aJ y3 [y7.1])) 68719476736) (ah (iP (aB.mk x0.t x0.i (aJ y3 [y7.1]) (dP y4 (itn y26) y27.1) y5 y6 x0.qJ y7.1.id x0.A x0.B) (aB.mk x0.t x0.i y22 y23 y24 y25 x0.qJ x0.S x0.A x0.B) y7.1.y y7.1.z) fun y28=>cnd (ax (ieq y28 0)) (some (x0,y28)) (some (aB.mk x0.t x0.i (aJ y3 [y7.1]) (dP y4 (itn y26) y27.1) y5 y6 x0.qJ y7.1.id x0.A (wr .i64 (ay x0.B 1)),0))) none)) none)))))) (cnd (ieq x1.L 2) (ah (DV (aB.mk x0.t x0.i y3 y4 y5 y6 x0.qJ x0.S x0.A x0.B) x1.order) fun y29=>cnd (ieq y29 (-1)) (some (x0,7)) (cnd (band (ile 0 y29) (ilt y29 (len y3))) (ah (IY (aj y3 (itn y29)) x1.N x1.I) fun y30=>cnd (ax (ieq y30.2 0)) (some (x0,8)) (cnd x0.qJ (some (x0,5)) (ah (jg y3) fun y31=>ah (jA y4) fun y32=>ah (jB y5) fun y33=>ah (lC y6) fun y34=>ah (dJ (aB.mk x0.t x0.i y3 y4 y5 y6 x0.qJ x0.S x0.A x0.B) (aj y3 (itn y29)).y (aj y3 (itn y29)).z) fun y35=>cnd (band (ile 0 y35) (ilt y35 (len y4))) (ah (Rz (aj y4 (itn y35)) (aj y3 (itn y29))) fun y36=>ah (yK y36.1 y30.1) fun y37=>cnd (ax (ieq y37.2 0)) (some (x0,3)) (cnd (band (ile 0 y29) (ilt y29 (len y3))) (ah (iP (aB.mk x0.t x0.i (dP y3 (itn y29) y30.1) (dP y4 (itn y35) y37.1) y5 y6 x0.qJ x0.S x0.A x0.B) (aB.mk x0.t x0.i y31 y32 y33 y34 x0.qJ x0.S x0.A x0.B) (aj y3 (itn y29)).y (aj y3 (itn y29)).z) fun y38=>cnd (ax (ieq y38 0)) (some (x0,y38)) (some (aB.mk x0.t x0.i (dP y3 (itn y29) y30.1) (dP y4 (itn y35) y37.1) y5 y6 x0.qJ x0.S x0.A (wr .i64 (ay x0.B 1)),0))) none)) none))) none)) (cnd (ieq x1.L 3) (ah (DV (aB.mk x0.t x0.i y3 y4 y5 y6 x0.qJ x0.S x0.A x0.B) x1.order) fun y39=>cnd (ieq y39 (-1)) (some (x0,7)) (cnd (band (ile 0 y39) (ilt y39 (len y3))) (ah (Qq (aj y3 (itn y39))) fun y40=>cnd (band (ile 0 y39) (ilt y39 (len y3))) (cnd (ax (ieq y40.2 0)) (some (x0,y40.2)) (some (aB.mk x0.t x0.i (dP y3 (itn y39) y40.1) y4 y5 y6 x0.qJ x0.S x0.A (wr .i64 (ay x0.B 1)),0))) none) none)) (cnd (ieq x1.L 4) (cnd (ile x0.t x1.y) (cnd (ile x0.t x1.y) (some (x0,1)) (cnd (ieq x1.z (-1)) (cnd (band (ile 0 x1.y) (ilt x1.y (len y6))) (some (aB.mk x0.t x0.i y3 y4 y5 (dP y6 (itn x1.y) x1.opn) x0.qJ x0.S x0.A (wr .i64 (ay x0.B 1)),0)) none) (ah (dJ (aB.mk x0.t x0.i y3 y4 y5 y6 x0.qJ x0.S x0.A x0.B) x1.y x1.z) fun y41=>cnd (band (ile 0 y41) (ilt y41 (len y5))) (some (aB.mk x0.t x0.i y3 y4 (dP y5 (itn y41) (jQ.mk x1.long x1.qX x1.opn)) y6 x0.qJ x0.S x0.A (wr .i64 (ay x0.B 1)),0)) none))) (cnd (ile x0.i x1.z) (some (x0,1)) (cnd (ieq x1.z (-1)) (cnd (band (ile 0 x1.y) (ilt x1.y (len y6))) (some (aB.mk x0.t x0.i y3 y4 y5 (dP y6 (itn x1.y) x1.opn) x0.qJ x0.S x0.A (wr .i64 (ay x0.B 1)),0)) none) (ah (dJ (aB.mk x0.t x0.i y3 y4 y5 y6 x0.qJ x0.S x0.A x0.B) x1.y x1.z) fun y42=>cnd (band (ile 0 y42) (ilt y42 (len y5))) (some (aB.mk x0.t x0.i y3 y4 (dP y5 (itn y42) (jQ.mk x1.long x1.qX x1.opn)) y6 x0.qJ x0.S x0.A (wr .i64 (ay x0.B 1)),0)) none)))) (cnd (ieq x1.L 5) (some (aB.mk x0.t x0.i y3 y4 y5 y6 x1.on x0.S x0.A (wr .i64 (ay x0.B 1)),0)) (cnd (ax (ieq x1.A (wr .i64 (ay x0.A 1)))) (some (x0,11)) (ah (DV (aB.mk x0.t x0.i y3 y4 y5 y6 x0.qJ x0.S x1.A x0.B) x1.order) fun y43=>cnd (ieq y43 (-1)) (some (aB.mk x0.t x0.i y3 y4 y5 y6 x0.qJ x0.S x1.A (wr .i64 (ay x0.B 1)),0)) (cnd (band (ile 0 y43) (ilt y43 (len y3))) (ah (MR (aj y3 (itn y43)) (dV.mk x1.A x1.Z x1.order x1.N x1.I)) fun y44=>cnd (ax (ieq y44.2 0)) (some (aB.mk x0.t x0.i y3 y4 y5 y6 x0.qJ x0.S x1.A (wr .i64 (ay x0.B 1)),0)) (ah (dJ (aB.mk x0.t x0.i y3 y4 y5 y6 x0.qJ x0.S x1.A x0.B) (aj y3 (itn y43)).y (aj y3 (itn y43)).z) fun y45=>cnd (band (ile 0 y45) (ilt y45 (len y4))) (ah (Rz (aj y4 (itn y45)) (aj y3 (itn y43))) fun y46=>ah (yK (aj (dP y4 (itn y45) y46.1) (itn y45)) y44.1) fun y47=>cnd (ieq x1.Z 3) (ah (Ur (aj (dP (dP y4 (itn y45) y46.1) (itn y45) y47.1) (itn y45)) (aj y3 (itn y43)).X x1.N) fun y48=>cnd (band (ile 0 y43) (ilt y43 (len y3))) (cnd (ieq y44.1.P 3) (ah (lU (dP y3 (itn y43) y44.1) y43 (wr .i64 (ay y43 1))) fun y49=>some (aB.mk x0.t x0.i y49 (dP (dP (dP y4 (itn y45) y46.1) (itn y45) y47.1) (itn y45) y48.1) y5 y6 x0.qJ x0.S x1.A (wr .i64 (ay x0.B 1)),0)) (some (aB.mk x0.t x0.i (dP y3 (itn y43) y44.1) (dP (dP (dP y4 (itn y45) y46.1) (itn y45) y47.1) (itn y45) y48.1) y5 y6 x0.qJ x0.S x1.A (wr .i64 (ay x0.B 1)),0))) none) (cnd (band (ile 0 y43) (ilt y43 (len y3))) (cnd (ieq y44.1.P 3) (ah (lU (dP y3 (itn y43) y44.1) y43 (wr .i64 (ay y43 1))) fun y50=>some (aB.mk x0.t x0.i y50 (dP (dP y4 (itn y45) y46.1) (itn y45) y47.1) y5 y6 x0.qJ x0.S x1.A (wr .i64 (ay x0.B 1)),0)) (some (aB.mk x0.t x0.i (dP y3 (itn y43) y44.1) (dP (dP y4 (itn y45) y46.1) (itn y45) y47.1) y5 y6 x0.qJ x0.S x1.A (wr .i64 (ay x0.B 1)),0))) none)) none)) none))))))))
def TP:aA:=mkSpec [.val .state,.val .recd] [.val .state,.int .i64] false (fun x=>ND x.1 x.2)
theorem afA:bY PG 79 TP:=okN [(161,BB),(40,tZ),(37,BH),(243,CQ),(244,D8),(245,Ej),(246,Gy),(247,Tf),(248,uF),(249,OA),(250,H7),(56,NV),(251,Qj),(252,abz),(253,Xl),(254,U9),(255,YQ),(256,BD)] [162,163,164,165,166,167] ⟨JI,Ba,KC,O3,QE,QX,VL,afy,Cm,aan,VR,aa8,adz,amu,ais,agi,ajq,OV,azv⟩
def Ut (x0:iJ):Option (SA6×Int):=ah (vS x0) fun y0=>cnd (ax y0) (some (SA6.mk 0 0 0 0 0 0,1)) (cnd (ieq x0.L 1) (some (SA6.mk x0.order x0.y x0.z x0.X x0.N x0.I,0)) (cnd (ieq x0.L 4) (some (SA6.mk x0.y x0.z x0.long x0.qX x0.opn 0,0)) (cnd (ieq x0.L 5) (cnd x0.on (some (SA6.mk 1 0 0 0 0 0,0)) (some (SA6.mk 0 0 0 0 0 0,0))) (cnd (ieq x0.L 6) (some (SA6.mk x0.A x0.Z x0.order x0.N x0.I 0,0)) (some (SA6.mk x0.order x0.N x0.I 0 0 0,0))))))
def YO:aA:=mkSpec [.val .recd] [.val .a6,.int .i64] true (fun x=>Ut x)
theorem ake:bY PG 112 YO:=okN [(40,tZ)] [] ⟨Ba,azv⟩
def dZ (x0:(List fE)):Option ((List fE)):=Je x0
def vN:aA:=mkSpec [.ro .frame] [.buf .frame] true (fun x=>dZ x)
theorem EM:bY PG 189 vN:=aje fun x=>by kernel_rfl
def XU (x0:dR) (x1:Int) (x2:SA6):Option (dR×Int):=ah (Gm x0) fun y0=>cnd (ax y0) (cnd (ax y0) (some (x0,1)) (cnd (ilt 1000000000 x0.next) (some (x0,3)) (cnd (ieq (len x0.M) 32) (some (x0,6)) (ah (dZ x0.M) fun y1=>cnd (ile (len (aJ y1 [fE.mk x0.q9 x0.next x1 x2.a0 x2.a1 x2.a2 x2.a3 x2.a4 x2.a5])) 68719476736) (some (dR.mk x0.q9 (wr .i64 (ay x0.next 1)) x0.J x0.seg x0.qQ (aJ y1 [fE.mk x0.q9 x0.next x1 x2.a0 x2.a1 x2.a2 x2.a3 x2.a4 x2.a5]),0)) none)))) (cnd (ilt x1 1) (cnd (ilt x1 1) (some (x0,1)) (cnd (ilt 1000000000 x0.next) (some (x0,3)) (cnd (ieq (len x0.M) 32) (some (x0,6)) (ah (dZ x0.M) fun y2=>cnd (ile (len (aJ y2 [fE.mk x0.q9 x0.next x1 x2.a0 x2.a1 x2.a2 x2.a3 x2.a4 x2.a5])) 68719476736) (some (dR.mk x0.q9 (wr .i64 (ay x0.next 1)) x0.J x0.seg x0.qQ (aJ y2 [fE.mk x0.q9 x0.next x1 x2.a0 x2.a1 x2.a2 x2.a3 x2.a4 x2.a5]),0)) none)))) (cnd (ilt 6 x1) (some (x0,1)) (cnd (ilt 1000000000 x0.next) (some (x0,3)) (cnd (ieq (len x0.M) 32) (some (x0,6)) (ah (dZ x0.M) fun y3=>cnd (ile (len (aJ y3 [fE.mk x0.q9 x0.next x1 x2.a0 x2.a1 x2.a2 x2.a3 x2.a4 x2.a5])) 68719476736) (some (dR.mk x0.q9 (wr .i64 (ay x0.next 1)) x0.J x0.seg x0.qQ (aJ y3 [fE.mk x0.q9 x0.next x1 x2.a0 x2.a1 x2.a2 x2.a3 x2.a4 x2.a5]),0)) none)))))
def aaN:aA:=mkSpec [.val .wal,.int .i64,.val .a6] [.val .wal,.int .i64] false (fun x=>XU x.1 x.2.1 x.2.2)
theorem amk:bY PG 113 aaN:=okN [(38,IW),(189,vN)] [] ⟨UZ,EM,azv⟩
def Et (x0:bD) (x1:iJ):Option (bD×Int):=ah (ND x0.state x1) fun y0=>cnd (ax (ieq y0.2 0)) (some (x0,y0.2)) (ah (Ut x1) fun y1=>ah (XU x0.wal x1.L y1.1) fun y2=>cnd (ax (ieq y2.2 0)) (some (x0,y2.2)) (some (bD.mk x0.disk y2.1 y0.1 x0.Y x0.feed x0.K x0.up,0)))
def FY:aA:=mkSpec [.val .gate,.val .recd] [.val .gate,.int .i64] false (fun x=>Et x.1 x.2)
theorem Qz:bY PG 55 FY:=okN [(79,TP),(112,YO),(113,aaN)] [] ⟨afA,ake,amk,azv⟩
def gu (x0:(List jh)):Option ((List jh)):=Je x0
def xH:aA:=mkSpec [.ro .msg] [.buf .msg] true (fun x=>gu x)
theorem Gt:bY PG 57 xH:=aje fun x=>by kernel_rfl
def vW (x0:Int) (x1:aC) (x2:Int):Option (jh):=cnd (ieq x0 1) (ah (jd x1) fun y0=>ah (cnd (ax (ax y0)) (o6 (jh.mk x0 x1.id x1.y x1.z x1.X x1.N x1.I 0 x2)) (some false)) fun y1=>cnd (bor (ax y0) (ax y1)) (some (jh.mk 0 0 0 0 0 0 0 0 0)) (some (jh.mk x0 x1.id x1.y x1.z x1.X x1.N x1.I 0 x2))) (cnd (ieq x0 2) (ah (jd x1) fun y2=>ah (cnd (ax (ax y2)) (o6 (jh.mk x0 x1.id x1.y x1.z x1.X x1.V x1.U x1.O x2)) (some false)) fun y3=>cnd (bor (ax y2) (ax y3)) (some (jh.mk 0 0 0 0 0 0 0 0 0)) (some (jh.mk x0 x1.id x1.y x1.z x1.X x1.V x1.U x1.O x2))) (ah (jd x1) fun y4=>ah (cnd (ax (ax y4)) (o6 (jh.mk x0 x1.id x1.y x1.z x1.X 0 0 0 x2)) (some false)) fun y5=>cnd (bor (ax y4) (ax y5)) (some (jh.mk 0 0 0 0 0 0 0 0 0)) (some (jh.mk x0 x1.id x1.y x1.z x1.X 0 0 0 x2))))
def V7:aA:=mkSpec [.int .i64,.val .order,.int .i64] [.val .msg] true (fun x=>vW x.1 x.2.1 x.2.2)
theorem ajc:bY PG 58 V7:=okN [(116,jY),(100,ER)] [] ⟨qC,PK,azv⟩
def FP (x0:bD) (x1:iJ):Option (bD×Int):=ah (Bc x0) fun y0=>cnd (ax (ieq y0 0)) (some (x0,y0)) (cnd (bor (ilt x1.L 1) (ilt 3 x1.L)) (some (x0,1)) (ah (Et x0 x1) fun y1=>cnd (ax (ieq y1.2 0)) (some (x0,y1.2)) (ah (DV y1.1.state x1.order) fun y2=>cnd (band (ile 0 y2) (ilt y2 (len y1.1.state.a))) (ah (gu x0.Y) fun y3=>ah (vW x1.L (aj y1.1.state.a (itn y2)) y1.1.state.B) fun y4=>cnd (ile (len (aJ y3 [y4])) 68719476736) (some (bD.mk y1.1.disk y1.1.wal y1.1.state (aJ y3 [y4]) y1.1.feed y1.1.K y1.1.up,0)) none) none)))
def JR:aA:=mkSpec [.val .gate,.val .recd] [.val .gate,.int .i64] false (fun x=>FP x.1 x.2)
theorem Xd:bY PG 12 JR:=okN [(54,BO),(55,FY),(56,NV),(57,xH),(58,V7)] [4095] ⟨Kv,Qz,aa8,Gt,ajc,azv⟩
def KE (v0:Int) (v1:Int):Option ((Int×Int) ⊕ ((Int))):=cnd (ilt v0 4) (cnd (ieq (wr .u32 (jT .u32 v1 1)) 1) (some (.inl (wr .i64 (ay v0 1),wr .u32 (gX .u32 (dw .u32 v1 1) 3988292384)))) (some (.inl (wr .i64 (ay v0 1),dw .u32 v1 1)))) (some (.inr v1))
def afM:dB:=LSh.spec ⟨67,[],[],[],[(4,.int .i64),(0,.int .u32)],[],[]⟩ [⟨.exit 0,[(0,.int .u32)],[],[]⟩] (sP [(0,1),(3,12)]) (fun p v=>KE v.1 v.2)
def dQ (x0:Int):Option (Int):=ah (bU (fun v=>KE v.1 v.2) LF (0,x0)) fun y0=>some y0
def Q5:aA:=mkSpec [.int .u32] [.int .u32] true (fun x=>dQ x)
theorem ade:bY PG 310 Q5:=okP [] [] [(310,26,afM)] trivial (fun K=>⟨fZ K,azv⟩)
def Kw (p0:Int) (p1:(List Int)) (v0:Int) (v1:Int):Option ((Int×Int) ⊕ ((Int))):=cnd (ilt v0 p0) (cnd (band (ile 0 v0) (ilt v0 (len p1))) (ah (dQ (wr .u32 (jT .u32 (wr .u32 (gX .u32 v1 (wr .u32 (aj p1 (itn v0))))) 15))) fun y0=>ah (dQ (wr .u32 (jT .u32 (wr .u32 (gX .u32 y0 (dw .u32 (wr .u32 (gX .u32 v1 (wr .u32 (aj p1 (itn v0))))) 4))) 15))) fun y1=>some (.inl (wr .i64 (ay v0 1),wr .u32 (gX .u32 y1 (dw .u32 (wr .u32 (gX .u32 y0 (dw .u32 (wr .u32 (gX .u32 v1 (wr .u32 (aj p1 (itn v0))))) 4))) 4))))) none) (some (.inr v1))
def af9:dB:=LSh.spec ⟨73,[(11,.int .i64),(10,.ro .u8)],[],[],[(12,.int .i64),(5,.int .u32)],[],[]⟩ [⟨.exit 0,[(5,.int .u32)],[],[]⟩] (sP [(5,1),(7,1),(12,21)]) (fun p v=>Kw p.1 p.2 v.1 v.2)
def Zp (x0:Int) (x1:(List Int)):Option (Int):=ah (bU (fun v=>Kw (len x1) x1 v.1 v.2) LF (0,wr .u32 (gX .u32 4294967295 x0))) fun y0=>some (wr .u32 (gX .u32 4294967295 y0))
def YM:aA:=mkSpec [.int .u32,.ro .u8] [.int .u32] true (fun x=>Zp x.1 x.2)
theorem akh:bY PG 277 YM:=okP [(310,Q5)] [] [(277,58,af9)] ⟨ade,azv⟩ (fun K=>⟨fZ K,azv⟩)
def Sr (x0:(List Int)):Option (Int):=ah (Zp 0 x0) fun y0=>some y0
def Ug:aA:=mkSpec [.ro .u8] [.int .u32] true (fun x=>Sr x)
theorem aeu:bY PG 211 Ug:=okN [(277,YM)] [] ⟨akh,azv⟩
def bM (p0:Int) (v0:Int) (v1:(List Int)):Option ((Int×(List Int)) ⊕ (((List Int)))):=cnd (ile 0 v0) (cnd (ile 0 (wr .i64 (dA 8 v0))) (cnd (ile (len (aJ v1 [wr .u8 (dw .u64 p0 (wr .i64 (dA 8 v0)))])) 68719476736) (some (.inl (wr .i64 (aO v0 1),aJ v1 [wr .u8 (dw .u64 p0 (wr .i64 (dA 8 v0)))]))) none) none) (some (.inr v1))
def Eo:dB:=LSh.spec ⟨76,[(1,.int .u64)],[(0,.mp 56 0)],[],[(6,.int .i64)],[(56,[.buf .u8])],[]⟩ [⟨.exit 0,[],[(56,[.buf .u8])],[]⟩] (sP [(6,1),(9,16)]) (fun p v=>bM p v.1 v.2)
def lM (p0:Int) (v0:Int) (v1:(List Int)):Option ((Int×(List Int)) ⊕ (((List Int)))):=cnd (ile 0 v0) (cnd (ile 0 (wr .i64 (dA 8 v0))) (cnd (ile (len (aJ v1 [wr .u8 (dw .u64 p0 (wr .i64 (dA 8 v0)))])) 68719476736) (some (.inl (wr .i64 (aO v0 1),aJ v1 [wr .u8 (dw .u64 p0 (wr .i64 (dA 8 v0)))]))) none) none) (some (.inr v1))
def DL:dB:=LSh.spec ⟨150,[(1,.int .u64)],[(0,.mp 56 0)],[],[(6,.int .i64)],[(56,[.buf .u8])],[]⟩ [⟨.exit 0,[],[(56,[.buf .u8])],[]⟩] (sP [(6,1),(9,16)]) (fun p v=>lM p v.1 v.2)
def kX (p0:Int) (v0:Int) (v1:(List Int)):Option ((Int×(List Int)) ⊕ (((List Int)))):=cnd (ile 0 v0) (cnd (ile 0 (wr .i64 (dA 8 v0))) (cnd (ile (len (aJ v1 [wr .u8 (dw .u64 p0 (wr .i64 (dA 8 v0)))])) 68719476736) (some (.inl (wr .i64 (aO v0 1),aJ v1 [wr .u8 (dw .u64 p0 (wr .i64 (dA 8 v0)))]))) none) none) (some (.inr v1))
def Dn:dB:=LSh.spec ⟨224,[(1,.int .u64)],[(0,.mp 56 0)],[],[(6,.int .i64)],[(56,[.buf .u8])],[]⟩ [⟨.exit 0,[],[(56,[.buf .u8])],[]⟩] (sP [(6,1),(9,16)]) (fun p v=>kX p v.1 v.2)
def kZ (p0:Int) (v0:Int) (v1:(List Int)):Option ((Int×(List Int)) ⊕ (((List Int)))):=cnd (ile 0 v0) (cnd (ile 0 (wr .i64 (dA 8 v0))) (cnd (ile (len (aJ v1 [wr .u8 (dw .u64 p0 (wr .i64 (dA 8 v0)))])) 68719476736) (some (.inl (wr .i64 (aO v0 1),aJ v1 [wr .u8 (dw .u64 p0 (wr .i64 (dA 8 v0)))]))) none) none) (some (.inr v1))
def Dl:dB:=LSh.spec ⟨298,[(1,.int .u64)],[(0,.mp 56 0)],[],[(6,.int .i64)],[(56,[.buf .u8])],[]⟩ [⟨.exit 0,[],[(56,[.buf .u8])],[]⟩] (sP [(6,1),(9,16)]) (fun p v=>kZ p v.1 v.2)
def lu (p0:Int) (v0:Int) (v1:(List Int)):Option ((Int×(List Int)) ⊕ (((List Int)))):=cnd (ile 0 v0) (cnd (ile 0 (wr .i64 (dA 8 v0))) (cnd (ile (len (aJ v1 [wr .u8 (dw .u64 p0 (wr .i64 (dA 8 v0)))])) 68719476736) (some (.inl (wr .i64 (aO v0 1),aJ v1 [wr .u8 (dw .u64 p0 (wr .i64 (dA 8 v0)))]))) none) none) (some (.inr v1))
def Dq:dB:=LSh.spec ⟨377,[(1,.int .u64)],[(0,.mp 56 0)],[],[(6,.int .i64)],[(56,[.buf .u8])],[]⟩ [⟨.exit 0,[],[(56,[.buf .u8])],[]⟩] (sP [(6,1),(9,16)]) (fun p v=>lu p v.1 v.2)
def kY (p0:Int) (v0:Int) (v1:(List Int)):Option ((Int×(List Int)) ⊕ (((List Int)))):=cnd (ile 0 v0) (cnd (ile 0 (wr .i64 (dA 8 v0))) (cnd (ile (len (aJ v1 [wr .u8 (dw .u64 p0 (wr .i64 (dA 8 v0)))])) 68719476736) (some (.inl (wr .i64 (aO v0 1),aJ v1 [wr .u8 (dw .u64 p0 (wr .i64 (dA 8 v0)))]))) none) none) (some (.inr v1))
def Dw:dB:=LSh.spec ⟨455,[(1,.int .u64)],[(0,.mp 56 0)],[],[(6,.int .i64)],[(56,[.buf .u8])],[]⟩ [⟨.exit 0,[],[(56,[.buf .u8])],[]⟩] (sP [(6,1),(9,16)]) (fun p v=>kY p v.1 v.2)
def lD (p0:Int) (v0:Int) (v1:(List Int)):Option ((Int×(List Int)) ⊕ (((List Int)))):=cnd (ile 0 v0) (cnd (ile 0 (wr .i64 (dA 8 v0))) (cnd (ile (len (aJ v1 [wr .u8 (dw .u64 p0 (wr .i64 (dA 8 v0)))])) 68719476736) (some (.inl (wr .i64 (aO v0 1),aJ v1 [wr .u8 (dw .u64 p0 (wr .i64 (dA 8 v0)))]))) none) none) (some (.inr v1))
def Dv:dB:=LSh.spec ⟨533,[(1,.int .u64)],[(0,.mp 56 0)],[],[(6,.int .i64)],[(56,[.buf .u8])],[]⟩ [⟨.exit 0,[],[(56,[.buf .u8])],[]⟩] (sP [(6,1),(9,16)]) (fun p v=>lD p v.1 v.2)
def lq (p0:Int) (v0:Int) (v1:(List Int)):Option ((Int×(List Int)) ⊕ (((List Int)))):=cnd (ile 0 v0) (cnd (ile 0 (wr .i64 (dA 8 v0))) (cnd (ile (len (aJ v1 [wr .u8 (dw .u64 p0 (wr .i64 (dA 8 v0)))])) 68719476736) (some (.inl (wr .i64 (aO v0 1),aJ v1 [wr .u8 (dw .u64 p0 (wr .i64 (dA 8 v0)))]))) none) none) (some (.inr v1))
def Dk:dB:=LSh.spec ⟨611,[(1,.int .u64)],[(0,.mp 56 0)],[],[(6,.int .i64)],[(56,[.buf .u8])],[]⟩ [⟨.exit 0,[],[(56,[.buf .u8])],[]⟩] (sP [(6,1),(9,16)]) (fun p v=>lq p v.1 v.2)
def kV (p0:Int) (v0:Int) (v1:(List Int)):Option ((Int×(List Int)) ⊕ (((List Int)))):=cnd (ile 0 v0) (cnd (ile 0 (wr .i64 (dA 8 v0))) (cnd (ile (len (aJ v1 [wr .u8 (dw .u64 p0 (wr .i64 (dA 8 v0)))])) 68719476736) (some (.inl (wr .i64 (aO v0 1),aJ v1 [wr .u8 (dw .u64 p0 (wr .i64 (dA 8 v0)))]))) none) none) (some (.inr v1))
def Du:dB:=LSh.spec ⟨689,[(1,.int .u64)],[(0,.mp 56 0)],[],[(6,.int .i64)],[(56,[.buf .u8])],[]⟩ [⟨.exit 0,[],[(56,[.buf .u8])],[]⟩] (sP [(6,1),(9,16)]) (fun p v=>kV p v.1 v.2)
def kU (p0:Int) (v0:Int) (v1:(List Int)):Option ((Int×(List Int)) ⊕ (((List Int)))):=cnd (ile 0 v0) (cnd (ile 0 (wr .i64 (dA 8 v0))) (cnd (ile (len (aJ v1 [wr .u8 (dw .u64 p0 (wr .i64 (dA 8 v0)))])) 68719476736) (some (.inl (wr .i64 (aO v0 1),aJ v1 [wr .u8 (dw .u64 p0 (wr .i64 (dA 8 v0)))]))) none) none) (some (.inr v1))
def Dp:dB:=LSh.spec ⟨767,[(1,.int .u64)],[(0,.mp 56 0)],[],[(6,.int .i64)],[(56,[.buf .u8])],[]⟩ [⟨.exit 0,[],[(56,[.buf .u8])],[]⟩] (sP [(6,1),(9,16)]) (fun p v=>kU p v.1 v.2)
def I5 (x0:fE):Option ((List Int)×Int):=ah (EY x0) fun y0=>cnd (ax y0) (some ([],1)) (ah (bU (fun v=>bM 72 v.1 v.2) LF (3,[])) fun y1=>ah (bU (fun v=>lM (wr .u64 x0.q9) v.1 v.2) LF (3,y1)) fun y2=>ah (bU (fun v=>kX (wr .u64 x0.B) v.1 v.2) LF (7,y2)) fun y3=>ah (bU (fun v=>kZ (wr .u64 x0.L) v.1 v.2) LF (3,y3)) fun y4=>ah (bU (fun v=>lu (wr .u64 x0.b0) v.1 v.2) LF (7,y4)) fun y5=>ah (bU (fun v=>kY (wr .u64 x0.b1) v.1 v.2) LF (7,y5)) fun y6=>ah (bU (fun v=>lD (wr .u64 x0.b2) v.1 v.2) LF (7,y6)) fun y7=>ah (bU (fun v=>lq (wr .u64 x0.b3) v.1 v.2) LF (7,y7)) fun y8=>ah (bU (fun v=>kV (wr .u64 x0.b4) v.1 v.2) LF (7,y8)) fun y9=>ah (bU (fun v=>kU (wr .u64 x0.b5) v.1 v.2) LF (7,y9)) fun y10=>ah (Sr y10) fun y11=>cnd (ile (len (aJ y10 [wr .u8 y11,wr .u8 (dw .u32 y11 8),wr .u8 (dw .u32 y11 16),wr .u8 (dw .u32 y11 24)])) 68719476736) (some (aJ y10 [wr .u8 y11,wr .u8 (dw .u32 y11 8),wr .u8 (dw .u32 y11 16),wr .u8 (dw .u32 y11 24)],0)) none)
def P7:aA:=mkSpec [.val .frame] [.buf .u8,.int .i64] true (fun x=>I5 x)
theorem adJ:bY PG 269 P7:=okP [(265,J9),(211,Ug)] [309] [(1155346239797,6,Eo),(1155346542901,6,DL),(1155346846005,6,Dn),(1155347149109,6,Dl),(1155347472693,6,Dq),(1155347792181,6,Dw),(1155348111669,6,Dv),(1155348431157,6,Dk),(1155348750645,6,Du),(1155349070133,6,Dp)] ⟨VQ,aeu,azv⟩ (fun K=>⟨fZ K,fZ K,fZ K,fZ K,fZ K,fZ K,fZ K,fZ K,fZ K,fZ K,azv⟩)
def Fq (p0:Int) (p1:(List fE)) (v0:Int) (v1:(List Int)) (v2:Int) (v3:(List Int)):Option ((Int×(List Int)×Int×(List Int)) ⊕ ((Int×(List Int)) ⊕ (((List Int)×Int×(List Int))))):=cnd (ilt v0 p0) (cnd (band (ile 0 v0) (ilt v0 (len p1))) (ah (I5 (aj p1 (itn v0))) fun y0=>cnd (ax (ieq y0.2 0)) (some (.inr (.inl (y0.2,[])))) (cnd (ile (len (aJ v1 y0.1)) 68719476736) (some (.inl (wr .i64 (ay v0 1),aJ v1 y0.1,v2,v3))) none)) none) (some (.inr (.inr (v1,v2,v3))))
def aeX:dB:=LSh.spec ⟨71,[(10,.int .i64),(9,.ro .frame)],[],[],[(11,.int .i64),(4,.buf .u8),(3,.int .i64),(2,.buf .u8)],[],[]⟩ [⟨.ret,[(3,.int .i64),(2,.buf .u8)],[],[]⟩,⟨.exit 0,[(4,.buf .u8),(3,.int .i64),(2,.buf .u8)],[],[]⟩] (sP [(2,3),(6,3),(11,16)]) (fun p v=>Fq p.1 p.2 v.1 v.2.1 v.2.2.1 v.2.2.2)
def JX (x0:(List fE)):Option ((List Int)×Int):=ah (bU (fun v=>Fq (len x0) x0 v.1 v.2.1 v.2.2.1 v.2.2.2) LF (0,[],0,[])) fun y0=>dK y0 (fun y1=>some (y1.2,y1.1)) fun y1=>some (y1.1,0)
def Y6:aA:=mkSpec [.ro .frame] [.buf .u8,.int .i64] true (fun x=>JX x)
theorem akf:bY PG 196 Y6:=okP [(269,P7)] [] [(196,58,aeX)] ⟨adJ,azv⟩ (fun K=>⟨fZ K,azv⟩)
def Ee (p0:Int) (p1:(List aS)) (v0:Int) (v1:Int):Option ((Int×Int) ⊕ ((Int))):=cnd (ilt v0 p0) (cnd (band (ile 0 v0) (ilt v0 (len p1))) (some (.inl (wr .i64 (ay v0 1),wr .i64 (ay v1 (len (aj p1 (itn v0)).data))))) none) (some (.inr v1))
def adv:dB:=LSh.spec ⟨72,[(8,.int .i64),(7,.ro .file)],[],[],[(9,.int .i64),(3,.int .i64)],[],[]⟩ [⟨.exit 0,[(3,.int .i64)],[],[]⟩] (sP [(3,1),(5,1),(9,10)]) (fun p v=>Ee p.1 p.2 v.1 v.2)
def PI (x0:ak):Option (Int):=ah (bU (fun v=>Ee (len x0.b) x0.b v.1 v.2) LF (0,0)) fun y0=>some y0
def Xy:aA:=mkSpec [.val .disk] [.int .i64] true (fun x=>PI x)
theorem ahU:bY PG 218 Xy:=okP [] [] [(218,58,adv)] trivial (fun K=>⟨fZ K,azv⟩)
def eF (x0:(List aS)) (x1:Int) (x2:(List aS)):Option ((List aS)):=match x2 with | [n]=>cnd (band (ile 0 x1) (band (ile x1 (len x0)) (ile (ay (len x0) 1) 68719476736))) (some (aJ (aV x0 (itn x1)) (n::bZ x0 (itn x1)))) none | _=>none
noncomputable def QB:Cx:={ P:=PG,ety:=ety,fn:=look [],inl:=au2 [],lp:=ZU [] }
def vJ:aA:=Qe .file (fun x=>eF x.1 x.2.1 x.2.2)
theorem EN:bY PG 219 vJ:=
 have K:CxR QB:=IC.cx (fun _=>rfl) (l:=[]) trivial
 ahS K 219 (ao1 PG 219) (ao1 PG ((JL (ao1 PG 219)).f 29)) (by kernel_rfl) (by kernel_rfl) (by kernel_rfl) (by kernel_rfl) (by kernel_rfl) (e:= .file) (by kernel_rfl) (by kernel_rfl) (by kernel_rfl) (by kernel_rfl) (by kernel_rfl) (by kernel_rfl) rfl (fun x y h=>by obtain⟨l,k,xs⟩:=x;match xs,h with | [],h=>exact h | [_],h=>exact h | _::_::_,h=>exact h)
def o8 (p0:Int) (p1:(List adF)) (v0:Int) (v1:Int):Option ((Int×Int) ⊕ ((Int))):=cnd (ilt v0 p0) (cnd (band (ile 0 v0) (ilt v0 (len p1))) (cnd (ilt (wr .i64 (ay v1 (len (aj p1 (itn v0)).all))) 0) none (some (.inl (wr .i64 (ay v0 1),wr .i64 (ay v1 (len (aj p1 (itn v0)).all)))))) none) (some (.inr v1))
def QF:dB:=LSh.spec ⟨70,[(10,.int .i64),(9,.ro .bts)],[],[],[(11,.int .i64),(3,.int .i64)],[],[]⟩ [⟨.exit 0,[(3,.int .i64)],[],[]⟩] (sP [(3,1),(5,1),(11,12)]) (fun p v=>o8 p.1 p.2 v.1 v.2)
def jW (p0:Int) (p1:(List adF)) (v0:Int) (v1:(List Int)):Option ((Int×(List Int)) ⊕ (((List Int)))):=cnd (ilt v0 p0) (cnd (band (ile 0 v0) (ilt v0 (len p1))) (cnd (ile (len (aJ v1 (aj p1 (itn v0)).all)) 68719476736) (some (.inl (wr .i64 (ay v0 1),aJ v1 (aj p1 (itn v0)).all))) none) none) (some (.inr v1))
def Pm:dB:=LSh.spec ⟨169,[(26,.int .i64),(25,.ro .bts)],[],[],[(27,.int .i64),(6,.buf .u8)],[],[]⟩ [⟨.exit 2,[(6,.buf .u8)],[],[]⟩] (sP [(6,1),(8,1),(27,8)]) (fun p v=>jW p.1 p.2 v.1 v.2)
def uh (x0:(List adF)):Option ((List Int)):=ah (bU (fun v=>o8 (len x0) x0 v.1 v.2) LF (0,0)) fun y0=>cnd (ilt y0 0) none (cnd (ilt 0 (wr .i64 (aO y0 0))) (cnd (band (ilt 0 (wr .i64 (aO y0 0))) (ile (wr .i64 (aO y0 0)) 68719476736)) (cnd (ile 0 (len (sK Int (itn (wr .i64 (aO y0 0)))))) (ah (bU (fun v=>jW (len x0) x0 v.1 v.2) LF (0,aV (sK Int (itn (wr .i64 (aO y0 0)))) 0)) fun y1=>some y1) none) none) (ah (bU (fun v=>jW (len x0) x0 v.1 v.2) LF (0,[])) fun y2=>some y2))
def Ho:aA:=mkSpec [.ro .bts] [.buf .u8] true (fun x=>uh x)
theorem VD:bY PG 220 Ho:=okP [] [285] [(220,58,QF),(220,250,Pm)] trivial (fun K=>⟨fZ K,fZ K,azv⟩)
def je (x0:ak) (x1:(List UInt8)) (x2:(List Int)):Option (ak×Int):=ah (vI x0 [x1]) fun y0=>cnd (ax (ieq y0 0)) (some (x0,y0)) (ah (jL x0 x1) fun y1=>ah (PI x0) fun y2=>cnd (bor (ilt (wr .i64 (aO x0.qZ y2)) (len x2)) (band (ax y1.2) (ieq (len x0.b) 64))) (some (x0,6)) (ah (bP x0.b) fun y3=>cnd (ax y1.2) (ah (eF y3 y1.1 [aS.mk x1 [] 0]) fun y4=>cnd (band (ile 0 y1.1) (ilt y1.1 (len y4))) (ah (uh [adF.mk (aj y4 (itn y1.1)).data,adF.mk x2]) fun y5=>cnd (band (ile 0 y1.1) (ilt y1.1 (len y4))) (cnd (ieq x0.T 0) (some (ak.mk (dP y4 (itn y1.1) (aS.mk (aj y4 (itn y1.1)).name y5 (aj y4 (itn y1.1)).J)) x0.qZ x0.T true,9)) (cnd (ieq x0.T (-1)) (some (ak.mk (dP y4 (itn y1.1) (aS.mk (aj y4 (itn y1.1)).name y5 (aj y4 (itn y1.1)).J)) x0.qZ x0.T x0.Q,0)) (some (ak.mk (dP y4 (itn y1.1) (aS.mk (aj y4 (itn y1.1)).name y5 (aj y4 (itn y1.1)).J)) x0.qZ (wr .i64 (aO x0.T 1)) x0.Q,0)))) none) none) (cnd (band (ile 0 y1.1) (ilt y1.1 (len y3))) (ah (uh [adF.mk (aj y3 (itn y1.1)).data,adF.mk x2]) fun y6=>cnd (band (ile 0 y1.1) (ilt y1.1 (len y3))) (cnd (ieq x0.T 0) (some (ak.mk (dP y3 (itn y1.1) (aS.mk (aj y3 (itn y1.1)).name y6 (aj y3 (itn y1.1)).J)) x0.qZ x0.T true,9)) (cnd (ieq x0.T (-1)) (some (ak.mk (dP y3 (itn y1.1) (aS.mk (aj y3 (itn y1.1)).name y6 (aj y3 (itn y1.1)).J)) x0.qZ x0.T x0.Q,0)) (some (ak.mk (dP y3 (itn y1.1) (aS.mk (aj y3 (itn y1.1)).name y6 (aj y3 (itn y1.1)).J)) x0.qZ (wr .i64 (aO x0.T 1)) x0.Q,0)))) none) none)))
def EF:aA:=mkSpec [.val .disk,.str,.ro .u8] [.val .disk,.int .i64] false (fun x=>je x.1 x.2.1 x.2.2)
theorem Oa:bY PG 140 EF:=okN [(216,uM),(217,wU),(218,Xy),(80,jy),(219,vJ),(220,Ho)] [221] ⟨BP,EI,ahU,nC,EN,VD,azv⟩
def jZ (x0:ak) (x1:(List UInt8)):Option (ak×Int):=ah (vI x0 [x1]) fun y0=>cnd (ax (ieq y0 0)) (cnd (ax (ieq y0 0)) (some (x0,y0)) (cnd (ieq x0.T 0) (some (ak.mk x0.b x0.qZ x0.T true,9)) (cnd (ieq x0.T (-1)) (ah (bP x0.b) fun y1=>cnd (ilt 0 (len y1)) (cnd (ilt 0 (len y1)) (some (ak.mk (dP y1 0 (aS.mk (aj y1 0).name (aj y1 0).data (len (aj y1 0).data))) x0.qZ x0.T x0.Q,0)) none) none) (ah (bP x0.b) fun y2=>cnd (ilt 0 (len y2)) (cnd (ilt 0 (len y2)) (some (ak.mk (dP y2 0 (aS.mk (aj y2 0).name (aj y2 0).data (len (aj y2 0).data))) x0.qZ (wr .i64 (aO x0.T 1)) x0.Q,0)) none) none)))) (ah (jL x0 x1) fun y3=>cnd (ax y3.2) (some (x0,7)) (cnd (ieq x0.T 0) (some (ak.mk x0.b x0.qZ x0.T true,9)) (cnd (ieq x0.T (-1)) (ah (bP x0.b) fun y4=>cnd (band (ile 0 y3.1) (ilt y3.1 (len y4))) (cnd (band (ile 0 y3.1) (ilt y3.1 (len y4))) (some (ak.mk (dP y4 (itn y3.1) (aS.mk (aj y4 (itn y3.1)).name (aj y4 (itn y3.1)).data (len (aj y4 (itn y3.1)).data))) x0.qZ x0.T x0.Q,0)) none) none) (ah (bP x0.b) fun y5=>cnd (band (ile 0 y3.1) (ilt y3.1 (len y5))) (cnd (band (ile 0 y3.1) (ilt y3.1 (len y5))) (some (ak.mk (dP y5 (itn y3.1) (aS.mk (aj y5 (itn y3.1)).name (aj y5 (itn y3.1)).data (len (aj y5 (itn y3.1)).data))) x0.qZ (wr .i64 (aO x0.T 1)) x0.Q,0)) none) none))))
def Ia:aA:=mkSpec [.val .disk,.str] [.val .disk,.int .i64] false (fun x=>jZ x.1 x.2)
theorem Ul:bY PG 142 Ia:=okN [(216,uM),(217,wU),(80,jy)] [214,221] ⟨BP,EI,nC,azv⟩
def F6 (v0:Int) (v1:ak) (v2:dR) (v3:ak) (v4:dR):Option ((Int×ak×dR×ak×dR) ⊕ ((Int×ak×dR×ak×dR) ⊕ ((Int×ak×dR×ak×dR)))):=cnd (ilt 0 (len v4.M)) (cnd (bor (ieq v4.seg 0) (ieq v4.qQ 8)) (cnd (band (ile 0 (kP (len v4.M) 8)) (ile (kP (len v4.M) 8) (len v4.M))) (ah (JX (aV v4.M (itn (kP (len v4.M) 8)))) fun y0=>ah (qA (wr .i64 (ay v4.J 1))) fun y1=>ah (je v3 y1 y0.1) fun y2=>cnd (ieq y2.2 0) (ah (qA (wr .i64 (ay v4.J 1))) fun y3=>ah (jZ y2.1 y3) fun y4=>cnd (ax (ieq y4.2 0)) (some (.inr (.inl (y4.2,y4.1,v4,y4.1,v4)))) (cnd (band (ile 0 (kP (len v4.M) 8)) (ile (kP (len v4.M) 8) (len v4.M))) (ah (dZ (bZ v4.M (itn (kP (len v4.M) 8)))) fun y5=>some (.inl (v0,v1,v2,y4.1,dR.mk v4.q9 v4.next (wr .i64 (ay v4.J (kP (len v4.M) 8))) (wr .i64 (ay v4.J 1)) (wr .i64 (ay 0 (kP (len v4.M) 8))) y5))) none)) (cnd (ax (ieq y2.2 0)) (some (.inr (.inl (y2.2,y2.1,v4,y2.1,v4)))) (cnd (band (ile 0 (kP (len v4.M) 8)) (ile (kP (len v4.M) 8) (len v4.M))) (ah (dZ (bZ v4.M (itn (kP (len v4.M) 8)))) fun y6=>some (.inl (v0,v1,v2,y2.1,dR.mk v4.q9 v4.next (wr .i64 (ay v4.J (kP (len v4.M) 8))) (wr .i64 (ay v4.J 1)) (wr .i64 (ay 0 (kP (len v4.M) 8))) y6))) none))) none) (cnd (band (ile 0 (kP (len v4.M) (wr .i64 (aO 8 v4.qQ)))) (ile (kP (len v4.M) (wr .i64 (aO 8 v4.qQ))) (len v4.M))) (ah (JX (aV v4.M (itn (kP (len v4.M) (wr .i64 (aO 8 v4.qQ)))))) fun y7=>ah (qA v4.seg) fun y8=>ah (je v3 y8 y7.1) fun y9=>cnd (ieq y9.2 0) (ah (qA v4.seg) fun y10=>ah (jZ y9.1 y10) fun y11=>cnd (ax (ieq y11.2 0)) (some (.inr (.inl (y11.2,y11.1,v4,y11.1,v4)))) (cnd (band (ile 0 (kP (len v4.M) (wr .i64 (aO 8 v4.qQ)))) (ile (kP (len v4.M) (wr .i64 (aO 8 v4.qQ))) (len v4.M))) (ah (dZ (bZ v4.M (itn (kP (len v4.M) (wr .i64 (aO 8 v4.qQ)))))) fun y12=>some (.inl (v0,v1,v2,y11.1,dR.mk v4.q9 v4.next (wr .i64 (ay v4.J (kP (len v4.M) (wr .i64 (aO 8 v4.qQ))))) v4.seg (wr .i64 (ay v4.qQ (kP (len v4.M) (wr .i64 (aO 8 v4.qQ))))) y12))) none)) (cnd (ax (ieq y9.2 0)) (some (.inr (.inl (y9.2,y9.1,v4,y9.1,v4)))) (cnd (band (ile 0 (kP (len v4.M) (wr .i64 (aO 8 v4.qQ)))) (ile (kP (len v4.M) (wr .i64 (aO 8 v4.qQ))) (len v4.M))) (ah (dZ (bZ v4.M (itn (kP (len v4.M) (wr .i64 (aO 8 v4.qQ)))))) fun y13=>some (.inl (v0,v1,v2,y9.1,dR.mk v4.q9 v4.next (wr .i64 (ay v4.J (kP (len v4.M) (wr .i64 (aO 8 v4.qQ))))) v4.seg (wr .i64 (ay v4.qQ (kP (len v4.M) (wr .i64 (aO 8 v4.qQ))))) y13))) none))) none)) (some (.inr (.inr (v0,v1,v2,v3,v4))))
def acK:dB:=LSh.spec ⟨75,[],[(5,.mp 40 0),(4,.mp 32 0),(3,.mp 24 0),(2,.mp 16 0)],[],[(6,.int .i64)],[(40,[.val .disk]),(32,[.val .wal]),(24,[.val .disk]),(16,[.val .wal])],[]⟩ [⟨.ret,[(6,.int .i64)],[(40,[.val .disk]),(32,[.val .wal]),(24,[.val .disk]),(16,[.val .wal])],[]⟩,⟨.exit 0,[(6,.int .i64)],[(40,[.val .disk]),(32,[.val .wal]),(24,[.val .disk]),(16,[.val .wal])],[]⟩] (sP [(6,8),(20,71)]) (fun p v=>F6 v.1 v.2.1 v.2.2.1 v.2.2.2.1 v.2.2.2.2)
def MJ (x0:dR) (x1:ak):Option (dR×ak×Int):=ah (Ol x0 x1) fun y0=>cnd (ax y0) (some (x0,x1,1)) (ah (bU (fun v=>F6 v.1 v.2.1 v.2.2.1 v.2.2.2.1 v.2.2.2.2) LF (0,ak.mk [] 0 0 false,dR.mk 0 0 0 0 0 [],x1,x0)) fun y1=>dK y1 (fun y2=>some (y2.2.2.1,y2.2.1,y2.1)) fun y2=>some (y2.2.2.2.2,y2.2.2.2.1,0))
def Vl:aA:=mkSpec [.val .wal,.val .disk] [.val .wal,.val .disk,.int .i64] false (fun x=>MJ x.1 x.2)
theorem agB:bY PG 124 Vl:=okP [(149,QV),(196,Y6),(151,Rf),(140,EF),(142,Ia),(189,vN)] [] [(124,28,acK)] ⟨ada,akf,Xh,Oa,Ul,EM,azv⟩ (fun K=>⟨fZ K,azv⟩)
def KP (x0:bD):Option (bD):=some (bD.mk x0.disk x0.wal x0.state [] (jl.mk [] false) x0.K false)
def IX:aA:=mkSpec [.val .gate] [.val .gate] false (fun x=>KP x)
theorem UH:bY PG 72 IX:=okN [] [] trivial
def DY (x0:bD):Option (bD×Int):=ah (MJ x0.wal x0.disk) fun y0=>cnd y0.2.1.Q (ah (KP (bD.mk y0.2.1 y0.1 x0.state x0.Y x0.feed x0.K x0.up)) fun y1=>some (y1,y0.2.2)) (some (bD.mk y0.2.1 y0.1 x0.state x0.Y x0.feed x0.K x0.up,y0.2.2))
def IU:aA:=mkSpec [.val .gate] [.val .gate,.int .i64] false (fun x=>DY x)
theorem Ve:bY PG 66 IU:=okN [(124,Vl),(72,IX)] [4095] ⟨agB,UH,azv⟩
def fB (p0:Int) (p1:(List jh)) (p2:Int) (v0:Int) (v1:Int):Option ((Int×Int) ⊕ ((Int) ⊕ ((Int)))):=cnd (ilt v0 p0) (cnd (band (ile 0 v0) (ilt v0 (len p1))) (cnd (ilt p2 (aj p1 (itn v0)).B) (some (.inr (.inl v0))) (some (.inl (wr .i64 (ay v0 1),v1)))) none) (some (.inr (.inr v1)))
def yR:dB:=LSh.spec ⟨77,[(7,.int .i64),(0,.ro .msg)],[(1,.fn 126 [.mp 16 0])],[(16,[.int .i64])],[(8,.int .i64),(4,.int .i64)],[],[]⟩ [⟨.ret,[(4,.int .i64)],[],[]⟩,⟨.exit 0,[(4,.int .i64)],[],[]⟩] (sP [(4,2),(8,11)]) (fun p v=>fB p.1 p.2.1 p.2.2 v.1 v.2)
def H8 (x0:(List jh)) (x1:Int):Option ((List jh)×(List jh)):=ah (bU (fun v=>fB (len x0) x0 x1 v.1 v.2) LF (0,0)) fun y0=>dK y0 (fun y1=>cnd (ilt y1 0) (cnd (band (ile 0 (len x0)) (ile (len x0) (len x0))) (ah (gu (aV x0 (itn (len x0)))) fun y2=>cnd (band (ile 0 (len x0)) (ile (len x0) (len x0))) (ah (gu (bZ x0 (itn (len x0)))) fun y3=>some (y2,y3)) none) none) (cnd (band (ile 0 y1) (ile y1 (len x0))) (ah (gu (aV x0 (itn y1))) fun y4=>cnd (band (ile 0 y1) (ile y1 (len x0))) (ah (gu (bZ x0 (itn y1))) fun y5=>some (y4,y5)) none) none)) fun y1=>cnd (band (ile 0 (len x0)) (ile (len x0) (len x0))) (ah (gu (aV x0 (itn (len x0)))) fun y6=>cnd (band (ile 0 (len x0)) (ile (len x0) (len x0))) (ah (gu (bZ x0 (itn (len x0)))) fun y7=>some (y6,y7)) none) none
def Qc:aA:=mkSpec [.ro .msg,.int .i64] [.buf .msg,.buf .msg] true (fun x=>H8 x.1 x.2)
theorem adD:bY PG 67 Qc:=okP [(57,xH)] [126,125] [(287762845821,26,yR)] ⟨Gt,azv⟩ (fun K=>⟨fZ K,azv⟩)
def Bf (x0:bD):Option (bD×(List jh)×Int):=ah (Bc x0) fun y0=>cnd (ax (ieq y0 0)) (some (x0,[],y0)) (ah (DY x0) fun y1=>cnd (ax y1.1.up) (some (y1.1,[],y1.2)) (ah (H8 y1.1.Y y1.1.wal.J) fun y2=>some (bD.mk y1.1.disk y1.1.wal y1.1.state y2.2 y1.1.feed y1.1.K y1.1.up,y2.1,y1.2)))
def BL:aA:=mkSpec [.val .gate] [.val .gate,.buf .msg,.int .i64] false (fun x=>Bf x)
theorem KA:bY PG 17 BL:=okN [(54,BO),(66,IU),(67,Qc)] [4095] ⟨Kv,Ve,adD,azv⟩
def TM (x0:aB) (x1:iJ):Option (Int):=ah (ND x0 x1) fun y0=>some y0.2
def YP:aA:=mkSpec [.val .state,.val .recd] [.int .i64] true (fun x=>TM x.1 x.2)
theorem ajJ:bY PG 71 YP:=okN [(79,TP)] [] ⟨afA,azv⟩
def KU (x0:bD) (x1:iJ):Option (bD×(List jh)×Int):=ah (Bc x0) fun y0=>cnd (ax (ieq y0 0)) (some (x0,[],y0)) (cnd (band (ax (ieq x1.L 4)) (ax (ieq x1.L 5))) (some (x0,[],1)) (ah (TM x0.state x1) fun y1=>cnd (ax (ieq y1 0)) (some (x0,[],y1)) (ah (Bf x0) fun y2=>cnd (ax (ieq y2.2.2 0)) (some y2) (ah (Et y2.1 x1) fun y3=>cnd (ax (ieq y3.2 0)) (some (y2.1,y2.2.1,y3.2)) (ah (DY y3.1) fun y4=>cnd (ieq y4.2 0) (some (y4.1,y2.2.1,0)) (cnd y4.1.up (some (y2.1,y2.2.1,y4.2)) (ah (KP (bD.mk y4.1.disk y2.1.wal y2.1.state y2.1.Y y2.1.feed y2.1.K y2.1.up)) fun y5=>some (y5,y2.2.1,y4.2))))))))
def Oz:aA:=mkSpec [.val .gate,.val .recd] [.val .gate,.buf .msg,.int .i64] false (fun x=>KU x.1 x.2)
theorem aaW:bY PG 20 Oz:=okN [(54,BO),(71,YP),(17,BL),(55,FY),(66,IU),(72,IX)] [4095] ⟨Kv,ajJ,KA,Qz,Ve,UH,azv⟩
def Ue (x0:Int) (x1:Int) (x2:Int):Option (Int):=some (wr .i64 (ay (wr .i64 (ay (wr .i64 (ay (wr .i64 (ay 32 (wr .i64 (dA x2 61)))) (wr .i64 (dA (wr .i64 (dA x0 x1)) 32)))) (wr .i64 (dA x0 8)))) 4))
def YU:aA:=mkSpec [.int .i64,.int .i64,.int .i64] [.int .i64] true (fun x=>Ue x.1 x.2.1 x.2.2)
theorem akI:bY PG 276 YU:=okN [] [] trivial
def JW (x0:aB):Option (Int):=ah (Bh x0) fun y0=>cnd (ax y0) (some 0) (ah (Ue x0.t x0.i (len x0.a)) fun y1=>some y1)
def Y4:aA:=mkSpec [.val .state] [.int .i64] true (fun x=>JW x)
theorem aku:bY PG 207 Y4:=okN [(37,BH),(276,YU)] [] ⟨KC,akI,azv⟩
def XT (x0:Bool):Option (Int):=cnd x0 (some 1) (some 0)
def aaL:aA:=mkSpec [.bool] [.int .i64] true (fun x=>XT x)
theorem alJ:bY PG 209 aaL:=okN [] [] trivial
def wQ (p0:Int) (v0:Int) (v1:(List Int)):Option ((Int×(List Int)) ⊕ (((List Int)))):=cnd (ile 0 v0) (cnd (ile 0 (wr .i64 (dA 8 v0))) (cnd (ile (len (aJ v1 [wr .u8 (dw .i64 p0 (wr .i64 (dA 8 v0)))])) 68719476736) (some (.inl (wr .i64 (aO v0 1),aJ v1 [wr .u8 (dw .i64 p0 (wr .i64 (dA 8 v0)))]))) none) none) (some (.inr v1))
def YF:dB:=LSh.spec ⟨144,[(8,.int .i64)],[],[],[(9,.int .i64),(0,.buf .u8)],[],[]⟩ [⟨.exit 2,[(0,.buf .u8)],[],[]⟩] (sP [(0,1),(9,1),(18,12)]) (fun p v=>wQ p v.1 v.2)
def EH (p0:Int) (p1:(List Int)) (p2:Int) (v0:Int) (v1:(List Int)):Option ((Int×(List Int)) ⊕ (((List Int)))):=cnd (ilt v0 p0) (cnd (band (ile 0 v0) (ilt v0 (len p1))) (ah (bU (fun v=>wQ (aj p1 (itn v0)) v.1 v.2) LF (wr .i64 (aO p2 1),v1)) fun y0=>some (.inl (wr .i64 (ay v0 1),y0))) none) (some (.inr v1))
def aap:dB:=LSh.spec ⟨71,[(11,.int .i64),(10,.ro .i64),(1,.int .i64)],[],[],[(12,.int .i64),(0,.buf .u8)],[],[]⟩ [⟨.exit 0,[(0,.buf .u8)],[],[]⟩] (sP [(0,1),(8,2),(12,19)]) (fun p v=>EH p.1 p.2.1 p.2.2 v.1 v.2)
def yY (x0:(List Int)) (x1:Int) (x2:(List Int)):Option ((List Int)):=ah (bU (fun v=>EH (len x2) x2 x1 v.1 v.2) LF (0,x0)) fun y0=>some y0
def SL:aA:=mkSpec [.buf .u8,.int .i64,.ro .i64] [.buf .u8] true (fun x=>yY x.1 x.2.1 x.2.2)
theorem aeV:bY PG 208 SL:=okP [] [] [(208,6758,YF),(208,26,aap)] trivial (fun K=>⟨fZ K,fZ K,azv⟩)
def Lc (p0:Int) (v0:Int) (v1:(List Int)):Option ((Int×(List Int)) ⊕ (((List Int)))):=cnd (ile 0 v0) (cnd (ile 0 (wr .i64 (dA 8 v0))) (cnd (ile (len (aJ v1 [wr .u8 (dw .i64 p0 (wr .i64 (dA 8 v0)))])) 68719476736) (some (.inl (wr .i64 (aO v0 1),aJ v1 [wr .u8 (dw .i64 p0 (wr .i64 (dA 8 v0)))]))) none) none) (some (.inr v1))
def VA:dB:=LSh.spec ⟨144,[(8,.int .i64)],[],[],[(9,.int .i64),(0,.buf .u8)],[],[]⟩ [⟨.exit 2,[(0,.buf .u8)],[],[]⟩] (sP [(0,1),(9,1),(18,12)]) (fun p v=>Lc p v.1 v.2)
def NW (p0:Int) (p1:(List Int)) (p2:Int) (v0:Int) (v1:(List Int)):Option ((Int×(List Int)) ⊕ (((List Int)))):=cnd (ilt v0 p0) (cnd (band (ile 0 v0) (ilt v0 (len p1))) (ah (bU (fun v=>Lc (aj p1 (itn v0)) v.1 v.2) LF (wr .i64 (aO p2 1),v1)) fun y0=>some (.inl (wr .i64 (ay v0 1),y0))) none) (some (.inr v1))
def Yy:dB:=LSh.spec ⟨71,[(11,.int .i64),(10,.ro .i64),(1,.int .i64)],[],[],[(12,.int .i64),(0,.buf .u8)],[],[]⟩ [⟨.exit 0,[(0,.buf .u8)],[],[]⟩] (sP [(0,1),(8,2),(12,19)]) (fun p v=>NW p.1 p.2.1 p.2.2 v.1 v.2)
def nT (x0:(List Int)) (x1:Int) (x2:(List Int)):Option ((List Int)):=ah (bU (fun v=>NW (len x2) x2 x1 v.1 v.2) LF (0,x0)) fun y0=>some y0
def N8:aA:=mkSpec [.buf .u8,.int .i64,.ro .i64] [.buf .u8] true (fun x=>nT x.1 x.2.1 x.2.2)
theorem aco:bY PG 210 N8:=okP [] [] [(210,6758,VA),(210,26,Yy)] trivial (fun K=>⟨fZ K,fZ K,azv⟩)
def Di (p0:Int) (p1:(List aC)) (v0:Int) (v1:(List Int)):Option ((Int×(List Int)) ⊕ (((List Int)))):=cnd (ilt v0 p0) (cnd (band (ile 0 v0) (ilt v0 (len p1))) (ah (nT v1 8 [(aj p1 (itn v0)).id]) fun y0=>ah (yY y0 1 [(aj p1 (itn v0)).y,(aj p1 (itn v0)).z,(aj p1 (itn v0)).X,(aj p1 (itn v0)).P]) fun y1=>ah (nT y1 8 [(aj p1 (itn v0)).N,(aj p1 (itn v0)).I,(aj p1 (itn v0)).H,(aj p1 (itn v0)).V,(aj p1 (itn v0)).U,(aj p1 (itn v0)).O]) fun y2=>ah (XT (aj p1 (itn v0)).z6) fun y3=>ah (yY y2 1 [y3]) fun y4=>some (.inl (wr .i64 (ay v0 1),y4))) none) (some (.inr v1))
def aad:dB:=LSh.spec ⟨105,[(45,.int .i64),(44,.ro .order)],[],[],[(46,.int .i64),(5,.buf .u8)],[],[]⟩ [⟨.exit 0,[(5,.buf .u8)],[],[]⟩] (sP [(5,1),(7,1),(46,42)]) (fun p v=>Di p.1 p.2 v.1 v.2)
def C9 (p0:Int) (p1:(List bF)) (v0:Int) (v1:(List Int)):Option ((Int×(List Int)) ⊕ (((List Int)))):=cnd (ilt v0 p0) (cnd (band (ile 0 v0) (ilt v0 (len p1))) (ah (nT v1 8 [(aj p1 (itn v0)).pos]) fun y0=>some (.inl (wr .i64 (ay v0 1),y0))) none) (some (.inr v1))
def Zf:dB:=LSh.spec ⟨176,[(90,.int .i64),(89,.ro .cell)],[],[],[(91,.int .i64),(5,.buf .u8)],[],[]⟩ [⟨.exit 2,[(5,.buf .u8)],[],[]⟩] (sP [(5,1),(9,1),(91,10)]) (fun p v=>C9 p.1 p.2 v.1 v.2)
def CZ (p0:Int) (p1:(List jQ)) (v0:Int) (v1:(List Int)):Option ((Int×(List Int)) ⊕ (((List Int)))):=cnd (ilt v0 p0) (cnd (band (ile 0 v0) (ilt v0 (len p1))) (ah (nT v1 8 [(aj p1 (itn v0)).long,(aj p1 (itn v0)).qX,(aj p1 (itn v0)).opn]) fun y0=>some (.inl (wr .i64 (ay v0 1),y0))) none) (some (.inr v1))
def ZF:dB:=LSh.spec ⟨247,[(103,.int .i64),(102,.ro .expo)],[],[],[(104,.int .i64),(5,.buf .u8)],[],[]⟩ [⟨.exit 4,[(5,.buf .u8)],[],[]⟩] (sP [(5,1),(11,1),(104,14)]) (fun p v=>CZ p.1 p.2 v.1 v.2)
def AA (p0:Int) (v0:Int) (v1:(List Int)):Option ((Int×(List Int)) ⊕ (((List Int)))):=cnd (ilt v0 4) (cnd (ile 0 (wr .i64 (dA 8 v0))) (cnd (ile (len (aJ v1 [wr .u8 (dw .u32 p0 (wr .i64 (dA 8 v0)))])) 68719476736) (some (.inl (wr .i64 (ay v0 1),aJ v1 [wr .u8 (dw .u32 p0 (wr .i64 (dA 8 v0)))]))) none) none) (some (.inr v1))
def YI:dB:=LSh.spec ⟨323,[(12,.int .u32)],[],[],[(124,.int .i64),(5,.buf .u8)],[],[]⟩ [⟨.exit 6,[(5,.buf .u8)],[],[]⟩] (sP [(5,1),(13,1),(124,12)]) (fun p v=>AA p v.1 v.2)
def ED (x0:aB):Option ((List Int)×Int):=ah (JW x0) fun y0=>cnd (ieq y0 0) (some ([],1)) (cnd (band (ile 0 y0) (ile y0 68719476736)) (ah (XT x0.qJ) fun y1=>ah (yY (aJ (sK Int 0) (s2u [(UInt8.ofNat 115),(UInt8.ofNat 110),(UInt8.ofNat 97),(UInt8.ofNat 102)])) 1 [x0.t,x0.i,y1,len x0.a]) fun y2=>ah (nT y2 8 [x0.S,x0.A,x0.B]) fun y3=>ah (bU (fun v=>Di (len x0.a) x0.a v.1 v.2) LF (0,y3)) fun y4=>ah (bU (fun v=>C9 (len x0.cells) x0.cells v.1 v.2) LF (0,y4)) fun y5=>ah (bU (fun v=>CZ (len x0.G) x0.G v.1 v.2) LF (0,y5)) fun y6=>ah (nT y6 8 x0.W) fun y7=>ah (Sr y7) fun y8=>ah (bU (fun v=>AA y8 v.1 v.2) LF (0,y7)) fun y9=>some (y9,0)) none)
def U4:aA:=mkSpec [.val .state] [.buf .u8,.int .i64] true (fun x=>ED x)
theorem aga:bY PG 134 U4:=okP [(207,Y4),(209,aaL),(208,SL),(210,N8),(211,Ug)] [] [(134,1018,aad),(134,2042,Zf),(134,4090,ZF),(134,32762,YI)] ⟨aku,alJ,aeV,aco,aeu,azv⟩ (fun K=>⟨fZ K,fZ K,fZ K,fZ K,azv⟩)
def yj (x0:Int):Option ((List UInt8)):=cnd (ieq (ug x0 2) 0) (some [(UInt8.ofNat 115),(UInt8.ofNat 108),(UInt8.ofNat 111),(UInt8.ofNat 116),(UInt8.ofNat 46),(UInt8.ofNat 48)]) (some [(UInt8.ofNat 115),(UInt8.ofNat 108),(UInt8.ofNat 111),(UInt8.ofNat 116),(UInt8.ofNat 46),(UInt8.ofNat 49)])
def Oi:aA:=mkSpec [.int .i64] [.str] true (fun x=>yj x)
theorem aaH:bY PG 212 Oi:=okN [] [] trivial
def fP (x0:(List Int)):Option ((List Int)):=Je x0
def Bj:aA:=mkSpec [.ro .u8] [.buf .u8] true (fun x=>fP x)
theorem Ls:bY PG 168 Bj:=aje fun x=>by kernel_rfl
def vT (x0:ak) (x1:(List UInt8)):Option ((List Int)×Int):=ah (vI x0 [x1]) fun y0=>cnd (ax (ieq y0 0)) (cnd (ax (ieq y0 0)) (some ([],y0)) (cnd (ilt 0 (len x0.b)) (ah (fP (aj x0.b 0).data) fun y1=>some (y1,0)) none)) (ah (jL x0 x1) fun y2=>cnd (ax y2.2) (some ([],7)) (cnd (band (ile 0 y2.1) (ilt y2.1 (len x0.b))) (ah (fP (aj x0.b (itn y2.1)).data) fun y3=>some (y3,0)) none))
def II:aA:=mkSpec [.val .disk,.str] [.buf .u8,.int .i64] true (fun x=>vT x.1 x.2)
theorem Uk:bY PG 136 II:=okN [(216,uM),(217,wU),(168,Bj)] [214] ⟨BP,EI,Ls,azv⟩
def AY (x0:dU):Option (akv):=ah (dQ (wr .u32 (jT .u32 (wr .u32 (gX .u32 4294967295 (wr .u32 (wr .u8 (dw .i64 x0.K 56))))) 15))) fun y0=>ah (dQ (wr .u32 (jT .u32 (wr .u32 (gX .u32 y0 (dw .u32 (wr .u32 (gX .u32 4294967295 (wr .u32 (wr .u8 (dw .i64 x0.K 56))))) 4))) 15))) fun y1=>let t8:=(wr .u32 (gX .u32 (wr .u32 (gX .u32 y1 (dw .u32 (wr .u32 (gX .u32 y0 (dw .u32 (wr .u32 (gX .u32 4294967295 (wr .u32 (wr .u8 (dw .i64 x0.K 56))))) 4))) 4))) (wr .u32 (wr .u8 (dw .i64 x0.K 48)))));ah (dQ (wr .u32 (jT .u32 t8 15))) fun y2=>ah (dQ (wr .u32 (jT .u32 (wr .u32 (gX .u32 y2 (dw .u32 t8 4))) 15))) fun y3=>let t5:=(wr .u32 (gX .u32 (wr .u32 (gX .u32 y3 (dw .u32 (wr .u32 (gX .u32 y2 (dw .u32 t8 4))) 4))) (wr .u32 (wr .u8 (dw .i64 x0.K 40)))));ah (dQ (wr .u32 (jT .u32 t5 15))) fun y4=>ah (dQ (wr .u32 (jT .u32 (wr .u32 (gX .u32 y4 (dw .u32 t5 4))) 15))) fun y5=>let t14:=(wr .u32 (gX .u32 (wr .u32 (gX .u32 y5 (dw .u32 (wr .u32 (gX .u32 y4 (dw .u32 t5 4))) 4))) (wr .u32 (wr .u8 (dw .i64 x0.K 32)))));ah (dQ (wr .u32 (jT .u32 t14 15))) fun y6=>ah (dQ (wr .u32 (jT .u32 (wr .u32 (gX .u32 y6 (dw .u32 t14 4))) 15))) fun y7=>let t1:=(wr .u32 (gX .u32 (wr .u32 (gX .u32 y7 (dw .u32 (wr .u32 (gX .u32 y6 (dw .u32 t14 4))) 4))) (wr .u32 (wr .u8 (dw .i64 x0.K 24)))));ah (dQ (wr .u32 (jT .u32 t1 15))) fun y8=>ah (dQ (wr .u32 (jT .u32 (wr .u32 (gX .u32 y8 (dw .u32 t1 4))) 15))) fun y9=>let t15:=(wr .u32 (gX .u32 (wr .u32 (gX .u32 y9 (dw .u32 (wr .u32 (gX .u32 y8 (dw .u32 t1 4))) 4))) (wr .u32 (wr .u8 (dw .i64 x0.K 16)))));ah (dQ (wr .u32 (jT .u32 t15 15))) fun y10=>ah (dQ (wr .u32 (jT .u32 (wr .u32 (gX .u32 y10 (dw .u32 t15 4))) 15))) fun y11=>let t7:=(wr .u32 (gX .u32 (wr .u32 (gX .u32 y11 (dw .u32 (wr .u32 (gX .u32 y10 (dw .u32 t15 4))) 4))) (wr .u32 (wr .u8 (dw .i64 x0.K 8)))));ah (dQ (wr .u32 (jT .u32 t7 15))) fun y12=>ah (dQ (wr .u32 (jT .u32 (wr .u32 (gX .u32 y12 (dw .u32 t7 4))) 15))) fun y13=>let t3:=(wr .u32 (gX .u32 (wr .u32 (gX .u32 y13 (dw .u32 (wr .u32 (gX .u32 y12 (dw .u32 t7 4))) 4))) (wr .u32 (wr .u8 (dw .i64 x0.K 0)))));ah (dQ (wr .u32 (jT .u32 t3 15))) fun y14=>ah (dQ (wr .u32 (jT .u32 (wr .u32 (gX .u32 y14 (dw .u32 t3 4))) 15))) fun y15=>let t10:=(wr .u32 (gX .u32 (wr .u32 (gX .u32 y15 (dw .u32 (wr .u32 (gX .u32 y14 (dw .u32 t3 4))) 4))) (wr .u32 (wr .u8 (dw .i64 x0.B 56)))));ah (dQ (wr .u32 (jT .u32 t10 15))) fun y16=>ah (dQ (wr .u32 (jT .u32 (wr .u32 (gX .u32 y16 (dw .u32 t10 4))) 15))) fun y17=>let t0:=(wr .u32 (gX .u32 (wr .u32 (gX .u32 y17 (dw .u32 (wr .u32 (gX .u32 y16 (dw .u32 t10 4))) 4))) (wr .u32 (wr .u8 (dw .i64 x0.B 48)))));ah (dQ (wr .u32 (jT .u32 t0 15))) fun y18=>ah (dQ (wr .u32 (jT .u32 (wr .u32 (gX .u32 y18 (dw .u32 t0 4))) 15))) fun y19=>let t11:=(wr .u32 (gX .u32 (wr .u32 (gX .u32 y19 (dw .u32 (wr .u32 (gX .u32 y18 (dw .u32 t0 4))) 4))) (wr .u32 (wr .u8 (dw .i64 x0.B 40)))));ah (dQ (wr .u32 (jT .u32 t11 15))) fun y20=>ah (dQ (wr .u32 (jT .u32 (wr .u32 (gX .u32 y20 (dw .u32 t11 4))) 15))) fun y21=>let t6:=(wr .u32 (gX .u32 (wr .u32 (gX .u32 y21 (dw .u32 (wr .u32 (gX .u32 y20 (dw .u32 t11 4))) 4))) (wr .u32 (wr .u8 (dw .i64 x0.B 32)))));ah (dQ (wr .u32 (jT .u32 t6 15))) fun y22=>ah (dQ (wr .u32 (jT .u32 (wr .u32 (gX .u32 y22 (dw .u32 t6 4))) 15))) fun y23=>let t12:=(wr .u32 (gX .u32 (wr .u32 (gX .u32 y23 (dw .u32 (wr .u32 (gX .u32 y22 (dw .u32 t6 4))) 4))) (wr .u32 (wr .u8 (dw .i64 x0.B 24)))));ah (dQ (wr .u32 (jT .u32 t12 15))) fun y24=>ah (dQ (wr .u32 (jT .u32 (wr .u32 (gX .u32 y24 (dw .u32 t12 4))) 15))) fun y25=>let t2:=(wr .u32 (gX .u32 (wr .u32 (gX .u32 y25 (dw .u32 (wr .u32 (gX .u32 y24 (dw .u32 t12 4))) 4))) (wr .u32 (wr .u8 (dw .i64 x0.B 16)))));ah (dQ (wr .u32 (jT .u32 t2 15))) fun y26=>ah (dQ (wr .u32 (jT .u32 (wr .u32 (gX .u32 y26 (dw .u32 t2 4))) 15))) fun y27=>let t13:=(wr .u32 (gX .u32 (wr .u32 (gX .u32 y27 (dw .u32 (wr .u32 (gX .u32 y26 (dw .u32 t2 4))) 4))) (wr .u32 (wr .u8 (dw .i64 x0.B 8)))));ah (dQ (wr .u32 (jT .u32 t13 15))) fun y28=>ah (dQ (wr .u32 (jT .u32 (wr .u32 (gX .u32 y28 (dw .u32 t13 4))) 15))) fun y29=>let t4:=(wr .u32 (gX .u32 (wr .u32 (gX .u32 y29 (dw .u32 (wr .u32 (gX .u32 y28 (dw .u32 t13 4))) 4))) (wr .u32 (wr .u8 (dw .i64 x0.B 0)))));ah (dQ (wr .u32 (jT .u32 t4 15))) fun y30=>ah (dQ (wr .u32 (jT .u32 (wr .u32 (gX .u32 y30 (dw .u32 t4 4))) 15))) fun y31=>let t9:=(wr .u32 (gX .u32 4294967295 (wr .u32 (gX .u32 y31 (dw .u32 (wr .u32 (gX .u32 y30 (dw .u32 t4 4))) 4)))));some (akv.mk (wr .u8 (dw .i64 x0.K 56)) (wr .u8 (dw .i64 x0.K 48)) (wr .u8 (dw .i64 x0.K 40)) (wr .u8 (dw .i64 x0.K 32)) (wr .u8 (dw .i64 x0.K 24)) (wr .u8 (dw .i64 x0.K 16)) (wr .u8 (dw .i64 x0.K 8)) (wr .u8 (dw .i64 x0.K 0)) (wr .u8 (dw .i64 x0.B 56)) (wr .u8 (dw .i64 x0.B 48)) (wr .u8 (dw .i64 x0.B 40)) (wr .u8 (dw .i64 x0.B 32)) (wr .u8 (dw .i64 x0.B 24)) (wr .u8 (dw .i64 x0.B 16)) (wr .u8 (dw .i64 x0.B 8)) (wr .u8 (dw .i64 x0.B 0)) (wr .u8 (dw .u32 t9 0)) (wr .u8 (dw .u32 t9 8)) (wr .u8 (dw .u32 t9 16)) (wr .u8 (dw .u32 t9 24)))
def LJ:aA:=mkSpec [.val .slot] [.val .a20] true (fun x=>AY x)
theorem YW:bY PG 226 LJ:=okN [(310,Q5)] [211,277] ⟨ade,azv⟩
def IL (x0:dU):Option (Bool):=some (band (band (band (ile 1 x0.K) (ile x0.K 1000000000)) (ile 0 x0.B)) (ile x0.B 1000000000))
def LH:aA:=mkSpec [.val .slot] [.bool] true (fun x=>IL x)
theorem YL:bY PG 225 LH:=okN [] [] trivial
def BR (x0:(List Int)):Option (dU×Int):=cnd (ax (ieq (len x0) 20)) (some (dU.mk 0 0,2)) (cnd (ilt 0 (len x0)) (cnd (ilt 8 (len x0)) (cnd (ilt 1 (len x0)) (cnd (ilt 9 (len x0)) (cnd (ilt 2 (len x0)) (cnd (ilt 10 (len x0)) (cnd (ilt 3 (len x0)) (cnd (ilt 11 (len x0)) (cnd (ilt 4 (len x0)) (cnd (ilt 12 (len x0)) (cnd (ilt 5 (len x0)) (cnd (ilt 13 (len x0)) (cnd (ilt 6 (len x0)) (cnd (ilt 14 (len x0)) (cnd (ilt 7 (len x0)) (cnd (ilt 15 (len x0)) (ah (AY (dU.mk (wr .i64 (ior .i64 (wr .i64 (sV .i64 (wr .i64 (ior .i64 (wr .i64 (sV .i64 (wr .i64 (ior .i64 (wr .i64 (sV .i64 (wr .i64 (ior .i64 (wr .i64 (sV .i64 (wr .i64 (ior .i64 (wr .i64 (sV .i64 (wr .i64 (ior .i64 (wr .i64 (sV .i64 (wr .i64 (ior .i64 (wr .i64 (sV .i64 (wr .i64 (ior .i64 0 (wr .i64 (aj x0 0)))) 8)) (wr .i64 (aj x0 1)))) 8)) (wr .i64 (aj x0 2)))) 8)) (wr .i64 (aj x0 3)))) 8)) (wr .i64 (aj x0 4)))) 8)) (wr .i64 (aj x0 5)))) 8)) (wr .i64 (aj x0 6)))) 8)) (wr .i64 (aj x0 7)))) (wr .i64 (ior .i64 (wr .i64 (sV .i64 (wr .i64 (ior .i64 (wr .i64 (sV .i64 (wr .i64 (ior .i64 (wr .i64 (sV .i64 (wr .i64 (ior .i64 (wr .i64 (sV .i64 (wr .i64 (ior .i64 (wr .i64 (sV .i64 (wr .i64 (ior .i64 (wr .i64 (sV .i64 (wr .i64 (ior .i64 (wr .i64 (sV .i64 (wr .i64 (ior .i64 0 (wr .i64 (aj x0 8)))) 8)) (wr .i64 (aj x0 9)))) 8)) (wr .i64 (aj x0 10)))) 8)) (wr .i64 (aj x0 11)))) 8)) (wr .i64 (aj x0 12)))) 8)) (wr .i64 (aj x0 13)))) 8)) (wr .i64 (aj x0 14)))) 8)) (wr .i64 (aj x0 15)))))) fun y0=>cnd (ile 20 (len x0)) (cnd (ax (band (ieq y0.a0 (aj x0 0)) (band (ieq y0.a1 (aj x0 1)) (band (ieq y0.a2 (aj x0 2)) (band (ieq y0.a3 (aj x0 3)) (band (ieq y0.a4 (aj x0 4)) (band (ieq y0.a5 (aj x0 5)) (band (ieq y0.a6 (aj x0 6)) (band (ieq y0.a7 (aj x0 7)) (band (ieq y0.a8 (aj x0 8)) (band (ieq y0.a9 (aj x0 9)) (band (ieq y0.a10 (aj x0 10)) (band (ieq y0.a11 (aj x0 11)) (band (ieq y0.a12 (aj x0 12)) (band (ieq y0.a13 (aj x0 13)) (band (ieq y0.a14 (aj x0 14)) (band (ieq y0.a15 (aj x0 15)) (band (ieq y0.a16 (aj x0 16)) (band (ieq y0.a17 (aj x0 17)) (band (ieq y0.a18 (aj x0 18)) (band (ieq y0.a19 (aj x0 19)) true))))))))))))))))))))) (some (dU.mk 0 0,10)) (ah (IL (dU.mk (wr .i64 (ior .i64 (wr .i64 (sV .i64 (wr .i64 (ior .i64 (wr .i64 (sV .i64 (wr .i64 (ior .i64 (wr .i64 (sV .i64 (wr .i64 (ior .i64 (wr .i64 (sV .i64 (wr .i64 (ior .i64 (wr .i64 (sV .i64 (wr .i64 (ior .i64 (wr .i64 (sV .i64 (wr .i64 (ior .i64 (wr .i64 (sV .i64 (wr .i64 (ior .i64 0 (wr .i64 (aj x0 0)))) 8)) (wr .i64 (aj x0 1)))) 8)) (wr .i64 (aj x0 2)))) 8)) (wr .i64 (aj x0 3)))) 8)) (wr .i64 (aj x0 4)))) 8)) (wr .i64 (aj x0 5)))) 8)) (wr .i64 (aj x0 6)))) 8)) (wr .i64 (aj x0 7)))) (wr .i64 (ior .i64 (wr .i64 (sV .i64 (wr .i64 (ior .i64 (wr .i64 (sV .i64 (wr .i64 (ior .i64 (wr .i64 (sV .i64 (wr .i64 (ior .i64 (wr .i64 (sV .i64 (wr .i64 (ior .i64 (wr .i64 (sV .i64 (wr .i64 (ior .i64 (wr .i64 (sV .i64 (wr .i64 (ior .i64 (wr .i64 (sV .i64 (wr .i64 (ior .i64 0 (wr .i64 (aj x0 8)))) 8)) (wr .i64 (aj x0 9)))) 8)) (wr .i64 (aj x0 10)))) 8)) (wr .i64 (aj x0 11)))) 8)) (wr .i64 (aj x0 12)))) 8)) (wr .i64 (aj x0 13)))) 8)) (wr .i64 (aj x0 14)))) 8)) (wr .i64 (aj x0 15)))))) fun y1=>cnd (ax y1) (some (dU.mk 0 0,2)) (some (dU.mk (wr .i64 (ior .i64 (wr .i64 (sV .i64 (wr .i64 (ior .i64 (wr .i64 (sV .i64 (wr .i64 (ior .i64 (wr .i64 (sV .i64 (wr .i64 (ior .i64 (wr .i64 (sV .i64 (wr .i64 (ior .i64 (wr .i64 (sV .i64 (wr .i64 (ior .i64 (wr .i64 (sV .i64 (wr .i64 (ior .i64 (wr .i64 (sV .i64 (wr .i64 (ior .i64 0 (wr .i64 (aj x0 0)))) 8)) (wr .i64 (aj x0 1)))) 8)) (wr .i64 (aj x0 2)))) 8)) (wr .i64 (aj x0 3)))) 8)) (wr .i64 (aj x0 4)))) 8)) (wr .i64 (aj x0 5)))) 8)) (wr .i64 (aj x0 6)))) 8)) (wr .i64 (aj x0 7)))) (wr .i64 (ior .i64 (wr .i64 (sV .i64 (wr .i64 (ior .i64 (wr .i64 (sV .i64 (wr .i64 (ior .i64 (wr .i64 (sV .i64 (wr .i64 (ior .i64 (wr .i64 (sV .i64 (wr .i64 (ior .i64 (wr .i64 (sV .i64 (wr .i64 (ior .i64 (wr .i64 (sV .i64 (wr .i64 (ior .i64 (wr .i64 (sV .i64 (wr .i64 (ior .i64 0 (wr .i64 (aj x0 8)))) 8)) (wr .i64 (aj x0 9)))) 8)) (wr .i64 (aj x0 10)))) 8)) (wr .i64 (aj x0 11)))) 8)) (wr .i64 (aj x0 12)))) 8)) (wr .i64 (aj x0 13)))) 8)) (wr .i64 (aj x0 14)))) 8)) (wr .i64 (aj x0 15)))),0)))) none) none) none) none) none) none) none) none) none) none) none) none) none) none) none) none) none)
def Ti:aA:=mkSpec [.ro .u8] [.val .slot,.int .i64] true (fun x=>BR x)
theorem aee:bY PG 213 Ti:=okN [(226,LJ),(225,LH)] [] ⟨YW,YL,azv⟩
def KR (x0:ak):Option (dU×Int):=ah (xR x0) fun y0=>cnd (ax y0) (some (dU.mk 0 0,1)) (cnd x0.Q (some (dU.mk 0 0,9)) (ah (yj 0) fun y1=>ah (vT x0 y1) fun y2=>ah (BR y2.1) fun y3=>cnd (band (band (ieq y3.2 0) (ieq (ug y3.1.K 2) 0)) (ilt 0 y3.1.K)) (ah (yj 1) fun y4=>ah (vT x0 y4) fun y5=>ah (BR y5.1) fun y6=>cnd (band (band (ieq y6.2 0) (ieq (ug y6.1.K 2) 1)) (ilt y3.1.K y6.1.K)) (cnd (ieq y6.1.K 0) (some (dU.mk 0 0,7)) (some (y6.1,0))) (cnd (ieq y3.1.K 0) (some (dU.mk 0 0,7)) (some (y3.1,0)))) (ah (yj 1) fun y7=>ah (vT x0 y7) fun y8=>ah (BR y8.1) fun y9=>cnd (band (band (ieq y9.2 0) (ieq (ug y9.1.K 2) 1)) (ilt 0 y9.1.K)) (cnd (ieq y9.1.K 0) (some (dU.mk 0 0,7)) (some (y9.1,0))) (some (dU.mk 0 0,7)))))
def NM:aA:=mkSpec [.val .disk] [.val .slot,.int .i64] true (fun x=>KR x)
theorem aaG:bY PG 135 NM:=okN [(36,xP),(212,Oi),(136,II),(213,Ti)] [] ⟨Fv,aaH,Uk,aee,azv⟩
def nX (x0:Int):Option ((List UInt8)):=cnd (bor (ilt x0 1) (ilt 1000000000 x0)) (some []) (ah (jv x0 10) fun y0=>ah (lQ [(UInt8.ofNat 48)] (wr .i64 (aO 10 (len y0)))) fun y1=>cnd (ile (ay 5 (len y1)) 68719476736) (cnd (ile (ay (len (aJ [(UInt8.ofNat 115),(UInt8.ofNat 110),(UInt8.ofNat 97),(UInt8.ofNat 112),(UInt8.ofNat 46)] y1)) (len y0)) 68719476736) (some (aJ (aJ [(UInt8.ofNat 115),(UInt8.ofNat 110),(UInt8.ofNat 97),(UInt8.ofNat 112),(UInt8.ofNat 46)] y1) y0)) none) none)
def U7:aA:=mkSpec [.int .i64] [.str] true (fun x=>nX x)
theorem YV:bY PG 145 U7:=okN [(223,AZ),(224,EP)] [] ⟨Lr,Qd,azv⟩
def sU (x0:ak) (x1:(List UInt8)) (x2:(List UInt8)):Option (ak×Int):=cnd (ile (len (aJ [x2] [x1])) 68719476736) (ah (vI x0 (aJ [x2] [x1])) fun y0=>cnd (ax (ieq y0 0)) (cnd (ax (ieq y0 0)) (some (x0,y0)) (cnd (ieq x0.T 0) (some (ak.mk x0.b x0.qZ x0.T true,9)) (cnd (ieq x0.T (-1)) (cnd (ilt 0 (len x0.b)) (ah (bP x0.b) fun y1=>cnd (band (ile 1 (len y1)) (band (ile 1 (len y1)) (ile (len y1) (len y1)))) (cnd (ile 0 (len y1)) (cnd (ile 1 (len y1)) (cnd (ile (ay 0 (len (aV (bZ y1 1) (itn (aO (len y1) 1))))) (len y1)) (cnd (band (band (ile 0 (nti (nad 0 (itn (len (aV (bZ y1 1) (itn (aO (len y1) 1)))))))) (ile (nti (nad 0 (itn (len (aV (bZ y1 1) (itn (aO (len y1) 1))))))) (len y1))) (ile (len y1) (aO (len (jq y1 0 (aV (bZ y1 1) (itn (aO (len y1) 1))))) 0))) (ah (jL (ak.mk (aV (jq (jq y1 0 (aV (bZ y1 1) (itn (aO (len y1) 1)))) (nad 0 (itn (nti (nad 0 (itn (len (aV (bZ y1 1) (itn (aO (len y1) 1))))))))) (sK aS (itn (aO (len y1) (nti (nad 0 (itn (len (aV (bZ y1 1) (itn (aO (len y1) 1))))))))))) (nad 0 (itn (len (aV (bZ y1 1) (itn (aO (len y1) 1))))))) x0.qZ x0.T x0.Q) x2) fun y2=>cnd y2.2 (cnd (band (ile 0 y2.1) (ilt y2.1 (len (aV (jq (jq y1 0 (aV (bZ y1 1) (itn (aO (len y1) 1)))) (nad 0 (itn (nti (nad 0 (itn (len (aV (bZ y1 1) (itn (aO (len y1) 1))))))))) (sK aS (itn (aO (len y1) (nti (nad 0 (itn (len (aV (bZ y1 1) (itn (aO (len y1) 1))))))))))) (nad 0 (itn (len (aV (bZ y1 1) (itn (aO (len y1) 1)))))))))) (some (ak.mk (dP (aV (jq (jq y1 0 (aV (bZ y1 1) (itn (aO (len y1) 1)))) (nad 0 (itn (nti (nad 0 (itn (len (aV (bZ y1 1) (itn (aO (len y1) 1))))))))) (sK aS (itn (aO (len y1) (nti (nad 0 (itn (len (aV (bZ y1 1) (itn (aO (len y1) 1))))))))))) (nad 0 (itn (len (aV (bZ y1 1) (itn (aO (len y1) 1))))))) (itn y2.1) (aS.mk x2 (aj x0.b 0).data (aj x0.b 0).J)) x0.qZ x0.T x0.Q,0)) none) (ah (eF (aV (jq (jq y1 0 (aV (bZ y1 1) (itn (aO (len y1) 1)))) (nad 0 (itn (nti (nad 0 (itn (len (aV (bZ y1 1) (itn (aO (len y1) 1))))))))) (sK aS (itn (aO (len y1) (nti (nad 0 (itn (len (aV (bZ y1 1) (itn (aO (len y1) 1))))))))))) (nad 0 (itn (len (aV (bZ y1 1) (itn (aO (len y1) 1))))))) y2.1 [aS.mk x2 (aj x0.b 0).data (aj x0.b 0).J]) fun y3=>some (ak.mk y3 x0.qZ x0.T x0.Q,0))) none) none) none) none) none) none) (cnd (ilt 0 (len x0.b)) (ah (bP x0.b) fun y4=>cnd (band (ile 1 (len y4)) (band (ile 1 (len y4)) (ile (len y4) (len y4)))) (cnd (ile 0 (len y4)) (cnd (ile 1 (len y4)) (cnd (ile (ay 0 (len (aV (bZ y4 1) (itn (aO (len y4) 1))))) (len y4)) (cnd (band (band (ile 0 (nti (nad 0 (itn (len (aV (bZ y4 1) (itn (aO (len y4) 1)))))))) (ile (nti (nad 0 (itn (len (aV (bZ y4 1) (itn (aO (len y4) 1))))))) (len y4))) (ile (len y4) (aO (len (jq y4 0 (aV (bZ y4 1) (itn (aO (len y4) 1))))) 0))) (ah (jL (ak.mk (aV (jq (jq y4 0 (aV (bZ y4 1) (itn (aO (len y4) 1)))) (nad 0 (itn (nti (nad 0 (itn (len (aV (bZ y4 1) (itn (aO (len y4) 1))))))))) (sK aS (itn (aO (len y4) (nti (nad 0 (itn (len (aV (bZ y4 1) (itn (aO (len y4) 1))))))))))) (nad 0 (itn (len (aV (bZ y4 1) (itn (aO (len y4) 1))))))) x0.qZ (wr .i64 (aO x0.T 1)) x0.Q) x2) fun y5=>cnd y5.2 (cnd (band (ile 0 y5.1) (ilt y5.1 (len (aV (jq (jq y4 0 (aV (bZ y4 1) (itn (aO (len y4) 1)))) (nad 0 (itn (nti (nad 0 (itn (len (aV (bZ y4 1) (itn (aO (len y4) 1))))))))) (sK aS (itn (aO (len y4) (nti (nad 0 (itn (len (aV (bZ y4 1) (itn (aO (len y4) 1))))))))))) (nad 0 (itn (len (aV (bZ y4 1) (itn (aO (len y4) 1)))))))))) (some (ak.mk (dP (aV (jq (jq y4 0 (aV (bZ y4 1) (itn (aO (len y4) 1)))) (nad 0 (itn (nti (nad 0 (itn (len (aV (bZ y4 1) (itn (aO (len y4) 1))))))))) (sK aS (itn (aO (len y4) (nti (nad 0 (itn (len (aV (bZ y4 1) (itn (aO (len y4) 1))))))))))) (nad 0 (itn (len (aV (bZ y4 1) (itn (aO (len y4) 1))))))) (itn y5.1) (aS.mk x2 (aj x0.b 0).data (aj x0.b 0).J)) x0.qZ (wr .i64 (aO x0.T 1)) x0.Q,0)) none) (ah (eF (aV (jq (jq y4 0 (aV (bZ y4 1) (itn (aO (len y4) 1)))) (nad 0 (itn (nti (nad 0 (itn (len (aV (bZ y4 1) (itn (aO (len y4) 1))))))))) (sK aS (itn (aO (len y4) (nti (nad 0 (itn (len (aV (bZ y4 1) (itn (aO (len y4) 1))))))))))) (nad 0 (itn (len (aV (bZ y4 1) (itn (aO (len y4) 1))))))) y5.1 [aS.mk x2 (aj x0.b 0).data (aj x0.b 0).J]) fun y6=>some (ak.mk y6 x0.qZ (wr .i64 (aO x0.T 1)) x0.Q,0))) none) none) none) none) none) none)))) (ah (jL x0 x1) fun y7=>cnd (ax y7.2) (some (x0,7)) (cnd (ieq x0.T 0) (some (ak.mk x0.b x0.qZ x0.T true,9)) (cnd (ieq x0.T (-1)) (cnd (band (ile 0 y7.1) (ilt y7.1 (len x0.b))) (ah (bP x0.b) fun y8=>cnd (band (band (band (ile 0 y7.1) (ile y7.1 (wr .i64 (ay y7.1 1)))) (ile (wr .i64 (ay y7.1 1)) (len y8))) (band (ile (wr .i64 (ay y7.1 1)) (len y8)) (ile (len y8) (len y8)))) (cnd (ieq y7.1 (wr .i64 (ay y7.1 1))) (ah (jL (ak.mk y8 x0.qZ x0.T x0.Q) x2) fun y9=>cnd y9.2 (cnd (band (ile 0 y9.1) (ilt y9.1 (len y8))) (some (ak.mk (dP y8 (itn y9.1) (aS.mk x2 (aj x0.b (itn y7.1)).data (aj x0.b (itn y7.1)).J)) x0.qZ x0.T x0.Q,0)) none) (ah (eF y8 y9.1 [aS.mk x2 (aj x0.b (itn y7.1)).data (aj x0.b (itn y7.1)).J]) fun y10=>some (ak.mk y10 x0.qZ x0.T x0.Q,0))) (cnd (band (ile 0 y7.1) (ile y7.1 (len y8))) (cnd (band (ile 0 (wr .i64 (ay y7.1 1))) (ile (wr .i64 (ay y7.1 1)) (len y8))) (cnd (ile (ay (nti (itn y7.1)) (len (aV (bZ y8 (itn (wr .i64 (ay y7.1 1)))) (itn (aO (len y8) (wr .i64 (ay y7.1 1))))))) (len y8)) (cnd (band (band (ile 0 (nti (nad (itn y7.1) (itn (len (aV (bZ y8 (itn (wr .i64 (ay y7.1 1)))) (itn (aO (len y8) (wr .i64 (ay y7.1 1)))))))))) (ile (nti (nad (itn y7.1) (itn (len (aV (bZ y8 (itn (wr .i64 (ay y7.1 1)))) (itn (aO (len y8) (wr .i64 (ay y7.1 1))))))))) (len y8))) (ile (len y8) (aO (len (jq y8 (itn y7.1) (aV (bZ y8 (itn (wr .i64 (ay y7.1 1)))) (itn (aO (len y8) (wr .i64 (ay y7.1 1))))))) 0))) (ah (jL (ak.mk (aV (jq (jq y8 (itn y7.1) (aV (bZ y8 (itn (wr .i64 (ay y7.1 1)))) (itn (aO (len y8) (wr .i64 (ay y7.1 1)))))) (nad 0 (itn (nti (nad (itn y7.1) (itn (len (aV (bZ y8 (itn (wr .i64 (ay y7.1 1)))) (itn (aO (len y8) (wr .i64 (ay y7.1 1))))))))))) (sK aS (itn (aO (len y8) (nti (nad (itn y7.1) (itn (len (aV (bZ y8 (itn (wr .i64 (ay y7.1 1)))) (itn (aO (len y8) (wr .i64 (ay y7.1 1))))))))))))) (nad (itn y7.1) (itn (len (aV (bZ y8 (itn (wr .i64 (ay y7.1 1)))) (itn (aO (len y8) (wr .i64 (ay y7.1 1))))))))) x0.qZ x0.T x0.Q) x2) fun y11=>cnd y11.2 (cnd (band (ile 0 y11.1) (ilt y11.1 (len (aV (jq (jq y8 (itn y7.1) (aV (bZ y8 (itn (wr .i64 (ay y7.1 1)))) (itn (aO (len y8) (wr .i64 (ay y7.1 1)))))) (nad 0 (itn (nti (nad (itn y7.1) (itn (len (aV (bZ y8 (itn (wr .i64 (ay y7.1 1)))) (itn (aO (len y8) (wr .i64 (ay y7.1 1))))))))))) (sK aS (itn (aO (len y8) (nti (nad (itn y7.1) (itn (len (aV (bZ y8 (itn (wr .i64 (ay y7.1 1)))) (itn (aO (len y8) (wr .i64 (ay y7.1 1))))))))))))) (nad (itn y7.1) (itn (len (aV (bZ y8 (itn (wr .i64 (ay y7.1 1)))) (itn (aO (len y8) (wr .i64 (ay y7.1 1)))))))))))) (some (ak.mk (dP (aV (jq (jq y8 (itn y7.1) (aV (bZ y8 (itn (wr .i64 (ay y7.1 1)))) (itn (aO (len y8) (wr .i64 (ay y7.1 1)))))) (nad 0 (itn (nti (nad (itn y7.1) (itn (len (aV (bZ y8 (itn (wr .i64 (ay y7.1 1)))) (itn (aO (len y8) (wr .i64 (ay y7.1 1))))))))))) (sK aS (itn (aO (len y8) (nti (nad (itn y7.1) (itn (len (aV (bZ y8 (itn (wr .i64 (ay y7.1 1)))) (itn (aO (len y8) (wr .i64 (ay y7.1 1))))))))))))) (nad (itn y7.1) (itn (len (aV (bZ y8 (itn (wr .i64 (ay y7.1 1)))) (itn (aO (len y8) (wr .i64 (ay y7.1 1))))))))) (itn y11.1) (aS.mk x2 (aj x0.b (itn y7.1)).data (aj x0.b (itn y7.1)).J)) x0.qZ x0.T x0.Q,0)) none) (ah (eF (aV (jq (jq y8 (itn y7.1) (aV (bZ y8 (itn (wr .i64 (ay y7.1 1)))) (itn (aO (len y8) (wr .i64 (ay y7.1 1)))))) (nad 0 (itn (nti (nad (itn y7.1) (itn (len (aV (bZ y8 (itn (wr .i64 (ay y7.1 1)))) (itn (aO (len y8) (wr .i64 (ay y7.1 1))))))))))) (sK aS (itn (aO (len y8) (nti (nad (itn y7.1) (itn (len (aV (bZ y8 (itn (wr .i64 (ay y7.1 1)))) (itn (aO (len y8) (wr .i64 (ay y7.1 1))))))))))))) (nad (itn y7.1) (itn (len (aV (bZ y8 (itn (wr .i64 (ay y7.1 1)))) (itn (aO (len y8) (wr .i64 (ay y7.1 1))))))))) y11.1 [aS.mk x2 (aj x0.b (itn y7.1)).data (aj x0.b (itn y7.1)).J]) fun y12=>some (ak.mk y12 x0.qZ x0.T x0.Q,0))) none) none) none) none)) none) none) (cnd (band (ile 0 y7.1) (ilt y7.1 (len x0.b))) (ah (bP x0.b) fun y13=>cnd (band (band (band (ile 0 y7.1) (ile y7.1 (wr .i64 (ay y7.1 1)))) (ile (wr .i64 (ay y7.1 1)) (len y13))) (band (ile (wr .i64 (ay y7.1 1)) (len y13)) (ile (len y13) (len y13)))) (cnd (ieq y7.1 (wr .i64 (ay y7.1 1))) (ah (jL (ak.mk y13 x0.qZ (wr .i64 (aO x0.T 1)) x0.Q) x2) fun y14=>cnd y14.2 (cnd (band (ile 0 y14.1) (ilt y14.1 (len y13))) (some (ak.mk (dP y13 (itn y14.1) (aS.mk x2 (aj x0.b (itn y7.1)).data (aj x0.b (itn y7.1)).J)) x0.qZ (wr .i64 (aO x0.T 1)) x0.Q,0)) none) (ah (eF y13 y14.1 [aS.mk x2 (aj x0.b (itn y7.1)).data (aj x0.b (itn y7.1)).J]) fun y15=>some (ak.mk y15 x0.qZ (wr .i64 (aO x0.T 1)) x0.Q,0))) (cnd (band (ile 0 y7.1) (ile y7.1 (len y13))) (cnd (band (ile 0 (wr .i64 (ay y7.1 1))) (ile (wr .i64 (ay y7.1 1)) (len y13))) (cnd (ile (ay (nti (itn y7.1)) (len (aV (bZ y13 (itn (wr .i64 (ay y7.1 1)))) (itn (aO (len y13) (wr .i64 (ay y7.1 1))))))) (len y13)) (cnd (band (band (ile 0 (nti (nad (itn y7.1) (itn (len (aV (bZ y13 (itn (wr .i64 (ay y7.1 1)))) (itn (aO (len y13) (wr .i64 (ay y7.1 1)))))))))) (ile (nti (nad (itn y7.1) (itn (len (aV (bZ y13 (itn (wr .i64 (ay y7.1 1)))) (itn (aO (len y13) (wr .i64 (ay y7.1 1))))))))) (len y13))) (ile (len y13) (aO (len (jq y13 (itn y7.1) (aV (bZ y13 (itn (wr .i64 (ay y7.1 1)))) (itn (aO (len y13) (wr .i64 (ay y7.1 1))))))) 0))) (ah (jL (ak.mk (aV (jq (jq y13 (itn y7.1) (aV (bZ y13 (itn (wr .i64 (ay y7.1 1)))) (itn (aO (len y13) (wr .i64 (ay y7.1 1)))))) (nad 0 (itn (nti (nad (itn y7.1) (itn (len (aV (bZ y13 (itn (wr .i64 (ay y7.1 1)))) (itn (aO (len y13) (wr .i64 (ay y7.1 1))))))))))) (sK aS (itn (aO (len y13) (nti (nad (itn y7.1) (itn (len (aV (bZ y13 (itn (wr .i64 (ay y7.1 1)))) (itn (aO (len y13) (wr .i64 (ay y7.1 1))))))))))))) (nad (itn y7.1) (itn (len (aV (bZ y13 (itn (wr .i64 (ay y7.1 1)))) (itn (aO (len y13) (wr .i64 (ay y7.1 1))))))))) x0.qZ (wr .i64 (aO x0.T 1)) x0.Q) x2) fun y16=>cnd y16.2 (cnd (band (ile 0 y16.1) (ilt y16.1 (len (aV (jq (jq y13 (itn y7.1) (aV (bZ y13 (itn (wr .i64 (ay y7.1 1)))) (itn (aO (len y13) (wr .i64 (ay y7.1 1)))))) (nad 0 (itn (nti (nad (itn y7.1) (itn (len (aV (bZ y13 (itn (wr .i64 (ay y7.1 1)))) (itn (aO (len y13) (wr .i64 (ay y7.1 1))))))))))) (sK aS (itn (aO (len y13) (nti (nad (itn y7.1) (itn (len (aV (bZ y13 (itn (wr .i64 (ay y7.1 1)))) (itn (aO (len y13) (wr .i64 (ay y7.1 1))))))))))))) (nad (itn y7.1) (itn (len (aV (bZ y13 (itn (wr .i64 (ay y7.1 1)))) (itn (aO (len y13) (wr .i64 (ay y7.1 1)))))))))))) (some (ak.mk (dP (aV (jq (jq y13 (itn y7.1) (aV (bZ y13 (itn (wr .i64 (ay y7.1 1)))) (itn (aO (len y13) (wr .i64 (ay y7.1 1)))))) (nad 0 (itn (nti (nad (itn y7.1) (itn (len (aV (bZ y13 (itn (wr .i64 (ay y7.1 1)))) (itn (aO (len y13) (wr .i64 (ay y7.1 1))))))))))) (sK aS (itn (aO (len y13) (nti (nad (itn y7.1) (itn (len (aV (bZ y13 (itn (wr .i64 (ay y7.1 1)))) (itn (aO (len y13) (wr .i64 (ay y7.1 1))))))))))))) (nad (itn y7.1) (itn (len (aV (bZ y13 (itn (wr .i64 (ay y7.1 1)))) (itn (aO (len y13) (wr .i64 (ay y7.1 1))))))))) (itn y16.1) (aS.mk x2 (aj x0.b (itn y7.1)).data (aj x0.b (itn y7.1)).J)) x0.qZ (wr .i64 (aO x0.T 1)) x0.Q,0)) none) (ah (eF (aV (jq (jq y13 (itn y7.1) (aV (bZ y13 (itn (wr .i64 (ay y7.1 1)))) (itn (aO (len y13) (wr .i64 (ay y7.1 1)))))) (nad 0 (itn (nti (nad (itn y7.1) (itn (len (aV (bZ y13 (itn (wr .i64 (ay y7.1 1)))) (itn (aO (len y13) (wr .i64 (ay y7.1 1))))))))))) (sK aS (itn (aO (len y13) (nti (nad (itn y7.1) (itn (len (aV (bZ y13 (itn (wr .i64 (ay y7.1 1)))) (itn (aO (len y13) (wr .i64 (ay y7.1 1))))))))))))) (nad (itn y7.1) (itn (len (aV (bZ y13 (itn (wr .i64 (ay y7.1 1)))) (itn (aO (len y13) (wr .i64 (ay y7.1 1))))))))) y16.1 [aS.mk x2 (aj x0.b (itn y7.1)).data (aj x0.b (itn y7.1)).J]) fun y17=>some (ak.mk y17 x0.qZ (wr .i64 (aO x0.T 1)) x0.Q,0))) none) none) none) none)) none) none))))) none
def Td:aA:=mkSpec [.val .disk,.str,.str] [.val .disk,.int .i64] false (fun x=>sU x.1 x.2.1 x.2.2)
theorem ae2:bY PG 144 Td:=okN [(216,uM),(217,wU),(80,jy),(219,vJ)] [214,221,222] ⟨BP,EI,nC,EN,azv⟩
def JY (x0:ak) (x1:(List UInt8)) (x2:Int):Option (ak×Int):=ah (vI x0 [x1]) fun y0=>cnd (ax (ieq y0 0)) (cnd (ax (ieq y0 0)) (some (x0,y0)) (cnd (ilt x2 0) (cnd (ilt x2 0) (some (x0,1)) (cnd (ieq x0.T 0) (some (ak.mk x0.b x0.qZ x0.T true,9)) (cnd (ieq x0.T (-1)) (ah (bP x0.b) fun y1=>cnd (ilt 0 (len y1)) (cnd (band (ile 0 x2) (ile x2 (len (aj y1 0).data))) (ah (fP (aV (aj y1 0).data (itn x2))) fun y2=>some (ak.mk (dP (dP y1 0 (aS.mk (aj y1 0).name y2 (aj y1 0).J)) 0 (aS.mk (aj (dP y1 0 (aS.mk (aj y1 0).name y2 (aj y1 0).J)) 0).name (aj (dP y1 0 (aS.mk (aj y1 0).name y2 (aj y1 0).J)) 0).data (kP (aj y1 0).J x2))) x0.qZ x0.T x0.Q,0)) none) none) (ah (bP x0.b) fun y3=>cnd (ilt 0 (len y3)) (cnd (band (ile 0 x2) (ile x2 (len (aj y3 0).data))) (ah (fP (aV (aj y3 0).data (itn x2))) fun y4=>some (ak.mk (dP (dP y3 0 (aS.mk (aj y3 0).name y4 (aj y3 0).J)) 0 (aS.mk (aj (dP y3 0 (aS.mk (aj y3 0).name y4 (aj y3 0).J)) 0).name (aj (dP y3 0 (aS.mk (aj y3 0).name y4 (aj y3 0).J)) 0).data (kP (aj y3 0).J x2))) x0.qZ (wr .i64 (aO x0.T 1)) x0.Q,0)) none) none)))) (cnd (ilt 0 (len x0.b)) (cnd (ilt (len (aj x0.b 0).data) x2) (some (x0,1)) (cnd (ieq x0.T 0) (some (ak.mk x0.b x0.qZ x0.T true,9)) (cnd (ieq x0.T (-1)) (ah (bP x0.b) fun y5=>cnd (ilt 0 (len y5)) (cnd (band (ile 0 x2) (ile x2 (len (aj y5 0).data))) (ah (fP (aV (aj y5 0).data (itn x2))) fun y6=>some (ak.mk (dP (dP y5 0 (aS.mk (aj y5 0).name y6 (aj y5 0).J)) 0 (aS.mk (aj (dP y5 0 (aS.mk (aj y5 0).name y6 (aj y5 0).J)) 0).name (aj (dP y5 0 (aS.mk (aj y5 0).name y6 (aj y5 0).J)) 0).data (kP (aj y5 0).J x2))) x0.qZ x0.T x0.Q,0)) none) none) (ah (bP x0.b) fun y7=>cnd (ilt 0 (len y7)) (cnd (band (ile 0 x2) (ile x2 (len (aj y7 0).data))) (ah (fP (aV (aj y7 0).data (itn x2))) fun y8=>some (ak.mk (dP (dP y7 0 (aS.mk (aj y7 0).name y8 (aj y7 0).J)) 0 (aS.mk (aj (dP y7 0 (aS.mk (aj y7 0).name y8 (aj y7 0).J)) 0).name (aj (dP y7 0 (aS.mk (aj y7 0).name y8 (aj y7 0).J)) 0).data (kP (aj y7 0).J x2))) x0.qZ (wr .i64 (aO x0.T 1)) x0.Q,0)) none) none)))) none))) (ah (jL x0 x1) fun y9=>cnd (ax y9.2) (some (x0,7)) (cnd (ilt x2 0) (cnd (ilt x2 0) (some (x0,1)) (cnd (ieq x0.T 0) (some (ak.mk x0.b x0.qZ x0.T true,9)) (cnd (ieq x0.T (-1)) (ah (bP x0.b) fun y10=>cnd (band (ile 0 y9.1) (ilt y9.1 (len y10))) (cnd (band (ile 0 x2) (ile x2 (len (aj y10 (itn y9.1)).data))) (ah (fP (aV (aj y10 (itn y9.1)).data (itn x2))) fun y11=>some (ak.mk (dP (dP y10 (itn y9.1) (aS.mk (aj y10 (itn y9.1)).name y11 (aj y10 (itn y9.1)).J)) (itn y9.1) (aS.mk (aj (dP y10 (itn y9.1) (aS.mk (aj y10 (itn y9.1)).name y11 (aj y10 (itn y9.1)).J)) (itn y9.1)).name (aj (dP y10 (itn y9.1) (aS.mk (aj y10 (itn y9.1)).name y11 (aj y10 (itn y9.1)).J)) (itn y9.1)).data (kP (aj y10 (itn y9.1)).J x2))) x0.qZ x0.T x0.Q,0)) none) none) (ah (bP x0.b) fun y12=>cnd (band (ile 0 y9.1) (ilt y9.1 (len y12))) (cnd (band (ile 0 x2) (ile x2 (len (aj y12 (itn y9.1)).data))) (ah (fP (aV (aj y12 (itn y9.1)).data (itn x2))) fun y13=>some (ak.mk (dP (dP y12 (itn y9.1) (aS.mk (aj y12 (itn y9.1)).name y13 (aj y12 (itn y9.1)).J)) (itn y9.1) (aS.mk (aj (dP y12 (itn y9.1) (aS.mk (aj y12 (itn y9.1)).name y13 (aj y12 (itn y9.1)).J)) (itn y9.1)).name (aj (dP y12 (itn y9.1) (aS.mk (aj y12 (itn y9.1)).name y13 (aj y12 (itn y9.1)).J)) (itn y9.1)).data (kP (aj y12 (itn y9.1)).J x2))) x0.qZ (wr .i64 (aO x0.T 1)) x0.Q,0)) none) none)))) (cnd (band (ile 0 y9.1) (ilt y9.1 (len x0.b))) (cnd (ilt (len (aj x0.b (itn y9.1)).data) x2) (some (x0,1)) (cnd (ieq x0.T 0) (some (ak.mk x0.b x0.qZ x0.T true,9)) (cnd (ieq x0.T (-1)) (ah (bP x0.b) fun y14=>cnd (band (ile 0 y9.1) (ilt y9.1 (len y14))) (cnd (band (ile 0 x2) (ile x2 (len (aj y14 (itn y9.1)).data))) (ah (fP (aV (aj y14 (itn y9.1)).data (itn x2))) fun y15=>some (ak.mk (dP (dP y14 (itn y9.1) (aS.mk (aj y14 (itn y9.1)).name y15 (aj y14 (itn y9.1)).J)) (itn y9.1) (aS.mk (aj (dP y14 (itn y9.1) (aS.mk (aj y14 (itn y9.1)).name y15 (aj y14 (itn y9.1)).J)) (itn y9.1)).name (aj (dP y14 (itn y9.1) (aS.mk (aj y14 (itn y9.1)).name y15 (aj y14 (itn y9.1)).J)) (itn y9.1)).data (kP (aj y14 (itn y9.1)).J x2))) x0.qZ x0.T x0.Q,0)) none) none) (ah (bP x0.b) fun y16=>cnd (band (ile 0 y9.1) (ilt y9.1 (len y16))) (cnd (band (ile 0 x2) (ile x2 (len (aj y16 (itn y9.1)).data))) (ah (fP (aV (aj y16 (itn y9.1)).data (itn x2))) fun y17=>some (ak.mk (dP (dP y16 (itn y9.1) (aS.mk (aj y16 (itn y9.1)).name y17 (aj y16 (itn y9.1)).J)) (itn y9.1) (aS.mk (aj (dP y16 (itn y9.1) (aS.mk (aj y16 (itn y9.1)).name y17 (aj y16 (itn y9.1)).J)) (itn y9.1)).name (aj (dP y16 (itn y9.1) (aS.mk (aj y16 (itn y9.1)).name y17 (aj y16 (itn y9.1)).J)) (itn y9.1)).data (kP (aj y16 (itn y9.1)).J x2))) x0.qZ (wr .i64 (aO x0.T 1)) x0.Q,0)) none) none)))) none)))
def Y5:aA:=mkSpec [.val .disk,.str,.int .i64] [.val .disk,.int .i64] false (fun x=>JY x.1 x.2.1 x.2.2)
theorem aj1:bY PG 170 Y5:=okN [(216,uM),(217,wU),(80,jy),(168,Bj)] [214,221] ⟨BP,EI,nC,Ls,azv⟩
def jO (x0:ak) (x1:dU):Option (ak×Int):=ah (IL x1) fun y0=>cnd (ax y0) (some (x0,1)) (ah (KR x0) fun y1=>cnd (ieq y1.2 1) (cnd (ieq y1.2 1) (some (x0,y1.2)) (cnd (ax (ieq x1.K (wr .i64 (ay y1.1.K 1)))) (some (x0,8)) (ah (yj x1.K) fun y2=>ah (AY x1) fun y3=>ah (vT x0 y2) fun y4=>cnd (ieq y4.2 7) (ah (je x0 y2 [y3.a0,y3.a1,y3.a2,y3.a3,y3.a4,y3.a5,y3.a6,y3.a7,y3.a8,y3.a9,y3.a10,y3.a11,y3.a12,y3.a13,y3.a14,y3.a15,y3.a16,y3.a17,y3.a18,y3.a19]) fun y5=>cnd (ax (ieq y5.2 0)) (some y5) (ah (jZ y5.1 y2) fun y6=>cnd (ax (ieq y6.2 0)) (some y6) (some (y6.1,0)))) (ah (JY x0 y2 0) fun y7=>cnd (ax (ieq y7.2 0)) (some y7) (ah (je y7.1 y2 [y3.a0,y3.a1,y3.a2,y3.a3,y3.a4,y3.a5,y3.a6,y3.a7,y3.a8,y3.a9,y3.a10,y3.a11,y3.a12,y3.a13,y3.a14,y3.a15,y3.a16,y3.a17,y3.a18,y3.a19]) fun y8=>cnd (ax (ieq y8.2 0)) (some y8) (ah (jZ y8.1 y2) fun y9=>cnd (ax (ieq y9.2 0)) (some y9) (some (y9.1,0)))))))) (cnd (ieq y1.2 9) (some (x0,y1.2)) (cnd (ax (ieq x1.K (wr .i64 (ay y1.1.K 1)))) (some (x0,8)) (ah (yj x1.K) fun y10=>ah (AY x1) fun y11=>ah (vT x0 y10) fun y12=>cnd (ieq y12.2 7) (ah (je x0 y10 [y11.a0,y11.a1,y11.a2,y11.a3,y11.a4,y11.a5,y11.a6,y11.a7,y11.a8,y11.a9,y11.a10,y11.a11,y11.a12,y11.a13,y11.a14,y11.a15,y11.a16,y11.a17,y11.a18,y11.a19]) fun y13=>cnd (ax (ieq y13.2 0)) (some y13) (ah (jZ y13.1 y10) fun y14=>cnd (ax (ieq y14.2 0)) (some y14) (some (y14.1,0)))) (ah (JY x0 y10 0) fun y15=>cnd (ax (ieq y15.2 0)) (some y15) (ah (je y15.1 y10 [y11.a0,y11.a1,y11.a2,y11.a3,y11.a4,y11.a5,y11.a6,y11.a7,y11.a8,y11.a9,y11.a10,y11.a11,y11.a12,y11.a13,y11.a14,y11.a15,y11.a16,y11.a17,y11.a18,y11.a19]) fun y16=>cnd (ax (ieq y16.2 0)) (some y16) (ah (jZ y16.1 y10) fun y17=>cnd (ax (ieq y17.2 0)) (some y17) (some (y17.1,0)))))))))
def Vb:aA:=mkSpec [.val .disk,.val .slot] [.val .disk,.int .i64] false (fun x=>jO x.1 x.2)
theorem agq:bY PG 147 Vb:=okN [(225,LH),(135,NM),(212,Oi),(226,LJ),(136,II),(170,Y5),(140,EF),(142,Ia)] [228,229,230,227] ⟨YL,aaG,aaH,YW,Uk,aj1,Oa,Ul,azv⟩
def EG (x0:(List UInt8)):Option (Bool):=some (ax (ieq (ji [115,110,97,112,46] x0) 0))
def MI:aA:=mkSpec [.str] [.bool] true (fun x=>EG x)
def Wn:Go.Shelf.Ren:=⟨fun | 174=>232 | 247=>293 | 245=>294 | 287=>321 | 279=>322 | 280=>323 | 281=>324 | 282=>325 | 321=>340 | 322=>341 | 316=>342 | 171=>344 | 205=>343 | 243=>349 | 246=>286 | 283=>314 | 284=>315 | 285=>316 | 286=>317 | 129=>334 | 317=>333 | 318=>335 | 319=>336 | 320=>337 | 337=>347 | 338=>348 | n=>n,fun | 9=>9 | 3=>3 | 2=>2 | 75=>291 | 85=>292 | 4=>4 | 167=>382 | 5=>5 | 53=>331 | 175=>383 | 46=>300 | 168=>385 | 37=>132 | 0=>0 | 210=>408 | 21=>21 | 127=>381 | 145=>414 | 143=>412 | 171=>376 | 173=>379 | 212=>398 | 51=>270 | 20=>20 | 213=>399 | 232=>415 | 233=>416 | 74=>290 | 209=>407 | 144=>413 | 80=>355 | n=>n,fun | 15=>2 | 16=>3 | 17=>1 | 18=>4 | 19=>5 | n=>n⟩
theorem qp:Go.Proofs.LaysC.n174 PG Wn where
 mixed:=by kernel_rfl
 f129:=by kernel_rfl
 f171:=by kernel_rfl
 f174:=by kernel_rfl
 f205:=by kernel_rfl
 f243:=by kernel_rfl
 f245:=by kernel_rfl
 f246:=by kernel_rfl
 f247:=by kernel_rfl
 f279:=by kernel_rfl
 f280:=by kernel_rfl
 f281:=by kernel_rfl
 f282:=by kernel_rfl
 f283:=by kernel_rfl
 f284:=by kernel_rfl
 f285:=by kernel_rfl
 f286:=by kernel_rfl
 f287:=by kernel_rfl
 f316:=by kernel_rfl
 f317:=by kernel_rfl
 f318:=by kernel_rfl
 f319:=by kernel_rfl
 f320:=by kernel_rfl
 f321:=by kernel_rfl
 f322:=by kernel_rfl
 f337:=by kernel_rfl
 f338:=by kernel_rfl
 t0:=by kernel_rfl
 a0:=fun w=>by kernel_rfl
 z0:=fun w=>by kernel_rfl
 v0:=fun w=>by kernel_rfl
 t2:=by kernel_rfl
 a2:=fun w=>by kernel_rfl
 z2:=fun w=>by kernel_rfl
 v2:=fun w=>by kernel_rfl
 t3:=by kernel_rfl
 a3:=fun w=>by kernel_rfl
 z3:=fun w=>by kernel_rfl
 v3:=fun w=>by kernel_rfl
 t4:=by kernel_rfl
 a4:=fun w=>by kernel_rfl
 z4:=fun w=>by kernel_rfl
 v4:=fun w=>by kernel_rfl
 t5:=by kernel_rfl
 a5:=fun w=>by kernel_rfl
 z5:=fun w=>by kernel_rfl
 v5:=fun w=>by kernel_rfl
 t9:=by kernel_rfl
 a9:=fun w=>by kernel_rfl
 z9:=fun w=>by kernel_rfl
 v9:=fun w=>by kernel_rfl
 t20:=by kernel_rfl
 a20:=fun w=>by kernel_rfl
 z20:=fun w=>by kernel_rfl
 v20:=fun w=>by kernel_rfl
 t21:=by kernel_rfl
 a21:=fun w=>by kernel_rfl
 z21:=fun w=>by kernel_rfl
 v21:=fun w=>by kernel_rfl
 t37:=by kernel_rfl
 a37:=fun w=>by kernel_rfl
 z37:=fun w=>by kernel_rfl
 v37:=fun w=>by kernel_rfl
 t46:=by kernel_rfl
 a46:=fun w=>by kernel_rfl
 z46:=fun w=>by kernel_rfl
 v46:=fun w=>by kernel_rfl
 t51:=by kernel_rfl
 a51:=fun w=>by kernel_rfl
 z51:=fun w=>by kernel_rfl
 v51:=fun w=>by kernel_rfl
 t53:=by kernel_rfl
 a53:=fun w=>by kernel_rfl
 z53:=fun w=>by kernel_rfl
 v53:=fun w=>by kernel_rfl
 t75:=by kernel_rfl
 a75:=fun w=>by kernel_rfl
 z75:=fun w=>by kernel_rfl
 v75:=fun w=>by kernel_rfl
 t85:=by kernel_rfl
 a85:=fun w=>by kernel_rfl
 z85:=fun w=>by kernel_rfl
 v85:=fun w=>by kernel_rfl
 t127:=by kernel_rfl
 a127:=fun w=>by kernel_rfl
 z127:=fun w=>by kernel_rfl
 v127:=fun w=>by kernel_rfl
 t143:=by kernel_rfl
 a143:=fun w=>by kernel_rfl
 z143:=fun w=>by kernel_rfl
 v143:=fun w=>by kernel_rfl
 t145:=by kernel_rfl
 a145:=fun w=>by kernel_rfl
 z145:=fun w=>by kernel_rfl
 v145:=fun w=>by kernel_rfl
 t167:=by kernel_rfl
 a167:=fun w=>by kernel_rfl
 z167:=fun w=>by kernel_rfl
 v167:=fun w=>by kernel_rfl
 t168:=by kernel_rfl
 a168:=fun w=>by kernel_rfl
 z168:=fun w=>by kernel_rfl
 v168:=fun w=>by kernel_rfl
 t171:=by kernel_rfl
 a171:=fun w=>by kernel_rfl
 z171:=fun w=>by kernel_rfl
 v171:=fun w=>by kernel_rfl
 t173:=by kernel_rfl
 a173:=fun w=>by kernel_rfl
 z173:=fun w=>by kernel_rfl
 v173:=fun w=>by kernel_rfl
 t175:=by kernel_rfl
 a175:=fun w=>by kernel_rfl
 z175:=fun w=>by kernel_rfl
 v175:=fun w=>by kernel_rfl
 t210:=by kernel_rfl
 a210:=fun w=>by kernel_rfl
 z210:=fun w=>by kernel_rfl
 v210:=fun w=>by kernel_rfl
 t212:=by kernel_rfl
 a212:=fun w=>by kernel_rfl
 z212:=fun w=>by kernel_rfl
 v212:=fun w=>by kernel_rfl
 t213:=by kernel_rfl
 a213:=fun w=>by kernel_rfl
 z213:=fun w=>by kernel_rfl
 t232:=by kernel_rfl
 a232:=fun w=>by kernel_rfl
 z232:=fun w=>by kernel_rfl
 v232:=fun w=>by kernel_rfl
 t233:=by kernel_rfl
 a233:=fun w=>by kernel_rfl
 z233:=fun w=>by kernel_rfl
 v233:=fun w=>by kernel_rfl
 g15:=by kernel_rfl
 g16:=by kernel_rfl
 g17:=by kernel_rfl
 g18:=by kernel_rfl
 g19:=by kernel_rfl
 t80:=by kernel_rfl
 a80:=fun w=>by kernel_rfl
 z80:=fun w=>by kernel_rfl
 v80:=fun w=>by kernel_rfl
 i0:=by kernel_rfl
 i2:=by kernel_rfl
 i3:=by kernel_rfl
 i4:=by kernel_rfl
 i5:=by kernel_rfl
 i9:=by kernel_rfl
 i20:=by kernel_rfl
 i21:=by kernel_rfl
 i37:=by kernel_rfl
 i46:=by kernel_rfl
 i51:=by kernel_rfl
 i53:=by kernel_rfl
 i75:=by kernel_rfl
 i80:=by kernel_rfl
 i85:=by kernel_rfl
 i127:=by kernel_rfl
 i143:=by kernel_rfl
 i145:=by kernel_rfl
 i167:=by kernel_rfl
 i168:=by kernel_rfl
 i171:=by kernel_rfl
 i173:=by kernel_rfl
 i175:=by kernel_rfl
 i210:=by kernel_rfl
 i212:=by kernel_rfl
 i232:=by kernel_rfl
 i233:=by kernel_rfl
 m15:=by kernel_rfl
 m16:=by kernel_rfl
 m17:=by kernel_rfl
 m18:=by kernel_rfl
 m19:=by kernel_rfl
 c0:=by kernel_rfl
 c2:=by kernel_rfl
 c3:=by kernel_rfl
 c4:=by kernel_rfl
 c5:=by kernel_rfl
 c9:=by kernel_rfl
 c20:=by kernel_rfl
 c21:=by kernel_rfl
 c37:=by kernel_rfl
 c46:=by kernel_rfl
 c51:=by kernel_rfl
 c53:=by kernel_rfl
 c75:=by kernel_rfl
 c80:=by kernel_rfl
 c85:=by kernel_rfl
 c127:=by kernel_rfl
 c143:=by kernel_rfl
 c145:=by kernel_rfl
 c167:=by kernel_rfl
 c168:=by kernel_rfl
 c171:=by kernel_rfl
 c173:=by kernel_rfl
 c175:=by kernel_rfl
 c210:=by kernel_rfl
 c212:=by kernel_rfl
 c213:=by kernel_rfl
 c232:=by kernel_rfl
 c233:=by kernel_rfl
def VG:Go.Shelf.Ren:=⟨fun | 103=>231 | 210=>292 | 206=>318 | n=>n,fun | 9=>9 | 4=>4 | 24=>288 | 3=>3 | n=>n,fun | n=>n⟩
theorem Iw:Go.Proofs.Lays.n103 PG VG where
 mixed:=by kernel_rfl
 f103:=by kernel_rfl
 f206:=by kernel_rfl
 f210:=by kernel_rfl
 t3:=by kernel_rfl
 a3:=fun w=>by kernel_rfl
 z3:=fun w=>by kernel_rfl
 v3:=fun w=>by kernel_rfl
 t4:=by kernel_rfl
 a4:=fun w=>by kernel_rfl
 z4:=fun w=>by kernel_rfl
 v4:=fun w=>by kernel_rfl
 t9:=by kernel_rfl
 a9:=fun w=>by kernel_rfl
 z9:=fun w=>by kernel_rfl
 v9:=fun w=>by kernel_rfl
 t24:=by kernel_rfl
 a24:=fun w=>by kernel_rfl
 z24:=fun w=>by kernel_rfl
 v24:=fun w=>by kernel_rfl
theorem amE {B B':Nat} {a b:World} (h:RowKit.Below B a b) (hB:B'<=B):RowKit.Below B' a b:=⟨h.os,h.tape,h.output,h.size,fun k hk=>h.block k (axf hk hB)⟩
set_option maxHeartbeats 1000000 in
set_option maxRecDepth 100000 in
theorem ai0 (s r:ByteArray) (w:World)
 (h1:Calls PG 231 #[.string s,.string ⟨#[115,110,97,112,46]⟩] w fun e w'=>e= .returned (.tuple #[.string r,.bool false])/\w'=w):
 Calls PG 148 #[.string s] w fun e w'=>e= .returned (.bool false)/\RowKit.Below w.heap.size w w':=by
 go_enter Go.Proofs.Tryz.func148,Go.Proofs.Tryz.ntmps148
 go_wp2_with (go_at_call 231;refine h1.mono ?_;rintro e W1 ⟨rfl,rfl⟩)
 all_goals (go_ret;exact⟨rfl,RowKit.Below.refl _ _⟩)
set_option maxHeartbeats 1000000 in
set_option maxRecDepth 100000 in
theorem agp (s r:ByteArray) (w:World)
 (h1:Calls PG 231 #[.string s,.string ⟨#[115,110,97,112,46]⟩] w fun e w'=>e= .returned (.tuple #[.string r,.bool true])/\w'=w) (hr:r.size≠10):
 Calls PG 148 #[.string s] w fun e w'=>e= .returned (.bool false)/\RowKit.Below w.heap.size w w':=by
 have hr':((((r.size:Nat):Int)) != 10)=true:=by simp;omega
 go_enter Go.Proofs.Tryz.func148,Go.Proofs.Tryz.ntmps148
 go_wp2_with (go_at_call 231;refine h1.mono ?_;rintro e W1 ⟨rfl,rfl⟩)
 all_goals (go_ret;exact⟨rfl,RowKit.Below.refl _ _⟩)
set_option maxHeartbeats 1000000 in
set_option maxRecDepth 100000 in
theorem Y0 (s r:ByteArray) (w:World) (v:Int) (t:TypeId) (q:Value->Prop)
 (h1:Calls PG 231 #[.string s,.string ⟨#[115,110,97,112,46]⟩] w fun e w'=>e= .returned (.tuple #[.string r,.bool true])/\w'=w) (hr:r.size=10)
 (h2:Calls PG 232 #[.string r,.int .i64 10,.int .i64 64] w fun e w'=>∃p,e= .returned (.tuple #[.int .i64 v,.iface t p])/\RowKit.Below w.heap.size w w'):
 Calls PG 148 #[.string s] w fun e w'=>e= .returned (.bool false)/\RowKit.Below w.heap.size w w':=by
 have hr':((r.size:Nat):Int)=10:=by omega
 go_enter Go.Proofs.Tryz.func148,Go.Proofs.Tryz.ntmps148
 go_wp2_with (first | (go_at_call 231;refine h1.mono ?_;rintro e W1 ⟨rfl,rfl⟩) | (go_at_call 232;refine h2.mono ?_;rintro e W2 ⟨p,rfl,hb⟩))
 all_goals (go_ret;exact⟨rfl,hb⟩)
set_option maxHeartbeats 1000000 in
set_option maxRecDepth 100000 in
theorem ain (s r:ByteArray) (w:World) (v:Int) (nm:ByteArray)
 (h1:Calls PG 231 #[.string s,.string ⟨#[115,110,97,112,46]⟩] w fun e w'=>e= .returned (.tuple #[.string r,.bool true])/\w'=w) (hr:r.size=10)
 (h2:Calls PG 232 #[.string r,.int .i64 10,.int .i64 64] w fun e w'=>e= .returned (.tuple #[.int .i64 v,.nilIface])/\RowKit.Below w.heap.size w w')
 (h3:∀w1,RowKit.Below w.heap.size w w1->Calls PG 145 #[.int .i64 v] w1 fun e w'=>e= .returned (.string nm)/\RowKit.Below w1.heap.size w1 w'):
 Calls PG 148 #[.string s] w fun e w'=>e= .returned (.bool (nm.toList == s.toList))/\RowKit.Below w.heap.size w w':=by
 have hr':((r.size:Nat):Int)=10:=by omega
 go_enter Go.Proofs.Tryz.func148,Go.Proofs.Tryz.ntmps148
 go_wp2_with (first | (go_at_call 231;refine h1.mono ?_;rintro e W1 ⟨rfl,rfl⟩) | (go_at_call 232;refine h2.mono ?_;rintro e W2 ⟨rfl,hb⟩) | (go_at_call 145;refine(h3 _ hb).mono ?_;rintro e W3 ⟨rfl,hb3⟩))
 all_goals (go_ret;exact⟨rfl,hb.trans (amE hb3 hb.size)⟩)
theorem aor (v:Int) (hv:inI v):nX v=some (uT [115,110,97,112,46] v):=by
 unfold inI at hv;unfold nX uT jv lQ;by_cases h:v<1\/1000000000<v
 ·rw[awh h,show bor (ilt v 1) (ilt 1000000000 v)=true by rw[aaz,Ie,Ie];exact h];rfl
 ·have e1:bor (ilt v 1) (ilt 1000000000 v)=false:=by
   rw[Bool.eq_false_iff];intro g;rw[aaz,Ie,Ie]at g;exact h g
  have hl:(fmt10 v).length<=10:=by
   unfold fmt10;rw[awg (by omega)]
   exact OH 20 _ 10 (by have:(10:Nat)^10=10000000000:=by decide
                        omega) (by decide)
  have e2:wr .i64 (aO 10 (len (fmt10 v)))=((10 - (fmt10 v).length:Nat):Int):=by
   unfold aO len wr IntKind.wrap;simp [IntKind.bits,IntKind.signed];omega
  have e3:ai2 v 10=some (fmt10 v):=by
   unfold ai2;rw[show band (ieq 10 10) (band (ile (-9223372036854775808) v) (ile v 9223372036854775807))=true by rw[rZ,rZ,jV,jV];exact⟨rfl,hv⟩];rfl
  have e4:aiR [UInt8.ofNat 48] ((10 - (fmt10 v).length:Nat):Int)=some (List.replicate (10 - (fmt10 v).length) 48):=by
   unfold aiR
   rw[show band (ile 0 ((10 - (fmt10 v).length:Nat):Int)) (band (ile ((10 - (fmt10 v).length:Nat):Int) 9223372036854775807) (ile (dA (len [UInt8.ofNat 48]) ((10 - (fmt10 v).length:Nat):Int)) 140737488355328))=true by
    rw[rZ,rZ,jV,jV,jV];simp only[dA,len,awY];omega]
   simp only[cnd,itn,axh];rw[show UInt8.ofNat 48=48 from rfl,Xq]
  rw[awg h,e1,e3];simp only[cnd,ah,ayC,e2,e4];rw[show ile (ay 5 (len (List.replicate (10 - (fmt10 v).length) (48:UInt8)))) 68719476736=true by rw[jV];simp only[ay,len,axv];omega];simp only;rw[show ile (ay (len (aJ [UInt8.ofNat 115,UInt8.ofNat 110,UInt8.ofNat 97,UInt8.ofNat 112,UInt8.ofNat 46] (List.replicate (10 - (fmt10 v).length) (48:UInt8)))) (len (fmt10 v))) 68719476736=true by rw[jV];simp only[ay,len,aJ,awn,axv,awF,axm];omega]
  rfl
theorem aby:bY PG 148 MI:=by
 refine aen (xs:=[.str]) (rs:=[.bool]) rfl rfl (ae0 IC (by kernel_rfl)) fun(x:List UInt8) (y:Bool) w hrun hg=> ?_;have hy:y=ax (ieq (ji [115,110,97,112,46] x) 0):=(awr hrun).symm;subst hy;show Calls PG 148 #[.string ⟨x.toArray⟩] w fun e w'=>e= .returned (.bool (ax (ieq (ji [115,110,97,112,46] x) 0)))/\RowKit.Below w.heap.size w w';have hcut:=Go.Proofs.Any.strings_CutPrefix Iw ⟨x.toArray⟩ ⟨#[115,110,97,112,46]⟩ w;change Calls PG 231 #[.string ⟨x.toArray⟩,.string ⟨#[115,110,97,112,46]⟩] w (fun e w'=>e= .returned (.tuple #[.string ⟨(Go.Lib.trimPrefix x [115,110,97,112,46]).toArray⟩,.bool (Go.Lib.hasPrefix x [115,110,97,112,46])])/\w'=w)at hcut;have nz:∀b:Bool,b=decide (ji [115,110,97,112,46] x≠0)->ax (ieq (ji [115,110,97,112,46] x) 0)=b:=fun b hb=>by
  rw[hb];by_cases h:ji [115,110,97,112,46] x=0<;>simp [ax,ieq,h]
 cases hpf:Go.Lib.hasPrefix x [115,110,97,112,46]with
 |false=>
  rw[hpf]at hcut;have hz:ji [115,110,97,112,46] x=0:=awg fun g=>by
   have:Go.Lib.hasPrefix x [115,110,97,112,46]=true:=by
    unfold Go.Lib.hasPrefix;rw[ay2];exact⟨x.drop 5,by conv=>rhs;rw[<-aw7 5 x,show x.take 5=_ from g.1]⟩
   rw[hpf]at this;cases this
  rw[hz];exact ai0 _ _ w hcut
 |true=>
  rw[hpf]at hcut;have htk:x.take 5=[115,110,97,112,46]:=by
   unfold Go.Lib.hasPrefix at hpf;rw[ay2]at hpf;obtain⟨r,rfl⟩:=hpf
   rfl
  rw[show Go.Lib.trimPrefix x [115,110,97,112,46]=x.drop 5 by unfold Go.Lib.trimPrefix;rw[awh hpf];rfl]at hcut;by_cases hl:(x.drop 5).length=10
  ·have hsame:=aoM [115,110,97,112,46] x htk (by simp) hl;change (match Go.Lib.parseIntB 64 (x.drop 5)with | .ok v=>decide (uT [115,110,97,112,46] v=x) | _=>false)=_ at hsame
   have hsz:(⟨(x.drop 5).toArray⟩:ByteArray).size=10:=by
    show(x.drop 5).toArray.size=10;rw[ay1];exact hl
   cases hp:Go.Lib.parseIntB 64 (x.drop 5)with
   |ok v=>
    rw[hp]at hsame
    have h2:=(Go.Proofs.Any.strconv_ParseInt_10_at64_ok qp ⟨(x.drop 5).toArray⟩ (by rw[hsz];decide) v hp w).mono (R':=fun e w'=>e= .returned (.tuple #[.int .i64 v,.nilIface])/\RowKit.Below w.heap.size w w') fun e w' ⟨he,hw⟩=>⟨he,by
     rcases hw with rfl | ⟨t,rfl⟩
     ·exact RowKit.Below.refl _ _
     ·exact Go.Lib.bytesWorld_below _ _ _⟩
    have h3:∀w1,RowKit.Below w.heap.size w w1->Calls PG 145 #[.int .i64 v] w1 fun e w'=>e= .returned (.string ⟨(uT [115,110,97,112,46] v).toArray⟩)/\RowKit.Below w1.heap.size w1 w':=fun w1 hb=>
     bY.calls (xs:=[.int .i64]) (r:= .str) IC (by kernel_rfl) YV rfl rfl v (uT [115,110,97,112,46] v) (aor v (aoY hp)) w1 (hg.mono (fun b h=>axf h hb.size) (fun b h=>hb.block b h))
    have:=ain ⟨x.toArray⟩ ⟨(x.drop 5).toArray⟩ w v ⟨(uT [115,110,97,112,46] v).toArray⟩ hcut hsz h2 h3;rw[ByteArray.toList_eq,ByteArray.toList_eq]at this;rw[nz _ hsame];refine this.mono fun e w' ⟨he,hb⟩=>⟨he.trans ?_,hb⟩;congr 2;simp only;rw[ax5];simp
   |range=>
    rw[hp]at hsame;obtain⟨_,c,t,fr,hc,te,pe,rfl⟩:=hg (3,aoc) (by simp [glL]);have hcell:w.cell? ⟨3,0,none⟩=some (.iface te pe):=by unfold World.cell?;simp only[hc];rfl
    rw[nz _ hsame];refine Y0 ⟨x.toArray⟩ ⟨(x.drop 5).toArray⟩ w _ _ (fun _=>True) hcut hsz ((Go.Proofs.Any.strconv_ParseInt_10_at64_range qp ⟨(x.drop 5).toArray⟩ (by rw[hsz];decide) hp _ w hcell (.inr ⟨te,pe,rfl⟩)).mono fun e w' ⟨N,he,_,_,hb⟩=>⟨_,he,hb⟩)
   |_=>
    rw[hp]at hsame;obtain⟨_,c,t,fr,hc,te,pe,rfl⟩:=hg (2,aoc) (by simp [glL]);have hcell:w.cell? ⟨2,0,none⟩=some (.iface te pe):=by unfold World.cell?;simp only[hc];rfl
    rw[nz _ hsame];refine Y0 ⟨x.toArray⟩ ⟨(x.drop 5).toArray⟩ w _ _ (fun _=>True) hcut hsz ((Go.Proofs.Any.strconv_ParseInt_10_at64_syntax qp ⟨(x.drop 5).toArray⟩ (by rw[hsz];decide) hp _ w hcell (.inr ⟨te,pe,rfl⟩)).mono fun e w' ⟨N,he,_,_,hb⟩=>⟨_,he,hb⟩)
  ·have hz:ji [115,110,97,112,46] x=0:=awg fun g=>hl g.2.1;rw[hz];refine agp _ _ w hcut fun g=>hl ?_;have g:(x.drop 5).toArray.size=10:=g;rwa[ay1]at g
def bV (p0:Int) (p1:(List aS)) (p2:Int) (v0:Int) (v1:ig):Option ((Int×ig) ⊕ ((ig))):=cnd (ilt v0 p0) (cnd (band (ile 0 v0) (ilt v0 (len p1))) (ah (EG (aj p1 (itn v0)).name) fun y0=>ah (cnd y0 (nX p2) (some [])) fun y1=>cnd (band y0 (ax (seq (aj p1 (itn v0)).name y1))) (cnd (ieq v1.e 0) (ah (vX v1.d (aj p1 (itn v0)).name) fun y2=>some (.inl (wr .i64 (ay v0 1),ig.mk y2.1 y2.2))) (some (.inl (wr .i64 (ay v0 1),v1)))) (some (.inl (wr .i64 (ay v0 1),v1)))) none) (some (.inr v1))
def YD:dB:=LSh.spec ⟨304,[(72,.int .i64),(71,.ro .file)],[(11,.mp 336 0),(10,.mp 304 0)],[(304,[.int .i64])],[(73,.int .i64)],[(336,[.val .keeper])],[]⟩ [⟨.exit 1,[],[(336,[.val .keeper])],[]⟩] (sP [(15,1),(73,19)]) (fun p v=>bV p.1 p.2.1 p.2.2 v.1 v.2)
def Np (x0:ak) (x1:aB):Option (ak×Int×Int):=ah (ED x1) fun y0=>cnd (ax (ieq y0.2 0)) (some (x0,0,1)) (ah (KR x0) fun y1=>cnd (ieq y1.2 1) (some (x0,0,y1.2)) (cnd (ieq y1.2 9) (some (x0,0,y1.2)) (cnd (ile 1000000000 y1.1.K) (some (x0,0,3)) (ah (vT x0 [(UInt8.ofNat 116),(UInt8.ofNat 109),(UInt8.ofNat 112)]) fun y2=>cnd (ieq y2.2 0) (ah (vX x0 [(UInt8.ofNat 116),(UInt8.ofNat 109),(UInt8.ofNat 112)]) fun y3=>cnd (ieq y3.2 0) (ah (je y3.1 [(UInt8.ofNat 116),(UInt8.ofNat 109),(UInt8.ofNat 112)] y0.1) fun y4=>cnd (ieq y4.2 0) (ah (jZ y4.1 [(UInt8.ofNat 116),(UInt8.ofNat 109),(UInt8.ofNat 112)]) fun y5=>cnd (ieq y5.2 0) (ah (nX (wr .i64 (ay y1.1.K 1))) fun y6=>ah (sU y5.1 [(UInt8.ofNat 116),(UInt8.ofNat 109),(UInt8.ofNat 112)] y6) fun y7=>cnd (ieq y7.2 0) (ah (jO y7.1 (dU.mk (wr .i64 (ay y1.1.K 1)) x1.B)) fun y8=>ah (bU (fun v=>bV (len y8.1.b) y8.1.b (wr .i64 (ay y1.1.K 1)) v.1 v.2) LF (0,ig.mk y8.1 y8.2)) fun y9=>cnd (ax (ieq y9.e 0)) (some (y9.d,0,y9.e)) (some (y9.d,wr .i64 (ay y1.1.K 1),0))) (ah (bU (fun v=>bV (len y7.1.b) y7.1.b (wr .i64 (ay y1.1.K 1)) v.1 v.2) LF (0,ig.mk y7.1 y7.2)) fun y10=>cnd (ax (ieq y10.e 0)) (some (y10.d,0,y10.e)) (some (y10.d,wr .i64 (ay y1.1.K 1),0)))) (cnd (ieq y5.2 0) (ah (jO y5.1 (dU.mk (wr .i64 (ay y1.1.K 1)) x1.B)) fun y11=>ah (bU (fun v=>bV (len y11.1.b) y11.1.b (wr .i64 (ay y1.1.K 1)) v.1 v.2) LF (0,ig.mk y11.1 y11.2)) fun y12=>cnd (ax (ieq y12.e 0)) (some (y12.d,0,y12.e)) (some (y12.d,wr .i64 (ay y1.1.K 1),0))) (ah (bU (fun v=>bV (len y5.1.b) y5.1.b (wr .i64 (ay y1.1.K 1)) v.1 v.2) LF (0,ig.mk y5.1 y5.2)) fun y13=>cnd (ax (ieq y13.e 0)) (some (y13.d,0,y13.e)) (some (y13.d,wr .i64 (ay y1.1.K 1),0))))) (cnd (ieq y4.2 0) (ah (nX (wr .i64 (ay y1.1.K 1))) fun y14=>ah (sU y4.1 [(UInt8.ofNat 116),(UInt8.ofNat 109),(UInt8.ofNat 112)] y14) fun y15=>cnd (ieq y15.2 0) (ah (jO y15.1 (dU.mk (wr .i64 (ay y1.1.K 1)) x1.B)) fun y16=>ah (bU (fun v=>bV (len y16.1.b) y16.1.b (wr .i64 (ay y1.1.K 1)) v.1 v.2) LF (0,ig.mk y16.1 y16.2)) fun y17=>cnd (ax (ieq y17.e 0)) (some (y17.d,0,y17.e)) (some (y17.d,wr .i64 (ay y1.1.K 1),0))) (ah (bU (fun v=>bV (len y15.1.b) y15.1.b (wr .i64 (ay y1.1.K 1)) v.1 v.2) LF (0,ig.mk y15.1 y15.2)) fun y18=>cnd (ax (ieq y18.e 0)) (some (y18.d,0,y18.e)) (some (y18.d,wr .i64 (ay y1.1.K 1),0)))) (cnd (ieq y4.2 0) (ah (jO y4.1 (dU.mk (wr .i64 (ay y1.1.K 1)) x1.B)) fun y19=>ah (bU (fun v=>bV (len y19.1.b) y19.1.b (wr .i64 (ay y1.1.K 1)) v.1 v.2) LF (0,ig.mk y19.1 y19.2)) fun y20=>cnd (ax (ieq y20.e 0)) (some (y20.d,0,y20.e)) (some (y20.d,wr .i64 (ay y1.1.K 1),0))) (ah (bU (fun v=>bV (len y4.1.b) y4.1.b (wr .i64 (ay y1.1.K 1)) v.1 v.2) LF (0,ig.mk y4.1 y4.2)) fun y21=>cnd (ax (ieq y21.e 0)) (some (y21.d,0,y21.e)) (some (y21.d,wr .i64 (ay y1.1.K 1),0)))))) (cnd (ieq y3.2 0) (ah (jZ y3.1 [(UInt8.ofNat 116),(UInt8.ofNat 109),(UInt8.ofNat 112)]) fun y22=>cnd (ieq y22.2 0) (ah (nX (wr .i64 (ay y1.1.K 1))) fun y23=>ah (sU y22.1 [(UInt8.ofNat 116),(UInt8.ofNat 109),(UInt8.ofNat 112)] y23) fun y24=>cnd (ieq y24.2 0) (ah (jO y24.1 (dU.mk (wr .i64 (ay y1.1.K 1)) x1.B)) fun y25=>ah (bU (fun v=>bV (len y25.1.b) y25.1.b (wr .i64 (ay y1.1.K 1)) v.1 v.2) LF (0,ig.mk y25.1 y25.2)) fun y26=>cnd (ax (ieq y26.e 0)) (some (y26.d,0,y26.e)) (some (y26.d,wr .i64 (ay y1.1.K 1),0))) (ah (bU (fun v=>bV (len y24.1.b) y24.1.b (wr .i64 (ay y1.1.K 1)) v.1 v.2) LF (0,ig.mk y24.1 y24.2)) fun y27=>cnd (ax (ieq y27.e 0)) (some (y27.d,0,y27.e)) (some (y27.d,wr .i64 (ay y1.1.K 1),0)))) (cnd (ieq y22.2 0) (ah (jO y22.1 (dU.mk (wr .i64 (ay y1.1.K 1)) x1.B)) fun y28=>ah (bU (fun v=>bV (len y28.1.b) y28.1.b (wr .i64 (ay y1.1.K 1)) v.1 v.2) LF (0,ig.mk y28.1 y28.2)) fun y29=>cnd (ax (ieq y29.e 0)) (some (y29.d,0,y29.e)) (some (y29.d,wr .i64 (ay y1.1.K 1),0))) (ah (bU (fun v=>bV (len y22.1.b) y22.1.b (wr .i64 (ay y1.1.K 1)) v.1 v.2) LF (0,ig.mk y22.1 y22.2)) fun y30=>cnd (ax (ieq y30.e 0)) (some (y30.d,0,y30.e)) (some (y30.d,wr .i64 (ay y1.1.K 1),0))))) (cnd (ieq y3.2 0) (ah (nX (wr .i64 (ay y1.1.K 1))) fun y31=>ah (sU y3.1 [(UInt8.ofNat 116),(UInt8.ofNat 109),(UInt8.ofNat 112)] y31) fun y32=>cnd (ieq y32.2 0) (ah (jO y32.1 (dU.mk (wr .i64 (ay y1.1.K 1)) x1.B)) fun y33=>ah (bU (fun v=>bV (len y33.1.b) y33.1.b (wr .i64 (ay y1.1.K 1)) v.1 v.2) LF (0,ig.mk y33.1 y33.2)) fun y34=>cnd (ax (ieq y34.e 0)) (some (y34.d,0,y34.e)) (some (y34.d,wr .i64 (ay y1.1.K 1),0))) (ah (bU (fun v=>bV (len y32.1.b) y32.1.b (wr .i64 (ay y1.1.K 1)) v.1 v.2) LF (0,ig.mk y32.1 y32.2)) fun y35=>cnd (ax (ieq y35.e 0)) (some (y35.d,0,y35.e)) (some (y35.d,wr .i64 (ay y1.1.K 1),0)))) (cnd (ieq y3.2 0) (ah (jO y3.1 (dU.mk (wr .i64 (ay y1.1.K 1)) x1.B)) fun y36=>ah (bU (fun v=>bV (len y36.1.b) y36.1.b (wr .i64 (ay y1.1.K 1)) v.1 v.2) LF (0,ig.mk y36.1 y36.2)) fun y37=>cnd (ax (ieq y37.e 0)) (some (y37.d,0,y37.e)) (some (y37.d,wr .i64 (ay y1.1.K 1),0))) (ah (bU (fun v=>bV (len y3.1.b) y3.1.b (wr .i64 (ay y1.1.K 1)) v.1 v.2) LF (0,ig.mk y3.1 y3.2)) fun y38=>cnd (ax (ieq y38.e 0)) (some (y38.d,0,y38.e)) (some (y38.d,wr .i64 (ay y1.1.K 1),0))))))) (ah (je x0 [(UInt8.ofNat 116),(UInt8.ofNat 109),(UInt8.ofNat 112)] y0.1) fun y39=>cnd (ieq y39.2 0) (ah (jZ y39.1 [(UInt8.ofNat 116),(UInt8.ofNat 109),(UInt8.ofNat 112)]) fun y40=>cnd (ieq y40.2 0) (ah (nX (wr .i64 (ay y1.1.K 1))) fun y41=>ah (sU y40.1 [(UInt8.ofNat 116),(UInt8.ofNat 109),(UInt8.ofNat 112)] y41) fun y42=>cnd (ieq y42.2 0) (ah (jO y42.1 (dU.mk (wr .i64 (ay y1.1.K 1)) x1.B)) fun y43=>ah (bU (fun v=>bV (len y43.1.b) y43.1.b (wr .i64 (ay y1.1.K 1)) v.1 v.2) LF (0,ig.mk y43.1 y43.2)) fun y44=>cnd (ax (ieq y44.e 0)) (some (y44.d,0,y44.e)) (some (y44.d,wr .i64 (ay y1.1.K 1),0))) (ah (bU (fun v=>bV (len y42.1.b) y42.1.b (wr .i64 (ay y1.1.K 1)) v.1 v.2) LF (0,ig.mk y42.1 y42.2)) fun y45=>cnd (ax (ieq y45.e 0)) (some (y45.d,0,y45.e)) (some (y45.d,wr .i64 (ay y1.1.K 1),0)))) (cnd (ieq y40.2 0) (ah (jO y40.1 (dU.mk (wr .i64 (ay y1.1.K 1)) x1.B)) fun y46=>ah (bU (fun v=>bV (len y46.1.b) y46.1.b (wr .i64 (ay y1.1.K 1)) v.1 v.2) LF (0,ig.mk y46.1 y46.2)) fun y47=>cnd (ax (ieq y47.e 0)) (some (y47.d,0,y47.e)) (some (y47.d,wr .i64 (ay y1.1.K 1),0))) (ah (bU (fun v=>bV (len y40.1.b) y40.1.b (wr .i64 (ay y1.1.K 1)) v.1 v.2) LF (0,ig.mk y40.1 y40.2)) fun y48=>cnd (ax (ieq y48.e 0)) (some (y48.d,0,y48.e)) (some (y48.d,wr .i64 (ay y1.1.K 1),0))))) (cnd (ieq y39.2 0) (ah (nX (wr .i64 (ay y1.1.K 1))) fun y49=>ah (sU y39.1 [(UInt8.ofNat 116),(UInt8.ofNat 109),(UInt8.ofNat 112)] y49) fun y50=>cnd (ieq y50.2 0) (ah (jO y50.1 (dU.mk (wr .i64 (ay y1.1.K 1)) x1.B)) fun y51=>ah (bU (fun v=>bV (len y51.1.b) y51.1.b (wr .i64 (ay y1.1.K 1)) v.1 v.2) LF (0,ig.mk y51.1 y51.2)) fun y52=>cnd (ax (ieq y52.e 0)) (some (y52.d,0,y52.e)) (some (y52.d,wr .i64 (ay y1.1.K 1),0))) (ah (bU (fun v=>bV (len y50.1.b) y50.1.b (wr .i64 (ay y1.1.K 1)) v.1 v.2) LF (0,ig.mk y50.1 y50.2)) fun y53=>cnd (ax (ieq y53.e 0)) (some (y53.d,0,y53.e)) (some (y53.d,wr .i64 (ay y1.1.K 1),0)))) (cnd (ieq y39.2 0) (ah (jO y39.1 (dU.mk (wr .i64 (ay y1.1.K 1)) x1.B)) fun y54=>ah (bU (fun v=>bV (len y54.1.b) y54.1.b (wr .i64 (ay y1.1.K 1)) v.1 v.2) LF (0,ig.mk y54.1 y54.2)) fun y55=>cnd (ax (ieq y55.e 0)) (some (y55.d,0,y55.e)) (some (y55.d,wr .i64 (ay y1.1.K 1),0))) (ah (bU (fun v=>bV (len y39.1.b) y39.1.b (wr .i64 (ay y1.1.K 1)) v.1 v.2) LF (0,ig.mk y39.1 y39.2)) fun y56=>cnd (ax (ieq y56.e 0)) (some (y56.d,0,y56.e)) (some (y56.d,wr .i64 (ay y1.1.K 1),0))))))))))
def Vg:aA:=mkSpec [.val .disk,.val .state] [.val .disk,.int .i64,.int .i64] false (fun x=>Np x.1 x.2)
theorem agj:bY PG 74 Vg:=okP [(134,U4),(135,NM),(136,II),(150,JS),(140,EF),(142,Ia),(145,U7),(144,Td),(147,Vb),(148,MI)] [4095,137,215,138,139,141,143,146] [(74,65530,YD)] ⟨aga,aaG,Uk,WH,Oa,Ul,YV,ae2,agq,aby,azv⟩ (fun K=>⟨fZ K,azv⟩)
def KQ (x0:bD):Option (bD×(List jh)×Int):=ah (Bf x0) fun y0=>cnd (ax (ieq y0.2.2 0)) (some y0) (ah (Np y0.1.disk y0.1.state) fun y1=>cnd (ieq y1.2.2 0) (ah (OQ y0.1.wal y1.1 y0.1.state.B) fun y2=>cnd (ieq y2.2 0) (some (bD.mk y2.1 y0.1.wal y0.1.state y0.1.Y y0.1.feed y1.2.1 y0.1.up,y0.2.1,y2.2)) (cnd y2.1.Q (ah (KP (bD.mk y2.1 y0.1.wal y0.1.state y0.1.Y y0.1.feed y0.1.K y0.1.up)) fun y3=>some (y3,y0.2.1,y2.2)) (some (bD.mk y2.1 y0.1.wal y0.1.state y0.1.Y y0.1.feed y0.1.K y0.1.up,y0.2.1,y2.2)))) (cnd (ieq y1.2.2 0) (some (bD.mk y1.1 y0.1.wal y0.1.state y0.1.Y y0.1.feed y1.2.1 y0.1.up,y0.2.1,y1.2.2)) (cnd y1.1.Q (ah (KP (bD.mk y1.1 y0.1.wal y0.1.state y0.1.Y y0.1.feed y0.1.K y0.1.up)) fun y4=>some (y4,y0.2.1,y1.2.2)) (some (bD.mk y1.1 y0.1.wal y0.1.state y0.1.Y y0.1.feed y0.1.K y0.1.up,y0.2.1,y1.2.2)))))
def Ob:aA:=mkSpec [.val .gate] [.val .gate,.buf .msg,.int .i64] false (fun x=>KQ x)
theorem aam:bY PG 22 Ob:=okN [(17,BL),(74,Vg),(75,Qu),(72,IX)] [4095] ⟨KA,agj,adr,UH,azv⟩
def DU:Option (Bool):=ah (KG 5000 (jQ.mk 50 50 500) 900) fun y0=>ah (FP y0.1 (iJ.mk 1 1 0 0 1 4 2 0 0 0 false 0 0)) fun y1=>ah (Bf y1.1) fun y2=>ah (KU y1.1 (iJ.mk 5 0 0 0 0 0 0 0 0 0 true 0 0)) fun y3=>ah (KQ y3.1) fun y4=>cnd (bor (ilt 0 (len y2.2.1)) (ax (band (band (band (band (band (band (band y0.2 (ieq y1.2 0)) (ieq y2.2.2 0)) (ieq y3.2.2 0)) (ieq y4.2.2 0)) (ieq (len y1.1.Y) 1)) (ieq (len y2.1.Y) 0)) (ieq (len y2.2.1) 1)))) (some (band (band (band (band (band (band (band (band (band (band (band (band y0.2 (ieq y1.2 0)) (ieq y2.2.2 0)) (ieq y3.2.2 0)) (ieq y4.2.2 0)) (ieq (len y1.1.Y) 1)) (ieq (len y2.1.Y) 0)) (ieq (len y2.2.1) 1)) (ieq (aj y2.2.1 0).B 1)) (ieq (len y3.2.1) 1)) y3.1.state.qJ) (ieq y4.1.K 1)) (ieq y2.1.wal.J 1))) none
def G8:aA:=mkSpec [] [.bool] true (fun _=>DU)
theorem Vq:bY PG 8 G8:=okN [(28,Gv),(12,JR),(17,BL),(20,Oz),(22,Ob)] [4095] ⟨VJ,Xd,KA,aaW,aam,azv⟩
def ng (p0:ak) (v0:Int) (v1:Int) (v2:Bool):Option ((Int×Int×Bool) ⊕ ((Bool) ⊕ ((Int×Bool)))):=cnd (ilt v0 (len p0.b)) (cnd (band (ile 0 v0) (ilt v0 (len p0.b))) (cnd (bor (band (ile 0 v0) (ilt v0 (len p0.b))) (ax (ax (ilt 70000 (len (aj p0.b (itn v0)).data))))) (cnd (bor (ilt 70000 (len (aj p0.b (itn v0)).data)) (ilt 100 (len (aj p0.b (itn v0)).name))) (some (.inr (.inl false))) (cnd (band (ile 0 v0) (ilt v0 (len p0.b))) (some (.inl (wr .i64 (ay v0 1),wr .i64 (ay v1 (len (aj p0.b (itn v0)).data)),v2))) none)) none) none) (some (.inr (.inr (v1,v2))))
def O8:dB:=LSh.spec ⟨73,[],[(1,.mp 8 0)],[(8,[.val .disk])],[(4,.int .i64),(3,.int .i64),(2,.bool)],[],[]⟩ [⟨.ret,[(2,.bool)],[],[]⟩,⟨.exit 0,[(3,.int .i64),(2,.bool)],[],[]⟩] (sP [(2,3),(9,34)]) (fun p v=>ng p v.1 v.2.1 v.2.2)
def yB (x0:ak):Option (Bool):=cnd (ilt 70 (len x0.b)) (some false) (ah (bU (fun v=>ng x0 v.1 v.2.1 v.2.2) LF (0,0,false)) fun y0=>dK y0 (fun y1=>some y1) fun y1=>some (ile y1.1 70000))
def GL:aA:=mkSpec [.val .disk] [.bool] true (fun x=>yB x)
theorem VF:bY PG 34 GL:=okP [] [] [(34,122,O8)] trivial (fun K=>⟨fZ K,azv⟩)
def xU (x0:aB):Option (Bool):=some (band (band (band (ile (len x0.a) 70) (ile (len x0.cells) 70)) (ile (len x0.G) 70)) (ile (len x0.W) 70))
def GZ:aA:=mkSpec [.val .state] [.bool] true (fun x=>xU x)
theorem VN:bY PG 35 GZ:=okN [] [] trivial
def yN (x0:bD):Option (Bool):=ah (yB x0.disk) fun y0=>ah (cnd y0 (xU x0.state) (some false)) fun y1=>some (band (band (band (band y0 y1) (ile (len x0.wal.M) 40)) (ile (len x0.Y) 99)) (ile (len x0.feed.F) 99))
def G7:aA:=mkSpec [.val .gate] [.bool] true (fun x=>yN x)
theorem VB:bY PG 9 G7:=okN [(34,GL),(35,GZ)] [] ⟨VF,VN,azv⟩
def uI (x0:Int):Option (Bool):=some (band (ilt 0 x0) (ile x0 1000000000000))
def KY:aA:=mkSpec [.int .i64] [.bool] true (fun x=>uI x)
theorem ZW:bY PG 108 KY:=okN [] [] trivial
def iU (x0:iJ):Option (Bool):=cnd (ieq x0.L 1) (ah (uI x0.order) fun y0=>some (band (band (band (band (band (band (band (band (band y0 (ile 0 x0.y)) (ilt x0.y 8)) (ile 0 x0.z)) (ilt x0.z 8)) (ile 1 x0.X)) (ile x0.X 2)) (ilt 0 x0.N)) (ilt 0 x0.I)) (band (ieq x0.L x0.L) (band (ieq x0.order x0.order) (band (ieq x0.y x0.y) (band (ieq x0.z x0.z) (band (ieq x0.X x0.X) (band (ieq x0.N x0.N) (band (ieq x0.I x0.I) (band (ieq x0.long 0) (band (ieq x0.qX 0) (band (ieq x0.opn 0) (band (beq x0.on false) (band (ieq x0.A 0) (ieq x0.Z 0))))))))))))))) (cnd (ieq x0.L 2) (ah (uI x0.order) fun y1=>some (band (band (band y1 (ilt 0 x0.N)) (ilt 0 x0.I)) (band (ieq x0.L x0.L) (band (ieq x0.order x0.order) (band (ieq x0.y 0) (band (ieq x0.z 0) (band (ieq x0.X 0) (band (ieq x0.N x0.N) (band (ieq x0.I x0.I) (band (ieq x0.long 0) (band (ieq x0.qX 0) (band (ieq x0.opn 0) (band (beq x0.on false) (band (ieq x0.A 0) (ieq x0.Z 0))))))))))))))) (cnd (ieq x0.L 3) (ah (uI x0.order) fun y2=>some (band y2 (band (ieq x0.L x0.L) (band (ieq x0.order x0.order) (band (ieq x0.y 0) (band (ieq x0.z 0) (band (ieq x0.X 0) (band (ieq x0.N 0) (band (ieq x0.I 0) (band (ieq x0.long 0) (band (ieq x0.qX 0) (band (ieq x0.opn 0) (band (beq x0.on false) (band (ieq x0.A 0) (ieq x0.Z 0))))))))))))))) (cnd (ieq x0.L 4) (cnd (band (ieq x0.z (-1)) (bor (ax (ieq x0.long 0)) (ax (ieq x0.qX 0)))) (some false) (some (band (band (band (band (band (band (band (ile 0 x0.y) (ilt x0.y 8)) (ile (-1) x0.z)) (ilt x0.z 8)) (ile 0 x0.long)) (ile 0 x0.qX)) (ile 0 x0.opn)) (band (ieq x0.L x0.L) (band (ieq x0.order 0) (band (ieq x0.y x0.y) (band (ieq x0.z x0.z) (band (ieq x0.X 0) (band (ieq x0.N 0) (band (ieq x0.I 0) (band (ieq x0.long x0.long) (band (ieq x0.qX x0.qX) (band (ieq x0.opn x0.opn) (band (beq x0.on false) (band (ieq x0.A 0) (ieq x0.Z 0)))))))))))))))) (cnd (ieq x0.L 5) (some (band (ieq x0.L x0.L) (band (ieq x0.order 0) (band (ieq x0.y 0) (band (ieq x0.z 0) (band (ieq x0.X 0) (band (ieq x0.N 0) (band (ieq x0.I 0) (band (ieq x0.long 0) (band (ieq x0.qX 0) (band (ieq x0.opn 0) (band (beq x0.on x0.on) (band (ieq x0.A 0) (ieq x0.Z 0)))))))))))))) (cnd (ieq x0.L 6) (ah (cnd (band (band (band (ilt 0 x0.A) (ile x0.A 1000000000)) (ile 1 x0.Z)) (ile x0.Z 6)) (uI x0.order) (some false)) fun y3=>cnd (bor (ieq x0.Z 3) (ieq x0.Z 5)) (cnd (ieq x0.Z 5) (some (band (band (band (band (band (band (band (ilt 0 x0.A) (ile x0.A 1000000000)) (ile 1 x0.Z)) (ile x0.Z 6)) y3) (ilt 0 x0.N)) (ilt 0 x0.I)) (band (ieq x0.L x0.L) (band (ieq x0.order x0.order) (band (ieq x0.y 0) (band (ieq x0.z 0) (band (ieq x0.X 0) (band (ieq x0.N x0.N) (band (ieq x0.I x0.I) (band (ieq x0.long 0) (band (ieq x0.qX 0) (band (ieq x0.opn 0) (band (beq x0.on false) (band (ieq x0.A x0.A) (ieq x0.Z x0.Z))))))))))))))) (some (band (band (band (band (band (band (ilt 0 x0.A) (ile x0.A 1000000000)) (ile 1 x0.Z)) (ile x0.Z 6)) y3) (ilt 0 x0.N)) (band (ieq x0.L x0.L) (band (ieq x0.order x0.order) (band (ieq x0.y 0) (band (ieq x0.z 0) (band (ieq x0.X 0) (band (ieq x0.N x0.N) (band (ieq x0.I 0) (band (ieq x0.long 0) (band (ieq x0.qX 0) (band (ieq x0.opn 0) (band (beq x0.on false) (band (ieq x0.A x0.A) (ieq x0.Z x0.Z)))))))))))))))) (cnd (ieq x0.Z 5) (some (band (band (band (band (band (band (ilt 0 x0.A) (ile x0.A 1000000000)) (ile 1 x0.Z)) (ile x0.Z 6)) y3) (ilt 0 x0.I)) (band (ieq x0.L x0.L) (band (ieq x0.order x0.order) (band (ieq x0.y 0) (band (ieq x0.z 0) (band (ieq x0.X 0) (band (ieq x0.N 0) (band (ieq x0.I x0.I) (band (ieq x0.long 0) (band (ieq x0.qX 0) (band (ieq x0.opn 0) (band (beq x0.on false) (band (ieq x0.A x0.A) (ieq x0.Z x0.Z))))))))))))))) (some (band (band (band (band (band (ilt 0 x0.A) (ile x0.A 1000000000)) (ile 1 x0.Z)) (ile x0.Z 6)) y3) (band (ieq x0.L x0.L) (band (ieq x0.order x0.order) (band (ieq x0.y 0) (band (ieq x0.z 0) (band (ieq x0.X 0) (band (ieq x0.N 0) (band (ieq x0.I 0) (band (ieq x0.long 0) (band (ieq x0.qX 0) (band (ieq x0.opn 0) (band (beq x0.on false) (band (ieq x0.A x0.A) (ieq x0.Z x0.Z))))))))))))))))) (some false))))))
def jw:aA:=mkSpec [.val .recd] [.bool] true (fun x=>iU x)
theorem mX:bY PG 51 jw:=okN [(108,KY)] [] ⟨ZW,azv⟩
def fJ (x0:aC):Option (Bool):=ah (iU (iJ.mk 1 x0.id x0.y x0.z x0.X x0.N x0.I 0 0 0 false 0 0)) fun y0=>cnd (ax y0) (some false) (cnd (bor (bor (ilt x0.H 0) (ilt x0.N x0.H)) (ilt x0.O 0)) (some false) (cnd (band (ax (band (ieq x0.V 0) (ieq x0.U 0))) (bor (ilt x0.V 1) (ilt x0.U 1))) (some false) (cnd (ieq x0.P 1) (some (band (band (band (ieq x0.V 0) (ieq x0.U 0)) (ieq x0.H 0)) (ieq x0.O 0))) (cnd (ieq x0.P 2) (some (ax (ieq x0.H x0.N))) (some (band (ieq x0.P 3) (band (ieq x0.V 0) (ieq x0.U 0))))))))
def iM:aA:=mkSpec [.val .order] [.bool] true (fun x=>fJ x)
theorem kE:bY PG 102 iM:=okN [(51,jw)] [] ⟨mX,azv⟩
def yO (x0:jQ):Option (Bool):=some (band (band (ile 0 x0.long) (ile 0 x0.qX)) (ile 0 x0.opn))
def GV:aA:=mkSpec [.val .expo] [.bool] true (fun x=>yO x)
theorem Vu:bY PG 103 GV:=okN [] [] trivial
def tJ (x0:Int):Option (Int):=cnd (ilt x0 0) (some (wr .u64 (ay (wr .u64 (wr .i64 (aO 0 (wr .i64 (ay x0 1))))) 1))) (some (wr .u64 x0))
def Hl:aA:=mkSpec [.int .i64] [.int .u64] true (fun x=>tJ x)
theorem Vz:bY PG 307 Hl:=okN [] [] trivial
def wV (x0:Int) (x1:Int):Option (Int×Bool):=ah (tJ x0) fun y0=>ah (tJ x1) fun y1=>cnd (band (ilt 0 (dw .u64 y0 32)) (ilt 0 (dw .u64 y1 32))) (some (0,false)) (cnd (ile 4294967296 (wr .u64 (ay (wr .u64 (dA (dw .u64 y0 32) (wr .u64 (jT .u64 y1 4294967295)))) (wr .u64 (dA (wr .u64 (jT .u64 y0 4294967295)) (dw .u64 y1 32)))))) (some (0,false)) (cnd (bor (ilt (wr .u64 (ay (wr .u64 (sV .u64 (wr .u64 (ay (wr .u64 (dA (dw .u64 y0 32) (wr .u64 (jT .u64 y1 4294967295)))) (wr .u64 (dA (wr .u64 (jT .u64 y0 4294967295)) (dw .u64 y1 32))))) 32)) (wr .u64 (dA (wr .u64 (jT .u64 y0 4294967295)) (wr .u64 (jT .u64 y1 4294967295)))))) (wr .u64 (dA (wr .u64 (jT .u64 y0 4294967295)) (wr .u64 (jT .u64 y1 4294967295))))) (ilt 9223372036854775808 (wr .u64 (ay (wr .u64 (sV .u64 (wr .u64 (ay (wr .u64 (dA (dw .u64 y0 32) (wr .u64 (jT .u64 y1 4294967295)))) (wr .u64 (dA (wr .u64 (jT .u64 y0 4294967295)) (dw .u64 y1 32))))) 32)) (wr .u64 (dA (wr .u64 (jT .u64 y0 4294967295)) (wr .u64 (jT .u64 y1 4294967295)))))))) (some (0,false)) (cnd (ax (beq (ilt x0 0) (ilt x1 0))) (some (wr .i64 (wr .u64 (aO 0 (wr .u64 (ay (wr .u64 (sV .u64 (wr .u64 (ay (wr .u64 (dA (dw .u64 y0 32) (wr .u64 (jT .u64 y1 4294967295)))) (wr .u64 (dA (wr .u64 (jT .u64 y0 4294967295)) (dw .u64 y1 32))))) 32)) (wr .u64 (dA (wr .u64 (jT .u64 y0 4294967295)) (wr .u64 (jT .u64 y1 4294967295)))))))),true)) (some (wr .i64 (wr .u64 (ay (wr .u64 (sV .u64 (wr .u64 (ay (wr .u64 (dA (dw .u64 y0 32) (wr .u64 (jT .u64 y1 4294967295)))) (wr .u64 (dA (wr .u64 (jT .u64 y0 4294967295)) (dw .u64 y1 32))))) 32)) (wr .u64 (dA (wr .u64 (jT .u64 y0 4294967295)) (wr .u64 (jT .u64 y1 4294967295)))))),ilt (wr .u64 (ay (wr .u64 (sV .u64 (wr .u64 (ay (wr .u64 (dA (dw .u64 y0 32) (wr .u64 (jT .u64 y1 4294967295)))) (wr .u64 (dA (wr .u64 (jT .u64 y0 4294967295)) (dw .u64 y1 32))))) 32)) (wr .u64 (dA (wr .u64 (jT .u64 y0 4294967295)) (wr .u64 (jT .u64 y1 4294967295)))))) 9223372036854775808)))))
def Jl:aA:=mkSpec [.int .i64,.int .i64] [.int .i64,.bool] true (fun x=>wV x.1 x.2)
theorem Yv:bY PG 266 Jl:=okN [(307,Hl)] [] ⟨Vz,azv⟩
def yE (x0:aC):Option (Int×Int):=ah (fJ x0) fun y0=>cnd (ax y0) (some (0,1)) (cnd (ieq x0.P 3) (some (0,0)) (ah (wV (wr .i64 (aO x0.N x0.H)) x0.I) fun y1=>cnd (ax y1.2) (some (0,3)) (cnd (ilt x0.H x0.V) (ah (wV (wr .i64 (aO x0.V x0.H)) x0.U) fun y2=>cnd (ax y2.2) (some (0,3)) (cnd (ilt y1.1 y2.1) (some (y2.1,0)) (some (y1.1,0)))) (some (y1.1,0)))))
def Gp:aA:=mkSpec [.val .order] [.int .i64,.int .i64] true (fun x=>yE x)
theorem Vy:bY PG 182 Gp:=okN [(102,iM),(266,Jl)] [] ⟨kE,Yv,azv⟩
def lH (x0:Int) (x1:Int):Option (Int×Bool):=cnd (bor (band (ilt 0 x1) (ilt (wr .i64 (aO 9223372036854775807 x1)) x0)) (band (ilt x1 0) (ilt x0 (wr .i64 (aO (-9223372036854775808) x1))))) (some (0,false)) (some (wr .i64 (ay x0 x1),true))
def xw:aA:=mkSpec [.int .i64,.int .i64] [.int .i64,.bool] true (fun x=>lH x.1 x.2)
theorem EQ:bY PG 183 xw:=okN [] [] trivial
def uP (x0:aC):Option (Int):=ah (fJ x0) fun y0=>cnd (bor (ax y0) (ieq x0.P 3)) (some 0) (cnd (ilt x0.N x0.V) (some (wr .i64 (aO x0.V x0.H))) (some (wr .i64 (aO x0.N x0.H))))
def Iy:aA:=mkSpec [.val .order] [.int .i64] true (fun x=>uP x)
theorem Xp:bY PG 184 Iy:=okN [(102,iM)] [] ⟨kE,azv⟩
def Bo (x0:Int) (x1:Int):Option (Int×Bool):=cnd (bor (band (ilt x1 0) (ilt (wr .i64 (ay 9223372036854775807 x1)) x0)) (band (ilt 0 x1) (ilt x0 (wr .i64 (ay (-9223372036854775808) x1))))) (some (0,false)) (some (wr .i64 (aO x0 x1),true))
def Jq:aA:=mkSpec [.int .i64,.int .i64] [.int .i64,.bool] true (fun x=>Bo x.1 x.2)
theorem Yq:bY PG 267 Jq:=okN [] [] trivial
def yD (x0:bF):Option (Bool):=ah (lH x0.pos x0.buy) fun y0=>ah (Bo x0.qK x0.pos) fun y1=>some (band (band (band (band y0.2 y1.2) (ile 0 x0.buy)) (ile 0 x0.qK)) (ile 0 x0.opn))
def G6:aA:=mkSpec [.val .cell] [.bool] true (fun x=>yD x)
theorem Vx:bY PG 185 G6:=okN [(183,xw),(267,Jq)] [] ⟨EQ,Yq,azv⟩
def pI (p0:(List bF)) (v0:Int) (v1:Int) (v2:Bool) (v3:Int):Option ((Int×Int×Bool×Int) ⊕ ((Bool×Int) ⊕ ((Int×Bool×Int)))):=cnd (ilt v0 (len p0)) (cnd (band (ile 0 v0) (ilt v0 (len p0))) (ah (lH v1 (aj p0 (itn v0)).opn) fun y0=>cnd (ax y0.2) (some (.inr (.inl (false,0)))) (some (.inl (wr .i64 (ay v0 1),y0.1,v2,v3)))) none) (some (.inr (.inr (v1,v2,v3))))
def Ri:dB:=LSh.spec ⟨69,[(0,.ro .cell)],[],[],[(5,.int .i64),(4,.int .i64),(3,.bool),(2,.int .i64)],[],[]⟩ [⟨.ret,[(3,.bool),(2,.int .i64)],[],[]⟩,⟨.exit 0,[(4,.int .i64),(3,.bool),(2,.int .i64)],[],[]⟩] (sP [(2,25)]) (fun p v=>pI p v.1 v.2.1 v.2.2.1 v.2.2.2)
def pz (x0:(List bF)):Option (Int×Bool):=ah (bU (fun v=>pI x0 v.1 v.2.1 v.2.2.1 v.2.2.2) LF (0,0,false,0)) fun y0=>dK y0 (fun y1=>some (y1.2,y1.1)) fun y1=>some (y1.1,true)
def zX:aA:=mkSpec [.ro .cell] [.int .i64,.bool] true (fun x=>pz x)
theorem Jp:bY PG 186 zX:=okP [(183,xw)] [] [(186,58,Ri)] ⟨EQ,azv⟩ (fun K=>⟨fZ K,azv⟩)
def kW (p0:Int) (p1:aB) (v0:Int) (v1:Bool) (v2:(List bF)) (v3:bF):Option ((Int×Bool×(List bF)×bF) ⊕ ((Bool×(List bF)×bF) ⊕ ((Bool×(List bF)×bF)))):=cnd (ilt v0 (len p1.a)) (cnd (band (ile 0 v0) (ilt v0 (len p1.a))) (cnd (ax (ieq (wr .i64 (ay (wr .i64 (dA (aj p1.a (itn v0)).y p1.i)) (aj p1.a (itn v0)).z)) p0)) (some (.inl (wr .i64 (ay v0 1),v1,v2,v3))) (ah (yE (aj p1.a (itn v0))) fun y0=>ah (lH v3.opn y0.1) fun y1=>cnd (ieq (aj p1.a (itn v0)).X 1) (ah (uP (aj p1.a (itn v0))) fun y2=>ah (lH v3.buy y2) fun y3=>cnd (bor (bor (ax (ieq y0.2 0)) (ax y1.2)) (ax y3.2)) (some (.inr (.inl (false,[],v3)))) (some (.inl (wr .i64 (ay v0 1),v1,v2,bF.mk v3.pos y3.1 v3.qK y1.1)))) (ah (uP (aj p1.a (itn v0))) fun y4=>ah (lH v3.qK y4) fun y5=>cnd (bor (bor (ax (ieq y0.2 0)) (ax y1.2)) (ax y5.2)) (some (.inr (.inl (false,[],v3)))) (some (.inl (wr .i64 (ay v0 1),v1,v2,bF.mk v3.pos v3.buy y5.1 y1.1)))))) none) (some (.inr (.inr (v1,v2,v3))))
def Nq:dB:=LSh.spec ⟨153,[(5,.int .i64)],[(6,.mp 688 0),(1,.mp 8 0)],[(8,[.val .state])],[(7,.int .i64),(3,.bool),(2,.buf .cell)],[(688,[.val .cell])],[]⟩ [⟨.ret,[(3,.bool),(2,.buf .cell)],[(688,[.val .cell])],[]⟩,⟨.exit 2,[(3,.bool),(2,.buf .cell)],[(688,[.val .cell])],[]⟩] (sP [(2,2),(7,9),(33,73)]) (fun p v=>kW p.1 p.2 v.1 v.2.1 v.2.2.1 v.2.2.2)
def pW (p0:aB) (v0:Int) (v1:(List bF)) (v2:Bool) (v3:(List bF)):Option ((Int×(List bF)×Bool×(List bF)) ⊕ ((Bool×(List bF)) ⊕ (((List bF)×Bool×(List bF))))):=cnd (ilt v0 (len p0.cells)) (cnd (band (ile 0 v0) (ilt v0 (len p0.cells))) (ah (bU (fun v=>kW v0 p0 v.1 v.2.1 v.2.2.1 v.2.2.2) LF (0,v2,v3,bF.mk (aj p0.cells (itn v0)).pos 0 0 0)) fun y0=>dK y0 (fun y1=>some (.inr (.inl (y1.1,y1.2.1)))) fun y1=>ah (yD y1.2.2) fun y2=>cnd (ax y2) (some (.inr (.inl (false,[])))) (cnd (ile (len (aJ v1 [y1.2.2])) 68719476736) (some (.inl (wr .i64 (ay v0 1),aJ v1 [y1.2.2],y1.1,y1.2.1))) none)) none) (some (.inr (.inr (v1,v2,v3))))
def QG:dB:=LSh.spec ⟨70,[],[(1,.mp 8 0)],[(8,[.val .state])],[(5,.int .i64),(4,.buf .cell),(3,.bool),(2,.buf .cell)],[],[]⟩ [⟨.ret,[(3,.bool),(2,.buf .cell)],[],[]⟩,⟨.exit 0,[(4,.buf .cell),(3,.bool),(2,.buf .cell)],[],[]⟩] (sP [(2,14),(19,94)]) (fun p v=>pW p v.1 v.2.1 v.2.2.1 v.2.2.2)
def ny (p0:(List bF)) (p1:aB) (v0:Int) (v1:Bool) (v2:(List bF)):Option ((Int×Bool×(List bF)) ⊕ ((Bool×(List bF)) ⊕ ((Bool×(List bF))))):=cnd (ilt v0 p1.t) (cnd (band (band (ile 0 (wr .i64 (dA v0 p1.i))) (ile (wr .i64 (dA v0 p1.i)) (wr .i64 (dA (wr .i64 (ay v0 1)) p1.i)))) (ile (wr .i64 (dA (wr .i64 (ay v0 1)) p1.i)) (len p0))) (ah (pz (aV (bZ p0 (itn (wr .i64 (dA v0 p1.i)))) (itn (aO (wr .i64 (dA (wr .i64 (ay v0 1)) p1.i)) (wr .i64 (dA v0 p1.i)))))) fun y0=>cnd (ax y0.2) (some (.inr (.inl (false,[])))) (some (.inl (wr .i64 (ay v0 1),v1,v2)))) none) (some (.inr (.inr (v1,v2))))
def Pj:dB:=LSh.spec ⟨142,[(4,.ro .cell)],[(1,.mp 8 0)],[(8,[.val .state])],[(16,.int .i64),(3,.bool),(2,.buf .cell)],[],[]⟩ [⟨.ret,[(3,.bool),(2,.buf .cell)],[],[]⟩,⟨.exit 4,[(3,.bool),(2,.buf .cell)],[],[]⟩] (sP [(2,2),(16,3),(113,23)]) (fun p v=>ny p.1 p.2 v.1 v.2.1 v.2.2)
def tK (x0:aB):Option ((List bF)×Bool):=ah (bU (fun v=>pW x0 v.1 v.2.1 v.2.2.1 v.2.2.2) LF (0,[],false,[])) fun y0=>dK y0 (fun y1=>some (y1.2,y1.1)) fun y1=>ah (bU (fun v=>ny y1.1 x0 v.1 v.2.1 v.2.2) LF (0,y1.2)) fun y2=>dK y2 (fun y3=>some (y3.2,y3.1)) fun y3=>some (y1.1,true)
def Aj:aA:=mkSpec [.val .state] [.ro .cell,.bool] false (fun x=>tK x)
theorem Jt:bY PG 104 Aj:=okP [(182,Gp),(183,xw),(184,Iy),(185,G6),(186,zX)] [] [(104,14922,Nq),(104,58,QG),(104,122,Pj)] ⟨Vy,EQ,Xp,Vx,Jp,azv⟩ (fun K=>⟨fZ K,fZ K,fZ K,azv⟩)
def nG (p0:aB) (v0:Int) (v1:Bool):Option ((Int×Bool) ⊕ ((Bool) ⊕ ((Bool)))):=cnd (ilt v0 (len p0.a)) (cnd (band (ile 0 v0) (ilt v0 (len p0.a))) (ah (fJ (aj p0.a (itn v0))) fun y0=>cnd (bor (band (ile 0 (wr .i64 (aO v0 1))) (ilt (wr .i64 (aO v0 1)) (len p0.a))) (ax (band (ax (bor (bor (bor (bor (ax y0) (ieq (aj p0.a (itn v0)).P 3)) (ile p0.t (aj p0.a (itn v0)).y)) (ile p0.i (aj p0.a (itn v0)).z)) (ilt p0.S (aj p0.a (itn v0)).id))) (ilt 0 v0)))) (cnd (bor (bor (bor (bor (bor (ax y0) (ieq (aj p0.a (itn v0)).P 3)) (ile p0.t (aj p0.a (itn v0)).y)) (ile p0.i (aj p0.a (itn v0)).z)) (ilt p0.S (aj p0.a (itn v0)).id)) (band (ilt 0 v0) (ile (aj p0.a (itn v0)).id (aj p0.a (itn (wr .i64 (aO v0 1)))).id))) (some (.inr (.inl false))) (some (.inl (wr .i64 (ay v0 1),v1)))) none) none) (some (.inr (.inr v1)))
def O1:dB:=LSh.spec ⟨150,[],[(1,.mp 8 0)],[(8,[.val .state])],[(3,.int .i64),(2,.bool)],[],[]⟩ [⟨.ret,[(2,.bool)],[],[]⟩,⟨.exit 0,[(2,.bool)],[],[]⟩] (sP [(2,3),(92,57)]) (fun p v=>nG p v.1 v.2)
def nI (p0:aB) (v0:Int) (v1:Bool):Option ((Int×Bool) ⊕ ((Bool) ⊕ ((Bool)))):=cnd (ilt v0 (len p0.G)) (cnd (band (ile 0 v0) (ilt v0 (len p0.G))) (ah (yO (aj p0.G (itn v0))) fun y0=>cnd (ax y0) (some (.inr (.inl false))) (some (.inl (wr .i64 (ay v0 1),v1)))) none) (some (.inr (.inr v1)))
def Pn:dB:=LSh.spec ⟨218,[],[(1,.mp 8 0)],[(8,[.val .state])],[(5,.int .i64),(2,.bool)],[],[]⟩ [⟨.ret,[(2,.bool)],[],[]⟩,⟨.exit 2,[(2,.bool)],[],[]⟩] (sP [(2,1),(5,1),(149,14)]) (fun p v=>nI p v.1 v.2)
def nN (p0:aB) (v0:Int) (v1:Bool):Option ((Int×Bool) ⊕ ((Bool) ⊕ ((Bool)))):=cnd (ilt v0 (len p0.W)) (cnd (band (ile 0 v0) (ilt v0 (len p0.W))) (cnd (ilt (aj p0.W (itn v0)) 0) (some (.inr (.inl false))) (some (.inl (wr .i64 (ay v0 1),v1)))) none) (some (.inr (.inr v1)))
def O6:dB:=LSh.spec ⟨286,[],[(1,.mp 8 0)],[(8,[.val .state])],[(6,.int .i64),(2,.bool)],[],[]⟩ [⟨.ret,[(2,.bool)],[],[]⟩,⟨.exit 4,[(2,.bool)],[],[]⟩] (sP [(2,1),(6,1),(163,13)]) (fun p v=>nN p v.1 v.2)
def lZ (p0:(List bF)) (p1:aB) (v0:Int) (v1:Bool):Option ((Int×Bool) ⊕ ((Bool) ⊕ ((Bool)))):=cnd (ilt v0 (len p0)) (cnd (band (ile 0 v0) (ilt v0 (len p0))) (cnd (band (ile 0 v0) (ilt v0 (len p1.cells))) (cnd (ax (band (ieq (aj p0 (itn v0)).pos (aj p1.cells (itn v0)).pos) (band (ieq (aj p0 (itn v0)).buy (aj p1.cells (itn v0)).buy) (band (ieq (aj p0 (itn v0)).qK (aj p1.cells (itn v0)).qK) (ieq (aj p0 (itn v0)).opn (aj p1.cells (itn v0)).opn))))) (some (.inr (.inl false))) (some (.inl (wr .i64 (ay v0 1),v1)))) none) none) (some (.inr (.inr v1)))
def OO:dB:=LSh.spec ⟨363,[(7,.ro .cell)],[(1,.mp 8 0)],[(8,[.val .state])],[(9,.int .i64),(2,.bool)],[],[]⟩ [⟨.ret,[(2,.bool)],[],[]⟩,⟨.exit 6,[(2,.bool)],[],[]⟩] (sP [(2,1),(9,1),(183,16)]) (fun p v=>lZ p.1 p.2 v.1 v.2)
def oL (x0:aB):Option (Bool):=cnd (bor (bor (bor (bor (bor (bor (bor (ilt x0.t 1) (ilt 8 x0.t)) (ilt x0.i 1)) (ilt 8 x0.i)) (ax (ieq (len x0.cells) (wr .i64 (dA x0.t x0.i))))) (ax (ieq (len x0.G) (wr .i64 (dA x0.t x0.i))))) (ax (ieq (len x0.W) x0.t))) (ilt 64 (len x0.a))) (some false) (cnd (bor (bor (bor (bor (bor (ilt x0.S 0) (ilt 1000000000000 x0.S)) (ilt x0.A 0)) (ilt 1000000000 x0.A)) (ilt x0.B 0)) (ilt 1000000000 x0.B)) (some false) (ah (bU (fun v=>nG x0 v.1 v.2) LF (0,false)) fun y0=>dK y0 (fun y1=>some y1) fun y1=>ah (bU (fun v=>nI x0 v.1 v.2) LF (0,y1)) fun y2=>dK y2 (fun y3=>some y3) fun y3=>ah (bU (fun v=>nN x0 v.1 v.2) LF (0,y3)) fun y4=>dK y4 (fun y5=>some y5) fun y5=>ah (tK x0) fun y6=>cnd (ax y6.2) (some false) (ah (bU (fun v=>lZ y6.1 x0 v.1 v.2) LF (0,y5)) fun y7=>dK y7 (fun y8=>some y8) fun y8=>some true)))
def uG:aA:=mkSpec [.val .state] [.bool] true (fun x=>oL x)
theorem CB:bY PG 46 uG:=okP [(102,iM),(103,GV),(104,Aj)] [] [(46,122,O1),(46,250,Pn),(46,506,O6),(46,4090,OO)] ⟨kE,Vu,Jt,azv⟩ (fun K=>⟨fZ K,fZ K,fZ K,fZ K,azv⟩)
def yH (x0:fE):Option (Bool):=some (band (band (band (band (band (ilt 0 x0.q9) (ile x0.q9 1000000)) (ilt 0 x0.B)) (ile x0.B 1000000000)) (ilt 0 x0.L)) (ilt x0.L 7))
def GU:aA:=mkSpec [.val .frame] [.bool] true (fun x=>yH x)
theorem VO:bY PG 187 GU:=okN [] [] trivial
def rV (p0:(List fE)) (p1:Int) (p2:Int) (v0:Int) (v1:Bool):Option ((Int×Bool) ⊕ ((Bool) ⊕ ((Bool)))):=cnd (ilt v0 (len p0)) (cnd (band (ile 0 v0) (ilt v0 (len p0))) (ah (yH (aj p0 (itn v0))) fun y0=>cnd (ax y0) (some (.inr (.inl false))) (cnd (bor (ilt 0 (len p0)) (ax (ieq v0 0))) (cnd (bor (ilt 0 (len p0)) (ax (band (ieq v0 0) (ax (ax (ieq (aj p0 0).B p1)))))) (cnd (bor (band (ile 0 v0) (ilt v0 (len p0))) (ax (band (ax (band (ieq v0 0) (bor (ax (ieq (aj p0 0).B p1)) (ilt (aj p0 0).q9 p2)))) (ilt 0 v0)))) (cnd (bor (band (ile 0 (wr .i64 (aO v0 1))) (ilt (wr .i64 (aO v0 1)) (len p0))) (ax (band (ax (band (ieq v0 0) (bor (ax (ieq (aj p0 0).B p1)) (ilt (aj p0 0).q9 p2)))) (ilt 0 v0)))) (cnd (bor (band (ile 0 v0) (ilt v0 (len p0))) (ax (band (band (ax (band (ieq v0 0) (bor (ax (ieq (aj p0 0).B p1)) (ilt (aj p0 0).q9 p2)))) (ilt 0 v0)) (ax (ax (ieq (aj p0 (itn v0)).B (wr .i64 (ay (aj p0 (itn (wr .i64 (aO v0 1)))).B 1)))))))) (cnd (bor (band (ile 0 (wr .i64 (aO v0 1))) (ilt (wr .i64 (aO v0 1)) (len p0))) (ax (band (band (ax (band (ieq v0 0) (bor (ax (ieq (aj p0 0).B p1)) (ilt (aj p0 0).q9 p2)))) (ilt 0 v0)) (ax (ax (ieq (aj p0 (itn v0)).B (wr .i64 (ay (aj p0 (itn (wr .i64 (aO v0 1)))).B 1)))))))) (cnd (bor (band (ieq v0 0) (bor (ax (ieq (aj p0 0).B p1)) (ilt (aj p0 0).q9 p2))) (band (ilt 0 v0) (bor (ax (ieq (aj p0 (itn v0)).B (wr .i64 (ay (aj p0 (itn (wr .i64 (aO v0 1)))).B 1)))) (ilt (aj p0 (itn v0)).q9 (aj p0 (itn (wr .i64 (aO v0 1)))).q9)))) (some (.inr (.inl false))) (some (.inl (wr .i64 (ay v0 1),v1)))) none) none) none) none) none) none)) none) (some (.inr (.inr v1)))
def TN:dB:=LSh.spec ⟨69,[(0,.ro .frame),(1,.int .i64),(2,.int .i64)],[],[],[(7,.int .i64),(6,.bool)],[],[]⟩ [⟨.ret,[(6,.bool)],[],[]⟩,⟨.exit 0,[(6,.bool)],[],[]⟩] (sP [(6,65)]) (fun p v=>rV p.1 p.2.1 p.2.2 v.1 v.2)
def Aw (x0:(List fE)) (x1:Int) (x2:Int):Option (Bool):=ah (bU (fun v=>rV x0 x1 x2 v.1 v.2) LF (0,false)) fun y0=>dK y0 (fun y1=>some y1) fun y1=>some true
def Ji:aA:=mkSpec [.ro .frame,.int .i64,.int .i64] [.bool] true (fun x=>Aw x.1 x.2.1 x.2.2)
theorem Yz:bY PG 105 Ji:=okP [(187,GU)] [] [(105,26,TN)] ⟨VO,azv⟩ (fun K=>⟨fZ K,azv⟩)
def nK (p0:dR) (v0:Int) (v1:Bool):Option ((Int×Bool) ⊕ ((Bool) ⊕ ((Bool)))):=cnd (ilt v0 (len p0.M)) (cnd (band (ile 0 v0) (ilt v0 (len p0.M))) (cnd (ax (ieq (aj p0.M (itn v0)).q9 p0.q9)) (some (.inr (.inl false))) (some (.inl (wr .i64 (ay v0 1),v1)))) none) (some (.inr (.inr v1)))
def Pe:dB:=LSh.spec ⟨124,[],[(1,.mp 8 0)],[(8,[.val .wal])],[(3,.int .i64),(2,.bool)],[],[]⟩ [⟨.ret,[(2,.bool)],[],[]⟩,⟨.exit 0,[(2,.bool)],[],[]⟩] (sP [(2,2),(60,16)]) (fun p v=>nK p v.1 v.2)
def pR (x0:dR):Option (Bool):=cnd (bor (bor (bor (bor (bor (bor (ilt x0.q9 1) (ilt 1000000 x0.q9)) (ilt x0.next 1)) (ilt 1000000001 x0.next)) (ilt x0.J 0)) (ilt (wr .i64 (aO x0.next 1)) x0.J)) (ilt 32 (len x0.M))) (some false) (ah (cnd (ax (ax (ieq (len x0.M) (wr .i64 (aO (wr .i64 (aO x0.next x0.J)) 1))))) (Aw x0.M (wr .i64 (ay x0.J 1)) 0) (some false)) fun y0=>cnd (bor (ax (ieq (len x0.M) (wr .i64 (aO (wr .i64 (aO x0.next x0.J)) 1)))) (ax y0)) (some false) (ah (bU (fun v=>nK x0 v.1 v.2) LF (0,false)) fun y1=>dK y1 (fun y2=>some y2) fun y2=>cnd (band (ieq x0.seg 0) (ieq x0.qQ 0)) (some true) (some (band (band (band (band (ile 1 x0.seg) (ile x0.seg 1000000001)) (ile 1 x0.qQ)) (ile x0.qQ 8)) (ieq (wr .i64 (ay x0.seg x0.qQ)) (wr .i64 (ay x0.J 1)))))))
def uH:aA:=mkSpec [.val .wal] [.bool] true (fun x=>pR x)
theorem Cc:bY PG 47 uH:=okP [(105,Ji)] [] [(47,122,Pe)] ⟨Yz,azv⟩ (fun K=>⟨fZ K,azv⟩)
end
end Go.Av
