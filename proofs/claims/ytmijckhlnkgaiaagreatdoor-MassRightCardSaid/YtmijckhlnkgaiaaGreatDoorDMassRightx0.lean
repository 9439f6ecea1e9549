/- The functions that this claim reaches, each as a plain function; each is what its text comes to. No condition. -/
import Derived.Test.YtmijckhlnkgaiaaGreatDoorAvE
import Derived.Test.YtmijckhlnkgaiaaGreatDoorProg
import Derived.KernelRfl
import Derived.Laws.RangeAny
import Derived.Shelf.Small.Wraps
import Derived.WalkKit
import Derived.RangeFuncNested
import Derived.RangeFuncBound
import Derived.RangeFuncCalls
import Derived.RangeFuncLeaves
import Derived.Shelf.Abstract
import Derived.Shelf.RegionOpen
import Derived.OwnWalkIn
import Derived.TacticsInMore
import Derived.LoopNIn
import Derived.LoopIn
set_option linter.unusedVariables false
set_option linter.unusedSimpArgs false
set_option linter.unnecessarySimpa false
namespace Go.Av
open Go
def arS:List (Nat×E):=[(2,.i64),(3,.i64),(4,.bool),(5,.u8),(6,.u8),(9,.str),(10,.str),(11,.str),(24,.disk),(27,.wal),(33,.state),(37,.feed),(39,.gate),(45,.i64),(49,.went),(57,.msg),(59,.recd),(65,.expo),(70,.order),(97,.sleeper),(110,.note),(119,.bts),(121,.file),(124,.cell),(127,.state),(152,.a6),(163,.frame),(210,.slot),(221,.piece),(224,.mender),(235,.next),(281,.reader),(311,.a20),(336,.bts),(349,.a3),(361,.bts),(385,.u8),(386,.u8)]
def ety (t:Nat):Option E:=look arS t
noncomputable abbrev PG:Program:=Go.Proofs.Tryz.prog
end Go.Av
namespace Go.Av
open Go
noncomputable section
theorem arG:EOk PG 2 .i64:=jb (by kernel_rfl) (by kernel_rfl)
theorem arH:EOk PG 3 .i64:=jb (by kernel_rfl) (by kernel_rfl)
theorem ar2:EOk PG 4 .bool:=jb (by kernel_rfl) (by kernel_rfl)
theorem arv:EOk PG 5 .u8:=jb (by kernel_rfl) (by kernel_rfl)
theorem aru:EOk PG 6 .u8:=jb (by kernel_rfl) (by kernel_rfl)
theorem arE:EOk PG 9 .str:=jb (by kernel_rfl) (by kernel_rfl)
theorem aqV:EOk PG 10 .str:=jb (by kernel_rfl) (by kernel_rfl)
theorem aqG:EOk PG 11 .str:=jb (by kernel_rfl) (by kernel_rfl)
theorem aqC:EOk PG 24 .disk:=jb (by kernel_rfl) (by kernel_rfl)
theorem aqm:EOk PG 27 .wal:=jb (by kernel_rfl) (by kernel_rfl)
theorem aqT:EOk PG 33 .state:=jb (by kernel_rfl) (by kernel_rfl)
theorem aqY:EOk PG 37 .feed:=jb (by kernel_rfl) (by kernel_rfl)
theorem ap8:EOk PG 39 .gate:=jb (by kernel_rfl) (by kernel_rfl)
theorem aqK:EOk PG 45 .i64:=jb (by kernel_rfl) (by kernel_rfl)
theorem aq2:EOk PG 49 .went:=jb (by kernel_rfl) (by kernel_rfl)
theorem aqk:EOk PG 57 .msg:=jb (by kernel_rfl) (by kernel_rfl)
theorem arb:EOk PG 59 .recd:=jb (by kernel_rfl) (by kernel_rfl)
theorem arf:EOk PG 65 .expo:=jb (by kernel_rfl) (by kernel_rfl)
theorem aq9:EOk PG 70 .order:=jb (by kernel_rfl) (by kernel_rfl)
theorem arp:EOk PG 97 .sleeper:=jb (by kernel_rfl) (by kernel_rfl)
theorem apt:EOk PG 110 .note:=jb (by kernel_rfl) (by kernel_rfl)
theorem apE:EOk PG 119 .bts:=jb (by kernel_rfl) (by kernel_rfl)
theorem aph:EOk PG 121 .file:=jb (by kernel_rfl) (by kernel_rfl)
theorem aou:EOk PG 124 .cell:=jb (by kernel_rfl) (by kernel_rfl)
theorem ao8:EOk PG 127 .state:=jb (by kernel_rfl) (by kernel_rfl)
theorem apo:EOk PG 152 .a6:=jb (by kernel_rfl) (by kernel_rfl)
theorem apw:EOk PG 163 .frame:=jb (by kernel_rfl) (by kernel_rfl)
theorem aoV:EOk PG 210 .slot:=jb (by kernel_rfl) (by kernel_rfl)
theorem apI:EOk PG 221 .piece:=jb (by kernel_rfl) (by kernel_rfl)
theorem apL:EOk PG 224 .mender:=jb (by kernel_rfl) (by kernel_rfl)
theorem aoF:EOk PG 235 .next:=jb (by kernel_rfl) (by kernel_rfl)
theorem apM:EOk PG 281 .reader:=jb (by kernel_rfl) (by kernel_rfl)
theorem aoK:EOk PG 311 .a20:=jb (by kernel_rfl) (by kernel_rfl)
theorem ao7:EOk PG 336 .bts:=jb (by kernel_rfl) (by kernel_rfl)
theorem apr:EOk PG 349 .a3:=jb (by kernel_rfl) (by kernel_rfl)
theorem apg:EOk PG 361 .bts:=jb (by kernel_rfl) (by kernel_rfl)
theorem aor:EOk PG 385 .u8:=jb (by kernel_rfl) (by kernel_rfl)
theorem aos:EOk PG 386 .u8:=jb (by kernel_rfl) (by kernel_rfl)
theorem G7:KE PG arS:=⟨by kernel_rfl,⟨arG,arH,ar2,arv,aru,arE,aqV,aqG,aqC,aqm,aqT,aqY,ap8,aqK,aq2,aqk,arb,arf,aq9,arp,apt,apE,aph,aou,ao8,apo,apw,aoV,apI,apL,aoF,apM,aoK,ao7,apr,apg,aor,aos,trivial⟩,by kernel_rfl,by kernel_rfl,by kernel_rfl⟩
end
end Go.Av
namespace Go.Av
open Go
noncomputable section
def cX (l:List (Nat×aA)) (i:List Nat) (p:List (Nat×Nat×dm)):Cx:={ P:=PG,ety:=ety,fn:=look l,inl:=aoT i,lp:=UM p }
theorem cxK {l:List (Nat×aA)} {i:List Nat} {p:List (Nat×Nat×dm)} (h:XM PG l):CxR (cX l i p):=G7.cx (fun _=>rfl) h
theorem okP {f:Nat} {xs rs:List Sh} {s:Bool} {run:Tup xs->Option (Tup rs)} (l:List (Nat×aA)) (i:List Nat) (p:List (Nat×Nat×dm)) (h:XM PG l) (hp:CxR (cX l i p)->Wn (cX l i p) p)
 (hr:∀x,aeC (cX l i p) f xs rs x=run x) (hb:hasB PG f=true:=by kernel_rfl) (h3:(Nat.ble rs.length 8&&(xs.all afL&&rs.all afL))=true:=by kernel_rfl) (h4:(!s||rs.all W9)=true:=by kernel_rfl):bJ PG f (mkSpec xs rs s run):=
 ahN (cxK h) (TN (l:=p) rfl (hp (cxK h))) hb (fun x y e=>(hr x).trans e) h3 h4
theorem okN {f:Nat} {xs rs:List Sh} {s:Bool} {run:Tup xs->Option (Tup rs)} (l:List (Nat×aA)) (i:List Nat) (h:XM PG l)
 (hr:∀x,aeC (cX l i []) f xs rs x=run x) (hb:hasB PG f=true:=by kernel_rfl) (h3:(Nat.ble rs.length 8&&(xs.all afL&&rs.all afL))=true:=by kernel_rfl) (h4:(!s||rs.all W9)=true:=by kernel_rfl):bJ PG f (mkSpec xs rs s run):=
 okP l i [] h (fun _=>trivial) hr hb h3 h4
theorem fE {C:Cx} (K:CxR C) {s:LSh} {os:List vK} {D:List Nat} {step:Tup s.pk->Tup s.vk->Option (Tup s.vk ⊕ adF os)} {pf pos:Nat} (hs:∀p v,aeN C 900 pf pos (TP C.P (pf%4096) pos) s os p v=step p v)
 (h2:Nat.blt (Nat.log2 pos) 301=true:=by kernel_rfl) (h3:s.good D=true:=by kernel_rfl) (h4:os.all (vK.good s)=true:=by kernel_rfl) (h5:RG D (TP C.P (pf%4096) pos)=true:=by kernel_rfl):
 ∀c,At C.P pf pos (.loop c)->qp C pf (2*pos)->alL C.P pf c (s.spec os D step):=
 acS (n:=900) (f:=pf%4096) K rfl h2 h3 h4 h5 (fun p v r h=>(hs p v).trans h)
theorem agB {f:Nat} {e:E} {s:Bool} (hr:∀x:List (den e),aeC (cX [] [] []) f [.ro e] [.buf e] x=aiy (len x) fun y0=>cnd (beq y0 true) (some []) (cnd (ile (len x) 68719476736) (some x) none)) (hb:hasB PG f=true:=by kernel_rfl)
 (h4:(!s||[Sh.buf e].all W9)=true:=by kernel_rfl):bJ PG f (mkSpec [.ro e] [.buf e] s (fun x=>GY x)):=
 ahN (cxK (l:=[]) trivial) (TN (l:=[]) rfl trivial) hb (fun x y h=>(hr x).trans (aiR h)) rfl h4
def sP (l:List (Nat×Nat)):List Nat:=l.flatMap fun a=>List.range' a.1 a.2
theorem okB {f:Nat} {e:E} {xs rs:List Sh} {run:den e×Tup xs->Option (den e×Tup rs)} (l:List (Nat×aA)) (i:List Nat) (p:List (Nat×Nat×dm)) (h:XM PG l) (hp:CxR (cX l i p)->Wn (cX l i p) p)
 (hr:∀x,aft (cX l i p) f e xs rs x.1 x.2=run x) (hb:hasB PG f=true:=by kernel_rfl) (h3:xs.all KC=true:=by kernel_rfl) (h4:rs.all KC=true:=by kernel_rfl):bJ PG f (BA e xs rs run):=
 akN (cxK h) (TN (l:=p) rfl (hp (cxK h))) hb (fun x y e=>(hr x).trans e) h3 h4
end
end Go.Av
namespace Go.Av
open Go
noncomputable section
def Yv (x0:Int) (x1:Int):Option (Int×Int):=some (wr .u32 (dn .u64 (wr .u64 (cO (wr .u64 x0) (wr .u64 x1))) 32),wr .u32 (wr .u64 (cO (wr .u64 x0) (wr .u64 x1))))
def Ig:aA:=mkSpec [.int .u32,.int .u32] [.int .u32,.int .u32] true (fun x=>Yv x.1 x.2)
theorem Xc:bJ PG 152 Ig:=okN [] [] trivial fun x=>by kernel_rfl
def uw (x0:Int) (x1:Int):Option (Int×Int):=some (wr .u64 (aB (wr .u64 (aB (wr .u64 (cO (dn .u64 x0 32) (dn .u64 x1 32))) (dn .u64 (wr .u64 (aB (wr .u64 (cO (dn .u64 x0 32) (wr .u64 (jl .u64 x1 4294967295)))) (dn .u64 (wr .u64 (cO (wr .u64 (jl .u64 x0 4294967295)) (wr .u64 (jl .u64 x1 4294967295)))) 32))) 32))) (dn .u64 (wr .u64 (aB (wr .u64 (jl .u64 (wr .u64 (aB (wr .u64 (cO (dn .u64 x0 32) (wr .u64 (jl .u64 x1 4294967295)))) (dn .u64 (wr .u64 (cO (wr .u64 (jl .u64 x0 4294967295)) (wr .u64 (jl .u64 x1 4294967295)))) 32))) 4294967295)) (wr .u64 (cO (wr .u64 (jl .u64 x0 4294967295)) (dn .u64 x1 32))))) 32)),wr .u64 (cO x0 x1))
def AP:aA:=mkSpec [.int .u64,.int .u64] [.int .u64,.int .u64] true (fun x=>uw x.1 x.2)
theorem KA:bJ PG 153 AP:=okN [] [] trivial fun x=>by kernel_rfl
def Jd (x0:Int) (x1:Int):Option (Int×Int):=af (uw x0 x1) fun y0=>some y0
def Dp:aA:=mkSpec [.int .u64,.int .u64] [.int .u64,.int .u64] true (fun x=>Jd x.1 x.2)
theorem Pq:bJ PG 89 Dp:=okN [(152,Ig),(153,AP)] [] ⟨Xc,KA,trivial⟩ fun x=>by kernel_rfl
def yX (v0:Int) (v1:(List fA)):Option ((Int×(List fA)) ⊕ (((List fA)))):=cnd (ilt v0 (len v1)) (cnd (band (ile 0 v0) (ile v0 (len v1))) (cnd (band (ile 0 v0) (ile v0 (len v1))) (some (Sum.inl (wr .i64 (aB v0 (ji (len (cZ (dR v1 0) (itn v0))) (nti (itn (aV (len v1) v0))))),sQ v1 (itn v0) (cZ (cZ (dR v1 0) (itn v0)) (itn (ji (len (cZ (dR v1 0) (itn v0))) (nti (itn (aV (len v1) v0))))))))) none) none) (some (Sum.inr v1))
def Ik:dm:=LSh.spec ⟨94,[],[(7,.mf 192)],[],[(8,.int .i64)],[],[(192,.expo)]⟩ [⟨.exit 0,[],[],[(192,.expo)]⟩] (sP [(8,1),(34,13)]) (fun p v=>yX v.1 v.2)
def Cm (x0:(List fA)) (x1:Int):Option ((List fA)):=cnd (ilt x1 0) none (af (Jd (wr .u64 (len x0)) (wr .u64 x1)) fun y0=>cnd (bor (ilt 0 y0.1) (ilt 9223372036854775807 y0.2)) none (cnd (band (band (ile 0 (wr .i64 y0.2)) (ile (wr .i64 y0.2) (wr .i64 y0.2))) (ile (wr .i64 y0.2) 68719476736)) (af (bZ (fun v=>yX v.1 v.2) LF (ji (len x0) (len (yO fA (itn (wr .i64 y0.2)))),sQ (yO fA (itn (wr .i64 y0.2))) 0 (cZ x0 (itn (ji (len x0) (len (yO fA (itn (wr .i64 y0.2))))))))) fun y1=>some y1) none))
def zL:aA:=mkSpec [.ro .expo,.int .i64] [.buf .expo] true (fun x=>Cm x.1 x.2)
theorem MC:bJ PG 42 zL:=okP [(89,Dp)] [] [(42,508,Ik)] ⟨Pq,trivial⟩ (fun K=>⟨fE K fun p v=>by kernel_rfl,trivial⟩) fun x=>by kernel_rfl
def BI (v0:Int) (v1:(List Int)):Option ((Int×(List Int)) ⊕ (((List Int)))):=cnd (ilt v0 (len v1)) (cnd (band (ile 0 v0) (ile v0 (len v1))) (cnd (band (ile 0 v0) (ile v0 (len v1))) (some (Sum.inl (wr .i64 (aB v0 (ji (len (cZ (dR v1 0) (itn v0))) (nti (itn (aV (len v1) v0))))),sQ v1 (itn v0) (cZ (cZ (dR v1 0) (itn v0)) (itn (ji (len (cZ (dR v1 0) (itn v0))) (nti (itn (aV (len v1) v0))))))))) none) none) (some (Sum.inr v1))
def LP:dm:=LSh.spec ⟨94,[],[(7,.mf 192)],[],[(8,.int .i64)],[],[(192,.i64)]⟩ [⟨.exit 0,[],[],[(192,.i64)]⟩] (sP [(8,1),(34,13)]) (fun p v=>BI v.1 v.2)
def Gp (x0:(List Int)) (x1:Int):Option ((List Int)):=cnd (ilt x1 0) none (af (Jd (wr .u64 (len x0)) (wr .u64 x1)) fun y0=>cnd (bor (ilt 0 y0.1) (ilt 9223372036854775807 y0.2)) none (cnd (band (band (ile 0 (wr .i64 y0.2)) (ile (wr .i64 y0.2) (wr .i64 y0.2))) (ile (wr .i64 y0.2) 68719476736)) (af (bZ (fun v=>BI v.1 v.2) LF (ji (len x0) (len (yO Int (itn (wr .i64 y0.2)))),sQ (yO Int (itn (wr .i64 y0.2))) 0 (cZ x0 (itn (ji (len x0) (len (yO Int (itn (wr .i64 y0.2))))))))) fun y1=>some y1) none))
def CO:aA:=mkSpec [.ro .i64,.int .i64] [.buf .i64] true (fun x=>Gp x.1 x.2)
theorem Qk:bJ PG 43 CO:=okP [(89,Dp)] [] [(43,508,LP)] ⟨Pq,trivial⟩ (fun K=>⟨fE K fun p v=>by kernel_rfl,trivial⟩) fun x=>by kernel_rfl
def wO (x0:ay):Option (Bool):=some (band (band (band (band (band (band (band (ile 1 x0.accounts) (ile x0.accounts 8)) (ile 1 x0.symbols)) (ile x0.symbols 8)) (ieq (len x0.cells) (wr .i64 (cO x0.accounts x0.symbols)))) (ieq (len x0.limits) (len x0.cells))) (ieq (len x0.caps) x0.accounts)) (ile (len x0.orders) 64))
def FX:aA:=mkSpec [.val .state] [.bool] true (fun x=>wO x)
theorem S9:bJ PG 124 FX:=okN [] [] trivial fun x=>by kernel_rfl
def iV (x0:ax):Option (Bool):=some (bor (ak (ieq x0.newQty 0)) (ak (ieq x0.newPrice 0)))
def yA:aA:=mkSpec [.val .order] [.bool] true (fun x=>iV x)
theorem G9:bJ PG 168 yA:=okN [] [] trivial fun x=>by kernel_rfl
def QM (x0:dB):Option (dB):=cnd (ieq x0.kind 1) (some (dB.mk x0.kind x0.order x0.account x0.symbol x0.side x0.qty x0.price 0 0 0 false 0 0)) (cnd (ieq x0.kind 2) (some (dB.mk x0.kind x0.order 0 0 0 x0.qty x0.price 0 0 0 false 0 0)) (cnd (ieq x0.kind 3) (some (dB.mk x0.kind x0.order 0 0 0 0 0 0 0 0 false 0 0)) (cnd (ieq x0.kind 4) (some (dB.mk x0.kind 0 x0.account x0.symbol 0 0 0 x0.long x0.short x0.opn false 0 0)) (cnd (ieq x0.kind 5) (some (dB.mk x0.kind 0 0 0 0 0 0 0 0 0 x0.on 0 0)) (cnd (ieq x0.kind 6) (some (dB.mk x0.kind x0.order 0 0 0 x0.qty x0.price 0 0 0 false x0.seq x0.what)) (some (dB.mk x0.kind 0 0 0 0 0 0 0 0 0 false 0 0)))))))
def Rj:aA:=mkSpec [.val .recd] [.val .recd] true (fun x=>QM x)
theorem adD:bJ PG 109 Rj:=okN [] [] trivial fun x=>by kernel_rfl
def qg (x0:Int):Option (Bool):=some (band (ile 1 x0) (ile x0 1000000000000))
def KO:aA:=mkSpec [.int .i64] [.bool] true (fun x=>qg x)
theorem Yg:bJ PG 110 KO:=okN [] [] trivial fun x=>by kernel_rfl
def rC (x0:Int) (x1:Int):Option (Bool):=some (band (ile 0 x0) (ilt x0 x1))
def SX:aA:=mkSpec [.int .i64,.int .i64] [.bool] true (fun x=>rC x.1 x.2)
theorem ae7:bJ PG 111 SX:=okN [] [] trivial fun x=>by kernel_rfl
def rE (x0:dB):Option (Bool):=some (band (ile 1 x0.qty) (ile 1 x0.price))
def LG:aA:=mkSpec [.val .recd] [.bool] true (fun x=>rE x)
theorem Ye:bJ PG 112 LG:=okN [] [] trivial fun x=>by kernel_rfl
def Ny (x0:dB):Option (Bool):=af (cnd (ak (bor (ilt x0.seq 1) (ilt 1000000000 x0.seq))) (qg x0.order) (some false)) fun y0=>cnd (bor (bor (ilt x0.seq 1) (ilt 1000000000 x0.seq)) (ak y0)) (some false) (cnd (ieq x0.what 3) (some (band (ile 1 x0.qty) (ieq x0.price 0))) (cnd (ieq x0.what 5) (af (rE x0) fun y1=>some y1) (cnd (ieq x0.what 1) (cnd (ieq x0.what 1) (some (band (ieq x0.qty 0) (ieq x0.price 0))) (some false)) (cnd (ieq x0.what 2) (cnd (ieq x0.what 2) (some (band (ieq x0.qty 0) (ieq x0.price 0))) (some false)) (cnd (ieq x0.what 4) (cnd (ieq x0.what 4) (some (band (ieq x0.qty 0) (ieq x0.price 0))) (some false)) (cnd (ieq x0.what 6) (some (band (ieq x0.qty 0) (ieq x0.price 0))) (some false)))))))
def Ut:aA:=mkSpec [.val .recd] [.bool] true (fun x=>Ny x)
theorem agb:bJ PG 113 Ut:=okN [(110,KO),(112,LG)] [] ⟨Yg,Ye,trivial⟩ fun x=>by kernel_rfl
def uJ (x0:dB):Option (Bool):=af (QM x0) fun y0=>cnd (ak (band (ieq x0.kind y0.kind) (band (ieq x0.order y0.order) (band (ieq x0.account y0.account) (band (ieq x0.symbol y0.symbol) (band (ieq x0.side y0.side) (band (ieq x0.qty y0.qty) (band (ieq x0.price y0.price) (band (ieq x0.long y0.long) (band (ieq x0.short y0.short) (band (ieq x0.opn y0.opn) (band (beq x0.on y0.on) (band (ieq x0.seq y0.seq) (ieq x0.what y0.what)))))))))))))) (some false) (cnd (ieq x0.kind 1) (af (qg x0.order) fun y1=>af (cnd y1 (rC x0.account 8) (some false)) fun y2=>af (cnd (band y1 y2) (rC x0.symbol 8) (some false)) fun y3=>af (cnd (band (band (band y1 y2) y3) (bor (ieq x0.side 1) (ieq x0.side 2))) (rE x0) (some false)) fun y4=>some (band (band (band (band y1 y2) y3) (bor (ieq x0.side 1) (ieq x0.side 2))) y4)) (cnd (ieq x0.kind 2) (af (qg x0.order) fun y5=>af (cnd y5 (rE x0) (some false)) fun y6=>some (band y5 y6)) (cnd (ieq x0.kind 3) (af (qg x0.order) fun y7=>some y7) (cnd (ieq x0.kind 4) (af (rC x0.account 8) fun y8=>af (cnd (band y8 (ak (band (band (ieq x0.symbol (-1)) (ieq x0.long 0)) (ieq x0.short 0)))) (rC x0.symbol 8) (some false)) fun y9=>some (band (band y8 (bor (band (band (ieq x0.symbol (-1)) (ieq x0.long 0)) (ieq x0.short 0)) y9)) (ile 0 (ji (ji x0.long x0.short) x0.opn)))) (cnd (ieq x0.kind 5) (some true) (cnd (ieq x0.kind 6) (af (Ny x0) fun y10=>some y10) (some false)))))))
def sF:aA:=mkSpec [.val .recd] [.bool] true (fun x=>uJ x)
theorem BB:bJ PG 58 sF:=okN [(109,Rj),(110,KO),(111,SX),(112,LG),(113,Ut)] [] ⟨adD,Yg,ae7,Ye,agb,trivial⟩ fun x=>by kernel_rfl
def H6 (x0:ax):Option (Bool):=af (uJ (dB.mk 1 x0.id x0.account x0.symbol x0.side x0.qty x0.price 0 0 0 false 0 0)) fun y0=>some y0
def OZ:aA:=mkSpec [.val .order] [.bool] true (fun x=>H6 x)
theorem abm:bJ PG 169 OZ:=okN [(58,sF)] [] ⟨BB,trivial⟩ fun x=>by kernel_rfl
def gZ (x0:ax):Option (Bool):=af (iV x0) fun y0=>af (H6 x0) fun y1=>cnd (bor (bor (bor (bor (ak y1) (ilt x0.filled 0)) (ilt x0.qty x0.filled)) (ilt x0.version 0)) (band y0 (ilt (ji x0.newQty x0.newPrice) 1))) (some false) (cnd (ieq x0.phase 1) (some (band (band (ieq x0.filled 0) (ieq x0.version 0)) (ak y0))) (cnd (ieq x0.phase 2) (some (ilt x0.filled x0.qty)) (cnd (ieq x0.phase 3) (some (ak y0)) (some false))))
def jc:aA:=mkSpec [.val .order] [.bool] true (fun x=>gZ x)
theorem nY:bJ PG 101 jc:=okN [(168,yA),(169,OZ)] [] ⟨G9,abm,trivial⟩ fun x=>by kernel_rfl
def Ic (x0:fA):Option (Bool):=some (ile 0 (ji (ji x0.long x0.short) x0.opn))
def OX:aA:=mkSpec [.val .expo] [.bool] true (fun x=>Ic x)
theorem acE:bJ PG 193 OX:=okN [] [] trivial fun x=>by kernel_rfl
def ny (p0:(List Int)) (v0:Int) (v1:Int):Option ((Int×Int) ⊕ ((Int))):=cnd (ilt v0 (len p0)) (cnd (band (ile 0 v0) (ilt v0 (len p0))) (some (Sum.inl (wr .i64 (aB v0 1),ji v1 (aj p0 (itn v0))))) none) (some (Sum.inr v1))
def OH:dm:=LSh.spec ⟨74,[(0,.ro .i64)],[],[],[(4,.int .i64),(3,.int .i64)],[],[]⟩ [⟨.exit 0,[(3,.int .i64)],[],[]⟩] (sP [(3,2),(12,12)]) (fun p v=>ny p v.1 v.2)
def o7 (x0:(List Int)):Option (Int):=cnd (ilt (len x0) 1) none (cnd (ilt 0 (len x0)) (af (bZ (fun v=>ny x0 v.1 v.2) LF (1,aj x0 0)) fun y0=>some y0) none)
def Gl:aA:=mkSpec [.ro .i64] [.int .i64] true (fun x=>o7 x)
theorem Vy:bJ PG 195 Gl:=okP [] [] [(195,122,OH)] trivial (fun K=>⟨fE K fun p v=>by kernel_rfl,trivial⟩) fun x=>by kernel_rfl
def oK (p0:Int) (p1:(List ax)) (p2:ay) (v0:Int) (v1:Int) (v2:Bool):Option ((Int×Int×Bool) ⊕ ((Bool) ⊕ ((Int×Bool)))):=cnd (ilt v0 p0) (cnd (band (ile 0 v0) (ilt v0 (len p1))) (af (gZ (aj p1 (itn v0))) fun y0=>cnd (bor (bor (bor (bor (ak y0) (ieq (aj p1 (itn v0)).phase 3)) (ile p2.accounts (aj p1 (itn v0)).account)) (ile p2.symbols (aj p1 (itn v0)).symbol)) (ile (aj p1 (itn v0)).id v1)) (some (Sum.inr (Sum.inl false))) (some (Sum.inl (wr .i64 (aB v0 1),(aj p1 (itn v0)).id,v2)))) none) (some (Sum.inr (Sum.inr (v1,v2))))
def QG:dm:=LSh.spec ⟨73,[(10,.int .i64),(9,.ro .order)],[(1,.mp 8 0)],[(8,[.val .state])],[(11,.int .i64),(3,.int .i64),(2,.bool)],[],[]⟩ [⟨.ret,[(2,.bool)],[],[]⟩,⟨.exit 0,[(3,.int .i64),(2,.bool)],[],[]⟩] (sP [(2,2),(5,1),(11,37)]) (fun p v=>oK p.1 p.2.1 p.2.2 v.1 v.2.1 v.2.2)
def dF (p0:Int) (p1:(List fA)) (v0:Int) (v1:Int):Option ((Int×Int) ⊕ ((Int) ⊕ ((Int)))):=cnd (ilt v0 p0) (cnd (band (ile 0 v0) (ilt v0 (len p1))) (af (Ic (aj p1 (itn v0))) fun y0=>cnd (ak y0) (some (Sum.inr (Sum.inl v0))) (some (Sum.inl (wr .i64 (aB v0 1),v1)))) none) (some (Sum.inr (Sum.inr v1)))
def oU:dm:=LSh.spec ⟨210,[(7,.int .i64),(0,.ro .expo)],[(1,.fn 192 [])],[],[(8,.int .i64),(4,.int .i64)],[],[]⟩ [⟨.ret,[(4,.int .i64)],[],[]⟩,⟨.exit 0,[(4,.int .i64)],[],[]⟩] (sP [(4,2),(8,11)]) (fun p v=>dF p.1 p.2 v.1 v.2)
def yh (x0:ay):Option (Bool):=af (bZ (fun v=>oK (len x0.orders) x0.orders x0 v.1 v.2.1 v.2.2) LF (0,0,false)) fun y0=>dJ y0 (fun y1=>some y1) fun y1=>cnd (band (band (band (band (band (ile y1.1 x0.last) (ile x0.last 1000000000000)) (ile 0 x0.seq)) (ile x0.seq 1000000000)) (ile 0 x0.lsn)) (ile x0.lsn 1000000000)) (af (bZ (fun v=>dF (len x0.limits) x0.limits v.1 v.2) LF (0,0)) fun y2=>dJ y2 (fun y3=>af (cnd (band (band (band (band (band (band (ile y1.1 x0.last) (ile x0.last 1000000000000)) (ile 0 x0.seq)) (ile x0.seq 1000000000)) (ile 0 x0.lsn)) (ile x0.lsn 1000000000)) (ak (ile 0 y3))) (o7 x0.caps) (some 0)) fun y4=>some (band (band (band (band (band (band (band (band (ile y1.1 x0.last) (ile x0.last 1000000000000)) (ile 0 x0.seq)) (ile x0.seq 1000000000)) (ile 0 x0.lsn)) (ile x0.lsn 1000000000)) (ak (ile 0 y3))) (ile 0 y4)) (ile 0 x0.last))) fun y3=>af (cnd (bor (band (band (band (band (band (ile y1.1 x0.last) (ile x0.last 1000000000000)) (ile 0 x0.seq)) (ile x0.seq 1000000000)) (ile 0 x0.lsn)) (ile x0.lsn 1000000000)) false) (o7 x0.caps) (some 0)) fun y5=>some (band (band (bor (band (band (band (band (band (ile y1.1 x0.last) (ile x0.last 1000000000000)) (ile 0 x0.seq)) (ile x0.seq 1000000000)) (ile 0 x0.lsn)) (ile x0.lsn 1000000000)) false) (ile 0 y5)) (ile 0 x0.last))) (af (cnd (bor (band (band (band (band (band (ile y1.1 x0.last) (ile x0.last 1000000000000)) (ile 0 x0.seq)) (ile x0.seq 1000000000)) (ile 0 x0.lsn)) (ile x0.lsn 1000000000)) false) (o7 x0.caps) (some 0)) fun y6=>some (band (band (bor (band (band (band (band (band (ile y1.1 x0.last) (ile x0.last 1000000000000)) (ile 0 x0.seq)) (ile x0.seq 1000000000)) (ile 0 x0.lsn)) (ile x0.lsn 1000000000)) false) (ile 0 y6)) (ile 0 x0.last)))
def F7:aA:=mkSpec [.val .state] [.bool] true (fun x=>yh x)
theorem Vg:bJ PG 125 F7:=okP [(101,jc),(193,OX),(195,Gl)] [192,194,242] [(125,58,QG),(2305845402584220229874,26,oU)] ⟨nY,acE,Vy,trivial⟩ (fun K=>⟨fE K fun p v=>by kernel_rfl,fE K fun p v=>by kernel_rfl,trivial⟩) fun x=>by kernel_rfl
def dw (x0:ay) (x1:Int) (x2:Int):Option (Int):=some (wr .i64 (aB (wr .i64 (cO x1 x0.symbols)) x2))
def mQ:aA:=mkSpec [.val .state,.int .i64,.int .i64] [.int .i64] true (fun x=>dw x.1 x.2.1 x.2.2)
theorem sZ:bJ PG 183 mQ:=okN [] [] trivial fun x=>by kernel_rfl
def tZ (x0:Int) (x1:Int):Option (Int×Int):=cnd (band (ak (beq (ilt x0 (wr .i64 (aB x0 x1))) (ilt 0 x1))) (ak (ieq x1 0))) (some (0,3)) (some (wr .i64 (aB x0 x1),0))
def yQ:aA:=mkSpec [.int .i64,.int .i64] [.int .i64,.int .i64] true (fun x=>tZ x.1 x.2)
theorem GV:bJ PG 117 yQ:=okN [] [] trivial fun x=>by kernel_rfl
def Bq (x0:Int) (x1:Int):Option (Int×Int):=cnd (band (ak (beq (ilt (wr .i64 (aV x0 x1)) x0) (ilt 0 x1))) (ak (ieq x1 0))) (some (0,3)) (some (wr .i64 (aV x0 x1),0))
def JG:aA:=mkSpec [.int .i64,.int .i64] [.int .i64,.int .i64] true (fun x=>Bq x.1 x.2)
theorem Xb:bJ PG 239 JG:=okN [] [] trivial fun x=>by kernel_rfl
def Iz (x0:aT):Option (fA×Bool):=af (tZ x0.pos x0.buy) fun y0=>af (Bq x0.sell x0.pos) fun y1=>some (fA.mk y0.1 y1.1 x0.opn,band (ieq y0.2 0) (ieq y1.2 0))
def Ls:aA:=mkSpec [.val .cell] [.val .expo,.bool] true (fun x=>Iz x)
theorem YC:bJ PG 196 Ls:=okN [(117,yQ),(239,JG)] [] ⟨GV,Xb,trivial⟩ fun x=>by kernel_rfl
def iT (x0:aT):Option (Bool):=af (Iz x0) fun y0=>some (band y0.2 (ile 0 (ji (ji x0.buy x0.sell) x0.opn)))
def uf:aA:=mkSpec [.val .cell] [.bool] true (fun x=>iT x)
theorem Cc:bJ PG 127 uf:=okN [(196,Ls)] [] ⟨YC,trivial⟩ fun x=>by kernel_rfl
def LJ (x0:Int):Option (Int):=cnd (ilt x0 0) (some (wr .u64 (aV 0 (wr .u64 x0)))) (some (wr .u64 x0))
def VJ:aA:=mkSpec [.int .i64] [.int .u64] true (fun x=>LJ x)
theorem agW:bJ PG 307 VJ:=okN [] [] trivial fun x=>by kernel_rfl
def OU (x0:Int) (x1:Int):Option (Int×Int):=af (LJ x0) fun y0=>af (LJ x1) fun y1=>af (uw y0 y1) fun y2=>cnd (band (band (ieq y2.1 0) (ak (beq (ilt x0 0) (ilt x1 0)))) (ile y2.2 9223372036854775808)) (some (wr .i64 (wr .u64 (aV 0 y2.2)),0)) (cnd (band (ieq y2.1 0) (ile y2.2 9223372036854775807)) (some (wr .i64 y2.2,0)) (some (0,3)))
def Yo:aA:=mkSpec [.int .i64,.int .i64] [.int .i64,.int .i64] true (fun x=>OU x.1 x.2)
theorem ajc:bJ PG 296 Yo:=okN [(307,VJ),(153,AP)] [] ⟨agW,KA,trivial⟩ fun x=>by kernel_rfl
def OM (x0:Int) (x1:Int):Option (Int):=some (imax x0 x1)
def QV:aA:=mkSpec [.int .i64,.int .i64] [.int .i64] true (fun x=>OM x.1 x.2)
theorem abY:bJ PG 297 QV:=okN [] [] trivial fun x=>by kernel_rfl
def Dc (x0:ax):Option (Int×Int):=af (gZ x0) fun y0=>cnd (ak y0) (some (0,1)) (cnd (ieq x0.phase 3) (some (0,0)) (af (OU (wr .i64 (aV x0.qty x0.filled)) x0.price) fun y1=>cnd (bor (ak (ieq y1.2 0)) (ile x0.newQty x0.filled)) (some y1) (af (OU (wr .i64 (aV x0.newQty x0.filled)) x0.newPrice) fun y2=>cnd (ak (ieq y2.2 0)) (some (0,y2.2)) (af (OM y1.1 y2.1) fun y3=>some (y3,0)))))
def GZ:aA:=mkSpec [.val .order] [.int .i64,.int .i64] true (fun x=>Dc x)
theorem TF:bJ PG 277 GZ:=okN [(101,jc),(296,Yo),(297,QV)] [] ⟨nY,ajc,abY,trivial⟩ fun x=>by kernel_rfl
def yj (x0:ax):Option (Int):=af (gZ x0) fun y0=>cnd (bor (ak y0) (ieq x0.phase 3)) (some 0) (af (OM x0.qty x0.newQty) fun y1=>some (wr .i64 (aV y1 x0.filled)))
def Ji:aA:=mkSpec [.val .order] [.int .i64] true (fun x=>yj x)
theorem V7:bJ PG 278 Ji:=okN [(101,jc),(297,QV)] [] ⟨nY,abY,trivial⟩ fun x=>by kernel_rfl
def rF (x0:aT) (x1:ax):Option (aT×Int):=af (iT x0) fun y0=>af (cnd (ak (ak y0)) (gZ x1) (some false)) fun y1=>cnd (bor (ak y0) (ak y1)) (some (x0,1)) (af (Dc x1) fun y2=>cnd (ieq x1.side 2) (af (yj x1) fun y3=>af (tZ x0.sell y3) fun y4=>af (tZ x0.opn y2.1) fun y5=>af (cnd (ak (bor (bor (ak (ieq y2.2 0)) (ak (ieq y4.2 0))) (ak (ieq y5.2 0)))) (iT (aT.mk x0.pos x0.buy y4.1 y5.1)) (some false)) fun y6=>cnd (bor (bor (bor (ak (ieq y2.2 0)) (ak (ieq y4.2 0))) (ak (ieq y5.2 0))) (ak y6)) (some (x0,3)) (some (aT.mk x0.pos x0.buy y4.1 y5.1,0))) (af (yj x1) fun y7=>af (tZ x0.buy y7) fun y8=>af (tZ x0.opn y2.1) fun y9=>af (cnd (ak (bor (bor (ak (ieq y2.2 0)) (ak (ieq y8.2 0))) (ak (ieq y9.2 0)))) (iT (aT.mk x0.pos y8.1 x0.sell y9.1)) (some false)) fun y10=>cnd (bor (bor (bor (ak (ieq y2.2 0)) (ak (ieq y8.2 0))) (ak (ieq y9.2 0))) (ak y10)) (some (x0,3)) (some (aT.mk x0.pos y8.1 x0.sell y9.1,0))))
def EY:aA:=mkSpec [.val .cell,.val .order] [.val .cell,.int .i64] true (fun x=>rF x.1 x.2)
theorem Qe:bJ PG 184 EY:=okN [(127,uf),(101,jc),(277,GZ),(278,Ji),(117,yQ)] [235] ⟨Cc,nY,TF,V7,GV,trivial⟩ fun x=>by kernel_rfl
def lT (p0:Int) (p1:(List ax)) (p2:ay) (v0:Int) (v1:Bool) (v2:(List aT)) (v3:(List aT)):Option ((Int×Bool×(List aT)×(List aT)) ⊕ ((Bool×(List aT)×(List aT)) ⊕ ((Bool×(List aT)×(List aT))))):=cnd (ilt v0 p0) (cnd (band (ile 0 v0) (ilt v0 (len p1))) (af (dw p2 (aj p1 (itn v0)).account (aj p1 (itn v0)).symbol) fun y0=>cnd (band (ile 0 y0) (ilt y0 (len v3))) (af (rF (aj v3 (itn y0)) (aj p1 (itn v0))) fun y1=>cnd (ak (ieq y1.2 0)) (some (Sum.inr (Sum.inl (false,[],v3)))) (cnd (band (ile 0 y0) (ilt y0 (len v3))) (some (Sum.inl (wr .i64 (aB v0 1),v1,v2,dN v3 (itn y0) y1.1))) none)) none) none) (some (Sum.inr (Sum.inr (v1,v2,v3))))
def NW:dm:=LSh.spec ⟨79,[(18,.int .i64),(17,.ro .order)],[(4,.mf 64),(1,.mp 8 0)],[(8,[.val .state])],[(19,.int .i64),(3,.bool),(2,.buf .cell)],[],[(64,.cell)]⟩ [⟨.ret,[(3,.bool),(2,.buf .cell)],[],[(64,.cell)]⟩,⟨.exit 0,[(3,.bool),(2,.buf .cell)],[],[(64,.cell)]⟩] (sP [(2,2),(6,4),(19,26)]) (fun p v=>lT p.1 p.2.1 p.2.2 v.1 v.2.1 v.2.2.1 v.2.2.2)
def um (x0:ay):Option ((List aT)×Bool):=cnd (band (band (ile 0 (len x0.cells)) (ile (len x0.cells) (len x0.cells))) (ile (len x0.cells) 68719476736)) (af (bZ (fun v=>lT (len x0.orders) x0.orders x0 v.1 v.2.1 v.2.2.1 v.2.2.2) LF (0,false,[],yO aT (itn (len x0.cells)))) fun y0=>dJ y0 (fun y1=>some (y1.2.1,y1.1)) fun y1=>some (y1.2.2,true)) none
def Ed:aA:=mkSpec [.val .state] [.buf .cell,.bool] true (fun x=>um x)
theorem Sm:bJ PG 126 Ed:=okP [(183,mQ),(184,EY)] [] [(126,58,NW)] ⟨sZ,Qe,trivial⟩ (fun K=>⟨fE K fun p v=>by kernel_rfl,trivial⟩) fun x=>by kernel_rfl
def kN (x0:ay) (x1:Int):Option ((List aT)):=cnd (band (band (ile 0 (wr .i64 (cO x1 x0.symbols))) (ile (wr .i64 (cO x1 x0.symbols)) (wr .i64 (cO (wr .i64 (aB x1 1)) x0.symbols)))) (ile (wr .i64 (cO (wr .i64 (aB x1 1)) x0.symbols)) (len x0.cells))) (some (cZ (dR x0.cells (itn (wr .i64 (cO x1 x0.symbols)))) (itn (aV (wr .i64 (cO (wr .i64 (aB x1 1)) x0.symbols)) (wr .i64 (cO x1 x0.symbols)))))) none
def vP:aA:=mkSpec [.val .state,.int .i64] [.ro .cell] false (fun x=>kN x.1 x.2)
theorem FU:bJ PG 129 vP:=okN [] [] trivial fun x=>by kernel_rfl
def AL (p0:Int) (p1:(List Int)) (v0:Int) (v1:Int) (v2:Int) (v3:Int):Option ((Int×Int×Int×Int) ⊕ ((Int×Int) ⊕ ((Int×Int×Int)))):=cnd (ilt v0 p0) (cnd (band (ile 0 v0) (ilt v0 (len p1))) (af (tZ v1 (aj p1 (itn v0))) fun y0=>cnd (ak (ieq y0.2 0)) (some (Sum.inr (Sum.inl (y0.2,0)))) (some (Sum.inl (wr .i64 (aB v0 1),y0.1,v2,v3)))) none) (some (Sum.inr (Sum.inr (v1,v2,v3))))
def aaB:dm:=LSh.spec ⟨71,[(10,.int .i64),(9,.ro .i64)],[],[],[(11,.int .i64),(4,.int .i64),(3,.int .i64),(2,.int .i64)],[],[]⟩ [⟨.ret,[(3,.int .i64),(2,.int .i64)],[],[]⟩,⟨.exit 0,[(4,.int .i64),(3,.int .i64),(2,.int .i64)],[],[]⟩] (sP [(2,3),(6,3),(11,15)]) (fun p v=>AL p.1 p.2 v.1 v.2.1 v.2.2.1 v.2.2.2)
def NE (x0:(List Int)):Option (Int×Int):=af (bZ (fun v=>AL (len x0) x0 v.1 v.2.1 v.2.2.1 v.2.2.2) LF (0,0,0,0)) fun y0=>dJ y0 (fun y1=>some (y1.2,y1.1)) fun y1=>some (y1.1,0)
def TK:aA:=mkSpec [.ro .i64] [.int .i64,.int .i64] true (fun x=>NE x)
theorem agj:bJ PG 197 TK:=okP [(117,yQ)] [] [(197,58,aaB)] ⟨GV,trivial⟩ (fun K=>⟨fE K fun p v=>by kernel_rfl,trivial⟩) fun x=>by kernel_rfl
def wZ (p0:Int) (p1:(List aT)) (v0:Int) (v1:(List Int)):Option ((Int×(List Int)) ⊕ (((List Int)))):=cnd (ilt v0 p0) (cnd (band (ile 0 v0) (ilt v0 (len p1))) (cnd (ile (len (aQ v1 [(aj p1 (itn v0)).opn])) 68719476736) (some (Sum.inl (wr .i64 (aB v0 1),aQ v1 [(aj p1 (itn v0)).opn]))) none) none) (some (Sum.inr v1))
def Ya:dm:=LSh.spec ⟨71,[(8,.int .i64),(7,.ro .cell)],[],[],[(9,.int .i64),(4,.buf .i64)],[],[]⟩ [⟨.exit 0,[(4,.buf .i64)],[],[]⟩] (sP [(4,1),(6,1),(9,10)]) (fun p v=>wZ p.1 p.2 v.1 v.2)
def zl (x0:(List aT)):Option (Int×Int):=af (bZ (fun v=>wZ (len x0) x0 v.1 v.2) LF (0,[])) fun y0=>af (NE y0) fun y1=>some y1
def GU:aA:=mkSpec [.ro .cell] [.int .i64,.int .i64] true (fun x=>zl x)
theorem Ub:bJ PG 128 GU:=okP [(197,TK)] [] [(128,58,Ya)] ⟨agj,trivial⟩ (fun K=>⟨fE K fun p v=>by kernel_rfl,trivial⟩) fun x=>by kernel_rfl
def lH (p0:Int) (p1:(List aT)) (v0:Int) (v1:Bool) (v2:(List aT)):Option ((Int×Bool×(List aT)) ⊕ ((Bool×(List aT)) ⊕ ((Bool×(List aT))))):=cnd (ilt v0 p0) (cnd (band (ile 0 v0) (ilt v0 (len p1))) (cnd (band (ile 0 v0) (ilt v0 (len v2))) (af (iT (aj p1 (itn v0))) fun y0=>cnd (bor (band (ile 0 v0) (ilt v0 (len (dN v2 (itn v0) (aT.mk (aj p1 (itn v0)).pos (aj v2 (itn v0)).buy (aj v2 (itn v0)).sell (aj v2 (itn v0)).opn))))) (ak (ak (ak y0)))) (cnd (bor (ak y0) (ak (band (ieq (aj (dN v2 (itn v0) (aT.mk (aj p1 (itn v0)).pos (aj v2 (itn v0)).buy (aj v2 (itn v0)).sell (aj v2 (itn v0)).opn)) (itn v0)).pos (aj p1 (itn v0)).pos) (band (ieq (aj (dN v2 (itn v0) (aT.mk (aj p1 (itn v0)).pos (aj v2 (itn v0)).buy (aj v2 (itn v0)).sell (aj v2 (itn v0)).opn)) (itn v0)).buy (aj p1 (itn v0)).buy) (band (ieq (aj (dN v2 (itn v0) (aT.mk (aj p1 (itn v0)).pos (aj v2 (itn v0)).buy (aj v2 (itn v0)).sell (aj v2 (itn v0)).opn)) (itn v0)).sell (aj p1 (itn v0)).sell) (ieq (aj (dN v2 (itn v0) (aT.mk (aj p1 (itn v0)).pos (aj v2 (itn v0)).buy (aj v2 (itn v0)).sell (aj v2 (itn v0)).opn)) (itn v0)).opn (aj p1 (itn v0)).opn)))))) (some (Sum.inr (Sum.inl (false,dN v2 (itn v0) (aT.mk (aj p1 (itn v0)).pos (aj v2 (itn v0)).buy (aj v2 (itn v0)).sell (aj v2 (itn v0)).opn))))) (some (Sum.inl (wr .i64 (aB v0 1),v1,dN v2 (itn v0) (aT.mk (aj p1 (itn v0)).pos (aj v2 (itn v0)).buy (aj v2 (itn v0)).sell (aj v2 (itn v0)).opn))))) none) none) none) (some (Sum.inr (Sum.inr (v1,v2))))
def OE:dm:=LSh.spec ⟨89,[(28,.int .i64),(27,.ro .cell)],[(3,.mf 96)],[],[(29,.int .i64),(2,.bool)],[],[(96,.cell)]⟩ [⟨.ret,[(2,.bool)],[],[(96,.cell)]⟩,⟨.exit 0,[(2,.bool)],[],[(96,.cell)]⟩] (sP [(2,1),(5,2),(29,23)]) (fun p v=>lH p.1 p.2 v.1 v.2.1 v.2.2)
def l9 (p0:Int) (p1:ay) (v0:Int) (v1:Bool):Option ((Int×Bool) ⊕ ((Bool) ⊕ ((Bool)))):=cnd (ilt v0 p0) (af (kN p1 v0) fun y0=>af (zl y0) fun y1=>cnd (ak (ieq y1.2 0)) (some (Sum.inr (Sum.inl false))) (some (Sum.inl (wr .i64 (aB v0 1),v1)))) (some (Sum.inr (Sum.inr v1)))
def Ox:dm:=LSh.spec ⟨162,[(54,.int .i64)],[(1,.mp 8 0)],[(8,[.val .state])],[(55,.int .i64),(2,.bool)],[],[]⟩ [⟨.ret,[(2,.bool)],[],[]⟩,⟨.exit 2,[(2,.bool)],[],[]⟩] (sP [(2,1),(7,3),(55,13)]) (fun p v=>l9 p.1 p.2 v.1 v.2)
def BL (x0:ay):Option (Bool):=af (wO x0) fun y0=>af (cnd (ak (ak y0)) (yh x0) (some false)) fun y1=>cnd (bor (ak y0) (ak y1)) (some false) (af (um x0) fun y2=>cnd (ak y2.2) (some false) (af (bZ (fun v=>lH (len x0.cells) x0.cells v.1 v.2.1 v.2.2) LF (0,false,y2.1)) fun y3=>dJ y3 (fun y4=>some y4.1) fun y4=>af (bZ (fun v=>l9 x0.accounts x0 v.1 v.2) LF (0,y4.1)) fun y5=>dJ y5 (fun y6=>some y6) fun y6=>some true))
def Fq:aA:=mkSpec [.val .state] [.bool] true (fun x=>BL x)
theorem Uo:bJ PG 68 Fq:=okP [(124,FX),(125,F7),(126,Ed),(127,uf),(129,vP),(128,GU)] [] [(68,250,OE),(68,506,Ox)] ⟨S9,Vg,Sm,Cc,FU,Ub,trivial⟩ (fun K=>⟨fE K fun p v=>by kernel_rfl,fE K fun p v=>by kernel_rfl,trivial⟩) fun x=>by kernel_rfl
def jU (x0:ay):Option (Bool):=af (BL x0) fun y0=>some y0
def oD:aA:=mkSpec [.val .state] [.bool] true (fun x=>jU x)
theorem vO:bJ PG 28 oD:=okN [(68,Fq)] [] ⟨Uo,trivial⟩ fun x=>by kernel_rfl
def ab6 (x0:Int) (x1:Int) (x2:fA) (x3:Int):Option (ay×Int):=cnd (bor (bor (bor (ilt x0 1) (ilt 8 x0)) (ilt x1 1)) (ilt 8 x1)) (some (ay.mk 0 0 [] [] [] [] false 0 0 0,1)) (cnd (band (band (ile 0 (wr .i64 (cO x0 x1))) (ile (wr .i64 (cO x0 x1)) (wr .i64 (cO x0 x1)))) (ile (wr .i64 (cO x0 x1)) 68719476736)) (af (Cm [x2] (wr .i64 (cO x0 x1))) fun y0=>af (Gp [x3] x0) fun y1=>af (jU (ay.mk x0 x1 [] (yO aT (itn (wr .i64 (cO x0 x1)))) y0 y1 false 0 0 0)) fun y2=>cnd (ak y2) (some (ay.mk 0 0 [] [] [] [] false 0 0 0,1)) (some (ay.mk x0 x1 [] (yO aT (itn (wr .i64 (cO x0 x1)))) y0 y1 false 0 0 0,0))) none)
def Wh:aA:=mkSpec [.int .i64,.int .i64,.val .expo,.int .i64] [.val .state,.int .i64] false (fun x=>ab6 x.1 x.2.1 x.2.2.1 x.2.2.2)
theorem aha:bJ PG 18 Wh:=okN [(42,zL),(43,CO),(28,oD)] [] ⟨MC,Qk,vO,trivial⟩ fun x=>by kernel_rfl
def NJ (x0:Int):Option (Bool):=some (bor (bor (band (ile 97 x0) (ile x0 122)) (band (ile 48 x0) (ile x0 57))) (ieq x0 46))
def Tn:aA:=mkSpec [.int .u8] [.bool] true (fun x=>NJ x)
theorem afe:bJ PG 154 Tn:=okN [] [] trivial fun x=>by kernel_rfl
def yV (p0:Int) (p1:(List UInt8)) (v0:Int) (v1:Bool):Option ((Int×Bool) ⊕ ((Bool) ⊕ ((Bool)))):=cnd (ilt v0 p0) (cnd (band (ile 0 v0) (ilt v0 (len p1))) (af (NJ (Vu p1 (itn v0))) fun y0=>cnd (ak y0) (some (Sum.inr (Sum.inl false))) (some (Sum.inl (wr .i64 (aB v0 1),v1)))) none) (some (Sum.inr (Sum.inr v1)))
def Zd:dm:=LSh.spec ⟨69,[(5,.int .i64),(0,.str)],[],[],[(6,.int .i64),(2,.bool)],[],[]⟩ [⟨.ret,[(2,.bool)],[],[]⟩,⟨.exit 0,[(2,.bool)],[],[]⟩] (sP [(2,2),(6,9)]) (fun p v=>yV p.1 p.2 v.1 v.2)
def EO (x0:(List UInt8)):Option (Bool):=af (bZ (fun v=>yV (len x0) x0 v.1 v.2) LF (0,false)) fun y0=>dJ y0 (fun y1=>some y1) fun y1=>some (band (ile 1 (len x0)) (ile (len x0) 16))
def I4:aA:=mkSpec [.str] [.bool] true (fun x=>EO x)
theorem VE:bJ PG 90 I4:=okP [(154,Tn)] [] [(90,26,Zd)] ⟨afe,trivial⟩ (fun K=>⟨fE K fun p v=>by kernel_rfl,trivial⟩) fun x=>by kernel_rfl
def wX (p0:Int) (p1:(List bn)) (p2:aC) (v0:Int) (v1:Int) (v2:Bool):Option ((Int×Int×Bool) ⊕ ((Bool) ⊕ ((Bool)))):=cnd (ilt v0 p0) (cnd (band (ile 0 v0) (ilt v0 (len p1))) (af (EO (aj p1 (itn v0)).name) fun y0=>cnd (bor (band (ile 0 (wr .i64 (aV v0 1))) (ilt (wr .i64 (aV v0 1)) (len p2.files))) (ak (band (ak (ak y0)) (ilt 0 v0)))) (cnd (bor (bor (bor (bor (ak y0) (band (ilt 0 v0) (ak (slt (aj p2.files (itn (wr .i64 (aV v0 1)))).name (aj p1 (itn v0)).name)))) (ilt (aj p1 (itn v0)).sure 0)) (ilt (len (aj p1 (itn v0)).data) (aj p1 (itn v0)).sure)) (ilt v1 (len (aj p1 (itn v0)).data))) (some (Sum.inr (Sum.inl false))) (some (Sum.inl (wr .i64 (aB v0 1),wr .i64 (aV v1 (len (aj p1 (itn v0)).data)),v2)))) none) none) (some (Sum.inr (Sum.inr v2)))
def Yi:dm:=LSh.spec ⟨93,[(29,.int .i64),(28,.ro .file)],[(1,.mp 8 0)],[(8,[.val .disk])],[(30,.int .i64),(3,.int .i64),(2,.bool)],[],[]⟩ [⟨.ret,[(2,.bool)],[],[]⟩,⟨.exit 0,[(2,.bool)],[],[]⟩] (sP [(2,4),(30,51)]) (fun p v=>wX p.1 p.2.1 p.2.2 v.1 v.2.1 v.2.2)
def pO (x0:aC):Option (Bool):=cnd (bor (bor (bor (ilt x0.room 0) (ilt 65536 x0.room)) (ilt x0.fuse (-1))) (ilt 64 (len x0.files))) (some false) (af (bZ (fun v=>wX (len x0.files) x0.files x0 v.1 v.2.1 v.2.2) LF (0,x0.room,false)) fun y0=>dJ y0 (fun y1=>some y1) fun y1=>some true)
def oC:aA:=mkSpec [.val .disk] [.bool] true (fun x=>pO x)
theorem vY:bJ PG 44 oC:=okP [(90,I4)] [] [(44,122,Yi)] ⟨VE,trivial⟩ (fun K=>⟨fE K fun p v=>by kernel_rfl,trivial⟩) fun x=>by kernel_rfl
def MW (x0:Int):Option ((List UInt8)):=cnd (ieq (Jl x0 2) 0) (some [(UInt8.ofNat 115),(UInt8.ofNat 108),(UInt8.ofNat 111),(UInt8.ofNat 116),(UInt8.ofNat 46),(UInt8.ofNat 48)]) (some [(UInt8.ofNat 115),(UInt8.ofNat 108),(UInt8.ofNat 111),(UInt8.ofNat 116),(UInt8.ofNat 46),(UInt8.ofNat 49)])
def Ui:aA:=mkSpec [.int .i64] [.str] true (fun x=>MW x)
theorem ae9:bJ PG 212 Ui:=okN [] [] trivial fun x=>by kernel_rfl
def dS (p0:Int) (p1:(List (List UInt8))) (v0:Int) (v1:Int):Option ((Int×Int) ⊕ ((Int) ⊕ ((Int)))):=cnd (ilt v0 p0) (cnd (band (ile 0 v0) (ilt v0 (len p1))) (af (EO (aj p1 (itn v0))) fun y0=>cnd (ak y0) (some (Sum.inr (Sum.inl v0))) (some (Sum.inl (wr .i64 (aB v0 1),v1)))) none) (some (Sum.inr (Sum.inr v1)))
def tV:dm:=LSh.spec ⟨88,[(7,.int .i64),(0,.ro .str)],[(1,.fn 270 [])],[],[(8,.int .i64),(4,.int .i64)],[],[]⟩ [⟨.ret,[(4,.int .i64)],[],[]⟩,⟨.exit 0,[(4,.int .i64)],[],[]⟩] (sP [(4,2),(8,11)]) (fun p v=>dS p.1 p.2 v.1 v.2)
def uZ (x0:aC) (x1:(List (List UInt8))):Option (Int):=af (pO x0) fun y0=>cnd (ak y0) (some 1) (cnd x0.down (some 9) (af (bZ (fun v=>dS (len x1) x1 v.1 v.2) LF (0,0)) fun y1=>dJ y1 (fun y2=>cnd (ile 0 y2) (some 1) (some 0)) fun y2=>some 0))
def ug:aA:=mkSpec [.val .disk,.ro .str] [.int .i64] true (fun x=>uZ x.1 x.2)
theorem CU:bJ PG 227 ug:=okP [(44,oC),(90,I4)] [269,293,270] [(4187411152178019123493,26,tV)] ⟨vY,VE,trivial⟩ (fun K=>⟨fE K fun p v=>by kernel_rfl,trivial⟩) fun x=>by kernel_rfl
def uD (x0:(List UInt8)) (x1:(List UInt8)):Option (Int):=some (agi x0 x1)
def IA:aA:=mkSpec [.str,.str] [.int .i64] true (fun x=>uD x.1 x.2)
def Vo:Go.Shelf.Ren:=⟨fun | 106=>273 | 213=>294 | 265=>305 | n=>n,fun | 9=>9 | 3=>3 | n=>n,fun | n=>n⟩
theorem GI:Go.Proofs.Lays.n106 PG Vo where
 mixed:=by kernel_rfl
 f106:=by kernel_rfl
 f213:=by kernel_rfl
 f265:=by kernel_rfl
 t3:=by kernel_rfl
 a3:=fun w=>by kernel_rfl
 z3:=fun w=>by kernel_rfl
 v3:=fun w=>by kernel_rfl
 t9:=by kernel_rfl
 a9:=fun w=>by kernel_rfl
 z9:=fun w=>by kernel_rfl
 v9:=fun w=>by kernel_rfl
theorem Xj:bJ PG 273 IA:=akD G7 GI (by kernel_rfl) fun x y h=>(Option.some.inj h).symm
def eG (p0:(List bn)) (p1:(List UInt8)) (v0:Int) (v1:Int):Option ((Int×Int) ⊕ ((Int))):=cnd (ilt v1 v0) (cnd (band (ile 0 (wr .i64 (dn .u64 (wr .u64 (wr .i64 (aB v1 v0))) 1))) (ilt (wr .i64 (dn .u64 (wr .u64 (wr .i64 (aB v1 v0))) 1)) (len p0))) (af (uD (aj p0 (itn (wr .i64 (dn .u64 (wr .u64 (wr .i64 (aB v1 v0))) 1)))).name p1) fun y0=>cnd (ilt y0 0) (some (Sum.inl (v0,wr .i64 (aB (wr .i64 (dn .u64 (wr .u64 (wr .i64 (aB v1 v0))) 1)) 1)))) (some (Sum.inl (wr .i64 (dn .u64 (wr .u64 (wr .i64 (aB v1 v0))) 1),v1)))) none) (some (Sum.inr v1))
def sK:dm:=LSh.spec ⟨85,[(0,.ro .file),(1,.str)],[(2,.fn 272 [])],[],[(10,.int .i64),(9,.int .i64)],[],[]⟩ [⟨.exit 0,[(9,.int .i64)],[],[]⟩] (sP [(9,3),(15,20)]) (fun p v=>eG p.1 p.2 v.1 v.2)
def xR (x0:aC) (x1:(List UInt8)):Option (Int×Bool):=af (bZ (fun v=>eG x0.files x1 v.1 v.2) LF (len x0.files,0)) fun y0=>cnd (bor (band (ile 0 y0) (ilt y0 (len x0.files))) (ak (ilt y0 (len x0.files)))) (cnd (ilt y0 (len x0.files)) (af (uD (aj x0.files (itn y0)).name x1) fun y1=>some (y0,band (ilt y0 (len x0.files)) (ieq y1 0))) (some (y0,bor (ilt y0 (len x0.files)) false))) none
def xH:aA:=mkSpec [.val .disk,.str] [.int .i64,.bool] true (fun x=>xR x.1 x.2)
theorem FM:bJ PG 228 xH:=okP [(273,IA)] [271,272] [(979252597007,60,sK)] ⟨Xj,trivial⟩ (fun K=>⟨fE K fun p v=>by kernel_rfl,trivial⟩) fun x=>by kernel_rfl
def fD (x0:(List Int)):Option ((List Int)):=GY x0
def yu:aA:=mkSpec [.ro .u8] [.buf .u8] true (fun x=>fD x)
theorem Iu:bJ PG 116 yu:=agB fun x=>by kernel_rfl
def DV (x0:aC) (x1:(List UInt8)):Option ((List Int)×Int):=af (uZ x0 [x1]) fun y0=>cnd (ak (ieq y0 0)) (cnd (ak (ieq y0 0)) (some ([],y0)) (cnd (ilt 0 (len x0.files)) (af (fD (aj x0.files 0).data) fun y1=>some (y1,0)) none)) (af (xR x0 x1) fun y2=>cnd (ak y2.2) (some ([],7)) (cnd (band (ile 0 y2.1) (ilt y2.1 (len x0.files))) (af (fD (aj x0.files (itn y2.1)).data) fun y3=>some (y3,0)) none))
def Fg:aA:=mkSpec [.val .disk,.str] [.buf .u8,.int .i64] true (fun x=>DV x.1 x.2)
theorem Ql:bJ PG 156 Fg:=okN [(227,ug),(228,xH),(116,yu)] [214] ⟨CU,FM,Iu,trivial⟩ fun x=>by kernel_rfl
def Ib (v0:Int) (v1:Int):Option ((Int×Int) ⊕ ((Int))):=cnd (ilt v0 4) (cnd (ieq (wr .u32 (jl .u32 v1 1)) 1) (some (Sum.inl (wr .i64 (aB v0 1),wr .u32 (gQ .u32 (dn .u32 v1 1) 3988292384)))) (some (Sum.inl (wr .i64 (aB v0 1),dn .u32 v1 1)))) (some (Sum.inr v1))
def abr:dm:=LSh.spec ⟨67,[],[],[],[(4,.int .i64),(0,.int .u32)],[],[]⟩ [⟨.exit 0,[(0,.int .u32)],[],[]⟩] (sP [(0,1),(3,12)]) (fun p v=>Ib v.1 v.2)
def dI (x0:Int):Option (Int):=af (bZ (fun v=>Ib v.1 v.2) LF (0,x0)) fun y0=>some y0
def Oq:aA:=mkSpec [.int .u32] [.int .u32] true (fun x=>dI x)
theorem aat:bJ PG 290 Oq:=okP [] [] [(290,26,abr)] trivial (fun K=>⟨fE K fun p v=>by kernel_rfl,trivial⟩) fun x=>by kernel_rfl
def XY (x0:DI):Option (akR):=af (dI (wr .u32 (jl .u32 (wr .u32 (gQ .u32 4294967295 (wr .u32 (wr .u8 (dn .i64 x0.gen 56))))) 15))) fun y0=>af (dI (wr .u32 (jl .u32 (wr .u32 (gQ .u32 y0 (dn .u32 (wr .u32 (gQ .u32 4294967295 (wr .u32 (wr .u8 (dn .i64 x0.gen 56))))) 4))) 15))) fun y1=>let t8:=(wr .u32 (gQ .u32 (wr .u32 (gQ .u32 y1 (dn .u32 (wr .u32 (gQ .u32 y0 (dn .u32 (wr .u32 (gQ .u32 4294967295 (wr .u32 (wr .u8 (dn .i64 x0.gen 56))))) 4))) 4))) (wr .u32 (wr .u8 (dn .i64 x0.gen 48)))));af (dI (wr .u32 (jl .u32 t8 15))) fun y2=>af (dI (wr .u32 (jl .u32 (wr .u32 (gQ .u32 y2 (dn .u32 t8 4))) 15))) fun y3=>let t5:=(wr .u32 (gQ .u32 (wr .u32 (gQ .u32 y3 (dn .u32 (wr .u32 (gQ .u32 y2 (dn .u32 t8 4))) 4))) (wr .u32 (wr .u8 (dn .i64 x0.gen 40)))));af (dI (wr .u32 (jl .u32 t5 15))) fun y4=>af (dI (wr .u32 (jl .u32 (wr .u32 (gQ .u32 y4 (dn .u32 t5 4))) 15))) fun y5=>let t14:=(wr .u32 (gQ .u32 (wr .u32 (gQ .u32 y5 (dn .u32 (wr .u32 (gQ .u32 y4 (dn .u32 t5 4))) 4))) (wr .u32 (wr .u8 (dn .i64 x0.gen 32)))));af (dI (wr .u32 (jl .u32 t14 15))) fun y6=>af (dI (wr .u32 (jl .u32 (wr .u32 (gQ .u32 y6 (dn .u32 t14 4))) 15))) fun y7=>let t1:=(wr .u32 (gQ .u32 (wr .u32 (gQ .u32 y7 (dn .u32 (wr .u32 (gQ .u32 y6 (dn .u32 t14 4))) 4))) (wr .u32 (wr .u8 (dn .i64 x0.gen 24)))));af (dI (wr .u32 (jl .u32 t1 15))) fun y8=>af (dI (wr .u32 (jl .u32 (wr .u32 (gQ .u32 y8 (dn .u32 t1 4))) 15))) fun y9=>let t15:=(wr .u32 (gQ .u32 (wr .u32 (gQ .u32 y9 (dn .u32 (wr .u32 (gQ .u32 y8 (dn .u32 t1 4))) 4))) (wr .u32 (wr .u8 (dn .i64 x0.gen 16)))));af (dI (wr .u32 (jl .u32 t15 15))) fun y10=>af (dI (wr .u32 (jl .u32 (wr .u32 (gQ .u32 y10 (dn .u32 t15 4))) 15))) fun y11=>let t7:=(wr .u32 (gQ .u32 (wr .u32 (gQ .u32 y11 (dn .u32 (wr .u32 (gQ .u32 y10 (dn .u32 t15 4))) 4))) (wr .u32 (wr .u8 (dn .i64 x0.gen 8)))));af (dI (wr .u32 (jl .u32 t7 15))) fun y12=>af (dI (wr .u32 (jl .u32 (wr .u32 (gQ .u32 y12 (dn .u32 t7 4))) 15))) fun y13=>let t3:=(wr .u32 (gQ .u32 (wr .u32 (gQ .u32 y13 (dn .u32 (wr .u32 (gQ .u32 y12 (dn .u32 t7 4))) 4))) (wr .u32 (wr .u8 (dn .i64 x0.gen 0)))));af (dI (wr .u32 (jl .u32 t3 15))) fun y14=>af (dI (wr .u32 (jl .u32 (wr .u32 (gQ .u32 y14 (dn .u32 t3 4))) 15))) fun y15=>let t10:=(wr .u32 (gQ .u32 (wr .u32 (gQ .u32 y15 (dn .u32 (wr .u32 (gQ .u32 y14 (dn .u32 t3 4))) 4))) (wr .u32 (wr .u8 (dn .i64 x0.lsn 56)))));af (dI (wr .u32 (jl .u32 t10 15))) fun y16=>af (dI (wr .u32 (jl .u32 (wr .u32 (gQ .u32 y16 (dn .u32 t10 4))) 15))) fun y17=>let t0:=(wr .u32 (gQ .u32 (wr .u32 (gQ .u32 y17 (dn .u32 (wr .u32 (gQ .u32 y16 (dn .u32 t10 4))) 4))) (wr .u32 (wr .u8 (dn .i64 x0.lsn 48)))));af (dI (wr .u32 (jl .u32 t0 15))) fun y18=>af (dI (wr .u32 (jl .u32 (wr .u32 (gQ .u32 y18 (dn .u32 t0 4))) 15))) fun y19=>let t11:=(wr .u32 (gQ .u32 (wr .u32 (gQ .u32 y19 (dn .u32 (wr .u32 (gQ .u32 y18 (dn .u32 t0 4))) 4))) (wr .u32 (wr .u8 (dn .i64 x0.lsn 40)))));af (dI (wr .u32 (jl .u32 t11 15))) fun y20=>af (dI (wr .u32 (jl .u32 (wr .u32 (gQ .u32 y20 (dn .u32 t11 4))) 15))) fun y21=>let t6:=(wr .u32 (gQ .u32 (wr .u32 (gQ .u32 y21 (dn .u32 (wr .u32 (gQ .u32 y20 (dn .u32 t11 4))) 4))) (wr .u32 (wr .u8 (dn .i64 x0.lsn 32)))));af (dI (wr .u32 (jl .u32 t6 15))) fun y22=>af (dI (wr .u32 (jl .u32 (wr .u32 (gQ .u32 y22 (dn .u32 t6 4))) 15))) fun y23=>let t12:=(wr .u32 (gQ .u32 (wr .u32 (gQ .u32 y23 (dn .u32 (wr .u32 (gQ .u32 y22 (dn .u32 t6 4))) 4))) (wr .u32 (wr .u8 (dn .i64 x0.lsn 24)))));af (dI (wr .u32 (jl .u32 t12 15))) fun y24=>af (dI (wr .u32 (jl .u32 (wr .u32 (gQ .u32 y24 (dn .u32 t12 4))) 15))) fun y25=>let t2:=(wr .u32 (gQ .u32 (wr .u32 (gQ .u32 y25 (dn .u32 (wr .u32 (gQ .u32 y24 (dn .u32 t12 4))) 4))) (wr .u32 (wr .u8 (dn .i64 x0.lsn 16)))));af (dI (wr .u32 (jl .u32 t2 15))) fun y26=>af (dI (wr .u32 (jl .u32 (wr .u32 (gQ .u32 y26 (dn .u32 t2 4))) 15))) fun y27=>let t13:=(wr .u32 (gQ .u32 (wr .u32 (gQ .u32 y27 (dn .u32 (wr .u32 (gQ .u32 y26 (dn .u32 t2 4))) 4))) (wr .u32 (wr .u8 (dn .i64 x0.lsn 8)))));af (dI (wr .u32 (jl .u32 t13 15))) fun y28=>af (dI (wr .u32 (jl .u32 (wr .u32 (gQ .u32 y28 (dn .u32 t13 4))) 15))) fun y29=>let t4:=(wr .u32 (gQ .u32 (wr .u32 (gQ .u32 y29 (dn .u32 (wr .u32 (gQ .u32 y28 (dn .u32 t13 4))) 4))) (wr .u32 (wr .u8 (dn .i64 x0.lsn 0)))));af (dI (wr .u32 (jl .u32 t4 15))) fun y30=>af (dI (wr .u32 (jl .u32 (wr .u32 (gQ .u32 y30 (dn .u32 t4 4))) 15))) fun y31=>let t9:=(wr .u32 (gQ .u32 4294967295 (wr .u32 (gQ .u32 y31 (dn .u32 (wr .u32 (gQ .u32 y30 (dn .u32 t4 4))) 4)))));some (akR.mk (wr .u8 (dn .i64 x0.gen 56)) (wr .u8 (dn .i64 x0.gen 48)) (wr .u8 (dn .i64 x0.gen 40)) (wr .u8 (dn .i64 x0.gen 32)) (wr .u8 (dn .i64 x0.gen 24)) (wr .u8 (dn .i64 x0.gen 16)) (wr .u8 (dn .i64 x0.gen 8)) (wr .u8 (dn .i64 x0.gen 0)) (wr .u8 (dn .i64 x0.lsn 56)) (wr .u8 (dn .i64 x0.lsn 48)) (wr .u8 (dn .i64 x0.lsn 40)) (wr .u8 (dn .i64 x0.lsn 32)) (wr .u8 (dn .i64 x0.lsn 24)) (wr .u8 (dn .i64 x0.lsn 16)) (wr .u8 (dn .i64 x0.lsn 8)) (wr .u8 (dn .i64 x0.lsn 0)) (wr .u8 (dn .u32 t9 0)) (wr .u8 (dn .u32 t9 8)) (wr .u8 (dn .u32 t9 16)) (wr .u8 (dn .u32 t9 24)))
def Rx:aA:=mkSpec [.val .slot] [.val .a20] true (fun x=>XY x)
theorem adA:bJ PG 251 Rx:=okN [(290,Oq)] [218,259] ⟨aat,trivial⟩ fun x=>by kernel_rfl
def YN (x0:DI):Option (Bool):=some (band (band (band (ile 1 x0.gen) (ile x0.gen 1000000000)) (ile 0 x0.lsn)) (ile x0.lsn 1000000000))
def RH:aA:=mkSpec [.val .slot] [.bool] true (fun x=>YN x)
theorem adC:bJ PG 252 RH:=okN [] [] trivial fun x=>by kernel_rfl
def H8 (x0:(List Int)):Option (DI×Int):=cnd (ak (ieq (len x0) 20)) (some (DI.mk 0 0,2)) (cnd (ilt 0 (len x0)) (cnd (ilt 8 (len x0)) (cnd (ilt 1 (len x0)) (cnd (ilt 9 (len x0)) (cnd (ilt 2 (len x0)) (cnd (ilt 10 (len x0)) (cnd (ilt 3 (len x0)) (cnd (ilt 11 (len x0)) (cnd (ilt 4 (len x0)) (cnd (ilt 12 (len x0)) (cnd (ilt 5 (len x0)) (cnd (ilt 13 (len x0)) (cnd (ilt 6 (len x0)) (cnd (ilt 14 (len x0)) (cnd (ilt 7 (len x0)) (cnd (ilt 15 (len x0)) (af (XY (DI.mk (wr .i64 (ior .i64 (wr .i64 (qc .i64 (wr .i64 (ior .i64 (wr .i64 (qc .i64 (wr .i64 (ior .i64 (wr .i64 (qc .i64 (wr .i64 (ior .i64 (wr .i64 (qc .i64 (wr .i64 (ior .i64 (wr .i64 (qc .i64 (wr .i64 (ior .i64 (wr .i64 (qc .i64 (wr .i64 (ior .i64 (wr .i64 (qc .i64 (wr .i64 (ior .i64 0 (wr .i64 (aj x0 0)))) 8)) (wr .i64 (aj x0 1)))) 8)) (wr .i64 (aj x0 2)))) 8)) (wr .i64 (aj x0 3)))) 8)) (wr .i64 (aj x0 4)))) 8)) (wr .i64 (aj x0 5)))) 8)) (wr .i64 (aj x0 6)))) 8)) (wr .i64 (aj x0 7)))) (wr .i64 (ior .i64 (wr .i64 (qc .i64 (wr .i64 (ior .i64 (wr .i64 (qc .i64 (wr .i64 (ior .i64 (wr .i64 (qc .i64 (wr .i64 (ior .i64 (wr .i64 (qc .i64 (wr .i64 (ior .i64 (wr .i64 (qc .i64 (wr .i64 (ior .i64 (wr .i64 (qc .i64 (wr .i64 (ior .i64 (wr .i64 (qc .i64 (wr .i64 (ior .i64 0 (wr .i64 (aj x0 8)))) 8)) (wr .i64 (aj x0 9)))) 8)) (wr .i64 (aj x0 10)))) 8)) (wr .i64 (aj x0 11)))) 8)) (wr .i64 (aj x0 12)))) 8)) (wr .i64 (aj x0 13)))) 8)) (wr .i64 (aj x0 14)))) 8)) (wr .i64 (aj x0 15)))))) fun y0=>cnd (ile 20 (len x0)) (cnd (ak (band (ieq y0.a0 (aj x0 0)) (band (ieq y0.a1 (aj x0 1)) (band (ieq y0.a2 (aj x0 2)) (band (ieq y0.a3 (aj x0 3)) (band (ieq y0.a4 (aj x0 4)) (band (ieq y0.a5 (aj x0 5)) (band (ieq y0.a6 (aj x0 6)) (band (ieq y0.a7 (aj x0 7)) (band (ieq y0.a8 (aj x0 8)) (band (ieq y0.a9 (aj x0 9)) (band (ieq y0.a10 (aj x0 10)) (band (ieq y0.a11 (aj x0 11)) (band (ieq y0.a12 (aj x0 12)) (band (ieq y0.a13 (aj x0 13)) (band (ieq y0.a14 (aj x0 14)) (band (ieq y0.a15 (aj x0 15)) (band (ieq y0.a16 (aj x0 16)) (band (ieq y0.a17 (aj x0 17)) (band (ieq y0.a18 (aj x0 18)) (band (ieq y0.a19 (aj x0 19)) true))))))))))))))))))))) (some (DI.mk 0 0,10)) (af (YN (DI.mk (wr .i64 (ior .i64 (wr .i64 (qc .i64 (wr .i64 (ior .i64 (wr .i64 (qc .i64 (wr .i64 (ior .i64 (wr .i64 (qc .i64 (wr .i64 (ior .i64 (wr .i64 (qc .i64 (wr .i64 (ior .i64 (wr .i64 (qc .i64 (wr .i64 (ior .i64 (wr .i64 (qc .i64 (wr .i64 (ior .i64 (wr .i64 (qc .i64 (wr .i64 (ior .i64 0 (wr .i64 (aj x0 0)))) 8)) (wr .i64 (aj x0 1)))) 8)) (wr .i64 (aj x0 2)))) 8)) (wr .i64 (aj x0 3)))) 8)) (wr .i64 (aj x0 4)))) 8)) (wr .i64 (aj x0 5)))) 8)) (wr .i64 (aj x0 6)))) 8)) (wr .i64 (aj x0 7)))) (wr .i64 (ior .i64 (wr .i64 (qc .i64 (wr .i64 (ior .i64 (wr .i64 (qc .i64 (wr .i64 (ior .i64 (wr .i64 (qc .i64 (wr .i64 (ior .i64 (wr .i64 (qc .i64 (wr .i64 (ior .i64 (wr .i64 (qc .i64 (wr .i64 (ior .i64 (wr .i64 (qc .i64 (wr .i64 (ior .i64 (wr .i64 (qc .i64 (wr .i64 (ior .i64 0 (wr .i64 (aj x0 8)))) 8)) (wr .i64 (aj x0 9)))) 8)) (wr .i64 (aj x0 10)))) 8)) (wr .i64 (aj x0 11)))) 8)) (wr .i64 (aj x0 12)))) 8)) (wr .i64 (aj x0 13)))) 8)) (wr .i64 (aj x0 14)))) 8)) (wr .i64 (aj x0 15)))))) fun y1=>cnd (ak y1) (some (DI.mk 0 0,2)) (some (DI.mk (wr .i64 (ior .i64 (wr .i64 (qc .i64 (wr .i64 (ior .i64 (wr .i64 (qc .i64 (wr .i64 (ior .i64 (wr .i64 (qc .i64 (wr .i64 (ior .i64 (wr .i64 (qc .i64 (wr .i64 (ior .i64 (wr .i64 (qc .i64 (wr .i64 (ior .i64 (wr .i64 (qc .i64 (wr .i64 (ior .i64 (wr .i64 (qc .i64 (wr .i64 (ior .i64 0 (wr .i64 (aj x0 0)))) 8)) (wr .i64 (aj x0 1)))) 8)) (wr .i64 (aj x0 2)))) 8)) (wr .i64 (aj x0 3)))) 8)) (wr .i64 (aj x0 4)))) 8)) (wr .i64 (aj x0 5)))) 8)) (wr .i64 (aj x0 6)))) 8)) (wr .i64 (aj x0 7)))) (wr .i64 (ior .i64 (wr .i64 (qc .i64 (wr .i64 (ior .i64 (wr .i64 (qc .i64 (wr .i64 (ior .i64 (wr .i64 (qc .i64 (wr .i64 (ior .i64 (wr .i64 (qc .i64 (wr .i64 (ior .i64 (wr .i64 (qc .i64 (wr .i64 (ior .i64 (wr .i64 (qc .i64 (wr .i64 (ior .i64 (wr .i64 (qc .i64 (wr .i64 (ior .i64 0 (wr .i64 (aj x0 8)))) 8)) (wr .i64 (aj x0 9)))) 8)) (wr .i64 (aj x0 10)))) 8)) (wr .i64 (aj x0 11)))) 8)) (wr .i64 (aj x0 12)))) 8)) (wr .i64 (aj x0 13)))) 8)) (wr .i64 (aj x0 14)))) 8)) (wr .i64 (aj x0 15)))),0)))) none) none) none) none) none) none) none) none) none) none) none) none) none) none) none) none) none)
def O1:aA:=mkSpec [.ro .u8] [.val .slot,.int .i64] true (fun x=>H8 x)
theorem abI:bJ PG 213 O1:=okN [(251,Rx),(252,RH)] [] ⟨adA,adC,trivial⟩ fun x=>by kernel_rfl
def aar (x0:aC):Option (DI×Int):=af (pO x0) fun y0=>cnd (ak y0) (some (DI.mk 0 0,1)) (cnd x0.down (some (DI.mk 0 0,9)) (af (MW 0) fun y1=>af (DV x0 y1) fun y2=>af (H8 y2.1) fun y3=>cnd (band (band (ieq y3.2 0) (ieq (Jl y3.1.gen 2) 0)) (ilt 0 y3.1.gen)) (af (MW 1) fun y4=>af (DV x0 y4) fun y5=>af (H8 y5.1) fun y6=>cnd (band (band (ieq y6.2 0) (ieq (Jl y6.1.gen 2) 1)) (ilt y3.1.gen y6.1.gen)) (cnd (ieq y6.1.gen 0) (some (DI.mk 0 0,7)) (some (y6.1,0))) (cnd (ieq y3.1.gen 0) (some (DI.mk 0 0,7)) (some (y3.1,0)))) (af (MW 1) fun y7=>af (DV x0 y7) fun y8=>af (H8 y8.1) fun y9=>cnd (band (band (ieq y9.2 0) (ieq (Jl y9.1.gen 2) 1)) (ilt 0 y9.1.gen)) (cnd (ieq y9.1.gen 0) (some (DI.mk 0 0,7)) (some (y9.1,0))) (some (DI.mk 0 0,7)))))
def Tj:aA:=mkSpec [.val .disk] [.val .slot,.int .i64] true (fun x=>aar x)
theorem afh:bJ PG 155 Tj:=okN [(44,oC),(212,Ui),(156,Fg),(213,O1)] [] ⟨vY,ae9,Ql,abI,trivial⟩ fun x=>by kernel_rfl
def ou (x0:Int) (x1:Int):Option (List UInt8):=aln x0 x1
def yF:aA:=mkSpec [.int .i64,.int .i64] [.str] true (fun x=>ou x.1 x.2)
def Si:Go.Shelf.Ren:=⟨fun | 173=>215 | 246=>253 | 283=>283 | 284=>284 | 285=>285 | 286=>286 | 129=>299 | 317=>298 | 318=>300 | 319=>301 | 320=>302 | 337=>308 | 338=>309 | n=>n,fun | 2=>2 | 3=>3 | 9=>9 | 4=>4 | 171=>353 | 0=>0 | 53=>205 | 37=>119 | 5=>5 | 173=>356 | 212=>368 | 51=>202 | 20=>20 | 213=>369 | 46=>139 | 232=>378 | 233=>379 | n=>n,fun | 17=>0 | 18=>2 | 19=>3 | n=>n⟩
theorem Ew:Go.Proofs.LaysM.n173 PG Si where
 mixed:=by kernel_rfl
 f129:=by kernel_rfl
 f173:=by kernel_rfl
 f246:=by kernel_rfl
 f283:=by kernel_rfl
 f284:=by kernel_rfl
 f285:=by kernel_rfl
 f286:=by kernel_rfl
 f317:=by kernel_rfl
 f318:=by kernel_rfl
 f319:=by kernel_rfl
 f320:=by kernel_rfl
 f337:=by kernel_rfl
 f338:=by kernel_rfl
 t0:=by kernel_rfl
 a0:=fun w=>by kernel_rfl
 z0:=fun w=>by kernel_rfl
 v0:=fun w=>by kernel_rfl
 t2:=by kernel_rfl
 a2:=fun w=>by kernel_rfl
 z2:=fun w=>by kernel_rfl
 v2:=fun w=>by kernel_rfl
 t3:=by kernel_rfl
 a3:=fun w=>by kernel_rfl
 z3:=fun w=>by kernel_rfl
 v3:=fun w=>by kernel_rfl
 t4:=by kernel_rfl
 a4:=fun w=>by kernel_rfl
 z4:=fun w=>by kernel_rfl
 v4:=fun w=>by kernel_rfl
 t5:=by kernel_rfl
 a5:=fun w=>by kernel_rfl
 z5:=fun w=>by kernel_rfl
 v5:=fun w=>by kernel_rfl
 t9:=by kernel_rfl
 a9:=fun w=>by kernel_rfl
 z9:=fun w=>by kernel_rfl
 v9:=fun w=>by kernel_rfl
 t20:=by kernel_rfl
 a20:=fun w=>by kernel_rfl
 z20:=fun w=>by kernel_rfl
 v20:=fun w=>by kernel_rfl
 t37:=by kernel_rfl
 a37:=fun w=>by kernel_rfl
 z37:=fun w=>by kernel_rfl
 v37:=fun w=>by kernel_rfl
 t46:=by kernel_rfl
 a46:=fun w=>by kernel_rfl
 z46:=fun w=>by kernel_rfl
 v46:=fun w=>by kernel_rfl
 t51:=by kernel_rfl
 a51:=fun w=>by kernel_rfl
 z51:=fun w=>by kernel_rfl
 v51:=fun w=>by kernel_rfl
 t53:=by kernel_rfl
 a53:=fun w=>by kernel_rfl
 z53:=fun w=>by kernel_rfl
 v53:=fun w=>by kernel_rfl
 t171:=by kernel_rfl
 a171:=fun w=>by kernel_rfl
 z171:=fun w=>by kernel_rfl
 v171:=fun w=>by kernel_rfl
 t173:=by kernel_rfl
 a173:=fun w=>by kernel_rfl
 z173:=fun w=>by kernel_rfl
 v173:=fun w=>by kernel_rfl
 t212:=by kernel_rfl
 a212:=fun w=>by kernel_rfl
 z212:=fun w=>by kernel_rfl
 v212:=fun w=>by kernel_rfl
 t213:=by kernel_rfl
 a213:=fun w=>by kernel_rfl
 z213:=fun w=>by kernel_rfl
 t232:=by kernel_rfl
 a232:=fun w=>by kernel_rfl
 z232:=fun w=>by kernel_rfl
 v232:=fun w=>by kernel_rfl
 t233:=by kernel_rfl
 a233:=fun w=>by kernel_rfl
 z233:=fun w=>by kernel_rfl
 v233:=fun w=>by kernel_rfl
 g17:=by kernel_rfl
 g18:=by kernel_rfl
 g19:=by kernel_rfl
 i0:=by kernel_rfl
 i2:=by kernel_rfl
 i3:=by kernel_rfl
 i4:=by kernel_rfl
 i5:=by kernel_rfl
 i9:=by kernel_rfl
 i20:=by kernel_rfl
 i37:=by kernel_rfl
 i46:=by kernel_rfl
 i51:=by kernel_rfl
 i53:=by kernel_rfl
 i171:=by kernel_rfl
 i173:=by kernel_rfl
 i212:=by kernel_rfl
 i232:=by kernel_rfl
 i233:=by kernel_rfl
 m17:=by kernel_rfl
 m18:=by kernel_rfl
 m19:=by kernel_rfl
theorem Ij:bJ PG 215 yF:=akE G7 Ew (by kernel_rfl) (g:=0) (by kernel_rfl) (by simp [glL]) fun x y h=>h
def rM (x0:(List UInt8)) (x1:Int):Option (List UInt8):=ak4 x0 x1
def BR:aA:=mkSpec [.str,.int .i64] [.str] true (fun x=>rM x.1 x.2)
def KL:Go.Shelf.Ren:=⟨fun | 105=>216 | 212=>89 | 99=>254 | 165=>255 | 166=>256 | 170=>257 | 169=>258 | 263=>152 | 264=>153 | 206=>287 | 240=>288 | 241=>289 | 276=>303 | 277=>304 | n=>n,fun | 9=>9 | 3=>3 | 4=>4 | 20=>20 | 0=>0 | 46=>139 | 109=>140 | 5=>5 | 72=>318 | 76=>322 | 51=>202 | 146=>203 | 53=>205 | 148=>206 | 70=>316 | 37=>119 | 75=>321 | 127=>358 | 164=>372 | 71=>317 | 74=>320 | 80=>325 | n=>n,fun | n=>n⟩
theorem IV:Go.Proofs.Lays.n105 PG KL where
 mixed:=by kernel_rfl
 f99:=by kernel_rfl
 f105:=by kernel_rfl
 f165:=by kernel_rfl
 f166:=by kernel_rfl
 f169:=by kernel_rfl
 f170:=by kernel_rfl
 f206:=by kernel_rfl
 f212:=by kernel_rfl
 f240:=by kernel_rfl
 f241:=by kernel_rfl
 f263:=by kernel_rfl
 f264:=by kernel_rfl
 f276:=by kernel_rfl
 f277:=by kernel_rfl
 t0:=by kernel_rfl
 a0:=fun w=>by kernel_rfl
 z0:=fun w=>by kernel_rfl
 v0:=fun w=>by kernel_rfl
 t3:=by kernel_rfl
 a3:=fun w=>by kernel_rfl
 z3:=fun w=>by kernel_rfl
 v3:=fun w=>by kernel_rfl
 t4:=by kernel_rfl
 a4:=fun w=>by kernel_rfl
 z4:=fun w=>by kernel_rfl
 v4:=fun w=>by kernel_rfl
 t5:=by kernel_rfl
 a5:=fun w=>by kernel_rfl
 z5:=fun w=>by kernel_rfl
 v5:=fun w=>by kernel_rfl
 t9:=by kernel_rfl
 a9:=fun w=>by kernel_rfl
 z9:=fun w=>by kernel_rfl
 v9:=fun w=>by kernel_rfl
 t20:=by kernel_rfl
 a20:=fun w=>by kernel_rfl
 z20:=fun w=>by kernel_rfl
 v20:=fun w=>by kernel_rfl
 t37:=by kernel_rfl
 a37:=fun w=>by kernel_rfl
 z37:=fun w=>by kernel_rfl
 v37:=fun w=>by kernel_rfl
 t46:=by kernel_rfl
 a46:=fun w=>by kernel_rfl
 z46:=fun w=>by kernel_rfl
 v46:=fun w=>by kernel_rfl
 t51:=by kernel_rfl
 a51:=fun w=>by kernel_rfl
 z51:=fun w=>by kernel_rfl
 v51:=fun w=>by kernel_rfl
 t53:=by kernel_rfl
 a53:=fun w=>by kernel_rfl
 z53:=fun w=>by kernel_rfl
 v53:=fun w=>by kernel_rfl
 t70:=by kernel_rfl
 a70:=fun w=>by kernel_rfl
 z70:=fun w=>by kernel_rfl
 v70:=fun w=>by kernel_rfl
 t72:=by kernel_rfl
 a72:=fun w=>by kernel_rfl
 z72:=fun w=>by kernel_rfl
 v72:=fun w=>by kernel_rfl
 t75:=by kernel_rfl
 a75:=fun w=>by kernel_rfl
 z75:=fun w=>by kernel_rfl
 v75:=fun w=>by kernel_rfl
 t76:=by kernel_rfl
 a76:=fun w=>by kernel_rfl
 z76:=fun w=>by kernel_rfl
 v76:=fun w=>by kernel_rfl
 t109:=by kernel_rfl
 a109:=fun w=>by kernel_rfl
 z109:=fun w=>by kernel_rfl
 v109:=fun w=>by kernel_rfl
 t127:=by kernel_rfl
 a127:=fun w=>by kernel_rfl
 z127:=fun w=>by kernel_rfl
 v127:=fun w=>by kernel_rfl
 t146:=by kernel_rfl
 a146:=fun w=>by kernel_rfl
 z146:=fun w=>by kernel_rfl
 v146:=fun w=>by kernel_rfl
 t148:=by kernel_rfl
 a148:=fun w=>by kernel_rfl
 z148:=fun w=>by kernel_rfl
 v148:=fun w=>by kernel_rfl
 t164:=by kernel_rfl
 a164:=fun w=>by kernel_rfl
 z164:=fun w=>by kernel_rfl
 v164:=fun w=>by kernel_rfl
theorem Eu:Go.Proofs.Builder.Extra PG KL where
 sizeBuilder:=by kernel_rfl
 liesBuilder:=by kernel_rfl
 t5:=by kernel_rfl
 a5:=fun w=>by kernel_rfl
 z5:=fun w=>by kernel_rfl
 v5:=fun w=>by kernel_rfl
 infoByte:=by kernel_rfl
 cellsByte:=by kernel_rfl
 sizeByte:=by kernel_rfl
 neB5:=by decide
theorem NG:bJ PG 216 BR:=ak7 G7 IV Eu (by kernel_rfl) fun x y h=>h
def Xw (x0:Int):Option ((List UInt8)):=cnd (bor (ilt x0 1) (ilt 1000000000 x0)) (some []) (af (ou x0 10) fun y0=>af (rM [(UInt8.ofNat 48)] (wr .i64 (aV 10 (len y0)))) fun y1=>cnd (ile (aB 5 (len y1)) 68719476736) (cnd (ile (aB (len (aQ [(UInt8.ofNat 115),(UInt8.ofNat 110),(UInt8.ofNat 97),(UInt8.ofNat 112),(UInt8.ofNat 46)] y1)) (len y0)) 68719476736) (some (aQ (aQ [(UInt8.ofNat 115),(UInt8.ofNat 110),(UInt8.ofNat 97),(UInt8.ofNat 112),(UInt8.ofNat 46)] y1) y0)) none) none)
def RJ:aA:=mkSpec [.int .i64] [.str] true (fun x=>Xw x)
theorem ady:bJ PG 157 RJ:=okN [(215,yF),(216,BR)] [] ⟨Ij,NG,trivial⟩ fun x=>by kernel_rfl
def abP (x0:Int) (x1:Int) (x2:Int):Option (Int):=some (wr .i64 (aB (wr .i64 (aB (wr .i64 (aB (wr .i64 (aB 32 (wr .i64 (cO x2 61)))) (wr .i64 (cO (wr .i64 (cO x0 x1)) 32)))) (wr .i64 (cO x0 8)))) 4))
def VR:aA:=mkSpec [.int .i64,.int .i64,.int .i64] [.int .i64] true (fun x=>abP x.1 x.2.1 x.2.2)
theorem ah8:bJ PG 217 VR:=okN [] [] trivial fun x=>by kernel_rfl
def Ia (p0:Int) (p1:(List Int)) (v0:Int) (v1:Int):Option ((Int×Int) ⊕ ((Int))):=cnd (ilt v0 p0) (cnd (band (ile 0 v0) (ilt v0 (len p1))) (af (dI (wr .u32 (jl .u32 (wr .u32 (gQ .u32 v1 (wr .u32 (aj p1 (itn v0))))) 15))) fun y0=>af (dI (wr .u32 (jl .u32 (wr .u32 (gQ .u32 y0 (dn .u32 (wr .u32 (gQ .u32 v1 (wr .u32 (aj p1 (itn v0))))) 4))) 15))) fun y1=>some (Sum.inl (wr .i64 (aB v0 1),wr .u32 (gQ .u32 y1 (dn .u32 (wr .u32 (gQ .u32 y0 (dn .u32 (wr .u32 (gQ .u32 v1 (wr .u32 (aj p1 (itn v0))))) 4))) 4))))) none) (some (Sum.inr v1))
def acd:dm:=LSh.spec ⟨73,[(11,.int .i64),(10,.ro .u8)],[],[],[(12,.int .i64),(5,.int .u32)],[],[]⟩ [⟨.exit 0,[(5,.int .u32)],[],[]⟩] (sP [(5,1),(7,1),(12,21)]) (fun p v=>Ia p.1 p.2 v.1 v.2)
def Wj (x0:Int) (x1:(List Int)):Option (Int):=af (bZ (fun v=>Ia (len x1) x1 v.1 v.2) LF (0,wr .u32 (gQ .u32 4294967295 x0))) fun y0=>some (wr .u32 (gQ .u32 4294967295 y0))
def VZ:aA:=mkSpec [.int .u32,.ro .u8] [.int .u32] true (fun x=>Wj x.1 x.2)
theorem ahc:bJ PG 259 VZ:=okP [(290,Oq)] [] [(259,58,acd)] ⟨aat,trivial⟩ (fun K=>⟨fE K fun p v=>by kernel_rfl,trivial⟩) fun x=>by kernel_rfl
def Kr (x0:(List Int)):Option (Int):=af (Wj 0 x0) fun y0=>some y0
def JY:aA:=mkSpec [.ro .u8] [.int .u32] true (fun x=>Kr x)
theorem Xa:bJ PG 218 JY:=okN [(259,VZ)] [] ⟨ahc,trivial⟩ fun x=>by kernel_rfl
def Jv (p0:Int) (p1:(List Int)) (v0:Int) (v1:Int):Option ((Int×Int) ⊕ ((Int))):=cnd (ilt v0 p0) (cnd (band (ile 0 v0) (ilt v0 (len p1))) (some (Sum.inl (wr .i64 (aB v0 1),wr .i64 (ior .i64 (wr .i64 (qc .i64 v1 8)) (wr .i64 (aj p1 (itn v0))))))) none) (some (Sum.inr v1))
def Um:dm:=LSh.spec ⟨76,[(14,.int .i64),(13,.ro .u8)],[],[],[(15,.int .i64),(5,.int .i64)],[],[]⟩ [⟨.exit 0,[(5,.int .i64)],[],[]⟩] (sP [(5,1),(7,1),(15,10)]) (fun p v=>Jv p.1 p.2 v.1 v.2)
def dY (x0:jW) (x1:Int):Option (jW×(Int)):=cnd (band (ile 0 x1) (ile x1 (len x0.rest))) (af (bZ (fun v=>Jv (len (cZ x0.rest (itn x1))) (cZ x0.rest (itn x1)) v.1 v.2) LF (0,0)) fun y0=>cnd (band (ile 0 x1) (ile x1 (len x0.rest))) (some (jW.mk (dR x0.rest (itn x1)) x0.odd,y0)) none) none
def wM:aA:=BA .reader [.int .i64] [.int .i64] (fun x=>dY x.1 x.2)
theorem Ez:bJ PG 262 wM:=okB [] [] [(262,58,Um)] trivial (fun K=>⟨fE K fun p v=>by kernel_rfl,trivial⟩) fun x=>by kernel_rfl
def jT (x0:jW):Option (jW×(Int)):=af (dY x0 1) fun y0=>some y0
def wW:aA:=BA .reader [] [.int .i64] (fun x=>jT x.1)
theorem FT:bJ PG 260 wW:=okB [(262,wM)] [] [] ⟨Ez,trivial⟩ (fun _=>trivial) fun x=>by kernel_rfl
def EC (x0:jW):Option (jW×(Bool)):=af (jT x0) fun y0=>some (jW.mk y0.1.rest (bor y0.1.odd (ilt 1 y0.2)),ieq y0.2 1)
def Bh:aA:=BA .reader [] [.bool] (fun x=>EC x.1)
theorem Lc:bJ PG 261 Bh:=okB [(260,wW)] [] [] ⟨FT,trivial⟩ (fun _=>trivial) fun x=>by kernel_rfl
def KJ (x0:jW):Option (jW×(ax)):=af (dY x0 8) fun y0=>af (jT y0.1) fun y1=>af (jT y1.1) fun y2=>af (jT y2.1) fun y3=>af (jT y3.1) fun y4=>af (dY y4.1 8) fun y5=>af (dY y5.1 8) fun y6=>af (dY y6.1 8) fun y7=>af (dY y7.1 8) fun y8=>af (dY y8.1 8) fun y9=>af (dY y9.1 8) fun y10=>af (EC y10.1) fun y11=>some (y11.1,ax.mk y0.2 y1.2 y2.2 y3.2 y5.2 y6.2 y7.2 y4.2 y8.2 y9.2 y10.2 y11.2)
def F5:aA:=BA .reader [] [.val .order] (fun x=>KJ x.1)
theorem Vm:bJ PG 263 F5:=okB [(262,wM),(260,wW),(261,Bh)] [] [] ⟨Ez,FT,Lc,trivial⟩ (fun _=>trivial) fun x=>by kernel_rfl
def YD (x0:ay) (x1:Int) (x2:Int):Option (Int):=cnd (bor (bor (bor (ilt x1 0) (ile x0.accounts x1)) (ilt x2 0)) (ile x0.symbols x2)) (some (-1)) (af (dw x0 x1 x2) fun y0=>some y0)
def Rh:aA:=mkSpec [.val .state,.int .i64,.int .i64] [.int .i64] true (fun x=>YD x.1 x.2.1 x.2.2)
theorem adz:bJ PG 264 Rh:=okN [(183,mQ)] [] ⟨sZ,trivial⟩ fun x=>by kernel_rfl
def Nk (p0:Int) (p1:(List Int)) (p2:Int) (v0:Int) (v1:Int) (v2:ay):Option ((Int×Int×ay) ⊕ ((Int×ay) ⊕ ((Int×ay)))):=cnd (ilt v0 p0) (cnd (band (ile 0 v0) (ilt v0 (len p1))) (cnd (ile 0 (wr .i64 (cO 8 v0))) (cnd (ak (ieq (aj p1 (itn v0)) (wr .u8 (dn .u32 p2 (wr .i64 (cO 8 v0)))))) (some (Sum.inr (Sum.inl (10,ay.mk 0 0 [] [] [] [] false 0 0 0)))) (some (Sum.inl (wr .i64 (aB v0 1),v1,v2)))) none) none) (some (Sum.inr (Sum.inr (v1,v2))))
def Xr:dm:=LSh.spec ⟨136,[(77,.int .i64),(76,.ro .u8),(9,.int .u32)],[(2,.mp 8 0)],[],[(78,.int .i64),(3,.int .i64)],[(8,[.val .state])],[]⟩ [⟨.ret,[(3,.int .i64)],[(8,[.val .state])],[]⟩,⟨.exit 0,[(3,.int .i64)],[(8,[.val .state])],[]⟩] (sP [(3,1),(10,2),(78,14)]) (fun p v=>Nk p.1 p.2.1 p.2.2 v.1 v.2.1 v.2.2)
def qf (p0:Int) (v0:Int) (v1:Int) (v2:Int) (v3:(List ax)) (v4:(List aT)) (v5:(List fA)) (v6:(List Int)) (v7:Bool) (v8:Int) (v9:Int) (v10:Int) (v11:jW):Option ((Int×Int×Int×(List ax)×(List aT)×(List fA)×(List Int)×Bool×Int×Int×Int×jW) ⊕ ((Int×Int×(List ax)×(List aT)×(List fA)×(List Int)×Bool×Int×Int×Int×jW))):=cnd (ilt v0 p0) (af (KJ v11) fun y0=>cnd (band (ile 0 v0) (ilt v0 (len v3))) (some (Sum.inl (wr .i64 (aB v0 1),v1,v2,dN v3 (itn v0) y0.2,v4,v5,v6,v7,v8,v9,v10,y0.1))) none) (some (Sum.inr (v1,v2,v3,v4,v5,v6,v7,v8,v9,v10,v11)))
def Ae:dm:=LSh.spec ⟨245,[(28,.int .i64)],[(3,.mp 1264 0),(0,.mp 1152 0)],[],[(29,.int .i64)],[(1264,[.int .i64,.int .i64,.buf .order,.buf .cell,.buf .expo,.buf .i64,.bool,.int .i64,.int .i64,.int .i64]),(1152,[.val .reader])],[]⟩ [⟨.exit 0,[],[(1264,[.int .i64,.int .i64,.buf .order,.buf .cell,.buf .expo,.buf .i64,.bool,.int .i64,.int .i64,.int .i64]),(1152,[.val .reader])],[]⟩] (sP [(4,1),(29,10)]) (fun p v=>qf p v.1 v.2.1 v.2.2.1 v.2.2.2.1 v.2.2.2.2.1 v.2.2.2.2.2.1 v.2.2.2.2.2.2.1 v.2.2.2.2.2.2.2.1 v.2.2.2.2.2.2.2.2.1 v.2.2.2.2.2.2.2.2.2.1 v.2.2.2.2.2.2.2.2.2.2.1 v.2.2.2.2.2.2.2.2.2.2.2)
def o8 (p0:Int) (v0:Int) (v1:Int) (v2:Int) (v3:(List ax)) (v4:(List aT)) (v5:(List fA)) (v6:(List Int)) (v7:Bool) (v8:Int) (v9:Int) (v10:Int) (v11:jW):Option ((Int×Int×Int×(List ax)×(List aT)×(List fA)×(List Int)×Bool×Int×Int×Int×jW) ⊕ ((Int×Int×(List ax)×(List aT)×(List fA)×(List Int)×Bool×Int×Int×Int×jW))):=cnd (ilt v0 p0) (af (dY v11 8) fun y0=>cnd (band (ile 0 v0) (ilt v0 (len v4))) (some (Sum.inl (wr .i64 (aB v0 1),v1,v2,v3,dN v4 (itn v0) (aT.mk y0.2 (aj v4 (itn v0)).buy (aj v4 (itn v0)).sell (aj v4 (itn v0)).opn),v5,v6,v7,v8,v9,v10,y0.1))) none) (some (Sum.inr (v1,v2,v3,v4,v5,v6,v7,v8,v9,v10,v11)))
def zu:dm:=LSh.spec ⟨344,[(48,.int .i64)],[(3,.mp 1264 0),(0,.mp 1152 0)],[],[(49,.int .i64)],[(1264,[.int .i64,.int .i64,.buf .order,.buf .cell,.buf .expo,.buf .i64,.bool,.int .i64,.int .i64,.int .i64]),(1152,[.val .reader])],[]⟩ [⟨.exit 2,[],[(1264,[.int .i64,.int .i64,.buf .order,.buf .cell,.buf .expo,.buf .i64,.bool,.int .i64,.int .i64,.int .i64]),(1152,[.val .reader])],[]⟩] (sP [(5,1),(49,11)]) (fun p v=>o8 p v.1 v.2.1 v.2.2.1 v.2.2.2.1 v.2.2.2.2.1 v.2.2.2.2.2.1 v.2.2.2.2.2.2.1 v.2.2.2.2.2.2.2.1 v.2.2.2.2.2.2.2.2.1 v.2.2.2.2.2.2.2.2.2.1 v.2.2.2.2.2.2.2.2.2.2.1 v.2.2.2.2.2.2.2.2.2.2.2)
def o9 (p0:Int) (v0:Int) (v1:Int) (v2:Int) (v3:(List ax)) (v4:(List aT)) (v5:(List fA)) (v6:(List Int)) (v7:Bool) (v8:Int) (v9:Int) (v10:Int) (v11:jW):Option ((Int×Int×Int×(List ax)×(List aT)×(List fA)×(List Int)×Bool×Int×Int×Int×jW) ⊕ ((Int×Int×(List ax)×(List aT)×(List fA)×(List Int)×Bool×Int×Int×Int×jW))):=cnd (ilt v0 p0) (af (dY v11 8) fun y0=>af (dY y0.1 8) fun y1=>af (dY y1.1 8) fun y2=>cnd (ile (len (aQ v5 [fA.mk y0.2 y1.2 y2.2])) 68719476736) (some (Sum.inl (wr .i64 (aB v0 1),v1,v2,v3,v4,aQ v5 [fA.mk y0.2 y1.2 y2.2],v6,v7,v8,v9,v10,y2.1))) none) (some (Sum.inr (v1,v2,v3,v4,v5,v6,v7,v8,v9,v10,v11)))
def zF:dm:=LSh.spec ⟨435,[(62,.int .i64)],[(3,.mp 1264 0),(0,.mp 1152 0)],[],[(63,.int .i64)],[(1264,[.int .i64,.int .i64,.buf .order,.buf .cell,.buf .expo,.buf .i64,.bool,.int .i64,.int .i64,.int .i64]),(1152,[.val .reader])],[]⟩ [⟨.exit 4,[],[(1264,[.int .i64,.int .i64,.buf .order,.buf .cell,.buf .expo,.buf .i64,.bool,.int .i64,.int .i64,.int .i64]),(1152,[.val .reader])],[]⟩] (sP [(63,15)]) (fun p v=>o9 p v.1 v.2.1 v.2.2.1 v.2.2.2.1 v.2.2.2.2.1 v.2.2.2.2.2.1 v.2.2.2.2.2.2.1 v.2.2.2.2.2.2.2.1 v.2.2.2.2.2.2.2.2.1 v.2.2.2.2.2.2.2.2.2.1 v.2.2.2.2.2.2.2.2.2.2.1 v.2.2.2.2.2.2.2.2.2.2.2)
def pq (p0:Int) (v0:Int) (v1:Int) (v2:Int) (v3:(List ax)) (v4:(List aT)) (v5:(List fA)) (v6:(List Int)) (v7:Bool) (v8:Int) (v9:Int) (v10:Int) (v11:jW):Option ((Int×Int×Int×(List ax)×(List aT)×(List fA)×(List Int)×Bool×Int×Int×Int×jW) ⊕ ((Int×Int×(List ax)×(List aT)×(List fA)×(List Int)×Bool×Int×Int×Int×jW))):=cnd (ilt v0 p0) (af (dY v11 8) fun y0=>cnd (ile (len (aQ v6 [y0.2])) 68719476736) (some (Sum.inl (wr .i64 (aB v0 1),v1,v2,v3,v4,v5,aQ v6 [y0.2],v7,v8,v9,v10,y0.1))) none) (some (Sum.inr (v1,v2,v3,v4,v5,v6,v7,v8,v9,v10,v11)))
def zA:dm:=LSh.spec ⟨525,[(79,.int .i64)],[(3,.mp 1264 0),(0,.mp 1152 0)],[],[(80,.int .i64)],[(1264,[.int .i64,.int .i64,.buf .order,.buf .cell,.buf .expo,.buf .i64,.bool,.int .i64,.int .i64,.int .i64]),(1152,[.val .reader])],[]⟩ [⟨.exit 6,[],[(1264,[.int .i64,.int .i64,.buf .order,.buf .cell,.buf .expo,.buf .i64,.bool,.int .i64,.int .i64,.int .i64]),(1152,[.val .reader])],[]⟩] (sP [(80,10)]) (fun p v=>pq p v.1 v.2.1 v.2.2.1 v.2.2.2.1 v.2.2.2.2.1 v.2.2.2.2.2.1 v.2.2.2.2.2.2.1 v.2.2.2.2.2.2.2.1 v.2.2.2.2.2.2.2.2.1 v.2.2.2.2.2.2.2.2.2.1 v.2.2.2.2.2.2.2.2.2.2.1 v.2.2.2.2.2.2.2.2.2.2.2)
def xP (p0:Int) (v0:Int) (v1:Bool) (v2:Int) (v3:Int) (v4:Unit) (v5:Unit) (v6:Unit) (v7:Unit) (v8:Bool) (v9:Int) (v10:Int) (v11:Int) (v12:(List ax)) (v13:(List aT)) (v14:(List fA)) (v15:(List Int)):Option ((Int×Bool×Int×Int×Unit×Unit×Unit×Unit×Bool×Int×Int×Int×(List ax)×(List aT)×(List fA)×(List Int)) ⊕ ((Bool×Int×Int×Unit×Unit×Unit×Unit×Bool×Int×Int×Int×(List ax)×(List aT)×(List fA)×(List Int)) ⊕ ((Bool×Int×Int×Unit×Unit×Unit×Unit×Bool×Int×Int×Int×(List ax)×(List aT)×(List fA)×(List Int))))):=cnd (ilt v0 p0) (cnd (band (ile 0 v0) (ilt v0 (len v12))) (af (YD (ay.mk v2 v3 v12 v13 v14 v15 v8 v9 v10 v11) (aj v12 (itn v0)).account (aj v12 (itn v0)).symbol) fun y0=>cnd (ieq y0 (-1)) (some (Sum.inr (Sum.inl (false,v2,v3,PUnit.unit,PUnit.unit,PUnit.unit,PUnit.unit,v8,v9,v10,v11,v12,v13,v14,v15)))) (cnd (band (ile 0 y0) (ilt y0 (len v13))) (af (rF (aj v13 (itn y0)) (aj v12 (itn v0))) fun y1=>cnd (ak (ieq y1.2 0)) (some (Sum.inr (Sum.inl (false,v2,v3,PUnit.unit,PUnit.unit,PUnit.unit,PUnit.unit,v8,v9,v10,v11,v12,v13,v14,v15)))) (cnd (band (ile 0 y0) (ilt y0 (len v13))) (some (Sum.inl (wr .i64 (aB v0 1),v1,v2,v3,PUnit.unit,PUnit.unit,PUnit.unit,PUnit.unit,v8,v9,v10,v11,v12,dN v13 (itn y0) y1.1,v14,v15))) none)) none)) none) (some (Sum.inr (Sum.inr (v1,v2,v3,PUnit.unit,PUnit.unit,PUnit.unit,PUnit.unit,v8,v9,v10,v11,v12,v13,v14,v15))))
def GR:dm:=LSh.spec ⟨634,[(10,.int .i64)],[(9,.mf 4298),(1,.mp 4512 0)],[],[(11,.int .i64),(2,.bool)],[(4512,[.int .i64,.int .i64,.rf 4298,.rf 4299,.rf 4300,.rf 4301,.bool,.int .i64,.int .i64,.int .i64])],[(4298,.order),(4299,.cell),(4300,.expo),(4301,.i64)]⟩ [⟨.ret,[(2,.bool)],[(4512,[.int .i64,.int .i64,.rf 4298,.rf 4299,.rf 4300,.rf 4301,.bool,.int .i64,.int .i64,.int .i64])],[(4298,.order),(4299,.cell),(4300,.expo),(4301,.i64)]⟩,⟨.exit 0,[(2,.bool)],[(4512,[.int .i64,.int .i64,.rf 4298,.rf 4299,.rf 4300,.rf 4301,.bool,.int .i64,.int .i64,.int .i64])],[(4298,.order),(4299,.cell),(4300,.expo),(4301,.i64)]⟩] (sP [(2,1),(4,4),(11,30)]) (fun p v=>xP p v.1 v.2.1 v.2.2.1 v.2.2.2.1 v.2.2.2.2.1 v.2.2.2.2.2.1 v.2.2.2.2.2.2.1 v.2.2.2.2.2.2.2.1 v.2.2.2.2.2.2.2.2.1 v.2.2.2.2.2.2.2.2.2.1 v.2.2.2.2.2.2.2.2.2.2.1 v.2.2.2.2.2.2.2.2.2.2.2.1 v.2.2.2.2.2.2.2.2.2.2.2.2.1 v.2.2.2.2.2.2.2.2.2.2.2.2.2.1 v.2.2.2.2.2.2.2.2.2.2.2.2.2.2.1 v.2.2.2.2.2.2.2.2.2.2.2.2.2.2.2)
def XV (x0:(List Int)):Option (ay×Int):=cnd (bor (ile 4 (len x0)) (ak (ak (ilt (len x0) 36)))) (cnd (bor (ilt (len x0) 36) (ak (seq (u2s (cZ x0 4)) [(UInt8.ofNat 115),(UInt8.ofNat 110),(UInt8.ofNat 97),(UInt8.ofNat 102)]))) (some (ay.mk 0 0 [] [] [] [] false 0 0 0,2)) (cnd (ilt 4 (len x0)) (cnd (ilt 5 (len x0)) (cnd (ilt 7 (len x0)) (af (cnd (ak (bor (bor (bor (bor (ilt (wr .i64 (aj x0 4)) 1) (ilt 8 (wr .i64 (aj x0 4)))) (ilt (wr .i64 (aj x0 5)) 1)) (ilt 8 (wr .i64 (aj x0 5)))) (ilt 64 (wr .i64 (aj x0 7))))) (abP (wr .i64 (aj x0 4)) (wr .i64 (aj x0 5)) (wr .i64 (aj x0 7))) (some 0)) fun y0=>cnd (bor (bor (bor (bor (bor (ilt (wr .i64 (aj x0 4)) 1) (ilt 8 (wr .i64 (aj x0 4)))) (ilt (wr .i64 (aj x0 5)) 1)) (ilt 8 (wr .i64 (aj x0 5)))) (ilt 64 (wr .i64 (aj x0 7)))) (ak (ieq (len x0) y0))) (some (ay.mk 0 0 [] [] [] [] false 0 0 0,2)) (cnd (band (ile 0 (wr .i64 (aV (len x0) 4))) (ile (wr .i64 (aV (len x0) 4)) (len x0))) (cnd (band (ile 0 (wr .i64 (aV (len x0) 4))) (ile (wr .i64 (aV (len x0) 4)) (len x0))) (af (Kr (cZ x0 (itn (wr .i64 (aV (len x0) 4))))) fun y1=>af (bZ (fun v=>Nk (len (dR x0 (itn (wr .i64 (aV (len x0) 4))))) (dR x0 (itn (wr .i64 (aV (len x0) 4)))) y1 v.1 v.2.1 v.2.2) LF (0,0,ay.mk 0 0 [] [] [] [] false 0 0 0)) fun y2=>dJ y2 (fun y3=>some (y3.2,y3.1)) fun y3=>cnd (ile 4 (len (cZ x0 (itn (wr .i64 (aV (len x0) 4)))))) (af (jT (jW.mk (dR (cZ x0 (itn (wr .i64 (aV (len x0) 4)))) 4) false)) fun y4=>af (jT y4.1) fun y5=>af (EC y5.1) fun y6=>af (jT y6.1) fun y7=>cnd (band (band (ile 0 y7.2) (ile y7.2 y7.2)) (ile y7.2 68719476736)) (af (dY y7.1 8) fun y8=>af (dY y8.1 8) fun y9=>af (dY y9.1 8) fun y10=>af (bZ (fun v=>qf (len (yO ax (itn y7.2))) v.1 v.2.1 v.2.2.1 v.2.2.2.1 v.2.2.2.2.1 v.2.2.2.2.2.1 v.2.2.2.2.2.2.1 v.2.2.2.2.2.2.2.1 v.2.2.2.2.2.2.2.2.1 v.2.2.2.2.2.2.2.2.2.1 v.2.2.2.2.2.2.2.2.2.2.1 v.2.2.2.2.2.2.2.2.2.2.2) LF (0,y4.2,y5.2,yO ax (itn y7.2),[],[],[],y6.2,y8.2,y9.2,y10.2,y10.1)) fun y11=>cnd (band (band (ile 0 (wr .i64 (cO y11.1 y11.2.1))) (ile (wr .i64 (cO y11.1 y11.2.1)) (wr .i64 (cO y11.1 y11.2.1)))) (ile (wr .i64 (cO y11.1 y11.2.1)) 68719476736)) (af (bZ (fun v=>o8 (len (yO aT (itn (wr .i64 (cO y11.1 y11.2.1))))) v.1 v.2.1 v.2.2.1 v.2.2.2.1 v.2.2.2.2.1 v.2.2.2.2.2.1 v.2.2.2.2.2.2.1 v.2.2.2.2.2.2.2.1 v.2.2.2.2.2.2.2.2.1 v.2.2.2.2.2.2.2.2.2.1 v.2.2.2.2.2.2.2.2.2.2.1 v.2.2.2.2.2.2.2.2.2.2.2) LF (0,y11.1,y11.2.1,y11.2.2.1,yO aT (itn (wr .i64 (cO y11.1 y11.2.1))),y11.2.2.2.2)) fun y12=>af (bZ (fun v=>o9 (len y12.2.2.2.1) v.1 v.2.1 v.2.2.1 v.2.2.2.1 v.2.2.2.2.1 v.2.2.2.2.2.1 v.2.2.2.2.2.2.1 v.2.2.2.2.2.2.2.1 v.2.2.2.2.2.2.2.2.1 v.2.2.2.2.2.2.2.2.2.1 v.2.2.2.2.2.2.2.2.2.2.1 v.2.2.2.2.2.2.2.2.2.2.2) LF (0,y12)) fun y13=>af (bZ (fun v=>pq y13.1 v.1 v.2.1 v.2.2.1 v.2.2.2.1 v.2.2.2.2.1 v.2.2.2.2.2.1 v.2.2.2.2.2.2.1 v.2.2.2.2.2.2.2.1 v.2.2.2.2.2.2.2.2.1 v.2.2.2.2.2.2.2.2.2.1 v.2.2.2.2.2.2.2.2.2.2.1 v.2.2.2.2.2.2.2.2.2.2.2) LF (0,y13)) fun y14=>cnd (ak y14.2.2.2.2.2.2.2.2.2.2.odd) (af (bZ (fun v=>xP (len y14.2.2.1) v.1 v.2.1 v.2.2.1 v.2.2.2.1 v.2.2.2.2.1 v.2.2.2.2.2.1 v.2.2.2.2.2.2.1 v.2.2.2.2.2.2.2.1 v.2.2.2.2.2.2.2.2.1 v.2.2.2.2.2.2.2.2.2.1 v.2.2.2.2.2.2.2.2.2.2.1 v.2.2.2.2.2.2.2.2.2.2.2.1 v.2.2.2.2.2.2.2.2.2.2.2.2.1 v.2.2.2.2.2.2.2.2.2.2.2.2.2.1 v.2.2.2.2.2.2.2.2.2.2.2.2.2.2.1 v.2.2.2.2.2.2.2.2.2.2.2.2.2.2.2) LF (0,false,y14.1,y14.2.1,PUnit.unit,PUnit.unit,PUnit.unit,PUnit.unit,y14.2.2.2.2.2.2.1,y14.2.2.2.2.2.2.2.1,y14.2.2.2.2.2.2.2.2.1,y14.2.2.2.2.2.2.2.2.2.1,y14.2.2.1,y14.2.2.2.1,y14.2.2.2.2.1,y14.2.2.2.2.2.1)) fun y15=>dJ y15 (fun y16=>af (cnd (ak (bor y14.2.2.2.2.2.2.2.2.2.2.odd (ak y16.1))) (jU (ay.mk y14.1 y14.2.1 y16.2.2.2.2.2.2.2.2.2.2.2.1 y16.2.2.2.2.2.2.2.2.2.2.2.2.1 y16.2.2.2.2.2.2.2.2.2.2.2.2.2.1 y16.2.2.2.2.2.2.2.2.2.2.2.2.2.2 y14.2.2.2.2.2.2.1 y14.2.2.2.2.2.2.2.1 y14.2.2.2.2.2.2.2.2.1 y14.2.2.2.2.2.2.2.2.2.1)) (some false)) fun y17=>cnd (bor (bor y14.2.2.2.2.2.2.2.2.2.2.odd (ak y16.1)) (ak y17)) (some (ay.mk 0 0 [] [] [] [] false 0 0 0,2)) (some (ay.mk y14.1 y14.2.1 y16.2.2.2.2.2.2.2.2.2.2.2.1 y16.2.2.2.2.2.2.2.2.2.2.2.2.1 y16.2.2.2.2.2.2.2.2.2.2.2.2.2.1 y16.2.2.2.2.2.2.2.2.2.2.2.2.2.2 y14.2.2.2.2.2.2.1 y14.2.2.2.2.2.2.2.1 y14.2.2.2.2.2.2.2.2.1 y14.2.2.2.2.2.2.2.2.2.1,0))) fun y16=>af (cnd (ak (bor y14.2.2.2.2.2.2.2.2.2.2.odd false)) (jU (ay.mk y14.1 y14.2.1 y16.2.2.2.2.2.2.2.2.2.2.2.1 y16.2.2.2.2.2.2.2.2.2.2.2.2.1 y16.2.2.2.2.2.2.2.2.2.2.2.2.2.1 y16.2.2.2.2.2.2.2.2.2.2.2.2.2.2 y14.2.2.2.2.2.2.1 y14.2.2.2.2.2.2.2.1 y14.2.2.2.2.2.2.2.2.1 y14.2.2.2.2.2.2.2.2.2.1)) (some false)) fun y18=>cnd (bor (bor y14.2.2.2.2.2.2.2.2.2.2.odd false) (ak y18)) (some (ay.mk 0 0 [] [] [] [] false 0 0 0,2)) (some (ay.mk y14.1 y14.2.1 y16.2.2.2.2.2.2.2.2.2.2.2.1 y16.2.2.2.2.2.2.2.2.2.2.2.2.1 y16.2.2.2.2.2.2.2.2.2.2.2.2.2.1 y16.2.2.2.2.2.2.2.2.2.2.2.2.2.2 y14.2.2.2.2.2.2.1 y14.2.2.2.2.2.2.2.1 y14.2.2.2.2.2.2.2.2.1 y14.2.2.2.2.2.2.2.2.2.1,0))) (af (cnd (ak (bor y14.2.2.2.2.2.2.2.2.2.2.odd true)) (jU (ay.mk y14.1 y14.2.1 y14.2.2.1 y14.2.2.2.1 y14.2.2.2.2.1 y14.2.2.2.2.2.1 y14.2.2.2.2.2.2.1 y14.2.2.2.2.2.2.2.1 y14.2.2.2.2.2.2.2.2.1 y14.2.2.2.2.2.2.2.2.2.1)) (some false)) fun y19=>cnd (bor (bor y14.2.2.2.2.2.2.2.2.2.2.odd true) (ak y19)) (some (ay.mk 0 0 [] [] [] [] false 0 0 0,2)) (some (ay.mk y14.1 y14.2.1 y14.2.2.1 y14.2.2.2.1 y14.2.2.2.2.1 y14.2.2.2.2.2.1 y14.2.2.2.2.2.2.1 y14.2.2.2.2.2.2.2.1 y14.2.2.2.2.2.2.2.2.1 y14.2.2.2.2.2.2.2.2.2.1,0)))) none) none) none) none) none)) none) none) none)) none
def RD:aA:=mkSpec [.ro .u8] [.val .state,.int .i64] false (fun x=>XV x)
theorem ado:bJ PG 158 RD:=okP [(217,VR),(218,JY),(260,wW),(261,Bh),(262,wM),(263,F5),(264,Rh),(184,EY),(28,oD)] [219,220] [(158,1018,Xr),(678605447387,250,Ae),(678605447387,1018,zu),(678605447387,2042,zF),(678605447387,4090,zA),(678607143132,26,GR)] ⟨ah8,Xa,FT,Lc,Ez,Vm,adz,Qe,vO,trivial⟩ (fun K=>⟨fE K fun p v=>by kernel_rfl,fE K fun p v=>by kernel_rfl,fE K fun p v=>by kernel_rfl,fE K fun p v=>by kernel_rfl,fE K fun p v=>by kernel_rfl,fE K fun p v=>by kernel_rfl,trivial⟩) fun x=>by kernel_rfl
def Xt (x0:aC):Option (ay×Int×Int):=af (aar x0) fun y0=>cnd (ak (ieq y0.2 0)) (some (ay.mk 0 0 [] [] [] [] false 0 0 0,0,y0.2)) (af (Xw y0.1.gen) fun y1=>af (DV x0 y1) fun y2=>cnd (ieq y2.2 0) (af (XV y2.1) fun y3=>cnd (band (ieq y3.2 0) (ieq y3.1.lsn y0.1.lsn)) (some (y3.1,y0.1.gen,0)) (some (ay.mk 0 0 [] [] [] [] false 0 0 0,0,2))) (some (ay.mk 0 0 [] [] [] [] false 0 0 0,0,2)))
def Rn:aA:=mkSpec [.val .disk] [.val .state,.int .i64,.int .i64] false (fun x=>Xt x)
theorem adN:bJ PG 91 Rn:=okN [(155,Tj),(157,RJ),(156,Fg),(158,RD)] [] ⟨afh,ady,Ql,ado,trivial⟩ fun x=>by kernel_rfl
def JA (x0:nT) (x1:ay):Option (nT×(Unit)):=af (Xt x0.g.disk) fun y0=>cnd (ieq y0.2.2 0) (some (nT.mk (bM.mk x0.g.disk x0.g.wal y0.1 x0.g.outbox x0.g.feed y0.2.1 x0.g.up) x0.e,PUnit.unit)) (cnd (ieq y0.2.2 7) (some (nT.mk (bM.mk x0.g.disk x0.g.wal x1 x0.g.outbox x0.g.feed x0.g.gen x0.g.up) x0.e,PUnit.unit)) (some (nT.mk x0.g y0.2.2,PUnit.unit)))
def Fv:aA:=BA .sleeper [.val .state] [] (fun x=>JA x.1 x.2)
theorem TD:bJ PG 46 Fv:=okB [(91,Rn)] [4095] [] ⟨adN,trivial⟩ (fun _=>trivial) fun x=>by kernel_rfl
def jD (x0:Int):Option ((List UInt8)):=cnd (bor (ilt x0 1) (ilt 1000000000 x0)) (some []) (af (ou x0 10) fun y0=>af (rM [(UInt8.ofNat 48)] (wr .i64 (aV 10 (len y0)))) fun y1=>cnd (ile (aB 4 (len y1)) 68719476736) (cnd (ile (aB (len (aQ [(UInt8.ofNat 108),(UInt8.ofNat 111),(UInt8.ofNat 103),(UInt8.ofNat 46)] y1)) (len y0)) 68719476736) (some (aQ (aQ [(UInt8.ofNat 108),(UInt8.ofNat 111),(UInt8.ofNat 103),(UInt8.ofNat 46)] y1) y0)) none) none)
def vN:aA:=mkSpec [.int .i64] [.str] true (fun x=>jD x)
theorem DZ:bJ PG 173 vN:=okN [(215,yF),(216,BR)] [] ⟨Ij,NG,trivial⟩ fun x=>by kernel_rfl
def JI (x0:(List UInt8)):Option (Int):=some (yL [108,111,103,46] x0)
def Jf:aA:=mkSpec [.str] [.int .i64] true (fun x=>JI x)
def Yr:Go.Shelf.Ren:=⟨fun | 103=>267 | 210=>292 | 206=>287 | n=>n,fun | 9=>9 | 4=>4 | 24=>334 | 3=>3 | n=>n,fun | n=>n⟩
theorem Wy:Go.Proofs.Lays.n103 PG Yr where
 mixed:=by kernel_rfl
 f103:=by kernel_rfl
 f206:=by kernel_rfl
 f210:=by kernel_rfl
 t3:=by kernel_rfl
 a3:=fun w=>by kernel_rfl
 z3:=fun w=>by kernel_rfl
 v3:=fun w=>by kernel_rfl
 t4:=by kernel_rfl
 a4:=fun w=>by kernel_rfl
 z4:=fun w=>by kernel_rfl
 v4:=fun w=>by kernel_rfl
 t9:=by kernel_rfl
 a9:=fun w=>by kernel_rfl
 z9:=fun w=>by kernel_rfl
 v9:=fun w=>by kernel_rfl
 t24:=by kernel_rfl
 a24:=fun w=>by kernel_rfl
 z24:=fun w=>by kernel_rfl
 v24:=fun w=>by kernel_rfl
theorem Zo (s:ByteArray) (pos:Nat) (h:pos<s.size):1<=(Utf8.decode s pos).2:=by
 by_cases ha:(s[pos]'h).toNat<128
 ·rw[decode_ascii s pos h ha];exact Nat.le_refl _
 ·exact(decode_high s pos h (by omega)).2
theorem aaM (w:World) (s:ByteArray) (pos:Nat):Go.RowKit.Below w.heap.size w (w.iter s pos):=
 ⟨rfl,rfl,rfl,by show _<=(w.heap.push _).size;rw[Array.size_push];omega,fun k hk=>by show(w.heap.push _)[k]? =_;rw[Array.getElem?_push,if_neg (by omega)]⟩
theorem YO (n:Int):inI (Go.RowKit.wrap64 n):=by unfold inI Go.RowKit.wrap64;omega
theorem Xz {B B':Nat} {a b:World} (h:Go.RowKit.Below B a b) (hB:B'<=B):Go.RowKit.Below B' a b:=⟨h.os,h.tape,h.output,h.size,fun k hk=>h.block k (Nat.lt_of_lt_of_le hk hB)⟩
def He (l:List UInt8):Prop:=l.length=10/\∀c∈l,Vq c
theorem abO (n c:Nat) (h:n<10000000000) (h1:48<=c) (h2:c<=57):Go.RowKit.wrap64 (Go.RowKit.wrap64 ((n:Int)*10)+Go.RowKit.wrap64 (Go.RowKit.wrap32 ((c:Int) - 48)))=((n*10+(c - 48):Nat):Int):=by
 have e1:Go.RowKit.wrap32 ((c:Int) - 48)=(c:Int) - 48:=by unfold Go.RowKit.wrap32;omega
 have e2:Go.RowKit.wrap64 ((n:Int)*10)=(n:Int)*10:=by unfold Go.RowKit.wrap64;omega
 have e3:Go.RowKit.wrap64 ((c:Int) - 48)=(c:Int) - 48:=by unfold Go.RowKit.wrap64;omega
 have e4:Go.RowKit.wrap64 ((n:Int)*10+((c:Int) - 48))=(n:Int)*10+((c:Int) - 48):=by unfold Go.RowKit.wrap64;omega
 rw[e1,e2,e3,e4];omega
theorem ZQ {l:List UInt8} {pos:Nat} (ht:He l) (h:pos<=10):wG (l.take pos)<10000000000:=by
 have hb2:=XQ (l.take pos).length (l.take pos) rfl (fun c hc=>ht.2 c (List.mem_of_mem_take hc));have hb3:(10:Nat)^(l.take pos).length<=10^10:=Nat.pow_le_pow_right (by decide) (by rw[List.length_take];omega);have hbig:(10:Nat)^10=10000000000:=by decide
 omega
theorem aaF (l:List UInt8) (pos:Nat) (h:pos<(⟨l.toArray⟩:ByteArray).size) (h2:pos<l.length):(⟨l.toArray⟩:ByteArray)[pos]'h=l[pos]'h2:=by
 show l.toArray[pos]'(by rw[List.size_toArray];exact h2)=_;rw[List.getElem_toArray]
theorem Zw {l:List UInt8} {r:ByteArray} {pos:Nat} {acc:Int} (hr:(⟨l.toArray⟩:ByteArray)=r) (hsz:r.size=l.length) (ht:He l) (hp:pos<r.size) (hv:pos<=10/\acc=((wG (l.take pos):Nat):Int)):
 pos+(Utf8.decode r pos).2<=10/\Go.RowKit.wrap64 (Go.RowKit.wrap64 (acc*10)+Go.RowKit.wrap64 (Go.RowKit.wrap32 (((Utf8.decode r pos).1:Int) - 48)))=((wG (l.take (pos+(Utf8.decode r pos).2)):Nat):Int):=by
 obtain⟨h10,rfl⟩:=hv
 have hp10:pos<10:=by rw[hsz,ht.1]at hp;exact hp
 have hpl:pos<l.length:=by rw[ht.1];exact hp10
 have hb:r[pos]'hp=l[pos]'hpl:=by subst hr;exact aaF l pos hp hpl
 have hd:=xB.1 (ht.2 _ (List.getElem_mem hpl))
 have hdec:=decode_ascii r pos hp (by rw[hb];omega)
 rw[hb]at hdec
 have d1:(Utf8.decode r pos).1=(l[pos]'hpl).toNat:=by rw[hdec]
 have d2:(Utf8.decode r pos).2=1:=by rw[hdec]
 rw[d1,d2]
 refine⟨hp10,?_⟩
 rw[List.take_succ_eq_append_getElem hpl,O6]
 exact abO _ _ (ZQ ht h10) hd.1 hd.2
theorem Ws (s r:ByteArray) (w:World)
 (h1:Calls PG 267 #[.string s,.string ⟨#[108,111,103,46]⟩] w fun e w'=>e= .returned (.tuple #[.string r,.bool false])/\w'=w):
 Calls PG 224 #[.string s] w fun e w'=>e= .returned (.int .i64 0)/\Go.RowKit.Below w.heap.size w w':=by
 go_enter Go.Proofs.Tryz.func224,Go.Proofs.Tryz.ntmps224
 go_wp2_with (go_at_call 267;refine h1.mono ?_;rintro e W1 ⟨rfl,rfl⟩)
 all_goals (go_ret;exact⟨rfl,Go.RowKit.Below.refl _ _⟩)
set_option maxHeartbeats 1000000 in
set_option maxRecDepth 1000000 in
theorem aaQ (s:ByteArray) (l:List UInt8) (nm:Int->List UInt8) (w:World)
 (h1:Calls PG 267 #[.string s,.string ⟨#[108,111,103,46]⟩] w fun e w'=>e= .returned (.tuple #[.string ⟨l.toArray⟩,.bool true])/\w'=w)
 (h3:∀v,inI v->∀w1,Go.RowKit.Below w.heap.size w w1->Calls PG 173 #[.int .i64 v] w1 fun e w'=>e= .returned (.string ⟨(nm v).toArray⟩)/\Go.RowKit.Below w1.heap.size w1 w'):
 Calls PG 224 #[.string s] w fun e w'=>(∃v,inI v/\(He l->v=((wG l:Nat):Int))/\e= .returned (.int .i64 (if nm v=s.toList then v else 0)))/\Go.RowKit.Below w.heap.size w w':=by
 generalize hr:(⟨l.toArray⟩:ByteArray)=r at h1
 have hsz:r.size=l.length:=by rw[<-hr];show l.toArray.size=_;rw[List.size_toArray]
 go_enter Go.Proofs.Tryz.func224,Go.Proofs.Tryz.ntmps224
 go_wp2_with (go_at_call 267;refine h1.mono ?_;rintro e W1 ⟨rfl,rfl⟩)
 go_loopw [5] (fun n w'=>∃(pos:Nat) (acc:Int),w'=W1.iter r pos/\n= .int .i64 acc/\inI acc/\(He l->pos<=10/\acc=((wG (l.take pos):Nat):Int))) (fun _ w'=>r.size - w'.iterPos W1.heap.size)
 case atStart=>exact⟨0,0,rfl,rfl,by unfold inI;omega,fun _=>⟨by omega,rfl⟩⟩
 case round=>
  obtain⟨pos,acc,rfl,rfl,hacc,hv⟩:=hrel
  by_cases hp:pos<r.size
  ·have hnx:∀ty,(Instr.next (.pointer (some ⟨W1.heap.size,0,none⟩)) true ty).run PG (W1.iter r pos)=_:=fun ty=>run_next_any W1 r pos ty hp
   go_wp2
   have hwd:=Zo r pos hp
   go_roundw
   case rel=>
    refine⟨pos+(Utf8.decode r pos).2,_,rfl,rfl,?_,?_⟩
    ·exact YO _
    ·intro ht
     exact Zw hr hsz ht hp (hv ht)
   case measure=>
    simp
    omega
  ·have hnx:∀ty,(Instr.next (.pointer (some ⟨W1.heap.size,0,none⟩)) true ty).run PG (W1.iter r pos)=_:=fun ty=>run_next_end W1 r pos ty hp
   have hbl:Go.RowKit.Below W1.heap.size W1 (W1.iter r pos):=aaM W1 r pos
   go_wp2_with (go_at_call 173;refine(h3 acc hacc _ hbl).mono ?_;rintro e W3 ⟨rfl,hb3⟩)
   all_goals go_ret
   all_goals refine⟨⟨acc,hacc,fun ht=> ?_,?_⟩,hbl.trans (Xz hb3 hbl.size)⟩
   all_goals first
    |(have h10:=(hv ht).1
      have hp:¬pos<10:=by rw[hsz,ht.1]at hp;exact hp
      have:=(hv ht).2
      rw[show pos=10 by omega,List.take_of_length_le (by rw[ht.1];exact Nat.le_refl _)]at this
      exact this)
    |skip
   ·rename_i hne
    have hne:nm acc≠s.toList:=by intro e;rw[e]at hne;simp at hne
    rw[if_neg hne];rfl
   ·rename_i heq
    have heq:nm acc=s.toList:=by simpa using heq
    rw[if_pos heq];rfl
theorem ahl (v:Int) (hv:inI v):jD v=some (Ju [108,111,103,46] v):=by
 unfold inI at hv;unfold jD Ju ou rM;by_cases h:v<1\/1000000000<v
 ·rw[if_pos h,show bor (ilt v 1) (ilt 1000000000 v)=true by rw[afQ,Qw,Qw];exact h];rfl
 ·have e1:bor (ilt v 1) (ilt 1000000000 v)=false:=by
   rw[Bool.eq_false_iff];intro g;rw[afQ,Qw,Qw]at g;exact h g
  have hl:(fmt10 v).length<=10:=by
   unfold fmt10;rw[if_neg (by omega)]
   exact PI 20 _ 10 (by have:(10:Nat)^10=10000000000:=by decide
                        omega) (by decide)
  have e2:wr .i64 (aV 10 (len (fmt10 v)))=((10 - (fmt10 v).length:Nat):Int):=by
   unfold aV len wr IntKind.wrap;simp [IntKind.bits,IntKind.signed];omega
  have e3:aln v 10=some (fmt10 v):=by
   unfold aln;rw[show band (ieq 10 10) (band (ile (-9223372036854775808) v) (ile v 9223372036854775807))=true by rw[uV,uV,nR,nR];exact⟨rfl,hv⟩];rfl
  have e4:ak4 [UInt8.ofNat 48] ((10 - (fmt10 v).length:Nat):Int)=some (List.replicate (10 - (fmt10 v).length) 48):=by
   unfold ak4
   rw[show band (ile 0 ((10 - (fmt10 v).length:Nat):Int)) (band (ile ((10 - (fmt10 v).length:Nat):Int) 9223372036854775807) (ile (cO (len [UInt8.ofNat 48]) ((10 - (fmt10 v).length:Nat):Int)) 140737488355328))=true by
    rw[uV,uV,nR,nR,nR];simp only[cO,len,List.length_singleton];omega]
   simp only[cnd,itn,Int.toNat_natCast];rw[show UInt8.ofNat 48=48 from rfl,ac8]
  rw[if_neg h,e1,e3];simp only[cnd,af,Option.bind_some,e2,e4];rw[show ile (aB 4 (len (List.replicate (10 - (fmt10 v).length) (48:UInt8)))) 68719476736=true by rw[nR];simp only[aB,len,List.length_replicate];omega];simp only;rw[show ile (aB (len (aQ [UInt8.ofNat 108,UInt8.ofNat 111,UInt8.ofNat 103,UInt8.ofNat 46] (List.replicate (10 - (fmt10 v).length) (48:UInt8)))) (len (fmt10 v))) 68719476736=true by rw[nR];simp only[aB,len,aQ,List.length_append,List.length_replicate,List.length_cons,List.length_nil];omega]
  rfl
theorem ah3 (pre s:List UInt8) (hp:s.take pre.length=pre) (hpre:pre≠[]) (v:Int) (hv:He (s.drop pre.length)->v=((wG (s.drop pre.length):Nat):Int)):
 (if Ju pre v=s then v else 0)=yL pre s:=by
 have hs:s=pre++s.drop pre.length:=by
  conv=>lhs;rw[<-List.take_append_drop pre.length s,hp]
 have hsne:s≠[]:=fun e=>by rw[e]at hp;simp at hp;exact hpre hp
 have key:Ju pre v=s->He (s.drop pre.length)/\1<=v/\v<=1000000000:=fun hn=>by
  have hr:¬(v<1\/1000000000<v):=fun g=>by unfold Ju at hn;rw[if_pos g]at hn;exact hsne hn.symm
  have hd:s.drop pre.length=List.replicate (10 - (fmt10 v).length) 48++fmt10 v:=by
   unfold Ju at hn;rw[if_neg hr,List.append_assoc]at hn
   rw[<-hn,List.drop_left]
  have hl:(fmt10 v).length<=10:=by
   unfold fmt10;rw[if_neg (by omega)]
   exact PI 20 _ 10 (by have:(10:Nat)^10=10000000000:=by decide
                        omega) (by decide)
  refine⟨⟨by rw[hd,List.length_append,List.length_replicate];omega,fun c hc=> ?_⟩,by omega,by omega⟩
  rw[hd]at hc
  exact am8 v hr c hc
 by_cases hc:s.take pre.length=pre/\(s.drop pre.length).length=10/\(∀c∈s.drop pre.length,48<=c/\c<=57)/\wG (s.drop pre.length)<=1000000000
 ·have e:yL pre s=((wG (s.drop pre.length):Nat):Int):=if_pos hc
  have hvd:=hv ⟨hc.2.1,hc.2.2.1⟩
  rw[e]
  by_cases h0:wG (s.drop pre.length)=0
  ·rw[h0]at hvd ⊢
   rw[if_neg (fun g=>by have:=(key g).2.1;rw[hvd]at this;revert this;decide)];rfl
  ·have hn:Ju pre v=s:=by
    rw[hvd]
    unfold Ju
    rw[if_neg (by omega)]
    have hf:fmt10 ((wG (s.drop pre.length):Nat):Int)=NP 20 (wG (s.drop pre.length)):=by
     unfold fmt10;rw[if_neg (by omega)];rfl
    rw[hf,List.append_assoc,anL hc.2.1 hc.2.2.1 (XQ 10 _ hc.2.1 hc.2.2.1)];exact hs.symm
   rw[if_pos hn,hvd]
 ·have e:yL pre s=0:=if_neg hc
  rw[e]
  by_cases hn:Ju pre v=s
  ·exfalso
   obtain⟨k1,k2,k3⟩:=key hn
   have:=hv k1
   exact hc ⟨hp,k1.1,k1.2,by omega⟩
  ·rw[if_neg hn]
theorem V8:bJ PG 224 Jf:=by
 refine afV (xs:=[.str]) (rs:=[.int .i64]) rfl rfl (abS G7 (by kernel_rfl)) fun(x:List UInt8) (y:Int) w hrun hg=> ?_;have hy:y=yL [108,111,103,46] x:=(Option.some.inj hrun).symm;subst hy;show Calls PG 224 #[.string ⟨x.toArray⟩] w fun e w'=>e= .returned (.int .i64 (yL [108,111,103,46] x))/\Go.RowKit.Below w.heap.size w w';have hcut:=Go.Proofs.Any.strings_CutPrefix Wy ⟨x.toArray⟩ ⟨#[108,111,103,46]⟩ w;change Calls PG 267 #[.string ⟨x.toArray⟩,.string ⟨#[108,111,103,46]⟩] w (fun e w'=>e= .returned (.tuple #[.string ⟨(Go.Lib.trimPrefix x [108,111,103,46]).toArray⟩,.bool (Go.Lib.hasPrefix x [108,111,103,46])])/\w'=w)at hcut;cases hpf:Go.Lib.hasPrefix x [108,111,103,46]with
 |false=>
  rw[hpf]at hcut;have hz:yL [108,111,103,46] x=0:=if_neg fun g=>by
   have:Go.Lib.hasPrefix x [108,111,103,46]=true:=by
    unfold Go.Lib.hasPrefix;rw[List.isPrefixOf_iff_prefix];exact⟨x.drop 4,by conv=>rhs;rw[<-List.take_append_drop 4 x,show x.take 4=_ from g.1]⟩
   rw[hpf]at this;cases this
  rw[hz];exact Ws _ _ w hcut
 |true=>
  rw[hpf]at hcut;have htk:x.take 4=[108,111,103,46]:=by
   unfold Go.Lib.hasPrefix at hpf;rw[List.isPrefixOf_iff_prefix]at hpf;obtain⟨r,rfl⟩:=hpf
   rfl
  rw[show Go.Lib.trimPrefix x [108,111,103,46]=x.drop 4 by unfold Go.Lib.trimPrefix;rw[if_pos hpf];rfl]at hcut;have h3:∀v,inI v->∀w1,Go.RowKit.Below w.heap.size w w1->Calls PG 173 #[.int .i64 v] w1 fun e w'=>e= .returned (.string ⟨(Ju [108,111,103,46] v).toArray⟩)/\Go.RowKit.Below w1.heap.size w1 w':=fun v hv w1 hb=>
   bJ.calls (xs:=[.int .i64]) (r:= .str) G7 (by kernel_rfl) DZ rfl rfl v (Ju [108,111,103,46] v) (ahl v hv) w1 (hg.mono (fun b h=>Nat.lt_of_lt_of_le h hb.size) (fun b h=>hb.block b h))
  refine(aaQ ⟨x.toArray⟩ (x.drop 4) (Ju [108,111,103,46]) w hcut h3).mono fun e w' ⟨⟨v,h1,h2,he⟩,hb⟩=>⟨?_,hb⟩;rw[ByteArray.toList_eq]at he;rw[he,<-ah3 [108,111,103,46] x htk (by simp) v h2]
def rZ (p0:Int) (p1:(List bn)) (v0:Int) (v1:(List Int)):Option ((Int×(List Int)) ⊕ (((List Int)))):=cnd (ilt v0 p0) (cnd (band (ile 0 v0) (ilt v0 (len p1))) (af (JI (aj p1 (itn v0)).name) fun y0=>cnd (ilt 0 y0) (cnd (ile (len (aQ v1 [y0])) 68719476736) (some (Sum.inl (wr .i64 (aB v0 1),aQ v1 [y0]))) none) (some (Sum.inl (wr .i64 (aB v0 1),v1)))) none) (some (Sum.inr v1))
def Vk:dm:=LSh.spec ⟨75,[(12,.int .i64),(11,.ro .file)],[],[],[(13,.int .i64),(3,.buf .i64)],[],[]⟩ [⟨.exit 0,[(3,.buf .i64)],[],[]⟩] (sP [(3,1),(5,2),(13,14)]) (fun p v=>rZ p.1 p.2 v.1 v.2)
def sJ (x0:aC):Option ((List Int)):=af (pO x0) fun y0=>cnd (ak y0) (some []) (af (bZ (fun v=>rZ (len x0.files) x0.files v.1 v.2) LF (0,[])) fun y1=>some y1)
def zW:aA:=mkSpec [.val .disk] [.buf .i64] true (fun x=>sJ x)
theorem Jg:bJ PG 163 zW:=okP [(44,oC),(224,Jf)] [] [(163,122,Vk)] ⟨vY,V8,trivial⟩ (fun K=>⟨fE K fun p v=>by kernel_rfl,trivial⟩) fun x=>by kernel_rfl
def EH (p0:Int) (p1:(List Int)) (v0:Int) (v1:Int):Option ((Int×Int) ⊕ ((Int))):=cnd (ilt v0 p0) (cnd (band (ile 0 v0) (ilt v0 (len p1))) (some (Sum.inl (wr .i64 (aB v0 1),wr .u64 (ior .u64 (wr .u64 (qc .u64 v1 8)) (wr .u64 (aj p1 (itn v0))))))) none) (some (Sum.inr v1))
def Pm:dm:=LSh.spec ⟨75,[(13,.int .i64),(12,.ro .u8)],[],[],[(14,.int .i64),(5,.int .u64)],[],[]⟩ [⟨.exit 0,[(5,.int .u64)],[],[]⟩] (sP [(5,1),(7,1),(14,10)]) (fun p v=>EH p.1 p.2 v.1 v.2)
def fC (x0:VA) (x1:Int):Option (VA×(Int)):=cnd (band (ile 0 x1) (ile x1 (len x0.all))) (af (bZ (fun v=>EH (len (cZ x0.all (itn x1))) (cZ x0.all (itn x1)) v.1 v.2) LF (0,0)) fun y0=>cnd (band (ile 0 x1) (ile x1 (len x0.all))) (some (VA.mk (dR x0.all (itn x1)),y0)) none) none
def FQ:aA:=BA .bts [.int .i64] [.int .u64] (fun x=>fC x.1 x.2)
theorem UB:bJ PG 291 FQ:=okB [] [] [(291,58,Pm)] trivial (fun K=>⟨fE K fun p v=>by kernel_rfl,trivial⟩) fun x=>by kernel_rfl
def vW (x0:bY):Option (Bool):=some (band (band (band (band (band (ile 1 x0.epoch) (ile x0.epoch 1000000)) (ile 1 x0.lsn)) (ile x0.lsn 1000000000)) (ile 1 x0.kind)) (ile x0.kind 6))
def xk:aA:=mkSpec [.val .frame] [.bool] true (fun x=>vW x)
theorem ER:bJ PG 233 xk:=okN [] [] trivial fun x=>by kernel_rfl
def Jy (p0:Int) (p1:(List Int)) (p2:Int) (v0:Int) (v1:Bool):Option ((Int×Bool) ⊕ ((Bool))):=cnd (ilt v0 p0) (cnd (band (ile 0 v0) (ilt v0 (len p1))) (cnd (bor (ile 0 (wr .i64 (cO 8 v0))) (ak v1)) (some (Sum.inl (wr .i64 (aB v0 1),band v1 (ieq (aj p1 (itn v0)) (wr .u8 (dn .u32 p2 (wr .i64 (cO 8 v0)))))))) none) none) (some (Sum.inr v1))
def UE:dm:=LSh.spec ⟨85,[(24,.int .i64),(23,.ro .u8),(6,.int .u32)],[],[],[(25,.int .i64),(7,.bool)],[],[]⟩ [⟨.exit 0,[(7,.bool)],[],[]⟩] (sP [(7,3),(25,16)]) (fun p v=>Jy p.1 p.2.1 p.2.2 v.1 v.2)
def TT (x0:(List Int)):Option (bY×Int):=cnd (ak (ieq (len x0) 72)) (some (bY.mk 0 0 0 0 0 0 0 0 0,2)) (cnd (ile 68 (len x0)) (af (fC (VA.mk (cZ x0 68)) 4) fun y0=>cnd (ile 68 (len x0)) (af (Kr (cZ x0 68)) fun y1=>cnd (ile 68 (len x0)) (af (bZ (fun v=>Jy (len (dR x0 68)) (dR x0 68) y1 v.1 v.2) LF (0,true)) fun y2=>cnd (ak (ieq y0.2 72)) (some (bY.mk 0 0 0 0 0 0 0 0 0,2)) (cnd (ak y2) (some (bY.mk 0 0 0 0 0 0 0 0 0,10)) (af (fC y0.1 4) fun y3=>af (fC y3.1 8) fun y4=>af (fC y4.1 4) fun y5=>af (fC y5.1 8) fun y6=>af (fC y6.1 8) fun y7=>af (fC y7.1 8) fun y8=>af (fC y8.1 8) fun y9=>af (fC y9.1 8) fun y10=>af (fC y10.1 8) fun y11=>af (vW (bY.mk (wr .i64 y3.2) (wr .i64 y4.2) (wr .i64 y5.2) (wr .i64 y6.2) (wr .i64 y7.2) (wr .i64 y8.2) (wr .i64 y9.2) (wr .i64 y10.2) (wr .i64 y11.2))) fun y12=>cnd (ak y12) (some (bY.mk 0 0 0 0 0 0 0 0 0,2)) (some (bY.mk (wr .i64 y3.2) (wr .i64 y4.2) (wr .i64 y5.2) (wr .i64 y6.2) (wr .i64 y7.2) (wr .i64 y8.2) (wr .i64 y9.2) (wr .i64 y10.2) (wr .i64 y11.2),0))))) none) none) none)
def NI:aA:=mkSpec [.ro .u8] [.val .frame,.int .i64] true (fun x=>TT x)
theorem aaK:bJ PG 265 NI:=okP [(291,FQ),(218,JY),(233,xk)] [] [(265,1018,UE)] ⟨UB,Xa,ER,trivial⟩ (fun K=>⟨fE K fun p v=>by kernel_rfl,trivial⟩) fun x=>by kernel_rfl
def RI (p0:(List Int)) (v0:Int) (v1:(List bY)) (v2:VI):Option ((Int×(List bY)×VI) ⊕ ((Int×(List bY)×VI))):=cnd (ile 72 (wr .i64 (aV (len p0) v0))) (cnd (band (band (ile 0 v0) (ile v0 (wr .i64 (aB v0 72)))) (ile (wr .i64 (aB v0 72)) (len p0))) (af (TT (cZ (dR p0 (itn v0)) (itn (aV (wr .i64 (aB v0 72)) v0)))) fun y0=>cnd (ak (ak (ieq y0.2 0))) (af (vW y0.1) fun y1=>cnd (bor (bor (ak y1) (ak (ieq y0.1.lsn v2.lsn))) (ilt y0.1.epoch v2.epoch)) (cnd (bor (ak (ieq y0.2 0)) true) (some (Sum.inr (v0,v1,v2))) (cnd (ile (len (aQ v1 [y0.1])) 68719476736) (some (Sum.inl (wr .i64 (aB v0 72),aQ v1 [y0.1],v2))) none)) (cnd (bor (ak (ieq y0.2 0)) false) (some (Sum.inr (v0,v1,VI.mk (wr .i64 (aB y0.1.lsn 1)) y0.1.epoch))) (cnd (ile (len (aQ v1 [y0.1])) 68719476736) (some (Sum.inl (wr .i64 (aB v0 72),aQ v1 [y0.1],VI.mk (wr .i64 (aB y0.1.lsn 1)) y0.1.epoch))) none))) (cnd (bor (ak (ieq y0.2 0)) true) (some (Sum.inr (v0,v1,v2))) (cnd (ile (len (aQ v1 [y0.1])) 68719476736) (some (Sum.inl (wr .i64 (aB v0 72),aQ v1 [y0.1],v2))) none))) none) (some (Sum.inr (v0,v1,v2)))
def Zn:dm:=LSh.spec ⟨76,[(0,.ro .u8)],[(8,.mp 64 0)],[],[(10,.int .i64),(9,.buf .frame)],[(64,[.val .next])],[]⟩ [⟨.exit 0,[(10,.int .i64),(9,.buf .frame)],[(64,[.val .next])],[]⟩] (sP [(9,4),(16,27)]) (fun p v=>RI p v.1 v.2.1 v.2.2)
def aap (x0:(List Int)) (x1:Int) (x2:Int):Option ((List bY)×Int):=af (bZ (fun v=>RI x0 v.1 v.2.1 v.2.2) LF (0,[],VI.mk x1 x2)) fun y0=>some (y0.2.1,y0.1)
def Tv:aA:=mkSpec [.ro .u8,.int .i64,.int .i64] [.buf .frame,.int .i64] true (fun x=>aap x.1 x.2.1 x.2.2)
theorem afn:bJ PG 221 Tv:=okP [(265,NI),(233,xk)] [175] [(221,124,Zn)] ⟨aaK,ER,trivial⟩ (fun K=>⟨fE K fun p v=>by kernel_rfl,trivial⟩) fun x=>by kernel_rfl
def SN (p0:Int) (p1:(List Int)) (p2:(List Int)) (p3:aC) (v0:Int) (v1:Int) (v2:Int) (v3:(List xZ)) (v4:(List Int)) (v5:(List xZ)):Option ((Int×Int×Int×(List xZ)×(List Int)×(List xZ)) ⊕ (((List Int)×(List xZ)) ⊕ (((List xZ)×(List Int)×(List xZ))))):=cnd (ilt v0 p0) (cnd (band (ile 0 v0) (ilt v0 (len p1))) (cnd (bor (band (ile 0 (wr .i64 (aV v0 1))) (ilt (wr .i64 (aV v0 1)) (len v3))) (ak (band (ilt 0 v0) (ak (ak (ieq (aj p1 (itn v0)) v2)))))) (cnd (band (ilt 0 v0) (bor (ak (ieq (aj p1 (itn v0)) v2)) (aj v3 (itn (wr .i64 (aV v0 1)))).more)) (cnd (band (ile 0 v0) (ile v0 (len p2))) (some (Sum.inr (Sum.inl (dR p2 (itn v0),v3)))) none) (af (jD (aj p1 (itn v0))) fun y0=>af (DV p3 y0) fun y1=>cnd (band (ile 0 (ji (len y1.1) 576)) (ile (ji (len y1.1) 576) (len y1.1))) (af (aap (cZ (dR y1.1 0) (itn (ji (len y1.1) 576))) (aj p1 (itn v0)) v1) fun y2=>cnd (ile (len (aQ v3 [xZ.mk (aj p1 (itn v0)) y2.1 (ilt y2.2 (len y1.1))])) 68719476736) (cnd (ieq (len y2.1) 0) (cnd (band (ile 0 (wr .i64 (aB v0 1))) (ile (wr .i64 (aB v0 1)) (len p2))) (some (Sum.inr (Sum.inl (dR p2 (itn (wr .i64 (aB v0 1))),aQ v3 [xZ.mk (aj p1 (itn v0)) y2.1 (ilt y2.2 (len y1.1))])))) none) (cnd (band (ile 0 (wr .i64 (aV (len y2.1) 1))) (ilt (wr .i64 (aV (len y2.1) 1)) (len y2.1))) (some (Sum.inl (wr .i64 (aB v0 1),(aj y2.1 (itn (wr .i64 (aV (len y2.1) 1)))).epoch,wr .i64 (aB (aj p1 (itn v0)) (len y2.1)),aQ v3 [xZ.mk (aj p1 (itn v0)) y2.1 (ilt y2.2 (len y1.1))],v4,v5))) none)) none) none)) none) none) (some (Sum.inr (Sum.inr (v3,v4,v5))))
def aaR:dm:=LSh.spec ⟨77,[(17,.int .i64),(16,.ro .i64),(7,.ro .i64)],[(1,.mp 8 0)],[(8,[.val .disk])],[(18,.int .i64),(6,.int .i64),(5,.int .i64),(4,.buf .piece),(3,.buf .i64),(2,.buf .piece)],[],[]⟩ [⟨.ret,[(3,.ro .i64),(2,.buf .piece)],[],[]⟩,⟨.exit 0,[(4,.buf .piece),(3,.buf .i64),(2,.buf .piece)],[],[]⟩] (sP [(2,5),(8,6),(18,72)]) (fun p v=>SN p.1 p.2.1 p.2.2.1 p.2.2.2 v.1 v.2.1 v.2.2.1 v.2.2.2.1 v.2.2.2.2.1 v.2.2.2.2.2)
def acM (x0:aC):Option ((List xZ)×(List Int)):=af (sJ x0) fun y0=>af (bZ (fun v=>SN (len y0) y0 y0 x0 v.1 v.2.1 v.2.2.1 v.2.2.2.1 v.2.2.2.2.1 v.2.2.2.2.2) LF (0,1,0,[],[],[])) fun y1=>dJ y1 (fun y2=>some (y2.2,y2.1)) fun y2=>some (y2.1,[])
def VQ:aA:=mkSpec [.val .disk] [.ro .piece,.ro .i64] false (fun x=>acM x)
theorem ahd:bJ PG 159 VQ:=okP [(163,zW),(173,vN),(156,Fg),(221,Tv)] [] [(159,250,aaR)] ⟨Jg,DZ,Ql,afn,trivial⟩ (fun K=>⟨fE K fun p v=>by kernel_rfl,trivial⟩) fun x=>by kernel_rfl
def Rq (p0:Int) (p1:(List xZ)) (v0:Int) (v1:(List bY)):Option ((Int×(List bY)) ⊕ (((List bY)))):=cnd (ilt v0 p0) (cnd (band (ile 0 v0) (ilt v0 (len p1))) (cnd (ile (len (aQ v1 (aj p1 (itn v0)).frames)) 68719476736) (some (Sum.inl (wr .i64 (aB v0 1),aQ v1 (aj p1 (itn v0)).frames))) none) none) (some (Sum.inr v1))
def YW:dm:=LSh.spec ⟨70,[(7,.int .i64),(6,.ro .piece)],[],[],[(8,.int .i64),(3,.buf .frame)],[],[]⟩ [⟨.exit 0,[(3,.buf .frame)],[],[]⟩] (sP [(3,1),(5,1),(8,9)]) (fun p v=>Rq p.1 p.2 v.1 v.2)
def XU (x0:(List xZ)):Option ((List bY)):=af (bZ (fun v=>Rq (len x0) x0 v.1 v.2) LF (0,[])) fun y0=>some y0
def Rl:aA:=mkSpec [.ro .piece] [.buf .frame] true (fun x=>XU x)
theorem adh:bJ PG 160 Rl:=okP [] [] [(160,58,YW)] trivial (fun K=>⟨fE K fun p v=>by kernel_rfl,trivial⟩) fun x=>by kernel_rfl
def bT (x0:(List bn)):Option ((List bn)):=GY x0
def jH:aA:=mkSpec [.ro .file] [.buf .file] false (fun x=>bT x)
theorem pF:bJ PG 65 jH:=agB fun x=>by kernel_rfl
def gX (x0:(List bn)) (x1:Int) (x2:Int):Option ((List bn)):=cnd (band (band (band (ile 0 x1) (ile x1 x2)) (ile x2 (len x0))) (band (ile x2 (len x0)) (ile (len x0) (len x0)))) (cnd (ieq x1 x2) (some x0) (cnd (band (ile 0 x1) (ile x1 (len x0))) (cnd (band (ile 0 x2) (ile x2 (len x0))) (cnd (ile (aB (nti (itn x1)) (len (cZ (dR x0 (itn x2)) (itn (aV (len x0) x2))))) (len x0)) (cnd (band (band (ile 0 (nti (nad (itn x1) (itn (len (cZ (dR x0 (itn x2)) (itn (aV (len x0) x2)))))))) (ile (nti (nad (itn x1) (itn (len (cZ (dR x0 (itn x2)) (itn (aV (len x0) x2))))))) (len x0))) (ile (len x0) (aV (len (sQ x0 (itn x1) (cZ (dR x0 (itn x2)) (itn (aV (len x0) x2))))) 0))) (some (cZ (dR (sQ (sQ x0 (itn x1) (cZ (dR x0 (itn x2)) (itn (aV (len x0) x2)))) (nad 0 (itn (nti (nad (itn x1) (itn (len (cZ (dR x0 (itn x2)) (itn (aV (len x0) x2))))))))) (yO bn (itn (aV (len x0) (nti (nad (itn x1) (itn (len (cZ (dR x0 (itn x2)) (itn (aV (len x0) x2))))))))))) 0) (nad (itn x1) (itn (len (cZ (dR x0 (itn x2)) (itn (aV (len x0) x2)))))))) none) none) none) none)) none
def zN:aA:=mkSpec [.buf .file,.int .i64,.int .i64] [.ro .file] false (fun x=>gX x.1 x.2.1 x.2.2)
theorem LW:bJ PG 234 zN:=okN [] [] trivial fun x=>by kernel_rfl
def wo (x0:aC) (x1:(List UInt8)):Option (aC×Int):=af (uZ x0 [x1]) fun y0=>cnd (ak (ieq y0 0)) (cnd (ak (ieq y0 0)) (some (x0,y0)) (cnd (ieq x0.fuse 0) (some (aC.mk x0.files x0.room x0.fuse true,9)) (cnd (ieq x0.fuse (-1)) (af (bT x0.files) fun y1=>af (gX y1 0 1) fun y2=>some (aC.mk y2 x0.room x0.fuse x0.down,0)) (af (bT x0.files) fun y3=>af (gX y3 0 1) fun y4=>some (aC.mk y4 x0.room (wr .i64 (aV x0.fuse 1)) x0.down,0))))) (af (xR x0 x1) fun y5=>cnd (ak y5.2) (some (x0,7)) (cnd (ieq x0.fuse 0) (some (aC.mk x0.files x0.room x0.fuse true,9)) (cnd (ieq x0.fuse (-1)) (af (bT x0.files) fun y6=>af (gX y6 y5.1 (wr .i64 (aB y5.1 1))) fun y7=>some (aC.mk y7 x0.room x0.fuse x0.down,0)) (af (bT x0.files) fun y8=>af (gX y8 y5.1 (wr .i64 (aB y5.1 1))) fun y9=>some (aC.mk y9 x0.room (wr .i64 (aV x0.fuse 1)) x0.down,0)))))
def Bz:aA:=mkSpec [.val .disk,.str] [.val .disk,.int .i64] false (fun x=>wo x.1 x.2)
theorem UA:bJ PG 177 Bz:=okN [(227,ug),(228,xH),(65,jH),(234,zN)] [214,232] ⟨CU,FM,pF,LW,trivial⟩ fun x=>by kernel_rfl
section
open Go.RowKit Go.Shelf Go.Proofs
set_option maxHeartbeats 2000000
set_option maxRecDepth 100000
attribute [local go_sem] Oper.semAt_some
def Bj (zs:List Int) (k:Nat):Int:=zs[zs.length - 1 - k]?.getD 0
theorem aiE (zs:List Int) {k:Nat} (hk:k<zs.length):zs.reverse[k]? =some (Bj zs k):=by
 unfold Bj;rw[List.getElem?_reverse hk,List.getElem?_eq_getElem (by omega)];rfl
def G8 (Bs b:Nat) (W W':World):Prop:=W'.heap[Bs]? =W.heap[Bs]? /\W'.heap[b]? =W.heap[b]?
theorem aah {Bs b:Nat} {A B C:World} (h:G8 Bs b A B) (k:G8 Bs b B C):G8 Bs b A C:=⟨k.1.trans h.1,k.2.trans h.2⟩
theorem V3 {W W':World} {b o:Nat} (h:W'.heap[b]? =W.heap[b]?):W'.cell? ⟨b,o,none⟩=W.cell? ⟨b,o,none⟩:=World.cell?_of_block h
def abl (b:Nat) (W:World) (sv:Value) (zs:List Int):Prop:=
 (∃a cap,sv= .slice a 0 cap/\zs=[])\/∃off cap,sv= .slice (some ⟨b,off,none⟩) zs.length cap/\b<W.heap.size/\∀j,j<zs.length->W.cell? ⟨b,off+j,none⟩=some (.int .i64 (zs[j]?.getD 0))
theorem agf (l Bs b off len cap:Nat) (zs:List Int) (hlen:zs.length=len) (hreach:len<=9223372036854775807) (n:Nat) (hn:1<=n) (J:Nat->World->Prop)
 (hY:∀k W,J k W->k<len->YieldAt Fence.wide (n - 1) Tryz.prog l #[.int .i64 ((len - 1 - k:Nat):Int),.int .i64 (Bj zs k)] W fun e W'=>e= .returned (.bool true)/\J (k+1) W'/\G8 Bs b W W')
 (W:World) (hBs:W.cell? ⟨Bs,0,none⟩=some (.slice (some ⟨b,off,none⟩) len cap)) (hc:∀j,j<len->W.cell? ⟨b,off+j,none⟩=some (.int .i64 (zs[j]?.getD 0))) (h0:J 0 W):
 CallsIn Fence.wide n Tryz.prog 266 #[.func (.yield l) #[] #[],.pointer (some ⟨Bs,0,none⟩)] W fun e W'=>(∃v,e= .returned v)/\J len W':=by
 refine callsIn_of_wp Tryz.func266 rfl trivial ?_ rfl
 simp only[Tryz.ntmps266,List.size_toArray,List.length_cons,List.length_nil,Nat.reduceAdd,Nat.reduceSub,Array.replicate_succ,Array.replicate_zero,List.push_toArray,List.append_toArray,List.nil_append,List.cons_append]
 gi_wp2
 gi_loopw [3] (fun i wr=>∃k:Nat,k<=len/\i= .int .i64 ((len:Int) - 1 - k)/\J k wr/\G8 Bs b W wr)
  (fun i _=>(intOf i+1).toNat)
 case atStart=>exact⟨0,Nat.zero_le _,by simp,h0,rfl,rfl⟩
 case round=>
  obtain⟨k,hk,rfl,hJs,hnx⟩:=hrel
  have hBr:wr.cell? ⟨Bs,0,none⟩=some (.slice (some ⟨b,off,none⟩) len cap):=(V3 hnx.1).trans hBs
  by_cases hlt:k<len
  ·have hcx:wr.cell? ⟨b,off+(len - 1 - k),none⟩=some (.int .i64 (Bj zs k)):=(V3 hnx.2).trans ((hc _ (by omega)).trans (by unfold Bj;rw[hlen]))
   obtain⟨fn,tmps,assign,body,hy,hR⟩:=hY k wr hJs hlt
   obtain⟨m,hm⟩:∃m,m+1+k=len:=⟨len - 1 - k,by omega⟩
   have hmi:(len:Int) - 1 - k=m:=by omega
   have hm2:len - 1 - k=m:=by omega
   rw[hm2]at hcx hy
   rw[hmi]
   have hmlt:m<len:=by omega
   clear hmi hm2
   generalize Bj zs k=x at hcx hy
   gi_wp2
   refine hR.mono ?_
   rintro e W3 ⟨rfl,hJ3,hk3⟩
   gi_wp2
   go_roundw
   case rel=>exact⟨k+1,by omega,by congr 1;omega,hJ3,aah hnx hk3⟩
   case measure=>first | (simp [intOf];done) | (simp [intOf];omega)
  ·obtain rfl:k=len:=by omega
   rw[show(k:Int) - 1 - k= -1 by omega]
   gi_wp2
   go_end0
   exact⟨⟨_,rfl⟩,hJs⟩
theorem adv (l Bs:Nat) (a:Option Addr) (cap n:Nat) (J:Nat->World->Prop) (W:World) (hBs:W.cell? ⟨Bs,0,none⟩=some (.slice a 0 cap)) (h0:J 0 W):
 CallsIn Fence.wide n Tryz.prog 266 #[.func (.yield l) #[] #[],.pointer (some ⟨Bs,0,none⟩)] W fun e W'=>(∃v,e= .returned v)/\J 0 W':=by
 refine callsIn_of_wp Tryz.func266 rfl trivial ?_ rfl
 simp only[Tryz.ntmps266,List.size_toArray,List.length_cons,List.length_nil,Nat.reduceAdd,Nat.reduceSub,Array.replicate_succ,Array.replicate_zero,List.push_toArray,List.append_toArray,List.nil_append,List.cons_append]
 gi_wp2
 gi_loopw [3] (fun i wr=>i= .int .i64 (-1)/\J 0 wr) (fun _ _=>0)
 case atStart=>exact⟨rfl,h0⟩
 case round=>
  obtain⟨rfl,hJs⟩:=hrel
  gi_wp2
  go_end0
  exact⟨⟨_,rfl⟩,hJs⟩
theorem adl (Bs b:Nat) (sv:Value) (zs:List Int) (hreach:zs.length<=9223372036854775807) (w:World) (hBs:Bs<w.heap.size) (hc:w.cell? ⟨Bs,0,none⟩=some sv) (hI:abl b w sv zs) (n:Nat) (hn:1<=n)
 (l:Nat) (J:Nat->World->Prop) (W:World) (hW:Below w.heap.size w W) (hY:∀k W1,J k W1->k<zs.length->YieldAt Fence.wide (n - 1) Tryz.prog l #[.int .i64 ((zs.length - 1 - k:Nat):Int),.int .i64 (Bj zs k)] W1 fun e W'=>e= .returned (.bool true)/\J (k+1) W'/\G8 Bs b W1 W')
 (h0:J 0 W):CallsIn Fence.wide n Tryz.prog 266 (#[.func (.yield l) #[] #[]]++ #[.pointer (some ⟨Bs,0,none⟩)]) W fun e W'=>(∃v,e= .returned v)/\J zs.length W':=by
 have hc':=(hW.cell (p:=⟨Bs,0,none⟩) hBs).trans hc
 rcases hI with ⟨a,cap,rfl,rfl⟩ | ⟨off,cap,rfl,hb,hcs⟩
 ·exact adv l Bs a cap n J W hc' h0
 ·exact agf l Bs b off zs.length cap zs rfl hreach n hn J hY W hc' (fun j hj=>(hW.cell (p:=⟨b,off+j,none⟩) hb).trans (hcs j hj)) h0
theorem ahq (n:Nat) (a:Option Addr) (len cap:Nat) (w:World):
 CallsIn Fence.wide n Tryz.prog 223 #[.slice a len cap] w fun e w'=>e= .returned (.func (.func 266) #[] #[.pointer (some ⟨w.heap.size,0,none⟩)])/\w'=w.alloc (.cells #[.slice a len cap] 31):=by
 refine callsIn_of_wp Tryz.func223 rfl trivial ?_ rfl
 simp only[Tryz.ntmps223,List.size_toArray,List.length_cons,List.length_nil,Nat.reduceAdd,Nat.reduceSub,Array.replicate_succ,Array.replicate_zero,List.push_toArray,List.append_toArray,List.nil_append,List.cons_append]
 gi_wp2
 go_ret
 exact⟨rfl,rfl⟩
def kL (z:wV) (n:Int):Option wV:=cnd (ieq z.e 0) (af (jD n) fun s=>af (wo z.d s) fun r=>some ⟨r.1,r.2⟩) (some z)
def kz (x0:wV) (x1:List Int):Option (wV×(Unit)):=cnd (ile (len x1) 9223372036854775807) (af (Js kL x0 x1.reverse) fun z=>some (z,PUnit.unit)) none
noncomputable def Jz:Cx:={ P:=PG,ety:=ety,fn:=look [(173,vN),(177,Bz)],inl:=aoT [4095],lp:=UM [] }
noncomputable def adf:Code:=match Go.Proofs.Tryz.f162.body with
 |some (.seq _ (.seq _ (.block _ (.rangeFunc _ _ _ b))))=>b
 |_=> .skip
def ano (z:wV) (n:Int):FS:=⟨[(2,.mp 8 0),(5,.int .i64 n)],[(0,some ⟨false,.raw (cells .mender z)⟩),(8,some ⟨false,.raw [.mp 0 0]⟩)],2⟩
def ahm:Ex->FS->Option wV:=fun e A=>match e with
 |.normal=>(match A.hp 8 with
  |some ⟨false,.raw [.mp 0 0]⟩=>ack .mender A.hp 0
  |_=>none)
 |_=>none
theorem ahQ (z:wV) (n:Int):Og Jz 900 162 1 adf (ano z n) ahm=kL z n:=by kernel_rfl
theorem ag3:rok adf=true:=by kernel_rfl
theorem ahv:adt PG (162%4096)=31:=by kernel_rfl
def yx:aA:=BA .mender [.ro .i64] [] (fun x=>kz x.1 x.2)
theorem am0:CxR Jz:=G7.cx (fun _=>rfl) (l:=[(173,vN),(177,Bz)]) ⟨DZ,UA,trivial⟩
theorem IJ:bJ PG 162 yx:=by
 refine Z5 (abS G7 (by kernel_rfl)) (e:= .mender) (xs:=[.ro .i64]) (rs:=[]) ?_ rfl rfl;intro M1 w vals z zs0 y hrun hrel hH hF hU hU0 m1fs hn hseen;obtain⟨zs,hzs⟩:∃zs:List Int,zs=zs0:=⟨zs0,rfl⟩;subst hzs;have hrun:kz z zs=some y:=hrun;unfold kz at hrun;cases hle:ile (len zs) 9223372036854775807 with
 |false=>rw[hle]at hrun;cases hrun
 |true=>
 have hlen:zs.length<=9223372036854775807:=by
  have h:decide ((zs.length:Int)<=9223372036854775807)=true:=hle;have:=of_decide_eq_true h;omega
 rw[hle]at hrun;have hrun:(af (Js kL z zs.reverse) fun z=>some (z,PUnit.unit))=some y:=hrun;cases hy:Js kL z zs.reverse with
 |none=>rw[hy]at hrun;cases hrun
 |some q=>
 rw[hy]at hrun;have hrun:y=(q,PUnit.unit):=(Option.some.inj hrun).symm;subst hrun;obtain⟨v0,v1,rfl⟩:∃v0 v1,vals= #[v0,v1]:=by
  have h2:vals.size=2:=hn;refine⟨vals[0],vals[1],?_⟩;apply Array.ext
  ·simp [h2]
  ·intro i h1 h3;have:i=0\/i=1:=by simp at h3;omega
   rcases this with rfl | rfl<;>simp
 have s0:aY M1 (.mp 0 0) v0:=hseen 0 (by simp) (by simp);have s1:aY M1 (.ro .i64 zs false) v1:=hseen 1 (by simp [qF]) (by simp);obtain⟨b,sa,sn,sc,hv1,hI,hbF⟩:∃b sa sn sc,v1= .slice sa sn sc/\abl b w v1 zs/\(zs=[]\/M1.F b):=by
  clear hseen hrun hy hle hlen hn;generalize hx:AV.ro .i64 zs false=x at s1;cases s1 with
  |roE e ex a cap hx'=>cases hx;exact⟨0,_,_,_,rfl,.inl ⟨_,_,rfl,rfl⟩,.inl rfl⟩
  |ro e l ex b o cap hl hx' hF' cs hc hs=>
   cases hx;refine⟨b,_,_,_,rfl,.inr ⟨o,cap,rfl,hF _ hF',fun j hj=> ?_⟩,.inr hF'⟩;have h1:=hc j 0 hj (by decide);have h2:=hs j 0 hj (by decide);have h3:cs j 0= .int .i64 zs[j]:=by
    have h2:aY M1 (.int .i64 zs[j]) (cs j 0):=h2;generalize cs j 0=u at h2;cases h2;rfl
   rw[h3]at h1;rw[List.getElem?_eq_getElem hj];show w.cell? ⟨b,o+j,none⟩=some (.int .i64 zs[j]);rw[hH]at h1;have h1:cellAt w.heap b (o+j)=some (.int .i64 zs[j]):=by simpa [esz] using h1
   unfold cellAt at h1;unfold World.cell?;split at h1
   ·rename_i c t fr hcc;simp only[hcc];exact h1
   ·cases h1
  |_=>cases hx
 subst hv1;have w1b:Below (w.heap.size+1) (w.alloc (.cells #[v0] 222)) ((w.alloc (.cells #[v0] 222)).alloc (.cells #[.slice sa sn sc] 31)):=(Below.refl _ _).alloc (by simp) _;obtain⟨b0,rfl,l0,nF0,st⟩:=alr hrel hH hF hU hU0 m1fs s0 w1b;refine(callsIn_wide (n:=10)).1 ?_;refine callsIn_of_wp_marks Tryz.func162 rfl trivial ?_ rfl;simp only[Tryz.ntmps162,List.size_toArray,List.length_cons,List.length_nil,Nat.reduceAdd,Nat.reduceSub,Array.replicate_succ,Array.replicate_zero,List.push_toArray,List.append_toArray,List.nil_append,List.cons_append]
 gi_wp2_with (refine⟨trivial,?_⟩;gi_at_call 223;refine(ahq _ _ _ _ _).mono ?_;rintro e w' ⟨rfl,rfl⟩)
 have nfl:¬M1.F b0:=nF0;obtain⟨w1,hw1⟩:∃w1,(w.alloc (.cells #[.pointer (some ⟨b0,0,none⟩)] 222)).alloc (.cells #[.slice sa sn sc] 31)=w1:=⟨_,rfl⟩;have hsz:w1.heap.size=w.heap.size+2:=by rw[<-hw1];simp
 have hBs:w1.cell? ⟨w.heap.size+1,0,none⟩=some (.slice sa sn sc):=by
  rw[<-hw1];have:=World.alloc_heap_new (w.alloc (.cells #[.pointer (some ⟨b0,0,none⟩)] 222)) (.cells #[.slice sa sn sc] 31);rw[World.size_alloc]at this;unfold World.cell?;simp only[this];rfl
 have hI1:abl b w1 (.slice sa sn sc) zs:=by
  have hb1:Below w.heap.size w w1:=by rw[<-hw1];exact((Below.refl _ w).alloc (Nat.le_refl _) _).alloc (by simp) _
  rcases hI with h | ⟨o,c,h1,h2,h3⟩
  ·exact .inl h
  ·exact .inr ⟨o,c,h1,Nat.lt_of_lt_of_le h2 hb1.size,fun j hj=>(hb1.cell (p:=⟨b,o+j,none⟩) h2).trans (h3 j hj)⟩
 rw[hw1]at st ⊢;have hF1:∀b,M1.F b->b<w1.heap.size:=fun b hb=>by have:=hF b hb;omega
 have l0':b0<w1.heap.size:=by omega
 have lx':w.heap.size<w1.heap.size:=by omega
 refine akX (n:=10) (gf:=266) (lb:= #[.pointer (some ⟨w.heap.size+1,0,none⟩)]) rfl (enters_of Tryz.func266 (by kernel_rfl) rfl) (N:=zs.length)
  (encs:=fun k=> #[.int .i64 ((zs.length - 1 - k:Nat):Int),.int .i64 (Bj zs k)]) (fun _=>rfl) (fun W W'=>zs=[]\/G8 (w.heap.size+1) b W W') (fun h k=> ?kt) (fun W l o hl=> ?kb)
  (fun k W=>∃q,Js kL z (zs.reverse.take k)=some q/\Stp (vw M1.F w1.heap.size b0 w.heap.size .mender z w1) w1 (vw M1.F w1.heap.size b0 w.heap.size .mender q W) W)
  (fun k W W' row hi hg hr=> ?grow) ⟨z,rfl,Stp.refl st.hrel rfl⟩ (fun l J W hW hY h0=> ?iter)
  (fun k=>{ tmps:= #[.pointer (some ⟨b0,0,none⟩),.slice sa sn sc,.pointer (some ⟨w.heap.size,0,none⟩),undef,undef,.int .i64 (Bj zs k),.slice sa sn sc,.func (.func 266) #[] #[.pointer (some ⟨w.heap.size+1,0,none⟩)],.int .i64 ((zs.length - 1 - k:Nat):Int),.int .i64 (Bj zs k),undef,undef,undef,undef,undef,undef,undef,undef,undef,undef,undef,undef,undef,undef,undef,undef,undef,undef,undef,undef,undef],defers:=[] }) ?assign (fun l k W hi hk=> ?body) (fun D W hD hi hK=> ?done)
 case kt=>
  rcases h with h | h
  ·exact .inl h
  ·rcases k with k | k
   ·exact .inl k
   ·exact .inr (aah h k)
 case kb=>
  rcases hI with ⟨_,_,_,h⟩ | ⟨_,_,_,h,_⟩
  ·exact .inl h
  ·exact .inr ⟨World.putObj_heap_other (by omega),World.putObj_heap_other (by omega)⟩
 case grow=>
  obtain⟨q,hq,s⟩:=hi;exact⟨q,hq,aia hF1 l0' lx' s hg hr⟩
 case iter=>
  refine adl (w.heap.size+1) b (.slice sa sn sc) zs hlen w1 (by omega) hBs hI1 _ (by omega) l J W hW (fun k W1 hj hk=> ?_) h0;obtain⟨fn,tm,asg,bd,g1,g2⟩:=hY k W1 hj hk;refine⟨fn,tm,asg,bd,g1,g2.mono fun e W' ⟨h1,h2,h3⟩=>⟨h1,h2,?_⟩⟩;rcases h3 with h3 | h3
  ·rw[h3]at hk;simp at hk
  ·exact h3
 case assign=>
  intro l k W K hK
  gi_wp2
  exact hK
 case body=>
  obtain⟨q',hq',s⟩:=hi;have hk2:k<zs.reverse.length:=by simpa using hk
  obtain⟨q2,hq2⟩:=ai8 _ z zs.reverse hy (k+1);have hr:kL q' (Bj zs k)=some q2:=by
   rw[List.take_succ_eq_append_getElem hk2,ajj,hq']at hq2;have e:=aiE zs hk;rw[List.getElem?_eq_getElem hk2]at e;rw[Option.some.inj e]at hq2;exact hq2
  rw[<-ahQ]at hr;have hvr:=s.hrel;have hB:JB ⟨vw M1.F w1.heap.size b0 w.heap.size .mender q' W,W,2,31,fun _=>False,fun _=>undef⟩:=⟨hvr,rfl,s.Fsz fun b hb=> ?fsz,fun id h=>by show id<16;rcases h with h | h<;>omega⟩
  case fsz=>
   rcases hb with h | ⟨_,c,t,fr,hc⟩
   ·exact hF1 b h
   ·exact(Array.getElem?_eq_some_iff.1 hc).1
  refine Yz am0 l 8 900 q2 162 1 adf _ _ ag3 hr _ hB (Nat.le_of_eq ahv) (TN (l:=[]) rfl trivial _ _) (Keeps.no _ fun _ h=>h) (vw M1.F w1.heap.size b0 w.heap.size .mender q' W) _ W ?rel _ (fun⟨_,_,h⟩=>h) ?post
  case rel=>
   refine⟨Stp.refl hvr rfl,fun t=> ?_,fun id=>rfl,rfl,Nat.le_refl _,fun _ h=>h.elim,fun id h=> .inl h,fun t c j x g v hc=> ?_,Nat.le_refl _⟩
   ·show aY _ (get [(2,.mp 8 0),(5,.int .i64 (Bj zs k))] t) _;rw[ajC];by_cases h2:t=2
    ·subst h2;exact arj
    ·by_cases h5:t=5
     ·subst h5;exact .int _ _
     ·rw[if_neg h2,if_neg h5];exact .undef _
   ·have hc:get [(2,.mp 8 0),(5,.int .i64 (Bj zs k))] t= .cond c j x g v:=hc;rw[ajC]at hc;by_cases h2:t=2
    ·rw[if_pos h2]at hc;cases hc
    ·rw[if_neg h2]at hc;by_cases h5:t=5
     ·rw[if_pos h5]at hc;cases hc
     ·rw[if_neg h5]at hc;cases hc
  case post=>
   intro e A' M' a' W' he R';cases e with
   |normal=>
    unfold ahm at he;simp only at he;split at he
    ·rename_i h8;obtain⟨cs,h0,hof⟩:=acU he;have st':Stp (vw M1.F w1.heap.size b0 w.heap.size .mender q' W) W M' W':=R'.stp;have sr:=akw hF1 l0' lx' st' ((R'.hp 0).trans h0) hof ((R'.hp 8).trans h8) s.size;have hold:∀j,j<W.heap.size->j≠b0->j≠w.heap.size->W'.heap[j]? =W.heap[j]? :=fun j h1 h2 h3=>st'.old j h1 fun ho=>by
      rcases al8 ho with h | h
      ·exact h2 h
      ·exact h3 h
     refine⟨⟨st'.size,fun j o _ hj ho=> ?_⟩,?_,q2,hq2,s.trans sr st.hrel rfl⟩
     ·refine(st'.old j (Array.getElem?_eq_some_iff.1 hj).1 fun hown=> ?_).trans hj;obtain⟨c,t,fr,hc⟩:=alo hvr hown;have hc:W.heap[j]? =some (.cells c t fr):=hc;rw[hj]at hc;cases hc;cases ho
     ·have hs:=s.size;rcases hbF with h | h
      ·exact .inl h
      ·have hbl:=hF b h;exact .inr ⟨hold _ (by omega) (by omega) (by omega),hold b (by omega) (fun e=>nF0 (e▸h)) (by omega)⟩
    ·cases he
   |_=>cases he
 case done=>
  obtain⟨q',hq',s⟩:=hi;have:q'=q:=by
   rw[show zs.length=zs.reverse.length by simp,List.take_length,hy]at hq';exact(Option.some.inj hq').symm
  subst this;refine⟨by simp,.inl ⟨_,_,rfl,run_takeDeferred hK,?_⟩⟩;have sD:=aia hF1 l0' lx' s (grownBy_putObj' W D (.deferred none)) (fun r e=>by cases e;exact⟨hD,_,hK,rfl⟩);exact⟨_,results_none rfl _ _ _,_,rfl,_,(vw M1.F w1.heap.size b0 w.heap.size .mender q' (W.putObj D (.deferred none))).hp,[],st.trans sD hrel hH,fun _ _ h=>h,.tup [] #[] rfl fun i h _=>by simp at h,aom⟩
end
def acG (x0:aC) (x1:(List UInt8)) (x2:Int):Option (aC×Int):=af (uZ x0 [x1]) fun y0=>cnd (ak (ieq y0 0)) (cnd (ak (ieq y0 0)) (some (x0,y0)) (cnd (ilt x2 0) (cnd (ilt x2 0) (some (x0,1)) (cnd (ieq x0.fuse 0) (some (aC.mk x0.files x0.room x0.fuse true,9)) (cnd (ieq x0.fuse (-1)) (af (bT x0.files) fun y1=>cnd (ilt 0 (len y1)) (cnd (band (ile 0 x2) (ile x2 (len (aj y1 0).data))) (af (fD (cZ (aj y1 0).data (itn x2))) fun y2=>some (aC.mk (dN (dN y1 0 (bn.mk (aj y1 0).name y2 (aj y1 0).sure)) 0 (bn.mk (aj (dN y1 0 (bn.mk (aj y1 0).name y2 (aj y1 0).sure)) 0).name (aj (dN y1 0 (bn.mk (aj y1 0).name y2 (aj y1 0).sure)) 0).data (ji (aj y1 0).sure x2))) x0.room x0.fuse x0.down,0)) none) none) (af (bT x0.files) fun y3=>cnd (ilt 0 (len y3)) (cnd (band (ile 0 x2) (ile x2 (len (aj y3 0).data))) (af (fD (cZ (aj y3 0).data (itn x2))) fun y4=>some (aC.mk (dN (dN y3 0 (bn.mk (aj y3 0).name y4 (aj y3 0).sure)) 0 (bn.mk (aj (dN y3 0 (bn.mk (aj y3 0).name y4 (aj y3 0).sure)) 0).name (aj (dN y3 0 (bn.mk (aj y3 0).name y4 (aj y3 0).sure)) 0).data (ji (aj y3 0).sure x2))) x0.room (wr .i64 (aV x0.fuse 1)) x0.down,0)) none) none)))) (cnd (ilt 0 (len x0.files)) (cnd (ilt (len (aj x0.files 0).data) x2) (some (x0,1)) (cnd (ieq x0.fuse 0) (some (aC.mk x0.files x0.room x0.fuse true,9)) (cnd (ieq x0.fuse (-1)) (af (bT x0.files) fun y5=>cnd (ilt 0 (len y5)) (cnd (band (ile 0 x2) (ile x2 (len (aj y5 0).data))) (af (fD (cZ (aj y5 0).data (itn x2))) fun y6=>some (aC.mk (dN (dN y5 0 (bn.mk (aj y5 0).name y6 (aj y5 0).sure)) 0 (bn.mk (aj (dN y5 0 (bn.mk (aj y5 0).name y6 (aj y5 0).sure)) 0).name (aj (dN y5 0 (bn.mk (aj y5 0).name y6 (aj y5 0).sure)) 0).data (ji (aj y5 0).sure x2))) x0.room x0.fuse x0.down,0)) none) none) (af (bT x0.files) fun y7=>cnd (ilt 0 (len y7)) (cnd (band (ile 0 x2) (ile x2 (len (aj y7 0).data))) (af (fD (cZ (aj y7 0).data (itn x2))) fun y8=>some (aC.mk (dN (dN y7 0 (bn.mk (aj y7 0).name y8 (aj y7 0).sure)) 0 (bn.mk (aj (dN y7 0 (bn.mk (aj y7 0).name y8 (aj y7 0).sure)) 0).name (aj (dN y7 0 (bn.mk (aj y7 0).name y8 (aj y7 0).sure)) 0).data (ji (aj y7 0).sure x2))) x0.room (wr .i64 (aV x0.fuse 1)) x0.down,0)) none) none)))) none))) (af (xR x0 x1) fun y9=>cnd (ak y9.2) (some (x0,7)) (cnd (ilt x2 0) (cnd (ilt x2 0) (some (x0,1)) (cnd (ieq x0.fuse 0) (some (aC.mk x0.files x0.room x0.fuse true,9)) (cnd (ieq x0.fuse (-1)) (af (bT x0.files) fun y10=>cnd (band (ile 0 y9.1) (ilt y9.1 (len y10))) (cnd (band (ile 0 x2) (ile x2 (len (aj y10 (itn y9.1)).data))) (af (fD (cZ (aj y10 (itn y9.1)).data (itn x2))) fun y11=>some (aC.mk (dN (dN y10 (itn y9.1) (bn.mk (aj y10 (itn y9.1)).name y11 (aj y10 (itn y9.1)).sure)) (itn y9.1) (bn.mk (aj (dN y10 (itn y9.1) (bn.mk (aj y10 (itn y9.1)).name y11 (aj y10 (itn y9.1)).sure)) (itn y9.1)).name (aj (dN y10 (itn y9.1) (bn.mk (aj y10 (itn y9.1)).name y11 (aj y10 (itn y9.1)).sure)) (itn y9.1)).data (ji (aj y10 (itn y9.1)).sure x2))) x0.room x0.fuse x0.down,0)) none) none) (af (bT x0.files) fun y12=>cnd (band (ile 0 y9.1) (ilt y9.1 (len y12))) (cnd (band (ile 0 x2) (ile x2 (len (aj y12 (itn y9.1)).data))) (af (fD (cZ (aj y12 (itn y9.1)).data (itn x2))) fun y13=>some (aC.mk (dN (dN y12 (itn y9.1) (bn.mk (aj y12 (itn y9.1)).name y13 (aj y12 (itn y9.1)).sure)) (itn y9.1) (bn.mk (aj (dN y12 (itn y9.1) (bn.mk (aj y12 (itn y9.1)).name y13 (aj y12 (itn y9.1)).sure)) (itn y9.1)).name (aj (dN y12 (itn y9.1) (bn.mk (aj y12 (itn y9.1)).name y13 (aj y12 (itn y9.1)).sure)) (itn y9.1)).data (ji (aj y12 (itn y9.1)).sure x2))) x0.room (wr .i64 (aV x0.fuse 1)) x0.down,0)) none) none)))) (cnd (band (ile 0 y9.1) (ilt y9.1 (len x0.files))) (cnd (ilt (len (aj x0.files (itn y9.1)).data) x2) (some (x0,1)) (cnd (ieq x0.fuse 0) (some (aC.mk x0.files x0.room x0.fuse true,9)) (cnd (ieq x0.fuse (-1)) (af (bT x0.files) fun y14=>cnd (band (ile 0 y9.1) (ilt y9.1 (len y14))) (cnd (band (ile 0 x2) (ile x2 (len (aj y14 (itn y9.1)).data))) (af (fD (cZ (aj y14 (itn y9.1)).data (itn x2))) fun y15=>some (aC.mk (dN (dN y14 (itn y9.1) (bn.mk (aj y14 (itn y9.1)).name y15 (aj y14 (itn y9.1)).sure)) (itn y9.1) (bn.mk (aj (dN y14 (itn y9.1) (bn.mk (aj y14 (itn y9.1)).name y15 (aj y14 (itn y9.1)).sure)) (itn y9.1)).name (aj (dN y14 (itn y9.1) (bn.mk (aj y14 (itn y9.1)).name y15 (aj y14 (itn y9.1)).sure)) (itn y9.1)).data (ji (aj y14 (itn y9.1)).sure x2))) x0.room x0.fuse x0.down,0)) none) none) (af (bT x0.files) fun y16=>cnd (band (ile 0 y9.1) (ilt y9.1 (len y16))) (cnd (band (ile 0 x2) (ile x2 (len (aj y16 (itn y9.1)).data))) (af (fD (cZ (aj y16 (itn y9.1)).data (itn x2))) fun y17=>some (aC.mk (dN (dN y16 (itn y9.1) (bn.mk (aj y16 (itn y9.1)).name y17 (aj y16 (itn y9.1)).sure)) (itn y9.1) (bn.mk (aj (dN y16 (itn y9.1) (bn.mk (aj y16 (itn y9.1)).name y17 (aj y16 (itn y9.1)).sure)) (itn y9.1)).name (aj (dN y16 (itn y9.1) (bn.mk (aj y16 (itn y9.1)).name y17 (aj y16 (itn y9.1)).sure)) (itn y9.1)).data (ji (aj y16 (itn y9.1)).sure x2))) x0.room (wr .i64 (aV x0.fuse 1)) x0.down,0)) none) none)))) none)))
def VN:aA:=mkSpec [.val .disk,.str,.int .i64] [.val .disk,.int .i64] false (fun x=>acG x.1 x.2.1 x.2.2)
theorem ahM:bJ PG 222 VN:=okN [(227,ug),(228,xH),(65,jH),(116,yu)] [214,232] ⟨CU,FM,pF,Iu,trivial⟩ fun x=>by kernel_rfl
def Hl (x0:wV) (x1:(List xZ)) (x2:(List Int)):Option (wV×((List xZ))):=af (kz x0 x2) fun y0=>cnd (ieq (len x1) 0) (some (y0.1,x1)) (cnd (band (ile 0 (wr .i64 (aV (len x1) 1))) (ilt (wr .i64 (aV (len x1) 1)) (len x1))) (cnd (ieq (len (aj x1 (itn (wr .i64 (aV (len x1) 1)))).frames) 0) (af (kz y0.1 [(aj x1 (itn (wr .i64 (aV (len x1) 1)))).number]) fun y1=>cnd (band (ile 0 (wr .i64 (aV (len x1) 1))) (ile (wr .i64 (aV (len x1) 1)) (len x1))) (some (y1.1,cZ x1 (itn (wr .i64 (aV (len x1) 1))))) none) (cnd (band (aj x1 (itn (wr .i64 (aV (len x1) 1)))).more (ieq y0.1.e 0)) (af (jD (aj x1 (itn (wr .i64 (aV (len x1) 1)))).number) fun y2=>af (acG y0.1.d y2 (wr .i64 (cO (len (aj x1 (itn (wr .i64 (aV (len x1) 1)))).frames) 72))) fun y3=>some (wV.mk y3.1 y3.2,x1)) (some (y0.1,x1)))) none)
def Jo:aA:=BA .mender [.ro .piece,.ro .i64] [.ro .piece] (fun x=>Hl x.1 x.2.1 x.2.2)
theorem XA:bJ PG 161 Jo:=okB [(162,yx),(173,vN),(222,VN)] [4095] [] ⟨IJ,DZ,ahM,trivial⟩ (fun _=>trivial) fun x=>by kernel_rfl
def gK:LSh:=⟨75,[(7,.int .i64)],[(0,.mf 0),(1,.fn 165 [.mp 1 0])],[(1,[.int .i64])],[(8,.int .i64),(4,.int .i64)],[],[(0,.frame)]⟩
@[reducible] def gJ:List vK:=[⟨.ret,[(4,.int .i64)],[],[(0,.frame)]⟩,⟨.exit 0,[(4,.int .i64)],[],[(0,.frame)]⟩]
def eF (p0:Int) (p1:Int) (v0:Int) (v1:Int) (v2:(List bY)):Option ((Int×Int×(List bY)) ⊕ ((Int×(List bY)) ⊕ ((Int×(List bY))))):=cnd (ilt v0 p0) (cnd (band (ile 0 v0) (ilt v0 (len v2))) (cnd (ile (aj v2 (itn v0)).lsn p1) (some (Sum.inr (Sum.inl (v0,v2)))) (some (Sum.inl (wr .i64 (aB v0 1),v1,v2)))) none) (some (Sum.inr (Sum.inr (v1,v2))))
def gy:dm:=gK.spec gJ [9,10,5,11,12,13,14,15,16,17,4,18,8] (fun p v=>eF p.1 p.2 v.1 v.2.1 v.2.2)
def tJ:LSh:=⟨149,[],[(0,.mf 0),(1,.fn 165 [.mp 1 0])],[(1,[.int .i64])],[(6,.int .i64),(5,.int .i64)],[],[(0,.frame)]⟩
@[reducible] def tK:List vK:=[⟨.exit 0,[(5,.int .i64)],[],[(0,.frame)]⟩]
def mY (p0:Int) (v0:Int) (v1:Int) (v2:(List bY)):Option ((Int×Int×(List bY)) ⊕ ((Int×(List bY)))):=cnd (ilt v0 (len v2)) (cnd (band (ile 0 v0) (ilt v0 (len v2))) (cnd (ak (ile (aj v2 (itn v0)).lsn p0)) (cnd (band (ile 0 v1) (ilt v1 (len v2))) (some (Sum.inl (wr .i64 (aB v0 1),wr .i64 (aB v1 1),dN v2 (itn v1) (aj v2 (itn v0))))) none) (some (Sum.inl (wr .i64 (aB v0 1),v1,v2)))) none) (some (Sum.inr (v1,v2)))
def rQ:dm:=tJ.spec tK [16,17,18,19,22,23,24,25,7,26,27,28,29,30,31,32,33,34,35,5,20,21,6] (fun p v=>mY p v.1 v.2.1 v.2.2)
def fP (x0:(List bY)) (x1:Int):Option ((List bY)):=af (bZ (fun v=>eF (len x0) x1 v.1 v.2.1 v.2.2) LF (0,0,x0)) fun y0=>dJ y0 (fun y1=>cnd (ieq y1.1 (-1)) (some y1.2) (af (bZ (fun v=>mY x1 v.1 v.2.1 v.2.2) LF (wr .i64 (aB y1.1 1),y1)) fun y2=>cnd (band (ile 0 y2.1) (ile y2.1 (len y2.2))) (cnd (band (ile 0 y2.1) (ile y2.1 (len (sQ y2.2 (itn y2.1) (yO bY (itn (aV (len y2.2) y2.1))))))) (some (cZ (dR (sQ y2.2 (itn y2.1) (yO bY (itn (aV (len y2.2) y2.1)))) 0) (itn y2.1))) none) none)) fun y1=>some y1.2
noncomputable def kH:Cx:={ P:=PG,ety:=ety,fn:=look [],inl:=aoT [4095,176,165],lp:=UM [(704374665392,26,gy),(164,122,rQ)] }
theorem lW (p0:Int) (p1:Int) (v0:Int) (v1:Int) (v2:(List bY)):aeN kH 900 704374665392 26 (TP PG 176 26) gK gJ (p0,p1) (v0,v1,v2)=eF p0 p1 v0 v1 v2:=by kernel_rfl
theorem BU (p0:Int) (v0:Int) (v1:Int) (v2:(List bY)):aeN kH 900 164 122 (TP PG 164 122) tJ tK p0 (v0,v1,v2)=mY p0 v0 v1 v2:=by kernel_rfl
theorem FI (x0:(List bY)) (x1:Int):aff kH 164 165 .frame x0 x1=fP x0 x1:=by kernel_rfl
def uq:aA:=yG 165 .frame (fun x=>fP x.1 x.2)
theorem Hz:bJ PG 164 uq:=
 have K:CxR kH:=G7.cx (fun _=>rfl) (l:=[]) trivial
 ali K (TN (l:=[(704374665392,26,gy),(164,122,rQ)]) rfl ⟨acS (n:=900) (f:=176) K (by kernel_rfl) (by kernel_rfl) (by kernel_rfl) (by kernel_rfl) (by kernel_rfl) (fun p v r h=>(lW p.1 p.2 v.1 v.2.1 v.2.2).trans h),
  acS (n:=900) (f:=164) K (by kernel_rfl) (by kernel_rfl) (by kernel_rfl) (by kernel_rfl) (by kernel_rfl) (fun p v r h=>(BU p v.1 v.2.1 v.2.2).trans h),trivial⟩) (by kernel_rfl) (fun x y h=>(FI x.1 x.2).trans h)
def abC (x0:aC) (x1:Int):Option (dG×aC×(List bY)×Int):=af (pO x0) fun y0=>cnd (ak y0) (some (dG.mk 0 0 0 0 0 [],x0,[],1)) (cnd (ilt x1 0) (some (dG.mk 0 0 0 0 0 [],x0,[],1)) (cnd (ile 1000000000 x1) (some (dG.mk 0 0 0 0 0 [],x0,[],1)) (cnd x0.down (some (dG.mk 0 0 0 0 0 [],x0,[],9)) (af (acM x0) fun y1=>af (XU y1.1) fun y2=>cnd (bor (band (ile 0 (wr .i64 (aV (len y2) 1))) (ilt (wr .i64 (aV (len y2) 1)) (len y2))) (ak (ak (ieq (len y2) 0)))) (cnd (ak (bor (ieq (len y2) 0) (ilt (aj y2 (itn (wr .i64 (aV (len y2) 1)))).lsn x1))) (cnd (band (ile 0 (wr .i64 (aV (len y2) 1))) (ilt (wr .i64 (aV (len y2) 1)) (len y2))) (cnd (bor (ilt 0 (len y1.1)) (ak (ilt 0 (len y1.1)))) (cnd (band (ilt 0 (len y1.1)) (ilt (wr .i64 (aB x1 1)) (aj y1.1 0).number)) (some (dG.mk 0 0 0 0 0 [],x0,[],11)) (cnd (ilt 1000000 (wr .i64 (aB (aj y2 (itn (wr .i64 (aV (len y2) 1)))).epoch 1))) (some (dG.mk 0 0 0 0 0 [],x0,[],3)) (af (Hl (wV.mk x0 0) y1.1 y1.2) fun y3=>cnd (bor (ieq (len y2) 0) (ilt (aj y2 (itn (wr .i64 (aV (len y2) 1)))).lsn x1)) (af (sJ y3.1.d) fun y4=>af (kz y3.1 y4) fun y5=>cnd (ak (ieq y5.1.e 0)) (some (dG.mk 0 0 0 0 0 [],y5.1.d,[],y5.1.e)) (af (fP [] x1) fun y6=>some (dG.mk (wr .i64 (aB (aj y2 (itn (wr .i64 (aV (len y2) 1)))).epoch 1)) (wr .i64 (aB x1 1)) x1 0 0 [],y5.1.d,y6,0))) (cnd (band (ile 0 (wr .i64 (aV (len y3.2) 1))) (ilt (wr .i64 (aV (len y3.2) 1)) (len y3.2))) (cnd (band (ile 0 (wr .i64 (aV (len y2) 1))) (ilt (wr .i64 (aV (len y2) 1)) (len y2))) (cnd (ak (ieq y3.1.e 0)) (some (dG.mk 0 0 0 0 0 [],y3.1.d,[],y3.1.e)) (af (fP y2 x1) fun y7=>some (dG.mk (wr .i64 (aB (aj y2 (itn (wr .i64 (aV (len y2) 1)))).epoch 1)) (wr .i64 (aB (aj y2 (itn (wr .i64 (aV (len y2) 1)))).lsn 1)) (aj y2 (itn (wr .i64 (aV (len y2) 1)))).lsn (aj y3.2 (itn (wr .i64 (aV (len y3.2) 1)))).number (len (aj y3.2 (itn (wr .i64 (aV (len y3.2) 1)))).frames) [],y3.1.d,y7,0))) none) none)))) none) none) (cnd (bor (ilt 0 (len y1.1)) (ak (ilt 0 (len y1.1)))) (cnd (band (ilt 0 (len y1.1)) (ilt (wr .i64 (aB x1 1)) (aj y1.1 0).number)) (some (dG.mk 0 0 0 0 0 [],x0,[],11)) (af (Hl (wV.mk x0 0) y1.1 y1.2) fun y8=>cnd (bor (ieq (len y2) 0) (ilt (aj y2 (itn (wr .i64 (aV (len y2) 1)))).lsn x1)) (af (sJ y8.1.d) fun y9=>af (kz y8.1 y9) fun y10=>cnd (ak (ieq y10.1.e 0)) (some (dG.mk 0 0 0 0 0 [],y10.1.d,[],y10.1.e)) (af (fP [] x1) fun y11=>some (dG.mk 1 (wr .i64 (aB x1 1)) x1 0 0 [],y10.1.d,y11,0))) (cnd (band (ile 0 (wr .i64 (aV (len y8.2) 1))) (ilt (wr .i64 (aV (len y8.2) 1)) (len y8.2))) (cnd (band (ile 0 (wr .i64 (aV (len y2) 1))) (ilt (wr .i64 (aV (len y2) 1)) (len y2))) (cnd (ak (ieq y8.1.e 0)) (some (dG.mk 0 0 0 0 0 [],y8.1.d,[],y8.1.e)) (af (fP y2 x1) fun y12=>some (dG.mk 1 (wr .i64 (aB (aj y2 (itn (wr .i64 (aV (len y2) 1)))).lsn 1)) (aj y2 (itn (wr .i64 (aV (len y2) 1)))).lsn (aj y8.2 (itn (wr .i64 (aV (len y8.2) 1)))).number (len (aj y8.2 (itn (wr .i64 (aV (len y8.2) 1)))).frames) [],y8.1.d,y12,0))) none) none))) none)) none))))
def VG:aA:=mkSpec [.val .disk,.int .i64] [.val .wal,.val .disk,.ro .frame,.int .i64] false (fun x=>abC x.1 x.2)
theorem aho:bJ PG 92 VG:=okN [(44,oC),(159,VQ),(160,Rl),(161,Jo),(163,zW),(162,yx),(164,uq)] [4095,165] ⟨vY,ahd,adh,XA,Jg,IJ,Hz,trivial⟩ fun x=>by kernel_rfl
def lF (x0:dB):Option (SA6×Int):=af (uJ x0) fun y0=>cnd (ak y0) (some (SA6.mk 0 0 0 0 0 0,1)) (cnd (ieq x0.kind 1) (some (SA6.mk x0.order x0.account x0.symbol x0.side x0.qty x0.price,0)) (cnd (ieq x0.kind 4) (some (SA6.mk x0.account x0.symbol x0.long x0.short x0.opn 0,0)) (cnd (ieq x0.kind 5) (cnd x0.on (some (SA6.mk 1 0 0 0 0 0,0)) (some (SA6.mk 0 0 0 0 0 0,0))) (cnd (ieq x0.kind 6) (some (SA6.mk x0.seq x0.what x0.order x0.qty x0.price 0,0)) (some (SA6.mk x0.order x0.qty x0.price 0 0 0,0))))))
def Oz:aA:=mkSpec [.val .recd] [.val .a6,.int .i64] true (fun x=>lF x)
theorem aal:bJ PG 97 Oz:=okN [(58,sF)] [] ⟨BB,trivial⟩ fun x=>by kernel_rfl
def Yb (x0:Int) (x1:SA6):Option (dB×Int):=cnd (ieq x0 1) (af (lF (dB.mk x0 x1.a0 x1.a1 x1.a2 x1.a3 x1.a4 x1.a5 0 0 0 false 0 0)) fun y0=>cnd (bor (ak (ieq y0.2 0)) (ak (band (ieq y0.1.a0 x1.a0) (band (ieq y0.1.a1 x1.a1) (band (ieq y0.1.a2 x1.a2) (band (ieq y0.1.a3 x1.a3) (band (ieq y0.1.a4 x1.a4) (band (ieq y0.1.a5 x1.a5) true)))))))) (some (dB.mk 0 0 0 0 0 0 0 0 0 0 false 0 0,2)) (some (dB.mk x0 x1.a0 x1.a1 x1.a2 x1.a3 x1.a4 x1.a5 0 0 0 false 0 0,0))) (cnd (ieq x0 2) (cnd (ieq x0 2) (af (lF (dB.mk x0 x1.a0 0 0 0 x1.a1 x1.a2 0 0 0 false 0 0)) fun y1=>cnd (bor (ak (ieq y1.2 0)) (ak (band (ieq y1.1.a0 x1.a0) (band (ieq y1.1.a1 x1.a1) (band (ieq y1.1.a2 x1.a2) (band (ieq y1.1.a3 x1.a3) (band (ieq y1.1.a4 x1.a4) (band (ieq y1.1.a5 x1.a5) true)))))))) (some (dB.mk 0 0 0 0 0 0 0 0 0 0 false 0 0,2)) (some (dB.mk x0 x1.a0 0 0 0 x1.a1 x1.a2 0 0 0 false 0 0,0))) (cnd (ieq x0 4) (af (lF (dB.mk x0 0 x1.a0 x1.a1 0 0 0 x1.a2 x1.a3 x1.a4 false 0 0)) fun y2=>cnd (bor (ak (ieq y2.2 0)) (ak (band (ieq y2.1.a0 x1.a0) (band (ieq y2.1.a1 x1.a1) (band (ieq y2.1.a2 x1.a2) (band (ieq y2.1.a3 x1.a3) (band (ieq y2.1.a4 x1.a4) (band (ieq y2.1.a5 x1.a5) true)))))))) (some (dB.mk 0 0 0 0 0 0 0 0 0 0 false 0 0,2)) (some (dB.mk x0 0 x1.a0 x1.a1 0 0 0 x1.a2 x1.a3 x1.a4 false 0 0,0))) (cnd (ieq x0 5) (af (lF (dB.mk x0 0 0 0 0 0 0 0 0 0 (ieq x1.a0 1) 0 0)) fun y3=>cnd (bor (ak (ieq y3.2 0)) (ak (band (ieq y3.1.a0 x1.a0) (band (ieq y3.1.a1 x1.a1) (band (ieq y3.1.a2 x1.a2) (band (ieq y3.1.a3 x1.a3) (band (ieq y3.1.a4 x1.a4) (band (ieq y3.1.a5 x1.a5) true)))))))) (some (dB.mk 0 0 0 0 0 0 0 0 0 0 false 0 0,2)) (some (dB.mk x0 0 0 0 0 0 0 0 0 0 (ieq x1.a0 1) 0 0,0))) (cnd (ieq x0 6) (af (lF (dB.mk x0 x1.a2 0 0 0 x1.a3 x1.a4 0 0 0 false x1.a0 x1.a1)) fun y4=>cnd (bor (ak (ieq y4.2 0)) (ak (band (ieq y4.1.a0 x1.a0) (band (ieq y4.1.a1 x1.a1) (band (ieq y4.1.a2 x1.a2) (band (ieq y4.1.a3 x1.a3) (band (ieq y4.1.a4 x1.a4) (band (ieq y4.1.a5 x1.a5) true)))))))) (some (dB.mk 0 0 0 0 0 0 0 0 0 0 false 0 0,2)) (some (dB.mk x0 x1.a2 0 0 0 x1.a3 x1.a4 0 0 0 false x1.a0 x1.a1,0))) (af (lF (dB.mk x0 0 0 0 0 0 0 0 0 0 false 0 0)) fun y5=>cnd (bor (ak (ieq y5.2 0)) (ak (band (ieq y5.1.a0 x1.a0) (band (ieq y5.1.a1 x1.a1) (band (ieq y5.1.a2 x1.a2) (band (ieq y5.1.a3 x1.a3) (band (ieq y5.1.a4 x1.a4) (band (ieq y5.1.a5 x1.a5) true)))))))) (some (dB.mk 0 0 0 0 0 0 0 0 0 0 false 0 0,2)) (some (dB.mk x0 0 0 0 0 0 0 0 0 0 false 0 0,0))))))) (cnd (ieq x0 3) (af (lF (dB.mk x0 x1.a0 0 0 0 x1.a1 x1.a2 0 0 0 false 0 0)) fun y6=>cnd (bor (ak (ieq y6.2 0)) (ak (band (ieq y6.1.a0 x1.a0) (band (ieq y6.1.a1 x1.a1) (band (ieq y6.1.a2 x1.a2) (band (ieq y6.1.a3 x1.a3) (band (ieq y6.1.a4 x1.a4) (band (ieq y6.1.a5 x1.a5) true)))))))) (some (dB.mk 0 0 0 0 0 0 0 0 0 0 false 0 0,2)) (some (dB.mk x0 x1.a0 0 0 0 x1.a1 x1.a2 0 0 0 false 0 0,0))) (cnd (ieq x0 4) (af (lF (dB.mk x0 0 x1.a0 x1.a1 0 0 0 x1.a2 x1.a3 x1.a4 false 0 0)) fun y7=>cnd (bor (ak (ieq y7.2 0)) (ak (band (ieq y7.1.a0 x1.a0) (band (ieq y7.1.a1 x1.a1) (band (ieq y7.1.a2 x1.a2) (band (ieq y7.1.a3 x1.a3) (band (ieq y7.1.a4 x1.a4) (band (ieq y7.1.a5 x1.a5) true)))))))) (some (dB.mk 0 0 0 0 0 0 0 0 0 0 false 0 0,2)) (some (dB.mk x0 0 x1.a0 x1.a1 0 0 0 x1.a2 x1.a3 x1.a4 false 0 0,0))) (cnd (ieq x0 5) (af (lF (dB.mk x0 0 0 0 0 0 0 0 0 0 (ieq x1.a0 1) 0 0)) fun y8=>cnd (bor (ak (ieq y8.2 0)) (ak (band (ieq y8.1.a0 x1.a0) (band (ieq y8.1.a1 x1.a1) (band (ieq y8.1.a2 x1.a2) (band (ieq y8.1.a3 x1.a3) (band (ieq y8.1.a4 x1.a4) (band (ieq y8.1.a5 x1.a5) true)))))))) (some (dB.mk 0 0 0 0 0 0 0 0 0 0 false 0 0,2)) (some (dB.mk x0 0 0 0 0 0 0 0 0 0 (ieq x1.a0 1) 0 0,0))) (cnd (ieq x0 6) (af (lF (dB.mk x0 x1.a2 0 0 0 x1.a3 x1.a4 0 0 0 false x1.a0 x1.a1)) fun y9=>cnd (bor (ak (ieq y9.2 0)) (ak (band (ieq y9.1.a0 x1.a0) (band (ieq y9.1.a1 x1.a1) (band (ieq y9.1.a2 x1.a2) (band (ieq y9.1.a3 x1.a3) (band (ieq y9.1.a4 x1.a4) (band (ieq y9.1.a5 x1.a5) true)))))))) (some (dB.mk 0 0 0 0 0 0 0 0 0 0 false 0 0,2)) (some (dB.mk x0 x1.a2 0 0 0 x1.a3 x1.a4 0 0 0 false x1.a0 x1.a1,0))) (af (lF (dB.mk x0 0 0 0 0 0 0 0 0 0 false 0 0)) fun y10=>cnd (bor (ak (ieq y10.2 0)) (ak (band (ieq y10.1.a0 x1.a0) (band (ieq y10.1.a1 x1.a1) (band (ieq y10.1.a2 x1.a2) (band (ieq y10.1.a3 x1.a3) (band (ieq y10.1.a4 x1.a4) (band (ieq y10.1.a5 x1.a5) true)))))))) (some (dB.mk 0 0 0 0 0 0 0 0 0 0 false 0 0,2)) (some (dB.mk x0 0 0 0 0 0 0 0 0 0 false 0 0,0))))))))
def RF:aA:=mkSpec [.int .i64,.val .a6] [.val .recd,.int .i64] true (fun x=>Yb x.1 x.2)
theorem adH:bJ PG 225 RF:=okN [(97,Oz)] [] ⟨aal,trivial⟩ fun x=>by kernel_rfl
def ah2 (x0:bY):Option (dB×Int):=af (Yb x0.kind (SA6.mk x0.b0 x0.b1 x0.b2 x0.b3 x0.b4 x0.b5)) fun y0=>some y0
def aas:aA:=mkSpec [.val .frame] [.val .recd,.int .i64] true (fun x=>ah2 x)
theorem akJ:bJ PG 166 aas:=okN [(225,RF)] [] ⟨adH,trivial⟩ fun x=>by kernel_rfl
def Tt (p0:Int) (p1:(List bY)) (v0:Int) (v1:(List dB)) (v2:Int) (v3:(List dB)):Option ((Int×(List dB)×Int×(List dB)) ⊕ ((Int×(List dB)) ⊕ (((List dB)×Int×(List dB))))):=cnd (ilt v0 p0) (cnd (band (ile 0 v0) (ilt v0 (len p1))) (af (ah2 (aj p1 (itn v0))) fun y0=>cnd (ak (ieq y0.2 0)) (some (Sum.inr (Sum.inl (2,[])))) (cnd (ile (len (aQ v1 [y0.1])) 68719476736) (some (Sum.inl (wr .i64 (aB v0 1),aQ v1 [y0.1],v2,v3))) none)) none) (some (Sum.inr (Sum.inr (v1,v2,v3))))
def aaL:dm:=LSh.spec ⟨74,[(13,.int .i64),(12,.ro .frame)],[],[],[(14,.int .i64),(4,.buf .recd),(3,.int .i64),(2,.buf .recd)],[],[]⟩ [⟨.ret,[(3,.int .i64),(2,.buf .recd)],[],[]⟩,⟨.exit 0,[(4,.buf .recd),(3,.int .i64),(2,.buf .recd)],[],[]⟩] (sP [(2,3),(6,3),(14,16)]) (fun p v=>Tt p.1 p.2 v.1 v.2.1 v.2.2.1 v.2.2.2)
def aao (x0:(List bY)):Option ((List dB)×Int):=cnd (band (ile 0 (len x0)) (ile (len x0) 68719476736)) (af (bZ (fun v=>Tt (len x0) x0 v.1 v.2.1 v.2.2.1 v.2.2.2) LF (0,yO dB 0,0,[])) fun y0=>dJ y0 (fun y1=>some (y1.2,y1.1)) fun y1=>some (y1.1,0)) none
def TL:aA:=mkSpec [.ro .frame] [.buf .recd,.int .i64] true (fun x=>aao x)
theorem afc:bJ PG 93 TL:=okP [(166,aas)] [] [(93,58,aaL)] ⟨akJ,trivial⟩ (fun K=>⟨fE K fun p v=>by kernel_rfl,trivial⟩) fun x=>by kernel_rfl
def gY (x0:(List ax)):Option ((List ax)):=GY x0
def zS:aA:=mkSpec [.ro .order] [.buf .order] true (fun x=>gY x)
theorem Me:bJ PG 178 zS:=agB fun x=>by kernel_rfl
def iG (x0:(List aT)):Option ((List aT)):=GY x0
def Ar:aA:=mkSpec [.ro .cell] [.buf .cell] true (fun x=>iG x)
theorem NY:bJ PG 179 Ar:=agB fun x=>by kernel_rfl
def iH (x0:(List fA)):Option ((List fA)):=GY x0
def Aw:aA:=mkSpec [.ro .expo] [.buf .expo] true (fun x=>iH x)
theorem Oc:bJ PG 180 Aw:=agB fun x=>by kernel_rfl
def jK (x0:(List Int)):Option ((List Int)):=GY x0
def Dz:aA:=mkSpec [.ro .i64] [.buf .i64] true (fun x=>jK x)
theorem Sv:bJ PG 181 Dz:=agB fun x=>by kernel_rfl
def H9 (x0:dB):Option (ax×Int):=af (cnd (ak (ak (ieq x0.kind 1))) (uJ x0) (some false)) fun y0=>cnd (bor (ak (ieq x0.kind 1)) (ak y0)) (some (ax.mk 0 0 0 0 0 0 0 0 0 0 0 false,1)) (some (ax.mk x0.order x0.account x0.symbol x0.side x0.qty x0.price 0 1 0 0 0 false,0))
def PV:aA:=mkSpec [.val .recd] [.val .order,.int .i64] true (fun x=>H9 x)
theorem aa5:bJ PG 182 PV:=okN [(58,sF)] [] ⟨BB,trivial⟩ fun x=>by kernel_rfl
def OL (x0:aT):Option (fA×Int):=af (iT x0) fun y0=>cnd (ak y0) (some (fA.mk 0 0 0,1)) (af (Iz x0) fun y1=>some (y1.1,0))
def YF:aA:=mkSpec [.val .cell] [.val .expo,.int .i64] true (fun x=>OL x)
theorem ajk:bJ PG 236 YF:=okN [(127,uf),(196,Ls)] [] ⟨Cc,YC,trivial⟩ fun x=>by kernel_rfl
def CG (x0:fA):Option (SA3):=some (SA3.mk x0.long x0.short x0.opn)
def O4:aA:=mkSpec [.val .expo] [.val .a3] true (fun x=>CG x)
theorem ab7:bJ PG 279 O4:=okN [] [] trivial fun x=>by kernel_rfl
def lC (x0:Int) (x1:Int) (x2:Int):Option (Bool):=some (ilt (imax x0 x2) x1)
def zy:aA:=mkSpec [.int .i64,.int .i64,.int .i64] [.bool] true (fun x=>lC x.1 x.2.1 x.2.2)
theorem Jr:bJ PG 238 zy:=okN [] [] trivial fun x=>by kernel_rfl
def Dl (x0:fA) (x1:fA) (x2:fA):Option (Bool):=af (CG x0) fun y0=>af (CG x1) fun y1=>af (CG x2) fun y2=>af (lC y0.a0 y1.a0 y2.a0) fun y3=>cnd y3 (some true) (af (lC y0.a1 y1.a1 y2.a1) fun y4=>cnd y4 (some true) (af (lC y0.a2 y1.a2 y2.a2) fun y5=>cnd y5 (some true) (some false)))
def KN:aA:=mkSpec [.val .expo,.val .expo,.val .expo] [.bool] true (fun x=>Dl x.1 x.2.1 x.2.2)
theorem Zt:bJ PG 237 KN:=okN [(279,O4),(238,zy)] [] ⟨ab7,Jr,trivial⟩ fun x=>by kernel_rfl
def gm (x0:ay) (x1:ay) (x2:Int) (x3:Int):Option (Int):=af (dw x0 x2 x3) fun y0=>af (kN x0 x2) fun y1=>af (zl y1) fun y2=>cnd (ak (ieq y2.2 0)) (some 3) (af (kN x1 x2) fun y3=>af (zl y3) fun y4=>cnd (band (ile 0 y0) (ilt y0 (len x1.cells))) (af (OL (aj x1.cells (itn y0))) fun y5=>cnd (band (ile 0 y0) (ilt y0 (len x0.cells))) (af (OL (aj x0.cells (itn y0))) fun y6=>cnd (band (ile 0 y0) (ilt y0 (len x0.limits))) (af (Dl y5.1 y6.1 (aj x0.limits (itn y0))) fun y7=>cnd (bor (band (ile 0 x2) (ilt x2 (len x0.caps))) (ak (ak y7))) (af (cnd (ak y7) (lC y4.1 y2.1 (aj x0.caps (itn x2))) (some false)) fun y8=>cnd (bor y7 y8) (some 4) (some 0)) none) none) none) none)
def EX:aA:=mkSpec [.val .state,.val .state,.int .i64,.int .i64] [.int .i64] true (fun x=>gm x.1 x.2.1 x.2.2.1 x.2.2.2)
theorem UC:bJ PG 185 EX:=okN [(183,mQ),(129,vP),(128,GU),(236,YF),(237,KN),(238,zy)] [] ⟨sZ,FU,Ub,ajk,Zt,Jr,trivial⟩ fun x=>by kernel_rfl
def dX (p0:Int) (p1:(List ax)) (p2:Int) (v0:Int) (v1:Int):Option ((Int×Int) ⊕ ((Int) ⊕ ((Int)))):=cnd (ilt v0 p0) (cnd (band (ile 0 v0) (ilt v0 (len p1))) (cnd (ieq (aj p1 (itn v0)).id p2) (some (Sum.inr (Sum.inl v0))) (some (Sum.inl (wr .i64 (aB v0 1),v1)))) none) (some (Sum.inr (Sum.inr v1)))
def wB:dm:=LSh.spec ⟨78,[(7,.int .i64),(0,.ro .order)],[(1,.fn 100 [.mp 24 0])],[(24,[.int .i64])],[(8,.int .i64),(4,.int .i64)],[],[]⟩ [⟨.ret,[(4,.int .i64)],[],[]⟩,⟨.exit 0,[(4,.int .i64)],[],[]⟩] (sP [(4,2),(8,11)]) (fun p v=>dX p.1 p.2.1 p.2.2 v.1 v.2)
def Ak (x0:ay) (x1:Int):Option (Int):=af (bZ (fun v=>dX (len x0.orders) x0.orders x1 v.1 v.2) LF (0,0)) fun y0=>dJ y0 (fun y1=>some y1) fun y1=>some (-1)
def Kv:aA:=mkSpec [.val .state,.int .i64] [.int .i64] true (fun x=>Ak x.1 x.2)
theorem XW:bJ PG 51 Kv:=okP [] [100,99] [(219043373155,26,wB)] trivial (fun K=>⟨fE K fun p v=>by kernel_rfl,trivial⟩) fun x=>by kernel_rfl
def EK (x0:ax) (x1:Int) (x2:Int):Option (ax×Int):=af (tZ x0.version 1) fun y0=>af (gZ x0) fun y1=>cnd (ak y1) (cnd (ak y1) (some (x0,1)) (cnd (ak (ieq x0.phase 2)) (cnd (ak (ieq x0.phase 2)) (some (x0,8)) (some (ax.mk x0.id x0.account x0.symbol x0.side x0.qty x0.price x0.filled x0.phase x1 x2 (wr .i64 (aB x0.version 1)) x0.asked,0))) (af (iV x0) fun y2=>cnd y2 (cnd y2 (some (x0,8)) (some (ax.mk x0.id x0.account x0.symbol x0.side x0.qty x0.price x0.filled x0.phase x1 x2 (wr .i64 (aB x0.version 1)) x0.asked,0))) (cnd x0.asked (some (x0,8)) (some (ax.mk x0.id x0.account x0.symbol x0.side x0.qty x0.price x0.filled x0.phase x1 x2 (wr .i64 (aB x0.version 1)) x0.asked,0)))))) (cnd (ilt x1 1) (cnd (ilt x1 1) (some (x0,1)) (cnd (ak (ieq x0.phase 2)) (cnd (ak (ieq x0.phase 2)) (some (x0,8)) (some (ax.mk x0.id x0.account x0.symbol x0.side x0.qty x0.price x0.filled x0.phase x1 x2 (wr .i64 (aB x0.version 1)) x0.asked,0))) (af (iV x0) fun y3=>cnd y3 (cnd y3 (some (x0,8)) (some (ax.mk x0.id x0.account x0.symbol x0.side x0.qty x0.price x0.filled x0.phase x1 x2 (wr .i64 (aB x0.version 1)) x0.asked,0))) (cnd x0.asked (some (x0,8)) (some (ax.mk x0.id x0.account x0.symbol x0.side x0.qty x0.price x0.filled x0.phase x1 x2 (wr .i64 (aB x0.version 1)) x0.asked,0)))))) (cnd (ilt x2 1) (cnd (ilt x2 1) (some (x0,1)) (cnd (ak (ieq x0.phase 2)) (cnd (ak (ieq x0.phase 2)) (some (x0,8)) (some (ax.mk x0.id x0.account x0.symbol x0.side x0.qty x0.price x0.filled x0.phase x1 x2 (wr .i64 (aB x0.version 1)) x0.asked,0))) (af (iV x0) fun y4=>cnd y4 (cnd y4 (some (x0,8)) (some (ax.mk x0.id x0.account x0.symbol x0.side x0.qty x0.price x0.filled x0.phase x1 x2 (wr .i64 (aB x0.version 1)) x0.asked,0))) (cnd x0.asked (some (x0,8)) (some (ax.mk x0.id x0.account x0.symbol x0.side x0.qty x0.price x0.filled x0.phase x1 x2 (wr .i64 (aB x0.version 1)) x0.asked,0)))))) (cnd (ak (ieq y0.2 0)) (some (x0,1)) (cnd (ak (ieq x0.phase 2)) (cnd (ak (ieq x0.phase 2)) (some (x0,8)) (some (ax.mk x0.id x0.account x0.symbol x0.side x0.qty x0.price x0.filled x0.phase x1 x2 (wr .i64 (aB x0.version 1)) x0.asked,0))) (af (iV x0) fun y5=>cnd y5 (cnd y5 (some (x0,8)) (some (ax.mk x0.id x0.account x0.symbol x0.side x0.qty x0.price x0.filled x0.phase x1 x2 (wr .i64 (aB x0.version 1)) x0.asked,0))) (cnd x0.asked (some (x0,8)) (some (ax.mk x0.id x0.account x0.symbol x0.side x0.qty x0.price x0.filled x0.phase x1 x2 (wr .i64 (aB x0.version 1)) x0.asked,0))))))))
def Nq:aA:=mkSpec [.val .order,.int .i64,.int .i64] [.val .order,.int .i64] true (fun x=>EK x.1 x.2.1 x.2.2)
theorem aaD:bJ PG 186 Nq:=okN [(117,yQ),(101,jc),(168,yA)] [] ⟨GV,nY,G9,trivial⟩ fun x=>by kernel_rfl
def PE (x0:aT) (x1:ax):Option (aT×Int):=af (iT x0) fun y0=>af (cnd (ak (ak y0)) (gZ x1) (some false)) fun y1=>cnd (bor (ak y0) (ak y1)) (some (x0,1)) (af (Dc x1) fun y2=>cnd (ieq x1.side 2) (af (yj x1) fun y3=>af (Bq x0.sell y3) fun y4=>af (Bq x0.opn y2.1) fun y5=>af (cnd (ak (bor (bor (ak (ieq y2.2 0)) (ak (ieq y4.2 0))) (ak (ieq y5.2 0)))) (iT (aT.mk x0.pos x0.buy y4.1 y5.1)) (some false)) fun y6=>cnd (bor (bor (bor (ak (ieq y2.2 0)) (ak (ieq y4.2 0))) (ak (ieq y5.2 0))) (ak y6)) (some (x0,3)) (some (aT.mk x0.pos x0.buy y4.1 y5.1,0))) (af (yj x1) fun y7=>af (Bq x0.buy y7) fun y8=>af (Bq x0.opn y2.1) fun y9=>af (cnd (ak (bor (bor (ak (ieq y2.2 0)) (ak (ieq y8.2 0))) (ak (ieq y9.2 0)))) (iT (aT.mk x0.pos y8.1 x0.sell y9.1)) (some false)) fun y10=>cnd (bor (bor (bor (ak (ieq y2.2 0)) (ak (ieq y8.2 0))) (ak (ieq y9.2 0))) (ak y10)) (some (x0,3)) (some (aT.mk x0.pos y8.1 x0.sell y9.1,0))))
def XZ:aA:=mkSpec [.val .cell,.val .order] [.val .cell,.int .i64] true (fun x=>PE x.1 x.2)
theorem aiC:bJ PG 187 XZ:=okN [(127,uf),(101,jc),(277,GZ),(278,Ji),(239,JG)] [235] ⟨Cc,nY,TF,V7,Xb,trivial⟩ fun x=>by kernel_rfl
def ND (x0:ax):Option (ax×Int):=af (gZ x0) fun y0=>cnd (ak y0) (some (x0,1)) (cnd (ieq x0.phase 3) (cnd (ieq x0.phase 3) (some (x0,8)) (some (ax.mk x0.id x0.account x0.symbol x0.side x0.qty x0.price x0.filled x0.phase x0.newQty x0.newPrice x0.version true,0))) (cnd x0.asked (some (x0,8)) (some (ax.mk x0.id x0.account x0.symbol x0.side x0.qty x0.price x0.filled x0.phase x0.newQty x0.newPrice x0.version true,0))))
def Uw:aA:=mkSpec [.val .order] [.val .order,.int .i64] true (fun x=>ND x)
theorem afy:bJ PG 188 Uw:=okN [(101,jc)] [] ⟨nY,trivial⟩ fun x=>by kernel_rfl
def EN (x0:uX):Option (dB):=some (dB.mk 6 x0.order 0 0 0 x0.qty x0.price 0 0 0 false x0.seq x0.what)
def Jc:aA:=mkSpec [.val .note] [.val .recd] true (fun x=>EN x)
theorem VW:bJ PG 59 Jc:=okN [] [] trivial fun x=>by kernel_rfl
def Dn (x0:ax):Option (ax):=some (ax.mk x0.id x0.account x0.symbol x0.side x0.qty x0.price x0.filled x0.phase 0 0 x0.version x0.asked)
def Dq:aA:=mkSpec [.val .order] [.val .order] true (fun x=>Dn x)
theorem Pj:bJ PG 281 Dq:=okN [] [] trivial fun x=>by kernel_rfl
def FO (x0:ax):Option (ax):=af (Dn (ax.mk x0.id x0.account x0.symbol x0.side x0.qty x0.price x0.filled 3 x0.newQty x0.newPrice x0.version x0.asked)) fun y0=>some y0
def Ja:aA:=mkSpec [.val .order] [.val .order] true (fun x=>FO x)
theorem VU:bJ PG 280 Ja:=okN [(281,Dq)] [] ⟨Pj,trivial⟩ fun x=>by kernel_rfl
def JK (x0:ax) (x1:uX):Option (ax×Bool):=cnd (ieq x1.what 1) (some (ax.mk x0.id x0.account x0.symbol x0.side x0.qty x0.price x0.filled 2 x0.newQty x0.newPrice x0.version x0.asked,true)) (cnd (ieq x1.what 2) (af (FO x0) fun y0=>some (y0,true)) (some (x0,false)))
def Ru:aA:=mkSpec [.val .order,.val .note] [.val .order,.bool] true (fun x=>JK x.1 x.2)
theorem adi:bJ PG 240 Ru:=okN [(280,Ja)] [] ⟨VU,trivial⟩ fun x=>by kernel_rfl
def JJ (x0:ax) (x1:uX):Option (ax×Bool):=cnd (ieq x1.what 3) (cnd (ilt (wr .i64 (aV x0.qty x0.filled)) x1.qty) (some (x0,false)) (cnd (ilt (wr .i64 (aB x0.filled x1.qty)) x0.qty) (some (ax.mk x0.id x0.account x0.symbol x0.side x0.qty x0.price (wr .i64 (aB x0.filled x1.qty)) x0.phase x0.newQty x0.newPrice x0.version x0.asked,true)) (af (FO (ax.mk x0.id x0.account x0.symbol x0.side x0.qty x0.price (wr .i64 (aB x0.filled x1.qty)) x0.phase x0.newQty x0.newPrice x0.version x0.asked)) fun y0=>some (y0,true)))) (cnd (ieq x1.what 4) (af (FO x0) fun y1=>some (y1,true)) (cnd (ieq x1.what 5) (af (iV x0) fun y2=>cnd (bor (bor (bor (ak y2) (ak (ieq x1.qty x0.newQty))) (ak (ieq x1.price x0.newPrice))) (ile x1.qty x0.filled)) (some (x0,false)) (af (Dn (ax.mk x0.id x0.account x0.symbol x0.side x1.qty x1.price x0.filled x0.phase x0.newQty x0.newPrice x0.version x0.asked)) fun y3=>some (y3,true))) (cnd (ieq x1.what 6) (af (Dn x0) fun y4=>af (iV x0) fun y5=>some (y4,y5)) (some (x0,false)))))
def Ri:aA:=mkSpec [.val .order,.val .note] [.val .order,.bool] true (fun x=>JJ x.1 x.2)
theorem adq:bJ PG 241 Ri:=okN [(280,Ja),(168,yA),(281,Dq)] [] ⟨VU,G9,Pj,trivial⟩ fun x=>by kernel_rfl
def JC (x0:ax) (x1:uX):Option (ax×Int):=af (gZ x0) fun y0=>af (cnd (ak (ak y0)) (EN x1) (some (dB.mk 0 0 0 0 0 0 0 0 0 0 false 0 0))) fun y1=>af (cnd (ak (ak y0)) (uJ y1) (some false)) fun y2=>cnd (bor (bor (ak y0) (ak y2)) (ak (ieq x1.order x0.id))) (some (x0,1)) (cnd (ieq x0.phase 1) (af (JK x0 x1) fun y3=>cnd (ak y3.2) (some (x0,8)) (some (y3.1,0))) (cnd (ieq x0.phase 2) (af (JJ x0 x1) fun y4=>cnd (ak y4.2) (some (x0,8)) (some (y4.1,0))) (some (x0,8))))
def Rk:aA:=mkSpec [.val .order,.val .note] [.val .order,.int .i64] true (fun x=>JC x.1 x.2)
theorem adu:bJ PG 189 Rk:=okN [(101,jc),(59,Jc),(58,sF),(240,Ru),(241,Ri)] [] ⟨nY,VW,BB,adi,adq,trivial⟩ fun x=>by kernel_rfl
def P9 (x0:aT) (x1:Int) (x2:Int):Option (aT×Int):=af (iT x0) fun y0=>cnd (bor (bor (ak y0) (band (ak (ieq x1 1)) (ak (ieq x1 2)))) (ilt x2 0)) (some (x0,1)) (cnd (ieq x1 1) (af (tZ x0.pos x2) fun y1=>af (cnd (ak (ak (ieq y1.2 0))) (iT (aT.mk y1.1 x0.buy x0.sell x0.opn)) (some false)) fun y2=>cnd (bor (ak (ieq y1.2 0)) (ak y2)) (some (x0,3)) (some (aT.mk y1.1 x0.buy x0.sell x0.opn,0))) (af (Bq x0.pos x2) fun y3=>af (cnd (ak (ak (ieq y3.2 0))) (iT (aT.mk y3.1 x0.buy x0.sell x0.opn)) (some false)) fun y4=>cnd (bor (ak (ieq y3.2 0)) (ak y4)) (some (x0,3)) (some (aT.mk y3.1 x0.buy x0.sell x0.opn,0))))
def VH:aA:=mkSpec [.val .cell,.int .i64,.int .i64] [.val .cell,.int .i64] true (fun x=>P9 x.1 x.2.1 x.2.2)
theorem agu:bJ PG 190 VH:=okN [(127,uf),(117,yQ),(239,JG)] [] ⟨Cc,GV,Xb,trivial⟩ fun x=>by kernel_rfl
def jY (x0:(List ax)) (x1:Int) (x2:Int):Option ((List ax)):=cnd (band (band (band (ile 0 x1) (ile x1 x2)) (ile x2 (len x0))) (band (ile x2 (len x0)) (ile (len x0) (len x0)))) (cnd (ieq x1 x2) (some x0) (cnd (band (ile 0 x1) (ile x1 (len x0))) (cnd (band (ile 0 x2) (ile x2 (len x0))) (cnd (ile (aB (nti (itn x1)) (len (cZ (dR x0 (itn x2)) (itn (aV (len x0) x2))))) (len x0)) (cnd (band (band (ile 0 (nti (nad (itn x1) (itn (len (cZ (dR x0 (itn x2)) (itn (aV (len x0) x2)))))))) (ile (nti (nad (itn x1) (itn (len (cZ (dR x0 (itn x2)) (itn (aV (len x0) x2))))))) (len x0))) (ile (len x0) (aV (len (sQ x0 (itn x1) (cZ (dR x0 (itn x2)) (itn (aV (len x0) x2))))) 0))) (some (cZ (dR (sQ (sQ x0 (itn x1) (cZ (dR x0 (itn x2)) (itn (aV (len x0) x2)))) (nad 0 (itn (nti (nad (itn x1) (itn (len (cZ (dR x0 (itn x2)) (itn (aV (len x0) x2))))))))) (yO ax (itn (aV (len x0) (nti (nad (itn x1) (itn (len (cZ (dR x0 (itn x2)) (itn (aV (len x0) x2))))))))))) 0) (nad (itn x1) (itn (len (cZ (dR x0 (itn x2)) (itn (aV (len x0) x2)))))))) none) none) none) none)) none
def zf:aA:=mkSpec [.buf .order,.int .i64,.int .i64] [.ro .order] false (fun x=>jY x.1 x.2.1 x.2.2)
theorem Lj:bJ PG 191 zf:=okN [] [] trivial fun x=>by kernel_rfl
def Hf (x0:ay) (x1:dB):Option (ay×Int):=af (tZ x0.lsn 1) fun y0=>af (cnd (ak (bor (ak (ieq y0.2 0)) (ile 1000000000 x0.lsn))) (uJ x1) (some false)) fun y1=>af (cnd (ak (bor (bor (ak (ieq y0.2 0)) (ile 1000000000 x0.lsn)) (ak y1))) (jU x0) (some false)) fun y2=>cnd (bor (bor (bor (ak (ieq y0.2 0)) (ile 1000000000 x0.lsn)) (ak y1)) (ak y2)) (some (x0,1)) (af (gY x0.orders) fun y3=>af (iG x0.cells) fun y4=>af (iH x0.limits) fun y5=>af (jK x0.caps) fun y6=>cnd (ieq x1.kind 1) (af (H9 x1) fun y7=>cnd (ile x1.order x0.last) (cnd (ile x1.order x0.last) (some (x0,1)) (cnd x0.kill (some (x0,5)) (cnd (ieq (len y3) 64) (some (x0,6)) (af (gY y3) fun y8=>af (iG y4) fun y9=>af (iH y5) fun y10=>af (jK y6) fun y11=>af (dw (ay.mk x0.accounts x0.symbols y3 y4 y5 y6 x0.kill x0.last x0.seq x0.lsn) y7.1.account y7.1.symbol) fun y12=>cnd (band (ile 0 y12) (ilt y12 (len y4))) (af (rF (aj y4 (itn y12)) y7.1) fun y13=>cnd (ak (ieq y13.2 0)) (some (x0,3)) (cnd (ile (len (aQ y3 [y7.1])) 68719476736) (af (gm (ay.mk x0.accounts x0.symbols (aQ y3 [y7.1]) (dN y4 (itn y12) y13.1) y5 y6 x0.kill y7.1.id x0.seq x0.lsn) (ay.mk x0.accounts x0.symbols y8 y9 y10 y11 x0.kill x0.last x0.seq x0.lsn) y7.1.account y7.1.symbol) fun y14=>cnd (ak (ieq y14 0)) (some (x0,y14)) (some (ay.mk x0.accounts x0.symbols (aQ y3 [y7.1]) (dN y4 (itn y12) y13.1) y5 y6 x0.kill y7.1.id x0.seq (wr .i64 (aB x0.lsn 1)),0))) none)) none)))) (cnd (ile x0.accounts x1.account) (cnd (ile x0.accounts x1.account) (some (x0,1)) (cnd x0.kill (some (x0,5)) (cnd (ieq (len y3) 64) (some (x0,6)) (af (gY y3) fun y15=>af (iG y4) fun y16=>af (iH y5) fun y17=>af (jK y6) fun y18=>af (dw (ay.mk x0.accounts x0.symbols y3 y4 y5 y6 x0.kill x0.last x0.seq x0.lsn) y7.1.account y7.1.symbol) fun y19=>cnd (band (ile 0 y19) (ilt y19 (len y4))) (af (rF (aj y4 (itn y19)) y7.1) fun y20=>cnd (ak (ieq y20.2 0)) (some (x0,3)) (cnd (ile (len (aQ y3 [y7.1])) 68719476736) (af (gm (ay.mk x0.accounts x0.symbols (aQ y3 [y7.1]) (dN y4 (itn y19) y20.1) y5 y6 x0.kill y7.1.id x0.seq x0.lsn) (ay.mk x0.accounts x0.symbols y15 y16 y17 y18 x0.kill x0.last x0.seq x0.lsn) y7.1.account y7.1.symbol) fun y21=>cnd (ak (ieq y21 0)) (some (x0,y21)) (some (ay.mk x0.accounts x0.symbols (aQ y3 [y7.1]) (dN y4 (itn y19) y20.1) y5 y6 x0.kill y7.1.id x0.seq (wr .i64 (aB x0.lsn 1)),0))) none)) none)))) (cnd (ile x0.symbols x1.symbol) (some (x0,1)) (cnd x0.kill (some (x0,5)) (cnd (ieq (len y3) 64) (some (x0,6)) (af (gY y3) fun y22=>af (iG y4) fun y23=>af (iH y5) fun y24=>af (jK y6) fun y25=>af (dw (ay.mk x0.accounts x0.symbols y3 y4 y5 y6 x0.kill x0.last x0.seq x0.lsn) y7.1.account y7.1.symbol) fun y26=>cnd (band (ile 0 y26) (ilt y26 (len y4))) (af (rF (aj y4 (itn y26)) y7.1) fun y27=>cnd (ak (ieq y27.2 0)) (some (x0,3)) (cnd (ile (len (aQ y3 [y7.1])) 68719476736) (af (gm (ay.mk x0.accounts x0.symbols (aQ y3 [y7.1]) (dN y4 (itn y26) y27.1) y5 y6 x0.kill y7.1.id x0.seq x0.lsn) (ay.mk x0.accounts x0.symbols y22 y23 y24 y25 x0.kill x0.last x0.seq x0.lsn) y7.1.account y7.1.symbol) fun y28=>cnd (ak (ieq y28 0)) (some (x0,y28)) (some (ay.mk x0.accounts x0.symbols (aQ y3 [y7.1]) (dN y4 (itn y26) y27.1) y5 y6 x0.kill y7.1.id x0.seq (wr .i64 (aB x0.lsn 1)),0))) none)) none)))))) (cnd (ieq x1.kind 2) (af (Ak (ay.mk x0.accounts x0.symbols y3 y4 y5 y6 x0.kill x0.last x0.seq x0.lsn) x1.order) fun y29=>cnd (ieq y29 (-1)) (some (x0,7)) (cnd (band (ile 0 y29) (ilt y29 (len y3))) (af (EK (aj y3 (itn y29)) x1.qty x1.price) fun y30=>cnd (ak (ieq y30.2 0)) (some (x0,8)) (cnd x0.kill (some (x0,5)) (af (gY y3) fun y31=>af (iG y4) fun y32=>af (iH y5) fun y33=>af (jK y6) fun y34=>af (dw (ay.mk x0.accounts x0.symbols y3 y4 y5 y6 x0.kill x0.last x0.seq x0.lsn) (aj y3 (itn y29)).account (aj y3 (itn y29)).symbol) fun y35=>cnd (band (ile 0 y35) (ilt y35 (len y4))) (af (PE (aj y4 (itn y35)) (aj y3 (itn y29))) fun y36=>af (rF y36.1 y30.1) fun y37=>cnd (ak (ieq y37.2 0)) (some (x0,3)) (cnd (band (ile 0 y29) (ilt y29 (len y3))) (af (gm (ay.mk x0.accounts x0.symbols (dN y3 (itn y29) y30.1) (dN y4 (itn y35) y37.1) y5 y6 x0.kill x0.last x0.seq x0.lsn) (ay.mk x0.accounts x0.symbols y31 y32 y33 y34 x0.kill x0.last x0.seq x0.lsn) (aj y3 (itn y29)).account (aj y3 (itn y29)).symbol) fun y38=>cnd (ak (ieq y38 0)) (some (x0,y38)) (some (ay.mk x0.accounts x0.symbols (dN y3 (itn y29) y30.1) (dN y4 (itn y35) y37.1) y5 y6 x0.kill x0.last x0.seq (wr .i64 (aB x0.lsn 1)),0))) none)) none))) none)) (cnd (ieq x1.kind 3) (af (Ak (ay.mk x0.accounts x0.symbols y3 y4 y5 y6 x0.kill x0.last x0.seq x0.lsn) x1.order) fun y39=>cnd (ieq y39 (-1)) (some (x0,7)) (cnd (band (ile 0 y39) (ilt y39 (len y3))) (af (ND (aj y3 (itn y39))) fun y40=>cnd (band (ile 0 y39) (ilt y39 (len y3))) (cnd (ak (ieq y40.2 0)) (some (x0,y40.2)) (some (ay.mk x0.accounts x0.symbols (dN y3 (itn y39) y40.1) y4 y5 y6 x0.kill x0.last x0.seq (wr .i64 (aB x0.lsn 1)),0))) none) none)) (cnd (ieq x1.kind 4) (cnd (ile x0.accounts x1.account) (cnd (ile x0.accounts x1.account) (some (x0,1)) (cnd (ieq x1.symbol (-1)) (cnd (band (ile 0 x1.account) (ilt x1.account (len y6))) (some (ay.mk x0.accounts x0.symbols y3 y4 y5 (dN y6 (itn x1.account) x1.opn) x0.kill x0.last x0.seq (wr .i64 (aB x0.lsn 1)),0)) none) (af (dw (ay.mk x0.accounts x0.symbols y3 y4 y5 y6 x0.kill x0.last x0.seq x0.lsn) x1.account x1.symbol) fun y41=>cnd (band (ile 0 y41) (ilt y41 (len y5))) (some (ay.mk x0.accounts x0.symbols y3 y4 (dN y5 (itn y41) (fA.mk x1.long x1.short x1.opn)) y6 x0.kill x0.last x0.seq (wr .i64 (aB x0.lsn 1)),0)) none))) (cnd (ile x0.symbols x1.symbol) (some (x0,1)) (cnd (ieq x1.symbol (-1)) (cnd (band (ile 0 x1.account) (ilt x1.account (len y6))) (some (ay.mk x0.accounts x0.symbols y3 y4 y5 (dN y6 (itn x1.account) x1.opn) x0.kill x0.last x0.seq (wr .i64 (aB x0.lsn 1)),0)) none) (af (dw (ay.mk x0.accounts x0.symbols y3 y4 y5 y6 x0.kill x0.last x0.seq x0.lsn) x1.account x1.symbol) fun y42=>cnd (band (ile 0 y42) (ilt y42 (len y5))) (some (ay.mk x0.accounts x0.symbols y3 y4 (dN y5 (itn y42) (fA.mk x1.long x1.short x1.opn)) y6 x0.kill x0.last x0.seq (wr .i64 (aB x0.lsn 1)),0)) none)))) (cnd (ieq x1.kind 5) (some (ay.mk x0.accounts x0.symbols y3 y4 y5 y6 x1.on x0.last x0.seq (wr .i64 (aB x0.lsn 1)),0)) (cnd (ak (ieq x1.seq (wr .i64 (aB x0.seq 1)))) (some (x0,11)) (af (Ak (ay.mk x0.accounts x0.symbols y3 y4 y5 y6 x0.kill x0.last x1.seq x0.lsn) x1.order) fun y43=>cnd (ieq y43 (-1)) (some (ay.mk x0.accounts x0.symbols y3 y4 y5 y6 x0.kill x0.last x1.seq (wr .i64 (aB x0.lsn 1)),0)) (cnd (band (ile 0 y43) (ilt y43 (len y3))) (af (JC (aj y3 (itn y43)) (uX.mk x1.seq x1.what x1.order x1.qty x1.price)) fun y44=>cnd (ak (ieq y44.2 0)) (some (ay.mk x0.accounts x0.symbols y3 y4 y5 y6 x0.kill x0.last x1.seq (wr .i64 (aB x0.lsn 1)),0)) (af (dw (ay.mk x0.accounts x0.symbols y3 y4 y5 y6 x0.kill x0.last x1.seq x0.lsn) (aj y3 (itn y43)).account (aj y3 (itn y43)).symbol) fun y45=>cnd (band (ile 0 y45) (ilt y45 (len y4))) (af (PE (aj y4 (itn y45)) (aj y3 (itn y43))) fun y46=>af (rF (aj (dN y4 (itn y45) y46.1) (itn y45)) y44.1) fun y47=>cnd (ieq x1.what 3) (af (P9 (aj (dN (dN y4 (itn y45) y46.1) (itn y45) y47.1) (itn y45)) (aj y3 (itn y43)).side x1.qty) fun y48=>cnd (band (ile 0 y43) (ilt y43 (len y3))) (cnd (ieq y44.1.phase 3) (af (jY (dN y3 (itn y43) y44.1) y43 (wr .i64 (aB y43 1))) fun y49=>some (ay.mk x0.accounts x0.symbols y49 (dN (dN (dN y4 (itn y45) y46.1) (itn y45) y47.1) (itn y45) y48.1) y5 y6 x0.kill x0.last x1.seq (wr .i64 (aB x0.lsn 1)),0)) (some (ay.mk x0.accounts x0.symbols (dN y3 (itn y43) y44.1) (dN (dN (dN y4 (itn y45) y46.1) (itn y45) y47.1) (itn y45) y48.1) y5 y6 x0.kill x0.last x1.seq (wr .i64 (aB x0.lsn 1)),0))) none) (cnd (band (ile 0 y43) (ilt y43 (len y3))) (cnd (ieq y44.1.phase 3) (af (jY (dN y3 (itn y43) y44.1) y43 (wr .i64 (aB y43 1))) fun y50=>some (ay.mk x0.accounts x0.symbols y50 (dN (dN y4 (itn y45) y46.1) (itn y45) y47.1) y5 y6 x0.kill x0.last x1.seq (wr .i64 (aB x0.lsn 1)),0)) (some (ay.mk x0.accounts x0.symbols (dN y3 (itn y43) y44.1) (dN (dN y4 (itn y45) y46.1) (itn y45) y47.1) y5 y6 x0.kill x0.last x1.seq (wr .i64 (aB x0.lsn 1)),0))) none)) none)) none))))))))
def JW:aA:=mkSpec [.val .state,.val .recd] [.val .state,.int .i64] false (fun x=>Hf x.1 x.2)
theorem WR:bJ PG 67 JW:=okN [(117,yQ),(58,sF),(28,oD),(178,zS),(179,Ar),(180,Aw),(181,Dz),(182,PV),(183,mQ),(184,EY),(185,EX),(51,Kv),(186,Nq),(187,XZ),(188,Uw),(189,Rk),(190,VH),(191,zf)] [118,119,120,121,122,123] ⟨GV,BB,vO,Me,NY,Oc,Sv,aa5,sZ,Qe,UC,XW,aaD,aiC,afy,adu,agu,Lj,trivial⟩ fun x=>by kernel_rfl
def Ej (p0:Int) (p1:(List dB)) (v0:Int) (v1:Int) (v2:nT):Option ((Int×Int×nT) ⊕ ((Int×nT))):=cnd (ilt v0 p0) (cnd (band (ile 0 v0) (ilt v0 (len p1))) (cnd (ieq v1 0) (af (Hf v2.g.state (aj p1 (itn v0))) fun y0=>some (Sum.inl (wr .i64 (aB v0 1),y0.2,nT.mk (bM.mk v2.g.disk v2.g.wal y0.1 v2.g.outbox v2.g.feed v2.g.gen v2.g.up) v2.e))) (some (Sum.inl (wr .i64 (aB v0 1),v1,v2)))) none) (some (Sum.inr (v1,v2)))
def OB:dm:=LSh.spec ⟨113,[(46,.int .i64),(45,.ro .recd)],[(0,.mp 0 0)],[],[(47,.int .i64),(4,.int .i64)],[(0,[.val .sleeper])],[]⟩ [⟨.exit 0,[(4,.int .i64)],[(0,[.val .sleeper])],[]⟩] (sP [(4,1),(6,1),(47,21)]) (fun p v=>Ej p.1 p.2 v.1 v.2.1 v.2.2)
def Jw (x0:nT):Option (nT×(Unit)):=af (abC x0.g.disk x0.g.state.lsn) fun y0=>cnd (ak (ieq y0.2.2.2 0)) (some (nT.mk (bM.mk y0.2.1 y0.1 x0.g.state x0.g.outbox x0.g.feed x0.g.gen x0.g.up) y0.2.2.2,PUnit.unit)) (af (aao y0.2.2.1) fun y1=>af (bZ (fun v=>Ej (len y1.1) y1.1 v.1 v.2.1 v.2.2) LF (0,y1.2,nT.mk (bM.mk y0.2.1 y0.1 x0.g.state x0.g.outbox x0.g.feed x0.g.gen x0.g.up) y0.2.2.2)) fun y2=>cnd (ak (ieq y2.1 0)) (some (nT.mk y2.2.g 2,PUnit.unit)) (some (y2.2,PUnit.unit)))
def Fh:aA:=BA .sleeper [] [] (fun x=>Jw x.1)
theorem Td:bJ PG 47 Fh:=okB [(92,VG),(93,TL),(67,JW)] [4095] [(47,250,OB)] ⟨aho,afc,WR,trivial⟩ (fun K=>⟨fE K fun p v=>by kernel_rfl,trivial⟩) fun x=>by kernel_rfl
def lZ (x0:eU):Option (Bool):=cnd (bor (bor (bor (bor (bor (ilt x0.order 1) (ilt 1000000000000 x0.order)) (ilt x0.account 0)) (ile 8 x0.account)) (ilt x0.symbol 0)) (ile 8 x0.symbol)) (some false) (cnd (bor (bor (band (ak (ieq x0.side 1)) (ak (ieq x0.side 2))) (ilt x0.lsn 0)) (ilt 1000000000 x0.lsn)) (some false) (cnd (ieq x0.kind 1) (some (band (band (ile 1 x0.qty) (ile 1 x0.price)) (ieq x0.version 0))) (cnd (ieq x0.kind 2) (some (band (band (ile 1 x0.qty) (ile 1 x0.price)) (ile 1 x0.version))) (cnd (ieq x0.kind 3) (some (band (band (ieq x0.qty 0) (ieq x0.price 0)) (ieq x0.version 0))) (some false)))))
def BN:aA:=mkSpec [.val .msg] [.bool] true (fun x=>lZ x)
theorem Nj:bJ PG 102 BN:=okN [] [] trivial fun x=>by kernel_rfl
def iM (x0:Int) (x1:ax) (x2:Int):Option (eU):=cnd (ieq x0 1) (af (gZ x1) fun y0=>af (cnd (ak (ak y0)) (lZ (eU.mk x0 x1.id x1.account x1.symbol x1.side x1.qty x1.price 0 x2)) (some false)) fun y1=>cnd (bor (ak y0) (ak y1)) (some (eU.mk 0 0 0 0 0 0 0 0 0)) (some (eU.mk x0 x1.id x1.account x1.symbol x1.side x1.qty x1.price 0 x2))) (cnd (ieq x0 2) (af (gZ x1) fun y2=>af (cnd (ak (ak y2)) (lZ (eU.mk x0 x1.id x1.account x1.symbol x1.side x1.newQty x1.newPrice x1.version x2)) (some false)) fun y3=>cnd (bor (ak y2) (ak y3)) (some (eU.mk 0 0 0 0 0 0 0 0 0)) (some (eU.mk x0 x1.id x1.account x1.symbol x1.side x1.newQty x1.newPrice x1.version x2))) (af (gZ x1) fun y4=>af (cnd (ak (ak y4)) (lZ (eU.mk x0 x1.id x1.account x1.symbol x1.side 0 0 0 x2)) (some false)) fun y5=>cnd (bor (ak y4) (ak y5)) (some (eU.mk 0 0 0 0 0 0 0 0 0)) (some (eU.mk x0 x1.id x1.account x1.symbol x1.side 0 0 0 x2))))
def Ld:aA:=mkSpec [.int .i64,.val .order,.int .i64] [.val .msg] true (fun x=>iM x.1 x.2.1 x.2.2)
theorem Yn:bJ PG 53 Ld:=okN [(101,jc),(102,BN)] [] ⟨nY,Nj,trivial⟩ fun x=>by kernel_rfl
def Lu (p0:Int) (p1:(List ax)) (p2:Int) (p3:Unit) (p4:Int) (p5:Unit) (p6:Int) (p7:Unit) (v0:Int) (v1:(List eU)):Option ((Int×(List eU)) ⊕ (((List eU)))):=cnd (ilt v0 p0) (cnd (band (ile 0 v0) (ilt v0 (len p1))) (cnd (ieq (aj p1 (itn v0)).phase 1) (af (iM p2 (aj p1 (itn v0)) 0) fun y0=>cnd (ile (len (aQ v1 [y0])) 68719476736) (cnd (ilt 0 (aj p1 (itn v0)).newQty) (af (iM p4 (aj p1 (itn v0)) 0) fun y1=>cnd (ile (len (aQ (aQ v1 [y0]) [y1])) 68719476736) (cnd (aj p1 (itn v0)).asked (af (iM p6 (aj p1 (itn v0)) 0) fun y2=>cnd (ile (len (aQ (aQ (aQ v1 [y0]) [y1]) [y2])) 68719476736) (some (Sum.inl (wr .i64 (aB v0 1),aQ (aQ (aQ v1 [y0]) [y1]) [y2]))) none) (some (Sum.inl (wr .i64 (aB v0 1),aQ (aQ v1 [y0]) [y1])))) none) (cnd (aj p1 (itn v0)).asked (af (iM p6 (aj p1 (itn v0)) 0) fun y3=>cnd (ile (len (aQ (aQ v1 [y0]) [y3])) 68719476736) (some (Sum.inl (wr .i64 (aB v0 1),aQ (aQ v1 [y0]) [y3]))) none) (some (Sum.inl (wr .i64 (aB v0 1),aQ v1 [y0]))))) none) (cnd (ilt 0 (aj p1 (itn v0)).newQty) (af (iM p4 (aj p1 (itn v0)) 0) fun y4=>cnd (ile (len (aQ v1 [y4])) 68719476736) (cnd (aj p1 (itn v0)).asked (af (iM p6 (aj p1 (itn v0)) 0) fun y5=>cnd (ile (len (aQ (aQ v1 [y4]) [y5])) 68719476736) (some (Sum.inl (wr .i64 (aB v0 1),aQ (aQ v1 [y4]) [y5]))) none) (some (Sum.inl (wr .i64 (aB v0 1),aQ v1 [y4])))) none) (cnd (aj p1 (itn v0)).asked (af (iM p6 (aj p1 (itn v0)) 0) fun y6=>cnd (ile (len (aQ v1 [y6])) 68719476736) (some (Sum.inl (wr .i64 (aB v0 1),aQ v1 [y6]))) none) (some (Sum.inl (wr .i64 (aB v0 1),v1)))))) none) (some (Sum.inr v1))
def Vl:dm:=LSh.spec ⟨80,[(18,.int .i64),(17,.ro .order)],[(3,.rs 72 2 0 3)],[(72,[.int .i64,.fnv 94,.int .i64,.fnv 95,.int .i64,.fnv 96])],[(19,.int .i64),(4,.buf .msg)],[],[]⟩ [⟨.exit 0,[(4,.buf .msg)],[],[]⟩] (sP [(4,1),(6,1),(8,1),(19,23)]) (fun p v=>Lu p.1 p.2.1 p.2.2.1 p.2.2.2.1 p.2.2.2.2.1 p.2.2.2.2.2.1 p.2.2.2.2.2.2.1 p.2.2.2.2.2.2.2 v.1 v.2)
def UN (x0:ay):Option ((List eU)):=af (jU x0) fun y0=>cnd (ak y0) (some []) (af (bZ (fun v=>Lu (len x0.orders) x0.orders 1 PUnit.unit 2 PUnit.unit 3 PUnit.unit v.1 v.2) LF (0,[])) fun y1=>some y1)
def MZ:aA:=mkSpec [.val .state] [.buf .msg] true (fun x=>UN x)
theorem aaE:bJ PG 48 MZ:=okP [(28,oD),(53,Ld)] [4095,94,95,96] [(48,250,Vl)] ⟨vO,Yn,trivial⟩ (fun K=>⟨fE K fun p v=>by kernel_rfl,trivial⟩) fun x=>by kernel_rfl
def ZU (x0:aC) (x1:ay):Option (bM×(List eU)×Int):=af (pO x0) fun y0=>af (cnd (ak (ak y0)) (jU x1) (some false)) fun y1=>cnd (bor (ak y0) (ak y1)) (some (bM.mk x0 (dG.mk 0 0 0 0 0 []) (ay.mk 0 0 [] [] [] [] false 0 0 0) [] (xG.mk [] false) 0 false,[],1)) (af (JA (nT.mk (bM.mk x0 (dG.mk 0 0 0 0 0 []) (ay.mk 0 0 [] [] [] [] false 0 0 0) [] (xG.mk [] false) 0 false) 0) x1) fun y2=>cnd (ak (ieq y2.1.e 0)) (some (bM.mk y2.1.g.disk (dG.mk 0 0 0 0 0 []) (ay.mk 0 0 [] [] [] [] false 0 0 0) [] (xG.mk [] false) 0 false,[],y2.1.e)) (af (Jw y2.1) fun y3=>cnd (ak (ieq y3.1.e 0)) (some (bM.mk y3.1.g.disk (dG.mk 0 0 0 0 0 []) (ay.mk 0 0 [] [] [] [] false 0 0 0) [] (xG.mk [] false) 0 false,[],y3.1.e)) (af (UN y3.1.g.state) fun y4=>some (bM.mk y3.1.g.disk y3.1.g.wal y3.1.g.state y3.1.g.outbox y3.1.g.feed y3.1.g.gen true,y4,0))))
def TJ:aA:=mkSpec [.val .disk,.val .state] [.val .gate,.buf .msg,.int .i64] false (fun x=>ZU x.1 x.2)
theorem afi:bJ PG 19 TJ:=okN [(44,oC),(28,oD),(46,Fv),(47,Fh),(48,MZ)] [4095,4094,45] ⟨vY,vO,TD,Td,aaE,trivial⟩ fun x=>by kernel_rfl
def CQ (p0:Int) (p1:(List bY)) (v0:Int) (v1:Bool) (v2:Int) (v3:Int):Option ((Int×Bool×Int×Int) ⊕ ((Bool×Int×Int) ⊕ ((Bool×Int×Int)))):=cnd (ilt v0 p0) (cnd (band (ile 0 v0) (ilt v0 (len p1))) (af (vW (aj p1 (itn v0))) fun y0=>cnd (bor (bor (ak y0) (ak (ieq (aj p1 (itn v0)).lsn v2))) (ilt (aj p1 (itn v0)).epoch v3)) (some (Sum.inr (Sum.inl (false,v2,v3)))) (some (Sum.inl (wr .i64 (aB v0 1),v1,wr .i64 (aB (aj p1 (itn v0)).lsn 1),(aj p1 (itn v0)).epoch)))) none) (some (Sum.inr (Sum.inr (v1,v2,v3))))
def abo:dm:=LSh.spec ⟨76,[(14,.int .i64),(13,.ro .frame)],[(7,.mp 56 0)],[],[(15,.int .i64),(6,.bool)],[(56,[.int .i64,.int .i64])],[]⟩ [⟨.ret,[(6,.bool)],[(56,[.int .i64,.int .i64])],[]⟩,⟨.exit 0,[(6,.bool)],[(56,[.int .i64,.int .i64])],[]⟩] (sP [(6,1),(9,1),(15,8)]) (fun p v=>CQ p.1 p.2 v.1 v.2.1 v.2.2.1 v.2.2.2)
def P8 (x0:(List bY)) (x1:Int) (x2:Int):Option (Bool):=af (bZ (fun v=>CQ (len x0) x0 v.1 v.2.1 v.2.2.1 v.2.2.2) LF (0,false,x1,x2)) fun y0=>dJ y0 (fun y1=>some y1.1) fun y1=>some true
def VO:aA:=mkSpec [.ro .frame,.int .i64,.int .i64] [.bool] true (fun x=>P8 x.1 x.2.1 x.2.2)
theorem ahu:bJ PG 107 VO:=okP [(233,xk)] [175] [(107,58,abo)] ⟨ER,trivial⟩ (fun K=>⟨fE K fun p v=>by kernel_rfl,trivial⟩) fun x=>by kernel_rfl
def dM (p0:Int) (p1:(List bY)) (p2:Int) (p3:Int) (p4:Int) (p5:Int) (p6:Int) (p7:(List bY)) (v0:Int) (v1:Int):Option ((Int×Int) ⊕ ((Int) ⊕ ((Int)))):=cnd (ilt v0 p0) (cnd (band (ile 0 v0) (ilt v0 (len p1))) (cnd (ak (ieq (aj p1 (itn v0)).epoch p2)) (some (Sum.inr (Sum.inl v0))) (some (Sum.inl (wr .i64 (aB v0 1),v1)))) none) (some (Sum.inr (Sum.inr v1)))
def rY:dm:=LSh.spec ⟨140,[(7,.int .i64),(0,.ro .frame)],[(1,.fn 106 [.mp 8 0])],[(8,[.int .i64,.int .i64,.int .i64,.int .i64,.int .i64,.ro .frame])],[(8,.int .i64),(4,.int .i64)],[],[]⟩ [⟨.ret,[(4,.int .i64)],[],[]⟩,⟨.exit 0,[(4,.int .i64)],[],[]⟩] (sP [(4,2),(8,11)]) (fun p v=>dM p.1 p.2.1 p.2.2.1 p.2.2.2.1 p.2.2.2.2.1 p.2.2.2.2.2.1 p.2.2.2.2.2.2.1 p.2.2.2.2.2.2.2 v.1 v.2)
def DT (x0:dG):Option (Bool):=cnd (bor (bor (bor (bor (bor (ilt x0.epoch 1) (ilt 1000000 x0.epoch)) (ilt x0.next 1)) (ilt 1000000001 x0.next)) (ilt x0.sure 0)) (ile x0.next x0.sure)) (some false) (af (cnd (ak (bor (ilt 32 (len x0.wait)) (ak (ieq (len x0.wait) (wr .i64 (aV (wr .i64 (aV x0.next 1)) x0.sure)))))) (P8 x0.wait (wr .i64 (aB x0.sure 1)) 1) (some false)) fun y0=>cnd (ak (bor (bor (ilt 32 (len x0.wait)) (ak (ieq (len x0.wait) (wr .i64 (aV (wr .i64 (aV x0.next 1)) x0.sure))))) (ak y0))) (af (bZ (fun v=>dM (len x0.wait) x0.wait x0.epoch x0.next x0.sure x0.seg x0.count x0.wait v.1 v.2) LF (0,0)) fun y1=>dJ y1 (fun y2=>cnd (bor (bor (bor (ilt 32 (len x0.wait)) (ak (ieq (len x0.wait) (wr .i64 (aV (wr .i64 (aV x0.next 1)) x0.sure))))) (ak y0)) (ile 0 y2)) (some false) (cnd (ieq x0.seg 0) (some (ieq x0.count 0)) (some (band (band (band (band (ile 1 x0.seg) (ile 1 x0.count)) (ile x0.count 8)) (ile x0.seg (wr .i64 (aB x0.sure 1)))) (ieq (wr .i64 (aB x0.seg x0.count)) (wr .i64 (aB x0.sure 1))))))) fun y2=>cnd (bor (bor (bor (ilt 32 (len x0.wait)) (ak (ieq (len x0.wait) (wr .i64 (aV (wr .i64 (aV x0.next 1)) x0.sure))))) (ak y0)) false) (some false) (cnd (ieq x0.seg 0) (some (ieq x0.count 0)) (some (band (band (band (band (ile 1 x0.seg) (ile 1 x0.count)) (ile x0.count 8)) (ile x0.seg (wr .i64 (aB x0.sure 1)))) (ieq (wr .i64 (aB x0.seg x0.count)) (wr .i64 (aB x0.sure 1))))))) (cnd (bor (bor (bor (ilt 32 (len x0.wait)) (ak (ieq (len x0.wait) (wr .i64 (aV (wr .i64 (aV x0.next 1)) x0.sure))))) (ak y0)) false) (some false) (cnd (ieq x0.seg 0) (some (ieq x0.count 0)) (some (band (band (band (band (ile 1 x0.seg) (ile 1 x0.count)) (ile x0.count 8)) (ile x0.seg (wr .i64 (aB x0.sure 1)))) (ieq (wr .i64 (aB x0.seg x0.count)) (wr .i64 (aB x0.sure 1))))))))
def FK:aA:=mkSpec [.val .wal] [.bool] true (fun x=>DT x)
theorem QO:bJ PG 56 FK:=okP [(107,VO)] [106,108,176] [(1033018829675870585008,26,rY)] ⟨ahu,trivial⟩ (fun K=>⟨fE K fun p v=>by kernel_rfl,trivial⟩) fun x=>by kernel_rfl
def uI (p0:Int) (p1:(List eU)) (p2:Int) (v0:Int) (v1:Bool) (v2:Int):Option ((Int×Bool×Int) ⊕ ((Bool) ⊕ ((Bool)))):=cnd (ilt v0 p0) (cnd (band (ile 0 v0) (ilt v0 (len p1))) (af (lZ (aj p1 (itn v0))) fun y0=>cnd (bor (bor (ak y0) (ile (aj p1 (itn v0)).lsn v2)) (ilt p2 (aj p1 (itn v0)).lsn)) (some (Sum.inr (Sum.inl false))) (some (Sum.inl (wr .i64 (aB v0 1),v1,(aj p1 (itn v0)).lsn)))) none) (some (Sum.inr (Sum.inr v1)))
def WT:dm:=LSh.spec ⟨71,[(10,.int .i64),(9,.ro .msg),(2,.int .i64)],[],[],[(11,.int .i64),(6,.bool),(1,.int .i64)],[],[]⟩ [⟨.ret,[(6,.bool)],[],[]⟩,⟨.exit 0,[(6,.bool)],[],[]⟩] (sP [(1,1),(6,1),(8,1),(11,22)]) (fun p v=>uI p.1 p.2.1 p.2.2 v.1 v.2.1 v.2.2)
def Fe (x0:(List eU)) (x1:Int) (x2:Int):Option (Bool):=af (bZ (fun v=>uI (len x0) x0 x2 v.1 v.2.1 v.2.2) LF (0,false,x1)) fun y0=>dJ y0 (fun y1=>some y1) fun y1=>some true
def Nl:aA:=mkSpec [.ro .msg,.int .i64,.int .i64] [.bool] true (fun x=>Fe x.1 x.2.1 x.2.2)
theorem aaO:bJ PG 60 Nl:=okP [(102,BN)] [] [(60,26,WT)] ⟨Nj,trivial⟩ (fun K=>⟨fE K fun p v=>by kernel_rfl,trivial⟩) fun x=>by kernel_rfl
def xC (p0:Int) (p1:(List uX)) (p2:Int) (v0:Int) (v1:Int) (v2:Bool):Option ((Int×Int×Bool) ⊕ ((Bool) ⊕ ((Bool)))):=cnd (ilt v0 p0) (cnd (band (ile 0 v0) (ilt v0 (len p1))) (cnd (bor (ile (aj p1 (itn v0)).seq v1) (ilt (wr .i64 (aB p2 8)) (aj p1 (itn v0)).seq)) (some (Sum.inr (Sum.inl false))) (some (Sum.inl (wr .i64 (aB v0 1),(aj p1 (itn v0)).seq,v2)))) none) (some (Sum.inr (Sum.inr v2)))
def XE:dm:=LSh.spec ⟨86,[(23,.int .i64),(22,.ro .note),(1,.int .i64)],[],[],[(24,.int .i64),(5,.int .i64),(4,.bool)],[],[]⟩ [⟨.ret,[(4,.bool)],[],[]⟩,⟨.exit 0,[(4,.bool)],[],[]⟩] (sP [(4,2),(7,1),(24,18)]) (fun p v=>xC p.1 p.2.1 p.2.2 v.1 v.2.1 v.2.2)
def JR (x0:xG) (x1:Int):Option (Bool):=cnd (bor (bor (ilt x1 1) (ilt 1000000001 x1)) (ilt 8 (len x0.held))) (some false) (af (bZ (fun v=>xC (len x0.held) x0.held x1 v.1 v.2.1 v.2.2) LF (0,x1,false)) fun y0=>dJ y0 (fun y1=>some y1) fun y1=>some true)
def Rw:aA:=mkSpec [.val .feed,.int .i64] [.bool] true (fun x=>JR x.1 x.2)
theorem ads:bJ PG 61 Rw:=okP [] [] [(61,122,XE)] trivial (fun K=>⟨fE K fun p v=>by kernel_rfl,trivial⟩) fun x=>by kernel_rfl
def Aq (p0:Int) (p1:(List bn)) (p2:dG) (v0:Int) (v1:Bool) (v2:Bool):Option ((Int×Bool×Bool) ⊕ ((Bool) ⊕ ((Bool×Bool)))):=cnd (ilt v0 p0) (cnd (band (ile 0 v0) (ilt v0 (len p1))) (af (JI (aj p1 (itn v0)).name) fun y0=>cnd (band (ilt 0 y0) (ieq y0 p2.seg)) (some (Sum.inl (wr .i64 (aB v0 1),ieq (len (aj p1 (itn v0)).data) (wr .i64 (cO p2.count 72)),v2))) (cnd (ilt p2.sure y0) (some (Sum.inr (Sum.inl false))) (some (Sum.inl (wr .i64 (aB v0 1),v1,v2))))) none) (some (Sum.inr (Sum.inr (v1,v2))))
def aaS:dm:=LSh.spec ⟨85,[(22,.int .i64),(21,.ro .file)],[(2,.mp 16 0)],[(16,[.val .wal])],[(23,.int .i64),(5,.bool),(4,.bool)],[],[]⟩ [⟨.ret,[(4,.bool)],[],[]⟩,⟨.exit 0,[(5,.bool),(4,.bool)],[],[]⟩] (sP [(4,2),(7,2),(23,29)]) (fun p v=>Aq p.1 p.2.1 p.2.2 v.1 v.2.1 v.2.2)
def KT (x0:dG) (x1:aC):Option (Bool):=af (DT x0) fun y0=>af (cnd (ak (ak y0)) (pO x1) (some false)) fun y1=>cnd (bor (ak y0) (ak y1)) (some false) (af (bZ (fun v=>Aq (len x1.files) x1.files x0 v.1 v.2.1 v.2.2) LF (0,ieq x0.seg 0,false)) fun y2=>dJ y2 (fun y3=>some y3) fun y3=>some y3.1)
def NZ:aA:=mkSpec [.val .wal,.val .disk] [.bool] true (fun x=>KT x.1 x.2)
theorem aai:bJ PG 170 NZ:=okP [(56,FK),(44,oC),(224,Jf)] [] [(170,122,aaS)] ⟨QO,vY,V8,trivial⟩ (fun K=>⟨fE K fun p v=>by kernel_rfl,trivial⟩) fun x=>by kernel_rfl
def Bc (p0:Int) (p1:Int) (p2:(List Int)) (p3:(List Int)) (p4:dG) (v0:Int) (v1:Int) (v2:aC) (v3:aC):Option ((Int×Int×aC×aC) ⊕ ((Int×aC×aC) ⊕ ((Int×aC×aC)))):=cnd (ilt v0 p0) (cnd (band (ile 0 v0) (ilt v0 (len p2))) (cnd (ilt (wr .i64 (aB v0 1)) (len p3)) (cnd (band (ile 0 (wr .i64 (aB v0 1))) (ilt (wr .i64 (aB v0 1)) (len p3))) (cnd (ieq (aj p2 (itn v0)) p4.seg) (some (Sum.inl (wr .i64 (aB v0 1),v1,v2,v3))) (cnd (ilt p1 (wr .i64 (aV (aj p3 (itn (wr .i64 (aB v0 1)))) 1))) (some (Sum.inr (Sum.inl (v1,v2,v3)))) (af (jD (aj p2 (itn v0))) fun y0=>af (wo v3 y0) fun y1=>cnd (ak (ieq y1.2 0)) (some (Sum.inr (Sum.inr (y1.2,y1.1,y1.1)))) (some (Sum.inl (wr .i64 (aB v0 1),v1,v2,y1.1)))))) none) (cnd (ieq (aj p2 (itn v0)) p4.seg) (some (Sum.inl (wr .i64 (aB v0 1),v1,v2,v3))) (cnd (ilt p1 p4.sure) (some (Sum.inr (Sum.inl (v1,v2,v3)))) (af (jD (aj p2 (itn v0))) fun y2=>af (wo v3 y2) fun y3=>cnd (ak (ieq y3.2 0)) (some (Sum.inr (Sum.inr (y3.2,y3.1,y3.1)))) (some (Sum.inl (wr .i64 (aB v0 1),v1,v2,y3.1))))))) none) (some (Sum.inr (Sum.inl (v1,v2,v3))))
def aaG:dm:=LSh.spec ⟨81,[(22,.int .i64),(2,.int .i64),(21,.ro .i64),(8,.ro .i64)],[(6,.mp 40 0),(4,.mp 32 0),(3,.mp 24 0)],[(24,[.val .wal])],[(23,.int .i64),(7,.int .i64)],[(40,[.val .disk]),(32,[.val .disk])],[]⟩ [⟨.exit 0,[(7,.int .i64)],[(40,[.val .disk]),(32,[.val .disk])],[]⟩,⟨.ret,[(7,.int .i64)],[(40,[.val .disk]),(32,[.val .disk])],[]⟩] (sP [(7,1),(9,5),(23,38)]) (fun p v=>Bc p.1 p.2.1 p.2.2.1 p.2.2.2.1 p.2.2.2.2 v.1 v.2.1 v.2.2.1 v.2.2.2)
def Qd (x0:dG) (x1:aC) (x2:Int):Option (aC×Int):=af (KT x0 x1) fun y0=>cnd (ak y0) (some (x1,1)) (af (sJ x1) fun y1=>af (bZ (fun v=>Bc (len y1) x2 y1 y1 x0 v.1 v.2.1 v.2.2.1 v.2.2.2) LF (0,0,aC.mk [] 0 0 false,x1)) fun y2=>dJ y2 (fun y3=>some (y3.2.2,0)) fun y3=>some (y3.2.1,y3.1))
def V9:aA:=mkSpec [.val .wal,.val .disk,.int .i64] [.val .disk,.int .i64] false (fun x=>Qd x.1 x.2.1 x.2.2)
theorem ag1:bJ PG 115 V9:=okP [(170,NZ),(163,zW),(173,vN),(177,Bz)] [] [(115,122,aaG)] ⟨aai,Jg,DZ,UA,trivial⟩ (fun K=>⟨fE K fun p v=>by kernel_rfl,trivial⟩) fun x=>by kernel_rfl
def xQ (x0:dG) (x1:aC):Option (Bool):=af (Qd x0 x1 0) fun y0=>some (ak (ieq y0.2 1))
def SS:aA:=mkSpec [.val .wal,.val .disk] [.bool] true (fun x=>xQ x.1 x.2)
theorem af0:bJ PG 63 SS:=okN [(115,V9)] [4095] ⟨ag1,trivial⟩ fun x=>by kernel_rfl
def qZ (x0:bM):Option (Bool):=some (band (band (ieq (len x0.outbox) 0) (ieq (len x0.feed.held) 0)) (ak x0.feed.gap))
def Ry:aA:=mkSpec [.val .gate] [.bool] true (fun x=>qZ x)
theorem adI:bJ PG 64 Ry:=okN [] [] trivial fun x=>by kernel_rfl
def dO (p0:Int) (p1:(List uX)) (v0:Int) (v1:Int):Option ((Int×Int) ⊕ ((Int) ⊕ ((Int)))):=cnd (ilt v0 p0) (cnd (band (ile 0 v0) (ilt v0 (len p1))) (af (EN (aj p1 (itn v0))) fun y0=>af (uJ y0) fun y1=>cnd (ak y1) (some (Sum.inr (Sum.inl v0))) (some (Sum.inl (wr .i64 (aB v0 1),v1)))) none) (some (Sum.inr (Sum.inr v1)))
def rV:dm:=LSh.spec ⟨131,[(7,.int .i64),(0,.ro .note)],[(1,.fn 57 [])],[],[(8,.int .i64),(4,.int .i64)],[],[]⟩ [⟨.ret,[(4,.int .i64)],[],[]⟩,⟨.exit 0,[(4,.int .i64)],[],[]⟩] (sP [(4,2),(8,11)]) (fun p v=>dO p.1 p.2 v.1 v.2)
def EU (x0:bM):Option (Bool):=af (pO x0.disk) fun y0=>af (cnd (ak (ak y0)) (jU x0.state) (some false)) fun y1=>af (cnd (ak (bor (ak y0) (ak y1))) (DT x0.wal) (some false)) fun y2=>cnd (bor (bor (ak y0) (ak y1)) (ak y2)) (some false) (af (cnd (ak (ak (ieq x0.state.lsn (wr .i64 (aV x0.wal.next 1))))) (Fe x0.outbox x0.wal.sure x0.state.lsn) (some false)) fun y3=>af (cnd (ak (bor (ak (ieq x0.state.lsn (wr .i64 (aV x0.wal.next 1)))) (ak y3))) (JR x0.feed (wr .i64 (aB x0.state.seq 1))) (some false)) fun y4=>cnd (ak (bor (bor (ak (ieq x0.state.lsn (wr .i64 (aV x0.wal.next 1)))) (ak y3)) (ak y4))) (af (bZ (fun v=>dO (len x0.feed.held) x0.feed.held v.1 v.2) LF (0,0)) fun y5=>dJ y5 (fun y6=>cnd (bor (bor (bor (ak (ieq x0.state.lsn (wr .i64 (aV x0.wal.next 1)))) (ak y3)) (ak y4)) (ile 0 y6)) (some false) (af (cnd (band (band (band (ile 0 x0.gen) (ile x0.gen 1000000000)) (ak (beq x0.up x0.disk.down))) x0.up) (xQ x0.wal x0.disk) (some false)) fun y7=>af (cnd (band (band (band (band (ile 0 x0.gen) (ile x0.gen 1000000000)) (ak (beq x0.up x0.disk.down))) (ak (band x0.up y7))) (ak x0.up)) (qZ x0) (some false)) fun y8=>some (band (band (band (ile 0 x0.gen) (ile x0.gen 1000000000)) (ak (beq x0.up x0.disk.down))) (bor (band x0.up y7) (band (ak x0.up) y8))))) fun y6=>cnd (bor (bor (bor (ak (ieq x0.state.lsn (wr .i64 (aV x0.wal.next 1)))) (ak y3)) (ak y4)) false) (some false) (af (cnd (band (band (band (ile 0 x0.gen) (ile x0.gen 1000000000)) (ak (beq x0.up x0.disk.down))) x0.up) (xQ x0.wal x0.disk) (some false)) fun y9=>af (cnd (band (band (band (band (ile 0 x0.gen) (ile x0.gen 1000000000)) (ak (beq x0.up x0.disk.down))) (ak (band x0.up y9))) (ak x0.up)) (qZ x0) (some false)) fun y10=>some (band (band (band (ile 0 x0.gen) (ile x0.gen 1000000000)) (ak (beq x0.up x0.disk.down))) (bor (band x0.up y9) (band (ak x0.up) y10))))) (cnd (bor (bor (bor (ak (ieq x0.state.lsn (wr .i64 (aV x0.wal.next 1)))) (ak y3)) (ak y4)) false) (some false) (af (cnd (band (band (band (ile 0 x0.gen) (ile x0.gen 1000000000)) (ak (beq x0.up x0.disk.down))) x0.up) (xQ x0.wal x0.disk) (some false)) fun y11=>af (cnd (band (band (band (band (ile 0 x0.gen) (ile x0.gen 1000000000)) (ak (beq x0.up x0.disk.down))) (ak (band x0.up y11))) (ak x0.up)) (qZ x0) (some false)) fun y12=>some (band (band (band (ile 0 x0.gen) (ile x0.gen 1000000000)) (ak (beq x0.up x0.disk.down))) (bor (band x0.up y11) (band (ak x0.up) y12))))))
def Jk:aA:=mkSpec [.val .gate] [.bool] true (fun x=>EU x)
theorem VL:bJ PG 22 Jk:=okP [(44,oC),(28,oD),(56,FK),(59,Jc),(58,sF),(60,Nl),(61,Rw),(63,SS),(64,Ry)] [4095,57,62,114] [(405829372642502897778,26,rV)] ⟨vY,vO,QO,VW,BB,aaO,ads,af0,adI,trivial⟩ (fun K=>⟨fE K fun p v=>by kernel_rfl,trivial⟩) fun x=>by kernel_rfl
def Bl (x0:bM):Option (Int):=af (EU x0) fun y0=>cnd (ak y0) (some 1) (cnd (ak x0.up) (some 9) (some 0))
def Df:aA:=mkSpec [.val .gate] [.int .i64] true (fun x=>Bl x)
theorem Ot:bJ PG 49 Df:=okN [(22,Jk)] [4095] ⟨VL,trivial⟩ fun x=>by kernel_rfl
def dL (x0:(List bY)):Option ((List bY)):=GY x0
def qW:aA:=mkSpec [.ro .frame] [.buf .frame] true (fun x=>dL x)
theorem BJ:bJ PG 167 qW:=agB fun x=>by kernel_rfl
def Va (x0:dG) (x1:Int) (x2:SA6):Option (dG×Int):=af (DT x0) fun y0=>cnd (ak y0) (cnd (ak y0) (some (x0,1)) (cnd (ilt 1000000000 x0.next) (some (x0,3)) (cnd (ieq (len x0.wait) 32) (some (x0,6)) (af (dL x0.wait) fun y1=>cnd (ile (len (aQ y1 [bY.mk x0.epoch x0.next x1 x2.a0 x2.a1 x2.a2 x2.a3 x2.a4 x2.a5])) 68719476736) (some (dG.mk x0.epoch (wr .i64 (aB x0.next 1)) x0.sure x0.seg x0.count (aQ y1 [bY.mk x0.epoch x0.next x1 x2.a0 x2.a1 x2.a2 x2.a3 x2.a4 x2.a5]),0)) none)))) (cnd (ilt x1 1) (cnd (ilt x1 1) (some (x0,1)) (cnd (ilt 1000000000 x0.next) (some (x0,3)) (cnd (ieq (len x0.wait) 32) (some (x0,6)) (af (dL x0.wait) fun y2=>cnd (ile (len (aQ y2 [bY.mk x0.epoch x0.next x1 x2.a0 x2.a1 x2.a2 x2.a3 x2.a4 x2.a5])) 68719476736) (some (dG.mk x0.epoch (wr .i64 (aB x0.next 1)) x0.sure x0.seg x0.count (aQ y2 [bY.mk x0.epoch x0.next x1 x2.a0 x2.a1 x2.a2 x2.a3 x2.a4 x2.a5]),0)) none)))) (cnd (ilt 6 x1) (some (x0,1)) (cnd (ilt 1000000000 x0.next) (some (x0,3)) (cnd (ieq (len x0.wait) 32) (some (x0,6)) (af (dL x0.wait) fun y3=>cnd (ile (len (aQ y3 [bY.mk x0.epoch x0.next x1 x2.a0 x2.a1 x2.a2 x2.a3 x2.a4 x2.a5])) 68719476736) (some (dG.mk x0.epoch (wr .i64 (aB x0.next 1)) x0.sure x0.seg x0.count (aQ y3 [bY.mk x0.epoch x0.next x1 x2.a0 x2.a1 x2.a2 x2.a3 x2.a4 x2.a5]),0)) none)))))
def XP:aA:=mkSpec [.val .wal,.int .i64,.val .a6] [.val .wal,.int .i64] false (fun x=>Va x.1 x.2.1 x.2.2)
theorem aje:bJ PG 98 XP:=okN [(56,FK),(167,qW)] [] ⟨QO,BJ,trivial⟩ fun x=>by kernel_rfl
def ES (x0:bM) (x1:dB):Option (bM×Int):=af (Hf x0.state x1) fun y0=>cnd (ak (ieq y0.2 0)) (some (x0,y0.2)) (af (lF x1) fun y1=>af (Va x0.wal x1.kind y1.1) fun y2=>cnd (ak (ieq y2.2 0)) (some (x0,y2.2)) (some (bM.mk x0.disk y2.1 y0.1 x0.outbox x0.feed x0.gen x0.up,0)))
def I9:aA:=mkSpec [.val .gate,.val .recd] [.val .gate,.int .i64] false (fun x=>ES x.1 x.2)
theorem V6:bJ PG 50 I9:=okN [(67,JW),(97,Oz),(98,XP)] [] ⟨WR,aal,aje,trivial⟩ fun x=>by kernel_rfl
def eY (x0:(List eU)):Option ((List eU)):=GY x0
def tY:aA:=mkSpec [.ro .msg] [.buf .msg] true (fun x=>eY x)
theorem Ee:bJ PG 52 tY:=agB fun x=>by kernel_rfl
def wu (x0:bM) (x1:dB):Option (bM×Int):=af (Bl x0) fun y0=>cnd (ak (ieq y0 0)) (some (x0,y0)) (cnd (bor (ilt x1.kind 1) (ilt 3 x1.kind)) (some (x0,1)) (af (ES x0 x1) fun y1=>cnd (ak (ieq y1.2 0)) (some (x0,y1.2)) (af (Ak y1.1.state x1.order) fun y2=>cnd (band (ile 0 y2) (ilt y2 (len y1.1.state.orders))) (af (eY x0.outbox) fun y3=>af (iM x1.kind (aj y1.1.state.orders (itn y2)) y1.1.state.lsn) fun y4=>cnd (ile (len (aQ y3 [y4])) 68719476736) (some (bM.mk y1.1.disk y1.1.wal y1.1.state (aQ y3 [y4]) y1.1.feed y1.1.gen y1.1.up,0)) none) none)))
def Ho:aA:=mkSpec [.val .gate,.val .recd] [.val .gate,.int .i64] false (fun x=>wu x.1 x.2)
theorem TG:bJ PG 20 Ho:=okN [(49,Df),(50,I9),(51,Kv),(52,tY),(53,Ld)] [4095] ⟨Ot,V6,XW,Ee,Yn,trivial⟩ fun x=>by kernel_rfl
def KY (x0:ay) (x1:Int):Option (Bool):=some (band (ile (-1) x1) (ilt x1 x0.accounts))
def Ol:aA:=mkSpec [.val .state,.int .i64] [.bool] true (fun x=>KY x.1 x.2)
theorem aaf:bJ PG 29 Ol:=okN [] [] trivial fun x=>by kernel_rfl
def Ze (x0:ax) (x1:Int):Option (Bool):=some (bor (ieq x1 (-1)) (ieq x0.account x1))
def Yq:aA:=mkSpec [.val .order,.int .i64] [.bool] true (fun x=>Ze x.1 x.2)
theorem aiL:bJ PG 30 Yq:=okN [] [] trivial fun x=>by kernel_rfl
def oZ (p0:Int) (p1:(List ax)) (p2:Int) (v0:Int) (v1:(List dB)):Option ((Int×(List dB)) ⊕ (((List dB)))):=cnd (ilt v0 p0) (cnd (band (ile 0 v0) (ilt v0 (len p1))) (af (Ze (aj p1 (itn v0)) p2) fun y0=>cnd (band y0 (ak (aj p1 (itn v0)).asked)) (cnd (ile (len (aQ v1 [dB.mk 3 (aj p1 (itn v0)).id 0 0 0 0 0 0 0 0 false 0 0])) 68719476736) (some (Sum.inl (wr .i64 (aB v0 1),aQ v1 [dB.mk 3 (aj p1 (itn v0)).id 0 0 0 0 0 0 0 0 false 0 0]))) none) (some (Sum.inl (wr .i64 (aB v0 1),v1)))) none) (some (Sum.inr v1))
def Vw:dm:=LSh.spec ⟨82,[(19,.int .i64),(18,.ro .order),(1,.int .i64)],[],[],[(20,.int .i64),(5,.buf .recd)],[],[]⟩ [⟨.exit 0,[(5,.buf .recd)],[],[]⟩] (sP [(5,1),(7,1),(20,19)]) (fun p v=>oZ p.1 p.2.1 p.2.2 v.1 v.2)
def sN (x0:ay) (x1:Int):Option ((List dB)):=af (jU x0) fun y0=>af (cnd (ak (ak y0)) (KY x0 x1) (some false)) fun y1=>cnd (bor (ak y0) (ak y1)) (some []) (af (bZ (fun v=>oZ (len x0.orders) x0.orders x1 v.1 v.2) LF (0,[])) fun y2=>some y2)
def zJ:aA:=mkSpec [.val .state,.int .i64] [.buf .recd] true (fun x=>sN x.1 x.2)
theorem IZ:bJ PG 10 zJ:=okP [(28,oD),(29,Ol),(30,Yq)] [] [(10,122,Vw)] ⟨vO,aaf,aiL,trivial⟩ (fun K=>⟨fE K fun p v=>by kernel_rfl,trivial⟩) fun x=>by kernel_rfl
def bG (p0:Int) (v0:Int) (v1:(List Int)):Option ((Int×(List Int)) ⊕ (((List Int)))):=cnd (ile 0 v0) (cnd (ile 0 (wr .i64 (cO 8 v0))) (cnd (ile (len (aQ v1 [wr .u8 (dn .u64 p0 (wr .i64 (cO 8 v0)))])) 68719476736) (some (Sum.inl (wr .i64 (aV v0 1),aQ v1 [wr .u8 (dn .u64 p0 (wr .i64 (cO 8 v0)))]))) none) none) (some (Sum.inr v1))
def BD:dm:=LSh.spec ⟨76,[(1,.int .u64)],[(0,.mp 56 0)],[],[(6,.int .i64)],[(56,[.buf .u8])],[]⟩ [⟨.exit 0,[],[(56,[.buf .u8])],[]⟩] (sP [(6,1),(9,16)]) (fun p v=>bG p v.1 v.2)
def jV (p0:Int) (v0:Int) (v1:(List Int)):Option ((Int×(List Int)) ⊕ (((List Int)))):=cnd (ile 0 v0) (cnd (ile 0 (wr .i64 (cO 8 v0))) (cnd (ile (len (aQ v1 [wr .u8 (dn .u64 p0 (wr .i64 (cO 8 v0)))])) 68719476736) (some (Sum.inl (wr .i64 (aV v0 1),aQ v1 [wr .u8 (dn .u64 p0 (wr .i64 (cO 8 v0)))]))) none) none) (some (Sum.inr v1))
def Bf:dm:=LSh.spec ⟨150,[(1,.int .u64)],[(0,.mp 56 0)],[],[(6,.int .i64)],[(56,[.buf .u8])],[]⟩ [⟨.exit 0,[],[(56,[.buf .u8])],[]⟩] (sP [(6,1),(9,16)]) (fun p v=>jV p v.1 v.2)
def jB (p0:Int) (v0:Int) (v1:(List Int)):Option ((Int×(List Int)) ⊕ (((List Int)))):=cnd (ile 0 v0) (cnd (ile 0 (wr .i64 (cO 8 v0))) (cnd (ile (len (aQ v1 [wr .u8 (dn .u64 p0 (wr .i64 (cO 8 v0)))])) 68719476736) (some (Sum.inl (wr .i64 (aV v0 1),aQ v1 [wr .u8 (dn .u64 p0 (wr .i64 (cO 8 v0)))]))) none) none) (some (Sum.inr v1))
def zZ:dm:=LSh.spec ⟨224,[(1,.int .u64)],[(0,.mp 56 0)],[],[(6,.int .i64)],[(56,[.buf .u8])],[]⟩ [⟨.exit 0,[],[(56,[.buf .u8])],[]⟩] (sP [(6,1),(9,16)]) (fun p v=>jB p v.1 v.2)
def jF (p0:Int) (v0:Int) (v1:(List Int)):Option ((Int×(List Int)) ⊕ (((List Int)))):=cnd (ile 0 v0) (cnd (ile 0 (wr .i64 (cO 8 v0))) (cnd (ile (len (aQ v1 [wr .u8 (dn .u64 p0 (wr .i64 (cO 8 v0)))])) 68719476736) (some (Sum.inl (wr .i64 (aV v0 1),aQ v1 [wr .u8 (dn .u64 p0 (wr .i64 (cO 8 v0)))]))) none) none) (some (Sum.inr v1))
def zX:dm:=LSh.spec ⟨298,[(1,.int .u64)],[(0,.mp 56 0)],[],[(6,.int .i64)],[(56,[.buf .u8])],[]⟩ [⟨.exit 0,[],[(56,[.buf .u8])],[]⟩] (sP [(6,1),(9,16)]) (fun p v=>jF p v.1 v.2)
def jA (p0:Int) (v0:Int) (v1:(List Int)):Option ((Int×(List Int)) ⊕ (((List Int)))):=cnd (ile 0 v0) (cnd (ile 0 (wr .i64 (cO 8 v0))) (cnd (ile (len (aQ v1 [wr .u8 (dn .u64 p0 (wr .i64 (cO 8 v0)))])) 68719476736) (some (Sum.inl (wr .i64 (aV v0 1),aQ v1 [wr .u8 (dn .u64 p0 (wr .i64 (cO 8 v0)))]))) none) none) (some (Sum.inr v1))
def Ah:dm:=LSh.spec ⟨377,[(1,.int .u64)],[(0,.mp 56 0)],[],[(6,.int .i64)],[(56,[.buf .u8])],[]⟩ [⟨.exit 0,[],[(56,[.buf .u8])],[]⟩] (sP [(6,1),(9,16)]) (fun p v=>jA p v.1 v.2)
def jy (p0:Int) (v0:Int) (v1:(List Int)):Option ((Int×(List Int)) ⊕ (((List Int)))):=cnd (ile 0 v0) (cnd (ile 0 (wr .i64 (cO 8 v0))) (cnd (ile (len (aQ v1 [wr .u8 (dn .u64 p0 (wr .i64 (cO 8 v0)))])) 68719476736) (some (Sum.inl (wr .i64 (aV v0 1),aQ v1 [wr .u8 (dn .u64 p0 (wr .i64 (cO 8 v0)))]))) none) none) (some (Sum.inr v1))
def Ag:dm:=LSh.spec ⟨455,[(1,.int .u64)],[(0,.mp 56 0)],[],[(6,.int .i64)],[(56,[.buf .u8])],[]⟩ [⟨.exit 0,[],[(56,[.buf .u8])],[]⟩] (sP [(6,1),(9,16)]) (fun p v=>jy p v.1 v.2)
def jO (p0:Int) (v0:Int) (v1:(List Int)):Option ((Int×(List Int)) ⊕ (((List Int)))):=cnd (ile 0 v0) (cnd (ile 0 (wr .i64 (cO 8 v0))) (cnd (ile (len (aQ v1 [wr .u8 (dn .u64 p0 (wr .i64 (cO 8 v0)))])) 68719476736) (some (Sum.inl (wr .i64 (aV v0 1),aQ v1 [wr .u8 (dn .u64 p0 (wr .i64 (cO 8 v0)))]))) none) none) (some (Sum.inr v1))
def Aa:dm:=LSh.spec ⟨533,[(1,.int .u64)],[(0,.mp 56 0)],[],[(6,.int .i64)],[(56,[.buf .u8])],[]⟩ [⟨.exit 0,[],[(56,[.buf .u8])],[]⟩] (sP [(6,1),(9,16)]) (fun p v=>jO p v.1 v.2)
def jL (p0:Int) (v0:Int) (v1:(List Int)):Option ((Int×(List Int)) ⊕ (((List Int)))):=cnd (ile 0 v0) (cnd (ile 0 (wr .i64 (cO 8 v0))) (cnd (ile (len (aQ v1 [wr .u8 (dn .u64 p0 (wr .i64 (cO 8 v0)))])) 68719476736) (some (Sum.inl (wr .i64 (aV v0 1),aQ v1 [wr .u8 (dn .u64 p0 (wr .i64 (cO 8 v0)))]))) none) none) (some (Sum.inr v1))
def Ac:dm:=LSh.spec ⟨611,[(1,.int .u64)],[(0,.mp 56 0)],[],[(6,.int .i64)],[(56,[.buf .u8])],[]⟩ [⟨.exit 0,[],[(56,[.buf .u8])],[]⟩] (sP [(6,1),(9,16)]) (fun p v=>jL p v.1 v.2)
def jM (p0:Int) (v0:Int) (v1:(List Int)):Option ((Int×(List Int)) ⊕ (((List Int)))):=cnd (ile 0 v0) (cnd (ile 0 (wr .i64 (cO 8 v0))) (cnd (ile (len (aQ v1 [wr .u8 (dn .u64 p0 (wr .i64 (cO 8 v0)))])) 68719476736) (some (Sum.inl (wr .i64 (aV v0 1),aQ v1 [wr .u8 (dn .u64 p0 (wr .i64 (cO 8 v0)))]))) none) none) (some (Sum.inr v1))
def Ad:dm:=LSh.spec ⟨689,[(1,.int .u64)],[(0,.mp 56 0)],[],[(6,.int .i64)],[(56,[.buf .u8])],[]⟩ [⟨.exit 0,[],[(56,[.buf .u8])],[]⟩] (sP [(6,1),(9,16)]) (fun p v=>jM p v.1 v.2)
def jG (p0:Int) (v0:Int) (v1:(List Int)):Option ((Int×(List Int)) ⊕ (((List Int)))):=cnd (ile 0 v0) (cnd (ile 0 (wr .i64 (cO 8 v0))) (cnd (ile (len (aQ v1 [wr .u8 (dn .u64 p0 (wr .i64 (cO 8 v0)))])) 68719476736) (some (Sum.inl (wr .i64 (aV v0 1),aQ v1 [wr .u8 (dn .u64 p0 (wr .i64 (cO 8 v0)))]))) none) none) (some (Sum.inr v1))
def zY:dm:=LSh.spec ⟨767,[(1,.int .u64)],[(0,.mp 56 0)],[],[(6,.int .i64)],[(56,[.buf .u8])],[]⟩ [⟨.exit 0,[],[(56,[.buf .u8])],[]⟩] (sP [(6,1),(9,16)]) (fun p v=>jG p v.1 v.2)
def Fb (x0:bY):Option ((List Int)×Int):=af (vW x0) fun y0=>cnd (ak y0) (some ([],1)) (af (bZ (fun v=>bG 72 v.1 v.2) LF (3,[])) fun y1=>af (bZ (fun v=>jV (wr .u64 x0.epoch) v.1 v.2) LF (3,y1)) fun y2=>af (bZ (fun v=>jB (wr .u64 x0.lsn) v.1 v.2) LF (7,y2)) fun y3=>af (bZ (fun v=>jF (wr .u64 x0.kind) v.1 v.2) LF (3,y3)) fun y4=>af (bZ (fun v=>jA (wr .u64 x0.b0) v.1 v.2) LF (7,y4)) fun y5=>af (bZ (fun v=>jy (wr .u64 x0.b1) v.1 v.2) LF (7,y5)) fun y6=>af (bZ (fun v=>jO (wr .u64 x0.b2) v.1 v.2) LF (7,y6)) fun y7=>af (bZ (fun v=>jL (wr .u64 x0.b3) v.1 v.2) LF (7,y7)) fun y8=>af (bZ (fun v=>jM (wr .u64 x0.b4) v.1 v.2) LF (7,y8)) fun y9=>af (bZ (fun v=>jG (wr .u64 x0.b5) v.1 v.2) LF (7,y9)) fun y10=>af (Kr y10) fun y11=>cnd (ile (len (aQ y10 [wr .u8 y11,wr .u8 (dn .u32 y11 8),wr .u8 (dn .u32 y11 16),wr .u8 (dn .u32 y11 24)])) 68719476736) (some (aQ y10 [wr .u8 y11,wr .u8 (dn .u32 y11 8),wr .u8 (dn .u32 y11 16),wr .u8 (dn .u32 y11 24)],0)) none)
def Nb:aA:=mkSpec [.val .frame] [.buf .u8,.int .i64] true (fun x=>Fb x)
theorem aaN:bJ PG 226 Nb:=okP [(233,xk),(218,JY)] [268] [(970662646028,6,BD),(970662949132,6,Bf),(970663252236,6,zZ),(970663555340,6,zX),(970663878924,6,Ah),(970664198412,6,Ag),(970664517900,6,Aa),(970664837388,6,Ac),(970665156876,6,Ad),(970665476364,6,zY)] ⟨ER,Xa,trivial⟩ (fun K=>⟨fE K fun p v=>by kernel_rfl,fE K fun p v=>by kernel_rfl,fE K fun p v=>by kernel_rfl,fE K fun p v=>by kernel_rfl,fE K fun p v=>by kernel_rfl,fE K fun p v=>by kernel_rfl,fE K fun p v=>by kernel_rfl,fE K fun p v=>by kernel_rfl,fE K fun p v=>by kernel_rfl,fE K fun p v=>by kernel_rfl,trivial⟩) fun x=>by kernel_rfl
def CP (p0:Int) (p1:(List bY)) (v0:Int) (v1:(List Int)) (v2:Int) (v3:(List Int)):Option ((Int×(List Int)×Int×(List Int)) ⊕ ((Int×(List Int)) ⊕ (((List Int)×Int×(List Int))))):=cnd (ilt v0 p0) (cnd (band (ile 0 v0) (ilt v0 (len p1))) (af (Fb (aj p1 (itn v0))) fun y0=>cnd (ak (ieq y0.2 0)) (some (Sum.inr (Sum.inl (y0.2,[])))) (cnd (ile (len (aQ v1 y0.1)) 68719476736) (some (Sum.inl (wr .i64 (aB v0 1),aQ v1 y0.1,v2,v3))) none)) none) (some (Sum.inr (Sum.inr (v1,v2,v3))))
def abn:dm:=LSh.spec ⟨71,[(10,.int .i64),(9,.ro .frame)],[],[],[(11,.int .i64),(4,.buf .u8),(3,.int .i64),(2,.buf .u8)],[],[]⟩ [⟨.ret,[(3,.int .i64),(2,.buf .u8)],[],[]⟩,⟨.exit 0,[(4,.buf .u8),(3,.int .i64),(2,.buf .u8)],[],[]⟩] (sP [(2,3),(6,3),(11,16)]) (fun p v=>CP p.1 p.2 v.1 v.2.1 v.2.2.1 v.2.2.2)
def G6 (x0:(List bY)):Option ((List Int)×Int):=af (bZ (fun v=>CP (len x0) x0 v.1 v.2.1 v.2.2.1 v.2.2.2) LF (0,[],0,[])) fun y0=>dJ y0 (fun y1=>some (y1.2,y1.1)) fun y1=>some (y1.1,0)
def VF:aA:=mkSpec [.ro .frame] [.buf .u8,.int .i64] true (fun x=>G6 x)
theorem agG:bJ PG 171 VF:=okP [(226,Nb)] [] [(171,58,abn)] ⟨aaN,trivial⟩ (fun K=>⟨fE K fun p v=>by kernel_rfl,trivial⟩) fun x=>by kernel_rfl
def A7 (p0:Int) (p1:(List bn)) (v0:Int) (v1:Int):Option ((Int×Int) ⊕ ((Int))):=cnd (ilt v0 p0) (cnd (band (ile 0 v0) (ilt v0 (len p1))) (some (Sum.inl (wr .i64 (aB v0 1),wr .i64 (aB v1 (len (aj p1 (itn v0)).data))))) none) (some (Sum.inr v1))
def aaP:dm:=LSh.spec ⟨72,[(8,.int .i64),(7,.ro .file)],[],[],[(9,.int .i64),(3,.int .i64)],[],[]⟩ [⟨.exit 0,[(3,.int .i64)],[],[]⟩] (sP [(3,1),(5,1),(9,10)]) (fun p v=>A7 p.1 p.2 v.1 v.2)
def Ns (x0:aC):Option (Int):=af (bZ (fun v=>A7 (len x0.files) x0.files v.1 v.2) LF (0,0)) fun y0=>some y0
def UL:aA:=mkSpec [.val .disk] [.int .i64] true (fun x=>Ns x)
theorem afa:bJ PG 229 UL:=okP [] [] [(229,58,aaP)] trivial (fun K=>⟨fE K fun p v=>by kernel_rfl,trivial⟩) fun x=>by kernel_rfl
def pI (x0:(List bn)) (x1:Int) (x2:(List bn)):Option ((List bn)):=match x2 with | [n]=>cnd (band (ile 0 x1) (band (ile x1 (len x0)) (ile (aB (len x0) 1) 68719476736))) (some (aQ (cZ x0 (itn x1)) (n::dR x0 (itn x1)))) none | _=>none
noncomputable def NR:Cx:={ P:=PG,ety:=ety,fn:=look [],inl:=aoT [],lp:=UM [] }
def zT:aA:=QD .file (fun x=>pI x.1 x.2.1 x.2.2)
theorem Md:bJ PG 230 zT:=
 have K:CxR NR:=G7.cx (fun _=>rfl) (l:=[]) trivial
 akH K 230 (aq1 PG 230) (aq1 PG ((Jj (aq1 PG 230)).f 29)) (by kernel_rfl) (by kernel_rfl) (by kernel_rfl) (by kernel_rfl) (by kernel_rfl) (e:= .file) (by kernel_rfl) (by kernel_rfl) (by kernel_rfl) (by kernel_rfl) (by kernel_rfl) (by kernel_rfl) rfl (fun x y h=>by obtain⟨l,k,xs⟩:=x;match xs,h with | [],h=>exact h | [_],h=>exact h | _::_::_,h=>exact h)
def mg (p0:Int) (p1:(List VA)) (v0:Int) (v1:Int):Option ((Int×Int) ⊕ ((Int))):=cnd (ilt v0 p0) (cnd (band (ile 0 v0) (ilt v0 (len p1))) (cnd (ilt (wr .i64 (aB v1 (len (aj p1 (itn v0)).all))) 0) none (some (Sum.inl (wr .i64 (aB v0 1),wr .i64 (aB v1 (len (aj p1 (itn v0)).all)))))) none) (some (Sum.inr v1))
def Oa:dm:=LSh.spec ⟨70,[(10,.int .i64),(9,.ro .bts)],[],[],[(11,.int .i64),(3,.int .i64)],[],[]⟩ [⟨.exit 0,[(3,.int .i64)],[],[]⟩] (sP [(3,1),(5,1),(11,12)]) (fun p v=>mg p.1 p.2 v.1 v.2)
def je (p0:Int) (p1:(List VA)) (v0:Int) (v1:(List Int)):Option ((Int×(List Int)) ⊕ (((List Int)))):=cnd (ilt v0 p0) (cnd (band (ile 0 v0) (ilt v0 (len p1))) (cnd (ile (len (aQ v1 (aj p1 (itn v0)).all)) 68719476736) (some (Sum.inl (wr .i64 (aB v0 1),aQ v1 (aj p1 (itn v0)).all))) none) none) (some (Sum.inr v1))
def ML:dm:=LSh.spec ⟨169,[(26,.int .i64),(25,.ro .bts)],[],[],[(27,.int .i64),(6,.buf .u8)],[],[]⟩ [⟨.exit 2,[(6,.buf .u8)],[],[]⟩] (sP [(6,1),(8,1),(27,8)]) (fun p v=>je p.1 p.2 v.1 v.2)
def pV (x0:(List VA)):Option ((List Int)):=af (bZ (fun v=>mg (len x0) x0 v.1 v.2) LF (0,0)) fun y0=>cnd (ilt y0 0) none (cnd (ilt 0 (wr .i64 (aV y0 0))) (cnd (band (ilt 0 (wr .i64 (aV y0 0))) (ile (wr .i64 (aV y0 0)) 68719476736)) (cnd (ile 0 (len (yO Int (itn (wr .i64 (aV y0 0)))))) (af (bZ (fun v=>je (len x0) x0 v.1 v.2) LF (0,cZ (yO Int (itn (wr .i64 (aV y0 0)))) 0)) fun y1=>some y1) none) none) (af (bZ (fun v=>je (len x0) x0 v.1 v.2) LF (0,[])) fun y2=>some y2))
def D8:aA:=mkSpec [.ro .bts] [.buf .u8] true (fun x=>pV x)
theorem SC:bJ PG 231 D8:=okP [] [276] [(231,58,Oa),(231,250,ML)] trivial (fun K=>⟨fE K fun p v=>by kernel_rfl,fE K fun p v=>by kernel_rfl,trivial⟩) fun x=>by kernel_rfl
def zi (x0:aC) (x1:(List UInt8)) (x2:(List Int)):Option (aC×Int):=af (uZ x0 [x1]) fun y0=>cnd (ak (ieq y0 0)) (some (x0,y0)) (af (xR x0 x1) fun y1=>af (Ns x0) fun y2=>cnd (bor (ilt (wr .i64 (aV x0.room y2)) (len x2)) (band (ak y1.2) (ieq (len x0.files) 64))) (some (x0,6)) (af (bT x0.files) fun y3=>cnd (ak y1.2) (af (pI y3 y1.1 [bn.mk x1 [] 0]) fun y4=>cnd (band (ile 0 y1.1) (ilt y1.1 (len y4))) (af (pV [VA.mk (aj y4 (itn y1.1)).data,VA.mk x2]) fun y5=>cnd (band (ile 0 y1.1) (ilt y1.1 (len y4))) (cnd (ieq x0.fuse 0) (some (aC.mk (dN y4 (itn y1.1) (bn.mk (aj y4 (itn y1.1)).name y5 (aj y4 (itn y1.1)).sure)) x0.room x0.fuse true,9)) (cnd (ieq x0.fuse (-1)) (some (aC.mk (dN y4 (itn y1.1) (bn.mk (aj y4 (itn y1.1)).name y5 (aj y4 (itn y1.1)).sure)) x0.room x0.fuse x0.down,0)) (some (aC.mk (dN y4 (itn y1.1) (bn.mk (aj y4 (itn y1.1)).name y5 (aj y4 (itn y1.1)).sure)) x0.room (wr .i64 (aV x0.fuse 1)) x0.down,0)))) none) none) (cnd (band (ile 0 y1.1) (ilt y1.1 (len y3))) (af (pV [VA.mk (aj y3 (itn y1.1)).data,VA.mk x2]) fun y6=>cnd (band (ile 0 y1.1) (ilt y1.1 (len y3))) (cnd (ieq x0.fuse 0) (some (aC.mk (dN y3 (itn y1.1) (bn.mk (aj y3 (itn y1.1)).name y6 (aj y3 (itn y1.1)).sure)) x0.room x0.fuse true,9)) (cnd (ieq x0.fuse (-1)) (some (aC.mk (dN y3 (itn y1.1) (bn.mk (aj y3 (itn y1.1)).name y6 (aj y3 (itn y1.1)).sure)) x0.room x0.fuse x0.down,0)) (some (aC.mk (dN y3 (itn y1.1) (bn.mk (aj y3 (itn y1.1)).name y6 (aj y3 (itn y1.1)).sure)) x0.room (wr .i64 (aV x0.fuse 1)) x0.down,0)))) none) none)))
def Pg:aA:=mkSpec [.val .disk,.str,.ro .u8] [.val .disk,.int .i64] false (fun x=>zi x.1 x.2.1 x.2.2)
theorem abq:bJ PG 172 Pg:=okN [(227,ug),(228,xH),(229,UL),(65,jH),(230,zT),(231,D8)] [232] ⟨CU,FM,afa,pF,Md,SC,trivial⟩ fun x=>by kernel_rfl
def Ep (x0:aC) (x1:(List UInt8)):Option (aC×Int):=af (uZ x0 [x1]) fun y0=>cnd (ak (ieq y0 0)) (cnd (ak (ieq y0 0)) (some (x0,y0)) (cnd (ieq x0.fuse 0) (some (aC.mk x0.files x0.room x0.fuse true,9)) (cnd (ieq x0.fuse (-1)) (af (bT x0.files) fun y1=>cnd (ilt 0 (len y1)) (cnd (ilt 0 (len y1)) (some (aC.mk (dN y1 0 (bn.mk (aj y1 0).name (aj y1 0).data (len (aj y1 0).data))) x0.room x0.fuse x0.down,0)) none) none) (af (bT x0.files) fun y2=>cnd (ilt 0 (len y2)) (cnd (ilt 0 (len y2)) (some (aC.mk (dN y2 0 (bn.mk (aj y2 0).name (aj y2 0).data (len (aj y2 0).data))) x0.room (wr .i64 (aV x0.fuse 1)) x0.down,0)) none) none)))) (af (xR x0 x1) fun y3=>cnd (ak y3.2) (some (x0,7)) (cnd (ieq x0.fuse 0) (some (aC.mk x0.files x0.room x0.fuse true,9)) (cnd (ieq x0.fuse (-1)) (af (bT x0.files) fun y4=>cnd (band (ile 0 y3.1) (ilt y3.1 (len y4))) (cnd (band (ile 0 y3.1) (ilt y3.1 (len y4))) (some (aC.mk (dN y4 (itn y3.1) (bn.mk (aj y4 (itn y3.1)).name (aj y4 (itn y3.1)).data (len (aj y4 (itn y3.1)).data))) x0.room x0.fuse x0.down,0)) none) none) (af (bT x0.files) fun y5=>cnd (band (ile 0 y3.1) (ilt y3.1 (len y5))) (cnd (band (ile 0 y3.1) (ilt y3.1 (len y5))) (some (aC.mk (dN y5 (itn y3.1) (bn.mk (aj y5 (itn y3.1)).name (aj y5 (itn y3.1)).data (len (aj y5 (itn y3.1)).data))) x0.room (wr .i64 (aV x0.fuse 1)) x0.down,0)) none) none))))
def Un:aA:=mkSpec [.val .disk,.str] [.val .disk,.int .i64] false (fun x=>Ep x.1 x.2)
theorem af7:bJ PG 174 Un:=okN [(227,ug),(228,xH),(65,jH)] [214,232] ⟨CU,FM,pF,trivial⟩ fun x=>by kernel_rfl
def Dk (v0:Int) (v1:aC) (v2:dG) (v3:aC) (v4:dG):Option ((Int×aC×dG×aC×dG) ⊕ ((Int×aC×dG×aC×dG) ⊕ ((Int×aC×dG×aC×dG)))):=cnd (ilt 0 (len v4.wait)) (cnd (bor (ieq v4.seg 0) (ieq v4.count 8)) (cnd (band (ile 0 (ji (len v4.wait) 8)) (ile (ji (len v4.wait) 8) (len v4.wait))) (af (G6 (cZ v4.wait (itn (ji (len v4.wait) 8)))) fun y0=>af (jD (wr .i64 (aB v4.sure 1))) fun y1=>af (zi v3 y1 y0.1) fun y2=>cnd (ieq y2.2 0) (af (jD (wr .i64 (aB v4.sure 1))) fun y3=>af (Ep y2.1 y3) fun y4=>cnd (ak (ieq y4.2 0)) (some (Sum.inr (Sum.inl (y4.2,y4.1,v4,y4.1,v4)))) (cnd (band (ile 0 (ji (len v4.wait) 8)) (ile (ji (len v4.wait) 8) (len v4.wait))) (af (dL (dR v4.wait (itn (ji (len v4.wait) 8)))) fun y5=>some (Sum.inl (v0,v1,v2,y4.1,dG.mk v4.epoch v4.next (wr .i64 (aB v4.sure (ji (len v4.wait) 8))) (wr .i64 (aB v4.sure 1)) (wr .i64 (aB 0 (ji (len v4.wait) 8))) y5))) none)) (cnd (ak (ieq y2.2 0)) (some (Sum.inr (Sum.inl (y2.2,y2.1,v4,y2.1,v4)))) (cnd (band (ile 0 (ji (len v4.wait) 8)) (ile (ji (len v4.wait) 8) (len v4.wait))) (af (dL (dR v4.wait (itn (ji (len v4.wait) 8)))) fun y6=>some (Sum.inl (v0,v1,v2,y2.1,dG.mk v4.epoch v4.next (wr .i64 (aB v4.sure (ji (len v4.wait) 8))) (wr .i64 (aB v4.sure 1)) (wr .i64 (aB 0 (ji (len v4.wait) 8))) y6))) none))) none) (cnd (band (ile 0 (ji (len v4.wait) (wr .i64 (aV 8 v4.count)))) (ile (ji (len v4.wait) (wr .i64 (aV 8 v4.count))) (len v4.wait))) (af (G6 (cZ v4.wait (itn (ji (len v4.wait) (wr .i64 (aV 8 v4.count)))))) fun y7=>af (jD v4.seg) fun y8=>af (zi v3 y8 y7.1) fun y9=>cnd (ieq y9.2 0) (af (jD v4.seg) fun y10=>af (Ep y9.1 y10) fun y11=>cnd (ak (ieq y11.2 0)) (some (Sum.inr (Sum.inl (y11.2,y11.1,v4,y11.1,v4)))) (cnd (band (ile 0 (ji (len v4.wait) (wr .i64 (aV 8 v4.count)))) (ile (ji (len v4.wait) (wr .i64 (aV 8 v4.count))) (len v4.wait))) (af (dL (dR v4.wait (itn (ji (len v4.wait) (wr .i64 (aV 8 v4.count)))))) fun y12=>some (Sum.inl (v0,v1,v2,y11.1,dG.mk v4.epoch v4.next (wr .i64 (aB v4.sure (ji (len v4.wait) (wr .i64 (aV 8 v4.count))))) v4.seg (wr .i64 (aB v4.count (ji (len v4.wait) (wr .i64 (aV 8 v4.count))))) y12))) none)) (cnd (ak (ieq y9.2 0)) (some (Sum.inr (Sum.inl (y9.2,y9.1,v4,y9.1,v4)))) (cnd (band (ile 0 (ji (len v4.wait) (wr .i64 (aV 8 v4.count)))) (ile (ji (len v4.wait) (wr .i64 (aV 8 v4.count))) (len v4.wait))) (af (dL (dR v4.wait (itn (ji (len v4.wait) (wr .i64 (aV 8 v4.count)))))) fun y13=>some (Sum.inl (v0,v1,v2,y9.1,dG.mk v4.epoch v4.next (wr .i64 (aB v4.sure (ji (len v4.wait) (wr .i64 (aV 8 v4.count))))) v4.seg (wr .i64 (aB v4.count (ji (len v4.wait) (wr .i64 (aV 8 v4.count))))) y13))) none))) none)) (some (Sum.inr (Sum.inr (v0,v1,v2,v3,v4))))
def ZC:dm:=LSh.spec ⟨75,[],[(5,.mp 40 0),(4,.mp 32 0),(3,.mp 24 0),(2,.mp 16 0)],[],[(6,.int .i64)],[(40,[.val .disk]),(32,[.val .wal]),(24,[.val .disk]),(16,[.val .wal])],[]⟩ [⟨.ret,[(6,.int .i64)],[(40,[.val .disk]),(32,[.val .wal]),(24,[.val .disk]),(16,[.val .wal])],[]⟩,⟨.exit 0,[(6,.int .i64)],[(40,[.val .disk]),(32,[.val .wal]),(24,[.val .disk]),(16,[.val .wal])],[]⟩] (sP [(6,8),(20,71)]) (fun p v=>Dk v.1 v.2.1 v.2.2.1 v.2.2.2.1 v.2.2.2.2)
def JL (x0:dG) (x1:aC):Option (dG×aC×Int):=af (KT x0 x1) fun y0=>cnd (ak y0) (some (x0,x1,1)) (af (bZ (fun v=>Dk v.1 v.2.1 v.2.2.1 v.2.2.2.1 v.2.2.2.2) LF (0,aC.mk [] 0 0 false,dG.mk 0 0 0 0 0 [],x1,x0)) fun y1=>dJ y1 (fun y2=>some (y2.2.2.1,y2.2.1,y2.1)) fun y2=>some (y2.2.2.2.2,y2.2.2.2.1,0))
def RN:aA:=mkSpec [.val .wal,.val .disk] [.val .wal,.val .disk,.int .i64] false (fun x=>JL x.1 x.2)
theorem adE:bJ PG 103 RN:=okP [(170,NZ),(171,VF),(173,vN),(172,Pg),(174,Un),(167,qW)] [] [(103,28,ZC)] ⟨aai,agG,DZ,abq,af7,BJ,trivial⟩ (fun K=>⟨fE K fun p v=>by kernel_rfl,trivial⟩) fun x=>by kernel_rfl
def TA (x0:bM):Option (bM):=some (bM.mk x0.disk x0.wal x0.state [] (xG.mk [] false) x0.gen false)
def LK:aA:=mkSpec [.val .gate] [.val .gate] false (fun x=>TA x)
theorem XK:bJ PG 85 LK:=okN [] [] trivial fun x=>by kernel_rfl
def Bg (x0:bM):Option (bM×Int):=af (JL x0.wal x0.disk) fun y0=>cnd y0.2.1.down (af (TA (bM.mk y0.2.1 y0.1 x0.state x0.outbox x0.feed x0.gen x0.up)) fun y1=>some (y1,y0.2.2)) (some (bM.mk y0.2.1 y0.1 x0.state x0.outbox x0.feed x0.gen x0.up,y0.2.2))
def FW:aA:=mkSpec [.val .gate] [.val .gate,.int .i64] false (fun x=>Bg x)
theorem Rt:bJ PG 54 FW:=okN [(103,RN),(85,LK)] [4095] ⟨adE,XK,trivial⟩ fun x=>by kernel_rfl
def dW (p0:Int) (p1:(List eU)) (p2:Int) (v0:Int) (v1:Int):Option ((Int×Int) ⊕ ((Int) ⊕ ((Int)))):=cnd (ilt v0 p0) (cnd (band (ile 0 v0) (ilt v0 (len p1))) (cnd (ilt p2 (aj p1 (itn v0)).lsn) (some (Sum.inr (Sum.inl v0))) (some (Sum.inl (wr .i64 (aB v0 1),v1)))) none) (some (Sum.inr (Sum.inr v1)))
def vV:dm:=LSh.spec ⟨77,[(7,.int .i64),(0,.ro .msg)],[(1,.fn 105 [.mp 16 0])],[(16,[.int .i64])],[(8,.int .i64),(4,.int .i64)],[],[]⟩ [⟨.ret,[(4,.int .i64)],[],[]⟩,⟨.exit 0,[(4,.int .i64)],[],[]⟩] (sP [(4,2),(8,11)]) (fun p v=>dW p.1 p.2.1 p.2.2 v.1 v.2)
def FC (x0:(List eU)) (x1:Int):Option ((List eU)×(List eU)):=af (bZ (fun v=>dW (len x0) x0 x1 v.1 v.2) LF (0,0)) fun y0=>dJ y0 (fun y1=>cnd (ilt y1 0) (cnd (band (ile 0 (len x0)) (ile (len x0) (len x0))) (af (eY (cZ x0 (itn (len x0)))) fun y2=>cnd (band (ile 0 (len x0)) (ile (len x0) (len x0))) (af (eY (dR x0 (itn (len x0)))) fun y3=>some (y2,y3)) none) none) (cnd (band (ile 0 y1) (ile y1 (len x0))) (af (eY (cZ x0 (itn y1))) fun y4=>cnd (band (ile 0 y1) (ile y1 (len x0))) (af (eY (dR x0 (itn y1))) fun y5=>some (y4,y5)) none) none)) fun y1=>cnd (band (ile 0 (len x0)) (ile (len x0) (len x0))) (af (eY (cZ x0 (itn (len x0)))) fun y6=>cnd (band (ile 0 (len x0)) (ile (len x0) (len x0))) (af (eY (dR x0 (itn (len x0)))) fun y7=>some (y6,y7)) none) none
def MP:aA:=mkSpec [.ro .msg,.int .i64] [.buf .msg,.buf .msg] true (fun x=>FC x.1 x.2)
theorem aaC:bJ PG 55 MP:=okP [(52,tY)] [105,104] [(236223238248,26,vV)] ⟨Ee,trivial⟩ (fun K=>⟨fE K fun p v=>by kernel_rfl,trivial⟩) fun x=>by kernel_rfl
def uS (x0:bM):Option (bM×(List eU)×Int):=af (Bl x0) fun y0=>cnd (ak (ieq y0 0)) (some (x0,[],y0)) (af (Bg x0) fun y1=>cnd (ak y1.1.up) (some (y1.1,[],y1.2)) (af (FC y1.1.outbox y1.1.wal.sure) fun y2=>some (bM.mk y1.1.disk y1.1.wal y1.1.state y2.2 y1.1.feed y1.1.gen y1.1.up,y2.1,y1.2)))
def I7:aA:=mkSpec [.val .gate] [.val .gate,.buf .msg,.int .i64] false (fun x=>uS x)
theorem VD:bJ PG 21 I7:=okN [(49,Df),(54,FW),(55,MP)] [4095] ⟨Ot,Rt,aaC,trivial⟩ fun x=>by kernel_rfl
end
end Go.Av
