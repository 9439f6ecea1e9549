/- The functions that this claim reaches, each as a plain function; each is what its text comes to. No condition. -/
import Derived.Test.YtobbnmfkcdjmmaaGreatDoorAvE
import Derived.Test.YtobbnmfkcdjmmaaGreatDoorProg
import Derived.KernelRfl
import Derived.Shelf.Small.Wraps
import Derived.Shelf.Strconv.ParseIntPublic10
import Derived.WalkKit
import Derived.Laws.RangeAny
set_option linter.unusedVariables false
set_option linter.unusedSimpArgs false
set_option linter.unnecessarySimpa false
namespace Go.Av
open Go
def anu:List (Nat×E):=[(2,.i64),(3,.i64),(4,.bool),(5,.u8),(6,.u8),(9,.str),(10,.str),(11,.str),(24,.disk),(27,.wal),(33,.state),(37,.feed),(39,.gate),(41,.recd),(43,.note),(47,.plain),(50,.i64),(69,.expo),(71,.msg),(73,.order),(106,.bts),(108,.file),(111,.state),(112,.a6),(114,.frame),(132,.cell),(148,.slot),(153,.keeper),(221,.a20),(281,.a3),(284,.bts),(295,.i64),(329,.u8),(330,.u8)]
def ety (t:Nat):Option E:=look anu t
noncomputable abbrev PG:Program:=Go.Proofs.Tryz.prog
end Go.Av
namespace Go.Av
open Go
noncomputable section
theorem anY:EOk PG 2 .i64:=jR (by kernel_rfl) (by kernel_rfl)
theorem anI:EOk PG 3 .i64:=jR (by kernel_rfl) (by kernel_rfl)
theorem anT:EOk PG 4 .bool:=jR (by kernel_rfl) (by kernel_rfl)
theorem anH:EOk PG 5 .u8:=jR (by kernel_rfl) (by kernel_rfl)
theorem anN:EOk PG 6 .u8:=jR (by kernel_rfl) (by kernel_rfl)
theorem anr:EOk PG 9 .str:=jR (by kernel_rfl) (by kernel_rfl)
theorem amM:EOk PG 10 .str:=jR (by kernel_rfl) (by kernel_rfl)
theorem amN:EOk PG 11 .str:=jR (by kernel_rfl) (by kernel_rfl)
theorem am6:EOk PG 24 .disk:=jR (by kernel_rfl) (by kernel_rfl)
theorem amz:EOk PG 27 .wal:=jR (by kernel_rfl) (by kernel_rfl)
theorem al9:EOk PG 33 .state:=jR (by kernel_rfl) (by kernel_rfl)
theorem ams:EOk PG 37 .feed:=jR (by kernel_rfl) (by kernel_rfl)
theorem ank:EOk PG 39 .gate:=jR (by kernel_rfl) (by kernel_rfl)
theorem amR:EOk PG 41 .recd:=jR (by kernel_rfl) (by kernel_rfl)
theorem amP:EOk PG 43 .note:=jR (by kernel_rfl) (by kernel_rfl)
theorem amK:EOk PG 47 .plain:=jR (by kernel_rfl) (by kernel_rfl)
theorem ami:EOk PG 50 .i64:=jR (by kernel_rfl) (by kernel_rfl)
theorem amI:EOk PG 69 .expo:=jR (by kernel_rfl) (by kernel_rfl)
theorem amQ:EOk PG 71 .msg:=jR (by kernel_rfl) (by kernel_rfl)
theorem anf:EOk PG 73 .order:=jR (by kernel_rfl) (by kernel_rfl)
theorem akl:EOk PG 106 .bts:=jR (by kernel_rfl) (by kernel_rfl)
theorem akA:EOk PG 108 .file:=jR (by kernel_rfl) (by kernel_rfl)
theorem ala:EOk PG 111 .state:=jR (by kernel_rfl) (by kernel_rfl)
theorem akI:EOk PG 112 .a6:=jR (by kernel_rfl) (by kernel_rfl)
theorem ald:EOk PG 114 .frame:=jR (by kernel_rfl) (by kernel_rfl)
theorem alj:EOk PG 132 .cell:=jR (by kernel_rfl) (by kernel_rfl)
theorem alH:EOk PG 148 .slot:=jR (by kernel_rfl) (by kernel_rfl)
theorem akm:EOk PG 153 .keeper:=jR (by kernel_rfl) (by kernel_rfl)
theorem ak7:EOk PG 221 .a20:=jR (by kernel_rfl) (by kernel_rfl)
theorem akq:EOk PG 281 .a3:=jR (by kernel_rfl) (by kernel_rfl)
theorem akO:EOk PG 284 .bts:=jR (by kernel_rfl) (by kernel_rfl)
theorem akz:EOk PG 295 .i64:=jR (by kernel_rfl) (by kernel_rfl)
theorem ale:EOk PG 329 .u8:=jR (by kernel_rfl) (by kernel_rfl)
theorem alA:EOk PG 330 .u8:=jR (by kernel_rfl) (by kernel_rfl)
theorem Am:Fp PG anu:=⟨by kernel_rfl,⟨anY,anI,anT,anH,anN,anr,amM,amN,am6,amz,al9,ams,ank,amR,amP,amK,ami,amI,amQ,anf,akl,akA,ala,akI,ald,alj,alH,akm,ak7,akq,akO,akz,ale,alA,trivial⟩,by kernel_rfl,by kernel_rfl,by kernel_rfl⟩
end
end Go.Av
namespace Go.Av
open Go
noncomputable section
def cX (l:List (Nat×aF)) (i:List Nat) (p:List (Nat×Nat×dX)):Cx:={ P:=PG,ety:=ety,fn:=look l,inl:=amT i,lp:=Qg p }
theorem cxK {l:List (Nat×aF)} {i:List Nat} {p:List (Nat×Nat×dX)} (h:VE PG l):CxR (cX l i p):=Am.cx (fun _=>rfl) h
theorem okP {f:Nat} {xs rs:List Sh} {s:Bool} {run:Tup xs->Option (Tup rs)} (l:List (Nat×aF)) (i:List Nat) (p:List (Nat×Nat×dX)) (h:VE PG l) (hp:CxR (cX l i p)->Ux (cX l i p) p)
 (hr:∀x,aei (cX l i p) f xs rs x=run x) (hb:hasB PG f=true:=by kernel_rfl) (h3:(Nat.ble rs.length 8&&(xs.all ab2&&rs.all ab2))=true:=by kernel_rfl) (h4:(!s||rs.all U6)=true:=by kernel_rfl):bW PG f (mkSpec xs rs s run):=
 aiL (cxK h) (aic (l:=p) rfl (hp (cxK h))) hb (fun x y e=>(hr x).trans e) h3 h4
theorem okN {f:Nat} {xs rs:List Sh} {s:Bool} {run:Tup xs->Option (Tup rs)} (l:List (Nat×aF)) (i:List Nat) (h:VE PG l)
 (hr:∀x,aei (cX l i []) f xs rs x=run x) (hb:hasB PG f=true:=by kernel_rfl) (h3:(Nat.ble rs.length 8&&(xs.all ab2&&rs.all ab2))=true:=by kernel_rfl) (h4:(!s||rs.all U6)=true:=by kernel_rfl):bW PG f (mkSpec xs rs s run):=
 okP l i [] h (fun _=>trivial) hr hb h3 h4
theorem kL {C:Cx} (K:CxR C) {s:LSh} {os:List qY} {D:List Nat} {step:Tup s.pk->Tup s.vk->Option (Tup s.vk ⊕ Zq os)} {pf pos:Nat} (hs:∀p v,afI C 900 pf pos (Uz C.P (pf%4096) pos) s os p v=step p v)
 (h2:Nat.blt (Nat.log2 pos) 301=true:=by kernel_rfl) (h3:s.good D=true:=by kernel_rfl) (h4:os.all (qY.good s)=true:=by kernel_rfl) (h5:KH D (Uz C.P (pf%4096) pos)=true:=by kernel_rfl):
 ∀c,At C.P pf pos (.loop c)->sD C pf (2*pos)->ahc C.P pf c (s.spec os D step):=
 akf (n:=900) (f:=pf%4096) K rfl h2 h3 h4 h5 (fun p v r h=>(hs p v).trans h)
def sP (l:List (Nat×Nat)):List Nat:=l.flatMap fun a=>List.range' a.1 a.2
end
end Go.Av
namespace Go.Av
open Go
noncomputable section
def Tj (x0:Int) (x1:Int):Option (Int×Int):=some (wr .u32 (bJ .u64 (wr .u64 (fK (wr .u64 x0) (wr .u64 x1))) 32),wr .u32 (wr .u64 (fK (wr .u64 x0) (wr .u64 x1))))
def Dh:aF:=mkSpec [.int .u32,.int .u32] [.int .u32,.int .u32] true (fun x=>Tj x.1 x.2)
theorem Qw:bW PG 166 Dh:=okN [] [] trivial fun x=>by kernel_rfl
def qy (x0:Int) (x1:Int):Option (Int×Int):=some (wr .u64 (ax (wr .u64 (ax (wr .u64 (fK (bJ .u64 x0 32) (bJ .u64 x1 32))) (bJ .u64 (wr .u64 (ax (wr .u64 (fK (bJ .u64 x0 32) (wr .u64 (ng .u64 x1 4294967295)))) (bJ .u64 (wr .u64 (fK (wr .u64 (ng .u64 x0 4294967295)) (wr .u64 (ng .u64 x1 4294967295)))) 32))) 32))) (bJ .u64 (wr .u64 (ax (wr .u64 (ng .u64 (wr .u64 (ax (wr .u64 (fK (bJ .u64 x0 32) (wr .u64 (ng .u64 x1 4294967295)))) (bJ .u64 (wr .u64 (fK (wr .u64 (ng .u64 x0 4294967295)) (wr .u64 (ng .u64 x1 4294967295)))) 32))) 4294967295)) (wr .u64 (fK (wr .u64 (ng .u64 x0 4294967295)) (bJ .u64 x1 32))))) 32)),wr .u64 (fK x0 x1))
def wJ:aF:=mkSpec [.int .u64,.int .u64] [.int .u64,.int .u64] true (fun x=>qy x.1 x.2)
theorem Fb:bW PG 167 wJ:=okN [] [] trivial fun x=>by kernel_rfl
def DT (x0:Int) (x1:Int):Option (Int×Int):=af (qy x0 x1) fun y0=>some y0
def zf:aF:=mkSpec [.int .u64,.int .u64] [.int .u64,.int .u64] true (fun x=>DT x.1 x.2)
theorem IL:bW PG 103 zf:=okN [(166,Dh),(167,wJ)] [] ⟨Qw,Fb,trivial⟩ fun x=>by kernel_rfl
def tK (v0:Int) (v1:(List jK)):Option ((Int×(List jK)) ⊕ (((List jK)))):=cnd (ilt v0 (len v1)) (cnd (band (ile 0 v0) (ile v0 (len v1))) (cnd (band (ile 0 v0) (ile v0 (len v1))) (some (Sum.inl (wr .i64 (ax v0 (jm (len (aG (aV v1 0) (itn v0))) (nti (itn (aI (len v1) v0))))),iO v1 (itn v0) (aG (aG (aV v1 0) (itn v0)) (itn (jm (len (aG (aV v1 0) (itn v0))) (nti (itn (aI (len v1) v0))))))))) none) none) (some (Sum.inr v1))
def DL:dX:=LSh.spec ⟨94,[],[(7,.mf 192)],[],[(8,.int .i64)],[],[(192,.expo)]⟩ [⟨.exit 0,[],[],[(192,.expo)]⟩] (sP [(8,1),(34,13)]) (fun p v=>tK v.1 v.2)
def yA (x0:(List jK)) (x1:Int):Option ((List jK)):=cnd (ilt x1 0) none (af (DT (wr .u64 (len x0)) (wr .u64 x1)) fun y0=>cnd (bor (ilt 0 y0.1) (ilt 9223372036854775807 y0.2)) none (cnd (band (band (ile 0 (wr .i64 y0.2)) (ile (wr .i64 y0.2) (wr .i64 y0.2))) (ile (wr .i64 y0.2) 68719476736)) (af (bV (fun v=>tK v.1 v.2) LF (jm (len x0) (len (nN jK (itn (wr .i64 y0.2)))),iO (nN jK (itn (wr .i64 y0.2))) 0 (aG x0 (itn (jm (len x0) (len (nN jK (itn (wr .i64 y0.2))))))))) fun y1=>some y1) none))
def uU:aF:=mkSpec [.ro .expo,.int .i64] [.buf .expo] true (fun x=>yA x.1 x.2)
theorem Gv:bW PG 51 uU:=okP [(103,zf)] [] [(51,508,DL)] ⟨IL,trivial⟩ (fun K=>⟨kL K fun p v=>by kernel_rfl,trivial⟩) fun x=>by kernel_rfl
def xJ (v0:Int) (v1:(List Int)):Option ((Int×(List Int)) ⊕ (((List Int)))):=cnd (ilt v0 (len v1)) (cnd (band (ile 0 v0) (ile v0 (len v1))) (cnd (band (ile 0 v0) (ile v0 (len v1))) (some (Sum.inl (wr .i64 (ax v0 (jm (len (aG (aV v1 0) (itn v0))) (nti (itn (aI (len v1) v0))))),iO v1 (itn v0) (aG (aG (aV v1 0) (itn v0)) (itn (jm (len (aG (aV v1 0) (itn v0))) (nti (itn (aI (len v1) v0))))))))) none) none) (some (Sum.inr v1))
def FU:dX:=LSh.spec ⟨94,[],[(7,.mf 192)],[],[(8,.int .i64)],[],[(192,.i64)]⟩ [⟨.exit 0,[],[],[(192,.i64)]⟩] (sP [(8,1),(34,13)]) (fun p v=>xJ v.1 v.2)
def Bj (x0:(List Int)) (x1:Int):Option ((List Int)):=cnd (ilt x1 0) none (af (DT (wr .u64 (len x0)) (wr .u64 x1)) fun y0=>cnd (bor (ilt 0 y0.1) (ilt 9223372036854775807 y0.2)) none (cnd (band (band (ile 0 (wr .i64 y0.2)) (ile (wr .i64 y0.2) (wr .i64 y0.2))) (ile (wr .i64 y0.2) 68719476736)) (af (bV (fun v=>xJ v.1 v.2) LF (jm (len x0) (len (nN Int (itn (wr .i64 y0.2)))),iO (nN Int (itn (wr .i64 y0.2))) 0 (aG x0 (itn (jm (len x0) (len (nN Int (itn (wr .i64 y0.2))))))))) fun y1=>some y1) none))
def xX:aF:=mkSpec [.ro .i64,.int .i64] [.buf .i64] true (fun x=>Bj x.1 x.2)
theorem Kv:bW PG 52 xX:=okP [(103,zf)] [] [(52,508,FU)] ⟨IL,trivial⟩ (fun K=>⟨kL K fun p v=>by kernel_rfl,trivial⟩) fun x=>by kernel_rfl
def ru (x0:ay):Option (Bool):=some (band (band (band (band (band (band (band (ile 1 x0.accounts) (ile x0.accounts 8)) (ile 1 x0.symbols)) (ile x0.symbols 8)) (ieq (len x0.cells) (wr .i64 (fK x0.accounts x0.symbols)))) (ieq (len x0.limits) (len x0.cells))) (ieq (len x0.caps) x0.accounts)) (ile (len x0.orders) 64))
def zN:aF:=mkSpec [.val .state] [.bool] true (fun x=>ru x)
theorem LU:bW PG 105 zN:=okN [] [] trivial fun x=>by kernel_rfl
def ja (x0:aB):Option (Bool):=some (bor (au (ieq x0.newQty 0)) (au (ieq x0.newPrice 0)))
def rX:aF:=mkSpec [.val .order] [.bool] true (fun x=>ja x)
theorem CG:bW PG 114 rX:=okN [] [] trivial fun x=>by kernel_rfl
def Kw (x0:iq):Option (iq):=cnd (ieq x0.kind 1) (some (iq.mk x0.kind x0.order x0.account x0.symbol x0.side x0.qty x0.price 0 0 0 false 0 0)) (cnd (ieq x0.kind 2) (some (iq.mk x0.kind x0.order 0 0 0 x0.qty x0.price 0 0 0 false 0 0)) (cnd (ieq x0.kind 3) (some (iq.mk x0.kind x0.order 0 0 0 0 0 0 0 0 false 0 0)) (cnd (ieq x0.kind 4) (some (iq.mk x0.kind 0 x0.account x0.symbol 0 0 0 x0.long x0.short x0.opn false 0 0)) (cnd (ieq x0.kind 5) (some (iq.mk x0.kind 0 0 0 0 0 0 0 0 0 x0.on 0 0)) (cnd (ieq x0.kind 6) (some (iq.mk x0.kind x0.order 0 0 0 x0.qty x0.price 0 0 0 false x0.seq x0.what)) (some (iq.mk x0.kind 0 0 0 0 0 0 0 0 0 false 0 0)))))))
def KJ:aF:=mkSpec [.val .recd] [.val .recd] true (fun x=>Kw x)
theorem Zw:bW PG 58 KJ:=okN [] [] trivial fun x=>by kernel_rfl
def nD (x0:Int):Option (Bool):=some (band (ile 1 x0) (ile x0 1000000000000))
def FY:aF:=mkSpec [.int .i64] [.bool] true (fun x=>nD x)
theorem RZ:bW PG 59 FY:=okN [] [] trivial fun x=>by kernel_rfl
def oG (x0:Int) (x1:Int):Option (Bool):=some (band (ile 0 x0) (ilt x0 x1))
def MO:aF:=mkSpec [.int .i64,.int .i64] [.bool] true (fun x=>oG x.1 x.2)
theorem abE:bW PG 60 MO:=okN [] [] trivial fun x=>by kernel_rfl
def oJ (x0:iq):Option (Bool):=some (band (ile 1 x0.qty) (ile 1 x0.price))
def EW:aF:=mkSpec [.val .recd] [.bool] true (fun x=>oJ x)
theorem Tm:bW PG 61 EW:=okN [] [] trivial fun x=>by kernel_rfl
def GR (x0:iq):Option (Bool):=af (cnd (au (bor (ilt x0.seq 1) (ilt 1000000000 x0.seq))) (nD x0.order) (some false)) fun y0=>cnd (bor (bor (ilt x0.seq 1) (ilt 1000000000 x0.seq)) (au y0)) (some false) (cnd (ieq x0.what 3) (some (band (ile 1 x0.qty) (ieq x0.price 0))) (cnd (ieq x0.what 5) (af (oJ x0) fun y1=>some y1) (cnd (ieq x0.what 1) (cnd (ieq x0.what 1) (some (band (ieq x0.qty 0) (ieq x0.price 0))) (some false)) (cnd (ieq x0.what 2) (cnd (ieq x0.what 2) (some (band (ieq x0.qty 0) (ieq x0.price 0))) (some false)) (cnd (ieq x0.what 4) (cnd (ieq x0.what 4) (some (band (ieq x0.qty 0) (ieq x0.price 0))) (some false)) (cnd (ieq x0.what 6) (some (band (ieq x0.qty 0) (ieq x0.price 0))) (some false)))))))
def MI:aF:=mkSpec [.val .recd] [.bool] true (fun x=>GR x)
theorem aby:bW PG 62 MI:=okN [(59,FY),(61,EW)] [] ⟨RZ,Tm,trivial⟩ fun x=>by kernel_rfl
def jY (x0:iq):Option (Bool):=af (Kw x0) fun y0=>cnd (au (band (ieq x0.kind y0.kind) (band (ieq x0.order y0.order) (band (ieq x0.account y0.account) (band (ieq x0.symbol y0.symbol) (band (ieq x0.side y0.side) (band (ieq x0.qty y0.qty) (band (ieq x0.price y0.price) (band (ieq x0.long y0.long) (band (ieq x0.short y0.short) (band (ieq x0.opn y0.opn) (band (beq x0.on y0.on) (band (ieq x0.seq y0.seq) (ieq x0.what y0.what)))))))))))))) (some false) (cnd (ieq x0.kind 1) (af (nD x0.order) fun y1=>af (cnd y1 (oG x0.account 8) (some false)) fun y2=>af (cnd (band y1 y2) (oG x0.symbol 8) (some false)) fun y3=>af (cnd (band (band (band y1 y2) y3) (bor (ieq x0.side 1) (ieq x0.side 2))) (oJ x0) (some false)) fun y4=>some (band (band (band (band y1 y2) y3) (bor (ieq x0.side 1) (ieq x0.side 2))) y4)) (cnd (ieq x0.kind 2) (af (nD x0.order) fun y5=>af (cnd y5 (oJ x0) (some false)) fun y6=>some (band y5 y6)) (cnd (ieq x0.kind 3) (af (nD x0.order) fun y7=>some y7) (cnd (ieq x0.kind 4) (af (oG x0.account 8) fun y8=>af (cnd (band y8 (au (band (band (ieq x0.symbol (-1)) (ieq x0.long 0)) (ieq x0.short 0)))) (oG x0.symbol 8) (some false)) fun y9=>some (band (band y8 (bor (band (band (ieq x0.symbol (-1)) (ieq x0.long 0)) (ieq x0.short 0)) y9)) (ile 0 (jm (jm x0.long x0.short) x0.opn)))) (cnd (ieq x0.kind 5) (some true) (cnd (ieq x0.kind 6) (af (GR x0) fun y10=>some y10) (some false)))))))
def kG:aF:=mkSpec [.val .recd] [.bool] true (fun x=>jY x)
theorem ou:bW PG 27 kG:=okN [(58,KJ),(59,FY),(60,MO),(61,EW),(62,MI)] [] ⟨Zw,RZ,abE,Tm,aby,trivial⟩ fun x=>by kernel_rfl
def CV (x0:aB):Option (Bool):=af (jY (iq.mk 1 x0.id x0.account x0.symbol x0.side x0.qty x0.price 0 0 0 false 0 0)) fun y0=>some y0
def I8:aF:=mkSpec [.val .order] [.bool] true (fun x=>CV x)
theorem Yy:bW PG 115 I8:=okN [(27,kG)] [] ⟨ou,trivial⟩ fun x=>by kernel_rfl
def iJ (x0:aB):Option (Bool):=af (ja x0) fun y0=>af (CV x0) fun y1=>cnd (bor (bor (bor (bor (au y1) (ilt x0.filled 0)) (ilt x0.qty x0.filled)) (ilt x0.version 0)) (band y0 (ilt (jm x0.newQty x0.newPrice) 1))) (some false) (cnd (ieq x0.phase 1) (some (band (band (ieq x0.filled 0) (ieq x0.version 0)) (au y0))) (cnd (ieq x0.phase 2) (some (ilt x0.filled x0.qty)) (cnd (ieq x0.phase 3) (some (au y0)) (some false))))
def jd:aF:=mkSpec [.val .order] [.bool] true (fun x=>iJ x)
theorem lS:bW PG 69 jd:=okN [(114,rX),(115,I8)] [] ⟨CG,Yy,trivial⟩ fun x=>by kernel_rfl
def CQ (x0:jK):Option (Bool):=some (ile 0 (jm (jm x0.long x0.short) x0.opn))
def Ja:aF:=mkSpec [.val .expo] [.bool] true (fun x=>CQ x)
theorem WE:bW PG 169 Ja:=okN [] [] trivial fun x=>by kernel_rfl
def lK (p0:(List Int)) (v0:Int) (v1:Int):Option ((Int×Int) ⊕ ((Int))):=cnd (ilt v0 (len p0)) (cnd (band (ile 0 v0) (ilt v0 (len p0))) (some (Sum.inl (wr .i64 (ax v0 1),jm v1 (aj p0 (itn v0))))) none) (some (Sum.inr v1))
def Jo:dX:=LSh.spec ⟨74,[(0,.ro .i64)],[],[],[(4,.int .i64),(3,.int .i64)],[],[]⟩ [⟨.exit 0,[(3,.int .i64)],[],[]⟩] (sP [(3,2),(12,12)]) (fun p v=>lK p v.1 v.2)
def mQ (x0:(List Int)):Option (Int):=cnd (ilt (len x0) 1) none (cnd (ilt 0 (len x0)) (af (bV (fun v=>lK x0 v.1 v.2) LF (1,aj x0 0)) fun y0=>some y0) none)
def BA:aF:=mkSpec [.ro .i64] [.int .i64] true (fun x=>mQ x)
theorem OY:bW PG 171 BA:=okP [] [] [(171,122,Jo)] trivial (fun K=>⟨kL K fun p v=>by kernel_rfl,trivial⟩) fun x=>by kernel_rfl
def mD (p0:Int) (p1:(List aB)) (p2:ay) (v0:Int) (v1:Int) (v2:Bool):Option ((Int×Int×Bool) ⊕ ((Bool) ⊕ ((Int×Bool)))):=cnd (ilt v0 p0) (cnd (band (ile 0 v0) (ilt v0 (len p1))) (af (iJ (aj p1 (itn v0))) fun y0=>cnd (bor (bor (bor (bor (au y0) (ieq (aj p1 (itn v0)).phase 3)) (ile p2.accounts (aj p1 (itn v0)).account)) (ile p2.symbols (aj p1 (itn v0)).symbol)) (ile (aj p1 (itn v0)).id v1)) (some (Sum.inr (Sum.inl false))) (some (Sum.inl (wr .i64 (ax v0 1),(aj p1 (itn v0)).id,v2)))) none) (some (Sum.inr (Sum.inr (v1,v2))))
def J4:dX:=LSh.spec ⟨73,[(10,.int .i64),(9,.ro .order)],[(1,.mp 8 0)],[(8,[.val .state])],[(11,.int .i64),(3,.int .i64),(2,.bool)],[],[]⟩ [⟨.ret,[(2,.bool)],[],[]⟩,⟨.exit 0,[(3,.int .i64),(2,.bool)],[],[]⟩] (sP [(2,2),(5,1),(11,37)]) (fun p v=>mD p.1 p.2.1 p.2.2 v.1 v.2.1 v.2.2)
def bZ (p0:Int) (p1:(List jK)) (v0:Int) (v1:Int):Option ((Int×Int) ⊕ ((Int) ⊕ ((Int)))):=cnd (ilt v0 p0) (cnd (band (ile 0 v0) (ilt v0 (len p1))) (af (CQ (aj p1 (itn v0))) fun y0=>cnd (au y0) (some (Sum.inr (Sum.inl v0))) (some (Sum.inl (wr .i64 (ax v0 1),v1)))) none) (some (Sum.inr (Sum.inr v1)))
def mV:dX:=LSh.spec ⟨210,[(7,.int .i64),(0,.ro .expo)],[(1,.fn 168 [])],[],[(8,.int .i64),(4,.int .i64)],[],[]⟩ [⟨.ret,[(4,.int .i64)],[],[]⟩,⟨.exit 0,[(4,.int .i64)],[],[]⟩] (sP [(4,2),(8,11)]) (fun p v=>bZ p.1 p.2 v.1 v.2)
def rZ (x0:ay):Option (Bool):=af (bV (fun v=>mD (len x0.orders) x0.orders x0 v.1 v.2.1 v.2.2) LF (0,0,false)) fun y0=>gX y0 (fun y1=>some y1) fun y1=>cnd (band (band (band (band (band (ile y1.1 x0.last) (ile x0.last 1000000000000)) (ile 0 x0.seq)) (ile x0.seq 1000000000)) (ile 0 x0.lsn)) (ile x0.lsn 1000000000)) (af (bV (fun v=>bZ (len x0.limits) x0.limits v.1 v.2) LF (0,0)) fun y2=>gX y2 (fun y3=>af (cnd (band (band (band (band (band (band (ile y1.1 x0.last) (ile x0.last 1000000000000)) (ile 0 x0.seq)) (ile x0.seq 1000000000)) (ile 0 x0.lsn)) (ile x0.lsn 1000000000)) (au (ile 0 y3))) (mQ x0.caps) (some 0)) fun y4=>some (band (band (band (band (band (band (band (band (ile y1.1 x0.last) (ile x0.last 1000000000000)) (ile 0 x0.seq)) (ile x0.seq 1000000000)) (ile 0 x0.lsn)) (ile x0.lsn 1000000000)) (au (ile 0 y3))) (ile 0 y4)) (ile 0 x0.last))) fun y3=>af (cnd (bor (band (band (band (band (band (ile y1.1 x0.last) (ile x0.last 1000000000000)) (ile 0 x0.seq)) (ile x0.seq 1000000000)) (ile 0 x0.lsn)) (ile x0.lsn 1000000000)) false) (mQ x0.caps) (some 0)) fun y5=>some (band (band (bor (band (band (band (band (band (ile y1.1 x0.last) (ile x0.last 1000000000000)) (ile 0 x0.seq)) (ile x0.seq 1000000000)) (ile 0 x0.lsn)) (ile x0.lsn 1000000000)) false) (ile 0 y5)) (ile 0 x0.last))) (af (cnd (bor (band (band (band (band (band (ile y1.1 x0.last) (ile x0.last 1000000000000)) (ile 0 x0.seq)) (ile x0.seq 1000000000)) (ile 0 x0.lsn)) (ile x0.lsn 1000000000)) false) (mQ x0.caps) (some 0)) fun y6=>some (band (band (bor (band (band (band (band (band (ile y1.1 x0.last) (ile x0.last 1000000000000)) (ile 0 x0.seq)) (ile x0.seq 1000000000)) (ile 0 x0.lsn)) (ile x0.lsn 1000000000)) false) (ile 0 y6)) (ile 0 x0.last)))
def Bh:aF:=mkSpec [.val .state] [.bool] true (fun x=>rZ x)
theorem O1:bW PG 106 Bh:=okP [(69,jd),(169,Ja),(171,BA)] [168,170,203] [(106,58,J4),(1955357265080659534027,26,mV)] ⟨lS,WE,OY,trivial⟩ (fun K=>⟨kL K fun p v=>by kernel_rfl,kL K fun p v=>by kernel_rfl,trivial⟩) fun x=>by kernel_rfl
def bG (x0:ay) (x1:Int) (x2:Int):Option (Int):=some (wr .i64 (ax (wr .i64 (fK x1 x0.symbols)) x2))
def nJ:aF:=mkSpec [.val .state,.int .i64,.int .i64] [.int .i64] true (fun x=>bG x.1 x.2.1 x.2.2)
theorem uw:bW PG 126 nJ:=okN [] [] trivial fun x=>by kernel_rfl
def oM (x0:Int) (x1:Int):Option (Int×Int):=cnd (band (au (beq (ilt x0 (wr .i64 (ax x0 x1))) (ilt 0 x1))) (au (ieq x1 0))) (some (0,3)) (some (wr .i64 (ax x0 x1),0))
def sK:aF:=mkSpec [.int .i64,.int .i64] [.int .i64,.int .i64] true (fun x=>oM x.1 x.2)
theorem BN:bW PG 74 sK:=okN [] [] trivial fun x=>by kernel_rfl
def xE (x0:Int) (x1:Int):Option (Int×Int):=cnd (band (au (beq (ilt (wr .i64 (aI x0 x1)) x0) (ilt 0 x1))) (au (ieq x1 0))) (some (0,3)) (some (wr .i64 (aI x0 x1),0))
def EC:aF:=mkSpec [.int .i64,.int .i64] [.int .i64,.int .i64] true (fun x=>xE x.1 x.2)
theorem QG:bW PG 180 EC:=okN [] [] trivial fun x=>by kernel_rfl
def Dz (x0:bF):Option (jK×Bool):=af (oM x0.pos x0.buy) fun y0=>af (xE x0.sell x0.pos) fun y1=>some (jK.mk y0.1 y1.1 x0.opn,band (ieq y0.2 0) (ieq y1.2 0))
def FO:aF:=mkSpec [.val .cell] [.val .expo,.bool] true (fun x=>Dz x)
theorem TM:bW PG 172 FO:=okN [(74,sK),(180,EC)] [] ⟨BN,QG,trivial⟩ fun x=>by kernel_rfl
def iY (x0:bF):Option (Bool):=af (Dz x0) fun y0=>some (band y0.2 (ile 0 (jm (jm x0.buy x0.sell) x0.opn)))
def qh:aF:=mkSpec [.val .cell] [.bool] true (fun x=>iY x)
theorem yD:bW PG 108 qh:=okN [(172,FO)] [] ⟨TM,trivial⟩ fun x=>by kernel_rfl
def FV (x0:Int):Option (Int):=cnd (ilt x0 0) (some (wr .u64 (aI 0 (wr .u64 x0)))) (some (wr .u64 x0))
def Pv:aF:=mkSpec [.int .i64] [.int .u64] true (fun x=>FV x)
theorem adr:bW PG 243 Pv:=okN [] [] trivial fun x=>by kernel_rfl
def I4 (x0:Int) (x1:Int):Option (Int×Int):=af (FV x0) fun y0=>af (FV x1) fun y1=>af (qy y0 y1) fun y2=>cnd (band (band (ieq y2.1 0) (au (beq (ilt x0 0) (ilt x1 0)))) (ile y2.2 9223372036854775808)) (some (wr .i64 (wr .u64 (aI 0 y2.2)),0)) (cnd (band (ieq y2.1 0) (ile y2.2 9223372036854775807)) (some (wr .i64 y2.2,0)) (some (0,3)))
def SC:aF:=mkSpec [.int .i64,.int .i64] [.int .i64,.int .i64] true (fun x=>I4 x.1 x.2)
theorem afC:bW PG 227 SC:=okN [(243,Pv),(167,wJ)] [] ⟨adr,Fb,trivial⟩ fun x=>by kernel_rfl
def II (x0:Int) (x1:Int):Option (Int):=some (imax x0 x1)
def JF:aF:=mkSpec [.int .i64,.int .i64] [.int .i64] true (fun x=>II x.1 x.2)
theorem Yb:bW PG 228 JF:=okN [] [] trivial fun x=>by kernel_rfl
def yJ (x0:aB):Option (Int×Int):=af (iJ x0) fun y0=>cnd (au y0) (some (0,1)) (cnd (ieq x0.phase 3) (some (0,0)) (af (I4 (wr .i64 (aI x0.qty x0.filled)) x0.price) fun y1=>cnd (bor (au (ieq y1.2 0)) (ile x0.newQty x0.filled)) (some y1) (af (I4 (wr .i64 (aI x0.newQty x0.filled)) x0.newPrice) fun y2=>cnd (au (ieq y2.2 0)) (some (0,y2.2)) (af (II y1.1 y2.1) fun y3=>some (y3,0)))))
def CO:aF:=mkSpec [.val .order] [.int .i64,.int .i64] true (fun x=>yJ x)
theorem Nu:bW PG 205 CO:=okN [(69,jd),(227,SC),(228,JF)] [] ⟨lS,afC,Yb,trivial⟩ fun x=>by kernel_rfl
def sG (x0:aB):Option (Int):=af (iJ x0) fun y0=>cnd (bor (au y0) (ieq x0.phase 3)) (some 0) (af (II x0.qty x0.newQty) fun y1=>some (wr .i64 (aI y1 x0.filled)))
def Ee:aF:=mkSpec [.val .order] [.int .i64] true (fun x=>sG x)
theorem O9:bW PG 206 Ee:=okN [(69,jd),(228,JF)] [] ⟨lS,Yb,trivial⟩ fun x=>by kernel_rfl
def jX (x0:bF) (x1:aB):Option (bF×Int):=af (iY x0) fun y0=>af (cnd (au (au y0)) (iJ x1) (some false)) fun y1=>cnd (bor (au y0) (au y1)) (some (x0,1)) (af (yJ x1) fun y2=>cnd (ieq x1.side 2) (af (sG x1) fun y3=>af (oM x0.sell y3) fun y4=>af (oM x0.opn y2.1) fun y5=>af (cnd (au (bor (bor (au (ieq y2.2 0)) (au (ieq y4.2 0))) (au (ieq y5.2 0)))) (iY (bF.mk x0.pos x0.buy y4.1 y5.1)) (some false)) fun y6=>cnd (bor (bor (bor (au (ieq y2.2 0)) (au (ieq y4.2 0))) (au (ieq y5.2 0))) (au y6)) (some (x0,3)) (some (bF.mk x0.pos x0.buy y4.1 y5.1,0))) (af (sG x1) fun y7=>af (oM x0.buy y7) fun y8=>af (oM x0.opn y2.1) fun y9=>af (cnd (au (bor (bor (au (ieq y2.2 0)) (au (ieq y8.2 0))) (au (ieq y9.2 0)))) (iY (bF.mk x0.pos y8.1 x0.sell y9.1)) (some false)) fun y10=>cnd (bor (bor (bor (au (ieq y2.2 0)) (au (ieq y8.2 0))) (au (ieq y9.2 0))) (au y10)) (some (x0,3)) (some (bF.mk x0.pos y8.1 x0.sell y9.1,0))))
def Fg:aF:=mkSpec [.val .cell,.val .order] [.val .cell,.int .i64] true (fun x=>jX x.1 x.2)
theorem Rf:bW PG 127 Fg:=okN [(108,qh),(69,jd),(205,CO),(206,Ee),(74,sK)] [176] ⟨yD,lS,Nu,O9,BN,trivial⟩ fun x=>by kernel_rfl
def kS (p0:Int) (p1:(List aB)) (p2:ay) (v0:Int) (v1:Bool) (v2:(List bF)) (v3:(List bF)):Option ((Int×Bool×(List bF)×(List bF)) ⊕ ((Bool×(List bF)×(List bF)) ⊕ ((Bool×(List bF)×(List bF))))):=cnd (ilt v0 p0) (cnd (band (ile 0 v0) (ilt v0 (len p1))) (af (bG p2 (aj p1 (itn v0)).account (aj p1 (itn v0)).symbol) fun y0=>cnd (band (ile 0 y0) (ilt y0 (len v3))) (af (jX (aj v3 (itn y0)) (aj p1 (itn v0))) fun y1=>cnd (au (ieq y1.2 0)) (some (Sum.inr (Sum.inl (false,[],v3)))) (cnd (band (ile 0 y0) (ilt y0 (len v3))) (some (Sum.inl (wr .i64 (ax v0 1),v1,v2,bT v3 (itn y0) y1.1))) none)) none) none) (some (Sum.inr (Sum.inr (v1,v2,v3))))
def Iq:dX:=LSh.spec ⟨79,[(18,.int .i64),(17,.ro .order)],[(4,.mf 64),(1,.mp 8 0)],[(8,[.val .state])],[(19,.int .i64),(3,.bool),(2,.buf .cell)],[],[(64,.cell)]⟩ [⟨.ret,[(3,.bool),(2,.buf .cell)],[],[(64,.cell)]⟩,⟨.exit 0,[(3,.bool),(2,.buf .cell)],[],[(64,.cell)]⟩] (sP [(2,2),(6,4),(19,26)]) (fun p v=>kS p.1 p.2.1 p.2.2 v.1 v.2.1 v.2.2.1 v.2.2.2)
def qE (x0:ay):Option ((List bF)×Bool):=cnd (band (band (ile 0 (len x0.cells)) (ile (len x0.cells) (len x0.cells))) (ile (len x0.cells) 68719476736)) (af (bV (fun v=>kS (len x0.orders) x0.orders x0 v.1 v.2.1 v.2.2.1 v.2.2.2) LF (0,false,[],nN bF (itn (len x0.cells)))) fun y0=>gX y0 (fun y1=>some (y1.2.1,y1.1)) fun y1=>some (y1.2.2,true)) none
def zy:aF:=mkSpec [.val .state] [.buf .cell,.bool] true (fun x=>qE x)
theorem Lr:bW PG 107 zy:=okP [(126,nJ),(127,Fg)] [] [(107,58,Iq)] ⟨uw,Rf,trivial⟩ (fun K=>⟨kL K fun p v=>by kernel_rfl,trivial⟩) fun x=>by kernel_rfl
def ku (x0:ay) (x1:Int):Option ((List bF)):=cnd (band (band (ile 0 (wr .i64 (fK x1 x0.symbols))) (ile (wr .i64 (fK x1 x0.symbols)) (wr .i64 (fK (wr .i64 (ax x1 1)) x0.symbols)))) (ile (wr .i64 (fK (wr .i64 (ax x1 1)) x0.symbols)) (len x0.cells))) (some (aG (aV x0.cells (itn (wr .i64 (fK x1 x0.symbols)))) (itn (aI (wr .i64 (fK (wr .i64 (ax x1 1)) x0.symbols)) (wr .i64 (fK x1 x0.symbols)))))) none
def qU:aF:=mkSpec [.val .state,.int .i64] [.ro .cell] false (fun x=>ku x.1 x.2)
theorem Ai:bW PG 110 qU:=okN [] [] trivial fun x=>by kernel_rfl
def vX (p0:Int) (p1:(List Int)) (v0:Int) (v1:Int) (v2:Int) (v3:Int):Option ((Int×Int×Int×Int) ⊕ ((Int×Int) ⊕ ((Int×Int×Int)))):=cnd (ilt v0 p0) (cnd (band (ile 0 v0) (ilt v0 (len p1))) (af (oM v1 (aj p1 (itn v0))) fun y0=>cnd (au (ieq y0.2 0)) (some (Sum.inr (Sum.inl (y0.2,0)))) (some (Sum.inl (wr .i64 (ax v0 1),y0.1,v2,v3)))) none) (some (Sum.inr (Sum.inr (v1,v2,v3))))
def VL:dX:=LSh.spec ⟨71,[(10,.int .i64),(9,.ro .i64)],[],[],[(11,.int .i64),(4,.int .i64),(3,.int .i64),(2,.int .i64)],[],[]⟩ [⟨.ret,[(3,.int .i64),(2,.int .i64)],[],[]⟩,⟨.exit 0,[(4,.int .i64),(3,.int .i64),(2,.int .i64)],[],[]⟩] (sP [(2,3),(6,3),(11,15)]) (fun p v=>vX p.1 p.2 v.1 v.2.1 v.2.2.1 v.2.2.2)
def GU (x0:(List Int)):Option (Int×Int):=af (bV (fun v=>vX (len x0) x0 v.1 v.2.1 v.2.2.1 v.2.2.2) LF (0,0,0,0)) fun y0=>gX y0 (fun y1=>some (y1.2,y1.1)) fun y1=>some (y1.1,0)
def MH:aF:=mkSpec [.ro .i64] [.int .i64,.int .i64] true (fun x=>GU x)
theorem ab6:bW PG 173 MH:=okP [(74,sK)] [] [(173,58,VL)] ⟨BN,trivial⟩ (fun K=>⟨kL K fun p v=>by kernel_rfl,trivial⟩) fun x=>by kernel_rfl
def rD (p0:Int) (p1:(List bF)) (v0:Int) (v1:(List Int)):Option ((Int×(List Int)) ⊕ (((List Int)))):=cnd (ilt v0 p0) (cnd (band (ile 0 v0) (ilt v0 (len p1))) (cnd (ile (len (cu v1 [(aj p1 (itn v0)).opn])) 68719476736) (some (Sum.inl (wr .i64 (ax v0 1),cu v1 [(aj p1 (itn v0)).opn]))) none) none) (some (Sum.inr v1))
def RY:dX:=LSh.spec ⟨71,[(8,.int .i64),(7,.ro .cell)],[],[],[(9,.int .i64),(4,.buf .i64)],[],[]⟩ [⟨.exit 0,[(4,.buf .i64)],[],[]⟩] (sP [(4,1),(6,1),(9,10)]) (fun p v=>rD p.1 p.2 v.1 v.2)
def uo (x0:(List bF)):Option (Int×Int):=af (bV (fun v=>rD (len x0) x0 v.1 v.2) LF (0,[])) fun y0=>af (GU y0) fun y1=>some y1
def CP:aF:=mkSpec [.ro .cell] [.int .i64,.int .i64] true (fun x=>uo x)
theorem MR:bW PG 109 CP:=okP [(173,MH)] [] [(109,58,RY)] ⟨ab6,trivial⟩ (fun K=>⟨kL K fun p v=>by kernel_rfl,trivial⟩) fun x=>by kernel_rfl
def kW (p0:Int) (p1:(List bF)) (v0:Int) (v1:Bool) (v2:(List bF)):Option ((Int×Bool×(List bF)) ⊕ ((Bool×(List bF)) ⊕ ((Bool×(List bF))))):=cnd (ilt v0 p0) (cnd (band (ile 0 v0) (ilt v0 (len p1))) (cnd (band (ile 0 v0) (ilt v0 (len v2))) (af (iY (aj p1 (itn v0))) fun y0=>cnd (bor (band (ile 0 v0) (ilt v0 (len (bT v2 (itn v0) (bF.mk (aj p1 (itn v0)).pos (aj v2 (itn v0)).buy (aj v2 (itn v0)).sell (aj v2 (itn v0)).opn))))) (au (au (au y0)))) (cnd (bor (au y0) (au (band (ieq (aj (bT v2 (itn v0) (bF.mk (aj p1 (itn v0)).pos (aj v2 (itn v0)).buy (aj v2 (itn v0)).sell (aj v2 (itn v0)).opn)) (itn v0)).pos (aj p1 (itn v0)).pos) (band (ieq (aj (bT v2 (itn v0) (bF.mk (aj p1 (itn v0)).pos (aj v2 (itn v0)).buy (aj v2 (itn v0)).sell (aj v2 (itn v0)).opn)) (itn v0)).buy (aj p1 (itn v0)).buy) (band (ieq (aj (bT v2 (itn v0) (bF.mk (aj p1 (itn v0)).pos (aj v2 (itn v0)).buy (aj v2 (itn v0)).sell (aj v2 (itn v0)).opn)) (itn v0)).sell (aj p1 (itn v0)).sell) (ieq (aj (bT v2 (itn v0) (bF.mk (aj p1 (itn v0)).pos (aj v2 (itn v0)).buy (aj v2 (itn v0)).sell (aj v2 (itn v0)).opn)) (itn v0)).opn (aj p1 (itn v0)).opn)))))) (some (Sum.inr (Sum.inl (false,bT v2 (itn v0) (bF.mk (aj p1 (itn v0)).pos (aj v2 (itn v0)).buy (aj v2 (itn v0)).sell (aj v2 (itn v0)).opn))))) (some (Sum.inl (wr .i64 (ax v0 1),v1,bT v2 (itn v0) (bF.mk (aj p1 (itn v0)).pos (aj v2 (itn v0)).buy (aj v2 (itn v0)).sell (aj v2 (itn v0)).opn))))) none) none) none) (some (Sum.inr (Sum.inr (v1,v2))))
def HY:dX:=LSh.spec ⟨89,[(28,.int .i64),(27,.ro .cell)],[(3,.mf 96)],[],[(29,.int .i64),(2,.bool)],[],[(96,.cell)]⟩ [⟨.ret,[(2,.bool)],[],[(96,.cell)]⟩,⟨.exit 0,[(2,.bool)],[],[(96,.cell)]⟩] (sP [(2,1),(5,2),(29,23)]) (fun p v=>kW p.1 p.2 v.1 v.2.1 v.2.2)
def kQ (p0:Int) (p1:ay) (v0:Int) (v1:Bool):Option ((Int×Bool) ⊕ ((Bool) ⊕ ((Bool)))):=cnd (ilt v0 p0) (af (ku p1 v0) fun y0=>af (uo y0) fun y1=>cnd (au (ieq y1.2 0)) (some (Sum.inr (Sum.inl false))) (some (Sum.inl (wr .i64 (ax v0 1),v1)))) (some (Sum.inr (Sum.inr v1)))
def Hw:dX:=LSh.spec ⟨162,[(54,.int .i64)],[(1,.mp 8 0)],[(8,[.val .state])],[(55,.int .i64),(2,.bool)],[],[]⟩ [⟨.ret,[(2,.bool)],[],[]⟩,⟨.exit 2,[(2,.bool)],[],[]⟩] (sP [(2,1),(7,3),(55,13)]) (fun p v=>kQ p.1 p.2 v.1 v.2)
def xO (x0:ay):Option (Bool):=af (ru x0) fun y0=>af (cnd (au (au y0)) (rZ x0) (some false)) fun y1=>cnd (bor (au y0) (au y1)) (some false) (af (qE x0) fun y2=>cnd (au y2.2) (some false) (af (bV (fun v=>kW (len x0.cells) x0.cells v.1 v.2.1 v.2.2) LF (0,false,y2.1)) fun y3=>gX y3 (fun y4=>some y4.1) fun y4=>af (bV (fun v=>kQ x0.accounts x0 v.1 v.2) LF (0,y4.1)) fun y5=>gX y5 (fun y6=>some y6) fun y6=>some true))
def AO:aF:=mkSpec [.val .state] [.bool] true (fun x=>xO x)
theorem Ny:bW PG 54 AO:=okP [(105,zN),(106,Bh),(107,zy),(108,qh),(110,qU),(109,CP)] [] [(54,250,HY),(54,506,Hw)] ⟨LU,O1,Lr,yD,Ai,MR,trivial⟩ (fun K=>⟨kL K fun p v=>by kernel_rfl,kL K fun p v=>by kernel_rfl,trivial⟩) fun x=>by kernel_rfl
def oC (x0:ay):Option (Bool):=af (xO x0) fun y0=>some y0
def qj:aF:=mkSpec [.val .state] [.bool] true (fun x=>oC x)
theorem xR:bW PG 24 qj:=okN [(54,AO)] [] ⟨Ny,trivial⟩ fun x=>by kernel_rfl
def Qh (x0:Int) (x1:Int) (x2:jK) (x3:Int):Option (ay×Int):=cnd (bor (bor (bor (ilt x0 1) (ilt 8 x0)) (ilt x1 1)) (ilt 8 x1)) (some (ay.mk 0 0 [] [] [] [] false 0 0 0,1)) (cnd (band (band (ile 0 (wr .i64 (fK x0 x1))) (ile (wr .i64 (fK x0 x1)) (wr .i64 (fK x0 x1)))) (ile (wr .i64 (fK x0 x1)) 68719476736)) (af (yA [x2] (wr .i64 (fK x0 x1))) fun y0=>af (Bj [x3] x0) fun y1=>af (oC (ay.mk x0 x1 [] (nN bF (itn (wr .i64 (fK x0 x1)))) y0 y1 false 0 0 0)) fun y2=>cnd (au y2) (some (ay.mk 0 0 [] [] [] [] false 0 0 0,1)) (some (ay.mk x0 x1 [] (nN bF (itn (wr .i64 (fK x0 x1)))) y0 y1 false 0 0 0,0))) none)
def PO:aF:=mkSpec [.int .i64,.int .i64,.val .expo,.int .i64] [.val .state,.int .i64] false (fun x=>Qh x.1 x.2.1 x.2.2.1 x.2.2.2)
theorem acJ:bW PG 20 PO:=okN [(51,uU),(52,xX),(24,qj)] [] ⟨Gv,Kv,xR,trivial⟩ fun x=>by kernel_rfl
def iD (x0:dQ):Option (iq):=some (iq.mk 6 x0.order 0 0 0 x0.qty x0.price 0 0 0 false x0.seq x0.what)
def qf:aF:=mkSpec [.val .note] [.val .recd] true (fun x=>iD x)
theorem xU:bW PG 28 qf:=okN [] [] trivial fun x=>by kernel_rfl
def lg (x0:jQ):Option (Bool):=cnd (bor (bor (bor (bor (bor (ilt x0.order 1) (ilt 1000000000000 x0.order)) (ilt x0.account 0)) (ile 8 x0.account)) (ilt x0.symbol 0)) (ile 8 x0.symbol)) (some false) (cnd (bor (bor (band (au (ieq x0.side 1)) (au (ieq x0.side 2))) (ilt x0.lsn 0)) (ilt 1000000000 x0.lsn)) (some false) (cnd (ieq x0.kind 1) (some (band (band (ile 1 x0.qty) (ile 1 x0.price)) (ieq x0.version 0))) (cnd (ieq x0.kind 2) (some (band (band (ile 1 x0.qty) (ile 1 x0.price)) (ile 1 x0.version))) (cnd (ieq x0.kind 3) (some (band (band (ieq x0.qty 0) (ieq x0.price 0)) (ieq x0.version 0))) (some false)))))
def xP:aF:=mkSpec [.val .msg] [.bool] true (fun x=>lg x)
theorem Gz:bW PG 63 xP:=okN [] [] trivial fun x=>by kernel_rfl
def qG (p0:Int) (p1:(List jQ)) (p2:Int) (v0:Int) (v1:Bool) (v2:Int):Option ((Int×Bool×Int) ⊕ ((Bool) ⊕ ((Bool)))):=cnd (ilt v0 p0) (cnd (band (ile 0 v0) (ilt v0 (len p1))) (af (lg (aj p1 (itn v0))) fun y0=>cnd (bor (bor (au y0) (ile (aj p1 (itn v0)).lsn v2)) (ilt p2 (aj p1 (itn v0)).lsn)) (some (Sum.inr (Sum.inl false))) (some (Sum.inl (wr .i64 (ax v0 1),v1,(aj p1 (itn v0)).lsn)))) none) (some (Sum.inr (Sum.inr v1)))
def QN:dX:=LSh.spec ⟨71,[(10,.int .i64),(9,.ro .msg),(2,.int .i64)],[],[],[(11,.int .i64),(6,.bool),(1,.int .i64)],[],[]⟩ [⟨.ret,[(6,.bool)],[],[]⟩,⟨.exit 0,[(6,.bool)],[],[]⟩] (sP [(1,1),(6,1),(8,1),(11,22)]) (fun p v=>qG p.1 p.2.1 p.2.2 v.1 v.2.1 v.2.2)
def wP (x0:(List jQ)) (x1:Int) (x2:Int):Option (Bool):=af (bV (fun v=>qG (len x0) x0 x2 v.1 v.2.1 v.2.2) LF (0,false,x1)) fun y0=>gX y0 (fun y1=>some y1) fun y1=>some true
def Aw:aF:=mkSpec [.ro .msg,.int .i64,.int .i64] [.bool] true (fun x=>wP x.1 x.2.1 x.2.2)
theorem KU:bW PG 29 Aw:=okP [(63,xP)] [] [(29,26,QN)] ⟨Gz,trivial⟩ (fun K=>⟨kL K fun p v=>by kernel_rfl,trivial⟩) fun x=>by kernel_rfl
def rP (p0:Int) (p1:(List dQ)) (p2:Int) (v0:Int) (v1:Int) (v2:Bool):Option ((Int×Int×Bool) ⊕ ((Bool) ⊕ ((Bool)))):=cnd (ilt v0 p0) (cnd (band (ile 0 v0) (ilt v0 (len p1))) (cnd (bor (ile (aj p1 (itn v0)).seq v1) (ilt (wr .i64 (ax p2 8)) (aj p1 (itn v0)).seq)) (some (Sum.inr (Sum.inl false))) (some (Sum.inl (wr .i64 (ax v0 1),(aj p1 (itn v0)).seq,v2)))) none) (some (Sum.inr (Sum.inr v2)))
def Rz:dX:=LSh.spec ⟨86,[(23,.int .i64),(22,.ro .note),(1,.int .i64)],[],[],[(24,.int .i64),(5,.int .i64),(4,.bool)],[],[]⟩ [⟨.ret,[(4,.bool)],[],[]⟩,⟨.exit 0,[(4,.bool)],[],[]⟩] (sP [(4,2),(7,1),(24,18)]) (fun p v=>rP p.1 p.2.1 p.2.2 v.1 v.2.1 v.2.2)
def tu (x0:gJ) (x1:Int):Option (Bool):=cnd (bor (bor (ilt x1 1) (ilt 1000000001 x1)) (ilt 8 (len x0.held))) (some false) (af (bV (fun v=>rP (len x0.held) x0.held x1 v.1 v.2.1 v.2.2) LF (0,x1,false)) fun y0=>gX y0 (fun y1=>some y1) fun y1=>some true)
def yP:aF:=mkSpec [.val .feed,.int .i64] [.bool] true (fun x=>tu x.1 x.2)
theorem Hy:bW PG 30 yP:=okP [] [] [(30,122,Rz)] trivial (fun K=>⟨kL K fun p v=>by kernel_rfl,trivial⟩) fun x=>by kernel_rfl
def rF (p0:Int) (p1:(List dQ)) (v0:Int) (v1:Bool):Option ((Int×Bool) ⊕ ((Bool) ⊕ ((Bool)))):=cnd (ilt v0 p0) (cnd (band (ile 0 v0) (ilt v0 (len p1))) (af (iD (aj p1 (itn v0))) fun y0=>af (jY y0) fun y1=>cnd (au y1) (some (Sum.inr (Sum.inl false))) (some (Sum.inl (wr .i64 (ax v0 1),v1)))) none) (some (Sum.inr (Sum.inr v1)))
def SY:dX:=LSh.spec ⟨72,[(8,.int .i64),(7,.ro .note)],[],[],[(9,.int .i64),(2,.bool)],[],[]⟩ [⟨.ret,[(2,.bool)],[],[]⟩,⟨.exit 0,[(2,.bool)],[],[]⟩] (sP [(2,1),(4,1),(9,9)]) (fun p v=>rF p.1 p.2 v.1 v.2)
def jI (x0:bH):Option (Bool):=af (bV (fun v=>rF (len x0.feed.held) x0.feed.held v.1 v.2) LF (0,false)) fun y0=>gX y0 (fun y1=>some y1) fun y1=>af (oC x0.state) fun y2=>af (cnd y2 (wP x0.outbox 0 x0.state.lsn) (some false)) fun y3=>af (cnd (band y2 y3) (tu x0.feed (wr .i64 (ax x0.state.seq 1))) (some false)) fun y4=>some (band (band y2 y3) y4)
def oQ:aF:=mkSpec [.val .plain] [.bool] true (fun x=>jI x)
theorem wF:bW PG 8 oQ:=okP [(28,qf),(27,kG),(24,qj),(29,Aw),(30,yP)] [] [(8,26,SY)] ⟨xU,ou,xR,KU,Hy,trivial⟩ (fun K=>⟨kL K fun p v=>by kernel_rfl,trivial⟩) fun x=>by kernel_rfl
def mM (p0:Int) (p1:(List Int)) (p2:Int) (v0:Int) (v1:Int):Option ((Int×Int) ⊕ ((Int) ⊕ ((Int)))):=cnd (ilt v0 p0) (cnd (band (ile 0 v0) (ilt v0 (len p1))) (cnd (ieq p2 (aj p1 (itn v0))) (some (Sum.inr (Sum.inl v0))) (some (Sum.inl (wr .i64 (ax v0 1),v1)))) none) (some (Sum.inr (Sum.inr v1)))
def KC:dX:=LSh.spec ⟨70,[(7,.int .i64),(0,.ro .i64),(1,.int .i64)],[],[],[(8,.int .i64),(4,.int .i64)],[],[]⟩ [⟨.ret,[(4,.int .i64)],[],[]⟩,⟨.exit 0,[(4,.int .i64)],[],[]⟩] (sP [(4,2),(8,11)]) (fun p v=>mM p.1 p.2.1 p.2.2 v.1 v.2)
def yY (x0:(List Int)) (x1:Int):Option (Int):=af (bV (fun v=>mM (len x0) x0 x1 v.1 v.2) LF (0,0)) fun y0=>gX y0 (fun y1=>some y1) fun y1=>some (-1)
def Bv:aF:=mkSpec [.ro .i64,.int .i64] [.int .i64] true (fun x=>yY x.1 x.2)
theorem OJ:bW PG 116 Bv:=okP [] [] [(116,26,KC)] trivial (fun K=>⟨kL K fun p v=>by kernel_rfl,trivial⟩) fun x=>by kernel_rfl
def mF (x0:(List Int)) (x1:Int):Option (Bool):=af (yY x0 x1) fun y0=>some (ile 0 y0)
def yj:aF:=mkSpec [.ro .i64,.int .i64] [.bool] true (fun x=>mF x.1 x.2)
theorem JS:bW PG 70 yj:=okN [(116,Bv)] [] ⟨OJ,trivial⟩ fun x=>by kernel_rfl
def fC (x0:(List aB)):Option ((List aB)):=NU (len x0) fun y0=>cnd (beq y0 true) (some []) (cnd (ile (len x0) 68719476736) (some x0) none)
def uX:aF:=mkSpec [.ro .order] [.buf .order] true (fun x=>fC x)
theorem Gs:bW PG 121 uX:=okN [] [] trivial fun x=>by kernel_rfl
def fG (x0:(List bF)):Option ((List bF)):=NU (len x0) fun y0=>cnd (beq y0 true) (some []) (cnd (ile (len x0) 68719476736) (some x0) none)
def wG:aF:=mkSpec [.ro .cell] [.buf .cell] true (fun x=>fG x)
theorem Hz:bW PG 122 wG:=okN [] [] trivial fun x=>by kernel_rfl
def fE (x0:(List jK)):Option ((List jK)):=NU (len x0) fun y0=>cnd (beq y0 true) (some []) (cnd (ile (len x0) 68719476736) (some x0) none)
def wu:aF:=mkSpec [.ro .expo] [.buf .expo] true (fun x=>fE x)
theorem Ii:bW PG 123 wu:=okN [] [] trivial fun x=>by kernel_rfl
def iy (x0:(List Int)):Option ((List Int)):=NU (len x0) fun y0=>cnd (beq y0 true) (some []) (cnd (ile (len x0) 68719476736) (some x0) none)
def zq:aF:=mkSpec [.ro .i64] [.buf .i64] true (fun x=>iy x)
theorem Lc:bW PG 124 zq:=okN [] [] trivial fun x=>by kernel_rfl
def yu (x0:iq):Option (aB×Int):=af (cnd (au (au (ieq x0.kind 1))) (jY x0) (some false)) fun y0=>cnd (bor (au (ieq x0.kind 1)) (au y0)) (some (aB.mk 0 0 0 0 0 0 0 0 0 0 0 false,1)) (some (aB.mk x0.order x0.account x0.symbol x0.side x0.qty x0.price 0 1 0 0 0 false,0))
def Jc:aF:=mkSpec [.val .recd] [.val .order,.int .i64] true (fun x=>yu x)
theorem Yl:bW PG 125 Jc:=okN [(27,kG)] [] ⟨ou,trivial⟩ fun x=>by kernel_rfl
def IY (x0:bF):Option (jK×Int):=af (iY x0) fun y0=>cnd (au y0) (some (jK.mk 0 0 0,1)) (af (Dz x0) fun y1=>some (y1.1,0))
def TG:aF:=mkSpec [.val .cell] [.val .expo,.int .i64] true (fun x=>IY x)
theorem ae2:bW PG 177 TG:=okN [(108,qh),(172,FO)] [] ⟨yD,TM,trivial⟩ fun x=>by kernel_rfl
def yw (x0:jK):Option (SA3):=some (SA3.mk x0.long x0.short x0.opn)
def IK:aF:=mkSpec [.val .expo] [.val .a3] true (fun x=>yw x)
theorem Ya:bW PG 207 IK:=okN [] [] trivial fun x=>by kernel_rfl
def kM (x0:Int) (x1:Int) (x2:Int):Option (Bool):=some (ilt (imax x0 x2) x1)
def uD:aF:=mkSpec [.int .i64,.int .i64,.int .i64] [.bool] true (fun x=>kM x.1 x.2.1 x.2.2)
theorem Ei:bW PG 179 uD:=okN [] [] trivial fun x=>by kernel_rfl
def yN (x0:jK) (x1:jK) (x2:jK):Option (Bool):=af (yw x0) fun y0=>af (yw x1) fun y1=>af (yw x2) fun y2=>af (kM y0.a0 y1.a0 y2.a0) fun y3=>cnd y3 (some true) (af (kM y0.a1 y1.a1 y2.a1) fun y4=>cnd y4 (some true) (af (kM y0.a2 y1.a2 y2.a2) fun y5=>cnd y5 (some true) (some false)))
def Fh:aF:=mkSpec [.val .expo,.val .expo,.val .expo] [.bool] true (fun x=>yN x.1 x.2.1 x.2.2)
theorem UI:bW PG 178 Fh:=okN [(207,IK),(179,uD)] [] ⟨Ya,Ei,trivial⟩ fun x=>by kernel_rfl
def dU (x0:ay) (x1:ay) (x2:Int) (x3:Int):Option (Int):=af (bG x0 x2 x3) fun y0=>af (ku x0 x2) fun y1=>af (uo y1) fun y2=>cnd (au (ieq y2.2 0)) (some 3) (af (ku x1 x2) fun y3=>af (uo y3) fun y4=>cnd (band (ile 0 y0) (ilt y0 (len x1.cells))) (af (IY (aj x1.cells (itn y0))) fun y5=>cnd (band (ile 0 y0) (ilt y0 (len x0.cells))) (af (IY (aj x0.cells (itn y0))) fun y6=>cnd (band (ile 0 y0) (ilt y0 (len x0.limits))) (af (yN y5.1 y6.1 (aj x0.limits (itn y0))) fun y7=>cnd (bor (band (ile 0 x2) (ilt x2 (len x0.caps))) (au (au y7))) (af (cnd (au y7) (kM y4.1 y2.1 (aj x0.caps (itn x2))) (some false)) fun y8=>cnd (bor y7 y8) (some 4) (some 0)) none) none) none) none)
def AX:aF:=mkSpec [.val .state,.val .state,.int .i64,.int .i64] [.int .i64] true (fun x=>dU x.1 x.2.1 x.2.2.1 x.2.2.2)
theorem LV:bW PG 128 AX:=okN [(126,nJ),(110,qU),(109,CP),(177,TG),(178,Fh),(179,uD)] [] ⟨uw,Ai,MR,ae2,UI,Ei,trivial⟩ fun x=>by kernel_rfl
def dS (p0:Int) (p1:(List aB)) (p2:Int) (v0:Int) (v1:Int):Option ((Int×Int) ⊕ ((Int) ⊕ ((Int)))):=cnd (ilt v0 p0) (cnd (band (ile 0 v0) (ilt v0 (len p1))) (cnd (ieq (aj p1 (itn v0)).id p2) (some (Sum.inr (Sum.inl v0))) (some (Sum.inl (wr .i64 (ax v0 1),v1)))) none) (some (Sum.inr (Sum.inr v1)))
def qR:dX:=LSh.spec ⟨78,[(7,.int .i64),(0,.ro .order)],[(1,.fn 68 [.mp 24 0])],[(24,[.int .i64])],[(8,.int .i64),(4,.int .i64)],[],[]⟩ [⟨.ret,[(4,.int .i64)],[],[]⟩,⟨.exit 0,[(4,.int .i64)],[],[]⟩] (sP [(4,2),(8,11)]) (fun p v=>dS p.1 p.2.1 p.2.2 v.1 v.2)
def lZ (x0:ay) (x1:Int):Option (Int):=af (bV (fun v=>dS (len x0.orders) x0.orders x1 v.1 v.2) LF (0,0)) fun y0=>gX y0 (fun y1=>some y1) fun y1=>some (-1)
def zQ:aF:=mkSpec [.val .state,.int .i64] [.int .i64] true (fun x=>lZ x.1 x.2)
theorem JB:bW PG 38 zQ:=okP [] [68,67] [(163208798275,26,qR)] trivial (fun K=>⟨kL K fun p v=>by kernel_rfl,trivial⟩) fun x=>by kernel_rfl
def vS (x0:aB) (x1:Int) (x2:Int):Option (aB×Int):=af (oM x0.version 1) fun y0=>af (iJ x0) fun y1=>cnd (au y1) (cnd (au y1) (some (x0,1)) (cnd (au (ieq x0.phase 2)) (cnd (au (ieq x0.phase 2)) (some (x0,8)) (some (aB.mk x0.id x0.account x0.symbol x0.side x0.qty x0.price x0.filled x0.phase x1 x2 (wr .i64 (ax x0.version 1)) x0.asked,0))) (af (ja x0) fun y2=>cnd y2 (cnd y2 (some (x0,8)) (some (aB.mk x0.id x0.account x0.symbol x0.side x0.qty x0.price x0.filled x0.phase x1 x2 (wr .i64 (ax x0.version 1)) x0.asked,0))) (cnd x0.asked (some (x0,8)) (some (aB.mk x0.id x0.account x0.symbol x0.side x0.qty x0.price x0.filled x0.phase x1 x2 (wr .i64 (ax x0.version 1)) x0.asked,0)))))) (cnd (ilt x1 1) (cnd (ilt x1 1) (some (x0,1)) (cnd (au (ieq x0.phase 2)) (cnd (au (ieq x0.phase 2)) (some (x0,8)) (some (aB.mk x0.id x0.account x0.symbol x0.side x0.qty x0.price x0.filled x0.phase x1 x2 (wr .i64 (ax x0.version 1)) x0.asked,0))) (af (ja x0) fun y3=>cnd y3 (cnd y3 (some (x0,8)) (some (aB.mk x0.id x0.account x0.symbol x0.side x0.qty x0.price x0.filled x0.phase x1 x2 (wr .i64 (ax x0.version 1)) x0.asked,0))) (cnd x0.asked (some (x0,8)) (some (aB.mk x0.id x0.account x0.symbol x0.side x0.qty x0.price x0.filled x0.phase x1 x2 (wr .i64 (ax x0.version 1)) x0.asked,0)))))) (cnd (ilt x2 1) (cnd (ilt x2 1) (some (x0,1)) (cnd (au (ieq x0.phase 2)) (cnd (au (ieq x0.phase 2)) (some (x0,8)) (some (aB.mk x0.id x0.account x0.symbol x0.side x0.qty x0.price x0.filled x0.phase x1 x2 (wr .i64 (ax x0.version 1)) x0.asked,0))) (af (ja x0) fun y4=>cnd y4 (cnd y4 (some (x0,8)) (some (aB.mk x0.id x0.account x0.symbol x0.side x0.qty x0.price x0.filled x0.phase x1 x2 (wr .i64 (ax x0.version 1)) x0.asked,0))) (cnd x0.asked (some (x0,8)) (some (aB.mk x0.id x0.account x0.symbol x0.side x0.qty x0.price x0.filled x0.phase x1 x2 (wr .i64 (ax x0.version 1)) x0.asked,0)))))) (cnd (au (ieq y0.2 0)) (some (x0,1)) (cnd (au (ieq x0.phase 2)) (cnd (au (ieq x0.phase 2)) (some (x0,8)) (some (aB.mk x0.id x0.account x0.symbol x0.side x0.qty x0.price x0.filled x0.phase x1 x2 (wr .i64 (ax x0.version 1)) x0.asked,0))) (af (ja x0) fun y5=>cnd y5 (cnd y5 (some (x0,8)) (some (aB.mk x0.id x0.account x0.symbol x0.side x0.qty x0.price x0.filled x0.phase x1 x2 (wr .i64 (ax x0.version 1)) x0.asked,0))) (cnd x0.asked (some (x0,8)) (some (aB.mk x0.id x0.account x0.symbol x0.side x0.qty x0.price x0.filled x0.phase x1 x2 (wr .i64 (ax x0.version 1)) x0.asked,0))))))))
def G9:aF:=mkSpec [.val .order,.int .i64,.int .i64] [.val .order,.int .i64] true (fun x=>vS x.1 x.2.1 x.2.2)
theorem VP:bW PG 129 G9:=okN [(74,sK),(69,jd),(114,rX)] [] ⟨BN,lS,CG,trivial⟩ fun x=>by kernel_rfl
def BD (x0:bF) (x1:aB):Option (bF×Int):=af (iY x0) fun y0=>af (cnd (au (au y0)) (iJ x1) (some false)) fun y1=>cnd (bor (au y0) (au y1)) (some (x0,1)) (af (yJ x1) fun y2=>cnd (ieq x1.side 2) (af (sG x1) fun y3=>af (xE x0.sell y3) fun y4=>af (xE x0.opn y2.1) fun y5=>af (cnd (au (bor (bor (au (ieq y2.2 0)) (au (ieq y4.2 0))) (au (ieq y5.2 0)))) (iY (bF.mk x0.pos x0.buy y4.1 y5.1)) (some false)) fun y6=>cnd (bor (bor (bor (au (ieq y2.2 0)) (au (ieq y4.2 0))) (au (ieq y5.2 0))) (au y6)) (some (x0,3)) (some (bF.mk x0.pos x0.buy y4.1 y5.1,0))) (af (sG x1) fun y7=>af (xE x0.buy y7) fun y8=>af (xE x0.opn y2.1) fun y9=>af (cnd (au (bor (bor (au (ieq y2.2 0)) (au (ieq y8.2 0))) (au (ieq y9.2 0)))) (iY (bF.mk x0.pos y8.1 x0.sell y9.1)) (some false)) fun y10=>cnd (bor (bor (bor (au (ieq y2.2 0)) (au (ieq y8.2 0))) (au (ieq y9.2 0))) (au y10)) (some (x0,3)) (some (bF.mk x0.pos y8.1 x0.sell y9.1,0))))
def Tt:aF:=mkSpec [.val .cell,.val .order] [.val .cell,.int .i64] true (fun x=>BD x.1 x.2)
theorem ae5:bW PG 130 Tt:=okN [(108,qh),(69,jd),(205,CO),(206,Ee),(180,EC)] [176] ⟨yD,lS,Nu,O9,QG,trivial⟩ fun x=>by kernel_rfl
def Dc (x0:aB):Option (aB×Int):=af (iJ x0) fun y0=>cnd (au y0) (some (x0,1)) (cnd (ieq x0.phase 3) (cnd (ieq x0.phase 3) (some (x0,8)) (some (aB.mk x0.id x0.account x0.symbol x0.side x0.qty x0.price x0.filled x0.phase x0.newQty x0.newPrice x0.version true,0))) (cnd x0.asked (some (x0,8)) (some (aB.mk x0.id x0.account x0.symbol x0.side x0.qty x0.price x0.filled x0.phase x0.newQty x0.newPrice x0.version true,0))))
def MV:aF:=mkSpec [.val .order] [.val .order,.int .i64] true (fun x=>Dc x)
theorem acf:bW PG 131 MV:=okN [(69,jd)] [] ⟨lS,trivial⟩ fun x=>by kernel_rfl
def yU (x0:aB):Option (aB):=some (aB.mk x0.id x0.account x0.symbol x0.side x0.qty x0.price x0.filled x0.phase 0 0 x0.version x0.asked)
def yV:aF:=mkSpec [.val .order] [.val .order] true (fun x=>yU x)
theorem IG:bW PG 209 yV:=okN [] [] trivial fun x=>by kernel_rfl
def Bc (x0:aB):Option (aB):=af (yU (aB.mk x0.id x0.account x0.symbol x0.side x0.qty x0.price x0.filled 3 x0.newQty x0.newPrice x0.version x0.asked)) fun y0=>some y0
def DU:aF:=mkSpec [.val .order] [.val .order] true (fun x=>Bc x)
theorem Pq:bW PG 208 DU:=okN [(209,yV)] [] ⟨IG,trivial⟩ fun x=>by kernel_rfl
def EG (x0:aB) (x1:dQ):Option (aB×Bool):=cnd (ieq x1.what 1) (some (aB.mk x0.id x0.account x0.symbol x0.side x0.qty x0.price x0.filled 2 x0.newQty x0.newPrice x0.version x0.asked,true)) (cnd (ieq x1.what 2) (af (Bc x0) fun y0=>some (y0,true)) (some (x0,false)))
def KW:aF:=mkSpec [.val .order,.val .note] [.val .order,.bool] true (fun x=>EG x.1 x.2)
theorem Zl:bW PG 181 KW:=okN [(208,DU)] [] ⟨Pq,trivial⟩ fun x=>by kernel_rfl
def Eu (x0:aB) (x1:dQ):Option (aB×Bool):=cnd (ieq x1.what 3) (cnd (ilt (wr .i64 (aI x0.qty x0.filled)) x1.qty) (some (x0,false)) (cnd (ilt (wr .i64 (ax x0.filled x1.qty)) x0.qty) (some (aB.mk x0.id x0.account x0.symbol x0.side x0.qty x0.price (wr .i64 (ax x0.filled x1.qty)) x0.phase x0.newQty x0.newPrice x0.version x0.asked,true)) (af (Bc (aB.mk x0.id x0.account x0.symbol x0.side x0.qty x0.price (wr .i64 (ax x0.filled x1.qty)) x0.phase x0.newQty x0.newPrice x0.version x0.asked)) fun y0=>some (y0,true)))) (cnd (ieq x1.what 4) (af (Bc x0) fun y1=>some (y1,true)) (cnd (ieq x1.what 5) (af (ja x0) fun y2=>cnd (bor (bor (bor (au y2) (au (ieq x1.qty x0.newQty))) (au (ieq x1.price x0.newPrice))) (ile x1.qty x0.filled)) (some (x0,false)) (af (yU (aB.mk x0.id x0.account x0.symbol x0.side x1.qty x1.price x0.filled x0.phase x0.newQty x0.newPrice x0.version x0.asked)) fun y3=>some (y3,true))) (cnd (ieq x1.what 6) (af (yU x0) fun y4=>af (ja x0) fun y5=>some (y4,y5)) (some (x0,false)))))
def KT:aF:=mkSpec [.val .order,.val .note] [.val .order,.bool] true (fun x=>Eu x.1 x.2)
theorem Zn:bW PG 182 KT:=okN [(208,DU),(114,rX),(209,yV)] [] ⟨Pq,CG,IG,trivial⟩ fun x=>by kernel_rfl
def zL (x0:aB) (x1:dQ):Option (aB×Int):=af (iJ x0) fun y0=>af (cnd (au (au y0)) (iD x1) (some (iq.mk 0 0 0 0 0 0 0 0 0 0 false 0 0))) fun y1=>af (cnd (au (au y0)) (jY y1) (some false)) fun y2=>cnd (bor (bor (au y0) (au y2)) (au (ieq x1.order x0.id))) (some (x0,1)) (cnd (ieq x0.phase 1) (af (EG x0 x1) fun y3=>cnd (au y3.2) (some (x0,8)) (some (y3.1,0))) (cnd (ieq x0.phase 2) (af (Eu x0 x1) fun y4=>cnd (au y4.2) (some (x0,8)) (some (y4.1,0))) (some (x0,8))))
def KL:aF:=mkSpec [.val .order,.val .note] [.val .order,.int .i64] true (fun x=>zL x.1 x.2)
theorem Y7:bW PG 132 KL:=okN [(69,jd),(28,qf),(27,kG),(181,KW),(182,KT)] [] ⟨lS,xU,ou,Zl,Zn,trivial⟩ fun x=>by kernel_rfl
def Gj (x0:bF) (x1:Int) (x2:Int):Option (bF×Int):=af (iY x0) fun y0=>cnd (bor (bor (au y0) (band (au (ieq x1 1)) (au (ieq x1 2)))) (ilt x2 0)) (some (x0,1)) (cnd (ieq x1 1) (af (oM x0.pos x2) fun y1=>af (cnd (au (au (ieq y1.2 0))) (iY (bF.mk y1.1 x0.buy x0.sell x0.opn)) (some false)) fun y2=>cnd (bor (au (ieq y1.2 0)) (au y2)) (some (x0,3)) (some (bF.mk y1.1 x0.buy x0.sell x0.opn,0))) (af (xE x0.pos x2) fun y3=>af (cnd (au (au (ieq y3.2 0))) (iY (bF.mk y3.1 x0.buy x0.sell x0.opn)) (some false)) fun y4=>cnd (bor (au (ieq y3.2 0)) (au y4)) (some (x0,3)) (some (bF.mk y3.1 x0.buy x0.sell x0.opn,0))))
def PI:aF:=mkSpec [.val .cell,.int .i64,.int .i64] [.val .cell,.int .i64] true (fun x=>Gj x.1 x.2.1 x.2.2)
theorem adP:bW PG 133 PI:=okN [(108,qh),(74,sK),(180,EC)] [] ⟨yD,BN,QG,trivial⟩ fun x=>by kernel_rfl
def gZ (x0:(List aB)) (x1:Int) (x2:Int):Option ((List aB)):=cnd (band (band (band (ile 0 x1) (ile x1 x2)) (ile x2 (len x0))) (band (ile x2 (len x0)) (ile (len x0) (len x0)))) (cnd (ieq x1 x2) (some x0) (cnd (band (ile 0 x1) (ile x1 (len x0))) (cnd (band (ile 0 x2) (ile x2 (len x0))) (cnd (ile (ax (nti (itn x1)) (len (aG (aV x0 (itn x2)) (itn (aI (len x0) x2))))) (len x0)) (cnd (band (band (ile 0 (nti (nad (itn x1) (itn (len (aG (aV x0 (itn x2)) (itn (aI (len x0) x2)))))))) (ile (nti (nad (itn x1) (itn (len (aG (aV x0 (itn x2)) (itn (aI (len x0) x2))))))) (len x0))) (ile (len x0) (aI (len (iO x0 (itn x1) (aG (aV x0 (itn x2)) (itn (aI (len x0) x2))))) 0))) (some (aG (aV (iO (iO x0 (itn x1) (aG (aV x0 (itn x2)) (itn (aI (len x0) x2)))) (nad 0 (itn (nti (nad (itn x1) (itn (len (aG (aV x0 (itn x2)) (itn (aI (len x0) x2))))))))) (nN aB (itn (aI (len x0) (nti (nad (itn x1) (itn (len (aG (aV x0 (itn x2)) (itn (aI (len x0) x2))))))))))) 0) (nad (itn x1) (itn (len (aG (aV x0 (itn x2)) (itn (aI (len x0) x2)))))))) none) none) none) none)) none
def tZ:aF:=mkSpec [.buf .order,.int .i64,.int .i64] [.ro .order] false (fun x=>gZ x.1 x.2.1 x.2.2)
theorem F8:bW PG 134 tZ:=okN [] [] trivial fun x=>by kernel_rfl
def um (x0:ay) (x1:iq):Option (ay×Int):=af (oM x0.lsn 1) fun y0=>af (cnd (au (bor (au (ieq y0.2 0)) (ile 1000000000 x0.lsn))) (jY x1) (some false)) fun y1=>af (cnd (au (bor (bor (au (ieq y0.2 0)) (ile 1000000000 x0.lsn)) (au y1))) (oC x0) (some false)) fun y2=>cnd (bor (bor (bor (au (ieq y0.2 0)) (ile 1000000000 x0.lsn)) (au y1)) (au y2)) (some (x0,1)) (af (fC x0.orders) fun y3=>af (fG x0.cells) fun y4=>af (fE x0.limits) fun y5=>af (iy x0.caps) fun y6=>cnd (ieq x1.kind 1) (af (yu x1) fun y7=>cnd (ile x1.order x0.last) (cnd (ile x1.order x0.last) (some (x0,1)) (cnd x0.kill (some (x0,5)) (cnd (ieq (len y3) 64) (some (x0,6)) (af (fC y3) fun y8=>af (fG y4) fun y9=>af (fE y5) fun y10=>af (iy y6) fun y11=>af (bG (ay.mk x0.accounts x0.symbols y3 y4 y5 y6 x0.kill x0.last x0.seq x0.lsn) y7.1.account y7.1.symbol) fun y12=>cnd (band (ile 0 y12) (ilt y12 (len y4))) (af (jX (aj y4 (itn y12)) y7.1) fun y13=>cnd (au (ieq y13.2 0)) (some (x0,3)) (cnd (ile (len (cu y3 [y7.1])) 68719476736) (af (dU (ay.mk x0.accounts x0.symbols (cu y3 [y7.1]) (bT y4 (itn y12) y13.1) y5 y6 x0.kill y7.1.id x0.seq x0.lsn) (ay.mk x0.accounts x0.symbols y8 y9 y10 y11 x0.kill x0.last x0.seq x0.lsn) y7.1.account y7.1.symbol) fun y14=>cnd (au (ieq y14 0)) (some (x0,y14)) (some (ay.mk x0.accounts x0.symbols (cu y3 [y7.1]) (bT y4 (itn y12) y13.1) y5 y6 x0.kill y7.1.id x0.seq (wr .i64 (ax x0.lsn 1)),0))) none)) none)))) (cnd (ile x0.accounts x1.account) (cnd (ile x0.accounts x1.account) (some (x0,1)) (cnd x0.kill (some (x0,5)) (cnd (ieq (len y3) 64) (some (x0,6)) (af (fC y3) fun y15=>af (fG y4) fun y16=>af (fE y5) fun y17=>af (iy y6) fun y18=>af (bG (ay.mk x0.accounts x0.symbols y3 y4 y5 y6 x0.kill x0.last x0.seq x0.lsn) y7.1.account y7.1.symbol) fun y19=>cnd (band (ile 0 y19) (ilt y19 (len y4))) (af (jX (aj y4 (itn y19)) y7.1) fun y20=>cnd (au (ieq y20.2 0)) (some (x0,3)) (cnd (ile (len (cu y3 [y7.1])) 68719476736) (af (dU (ay.mk x0.accounts x0.symbols (cu y3 [y7.1]) (bT y4 (itn y19) y20.1) y5 y6 x0.kill y7.1.id x0.seq x0.lsn) (ay.mk x0.accounts x0.symbols y15 y16 y17 y18 x0.kill x0.last x0.seq x0.lsn) y7.1.account y7.1.symbol) fun y21=>cnd (au (ieq y21 0)) (some (x0,y21)) (some (ay.mk x0.accounts x0.symbols (cu y3 [y7.1]) (bT y4 (itn y19) y20.1) y5 y6 x0.kill y7.1.id x0.seq (wr .i64 (ax x0.lsn 1)),0))) none)) none)))) (cnd (ile x0.symbols x1.symbol) (some (x0,1)) (cnd x0.kill (some (x0,5)) (cnd (ieq (len y3) 64) (some (x0,6)) (af (fC y3) fun y22=>af (fG y4) fun y23=>af (fE y5) fun y24=>af (iy y6) fun y25=>af (bG (ay.mk x0.accounts x0.symbols y3 y4 y5 y6 x0.kill x0.last x0.seq x0.lsn) y7.1.account y7.1.symbol) fun y26=>cnd (band (ile 0 y26) (ilt y26 (len y4))) (af (jX (aj y4 (itn y26)) y7.1) fun y27=>cnd (au (ieq y27.2 0)) (some (x0,3)) (cnd (ile (len (cu y3 [y7.1])) 68719476736) (af (dU (ay.mk x0.accounts x0.symbols (cu y3 [y7.1]) (bT y4 (itn y26) y27.1) y5 y6 x0.kill y7.1.id x0.seq x0.lsn) (ay.mk x0.accounts x0.symbols y22 y23 y24 y25 x0.kill x0.last x0.seq x0.lsn) y7.1.account y7.1.symbol) fun y28=>cnd (au (ieq y28 0)) (some (x0,y28)) (some (ay.mk x0.accounts x0.symbols (cu y3 [y7.1]) (bT y4 (itn y26) y27.1) y5 y6 x0.kill y7.1.id x0.seq (wr .i64 (ax x0.lsn 1)),0))) none)) none)))))) (cnd (ieq x1.kind 2) (af (lZ (ay.mk x0.accounts x0.symbols y3 y4 y5 y6 x0.kill x0.last x0.seq x0.lsn) x1.order) fun y29=>cnd (ieq y29 (-1)) (some (x0,7)) (cnd (band (ile 0 y29) (ilt y29 (len y3))) (af (vS (aj y3 (itn y29)) x1.qty x1.price) fun y30=>cnd (au (ieq y30.2 0)) (some (x0,8)) (cnd x0.kill (some (x0,5)) (af (fC y3) fun y31=>af (fG y4) fun y32=>af (fE y5) fun y33=>af (iy y6) fun y34=>af (bG (ay.mk x0.accounts x0.symbols y3 y4 y5 y6 x0.kill x0.last x0.seq x0.lsn) (aj y3 (itn y29)).account (aj y3 (itn y29)).symbol) fun y35=>cnd (band (ile 0 y35) (ilt y35 (len y4))) (af (BD (aj y4 (itn y35)) (aj y3 (itn y29))) fun y36=>af (jX y36.1 y30.1) fun y37=>cnd (au (ieq y37.2 0)) (some (x0,3)) (cnd (band (ile 0 y29) (ilt y29 (len y3))) (af (dU (ay.mk x0.accounts x0.symbols (bT y3 (itn y29) y30.1) (bT y4 (itn y35) y37.1) y5 y6 x0.kill x0.last x0.seq x0.lsn) (ay.mk x0.accounts x0.symbols y31 y32 y33 y34 x0.kill x0.last x0.seq x0.lsn) (aj y3 (itn y29)).account (aj y3 (itn y29)).symbol) fun y38=>cnd (au (ieq y38 0)) (some (x0,y38)) (some (ay.mk x0.accounts x0.symbols (bT y3 (itn y29) y30.1) (bT y4 (itn y35) y37.1) y5 y6 x0.kill x0.last x0.seq (wr .i64 (ax x0.lsn 1)),0))) none)) none))) none)) (cnd (ieq x1.kind 3) (af (lZ (ay.mk x0.accounts x0.symbols y3 y4 y5 y6 x0.kill x0.last x0.seq x0.lsn) x1.order) fun y39=>cnd (ieq y39 (-1)) (some (x0,7)) (cnd (band (ile 0 y39) (ilt y39 (len y3))) (af (Dc (aj y3 (itn y39))) fun y40=>cnd (band (ile 0 y39) (ilt y39 (len y3))) (cnd (au (ieq y40.2 0)) (some (x0,y40.2)) (some (ay.mk x0.accounts x0.symbols (bT y3 (itn y39) y40.1) y4 y5 y6 x0.kill x0.last x0.seq (wr .i64 (ax x0.lsn 1)),0))) none) none)) (cnd (ieq x1.kind 4) (cnd (ile x0.accounts x1.account) (cnd (ile x0.accounts x1.account) (some (x0,1)) (cnd (ieq x1.symbol (-1)) (cnd (band (ile 0 x1.account) (ilt x1.account (len y6))) (some (ay.mk x0.accounts x0.symbols y3 y4 y5 (bT y6 (itn x1.account) x1.opn) x0.kill x0.last x0.seq (wr .i64 (ax x0.lsn 1)),0)) none) (af (bG (ay.mk x0.accounts x0.symbols y3 y4 y5 y6 x0.kill x0.last x0.seq x0.lsn) x1.account x1.symbol) fun y41=>cnd (band (ile 0 y41) (ilt y41 (len y5))) (some (ay.mk x0.accounts x0.symbols y3 y4 (bT y5 (itn y41) (jK.mk x1.long x1.short x1.opn)) y6 x0.kill x0.last x0.seq (wr .i64 (ax x0.lsn 1)),0)) none))) (cnd (ile x0.symbols x1.symbol) (some (x0,1)) (cnd (ieq x1.symbol (-1)) (cnd (band (ile 0 x1.account) (ilt x1.account (len y6))) (some (ay.mk x0.accounts x0.symbols y3 y4 y5 (bT y6 (itn x1.account) x1.opn) x0.kill x0.last x0.seq (wr .i64 (ax x0.lsn 1)),0)) none) (af (bG (ay.mk x0.accounts x0.symbols y3 y4 y5 y6 x0.kill x0.last x0.seq x0.lsn) x1.account x1.symbol) fun y42=>cnd (band (ile 0 y42) (ilt y42 (len y5))) (some (ay.mk x0.accounts x0.symbols y3 y4 (bT y5 (itn y42) (jK.mk x1.long x1.short x1.opn)) y6 x0.kill x0.last x0.seq (wr .i64 (ax x0.lsn 1)),0)) none)))) (cnd (ieq x1.kind 5) (some (ay.mk x0.accounts x0.symbols y3 y4 y5 y6 x1.on x0.last x0.seq (wr .i64 (ax x0.lsn 1)),0)) (cnd (au (ieq x1.seq (wr .i64 (ax x0.seq 1)))) (some (x0,11)) (af (lZ (ay.mk x0.accounts x0.symbols y3 y4 y5 y6 x0.kill x0.last x1.seq x0.lsn) x1.order) fun y43=>cnd (ieq y43 (-1)) (some (ay.mk x0.accounts x0.symbols y3 y4 y5 y6 x0.kill x0.last x1.seq (wr .i64 (ax x0.lsn 1)),0)) (cnd (band (ile 0 y43) (ilt y43 (len y3))) (af (zL (aj y3 (itn y43)) (dQ.mk x1.seq x1.what x1.order x1.qty x1.price)) fun y44=>cnd (au (ieq y44.2 0)) (some (ay.mk x0.accounts x0.symbols y3 y4 y5 y6 x0.kill x0.last x1.seq (wr .i64 (ax x0.lsn 1)),0)) (af (bG (ay.mk x0.accounts x0.symbols y3 y4 y5 y6 x0.kill x0.last x1.seq x0.lsn) (aj y3 (itn y43)).account (aj y3 (itn y43)).symbol) fun y45=>cnd (band (ile 0 y45) (ilt y45 (len y4))) (af (BD (aj y4 (itn y45)) (aj y3 (itn y43))) fun y46=>af (jX (aj (bT y4 (itn y45) y46.1) (itn y45)) y44.1) fun y47=>cnd (ieq x1.what 3) (af (Gj (aj (bT (bT y4 (itn y45) y46.1) (itn y45) y47.1) (itn y45)) (aj y3 (itn y43)).side x1.qty) fun y48=>cnd (band (ile 0 y43) (ilt y43 (len y3))) (cnd (ieq y44.1.phase 3) (af (gZ (bT y3 (itn y43) y44.1) y43 (wr .i64 (ax y43 1))) fun y49=>some (ay.mk x0.accounts x0.symbols y49 (bT (bT (bT y4 (itn y45) y46.1) (itn y45) y47.1) (itn y45) y48.1) y5 y6 x0.kill x0.last x1.seq (wr .i64 (ax x0.lsn 1)),0)) (some (ay.mk x0.accounts x0.symbols (bT y3 (itn y43) y44.1) (bT (bT (bT y4 (itn y45) y46.1) (itn y45) y47.1) (itn y45) y48.1) y5 y6 x0.kill x0.last x1.seq (wr .i64 (ax x0.lsn 1)),0))) none) (cnd (band (ile 0 y43) (ilt y43 (len y3))) (cnd (ieq y44.1.phase 3) (af (gZ (bT y3 (itn y43) y44.1) y43 (wr .i64 (ax y43 1))) fun y50=>some (ay.mk x0.accounts x0.symbols y50 (bT (bT y4 (itn y45) y46.1) (itn y45) y47.1) y5 y6 x0.kill x0.last x1.seq (wr .i64 (ax x0.lsn 1)),0)) (some (ay.mk x0.accounts x0.symbols (bT y3 (itn y43) y44.1) (bT (bT y4 (itn y45) y46.1) (itn y45) y47.1) y5 y6 x0.kill x0.last x1.seq (wr .i64 (ax x0.lsn 1)),0))) none)) none)) none))))))))
def zX:aF:=mkSpec [.val .state,.val .recd] [.val .state,.int .i64] false (fun x=>um x.1 x.2)
theorem Jw:bW PG 44 zX:=okN [(74,sK),(27,kG),(24,qj),(121,uX),(122,wG),(123,wu),(124,zq),(125,Jc),(126,nJ),(127,Fg),(128,AX),(38,zQ),(129,G9),(130,Tt),(131,MV),(132,KL),(133,PI),(134,tZ)] [75,76,77,78,79,80] ⟨BN,ou,xR,Gs,Hz,Ii,Lc,Yl,uw,Rf,LV,JB,VP,ae5,acf,Y7,adP,F8,trivial⟩ fun x=>by kernel_rfl
def sZ (x0:bH) (x1:iq) (x2:(List Int)):Option (ay×Int):=af (jI x0) fun y0=>af (cnd (au (au y0)) (mF x2 x1.kind) (some false)) fun y1=>cnd (bor (au y0) (au y1)) (some (x0.state,1)) (af (um x0.state x1) fun y2=>some y2)
def Ea:aF:=mkSpec [.val .plain,.val .recd,.ro .i64] [.val .state,.int .i64] false (fun x=>sZ x.1 x.2.1 x.2.2)
theorem O3:bW PG 40 Ea:=okN [(8,oQ),(70,yj),(44,zX)] [] ⟨wF,JS,Jw,trivial⟩ fun x=>by kernel_rfl
def bY (x0:(List jQ)):Option ((List jQ)):=NU (len x0) fun y0=>cnd (beq y0 true) (some []) (cnd (ile (len x0) 68719476736) (some x0) none)
def jU:aF:=mkSpec [.ro .msg] [.buf .msg] true (fun x=>bY x)
theorem nM:bW PG 34 jU:=okN [] [] trivial fun x=>by kernel_rfl
def oK (x0:Int) (x1:aB) (x2:Int):Option (jQ):=cnd (ieq x0 1) (af (iJ x1) fun y0=>af (cnd (au (au y0)) (lg (jQ.mk x0 x1.id x1.account x1.symbol x1.side x1.qty x1.price 0 x2)) (some false)) fun y1=>cnd (bor (au y0) (au y1)) (some (jQ.mk 0 0 0 0 0 0 0 0 0)) (some (jQ.mk x0 x1.id x1.account x1.symbol x1.side x1.qty x1.price 0 x2))) (cnd (ieq x0 2) (af (iJ x1) fun y2=>af (cnd (au (au y2)) (lg (jQ.mk x0 x1.id x1.account x1.symbol x1.side x1.newQty x1.newPrice x1.version x2)) (some false)) fun y3=>cnd (bor (au y2) (au y3)) (some (jQ.mk 0 0 0 0 0 0 0 0 0)) (some (jQ.mk x0 x1.id x1.account x1.symbol x1.side x1.newQty x1.newPrice x1.version x2))) (af (iJ x1) fun y4=>af (cnd (au (au y4)) (lg (jQ.mk x0 x1.id x1.account x1.symbol x1.side 0 0 0 x2)) (some false)) fun y5=>cnd (bor (au y4) (au y5)) (some (jQ.mk 0 0 0 0 0 0 0 0 0)) (some (jQ.mk x0 x1.id x1.account x1.symbol x1.side 0 0 0 x2))))
def F7:aF:=mkSpec [.int .i64,.val .order,.int .i64] [.val .msg] true (fun x=>oK x.1 x.2.1 x.2.2)
theorem RV:bW PG 39 F7:=okN [(69,jd),(63,xP)] [] ⟨lS,Gz,trivial⟩ fun x=>by kernel_rfl
def o8 (x0:bH) (x1:iq):Option (bH×Int):=af (sZ x0 x1 [1,2,3]) fun y0=>cnd (au (ieq y0.2 0)) (some (x0,y0.2)) (af (lZ y0.1 x1.order) fun y1=>cnd (band (ile 0 y1) (ilt y1 (len y0.1.orders))) (af (bY x0.outbox) fun y2=>af (oK x1.kind (aj y0.1.orders (itn y1)) y0.1.lsn) fun y3=>cnd (ile (len (cu y2 [y3])) 68719476736) (some (bH.mk y0.1 (cu y2 [y3]) x0.feed,0)) none) none)
def zU:aF:=mkSpec [.val .plain,.val .recd] [.val .plain,.int .i64] false (fun x=>o8 x.1 x.2)
theorem KY:bW PG 10 zU:=okN [(40,Ea),(38,zQ),(34,jU),(39,F7)] [] ⟨O3,JB,nM,RV,trivial⟩ fun x=>by kernel_rfl
def yH (p0:Int) (p1:(List dQ)) (p2:Int) (v0:Int) (v1:Int):Option ((Int×Int) ⊕ ((Int) ⊕ ((Int)))):=cnd (ilt v0 p0) (cnd (band (ile 0 v0) (ilt v0 (len p1))) (cnd (au (ieq (aj p1 (itn v0)).seq (wr .i64 (ax p2 v0)))) (some (Sum.inr (Sum.inl v0))) (some (Sum.inl (wr .i64 (ax v0 1),v1)))) none) (some (Sum.inr (Sum.inr v1)))
def XU:dX:=LSh.spec ⟨70,[(8,.int .i64),(7,.ro .note),(1,.int .i64)],[],[],[(9,.int .i64),(4,.int .i64)],[],[]⟩ [⟨.ret,[(4,.int .i64)],[],[]⟩,⟨.exit 0,[(4,.int .i64)],[],[]⟩] (sP [(4,3),(9,13)]) (fun p v=>yH p.1 p.2.1 p.2.2 v.1 v.2)
def sF (x0:(List dQ)) (x1:Int):Option (Int):=af (bV (fun v=>yH (len x0) x0 x1 v.1 v.2) LF (0,0)) fun y0=>gX y0 (fun y1=>some y1) fun y1=>some (len x0)
def O6:aF:=mkSpec [.ro .note,.int .i64] [.int .i64] true (fun x=>sF x.1 x.2)
theorem aci:bW PG 71 O6:=okP [] [] [(71,26,XU)] trivial (fun K=>⟨kL K fun p v=>by kernel_rfl,trivial⟩) fun x=>by kernel_rfl
def dD (x0:(List dQ)):Option ((List dQ)):=NU (len x0) fun y0=>cnd (beq y0 true) (some []) (cnd (ile (len x0) 68719476736) (some x0) none)
def oU:aF:=mkSpec [.ro .note] [.buf .note] true (fun x=>dD x)
theorem xW:bW PG 35 oU:=okN [] [] trivial fun x=>by kernel_rfl
def cO (p0:(List dQ)) (p1:Int) (v0:Int) (v1:Int):Option ((Int×Int) ⊕ ((Int))):=cnd (ilt v1 v0) (cnd (band (ile 0 (wr .i64 (bJ .u64 (wr .u64 (wr .i64 (ax v1 v0))) 1))) (ilt (wr .i64 (bJ .u64 (wr .u64 (wr .i64 (ax v1 v0))) 1)) (len p0))) (cnd (ilt (wr .i64 (aI (aj p0 (itn (wr .i64 (bJ .u64 (wr .u64 (wr .i64 (ax v1 v0))) 1)))).seq p1)) 0) (some (Sum.inl (v0,wr .i64 (ax (wr .i64 (bJ .u64 (wr .u64 (wr .i64 (ax v1 v0))) 1)) 1)))) (some (Sum.inl (wr .i64 (bJ .u64 (wr .u64 (wr .i64 (ax v1 v0))) 1),v1)))) none) (some (Sum.inr v1))
def kC:dX:=LSh.spec ⟨83,[(0,.ro .note),(1,.int .i64)],[(2,.fn 118 [])],[],[(10,.int .i64),(9,.int .i64)],[],[]⟩ [⟨.exit 0,[(9,.int .i64)],[],[]⟩] (sP [(9,3),(15,20)]) (fun p v=>cO p.1 p.2 v.1 v.2)
def og (x0:(List dQ)) (x1:Int):Option (Int×Bool):=af (bV (fun v=>cO x0 x1 v.1 v.2) LF (len x0,0)) fun y0=>cnd (bor (band (ile 0 y0) (ilt y0 (len x0))) (au (ilt y0 (len x0)))) (cnd (ilt y0 (len x0)) (some (y0,band (ilt y0 (len x0)) (ieq (wr .i64 (aI (aj x0 (itn y0)).seq x1)) 0))) (some (y0,bor (ilt y0 (len x0)) false))) none
def La:aF:=mkSpec [.ro .note,.int .i64] [.int .i64,.bool] true (fun x=>og x.1 x.2)
theorem Y9:bW PG 72 La:=okP [] [117,118] [(309237690485,60,kC)] trivial (fun K=>⟨kL K fun p v=>by kernel_rfl,trivial⟩) fun x=>by kernel_rfl
def gm (x0:(List dQ)) (x1:Int) (x2:(List dQ)):Option ((List dQ)):=match x2 with | [n]=>cnd (band (ile 0 x1) (band (ile x1 (len x0)) (ile (ax (len x0) 1) 68719476736))) (some (cu (aG x0 (itn x1)) (n::aV x0 (itn x1)))) none | _=>none
noncomputable def H7:Cx:={ P:=PG,ety:=ety,fn:=look [],inl:=amT [],lp:=Qg [] }
def uT:aF:=GZ .note (fun x=>gm x.1 x.2.1 x.2.2)
theorem Gn:bW PG 73 uT:=
 have K:CxR H7:=Am.cx (fun _=>rfl) (l:=[]) trivial
 Zy K 73 (ahU PG 73) (ahU PG ((BM (ahU PG 73)).f 29)) (by kernel_rfl) (by kernel_rfl) (by kernel_rfl) (by kernel_rfl) (by kernel_rfl) (e:= .note) (by kernel_rfl) (by kernel_rfl) (by kernel_rfl) (by kernel_rfl) (by kernel_rfl) (by kernel_rfl) rfl (fun x y h=>by obtain⟨l,k,xs⟩:=x;match xs,h with | [],h=>exact h | [_],h=>exact h | _::_::_,h=>exact h)
def wH (x0:gJ) (x1:dQ) (x2:Int):Option (gJ×(List dQ)×Int):=af (tu x0 x2) fun y0=>cnd (au y0) (cnd (au y0) (some (x0,[],1)) (cnd (ilt x1.seq x2) (some (x0,[],0)) (cnd (ilt (wr .i64 (ax x2 8)) x1.seq) (some (gJ.mk x0.held true,[],0)) (cnd (ieq x1.seq x2) (af (sF x0.held (wr .i64 (ax x2 1))) fun y1=>cnd (band (ile 0 (len x0.held)) (ile 0 (len x0.held))) (cnd (band (ile (len (cu (nol x0.held) [x1])) 68719476736) (bor (ieq (len (nol x0.held)) 0) true)) (cnd (band (ile 0 y1) (ile y1 (len x0.held))) (cnd (ile (len (cu (cu (nol x0.held) [x1]) (aG x0.held (itn y1)))) 68719476736) (cnd (band (ile 0 y1) (ile y1 (len x0.held))) (af (dD (aV x0.held (itn y1))) fun y2=>some (gJ.mk y2 x0.gap,cu (cu (nol x0.held) [x1]) (aG x0.held (itn y1)),0)) none) none) none) none) none) (af (og x0.held x1.seq) fun y3=>cnd (au y3.2) (af (dD x0.held) fun y4=>af (gm y4 y3.1 [x1]) fun y5=>some (gJ.mk y5 x0.gap,[],0)) (some (x0,[],0))))))) (cnd (ilt x1.seq 1) (cnd (ilt x1.seq 1) (some (x0,[],1)) (cnd (ilt x1.seq x2) (some (x0,[],0)) (cnd (ilt (wr .i64 (ax x2 8)) x1.seq) (some (gJ.mk x0.held true,[],0)) (cnd (ieq x1.seq x2) (af (sF x0.held (wr .i64 (ax x2 1))) fun y6=>cnd (band (ile 0 (len x0.held)) (ile 0 (len x0.held))) (cnd (band (ile (len (cu (nol x0.held) [x1])) 68719476736) (bor (ieq (len (nol x0.held)) 0) true)) (cnd (band (ile 0 y6) (ile y6 (len x0.held))) (cnd (ile (len (cu (cu (nol x0.held) [x1]) (aG x0.held (itn y6)))) 68719476736) (cnd (band (ile 0 y6) (ile y6 (len x0.held))) (af (dD (aV x0.held (itn y6))) fun y7=>some (gJ.mk y7 x0.gap,cu (cu (nol x0.held) [x1]) (aG x0.held (itn y6)),0)) none) none) none) none) none) (af (og x0.held x1.seq) fun y8=>cnd (au y8.2) (af (dD x0.held) fun y9=>af (gm y9 y8.1 [x1]) fun y10=>some (gJ.mk y10 x0.gap,[],0)) (some (x0,[],0))))))) (cnd (ilt 1000000000 x1.seq) (some (x0,[],1)) (cnd (ilt x1.seq x2) (some (x0,[],0)) (cnd (ilt (wr .i64 (ax x2 8)) x1.seq) (some (gJ.mk x0.held true,[],0)) (cnd (ieq x1.seq x2) (af (sF x0.held (wr .i64 (ax x2 1))) fun y11=>cnd (band (ile 0 (len x0.held)) (ile 0 (len x0.held))) (cnd (band (ile (len (cu (nol x0.held) [x1])) 68719476736) (bor (ieq (len (nol x0.held)) 0) true)) (cnd (band (ile 0 y11) (ile y11 (len x0.held))) (cnd (ile (len (cu (cu (nol x0.held) [x1]) (aG x0.held (itn y11)))) 68719476736) (cnd (band (ile 0 y11) (ile y11 (len x0.held))) (af (dD (aV x0.held (itn y11))) fun y12=>some (gJ.mk y12 x0.gap,cu (cu (nol x0.held) [x1]) (aG x0.held (itn y11)),0)) none) none) none) none) none) (af (og x0.held x1.seq) fun y13=>cnd (au y13.2) (af (dD x0.held) fun y14=>af (gm y14 y13.1 [x1]) fun y15=>some (gJ.mk y15 x0.gap,[],0)) (some (x0,[],0))))))))
def FN:aF:=mkSpec [.val .feed,.val .note,.int .i64] [.val .feed,.buf .note,.int .i64] false (fun x=>wH x.1 x.2.1 x.2.2)
theorem RG:bW PG 43 FN:=okN [(30,yP),(71,O6),(35,oU),(72,La),(73,uT)] [] ⟨Hy,aci,xW,Y9,Gn,trivial⟩ fun x=>by kernel_rfl
def kU (p0:Int) (p1:(List dQ)) (p2:bH) (v0:Int) (v1:Int) (v2:Int) (v3:bH) (v4:bH):Option ((Int×Int×Int×bH×bH) ⊕ ((Int×bH×bH) ⊕ ((Int×Int×bH×bH)))):=cnd (ilt v0 p0) (cnd (band (ile 0 v0) (ilt v0 (len p1))) (af (iD (aj p1 (itn v0))) fun y0=>af (um v3.state y0) fun y1=>cnd (au (ieq y1.2 0)) (some (Sum.inr (Sum.inl (y1.2,bH.mk y1.1 v3.outbox v3.feed,p2)))) (some (Sum.inl (wr .i64 (ax v0 1),y1.2,v2,bH.mk y1.1 v3.outbox v3.feed,v4)))) none) (some (Sum.inr (Sum.inr (v1,v2,v3,v4))))
def RU:dX:=LSh.spec ⟨117,[(55,.int .i64),(54,.ro .note)],[(9,.mp 384 0),(4,.mp 32 0),(2,.mp 16 0)],[(16,[.val .plain])],[(56,.int .i64),(8,.int .i64),(5,.int .i64)],[(384,[.val .plain]),(32,[.val .plain])],[]⟩ [⟨.ret,[(5,.int .i64)],[(384,[.val .plain]),(32,[.val .plain])],[]⟩,⟨.exit 1,[(8,.int .i64),(5,.int .i64)],[(384,[.val .plain]),(32,[.val .plain])],[]⟩] (sP [(5,1),(8,1),(11,1),(56,18)]) (fun p v=>kU p.1 p.2.1 p.2.2 v.1 v.2.1 v.2.2.1 v.2.2.2.1 v.2.2.2.2)
def sV (x0:bH) (x1:dQ):Option (bH×Int):=af (jI x0) fun y0=>af (cnd (au (au y0)) (iD x1) (some (iq.mk 0 0 0 0 0 0 0 0 0 0 false 0 0))) fun y1=>af (cnd (au (au y0)) (jY y1) (some false)) fun y2=>cnd (bor (au y0) (au y2)) (some (x0,1)) (af (wH x0.feed x1 (wr .i64 (ax x0.state.seq 1))) fun y3=>cnd (au (ieq y3.2.2 0)) (some (x0,y3.2.2)) (cnd (ilt (wr .i64 (aI 1000000000 (len y3.2.1))) x0.state.lsn) (some (x0,3)) (af (bV (fun v=>kU (len y3.2.1) y3.2.1 x0 v.1 v.2.1 v.2.2.1 v.2.2.2.1 v.2.2.2.2) LF (0,y3.2.2,0,bH.mk x0.state x0.outbox y3.1,bH.mk (ay.mk 0 0 [] [] [] [] false 0 0 0) [] (gJ.mk [] false))) fun y4=>gX y4 (fun y5=>some (y5.2.2,y5.1)) fun y5=>some (y5.2.2.1,0))))
def Eb:aF:=mkSpec [.val .plain,.val .note] [.val .plain,.int .i64] false (fun x=>sV x.1 x.2)
theorem Pn:bW PG 13 Eb:=okP [(8,oQ),(28,qf),(27,kG),(43,FN),(44,zX)] [] [(13,506,RU)] ⟨wF,xU,ou,RG,Jw,trivial⟩ (fun K=>⟨kL K fun p v=>by kernel_rfl,trivial⟩) fun x=>by kernel_rfl
def ug (x0:bH):Option (bH×(List jQ)×Int):=af (jI x0) fun y0=>cnd (au y0) (some (x0,[],1)) (some (bH.mk x0.state [] x0.feed,x0.outbox,0))
def Cb:aF:=mkSpec [.val .plain] [.val .plain,.ro .msg,.int .i64] false (fun x=>ug x)
theorem LQ:bW PG 15 Cb:=okN [(8,oQ)] [] ⟨wF,trivial⟩ fun x=>by kernel_rfl
def tq (x0:bH) (x1:iq):Option (bH×(List jQ)×Int):=af (sZ x0 x1 [4,5]) fun y0=>cnd (au (ieq y0.2 0)) (some (x0,[],y0.2)) (some (bH.mk y0.1 [] x0.feed,x0.outbox,0))
def D6:aF:=mkSpec [.val .plain,.val .recd] [.val .plain,.ro .msg,.int .i64] false (fun x=>tq x.1 x.2)
theorem Pm:bW PG 19 D6:=okN [(40,Ea)] [] ⟨O3,trivial⟩ fun x=>by kernel_rfl
def mY:Option (Bool):=af (Qh 1 1 (jK.mk 50 50 500) 900) fun y0=>af (o8 (bH.mk y0.1 [] (gJ.mk [] false)) (iq.mk 1 1 0 0 1 4 2 0 0 0 false 0 0)) fun y1=>af (sV y1.1 (dQ.mk 1 1 1 0 0)) fun y2=>af (ug y2.1) fun y3=>af (tq y3.1 (iq.mk 5 0 0 0 0 0 0 0 0 0 true 0 0)) fun y4=>cnd (bor (ilt 0 (len y3.2.1)) (au (band (band (band (band (band (ieq y0.2 0) (ieq y1.2 0)) (ieq y2.2 0)) (ieq y3.2.2 0)) (ieq y4.2.2 0)) (ieq (len y3.2.1) 1)))) (cnd (bor (ilt 0 (len y4.1.state.orders)) (au (band (band (band (band (band (band (band (band (band (band (ieq y0.2 0) (ieq y1.2 0)) (ieq y2.2 0)) (ieq y3.2.2 0)) (ieq y4.2.2 0)) (ieq (len y3.2.1) 1)) (ieq (aj y3.2.1 0).lsn 1)) (ieq (len y4.2.1) 0)) y4.1.state.kill) (ieq y4.1.state.lsn 3)) (ieq (len y4.1.state.orders) 1)))) (af (cnd (band (band (band (band (band (band (band (band (band (band (band (ieq y0.2 0) (ieq y1.2 0)) (ieq y2.2 0)) (ieq y3.2.2 0)) (ieq y4.2.2 0)) (ieq (len y3.2.1) 1)) (ieq (aj y3.2.1 0).lsn 1)) (ieq (len y4.2.1) 0)) y4.1.state.kill) (ieq y4.1.state.lsn 3)) (ieq (len y4.1.state.orders) 1)) (ieq (aj y4.1.state.orders 0).phase 2)) (jI y4.1) (some false)) fun y5=>some (band (band (band (band (band (band (band (band (band (band (band (band (ieq y0.2 0) (ieq y1.2 0)) (ieq y2.2 0)) (ieq y3.2.2 0)) (ieq y4.2.2 0)) (ieq (len y3.2.1) 1)) (ieq (aj y3.2.1 0).lsn 1)) (ieq (len y4.2.1) 0)) y4.1.state.kill) (ieq y4.1.state.lsn 3)) (ieq (len y4.1.state.orders) 1)) (ieq (aj y4.1.state.orders 0).phase 2)) y5)) none) none
def zi:aF:=mkSpec [] [.bool] true (fun _=>mY)
theorem Lm:bW PG 4 zi:=okN [(20,PO),(10,zU),(13,Eb),(15,Cb),(19,D6),(8,oQ)] [] ⟨acJ,KY,Pn,LQ,Pm,wF,trivial⟩ fun x=>by kernel_rfl
def kF (p0:ak) (v0:Int) (v1:Int) (v2:Bool):Option ((Int×Int×Bool) ⊕ ((Bool) ⊕ ((Int×Bool)))):=cnd (ilt v0 (len p0.files)) (cnd (band (ile 0 v0) (ilt v0 (len p0.files))) (cnd (bor (band (ile 0 v0) (ilt v0 (len p0.files))) (au (au (ilt 70000 (len (aj p0.files (itn v0)).data))))) (cnd (bor (ilt 70000 (len (aj p0.files (itn v0)).data)) (ilt 100 (len (aj p0.files (itn v0)).name))) (some (Sum.inr (Sum.inl false))) (cnd (band (ile 0 v0) (ilt v0 (len p0.files))) (some (Sum.inl (wr .i64 (ax v0 1),wr .i64 (ax v1 (len (aj p0.files (itn v0)).data)),v2))) none)) none) none) (some (Sum.inr (Sum.inr (v1,v2))))
def Gt:dX:=LSh.spec ⟨73,[],[(1,.mp 8 0)],[(8,[.val .disk])],[(4,.int .i64),(3,.int .i64),(2,.bool)],[],[]⟩ [⟨.ret,[(2,.bool)],[],[]⟩,⟨.exit 0,[(3,.int .i64),(2,.bool)],[],[]⟩] (sP [(2,3),(9,34)]) (fun p v=>kF p v.1 v.2.1 v.2.2)
def qA (x0:ak):Option (Bool):=cnd (ilt 70 (len x0.files)) (some false) (af (bV (fun v=>kF x0 v.1 v.2.1 v.2.2) LF (0,0,false)) fun y0=>gX y0 (fun y1=>some y1) fun y1=>some (ile y1.1 70000))
def zH:aF:=mkSpec [.val .disk] [.bool] true (fun x=>qA x)
theorem Ld:bW PG 21 zH:=okP [] [] [(21,122,Gt)] trivial (fun K=>⟨kL K fun p v=>by kernel_rfl,trivial⟩) fun x=>by kernel_rfl
def qH (x0:ay):Option (Bool):=some (band (band (band (ile (len x0.orders) 70) (ile (len x0.cells) 70)) (ile (len x0.limits) 70)) (ile (len x0.caps) 70))
def zF:aF:=mkSpec [.val .state] [.bool] true (fun x=>qH x)
theorem Ls:bW PG 22 zF:=okN [] [] trivial fun x=>by kernel_rfl
def qp (x0:bD):Option (Bool):=af (qA x0.disk) fun y0=>af (cnd y0 (qH x0.state) (some false)) fun y1=>some (band (band (band (band y0 y1) (ile (len x0.wal.wait) 40)) (ile (len x0.outbox) 99)) (ile (len x0.feed.held) 99))
def zl:aF:=mkSpec [.val .gate] [.bool] true (fun x=>qp x)
theorem Lu:bW PG 5 zl:=okN [(21,zH),(22,zF)] [] ⟨Ld,Ls,trivial⟩ fun x=>by kernel_rfl
def Hq (x0:Int):Option (Bool):=some (bor (bor (band (ile 97 x0) (ile x0 122)) (band (ile 48 x0) (ile x0 57))) (ieq x0 46))
def Nc:aF:=mkSpec [.int .u8] [.bool] true (fun x=>Hq x)
theorem abz:bW PG 104 Nc:=okN [] [] trivial fun x=>by kernel_rfl
def tN (p0:Int) (p1:(List UInt8)) (v0:Int) (v1:Bool):Option ((Int×Bool) ⊕ ((Bool) ⊕ ((Bool)))):=cnd (ilt v0 p0) (cnd (band (ile 0 v0) (ilt v0 (len p1))) (af (Hq (aeT p1 (itn v0))) fun y0=>cnd (au y0) (some (Sum.inr (Sum.inl false))) (some (Sum.inl (wr .i64 (ax v0 1),v1)))) none) (some (Sum.inr (Sum.inr v1)))
def Uw:dX:=LSh.spec ⟨69,[(5,.int .i64),(0,.str)],[],[],[(6,.int .i64),(2,.bool)],[],[]⟩ [⟨.ret,[(2,.bool)],[],[]⟩,⟨.exit 0,[(2,.bool)],[],[]⟩] (sP [(2,2),(6,9)]) (fun p v=>tN p.1 p.2 v.1 v.2)
def AZ (x0:(List UInt8)):Option (Bool):=af (bV (fun v=>tN (len x0) x0 v.1 v.2) LF (0,false)) fun y0=>gX y0 (fun y1=>some y1) fun y1=>some (band (ile 1 (len x0)) (ile (len x0) 16))
def DX:aF:=mkSpec [.str] [.bool] true (fun x=>AZ x)
theorem O4:bW PG 53 DX:=okP [(104,Nc)] [] [(53,26,Uw)] ⟨abz,trivial⟩ (fun K=>⟨kL K fun p v=>by kernel_rfl,trivial⟩) fun x=>by kernel_rfl
def rQ (p0:Int) (p1:(List aC)) (p2:ak) (v0:Int) (v1:Int) (v2:Bool):Option ((Int×Int×Bool) ⊕ ((Bool) ⊕ ((Bool)))):=cnd (ilt v0 p0) (cnd (band (ile 0 v0) (ilt v0 (len p1))) (af (AZ (aj p1 (itn v0)).name) fun y0=>cnd (bor (band (ile 0 (wr .i64 (aI v0 1))) (ilt (wr .i64 (aI v0 1)) (len p2.files))) (au (band (au (au y0)) (ilt 0 v0)))) (cnd (bor (bor (bor (bor (au y0) (band (ilt 0 v0) (au (slt (aj p2.files (itn (wr .i64 (aI v0 1)))).name (aj p1 (itn v0)).name)))) (ilt (aj p1 (itn v0)).sure 0)) (ilt (len (aj p1 (itn v0)).data) (aj p1 (itn v0)).sure)) (ilt v1 (len (aj p1 (itn v0)).data))) (some (Sum.inr (Sum.inl false))) (some (Sum.inl (wr .i64 (ax v0 1),wr .i64 (aI v1 (len (aj p1 (itn v0)).data)),v2)))) none) none) (some (Sum.inr (Sum.inr v2)))
def SI:dX:=LSh.spec ⟨93,[(29,.int .i64),(28,.ro .file)],[(1,.mp 8 0)],[(8,[.val .disk])],[(30,.int .i64),(3,.int .i64),(2,.bool)],[],[]⟩ [⟨.ret,[(2,.bool)],[],[]⟩,⟨.exit 0,[(2,.bool)],[],[]⟩] (sP [(2,4),(30,51)]) (fun p v=>rQ p.1 p.2.1 p.2.2 v.1 v.2.1 v.2.2)
def qw (x0:ak):Option (Bool):=cnd (bor (bor (bor (ilt x0.room 0) (ilt 65536 x0.room)) (ilt x0.fuse (-1))) (ilt 64 (len x0.files))) (some false) (af (bV (fun v=>rQ (len x0.files) x0.files x0 v.1 v.2.1 v.2.2) LF (0,x0.room,false)) fun y0=>gX y0 (fun y1=>some y1) fun y1=>some true)
def qi:aF:=mkSpec [.val .disk] [.bool] true (fun x=>qw x)
theorem yC:bW PG 23 qi:=okP [(53,DX)] [] [(23,122,SI)] ⟨O4,trivial⟩ (fun K=>⟨kL K fun p v=>by kernel_rfl,trivial⟩) fun x=>by kernel_rfl
def yL (x0:iE):Option (Bool):=some (band (band (band (band (band (ile 1 x0.epoch) (ile x0.epoch 1000000)) (ile 1 x0.lsn)) (ile x0.lsn 1000000000)) (ile 1 x0.kind)) (ile x0.kind 6))
def BK:aF:=mkSpec [.val .frame] [.bool] true (fun x=>yL x)
theorem Nj:bW PG 174 BK:=okN [] [] trivial fun x=>by kernel_rfl
def yF (p0:Int) (p1:(List iE)) (v0:Int) (v1:Bool) (v2:Int) (v3:Int):Option ((Int×Bool×Int×Int) ⊕ ((Bool×Int×Int) ⊕ ((Bool×Int×Int)))):=cnd (ilt v0 p0) (cnd (band (ile 0 v0) (ilt v0 (len p1))) (af (yL (aj p1 (itn v0))) fun y0=>cnd (bor (bor (au y0) (au (ieq (aj p1 (itn v0)).lsn v2))) (ilt (aj p1 (itn v0)).epoch v3)) (some (Sum.inr (Sum.inl (false,v2,v3)))) (some (Sum.inl (wr .i64 (ax v0 1),v1,wr .i64 (ax (aj p1 (itn v0)).lsn 1),(aj p1 (itn v0)).epoch)))) none) (some (Sum.inr (Sum.inr (v1,v2,v3))))
def Xo:dX:=LSh.spec ⟨76,[(14,.int .i64),(13,.ro .frame)],[(7,.mp 56 0)],[],[(15,.int .i64),(6,.bool)],[(56,[.int .i64,.int .i64])],[]⟩ [⟨.ret,[(6,.bool)],[(56,[.int .i64,.int .i64])],[]⟩,⟨.exit 0,[(6,.bool)],[(56,[.int .i64,.int .i64])],[]⟩] (sP [(6,1),(9,1),(15,8)]) (fun p v=>yF p.1 p.2 v.1 v.2.1 v.2.2.1 v.2.2.2)
def JJ (x0:(List iE)) (x1:Int) (x2:Int):Option (Bool):=af (bV (fun v=>yF (len x0) x0 v.1 v.2.1 v.2.2.1 v.2.2.2) LF (0,false,x1,x2)) fun y0=>gX y0 (fun y1=>some y1.1) fun y1=>some true
def Ph:aF:=mkSpec [.ro .frame,.int .i64,.int .i64] [.bool] true (fun x=>JJ x.1 x.2.1 x.2.2)
theorem adx:bW PG 56 Ph:=okP [(174,BK)] [111] [(56,58,Xo)] ⟨Nj,trivial⟩ (fun K=>⟨kL K fun p v=>by kernel_rfl,trivial⟩) fun x=>by kernel_rfl
def dL (p0:Int) (p1:(List iE)) (p2:Int) (p3:Int) (p4:Int) (p5:Int) (p6:Int) (p7:(List iE)) (v0:Int) (v1:Int):Option ((Int×Int) ⊕ ((Int) ⊕ ((Int)))):=cnd (ilt v0 p0) (cnd (band (ile 0 v0) (ilt v0 (len p1))) (cnd (au (ieq (aj p1 (itn v0)).epoch p2)) (some (Sum.inr (Sum.inl v0))) (some (Sum.inl (wr .i64 (ax v0 1),v1)))) none) (some (Sum.inr (Sum.inr v1)))
def pJ:dX:=LSh.spec ⟨140,[(7,.int .i64),(0,.ro .frame)],[(1,.fn 55 [.mp 8 0])],[(8,[.int .i64,.int .i64,.int .i64,.int .i64,.int .i64,.ro .frame])],[(8,.int .i64),(4,.int .i64)],[],[]⟩ [⟨.ret,[(4,.int .i64)],[],[]⟩,⟨.exit 0,[(4,.int .i64)],[],[]⟩] (sP [(4,2),(8,11)]) (fun p v=>dL p.1 p.2.1 p.2.2.1 p.2.2.2.1 p.2.2.2.2.1 p.2.2.2.2.2.1 p.2.2.2.2.2.2.1 p.2.2.2.2.2.2.2 v.1 v.2)
def zk (x0:fO):Option (Bool):=cnd (bor (bor (bor (bor (bor (ilt x0.epoch 1) (ilt 1000000 x0.epoch)) (ilt x0.next 1)) (ilt 1000000001 x0.next)) (ilt x0.sure 0)) (ile x0.next x0.sure)) (some false) (af (cnd (au (bor (ilt 32 (len x0.wait)) (au (ieq (len x0.wait) (wr .i64 (aI (wr .i64 (aI x0.next 1)) x0.sure)))))) (JJ x0.wait (wr .i64 (ax x0.sure 1)) 1) (some false)) fun y0=>cnd (au (bor (bor (ilt 32 (len x0.wait)) (au (ieq (len x0.wait) (wr .i64 (aI (wr .i64 (aI x0.next 1)) x0.sure))))) (au y0))) (af (bV (fun v=>dL (len x0.wait) x0.wait x0.epoch x0.next x0.sure x0.seg x0.count x0.wait v.1 v.2) LF (0,0)) fun y1=>gX y1 (fun y2=>cnd (bor (bor (bor (ilt 32 (len x0.wait)) (au (ieq (len x0.wait) (wr .i64 (aI (wr .i64 (aI x0.next 1)) x0.sure))))) (au y0)) (ile 0 y2)) (some false) (cnd (ieq x0.seg 0) (some (ieq x0.count 0)) (some (band (band (band (band (ile 1 x0.seg) (ile 1 x0.count)) (ile x0.count 8)) (ile x0.seg (wr .i64 (ax x0.sure 1)))) (ieq (wr .i64 (ax x0.seg x0.count)) (wr .i64 (ax x0.sure 1))))))) fun y2=>cnd (bor (bor (bor (ilt 32 (len x0.wait)) (au (ieq (len x0.wait) (wr .i64 (aI (wr .i64 (aI x0.next 1)) x0.sure))))) (au y0)) false) (some false) (cnd (ieq x0.seg 0) (some (ieq x0.count 0)) (some (band (band (band (band (ile 1 x0.seg) (ile 1 x0.count)) (ile x0.count 8)) (ile x0.seg (wr .i64 (ax x0.sure 1)))) (ieq (wr .i64 (ax x0.seg x0.count)) (wr .i64 (ax x0.sure 1))))))) (cnd (bor (bor (bor (ilt 32 (len x0.wait)) (au (ieq (len x0.wait) (wr .i64 (aI (wr .i64 (aI x0.next 1)) x0.sure))))) (au y0)) false) (some false) (cnd (ieq x0.seg 0) (some (ieq x0.count 0)) (some (band (band (band (band (ile 1 x0.seg) (ile 1 x0.count)) (ile x0.count 8)) (ile x0.seg (wr .i64 (ax x0.sure 1)))) (ieq (wr .i64 (ax x0.seg x0.count)) (wr .i64 (ax x0.sure 1))))))))
def zT:aF:=mkSpec [.val .wal] [.bool] true (fun x=>zk x)
theorem JO:bW PG 25 zT:=okP [(56,Ph)] [55,57,112] [(461169763171831152752,26,pJ)] ⟨adx,trivial⟩ (fun K=>⟨kL K fun p v=>by kernel_rfl,trivial⟩) fun x=>by kernel_rfl
def iP (x0:Int) (x1:Int):Option (List UInt8):=abo x0 x1
def sQ:aF:=mkSpec [.int .i64,.int .i64] [.str] true (fun x=>iP x.1 x.2)
def Lh:Go.Shelf.Ren:=⟨fun | 173=>154 | 246=>194 | 283=>215 | 284=>216 | 285=>217 | 286=>218 | 129=>232 | 317=>231 | 318=>233 | 319=>234 | 320=>235 | 337=>244 | 338=>245 | n=>n,fun | 2=>2 | 3=>3 | 9=>9 | 4=>4 | 171=>289 | 0=>0 | 53=>234 | 37=>106 | 5=>5 | 173=>292 | 212=>305 | 51=>203 | 20=>20 | 213=>306 | 46=>164 | 232=>322 | 233=>323 | n=>n,fun | 17=>1 | 18=>4 | 19=>5 | n=>n⟩
theorem zK:Go.Proofs.LaysM.n173 PG Lh where
 mixed:=by kernel_rfl
 f129:=by kernel_rfl
 f173:=by kernel_rfl
 f246:=by kernel_rfl
 f283:=by kernel_rfl
 f284:=by kernel_rfl
 f285:=by kernel_rfl
 f286:=by kernel_rfl
 f317:=by kernel_rfl
 f318:=by kernel_rfl
 f319:=by kernel_rfl
 f320:=by kernel_rfl
 f337:=by kernel_rfl
 f338:=by kernel_rfl
 t0:=by kernel_rfl
 a0:=fun w=>by kernel_rfl
 z0:=fun w=>by kernel_rfl
 v0:=fun w=>by kernel_rfl
 t2:=by kernel_rfl
 a2:=fun w=>by kernel_rfl
 z2:=fun w=>by kernel_rfl
 v2:=fun w=>by kernel_rfl
 t3:=by kernel_rfl
 a3:=fun w=>by kernel_rfl
 z3:=fun w=>by kernel_rfl
 v3:=fun w=>by kernel_rfl
 t4:=by kernel_rfl
 a4:=fun w=>by kernel_rfl
 z4:=fun w=>by kernel_rfl
 v4:=fun w=>by kernel_rfl
 t5:=by kernel_rfl
 a5:=fun w=>by kernel_rfl
 z5:=fun w=>by kernel_rfl
 v5:=fun w=>by kernel_rfl
 t9:=by kernel_rfl
 a9:=fun w=>by kernel_rfl
 z9:=fun w=>by kernel_rfl
 v9:=fun w=>by kernel_rfl
 t20:=by kernel_rfl
 a20:=fun w=>by kernel_rfl
 z20:=fun w=>by kernel_rfl
 v20:=fun w=>by kernel_rfl
 t37:=by kernel_rfl
 a37:=fun w=>by kernel_rfl
 z37:=fun w=>by kernel_rfl
 v37:=fun w=>by kernel_rfl
 t46:=by kernel_rfl
 a46:=fun w=>by kernel_rfl
 z46:=fun w=>by kernel_rfl
 v46:=fun w=>by kernel_rfl
 t51:=by kernel_rfl
 a51:=fun w=>by kernel_rfl
 z51:=fun w=>by kernel_rfl
 v51:=fun w=>by kernel_rfl
 t53:=by kernel_rfl
 a53:=fun w=>by kernel_rfl
 z53:=fun w=>by kernel_rfl
 v53:=fun w=>by kernel_rfl
 t171:=by kernel_rfl
 a171:=fun w=>by kernel_rfl
 z171:=fun w=>by kernel_rfl
 v171:=fun w=>by kernel_rfl
 t173:=by kernel_rfl
 a173:=fun w=>by kernel_rfl
 z173:=fun w=>by kernel_rfl
 v173:=fun w=>by kernel_rfl
 t212:=by kernel_rfl
 a212:=fun w=>by kernel_rfl
 z212:=fun w=>by kernel_rfl
 v212:=fun w=>by kernel_rfl
 t213:=by kernel_rfl
 a213:=fun w=>by kernel_rfl
 z213:=fun w=>by kernel_rfl
 t232:=by kernel_rfl
 a232:=fun w=>by kernel_rfl
 z232:=fun w=>by kernel_rfl
 v232:=fun w=>by kernel_rfl
 t233:=by kernel_rfl
 a233:=fun w=>by kernel_rfl
 z233:=fun w=>by kernel_rfl
 v233:=fun w=>by kernel_rfl
 g17:=by kernel_rfl
 g18:=by kernel_rfl
 g19:=by kernel_rfl
 i0:=by kernel_rfl
 i2:=by kernel_rfl
 i3:=by kernel_rfl
 i4:=by kernel_rfl
 i5:=by kernel_rfl
 i9:=by kernel_rfl
 i20:=by kernel_rfl
 i37:=by kernel_rfl
 i46:=by kernel_rfl
 i51:=by kernel_rfl
 i53:=by kernel_rfl
 i171:=by kernel_rfl
 i173:=by kernel_rfl
 i212:=by kernel_rfl
 i232:=by kernel_rfl
 i233:=by kernel_rfl
 m17:=by kernel_rfl
 m18:=by kernel_rfl
 m19:=by kernel_rfl
theorem Dl:bW PG 154 sQ:=agS Am zK (by kernel_rfl) (g:=1) (by kernel_rfl) (by simp [glL]) fun x y h=>h
def jP (x0:(List UInt8)) (x1:Int):Option (List UInt8):=abr x0 x1
def xM:aF:=mkSpec [.str,.int .i64] [.str] true (fun x=>jP x.1 x.2)
def EX:Go.Shelf.Ren:=⟨fun | 105=>155 | 212=>103 | 99=>195 | 165=>196 | 166=>197 | 170=>198 | 169=>199 | 263=>166 | 264=>167 | 206=>219 | 240=>220 | 241=>221 | 276=>236 | 277=>237 | n=>n,fun | 9=>9 | 3=>3 | 4=>4 | 20=>20 | 0=>0 | 46=>164 | 109=>165 | 5=>5 | 72=>266 | 76=>268 | 51=>203 | 146=>232 | 53=>234 | 148=>235 | 70=>264 | 37=>106 | 75=>228 | 127=>294 | 164=>309 | 71=>265 | 74=>227 | 80=>271 | n=>n,fun | n=>n⟩
theorem DI:Go.Proofs.Lays.n105 PG EX where
 mixed:=by kernel_rfl
 f99:=by kernel_rfl
 f105:=by kernel_rfl
 f165:=by kernel_rfl
 f166:=by kernel_rfl
 f169:=by kernel_rfl
 f170:=by kernel_rfl
 f206:=by kernel_rfl
 f212:=by kernel_rfl
 f240:=by kernel_rfl
 f241:=by kernel_rfl
 f263:=by kernel_rfl
 f264:=by kernel_rfl
 f276:=by kernel_rfl
 f277:=by kernel_rfl
 t0:=by kernel_rfl
 a0:=fun w=>by kernel_rfl
 z0:=fun w=>by kernel_rfl
 v0:=fun w=>by kernel_rfl
 t3:=by kernel_rfl
 a3:=fun w=>by kernel_rfl
 z3:=fun w=>by kernel_rfl
 v3:=fun w=>by kernel_rfl
 t4:=by kernel_rfl
 a4:=fun w=>by kernel_rfl
 z4:=fun w=>by kernel_rfl
 v4:=fun w=>by kernel_rfl
 t5:=by kernel_rfl
 a5:=fun w=>by kernel_rfl
 z5:=fun w=>by kernel_rfl
 v5:=fun w=>by kernel_rfl
 t9:=by kernel_rfl
 a9:=fun w=>by kernel_rfl
 z9:=fun w=>by kernel_rfl
 v9:=fun w=>by kernel_rfl
 t20:=by kernel_rfl
 a20:=fun w=>by kernel_rfl
 z20:=fun w=>by kernel_rfl
 v20:=fun w=>by kernel_rfl
 t37:=by kernel_rfl
 a37:=fun w=>by kernel_rfl
 z37:=fun w=>by kernel_rfl
 v37:=fun w=>by kernel_rfl
 t46:=by kernel_rfl
 a46:=fun w=>by kernel_rfl
 z46:=fun w=>by kernel_rfl
 v46:=fun w=>by kernel_rfl
 t51:=by kernel_rfl
 a51:=fun w=>by kernel_rfl
 z51:=fun w=>by kernel_rfl
 v51:=fun w=>by kernel_rfl
 t53:=by kernel_rfl
 a53:=fun w=>by kernel_rfl
 z53:=fun w=>by kernel_rfl
 v53:=fun w=>by kernel_rfl
 t70:=by kernel_rfl
 a70:=fun w=>by kernel_rfl
 z70:=fun w=>by kernel_rfl
 v70:=fun w=>by kernel_rfl
 t72:=by kernel_rfl
 a72:=fun w=>by kernel_rfl
 z72:=fun w=>by kernel_rfl
 v72:=fun w=>by kernel_rfl
 t75:=by kernel_rfl
 a75:=fun w=>by kernel_rfl
 z75:=fun w=>by kernel_rfl
 v75:=fun w=>by kernel_rfl
 t76:=by kernel_rfl
 a76:=fun w=>by kernel_rfl
 z76:=fun w=>by kernel_rfl
 v76:=fun w=>by kernel_rfl
 t109:=by kernel_rfl
 a109:=fun w=>by kernel_rfl
 z109:=fun w=>by kernel_rfl
 v109:=fun w=>by kernel_rfl
 t127:=by kernel_rfl
 a127:=fun w=>by kernel_rfl
 z127:=fun w=>by kernel_rfl
 v127:=fun w=>by kernel_rfl
 t146:=by kernel_rfl
 a146:=fun w=>by kernel_rfl
 z146:=fun w=>by kernel_rfl
 v146:=fun w=>by kernel_rfl
 t148:=by kernel_rfl
 a148:=fun w=>by kernel_rfl
 z148:=fun w=>by kernel_rfl
 v148:=fun w=>by kernel_rfl
 t164:=by kernel_rfl
 a164:=fun w=>by kernel_rfl
 z164:=fun w=>by kernel_rfl
 v164:=fun w=>by kernel_rfl
theorem zJ:Go.Proofs.Builder.Extra PG EX where
 sizeBuilder:=by kernel_rfl
 liesBuilder:=by kernel_rfl
 t5:=by kernel_rfl
 a5:=fun w=>by kernel_rfl
 z5:=fun w=>by kernel_rfl
 v5:=fun w=>by kernel_rfl
 infoByte:=by kernel_rfl
 cellsByte:=by kernel_rfl
 sizeByte:=by kernel_rfl
 neB5:=by decide
theorem Gy:bW PG 155 xM:=aht Am DI zJ (by kernel_rfl) fun x y h=>h
def lJ (x0:Int):Option ((List UInt8)):=cnd (bor (ilt x0 1) (ilt 1000000000 x0)) (some []) (af (iP x0 10) fun y0=>af (jP [(UInt8.ofNat 48)] (wr .i64 (aI 10 (len y0)))) fun y1=>cnd (ile (ax 4 (len y1)) 68719476736) (cnd (ile (ax (len (cu [(UInt8.ofNat 108),(UInt8.ofNat 111),(UInt8.ofNat 103),(UInt8.ofNat 46)] y1)) (len y0)) 68719476736) (some (cu (cu [(UInt8.ofNat 108),(UInt8.ofNat 111),(UInt8.ofNat 103),(UInt8.ofNat 46)] y1) y0)) none) none)
def Hu:aF:=mkSpec [.int .i64] [.str] true (fun x=>lJ x)
theorem Ns:bW PG 102 Hu:=okN [(154,sQ),(155,xM)] [] ⟨Dl,Gy,trivial⟩ fun x=>by kernel_rfl
def Es (x0:(List UInt8)):Option (Int):=some (jD [108,111,103,46] x0)
def Ec:aF:=mkSpec [.str] [.int .i64] true (fun x=>Es x)
def RH:Go.Shelf.Ren:=⟨fun | 103=>163 | 210=>200 | 206=>219 | n=>n,fun | 9=>9 | 4=>4 | 24=>225 | 3=>3 | n=>n,fun | n=>n⟩
theorem Qz:Go.Proofs.Lays.n103 PG RH where
 mixed:=by kernel_rfl
 f103:=by kernel_rfl
 f206:=by kernel_rfl
 f210:=by kernel_rfl
 t3:=by kernel_rfl
 a3:=fun w=>by kernel_rfl
 z3:=fun w=>by kernel_rfl
 v3:=fun w=>by kernel_rfl
 t4:=by kernel_rfl
 a4:=fun w=>by kernel_rfl
 z4:=fun w=>by kernel_rfl
 v4:=fun w=>by kernel_rfl
 t9:=by kernel_rfl
 a9:=fun w=>by kernel_rfl
 z9:=fun w=>by kernel_rfl
 v9:=fun w=>by kernel_rfl
 t24:=by kernel_rfl
 a24:=fun w=>by kernel_rfl
 z24:=fun w=>by kernel_rfl
 v24:=fun w=>by kernel_rfl
theorem U3 (s:ByteArray) (pos:Nat) (h:pos<s.size):1<=(Utf8.decode s pos).2:=by
 by_cases ha:(s[pos]'h).toNat<128
 ·rw[decode_ascii s pos h ha]
  exact Nat.le_refl _
 ·exact(decode_high s pos h (by omega)).2
theorem VK (w:World) (s:ByteArray) (pos:Nat):Go.RowKit.Below w.heap.size w (w.iter s pos):=
 ⟨rfl,rfl,rfl,by show _<=(w.heap.push _).size;rw[Array.size_push];omega,fun k hk=>by show(w.heap.push _)[k]? =_;rw[Array.getElem?_push,if_neg (by omega)]⟩
theorem TD (n:Int):inI (Go.RowKit.wrap64 n):=by unfold inI Go.RowKit.wrap64;omega
theorem RQ {B B':Nat} {a b:World} (h:Go.RowKit.Below B a b) (hB:B'<=B):Go.RowKit.Below B' a b:=⟨h.os,h.tape,h.output,h.size,fun k hk=>h.block k (Nat.lt_of_lt_of_le hk hB)⟩
def BR (l:List UInt8):Prop:=l.length=10/\∀c∈l,Rx c
theorem Yj (n c:Nat) (h:n<10000000000) (h1:48<=c) (h2:c<=57):Go.RowKit.wrap64 (Go.RowKit.wrap64 ((n:Int)*10)+Go.RowKit.wrap64 (Go.RowKit.wrap32 ((c:Int) - 48)))=((n*10+(c - 48):Nat):Int):=by
 have e1:Go.RowKit.wrap32 ((c:Int) - 48)=(c:Int) - 48:=by unfold Go.RowKit.wrap32;omega
 have e2:Go.RowKit.wrap64 ((n:Int)*10)=(n:Int)*10:=by unfold Go.RowKit.wrap64;omega
 have e3:Go.RowKit.wrap64 ((c:Int) - 48)=(c:Int) - 48:=by unfold Go.RowKit.wrap64;omega
 have e4:Go.RowKit.wrap64 ((n:Int)*10+((c:Int) - 48))=(n:Int)*10+((c:Int) - 48):=by unfold Go.RowKit.wrap64;omega
 rw[e1,e2,e3,e4];omega
theorem Uu {l:List UInt8} {pos:Nat} (ht:BR l) (h:pos<=10):qI (l.take pos)<10000000000:=by
 have hb2:=J7 (l.take pos).length (l.take pos) rfl (fun c hc=>ht.2 c (List.mem_of_mem_take hc))
 have hb3:(10:Nat)^(l.take pos).length<=10^10:=Nat.pow_le_pow_right (by decide) (by rw[List.length_take];omega)
 have hbig:(10:Nat)^10=10000000000:=by decide
 omega
theorem VT (l:List UInt8) (pos:Nat) (h:pos<(⟨l.toArray⟩:ByteArray).size) (h2:pos<l.length):(⟨l.toArray⟩:ByteArray)[pos]'h=l[pos]'h2:=by
 show l.toArray[pos]'(by rw[List.size_toArray];exact h2)=_
 rw[List.getElem_toArray]
theorem Uh {l:List UInt8} {r:ByteArray} {pos:Nat} {acc:Int} (hr:(⟨l.toArray⟩:ByteArray)=r) (hsz:r.size=l.length) (ht:BR l) (hp:pos<r.size) (hv:pos<=10/\acc=((qI (l.take pos):Nat):Int)):
 pos+(Utf8.decode r pos).2<=10/\Go.RowKit.wrap64 (Go.RowKit.wrap64 (acc*10)+Go.RowKit.wrap64 (Go.RowKit.wrap32 (((Utf8.decode r pos).1:Int) - 48)))=((qI (l.take (pos+(Utf8.decode r pos).2)):Nat):Int):=by
 obtain⟨h10,rfl⟩:=hv
 have hp10:pos<10:=by rw[hsz,ht.1]at hp;exact hp
 have hpl:pos<l.length:=by rw[ht.1];exact hp10
 have hb:r[pos]'hp=l[pos]'hpl:=by subst hr;exact VT l pos hp hpl
 have hd:=tX.1 (ht.2 _ (List.getElem_mem hpl))
 have hdec:=decode_ascii r pos hp (by rw[hb];omega)
 rw[hb]at hdec
 have d1:(Utf8.decode r pos).1=(l[pos]'hpl).toNat:=by rw[hdec]
 have d2:(Utf8.decode r pos).2=1:=by rw[hdec]
 rw[d1,d2]
 refine⟨hp10,?_⟩
 rw[List.take_succ_eq_append_getElem hpl,MX]
 exact Yj _ _ (Uu ht h10) hd.1 hd.2
theorem Qv (s r:ByteArray) (w:World)
 (h1:Calls PG 163 #[.string s,.string ⟨#[108,111,103,46]⟩] w fun e w'=>e= .returned (.tuple #[.string r,.bool false])/\w'=w):
 Calls PG 165 #[.string s] w fun e w'=>e= .returned (.int .i64 0)/\Go.RowKit.Below w.heap.size w w':=by
 go_enter Go.Proofs.Tryz.func165,Go.Proofs.Tryz.ntmps165
 go_wp2_with (go_at_call 163;refine h1.mono ?_;rintro e W1 ⟨rfl,rfl⟩)
 all_goals (go_ret;exact⟨rfl,Go.RowKit.Below.refl _ _⟩)
set_option maxHeartbeats 1000000 in
set_option maxRecDepth 1000000 in
theorem VQ (s:ByteArray) (l:List UInt8) (nm:Int->List UInt8) (w:World)
 (h1:Calls PG 163 #[.string s,.string ⟨#[108,111,103,46]⟩] w fun e w'=>e= .returned (.tuple #[.string ⟨l.toArray⟩,.bool true])/\w'=w)
 (h3:∀v,inI v->∀w1,Go.RowKit.Below w.heap.size w w1->Calls PG 102 #[.int .i64 v] w1 fun e w'=>e= .returned (.string ⟨(nm v).toArray⟩)/\Go.RowKit.Below w1.heap.size w1 w'):
 Calls PG 165 #[.string s] w fun e w'=>(∃v,inI v/\(BR l->v=((qI l:Nat):Int))/\e= .returned (.int .i64 (if nm v=s.toList then v else 0)))/\Go.RowKit.Below w.heap.size w w':=by
 generalize hr:(⟨l.toArray⟩:ByteArray)=r at h1
 have hsz:r.size=l.length:=by rw[<-hr];show l.toArray.size=_;rw[List.size_toArray]
 go_enter Go.Proofs.Tryz.func165,Go.Proofs.Tryz.ntmps165
 go_wp2_with (go_at_call 163;refine h1.mono ?_;rintro e W1 ⟨rfl,rfl⟩)
 go_loopw [5] (fun n w'=>∃(pos:Nat) (acc:Int),w'=W1.iter r pos/\n= .int .i64 acc/\inI acc/\(BR l->pos<=10/\acc=((qI (l.take pos):Nat):Int))) (fun _ w'=>r.size - w'.iterPos W1.heap.size)
 case atStart=>exact⟨0,0,rfl,rfl,by unfold inI;omega,fun _=>⟨by omega,rfl⟩⟩
 case round=>
  obtain⟨pos,acc,rfl,rfl,hacc,hv⟩:=hrel
  by_cases hp:pos<r.size
  ·have hnx:∀ty,(Instr.next (.pointer (some ⟨W1.heap.size,0,none⟩)) true ty).run PG (W1.iter r pos)=_:=fun ty=>run_next_any W1 r pos ty hp
   go_wp2
   have hwd:=U3 r pos hp
   go_roundw
   case rel=>
    refine⟨pos+(Utf8.decode r pos).2,_,rfl,rfl,?_,?_⟩
    ·exact TD _
    ·intro ht
     exact Uh hr hsz ht hp (hv ht)
   case measure=>
    simp
    omega
  ·have hnx:∀ty,(Instr.next (.pointer (some ⟨W1.heap.size,0,none⟩)) true ty).run PG (W1.iter r pos)=_:=fun ty=>run_next_end W1 r pos ty hp
   have hbl:Go.RowKit.Below W1.heap.size W1 (W1.iter r pos):=VK W1 r pos
   go_wp2_with (go_at_call 102;refine(h3 acc hacc _ hbl).mono ?_;rintro e W3 ⟨rfl,hb3⟩)
   all_goals go_ret
   all_goals refine⟨⟨acc,hacc,fun ht=> ?_,?_⟩,hbl.trans (RQ hb3 hbl.size)⟩
   all_goals first
    |(have h10:=(hv ht).1
      have hp:¬pos<10:=by rw[hsz,ht.1]at hp;exact hp
      have:=(hv ht).2
      rw[show pos=10 by omega,List.take_of_length_le (by rw[ht.1];exact Nat.le_refl _)]at this
      exact this)
    |skip
   ·rename_i hne
    have hne:nm acc≠s.toList:=by intro e;rw[e]at hne;simp at hne
    rw[if_neg hne];rfl
   ·rename_i heq
    have heq:nm acc=s.toList:=by simpa using heq
    rw[if_pos heq];rfl
theorem adU (v:Int) (hv:inI v):lJ v=some (nV [108,111,103,46] v):=by
 unfold inI at hv
 unfold lJ nV iP jP
 by_cases h:v<1\/1000000000<v
 ·rw[if_pos h,show bor (ilt v 1) (ilt 1000000000 v)=true by rw[TJ,AQ,AQ];exact h];rfl
 ·have e1:bor (ilt v 1) (ilt 1000000000 v)=false:=by
   rw[Bool.eq_false_iff];intro g;rw[TJ,AQ,AQ]at g;exact h g
  have hl:(fmt10 v).length<=10:=by
   unfold fmt10;rw[if_neg (by omega)]
   exact E8 20 _ 10 (by have:(10:Nat)^10=10000000000:=by decide
                        omega) (by decide)
  have e2:wr .i64 (aI 10 (len (fmt10 v)))=((10 - (fmt10 v).length:Nat):Int):=by
   unfold aI len wr IntKind.wrap
   simp [IntKind.bits,IntKind.signed]
   omega
  have e3:abo v 10=some (fmt10 v):=by
   unfold abo
   rw[show band (ieq 10 10) (band (ile (-9223372036854775808) v) (ile v 9223372036854775807))=true by rw[mJ,mJ,jb,jb];exact⟨rfl,hv⟩];rfl
  have e4:abr [UInt8.ofNat 48] ((10 - (fmt10 v).length:Nat):Int)=some (List.replicate (10 - (fmt10 v).length) 48):=by
   unfold abr
   rw[show band (ile 0 ((10 - (fmt10 v).length:Nat):Int)) (band (ile ((10 - (fmt10 v).length:Nat):Int) 9223372036854775807) (ile (fK (len [UInt8.ofNat 48]) ((10 - (fmt10 v).length:Nat):Int)) 140737488355328))=true by
    rw[mJ,mJ,jb,jb,jb];simp only[fK,len,List.length_singleton];omega]
   simp only[cnd,itn,Int.toNat_natCast]
   rw[show UInt8.ofNat 48=48 from rfl,NR]
  rw[if_neg h,e1,e3]
  simp only[cnd,af,Option.bind_some,e2,e4]
  rw[show ile (ax 4 (len (List.replicate (10 - (fmt10 v).length) (48:UInt8)))) 68719476736=true by rw[jb];simp only[ax,len,List.length_replicate];omega]
  simp only
  rw[show ile (ax (len (cu [UInt8.ofNat 108,UInt8.ofNat 111,UInt8.ofNat 103,UInt8.ofNat 46] (List.replicate (10 - (fmt10 v).length) (48:UInt8)))) (len (fmt10 v))) 68719476736=true by rw[jb];simp only[ax,len,cu,List.length_append,List.length_replicate,List.length_cons,List.length_nil];omega]
  rfl
theorem acv (pre s:List UInt8) (hp:s.take pre.length=pre) (hpre:pre≠[]) (v:Int) (hv:BR (s.drop pre.length)->v=((qI (s.drop pre.length):Nat):Int)):
 (if nV pre v=s then v else 0)=jD pre s:=by
 have hs:s=pre++s.drop pre.length:=by
  conv=>lhs;rw[<-List.take_append_drop pre.length s,hp]
 have hsne:s≠[]:=fun e=>by rw[e]at hp;simp at hp;exact hpre hp
 have key:nV pre v=s->BR (s.drop pre.length)/\1<=v/\v<=1000000000:=fun hn=>by
  have hr:¬(v<1\/1000000000<v):=fun g=>by unfold nV at hn;rw[if_pos g]at hn;exact hsne hn.symm
  have hd:s.drop pre.length=List.replicate (10 - (fmt10 v).length) 48++fmt10 v:=by
   unfold nV at hn;rw[if_neg hr,List.append_assoc]at hn
   rw[<-hn,List.drop_left]
  have hl:(fmt10 v).length<=10:=by
   unfold fmt10;rw[if_neg (by omega)]
   exact E8 20 _ 10 (by have:(10:Nat)^10=10000000000:=by decide
                        omega) (by decide)
  refine⟨⟨by rw[hd,List.length_append,List.length_replicate];omega,fun c hc=> ?_⟩,by omega,by omega⟩
  rw[hd]at hc
  exact adb v hr c hc
 by_cases hc:s.take pre.length=pre/\(s.drop pre.length).length=10/\(∀c∈s.drop pre.length,48<=c/\c<=57)/\qI (s.drop pre.length)<=1000000000
 ·have e:jD pre s=((qI (s.drop pre.length):Nat):Int):=if_pos hc
  have hvd:=hv ⟨hc.2.1,hc.2.2.1⟩
  rw[e]
  by_cases h0:qI (s.drop pre.length)=0
  ·rw[h0]at hvd ⊢
   rw[if_neg (fun g=>by have:=(key g).2.1;rw[hvd]at this;revert this;decide)];rfl
  ·have hn:nV pre v=s:=by
    rw[hvd]
    unfold nV
    rw[if_neg (by omega)]
    have hf:fmt10 ((qI (s.drop pre.length):Nat):Int)=Fq 20 (qI (s.drop pre.length)):=by
     unfold fmt10;rw[if_neg (by omega)];rfl
    rw[hf,List.append_assoc,abg hc.2.1 hc.2.2.1 (J7 10 _ hc.2.1 hc.2.2.1)];exact hs.symm
   rw[if_pos hn,hvd]
 ·have e:jD pre s=0:=if_neg hc
  rw[e]
  by_cases hn:nV pre v=s
  ·exfalso
   obtain⟨k1,k2,k3⟩:=key hn
   have:=hv k1
   exact hc ⟨hp,k1.1,k1.2,by omega⟩
  ·rw[if_neg hn]
theorem PW:bW PG 165 Ec:=by
 refine XB (xs:=[.str]) (rs:=[.int .i64]) rfl rfl (WG Am (by kernel_rfl)) fun(x:List UInt8) (y:Int) w hrun hg=> ?_
 have hy:y=jD [108,111,103,46] x:=(Option.some.inj hrun).symm
 subst hy
 show Calls PG 165 #[.string ⟨x.toArray⟩] w fun e w'=>e= .returned (.int .i64 (jD [108,111,103,46] x))/\Go.RowKit.Below w.heap.size w w'
 have hcut:=Go.Proofs.Any.strings_CutPrefix Qz ⟨x.toArray⟩ ⟨#[108,111,103,46]⟩ w
 change Calls PG 163 #[.string ⟨x.toArray⟩,.string ⟨#[108,111,103,46]⟩] w (fun e w'=>e= .returned (.tuple #[.string ⟨(Go.Lib.trimPrefix x [108,111,103,46]).toArray⟩,.bool (Go.Lib.hasPrefix x [108,111,103,46])])/\w'=w)at hcut
 cases hpf:Go.Lib.hasPrefix x [108,111,103,46]with
 |false=>
  rw[hpf]at hcut
  have hz:jD [108,111,103,46] x=0:=if_neg fun g=>by
   have:Go.Lib.hasPrefix x [108,111,103,46]=true:=by
    unfold Go.Lib.hasPrefix
    rw[List.isPrefixOf_iff_prefix]
    exact⟨x.drop 4,by conv=>rhs;rw[<-List.take_append_drop 4 x,show x.take 4=_ from g.1]⟩
   rw[hpf]at this;cases this
  rw[hz]
  exact Qv _ _ w hcut
 |true=>
  rw[hpf]at hcut
  have htk:x.take 4=[108,111,103,46]:=by
   unfold Go.Lib.hasPrefix at hpf
   rw[List.isPrefixOf_iff_prefix]at hpf
   obtain⟨r,rfl⟩:=hpf
   rfl
  rw[show Go.Lib.trimPrefix x [108,111,103,46]=x.drop 4 by unfold Go.Lib.trimPrefix;rw[if_pos hpf];rfl]at hcut
  have h3:∀v,inI v->∀w1,Go.RowKit.Below w.heap.size w w1->Calls PG 102 #[.int .i64 v] w1 fun e w'=>e= .returned (.string ⟨(nV [108,111,103,46] v).toArray⟩)/\Go.RowKit.Below w1.heap.size w1 w':=fun v hv w1 hb=>
   bW.calls (xs:=[.int .i64]) (r:= .str) Am (by kernel_rfl) Ns rfl rfl v (nV [108,111,103,46] v) (adU v hv) w1 (hg.mono (fun b h=>Nat.lt_of_lt_of_le h hb.size) (fun b h=>hb.block b h))
  refine(VQ ⟨x.toArray⟩ (x.drop 4) (nV [108,111,103,46]) w hcut h3).mono fun e w' ⟨⟨v,h1,h2,he⟩,hb⟩=>⟨?_,hb⟩
  rw[ByteArray.toList_eq]at he
  rw[he,<-acv [108,111,103,46] x htk (by simp) v h2]
def wQ (p0:Int) (p1:(List aC)) (p2:fO) (v0:Int) (v1:Bool) (v2:Bool):Option ((Int×Bool×Bool) ⊕ ((Bool) ⊕ ((Bool×Bool)))):=cnd (ilt v0 p0) (cnd (band (ile 0 v0) (ilt v0 (len p1))) (af (Es (aj p1 (itn v0)).name) fun y0=>cnd (band (ilt 0 y0) (ieq y0 p2.seg)) (some (Sum.inl (wr .i64 (ax v0 1),ieq (len (aj p1 (itn v0)).data) (wr .i64 (fK p2.count 72)),v2))) (cnd (ilt p2.sure y0) (some (Sum.inr (Sum.inl false))) (some (Sum.inl (wr .i64 (ax v0 1),v1,v2))))) none) (some (Sum.inr (Sum.inr (v1,v2))))
def VX:dX:=LSh.spec ⟨85,[(22,.int .i64),(21,.ro .file)],[(2,.mp 16 0)],[(16,[.val .wal])],[(23,.int .i64),(5,.bool),(4,.bool)],[],[]⟩ [⟨.ret,[(4,.bool)],[],[]⟩,⟨.exit 0,[(5,.bool),(4,.bool)],[],[]⟩] (sP [(4,2),(7,2),(23,29)]) (fun p v=>wQ p.1 p.2.1 p.2.2 v.1 v.2.1 v.2.2)
def FK (x0:fO) (x1:ak):Option (Bool):=af (zk x0) fun y0=>af (cnd (au (au y0)) (qw x1) (some false)) fun y1=>cnd (bor (au y0) (au y1)) (some false) (af (bV (fun v=>wQ (len x1.files) x1.files x0 v.1 v.2.1 v.2.2) LF (0,ieq x0.seg 0,false)) fun y2=>gX y2 (fun y3=>some y3) fun y3=>some y3.1)
def Ij:aF:=mkSpec [.val .wal,.val .disk] [.bool] true (fun x=>FK x.1 x.2)
theorem Vw:bW PG 99 Ij:=okP [(25,zT),(23,qi),(165,Ec)] [] [(99,122,VX)] ⟨JO,yC,PW,trivial⟩ (fun K=>⟨kL K fun p v=>by kernel_rfl,trivial⟩) fun x=>by kernel_rfl
def pI (p0:Int) (p1:(List aC)) (v0:Int) (v1:(List Int)):Option ((Int×(List Int)) ⊕ (((List Int)))):=cnd (ilt v0 p0) (cnd (band (ile 0 v0) (ilt v0 (len p1))) (af (Es (aj p1 (itn v0)).name) fun y0=>cnd (ilt 0 y0) (cnd (ile (len (cu v1 [y0])) 68719476736) (some (Sum.inl (wr .i64 (ax v0 1),cu v1 [y0]))) none) (some (Sum.inl (wr .i64 (ax v0 1),v1)))) none) (some (Sum.inr v1))
def OQ:dX:=LSh.spec ⟨75,[(12,.int .i64),(11,.ro .file)],[],[],[(13,.int .i64),(3,.buf .i64)],[],[]⟩ [⟨.exit 0,[(3,.buf .i64)],[],[]⟩] (sP [(3,1),(5,2),(13,14)]) (fun p v=>pI p.1 p.2 v.1 v.2)
def AP (x0:ak):Option ((List Int)):=af (qw x0) fun y0=>cnd (au y0) (some []) (af (bV (fun v=>pI (len x0.files) x0.files v.1 v.2) LF (0,[])) fun y1=>some y1)
def G8:aF:=mkSpec [.val .disk] [.buf .i64] true (fun x=>AP x)
theorem VR:bW PG 100 G8:=okP [(23,qi),(165,Ec)] [] [(100,122,OQ)] ⟨yC,PW,trivial⟩ (fun K=>⟨kL K fun p v=>by kernel_rfl,trivial⟩) fun x=>by kernel_rfl
def dP (p0:Int) (p1:(List (List UInt8))) (v0:Int) (v1:Int):Option ((Int×Int) ⊕ ((Int) ⊕ ((Int)))):=cnd (ilt v0 p0) (cnd (band (ile 0 v0) (ilt v0 (len p1))) (af (AZ (aj p1 (itn v0))) fun y0=>cnd (au y0) (some (Sum.inr (Sum.inl v0))) (some (Sum.inl (wr .i64 (ax v0 1),v1)))) none) (some (Sum.inr (Sum.inr v1)))
def pX:dX:=LSh.spec ⟨88,[(7,.int .i64),(0,.ro .str)],[(1,.fn 187 [])],[],[(8,.int .i64),(4,.int .i64)],[],[]⟩ [⟨.ret,[(4,.int .i64)],[],[]⟩,⟨.exit 0,[(4,.int .i64)],[],[]⟩] (sP [(4,2),(8,11)]) (fun p v=>dP p.1 p.2 v.1 v.2)
def oD (x0:ak) (x1:(List (List UInt8))):Option (Int):=af (qw x0) fun y0=>cnd (au y0) (some 1) (cnd x0.down (some 9) (af (bV (fun v=>dP (len x1) x1 v.1 v.2) LF (0,0)) fun y1=>gX y1 (fun y2=>cnd (ile 0 y2) (some 1) (some 0)) fun y2=>some 0))
def nT:aF:=mkSpec [.val .disk,.ro .str] [.int .i64] true (fun x=>oD x.1 x.2)
theorem uf:bW PG 146 nT:=okP [(23,qi),(53,DX)] [186,212,187] [(2693224881851063156948,26,pX)] ⟨yC,O4,trivial⟩ (fun K=>⟨kL K fun p v=>by kernel_rfl,trivial⟩) fun x=>by kernel_rfl
def qM (x0:(List UInt8)) (x1:(List UInt8)):Option (Int):=some (abu x0 x1)
def DN:aF:=mkSpec [.str,.str] [.int .i64] true (fun x=>qM x.1 x.2)
def OW:Go.Shelf.Ren:=⟨fun | 106=>190 | 213=>213 | 265=>229 | n=>n,fun | 9=>9 | 3=>3 | n=>n,fun | n=>n⟩
theorem BQ:Go.Proofs.Lays.n106 PG OW where
 mixed:=by kernel_rfl
 f106:=by kernel_rfl
 f213:=by kernel_rfl
 f265:=by kernel_rfl
 t3:=by kernel_rfl
 a3:=fun w=>by kernel_rfl
 z3:=fun w=>by kernel_rfl
 v3:=fun w=>by kernel_rfl
 t9:=by kernel_rfl
 a9:=fun w=>by kernel_rfl
 z9:=fun w=>by kernel_rfl
 v9:=fun w=>by kernel_rfl
theorem Qn:bW PG 190 DN:=ah0 Am BQ (by kernel_rfl) fun x y h=>(Option.some.inj h).symm
def eP (p0:(List aC)) (p1:(List UInt8)) (v0:Int) (v1:Int):Option ((Int×Int) ⊕ ((Int))):=cnd (ilt v1 v0) (cnd (band (ile 0 (wr .i64 (bJ .u64 (wr .u64 (wr .i64 (ax v1 v0))) 1))) (ilt (wr .i64 (bJ .u64 (wr .u64 (wr .i64 (ax v1 v0))) 1)) (len p0))) (af (qM (aj p0 (itn (wr .i64 (bJ .u64 (wr .u64 (wr .i64 (ax v1 v0))) 1)))).name p1) fun y0=>cnd (ilt y0 0) (some (Sum.inl (v0,wr .i64 (ax (wr .i64 (bJ .u64 (wr .u64 (wr .i64 (ax v1 v0))) 1)) 1)))) (some (Sum.inl (wr .i64 (bJ .u64 (wr .u64 (wr .i64 (ax v1 v0))) 1),v1)))) none) (some (Sum.inr v1))
def pK:dX:=LSh.spec ⟨85,[(0,.ro .file),(1,.str)],[(2,.fn 189 [])],[],[(10,.int .i64),(9,.int .i64)],[],[]⟩ [⟨.exit 0,[(9,.int .i64)],[],[]⟩] (sP [(9,3),(15,20)]) (fun p v=>eP p.1 p.2 v.1 v.2)
def iV (x0:ak) (x1:(List UInt8)):Option (Int×Bool):=af (bV (fun v=>eP x0.files x1 v.1 v.2) LF (len x0.files,0)) fun y0=>cnd (bor (band (ile 0 y0) (ilt y0 (len x0.files))) (au (ilt y0 (len x0.files)))) (cnd (ilt y0 (len x0.files)) (af (qM (aj x0.files (itn y0)).name x1) fun y1=>some (y0,band (ilt y0 (len x0.files)) (ieq y1 0))) (some (y0,bor (ilt y0 (len x0.files)) false))) none
def o9:aF:=mkSpec [.val .disk,.str] [.int .i64,.bool] true (fun x=>iV x.1 x.2)
theorem xk:bW PG 147 o9:=okP [(190,DN)] [188,189] [(631360245948,60,pK)] ⟨Qn,trivial⟩ (fun K=>⟨kL K fun p v=>by kernel_rfl,trivial⟩) fun x=>by kernel_rfl
def aO (x0:(List aC)):Option ((List aC)):=NU (len x0) fun y0=>cnd (beq y0 true) (some []) (cnd (ile (len x0) 68719476736) (some x0) none)
def iQ:aF:=mkSpec [.ro .file] [.buf .file] false (fun x=>aO x)
theorem kD:bW PG 149 iQ:=okN [] [] trivial fun x=>by kernel_rfl
def iH (x0:(List aC)) (x1:Int) (x2:Int):Option ((List aC)):=cnd (band (band (band (ile 0 x1) (ile x1 x2)) (ile x2 (len x0))) (band (ile x2 (len x0)) (ile (len x0) (len x0)))) (cnd (ieq x1 x2) (some x0) (cnd (band (ile 0 x1) (ile x1 (len x0))) (cnd (band (ile 0 x2) (ile x2 (len x0))) (cnd (ile (ax (nti (itn x1)) (len (aG (aV x0 (itn x2)) (itn (aI (len x0) x2))))) (len x0)) (cnd (band (band (ile 0 (nti (nad (itn x1) (itn (len (aG (aV x0 (itn x2)) (itn (aI (len x0) x2)))))))) (ile (nti (nad (itn x1) (itn (len (aG (aV x0 (itn x2)) (itn (aI (len x0) x2))))))) (len x0))) (ile (len x0) (aI (len (iO x0 (itn x1) (aG (aV x0 (itn x2)) (itn (aI (len x0) x2))))) 0))) (some (aG (aV (iO (iO x0 (itn x1) (aG (aV x0 (itn x2)) (itn (aI (len x0) x2)))) (nad 0 (itn (nti (nad (itn x1) (itn (len (aG (aV x0 (itn x2)) (itn (aI (len x0) x2))))))))) (nN aC (itn (aI (len x0) (nti (nad (itn x1) (itn (len (aG (aV x0 (itn x2)) (itn (aI (len x0) x2))))))))))) 0) (nad (itn x1) (itn (len (aG (aV x0 (itn x2)) (itn (aI (len x0) x2)))))))) none) none) none) none)) none
def uI:aF:=mkSpec [.buf .file,.int .i64,.int .i64] [.ro .file] false (fun x=>iH x.1 x.2.1 x.2.2)
theorem Gu:bW PG 153 uI:=okN [] [] trivial fun x=>by kernel_rfl
def oI (x0:ak) (x1:(List UInt8)):Option (ak×Int):=af (oD x0 [x1]) fun y0=>cnd (au (ieq y0 0)) (cnd (au (ieq y0 0)) (some (x0,y0)) (cnd (ieq x0.fuse 0) (some (ak.mk x0.files x0.room x0.fuse true,9)) (cnd (ieq x0.fuse (-1)) (af (aO x0.files) fun y1=>af (iH y1 0 1) fun y2=>some (ak.mk y2 x0.room x0.fuse x0.down,0)) (af (aO x0.files) fun y3=>af (iH y3 0 1) fun y4=>some (ak.mk y4 x0.room (wr .i64 (aI x0.fuse 1)) x0.down,0))))) (af (iV x0 x1) fun y5=>cnd (au y5.2) (some (x0,7)) (cnd (ieq x0.fuse 0) (some (ak.mk x0.files x0.room x0.fuse true,9)) (cnd (ieq x0.fuse (-1)) (af (aO x0.files) fun y6=>af (iH y6 y5.1 (wr .i64 (ax y5.1 1))) fun y7=>some (ak.mk y7 x0.room x0.fuse x0.down,0)) (af (aO x0.files) fun y8=>af (iH y8 y5.1 (wr .i64 (ax y5.1 1))) fun y9=>some (ak.mk y9 x0.room (wr .i64 (aI x0.fuse 1)) x0.down,0)))))
def BP:aF:=mkSpec [.val .disk,.str] [.val .disk,.int .i64] false (fun x=>oI x.1 x.2)
theorem NI:bW PG 101 BP:=okN [(146,nT),(147,o9),(149,iQ),(153,uI)] [143,152] ⟨uf,xk,kD,Gu,trivial⟩ fun x=>by kernel_rfl
def wE (p0:Int) (p1:Int) (p2:(List Int)) (p3:(List Int)) (p4:fO) (v0:Int) (v1:Int) (v2:ak) (v3:ak):Option ((Int×Int×ak×ak) ⊕ ((Int×ak×ak) ⊕ ((Int×ak×ak)))):=cnd (ilt v0 p0) (cnd (band (ile 0 v0) (ilt v0 (len p2))) (cnd (ilt (wr .i64 (ax v0 1)) (len p3)) (cnd (band (ile 0 (wr .i64 (ax v0 1))) (ilt (wr .i64 (ax v0 1)) (len p3))) (cnd (ieq (aj p2 (itn v0)) p4.seg) (some (Sum.inl (wr .i64 (ax v0 1),v1,v2,v3))) (cnd (ilt p1 (wr .i64 (aI (aj p3 (itn (wr .i64 (ax v0 1)))) 1))) (some (Sum.inr (Sum.inl (v1,v2,v3)))) (af (lJ (aj p2 (itn v0))) fun y0=>af (oI v3 y0) fun y1=>cnd (au (ieq y1.2 0)) (some (Sum.inr (Sum.inr (y1.2,y1.1,y1.1)))) (some (Sum.inl (wr .i64 (ax v0 1),v1,v2,y1.1)))))) none) (cnd (ieq (aj p2 (itn v0)) p4.seg) (some (Sum.inl (wr .i64 (ax v0 1),v1,v2,v3))) (cnd (ilt p1 p4.sure) (some (Sum.inr (Sum.inl (v1,v2,v3)))) (af (lJ (aj p2 (itn v0))) fun y2=>af (oI v3 y2) fun y3=>cnd (au (ieq y3.2 0)) (some (Sum.inr (Sum.inr (y3.2,y3.1,y3.1)))) (some (Sum.inl (wr .i64 (ax v0 1),v1,v2,y3.1))))))) none) (some (Sum.inr (Sum.inl (v1,v2,v3))))
def VS:dX:=LSh.spec ⟨81,[(22,.int .i64),(2,.int .i64),(21,.ro .i64),(8,.ro .i64)],[(6,.mp 40 0),(4,.mp 32 0),(3,.mp 24 0)],[(24,[.val .wal])],[(23,.int .i64),(7,.int .i64)],[(40,[.val .disk]),(32,[.val .disk])],[]⟩ [⟨.exit 0,[(7,.int .i64)],[(40,[.val .disk]),(32,[.val .disk])],[]⟩,⟨.ret,[(7,.int .i64)],[(40,[.val .disk]),(32,[.val .disk])],[]⟩] (sP [(7,1),(9,5),(23,38)]) (fun p v=>wE p.1 p.2.1 p.2.2.1 p.2.2.2.1 p.2.2.2.2 v.1 v.2.1 v.2.2.1 v.2.2.2)
def E5 (x0:fO) (x1:ak) (x2:Int):Option (ak×Int):=af (FK x0 x1) fun y0=>cnd (au y0) (some (x1,1)) (af (AP x1) fun y1=>af (bV (fun v=>wE (len y1) x2 y1 y1 x0 v.1 v.2.1 v.2.2.1 v.2.2.2) LF (0,0,ak.mk [] 0 0 false,x1)) fun y2=>gX y2 (fun y3=>some (y3.2.2,0)) fun y3=>some (y3.2.1,y3.1))
def Ir:aF:=mkSpec [.val .wal,.val .disk,.int .i64] [.val .disk,.int .i64] false (fun x=>E5 x.1 x.2.1 x.2.2)
theorem Vf:bW PG 48 Ir:=okP [(99,Ij),(100,G8),(102,Hu),(101,BP)] [] [(48,122,VS)] ⟨Vw,VR,Ns,NI,trivial⟩ (fun K=>⟨kL K fun p v=>by kernel_rfl,trivial⟩) fun x=>by kernel_rfl
def rV (x0:fO) (x1:ak):Option (Bool):=af (E5 x0 x1 0) fun y0=>some (au (ieq y0.2 1))
def NT:aF:=mkSpec [.val .wal,.val .disk] [.bool] true (fun x=>rV x.1 x.2)
theorem ace:bW PG 32 NT:=okN [(48,Ir)] [4095] ⟨Vf,trivial⟩ fun x=>by kernel_rfl
def qo (x0:bD):Option (Bool):=some (band (band (ieq (len x0.outbox) 0) (ieq (len x0.feed.held) 0)) (au x0.feed.gap))
def KZ:aF:=mkSpec [.val .gate] [.bool] true (fun x=>qo x)
theorem Zv:bW PG 33 KZ:=okN [] [] trivial fun x=>by kernel_rfl
def dK (p0:Int) (p1:(List dQ)) (v0:Int) (v1:Int):Option ((Int×Int) ⊕ ((Int) ⊕ ((Int)))):=cnd (ilt v0 p0) (cnd (band (ile 0 v0) (ilt v0 (len p1))) (af (iD (aj p1 (itn v0))) fun y0=>af (jY y0) fun y1=>cnd (au y1) (some (Sum.inr (Sum.inl v0))) (some (Sum.inl (wr .i64 (ax v0 1),v1)))) none) (some (Sum.inr (Sum.inr v1)))
def pz:dX:=LSh.spec ⟨131,[(7,.int .i64),(0,.ro .note)],[(1,.fn 26 [])],[],[(8,.int .i64),(4,.int .i64)],[],[]⟩ [⟨.ret,[(4,.int .i64)],[],[]⟩,⟨.exit 0,[(4,.int .i64)],[],[]⟩] (sP [(4,2),(8,11)]) (fun p v=>dK p.1 p.2 v.1 v.2)
def Aq (x0:bD):Option (Bool):=af (qw x0.disk) fun y0=>af (cnd (au (au y0)) (oC x0.state) (some false)) fun y1=>af (cnd (au (bor (au y0) (au y1))) (zk x0.wal) (some false)) fun y2=>cnd (bor (bor (au y0) (au y1)) (au y2)) (some false) (af (cnd (au (au (ieq x0.state.lsn (wr .i64 (aI x0.wal.next 1))))) (wP x0.outbox x0.wal.sure x0.state.lsn) (some false)) fun y3=>af (cnd (au (bor (au (ieq x0.state.lsn (wr .i64 (aI x0.wal.next 1)))) (au y3))) (tu x0.feed (wr .i64 (ax x0.state.seq 1))) (some false)) fun y4=>cnd (au (bor (bor (au (ieq x0.state.lsn (wr .i64 (aI x0.wal.next 1)))) (au y3)) (au y4))) (af (bV (fun v=>dK (len x0.feed.held) x0.feed.held v.1 v.2) LF (0,0)) fun y5=>gX y5 (fun y6=>cnd (bor (bor (bor (au (ieq x0.state.lsn (wr .i64 (aI x0.wal.next 1)))) (au y3)) (au y4)) (ile 0 y6)) (some false) (af (cnd (band (band (band (ile 0 x0.gen) (ile x0.gen 1000000000)) (au (beq x0.up x0.disk.down))) x0.up) (rV x0.wal x0.disk) (some false)) fun y7=>af (cnd (band (band (band (band (ile 0 x0.gen) (ile x0.gen 1000000000)) (au (beq x0.up x0.disk.down))) (au (band x0.up y7))) (au x0.up)) (qo x0) (some false)) fun y8=>some (band (band (band (ile 0 x0.gen) (ile x0.gen 1000000000)) (au (beq x0.up x0.disk.down))) (bor (band x0.up y7) (band (au x0.up) y8))))) fun y6=>cnd (bor (bor (bor (au (ieq x0.state.lsn (wr .i64 (aI x0.wal.next 1)))) (au y3)) (au y4)) false) (some false) (af (cnd (band (band (band (ile 0 x0.gen) (ile x0.gen 1000000000)) (au (beq x0.up x0.disk.down))) x0.up) (rV x0.wal x0.disk) (some false)) fun y9=>af (cnd (band (band (band (band (ile 0 x0.gen) (ile x0.gen 1000000000)) (au (beq x0.up x0.disk.down))) (au (band x0.up y9))) (au x0.up)) (qo x0) (some false)) fun y10=>some (band (band (band (ile 0 x0.gen) (ile x0.gen 1000000000)) (au (beq x0.up x0.disk.down))) (bor (band x0.up y9) (band (au x0.up) y10))))) (cnd (bor (bor (bor (au (ieq x0.state.lsn (wr .i64 (aI x0.wal.next 1)))) (au y3)) (au y4)) false) (some false) (af (cnd (band (band (band (ile 0 x0.gen) (ile x0.gen 1000000000)) (au (beq x0.up x0.disk.down))) x0.up) (rV x0.wal x0.disk) (some false)) fun y11=>af (cnd (band (band (band (band (ile 0 x0.gen) (ile x0.gen 1000000000)) (au (beq x0.up x0.disk.down))) (au (band x0.up y11))) (au x0.up)) (qo x0) (some false)) fun y12=>some (band (band (band (ile 0 x0.gen) (ile x0.gen 1000000000)) (au (beq x0.up x0.disk.down))) (bor (band x0.up y11) (band (au x0.up) y12))))))
def DY:aF:=mkSpec [.val .gate] [.bool] true (fun x=>Aq x)
theorem O8:bW PG 6 DY:=okP [(23,qi),(24,qj),(25,zT),(28,qf),(27,kG),(29,Aw),(30,yP),(32,NT),(33,KZ)] [4095,26,31,64] [(110681467330006085696,26,pz)] ⟨yC,xR,JO,xU,ou,KU,Hy,ace,Zv,trivial⟩ (fun K=>⟨kL K fun p v=>by kernel_rfl,trivial⟩) fun x=>by kernel_rfl
def mP (x0:bD):Option (bH):=af (bY x0.outbox) fun y0=>af (dD x0.feed.held) fun y1=>some (bH.mk x0.state y0 (gJ.mk y1 x0.feed.gap))
def Px:aF:=mkSpec [.val .gate] [.val .plain] false (fun x=>mP x)
theorem ado:bW PG 7 Px:=okN [(34,jU),(35,oU)] [] ⟨nM,xW,trivial⟩ fun x=>by kernel_rfl
def rY (x0:bD):Option (Int):=af (Aq x0) fun y0=>cnd (au y0) (some 1) (cnd (au x0.up) (some 9) (some 0))
def tY:aF:=mkSpec [.val .gate] [.int .i64] true (fun x=>rY x)
theorem CU:bW PG 36 tY:=okN [(6,DY)] [4095] ⟨O8,trivial⟩ fun x=>by kernel_rfl
def JW (x0:iq):Option (SA6×Int):=af (jY x0) fun y0=>cnd (au y0) (some (SA6.mk 0 0 0 0 0 0,1)) (cnd (ieq x0.kind 1) (some (SA6.mk x0.order x0.account x0.symbol x0.side x0.qty x0.price,0)) (cnd (ieq x0.kind 4) (some (SA6.mk x0.account x0.symbol x0.long x0.short x0.opn 0,0)) (cnd (ieq x0.kind 5) (cnd x0.on (some (SA6.mk 1 0 0 0 0 0,0)) (some (SA6.mk 0 0 0 0 0 0,0))) (cnd (ieq x0.kind 6) (some (SA6.mk x0.seq x0.what x0.order x0.qty x0.price 0,0)) (some (SA6.mk x0.order x0.qty x0.price 0 0 0,0))))))
def PE:aF:=mkSpec [.val .recd] [.val .a6,.int .i64] true (fun x=>JW x)
theorem acs:bW PG 65 PE:=okN [(27,kG)] [] ⟨ou,trivial⟩ fun x=>by kernel_rfl
def dI (x0:(List iE)):Option ((List iE)):=NU (len x0) fun y0=>cnd (beq y0 true) (some []) (cnd (ile (len x0) 68719476736) (some x0) none)
def nY:aF:=mkSpec [.ro .frame] [.buf .frame] true (fun x=>dI x)
theorem xK:bW PG 113 nY:=okN [] [] trivial fun x=>by kernel_rfl
def Oc (x0:fO) (x1:Int) (x2:SA6):Option (fO×Int):=af (zk x0) fun y0=>cnd (au y0) (cnd (au y0) (some (x0,1)) (cnd (ilt 1000000000 x0.next) (some (x0,3)) (cnd (ieq (len x0.wait) 32) (some (x0,6)) (af (dI x0.wait) fun y1=>cnd (ile (len (cu y1 [iE.mk x0.epoch x0.next x1 x2.a0 x2.a1 x2.a2 x2.a3 x2.a4 x2.a5])) 68719476736) (some (fO.mk x0.epoch (wr .i64 (ax x0.next 1)) x0.sure x0.seg x0.count (cu y1 [iE.mk x0.epoch x0.next x1 x2.a0 x2.a1 x2.a2 x2.a3 x2.a4 x2.a5]),0)) none)))) (cnd (ilt x1 1) (cnd (ilt x1 1) (some (x0,1)) (cnd (ilt 1000000000 x0.next) (some (x0,3)) (cnd (ieq (len x0.wait) 32) (some (x0,6)) (af (dI x0.wait) fun y2=>cnd (ile (len (cu y2 [iE.mk x0.epoch x0.next x1 x2.a0 x2.a1 x2.a2 x2.a3 x2.a4 x2.a5])) 68719476736) (some (fO.mk x0.epoch (wr .i64 (ax x0.next 1)) x0.sure x0.seg x0.count (cu y2 [iE.mk x0.epoch x0.next x1 x2.a0 x2.a1 x2.a2 x2.a3 x2.a4 x2.a5]),0)) none)))) (cnd (ilt 6 x1) (some (x0,1)) (cnd (ilt 1000000000 x0.next) (some (x0,3)) (cnd (ieq (len x0.wait) 32) (some (x0,6)) (af (dI x0.wait) fun y3=>cnd (ile (len (cu y3 [iE.mk x0.epoch x0.next x1 x2.a0 x2.a1 x2.a2 x2.a3 x2.a4 x2.a5])) 68719476736) (some (fO.mk x0.epoch (wr .i64 (ax x0.next 1)) x0.sure x0.seg x0.count (cu y3 [iE.mk x0.epoch x0.next x1 x2.a0 x2.a1 x2.a2 x2.a3 x2.a4 x2.a5]),0)) none)))))
def SH:aF:=mkSpec [.val .wal,.int .i64,.val .a6] [.val .wal,.int .i64] false (fun x=>Oc x.1 x.2.1 x.2.2)
theorem afw:bW PG 66 SH:=okN [(25,zT),(113,nY)] [] ⟨JO,xK,trivial⟩ fun x=>by kernel_rfl
def xB (x0:bD) (x1:iq):Option (bD×Int):=af (um x0.state x1) fun y0=>cnd (au (ieq y0.2 0)) (some (x0,y0.2)) (af (JW x1) fun y1=>af (Oc x0.wal x1.kind y1.1) fun y2=>cnd (au (ieq y2.2 0)) (some (x0,y2.2)) (some (bD.mk x0.disk y2.1 y0.1 x0.outbox x0.feed x0.gen x0.up,0)))
def yQ:aF:=mkSpec [.val .gate,.val .recd] [.val .gate,.int .i64] false (fun x=>xB x.1 x.2)
theorem H8:bW PG 37 yQ:=okN [(44,zX),(65,PE),(66,SH)] [] ⟨Jw,acs,afw,trivial⟩ fun x=>by kernel_rfl
def CY (x0:bD) (x1:iq):Option (bD×Int):=af (rY x0) fun y0=>cnd (au (ieq y0 0)) (some (x0,y0)) (cnd (bor (ilt x1.kind 1) (ilt 3 x1.kind)) (some (x0,1)) (af (xB x0 x1) fun y1=>cnd (au (ieq y1.2 0)) (some (x0,y1.2)) (af (lZ y1.1.state x1.order) fun y2=>cnd (band (ile 0 y2) (ilt y2 (len y1.1.state.orders))) (af (bY x0.outbox) fun y3=>af (oK x1.kind (aj y1.1.state.orders (itn y2)) y1.1.state.lsn) fun y4=>cnd (ile (len (cu y3 [y4])) 68719476736) (some (bD.mk y1.1.disk y1.1.wal y1.1.state (cu y3 [y4]) y1.1.feed y1.1.gen y1.1.up,0)) none) none)))
def Je:aF:=mkSpec [.val .gate,.val .recd] [.val .gate,.int .i64] false (fun x=>CY x.1 x.2)
theorem YL:bW PG 9 Je:=okN [(36,tY),(37,yQ),(38,zQ),(34,jU),(39,F7)] [4095] ⟨CU,H8,JB,nM,RV,trivial⟩ fun x=>by kernel_rfl
def lH (p0:ay) (p1:ay) (v0:Int) (v1:Bool):Option ((Int×Bool) ⊕ ((Bool) ⊕ ((Bool)))):=cnd (ilt v0 (len p1.orders)) (cnd (band (ile 0 v0) (ilt v0 (len p1.orders))) (cnd (band (ile 0 v0) (ilt v0 (len p0.orders))) (cnd (au (band (ieq (aj p1.orders (itn v0)).id (aj p0.orders (itn v0)).id) (band (ieq (aj p1.orders (itn v0)).account (aj p0.orders (itn v0)).account) (band (ieq (aj p1.orders (itn v0)).symbol (aj p0.orders (itn v0)).symbol) (band (ieq (aj p1.orders (itn v0)).side (aj p0.orders (itn v0)).side) (band (ieq (aj p1.orders (itn v0)).qty (aj p0.orders (itn v0)).qty) (band (ieq (aj p1.orders (itn v0)).price (aj p0.orders (itn v0)).price) (band (ieq (aj p1.orders (itn v0)).filled (aj p0.orders (itn v0)).filled) (band (ieq (aj p1.orders (itn v0)).phase (aj p0.orders (itn v0)).phase) (band (ieq (aj p1.orders (itn v0)).newQty (aj p0.orders (itn v0)).newQty) (band (ieq (aj p1.orders (itn v0)).newPrice (aj p0.orders (itn v0)).newPrice) (band (ieq (aj p1.orders (itn v0)).version (aj p0.orders (itn v0)).version) (beq (aj p1.orders (itn v0)).asked (aj p0.orders (itn v0)).asked))))))))))))) (some (Sum.inr (Sum.inl false))) (some (Sum.inl (wr .i64 (ax v0 1),v1)))) none) none) (some (Sum.inr (Sum.inr v1)))
def Jr:dX:=LSh.spec ⟨146,[],[(3,.mp 24 0),(2,.mp 16 0)],[(24,[.val .state]),(16,[.val .state])],[(5,.int .i64),(4,.bool)],[],[]⟩ [⟨.ret,[(4,.bool)],[],[]⟩,⟨.exit 0,[(4,.bool)],[],[]⟩] (sP [(4,2),(85,18)]) (fun p v=>lH p.1 p.2 v.1 v.2)
def kV (p0:ay) (p1:ay) (v0:Int) (v1:Bool):Option ((Int×Bool) ⊕ ((Bool) ⊕ ((Bool)))):=cnd (ilt v0 (len p1.cells)) (cnd (band (ile 0 v0) (ilt v0 (len p1.cells))) (cnd (band (ile 0 v0) (ilt v0 (len p0.cells))) (cnd (au (band (ieq (aj p1.cells (itn v0)).pos (aj p0.cells (itn v0)).pos) (band (ieq (aj p1.cells (itn v0)).buy (aj p0.cells (itn v0)).buy) (band (ieq (aj p1.cells (itn v0)).sell (aj p0.cells (itn v0)).sell) (ieq (aj p1.cells (itn v0)).opn (aj p0.cells (itn v0)).opn))))) (some (Sum.inr (Sum.inl false))) (some (Sum.inl (wr .i64 (ax v0 1),v1)))) none) none) (some (Sum.inr (Sum.inr v1)))
def H6:dX:=LSh.spec ⟨214,[],[(3,.mp 24 0),(2,.mp 16 0)],[(24,[.val .state]),(16,[.val .state])],[(6,.int .i64),(4,.bool)],[],[]⟩ [⟨.ret,[(4,.bool)],[],[]⟩,⟨.exit 2,[(4,.bool)],[],[]⟩] (sP [(4,1),(6,1),(103,18)]) (fun p v=>kV p.1 p.2 v.1 v.2)
def kP (p0:ay) (p1:ay) (v0:Int) (v1:Bool):Option ((Int×Bool) ⊕ ((Bool) ⊕ ((Bool)))):=cnd (ilt v0 (len p1.limits)) (cnd (band (ile 0 v0) (ilt v0 (len p1.limits))) (cnd (band (ile 0 v0) (ilt v0 (len p0.limits))) (cnd (au (band (ieq (aj p1.limits (itn v0)).long (aj p0.limits (itn v0)).long) (band (ieq (aj p1.limits (itn v0)).short (aj p0.limits (itn v0)).short) (ieq (aj p1.limits (itn v0)).opn (aj p0.limits (itn v0)).opn)))) (some (Sum.inr (Sum.inl false))) (some (Sum.inl (wr .i64 (ax v0 1),v1)))) none) none) (some (Sum.inr (Sum.inr v1)))
def H9:dX:=LSh.spec ⟨282,[],[(3,.mp 24 0),(2,.mp 16 0)],[(24,[.val .state]),(16,[.val .state])],[(7,.int .i64),(4,.bool)],[],[]⟩ [⟨.ret,[(4,.bool)],[],[]⟩,⟨.exit 4,[(4,.bool)],[],[]⟩] (sP [(4,1),(7,1),(121,18)]) (fun p v=>kP p.1 p.2 v.1 v.2)
def kZ (p0:ay) (p1:ay) (v0:Int) (v1:Bool):Option ((Int×Bool) ⊕ ((Bool) ⊕ ((Bool)))):=cnd (ilt v0 (len p1.caps)) (cnd (band (ile 0 v0) (ilt v0 (len p1.caps))) (cnd (band (ile 0 v0) (ilt v0 (len p0.caps))) (cnd (au (ieq (aj p1.caps (itn v0)) (aj p0.caps (itn v0)))) (some (Sum.inr (Sum.inl false))) (some (Sum.inl (wr .i64 (ax v0 1),v1)))) none) none) (some (Sum.inr (Sum.inr v1)))
def Ih:dX:=LSh.spec ⟨350,[],[(3,.mp 24 0),(2,.mp 16 0)],[(24,[.val .state]),(16,[.val .state])],[(8,.int .i64),(4,.bool)],[],[]⟩ [⟨.ret,[(4,.bool)],[],[]⟩,⟨.exit 6,[(4,.bool)],[],[]⟩] (sP [(4,1),(8,1),(139,18)]) (fun p v=>kZ p.1 p.2 v.1 v.2)
def qZ (x0:ay) (x1:ay):Option (Bool):=cnd (bor (bor (bor (bor (bor (bor (bor (bor (bor (au (ieq x0.accounts x1.accounts)) (au (ieq x0.symbols x1.symbols))) (au (beq x0.kill x1.kill))) (au (ieq x0.last x1.last))) (au (ieq x0.seq x1.seq))) (au (ieq x0.lsn x1.lsn))) (au (ieq (len x0.orders) (len x1.orders)))) (au (ieq (len x0.cells) (len x1.cells)))) (au (ieq (len x0.limits) (len x1.limits)))) (au (ieq (len x0.caps) (len x1.caps)))) (some false) (af (bV (fun v=>lH x1 x0 v.1 v.2) LF (0,false)) fun y0=>gX y0 (fun y1=>some y1) fun y1=>af (bV (fun v=>kV x1 x0 v.1 v.2) LF (0,y1)) fun y2=>gX y2 (fun y3=>some y3) fun y3=>af (bV (fun v=>kP x1 x0 v.1 v.2) LF (0,y3)) fun y4=>gX y4 (fun y5=>some y5) fun y5=>af (bV (fun v=>kZ x1 x0 v.1 v.2) LF (0,y5)) fun y6=>gX y6 (fun y7=>some y7) fun y7=>some true)
def zV:aF:=mkSpec [.val .state,.val .state] [.bool] true (fun x=>qZ x.1 x.2)
theorem LP:bW PG 41 zV:=okP [] [] [(41,58,Jr),(41,122,H6),(41,250,H9),(41,506,Ih)] trivial (fun K=>⟨kL K fun p v=>by kernel_rfl,kL K fun p v=>by kernel_rfl,kL K fun p v=>by kernel_rfl,kL K fun p v=>by kernel_rfl,trivial⟩) fun x=>by kernel_rfl
def jA (p0:(List jQ)) (p1:(List jQ)) (v0:Int) (v1:Bool):Option ((Int×Bool) ⊕ ((Bool) ⊕ ((Bool)))):=cnd (ilt v0 (len p0)) (cnd (band (ile 0 v0) (ilt v0 (len p0))) (cnd (band (ile 0 v0) (ilt v0 (len p1))) (cnd (au (band (ieq (aj p0 (itn v0)).kind (aj p1 (itn v0)).kind) (band (ieq (aj p0 (itn v0)).order (aj p1 (itn v0)).order) (band (ieq (aj p0 (itn v0)).account (aj p1 (itn v0)).account) (band (ieq (aj p0 (itn v0)).symbol (aj p1 (itn v0)).symbol) (band (ieq (aj p0 (itn v0)).side (aj p1 (itn v0)).side) (band (ieq (aj p0 (itn v0)).qty (aj p1 (itn v0)).qty) (band (ieq (aj p0 (itn v0)).price (aj p1 (itn v0)).price) (band (ieq (aj p0 (itn v0)).version (aj p1 (itn v0)).version) (ieq (aj p0 (itn v0)).lsn (aj p1 (itn v0)).lsn)))))))))) (some (Sum.inr (Sum.inl false))) (some (Sum.inl (wr .i64 (ax v0 1),v1)))) none) none) (some (Sum.inr (Sum.inr v1)))
def EF:dX:=LSh.spec ⟨73,[(0,.ro .msg),(1,.ro .msg)],[],[],[(5,.int .i64),(4,.bool)],[],[]⟩ [⟨.ret,[(4,.bool)],[],[]⟩,⟨.exit 0,[(4,.bool)],[],[]⟩] (sP [(4,2),(11,15)]) (fun p v=>jA p.1 p.2 v.1 v.2)
def eU (x0:(List jQ)) (x1:(List jQ)):Option (Bool):=cnd (au (ieq (len x0) (len x1))) (some false) (af (bV (fun v=>jA x0 x1 v.1 v.2) LF (0,false)) fun y0=>gX y0 (fun y1=>some y1) fun y1=>some true)
def pO:aF:=mkSpec [.ro .msg,.ro .msg] [.bool] true (fun x=>eU x.1 x.2)
theorem yK:bW PG 16 pO:=okP [] [] [(16,58,EF)] trivial (fun K=>⟨kL K fun p v=>by kernel_rfl,trivial⟩) fun x=>by kernel_rfl
def lM (p0:gJ) (p1:gJ) (v0:Int) (v1:Bool):Option ((Int×Bool) ⊕ ((Bool) ⊕ ((Bool)))):=cnd (ilt v0 (len p1.held)) (cnd (band (ile 0 v0) (ilt v0 (len p1.held))) (cnd (band (ile 0 v0) (ilt v0 (len p0.held))) (cnd (au (band (ieq (aj p1.held (itn v0)).seq (aj p0.held (itn v0)).seq) (band (ieq (aj p1.held (itn v0)).what (aj p0.held (itn v0)).what) (band (ieq (aj p1.held (itn v0)).order (aj p0.held (itn v0)).order) (band (ieq (aj p1.held (itn v0)).qty (aj p0.held (itn v0)).qty) (ieq (aj p1.held (itn v0)).price (aj p0.held (itn v0)).price)))))) (some (Sum.inr (Sum.inl false))) (some (Sum.inl (wr .i64 (ax v0 1),v1)))) none) none) (some (Sum.inr (Sum.inr v1)))
def Js:dX:=LSh.spec ⟨84,[],[(3,.mp 24 0),(2,.mp 16 0)],[(24,[.val .feed]),(16,[.val .feed])],[(5,.int .i64),(4,.bool)],[],[]⟩ [⟨.ret,[(4,.bool)],[],[]⟩,⟨.exit 0,[(4,.bool)],[],[]⟩] (sP [(4,2),(20,18)]) (fun p v=>lM p.1 p.2 v.1 v.2)
def rC (x0:gJ) (x1:gJ):Option (Bool):=cnd (bor (au (beq x0.gap x1.gap)) (au (ieq (len x0.held) (len x1.held)))) (some false) (af (bV (fun v=>lM x1 x0 v.1 v.2) LF (0,false)) fun y0=>gX y0 (fun y1=>some y1) fun y1=>some true)
def AB:aF:=mkSpec [.val .feed,.val .feed] [.bool] true (fun x=>rC x.1 x.2)
theorem LX:bW PG 42 AB:=okP [] [] [(42,58,Js)] trivial (fun K=>⟨kL K fun p v=>by kernel_rfl,trivial⟩) fun x=>by kernel_rfl
def eF (x0:bH) (x1:bH):Option (Bool):=af (qZ x0.state x1.state) fun y0=>af (cnd y0 (eU x0.outbox x1.outbox) (some false)) fun y1=>af (cnd (band y0 y1) (rC x0.feed x1.feed) (some false)) fun y2=>some (band (band y0 y1) y2)
def Ba:aF:=mkSpec [.val .plain,.val .plain] [.bool] true (fun x=>eF x.1 x.2)
theorem ND:bW PG 11 Ba:=okN [(41,zV),(16,pO),(42,AB)] [] ⟨LP,yK,LX,trivial⟩ fun x=>by kernel_rfl
def oL (p0:Int) (p1:(List dQ)) (p2:bD) (v0:Int) (v1:Int) (v2:Int) (v3:bD) (v4:bD):Option ((Int×Int×Int×bD×bD) ⊕ ((Int×bD×bD) ⊕ ((Int×Int×bD×bD)))):=cnd (ilt v0 p0) (cnd (band (ile 0 v0) (ilt v0 (len p1))) (af (iD (aj p1 (itn v0))) fun y0=>af (xB v3 y0) fun y1=>cnd (au (ieq y1.2 0)) (some (Sum.inr (Sum.inl (y1.2,y1.1,p2)))) (some (Sum.inl (wr .i64 (ax v0 1),y1.2,v2,y1.1,v4)))) none) (some (Sum.inr (Sum.inr (v1,v2,v3,v4))))
def Td:dX:=LSh.spec ⟨121,[(62,.int .i64),(61,.ro .note)],[(10,.mp 416 0),(4,.mp 32 0),(2,.mp 16 0)],[(16,[.val .gate])],[(63,.int .i64),(9,.int .i64),(5,.int .i64)],[(416,[.val .gate]),(32,[.val .gate])],[]⟩ [⟨.ret,[(5,.int .i64)],[(416,[.val .gate]),(32,[.val .gate])],[]⟩,⟨.exit 1,[(9,.int .i64),(5,.int .i64)],[(416,[.val .gate]),(32,[.val .gate])],[]⟩] (sP [(5,1),(9,1),(12,1),(63,16)]) (fun p v=>oL p.1 p.2.1 p.2.2 v.1 v.2.1 v.2.2.1 v.2.2.2.1 v.2.2.2.2)
def GV (x0:bD) (x1:dQ):Option (bD×Int):=af (rY x0) fun y0=>cnd (au (ieq y0 0)) (some (x0,y0)) (af (iD x1) fun y1=>af (jY y1) fun y2=>cnd (au y2) (some (x0,1)) (af (wH x0.feed x1 (wr .i64 (ax x0.state.seq 1))) fun y3=>cnd (au (ieq y3.2.2 0)) (some (x0,y3.2.2)) (cnd (ilt 1000000000 (wr .i64 (ax x0.state.lsn (len y3.2.1)))) (some (x0,3)) (cnd (ilt 32 (wr .i64 (ax (len y3.2.1) (len x0.wal.wait)))) (some (x0,6)) (af (bV (fun v=>oL (len y3.2.1) y3.2.1 x0 v.1 v.2.1 v.2.2.1 v.2.2.2.1 v.2.2.2.2) LF (0,y3.2.2,0,x0,bD.mk (ak.mk [] 0 0 false) (fO.mk 0 0 0 0 0 []) (ay.mk 0 0 [] [] [] [] false 0 0 0) [] (gJ.mk [] false) 0 false)) fun y4=>gX y4 (fun y5=>some (y5.2.2,y5.1)) fun y5=>some (bD.mk y5.2.2.1.disk y5.2.2.1.wal y5.2.2.1.state y5.2.2.1.outbox y3.1 y5.2.2.1.gen y5.2.2.1.up,0))))))
def LM:aF:=mkSpec [.val .gate,.val .note] [.val .gate,.int .i64] false (fun x=>GV x.1 x.2)
theorem aaZ:bW PG 12 LM:=okP [(36,tY),(28,qf),(27,kG),(43,FN),(37,yQ)] [4095] [(12,1018,Td)] ⟨CU,xU,ou,RG,H8,trivial⟩ (fun K=>⟨kL K fun p v=>by kernel_rfl,trivial⟩) fun x=>by kernel_rfl
def CS (v0:Int) (v1:Int):Option ((Int×Int) ⊕ ((Int))):=cnd (ilt v0 4) (cnd (ieq (wr .u32 (ng .u32 v1 1)) 1) (some (Sum.inl (wr .i64 (ax v0 1),wr .u32 (gy .u32 (bJ .u32 v1 1) 3988292384)))) (some (Sum.inl (wr .i64 (ax v0 1),bJ .u32 v1 1)))) (some (Sum.inr v1))
def YE:dX:=LSh.spec ⟨67,[],[],[],[(4,.int .i64),(0,.int .u32)],[],[]⟩ [⟨.exit 0,[(0,.int .u32)],[],[]⟩] (sP [(0,1),(3,12)]) (fun p v=>CS v.1 v.2)
def dh (x0:Int):Option (Int):=af (bV (fun v=>CS v.1 v.2) LF (0,x0)) fun y0=>some y0
def Ib:aF:=mkSpec [.int .u32] [.int .u32] true (fun x=>dh x)
theorem Vz:bW PG 211 Ib:=okP [] [] [(211,26,YE)] trivial (fun K=>⟨kL K fun p v=>by kernel_rfl,trivial⟩) fun x=>by kernel_rfl
def CX (p0:Int) (p1:(List Int)) (v0:Int) (v1:Int):Option ((Int×Int) ⊕ ((Int))):=cnd (ilt v0 p0) (cnd (band (ile 0 v0) (ilt v0 (len p1))) (af (dh (wr .u32 (ng .u32 (wr .u32 (gy .u32 v1 (wr .u32 (aj p1 (itn v0))))) 15))) fun y0=>af (dh (wr .u32 (ng .u32 (wr .u32 (gy .u32 y0 (bJ .u32 (wr .u32 (gy .u32 v1 (wr .u32 (aj p1 (itn v0))))) 4))) 15))) fun y1=>some (Sum.inl (wr .i64 (ax v0 1),wr .u32 (gy .u32 y1 (bJ .u32 (wr .u32 (gy .u32 y0 (bJ .u32 (wr .u32 (gy .u32 v1 (wr .u32 (aj p1 (itn v0))))) 4))) 4))))) none) (some (Sum.inr v1))
def Yt:dX:=LSh.spec ⟨73,[(11,.int .i64),(10,.ro .u8)],[],[],[(12,.int .i64),(5,.int .u32)],[],[]⟩ [⟨.exit 0,[(5,.int .u32)],[],[]⟩] (sP [(5,1),(7,1),(12,21)]) (fun p v=>CX p.1 p.2 v.1 v.2)
def P5 (x0:Int) (x1:(List Int)):Option (Int):=af (bV (fun v=>CX (len x1) x1 v.1 v.2) LF (0,wr .u32 (gy .u32 4294967295 x0))) fun y0=>some (wr .u32 (gy .u32 4294967295 y0))
def Pj:aF:=mkSpec [.int .u32,.ro .u8] [.int .u32] true (fun x=>P5 x.1 x.2)
theorem acw:bW PG 185 Pj:=okP [(211,Ib)] [] [(185,58,Yt)] ⟨Vz,trivial⟩ (fun K=>⟨kL K fun p v=>by kernel_rfl,trivial⟩) fun x=>by kernel_rfl
def Iz (x0:(List Int)):Option (Int):=af (P5 0 x0) fun y0=>some y0
def JY:aF:=mkSpec [.ro .u8] [.int .u32] true (fun x=>Iz x)
theorem XV:bW PG 140 JY:=okN [(185,Pj)] [] ⟨acw,trivial⟩ fun x=>by kernel_rfl
def aK (p0:Int) (v0:Int) (v1:(List Int)):Option ((Int×(List Int)) ⊕ (((List Int)))):=cnd (ile 0 v0) (cnd (ile 0 (wr .i64 (fK 8 v0))) (cnd (ile (len (cu v1 [wr .u8 (bJ .u64 p0 (wr .i64 (fK 8 v0)))])) 68719476736) (some (Sum.inl (wr .i64 (aI v0 1),cu v1 [wr .u8 (bJ .u64 p0 (wr .i64 (fK 8 v0)))]))) none) none) (some (Sum.inr v1))
def xq:dX:=LSh.spec ⟨76,[(1,.int .u64)],[(0,.mp 56 0)],[],[(6,.int .i64)],[(56,[.buf .u8])],[]⟩ [⟨.exit 0,[],[(56,[.buf .u8])],[]⟩] (sP [(6,1),(9,16)]) (fun p v=>aK p v.1 v.2)
def jS (p0:Int) (v0:Int) (v1:(List Int)):Option ((Int×(List Int)) ⊕ (((List Int)))):=cnd (ile 0 v0) (cnd (ile 0 (wr .i64 (fK 8 v0))) (cnd (ile (len (cu v1 [wr .u8 (bJ .u64 p0 (wr .i64 (fK 8 v0)))])) 68719476736) (some (Sum.inl (wr .i64 (aI v0 1),cu v1 [wr .u8 (bJ .u64 p0 (wr .i64 (fK 8 v0)))]))) none) none) (some (Sum.inr v1))
def wO:dX:=LSh.spec ⟨150,[(1,.int .u64)],[(0,.mp 56 0)],[],[(6,.int .i64)],[(56,[.buf .u8])],[]⟩ [⟨.exit 0,[],[(56,[.buf .u8])],[]⟩] (sP [(6,1),(9,16)]) (fun p v=>jS p v.1 v.2)
def jG (p0:Int) (v0:Int) (v1:(List Int)):Option ((Int×(List Int)) ⊕ (((List Int)))):=cnd (ile 0 v0) (cnd (ile 0 (wr .i64 (fK 8 v0))) (cnd (ile (len (cu v1 [wr .u8 (bJ .u64 p0 (wr .i64 (fK 8 v0)))])) 68719476736) (some (Sum.inl (wr .i64 (aI v0 1),cu v1 [wr .u8 (bJ .u64 p0 (wr .i64 (fK 8 v0)))]))) none) none) (some (Sum.inr v1))
def vM:dX:=LSh.spec ⟨224,[(1,.int .u64)],[(0,.mp 56 0)],[],[(6,.int .i64)],[(56,[.buf .u8])],[]⟩ [⟨.exit 0,[],[(56,[.buf .u8])],[]⟩] (sP [(6,1),(9,16)]) (fun p v=>jG p v.1 v.2)
def jH (p0:Int) (v0:Int) (v1:(List Int)):Option ((Int×(List Int)) ⊕ (((List Int)))):=cnd (ile 0 v0) (cnd (ile 0 (wr .i64 (fK 8 v0))) (cnd (ile (len (cu v1 [wr .u8 (bJ .u64 p0 (wr .i64 (fK 8 v0)))])) 68719476736) (some (Sum.inl (wr .i64 (aI v0 1),cu v1 [wr .u8 (bJ .u64 p0 (wr .i64 (fK 8 v0)))]))) none) none) (some (Sum.inr v1))
def vG:dX:=LSh.spec ⟨298,[(1,.int .u64)],[(0,.mp 56 0)],[],[(6,.int .i64)],[(56,[.buf .u8])],[]⟩ [⟨.exit 0,[],[(56,[.buf .u8])],[]⟩] (sP [(6,1),(9,16)]) (fun p v=>jH p v.1 v.2)
def jF (p0:Int) (v0:Int) (v1:(List Int)):Option ((Int×(List Int)) ⊕ (((List Int)))):=cnd (ile 0 v0) (cnd (ile 0 (wr .i64 (fK 8 v0))) (cnd (ile (len (cu v1 [wr .u8 (bJ .u64 p0 (wr .i64 (fK 8 v0)))])) 68719476736) (some (Sum.inl (wr .i64 (aI v0 1),cu v1 [wr .u8 (bJ .u64 p0 (wr .i64 (fK 8 v0)))]))) none) none) (some (Sum.inr v1))
def vJ:dX:=LSh.spec ⟨377,[(1,.int .u64)],[(0,.mp 56 0)],[],[(6,.int .i64)],[(56,[.buf .u8])],[]⟩ [⟨.exit 0,[],[(56,[.buf .u8])],[]⟩] (sP [(6,1),(9,16)]) (fun p v=>jF p v.1 v.2)
def jr (p0:Int) (v0:Int) (v1:(List Int)):Option ((Int×(List Int)) ⊕ (((List Int)))):=cnd (ile 0 v0) (cnd (ile 0 (wr .i64 (fK 8 v0))) (cnd (ile (len (cu v1 [wr .u8 (bJ .u64 p0 (wr .i64 (fK 8 v0)))])) 68719476736) (some (Sum.inl (wr .i64 (aI v0 1),cu v1 [wr .u8 (bJ .u64 p0 (wr .i64 (fK 8 v0)))]))) none) none) (some (Sum.inr v1))
def vz:dX:=LSh.spec ⟨455,[(1,.int .u64)],[(0,.mp 56 0)],[],[(6,.int .i64)],[(56,[.buf .u8])],[]⟩ [⟨.exit 0,[],[(56,[.buf .u8])],[]⟩] (sP [(6,1),(9,16)]) (fun p v=>jr p v.1 v.2)
def jC (p0:Int) (v0:Int) (v1:(List Int)):Option ((Int×(List Int)) ⊕ (((List Int)))):=cnd (ile 0 v0) (cnd (ile 0 (wr .i64 (fK 8 v0))) (cnd (ile (len (cu v1 [wr .u8 (bJ .u64 p0 (wr .i64 (fK 8 v0)))])) 68719476736) (some (Sum.inl (wr .i64 (aI v0 1),cu v1 [wr .u8 (bJ .u64 p0 (wr .i64 (fK 8 v0)))]))) none) none) (some (Sum.inr v1))
def vC:dX:=LSh.spec ⟨533,[(1,.int .u64)],[(0,.mp 56 0)],[],[(6,.int .i64)],[(56,[.buf .u8])],[]⟩ [⟨.exit 0,[],[(56,[.buf .u8])],[]⟩] (sP [(6,1),(9,16)]) (fun p v=>jC p v.1 v.2)
def jE (p0:Int) (v0:Int) (v1:(List Int)):Option ((Int×(List Int)) ⊕ (((List Int)))):=cnd (ile 0 v0) (cnd (ile 0 (wr .i64 (fK 8 v0))) (cnd (ile (len (cu v1 [wr .u8 (bJ .u64 p0 (wr .i64 (fK 8 v0)))])) 68719476736) (some (Sum.inl (wr .i64 (aI v0 1),cu v1 [wr .u8 (bJ .u64 p0 (wr .i64 (fK 8 v0)))]))) none) none) (some (Sum.inr v1))
def vI:dX:=LSh.spec ⟨611,[(1,.int .u64)],[(0,.mp 56 0)],[],[(6,.int .i64)],[(56,[.buf .u8])],[]⟩ [⟨.exit 0,[],[(56,[.buf .u8])],[]⟩] (sP [(6,1),(9,16)]) (fun p v=>jE p v.1 v.2)
def jw (p0:Int) (v0:Int) (v1:(List Int)):Option ((Int×(List Int)) ⊕ (((List Int)))):=cnd (ile 0 v0) (cnd (ile 0 (wr .i64 (fK 8 v0))) (cnd (ile (len (cu v1 [wr .u8 (bJ .u64 p0 (wr .i64 (fK 8 v0)))])) 68719476736) (some (Sum.inl (wr .i64 (aI v0 1),cu v1 [wr .u8 (bJ .u64 p0 (wr .i64 (fK 8 v0)))]))) none) none) (some (Sum.inr v1))
def vg:dX:=LSh.spec ⟨689,[(1,.int .u64)],[(0,.mp 56 0)],[],[(6,.int .i64)],[(56,[.buf .u8])],[]⟩ [⟨.exit 0,[],[(56,[.buf .u8])],[]⟩] (sP [(6,1),(9,16)]) (fun p v=>jw p v.1 v.2)
def jB (p0:Int) (v0:Int) (v1:(List Int)):Option ((Int×(List Int)) ⊕ (((List Int)))):=cnd (ile 0 v0) (cnd (ile 0 (wr .i64 (fK 8 v0))) (cnd (ile (len (cu v1 [wr .u8 (bJ .u64 p0 (wr .i64 (fK 8 v0)))])) 68719476736) (some (Sum.inl (wr .i64 (aI v0 1),cu v1 [wr .u8 (bJ .u64 p0 (wr .i64 (fK 8 v0)))]))) none) none) (some (Sum.inr v1))
def vK:dX:=LSh.spec ⟨767,[(1,.int .u64)],[(0,.mp 56 0)],[],[(6,.int .i64)],[(56,[.buf .u8])],[]⟩ [⟨.exit 0,[],[(56,[.buf .u8])],[]⟩] (sP [(6,1),(9,16)]) (fun p v=>jB p v.1 v.2)
def Ae (x0:iE):Option ((List Int)×Int):=af (yL x0) fun y0=>cnd (au y0) (some ([],1)) (af (bV (fun v=>aK 72 v.1 v.2) LF (3,[])) fun y1=>af (bV (fun v=>jS (wr .u64 x0.epoch) v.1 v.2) LF (3,y1)) fun y2=>af (bV (fun v=>jG (wr .u64 x0.lsn) v.1 v.2) LF (7,y2)) fun y3=>af (bV (fun v=>jH (wr .u64 x0.kind) v.1 v.2) LF (3,y3)) fun y4=>af (bV (fun v=>jF (wr .u64 x0.b0) v.1 v.2) LF (7,y4)) fun y5=>af (bV (fun v=>jr (wr .u64 x0.b1) v.1 v.2) LF (7,y5)) fun y6=>af (bV (fun v=>jC (wr .u64 x0.b2) v.1 v.2) LF (7,y6)) fun y7=>af (bV (fun v=>jE (wr .u64 x0.b3) v.1 v.2) LF (7,y7)) fun y8=>af (bV (fun v=>jw (wr .u64 x0.b4) v.1 v.2) LF (7,y8)) fun y9=>af (bV (fun v=>jB (wr .u64 x0.b5) v.1 v.2) LF (7,y9)) fun y10=>af (Iz y10) fun y11=>cnd (ile (len (cu y10 [wr .u8 y11,wr .u8 (bJ .u32 y11 8),wr .u8 (bJ .u32 y11 16),wr .u8 (bJ .u32 y11 24)])) 68719476736) (some (cu y10 [wr .u8 y11,wr .u8 (bJ .u32 y11 8),wr .u8 (bJ .u32 y11 16),wr .u8 (bJ .u32 y11 24)],0)) none)
def G7:aF:=mkSpec [.val .frame] [.buf .u8,.int .i64] true (fun x=>Ae x)
theorem VN:bW PG 183 G7:=okP [(174,BK),(140,JY)] [210] [(785979052242,6,xq),(785979355346,6,wO),(785979658450,6,vM),(785979961554,6,vG),(785980285138,6,vJ),(785980604626,6,vz),(785980924114,6,vC),(785981243602,6,vI),(785981563090,6,vg),(785981882578,6,vK)] ⟨Nj,XV,trivial⟩ (fun K=>⟨kL K fun p v=>by kernel_rfl,kL K fun p v=>by kernel_rfl,kL K fun p v=>by kernel_rfl,kL K fun p v=>by kernel_rfl,kL K fun p v=>by kernel_rfl,kL K fun p v=>by kernel_rfl,kL K fun p v=>by kernel_rfl,kL K fun p v=>by kernel_rfl,kL K fun p v=>by kernel_rfl,kL K fun p v=>by kernel_rfl,trivial⟩) fun x=>by kernel_rfl
def yM (p0:Int) (p1:(List iE)) (v0:Int) (v1:(List Int)) (v2:Int) (v3:(List Int)):Option ((Int×(List Int)×Int×(List Int)) ⊕ ((Int×(List Int)) ⊕ (((List Int)×Int×(List Int))))):=cnd (ilt v0 p0) (cnd (band (ile 0 v0) (ilt v0 (len p1))) (af (Ae (aj p1 (itn v0))) fun y0=>cnd (au (ieq y0.2 0)) (some (Sum.inr (Sum.inl (y0.2,[])))) (cnd (ile (len (cu v1 y0.1)) 68719476736) (some (Sum.inl (wr .i64 (ax v0 1),cu v1 y0.1,v2,v3))) none)) none) (some (Sum.inr (Sum.inr (v1,v2,v3))))
def X9:dX:=LSh.spec ⟨71,[(10,.int .i64),(9,.ro .frame)],[],[],[(11,.int .i64),(4,.buf .u8),(3,.int .i64),(2,.buf .u8)],[],[]⟩ [⟨.ret,[(3,.int .i64),(2,.buf .u8)],[],[]⟩,⟨.exit 0,[(4,.buf .u8),(3,.int .i64),(2,.buf .u8)],[],[]⟩] (sP [(2,3),(6,3),(11,16)]) (fun p v=>yM p.1 p.2 v.1 v.2.1 v.2.2.1 v.2.2.2)
def Cm (x0:(List iE)):Option ((List Int)×Int):=af (bV (fun v=>yM (len x0) x0 v.1 v.2.1 v.2.2.1 v.2.2.2) LF (0,[],0,[])) fun y0=>gX y0 (fun y1=>some (y1.2,y1.1)) fun y1=>some (y1.1,0)
def Pe:aF:=mkSpec [.ro .frame] [.buf .u8,.int .i64] true (fun x=>Cm x)
theorem adT:bW PG 135 Pe:=okP [(183,G7)] [] [(135,58,X9)] ⟨VN,trivial⟩ (fun K=>⟨kL K fun p v=>by kernel_rfl,trivial⟩) fun x=>by kernel_rfl
def vP (p0:Int) (p1:(List aC)) (v0:Int) (v1:Int):Option ((Int×Int) ⊕ ((Int))):=cnd (ilt v0 p0) (cnd (band (ile 0 v0) (ilt v0 (len p1))) (some (Sum.inl (wr .i64 (ax v0 1),wr .i64 (ax v1 (len (aj p1 (itn v0)).data))))) none) (some (Sum.inr v1))
def VO:dX:=LSh.spec ⟨72,[(8,.int .i64),(7,.ro .file)],[],[],[(9,.int .i64),(3,.int .i64)],[],[]⟩ [⟨.exit 0,[(3,.int .i64)],[],[]⟩] (sP [(3,1),(5,1),(9,10)]) (fun p v=>vP p.1 p.2 v.1 v.2)
def GN (x0:ak):Option (Int):=af (bV (fun v=>vP (len x0.files) x0.files v.1 v.2) LF (0,0)) fun y0=>some y0
def MK:aF:=mkSpec [.val .disk] [.int .i64] true (fun x=>GN x)
theorem aa5:bW PG 148 MK:=okP [] [] [(148,58,VO)] trivial (fun K=>⟨kL K fun p v=>by kernel_rfl,trivial⟩) fun x=>by kernel_rfl
def dH (x0:(List aC)) (x1:Int) (x2:(List aC)):Option ((List aC)):=match x2 with | [n]=>cnd (band (ile 0 x1) (band (ile x1 (len x0)) (ile (ax (len x0) 1) 68719476736))) (some (cu (aG x0 (itn x1)) (n::aV x0 (itn x1)))) none | _=>none
noncomputable def Ie:Cx:={ P:=PG,ety:=ety,fn:=look [],inl:=amT [],lp:=Qg [] }
def oz:aF:=GZ .file (fun x=>dH x.1 x.2.1 x.2.2)
theorem xI:bW PG 150 oz:=
 have K:CxR Ie:=Am.cx (fun _=>rfl) (l:=[]) trivial
 Zy K 150 (ahU PG 150) (ahU PG ((BM (ahU PG 150)).f 29)) (by kernel_rfl) (by kernel_rfl) (by kernel_rfl) (by kernel_rfl) (by kernel_rfl) (e:= .file) (by kernel_rfl) (by kernel_rfl) (by kernel_rfl) (by kernel_rfl) (by kernel_rfl) (by kernel_rfl) rfl (fun x y h=>by obtain⟨l,k,xs⟩:=x;match xs,h with | [],h=>exact h | [_],h=>exact h | _::_::_,h=>exact h)
def kY (p0:Int) (p1:(List VY)) (v0:Int) (v1:Int):Option ((Int×Int) ⊕ ((Int))):=cnd (ilt v0 p0) (cnd (band (ile 0 v0) (ilt v0 (len p1))) (cnd (ilt (wr .i64 (ax v1 (len (aj p1 (itn v0)).all))) 0) none (some (Sum.inl (wr .i64 (ax v0 1),wr .i64 (ax v1 (len (aj p1 (itn v0)).all)))))) none) (some (Sum.inr v1))
def Iu:dX:=LSh.spec ⟨70,[(10,.int .i64),(9,.ro .bts)],[],[],[(11,.int .i64),(3,.int .i64)],[],[]⟩ [⟨.exit 0,[(3,.int .i64)],[],[]⟩] (sP [(3,1),(5,1),(11,12)]) (fun p v=>kY p.1 p.2 v.1 v.2)
def je (p0:Int) (p1:(List VY)) (v0:Int) (v1:(List Int)):Option ((Int×(List Int)) ⊕ (((List Int)))):=cnd (ilt v0 p0) (cnd (band (ile 0 v0) (ilt v0 (len p1))) (cnd (ile (len (cu v1 (aj p1 (itn v0)).all)) 68719476736) (some (Sum.inl (wr .i64 (ax v0 1),cu v1 (aj p1 (itn v0)).all))) none) none) (some (Sum.inr v1))
def Gm:dX:=LSh.spec ⟨169,[(26,.int .i64),(25,.ro .bts)],[],[],[(27,.int .i64),(6,.buf .u8)],[],[]⟩ [⟨.exit 2,[(6,.buf .u8)],[],[]⟩] (sP [(6,1),(8,1),(27,8)]) (fun p v=>je p.1 p.2 v.1 v.2)
def mZ (x0:(List VY)):Option ((List Int)):=af (bV (fun v=>kY (len x0) x0 v.1 v.2) LF (0,0)) fun y0=>cnd (ilt y0 0) none (cnd (ilt 0 (wr .i64 (aI y0 0))) (cnd (band (ilt 0 (wr .i64 (aI y0 0))) (ile (wr .i64 (aI y0 0)) 68719476736)) (cnd (ile 0 (len (nN Int (itn (wr .i64 (aI y0 0)))))) (af (bV (fun v=>je (len x0) x0 v.1 v.2) LF (0,aG (nN Int (itn (wr .i64 (aI y0 0)))) 0)) fun y1=>some y1) none) none) (af (bV (fun v=>je (len x0) x0 v.1 v.2) LF (0,[])) fun y2=>some y2))
def zn:aF:=mkSpec [.ro .bts] [.buf .u8] true (fun x=>mZ x)
theorem Ll:bW PG 151 zn:=okP [] [193] [(151,58,Iu),(151,250,Gm)] trivial (fun K=>⟨kL K fun p v=>by kernel_rfl,kL K fun p v=>by kernel_rfl,trivial⟩) fun x=>by kernel_rfl
def iG (x0:ak) (x1:(List UInt8)) (x2:(List Int)):Option (ak×Int):=af (oD x0 [x1]) fun y0=>cnd (au (ieq y0 0)) (some (x0,y0)) (af (iV x0 x1) fun y1=>af (GN x0) fun y2=>cnd (bor (ilt (wr .i64 (aI x0.room y2)) (len x2)) (band (au y1.2) (ieq (len x0.files) 64))) (some (x0,6)) (af (aO x0.files) fun y3=>cnd (au y1.2) (af (dH y3 y1.1 [aC.mk x1 [] 0]) fun y4=>cnd (band (ile 0 y1.1) (ilt y1.1 (len y4))) (af (mZ [VY.mk (aj y4 (itn y1.1)).data,VY.mk x2]) fun y5=>cnd (band (ile 0 y1.1) (ilt y1.1 (len y4))) (cnd (ieq x0.fuse 0) (some (ak.mk (bT y4 (itn y1.1) (aC.mk (aj y4 (itn y1.1)).name y5 (aj y4 (itn y1.1)).sure)) x0.room x0.fuse true,9)) (cnd (ieq x0.fuse (-1)) (some (ak.mk (bT y4 (itn y1.1) (aC.mk (aj y4 (itn y1.1)).name y5 (aj y4 (itn y1.1)).sure)) x0.room x0.fuse x0.down,0)) (some (ak.mk (bT y4 (itn y1.1) (aC.mk (aj y4 (itn y1.1)).name y5 (aj y4 (itn y1.1)).sure)) x0.room (wr .i64 (aI x0.fuse 1)) x0.down,0)))) none) none) (cnd (band (ile 0 y1.1) (ilt y1.1 (len y3))) (af (mZ [VY.mk (aj y3 (itn y1.1)).data,VY.mk x2]) fun y6=>cnd (band (ile 0 y1.1) (ilt y1.1 (len y3))) (cnd (ieq x0.fuse 0) (some (ak.mk (bT y3 (itn y1.1) (aC.mk (aj y3 (itn y1.1)).name y6 (aj y3 (itn y1.1)).sure)) x0.room x0.fuse true,9)) (cnd (ieq x0.fuse (-1)) (some (ak.mk (bT y3 (itn y1.1) (aC.mk (aj y3 (itn y1.1)).name y6 (aj y3 (itn y1.1)).sure)) x0.room x0.fuse x0.down,0)) (some (ak.mk (bT y3 (itn y1.1) (aC.mk (aj y3 (itn y1.1)).name y6 (aj y3 (itn y1.1)).sure)) x0.room (wr .i64 (aI x0.fuse 1)) x0.down,0)))) none) none)))
def xu:aF:=mkSpec [.val .disk,.str,.ro .u8] [.val .disk,.int .i64] false (fun x=>iG x.1 x.2.1 x.2.2)
theorem F9:bW PG 90 xu:=okN [(146,nT),(147,o9),(148,MK),(149,iQ),(150,oz),(151,zn)] [152] ⟨uf,xk,aa5,kD,xI,Ll,trivial⟩ fun x=>by kernel_rfl
def jh (x0:ak) (x1:(List UInt8)):Option (ak×Int):=af (oD x0 [x1]) fun y0=>cnd (au (ieq y0 0)) (cnd (au (ieq y0 0)) (some (x0,y0)) (cnd (ieq x0.fuse 0) (some (ak.mk x0.files x0.room x0.fuse true,9)) (cnd (ieq x0.fuse (-1)) (af (aO x0.files) fun y1=>cnd (ilt 0 (len y1)) (cnd (ilt 0 (len y1)) (some (ak.mk (bT y1 0 (aC.mk (aj y1 0).name (aj y1 0).data (len (aj y1 0).data))) x0.room x0.fuse x0.down,0)) none) none) (af (aO x0.files) fun y2=>cnd (ilt 0 (len y2)) (cnd (ilt 0 (len y2)) (some (ak.mk (bT y2 0 (aC.mk (aj y2 0).name (aj y2 0).data (len (aj y2 0).data))) x0.room (wr .i64 (aI x0.fuse 1)) x0.down,0)) none) none)))) (af (iV x0 x1) fun y3=>cnd (au y3.2) (some (x0,7)) (cnd (ieq x0.fuse 0) (some (ak.mk x0.files x0.room x0.fuse true,9)) (cnd (ieq x0.fuse (-1)) (af (aO x0.files) fun y4=>cnd (band (ile 0 y3.1) (ilt y3.1 (len y4))) (cnd (band (ile 0 y3.1) (ilt y3.1 (len y4))) (some (ak.mk (bT y4 (itn y3.1) (aC.mk (aj y4 (itn y3.1)).name (aj y4 (itn y3.1)).data (len (aj y4 (itn y3.1)).data))) x0.room x0.fuse x0.down,0)) none) none) (af (aO x0.files) fun y5=>cnd (band (ile 0 y3.1) (ilt y3.1 (len y5))) (cnd (band (ile 0 y3.1) (ilt y3.1 (len y5))) (some (ak.mk (bT y5 (itn y3.1) (aC.mk (aj y5 (itn y3.1)).name (aj y5 (itn y3.1)).data (len (aj y5 (itn y3.1)).data))) x0.room (wr .i64 (aI x0.fuse 1)) x0.down,0)) none) none))))
def Au:aF:=mkSpec [.val .disk,.str] [.val .disk,.int .i64] false (fun x=>jh x.1 x.2)
theorem JX:bW PG 92 Au:=okN [(146,nT),(147,o9),(149,iQ)] [143,152] ⟨uf,xk,kD,trivial⟩ fun x=>by kernel_rfl
def yR (v0:Int) (v1:ak) (v2:fO) (v3:ak) (v4:fO):Option ((Int×ak×fO×ak×fO) ⊕ ((Int×ak×fO×ak×fO) ⊕ ((Int×ak×fO×ak×fO)))):=cnd (ilt 0 (len v4.wait)) (cnd (bor (ieq v4.seg 0) (ieq v4.count 8)) (cnd (band (ile 0 (jm (len v4.wait) 8)) (ile (jm (len v4.wait) 8) (len v4.wait))) (af (Cm (aG v4.wait (itn (jm (len v4.wait) 8)))) fun y0=>af (lJ (wr .i64 (ax v4.sure 1))) fun y1=>af (iG v3 y1 y0.1) fun y2=>cnd (ieq y2.2 0) (af (lJ (wr .i64 (ax v4.sure 1))) fun y3=>af (jh y2.1 y3) fun y4=>cnd (au (ieq y4.2 0)) (some (Sum.inr (Sum.inl (y4.2,y4.1,v4,y4.1,v4)))) (cnd (band (ile 0 (jm (len v4.wait) 8)) (ile (jm (len v4.wait) 8) (len v4.wait))) (af (dI (aV v4.wait (itn (jm (len v4.wait) 8)))) fun y5=>some (Sum.inl (v0,v1,v2,y4.1,fO.mk v4.epoch v4.next (wr .i64 (ax v4.sure (jm (len v4.wait) 8))) (wr .i64 (ax v4.sure 1)) (wr .i64 (ax 0 (jm (len v4.wait) 8))) y5))) none)) (cnd (au (ieq y2.2 0)) (some (Sum.inr (Sum.inl (y2.2,y2.1,v4,y2.1,v4)))) (cnd (band (ile 0 (jm (len v4.wait) 8)) (ile (jm (len v4.wait) 8) (len v4.wait))) (af (dI (aV v4.wait (itn (jm (len v4.wait) 8)))) fun y6=>some (Sum.inl (v0,v1,v2,y2.1,fO.mk v4.epoch v4.next (wr .i64 (ax v4.sure (jm (len v4.wait) 8))) (wr .i64 (ax v4.sure 1)) (wr .i64 (ax 0 (jm (len v4.wait) 8))) y6))) none))) none) (cnd (band (ile 0 (jm (len v4.wait) (wr .i64 (aI 8 v4.count)))) (ile (jm (len v4.wait) (wr .i64 (aI 8 v4.count))) (len v4.wait))) (af (Cm (aG v4.wait (itn (jm (len v4.wait) (wr .i64 (aI 8 v4.count)))))) fun y7=>af (lJ v4.seg) fun y8=>af (iG v3 y8 y7.1) fun y9=>cnd (ieq y9.2 0) (af (lJ v4.seg) fun y10=>af (jh y9.1 y10) fun y11=>cnd (au (ieq y11.2 0)) (some (Sum.inr (Sum.inl (y11.2,y11.1,v4,y11.1,v4)))) (cnd (band (ile 0 (jm (len v4.wait) (wr .i64 (aI 8 v4.count)))) (ile (jm (len v4.wait) (wr .i64 (aI 8 v4.count))) (len v4.wait))) (af (dI (aV v4.wait (itn (jm (len v4.wait) (wr .i64 (aI 8 v4.count)))))) fun y12=>some (Sum.inl (v0,v1,v2,y11.1,fO.mk v4.epoch v4.next (wr .i64 (ax v4.sure (jm (len v4.wait) (wr .i64 (aI 8 v4.count))))) v4.seg (wr .i64 (ax v4.count (jm (len v4.wait) (wr .i64 (aI 8 v4.count))))) y12))) none)) (cnd (au (ieq y9.2 0)) (some (Sum.inr (Sum.inl (y9.2,y9.1,v4,y9.1,v4)))) (cnd (band (ile 0 (jm (len v4.wait) (wr .i64 (aI 8 v4.count)))) (ile (jm (len v4.wait) (wr .i64 (aI 8 v4.count))) (len v4.wait))) (af (dI (aV v4.wait (itn (jm (len v4.wait) (wr .i64 (aI 8 v4.count)))))) fun y13=>some (Sum.inl (v0,v1,v2,y9.1,fO.mk v4.epoch v4.next (wr .i64 (ax v4.sure (jm (len v4.wait) (wr .i64 (aI 8 v4.count))))) v4.seg (wr .i64 (ax v4.count (jm (len v4.wait) (wr .i64 (aI 8 v4.count))))) y13))) none))) none)) (some (Sum.inr (Sum.inr (v0,v1,v2,v3,v4))))
def Un:dX:=LSh.spec ⟨75,[],[(5,.mp 40 0),(4,.mp 32 0),(3,.mp 24 0),(2,.mp 16 0)],[],[(6,.int .i64)],[(40,[.val .disk]),(32,[.val .wal]),(24,[.val .disk]),(16,[.val .wal])],[]⟩ [⟨.ret,[(6,.int .i64)],[(40,[.val .disk]),(32,[.val .wal]),(24,[.val .disk]),(16,[.val .wal])],[]⟩,⟨.exit 0,[(6,.int .i64)],[(40,[.val .disk]),(32,[.val .wal]),(24,[.val .disk]),(16,[.val .wal])],[]⟩] (sP [(6,8),(20,71)]) (fun p v=>yR v.1 v.2.1 v.2.2.1 v.2.2.2.1 v.2.2.2.2)
def Eo (x0:fO) (x1:ak):Option (fO×ak×Int):=af (FK x0 x1) fun y0=>cnd (au y0) (some (x0,x1,1)) (af (bV (fun v=>yR v.1 v.2.1 v.2.2.1 v.2.2.2.1 v.2.2.2.2) LF (0,ak.mk [] 0 0 false,fO.mk 0 0 0 0 0 [],x1,x0)) fun y1=>gX y1 (fun y2=>some (y2.2.2.1,y2.2.1,y2.1)) fun y2=>some (y2.2.2.2.2,y2.2.2.2.1,0))
def KR:aF:=mkSpec [.val .wal,.val .disk] [.val .wal,.val .disk,.int .i64] false (fun x=>Eo x.1 x.2)
theorem Y3:bW PG 81 KR:=okP [(99,Ij),(135,Pe),(102,Hu),(90,xu),(92,Au),(113,nY)] [] [(81,28,Un)] ⟨Vw,adT,Ns,F9,JX,xK,trivial⟩ (fun K=>⟨kL K fun p v=>by kernel_rfl,trivial⟩) fun x=>by kernel_rfl
def DR (x0:bD):Option (bD):=some (bD.mk x0.disk x0.wal x0.state [] (gJ.mk [] false) x0.gen false)
def AL:aF:=mkSpec [.val .gate] [.val .gate] false (fun x=>DR x)
theorem JD:bW PG 49 AL:=okN [] [] trivial fun x=>by kernel_rfl
def vV (x0:bD):Option (bD×Int):=af (Eo x0.wal x0.disk) fun y0=>cnd y0.2.1.down (af (DR (bD.mk y0.2.1 y0.1 x0.state x0.outbox x0.feed x0.gen x0.up)) fun y1=>some (y1,y0.2.2)) (some (bD.mk y0.2.1 y0.1 x0.state x0.outbox x0.feed x0.gen x0.up,y0.2.2))
def A7:aF:=mkSpec [.val .gate] [.val .gate,.int .i64] false (fun x=>vV x)
theorem KG:bW PG 45 A7:=okN [(81,KR),(49,AL)] [4095] ⟨Y3,JD,trivial⟩ fun x=>by kernel_rfl
def dR (p0:Int) (p1:(List jQ)) (p2:Int) (v0:Int) (v1:Int):Option ((Int×Int) ⊕ ((Int) ⊕ ((Int)))):=cnd (ilt v0 p0) (cnd (band (ile 0 v0) (ilt v0 (len p1))) (cnd (ilt p2 (aj p1 (itn v0)).lsn) (some (Sum.inr (Sum.inl v0))) (some (Sum.inl (wr .i64 (ax v0 1),v1)))) none) (some (Sum.inr (Sum.inr v1)))
def qV:dX:=LSh.spec ⟨77,[(7,.int .i64),(0,.ro .msg)],[(1,.fn 83 [.mp 16 0])],[(16,[.int .i64])],[(8,.int .i64),(4,.int .i64)],[],[]⟩ [⟨.ret,[(4,.int .i64)],[],[]⟩,⟨.exit 0,[(4,.int .i64)],[],[]⟩] (sP [(4,2),(8,11)]) (fun p v=>dR p.1 p.2.1 p.2.2 v.1 v.2)
def zZ (x0:(List jQ)) (x1:Int):Option ((List jQ)×(List jQ)):=af (bV (fun v=>dR (len x0) x0 x1 v.1 v.2) LF (0,0)) fun y0=>gX y0 (fun y1=>cnd (ilt y1 0) (cnd (band (ile 0 (len x0)) (ile (len x0) (len x0))) (af (bY (aG x0 (itn (len x0)))) fun y2=>cnd (band (ile 0 (len x0)) (ile (len x0) (len x0))) (af (bY (aV x0 (itn (len x0)))) fun y3=>some (y2,y3)) none) none) (cnd (band (ile 0 y1) (ile y1 (len x0))) (af (bY (aG x0 (itn y1))) fun y4=>cnd (band (ile 0 y1) (ile y1 (len x0))) (af (bY (aV x0 (itn y1))) fun y5=>some (y4,y5)) none) none)) fun y1=>cnd (band (ile 0 (len x0)) (ile (len x0) (len x0))) (af (bY (aG x0 (itn (len x0)))) fun y6=>cnd (band (ile 0 (len x0)) (ile (len x0) (len x0))) (af (bY (aV x0 (itn (len x0)))) fun y7=>some (y6,y7)) none) none
def Hl:aF:=mkSpec [.ro .msg,.int .i64] [.buf .msg,.buf .msg] true (fun x=>zZ x.1 x.2)
theorem VJ:bW PG 46 Hl:=okP [(34,jU)] [83,82] [(197568532562,26,qV)] ⟨nM,trivial⟩ (fun K=>⟨kL K fun p v=>by kernel_rfl,trivial⟩) fun x=>by kernel_rfl
def xg (x0:bD):Option (bD×(List jQ)×Int):=af (rY x0) fun y0=>cnd (au (ieq y0 0)) (some (x0,[],y0)) (af (vV x0) fun y1=>cnd (au y1.1.up) (some (y1.1,[],y1.2)) (af (zZ y1.1.outbox y1.1.wal.sure) fun y2=>some (bD.mk y1.1.disk y1.1.wal y1.1.state y2.2 y1.1.feed y1.1.gen y1.1.up,y2.1,y1.2)))
def yT:aF:=mkSpec [.val .gate] [.val .gate,.buf .msg,.int .i64] false (fun x=>xg x)
theorem Ip:bW PG 14 yT:=okN [(36,tY),(45,A7),(46,Hl)] [4095] ⟨CU,KG,VJ,trivial⟩ fun x=>by kernel_rfl
def Ko (x0:Int) (x1:Int) (x2:Int):Option (Int):=some (wr .i64 (ax (wr .i64 (ax (wr .i64 (ax (wr .i64 (ax 32 (wr .i64 (fK x2 61)))) (wr .i64 (fK (wr .i64 (fK x0 x1)) 32)))) (wr .i64 (fK x0 8)))) 4))
def PD:aF:=mkSpec [.int .i64,.int .i64,.int .i64] [.int .i64] true (fun x=>Ko x.1 x.2.1 x.2.2)
theorem adl:bW PG 184 PD:=okN [] [] trivial fun x=>by kernel_rfl
def CJ (x0:ay):Option (Int):=af (oC x0) fun y0=>cnd (au y0) (some 0) (af (Ko x0.accounts x0.symbols (len x0.orders)) fun y1=>some y1)
def O7:aF:=mkSpec [.val .state] [.int .i64] true (fun x=>CJ x)
theorem ads:bW PG 136 O7:=okN [(24,qj),(184,PD)] [] ⟨xR,adl,trivial⟩ fun x=>by kernel_rfl
def Oj (x0:Bool):Option (Int):=cnd x0 (some 1) (some 0)
def Tv:aF:=mkSpec [.bool] [.int .i64] true (fun x=>Oj x)
theorem aeG:bW PG 138 Tv:=okN [] [] trivial fun x=>by kernel_rfl
def pF (p0:Int) (v0:Int) (v1:(List Int)):Option ((Int×(List Int)) ⊕ (((List Int)))):=cnd (ile 0 v0) (cnd (ile 0 (wr .i64 (fK 8 v0))) (cnd (ile (len (cu v1 [wr .u8 (bJ .i64 p0 (wr .i64 (fK 8 v0)))])) 68719476736) (some (Sum.inl (wr .i64 (aI v0 1),cu v1 [wr .u8 (bJ .i64 p0 (wr .i64 (fK 8 v0)))]))) none) none) (some (Sum.inr v1))
def OI:dX:=LSh.spec ⟨144,[(8,.int .i64)],[],[],[(9,.int .i64),(0,.buf .u8)],[],[]⟩ [⟨.exit 2,[(0,.buf .u8)],[],[]⟩] (sP [(0,1),(9,1),(18,12)]) (fun p v=>pF p v.1 v.2)
def xH (p0:Int) (p1:(List Int)) (p2:Int) (v0:Int) (v1:(List Int)):Option ((Int×(List Int)) ⊕ (((List Int)))):=cnd (ilt v0 p0) (cnd (band (ile 0 v0) (ilt v0 (len p1))) (af (bV (fun v=>pF (aj p1 (itn v0)) v.1 v.2) LF (wr .i64 (aI p2 1),v1)) fun y0=>some (Sum.inl (wr .i64 (ax v0 1),y0))) none) (some (Sum.inr v1))
def QV:dX:=LSh.spec ⟨71,[(11,.int .i64),(10,.ro .i64),(1,.int .i64)],[],[],[(12,.int .i64),(0,.buf .u8)],[],[]⟩ [⟨.exit 0,[(0,.buf .u8)],[],[]⟩] (sP [(0,1),(8,2),(12,19)]) (fun p v=>xH p.1 p.2.1 p.2.2 v.1 v.2)
def qO (x0:(List Int)) (x1:Int) (x2:(List Int)):Option ((List Int)):=af (bV (fun v=>xH (len x2) x2 x1 v.1 v.2) LF (0,x0)) fun y0=>some y0
def Jq:aF:=mkSpec [.buf .u8,.int .i64,.ro .i64] [.buf .u8] true (fun x=>qO x.1 x.2.1 x.2.2)
theorem Xj:bW PG 137 Jq:=okP [] [] [(137,6758,OI),(137,26,QV)] trivial (fun K=>⟨kL K fun p v=>by kernel_rfl,kL K fun p v=>by kernel_rfl,trivial⟩) fun x=>by kernel_rfl
def Dx (p0:Int) (v0:Int) (v1:(List Int)):Option ((Int×(List Int)) ⊕ (((List Int)))):=cnd (ile 0 v0) (cnd (ile 0 (wr .i64 (fK 8 v0))) (cnd (ile (len (cu v1 [wr .u8 (bJ .i64 p0 (wr .i64 (fK 8 v0)))])) 68719476736) (some (Sum.inl (wr .i64 (aI v0 1),cu v1 [wr .u8 (bJ .i64 p0 (wr .i64 (fK 8 v0)))]))) none) none) (some (Sum.inr v1))
def Lj:dX:=LSh.spec ⟨144,[(8,.int .i64)],[],[],[(9,.int .i64),(0,.buf .u8)],[],[]⟩ [⟨.exit 2,[(0,.buf .u8)],[],[]⟩] (sP [(0,1),(9,1),(18,12)]) (fun p v=>Dx p v.1 v.2)
def Gg (p0:Int) (p1:(List Int)) (p2:Int) (v0:Int) (v1:(List Int)):Option ((Int×(List Int)) ⊕ (((List Int)))):=cnd (ilt v0 p0) (cnd (band (ile 0 v0) (ilt v0 (len p1))) (af (bV (fun v=>Dx (aj p1 (itn v0)) v.1 v.2) LF (wr .i64 (aI p2 1),v1)) fun y0=>some (Sum.inl (wr .i64 (ax v0 1),y0))) none) (some (Sum.inr v1))
def OV:dX:=LSh.spec ⟨71,[(11,.int .i64),(10,.ro .i64),(1,.int .i64)],[],[],[(12,.int .i64),(0,.buf .u8)],[],[]⟩ [⟨.exit 0,[(0,.buf .u8)],[],[]⟩] (sP [(0,1),(8,2),(12,19)]) (fun p v=>Gg p.1 p.2.1 p.2.2 v.1 v.2)
def kJ (x0:(List Int)) (x1:Int) (x2:(List Int)):Option ((List Int)):=af (bV (fun v=>Gg (len x2) x2 x1 v.1 v.2) LF (0,x0)) fun y0=>some y0
def Gi:aF:=mkSpec [.buf .u8,.int .i64,.ro .i64] [.buf .u8] true (fun x=>kJ x.1 x.2.1 x.2.2)
theorem UK:bW PG 139 Gi:=okP [] [] [(139,6758,Lj),(139,26,OV)] trivial (fun K=>⟨kL K fun p v=>by kernel_rfl,kL K fun p v=>by kernel_rfl,trivial⟩) fun x=>by kernel_rfl
def uK (p0:Int) (p1:(List aB)) (v0:Int) (v1:(List Int)):Option ((Int×(List Int)) ⊕ (((List Int)))):=cnd (ilt v0 p0) (cnd (band (ile 0 v0) (ilt v0 (len p1))) (af (kJ v1 8 [(aj p1 (itn v0)).id]) fun y0=>af (qO y0 1 [(aj p1 (itn v0)).account,(aj p1 (itn v0)).symbol,(aj p1 (itn v0)).side,(aj p1 (itn v0)).phase]) fun y1=>af (kJ y1 8 [(aj p1 (itn v0)).qty,(aj p1 (itn v0)).price,(aj p1 (itn v0)).filled,(aj p1 (itn v0)).newQty,(aj p1 (itn v0)).newPrice,(aj p1 (itn v0)).version]) fun y2=>af (Oj (aj p1 (itn v0)).asked) fun y3=>af (qO y2 1 [y3]) fun y4=>some (Sum.inl (wr .i64 (ax v0 1),y4))) none) (some (Sum.inr v1))
def QB:dX:=LSh.spec ⟨105,[(45,.int .i64),(44,.ro .order)],[],[],[(46,.int .i64),(5,.buf .u8)],[],[]⟩ [⟨.exit 0,[(5,.buf .u8)],[],[]⟩] (sP [(5,1),(7,1),(46,42)]) (fun p v=>uK p.1 p.2 v.1 v.2)
def ve (p0:Int) (p1:(List bF)) (v0:Int) (v1:(List Int)):Option ((Int×(List Int)) ⊕ (((List Int)))):=cnd (ilt v0 p0) (cnd (band (ile 0 v0) (ilt v0 (len p1))) (af (kJ v1 8 [(aj p1 (itn v0)).pos]) fun y0=>some (Sum.inl (wr .i64 (ax v0 1),y0))) none) (some (Sum.inr v1))
def QK:dX:=LSh.spec ⟨176,[(90,.int .i64),(89,.ro .cell)],[],[],[(91,.int .i64),(5,.buf .u8)],[],[]⟩ [⟨.exit 2,[(5,.buf .u8)],[],[]⟩] (sP [(5,1),(9,1),(91,10)]) (fun p v=>ve p.1 p.2 v.1 v.2)
def uG (p0:Int) (p1:(List jK)) (v0:Int) (v1:(List Int)):Option ((Int×(List Int)) ⊕ (((List Int)))):=cnd (ilt v0 p0) (cnd (band (ile 0 v0) (ilt v0 (len p1))) (af (kJ v1 8 [(aj p1 (itn v0)).long,(aj p1 (itn v0)).short,(aj p1 (itn v0)).opn]) fun y0=>some (Sum.inl (wr .i64 (ax v0 1),y0))) none) (some (Sum.inr v1))
def Ql:dX:=LSh.spec ⟨247,[(103,.int .i64),(102,.ro .expo)],[],[],[(104,.int .i64),(5,.buf .u8)],[],[]⟩ [⟨.exit 4,[(5,.buf .u8)],[],[]⟩] (sP [(5,1),(11,1),(104,14)]) (fun p v=>uG p.1 p.2 v.1 v.2)
def sO (p0:Int) (v0:Int) (v1:(List Int)):Option ((Int×(List Int)) ⊕ (((List Int)))):=cnd (ilt v0 4) (cnd (ile 0 (wr .i64 (fK 8 v0))) (cnd (ile (len (cu v1 [wr .u8 (bJ .u32 p0 (wr .i64 (fK 8 v0)))])) 68719476736) (some (Sum.inl (wr .i64 (ax v0 1),cu v1 [wr .u8 (bJ .u32 p0 (wr .i64 (fK 8 v0)))]))) none) none) (some (Sum.inr v1))
def OO:dX:=LSh.spec ⟨323,[(12,.int .u32)],[],[],[(124,.int .i64),(5,.buf .u8)],[],[]⟩ [⟨.exit 6,[(5,.buf .u8)],[],[]⟩] (sP [(5,1),(13,1),(124,12)]) (fun p v=>sO p v.1 v.2)
def xw (x0:ay):Option ((List Int)×Int):=af (CJ x0) fun y0=>cnd (ieq y0 0) (some ([],1)) (cnd (band (ile 0 y0) (ile y0 68719476736)) (af (Oj x0.kill) fun y1=>af (qO (cu (nN Int 0) (s2u [(UInt8.ofNat 115),(UInt8.ofNat 110),(UInt8.ofNat 97),(UInt8.ofNat 102)])) 1 [x0.accounts,x0.symbols,y1,len x0.orders]) fun y2=>af (kJ y2 8 [x0.last,x0.seq,x0.lsn]) fun y3=>af (bV (fun v=>uK (len x0.orders) x0.orders v.1 v.2) LF (0,y3)) fun y4=>af (bV (fun v=>ve (len x0.cells) x0.cells v.1 v.2) LF (0,y4)) fun y5=>af (bV (fun v=>uG (len x0.limits) x0.limits v.1 v.2) LF (0,y5)) fun y6=>af (kJ y6 8 x0.caps) fun y7=>af (Iz y7) fun y8=>af (bV (fun v=>sO y8 v.1 v.2) LF (0,y7)) fun y9=>some (y9,0)) none)
def KI:aF:=mkSpec [.val .state] [.buf .u8,.int .i64] true (fun x=>xw x)
theorem Zt:bW PG 84 KI:=okP [(136,O7),(138,Tv),(137,Jq),(139,Gi),(140,JY)] [] [(84,1018,QB),(84,2042,QK),(84,4090,Ql),(84,32762,OO)] ⟨ads,aeG,Xj,UK,XV,trivial⟩ (fun K=>⟨kL K fun p v=>by kernel_rfl,kL K fun p v=>by kernel_rfl,kL K fun p v=>by kernel_rfl,kL K fun p v=>by kernel_rfl,trivial⟩) fun x=>by kernel_rfl
def qC (x0:Int):Option ((List UInt8)):=cnd (ieq (Zb x0 2) 0) (some [(UInt8.ofNat 115),(UInt8.ofNat 108),(UInt8.ofNat 111),(UInt8.ofNat 116),(UInt8.ofNat 46),(UInt8.ofNat 48)]) (some [(UInt8.ofNat 115),(UInt8.ofNat 108),(UInt8.ofNat 111),(UInt8.ofNat 116),(UInt8.ofNat 46),(UInt8.ofNat 49)])
def FB:aF:=mkSpec [.int .i64] [.str] true (fun x=>qC x)
theorem Si:bW PG 141 FB:=okN [] [] trivial fun x=>by kernel_rfl
def eG (x0:(List Int)):Option ((List Int)):=NU (len x0) fun y0=>cnd (beq y0 true) (some []) (cnd (ile (len x0) 68719476736) (some x0) none)
def su:aF:=mkSpec [.ro .u8] [.buf .u8] true (fun x=>eG x)
theorem Dq:bW PG 144 su:=okN [] [] trivial fun x=>by kernel_rfl
def oH (x0:ak) (x1:(List UInt8)):Option ((List Int)×Int):=af (oD x0 [x1]) fun y0=>cnd (au (ieq y0 0)) (cnd (au (ieq y0 0)) (some ([],y0)) (cnd (ilt 0 (len x0.files)) (af (eG (aj x0.files 0).data) fun y1=>some (y1,0)) none)) (af (iV x0 x1) fun y2=>cnd (au y2.2) (some ([],7)) (cnd (band (ile 0 y2.1) (ilt y2.1 (len x0.files))) (af (eG (aj x0.files (itn y2.1)).data) fun y3=>some (y3,0)) none))
def AY:aF:=mkSpec [.val .disk,.str] [.buf .u8,.int .i64] true (fun x=>oH x.1 x.2)
theorem Kr:bW PG 86 AY:=okN [(146,nT),(147,o9),(144,su)] [143] ⟨uf,xk,Dq,trivial⟩ fun x=>by kernel_rfl
def tC (x0:gV):Option (ad2):=af (dh (wr .u32 (ng .u32 (wr .u32 (gy .u32 4294967295 (wr .u32 (wr .u8 (bJ .i64 x0.gen 56))))) 15))) fun y0=>af (dh (wr .u32 (ng .u32 (wr .u32 (gy .u32 y0 (bJ .u32 (wr .u32 (gy .u32 4294967295 (wr .u32 (wr .u8 (bJ .i64 x0.gen 56))))) 4))) 15))) fun y1=>let t8:=(wr .u32 (gy .u32 (wr .u32 (gy .u32 y1 (bJ .u32 (wr .u32 (gy .u32 y0 (bJ .u32 (wr .u32 (gy .u32 4294967295 (wr .u32 (wr .u8 (bJ .i64 x0.gen 56))))) 4))) 4))) (wr .u32 (wr .u8 (bJ .i64 x0.gen 48)))));af (dh (wr .u32 (ng .u32 t8 15))) fun y2=>af (dh (wr .u32 (ng .u32 (wr .u32 (gy .u32 y2 (bJ .u32 t8 4))) 15))) fun y3=>let t5:=(wr .u32 (gy .u32 (wr .u32 (gy .u32 y3 (bJ .u32 (wr .u32 (gy .u32 y2 (bJ .u32 t8 4))) 4))) (wr .u32 (wr .u8 (bJ .i64 x0.gen 40)))));af (dh (wr .u32 (ng .u32 t5 15))) fun y4=>af (dh (wr .u32 (ng .u32 (wr .u32 (gy .u32 y4 (bJ .u32 t5 4))) 15))) fun y5=>let t14:=(wr .u32 (gy .u32 (wr .u32 (gy .u32 y5 (bJ .u32 (wr .u32 (gy .u32 y4 (bJ .u32 t5 4))) 4))) (wr .u32 (wr .u8 (bJ .i64 x0.gen 32)))));af (dh (wr .u32 (ng .u32 t14 15))) fun y6=>af (dh (wr .u32 (ng .u32 (wr .u32 (gy .u32 y6 (bJ .u32 t14 4))) 15))) fun y7=>let t1:=(wr .u32 (gy .u32 (wr .u32 (gy .u32 y7 (bJ .u32 (wr .u32 (gy .u32 y6 (bJ .u32 t14 4))) 4))) (wr .u32 (wr .u8 (bJ .i64 x0.gen 24)))));af (dh (wr .u32 (ng .u32 t1 15))) fun y8=>af (dh (wr .u32 (ng .u32 (wr .u32 (gy .u32 y8 (bJ .u32 t1 4))) 15))) fun y9=>let t15:=(wr .u32 (gy .u32 (wr .u32 (gy .u32 y9 (bJ .u32 (wr .u32 (gy .u32 y8 (bJ .u32 t1 4))) 4))) (wr .u32 (wr .u8 (bJ .i64 x0.gen 16)))));af (dh (wr .u32 (ng .u32 t15 15))) fun y10=>af (dh (wr .u32 (ng .u32 (wr .u32 (gy .u32 y10 (bJ .u32 t15 4))) 15))) fun y11=>let t7:=(wr .u32 (gy .u32 (wr .u32 (gy .u32 y11 (bJ .u32 (wr .u32 (gy .u32 y10 (bJ .u32 t15 4))) 4))) (wr .u32 (wr .u8 (bJ .i64 x0.gen 8)))));af (dh (wr .u32 (ng .u32 t7 15))) fun y12=>af (dh (wr .u32 (ng .u32 (wr .u32 (gy .u32 y12 (bJ .u32 t7 4))) 15))) fun y13=>let t3:=(wr .u32 (gy .u32 (wr .u32 (gy .u32 y13 (bJ .u32 (wr .u32 (gy .u32 y12 (bJ .u32 t7 4))) 4))) (wr .u32 (wr .u8 (bJ .i64 x0.gen 0)))));af (dh (wr .u32 (ng .u32 t3 15))) fun y14=>af (dh (wr .u32 (ng .u32 (wr .u32 (gy .u32 y14 (bJ .u32 t3 4))) 15))) fun y15=>let t10:=(wr .u32 (gy .u32 (wr .u32 (gy .u32 y15 (bJ .u32 (wr .u32 (gy .u32 y14 (bJ .u32 t3 4))) 4))) (wr .u32 (wr .u8 (bJ .i64 x0.lsn 56)))));af (dh (wr .u32 (ng .u32 t10 15))) fun y16=>af (dh (wr .u32 (ng .u32 (wr .u32 (gy .u32 y16 (bJ .u32 t10 4))) 15))) fun y17=>let t0:=(wr .u32 (gy .u32 (wr .u32 (gy .u32 y17 (bJ .u32 (wr .u32 (gy .u32 y16 (bJ .u32 t10 4))) 4))) (wr .u32 (wr .u8 (bJ .i64 x0.lsn 48)))));af (dh (wr .u32 (ng .u32 t0 15))) fun y18=>af (dh (wr .u32 (ng .u32 (wr .u32 (gy .u32 y18 (bJ .u32 t0 4))) 15))) fun y19=>let t11:=(wr .u32 (gy .u32 (wr .u32 (gy .u32 y19 (bJ .u32 (wr .u32 (gy .u32 y18 (bJ .u32 t0 4))) 4))) (wr .u32 (wr .u8 (bJ .i64 x0.lsn 40)))));af (dh (wr .u32 (ng .u32 t11 15))) fun y20=>af (dh (wr .u32 (ng .u32 (wr .u32 (gy .u32 y20 (bJ .u32 t11 4))) 15))) fun y21=>let t6:=(wr .u32 (gy .u32 (wr .u32 (gy .u32 y21 (bJ .u32 (wr .u32 (gy .u32 y20 (bJ .u32 t11 4))) 4))) (wr .u32 (wr .u8 (bJ .i64 x0.lsn 32)))));af (dh (wr .u32 (ng .u32 t6 15))) fun y22=>af (dh (wr .u32 (ng .u32 (wr .u32 (gy .u32 y22 (bJ .u32 t6 4))) 15))) fun y23=>let t12:=(wr .u32 (gy .u32 (wr .u32 (gy .u32 y23 (bJ .u32 (wr .u32 (gy .u32 y22 (bJ .u32 t6 4))) 4))) (wr .u32 (wr .u8 (bJ .i64 x0.lsn 24)))));af (dh (wr .u32 (ng .u32 t12 15))) fun y24=>af (dh (wr .u32 (ng .u32 (wr .u32 (gy .u32 y24 (bJ .u32 t12 4))) 15))) fun y25=>let t2:=(wr .u32 (gy .u32 (wr .u32 (gy .u32 y25 (bJ .u32 (wr .u32 (gy .u32 y24 (bJ .u32 t12 4))) 4))) (wr .u32 (wr .u8 (bJ .i64 x0.lsn 16)))));af (dh (wr .u32 (ng .u32 t2 15))) fun y26=>af (dh (wr .u32 (ng .u32 (wr .u32 (gy .u32 y26 (bJ .u32 t2 4))) 15))) fun y27=>let t13:=(wr .u32 (gy .u32 (wr .u32 (gy .u32 y27 (bJ .u32 (wr .u32 (gy .u32 y26 (bJ .u32 t2 4))) 4))) (wr .u32 (wr .u8 (bJ .i64 x0.lsn 8)))));af (dh (wr .u32 (ng .u32 t13 15))) fun y28=>af (dh (wr .u32 (ng .u32 (wr .u32 (gy .u32 y28 (bJ .u32 t13 4))) 15))) fun y29=>let t4:=(wr .u32 (gy .u32 (wr .u32 (gy .u32 y29 (bJ .u32 (wr .u32 (gy .u32 y28 (bJ .u32 t13 4))) 4))) (wr .u32 (wr .u8 (bJ .i64 x0.lsn 0)))));af (dh (wr .u32 (ng .u32 t4 15))) fun y30=>af (dh (wr .u32 (ng .u32 (wr .u32 (gy .u32 y30 (bJ .u32 t4 4))) 15))) fun y31=>let t9:=(wr .u32 (gy .u32 4294967295 (wr .u32 (gy .u32 y31 (bJ .u32 (wr .u32 (gy .u32 y30 (bJ .u32 t4 4))) 4)))));some (ad2.mk (wr .u8 (bJ .i64 x0.gen 56)) (wr .u8 (bJ .i64 x0.gen 48)) (wr .u8 (bJ .i64 x0.gen 40)) (wr .u8 (bJ .i64 x0.gen 32)) (wr .u8 (bJ .i64 x0.gen 24)) (wr .u8 (bJ .i64 x0.gen 16)) (wr .u8 (bJ .i64 x0.gen 8)) (wr .u8 (bJ .i64 x0.gen 0)) (wr .u8 (bJ .i64 x0.lsn 56)) (wr .u8 (bJ .i64 x0.lsn 48)) (wr .u8 (bJ .i64 x0.lsn 40)) (wr .u8 (bJ .i64 x0.lsn 32)) (wr .u8 (bJ .i64 x0.lsn 24)) (wr .u8 (bJ .i64 x0.lsn 16)) (wr .u8 (bJ .i64 x0.lsn 8)) (wr .u8 (bJ .i64 x0.lsn 0)) (wr .u8 (bJ .u32 t9 0)) (wr .u8 (bJ .u32 t9 8)) (wr .u8 (bJ .u32 t9 16)) (wr .u8 (bJ .u32 t9 24)))
def Ef:aF:=mkSpec [.val .slot] [.val .a20] true (fun x=>tC x)
theorem PY:bW PG 157 Ef:=okN [(211,Ib)] [140,185] ⟨Vz,trivial⟩ fun x=>by kernel_rfl
def zM (x0:gV):Option (Bool):=some (band (band (band (ile 1 x0.gen) (ile x0.gen 1000000000)) (ile 0 x0.lsn)) (ile x0.lsn 1000000000))
def D5:aF:=mkSpec [.val .slot] [.bool] true (fun x=>zM x)
theorem PK:bW PG 156 D5:=okN [] [] trivial fun x=>by kernel_rfl
def uj (x0:(List Int)):Option (gV×Int):=cnd (au (ieq (len x0) 20)) (some (gV.mk 0 0,2)) (cnd (ilt 0 (len x0)) (cnd (ilt 8 (len x0)) (cnd (ilt 1 (len x0)) (cnd (ilt 9 (len x0)) (cnd (ilt 2 (len x0)) (cnd (ilt 10 (len x0)) (cnd (ilt 3 (len x0)) (cnd (ilt 11 (len x0)) (cnd (ilt 4 (len x0)) (cnd (ilt 12 (len x0)) (cnd (ilt 5 (len x0)) (cnd (ilt 13 (len x0)) (cnd (ilt 6 (len x0)) (cnd (ilt 14 (len x0)) (cnd (ilt 7 (len x0)) (cnd (ilt 15 (len x0)) (af (tC (gV.mk (wr .i64 (ior .i64 (wr .i64 (oN .i64 (wr .i64 (ior .i64 (wr .i64 (oN .i64 (wr .i64 (ior .i64 (wr .i64 (oN .i64 (wr .i64 (ior .i64 (wr .i64 (oN .i64 (wr .i64 (ior .i64 (wr .i64 (oN .i64 (wr .i64 (ior .i64 (wr .i64 (oN .i64 (wr .i64 (ior .i64 (wr .i64 (oN .i64 (wr .i64 (ior .i64 0 (wr .i64 (aj x0 0)))) 8)) (wr .i64 (aj x0 1)))) 8)) (wr .i64 (aj x0 2)))) 8)) (wr .i64 (aj x0 3)))) 8)) (wr .i64 (aj x0 4)))) 8)) (wr .i64 (aj x0 5)))) 8)) (wr .i64 (aj x0 6)))) 8)) (wr .i64 (aj x0 7)))) (wr .i64 (ior .i64 (wr .i64 (oN .i64 (wr .i64 (ior .i64 (wr .i64 (oN .i64 (wr .i64 (ior .i64 (wr .i64 (oN .i64 (wr .i64 (ior .i64 (wr .i64 (oN .i64 (wr .i64 (ior .i64 (wr .i64 (oN .i64 (wr .i64 (ior .i64 (wr .i64 (oN .i64 (wr .i64 (ior .i64 (wr .i64 (oN .i64 (wr .i64 (ior .i64 0 (wr .i64 (aj x0 8)))) 8)) (wr .i64 (aj x0 9)))) 8)) (wr .i64 (aj x0 10)))) 8)) (wr .i64 (aj x0 11)))) 8)) (wr .i64 (aj x0 12)))) 8)) (wr .i64 (aj x0 13)))) 8)) (wr .i64 (aj x0 14)))) 8)) (wr .i64 (aj x0 15)))))) fun y0=>cnd (ile 20 (len x0)) (cnd (au (band (ieq y0.a0 (aj x0 0)) (band (ieq y0.a1 (aj x0 1)) (band (ieq y0.a2 (aj x0 2)) (band (ieq y0.a3 (aj x0 3)) (band (ieq y0.a4 (aj x0 4)) (band (ieq y0.a5 (aj x0 5)) (band (ieq y0.a6 (aj x0 6)) (band (ieq y0.a7 (aj x0 7)) (band (ieq y0.a8 (aj x0 8)) (band (ieq y0.a9 (aj x0 9)) (band (ieq y0.a10 (aj x0 10)) (band (ieq y0.a11 (aj x0 11)) (band (ieq y0.a12 (aj x0 12)) (band (ieq y0.a13 (aj x0 13)) (band (ieq y0.a14 (aj x0 14)) (band (ieq y0.a15 (aj x0 15)) (band (ieq y0.a16 (aj x0 16)) (band (ieq y0.a17 (aj x0 17)) (band (ieq y0.a18 (aj x0 18)) (band (ieq y0.a19 (aj x0 19)) true))))))))))))))))))))) (some (gV.mk 0 0,10)) (af (zM (gV.mk (wr .i64 (ior .i64 (wr .i64 (oN .i64 (wr .i64 (ior .i64 (wr .i64 (oN .i64 (wr .i64 (ior .i64 (wr .i64 (oN .i64 (wr .i64 (ior .i64 (wr .i64 (oN .i64 (wr .i64 (ior .i64 (wr .i64 (oN .i64 (wr .i64 (ior .i64 (wr .i64 (oN .i64 (wr .i64 (ior .i64 (wr .i64 (oN .i64 (wr .i64 (ior .i64 0 (wr .i64 (aj x0 0)))) 8)) (wr .i64 (aj x0 1)))) 8)) (wr .i64 (aj x0 2)))) 8)) (wr .i64 (aj x0 3)))) 8)) (wr .i64 (aj x0 4)))) 8)) (wr .i64 (aj x0 5)))) 8)) (wr .i64 (aj x0 6)))) 8)) (wr .i64 (aj x0 7)))) (wr .i64 (ior .i64 (wr .i64 (oN .i64 (wr .i64 (ior .i64 (wr .i64 (oN .i64 (wr .i64 (ior .i64 (wr .i64 (oN .i64 (wr .i64 (ior .i64 (wr .i64 (oN .i64 (wr .i64 (ior .i64 (wr .i64 (oN .i64 (wr .i64 (ior .i64 (wr .i64 (oN .i64 (wr .i64 (ior .i64 (wr .i64 (oN .i64 (wr .i64 (ior .i64 0 (wr .i64 (aj x0 8)))) 8)) (wr .i64 (aj x0 9)))) 8)) (wr .i64 (aj x0 10)))) 8)) (wr .i64 (aj x0 11)))) 8)) (wr .i64 (aj x0 12)))) 8)) (wr .i64 (aj x0 13)))) 8)) (wr .i64 (aj x0 14)))) 8)) (wr .i64 (aj x0 15)))))) fun y1=>cnd (au y1) (some (gV.mk 0 0,2)) (some (gV.mk (wr .i64 (ior .i64 (wr .i64 (oN .i64 (wr .i64 (ior .i64 (wr .i64 (oN .i64 (wr .i64 (ior .i64 (wr .i64 (oN .i64 (wr .i64 (ior .i64 (wr .i64 (oN .i64 (wr .i64 (ior .i64 (wr .i64 (oN .i64 (wr .i64 (ior .i64 (wr .i64 (oN .i64 (wr .i64 (ior .i64 (wr .i64 (oN .i64 (wr .i64 (ior .i64 0 (wr .i64 (aj x0 0)))) 8)) (wr .i64 (aj x0 1)))) 8)) (wr .i64 (aj x0 2)))) 8)) (wr .i64 (aj x0 3)))) 8)) (wr .i64 (aj x0 4)))) 8)) (wr .i64 (aj x0 5)))) 8)) (wr .i64 (aj x0 6)))) 8)) (wr .i64 (aj x0 7)))) (wr .i64 (ior .i64 (wr .i64 (oN .i64 (wr .i64 (ior .i64 (wr .i64 (oN .i64 (wr .i64 (ior .i64 (wr .i64 (oN .i64 (wr .i64 (ior .i64 (wr .i64 (oN .i64 (wr .i64 (ior .i64 (wr .i64 (oN .i64 (wr .i64 (ior .i64 (wr .i64 (oN .i64 (wr .i64 (ior .i64 (wr .i64 (oN .i64 (wr .i64 (ior .i64 0 (wr .i64 (aj x0 8)))) 8)) (wr .i64 (aj x0 9)))) 8)) (wr .i64 (aj x0 10)))) 8)) (wr .i64 (aj x0 11)))) 8)) (wr .i64 (aj x0 12)))) 8)) (wr .i64 (aj x0 13)))) 8)) (wr .i64 (aj x0 14)))) 8)) (wr .i64 (aj x0 15)))),0)))) none) none) none) none) none) none) none) none) none) none) none) none) none) none) none) none) none)
def Jg:aF:=mkSpec [.ro .u8] [.val .slot,.int .i64] true (fun x=>uj x)
theorem YD:bW PG 142 Jg:=okN [(157,Ef),(156,D5)] [] ⟨PY,PK,trivial⟩ fun x=>by kernel_rfl
def Dw (x0:ak):Option (gV×Int):=af (qw x0) fun y0=>cnd (au y0) (some (gV.mk 0 0,1)) (cnd x0.down (some (gV.mk 0 0,9)) (af (qC 0) fun y1=>af (oH x0 y1) fun y2=>af (uj y2.1) fun y3=>cnd (band (band (ieq y3.2 0) (ieq (Zb y3.1.gen 2) 0)) (ilt 0 y3.1.gen)) (af (qC 1) fun y4=>af (oH x0 y4) fun y5=>af (uj y5.1) fun y6=>cnd (band (band (ieq y6.2 0) (ieq (Zb y6.1.gen 2) 1)) (ilt y3.1.gen y6.1.gen)) (cnd (ieq y6.1.gen 0) (some (gV.mk 0 0,7)) (some (y6.1,0))) (cnd (ieq y3.1.gen 0) (some (gV.mk 0 0,7)) (some (y3.1,0)))) (af (qC 1) fun y7=>af (oH x0 y7) fun y8=>af (uj y8.1) fun y9=>cnd (band (band (ieq y9.2 0) (ieq (Zb y9.1.gen 2) 1)) (ilt 0 y9.1.gen)) (cnd (ieq y9.1.gen 0) (some (gV.mk 0 0,7)) (some (y9.1,0))) (some (gV.mk 0 0,7)))))
def EZ:aF:=mkSpec [.val .disk] [.val .slot,.int .i64] true (fun x=>Dw x)
theorem TF:bW PG 85 EZ:=okN [(23,qi),(141,FB),(86,AY),(142,Jg)] [] ⟨yC,Si,Kr,YD,trivial⟩ fun x=>by kernel_rfl
def kH (x0:Int):Option ((List UInt8)):=cnd (bor (ilt x0 1) (ilt 1000000000 x0)) (some []) (af (iP x0 10) fun y0=>af (jP [(UInt8.ofNat 48)] (wr .i64 (aI 10 (len y0)))) fun y1=>cnd (ile (ax 5 (len y1)) 68719476736) (cnd (ile (ax (len (cu [(UInt8.ofNat 115),(UInt8.ofNat 110),(UInt8.ofNat 97),(UInt8.ofNat 112),(UInt8.ofNat 46)] y1)) (len y0)) 68719476736) (some (cu (cu [(UInt8.ofNat 115),(UInt8.ofNat 110),(UInt8.ofNat 97),(UInt8.ofNat 112),(UInt8.ofNat 46)] y1) y0)) none) none)
def KN:aF:=mkSpec [.int .i64] [.str] true (fun x=>kH x)
theorem PN:bW PG 95 KN:=okN [(154,sQ),(155,xM)] [] ⟨Dl,Gy,trivial⟩ fun x=>by kernel_rfl
def mW (x0:ak) (x1:(List UInt8)) (x2:(List UInt8)):Option (ak×Int):=cnd (ile (len (cu [x2] [x1])) 68719476736) (af (oD x0 (cu [x2] [x1])) fun y0=>cnd (au (ieq y0 0)) (cnd (au (ieq y0 0)) (some (x0,y0)) (cnd (ieq x0.fuse 0) (some (ak.mk x0.files x0.room x0.fuse true,9)) (cnd (ieq x0.fuse (-1)) (cnd (ilt 0 (len x0.files)) (af (aO x0.files) fun y1=>cnd (band (ile 1 (len y1)) (band (ile 1 (len y1)) (ile (len y1) (len y1)))) (cnd (ile 0 (len y1)) (cnd (ile 1 (len y1)) (cnd (ile (ax 0 (len (aG (aV y1 1) (itn (aI (len y1) 1))))) (len y1)) (cnd (band (band (ile 0 (nti (nad 0 (itn (len (aG (aV y1 1) (itn (aI (len y1) 1)))))))) (ile (nti (nad 0 (itn (len (aG (aV y1 1) (itn (aI (len y1) 1))))))) (len y1))) (ile (len y1) (aI (len (iO y1 0 (aG (aV y1 1) (itn (aI (len y1) 1))))) 0))) (af (iV (ak.mk (aG (iO (iO y1 0 (aG (aV y1 1) (itn (aI (len y1) 1)))) (nad 0 (itn (nti (nad 0 (itn (len (aG (aV y1 1) (itn (aI (len y1) 1))))))))) (nN aC (itn (aI (len y1) (nti (nad 0 (itn (len (aG (aV y1 1) (itn (aI (len y1) 1))))))))))) (nad 0 (itn (len (aG (aV y1 1) (itn (aI (len y1) 1))))))) x0.room x0.fuse x0.down) x2) fun y2=>cnd y2.2 (cnd (band (ile 0 y2.1) (ilt y2.1 (len (aG (iO (iO y1 0 (aG (aV y1 1) (itn (aI (len y1) 1)))) (nad 0 (itn (nti (nad 0 (itn (len (aG (aV y1 1) (itn (aI (len y1) 1))))))))) (nN aC (itn (aI (len y1) (nti (nad 0 (itn (len (aG (aV y1 1) (itn (aI (len y1) 1))))))))))) (nad 0 (itn (len (aG (aV y1 1) (itn (aI (len y1) 1)))))))))) (some (ak.mk (bT (aG (iO (iO y1 0 (aG (aV y1 1) (itn (aI (len y1) 1)))) (nad 0 (itn (nti (nad 0 (itn (len (aG (aV y1 1) (itn (aI (len y1) 1))))))))) (nN aC (itn (aI (len y1) (nti (nad 0 (itn (len (aG (aV y1 1) (itn (aI (len y1) 1))))))))))) (nad 0 (itn (len (aG (aV y1 1) (itn (aI (len y1) 1))))))) (itn y2.1) (aC.mk x2 (aj x0.files 0).data (aj x0.files 0).sure)) x0.room x0.fuse x0.down,0)) none) (af (dH (aG (iO (iO y1 0 (aG (aV y1 1) (itn (aI (len y1) 1)))) (nad 0 (itn (nti (nad 0 (itn (len (aG (aV y1 1) (itn (aI (len y1) 1))))))))) (nN aC (itn (aI (len y1) (nti (nad 0 (itn (len (aG (aV y1 1) (itn (aI (len y1) 1))))))))))) (nad 0 (itn (len (aG (aV y1 1) (itn (aI (len y1) 1))))))) y2.1 [aC.mk x2 (aj x0.files 0).data (aj x0.files 0).sure]) fun y3=>some (ak.mk y3 x0.room x0.fuse x0.down,0))) none) none) none) none) none) none) (cnd (ilt 0 (len x0.files)) (af (aO x0.files) fun y4=>cnd (band (ile 1 (len y4)) (band (ile 1 (len y4)) (ile (len y4) (len y4)))) (cnd (ile 0 (len y4)) (cnd (ile 1 (len y4)) (cnd (ile (ax 0 (len (aG (aV y4 1) (itn (aI (len y4) 1))))) (len y4)) (cnd (band (band (ile 0 (nti (nad 0 (itn (len (aG (aV y4 1) (itn (aI (len y4) 1)))))))) (ile (nti (nad 0 (itn (len (aG (aV y4 1) (itn (aI (len y4) 1))))))) (len y4))) (ile (len y4) (aI (len (iO y4 0 (aG (aV y4 1) (itn (aI (len y4) 1))))) 0))) (af (iV (ak.mk (aG (iO (iO y4 0 (aG (aV y4 1) (itn (aI (len y4) 1)))) (nad 0 (itn (nti (nad 0 (itn (len (aG (aV y4 1) (itn (aI (len y4) 1))))))))) (nN aC (itn (aI (len y4) (nti (nad 0 (itn (len (aG (aV y4 1) (itn (aI (len y4) 1))))))))))) (nad 0 (itn (len (aG (aV y4 1) (itn (aI (len y4) 1))))))) x0.room (wr .i64 (aI x0.fuse 1)) x0.down) x2) fun y5=>cnd y5.2 (cnd (band (ile 0 y5.1) (ilt y5.1 (len (aG (iO (iO y4 0 (aG (aV y4 1) (itn (aI (len y4) 1)))) (nad 0 (itn (nti (nad 0 (itn (len (aG (aV y4 1) (itn (aI (len y4) 1))))))))) (nN aC (itn (aI (len y4) (nti (nad 0 (itn (len (aG (aV y4 1) (itn (aI (len y4) 1))))))))))) (nad 0 (itn (len (aG (aV y4 1) (itn (aI (len y4) 1)))))))))) (some (ak.mk (bT (aG (iO (iO y4 0 (aG (aV y4 1) (itn (aI (len y4) 1)))) (nad 0 (itn (nti (nad 0 (itn (len (aG (aV y4 1) (itn (aI (len y4) 1))))))))) (nN aC (itn (aI (len y4) (nti (nad 0 (itn (len (aG (aV y4 1) (itn (aI (len y4) 1))))))))))) (nad 0 (itn (len (aG (aV y4 1) (itn (aI (len y4) 1))))))) (itn y5.1) (aC.mk x2 (aj x0.files 0).data (aj x0.files 0).sure)) x0.room (wr .i64 (aI x0.fuse 1)) x0.down,0)) none) (af (dH (aG (iO (iO y4 0 (aG (aV y4 1) (itn (aI (len y4) 1)))) (nad 0 (itn (nti (nad 0 (itn (len (aG (aV y4 1) (itn (aI (len y4) 1))))))))) (nN aC (itn (aI (len y4) (nti (nad 0 (itn (len (aG (aV y4 1) (itn (aI (len y4) 1))))))))))) (nad 0 (itn (len (aG (aV y4 1) (itn (aI (len y4) 1))))))) y5.1 [aC.mk x2 (aj x0.files 0).data (aj x0.files 0).sure]) fun y6=>some (ak.mk y6 x0.room (wr .i64 (aI x0.fuse 1)) x0.down,0))) none) none) none) none) none) none)))) (af (iV x0 x1) fun y7=>cnd (au y7.2) (some (x0,7)) (cnd (ieq x0.fuse 0) (some (ak.mk x0.files x0.room x0.fuse true,9)) (cnd (ieq x0.fuse (-1)) (cnd (band (ile 0 y7.1) (ilt y7.1 (len x0.files))) (af (aO x0.files) fun y8=>cnd (band (band (band (ile 0 y7.1) (ile y7.1 (wr .i64 (ax y7.1 1)))) (ile (wr .i64 (ax y7.1 1)) (len y8))) (band (ile (wr .i64 (ax y7.1 1)) (len y8)) (ile (len y8) (len y8)))) (cnd (ieq y7.1 (wr .i64 (ax y7.1 1))) (af (iV (ak.mk y8 x0.room x0.fuse x0.down) x2) fun y9=>cnd y9.2 (cnd (band (ile 0 y9.1) (ilt y9.1 (len y8))) (some (ak.mk (bT y8 (itn y9.1) (aC.mk x2 (aj x0.files (itn y7.1)).data (aj x0.files (itn y7.1)).sure)) x0.room x0.fuse x0.down,0)) none) (af (dH y8 y9.1 [aC.mk x2 (aj x0.files (itn y7.1)).data (aj x0.files (itn y7.1)).sure]) fun y10=>some (ak.mk y10 x0.room x0.fuse x0.down,0))) (cnd (band (ile 0 y7.1) (ile y7.1 (len y8))) (cnd (band (ile 0 (wr .i64 (ax y7.1 1))) (ile (wr .i64 (ax y7.1 1)) (len y8))) (cnd (ile (ax (nti (itn y7.1)) (len (aG (aV y8 (itn (wr .i64 (ax y7.1 1)))) (itn (aI (len y8) (wr .i64 (ax y7.1 1))))))) (len y8)) (cnd (band (band (ile 0 (nti (nad (itn y7.1) (itn (len (aG (aV y8 (itn (wr .i64 (ax y7.1 1)))) (itn (aI (len y8) (wr .i64 (ax y7.1 1)))))))))) (ile (nti (nad (itn y7.1) (itn (len (aG (aV y8 (itn (wr .i64 (ax y7.1 1)))) (itn (aI (len y8) (wr .i64 (ax y7.1 1))))))))) (len y8))) (ile (len y8) (aI (len (iO y8 (itn y7.1) (aG (aV y8 (itn (wr .i64 (ax y7.1 1)))) (itn (aI (len y8) (wr .i64 (ax y7.1 1))))))) 0))) (af (iV (ak.mk (aG (iO (iO y8 (itn y7.1) (aG (aV y8 (itn (wr .i64 (ax y7.1 1)))) (itn (aI (len y8) (wr .i64 (ax y7.1 1)))))) (nad 0 (itn (nti (nad (itn y7.1) (itn (len (aG (aV y8 (itn (wr .i64 (ax y7.1 1)))) (itn (aI (len y8) (wr .i64 (ax y7.1 1))))))))))) (nN aC (itn (aI (len y8) (nti (nad (itn y7.1) (itn (len (aG (aV y8 (itn (wr .i64 (ax y7.1 1)))) (itn (aI (len y8) (wr .i64 (ax y7.1 1))))))))))))) (nad (itn y7.1) (itn (len (aG (aV y8 (itn (wr .i64 (ax y7.1 1)))) (itn (aI (len y8) (wr .i64 (ax y7.1 1))))))))) x0.room x0.fuse x0.down) x2) fun y11=>cnd y11.2 (cnd (band (ile 0 y11.1) (ilt y11.1 (len (aG (iO (iO y8 (itn y7.1) (aG (aV y8 (itn (wr .i64 (ax y7.1 1)))) (itn (aI (len y8) (wr .i64 (ax y7.1 1)))))) (nad 0 (itn (nti (nad (itn y7.1) (itn (len (aG (aV y8 (itn (wr .i64 (ax y7.1 1)))) (itn (aI (len y8) (wr .i64 (ax y7.1 1))))))))))) (nN aC (itn (aI (len y8) (nti (nad (itn y7.1) (itn (len (aG (aV y8 (itn (wr .i64 (ax y7.1 1)))) (itn (aI (len y8) (wr .i64 (ax y7.1 1))))))))))))) (nad (itn y7.1) (itn (len (aG (aV y8 (itn (wr .i64 (ax y7.1 1)))) (itn (aI (len y8) (wr .i64 (ax y7.1 1)))))))))))) (some (ak.mk (bT (aG (iO (iO y8 (itn y7.1) (aG (aV y8 (itn (wr .i64 (ax y7.1 1)))) (itn (aI (len y8) (wr .i64 (ax y7.1 1)))))) (nad 0 (itn (nti (nad (itn y7.1) (itn (len (aG (aV y8 (itn (wr .i64 (ax y7.1 1)))) (itn (aI (len y8) (wr .i64 (ax y7.1 1))))))))))) (nN aC (itn (aI (len y8) (nti (nad (itn y7.1) (itn (len (aG (aV y8 (itn (wr .i64 (ax y7.1 1)))) (itn (aI (len y8) (wr .i64 (ax y7.1 1))))))))))))) (nad (itn y7.1) (itn (len (aG (aV y8 (itn (wr .i64 (ax y7.1 1)))) (itn (aI (len y8) (wr .i64 (ax y7.1 1))))))))) (itn y11.1) (aC.mk x2 (aj x0.files (itn y7.1)).data (aj x0.files (itn y7.1)).sure)) x0.room x0.fuse x0.down,0)) none) (af (dH (aG (iO (iO y8 (itn y7.1) (aG (aV y8 (itn (wr .i64 (ax y7.1 1)))) (itn (aI (len y8) (wr .i64 (ax y7.1 1)))))) (nad 0 (itn (nti (nad (itn y7.1) (itn (len (aG (aV y8 (itn (wr .i64 (ax y7.1 1)))) (itn (aI (len y8) (wr .i64 (ax y7.1 1))))))))))) (nN aC (itn (aI (len y8) (nti (nad (itn y7.1) (itn (len (aG (aV y8 (itn (wr .i64 (ax y7.1 1)))) (itn (aI (len y8) (wr .i64 (ax y7.1 1))))))))))))) (nad (itn y7.1) (itn (len (aG (aV y8 (itn (wr .i64 (ax y7.1 1)))) (itn (aI (len y8) (wr .i64 (ax y7.1 1))))))))) y11.1 [aC.mk x2 (aj x0.files (itn y7.1)).data (aj x0.files (itn y7.1)).sure]) fun y12=>some (ak.mk y12 x0.room x0.fuse x0.down,0))) none) none) none) none)) none) none) (cnd (band (ile 0 y7.1) (ilt y7.1 (len x0.files))) (af (aO x0.files) fun y13=>cnd (band (band (band (ile 0 y7.1) (ile y7.1 (wr .i64 (ax y7.1 1)))) (ile (wr .i64 (ax y7.1 1)) (len y13))) (band (ile (wr .i64 (ax y7.1 1)) (len y13)) (ile (len y13) (len y13)))) (cnd (ieq y7.1 (wr .i64 (ax y7.1 1))) (af (iV (ak.mk y13 x0.room (wr .i64 (aI x0.fuse 1)) x0.down) x2) fun y14=>cnd y14.2 (cnd (band (ile 0 y14.1) (ilt y14.1 (len y13))) (some (ak.mk (bT y13 (itn y14.1) (aC.mk x2 (aj x0.files (itn y7.1)).data (aj x0.files (itn y7.1)).sure)) x0.room (wr .i64 (aI x0.fuse 1)) x0.down,0)) none) (af (dH y13 y14.1 [aC.mk x2 (aj x0.files (itn y7.1)).data (aj x0.files (itn y7.1)).sure]) fun y15=>some (ak.mk y15 x0.room (wr .i64 (aI x0.fuse 1)) x0.down,0))) (cnd (band (ile 0 y7.1) (ile y7.1 (len y13))) (cnd (band (ile 0 (wr .i64 (ax y7.1 1))) (ile (wr .i64 (ax y7.1 1)) (len y13))) (cnd (ile (ax (nti (itn y7.1)) (len (aG (aV y13 (itn (wr .i64 (ax y7.1 1)))) (itn (aI (len y13) (wr .i64 (ax y7.1 1))))))) (len y13)) (cnd (band (band (ile 0 (nti (nad (itn y7.1) (itn (len (aG (aV y13 (itn (wr .i64 (ax y7.1 1)))) (itn (aI (len y13) (wr .i64 (ax y7.1 1)))))))))) (ile (nti (nad (itn y7.1) (itn (len (aG (aV y13 (itn (wr .i64 (ax y7.1 1)))) (itn (aI (len y13) (wr .i64 (ax y7.1 1))))))))) (len y13))) (ile (len y13) (aI (len (iO y13 (itn y7.1) (aG (aV y13 (itn (wr .i64 (ax y7.1 1)))) (itn (aI (len y13) (wr .i64 (ax y7.1 1))))))) 0))) (af (iV (ak.mk (aG (iO (iO y13 (itn y7.1) (aG (aV y13 (itn (wr .i64 (ax y7.1 1)))) (itn (aI (len y13) (wr .i64 (ax y7.1 1)))))) (nad 0 (itn (nti (nad (itn y7.1) (itn (len (aG (aV y13 (itn (wr .i64 (ax y7.1 1)))) (itn (aI (len y13) (wr .i64 (ax y7.1 1))))))))))) (nN aC (itn (aI (len y13) (nti (nad (itn y7.1) (itn (len (aG (aV y13 (itn (wr .i64 (ax y7.1 1)))) (itn (aI (len y13) (wr .i64 (ax y7.1 1))))))))))))) (nad (itn y7.1) (itn (len (aG (aV y13 (itn (wr .i64 (ax y7.1 1)))) (itn (aI (len y13) (wr .i64 (ax y7.1 1))))))))) x0.room (wr .i64 (aI x0.fuse 1)) x0.down) x2) fun y16=>cnd y16.2 (cnd (band (ile 0 y16.1) (ilt y16.1 (len (aG (iO (iO y13 (itn y7.1) (aG (aV y13 (itn (wr .i64 (ax y7.1 1)))) (itn (aI (len y13) (wr .i64 (ax y7.1 1)))))) (nad 0 (itn (nti (nad (itn y7.1) (itn (len (aG (aV y13 (itn (wr .i64 (ax y7.1 1)))) (itn (aI (len y13) (wr .i64 (ax y7.1 1))))))))))) (nN aC (itn (aI (len y13) (nti (nad (itn y7.1) (itn (len (aG (aV y13 (itn (wr .i64 (ax y7.1 1)))) (itn (aI (len y13) (wr .i64 (ax y7.1 1))))))))))))) (nad (itn y7.1) (itn (len (aG (aV y13 (itn (wr .i64 (ax y7.1 1)))) (itn (aI (len y13) (wr .i64 (ax y7.1 1)))))))))))) (some (ak.mk (bT (aG (iO (iO y13 (itn y7.1) (aG (aV y13 (itn (wr .i64 (ax y7.1 1)))) (itn (aI (len y13) (wr .i64 (ax y7.1 1)))))) (nad 0 (itn (nti (nad (itn y7.1) (itn (len (aG (aV y13 (itn (wr .i64 (ax y7.1 1)))) (itn (aI (len y13) (wr .i64 (ax y7.1 1))))))))))) (nN aC (itn (aI (len y13) (nti (nad (itn y7.1) (itn (len (aG (aV y13 (itn (wr .i64 (ax y7.1 1)))) (itn (aI (len y13) (wr .i64 (ax y7.1 1))))))))))))) (nad (itn y7.1) (itn (len (aG (aV y13 (itn (wr .i64 (ax y7.1 1)))) (itn (aI (len y13) (wr .i64 (ax y7.1 1))))))))) (itn y16.1) (aC.mk x2 (aj x0.files (itn y7.1)).data (aj x0.files (itn y7.1)).sure)) x0.room (wr .i64 (aI x0.fuse 1)) x0.down,0)) none) (af (dH (aG (iO (iO y13 (itn y7.1) (aG (aV y13 (itn (wr .i64 (ax y7.1 1)))) (itn (aI (len y13) (wr .i64 (ax y7.1 1)))))) (nad 0 (itn (nti (nad (itn y7.1) (itn (len (aG (aV y13 (itn (wr .i64 (ax y7.1 1)))) (itn (aI (len y13) (wr .i64 (ax y7.1 1))))))))))) (nN aC (itn (aI (len y13) (nti (nad (itn y7.1) (itn (len (aG (aV y13 (itn (wr .i64 (ax y7.1 1)))) (itn (aI (len y13) (wr .i64 (ax y7.1 1))))))))))))) (nad (itn y7.1) (itn (len (aG (aV y13 (itn (wr .i64 (ax y7.1 1)))) (itn (aI (len y13) (wr .i64 (ax y7.1 1))))))))) y16.1 [aC.mk x2 (aj x0.files (itn y7.1)).data (aj x0.files (itn y7.1)).sure]) fun y17=>some (ak.mk y17 x0.room (wr .i64 (aI x0.fuse 1)) x0.down,0))) none) none) none) none)) none) none))))) none
def IC:aF:=mkSpec [.val .disk,.str,.str] [.val .disk,.int .i64] false (fun x=>mW x.1 x.2.1 x.2.2)
theorem XG:bW PG 94 IC:=okN [(146,nT),(147,o9),(149,iQ),(150,oz)] [143,152,153] ⟨uf,xk,kD,xI,trivial⟩ fun x=>by kernel_rfl
def BV (x0:ak) (x1:(List UInt8)) (x2:Int):Option (ak×Int):=af (oD x0 [x1]) fun y0=>cnd (au (ieq y0 0)) (cnd (au (ieq y0 0)) (some (x0,y0)) (cnd (ilt x2 0) (cnd (ilt x2 0) (some (x0,1)) (cnd (ieq x0.fuse 0) (some (ak.mk x0.files x0.room x0.fuse true,9)) (cnd (ieq x0.fuse (-1)) (af (aO x0.files) fun y1=>cnd (ilt 0 (len y1)) (cnd (band (ile 0 x2) (ile x2 (len (aj y1 0).data))) (af (eG (aG (aj y1 0).data (itn x2))) fun y2=>some (ak.mk (bT (bT y1 0 (aC.mk (aj y1 0).name y2 (aj y1 0).sure)) 0 (aC.mk (aj (bT y1 0 (aC.mk (aj y1 0).name y2 (aj y1 0).sure)) 0).name (aj (bT y1 0 (aC.mk (aj y1 0).name y2 (aj y1 0).sure)) 0).data (jm (aj y1 0).sure x2))) x0.room x0.fuse x0.down,0)) none) none) (af (aO x0.files) fun y3=>cnd (ilt 0 (len y3)) (cnd (band (ile 0 x2) (ile x2 (len (aj y3 0).data))) (af (eG (aG (aj y3 0).data (itn x2))) fun y4=>some (ak.mk (bT (bT y3 0 (aC.mk (aj y3 0).name y4 (aj y3 0).sure)) 0 (aC.mk (aj (bT y3 0 (aC.mk (aj y3 0).name y4 (aj y3 0).sure)) 0).name (aj (bT y3 0 (aC.mk (aj y3 0).name y4 (aj y3 0).sure)) 0).data (jm (aj y3 0).sure x2))) x0.room (wr .i64 (aI x0.fuse 1)) x0.down,0)) none) none)))) (cnd (ilt 0 (len x0.files)) (cnd (ilt (len (aj x0.files 0).data) x2) (some (x0,1)) (cnd (ieq x0.fuse 0) (some (ak.mk x0.files x0.room x0.fuse true,9)) (cnd (ieq x0.fuse (-1)) (af (aO x0.files) fun y5=>cnd (ilt 0 (len y5)) (cnd (band (ile 0 x2) (ile x2 (len (aj y5 0).data))) (af (eG (aG (aj y5 0).data (itn x2))) fun y6=>some (ak.mk (bT (bT y5 0 (aC.mk (aj y5 0).name y6 (aj y5 0).sure)) 0 (aC.mk (aj (bT y5 0 (aC.mk (aj y5 0).name y6 (aj y5 0).sure)) 0).name (aj (bT y5 0 (aC.mk (aj y5 0).name y6 (aj y5 0).sure)) 0).data (jm (aj y5 0).sure x2))) x0.room x0.fuse x0.down,0)) none) none) (af (aO x0.files) fun y7=>cnd (ilt 0 (len y7)) (cnd (band (ile 0 x2) (ile x2 (len (aj y7 0).data))) (af (eG (aG (aj y7 0).data (itn x2))) fun y8=>some (ak.mk (bT (bT y7 0 (aC.mk (aj y7 0).name y8 (aj y7 0).sure)) 0 (aC.mk (aj (bT y7 0 (aC.mk (aj y7 0).name y8 (aj y7 0).sure)) 0).name (aj (bT y7 0 (aC.mk (aj y7 0).name y8 (aj y7 0).sure)) 0).data (jm (aj y7 0).sure x2))) x0.room (wr .i64 (aI x0.fuse 1)) x0.down,0)) none) none)))) none))) (af (iV x0 x1) fun y9=>cnd (au y9.2) (some (x0,7)) (cnd (ilt x2 0) (cnd (ilt x2 0) (some (x0,1)) (cnd (ieq x0.fuse 0) (some (ak.mk x0.files x0.room x0.fuse true,9)) (cnd (ieq x0.fuse (-1)) (af (aO x0.files) fun y10=>cnd (band (ile 0 y9.1) (ilt y9.1 (len y10))) (cnd (band (ile 0 x2) (ile x2 (len (aj y10 (itn y9.1)).data))) (af (eG (aG (aj y10 (itn y9.1)).data (itn x2))) fun y11=>some (ak.mk (bT (bT y10 (itn y9.1) (aC.mk (aj y10 (itn y9.1)).name y11 (aj y10 (itn y9.1)).sure)) (itn y9.1) (aC.mk (aj (bT y10 (itn y9.1) (aC.mk (aj y10 (itn y9.1)).name y11 (aj y10 (itn y9.1)).sure)) (itn y9.1)).name (aj (bT y10 (itn y9.1) (aC.mk (aj y10 (itn y9.1)).name y11 (aj y10 (itn y9.1)).sure)) (itn y9.1)).data (jm (aj y10 (itn y9.1)).sure x2))) x0.room x0.fuse x0.down,0)) none) none) (af (aO x0.files) fun y12=>cnd (band (ile 0 y9.1) (ilt y9.1 (len y12))) (cnd (band (ile 0 x2) (ile x2 (len (aj y12 (itn y9.1)).data))) (af (eG (aG (aj y12 (itn y9.1)).data (itn x2))) fun y13=>some (ak.mk (bT (bT y12 (itn y9.1) (aC.mk (aj y12 (itn y9.1)).name y13 (aj y12 (itn y9.1)).sure)) (itn y9.1) (aC.mk (aj (bT y12 (itn y9.1) (aC.mk (aj y12 (itn y9.1)).name y13 (aj y12 (itn y9.1)).sure)) (itn y9.1)).name (aj (bT y12 (itn y9.1) (aC.mk (aj y12 (itn y9.1)).name y13 (aj y12 (itn y9.1)).sure)) (itn y9.1)).data (jm (aj y12 (itn y9.1)).sure x2))) x0.room (wr .i64 (aI x0.fuse 1)) x0.down,0)) none) none)))) (cnd (band (ile 0 y9.1) (ilt y9.1 (len x0.files))) (cnd (ilt (len (aj x0.files (itn y9.1)).data) x2) (some (x0,1)) (cnd (ieq x0.fuse 0) (some (ak.mk x0.files x0.room x0.fuse true,9)) (cnd (ieq x0.fuse (-1)) (af (aO x0.files) fun y14=>cnd (band (ile 0 y9.1) (ilt y9.1 (len y14))) (cnd (band (ile 0 x2) (ile x2 (len (aj y14 (itn y9.1)).data))) (af (eG (aG (aj y14 (itn y9.1)).data (itn x2))) fun y15=>some (ak.mk (bT (bT y14 (itn y9.1) (aC.mk (aj y14 (itn y9.1)).name y15 (aj y14 (itn y9.1)).sure)) (itn y9.1) (aC.mk (aj (bT y14 (itn y9.1) (aC.mk (aj y14 (itn y9.1)).name y15 (aj y14 (itn y9.1)).sure)) (itn y9.1)).name (aj (bT y14 (itn y9.1) (aC.mk (aj y14 (itn y9.1)).name y15 (aj y14 (itn y9.1)).sure)) (itn y9.1)).data (jm (aj y14 (itn y9.1)).sure x2))) x0.room x0.fuse x0.down,0)) none) none) (af (aO x0.files) fun y16=>cnd (band (ile 0 y9.1) (ilt y9.1 (len y16))) (cnd (band (ile 0 x2) (ile x2 (len (aj y16 (itn y9.1)).data))) (af (eG (aG (aj y16 (itn y9.1)).data (itn x2))) fun y17=>some (ak.mk (bT (bT y16 (itn y9.1) (aC.mk (aj y16 (itn y9.1)).name y17 (aj y16 (itn y9.1)).sure)) (itn y9.1) (aC.mk (aj (bT y16 (itn y9.1) (aC.mk (aj y16 (itn y9.1)).name y17 (aj y16 (itn y9.1)).sure)) (itn y9.1)).name (aj (bT y16 (itn y9.1) (aC.mk (aj y16 (itn y9.1)).name y17 (aj y16 (itn y9.1)).sure)) (itn y9.1)).data (jm (aj y16 (itn y9.1)).sure x2))) x0.room (wr .i64 (aI x0.fuse 1)) x0.down,0)) none) none)))) none)))
def PZ:aF:=mkSpec [.val .disk,.str,.int .i64] [.val .disk,.int .i64] false (fun x=>BV x.1 x.2.1 x.2.2)
theorem adN:bW PG 160 PZ:=okN [(146,nT),(147,o9),(149,iQ),(144,su)] [143,152] ⟨uf,xk,kD,Dq,trivial⟩ fun x=>by kernel_rfl
def iZ (x0:ak) (x1:gV):Option (ak×Int):=af (zM x1) fun y0=>cnd (au y0) (some (x0,1)) (af (Dw x0) fun y1=>cnd (ieq y1.2 1) (cnd (ieq y1.2 1) (some (x0,y1.2)) (cnd (au (ieq x1.gen (wr .i64 (ax y1.1.gen 1)))) (some (x0,8)) (af (qC x1.gen) fun y2=>af (tC x1) fun y3=>af (oH x0 y2) fun y4=>cnd (ieq y4.2 7) (af (iG x0 y2 [y3.a0,y3.a1,y3.a2,y3.a3,y3.a4,y3.a5,y3.a6,y3.a7,y3.a8,y3.a9,y3.a10,y3.a11,y3.a12,y3.a13,y3.a14,y3.a15,y3.a16,y3.a17,y3.a18,y3.a19]) fun y5=>cnd (au (ieq y5.2 0)) (some y5) (af (jh y5.1 y2) fun y6=>cnd (au (ieq y6.2 0)) (some y6) (some (y6.1,0)))) (af (BV x0 y2 0) fun y7=>cnd (au (ieq y7.2 0)) (some y7) (af (iG y7.1 y2 [y3.a0,y3.a1,y3.a2,y3.a3,y3.a4,y3.a5,y3.a6,y3.a7,y3.a8,y3.a9,y3.a10,y3.a11,y3.a12,y3.a13,y3.a14,y3.a15,y3.a16,y3.a17,y3.a18,y3.a19]) fun y8=>cnd (au (ieq y8.2 0)) (some y8) (af (jh y8.1 y2) fun y9=>cnd (au (ieq y9.2 0)) (some y9) (some (y9.1,0)))))))) (cnd (ieq y1.2 9) (some (x0,y1.2)) (cnd (au (ieq x1.gen (wr .i64 (ax y1.1.gen 1)))) (some (x0,8)) (af (qC x1.gen) fun y10=>af (tC x1) fun y11=>af (oH x0 y10) fun y12=>cnd (ieq y12.2 7) (af (iG x0 y10 [y11.a0,y11.a1,y11.a2,y11.a3,y11.a4,y11.a5,y11.a6,y11.a7,y11.a8,y11.a9,y11.a10,y11.a11,y11.a12,y11.a13,y11.a14,y11.a15,y11.a16,y11.a17,y11.a18,y11.a19]) fun y13=>cnd (au (ieq y13.2 0)) (some y13) (af (jh y13.1 y10) fun y14=>cnd (au (ieq y14.2 0)) (some y14) (some (y14.1,0)))) (af (BV x0 y10 0) fun y15=>cnd (au (ieq y15.2 0)) (some y15) (af (iG y15.1 y10 [y11.a0,y11.a1,y11.a2,y11.a3,y11.a4,y11.a5,y11.a6,y11.a7,y11.a8,y11.a9,y11.a10,y11.a11,y11.a12,y11.a13,y11.a14,y11.a15,y11.a16,y11.a17,y11.a18,y11.a19]) fun y16=>cnd (au (ieq y16.2 0)) (some y16) (af (jh y16.1 y10) fun y17=>cnd (au (ieq y17.2 0)) (some y17) (some (y17.1,0)))))))))
def KQ:aF:=mkSpec [.val .disk,.val .slot] [.val .disk,.int .i64] false (fun x=>iZ x.1 x.2)
theorem Zm:bW PG 97 KQ:=okN [(156,D5),(85,EZ),(141,FB),(157,Ef),(86,AY),(160,PZ),(90,xu),(92,Au)] [159,161,162,158] ⟨PK,TF,Si,PY,Kr,adN,F9,JX,trivial⟩ fun x=>by kernel_rfl
def xC (x0:(List UInt8)):Option (Bool):=some (au (ieq (jD [115,110,97,112,46] x0) 0))
def En:aF:=mkSpec [.str] [.bool] true (fun x=>xC x)
def NK:Go.Shelf.Ren:=⟨fun | 174=>164 | 247=>201 | 245=>202 | 287=>222 | 279=>223 | 280=>224 | 281=>225 | 282=>226 | 321=>238 | 322=>239 | 316=>240 | 171=>242 | 205=>241 | 243=>246 | 246=>194 | 283=>215 | 284=>216 | 285=>217 | 286=>218 | 129=>232 | 317=>231 | 318=>233 | 319=>234 | 320=>235 | 337=>244 | 338=>245 | n=>n,fun | 9=>9 | 3=>3 | 2=>2 | 75=>228 | 85=>229 | 4=>4 | 167=>295 | 5=>5 | 53=>234 | 175=>296 | 46=>164 | 168=>298 | 37=>106 | 0=>0 | 210=>315 | 21=>21 | 127=>294 | 145=>321 | 143=>319 | 171=>289 | 173=>292 | 212=>305 | 51=>203 | 20=>20 | 213=>306 | 232=>322 | 233=>323 | 74=>227 | 209=>314 | 144=>320 | 80=>271 | n=>n,fun | 15=>2 | 16=>3 | 17=>1 | 18=>4 | 19=>5 | n=>n⟩
theorem lQ:Go.Proofs.LaysC.n174 PG NK where
 mixed:=by kernel_rfl
 f129:=by kernel_rfl
 f171:=by kernel_rfl
 f174:=by kernel_rfl
 f205:=by kernel_rfl
 f243:=by kernel_rfl
 f245:=by kernel_rfl
 f246:=by kernel_rfl
 f247:=by kernel_rfl
 f279:=by kernel_rfl
 f280:=by kernel_rfl
 f281:=by kernel_rfl
 f282:=by kernel_rfl
 f283:=by kernel_rfl
 f284:=by kernel_rfl
 f285:=by kernel_rfl
 f286:=by kernel_rfl
 f287:=by kernel_rfl
 f316:=by kernel_rfl
 f317:=by kernel_rfl
 f318:=by kernel_rfl
 f319:=by kernel_rfl
 f320:=by kernel_rfl
 f321:=by kernel_rfl
 f322:=by kernel_rfl
 f337:=by kernel_rfl
 f338:=by kernel_rfl
 t0:=by kernel_rfl
 a0:=fun w=>by kernel_rfl
 z0:=fun w=>by kernel_rfl
 v0:=fun w=>by kernel_rfl
 t2:=by kernel_rfl
 a2:=fun w=>by kernel_rfl
 z2:=fun w=>by kernel_rfl
 v2:=fun w=>by kernel_rfl
 t3:=by kernel_rfl
 a3:=fun w=>by kernel_rfl
 z3:=fun w=>by kernel_rfl
 v3:=fun w=>by kernel_rfl
 t4:=by kernel_rfl
 a4:=fun w=>by kernel_rfl
 z4:=fun w=>by kernel_rfl
 v4:=fun w=>by kernel_rfl
 t5:=by kernel_rfl
 a5:=fun w=>by kernel_rfl
 z5:=fun w=>by kernel_rfl
 v5:=fun w=>by kernel_rfl
 t9:=by kernel_rfl
 a9:=fun w=>by kernel_rfl
 z9:=fun w=>by kernel_rfl
 v9:=fun w=>by kernel_rfl
 t20:=by kernel_rfl
 a20:=fun w=>by kernel_rfl
 z20:=fun w=>by kernel_rfl
 v20:=fun w=>by kernel_rfl
 t21:=by kernel_rfl
 a21:=fun w=>by kernel_rfl
 z21:=fun w=>by kernel_rfl
 v21:=fun w=>by kernel_rfl
 t37:=by kernel_rfl
 a37:=fun w=>by kernel_rfl
 z37:=fun w=>by kernel_rfl
 v37:=fun w=>by kernel_rfl
 t46:=by kernel_rfl
 a46:=fun w=>by kernel_rfl
 z46:=fun w=>by kernel_rfl
 v46:=fun w=>by kernel_rfl
 t51:=by kernel_rfl
 a51:=fun w=>by kernel_rfl
 z51:=fun w=>by kernel_rfl
 v51:=fun w=>by kernel_rfl
 t53:=by kernel_rfl
 a53:=fun w=>by kernel_rfl
 z53:=fun w=>by kernel_rfl
 v53:=fun w=>by kernel_rfl
 t75:=by kernel_rfl
 a75:=fun w=>by kernel_rfl
 z75:=fun w=>by kernel_rfl
 v75:=fun w=>by kernel_rfl
 t85:=by kernel_rfl
 a85:=fun w=>by kernel_rfl
 z85:=fun w=>by kernel_rfl
 v85:=fun w=>by kernel_rfl
 t127:=by kernel_rfl
 a127:=fun w=>by kernel_rfl
 z127:=fun w=>by kernel_rfl
 v127:=fun w=>by kernel_rfl
 t143:=by kernel_rfl
 a143:=fun w=>by kernel_rfl
 z143:=fun w=>by kernel_rfl
 v143:=fun w=>by kernel_rfl
 t145:=by kernel_rfl
 a145:=fun w=>by kernel_rfl
 z145:=fun w=>by kernel_rfl
 v145:=fun w=>by kernel_rfl
 t167:=by kernel_rfl
 a167:=fun w=>by kernel_rfl
 z167:=fun w=>by kernel_rfl
 v167:=fun w=>by kernel_rfl
 t168:=by kernel_rfl
 a168:=fun w=>by kernel_rfl
 z168:=fun w=>by kernel_rfl
 v168:=fun w=>by kernel_rfl
 t171:=by kernel_rfl
 a171:=fun w=>by kernel_rfl
 z171:=fun w=>by kernel_rfl
 v171:=fun w=>by kernel_rfl
 t173:=by kernel_rfl
 a173:=fun w=>by kernel_rfl
 z173:=fun w=>by kernel_rfl
 v173:=fun w=>by kernel_rfl
 t175:=by kernel_rfl
 a175:=fun w=>by kernel_rfl
 z175:=fun w=>by kernel_rfl
 v175:=fun w=>by kernel_rfl
 t210:=by kernel_rfl
 a210:=fun w=>by kernel_rfl
 z210:=fun w=>by kernel_rfl
 v210:=fun w=>by kernel_rfl
 t212:=by kernel_rfl
 a212:=fun w=>by kernel_rfl
 z212:=fun w=>by kernel_rfl
 v212:=fun w=>by kernel_rfl
 t213:=by kernel_rfl
 a213:=fun w=>by kernel_rfl
 z213:=fun w=>by kernel_rfl
 t232:=by kernel_rfl
 a232:=fun w=>by kernel_rfl
 z232:=fun w=>by kernel_rfl
 v232:=fun w=>by kernel_rfl
 t233:=by kernel_rfl
 a233:=fun w=>by kernel_rfl
 z233:=fun w=>by kernel_rfl
 v233:=fun w=>by kernel_rfl
 g15:=by kernel_rfl
 g16:=by kernel_rfl
 g17:=by kernel_rfl
 g18:=by kernel_rfl
 g19:=by kernel_rfl
 t80:=by kernel_rfl
 a80:=fun w=>by kernel_rfl
 z80:=fun w=>by kernel_rfl
 v80:=fun w=>by kernel_rfl
 i0:=by kernel_rfl
 i2:=by kernel_rfl
 i3:=by kernel_rfl
 i4:=by kernel_rfl
 i5:=by kernel_rfl
 i9:=by kernel_rfl
 i20:=by kernel_rfl
 i21:=by kernel_rfl
 i37:=by kernel_rfl
 i46:=by kernel_rfl
 i51:=by kernel_rfl
 i53:=by kernel_rfl
 i75:=by kernel_rfl
 i80:=by kernel_rfl
 i85:=by kernel_rfl
 i127:=by kernel_rfl
 i143:=by kernel_rfl
 i145:=by kernel_rfl
 i167:=by kernel_rfl
 i168:=by kernel_rfl
 i171:=by kernel_rfl
 i173:=by kernel_rfl
 i175:=by kernel_rfl
 i210:=by kernel_rfl
 i212:=by kernel_rfl
 i232:=by kernel_rfl
 i233:=by kernel_rfl
 m15:=by kernel_rfl
 m16:=by kernel_rfl
 m17:=by kernel_rfl
 m18:=by kernel_rfl
 m19:=by kernel_rfl
 c0:=by kernel_rfl
 c2:=by kernel_rfl
 c3:=by kernel_rfl
 c4:=by kernel_rfl
 c5:=by kernel_rfl
 c9:=by kernel_rfl
 c20:=by kernel_rfl
 c21:=by kernel_rfl
 c37:=by kernel_rfl
 c46:=by kernel_rfl
 c51:=by kernel_rfl
 c53:=by kernel_rfl
 c75:=by kernel_rfl
 c80:=by kernel_rfl
 c85:=by kernel_rfl
 c127:=by kernel_rfl
 c143:=by kernel_rfl
 c145:=by kernel_rfl
 c167:=by kernel_rfl
 c168:=by kernel_rfl
 c171:=by kernel_rfl
 c173:=by kernel_rfl
 c175:=by kernel_rfl
 c210:=by kernel_rfl
 c212:=by kernel_rfl
 c213:=by kernel_rfl
 c232:=by kernel_rfl
 c233:=by kernel_rfl
def LC:Go.Shelf.Ren:=⟨fun | 103=>163 | 210=>200 | 206=>219 | n=>n,fun | 9=>9 | 4=>4 | 24=>225 | 3=>3 | n=>n,fun | n=>n⟩
theorem Ag:Go.Proofs.Lays.n103 PG LC where
 mixed:=by kernel_rfl
 f103:=by kernel_rfl
 f206:=by kernel_rfl
 f210:=by kernel_rfl
 t3:=by kernel_rfl
 a3:=fun w=>by kernel_rfl
 z3:=fun w=>by kernel_rfl
 v3:=fun w=>by kernel_rfl
 t4:=by kernel_rfl
 a4:=fun w=>by kernel_rfl
 z4:=fun w=>by kernel_rfl
 v4:=fun w=>by kernel_rfl
 t9:=by kernel_rfl
 a9:=fun w=>by kernel_rfl
 z9:=fun w=>by kernel_rfl
 v9:=fun w=>by kernel_rfl
 t24:=by kernel_rfl
 a24:=fun w=>by kernel_rfl
 z24:=fun w=>by kernel_rfl
 v24:=fun w=>by kernel_rfl
theorem aeF {B B':Nat} {a b:World} (h:RowKit.Below B a b) (hB:B'<=B):RowKit.Below B' a b:=⟨h.os,h.tape,h.output,h.size,fun k hk=>h.block k (Nat.lt_of_lt_of_le hk hB)⟩
set_option maxHeartbeats 1000000 in
set_option maxRecDepth 100000 in
theorem abV (s r:ByteArray) (w:World)
 (h1:Calls PG 163 #[.string s,.string ⟨#[115,110,97,112,46]⟩] w fun e w'=>e= .returned (.tuple #[.string r,.bool false])/\w'=w):
 Calls PG 98 #[.string s] w fun e w'=>e= .returned (.bool false)/\RowKit.Below w.heap.size w w':=by
 go_enter Go.Proofs.Tryz.func98,Go.Proofs.Tryz.ntmps98
 go_wp2_with (go_at_call 163;refine h1.mono ?_;rintro e W1 ⟨rfl,rfl⟩)
 all_goals (go_ret;exact⟨rfl,RowKit.Below.refl _ _⟩)
set_option maxHeartbeats 1000000 in
set_option maxRecDepth 100000 in
theorem Y4 (s r:ByteArray) (w:World)
 (h1:Calls PG 163 #[.string s,.string ⟨#[115,110,97,112,46]⟩] w fun e w'=>e= .returned (.tuple #[.string r,.bool true])/\w'=w) (hr:r.size≠10):
 Calls PG 98 #[.string s] w fun e w'=>e= .returned (.bool false)/\RowKit.Below w.heap.size w w':=by
 have hr':((((r.size:Nat):Int)) != 10)=true:=by simp;omega
 go_enter Go.Proofs.Tryz.func98,Go.Proofs.Tryz.ntmps98
 go_wp2_with (go_at_call 163;refine h1.mono ?_;rintro e W1 ⟨rfl,rfl⟩)
 all_goals (go_ret;exact⟨rfl,RowKit.Below.refl _ _⟩)
set_option maxHeartbeats 1000000 in
set_option maxRecDepth 100000 in
theorem Pg (s r:ByteArray) (w:World) (v:Int) (t:TypeId) (q:Value->Prop)
 (h1:Calls PG 163 #[.string s,.string ⟨#[115,110,97,112,46]⟩] w fun e w'=>e= .returned (.tuple #[.string r,.bool true])/\w'=w) (hr:r.size=10)
 (h2:Calls PG 164 #[.string r,.int .i64 10,.int .i64 64] w fun e w'=>∃p,e= .returned (.tuple #[.int .i64 v,.iface t p])/\RowKit.Below w.heap.size w w'):
 Calls PG 98 #[.string s] w fun e w'=>e= .returned (.bool false)/\RowKit.Below w.heap.size w w':=by
 have hr':((r.size:Nat):Int)=10:=by omega
 go_enter Go.Proofs.Tryz.func98,Go.Proofs.Tryz.ntmps98
 go_wp2_with (first | (go_at_call 163;refine h1.mono ?_;rintro e W1 ⟨rfl,rfl⟩) | (go_at_call 164;refine h2.mono ?_;rintro e W2 ⟨p,rfl,hb⟩))
 all_goals (go_ret;exact⟨rfl,hb⟩)
set_option maxHeartbeats 1000000 in
set_option maxRecDepth 100000 in
theorem abW (s r:ByteArray) (w:World) (v:Int) (nm:ByteArray)
 (h1:Calls PG 163 #[.string s,.string ⟨#[115,110,97,112,46]⟩] w fun e w'=>e= .returned (.tuple #[.string r,.bool true])/\w'=w) (hr:r.size=10)
 (h2:Calls PG 164 #[.string r,.int .i64 10,.int .i64 64] w fun e w'=>e= .returned (.tuple #[.int .i64 v,.nilIface])/\RowKit.Below w.heap.size w w')
 (h3:∀w1,RowKit.Below w.heap.size w w1->Calls PG 95 #[.int .i64 v] w1 fun e w'=>e= .returned (.string nm)/\RowKit.Below w1.heap.size w1 w'):
 Calls PG 98 #[.string s] w fun e w'=>e= .returned (.bool (nm.toList == s.toList))/\RowKit.Below w.heap.size w w':=by
 have hr':((r.size:Nat):Int)=10:=by omega
 go_enter Go.Proofs.Tryz.func98,Go.Proofs.Tryz.ntmps98
 go_wp2_with (first | (go_at_call 163;refine h1.mono ?_;rintro e W1 ⟨rfl,rfl⟩) | (go_at_call 164;refine h2.mono ?_;rintro e W2 ⟨rfl,hb⟩) | (go_at_call 95;refine(h3 _ hb).mono ?_;rintro e W3 ⟨rfl,hb3⟩))
 all_goals (go_ret;exact⟨rfl,hb.trans (aeF hb3 hb.size)⟩)
theorem ahd (v:Int) (hv:inI v):kH v=some (nV [115,110,97,112,46] v):=by
 unfold inI at hv
 unfold kH nV iP jP
 by_cases h:v<1\/1000000000<v
 ·rw[if_pos h,show bor (ilt v 1) (ilt 1000000000 v)=true by rw[TJ,AQ,AQ];exact h];rfl
 ·have e1:bor (ilt v 1) (ilt 1000000000 v)=false:=by
   rw[Bool.eq_false_iff];intro g;rw[TJ,AQ,AQ]at g;exact h g
  have hl:(fmt10 v).length<=10:=by
   unfold fmt10;rw[if_neg (by omega)]
   exact E8 20 _ 10 (by have:(10:Nat)^10=10000000000:=by decide
                        omega) (by decide)
  have e2:wr .i64 (aI 10 (len (fmt10 v)))=((10 - (fmt10 v).length:Nat):Int):=by
   unfold aI len wr IntKind.wrap
   simp [IntKind.bits,IntKind.signed]
   omega
  have e3:abo v 10=some (fmt10 v):=by
   unfold abo
   rw[show band (ieq 10 10) (band (ile (-9223372036854775808) v) (ile v 9223372036854775807))=true by rw[mJ,mJ,jb,jb];exact⟨rfl,hv⟩];rfl
  have e4:abr [UInt8.ofNat 48] ((10 - (fmt10 v).length:Nat):Int)=some (List.replicate (10 - (fmt10 v).length) 48):=by
   unfold abr
   rw[show band (ile 0 ((10 - (fmt10 v).length:Nat):Int)) (band (ile ((10 - (fmt10 v).length:Nat):Int) 9223372036854775807) (ile (fK (len [UInt8.ofNat 48]) ((10 - (fmt10 v).length:Nat):Int)) 140737488355328))=true by
    rw[mJ,mJ,jb,jb,jb];simp only[fK,len,List.length_singleton];omega]
   simp only[cnd,itn,Int.toNat_natCast]
   rw[show UInt8.ofNat 48=48 from rfl,NR]
  rw[if_neg h,e1,e3]
  simp only[cnd,af,Option.bind_some,e2,e4]
  rw[show ile (ax 5 (len (List.replicate (10 - (fmt10 v).length) (48:UInt8)))) 68719476736=true by rw[jb];simp only[ax,len,List.length_replicate];omega]
  simp only
  rw[show ile (ax (len (cu [UInt8.ofNat 115,UInt8.ofNat 110,UInt8.ofNat 97,UInt8.ofNat 112,UInt8.ofNat 46] (List.replicate (10 - (fmt10 v).length) (48:UInt8)))) (len (fmt10 v))) 68719476736=true by rw[jb];simp only[ax,len,cu,List.length_append,List.length_replicate,List.length_cons,List.length_nil];omega]
  rfl
theorem Tq:bW PG 98 En:=by
 refine XB (xs:=[.str]) (rs:=[.bool]) rfl rfl (WG Am (by kernel_rfl)) fun(x:List UInt8) (y:Bool) w hrun hg=> ?_
 have hy:y=au (ieq (jD [115,110,97,112,46] x) 0):=(Option.some.inj hrun).symm
 subst hy
 show Calls PG 98 #[.string ⟨x.toArray⟩] w fun e w'=>e= .returned (.bool (au (ieq (jD [115,110,97,112,46] x) 0)))/\RowKit.Below w.heap.size w w'
 have hcut:=Go.Proofs.Any.strings_CutPrefix Ag ⟨x.toArray⟩ ⟨#[115,110,97,112,46]⟩ w
 change Calls PG 163 #[.string ⟨x.toArray⟩,.string ⟨#[115,110,97,112,46]⟩] w (fun e w'=>e= .returned (.tuple #[.string ⟨(Go.Lib.trimPrefix x [115,110,97,112,46]).toArray⟩,.bool (Go.Lib.hasPrefix x [115,110,97,112,46])])/\w'=w)at hcut
 have nz:∀b:Bool,b=decide (jD [115,110,97,112,46] x≠0)->au (ieq (jD [115,110,97,112,46] x) 0)=b:=fun b hb=>by
  rw[hb]
  by_cases h:jD [115,110,97,112,46] x=0<;>simp [au,ieq,h]
 cases hpf:Go.Lib.hasPrefix x [115,110,97,112,46]with
 |false=>
  rw[hpf]at hcut
  have hz:jD [115,110,97,112,46] x=0:=if_neg fun g=>by
   have:Go.Lib.hasPrefix x [115,110,97,112,46]=true:=by
    unfold Go.Lib.hasPrefix
    rw[List.isPrefixOf_iff_prefix]
    exact⟨x.drop 5,by conv=>rhs;rw[<-List.take_append_drop 5 x,show x.take 5=_ from g.1]⟩
   rw[hpf]at this;cases this
  rw[hz]
  exact abV _ _ w hcut
 |true=>
  rw[hpf]at hcut
  have htk:x.take 5=[115,110,97,112,46]:=by
   unfold Go.Lib.hasPrefix at hpf
   rw[List.isPrefixOf_iff_prefix]at hpf
   obtain⟨r,rfl⟩:=hpf
   rfl
  rw[show Go.Lib.trimPrefix x [115,110,97,112,46]=x.drop 5 by unfold Go.Lib.trimPrefix;rw[if_pos hpf];rfl]at hcut
  by_cases hl:(x.drop 5).length=10
  ·have hsame:=ahX [115,110,97,112,46] x htk (by simp) hl
   change (match Go.Lib.parseIntB 64 (x.drop 5)with | .ok v=>decide (nV [115,110,97,112,46] v=x) | _=>false)=_ at hsame
   have hsz:(⟨(x.drop 5).toArray⟩:ByteArray).size=10:=by
    show(x.drop 5).toArray.size=10
    rw[List.size_toArray];exact hl
   cases hp:Go.Lib.parseIntB 64 (x.drop 5)with
   |ok v=>
    rw[hp]at hsame
    have h2:=(Go.Proofs.Any.strconv_ParseInt_10_at64_ok lQ ⟨(x.drop 5).toArray⟩ (by rw[hsz];decide) v hp w).mono (R':=fun e w'=>e= .returned (.tuple #[.int .i64 v,.nilIface])/\RowKit.Below w.heap.size w w') fun e w' ⟨he,hw⟩=>⟨he,by
     rcases hw with rfl | ⟨t,rfl⟩
     ·exact RowKit.Below.refl _ _
     ·exact Go.Lib.bytesWorld_below _ _ _⟩
    have h3:∀w1,RowKit.Below w.heap.size w w1->Calls PG 95 #[.int .i64 v] w1 fun e w'=>e= .returned (.string ⟨(nV [115,110,97,112,46] v).toArray⟩)/\RowKit.Below w1.heap.size w1 w':=fun w1 hb=>
     bW.calls (xs:=[.int .i64]) (r:= .str) Am (by kernel_rfl) PN rfl rfl v (nV [115,110,97,112,46] v) (ahd v (ahw hp)) w1 (hg.mono (fun b h=>Nat.lt_of_lt_of_le h hb.size) (fun b h=>hb.block b h))
    have:=abW ⟨x.toArray⟩ ⟨(x.drop 5).toArray⟩ w v ⟨(nV [115,110,97,112,46] v).toArray⟩ hcut hsz h2 h3
    rw[ByteArray.toList_eq,ByteArray.toList_eq]at this
    rw[nz _ hsame]
    refine this.mono fun e w' ⟨he,hb⟩=>⟨he.trans ?_,hb⟩
    congr 2
    simp only
    rw[Bool.eq_iff_iff];simp
   |range=>
    rw[hp]at hsame
    obtain⟨_,c,t,fr,hc,te,pe,rfl⟩:=hg (3,agw) (by simp [glL])
    have hcell:w.cell? ⟨3,0,none⟩=some (.iface te pe):=by unfold World.cell?;simp only[hc];rfl
    rw[nz _ hsame]
    refine Pg ⟨x.toArray⟩ ⟨(x.drop 5).toArray⟩ w _ _ (fun _=>True) hcut hsz ((Go.Proofs.Any.strconv_ParseInt_10_at64_range lQ ⟨(x.drop 5).toArray⟩ (by rw[hsz];decide) hp _ w hcell (.inr ⟨te,pe,rfl⟩)).mono fun e w' ⟨N,he,_,_,hb⟩=>⟨_,he,hb⟩)
   |_=>
    rw[hp]at hsame
    obtain⟨_,c,t,fr,hc,te,pe,rfl⟩:=hg (2,agw) (by simp [glL])
    have hcell:w.cell? ⟨2,0,none⟩=some (.iface te pe):=by unfold World.cell?;simp only[hc];rfl
    rw[nz _ hsame]
    refine Pg ⟨x.toArray⟩ ⟨(x.drop 5).toArray⟩ w _ _ (fun _=>True) hcut hsz ((Go.Proofs.Any.strconv_ParseInt_10_at64_syntax lQ ⟨(x.drop 5).toArray⟩ (by rw[hsz];decide) hp _ w hcell (.inr ⟨te,pe,rfl⟩)).mono fun e w' ⟨N,he,_,_,hb⟩=>⟨_,he,hb⟩)
  ·have hz:jD [115,110,97,112,46] x=0:=if_neg fun g=>hl g.2.1
   rw[hz]
   refine Y4 _ _ w hcut fun g=>hl ?_
   have g:(x.drop 5).toArray.size=10:=g
   rwa[List.size_toArray]at g
end
end Go.Av
