/- The functions that this claim reaches, each as a plain function; each is what its text comes to. No condition. -/
import Derived.Test.YtmijckhlnkgaiaaGreatDoorAvE
import Derived.Test.YtmijckhlnkgaiaaGreatDoorProg
import Derived.KernelRfl
import Derived.Laws.RangeAny
import Derived.Shelf.Small.Wraps
import Derived.WalkKit
import Derived.RangeFuncNested
import Derived.RangeFuncBound
import Derived.RangeFuncCalls
import Derived.RangeFuncLeaves
import Derived.Shelf.Abstract
import Derived.Shelf.RegionOpen
import Derived.OwnWalkIn
import Derived.TacticsInMore
import Derived.LoopNIn
import Derived.LoopIn
set_option linter.unusedVariables false
set_option linter.unusedSimpArgs false
set_option linter.unnecessarySimpa false
namespace Go.Av
open Go
def alC:List (Nat×E):=[(2,.i64),(3,.i64),(4,.bool),(5,.u8),(6,.u8),(9,.str),(10,.str),(11,.str),(24,.disk),(27,.wal),(33,.state),(37,.feed),(39,.gate),(45,.i64),(57,.msg),(59,.recd),(65,.expo),(70,.order),(97,.sleeper),(110,.note),(119,.bts),(121,.file),(124,.cell),(127,.state),(152,.a6),(163,.frame),(210,.slot),(221,.piece),(224,.mender),(235,.next),(281,.reader),(311,.a20),(336,.bts),(349,.a3),(361,.bts),(385,.u8),(386,.u8)]
def ety (t:Nat):Option E:=look alC t
noncomputable abbrev PG:Program:=Go.Proofs.Tryz.prog
end Go.Av
namespace Go.Av
open Go
noncomputable section
theorem alA:EOk PG 2 .i64:=ig (by kernel_rfl) (by kernel_rfl)
theorem ala:EOk PG 3 .i64:=ig (by kernel_rfl) (by kernel_rfl)
theorem ak5:EOk PG 4 .bool:=ig (by kernel_rfl) (by kernel_rfl)
theorem alq:EOk PG 5 .u8:=ig (by kernel_rfl) (by kernel_rfl)
theorem alo:EOk PG 6 .u8:=ig (by kernel_rfl) (by kernel_rfl)
theorem ak3:EOk PG 9 .str:=ig (by kernel_rfl) (by kernel_rfl)
theorem akA:EOk PG 10 .str:=ig (by kernel_rfl) (by kernel_rfl)
theorem akr:EOk PG 11 .str:=ig (by kernel_rfl) (by kernel_rfl)
theorem aj3:EOk PG 24 .disk:=ig (by kernel_rfl) (by kernel_rfl)
theorem ajT:EOk PG 27 .wal:=ig (by kernel_rfl) (by kernel_rfl)
theorem akg:EOk PG 33 .state:=ig (by kernel_rfl) (by kernel_rfl)
theorem aks:EOk PG 37 .feed:=ig (by kernel_rfl) (by kernel_rfl)
theorem ajL:EOk PG 39 .gate:=ig (by kernel_rfl) (by kernel_rfl)
theorem akE:EOk PG 45 .i64:=ig (by kernel_rfl) (by kernel_rfl)
theorem ake:EOk PG 57 .msg:=ig (by kernel_rfl) (by kernel_rfl)
theorem akS:EOk PG 59 .recd:=ig (by kernel_rfl) (by kernel_rfl)
theorem akC:EOk PG 65 .expo:=ig (by kernel_rfl) (by kernel_rfl)
theorem akT:EOk PG 70 .order:=ig (by kernel_rfl) (by kernel_rfl)
theorem akw:EOk PG 97 .sleeper:=ig (by kernel_rfl) (by kernel_rfl)
theorem ai4:EOk PG 110 .note:=ig (by kernel_rfl) (by kernel_rfl)
theorem aiS:EOk PG 119 .bts:=ig (by kernel_rfl) (by kernel_rfl)
theorem aij:EOk PG 121 .file:=ig (by kernel_rfl) (by kernel_rfl)
theorem aiN:EOk PG 124 .cell:=ig (by kernel_rfl) (by kernel_rfl)
theorem aiw:EOk PG 127 .state:=ig (by kernel_rfl) (by kernel_rfl)
theorem ajj:EOk PG 152 .a6:=ig (by kernel_rfl) (by kernel_rfl)
theorem ahU:EOk PG 163 .frame:=ig (by kernel_rfl) (by kernel_rfl)
theorem ai7:EOk PG 210 .slot:=ig (by kernel_rfl) (by kernel_rfl)
theorem ahZ:EOk PG 221 .piece:=ig (by kernel_rfl) (by kernel_rfl)
theorem ah1:EOk PG 224 .mender:=ig (by kernel_rfl) (by kernel_rfl)
theorem aiY:EOk PG 235 .next:=ig (by kernel_rfl) (by kernel_rfl)
theorem aiT:EOk PG 281 .reader:=ig (by kernel_rfl) (by kernel_rfl)
theorem aja:EOk PG 311 .a20:=ig (by kernel_rfl) (by kernel_rfl)
theorem ai5:EOk PG 336 .bts:=ig (by kernel_rfl) (by kernel_rfl)
theorem aiL:EOk PG 349 .a3:=ig (by kernel_rfl) (by kernel_rfl)
theorem aiI:EOk PG 361 .bts:=ig (by kernel_rfl) (by kernel_rfl)
theorem aiQ:EOk PG 385 .u8:=ig (by kernel_rfl) (by kernel_rfl)
theorem aif:EOk PG 386 .u8:=ig (by kernel_rfl) (by kernel_rfl)
theorem Aj:DJ PG alC:=⟨by kernel_rfl,⟨alA,ala,ak5,alq,alo,ak3,akA,akr,aj3,ajT,akg,aks,ajL,akE,ake,akS,akC,akT,akw,ai4,aiS,aij,aiN,aiw,ajj,ahU,ai7,ahZ,ah1,aiY,aiT,aja,ai5,aiL,aiI,aiQ,aif,trivial⟩,by kernel_rfl,by kernel_rfl,by kernel_rfl⟩
end
end Go.Av
namespace Go.Av
open Go
noncomputable section
def cX (l:List (Nat×aA)) (i:List Nat) (p:List (Nat×Nat×dh)):Cx:={ P:=PG,ety:=ety,fn:=look l,inl:=ah5 i,lp:=J3 p }
theorem cxK {l:List (Nat×aA)} {i:List Nat} {p:List (Nat×Nat×dh)} (h:Pe PG l):CxR (cX l i p):=Aj.cx (fun _=>rfl) h
theorem okP {f:Nat} {xs rs:List Sh} {s:Bool} {run:Tup xs->Option (Tup rs)} (l:List (Nat×aA)) (i:List Nat) (p:List (Nat×Nat×dh)) (h:Pe PG l) (hp:CxR (cX l i p)->Nz (cX l i p) p)
 (hr:∀x,Yc (cX l i p) f xs rs x=run x) (hb:hasB PG f=true:=by kernel_rfl) (h3:(Nat.ble rs.length 8&&(xs.all Zw&&rs.all Zw))=true:=by kernel_rfl) (h4:(!s||rs.all NV)=true:=by kernel_rfl):bg PG f (mkSpec xs rs s run):=
 abL (cxK h) (KP (l:=p) rfl (hp (cxK h))) hb (fun x y e=>(hr x).trans e) h3 h4
theorem okN {f:Nat} {xs rs:List Sh} {s:Bool} {run:Tup xs->Option (Tup rs)} (l:List (Nat×aA)) (i:List Nat) (h:Pe PG l)
 (hr:∀x,Yc (cX l i []) f xs rs x=run x) (hb:hasB PG f=true:=by kernel_rfl) (h3:(Nat.ble rs.length 8&&(xs.all Zw&&rs.all Zw))=true:=by kernel_rfl) (h4:(!s||rs.all NV)=true:=by kernel_rfl):bg PG f (mkSpec xs rs s run):=
 okP l i [] h (fun _=>trivial) hr hb h3 h4
theorem iU {C:Cx} (K:CxR C) {s:LSh} {os:List nZ} {D:List Nat} {step:Tup s.pk->Tup s.vk->Option (Tup s.vk ⊕ WT os)} {pf pos:Nat} (hs:∀p v,XR C 900 pf pos (KI C.P (pf%4096) pos) s os p v=step p v)
 (h2:Nat.blt (Nat.log2 pos) 301=true:=by kernel_rfl) (h3:s.good D=true:=by kernel_rfl) (h4:os.all (nZ.good s)=true:=by kernel_rfl) (h5:IY D (KI C.P (pf%4096) pos)=true:=by kernel_rfl):
 ∀c,At C.P pf pos (.loop c)->lG C pf (2*pos)->aeO C.P pf c (s.spec os D step):=
 VK (n:=900) (f:=pf%4096) K rfl h2 h3 h4 h5 (fun p v r h=>(hs p v).trans h)
theorem abn {f:Nat} {e:E} {s:Bool} (hr:∀x:List (den e),Yc (cX [] [] []) f [.ro e] [.buf e] x=aci (len x) fun y0=>cnd (beq y0 true) (some []) (cnd (ile (len x) 68719476736) (some x) none)) (hb:hasB PG f=true:=by kernel_rfl)
 (h4:(!s||[Sh.buf e].all NV)=true:=by kernel_rfl):bg PG f (mkSpec [.ro e] [.buf e] s (fun x=>zM x)):=
 abL (cxK (l:=[]) trivial) (KP (l:=[]) rfl trivial) hb (fun x y h=>(hr x).trans (acj h)) rfl h4
def sP (l:List (Nat×Nat)):List Nat:=l.flatMap fun a=>List.range' a.1 a.2
theorem okB {f:Nat} {e:E} {xs rs:List Sh} {run:den e×Tup xs->Option (den e×Tup rs)} (l:List (Nat×aA)) (i:List Nat) (p:List (Nat×Nat×dh)) (h:Pe PG l) (hp:CxR (cX l i p)->Nz (cX l i p) p)
 (hr:∀x,YL (cX l i p) f e xs rs x.1 x.2=run x) (hb:hasB PG f=true:=by kernel_rfl) (h3:xs.all DT=true:=by kernel_rfl) (h4:rs.all DT=true:=by kernel_rfl):bg PG f (vC e xs rs run):=
 afi (cxK h) (KP (l:=p) rfl (hp (cxK h))) hb (fun x y e=>(hr x).trans e) h3 h4
end
end Go.Av
namespace Go.Av
open Go
noncomputable section
def Qi (x0:Int) (x1:Int):Option (Int×Int):=some (wr .u32 (bI .u64 (wr .u64 (eF (wr .u64 x0) (wr .u64 x1))) 32),wr .u32 (wr .u64 (eF (wr .u64 x0) (wr .u64 x1))))
def BA:aA:=mkSpec [.int .u32,.int .u32] [.int .u32,.int .u32] true (fun x=>Qi x.1 x.2)
theorem NK:bg PG 152 BA:=okN [] [] trivial fun x=>by kernel_rfl
def og (x0:Int) (x1:Int):Option (Int×Int):=some (wr .u64 (aF (wr .u64 (aF (wr .u64 (eF (bI .u64 x0 32) (bI .u64 x1 32))) (bI .u64 (wr .u64 (aF (wr .u64 (eF (bI .u64 x0 32) (wr .u64 (lK .u64 x1 4294967295)))) (bI .u64 (wr .u64 (eF (wr .u64 (lK .u64 x0 4294967295)) (wr .u64 (lK .u64 x1 4294967295)))) 32))) 32))) (bI .u64 (wr .u64 (aF (wr .u64 (lK .u64 (wr .u64 (aF (wr .u64 (eF (bI .u64 x0 32) (wr .u64 (lK .u64 x1 4294967295)))) (bI .u64 (wr .u64 (eF (wr .u64 (lK .u64 x0 4294967295)) (wr .u64 (lK .u64 x1 4294967295)))) 32))) 4294967295)) (wr .u64 (eF (wr .u64 (lK .u64 x0 4294967295)) (bI .u64 x1 32))))) 32)),wr .u64 (eF x0 x1))
def uo:aA:=mkSpec [.int .u64,.int .u64] [.int .u64,.int .u64] true (fun x=>og x.1 x.2)
theorem Dy:bg PG 153 uo:=okN [] [] trivial fun x=>by kernel_rfl
def BD (x0:Int) (x1:Int):Option (Int×Int):=af (og x0 x1) fun y0=>some y0
def wY:aA:=mkSpec [.int .u64,.int .u64] [.int .u64,.int .u64] true (fun x=>BD x.1 x.2)
theorem GU:bg PG 89 wY:=okN [(152,BA),(153,uo)] [] ⟨NK,Dy,trivial⟩ fun x=>by kernel_rfl
def rF (v0:Int) (v1:(List fB)):Option ((Int×(List fB)) ⊕ (((List fB)))):=cnd (ilt v0 (len v1)) (cnd (band (ile 0 v0) (ile v0 (len v1))) (cnd (band (ile 0 v0) (ile v0 (len v1))) (some (Sum.inl (wr .i64 (aF v0 (iq (len (bF (dF v1 0) (itn v0))) (nti (itn (aS (len v1) v0))))),mY v1 (itn v0) (bF (bF (dF v1 0) (itn v0)) (itn (iq (len (bF (dF v1 0) (itn v0))) (nti (itn (aS (len v1) v0))))))))) none) none) (some (Sum.inr v1))
def Bf:dh:=LSh.spec ⟨94,[],[(7,.mf 192)],[],[(8,.int .i64)],[],[(192,.expo)]⟩ [⟨.exit 0,[],[],[(192,.expo)]⟩] (sP [(8,1),(34,13)]) (fun p v=>rF v.1 v.2)
def wF (x0:(List fB)) (x1:Int):Option ((List fB)):=cnd (ilt x1 0) none (af (BD (wr .u64 (len x0)) (wr .u64 x1)) fun y0=>cnd (bor (ilt 0 y0.1) (ilt 9223372036854775807 y0.2)) none (cnd (band (band (ile 0 (wr .i64 y0.2)) (ile (wr .i64 y0.2) (wr .i64 y0.2))) (ile (wr .i64 y0.2) 68719476736)) (af (bZ (fun v=>rF v.1 v.2) LF (iq (len x0) (len (qQ fB (itn (wr .i64 y0.2)))),mY (qQ fB (itn (wr .i64 y0.2))) 0 (bF x0 (itn (iq (len x0) (len (qQ fB (itn (wr .i64 y0.2))))))))) fun y1=>some y1) none))
def sG:aA:=mkSpec [.ro .expo,.int .i64] [.buf .expo] true (fun x=>wF x.1 x.2)
theorem Ey:bg PG 42 sG:=okP [(89,wY)] [] [(42,508,Bf)] ⟨GU,trivial⟩ (fun K=>⟨iU K fun p v=>by kernel_rfl,trivial⟩) fun x=>by kernel_rfl
def vJ (v0:Int) (v1:(List Int)):Option ((Int×(List Int)) ⊕ (((List Int)))):=cnd (ilt v0 (len v1)) (cnd (band (ile 0 v0) (ile v0 (len v1))) (cnd (band (ile 0 v0) (ile v0 (len v1))) (some (Sum.inl (wr .i64 (aF v0 (iq (len (bF (dF v1 0) (itn v0))) (nti (itn (aS (len v1) v0))))),mY v1 (itn v0) (bF (bF (dF v1 0) (itn v0)) (itn (iq (len (bF (dF v1 0) (itn v0))) (nti (itn (aS (len v1) v0))))))))) none) none) (some (Sum.inr v1))
def D5:dh:=LSh.spec ⟨94,[],[(7,.mf 192)],[],[(8,.int .i64)],[],[(192,.i64)]⟩ [⟨.exit 0,[],[],[(192,.i64)]⟩] (sP [(8,1),(34,13)]) (fun p v=>vJ v.1 v.2)
def zI (x0:(List Int)) (x1:Int):Option ((List Int)):=cnd (ilt x1 0) none (af (BD (wr .u64 (len x0)) (wr .u64 x1)) fun y0=>cnd (bor (ilt 0 y0.1) (ilt 9223372036854775807 y0.2)) none (cnd (band (band (ile 0 (wr .i64 y0.2)) (ile (wr .i64 y0.2) (wr .i64 y0.2))) (ile (wr .i64 y0.2) 68719476736)) (af (bZ (fun v=>vJ v.1 v.2) LF (iq (len x0) (len (qQ Int (itn (wr .i64 y0.2)))),mY (qQ Int (itn (wr .i64 y0.2))) 0 (bF x0 (itn (iq (len x0) (len (qQ Int (itn (wr .i64 y0.2))))))))) fun y1=>some y1) none))
def wL:aA:=mkSpec [.ro .i64,.int .i64] [.buf .i64] true (fun x=>zI x.1 x.2)
theorem Ip:bg PG 43 wL:=okP [(89,wY)] [] [(43,508,D5)] ⟨GU,trivial⟩ (fun K=>⟨iU K fun p v=>by kernel_rfl,trivial⟩) fun x=>by kernel_rfl
def qf (x0:ax):Option (Bool):=some (band (band (band (band (band (band (band (ile 1 x0.accounts) (ile x0.accounts 8)) (ile 1 x0.symbols)) (ile x0.symbols 8)) (ieq (len x0.cells) (wr .i64 (eF x0.accounts x0.symbols)))) (ieq (len x0.limits) (len x0.cells))) (ieq (len x0.caps) x0.accounts)) (ile (len x0.orders) 64))
def yx:aA:=mkSpec [.val .state] [.bool] true (fun x=>qf x)
theorem Jw:bg PG 124 yx:=okN [] [] trivial fun x=>by kernel_rfl
def gV (x0:au):Option (Bool):=some (bor (ak (ieq x0.newQty 0)) (ak (ieq x0.newPrice 0)))
def qJ:aA:=mkSpec [.val .order] [.bool] true (fun x=>gV x)
theorem Ae:bg PG 168 qJ:=okN [] [] trivial fun x=>by kernel_rfl
def Il (x0:bV):Option (bV):=cnd (ieq x0.kind 1) (some (bV.mk x0.kind x0.order x0.account x0.symbol x0.side x0.qty x0.price 0 0 0 false 0 0)) (cnd (ieq x0.kind 2) (some (bV.mk x0.kind x0.order 0 0 0 x0.qty x0.price 0 0 0 false 0 0)) (cnd (ieq x0.kind 3) (some (bV.mk x0.kind x0.order 0 0 0 0 0 0 0 0 false 0 0)) (cnd (ieq x0.kind 4) (some (bV.mk x0.kind 0 x0.account x0.symbol 0 0 0 x0.long x0.short x0.opn false 0 0)) (cnd (ieq x0.kind 5) (some (bV.mk x0.kind 0 0 0 0 0 0 0 0 0 x0.on 0 0)) (cnd (ieq x0.kind 6) (some (bV.mk x0.kind x0.order 0 0 0 x0.qty x0.price 0 0 0 false x0.seq x0.what)) (some (bV.mk x0.kind 0 0 0 0 0 0 0 0 0 false 0 0)))))))
def IJ:aA:=mkSpec [.val .recd] [.val .recd] true (fun x=>Il x)
theorem Xm:bg PG 109 IJ:=okN [] [] trivial fun x=>by kernel_rfl
def lF (x0:Int):Option (Bool):=some (band (ile 1 x0) (ile x0 1000000000000))
def DV:aA:=mkSpec [.int .i64] [.bool] true (fun x=>lF x)
theorem Ph:bg PG 110 DV:=okN [] [] trivial fun x=>by kernel_rfl
def l9 (x0:Int) (x1:Int):Option (Bool):=some (band (ile 0 x0) (ilt x0 x1))
def JZ:aA:=mkSpec [.int .i64,.int .i64] [.bool] true (fun x=>l9 x.1 x.2)
theorem ZH:bg PG 111 JZ:=okN [] [] trivial fun x=>by kernel_rfl
def l7 (x0:bV):Option (Bool):=some (band (ile 1 x0.qty) (ile 1 x0.price))
def Ee:aA:=mkSpec [.val .recd] [.bool] true (fun x=>l7 x)
theorem OA:bg PG 112 Ee:=okN [] [] trivial fun x=>by kernel_rfl
def EQ (x0:bV):Option (Bool):=af (cnd (ak (bor (ilt x0.seq 1) (ilt 1000000000 x0.seq))) (lF x0.order) (some false)) fun y0=>cnd (bor (bor (ilt x0.seq 1) (ilt 1000000000 x0.seq)) (ak y0)) (some false) (cnd (ieq x0.what 3) (some (band (ile 1 x0.qty) (ieq x0.price 0))) (cnd (ieq x0.what 5) (af (l7 x0) fun y1=>some y1) (cnd (ieq x0.what 1) (cnd (ieq x0.what 1) (some (band (ieq x0.qty 0) (ieq x0.price 0))) (some false)) (cnd (ieq x0.what 2) (cnd (ieq x0.what 2) (some (band (ieq x0.qty 0) (ieq x0.price 0))) (some false)) (cnd (ieq x0.what 4) (cnd (ieq x0.what 4) (some (band (ieq x0.qty 0) (ieq x0.price 0))) (some false)) (cnd (ieq x0.what 6) (some (band (ieq x0.qty 0) (ieq x0.price 0))) (some false)))))))
def KR:aA:=mkSpec [.val .recd] [.bool] true (fun x=>EQ x)
theorem YO:bg PG 113 KR:=okN [(110,DV),(112,Ee)] [] ⟨Ph,OA,trivial⟩ fun x=>by kernel_rfl
def oK (x0:bV):Option (Bool):=af (Il x0) fun y0=>cnd (ak (band (ieq x0.kind y0.kind) (band (ieq x0.order y0.order) (band (ieq x0.account y0.account) (band (ieq x0.symbol y0.symbol) (band (ieq x0.side y0.side) (band (ieq x0.qty y0.qty) (band (ieq x0.price y0.price) (band (ieq x0.long y0.long) (band (ieq x0.short y0.short) (band (ieq x0.opn y0.opn) (band (beq x0.on y0.on) (band (ieq x0.seq y0.seq) (ieq x0.what y0.what)))))))))))))) (some false) (cnd (ieq x0.kind 1) (af (lF x0.order) fun y1=>af (cnd y1 (l9 x0.account 8) (some false)) fun y2=>af (cnd (band y1 y2) (l9 x0.symbol 8) (some false)) fun y3=>af (cnd (band (band (band y1 y2) y3) (bor (ieq x0.side 1) (ieq x0.side 2))) (l7 x0) (some false)) fun y4=>some (band (band (band (band y1 y2) y3) (bor (ieq x0.side 1) (ieq x0.side 2))) y4)) (cnd (ieq x0.kind 2) (af (lF x0.order) fun y5=>af (cnd y5 (l7 x0) (some false)) fun y6=>some (band y5 y6)) (cnd (ieq x0.kind 3) (af (lF x0.order) fun y7=>some y7) (cnd (ieq x0.kind 4) (af (l9 x0.account 8) fun y8=>af (cnd (band y8 (ak (band (band (ieq x0.symbol (-1)) (ieq x0.long 0)) (ieq x0.short 0)))) (l9 x0.symbol 8) (some false)) fun y9=>some (band (band y8 (bor (band (band (ieq x0.symbol (-1)) (ieq x0.long 0)) (ieq x0.short 0)) y9)) (ile 0 (iq (iq x0.long x0.short) x0.opn)))) (cnd (ieq x0.kind 5) (some true) (cnd (ieq x0.kind 6) (af (EQ x0) fun y10=>some y10) (some false)))))))
def mZ:aA:=mkSpec [.val .recd] [.bool] true (fun x=>oK x)
theorem uX:bg PG 58 mZ:=okN [(109,IJ),(110,DV),(111,JZ),(112,Ee),(113,KR)] [] ⟨Xm,Ph,ZH,OA,YO,trivial⟩ fun x=>by kernel_rfl
def AQ (x0:au):Option (Bool):=af (oK (bV.mk 1 x0.id x0.account x0.symbol x0.side x0.qty x0.price 0 0 0 false 0 0)) fun y0=>some y0
def GV:aA:=mkSpec [.val .order] [.bool] true (fun x=>AQ x)
theorem UH:bg PG 169 GV:=okN [(58,mZ)] [] ⟨uX,trivial⟩ fun x=>by kernel_rfl
def fM (x0:au):Option (Bool):=af (gV x0) fun y0=>af (AQ x0) fun y1=>cnd (bor (bor (bor (bor (ak y1) (ilt x0.filled 0)) (ilt x0.qty x0.filled)) (ilt x0.version 0)) (band y0 (ilt (iq x0.newQty x0.newPrice) 1))) (some false) (cnd (ieq x0.phase 1) (some (band (band (ieq x0.filled 0) (ieq x0.version 0)) (ak y0))) (cnd (ieq x0.phase 2) (some (ilt x0.filled x0.qty)) (cnd (ieq x0.phase 3) (some (ak y0)) (some false))))
def gX:aA:=mkSpec [.val .order] [.bool] true (fun x=>fM x)
theorem kE:bg PG 101 gX:=okN [(168,qJ),(169,GV)] [] ⟨Ae,UH,trivial⟩ fun x=>by kernel_rfl
def Az (x0:fB):Option (Bool):=some (ile 0 (iq (iq x0.long x0.short) x0.opn))
def Gh:aA:=mkSpec [.val .expo] [.bool] true (fun x=>Az x)
theorem U3:bg PG 193 Gh:=okN [] [] trivial fun x=>by kernel_rfl
def kG (p0:(List Int)) (v0:Int) (v1:Int):Option ((Int×Int) ⊕ ((Int))):=cnd (ilt v0 (len p0)) (cnd (band (ile 0 v0) (ilt v0 (len p0))) (some (Sum.inl (wr .i64 (aF v0 1),iq v1 (ai p0 (itn v0))))) none) (some (Sum.inr v1))
def Gp:dh:=LSh.spec ⟨74,[(0,.ro .i64)],[],[],[(4,.int .i64),(3,.int .i64)],[],[]⟩ [⟨.exit 0,[(3,.int .i64)],[],[]⟩] (sP [(3,2),(12,12)]) (fun p v=>kG p v.1 v.2)
def kV (x0:(List Int)):Option (Int):=cnd (ilt (len x0) 1) none (cnd (ilt 0 (len x0)) (af (bZ (fun v=>kG x0 v.1 v.2) LF (1,ai x0 0)) fun y0=>some y0) none)
def zG:aA:=mkSpec [.ro .i64] [.int .i64] true (fun x=>kV x)
theorem Md:bg PG 195 zG:=okP [] [] [(195,122,Gp)] trivial (fun K=>⟨iU K fun p v=>by kernel_rfl,trivial⟩) fun x=>by kernel_rfl
def kS (p0:Int) (p1:(List au)) (p2:ax) (v0:Int) (v1:Int) (v2:Bool):Option ((Int×Int×Bool) ⊕ ((Bool) ⊕ ((Int×Bool)))):=cnd (ilt v0 p0) (cnd (band (ile 0 v0) (ilt v0 (len p1))) (af (fM (ai p1 (itn v0))) fun y0=>cnd (bor (bor (bor (bor (ak y0) (ieq (ai p1 (itn v0)).phase 3)) (ile p2.accounts (ai p1 (itn v0)).account)) (ile p2.symbols (ai p1 (itn v0)).symbol)) (ile (ai p1 (itn v0)).id v1)) (some (Sum.inr (Sum.inl false))) (some (Sum.inl (wr .i64 (aF v0 1),(ai p1 (itn v0)).id,v2)))) none) (some (Sum.inr (Sum.inr (v1,v2))))
def Iw:dh:=LSh.spec ⟨73,[(10,.int .i64),(9,.ro .order)],[(1,.mp 8 0)],[(8,[.val .state])],[(11,.int .i64),(3,.int .i64),(2,.bool)],[],[]⟩ [⟨.ret,[(2,.bool)],[],[]⟩,⟨.exit 0,[(3,.int .i64),(2,.bool)],[],[]⟩] (sP [(2,2),(5,1),(11,37)]) (fun p v=>kS p.1 p.2.1 p.2.2 v.1 v.2.1 v.2.2)
def bH (p0:Int) (p1:(List fB)) (v0:Int) (v1:Int):Option ((Int×Int) ⊕ ((Int) ⊕ ((Int)))):=cnd (ilt v0 p0) (cnd (band (ile 0 v0) (ilt v0 (len p1))) (af (Az (ai p1 (itn v0))) fun y0=>cnd (ak y0) (some (Sum.inr (Sum.inl v0))) (some (Sum.inl (wr .i64 (aF v0 1),v1)))) none) (some (Sum.inr (Sum.inr v1)))
def kU:dh:=LSh.spec ⟨210,[(7,.int .i64),(0,.ro .expo)],[(1,.fn 192 [])],[],[(8,.int .i64),(4,.int .i64)],[],[]⟩ [⟨.ret,[(4,.int .i64)],[],[]⟩,⟨.exit 0,[(4,.int .i64)],[],[]⟩] (sP [(4,2),(8,11)]) (fun p v=>bH p.1 p.2 v.1 v.2)
def qX (x0:ax):Option (Bool):=af (bZ (fun v=>kS (len x0.orders) x0.orders x0 v.1 v.2.1 v.2.2) LF (0,0,false)) fun y0=>fO y0 (fun y1=>some y1) fun y1=>cnd (band (band (band (band (band (ile y1.1 x0.last) (ile x0.last 1000000000000)) (ile 0 x0.seq)) (ile x0.seq 1000000000)) (ile 0 x0.lsn)) (ile x0.lsn 1000000000)) (af (bZ (fun v=>bH (len x0.limits) x0.limits v.1 v.2) LF (0,0)) fun y2=>fO y2 (fun y3=>af (cnd (band (band (band (band (band (band (ile y1.1 x0.last) (ile x0.last 1000000000000)) (ile 0 x0.seq)) (ile x0.seq 1000000000)) (ile 0 x0.lsn)) (ile x0.lsn 1000000000)) (ak (ile 0 y3))) (kV x0.caps) (some 0)) fun y4=>some (band (band (band (band (band (band (band (band (ile y1.1 x0.last) (ile x0.last 1000000000000)) (ile 0 x0.seq)) (ile x0.seq 1000000000)) (ile 0 x0.lsn)) (ile x0.lsn 1000000000)) (ak (ile 0 y3))) (ile 0 y4)) (ile 0 x0.last))) fun y3=>af (cnd (bor (band (band (band (band (band (ile y1.1 x0.last) (ile x0.last 1000000000000)) (ile 0 x0.seq)) (ile x0.seq 1000000000)) (ile 0 x0.lsn)) (ile x0.lsn 1000000000)) false) (kV x0.caps) (some 0)) fun y5=>some (band (band (bor (band (band (band (band (band (ile y1.1 x0.last) (ile x0.last 1000000000000)) (ile 0 x0.seq)) (ile x0.seq 1000000000)) (ile 0 x0.lsn)) (ile x0.lsn 1000000000)) false) (ile 0 y5)) (ile 0 x0.last))) (af (cnd (bor (band (band (band (band (band (ile y1.1 x0.last) (ile x0.last 1000000000000)) (ile 0 x0.seq)) (ile x0.seq 1000000000)) (ile 0 x0.lsn)) (ile x0.lsn 1000000000)) false) (kV x0.caps) (some 0)) fun y6=>some (band (band (bor (band (band (band (band (band (ile y1.1 x0.last) (ile x0.last 1000000000000)) (ile 0 x0.seq)) (ile x0.seq 1000000000)) (ile 0 x0.lsn)) (ile x0.lsn 1000000000)) false) (ile 0 y6)) (ile 0 x0.last)))
def zJ:aA:=mkSpec [.val .state] [.bool] true (fun x=>qX x)
theorem LX:bg PG 125 zJ:=okP [(101,gX),(193,Gh),(195,zG)] [192,194,242] [(125,58,Iw),(2305845402584220229874,26,kU)] ⟨kE,U3,Md,trivial⟩ (fun K=>⟨iU K fun p v=>by kernel_rfl,iU K fun p v=>by kernel_rfl,trivial⟩) fun x=>by kernel_rfl
def bK (x0:ax) (x1:Int) (x2:Int):Option (Int):=some (wr .i64 (aF (wr .i64 (eF x1 x0.symbols)) x2))
def jD:aA:=mkSpec [.val .state,.int .i64,.int .i64] [.int .i64] true (fun x=>bK x.1 x.2.1 x.2.2)
theorem ng:bg PG 183 jD:=okN [] [] trivial fun x=>by kernel_rfl
def nM (x0:Int) (x1:Int):Option (Int×Int):=cnd (band (ak (beq (ilt x0 (wr .i64 (aF x0 x1))) (ilt 0 x1))) (ak (ieq x1 0))) (some (0,3)) (some (wr .i64 (aF x0 x1),0))
def qP:aA:=mkSpec [.int .i64,.int .i64] [.int .i64,.int .i64] true (fun x=>nM x.1 x.2)
theorem Aq:bg PG 117 qP:=okN [] [] trivial fun x=>by kernel_rfl
def vz (x0:Int) (x1:Int):Option (Int×Int):=cnd (band (ak (beq (ilt (wr .i64 (aS x0 x1)) x0) (ilt 0 x1))) (ak (ieq x1 0))) (some (0,3)) (some (wr .i64 (aS x0 x1),0))
def CV:aA:=mkSpec [.int .i64,.int .i64] [.int .i64,.int .i64] true (fun x=>vz x.1 x.2)
theorem NQ:bg PG 239 CV:=okN [] [] trivial fun x=>by kernel_rfl
def AZ (x0:aN):Option (fB×Bool):=af (nM x0.pos x0.buy) fun y0=>af (vz x0.sell x0.pos) fun y1=>some (fB.mk y0.1 y1.1 x0.opn,band (ieq y0.2 0) (ieq y1.2 0))
def Ed:aA:=mkSpec [.val .cell] [.val .expo,.bool] true (fun x=>AZ x)
theorem Qn:bg PG 196 Ed:=okN [(117,qP),(239,CV)] [] ⟨Aq,NQ,trivial⟩ fun x=>by kernel_rfl
def gJ (x0:aN):Option (Bool):=af (AZ x0) fun y0=>some (band y0.2 (ile 0 (iq (iq x0.buy x0.sell) x0.opn)))
def nO:aA:=mkSpec [.val .cell] [.bool] true (fun x=>gJ x)
theorem wo:bg PG 127 nO:=okN [(196,Ed)] [] ⟨Qn,trivial⟩ fun x=>by kernel_rfl
def DI (x0:Int):Option (Int):=cnd (ilt x0 0) (some (wr .u64 (aS 0 (wr .u64 x0)))) (some (wr .u64 x0))
def Nh:aA:=mkSpec [.int .i64] [.int .u64] true (fun x=>DI x)
theorem abv:bg PG 307 Nh:=okN [] [] trivial fun x=>by kernel_rfl
def G7 (x0:Int) (x1:Int):Option (Int×Int):=af (DI x0) fun y0=>af (DI x1) fun y1=>af (og y0 y1) fun y2=>cnd (band (band (ieq y2.1 0) (ak (beq (ilt x0 0) (ilt x1 0)))) (ile y2.2 9223372036854775808)) (some (wr .i64 (wr .u64 (aS 0 y2.2)),0)) (cnd (band (ieq y2.1 0) (ile y2.2 9223372036854775807)) (some (wr .i64 y2.2,0)) (some (0,3)))
def OW:aA:=mkSpec [.int .i64,.int .i64] [.int .i64,.int .i64] true (fun x=>G7 x.1 x.2)
theorem acN:bg PG 296 OW:=okN [(307,Nh),(153,uo)] [] ⟨abv,Dy,trivial⟩ fun x=>by kernel_rfl
def GY (x0:Int) (x1:Int):Option (Int):=some (imax x0 x1)
def Hu:aA:=mkSpec [.int .i64,.int .i64] [.int .i64] true (fun x=>GY x.1 x.2)
theorem Vo:bg PG 297 Hu:=okN [] [] trivial fun x=>by kernel_rfl
def wI (x0:au):Option (Int×Int):=af (fM x0) fun y0=>cnd (ak y0) (some (0,1)) (cnd (ieq x0.phase 3) (some (0,0)) (af (G7 (wr .i64 (aS x0.qty x0.filled)) x0.price) fun y1=>cnd (bor (ak (ieq y1.2 0)) (ile x0.newQty x0.filled)) (some y1) (af (G7 (wr .i64 (aS x0.newQty x0.filled)) x0.newPrice) fun y2=>cnd (ak (ieq y2.2 0)) (some (0,y2.2)) (af (GY y1.1 y2.1) fun y3=>some (y3,0)))))
def Am:aA:=mkSpec [.val .order] [.int .i64,.int .i64] true (fun x=>wI x)
theorem KU:bg PG 277 Am:=okN [(101,gX),(296,OW),(297,Hu)] [] ⟨kE,acN,Vo,trivial⟩ fun x=>by kernel_rfl
def qO (x0:au):Option (Int):=af (fM x0) fun y0=>cnd (bor (ak y0) (ieq x0.phase 3)) (some 0) (af (GY x0.qty x0.newQty) fun y1=>some (wr .i64 (aS y1 x0.filled)))
def BQ:aA:=mkSpec [.val .order] [.int .i64] true (fun x=>qO x)
theorem Nv:bg PG 278 BQ:=okN [(101,gX),(297,Hu)] [] ⟨kE,Vo,trivial⟩ fun x=>by kernel_rfl
def lZ (x0:aN) (x1:au):Option (aN×Int):=af (gJ x0) fun y0=>af (cnd (ak (ak y0)) (fM x1) (some false)) fun y1=>cnd (bor (ak y0) (ak y1)) (some (x0,1)) (af (wI x1) fun y2=>cnd (ieq x1.side 2) (af (qO x1) fun y3=>af (nM x0.sell y3) fun y4=>af (nM x0.opn y2.1) fun y5=>af (cnd (ak (bor (bor (ak (ieq y2.2 0)) (ak (ieq y4.2 0))) (ak (ieq y5.2 0)))) (gJ (aN.mk x0.pos x0.buy y4.1 y5.1)) (some false)) fun y6=>cnd (bor (bor (bor (ak (ieq y2.2 0)) (ak (ieq y4.2 0))) (ak (ieq y5.2 0))) (ak y6)) (some (x0,3)) (some (aN.mk x0.pos x0.buy y4.1 y5.1,0))) (af (qO x1) fun y7=>af (nM x0.buy y7) fun y8=>af (nM x0.opn y2.1) fun y9=>af (cnd (ak (bor (bor (ak (ieq y2.2 0)) (ak (ieq y8.2 0))) (ak (ieq y9.2 0)))) (gJ (aN.mk x0.pos y8.1 x0.sell y9.1)) (some false)) fun y10=>cnd (bor (bor (bor (ak (ieq y2.2 0)) (ak (ieq y8.2 0))) (ak (ieq y9.2 0))) (ak y10)) (some (x0,3)) (some (aN.mk x0.pos y8.1 x0.sell y9.1,0))))
def zo:aA:=mkSpec [.val .cell,.val .order] [.val .cell,.int .i64] true (fun x=>lZ x.1 x.2)
theorem IA:bg PG 184 zo:=okN [(127,nO),(101,gX),(277,Am),(278,BQ),(117,qP)] [235] ⟨wo,kE,KU,Nv,Aq,trivial⟩ fun x=>by kernel_rfl
def jK (p0:Int) (p1:(List au)) (p2:ax) (v0:Int) (v1:Bool) (v2:(List aN)) (v3:(List aN)):Option ((Int×Bool×(List aN)×(List aN)) ⊕ ((Bool×(List aN)×(List aN)) ⊕ ((Bool×(List aN)×(List aN))))):=cnd (ilt v0 p0) (cnd (band (ile 0 v0) (ilt v0 (len p1))) (af (bK p2 (ai p1 (itn v0)).account (ai p1 (itn v0)).symbol) fun y0=>cnd (band (ile 0 y0) (ilt y0 (len v3))) (af (lZ (ai v3 (itn y0)) (ai p1 (itn v0))) fun y1=>cnd (ak (ieq y1.2 0)) (some (Sum.inr (Sum.inl (false,[],v3)))) (cnd (band (ile 0 y0) (ilt y0 (len v3))) (some (Sum.inl (wr .i64 (aF v0 1),v1,v2,cO v3 (itn y0) y1.1))) none)) none) none) (some (Sum.inr (Sum.inr (v1,v2,v3))))
def FM:dh:=LSh.spec ⟨79,[(18,.int .i64),(17,.ro .order)],[(4,.mf 64),(1,.mp 8 0)],[(8,[.val .state])],[(19,.int .i64),(3,.bool),(2,.buf .cell)],[],[(64,.cell)]⟩ [⟨.ret,[(3,.bool),(2,.buf .cell)],[],[(64,.cell)]⟩,⟨.exit 0,[(3,.bool),(2,.buf .cell)],[],[(64,.cell)]⟩] (sP [(2,2),(6,4),(19,26)]) (fun p v=>jK p.1 p.2.1 p.2.2 v.1 v.2.1 v.2.2.1 v.2.2.2)
def oH (x0:ax):Option ((List aN)×Bool):=cnd (band (band (ile 0 (len x0.cells)) (ile (len x0.cells) (len x0.cells))) (ile (len x0.cells) 68719476736)) (af (bZ (fun v=>jK (len x0.orders) x0.orders x0 v.1 v.2.1 v.2.2.1 v.2.2.2) LF (0,false,[],qQ aN (itn (len x0.cells)))) fun y0=>fO y0 (fun y1=>some (y1.2.1,y1.1)) fun y1=>some (y1.2.2,true)) none
def xU:aA:=mkSpec [.val .state] [.buf .cell,.bool] true (fun x=>oH x)
theorem Jj:bg PG 126 xU:=okP [(183,jD),(184,zo)] [] [(126,58,FM)] ⟨ng,IA,trivial⟩ (fun K=>⟨iU K fun p v=>by kernel_rfl,trivial⟩) fun x=>by kernel_rfl
def ji (x0:ax) (x1:Int):Option ((List aN)):=cnd (band (band (ile 0 (wr .i64 (eF x1 x0.symbols))) (ile (wr .i64 (eF x1 x0.symbols)) (wr .i64 (eF (wr .i64 (aF x1 1)) x0.symbols)))) (ile (wr .i64 (eF (wr .i64 (aF x1 1)) x0.symbols)) (len x0.cells))) (some (bF (dF x0.cells (itn (wr .i64 (eF x1 x0.symbols)))) (itn (aS (wr .i64 (eF (wr .i64 (aF x1 1)) x0.symbols)) (wr .i64 (eF x1 x0.symbols)))))) none
def pG:aA:=mkSpec [.val .state,.int .i64] [.ro .cell] false (fun x=>ji x.1 x.2)
theorem yX:bg PG 129 pG:=okN [] [] trivial fun x=>by kernel_rfl
def uM (p0:Int) (p1:(List Int)) (v0:Int) (v1:Int) (v2:Int) (v3:Int):Option ((Int×Int×Int×Int) ⊕ ((Int×Int) ⊕ ((Int×Int×Int)))):=cnd (ilt v0 p0) (cnd (band (ile 0 v0) (ilt v0 (len p1))) (af (nM v1 (ai p1 (itn v0))) fun y0=>cnd (ak (ieq y0.2 0)) (some (Sum.inr (Sum.inl (y0.2,0)))) (some (Sum.inl (wr .i64 (aF v0 1),y0.1,v2,v3)))) none) (some (Sum.inr (Sum.inr (v1,v2,v3))))
def TG:dh:=LSh.spec ⟨71,[(10,.int .i64),(9,.ro .i64)],[],[],[(11,.int .i64),(4,.int .i64),(3,.int .i64),(2,.int .i64)],[],[]⟩ [⟨.ret,[(3,.int .i64),(2,.int .i64)],[],[]⟩,⟨.exit 0,[(4,.int .i64),(3,.int .i64),(2,.int .i64)],[],[]⟩] (sP [(2,3),(6,3),(11,15)]) (fun p v=>uM p.1 p.2 v.1 v.2.1 v.2.2.1 v.2.2.2)
def E5 (x0:(List Int)):Option (Int×Int):=af (bZ (fun v=>uM (len x0) x0 v.1 v.2.1 v.2.2.1 v.2.2.2) LF (0,0,0,0)) fun y0=>fO y0 (fun y1=>some (y1.2,y1.1)) fun y1=>some (y1.1,0)
def Kq:aA:=mkSpec [.ro .i64] [.int .i64,.int .i64] true (fun x=>E5 x)
theorem ZF:bg PG 197 Kq:=okP [(117,qP)] [] [(197,58,TG)] ⟨Aq,trivial⟩ (fun K=>⟨iU K fun p v=>by kernel_rfl,trivial⟩) fun x=>by kernel_rfl
def qo (p0:Int) (p1:(List aN)) (v0:Int) (v1:(List Int)):Option ((Int×(List Int)) ⊕ (((List Int)))):=cnd (ilt v0 p0) (cnd (band (ile 0 v0) (ilt v0 (len p1))) (cnd (ile (len (bP v1 [(ai p1 (itn v0)).opn])) 68719476736) (some (Sum.inl (wr .i64 (aF v0 1),bP v1 [(ai p1 (itn v0)).opn]))) none) none) (some (Sum.inr v1))
def P8:dh:=LSh.spec ⟨71,[(8,.int .i64),(7,.ro .cell)],[],[],[(9,.int .i64),(4,.buf .i64)],[],[]⟩ [⟨.exit 0,[(4,.buf .i64)],[],[]⟩] (sP [(4,1),(6,1),(9,10)]) (fun p v=>qo p.1 p.2 v.1 v.2)
def rJ (x0:(List aN)):Option (Int×Int):=af (bZ (fun v=>qo (len x0) x0 v.1 v.2) LF (0,[])) fun y0=>af (E5 y0) fun y1=>some y1
def Ak:aA:=mkSpec [.ro .cell] [.int .i64,.int .i64] true (fun x=>rJ x)
theorem KQ:bg PG 128 Ak:=okP [(197,Kq)] [] [(128,58,P8)] ⟨ZF,trivial⟩ (fun K=>⟨iU K fun p v=>by kernel_rfl,trivial⟩) fun x=>by kernel_rfl
def jB (p0:Int) (p1:(List aN)) (v0:Int) (v1:Bool) (v2:(List aN)):Option ((Int×Bool×(List aN)) ⊕ ((Bool×(List aN)) ⊕ ((Bool×(List aN))))):=cnd (ilt v0 p0) (cnd (band (ile 0 v0) (ilt v0 (len p1))) (cnd (band (ile 0 v0) (ilt v0 (len v2))) (af (gJ (ai p1 (itn v0))) fun y0=>cnd (bor (band (ile 0 v0) (ilt v0 (len (cO v2 (itn v0) (aN.mk (ai p1 (itn v0)).pos (ai v2 (itn v0)).buy (ai v2 (itn v0)).sell (ai v2 (itn v0)).opn))))) (ak (ak (ak y0)))) (cnd (bor (ak y0) (ak (band (ieq (ai (cO v2 (itn v0) (aN.mk (ai p1 (itn v0)).pos (ai v2 (itn v0)).buy (ai v2 (itn v0)).sell (ai v2 (itn v0)).opn)) (itn v0)).pos (ai p1 (itn v0)).pos) (band (ieq (ai (cO v2 (itn v0) (aN.mk (ai p1 (itn v0)).pos (ai v2 (itn v0)).buy (ai v2 (itn v0)).sell (ai v2 (itn v0)).opn)) (itn v0)).buy (ai p1 (itn v0)).buy) (band (ieq (ai (cO v2 (itn v0) (aN.mk (ai p1 (itn v0)).pos (ai v2 (itn v0)).buy (ai v2 (itn v0)).sell (ai v2 (itn v0)).opn)) (itn v0)).sell (ai p1 (itn v0)).sell) (ieq (ai (cO v2 (itn v0) (aN.mk (ai p1 (itn v0)).pos (ai v2 (itn v0)).buy (ai v2 (itn v0)).sell (ai v2 (itn v0)).opn)) (itn v0)).opn (ai p1 (itn v0)).opn)))))) (some (Sum.inr (Sum.inl (false,cO v2 (itn v0) (aN.mk (ai p1 (itn v0)).pos (ai v2 (itn v0)).buy (ai v2 (itn v0)).sell (ai v2 (itn v0)).opn))))) (some (Sum.inl (wr .i64 (aF v0 1),v1,cO v2 (itn v0) (aN.mk (ai p1 (itn v0)).pos (ai v2 (itn v0)).buy (ai v2 (itn v0)).sell (ai v2 (itn v0)).opn))))) none) none) none) (some (Sum.inr (Sum.inr (v1,v2))))
def FI:dh:=LSh.spec ⟨89,[(28,.int .i64),(27,.ro .cell)],[(3,.mf 96)],[],[(29,.int .i64),(2,.bool)],[],[(96,.cell)]⟩ [⟨.ret,[(2,.bool)],[],[(96,.cell)]⟩,⟨.exit 0,[(2,.bool)],[],[(96,.cell)]⟩] (sP [(2,1),(5,2),(29,23)]) (fun p v=>jB p.1 p.2 v.1 v.2.1 v.2.2)
def jG (p0:Int) (p1:ax) (v0:Int) (v1:Bool):Option ((Int×Bool) ⊕ ((Bool) ⊕ ((Bool)))):=cnd (ilt v0 p0) (af (ji p1 v0) fun y0=>af (rJ y0) fun y1=>cnd (ak (ieq y1.2 0)) (some (Sum.inr (Sum.inl false))) (some (Sum.inl (wr .i64 (aF v0 1),v1)))) (some (Sum.inr (Sum.inr v1)))
def FX:dh:=LSh.spec ⟨162,[(54,.int .i64)],[(1,.mp 8 0)],[(8,[.val .state])],[(55,.int .i64),(2,.bool)],[],[]⟩ [⟨.ret,[(2,.bool)],[],[]⟩,⟨.exit 2,[(2,.bool)],[],[]⟩] (sP [(2,1),(7,3),(55,13)]) (fun p v=>jG p.1 p.2 v.1 v.2)
def vT (x0:ax):Option (Bool):=af (qf x0) fun y0=>af (cnd (ak (ak y0)) (qX x0) (some false)) fun y1=>cnd (bor (ak y0) (ak y1)) (some false) (af (oH x0) fun y2=>cnd (ak y2.2) (some false) (af (bZ (fun v=>jB (len x0.cells) x0.cells v.1 v.2.1 v.2.2) LF (0,false,y2.1)) fun y3=>fO y3 (fun y4=>some y4.1) fun y4=>af (bZ (fun v=>jG x0.accounts x0 v.1 v.2) LF (0,y4.1)) fun y5=>fO y5 (fun y6=>some y6) fun y6=>some true))
def zy:aA:=mkSpec [.val .state] [.bool] true (fun x=>vT x)
theorem JC:bg PG 68 zy:=okP [(124,yx),(125,zJ),(126,xU),(127,nO),(129,pG),(128,Ak)] [] [(68,250,FI),(68,506,FX)] ⟨Jw,LX,Jj,wo,yX,KQ,trivial⟩ (fun K=>⟨iU K fun p v=>by kernel_rfl,iU K fun p v=>by kernel_rfl,trivial⟩) fun x=>by kernel_rfl
def iZ (x0:ax):Option (Bool):=af (vT x0) fun y0=>some y0
def kQ:aA:=mkSpec [.val .state] [.bool] true (fun x=>iZ x)
theorem o8:bg PG 28 kQ:=okN [(68,zy)] [] ⟨JC,trivial⟩ fun x=>by kernel_rfl
def VY (x0:Int) (x1:Int) (x2:fB) (x3:Int):Option (ax×Int):=cnd (bor (bor (bor (ilt x0 1) (ilt 8 x0)) (ilt x1 1)) (ilt 8 x1)) (some (ax.mk 0 0 [] [] [] [] false 0 0 0,1)) (cnd (band (band (ile 0 (wr .i64 (eF x0 x1))) (ile (wr .i64 (eF x0 x1)) (wr .i64 (eF x0 x1)))) (ile (wr .i64 (eF x0 x1)) 68719476736)) (af (wF [x2] (wr .i64 (eF x0 x1))) fun y0=>af (zI [x3] x0) fun y1=>af (iZ (ax.mk x0 x1 [] (qQ aN (itn (wr .i64 (eF x0 x1)))) y0 y1 false 0 0 0)) fun y2=>cnd (ak y2) (some (ax.mk 0 0 [] [] [] [] false 0 0 0,1)) (some (ax.mk x0 x1 [] (qQ aN (itn (wr .i64 (eF x0 x1)))) y0 y1 false 0 0 0,0))) none)
def Nr:aA:=mkSpec [.int .i64,.int .i64,.val .expo,.int .i64] [.val .state,.int .i64] false (fun x=>VY x.1 x.2.1 x.2.2.1 x.2.2.2)
theorem aas:bg PG 18 Nr:=okN [(42,sG),(43,wL),(28,kQ)] [] ⟨Ey,Ip,o8,trivial⟩ fun x=>by kernel_rfl
def EI (x0:Int):Option (Bool):=some (bor (bor (band (ile 97 x0) (ile x0 122)) (band (ile 48 x0) (ile x0 57))) (ieq x0 46))
def JL:aA:=mkSpec [.int .u8] [.bool] true (fun x=>EI x)
theorem ZA:bg PG 154 JL:=okN [] [] trivial fun x=>by kernel_rfl
def rC (p0:Int) (p1:(List UInt8)) (v0:Int) (v1:Bool):Option ((Int×Bool) ⊕ ((Bool) ⊕ ((Bool)))):=cnd (ilt v0 p0) (cnd (band (ile 0 v0) (ilt v0 (len p1))) (af (EI (ab3 p1 (itn v0))) fun y0=>cnd (ak y0) (some (Sum.inr (Sum.inl false))) (some (Sum.inl (wr .i64 (aF v0 1),v1)))) none) (some (Sum.inr (Sum.inr v1)))
def QS:dh:=LSh.spec ⟨69,[(5,.int .i64),(0,.str)],[],[],[(6,.int .i64),(2,.bool)],[],[]⟩ [⟨.ret,[(2,.bool)],[],[]⟩,⟨.exit 0,[(2,.bool)],[],[]⟩] (sP [(2,2),(6,9)]) (fun p v=>rC p.1 p.2 v.1 v.2)
def yw (x0:(List UInt8)):Option (Bool):=af (bZ (fun v=>rC (len x0) x0 v.1 v.2) LF (0,false)) fun y0=>fO y0 (fun y1=>some y1) fun y1=>some (band (ile 1 (len x0)) (ile (len x0) 16))
def BJ:aA:=mkSpec [.str] [.bool] true (fun x=>yw x)
theorem MR:bg PG 90 BJ:=okP [(154,JL)] [] [(90,26,QS)] ⟨ZA,trivial⟩ (fun K=>⟨iU K fun p v=>by kernel_rfl,trivial⟩) fun x=>by kernel_rfl
def qw (p0:Int) (p1:(List aI)) (p2:ay) (v0:Int) (v1:Int) (v2:Bool):Option ((Int×Int×Bool) ⊕ ((Bool) ⊕ ((Bool)))):=cnd (ilt v0 p0) (cnd (band (ile 0 v0) (ilt v0 (len p1))) (af (yw (ai p1 (itn v0)).name) fun y0=>cnd (bor (band (ile 0 (wr .i64 (aS v0 1))) (ilt (wr .i64 (aS v0 1)) (len p2.files))) (ak (band (ak (ak y0)) (ilt 0 v0)))) (cnd (bor (bor (bor (bor (ak y0) (band (ilt 0 v0) (ak (slt (ai p2.files (itn (wr .i64 (aS v0 1)))).name (ai p1 (itn v0)).name)))) (ilt (ai p1 (itn v0)).sure 0)) (ilt (len (ai p1 (itn v0)).data) (ai p1 (itn v0)).sure)) (ilt v1 (len (ai p1 (itn v0)).data))) (some (Sum.inr (Sum.inl false))) (some (Sum.inl (wr .i64 (aF v0 1),wr .i64 (aS v1 (len (ai p1 (itn v0)).data)),v2)))) none) none) (some (Sum.inr (Sum.inr v2)))
def PY:dh:=LSh.spec ⟨93,[(29,.int .i64),(28,.ro .file)],[(1,.mp 8 0)],[(8,[.val .disk])],[(30,.int .i64),(3,.int .i64),(2,.bool)],[],[]⟩ [⟨.ret,[(2,.bool)],[],[]⟩,⟨.exit 0,[(2,.bool)],[],[]⟩] (sP [(2,4),(30,51)]) (fun p v=>qw p.1 p.2.1 p.2.2 v.1 v.2.1 v.2.2)
def lm (x0:ay):Option (Bool):=cnd (bor (bor (bor (ilt x0.room 0) (ilt 65536 x0.room)) (ilt x0.fuse (-1))) (ilt 64 (len x0.files))) (some false) (af (bZ (fun v=>qw (len x0.files) x0.files x0 v.1 v.2.1 v.2.2) LF (0,x0.room,false)) fun y0=>fO y0 (fun y1=>some y1) fun y1=>some true)
def kN:aA:=mkSpec [.val .disk] [.bool] true (fun x=>lm x)
theorem oV:bg PG 44 kN:=okP [(90,BJ)] [] [(44,122,PY)] ⟨MR,trivial⟩ (fun K=>⟨iU K fun p v=>by kernel_rfl,trivial⟩) fun x=>by kernel_rfl
def Fa (x0:Int):Option ((List UInt8)):=cnd (ieq (acS x0 2) 0) (some [(UInt8.ofNat 115),(UInt8.ofNat 108),(UInt8.ofNat 111),(UInt8.ofNat 116),(UInt8.ofNat 46),(UInt8.ofNat 48)]) (some [(UInt8.ofNat 115),(UInt8.ofNat 108),(UInt8.ofNat 111),(UInt8.ofNat 116),(UInt8.ofNat 46),(UInt8.ofNat 49)])
def Jp:aA:=mkSpec [.int .i64] [.str] true (fun x=>Fa x)
theorem Zo:bg PG 212 Jp:=okN [] [] trivial fun x=>by kernel_rfl
def dm (p0:Int) (p1:(List (List UInt8))) (v0:Int) (v1:Int):Option ((Int×Int) ⊕ ((Int) ⊕ ((Int)))):=cnd (ilt v0 p0) (cnd (band (ile 0 v0) (ilt v0 (len p1))) (af (yw (ai p1 (itn v0))) fun y0=>cnd (ak y0) (some (Sum.inr (Sum.inl v0))) (some (Sum.inl (wr .i64 (aF v0 1),v1)))) none) (some (Sum.inr (Sum.inr v1)))
def nK:dh:=LSh.spec ⟨88,[(7,.int .i64),(0,.ro .str)],[(1,.fn 270 [])],[],[(8,.int .i64),(4,.int .i64)],[],[]⟩ [⟨.ret,[(4,.int .i64)],[],[]⟩,⟨.exit 0,[(4,.int .i64)],[],[]⟩] (sP [(4,2),(8,11)]) (fun p v=>dm p.1 p.2 v.1 v.2)
def nT (x0:ay) (x1:(List (List UInt8))):Option (Int):=af (lm x0) fun y0=>cnd (ak y0) (some 1) (cnd x0.down (some 9) (af (bZ (fun v=>dm (len x1) x1 v.1 v.2) LF (0,0)) fun y1=>fO y1 (fun y2=>cnd (ile 0 y2) (some 1) (some 0)) fun y2=>some 0))
def nP:aA:=mkSpec [.val .disk,.ro .str] [.int .i64] true (fun x=>nT x.1 x.2)
theorem vY:bg PG 227 nP:=okP [(44,kN),(90,BJ)] [269,293,270] [(4187411152178019123493,26,nK)] ⟨oV,MR,trivial⟩ (fun K=>⟨iU K fun p v=>by kernel_rfl,trivial⟩) fun x=>by kernel_rfl
def oN (x0:(List UInt8)) (x1:(List UInt8)):Option (Int):=some (Zl x0 x1)
def Bv:aA:=mkSpec [.str,.str] [.int .i64] true (fun x=>oN x.1 x.2)
def Me:Go.Shelf.Ren:=⟨fun | 106=>273 | 213=>294 | 265=>305 | n=>n,fun | 9=>9 | 3=>3 | n=>n,fun | n=>n⟩
theorem Ac:Go.Proofs.Lays.n106 PG Me where
 mixed:=by kernel_rfl
 f106:=by kernel_rfl
 f213:=by kernel_rfl
 f265:=by kernel_rfl
 t3:=by kernel_rfl
 a3:=fun w=>by kernel_rfl
 z3:=fun w=>by kernel_rfl
 v3:=fun w=>by kernel_rfl
 t9:=by kernel_rfl
 a9:=fun w=>by kernel_rfl
 z9:=fun w=>by kernel_rfl
 v9:=fun w=>by kernel_rfl
theorem NW:bg PG 273 Bv:=aeM Aj Ac (by kernel_rfl) fun x y h=>(Option.some.inj h).symm
def dP (p0:(List aI)) (p1:(List UInt8)) (v0:Int) (v1:Int):Option ((Int×Int) ⊕ ((Int))):=cnd (ilt v1 v0) (cnd (band (ile 0 (wr .i64 (bI .u64 (wr .u64 (wr .i64 (aF v1 v0))) 1))) (ilt (wr .i64 (bI .u64 (wr .u64 (wr .i64 (aF v1 v0))) 1)) (len p0))) (af (oN (ai p0 (itn (wr .i64 (bI .u64 (wr .u64 (wr .i64 (aF v1 v0))) 1)))).name p1) fun y0=>cnd (ilt y0 0) (some (Sum.inl (v0,wr .i64 (aF (wr .i64 (bI .u64 (wr .u64 (wr .i64 (aF v1 v0))) 1)) 1)))) (some (Sum.inl (wr .i64 (bI .u64 (wr .u64 (wr .i64 (aF v1 v0))) 1),v1)))) none) (some (Sum.inr v1))
def mX:dh:=LSh.spec ⟨85,[(0,.ro .file),(1,.str)],[(2,.fn 272 [])],[],[(10,.int .i64),(9,.int .i64)],[],[]⟩ [⟨.exit 0,[(9,.int .i64)],[],[]⟩] (sP [(9,3),(15,20)]) (fun p v=>dP p.1 p.2 v.1 v.2)
def qE (x0:ay) (x1:(List UInt8)):Option (Int×Bool):=af (bZ (fun v=>dP x0.files x1 v.1 v.2) LF (len x0.files,0)) fun y0=>cnd (bor (band (ile 0 y0) (ilt y0 (len x0.files))) (ak (ilt y0 (len x0.files)))) (cnd (ilt y0 (len x0.files)) (af (oN (ai x0.files (itn y0)).name x1) fun y1=>some (y0,band (ilt y0 (len x0.files)) (ieq y1 0))) (some (y0,bor (ilt y0 (len x0.files)) false))) none
def qm:aA:=mkSpec [.val .disk,.str] [.int .i64,.bool] true (fun x=>qE x.1 x.2)
theorem zu:bg PG 228 qm:=okP [(273,Bv)] [271,272] [(979252597007,60,mX)] ⟨NW,trivial⟩ (fun K=>⟨iU K fun p v=>by kernel_rfl,trivial⟩) fun x=>by kernel_rfl
def dZ (x0:(List Int)):Option ((List Int)):=zM x0
def qV:aA:=mkSpec [.ro .u8] [.buf .u8] true (fun x=>dZ x)
theorem Bd:bg PG 116 qV:=abn fun x=>by kernel_rfl
def xM (x0:ay) (x1:(List UInt8)):Option ((List Int)×Int):=af (nT x0 [x1]) fun y0=>cnd (ak (ieq y0 0)) (cnd (ak (ieq y0 0)) (some ([],y0)) (cnd (ilt 0 (len x0.files)) (af (dZ (ai x0.files 0).data) fun y1=>some (y1,0)) none)) (af (qE x0 x1) fun y2=>cnd (ak y2.2) (some ([],7)) (cnd (band (ile 0 y2.1) (ilt y2.1 (len x0.files))) (af (dZ (ai x0.files (itn y2.1)).data) fun y3=>some (y3,0)) none))
def yB:aA:=mkSpec [.val .disk,.str] [.buf .u8,.int .i64] true (fun x=>xM x.1 x.2)
theorem Hr:bg PG 156 yB:=okN [(227,nP),(228,qm),(116,qV)] [214] ⟨vY,zu,Bd,trivial⟩ fun x=>by kernel_rfl
def AO (v0:Int) (v1:Int):Option ((Int×Int) ⊕ ((Int))):=cnd (ilt v0 4) (cnd (ieq (wr .u32 (lK .u32 v1 1)) 1) (some (Sum.inl (wr .i64 (aF v0 1),wr .u32 (fV .u32 (bI .u32 v1 1) 3988292384)))) (some (Sum.inl (wr .i64 (aF v0 1),bI .u32 v1 1)))) (some (Sum.inr v1))
def V3:dh:=LSh.spec ⟨67,[],[],[],[(4,.int .i64),(0,.int .u32)],[],[]⟩ [⟨.exit 0,[(0,.int .u32)],[],[]⟩] (sP [(0,1),(3,12)]) (fun p v=>AO v.1 v.2)
def bM (x0:Int):Option (Int):=af (bZ (fun v=>AO v.1 v.2) LF (0,x0)) fun y0=>some y0
def Fv:aA:=mkSpec [.int .u32] [.int .u32] true (fun x=>bM x)
theorem Sz:bg PG 290 Fv:=okP [] [] [(290,26,V3)] trivial (fun K=>⟨iU K fun p v=>by kernel_rfl,trivial⟩) fun x=>by kernel_rfl
def PV (x0:xQ):Option (ae5):=af (bM (wr .u32 (lK .u32 (wr .u32 (fV .u32 4294967295 (wr .u32 (wr .u8 (bI .i64 x0.gen 56))))) 15))) fun y0=>af (bM (wr .u32 (lK .u32 (wr .u32 (fV .u32 y0 (bI .u32 (wr .u32 (fV .u32 4294967295 (wr .u32 (wr .u8 (bI .i64 x0.gen 56))))) 4))) 15))) fun y1=>let t8:=(wr .u32 (fV .u32 (wr .u32 (fV .u32 y1 (bI .u32 (wr .u32 (fV .u32 y0 (bI .u32 (wr .u32 (fV .u32 4294967295 (wr .u32 (wr .u8 (bI .i64 x0.gen 56))))) 4))) 4))) (wr .u32 (wr .u8 (bI .i64 x0.gen 48)))));af (bM (wr .u32 (lK .u32 t8 15))) fun y2=>af (bM (wr .u32 (lK .u32 (wr .u32 (fV .u32 y2 (bI .u32 t8 4))) 15))) fun y3=>let t5:=(wr .u32 (fV .u32 (wr .u32 (fV .u32 y3 (bI .u32 (wr .u32 (fV .u32 y2 (bI .u32 t8 4))) 4))) (wr .u32 (wr .u8 (bI .i64 x0.gen 40)))));af (bM (wr .u32 (lK .u32 t5 15))) fun y4=>af (bM (wr .u32 (lK .u32 (wr .u32 (fV .u32 y4 (bI .u32 t5 4))) 15))) fun y5=>let t14:=(wr .u32 (fV .u32 (wr .u32 (fV .u32 y5 (bI .u32 (wr .u32 (fV .u32 y4 (bI .u32 t5 4))) 4))) (wr .u32 (wr .u8 (bI .i64 x0.gen 32)))));af (bM (wr .u32 (lK .u32 t14 15))) fun y6=>af (bM (wr .u32 (lK .u32 (wr .u32 (fV .u32 y6 (bI .u32 t14 4))) 15))) fun y7=>let t1:=(wr .u32 (fV .u32 (wr .u32 (fV .u32 y7 (bI .u32 (wr .u32 (fV .u32 y6 (bI .u32 t14 4))) 4))) (wr .u32 (wr .u8 (bI .i64 x0.gen 24)))));af (bM (wr .u32 (lK .u32 t1 15))) fun y8=>af (bM (wr .u32 (lK .u32 (wr .u32 (fV .u32 y8 (bI .u32 t1 4))) 15))) fun y9=>let t15:=(wr .u32 (fV .u32 (wr .u32 (fV .u32 y9 (bI .u32 (wr .u32 (fV .u32 y8 (bI .u32 t1 4))) 4))) (wr .u32 (wr .u8 (bI .i64 x0.gen 16)))));af (bM (wr .u32 (lK .u32 t15 15))) fun y10=>af (bM (wr .u32 (lK .u32 (wr .u32 (fV .u32 y10 (bI .u32 t15 4))) 15))) fun y11=>let t7:=(wr .u32 (fV .u32 (wr .u32 (fV .u32 y11 (bI .u32 (wr .u32 (fV .u32 y10 (bI .u32 t15 4))) 4))) (wr .u32 (wr .u8 (bI .i64 x0.gen 8)))));af (bM (wr .u32 (lK .u32 t7 15))) fun y12=>af (bM (wr .u32 (lK .u32 (wr .u32 (fV .u32 y12 (bI .u32 t7 4))) 15))) fun y13=>let t3:=(wr .u32 (fV .u32 (wr .u32 (fV .u32 y13 (bI .u32 (wr .u32 (fV .u32 y12 (bI .u32 t7 4))) 4))) (wr .u32 (wr .u8 (bI .i64 x0.gen 0)))));af (bM (wr .u32 (lK .u32 t3 15))) fun y14=>af (bM (wr .u32 (lK .u32 (wr .u32 (fV .u32 y14 (bI .u32 t3 4))) 15))) fun y15=>let t10:=(wr .u32 (fV .u32 (wr .u32 (fV .u32 y15 (bI .u32 (wr .u32 (fV .u32 y14 (bI .u32 t3 4))) 4))) (wr .u32 (wr .u8 (bI .i64 x0.lsn 56)))));af (bM (wr .u32 (lK .u32 t10 15))) fun y16=>af (bM (wr .u32 (lK .u32 (wr .u32 (fV .u32 y16 (bI .u32 t10 4))) 15))) fun y17=>let t0:=(wr .u32 (fV .u32 (wr .u32 (fV .u32 y17 (bI .u32 (wr .u32 (fV .u32 y16 (bI .u32 t10 4))) 4))) (wr .u32 (wr .u8 (bI .i64 x0.lsn 48)))));af (bM (wr .u32 (lK .u32 t0 15))) fun y18=>af (bM (wr .u32 (lK .u32 (wr .u32 (fV .u32 y18 (bI .u32 t0 4))) 15))) fun y19=>let t11:=(wr .u32 (fV .u32 (wr .u32 (fV .u32 y19 (bI .u32 (wr .u32 (fV .u32 y18 (bI .u32 t0 4))) 4))) (wr .u32 (wr .u8 (bI .i64 x0.lsn 40)))));af (bM (wr .u32 (lK .u32 t11 15))) fun y20=>af (bM (wr .u32 (lK .u32 (wr .u32 (fV .u32 y20 (bI .u32 t11 4))) 15))) fun y21=>let t6:=(wr .u32 (fV .u32 (wr .u32 (fV .u32 y21 (bI .u32 (wr .u32 (fV .u32 y20 (bI .u32 t11 4))) 4))) (wr .u32 (wr .u8 (bI .i64 x0.lsn 32)))));af (bM (wr .u32 (lK .u32 t6 15))) fun y22=>af (bM (wr .u32 (lK .u32 (wr .u32 (fV .u32 y22 (bI .u32 t6 4))) 15))) fun y23=>let t12:=(wr .u32 (fV .u32 (wr .u32 (fV .u32 y23 (bI .u32 (wr .u32 (fV .u32 y22 (bI .u32 t6 4))) 4))) (wr .u32 (wr .u8 (bI .i64 x0.lsn 24)))));af (bM (wr .u32 (lK .u32 t12 15))) fun y24=>af (bM (wr .u32 (lK .u32 (wr .u32 (fV .u32 y24 (bI .u32 t12 4))) 15))) fun y25=>let t2:=(wr .u32 (fV .u32 (wr .u32 (fV .u32 y25 (bI .u32 (wr .u32 (fV .u32 y24 (bI .u32 t12 4))) 4))) (wr .u32 (wr .u8 (bI .i64 x0.lsn 16)))));af (bM (wr .u32 (lK .u32 t2 15))) fun y26=>af (bM (wr .u32 (lK .u32 (wr .u32 (fV .u32 y26 (bI .u32 t2 4))) 15))) fun y27=>let t13:=(wr .u32 (fV .u32 (wr .u32 (fV .u32 y27 (bI .u32 (wr .u32 (fV .u32 y26 (bI .u32 t2 4))) 4))) (wr .u32 (wr .u8 (bI .i64 x0.lsn 8)))));af (bM (wr .u32 (lK .u32 t13 15))) fun y28=>af (bM (wr .u32 (lK .u32 (wr .u32 (fV .u32 y28 (bI .u32 t13 4))) 15))) fun y29=>let t4:=(wr .u32 (fV .u32 (wr .u32 (fV .u32 y29 (bI .u32 (wr .u32 (fV .u32 y28 (bI .u32 t13 4))) 4))) (wr .u32 (wr .u8 (bI .i64 x0.lsn 0)))));af (bM (wr .u32 (lK .u32 t4 15))) fun y30=>af (bM (wr .u32 (lK .u32 (wr .u32 (fV .u32 y30 (bI .u32 t4 4))) 15))) fun y31=>let t9:=(wr .u32 (fV .u32 4294967295 (wr .u32 (fV .u32 y31 (bI .u32 (wr .u32 (fV .u32 y30 (bI .u32 t4 4))) 4)))));some (ae5.mk (wr .u8 (bI .i64 x0.gen 56)) (wr .u8 (bI .i64 x0.gen 48)) (wr .u8 (bI .i64 x0.gen 40)) (wr .u8 (bI .i64 x0.gen 32)) (wr .u8 (bI .i64 x0.gen 24)) (wr .u8 (bI .i64 x0.gen 16)) (wr .u8 (bI .i64 x0.gen 8)) (wr .u8 (bI .i64 x0.gen 0)) (wr .u8 (bI .i64 x0.lsn 56)) (wr .u8 (bI .i64 x0.lsn 48)) (wr .u8 (bI .i64 x0.lsn 40)) (wr .u8 (bI .i64 x0.lsn 32)) (wr .u8 (bI .i64 x0.lsn 24)) (wr .u8 (bI .i64 x0.lsn 16)) (wr .u8 (bI .i64 x0.lsn 8)) (wr .u8 (bI .i64 x0.lsn 0)) (wr .u8 (bI .u32 t9 0)) (wr .u8 (bI .u32 t9 8)) (wr .u8 (bI .u32 t9 16)) (wr .u8 (bI .u32 t9 24)))
def I8:aA:=mkSpec [.val .slot] [.val .a20] true (fun x=>PV x)
theorem Xo:bg PG 251 I8:=okN [(290,Fv)] [218,259] ⟨Sz,trivial⟩ fun x=>by kernel_rfl
def OX (x0:xQ):Option (Bool):=some (band (band (band (ile 1 x0.gen) (ile x0.gen 1000000000)) (ile 0 x0.lsn)) (ile x0.lsn 1000000000))
def IG:aA:=mkSpec [.val .slot] [.bool] true (fun x=>OX x)
theorem Xu:bg PG 252 IG:=okN [] [] trivial fun x=>by kernel_rfl
def AY (x0:(List Int)):Option (xQ×Int):=cnd (ak (ieq (len x0) 20)) (some (xQ.mk 0 0,2)) (cnd (ilt 0 (len x0)) (cnd (ilt 8 (len x0)) (cnd (ilt 1 (len x0)) (cnd (ilt 9 (len x0)) (cnd (ilt 2 (len x0)) (cnd (ilt 10 (len x0)) (cnd (ilt 3 (len x0)) (cnd (ilt 11 (len x0)) (cnd (ilt 4 (len x0)) (cnd (ilt 12 (len x0)) (cnd (ilt 5 (len x0)) (cnd (ilt 13 (len x0)) (cnd (ilt 6 (len x0)) (cnd (ilt 14 (len x0)) (cnd (ilt 7 (len x0)) (cnd (ilt 15 (len x0)) (af (PV (xQ.mk (wr .i64 (ior .i64 (wr .i64 (mF .i64 (wr .i64 (ior .i64 (wr .i64 (mF .i64 (wr .i64 (ior .i64 (wr .i64 (mF .i64 (wr .i64 (ior .i64 (wr .i64 (mF .i64 (wr .i64 (ior .i64 (wr .i64 (mF .i64 (wr .i64 (ior .i64 (wr .i64 (mF .i64 (wr .i64 (ior .i64 (wr .i64 (mF .i64 (wr .i64 (ior .i64 0 (wr .i64 (ai x0 0)))) 8)) (wr .i64 (ai x0 1)))) 8)) (wr .i64 (ai x0 2)))) 8)) (wr .i64 (ai x0 3)))) 8)) (wr .i64 (ai x0 4)))) 8)) (wr .i64 (ai x0 5)))) 8)) (wr .i64 (ai x0 6)))) 8)) (wr .i64 (ai x0 7)))) (wr .i64 (ior .i64 (wr .i64 (mF .i64 (wr .i64 (ior .i64 (wr .i64 (mF .i64 (wr .i64 (ior .i64 (wr .i64 (mF .i64 (wr .i64 (ior .i64 (wr .i64 (mF .i64 (wr .i64 (ior .i64 (wr .i64 (mF .i64 (wr .i64 (ior .i64 (wr .i64 (mF .i64 (wr .i64 (ior .i64 (wr .i64 (mF .i64 (wr .i64 (ior .i64 0 (wr .i64 (ai x0 8)))) 8)) (wr .i64 (ai x0 9)))) 8)) (wr .i64 (ai x0 10)))) 8)) (wr .i64 (ai x0 11)))) 8)) (wr .i64 (ai x0 12)))) 8)) (wr .i64 (ai x0 13)))) 8)) (wr .i64 (ai x0 14)))) 8)) (wr .i64 (ai x0 15)))))) fun y0=>cnd (ile 20 (len x0)) (cnd (ak (band (ieq y0.a0 (ai x0 0)) (band (ieq y0.a1 (ai x0 1)) (band (ieq y0.a2 (ai x0 2)) (band (ieq y0.a3 (ai x0 3)) (band (ieq y0.a4 (ai x0 4)) (band (ieq y0.a5 (ai x0 5)) (band (ieq y0.a6 (ai x0 6)) (band (ieq y0.a7 (ai x0 7)) (band (ieq y0.a8 (ai x0 8)) (band (ieq y0.a9 (ai x0 9)) (band (ieq y0.a10 (ai x0 10)) (band (ieq y0.a11 (ai x0 11)) (band (ieq y0.a12 (ai x0 12)) (band (ieq y0.a13 (ai x0 13)) (band (ieq y0.a14 (ai x0 14)) (band (ieq y0.a15 (ai x0 15)) (band (ieq y0.a16 (ai x0 16)) (band (ieq y0.a17 (ai x0 17)) (band (ieq y0.a18 (ai x0 18)) (band (ieq y0.a19 (ai x0 19)) true))))))))))))))))))))) (some (xQ.mk 0 0,10)) (af (OX (xQ.mk (wr .i64 (ior .i64 (wr .i64 (mF .i64 (wr .i64 (ior .i64 (wr .i64 (mF .i64 (wr .i64 (ior .i64 (wr .i64 (mF .i64 (wr .i64 (ior .i64 (wr .i64 (mF .i64 (wr .i64 (ior .i64 (wr .i64 (mF .i64 (wr .i64 (ior .i64 (wr .i64 (mF .i64 (wr .i64 (ior .i64 (wr .i64 (mF .i64 (wr .i64 (ior .i64 0 (wr .i64 (ai x0 0)))) 8)) (wr .i64 (ai x0 1)))) 8)) (wr .i64 (ai x0 2)))) 8)) (wr .i64 (ai x0 3)))) 8)) (wr .i64 (ai x0 4)))) 8)) (wr .i64 (ai x0 5)))) 8)) (wr .i64 (ai x0 6)))) 8)) (wr .i64 (ai x0 7)))) (wr .i64 (ior .i64 (wr .i64 (mF .i64 (wr .i64 (ior .i64 (wr .i64 (mF .i64 (wr .i64 (ior .i64 (wr .i64 (mF .i64 (wr .i64 (ior .i64 (wr .i64 (mF .i64 (wr .i64 (ior .i64 (wr .i64 (mF .i64 (wr .i64 (ior .i64 (wr .i64 (mF .i64 (wr .i64 (ior .i64 (wr .i64 (mF .i64 (wr .i64 (ior .i64 0 (wr .i64 (ai x0 8)))) 8)) (wr .i64 (ai x0 9)))) 8)) (wr .i64 (ai x0 10)))) 8)) (wr .i64 (ai x0 11)))) 8)) (wr .i64 (ai x0 12)))) 8)) (wr .i64 (ai x0 13)))) 8)) (wr .i64 (ai x0 14)))) 8)) (wr .i64 (ai x0 15)))))) fun y1=>cnd (ak y1) (some (xQ.mk 0 0,2)) (some (xQ.mk (wr .i64 (ior .i64 (wr .i64 (mF .i64 (wr .i64 (ior .i64 (wr .i64 (mF .i64 (wr .i64 (ior .i64 (wr .i64 (mF .i64 (wr .i64 (ior .i64 (wr .i64 (mF .i64 (wr .i64 (ior .i64 (wr .i64 (mF .i64 (wr .i64 (ior .i64 (wr .i64 (mF .i64 (wr .i64 (ior .i64 (wr .i64 (mF .i64 (wr .i64 (ior .i64 0 (wr .i64 (ai x0 0)))) 8)) (wr .i64 (ai x0 1)))) 8)) (wr .i64 (ai x0 2)))) 8)) (wr .i64 (ai x0 3)))) 8)) (wr .i64 (ai x0 4)))) 8)) (wr .i64 (ai x0 5)))) 8)) (wr .i64 (ai x0 6)))) 8)) (wr .i64 (ai x0 7)))) (wr .i64 (ior .i64 (wr .i64 (mF .i64 (wr .i64 (ior .i64 (wr .i64 (mF .i64 (wr .i64 (ior .i64 (wr .i64 (mF .i64 (wr .i64 (ior .i64 (wr .i64 (mF .i64 (wr .i64 (ior .i64 (wr .i64 (mF .i64 (wr .i64 (ior .i64 (wr .i64 (mF .i64 (wr .i64 (ior .i64 (wr .i64 (mF .i64 (wr .i64 (ior .i64 0 (wr .i64 (ai x0 8)))) 8)) (wr .i64 (ai x0 9)))) 8)) (wr .i64 (ai x0 10)))) 8)) (wr .i64 (ai x0 11)))) 8)) (wr .i64 (ai x0 12)))) 8)) (wr .i64 (ai x0 13)))) 8)) (wr .i64 (ai x0 14)))) 8)) (wr .i64 (ai x0 15)))),0)))) none) none) none) none) none) none) none) none) none) none) none) none) none) none) none) none) none)
def Gv:aA:=mkSpec [.ro .u8] [.val .slot,.int .i64] true (fun x=>AY x)
theorem VE:bg PG 213 Gv:=okN [(251,I8),(252,IG)] [] ⟨Xo,Xu,trivial⟩ fun x=>by kernel_rfl
def Si (x0:ay):Option (xQ×Int):=af (lm x0) fun y0=>cnd (ak y0) (some (xQ.mk 0 0,1)) (cnd x0.down (some (xQ.mk 0 0,9)) (af (Fa 0) fun y1=>af (xM x0 y1) fun y2=>af (AY y2.1) fun y3=>cnd (band (band (ieq y3.2 0) (ieq (acS y3.1.gen 2) 0)) (ilt 0 y3.1.gen)) (af (Fa 1) fun y4=>af (xM x0 y4) fun y5=>af (AY y5.1) fun y6=>cnd (band (band (ieq y6.2 0) (ieq (acS y6.1.gen 2) 1)) (ilt y3.1.gen y6.1.gen)) (cnd (ieq y6.1.gen 0) (some (xQ.mk 0 0,7)) (some (y6.1,0))) (cnd (ieq y3.1.gen 0) (some (xQ.mk 0 0,7)) (some (y3.1,0)))) (af (Fa 1) fun y7=>af (xM x0 y7) fun y8=>af (AY y8.1) fun y9=>cnd (band (band (ieq y9.2 0) (ieq (acS y9.1.gen 2) 1)) (ilt 0 y9.1.gen)) (cnd (ieq y9.1.gen 0) (some (xQ.mk 0 0,7)) (some (y9.1,0))) (some (xQ.mk 0 0,7)))))
def JS:aA:=mkSpec [.val .disk] [.val .slot,.int .i64] true (fun x=>Si x)
theorem Zi:bg PG 155 JS:=okN [(44,kN),(212,Jp),(156,yB),(213,Gv)] [] ⟨oV,Zo,Hr,VE,trivial⟩ fun x=>by kernel_rfl
def kL (x0:Int) (x1:Int):Option (List UInt8):=aew x0 x1
def qM:aA:=mkSpec [.int .i64,.int .i64] [.str] true (fun x=>kL x.1 x.2)
def Jl:Go.Shelf.Ren:=⟨fun | 173=>215 | 246=>253 | 283=>283 | 284=>284 | 285=>285 | 286=>286 | 129=>299 | 317=>298 | 318=>300 | 319=>301 | 320=>302 | 337=>308 | 338=>309 | n=>n,fun | 2=>2 | 3=>3 | 9=>9 | 4=>4 | 171=>353 | 0=>0 | 53=>205 | 37=>119 | 5=>5 | 173=>356 | 212=>368 | 51=>202 | 20=>20 | 213=>369 | 46=>139 | 232=>378 | 233=>379 | n=>n,fun | 17=>0 | 18=>2 | 19=>3 | n=>n⟩
theorem xY:Go.Proofs.LaysM.n173 PG Jl where
 mixed:=by kernel_rfl
 f129:=by kernel_rfl
 f173:=by kernel_rfl
 f246:=by kernel_rfl
 f283:=by kernel_rfl
 f284:=by kernel_rfl
 f285:=by kernel_rfl
 f286:=by kernel_rfl
 f317:=by kernel_rfl
 f318:=by kernel_rfl
 f319:=by kernel_rfl
 f320:=by kernel_rfl
 f337:=by kernel_rfl
 f338:=by kernel_rfl
 t0:=by kernel_rfl
 a0:=fun w=>by kernel_rfl
 z0:=fun w=>by kernel_rfl
 v0:=fun w=>by kernel_rfl
 t2:=by kernel_rfl
 a2:=fun w=>by kernel_rfl
 z2:=fun w=>by kernel_rfl
 v2:=fun w=>by kernel_rfl
 t3:=by kernel_rfl
 a3:=fun w=>by kernel_rfl
 z3:=fun w=>by kernel_rfl
 v3:=fun w=>by kernel_rfl
 t4:=by kernel_rfl
 a4:=fun w=>by kernel_rfl
 z4:=fun w=>by kernel_rfl
 v4:=fun w=>by kernel_rfl
 t5:=by kernel_rfl
 a5:=fun w=>by kernel_rfl
 z5:=fun w=>by kernel_rfl
 v5:=fun w=>by kernel_rfl
 t9:=by kernel_rfl
 a9:=fun w=>by kernel_rfl
 z9:=fun w=>by kernel_rfl
 v9:=fun w=>by kernel_rfl
 t20:=by kernel_rfl
 a20:=fun w=>by kernel_rfl
 z20:=fun w=>by kernel_rfl
 v20:=fun w=>by kernel_rfl
 t37:=by kernel_rfl
 a37:=fun w=>by kernel_rfl
 z37:=fun w=>by kernel_rfl
 v37:=fun w=>by kernel_rfl
 t46:=by kernel_rfl
 a46:=fun w=>by kernel_rfl
 z46:=fun w=>by kernel_rfl
 v46:=fun w=>by kernel_rfl
 t51:=by kernel_rfl
 a51:=fun w=>by kernel_rfl
 z51:=fun w=>by kernel_rfl
 v51:=fun w=>by kernel_rfl
 t53:=by kernel_rfl
 a53:=fun w=>by kernel_rfl
 z53:=fun w=>by kernel_rfl
 v53:=fun w=>by kernel_rfl
 t171:=by kernel_rfl
 a171:=fun w=>by kernel_rfl
 z171:=fun w=>by kernel_rfl
 v171:=fun w=>by kernel_rfl
 t173:=by kernel_rfl
 a173:=fun w=>by kernel_rfl
 z173:=fun w=>by kernel_rfl
 v173:=fun w=>by kernel_rfl
 t212:=by kernel_rfl
 a212:=fun w=>by kernel_rfl
 z212:=fun w=>by kernel_rfl
 v212:=fun w=>by kernel_rfl
 t213:=by kernel_rfl
 a213:=fun w=>by kernel_rfl
 z213:=fun w=>by kernel_rfl
 t232:=by kernel_rfl
 a232:=fun w=>by kernel_rfl
 z232:=fun w=>by kernel_rfl
 v232:=fun w=>by kernel_rfl
 t233:=by kernel_rfl
 a233:=fun w=>by kernel_rfl
 z233:=fun w=>by kernel_rfl
 v233:=fun w=>by kernel_rfl
 g17:=by kernel_rfl
 g18:=by kernel_rfl
 g19:=by kernel_rfl
 i0:=by kernel_rfl
 i2:=by kernel_rfl
 i3:=by kernel_rfl
 i4:=by kernel_rfl
 i5:=by kernel_rfl
 i9:=by kernel_rfl
 i20:=by kernel_rfl
 i37:=by kernel_rfl
 i46:=by kernel_rfl
 i51:=by kernel_rfl
 i53:=by kernel_rfl
 i171:=by kernel_rfl
 i173:=by kernel_rfl
 i212:=by kernel_rfl
 i232:=by kernel_rfl
 i233:=by kernel_rfl
 m17:=by kernel_rfl
 m18:=by kernel_rfl
 m19:=by kernel_rfl
theorem Bo:bg PG 215 qM:=aey Aj xY (by kernel_rfl) (g:=0) (by kernel_rfl) (by simp [glL]) fun x y h=>h
def mg (x0:(List UInt8)) (x1:Int):Option (List UInt8):=aek x0 x1
def vS:aA:=mkSpec [.str,.int .i64] [.str] true (fun x=>mg x.1 x.2)
def DF:Go.Shelf.Ren:=⟨fun | 105=>216 | 212=>89 | 99=>254 | 165=>255 | 166=>256 | 170=>257 | 169=>258 | 263=>152 | 264=>153 | 206=>287 | 240=>288 | 241=>289 | 276=>303 | 277=>304 | n=>n,fun | 9=>9 | 3=>3 | 4=>4 | 20=>20 | 0=>0 | 46=>139 | 109=>140 | 5=>5 | 72=>318 | 76=>322 | 51=>202 | 146=>203 | 53=>205 | 148=>206 | 70=>316 | 37=>119 | 75=>321 | 127=>358 | 164=>372 | 71=>317 | 74=>320 | 80=>325 | n=>n,fun | n=>n⟩
theorem A8:Go.Proofs.Lays.n105 PG DF where
 mixed:=by kernel_rfl
 f99:=by kernel_rfl
 f105:=by kernel_rfl
 f165:=by kernel_rfl
 f166:=by kernel_rfl
 f169:=by kernel_rfl
 f170:=by kernel_rfl
 f206:=by kernel_rfl
 f212:=by kernel_rfl
 f240:=by kernel_rfl
 f241:=by kernel_rfl
 f263:=by kernel_rfl
 f264:=by kernel_rfl
 f276:=by kernel_rfl
 f277:=by kernel_rfl
 t0:=by kernel_rfl
 a0:=fun w=>by kernel_rfl
 z0:=fun w=>by kernel_rfl
 v0:=fun w=>by kernel_rfl
 t3:=by kernel_rfl
 a3:=fun w=>by kernel_rfl
 z3:=fun w=>by kernel_rfl
 v3:=fun w=>by kernel_rfl
 t4:=by kernel_rfl
 a4:=fun w=>by kernel_rfl
 z4:=fun w=>by kernel_rfl
 v4:=fun w=>by kernel_rfl
 t5:=by kernel_rfl
 a5:=fun w=>by kernel_rfl
 z5:=fun w=>by kernel_rfl
 v5:=fun w=>by kernel_rfl
 t9:=by kernel_rfl
 a9:=fun w=>by kernel_rfl
 z9:=fun w=>by kernel_rfl
 v9:=fun w=>by kernel_rfl
 t20:=by kernel_rfl
 a20:=fun w=>by kernel_rfl
 z20:=fun w=>by kernel_rfl
 v20:=fun w=>by kernel_rfl
 t37:=by kernel_rfl
 a37:=fun w=>by kernel_rfl
 z37:=fun w=>by kernel_rfl
 v37:=fun w=>by kernel_rfl
 t46:=by kernel_rfl
 a46:=fun w=>by kernel_rfl
 z46:=fun w=>by kernel_rfl
 v46:=fun w=>by kernel_rfl
 t51:=by kernel_rfl
 a51:=fun w=>by kernel_rfl
 z51:=fun w=>by kernel_rfl
 v51:=fun w=>by kernel_rfl
 t53:=by kernel_rfl
 a53:=fun w=>by kernel_rfl
 z53:=fun w=>by kernel_rfl
 v53:=fun w=>by kernel_rfl
 t70:=by kernel_rfl
 a70:=fun w=>by kernel_rfl
 z70:=fun w=>by kernel_rfl
 v70:=fun w=>by kernel_rfl
 t72:=by kernel_rfl
 a72:=fun w=>by kernel_rfl
 z72:=fun w=>by kernel_rfl
 v72:=fun w=>by kernel_rfl
 t75:=by kernel_rfl
 a75:=fun w=>by kernel_rfl
 z75:=fun w=>by kernel_rfl
 v75:=fun w=>by kernel_rfl
 t76:=by kernel_rfl
 a76:=fun w=>by kernel_rfl
 z76:=fun w=>by kernel_rfl
 v76:=fun w=>by kernel_rfl
 t109:=by kernel_rfl
 a109:=fun w=>by kernel_rfl
 z109:=fun w=>by kernel_rfl
 v109:=fun w=>by kernel_rfl
 t127:=by kernel_rfl
 a127:=fun w=>by kernel_rfl
 z127:=fun w=>by kernel_rfl
 v127:=fun w=>by kernel_rfl
 t146:=by kernel_rfl
 a146:=fun w=>by kernel_rfl
 z146:=fun w=>by kernel_rfl
 v146:=fun w=>by kernel_rfl
 t148:=by kernel_rfl
 a148:=fun w=>by kernel_rfl
 z148:=fun w=>by kernel_rfl
 v148:=fun w=>by kernel_rfl
 t164:=by kernel_rfl
 a164:=fun w=>by kernel_rfl
 z164:=fun w=>by kernel_rfl
 v164:=fun w=>by kernel_rfl
theorem xW:Go.Proofs.Builder.Extra PG DF where
 sizeBuilder:=by kernel_rfl
 liesBuilder:=by kernel_rfl
 t5:=by kernel_rfl
 a5:=fun w=>by kernel_rfl
 z5:=fun w=>by kernel_rfl
 v5:=fun w=>by kernel_rfl
 infoByte:=by kernel_rfl
 cellsByte:=by kernel_rfl
 sizeByte:=by kernel_rfl
 neB5:=by decide
theorem EL:bg PG 216 vS:=ae1 Aj A8 xW (by kernel_rfl) fun x y h=>h
def Pn (x0:Int):Option ((List UInt8)):=cnd (bor (ilt x0 1) (ilt 1000000000 x0)) (some []) (af (kL x0 10) fun y0=>af (mg [(UInt8.ofNat 48)] (wr .i64 (aS 10 (len y0)))) fun y1=>cnd (ile (aF 5 (len y1)) 68719476736) (cnd (ile (aF (len (bP [(UInt8.ofNat 115),(UInt8.ofNat 110),(UInt8.ofNat 97),(UInt8.ofNat 112),(UInt8.ofNat 46)] y1)) (len y0)) 68719476736) (some (bP (bP [(UInt8.ofNat 115),(UInt8.ofNat 110),(UInt8.ofNat 97),(UInt8.ofNat 112),(UInt8.ofNat 46)] y1) y0)) none) none)
def IK:aA:=mkSpec [.int .i64] [.str] true (fun x=>Pn x)
theorem Xr:bg PG 157 IK:=okN [(215,qM),(216,vS)] [] ⟨Bo,EL,trivial⟩ fun x=>by kernel_rfl
def UE (x0:Int) (x1:Int) (x2:Int):Option (Int):=some (wr .i64 (aF (wr .i64 (aF (wr .i64 (aF (wr .i64 (aF 32 (wr .i64 (eF x2 61)))) (wr .i64 (eF (wr .i64 (eF x0 x1)) 32)))) (wr .i64 (eF x0 8)))) 4))
def MW:aA:=mkSpec [.int .i64,.int .i64,.int .i64] [.int .i64] true (fun x=>UE x.1 x.2.1 x.2.2)
theorem aae:bg PG 217 MW:=okN [] [] trivial fun x=>by kernel_rfl
def AA (p0:Int) (p1:(List Int)) (v0:Int) (v1:Int):Option ((Int×Int) ⊕ ((Int))):=cnd (ilt v0 p0) (cnd (band (ile 0 v0) (ilt v0 (len p1))) (af (bM (wr .u32 (lK .u32 (wr .u32 (fV .u32 v1 (wr .u32 (ai p1 (itn v0))))) 15))) fun y0=>af (bM (wr .u32 (lK .u32 (wr .u32 (fV .u32 y0 (bI .u32 (wr .u32 (fV .u32 v1 (wr .u32 (ai p1 (itn v0))))) 4))) 15))) fun y1=>some (Sum.inl (wr .i64 (aF v0 1),wr .u32 (fV .u32 y1 (bI .u32 (wr .u32 (fV .u32 y0 (bI .u32 (wr .u32 (fV .u32 v1 (wr .u32 (ai p1 (itn v0))))) 4))) 4))))) none) (some (Sum.inr v1))
def Vg:dh:=LSh.spec ⟨73,[(11,.int .i64),(10,.ro .u8)],[],[],[(12,.int .i64),(5,.int .u32)],[],[]⟩ [⟨.exit 0,[(5,.int .u32)],[],[]⟩] (sP [(5,1),(7,1),(12,21)]) (fun p v=>AA p.1 p.2 v.1 v.2)
def NI (x0:Int) (x1:(List Int)):Option (Int):=af (bZ (fun v=>AA (len x1) x1 v.1 v.2) LF (0,wr .u32 (fV .u32 4294967295 x0))) fun y0=>some (wr .u32 (fV .u32 4294967295 y0))
def MX:aA:=mkSpec [.int .u32,.ro .u8] [.int .u32] true (fun x=>NI x.1 x.2)
theorem aaX:bg PG 259 MX:=okP [(290,Fv)] [] [(259,58,Vg)] ⟨Sz,trivial⟩ (fun K=>⟨iU K fun p v=>by kernel_rfl,trivial⟩) fun x=>by kernel_rfl
def Du (x0:(List Int)):Option (Int):=af (NI 0 x0) fun y0=>some y0
def CQ:aA:=mkSpec [.ro .u8] [.int .u32] true (fun x=>Du x)
theorem Om:bg PG 218 CQ:=okN [(259,MX)] [] ⟨aaX,trivial⟩ fun x=>by kernel_rfl
def BX (p0:Int) (p1:(List Int)) (v0:Int) (v1:Int):Option ((Int×Int) ⊕ ((Int))):=cnd (ilt v0 p0) (cnd (band (ile 0 v0) (ilt v0 (len p1))) (some (Sum.inl (wr .i64 (aF v0 1),wr .i64 (ior .i64 (wr .i64 (mF .i64 v1 8)) (wr .i64 (ai p1 (itn v0))))))) none) (some (Sum.inr v1))
def KG:dh:=LSh.spec ⟨76,[(14,.int .i64),(13,.ro .u8)],[],[],[(15,.int .i64),(5,.int .i64)],[],[]⟩ [⟨.exit 0,[(5,.int .i64)],[],[]⟩] (sP [(5,1),(7,1),(15,10)]) (fun p v=>BX p.1 p.2 v.1 v.2)
def dI (x0:iT) (x1:Int):Option (iT×(Int)):=cnd (band (ile 0 x1) (ile x1 (len x0.rest))) (af (bZ (fun v=>BX (len (bF x0.rest (itn x1))) (bF x0.rest (itn x1)) v.1 v.2) LF (0,0)) fun y0=>cnd (band (ile 0 x1) (ile x1 (len x0.rest))) (some (iT.mk (dF x0.rest (itn x1)) x0.odd,y0)) none) none
def pR:aA:=vC .reader [.int .i64] [.int .i64] (fun x=>dI x.1 x.2)
theorem yA:bg PG 262 pR:=okB [] [] [(262,58,KG)] trivial (fun K=>⟨iU K fun p v=>by kernel_rfl,trivial⟩) fun x=>by kernel_rfl
def iV (x0:iT):Option (iT×(Int)):=af (dI x0 1) fun y0=>some y0
def pU:aA:=vC .reader [] [.int .i64] (fun x=>iV x.1)
theorem yU:bg PG 260 pU:=okB [(262,pR)] [] [] ⟨yA,trivial⟩ (fun _=>trivial) fun x=>by kernel_rfl
def yJ (x0:iT):Option (iT×(Bool)):=af (iV x0) fun y0=>some (iT.mk y0.1.rest (bor y0.1.odd (ilt 1 y0.2)),ieq y0.2 1)
def uz:aA:=vC .reader [] [.bool] (fun x=>yJ x.1)
theorem Ea:bg PG 261 uz:=okB [(260,pU)] [] [] ⟨yU,trivial⟩ (fun _=>trivial) fun x=>by kernel_rfl
def D9 (x0:iT):Option (iT×(au)):=af (dI x0 8) fun y0=>af (iV y0.1) fun y1=>af (iV y1.1) fun y2=>af (iV y2.1) fun y3=>af (iV y3.1) fun y4=>af (dI y4.1 8) fun y5=>af (dI y5.1 8) fun y6=>af (dI y6.1 8) fun y7=>af (dI y7.1 8) fun y8=>af (dI y8.1 8) fun y9=>af (dI y9.1 8) fun y10=>af (yJ y10.1) fun y11=>some (y11.1,au.mk y0.2 y1.2 y2.2 y3.2 y5.2 y6.2 y7.2 y4.2 y8.2 y9.2 y10.2 y11.2)
def zF:aA:=vC .reader [] [.val .order] (fun x=>D9 x.1)
theorem MC:bg PG 263 zF:=okB [(262,pR),(260,pU),(261,uz)] [] [] ⟨yA,yU,Ea,trivial⟩ (fun _=>trivial) fun x=>by kernel_rfl
def OB (x0:ax) (x1:Int) (x2:Int):Option (Int):=cnd (bor (bor (bor (ilt x1 0) (ile x0.accounts x1)) (ilt x2 0)) (ile x0.symbols x2)) (some (-1)) (af (bK x0 x1 x2) fun y0=>some y0)
def I4:aA:=mkSpec [.val .state,.int .i64,.int .i64] [.int .i64] true (fun x=>OB x.1 x.2.1 x.2.2)
theorem WX:bg PG 264 I4:=okN [(183,jD)] [] ⟨ng,trivial⟩ fun x=>by kernel_rfl
def ED (p0:Int) (p1:(List Int)) (p2:Int) (v0:Int) (v1:Int) (v2:ax):Option ((Int×Int×ax) ⊕ ((Int×ax) ⊕ ((Int×ax)))):=cnd (ilt v0 p0) (cnd (band (ile 0 v0) (ilt v0 (len p1))) (cnd (ile 0 (wr .i64 (eF 8 v0))) (cnd (ak (ieq (ai p1 (itn v0)) (wr .u8 (bI .u32 p2 (wr .i64 (eF 8 v0)))))) (some (Sum.inr (Sum.inl (10,ax.mk 0 0 [] [] [] [] false 0 0 0)))) (some (Sum.inl (wr .i64 (aF v0 1),v1,v2)))) none) none) (some (Sum.inr (Sum.inr (v1,v2))))
def NE:dh:=LSh.spec ⟨136,[(77,.int .i64),(76,.ro .u8),(9,.int .u32)],[(2,.mp 8 0)],[],[(78,.int .i64),(3,.int .i64)],[(8,[.val .state])],[]⟩ [⟨.ret,[(3,.int .i64)],[(8,[.val .state])],[]⟩,⟨.exit 0,[(3,.int .i64)],[(8,[.val .state])],[]⟩] (sP [(3,1),(10,2),(78,14)]) (fun p v=>ED p.1 p.2.1 p.2.2 v.1 v.2.1 v.2.2)
def lD (p0:Int) (v0:Int) (v1:Int) (v2:Int) (v3:(List au)) (v4:(List aN)) (v5:(List fB)) (v6:(List Int)) (v7:Bool) (v8:Int) (v9:Int) (v10:Int) (v11:iT):Option ((Int×Int×Int×(List au)×(List aN)×(List fB)×(List Int)×Bool×Int×Int×Int×iT) ⊕ ((Int×Int×(List au)×(List aN)×(List fB)×(List Int)×Bool×Int×Int×Int×iT))):=cnd (ilt v0 p0) (af (D9 v11) fun y0=>cnd (band (ile 0 v0) (ilt v0 (len v3))) (some (Sum.inl (wr .i64 (aF v0 1),v1,v2,cO v3 (itn v0) y0.2,v4,v5,v6,v7,v8,v9,v10,y0.1))) none) (some (Sum.inr (v1,v2,v3,v4,v5,v6,v7,v8,v9,v10,v11)))
def tC:dh:=LSh.spec ⟨245,[(28,.int .i64)],[(3,.mp 1264 0),(0,.mp 1152 0)],[],[(29,.int .i64)],[(1264,[.int .i64,.int .i64,.buf .order,.buf .cell,.buf .expo,.buf .i64,.bool,.int .i64,.int .i64,.int .i64]),(1152,[.val .reader])],[]⟩ [⟨.exit 0,[],[(1264,[.int .i64,.int .i64,.buf .order,.buf .cell,.buf .expo,.buf .i64,.bool,.int .i64,.int .i64,.int .i64]),(1152,[.val .reader])],[]⟩] (sP [(4,1),(29,10)]) (fun p v=>lD p v.1 v.2.1 v.2.2.1 v.2.2.2.1 v.2.2.2.2.1 v.2.2.2.2.2.1 v.2.2.2.2.2.2.1 v.2.2.2.2.2.2.2.1 v.2.2.2.2.2.2.2.2.1 v.2.2.2.2.2.2.2.2.2.1 v.2.2.2.2.2.2.2.2.2.2.1 v.2.2.2.2.2.2.2.2.2.2.2)
def lg (p0:Int) (v0:Int) (v1:Int) (v2:Int) (v3:(List au)) (v4:(List aN)) (v5:(List fB)) (v6:(List Int)) (v7:Bool) (v8:Int) (v9:Int) (v10:Int) (v11:iT):Option ((Int×Int×Int×(List au)×(List aN)×(List fB)×(List Int)×Bool×Int×Int×Int×iT) ⊕ ((Int×Int×(List au)×(List aN)×(List fB)×(List Int)×Bool×Int×Int×Int×iT))):=cnd (ilt v0 p0) (af (dI v11 8) fun y0=>cnd (band (ile 0 v0) (ilt v0 (len v4))) (some (Sum.inl (wr .i64 (aF v0 1),v1,v2,v3,cO v4 (itn v0) (aN.mk y0.2 (ai v4 (itn v0)).buy (ai v4 (itn v0)).sell (ai v4 (itn v0)).opn),v5,v6,v7,v8,v9,v10,y0.1))) none) (some (Sum.inr (v1,v2,v3,v4,v5,v6,v7,v8,v9,v10,v11)))
def rQ:dh:=LSh.spec ⟨344,[(48,.int .i64)],[(3,.mp 1264 0),(0,.mp 1152 0)],[],[(49,.int .i64)],[(1264,[.int .i64,.int .i64,.buf .order,.buf .cell,.buf .expo,.buf .i64,.bool,.int .i64,.int .i64,.int .i64]),(1152,[.val .reader])],[]⟩ [⟨.exit 2,[],[(1264,[.int .i64,.int .i64,.buf .order,.buf .cell,.buf .expo,.buf .i64,.bool,.int .i64,.int .i64,.int .i64]),(1152,[.val .reader])],[]⟩] (sP [(5,1),(49,11)]) (fun p v=>lg p v.1 v.2.1 v.2.2.1 v.2.2.2.1 v.2.2.2.2.1 v.2.2.2.2.2.1 v.2.2.2.2.2.2.1 v.2.2.2.2.2.2.2.1 v.2.2.2.2.2.2.2.2.1 v.2.2.2.2.2.2.2.2.2.1 v.2.2.2.2.2.2.2.2.2.2.1 v.2.2.2.2.2.2.2.2.2.2.2)
def kZ (p0:Int) (v0:Int) (v1:Int) (v2:Int) (v3:(List au)) (v4:(List aN)) (v5:(List fB)) (v6:(List Int)) (v7:Bool) (v8:Int) (v9:Int) (v10:Int) (v11:iT):Option ((Int×Int×Int×(List au)×(List aN)×(List fB)×(List Int)×Bool×Int×Int×Int×iT) ⊕ ((Int×Int×(List au)×(List aN)×(List fB)×(List Int)×Bool×Int×Int×Int×iT))):=cnd (ilt v0 p0) (af (dI v11 8) fun y0=>af (dI y0.1 8) fun y1=>af (dI y1.1 8) fun y2=>cnd (ile (len (bP v5 [fB.mk y0.2 y1.2 y2.2])) 68719476736) (some (Sum.inl (wr .i64 (aF v0 1),v1,v2,v3,v4,bP v5 [fB.mk y0.2 y1.2 y2.2],v6,v7,v8,v9,v10,y2.1))) none) (some (Sum.inr (v1,v2,v3,v4,v5,v6,v7,v8,v9,v10,v11)))
def rU:dh:=LSh.spec ⟨435,[(62,.int .i64)],[(3,.mp 1264 0),(0,.mp 1152 0)],[],[(63,.int .i64)],[(1264,[.int .i64,.int .i64,.buf .order,.buf .cell,.buf .expo,.buf .i64,.bool,.int .i64,.int .i64,.int .i64]),(1152,[.val .reader])],[]⟩ [⟨.exit 4,[],[(1264,[.int .i64,.int .i64,.buf .order,.buf .cell,.buf .expo,.buf .i64,.bool,.int .i64,.int .i64,.int .i64]),(1152,[.val .reader])],[]⟩] (sP [(63,15)]) (fun p v=>kZ p v.1 v.2.1 v.2.2.1 v.2.2.2.1 v.2.2.2.2.1 v.2.2.2.2.2.1 v.2.2.2.2.2.2.1 v.2.2.2.2.2.2.2.1 v.2.2.2.2.2.2.2.2.1 v.2.2.2.2.2.2.2.2.2.1 v.2.2.2.2.2.2.2.2.2.2.1 v.2.2.2.2.2.2.2.2.2.2.2)
def kX (p0:Int) (v0:Int) (v1:Int) (v2:Int) (v3:(List au)) (v4:(List aN)) (v5:(List fB)) (v6:(List Int)) (v7:Bool) (v8:Int) (v9:Int) (v10:Int) (v11:iT):Option ((Int×Int×Int×(List au)×(List aN)×(List fB)×(List Int)×Bool×Int×Int×Int×iT) ⊕ ((Int×Int×(List au)×(List aN)×(List fB)×(List Int)×Bool×Int×Int×Int×iT))):=cnd (ilt v0 p0) (af (dI v11 8) fun y0=>cnd (ile (len (bP v6 [y0.2])) 68719476736) (some (Sum.inl (wr .i64 (aF v0 1),v1,v2,v3,v4,v5,bP v6 [y0.2],v7,v8,v9,v10,y0.1))) none) (some (Sum.inr (v1,v2,v3,v4,v5,v6,v7,v8,v9,v10,v11)))
def rV:dh:=LSh.spec ⟨525,[(79,.int .i64)],[(3,.mp 1264 0),(0,.mp 1152 0)],[],[(80,.int .i64)],[(1264,[.int .i64,.int .i64,.buf .order,.buf .cell,.buf .expo,.buf .i64,.bool,.int .i64,.int .i64,.int .i64]),(1152,[.val .reader])],[]⟩ [⟨.exit 6,[],[(1264,[.int .i64,.int .i64,.buf .order,.buf .cell,.buf .expo,.buf .i64,.bool,.int .i64,.int .i64,.int .i64]),(1152,[.val .reader])],[]⟩] (sP [(80,10)]) (fun p v=>kX p v.1 v.2.1 v.2.2.1 v.2.2.2.1 v.2.2.2.2.1 v.2.2.2.2.2.1 v.2.2.2.2.2.2.1 v.2.2.2.2.2.2.2.1 v.2.2.2.2.2.2.2.2.1 v.2.2.2.2.2.2.2.2.2.1 v.2.2.2.2.2.2.2.2.2.2.1 v.2.2.2.2.2.2.2.2.2.2.2)
def qG (p0:Int) (v0:Int) (v1:Bool) (v2:Int) (v3:Int) (v4:Unit) (v5:Unit) (v6:Unit) (v7:Unit) (v8:Bool) (v9:Int) (v10:Int) (v11:Int) (v12:(List au)) (v13:(List aN)) (v14:(List fB)) (v15:(List Int)):Option ((Int×Bool×Int×Int×Unit×Unit×Unit×Unit×Bool×Int×Int×Int×(List au)×(List aN)×(List fB)×(List Int)) ⊕ ((Bool×Int×Int×Unit×Unit×Unit×Unit×Bool×Int×Int×Int×(List au)×(List aN)×(List fB)×(List Int)) ⊕ ((Bool×Int×Int×Unit×Unit×Unit×Unit×Bool×Int×Int×Int×(List au)×(List aN)×(List fB)×(List Int))))):=cnd (ilt v0 p0) (cnd (band (ile 0 v0) (ilt v0 (len v12))) (af (OB (ax.mk v2 v3 v12 v13 v14 v15 v8 v9 v10 v11) (ai v12 (itn v0)).account (ai v12 (itn v0)).symbol) fun y0=>cnd (ieq y0 (-1)) (some (Sum.inr (Sum.inl (false,v2,v3,PUnit.unit,PUnit.unit,PUnit.unit,PUnit.unit,v8,v9,v10,v11,v12,v13,v14,v15)))) (cnd (band (ile 0 y0) (ilt y0 (len v13))) (af (lZ (ai v13 (itn y0)) (ai v12 (itn v0))) fun y1=>cnd (ak (ieq y1.2 0)) (some (Sum.inr (Sum.inl (false,v2,v3,PUnit.unit,PUnit.unit,PUnit.unit,PUnit.unit,v8,v9,v10,v11,v12,v13,v14,v15)))) (cnd (band (ile 0 y0) (ilt y0 (len v13))) (some (Sum.inl (wr .i64 (aF v0 1),v1,v2,v3,PUnit.unit,PUnit.unit,PUnit.unit,PUnit.unit,v8,v9,v10,v11,v12,cO v13 (itn y0) y1.1,v14,v15))) none)) none)) none) (some (Sum.inr (Sum.inr (v1,v2,v3,PUnit.unit,PUnit.unit,PUnit.unit,PUnit.unit,v8,v9,v10,v11,v12,v13,v14,v15))))
def zX:dh:=LSh.spec ⟨634,[(10,.int .i64)],[(9,.mf 4298),(1,.mp 4512 0)],[],[(11,.int .i64),(2,.bool)],[(4512,[.int .i64,.int .i64,.rf 4298,.rf 4299,.rf 4300,.rf 4301,.bool,.int .i64,.int .i64,.int .i64])],[(4298,.order),(4299,.cell),(4300,.expo),(4301,.i64)]⟩ [⟨.ret,[(2,.bool)],[(4512,[.int .i64,.int .i64,.rf 4298,.rf 4299,.rf 4300,.rf 4301,.bool,.int .i64,.int .i64,.int .i64])],[(4298,.order),(4299,.cell),(4300,.expo),(4301,.i64)]⟩,⟨.exit 0,[(2,.bool)],[(4512,[.int .i64,.int .i64,.rf 4298,.rf 4299,.rf 4300,.rf 4301,.bool,.int .i64,.int .i64,.int .i64])],[(4298,.order),(4299,.cell),(4300,.expo),(4301,.i64)]⟩] (sP [(2,1),(4,4),(11,30)]) (fun p v=>qG p v.1 v.2.1 v.2.2.1 v.2.2.2.1 v.2.2.2.2.1 v.2.2.2.2.2.1 v.2.2.2.2.2.2.1 v.2.2.2.2.2.2.2.1 v.2.2.2.2.2.2.2.2.1 v.2.2.2.2.2.2.2.2.2.1 v.2.2.2.2.2.2.2.2.2.2.1 v.2.2.2.2.2.2.2.2.2.2.2.1 v.2.2.2.2.2.2.2.2.2.2.2.2.1 v.2.2.2.2.2.2.2.2.2.2.2.2.2.1 v.2.2.2.2.2.2.2.2.2.2.2.2.2.2.1 v.2.2.2.2.2.2.2.2.2.2.2.2.2.2.2)
def O1 (x0:(List Int)):Option (ax×Int):=cnd (bor (ile 4 (len x0)) (ak (ak (ilt (len x0) 36)))) (cnd (bor (ilt (len x0) 36) (ak (seq (u2s (bF x0 4)) [(UInt8.ofNat 115),(UInt8.ofNat 110),(UInt8.ofNat 97),(UInt8.ofNat 102)]))) (some (ax.mk 0 0 [] [] [] [] false 0 0 0,2)) (cnd (ilt 4 (len x0)) (cnd (ilt 5 (len x0)) (cnd (ilt 7 (len x0)) (af (cnd (ak (bor (bor (bor (bor (ilt (wr .i64 (ai x0 4)) 1) (ilt 8 (wr .i64 (ai x0 4)))) (ilt (wr .i64 (ai x0 5)) 1)) (ilt 8 (wr .i64 (ai x0 5)))) (ilt 64 (wr .i64 (ai x0 7))))) (UE (wr .i64 (ai x0 4)) (wr .i64 (ai x0 5)) (wr .i64 (ai x0 7))) (some 0)) fun y0=>cnd (bor (bor (bor (bor (bor (ilt (wr .i64 (ai x0 4)) 1) (ilt 8 (wr .i64 (ai x0 4)))) (ilt (wr .i64 (ai x0 5)) 1)) (ilt 8 (wr .i64 (ai x0 5)))) (ilt 64 (wr .i64 (ai x0 7)))) (ak (ieq (len x0) y0))) (some (ax.mk 0 0 [] [] [] [] false 0 0 0,2)) (cnd (band (ile 0 (wr .i64 (aS (len x0) 4))) (ile (wr .i64 (aS (len x0) 4)) (len x0))) (cnd (band (ile 0 (wr .i64 (aS (len x0) 4))) (ile (wr .i64 (aS (len x0) 4)) (len x0))) (af (Du (bF x0 (itn (wr .i64 (aS (len x0) 4))))) fun y1=>af (bZ (fun v=>ED (len (dF x0 (itn (wr .i64 (aS (len x0) 4))))) (dF x0 (itn (wr .i64 (aS (len x0) 4)))) y1 v.1 v.2.1 v.2.2) LF (0,0,ax.mk 0 0 [] [] [] [] false 0 0 0)) fun y2=>fO y2 (fun y3=>some (y3.2,y3.1)) fun y3=>cnd (ile 4 (len (bF x0 (itn (wr .i64 (aS (len x0) 4)))))) (af (iV (iT.mk (dF (bF x0 (itn (wr .i64 (aS (len x0) 4)))) 4) false)) fun y4=>af (iV y4.1) fun y5=>af (yJ y5.1) fun y6=>af (iV y6.1) fun y7=>cnd (band (band (ile 0 y7.2) (ile y7.2 y7.2)) (ile y7.2 68719476736)) (af (dI y7.1 8) fun y8=>af (dI y8.1 8) fun y9=>af (dI y9.1 8) fun y10=>af (bZ (fun v=>lD (len (qQ au (itn y7.2))) v.1 v.2.1 v.2.2.1 v.2.2.2.1 v.2.2.2.2.1 v.2.2.2.2.2.1 v.2.2.2.2.2.2.1 v.2.2.2.2.2.2.2.1 v.2.2.2.2.2.2.2.2.1 v.2.2.2.2.2.2.2.2.2.1 v.2.2.2.2.2.2.2.2.2.2.1 v.2.2.2.2.2.2.2.2.2.2.2) LF (0,y4.2,y5.2,qQ au (itn y7.2),[],[],[],y6.2,y8.2,y9.2,y10.2,y10.1)) fun y11=>cnd (band (band (ile 0 (wr .i64 (eF y11.1 y11.2.1))) (ile (wr .i64 (eF y11.1 y11.2.1)) (wr .i64 (eF y11.1 y11.2.1)))) (ile (wr .i64 (eF y11.1 y11.2.1)) 68719476736)) (af (bZ (fun v=>lg (len (qQ aN (itn (wr .i64 (eF y11.1 y11.2.1))))) v.1 v.2.1 v.2.2.1 v.2.2.2.1 v.2.2.2.2.1 v.2.2.2.2.2.1 v.2.2.2.2.2.2.1 v.2.2.2.2.2.2.2.1 v.2.2.2.2.2.2.2.2.1 v.2.2.2.2.2.2.2.2.2.1 v.2.2.2.2.2.2.2.2.2.2.1 v.2.2.2.2.2.2.2.2.2.2.2) LF (0,y11.1,y11.2.1,y11.2.2.1,qQ aN (itn (wr .i64 (eF y11.1 y11.2.1))),y11.2.2.2.2)) fun y12=>af (bZ (fun v=>kZ (len y12.2.2.2.1) v.1 v.2.1 v.2.2.1 v.2.2.2.1 v.2.2.2.2.1 v.2.2.2.2.2.1 v.2.2.2.2.2.2.1 v.2.2.2.2.2.2.2.1 v.2.2.2.2.2.2.2.2.1 v.2.2.2.2.2.2.2.2.2.1 v.2.2.2.2.2.2.2.2.2.2.1 v.2.2.2.2.2.2.2.2.2.2.2) LF (0,y12)) fun y13=>af (bZ (fun v=>kX y13.1 v.1 v.2.1 v.2.2.1 v.2.2.2.1 v.2.2.2.2.1 v.2.2.2.2.2.1 v.2.2.2.2.2.2.1 v.2.2.2.2.2.2.2.1 v.2.2.2.2.2.2.2.2.1 v.2.2.2.2.2.2.2.2.2.1 v.2.2.2.2.2.2.2.2.2.2.1 v.2.2.2.2.2.2.2.2.2.2.2) LF (0,y13)) fun y14=>cnd (ak y14.2.2.2.2.2.2.2.2.2.2.odd) (af (bZ (fun v=>qG (len y14.2.2.1) v.1 v.2.1 v.2.2.1 v.2.2.2.1 v.2.2.2.2.1 v.2.2.2.2.2.1 v.2.2.2.2.2.2.1 v.2.2.2.2.2.2.2.1 v.2.2.2.2.2.2.2.2.1 v.2.2.2.2.2.2.2.2.2.1 v.2.2.2.2.2.2.2.2.2.2.1 v.2.2.2.2.2.2.2.2.2.2.2.1 v.2.2.2.2.2.2.2.2.2.2.2.2.1 v.2.2.2.2.2.2.2.2.2.2.2.2.2.1 v.2.2.2.2.2.2.2.2.2.2.2.2.2.2.1 v.2.2.2.2.2.2.2.2.2.2.2.2.2.2.2) LF (0,false,y14.1,y14.2.1,PUnit.unit,PUnit.unit,PUnit.unit,PUnit.unit,y14.2.2.2.2.2.2.1,y14.2.2.2.2.2.2.2.1,y14.2.2.2.2.2.2.2.2.1,y14.2.2.2.2.2.2.2.2.2.1,y14.2.2.1,y14.2.2.2.1,y14.2.2.2.2.1,y14.2.2.2.2.2.1)) fun y15=>fO y15 (fun y16=>af (cnd (ak (bor y14.2.2.2.2.2.2.2.2.2.2.odd (ak y16.1))) (iZ (ax.mk y14.1 y14.2.1 y16.2.2.2.2.2.2.2.2.2.2.2.1 y16.2.2.2.2.2.2.2.2.2.2.2.2.1 y16.2.2.2.2.2.2.2.2.2.2.2.2.2.1 y16.2.2.2.2.2.2.2.2.2.2.2.2.2.2 y14.2.2.2.2.2.2.1 y14.2.2.2.2.2.2.2.1 y14.2.2.2.2.2.2.2.2.1 y14.2.2.2.2.2.2.2.2.2.1)) (some false)) fun y17=>cnd (bor (bor y14.2.2.2.2.2.2.2.2.2.2.odd (ak y16.1)) (ak y17)) (some (ax.mk 0 0 [] [] [] [] false 0 0 0,2)) (some (ax.mk y14.1 y14.2.1 y16.2.2.2.2.2.2.2.2.2.2.2.1 y16.2.2.2.2.2.2.2.2.2.2.2.2.1 y16.2.2.2.2.2.2.2.2.2.2.2.2.2.1 y16.2.2.2.2.2.2.2.2.2.2.2.2.2.2 y14.2.2.2.2.2.2.1 y14.2.2.2.2.2.2.2.1 y14.2.2.2.2.2.2.2.2.1 y14.2.2.2.2.2.2.2.2.2.1,0))) fun y16=>af (cnd (ak (bor y14.2.2.2.2.2.2.2.2.2.2.odd false)) (iZ (ax.mk y14.1 y14.2.1 y16.2.2.2.2.2.2.2.2.2.2.2.1 y16.2.2.2.2.2.2.2.2.2.2.2.2.1 y16.2.2.2.2.2.2.2.2.2.2.2.2.2.1 y16.2.2.2.2.2.2.2.2.2.2.2.2.2.2 y14.2.2.2.2.2.2.1 y14.2.2.2.2.2.2.2.1 y14.2.2.2.2.2.2.2.2.1 y14.2.2.2.2.2.2.2.2.2.1)) (some false)) fun y18=>cnd (bor (bor y14.2.2.2.2.2.2.2.2.2.2.odd false) (ak y18)) (some (ax.mk 0 0 [] [] [] [] false 0 0 0,2)) (some (ax.mk y14.1 y14.2.1 y16.2.2.2.2.2.2.2.2.2.2.2.1 y16.2.2.2.2.2.2.2.2.2.2.2.2.1 y16.2.2.2.2.2.2.2.2.2.2.2.2.2.1 y16.2.2.2.2.2.2.2.2.2.2.2.2.2.2 y14.2.2.2.2.2.2.1 y14.2.2.2.2.2.2.2.1 y14.2.2.2.2.2.2.2.2.1 y14.2.2.2.2.2.2.2.2.2.1,0))) (af (cnd (ak (bor y14.2.2.2.2.2.2.2.2.2.2.odd true)) (iZ (ax.mk y14.1 y14.2.1 y14.2.2.1 y14.2.2.2.1 y14.2.2.2.2.1 y14.2.2.2.2.2.1 y14.2.2.2.2.2.2.1 y14.2.2.2.2.2.2.2.1 y14.2.2.2.2.2.2.2.2.1 y14.2.2.2.2.2.2.2.2.2.1)) (some false)) fun y19=>cnd (bor (bor y14.2.2.2.2.2.2.2.2.2.2.odd true) (ak y19)) (some (ax.mk 0 0 [] [] [] [] false 0 0 0,2)) (some (ax.mk y14.1 y14.2.1 y14.2.2.1 y14.2.2.2.1 y14.2.2.2.2.1 y14.2.2.2.2.2.1 y14.2.2.2.2.2.2.1 y14.2.2.2.2.2.2.2.1 y14.2.2.2.2.2.2.2.2.1 y14.2.2.2.2.2.2.2.2.2.1,0)))) none) none) none) none) none)) none) none) none)) none
def Jb:aA:=mkSpec [.ro .u8] [.val .state,.int .i64] false (fun x=>O1 x)
theorem WR:bg PG 158 Jb:=okP [(217,MW),(218,CQ),(260,pU),(261,uz),(262,pR),(263,zF),(264,I4),(184,zo),(28,kQ)] [219,220] [(158,1018,NE),(678605447387,250,tC),(678605447387,1018,rQ),(678605447387,2042,rU),(678605447387,4090,rV),(678607143132,26,zX)] ⟨aae,Om,yU,Ea,yA,MC,WX,IA,o8,trivial⟩ (fun K=>⟨iU K fun p v=>by kernel_rfl,iU K fun p v=>by kernel_rfl,iU K fun p v=>by kernel_rfl,iU K fun p v=>by kernel_rfl,iU K fun p v=>by kernel_rfl,iU K fun p v=>by kernel_rfl,trivial⟩) fun x=>by kernel_rfl
def OI (x0:ay):Option (ax×Int×Int):=af (Si x0) fun y0=>cnd (ak (ieq y0.2 0)) (some (ax.mk 0 0 [] [] [] [] false 0 0 0,0,y0.2)) (af (Pn y0.1.gen) fun y1=>af (xM x0 y1) fun y2=>cnd (ieq y2.2 0) (af (O1 y2.1) fun y3=>cnd (band (ieq y3.2 0) (ieq y3.1.lsn y0.1.lsn)) (some (y3.1,y0.1.gen,0)) (some (ax.mk 0 0 [] [] [] [] false 0 0 0,0,2))) (some (ax.mk 0 0 [] [] [] [] false 0 0 0,0,2)))
def IU:aA:=mkSpec [.val .disk] [.val .state,.int .i64,.int .i64] false (fun x=>OI x)
theorem WQ:bg PG 91 IU:=okN [(155,JS),(157,IK),(156,yB),(158,Jb)] [] ⟨Zi,Xr,Hr,WR,trivial⟩ fun x=>by kernel_rfl
def Cj (x0:jZ) (x1:ax):Option (jZ×(Unit)):=af (OI x0.g.disk) fun y0=>cnd (ieq y0.2.2 0) (some (jZ.mk (aT.mk x0.g.disk x0.g.wal y0.1 x0.g.outbox x0.g.feed y0.2.1 x0.g.up) x0.e,PUnit.unit)) (cnd (ieq y0.2.2 7) (some (jZ.mk (aT.mk x0.g.disk x0.g.wal x1 x0.g.outbox x0.g.feed x0.g.gen x0.g.up) x0.e,PUnit.unit)) (some (jZ.mk x0.g y0.2.2,PUnit.unit)))
def yu:aA:=vC .sleeper [.val .state] [] (fun x=>Cj x.1 x.2)
theorem KA:bg PG 46 yu:=okB [(91,IU)] [4095] [] ⟨WQ,trivial⟩ (fun _=>trivial) fun x=>by kernel_rfl
def iL (x0:Int):Option ((List UInt8)):=cnd (bor (ilt x0 1) (ilt 1000000000 x0)) (some []) (af (kL x0 10) fun y0=>af (mg [(UInt8.ofNat 48)] (wr .i64 (aS 10 (len y0)))) fun y1=>cnd (ile (aF 4 (len y1)) 68719476736) (cnd (ile (aF (len (bP [(UInt8.ofNat 108),(UInt8.ofNat 111),(UInt8.ofNat 103),(UInt8.ofNat 46)] y1)) (len y0)) 68719476736) (some (bP (bP [(UInt8.ofNat 108),(UInt8.ofNat 111),(UInt8.ofNat 103),(UInt8.ofNat 46)] y1) y0)) none) none)
def pz:aA:=mkSpec [.int .i64] [.str] true (fun x=>iL x)
theorem xC:bg PG 173 pz:=okN [(215,qM),(216,vS)] [] ⟨Bo,EL,trivial⟩ fun x=>by kernel_rfl
def CY (x0:(List UInt8)):Option (Int):=some (vP [108,111,103,46] x0)
def BO:aA:=mkSpec [.str] [.int .i64] true (fun x=>CY x)
def OT:Go.Shelf.Ren:=⟨fun | 103=>267 | 210=>292 | 206=>287 | n=>n,fun | 9=>9 | 4=>4 | 24=>334 | 3=>3 | n=>n,fun | n=>n⟩
theorem NU:Go.Proofs.Lays.n103 PG OT where
 mixed:=by kernel_rfl
 f103:=by kernel_rfl
 f206:=by kernel_rfl
 f210:=by kernel_rfl
 t3:=by kernel_rfl
 a3:=fun w=>by kernel_rfl
 z3:=fun w=>by kernel_rfl
 v3:=fun w=>by kernel_rfl
 t4:=by kernel_rfl
 a4:=fun w=>by kernel_rfl
 z4:=fun w=>by kernel_rfl
 v4:=fun w=>by kernel_rfl
 t9:=by kernel_rfl
 a9:=fun w=>by kernel_rfl
 z9:=fun w=>by kernel_rfl
 v9:=fun w=>by kernel_rfl
 t24:=by kernel_rfl
 a24:=fun w=>by kernel_rfl
 z24:=fun w=>by kernel_rfl
 v24:=fun w=>by kernel_rfl
theorem QH (s:ByteArray) (pos:Nat) (h:pos<s.size):1<=(Utf8.decode s pos).2:=by
 by_cases ha:(s[pos]'h).toNat<128
 ·rw[decode_ascii s pos h ha];exact Nat.le_refl _
 ·exact(decode_high s pos h (by omega)).2
theorem Ti (w:World) (s:ByteArray) (pos:Nat):Go.RowKit.Below w.heap.size w (w.iter s pos):=
 ⟨rfl,rfl,rfl,by show _<=(w.heap.push _).size;rw[Array.size_push];omega,fun k hk=>by show(w.heap.push _)[k]? =_;rw[Array.getElem?_push,if_neg (by omega)]⟩
theorem Pz (n:Int):inI (Go.RowKit.wrap64 n):=by unfold inI Go.RowKit.wrap64;omega
theorem PN {B B':Nat} {a b:World} (h:Go.RowKit.Below B a b) (hB:B'<=B):Go.RowKit.Below B' a b:=⟨h.os,h.tape,h.output,h.size,fun k hk=>h.block k (Nat.lt_of_lt_of_le hk hB)⟩
def Ah (l:List UInt8):Prop:=l.length=10/\∀c∈l,WG c
theorem Vk (n c:Nat) (h:n<10000000000) (h1:48<=c) (h2:c<=57):Go.RowKit.wrap64 (Go.RowKit.wrap64 ((n:Int)*10)+Go.RowKit.wrap64 (Go.RowKit.wrap32 ((c:Int) - 48)))=((n*10+(c - 48):Nat):Int):=by
 have e1:Go.RowKit.wrap32 ((c:Int) - 48)=(c:Int) - 48:=by unfold Go.RowKit.wrap32;omega
 have e2:Go.RowKit.wrap64 ((n:Int)*10)=(n:Int)*10:=by unfold Go.RowKit.wrap64;omega
 have e3:Go.RowKit.wrap64 ((c:Int) - 48)=(c:Int) - 48:=by unfold Go.RowKit.wrap64;omega
 have e4:Go.RowKit.wrap64 ((n:Int)*10+((c:Int) - 48))=(n:Int)*10+((c:Int) - 48):=by unfold Go.RowKit.wrap64;omega
 rw[e1,e2,e3,e4];omega
theorem Q7 {l:List UInt8} {pos:Nat} (ht:Ah l) (h:pos<=10):xX (l.take pos)<10000000000:=by
 have hb2:=Ue (l.take pos).length (l.take pos) rfl (fun c hc=>ht.2 c (List.mem_of_mem_take hc));have hb3:(10:Nat)^(l.take pos).length<=10^10:=Nat.pow_le_pow_right (by decide) (by rw[List.length_take];omega);have hbig:(10:Nat)^10=10000000000:=by decide
 omega
theorem TB (l:List UInt8) (pos:Nat) (h:pos<(⟨l.toArray⟩:ByteArray).size) (h2:pos<l.length):(⟨l.toArray⟩:ByteArray)[pos]'h=l[pos]'h2:=by
 show l.toArray[pos]'(by rw[List.size_toArray];exact h2)=_;rw[List.getElem_toArray]
theorem QG {l:List UInt8} {r:ByteArray} {pos:Nat} {acc:Int} (hr:(⟨l.toArray⟩:ByteArray)=r) (hsz:r.size=l.length) (ht:Ah l) (hp:pos<r.size) (hv:pos<=10/\acc=((xX (l.take pos):Nat):Int)):
 pos+(Utf8.decode r pos).2<=10/\Go.RowKit.wrap64 (Go.RowKit.wrap64 (acc*10)+Go.RowKit.wrap64 (Go.RowKit.wrap32 (((Utf8.decode r pos).1:Int) - 48)))=((xX (l.take (pos+(Utf8.decode r pos).2)):Nat):Int):=by
 obtain⟨h10,rfl⟩:=hv
 have hp10:pos<10:=by rw[hsz,ht.1]at hp;exact hp
 have hpl:pos<l.length:=by rw[ht.1];exact hp10
 have hb:r[pos]'hp=l[pos]'hpl:=by subst hr;exact TB l pos hp hpl
 have hd:=wJ.1 (ht.2 _ (List.getElem_mem hpl))
 have hdec:=decode_ascii r pos hp (by rw[hb];omega)
 rw[hb]at hdec
 have d1:(Utf8.decode r pos).1=(l[pos]'hpl).toNat:=by rw[hdec]
 have d2:(Utf8.decode r pos).2=1:=by rw[hdec]
 rw[d1,d2]
 refine⟨hp10,?_⟩
 rw[List.take_succ_eq_append_getElem hpl,JK]
 exact Vk _ _ (Q7 ht h10) hd.1 hd.2
theorem Oa (s r:ByteArray) (w:World)
 (h1:Calls PG 267 #[.string s,.string ⟨#[108,111,103,46]⟩] w fun e w'=>e= .returned (.tuple #[.string r,.bool false])/\w'=w):
 Calls PG 224 #[.string s] w fun e w'=>e= .returned (.int .i64 0)/\Go.RowKit.Below w.heap.size w w':=by
 go_enter Go.Proofs.Tryz.func224,Go.Proofs.Tryz.ntmps224
 go_wp2_with (go_at_call 267;refine h1.mono ?_;rintro e W1 ⟨rfl,rfl⟩)
 all_goals (go_ret;exact⟨rfl,Go.RowKit.Below.refl _ _⟩)
set_option maxHeartbeats 1000000 in
set_option maxRecDepth 1000000 in
theorem TA (s:ByteArray) (l:List UInt8) (nm:Int->List UInt8) (w:World)
 (h1:Calls PG 267 #[.string s,.string ⟨#[108,111,103,46]⟩] w fun e w'=>e= .returned (.tuple #[.string ⟨l.toArray⟩,.bool true])/\w'=w)
 (h3:∀v,inI v->∀w1,Go.RowKit.Below w.heap.size w w1->Calls PG 173 #[.int .i64 v] w1 fun e w'=>e= .returned (.string ⟨(nm v).toArray⟩)/\Go.RowKit.Below w1.heap.size w1 w'):
 Calls PG 224 #[.string s] w fun e w'=>(∃v,inI v/\(Ah l->v=((xX l:Nat):Int))/\e= .returned (.int .i64 (if nm v=s.toList then v else 0)))/\Go.RowKit.Below w.heap.size w w':=by
 generalize hr:(⟨l.toArray⟩:ByteArray)=r at h1
 have hsz:r.size=l.length:=by rw[<-hr];show l.toArray.size=_;rw[List.size_toArray]
 go_enter Go.Proofs.Tryz.func224,Go.Proofs.Tryz.ntmps224
 go_wp2_with (go_at_call 267;refine h1.mono ?_;rintro e W1 ⟨rfl,rfl⟩)
 go_loopw [5] (fun n w'=>∃(pos:Nat) (acc:Int),w'=W1.iter r pos/\n= .int .i64 acc/\inI acc/\(Ah l->pos<=10/\acc=((xX (l.take pos):Nat):Int))) (fun _ w'=>r.size - w'.iterPos W1.heap.size)
 case atStart=>exact⟨0,0,rfl,rfl,by unfold inI;omega,fun _=>⟨by omega,rfl⟩⟩
 case round=>
  obtain⟨pos,acc,rfl,rfl,hacc,hv⟩:=hrel
  by_cases hp:pos<r.size
  ·have hnx:∀ty,(Instr.next (.pointer (some ⟨W1.heap.size,0,none⟩)) true ty).run PG (W1.iter r pos)=_:=fun ty=>run_next_any W1 r pos ty hp
   go_wp2
   have hwd:=QH r pos hp
   go_roundw
   case rel=>
    refine⟨pos+(Utf8.decode r pos).2,_,rfl,rfl,?_,?_⟩
    ·exact Pz _
    ·intro ht
     exact QG hr hsz ht hp (hv ht)
   case measure=>
    simp
    omega
  ·have hnx:∀ty,(Instr.next (.pointer (some ⟨W1.heap.size,0,none⟩)) true ty).run PG (W1.iter r pos)=_:=fun ty=>run_next_end W1 r pos ty hp
   have hbl:Go.RowKit.Below W1.heap.size W1 (W1.iter r pos):=Ti W1 r pos
   go_wp2_with (go_at_call 173;refine(h3 acc hacc _ hbl).mono ?_;rintro e W3 ⟨rfl,hb3⟩)
   all_goals go_ret
   all_goals refine⟨⟨acc,hacc,fun ht=> ?_,?_⟩,hbl.trans (PN hb3 hbl.size)⟩
   all_goals first
    |(have h10:=(hv ht).1
      have hp:¬pos<10:=by rw[hsz,ht.1]at hp;exact hp
      have:=(hv ht).2
      rw[show pos=10 by omega,List.take_of_length_le (by rw[ht.1];exact Nat.le_refl _)]at this
      exact this)
    |skip
   ·rename_i hne
    have hne:nm acc≠s.toList:=by intro e;rw[e]at hne;simp at hne
    rw[if_neg hne];rfl
   ·rename_i heq
    have heq:nm acc=s.toList:=by simpa using heq
    rw[if_pos heq];rfl
theorem Z4 (v:Int) (hv:inI v):iL v=some (Ce [108,111,103,46] v):=by
 unfold inI at hv;unfold iL Ce kL mg;by_cases h:v<1\/1000000000<v
 ·rw[if_pos h,show bor (ilt v 1) (ilt 1000000000 v)=true by rw[Y8,Ir,Ir];exact h];rfl
 ·have e1:bor (ilt v 1) (ilt 1000000000 v)=false:=by
   rw[Bool.eq_false_iff];intro g;rw[Y8,Ir,Ir]at g;exact h g
  have hl:(fmt10 v).length<=10:=by
   unfold fmt10;rw[if_neg (by omega)]
   exact G5 20 _ 10 (by have:(10:Nat)^10=10000000000:=by decide
                        omega) (by decide)
  have e2:wr .i64 (aS 10 (len (fmt10 v)))=((10 - (fmt10 v).length:Nat):Int):=by
   unfold aS len wr IntKind.wrap;simp [IntKind.bits,IntKind.signed];omega
  have e3:aew v 10=some (fmt10 v):=by
   unfold aew;rw[show band (ieq 10 10) (band (ile (-9223372036854775808) v) (ile v 9223372036854775807))=true by rw[oJ,oJ,jW,jW];exact⟨rfl,hv⟩];rfl
  have e4:aek [UInt8.ofNat 48] ((10 - (fmt10 v).length:Nat):Int)=some (List.replicate (10 - (fmt10 v).length) 48):=by
   unfold aek
   rw[show band (ile 0 ((10 - (fmt10 v).length:Nat):Int)) (band (ile ((10 - (fmt10 v).length:Nat):Int) 9223372036854775807) (ile (eF (len [UInt8.ofNat 48]) ((10 - (fmt10 v).length:Nat):Int)) 140737488355328))=true by
    rw[oJ,oJ,jW,jW,jW];simp only[eF,len,List.length_singleton];omega]
   simp only[cnd,itn,Int.toNat_natCast];rw[show UInt8.ofNat 48=48 from rfl,WC]
  rw[if_neg h,e1,e3];simp only[cnd,af,Option.bind_some,e2,e4];rw[show ile (aF 4 (len (List.replicate (10 - (fmt10 v).length) (48:UInt8)))) 68719476736=true by rw[jW];simp only[aF,len,List.length_replicate];omega];simp only;rw[show ile (aF (len (bP [UInt8.ofNat 108,UInt8.ofNat 111,UInt8.ofNat 103,UInt8.ofNat 46] (List.replicate (10 - (fmt10 v).length) (48:UInt8)))) (len (fmt10 v))) 68719476736=true by rw[jW];simp only[aF,len,bP,List.length_append,List.length_replicate,List.length_cons,List.length_nil];omega]
  rfl
theorem aal (pre s:List UInt8) (hp:s.take pre.length=pre) (hpre:pre≠[]) (v:Int) (hv:Ah (s.drop pre.length)->v=((xX (s.drop pre.length):Nat):Int)):
 (if Ce pre v=s then v else 0)=vP pre s:=by
 have hs:s=pre++s.drop pre.length:=by
  conv=>lhs;rw[<-List.take_append_drop pre.length s,hp]
 have hsne:s≠[]:=fun e=>by rw[e]at hp;simp at hp;exact hpre hp
 have key:Ce pre v=s->Ah (s.drop pre.length)/\1<=v/\v<=1000000000:=fun hn=>by
  have hr:¬(v<1\/1000000000<v):=fun g=>by unfold Ce at hn;rw[if_pos g]at hn;exact hsne hn.symm
  have hd:s.drop pre.length=List.replicate (10 - (fmt10 v).length) 48++fmt10 v:=by
   unfold Ce at hn;rw[if_neg hr,List.append_assoc]at hn
   rw[<-hn,List.drop_left]
  have hl:(fmt10 v).length<=10:=by
   unfold fmt10;rw[if_neg (by omega)]
   exact G5 20 _ 10 (by have:(10:Nat)^10=10000000000:=by decide
                        omega) (by decide)
  refine⟨⟨by rw[hd,List.length_append,List.length_replicate];omega,fun c hc=> ?_⟩,by omega,by omega⟩
  rw[hd]at hc
  exact agz v hr c hc
 by_cases hc:s.take pre.length=pre/\(s.drop pre.length).length=10/\(∀c∈s.drop pre.length,48<=c/\c<=57)/\xX (s.drop pre.length)<=1000000000
 ·have e:vP pre s=((xX (s.drop pre.length):Nat):Int):=if_pos hc
  have hvd:=hv ⟨hc.2.1,hc.2.2.1⟩
  rw[e]
  by_cases h0:xX (s.drop pre.length)=0
  ·rw[h0]at hvd ⊢
   rw[if_neg (fun g=>by have:=(key g).2.1;rw[hvd]at this;revert this;decide)];rfl
  ·have hn:Ce pre v=s:=by
    rw[hvd]
    unfold Ce
    rw[if_neg (by omega)]
    have hf:fmt10 ((xX (s.drop pre.length):Nat):Int)=F6 20 (xX (s.drop pre.length)):=by
     unfold fmt10;rw[if_neg (by omega)];rfl
    rw[hf,List.append_assoc,agr hc.2.1 hc.2.2.1 (Ue 10 _ hc.2.1 hc.2.2.1)];exact hs.symm
   rw[if_pos hn,hvd]
 ·have e:vP pre s=0:=if_neg hc
  rw[e]
  by_cases hn:Ce pre v=s
  ·exfalso
   obtain⟨k1,k2,k3⟩:=key hn
   have:=hv k1
   exact hc ⟨hp,k1.1,k1.2,by omega⟩
  ·rw[if_neg hn]
theorem ML:bg PG 224 BO:=by
 refine Zd (xs:=[.str]) (rs:=[.int .i64]) rfl rfl (Ul Aj (by kernel_rfl)) fun(x:List UInt8) (y:Int) w hrun hg=> ?_;have hy:y=vP [108,111,103,46] x:=(Option.some.inj hrun).symm;subst hy;show Calls PG 224 #[.string ⟨x.toArray⟩] w fun e w'=>e= .returned (.int .i64 (vP [108,111,103,46] x))/\Go.RowKit.Below w.heap.size w w';have hcut:=Go.Proofs.Any.strings_CutPrefix NU ⟨x.toArray⟩ ⟨#[108,111,103,46]⟩ w;change Calls PG 267 #[.string ⟨x.toArray⟩,.string ⟨#[108,111,103,46]⟩] w (fun e w'=>e= .returned (.tuple #[.string ⟨(Go.Lib.trimPrefix x [108,111,103,46]).toArray⟩,.bool (Go.Lib.hasPrefix x [108,111,103,46])])/\w'=w)at hcut;cases hpf:Go.Lib.hasPrefix x [108,111,103,46]with
 |false=>
  rw[hpf]at hcut;have hz:vP [108,111,103,46] x=0:=if_neg fun g=>by
   have:Go.Lib.hasPrefix x [108,111,103,46]=true:=by
    unfold Go.Lib.hasPrefix;rw[List.isPrefixOf_iff_prefix];exact⟨x.drop 4,by conv=>rhs;rw[<-List.take_append_drop 4 x,show x.take 4=_ from g.1]⟩
   rw[hpf]at this;cases this
  rw[hz];exact Oa _ _ w hcut
 |true=>
  rw[hpf]at hcut;have htk:x.take 4=[108,111,103,46]:=by
   unfold Go.Lib.hasPrefix at hpf;rw[List.isPrefixOf_iff_prefix]at hpf;obtain⟨r,rfl⟩:=hpf
   rfl
  rw[show Go.Lib.trimPrefix x [108,111,103,46]=x.drop 4 by unfold Go.Lib.trimPrefix;rw[if_pos hpf];rfl]at hcut;have h3:∀v,inI v->∀w1,Go.RowKit.Below w.heap.size w w1->Calls PG 173 #[.int .i64 v] w1 fun e w'=>e= .returned (.string ⟨(Ce [108,111,103,46] v).toArray⟩)/\Go.RowKit.Below w1.heap.size w1 w':=fun v hv w1 hb=>
   bg.calls (xs:=[.int .i64]) (r:= .str) Aj (by kernel_rfl) xC rfl rfl v (Ce [108,111,103,46] v) (Z4 v hv) w1 (hg.mono (fun b h=>Nat.lt_of_lt_of_le h hb.size) (fun b h=>hb.block b h))
  refine(TA ⟨x.toArray⟩ (x.drop 4) (Ce [108,111,103,46]) w hcut h3).mono fun e w' ⟨⟨v,h1,h2,he⟩,hb⟩=>⟨?_,hb⟩;rw[ByteArray.toList_eq]at he;rw[he,<-aal [108,111,103,46] x htk (by simp) v h2]
def mW (p0:Int) (p1:(List aI)) (v0:Int) (v1:(List Int)):Option ((Int×(List Int)) ⊕ (((List Int)))):=cnd (ilt v0 p0) (cnd (band (ile 0 v0) (ilt v0 (len p1))) (af (CY (ai p1 (itn v0)).name) fun y0=>cnd (ilt 0 y0) (cnd (ile (len (bP v1 [y0])) 68719476736) (some (Sum.inl (wr .i64 (aF v0 1),bP v1 [y0]))) none) (some (Sum.inl (wr .i64 (aF v0 1),v1)))) none) (some (Sum.inr v1))
def MG:dh:=LSh.spec ⟨75,[(12,.int .i64),(11,.ro .file)],[],[],[(13,.int .i64),(3,.buf .i64)],[],[]⟩ [⟨.exit 0,[(3,.buf .i64)],[],[]⟩] (sP [(3,1),(5,2),(13,14)]) (fun p v=>mW p.1 p.2 v.1 v.2)
def mV (x0:ay):Option ((List Int)):=af (lm x0) fun y0=>cnd (ak y0) (some []) (af (bZ (fun v=>mW (len x0.files) x0.files v.1 v.2) LF (0,[])) fun y1=>some y1)
def sV:aA:=mkSpec [.val .disk] [.buf .i64] true (fun x=>mV x)
theorem BM:bg PG 163 sV:=okP [(44,kN),(224,BO)] [] [(163,122,MG)] ⟨oV,ML,trivial⟩ (fun K=>⟨iU K fun p v=>by kernel_rfl,trivial⟩) fun x=>by kernel_rfl
def yj (p0:Int) (p1:(List Int)) (v0:Int) (v1:Int):Option ((Int×Int) ⊕ ((Int))):=cnd (ilt v0 p0) (cnd (band (ile 0 v0) (ilt v0 (len p1))) (some (Sum.inl (wr .i64 (aF v0 1),wr .u64 (ior .u64 (wr .u64 (mF .u64 v1 8)) (wr .u64 (ai p1 (itn v0))))))) none) (some (Sum.inr v1))
def Gm:dh:=LSh.spec ⟨75,[(13,.int .i64),(12,.ro .u8)],[],[],[(14,.int .i64),(5,.int .u64)],[],[]⟩ [⟨.exit 0,[(5,.int .u64)],[],[]⟩] (sP [(5,1),(7,1),(14,10)]) (fun p v=>yj p.1 p.2 v.1 v.2)
def dY (x0:MB) (x1:Int):Option (MB×(Int)):=cnd (band (ile 0 x1) (ile x1 (len x0.all))) (af (bZ (fun v=>yj (len (bF x0.all (itn x1))) (bF x0.all (itn x1)) v.1 v.2) LF (0,0)) fun y0=>cnd (band (ile 0 x1) (ile x1 (len x0.all))) (some (MB.mk (dF x0.all (itn x1)),y0)) none) none
def yY:aA:=vC .bts [.int .i64] [.int .u64] (fun x=>dY x.1 x.2)
theorem JR:bg PG 291 yY:=okB [] [] [(291,58,Gm)] trivial (fun K=>⟨iU K fun p v=>by kernel_rfl,trivial⟩) fun x=>by kernel_rfl
def o9 (x0:bD):Option (Bool):=some (band (band (band (band (band (ile 1 x0.epoch) (ile x0.epoch 1000000)) (ile 1 x0.lsn)) (ile x0.lsn 1000000000)) (ile 1 x0.kind)) (ile x0.kind 6))
def qi:aA:=mkSpec [.val .frame] [.bool] true (fun x=>o9 x)
theorem yK:bg PG 233 qi:=okN [] [] trivial fun x=>by kernel_rfl
def CG (p0:Int) (p1:(List Int)) (p2:Int) (v0:Int) (v1:Bool):Option ((Int×Bool) ⊕ ((Bool))):=cnd (ilt v0 p0) (cnd (band (ile 0 v0) (ilt v0 (len p1))) (cnd (bor (ile 0 (wr .i64 (eF 8 v0))) (ak v1)) (some (Sum.inl (wr .i64 (aF v0 1),band v1 (ieq (ai p1 (itn v0)) (wr .u8 (bI .u32 p2 (wr .i64 (eF 8 v0)))))))) none) none) (some (Sum.inr v1))
def J8:dh:=LSh.spec ⟨85,[(24,.int .i64),(23,.ro .u8),(6,.int .u32)],[],[],[(25,.int .i64),(7,.bool)],[],[]⟩ [⟨.exit 0,[(7,.bool)],[],[]⟩] (sP [(7,3),(25,16)]) (fun p v=>CG p.1 p.2.1 p.2.2 v.1 v.2)
def KY (x0:(List Int)):Option (bD×Int):=cnd (ak (ieq (len x0) 72)) (some (bD.mk 0 0 0 0 0 0 0 0 0,2)) (cnd (ile 68 (len x0)) (af (dY (MB.mk (bF x0 68)) 4) fun y0=>cnd (ile 68 (len x0)) (af (Du (bF x0 68)) fun y1=>cnd (ile 68 (len x0)) (af (bZ (fun v=>CG (len (dF x0 68)) (dF x0 68) y1 v.1 v.2) LF (0,true)) fun y2=>cnd (ak (ieq y0.2 72)) (some (bD.mk 0 0 0 0 0 0 0 0 0,2)) (cnd (ak y2) (some (bD.mk 0 0 0 0 0 0 0 0 0,10)) (af (dY y0.1 4) fun y3=>af (dY y3.1 8) fun y4=>af (dY y4.1 4) fun y5=>af (dY y5.1 8) fun y6=>af (dY y6.1 8) fun y7=>af (dY y7.1 8) fun y8=>af (dY y8.1 8) fun y9=>af (dY y9.1 8) fun y10=>af (dY y10.1 8) fun y11=>af (o9 (bD.mk (wr .i64 y3.2) (wr .i64 y4.2) (wr .i64 y5.2) (wr .i64 y6.2) (wr .i64 y7.2) (wr .i64 y8.2) (wr .i64 y9.2) (wr .i64 y10.2) (wr .i64 y11.2))) fun y12=>cnd (ak y12) (some (bD.mk 0 0 0 0 0 0 0 0 0,2)) (some (bD.mk (wr .i64 y3.2) (wr .i64 y4.2) (wr .i64 y5.2) (wr .i64 y6.2) (wr .i64 y7.2) (wr .i64 y8.2) (wr .i64 y9.2) (wr .i64 y10.2) (wr .i64 y11.2),0))))) none) none) none)
def Fe:aA:=mkSpec [.ro .u8] [.val .frame,.int .i64] true (fun x=>KY x)
theorem Tm:bg PG 265 Fe:=okP [(291,yY),(218,CQ),(233,qi)] [] [(265,1018,J8)] ⟨JR,Om,yK,trivial⟩ (fun K=>⟨iU K fun p v=>by kernel_rfl,trivial⟩) fun x=>by kernel_rfl
def IC (p0:(List Int)) (v0:Int) (v1:(List bD)) (v2:MI):Option ((Int×(List bD)×MI) ⊕ ((Int×(List bD)×MI))):=cnd (ile 72 (wr .i64 (aS (len p0) v0))) (cnd (band (band (ile 0 v0) (ile v0 (wr .i64 (aF v0 72)))) (ile (wr .i64 (aF v0 72)) (len p0))) (af (KY (bF (dF p0 (itn v0)) (itn (aS (wr .i64 (aF v0 72)) v0)))) fun y0=>cnd (ak (ak (ieq y0.2 0))) (af (o9 y0.1) fun y1=>cnd (bor (bor (ak y1) (ak (ieq y0.1.lsn v2.lsn))) (ilt y0.1.epoch v2.epoch)) (cnd (bor (ak (ieq y0.2 0)) true) (some (Sum.inr (v0,v1,v2))) (cnd (ile (len (bP v1 [y0.1])) 68719476736) (some (Sum.inl (wr .i64 (aF v0 72),bP v1 [y0.1],v2))) none)) (cnd (bor (ak (ieq y0.2 0)) false) (some (Sum.inr (v0,v1,MI.mk (wr .i64 (aF y0.1.lsn 1)) y0.1.epoch))) (cnd (ile (len (bP v1 [y0.1])) 68719476736) (some (Sum.inl (wr .i64 (aF v0 72),bP v1 [y0.1],MI.mk (wr .i64 (aF y0.1.lsn 1)) y0.1.epoch))) none))) (cnd (bor (ak (ieq y0.2 0)) true) (some (Sum.inr (v0,v1,v2))) (cnd (ile (len (bP v1 [y0.1])) 68719476736) (some (Sum.inl (wr .i64 (aF v0 72),bP v1 [y0.1],v2))) none))) none) (some (Sum.inr (v0,v1,v2)))
def QY:dh:=LSh.spec ⟨76,[(0,.ro .u8)],[(8,.mp 64 0)],[],[(10,.int .i64),(9,.buf .frame)],[(64,[.val .next])],[]⟩ [⟨.exit 0,[(10,.int .i64),(9,.buf .frame)],[(64,[.val .next])],[]⟩] (sP [(9,4),(16,27)]) (fun p v=>IC p v.1 v.2.1 v.2.2)
def SE (x0:(List Int)) (x1:Int) (x2:Int):Option ((List bD)×Int):=af (bZ (fun v=>IC x0 v.1 v.2.1 v.2.2) LF (0,[],MI.mk x1 x2)) fun y0=>some (y0.2.1,y0.1)
def JX:aA:=mkSpec [.ro .u8,.int .i64,.int .i64] [.buf .frame,.int .i64] true (fun x=>SE x.1 x.2.1 x.2.2)
theorem ZI:bg PG 221 JX:=okP [(265,Fe),(233,qi)] [175] [(221,124,QY)] ⟨Tm,yK,trivial⟩ (fun K=>⟨iU K fun p v=>by kernel_rfl,trivial⟩) fun x=>by kernel_rfl
def Jr (p0:Int) (p1:(List Int)) (p2:(List Int)) (p3:ay) (v0:Int) (v1:Int) (v2:Int) (v3:(List qZ)) (v4:(List Int)) (v5:(List qZ)):Option ((Int×Int×Int×(List qZ)×(List Int)×(List qZ)) ⊕ (((List Int)×(List qZ)) ⊕ (((List qZ)×(List Int)×(List qZ))))):=cnd (ilt v0 p0) (cnd (band (ile 0 v0) (ilt v0 (len p1))) (cnd (bor (band (ile 0 (wr .i64 (aS v0 1))) (ilt (wr .i64 (aS v0 1)) (len v3))) (ak (band (ilt 0 v0) (ak (ak (ieq (ai p1 (itn v0)) v2)))))) (cnd (band (ilt 0 v0) (bor (ak (ieq (ai p1 (itn v0)) v2)) (ai v3 (itn (wr .i64 (aS v0 1)))).more)) (cnd (band (ile 0 v0) (ile v0 (len p2))) (some (Sum.inr (Sum.inl (dF p2 (itn v0),v3)))) none) (af (iL (ai p1 (itn v0))) fun y0=>af (xM p3 y0) fun y1=>cnd (band (ile 0 (iq (len y1.1) 576)) (ile (iq (len y1.1) 576) (len y1.1))) (af (SE (bF (dF y1.1 0) (itn (iq (len y1.1) 576))) (ai p1 (itn v0)) v1) fun y2=>cnd (ile (len (bP v3 [qZ.mk (ai p1 (itn v0)) y2.1 (ilt y2.2 (len y1.1))])) 68719476736) (cnd (ieq (len y2.1) 0) (cnd (band (ile 0 (wr .i64 (aF v0 1))) (ile (wr .i64 (aF v0 1)) (len p2))) (some (Sum.inr (Sum.inl (dF p2 (itn (wr .i64 (aF v0 1))),bP v3 [qZ.mk (ai p1 (itn v0)) y2.1 (ilt y2.2 (len y1.1))])))) none) (cnd (band (ile 0 (wr .i64 (aS (len y2.1) 1))) (ilt (wr .i64 (aS (len y2.1) 1)) (len y2.1))) (some (Sum.inl (wr .i64 (aF v0 1),(ai y2.1 (itn (wr .i64 (aS (len y2.1) 1)))).epoch,wr .i64 (aF (ai p1 (itn v0)) (len y2.1)),bP v3 [qZ.mk (ai p1 (itn v0)) y2.1 (ilt y2.2 (len y1.1))],v4,v5))) none)) none) none)) none) none) (some (Sum.inr (Sum.inr (v3,v4,v5))))
def Tz:dh:=LSh.spec ⟨77,[(17,.int .i64),(16,.ro .i64),(7,.ro .i64)],[(1,.mp 8 0)],[(8,[.val .disk])],[(18,.int .i64),(6,.int .i64),(5,.int .i64),(4,.buf .piece),(3,.buf .i64),(2,.buf .piece)],[],[]⟩ [⟨.ret,[(3,.ro .i64),(2,.buf .piece)],[],[]⟩,⟨.exit 0,[(4,.buf .piece),(3,.buf .i64),(2,.buf .piece)],[],[]⟩] (sP [(2,5),(8,6),(18,72)]) (fun p v=>Jr p.1 p.2.1 p.2.2.1 p.2.2.2 v.1 v.2.1 v.2.2.1 v.2.2.2.1 v.2.2.2.2.1 v.2.2.2.2.2)
def Vl (x0:ay):Option ((List qZ)×(List Int)):=af (mV x0) fun y0=>af (bZ (fun v=>Jr (len y0) y0 y0 x0 v.1 v.2.1 v.2.2.1 v.2.2.2.1 v.2.2.2.2.1 v.2.2.2.2.2) LF (0,1,0,[],[],[])) fun y1=>fO y1 (fun y2=>some (y2.2,y2.1)) fun y2=>some (y2.1,[])
def MQ:aA:=mkSpec [.val .disk] [.ro .piece,.ro .i64] false (fun x=>Vl x)
theorem abk:bg PG 159 MQ:=okP [(163,sV),(173,pz),(156,yB),(221,JX)] [] [(159,250,Tz)] ⟨BM,xC,Hr,ZI,trivial⟩ (fun K=>⟨iU K fun p v=>by kernel_rfl,trivial⟩) fun x=>by kernel_rfl
def IL (p0:Int) (p1:(List qZ)) (v0:Int) (v1:(List bD)):Option ((Int×(List bD)) ⊕ (((List bD)))):=cnd (ilt v0 p0) (cnd (band (ile 0 v0) (ilt v0 (len p1))) (cnd (ile (len (bP v1 (ai p1 (itn v0)).frames)) 68719476736) (some (Sum.inl (wr .i64 (aF v0 1),bP v1 (ai p1 (itn v0)).frames))) none) none) (some (Sum.inr v1))
def Rt:dh:=LSh.spec ⟨70,[(7,.int .i64),(6,.ro .piece)],[],[],[(8,.int .i64),(3,.buf .frame)],[],[]⟩ [⟨.exit 0,[(3,.buf .frame)],[],[]⟩] (sP [(3,1),(5,1),(8,9)]) (fun p v=>IL p.1 p.2 v.1 v.2)
def PU (x0:(List qZ)):Option ((List bD)):=af (bZ (fun v=>IL (len x0) x0 v.1 v.2) LF (0,[])) fun y0=>some y0
def II:aA:=mkSpec [.ro .piece] [.buf .frame] true (fun x=>PU x)
theorem WZ:bg PG 160 II:=okP [] [] [(160,58,Rt)] trivial (fun K=>⟨iU K fun p v=>by kernel_rfl,trivial⟩) fun x=>by kernel_rfl
def aP (x0:(List aI)):Option ((List aI)):=zM x0
def iG:aA:=mkSpec [.ro .file] [.buf .file] false (fun x=>aP x)
theorem lq:bg PG 65 iG:=abn fun x=>by kernel_rfl
def fK (x0:(List aI)) (x1:Int) (x2:Int):Option ((List aI)):=cnd (band (band (band (ile 0 x1) (ile x1 x2)) (ile x2 (len x0))) (band (ile x2 (len x0)) (ile (len x0) (len x0)))) (cnd (ieq x1 x2) (some x0) (cnd (band (ile 0 x1) (ile x1 (len x0))) (cnd (band (ile 0 x2) (ile x2 (len x0))) (cnd (ile (aF (nti (itn x1)) (len (bF (dF x0 (itn x2)) (itn (aS (len x0) x2))))) (len x0)) (cnd (band (band (ile 0 (nti (nad (itn x1) (itn (len (bF (dF x0 (itn x2)) (itn (aS (len x0) x2)))))))) (ile (nti (nad (itn x1) (itn (len (bF (dF x0 (itn x2)) (itn (aS (len x0) x2))))))) (len x0))) (ile (len x0) (aS (len (mY x0 (itn x1) (bF (dF x0 (itn x2)) (itn (aS (len x0) x2))))) 0))) (some (bF (dF (mY (mY x0 (itn x1) (bF (dF x0 (itn x2)) (itn (aS (len x0) x2)))) (nad 0 (itn (nti (nad (itn x1) (itn (len (bF (dF x0 (itn x2)) (itn (aS (len x0) x2))))))))) (qQ aI (itn (aS (len x0) (nti (nad (itn x1) (itn (len (bF (dF x0 (itn x2)) (itn (aS (len x0) x2))))))))))) 0) (nad (itn x1) (itn (len (bF (dF x0 (itn x2)) (itn (aS (len x0) x2)))))))) none) none) none) none)) none
def sJ:aA:=mkSpec [.buf .file,.int .i64,.int .i64] [.ro .file] false (fun x=>fK x.1 x.2.1 x.2.2)
theorem Eu:bg PG 234 sJ:=okN [] [] trivial fun x=>by kernel_rfl
def pq (x0:ay) (x1:(List UInt8)):Option (ay×Int):=af (nT x0 [x1]) fun y0=>cnd (ak (ieq y0 0)) (cnd (ak (ieq y0 0)) (some (x0,y0)) (cnd (ieq x0.fuse 0) (some (ay.mk x0.files x0.room x0.fuse true,9)) (cnd (ieq x0.fuse (-1)) (af (aP x0.files) fun y1=>af (fK y1 0 1) fun y2=>some (ay.mk y2 x0.room x0.fuse x0.down,0)) (af (aP x0.files) fun y3=>af (fK y3 0 1) fun y4=>some (ay.mk y4 x0.room (wr .i64 (aS x0.fuse 1)) x0.down,0))))) (af (qE x0 x1) fun y5=>cnd (ak y5.2) (some (x0,7)) (cnd (ieq x0.fuse 0) (some (ay.mk x0.files x0.room x0.fuse true,9)) (cnd (ieq x0.fuse (-1)) (af (aP x0.files) fun y6=>af (fK y6 y5.1 (wr .i64 (aF y5.1 1))) fun y7=>some (ay.mk y7 x0.room x0.fuse x0.down,0)) (af (aP x0.files) fun y8=>af (fK y8 y5.1 (wr .i64 (aF y5.1 1))) fun y9=>some (ay.mk y9 x0.room (wr .i64 (aS x0.fuse 1)) x0.down,0)))))
def uU:aA:=mkSpec [.val .disk,.str] [.val .disk,.int .i64] false (fun x=>pq x.1 x.2)
theorem JM:bg PG 177 uU:=okN [(227,nP),(228,qm),(65,iG),(234,sJ)] [214,232] ⟨vY,zu,lq,Eu,trivial⟩ fun x=>by kernel_rfl
section
open Go.RowKit Go.Shelf Go.Proofs
set_option maxHeartbeats 2000000
set_option maxRecDepth 100000
attribute [local go_sem] Oper.semAt_some
def uZ (zs:List Int) (k:Nat):Int:=zs[zs.length - 1 - k]?.getD 0
theorem acg (zs:List Int) {k:Nat} (hk:k<zs.length):zs.reverse[k]? =some (uZ zs k):=by
 unfold uZ;rw[List.getElem?_reverse hk,List.getElem?_eq_getElem (by omega)];rfl
def zK (Bs b:Nat) (W W':World):Prop:=W'.heap[Bs]? =W.heap[Bs]? /\W'.heap[b]? =W.heap[b]?
theorem RU {Bs b:Nat} {A B C:World} (h:zK Bs b A B) (k:zK Bs b B C):zK Bs b A C:=⟨k.1.trans h.1,k.2.trans h.2⟩
theorem Nq {W W':World} {b o:Nat} (h:W'.heap[b]? =W.heap[b]?):W'.cell? ⟨b,o,none⟩=W.cell? ⟨b,o,none⟩:=World.cell?_of_block h
def VB (b:Nat) (W:World) (sv:Value) (zs:List Int):Prop:=
 (∃a cap,sv= .slice a 0 cap/\zs=[])\/∃off cap,sv= .slice (some ⟨b,off,none⟩) zs.length cap/\b<W.heap.size/\∀j,j<zs.length->W.cell? ⟨b,off+j,none⟩=some (.int .i64 (zs[j]?.getD 0))
theorem YU (l Bs b off len cap:Nat) (zs:List Int) (hlen:zs.length=len) (hreach:len<=9223372036854775807) (n:Nat) (hn:1<=n) (J:Nat->World->Prop)
 (hY:∀k W,J k W->k<len->YieldAt Fence.wide (n - 1) Tryz.prog l #[.int .i64 ((len - 1 - k:Nat):Int),.int .i64 (uZ zs k)] W fun e W'=>e= .returned (.bool true)/\J (k+1) W'/\zK Bs b W W')
 (W:World) (hBs:W.cell? ⟨Bs,0,none⟩=some (.slice (some ⟨b,off,none⟩) len cap)) (hc:∀j,j<len->W.cell? ⟨b,off+j,none⟩=some (.int .i64 (zs[j]?.getD 0))) (h0:J 0 W):
 CallsIn Fence.wide n Tryz.prog 266 #[.func (.yield l) #[] #[],.pointer (some ⟨Bs,0,none⟩)] W fun e W'=>(∃v,e= .returned v)/\J len W':=by
 refine callsIn_of_wp Tryz.func266 rfl trivial ?_ rfl
 simp only[Tryz.ntmps266,List.size_toArray,List.length_cons,List.length_nil,Nat.reduceAdd,Nat.reduceSub,Array.replicate_succ,Array.replicate_zero,List.push_toArray,List.append_toArray,List.nil_append,List.cons_append]
 gi_wp2
 gi_loopw [3] (fun i wr=>∃k:Nat,k<=len/\i= .int .i64 ((len:Int) - 1 - k)/\J k wr/\zK Bs b W wr)
  (fun i _=>(intOf i+1).toNat)
 case atStart=>exact⟨0,Nat.zero_le _,by simp,h0,rfl,rfl⟩
 case round=>
  obtain⟨k,hk,rfl,hJs,hnx⟩:=hrel
  have hBr:wr.cell? ⟨Bs,0,none⟩=some (.slice (some ⟨b,off,none⟩) len cap):=(Nq hnx.1).trans hBs
  by_cases hlt:k<len
  ·have hcx:wr.cell? ⟨b,off+(len - 1 - k),none⟩=some (.int .i64 (uZ zs k)):=(Nq hnx.2).trans ((hc _ (by omega)).trans (by unfold uZ;rw[hlen]))
   obtain⟨fn,tmps,assign,body,hy,hR⟩:=hY k wr hJs hlt
   obtain⟨m,hm⟩:∃m,m+1+k=len:=⟨len - 1 - k,by omega⟩
   have hmi:(len:Int) - 1 - k=m:=by omega
   have hm2:len - 1 - k=m:=by omega
   rw[hm2]at hcx hy
   rw[hmi]
   have hmlt:m<len:=by omega
   clear hmi hm2
   generalize uZ zs k=x at hcx hy
   gi_wp2
   refine hR.mono ?_
   rintro e W3 ⟨rfl,hJ3,hk3⟩
   gi_wp2
   go_roundw
   case rel=>exact⟨k+1,by omega,by congr 1;omega,hJ3,RU hnx hk3⟩
   case measure=>first | (simp [intOf];done) | (simp [intOf];omega)
  ·obtain rfl:k=len:=by omega
   rw[show(k:Int) - 1 - k= -1 by omega]
   gi_wp2
   go_end0
   exact⟨⟨_,rfl⟩,hJs⟩
theorem Xe (l Bs:Nat) (a:Option Addr) (cap n:Nat) (J:Nat->World->Prop) (W:World) (hBs:W.cell? ⟨Bs,0,none⟩=some (.slice a 0 cap)) (h0:J 0 W):
 CallsIn Fence.wide n Tryz.prog 266 #[.func (.yield l) #[] #[],.pointer (some ⟨Bs,0,none⟩)] W fun e W'=>(∃v,e= .returned v)/\J 0 W':=by
 refine callsIn_of_wp Tryz.func266 rfl trivial ?_ rfl
 simp only[Tryz.ntmps266,List.size_toArray,List.length_cons,List.length_nil,Nat.reduceAdd,Nat.reduceSub,Array.replicate_succ,Array.replicate_zero,List.push_toArray,List.append_toArray,List.nil_append,List.cons_append]
 gi_wp2
 gi_loopw [3] (fun i wr=>i= .int .i64 (-1)/\J 0 wr) (fun _ _=>0)
 case atStart=>exact⟨rfl,h0⟩
 case round=>
  obtain⟨rfl,hJs⟩:=hrel
  gi_wp2
  go_end0
  exact⟨⟨_,rfl⟩,hJs⟩
theorem Xa (Bs b:Nat) (sv:Value) (zs:List Int) (hreach:zs.length<=9223372036854775807) (w:World) (hBs:Bs<w.heap.size) (hc:w.cell? ⟨Bs,0,none⟩=some sv) (hI:VB b w sv zs) (n:Nat) (hn:1<=n)
 (l:Nat) (J:Nat->World->Prop) (W:World) (hW:Below w.heap.size w W) (hY:∀k W1,J k W1->k<zs.length->YieldAt Fence.wide (n - 1) Tryz.prog l #[.int .i64 ((zs.length - 1 - k:Nat):Int),.int .i64 (uZ zs k)] W1 fun e W'=>e= .returned (.bool true)/\J (k+1) W'/\zK Bs b W1 W')
 (h0:J 0 W):CallsIn Fence.wide n Tryz.prog 266 (#[.func (.yield l) #[] #[]]++ #[.pointer (some ⟨Bs,0,none⟩)]) W fun e W'=>(∃v,e= .returned v)/\J zs.length W':=by
 have hc':=(hW.cell (p:=⟨Bs,0,none⟩) hBs).trans hc
 rcases hI with ⟨a,cap,rfl,rfl⟩ | ⟨off,cap,rfl,hb,hcs⟩
 ·exact Xe l Bs a cap n J W hc' h0
 ·exact YU l Bs b off zs.length cap zs rfl hreach n hn J hY W hc' (fun j hj=>(hW.cell (p:=⟨b,off+j,none⟩) hb).trans (hcs j hj)) h0
theorem ZW (n:Nat) (a:Option Addr) (len cap:Nat) (w:World):
 CallsIn Fence.wide n Tryz.prog 223 #[.slice a len cap] w fun e w'=>e= .returned (.func (.func 266) #[] #[.pointer (some ⟨w.heap.size,0,none⟩)])/\w'=w.alloc (.cells #[.slice a len cap] 31):=by
 refine callsIn_of_wp Tryz.func223 rfl trivial ?_ rfl
 simp only[Tryz.ntmps223,List.size_toArray,List.length_cons,List.length_nil,Nat.reduceAdd,Nat.reduceSub,Array.replicate_succ,Array.replicate_zero,List.push_toArray,List.append_toArray,List.nil_append,List.cons_append]
 gi_wp2
 go_ret
 exact⟨rfl,rfl⟩
def jh (z:pV) (n:Int):Option pV:=cnd (ieq z.e 0) (af (iL n) fun s=>af (pq z.d s) fun r=>some ⟨r.1,r.2⟩) (some z)
def jc (x0:pV) (x1:List Int):Option (pV×(Unit)):=cnd (ile (len x1) 9223372036854775807) (af (Cm jh x0 x1.reverse) fun z=>some (z,PUnit.unit)) none
noncomputable def BR:Cx:={ P:=PG,ety:=ety,fn:=look [(173,pz),(177,uU)],inl:=ah5 [4095],lp:=J3 [] }
noncomputable def VZ:Code:=match Go.Proofs.Tryz.f162.body with
 |some (.seq _ (.seq _ (.block _ (.rangeFunc _ _ _ b))))=>b
 |_=> .skip
def agf (z:pV) (n:Int):FS:=⟨[(2,.mp 8 0),(5,.int .i64 n)],[(0,some ⟨false,.raw (cells .mender z)⟩),(8,some ⟨false,.raw [.mp 0 0]⟩)],2⟩
def aap:Ex->FS->Option pV:=fun e A=>match e with
 |.normal=>(match A.hp 8 with
  |some ⟨false,.raw [.mp 0 0]⟩=>VF .mender A.hp 0
  |_=>none)
 |_=>none
theorem abg (z:pV) (n:Int):FP BR 900 162 1 VZ (agf z n) aap=jh z n:=by kernel_rfl
theorem abf:rok VZ=true:=by kernel_rfl
theorem Z8:Xi PG (162%4096)=31:=by kernel_rfl
def qW:aA:=vC .mender [.ro .i64] [] (fun x=>jc x.1 x.2)
theorem agy:CxR BR:=Aj.cx (fun _=>rfl) (l:=[(173,pz),(177,uU)]) ⟨xC,JM,trivial⟩
theorem Bj:bg PG 162 qW:=by
 refine Sj (Ul Aj (by kernel_rfl)) (e:= .mender) (xs:=[.ro .i64]) (rs:=[]) ?_ rfl rfl;intro M1 w vals z zs0 y hrun hrel hH hF hU hU0 m1fs hn hseen;obtain⟨zs,hzs⟩:∃zs:List Int,zs=zs0:=⟨zs0,rfl⟩;subst hzs;have hrun:jc z zs=some y:=hrun;unfold jc at hrun;cases hle:ile (len zs) 9223372036854775807 with
 |false=>rw[hle]at hrun;cases hrun
 |true=>
 have hlen:zs.length<=9223372036854775807:=by
  have h:decide ((zs.length:Int)<=9223372036854775807)=true:=hle;have:=of_decide_eq_true h;omega
 rw[hle]at hrun;have hrun:(af (Cm jh z zs.reverse) fun z=>some (z,PUnit.unit))=some y:=hrun;cases hy:Cm jh z zs.reverse with
 |none=>rw[hy]at hrun;cases hrun
 |some q=>
 rw[hy]at hrun;have hrun:y=(q,PUnit.unit):=(Option.some.inj hrun).symm;subst hrun;obtain⟨v0,v1,rfl⟩:∃v0 v1,vals= #[v0,v1]:=by
  have h2:vals.size=2:=hn;refine⟨vals[0],vals[1],?_⟩;apply Array.ext
  ·simp [h2]
  ·intro i h1 h3;have:i=0\/i=1:=by simp at h3;omega
   rcases this with rfl | rfl<;>simp
 have s0:aC M1 (.mp 0 0) v0:=hseen 0 (by simp) (by simp);have s1:aC M1 (.ro .i64 zs false) v1:=hseen 1 (by simp [lM]) (by simp);obtain⟨b,sa,sn,sc,hv1,hI,hbF⟩:∃b sa sn sc,v1= .slice sa sn sc/\VB b w v1 zs/\(zs=[]\/M1.F b):=by
  clear hseen hrun hy hle hlen hn;generalize hx:AV.ro .i64 zs false=x at s1;cases s1 with
  |roE e ex a cap hx'=>cases hx;exact⟨0,_,_,_,rfl,.inl ⟨_,_,rfl,rfl⟩,.inl rfl⟩
  |ro e l ex b o cap hl hx' hF' cs hc hs=>
   cases hx;refine⟨b,_,_,_,rfl,.inr ⟨o,cap,rfl,hF _ hF',fun j hj=> ?_⟩,.inr hF'⟩;have h1:=hc j 0 hj (by decide);have h2:=hs j 0 hj (by decide);have h3:cs j 0= .int .i64 zs[j]:=by
    have h2:aC M1 (.int .i64 zs[j]) (cs j 0):=h2;generalize cs j 0=u at h2;cases h2;rfl
   rw[h3]at h1;rw[List.getElem?_eq_getElem hj];show w.cell? ⟨b,o+j,none⟩=some (.int .i64 zs[j]);rw[hH]at h1;have h1:cellAt w.heap b (o+j)=some (.int .i64 zs[j]):=by simpa [esz] using h1
   unfold cellAt at h1;unfold World.cell?;split at h1
   ·rename_i c t fr hcc;simp only[hcc];exact h1
   ·cases h1
  |_=>cases hx
 subst hv1;have w1b:Below (w.heap.size+1) (w.alloc (.cells #[v0] 222)) ((w.alloc (.cells #[v0] 222)).alloc (.cells #[.slice sa sn sc] 31)):=(Below.refl _ _).alloc (by simp) _;obtain⟨b0,rfl,l0,nF0,st⟩:=afk hrel hH hF hU hU0 m1fs s0 w1b;refine(callsIn_wide (n:=10)).1 ?_;refine callsIn_of_wp_marks Tryz.func162 rfl trivial ?_ rfl;simp only[Tryz.ntmps162,List.size_toArray,List.length_cons,List.length_nil,Nat.reduceAdd,Nat.reduceSub,Array.replicate_succ,Array.replicate_zero,List.push_toArray,List.append_toArray,List.nil_append,List.cons_append]
 gi_wp2_with (refine⟨trivial,?_⟩;gi_at_call 223;refine(ZW _ _ _ _ _).mono ?_;rintro e w' ⟨rfl,rfl⟩)
 have nfl:¬M1.F b0:=nF0;obtain⟨w1,hw1⟩:∃w1,(w.alloc (.cells #[.pointer (some ⟨b0,0,none⟩)] 222)).alloc (.cells #[.slice sa sn sc] 31)=w1:=⟨_,rfl⟩;have hsz:w1.heap.size=w.heap.size+2:=by rw[<-hw1];simp
 have hBs:w1.cell? ⟨w.heap.size+1,0,none⟩=some (.slice sa sn sc):=by
  rw[<-hw1];have:=World.alloc_heap_new (w.alloc (.cells #[.pointer (some ⟨b0,0,none⟩)] 222)) (.cells #[.slice sa sn sc] 31);rw[World.size_alloc]at this;unfold World.cell?;simp only[this];rfl
 have hI1:VB b w1 (.slice sa sn sc) zs:=by
  have hb1:Below w.heap.size w w1:=by rw[<-hw1];exact((Below.refl _ w).alloc (Nat.le_refl _) _).alloc (by simp) _
  rcases hI with h | ⟨o,c,h1,h2,h3⟩
  ·exact .inl h
  ·exact .inr ⟨o,c,h1,Nat.lt_of_lt_of_le h2 hb1.size,fun j hj=>(hb1.cell (p:=⟨b,o+j,none⟩) h2).trans (h3 j hj)⟩
 rw[hw1]at st ⊢;have hF1:∀b,M1.F b->b<w1.heap.size:=fun b hb=>by have:=hF b hb;omega
 have l0':b0<w1.heap.size:=by omega
 have lx':w.heap.size<w1.heap.size:=by omega
 refine aeg (n:=10) (gf:=266) (lb:= #[.pointer (some ⟨w.heap.size+1,0,none⟩)]) rfl (enters_of Tryz.func266 (by kernel_rfl) rfl) (N:=zs.length)
  (encs:=fun k=> #[.int .i64 ((zs.length - 1 - k:Nat):Int),.int .i64 (uZ zs k)]) (fun _=>rfl) (fun W W'=>zs=[]\/zK (w.heap.size+1) b W W') (fun h k=> ?kt) (fun W l o hl=> ?kb)
  (fun k W=>∃q,Cm jh z (zs.reverse.take k)=some q/\Stp (vw M1.F w1.heap.size b0 w.heap.size .mender z w1) w1 (vw M1.F w1.heap.size b0 w.heap.size .mender q W) W)
  (fun k W W' row hi hg hr=> ?grow) ⟨z,rfl,Stp.refl st.hrel rfl⟩ (fun l J W hW hY h0=> ?iter)
  (fun k=>{ tmps:= #[.pointer (some ⟨b0,0,none⟩),.slice sa sn sc,.pointer (some ⟨w.heap.size,0,none⟩),undef,undef,.int .i64 (uZ zs k),.slice sa sn sc,.func (.func 266) #[] #[.pointer (some ⟨w.heap.size+1,0,none⟩)],.int .i64 ((zs.length - 1 - k:Nat):Int),.int .i64 (uZ zs k),undef,undef,undef,undef,undef,undef,undef,undef,undef,undef,undef,undef,undef,undef,undef,undef,undef,undef,undef,undef,undef],defers:=[] }) ?assign (fun l k W hi hk=> ?body) (fun D W hD hi hK=> ?done)
 case kt=>
  rcases h with h | h
  ·exact .inl h
  ·rcases k with k | k
   ·exact .inl k
   ·exact .inr (RU h k)
 case kb=>
  rcases hI with ⟨_,_,_,h⟩ | ⟨_,_,_,h,_⟩
  ·exact .inl h
  ·exact .inr ⟨World.putObj_heap_other (by omega),World.putObj_heap_other (by omega)⟩
 case grow=>
  obtain⟨q,hq,s⟩:=hi;exact⟨q,hq,ZO hF1 l0' lx' s hg hr⟩
 case iter=>
  refine Xa (w.heap.size+1) b (.slice sa sn sc) zs hlen w1 (by omega) hBs hI1 _ (by omega) l J W hW (fun k W1 hj hk=> ?_) h0;obtain⟨fn,tm,asg,bd,g1,g2⟩:=hY k W1 hj hk;refine⟨fn,tm,asg,bd,g1,g2.mono fun e W' ⟨h1,h2,h3⟩=>⟨h1,h2,?_⟩⟩;rcases h3 with h3 | h3
  ·rw[h3]at hk;simp at hk
  ·exact h3
 case assign=>
  intro l k W K hK
  gi_wp2
  exact hK
 case body=>
  obtain⟨q',hq',s⟩:=hi;have hk2:k<zs.reverse.length:=by simpa using hk
  obtain⟨q2,hq2⟩:=abS _ z zs.reverse hy (k+1);have hr:jh q' (uZ zs k)=some q2:=by
   rw[List.take_succ_eq_append_getElem hk2,abP,hq']at hq2;have e:=acg zs hk;rw[List.getElem?_eq_getElem hk2]at e;rw[Option.some.inj e]at hq2;exact hq2
  rw[<-abg]at hr;have hvr:=s.hrel;have hB:Cc ⟨vw M1.F w1.heap.size b0 w.heap.size .mender q' W,W,2,31,fun _=>False,fun _=>undef⟩:=⟨hvr,rfl,s.Fsz fun b hb=> ?fsz,fun id h=>by show id<16;rcases h with h | h<;>omega⟩
  case fsz=>
   rcases hb with h | ⟨_,c,t,fr,hc⟩
   ·exact hF1 b h
   ·exact(Array.getElem?_eq_some_iff.1 hc).1
  refine PD agy l 8 900 q2 162 1 VZ _ _ abf hr _ hB (Nat.le_of_eq Z8) (KP (l:=[]) rfl trivial _ _) (Keeps.no _ fun _ h=>h) (vw M1.F w1.heap.size b0 w.heap.size .mender q' W) _ W ?rel _ (fun⟨_,_,h⟩=>h) ?post
  case rel=>
   refine⟨Stp.refl hvr rfl,fun t=> ?_,fun id=>rfl,rfl,Nat.le_refl _,fun _ h=>h.elim,fun id h=> .inl h,fun t c j x g v hc=> ?_,Nat.le_refl _⟩
   ·show aC _ (get [(2,.mp 8 0),(5,.int .i64 (uZ zs k))] t) _;rw[adO];by_cases h2:t=2
    ·subst h2;exact akQ
    ·by_cases h5:t=5
     ·subst h5;exact .int _ _
     ·rw[if_neg h2,if_neg h5];exact .undef _
   ·have hc:get [(2,.mp 8 0),(5,.int .i64 (uZ zs k))] t= .cond c j x g v:=hc;rw[adO]at hc;by_cases h2:t=2
    ·rw[if_pos h2]at hc;cases hc
    ·rw[if_neg h2]at hc;by_cases h5:t=5
     ·rw[if_pos h5]at hc;cases hc
     ·rw[if_neg h5]at hc;cases hc
  case post=>
   intro e A' M' a' W' he R';cases e with
   |normal=>
    unfold aap at he;simp only at he;split at he
    ·rename_i h8;obtain⟨cs,h0,hof⟩:=UO he;have st':Stp (vw M1.F w1.heap.size b0 w.heap.size .mender q' W) W M' W':=R'.stp;have sr:=aeL hF1 l0' lx' st' ((R'.hp 0).trans h0) hof ((R'.hp 8).trans h8) s.size;have hold:∀j,j<W.heap.size->j≠b0->j≠w.heap.size->W'.heap[j]? =W.heap[j]? :=fun j h1 h2 h3=>st'.old j h1 fun ho=>by
      rcases ahw ho with h | h
      ·exact h2 h
      ·exact h3 h
     refine⟨⟨st'.size,fun j o _ hj ho=> ?_⟩,?_,q2,hq2,s.trans sr st.hrel rfl⟩
     ·refine(st'.old j (Array.getElem?_eq_some_iff.1 hj).1 fun hown=> ?_).trans hj;obtain⟨c,t,fr,hc⟩:=aep hvr hown;have hc:W.heap[j]? =some (.cells c t fr):=hc;rw[hj]at hc;cases hc;cases ho
     ·have hs:=s.size;rcases hbF with h | h
      ·exact .inl h
      ·have hbl:=hF b h;exact .inr ⟨hold _ (by omega) (by omega) (by omega),hold b (by omega) (fun e=>nF0 (e▸h)) (by omega)⟩
    ·cases he
   |_=>cases he
 case done=>
  obtain⟨q',hq',s⟩:=hi;have:q'=q:=by
   rw[show zs.length=zs.reverse.length by simp,List.take_length,hy]at hq';exact(Option.some.inj hq').symm
  subst this;refine⟨by simp,.inl ⟨_,_,rfl,run_takeDeferred hK,?_⟩⟩;have sD:=ZO hF1 l0' lx' s (grownBy_putObj' W D (.deferred none)) (fun r e=>by cases e;exact⟨hD,_,hK,rfl⟩);exact⟨_,results_none rfl _ _ _,_,rfl,_,(vw M1.F w1.heap.size b0 w.heap.size .mender q' (W.putObj D (.deferred none))).hp,[],st.trans sD hrel hH,fun _ _ h=>h,.tup [] #[] rfl fun i h _=>by simp at h,aiO⟩
end
def Vy (x0:ay) (x1:(List UInt8)) (x2:Int):Option (ay×Int):=af (nT x0 [x1]) fun y0=>cnd (ak (ieq y0 0)) (cnd (ak (ieq y0 0)) (some (x0,y0)) (cnd (ilt x2 0) (cnd (ilt x2 0) (some (x0,1)) (cnd (ieq x0.fuse 0) (some (ay.mk x0.files x0.room x0.fuse true,9)) (cnd (ieq x0.fuse (-1)) (af (aP x0.files) fun y1=>cnd (ilt 0 (len y1)) (cnd (band (ile 0 x2) (ile x2 (len (ai y1 0).data))) (af (dZ (bF (ai y1 0).data (itn x2))) fun y2=>some (ay.mk (cO (cO y1 0 (aI.mk (ai y1 0).name y2 (ai y1 0).sure)) 0 (aI.mk (ai (cO y1 0 (aI.mk (ai y1 0).name y2 (ai y1 0).sure)) 0).name (ai (cO y1 0 (aI.mk (ai y1 0).name y2 (ai y1 0).sure)) 0).data (iq (ai y1 0).sure x2))) x0.room x0.fuse x0.down,0)) none) none) (af (aP x0.files) fun y3=>cnd (ilt 0 (len y3)) (cnd (band (ile 0 x2) (ile x2 (len (ai y3 0).data))) (af (dZ (bF (ai y3 0).data (itn x2))) fun y4=>some (ay.mk (cO (cO y3 0 (aI.mk (ai y3 0).name y4 (ai y3 0).sure)) 0 (aI.mk (ai (cO y3 0 (aI.mk (ai y3 0).name y4 (ai y3 0).sure)) 0).name (ai (cO y3 0 (aI.mk (ai y3 0).name y4 (ai y3 0).sure)) 0).data (iq (ai y3 0).sure x2))) x0.room (wr .i64 (aS x0.fuse 1)) x0.down,0)) none) none)))) (cnd (ilt 0 (len x0.files)) (cnd (ilt (len (ai x0.files 0).data) x2) (some (x0,1)) (cnd (ieq x0.fuse 0) (some (ay.mk x0.files x0.room x0.fuse true,9)) (cnd (ieq x0.fuse (-1)) (af (aP x0.files) fun y5=>cnd (ilt 0 (len y5)) (cnd (band (ile 0 x2) (ile x2 (len (ai y5 0).data))) (af (dZ (bF (ai y5 0).data (itn x2))) fun y6=>some (ay.mk (cO (cO y5 0 (aI.mk (ai y5 0).name y6 (ai y5 0).sure)) 0 (aI.mk (ai (cO y5 0 (aI.mk (ai y5 0).name y6 (ai y5 0).sure)) 0).name (ai (cO y5 0 (aI.mk (ai y5 0).name y6 (ai y5 0).sure)) 0).data (iq (ai y5 0).sure x2))) x0.room x0.fuse x0.down,0)) none) none) (af (aP x0.files) fun y7=>cnd (ilt 0 (len y7)) (cnd (band (ile 0 x2) (ile x2 (len (ai y7 0).data))) (af (dZ (bF (ai y7 0).data (itn x2))) fun y8=>some (ay.mk (cO (cO y7 0 (aI.mk (ai y7 0).name y8 (ai y7 0).sure)) 0 (aI.mk (ai (cO y7 0 (aI.mk (ai y7 0).name y8 (ai y7 0).sure)) 0).name (ai (cO y7 0 (aI.mk (ai y7 0).name y8 (ai y7 0).sure)) 0).data (iq (ai y7 0).sure x2))) x0.room (wr .i64 (aS x0.fuse 1)) x0.down,0)) none) none)))) none))) (af (qE x0 x1) fun y9=>cnd (ak y9.2) (some (x0,7)) (cnd (ilt x2 0) (cnd (ilt x2 0) (some (x0,1)) (cnd (ieq x0.fuse 0) (some (ay.mk x0.files x0.room x0.fuse true,9)) (cnd (ieq x0.fuse (-1)) (af (aP x0.files) fun y10=>cnd (band (ile 0 y9.1) (ilt y9.1 (len y10))) (cnd (band (ile 0 x2) (ile x2 (len (ai y10 (itn y9.1)).data))) (af (dZ (bF (ai y10 (itn y9.1)).data (itn x2))) fun y11=>some (ay.mk (cO (cO y10 (itn y9.1) (aI.mk (ai y10 (itn y9.1)).name y11 (ai y10 (itn y9.1)).sure)) (itn y9.1) (aI.mk (ai (cO y10 (itn y9.1) (aI.mk (ai y10 (itn y9.1)).name y11 (ai y10 (itn y9.1)).sure)) (itn y9.1)).name (ai (cO y10 (itn y9.1) (aI.mk (ai y10 (itn y9.1)).name y11 (ai y10 (itn y9.1)).sure)) (itn y9.1)).data (iq (ai y10 (itn y9.1)).sure x2))) x0.room x0.fuse x0.down,0)) none) none) (af (aP x0.files) fun y12=>cnd (band (ile 0 y9.1) (ilt y9.1 (len y12))) (cnd (band (ile 0 x2) (ile x2 (len (ai y12 (itn y9.1)).data))) (af (dZ (bF (ai y12 (itn y9.1)).data (itn x2))) fun y13=>some (ay.mk (cO (cO y12 (itn y9.1) (aI.mk (ai y12 (itn y9.1)).name y13 (ai y12 (itn y9.1)).sure)) (itn y9.1) (aI.mk (ai (cO y12 (itn y9.1) (aI.mk (ai y12 (itn y9.1)).name y13 (ai y12 (itn y9.1)).sure)) (itn y9.1)).name (ai (cO y12 (itn y9.1) (aI.mk (ai y12 (itn y9.1)).name y13 (ai y12 (itn y9.1)).sure)) (itn y9.1)).data (iq (ai y12 (itn y9.1)).sure x2))) x0.room (wr .i64 (aS x0.fuse 1)) x0.down,0)) none) none)))) (cnd (band (ile 0 y9.1) (ilt y9.1 (len x0.files))) (cnd (ilt (len (ai x0.files (itn y9.1)).data) x2) (some (x0,1)) (cnd (ieq x0.fuse 0) (some (ay.mk x0.files x0.room x0.fuse true,9)) (cnd (ieq x0.fuse (-1)) (af (aP x0.files) fun y14=>cnd (band (ile 0 y9.1) (ilt y9.1 (len y14))) (cnd (band (ile 0 x2) (ile x2 (len (ai y14 (itn y9.1)).data))) (af (dZ (bF (ai y14 (itn y9.1)).data (itn x2))) fun y15=>some (ay.mk (cO (cO y14 (itn y9.1) (aI.mk (ai y14 (itn y9.1)).name y15 (ai y14 (itn y9.1)).sure)) (itn y9.1) (aI.mk (ai (cO y14 (itn y9.1) (aI.mk (ai y14 (itn y9.1)).name y15 (ai y14 (itn y9.1)).sure)) (itn y9.1)).name (ai (cO y14 (itn y9.1) (aI.mk (ai y14 (itn y9.1)).name y15 (ai y14 (itn y9.1)).sure)) (itn y9.1)).data (iq (ai y14 (itn y9.1)).sure x2))) x0.room x0.fuse x0.down,0)) none) none) (af (aP x0.files) fun y16=>cnd (band (ile 0 y9.1) (ilt y9.1 (len y16))) (cnd (band (ile 0 x2) (ile x2 (len (ai y16 (itn y9.1)).data))) (af (dZ (bF (ai y16 (itn y9.1)).data (itn x2))) fun y17=>some (ay.mk (cO (cO y16 (itn y9.1) (aI.mk (ai y16 (itn y9.1)).name y17 (ai y16 (itn y9.1)).sure)) (itn y9.1) (aI.mk (ai (cO y16 (itn y9.1) (aI.mk (ai y16 (itn y9.1)).name y17 (ai y16 (itn y9.1)).sure)) (itn y9.1)).name (ai (cO y16 (itn y9.1) (aI.mk (ai y16 (itn y9.1)).name y17 (ai y16 (itn y9.1)).sure)) (itn y9.1)).data (iq (ai y16 (itn y9.1)).sure x2))) x0.room (wr .i64 (aS x0.fuse 1)) x0.down,0)) none) none)))) none)))
def Nu:aA:=mkSpec [.val .disk,.str,.int .i64] [.val .disk,.int .i64] false (fun x=>Vy x.1 x.2.1 x.2.2)
theorem ZR:bg PG 222 Nu:=okN [(227,nP),(228,qm),(65,iG),(116,qV)] [214,232] ⟨vY,zu,lq,Bd,trivial⟩ fun x=>by kernel_rfl
def zN (x0:pV) (x1:(List qZ)) (x2:(List Int)):Option (pV×((List qZ))):=af (jc x0 x2) fun y0=>cnd (ieq (len x1) 0) (some (y0.1,x1)) (cnd (band (ile 0 (wr .i64 (aS (len x1) 1))) (ilt (wr .i64 (aS (len x1) 1)) (len x1))) (cnd (ieq (len (ai x1 (itn (wr .i64 (aS (len x1) 1)))).frames) 0) (af (jc y0.1 [(ai x1 (itn (wr .i64 (aS (len x1) 1)))).number]) fun y1=>cnd (band (ile 0 (wr .i64 (aS (len x1) 1))) (ile (wr .i64 (aS (len x1) 1)) (len x1))) (some (y1.1,bF x1 (itn (wr .i64 (aS (len x1) 1))))) none) (cnd (band (ai x1 (itn (wr .i64 (aS (len x1) 1)))).more (ieq y0.1.e 0)) (af (iL (ai x1 (itn (wr .i64 (aS (len x1) 1)))).number) fun y2=>af (Vy y0.1.d y2 (wr .i64 (eF (len (ai x1 (itn (wr .i64 (aS (len x1) 1)))).frames) 72))) fun y3=>some (pV.mk y3.1 y3.2,x1)) (some (y0.1,x1)))) none)
def BU:aA:=vC .mender [.ro .piece,.ro .i64] [.ro .piece] (fun x=>zN x.1 x.2.1 x.2.2)
theorem OV:bg PG 161 BU:=okB [(162,qW),(173,pz),(222,Nu)] [4095] [] ⟨Bj,xC,ZR,trivial⟩ (fun _=>trivial) fun x=>by kernel_rfl
def fE:LSh:=⟨75,[(7,.int .i64)],[(0,.mf 0),(1,.fn 165 [.mp 1 0])],[(1,[.int .i64])],[(8,.int .i64),(4,.int .i64)],[],[(0,.frame)]⟩
@[reducible] def fG:List nZ:=[⟨.ret,[(4,.int .i64)],[],[(0,.frame)]⟩,⟨.exit 0,[(4,.int .i64)],[],[(0,.frame)]⟩]
def dN (p0:Int) (p1:Int) (v0:Int) (v1:Int) (v2:(List bD)):Option ((Int×Int×(List bD)) ⊕ ((Int×(List bD)) ⊕ ((Int×(List bD))))):=cnd (ilt v0 p0) (cnd (band (ile 0 v0) (ilt v0 (len v2))) (cnd (ile (ai v2 (itn v0)).lsn p1) (some (Sum.inr (Sum.inl (v0,v2)))) (some (Sum.inl (wr .i64 (aF v0 1),v1,v2)))) none) (some (Sum.inr (Sum.inr (v1,v2))))
def fC:dh:=fE.spec fG [9,10,5,11,12,13,14,15,16,17,4,18,8] (fun p v=>dN p.1 p.2 v.1 v.2.1 v.2.2)
def nD:LSh:=⟨149,[],[(0,.mf 0),(1,.fn 165 [.mp 1 0])],[(1,[.int .i64])],[(6,.int .i64),(5,.int .i64)],[],[(0,.frame)]⟩
@[reducible] def nG:List nZ:=[⟨.exit 0,[(5,.int .i64)],[],[(0,.frame)]⟩]
def jT (p0:Int) (v0:Int) (v1:Int) (v2:(List bD)):Option ((Int×Int×(List bD)) ⊕ ((Int×(List bD)))):=cnd (ilt v0 (len v2)) (cnd (band (ile 0 v0) (ilt v0 (len v2))) (cnd (ak (ile (ai v2 (itn v0)).lsn p0)) (cnd (band (ile 0 v1) (ilt v1 (len v2))) (some (Sum.inl (wr .i64 (aF v0 1),wr .i64 (aF v1 1),cO v2 (itn v1) (ai v2 (itn v0))))) none) (some (Sum.inl (wr .i64 (aF v0 1),v1,v2)))) none) (some (Sum.inr (v1,v2)))
def mP:dh:=nD.spec nG [16,17,18,19,22,23,24,25,7,26,27,28,29,30,31,32,33,34,35,5,20,21,6] (fun p v=>jT p v.1 v.2.1 v.2.2)
def eU (x0:(List bD)) (x1:Int):Option ((List bD)):=af (bZ (fun v=>dN (len x0) x1 v.1 v.2.1 v.2.2) LF (0,0,x0)) fun y0=>fO y0 (fun y1=>cnd (ieq y1.1 (-1)) (some y1.2) (af (bZ (fun v=>jT x1 v.1 v.2.1 v.2.2) LF (wr .i64 (aF y1.1 1),y1)) fun y2=>cnd (band (ile 0 y2.1) (ile y2.1 (len y2.2))) (cnd (band (ile 0 y2.1) (ile y2.1 (len (mY y2.2 (itn y2.1) (qQ bD (itn (aS (len y2.2) y2.1))))))) (some (bF (dF (mY y2.2 (itn y2.1) (qQ bD (itn (aS (len y2.2) y2.1)))) 0) (itn y2.1))) none) none)) fun y1=>some y1.2
noncomputable def je:Cx:={ P:=PG,ety:=ety,fn:=look [],inl:=ah5 [4095,176,165],lp:=J3 [(704374665392,26,fC),(164,122,mP)] }
theorem jF (p0:Int) (p1:Int) (v0:Int) (v1:Int) (v2:(List bD)):XR je 900 704374665392 26 (KI PG 176 26) fE fG (p0,p1) (v0,v1,v2)=dN p0 p1 v0 v1 v2:=by kernel_rfl
theorem vO (p0:Int) (v0:Int) (v1:Int) (v2:(List bD)):XR je 900 164 122 (KI PG 164 122) nD nG p0 (v0,v1,v2)=jT p0 v0 v1 v2:=by kernel_rfl
theorem yC (x0:(List bD)) (x1:Int):ZK je 164 165 .frame x0 x1=eU x0 x1:=by kernel_rfl
def oL:aA:=qL 165 .frame (fun x=>eU x.1 x.2)
theorem zL:bg PG 164 oL:=
 have K:CxR je:=Aj.cx (fun _=>rfl) (l:=[]) trivial
 aeH K (KP (l:=[(704374665392,26,fC),(164,122,mP)]) rfl ⟨VK (n:=900) (f:=176) K (by kernel_rfl) (by kernel_rfl) (by kernel_rfl) (by kernel_rfl) (by kernel_rfl) (fun p v r h=>(jF p.1 p.2 v.1 v.2.1 v.2.2).trans h),
  VK (n:=900) (f:=164) K (by kernel_rfl) (by kernel_rfl) (by kernel_rfl) (by kernel_rfl) (by kernel_rfl) (fun p v r h=>(vO p v.1 v.2.1 v.2.2).trans h),trivial⟩) (by kernel_rfl) (fun x y h=>(yC x.1 x.2).trans h)
def UG (x0:ay) (x1:Int):Option (dO×ay×(List bD)×Int):=af (lm x0) fun y0=>cnd (ak y0) (some (dO.mk 0 0 0 0 0 [],x0,[],1)) (cnd (ilt x1 0) (some (dO.mk 0 0 0 0 0 [],x0,[],1)) (cnd (ile 1000000000 x1) (some (dO.mk 0 0 0 0 0 [],x0,[],1)) (cnd x0.down (some (dO.mk 0 0 0 0 0 [],x0,[],9)) (af (Vl x0) fun y1=>af (PU y1.1) fun y2=>cnd (bor (band (ile 0 (wr .i64 (aS (len y2) 1))) (ilt (wr .i64 (aS (len y2) 1)) (len y2))) (ak (ak (ieq (len y2) 0)))) (cnd (ak (bor (ieq (len y2) 0) (ilt (ai y2 (itn (wr .i64 (aS (len y2) 1)))).lsn x1))) (cnd (band (ile 0 (wr .i64 (aS (len y2) 1))) (ilt (wr .i64 (aS (len y2) 1)) (len y2))) (cnd (bor (ilt 0 (len y1.1)) (ak (ilt 0 (len y1.1)))) (cnd (band (ilt 0 (len y1.1)) (ilt (wr .i64 (aF x1 1)) (ai y1.1 0).number)) (some (dO.mk 0 0 0 0 0 [],x0,[],11)) (cnd (ilt 1000000 (wr .i64 (aF (ai y2 (itn (wr .i64 (aS (len y2) 1)))).epoch 1))) (some (dO.mk 0 0 0 0 0 [],x0,[],3)) (af (zN (pV.mk x0 0) y1.1 y1.2) fun y3=>cnd (bor (ieq (len y2) 0) (ilt (ai y2 (itn (wr .i64 (aS (len y2) 1)))).lsn x1)) (af (mV y3.1.d) fun y4=>af (jc y3.1 y4) fun y5=>cnd (ak (ieq y5.1.e 0)) (some (dO.mk 0 0 0 0 0 [],y5.1.d,[],y5.1.e)) (af (eU [] x1) fun y6=>some (dO.mk (wr .i64 (aF (ai y2 (itn (wr .i64 (aS (len y2) 1)))).epoch 1)) (wr .i64 (aF x1 1)) x1 0 0 [],y5.1.d,y6,0))) (cnd (band (ile 0 (wr .i64 (aS (len y3.2) 1))) (ilt (wr .i64 (aS (len y3.2) 1)) (len y3.2))) (cnd (band (ile 0 (wr .i64 (aS (len y2) 1))) (ilt (wr .i64 (aS (len y2) 1)) (len y2))) (cnd (ak (ieq y3.1.e 0)) (some (dO.mk 0 0 0 0 0 [],y3.1.d,[],y3.1.e)) (af (eU y2 x1) fun y7=>some (dO.mk (wr .i64 (aF (ai y2 (itn (wr .i64 (aS (len y2) 1)))).epoch 1)) (wr .i64 (aF (ai y2 (itn (wr .i64 (aS (len y2) 1)))).lsn 1)) (ai y2 (itn (wr .i64 (aS (len y2) 1)))).lsn (ai y3.2 (itn (wr .i64 (aS (len y3.2) 1)))).number (len (ai y3.2 (itn (wr .i64 (aS (len y3.2) 1)))).frames) [],y3.1.d,y7,0))) none) none)))) none) none) (cnd (bor (ilt 0 (len y1.1)) (ak (ilt 0 (len y1.1)))) (cnd (band (ilt 0 (len y1.1)) (ilt (wr .i64 (aF x1 1)) (ai y1.1 0).number)) (some (dO.mk 0 0 0 0 0 [],x0,[],11)) (af (zN (pV.mk x0 0) y1.1 y1.2) fun y8=>cnd (bor (ieq (len y2) 0) (ilt (ai y2 (itn (wr .i64 (aS (len y2) 1)))).lsn x1)) (af (mV y8.1.d) fun y9=>af (jc y8.1 y9) fun y10=>cnd (ak (ieq y10.1.e 0)) (some (dO.mk 0 0 0 0 0 [],y10.1.d,[],y10.1.e)) (af (eU [] x1) fun y11=>some (dO.mk 1 (wr .i64 (aF x1 1)) x1 0 0 [],y10.1.d,y11,0))) (cnd (band (ile 0 (wr .i64 (aS (len y8.2) 1))) (ilt (wr .i64 (aS (len y8.2) 1)) (len y8.2))) (cnd (band (ile 0 (wr .i64 (aS (len y2) 1))) (ilt (wr .i64 (aS (len y2) 1)) (len y2))) (cnd (ak (ieq y8.1.e 0)) (some (dO.mk 0 0 0 0 0 [],y8.1.d,[],y8.1.e)) (af (eU y2 x1) fun y12=>some (dO.mk 1 (wr .i64 (aF (ai y2 (itn (wr .i64 (aS (len y2) 1)))).lsn 1)) (ai y2 (itn (wr .i64 (aS (len y2) 1)))).lsn (ai y8.2 (itn (wr .i64 (aS (len y8.2) 1)))).number (len (ai y8.2 (itn (wr .i64 (aS (len y8.2) 1)))).frames) [],y8.1.d,y12,0))) none) none))) none)) none))))
def Nw:aA:=mkSpec [.val .disk,.int .i64] [.val .wal,.val .disk,.ro .frame,.int .i64] false (fun x=>UG x.1 x.2)
theorem Z7:bg PG 92 Nw:=okN [(44,kN),(159,MQ),(160,II),(161,BU),(163,sV),(162,qW),(164,oL)] [4095,165] ⟨oV,abk,WZ,OV,BM,Bj,zL,trivial⟩ fun x=>by kernel_rfl
def jA (x0:bV):Option (SA6×Int):=af (oK x0) fun y0=>cnd (ak y0) (some (SA6.mk 0 0 0 0 0 0,1)) (cnd (ieq x0.kind 1) (some (SA6.mk x0.order x0.account x0.symbol x0.side x0.qty x0.price,0)) (cnd (ieq x0.kind 4) (some (SA6.mk x0.account x0.symbol x0.long x0.short x0.opn 0,0)) (cnd (ieq x0.kind 5) (cnd x0.on (some (SA6.mk 1 0 0 0 0 0,0)) (some (SA6.mk 0 0 0 0 0 0,0))) (cnd (ieq x0.kind 6) (some (SA6.mk x0.seq x0.what x0.order x0.qty x0.price 0,0)) (some (SA6.mk x0.order x0.qty x0.price 0 0 0,0))))))
def FN:aA:=mkSpec [.val .recd] [.val .a6,.int .i64] true (fun x=>jA x)
theorem Tc:bg PG 97 FN:=okN [(58,mZ)] [] ⟨uX,trivial⟩ fun x=>by kernel_rfl
def OZ (x0:Int) (x1:SA6):Option (bV×Int):=cnd (ieq x0 1) (af (jA (bV.mk x0 x1.a0 x1.a1 x1.a2 x1.a3 x1.a4 x1.a5 0 0 0 false 0 0)) fun y0=>cnd (bor (ak (ieq y0.2 0)) (ak (band (ieq y0.1.a0 x1.a0) (band (ieq y0.1.a1 x1.a1) (band (ieq y0.1.a2 x1.a2) (band (ieq y0.1.a3 x1.a3) (band (ieq y0.1.a4 x1.a4) (band (ieq y0.1.a5 x1.a5) true)))))))) (some (bV.mk 0 0 0 0 0 0 0 0 0 0 false 0 0,2)) (some (bV.mk x0 x1.a0 x1.a1 x1.a2 x1.a3 x1.a4 x1.a5 0 0 0 false 0 0,0))) (cnd (ieq x0 2) (cnd (ieq x0 2) (af (jA (bV.mk x0 x1.a0 0 0 0 x1.a1 x1.a2 0 0 0 false 0 0)) fun y1=>cnd (bor (ak (ieq y1.2 0)) (ak (band (ieq y1.1.a0 x1.a0) (band (ieq y1.1.a1 x1.a1) (band (ieq y1.1.a2 x1.a2) (band (ieq y1.1.a3 x1.a3) (band (ieq y1.1.a4 x1.a4) (band (ieq y1.1.a5 x1.a5) true)))))))) (some (bV.mk 0 0 0 0 0 0 0 0 0 0 false 0 0,2)) (some (bV.mk x0 x1.a0 0 0 0 x1.a1 x1.a2 0 0 0 false 0 0,0))) (cnd (ieq x0 4) (af (jA (bV.mk x0 0 x1.a0 x1.a1 0 0 0 x1.a2 x1.a3 x1.a4 false 0 0)) fun y2=>cnd (bor (ak (ieq y2.2 0)) (ak (band (ieq y2.1.a0 x1.a0) (band (ieq y2.1.a1 x1.a1) (band (ieq y2.1.a2 x1.a2) (band (ieq y2.1.a3 x1.a3) (band (ieq y2.1.a4 x1.a4) (band (ieq y2.1.a5 x1.a5) true)))))))) (some (bV.mk 0 0 0 0 0 0 0 0 0 0 false 0 0,2)) (some (bV.mk x0 0 x1.a0 x1.a1 0 0 0 x1.a2 x1.a3 x1.a4 false 0 0,0))) (cnd (ieq x0 5) (af (jA (bV.mk x0 0 0 0 0 0 0 0 0 0 (ieq x1.a0 1) 0 0)) fun y3=>cnd (bor (ak (ieq y3.2 0)) (ak (band (ieq y3.1.a0 x1.a0) (band (ieq y3.1.a1 x1.a1) (band (ieq y3.1.a2 x1.a2) (band (ieq y3.1.a3 x1.a3) (band (ieq y3.1.a4 x1.a4) (band (ieq y3.1.a5 x1.a5) true)))))))) (some (bV.mk 0 0 0 0 0 0 0 0 0 0 false 0 0,2)) (some (bV.mk x0 0 0 0 0 0 0 0 0 0 (ieq x1.a0 1) 0 0,0))) (cnd (ieq x0 6) (af (jA (bV.mk x0 x1.a2 0 0 0 x1.a3 x1.a4 0 0 0 false x1.a0 x1.a1)) fun y4=>cnd (bor (ak (ieq y4.2 0)) (ak (band (ieq y4.1.a0 x1.a0) (band (ieq y4.1.a1 x1.a1) (band (ieq y4.1.a2 x1.a2) (band (ieq y4.1.a3 x1.a3) (band (ieq y4.1.a4 x1.a4) (band (ieq y4.1.a5 x1.a5) true)))))))) (some (bV.mk 0 0 0 0 0 0 0 0 0 0 false 0 0,2)) (some (bV.mk x0 x1.a2 0 0 0 x1.a3 x1.a4 0 0 0 false x1.a0 x1.a1,0))) (af (jA (bV.mk x0 0 0 0 0 0 0 0 0 0 false 0 0)) fun y5=>cnd (bor (ak (ieq y5.2 0)) (ak (band (ieq y5.1.a0 x1.a0) (band (ieq y5.1.a1 x1.a1) (band (ieq y5.1.a2 x1.a2) (band (ieq y5.1.a3 x1.a3) (band (ieq y5.1.a4 x1.a4) (band (ieq y5.1.a5 x1.a5) true)))))))) (some (bV.mk 0 0 0 0 0 0 0 0 0 0 false 0 0,2)) (some (bV.mk x0 0 0 0 0 0 0 0 0 0 false 0 0,0))))))) (cnd (ieq x0 3) (af (jA (bV.mk x0 x1.a0 0 0 0 x1.a1 x1.a2 0 0 0 false 0 0)) fun y6=>cnd (bor (ak (ieq y6.2 0)) (ak (band (ieq y6.1.a0 x1.a0) (band (ieq y6.1.a1 x1.a1) (band (ieq y6.1.a2 x1.a2) (band (ieq y6.1.a3 x1.a3) (band (ieq y6.1.a4 x1.a4) (band (ieq y6.1.a5 x1.a5) true)))))))) (some (bV.mk 0 0 0 0 0 0 0 0 0 0 false 0 0,2)) (some (bV.mk x0 x1.a0 0 0 0 x1.a1 x1.a2 0 0 0 false 0 0,0))) (cnd (ieq x0 4) (af (jA (bV.mk x0 0 x1.a0 x1.a1 0 0 0 x1.a2 x1.a3 x1.a4 false 0 0)) fun y7=>cnd (bor (ak (ieq y7.2 0)) (ak (band (ieq y7.1.a0 x1.a0) (band (ieq y7.1.a1 x1.a1) (band (ieq y7.1.a2 x1.a2) (band (ieq y7.1.a3 x1.a3) (band (ieq y7.1.a4 x1.a4) (band (ieq y7.1.a5 x1.a5) true)))))))) (some (bV.mk 0 0 0 0 0 0 0 0 0 0 false 0 0,2)) (some (bV.mk x0 0 x1.a0 x1.a1 0 0 0 x1.a2 x1.a3 x1.a4 false 0 0,0))) (cnd (ieq x0 5) (af (jA (bV.mk x0 0 0 0 0 0 0 0 0 0 (ieq x1.a0 1) 0 0)) fun y8=>cnd (bor (ak (ieq y8.2 0)) (ak (band (ieq y8.1.a0 x1.a0) (band (ieq y8.1.a1 x1.a1) (band (ieq y8.1.a2 x1.a2) (band (ieq y8.1.a3 x1.a3) (band (ieq y8.1.a4 x1.a4) (band (ieq y8.1.a5 x1.a5) true)))))))) (some (bV.mk 0 0 0 0 0 0 0 0 0 0 false 0 0,2)) (some (bV.mk x0 0 0 0 0 0 0 0 0 0 (ieq x1.a0 1) 0 0,0))) (cnd (ieq x0 6) (af (jA (bV.mk x0 x1.a2 0 0 0 x1.a3 x1.a4 0 0 0 false x1.a0 x1.a1)) fun y9=>cnd (bor (ak (ieq y9.2 0)) (ak (band (ieq y9.1.a0 x1.a0) (band (ieq y9.1.a1 x1.a1) (band (ieq y9.1.a2 x1.a2) (band (ieq y9.1.a3 x1.a3) (band (ieq y9.1.a4 x1.a4) (band (ieq y9.1.a5 x1.a5) true)))))))) (some (bV.mk 0 0 0 0 0 0 0 0 0 0 false 0 0,2)) (some (bV.mk x0 x1.a2 0 0 0 x1.a3 x1.a4 0 0 0 false x1.a0 x1.a1,0))) (af (jA (bV.mk x0 0 0 0 0 0 0 0 0 0 false 0 0)) fun y10=>cnd (bor (ak (ieq y10.2 0)) (ak (band (ieq y10.1.a0 x1.a0) (band (ieq y10.1.a1 x1.a1) (band (ieq y10.1.a2 x1.a2) (band (ieq y10.1.a3 x1.a3) (band (ieq y10.1.a4 x1.a4) (band (ieq y10.1.a5 x1.a5) true)))))))) (some (bV.mk 0 0 0 0 0 0 0 0 0 0 false 0 0,2)) (some (bV.mk x0 0 0 0 0 0 0 0 0 0 false 0 0,0))))))))
def IB:aA:=mkSpec [.int .i64,.val .a6] [.val .recd,.int .i64] true (fun x=>OZ x.1 x.2)
theorem Xj:bg PG 225 IB:=okN [(97,FN)] [] ⟨Tc,trivial⟩ fun x=>by kernel_rfl
def aby (x0:bD):Option (bV×Int):=af (OZ x0.kind (SA6.mk x0.b0 x0.b1 x0.b2 x0.b3 x0.b4 x0.b5)) fun y0=>some y0
def RN:aA:=mkSpec [.val .frame] [.val .recd,.int .i64] true (fun x=>aby x)
theorem aeD:bg PG 166 RN:=okN [(225,IB)] [] ⟨Xj,trivial⟩ fun x=>by kernel_rfl
def J4 (p0:Int) (p1:(List bD)) (v0:Int) (v1:(List bV)) (v2:Int) (v3:(List bV)):Option ((Int×(List bV)×Int×(List bV)) ⊕ ((Int×(List bV)) ⊕ (((List bV)×Int×(List bV))))):=cnd (ilt v0 p0) (cnd (band (ile 0 v0) (ilt v0 (len p1))) (af (aby (ai p1 (itn v0))) fun y0=>cnd (ak (ieq y0.2 0)) (some (Sum.inr (Sum.inl (2,[])))) (cnd (ile (len (bP v1 [y0.1])) 68719476736) (some (Sum.inl (wr .i64 (aF v0 1),bP v1 [y0.1],v2,v3))) none)) none) (some (Sum.inr (Sum.inr (v1,v2,v3))))
def TN:dh:=LSh.spec ⟨74,[(13,.int .i64),(12,.ro .frame)],[],[],[(14,.int .i64),(4,.buf .recd),(3,.int .i64),(2,.buf .recd)],[],[]⟩ [⟨.ret,[(3,.int .i64),(2,.buf .recd)],[],[]⟩,⟨.exit 0,[(4,.buf .recd),(3,.int .i64),(2,.buf .recd)],[],[]⟩] (sP [(2,3),(6,3),(14,16)]) (fun p v=>J4 p.1 p.2 v.1 v.2.1 v.2.2.1 v.2.2.2)
def RH (x0:(List bD)):Option ((List bV)×Int):=cnd (band (ile 0 (len x0)) (ile (len x0) 68719476736)) (af (bZ (fun v=>J4 (len x0) x0 v.1 v.2.1 v.2.2.1 v.2.2.2) LF (0,qQ bV 0,0,[])) fun y0=>fO y0 (fun y1=>some (y1.2,y1.1)) fun y1=>some (y1.1,0)) none
def JD:aA:=mkSpec [.ro .frame] [.buf .recd,.int .i64] true (fun x=>RH x)
theorem ZC:bg PG 93 JD:=okP [(166,RN)] [] [(93,58,TN)] ⟨aeD,trivial⟩ (fun K=>⟨iU K fun p v=>by kernel_rfl,trivial⟩) fun x=>by kernel_rfl
def fJ (x0:(List au)):Option ((List au)):=zM x0
def sH:aA:=mkSpec [.ro .order] [.buf .order] true (fun x=>fJ x)
theorem Ep:bg PG 178 sH:=abn fun x=>by kernel_rfl
def gq (x0:(List aN)):Option ((List aN)):=zM x0
def uD:aA:=mkSpec [.ro .cell] [.buf .cell] true (fun x=>gq x)
theorem Fh:bg PG 179 uD:=abn fun x=>by kernel_rfl
def gm (x0:(List fB)):Option ((List fB)):=zM x0
def uw:aA:=mkSpec [.ro .expo] [.buf .expo] true (fun x=>gm x)
theorem FU:bg PG 180 uw:=abn fun x=>by kernel_rfl
def iF (x0:(List Int)):Option ((List Int)):=zM x0
def xI:aA:=mkSpec [.ro .i64] [.buf .i64] true (fun x=>iF x)
theorem Je:bg PG 181 xI:=abn fun x=>by kernel_rfl
def AU (x0:bV):Option (au×Int):=af (cnd (ak (ak (ieq x0.kind 1))) (oK x0) (some false)) fun y0=>cnd (bor (ak (ieq x0.kind 1)) (ak y0)) (some (au.mk 0 0 0 0 0 0 0 0 0 0 0 false,1)) (some (au.mk x0.order x0.account x0.symbol x0.side x0.qty x0.price 0 1 0 0 0 false,0))
def Gl:aA:=mkSpec [.val .recd] [.val .order,.int .i64] true (fun x=>AU x)
theorem U2:bg PG 182 Gl:=okN [(58,mZ)] [] ⟨uX,trivial⟩ fun x=>by kernel_rfl
def Gn (x0:aN):Option (fB×Int):=af (gJ x0) fun y0=>cnd (ak y0) (some (fB.mk 0 0 0,1)) (af (AZ x0) fun y1=>some (y1.1,0))
def Qh:aA:=mkSpec [.val .cell] [.val .expo,.int .i64] true (fun x=>Gn x)
theorem abM:bg PG 236 Qh:=okN [(127,nO),(196,Ed)] [] ⟨wo,Qn,trivial⟩ fun x=>by kernel_rfl
def wz (x0:fB):Option (SA3):=some (SA3.mk x0.long x0.short x0.opn)
def Gy:aA:=mkSpec [.val .expo] [.val .a3] true (fun x=>wz x)
theorem UA:bg PG 279 Gy:=okN [] [] trivial fun x=>by kernel_rfl
def jy (x0:Int) (x1:Int) (x2:Int):Option (Bool):=some (ilt (imax x0 x2) x1)
def rW:aA:=mkSpec [.int .i64,.int .i64,.int .i64] [.bool] true (fun x=>jy x.1 x.2.1 x.2.2)
theorem BV:bg PG 238 rW:=okN [] [] trivial fun x=>by kernel_rfl
def wP (x0:fB) (x1:fB) (x2:fB):Option (Bool):=af (wz x0) fun y0=>af (wz x1) fun y1=>af (wz x2) fun y2=>af (jy y0.a0 y1.a0 y2.a0) fun y3=>cnd y3 (some true) (af (jy y0.a1 y1.a1 y2.a1) fun y4=>cnd y4 (some true) (af (jy y0.a2 y1.a2 y2.a2) fun y5=>cnd y5 (some true) (some false)))
def DZ:aA:=mkSpec [.val .expo,.val .expo,.val .expo] [.bool] true (fun x=>wP x.1 x.2.1 x.2.2)
theorem Qo:bg PG 237 DZ:=okN [(279,Gy),(238,rW)] [] ⟨UA,BV,trivial⟩ fun x=>by kernel_rfl
def eY (x0:ax) (x1:ax) (x2:Int) (x3:Int):Option (Int):=af (bK x0 x2 x3) fun y0=>af (ji x0 x2) fun y1=>af (rJ y1) fun y2=>cnd (ak (ieq y2.2 0)) (some 3) (af (ji x1 x2) fun y3=>af (rJ y3) fun y4=>cnd (band (ile 0 y0) (ilt y0 (len x1.cells))) (af (Gn (ai x1.cells (itn y0))) fun y5=>cnd (band (ile 0 y0) (ilt y0 (len x0.cells))) (af (Gn (ai x0.cells (itn y0))) fun y6=>cnd (band (ile 0 y0) (ilt y0 (len x0.limits))) (af (wP y5.1 y6.1 (ai x0.limits (itn y0))) fun y7=>cnd (bor (band (ile 0 x2) (ilt x2 (len x0.caps))) (ak (ak y7))) (af (cnd (ak y7) (jy y4.1 y2.1 (ai x0.caps (itn x2))) (some false)) fun y8=>cnd (bor y7 y8) (some 4) (some 0)) none) none) none) none)
def yP:aA:=mkSpec [.val .state,.val .state,.int .i64,.int .i64] [.int .i64] true (fun x=>eY x.1 x.2.1 x.2.2.1 x.2.2.2)
theorem La:bg PG 185 yP:=okN [(183,jD),(129,pG),(128,Ak),(236,Qh),(237,DZ),(238,rW)] [] ⟨ng,yX,KQ,abM,Qo,BV,trivial⟩ fun x=>by kernel_rfl
def dD (p0:Int) (p1:(List au)) (p2:Int) (v0:Int) (v1:Int):Option ((Int×Int) ⊕ ((Int) ⊕ ((Int)))):=cnd (ilt v0 p0) (cnd (band (ile 0 v0) (ilt v0 (len p1))) (cnd (ieq (ai p1 (itn v0)).id p2) (some (Sum.inr (Sum.inl v0))) (some (Sum.inl (wr .i64 (aF v0 1),v1)))) none) (some (Sum.inr (Sum.inr v1)))
def oU:dh:=LSh.spec ⟨78,[(7,.int .i64),(0,.ro .order)],[(1,.fn 100 [.mp 24 0])],[(24,[.int .i64])],[(8,.int .i64),(4,.int .i64)],[],[]⟩ [⟨.ret,[(4,.int .i64)],[],[]⟩,⟨.exit 0,[(4,.int .i64)],[],[]⟩] (sP [(4,2),(8,11)]) (fun p v=>dD p.1 p.2.1 p.2.2 v.1 v.2)
def um (x0:ax) (x1:Int):Option (Int):=af (bZ (fun v=>dD (len x0.orders) x0.orders x1 v.1 v.2) LF (0,0)) fun y0=>fO y0 (fun y1=>some y1) fun y1=>some (-1)
def DY:aA:=mkSpec [.val .state,.int .i64] [.int .i64] true (fun x=>um x.1 x.2)
theorem Po:bg PG 51 DY:=okP [] [100,99] [(219043373155,26,oU)] trivial (fun K=>⟨iU K fun p v=>by kernel_rfl,trivial⟩) fun x=>by kernel_rfl
def yc (x0:au) (x1:Int) (x2:Int):Option (au×Int):=af (nM x0.version 1) fun y0=>af (fM x0) fun y1=>cnd (ak y1) (cnd (ak y1) (some (x0,1)) (cnd (ak (ieq x0.phase 2)) (cnd (ak (ieq x0.phase 2)) (some (x0,8)) (some (au.mk x0.id x0.account x0.symbol x0.side x0.qty x0.price x0.filled x0.phase x1 x2 (wr .i64 (aF x0.version 1)) x0.asked,0))) (af (gV x0) fun y2=>cnd y2 (cnd y2 (some (x0,8)) (some (au.mk x0.id x0.account x0.symbol x0.side x0.qty x0.price x0.filled x0.phase x1 x2 (wr .i64 (aF x0.version 1)) x0.asked,0))) (cnd x0.asked (some (x0,8)) (some (au.mk x0.id x0.account x0.symbol x0.side x0.qty x0.price x0.filled x0.phase x1 x2 (wr .i64 (aF x0.version 1)) x0.asked,0)))))) (cnd (ilt x1 1) (cnd (ilt x1 1) (some (x0,1)) (cnd (ak (ieq x0.phase 2)) (cnd (ak (ieq x0.phase 2)) (some (x0,8)) (some (au.mk x0.id x0.account x0.symbol x0.side x0.qty x0.price x0.filled x0.phase x1 x2 (wr .i64 (aF x0.version 1)) x0.asked,0))) (af (gV x0) fun y3=>cnd y3 (cnd y3 (some (x0,8)) (some (au.mk x0.id x0.account x0.symbol x0.side x0.qty x0.price x0.filled x0.phase x1 x2 (wr .i64 (aF x0.version 1)) x0.asked,0))) (cnd x0.asked (some (x0,8)) (some (au.mk x0.id x0.account x0.symbol x0.side x0.qty x0.price x0.filled x0.phase x1 x2 (wr .i64 (aF x0.version 1)) x0.asked,0)))))) (cnd (ilt x2 1) (cnd (ilt x2 1) (some (x0,1)) (cnd (ak (ieq x0.phase 2)) (cnd (ak (ieq x0.phase 2)) (some (x0,8)) (some (au.mk x0.id x0.account x0.symbol x0.side x0.qty x0.price x0.filled x0.phase x1 x2 (wr .i64 (aF x0.version 1)) x0.asked,0))) (af (gV x0) fun y4=>cnd y4 (cnd y4 (some (x0,8)) (some (au.mk x0.id x0.account x0.symbol x0.side x0.qty x0.price x0.filled x0.phase x1 x2 (wr .i64 (aF x0.version 1)) x0.asked,0))) (cnd x0.asked (some (x0,8)) (some (au.mk x0.id x0.account x0.symbol x0.side x0.qty x0.price x0.filled x0.phase x1 x2 (wr .i64 (aF x0.version 1)) x0.asked,0)))))) (cnd (ak (ieq y0.2 0)) (some (x0,1)) (cnd (ak (ieq x0.phase 2)) (cnd (ak (ieq x0.phase 2)) (some (x0,8)) (some (au.mk x0.id x0.account x0.symbol x0.side x0.qty x0.price x0.filled x0.phase x1 x2 (wr .i64 (aF x0.version 1)) x0.asked,0))) (af (gV x0) fun y5=>cnd y5 (cnd y5 (some (x0,8)) (some (au.mk x0.id x0.account x0.symbol x0.side x0.qty x0.price x0.filled x0.phase x1 x2 (wr .i64 (aF x0.version 1)) x0.asked,0))) (cnd x0.asked (some (x0,8)) (some (au.mk x0.id x0.account x0.symbol x0.side x0.qty x0.price x0.filled x0.phase x1 x2 (wr .i64 (aF x0.version 1)) x0.asked,0))))))))
def EY:aA:=mkSpec [.val .order,.int .i64,.int .i64] [.val .order,.int .i64] true (fun x=>yc x.1 x.2.1 x.2.2)
theorem Tj:bg PG 186 EY:=okN [(117,qP),(101,gX),(168,qJ)] [] ⟨Aq,kE,Ae,trivial⟩ fun x=>by kernel_rfl
def Gg (x0:aN) (x1:au):Option (aN×Int):=af (gJ x0) fun y0=>af (cnd (ak (ak y0)) (fM x1) (some false)) fun y1=>cnd (bor (ak y0) (ak y1)) (some (x0,1)) (af (wI x1) fun y2=>cnd (ieq x1.side 2) (af (qO x1) fun y3=>af (vz x0.sell y3) fun y4=>af (vz x0.opn y2.1) fun y5=>af (cnd (ak (bor (bor (ak (ieq y2.2 0)) (ak (ieq y4.2 0))) (ak (ieq y5.2 0)))) (gJ (aN.mk x0.pos x0.buy y4.1 y5.1)) (some false)) fun y6=>cnd (bor (bor (bor (ak (ieq y2.2 0)) (ak (ieq y4.2 0))) (ak (ieq y5.2 0))) (ak y6)) (some (x0,3)) (some (aN.mk x0.pos x0.buy y4.1 y5.1,0))) (af (qO x1) fun y7=>af (vz x0.buy y7) fun y8=>af (vz x0.opn y2.1) fun y9=>af (cnd (ak (bor (bor (ak (ieq y2.2 0)) (ak (ieq y8.2 0))) (ak (ieq y9.2 0)))) (gJ (aN.mk x0.pos y8.1 x0.sell y9.1)) (some false)) fun y10=>cnd (bor (bor (bor (ak (ieq y2.2 0)) (ak (ieq y8.2 0))) (ak (ieq y9.2 0))) (ak y10)) (some (x0,3)) (some (aN.mk x0.pos y8.1 x0.sell y9.1,0))))
def P6:aA:=mkSpec [.val .cell,.val .order] [.val .cell,.int .i64] true (fun x=>Gg x.1 x.2)
theorem ace:bg PG 187 P6:=okN [(127,nO),(101,gX),(277,Am),(278,BQ),(239,CV)] [235] ⟨wo,kE,KU,Nv,NQ,trivial⟩ fun x=>by kernel_rfl
def ER (x0:au):Option (au×Int):=af (fM x0) fun y0=>cnd (ak y0) (some (x0,1)) (cnd (ieq x0.phase 3) (cnd (ieq x0.phase 3) (some (x0,8)) (some (au.mk x0.id x0.account x0.symbol x0.side x0.qty x0.price x0.filled x0.phase x0.newQty x0.newPrice x0.version true,0))) (cnd x0.asked (some (x0,8)) (some (au.mk x0.id x0.account x0.symbol x0.side x0.qty x0.price x0.filled x0.phase x0.newQty x0.newPrice x0.version true,0))))
def J7:aA:=mkSpec [.val .order] [.val .order,.int .i64] true (fun x=>ER x)
theorem Zc:bg PG 188 J7:=okN [(101,gX)] [] ⟨kE,trivial⟩ fun x=>by kernel_rfl
def yL (x0:uy):Option (bV):=some (bV.mk 6 x0.order 0 0 0 x0.qty x0.price 0 0 0 false x0.seq x0.what)
def BB:aA:=mkSpec [.val .note] [.val .recd] true (fun x=>yL x)
theorem MH:bg PG 59 BB:=okN [] [] trivial fun x=>by kernel_rfl
def wR (x0:au):Option (au):=some (au.mk x0.id x0.account x0.symbol x0.side x0.qty x0.price x0.filled x0.phase 0 0 x0.version x0.asked)
def wX:aA:=mkSpec [.val .order] [.val .order] true (fun x=>wR x)
theorem Gz:bg PG 281 wX:=okN [] [] trivial fun x=>by kernel_rfl
def yN (x0:au):Option (au):=af (wR (au.mk x0.id x0.account x0.symbol x0.side x0.qty x0.price x0.filled 3 x0.newQty x0.newPrice x0.version x0.asked)) fun y0=>some y0
def BN:aA:=mkSpec [.val .order] [.val .order] true (fun x=>yN x)
theorem Np:bg PG 280 BN:=okN [(281,wX)] [] ⟨Gz,trivial⟩ fun x=>by kernel_rfl
def Df (x0:au) (x1:uy):Option (au×Bool):=cnd (ieq x1.what 1) (some (au.mk x0.id x0.account x0.symbol x0.side x0.qty x0.price x0.filled 2 x0.newQty x0.newPrice x0.version x0.asked,true)) (cnd (ieq x1.what 2) (af (yN x0) fun y0=>some (y0,true)) (some (x0,false)))
def I7:aA:=mkSpec [.val .order,.val .note] [.val .order,.bool] true (fun x=>Df x.1 x.2)
theorem Xg:bg PG 240 I7:=okN [(280,BN)] [] ⟨Np,trivial⟩ fun x=>by kernel_rfl
def C9 (x0:au) (x1:uy):Option (au×Bool):=cnd (ieq x1.what 3) (cnd (ilt (wr .i64 (aS x0.qty x0.filled)) x1.qty) (some (x0,false)) (cnd (ilt (wr .i64 (aF x0.filled x1.qty)) x0.qty) (some (au.mk x0.id x0.account x0.symbol x0.side x0.qty x0.price (wr .i64 (aF x0.filled x1.qty)) x0.phase x0.newQty x0.newPrice x0.version x0.asked,true)) (af (yN (au.mk x0.id x0.account x0.symbol x0.side x0.qty x0.price (wr .i64 (aF x0.filled x1.qty)) x0.phase x0.newQty x0.newPrice x0.version x0.asked)) fun y0=>some (y0,true)))) (cnd (ieq x1.what 4) (af (yN x0) fun y1=>some (y1,true)) (cnd (ieq x1.what 5) (af (gV x0) fun y2=>cnd (bor (bor (bor (ak y2) (ak (ieq x1.qty x0.newQty))) (ak (ieq x1.price x0.newPrice))) (ile x1.qty x0.filled)) (some (x0,false)) (af (wR (au.mk x0.id x0.account x0.symbol x0.side x1.qty x1.price x0.filled x0.phase x0.newQty x0.newPrice x0.version x0.asked)) fun y3=>some (y3,true))) (cnd (ieq x1.what 6) (af (wR x0) fun y4=>af (gV x0) fun y5=>some (y4,y5)) (some (x0,false)))))
def IE:aA:=mkSpec [.val .order,.val .note] [.val .order,.bool] true (fun x=>C9 x.1 x.2)
theorem Xk:bg PG 241 IE:=okN [(280,BN),(168,qJ),(281,wX)] [] ⟨Np,Ae,Gz,trivial⟩ fun x=>by kernel_rfl
def CW (x0:au) (x1:uy):Option (au×Int):=af (fM x0) fun y0=>af (cnd (ak (ak y0)) (yL x1) (some (bV.mk 0 0 0 0 0 0 0 0 0 0 false 0 0))) fun y1=>af (cnd (ak (ak y0)) (oK y1) (some false)) fun y2=>cnd (bor (bor (ak y0) (ak y2)) (ak (ieq x1.order x0.id))) (some (x0,1)) (cnd (ieq x0.phase 1) (af (Df x0 x1) fun y3=>cnd (ak y3.2) (some (x0,8)) (some (y3.1,0))) (cnd (ieq x0.phase 2) (af (C9 x0 x1) fun y4=>cnd (ak y4.2) (some (x0,8)) (some (y4.1,0))) (some (x0,8))))
def IW:aA:=mkSpec [.val .order,.val .note] [.val .order,.int .i64] true (fun x=>CW x.1 x.2)
theorem Xf:bg PG 189 IW:=okN [(101,gX),(59,BB),(58,mZ),(240,I7),(241,IE)] [] ⟨kE,MH,uX,Xg,Xk,trivial⟩ fun x=>by kernel_rfl
def Hg (x0:aN) (x1:Int) (x2:Int):Option (aN×Int):=af (gJ x0) fun y0=>cnd (bor (bor (ak y0) (band (ak (ieq x1 1)) (ak (ieq x1 2)))) (ilt x2 0)) (some (x0,1)) (cnd (ieq x1 1) (af (nM x0.pos x2) fun y1=>af (cnd (ak (ak (ieq y1.2 0))) (gJ (aN.mk y1.1 x0.buy x0.sell x0.opn)) (some false)) fun y2=>cnd (bor (ak (ieq y1.2 0)) (ak y2)) (some (x0,3)) (some (aN.mk y1.1 x0.buy x0.sell x0.opn,0))) (af (vz x0.pos x2) fun y3=>af (cnd (ak (ak (ieq y3.2 0))) (gJ (aN.mk y3.1 x0.buy x0.sell x0.opn)) (some false)) fun y4=>cnd (bor (ak (ieq y3.2 0)) (ak y4)) (some (x0,3)) (some (aN.mk y3.1 x0.buy x0.sell x0.opn,0))))
def Na:aA:=mkSpec [.val .cell,.int .i64,.int .i64] [.val .cell,.int .i64] true (fun x=>Hg x.1 x.2.1 x.2.2)
theorem aaI:bg PG 190 Na:=okN [(127,nO),(117,qP),(239,CV)] [] ⟨wo,Aq,NQ,trivial⟩ fun x=>by kernel_rfl
def jb (x0:(List au)) (x1:Int) (x2:Int):Option ((List au)):=cnd (band (band (band (ile 0 x1) (ile x1 x2)) (ile x2 (len x0))) (band (ile x2 (len x0)) (ile (len x0) (len x0)))) (cnd (ieq x1 x2) (some x0) (cnd (band (ile 0 x1) (ile x1 (len x0))) (cnd (band (ile 0 x2) (ile x2 (len x0))) (cnd (ile (aF (nti (itn x1)) (len (bF (dF x0 (itn x2)) (itn (aS (len x0) x2))))) (len x0)) (cnd (band (band (ile 0 (nti (nad (itn x1) (itn (len (bF (dF x0 (itn x2)) (itn (aS (len x0) x2)))))))) (ile (nti (nad (itn x1) (itn (len (bF (dF x0 (itn x2)) (itn (aS (len x0) x2))))))) (len x0))) (ile (len x0) (aS (len (mY x0 (itn x1) (bF (dF x0 (itn x2)) (itn (aS (len x0) x2))))) 0))) (some (bF (dF (mY (mY x0 (itn x1) (bF (dF x0 (itn x2)) (itn (aS (len x0) x2)))) (nad 0 (itn (nti (nad (itn x1) (itn (len (bF (dF x0 (itn x2)) (itn (aS (len x0) x2))))))))) (qQ au (itn (aS (len x0) (nti (nad (itn x1) (itn (len (bF (dF x0 (itn x2)) (itn (aS (len x0) x2))))))))))) 0) (nad (itn x1) (itn (len (bF (dF x0 (itn x2)) (itn (aS (len x0) x2)))))))) none) none) none) none)) none
def ru:aA:=mkSpec [.buf .order,.int .i64,.int .i64] [.ro .order] false (fun x=>jb x.1 x.2.1 x.2.2)
theorem D8:bg PG 191 ru:=okN [] [] trivial fun x=>by kernel_rfl
def Ad (x0:ax) (x1:bV):Option (ax×Int):=af (nM x0.lsn 1) fun y0=>af (cnd (ak (bor (ak (ieq y0.2 0)) (ile 1000000000 x0.lsn))) (oK x1) (some false)) fun y1=>af (cnd (ak (bor (bor (ak (ieq y0.2 0)) (ile 1000000000 x0.lsn)) (ak y1))) (iZ x0) (some false)) fun y2=>cnd (bor (bor (bor (ak (ieq y0.2 0)) (ile 1000000000 x0.lsn)) (ak y1)) (ak y2)) (some (x0,1)) (af (fJ x0.orders) fun y3=>af (gq x0.cells) fun y4=>af (gm x0.limits) fun y5=>af (iF x0.caps) fun y6=>cnd (ieq x1.kind 1) (af (AU x1) fun y7=>cnd (ile x1.order x0.last) (cnd (ile x1.order x0.last) (some (x0,1)) (cnd x0.kill (some (x0,5)) (cnd (ieq (len y3) 64) (some (x0,6)) (af (fJ y3) fun y8=>af (gq y4) fun y9=>af (gm y5) fun y10=>af (iF y6) fun y11=>af (bK (ax.mk x0.accounts x0.symbols y3 y4 y5 y6 x0.kill x0.last x0.seq x0.lsn) y7.1.account y7.1.symbol) fun y12=>cnd (band (ile 0 y12) (ilt y12 (len y4))) (af (lZ (ai y4 (itn y12)) y7.1) fun y13=>cnd (ak (ieq y13.2 0)) (some (x0,3)) (cnd (ile (len (bP y3 [y7.1])) 68719476736) (af (eY (ax.mk x0.accounts x0.symbols (bP y3 [y7.1]) (cO y4 (itn y12) y13.1) y5 y6 x0.kill y7.1.id x0.seq x0.lsn) (ax.mk x0.accounts x0.symbols y8 y9 y10 y11 x0.kill x0.last x0.seq x0.lsn) y7.1.account y7.1.symbol) fun y14=>cnd (ak (ieq y14 0)) (some (x0,y14)) (some (ax.mk x0.accounts x0.symbols (bP y3 [y7.1]) (cO y4 (itn y12) y13.1) y5 y6 x0.kill y7.1.id x0.seq (wr .i64 (aF x0.lsn 1)),0))) none)) none)))) (cnd (ile x0.accounts x1.account) (cnd (ile x0.accounts x1.account) (some (x0,1)) (cnd x0.kill (some (x0,5)) (cnd (ieq (len y3) 64) (some (x0,6)) (af (fJ y3) fun y15=>af (gq y4) fun y16=>af (gm y5) fun y17=>af (iF y6) fun y18=>af (bK (ax.mk x0.accounts x0.symbols y3 y4 y5 y6 x0.kill x0.last x0.seq x0.lsn) y7.1.account y7.1.symbol) fun y19=>cnd (band (ile 0 y19) (ilt y19 (len y4))) (af (lZ (ai y4 (itn y19)) y7.1) fun y20=>cnd (ak (ieq y20.2 0)) (some (x0,3)) (cnd (ile (len (bP y3 [y7.1])) 68719476736) (af (eY (ax.mk x0.accounts x0.symbols (bP y3 [y7.1]) (cO y4 (itn y19) y20.1) y5 y6 x0.kill y7.1.id x0.seq x0.lsn) (ax.mk x0.accounts x0.symbols y15 y16 y17 y18 x0.kill x0.last x0.seq x0.lsn) y7.1.account y7.1.symbol) fun y21=>cnd (ak (ieq y21 0)) (some (x0,y21)) (some (ax.mk x0.accounts x0.symbols (bP y3 [y7.1]) (cO y4 (itn y19) y20.1) y5 y6 x0.kill y7.1.id x0.seq (wr .i64 (aF x0.lsn 1)),0))) none)) none)))) (cnd (ile x0.symbols x1.symbol) (some (x0,1)) (cnd x0.kill (some (x0,5)) (cnd (ieq (len y3) 64) (some (x0,6)) (af (fJ y3) fun y22=>af (gq y4) fun y23=>af (gm y5) fun y24=>af (iF y6) fun y25=>af (bK (ax.mk x0.accounts x0.symbols y3 y4 y5 y6 x0.kill x0.last x0.seq x0.lsn) y7.1.account y7.1.symbol) fun y26=>cnd (band (ile 0 y26) (ilt y26 (len y4))) (af (lZ (ai y4 (itn y26)) y7.1) fun y27=>cnd (ak (ieq y27.2 0)) (some (x0,3)) (cnd (ile (len (bP y3 [y7.1])) 68719476736) (af (eY (ax.mk x0.accounts x0.symbols (bP y3 [y7.1]) (cO y4 (itn y26) y27.1) y5 y6 x0.kill y7.1.id x0.seq x0.lsn) (ax.mk x0.accounts x0.symbols y22 y23 y24 y25 x0.kill x0.last x0.seq x0.lsn) y7.1.account y7.1.symbol) fun y28=>cnd (ak (ieq y28 0)) (some (x0,y28)) (some (ax.mk x0.accounts x0.symbols (bP y3 [y7.1]) (cO y4 (itn y26) y27.1) y5 y6 x0.kill y7.1.id x0.seq (wr .i64 (aF x0.lsn 1)),0))) none)) none)))))) (cnd (ieq x1.kind 2) (af (um (ax.mk x0.accounts x0.symbols y3 y4 y5 y6 x0.kill x0.last x0.seq x0.lsn) x1.order) fun y29=>cnd (ieq y29 (-1)) (some (x0,7)) (cnd (band (ile 0 y29) (ilt y29 (len y3))) (af (yc (ai y3 (itn y29)) x1.qty x1.price) fun y30=>cnd (ak (ieq y30.2 0)) (some (x0,8)) (cnd x0.kill (some (x0,5)) (af (fJ y3) fun y31=>af (gq y4) fun y32=>af (gm y5) fun y33=>af (iF y6) fun y34=>af (bK (ax.mk x0.accounts x0.symbols y3 y4 y5 y6 x0.kill x0.last x0.seq x0.lsn) (ai y3 (itn y29)).account (ai y3 (itn y29)).symbol) fun y35=>cnd (band (ile 0 y35) (ilt y35 (len y4))) (af (Gg (ai y4 (itn y35)) (ai y3 (itn y29))) fun y36=>af (lZ y36.1 y30.1) fun y37=>cnd (ak (ieq y37.2 0)) (some (x0,3)) (cnd (band (ile 0 y29) (ilt y29 (len y3))) (af (eY (ax.mk x0.accounts x0.symbols (cO y3 (itn y29) y30.1) (cO y4 (itn y35) y37.1) y5 y6 x0.kill x0.last x0.seq x0.lsn) (ax.mk x0.accounts x0.symbols y31 y32 y33 y34 x0.kill x0.last x0.seq x0.lsn) (ai y3 (itn y29)).account (ai y3 (itn y29)).symbol) fun y38=>cnd (ak (ieq y38 0)) (some (x0,y38)) (some (ax.mk x0.accounts x0.symbols (cO y3 (itn y29) y30.1) (cO y4 (itn y35) y37.1) y5 y6 x0.kill x0.last x0.seq (wr .i64 (aF x0.lsn 1)),0))) none)) none))) none)) (cnd (ieq x1.kind 3) (af (um (ax.mk x0.accounts x0.symbols y3 y4 y5 y6 x0.kill x0.last x0.seq x0.lsn) x1.order) fun y39=>cnd (ieq y39 (-1)) (some (x0,7)) (cnd (band (ile 0 y39) (ilt y39 (len y3))) (af (ER (ai y3 (itn y39))) fun y40=>cnd (band (ile 0 y39) (ilt y39 (len y3))) (cnd (ak (ieq y40.2 0)) (some (x0,y40.2)) (some (ax.mk x0.accounts x0.symbols (cO y3 (itn y39) y40.1) y4 y5 y6 x0.kill x0.last x0.seq (wr .i64 (aF x0.lsn 1)),0))) none) none)) (cnd (ieq x1.kind 4) (cnd (ile x0.accounts x1.account) (cnd (ile x0.accounts x1.account) (some (x0,1)) (cnd (ieq x1.symbol (-1)) (cnd (band (ile 0 x1.account) (ilt x1.account (len y6))) (some (ax.mk x0.accounts x0.symbols y3 y4 y5 (cO y6 (itn x1.account) x1.opn) x0.kill x0.last x0.seq (wr .i64 (aF x0.lsn 1)),0)) none) (af (bK (ax.mk x0.accounts x0.symbols y3 y4 y5 y6 x0.kill x0.last x0.seq x0.lsn) x1.account x1.symbol) fun y41=>cnd (band (ile 0 y41) (ilt y41 (len y5))) (some (ax.mk x0.accounts x0.symbols y3 y4 (cO y5 (itn y41) (fB.mk x1.long x1.short x1.opn)) y6 x0.kill x0.last x0.seq (wr .i64 (aF x0.lsn 1)),0)) none))) (cnd (ile x0.symbols x1.symbol) (some (x0,1)) (cnd (ieq x1.symbol (-1)) (cnd (band (ile 0 x1.account) (ilt x1.account (len y6))) (some (ax.mk x0.accounts x0.symbols y3 y4 y5 (cO y6 (itn x1.account) x1.opn) x0.kill x0.last x0.seq (wr .i64 (aF x0.lsn 1)),0)) none) (af (bK (ax.mk x0.accounts x0.symbols y3 y4 y5 y6 x0.kill x0.last x0.seq x0.lsn) x1.account x1.symbol) fun y42=>cnd (band (ile 0 y42) (ilt y42 (len y5))) (some (ax.mk x0.accounts x0.symbols y3 y4 (cO y5 (itn y42) (fB.mk x1.long x1.short x1.opn)) y6 x0.kill x0.last x0.seq (wr .i64 (aF x0.lsn 1)),0)) none)))) (cnd (ieq x1.kind 5) (some (ax.mk x0.accounts x0.symbols y3 y4 y5 y6 x1.on x0.last x0.seq (wr .i64 (aF x0.lsn 1)),0)) (cnd (ak (ieq x1.seq (wr .i64 (aF x0.seq 1)))) (some (x0,11)) (af (um (ax.mk x0.accounts x0.symbols y3 y4 y5 y6 x0.kill x0.last x1.seq x0.lsn) x1.order) fun y43=>cnd (ieq y43 (-1)) (some (ax.mk x0.accounts x0.symbols y3 y4 y5 y6 x0.kill x0.last x1.seq (wr .i64 (aF x0.lsn 1)),0)) (cnd (band (ile 0 y43) (ilt y43 (len y3))) (af (CW (ai y3 (itn y43)) (uy.mk x1.seq x1.what x1.order x1.qty x1.price)) fun y44=>cnd (ak (ieq y44.2 0)) (some (ax.mk x0.accounts x0.symbols y3 y4 y5 y6 x0.kill x0.last x1.seq (wr .i64 (aF x0.lsn 1)),0)) (af (bK (ax.mk x0.accounts x0.symbols y3 y4 y5 y6 x0.kill x0.last x1.seq x0.lsn) (ai y3 (itn y43)).account (ai y3 (itn y43)).symbol) fun y45=>cnd (band (ile 0 y45) (ilt y45 (len y4))) (af (Gg (ai y4 (itn y45)) (ai y3 (itn y43))) fun y46=>af (lZ (ai (cO y4 (itn y45) y46.1) (itn y45)) y44.1) fun y47=>cnd (ieq x1.what 3) (af (Hg (ai (cO (cO y4 (itn y45) y46.1) (itn y45) y47.1) (itn y45)) (ai y3 (itn y43)).side x1.qty) fun y48=>cnd (band (ile 0 y43) (ilt y43 (len y3))) (cnd (ieq y44.1.phase 3) (af (jb (cO y3 (itn y43) y44.1) y43 (wr .i64 (aF y43 1))) fun y49=>some (ax.mk x0.accounts x0.symbols y49 (cO (cO (cO y4 (itn y45) y46.1) (itn y45) y47.1) (itn y45) y48.1) y5 y6 x0.kill x0.last x1.seq (wr .i64 (aF x0.lsn 1)),0)) (some (ax.mk x0.accounts x0.symbols (cO y3 (itn y43) y44.1) (cO (cO (cO y4 (itn y45) y46.1) (itn y45) y47.1) (itn y45) y48.1) y5 y6 x0.kill x0.last x1.seq (wr .i64 (aF x0.lsn 1)),0))) none) (cnd (band (ile 0 y43) (ilt y43 (len y3))) (cnd (ieq y44.1.phase 3) (af (jb (cO y3 (itn y43) y44.1) y43 (wr .i64 (aF y43 1))) fun y50=>some (ax.mk x0.accounts x0.symbols y50 (cO (cO y4 (itn y45) y46.1) (itn y45) y47.1) y5 y6 x0.kill x0.last x1.seq (wr .i64 (aF x0.lsn 1)),0)) (some (ax.mk x0.accounts x0.symbols (cO y3 (itn y43) y44.1) (cO (cO y4 (itn y45) y46.1) (itn y45) y47.1) y5 y6 x0.kill x0.last x1.seq (wr .i64 (aF x0.lsn 1)),0))) none)) none)) none))))))))
def CX:aA:=mkSpec [.val .state,.val .recd] [.val .state,.int .i64] false (fun x=>Ad x.1 x.2)
theorem N9:bg PG 67 CX:=okN [(117,qP),(58,mZ),(28,kQ),(178,sH),(179,uD),(180,uw),(181,xI),(182,Gl),(183,jD),(184,zo),(185,yP),(51,DY),(186,EY),(187,P6),(188,J7),(189,IW),(190,Na),(191,ru)] [118,119,120,121,122,123] ⟨Aq,uX,o8,Ep,Fh,FU,Je,U2,ng,IA,La,Po,Tj,ace,Zc,Xf,aaI,D8,trivial⟩ fun x=>by kernel_rfl
def xJ (p0:Int) (p1:(List bV)) (v0:Int) (v1:Int) (v2:jZ):Option ((Int×Int×jZ) ⊕ ((Int×jZ))):=cnd (ilt v0 p0) (cnd (band (ile 0 v0) (ilt v0 (len p1))) (cnd (ieq v1 0) (af (Ad v2.g.state (ai p1 (itn v0))) fun y0=>some (Sum.inl (wr .i64 (aF v0 1),y0.2,jZ.mk (aT.mk v2.g.disk v2.g.wal y0.1 v2.g.outbox v2.g.feed v2.g.gen v2.g.up) v2.e))) (some (Sum.inl (wr .i64 (aF v0 1),v1,v2)))) none) (some (Sum.inr (v1,v2)))
def Fz:dh:=LSh.spec ⟨113,[(46,.int .i64),(45,.ro .recd)],[(0,.mp 0 0)],[],[(47,.int .i64),(4,.int .i64)],[(0,[.val .sleeper])],[]⟩ [⟨.exit 0,[(4,.int .i64)],[(0,[.val .sleeper])],[]⟩] (sP [(4,1),(6,1),(47,21)]) (fun p v=>xJ p.1 p.2 v.1 v.2.1 v.2.2)
def Cb (x0:jZ):Option (jZ×(Unit)):=af (UG x0.g.disk x0.g.state.lsn) fun y0=>cnd (ak (ieq y0.2.2.2 0)) (some (jZ.mk (aT.mk y0.2.1 y0.1 x0.g.state x0.g.outbox x0.g.feed x0.g.gen x0.g.up) y0.2.2.2,PUnit.unit)) (af (RH y0.2.2.1) fun y1=>af (bZ (fun v=>xJ (len y1.1) y1.1 v.1 v.2.1 v.2.2) LF (0,y1.2,jZ.mk (aT.mk y0.2.1 y0.1 x0.g.state x0.g.outbox x0.g.feed x0.g.gen x0.g.up) y0.2.2.2)) fun y2=>cnd (ak (ieq y2.1 0)) (some (jZ.mk y2.2.g 2,PUnit.unit)) (some (y2.2,PUnit.unit)))
def yG:aA:=vC .sleeper [] [] (fun x=>Cb x.1)
theorem JW:bg PG 47 yG:=okB [(92,Nw),(93,JD),(67,CX)] [4095] [(47,250,Fz)] ⟨Z7,ZC,N9,trivial⟩ (fun K=>⟨iU K fun p v=>by kernel_rfl,trivial⟩) fun x=>by kernel_rfl
def jP (x0:eu):Option (Bool):=cnd (bor (bor (bor (bor (bor (ilt x0.order 1) (ilt 1000000000000 x0.order)) (ilt x0.account 0)) (ile 8 x0.account)) (ilt x0.symbol 0)) (ile 8 x0.symbol)) (some false) (cnd (bor (bor (band (ak (ieq x0.side 1)) (ak (ieq x0.side 2))) (ilt x0.lsn 0)) (ilt 1000000000 x0.lsn)) (some false) (cnd (ieq x0.kind 1) (some (band (band (ile 1 x0.qty) (ile 1 x0.price)) (ieq x0.version 0))) (cnd (ieq x0.kind 2) (some (band (band (ile 1 x0.qty) (ile 1 x0.price)) (ile 1 x0.version))) (cnd (ieq x0.kind 3) (some (band (band (ieq x0.qty 0) (ieq x0.price 0)) (ieq x0.version 0))) (some false)))))
def vN:aA:=mkSpec [.val .msg] [.bool] true (fun x=>jP x)
theorem EW:bg PG 102 vN:=okN [] [] trivial fun x=>by kernel_rfl
def gu (x0:Int) (x1:au) (x2:Int):Option (eu):=cnd (ieq x0 1) (af (fM x1) fun y0=>af (cnd (ak (ak y0)) (jP (eu.mk x0 x1.id x1.account x1.symbol x1.side x1.qty x1.price 0 x2)) (some false)) fun y1=>cnd (bor (ak y0) (ak y1)) (some (eu.mk 0 0 0 0 0 0 0 0 0)) (some (eu.mk x0 x1.id x1.account x1.symbol x1.side x1.qty x1.price 0 x2))) (cnd (ieq x0 2) (af (fM x1) fun y2=>af (cnd (ak (ak y2)) (jP (eu.mk x0 x1.id x1.account x1.symbol x1.side x1.newQty x1.newPrice x1.version x2)) (some false)) fun y3=>cnd (bor (ak y2) (ak y3)) (some (eu.mk 0 0 0 0 0 0 0 0 0)) (some (eu.mk x0 x1.id x1.account x1.symbol x1.side x1.newQty x1.newPrice x1.version x2))) (af (fM x1) fun y4=>af (cnd (ak (ak y4)) (jP (eu.mk x0 x1.id x1.account x1.symbol x1.side 0 0 0 x2)) (some false)) fun y5=>cnd (bor (ak y4) (ak y5)) (some (eu.mk 0 0 0 0 0 0 0 0 0)) (some (eu.mk x0 x1.id x1.account x1.symbol x1.side 0 0 0 x2))))
def DW:aA:=mkSpec [.int .i64,.val .order,.int .i64] [.val .msg] true (fun x=>gu x.1 x.2.1 x.2.2)
theorem Pm:bg PG 53 DW:=okN [(101,gX),(102,vN)] [] ⟨kE,EW,trivial⟩ fun x=>by kernel_rfl
def Em (p0:Int) (p1:(List au)) (p2:Int) (p3:Unit) (p4:Int) (p5:Unit) (p6:Int) (p7:Unit) (v0:Int) (v1:(List eu)):Option ((Int×(List eu)) ⊕ (((List eu)))):=cnd (ilt v0 p0) (cnd (band (ile 0 v0) (ilt v0 (len p1))) (cnd (ieq (ai p1 (itn v0)).phase 1) (af (gu p2 (ai p1 (itn v0)) 0) fun y0=>cnd (ile (len (bP v1 [y0])) 68719476736) (cnd (ilt 0 (ai p1 (itn v0)).newQty) (af (gu p4 (ai p1 (itn v0)) 0) fun y1=>cnd (ile (len (bP (bP v1 [y0]) [y1])) 68719476736) (cnd (ai p1 (itn v0)).asked (af (gu p6 (ai p1 (itn v0)) 0) fun y2=>cnd (ile (len (bP (bP (bP v1 [y0]) [y1]) [y2])) 68719476736) (some (Sum.inl (wr .i64 (aF v0 1),bP (bP (bP v1 [y0]) [y1]) [y2]))) none) (some (Sum.inl (wr .i64 (aF v0 1),bP (bP v1 [y0]) [y1])))) none) (cnd (ai p1 (itn v0)).asked (af (gu p6 (ai p1 (itn v0)) 0) fun y3=>cnd (ile (len (bP (bP v1 [y0]) [y3])) 68719476736) (some (Sum.inl (wr .i64 (aF v0 1),bP (bP v1 [y0]) [y3]))) none) (some (Sum.inl (wr .i64 (aF v0 1),bP v1 [y0]))))) none) (cnd (ilt 0 (ai p1 (itn v0)).newQty) (af (gu p4 (ai p1 (itn v0)) 0) fun y4=>cnd (ile (len (bP v1 [y4])) 68719476736) (cnd (ai p1 (itn v0)).asked (af (gu p6 (ai p1 (itn v0)) 0) fun y5=>cnd (ile (len (bP (bP v1 [y4]) [y5])) 68719476736) (some (Sum.inl (wr .i64 (aF v0 1),bP (bP v1 [y4]) [y5]))) none) (some (Sum.inl (wr .i64 (aF v0 1),bP v1 [y4])))) none) (cnd (ai p1 (itn v0)).asked (af (gu p6 (ai p1 (itn v0)) 0) fun y6=>cnd (ile (len (bP v1 [y6])) 68719476736) (some (Sum.inl (wr .i64 (aF v0 1),bP v1 [y6]))) none) (some (Sum.inl (wr .i64 (aF v0 1),v1)))))) none) (some (Sum.inr v1))
def Mc:dh:=LSh.spec ⟨80,[(18,.int .i64),(17,.ro .order)],[(3,.rs 72 2 0 3)],[(72,[.int .i64,.fnv 94,.int .i64,.fnv 95,.int .i64,.fnv 96])],[(19,.int .i64),(4,.buf .msg)],[],[]⟩ [⟨.exit 0,[(4,.buf .msg)],[],[]⟩] (sP [(4,1),(6,1),(8,1),(19,23)]) (fun p v=>Em p.1 p.2.1 p.2.2.1 p.2.2.2.1 p.2.2.2.2.1 p.2.2.2.2.2.1 p.2.2.2.2.2.2.1 p.2.2.2.2.2.2.2 v.1 v.2)
def Ky (x0:ax):Option ((List eu)):=af (iZ x0) fun y0=>cnd (ak y0) (some []) (af (bZ (fun v=>Em (len x0.orders) x0.orders 1 PUnit.unit 2 PUnit.unit 3 PUnit.unit v.1 v.2) LF (0,[])) fun y1=>some y1)
def EU:aA:=mkSpec [.val .state] [.buf .msg] true (fun x=>Ky x)
theorem TF:bg PG 48 EU:=okP [(28,kQ),(53,DW)] [4095,94,95,96] [(48,250,Mc)] ⟨o8,Pm,trivial⟩ (fun K=>⟨iU K fun p v=>by kernel_rfl,trivial⟩) fun x=>by kernel_rfl
def RP (x0:ay) (x1:ax):Option (aT×(List eu)×Int):=af (lm x0) fun y0=>af (cnd (ak (ak y0)) (iZ x1) (some false)) fun y1=>cnd (bor (ak y0) (ak y1)) (some (aT.mk x0 (dO.mk 0 0 0 0 0 []) (ax.mk 0 0 [] [] [] [] false 0 0 0) [] (vG.mk [] false) 0 false,[],1)) (af (Cj (jZ.mk (aT.mk x0 (dO.mk 0 0 0 0 0 []) (ax.mk 0 0 [] [] [] [] false 0 0 0) [] (vG.mk [] false) 0 false) 0) x1) fun y2=>cnd (ak (ieq y2.1.e 0)) (some (aT.mk y2.1.g.disk (dO.mk 0 0 0 0 0 []) (ax.mk 0 0 [] [] [] [] false 0 0 0) [] (vG.mk [] false) 0 false,[],y2.1.e)) (af (Cb y2.1) fun y3=>cnd (ak (ieq y3.1.e 0)) (some (aT.mk y3.1.g.disk (dO.mk 0 0 0 0 0 []) (ax.mk 0 0 [] [] [] [] false 0 0 0) [] (vG.mk [] false) 0 false,[],y3.1.e)) (af (Ky y3.1.g.state) fun y4=>some (aT.mk y3.1.g.disk y3.1.g.wal y3.1.g.state y3.1.g.outbox y3.1.g.feed y3.1.g.gen true,y4,0))))
def JO:aA:=mkSpec [.val .disk,.val .state] [.val .gate,.buf .msg,.int .i64] false (fun x=>RP x.1 x.2)
theorem Y6:bg PG 19 JO:=okN [(44,kN),(28,kQ),(46,yu),(47,yG),(48,EU)] [4095,4094,45] ⟨oV,o8,KA,JW,TF,trivial⟩ fun x=>by kernel_rfl
def wO (p0:Int) (p1:(List bD)) (v0:Int) (v1:Bool) (v2:Int) (v3:Int):Option ((Int×Bool×Int×Int) ⊕ ((Bool×Int×Int) ⊕ ((Bool×Int×Int)))):=cnd (ilt v0 p0) (cnd (band (ile 0 v0) (ilt v0 (len p1))) (af (o9 (ai p1 (itn v0))) fun y0=>cnd (bor (bor (ak y0) (ak (ieq (ai p1 (itn v0)).lsn v2))) (ilt (ai p1 (itn v0)).epoch v3)) (some (Sum.inr (Sum.inl (false,v2,v3)))) (some (Sum.inl (wr .i64 (aF v0 1),v1,wr .i64 (aF (ai p1 (itn v0)).lsn 1),(ai p1 (itn v0)).epoch)))) none) (some (Sum.inr (Sum.inr (v1,v2,v3))))
def Vx:dh:=LSh.spec ⟨76,[(14,.int .i64),(13,.ro .frame)],[(7,.mp 56 0)],[],[(15,.int .i64),(6,.bool)],[(56,[.int .i64,.int .i64])],[]⟩ [⟨.ret,[(6,.bool)],[(56,[.int .i64,.int .i64])],[]⟩,⟨.exit 0,[(6,.bool)],[(56,[.int .i64,.int .i64])],[]⟩] (sP [(6,1),(9,1),(15,8)]) (fun p v=>wO p.1 p.2 v.1 v.2.1 v.2.2.1 v.2.2.2)
def Hq (x0:(List bD)) (x1:Int) (x2:Int):Option (Bool):=af (bZ (fun v=>wO (len x0) x0 v.1 v.2.1 v.2.2.1 v.2.2.2) LF (0,false,x1,x2)) fun y0=>fO y0 (fun y1=>some y1.1) fun y1=>some true
def Nj:aA:=mkSpec [.ro .frame,.int .i64,.int .i64] [.bool] true (fun x=>Hq x.1 x.2.1 x.2.2)
theorem aa1:bg PG 107 Nj:=okP [(233,qi)] [175] [(107,58,Vx)] ⟨yK,trivial⟩ (fun K=>⟨iU K fun p v=>by kernel_rfl,trivial⟩) fun x=>by kernel_rfl
def bY (p0:Int) (p1:(List bD)) (p2:Int) (p3:Int) (p4:Int) (p5:Int) (p6:Int) (p7:(List bD)) (v0:Int) (v1:Int):Option ((Int×Int) ⊕ ((Int) ⊕ ((Int)))):=cnd (ilt v0 p0) (cnd (band (ile 0 v0) (ilt v0 (len p1))) (cnd (ak (ieq (ai p1 (itn v0)).epoch p2)) (some (Sum.inr (Sum.inl v0))) (some (Sum.inl (wr .i64 (aF v0 1),v1)))) none) (some (Sum.inr (Sum.inr v1)))
def mQ:dh:=LSh.spec ⟨140,[(7,.int .i64),(0,.ro .frame)],[(1,.fn 106 [.mp 8 0])],[(8,[.int .i64,.int .i64,.int .i64,.int .i64,.int .i64,.ro .frame])],[(8,.int .i64),(4,.int .i64)],[],[]⟩ [⟨.ret,[(4,.int .i64)],[],[]⟩,⟨.exit 0,[(4,.int .i64)],[],[]⟩] (sP [(4,2),(8,11)]) (fun p v=>bY p.1 p.2.1 p.2.2.1 p.2.2.2.1 p.2.2.2.2.1 p.2.2.2.2.2.1 p.2.2.2.2.2.2.1 p.2.2.2.2.2.2.2 v.1 v.2)
def xK (x0:dO):Option (Bool):=cnd (bor (bor (bor (bor (bor (ilt x0.epoch 1) (ilt 1000000 x0.epoch)) (ilt x0.next 1)) (ilt 1000000001 x0.next)) (ilt x0.sure 0)) (ile x0.next x0.sure)) (some false) (af (cnd (ak (bor (ilt 32 (len x0.wait)) (ak (ieq (len x0.wait) (wr .i64 (aS (wr .i64 (aS x0.next 1)) x0.sure)))))) (Hq x0.wait (wr .i64 (aF x0.sure 1)) 1) (some false)) fun y0=>cnd (ak (bor (bor (ilt 32 (len x0.wait)) (ak (ieq (len x0.wait) (wr .i64 (aS (wr .i64 (aS x0.next 1)) x0.sure))))) (ak y0))) (af (bZ (fun v=>bY (len x0.wait) x0.wait x0.epoch x0.next x0.sure x0.seg x0.count x0.wait v.1 v.2) LF (0,0)) fun y1=>fO y1 (fun y2=>cnd (bor (bor (bor (ilt 32 (len x0.wait)) (ak (ieq (len x0.wait) (wr .i64 (aS (wr .i64 (aS x0.next 1)) x0.sure))))) (ak y0)) (ile 0 y2)) (some false) (cnd (ieq x0.seg 0) (some (ieq x0.count 0)) (some (band (band (band (band (ile 1 x0.seg) (ile 1 x0.count)) (ile x0.count 8)) (ile x0.seg (wr .i64 (aF x0.sure 1)))) (ieq (wr .i64 (aF x0.seg x0.count)) (wr .i64 (aF x0.sure 1))))))) fun y2=>cnd (bor (bor (bor (ilt 32 (len x0.wait)) (ak (ieq (len x0.wait) (wr .i64 (aS (wr .i64 (aS x0.next 1)) x0.sure))))) (ak y0)) false) (some false) (cnd (ieq x0.seg 0) (some (ieq x0.count 0)) (some (band (band (band (band (ile 1 x0.seg) (ile 1 x0.count)) (ile x0.count 8)) (ile x0.seg (wr .i64 (aF x0.sure 1)))) (ieq (wr .i64 (aF x0.seg x0.count)) (wr .i64 (aF x0.sure 1))))))) (cnd (bor (bor (bor (ilt 32 (len x0.wait)) (ak (ieq (len x0.wait) (wr .i64 (aS (wr .i64 (aS x0.next 1)) x0.sure))))) (ak y0)) false) (some false) (cnd (ieq x0.seg 0) (some (ieq x0.count 0)) (some (band (band (band (band (ile 1 x0.seg) (ile 1 x0.count)) (ile x0.count 8)) (ile x0.seg (wr .i64 (aF x0.sure 1)))) (ieq (wr .i64 (aF x0.seg x0.count)) (wr .i64 (aF x0.sure 1))))))))
def yD:aA:=mkSpec [.val .wal] [.bool] true (fun x=>xK x)
theorem Ia:bg PG 56 yD:=okP [(107,Nj)] [106,108,176] [(1033018829675870585008,26,mQ)] ⟨aa1,trivial⟩ (fun K=>⟨iU K fun p v=>by kernel_rfl,trivial⟩) fun x=>by kernel_rfl
def oD (p0:Int) (p1:(List eu)) (p2:Int) (v0:Int) (v1:Bool) (v2:Int):Option ((Int×Bool×Int) ⊕ ((Bool) ⊕ ((Bool)))):=cnd (ilt v0 p0) (cnd (band (ile 0 v0) (ilt v0 (len p1))) (af (jP (ai p1 (itn v0))) fun y0=>cnd (bor (bor (ak y0) (ile (ai p1 (itn v0)).lsn v2)) (ilt p2 (ai p1 (itn v0)).lsn)) (some (Sum.inr (Sum.inl false))) (some (Sum.inl (wr .i64 (aF v0 1),v1,(ai p1 (itn v0)).lsn)))) none) (some (Sum.inr (Sum.inr v1)))
def Ou:dh:=LSh.spec ⟨71,[(10,.int .i64),(9,.ro .msg),(2,.int .i64)],[],[],[(11,.int .i64),(6,.bool),(1,.int .i64)],[],[]⟩ [⟨.ret,[(6,.bool)],[],[]⟩,⟨.exit 0,[(6,.bool)],[],[]⟩] (sP [(1,1),(6,1),(8,1),(11,22)]) (fun p v=>oD p.1 p.2.1 p.2.2 v.1 v.2.1 v.2.2)
def yQ (x0:(List eu)) (x1:Int) (x2:Int):Option (Bool):=af (bZ (fun v=>oD (len x0) x0 x2 v.1 v.2.1 v.2.2) LF (0,false,x1)) fun y0=>fO y0 (fun y1=>some y1) fun y1=>some true
def EO:aA:=mkSpec [.ro .msg,.int .i64,.int .i64] [.bool] true (fun x=>yQ x.1 x.2.1 x.2.2)
theorem Td:bg PG 60 EO:=okP [(102,vN)] [] [(60,26,Ou)] ⟨EW,trivial⟩ (fun K=>⟨iU K fun p v=>by kernel_rfl,trivial⟩) fun x=>by kernel_rfl
def qh (p0:Int) (p1:(List uy)) (p2:Int) (v0:Int) (v1:Int) (v2:Bool):Option ((Int×Int×Bool) ⊕ ((Bool) ⊕ ((Bool)))):=cnd (ilt v0 p0) (cnd (band (ile 0 v0) (ilt v0 (len p1))) (cnd (bor (ile (ai p1 (itn v0)).seq v1) (ilt (wr .i64 (aF p2 8)) (ai p1 (itn v0)).seq)) (some (Sum.inr (Sum.inl false))) (some (Sum.inl (wr .i64 (aF v0 1),(ai p1 (itn v0)).seq,v2)))) none) (some (Sum.inr (Sum.inr v2)))
def Qc:dh:=LSh.spec ⟨86,[(23,.int .i64),(22,.ro .note),(1,.int .i64)],[],[],[(24,.int .i64),(5,.int .i64),(4,.bool)],[],[]⟩ [⟨.ret,[(4,.bool)],[],[]⟩,⟨.exit 0,[(4,.bool)],[],[]⟩] (sP [(4,2),(7,1),(24,18)]) (fun p v=>qh p.1 p.2.1 p.2.2 v.1 v.2.1 v.2.2)
def CP (x0:vG) (x1:Int):Option (Bool):=cnd (bor (bor (ilt x1 1) (ilt 1000000001 x1)) (ilt 8 (len x0.held))) (some false) (af (bZ (fun v=>qh (len x0.held) x0.held x1 v.1 v.2.1 v.2.2) LF (0,x1,false)) fun y0=>fO y0 (fun y1=>some y1) fun y1=>some true)
def IQ:aA:=mkSpec [.val .feed,.int .i64] [.bool] true (fun x=>CP x.1 x.2)
theorem WO:bg PG 61 IQ:=okP [] [] [(61,122,Qc)] trivial (fun K=>⟨iU K fun p v=>by kernel_rfl,trivial⟩) fun x=>by kernel_rfl
def uQ (p0:Int) (p1:(List aI)) (p2:dO) (v0:Int) (v1:Bool) (v2:Bool):Option ((Int×Bool×Bool) ⊕ ((Bool) ⊕ ((Bool×Bool)))):=cnd (ilt v0 p0) (cnd (band (ile 0 v0) (ilt v0 (len p1))) (af (CY (ai p1 (itn v0)).name) fun y0=>cnd (band (ilt 0 y0) (ieq y0 p2.seg)) (some (Sum.inl (wr .i64 (aF v0 1),ieq (len (ai p1 (itn v0)).data) (wr .i64 (eF p2.count 72)),v2))) (cnd (ilt p2.sure y0) (some (Sum.inr (Sum.inl false))) (some (Sum.inl (wr .i64 (aF v0 1),v1,v2))))) none) (some (Sum.inr (Sum.inr (v1,v2))))
def TD:dh:=LSh.spec ⟨85,[(22,.int .i64),(21,.ro .file)],[(2,.mp 16 0)],[(16,[.val .wal])],[(23,.int .i64),(5,.bool),(4,.bool)],[],[]⟩ [⟨.ret,[(4,.bool)],[],[]⟩,⟨.exit 0,[(5,.bool),(4,.bool)],[],[]⟩] (sP [(4,2),(7,2),(23,29)]) (fun p v=>uQ p.1 p.2.1 p.2.2 v.1 v.2.1 v.2.2)
def DL (x0:dO) (x1:ay):Option (Bool):=af (xK x0) fun y0=>af (cnd (ak (ak y0)) (lm x1) (some false)) fun y1=>cnd (bor (ak y0) (ak y1)) (some false) (af (bZ (fun v=>uQ (len x1.files) x1.files x0 v.1 v.2.1 v.2.2) LF (0,ieq x0.seg 0,false)) fun y2=>fO y2 (fun y3=>some y3) fun y3=>some y3.1)
def F7:aA:=mkSpec [.val .wal,.val .disk] [.bool] true (fun x=>DL x.1 x.2)
theorem RD:bg PG 170 F7:=okP [(56,yD),(44,kN),(224,BO)] [] [(170,122,TD)] ⟨Ia,oV,ML,trivial⟩ (fun K=>⟨iU K fun p v=>by kernel_rfl,trivial⟩) fun x=>by kernel_rfl
def uH (p0:Int) (p1:Int) (p2:(List Int)) (p3:(List Int)) (p4:dO) (v0:Int) (v1:Int) (v2:ay) (v3:ay):Option ((Int×Int×ay×ay) ⊕ ((Int×ay×ay) ⊕ ((Int×ay×ay)))):=cnd (ilt v0 p0) (cnd (band (ile 0 v0) (ilt v0 (len p2))) (cnd (ilt (wr .i64 (aF v0 1)) (len p3)) (cnd (band (ile 0 (wr .i64 (aF v0 1))) (ilt (wr .i64 (aF v0 1)) (len p3))) (cnd (ieq (ai p2 (itn v0)) p4.seg) (some (Sum.inl (wr .i64 (aF v0 1),v1,v2,v3))) (cnd (ilt p1 (wr .i64 (aS (ai p3 (itn (wr .i64 (aF v0 1)))) 1))) (some (Sum.inr (Sum.inl (v1,v2,v3)))) (af (iL (ai p2 (itn v0))) fun y0=>af (pq v3 y0) fun y1=>cnd (ak (ieq y1.2 0)) (some (Sum.inr (Sum.inr (y1.2,y1.1,y1.1)))) (some (Sum.inl (wr .i64 (aF v0 1),v1,v2,y1.1)))))) none) (cnd (ieq (ai p2 (itn v0)) p4.seg) (some (Sum.inl (wr .i64 (aF v0 1),v1,v2,v3))) (cnd (ilt p1 p4.sure) (some (Sum.inr (Sum.inl (v1,v2,v3)))) (af (iL (ai p2 (itn v0))) fun y2=>af (pq v3 y2) fun y3=>cnd (ak (ieq y3.2 0)) (some (Sum.inr (Sum.inr (y3.2,y3.1,y3.1)))) (some (Sum.inl (wr .i64 (aF v0 1),v1,v2,y3.1))))))) none) (some (Sum.inr (Sum.inl (v1,v2,v3))))
def Tf:dh:=LSh.spec ⟨81,[(22,.int .i64),(2,.int .i64),(21,.ro .i64),(8,.ro .i64)],[(6,.mp 40 0),(4,.mp 32 0),(3,.mp 24 0)],[(24,[.val .wal])],[(23,.int .i64),(7,.int .i64)],[(40,[.val .disk]),(32,[.val .disk])],[]⟩ [⟨.exit 0,[(7,.int .i64)],[(40,[.val .disk]),(32,[.val .disk])],[]⟩,⟨.ret,[(7,.int .i64)],[(40,[.val .disk]),(32,[.val .disk])],[]⟩] (sP [(7,1),(9,5),(23,38)]) (fun p v=>uH p.1 p.2.1 p.2.2.1 p.2.2.2.1 p.2.2.2.2 v.1 v.2.1 v.2.2.1 v.2.2.2)
def Hl (x0:dO) (x1:ay) (x2:Int):Option (ay×Int):=af (DL x0 x1) fun y0=>cnd (ak y0) (some (x1,1)) (af (mV x1) fun y1=>af (bZ (fun v=>uH (len y1) x2 y1 y1 x0 v.1 v.2.1 v.2.2.1 v.2.2.2) LF (0,0,ay.mk [] 0 0 false,x1)) fun y2=>fO y2 (fun y3=>some (y3.2.2,0)) fun y3=>some (y3.2.1,y3.1))
def Nl:aA:=mkSpec [.val .wal,.val .disk,.int .i64] [.val .disk,.int .i64] false (fun x=>Hl x.1 x.2.1 x.2.2)
theorem ZT:bg PG 115 Nl:=okP [(170,F7),(163,sV),(173,pz),(177,uU)] [] [(115,122,Tf)] ⟨RD,BM,xC,JM,trivial⟩ (fun K=>⟨iU K fun p v=>by kernel_rfl,trivial⟩) fun x=>by kernel_rfl
def qH (x0:dO) (x1:ay):Option (Bool):=af (Hl x0 x1 0) fun y0=>some (ak (ieq y0.2 1))
def Jt:aA:=mkSpec [.val .wal,.val .disk] [.bool] true (fun x=>qH x.1 x.2)
theorem ZM:bg PG 63 Jt:=okN [(115,Nl)] [4095] ⟨ZT,trivial⟩ fun x=>by kernel_rfl
def nS (x0:aT):Option (Bool):=some (band (band (ieq (len x0.outbox) 0) (ieq (len x0.feed.held) 0)) (ak x0.feed.gap))
def IV:aA:=mkSpec [.val .gate] [.bool] true (fun x=>nS x)
theorem Xt:bg PG 64 IV:=okN [] [] trivial fun x=>by kernel_rfl
def bW (p0:Int) (p1:(List uy)) (v0:Int) (v1:Int):Option ((Int×Int) ⊕ ((Int) ⊕ ((Int)))):=cnd (ilt v0 p0) (cnd (band (ile 0 v0) (ilt v0 (len p1))) (af (yL (ai p1 (itn v0))) fun y0=>af (oK y0) fun y1=>cnd (ak y1) (some (Sum.inr (Sum.inl v0))) (some (Sum.inl (wr .i64 (aF v0 1),v1)))) none) (some (Sum.inr (Sum.inr v1)))
def mD:dh:=LSh.spec ⟨131,[(7,.int .i64),(0,.ro .note)],[(1,.fn 57 [])],[],[(8,.int .i64),(4,.int .i64)],[],[]⟩ [⟨.ret,[(4,.int .i64)],[],[]⟩,⟨.exit 0,[(4,.int .i64)],[],[]⟩] (sP [(4,2),(8,11)]) (fun p v=>bW p.1 p.2 v.1 v.2)
def zh (x0:aT):Option (Bool):=af (lm x0.disk) fun y0=>af (cnd (ak (ak y0)) (iZ x0.state) (some false)) fun y1=>af (cnd (ak (bor (ak y0) (ak y1))) (xK x0.wal) (some false)) fun y2=>cnd (bor (bor (ak y0) (ak y1)) (ak y2)) (some false) (af (cnd (ak (ak (ieq x0.state.lsn (wr .i64 (aS x0.wal.next 1))))) (yQ x0.outbox x0.wal.sure x0.state.lsn) (some false)) fun y3=>af (cnd (ak (bor (ak (ieq x0.state.lsn (wr .i64 (aS x0.wal.next 1)))) (ak y3))) (CP x0.feed (wr .i64 (aF x0.state.seq 1))) (some false)) fun y4=>cnd (ak (bor (bor (ak (ieq x0.state.lsn (wr .i64 (aS x0.wal.next 1)))) (ak y3)) (ak y4))) (af (bZ (fun v=>bW (len x0.feed.held) x0.feed.held v.1 v.2) LF (0,0)) fun y5=>fO y5 (fun y6=>cnd (bor (bor (bor (ak (ieq x0.state.lsn (wr .i64 (aS x0.wal.next 1)))) (ak y3)) (ak y4)) (ile 0 y6)) (some false) (af (cnd (band (band (band (ile 0 x0.gen) (ile x0.gen 1000000000)) (ak (beq x0.up x0.disk.down))) x0.up) (qH x0.wal x0.disk) (some false)) fun y7=>af (cnd (band (band (band (band (ile 0 x0.gen) (ile x0.gen 1000000000)) (ak (beq x0.up x0.disk.down))) (ak (band x0.up y7))) (ak x0.up)) (nS x0) (some false)) fun y8=>some (band (band (band (ile 0 x0.gen) (ile x0.gen 1000000000)) (ak (beq x0.up x0.disk.down))) (bor (band x0.up y7) (band (ak x0.up) y8))))) fun y6=>cnd (bor (bor (bor (ak (ieq x0.state.lsn (wr .i64 (aS x0.wal.next 1)))) (ak y3)) (ak y4)) false) (some false) (af (cnd (band (band (band (ile 0 x0.gen) (ile x0.gen 1000000000)) (ak (beq x0.up x0.disk.down))) x0.up) (qH x0.wal x0.disk) (some false)) fun y9=>af (cnd (band (band (band (band (ile 0 x0.gen) (ile x0.gen 1000000000)) (ak (beq x0.up x0.disk.down))) (ak (band x0.up y9))) (ak x0.up)) (nS x0) (some false)) fun y10=>some (band (band (band (ile 0 x0.gen) (ile x0.gen 1000000000)) (ak (beq x0.up x0.disk.down))) (bor (band x0.up y9) (band (ak x0.up) y10))))) (cnd (bor (bor (bor (ak (ieq x0.state.lsn (wr .i64 (aS x0.wal.next 1)))) (ak y3)) (ak y4)) false) (some false) (af (cnd (band (band (band (ile 0 x0.gen) (ile x0.gen 1000000000)) (ak (beq x0.up x0.disk.down))) x0.up) (qH x0.wal x0.disk) (some false)) fun y11=>af (cnd (band (band (band (band (ile 0 x0.gen) (ile x0.gen 1000000000)) (ak (beq x0.up x0.disk.down))) (ak (band x0.up y11))) (ak x0.up)) (nS x0) (some false)) fun y12=>some (band (band (band (ile 0 x0.gen) (ile x0.gen 1000000000)) (ak (beq x0.up x0.disk.down))) (bor (band x0.up y11) (band (ak x0.up) y12))))))
def BL:aA:=mkSpec [.val .gate] [.bool] true (fun x=>zh x)
theorem MS:bg PG 22 BL:=okP [(44,kN),(28,kQ),(56,yD),(59,BB),(58,mZ),(60,EO),(61,IQ),(63,Jt),(64,IV)] [4095,57,62,114] [(405829372642502897778,26,mD)] ⟨oV,o8,Ia,MH,uX,Td,WO,ZM,Xt,trivial⟩ (fun K=>⟨iU K fun p v=>by kernel_rfl,trivial⟩) fun x=>by kernel_rfl
def uY (x0:aT):Option (Int):=af (zh x0) fun y0=>cnd (ak y0) (some 1) (cnd (ak x0.up) (some 9) (some 0))
def wS:aA:=mkSpec [.val .gate] [.int .i64] true (fun x=>uY x)
theorem FO:bg PG 49 wS:=okN [(22,BL)] [4095] ⟨MS,trivial⟩ fun x=>by kernel_rfl
def bT (x0:(List bD)):Option ((List bD)):=zM x0
def lW:aA:=mkSpec [.ro .frame] [.buf .frame] true (fun x=>bT x)
theorem vI:bg PG 167 lW:=abn fun x=>by kernel_rfl
def LJ (x0:dO) (x1:Int) (x2:SA6):Option (dO×Int):=af (xK x0) fun y0=>cnd (ak y0) (cnd (ak y0) (some (x0,1)) (cnd (ilt 1000000000 x0.next) (some (x0,3)) (cnd (ieq (len x0.wait) 32) (some (x0,6)) (af (bT x0.wait) fun y1=>cnd (ile (len (bP y1 [bD.mk x0.epoch x0.next x1 x2.a0 x2.a1 x2.a2 x2.a3 x2.a4 x2.a5])) 68719476736) (some (dO.mk x0.epoch (wr .i64 (aF x0.next 1)) x0.sure x0.seg x0.count (bP y1 [bD.mk x0.epoch x0.next x1 x2.a0 x2.a1 x2.a2 x2.a3 x2.a4 x2.a5]),0)) none)))) (cnd (ilt x1 1) (cnd (ilt x1 1) (some (x0,1)) (cnd (ilt 1000000000 x0.next) (some (x0,3)) (cnd (ieq (len x0.wait) 32) (some (x0,6)) (af (bT x0.wait) fun y2=>cnd (ile (len (bP y2 [bD.mk x0.epoch x0.next x1 x2.a0 x2.a1 x2.a2 x2.a3 x2.a4 x2.a5])) 68719476736) (some (dO.mk x0.epoch (wr .i64 (aF x0.next 1)) x0.sure x0.seg x0.count (bP y2 [bD.mk x0.epoch x0.next x1 x2.a0 x2.a1 x2.a2 x2.a3 x2.a4 x2.a5]),0)) none)))) (cnd (ilt 6 x1) (some (x0,1)) (cnd (ilt 1000000000 x0.next) (some (x0,3)) (cnd (ieq (len x0.wait) 32) (some (x0,6)) (af (bT x0.wait) fun y3=>cnd (ile (len (bP y3 [bD.mk x0.epoch x0.next x1 x2.a0 x2.a1 x2.a2 x2.a3 x2.a4 x2.a5])) 68719476736) (some (dO.mk x0.epoch (wr .i64 (aF x0.next 1)) x0.sure x0.seg x0.count (bP y3 [bD.mk x0.epoch x0.next x1 x2.a0 x2.a1 x2.a2 x2.a3 x2.a4 x2.a5]),0)) none)))))
def OQ:aA:=mkSpec [.val .wal,.int .i64,.val .a6] [.val .wal,.int .i64] false (fun x=>LJ x.1 x.2.1 x.2.2)
theorem abX:bg PG 98 OQ:=okN [(56,yD),(167,lW)] [] ⟨Ia,vI,trivial⟩ fun x=>by kernel_rfl
def yh (x0:aT) (x1:bV):Option (aT×Int):=af (Ad x0.state x1) fun y0=>cnd (ak (ieq y0.2 0)) (some (x0,y0.2)) (af (jA x1) fun y1=>af (LJ x0.wal x1.kind y1.1) fun y2=>cnd (ak (ieq y2.2 0)) (some (x0,y2.2)) (some (aT.mk x0.disk y2.1 y0.1 x0.outbox x0.feed x0.gen x0.up,0)))
def BI:aA:=mkSpec [.val .gate,.val .recd] [.val .gate,.int .i64] false (fun x=>yh x.1 x.2)
theorem Nb:bg PG 50 BI:=okN [(67,CX),(97,FN),(98,OQ)] [] ⟨N9,Tc,abX,trivial⟩ fun x=>by kernel_rfl
def dU (x0:(List eu)):Option ((List eu)):=zM x0
def nI:aA:=mkSpec [.ro .msg] [.buf .msg] true (fun x=>dU x)
theorem xB:bg PG 52 nI:=abn fun x=>by kernel_rfl
def oQ (x0:aT) (x1:bV):Option (aT×Int):=af (uY x0) fun y0=>cnd (ak (ieq y0 0)) (some (x0,y0)) (cnd (bor (ilt x1.kind 1) (ilt 3 x1.kind)) (some (x0,1)) (af (yh x0 x1) fun y1=>cnd (ak (ieq y1.2 0)) (some (x0,y1.2)) (af (um y1.1.state x1.order) fun y2=>cnd (band (ile 0 y2) (ilt y2 (len y1.1.state.orders))) (af (dU x0.outbox) fun y3=>af (gu x1.kind (ai y1.1.state.orders (itn y2)) y1.1.state.lsn) fun y4=>cnd (ile (len (bP y3 [y4])) 68719476736) (some (aT.mk y1.1.disk y1.1.wal y1.1.state (bP y3 [y4]) y1.1.feed y1.1.gen y1.1.up,0)) none) none)))
def zZ:aA:=mkSpec [.val .gate,.val .recd] [.val .gate,.int .i64] false (fun x=>oQ x.1 x.2)
theorem Lc:bg PG 20 zZ:=okN [(49,wS),(50,BI),(51,DY),(52,nI),(53,DW)] [4095] ⟨FO,Nb,Po,xB,Pm,trivial⟩ fun x=>by kernel_rfl
def Ec (x0:ax) (x1:Int):Option (Bool):=some (band (ile (-1) x1) (ilt x1 x0.accounts))
def FW:aA:=mkSpec [.val .state,.int .i64] [.bool] true (fun x=>Ec x.1 x.2)
theorem RZ:bg PG 29 FW:=okN [] [] trivial fun x=>by kernel_rfl
def Qp (x0:au) (x1:Int):Option (Bool):=some (bor (ieq x1 (-1)) (ieq x0.account x1))
def Ox:aA:=mkSpec [.val .order,.int .i64] [.bool] true (fun x=>Qp x.1 x.2)
theorem ab5:bg PG 30 Ox:=okN [] [] trivial fun x=>by kernel_rfl
def kW (p0:Int) (p1:(List au)) (p2:Int) (v0:Int) (v1:(List bV)):Option ((Int×(List bV)) ⊕ (((List bV)))):=cnd (ilt v0 p0) (cnd (band (ile 0 v0) (ilt v0 (len p1))) (af (Qp (ai p1 (itn v0)) p2) fun y0=>cnd (band y0 (ak (ai p1 (itn v0)).asked)) (cnd (ile (len (bP v1 [bV.mk 3 (ai p1 (itn v0)).id 0 0 0 0 0 0 0 0 false 0 0])) 68719476736) (some (Sum.inl (wr .i64 (aF v0 1),bP v1 [bV.mk 3 (ai p1 (itn v0)).id 0 0 0 0 0 0 0 0 false 0 0]))) none) (some (Sum.inl (wr .i64 (aF v0 1),v1)))) none) (some (Sum.inr v1))
def LZ:dh:=LSh.spec ⟨82,[(19,.int .i64),(18,.ro .order),(1,.int .i64)],[],[],[(20,.int .i64),(5,.buf .recd)],[],[]⟩ [⟨.exit 0,[(5,.buf .recd)],[],[]⟩] (sP [(5,1),(7,1),(20,19)]) (fun p v=>kW p.1 p.2.1 p.2.2 v.1 v.2)
def mG (x0:ax) (x1:Int):Option ((List bV)):=af (iZ x0) fun y0=>af (cnd (ak (ak y0)) (Ec x0 x1) (some false)) fun y1=>cnd (bor (ak y0) (ak y1)) (some []) (af (bZ (fun v=>kW (len x0.orders) x0.orders x1 v.1 v.2) LF (0,[])) fun y2=>some y2)
def sN:aA:=mkSpec [.val .state,.int .i64] [.buf .recd] true (fun x=>mG x.1 x.2)
theorem BG:bg PG 10 sN:=okP [(28,kQ),(29,FW),(30,Ox)] [] [(10,122,LZ)] ⟨o8,RZ,ab5,trivial⟩ (fun K=>⟨iU K fun p v=>by kernel_rfl,trivial⟩) fun x=>by kernel_rfl
def aG (p0:Int) (v0:Int) (v1:(List Int)):Option ((Int×(List Int)) ⊕ (((List Int)))):=cnd (ile 0 v0) (cnd (ile 0 (wr .i64 (eF 8 v0))) (cnd (ile (len (bP v1 [wr .u8 (bI .u64 p0 (wr .i64 (eF 8 v0)))])) 68719476736) (some (Sum.inl (wr .i64 (aS v0 1),bP v1 [wr .u8 (bI .u64 p0 (wr .i64 (eF 8 v0)))]))) none) none) (some (Sum.inr v1))
def uV:dh:=LSh.spec ⟨76,[(1,.int .u64)],[(0,.mp 56 0)],[],[(6,.int .i64)],[(56,[.buf .u8])],[]⟩ [⟨.exit 0,[],[(56,[.buf .u8])],[]⟩] (sP [(6,1),(9,16)]) (fun p v=>aG p v.1 v.2)
def iY (p0:Int) (v0:Int) (v1:(List Int)):Option ((Int×(List Int)) ⊕ (((List Int)))):=cnd (ile 0 v0) (cnd (ile 0 (wr .i64 (eF 8 v0))) (cnd (ile (len (bP v1 [wr .u8 (bI .u64 p0 (wr .i64 (eF 8 v0)))])) 68719476736) (some (Sum.inl (wr .i64 (aS v0 1),bP v1 [wr .u8 (bI .u64 p0 (wr .i64 (eF 8 v0)))]))) none) none) (some (Sum.inr v1))
def uS:dh:=LSh.spec ⟨150,[(1,.int .u64)],[(0,.mp 56 0)],[],[(6,.int .i64)],[(56,[.buf .u8])],[]⟩ [⟨.exit 0,[],[(56,[.buf .u8])],[]⟩] (sP [(6,1),(9,16)]) (fun p v=>iY p v.1 v.2)
def iD (p0:Int) (v0:Int) (v1:(List Int)):Option ((Int×(List Int)) ⊕ (((List Int)))):=cnd (ile 0 v0) (cnd (ile 0 (wr .i64 (eF 8 v0))) (cnd (ile (len (bP v1 [wr .u8 (bI .u64 p0 (wr .i64 (eF 8 v0)))])) 68719476736) (some (Sum.inl (wr .i64 (aS v0 1),bP v1 [wr .u8 (bI .u64 p0 (wr .i64 (eF 8 v0)))]))) none) none) (some (Sum.inr v1))
def sZ:dh:=LSh.spec ⟨224,[(1,.int .u64)],[(0,.mp 56 0)],[],[(6,.int .i64)],[(56,[.buf .u8])],[]⟩ [⟨.exit 0,[],[(56,[.buf .u8])],[]⟩] (sP [(6,1),(9,16)]) (fun p v=>iD p v.1 v.2)
def iO (p0:Int) (v0:Int) (v1:(List Int)):Option ((Int×(List Int)) ⊕ (((List Int)))):=cnd (ile 0 v0) (cnd (ile 0 (wr .i64 (eF 8 v0))) (cnd (ile (len (bP v1 [wr .u8 (bI .u64 p0 (wr .i64 (eF 8 v0)))])) 68719476736) (some (Sum.inl (wr .i64 (aS v0 1),bP v1 [wr .u8 (bI .u64 p0 (wr .i64 (eF 8 v0)))]))) none) none) (some (Sum.inr v1))
def tN:dh:=LSh.spec ⟨298,[(1,.int .u64)],[(0,.mp 56 0)],[],[(6,.int .i64)],[(56,[.buf .u8])],[]⟩ [⟨.exit 0,[],[(56,[.buf .u8])],[]⟩] (sP [(6,1),(9,16)]) (fun p v=>iO p v.1 v.2)
def iE (p0:Int) (v0:Int) (v1:(List Int)):Option ((Int×(List Int)) ⊕ (((List Int)))):=cnd (ile 0 v0) (cnd (ile 0 (wr .i64 (eF 8 v0))) (cnd (ile (len (bP v1 [wr .u8 (bI .u64 p0 (wr .i64 (eF 8 v0)))])) 68719476736) (some (Sum.inl (wr .i64 (aS v0 1),bP v1 [wr .u8 (bI .u64 p0 (wr .i64 (eF 8 v0)))]))) none) none) (some (Sum.inr v1))
def tV:dh:=LSh.spec ⟨377,[(1,.int .u64)],[(0,.mp 56 0)],[],[(6,.int .i64)],[(56,[.buf .u8])],[]⟩ [⟨.exit 0,[],[(56,[.buf .u8])],[]⟩] (sP [(6,1),(9,16)]) (fun p v=>iE p v.1 v.2)
def iK (p0:Int) (v0:Int) (v1:(List Int)):Option ((Int×(List Int)) ⊕ (((List Int)))):=cnd (ile 0 v0) (cnd (ile 0 (wr .i64 (eF 8 v0))) (cnd (ile (len (bP v1 [wr .u8 (bI .u64 p0 (wr .i64 (eF 8 v0)))])) 68719476736) (some (Sum.inl (wr .i64 (aS v0 1),bP v1 [wr .u8 (bI .u64 p0 (wr .i64 (eF 8 v0)))]))) none) none) (some (Sum.inr v1))
def tJ:dh:=LSh.spec ⟨455,[(1,.int .u64)],[(0,.mp 56 0)],[],[(6,.int .i64)],[(56,[.buf .u8])],[]⟩ [⟨.exit 0,[],[(56,[.buf .u8])],[]⟩] (sP [(6,1),(9,16)]) (fun p v=>iK p v.1 v.2)
def iP (p0:Int) (v0:Int) (v1:(List Int)):Option ((Int×(List Int)) ⊕ (((List Int)))):=cnd (ile 0 v0) (cnd (ile 0 (wr .i64 (eF 8 v0))) (cnd (ile (len (bP v1 [wr .u8 (bI .u64 p0 (wr .i64 (eF 8 v0)))])) 68719476736) (some (Sum.inl (wr .i64 (aS v0 1),bP v1 [wr .u8 (bI .u64 p0 (wr .i64 (eF 8 v0)))]))) none) none) (some (Sum.inr v1))
def tq:dh:=LSh.spec ⟨533,[(1,.int .u64)],[(0,.mp 56 0)],[],[(6,.int .i64)],[(56,[.buf .u8])],[]⟩ [⟨.exit 0,[],[(56,[.buf .u8])],[]⟩] (sP [(6,1),(9,16)]) (fun p v=>iP p v.1 v.2)
def iJ (p0:Int) (v0:Int) (v1:(List Int)):Option ((Int×(List Int)) ⊕ (((List Int)))):=cnd (ile 0 v0) (cnd (ile 0 (wr .i64 (eF 8 v0))) (cnd (ile (len (bP v1 [wr .u8 (bI .u64 p0 (wr .i64 (eF 8 v0)))])) 68719476736) (some (Sum.inl (wr .i64 (aS v0 1),bP v1 [wr .u8 (bI .u64 p0 (wr .i64 (eF 8 v0)))]))) none) none) (some (Sum.inr v1))
def tu:dh:=LSh.spec ⟨611,[(1,.int .u64)],[(0,.mp 56 0)],[],[(6,.int .i64)],[(56,[.buf .u8])],[]⟩ [⟨.exit 0,[],[(56,[.buf .u8])],[]⟩] (sP [(6,1),(9,16)]) (fun p v=>iJ p v.1 v.2)
def iQ (p0:Int) (v0:Int) (v1:(List Int)):Option ((Int×(List Int)) ⊕ (((List Int)))):=cnd (ile 0 v0) (cnd (ile 0 (wr .i64 (eF 8 v0))) (cnd (ile (len (bP v1 [wr .u8 (bI .u64 p0 (wr .i64 (eF 8 v0)))])) 68719476736) (some (Sum.inl (wr .i64 (aS v0 1),bP v1 [wr .u8 (bI .u64 p0 (wr .i64 (eF 8 v0)))]))) none) none) (some (Sum.inr v1))
def tK:dh:=LSh.spec ⟨689,[(1,.int .u64)],[(0,.mp 56 0)],[],[(6,.int .i64)],[(56,[.buf .u8])],[]⟩ [⟨.exit 0,[],[(56,[.buf .u8])],[]⟩] (sP [(6,1),(9,16)]) (fun p v=>iQ p v.1 v.2)
def iI (p0:Int) (v0:Int) (v1:(List Int)):Option ((Int×(List Int)) ⊕ (((List Int)))):=cnd (ile 0 v0) (cnd (ile 0 (wr .i64 (eF 8 v0))) (cnd (ile (len (bP v1 [wr .u8 (bI .u64 p0 (wr .i64 (eF 8 v0)))])) 68719476736) (some (Sum.inl (wr .i64 (aS v0 1),bP v1 [wr .u8 (bI .u64 p0 (wr .i64 (eF 8 v0)))]))) none) none) (some (Sum.inr v1))
def sW:dh:=LSh.spec ⟨767,[(1,.int .u64)],[(0,.mp 56 0)],[],[(6,.int .i64)],[(56,[.buf .u8])],[]⟩ [⟨.exit 0,[],[(56,[.buf .u8])],[]⟩] (sP [(6,1),(9,16)]) (fun p v=>iI p v.1 v.2)
def yT (x0:bD):Option ((List Int)×Int):=af (o9 x0) fun y0=>cnd (ak y0) (some ([],1)) (af (bZ (fun v=>aG 72 v.1 v.2) LF (3,[])) fun y1=>af (bZ (fun v=>iY (wr .u64 x0.epoch) v.1 v.2) LF (3,y1)) fun y2=>af (bZ (fun v=>iD (wr .u64 x0.lsn) v.1 v.2) LF (7,y2)) fun y3=>af (bZ (fun v=>iO (wr .u64 x0.kind) v.1 v.2) LF (3,y3)) fun y4=>af (bZ (fun v=>iE (wr .u64 x0.b0) v.1 v.2) LF (7,y4)) fun y5=>af (bZ (fun v=>iK (wr .u64 x0.b1) v.1 v.2) LF (7,y5)) fun y6=>af (bZ (fun v=>iP (wr .u64 x0.b2) v.1 v.2) LF (7,y6)) fun y7=>af (bZ (fun v=>iJ (wr .u64 x0.b3) v.1 v.2) LF (7,y7)) fun y8=>af (bZ (fun v=>iQ (wr .u64 x0.b4) v.1 v.2) LF (7,y8)) fun y9=>af (bZ (fun v=>iI (wr .u64 x0.b5) v.1 v.2) LF (7,y9)) fun y10=>af (Du y10) fun y11=>cnd (ile (len (bP y10 [wr .u8 y11,wr .u8 (bI .u32 y11 8),wr .u8 (bI .u32 y11 16),wr .u8 (bI .u32 y11 24)])) 68719476736) (some (bP y10 [wr .u8 y11,wr .u8 (bI .u32 y11 8),wr .u8 (bI .u32 y11 16),wr .u8 (bI .u32 y11 24)],0)) none)
def Fg:aA:=mkSpec [.val .frame] [.buf .u8,.int .i64] true (fun x=>yT x)
theorem TJ:bg PG 226 Fg:=okP [(233,qi),(218,CQ)] [268] [(970662646028,6,uV),(970662949132,6,uS),(970663252236,6,sZ),(970663555340,6,tN),(970663878924,6,tV),(970664198412,6,tJ),(970664517900,6,tq),(970664837388,6,tu),(970665156876,6,tK),(970665476364,6,sW)] ⟨yK,Om,trivial⟩ (fun K=>⟨iU K fun p v=>by kernel_rfl,iU K fun p v=>by kernel_rfl,iU K fun p v=>by kernel_rfl,iU K fun p v=>by kernel_rfl,iU K fun p v=>by kernel_rfl,iU K fun p v=>by kernel_rfl,iU K fun p v=>by kernel_rfl,iU K fun p v=>by kernel_rfl,iU K fun p v=>by kernel_rfl,iU K fun p v=>by kernel_rfl,trivial⟩) fun x=>by kernel_rfl
def wu (p0:Int) (p1:(List bD)) (v0:Int) (v1:(List Int)) (v2:Int) (v3:(List Int)):Option ((Int×(List Int)×Int×(List Int)) ⊕ ((Int×(List Int)) ⊕ (((List Int)×Int×(List Int))))):=cnd (ilt v0 p0) (cnd (band (ile 0 v0) (ilt v0 (len p1))) (af (yT (ai p1 (itn v0))) fun y0=>cnd (ak (ieq y0.2 0)) (some (Sum.inr (Sum.inl (y0.2,[])))) (cnd (ile (len (bP v1 y0.1)) 68719476736) (some (Sum.inl (wr .i64 (aF v0 1),bP v1 y0.1,v2,v3))) none)) none) (some (Sum.inr (Sum.inr (v1,v2,v3))))
def UI:dh:=LSh.spec ⟨71,[(10,.int .i64),(9,.ro .frame)],[],[],[(11,.int .i64),(4,.buf .u8),(3,.int .i64),(2,.buf .u8)],[],[]⟩ [⟨.ret,[(3,.int .i64),(2,.buf .u8)],[],[]⟩,⟨.exit 0,[(4,.buf .u8),(3,.int .i64),(2,.buf .u8)],[],[]⟩] (sP [(2,3),(6,3),(11,16)]) (fun p v=>wu p.1 p.2 v.1 v.2.1 v.2.2.1 v.2.2.2)
def zQ (x0:(List bD)):Option ((List Int)×Int):=af (bZ (fun v=>wu (len x0) x0 v.1 v.2.1 v.2.2.1 v.2.2.2) LF (0,[],0,[])) fun y0=>fO y0 (fun y1=>some (y1.2,y1.1)) fun y1=>some (y1.1,0)
def MN:aA:=mkSpec [.ro .frame] [.buf .u8,.int .i64] true (fun x=>zQ x)
theorem aaG:bg PG 171 MN:=okP [(226,Fg)] [] [(171,58,UI)] ⟨TJ,trivial⟩ (fun K=>⟨iU K fun p v=>by kernel_rfl,trivial⟩) fun x=>by kernel_rfl
def uF (p0:Int) (p1:(List aI)) (v0:Int) (v1:Int):Option ((Int×Int) ⊕ ((Int))):=cnd (ilt v0 p0) (cnd (band (ile 0 v0) (ilt v0 (len p1))) (some (Sum.inl (wr .i64 (aF v0 1),wr .i64 (aF v1 (len (ai p1 (itn v0)).data))))) none) (some (Sum.inr v1))
def Tn:dh:=LSh.spec ⟨72,[(8,.int .i64),(7,.ro .file)],[],[],[(9,.int .i64),(3,.int .i64)],[],[]⟩ [⟨.exit 0,[(3,.int .i64)],[],[]⟩] (sP [(3,1),(5,1),(9,10)]) (fun p v=>uF p.1 p.2 v.1 v.2)
def EX (x0:ay):Option (Int):=af (bZ (fun v=>uF (len x0.files) x0.files v.1 v.2) LF (0,0)) fun y0=>some y0
def JY:aA:=mkSpec [.val .disk] [.int .i64] true (fun x=>EX x)
theorem YX:bg PG 229 JY:=okP [] [] [(229,58,Tn)] trivial (fun K=>⟨iU K fun p v=>by kernel_rfl,trivial⟩) fun x=>by kernel_rfl
def lu (x0:(List aI)) (x1:Int) (x2:(List aI)):Option ((List aI)):=match x2 with | [n]=>cnd (band (ile 0 x1) (band (ile x1 (len x0)) (ile (aF (len x0) 1) 68719476736))) (some (bP (bF x0 (itn x1)) (n::dF x0 (itn x1)))) none | _=>none
noncomputable def FZ:Cx:={ P:=PG,ety:=ety,fn:=look [],inl:=ah5 [],lp:=J3 [] }
def su:aA:=Hz .file (fun x=>lu x.1 x.2.1 x.2.2)
theorem En:bg PG 230 su:=
 have K:CxR FZ:=Aj.cx (fun _=>rfl) (l:=[]) trivial
 ae4 K 230 (akL PG 230) (akL PG ((BH (akL PG 230)).f 29)) (by kernel_rfl) (by kernel_rfl) (by kernel_rfl) (by kernel_rfl) (by kernel_rfl) (e:= .file) (by kernel_rfl) (by kernel_rfl) (by kernel_rfl) (by kernel_rfl) (by kernel_rfl) (by kernel_rfl) rfl (fun x y h=>by obtain⟨l,k,xs⟩:=x;match xs,h with | [],h=>exact h | [_],h=>exact h | _::_::_,h=>exact h)
def jM (p0:Int) (p1:(List MB)) (v0:Int) (v1:Int):Option ((Int×Int) ⊕ ((Int))):=cnd (ilt v0 p0) (cnd (band (ile 0 v0) (ilt v0 (len p1))) (cnd (ilt (wr .i64 (aF v1 (len (ai p1 (itn v0)).all))) 0) none (some (Sum.inl (wr .i64 (aF v0 1),wr .i64 (aF v1 (len (ai p1 (itn v0)).all)))))) none) (some (Sum.inr v1))
def FC:dh:=LSh.spec ⟨70,[(10,.int .i64),(9,.ro .bts)],[],[],[(11,.int .i64),(3,.int .i64)],[],[]⟩ [⟨.exit 0,[(3,.int .i64)],[],[]⟩] (sP [(3,1),(5,1),(11,12)]) (fun p v=>jM p.1 p.2 v.1 v.2)
def gY (p0:Int) (p1:(List MB)) (v0:Int) (v1:(List Int)):Option ((Int×(List Int)) ⊕ (((List Int)))):=cnd (ilt v0 p0) (cnd (band (ile 0 v0) (ilt v0 (len p1))) (cnd (ile (len (bP v1 (ai p1 (itn v0)).all)) 68719476736) (some (Sum.inl (wr .i64 (aF v0 1),bP v1 (ai p1 (itn v0)).all))) none) none) (some (Sum.inr v1))
def Et:dh:=LSh.spec ⟨169,[(26,.int .i64),(25,.ro .bts)],[],[],[(27,.int .i64),(6,.buf .u8)],[],[]⟩ [⟨.exit 2,[(6,.buf .u8)],[],[]⟩] (sP [(6,1),(8,1),(27,8)]) (fun p v=>gY p.1 p.2 v.1 v.2)
def lC (x0:(List MB)):Option ((List Int)):=af (bZ (fun v=>jM (len x0) x0 v.1 v.2) LF (0,0)) fun y0=>cnd (ilt y0 0) none (cnd (ilt 0 (wr .i64 (aS y0 0))) (cnd (band (ilt 0 (wr .i64 (aS y0 0))) (ile (wr .i64 (aS y0 0)) 68719476736)) (cnd (ile 0 (len (qQ Int (itn (wr .i64 (aS y0 0)))))) (af (bZ (fun v=>gY (len x0) x0 v.1 v.2) LF (0,bF (qQ Int (itn (wr .i64 (aS y0 0)))) 0)) fun y1=>some y1) none) none) (af (bZ (fun v=>gY (len x0) x0 v.1 v.2) LF (0,[])) fun y2=>some y2))
def xE:aA:=mkSpec [.ro .bts] [.buf .u8] true (fun x=>lC x)
theorem Jm:bg PG 231 xE:=okP [] [276] [(231,58,FC),(231,250,Et)] trivial (fun K=>⟨iU K fun p v=>by kernel_rfl,iU K fun p v=>by kernel_rfl,trivial⟩) fun x=>by kernel_rfl
def rM (x0:ay) (x1:(List UInt8)) (x2:(List Int)):Option (ay×Int):=af (nT x0 [x1]) fun y0=>cnd (ak (ieq y0 0)) (some (x0,y0)) (af (qE x0 x1) fun y1=>af (EX x0) fun y2=>cnd (bor (ilt (wr .i64 (aS x0.room y2)) (len x2)) (band (ak y1.2) (ieq (len x0.files) 64))) (some (x0,6)) (af (aP x0.files) fun y3=>cnd (ak y1.2) (af (lu y3 y1.1 [aI.mk x1 [] 0]) fun y4=>cnd (band (ile 0 y1.1) (ilt y1.1 (len y4))) (af (lC [MB.mk (ai y4 (itn y1.1)).data,MB.mk x2]) fun y5=>cnd (band (ile 0 y1.1) (ilt y1.1 (len y4))) (cnd (ieq x0.fuse 0) (some (ay.mk (cO y4 (itn y1.1) (aI.mk (ai y4 (itn y1.1)).name y5 (ai y4 (itn y1.1)).sure)) x0.room x0.fuse true,9)) (cnd (ieq x0.fuse (-1)) (some (ay.mk (cO y4 (itn y1.1) (aI.mk (ai y4 (itn y1.1)).name y5 (ai y4 (itn y1.1)).sure)) x0.room x0.fuse x0.down,0)) (some (ay.mk (cO y4 (itn y1.1) (aI.mk (ai y4 (itn y1.1)).name y5 (ai y4 (itn y1.1)).sure)) x0.room (wr .i64 (aS x0.fuse 1)) x0.down,0)))) none) none) (cnd (band (ile 0 y1.1) (ilt y1.1 (len y3))) (af (lC [MB.mk (ai y3 (itn y1.1)).data,MB.mk x2]) fun y6=>cnd (band (ile 0 y1.1) (ilt y1.1 (len y3))) (cnd (ieq x0.fuse 0) (some (ay.mk (cO y3 (itn y1.1) (aI.mk (ai y3 (itn y1.1)).name y6 (ai y3 (itn y1.1)).sure)) x0.room x0.fuse true,9)) (cnd (ieq x0.fuse (-1)) (some (ay.mk (cO y3 (itn y1.1) (aI.mk (ai y3 (itn y1.1)).name y6 (ai y3 (itn y1.1)).sure)) x0.room x0.fuse x0.down,0)) (some (ay.mk (cO y3 (itn y1.1) (aI.mk (ai y3 (itn y1.1)).name y6 (ai y3 (itn y1.1)).sure)) x0.room (wr .i64 (aS x0.fuse 1)) x0.down,0)))) none) none)))
def Gt:aA:=mkSpec [.val .disk,.str,.ro .u8] [.val .disk,.int .i64] false (fun x=>rM x.1 x.2.1 x.2.2)
theorem U5:bg PG 172 Gt:=okN [(227,nP),(228,qm),(229,JY),(65,iG),(230,su),(231,xE)] [232] ⟨vY,zu,YX,lq,En,Jm,trivial⟩ fun x=>by kernel_rfl
def wZ (x0:ay) (x1:(List UInt8)):Option (ay×Int):=af (nT x0 [x1]) fun y0=>cnd (ak (ieq y0 0)) (cnd (ak (ieq y0 0)) (some (x0,y0)) (cnd (ieq x0.fuse 0) (some (ay.mk x0.files x0.room x0.fuse true,9)) (cnd (ieq x0.fuse (-1)) (af (aP x0.files) fun y1=>cnd (ilt 0 (len y1)) (cnd (ilt 0 (len y1)) (some (ay.mk (cO y1 0 (aI.mk (ai y1 0).name (ai y1 0).data (len (ai y1 0).data))) x0.room x0.fuse x0.down,0)) none) none) (af (aP x0.files) fun y2=>cnd (ilt 0 (len y2)) (cnd (ilt 0 (len y2)) (some (ay.mk (cO y2 0 (aI.mk (ai y2 0).name (ai y2 0).data (len (ai y2 0).data))) x0.room (wr .i64 (aS x0.fuse 1)) x0.down,0)) none) none)))) (af (qE x0 x1) fun y3=>cnd (ak y3.2) (some (x0,7)) (cnd (ieq x0.fuse 0) (some (ay.mk x0.files x0.room x0.fuse true,9)) (cnd (ieq x0.fuse (-1)) (af (aP x0.files) fun y4=>cnd (band (ile 0 y3.1) (ilt y3.1 (len y4))) (cnd (band (ile 0 y3.1) (ilt y3.1 (len y4))) (some (ay.mk (cO y4 (itn y3.1) (aI.mk (ai y4 (itn y3.1)).name (ai y4 (itn y3.1)).data (len (ai y4 (itn y3.1)).data))) x0.room x0.fuse x0.down,0)) none) none) (af (aP x0.files) fun y5=>cnd (band (ile 0 y3.1) (ilt y3.1 (len y5))) (cnd (band (ile 0 y3.1) (ilt y3.1 (len y5))) (some (ay.mk (cO y5 (itn y3.1) (aI.mk (ai y5 (itn y3.1)).name (ai y5 (itn y3.1)).data (len (ai y5 (itn y3.1)).data))) x0.room (wr .i64 (aS x0.fuse 1)) x0.down,0)) none) none))))
def KE:aA:=mkSpec [.val .disk,.str] [.val .disk,.int .i64] false (fun x=>wZ x.1 x.2)
theorem ZL:bg PG 174 KE:=okN [(227,nP),(228,qm),(65,iG)] [214,232] ⟨vY,zu,lq,trivial⟩ fun x=>by kernel_rfl
def wU (v0:Int) (v1:ay) (v2:dO) (v3:ay) (v4:dO):Option ((Int×ay×dO×ay×dO) ⊕ ((Int×ay×dO×ay×dO) ⊕ ((Int×ay×dO×ay×dO)))):=cnd (ilt 0 (len v4.wait)) (cnd (bor (ieq v4.seg 0) (ieq v4.count 8)) (cnd (band (ile 0 (iq (len v4.wait) 8)) (ile (iq (len v4.wait) 8) (len v4.wait))) (af (zQ (bF v4.wait (itn (iq (len v4.wait) 8)))) fun y0=>af (iL (wr .i64 (aF v4.sure 1))) fun y1=>af (rM v3 y1 y0.1) fun y2=>cnd (ieq y2.2 0) (af (iL (wr .i64 (aF v4.sure 1))) fun y3=>af (wZ y2.1 y3) fun y4=>cnd (ak (ieq y4.2 0)) (some (Sum.inr (Sum.inl (y4.2,y4.1,v4,y4.1,v4)))) (cnd (band (ile 0 (iq (len v4.wait) 8)) (ile (iq (len v4.wait) 8) (len v4.wait))) (af (bT (dF v4.wait (itn (iq (len v4.wait) 8)))) fun y5=>some (Sum.inl (v0,v1,v2,y4.1,dO.mk v4.epoch v4.next (wr .i64 (aF v4.sure (iq (len v4.wait) 8))) (wr .i64 (aF v4.sure 1)) (wr .i64 (aF 0 (iq (len v4.wait) 8))) y5))) none)) (cnd (ak (ieq y2.2 0)) (some (Sum.inr (Sum.inl (y2.2,y2.1,v4,y2.1,v4)))) (cnd (band (ile 0 (iq (len v4.wait) 8)) (ile (iq (len v4.wait) 8) (len v4.wait))) (af (bT (dF v4.wait (itn (iq (len v4.wait) 8)))) fun y6=>some (Sum.inl (v0,v1,v2,y2.1,dO.mk v4.epoch v4.next (wr .i64 (aF v4.sure (iq (len v4.wait) 8))) (wr .i64 (aF v4.sure 1)) (wr .i64 (aF 0 (iq (len v4.wait) 8))) y6))) none))) none) (cnd (band (ile 0 (iq (len v4.wait) (wr .i64 (aS 8 v4.count)))) (ile (iq (len v4.wait) (wr .i64 (aS 8 v4.count))) (len v4.wait))) (af (zQ (bF v4.wait (itn (iq (len v4.wait) (wr .i64 (aS 8 v4.count)))))) fun y7=>af (iL v4.seg) fun y8=>af (rM v3 y8 y7.1) fun y9=>cnd (ieq y9.2 0) (af (iL v4.seg) fun y10=>af (wZ y9.1 y10) fun y11=>cnd (ak (ieq y11.2 0)) (some (Sum.inr (Sum.inl (y11.2,y11.1,v4,y11.1,v4)))) (cnd (band (ile 0 (iq (len v4.wait) (wr .i64 (aS 8 v4.count)))) (ile (iq (len v4.wait) (wr .i64 (aS 8 v4.count))) (len v4.wait))) (af (bT (dF v4.wait (itn (iq (len v4.wait) (wr .i64 (aS 8 v4.count)))))) fun y12=>some (Sum.inl (v0,v1,v2,y11.1,dO.mk v4.epoch v4.next (wr .i64 (aF v4.sure (iq (len v4.wait) (wr .i64 (aS 8 v4.count))))) v4.seg (wr .i64 (aF v4.count (iq (len v4.wait) (wr .i64 (aS 8 v4.count))))) y12))) none)) (cnd (ak (ieq y9.2 0)) (some (Sum.inr (Sum.inl (y9.2,y9.1,v4,y9.1,v4)))) (cnd (band (ile 0 (iq (len v4.wait) (wr .i64 (aS 8 v4.count)))) (ile (iq (len v4.wait) (wr .i64 (aS 8 v4.count))) (len v4.wait))) (af (bT (dF v4.wait (itn (iq (len v4.wait) (wr .i64 (aS 8 v4.count)))))) fun y13=>some (Sum.inl (v0,v1,v2,y9.1,dO.mk v4.epoch v4.next (wr .i64 (aF v4.sure (iq (len v4.wait) (wr .i64 (aS 8 v4.count))))) v4.seg (wr .i64 (aF v4.count (iq (len v4.wait) (wr .i64 (aS 8 v4.count))))) y13))) none))) none)) (some (Sum.inr (Sum.inr (v0,v1,v2,v3,v4))))
def QC:dh:=LSh.spec ⟨75,[],[(5,.mp 40 0),(4,.mp 32 0),(3,.mp 24 0),(2,.mp 16 0)],[],[(6,.int .i64)],[(40,[.val .disk]),(32,[.val .wal]),(24,[.val .disk]),(16,[.val .wal])],[]⟩ [⟨.ret,[(6,.int .i64)],[(40,[.val .disk]),(32,[.val .wal]),(24,[.val .disk]),(16,[.val .wal])],[]⟩,⟨.exit 0,[(6,.int .i64)],[(40,[.val .disk]),(32,[.val .wal]),(24,[.val .disk]),(16,[.val .wal])],[]⟩] (sP [(6,8),(20,71)]) (fun p v=>wU v.1 v.2.1 v.2.2.1 v.2.2.2.1 v.2.2.2.2)
def CS (x0:dO) (x1:ay):Option (dO×ay×Int):=af (DL x0 x1) fun y0=>cnd (ak y0) (some (x0,x1,1)) (af (bZ (fun v=>wU v.1 v.2.1 v.2.2.1 v.2.2.2.1 v.2.2.2.2) LF (0,ay.mk [] 0 0 false,dO.mk 0 0 0 0 0 [],x1,x0)) fun y1=>fO y1 (fun y2=>some (y2.2.2.1,y2.2.1,y2.1)) fun y2=>some (y2.2.2.2.2,y2.2.2.2.1,0))
def Ja:aA:=mkSpec [.val .wal,.val .disk] [.val .wal,.val .disk,.int .i64] false (fun x=>CS x.1 x.2)
theorem Xd:bg PG 103 Ja:=okP [(170,F7),(171,MN),(173,pz),(172,Gt),(174,KE),(167,lW)] [] [(103,28,QC)] ⟨RD,aaG,xC,U5,ZL,vI,trivial⟩ (fun K=>⟨iU K fun p v=>by kernel_rfl,trivial⟩) fun x=>by kernel_rfl
def KJ (x0:aT):Option (aT):=some (aT.mk x0.disk x0.wal x0.state [] (vG.mk [] false) x0.gen false)
def Eh:aA:=mkSpec [.val .gate] [.val .gate] false (fun x=>KJ x)
theorem OC:bg PG 85 Eh:=okN [] [] trivial fun x=>by kernel_rfl
def tY (x0:aT):Option (aT×Int):=af (CS x0.wal x0.disk) fun y0=>cnd y0.2.1.down (af (KJ (aT.mk y0.2.1 y0.1 x0.state x0.outbox x0.feed x0.gen x0.up)) fun y1=>some (y1,y0.2.2)) (some (aT.mk y0.2.1 y0.1 x0.state x0.outbox x0.feed x0.gen x0.up,y0.2.2))
def yF:aA:=mkSpec [.val .gate] [.val .gate,.int .i64] false (fun x=>tY x)
theorem IZ:bg PG 54 yF:=okN [(103,Ja),(85,Eh)] [4095] ⟨Xd,OC,trivial⟩ fun x=>by kernel_rfl
def dB (p0:Int) (p1:(List eu)) (p2:Int) (v0:Int) (v1:Int):Option ((Int×Int) ⊕ ((Int) ⊕ ((Int)))):=cnd (ilt v0 p0) (cnd (band (ile 0 v0) (ilt v0 (len p1))) (cnd (ilt p2 (ai p1 (itn v0)).lsn) (some (Sum.inr (Sum.inl v0))) (some (Sum.inl (wr .i64 (aF v0 1),v1)))) none) (some (Sum.inr (Sum.inr v1)))
def o6:dh:=LSh.spec ⟨77,[(7,.int .i64),(0,.ro .msg)],[(1,.fn 105 [.mp 16 0])],[(16,[.int .i64])],[(8,.int .i64),(4,.int .i64)],[],[]⟩ [⟨.ret,[(4,.int .i64)],[],[]⟩,⟨.exit 0,[(4,.int .i64)],[],[]⟩] (sP [(4,2),(8,11)]) (fun p v=>dB p.1 p.2.1 p.2.2 v.1 v.2)
def yM (x0:(List eu)) (x1:Int):Option ((List eu)×(List eu)):=af (bZ (fun v=>dB (len x0) x0 x1 v.1 v.2) LF (0,0)) fun y0=>fO y0 (fun y1=>cnd (ilt y1 0) (cnd (band (ile 0 (len x0)) (ile (len x0) (len x0))) (af (dU (bF x0 (itn (len x0)))) fun y2=>cnd (band (ile 0 (len x0)) (ile (len x0) (len x0))) (af (dU (dF x0 (itn (len x0)))) fun y3=>some (y2,y3)) none) none) (cnd (band (ile 0 y1) (ile y1 (len x0))) (af (dU (bF x0 (itn y1))) fun y4=>cnd (band (ile 0 y1) (ile y1 (len x0))) (af (dU (dF x0 (itn y1))) fun y5=>some (y4,y5)) none) none)) fun y1=>cnd (band (ile 0 (len x0)) (ile (len x0) (len x0))) (af (dU (bF x0 (itn (len x0)))) fun y6=>cnd (band (ile 0 (len x0)) (ile (len x0) (len x0))) (af (dU (dF x0 (itn (len x0)))) fun y7=>some (y6,y7)) none) none
def EH:aA:=mkSpec [.ro .msg,.int .i64] [.buf .msg,.buf .msg] true (fun x=>yM x.1 x.2)
theorem TK:bg PG 55 EH:=okP [(52,nI)] [105,104] [(236223238248,26,o6)] ⟨xB,trivial⟩ (fun K=>⟨iU K fun p v=>by kernel_rfl,trivial⟩) fun x=>by kernel_rfl
def oI (x0:aT):Option (aT×(List eu)×Int):=af (uY x0) fun y0=>cnd (ak (ieq y0 0)) (some (x0,[],y0)) (af (tY x0) fun y1=>cnd (ak y1.1.up) (some (y1.1,[],y1.2)) (af (yM y1.1.outbox y1.1.wal.sure) fun y2=>some (aT.mk y1.1.disk y1.1.wal y1.1.state y2.2 y1.1.feed y1.1.gen y1.1.up,y2.1,y1.2)))
def BK:aA:=mkSpec [.val .gate] [.val .gate,.buf .msg,.int .i64] false (fun x=>oI x)
theorem MJ:bg PG 21 BK:=okN [(49,wS),(54,yF),(55,EH)] [4095] ⟨FO,IZ,TK,trivial⟩ fun x=>by kernel_rfl
end
end Go.Av
