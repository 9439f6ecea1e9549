/- Functions that this claim reaches, part 1. No condition. -/
import Derived.Test.YtkndbmahpiebkaaGreatDoorDStoreOthersx0
import Derived.KernelRfl
set_option linter.unusedVariables false
set_option linter.unusedSimpArgs false
set_option linter.unnecessarySimpa false
namespace Go.Av
open Go
noncomputable section
def Ak:LSh:=⟨146,[],[(3,.mp 24 0),(2,.mp 16 0)],[(24,[.val .state]),(16,[.val .state])],[(5,.int .i64),(4,.bool)],[],[]⟩
@[reducible] def zS:List gQ:=[⟨.ret,[(4,.bool)],[],[]⟩,⟨.exit 0,[(4,.bool)],[],[]⟩]
def tN (p0:ay) (p1:ay) (v0:Int) (v1:Bool):Option ((Int×Bool) ⊕ ((Bool) ⊕ ((Bool)))):=cnd (ilt v0 (len p1.orders)) (cnd (band (ile 0 v0) (ilt v0 (len p1.orders))) (cnd (band (ile 0 v0) (ilt v0 (len p0.orders))) (cnd (aB (band (ieq (ah p1.orders (itn v0)).id (ah p0.orders (itn v0)).id) (band (ieq (ah p1.orders (itn v0)).account (ah p0.orders (itn v0)).account) (band (ieq (ah p1.orders (itn v0)).symbol (ah p0.orders (itn v0)).symbol) (band (ieq (ah p1.orders (itn v0)).side (ah p0.orders (itn v0)).side) (band (ieq (ah p1.orders (itn v0)).qty (ah p0.orders (itn v0)).qty) (band (ieq (ah p1.orders (itn v0)).price (ah p0.orders (itn v0)).price) (band (ieq (ah p1.orders (itn v0)).filled (ah p0.orders (itn v0)).filled) (band (ieq (ah p1.orders (itn v0)).phase (ah p0.orders (itn v0)).phase) (band (ieq (ah p1.orders (itn v0)).newQty (ah p0.orders (itn v0)).newQty) (band (ieq (ah p1.orders (itn v0)).newPrice (ah p0.orders (itn v0)).newPrice) (band (ieq (ah p1.orders (itn v0)).version (ah p0.orders (itn v0)).version) (beq (ah p1.orders (itn v0)).asked (ah p0.orders (itn v0)).asked))))))))))))) (some (Sum.inr (Sum.inl false))) (some (Sum.inl (wr .i64 (aj v0 1),v1)))) none) none) (some (Sum.inr (Sum.inr v1)))
def zk:fM:=Ak.spec zS [85,86,87,88,89,92,93,94,95,96,97,98,99,100,101,102,4,90,91,5] (fun p v=>tN p.1 p.2 v.1 v.2)
def zA:LSh:=⟨214,[],[(3,.mp 24 0),(2,.mp 16 0)],[(24,[.val .state]),(16,[.val .state])],[(6,.int .i64),(4,.bool)],[],[]⟩
@[reducible] def zi:List gQ:=[⟨.ret,[(4,.bool)],[],[]⟩,⟨.exit 2,[(4,.bool)],[],[]⟩]
def qX (p0:ay) (p1:ay) (v0:Int) (v1:Bool):Option ((Int×Bool) ⊕ ((Bool) ⊕ ((Bool)))):=cnd (ilt v0 (len p1.cells)) (cnd (band (ile 0 v0) (ilt v0 (len p1.cells))) (cnd (band (ile 0 v0) (ilt v0 (len p0.cells))) (cnd (aB (band (ieq (ah p1.cells (itn v0)).pos (ah p0.cells (itn v0)).pos) (band (ieq (ah p1.cells (itn v0)).buy (ah p0.cells (itn v0)).buy) (band (ieq (ah p1.cells (itn v0)).sell (ah p0.cells (itn v0)).sell) (ieq (ah p1.cells (itn v0)).opn (ah p0.cells (itn v0)).opn))))) (some (Sum.inr (Sum.inl false))) (some (Sum.inl (wr .i64 (aj v0 1),v1)))) none) none) (some (Sum.inr (Sum.inr v1)))
def xY:fM:=zA.spec zi [103,104,105,106,107,110,111,112,113,114,115,116,117,118,119,120,4,108,109,6] (fun p v=>qX p.1 p.2 v.1 v.2)
def zH:LSh:=⟨282,[],[(3,.mp 24 0),(2,.mp 16 0)],[(24,[.val .state]),(16,[.val .state])],[(7,.int .i64),(4,.bool)],[],[]⟩
@[reducible] def zy:List gQ:=[⟨.ret,[(4,.bool)],[],[]⟩,⟨.exit 4,[(4,.bool)],[],[]⟩]
def qV (p0:ay) (p1:ay) (v0:Int) (v1:Bool):Option ((Int×Bool) ⊕ ((Bool) ⊕ ((Bool)))):=cnd (ilt v0 (len p1.limits)) (cnd (band (ile 0 v0) (ilt v0 (len p1.limits))) (cnd (band (ile 0 v0) (ilt v0 (len p0.limits))) (cnd (aB (band (ieq (ah p1.limits (itn v0)).long (ah p0.limits (itn v0)).long) (band (ieq (ah p1.limits (itn v0)).short (ah p0.limits (itn v0)).short) (ieq (ah p1.limits (itn v0)).opn (ah p0.limits (itn v0)).opn)))) (some (Sum.inr (Sum.inl false))) (some (Sum.inl (wr .i64 (aj v0 1),v1)))) none) none) (some (Sum.inr (Sum.inr v1)))
def xU:fM:=zH.spec zy [121,122,123,124,125,128,129,130,131,132,133,134,135,136,137,138,4,126,127,7] (fun p v=>qV p.1 p.2 v.1 v.2)
def zJ:LSh:=⟨350,[],[(3,.mp 24 0),(2,.mp 16 0)],[(24,[.val .state]),(16,[.val .state])],[(8,.int .i64),(4,.bool)],[],[]⟩
@[reducible] def yZ:List gQ:=[⟨.ret,[(4,.bool)],[],[]⟩,⟨.exit 6,[(4,.bool)],[],[]⟩]
def rV (p0:ay) (p1:ay) (v0:Int) (v1:Bool):Option ((Int×Bool) ⊕ ((Bool) ⊕ ((Bool)))):=cnd (ilt v0 (len p1.caps)) (cnd (band (ile 0 v0) (ilt v0 (len p1.caps))) (cnd (band (ile 0 v0) (ilt v0 (len p0.caps))) (cnd (aB (ieq (ah p1.caps (itn v0)) (ah p0.caps (itn v0)))) (some (Sum.inr (Sum.inl false))) (some (Sum.inl (wr .i64 (aj v0 1),v1)))) none) none) (some (Sum.inr (Sum.inr v1)))
def xJ:fM:=zJ.spec yZ [139,140,141,142,143,146,147,148,149,150,151,152,153,154,155,156,4,144,145,8] (fun p v=>rV p.1 p.2 v.1 v.2)
def qQ (x0:ay) (x1:ay):Option (Bool):=cnd (bor (bor (bor (bor (bor (bor (bor (bor (bor (aB (ieq x0.accounts x1.accounts)) (aB (ieq x0.symbols x1.symbols))) (aB (beq x0.kill x1.kill))) (aB (ieq x0.last x1.last))) (aB (ieq x0.seq x1.seq))) (aB (ieq x0.lsn x1.lsn))) (aB (ieq (len x0.orders) (len x1.orders)))) (aB (ieq (len x0.cells) (len x1.cells)))) (aB (ieq (len x0.limits) (len x1.limits)))) (aB (ieq (len x0.caps) (len x1.caps)))) (some false) (af (bG (fun v => tN x1 x0 v.fst v.snd) LF (0,false)) fun y0 => qO y0 (fun y1 => some y1) fun y1 => af (bG (fun v => qX x1 x0 v.fst v.snd) LF (0,y1)) fun y2 => qO y2 (fun y3 => some y3) fun y3 => af (bG (fun v => qV x1 x0 v.fst v.snd) LF (0,y3)) fun y4 => qO y4 (fun y5 => some y5) fun y5 => af (bG (fun v => rV x1 x0 v.fst v.snd) LF (0,y5)) fun y6 => qO y6 (fun y7 => some y7) fun y7 => some true)
noncomputable def lC:Cx:={ P:=PG,ety:=ety,fn:=look [],inl:=dP [],lp:=aY [(16,58,zk),(16,122,xY),(16,250,xU),(16,506,xJ)] }
theorem Gz (p0:ay) (p1:ay) (v0:Int) (v1:Bool):jk lC 900 16 58 (eF PG 16 58) Ak zS (p0,p1) (v0,v1)=tN p0 p1 v0 v1:=by kernel_rfl
theorem Gt (p0:ay) (p1:ay) (v0:Int) (v1:Bool):jk lC 900 16 122 (eF PG 16 122) zA zi (p0,p1) (v0,v1)=qX p0 p1 v0 v1:=by kernel_rfl
theorem Gg (p0:ay) (p1:ay) (v0:Int) (v1:Bool):jk lC 900 16 250 (eF PG 16 250) zH zy (p0,p1) (v0,v1)=qV p0 p1 v0 v1:=by kernel_rfl
theorem F9 (p0:ay) (p1:ay) (v0:Int) (v1:Bool):jk lC 900 16 506 (eF PG 16 506) zJ yZ (p0,p1) (v0,v1)=rV p0 p1 v0 v1:=by kernel_rfl
theorem KA (x0:ay) (x1:ay):bK lC 16 [.val .state,.val .state] [.bool] (x0,x1)=qQ x0 x1:=by kernel_rfl
def sK:aT:=mkSpec [.val .state,.val .state] [.bool] true (fun x=>qQ x.1 x.2)
theorem MC:dh PG 16 sK:=
 have K:CxR lC:=aV.cx (fun _=>rfl) (l:=[]) trivial
 aI K (aH (l:=[(16,58,zk),(16,122,xY),(16,250,xU),(16,506,xJ)]) rfl ⟨cu (n:=900) (f:=16) K (by kernel_rfl) (by kernel_rfl) (by kernel_rfl) (by kernel_rfl) (by kernel_rfl) (fun p v r h=>(Gz p.1 p.2 v.1 v.2).trans h),
  cu (n:=900) (f:=16) K (by kernel_rfl) (by kernel_rfl) (by kernel_rfl) (by kernel_rfl) (by kernel_rfl) (fun p v r h=>(Gt p.1 p.2 v.1 v.2).trans h),
  cu (n:=900) (f:=16) K (by kernel_rfl) (by kernel_rfl) (by kernel_rfl) (by kernel_rfl) (by kernel_rfl) (fun p v r h=>(Gg p.1 p.2 v.1 v.2).trans h),
  cu (n:=900) (f:=16) K (by kernel_rfl) (by kernel_rfl) (by kernel_rfl) (by kernel_rfl) (by kernel_rfl) (fun p v r h=>(F9 p.1 p.2 v.1 v.2).trans h),trivial⟩) (by kernel_rfl) (fun x y h=>(KA x.1 x.2).trans h) rfl rfl
def kP:Option (Bool):=af (KI 1 1 (dL.mk 9 9 99) 99) fun y0 => af (Ji y0.fst (uK.mk 1 5 0 0 2 3 2 0 0 0 false 0 0)) fun y1 => af (wP (ai.mk [] 999 (-1) false)) fun y2 => af (oq (ai.mk [] 999 (-1) false) y0.fst) fun y3 => af (oq y3.fst y1.fst) fun y4 => af (wP y4.fst) fun y5 => af (cnd (band (band (band (band (band (band (ieq y2.snd.snd 7) (ieq y3.snd.snd 0)) (ieq y4.snd.snd 0)) (ieq y5.snd.snd 0)) (ieq y3.snd.fst 1)) (ieq y4.snd.fst 2)) (ieq y5.snd.fst 2)) (qQ y1.fst y5.fst) (some false)) fun y6 => af (cnd (band (band (band (band (band (band (band (band (band (ieq y2.snd.snd 7) (ieq y3.snd.snd 0)) (ieq y4.snd.snd 0)) (ieq y5.snd.snd 0)) (ieq y3.snd.fst 1)) (ieq y4.snd.fst 2)) (ieq y5.snd.fst 2)) y6) (ieq (len y5.fst.orders) 1)) (ieq (len y4.fst.files) 3)) (dw 7) (some [])) fun y7 => some (band (band (band (band (band (band (band (band (band (band (ieq y2.snd.snd 7) (ieq y3.snd.snd 0)) (ieq y4.snd.snd 0)) (ieq y5.snd.snd 0)) (ieq y3.snd.fst 1)) (ieq y4.snd.fst 2)) (ieq y5.snd.fst 2)) y6) (ieq (len y5.fst.orders) 1)) (ieq (len y4.fst.files) 3)) (seq y7 [(UInt8.ofNat 115),(UInt8.ofNat 110),(UInt8.ofNat 97),(UInt8.ofNat 112),(UInt8.ofNat 46),(UInt8.ofNat 48),(UInt8.ofNat 48),(UInt8.ofNat 48),(UInt8.ofNat 48),(UInt8.ofNat 48),(UInt8.ofNat 48),(UInt8.ofNat 48),(UInt8.ofNat 48),(UInt8.ofNat 48),(UInt8.ofNat 55)]))
noncomputable def CU:Cx:={ P:=PG,ety:=ety,fn:=look [(22,Ik),(23,Kv),(13,DU),(10,uq),(16,sK),(17,nP)],inl:=dP [4095],lp:=aY [] }
theorem Jp:bK CU 7 [] [.bool] ()=kP:=by kernel_rfl
def rJ:aT:=mkSpec [] [.bool] true (fun _=>kP)
theorem LH:dh PG 7 rJ:=
 have K:CxR CU:=aV.cx (fun _=>rfl) (l:=[(22,Ik),(23,Kv),(13,DU),(10,uq),(16,sK),(17,nP)]) ⟨ach,adR,YX,PD,MC,CB,trivial⟩
 aI K (aH (l:=[]) rfl trivial) (by kernel_rfl) (fun x y h=>(Jp).trans h) rfl rfl
def xw:LSh:=⟨73,[],[(1,.mp 8 0)],[(8,[.val .disk])],[(4,.int .i64),(3,.int .i64),(2,.bool)],[],[]⟩
@[reducible] def xR:List gQ:=[⟨.ret,[(2,.bool)],[],[]⟩,⟨.exit 0,[(3,.int .i64),(2,.bool)],[],[]⟩]
def iT (p0:ai) (v0:Int) (v1:Int) (v2:Bool):Option ((Int×Int×Bool) ⊕ ((Bool) ⊕ ((Int×Bool)))):=cnd (ilt v0 (len p0.files)) (cnd (band (ile 0 v0) (ilt v0 (len p0.files))) (cnd (bor (band (ile 0 v0) (ilt v0 (len p0.files))) (aB (aB (ilt 70000 (len (ah p0.files (itn v0)).data))))) (cnd (bor (ilt 70000 (len (ah p0.files (itn v0)).data)) (ilt 100 (len (ah p0.files (itn v0)).name))) (some (Sum.inr (Sum.inl false))) (cnd (band (ile 0 v0) (ilt v0 (len p0.files))) (some (Sum.inl (wr .i64 (aj v0 1),wr .i64 (aj v1 (len (ah p0.files (itn v0)).data)),v2))) none)) none) none) (some (Sum.inr (Sum.inr (v1,v2))))
def wW:fM:=xw.spec xR [9,10,11,12,13,16,17,18,19,20,21,22,23,24,25,26,27,28,29,30,31,32,33,2,34,35,36,37,38,39,40,41,42,3,14,15,4] (fun p v=>iT p v.1 v.2.1 v.2.2)
def mP (x0:ai):Option (Bool):=cnd (ilt 70 (len x0.files)) (some false) (af (bG (fun v => iT x0 v.fst v.snd.fst v.snd.snd) LF (0,0,false)) fun y0 => qO y0 (fun y1 => some y1) fun y1 => some (ile y1.fst 70000))
noncomputable def vZ:Cx:={ P:=PG,ety:=ety,fn:=look [],inl:=dP [],lp:=aY [(8,122,wW)] }
theorem Ez (p0:ai) (v0:Int) (v1:Int) (v2:Bool):jk vZ 900 8 122 (eF PG 8 122) xw xR p0 (v0,v1,v2)=iT p0 v0 v1 v2:=by kernel_rfl
theorem Jh (x0:ai):bK vZ 8 [.val .disk] [.bool] x0=mP x0:=by kernel_rfl
def qZ:aT:=mkSpec [.val .disk] [.bool] true (fun x=>mP x)
theorem LM:dh PG 8 qZ:=
 have K:CxR vZ:=aV.cx (fun _=>rfl) (l:=[]) trivial
 aI K (aH (l:=[(8,122,wW)]) rfl ⟨cu (n:=900) (f:=8) K (by kernel_rfl) (by kernel_rfl) (by kernel_rfl) (by kernel_rfl) (by kernel_rfl) (fun p v r h=>(Ez p v.1 v.2.1 v.2.2).trans h),trivial⟩) (by kernel_rfl) (fun x y h=>(Jh x).trans h) rfl rfl
def mO (x0:ay):Option (Bool):=some (band (band (band (ile (len x0.orders) 70) (ile (len x0.cells) 70)) (ile (len x0.limits) 70)) (ile (len x0.caps) 70))
noncomputable def Du:Cx:={ P:=PG,ety:=ety,fn:=look [],inl:=dP [],lp:=aY [] }
theorem IQ (x0:ay):bK Du 9 [.val .state] [.bool] x0=mO x0:=by kernel_rfl
def rQ:aT:=mkSpec [.val .state] [.bool] true (fun x=>mO x)
theorem LK:dh PG 9 rQ:=
 have K:CxR Du:=aV.cx (fun _=>rfl) (l:=[]) trivial
 aI K (aH (l:=[]) rfl trivial) (by kernel_rfl) (fun x y h=>(IQ x).trans h) rfl rfl
def zh (x0:ak) (x1:Int):Option (ak):=cnd (band (ile 0 (wr .i64 (aj x0.sure (jY (imax x1 0) (wr .i64 (aC (len x0.data) x0.sure)))))) (ile (wr .i64 (aj x0.sure (jY (imax x1 0) (wr .i64 (aC (len x0.data) x0.sure))))) (len x0.data))) (af (bP (ax x0.data (itn (wr .i64 (aj x0.sure (jY (imax x1 0) (wr .i64 (aC (len x0.data) x0.sure)))))))) fun y0 => some (ak.mk x0.name y0 (wr .i64 (aj x0.sure (jY (imax x1 0) (wr .i64 (aC (len x0.data) x0.sure))))))) none
noncomputable def U8:Cx:={ P:=PG,ety:=ety,fn:=look [(56,iI)],inl:=dP [],lp:=aY [] }
theorem XW (x0:ak) (x1:Int):bK U8 54 [.val .file,.int .i64] [.val .file] (x0,x1)=zh x0 x1:=by kernel_rfl
def EZ:aT:=mkSpec [.val .file,.int .i64] [.val .file] false (fun x=>zh x.1 x.2)
theorem abx:dh PG 54 EZ:=
 have K:CxR U8:=aV.cx (fun _=>rfl) (l:=[(56,iI)]) ⟨vI,trivial⟩
 aI K (aH (l:=[]) rfl trivial) (by kernel_rfl) (fun x y h=>(XW x.1 x.2).trans h) rfl rfl
def Ll:LSh:=⟨86,[(25,.int .i64),(1,.ro .i64)],[(24,.mf 120),(3,.mp 24 0)],[],[(26,.int .i64)],[(24,[.rf 120,.int .i64,.int .i64,.bool])],[(120,.file)]⟩
@[reducible] def Lm:List gQ:=[⟨.exit 0,[],[(24,[.rf 120,.int .i64,.int .i64,.bool])],[(120,.file)]⟩]
def pY (p0:Int) (p1:(List Int)) (v0:Int) (v1:Unit) (v2:Int) (v3:Int) (v4:Bool) (v5:(List ak)):Option ((Int×Unit×Int×Int×Bool×(List ak)) ⊕ ((Unit×Int×Int×Bool×(List ak)))):=cnd (ilt v0 p0) (cnd (band (ile 0 v0) (ilt v0 (len v5))) (cnd (ilt 0 (len p1)) (cnd (aB (ieq (len p1) 0)) (cnd (band (ile 0 (Ip v0 (len p1))) (ilt (Ip v0 (len p1)) (len p1))) (af (zh (ah v5 (itn v0)) (ah p1 (itn (Ip v0 (len p1))))) fun y0 => cnd (band (ile 0 v0) (ilt v0 (len v5))) (some (Sum.inl (wr .i64 (aj v0 1),PUnit.unit,v2,v3,v4,bf v5 (itn v0) y0))) none) none) none) (af (zh (ah v5 (itn v0)) 0) fun y1 => cnd (band (ile 0 v0) (ilt v0 (len v5))) (some (Sum.inl (wr .i64 (aj v0 1),PUnit.unit,v2,v3,v4,bf v5 (itn v0) y1))) none)) none) (some (Sum.inr (PUnit.unit,v2,v3,v4,v5)))
def Jg:fM:=Ll.spec Lm [27,28,29,30,9,8,10,31,32,33,34,35,36,37,38,39,40,41,42,43,44,45,46,47,48,26] (fun p v=>pY p.1 p.2 v.1 v.2.1 v.2.2.1 v.2.2.2.1 v.2.2.2.2.1 v.2.2.2.2.2)
def zD (x0:ai) (x1:(List Int)) (x2:Int):Option (ai×Int):=af (qm x0) fun y0 => cnd (bor (aB y0) (ilt x2 (-1))) (some (x0,1)) (af (aJ x0.files) fun y1 => af (bG (fun v => pY (len y1) x1 v.fst v.snd.fst v.snd.snd.fst v.snd.snd.snd.fst v.snd.snd.snd.snd.fst v.snd.snd.snd.snd.snd) LF (0,PUnit.unit,x0.room,x0.fuse,x0.down,y1)) fun y2 => some (ai.mk y2.snd.snd.snd.snd y2.snd.fst x2 false,0))
noncomputable def MI:Cx:={ P:=PG,ety:=ety,fn:=look [(52,nN),(53,bH),(54,EZ)],inl:=dP [],lp:=aY [(19,122,Jg)] }
theorem Qw (p0:Int) (p1:(List Int)) (v0:Int) (v1:Unit) (v2:Int) (v3:Int) (v4:Bool) (v5:(List ak)):jk MI 900 19 122 (eF PG 19 122) Ll Lm (p0,p1) (v0,v1,v2,v3,v4,v5)=pY p0 p1 v0 v1 v2 v3 v4 v5:=by kernel_rfl
theorem Yv (x0:ai) (x1:(List Int)) (x2:Int):bK MI 19 [.val .disk,.ro .i64,.int .i64] [.val .disk,.int .i64] (x0,x1,x2)=zD x0 x1 x2:=by kernel_rfl
def FY:aT:=mkSpec [.val .disk,.ro .i64,.int .i64] [.val .disk,.int .i64] false (fun x=>zD x.1 x.2.1 x.2.2)
theorem abw:dh PG 19 FY:=
 have K:CxR MI:=aV.cx (fun _=>rfl) (l:=[(52,nN),(53,bH),(54,EZ)]) ⟨Ir,iR,abx,trivial⟩
 aI K (aH (l:=[(19,122,Jg)]) rfl ⟨cu (n:=900) (f:=19) K (by kernel_rfl) (by kernel_rfl) (by kernel_rfl) (by kernel_rfl) (by kernel_rfl) (fun p v r h=>(Qw p.1 p.2 v.1 v.2.1 v.2.2.1 v.2.2.2.1 v.2.2.2.2.1 v.2.2.2.2.2).trans h),trivial⟩) (by kernel_rfl) (fun x y h=>(Yv x.1 x.2.1 x.2.2).trans h) rfl rfl
def Ag:LSh:=⟨76,[(0,.str)],[],[],[(4,.int .i64),(3,.int .i64),(2,.int .i64)],[],[]⟩
@[reducible] def zY:List gQ:=[⟨.ret,[(2,.int .i64)],[],[]⟩,⟨.exit 0,[(3,.int .i64),(2,.int .i64)],[],[]⟩]
def jL (p0:(List UInt8)) (v0:Int) (v1:Int) (v2:Int):Option ((Int×Int×Int) ⊕ ((Int) ⊕ ((Int×Int)))):=cnd (ilt v0 15) (cnd (band (ile 0 v0) (ilt v0 (len p0))) (cnd (bor (band (ile 0 v0) (ilt v0 (len p0))) (aB (aB (ilt (Xe p0 (itn v0)) 48)))) (cnd (bor (ilt (Xe p0 (itn v0)) 48) (ilt 57 (Xe p0 (itn v0)))) (some (Sum.inr (Sum.inl 0))) (cnd (band (ile 0 v0) (ilt v0 (len p0))) (some (Sum.inl (wr .i64 (aj v0 1),wr .i64 (aj (wr .i64 (ji v1 10)) (wr .i64 (wr .u8 (aC (Xe p0 (itn v0)) 48)))),v2))) none)) none) none) (some (Sum.inr (Sum.inr (v1,v2))))
def zL:fM:=Ag.spec zY [13,14,17,18,19,20,21,22,23,24,25,26,2,27,28,29,30,31,32,33,34,3,15,16,4] (fun p v=>jL p v.1 v.2.1 v.2.2)
def lT (x0:(List UInt8)):Option (Int):=cnd (bor (ile 5 (len x0)) (aB (aB (aB (ieq (len x0) 15))))) (cnd (bor (aB (ieq (len x0) 15)) (aB (seq (ax x0 5) [(UInt8.ofNat 115),(UInt8.ofNat 110),(UInt8.ofNat 97),(UInt8.ofNat 112),(UInt8.ofNat 46)]))) (some 0) (af (bG (fun v => jL x0 v.fst v.snd.fst v.snd.snd) LF (5,0,0)) fun y0 => qO y0 (fun y1 => some y1) fun y1 => cnd (ilt 1000000000 y1.fst) (some 0) (some y1.fst))) none
noncomputable def yI:Cx:={ P:=PG,ety:=ety,fn:=look [],inl:=dP [],lp:=aY [(20,122,zL)] }
theorem GH (p0:(List UInt8)) (v0:Int) (v1:Int) (v2:Int):jk yI 900 20 122 (eF PG 20 122) Ag zY p0 (v0,v1,v2)=jL p0 v0 v1 v2:=by kernel_rfl
theorem LU (x0:(List UInt8)):bK yI 20 [.str] [.int .i64] x0=lT x0:=by kernel_rfl
def uN:aT:=mkSpec [.str] [.int .i64] true (fun x=>lT x)
theorem OM:dh PG 20 uN:=
 have K:CxR yI:=aV.cx (fun _=>rfl) (l:=[]) trivial
 aI K (aH (l:=[(20,122,zL)]) rfl ⟨cu (n:=900) (f:=20) K (by kernel_rfl) (by kernel_rfl) (by kernel_rfl) (by kernel_rfl) (by kernel_rfl) (fun p v r h=>(GH p v.1 v.2.1 v.2.2).trans h),trivial⟩) (by kernel_rfl) (fun x y h=>(LU x).trans h) rfl rfl
def qK:LSh:=⟨121,[],[(12,.mp 408 0),(7,.mp 240 0)],[(408,[.val .disk]),(240,[.val .disk])],[(14,.int .i64),(6,.bool)],[],[]⟩
@[reducible] def qM:List gQ:=[⟨.ret,[(6,.bool)],[],[]⟩,⟨.exit 0,[(6,.bool)],[],[]⟩]
def eu (p0:ai) (p1:ai) (v0:Int) (v1:Bool):Option ((Int×Bool) ⊕ ((Bool) ⊕ ((Bool)))):=cnd (ilt v0 (len p1.files)) (cnd (band (ile 0 v0) (ilt v0 (len p1.files))) (af (cnd (aB (bor (bor (seq (ah p1.files (itn v0)).name [(UInt8.ofNat 116),(UInt8.ofNat 109),(UInt8.ofNat 112)]) (seq (ah p1.files (itn v0)).name [(UInt8.ofNat 115),(UInt8.ofNat 108),(UInt8.ofNat 111),(UInt8.ofNat 116),(UInt8.ofNat 46),(UInt8.ofNat 48)])) (seq (ah p1.files (itn v0)).name [(UInt8.ofNat 115),(UInt8.ofNat 108),(UInt8.ofNat 111),(UInt8.ofNat 116),(UInt8.ofNat 46),(UInt8.ofNat 49)]))) (lT (ah p1.files (itn v0)).name) (some 0)) fun y0 => cnd (bor (bor (bor (seq (ah p1.files (itn v0)).name [(UInt8.ofNat 116),(UInt8.ofNat 109),(UInt8.ofNat 112)]) (seq (ah p1.files (itn v0)).name [(UInt8.ofNat 115),(UInt8.ofNat 108),(UInt8.ofNat 111),(UInt8.ofNat 116),(UInt8.ofNat 46),(UInt8.ofNat 48)])) (seq (ah p1.files (itn v0)).name [(UInt8.ofNat 115),(UInt8.ofNat 108),(UInt8.ofNat 111),(UInt8.ofNat 116),(UInt8.ofNat 46),(UInt8.ofNat 49)])) (ilt 0 y0)) (some (Sum.inl (wr .i64 (aj v0 1),v1))) (af (jD p0 (ah p1.files (itn v0)).name) fun y1 => cnd (bor (band (ile 0 v0) (ilt v0 (len p1.files))) (aB (aB (aB (ieq y1.snd 0))))) (cnd (bor (aB (ieq y1.snd 0)) (aB (seq (u2s y1.fst) (u2s (ah p1.files (itn v0)).data)))) (some (Sum.inr (Sum.inl false))) (some (Sum.inl (wr .i64 (aj v0 1),v1)))) none)) none) (some (Sum.inr (Sum.inr v1)))
def qw:fM:=qK.spec qM [60,61,62,63,64,67,68,69,70,71,72,15,73,74,75,76,77,78,79,80,81,82,83,84,85,86,87,89,90,91,88,92,93,16,17,94,95,96,97,98,99,100,101,102,103,104,105,106,107,6,65,66,14] (fun p v=>eu p.1 p.2 v.1 v.2)
def qp:LSh:=⟨192,[],[(12,.mp 408 0)],[(408,[.val .disk])],[(19,.int .i64),(18,.int .i64),(6,.bool)],[],[]⟩
@[reducible] def qC:List gQ:=[⟨.ret,[(6,.bool)],[],[]⟩,⟨.exit 2,[(18,.int .i64),(6,.bool)],[],[]⟩]
def dS (p0:ai) (v0:Int) (v1:Int) (v2:Bool):Option ((Int×Int×Bool) ⊕ ((Bool) ⊕ ((Int×Bool)))):=cnd (ilt v0 (len p0.files)) (cnd (band (ile 0 v0) (ilt v0 (len p0.files))) (af (lT (ah p0.files (itn v0)).name) fun y0 => cnd (ilt 0 y0) (cnd (band (ile 0 v0) (ilt v0 (len p0.files))) (cnd (seq (ah p0.files (itn v0)).name [(UInt8.ofNat 116),(UInt8.ofNat 109),(UInt8.ofNat 112)]) (some (Sum.inr (Sum.inl false))) (some (Sum.inl (wr .i64 (aj v0 1),wr .i64 (aj v1 1),v2)))) none) (cnd (band (ile 0 v0) (ilt v0 (len p0.files))) (cnd (seq (ah p0.files (itn v0)).name [(UInt8.ofNat 116),(UInt8.ofNat 109),(UInt8.ofNat 112)]) (some (Sum.inr (Sum.inl false))) (some (Sum.inl (wr .i64 (aj v0 1),v1,v2)))) none)) none) (some (Sum.inr (Sum.inr (v1,v2))))
def pR:fM:=qp.spec qC [112,113,114,115,116,119,120,121,122,123,124,125,126,127,128,18,129,130,131,132,133,134,135,6,117,118,19] (fun p v=>dS p v.1 v.2.1 v.2.2)
def kU (x0:ai) (x1:ay) (x2:Int):Option (Bool):=af kP fun y0 => cnd (aB y0) (some false) (af (mP x0) fun y1 => af (cnd (aB (aB y1)) (mO x1) (some false)) fun y2 => af (cnd (aB (bor (aB y1) (aB y2))) (jP x1) (some false)) fun y3 => cnd (bor (bor (aB y1) (aB y2)) (aB y3)) (some true) (af (zD x0 [65536] (Ip (wr .i64 x2) 12)) fun y4 => cnd (aB (ieq y4.snd 0)) (some true) (af (oq y4.fst x1) fun y5 => af (zD y5.fst [] (-1)) fun y6 => cnd (aB (ieq y6.snd 0)) (some false) (af (bG (fun v => eu y6.fst y4.fst v.fst v.snd) LF (0,false)) fun y7 => qO y7 (fun y8 => some y8) fun y8 => cnd (aB (ieq y5.snd.snd 0)) (some (ieq y5.snd.fst 0)) (af (bG (fun v => dS y6.fst v.fst v.snd.fst v.snd.snd) LF (0,0,y8)) fun y9 => qO y9 (fun y10 => some y10) fun y10 => some (ieq y10.fst 1))))))
noncomputable def lq:Cx:={ P:=PG,ety:=ety,fn:=look [(7,rJ),(8,qZ),(9,rQ),(18,iP),(19,FY),(10,uq),(20,uN),(21,jw)],inl:=dP [4095],lp:=aY [(5,4090,qw),(5,32762,pR)] }
theorem yM (p0:ai) (p1:ai) (v0:Int) (v1:Bool):jk lq 900 5 4090 (eF PG 5 4090) qK qM (p0,p1) (v0,v1)=eu p0 p1 v0 v1:=by kernel_rfl
theorem xZ (p0:ai) (v0:Int) (v1:Int) (v2:Bool):jk lq 900 5 32762 (eF PG 5 32762) qp qC p0 (v0,v1,v2)=dS p0 v0 v1 v2:=by kernel_rfl
theorem Dv (x0:ai) (x1:ay) (x2:Int):bK lq 5 [.val .disk,.val .state,.int .u8] [.bool] (x0,x1,x2)=kU x0 x1 x2:=by kernel_rfl
def CW:aT:=mkSpec [.val .disk,.val .state,.int .u8] [.bool] true (fun x=>kU x.1 x.2.1 x.2.2)
theorem Ew:dh PG 5 CW:=
 have K:CxR lq:=aV.cx (fun _=>rfl) (l:=[(7,rJ),(8,qZ),(9,rQ),(18,iP),(19,FY),(10,uq),(20,uN),(21,jw)]) ⟨LH,LM,LK,xX,abw,PD,OM,zW,trivial⟩
 aI K (aH (l:=[(5,4090,qw),(5,32762,pR)]) rfl ⟨cu (n:=900) (f:=5) K (by kernel_rfl) (by kernel_rfl) (by kernel_rfl) (by kernel_rfl) (by kernel_rfl) (fun p v r h=>(yM p.1 p.2 v.1 v.2).trans h),
  cu (n:=900) (f:=5) K (by kernel_rfl) (by kernel_rfl) (by kernel_rfl) (by kernel_rfl) (by kernel_rfl) (fun p v r h=>(xZ p v.1 v.2.1 v.2.2).trans h),trivial⟩) (by kernel_rfl) (fun x y h=>(Dv x.1 x.2.1 x.2.2).trans h) rfl rfl
end
end Go.Av
