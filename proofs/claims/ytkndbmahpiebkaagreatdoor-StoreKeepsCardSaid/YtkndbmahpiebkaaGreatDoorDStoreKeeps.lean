/- Functions that this claim reaches, part 1. No condition. -/
import Derived.Test.YtkndbmahpiebkaaGreatDoorDStoreKeepsx0
import Derived.KernelRfl
set_option linter.unusedVariables false
set_option linter.unusedSimpArgs false
set_option linter.unnecessarySimpa false
namespace Go.Av
open Go
noncomputable section
def AU:LSh:=⟨146,[],[(3,.mp 24 0),(2,.mp 16 0)],[(24,[.val .state]),(16,[.val .state])],[(5,.int .i64),(4,.bool)],[],[]⟩
@[reducible] def Bh:List iQ:=[⟨.ret,[(4,.bool)],[],[]⟩,⟨.exit 0,[(4,.bool)],[],[]⟩]
def jR (p0:aj) (p1:aj) (v0:Int) (v1:Bool):Option ((Int×Bool) ⊕ ((Bool) ⊕ ((Bool)))):=cnd (ilt v0 (len p1.orders)) (cnd (band (ile 0 v0) (ilt v0 (len p1.orders))) (cnd (band (ile 0 v0) (ilt v0 (len p0.orders))) (cnd (aC (band (ieq (ah p1.orders (itn v0)).id (ah p0.orders (itn v0)).id) (band (ieq (ah p1.orders (itn v0)).account (ah p0.orders (itn v0)).account) (band (ieq (ah p1.orders (itn v0)).symbol (ah p0.orders (itn v0)).symbol) (band (ieq (ah p1.orders (itn v0)).side (ah p0.orders (itn v0)).side) (band (ieq (ah p1.orders (itn v0)).qty (ah p0.orders (itn v0)).qty) (band (ieq (ah p1.orders (itn v0)).price (ah p0.orders (itn v0)).price) (band (ieq (ah p1.orders (itn v0)).filled (ah p0.orders (itn v0)).filled) (band (ieq (ah p1.orders (itn v0)).phase (ah p0.orders (itn v0)).phase) (band (ieq (ah p1.orders (itn v0)).newQty (ah p0.orders (itn v0)).newQty) (band (ieq (ah p1.orders (itn v0)).newPrice (ah p0.orders (itn v0)).newPrice) (band (ieq (ah p1.orders (itn v0)).version (ah p0.orders (itn v0)).version) (beq (ah p1.orders (itn v0)).asked (ah p0.orders (itn v0)).asked))))))))))))) (some (Sum.inr (Sum.inl false))) (some (Sum.inl (wr .i64 (ak v0 1),v1)))) none) none) (some (Sum.inr (Sum.inr v1)))
def zK:iF:=AU.spec Bh [85,86,87,88,89,92,93,94,95,96,97,98,99,100,101,102,4,90,91,5] (fun p v=>jR p.1 p.2 v.1 v.2)
def zW:LSh:=⟨214,[],[(3,.mp 24 0),(2,.mp 16 0)],[(24,[.val .state]),(16,[.val .state])],[(6,.int .i64),(4,.bool)],[],[]⟩
@[reducible] def zL:List iQ:=[⟨.ret,[(4,.bool)],[],[]⟩,⟨.exit 2,[(4,.bool)],[],[]⟩]
def jB (p0:aj) (p1:aj) (v0:Int) (v1:Bool):Option ((Int×Bool) ⊕ ((Bool) ⊕ ((Bool)))):=cnd (ilt v0 (len p1.cells)) (cnd (band (ile 0 v0) (ilt v0 (len p1.cells))) (cnd (band (ile 0 v0) (ilt v0 (len p0.cells))) (cnd (aC (band (ieq (ah p1.cells (itn v0)).pos (ah p0.cells (itn v0)).pos) (band (ieq (ah p1.cells (itn v0)).buy (ah p0.cells (itn v0)).buy) (band (ieq (ah p1.cells (itn v0)).sell (ah p0.cells (itn v0)).sell) (ieq (ah p1.cells (itn v0)).opn (ah p0.cells (itn v0)).opn))))) (some (Sum.inr (Sum.inl false))) (some (Sum.inl (wr .i64 (ak v0 1),v1)))) none) none) (some (Sum.inr (Sum.inr v1)))
def yO:iF:=zW.spec zL [103,104,105,106,107,110,111,112,113,114,115,116,117,118,119,120,4,108,109,6] (fun p v=>jB p.1 p.2 v.1 v.2)
def Ah:LSh:=⟨282,[],[(3,.mp 24 0),(2,.mp 16 0)],[(24,[.val .state]),(16,[.val .state])],[(7,.int .i64),(4,.bool)],[],[]⟩
@[reducible] def zN:List iQ:=[⟨.ret,[(4,.bool)],[],[]⟩,⟨.exit 4,[(4,.bool)],[],[]⟩]
def jv (p0:aj) (p1:aj) (v0:Int) (v1:Bool):Option ((Int×Bool) ⊕ ((Bool) ⊕ ((Bool)))):=cnd (ilt v0 (len p1.limits)) (cnd (band (ile 0 v0) (ilt v0 (len p1.limits))) (cnd (band (ile 0 v0) (ilt v0 (len p0.limits))) (cnd (aC (band (ieq (ah p1.limits (itn v0)).long (ah p0.limits (itn v0)).long) (band (ieq (ah p1.limits (itn v0)).short (ah p0.limits (itn v0)).short) (ieq (ah p1.limits (itn v0)).opn (ah p0.limits (itn v0)).opn)))) (some (Sum.inr (Sum.inl false))) (some (Sum.inl (wr .i64 (ak v0 1),v1)))) none) none) (some (Sum.inr (Sum.inr v1)))
def yG:iF:=Ah.spec zN [121,122,123,124,125,128,129,130,131,132,133,134,135,136,137,138,4,126,127,7] (fun p v=>jv p.1 p.2 v.1 v.2)
def Aa:LSh:=⟨350,[],[(3,.mp 24 0),(2,.mp 16 0)],[(24,[.val .state]),(16,[.val .state])],[(8,.int .i64),(4,.bool)],[],[]⟩
@[reducible] def zD:List iQ:=[⟨.ret,[(4,.bool)],[],[]⟩,⟨.exit 6,[(4,.bool)],[],[]⟩]
def jw (p0:aj) (p1:aj) (v0:Int) (v1:Bool):Option ((Int×Bool) ⊕ ((Bool) ⊕ ((Bool)))):=cnd (ilt v0 (len p1.caps)) (cnd (band (ile 0 v0) (ilt v0 (len p1.caps))) (cnd (band (ile 0 v0) (ilt v0 (len p0.caps))) (cnd (aC (ieq (ah p1.caps (itn v0)) (ah p0.caps (itn v0)))) (some (Sum.inr (Sum.inl false))) (some (Sum.inl (wr .i64 (ak v0 1),v1)))) none) none) (some (Sum.inr (Sum.inr v1)))
def yQ:iF:=Aa.spec zD [139,140,141,142,143,146,147,148,149,150,151,152,153,154,155,156,4,144,145,8] (fun p v=>jw p.1 p.2 v.1 v.2)
def fJ (x0:aj) (x1:aj):Option (Bool):=cnd (bor (bor (bor (bor (bor (bor (bor (bor (bor (aC (ieq x0.accounts x1.accounts)) (aC (ieq x0.symbols x1.symbols))) (aC (beq x0.kill x1.kill))) (aC (ieq x0.last x1.last))) (aC (ieq x0.seq x1.seq))) (aC (ieq x0.lsn x1.lsn))) (aC (ieq (len x0.orders) (len x1.orders)))) (aC (ieq (len x0.cells) (len x1.cells)))) (aC (ieq (len x0.limits) (len x1.limits)))) (aC (ieq (len x0.caps) (len x1.caps)))) (some false) (af (bF (fun v => jR x1 x0 v.fst v.snd) LF (0,false)) fun y0 => qf y0 (fun y1 => some y1) fun y1 => af (bF (fun v => jB x1 x0 v.fst v.snd) LF (0,y1)) fun y2 => qf y2 (fun y3 => some y3) fun y3 => af (bF (fun v => jv x1 x0 v.fst v.snd) LF (0,y3)) fun y4 => qf y4 (fun y5 => some y5) fun y5 => af (bF (fun v => jw x1 x0 v.fst v.snd) LF (0,y5)) fun y6 => qf y6 (fun y7 => some y7) fun y7 => some true)
noncomputable def lQ:Cx:={ P:=PG,ety:=ety,fn:=look [],inl:=eU [],lp:=aY [(16,58,zK),(16,122,yO),(16,250,yG),(16,506,yQ)] }
theorem Hy (p0:aj) (p1:aj) (v0:Int) (v1:Bool):jW lQ 900 16 58 (gJ PG 16 58) AU Bh (p0,p1) (v0,v1)=jR p0 p1 v0 v1:=by kernel_rfl
theorem Gy (p0:aj) (p1:aj) (v0:Int) (v1:Bool):jW lQ 900 16 122 (gJ PG 16 122) zW zL (p0,p1) (v0,v1)=jB p0 p1 v0 v1:=by kernel_rfl
theorem Gm (p0:aj) (p1:aj) (v0:Int) (v1:Bool):jW lQ 900 16 250 (gJ PG 16 250) Ah zN (p0,p1) (v0,v1)=jv p0 p1 v0 v1:=by kernel_rfl
theorem FI (p0:aj) (p1:aj) (v0:Int) (v1:Bool):jW lQ 900 16 506 (gJ PG 16 506) Aa zD (p0,p1) (v0,v1)=jw p0 p1 v0 v1:=by kernel_rfl
theorem Kq (x0:aj) (x1:aj):bP lQ 16 [.val .state,.val .state] [.bool] (x0,x1)=fJ x0 x1:=by kernel_rfl
def lM:aV:=mkSpec [.val .state,.val .state] [.bool] true (fun x=>fJ x.1 x.2)
theorem DZ:dJ PG 16 lM:=
 have K:CxR lQ:=aX.cx (fun _=>rfl) (l:=[]) trivial
 aJ K (aI (l:=[(16,58,zK),(16,122,yO),(16,250,yG),(16,506,yQ)]) rfl ⟨dN (n:=900) (f:=16) K (by kernel_rfl) (by kernel_rfl) (by kernel_rfl) (by kernel_rfl) (by kernel_rfl) (fun p v r h=>(Hy p.1 p.2 v.1 v.2).trans h),
  dN (n:=900) (f:=16) K (by kernel_rfl) (by kernel_rfl) (by kernel_rfl) (by kernel_rfl) (by kernel_rfl) (fun p v r h=>(Gy p.1 p.2 v.1 v.2).trans h),
  dN (n:=900) (f:=16) K (by kernel_rfl) (by kernel_rfl) (by kernel_rfl) (by kernel_rfl) (by kernel_rfl) (fun p v r h=>(Gm p.1 p.2 v.1 v.2).trans h),
  dN (n:=900) (f:=16) K (by kernel_rfl) (by kernel_rfl) (by kernel_rfl) (by kernel_rfl) (by kernel_rfl) (fun p v r h=>(FI p.1 p.2 v.1 v.2).trans h),trivial⟩) (by kernel_rfl) (fun x y h=>(Kq x.1 x.2).trans h) rfl rfl
def kZ:Option (Bool):=af (LK 1 1 (dP.mk 9 9 99) 99) fun y0 => af (JQ y0.fst (vT.mk 1 5 0 0 2 3 2 0 0 0 false 0 0)) fun y1 => af (kP (ai.mk [] 999 (-1) false)) fun y2 => af (lI (ai.mk [] 999 (-1) false) y0.fst) fun y3 => af (lI y3.fst y1.fst) fun y4 => af (kP y4.fst) fun y5 => af (cnd (band (band (band (band (band (band (ieq y2.snd.snd 7) (ieq y3.snd.snd 0)) (ieq y4.snd.snd 0)) (ieq y5.snd.snd 0)) (ieq y3.snd.fst 1)) (ieq y4.snd.fst 2)) (ieq y5.snd.fst 2)) (fJ y1.fst y5.fst) (some false)) fun y6 => af (cnd (band (band (band (band (band (band (band (band (band (ieq y2.snd.snd 7) (ieq y3.snd.snd 0)) (ieq y4.snd.snd 0)) (ieq y5.snd.snd 0)) (ieq y3.snd.fst 1)) (ieq y4.snd.fst 2)) (ieq y5.snd.fst 2)) y6) (ieq (len y5.fst.orders) 1)) (ieq (len y4.fst.files) 3)) (dS 7) (some [])) fun y7 => some (band (band (band (band (band (band (band (band (band (band (ieq y2.snd.snd 7) (ieq y3.snd.snd 0)) (ieq y4.snd.snd 0)) (ieq y5.snd.snd 0)) (ieq y3.snd.fst 1)) (ieq y4.snd.fst 2)) (ieq y5.snd.fst 2)) y6) (ieq (len y5.fst.orders) 1)) (ieq (len y4.fst.files) 3)) (seq y7 [(UInt8.ofNat 115),(UInt8.ofNat 110),(UInt8.ofNat 97),(UInt8.ofNat 112),(UInt8.ofNat 46),(UInt8.ofNat 48),(UInt8.ofNat 48),(UInt8.ofNat 48),(UInt8.ofNat 48),(UInt8.ofNat 48),(UInt8.ofNat 48),(UInt8.ofNat 48),(UInt8.ofNat 48),(UInt8.ofNat 48),(UInt8.ofNat 55)]))
noncomputable def DI:Cx:={ P:=PG,ety:=ety,fn:=look [(22,Jk),(23,Ku),(13,uP),(10,uK),(16,lM),(17,oL)],inl:=eU [4095],lp:=aY [] }
theorem Jl:bP DI 7 [] [.bool] ()=kZ:=by kernel_rfl
def sS:aV:=mkSpec [] [.bool] true (fun _=>kZ)
theorem MI:dJ PG 7 sS:=
 have K:CxR DI:=aX.cx (fun _=>rfl) (l:=[(22,Jk),(23,Ku),(13,uP),(10,uK),(16,lM),(17,oL)]) ⟨ad7,afn,PX,P5,DZ,Dk,trivial⟩
 aJ K (aI (l:=[]) rfl trivial) (by kernel_rfl) (fun x y h=>(Jl).trans h) rfl rfl
def yH:LSh:=⟨73,[],[(1,.mp 8 0)],[(8,[.val .disk])],[(4,.int .i64),(3,.int .i64),(2,.bool)],[],[]⟩
@[reducible] def yM:List iQ:=[⟨.ret,[(2,.bool)],[],[]⟩,⟨.exit 0,[(3,.int .i64),(2,.bool)],[],[]⟩]
def jf (p0:ai) (v0:Int) (v1:Int) (v2:Bool):Option ((Int×Int×Bool) ⊕ ((Bool) ⊕ ((Int×Bool)))):=cnd (ilt v0 (len p0.files)) (cnd (band (ile 0 v0) (ilt v0 (len p0.files))) (cnd (bor (band (ile 0 v0) (ilt v0 (len p0.files))) (aC (aC (ilt 70000 (len (ah p0.files (itn v0)).data))))) (cnd (bor (ilt 70000 (len (ah p0.files (itn v0)).data)) (ilt 100 (len (ah p0.files (itn v0)).name))) (some (Sum.inr (Sum.inl false))) (cnd (band (ile 0 v0) (ilt v0 (len p0.files))) (some (Sum.inl (wr .i64 (ak v0 1),wr .i64 (ak v1 (len (ah p0.files (itn v0)).data)),v2))) none)) none) none) (some (Sum.inr (Sum.inr (v1,v2))))
def xQ:iF:=yH.spec yM [9,10,11,12,13,16,17,18,19,20,21,22,23,24,25,26,27,28,29,30,31,32,33,2,34,35,36,37,38,39,40,41,42,3,14,15,4] (fun p v=>jf p v.1 v.2.1 v.2.2)
def nN (x0:ai):Option (Bool):=cnd (ilt 70 (len x0.files)) (some false) (af (bF (fun v => jf x0 v.fst v.snd.fst v.snd.snd) LF (0,0,false)) fun y0 => qf y0 (fun y1 => some y1) fun y1 => some (ile y1.fst 70000))
noncomputable def xw:Cx:={ P:=PG,ety:=ety,fn:=look [],inl:=eU [],lp:=aY [(8,122,xQ)] }
theorem Fg (p0:ai) (v0:Int) (v1:Int) (v2:Bool):jW xw 900 8 122 (gJ PG 8 122) yH yM p0 (v0,v1,v2)=jf p0 v0 v1 v2:=by kernel_rfl
theorem JC (x0:ai):bP xw 8 [.val .disk] [.bool] x0=nN x0:=by kernel_rfl
def sD:aV:=mkSpec [.val .disk] [.bool] true (fun x=>nN x)
theorem MS:dJ PG 8 sD:=
 have K:CxR xw:=aX.cx (fun _=>rfl) (l:=[]) trivial
 aJ K (aI (l:=[(8,122,xQ)]) rfl ⟨dN (n:=900) (f:=8) K (by kernel_rfl) (by kernel_rfl) (by kernel_rfl) (by kernel_rfl) (by kernel_rfl) (fun p v r h=>(Fg p v.1 v.2.1 v.2.2).trans h),trivial⟩) (by kernel_rfl) (fun x y h=>(JC x).trans h) rfl rfl
def nI (x0:aj):Option (Bool):=some (band (band (band (ile (len x0.orders) 70) (ile (len x0.cells) 70)) (ile (len x0.limits) 70)) (ile (len x0.caps) 70))
noncomputable def DV:Cx:={ P:=PG,ety:=ety,fn:=look [],inl:=eU [],lp:=aY [] }
theorem JK (x0:aj):bP DV 9 [.val .state] [.bool] x0=nI x0:=by kernel_rfl
def sK:aV:=mkSpec [.val .state] [.bool] true (fun x=>nI x)
theorem MP:dJ PG 9 sK:=
 have K:CxR DV:=aX.cx (fun _=>rfl) (l:=[]) trivial
 aJ K (aI (l:=[]) rfl trivial) (by kernel_rfl) (fun x y h=>(JK x).trans h) rfl rfl
def zZ (x0:ax) (x1:Int):Option (ax):=cnd (band (ile 0 (wr .i64 (ak x0.sure (kH (imax x1 0) (wr .i64 (aF (len x0.data) x0.sure)))))) (ile (wr .i64 (ak x0.sure (kH (imax x1 0) (wr .i64 (aF (len x0.data) x0.sure))))) (len x0.data))) (af (bW (aB x0.data (itn (wr .i64 (ak x0.sure (kH (imax x1 0) (wr .i64 (aF (len x0.data) x0.sure)))))))) fun y0 => some (ax.mk x0.name y0 (wr .i64 (ak x0.sure (kH (imax x1 0) (wr .i64 (aF (len x0.data) x0.sure))))))) none
noncomputable def V7:Cx:={ P:=PG,ety:=ety,fn:=look [(56,iY)],inl:=eU [],lp:=aY [] }
theorem YL (x0:ax) (x1:Int):bP V7 54 [.val .file,.int .i64] [.val .file] (x0,x1)=zZ x0 x1:=by kernel_rfl
def Gn:aV:=mkSpec [.val .file,.int .i64] [.val .file] false (fun x=>zZ x.1 x.2)
theorem abL:dJ PG 54 Gn:=
 have K:CxR V7:=aX.cx (fun _=>rfl) (l:=[(56,iY)]) ⟨xA,trivial⟩
 aJ K (aI (l:=[]) rfl trivial) (by kernel_rfl) (fun x y h=>(YL x.1 x.2).trans h) rfl rfl
def LY:LSh:=⟨86,[(25,.int .i64),(1,.ro .i64)],[(24,.mf 120),(3,.mp 24 0)],[],[(26,.int .i64)],[(24,[.rf 120,.int .i64,.int .i64,.bool])],[(120,.file)]⟩
@[reducible] def Md:List iQ:=[⟨.exit 0,[],[(24,[.rf 120,.int .i64,.int .i64,.bool])],[(120,.file)]⟩]
def qJ (p0:Int) (p1:(List Int)) (v0:Int) (v1:Unit) (v2:Int) (v3:Int) (v4:Bool) (v5:(List ax)):Option ((Int×Unit×Int×Int×Bool×(List ax)) ⊕ ((Unit×Int×Int×Bool×(List ax)))):=cnd (ilt v0 p0) (cnd (band (ile 0 v0) (ilt v0 (len v5))) (cnd (ilt 0 (len p1)) (cnd (aC (ieq (len p1) 0)) (cnd (band (ile 0 (I4 v0 (len p1))) (ilt (I4 v0 (len p1)) (len p1))) (af (zZ (ah v5 (itn v0)) (ah p1 (itn (I4 v0 (len p1))))) fun y0 => cnd (band (ile 0 v0) (ilt v0 (len v5))) (some (Sum.inl (wr .i64 (ak v0 1),PUnit.unit,v2,v3,v4,bf v5 (itn v0) y0))) none) none) none) (af (zZ (ah v5 (itn v0)) 0) fun y1 => cnd (band (ile 0 v0) (ilt v0 (len v5))) (some (Sum.inl (wr .i64 (ak v0 1),PUnit.unit,v2,v3,v4,bf v5 (itn v0) y1))) none)) none) (some (Sum.inr (PUnit.unit,v2,v3,v4,v5)))
def JJ:iF:=LY.spec Md [27,28,29,30,9,8,10,31,32,33,34,35,36,37,38,39,40,41,42,43,44,45,46,47,48,26] (fun p v=>qJ p.1 p.2 v.1 v.2.1 v.2.2.1 v.2.2.2.1 v.2.2.2.2.1 v.2.2.2.2.2)
def Ac (x0:ai) (x1:(List Int)) (x2:Int):Option (ai×Int):=af (qU x0) fun y0 => cnd (bor (aC y0) (ilt x2 (-1))) (some (x0,1)) (af (aK x0.files) fun y1 => af (bF (fun v => qJ (len y1) x1 v.fst v.snd.fst v.snd.snd.fst v.snd.snd.snd.fst v.snd.snd.snd.snd.fst v.snd.snd.snd.snd.snd) LF (0,PUnit.unit,x0.room,x0.fuse,x0.down,y1)) fun y2 => some (ai.mk y2.snd.snd.snd.snd y2.snd.fst x2 false,0))
noncomputable def OD:Cx:={ P:=PG,ety:=ety,fn:=look [(52,oJ),(53,bI),(54,Gn)],inl:=eU [],lp:=aY [(19,122,JJ)] }
theorem Q7 (p0:Int) (p1:(List Int)) (v0:Int) (v1:Unit) (v2:Int) (v3:Int) (v4:Bool) (v5:(List ax)):jW OD 900 19 122 (gJ PG 19 122) LY Md (p0,p1) (v0,v1,v2,v3,v4,v5)=qJ p0 p1 v0 v1 v2 v3 v4 v5:=by kernel_rfl
theorem Y7 (x0:ai) (x1:(List Int)) (x2:Int):bP OD 19 [.val .disk,.ro .i64,.int .i64] [.val .disk,.int .i64] (x0,x1,x2)=Ac x0 x1 x2:=by kernel_rfl
def FV:aV:=mkSpec [.val .disk,.ro .i64,.int .i64] [.val .disk,.int .i64] false (fun x=>Ac x.1 x.2.1 x.2.2)
theorem acL:dJ PG 19 FV:=
 have K:CxR OD:=aX.cx (fun _=>rfl) (l:=[(52,oJ),(53,bI),(54,Gn)]) ⟨Jg,jg,abL,trivial⟩
 aJ K (aI (l:=[(19,122,JJ)]) rfl ⟨dN (n:=900) (f:=19) K (by kernel_rfl) (by kernel_rfl) (by kernel_rfl) (by kernel_rfl) (by kernel_rfl) (fun p v r h=>(Q7 p.1 p.2 v.1 v.2.1 v.2.2.1 v.2.2.2.1 v.2.2.2.2.1 v.2.2.2.2.2).trans h),trivial⟩) (by kernel_rfl) (fun x y h=>(Y7 x.1 x.2.1 x.2.2).trans h) rfl rfl
def l7 (x0:ai) (x1:aj) (x2:Int) (x3:(List Int)):Option (Bool):=af kZ fun y0 => cnd (aC y0) (some false) (af (nN x0) fun y1 => af (cnd (aC (aC y1)) (nI x1) (some false)) fun y2 => af (cnd (aC (bor (bor (aC y1) (aC y2)) (ilt 9 (len x3)))) (jT x1) (some false)) fun y3 => cnd (bor (bor (bor (aC y1) (aC y2)) (ilt 9 (len x3))) (aC y3)) (some true) (af (Ac x0 [65536] (I4 (wr .i64 x2) 12)) fun y4 => cnd (aC (ieq y4.snd 0)) (some true) (af (kP y4.fst) fun y5 => af (lI y4.fst x1) fun y6 => af (Ac y6.fst x3 (-1)) fun y7 => af (kP y7.fst) fun y8 => cnd (aC (ieq y7.snd 0)) (some false) (af (cnd (ieq y8.snd.snd 0) (fJ y8.fst x1) (some false)) fun y9 => af (cnd (band (ieq y8.snd.snd y5.snd.snd) (ieq y8.snd.fst y5.snd.fst)) (fJ y8.fst y5.fst) (some false)) fun y10 => cnd (bor (band (ieq y6.snd.snd 0) (aC (band (band (ieq y8.snd.snd 0) y9) (bor (ieq y6.snd.fst 0) (ieq y8.snd.fst y6.snd.fst))))) (band (aC (band (band (ieq y8.snd.snd 0) y9) (bor (ieq y6.snd.fst 0) (ieq y8.snd.fst y6.snd.fst)))) (aC (band (band (ieq y8.snd.snd y5.snd.snd) (ieq y8.snd.fst y5.snd.fst)) y10)))) (some false) (af (lI y7.fst x1) fun y11 => af (kP y11.fst) fun y12 => af (cnd (band (aC (band (aC (ieq y11.snd.snd 0)) (bor (ieq y11.snd.snd 6) (ieq y11.snd.snd 3)))) (band (ieq y11.snd.snd 0) (ieq y12.snd.snd 0))) (fJ y12.fst x1) (some false)) fun y13 => some (bor (band (aC (ieq y11.snd.snd 0)) (bor (ieq y11.snd.snd 6) (ieq y11.snd.snd 3))) (band (band (ieq y11.snd.snd 0) (ieq y12.snd.snd 0)) y13)))))))
noncomputable def xK:Cx:={ P:=PG,ety:=ety,fn:=look [(7,sS),(8,sD),(9,sK),(18,jb),(19,FV),(13,uP),(10,uK),(16,lM)],inl:=eU [4095],lp:=aY [] }
theorem EC (x0:ai) (x1:aj) (x2:Int) (x3:(List Int)):bP xK 4 [.val .disk,.val .state,.int .u8,.ro .i64] [.bool] (x0,x1,x2,x3)=l7 x0 x1 x2 x3:=by kernel_rfl
def Eu:aV:=mkSpec [.val .disk,.val .state,.int .u8,.ro .i64] [.bool] true (fun x=>l7 x.1 x.2.1 x.2.2.1 x.2.2.2)
theorem G6:dJ PG 4 Eu:=
 have K:CxR xK:=aX.cx (fun _=>rfl) (l:=[(7,sS),(8,sD),(9,sK),(18,jb),(19,FV),(13,uP),(10,uK),(16,lM)]) ⟨MI,MS,MP,yg,acL,PX,P5,DZ,trivial⟩
 aJ K (aI (l:=[]) rfl trivial) (by kernel_rfl) (fun x y h=>(EC x.1 x.2.1 x.2.2.1 x.2.2.2).trans h) rfl rfl
end
end Go.Av
