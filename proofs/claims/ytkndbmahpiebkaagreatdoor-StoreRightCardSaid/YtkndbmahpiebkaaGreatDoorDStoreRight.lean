/- Functions that this claim reaches, part 1. No condition. -/
import Derived.Test.YtkndbmahpiebkaaGreatDoorDStoreRightx0
import Derived.KernelRfl
set_option linter.unusedVariables false
set_option linter.unusedSimpArgs false
set_option linter.unnecessarySimpa false
namespace Go.Av
open Go
noncomputable section
def Jj:LSh:=⟨146,[],[(3,.mp 24 0),(2,.mp 16 0)],[(24,[.val .state]),(16,[.val .state])],[(5,.int .i64),(4,.bool)],[],[]⟩
@[reducible] def JD:List fO:=[⟨.ret,[(4,.bool)],[],[]⟩,⟨.exit 0,[(4,.bool)],[],[]⟩]
def mW (p0:ax) (p1:ax) (v0:Int) (v1:Bool):Option ((Int×Bool) ⊕ ((Bool) ⊕ ((Bool)))):=cnd (ilt v0 (len p1.orders)) (cnd (band (ile 0 v0) (ilt v0 (len p1.orders))) (cnd (band (ile 0 v0) (ilt v0 (len p0.orders))) (cnd (ay (band (ieq (ai p1.orders (itn v0)).id (ai p0.orders (itn v0)).id) (band (ieq (ai p1.orders (itn v0)).account (ai p0.orders (itn v0)).account) (band (ieq (ai p1.orders (itn v0)).symbol (ai p0.orders (itn v0)).symbol) (band (ieq (ai p1.orders (itn v0)).side (ai p0.orders (itn v0)).side) (band (ieq (ai p1.orders (itn v0)).qty (ai p0.orders (itn v0)).qty) (band (ieq (ai p1.orders (itn v0)).price (ai p0.orders (itn v0)).price) (band (ieq (ai p1.orders (itn v0)).filled (ai p0.orders (itn v0)).filled) (band (ieq (ai p1.orders (itn v0)).phase (ai p0.orders (itn v0)).phase) (band (ieq (ai p1.orders (itn v0)).newQty (ai p0.orders (itn v0)).newQty) (band (ieq (ai p1.orders (itn v0)).newPrice (ai p0.orders (itn v0)).newPrice) (band (ieq (ai p1.orders (itn v0)).version (ai p0.orders (itn v0)).version) (beq (ai p1.orders (itn v0)).asked (ai p0.orders (itn v0)).asked))))))))))))) (some (Sum.inr (Sum.inl false))) (some (Sum.inl (wr .i64 (aj v0 1),v1)))) none) none) (some (Sum.inr (Sum.inr v1)))
def I7:dU:=Jj.spec JD [85,86,87,88,89,92,93,94,95,96,97,98,99,100,101,102,4,90,91,5] (fun p v=>mW p.1 p.2 v.1 v.2)
def IA:LSh:=⟨214,[],[(3,.mp 24 0),(2,.mp 16 0)],[(24,[.val .state]),(16,[.val .state])],[(6,.int .i64),(4,.bool)],[],[]⟩
@[reducible] def Ij:List fO:=[⟨.ret,[(4,.bool)],[],[]⟩,⟨.exit 2,[(4,.bool)],[],[]⟩]
def lN (p0:ax) (p1:ax) (v0:Int) (v1:Bool):Option ((Int×Bool) ⊕ ((Bool) ⊕ ((Bool)))):=cnd (ilt v0 (len p1.cells)) (cnd (band (ile 0 v0) (ilt v0 (len p1.cells))) (cnd (band (ile 0 v0) (ilt v0 (len p0.cells))) (cnd (ay (band (ieq (ai p1.cells (itn v0)).pos (ai p0.cells (itn v0)).pos) (band (ieq (ai p1.cells (itn v0)).buy (ai p0.cells (itn v0)).buy) (band (ieq (ai p1.cells (itn v0)).sell (ai p0.cells (itn v0)).sell) (ieq (ai p1.cells (itn v0)).opn (ai p0.cells (itn v0)).opn))))) (some (Sum.inr (Sum.inl false))) (some (Sum.inl (wr .i64 (aj v0 1),v1)))) none) none) (some (Sum.inr (Sum.inr v1)))
def Gj:dU:=IA.spec Ij [103,104,105,106,107,110,111,112,113,114,115,116,117,118,119,120,4,108,109,6] (fun p v=>lN p.1 p.2 v.1 v.2)
def IW:LSh:=⟨282,[],[(3,.mp 24 0),(2,.mp 16 0)],[(24,[.val .state]),(16,[.val .state])],[(7,.int .i64),(4,.bool)],[],[]⟩
@[reducible] def Iz:List fO:=[⟨.ret,[(4,.bool)],[],[]⟩,⟨.exit 4,[(4,.bool)],[],[]⟩]
def lS (p0:ax) (p1:ax) (v0:Int) (v1:Bool):Option ((Int×Bool) ⊕ ((Bool) ⊕ ((Bool)))):=cnd (ilt v0 (len p1.limits)) (cnd (band (ile 0 v0) (ilt v0 (len p1.limits))) (cnd (band (ile 0 v0) (ilt v0 (len p0.limits))) (cnd (ay (band (ieq (ai p1.limits (itn v0)).long (ai p0.limits (itn v0)).long) (band (ieq (ai p1.limits (itn v0)).short (ai p0.limits (itn v0)).short) (ieq (ai p1.limits (itn v0)).opn (ai p0.limits (itn v0)).opn)))) (some (Sum.inr (Sum.inl false))) (some (Sum.inl (wr .i64 (aj v0 1),v1)))) none) none) (some (Sum.inr (Sum.inr v1)))
def Gh:dU:=IW.spec Iz [121,122,123,124,125,128,129,130,131,132,133,134,135,136,137,138,4,126,127,7] (fun p v=>lS p.1 p.2 v.1 v.2)
def Ih:LSh:=⟨350,[],[(3,.mp 24 0),(2,.mp 16 0)],[(24,[.val .state]),(16,[.val .state])],[(8,.int .i64),(4,.bool)],[],[]⟩
@[reducible] def IG:List fO:=[⟨.ret,[(4,.bool)],[],[]⟩,⟨.exit 6,[(4,.bool)],[],[]⟩]
def lD (p0:ax) (p1:ax) (v0:Int) (v1:Bool):Option ((Int×Bool) ⊕ ((Bool) ⊕ ((Bool)))):=cnd (ilt v0 (len p1.caps)) (cnd (band (ile 0 v0) (ilt v0 (len p1.caps))) (cnd (band (ile 0 v0) (ilt v0 (len p0.caps))) (cnd (ay (ieq (ai p1.caps (itn v0)) (ai p0.caps (itn v0)))) (some (Sum.inr (Sum.inl false))) (some (Sum.inl (wr .i64 (aj v0 1),v1)))) none) none) (some (Sum.inr (Sum.inr v1)))
def FT:dU:=Ih.spec IG [139,140,141,142,143,146,147,148,149,150,151,152,153,154,155,156,4,144,145,8] (fun p v=>lD p.1 p.2 v.1 v.2)
def iG (x0:ax) (x1:ax):Option (Bool):=cnd (bor (bor (bor (bor (bor (bor (bor (bor (bor (ay (ieq x0.accounts x1.accounts)) (ay (ieq x0.symbols x1.symbols))) (ay (beq x0.kill x1.kill))) (ay (ieq x0.last x1.last))) (ay (ieq x0.seq x1.seq))) (ay (ieq x0.lsn x1.lsn))) (ay (ieq (len x0.orders) (len x1.orders)))) (ay (ieq (len x0.cells) (len x1.cells)))) (ay (ieq (len x0.limits) (len x1.limits)))) (ay (ieq (len x0.caps) (len x1.caps)))) (some false) (af (bD (fun v=>mW x1 x0 v.fst v.snd) LF (0,false)) fun y0=>gY y0 (fun y1=>some y1) fun y1=>af (bD (fun v=>lN x1 x0 v.fst v.snd) LF (0,y1)) fun y2=>gY y2 (fun y3=>some y3) fun y3=>af (bD (fun v=>lS x1 x0 v.fst v.snd) LF (0,y3)) fun y4=>gY y4 (fun y5=>some y5) fun y5=>af (bD (fun v=>lD x1 x0 v.fst v.snd) LF (0,y5)) fun y6=>gY y6 (fun y7=>some y7) fun y7=>some true)
noncomputable def qB:Cx:={ P:=PG,ety:=ety,fn:=look [],inl:=dR [],lp:=aS [(16,58,I7),(16,122,Gj),(16,250,Gh),(16,506,FT)] }
theorem Rl (p0:ax) (p1:ax) (v0:Int) (v1:Bool):fC qB 900 16 58 (dK PG 16 58) Jj JD (p0,p1) (v0,v1)=mW p0 p1 v0 v1:=by kernel_rfl
theorem Qk (p0:ax) (p1:ax) (v0:Int) (v1:Bool):fC qB 900 16 122 (dK PG 16 122) IA Ij (p0,p1) (v0,v1)=lN p0 p1 v0 v1:=by kernel_rfl
theorem Qi (p0:ax) (p1:ax) (v0:Int) (v1:Bool):fC qB 900 16 250 (dK PG 16 250) IW Iz (p0,p1) (v0,v1)=lS p0 p1 v0 v1:=by kernel_rfl
theorem PV (p0:ax) (p1:ax) (v0:Int) (v1:Bool):fC qB 900 16 506 (dK PG 16 506) Ih IG (p0,p1) (v0,v1)=lD p0 p1 v0 v1:=by kernel_rfl
theorem Vo (x0:ax) (x1:ax):bP qB 16 [.val .state,.val .state] [.bool] (x0,x1)=iG x0 x1:=by kernel_rfl
def qm:aO:=mkSpec [.val .state,.val .state] [.bool] true (fun x=>iG x.1 x.2)
theorem MW:dI PG 16 qm:=
 have K:CxR qB:=aP.cx (fun _=>rfl) (l:=[]) trivial
 aH K (aG (l:=[(16,58,I7),(16,122,Gj),(16,250,Gh),(16,506,FT)]) rfl ⟨bF (n:=900) (f:=16) K (by kernel_rfl) (by kernel_rfl) (by kernel_rfl) (by kernel_rfl) (by kernel_rfl) (fun p v r h=>(Rl p.1 p.2 v.1 v.2).trans h),
  bF (n:=900) (f:=16) K (by kernel_rfl) (by kernel_rfl) (by kernel_rfl) (by kernel_rfl) (by kernel_rfl) (fun p v r h=>(Qk p.1 p.2 v.1 v.2).trans h),
  bF (n:=900) (f:=16) K (by kernel_rfl) (by kernel_rfl) (by kernel_rfl) (by kernel_rfl) (by kernel_rfl) (fun p v r h=>(Qi p.1 p.2 v.1 v.2).trans h),
  bF (n:=900) (f:=16) K (by kernel_rfl) (by kernel_rfl) (by kernel_rfl) (by kernel_rfl) (by kernel_rfl) (fun p v r h=>(PV p.1 p.2 v.1 v.2).trans h),trivial⟩) (by kernel_rfl) (fun x y h=>(Vo x.1 x.2).trans h) rfl rfl
def oU:Option (Bool):=af (Wv 1 1 (dL.mk 9 9 99) 99) fun y0=>af (U7 y0.fst (yX.mk 1 5 0 0 2 3 2 0 0 0 false 0 0)) fun y1=>af (uG (au.mk [] 999 (-1) false)) fun y2=>af (uK (au.mk [] 999 (-1) false) y0.fst) fun y3=>af (uK y3.fst y1.fst) fun y4=>af (uG y4.fst) fun y5=>af (cnd (band (band (band (band (band (band (ieq y2.snd.snd 7) (ieq y3.snd.snd 0)) (ieq y4.snd.snd 0)) (ieq y5.snd.snd 0)) (ieq y3.snd.fst 1)) (ieq y4.snd.fst 2)) (ieq y5.snd.fst 2)) (iG y1.fst y5.fst) (some false)) fun y6=>af (cnd (band (band (band (band (band (band (band (band (band (ieq y2.snd.snd 7) (ieq y3.snd.snd 0)) (ieq y4.snd.snd 0)) (ieq y5.snd.snd 0)) (ieq y3.snd.fst 1)) (ieq y4.snd.fst 2)) (ieq y5.snd.fst 2)) y6) (ieq (len y5.fst.orders) 1)) (ieq (len y4.fst.files) 3)) (dV 7) (some [])) fun y7=>some (band (band (band (band (band (band (band (band (band (band (ieq y2.snd.snd 7) (ieq y3.snd.snd 0)) (ieq y4.snd.snd 0)) (ieq y5.snd.snd 0)) (ieq y3.snd.fst 1)) (ieq y4.snd.fst 2)) (ieq y5.snd.fst 2)) y6) (ieq (len y5.fst.orders) 1)) (ieq (len y4.fst.files) 3)) (seq y7 [(UInt8.ofNat 115),(UInt8.ofNat 110),(UInt8.ofNat 97),(UInt8.ofNat 112),(UInt8.ofNat 46),(UInt8.ofNat 48),(UInt8.ofNat 48),(UInt8.ofNat 48),(UInt8.ofNat 48),(UInt8.ofNat 48),(UInt8.ofNat 48),(UInt8.ofNat 48),(UInt8.ofNat 48),(UInt8.ofNat 48),(UInt8.ofNat 55)]))
noncomputable def MB:Cx:={ P:=PG,ety:=ety,fn:=look [(22,SV),(23,WQ),(13,AA),(10,Bd),(16,qm),(17,oI)],inl:=dR [4095],lp:=aS [] }
theorem UR:bP MB 7 [] [.bool] ()=oU:=by kernel_rfl
def yK:aO:=mkSpec [] [.bool] true (fun _=>oU)
theorem Xk:dI PG 7 yK:=
 have K:CxR MB:=aP.cx (fun _=>rfl) (l:=[(22,SV),(23,WQ),(13,AA),(10,Bd),(16,qm),(17,oI)]) ⟨alK,amb,ZQ,aai,MW,GK,trivial⟩
 aH K (aG (l:=[]) rfl trivial) (by kernel_rfl) (fun x y h=>(UR).trans h) rfl rfl
def Gt:LSh:=⟨73,[],[(1,.mp 8 0)],[(8,[.val .disk])],[(4,.int .i64),(3,.int .i64),(2,.bool)],[],[]⟩
@[reducible] def Gv:List fO:=[⟨.ret,[(2,.bool)],[],[]⟩,⟨.exit 0,[(3,.int .i64),(2,.bool)],[],[]⟩]
def kS (p0:au) (v0:Int) (v1:Int) (v2:Bool):Option ((Int×Int×Bool) ⊕ ((Bool) ⊕ ((Int×Bool)))):=cnd (ilt v0 (len p0.files)) (cnd (band (ile 0 v0) (ilt v0 (len p0.files))) (cnd (bor (band (ile 0 v0) (ilt v0 (len p0.files))) (ay (ay (ilt 70000 (len (ai p0.files (itn v0)).data))))) (cnd (bor (ilt 70000 (len (ai p0.files (itn v0)).data)) (ilt 100 (len (ai p0.files (itn v0)).name))) (some (Sum.inr (Sum.inl false))) (cnd (band (ile 0 v0) (ilt v0 (len p0.files))) (some (Sum.inl (wr .i64 (aj v0 1),wr .i64 (aj v1 (len (ai p0.files (itn v0)).data)),v2))) none)) none) none) (some (Sum.inr (Sum.inr (v1,v2))))
def EW:dU:=Gt.spec Gv [9,10,11,12,13,16,17,18,19,20,21,22,23,24,25,26,27,28,29,30,31,32,33,2,34,35,36,37,38,39,40,41,42,3,14,15,4] (fun p v=>kS p v.1 v.2.1 v.2.2)
def sV (x0:au):Option (Bool):=cnd (ilt 70 (len x0.files)) (some false) (af (bD (fun v=>kS x0 v.fst v.snd.fst v.snd.snd) LF (0,0,false)) fun y0=>gY y0 (fun y1=>some y1) fun y1=>some (ile y1.fst 70000))
noncomputable def D5:Cx:={ P:=PG,ety:=ety,fn:=look [],inl:=dR [],lp:=aS [(8,122,EW)] }
theorem OY (p0:au) (v0:Int) (v1:Int) (v2:Bool):fC D5 900 8 122 (dK PG 8 122) Gt Gv p0 (v0,v1,v2)=kS p0 v0 v1 v2:=by kernel_rfl
theorem UA (x0:au):bP D5 8 [.val .disk] [.bool] x0=sV x0:=by kernel_rfl
def yh:aO:=mkSpec [.val .disk] [.bool] true (fun x=>sV x)
theorem Xn:dI PG 8 yh:=
 have K:CxR D5:=aP.cx (fun _=>rfl) (l:=[]) trivial
 aH K (aG (l:=[(8,122,EW)]) rfl ⟨bF (n:=900) (f:=8) K (by kernel_rfl) (by kernel_rfl) (by kernel_rfl) (by kernel_rfl) (by kernel_rfl) (fun p v r h=>(OY p v.1 v.2.1 v.2.2).trans h),trivial⟩) (by kernel_rfl) (fun x y h=>(UA x).trans h) rfl rfl
def sG (x0:ax):Option (Bool):=some (band (band (band (ile (len x0.orders) 70) (ile (len x0.cells) 70)) (ile (len x0.limits) 70)) (ile (len x0.caps) 70))
noncomputable def Nr:Cx:={ P:=PG,ety:=ety,fn:=look [],inl:=dR [],lp:=aS [] }
theorem UI (x0:ax):bP Nr 9 [.val .state] [.bool] x0=sG x0:=by kernel_rfl
def yP:aO:=mkSpec [.val .state] [.bool] true (fun x=>sG x)
theorem Xj:dI PG 9 yP:=
 have K:CxR Nr:=aP.cx (fun _=>rfl) (l:=[]) trivial
 aH K (aG (l:=[]) rfl trivial) (by kernel_rfl) (fun x y h=>(UI x).trans h) rfl rfl
def IQ:LSh:=⟨67,[(0,.str)],[],[],[(3,.int .i64),(2,.bool)],[],[]⟩
@[reducible] def Iy:List fO:=[⟨.ret,[(2,.bool)],[],[]⟩,⟨.exit 0,[(2,.bool)],[],[]⟩]
def lG (p0:(List UInt8)) (v0:Int) (v1:Bool):Option ((Int×Bool) ⊕ ((Bool) ⊕ ((Bool)))):=cnd (ilt v0 (len p0)) (cnd (band (ile 0 v0) (ilt v0 (len p0))) (cnd (band (band (bor (ilt (Zt p0 (itn v0)) 97) (ilt 122 (Zt p0 (itn v0)))) (bor (ilt (Zt p0 (itn v0)) 48) (ilt 57 (Zt p0 (itn v0))))) (ay (ieq (Zt p0 (itn v0)) 46))) (some (Sum.inr (Sum.inl false))) (some (Sum.inl (wr .i64 (aj v0 1),v1)))) none) (some (Sum.inr (Sum.inr v1)))
def FN:dU:=IQ.spec Iy [5,6,7,8,11,12,13,4,14,15,16,17,18,19,20,21,22,23,24,25,26,27,28,29,30,31,2,9,10,3] (fun p v=>lG p v.1 v.2)
def lW (x0:(List UInt8)):Option (Bool):=af (bD (fun v=>lG x0 v.fst v.snd) LF (0,false)) fun y0=>gY y0 (fun y1=>some y1) fun y1=>some (band (ilt 0 (len x0)) (ile (len x0) 16))
noncomputable def D9:Cx:={ P:=PG,ety:=ety,fn:=look [],inl:=dR [],lp:=aS [(92,26,FN)] }
theorem QO (p0:(List UInt8)) (v0:Int) (v1:Bool):fC D9 900 92 26 (dK PG 92 26) IQ Iy p0 (v0,v1)=lG p0 v0 v1:=by kernel_rfl
theorem U1 (x0:(List UInt8)):bP D9 92 [.str] [.bool] x0=lW x0:=by kernel_rfl
def oZ:aO:=mkSpec [.str] [.bool] true (fun x=>lW x)
theorem KQ:dI PG 92 oZ:=
 have K:CxR D9:=aP.cx (fun _=>rfl) (l:=[]) trivial
 aH K (aG (l:=[(92,26,FN)]) rfl ⟨bF (n:=900) (f:=92) K (by kernel_rfl) (by kernel_rfl) (by kernel_rfl) (by kernel_rfl) (by kernel_rfl) (fun p v r h=>(QO p v.1 v.2).trans h),trivial⟩) (by kernel_rfl) (fun x y h=>(U1 x).trans h) rfl rfl
def FO:LSh:=⟨88,[],[(1,.mp 8 0)],[(8,[.val .disk])],[(4,.int .i64),(3,.int .i64),(2,.bool)],[],[]⟩
@[reducible] def FY:List fO:=[⟨.ret,[(2,.bool)],[],[]⟩,⟨.exit 0,[(3,.int .i64),(2,.bool)],[],[]⟩]
def kT (p0:au) (v0:Int) (v1:Int) (v2:Bool):Option ((Int×Int×Bool) ⊕ ((Bool) ⊕ ((Int×Bool)))):=cnd (ilt v0 (len p0.files)) (cnd (band (ile 0 v0) (ilt v0 (len p0.files))) (af (lW (ai p0.files (itn v0)).name) fun y0=>cnd (bor (bor (bor (ay y0) (ilt (ai p0.files (itn v0)).sure 0)) (ilt (len (ai p0.files (itn v0)).data) (ai p0.files (itn v0)).sure)) (ilt 65536 (len (ai p0.files (itn v0)).data))) (some (Sum.inr (Sum.inl false))) (cnd (bor (band (ile 0 (wr .i64 (aI v0 1))) (ilt (wr .i64 (aI v0 1)) (len p0.files))) (ay (ilt 0 v0))) (cnd (band (ilt 0 v0) (bor (slt (ai p0.files (itn v0)).name (ai p0.files (itn (wr .i64 (aI v0 1)))).name) (seq (ai p0.files (itn v0)).name (ai p0.files (itn (wr .i64 (aI v0 1)))).name))) (some (Sum.inr (Sum.inl false))) (some (Sum.inl (wr .i64 (aj v0 1),wr .i64 (aj v1 (len (ai p0.files (itn v0)).data)),v2)))) none)) none) (some (Sum.inr (Sum.inr (v1,v2))))
def EY:dU:=FO.spec FY [25,26,27,28,29,32,33,34,35,36,5,37,38,39,40,41,42,43,44,45,46,47,48,49,50,51,52,53,54,55,56,57,58,59,2,60,61,62,63,64,65,66,67,68,69,70,71,72,73,74,75,76,77,78,3,30,31,4] (fun p v=>kT p v.1 v.2.1 v.2.2)
def mr (x0:au):Option (Bool):=cnd (bor (bor (bor (ilt x0.room 0) (ilt 65536 x0.room)) (ilt x0.fuse (-1))) (ilt 64 (len x0.files))) (some false) (af (bD (fun v=>kT x0 v.fst v.snd.fst v.snd.snd) LF (0,0,false)) fun y0=>gY y0 (fun y1=>some y1) fun y1=>some (ile y1.fst x0.room))
noncomputable def Em:Cx:={ P:=PG,ety:=ety,fn:=look [(92,oZ)],inl:=dR [],lp:=aS [(37,122,EY)] }
theorem OU (p0:au) (v0:Int) (v1:Int) (v2:Bool):fC Em 900 37 122 (dK PG 37 122) FO FY p0 (v0,v1,v2)=kT p0 v0 v1 v2:=by kernel_rfl
theorem U9 (x0:au):bP Em 37 [.val .disk] [.bool] x0=mr x0:=by kernel_rfl
def jT:aO:=mkSpec [.val .disk] [.bool] true (fun x=>mr x)
theorem BP:dI PG 37 jT:=
 have K:CxR Em:=aP.cx (fun _=>rfl) (l:=[(92,oZ)]) ⟨KQ,trivial⟩
 aH K (aG (l:=[(37,122,EY)]) rfl ⟨bF (n:=900) (f:=37) K (by kernel_rfl) (by kernel_rfl) (by kernel_rfl) (by kernel_rfl) (by kernel_rfl) (fun p v r h=>(OU p v.1 v.2.1 v.2.2).trans h),trivial⟩) (by kernel_rfl) (fun x y h=>(U9 x).trans h) rfl rfl
def qf (x0:Int):Option (Bool):=some (band (ilt 0 x0) (ile x0 1000000000000))
noncomputable def Sv:Cx:={ P:=PG,ety:=ety,fn:=look [],inl:=dR [],lp:=aS [] }
theorem X0 (x0:Int):bP Sv 208 [.int .i64] [.bool] x0=qf x0:=by kernel_rfl
def DI:aO:=mkSpec [.int .i64] [.bool] true (fun x=>qf x)
theorem aaW:dI PG 208 DI:=
 have K:CxR Sv:=aP.cx (fun _=>rfl) (l:=[]) trivial
 aH K (aG (l:=[]) rfl trivial) (by kernel_rfl) (fun x y h=>(X0 x).trans h) rfl rfl
def sJ (x0:yX):Option (Bool):=cnd (ieq x0.kind 1) (af (qf x0.order) fun y0=>some (band (band (band (band (band (band (band (band (band y0 (ile 0 x0.account)) (ilt x0.account 8)) (ile 0 x0.symbol)) (ilt x0.symbol 8)) (ile 1 x0.side)) (ile x0.side 2)) (ilt 0 x0.qty)) (ilt 0 x0.price)) (band (ieq x0.kind x0.kind) (band (ieq x0.order x0.order) (band (ieq x0.account x0.account) (band (ieq x0.symbol x0.symbol) (band (ieq x0.side x0.side) (band (ieq x0.qty x0.qty) (band (ieq x0.price x0.price) (band (ieq x0.long 0) (band (ieq x0.short 0) (band (ieq x0.opn 0) (band (beq x0.on false) (band (ieq x0.seq 0) (ieq x0.what 0))))))))))))))) (cnd (ieq x0.kind 2) (af (qf x0.order) fun y1=>some (band (band (band y1 (ilt 0 x0.qty)) (ilt 0 x0.price)) (band (ieq x0.kind x0.kind) (band (ieq x0.order x0.order) (band (ieq x0.account 0) (band (ieq x0.symbol 0) (band (ieq x0.side 0) (band (ieq x0.qty x0.qty) (band (ieq x0.price x0.price) (band (ieq x0.long 0) (band (ieq x0.short 0) (band (ieq x0.opn 0) (band (beq x0.on false) (band (ieq x0.seq 0) (ieq x0.what 0))))))))))))))) (cnd (ieq x0.kind 3) (af (qf x0.order) fun y2=>some (band y2 (band (ieq x0.kind x0.kind) (band (ieq x0.order x0.order) (band (ieq x0.account 0) (band (ieq x0.symbol 0) (band (ieq x0.side 0) (band (ieq x0.qty 0) (band (ieq x0.price 0) (band (ieq x0.long 0) (band (ieq x0.short 0) (band (ieq x0.opn 0) (band (beq x0.on false) (band (ieq x0.seq 0) (ieq x0.what 0))))))))))))))) (cnd (ieq x0.kind 4) (cnd (band (ieq x0.symbol (-1)) (bor (ay (ieq x0.long 0)) (ay (ieq x0.short 0)))) (some false) (some (band (band (band (band (band (band (band (ile 0 x0.account) (ilt x0.account 8)) (ile (-1) x0.symbol)) (ilt x0.symbol 8)) (ile 0 x0.long)) (ile 0 x0.short)) (ile 0 x0.opn)) (band (ieq x0.kind x0.kind) (band (ieq x0.order 0) (band (ieq x0.account x0.account) (band (ieq x0.symbol x0.symbol) (band (ieq x0.side 0) (band (ieq x0.qty 0) (band (ieq x0.price 0) (band (ieq x0.long x0.long) (band (ieq x0.short x0.short) (band (ieq x0.opn x0.opn) (band (beq x0.on false) (band (ieq x0.seq 0) (ieq x0.what 0)))))))))))))))) (cnd (ieq x0.kind 5) (some (band (ieq x0.kind x0.kind) (band (ieq x0.order 0) (band (ieq x0.account 0) (band (ieq x0.symbol 0) (band (ieq x0.side 0) (band (ieq x0.qty 0) (band (ieq x0.price 0) (band (ieq x0.long 0) (band (ieq x0.short 0) (band (ieq x0.opn 0) (band (beq x0.on x0.on) (band (ieq x0.seq 0) (ieq x0.what 0)))))))))))))) (cnd (ieq x0.kind 6) (af (cnd (band (band (band (ilt 0 x0.seq) (ile x0.seq 1000000000)) (ile 1 x0.what)) (ile x0.what 6)) (qf x0.order) (some false)) fun y3=>cnd (bor (ieq x0.what 3) (ieq x0.what 5)) (cnd (ieq x0.what 5) (some (band (band (band (band (band (band (band (ilt 0 x0.seq) (ile x0.seq 1000000000)) (ile 1 x0.what)) (ile x0.what 6)) y3) (ilt 0 x0.qty)) (ilt 0 x0.price)) (band (ieq x0.kind x0.kind) (band (ieq x0.order x0.order) (band (ieq x0.account 0) (band (ieq x0.symbol 0) (band (ieq x0.side 0) (band (ieq x0.qty x0.qty) (band (ieq x0.price x0.price) (band (ieq x0.long 0) (band (ieq x0.short 0) (band (ieq x0.opn 0) (band (beq x0.on false) (band (ieq x0.seq x0.seq) (ieq x0.what x0.what))))))))))))))) (some (band (band (band (band (band (band (ilt 0 x0.seq) (ile x0.seq 1000000000)) (ile 1 x0.what)) (ile x0.what 6)) y3) (ilt 0 x0.qty)) (band (ieq x0.kind x0.kind) (band (ieq x0.order x0.order) (band (ieq x0.account 0) (band (ieq x0.symbol 0) (band (ieq x0.side 0) (band (ieq x0.qty x0.qty) (band (ieq x0.price 0) (band (ieq x0.long 0) (band (ieq x0.short 0) (band (ieq x0.opn 0) (band (beq x0.on false) (band (ieq x0.seq x0.seq) (ieq x0.what x0.what)))))))))))))))) (cnd (ieq x0.what 5) (some (band (band (band (band (band (band (ilt 0 x0.seq) (ile x0.seq 1000000000)) (ile 1 x0.what)) (ile x0.what 6)) y3) (ilt 0 x0.price)) (band (ieq x0.kind x0.kind) (band (ieq x0.order x0.order) (band (ieq x0.account 0) (band (ieq x0.symbol 0) (band (ieq x0.side 0) (band (ieq x0.qty 0) (band (ieq x0.price x0.price) (band (ieq x0.long 0) (band (ieq x0.short 0) (band (ieq x0.opn 0) (band (beq x0.on false) (band (ieq x0.seq x0.seq) (ieq x0.what x0.what))))))))))))))) (some (band (band (band (band (band (ilt 0 x0.seq) (ile x0.seq 1000000000)) (ile 1 x0.what)) (ile x0.what 6)) y3) (band (ieq x0.kind x0.kind) (band (ieq x0.order x0.order) (band (ieq x0.account 0) (band (ieq x0.symbol 0) (band (ieq x0.side 0) (band (ieq x0.qty 0) (band (ieq x0.price 0) (band (ieq x0.long 0) (band (ieq x0.short 0) (band (ieq x0.opn 0) (band (beq x0.on false) (band (ieq x0.seq x0.seq) (ieq x0.what x0.what))))))))))))))))) (some false))))))
noncomputable def NG:Cx:={ P:=PG,ety:=ety,fn:=look [(208,DI)],inl:=dR [],lp:=aS [] }
theorem UZ (x0:yX):bP NG 159 [.val .recd] [.bool] x0=sJ x0:=by kernel_rfl
def yR:aO:=mkSpec [.val .recd] [.bool] true (fun x=>sJ x)
theorem Xl:dI PG 159 yR:=
 have K:CxR NG:=aP.cx (fun _=>rfl) (l:=[(208,DI)]) ⟨aaW,trivial⟩
 aH K (aG (l:=[]) rfl trivial) (by kernel_rfl) (fun x y h=>(UZ x).trans h) rfl rfl
def lT (x0:aJ):Option (Bool):=af (sJ (yX.mk 1 x0.id x0.account x0.symbol x0.side x0.qty x0.price 0 0 0 false 0 0)) fun y0=>cnd (ay y0) (some false) (cnd (bor (bor (ilt x0.filled 0) (ilt x0.qty x0.filled)) (ilt x0.version 0)) (some false) (cnd (band (ay (band (ieq x0.newQty 0) (ieq x0.newPrice 0))) (bor (ilt x0.newQty 1) (ilt x0.newPrice 1))) (some false) (cnd (ieq x0.phase 1) (some (band (band (band (ieq x0.newQty 0) (ieq x0.newPrice 0)) (ieq x0.filled 0)) (ieq x0.version 0))) (cnd (ieq x0.phase 2) (some (ay (ieq x0.filled x0.qty))) (some (band (ieq x0.phase 3) (band (ieq x0.newQty 0) (ieq x0.newPrice 0))))))))
noncomputable def MI:Cx:={ P:=PG,ety:=ety,fn:=look [(159,yR)],inl:=dR [],lp:=aS [] }
theorem UM (x0:aJ):bP MI 93 [.val .order] [.bool] x0=lT x0:=by kernel_rfl
def jM:aO:=mkSpec [.val .order] [.bool] true (fun x=>lT x)
theorem BZ:dI PG 93 jM:=
 have K:CxR MI:=aP.cx (fun _=>rfl) (l:=[(159,yR)]) ⟨Xl,trivial⟩
 aH K (aG (l:=[]) rfl trivial) (by kernel_rfl) (fun x y h=>(UM x).trans h) rfl rfl
def sD (x0:dL):Option (Bool):=some (band (band (ile 0 x0.long) (ile 0 x0.short)) (ile 0 x0.opn))
noncomputable def NJ:Cx:={ P:=PG,ety:=ety,fn:=look [],inl:=dR [],lp:=aS [] }
theorem Ug (x0:dL):bP NJ 94 [.val .expo] [.bool] x0=sD x0:=by kernel_rfl
def yY:aO:=mkSpec [.val .expo] [.bool] true (fun x=>sD x)
theorem Xm:dI PG 94 yY:=
 have K:CxR NJ:=aP.cx (fun _=>rfl) (l:=[]) trivial
 aH K (aG (l:=[]) rfl trivial) (by kernel_rfl) (fun x y h=>(Ug x).trans h) rfl rfl
def pq (x0:Int):Option (Int):=cnd (ilt x0 0) (some (wr .u64 (aj (wr .u64 (wr .i64 (aI 0 (wr .i64 (aj x0 1))))) 1))) (some (wr .u64 x0))
noncomputable def MZ:Cx:={ P:=PG,ety:=ety,fn:=look [],inl:=dR [],lp:=aS [] }
theorem UU (x0:Int):bP MZ 232 [.int .i64] [.int .u64] x0=pq x0:=by kernel_rfl
def yC:aO:=mkSpec [.int .i64] [.int .u64] true (fun x=>pq x)
theorem Xp:dI PG 232 yC:=
 have K:CxR MZ:=aP.cx (fun _=>rfl) (l:=[]) trivial
 aH K (aG (l:=[]) rfl trivial) (by kernel_rfl) (fun x y h=>(UU x).trans h) rfl rfl
def rD (x0:Int) (x1:Int):Option (Int×Bool):=af (pq x0) fun y0=>af (pq x1) fun y1=>cnd (band (ilt 0 (dN .u64 y0 32)) (ilt 0 (dN .u64 y1 32))) (some (0,false)) (cnd (ile 4294967296 (wr .u64 (aj (wr .u64 (dX (dN .u64 y0 32) (wr .u64 (kM .u64 y1 4294967295)))) (wr .u64 (dX (wr .u64 (kM .u64 y0 4294967295)) (dN .u64 y1 32)))))) (some (0,false)) (cnd (bor (ilt (wr .u64 (aj (wr .u64 (qW .u64 (wr .u64 (aj (wr .u64 (dX (dN .u64 y0 32) (wr .u64 (kM .u64 y1 4294967295)))) (wr .u64 (dX (wr .u64 (kM .u64 y0 4294967295)) (dN .u64 y1 32))))) 32)) (wr .u64 (dX (wr .u64 (kM .u64 y0 4294967295)) (wr .u64 (kM .u64 y1 4294967295)))))) (wr .u64 (dX (wr .u64 (kM .u64 y0 4294967295)) (wr .u64 (kM .u64 y1 4294967295))))) (ilt 9223372036854775808 (wr .u64 (aj (wr .u64 (qW .u64 (wr .u64 (aj (wr .u64 (dX (dN .u64 y0 32) (wr .u64 (kM .u64 y1 4294967295)))) (wr .u64 (dX (wr .u64 (kM .u64 y0 4294967295)) (dN .u64 y1 32))))) 32)) (wr .u64 (dX (wr .u64 (kM .u64 y0 4294967295)) (wr .u64 (kM .u64 y1 4294967295)))))))) (some (0,false)) (cnd (ay (beq (ilt x0 0) (ilt x1 0))) (some (wr .i64 (wr .u64 (aI 0 (wr .u64 (aj (wr .u64 (qW .u64 (wr .u64 (aj (wr .u64 (dX (dN .u64 y0 32) (wr .u64 (kM .u64 y1 4294967295)))) (wr .u64 (dX (wr .u64 (kM .u64 y0 4294967295)) (dN .u64 y1 32))))) 32)) (wr .u64 (dX (wr .u64 (kM .u64 y0 4294967295)) (wr .u64 (kM .u64 y1 4294967295)))))))),true)) (some (wr .i64 (wr .u64 (aj (wr .u64 (qW .u64 (wr .u64 (aj (wr .u64 (dX (dN .u64 y0 32) (wr .u64 (kM .u64 y1 4294967295)))) (wr .u64 (dX (wr .u64 (kM .u64 y0 4294967295)) (dN .u64 y1 32))))) 32)) (wr .u64 (dX (wr .u64 (kM .u64 y0 4294967295)) (wr .u64 (kM .u64 y1 4294967295)))))),ilt (wr .u64 (aj (wr .u64 (qW .u64 (wr .u64 (aj (wr .u64 (dX (dN .u64 y0 32) (wr .u64 (kM .u64 y1 4294967295)))) (wr .u64 (dX (wr .u64 (kM .u64 y0 4294967295)) (dN .u64 y1 32))))) 32)) (wr .u64 (dX (wr .u64 (kM .u64 y0 4294967295)) (wr .u64 (kM .u64 y1 4294967295)))))) 9223372036854775808)))))
noncomputable def QU:Cx:={ P:=PG,ety:=ety,fn:=look [(232,yC)],inl:=dR [],lp:=aS [] }
theorem XC (x0:Int) (x1:Int):bP QU 209 [.int .i64,.int .i64] [.int .i64,.bool] (x0,x1)=rD x0 x1:=by kernel_rfl
def BG:aO:=mkSpec [.int .i64,.int .i64] [.int .i64,.bool] true (fun x=>rD x.1 x.2)
theorem ZB:dI PG 209 BG:=
 have K:CxR QU:=aP.cx (fun _=>rfl) (l:=[(232,yC)]) ⟨Xp,trivial⟩
 aH K (aG (l:=[]) rfl trivial) (by kernel_rfl) (fun x y h=>(XC x.1 x.2).trans h) rfl rfl
def mg (x0:aJ):Option (Int×Int):=af (lT x0) fun y0=>cnd (ay y0) (some (0,1)) (cnd (ieq x0.phase 3) (some (0,0)) (af (rD (wr .i64 (aI x0.qty x0.filled)) x0.price) fun y1=>cnd (ay y1.snd) (some (0,3)) (cnd (ilt x0.filled x0.newQty) (af (rD (wr .i64 (aI x0.newQty x0.filled)) x0.newPrice) fun y2=>cnd (ay y2.snd) (some (0,3)) (cnd (ilt y1.fst y2.fst) (some (y2.fst,0)) (some (y1.fst,0)))) (some (y1.fst,0)))))
noncomputable def MV:Cx:={ P:=PG,ety:=ety,fn:=look [(93,jM),(209,BG)],inl:=dR [],lp:=aS [] }
theorem UO (x0:aJ):bP MV 160 [.val .order] [.int .i64,.int .i64] x0=mg x0:=by kernel_rfl
def yG:aO:=mkSpec [.val .order] [.int .i64,.int .i64] true (fun x=>mg x)
theorem XJ:dI PG 160 yG:=
 have K:CxR MV:=aP.cx (fun _=>rfl) (l:=[(93,jM),(209,BG)]) ⟨BZ,ZB,trivial⟩
 aH K (aG (l:=[]) rfl trivial) (by kernel_rfl) (fun x y h=>(UO x).trans h) rfl rfl
def iP (x0:Int) (x1:Int):Option (Int×Bool):=cnd (bor (band (ilt 0 x1) (ilt (wr .i64 (aI 9223372036854775807 x1)) x0)) (band (ilt x1 0) (ilt x0 (wr .i64 (aI (-9223372036854775808) x1))))) (some (0,false)) (some (wr .i64 (aj x0 x1),true))
noncomputable def QK:Cx:={ P:=PG,ety:=ety,fn:=look [],inl:=dR [],lp:=aS [] }
theorem XG (x0:Int) (x1:Int):bP QK 161 [.int .i64,.int .i64] [.int .i64,.bool] (x0,x1)=iP x0 x1:=by kernel_rfl
def kZ:aO:=mkSpec [.int .i64,.int .i64] [.int .i64,.bool] true (fun x=>iP x.1 x.2)
theorem FD:dI PG 161 kZ:=
 have K:CxR QK:=aP.cx (fun _=>rfl) (l:=[]) trivial
 aH K (aG (l:=[]) rfl trivial) (by kernel_rfl) (fun x y h=>(XG x.1 x.2).trans h) rfl rfl
def kW (x0:aJ):Option (Int):=af (lT x0) fun y0=>cnd (bor (ay y0) (ieq x0.phase 3)) (some 0) (cnd (ilt x0.qty x0.newQty) (some (wr .i64 (aI x0.newQty x0.filled))) (some (wr .i64 (aI x0.qty x0.filled))))
noncomputable def OO:Cx:={ P:=PG,ety:=ety,fn:=look [(93,jM)],inl:=dR [],lp:=aS [] }
theorem Vw (x0:aJ):bP OO 162 [.val .order] [.int .i64] x0=kW x0:=by kernel_rfl
def zV:aO:=mkSpec [.val .order] [.int .i64] true (fun x=>kW x)
theorem YQ:dI PG 162 zV:=
 have K:CxR OO:=aP.cx (fun _=>rfl) (l:=[(93,jM)]) ⟨BZ,trivial⟩
 aH K (aG (l:=[]) rfl trivial) (by kernel_rfl) (fun x y h=>(Vw x).trans h) rfl rfl
def vN (x0:Int) (x1:Int):Option (Int×Bool):=cnd (bor (band (ilt x1 0) (ilt (wr .i64 (aj 9223372036854775807 x1)) x0)) (band (ilt 0 x1) (ilt x0 (wr .i64 (aj (-9223372036854775808) x1))))) (some (0,false)) (some (wr .i64 (aI x0 x1),true))
noncomputable def Qr:Cx:={ P:=PG,ety:=ety,fn:=look [],inl:=dR [],lp:=aS [] }
theorem XD (x0:Int) (x1:Int):bP Qr 210 [.int .i64,.int .i64] [.int .i64,.bool] (x0,x1)=vN x0 x1:=by kernel_rfl
def BV:aO:=mkSpec [.int .i64,.int .i64] [.int .i64,.bool] true (fun x=>vN x.1 x.2)
theorem ZL:dI PG 210 BV:=
 have K:CxR Qr:=aP.cx (fun _=>rfl) (l:=[]) trivial
 aH K (aG (l:=[]) rfl trivial) (by kernel_rfl) (fun x y h=>(XD x.1 x.2).trans h) rfl rfl
def sU (x0:aK):Option (Bool):=af (iP x0.pos x0.buy) fun y0=>af (vN x0.sell x0.pos) fun y1=>some (band (band (band (band y0.snd y1.snd) (ile 0 x0.buy)) (ile 0 x0.sell)) (ile 0 x0.opn))
noncomputable def MP:Cx:={ P:=PG,ety:=ety,fn:=look [(161,kZ),(210,BV)],inl:=dR [],lp:=aS [] }
theorem UX (x0:aK):bP MP 163 [.val .cell] [.bool] x0=sU x0:=by kernel_rfl
def yx:aO:=mkSpec [.val .cell] [.bool] true (fun x=>sU x)
theorem Xo:dI PG 163 yx:=
 have K:CxR MP:=aP.cx (fun _=>rfl) (l:=[(161,kZ),(210,BV)]) ⟨FD,ZL,trivial⟩
 aH K (aG (l:=[]) rfl trivial) (by kernel_rfl) (fun x y h=>(UX x).trans h) rfl rfl
def Ie:LSh:=⟨69,[(0,.ro .cell)],[],[],[(5,.int .i64),(4,.int .i64),(3,.bool),(2,.int .i64)],[],[]⟩
@[reducible] def Ik:List fO:=[⟨.ret,[(3,.bool),(2,.int .i64)],[],[]⟩,⟨.exit 0,[(4,.int .i64),(3,.bool),(2,.int .i64)],[],[]⟩]
def lK (p0:(List aK)) (v0:Int) (v1:Int) (v2:Bool) (v3:Int):Option ((Int×Int×Bool×Int) ⊕ ((Bool×Int) ⊕ ((Int×Bool×Int)))):=cnd (ilt v0 (len p0)) (cnd (band (ile 0 v0) (ilt v0 (len p0))) (af (iP v1 (ai p0 (itn v0)).opn) fun y0=>cnd (ay y0.snd) (some (Sum.inr (Sum.inl (false,0)))) (some (Sum.inl (wr .i64 (aj v0 1),y0.fst,v2,v3)))) none) (some (Sum.inr (Sum.inr (v1,v2,v3))))
def F6:dU:=Ie.spec Ik [8,9,10,11,15,16,17,18,19,20,21,14,22,23,6,7,24,25,2,3,26,4,12,13,5] (fun p v=>lK p v.1 v.2.1 v.2.2.1 v.2.2.2)
def sN (x0:(List aK)):Option (Int×Bool):=af (bD (fun v=>lK x0 v.fst v.snd.fst v.snd.snd.fst v.snd.snd.snd) LF (0,0,false,0)) fun y0=>gY y0 (fun y1=>some (y1.snd,y1.fst)) fun y1=>some (y1.fst,true)
noncomputable def Eb:Cx:={ P:=PG,ety:=ety,fn:=look [(161,kZ)],inl:=dR [],lp:=aS [(164,58,F6)] }
theorem P7 (p0:(List aK)) (v0:Int) (v1:Int) (v2:Bool) (v3:Int):fC Eb 900 164 58 (dK PG 164 58) Ie Ik p0 (v0,v1,v2,v3)=lK p0 v0 v1 v2 v3:=by kernel_rfl
theorem UB (x0:(List aK)):bP Eb 164 [.ro .cell] [.int .i64,.bool] x0=sN x0:=by kernel_rfl
def yu:aO:=mkSpec [.ro .cell] [.int .i64,.bool] true (fun x=>sN x)
theorem Xu:dI PG 164 yu:=
 have K:CxR Eb:=aP.cx (fun _=>rfl) (l:=[(161,kZ)]) ⟨FD,trivial⟩
 aH K (aG (l:=[(164,58,F6)]) rfl ⟨bF (n:=900) (f:=164) K (by kernel_rfl) (by kernel_rfl) (by kernel_rfl) (by kernel_rfl) (by kernel_rfl) (fun p v r h=>(P7 p v.1 v.2.1 v.2.2.1 v.2.2.2).trans h),trivial⟩) (by kernel_rfl) (fun x y h=>(UB x).trans h) rfl rfl
def Eh:LSh:=⟨153,[(5,.int .i64)],[(6,.mp 688 0),(1,.mp 8 0)],[(8,[.val .state])],[(7,.int .i64),(3,.bool),(2,.buf .cell)],[(688,[.val .cell])],[]⟩
@[reducible] def Df:List fO:=[⟨.ret,[(3,.bool),(2,.buf .cell)],[(688,[.val .cell])],[]⟩,⟨.exit 2,[(3,.bool),(2,.buf .cell)],[(688,[.val .cell])],[]⟩]
def fQ (p0:Int) (p1:ax) (v0:Int) (v1:Bool) (v2:(List aK)) (v3:aK):Option ((Int×Bool×(List aK)×aK) ⊕ ((Bool×(List aK)×aK) ⊕ ((Bool×(List aK)×aK)))):=cnd (ilt v0 (len p1.orders)) (cnd (band (ile 0 v0) (ilt v0 (len p1.orders))) (cnd (ay (ieq (wr .i64 (aj (wr .i64 (dX (ai p1.orders (itn v0)).account p1.symbols)) (ai p1.orders (itn v0)).symbol)) p0)) (some (Sum.inl (wr .i64 (aj v0 1),v1,v2,v3))) (af (mg (ai p1.orders (itn v0))) fun y0=>af (iP v3.opn y0.fst) fun y1=>cnd (ieq (ai p1.orders (itn v0)).side 1) (af (kW (ai p1.orders (itn v0))) fun y2=>af (iP v3.buy y2) fun y3=>cnd (bor (bor (ay (ieq y0.snd 0)) (ay y1.snd)) (ay y3.snd)) (some (Sum.inr (Sum.inl (false,[],v3)))) (some (Sum.inl (wr .i64 (aj v0 1),v1,v2,aK.mk v3.pos y3.fst v3.sell y1.fst)))) (af (kW (ai p1.orders (itn v0))) fun y4=>af (iP v3.sell y4) fun y5=>cnd (bor (bor (ay (ieq y0.snd 0)) (ay y1.snd)) (ay y5.snd)) (some (Sum.inr (Sum.inl (false,[],v3)))) (some (Sum.inl (wr .i64 (aj v0 1),v1,v2,aK.mk v3.pos v3.buy y5.fst y1.fst)))))) none) (some (Sum.inr (Sum.inr (v1,v2,v3))))
def CB:dU:=Eh.spec Df [33,34,35,36,37,40,41,42,43,44,8,45,46,47,48,49,50,51,52,53,54,56,57,55,58,59,9,10,61,62,63,64,60,65,66,11,12,67,68,69,70,13,14,15,71,72,73,75,76,77,78,79,74,80,81,83,84,85,86,87,82,88,89,90,91,92,93,94,95,96,97,98,99,2,3,100,101,102,103,104,105,38,39,7] (fun p v=>fQ p.1 p.2 v.1 v.2.1 v.2.2.1 v.2.2.2)
def Ir:LSh:=⟨70,[],[(1,.mp 8 0)],[(8,[.val .state])],[(5,.int .i64),(4,.buf .cell),(3,.bool),(2,.buf .cell)],[],[]⟩
@[reducible] def Iu:List fO:=[⟨.ret,[(3,.bool),(2,.buf .cell)],[],[]⟩,⟨.exit 0,[(4,.buf .cell),(3,.bool),(2,.buf .cell)],[],[]⟩]
def ig (p0:ax) (v0:Int) (v1:(List aK)) (v2:Bool) (v3:(List aK)):Option ((Int×(List aK)×Bool×(List aK)) ⊕ ((Bool×(List aK)) ⊕ (((List aK)×Bool×(List aK))))):=cnd (ilt v0 (len p0.cells)) (cnd (band (ile 0 v0) (ilt v0 (len p0.cells))) (af (bD (fun v=>fQ v0 p0 v.fst v.snd.fst v.snd.snd.fst v.snd.snd.snd) LF (0,v2,v3,aK.mk (ai p0.cells (itn v0)).pos 0 0 0)) fun y0=>gY y0 (fun y1=>some (Sum.inr (Sum.inl (y1.fst,y1.snd.fst)))) fun y1=>af (sU y1.snd.snd) fun y2=>cnd (ay y2) (some (Sum.inr (Sum.inl (false,[])))) (cnd (ile (len (dB v1 [y1.snd.snd])) 68719476736) (some (Sum.inl (wr .i64 (aj v0 1),dB v1 [y1.snd.snd],y1.fst,y1.snd.fst))) none)) none) (some (Sum.inr (Sum.inr (v1,v2,v3))))
def FI:dU:=Ir.spec Iu [19,20,21,22,23,26,27,28,29,30,31,32,6,7,33,34,35,36,37,40,41,42,43,44,8,45,46,47,48,49,50,51,52,53,54,56,57,55,58,59,9,10,61,62,63,64,60,65,66,11,12,67,68,69,70,13,14,15,71,72,73,75,76,77,78,79,74,80,81,83,84,85,86,87,82,88,89,90,91,92,93,94,95,96,97,98,99,2,3,100,101,102,103,104,105,38,39,106,107,108,109,110,111,112,4,24,25,5] (fun p v=>ig p v.1 v.2.1 v.2.2.1 v.2.2.2)
def Gq:LSh:=⟨142,[(4,.ro .cell)],[(1,.mp 8 0)],[(8,[.val .state])],[(16,.int .i64),(3,.bool),(2,.buf .cell)],[],[]⟩
@[reducible] def GX:List fO:=[⟨.ret,[(3,.bool),(2,.buf .cell)],[],[]⟩,⟨.exit 4,[(3,.bool),(2,.buf .cell)],[],[]⟩]
def gJ (p0:(List aK)) (p1:ax) (v0:Int) (v1:Bool) (v2:(List aK)):Option ((Int×Bool×(List aK)) ⊕ ((Bool×(List aK)) ⊕ ((Bool×(List aK))))):=cnd (ilt v0 p1.accounts) (cnd (band (band (ile 0 (wr .i64 (dX v0 p1.symbols))) (ile (wr .i64 (dX v0 p1.symbols)) (wr .i64 (dX (wr .i64 (aj v0 1)) p1.symbols)))) (ile (wr .i64 (dX (wr .i64 (aj v0 1)) p1.symbols)) (len p0))) (af (sN (aA (aN p0 (itn (wr .i64 (dX v0 p1.symbols)))) (itn (aI (wr .i64 (dX (wr .i64 (aj v0 1)) p1.symbols)) (wr .i64 (dX v0 p1.symbols)))))) fun y0=>cnd (ay y0.snd) (some (Sum.inr (Sum.inl (false,[])))) (some (Sum.inl (wr .i64 (aj v0 1),v1,v2)))) none) (some (Sum.inr (Sum.inr (v1,v2))))
def ES:dU:=Gq.spec GX [113,114,115,116,120,121,122,123,124,125,126,127,128,129,130,131,119,132,133,17,18,134,135,2,3,117,118,16] (fun p v=>gJ p.1 p.2 v.1 v.2.1 v.2.2)
def jA (x0:ax):Option ((List aK)×Bool):=af (bD (fun v=>ig x0 v.fst v.snd.fst v.snd.snd.fst v.snd.snd.snd) LF (0,[],false,[])) fun y0=>gY y0 (fun y1=>some (y1.snd,y1.fst)) fun y1=>af (bD (fun v=>gJ y1.fst x0 v.fst v.snd.fst v.snd.snd) LF (0,y1.snd)) fun y2=>gY y2 (fun y3=>some (y3.snd,y3.fst)) fun y3=>some (y1.fst,true)
noncomputable def rX:Cx:={ P:=PG,ety:=ety,fn:=look [(160,yG),(161,kZ),(162,zV),(163,yx),(164,yu)],inl:=dR [],lp:=aS [(95,14922,CB),(95,58,FI),(95,122,ES)] }
theorem NC (p0:Int) (p1:ax) (v0:Int) (v1:Bool) (v2:(List aK)) (v3:aK):fC rX 900 95 14922 (dK PG 95 14922) Eh Df (p0,p1) (v0,v1,v2,v3)=fQ p0 p1 v0 v1 v2 v3:=by kernel_rfl
theorem QV (p0:ax) (v0:Int) (v1:(List aK)) (v2:Bool) (v3:(List aK)):fC rX 900 95 58 (dK PG 95 58) Ir Iu p0 (v0,v1,v2,v3)=ig p0 v0 v1 v2 v3:=by kernel_rfl
theorem OT (p0:(List aK)) (p1:ax) (v0:Int) (v1:Bool) (v2:(List aK)):fC rX 900 95 122 (dK PG 95 122) Gq GX (p0,p1) (v0,v1,v2)=gJ p0 p1 v0 v1 v2:=by kernel_rfl
theorem Uu (x0:ax):bP rX 95 [.val .state] [.ro .cell,.bool] x0=jA x0:=by kernel_rfl
def pI:aO:=mkSpec [.val .state] [.ro .cell,.bool] false (fun x=>jA x)
theorem KI:dI PG 95 pI:=
 have K:CxR rX:=aP.cx (fun _=>rfl) (l:=[(160,yG),(161,kZ),(162,zV),(163,yx),(164,yu)]) ⟨XJ,FD,YQ,Xo,Xu,trivial⟩
 aH K (aG (l:=[(95,14922,CB),(95,58,FI),(95,122,ES)]) rfl ⟨bF (n:=900) (f:=95) K (by kernel_rfl) (by kernel_rfl) (by kernel_rfl) (by kernel_rfl) (by kernel_rfl) (fun p v r h=>(NC p.1 p.2 v.1 v.2.1 v.2.2.1 v.2.2.2).trans h),
  bF (n:=900) (f:=95) K (by kernel_rfl) (by kernel_rfl) (by kernel_rfl) (by kernel_rfl) (by kernel_rfl) (fun p v r h=>(QV p v.1 v.2.1 v.2.2.1 v.2.2.2).trans h),
  bF (n:=900) (f:=95) K (by kernel_rfl) (by kernel_rfl) (by kernel_rfl) (by kernel_rfl) (by kernel_rfl) (fun p v r h=>(OT p.1 p.2 v.1 v.2.1 v.2.2).trans h),trivial⟩) (by kernel_rfl) (fun x y h=>(Uu x).trans h) rfl rfl
def Gx:LSh:=⟨150,[],[(1,.mp 8 0)],[(8,[.val .state])],[(3,.int .i64),(2,.bool)],[],[]⟩
@[reducible] def GL:List fO:=[⟨.ret,[(2,.bool)],[],[]⟩,⟨.exit 0,[(2,.bool)],[],[]⟩]
def kQ (p0:ax) (v0:Int) (v1:Bool):Option ((Int×Bool) ⊕ ((Bool) ⊕ ((Bool)))):=cnd (ilt v0 (len p0.orders)) (cnd (band (ile 0 v0) (ilt v0 (len p0.orders))) (af (lT (ai p0.orders (itn v0))) fun y0=>cnd (bor (band (ile 0 (wr .i64 (aI v0 1))) (ilt (wr .i64 (aI v0 1)) (len p0.orders))) (ay (band (ay (bor (bor (bor (bor (ay y0) (ieq (ai p0.orders (itn v0)).phase 3)) (ile p0.accounts (ai p0.orders (itn v0)).account)) (ile p0.symbols (ai p0.orders (itn v0)).symbol)) (ilt p0.last (ai p0.orders (itn v0)).id))) (ilt 0 v0)))) (cnd (bor (bor (bor (bor (bor (ay y0) (ieq (ai p0.orders (itn v0)).phase 3)) (ile p0.accounts (ai p0.orders (itn v0)).account)) (ile p0.symbols (ai p0.orders (itn v0)).symbol)) (ilt p0.last (ai p0.orders (itn v0)).id)) (band (ilt 0 v0) (ile (ai p0.orders (itn v0)).id (ai p0.orders (itn (wr .i64 (aI v0 1)))).id))) (some (Sum.inr (Sum.inl false))) (some (Sum.inl (wr .i64 (aj v0 1),v1)))) none) none) (some (Sum.inr (Sum.inr v1)))
def EH:dU:=Gx.spec GL [92,93,94,95,96,99,100,101,102,103,4,104,105,106,107,108,109,110,111,112,113,114,115,116,117,118,119,120,121,122,123,124,125,126,127,128,129,130,131,132,133,134,135,136,137,138,139,140,141,142,143,144,145,146,147,148,2,97,98,3] (fun p v=>kQ p v.1 v.2)
def GH:LSh:=⟨218,[],[(1,.mp 8 0)],[(8,[.val .state])],[(5,.int .i64),(2,.bool)],[],[]⟩
@[reducible] def Gl:List fO:=[⟨.ret,[(2,.bool)],[],[]⟩,⟨.exit 2,[(2,.bool)],[],[]⟩]
def kU (p0:ax) (v0:Int) (v1:Bool):Option ((Int×Bool) ⊕ ((Bool) ⊕ ((Bool)))):=cnd (ilt v0 (len p0.limits)) (cnd (band (ile 0 v0) (ilt v0 (len p0.limits))) (af (sD (ai p0.limits (itn v0))) fun y0=>cnd (ay y0) (some (Sum.inr (Sum.inl false))) (some (Sum.inl (wr .i64 (aj v0 1),v1)))) none) (some (Sum.inr (Sum.inr v1)))
def Eu:dU:=GH.spec Gl [149,150,151,152,153,156,157,158,159,160,161,162,2,154,155,5] (fun p v=>kU p v.1 v.2)
def FW:LSh:=⟨286,[],[(1,.mp 8 0)],[(8,[.val .state])],[(6,.int .i64),(2,.bool)],[],[]⟩
@[reducible] def GV:List fO:=[⟨.ret,[(2,.bool)],[],[]⟩,⟨.exit 4,[(2,.bool)],[],[]⟩]
def kV (p0:ax) (v0:Int) (v1:Bool):Option ((Int×Bool) ⊕ ((Bool) ⊕ ((Bool)))):=cnd (ilt v0 (len p0.caps)) (cnd (band (ile 0 v0) (ilt v0 (len p0.caps))) (cnd (ilt (ai p0.caps (itn v0)) 0) (some (Sum.inr (Sum.inl false))) (some (Sum.inl (wr .i64 (aj v0 1),v1)))) none) (some (Sum.inr (Sum.inr v1)))
def EJ:dU:=FW.spec GV [163,164,165,166,167,170,171,172,173,174,175,2,168,169,6] (fun p v=>kV p v.1 v.2)
def EO:LSh:=⟨363,[(7,.ro .cell)],[(1,.mp 8 0)],[(8,[.val .state])],[(9,.int .i64),(2,.bool)],[],[]⟩
@[reducible] def EG:List fO:=[⟨.ret,[(2,.bool)],[],[]⟩,⟨.exit 6,[(2,.bool)],[],[]⟩]
def kG (p0:(List aK)) (p1:ax) (v0:Int) (v1:Bool):Option ((Int×Bool) ⊕ ((Bool) ⊕ ((Bool)))):=cnd (ilt v0 (len p0)) (cnd (band (ile 0 v0) (ilt v0 (len p0))) (cnd (band (ile 0 v0) (ilt v0 (len p1.cells))) (cnd (ay (band (ieq (ai p0 (itn v0)).pos (ai p1.cells (itn v0)).pos) (band (ieq (ai p0 (itn v0)).buy (ai p1.cells (itn v0)).buy) (band (ieq (ai p0 (itn v0)).sell (ai p1.cells (itn v0)).sell) (ieq (ai p0 (itn v0)).opn (ai p1.cells (itn v0)).opn))))) (some (Sum.inr (Sum.inl false))) (some (Sum.inl (wr .i64 (aj v0 1),v1)))) none) none) (some (Sum.inr (Sum.inr v1)))
def DT:dU:=EO.spec EG [183,184,185,186,189,190,191,192,193,194,195,196,197,198,2,187,188,9] (fun p v=>kG p.1 p.2 v.1 v.2)
def pG (x0:ax):Option (Bool):=cnd (bor (bor (bor (bor (bor (bor (bor (ilt x0.accounts 1) (ilt 8 x0.accounts)) (ilt x0.symbols 1)) (ilt 8 x0.symbols)) (ay (ieq (len x0.cells) (wr .i64 (dX x0.accounts x0.symbols))))) (ay (ieq (len x0.limits) (wr .i64 (dX x0.accounts x0.symbols))))) (ay (ieq (len x0.caps) x0.accounts))) (ilt 64 (len x0.orders))) (some false) (cnd (bor (bor (bor (bor (bor (ilt x0.last 0) (ilt 1000000000000 x0.last)) (ilt x0.seq 0)) (ilt 1000000000 x0.seq)) (ilt x0.lsn 0)) (ilt 1000000000 x0.lsn)) (some false) (af (bD (fun v=>kQ x0 v.fst v.snd) LF (0,false)) fun y0=>gY y0 (fun y1=>some y1) fun y1=>af (bD (fun v=>kU x0 v.fst v.snd) LF (0,y1)) fun y2=>gY y2 (fun y3=>some y3) fun y3=>af (bD (fun v=>kV x0 v.fst v.snd) LF (0,y3)) fun y4=>gY y4 (fun y5=>some y5) fun y5=>af (jA x0) fun y6=>cnd (ay y6.snd) (some false) (af (bD (fun v=>kG y6.fst x0 v.fst v.snd) LF (0,y5)) fun y7=>gY y7 (fun y8=>some y8) fun y8=>some true)))
noncomputable def oV:Cx:={ P:=PG,ety:=ety,fn:=look [(93,jM),(94,yY),(95,pI)],inl:=dR [],lp:=aS [(38,122,EH),(38,250,Eu),(38,506,EJ),(38,4090,DT)] }
theorem Pe (p0:ax) (v0:Int) (v1:Bool):fC oV 900 38 122 (dK PG 38 122) Gx GL p0 (v0,v1)=kQ p0 v0 v1:=by kernel_rfl
theorem O8 (p0:ax) (v0:Int) (v1:Bool):fC oV 900 38 250 (dK PG 38 250) GH Gl p0 (v0,v1)=kU p0 v0 v1:=by kernel_rfl
theorem O3 (p0:ax) (v0:Int) (v1:Bool):fC oV 900 38 506 (dK PG 38 506) FW GV p0 (v0,v1)=kV p0 v0 v1:=by kernel_rfl
theorem Ol (p0:(List aK)) (p1:ax) (v0:Int) (v1:Bool):fC oV 900 38 4090 (dK PG 38 4090) EO EG (p0,p1) (v0,v1)=kG p0 p1 v0 v1:=by kernel_rfl
theorem TR (x0:ax):bP oV 38 [.val .state] [.bool] x0=pG x0:=by kernel_rfl
def o7:aO:=mkSpec [.val .state] [.bool] true (fun x=>pG x)
theorem KE:dI PG 38 o7:=
 have K:CxR oV:=aP.cx (fun _=>rfl) (l:=[(93,jM),(94,yY),(95,pI)]) ⟨BZ,Xm,KI,trivial⟩
 aH K (aG (l:=[(38,122,EH),(38,250,Eu),(38,506,EJ),(38,4090,DT)]) rfl ⟨bF (n:=900) (f:=38) K (by kernel_rfl) (by kernel_rfl) (by kernel_rfl) (by kernel_rfl) (by kernel_rfl) (fun p v r h=>(Pe p v.1 v.2).trans h),
  bF (n:=900) (f:=38) K (by kernel_rfl) (by kernel_rfl) (by kernel_rfl) (by kernel_rfl) (by kernel_rfl) (fun p v r h=>(O8 p v.1 v.2).trans h),
  bF (n:=900) (f:=38) K (by kernel_rfl) (by kernel_rfl) (by kernel_rfl) (by kernel_rfl) (by kernel_rfl) (fun p v r h=>(O3 p v.1 v.2).trans h),
  bF (n:=900) (f:=38) K (by kernel_rfl) (by kernel_rfl) (by kernel_rfl) (by kernel_rfl) (by kernel_rfl) (fun p v r h=>(Ol p.1 p.2 v.1 v.2).trans h),trivial⟩) (by kernel_rfl) (fun x y h=>(TR x).trans h) rfl rfl
def FK:LSh:=⟨150,[],[],[],[(7,.int .i64),(5,.int .u32)],[],[]⟩
@[reducible] def Gu:List fO:=[⟨.exit 2,[(5,.int .u32)],[],[]⟩]
def oD (v0:Int) (v1:Int):Option ((Int×Int) ⊕ ((Int))):=cnd (ilt v0 8) (cnd (ieq (wo v1 2) 1) (some (Sum.inl (wr .i64 (aj v0 1),wr .u32 (iH .u32 (wr .u32 (J4 v1 2)) 3988292384)))) (some (Sum.inl (wr .i64 (aj v0 1),wr .u32 (J4 v1 2))))) (some (Sum.inr v1))
def EK:dU:=FK.spec Gu [23,24,27,28,29,30,31,32,5,33,34,25,26,7] (fun p v=>oD v.1 v.2)
def Jv:LSh:=⟨71,[(1,.ro .u8)],[],[],[(6,.int .i64),(5,.int .u32)],[],[]⟩
@[reducible] def Jw:List fO:=[⟨.exit 0,[(5,.int .u32)],[],[]⟩]
def pU (p0:(List Int)) (v0:Int) (v1:Int):Option ((Int×Int) ⊕ ((Int))):=cnd (ilt v0 (len p0)) (cnd (band (ile 0 v0) (ilt v0 (len p0))) (af (bD (fun v=>oD v.fst v.snd) LF (0,wr .u32 (iH .u32 v1 (wr .u32 (ai p0 (itn v0)))))) fun y0=>some (Sum.inl (wr .i64 (aj v0 1),y0))) none) (some (Sum.inr v1))
def Jd:dU:=Jv.spec Jw [10,11,12,13,16,17,18,19,20,21,22,5,7,23,24,27,28,29,30,31,32,33,34,25,26,14,15,6] (fun p v=>pU p v.1 v.2)
def yc (x0:Int) (x1:(List Int)):Option (Int):=af (bD (fun v=>pU x1 v.fst v.snd) LF (0,wr .u32 (iH .u32 x0 4294967295))) fun y0=>some (wr .u32 (iH .u32 y0 4294967295))
noncomputable def xY:Cx:={ P:=PG,ety:=ety,fn:=look [],inl:=dR [],lp:=aS [(165,7462,EK),(165,58,Jd)] }
theorem O7 (v0:Int) (v1:Int):fC xY 900 165 7462 (dK PG 165 7462) FK Gu () (v0,v1)=oD v0 v1:=by kernel_rfl
theorem Rn (p0:(List Int)) (v0:Int) (v1:Int):fC xY 900 165 58 (dK PG 165 58) Jv Jw p0 (v0,v1)=pU p0 v0 v1:=by kernel_rfl
theorem Vk (x0:Int) (x1:(List Int)):bP xY 165 [.int .u32,.ro .u8] [.int .u32] (x0,x1)=yc x0 x1:=by kernel_rfl
def zO:aO:=mkSpec [.int .u32,.ro .u8] [.int .u32] true (fun x=>yc x.1 x.2)
theorem Ym:dI PG 165 zO:=
 have K:CxR xY:=aP.cx (fun _=>rfl) (l:=[]) trivial
 aH K (aG (l:=[(165,7462,EK),(165,58,Jd)]) rfl ⟨bF (n:=900) (f:=165) K (by kernel_rfl) (by kernel_rfl) (by kernel_rfl) (by kernel_rfl) (by kernel_rfl) (fun p v r h=>(O7 v.1 v.2).trans h),
  bF (n:=900) (f:=165) K (by kernel_rfl) (by kernel_rfl) (by kernel_rfl) (by kernel_rfl) (by kernel_rfl) (fun p v r h=>(Rn p v.1 v.2).trans h),trivial⟩) (by kernel_rfl) (fun x y h=>(Vk x.1 x.2).trans h) rfl rfl
def lU (x0:(List Int)):Option (Int):=af (yc 0 x0) fun y0=>some y0
noncomputable def QS:Cx:={ P:=PG,ety:=ety,fn:=look [(165,zO)],inl:=dR [],lp:=aS [] }
theorem Xt (x0:(List Int)):bP QS 105 [.ro .u8] [.int .u32] x0=lU x0:=by kernel_rfl
def iV:aO:=mkSpec [.ro .u8] [.int .u32] true (fun x=>lU x)
theorem yg:dI PG 105 iV:=
 have K:CxR QS:=aP.cx (fun _=>rfl) (l:=[(165,zO)]) ⟨Ym,trivial⟩
 aH K (aG (l:=[]) rfl trivial) (by kernel_rfl) (fun x y h=>(Xt x).trans h) rfl rfl
def o5 (x0:dw):Option (Bool):=some (band (band (band (ilt 0 x0.gen) (ilt x0.gen 1000000001)) (ilt (-1) x0.lsn)) (ilt x0.lsn 1000000001))
noncomputable def MQ:Cx:={ P:=PG,ety:=ety,fn:=look [],inl:=dR [],lp:=aS [] }
theorem Uc (x0:dw):bP MQ 106 [.val .slot] [.bool] x0=o5 x0:=by kernel_rfl
def oQ:aO:=mkSpec [.val .slot] [.bool] true (fun x=>o5 x)
theorem KJ:dI PG 106 oQ:=
 have K:CxR MQ:=aP.cx (fun _=>rfl) (l:=[]) trivial
 aH K (aG (l:=[]) rfl trivial) (by kernel_rfl) (fun x y h=>(Uc x).trans h) rfl rfl
def EF:LSh:=⟨75,[(0,.ro .u8)],[(2,.mp 8 0)],[],[(5,.int .i64),(4,.int .u32),(3,.int .i64)],[(8,[.val .slot])],[]⟩
@[reducible] def Ew:List fO:=[⟨.ret,[(3,.int .i64)],[(8,[.val .slot])],[]⟩,⟨.exit 0,[(3,.int .i64)],[(8,[.val .slot])],[]⟩]
def kC (p0:(List Int)) (v0:Int) (v1:Int) (v2:Int) (v3:dw):Option ((Int×Int×Int×dw) ⊕ ((Int×dw) ⊕ ((Int×dw)))):=cnd (ilt v0 4) (cnd (band (ile 0 (wr .i64 (aj 16 v0))) (ilt (wr .i64 (aj 16 v0)) (len p0))) (cnd (ay (ieq (ai p0 (itn (wr .i64 (aj 16 v0)))) (wr .u8 (wo v1 256)))) (some (Sum.inr (Sum.inl (10,dw.mk 0 0)))) (some (Sum.inl (wr .i64 (aj v0 1),wr .u32 (J4 v1 256),v2,v3)))) none) (some (Sum.inr (Sum.inr (v2,v3))))
def D7:dU:=EF.spec Ew [17,18,21,22,23,24,25,26,27,28,29,30,3,31,32,4,19,20,5] (fun p v=>kC p v.1 v.2.1 v.2.2.1 v.2.2.2)
def E8:LSh:=⟨148,[(0,.ro .u8)],[],[],[(8,.int .i64),(7,.int .u64),(6,.int .u64)],[],[]⟩
@[reducible] def ED:List fO:=[⟨.exit 2,[(7,.int .u64),(6,.int .u64)],[],[]⟩]
def kE (p0:(List Int)) (v0:Int) (v1:Int) (v2:Int):Option ((Int×Int×Int) ⊕ ((Int×Int))):=cnd (ilt v0 8) (cnd (band (ile 0 v0) (ilt v0 (len p0))) (cnd (band (ile 0 (wr .i64 (aj 8 v0))) (ilt (wr .i64 (aj 8 v0)) (len p0))) (some (Sum.inl (wr .i64 (aj v0 1),wr .u64 (aj (wr .u64 (dX v1 256)) (wr .u64 (ai p0 (itn (wr .i64 (aj 8 v0)))))),wr .u64 (aj (wr .u64 (dX v2 256)) (wr .u64 (ai p0 (itn v0))))))) none) none) (some (Sum.inr (v1,v2)))
def Ej:dU:=E8.spec ED [33,34,37,38,39,40,41,42,43,44,6,45,46,47,48,49,50,51,52,53,7,35,36,8] (fun p v=>kE p v.1 v.2.1 v.2.2)
def qP (x0:(List Int)):Option (dw×Int):=cnd (ay (ieq (len x0) 20)) (some (dw.mk 0 0,2)) (cnd (ile 16 (len x0)) (af (lU (aA x0 16)) fun y0=>af (bD (fun v=>kC x0 v.fst v.snd.fst v.snd.snd.fst v.snd.snd.snd) LF (0,y0,0,dw.mk 0 0)) fun y1=>gY y1 (fun y2=>some (y2.snd,y2.fst)) fun y2=>af (bD (fun v=>kE x0 v.fst v.snd.fst v.snd.snd) LF (0,0,0)) fun y3=>af (o5 (dw.mk (wr .i64 y3.snd) (wr .i64 y3.fst))) fun y4=>cnd (ay y4) (some (dw.mk 0 0,2)) (some (dw.mk (wr .i64 y3.snd) (wr .i64 y3.fst),0))) none)
noncomputable def wB:Cx:={ P:=PG,ety:=ety,fn:=look [(105,iV),(106,oQ)],inl:=dR [],lp:=aS [(96,122,D7),(96,506,Ej)] }
theorem Ot (p0:(List Int)) (v0:Int) (v1:Int) (v2:Int) (v3:dw):fC wB 900 96 122 (dK PG 96 122) EF Ew p0 (v0,v1,v2,v3)=kC p0 v0 v1 v2 v3:=by kernel_rfl
theorem NW (p0:(List Int)) (v0:Int) (v1:Int) (v2:Int):fC wB 900 96 506 (dK PG 96 506) E8 ED p0 (v0,v1,v2)=kE p0 v0 v1 v2:=by kernel_rfl
theorem TB (x0:(List Int)):bP wB 96 [.ro .u8] [.val .slot,.int .i64] x0=qP x0:=by kernel_rfl
def xQ:aO:=mkSpec [.ro .u8] [.val .slot,.int .i64] true (fun x=>qP x)
theorem WJ:dI PG 96 xQ:=
 have K:CxR wB:=aP.cx (fun _=>rfl) (l:=[(105,iV),(106,oQ)]) ⟨yg,KJ,trivial⟩
 aH K (aG (l:=[(96,122,D7),(96,506,Ej)]) rfl ⟨bF (n:=900) (f:=96) K (by kernel_rfl) (by kernel_rfl) (by kernel_rfl) (by kernel_rfl) (by kernel_rfl) (fun p v r h=>(Ot p v.1 v.2.1 v.2.2.1 v.2.2.2).trans h),
  bF (n:=900) (f:=96) K (by kernel_rfl) (by kernel_rfl) (by kernel_rfl) (by kernel_rfl) (by kernel_rfl) (fun p v r h=>(NW p v.1 v.2.1 v.2.2).trans h),trivial⟩) (by kernel_rfl) (fun x y h=>(TB x).trans h) rfl rfl
def qA (x0:Int):Option ((List UInt8)):=cnd (ay (ieq (wo x0 2) 0)) (some [(UInt8.ofNat 115),(UInt8.ofNat 108),(UInt8.ofNat 111),(UInt8.ofNat 116),(UInt8.ofNat 46),(UInt8.ofNat 49)]) (some [(UInt8.ofNat 115),(UInt8.ofNat 108),(UInt8.ofNat 111),(UInt8.ofNat 116),(UInt8.ofNat 46),(UInt8.ofNat 48)])
noncomputable def Oy:Cx:={ P:=PG,ety:=ety,fn:=look [],inl:=dR [],lp:=aS [] }
theorem Vs (x0:Int):bP Oy 97 [.int .i64] [.str] x0=qA x0:=by kernel_rfl
def qp:aO:=mkSpec [.int .i64] [.str] true (fun x=>qA x)
theorem MF:dI PG 97 qp:=
 have K:CxR Oy:=aP.cx (fun _=>rfl) (l:=[]) trivial
 aH K (aG (l:=[]) rfl trivial) (by kernel_rfl) (fun x y h=>(Vs x).trans h) rfl rfl
def Il:LSh:=⟨75,[],[(4,.mp 72 0),(1,.mp 8 0)],[(8,[.val .disk])],[(5,.int .i64)],[(72,[.val .slot])],[]⟩
@[reducible] def I9:List fO:=[⟨.exit 0,[],[(72,[.val .slot])],[]⟩]
def lH (p0:au) (v0:Int) (v1:dw):Option ((Int×dw) ⊕ ((dw))):=cnd (ilt v0 (len p0.files)) (cnd (band (ile 0 v0) (ilt v0 (len p0.files))) (af (qP (ai p0.files (itn v0)).data) fun y0=>cnd (bor (band (ile 0 v0) (ilt v0 (len p0.files))) (ay (ieq y0.snd 0))) (af (cnd (ieq y0.snd 0) (qA y0.fst.gen) (some [])) fun y1=>cnd (band (band (ieq y0.snd 0) (seq (ai p0.files (itn v0)).name y1)) (ilt v1.gen y0.fst.gen)) (some (Sum.inl (wr .i64 (aj v0 1),y0.fst))) (some (Sum.inl (wr .i64 (aj v0 1),v1)))) none) none) (some (Sum.inr v1))
def Gm:dU:=Il.spec I9 [15,16,17,18,19,23,24,25,26,27,28,29,22,30,31,6,7,32,33,34,35,36,37,38,39,40,41,42,43,44,45,46,47,48,49,50,51,52,53,20,21,5] (fun p v=>lH p v.1 v.2)
def nM (x0:au):Option (dw×Int):=af (mr x0) fun y0=>cnd (ay y0) (some (dw.mk 0 0,1)) (cnd x0.down (some (dw.mk 0 0,9)) (af (bD (fun v=>lH x0 v.fst v.snd) LF (0,dw.mk 0 0)) fun y1=>cnd (ieq y1.gen 0) (some (y1,7)) (some (y1,0))))
noncomputable def Fe:Cx:={ P:=PG,ety:=ety,fn:=look [(37,jT),(96,xQ),(97,qp)],inl:=dR [],lp:=aS [(39,250,Gm)] }
theorem PU (p0:au) (v0:Int) (v1:dw):fC Fe 900 39 250 (dK PG 39 250) Il I9 p0 (v0,v1)=lH p0 v0 v1:=by kernel_rfl
theorem VH (x0:au):bP Fe 39 [.val .disk] [.val .slot,.int .i64] x0=nM x0:=by kernel_rfl
def kJ:aO:=mkSpec [.val .disk] [.val .slot,.int .i64] true (fun x=>nM x)
theorem DF:dI PG 39 kJ:=
 have K:CxR Fe:=aP.cx (fun _=>rfl) (l:=[(37,jT),(96,xQ),(97,qp)]) ⟨BP,WJ,MF,trivial⟩
 aH K (aG (l:=[(39,250,Gm)]) rfl ⟨bF (n:=900) (f:=39) K (by kernel_rfl) (by kernel_rfl) (by kernel_rfl) (by kernel_rfl) (by kernel_rfl) (fun p v r h=>(PU p v.1 v.2).trans h),trivial⟩) (by kernel_rfl) (fun x y h=>(VH x).trans h) rfl rfl
def JM:LSh:=⟨69,[(1,.str)],[(2,.mp 16 0)],[(16,[.val .disk])],[(5,.int .i64),(4,.int .i64)],[],[]⟩
@[reducible] def Jh:List fO:=[⟨.ret,[(4,.int .i64)],[],[]⟩,⟨.exit 0,[(4,.int .i64)],[],[]⟩]
def mQ (p0:(List UInt8)) (p1:au) (v0:Int) (v1:Int):Option ((Int×Int) ⊕ ((Int) ⊕ ((Int)))):=cnd (ilt v0 (len p1.files)) (cnd (band (ile 0 v0) (ilt v0 (len p1.files))) (cnd (seq (ai p1.files (itn v0)).name p0) (some (Sum.inr (Sum.inl v0))) (some (Sum.inl (wr .i64 (aj v0 1),v1)))) none) (some (Sum.inr (Sum.inr v1)))
def II:dU:=JM.spec Jh [6,7,8,9,10,13,14,15,16,17,18,19,20,21,4,11,12,5] (fun p v=>mQ p.1 p.2 v.1 v.2)
def gy (x0:au) (x1:(List UInt8)):Option (Int):=af (bD (fun v=>mQ x1 x0 v.fst v.snd) LF (0,0)) fun y0=>gY y0 (fun y1=>some y1) fun y1=>some (-1)
noncomputable def Fv:Cx:={ P:=PG,ety:=ety,fn:=look [],inl:=dR [],lp:=aS [(40,26,II)] }
theorem Ry (p0:(List UInt8)) (p1:au) (v0:Int) (v1:Int):fC Fv 900 40 26 (dK PG 40 26) JM Jh (p0,p1) (v0,v1)=mQ p0 p1 v0 v1:=by kernel_rfl
theorem Vf (x0:au) (x1:(List UInt8)):bP Fv 40 [.val .disk,.str] [.int .i64] (x0,x1)=gy x0 x1:=by kernel_rfl
def dF:aO:=mkSpec [.val .disk,.str] [.int .i64] true (fun x=>gy x.1 x.2)
theorem jX:dI PG 40 dF:=
 have K:CxR Fv:=aP.cx (fun _=>rfl) (l:=[]) trivial
 aH K (aG (l:=[(40,26,II)]) rfl ⟨bF (n:=900) (f:=40) K (by kernel_rfl) (by kernel_rfl) (by kernel_rfl) (by kernel_rfl) (by kernel_rfl) (fun p v r h=>(Ry p.1 p.2 v.1 v.2).trans h),trivial⟩) (by kernel_rfl) (fun x y h=>(Vf x.1 x.2).trans h) rfl rfl
def jy (x0:au) (x1:(List UInt8)) (x2:(List UInt8)):Option (Int):=af (mr x0) fun y0=>cnd (ay y0) (some 1) (cnd x0.down (some 9) (af (lW x1) fun y1=>af (cnd (ay (ay y1)) (lW x2) (some false)) fun y2=>cnd (bor (ay y1) (ay y2)) (some 1) (some 0)))
noncomputable def Me:Cx:={ P:=PG,ety:=ety,fn:=look [(37,jT),(92,oZ)],inl:=dR [],lp:=aS [] }
theorem U0 (x0:au) (x1:(List UInt8)) (x2:(List UInt8)):bP Me 98 [.val .disk,.str,.str] [.int .i64] (x0,x1,x2)=jy x0 x1 x2:=by kernel_rfl
def fJ:aO:=mkSpec [.val .disk,.str,.str] [.int .i64] true (fun x=>jy x.1 x.2.1 x.2.2)
theorem qU:dI PG 98 fJ:=
 have K:CxR Me:=aP.cx (fun _=>rfl) (l:=[(37,jT),(92,oZ)]) ⟨BP,KQ,trivial⟩
 aH K (aG (l:=[]) rfl trivial) (by kernel_rfl) (fun x y h=>(U0 x.1 x.2.1 x.2.2).trans h) rfl rfl
def gQ (x0:au):Option (au×Bool):=cnd (ieq x0.fuse 0) (some (au.mk x0.files x0.room x0.fuse true,false)) (cnd (ilt 0 x0.fuse) (some (au.mk x0.files x0.room (wr .i64 (aI x0.fuse 1)) x0.down,true)) (some (x0,true)))
noncomputable def Na:Cx:={ P:=PG,ety:=ety,fn:=look [],inl:=dR [],lp:=aS [] }
theorem U3 (x0:au):bP Na 99 [.val .disk] [.val .disk,.bool] x0=gQ x0:=by kernel_rfl
def fE:aO:=mkSpec [.val .disk] [.val .disk,.bool] false (fun x=>gQ x)
theorem qQ:dI PG 99 fE:=
 have K:CxR Na:=aP.cx (fun _=>rfl) (l:=[]) trivial
 aH K (aG (l:=[]) rfl trivial) (by kernel_rfl) (fun x y h=>(U3 x).trans h) rfl rfl
def Ez:LSh:=⟨70,[(1,.str)],[(2,.mp 16 0)],[(16,[.val .disk])],[(6,.int .i64),(5,.buf .file)],[],[]⟩
@[reducible] def ET:List fO:=[⟨.exit 0,[(5,.buf .file)],[],[]⟩]
def kz (p0:(List UInt8)) (p1:au) (v0:Int) (v1:(List aF)):Option ((Int×(List aF)) ⊕ (((List aF)))):=cnd (ilt v0 (len p1.files)) (cnd (band (ile 0 v0) (ilt v0 (len p1.files))) (cnd (ay (seq (ai p1.files (itn v0)).name p0)) (cnd (band (ile 0 v0) (ilt v0 (len p1.files))) (cnd (ile (len (dB v1 [ai p1.files (itn v0)])) 68719476736) (some (Sum.inl (wr .i64 (aj v0 1),dB v1 [ai p1.files (itn v0)]))) none) none) (some (Sum.inl (wr .i64 (aj v0 1),v1)))) none) (some (Sum.inr v1))
def DK:dU:=Ez.spec ET [7,8,9,10,11,14,15,16,17,18,19,20,21,22,23,24,25,26,27,28,29,5,12,13,6] (fun p v=>kz p.1 p.2 v.1 v.2)
def mV (x0:au) (x1:(List UInt8)):Option (au):=af (bD (fun v=>kz x1 x0 v.fst v.snd) LF (0,[])) fun y0=>some (au.mk y0 x0.room x0.fuse x0.down)
noncomputable def Af:Cx:={ P:=PG,ety:=ety,fn:=look [],inl:=dR [],lp:=aS [(100,58,DK)] }
theorem N7 (p0:(List UInt8)) (p1:au) (v0:Int) (v1:(List aF)):fC Af 900 100 58 (dK PG 100 58) Ez ET (p0,p1) (v0,v1)=kz p0 p1 v0 v1:=by kernel_rfl
theorem Q9 (x0:au) (x1:(List UInt8)):bP Af 100 [.val .disk,.str] [.val .disk] (x0,x1)=mV x0 x1:=by kernel_rfl
def nI:aO:=mkSpec [.val .disk,.str] [.val .disk] false (fun x=>mV x.1 x.2)
theorem IZ:dI PG 100 nI:=
 have K:CxR Af:=aP.cx (fun _=>rfl) (l:=[]) trivial
 aH K (aG (l:=[(100,58,DK)]) rfl ⟨bF (n:=900) (f:=100) K (by kernel_rfl) (by kernel_rfl) (by kernel_rfl) (by kernel_rfl) (by kernel_rfl) (fun p v r h=>(N7 p.1 p.2 v.1 v.2).trans h),trivial⟩) (by kernel_rfl) (fun x y h=>(Q9 x.1 x.2).trans h) rfl rfl
def nX (x0:au) (x1:(List UInt8)):Option (au×Int):=af (jy x0 x1 x1) fun y0=>cnd (ay (ieq y0 0)) (some (x0,y0)) (af (gy x0 x1) fun y1=>cnd (ilt y1 0) (some (x0,7)) (af (gQ x0) fun y2=>cnd (ay y2.snd) (some (y2.fst,9)) (af (mV y2.fst x1) fun y3=>some (y3,0))))
noncomputable def KN:Cx:={ P:=PG,ety:=ety,fn:=look [(98,fJ),(40,dF),(99,fE),(100,nI)],inl:=dR [],lp:=aS [] }
theorem S9 (x0:au) (x1:(List UInt8)):bP KN 41 [.val .disk,.str] [.val .disk,.int .i64] (x0,x1)=nX x0 x1:=by kernel_rfl
def xK:aO:=mkSpec [.val .disk,.str] [.val .disk,.int .i64] false (fun x=>nX x.1 x.2)
theorem Vj:dI PG 41 xK:=
 have K:CxR KN:=aP.cx (fun _=>rfl) (l:=[(98,fJ),(40,dF),(99,fE),(100,nI)]) ⟨qU,jX,qQ,IZ,trivial⟩
 aH K (aG (l:=[]) rfl trivial) (by kernel_rfl) (fun x y h=>(S9 x.1 x.2).trans h) rfl rfl
def um (x0:Bool):Option (Int):=cnd x0 (some 1) (some 0)
noncomputable def Ov:Cx:={ P:=PG,ety:=ety,fn:=look [],inl:=dR [],lp:=aS [] }
theorem WC (x0:Bool):bP Ov 103 [.bool] [.int .i64] x0=um x0:=by kernel_rfl
def Ai:aO:=mkSpec [.bool] [.int .i64] true (fun x=>um x)
theorem YU:dI PG 103 Ai:=
 have K:CxR Ov:=aP.cx (fun _=>rfl) (l:=[]) trivial
 aH K (aG (l:=[]) rfl trivial) (by kernel_rfl) (fun x y h=>(WC x).trans h) rfl rfl
def Ji:LSh:=⟨76,[],[(5,.mf 32)],[],[(7,.int .i64),(6,.int .u64)],[],[(32,.u8)]⟩
@[reducible] def Jo:List fO:=[⟨.exit 0,[],[],[(32,.u8)]⟩]
def ng (v0:Int) (v1:Int) (v2:(List Int)):Option ((Int×Int×(List Int)) ⊕ (((List Int)))):=cnd (ile 0 v0) (cnd (band (ile 0 v0) (ilt v0 (len v2))) (some (Sum.inl (wr .i64 (aI v0 1),wr .u64 (J4 v1 256),bT v2 (itn v0) (wr .u8 (wo v1 256))))) none) (some (Sum.inr v2))
def Io:dU:=Ji.spec Jo [14,15,18,19,20,21,22,23,24,25,6,16,17,7] (fun p v=>ng v.1 v.2.1 v.2.2)
def dQ (x0:Int) (x1:Int):Option ((List Int)):=cnd (band (band (ile 0 x1) (ile x1 x1)) (ile x1 68719476736)) (af (bD (fun v=>ng v.fst v.snd.fst v.snd.snd) LF (wr .i64 (aI x1 1),wr .u64 x0,jO Int (itn x1))) fun y0=>some y0) none
noncomputable def Hz:Cx:={ P:=PG,ety:=ety,fn:=look [],inl:=dR [],lp:=aS [(104,122,Io)] }
theorem Rh (v0:Int) (v1:Int) (v2:(List Int)):fC Hz 900 104 122 (dK PG 104 122) Ji Jo () (v0,v1,v2)=ng v0 v1 v2:=by kernel_rfl
theorem Xi (x0:Int) (x1:Int):bP Hz 104 [.int .i64,.int .i64] [.buf .u8] (x0,x1)=dQ x0 x1:=by kernel_rfl
def BQ:aO:=mkSpec [.int .i64,.int .i64] [.buf .u8] true (fun x=>dQ x.1 x.2)
theorem ZC:dI PG 104 BQ:=
 have K:CxR Hz:=aP.cx (fun _=>rfl) (l:=[]) trivial
 aH K (aG (l:=[(104,122,Io)]) rfl ⟨bF (n:=900) (f:=104) K (by kernel_rfl) (by kernel_rfl) (by kernel_rfl) (by kernel_rfl) (by kernel_rfl) (fun p v r h=>(Rh v.1 v.2.1 v.2.2).trans h),trivial⟩) (by kernel_rfl) (fun x y h=>(Xi x.1 x.2).trans h) rfl rfl
def EU:LSh:=⟨82,[(4,.ro .i64)],[],[],[(5,.int .i64),(3,.buf .u8)],[],[]⟩
@[reducible] def EM:List fO:=[⟨.exit 0,[(3,.buf .u8)],[],[]⟩]
def nG (p0:(List Int)) (v0:Int) (v1:(List Int)):Option ((Int×(List Int)) ⊕ (((List Int)))):=cnd (ilt v0 4) (cnd (band (ile 0 v0) (ilt v0 (len p0))) (af (dQ (ai p0 (itn v0)) 1) fun y0=>cnd (ile (len (dB v1 y0)) 68719476736) (some (Sum.inl (wr .i64 (aj v0 1),dB v1 y0))) none) none) (some (Sum.inr v1))
def Dw:dU:=EU.spec EM [26,27,30,31,32,33,34,35,36,3,28,29,5] (fun p v=>nG p v.1 v.2)
def zn:LSh:=⟨285,[(4,.ro .i64)],[],[],[(8,.int .i64),(3,.buf .u8)],[],[]⟩
@[reducible] def zk:List fO:=[⟨.exit 4,[(3,.buf .u8)],[],[]⟩]
def jY (p0:(List Int)) (v0:Int) (v1:(List Int)):Option ((Int×(List Int)) ⊕ (((List Int)))):=cnd (ilt v0 6) (cnd (band (ile 0 v0) (ilt v0 (len p0))) (af (dQ (ai p0 (itn v0)) 8) fun y0=>cnd (ile (len (dB v1 y0)) 68719476736) (some (Sum.inl (wr .i64 (aj v0 1),dB v1 y0))) none) none) (some (Sum.inr v1))
def yT:dU:=zn.spec zk [97,98,101,102,103,104,105,106,107,3,99,100,8] (fun p v=>jY p v.1 v.2)
def DR:LSh:=⟨168,[],[(1,.mp 8 0)],[(8,[.val .state])],[(6,.int .i64),(3,.buf .u8),(4,.ro .i64)],[],[]⟩
@[reducible] def DW:List fO:=[⟨.exit 2,[(3,.buf .u8),(4,.ro .i64)],[],[]⟩]
def jQ (p0:ax) (v0:Int) (v1:(List Int)) (v2:(List Int)):Option ((Int×(List Int)×(List Int)) ⊕ (((List Int)×(List Int)))):=cnd (ilt v0 (len p0.orders)) (cnd (band (ile 0 v0) (ilt v0 (len p0.orders))) (af (dQ (ai p0.orders (itn v0)).id 8) fun y0=>cnd (ile (len (dB v1 y0)) 68719476736) (cnd (ile (len (dB (dB v1 y0) [wr .u8 (ai p0.orders (itn v0)).account,wr .u8 (ai p0.orders (itn v0)).symbol,wr .u8 (ai p0.orders (itn v0)).side,wr .u8 (ai p0.orders (itn v0)).phase])) 68719476736) (af (bD (fun v=>jY [(ai p0.orders (itn v0)).qty,(ai p0.orders (itn v0)).price,(ai p0.orders (itn v0)).filled,(ai p0.orders (itn v0)).newQty,(ai p0.orders (itn v0)).newPrice,(ai p0.orders (itn v0)).version] v.fst v.snd) LF (0,dB (dB v1 y0) [wr .u8 (ai p0.orders (itn v0)).account,wr .u8 (ai p0.orders (itn v0)).symbol,wr .u8 (ai p0.orders (itn v0)).side,wr .u8 (ai p0.orders (itn v0)).phase])) fun y1=>af (um (ai p0.orders (itn v0)).asked) fun y2=>af (dQ y2 1) fun y3=>cnd (ile (len (dB y1 y3)) 68719476736) (some (Sum.inl (wr .i64 (aj v0 1),dB y1 y3,[(ai p0.orders (itn v0)).qty,(ai p0.orders (itn v0)).price,(ai p0.orders (itn v0)).filled,(ai p0.orders (itn v0)).newQty,(ai p0.orders (itn v0)).newPrice,(ai p0.orders (itn v0)).version]))) none) none) none) none) (some (Sum.inr (v1,v2)))
def Cm:dU:=DR.spec DW [52,53,54,55,56,59,60,61,62,63,7,64,65,66,67,68,3,69,70,71,72,73,74,75,76,77,78,79,80,81,82,83,84,85,86,87,88,89,90,91,92,93,94,95,96,4,8,97,98,101,102,103,104,105,106,107,99,100,108,109,110,111,112,113,57,58,6] (fun p v=>jQ p v.1 v.2.1 v.2.2)
def DV:LSh:=⟨238,[],[(1,.mp 8 0)],[(8,[.val .state])],[(9,.int .i64),(3,.buf .u8)],[],[]⟩
@[reducible] def DN:List fO:=[⟨.exit 6,[(3,.buf .u8)],[],[]⟩]
def lX (p0:ax) (v0:Int) (v1:(List Int)):Option ((Int×(List Int)) ⊕ (((List Int)))):=cnd (ilt v0 (len p0.cells)) (cnd (band (ile 0 v0) (ilt v0 (len p0.cells))) (af (dQ (ai p0.cells (itn v0)).pos 8) fun y0=>cnd (ile (len (dB v1 y0)) 68719476736) (some (Sum.inl (wr .i64 (aj v0 1),dB v1 y0))) none) none) (some (Sum.inr v1))
def CX:dU:=DV.spec DN [114,115,116,117,118,121,122,123,124,125,126,127,128,129,3,119,120,9] (fun p v=>lX p v.1 v.2)
def Dp:LSh:=⟨306,[],[(1,.mp 8 0)],[(8,[.val .state])],[(10,.int .i64),(3,.buf .u8)],[],[]⟩
@[reducible] def Ec:List fO:=[⟨.exit 8,[(3,.buf .u8)],[],[]⟩]
def lV (p0:ax) (v0:Int) (v1:(List Int)):Option ((Int×(List Int)) ⊕ (((List Int)))):=cnd (ilt v0 (len p0.limits)) (cnd (band (ile 0 v0) (ilt v0 (len p0.limits))) (af (dQ (ai p0.limits (itn v0)).long 8) fun y0=>cnd (ile (len (dB v1 y0)) 68719476736) (cnd (band (ile 0 v0) (ilt v0 (len p0.limits))) (af (dQ (ai p0.limits (itn v0)).short 8) fun y1=>cnd (ile (len (dB (dB v1 y0) y1)) 68719476736) (cnd (band (ile 0 v0) (ilt v0 (len p0.limits))) (af (dQ (ai p0.limits (itn v0)).opn 8) fun y2=>cnd (ile (len (dB (dB (dB v1 y0) y1) y2)) 68719476736) (some (Sum.inl (wr .i64 (aj v0 1),dB (dB (dB v1 y0) y1) y2))) none) none) none) none) none) none) (some (Sum.inr v1))
def CO:dU:=Dp.spec Ec [130,131,132,133,134,137,138,139,140,141,142,143,144,145,3,146,147,148,149,150,151,152,153,154,155,156,157,158,159,160,161,162,163,135,136,10] (fun p v=>lV p v.1 v.2)
def CY:LSh:=⟨374,[],[(1,.mp 8 0)],[(8,[.val .state])],[(11,.int .i64),(3,.buf .u8)],[],[]⟩
@[reducible] def CQ:List fO:=[⟨.exit 10,[(3,.buf .u8)],[],[]⟩]
def lC (p0:ax) (v0:Int) (v1:(List Int)):Option ((Int×(List Int)) ⊕ (((List Int)))):=cnd (ilt v0 (len p0.caps)) (cnd (band (ile 0 v0) (ilt v0 (len p0.caps))) (af (dQ (ai p0.caps (itn v0)) 8) fun y0=>cnd (ile (len (dB v1 y0)) 68719476736) (some (Sum.inl (wr .i64 (aj v0 1),dB v1 y0))) none) none) (some (Sum.inr v1))
def Bc:dU:=CY.spec CQ [164,165,166,167,168,171,172,173,174,175,176,177,178,3,169,170,11] (fun p v=>lC p v.1 v.2)
def CZ:LSh:=⟨445,[],[],[],[(13,.int .i64),(12,.int .u32),(3,.buf .u8)],[],[]⟩
@[reducible] def CU:List fO:=[⟨.exit 12,[(3,.buf .u8)],[],[]⟩]
def jE (v0:Int) (v1:Int) (v2:(List Int)):Option ((Int×Int×(List Int)) ⊕ (((List Int)))):=cnd (ilt v0 4) (cnd (ile (len (dB v2 [wr .u8 (wo v1 256)])) 68719476736) (some (Sum.inl (wr .i64 (aj v0 1),wr .u32 (J4 v1 256),dB v2 [wr .u8 (wo v1 256)]))) none) (some (Sum.inr v2))
def AQ:dU:=CZ.spec CU [181,182,185,186,187,188,189,190,3,191,192,12,183,184,13] (fun p v=>jE v.1 v.2.1 v.2.2)
def nV (x0:ax):Option ((List Int)):=af (um x0.kill) fun y0=>af (bD (fun v=>nG [x0.accounts,x0.symbols,y0,len x0.orders] v.fst v.snd) LF (0,[115,110,97,102])) fun y1=>af (dQ x0.last 8) fun y2=>cnd (ile (len (dB y1 y2)) 68719476736) (af (dQ x0.seq 8) fun y3=>cnd (ile (len (dB (dB y1 y2) y3)) 68719476736) (af (dQ x0.lsn 8) fun y4=>cnd (ile (len (dB (dB (dB y1 y2) y3) y4)) 68719476736) (af (bD (fun v=>jQ x0 v.fst v.snd.fst v.snd.snd) LF (0,dB (dB (dB y1 y2) y3) y4,[x0.accounts,x0.symbols,y0,len x0.orders])) fun y5=>af (bD (fun v=>lX x0 v.fst v.snd) LF (0,y5.fst)) fun y6=>af (bD (fun v=>lV x0 v.fst v.snd) LF (0,y6)) fun y7=>af (bD (fun v=>lC x0 v.fst v.snd) LF (0,y7)) fun y8=>af (lU y8) fun y9=>af (bD (fun v=>jE v.fst v.snd.fst v.snd.snd) LF (0,y9,y8)) fun y10=>some y10) none) none) none
noncomputable def iT:Cx:={ P:=PG,ety:=ety,fn:=look [(103,Ai),(104,BQ),(105,iV)],inl:=dR [],lp:=aS [(43,122,Dw),(43,4182650,yT),(43,2042,Cm),(43,4090,CX),(43,8186,CO),(43,16378,Bc),(43,65530,AQ)] }
theorem N8 (p0:(List Int)) (v0:Int) (v1:(List Int)):fC iT 900 43 122 (dK PG 43 122) EU EM p0 (v0,v1)=nG p0 v0 v1:=by kernel_rfl
theorem J7 (p0:(List Int)) (v0:Int) (v1:(List Int)):fC iT 900 43 4182650 (dK PG 43 4182650) zn zk p0 (v0,v1)=jY p0 v0 v1:=by kernel_rfl
theorem NI (p0:ax) (v0:Int) (v1:(List Int)) (v2:(List Int)):fC iT 900 43 2042 (dK PG 43 2042) DR DW p0 (v0,v1,v2)=jQ p0 v0 v1 v2:=by kernel_rfl
theorem NM (p0:ax) (v0:Int) (v1:(List Int)):fC iT 900 43 4090 (dK PG 43 4090) DV DN p0 (v0,v1)=lX p0 v0 v1:=by kernel_rfl
theorem Nu (p0:ax) (v0:Int) (v1:(List Int)):fC iT 900 43 8186 (dK PG 43 8186) Dp Ec p0 (v0,v1)=lV p0 v0 v1:=by kernel_rfl
theorem KU (p0:ax) (v0:Int) (v1:(List Int)):fC iT 900 43 16378 (dK PG 43 16378) CY CQ p0 (v0,v1)=lC p0 v0 v1:=by kernel_rfl
theorem LC (v0:Int) (v1:Int) (v2:(List Int)):fC iT 900 43 65530 (dK PG 43 65530) CZ CU () (v0,v1,v2)=jE v0 v1 v2:=by kernel_rfl
theorem TD (x0:ax):bP iT 43 [.val .state] [.buf .u8] x0=nV x0:=by kernel_rfl
def xM:aO:=mkSpec [.val .state] [.buf .u8] true (fun x=>nV x)
theorem Wj:dI PG 43 xM:=
 have K:CxR iT:=aP.cx (fun _=>rfl) (l:=[(103,Ai),(104,BQ),(105,iV)]) ⟨YU,ZC,yg,trivial⟩
 aH K (aG (l:=[(43,122,Dw),(43,4182650,yT),(43,2042,Cm),(43,4090,CX),(43,8186,CO),(43,16378,Bc),(43,65530,AQ)]) rfl ⟨bF (n:=900) (f:=43) K (by kernel_rfl) (by kernel_rfl) (by kernel_rfl) (by kernel_rfl) (by kernel_rfl) (fun p v r h=>(N8 p v.1 v.2).trans h),
  bF (n:=900) (f:=43) K (by kernel_rfl) (by kernel_rfl) (by kernel_rfl) (by kernel_rfl) (by kernel_rfl) (fun p v r h=>(J7 p v.1 v.2).trans h),
  bF (n:=900) (f:=43) K (by kernel_rfl) (by kernel_rfl) (by kernel_rfl) (by kernel_rfl) (by kernel_rfl) (fun p v r h=>(NI p v.1 v.2.1 v.2.2).trans h),
  bF (n:=900) (f:=43) K (by kernel_rfl) (by kernel_rfl) (by kernel_rfl) (by kernel_rfl) (by kernel_rfl) (fun p v r h=>(NM p v.1 v.2).trans h),
  bF (n:=900) (f:=43) K (by kernel_rfl) (by kernel_rfl) (by kernel_rfl) (by kernel_rfl) (by kernel_rfl) (fun p v r h=>(Nu p v.1 v.2).trans h),
  bF (n:=900) (f:=43) K (by kernel_rfl) (by kernel_rfl) (by kernel_rfl) (by kernel_rfl) (by kernel_rfl) (fun p v r h=>(KU p v.1 v.2).trans h),
  bF (n:=900) (f:=43) K (by kernel_rfl) (by kernel_rfl) (by kernel_rfl) (by kernel_rfl) (by kernel_rfl) (fun p v r h=>(LC v.1 v.2.1 v.2.2).trans h),trivial⟩) (by kernel_rfl) (fun x y h=>(TD x).trans h) rfl rfl
def JY:LSh:=⟨69,[],[(1,.mp 8 0)],[(8,[.val .disk])],[(4,.int .i64),(3,.int .i64)],[],[]⟩
@[reducible] def Jp:List fO:=[⟨.exit 0,[(3,.int .i64)],[],[]⟩]
def mO (p0:au) (v0:Int) (v1:Int):Option ((Int×Int) ⊕ ((Int))):=cnd (ilt v0 (len p0.files)) (cnd (band (ile 0 v0) (ilt v0 (len p0.files))) (some (Sum.inl (wr .i64 (aj v0 1),wr .i64 (aj v1 (len (ai p0.files (itn v0)).data))))) none) (some (Sum.inr v1))
def Ic:dU:=JY.spec Jp [5,6,7,8,9,12,13,14,15,16,17,18,19,20,3,10,11,4] (fun p v=>mO p v.1 v.2)
def qy (x0:au):Option (Int):=af (bD (fun v=>mO x0 v.fst v.snd) LF (0,0)) fun y0=>some y0
noncomputable def FB:Cx:={ P:=PG,ety:=ety,fn:=look [],inl:=dR [],lp:=aS [(101,58,Ic)] }
theorem Rj (p0:au) (v0:Int) (v1:Int):fC FB 900 101 58 (dK PG 101 58) JY Jp p0 (v0,v1)=mO p0 v0 v1:=by kernel_rfl
theorem VY (x0:au):bP FB 101 [.val .disk] [.int .i64] x0=qy x0:=by kernel_rfl
def zT:aO:=mkSpec [.val .disk] [.int .i64] true (fun x=>qy x)
theorem YN:dI PG 101 zT:=
 have K:CxR FB:=aP.cx (fun _=>rfl) (l:=[]) trivial
 aH K (aG (l:=[(101,58,Ic)]) rfl ⟨bF (n:=900) (f:=101) K (by kernel_rfl) (by kernel_rfl) (by kernel_rfl) (by kernel_rfl) (by kernel_rfl) (fun p v r h=>(Rj p v.1 v.2).trans h),trivial⟩) (by kernel_rfl) (fun x y h=>(VY x).trans h) rfl rfl
def Ia:LSh:=⟨72,[],[(3,.mp 24 0),(2,.mp 16 0)],[(24,[.val .file]),(16,[.val .disk])],[(7,.int .i64),(6,.bool),(5,.buf .file)],[],[]⟩
@[reducible] def Ip:List fO:=[⟨.exit 0,[(6,.bool),(5,.buf .file)],[],[]⟩]
def lJ (p0:aF) (p1:au) (v0:Int) (v1:Bool) (v2:(List aF)):Option ((Int×Bool×(List aF)) ⊕ ((Bool×(List aF)))):=cnd (ilt v0 (len p1.files)) (cnd (bor (band (ile 0 v0) (ilt v0 (len p1.files))) (ay (ay v1))) (cnd (band (ay v1) (ay (slt (ai p1.files (itn v0)).name p0.name))) (cnd (ile (len (dB v2 [p0])) 68719476736) (cnd (band (ile 0 v0) (ilt v0 (len p1.files))) (cnd (ay (seq (ai p1.files (itn v0)).name p0.name)) (cnd (band (ile 0 v0) (ilt v0 (len p1.files))) (cnd (ile (len (dB (dB v2 [p0]) [ai p1.files (itn v0)])) 68719476736) (some (Sum.inl (wr .i64 (aj v0 1),true,dB (dB v2 [p0]) [ai p1.files (itn v0)]))) none) none) (some (Sum.inl (wr .i64 (aj v0 1),true,dB v2 [p0])))) none) none) (cnd (band (ile 0 v0) (ilt v0 (len p1.files))) (cnd (ay (seq (ai p1.files (itn v0)).name p0.name)) (cnd (band (ile 0 v0) (ilt v0 (len p1.files))) (cnd (ile (len (dB v2 [ai p1.files (itn v0)])) 68719476736) (some (Sum.inl (wr .i64 (aj v0 1),v1,dB v2 [ai p1.files (itn v0)]))) none) none) (some (Sum.inl (wr .i64 (aj v0 1),v1,v2)))) none)) none) (some (Sum.inr (v1,v2)))
def FQ:dU:=Ia.spec Ip [8,9,10,11,12,15,16,17,18,19,20,21,22,23,24,25,26,27,28,29,30,31,5,6,32,33,34,35,36,37,38,39,40,41,42,43,44,45,46,47,48,13,14,7] (fun p v=>lJ p.1 p.2 v.1 v.2.1 v.2.2)
def iF (x0:au) (x1:aF):Option (au):=af (bD (fun v=>lJ x1 x0 v.fst v.snd.fst v.snd.snd) LF (0,false,[])) fun y0=>cnd (ay y0.fst) (cnd (ile (len (dB y0.snd [x1])) 68719476736) (some (au.mk (dB y0.snd [x1]) x0.room x0.fuse x0.down)) none) (some (au.mk y0.snd x0.room x0.fuse x0.down))
noncomputable def Fj:Cx:={ P:=PG,ety:=ety,fn:=look [],inl:=dR [],lp:=aS [(102,122,FQ)] }
theorem Qn (p0:aF) (p1:au) (v0:Int) (v1:Bool) (v2:(List aF)):fC Fj 900 102 122 (dK PG 102 122) Ia Ip (p0,p1) (v0,v1,v2)=lJ p0 p1 v0 v1 v2:=by kernel_rfl
theorem VE (x0:au) (x1:aF):bP Fj 102 [.val .disk,.val .file] [.val .disk] (x0,x1)=iF x0 x1:=by kernel_rfl
def iJ:aO:=mkSpec [.val .disk,.val .file] [.val .disk] false (fun x=>iF x.1 x.2)
theorem wM:dI PG 102 iJ:=
 have K:CxR Fj:=aP.cx (fun _=>rfl) (l:=[]) trivial
 aH K (aG (l:=[(102,122,FQ)]) rfl ⟨bF (n:=900) (f:=102) K (by kernel_rfl) (by kernel_rfl) (by kernel_rfl) (by kernel_rfl) (by kernel_rfl) (fun p v r h=>(Qn p.1 p.2 v.1 v.2.1 v.2.2).trans h),trivial⟩) (by kernel_rfl) (fun x y h=>(VE x.1 x.2).trans h) rfl rfl
def iE (x0:au) (x1:(List UInt8)) (x2:(List Int)):Option (au×Int):=af (jy x0 x1 x1) fun y0=>cnd (ay (ieq y0 0)) (some (x0,y0)) (af (gy x0 x1) fun y1=>cnd (ile 0 y1) (cnd (band (ile 0 y1) (ilt y1 (len x0.files))) (af (qy x0) fun y2=>cnd (bor (ilt x0.room (wr .i64 (aj y2 (len x2)))) (band (ilt y1 0) (ile 64 (len x0.files)))) (some (x0,6)) (cnd (ile (len (ai x0.files (itn y1)).data) 68719476736) (cnd (ile (len (dB (ai x0.files (itn y1)).data x2)) 68719476736) (af (iF x0 (aF.mk (ai x0.files (itn y1)).name (dB (ai x0.files (itn y1)).data x2) (ai x0.files (itn y1)).sure)) fun y3=>af (gQ y3) fun y4=>cnd (ay y4.snd) (some (y4.fst,9)) (some (y4.fst,0))) none) none)) none) (af (qy x0) fun y5=>cnd (bor (ilt x0.room (wr .i64 (aj y5 (len x2)))) (band (ilt y1 0) (ile 64 (len x0.files)))) (some (x0,6)) (cnd (ile (len x2) 68719476736) (af (iF x0 (aF.mk x1 x2 0)) fun y6=>af (gQ y6) fun y7=>cnd (ay y7.snd) (some (y7.fst,9)) (some (y7.fst,0))) none)))
noncomputable def KD:Cx:={ P:=PG,ety:=ety,fn:=look [(98,fJ),(40,dF),(101,zT),(102,iJ),(99,fE)],inl:=dR [],lp:=aS [] }
theorem Tz (x0:au) (x1:(List UInt8)) (x2:(List Int)):bP KD 42 [.val .disk,.str,.ro .u8] [.val .disk,.int .i64] (x0,x1,x2)=iE x0 x1 x2:=by kernel_rfl
def oG:aO:=mkSpec [.val .disk,.str,.ro .u8] [.val .disk,.int .i64] false (fun x=>iE x.1 x.2.1 x.2.2)
theorem Jy:dI PG 42 oG:=
 have K:CxR KD:=aP.cx (fun _=>rfl) (l:=[(98,fJ),(40,dF),(101,zT),(102,iJ),(99,fE)]) ⟨qU,jX,YN,wM,qQ,trivial⟩
 aH K (aG (l:=[]) rfl trivial) (by kernel_rfl) (fun x y h=>(Tz x.1 x.2.1 x.2.2).trans h) rfl rfl
def jf (x0:au) (x1:(List UInt8)):Option (au×Int):=af (jy x0 x1 x1) fun y0=>cnd (ay (ieq y0 0)) (some (x0,y0)) (af (gy x0 x1) fun y1=>cnd (ilt y1 0) (some (x0,7)) (af (gQ x0) fun y2=>cnd (ay y2.snd) (some (y2.fst,9)) (cnd (band (ile 0 y1) (ilt y1 (len y2.fst.files))) (af (iF y2.fst (aF.mk (ai y2.fst.files (itn y1)).name (ai y2.fst.files (itn y1)).data (len (ai y2.fst.files (itn y1)).data))) fun y3=>some (y3,0)) none)))
noncomputable def OE:Cx:={ P:=PG,ety:=ety,fn:=look [(98,fJ),(40,dF),(99,fE),(102,iJ)],inl:=dR [],lp:=aS [] }
theorem V5 (x0:au) (x1:(List UInt8)):bP OE 44 [.val .disk,.str] [.val .disk,.int .i64] (x0,x1)=jf x0 x1:=by kernel_rfl
def qc:aO:=mkSpec [.val .disk,.str] [.val .disk,.int .i64] false (fun x=>jf x.1 x.2)
theorem Md:dI PG 44 qc:=
 have K:CxR OE:=aP.cx (fun _=>rfl) (l:=[(98,fJ),(40,dF),(99,fE),(102,iJ)]) ⟨qU,jX,qQ,wM,trivial⟩
 aH K (aG (l:=[]) rfl trivial) (by kernel_rfl) (fun x y h=>(V5 x.1 x.2).trans h) rfl rfl
def JK:LSh:=⟨68,[],[],[],[(4,.int .i64),(3,.str),(0,.int .i64)],[],[]⟩
@[reducible] def Js:List fO:=[⟨.exit 0,[(3,.str)],[],[]⟩]
def mX (v0:Int) (v1:(List UInt8)) (v2:Int):Option ((Int×(List UInt8)×Int) ⊕ (((List UInt8)))):=cnd (ilt v0 10) (cnd (ile (aj (len (u2s [wr .u8 (aj 48 (wr .u8 (wo v2 10)))])) (len v1)) 68719476736) (some (Sum.inl (wr .i64 (aj v0 1),dB (u2s [wr .u8 (aj 48 (wr .u8 (wo v2 10)))]) v1,wr .i64 (J4 v2 10)))) none) (some (Sum.inr v1))
def Ib:dU:=JK.spec Js [5,6,9,10,11,12,13,14,15,16,3,17,18,0,7,8,4] (fun p v=>mX v.1 v.2.1 v.2.2)
def je (x0:Int):Option ((List UInt8)):=af (bD (fun v=>mX v.fst v.snd.fst v.snd.snd) LF (0,[],x0)) fun y0=>cnd (ile (aj 5 (len y0)) 68719476736) (some (dB [(UInt8.ofNat 115),(UInt8.ofNat 110),(UInt8.ofNat 97),(UInt8.ofNat 112),(UInt8.ofNat 46)] y0)) none
noncomputable def Fz:Cx:={ P:=PG,ety:=ety,fn:=look [],inl:=dR [],lp:=aS [(15,58,Ib)] }
theorem Q8 (v0:Int) (v1:(List UInt8)) (v2:Int):fC Fz 900 15 58 (dK PG 15 58) JK Js () (v0,v1,v2)=mX v0 v1 v2:=by kernel_rfl
theorem Vp (x0:Int):bP Fz 15 [.int .i64] [.str] x0=je x0:=by kernel_rfl
def kK:aO:=mkSpec [.int .i64] [.str] true (fun x=>je x)
theorem DY:dI PG 15 kK:=
 have K:CxR Fz:=aP.cx (fun _=>rfl) (l:=[]) trivial
 aH K (aG (l:=[(15,58,Ib)]) rfl ⟨bF (n:=900) (f:=15) K (by kernel_rfl) (by kernel_rfl) (by kernel_rfl) (by kernel_rfl) (by kernel_rfl) (fun p v r h=>(Q8 v.1 v.2.1 v.2.2).trans h),trivial⟩) (by kernel_rfl) (fun x y h=>(Vp x).trans h) rfl rfl
def lg (x0:au) (x1:(List UInt8)) (x2:(List UInt8)):Option (au×Int):=af (jy x0 x1 x2) fun y0=>cnd (ay (ieq y0 0)) (some (x0,y0)) (af (gy x0 x1) fun y1=>cnd (ilt y1 0) (some (x0,7)) (af (gQ x0) fun y2=>cnd (ay y2.snd) (some (y2.fst,9)) (cnd (band (ile 0 y1) (ilt y1 (len y2.fst.files))) (af (mV y2.fst x1) fun y3=>af (iF y3 (aF.mk x2 (ai y2.fst.files (itn y1)).data (ai y2.fst.files (itn y1)).sure)) fun y4=>some (y4,0)) none)))
noncomputable def KP:Cx:={ P:=PG,ety:=ety,fn:=look [(98,fJ),(40,dF),(99,fE),(100,nI),(102,iJ)],inl:=dR [],lp:=aS [] }
theorem Td (x0:au) (x1:(List UInt8)) (x2:(List UInt8)):bP KP 45 [.val .disk,.str,.str] [.val .disk,.int .i64] (x0,x1,x2)=lg x0 x1 x2:=by kernel_rfl
def xH:aO:=mkSpec [.val .disk,.str,.str] [.val .disk,.int .i64] false (fun x=>lg x.1 x.2.1 x.2.2)
theorem V3:dI PG 45 xH:=
 have K:CxR KP:=aP.cx (fun _=>rfl) (l:=[(98,fJ),(40,dF),(99,fE),(100,nI),(102,iJ)]) ⟨qU,jX,qQ,IZ,wM,trivial⟩
 aH K (aG (l:=[]) rfl trivial) (by kernel_rfl) (fun x y h=>(Td x.1 x.2.1 x.2.2).trans h) rfl rfl
def vW (x0:au) (x1:(List UInt8)) (x2:Int):Option (au×Int):=af (jy x0 x1 x1) fun y0=>cnd (ay (ieq y0 0)) (some (x0,y0)) (af (gy x0 x1) fun y1=>cnd (ilt y1 0) (some (x0,7)) (cnd (band (ile 0 y1) (ilt y1 (len x0.files))) (cnd (bor (ilt x2 0) (ilt (len (ai x0.files (itn y1)).data) x2)) (some (x0,1)) (af (gQ x0) fun y2=>cnd (ay y2.snd) (some (y2.fst,9)) (cnd (band (ile 0 x2) (ile x2 (len (ai x0.files (itn y1)).data))) (cnd (ilt x2 (ai x0.files (itn y1)).sure) (af (iF y2.fst (aF.mk (ai x0.files (itn y1)).name (aA (ai x0.files (itn y1)).data (itn x2)) x2)) fun y3=>some (y3,0)) (af (iF y2.fst (aF.mk (ai x0.files (itn y1)).name (aA (ai x0.files (itn y1)).data (itn x2)) (ai x0.files (itn y1)).sure)) fun y4=>some (y4,0))) none))) none))
noncomputable def P9:Cx:={ P:=PG,ety:=ety,fn:=look [(98,fJ),(40,dF),(99,fE),(102,iJ)],inl:=dR [],lp:=aS [] }
theorem Xx (x0:au) (x1:(List UInt8)) (x2:Int):bP P9 107 [.val .disk,.str,.int .i64] [.val .disk,.int .i64] (x0,x1,x2)=vW x0 x1 x2:=by kernel_rfl
def BD:aO:=mkSpec [.val .disk,.str,.int .i64] [.val .disk,.int .i64] false (fun x=>vW x.1 x.2.1 x.2.2)
theorem Zv:dI PG 107 BD:=
 have K:CxR P9:=aP.cx (fun _=>rfl) (l:=[(98,fJ),(40,dF),(99,fE),(102,iJ)]) ⟨qU,jX,qQ,wM,trivial⟩
 aH K (aG (l:=[]) rfl trivial) (by kernel_rfl) (fun x y h=>(Xx x.1 x.2.1 x.2.2).trans h) rfl rfl
def EN:LSh:=⟨76,[],[(3,.mf 24)],[],[(6,.int .i64),(5,.int .i64),(4,.int .i64)],[],[(24,.u8)]⟩
@[reducible] def EC:List fO:=[⟨.exit 0,[],[],[(24,.u8)]⟩]
def kD (v0:Int) (v1:Int) (v2:Int) (v3:(List Int)):Option ((Int×Int×Int×(List Int)) ⊕ (((List Int)))):=cnd (ile 0 v0) (cnd (band (ile 0 v0) (ilt v0 (len v3))) (cnd (band (ile 0 (wr .i64 (aj 8 v0))) (ilt (wr .i64 (aj 8 v0)) (len (bT v3 (itn v0) (wr .u8 (wo v2 256)))))) (some (Sum.inl (wr .i64 (aI v0 1),wr .i64 (J4 v1 256),wr .i64 (J4 v2 256),bT (bT v3 (itn v0) (wr .u8 (wo v2 256))) (itn (wr .i64 (aj 8 v0))) (wr .u8 (wo v1 256))))) none) none) (some (Sum.inr v3))
def Dl:dU:=EN.spec EC [14,15,18,19,20,21,22,23,24,25,26,27,28,29,30,31,32,4,33,34,5,16,17,6] (fun p v=>kD v.1 v.2.1 v.2.2.1 v.2.2.2)
def EZ:LSh:=⟨149,[],[],[],[(8,.int .i64),(7,.int .u32),(3,.buf .u8)],[],[]⟩
@[reducible] def EX:List fO:=[⟨.exit 2,[(3,.buf .u8)],[],[]⟩]
def ku (v0:Int) (v1:Int) (v2:(List Int)):Option ((Int×Int×(List Int)) ⊕ (((List Int)))):=cnd (ilt v0 4) (cnd (ile (len (dB v2 [wr .u8 (wo v1 256)])) 68719476736) (some (Sum.inl (wr .i64 (aj v0 1),wr .u32 (J4 v1 256),dB v2 [wr .u8 (wo v1 256)]))) none) (some (Sum.inr v2))
def Dc:dU:=EZ.spec EX [37,38,41,42,43,44,45,46,3,47,48,7,39,40,8] (fun p v=>ku v.1 v.2.1 v.2.2)
def nY (x0:dw):Option ((List Int)):=af (bD (fun v=>kD v.fst v.snd.fst v.snd.snd.fst v.snd.snd.snd) LF (7,x0.lsn,x0.gen,jO Int 16)) fun y0=>af (lU y0) fun y1=>af (bD (fun v=>ku v.fst v.snd.fst v.snd.snd) LF (0,y1,y0)) fun y2=>some y2
noncomputable def wF:Cx:={ P:=PG,ety:=ety,fn:=look [(105,iV)],inl:=dR [],lp:=aS [(108,122,Dl),(108,506,Dc)] }
theorem NP (v0:Int) (v1:Int) (v2:Int) (v3:(List Int)):fC wF 900 108 122 (dK PG 108 122) EN EC () (v0,v1,v2,v3)=kD v0 v1 v2 v3:=by kernel_rfl
theorem Oe (v0:Int) (v1:Int) (v2:(List Int)):fC wF 900 108 506 (dK PG 108 506) EZ EX () (v0,v1,v2)=ku v0 v1 v2:=by kernel_rfl
theorem TA (x0:dw):bP wF 108 [.val .slot] [.buf .u8] x0=nY x0:=by kernel_rfl
def xE:aO:=mkSpec [.val .slot] [.buf .u8] true (fun x=>nY x)
theorem VD:dI PG 108 xE:=
 have K:CxR wF:=aP.cx (fun _=>rfl) (l:=[(105,iV)]) ⟨yg,trivial⟩
 aH K (aG (l:=[(108,122,Dl),(108,506,Dc)]) rfl ⟨bF (n:=900) (f:=108) K (by kernel_rfl) (by kernel_rfl) (by kernel_rfl) (by kernel_rfl) (by kernel_rfl) (fun p v r h=>(NP v.1 v.2.1 v.2.2.1 v.2.2.2).trans h),
  bF (n:=900) (f:=108) K (by kernel_rfl) (by kernel_rfl) (by kernel_rfl) (by kernel_rfl) (by kernel_rfl) (fun p v r h=>(Oe v.1 v.2.1 v.2.2).trans h),trivial⟩) (by kernel_rfl) (fun x y h=>(TA x).trans h) rfl rfl
def l9 (x0:au) (x1:dw):Option (au×Int):=af (nM x0) fun y0=>af (cnd (ay (ieq y0.snd 1)) (o5 x1) (some false)) fun y1=>cnd (bor (ieq y0.snd 1) (ay y1)) (some (x0,1)) (cnd (ieq y0.snd 9) (some (x0,9)) (cnd (ay (ieq (wr .i64 (aj y0.fst.gen 1)) x1.gen)) (some (x0,8)) (af (qA x1.gen) fun y2=>af (gy x0 y2) fun y3=>cnd (ile 0 y3) (af (vW x0 y2 0) fun y4=>cnd (ay (ieq y4.snd 0)) (some y4) (af (nY x1) fun y5=>af (iE y4.fst y2 y5) fun y6=>cnd (ay (ieq y6.snd 0)) (some y6) (af (jf y6.fst y2) fun y7=>some y7))) (af (nY x1) fun y8=>af (iE x0 y2 y8) fun y9=>cnd (ay (ieq y9.snd 0)) (some y9) (af (jf y9.fst y2) fun y10=>some y10)))))
noncomputable def Nq:Cx:={ P:=PG,ety:=ety,fn:=look [(39,kJ),(106,oQ),(97,qp),(40,dF),(107,BD),(108,xE),(42,oG),(44,qc)],inl:=dR [],lp:=aS [] }
theorem U4 (x0:au) (x1:dw):bP Nq 46 [.val .disk,.val .slot] [.val .disk,.int .i64] (x0,x1)=l9 x0 x1:=by kernel_rfl
def zh:aO:=mkSpec [.val .disk,.val .slot] [.val .disk,.int .i64] false (fun x=>l9 x.1 x.2)
theorem XH:dI PG 46 zh:=
 have K:CxR Nq:=aP.cx (fun _=>rfl) (l:=[(39,kJ),(106,oQ),(97,qp),(40,dF),(107,BD),(108,xE),(42,oG),(44,qc)]) ⟨DF,KJ,MF,jX,Zv,VD,Jy,Md,trivial⟩
 aH K (aG (l:=[]) rfl trivial) (by kernel_rfl) (fun x y h=>(U4 x.1 x.2).trans h) rfl rfl
def Jt:LSh:=⟨76,[(0,.str)],[],[],[(4,.int .i64),(3,.int .i64),(2,.int .i64)],[],[]⟩
@[reducible] def JC:List fO:=[⟨.ret,[(2,.int .i64)],[],[]⟩,⟨.exit 0,[(3,.int .i64),(2,.int .i64)],[],[]⟩]
def mY (p0:(List UInt8)) (v0:Int) (v1:Int) (v2:Int):Option ((Int×Int×Int) ⊕ ((Int) ⊕ ((Int×Int)))):=cnd (ilt v0 15) (cnd (band (ile 0 v0) (ilt v0 (len p0))) (cnd (bor (band (ile 0 v0) (ilt v0 (len p0))) (ay (ay (ilt (Zt p0 (itn v0)) 48)))) (cnd (bor (ilt (Zt p0 (itn v0)) 48) (ilt 57 (Zt p0 (itn v0)))) (some (Sum.inr (Sum.inl 0))) (cnd (band (ile 0 v0) (ilt v0 (len p0))) (some (Sum.inl (wr .i64 (aj v0 1),wr .i64 (aj (wr .i64 (dX v1 10)) (wr .i64 (wr .u8 (aI (Zt p0 (itn v0)) 48)))),v2))) none)) none) none) (some (Sum.inr (Sum.inr (v1,v2))))
def Iq:dU:=Jt.spec JC [13,14,17,18,19,20,21,22,23,24,25,26,2,27,28,29,30,31,32,33,34,3,15,16,4] (fun p v=>mY p v.1 v.2.1 v.2.2)
def wz (x0:(List UInt8)):Option (Int):=cnd (bor (ile 5 (len x0)) (ay (ay (ay (ieq (len x0) 15))))) (cnd (bor (ay (ieq (len x0) 15)) (ay (seq (aA x0 5) [(UInt8.ofNat 115),(UInt8.ofNat 110),(UInt8.ofNat 97),(UInt8.ofNat 112),(UInt8.ofNat 46)]))) (some 0) (af (bD (fun v=>mY x0 v.fst v.snd.fst v.snd.snd) LF (5,0,0)) fun y0=>gY y0 (fun y1=>some y1) fun y1=>cnd (ilt 1000000000 y1.fst) (some 0) (some y1.fst))) none
noncomputable def Ht:Cx:={ P:=PG,ety:=ety,fn:=look [],inl:=dR [],lp:=aS [(20,122,Iq)] }
theorem Ru (p0:(List UInt8)) (v0:Int) (v1:Int) (v2:Int):fC Ht 900 20 122 (dK PG 20 122) Jt JC p0 (v0,v1,v2)=mY p0 v0 v1 v2:=by kernel_rfl
theorem Xv (x0:(List UInt8)):bP Ht 20 [.str] [.int .i64] x0=wz x0:=by kernel_rfl
def BF:aO:=mkSpec [.str] [.int .i64] true (fun x=>wz x)
theorem ZG:dI PG 20 BF:=
 have K:CxR Ht:=aP.cx (fun _=>rfl) (l:=[]) trivial
 aH K (aG (l:=[(20,122,Iq)]) rfl ⟨bF (n:=900) (f:=20) K (by kernel_rfl) (by kernel_rfl) (by kernel_rfl) (by kernel_rfl) (by kernel_rfl) (fun p v r h=>(Ru p v.1 v.2.1 v.2.2).trans h),trivial⟩) (by kernel_rfl) (fun x y h=>(Xv x).trans h) rfl rfl
def Dq:LSh:=⟨152,[(9,.int .i64)],[(4,.mp 32 0),(2,.mp 16 0)],[],[(10,.int .i64),(8,.int .i64),(6,.int .i64),(5,.int .i64)],[(32,[.val .disk]),(16,[.val .disk])],[]⟩
@[reducible] def Ef:List fO:=[⟨.ret,[(6,.int .i64),(5,.int .i64)],[(32,[.val .disk]),(16,[.val .disk])],[]⟩,⟨.exit 0,[(8,.int .i64),(6,.int .i64),(5,.int .i64)],[(32,[.val .disk]),(16,[.val .disk])],[]⟩]
def fP (p0:Int) (v0:Int) (v1:Int) (v2:Int) (v3:Int) (v4:au) (v5:au):Option ((Int×Int×Int×Int×au×au) ⊕ ((Int×Int×au×au) ⊕ ((Int×Int×Int×au×au)))):=cnd (ilt v0 (len v5.files)) (cnd (band (ile 0 v0) (ilt v0 (len v5.files))) (af (wz (ai v5.files (itn v0)).name) fun y0=>cnd (bor (ieq y0 0) (ieq y0 p0)) (some (Sum.inl (wr .i64 (aj v0 1),v1,v2,v3,v4,v5))) (cnd (band (ile 0 v0) (ilt v0 (len v5.files))) (af (nX v5 (ai v5.files (itn v0)).name) fun y1=>cnd (ay (ieq y1.snd 0)) (some (Sum.inr (Sum.inl (y1.snd,0,y1.fst,y1.fst)))) (some (Sum.inl (v0,y1.snd,v2,v3,v4,y1.fst)))) none)) none) (some (Sum.inr (Sum.inr (v1,v2,v3,v4,v5))))
def CS:dU:=Dq.spec Ef [91,92,93,94,95,96,97,98,99,100,101,102,11,103,104,105,106,107,108,109,110,111,10,113,114,115,116,117,118,119,120,112,121,122,8,123,124,125,126,5,6] (fun p v=>fP p v.1 v.2.1 v.2.2.1 v.2.2.2.1 v.2.2.2.2.1 v.2.2.2.2.2)
def uD (x0:au) (x1:ax):Option (au×Int×Int):=af (mr x0) fun y0=>af (cnd (ay (ay y0)) (pG x1) (some false)) fun y1=>cnd (bor (ay y0) (ay y1)) (some (x0,0,1)) (cnd x0.down (some (x0,0,9)) (af (nM x0) fun y2=>cnd (ilt 1000000000 (wr .i64 (aj y2.fst.gen 1))) (some (x0,0,3)) (af (gy x0 [(UInt8.ofNat 116),(UInt8.ofNat 109),(UInt8.ofNat 112)]) fun y3=>cnd (ile 0 y3) (af (nX x0 [(UInt8.ofNat 116),(UInt8.ofNat 109),(UInt8.ofNat 112)]) fun y4=>cnd (ay (ieq y4.snd 0)) (some (y4.fst,0,y4.snd)) (af (nV x1) fun y5=>af (iE y4.fst [(UInt8.ofNat 116),(UInt8.ofNat 109),(UInt8.ofNat 112)] y5) fun y6=>cnd (ay (ieq y6.snd 0)) (some (y6.fst,0,y6.snd)) (af (jf y6.fst [(UInt8.ofNat 116),(UInt8.ofNat 109),(UInt8.ofNat 112)]) fun y7=>cnd (ay (ieq y7.snd 0)) (some (y7.fst,0,y7.snd)) (af (je (wr .i64 (aj y2.fst.gen 1))) fun y8=>af (lg y7.fst [(UInt8.ofNat 116),(UInt8.ofNat 109),(UInt8.ofNat 112)] y8) fun y9=>cnd (ay (ieq y9.snd 0)) (some (y9.fst,0,y9.snd)) (af (l9 y9.fst (dw.mk (wr .i64 (aj y2.fst.gen 1)) x1.lsn)) fun y10=>cnd (ay (ieq y10.snd 0)) (some (y10.fst,0,y10.snd)) (af (bD (fun v=>fP (wr .i64 (aj y2.fst.gen 1)) v.fst v.snd.fst v.snd.snd.fst v.snd.snd.snd.fst v.snd.snd.snd.snd.fst v.snd.snd.snd.snd.snd) LF (0,y10.snd,0,0,au.mk [] 0 0 false,y10.fst)) fun y11=>gY y11 (fun y12=>some (y12.snd.snd.fst,y12.snd.fst,y12.fst)) fun y12=>some (y12.snd.snd.snd.snd,wr .i64 (aj y2.fst.gen 1),0))))))) (af (nV x1) fun y13=>af (iE x0 [(UInt8.ofNat 116),(UInt8.ofNat 109),(UInt8.ofNat 112)] y13) fun y14=>cnd (ay (ieq y14.snd 0)) (some (y14.fst,0,y14.snd)) (af (jf y14.fst [(UInt8.ofNat 116),(UInt8.ofNat 109),(UInt8.ofNat 112)]) fun y15=>cnd (ay (ieq y15.snd 0)) (some (y15.fst,0,y15.snd)) (af (je (wr .i64 (aj y2.fst.gen 1))) fun y16=>af (lg y15.fst [(UInt8.ofNat 116),(UInt8.ofNat 109),(UInt8.ofNat 112)] y16) fun y17=>cnd (ay (ieq y17.snd 0)) (some (y17.fst,0,y17.snd)) (af (l9 y17.fst (dw.mk (wr .i64 (aj y2.fst.gen 1)) x1.lsn)) fun y18=>cnd (ay (ieq y18.snd 0)) (some (y18.fst,0,y18.snd)) (af (bD (fun v=>fP (wr .i64 (aj y2.fst.gen 1)) v.fst v.snd.fst v.snd.snd.fst v.snd.snd.snd.fst v.snd.snd.snd.snd.fst v.snd.snd.snd.snd.snd) LF (0,y18.snd,0,0,au.mk [] 0 0 false,y18.fst)) fun y19=>gY y19 (fun y20=>some (y20.snd.snd.fst,y20.snd.fst,y20.fst)) fun y20=>some (y20.snd.snd.snd.snd,wr .i64 (aj y2.fst.gen 1),0)))))))))
noncomputable def Fp:Cx:={ P:=PG,ety:=ety,fn:=look [(37,jT),(38,o7),(39,kJ),(40,dF),(41,xK),(43,xM),(42,oG),(44,qc),(15,kK),(45,xH),(46,zh),(20,BF)],inl:=dR [],lp:=aS [(11,524282,CS)] }
theorem MS (p0:Int) (v0:Int) (v1:Int) (v2:Int) (v3:Int) (v4:au) (v5:au):fC Fp 900 11 524282 (dK PG 11 524282) Dq Ef p0 (v0,v1,v2,v3,v4,v5)=fP p0 v0 v1 v2 v3 v4 v5:=by kernel_rfl
theorem Vy (x0:au) (x1:ax):bP Fp 11 [.val .disk,.val .state] [.val .disk,.int .i64,.int .i64] (x0,x1)=uD x0 x1:=by kernel_rfl
def zQ:aO:=mkSpec [.val .disk,.val .state] [.val .disk,.int .i64,.int .i64] false (fun x=>uD x.1 x.2)
theorem XY:dI PG 11 zQ:=
 have K:CxR Fp:=aP.cx (fun _=>rfl) (l:=[(37,jT),(38,o7),(39,kJ),(40,dF),(41,xK),(43,xM),(42,oG),(44,qc),(15,kK),(45,xH),(46,zh),(20,BF)]) ⟨BP,KE,DF,jX,Vj,Wj,Jy,Md,DY,V3,XH,ZG,trivial⟩
 aH K (aG (l:=[(11,524282,CS)]) rfl ⟨bF (n:=900) (f:=11) K (by kernel_rfl) (by kernel_rfl) (by kernel_rfl) (by kernel_rfl) (by kernel_rfl) (fun p v r h=>(MS p v.1 v.2.1 v.2.2.1 v.2.2.2.1 v.2.2.2.2.1 v.2.2.2.2.2).trans h),trivial⟩) (by kernel_rfl) (fun x y h=>(Vy x.1 x.2).trans h) rfl rfl
def JI:LSh:=⟨98,[],[(3,.mp 24 0),(2,.mp 16 0)],[(24,[.val .disk]),(16,[.val .disk])],[(5,.int .i64),(4,.bool)],[],[]⟩
@[reducible] def JF:List fO:=[⟨.ret,[(4,.bool)],[],[]⟩,⟨.exit 0,[(4,.bool)],[],[]⟩]
def mZ (p0:au) (p1:au) (v0:Int) (v1:Bool):Option ((Int×Bool) ⊕ ((Bool) ⊕ ((Bool)))):=cnd (ilt v0 (len p1.files)) (cnd (band (ile 0 v0) (ilt v0 (len p1.files))) (cnd (band (ile 0 v0) (ilt v0 (len p0.files))) (cnd (bor (bor (ay (seq (ai p1.files (itn v0)).name (ai p0.files (itn v0)).name)) (ay (ieq (ai p1.files (itn v0)).sure (ai p0.files (itn v0)).sure))) (ay (seq (u2s (ai p1.files (itn v0)).data) (u2s (ai p0.files (itn v0)).data)))) (some (Sum.inr (Sum.inl false))) (some (Sum.inl (wr .i64 (aj v0 1),v1)))) none) none) (some (Sum.inr (Sum.inr v1)))
def IK:dU:=JI.spec JF [36,37,38,39,40,43,44,45,46,47,48,49,50,51,52,6,7,53,54,55,56,57,58,59,60,61,62,63,64,65,66,67,68,69,70,71,72,73,4,41,42,5] (fun p v=>mZ p.1 p.2 v.1 v.2)
def uo (x0:au) (x1:au):Option (Bool):=cnd (bor (bor (bor (ay (ieq (len x0.files) (len x1.files))) (ay (ieq x0.room x1.room))) (ay (ieq x0.fuse x1.fuse))) (ay (beq x0.down x1.down))) (some false) (af (bD (fun v=>mZ x1 x0 v.fst v.snd) LF (0,false)) fun y0=>gY y0 (fun y1=>some y1) fun y1=>some true)
noncomputable def Fb:Cx:={ P:=PG,ety:=ety,fn:=look [],inl:=dR [],lp:=aS [(12,58,IK)] }
theorem Rq (p0:au) (p1:au) (v0:Int) (v1:Bool):fC Fb 900 12 58 (dK PG 12 58) JI JF (p0,p1) (v0,v1)=mZ p0 p1 v0 v1:=by kernel_rfl
theorem Wn (x0:au) (x1:au):bP Fb 12 [.val .disk,.val .disk] [.bool] (x0,x1)=uo x0 x1:=by kernel_rfl
def zM:aO:=mkSpec [.val .disk,.val .disk] [.bool] true (fun x=>uo x.1 x.2)
theorem XV:dI PG 12 zM:=
 have K:CxR Fb:=aP.cx (fun _=>rfl) (l:=[]) trivial
 aH K (aG (l:=[(12,58,IK)]) rfl ⟨bF (n:=900) (f:=12) K (by kernel_rfl) (by kernel_rfl) (by kernel_rfl) (by kernel_rfl) (by kernel_rfl) (fun p v r h=>(Rq p.1 p.2 v.1 v.2).trans h),trivial⟩) (by kernel_rfl) (fun x y h=>(Wn x.1 x.2).trans h) rfl rfl
def KA:LSh:=⟨68,[(0,.ro .u8)],[],[],[(4,.int .i64),(3,.int .u64)],[],[]⟩
@[reducible] def KH:List fO:=[⟨.exit 0,[(3,.int .u64)],[],[]⟩]
def qV (p0:(List Int)) (v0:Int) (v1:Int):Option ((Int×Int) ⊕ ((Int))):=cnd (ilt v0 (len p0)) (cnd (band (ile 0 v0) (ilt v0 (len p0))) (some (Sum.inl (wr .i64 (aj v0 1),wr .u64 (aj (wr .u64 (dX v1 256)) (wr .u64 (ai p0 (itn v0))))))) none) (some (Sum.inr v1))
def Jk:dU:=KA.spec KH [5,6,7,8,11,12,13,14,15,16,17,18,3,9,10,4] (fun p v=>qV p v.1 v.2)
def dG (x0:(List Int)):Option (Int):=af (bD (fun v=>qV x0 v.fst v.snd) LF (0,0)) fun y0=>some (wr .i64 y0)
noncomputable def Hq:Cx:={ P:=PG,ety:=ety,fn:=look [],inl:=dR [],lp:=aS [(112,58,Jk)] }
theorem TP (p0:(List Int)) (v0:Int) (v1:Int):fC Hq 900 112 58 (dK PG 112 58) KA KH p0 (v0,v1)=qV p0 v0 v1:=by kernel_rfl
theorem XL (x0:(List Int)):bP Hq 112 [.ro .u8] [.int .i64] x0=dG x0:=by kernel_rfl
def BJ:aO:=mkSpec [.ro .u8] [.int .i64] true (fun x=>dG x)
theorem ZH:dI PG 112 BJ:=
 have K:CxR Hq:=aP.cx (fun _=>rfl) (l:=[]) trivial
 aH K (aG (l:=[(112,58,Jk)]) rfl ⟨bF (n:=900) (f:=112) K (by kernel_rfl) (by kernel_rfl) (by kernel_rfl) (by kernel_rfl) (by kernel_rfl) (fun p v r h=>(TP p v.1 v.2).trans h),trivial⟩) (by kernel_rfl) (fun x y h=>(XL x).trans h) rfl rfl
def DC:LSh:=⟨163,[(0,.ro .u8)],[(2,.mp 8 0)],[],[(8,.int .i64),(7,.int .u32),(3,.int .i64)],[(8,[.val .state])],[]⟩
@[reducible] def DJ:List fO:=[⟨.ret,[(3,.int .i64)],[(8,[.val .state])],[]⟩,⟨.exit 0,[(3,.int .i64)],[(8,[.val .state])],[]⟩]
def jS (p0:(List Int)) (v0:Int) (v1:Int) (v2:Int) (v3:ax):Option ((Int×Int×Int×ax) ⊕ ((Int×ax) ⊕ ((Int×ax)))):=cnd (ilt v0 4) (cnd (band (ile 0 (wr .i64 (aj (wr .i64 (aI (len p0) 4)) v0))) (ilt (wr .i64 (aj (wr .i64 (aI (len p0) 4)) v0)) (len p0))) (cnd (ay (ieq (ai p0 (itn (wr .i64 (aj (wr .i64 (aI (len p0) 4)) v0)))) (wr .u8 (wo v1 256)))) (some (Sum.inr (Sum.inl (10,ax.mk 0 0 [] [] [] [] false 0 0 0)))) (some (Sum.inl (wr .i64 (aj v0 1),wr .u32 (J4 v1 256),v2,v3)))) none) (some (Sum.inr (Sum.inr (v2,v3))))
def CW:dU:=DC.spec DJ [112,113,116,117,118,119,120,121,122,123,124,125,126,127,128,3,129,130,7,114,115,8] (fun p v=>jS p v.1 v.2.1 v.2.2.1 v.2.2.2)
def AP:LSh:=⟨250,[(5,.int .i64),(0,.ro .u8)],[(4,.mp 344 0)],[],[(10,.int .i64),(9,.int .i64)],[(344,[.int .i64,.int .i64,.buf .order,.buf .cell,.buf .expo,.buf .i64,.bool,.int .i64,.int .i64,.int .i64])],[]⟩
@[reducible] def A8:List fO:=[⟨.exit 2,[(9,.int .i64)],[(344,[.int .i64,.int .i64,.buf .order,.buf .cell,.buf .expo,.buf .i64,.bool,.int .i64,.int .i64,.int .i64])],[]⟩]
def jm (p0:Int) (p1:(List Int)) (v0:Int) (v1:Int) (v2:Int) (v3:Int) (v4:(List aJ)) (v5:(List aK)) (v6:(List dL)) (v7:(List Int)) (v8:Bool) (v9:Int) (v10:Int) (v11:Int):Option ((Int×Int×Int×Int×(List aJ)×(List aK)×(List dL)×(List Int)×Bool×Int×Int×Int) ⊕ ((Int×Int×Int×(List aJ)×(List aK)×(List dL)×(List Int)×Bool×Int×Int×Int))):=cnd (ilt v0 p0) (cnd (band (band (ile 0 v1) (ile v1 (wr .i64 (aj v1 8)))) (ile (wr .i64 (aj v1 8)) (len p1))) (af (dG (aA (aN p1 (itn v1)) (itn (aI (wr .i64 (aj v1 8)) v1)))) fun y0=>cnd (band (ile 0 (wr .i64 (aj v1 8))) (ilt (wr .i64 (aj v1 8)) (len p1))) (cnd (band (ile 0 (wr .i64 (aj v1 9))) (ilt (wr .i64 (aj v1 9)) (len p1))) (cnd (band (ile 0 (wr .i64 (aj v1 10))) (ilt (wr .i64 (aj v1 10)) (len p1))) (cnd (band (ile 0 (wr .i64 (aj v1 11))) (ilt (wr .i64 (aj v1 11)) (len p1))) (cnd (band (band (ile 0 (wr .i64 (aj v1 12))) (ile (wr .i64 (aj v1 12)) (wr .i64 (aj v1 20)))) (ile (wr .i64 (aj v1 20)) (len p1))) (af (dG (aA (aN p1 (itn (wr .i64 (aj v1 12)))) (itn (aI (wr .i64 (aj v1 20)) (wr .i64 (aj v1 12)))))) fun y1=>cnd (band (band (ile 0 (wr .i64 (aj v1 20))) (ile (wr .i64 (aj v1 20)) (wr .i64 (aj v1 28)))) (ile (wr .i64 (aj v1 28)) (len p1))) (af (dG (aA (aN p1 (itn (wr .i64 (aj v1 20)))) (itn (aI (wr .i64 (aj v1 28)) (wr .i64 (aj v1 20)))))) fun y2=>cnd (band (band (ile 0 (wr .i64 (aj v1 28))) (ile (wr .i64 (aj v1 28)) (wr .i64 (aj v1 36)))) (ile (wr .i64 (aj v1 36)) (len p1))) (af (dG (aA (aN p1 (itn (wr .i64 (aj v1 28)))) (itn (aI (wr .i64 (aj v1 36)) (wr .i64 (aj v1 28)))))) fun y3=>cnd (band (band (ile 0 (wr .i64 (aj v1 36))) (ile (wr .i64 (aj v1 36)) (wr .i64 (aj v1 44)))) (ile (wr .i64 (aj v1 44)) (len p1))) (af (dG (aA (aN p1 (itn (wr .i64 (aj v1 36)))) (itn (aI (wr .i64 (aj v1 44)) (wr .i64 (aj v1 36)))))) fun y4=>cnd (band (band (ile 0 (wr .i64 (aj v1 44))) (ile (wr .i64 (aj v1 44)) (wr .i64 (aj v1 52)))) (ile (wr .i64 (aj v1 52)) (len p1))) (af (dG (aA (aN p1 (itn (wr .i64 (aj v1 44)))) (itn (aI (wr .i64 (aj v1 52)) (wr .i64 (aj v1 44)))))) fun y5=>cnd (band (band (ile 0 (wr .i64 (aj v1 52))) (ile (wr .i64 (aj v1 52)) (wr .i64 (aj v1 60)))) (ile (wr .i64 (aj v1 60)) (len p1))) (af (dG (aA (aN p1 (itn (wr .i64 (aj v1 52)))) (itn (aI (wr .i64 (aj v1 60)) (wr .i64 (aj v1 52)))))) fun y6=>cnd (band (ile 0 (wr .i64 (aj v1 60))) (ilt (wr .i64 (aj v1 60)) (len p1))) (cnd (ile (len (dB v4 [aJ.mk y0 (wr .i64 (ai p1 (itn (wr .i64 (aj v1 8))))) (wr .i64 (ai p1 (itn (wr .i64 (aj v1 9))))) (wr .i64 (ai p1 (itn (wr .i64 (aj v1 10))))) y1 y2 y3 (wr .i64 (ai p1 (itn (wr .i64 (aj v1 11))))) y4 y5 y6 (ieq (ai p1 (itn (wr .i64 (aj v1 60)))) 1)])) 68719476736) (some (Sum.inl (wr .i64 (aj v0 1),wr .i64 (aj v1 61),v2,v3,dB v4 [aJ.mk y0 (wr .i64 (ai p1 (itn (wr .i64 (aj v1 8))))) (wr .i64 (ai p1 (itn (wr .i64 (aj v1 9))))) (wr .i64 (ai p1 (itn (wr .i64 (aj v1 10))))) y1 y2 y3 (wr .i64 (ai p1 (itn (wr .i64 (aj v1 11))))) y4 y5 y6 (ieq (ai p1 (itn (wr .i64 (aj v1 60)))) 1)],v5,v6,v7,v8,v9,v10,v11))) none) none) none) none) none) none) none) none) none) none) none) none) none) (some (Sum.inr (v1,v2,v3,v4,v5,v6,v7,v8,v9,v10,v11)))
def zq:dU:=AP.spec A8 [143,144,145,148,149,150,151,152,153,154,155,156,157,158,159,160,161,162,163,164,165,166,167,168,169,170,171,172,173,174,175,176,177,178,11,179,180,181,182,183,184,185,186,187,188,189,190,191,192,193,194,195,196,197,198,199,200,201,202,203,204,205,206,207,208,209,210,211,212,213,214,215,216,217,218,219,220,221,222,223,224,225,226,227,228,229,230,231,232,233,234,235,236,237,238,239,240,241,9,146,147,10] (fun p v=>jm p.1 p.2 v.1 v.2.1 v.2.2.1 v.2.2.2.1 v.2.2.2.2.1 v.2.2.2.2.2.1 v.2.2.2.2.2.2.1 v.2.2.2.2.2.2.2.1 v.2.2.2.2.2.2.2.2.1 v.2.2.2.2.2.2.2.2.2.1 v.2.2.2.2.2.2.2.2.2.2.1 v.2.2.2.2.2.2.2.2.2.2.2)
def Ba:LSh:=⟨338,[(6,.int .i64),(0,.ro .u8)],[(4,.mp 344 0)],[],[(12,.int .i64),(9,.int .i64)],[(344,[.int .i64,.int .i64,.buf .order,.buf .cell,.buf .expo,.buf .i64,.bool,.int .i64,.int .i64,.int .i64])],[]⟩
@[reducible] def AB:List fO:=[⟨.exit 4,[(9,.int .i64)],[(344,[.int .i64,.int .i64,.buf .order,.buf .cell,.buf .expo,.buf .i64,.bool,.int .i64,.int .i64,.int .i64])],[]⟩]
def jo (p0:Int) (p1:(List Int)) (v0:Int) (v1:Int) (v2:Int) (v3:Int) (v4:(List aJ)) (v5:(List aK)) (v6:(List dL)) (v7:(List Int)) (v8:Bool) (v9:Int) (v10:Int) (v11:Int):Option ((Int×Int×Int×Int×(List aJ)×(List aK)×(List dL)×(List Int)×Bool×Int×Int×Int) ⊕ ((Int×Int×Int×(List aJ)×(List aK)×(List dL)×(List Int)×Bool×Int×Int×Int))):=cnd (ilt v0 p0) (cnd (band (band (ile 0 v1) (ile v1 (wr .i64 (aj v1 8)))) (ile (wr .i64 (aj v1 8)) (len p1))) (af (dG (aA (aN p1 (itn v1)) (itn (aI (wr .i64 (aj v1 8)) v1)))) fun y0=>cnd (ile (len (dB v5 [aK.mk y0 0 0 0])) 68719476736) (some (Sum.inl (wr .i64 (aj v0 1),wr .i64 (aj v1 8),v2,v3,v4,dB v5 [aK.mk y0 0 0 0],v6,v7,v8,v9,v10,v11))) none) none) (some (Sum.inr (v1,v2,v3,v4,v5,v6,v7,v8,v9,v10,v11)))
def zl:dU:=Ba.spec AB [242,243,244,247,248,249,250,251,252,253,254,255,256,257,258,259,260,9,245,246,12] (fun p v=>jo p.1 p.2 v.1 v.2.1 v.2.2.1 v.2.2.2.1 v.2.2.2.2.1 v.2.2.2.2.2.1 v.2.2.2.2.2.2.1 v.2.2.2.2.2.2.2.1 v.2.2.2.2.2.2.2.2.1 v.2.2.2.2.2.2.2.2.2.1 v.2.2.2.2.2.2.2.2.2.2.1 v.2.2.2.2.2.2.2.2.2.2.2)
def Bg:LSh:=⟨426,[(6,.int .i64),(0,.ro .u8)],[(4,.mp 344 0)],[],[(13,.int .i64),(9,.int .i64)],[(344,[.int .i64,.int .i64,.buf .order,.buf .cell,.buf .expo,.buf .i64,.bool,.int .i64,.int .i64,.int .i64])],[]⟩
@[reducible] def Az:List fO:=[⟨.exit 6,[(9,.int .i64)],[(344,[.int .i64,.int .i64,.buf .order,.buf .cell,.buf .expo,.buf .i64,.bool,.int .i64,.int .i64,.int .i64])],[]⟩]
def jq (p0:Int) (p1:(List Int)) (v0:Int) (v1:Int) (v2:Int) (v3:Int) (v4:(List aJ)) (v5:(List aK)) (v6:(List dL)) (v7:(List Int)) (v8:Bool) (v9:Int) (v10:Int) (v11:Int):Option ((Int×Int×Int×Int×(List aJ)×(List aK)×(List dL)×(List Int)×Bool×Int×Int×Int) ⊕ ((Int×Int×Int×(List aJ)×(List aK)×(List dL)×(List Int)×Bool×Int×Int×Int))):=cnd (ilt v0 p0) (cnd (band (band (ile 0 v1) (ile v1 (wr .i64 (aj v1 8)))) (ile (wr .i64 (aj v1 8)) (len p1))) (af (dG (aA (aN p1 (itn v1)) (itn (aI (wr .i64 (aj v1 8)) v1)))) fun y0=>cnd (band (band (ile 0 (wr .i64 (aj v1 8))) (ile (wr .i64 (aj v1 8)) (wr .i64 (aj v1 16)))) (ile (wr .i64 (aj v1 16)) (len p1))) (af (dG (aA (aN p1 (itn (wr .i64 (aj v1 8)))) (itn (aI (wr .i64 (aj v1 16)) (wr .i64 (aj v1 8)))))) fun y1=>cnd (band (band (ile 0 (wr .i64 (aj v1 16))) (ile (wr .i64 (aj v1 16)) (wr .i64 (aj v1 24)))) (ile (wr .i64 (aj v1 24)) (len p1))) (af (dG (aA (aN p1 (itn (wr .i64 (aj v1 16)))) (itn (aI (wr .i64 (aj v1 24)) (wr .i64 (aj v1 16)))))) fun y2=>cnd (ile (len (dB v6 [dL.mk y0 y1 y2])) 68719476736) (some (Sum.inl (wr .i64 (aj v0 1),wr .i64 (aj v1 24),v2,v3,v4,v5,dB v6 [dL.mk y0 y1 y2],v7,v8,v9,v10,v11))) none) none) none) none) (some (Sum.inr (v1,v2,v3,v4,v5,v6,v7,v8,v9,v10,v11)))
def zA:dU:=Bg.spec Az [261,262,263,266,267,268,269,270,271,272,273,274,275,276,277,278,279,280,281,282,283,284,285,286,287,288,289,290,291,292,293,9,264,265,13] (fun p v=>jq p.1 p.2 v.1 v.2.1 v.2.2.1 v.2.2.2.1 v.2.2.2.2.1 v.2.2.2.2.2.1 v.2.2.2.2.2.2.1 v.2.2.2.2.2.2.2.1 v.2.2.2.2.2.2.2.2.1 v.2.2.2.2.2.2.2.2.2.1 v.2.2.2.2.2.2.2.2.2.2.1 v.2.2.2.2.2.2.2.2.2.2.2)
def zx:LSh:=⟨514,[(0,.ro .u8)],[(4,.mp 344 0)],[],[(14,.int .i64),(9,.int .i64)],[(344,[.int .i64,.int .i64,.buf .order,.buf .cell,.buf .expo,.buf .i64,.bool,.int .i64,.int .i64,.int .i64])],[]⟩
@[reducible] def zo:List fO:=[⟨.exit 8,[(9,.int .i64)],[(344,[.int .i64,.int .i64,.buf .order,.buf .cell,.buf .expo,.buf .i64,.bool,.int .i64,.int .i64,.int .i64])],[]⟩]
def jd (p0:(List Int)) (v0:Int) (v1:Int) (v2:Int) (v3:Int) (v4:(List aJ)) (v5:(List aK)) (v6:(List dL)) (v7:(List Int)) (v8:Bool) (v9:Int) (v10:Int) (v11:Int):Option ((Int×Int×Int×Int×(List aJ)×(List aK)×(List dL)×(List Int)×Bool×Int×Int×Int) ⊕ ((Int×Int×Int×(List aJ)×(List aK)×(List dL)×(List Int)×Bool×Int×Int×Int))):=cnd (ilt v0 v2) (cnd (band (band (ile 0 v1) (ile v1 (wr .i64 (aj v1 8)))) (ile (wr .i64 (aj v1 8)) (len p0))) (af (dG (aA (aN p0 (itn v1)) (itn (aI (wr .i64 (aj v1 8)) v1)))) fun y0=>cnd (ile (len (dB v7 [y0])) 68719476736) (some (Sum.inl (wr .i64 (aj v0 1),wr .i64 (aj v1 8),v2,v3,v4,v5,v6,dB v7 [y0],v8,v9,v10,v11))) none) none) (some (Sum.inr (v1,v2,v3,v4,v5,v6,v7,v8,v9,v10,v11)))
def yI:dU:=zx.spec zo [294,295,296,297,300,301,302,303,304,305,306,307,308,309,310,311,312,9,298,299,14] (fun p v=>jd p v.1 v.2.1 v.2.2.1 v.2.2.2.1 v.2.2.2.2.1 v.2.2.2.2.2.1 v.2.2.2.2.2.2.1 v.2.2.2.2.2.2.2.1 v.2.2.2.2.2.2.2.2.1 v.2.2.2.2.2.2.2.2.2.1 v.2.2.2.2.2.2.2.2.2.2.1 v.2.2.2.2.2.2.2.2.2.2.2)
def zH:LSh:=⟨602,[(5,.int .i64),(0,.ro .u8)],[(4,.mp 344 0),(2,.mp 8 0)],[(344,[.int .i64,.int .i64,.ro .order,.ro .cell,.ro .expo,.ro .i64,.bool,.int .i64,.int .i64,.int .i64])],[(15,.int .i64),(3,.int .i64)],[(8,[.val .state])],[]⟩
@[reducible] def zF:List fO:=[⟨.ret,[(3,.int .i64)],[(8,[.val .state])],[]⟩,⟨.exit 10,[(3,.int .i64)],[(8,[.val .state])],[]⟩]
def jb (p0:Int) (p1:(List Int)) (p2:Int) (p3:Int) (p4:(List aJ)) (p5:(List aK)) (p6:(List dL)) (p7:(List Int)) (p8:Bool) (p9:Int) (p10:Int) (p11:Int) (v0:Int) (v1:Int) (v2:ax):Option ((Int×Int×ax) ⊕ ((Int×ax) ⊕ ((Int×ax)))):=cnd (ilt v0 p0) (cnd (band (ile 0 v0) (ilt v0 (len p4))) (cnd (bor (band (ile 0 (wr .i64 (aj (wr .i64 (aj 32 (wr .i64 (dX 61 v0)))) 60))) (ilt (wr .i64 (aj (wr .i64 (aj 32 (wr .i64 (dX 61 v0)))) 60)) (len p1))) (ay (ay (bor (ile p2 (ai p4 (itn v0)).account) (ile p3 (ai p4 (itn v0)).symbol))))) (cnd (bor (bor (ile p2 (ai p4 (itn v0)).account) (ile p3 (ai p4 (itn v0)).symbol)) (ilt 1 (ai p1 (itn (wr .i64 (aj (wr .i64 (aj 32 (wr .i64 (dX 61 v0)))) 60)))))) (some (Sum.inr (Sum.inl (2,ax.mk 0 0 [] [] [] [] false 0 0 0)))) (some (Sum.inl (wr .i64 (aj v0 1),v1,v2)))) none) none) (some (Sum.inr (Sum.inr (v1,v2))))
def yJ:dU:=zH.spec zF [313,314,315,318,319,320,321,322,16,323,324,325,326,327,328,329,330,331,332,333,334,335,336,337,338,339,340,341,342,343,344,345,3,316,317,15] (fun p v=>jb p.1 p.2.1 p.2.2.1 p.2.2.2.1 p.2.2.2.2.1 p.2.2.2.2.2.1 p.2.2.2.2.2.2.1 p.2.2.2.2.2.2.2.1 p.2.2.2.2.2.2.2.2.1 p.2.2.2.2.2.2.2.2.2.1 p.2.2.2.2.2.2.2.2.2.2.1 p.2.2.2.2.2.2.2.2.2.2.2 v.1 v.2.1 v.2.2)
def nT (x0:(List Int)):Option (ax×Int):=cnd (bor (ilt 0 (len x0)) (ay (ay (ilt (len x0) 36)))) (cnd (bor (ilt 1 (len x0)) (ay (ay (bor (ilt (len x0) 36) (ay (ieq (ai x0 0) 115)))))) (cnd (bor (ilt 2 (len x0)) (ay (ay (bor (bor (ilt (len x0) 36) (ay (ieq (ai x0 0) 115))) (ay (ieq (ai x0 1) 110)))))) (cnd (bor (ilt 3 (len x0)) (ay (ay (bor (bor (bor (ilt (len x0) 36) (ay (ieq (ai x0 0) 115))) (ay (ieq (ai x0 1) 110))) (ay (ieq (ai x0 2) 97)))))) (cnd (bor (bor (bor (bor (ilt (len x0) 36) (ay (ieq (ai x0 0) 115))) (ay (ieq (ai x0 1) 110))) (ay (ieq (ai x0 2) 97))) (ay (ieq (ai x0 3) 102))) (some (ax.mk 0 0 [] [] [] [] false 0 0 0,2)) (cnd (ilt 4 (len x0)) (cnd (ilt 5 (len x0)) (cnd (ilt 6 (len x0)) (cnd (ilt 7 (len x0)) (cnd (bor (bor (bor (bor (ilt (wr .i64 (ai x0 4)) 1) (ilt 8 (wr .i64 (ai x0 4)))) (ilt (wr .i64 (ai x0 5)) 1)) (ilt 8 (wr .i64 (ai x0 5)))) (ilt 64 (wr .i64 (ai x0 7)))) (some (ax.mk 0 0 [] [] [] [] false 0 0 0,2)) (cnd (ay (ieq (len x0) (wr .i64 (aj (wr .i64 (aj (wr .i64 (aj 36 (wr .i64 (dX 61 (wr .i64 (ai x0 7)))))) (wr .i64 (dX 32 (wr .i64 (dX (wr .i64 (ai x0 4)) (wr .i64 (ai x0 5)))))))) (wr .i64 (dX 8 (wr .i64 (ai x0 4)))))))) (some (ax.mk 0 0 [] [] [] [] false 0 0 0,2)) (cnd (band (ile 0 (wr .i64 (aI (len x0) 4))) (ile (wr .i64 (aI (len x0) 4)) (len x0))) (af (lU (aA x0 (itn (wr .i64 (aI (len x0) 4))))) fun y0=>af (bD (fun v=>jS x0 v.fst v.snd.fst v.snd.snd.fst v.snd.snd.snd) LF (0,y0,0,ax.mk 0 0 [] [] [] [] false 0 0 0)) fun y1=>gY y1 (fun y2=>some (y2.snd,y2.fst)) fun y2=>cnd (ile 16 (len x0)) (af (dG (aA (aN x0 8) 8)) fun y3=>cnd (ile 24 (len x0)) (af (dG (aA (aN x0 16) 8)) fun y4=>cnd (ile 32 (len x0)) (af (dG (aA (aN x0 24) 8)) fun y5=>af (bD (fun v=>jm (wr .i64 (ai x0 7)) x0 v.fst v.snd.fst v.snd.snd.fst v.snd.snd.snd.fst v.snd.snd.snd.snd.fst v.snd.snd.snd.snd.snd.fst v.snd.snd.snd.snd.snd.snd.fst v.snd.snd.snd.snd.snd.snd.snd.fst v.snd.snd.snd.snd.snd.snd.snd.snd.fst v.snd.snd.snd.snd.snd.snd.snd.snd.snd.fst v.snd.snd.snd.snd.snd.snd.snd.snd.snd.snd.fst v.snd.snd.snd.snd.snd.snd.snd.snd.snd.snd.snd) LF (0,32,wr .i64 (ai x0 4),wr .i64 (ai x0 5),[],[],[],[],ieq (ai x0 6) 1,y3,y4,y5)) fun y6=>af (bD (fun v=>jo (wr .i64 (dX (wr .i64 (ai x0 4)) (wr .i64 (ai x0 5)))) x0 v.fst v.snd.fst v.snd.snd.fst v.snd.snd.snd.fst v.snd.snd.snd.snd.fst v.snd.snd.snd.snd.snd.fst v.snd.snd.snd.snd.snd.snd.fst v.snd.snd.snd.snd.snd.snd.snd.fst v.snd.snd.snd.snd.snd.snd.snd.snd.fst v.snd.snd.snd.snd.snd.snd.snd.snd.snd.fst v.snd.snd.snd.snd.snd.snd.snd.snd.snd.snd.fst v.snd.snd.snd.snd.snd.snd.snd.snd.snd.snd.snd) LF (0,y6)) fun y7=>af (bD (fun v=>jq (wr .i64 (dX (wr .i64 (ai x0 4)) (wr .i64 (ai x0 5)))) x0 v.fst v.snd.fst v.snd.snd.fst v.snd.snd.snd.fst v.snd.snd.snd.snd.fst v.snd.snd.snd.snd.snd.fst v.snd.snd.snd.snd.snd.snd.fst v.snd.snd.snd.snd.snd.snd.snd.fst v.snd.snd.snd.snd.snd.snd.snd.snd.fst v.snd.snd.snd.snd.snd.snd.snd.snd.snd.fst v.snd.snd.snd.snd.snd.snd.snd.snd.snd.snd.fst v.snd.snd.snd.snd.snd.snd.snd.snd.snd.snd.snd) LF (0,y7)) fun y8=>af (bD (fun v=>jd x0 v.fst v.snd.fst v.snd.snd.fst v.snd.snd.snd.fst v.snd.snd.snd.snd.fst v.snd.snd.snd.snd.snd.fst v.snd.snd.snd.snd.snd.snd.fst v.snd.snd.snd.snd.snd.snd.snd.fst v.snd.snd.snd.snd.snd.snd.snd.snd.fst v.snd.snd.snd.snd.snd.snd.snd.snd.snd.fst v.snd.snd.snd.snd.snd.snd.snd.snd.snd.snd.fst v.snd.snd.snd.snd.snd.snd.snd.snd.snd.snd.snd) LF (0,y8)) fun y9=>af (bD (fun v=>jb (wr .i64 (ai x0 7)) x0 y9.snd.fst y9.snd.snd.fst y9.snd.snd.snd.fst y9.snd.snd.snd.snd.fst y9.snd.snd.snd.snd.snd.fst y9.snd.snd.snd.snd.snd.snd.fst y9.snd.snd.snd.snd.snd.snd.snd.fst y9.snd.snd.snd.snd.snd.snd.snd.snd.fst y9.snd.snd.snd.snd.snd.snd.snd.snd.snd.fst y9.snd.snd.snd.snd.snd.snd.snd.snd.snd.snd v.fst v.snd.fst v.snd.snd) LF (0,y2)) fun y10=>gY y10 (fun y11=>some (y11.snd,y11.fst)) fun y11=>af (jA (ax.mk y9.snd.fst y9.snd.snd.fst y9.snd.snd.snd.fst y9.snd.snd.snd.snd.fst y9.snd.snd.snd.snd.snd.fst y9.snd.snd.snd.snd.snd.snd.fst y9.snd.snd.snd.snd.snd.snd.snd.fst y9.snd.snd.snd.snd.snd.snd.snd.snd.fst y9.snd.snd.snd.snd.snd.snd.snd.snd.snd.fst y9.snd.snd.snd.snd.snd.snd.snd.snd.snd.snd)) fun y12=>cnd (bor (ilt 6 (len x0)) (ay (ay (ay y12.snd)))) (af (cnd (ay (bor (ay y12.snd) (ilt 1 (ai x0 6)))) (pG (ax.mk y9.snd.fst y9.snd.snd.fst y9.snd.snd.snd.fst y12.fst y9.snd.snd.snd.snd.snd.fst y9.snd.snd.snd.snd.snd.snd.fst y9.snd.snd.snd.snd.snd.snd.snd.fst y9.snd.snd.snd.snd.snd.snd.snd.snd.fst y9.snd.snd.snd.snd.snd.snd.snd.snd.snd.fst y9.snd.snd.snd.snd.snd.snd.snd.snd.snd.snd)) (some false)) fun y13=>cnd (bor (bor (ay y12.snd) (ilt 1 (ai x0 6))) (ay y13)) (some (ax.mk 0 0 [] [] [] [] false 0 0 0,2)) (some (ax.mk y9.snd.fst y9.snd.snd.fst y9.snd.snd.snd.fst y12.fst y9.snd.snd.snd.snd.snd.fst y9.snd.snd.snd.snd.snd.snd.fst y9.snd.snd.snd.snd.snd.snd.snd.fst y9.snd.snd.snd.snd.snd.snd.snd.snd.fst y9.snd.snd.snd.snd.snd.snd.snd.snd.snd.fst y9.snd.snd.snd.snd.snd.snd.snd.snd.snd.snd,0))) none) none) none) none) none))) none) none) none) none)) none) none) none) none
noncomputable def jH:Cx:={ P:=PG,ety:=ety,fn:=look [(105,iV),(112,BJ),(95,pI),(38,o7)],inl:=dR [],lp:=aS [(48,4090,CW),(48,131066,zq),(48,262138,zl),(48,524282,zA),(48,1048570,yI),(48,2097146,yJ)] }
theorem Np (p0:(List Int)) (v0:Int) (v1:Int) (v2:Int) (v3:ax):fC jH 900 48 4090 (dK PG 48 4090) DC DJ p0 (v0,v1,v2,v3)=jS p0 v0 v1 v2 v3:=by kernel_rfl
theorem Ku (p0:Int) (p1:(List Int)) (v0:Int) (v1:Int) (v2:Int) (v3:Int) (v4:(List aJ)) (v5:(List aK)) (v6:(List dL)) (v7:(List Int)) (v8:Bool) (v9:Int) (v10:Int) (v11:Int):fC jH 900 48 131066 (dK PG 48 131066) AP A8 (p0,p1) (v0,v1,v2,v3,v4,v5,v6,v7,v8,v9,v10,v11)=jm p0 p1 v0 v1 v2 v3 v4 v5 v6 v7 v8 v9 v10 v11:=by kernel_rfl
theorem Kw (p0:Int) (p1:(List Int)) (v0:Int) (v1:Int) (v2:Int) (v3:Int) (v4:(List aJ)) (v5:(List aK)) (v6:(List dL)) (v7:(List Int)) (v8:Bool) (v9:Int) (v10:Int) (v11:Int):fC jH 900 48 262138 (dK PG 48 262138) Ba AB (p0,p1) (v0,v1,v2,v3,v4,v5,v6,v7,v8,v9,v10,v11)=jo p0 p1 v0 v1 v2 v3 v4 v5 v6 v7 v8 v9 v10 v11:=by kernel_rfl
theorem Ky (p0:Int) (p1:(List Int)) (v0:Int) (v1:Int) (v2:Int) (v3:Int) (v4:(List aJ)) (v5:(List aK)) (v6:(List dL)) (v7:(List Int)) (v8:Bool) (v9:Int) (v10:Int) (v11:Int):fC jH 900 48 524282 (dK PG 48 524282) Bg Az (p0,p1) (v0,v1,v2,v3,v4,v5,v6,v7,v8,v9,v10,v11)=jq p0 p1 v0 v1 v2 v3 v4 v5 v6 v7 v8 v9 v10 v11:=by kernel_rfl
theorem JJ (p0:(List Int)) (v0:Int) (v1:Int) (v2:Int) (v3:Int) (v4:(List aJ)) (v5:(List aK)) (v6:(List dL)) (v7:(List Int)) (v8:Bool) (v9:Int) (v10:Int) (v11:Int):fC jH 900 48 1048570 (dK PG 48 1048570) zx zo p0 (v0,v1,v2,v3,v4,v5,v6,v7,v8,v9,v10,v11)=jd p0 v0 v1 v2 v3 v4 v5 v6 v7 v8 v9 v10 v11:=by kernel_rfl
theorem Ko (p0:Int) (p1:(List Int)) (p2:Int) (p3:Int) (p4:(List aJ)) (p5:(List aK)) (p6:(List dL)) (p7:(List Int)) (p8:Bool) (p9:Int) (p10:Int) (p11:Int) (v0:Int) (v1:Int) (v2:ax):fC jH 900 48 2097146 (dK PG 48 2097146) zH zF (p0,p1,p2,p3,p4,p5,p6,p7,p8,p9,p10,p11) (v0,v1,v2)=jb p0 p1 p2 p3 p4 p5 p6 p7 p8 p9 p10 p11 v0 v1 v2:=by kernel_rfl
theorem TL (x0:(List Int)):bP jH 48 [.ro .u8] [.val .state,.int .i64] x0=nT x0:=by kernel_rfl
def xI:aO:=mkSpec [.ro .u8] [.val .state,.int .i64] false (fun x=>nT x)
theorem Wh:dI PG 48 xI:=
 have K:CxR jH:=aP.cx (fun _=>rfl) (l:=[(105,iV),(112,BJ),(95,pI),(38,o7)]) ⟨yg,ZH,KI,KE,trivial⟩
 aH K (aG (l:=[(48,4090,CW),(48,131066,zq),(48,262138,zl),(48,524282,zA),(48,1048570,yI),(48,2097146,yJ)]) rfl ⟨bF (n:=900) (f:=48) K (by kernel_rfl) (by kernel_rfl) (by kernel_rfl) (by kernel_rfl) (by kernel_rfl) (fun p v r h=>(Np p v.1 v.2.1 v.2.2.1 v.2.2.2).trans h),
  bF (n:=900) (f:=48) K (by kernel_rfl) (by kernel_rfl) (by kernel_rfl) (by kernel_rfl) (by kernel_rfl) (fun p v r h=>(Ku p.1 p.2 v.1 v.2.1 v.2.2.1 v.2.2.2.1 v.2.2.2.2.1 v.2.2.2.2.2.1 v.2.2.2.2.2.2.1 v.2.2.2.2.2.2.2.1 v.2.2.2.2.2.2.2.2.1 v.2.2.2.2.2.2.2.2.2.1 v.2.2.2.2.2.2.2.2.2.2.1 v.2.2.2.2.2.2.2.2.2.2.2).trans h),
  bF (n:=900) (f:=48) K (by kernel_rfl) (by kernel_rfl) (by kernel_rfl) (by kernel_rfl) (by kernel_rfl) (fun p v r h=>(Kw p.1 p.2 v.1 v.2.1 v.2.2.1 v.2.2.2.1 v.2.2.2.2.1 v.2.2.2.2.2.1 v.2.2.2.2.2.2.1 v.2.2.2.2.2.2.2.1 v.2.2.2.2.2.2.2.2.1 v.2.2.2.2.2.2.2.2.2.1 v.2.2.2.2.2.2.2.2.2.2.1 v.2.2.2.2.2.2.2.2.2.2.2).trans h),
  bF (n:=900) (f:=48) K (by kernel_rfl) (by kernel_rfl) (by kernel_rfl) (by kernel_rfl) (by kernel_rfl) (fun p v r h=>(Ky p.1 p.2 v.1 v.2.1 v.2.2.1 v.2.2.2.1 v.2.2.2.2.1 v.2.2.2.2.2.1 v.2.2.2.2.2.2.1 v.2.2.2.2.2.2.2.1 v.2.2.2.2.2.2.2.2.1 v.2.2.2.2.2.2.2.2.2.1 v.2.2.2.2.2.2.2.2.2.2.1 v.2.2.2.2.2.2.2.2.2.2.2).trans h),
  bF (n:=900) (f:=48) K (by kernel_rfl) (by kernel_rfl) (by kernel_rfl) (by kernel_rfl) (by kernel_rfl) (fun p v r h=>(JJ p v.1 v.2.1 v.2.2.1 v.2.2.2.1 v.2.2.2.2.1 v.2.2.2.2.2.1 v.2.2.2.2.2.2.1 v.2.2.2.2.2.2.2.1 v.2.2.2.2.2.2.2.2.1 v.2.2.2.2.2.2.2.2.2.1 v.2.2.2.2.2.2.2.2.2.2.1 v.2.2.2.2.2.2.2.2.2.2.2).trans h),
  bF (n:=900) (f:=48) K (by kernel_rfl) (by kernel_rfl) (by kernel_rfl) (by kernel_rfl) (by kernel_rfl) (fun p v r h=>(Ko p.1 p.2.1 p.2.2.1 p.2.2.2.1 p.2.2.2.2.1 p.2.2.2.2.2.1 p.2.2.2.2.2.2.1 p.2.2.2.2.2.2.2.1 p.2.2.2.2.2.2.2.2.1 p.2.2.2.2.2.2.2.2.2.1 p.2.2.2.2.2.2.2.2.2.2.1 p.2.2.2.2.2.2.2.2.2.2.2 v.1 v.2.1 v.2.2).trans h),trivial⟩) (by kernel_rfl) (fun x y h=>(TL x).trans h) rfl rfl
def uw (x0:au):Option (ax×Int×Int):=af (nM x0) fun y0=>cnd (ay (ieq y0.snd 0)) (some (ax.mk 0 0 [] [] [] [] false 0 0 0,0,y0.snd)) (af (je y0.fst.gen) fun y1=>af (gy x0 y1) fun y2=>cnd (ilt y2 0) (some (ax.mk 0 0 [] [] [] [] false 0 0 0,0,2)) (cnd (band (ile 0 y2) (ilt y2 (len x0.files))) (af (nT (ai x0.files (itn y2)).data) fun y3=>cnd (bor (ay (ieq y3.snd 0)) (ay (ieq y3.fst.lsn y0.fst.lsn))) (some (ax.mk 0 0 [] [] [] [] false 0 0 0,0,2)) (some (y3.fst,y0.fst.gen,0))) none))
noncomputable def OC:Cx:={ P:=PG,ety:=ety,fn:=look [(39,kJ),(15,kK),(40,dF),(48,xI)],inl:=dR [],lp:=aS [] }
theorem Wx (x0:au):bP OC 14 [.val .disk] [.val .state,.int .i64,.int .i64] x0=uw x0:=by kernel_rfl
def Aj:aO:=mkSpec [.val .disk] [.val .state,.int .i64,.int .i64] false (fun x=>uw x)
theorem Yo:dI PG 14 Aj:=
 have K:CxR OC:=aP.cx (fun _=>rfl) (l:=[(39,kJ),(15,kK),(40,dF),(48,xI)]) ⟨DF,DY,jX,Wh,trivial⟩
 aH K (aG (l:=[]) rfl trivial) (by kernel_rfl) (fun x y h=>(Wx x).trans h) rfl rfl
def qL (x0:au) (x1:ax) (x2:Int):Option (Bool):=af oU fun y0=>cnd (ay y0) (some false) (af (sV x0) fun y1=>af (cnd (ay (ay y1)) (sG x1) (some false)) fun y2=>cnd (bor (ay y1) (ay y2)) (some true) (af (uK x0 x1) fun y3=>af (uD x0 x1) fun y4=>af (cnd (ay (bor (ay (ieq y3.snd.snd y4.snd.snd)) (ay (ieq y3.snd.fst y4.snd.fst)))) (uo y3.fst y4.fst) (some false)) fun y5=>cnd (bor (bor (ay (ieq y3.snd.snd y4.snd.snd)) (ay (ieq y3.snd.fst y4.snd.fst))) (ay y5)) (some false) (af (uG x0) fun y6=>af (uw x0) fun y7=>cnd (band (ile 1 x2) (ile x2 1000000000)) (af (je x2) fun y8=>af (cnd (band (ieq y6.snd.snd y7.snd.snd) (ieq y6.snd.fst y7.snd.fst)) (iG y6.fst y7.fst) (some false)) fun y9=>af (cnd (band (band (ieq y6.snd.snd y7.snd.snd) (ieq y6.snd.fst y7.snd.fst)) y9) (dV x2) (some [])) fun y10=>some (band (band (band (ieq y6.snd.snd y7.snd.snd) (ieq y6.snd.fst y7.snd.fst)) y9) (seq y10 y8))) (af (cnd (band (ieq y6.snd.snd y7.snd.snd) (ieq y6.snd.fst y7.snd.fst)) (iG y6.fst y7.fst) (some false)) fun y11=>af (cnd (band (band (ieq y6.snd.snd y7.snd.snd) (ieq y6.snd.fst y7.snd.fst)) y11) (dV x2) (some [])) fun y12=>some (band (band (band (ieq y6.snd.snd y7.snd.snd) (ieq y6.snd.fst y7.snd.fst)) y11) (seq y12 []))))))
noncomputable def E5:Cx:={ P:=PG,ety:=ety,fn:=look [(7,yK),(8,yh),(9,yP),(10,Bd),(11,zQ),(12,zM),(13,AA),(14,Aj),(15,kK),(16,qm),(17,oI)],inl:=dR [4095],lp:=aS [] }
theorem NZ (x0:au) (x1:ax) (x2:Int):bP E5 3 [.val .disk,.val .state,.int .i64] [.bool] (x0,x1,x2)=qL x0 x1 x2:=by kernel_rfl
def NS:aO:=mkSpec [.val .disk,.val .state,.int .i64] [.bool] true (fun x=>qL x.1 x.2.1 x.2.2)
theorem Q7:dI PG 3 NS:=
 have K:CxR E5:=aP.cx (fun _=>rfl) (l:=[(7,yK),(8,yh),(9,yP),(10,Bd),(11,zQ),(12,zM),(13,AA),(14,Aj),(15,kK),(16,qm),(17,oI)]) ⟨Xk,Xn,Xj,aai,XY,XV,ZQ,Yo,DY,MW,GK,trivial⟩
 aH K (aG (l:=[]) rfl trivial) (by kernel_rfl) (fun x y h=>(NZ x.1 x.2.1 x.2.2).trans h) rfl rfl
end
end Go.Av
