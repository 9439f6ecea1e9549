/- Functions that this claim reaches, part 1. No condition. -/
import Derived.Test.YtkndbmahpiebkaaGreatDoorDStoreRightx0
import Derived.KernelRfl
set_option linter.unusedVariables false
set_option linter.unusedSimpArgs false
set_option linter.unnecessarySimpa false
namespace Go.Av
open Go
noncomputable section
def JZ:LSh:=⟨146,[],[(3,.mp 24 0),(2,.mp 16 0)],[(24,[.val .state]),(16,[.val .state])],[(5,.int .i64),(4,.bool)],[],[]⟩
@[reducible] def Jy:List fO:=[⟨.ret,[(4,.bool)],[],[]⟩,⟨.exit 0,[(4,.bool)],[],[]⟩]
def mY (p0:ax) (p1:ax) (v0:Int) (v1:Bool):Option ((Int×Bool) ⊕ ((Bool) ⊕ ((Bool)))):=cnd (ilt v0 (len p1.orders)) (cnd (band (ile 0 v0) (ilt v0 (len p1.orders))) (cnd (band (ile 0 v0) (ilt v0 (len p0.orders))) (cnd (ay (band (ieq (ai p1.orders (itn v0)).id (ai p0.orders (itn v0)).id) (band (ieq (ai p1.orders (itn v0)).account (ai p0.orders (itn v0)).account) (band (ieq (ai p1.orders (itn v0)).symbol (ai p0.orders (itn v0)).symbol) (band (ieq (ai p1.orders (itn v0)).side (ai p0.orders (itn v0)).side) (band (ieq (ai p1.orders (itn v0)).qty (ai p0.orders (itn v0)).qty) (band (ieq (ai p1.orders (itn v0)).price (ai p0.orders (itn v0)).price) (band (ieq (ai p1.orders (itn v0)).filled (ai p0.orders (itn v0)).filled) (band (ieq (ai p1.orders (itn v0)).phase (ai p0.orders (itn v0)).phase) (band (ieq (ai p1.orders (itn v0)).newQty (ai p0.orders (itn v0)).newQty) (band (ieq (ai p1.orders (itn v0)).newPrice (ai p0.orders (itn v0)).newPrice) (band (ieq (ai p1.orders (itn v0)).version (ai p0.orders (itn v0)).version) (beq (ai p1.orders (itn v0)).asked (ai p0.orders (itn v0)).asked))))))))))))) (some (Sum.inr (Sum.inl false))) (some (Sum.inl (wr .i64 (aj v0 1),v1)))) none) none) (some (Sum.inr (Sum.inr v1)))
def IW:dU:=JZ.spec Jy [85,86,87,88,89,92,93,94,95,96,97,98,99,100,101,102,4,90,91,5] (fun p v=>mY p.1 p.2 v.1 v.2)
def Ig:LSh:=⟨214,[],[(3,.mp 24 0),(2,.mp 16 0)],[(24,[.val .state]),(16,[.val .state])],[(6,.int .i64),(4,.bool)],[],[]⟩
@[reducible] def Ie:List fO:=[⟨.ret,[(4,.bool)],[],[]⟩,⟨.exit 2,[(4,.bool)],[],[]⟩]
def lS (p0:ax) (p1:ax) (v0:Int) (v1:Bool):Option ((Int×Bool) ⊕ ((Bool) ⊕ ((Bool)))):=cnd (ilt v0 (len p1.cells)) (cnd (band (ile 0 v0) (ilt v0 (len p1.cells))) (cnd (band (ile 0 v0) (ilt v0 (len p0.cells))) (cnd (ay (band (ieq (ai p1.cells (itn v0)).pos (ai p0.cells (itn v0)).pos) (band (ieq (ai p1.cells (itn v0)).buy (ai p0.cells (itn v0)).buy) (band (ieq (ai p1.cells (itn v0)).sell (ai p0.cells (itn v0)).sell) (ieq (ai p1.cells (itn v0)).opn (ai p0.cells (itn v0)).opn))))) (some (Sum.inr (Sum.inl false))) (some (Sum.inl (wr .i64 (aj v0 1),v1)))) none) none) (some (Sum.inr (Sum.inr v1)))
def Gt:dU:=Ig.spec Ie [103,104,105,106,107,110,111,112,113,114,115,116,117,118,119,120,4,108,109,6] (fun p v=>lS p.1 p.2 v.1 v.2)
def II:LSh:=⟨282,[],[(3,.mp 24 0),(2,.mp 16 0)],[(24,[.val .state]),(16,[.val .state])],[(7,.int .i64),(4,.bool)],[],[]⟩
@[reducible] def Ia:List fO:=[⟨.ret,[(4,.bool)],[],[]⟩,⟨.exit 4,[(4,.bool)],[],[]⟩]
def lG (p0:ax) (p1:ax) (v0:Int) (v1:Bool):Option ((Int×Bool) ⊕ ((Bool) ⊕ ((Bool)))):=cnd (ilt v0 (len p1.limits)) (cnd (band (ile 0 v0) (ilt v0 (len p1.limits))) (cnd (band (ile 0 v0) (ilt v0 (len p0.limits))) (cnd (ay (band (ieq (ai p1.limits (itn v0)).long (ai p0.limits (itn v0)).long) (band (ieq (ai p1.limits (itn v0)).short (ai p0.limits (itn v0)).short) (ieq (ai p1.limits (itn v0)).opn (ai p0.limits (itn v0)).opn)))) (some (Sum.inr (Sum.inl false))) (some (Sum.inl (wr .i64 (aj v0 1),v1)))) none) none) (some (Sum.inr (Sum.inr v1)))
def FP:dU:=II.spec Ia [121,122,123,124,125,128,129,130,131,132,133,134,135,136,137,138,4,126,127,7] (fun p v=>lG p.1 p.2 v.1 v.2)
def I5:LSh:=⟨350,[],[(3,.mp 24 0),(2,.mp 16 0)],[(24,[.val .state]),(16,[.val .state])],[(8,.int .i64),(4,.bool)],[],[]⟩
@[reducible] def Ib:List fO:=[⟨.ret,[(4,.bool)],[],[]⟩,⟨.exit 6,[(4,.bool)],[],[]⟩]
def lN (p0:ax) (p1:ax) (v0:Int) (v1:Bool):Option ((Int×Bool) ⊕ ((Bool) ⊕ ((Bool)))):=cnd (ilt v0 (len p1.caps)) (cnd (band (ile 0 v0) (ilt v0 (len p1.caps))) (cnd (band (ile 0 v0) (ilt v0 (len p0.caps))) (cnd (ay (ieq (ai p1.caps (itn v0)) (ai p0.caps (itn v0)))) (some (Sum.inr (Sum.inl false))) (some (Sum.inl (wr .i64 (aj v0 1),v1)))) none) none) (some (Sum.inr (Sum.inr v1)))
def GI:dU:=I5.spec Ib [139,140,141,142,143,146,147,148,149,150,151,152,153,154,155,156,4,144,145,8] (fun p v=>lN p.1 p.2 v.1 v.2)
def iH (x0:ax) (x1:ax):Option (Bool):=cnd (bor (bor (bor (bor (bor (bor (bor (bor (bor (ay (ieq x0.accounts x1.accounts)) (ay (ieq x0.symbols x1.symbols))) (ay (beq x0.kill x1.kill))) (ay (ieq x0.last x1.last))) (ay (ieq x0.seq x1.seq))) (ay (ieq x0.lsn x1.lsn))) (ay (ieq (len x0.orders) (len x1.orders)))) (ay (ieq (len x0.cells) (len x1.cells)))) (ay (ieq (len x0.limits) (len x1.limits)))) (ay (ieq (len x0.caps) (len x1.caps)))) (some false) (af (bD (fun v => mY x1 x0 v.fst v.snd) LF (0,false)) fun y0 => gY y0 (fun y1 => some y1) fun y1 => af (bD (fun v => lS x1 x0 v.fst v.snd) LF (0,y1)) fun y2 => gY y2 (fun y3 => some y3) fun y3 => af (bD (fun v => lG x1 x0 v.fst v.snd) LF (0,y3)) fun y4 => gY y4 (fun y5 => some y5) fun y5 => af (bD (fun v => lN x1 x0 v.fst v.snd) LF (0,y5)) fun y6 => gY y6 (fun y7 => some y7) fun y7 => some true)
noncomputable def qB:Cx:={ P:=PG,ety:=ety,fn:=look [],inl:=dR [],lp:=aS [(16,58,IW),(16,122,Gt),(16,250,FP),(16,506,GI)] }
theorem Rq (p0:ax) (p1:ax) (v0:Int) (v1:Bool):fC qB 900 16 58 (dK PG 16 58) JZ Jy (p0,p1) (v0,v1)=mY p0 p1 v0 v1:=by kernel_rfl
theorem Qg (p0:ax) (p1:ax) (v0:Int) (v1:Bool):fC qB 900 16 122 (dK PG 16 122) Ig Ie (p0,p1) (v0,v1)=lS p0 p1 v0 v1:=by kernel_rfl
theorem Qz (p0:ax) (p1:ax) (v0:Int) (v1:Bool):fC qB 900 16 250 (dK PG 16 250) II Ia (p0,p1) (v0,v1)=lG p0 p1 v0 v1:=by kernel_rfl
theorem QA (p0:ax) (p1:ax) (v0:Int) (v1:Bool):fC qB 900 16 506 (dK PG 16 506) I5 Ib (p0,p1) (v0,v1)=lN p0 p1 v0 v1:=by kernel_rfl
theorem VG (x0:ax) (x1:ax):bP qB 16 [.val .state,.val .state] [.bool] (x0,x1)=iH x0 x1:=by kernel_rfl
def qx:aO:=mkSpec [.val .state,.val .state] [.bool] true (fun x=>iH x.1 x.2)
theorem Nv:dI PG 16 qx:=
 have K:CxR qB:=aP.cx (fun _=>rfl) (l:=[]) trivial
 aH K (aG (l:=[(16,58,IW),(16,122,Gt),(16,250,FP),(16,506,GI)]) rfl ⟨bF (n:=900) (f:=16) K (by kernel_rfl) (by kernel_rfl) (by kernel_rfl) (by kernel_rfl) (by kernel_rfl) (fun p v r h=>(Rq p.1 p.2 v.1 v.2).trans h),
  bF (n:=900) (f:=16) K (by kernel_rfl) (by kernel_rfl) (by kernel_rfl) (by kernel_rfl) (by kernel_rfl) (fun p v r h=>(Qg p.1 p.2 v.1 v.2).trans h),
  bF (n:=900) (f:=16) K (by kernel_rfl) (by kernel_rfl) (by kernel_rfl) (by kernel_rfl) (by kernel_rfl) (fun p v r h=>(Qz p.1 p.2 v.1 v.2).trans h),
  bF (n:=900) (f:=16) K (by kernel_rfl) (by kernel_rfl) (by kernel_rfl) (by kernel_rfl) (by kernel_rfl) (fun p v r h=>(QA p.1 p.2 v.1 v.2).trans h),trivial⟩) (by kernel_rfl) (fun x y h=>(VG x.1 x.2).trans h) rfl rfl
def pF:Option (Bool):=af (Wh 1 1 (dL.mk 9 9 99) 99) fun y0 => af (U7 y0.fst (yC.mk 1 5 0 0 2 3 2 0 0 0 false 0 0)) fun y1 => af (uN (au.mk [] 999 (-1) false)) fun y2 => af (uF (au.mk [] 999 (-1) false) y0.fst) fun y3 => af (uF y3.fst y1.fst) fun y4 => af (uN y4.fst) fun y5 => af (cnd (band (band (band (band (band (band (ieq y2.snd.snd 7) (ieq y3.snd.snd 0)) (ieq y4.snd.snd 0)) (ieq y5.snd.snd 0)) (ieq y3.snd.fst 1)) (ieq y4.snd.fst 2)) (ieq y5.snd.fst 2)) (iH y1.fst y5.fst) (some false)) fun y6 => af (cnd (band (band (band (band (band (band (band (band (band (ieq y2.snd.snd 7) (ieq y3.snd.snd 0)) (ieq y4.snd.snd 0)) (ieq y5.snd.snd 0)) (ieq y3.snd.fst 1)) (ieq y4.snd.fst 2)) (ieq y5.snd.fst 2)) y6) (ieq (len y5.fst.orders) 1)) (ieq (len y4.fst.files) 3)) (dV 7) (some [])) fun y7 => some (band (band (band (band (band (band (band (band (band (band (ieq y2.snd.snd 7) (ieq y3.snd.snd 0)) (ieq y4.snd.snd 0)) (ieq y5.snd.snd 0)) (ieq y3.snd.fst 1)) (ieq y4.snd.fst 2)) (ieq y5.snd.fst 2)) y6) (ieq (len y5.fst.orders) 1)) (ieq (len y4.fst.files) 3)) (seq y7 [(UInt8.ofNat 115),(UInt8.ofNat 110),(UInt8.ofNat 97),(UInt8.ofNat 112),(UInt8.ofNat 46),(UInt8.ofNat 48),(UInt8.ofNat 48),(UInt8.ofNat 48),(UInt8.ofNat 48),(UInt8.ofNat 48),(UInt8.ofNat 48),(UInt8.ofNat 48),(UInt8.ofNat 48),(UInt8.ofNat 48),(UInt8.ofNat 55)]))
noncomputable def Nk:Cx:={ P:=PG,ety:=ety,fn:=look [(22,Tz),(23,V5),(13,Ba),(10,AU),(16,qx),(17,oJ)],inl:=dR [4095],lp:=aS [] }
theorem Ut:bP Nk 7 [] [.bool] ()=pF:=by kernel_rfl
def yA:aO:=mkSpec [] [.bool] true (fun _=>pF)
theorem Xu:dI PG 7 yA:=
 have K:CxR Nk:=aP.cx (fun _=>rfl) (l:=[(22,Tz),(23,V5),(13,Ba),(10,AU),(16,qx),(17,oJ)]) ⟨akq,amo,aal,Z5,Nv,Gj,trivial⟩
 aH K (aG (l:=[]) rfl trivial) (by kernel_rfl) (fun x y h=>(Ut).trans h) rfl rfl
def F7:LSh:=⟨73,[],[(1,.mp 8 0)],[(8,[.val .disk])],[(4,.int .i64),(3,.int .i64),(2,.bool)],[],[]⟩
@[reducible] def FQ:List fO:=[⟨.ret,[(2,.bool)],[],[]⟩,⟨.exit 0,[(3,.int .i64),(2,.bool)],[],[]⟩]
def kU (p0:au) (v0:Int) (v1:Int) (v2:Bool):Option ((Int×Int×Bool) ⊕ ((Bool) ⊕ ((Int×Bool)))):=cnd (ilt v0 (len p0.files)) (cnd (band (ile 0 v0) (ilt v0 (len p0.files))) (cnd (bor (band (ile 0 v0) (ilt v0 (len p0.files))) (ay (ay (ilt 70000 (len (ai p0.files (itn v0)).data))))) (cnd (bor (ilt 70000 (len (ai p0.files (itn v0)).data)) (ilt 100 (len (ai p0.files (itn v0)).name))) (some (Sum.inr (Sum.inl false))) (cnd (band (ile 0 v0) (ilt v0 (len p0.files))) (some (Sum.inl (wr .i64 (aj v0 1),wr .i64 (aj v1 (len (ai p0.files (itn v0)).data)),v2))) none)) none) none) (some (Sum.inr (Sum.inr (v1,v2))))
def EQ:dU:=F7.spec FQ [9,10,11,12,13,16,17,18,19,20,21,22,23,24,25,26,27,28,29,30,31,32,33,2,34,35,36,37,38,39,40,41,42,3,14,15,4] (fun p v=>kU p v.1 v.2.1 v.2.2)
def sH (x0:au):Option (Bool):=cnd (ilt 70 (len x0.files)) (some false) (af (bD (fun v => kU x0 v.fst v.snd.fst v.snd.snd) LF (0,0,false)) fun y0 => gY y0 (fun y1 => some y1) fun y1 => some (ile y1.fst 70000))
noncomputable def Ec:Cx:={ P:=PG,ety:=ety,fn:=look [],inl:=dR [],lp:=aS [(8,122,EQ)] }
theorem OY (p0:au) (v0:Int) (v1:Int) (v2:Bool):fC Ec 900 8 122 (dK PG 8 122) F7 FQ p0 (v0,v1,v2)=kU p0 v0 v1 v2:=by kernel_rfl
theorem Uc (x0:au):bP Ec 8 [.val .disk] [.bool] x0=sH x0:=by kernel_rfl
def yZ:aO:=mkSpec [.val .disk] [.bool] true (fun x=>sH x)
theorem XF:dI PG 8 yZ:=
 have K:CxR Ec:=aP.cx (fun _=>rfl) (l:=[]) trivial
 aH K (aG (l:=[(8,122,EQ)]) rfl ⟨bF (n:=900) (f:=8) K (by kernel_rfl) (by kernel_rfl) (by kernel_rfl) (by kernel_rfl) (by kernel_rfl) (fun p v r h=>(OY p v.1 v.2.1 v.2.2).trans h),trivial⟩) (by kernel_rfl) (fun x y h=>(Uc x).trans h) rfl rfl
def sZ (x0:ax):Option (Bool):=some (band (band (band (ile (len x0.orders) 70) (ile (len x0.cells) 70)) (ile (len x0.limits) 70)) (ile (len x0.caps) 70))
noncomputable def ND:Cx:={ P:=PG,ety:=ety,fn:=look [],inl:=dR [],lp:=aS [] }
theorem UZ (x0:ax):bP ND 9 [.val .state] [.bool] x0=sZ x0:=by kernel_rfl
def zh:aO:=mkSpec [.val .state] [.bool] true (fun x=>sZ x)
theorem Xw:dI PG 9 zh:=
 have K:CxR ND:=aP.cx (fun _=>rfl) (l:=[]) trivial
 aH K (aG (l:=[]) rfl trivial) (by kernel_rfl) (fun x y h=>(UZ x).trans h) rfl rfl
def Il:LSh:=⟨67,[(0,.str)],[],[],[(3,.int .i64),(2,.bool)],[],[]⟩
@[reducible] def I8:List fO:=[⟨.ret,[(2,.bool)],[],[]⟩,⟨.exit 0,[(2,.bool)],[],[]⟩]
def lK (p0:(List UInt8)) (v0:Int) (v1:Bool):Option ((Int×Bool) ⊕ ((Bool) ⊕ ((Bool)))):=cnd (ilt v0 (len p0)) (cnd (band (ile 0 v0) (ilt v0 (len p0))) (cnd (band (band (bor (ilt (ZM p0 (itn v0)) 97) (ilt 122 (ZM p0 (itn v0)))) (bor (ilt (ZM p0 (itn v0)) 48) (ilt 57 (ZM p0 (itn v0))))) (ay (ieq (ZM p0 (itn v0)) 46))) (some (Sum.inr (Sum.inl false))) (some (Sum.inl (wr .i64 (aj v0 1),v1)))) none) (some (Sum.inr (Sum.inr v1)))
def FM:dU:=Il.spec I8 [5,6,7,8,11,12,13,4,14,15,16,17,18,19,20,21,22,23,24,25,26,27,28,29,30,31,2,9,10,3] (fun p v=>lK p v.1 v.2)
def lZ (x0:(List UInt8)):Option (Bool):=af (bD (fun v => lK x0 v.fst v.snd) LF (0,false)) fun y0 => gY y0 (fun y1 => some y1) fun y1 => some (band (ilt 0 (len x0)) (ile (len x0) 16))
noncomputable def Dc:Cx:={ P:=PG,ety:=ety,fn:=look [],inl:=dR [],lp:=aS [(92,26,FM)] }
theorem QY (p0:(List UInt8)) (v0:Int) (v1:Bool):fC Dc 900 92 26 (dK PG 92 26) Il I8 p0 (v0,v1)=lK p0 v0 v1:=by kernel_rfl
theorem Ux (x0:(List UInt8)):bP Dc 92 [.str] [.bool] x0=lZ x0:=by kernel_rfl
def oQ:aO:=mkSpec [.str] [.bool] true (fun x=>lZ x)
theorem KI:dI PG 92 oQ:=
 have K:CxR Dc:=aP.cx (fun _=>rfl) (l:=[]) trivial
 aH K (aG (l:=[(92,26,FM)]) rfl ⟨bF (n:=900) (f:=92) K (by kernel_rfl) (by kernel_rfl) (by kernel_rfl) (by kernel_rfl) (by kernel_rfl) (fun p v r h=>(QY p v.1 v.2).trans h),trivial⟩) (by kernel_rfl) (fun x y h=>(Ux x).trans h) rfl rfl
def FY:LSh:=⟨88,[],[(1,.mp 8 0)],[(8,[.val .disk])],[(4,.int .i64),(3,.int .i64),(2,.bool)],[],[]⟩
@[reducible] def Gx:List fO:=[⟨.ret,[(2,.bool)],[],[]⟩,⟨.exit 0,[(3,.int .i64),(2,.bool)],[],[]⟩]
def kT (p0:au) (v0:Int) (v1:Int) (v2:Bool):Option ((Int×Int×Bool) ⊕ ((Bool) ⊕ ((Int×Bool)))):=cnd (ilt v0 (len p0.files)) (cnd (band (ile 0 v0) (ilt v0 (len p0.files))) (af (lZ (ai p0.files (itn v0)).name) fun y0 => cnd (bor (bor (bor (ay y0) (ilt (ai p0.files (itn v0)).sure 0)) (ilt (len (ai p0.files (itn v0)).data) (ai p0.files (itn v0)).sure)) (ilt 65536 (len (ai p0.files (itn v0)).data))) (some (Sum.inr (Sum.inl false))) (cnd (bor (band (ile 0 (wr .i64 (aI v0 1))) (ilt (wr .i64 (aI v0 1)) (len p0.files))) (ay (ilt 0 v0))) (cnd (band (ilt 0 v0) (bor (slt (ai p0.files (itn v0)).name (ai p0.files (itn (wr .i64 (aI v0 1)))).name) (seq (ai p0.files (itn v0)).name (ai p0.files (itn (wr .i64 (aI v0 1)))).name))) (some (Sum.inr (Sum.inl false))) (some (Sum.inl (wr .i64 (aj v0 1),wr .i64 (aj v1 (len (ai p0.files (itn v0)).data)),v2)))) none)) none) (some (Sum.inr (Sum.inr (v1,v2))))
def EN:dU:=FY.spec Gx [25,26,27,28,29,32,33,34,35,36,5,37,38,39,40,41,42,43,44,45,46,47,48,49,50,51,52,53,54,55,56,57,58,59,2,60,61,62,63,64,65,66,67,68,69,70,71,72,73,74,75,76,77,78,3,30,31,4] (fun p v=>kT p v.1 v.2.1 v.2.2)
def lU (x0:au):Option (Bool):=cnd (bor (bor (bor (ilt x0.room 0) (ilt 65536 x0.room)) (ilt x0.fuse (-1))) (ilt 64 (len x0.files))) (some false) (af (bD (fun v => kT x0 v.fst v.snd.fst v.snd.snd) LF (0,0,false)) fun y0 => gY y0 (fun y1 => some y1) fun y1 => some (ile y1.fst x0.room))
noncomputable def DU:Cx:={ P:=PG,ety:=ety,fn:=look [(92,oQ)],inl:=dR [],lp:=aS [(37,122,EN)] }
theorem Ph (p0:au) (v0:Int) (v1:Int) (v2:Bool):fC DU 900 37 122 (dK PG 37 122) FY Gx p0 (v0,v1,v2)=kT p0 v0 v1 v2:=by kernel_rfl
theorem UK (x0:au):bP DU 37 [.val .disk] [.bool] x0=lU x0:=by kernel_rfl
def jP:aO:=mkSpec [.val .disk] [.bool] true (fun x=>lU x)
theorem BM:dI PG 37 jP:=
 have K:CxR DU:=aP.cx (fun _=>rfl) (l:=[(92,oQ)]) ⟨KI,trivial⟩
 aH K (aG (l:=[(37,122,EN)]) rfl ⟨bF (n:=900) (f:=37) K (by kernel_rfl) (by kernel_rfl) (by kernel_rfl) (by kernel_rfl) (by kernel_rfl) (fun p v r h=>(Ph p v.1 v.2.1 v.2.2).trans h),trivial⟩) (by kernel_rfl) (fun x y h=>(UK x).trans h) rfl rfl
def qc (x0:Int):Option (Bool):=some (band (ilt 0 x0) (ile x0 1000000000000))
noncomputable def RZ:Cx:={ P:=PG,ety:=ety,fn:=look [],inl:=dR [],lp:=aS [] }
theorem YG (x0:Int):bP RZ 208 [.int .i64] [.bool] x0=qc x0:=by kernel_rfl
def Dx:aO:=mkSpec [.int .i64] [.bool] true (fun x=>qc x)
theorem aaV:dI PG 208 Dx:=
 have K:CxR RZ:=aP.cx (fun _=>rfl) (l:=[]) trivial
 aH K (aG (l:=[]) rfl trivial) (by kernel_rfl) (fun x y h=>(YG x).trans h) rfl rfl
def rZ (x0:yC):Option (Bool):=cnd (ieq x0.kind 1) (af (qc x0.order) fun y0 => some (band (band (band (band (band (band (band (band (band y0 (ile 0 x0.account)) (ilt x0.account 8)) (ile 0 x0.symbol)) (ilt x0.symbol 8)) (ile 1 x0.side)) (ile x0.side 2)) (ilt 0 x0.qty)) (ilt 0 x0.price)) (band (ieq x0.kind x0.kind) (band (ieq x0.order x0.order) (band (ieq x0.account x0.account) (band (ieq x0.symbol x0.symbol) (band (ieq x0.side x0.side) (band (ieq x0.qty x0.qty) (band (ieq x0.price x0.price) (band (ieq x0.long 0) (band (ieq x0.short 0) (band (ieq x0.opn 0) (band (beq x0.on false) (band (ieq x0.seq 0) (ieq x0.what 0))))))))))))))) (cnd (ieq x0.kind 2) (af (qc x0.order) fun y1 => some (band (band (band y1 (ilt 0 x0.qty)) (ilt 0 x0.price)) (band (ieq x0.kind x0.kind) (band (ieq x0.order x0.order) (band (ieq x0.account 0) (band (ieq x0.symbol 0) (band (ieq x0.side 0) (band (ieq x0.qty x0.qty) (band (ieq x0.price x0.price) (band (ieq x0.long 0) (band (ieq x0.short 0) (band (ieq x0.opn 0) (band (beq x0.on false) (band (ieq x0.seq 0) (ieq x0.what 0))))))))))))))) (cnd (ieq x0.kind 3) (af (qc x0.order) fun y2 => some (band y2 (band (ieq x0.kind x0.kind) (band (ieq x0.order x0.order) (band (ieq x0.account 0) (band (ieq x0.symbol 0) (band (ieq x0.side 0) (band (ieq x0.qty 0) (band (ieq x0.price 0) (band (ieq x0.long 0) (band (ieq x0.short 0) (band (ieq x0.opn 0) (band (beq x0.on false) (band (ieq x0.seq 0) (ieq x0.what 0))))))))))))))) (cnd (ieq x0.kind 4) (cnd (band (ieq x0.symbol (-1)) (bor (ay (ieq x0.long 0)) (ay (ieq x0.short 0)))) (some false) (some (band (band (band (band (band (band (band (ile 0 x0.account) (ilt x0.account 8)) (ile (-1) x0.symbol)) (ilt x0.symbol 8)) (ile 0 x0.long)) (ile 0 x0.short)) (ile 0 x0.opn)) (band (ieq x0.kind x0.kind) (band (ieq x0.order 0) (band (ieq x0.account x0.account) (band (ieq x0.symbol x0.symbol) (band (ieq x0.side 0) (band (ieq x0.qty 0) (band (ieq x0.price 0) (band (ieq x0.long x0.long) (band (ieq x0.short x0.short) (band (ieq x0.opn x0.opn) (band (beq x0.on false) (band (ieq x0.seq 0) (ieq x0.what 0)))))))))))))))) (cnd (ieq x0.kind 5) (some (band (ieq x0.kind x0.kind) (band (ieq x0.order 0) (band (ieq x0.account 0) (band (ieq x0.symbol 0) (band (ieq x0.side 0) (band (ieq x0.qty 0) (band (ieq x0.price 0) (band (ieq x0.long 0) (band (ieq x0.short 0) (band (ieq x0.opn 0) (band (beq x0.on x0.on) (band (ieq x0.seq 0) (ieq x0.what 0)))))))))))))) (cnd (ieq x0.kind 6) (af (cnd (band (band (band (ilt 0 x0.seq) (ile x0.seq 1000000000)) (ile 1 x0.what)) (ile x0.what 6)) (qc x0.order) (some false)) fun y3 => cnd (bor (ieq x0.what 3) (ieq x0.what 5)) (cnd (ieq x0.what 5) (some (band (band (band (band (band (band (band (ilt 0 x0.seq) (ile x0.seq 1000000000)) (ile 1 x0.what)) (ile x0.what 6)) y3) (ilt 0 x0.qty)) (ilt 0 x0.price)) (band (ieq x0.kind x0.kind) (band (ieq x0.order x0.order) (band (ieq x0.account 0) (band (ieq x0.symbol 0) (band (ieq x0.side 0) (band (ieq x0.qty x0.qty) (band (ieq x0.price x0.price) (band (ieq x0.long 0) (band (ieq x0.short 0) (band (ieq x0.opn 0) (band (beq x0.on false) (band (ieq x0.seq x0.seq) (ieq x0.what x0.what))))))))))))))) (some (band (band (band (band (band (band (ilt 0 x0.seq) (ile x0.seq 1000000000)) (ile 1 x0.what)) (ile x0.what 6)) y3) (ilt 0 x0.qty)) (band (ieq x0.kind x0.kind) (band (ieq x0.order x0.order) (band (ieq x0.account 0) (band (ieq x0.symbol 0) (band (ieq x0.side 0) (band (ieq x0.qty x0.qty) (band (ieq x0.price 0) (band (ieq x0.long 0) (band (ieq x0.short 0) (band (ieq x0.opn 0) (band (beq x0.on false) (band (ieq x0.seq x0.seq) (ieq x0.what x0.what)))))))))))))))) (cnd (ieq x0.what 5) (some (band (band (band (band (band (band (ilt 0 x0.seq) (ile x0.seq 1000000000)) (ile 1 x0.what)) (ile x0.what 6)) y3) (ilt 0 x0.price)) (band (ieq x0.kind x0.kind) (band (ieq x0.order x0.order) (band (ieq x0.account 0) (band (ieq x0.symbol 0) (band (ieq x0.side 0) (band (ieq x0.qty 0) (band (ieq x0.price x0.price) (band (ieq x0.long 0) (band (ieq x0.short 0) (band (ieq x0.opn 0) (band (beq x0.on false) (band (ieq x0.seq x0.seq) (ieq x0.what x0.what))))))))))))))) (some (band (band (band (band (band (ilt 0 x0.seq) (ile x0.seq 1000000000)) (ile 1 x0.what)) (ile x0.what 6)) y3) (band (ieq x0.kind x0.kind) (band (ieq x0.order x0.order) (band (ieq x0.account 0) (band (ieq x0.symbol 0) (band (ieq x0.side 0) (band (ieq x0.qty 0) (band (ieq x0.price 0) (band (ieq x0.long 0) (band (ieq x0.short 0) (band (ieq x0.opn 0) (band (beq x0.on false) (band (ieq x0.seq x0.seq) (ieq x0.what x0.what))))))))))))))))) (some false))))))
noncomputable def NH:Cx:={ P:=PG,ety:=ety,fn:=look [(208,Dx)],inl:=dR [],lp:=aS [] }
theorem UC (x0:yC):bP NH 159 [.val .recd] [.bool] x0=rZ x0:=by kernel_rfl
def yh:aO:=mkSpec [.val .recd] [.bool] true (fun x=>rZ x)
theorem XJ:dI PG 159 yh:=
 have K:CxR NH:=aP.cx (fun _=>rfl) (l:=[(208,Dx)]) ⟨aaV,trivial⟩
 aH K (aG (l:=[]) rfl trivial) (by kernel_rfl) (fun x y h=>(UC x).trans h) rfl rfl
def lW (x0:aJ):Option (Bool):=af (rZ (yC.mk 1 x0.id x0.account x0.symbol x0.side x0.qty x0.price 0 0 0 false 0 0)) fun y0 => cnd (ay y0) (some false) (cnd (bor (bor (ilt x0.filled 0) (ilt x0.qty x0.filled)) (ilt x0.version 0)) (some false) (cnd (band (ay (band (ieq x0.newQty 0) (ieq x0.newPrice 0))) (bor (ilt x0.newQty 1) (ilt x0.newPrice 1))) (some false) (cnd (ieq x0.phase 1) (some (band (band (band (ieq x0.newQty 0) (ieq x0.newPrice 0)) (ieq x0.filled 0)) (ieq x0.version 0))) (cnd (ieq x0.phase 2) (some (ay (ieq x0.filled x0.qty))) (some (band (ieq x0.phase 3) (band (ieq x0.newQty 0) (ieq x0.newPrice 0))))))))
noncomputable def Nz:Cx:={ P:=PG,ety:=ety,fn:=look [(159,yh)],inl:=dR [],lp:=aS [] }
theorem UD (x0:aJ):bP Nz 93 [.val .order] [.bool] x0=lW x0:=by kernel_rfl
def jO:aO:=mkSpec [.val .order] [.bool] true (fun x=>lW x)
theorem BI:dI PG 93 jO:=
 have K:CxR Nz:=aP.cx (fun _=>rfl) (l:=[(159,yh)]) ⟨XJ,trivial⟩
 aH K (aG (l:=[]) rfl trivial) (by kernel_rfl) (fun x y h=>(UD x).trans h) rfl rfl
def sJ (x0:dL):Option (Bool):=some (band (band (ile 0 x0.long) (ile 0 x0.short)) (ile 0 x0.opn))
noncomputable def Nr:Cx:={ P:=PG,ety:=ety,fn:=look [],inl:=dR [],lp:=aS [] }
theorem TW (x0:dL):bP Nr 94 [.val .expo] [.bool] x0=sJ x0:=by kernel_rfl
def yG:aO:=mkSpec [.val .expo] [.bool] true (fun x=>sJ x)
theorem XA:dI PG 94 yG:=
 have K:CxR Nr:=aP.cx (fun _=>rfl) (l:=[]) trivial
 aH K (aG (l:=[]) rfl trivial) (by kernel_rfl) (fun x y h=>(TW x).trans h) rfl rfl
def o6 (x0:Int):Option (Int):=cnd (ilt x0 0) (some (wr .u64 (aj (wr .u64 (wr .i64 (aI 0 (wr .i64 (aj x0 1))))) 1))) (some (wr .u64 x0))
noncomputable def NI:Cx:={ P:=PG,ety:=ety,fn:=look [],inl:=dR [],lp:=aS [] }
theorem Uk (x0:Int):bP NI 232 [.int .i64] [.int .u64] x0=o6 x0:=by kernel_rfl
def yX:aO:=mkSpec [.int .i64] [.int .u64] true (fun x=>o6 x)
theorem Xo:dI PG 232 yX:=
 have K:CxR NI:=aP.cx (fun _=>rfl) (l:=[]) trivial
 aH K (aG (l:=[]) rfl trivial) (by kernel_rfl) (fun x y h=>(Uk x).trans h) rfl rfl
def rD (x0:Int) (x1:Int):Option (Int×Bool):=af (o6 x0) fun y0 => af (o6 x1) fun y1 => cnd (band (ilt 0 (dN .u64 y0 32)) (ilt 0 (dN .u64 y1 32))) (some (0,false)) (cnd (ile 4294967296 (wr .u64 (aj (wr .u64 (dY (dN .u64 y0 32) (wr .u64 (kL .u64 y1 4294967295)))) (wr .u64 (dY (wr .u64 (kL .u64 y0 4294967295)) (dN .u64 y1 32)))))) (some (0,false)) (cnd (bor (ilt (wr .u64 (aj (wr .u64 (qZ .u64 (wr .u64 (aj (wr .u64 (dY (dN .u64 y0 32) (wr .u64 (kL .u64 y1 4294967295)))) (wr .u64 (dY (wr .u64 (kL .u64 y0 4294967295)) (dN .u64 y1 32))))) 32)) (wr .u64 (dY (wr .u64 (kL .u64 y0 4294967295)) (wr .u64 (kL .u64 y1 4294967295)))))) (wr .u64 (dY (wr .u64 (kL .u64 y0 4294967295)) (wr .u64 (kL .u64 y1 4294967295))))) (ilt 9223372036854775808 (wr .u64 (aj (wr .u64 (qZ .u64 (wr .u64 (aj (wr .u64 (dY (dN .u64 y0 32) (wr .u64 (kL .u64 y1 4294967295)))) (wr .u64 (dY (wr .u64 (kL .u64 y0 4294967295)) (dN .u64 y1 32))))) 32)) (wr .u64 (dY (wr .u64 (kL .u64 y0 4294967295)) (wr .u64 (kL .u64 y1 4294967295)))))))) (some (0,false)) (cnd (ay (beq (ilt x0 0) (ilt x1 0))) (some (wr .i64 (wr .u64 (aI 0 (wr .u64 (aj (wr .u64 (qZ .u64 (wr .u64 (aj (wr .u64 (dY (dN .u64 y0 32) (wr .u64 (kL .u64 y1 4294967295)))) (wr .u64 (dY (wr .u64 (kL .u64 y0 4294967295)) (dN .u64 y1 32))))) 32)) (wr .u64 (dY (wr .u64 (kL .u64 y0 4294967295)) (wr .u64 (kL .u64 y1 4294967295)))))))),true)) (some (wr .i64 (wr .u64 (aj (wr .u64 (qZ .u64 (wr .u64 (aj (wr .u64 (dY (dN .u64 y0 32) (wr .u64 (kL .u64 y1 4294967295)))) (wr .u64 (dY (wr .u64 (kL .u64 y0 4294967295)) (dN .u64 y1 32))))) 32)) (wr .u64 (dY (wr .u64 (kL .u64 y0 4294967295)) (wr .u64 (kL .u64 y1 4294967295)))))),ilt (wr .u64 (aj (wr .u64 (qZ .u64 (wr .u64 (aj (wr .u64 (dY (dN .u64 y0 32) (wr .u64 (kL .u64 y1 4294967295)))) (wr .u64 (dY (wr .u64 (kL .u64 y0 4294967295)) (dN .u64 y1 32))))) 32)) (wr .u64 (dY (wr .u64 (kL .u64 y0 4294967295)) (wr .u64 (kL .u64 y1 4294967295)))))) 9223372036854775808)))))
noncomputable def PY:Cx:={ P:=PG,ety:=ety,fn:=look [(232,yX)],inl:=dR [],lp:=aS [] }
theorem XB (x0:Int) (x1:Int):bP PY 209 [.int .i64,.int .i64] [.int .i64,.bool] (x0,x1)=rD x0 x1:=by kernel_rfl
def BK:aO:=mkSpec [.int .i64,.int .i64] [.int .i64,.bool] true (fun x=>rD x.1 x.2)
theorem Zw:dI PG 209 BK:=
 have K:CxR PY:=aP.cx (fun _=>rfl) (l:=[(232,yX)]) ⟨Xo,trivial⟩
 aH K (aG (l:=[]) rfl trivial) (by kernel_rfl) (fun x y h=>(XB x.1 x.2).trans h) rfl rfl
def l9 (x0:aJ):Option (Int×Int):=af (lW x0) fun y0 => cnd (ay y0) (some (0,1)) (cnd (ieq x0.phase 3) (some (0,0)) (af (rD (wr .i64 (aI x0.qty x0.filled)) x0.price) fun y1 => cnd (ay y1.snd) (some (0,3)) (cnd (ilt x0.filled x0.newQty) (af (rD (wr .i64 (aI x0.newQty x0.filled)) x0.newPrice) fun y2 => cnd (ay y2.snd) (some (0,3)) (cnd (ilt y1.fst y2.fst) (some (y2.fst,0)) (some (y1.fst,0)))) (some (y1.fst,0)))))
noncomputable def MW:Cx:={ P:=PG,ety:=ety,fn:=look [(93,jO),(209,BK)],inl:=dR [],lp:=aS [] }
theorem UN (x0:aJ):bP MW 160 [.val .order] [.int .i64,.int .i64] x0=l9 x0:=by kernel_rfl
def yx:aO:=mkSpec [.val .order] [.int .i64,.int .i64] true (fun x=>l9 x)
theorem Xl:dI PG 160 yx:=
 have K:CxR MW:=aP.cx (fun _=>rfl) (l:=[(93,jO),(209,BK)]) ⟨BI,Zw,trivial⟩
 aH K (aG (l:=[]) rfl trivial) (by kernel_rfl) (fun x y h=>(UN x).trans h) rfl rfl
def iQ (x0:Int) (x1:Int):Option (Int×Bool):=cnd (bor (band (ilt 0 x1) (ilt (wr .i64 (aI 9223372036854775807 x1)) x0)) (band (ilt x1 0) (ilt x0 (wr .i64 (aI (-9223372036854775808) x1))))) (some (0,false)) (some (wr .i64 (aj x0 x1),true))
noncomputable def Pz:Cx:={ P:=PG,ety:=ety,fn:=look [],inl:=dR [],lp:=aS [] }
theorem Xp (x0:Int) (x1:Int):bP Pz 161 [.int .i64,.int .i64] [.int .i64,.bool] (x0,x1)=iQ x0 x1:=by kernel_rfl
def lg:aO:=mkSpec [.int .i64,.int .i64] [.int .i64,.bool] true (fun x=>iQ x.1 x.2)
theorem Fj:dI PG 161 lg:=
 have K:CxR Pz:=aP.cx (fun _=>rfl) (l:=[]) trivial
 aH K (aG (l:=[]) rfl trivial) (by kernel_rfl) (fun x y h=>(Xp x.1 x.2).trans h) rfl rfl
def kW (x0:aJ):Option (Int):=af (lW x0) fun y0 => cnd (bor (ay y0) (ieq x0.phase 3)) (some 0) (cnd (ilt x0.qty x0.newQty) (some (wr .i64 (aI x0.newQty x0.filled))) (some (wr .i64 (aI x0.qty x0.filled))))
noncomputable def OL:Cx:={ P:=PG,ety:=ety,fn:=look [(93,jO)],inl:=dR [],lp:=aS [] }
theorem WO (x0:aJ):bP OL 162 [.val .order] [.int .i64] x0=kW x0:=by kernel_rfl
def zV:aO:=mkSpec [.val .order] [.int .i64] true (fun x=>kW x)
theorem Yx:dI PG 162 zV:=
 have K:CxR OL:=aP.cx (fun _=>rfl) (l:=[(93,jO)]) ⟨BI,trivial⟩
 aH K (aG (l:=[]) rfl trivial) (by kernel_rfl) (fun x y h=>(WO x).trans h) rfl rfl
def wz (x0:Int) (x1:Int):Option (Int×Bool):=cnd (bor (band (ilt x1 0) (ilt (wr .i64 (aj 9223372036854775807 x1)) x0)) (band (ilt 0 x1) (ilt x0 (wr .i64 (aj (-9223372036854775808) x1))))) (some (0,false)) (some (wr .i64 (aI x0 x1),true))
noncomputable def PE:Cx:={ P:=PG,ety:=ety,fn:=look [],inl:=dR [],lp:=aS [] }
theorem Xm (x0:Int) (x1:Int):bP PE 210 [.int .i64,.int .i64] [.int .i64,.bool] (x0,x1)=wz x0 x1:=by kernel_rfl
def BF:aO:=mkSpec [.int .i64,.int .i64] [.int .i64,.bool] true (fun x=>wz x.1 x.2)
theorem ZF:dI PG 210 BF:=
 have K:CxR PE:=aP.cx (fun _=>rfl) (l:=[]) trivial
 aH K (aG (l:=[]) rfl trivial) (by kernel_rfl) (fun x y h=>(Xm x.1 x.2).trans h) rfl rfl
def tq (x0:aK):Option (Bool):=af (iQ x0.pos x0.buy) fun y0 => af (wz x0.sell x0.pos) fun y1 => some (band (band (band (band y0.snd y1.snd) (ile 0 x0.buy)) (ile 0 x0.sell)) (ile 0 x0.opn))
noncomputable def MK:Cx:={ P:=PG,ety:=ety,fn:=look [(161,lg),(210,BF)],inl:=dR [],lp:=aS [] }
theorem Ug (x0:aK):bP MK 163 [.val .cell] [.bool] x0=tq x0:=by kernel_rfl
def yJ:aO:=mkSpec [.val .cell] [.bool] true (fun x=>tq x)
theorem Xt:dI PG 163 yJ:=
 have K:CxR MK:=aP.cx (fun _=>rfl) (l:=[(161,lg),(210,BF)]) ⟨Fj,ZF,trivial⟩
 aH K (aG (l:=[]) rfl trivial) (by kernel_rfl) (fun x y h=>(Ug x).trans h) rfl rfl
def Ir:LSh:=⟨69,[(0,.ro .cell)],[],[],[(5,.int .i64),(4,.int .i64),(3,.bool),(2,.int .i64)],[],[]⟩
@[reducible] def Ih:List fO:=[⟨.ret,[(3,.bool),(2,.int .i64)],[],[]⟩,⟨.exit 0,[(4,.int .i64),(3,.bool),(2,.int .i64)],[],[]⟩]
def lI (p0:(List aK)) (v0:Int) (v1:Int) (v2:Bool) (v3:Int):Option ((Int×Int×Bool×Int) ⊕ ((Bool×Int) ⊕ ((Int×Bool×Int)))):=cnd (ilt v0 (len p0)) (cnd (band (ile 0 v0) (ilt v0 (len p0))) (af (iQ v1 (ai p0 (itn v0)).opn) fun y0 => cnd (ay y0.snd) (some (Sum.inr (Sum.inl (false,0)))) (some (Sum.inl (wr .i64 (aj v0 1),y0.fst,v2,v3)))) none) (some (Sum.inr (Sum.inr (v1,v2,v3))))
def FO:dU:=Ir.spec Ih [8,9,10,11,15,16,17,18,19,20,21,14,22,23,6,7,24,25,2,3,26,4,12,13,5] (fun p v=>lI p v.1 v.2.1 v.2.2.1 v.2.2.2)
def sU (x0:(List aK)):Option (Int×Bool):=af (bD (fun v => lI x0 v.fst v.snd.fst v.snd.snd.fst v.snd.snd.snd) LF (0,0,false,0)) fun y0 => gY y0 (fun y1 => some (y1.snd,y1.fst)) fun y1 => some (y1.fst,true)
noncomputable def DV:Cx:={ P:=PG,ety:=ety,fn:=look [(161,lg)],inl:=dR [],lp:=aS [(164,58,FO)] }
theorem Qp (p0:(List aK)) (v0:Int) (v1:Int) (v2:Bool) (v3:Int):fC DV 900 164 58 (dK PG 164 58) Ir Ih p0 (v0,v1,v2,v3)=lI p0 v0 v1 v2 v3:=by kernel_rfl
theorem U3 (x0:(List aK)):bP DV 164 [.ro .cell] [.int .i64,.bool] x0=sU x0:=by kernel_rfl
def yN:aO:=mkSpec [.ro .cell] [.int .i64,.bool] true (fun x=>sU x)
theorem XL:dI PG 164 yN:=
 have K:CxR DV:=aP.cx (fun _=>rfl) (l:=[(161,lg)]) ⟨Fj,trivial⟩
 aH K (aG (l:=[(164,58,FO)]) rfl ⟨bF (n:=900) (f:=164) K (by kernel_rfl) (by kernel_rfl) (by kernel_rfl) (by kernel_rfl) (by kernel_rfl) (fun p v r h=>(Qp p v.1 v.2.1 v.2.2.1 v.2.2.2).trans h),trivial⟩) (by kernel_rfl) (fun x y h=>(U3 x).trans h) rfl rfl
def Eg:LSh:=⟨153,[(5,.int .i64)],[(6,.mp 688 0),(1,.mp 8 0)],[(8,[.val .state])],[(7,.int .i64),(3,.bool),(2,.buf .cell)],[(688,[.val .cell])],[]⟩
@[reducible] def Dw:List fO:=[⟨.ret,[(3,.bool),(2,.buf .cell)],[(688,[.val .cell])],[]⟩,⟨.exit 2,[(3,.bool),(2,.buf .cell)],[(688,[.val .cell])],[]⟩]
def fQ (p0:Int) (p1:ax) (v0:Int) (v1:Bool) (v2:(List aK)) (v3:aK):Option ((Int×Bool×(List aK)×aK) ⊕ ((Bool×(List aK)×aK) ⊕ ((Bool×(List aK)×aK)))):=cnd (ilt v0 (len p1.orders)) (cnd (band (ile 0 v0) (ilt v0 (len p1.orders))) (cnd (ay (ieq (wr .i64 (aj (wr .i64 (dY (ai p1.orders (itn v0)).account p1.symbols)) (ai p1.orders (itn v0)).symbol)) p0)) (some (Sum.inl (wr .i64 (aj v0 1),v1,v2,v3))) (af (l9 (ai p1.orders (itn v0))) fun y0 => af (iQ v3.opn y0.fst) fun y1 => cnd (ieq (ai p1.orders (itn v0)).side 1) (af (kW (ai p1.orders (itn v0))) fun y2 => af (iQ v3.buy y2) fun y3 => cnd (bor (bor (ay (ieq y0.snd 0)) (ay y1.snd)) (ay y3.snd)) (some (Sum.inr (Sum.inl (false,[],v3)))) (some (Sum.inl (wr .i64 (aj v0 1),v1,v2,aK.mk v3.pos y3.fst v3.sell y1.fst)))) (af (kW (ai p1.orders (itn v0))) fun y4 => af (iQ v3.sell y4) fun y5 => cnd (bor (bor (ay (ieq y0.snd 0)) (ay y1.snd)) (ay y5.snd)) (some (Sum.inr (Sum.inl (false,[],v3)))) (some (Sum.inl (wr .i64 (aj v0 1),v1,v2,aK.mk v3.pos v3.buy y5.fst y1.fst)))))) none) (some (Sum.inr (Sum.inr (v1,v2,v3))))
def CX:dU:=Eg.spec Dw [33,34,35,36,37,40,41,42,43,44,8,45,46,47,48,49,50,51,52,53,54,56,57,55,58,59,9,10,61,62,63,64,60,65,66,11,12,67,68,69,70,13,14,15,71,72,73,75,76,77,78,79,74,80,81,83,84,85,86,87,82,88,89,90,91,92,93,94,95,96,97,98,99,2,3,100,101,102,103,104,105,38,39,7] (fun p v=>fQ p.1 p.2 v.1 v.2.1 v.2.2.1 v.2.2.2)
def Ic:LSh:=⟨70,[],[(1,.mp 8 0)],[(8,[.val .state])],[(5,.int .i64),(4,.buf .cell),(3,.bool),(2,.buf .cell)],[],[]⟩
@[reducible] def I4:List fO:=[⟨.ret,[(3,.bool),(2,.buf .cell)],[],[]⟩,⟨.exit 0,[(4,.buf .cell),(3,.bool),(2,.buf .cell)],[],[]⟩]
def iy (p0:ax) (v0:Int) (v1:(List aK)) (v2:Bool) (v3:(List aK)):Option ((Int×(List aK)×Bool×(List aK)) ⊕ ((Bool×(List aK)) ⊕ (((List aK)×Bool×(List aK))))):=cnd (ilt v0 (len p0.cells)) (cnd (band (ile 0 v0) (ilt v0 (len p0.cells))) (af (bD (fun v => fQ v0 p0 v.fst v.snd.fst v.snd.snd.fst v.snd.snd.snd) LF (0,v2,v3,aK.mk (ai p0.cells (itn v0)).pos 0 0 0)) fun y0 => gY y0 (fun y1 => some (Sum.inr (Sum.inl (y1.fst,y1.snd.fst)))) fun y1 => af (tq y1.snd.snd) fun y2 => cnd (ay y2) (some (Sum.inr (Sum.inl (false,[])))) (cnd (ile (len (dB v1 [y1.snd.snd])) 68719476736) (some (Sum.inl (wr .i64 (aj v0 1),dB v1 [y1.snd.snd],y1.fst,y1.snd.fst))) none)) none) (some (Sum.inr (Sum.inr (v1,v2,v3))))
def GR:dU:=Ic.spec I4 [19,20,21,22,23,26,27,28,29,30,31,32,6,7,33,34,35,36,37,40,41,42,43,44,8,45,46,47,48,49,50,51,52,53,54,56,57,55,58,59,9,10,61,62,63,64,60,65,66,11,12,67,68,69,70,13,14,15,71,72,73,75,76,77,78,79,74,80,81,83,84,85,86,87,82,88,89,90,91,92,93,94,95,96,97,98,99,2,3,100,101,102,103,104,105,38,39,106,107,108,109,110,111,112,4,24,25,5] (fun p v=>iy p v.1 v.2.1 v.2.2.1 v.2.2.2)
def Gf:LSh:=⟨142,[(4,.ro .cell)],[(1,.mp 8 0)],[(8,[.val .state])],[(16,.int .i64),(3,.bool),(2,.buf .cell)],[],[]⟩
@[reducible] def Gy:List fO:=[⟨.ret,[(3,.bool),(2,.buf .cell)],[],[]⟩,⟨.exit 4,[(3,.bool),(2,.buf .cell)],[],[]⟩]
def gK (p0:(List aK)) (p1:ax) (v0:Int) (v1:Bool) (v2:(List aK)):Option ((Int×Bool×(List aK)) ⊕ ((Bool×(List aK)) ⊕ ((Bool×(List aK))))):=cnd (ilt v0 p1.accounts) (cnd (band (band (ile 0 (wr .i64 (dY v0 p1.symbols))) (ile (wr .i64 (dY v0 p1.symbols)) (wr .i64 (dY (wr .i64 (aj v0 1)) p1.symbols)))) (ile (wr .i64 (dY (wr .i64 (aj v0 1)) p1.symbols)) (len p0))) (af (sU (aA (aN p0 (itn (wr .i64 (dY v0 p1.symbols)))) (itn (aI (wr .i64 (dY (wr .i64 (aj v0 1)) p1.symbols)) (wr .i64 (dY v0 p1.symbols)))))) fun y0 => cnd (ay y0.snd) (some (Sum.inr (Sum.inl (false,[])))) (some (Sum.inl (wr .i64 (aj v0 1),v1,v2)))) none) (some (Sum.inr (Sum.inr (v1,v2))))
def EW:dU:=Gf.spec Gy [113,114,115,116,120,121,122,123,124,125,126,127,128,129,130,131,119,132,133,17,18,134,135,2,3,117,118,16] (fun p v=>gK p.1 p.2 v.1 v.2.1 v.2.2)
def jv (x0:ax):Option ((List aK)×Bool):=af (bD (fun v => iy x0 v.fst v.snd.fst v.snd.snd.fst v.snd.snd.snd) LF (0,[],false,[])) fun y0 => gY y0 (fun y1 => some (y1.snd,y1.fst)) fun y1 => af (bD (fun v => gK y1.fst x0 v.fst v.snd.fst v.snd.snd) LF (0,y1.snd)) fun y2 => gY y2 (fun y3 => some (y3.snd,y3.fst)) fun y3 => some (y1.fst,true)
noncomputable def sF:Cx:={ P:=PG,ety:=ety,fn:=look [(160,yx),(161,lg),(162,zV),(163,yJ),(164,yN)],inl:=dR [],lp:=aS [(95,14922,CX),(95,58,GR),(95,122,EW)] }
theorem Nh (p0:Int) (p1:ax) (v0:Int) (v1:Bool) (v2:(List aK)) (v3:aK):fC sF 900 95 14922 (dK PG 95 14922) Eg Dw (p0,p1) (v0,v1,v2,v3)=fQ p0 p1 v0 v1 v2 v3:=by kernel_rfl
theorem Qu (p0:ax) (v0:Int) (v1:(List aK)) (v2:Bool) (v3:(List aK)):fC sF 900 95 58 (dK PG 95 58) Ic I4 p0 (v0,v1,v2,v3)=iy p0 v0 v1 v2 v3:=by kernel_rfl
theorem OX (p0:(List aK)) (p1:ax) (v0:Int) (v1:Bool) (v2:(List aK)):fC sF 900 95 122 (dK PG 95 122) Gf Gy (p0,p1) (v0,v1,v2)=gK p0 p1 v0 v1 v2:=by kernel_rfl
theorem U5 (x0:ax):bP sF 95 [.val .state] [.ro .cell,.bool] x0=jv x0:=by kernel_rfl
def oV:aO:=mkSpec [.val .state] [.ro .cell,.bool] false (fun x=>jv x)
theorem Kz:dI PG 95 oV:=
 have K:CxR sF:=aP.cx (fun _=>rfl) (l:=[(160,yx),(161,lg),(162,zV),(163,yJ),(164,yN)]) ⟨Xl,Fj,Yx,Xt,XL,trivial⟩
 aH K (aG (l:=[(95,14922,CX),(95,58,GR),(95,122,EW)]) rfl ⟨bF (n:=900) (f:=95) K (by kernel_rfl) (by kernel_rfl) (by kernel_rfl) (by kernel_rfl) (by kernel_rfl) (fun p v r h=>(Nh p.1 p.2 v.1 v.2.1 v.2.2.1 v.2.2.2).trans h),
  bF (n:=900) (f:=95) K (by kernel_rfl) (by kernel_rfl) (by kernel_rfl) (by kernel_rfl) (by kernel_rfl) (fun p v r h=>(Qu p v.1 v.2.1 v.2.2.1 v.2.2.2).trans h),
  bF (n:=900) (f:=95) K (by kernel_rfl) (by kernel_rfl) (by kernel_rfl) (by kernel_rfl) (by kernel_rfl) (fun p v r h=>(OX p.1 p.2 v.1 v.2.1 v.2.2).trans h),trivial⟩) (by kernel_rfl) (fun x y h=>(U5 x).trans h) rfl rfl
def Gg:LSh:=⟨150,[],[(1,.mp 8 0)],[(8,[.val .state])],[(3,.int .i64),(2,.bool)],[],[]⟩
@[reducible] def GZ:List fO:=[⟨.ret,[(2,.bool)],[],[]⟩,⟨.exit 0,[(2,.bool)],[],[]⟩]
def kS (p0:ax) (v0:Int) (v1:Bool):Option ((Int×Bool) ⊕ ((Bool) ⊕ ((Bool)))):=cnd (ilt v0 (len p0.orders)) (cnd (band (ile 0 v0) (ilt v0 (len p0.orders))) (af (lW (ai p0.orders (itn v0))) fun y0 => cnd (bor (band (ile 0 (wr .i64 (aI v0 1))) (ilt (wr .i64 (aI v0 1)) (len p0.orders))) (ay (band (ay (bor (bor (bor (bor (ay y0) (ieq (ai p0.orders (itn v0)).phase 3)) (ile p0.accounts (ai p0.orders (itn v0)).account)) (ile p0.symbols (ai p0.orders (itn v0)).symbol)) (ilt p0.last (ai p0.orders (itn v0)).id))) (ilt 0 v0)))) (cnd (bor (bor (bor (bor (bor (ay y0) (ieq (ai p0.orders (itn v0)).phase 3)) (ile p0.accounts (ai p0.orders (itn v0)).account)) (ile p0.symbols (ai p0.orders (itn v0)).symbol)) (ilt p0.last (ai p0.orders (itn v0)).id)) (band (ilt 0 v0) (ile (ai p0.orders (itn v0)).id (ai p0.orders (itn (wr .i64 (aI v0 1)))).id))) (some (Sum.inr (Sum.inl false))) (some (Sum.inl (wr .i64 (aj v0 1),v1)))) none) none) (some (Sum.inr (Sum.inr v1)))
def Fa:dU:=Gg.spec GZ [92,93,94,95,96,99,100,101,102,103,4,104,105,106,107,108,109,110,111,112,113,114,115,116,117,118,119,120,121,122,123,124,125,126,127,128,129,130,131,132,133,134,135,136,137,138,139,140,141,142,143,144,145,146,147,148,2,97,98,3] (fun p v=>kS p v.1 v.2)
def GY:LSh:=⟨218,[],[(1,.mp 8 0)],[(8,[.val .state])],[(5,.int .i64),(2,.bool)],[],[]⟩
@[reducible] def FK:List fO:=[⟨.ret,[(2,.bool)],[],[]⟩,⟨.exit 2,[(2,.bool)],[],[]⟩]
def kV (p0:ax) (v0:Int) (v1:Bool):Option ((Int×Bool) ⊕ ((Bool) ⊕ ((Bool)))):=cnd (ilt v0 (len p0.limits)) (cnd (band (ile 0 v0) (ilt v0 (len p0.limits))) (af (sJ (ai p0.limits (itn v0))) fun y0 => cnd (ay y0) (some (Sum.inr (Sum.inl false))) (some (Sum.inl (wr .i64 (aj v0 1),v1)))) none) (some (Sum.inr (Sum.inr v1)))
def EJ:dU:=GY.spec FK [149,150,151,152,153,156,157,158,159,160,161,162,2,154,155,5] (fun p v=>kV p v.1 v.2)
def Gq:LSh:=⟨286,[],[(1,.mp 8 0)],[(8,[.val .state])],[(6,.int .i64),(2,.bool)],[],[]⟩
@[reducible] def Gu:List fO:=[⟨.ret,[(2,.bool)],[],[]⟩,⟨.exit 4,[(2,.bool)],[],[]⟩]
def kR (p0:ax) (v0:Int) (v1:Bool):Option ((Int×Bool) ⊕ ((Bool) ⊕ ((Bool)))):=cnd (ilt v0 (len p0.caps)) (cnd (band (ile 0 v0) (ilt v0 (len p0.caps))) (cnd (ilt (ai p0.caps (itn v0)) 0) (some (Sum.inr (Sum.inl false))) (some (Sum.inl (wr .i64 (aj v0 1),v1)))) none) (some (Sum.inr (Sum.inr v1)))
def ET:dU:=Gq.spec Gu [163,164,165,166,167,170,171,172,173,174,175,2,168,169,6] (fun p v=>kR p v.1 v.2)
def ES:LSh:=⟨363,[(7,.ro .cell)],[(1,.mp 8 0)],[(8,[.val .state])],[(9,.int .i64),(2,.bool)],[],[]⟩
@[reducible] def EU:List fO:=[⟨.ret,[(2,.bool)],[],[]⟩,⟨.exit 6,[(2,.bool)],[],[]⟩]
def ku (p0:(List aK)) (p1:ax) (v0:Int) (v1:Bool):Option ((Int×Bool) ⊕ ((Bool) ⊕ ((Bool)))):=cnd (ilt v0 (len p0)) (cnd (band (ile 0 v0) (ilt v0 (len p0))) (cnd (band (ile 0 v0) (ilt v0 (len p1.cells))) (cnd (ay (band (ieq (ai p0 (itn v0)).pos (ai p1.cells (itn v0)).pos) (band (ieq (ai p0 (itn v0)).buy (ai p1.cells (itn v0)).buy) (band (ieq (ai p0 (itn v0)).sell (ai p1.cells (itn v0)).sell) (ieq (ai p0 (itn v0)).opn (ai p1.cells (itn v0)).opn))))) (some (Sum.inr (Sum.inl false))) (some (Sum.inl (wr .i64 (aj v0 1),v1)))) none) none) (some (Sum.inr (Sum.inr v1)))
def Dy:dU:=ES.spec EU [183,184,185,186,189,190,191,192,193,194,195,196,197,198,2,187,188,9] (fun p v=>ku p.1 p.2 v.1 v.2)
def pI (x0:ax):Option (Bool):=cnd (bor (bor (bor (bor (bor (bor (bor (ilt x0.accounts 1) (ilt 8 x0.accounts)) (ilt x0.symbols 1)) (ilt 8 x0.symbols)) (ay (ieq (len x0.cells) (wr .i64 (dY x0.accounts x0.symbols))))) (ay (ieq (len x0.limits) (wr .i64 (dY x0.accounts x0.symbols))))) (ay (ieq (len x0.caps) x0.accounts))) (ilt 64 (len x0.orders))) (some false) (cnd (bor (bor (bor (bor (bor (ilt x0.last 0) (ilt 1000000000000 x0.last)) (ilt x0.seq 0)) (ilt 1000000000 x0.seq)) (ilt x0.lsn 0)) (ilt 1000000000 x0.lsn)) (some false) (af (bD (fun v => kS x0 v.fst v.snd) LF (0,false)) fun y0 => gY y0 (fun y1 => some y1) fun y1 => af (bD (fun v => kV x0 v.fst v.snd) LF (0,y1)) fun y2 => gY y2 (fun y3 => some y3) fun y3 => af (bD (fun v => kR x0 v.fst v.snd) LF (0,y3)) fun y4 => gY y4 (fun y5 => some y5) fun y5 => af (jv x0) fun y6 => cnd (ay y6.snd) (some false) (af (bD (fun v => ku y6.fst x0 v.fst v.snd) LF (0,y5)) fun y7 => gY y7 (fun y8 => some y8) fun y8 => some true)))
noncomputable def pG:Cx:={ P:=PG,ety:=ety,fn:=look [(93,jO),(94,yG),(95,oV)],inl:=dR [],lp:=aS [(38,122,Fa),(38,250,EJ),(38,506,ET),(38,4090,Dy)] }
theorem OU (p0:ax) (v0:Int) (v1:Bool):fC pG 900 38 122 (dK PG 38 122) Gg GZ p0 (v0,v1)=kS p0 v0 v1:=by kernel_rfl
theorem O9 (p0:ax) (v0:Int) (v1:Bool):fC pG 900 38 250 (dK PG 38 250) GY FK p0 (v0,v1)=kV p0 v0 v1:=by kernel_rfl
theorem O5 (p0:ax) (v0:Int) (v1:Bool):fC pG 900 38 506 (dK PG 38 506) Gq Gu p0 (v0,v1)=kR p0 v0 v1:=by kernel_rfl
theorem NT (p0:(List aK)) (p1:ax) (v0:Int) (v1:Bool):fC pG 900 38 4090 (dK PG 38 4090) ES EU (p0,p1) (v0,v1)=ku p0 p1 v0 v1:=by kernel_rfl
theorem Uf (x0:ax):bP pG 38 [.val .state] [.bool] x0=pI x0:=by kernel_rfl
def o7:aO:=mkSpec [.val .state] [.bool] true (fun x=>pI x)
theorem KH:dI PG 38 o7:=
 have K:CxR pG:=aP.cx (fun _=>rfl) (l:=[(93,jO),(94,yG),(95,oV)]) ⟨BI,XA,Kz,trivial⟩
 aH K (aG (l:=[(38,122,Fa),(38,250,EJ),(38,506,ET),(38,4090,Dy)]) rfl ⟨bF (n:=900) (f:=38) K (by kernel_rfl) (by kernel_rfl) (by kernel_rfl) (by kernel_rfl) (by kernel_rfl) (fun p v r h=>(OU p v.1 v.2).trans h),
  bF (n:=900) (f:=38) K (by kernel_rfl) (by kernel_rfl) (by kernel_rfl) (by kernel_rfl) (by kernel_rfl) (fun p v r h=>(O9 p v.1 v.2).trans h),
  bF (n:=900) (f:=38) K (by kernel_rfl) (by kernel_rfl) (by kernel_rfl) (by kernel_rfl) (by kernel_rfl) (fun p v r h=>(O5 p v.1 v.2).trans h),
  bF (n:=900) (f:=38) K (by kernel_rfl) (by kernel_rfl) (by kernel_rfl) (by kernel_rfl) (by kernel_rfl) (fun p v r h=>(NT p.1 p.2 v.1 v.2).trans h),trivial⟩) (by kernel_rfl) (fun x y h=>(Uf x).trans h) rfl rfl
def Gs:LSh:=⟨150,[],[],[],[(7,.int .i64),(5,.int .u32)],[],[]⟩
@[reducible] def F9:List fO:=[⟨.exit 2,[(5,.int .u32)],[],[]⟩]
def ou (v0:Int) (v1:Int):Option ((Int×Int) ⊕ ((Int))):=cnd (ilt v0 8) (cnd (ieq (vI v1 2) 1) (some (Sum.inl (wr .i64 (aj v0 1),wr .u32 (iG .u32 (wr .u32 (JA v1 2)) 3988292384)))) (some (Sum.inl (wr .i64 (aj v0 1),wr .u32 (JA v1 2))))) (some (Sum.inr v1))
def ER:dU:=Gs.spec F9 [23,24,27,28,29,30,31,32,5,33,34,25,26,7] (fun p v=>ou v.1 v.2)
def Js:LSh:=⟨71,[(1,.ro .u8)],[],[],[(6,.int .i64),(5,.int .u32)],[],[]⟩
@[reducible] def J7:List fO:=[⟨.exit 0,[(5,.int .u32)],[],[]⟩]
def qp (p0:(List Int)) (v0:Int) (v1:Int):Option ((Int×Int) ⊕ ((Int))):=cnd (ilt v0 (len p0)) (cnd (band (ile 0 v0) (ilt v0 (len p0))) (af (bD (fun v => ou v.fst v.snd) LF (0,wr .u32 (iG .u32 v1 (wr .u32 (ai p0 (itn v0)))))) fun y0 => some (Sum.inl (wr .i64 (aj v0 1),y0))) none) (some (Sum.inr v1))
def Iy:dU:=Js.spec J7 [10,11,12,13,16,17,18,19,20,21,22,5,7,23,24,27,28,29,30,31,32,33,34,25,26,14,15,6] (fun p v=>qp p v.1 v.2)
def xZ (x0:Int) (x1:(List Int)):Option (Int):=af (bD (fun v => qp x1 v.fst v.snd) LF (0,wr .u32 (iG .u32 x0 4294967295))) fun y0 => some (wr .u32 (iG .u32 y0 4294967295))
noncomputable def xY:Cx:={ P:=PG,ety:=ety,fn:=look [],inl:=dR [],lp:=aS [(165,7462,ER),(165,58,Iy)] }
theorem O6 (v0:Int) (v1:Int):fC xY 900 165 7462 (dK PG 165 7462) Gs F9 () (v0,v1)=ou v0 v1:=by kernel_rfl
theorem Ro (p0:(List Int)) (v0:Int) (v1:Int):fC xY 900 165 58 (dK PG 165 58) Js J7 p0 (v0,v1)=qp p0 v0 v1:=by kernel_rfl
theorem VK (x0:Int) (x1:(List Int)):bP xY 165 [.int .u32,.ro .u8] [.int .u32] (x0,x1)=xZ x0 x1:=by kernel_rfl
def Aq:aO:=mkSpec [.int .u32,.ro .u8] [.int .u32] true (fun x=>xZ x.1 x.2)
theorem X0:dI PG 165 Aq:=
 have K:CxR xY:=aP.cx (fun _=>rfl) (l:=[]) trivial
 aH K (aG (l:=[(165,7462,ER),(165,58,Iy)]) rfl ⟨bF (n:=900) (f:=165) K (by kernel_rfl) (by kernel_rfl) (by kernel_rfl) (by kernel_rfl) (by kernel_rfl) (fun p v r h=>(O6 v.1 v.2).trans h),
  bF (n:=900) (f:=165) K (by kernel_rfl) (by kernel_rfl) (by kernel_rfl) (by kernel_rfl) (by kernel_rfl) (fun p v r h=>(Ro p v.1 v.2).trans h),trivial⟩) (by kernel_rfl) (fun x y h=>(VK x.1 x.2).trans h) rfl rfl
def lV (x0:(List Int)):Option (Int):=af (xZ 0 x0) fun y0 => some y0
noncomputable def Qa:Cx:={ P:=PG,ety:=ety,fn:=look [(165,Aq)],inl:=dR [],lp:=aS [] }
theorem XH (x0:(List Int)):bP Qa 105 [.ro .u8] [.int .u32] x0=lV x0:=by kernel_rfl
def iT:aO:=mkSpec [.ro .u8] [.int .u32] true (fun x=>lV x)
theorem yc:dI PG 105 iT:=
 have K:CxR Qa:=aP.cx (fun _=>rfl) (l:=[(165,Aq)]) ⟨X0,trivial⟩
 aH K (aG (l:=[]) rfl trivial) (by kernel_rfl) (fun x y h=>(XH x).trans h) rfl rfl
def pq (x0:dw):Option (Bool):=some (band (band (band (ilt 0 x0.gen) (ilt x0.gen 1000000001)) (ilt (-1) x0.lsn)) (ilt x0.lsn 1000000001))
noncomputable def MN:Cx:={ P:=PG,ety:=ety,fn:=look [],inl:=dR [],lp:=aS [] }
theorem Ui (x0:dw):bP MN 106 [.val .slot] [.bool] x0=pq x0:=by kernel_rfl
def oZ:aO:=mkSpec [.val .slot] [.bool] true (fun x=>pq x)
theorem KE:dI PG 106 oZ:=
 have K:CxR MN:=aP.cx (fun _=>rfl) (l:=[]) trivial
 aH K (aG (l:=[]) rfl trivial) (by kernel_rfl) (fun x y h=>(Ui x).trans h) rfl rfl
def E8:LSh:=⟨75,[(0,.ro .u8)],[(2,.mp 8 0)],[],[(5,.int .i64),(4,.int .u32),(3,.int .i64)],[(8,[.val .slot])],[]⟩
@[reducible] def EP:List fO:=[⟨.ret,[(3,.int .i64)],[(8,[.val .slot])],[]⟩,⟨.exit 0,[(3,.int .i64)],[(8,[.val .slot])],[]⟩]
def kF (p0:(List Int)) (v0:Int) (v1:Int) (v2:Int) (v3:dw):Option ((Int×Int×Int×dw) ⊕ ((Int×dw) ⊕ ((Int×dw)))):=cnd (ilt v0 4) (cnd (band (ile 0 (wr .i64 (aj 16 v0))) (ilt (wr .i64 (aj 16 v0)) (len p0))) (cnd (ay (ieq (ai p0 (itn (wr .i64 (aj 16 v0)))) (wr .u8 (vI v1 256)))) (some (Sum.inr (Sum.inl (10,dw.mk 0 0)))) (some (Sum.inl (wr .i64 (aj v0 1),wr .u32 (JA v1 256),v2,v3)))) none) (some (Sum.inr (Sum.inr (v2,v3))))
def Dj:dU:=E8.spec EP [17,18,21,22,23,24,25,26,27,28,29,30,3,31,32,4,19,20,5] (fun p v=>kF p v.1 v.2.1 v.2.2.1 v.2.2.2)
def EG:LSh:=⟨148,[(0,.ro .u8)],[],[],[(8,.int .i64),(7,.int .u64),(6,.int .u64)],[],[]⟩
@[reducible] def EX:List fO:=[⟨.exit 2,[(7,.int .u64),(6,.int .u64)],[],[]⟩]
def kG (p0:(List Int)) (v0:Int) (v1:Int) (v2:Int):Option ((Int×Int×Int) ⊕ ((Int×Int))):=cnd (ilt v0 8) (cnd (band (ile 0 v0) (ilt v0 (len p0))) (cnd (band (ile 0 (wr .i64 (aj 8 v0))) (ilt (wr .i64 (aj 8 v0)) (len p0))) (some (Sum.inl (wr .i64 (aj v0 1),wr .u64 (aj (wr .u64 (dY v1 256)) (wr .u64 (ai p0 (itn (wr .i64 (aj 8 v0)))))),wr .u64 (aj (wr .u64 (dY v2 256)) (wr .u64 (ai p0 (itn v0))))))) none) none) (some (Sum.inr (v1,v2)))
def Dk:dU:=EG.spec EX [33,34,37,38,39,40,41,42,43,44,6,45,46,47,48,49,50,51,52,53,7,35,36,8] (fun p v=>kG p v.1 v.2.1 v.2.2)
def qR (x0:(List Int)):Option (dw×Int):=cnd (ay (ieq (len x0) 20)) (some (dw.mk 0 0,2)) (cnd (ile 16 (len x0)) (af (lV (aA x0 16)) fun y0 => af (bD (fun v => kF x0 v.fst v.snd.fst v.snd.snd.fst v.snd.snd.snd) LF (0,y0,0,dw.mk 0 0)) fun y1 => gY y1 (fun y2 => some (y2.snd,y2.fst)) fun y2 => af (bD (fun v => kG x0 v.fst v.snd.fst v.snd.snd) LF (0,0,0)) fun y3 => af (pq (dw.mk (wr .i64 y3.snd) (wr .i64 y3.fst))) fun y4 => cnd (ay y4) (some (dw.mk 0 0,2)) (some (dw.mk (wr .i64 y3.snd) (wr .i64 y3.fst),0))) none)
noncomputable def wF:Cx:={ P:=PG,ety:=ety,fn:=look [(105,iT),(106,oZ)],inl:=dR [],lp:=aS [(96,122,Dj),(96,506,Dk)] }
theorem N9 (p0:(List Int)) (v0:Int) (v1:Int) (v2:Int) (v3:dw):fC wF 900 96 122 (dK PG 96 122) E8 EP p0 (v0,v1,v2,v3)=kF p0 v0 v1 v2 v3:=by kernel_rfl
theorem Oe (p0:(List Int)) (v0:Int) (v1:Int) (v2:Int):fC wF 900 96 506 (dK PG 96 506) EG EX p0 (v0,v1,v2)=kG p0 v0 v1 v2:=by kernel_rfl
theorem TA (x0:(List Int)):bP wF 96 [.ro .u8] [.val .slot,.int .i64] x0=qR x0:=by kernel_rfl
def xJ:aO:=mkSpec [.ro .u8] [.val .slot,.int .i64] true (fun x=>qR x)
theorem WG:dI PG 96 xJ:=
 have K:CxR wF:=aP.cx (fun _=>rfl) (l:=[(105,iT),(106,oZ)]) ⟨yc,KE,trivial⟩
 aH K (aG (l:=[(96,122,Dj),(96,506,Dk)]) rfl ⟨bF (n:=900) (f:=96) K (by kernel_rfl) (by kernel_rfl) (by kernel_rfl) (by kernel_rfl) (by kernel_rfl) (fun p v r h=>(N9 p v.1 v.2.1 v.2.2.1 v.2.2.2).trans h),
  bF (n:=900) (f:=96) K (by kernel_rfl) (by kernel_rfl) (by kernel_rfl) (by kernel_rfl) (by kernel_rfl) (fun p v r h=>(Oe p v.1 v.2.1 v.2.2).trans h),trivial⟩) (by kernel_rfl) (fun x y h=>(TA x).trans h) rfl rfl
def qy (x0:Int):Option ((List UInt8)):=cnd (ay (ieq (vI x0 2) 0)) (some [(UInt8.ofNat 115),(UInt8.ofNat 108),(UInt8.ofNat 111),(UInt8.ofNat 116),(UInt8.ofNat 46),(UInt8.ofNat 49)]) (some [(UInt8.ofNat 115),(UInt8.ofNat 108),(UInt8.ofNat 111),(UInt8.ofNat 116),(UInt8.ofNat 46),(UInt8.ofNat 48)])
noncomputable def OQ:Cx:={ P:=PG,ety:=ety,fn:=look [],inl:=dR [],lp:=aS [] }
theorem VR (x0:Int):bP OQ 97 [.int .i64] [.str] x0=qy x0:=by kernel_rfl
def pR:aO:=mkSpec [.int .i64] [.str] true (fun x=>qy x)
theorem Nq:dI PG 97 pR:=
 have K:CxR OQ:=aP.cx (fun _=>rfl) (l:=[]) trivial
 aH K (aG (l:=[]) rfl trivial) (by kernel_rfl) (fun x y h=>(VR x).trans h) rfl rfl
def IJ:LSh:=⟨75,[],[(4,.mp 72 0),(1,.mp 8 0)],[(8,[.val .disk])],[(5,.int .i64)],[(72,[.val .slot])],[]⟩
@[reducible] def IZ:List fO:=[⟨.exit 0,[],[(72,[.val .slot])],[]⟩]
def lM (p0:au) (v0:Int) (v1:dw):Option ((Int×dw) ⊕ ((dw))):=cnd (ilt v0 (len p0.files)) (cnd (band (ile 0 v0) (ilt v0 (len p0.files))) (af (qR (ai p0.files (itn v0)).data) fun y0 => cnd (bor (band (ile 0 v0) (ilt v0 (len p0.files))) (ay (ieq y0.snd 0))) (af (cnd (ieq y0.snd 0) (qy y0.fst.gen) (some [])) fun y1 => cnd (band (band (ieq y0.snd 0) (seq (ai p0.files (itn v0)).name y1)) (ilt v1.gen y0.fst.gen)) (some (Sum.inl (wr .i64 (aj v0 1),y0.fst))) (some (Sum.inl (wr .i64 (aj v0 1),v1)))) none) none) (some (Sum.inr v1))
def FV:dU:=IJ.spec IZ [15,16,17,18,19,23,24,25,26,27,28,29,22,30,31,6,7,32,33,34,35,36,37,38,39,40,41,42,43,44,45,46,47,48,49,50,51,52,53,20,21,5] (fun p v=>lM p v.1 v.2)
def nM (x0:au):Option (dw×Int):=af (lU x0) fun y0 => cnd (ay y0) (some (dw.mk 0 0,1)) (cnd x0.down (some (dw.mk 0 0,9)) (af (bD (fun v => lM x0 v.fst v.snd) LF (0,dw.mk 0 0)) fun y1 => cnd (ieq y1.gen 0) (some (y1,7)) (some (y1,0))))
noncomputable def Fq:Cx:={ P:=PG,ety:=ety,fn:=look [(37,jP),(96,xJ),(97,pR)],inl:=dR [],lp:=aS [(39,250,FV)] }
theorem PX (p0:au) (v0:Int) (v1:dw):fC Fq 900 39 250 (dK PG 39 250) IJ IZ p0 (v0,v1)=lM p0 v0 v1:=by kernel_rfl
theorem WQ (x0:au):bP Fq 39 [.val .disk] [.val .slot,.int .i64] x0=nM x0:=by kernel_rfl
def kH:aO:=mkSpec [.val .disk] [.val .slot,.int .i64] true (fun x=>nM x)
theorem D8:dI PG 39 kH:=
 have K:CxR Fq:=aP.cx (fun _=>rfl) (l:=[(37,jP),(96,xJ),(97,pR)]) ⟨BM,WG,Nq,trivial⟩
 aH K (aG (l:=[(39,250,FV)]) rfl ⟨bF (n:=900) (f:=39) K (by kernel_rfl) (by kernel_rfl) (by kernel_rfl) (by kernel_rfl) (by kernel_rfl) (fun p v r h=>(PX p v.1 v.2).trans h),trivial⟩) (by kernel_rfl) (fun x y h=>(WQ x).trans h) rfl rfl
def JX:LSh:=⟨69,[(1,.str)],[(2,.mp 16 0)],[(16,[.val .disk])],[(5,.int .i64),(4,.int .i64)],[],[]⟩
@[reducible] def Jz:List fO:=[⟨.ret,[(4,.int .i64)],[],[]⟩,⟨.exit 0,[(4,.int .i64)],[],[]⟩]
def mQ (p0:(List UInt8)) (p1:au) (v0:Int) (v1:Int):Option ((Int×Int) ⊕ ((Int) ⊕ ((Int)))):=cnd (ilt v0 (len p1.files)) (cnd (band (ile 0 v0) (ilt v0 (len p1.files))) (cnd (seq (ai p1.files (itn v0)).name p0) (some (Sum.inr (Sum.inl v0))) (some (Sum.inl (wr .i64 (aj v0 1),v1)))) none) (some (Sum.inr (Sum.inr v1)))
def Ja:dU:=JX.spec Jz [6,7,8,9,10,13,14,15,16,17,18,19,20,21,4,11,12,5] (fun p v=>mQ p.1 p.2 v.1 v.2)
def gy (x0:au) (x1:(List UInt8)):Option (Int):=af (bD (fun v => mQ x1 x0 v.fst v.snd) LF (0,0)) fun y0 => gY y0 (fun y1 => some y1) fun y1 => some (-1)
noncomputable def Fv:Cx:={ P:=PG,ety:=ety,fn:=look [],inl:=dR [],lp:=aS [(40,26,Ja)] }
theorem Rf (p0:(List UInt8)) (p1:au) (v0:Int) (v1:Int):fC Fv 900 40 26 (dK PG 40 26) JX Jz (p0,p1) (v0,v1)=mQ p0 p1 v0 v1:=by kernel_rfl
theorem Wj (x0:au) (x1:(List UInt8)):bP Fv 40 [.val .disk,.str] [.int .i64] (x0,x1)=gy x0 x1:=by kernel_rfl
def dF:aO:=mkSpec [.val .disk,.str] [.int .i64] true (fun x=>gy x.1 x.2)
theorem jZ:dI PG 40 dF:=
 have K:CxR Fv:=aP.cx (fun _=>rfl) (l:=[]) trivial
 aH K (aG (l:=[(40,26,Ja)]) rfl ⟨bF (n:=900) (f:=40) K (by kernel_rfl) (by kernel_rfl) (by kernel_rfl) (by kernel_rfl) (by kernel_rfl) (fun p v r h=>(Rf p.1 p.2 v.1 v.2).trans h),trivial⟩) (by kernel_rfl) (fun x y h=>(Wj x.1 x.2).trans h) rfl rfl
def jA (x0:au) (x1:(List UInt8)) (x2:(List UInt8)):Option (Int):=af (lU x0) fun y0 => cnd (ay y0) (some 1) (cnd x0.down (some 9) (af (lZ x1) fun y1 => af (cnd (ay (ay y1)) (lZ x2) (some false)) fun y2 => cnd (bor (ay y1) (ay y2)) (some 1) (some 0)))
noncomputable def Nu:Cx:={ P:=PG,ety:=ety,fn:=look [(37,jP),(92,oQ)],inl:=dR [],lp:=aS [] }
theorem Um (x0:au) (x1:(List UInt8)) (x2:(List UInt8)):bP Nu 98 [.val .disk,.str,.str] [.int .i64] (x0,x1,x2)=jA x0 x1 x2:=by kernel_rfl
def fE:aO:=mkSpec [.val .disk,.str,.str] [.int .i64] true (fun x=>jA x.1 x.2.1 x.2.2)
theorem qM:dI PG 98 fE:=
 have K:CxR Nu:=aP.cx (fun _=>rfl) (l:=[(37,jP),(92,oQ)]) ⟨BM,KI,trivial⟩
 aH K (aG (l:=[]) rfl trivial) (by kernel_rfl) (fun x y h=>(Um x.1 x.2.1 x.2.2).trans h) rfl rfl
def gQ (x0:au):Option (au×Bool):=cnd (ieq x0.fuse 0) (some (au.mk x0.files x0.room x0.fuse true,false)) (cnd (ilt 0 x0.fuse) (some (au.mk x0.files x0.room (wr .i64 (aI x0.fuse 1)) x0.down,true)) (some (x0,true)))
noncomputable def MX:Cx:={ P:=PG,ety:=ety,fn:=look [],inl:=dR [],lp:=aS [] }
theorem Ue (x0:au):bP MX 99 [.val .disk] [.val .disk,.bool] x0=gQ x0:=by kernel_rfl
def fD:aO:=mkSpec [.val .disk] [.val .disk,.bool] false (fun x=>gQ x)
theorem qU:dI PG 99 fD:=
 have K:CxR MX:=aP.cx (fun _=>rfl) (l:=[]) trivial
 aH K (aG (l:=[]) rfl trivial) (by kernel_rfl) (fun x y h=>(Ue x).trans h) rfl rfl
def EK:LSh:=⟨70,[(1,.str)],[(2,.mp 16 0)],[(16,[.val .disk])],[(6,.int .i64),(5,.buf .file)],[],[]⟩
@[reducible] def EC:List fO:=[⟨.exit 0,[(5,.buf .file)],[],[]⟩]
def kE (p0:(List UInt8)) (p1:au) (v0:Int) (v1:(List aF)):Option ((Int×(List aF)) ⊕ (((List aF)))):=cnd (ilt v0 (len p1.files)) (cnd (band (ile 0 v0) (ilt v0 (len p1.files))) (cnd (ay (seq (ai p1.files (itn v0)).name p0)) (cnd (band (ile 0 v0) (ilt v0 (len p1.files))) (cnd (ile (len (dB v1 [ai p1.files (itn v0)])) 68719476736) (some (Sum.inl (wr .i64 (aj v0 1),dB v1 [ai p1.files (itn v0)]))) none) none) (some (Sum.inl (wr .i64 (aj v0 1),v1)))) none) (some (Sum.inr v1))
def Ea:dU:=EK.spec EC [7,8,9,10,11,14,15,16,17,18,19,20,21,22,23,24,25,26,27,28,29,5,12,13,6] (fun p v=>kE p.1 p.2 v.1 v.2)
def mV (x0:au) (x1:(List UInt8)):Option (au):=af (bD (fun v => kE x1 x0 v.fst v.snd) LF (0,[])) fun y0 => some (au.mk y0 x0.room x0.fuse x0.down)
noncomputable def zL:Cx:={ P:=PG,ety:=ety,fn:=look [],inl:=dR [],lp:=aS [(100,58,Ea)] }
theorem NQ (p0:(List UInt8)) (p1:au) (v0:Int) (v1:(List aF)):fC zL 900 100 58 (dK PG 100 58) EK EC (p0,p1) (v0,v1)=kE p0 p1 v0 v1:=by kernel_rfl
theorem Rh (x0:au) (x1:(List UInt8)):bP zL 100 [.val .disk,.str] [.val .disk] (x0,x1)=mV x0 x1:=by kernel_rfl
def nG:aO:=mkSpec [.val .disk,.str] [.val .disk] false (fun x=>mV x.1 x.2)
theorem IC:dI PG 100 nG:=
 have K:CxR zL:=aP.cx (fun _=>rfl) (l:=[]) trivial
 aH K (aG (l:=[(100,58,Ea)]) rfl ⟨bF (n:=900) (f:=100) K (by kernel_rfl) (by kernel_rfl) (by kernel_rfl) (by kernel_rfl) (by kernel_rfl) (fun p v r h=>(NQ p.1 p.2 v.1 v.2).trans h),trivial⟩) (by kernel_rfl) (fun x y h=>(Rh x.1 x.2).trans h) rfl rfl
def nV (x0:au) (x1:(List UInt8)):Option (au×Int):=af (jA x0 x1 x1) fun y0 => cnd (ay (ieq y0 0)) (some (x0,y0)) (af (gy x0 x1) fun y1 => cnd (ilt y1 0) (some (x0,7)) (af (gQ x0) fun y2 => cnd (ay y2.snd) (some (y2.fst,9)) (af (mV y2.fst x1) fun y3 => some (y3,0))))
noncomputable def KN:Cx:={ P:=PG,ety:=ety,fn:=look [(98,fE),(40,dF),(99,fD),(100,nG)],inl:=dR [],lp:=aS [] }
theorem SN (x0:au) (x1:(List UInt8)):bP KN 41 [.val .disk,.str] [.val .disk,.int .i64] (x0,x1)=nV x0 x1:=by kernel_rfl
def xH:aO:=mkSpec [.val .disk,.str] [.val .disk,.int .i64] false (fun x=>nV x.1 x.2)
theorem Vm:dI PG 41 xH:=
 have K:CxR KN:=aP.cx (fun _=>rfl) (l:=[(98,fE),(40,dF),(99,fD),(100,nG)]) ⟨qM,jZ,qU,IC,trivial⟩
 aH K (aG (l:=[]) rfl trivial) (by kernel_rfl) (fun x y h=>(SN x.1 x.2).trans h) rfl rfl
def uq (x0:Bool):Option (Int):=cnd x0 (some 1) (some 0)
noncomputable def OI:Cx:={ P:=PG,ety:=ety,fn:=look [],inl:=dR [],lp:=aS [] }
theorem V7 (x0:Bool):bP OI 103 [.bool] [.int .i64] x0=uq x0:=by kernel_rfl
def zJ:aO:=mkSpec [.bool] [.int .i64] true (fun x=>uq x)
theorem X7:dI PG 103 zJ:=
 have K:CxR OI:=aP.cx (fun _=>rfl) (l:=[]) trivial
 aH K (aG (l:=[]) rfl trivial) (by kernel_rfl) (fun x y h=>(V7 x).trans h) rfl rfl
def JC:LSh:=⟨76,[],[(5,.mf 32)],[],[(7,.int .i64),(6,.int .u64)],[],[(32,.u8)]⟩
@[reducible] def Jj:List fO:=[⟨.exit 0,[],[],[(32,.u8)]⟩]
def mO (v0:Int) (v1:Int) (v2:(List Int)):Option ((Int×Int×(List Int)) ⊕ (((List Int)))):=cnd (ile 0 v0) (cnd (band (ile 0 v0) (ilt v0 (len v2))) (some (Sum.inl (wr .i64 (aI v0 1),wr .u64 (JA v1 256),bT v2 (itn v0) (wr .u8 (vI v1 256))))) none) (some (Sum.inr v2))
def IE:dU:=JC.spec Jj [14,15,18,19,20,21,22,23,24,25,6,16,17,7] (fun p v=>mO v.1 v.2.1 v.2.2)
def dQ (x0:Int) (x1:Int):Option ((List Int)):=cnd (band (band (ile 0 x1) (ile x1 x1)) (ile x1 68719476736)) (af (bD (fun v => mO v.fst v.snd.fst v.snd.snd) LF (wr .i64 (aI x1 1),wr .u64 x0,jR Int (itn x1))) fun y0 => some y0) none
noncomputable def Hw:Cx:={ P:=PG,ety:=ety,fn:=look [],inl:=dR [],lp:=aS [(104,122,IE)] }
theorem Rn (v0:Int) (v1:Int) (v2:(List Int)):fC Hw 900 104 122 (dK PG 104 122) JC Jj () (v0,v1,v2)=mO v0 v1 v2:=by kernel_rfl
theorem XP (x0:Int) (x1:Int):bP Hw 104 [.int .i64,.int .i64] [.buf .u8] (x0,x1)=dQ x0 x1:=by kernel_rfl
def BD:aO:=mkSpec [.int .i64,.int .i64] [.buf .u8] true (fun x=>dQ x.1 x.2)
theorem ZL:dI PG 104 BD:=
 have K:CxR Hw:=aP.cx (fun _=>rfl) (l:=[]) trivial
 aH K (aG (l:=[(104,122,IE)]) rfl ⟨bF (n:=900) (f:=104) K (by kernel_rfl) (by kernel_rfl) (by kernel_rfl) (by kernel_rfl) (by kernel_rfl) (fun p v r h=>(Rn v.1 v.2.1 v.2.2).trans h),trivial⟩) (by kernel_rfl) (fun x y h=>(XP x.1 x.2).trans h) rfl rfl
def ED:LSh:=⟨82,[(4,.ro .i64)],[],[],[(5,.int .i64),(3,.buf .u8)],[],[]⟩
@[reducible] def EZ:List fO:=[⟨.exit 0,[(3,.buf .u8)],[],[]⟩]
def nI (p0:(List Int)) (v0:Int) (v1:(List Int)):Option ((Int×(List Int)) ⊕ (((List Int)))):=cnd (ilt v0 4) (cnd (band (ile 0 v0) (ilt v0 (len p0))) (af (dQ (ai p0 (itn v0)) 1) fun y0 => cnd (ile (len (dB v1 y0)) 68719476736) (some (Sum.inl (wr .i64 (aj v0 1),dB v1 y0))) none) none) (some (Sum.inr v1))
def Ed:dU:=ED.spec EZ [26,27,30,31,32,33,34,35,36,3,28,29,5] (fun p v=>nI p v.1 v.2)
def zD:LSh:=⟨285,[(4,.ro .i64)],[],[],[(8,.int .i64),(3,.buf .u8)],[],[]⟩
@[reducible] def zq:List fO:=[⟨.exit 4,[(3,.buf .u8)],[],[]⟩]
def jY (p0:(List Int)) (v0:Int) (v1:(List Int)):Option ((Int×(List Int)) ⊕ (((List Int)))):=cnd (ilt v0 6) (cnd (band (ile 0 v0) (ilt v0 (len p0))) (af (dQ (ai p0 (itn v0)) 8) fun y0 => cnd (ile (len (dB v1 y0)) 68719476736) (some (Sum.inl (wr .i64 (aj v0 1),dB v1 y0))) none) none) (some (Sum.inr v1))
def yS:dU:=zD.spec zq [97,98,101,102,103,104,105,106,107,3,99,100,8] (fun p v=>jY p v.1 v.2)
def D9:LSh:=⟨168,[],[(1,.mp 8 0)],[(8,[.val .state])],[(6,.int .i64),(3,.buf .u8),(4,.ro .i64)],[],[]⟩
@[reducible] def Dv:List fO:=[⟨.exit 2,[(3,.buf .u8),(4,.ro .i64)],[],[]⟩]
def jT (p0:ax) (v0:Int) (v1:(List Int)) (v2:(List Int)):Option ((Int×(List Int)×(List Int)) ⊕ (((List Int)×(List Int)))):=cnd (ilt v0 (len p0.orders)) (cnd (band (ile 0 v0) (ilt v0 (len p0.orders))) (af (dQ (ai p0.orders (itn v0)).id 8) fun y0 => cnd (ile (len (dB v1 y0)) 68719476736) (cnd (ile (len (dB (dB v1 y0) [wr .u8 (ai p0.orders (itn v0)).account,wr .u8 (ai p0.orders (itn v0)).symbol,wr .u8 (ai p0.orders (itn v0)).side,wr .u8 (ai p0.orders (itn v0)).phase])) 68719476736) (af (bD (fun v => jY [(ai p0.orders (itn v0)).qty,(ai p0.orders (itn v0)).price,(ai p0.orders (itn v0)).filled,(ai p0.orders (itn v0)).newQty,(ai p0.orders (itn v0)).newPrice,(ai p0.orders (itn v0)).version] v.fst v.snd) LF (0,dB (dB v1 y0) [wr .u8 (ai p0.orders (itn v0)).account,wr .u8 (ai p0.orders (itn v0)).symbol,wr .u8 (ai p0.orders (itn v0)).side,wr .u8 (ai p0.orders (itn v0)).phase])) fun y1 => af (uq (ai p0.orders (itn v0)).asked) fun y2 => af (dQ y2 1) fun y3 => cnd (ile (len (dB y1 y3)) 68719476736) (some (Sum.inl (wr .i64 (aj v0 1),dB y1 y3,[(ai p0.orders (itn v0)).qty,(ai p0.orders (itn v0)).price,(ai p0.orders (itn v0)).filled,(ai p0.orders (itn v0)).newQty,(ai p0.orders (itn v0)).newPrice,(ai p0.orders (itn v0)).version]))) none) none) none) none) (some (Sum.inr (v1,v2)))
def CV:dU:=D9.spec Dv [52,53,54,55,56,59,60,61,62,63,7,64,65,66,67,68,3,69,70,71,72,73,74,75,76,77,78,79,80,81,82,83,84,85,86,87,88,89,90,91,92,93,94,95,96,4,8,97,98,101,102,103,104,105,106,107,99,100,108,109,110,111,112,113,57,58,6] (fun p v=>jT p v.1 v.2.1 v.2.2)
def DI:LSh:=⟨238,[],[(1,.mp 8 0)],[(8,[.val .state])],[(9,.int .i64),(3,.buf .u8)],[],[]⟩
@[reducible] def Ee:List fO:=[⟨.exit 6,[(3,.buf .u8)],[],[]⟩]
def mr (p0:ax) (v0:Int) (v1:(List Int)):Option ((Int×(List Int)) ⊕ (((List Int)))):=cnd (ilt v0 (len p0.cells)) (cnd (band (ile 0 v0) (ilt v0 (len p0.cells))) (af (dQ (ai p0.cells (itn v0)).pos 8) fun y0 => cnd (ile (len (dB v1 y0)) 68719476736) (some (Sum.inl (wr .i64 (aj v0 1),dB v1 y0))) none) none) (some (Sum.inr v1))
def Ci:dU:=DI.spec Ee [114,115,116,117,118,121,122,123,124,125,126,127,128,129,3,119,120,9] (fun p v=>mr p v.1 v.2)
def D6:LSh:=⟨306,[],[(1,.mp 8 0)],[(8,[.val .state])],[(10,.int .i64),(3,.buf .u8)],[],[]⟩
@[reducible] def Dl:List fO:=[⟨.exit 8,[(3,.buf .u8)],[],[]⟩]
def lY (p0:ax) (v0:Int) (v1:(List Int)):Option ((Int×(List Int)) ⊕ (((List Int)))):=cnd (ilt v0 (len p0.limits)) (cnd (band (ile 0 v0) (ilt v0 (len p0.limits))) (af (dQ (ai p0.limits (itn v0)).long 8) fun y0 => cnd (ile (len (dB v1 y0)) 68719476736) (cnd (band (ile 0 v0) (ilt v0 (len p0.limits))) (af (dQ (ai p0.limits (itn v0)).short 8) fun y1 => cnd (ile (len (dB (dB v1 y0) y1)) 68719476736) (cnd (band (ile 0 v0) (ilt v0 (len p0.limits))) (af (dQ (ai p0.limits (itn v0)).opn 8) fun y2 => cnd (ile (len (dB (dB (dB v1 y0) y1) y2)) 68719476736) (some (Sum.inl (wr .i64 (aj v0 1),dB (dB (dB v1 y0) y1) y2))) none) none) none) none) none) none) (some (Sum.inr v1))
def CG:dU:=D6.spec Dl [130,131,132,133,134,137,138,139,140,141,142,143,144,145,3,146,147,148,149,150,151,152,153,154,155,156,157,158,159,160,161,162,163,135,136,10] (fun p v=>lY p v.1 v.2)
def CQ:LSh:=⟨374,[],[(1,.mp 8 0)],[(8,[.val .state])],[(11,.int .i64),(3,.buf .u8)],[],[]⟩
@[reducible] def Cm:List fO:=[⟨.exit 10,[(3,.buf .u8)],[],[]⟩]
def lq (p0:ax) (v0:Int) (v1:(List Int)):Option ((Int×(List Int)) ⊕ (((List Int)))):=cnd (ilt v0 (len p0.caps)) (cnd (band (ile 0 v0) (ilt v0 (len p0.caps))) (af (dQ (ai p0.caps (itn v0)) 8) fun y0 => cnd (ile (len (dB v1 y0)) 68719476736) (some (Sum.inl (wr .i64 (aj v0 1),dB v1 y0))) none) none) (some (Sum.inr v1))
def Bl:dU:=CQ.spec Cm [164,165,166,167,168,171,172,173,174,175,176,177,178,3,169,170,11] (fun p v=>lq p v.1 v.2)
def CP:LSh:=⟨445,[],[],[],[(13,.int .i64),(12,.int .u32),(3,.buf .u8)],[],[]⟩
@[reducible] def CJ:List fO:=[⟨.exit 12,[(3,.buf .u8)],[],[]⟩]
def jE (v0:Int) (v1:Int) (v2:(List Int)):Option ((Int×Int×(List Int)) ⊕ (((List Int)))):=cnd (ilt v0 4) (cnd (ile (len (dB v2 [wr .u8 (vI v1 256)])) 68719476736) (some (Sum.inl (wr .i64 (aj v0 1),wr .u32 (JA v1 256),dB v2 [wr .u8 (vI v1 256)]))) none) (some (Sum.inr v2))
def Aw:dU:=CP.spec CJ [181,182,185,186,187,188,189,190,3,191,192,12,183,184,13] (fun p v=>jE v.1 v.2.1 v.2.2)
def nX (x0:ax):Option ((List Int)):=af (uq x0.kill) fun y0 => af (bD (fun v => nI [x0.accounts,x0.symbols,y0,len x0.orders] v.fst v.snd) LF (0,[115,110,97,102])) fun y1 => af (dQ x0.last 8) fun y2 => cnd (ile (len (dB y1 y2)) 68719476736) (af (dQ x0.seq 8) fun y3 => cnd (ile (len (dB (dB y1 y2) y3)) 68719476736) (af (dQ x0.lsn 8) fun y4 => cnd (ile (len (dB (dB (dB y1 y2) y3) y4)) 68719476736) (af (bD (fun v => jT x0 v.fst v.snd.fst v.snd.snd) LF (0,dB (dB (dB y1 y2) y3) y4,[x0.accounts,x0.symbols,y0,len x0.orders])) fun y5 => af (bD (fun v => mr x0 v.fst v.snd) LF (0,y5.fst)) fun y6 => af (bD (fun v => lY x0 v.fst v.snd) LF (0,y6)) fun y7 => af (bD (fun v => lq x0 v.fst v.snd) LF (0,y7)) fun y8 => af (lV y8) fun y9 => af (bD (fun v => jE v.fst v.snd.fst v.snd.snd) LF (0,y9,y8)) fun y10 => some y10) none) none) none
noncomputable def iY:Cx:={ P:=PG,ety:=ety,fn:=look [(103,zJ),(104,BD),(105,iT)],inl:=dR [],lp:=aS [(43,122,Ed),(43,4182650,yS),(43,2042,CV),(43,4090,Ci),(43,8186,CG),(43,16378,Bl),(43,65530,Aw)] }
theorem NZ (p0:(List Int)) (v0:Int) (v1:(List Int)):fC iY 900 43 122 (dK PG 43 122) ED EZ p0 (v0,v1)=nI p0 v0 v1:=by kernel_rfl
theorem J5 (p0:(List Int)) (v0:Int) (v1:(List Int)):fC iY 900 43 4182650 (dK PG 43 4182650) zD zq p0 (v0,v1)=jY p0 v0 v1:=by kernel_rfl
theorem MO (p0:ax) (v0:Int) (v1:(List Int)) (v2:(List Int)):fC iY 900 43 2042 (dK PG 43 2042) D9 Dv p0 (v0,v1,v2)=jT p0 v0 v1 v2:=by kernel_rfl
theorem Md (p0:ax) (v0:Int) (v1:(List Int)):fC iY 900 43 4090 (dK PG 43 4090) DI Ee p0 (v0,v1)=mr p0 v0 v1:=by kernel_rfl
theorem MC (p0:ax) (v0:Int) (v1:(List Int)):fC iY 900 43 8186 (dK PG 43 8186) D6 Dl p0 (v0,v1)=lY p0 v0 v1:=by kernel_rfl
theorem KW (p0:ax) (v0:Int) (v1:(List Int)):fC iY 900 43 16378 (dK PG 43 16378) CQ Cm p0 (v0,v1)=lq p0 v0 v1:=by kernel_rfl
theorem LC (v0:Int) (v1:Int) (v2:(List Int)):fC iY 900 43 65530 (dK PG 43 65530) CP CJ () (v0,v1,v2)=jE v0 v1 v2:=by kernel_rfl
theorem TF (x0:ax):bP iY 43 [.val .state] [.buf .u8] x0=nX x0:=by kernel_rfl
def xI:aO:=mkSpec [.val .state] [.buf .u8] true (fun x=>nX x)
theorem Vs:dI PG 43 xI:=
 have K:CxR iY:=aP.cx (fun _=>rfl) (l:=[(103,zJ),(104,BD),(105,iT)]) ⟨X7,ZL,yc,trivial⟩
 aH K (aG (l:=[(43,122,Ed),(43,4182650,yS),(43,2042,CV),(43,4090,Ci),(43,8186,CG),(43,16378,Bl),(43,65530,Aw)]) rfl ⟨bF (n:=900) (f:=43) K (by kernel_rfl) (by kernel_rfl) (by kernel_rfl) (by kernel_rfl) (by kernel_rfl) (fun p v r h=>(NZ p v.1 v.2).trans h),
  bF (n:=900) (f:=43) K (by kernel_rfl) (by kernel_rfl) (by kernel_rfl) (by kernel_rfl) (by kernel_rfl) (fun p v r h=>(J5 p v.1 v.2).trans h),
  bF (n:=900) (f:=43) K (by kernel_rfl) (by kernel_rfl) (by kernel_rfl) (by kernel_rfl) (by kernel_rfl) (fun p v r h=>(MO p v.1 v.2.1 v.2.2).trans h),
  bF (n:=900) (f:=43) K (by kernel_rfl) (by kernel_rfl) (by kernel_rfl) (by kernel_rfl) (by kernel_rfl) (fun p v r h=>(Md p v.1 v.2).trans h),
  bF (n:=900) (f:=43) K (by kernel_rfl) (by kernel_rfl) (by kernel_rfl) (by kernel_rfl) (by kernel_rfl) (fun p v r h=>(MC p v.1 v.2).trans h),
  bF (n:=900) (f:=43) K (by kernel_rfl) (by kernel_rfl) (by kernel_rfl) (by kernel_rfl) (by kernel_rfl) (fun p v r h=>(KW p v.1 v.2).trans h),
  bF (n:=900) (f:=43) K (by kernel_rfl) (by kernel_rfl) (by kernel_rfl) (by kernel_rfl) (by kernel_rfl) (fun p v r h=>(LC v.1 v.2.1 v.2.2).trans h),trivial⟩) (by kernel_rfl) (fun x y h=>(TF x).trans h) rfl rfl
def Ji:LSh:=⟨69,[],[(1,.mp 8 0)],[(8,[.val .disk])],[(4,.int .i64),(3,.int .i64)],[],[]⟩
@[reducible] def JS:List fO:=[⟨.exit 0,[(3,.int .i64)],[],[]⟩]
def mZ (p0:au) (v0:Int) (v1:Int):Option ((Int×Int) ⊕ ((Int))):=cnd (ilt v0 (len p0.files)) (cnd (band (ile 0 v0) (ilt v0 (len p0.files))) (some (Sum.inl (wr .i64 (aj v0 1),wr .i64 (aj v1 (len (ai p0.files (itn v0)).data))))) none) (some (Sum.inr v1))
def Iz:dU:=Ji.spec JS [5,6,7,8,9,12,13,14,15,16,17,18,19,20,3,10,11,4] (fun p v=>mZ p v.1 v.2)
def qA (x0:au):Option (Int):=af (bD (fun v => mZ x0 v.fst v.snd) LF (0,0)) fun y0 => some y0
noncomputable def Fe:Cx:={ P:=PG,ety:=ety,fn:=look [],inl:=dR [],lp:=aS [(101,58,Iz)] }
theorem Rl (p0:au) (v0:Int) (v1:Int):fC Fe 900 101 58 (dK PG 101 58) Ji JS p0 (v0,v1)=mZ p0 v0 v1:=by kernel_rfl
theorem WM (x0:au):bP Fe 101 [.val .disk] [.int .i64] x0=qA x0:=by kernel_rfl
def Ar:aO:=mkSpec [.val .disk] [.int .i64] true (fun x=>qA x)
theorem X8:dI PG 101 Ar:=
 have K:CxR Fe:=aP.cx (fun _=>rfl) (l:=[]) trivial
 aH K (aG (l:=[(101,58,Iz)]) rfl ⟨bF (n:=900) (f:=101) K (by kernel_rfl) (by kernel_rfl) (by kernel_rfl) (by kernel_rfl) (by kernel_rfl) (fun p v r h=>(Rl p v.1 v.2).trans h),trivial⟩) (by kernel_rfl) (fun x y h=>(WM x).trans h) rfl rfl
def Ii:LSh:=⟨72,[],[(3,.mp 24 0),(2,.mp 16 0)],[(24,[.val .file]),(16,[.val .disk])],[(7,.int .i64),(6,.bool),(5,.buf .file)],[],[]⟩
@[reducible] def IB:List fO:=[⟨.exit 0,[(6,.bool),(5,.buf .file)],[],[]⟩]
def lQ (p0:aF) (p1:au) (v0:Int) (v1:Bool) (v2:(List aF)):Option ((Int×Bool×(List aF)) ⊕ ((Bool×(List aF)))):=cnd (ilt v0 (len p1.files)) (cnd (bor (band (ile 0 v0) (ilt v0 (len p1.files))) (ay (ay v1))) (cnd (band (ay v1) (ay (slt (ai p1.files (itn v0)).name p0.name))) (cnd (ile (len (dB v2 [p0])) 68719476736) (cnd (band (ile 0 v0) (ilt v0 (len p1.files))) (cnd (ay (seq (ai p1.files (itn v0)).name p0.name)) (cnd (band (ile 0 v0) (ilt v0 (len p1.files))) (cnd (ile (len (dB (dB v2 [p0]) [ai p1.files (itn v0)])) 68719476736) (some (Sum.inl (wr .i64 (aj v0 1),true,dB (dB v2 [p0]) [ai p1.files (itn v0)]))) none) none) (some (Sum.inl (wr .i64 (aj v0 1),true,dB v2 [p0])))) none) none) (cnd (band (ile 0 v0) (ilt v0 (len p1.files))) (cnd (ay (seq (ai p1.files (itn v0)).name p0.name)) (cnd (band (ile 0 v0) (ilt v0 (len p1.files))) (cnd (ile (len (dB v2 [ai p1.files (itn v0)])) 68719476736) (some (Sum.inl (wr .i64 (aj v0 1),v1,dB v2 [ai p1.files (itn v0)]))) none) none) (some (Sum.inl (wr .i64 (aj v0 1),v1,v2)))) none)) none) (some (Sum.inr (v1,v2)))
def Gh:dU:=Ii.spec IB [8,9,10,11,12,15,16,17,18,19,20,21,22,23,24,25,26,27,28,29,30,31,5,6,32,33,34,35,36,37,38,39,40,41,42,43,44,45,46,47,48,13,14,7] (fun p v=>lQ p.1 p.2 v.1 v.2.1 v.2.2)
def iF (x0:au) (x1:aF):Option (au):=af (bD (fun v => lQ x1 x0 v.fst v.snd.fst v.snd.snd) LF (0,false,[])) fun y0 => cnd (ay y0.fst) (cnd (ile (len (dB y0.snd [x1])) 68719476736) (some (au.mk (dB y0.snd [x1]) x0.room x0.fuse x0.down)) none) (some (au.mk y0.snd x0.room x0.fuse x0.down))
noncomputable def Fh:Cx:={ P:=PG,ety:=ety,fn:=look [],inl:=dR [],lp:=aS [(102,122,Gh)] }
theorem PD (p0:aF) (p1:au) (v0:Int) (v1:Bool) (v2:(List aF)):fC Fh 900 102 122 (dK PG 102 122) Ii IB (p0,p1) (v0,v1,v2)=lQ p0 p1 v0 v1 v2:=by kernel_rfl
theorem VZ (x0:au) (x1:aF):bP Fh 102 [.val .disk,.val .file] [.val .disk] (x0,x1)=iF x0 x1:=by kernel_rfl
def iI:aO:=mkSpec [.val .disk,.val .file] [.val .disk] false (fun x=>iF x.1 x.2)
theorem wZ:dI PG 102 iI:=
 have K:CxR Fh:=aP.cx (fun _=>rfl) (l:=[]) trivial
 aH K (aG (l:=[(102,122,Gh)]) rfl ⟨bF (n:=900) (f:=102) K (by kernel_rfl) (by kernel_rfl) (by kernel_rfl) (by kernel_rfl) (by kernel_rfl) (fun p v r h=>(PD p.1 p.2 v.1 v.2.1 v.2.2).trans h),trivial⟩) (by kernel_rfl) (fun x y h=>(VZ x.1 x.2).trans h) rfl rfl
def iE (x0:au) (x1:(List UInt8)) (x2:(List Int)):Option (au×Int):=af (jA x0 x1 x1) fun y0 => cnd (ay (ieq y0 0)) (some (x0,y0)) (af (gy x0 x1) fun y1 => cnd (ile 0 y1) (cnd (band (ile 0 y1) (ilt y1 (len x0.files))) (af (qA x0) fun y2 => cnd (bor (ilt x0.room (wr .i64 (aj y2 (len x2)))) (band (ilt y1 0) (ile 64 (len x0.files)))) (some (x0,6)) (cnd (ile (len (ai x0.files (itn y1)).data) 68719476736) (cnd (ile (len (dB (ai x0.files (itn y1)).data x2)) 68719476736) (af (iF x0 (aF.mk (ai x0.files (itn y1)).name (dB (ai x0.files (itn y1)).data x2) (ai x0.files (itn y1)).sure)) fun y3 => af (gQ y3) fun y4 => cnd (ay y4.snd) (some (y4.fst,9)) (some (y4.fst,0))) none) none)) none) (af (qA x0) fun y5 => cnd (bor (ilt x0.room (wr .i64 (aj y5 (len x2)))) (band (ilt y1 0) (ile 64 (len x0.files)))) (some (x0,6)) (cnd (ile (len x2) 68719476736) (af (iF x0 (aF.mk x1 x2 0)) fun y6 => af (gQ y6) fun y7 => cnd (ay y7.snd) (some (y7.fst,9)) (some (y7.fst,0))) none)))
noncomputable def KQ:Cx:={ P:=PG,ety:=ety,fn:=look [(98,fE),(40,dF),(101,Ar),(102,iI),(99,fD)],inl:=dR [],lp:=aS [] }
theorem SS (x0:au) (x1:(List UInt8)) (x2:(List Int)):bP KQ 42 [.val .disk,.str,.ro .u8] [.val .disk,.int .i64] (x0,x1,x2)=iE x0 x1 x2:=by kernel_rfl
def oD:aO:=mkSpec [.val .disk,.str,.ro .u8] [.val .disk,.int .i64] false (fun x=>iE x.1 x.2.1 x.2.2)
theorem Kr:dI PG 42 oD:=
 have K:CxR KQ:=aP.cx (fun _=>rfl) (l:=[(98,fE),(40,dF),(101,Ar),(102,iI),(99,fD)]) ⟨qM,jZ,X8,wZ,qU,trivial⟩
 aH K (aG (l:=[]) rfl trivial) (by kernel_rfl) (fun x y h=>(SS x.1 x.2.1 x.2.2).trans h) rfl rfl
def jg (x0:au) (x1:(List UInt8)):Option (au×Int):=af (jA x0 x1 x1) fun y0 => cnd (ay (ieq y0 0)) (some (x0,y0)) (af (gy x0 x1) fun y1 => cnd (ilt y1 0) (some (x0,7)) (af (gQ x0) fun y2 => cnd (ay y2.snd) (some (y2.fst,9)) (cnd (band (ile 0 y1) (ilt y1 (len y2.fst.files))) (af (iF y2.fst (aF.mk (ai y2.fst.files (itn y1)).name (ai y2.fst.files (itn y1)).data (len (ai y2.fst.files (itn y1)).data))) fun y3 => some (y3,0)) none)))
noncomputable def Oz:Cx:={ P:=PG,ety:=ety,fn:=look [(98,fE),(40,dF),(99,fD),(102,iI)],inl:=dR [],lp:=aS [] }
theorem Vb (x0:au) (x1:(List UInt8)):bP Oz 44 [.val .disk,.str] [.val .disk,.int .i64] (x0,x1)=jg x0 x1:=by kernel_rfl
def qf:aO:=mkSpec [.val .disk,.str] [.val .disk,.int .i64] false (fun x=>jg x.1 x.2)
theorem MH:dI PG 44 qf:=
 have K:CxR Oz:=aP.cx (fun _=>rfl) (l:=[(98,fE),(40,dF),(99,fD),(102,iI)]) ⟨qM,jZ,qU,wZ,trivial⟩
 aH K (aG (l:=[]) rfl trivial) (by kernel_rfl) (fun x y h=>(Vb x.1 x.2).trans h) rfl rfl
def Ju:LSh:=⟨68,[],[],[],[(4,.int .i64),(3,.str),(0,.int .i64)],[],[]⟩
@[reducible] def JG:List fO:=[⟨.exit 0,[(3,.str)],[],[]⟩]
def mP (v0:Int) (v1:(List UInt8)) (v2:Int):Option ((Int×(List UInt8)×Int) ⊕ (((List UInt8)))):=cnd (ilt v0 10) (cnd (ile (aj (len (u2s [wr .u8 (aj 48 (wr .u8 (vI v2 10)))])) (len v1)) 68719476736) (some (Sum.inl (wr .i64 (aj v0 1),dB (u2s [wr .u8 (aj 48 (wr .u8 (vI v2 10)))]) v1,wr .i64 (JA v2 10)))) none) (some (Sum.inr v1))
def I7:dU:=Ju.spec JG [5,6,9,10,11,12,13,14,15,16,3,17,18,0,7,8,4] (fun p v=>mP v.1 v.2.1 v.2.2)
def je (x0:Int):Option ((List UInt8)):=af (bD (fun v => mP v.fst v.snd.fst v.snd.snd) LF (0,[],x0)) fun y0 => cnd (ile (aj 5 (len y0)) 68719476736) (some (dB [(UInt8.ofNat 115),(UInt8.ofNat 110),(UInt8.ofNat 97),(UInt8.ofNat 112),(UInt8.ofNat 46)] y0)) none
noncomputable def FB:Cx:={ P:=PG,ety:=ety,fn:=look [],inl:=dR [],lp:=aS [(15,58,I7)] }
theorem Q9 (v0:Int) (v1:(List UInt8)) (v2:Int):fC FB 900 15 58 (dK PG 15 58) Ju JG () (v0,v1,v2)=mP v0 v1 v2:=by kernel_rfl
theorem Vg (x0:Int):bP FB 15 [.int .i64] [.str] x0=je x0:=by kernel_rfl
def kK:aO:=mkSpec [.int .i64] [.str] true (fun x=>je x)
theorem DJ:dI PG 15 kK:=
 have K:CxR FB:=aP.cx (fun _=>rfl) (l:=[]) trivial
 aH K (aG (l:=[(15,58,I7)]) rfl ⟨bF (n:=900) (f:=15) K (by kernel_rfl) (by kernel_rfl) (by kernel_rfl) (by kernel_rfl) (by kernel_rfl) (fun p v r h=>(Q9 v.1 v.2.1 v.2.2).trans h),trivial⟩) (by kernel_rfl) (fun x y h=>(Vg x).trans h) rfl rfl
def kY (x0:au) (x1:(List UInt8)) (x2:(List UInt8)):Option (au×Int):=af (jA x0 x1 x2) fun y0 => cnd (ay (ieq y0 0)) (some (x0,y0)) (af (gy x0 x1) fun y1 => cnd (ilt y1 0) (some (x0,7)) (af (gQ x0) fun y2 => cnd (ay y2.snd) (some (y2.fst,9)) (cnd (band (ile 0 y1) (ilt y1 (len y2.fst.files))) (af (mV y2.fst x1) fun y3 => af (iF y3 (aF.mk x2 (ai y2.fst.files (itn y1)).data (ai y2.fst.files (itn y1)).sure)) fun y4 => some (y4,0)) none)))
noncomputable def KA:Cx:={ P:=PG,ety:=ety,fn:=look [(98,fE),(40,dF),(99,fD),(100,nG),(102,iI)],inl:=dR [],lp:=aS [] }
theorem TD (x0:au) (x1:(List UInt8)) (x2:(List UInt8)):bP KA 45 [.val .disk,.str,.str] [.val .disk,.int .i64] (x0,x1,x2)=kY x0 x1 x2:=by kernel_rfl
def xC:aO:=mkSpec [.val .disk,.str,.str] [.val .disk,.int .i64] false (fun x=>kY x.1 x.2.1 x.2.2)
theorem VP:dI PG 45 xC:=
 have K:CxR KA:=aP.cx (fun _=>rfl) (l:=[(98,fE),(40,dF),(99,fD),(100,nG),(102,iI)]) ⟨qM,jZ,qU,IC,wZ,trivial⟩
 aH K (aG (l:=[]) rfl trivial) (by kernel_rfl) (fun x y h=>(TD x.1 x.2.1 x.2.2).trans h) rfl rfl
def vY (x0:au) (x1:(List UInt8)) (x2:Int):Option (au×Int):=af (jA x0 x1 x1) fun y0 => cnd (ay (ieq y0 0)) (some (x0,y0)) (af (gy x0 x1) fun y1 => cnd (ilt y1 0) (some (x0,7)) (cnd (band (ile 0 y1) (ilt y1 (len x0.files))) (cnd (bor (ilt x2 0) (ilt (len (ai x0.files (itn y1)).data) x2)) (some (x0,1)) (af (gQ x0) fun y2 => cnd (ay y2.snd) (some (y2.fst,9)) (cnd (band (ile 0 x2) (ile x2 (len (ai x0.files (itn y1)).data))) (cnd (ilt x2 (ai x0.files (itn y1)).sure) (af (iF y2.fst (aF.mk (ai x0.files (itn y1)).name (aA (ai x0.files (itn y1)).data (itn x2)) x2)) fun y3 => some (y3,0)) (af (iF y2.fst (aF.mk (ai x0.files (itn y1)).name (aA (ai x0.files (itn y1)).data (itn x2)) (ai x0.files (itn y1)).sure)) fun y4 => some (y4,0))) none))) none))
noncomputable def QF:Cx:={ P:=PG,ety:=ety,fn:=look [(98,fE),(40,dF),(99,fD),(102,iI)],inl:=dR [],lp:=aS [] }
theorem Xn (x0:au) (x1:(List UInt8)) (x2:Int):bP QF 107 [.val .disk,.str,.int .i64] [.val .disk,.int .i64] (x0,x1,x2)=vY x0 x1 x2:=by kernel_rfl
def BP:aO:=mkSpec [.val .disk,.str,.int .i64] [.val .disk,.int .i64] false (fun x=>vY x.1 x.2.1 x.2.2)
theorem ZK:dI PG 107 BP:=
 have K:CxR QF:=aP.cx (fun _=>rfl) (l:=[(98,fE),(40,dF),(99,fD),(102,iI)]) ⟨qM,jZ,qU,wZ,trivial⟩
 aH K (aG (l:=[]) rfl trivial) (by kernel_rfl) (fun x y h=>(Xn x.1 x.2.1 x.2.2).trans h) rfl rfl
def EL:LSh:=⟨76,[],[(3,.mf 24)],[],[(6,.int .i64),(5,.int .i64),(4,.int .i64)],[],[(24,.u8)]⟩
@[reducible] def Ew:List fO:=[⟨.exit 0,[],[],[(24,.u8)]⟩]
def kD (v0:Int) (v1:Int) (v2:Int) (v3:(List Int)):Option ((Int×Int×Int×(List Int)) ⊕ (((List Int)))):=cnd (ile 0 v0) (cnd (band (ile 0 v0) (ilt v0 (len v3))) (cnd (band (ile 0 (wr .i64 (aj 8 v0))) (ilt (wr .i64 (aj 8 v0)) (len (bT v3 (itn v0) (wr .u8 (vI v2 256)))))) (some (Sum.inl (wr .i64 (aI v0 1),wr .i64 (JA v1 256),wr .i64 (JA v2 256),bT (bT v3 (itn v0) (wr .u8 (vI v2 256))) (itn (wr .i64 (aj 8 v0))) (wr .u8 (vI v1 256))))) none) none) (some (Sum.inr v3))
def DL:dU:=EL.spec Ew [14,15,18,19,20,21,22,23,24,25,26,27,28,29,30,31,32,4,33,34,5,16,17,6] (fun p v=>kD v.1 v.2.1 v.2.2.1 v.2.2.2)
def Ey:LSh:=⟨149,[],[],[],[(8,.int .i64),(7,.int .u32),(3,.buf .u8)],[],[]⟩
@[reducible] def EM:List fO:=[⟨.exit 2,[(3,.buf .u8)],[],[]⟩]
def kC (v0:Int) (v1:Int) (v2:(List Int)):Option ((Int×Int×(List Int)) ⊕ (((List Int)))):=cnd (ilt v0 4) (cnd (ile (len (dB v2 [wr .u8 (vI v1 256)])) 68719476736) (some (Sum.inl (wr .i64 (aj v0 1),wr .u32 (JA v1 256),dB v2 [wr .u8 (vI v1 256)]))) none) (some (Sum.inr v2))
def DK:dU:=Ey.spec EM [37,38,41,42,43,44,45,46,3,47,48,7,39,40,8] (fun p v=>kC v.1 v.2.1 v.2.2)
def nT (x0:dw):Option ((List Int)):=af (bD (fun v => kD v.fst v.snd.fst v.snd.snd.fst v.snd.snd.snd) LF (7,x0.lsn,x0.gen,jR Int 16)) fun y0 => af (lV y0) fun y1 => af (bD (fun v => kC v.fst v.snd.fst v.snd.snd) LF (0,y1,y0)) fun y2 => some y2
noncomputable def wB:Cx:={ P:=PG,ety:=ety,fn:=look [(105,iT)],inl:=dR [],lp:=aS [(108,122,DL),(108,506,DK)] }
theorem NP (v0:Int) (v1:Int) (v2:Int) (v3:(List Int)):fC wB 900 108 122 (dK PG 108 122) EL Ew () (v0,v1,v2,v3)=kD v0 v1 v2 v3:=by kernel_rfl
theorem Oq (v0:Int) (v1:Int) (v2:(List Int)):fC wB 900 108 506 (dK PG 108 506) Ey EM () (v0,v1,v2)=kC v0 v1 v2:=by kernel_rfl
theorem TP (x0:dw):bP wB 108 [.val .slot] [.buf .u8] x0=nT x0:=by kernel_rfl
def xP:aO:=mkSpec [.val .slot] [.buf .u8] true (fun x=>nT x)
theorem VO:dI PG 108 xP:=
 have K:CxR wB:=aP.cx (fun _=>rfl) (l:=[(105,iT)]) ⟨yc,trivial⟩
 aH K (aG (l:=[(108,122,DL),(108,506,DK)]) rfl ⟨bF (n:=900) (f:=108) K (by kernel_rfl) (by kernel_rfl) (by kernel_rfl) (by kernel_rfl) (by kernel_rfl) (fun p v r h=>(NP v.1 v.2.1 v.2.2.1 v.2.2.2).trans h),
  bF (n:=900) (f:=108) K (by kernel_rfl) (by kernel_rfl) (by kernel_rfl) (by kernel_rfl) (by kernel_rfl) (fun p v r h=>(Oq v.1 v.2.1 v.2.2).trans h),trivial⟩) (by kernel_rfl) (fun x y h=>(TP x).trans h) rfl rfl
def mg (x0:au) (x1:dw):Option (au×Int):=af (nM x0) fun y0 => af (cnd (ay (ieq y0.snd 1)) (pq x1) (some false)) fun y1 => cnd (bor (ieq y0.snd 1) (ay y1)) (some (x0,1)) (cnd (ieq y0.snd 9) (some (x0,9)) (cnd (ay (ieq (wr .i64 (aj y0.fst.gen 1)) x1.gen)) (some (x0,8)) (af (qy x1.gen) fun y2 => af (gy x0 y2) fun y3 => cnd (ile 0 y3) (af (vY x0 y2 0) fun y4 => cnd (ay (ieq y4.snd 0)) (some y4) (af (nT x1) fun y5 => af (iE y4.fst y2 y5) fun y6 => cnd (ay (ieq y6.snd 0)) (some y6) (af (jg y6.fst y2) fun y7 => some y7))) (af (nT x1) fun y8 => af (iE x0 y2 y8) fun y9 => cnd (ay (ieq y9.snd 0)) (some y9) (af (jg y9.fst y2) fun y10 => some y10)))))
noncomputable def NJ:Cx:={ P:=PG,ety:=ety,fn:=look [(39,kH),(106,oZ),(97,pR),(40,dF),(107,BP),(108,xP),(42,oD),(44,qf)],inl:=dR [],lp:=aS [] }
theorem UF (x0:au) (x1:dw):bP NJ 46 [.val .disk,.val .slot] [.val .disk,.int .i64] (x0,x1)=mg x0 x1:=by kernel_rfl
def yH:aO:=mkSpec [.val .disk,.val .slot] [.val .disk,.int .i64] false (fun x=>mg x.1 x.2)
theorem Xr:dI PG 46 yH:=
 have K:CxR NJ:=aP.cx (fun _=>rfl) (l:=[(39,kH),(106,oZ),(97,pR),(40,dF),(107,BP),(108,xP),(42,oD),(44,qf)]) ⟨D8,KE,Nq,jZ,ZK,VO,Kr,MH,trivial⟩
 aH K (aG (l:=[]) rfl trivial) (by kernel_rfl) (fun x y h=>(UF x.1 x.2).trans h) rfl rfl
def J6:LSh:=⟨76,[(0,.str)],[],[],[(4,.int .i64),(3,.int .i64),(2,.int .i64)],[],[]⟩
@[reducible] def JO:List fO:=[⟨.ret,[(2,.int .i64)],[],[]⟩,⟨.exit 0,[(3,.int .i64),(2,.int .i64)],[],[]⟩]
def mW (p0:(List UInt8)) (v0:Int) (v1:Int) (v2:Int):Option ((Int×Int×Int) ⊕ ((Int) ⊕ ((Int×Int)))):=cnd (ilt v0 15) (cnd (band (ile 0 v0) (ilt v0 (len p0))) (cnd (bor (band (ile 0 v0) (ilt v0 (len p0))) (ay (ay (ilt (ZM p0 (itn v0)) 48)))) (cnd (bor (ilt (ZM p0 (itn v0)) 48) (ilt 57 (ZM p0 (itn v0)))) (some (Sum.inr (Sum.inl 0))) (cnd (band (ile 0 v0) (ilt v0 (len p0))) (some (Sum.inl (wr .i64 (aj v0 1),wr .i64 (aj (wr .i64 (dY v1 10)) (wr .i64 (wr .u8 (aI (ZM p0 (itn v0)) 48)))),v2))) none)) none) none) (some (Sum.inr (Sum.inr (v1,v2))))
def Ip:dU:=J6.spec JO [13,14,17,18,19,20,21,22,23,24,25,26,2,27,28,29,30,31,32,33,34,3,15,16,4] (fun p v=>mW p v.1 v.2.1 v.2.2)
def vT (x0:(List UInt8)):Option (Int):=cnd (bor (ile 5 (len x0)) (ay (ay (ay (ieq (len x0) 15))))) (cnd (bor (ay (ieq (len x0) 15)) (ay (seq (aA x0 5) [(UInt8.ofNat 115),(UInt8.ofNat 110),(UInt8.ofNat 97),(UInt8.ofNat 112),(UInt8.ofNat 46)]))) (some 0) (af (bD (fun v => mW x0 v.fst v.snd.fst v.snd.snd) LF (5,0,0)) fun y0 => gY y0 (fun y1 => some y1) fun y1 => cnd (ilt 1000000000 y1.fst) (some 0) (some y1.fst))) none
noncomputable def Hq:Cx:={ P:=PG,ety:=ety,fn:=look [],inl:=dR [],lp:=aS [(20,122,Ip)] }
theorem Q8 (p0:(List UInt8)) (v0:Int) (v1:Int) (v2:Int):fC Hq 900 20 122 (dK PG 20 122) J6 JO p0 (v0,v1,v2)=mW p0 v0 v1 v2:=by kernel_rfl
theorem XI (x0:(List UInt8)):bP Hq 20 [.str] [.int .i64] x0=vT x0:=by kernel_rfl
def BG:aO:=mkSpec [.str] [.int .i64] true (fun x=>vT x)
theorem Zx:dI PG 20 BG:=
 have K:CxR Hq:=aP.cx (fun _=>rfl) (l:=[]) trivial
 aH K (aG (l:=[(20,122,Ip)]) rfl ⟨bF (n:=900) (f:=20) K (by kernel_rfl) (by kernel_rfl) (by kernel_rfl) (by kernel_rfl) (by kernel_rfl) (fun p v r h=>(Q8 p v.1 v.2.1 v.2.2).trans h),trivial⟩) (by kernel_rfl) (fun x y h=>(XI x).trans h) rfl rfl
def DY:LSh:=⟨152,[(9,.int .i64)],[(4,.mp 32 0),(2,.mp 16 0)],[],[(10,.int .i64),(8,.int .i64),(6,.int .i64),(5,.int .i64)],[(32,[.val .disk]),(16,[.val .disk])],[]⟩
@[reducible] def Eb:List fO:=[⟨.ret,[(6,.int .i64),(5,.int .i64)],[(32,[.val .disk]),(16,[.val .disk])],[]⟩,⟨.exit 0,[(8,.int .i64),(6,.int .i64),(5,.int .i64)],[(32,[.val .disk]),(16,[.val .disk])],[]⟩]
def fP (p0:Int) (v0:Int) (v1:Int) (v2:Int) (v3:Int) (v4:au) (v5:au):Option ((Int×Int×Int×Int×au×au) ⊕ ((Int×Int×au×au) ⊕ ((Int×Int×Int×au×au)))):=cnd (ilt v0 (len v5.files)) (cnd (band (ile 0 v0) (ilt v0 (len v5.files))) (af (vT (ai v5.files (itn v0)).name) fun y0 => cnd (bor (ieq y0 0) (ieq y0 p0)) (some (Sum.inl (wr .i64 (aj v0 1),v1,v2,v3,v4,v5))) (cnd (band (ile 0 v0) (ilt v0 (len v5.files))) (af (nV v5 (ai v5.files (itn v0)).name) fun y1 => cnd (ay (ieq y1.snd 0)) (some (Sum.inr (Sum.inl (y1.snd,0,y1.fst,y1.fst)))) (some (Sum.inl (v0,y1.snd,v2,v3,v4,y1.fst)))) none)) none) (some (Sum.inr (Sum.inr (v1,v2,v3,v4,v5))))
def Cb:dU:=DY.spec Eb [91,92,93,94,95,96,97,98,99,100,101,102,11,103,104,105,106,107,108,109,110,111,10,113,114,115,116,117,118,119,120,112,121,122,8,123,124,125,126,5,6] (fun p v=>fP p v.1 v.2.1 v.2.2.1 v.2.2.2.1 v.2.2.2.2.1 v.2.2.2.2.2)
def uz (x0:au) (x1:ax):Option (au×Int×Int):=af (lU x0) fun y0 => af (cnd (ay (ay y0)) (pI x1) (some false)) fun y1 => cnd (bor (ay y0) (ay y1)) (some (x0,0,1)) (cnd x0.down (some (x0,0,9)) (af (nM x0) fun y2 => cnd (ilt 1000000000 (wr .i64 (aj y2.fst.gen 1))) (some (x0,0,3)) (af (gy x0 [(UInt8.ofNat 116),(UInt8.ofNat 109),(UInt8.ofNat 112)]) fun y3 => cnd (ile 0 y3) (af (nV x0 [(UInt8.ofNat 116),(UInt8.ofNat 109),(UInt8.ofNat 112)]) fun y4 => cnd (ay (ieq y4.snd 0)) (some (y4.fst,0,y4.snd)) (af (nX x1) fun y5 => af (iE y4.fst [(UInt8.ofNat 116),(UInt8.ofNat 109),(UInt8.ofNat 112)] y5) fun y6 => cnd (ay (ieq y6.snd 0)) (some (y6.fst,0,y6.snd)) (af (jg y6.fst [(UInt8.ofNat 116),(UInt8.ofNat 109),(UInt8.ofNat 112)]) fun y7 => cnd (ay (ieq y7.snd 0)) (some (y7.fst,0,y7.snd)) (af (je (wr .i64 (aj y2.fst.gen 1))) fun y8 => af (kY y7.fst [(UInt8.ofNat 116),(UInt8.ofNat 109),(UInt8.ofNat 112)] y8) fun y9 => cnd (ay (ieq y9.snd 0)) (some (y9.fst,0,y9.snd)) (af (mg y9.fst (dw.mk (wr .i64 (aj y2.fst.gen 1)) x1.lsn)) fun y10 => cnd (ay (ieq y10.snd 0)) (some (y10.fst,0,y10.snd)) (af (bD (fun v => fP (wr .i64 (aj y2.fst.gen 1)) v.fst v.snd.fst v.snd.snd.fst v.snd.snd.snd.fst v.snd.snd.snd.snd.fst v.snd.snd.snd.snd.snd) LF (0,y10.snd,0,0,au.mk [] 0 0 false,y10.fst)) fun y11 => gY y11 (fun y12 => some (y12.snd.snd.fst,y12.snd.fst,y12.fst)) fun y12 => some (y12.snd.snd.snd.snd,wr .i64 (aj y2.fst.gen 1),0))))))) (af (nX x1) fun y13 => af (iE x0 [(UInt8.ofNat 116),(UInt8.ofNat 109),(UInt8.ofNat 112)] y13) fun y14 => cnd (ay (ieq y14.snd 0)) (some (y14.fst,0,y14.snd)) (af (jg y14.fst [(UInt8.ofNat 116),(UInt8.ofNat 109),(UInt8.ofNat 112)]) fun y15 => cnd (ay (ieq y15.snd 0)) (some (y15.fst,0,y15.snd)) (af (je (wr .i64 (aj y2.fst.gen 1))) fun y16 => af (kY y15.fst [(UInt8.ofNat 116),(UInt8.ofNat 109),(UInt8.ofNat 112)] y16) fun y17 => cnd (ay (ieq y17.snd 0)) (some (y17.fst,0,y17.snd)) (af (mg y17.fst (dw.mk (wr .i64 (aj y2.fst.gen 1)) x1.lsn)) fun y18 => cnd (ay (ieq y18.snd 0)) (some (y18.fst,0,y18.snd)) (af (bD (fun v => fP (wr .i64 (aj y2.fst.gen 1)) v.fst v.snd.fst v.snd.snd.fst v.snd.snd.snd.fst v.snd.snd.snd.snd.fst v.snd.snd.snd.snd.snd) LF (0,y18.snd,0,0,au.mk [] 0 0 false,y18.fst)) fun y19 => gY y19 (fun y20 => some (y20.snd.snd.fst,y20.snd.fst,y20.fst)) fun y20 => some (y20.snd.snd.snd.snd,wr .i64 (aj y2.fst.gen 1),0)))))))))
noncomputable def Fg:Cx:={ P:=PG,ety:=ety,fn:=look [(37,jP),(38,o7),(39,kH),(40,dF),(41,xH),(43,xI),(42,oD),(44,qf),(15,kK),(45,xC),(46,yH),(20,BG)],inl:=dR [],lp:=aS [(11,524282,Cb)] }
theorem Nj (p0:Int) (v0:Int) (v1:Int) (v2:Int) (v3:Int) (v4:au) (v5:au):fC Fg 900 11 524282 (dK PG 11 524282) DY Eb p0 (v0,v1,v2,v3,v4,v5)=fP p0 v0 v1 v2 v3 v4 v5:=by kernel_rfl
theorem WA (x0:au) (x1:ax):bP Fg 11 [.val .disk,.val .state] [.val .disk,.int .i64,.int .i64] (x0,x1)=uz x0 x1:=by kernel_rfl
def zO:aO:=mkSpec [.val .disk,.val .state] [.val .disk,.int .i64,.int .i64] false (fun x=>uz x.1 x.2)
theorem Yl:dI PG 11 zO:=
 have K:CxR Fg:=aP.cx (fun _=>rfl) (l:=[(37,jP),(38,o7),(39,kH),(40,dF),(41,xH),(43,xI),(42,oD),(44,qf),(15,kK),(45,xC),(46,yH),(20,BG)]) ⟨BM,KH,D8,jZ,Vm,Vs,Kr,MH,DJ,VP,Xr,Zx,trivial⟩
 aH K (aG (l:=[(11,524282,Cb)]) rfl ⟨bF (n:=900) (f:=11) K (by kernel_rfl) (by kernel_rfl) (by kernel_rfl) (by kernel_rfl) (by kernel_rfl) (fun p v r h=>(Nj p v.1 v.2.1 v.2.2.1 v.2.2.2.1 v.2.2.2.2.1 v.2.2.2.2.2).trans h),trivial⟩) (by kernel_rfl) (fun x y h=>(WA x.1 x.2).trans h) rfl rfl
def Jh:LSh:=⟨98,[],[(3,.mp 24 0),(2,.mp 16 0)],[(24,[.val .disk]),(16,[.val .disk])],[(5,.int .i64),(4,.bool)],[],[]⟩
@[reducible] def Jk:List fO:=[⟨.ret,[(4,.bool)],[],[]⟩,⟨.exit 0,[(4,.bool)],[],[]⟩]
def mX (p0:au) (p1:au) (v0:Int) (v1:Bool):Option ((Int×Bool) ⊕ ((Bool) ⊕ ((Bool)))):=cnd (ilt v0 (len p1.files)) (cnd (band (ile 0 v0) (ilt v0 (len p1.files))) (cnd (band (ile 0 v0) (ilt v0 (len p0.files))) (cnd (bor (bor (ay (seq (ai p1.files (itn v0)).name (ai p0.files (itn v0)).name)) (ay (ieq (ai p1.files (itn v0)).sure (ai p0.files (itn v0)).sure))) (ay (seq (u2s (ai p1.files (itn v0)).data) (u2s (ai p0.files (itn v0)).data)))) (some (Sum.inr (Sum.inl false))) (some (Sum.inl (wr .i64 (aj v0 1),v1)))) none) none) (some (Sum.inr (Sum.inr v1)))
def IK:dU:=Jh.spec Jk [36,37,38,39,40,43,44,45,46,47,48,49,50,51,52,6,7,53,54,55,56,57,58,59,60,61,62,63,64,65,66,67,68,69,70,71,72,73,4,41,42,5] (fun p v=>mX p.1 p.2 v.1 v.2)
def uD (x0:au) (x1:au):Option (Bool):=cnd (bor (bor (bor (ay (ieq (len x0.files) (len x1.files))) (ay (ieq x0.room x1.room))) (ay (ieq x0.fuse x1.fuse))) (ay (beq x0.down x1.down))) (some false) (af (bD (fun v => mX x1 x0 v.fst v.snd) LF (0,false)) fun y0 => gY y0 (fun y1 => some y1) fun y1 => some true)
noncomputable def Fp:Cx:={ P:=PG,ety:=ety,fn:=look [],inl:=dR [],lp:=aS [(12,58,IK)] }
theorem Rt (p0:au) (p1:au) (v0:Int) (v1:Bool):fC Fp 900 12 58 (dK PG 12 58) Jh Jk (p0,p1) (v0,v1)=mX p0 p1 v0 v1:=by kernel_rfl
theorem V9 (x0:au) (x1:au):bP Fp 12 [.val .disk,.val .disk] [.bool] (x0,x1)=uD x0 x1:=by kernel_rfl
def zM:aO:=mkSpec [.val .disk,.val .disk] [.bool] true (fun x=>uD x.1 x.2)
theorem Yr:dI PG 12 zM:=
 have K:CxR Fp:=aP.cx (fun _=>rfl) (l:=[]) trivial
 aH K (aG (l:=[(12,58,IK)]) rfl ⟨bF (n:=900) (f:=12) K (by kernel_rfl) (by kernel_rfl) (by kernel_rfl) (by kernel_rfl) (by kernel_rfl) (fun p v r h=>(Rt p.1 p.2 v.1 v.2).trans h),trivial⟩) (by kernel_rfl) (fun x y h=>(V9 x.1 x.2).trans h) rfl rfl
def KO:LSh:=⟨68,[(0,.ro .u8)],[],[],[(4,.int .i64),(3,.int .u64)],[],[]⟩
@[reducible] def KC:List fO:=[⟨.exit 0,[(3,.int .u64)],[],[]⟩]
def qQ (p0:(List Int)) (v0:Int) (v1:Int):Option ((Int×Int) ⊕ ((Int))):=cnd (ilt v0 (len p0)) (cnd (band (ile 0 v0) (ilt v0 (len p0))) (some (Sum.inl (wr .i64 (aj v0 1),wr .u64 (aj (wr .u64 (dY v1 256)) (wr .u64 (ai p0 (itn v0))))))) none) (some (Sum.inr v1))
def Jp:dU:=KO.spec KC [5,6,7,8,11,12,13,14,15,16,17,18,3,9,10,4] (fun p v=>qQ p v.1 v.2)
def dG (x0:(List Int)):Option (Int):=af (bD (fun v => qQ x0 v.fst v.snd) LF (0,0)) fun y0 => some (wr .i64 y0)
noncomputable def Ht:Cx:={ P:=PG,ety:=ety,fn:=look [],inl:=dR [],lp:=aS [(112,58,Jp)] }
theorem Tq (p0:(List Int)) (v0:Int) (v1:Int):fC Ht 900 112 58 (dK PG 112 58) KO KC p0 (v0,v1)=qQ p0 v0 v1:=by kernel_rfl
theorem XE (x0:(List Int)):bP Ht 112 [.ro .u8] [.int .i64] x0=dG x0:=by kernel_rfl
def BH:aO:=mkSpec [.ro .u8] [.int .i64] true (fun x=>dG x)
theorem ZE:dI PG 112 BH:=
 have K:CxR Ht:=aP.cx (fun _=>rfl) (l:=[]) trivial
 aH K (aG (l:=[(112,58,Jp)]) rfl ⟨bF (n:=900) (f:=112) K (by kernel_rfl) (by kernel_rfl) (by kernel_rfl) (by kernel_rfl) (by kernel_rfl) (fun p v r h=>(Tq p v.1 v.2).trans h),trivial⟩) (by kernel_rfl) (fun x y h=>(XE x).trans h) rfl rfl
def Ei:LSh:=⟨163,[(0,.ro .u8)],[(2,.mp 8 0)],[],[(8,.int .i64),(7,.int .u32),(3,.int .i64)],[(8,[.val .state])],[]⟩
@[reducible] def DW:List fO:=[⟨.ret,[(3,.int .i64)],[(8,[.val .state])],[]⟩,⟨.exit 0,[(3,.int .i64)],[(8,[.val .state])],[]⟩]
def jQ (p0:(List Int)) (v0:Int) (v1:Int) (v2:Int) (v3:ax):Option ((Int×Int×Int×ax) ⊕ ((Int×ax) ⊕ ((Int×ax)))):=cnd (ilt v0 4) (cnd (band (ile 0 (wr .i64 (aj (wr .i64 (aI (len p0) 4)) v0))) (ilt (wr .i64 (aj (wr .i64 (aI (len p0) 4)) v0)) (len p0))) (cnd (ay (ieq (ai p0 (itn (wr .i64 (aj (wr .i64 (aI (len p0) 4)) v0)))) (wr .u8 (vI v1 256)))) (some (Sum.inr (Sum.inl (10,ax.mk 0 0 [] [] [] [] false 0 0 0)))) (some (Sum.inl (wr .i64 (aj v0 1),wr .u32 (JA v1 256),v2,v3)))) none) (some (Sum.inr (Sum.inr (v2,v3))))
def Ce:dU:=Ei.spec DW [112,113,116,117,118,119,120,121,122,123,124,125,126,127,128,3,129,130,7,114,115,8] (fun p v=>jQ p v.1 v.2.1 v.2.2.1 v.2.2.2)
def Bj:LSh:=⟨250,[(5,.int .i64),(0,.ro .u8)],[(4,.mp 344 0)],[],[(10,.int .i64),(9,.int .i64)],[(344,[.int .i64,.int .i64,.buf .order,.buf .cell,.buf .expo,.buf .i64,.bool,.int .i64,.int .i64,.int .i64])],[]⟩
@[reducible] def Bf:List fO:=[⟨.exit 2,[(9,.int .i64)],[(344,[.int .i64,.int .i64,.buf .order,.buf .cell,.buf .expo,.buf .i64,.bool,.int .i64,.int .i64,.int .i64])],[]⟩]
def jr (p0:Int) (p1:(List Int)) (v0:Int) (v1:Int) (v2:Int) (v3:Int) (v4:(List aJ)) (v5:(List aK)) (v6:(List dL)) (v7:(List Int)) (v8:Bool) (v9:Int) (v10:Int) (v11:Int):Option ((Int×Int×Int×Int×(List aJ)×(List aK)×(List dL)×(List Int)×Bool×Int×Int×Int) ⊕ ((Int×Int×Int×(List aJ)×(List aK)×(List dL)×(List Int)×Bool×Int×Int×Int))):=cnd (ilt v0 p0) (cnd (band (band (ile 0 v1) (ile v1 (wr .i64 (aj v1 8)))) (ile (wr .i64 (aj v1 8)) (len p1))) (af (dG (aA (aN p1 (itn v1)) (itn (aI (wr .i64 (aj v1 8)) v1)))) fun y0 => cnd (band (ile 0 (wr .i64 (aj v1 8))) (ilt (wr .i64 (aj v1 8)) (len p1))) (cnd (band (ile 0 (wr .i64 (aj v1 9))) (ilt (wr .i64 (aj v1 9)) (len p1))) (cnd (band (ile 0 (wr .i64 (aj v1 10))) (ilt (wr .i64 (aj v1 10)) (len p1))) (cnd (band (ile 0 (wr .i64 (aj v1 11))) (ilt (wr .i64 (aj v1 11)) (len p1))) (cnd (band (band (ile 0 (wr .i64 (aj v1 12))) (ile (wr .i64 (aj v1 12)) (wr .i64 (aj v1 20)))) (ile (wr .i64 (aj v1 20)) (len p1))) (af (dG (aA (aN p1 (itn (wr .i64 (aj v1 12)))) (itn (aI (wr .i64 (aj v1 20)) (wr .i64 (aj v1 12)))))) fun y1 => cnd (band (band (ile 0 (wr .i64 (aj v1 20))) (ile (wr .i64 (aj v1 20)) (wr .i64 (aj v1 28)))) (ile (wr .i64 (aj v1 28)) (len p1))) (af (dG (aA (aN p1 (itn (wr .i64 (aj v1 20)))) (itn (aI (wr .i64 (aj v1 28)) (wr .i64 (aj v1 20)))))) fun y2 => cnd (band (band (ile 0 (wr .i64 (aj v1 28))) (ile (wr .i64 (aj v1 28)) (wr .i64 (aj v1 36)))) (ile (wr .i64 (aj v1 36)) (len p1))) (af (dG (aA (aN p1 (itn (wr .i64 (aj v1 28)))) (itn (aI (wr .i64 (aj v1 36)) (wr .i64 (aj v1 28)))))) fun y3 => cnd (band (band (ile 0 (wr .i64 (aj v1 36))) (ile (wr .i64 (aj v1 36)) (wr .i64 (aj v1 44)))) (ile (wr .i64 (aj v1 44)) (len p1))) (af (dG (aA (aN p1 (itn (wr .i64 (aj v1 36)))) (itn (aI (wr .i64 (aj v1 44)) (wr .i64 (aj v1 36)))))) fun y4 => cnd (band (band (ile 0 (wr .i64 (aj v1 44))) (ile (wr .i64 (aj v1 44)) (wr .i64 (aj v1 52)))) (ile (wr .i64 (aj v1 52)) (len p1))) (af (dG (aA (aN p1 (itn (wr .i64 (aj v1 44)))) (itn (aI (wr .i64 (aj v1 52)) (wr .i64 (aj v1 44)))))) fun y5 => cnd (band (band (ile 0 (wr .i64 (aj v1 52))) (ile (wr .i64 (aj v1 52)) (wr .i64 (aj v1 60)))) (ile (wr .i64 (aj v1 60)) (len p1))) (af (dG (aA (aN p1 (itn (wr .i64 (aj v1 52)))) (itn (aI (wr .i64 (aj v1 60)) (wr .i64 (aj v1 52)))))) fun y6 => cnd (band (ile 0 (wr .i64 (aj v1 60))) (ilt (wr .i64 (aj v1 60)) (len p1))) (cnd (ile (len (dB v4 [aJ.mk y0 (wr .i64 (ai p1 (itn (wr .i64 (aj v1 8))))) (wr .i64 (ai p1 (itn (wr .i64 (aj v1 9))))) (wr .i64 (ai p1 (itn (wr .i64 (aj v1 10))))) y1 y2 y3 (wr .i64 (ai p1 (itn (wr .i64 (aj v1 11))))) y4 y5 y6 (ieq (ai p1 (itn (wr .i64 (aj v1 60)))) 1)])) 68719476736) (some (Sum.inl (wr .i64 (aj v0 1),wr .i64 (aj v1 61),v2,v3,dB v4 [aJ.mk y0 (wr .i64 (ai p1 (itn (wr .i64 (aj v1 8))))) (wr .i64 (ai p1 (itn (wr .i64 (aj v1 9))))) (wr .i64 (ai p1 (itn (wr .i64 (aj v1 10))))) y1 y2 y3 (wr .i64 (ai p1 (itn (wr .i64 (aj v1 11))))) y4 y5 y6 (ieq (ai p1 (itn (wr .i64 (aj v1 60)))) 1)],v5,v6,v7,v8,v9,v10,v11))) none) none) none) none) none) none) none) none) none) none) none) none) none) (some (Sum.inr (v1,v2,v3,v4,v5,v6,v7,v8,v9,v10,v11)))
def zA:dU:=Bj.spec Bf [143,144,145,148,149,150,151,152,153,154,155,156,157,158,159,160,161,162,163,164,165,166,167,168,169,170,171,172,173,174,175,176,177,178,11,179,180,181,182,183,184,185,186,187,188,189,190,191,192,193,194,195,196,197,198,199,200,201,202,203,204,205,206,207,208,209,210,211,212,213,214,215,216,217,218,219,220,221,222,223,224,225,226,227,228,229,230,231,232,233,234,235,236,237,238,239,240,241,9,146,147,10] (fun p v=>jr p.1 p.2 v.1 v.2.1 v.2.2.1 v.2.2.2.1 v.2.2.2.2.1 v.2.2.2.2.2.1 v.2.2.2.2.2.2.1 v.2.2.2.2.2.2.2.1 v.2.2.2.2.2.2.2.2.1 v.2.2.2.2.2.2.2.2.2.1 v.2.2.2.2.2.2.2.2.2.2.1 v.2.2.2.2.2.2.2.2.2.2.2)
def A8:LSh:=⟨338,[(6,.int .i64),(0,.ro .u8)],[(4,.mp 344 0)],[],[(12,.int .i64),(9,.int .i64)],[(344,[.int .i64,.int .i64,.buf .order,.buf .cell,.buf .expo,.buf .i64,.bool,.int .i64,.int .i64,.int .i64])],[]⟩
@[reducible] def AZ:List fO:=[⟨.exit 4,[(9,.int .i64)],[(344,[.int .i64,.int .i64,.buf .order,.buf .cell,.buf .expo,.buf .i64,.bool,.int .i64,.int .i64,.int .i64])],[]⟩]
def jm (p0:Int) (p1:(List Int)) (v0:Int) (v1:Int) (v2:Int) (v3:Int) (v4:(List aJ)) (v5:(List aK)) (v6:(List dL)) (v7:(List Int)) (v8:Bool) (v9:Int) (v10:Int) (v11:Int):Option ((Int×Int×Int×Int×(List aJ)×(List aK)×(List dL)×(List Int)×Bool×Int×Int×Int) ⊕ ((Int×Int×Int×(List aJ)×(List aK)×(List dL)×(List Int)×Bool×Int×Int×Int))):=cnd (ilt v0 p0) (cnd (band (band (ile 0 v1) (ile v1 (wr .i64 (aj v1 8)))) (ile (wr .i64 (aj v1 8)) (len p1))) (af (dG (aA (aN p1 (itn v1)) (itn (aI (wr .i64 (aj v1 8)) v1)))) fun y0 => cnd (ile (len (dB v5 [aK.mk y0 0 0 0])) 68719476736) (some (Sum.inl (wr .i64 (aj v0 1),wr .i64 (aj v1 8),v2,v3,v4,dB v5 [aK.mk y0 0 0 0],v6,v7,v8,v9,v10,v11))) none) none) (some (Sum.inr (v1,v2,v3,v4,v5,v6,v7,v8,v9,v10,v11)))
def zl:dU:=A8.spec AZ [242,243,244,247,248,249,250,251,252,253,254,255,256,257,258,259,260,9,245,246,12] (fun p v=>jm p.1 p.2 v.1 v.2.1 v.2.2.1 v.2.2.2.1 v.2.2.2.2.1 v.2.2.2.2.2.1 v.2.2.2.2.2.2.1 v.2.2.2.2.2.2.2.1 v.2.2.2.2.2.2.2.2.1 v.2.2.2.2.2.2.2.2.2.1 v.2.2.2.2.2.2.2.2.2.2.1 v.2.2.2.2.2.2.2.2.2.2.2)
def AB:LSh:=⟨426,[(6,.int .i64),(0,.ro .u8)],[(4,.mp 344 0)],[],[(13,.int .i64),(9,.int .i64)],[(344,[.int .i64,.int .i64,.buf .order,.buf .cell,.buf .expo,.buf .i64,.bool,.int .i64,.int .i64,.int .i64])],[]⟩
@[reducible] def AX:List fO:=[⟨.exit 6,[(9,.int .i64)],[(344,[.int .i64,.int .i64,.buf .order,.buf .cell,.buf .expo,.buf .i64,.bool,.int .i64,.int .i64,.int .i64])],[]⟩]
def jq (p0:Int) (p1:(List Int)) (v0:Int) (v1:Int) (v2:Int) (v3:Int) (v4:(List aJ)) (v5:(List aK)) (v6:(List dL)) (v7:(List Int)) (v8:Bool) (v9:Int) (v10:Int) (v11:Int):Option ((Int×Int×Int×Int×(List aJ)×(List aK)×(List dL)×(List Int)×Bool×Int×Int×Int) ⊕ ((Int×Int×Int×(List aJ)×(List aK)×(List dL)×(List Int)×Bool×Int×Int×Int))):=cnd (ilt v0 p0) (cnd (band (band (ile 0 v1) (ile v1 (wr .i64 (aj v1 8)))) (ile (wr .i64 (aj v1 8)) (len p1))) (af (dG (aA (aN p1 (itn v1)) (itn (aI (wr .i64 (aj v1 8)) v1)))) fun y0 => cnd (band (band (ile 0 (wr .i64 (aj v1 8))) (ile (wr .i64 (aj v1 8)) (wr .i64 (aj v1 16)))) (ile (wr .i64 (aj v1 16)) (len p1))) (af (dG (aA (aN p1 (itn (wr .i64 (aj v1 8)))) (itn (aI (wr .i64 (aj v1 16)) (wr .i64 (aj v1 8)))))) fun y1 => cnd (band (band (ile 0 (wr .i64 (aj v1 16))) (ile (wr .i64 (aj v1 16)) (wr .i64 (aj v1 24)))) (ile (wr .i64 (aj v1 24)) (len p1))) (af (dG (aA (aN p1 (itn (wr .i64 (aj v1 16)))) (itn (aI (wr .i64 (aj v1 24)) (wr .i64 (aj v1 16)))))) fun y2 => cnd (ile (len (dB v6 [dL.mk y0 y1 y2])) 68719476736) (some (Sum.inl (wr .i64 (aj v0 1),wr .i64 (aj v1 24),v2,v3,v4,v5,dB v6 [dL.mk y0 y1 y2],v7,v8,v9,v10,v11))) none) none) none) none) (some (Sum.inr (v1,v2,v3,v4,v5,v6,v7,v8,v9,v10,v11)))
def zy:dU:=AB.spec AX [261,262,263,266,267,268,269,270,271,272,273,274,275,276,277,278,279,280,281,282,283,284,285,286,287,288,289,290,291,292,293,9,264,265,13] (fun p v=>jq p.1 p.2 v.1 v.2.1 v.2.2.1 v.2.2.2.1 v.2.2.2.2.1 v.2.2.2.2.2.1 v.2.2.2.2.2.2.1 v.2.2.2.2.2.2.2.1 v.2.2.2.2.2.2.2.2.1 v.2.2.2.2.2.2.2.2.2.1 v.2.2.2.2.2.2.2.2.2.2.1 v.2.2.2.2.2.2.2.2.2.2.2)
def zB:LSh:=⟨514,[(0,.ro .u8)],[(4,.mp 344 0)],[],[(14,.int .i64),(9,.int .i64)],[(344,[.int .i64,.int .i64,.buf .order,.buf .cell,.buf .expo,.buf .i64,.bool,.int .i64,.int .i64,.int .i64])],[]⟩
@[reducible] def zx:List fO:=[⟨.exit 8,[(9,.int .i64)],[(344,[.int .i64,.int .i64,.buf .order,.buf .cell,.buf .expo,.buf .i64,.bool,.int .i64,.int .i64,.int .i64])],[]⟩]
def jb (p0:(List Int)) (v0:Int) (v1:Int) (v2:Int) (v3:Int) (v4:(List aJ)) (v5:(List aK)) (v6:(List dL)) (v7:(List Int)) (v8:Bool) (v9:Int) (v10:Int) (v11:Int):Option ((Int×Int×Int×Int×(List aJ)×(List aK)×(List dL)×(List Int)×Bool×Int×Int×Int) ⊕ ((Int×Int×Int×(List aJ)×(List aK)×(List dL)×(List Int)×Bool×Int×Int×Int))):=cnd (ilt v0 v2) (cnd (band (band (ile 0 v1) (ile v1 (wr .i64 (aj v1 8)))) (ile (wr .i64 (aj v1 8)) (len p0))) (af (dG (aA (aN p0 (itn v1)) (itn (aI (wr .i64 (aj v1 8)) v1)))) fun y0 => cnd (ile (len (dB v7 [y0])) 68719476736) (some (Sum.inl (wr .i64 (aj v0 1),wr .i64 (aj v1 8),v2,v3,v4,v5,v6,dB v7 [y0],v8,v9,v10,v11))) none) none) (some (Sum.inr (v1,v2,v3,v4,v5,v6,v7,v8,v9,v10,v11)))
def yE:dU:=zB.spec zx [294,295,296,297,300,301,302,303,304,305,306,307,308,309,310,311,312,9,298,299,14] (fun p v=>jb p v.1 v.2.1 v.2.2.1 v.2.2.2.1 v.2.2.2.2.1 v.2.2.2.2.2.1 v.2.2.2.2.2.2.1 v.2.2.2.2.2.2.2.1 v.2.2.2.2.2.2.2.2.1 v.2.2.2.2.2.2.2.2.2.1 v.2.2.2.2.2.2.2.2.2.2.1 v.2.2.2.2.2.2.2.2.2.2.2)
def zG:LSh:=⟨602,[(5,.int .i64),(0,.ro .u8)],[(4,.mp 344 0),(2,.mp 8 0)],[(344,[.int .i64,.int .i64,.ro .order,.ro .cell,.ro .expo,.ro .i64,.bool,.int .i64,.int .i64,.int .i64])],[(15,.int .i64),(3,.int .i64)],[(8,[.val .state])],[]⟩
@[reducible] def zF:List fO:=[⟨.ret,[(3,.int .i64)],[(8,[.val .state])],[]⟩,⟨.exit 10,[(3,.int .i64)],[(8,[.val .state])],[]⟩]
def jc (p0:Int) (p1:(List Int)) (p2:Int) (p3:Int) (p4:(List aJ)) (p5:(List aK)) (p6:(List dL)) (p7:(List Int)) (p8:Bool) (p9:Int) (p10:Int) (p11:Int) (v0:Int) (v1:Int) (v2:ax):Option ((Int×Int×ax) ⊕ ((Int×ax) ⊕ ((Int×ax)))):=cnd (ilt v0 p0) (cnd (band (ile 0 v0) (ilt v0 (len p4))) (cnd (bor (band (ile 0 (wr .i64 (aj (wr .i64 (aj 32 (wr .i64 (dY 61 v0)))) 60))) (ilt (wr .i64 (aj (wr .i64 (aj 32 (wr .i64 (dY 61 v0)))) 60)) (len p1))) (ay (ay (bor (ile p2 (ai p4 (itn v0)).account) (ile p3 (ai p4 (itn v0)).symbol))))) (cnd (bor (bor (ile p2 (ai p4 (itn v0)).account) (ile p3 (ai p4 (itn v0)).symbol)) (ilt 1 (ai p1 (itn (wr .i64 (aj (wr .i64 (aj 32 (wr .i64 (dY 61 v0)))) 60)))))) (some (Sum.inr (Sum.inl (2,ax.mk 0 0 [] [] [] [] false 0 0 0)))) (some (Sum.inl (wr .i64 (aj v0 1),v1,v2)))) none) none) (some (Sum.inr (Sum.inr (v1,v2))))
def yO:dU:=zG.spec zF [313,314,315,318,319,320,321,322,16,323,324,325,326,327,328,329,330,331,332,333,334,335,336,337,338,339,340,341,342,343,344,345,3,316,317,15] (fun p v=>jc p.1 p.2.1 p.2.2.1 p.2.2.2.1 p.2.2.2.2.1 p.2.2.2.2.2.1 p.2.2.2.2.2.2.1 p.2.2.2.2.2.2.2.1 p.2.2.2.2.2.2.2.2.1 p.2.2.2.2.2.2.2.2.2.1 p.2.2.2.2.2.2.2.2.2.2.1 p.2.2.2.2.2.2.2.2.2.2.2 v.1 v.2.1 v.2.2)
def og (x0:(List Int)):Option (ax×Int):=cnd (bor (ilt 0 (len x0)) (ay (ay (ilt (len x0) 36)))) (cnd (bor (ilt 1 (len x0)) (ay (ay (bor (ilt (len x0) 36) (ay (ieq (ai x0 0) 115)))))) (cnd (bor (ilt 2 (len x0)) (ay (ay (bor (bor (ilt (len x0) 36) (ay (ieq (ai x0 0) 115))) (ay (ieq (ai x0 1) 110)))))) (cnd (bor (ilt 3 (len x0)) (ay (ay (bor (bor (bor (ilt (len x0) 36) (ay (ieq (ai x0 0) 115))) (ay (ieq (ai x0 1) 110))) (ay (ieq (ai x0 2) 97)))))) (cnd (bor (bor (bor (bor (ilt (len x0) 36) (ay (ieq (ai x0 0) 115))) (ay (ieq (ai x0 1) 110))) (ay (ieq (ai x0 2) 97))) (ay (ieq (ai x0 3) 102))) (some (ax.mk 0 0 [] [] [] [] false 0 0 0,2)) (cnd (ilt 4 (len x0)) (cnd (ilt 5 (len x0)) (cnd (ilt 6 (len x0)) (cnd (ilt 7 (len x0)) (cnd (bor (bor (bor (bor (ilt (wr .i64 (ai x0 4)) 1) (ilt 8 (wr .i64 (ai x0 4)))) (ilt (wr .i64 (ai x0 5)) 1)) (ilt 8 (wr .i64 (ai x0 5)))) (ilt 64 (wr .i64 (ai x0 7)))) (some (ax.mk 0 0 [] [] [] [] false 0 0 0,2)) (cnd (ay (ieq (len x0) (wr .i64 (aj (wr .i64 (aj (wr .i64 (aj 36 (wr .i64 (dY 61 (wr .i64 (ai x0 7)))))) (wr .i64 (dY 32 (wr .i64 (dY (wr .i64 (ai x0 4)) (wr .i64 (ai x0 5)))))))) (wr .i64 (dY 8 (wr .i64 (ai x0 4)))))))) (some (ax.mk 0 0 [] [] [] [] false 0 0 0,2)) (cnd (band (ile 0 (wr .i64 (aI (len x0) 4))) (ile (wr .i64 (aI (len x0) 4)) (len x0))) (af (lV (aA x0 (itn (wr .i64 (aI (len x0) 4))))) fun y0 => af (bD (fun v => jQ x0 v.fst v.snd.fst v.snd.snd.fst v.snd.snd.snd) LF (0,y0,0,ax.mk 0 0 [] [] [] [] false 0 0 0)) fun y1 => gY y1 (fun y2 => some (y2.snd,y2.fst)) fun y2 => cnd (ile 16 (len x0)) (af (dG (aA (aN x0 8) 8)) fun y3 => cnd (ile 24 (len x0)) (af (dG (aA (aN x0 16) 8)) fun y4 => cnd (ile 32 (len x0)) (af (dG (aA (aN x0 24) 8)) fun y5 => af (bD (fun v => jr (wr .i64 (ai x0 7)) x0 v.fst v.snd.fst v.snd.snd.fst v.snd.snd.snd.fst v.snd.snd.snd.snd.fst v.snd.snd.snd.snd.snd.fst v.snd.snd.snd.snd.snd.snd.fst v.snd.snd.snd.snd.snd.snd.snd.fst v.snd.snd.snd.snd.snd.snd.snd.snd.fst v.snd.snd.snd.snd.snd.snd.snd.snd.snd.fst v.snd.snd.snd.snd.snd.snd.snd.snd.snd.snd.fst v.snd.snd.snd.snd.snd.snd.snd.snd.snd.snd.snd) LF (0,32,wr .i64 (ai x0 4),wr .i64 (ai x0 5),[],[],[],[],ieq (ai x0 6) 1,y3,y4,y5)) fun y6 => af (bD (fun v => jm (wr .i64 (dY (wr .i64 (ai x0 4)) (wr .i64 (ai x0 5)))) x0 v.fst v.snd.fst v.snd.snd.fst v.snd.snd.snd.fst v.snd.snd.snd.snd.fst v.snd.snd.snd.snd.snd.fst v.snd.snd.snd.snd.snd.snd.fst v.snd.snd.snd.snd.snd.snd.snd.fst v.snd.snd.snd.snd.snd.snd.snd.snd.fst v.snd.snd.snd.snd.snd.snd.snd.snd.snd.fst v.snd.snd.snd.snd.snd.snd.snd.snd.snd.snd.fst v.snd.snd.snd.snd.snd.snd.snd.snd.snd.snd.snd) LF (0,y6)) fun y7 => af (bD (fun v => jq (wr .i64 (dY (wr .i64 (ai x0 4)) (wr .i64 (ai x0 5)))) x0 v.fst v.snd.fst v.snd.snd.fst v.snd.snd.snd.fst v.snd.snd.snd.snd.fst v.snd.snd.snd.snd.snd.fst v.snd.snd.snd.snd.snd.snd.fst v.snd.snd.snd.snd.snd.snd.snd.fst v.snd.snd.snd.snd.snd.snd.snd.snd.fst v.snd.snd.snd.snd.snd.snd.snd.snd.snd.fst v.snd.snd.snd.snd.snd.snd.snd.snd.snd.snd.fst v.snd.snd.snd.snd.snd.snd.snd.snd.snd.snd.snd) LF (0,y7)) fun y8 => af (bD (fun v => jb x0 v.fst v.snd.fst v.snd.snd.fst v.snd.snd.snd.fst v.snd.snd.snd.snd.fst v.snd.snd.snd.snd.snd.fst v.snd.snd.snd.snd.snd.snd.fst v.snd.snd.snd.snd.snd.snd.snd.fst v.snd.snd.snd.snd.snd.snd.snd.snd.fst v.snd.snd.snd.snd.snd.snd.snd.snd.snd.fst v.snd.snd.snd.snd.snd.snd.snd.snd.snd.snd.fst v.snd.snd.snd.snd.snd.snd.snd.snd.snd.snd.snd) LF (0,y8)) fun y9 => af (bD (fun v => jc (wr .i64 (ai x0 7)) x0 y9.snd.fst y9.snd.snd.fst y9.snd.snd.snd.fst y9.snd.snd.snd.snd.fst y9.snd.snd.snd.snd.snd.fst y9.snd.snd.snd.snd.snd.snd.fst y9.snd.snd.snd.snd.snd.snd.snd.fst y9.snd.snd.snd.snd.snd.snd.snd.snd.fst y9.snd.snd.snd.snd.snd.snd.snd.snd.snd.fst y9.snd.snd.snd.snd.snd.snd.snd.snd.snd.snd v.fst v.snd.fst v.snd.snd) LF (0,y2)) fun y10 => gY y10 (fun y11 => some (y11.snd,y11.fst)) fun y11 => af (jv (ax.mk y9.snd.fst y9.snd.snd.fst y9.snd.snd.snd.fst y9.snd.snd.snd.snd.fst y9.snd.snd.snd.snd.snd.fst y9.snd.snd.snd.snd.snd.snd.fst y9.snd.snd.snd.snd.snd.snd.snd.fst y9.snd.snd.snd.snd.snd.snd.snd.snd.fst y9.snd.snd.snd.snd.snd.snd.snd.snd.snd.fst y9.snd.snd.snd.snd.snd.snd.snd.snd.snd.snd)) fun y12 => cnd (bor (ilt 6 (len x0)) (ay (ay (ay y12.snd)))) (af (cnd (ay (bor (ay y12.snd) (ilt 1 (ai x0 6)))) (pI (ax.mk y9.snd.fst y9.snd.snd.fst y9.snd.snd.snd.fst y12.fst y9.snd.snd.snd.snd.snd.fst y9.snd.snd.snd.snd.snd.snd.fst y9.snd.snd.snd.snd.snd.snd.snd.fst y9.snd.snd.snd.snd.snd.snd.snd.snd.fst y9.snd.snd.snd.snd.snd.snd.snd.snd.snd.fst y9.snd.snd.snd.snd.snd.snd.snd.snd.snd.snd)) (some false)) fun y13 => cnd (bor (bor (ay y12.snd) (ilt 1 (ai x0 6))) (ay y13)) (some (ax.mk 0 0 [] [] [] [] false 0 0 0,2)) (some (ax.mk y9.snd.fst y9.snd.snd.fst y9.snd.snd.snd.fst y12.fst y9.snd.snd.snd.snd.snd.fst y9.snd.snd.snd.snd.snd.snd.fst y9.snd.snd.snd.snd.snd.snd.snd.fst y9.snd.snd.snd.snd.snd.snd.snd.snd.fst y9.snd.snd.snd.snd.snd.snd.snd.snd.snd.fst y9.snd.snd.snd.snd.snd.snd.snd.snd.snd.snd,0))) none) none) none) none) none))) none) none) none) none)) none) none) none) none
noncomputable def jG:Cx:={ P:=PG,ety:=ety,fn:=look [(105,iT),(112,BH),(95,oV),(38,o7)],inl:=dR [],lp:=aS [(48,4090,Ce),(48,131066,zA),(48,262138,zl),(48,524282,zy),(48,1048570,yE),(48,2097146,yO)] }
theorem NK (p0:(List Int)) (v0:Int) (v1:Int) (v2:Int) (v3:ax):fC jG 900 48 4090 (dK PG 48 4090) Ei DW p0 (v0,v1,v2,v3)=jQ p0 v0 v1 v2 v3:=by kernel_rfl
theorem Kw (p0:Int) (p1:(List Int)) (v0:Int) (v1:Int) (v2:Int) (v3:Int) (v4:(List aJ)) (v5:(List aK)) (v6:(List dL)) (v7:(List Int)) (v8:Bool) (v9:Int) (v10:Int) (v11:Int):fC jG 900 48 131066 (dK PG 48 131066) Bj Bf (p0,p1) (v0,v1,v2,v3,v4,v5,v6,v7,v8,v9,v10,v11)=jr p0 p1 v0 v1 v2 v3 v4 v5 v6 v7 v8 v9 v10 v11:=by kernel_rfl
theorem Ky (p0:Int) (p1:(List Int)) (v0:Int) (v1:Int) (v2:Int) (v3:Int) (v4:(List aJ)) (v5:(List aK)) (v6:(List dL)) (v7:(List Int)) (v8:Bool) (v9:Int) (v10:Int) (v11:Int):fC jG 900 48 262138 (dK PG 48 262138) A8 AZ (p0,p1) (v0,v1,v2,v3,v4,v5,v6,v7,v8,v9,v10,v11)=jm p0 p1 v0 v1 v2 v3 v4 v5 v6 v7 v8 v9 v10 v11:=by kernel_rfl
theorem Ku (p0:Int) (p1:(List Int)) (v0:Int) (v1:Int) (v2:Int) (v3:Int) (v4:(List aJ)) (v5:(List aK)) (v6:(List dL)) (v7:(List Int)) (v8:Bool) (v9:Int) (v10:Int) (v11:Int):fC jG 900 48 524282 (dK PG 48 524282) AB AX (p0,p1) (v0,v1,v2,v3,v4,v5,v6,v7,v8,v9,v10,v11)=jq p0 p1 v0 v1 v2 v3 v4 v5 v6 v7 v8 v9 v10 v11:=by kernel_rfl
theorem Kq (p0:(List Int)) (v0:Int) (v1:Int) (v2:Int) (v3:Int) (v4:(List aJ)) (v5:(List aK)) (v6:(List dL)) (v7:(List Int)) (v8:Bool) (v9:Int) (v10:Int) (v11:Int):fC jG 900 48 1048570 (dK PG 48 1048570) zB zx p0 (v0,v1,v2,v3,v4,v5,v6,v7,v8,v9,v10,v11)=jb p0 v0 v1 v2 v3 v4 v5 v6 v7 v8 v9 v10 v11:=by kernel_rfl
theorem Jl (p0:Int) (p1:(List Int)) (p2:Int) (p3:Int) (p4:(List aJ)) (p5:(List aK)) (p6:(List dL)) (p7:(List Int)) (p8:Bool) (p9:Int) (p10:Int) (p11:Int) (v0:Int) (v1:Int) (v2:ax):fC jG 900 48 2097146 (dK PG 48 2097146) zG zF (p0,p1,p2,p3,p4,p5,p6,p7,p8,p9,p10,p11) (v0,v1,v2)=jc p0 p1 p2 p3 p4 p5 p6 p7 p8 p9 p10 p11 v0 v1 v2:=by kernel_rfl
theorem SV (x0:(List Int)):bP jG 48 [.ro .u8] [.val .state,.int .i64] x0=og x0:=by kernel_rfl
def xM:aO:=mkSpec [.ro .u8] [.val .state,.int .i64] false (fun x=>og x)
theorem VB:dI PG 48 xM:=
 have K:CxR jG:=aP.cx (fun _=>rfl) (l:=[(105,iT),(112,BH),(95,oV),(38,o7)]) ⟨yc,ZE,Kz,KH,trivial⟩
 aH K (aG (l:=[(48,4090,Ce),(48,131066,zA),(48,262138,zl),(48,524282,zy),(48,1048570,yE),(48,2097146,yO)]) rfl ⟨bF (n:=900) (f:=48) K (by kernel_rfl) (by kernel_rfl) (by kernel_rfl) (by kernel_rfl) (by kernel_rfl) (fun p v r h=>(NK p v.1 v.2.1 v.2.2.1 v.2.2.2).trans h),
  bF (n:=900) (f:=48) K (by kernel_rfl) (by kernel_rfl) (by kernel_rfl) (by kernel_rfl) (by kernel_rfl) (fun p v r h=>(Kw p.1 p.2 v.1 v.2.1 v.2.2.1 v.2.2.2.1 v.2.2.2.2.1 v.2.2.2.2.2.1 v.2.2.2.2.2.2.1 v.2.2.2.2.2.2.2.1 v.2.2.2.2.2.2.2.2.1 v.2.2.2.2.2.2.2.2.2.1 v.2.2.2.2.2.2.2.2.2.2.1 v.2.2.2.2.2.2.2.2.2.2.2).trans h),
  bF (n:=900) (f:=48) K (by kernel_rfl) (by kernel_rfl) (by kernel_rfl) (by kernel_rfl) (by kernel_rfl) (fun p v r h=>(Ky p.1 p.2 v.1 v.2.1 v.2.2.1 v.2.2.2.1 v.2.2.2.2.1 v.2.2.2.2.2.1 v.2.2.2.2.2.2.1 v.2.2.2.2.2.2.2.1 v.2.2.2.2.2.2.2.2.1 v.2.2.2.2.2.2.2.2.2.1 v.2.2.2.2.2.2.2.2.2.2.1 v.2.2.2.2.2.2.2.2.2.2.2).trans h),
  bF (n:=900) (f:=48) K (by kernel_rfl) (by kernel_rfl) (by kernel_rfl) (by kernel_rfl) (by kernel_rfl) (fun p v r h=>(Ku p.1 p.2 v.1 v.2.1 v.2.2.1 v.2.2.2.1 v.2.2.2.2.1 v.2.2.2.2.2.1 v.2.2.2.2.2.2.1 v.2.2.2.2.2.2.2.1 v.2.2.2.2.2.2.2.2.1 v.2.2.2.2.2.2.2.2.2.1 v.2.2.2.2.2.2.2.2.2.2.1 v.2.2.2.2.2.2.2.2.2.2.2).trans h),
  bF (n:=900) (f:=48) K (by kernel_rfl) (by kernel_rfl) (by kernel_rfl) (by kernel_rfl) (by kernel_rfl) (fun p v r h=>(Kq p v.1 v.2.1 v.2.2.1 v.2.2.2.1 v.2.2.2.2.1 v.2.2.2.2.2.1 v.2.2.2.2.2.2.1 v.2.2.2.2.2.2.2.1 v.2.2.2.2.2.2.2.2.1 v.2.2.2.2.2.2.2.2.2.1 v.2.2.2.2.2.2.2.2.2.2.1 v.2.2.2.2.2.2.2.2.2.2.2).trans h),
  bF (n:=900) (f:=48) K (by kernel_rfl) (by kernel_rfl) (by kernel_rfl) (by kernel_rfl) (by kernel_rfl) (fun p v r h=>(Jl p.1 p.2.1 p.2.2.1 p.2.2.2.1 p.2.2.2.2.1 p.2.2.2.2.2.1 p.2.2.2.2.2.2.1 p.2.2.2.2.2.2.2.1 p.2.2.2.2.2.2.2.2.1 p.2.2.2.2.2.2.2.2.2.1 p.2.2.2.2.2.2.2.2.2.2.1 p.2.2.2.2.2.2.2.2.2.2.2 v.1 v.2.1 v.2.2).trans h),trivial⟩) (by kernel_rfl) (fun x y h=>(SV x).trans h) rfl rfl
def uo (x0:au):Option (ax×Int×Int):=af (nM x0) fun y0 => cnd (ay (ieq y0.snd 0)) (some (ax.mk 0 0 [] [] [] [] false 0 0 0,0,y0.snd)) (af (je y0.fst.gen) fun y1 => af (gy x0 y1) fun y2 => cnd (ilt y2 0) (some (ax.mk 0 0 [] [] [] [] false 0 0 0,0,2)) (cnd (band (ile 0 y2) (ilt y2 (len x0.files))) (af (og (ai x0.files (itn y2)).data) fun y3 => cnd (bor (ay (ieq y3.snd 0)) (ay (ieq y3.fst.lsn y0.fst.lsn))) (some (ax.mk 0 0 [] [] [] [] false 0 0 0,0,2)) (some (y3.fst,y0.fst.gen,0))) none))
noncomputable def Ox:Cx:={ P:=PG,ety:=ety,fn:=look [(39,kH),(15,kK),(40,dF),(48,xM)],inl:=dR [],lp:=aS [] }
theorem Vd (x0:au):bP Ox 14 [.val .disk] [.val .state,.int .i64,.int .i64] x0=uo x0:=by kernel_rfl
def Ai:aO:=mkSpec [.val .disk] [.val .state,.int .i64,.int .i64] false (fun x=>uo x)
theorem YX:dI PG 14 Ai:=
 have K:CxR Ox:=aP.cx (fun _=>rfl) (l:=[(39,kH),(15,kK),(40,dF),(48,xM)]) ⟨D8,DJ,jZ,VB,trivial⟩
 aH K (aG (l:=[]) rfl trivial) (by kernel_rfl) (fun x y h=>(Vd x).trans h) rfl rfl
def qL (x0:au) (x1:ax) (x2:Int):Option (Bool):=af pF fun y0 => cnd (ay y0) (some false) (af (sH x0) fun y1 => af (cnd (ay (ay y1)) (sZ x1) (some false)) fun y2 => cnd (bor (ay y1) (ay y2)) (some true) (af (uF x0 x1) fun y3 => af (uz x0 x1) fun y4 => af (cnd (ay (bor (ay (ieq y3.snd.snd y4.snd.snd)) (ay (ieq y3.snd.fst y4.snd.fst)))) (uD y3.fst y4.fst) (some false)) fun y5 => cnd (bor (bor (ay (ieq y3.snd.snd y4.snd.snd)) (ay (ieq y3.snd.fst y4.snd.fst))) (ay y5)) (some false) (af (uN x0) fun y6 => af (uo x0) fun y7 => cnd (band (ile 1 x2) (ile x2 1000000000)) (af (je x2) fun y8 => af (cnd (band (ieq y6.snd.snd y7.snd.snd) (ieq y6.snd.fst y7.snd.fst)) (iH y6.fst y7.fst) (some false)) fun y9 => af (cnd (band (band (ieq y6.snd.snd y7.snd.snd) (ieq y6.snd.fst y7.snd.fst)) y9) (dV x2) (some [])) fun y10 => some (band (band (band (ieq y6.snd.snd y7.snd.snd) (ieq y6.snd.fst y7.snd.fst)) y9) (seq y10 y8))) (af (cnd (band (ieq y6.snd.snd y7.snd.snd) (ieq y6.snd.fst y7.snd.fst)) (iH y6.fst y7.fst) (some false)) fun y11 => af (cnd (band (band (ieq y6.snd.snd y7.snd.snd) (ieq y6.snd.fst y7.snd.fst)) y11) (dV x2) (some [])) fun y12 => some (band (band (band (ieq y6.snd.snd y7.snd.snd) (ieq y6.snd.fst y7.snd.fst)) y11) (seq y12 []))))))
noncomputable def EY:Cx:={ P:=PG,ety:=ety,fn:=look [(7,yA),(8,yZ),(9,zh),(10,AU),(11,zO),(12,zM),(13,Ba),(14,Ai),(15,kK),(16,qx),(17,oJ)],inl:=dR [4095],lp:=aS [] }
theorem Ob (x0:au) (x1:ax) (x2:Int):bP EY 3 [.val .disk,.val .state,.int .i64] [.bool] (x0,x1,x2)=qL x0 x1 x2:=by kernel_rfl
def NV:aO:=mkSpec [.val .disk,.val .state,.int .i64] [.bool] true (fun x=>qL x.1 x.2.1 x.2.2)
theorem PZ:dI PG 3 NV:=
 have K:CxR EY:=aP.cx (fun _=>rfl) (l:=[(7,yA),(8,yZ),(9,zh),(10,AU),(11,zO),(12,zM),(13,Ba),(14,Ai),(15,kK),(16,qx),(17,oJ)]) ⟨Xu,XF,Xw,Z5,Yl,Yr,aal,YX,DJ,Nv,Gj,trivial⟩
 aH K (aG (l:=[]) rfl trivial) (by kernel_rfl) (fun x y h=>(Ob x.1 x.2.1 x.2.2).trans h) rfl rfl
end
end Go.Av
