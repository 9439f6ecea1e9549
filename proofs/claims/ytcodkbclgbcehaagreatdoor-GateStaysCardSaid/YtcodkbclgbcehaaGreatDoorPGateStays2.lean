/- The plain law, part 2. No condition. -/
import Derived.Test.YtcodkbclgbcehaaGreatDoorPGateStays1
import Derived.KernelRfl
set_option linter.unusedVariables false
set_option linter.unusedSimpArgs false
set_option linter.unnecessarySimpa false
namespace Go.Av
open Go
theorem qU:cO=dS:=by
 funext a0
 unfold cO dS
 simp only[zL]
def Ig (x0:dZ) (x1:Int) (x2:SA6):Option (dZ×Int):=af (rX x0) fun y0=>cnd (ax y0) (cnd (ax y0) (some (x0,1)) (cnd (ilt 1000000000 x0.next) (some (x0,3)) (cnd (ieq (len x0.wait) 32) (some (x0,6)) (af (dS x0.wait) fun y1=>cnd (ile (len (dB y1 [fM.mk x0.epoch x0.next x1 x2.a0 x2.a1 x2.a2 x2.a3 x2.a4 x2.a5])) 68719476736) (some (dZ.mk x0.epoch (wr .i64 (au x0.next 1)) x0.sure x0.seg x0.count (dB y1 [fM.mk x0.epoch x0.next x1 x2.a0 x2.a1 x2.a2 x2.a3 x2.a4 x2.a5]),0)) none)))) (cnd (ilt x1 1) (cnd (ilt x1 1) (some (x0,1)) (cnd (ilt 1000000000 x0.next) (some (x0,3)) (cnd (ieq (len x0.wait) 32) (some (x0,6)) (af (dS x0.wait) fun y2=>cnd (ile (len (dB y2 [fM.mk x0.epoch x0.next x1 x2.a0 x2.a1 x2.a2 x2.a3 x2.a4 x2.a5])) 68719476736) (some (dZ.mk x0.epoch (wr .i64 (au x0.next 1)) x0.sure x0.seg x0.count (dB y2 [fM.mk x0.epoch x0.next x1 x2.a0 x2.a1 x2.a2 x2.a3 x2.a4 x2.a5]),0)) none)))) (cnd (ilt 6 x1) (some (x0,1)) (cnd (ilt 1000000000 x0.next) (some (x0,3)) (cnd (ieq (len x0.wait) 32) (some (x0,6)) (af (dS x0.wait) fun y3=>cnd (ile (len (dB y3 [fM.mk x0.epoch x0.next x1 x2.a0 x2.a1 x2.a2 x2.a3 x2.a4 x2.a5])) 68719476736) (some (dZ.mk x0.epoch (wr .i64 (au x0.next 1)) x0.sure x0.seg x0.count (dB y3 [fM.mk x0.epoch x0.next x1 x2.a0 x2.a1 x2.a2 x2.a3 x2.a4 x2.a5]),0)) none)))))
theorem Ud:EH=Ig:=by
 funext a0 a1 a2
 unfold EH Ig
 simp only[qU]
def xE (x0:aN) (x1:jm):Option (aN×Int):=af (CW x0.state x1) fun y0=>cnd (ax (ieq y0.2 0)) (some (x0,y0.2)) (af (EY x1) fun y1=>af (Ig x0.wal x1.kind y1.1) fun y2=>cnd (ax (ieq y2.2 0)) (some (x0,y2.2)) (some (aN.mk x0.disk y2.1 y0.1 x0.outbox x0.feed x0.gen x0.up,0)))
theorem Em:qf=xE:=by
 funext a0 a1
 unfold qf xE
 simp only[Jc,Ud]
def eX (x0:(List kM)):Option ((List kM)):=Hq (len x0) fun y0=>cnd (beq y0 true) (some []) (cnd (ile (len x0) 68719476736) (some x0) none)
theorem rW:dU=eX:=by
 funext a0
 unfold dU eX
 simp only[zL]
def AU (x0:aN) (x1:jm):Option (aN×Int):=af (rG x0) fun y0=>cnd (ax (ieq y0 0)) (some (x0,y0)) (cnd (bor (ilt x1.kind 1) (ilt 3 x1.kind)) (some (x0,1)) (af (xE x0 x1) fun y1=>cnd (ax (ieq y1.2 0)) (some (x0,y1.2)) (af (mP y1.1.state x1.order) fun y2=>cnd (band (ile 0 y2) (ilt y2 (len y1.1.state.orders))) (af (eX x0.outbox) fun y3=>af (qp x1.kind (aj y1.1.state.orders (itn y2)) y1.1.state.lsn) fun y4=>cnd (ile (len (dB y3 [y4])) 68719476736) (some (aN.mk y1.1.disk y1.1.wal y1.1.state (dB y3 [y4]) y1.1.feed y1.1.gen y1.1.up,0)) none) none)))
theorem LC:qQ=AU:=by
 funext a0 a1
 unfold qQ AU
 simp only[xX,Em,rW]
def iW (x0:ah) (x1:(List UInt8)) (x2:(List Int)):Option (ah×Int):=af (jb x0 [x1]) fun y0=>cnd (ax (ieq y0 0)) (some (x0,y0)) (af (dP x0 x1) fun y1=>af (Dh x0) fun y2=>cnd (bor (ilt (wr .i64 (aB x0.room y2)) (len x2)) (band (ax y1.2) (ieq (len x0.files) 64))) (some (x0,6)) (af (aJ x0.files) fun y3=>cnd (ax y1.2) (af (bg y3 y1.1 [aA.mk x1 [] 0]) fun y4=>cnd (band (ile 0 y1.1) (ilt y1.1 (len y4))) (af (jP [Oz.mk (aj y4 (itn y1.1)).data,Oz.mk x2]) fun y5=>cnd (band (ile 0 y1.1) (ilt y1.1 (len y4))) (cnd (ieq x0.fuse 0) (some (ah.mk (aY y4 (itn y1.1) (aA.mk (aj y4 (itn y1.1)).name y5 (aj y4 (itn y1.1)).sure)) x0.room x0.fuse true,9)) (cnd (ieq x0.fuse (-1)) (some (ah.mk (aY y4 (itn y1.1) (aA.mk (aj y4 (itn y1.1)).name y5 (aj y4 (itn y1.1)).sure)) x0.room x0.fuse x0.down,0)) (some (ah.mk (aY y4 (itn y1.1) (aA.mk (aj y4 (itn y1.1)).name y5 (aj y4 (itn y1.1)).sure)) x0.room (wr .i64 (aB x0.fuse 1)) x0.down,0)))) none) none) (cnd (band (ile 0 y1.1) (ilt y1.1 (len y3))) (af (jP [Oz.mk (aj y3 (itn y1.1)).data,Oz.mk x2]) fun y6=>cnd (band (ile 0 y1.1) (ilt y1.1 (len y3))) (cnd (ieq x0.fuse 0) (some (ah.mk (aY y3 (itn y1.1) (aA.mk (aj y3 (itn y1.1)).name y6 (aj y3 (itn y1.1)).sure)) x0.room x0.fuse true,9)) (cnd (ieq x0.fuse (-1)) (some (ah.mk (aY y3 (itn y1.1) (aA.mk (aj y3 (itn y1.1)).name y6 (aj y3 (itn y1.1)).sure)) x0.room x0.fuse x0.down,0)) (some (ah.mk (aY y3 (itn y1.1) (aA.mk (aj y3 (itn y1.1)).name y6 (aj y3 (itn y1.1)).sure)) x0.room (wr .i64 (aB x0.fuse 1)) x0.down,0)))) none) none)))
theorem vN:gV=iW:=by
 funext a0 a1 a2
 unfold gV iW
 simp only[iR]
def jh (x0:ah) (x1:(List UInt8)):Option (ah×Int):=af (jb x0 [x1]) fun y0=>cnd (ax (ieq y0 0)) (cnd (ax (ieq y0 0)) (some (x0,y0)) (cnd (ieq x0.fuse 0) (some (ah.mk x0.files x0.room x0.fuse true,9)) (cnd (ieq x0.fuse (-1)) (af (aJ x0.files) fun y1=>cnd (ilt 0 (len y1)) (cnd (ilt 0 (len y1)) (some (ah.mk (aY y1 0 (aA.mk (aj y1 0).name (aj y1 0).data (len (aj y1 0).data))) x0.room x0.fuse x0.down,0)) none) none) (af (aJ x0.files) fun y2=>cnd (ilt 0 (len y2)) (cnd (ilt 0 (len y2)) (some (ah.mk (aY y2 0 (aA.mk (aj y2 0).name (aj y2 0).data (len (aj y2 0).data))) x0.room (wr .i64 (aB x0.fuse 1)) x0.down,0)) none) none)))) (af (dP x0 x1) fun y3=>cnd (ax y3.2) (some (x0,7)) (cnd (ieq x0.fuse 0) (some (ah.mk x0.files x0.room x0.fuse true,9)) (cnd (ieq x0.fuse (-1)) (af (aJ x0.files) fun y4=>cnd (band (ile 0 y3.1) (ilt y3.1 (len y4))) (cnd (band (ile 0 y3.1) (ilt y3.1 (len y4))) (some (ah.mk (aY y4 (itn y3.1) (aA.mk (aj y4 (itn y3.1)).name (aj y4 (itn y3.1)).data (len (aj y4 (itn y3.1)).data))) x0.room x0.fuse x0.down,0)) none) none) (af (aJ x0.files) fun y5=>cnd (band (ile 0 y3.1) (ilt y3.1 (len y5))) (cnd (band (ile 0 y3.1) (ilt y3.1 (len y5))) (some (ah.mk (aY y5 (itn y3.1) (aA.mk (aj y5 (itn y3.1)).name (aj y5 (itn y3.1)).data (len (aj y5 (itn y3.1)).data))) x0.room (wr .i64 (aB x0.fuse 1)) x0.down,0)) none) none))))
theorem zi:iM=jh:=by
 funext a0 a1
 unfold iM jh
 simp only[iR]
def xZ (v0:Int) (v1:ah) (v2:dZ) (v3:ah) (v4:dZ):Option ((Int×ah×dZ×ah×dZ) ⊕ ((Int×ah×dZ×ah×dZ) ⊕ ((Int×ah×dZ×ah×dZ)))):=cnd (ilt 0 (len v4.wait)) (cnd (bor (ieq v4.seg 0) (ieq v4.count 8)) (cnd (band (ile 0 (fJ (len v4.wait) 8)) (ile (fJ (len v4.wait) 8) (len v4.wait))) (af (wV (ay v4.wait (itn (fJ (len v4.wait) 8)))) fun y0=>af (iQ (wr .i64 (au v4.sure 1))) fun y1=>af (iW v3 y1 y0.1) fun y2=>cnd (ieq y2.2 0) (af (iQ (wr .i64 (au v4.sure 1))) fun y3=>af (jh y2.1 y3) fun y4=>cnd (ax (ieq y4.2 0)) (some (Sum.inr (Sum.inl (y4.2,y4.1,v4,y4.1,v4)))) (cnd (band (ile 0 (fJ (len v4.wait) 8)) (ile (fJ (len v4.wait) 8) (len v4.wait))) (af (dS (aF v4.wait (itn (fJ (len v4.wait) 8)))) fun y5=>some (Sum.inl (v0,v1,v2,y4.1,dZ.mk v4.epoch v4.next (wr .i64 (au v4.sure (fJ (len v4.wait) 8))) (wr .i64 (au v4.sure 1)) (wr .i64 (au 0 (fJ (len v4.wait) 8))) y5))) none)) (cnd (ax (ieq y2.2 0)) (some (Sum.inr (Sum.inl (y2.2,y2.1,v4,y2.1,v4)))) (cnd (band (ile 0 (fJ (len v4.wait) 8)) (ile (fJ (len v4.wait) 8) (len v4.wait))) (af (dS (aF v4.wait (itn (fJ (len v4.wait) 8)))) fun y6=>some (Sum.inl (v0,v1,v2,y2.1,dZ.mk v4.epoch v4.next (wr .i64 (au v4.sure (fJ (len v4.wait) 8))) (wr .i64 (au v4.sure 1)) (wr .i64 (au 0 (fJ (len v4.wait) 8))) y6))) none))) none) (cnd (band (ile 0 (fJ (len v4.wait) (wr .i64 (aB 8 v4.count)))) (ile (fJ (len v4.wait) (wr .i64 (aB 8 v4.count))) (len v4.wait))) (af (wV (ay v4.wait (itn (fJ (len v4.wait) (wr .i64 (aB 8 v4.count)))))) fun y7=>af (iQ v4.seg) fun y8=>af (iW v3 y8 y7.1) fun y9=>cnd (ieq y9.2 0) (af (iQ v4.seg) fun y10=>af (jh y9.1 y10) fun y11=>cnd (ax (ieq y11.2 0)) (some (Sum.inr (Sum.inl (y11.2,y11.1,v4,y11.1,v4)))) (cnd (band (ile 0 (fJ (len v4.wait) (wr .i64 (aB 8 v4.count)))) (ile (fJ (len v4.wait) (wr .i64 (aB 8 v4.count))) (len v4.wait))) (af (dS (aF v4.wait (itn (fJ (len v4.wait) (wr .i64 (aB 8 v4.count)))))) fun y12=>some (Sum.inl (v0,v1,v2,y11.1,dZ.mk v4.epoch v4.next (wr .i64 (au v4.sure (fJ (len v4.wait) (wr .i64 (aB 8 v4.count))))) v4.seg (wr .i64 (au v4.count (fJ (len v4.wait) (wr .i64 (aB 8 v4.count))))) y12))) none)) (cnd (ax (ieq y9.2 0)) (some (Sum.inr (Sum.inl (y9.2,y9.1,v4,y9.1,v4)))) (cnd (band (ile 0 (fJ (len v4.wait) (wr .i64 (aB 8 v4.count)))) (ile (fJ (len v4.wait) (wr .i64 (aB 8 v4.count))) (len v4.wait))) (af (dS (aF v4.wait (itn (fJ (len v4.wait) (wr .i64 (aB 8 v4.count)))))) fun y13=>some (Sum.inl (v0,v1,v2,y9.1,dZ.mk v4.epoch v4.next (wr .i64 (au v4.sure (fJ (len v4.wait) (wr .i64 (aB 8 v4.count))))) v4.seg (wr .i64 (au v4.count (fJ (len v4.wait) (wr .i64 (aB 8 v4.count))))) y13))) none))) none)) (some (Sum.inr (Sum.inr (v0,v1,v2,v3,v4))))
theorem Jr:pX=xZ:=by
 funext a0 a1 a2 a3 a4
 unfold pX xZ
 simp only[qU,vN,zi]
def BM (x0:dZ) (x1:ah):Option (dZ×ah×Int):=af (zl x0 x1) fun y0=>cnd (ax y0) (some (x0,x1,1)) (af (bM (fun v=>xZ v.1 v.2.1 v.2.2.1 v.2.2.2.1 v.2.2.2.2) LF (0,ah.mk [] 0 0 false,dZ.mk 0 0 0 0 0 [],x1,x0)) fun y1=>jB y1 (fun y2=>some (y2.2.2.1,y2.2.1,y2.1)) fun y2=>some (y2.2.2.2.2,y2.2.2.2.1,0))
theorem OI:xw=BM:=by
 funext a0 a1
 unfold xw BM
 simp only[Jr]
def sD (x0:aN):Option (aN×Int):=af (BM x0.wal x0.disk) fun y0=>cnd y0.2.1.down (af (qh (aN.mk y0.2.1 y0.1 x0.state x0.outbox x0.feed x0.gen x0.up)) fun y1=>some (y1,y0.2.2)) (some (aN.mk y0.2.1 y0.1 x0.state x0.outbox x0.feed x0.gen x0.up,y0.2.2))
theorem Bl:o6=sD:=by
 funext a0
 unfold o6 sD
 simp only[OI]
def yZ (x0:(List kM)) (x1:Int):Option ((List kM)×(List kM)):=af (bM (fun v=>dD (len x0) x0 x1 v.1 v.2) LF (0,0)) fun y0=>jB y0 (fun y1=>cnd (ilt y1 0) (cnd (band (ile 0 (len x0)) (ile (len x0) (len x0))) (af (eX (ay x0 (itn (len x0)))) fun y2=>cnd (band (ile 0 (len x0)) (ile (len x0) (len x0))) (af (eX (aF x0 (itn (len x0)))) fun y3=>some (y2,y3)) none) none) (cnd (band (ile 0 y1) (ile y1 (len x0))) (af (eX (ay x0 (itn y1))) fun y4=>cnd (band (ile 0 y1) (ile y1 (len x0))) (af (eX (aF x0 (itn y1))) fun y5=>some (y4,y5)) none) none)) fun y1=>cnd (band (ile 0 (len x0)) (ile (len x0) (len x0))) (af (eX (ay x0 (itn (len x0)))) fun y6=>cnd (band (ile 0 (len x0)) (ile (len x0) (len x0))) (af (eX (aF x0 (itn (len x0)))) fun y7=>some (y6,y7)) none) none
theorem KT:rO=yZ:=by
 funext a0 a1
 unfold rO yZ
 simp only[rW]
def rF (x0:aN):Option (aN×(List kM)×Int):=af (rG x0) fun y0=>cnd (ax (ieq y0 0)) (some (x0,[],y0)) (af (sD x0) fun y1=>cnd (ax y1.1.up) (some (y1.1,[],y1.2)) (af (yZ y1.1.outbox y1.1.wal.sure) fun y2=>some (aN.mk y1.1.disk y1.1.wal y1.1.state y2.2 y1.1.feed y1.1.gen y1.1.up,y2.1,y1.2)))
theorem yg:nX=rF:=by
 funext a0
 unfold nX rF
 simp only[xX,Bl,KT]
def Fa (x0:aC) (x1:jm):Option (Int):=af (CW x0 x1) fun y0=>some y0.2
theorem QB:BP=Fa:=by
 funext a0 a1
 unfold BP Fa
 simp only[Jc]
def D8 (x0:aN) (x1:jm):Option (aN×(List kM)×Int):=af (rG x0) fun y0=>cnd (ax (ieq y0 0)) (some (x0,[],y0)) (cnd (band (ax (ieq x1.kind 4)) (ax (ieq x1.kind 5))) (some (x0,[],1)) (af (Fa x0.state x1) fun y1=>cnd (ax (ieq y1 0)) (some (x0,[],y1)) (af (rF x0) fun y2=>cnd (ax (ieq y2.2.2 0)) (some y2) (af (xE y2.1 x1) fun y3=>cnd (ax (ieq y3.2 0)) (some (y2.1,y2.2.1,y3.2)) (af (sD y3.1) fun y4=>cnd (ieq y4.2 0) (some (y4.1,y2.2.1,0)) (cnd y4.1.up (some (y2.1,y2.2.1,y4.2)) (af (qh (aN.mk y4.1.disk y2.1.wal y2.1.state y2.1.outbox y2.1.feed y2.1.gen y2.1.up)) fun y5=>some (y5,y2.2.1,y4.2))))))))
theorem PD:vO=D8:=by
 funext a0 a1
 unfold vO D8
 simp only[xX,Em,Bl,yg,QB]
def dM (x0:(List Int)):Option ((List Int)):=Hq (len x0) fun y0=>cnd (beq y0 true) (some []) (cnd (ile (len x0) 68719476736) (some x0) none)
theorem vZ:dN=dM:=by
 funext a0
 unfold dN dM
 simp only[zL]
def lT (x0:ah) (x1:(List UInt8)):Option ((List Int)×Int):=af (jb x0 [x1]) fun y0=>cnd (ax (ieq y0 0)) (cnd (ax (ieq y0 0)) (some ([],y0)) (cnd (ilt 0 (len x0.files)) (af (dM (aj x0.files 0).data) fun y1=>some (y1,0)) none)) (af (dP x0 x1) fun y2=>cnd (ax y2.2) (some ([],7)) (cnd (band (ile 0 y2.1) (ilt y2.1 (len x0.files))) (af (dM (aj x0.files (itn y2.1)).data) fun y3=>some (y3,0)) none))
theorem zx:lS=lT:=by
 funext a0 a1
 unfold lS lT
 simp only[vZ]
def yY (x0:ah):Option (eF×Int):=af (mJ x0) fun y0=>cnd (ax y0) (some (eF.mk 0 0,1)) (cnd x0.down (some (eF.mk 0 0,9)) (af (jZ 0) fun y1=>af (lT x0 y1) fun y2=>af (mO y2.1) fun y3=>cnd (band (band (ieq y3.2 0) (ieq (zY y3.1.gen 2) 0)) (ilt 0 y3.1.gen)) (af (jZ 1) fun y4=>af (lT x0 y4) fun y5=>af (mO y5.1) fun y6=>cnd (band (band (ieq y6.2 0) (ieq (zY y6.1.gen 2) 1)) (ilt y3.1.gen y6.1.gen)) (cnd (ieq y6.1.gen 0) (some (eF.mk 0 0,7)) (some (y6.1,0))) (cnd (ieq y3.1.gen 0) (some (eF.mk 0 0,7)) (some (y3.1,0)))) (af (jZ 1) fun y7=>af (lT x0 y7) fun y8=>af (mO y8.1) fun y9=>cnd (band (band (ieq y9.2 0) (ieq (zY y9.1.gen 2) 1)) (ilt 0 y9.1.gen)) (cnd (ieq y9.1.gen 0) (some (eF.mk 0 0,7)) (some (y9.1,0))) (some (eF.mk 0 0,7)))))
theorem F7:wu=yY:=by
 funext a0
 unfold wu yY
 simp only[zx]
def ku (x0:ah) (x1:(List UInt8)) (x2:(List UInt8)):Option (ah×Int):=cnd (ile (len (dB [x2] [x1])) 68719476736) (af (jb x0 (dB [x2] [x1])) fun y0=>cnd (ax (ieq y0 0)) (cnd (ax (ieq y0 0)) (some (x0,y0)) (cnd (ieq x0.fuse 0) (some (ah.mk x0.files x0.room x0.fuse true,9)) (cnd (ieq x0.fuse (-1)) (cnd (ilt 0 (len x0.files)) (af (aJ x0.files) fun y1=>cnd (band (ile 1 (len y1)) (band (ile 1 (len y1)) (ile (len y1) (len y1)))) (cnd (ile 0 (len y1)) (cnd (ile 1 (len y1)) (cnd (ile (au 0 (len (ay (aF y1 1) (itn (aB (len y1) 1))))) (len y1)) (cnd (band (band (ile 0 (nti (nad 0 (itn (len (ay (aF y1 1) (itn (aB (len y1) 1)))))))) (ile (nti (nad 0 (itn (len (ay (aF y1 1) (itn (aB (len y1) 1))))))) (len y1))) (ile (len y1) (aB (len (eU y1 0 (ay (aF y1 1) (itn (aB (len y1) 1))))) 0))) (af (dP (ah.mk (ay (eU (eU y1 0 (ay (aF y1 1) (itn (aB (len y1) 1)))) (nad 0 (itn (nti (nad 0 (itn (len (ay (aF y1 1) (itn (aB (len y1) 1))))))))) (jY aA (itn (aB (len y1) (nti (nad 0 (itn (len (ay (aF y1 1) (itn (aB (len y1) 1))))))))))) (nad 0 (itn (len (ay (aF y1 1) (itn (aB (len y1) 1))))))) x0.room x0.fuse x0.down) x2) fun y2=>cnd y2.2 (cnd (band (ile 0 y2.1) (ilt y2.1 (len (ay (eU (eU y1 0 (ay (aF y1 1) (itn (aB (len y1) 1)))) (nad 0 (itn (nti (nad 0 (itn (len (ay (aF y1 1) (itn (aB (len y1) 1))))))))) (jY aA (itn (aB (len y1) (nti (nad 0 (itn (len (ay (aF y1 1) (itn (aB (len y1) 1))))))))))) (nad 0 (itn (len (ay (aF y1 1) (itn (aB (len y1) 1)))))))))) (some (ah.mk (aY (ay (eU (eU y1 0 (ay (aF y1 1) (itn (aB (len y1) 1)))) (nad 0 (itn (nti (nad 0 (itn (len (ay (aF y1 1) (itn (aB (len y1) 1))))))))) (jY aA (itn (aB (len y1) (nti (nad 0 (itn (len (ay (aF y1 1) (itn (aB (len y1) 1))))))))))) (nad 0 (itn (len (ay (aF y1 1) (itn (aB (len y1) 1))))))) (itn y2.1) (aA.mk x2 (aj x0.files 0).data (aj x0.files 0).sure)) x0.room x0.fuse x0.down,0)) none) (af (bg (ay (eU (eU y1 0 (ay (aF y1 1) (itn (aB (len y1) 1)))) (nad 0 (itn (nti (nad 0 (itn (len (ay (aF y1 1) (itn (aB (len y1) 1))))))))) (jY aA (itn (aB (len y1) (nti (nad 0 (itn (len (ay (aF y1 1) (itn (aB (len y1) 1))))))))))) (nad 0 (itn (len (ay (aF y1 1) (itn (aB (len y1) 1))))))) y2.1 [aA.mk x2 (aj x0.files 0).data (aj x0.files 0).sure]) fun y3=>some (ah.mk y3 x0.room x0.fuse x0.down,0))) none) none) none) none) none) none) (cnd (ilt 0 (len x0.files)) (af (aJ x0.files) fun y4=>cnd (band (ile 1 (len y4)) (band (ile 1 (len y4)) (ile (len y4) (len y4)))) (cnd (ile 0 (len y4)) (cnd (ile 1 (len y4)) (cnd (ile (au 0 (len (ay (aF y4 1) (itn (aB (len y4) 1))))) (len y4)) (cnd (band (band (ile 0 (nti (nad 0 (itn (len (ay (aF y4 1) (itn (aB (len y4) 1)))))))) (ile (nti (nad 0 (itn (len (ay (aF y4 1) (itn (aB (len y4) 1))))))) (len y4))) (ile (len y4) (aB (len (eU y4 0 (ay (aF y4 1) (itn (aB (len y4) 1))))) 0))) (af (dP (ah.mk (ay (eU (eU y4 0 (ay (aF y4 1) (itn (aB (len y4) 1)))) (nad 0 (itn (nti (nad 0 (itn (len (ay (aF y4 1) (itn (aB (len y4) 1))))))))) (jY aA (itn (aB (len y4) (nti (nad 0 (itn (len (ay (aF y4 1) (itn (aB (len y4) 1))))))))))) (nad 0 (itn (len (ay (aF y4 1) (itn (aB (len y4) 1))))))) x0.room (wr .i64 (aB x0.fuse 1)) x0.down) x2) fun y5=>cnd y5.2 (cnd (band (ile 0 y5.1) (ilt y5.1 (len (ay (eU (eU y4 0 (ay (aF y4 1) (itn (aB (len y4) 1)))) (nad 0 (itn (nti (nad 0 (itn (len (ay (aF y4 1) (itn (aB (len y4) 1))))))))) (jY aA (itn (aB (len y4) (nti (nad 0 (itn (len (ay (aF y4 1) (itn (aB (len y4) 1))))))))))) (nad 0 (itn (len (ay (aF y4 1) (itn (aB (len y4) 1)))))))))) (some (ah.mk (aY (ay (eU (eU y4 0 (ay (aF y4 1) (itn (aB (len y4) 1)))) (nad 0 (itn (nti (nad 0 (itn (len (ay (aF y4 1) (itn (aB (len y4) 1))))))))) (jY aA (itn (aB (len y4) (nti (nad 0 (itn (len (ay (aF y4 1) (itn (aB (len y4) 1))))))))))) (nad 0 (itn (len (ay (aF y4 1) (itn (aB (len y4) 1))))))) (itn y5.1) (aA.mk x2 (aj x0.files 0).data (aj x0.files 0).sure)) x0.room (wr .i64 (aB x0.fuse 1)) x0.down,0)) none) (af (bg (ay (eU (eU y4 0 (ay (aF y4 1) (itn (aB (len y4) 1)))) (nad 0 (itn (nti (nad 0 (itn (len (ay (aF y4 1) (itn (aB (len y4) 1))))))))) (jY aA (itn (aB (len y4) (nti (nad 0 (itn (len (ay (aF y4 1) (itn (aB (len y4) 1))))))))))) (nad 0 (itn (len (ay (aF y4 1) (itn (aB (len y4) 1))))))) y5.1 [aA.mk x2 (aj x0.files 0).data (aj x0.files 0).sure]) fun y6=>some (ah.mk y6 x0.room (wr .i64 (aB x0.fuse 1)) x0.down,0))) none) none) none) none) none) none)))) (af (dP x0 x1) fun y7=>cnd (ax y7.2) (some (x0,7)) (cnd (ieq x0.fuse 0) (some (ah.mk x0.files x0.room x0.fuse true,9)) (cnd (ieq x0.fuse (-1)) (cnd (band (ile 0 y7.1) (ilt y7.1 (len x0.files))) (af (aJ x0.files) fun y8=>cnd (band (band (band (ile 0 y7.1) (ile y7.1 (wr .i64 (au y7.1 1)))) (ile (wr .i64 (au y7.1 1)) (len y8))) (band (ile (wr .i64 (au y7.1 1)) (len y8)) (ile (len y8) (len y8)))) (cnd (ieq y7.1 (wr .i64 (au y7.1 1))) (af (dP (ah.mk y8 x0.room x0.fuse x0.down) x2) fun y9=>cnd y9.2 (cnd (band (ile 0 y9.1) (ilt y9.1 (len y8))) (some (ah.mk (aY y8 (itn y9.1) (aA.mk x2 (aj x0.files (itn y7.1)).data (aj x0.files (itn y7.1)).sure)) x0.room x0.fuse x0.down,0)) none) (af (bg y8 y9.1 [aA.mk x2 (aj x0.files (itn y7.1)).data (aj x0.files (itn y7.1)).sure]) fun y10=>some (ah.mk y10 x0.room x0.fuse x0.down,0))) (cnd (band (ile 0 y7.1) (ile y7.1 (len y8))) (cnd (band (ile 0 (wr .i64 (au y7.1 1))) (ile (wr .i64 (au y7.1 1)) (len y8))) (cnd (ile (au (nti (itn y7.1)) (len (ay (aF y8 (itn (wr .i64 (au y7.1 1)))) (itn (aB (len y8) (wr .i64 (au y7.1 1))))))) (len y8)) (cnd (band (band (ile 0 (nti (nad (itn y7.1) (itn (len (ay (aF y8 (itn (wr .i64 (au y7.1 1)))) (itn (aB (len y8) (wr .i64 (au y7.1 1)))))))))) (ile (nti (nad (itn y7.1) (itn (len (ay (aF y8 (itn (wr .i64 (au y7.1 1)))) (itn (aB (len y8) (wr .i64 (au y7.1 1))))))))) (len y8))) (ile (len y8) (aB (len (eU y8 (itn y7.1) (ay (aF y8 (itn (wr .i64 (au y7.1 1)))) (itn (aB (len y8) (wr .i64 (au y7.1 1))))))) 0))) (af (dP (ah.mk (ay (eU (eU y8 (itn y7.1) (ay (aF y8 (itn (wr .i64 (au y7.1 1)))) (itn (aB (len y8) (wr .i64 (au y7.1 1)))))) (nad 0 (itn (nti (nad (itn y7.1) (itn (len (ay (aF y8 (itn (wr .i64 (au y7.1 1)))) (itn (aB (len y8) (wr .i64 (au y7.1 1))))))))))) (jY aA (itn (aB (len y8) (nti (nad (itn y7.1) (itn (len (ay (aF y8 (itn (wr .i64 (au y7.1 1)))) (itn (aB (len y8) (wr .i64 (au y7.1 1))))))))))))) (nad (itn y7.1) (itn (len (ay (aF y8 (itn (wr .i64 (au y7.1 1)))) (itn (aB (len y8) (wr .i64 (au y7.1 1))))))))) x0.room x0.fuse x0.down) x2) fun y11=>cnd y11.2 (cnd (band (ile 0 y11.1) (ilt y11.1 (len (ay (eU (eU y8 (itn y7.1) (ay (aF y8 (itn (wr .i64 (au y7.1 1)))) (itn (aB (len y8) (wr .i64 (au y7.1 1)))))) (nad 0 (itn (nti (nad (itn y7.1) (itn (len (ay (aF y8 (itn (wr .i64 (au y7.1 1)))) (itn (aB (len y8) (wr .i64 (au y7.1 1))))))))))) (jY aA (itn (aB (len y8) (nti (nad (itn y7.1) (itn (len (ay (aF y8 (itn (wr .i64 (au y7.1 1)))) (itn (aB (len y8) (wr .i64 (au y7.1 1))))))))))))) (nad (itn y7.1) (itn (len (ay (aF y8 (itn (wr .i64 (au y7.1 1)))) (itn (aB (len y8) (wr .i64 (au y7.1 1)))))))))))) (some (ah.mk (aY (ay (eU (eU y8 (itn y7.1) (ay (aF y8 (itn (wr .i64 (au y7.1 1)))) (itn (aB (len y8) (wr .i64 (au y7.1 1)))))) (nad 0 (itn (nti (nad (itn y7.1) (itn (len (ay (aF y8 (itn (wr .i64 (au y7.1 1)))) (itn (aB (len y8) (wr .i64 (au y7.1 1))))))))))) (jY aA (itn (aB (len y8) (nti (nad (itn y7.1) (itn (len (ay (aF y8 (itn (wr .i64 (au y7.1 1)))) (itn (aB (len y8) (wr .i64 (au y7.1 1))))))))))))) (nad (itn y7.1) (itn (len (ay (aF y8 (itn (wr .i64 (au y7.1 1)))) (itn (aB (len y8) (wr .i64 (au y7.1 1))))))))) (itn y11.1) (aA.mk x2 (aj x0.files (itn y7.1)).data (aj x0.files (itn y7.1)).sure)) x0.room x0.fuse x0.down,0)) none) (af (bg (ay (eU (eU y8 (itn y7.1) (ay (aF y8 (itn (wr .i64 (au y7.1 1)))) (itn (aB (len y8) (wr .i64 (au y7.1 1)))))) (nad 0 (itn (nti (nad (itn y7.1) (itn (len (ay (aF y8 (itn (wr .i64 (au y7.1 1)))) (itn (aB (len y8) (wr .i64 (au y7.1 1))))))))))) (jY aA (itn (aB (len y8) (nti (nad (itn y7.1) (itn (len (ay (aF y8 (itn (wr .i64 (au y7.1 1)))) (itn (aB (len y8) (wr .i64 (au y7.1 1))))))))))))) (nad (itn y7.1) (itn (len (ay (aF y8 (itn (wr .i64 (au y7.1 1)))) (itn (aB (len y8) (wr .i64 (au y7.1 1))))))))) y11.1 [aA.mk x2 (aj x0.files (itn y7.1)).data (aj x0.files (itn y7.1)).sure]) fun y12=>some (ah.mk y12 x0.room x0.fuse x0.down,0))) none) none) none) none)) none) none) (cnd (band (ile 0 y7.1) (ilt y7.1 (len x0.files))) (af (aJ x0.files) fun y13=>cnd (band (band (band (ile 0 y7.1) (ile y7.1 (wr .i64 (au y7.1 1)))) (ile (wr .i64 (au y7.1 1)) (len y13))) (band (ile (wr .i64 (au y7.1 1)) (len y13)) (ile (len y13) (len y13)))) (cnd (ieq y7.1 (wr .i64 (au y7.1 1))) (af (dP (ah.mk y13 x0.room (wr .i64 (aB x0.fuse 1)) x0.down) x2) fun y14=>cnd y14.2 (cnd (band (ile 0 y14.1) (ilt y14.1 (len y13))) (some (ah.mk (aY y13 (itn y14.1) (aA.mk x2 (aj x0.files (itn y7.1)).data (aj x0.files (itn y7.1)).sure)) x0.room (wr .i64 (aB x0.fuse 1)) x0.down,0)) none) (af (bg y13 y14.1 [aA.mk x2 (aj x0.files (itn y7.1)).data (aj x0.files (itn y7.1)).sure]) fun y15=>some (ah.mk y15 x0.room (wr .i64 (aB x0.fuse 1)) x0.down,0))) (cnd (band (ile 0 y7.1) (ile y7.1 (len y13))) (cnd (band (ile 0 (wr .i64 (au y7.1 1))) (ile (wr .i64 (au y7.1 1)) (len y13))) (cnd (ile (au (nti (itn y7.1)) (len (ay (aF y13 (itn (wr .i64 (au y7.1 1)))) (itn (aB (len y13) (wr .i64 (au y7.1 1))))))) (len y13)) (cnd (band (band (ile 0 (nti (nad (itn y7.1) (itn (len (ay (aF y13 (itn (wr .i64 (au y7.1 1)))) (itn (aB (len y13) (wr .i64 (au y7.1 1)))))))))) (ile (nti (nad (itn y7.1) (itn (len (ay (aF y13 (itn (wr .i64 (au y7.1 1)))) (itn (aB (len y13) (wr .i64 (au y7.1 1))))))))) (len y13))) (ile (len y13) (aB (len (eU y13 (itn y7.1) (ay (aF y13 (itn (wr .i64 (au y7.1 1)))) (itn (aB (len y13) (wr .i64 (au y7.1 1))))))) 0))) (af (dP (ah.mk (ay (eU (eU y13 (itn y7.1) (ay (aF y13 (itn (wr .i64 (au y7.1 1)))) (itn (aB (len y13) (wr .i64 (au y7.1 1)))))) (nad 0 (itn (nti (nad (itn y7.1) (itn (len (ay (aF y13 (itn (wr .i64 (au y7.1 1)))) (itn (aB (len y13) (wr .i64 (au y7.1 1))))))))))) (jY aA (itn (aB (len y13) (nti (nad (itn y7.1) (itn (len (ay (aF y13 (itn (wr .i64 (au y7.1 1)))) (itn (aB (len y13) (wr .i64 (au y7.1 1))))))))))))) (nad (itn y7.1) (itn (len (ay (aF y13 (itn (wr .i64 (au y7.1 1)))) (itn (aB (len y13) (wr .i64 (au y7.1 1))))))))) x0.room (wr .i64 (aB x0.fuse 1)) x0.down) x2) fun y16=>cnd y16.2 (cnd (band (ile 0 y16.1) (ilt y16.1 (len (ay (eU (eU y13 (itn y7.1) (ay (aF y13 (itn (wr .i64 (au y7.1 1)))) (itn (aB (len y13) (wr .i64 (au y7.1 1)))))) (nad 0 (itn (nti (nad (itn y7.1) (itn (len (ay (aF y13 (itn (wr .i64 (au y7.1 1)))) (itn (aB (len y13) (wr .i64 (au y7.1 1))))))))))) (jY aA (itn (aB (len y13) (nti (nad (itn y7.1) (itn (len (ay (aF y13 (itn (wr .i64 (au y7.1 1)))) (itn (aB (len y13) (wr .i64 (au y7.1 1))))))))))))) (nad (itn y7.1) (itn (len (ay (aF y13 (itn (wr .i64 (au y7.1 1)))) (itn (aB (len y13) (wr .i64 (au y7.1 1)))))))))))) (some (ah.mk (aY (ay (eU (eU y13 (itn y7.1) (ay (aF y13 (itn (wr .i64 (au y7.1 1)))) (itn (aB (len y13) (wr .i64 (au y7.1 1)))))) (nad 0 (itn (nti (nad (itn y7.1) (itn (len (ay (aF y13 (itn (wr .i64 (au y7.1 1)))) (itn (aB (len y13) (wr .i64 (au y7.1 1))))))))))) (jY aA (itn (aB (len y13) (nti (nad (itn y7.1) (itn (len (ay (aF y13 (itn (wr .i64 (au y7.1 1)))) (itn (aB (len y13) (wr .i64 (au y7.1 1))))))))))))) (nad (itn y7.1) (itn (len (ay (aF y13 (itn (wr .i64 (au y7.1 1)))) (itn (aB (len y13) (wr .i64 (au y7.1 1))))))))) (itn y16.1) (aA.mk x2 (aj x0.files (itn y7.1)).data (aj x0.files (itn y7.1)).sure)) x0.room (wr .i64 (aB x0.fuse 1)) x0.down,0)) none) (af (bg (ay (eU (eU y13 (itn y7.1) (ay (aF y13 (itn (wr .i64 (au y7.1 1)))) (itn (aB (len y13) (wr .i64 (au y7.1 1)))))) (nad 0 (itn (nti (nad (itn y7.1) (itn (len (ay (aF y13 (itn (wr .i64 (au y7.1 1)))) (itn (aB (len y13) (wr .i64 (au y7.1 1))))))))))) (jY aA (itn (aB (len y13) (nti (nad (itn y7.1) (itn (len (ay (aF y13 (itn (wr .i64 (au y7.1 1)))) (itn (aB (len y13) (wr .i64 (au y7.1 1))))))))))))) (nad (itn y7.1) (itn (len (ay (aF y13 (itn (wr .i64 (au y7.1 1)))) (itn (aB (len y13) (wr .i64 (au y7.1 1))))))))) y16.1 [aA.mk x2 (aj x0.files (itn y7.1)).data (aj x0.files (itn y7.1)).sure]) fun y17=>some (ah.mk y17 x0.room (wr .i64 (aB x0.fuse 1)) x0.down,0))) none) none) none) none)) none) none))))) none
theorem Nu:kJ=ku:=by
 funext a0 a1 a2
 unfold kJ ku
 simp only[iR]
def Bc (x0:ah) (x1:(List UInt8)) (x2:Int):Option (ah×Int):=af (jb x0 [x1]) fun y0=>cnd (ax (ieq y0 0)) (cnd (ax (ieq y0 0)) (some (x0,y0)) (cnd (ilt x2 0) (cnd (ilt x2 0) (some (x0,1)) (cnd (ieq x0.fuse 0) (some (ah.mk x0.files x0.room x0.fuse true,9)) (cnd (ieq x0.fuse (-1)) (af (aJ x0.files) fun y1=>cnd (ilt 0 (len y1)) (cnd (band (ile 0 x2) (ile x2 (len (aj y1 0).data))) (af (dM (ay (aj y1 0).data (itn x2))) fun y2=>some (ah.mk (aY (aY y1 0 (aA.mk (aj y1 0).name y2 (aj y1 0).sure)) 0 (aA.mk (aj (aY y1 0 (aA.mk (aj y1 0).name y2 (aj y1 0).sure)) 0).name (aj (aY y1 0 (aA.mk (aj y1 0).name y2 (aj y1 0).sure)) 0).data (fJ (aj y1 0).sure x2))) x0.room x0.fuse x0.down,0)) none) none) (af (aJ x0.files) fun y3=>cnd (ilt 0 (len y3)) (cnd (band (ile 0 x2) (ile x2 (len (aj y3 0).data))) (af (dM (ay (aj y3 0).data (itn x2))) fun y4=>some (ah.mk (aY (aY y3 0 (aA.mk (aj y3 0).name y4 (aj y3 0).sure)) 0 (aA.mk (aj (aY y3 0 (aA.mk (aj y3 0).name y4 (aj y3 0).sure)) 0).name (aj (aY y3 0 (aA.mk (aj y3 0).name y4 (aj y3 0).sure)) 0).data (fJ (aj y3 0).sure x2))) x0.room (wr .i64 (aB x0.fuse 1)) x0.down,0)) none) none)))) (cnd (ilt 0 (len x0.files)) (cnd (ilt (len (aj x0.files 0).data) x2) (some (x0,1)) (cnd (ieq x0.fuse 0) (some (ah.mk x0.files x0.room x0.fuse true,9)) (cnd (ieq x0.fuse (-1)) (af (aJ x0.files) fun y5=>cnd (ilt 0 (len y5)) (cnd (band (ile 0 x2) (ile x2 (len (aj y5 0).data))) (af (dM (ay (aj y5 0).data (itn x2))) fun y6=>some (ah.mk (aY (aY y5 0 (aA.mk (aj y5 0).name y6 (aj y5 0).sure)) 0 (aA.mk (aj (aY y5 0 (aA.mk (aj y5 0).name y6 (aj y5 0).sure)) 0).name (aj (aY y5 0 (aA.mk (aj y5 0).name y6 (aj y5 0).sure)) 0).data (fJ (aj y5 0).sure x2))) x0.room x0.fuse x0.down,0)) none) none) (af (aJ x0.files) fun y7=>cnd (ilt 0 (len y7)) (cnd (band (ile 0 x2) (ile x2 (len (aj y7 0).data))) (af (dM (ay (aj y7 0).data (itn x2))) fun y8=>some (ah.mk (aY (aY y7 0 (aA.mk (aj y7 0).name y8 (aj y7 0).sure)) 0 (aA.mk (aj (aY y7 0 (aA.mk (aj y7 0).name y8 (aj y7 0).sure)) 0).name (aj (aY y7 0 (aA.mk (aj y7 0).name y8 (aj y7 0).sure)) 0).data (fJ (aj y7 0).sure x2))) x0.room (wr .i64 (aB x0.fuse 1)) x0.down,0)) none) none)))) none))) (af (dP x0 x1) fun y9=>cnd (ax y9.2) (some (x0,7)) (cnd (ilt x2 0) (cnd (ilt x2 0) (some (x0,1)) (cnd (ieq x0.fuse 0) (some (ah.mk x0.files x0.room x0.fuse true,9)) (cnd (ieq x0.fuse (-1)) (af (aJ x0.files) fun y10=>cnd (band (ile 0 y9.1) (ilt y9.1 (len y10))) (cnd (band (ile 0 x2) (ile x2 (len (aj y10 (itn y9.1)).data))) (af (dM (ay (aj y10 (itn y9.1)).data (itn x2))) fun y11=>some (ah.mk (aY (aY y10 (itn y9.1) (aA.mk (aj y10 (itn y9.1)).name y11 (aj y10 (itn y9.1)).sure)) (itn y9.1) (aA.mk (aj (aY y10 (itn y9.1) (aA.mk (aj y10 (itn y9.1)).name y11 (aj y10 (itn y9.1)).sure)) (itn y9.1)).name (aj (aY y10 (itn y9.1) (aA.mk (aj y10 (itn y9.1)).name y11 (aj y10 (itn y9.1)).sure)) (itn y9.1)).data (fJ (aj y10 (itn y9.1)).sure x2))) x0.room x0.fuse x0.down,0)) none) none) (af (aJ x0.files) fun y12=>cnd (band (ile 0 y9.1) (ilt y9.1 (len y12))) (cnd (band (ile 0 x2) (ile x2 (len (aj y12 (itn y9.1)).data))) (af (dM (ay (aj y12 (itn y9.1)).data (itn x2))) fun y13=>some (ah.mk (aY (aY y12 (itn y9.1) (aA.mk (aj y12 (itn y9.1)).name y13 (aj y12 (itn y9.1)).sure)) (itn y9.1) (aA.mk (aj (aY y12 (itn y9.1) (aA.mk (aj y12 (itn y9.1)).name y13 (aj y12 (itn y9.1)).sure)) (itn y9.1)).name (aj (aY y12 (itn y9.1) (aA.mk (aj y12 (itn y9.1)).name y13 (aj y12 (itn y9.1)).sure)) (itn y9.1)).data (fJ (aj y12 (itn y9.1)).sure x2))) x0.room (wr .i64 (aB x0.fuse 1)) x0.down,0)) none) none)))) (cnd (band (ile 0 y9.1) (ilt y9.1 (len x0.files))) (cnd (ilt (len (aj x0.files (itn y9.1)).data) x2) (some (x0,1)) (cnd (ieq x0.fuse 0) (some (ah.mk x0.files x0.room x0.fuse true,9)) (cnd (ieq x0.fuse (-1)) (af (aJ x0.files) fun y14=>cnd (band (ile 0 y9.1) (ilt y9.1 (len y14))) (cnd (band (ile 0 x2) (ile x2 (len (aj y14 (itn y9.1)).data))) (af (dM (ay (aj y14 (itn y9.1)).data (itn x2))) fun y15=>some (ah.mk (aY (aY y14 (itn y9.1) (aA.mk (aj y14 (itn y9.1)).name y15 (aj y14 (itn y9.1)).sure)) (itn y9.1) (aA.mk (aj (aY y14 (itn y9.1) (aA.mk (aj y14 (itn y9.1)).name y15 (aj y14 (itn y9.1)).sure)) (itn y9.1)).name (aj (aY y14 (itn y9.1) (aA.mk (aj y14 (itn y9.1)).name y15 (aj y14 (itn y9.1)).sure)) (itn y9.1)).data (fJ (aj y14 (itn y9.1)).sure x2))) x0.room x0.fuse x0.down,0)) none) none) (af (aJ x0.files) fun y16=>cnd (band (ile 0 y9.1) (ilt y9.1 (len y16))) (cnd (band (ile 0 x2) (ile x2 (len (aj y16 (itn y9.1)).data))) (af (dM (ay (aj y16 (itn y9.1)).data (itn x2))) fun y17=>some (ah.mk (aY (aY y16 (itn y9.1) (aA.mk (aj y16 (itn y9.1)).name y17 (aj y16 (itn y9.1)).sure)) (itn y9.1) (aA.mk (aj (aY y16 (itn y9.1) (aA.mk (aj y16 (itn y9.1)).name y17 (aj y16 (itn y9.1)).sure)) (itn y9.1)).name (aj (aY y16 (itn y9.1) (aA.mk (aj y16 (itn y9.1)).name y17 (aj y16 (itn y9.1)).sure)) (itn y9.1)).data (fJ (aj y16 (itn y9.1)).sure x2))) x0.room (wr .i64 (aB x0.fuse 1)) x0.down,0)) none) none)))) none)))
theorem QO:wW=Bc:=by
 funext a0 a1 a2
 unfold wW Bc
 simp only[iR,vZ]
def fV (x0:ah) (x1:eF):Option (ah×Int):=af (xu x1) fun y0=>cnd (ax y0) (some (x0,1)) (af (yY x0) fun y1=>cnd (ieq y1.2 1) (cnd (ieq y1.2 1) (some (x0,y1.2)) (cnd (ax (ieq x1.gen (wr .i64 (au y1.1.gen 1)))) (some (x0,8)) (af (jZ x1.gen) fun y2=>af (ou x1) fun y3=>af (lT x0 y2) fun y4=>cnd (ieq y4.2 7) (af (iW x0 y2 [y3.a0,y3.a1,y3.a2,y3.a3,y3.a4,y3.a5,y3.a6,y3.a7,y3.a8,y3.a9,y3.a10,y3.a11,y3.a12,y3.a13,y3.a14,y3.a15,y3.a16,y3.a17,y3.a18,y3.a19]) fun y5=>cnd (ax (ieq y5.2 0)) (some y5) (af (jh y5.1 y2) fun y6=>cnd (ax (ieq y6.2 0)) (some y6) (some (y6.1,0)))) (af (Bc x0 y2 0) fun y7=>cnd (ax (ieq y7.2 0)) (some y7) (af (iW y7.1 y2 [y3.a0,y3.a1,y3.a2,y3.a3,y3.a4,y3.a5,y3.a6,y3.a7,y3.a8,y3.a9,y3.a10,y3.a11,y3.a12,y3.a13,y3.a14,y3.a15,y3.a16,y3.a17,y3.a18,y3.a19]) fun y8=>cnd (ax (ieq y8.2 0)) (some y8) (af (jh y8.1 y2) fun y9=>cnd (ax (ieq y9.2 0)) (some y9) (some (y9.1,0)))))))) (cnd (ieq y1.2 9) (some (x0,y1.2)) (cnd (ax (ieq x1.gen (wr .i64 (au y1.1.gen 1)))) (some (x0,8)) (af (jZ x1.gen) fun y10=>af (ou x1) fun y11=>af (lT x0 y10) fun y12=>cnd (ieq y12.2 7) (af (iW x0 y10 [y11.a0,y11.a1,y11.a2,y11.a3,y11.a4,y11.a5,y11.a6,y11.a7,y11.a8,y11.a9,y11.a10,y11.a11,y11.a12,y11.a13,y11.a14,y11.a15,y11.a16,y11.a17,y11.a18,y11.a19]) fun y13=>cnd (ax (ieq y13.2 0)) (some y13) (af (jh y13.1 y10) fun y14=>cnd (ax (ieq y14.2 0)) (some y14) (some (y14.1,0)))) (af (Bc x0 y10 0) fun y15=>cnd (ax (ieq y15.2 0)) (some y15) (af (iW y15.1 y10 [y11.a0,y11.a1,y11.a2,y11.a3,y11.a4,y11.a5,y11.a6,y11.a7,y11.a8,y11.a9,y11.a10,y11.a11,y11.a12,y11.a13,y11.a14,y11.a15,y11.a16,y11.a17,y11.a18,y11.a19]) fun y16=>cnd (ax (ieq y16.2 0)) (some y16) (af (jh y16.1 y10) fun y17=>cnd (ax (ieq y17.2 0)) (some y17) (some (y17.1,0)))))))))
theorem OC:iG=fV:=by
 funext a0 a1
 unfold iG fV
 simp only[vN,zi,zx,F7,QO]
def aQ (p0:Int) (p1:(List aA)) (p2:Int) (v0:Int) (v1:bZ):Option ((Int×bZ) ⊕ ((bZ))):=cnd (ilt v0 p0) (cnd (band (ile 0 v0) (ilt v0 (len p1))) (af (rE (aj p1 (itn v0)).name) fun y0=>af (cnd y0 (gQ p2) (some [])) fun y1=>cnd (band y0 (ax (seq (aj p1 (itn v0)).name y1))) (cnd (ieq v1.e 0) (af (nK v1.d (aj p1 (itn v0)).name) fun y2=>some (Sum.inl (wr .i64 (au v0 1),bZ.mk y2.1 y2.2))) (some (Sum.inl (wr .i64 (au v0 1),v1)))) (some (Sum.inl (wr .i64 (au v0 1),v1)))) none) (some (Sum.inr v1))
theorem Gi:aP=aQ:=by
 funext a0 a1 a2 a3 a4
 unfold aP aQ
 simp only[wG]
def CO (x0:ah) (x1:aC):Option (ah×Int×Int):=af (sU x1) fun y0=>cnd (ax (ieq y0.2 0)) (some (x0,0,1)) (af (yY x0) fun y1=>cnd (ieq y1.2 1) (some (x0,0,y1.2)) (cnd (ieq y1.2 9) (some (x0,0,y1.2)) (cnd (ile 1000000000 y1.1.gen) (some (x0,0,3)) (af (lT x0 [(UInt8.ofNat 116),(UInt8.ofNat 109),(UInt8.ofNat 112)]) fun y2=>cnd (ieq y2.2 0) (af (nK x0 [(UInt8.ofNat 116),(UInt8.ofNat 109),(UInt8.ofNat 112)]) fun y3=>cnd (ieq y3.2 0) (af (iW y3.1 [(UInt8.ofNat 116),(UInt8.ofNat 109),(UInt8.ofNat 112)] y0.1) fun y4=>cnd (ieq y4.2 0) (af (jh y4.1 [(UInt8.ofNat 116),(UInt8.ofNat 109),(UInt8.ofNat 112)]) fun y5=>cnd (ieq y5.2 0) (af (gQ (wr .i64 (au y1.1.gen 1))) fun y6=>af (ku y5.1 [(UInt8.ofNat 116),(UInt8.ofNat 109),(UInt8.ofNat 112)] y6) fun y7=>cnd (ieq y7.2 0) (af (fV y7.1 (eF.mk (wr .i64 (au y1.1.gen 1)) x1.lsn)) fun y8=>af (bM (fun v=>aQ (len y8.1.files) y8.1.files (wr .i64 (au y1.1.gen 1)) v.1 v.2) LF (0,bZ.mk y8.1 y8.2)) fun y9=>cnd (ax (ieq y9.e 0)) (some (y9.d,0,y9.e)) (some (y9.d,wr .i64 (au y1.1.gen 1),0))) (af (bM (fun v=>aQ (len y7.1.files) y7.1.files (wr .i64 (au y1.1.gen 1)) v.1 v.2) LF (0,bZ.mk y7.1 y7.2)) fun y10=>cnd (ax (ieq y10.e 0)) (some (y10.d,0,y10.e)) (some (y10.d,wr .i64 (au y1.1.gen 1),0)))) (cnd (ieq y5.2 0) (af (fV y5.1 (eF.mk (wr .i64 (au y1.1.gen 1)) x1.lsn)) fun y11=>af (bM (fun v=>aQ (len y11.1.files) y11.1.files (wr .i64 (au y1.1.gen 1)) v.1 v.2) LF (0,bZ.mk y11.1 y11.2)) fun y12=>cnd (ax (ieq y12.e 0)) (some (y12.d,0,y12.e)) (some (y12.d,wr .i64 (au y1.1.gen 1),0))) (af (bM (fun v=>aQ (len y5.1.files) y5.1.files (wr .i64 (au y1.1.gen 1)) v.1 v.2) LF (0,bZ.mk y5.1 y5.2)) fun y13=>cnd (ax (ieq y13.e 0)) (some (y13.d,0,y13.e)) (some (y13.d,wr .i64 (au y1.1.gen 1),0))))) (cnd (ieq y4.2 0) (af (gQ (wr .i64 (au y1.1.gen 1))) fun y14=>af (ku y4.1 [(UInt8.ofNat 116),(UInt8.ofNat 109),(UInt8.ofNat 112)] y14) fun y15=>cnd (ieq y15.2 0) (af (fV y15.1 (eF.mk (wr .i64 (au y1.1.gen 1)) x1.lsn)) fun y16=>af (bM (fun v=>aQ (len y16.1.files) y16.1.files (wr .i64 (au y1.1.gen 1)) v.1 v.2) LF (0,bZ.mk y16.1 y16.2)) fun y17=>cnd (ax (ieq y17.e 0)) (some (y17.d,0,y17.e)) (some (y17.d,wr .i64 (au y1.1.gen 1),0))) (af (bM (fun v=>aQ (len y15.1.files) y15.1.files (wr .i64 (au y1.1.gen 1)) v.1 v.2) LF (0,bZ.mk y15.1 y15.2)) fun y18=>cnd (ax (ieq y18.e 0)) (some (y18.d,0,y18.e)) (some (y18.d,wr .i64 (au y1.1.gen 1),0)))) (cnd (ieq y4.2 0) (af (fV y4.1 (eF.mk (wr .i64 (au y1.1.gen 1)) x1.lsn)) fun y19=>af (bM (fun v=>aQ (len y19.1.files) y19.1.files (wr .i64 (au y1.1.gen 1)) v.1 v.2) LF (0,bZ.mk y19.1 y19.2)) fun y20=>cnd (ax (ieq y20.e 0)) (some (y20.d,0,y20.e)) (some (y20.d,wr .i64 (au y1.1.gen 1),0))) (af (bM (fun v=>aQ (len y4.1.files) y4.1.files (wr .i64 (au y1.1.gen 1)) v.1 v.2) LF (0,bZ.mk y4.1 y4.2)) fun y21=>cnd (ax (ieq y21.e 0)) (some (y21.d,0,y21.e)) (some (y21.d,wr .i64 (au y1.1.gen 1),0)))))) (cnd (ieq y3.2 0) (af (jh y3.1 [(UInt8.ofNat 116),(UInt8.ofNat 109),(UInt8.ofNat 112)]) fun y22=>cnd (ieq y22.2 0) (af (gQ (wr .i64 (au y1.1.gen 1))) fun y23=>af (ku y22.1 [(UInt8.ofNat 116),(UInt8.ofNat 109),(UInt8.ofNat 112)] y23) fun y24=>cnd (ieq y24.2 0) (af (fV y24.1 (eF.mk (wr .i64 (au y1.1.gen 1)) x1.lsn)) fun y25=>af (bM (fun v=>aQ (len y25.1.files) y25.1.files (wr .i64 (au y1.1.gen 1)) v.1 v.2) LF (0,bZ.mk y25.1 y25.2)) fun y26=>cnd (ax (ieq y26.e 0)) (some (y26.d,0,y26.e)) (some (y26.d,wr .i64 (au y1.1.gen 1),0))) (af (bM (fun v=>aQ (len y24.1.files) y24.1.files (wr .i64 (au y1.1.gen 1)) v.1 v.2) LF (0,bZ.mk y24.1 y24.2)) fun y27=>cnd (ax (ieq y27.e 0)) (some (y27.d,0,y27.e)) (some (y27.d,wr .i64 (au y1.1.gen 1),0)))) (cnd (ieq y22.2 0) (af (fV y22.1 (eF.mk (wr .i64 (au y1.1.gen 1)) x1.lsn)) fun y28=>af (bM (fun v=>aQ (len y28.1.files) y28.1.files (wr .i64 (au y1.1.gen 1)) v.1 v.2) LF (0,bZ.mk y28.1 y28.2)) fun y29=>cnd (ax (ieq y29.e 0)) (some (y29.d,0,y29.e)) (some (y29.d,wr .i64 (au y1.1.gen 1),0))) (af (bM (fun v=>aQ (len y22.1.files) y22.1.files (wr .i64 (au y1.1.gen 1)) v.1 v.2) LF (0,bZ.mk y22.1 y22.2)) fun y30=>cnd (ax (ieq y30.e 0)) (some (y30.d,0,y30.e)) (some (y30.d,wr .i64 (au y1.1.gen 1),0))))) (cnd (ieq y3.2 0) (af (gQ (wr .i64 (au y1.1.gen 1))) fun y31=>af (ku y3.1 [(UInt8.ofNat 116),(UInt8.ofNat 109),(UInt8.ofNat 112)] y31) fun y32=>cnd (ieq y32.2 0) (af (fV y32.1 (eF.mk (wr .i64 (au y1.1.gen 1)) x1.lsn)) fun y33=>af (bM (fun v=>aQ (len y33.1.files) y33.1.files (wr .i64 (au y1.1.gen 1)) v.1 v.2) LF (0,bZ.mk y33.1 y33.2)) fun y34=>cnd (ax (ieq y34.e 0)) (some (y34.d,0,y34.e)) (some (y34.d,wr .i64 (au y1.1.gen 1),0))) (af (bM (fun v=>aQ (len y32.1.files) y32.1.files (wr .i64 (au y1.1.gen 1)) v.1 v.2) LF (0,bZ.mk y32.1 y32.2)) fun y35=>cnd (ax (ieq y35.e 0)) (some (y35.d,0,y35.e)) (some (y35.d,wr .i64 (au y1.1.gen 1),0)))) (cnd (ieq y3.2 0) (af (fV y3.1 (eF.mk (wr .i64 (au y1.1.gen 1)) x1.lsn)) fun y36=>af (bM (fun v=>aQ (len y36.1.files) y36.1.files (wr .i64 (au y1.1.gen 1)) v.1 v.2) LF (0,bZ.mk y36.1 y36.2)) fun y37=>cnd (ax (ieq y37.e 0)) (some (y37.d,0,y37.e)) (some (y37.d,wr .i64 (au y1.1.gen 1),0))) (af (bM (fun v=>aQ (len y3.1.files) y3.1.files (wr .i64 (au y1.1.gen 1)) v.1 v.2) LF (0,bZ.mk y3.1 y3.2)) fun y38=>cnd (ax (ieq y38.e 0)) (some (y38.d,0,y38.e)) (some (y38.d,wr .i64 (au y1.1.gen 1),0))))))) (af (iW x0 [(UInt8.ofNat 116),(UInt8.ofNat 109),(UInt8.ofNat 112)] y0.1) fun y39=>cnd (ieq y39.2 0) (af (jh y39.1 [(UInt8.ofNat 116),(UInt8.ofNat 109),(UInt8.ofNat 112)]) fun y40=>cnd (ieq y40.2 0) (af (gQ (wr .i64 (au y1.1.gen 1))) fun y41=>af (ku y40.1 [(UInt8.ofNat 116),(UInt8.ofNat 109),(UInt8.ofNat 112)] y41) fun y42=>cnd (ieq y42.2 0) (af (fV y42.1 (eF.mk (wr .i64 (au y1.1.gen 1)) x1.lsn)) fun y43=>af (bM (fun v=>aQ (len y43.1.files) y43.1.files (wr .i64 (au y1.1.gen 1)) v.1 v.2) LF (0,bZ.mk y43.1 y43.2)) fun y44=>cnd (ax (ieq y44.e 0)) (some (y44.d,0,y44.e)) (some (y44.d,wr .i64 (au y1.1.gen 1),0))) (af (bM (fun v=>aQ (len y42.1.files) y42.1.files (wr .i64 (au y1.1.gen 1)) v.1 v.2) LF (0,bZ.mk y42.1 y42.2)) fun y45=>cnd (ax (ieq y45.e 0)) (some (y45.d,0,y45.e)) (some (y45.d,wr .i64 (au y1.1.gen 1),0)))) (cnd (ieq y40.2 0) (af (fV y40.1 (eF.mk (wr .i64 (au y1.1.gen 1)) x1.lsn)) fun y46=>af (bM (fun v=>aQ (len y46.1.files) y46.1.files (wr .i64 (au y1.1.gen 1)) v.1 v.2) LF (0,bZ.mk y46.1 y46.2)) fun y47=>cnd (ax (ieq y47.e 0)) (some (y47.d,0,y47.e)) (some (y47.d,wr .i64 (au y1.1.gen 1),0))) (af (bM (fun v=>aQ (len y40.1.files) y40.1.files (wr .i64 (au y1.1.gen 1)) v.1 v.2) LF (0,bZ.mk y40.1 y40.2)) fun y48=>cnd (ax (ieq y48.e 0)) (some (y48.d,0,y48.e)) (some (y48.d,wr .i64 (au y1.1.gen 1),0))))) (cnd (ieq y39.2 0) (af (gQ (wr .i64 (au y1.1.gen 1))) fun y49=>af (ku y39.1 [(UInt8.ofNat 116),(UInt8.ofNat 109),(UInt8.ofNat 112)] y49) fun y50=>cnd (ieq y50.2 0) (af (fV y50.1 (eF.mk (wr .i64 (au y1.1.gen 1)) x1.lsn)) fun y51=>af (bM (fun v=>aQ (len y51.1.files) y51.1.files (wr .i64 (au y1.1.gen 1)) v.1 v.2) LF (0,bZ.mk y51.1 y51.2)) fun y52=>cnd (ax (ieq y52.e 0)) (some (y52.d,0,y52.e)) (some (y52.d,wr .i64 (au y1.1.gen 1),0))) (af (bM (fun v=>aQ (len y50.1.files) y50.1.files (wr .i64 (au y1.1.gen 1)) v.1 v.2) LF (0,bZ.mk y50.1 y50.2)) fun y53=>cnd (ax (ieq y53.e 0)) (some (y53.d,0,y53.e)) (some (y53.d,wr .i64 (au y1.1.gen 1),0)))) (cnd (ieq y39.2 0) (af (fV y39.1 (eF.mk (wr .i64 (au y1.1.gen 1)) x1.lsn)) fun y54=>af (bM (fun v=>aQ (len y54.1.files) y54.1.files (wr .i64 (au y1.1.gen 1)) v.1 v.2) LF (0,bZ.mk y54.1 y54.2)) fun y55=>cnd (ax (ieq y55.e 0)) (some (y55.d,0,y55.e)) (some (y55.d,wr .i64 (au y1.1.gen 1),0))) (af (bM (fun v=>aQ (len y39.1.files) y39.1.files (wr .i64 (au y1.1.gen 1)) v.1 v.2) LF (0,bZ.mk y39.1 y39.2)) fun y56=>cnd (ax (ieq y56.e 0)) (some (y56.d,0,y56.e)) (some (y56.d,wr .i64 (au y1.1.gen 1),0))))))))))
theorem Oq:xO=CO:=by
 funext a0 a1
 unfold xO CO
 simp only[wG,vN,zi,zx,F7,Nu,OC,Gi]
def Ec (x0:aN):Option (aN×(List kM)×Int):=af (rF x0) fun y0=>cnd (ax (ieq y0.2.2 0)) (some y0) (af (CO y0.1.disk y0.1.state) fun y1=>cnd (ieq y1.2.2 0) (af (Aa y0.1.wal y1.1 y0.1.state.lsn) fun y2=>cnd (ieq y2.2 0) (some (aN.mk y2.1 y0.1.wal y0.1.state y0.1.outbox y0.1.feed y1.2.1 y0.1.up,y0.2.1,y2.2)) (cnd y2.1.down (af (qh (aN.mk y2.1 y0.1.wal y0.1.state y0.1.outbox y0.1.feed y0.1.gen y0.1.up)) fun y3=>some (y3,y0.2.1,y2.2)) (some (aN.mk y2.1 y0.1.wal y0.1.state y0.1.outbox y0.1.feed y0.1.gen y0.1.up,y0.2.1,y2.2)))) (cnd (ieq y1.2.2 0) (some (aN.mk y1.1 y0.1.wal y0.1.state y0.1.outbox y0.1.feed y1.2.1 y0.1.up,y0.2.1,y1.2.2)) (cnd y1.1.down (af (qh (aN.mk y1.1 y0.1.wal y0.1.state y0.1.outbox y0.1.feed y0.1.gen y0.1.up)) fun y4=>some (y4,y0.2.1,y1.2.2)) (some (aN.mk y1.1 y0.1.wal y0.1.state y0.1.outbox y0.1.feed y0.1.gen y0.1.up,y0.2.1,y1.2.2)))))
theorem PX:wS=Ec:=by
 funext a0
 unfold wS Ec
 simp only[GL,yg,Oq]
def yC:Option (Bool):=af (qN 5000 (jL.mk 50 50 500) 900) fun y0=>af (AU y0.1 (jm.mk 1 1 0 0 1 4 2 0 0 0 false 0 0)) fun y1=>af (rF y1.1) fun y2=>af (D8 y1.1 (jm.mk 5 0 0 0 0 0 0 0 0 0 true 0 0)) fun y3=>af (Ec y3.1) fun y4=>cnd (bor (ilt 0 (len y2.2.1)) (ax (band (band (band (band (band (band (band y0.2 (ieq y1.2 0)) (ieq y2.2.2 0)) (ieq y3.2.2 0)) (ieq y4.2.2 0)) (ieq (len y1.1.outbox) 1)) (ieq (len y2.1.outbox) 0)) (ieq (len y2.2.1) 1)))) (some (band (band (band (band (band (band (band (band (band (band (band (band y0.2 (ieq y1.2 0)) (ieq y2.2.2 0)) (ieq y3.2.2 0)) (ieq y4.2.2 0)) (ieq (len y1.1.outbox) 1)) (ieq (len y2.1.outbox) 0)) (ieq (len y2.2.1) 1)) (ieq (aj y2.2.1 0).lsn 1)) (ieq (len y3.2.1) 1)) y3.1.state.kill) (ieq y4.1.gen 1)) (ieq y2.1.wal.sure 1))) none
theorem Et:mQ=yC:=by
 unfold mQ yC
 simp only[Eo,LC,yg,PD,PX]
theorem akv:mQ=some true:=by rw[Et];kernel_rfl
noncomputable def vW (g:aN) (d:IG):aN×List kM×Int:=
 if zY d.kind 6=0 then ((tH g d.r).1,[],(tH g d.r).2)else if zY d.kind 6=1 then ((MX g d.n).1,[],(MX g d.n).2)else if zY d.kind 6=2 then aW g else if zY d.kind 6=3 then Zg g d.r else if zY d.kind 6=4 then Z9 g else
 (⟨⟨g.disk.files,g.disk.room,wr .i64 (aB (zY (wr .i64 d.fuse) 30) 1),g.disk.down⟩,g.wal,g.state,g.outbox,g.feed,g.gen,g.up⟩,[],0)
theorem aaQ {d:IG} (h:JK d):nV d.r:=⟨h.r_kind,h.r_order,h.r_account,h.r_symbol,h.r_side,h.r_qty,h.r_price,h.r_long,h.r_short,h.r_opn,h.r_seq,h.r_what⟩
theorem ah5 {d:IG} (h:JK d):qZ d.n:=⟨h.n_seq,h.n_what,h.n_order,h.n_qty,h.n_price⟩
theorem amk {g:aN} {d:IG} (hg:SG g) (hd:JK d):ru g d=some (vW g d):=by
 unfold ru vW
 rw[fC,fC,fC,fC,fC,YL hg (aaQ hd),adQ hg (ah5 hd),JB hg,acO hg (aaQ hd),acp hg]
 simp only[ai]
 split
 ·rfl
 split
 ·rfl
 split
 ·rfl
 split
 ·rfl
 split<;>rfl
theorem alC {n:Int} (h:inU n): -1<=wr .i64 (aB (zY (wr .i64 n) 30) 1)/\inI (wr .i64 (aB (zY (wr .i64 n) 30) 1)):=by
 refine⟨?_,al9 _⟩
 have e:wr .i64 n=n:=by unfold inU at h;exact bU (by omega) (by omega)
 rw[e]
 unfold inU at h
 have e2:zY n 30=n%30:=by
  unfold zY
  exact Int.tmod_eq_emod_of_nonneg (by omega)
 rw[e2,aB,I9 (n:=n%30 - 1) (by unfold inI;omega)]
 omega
theorem agA {g:aN} {d:IG} (hg:SG g) (hd:JK d):QA g (vW g d).1 (vW g d).2.2\/((qR g->qR (vW g d).1)/\SG (vW g d).1/\(vW g d).1.up=g.up/\(vW g d).2.2=0):=by
 unfold vW
 split
 ·exact .inl (ack hg (aaQ hd))
 split
 ·exact .inl (ahq hg (ah5 hd)).1
 split
 ·exact .inl (Qg hg)
 split
 ·exact .inl (agr hg (aaQ hd))
 split
 ·exact .inl (ag0 hg)
 ·have hf:=alC hd.fuse
  refine .inr ⟨fun hG=> ?_,⟨hg.st,hg.sh,hg.wal,hg.wl,⟨hg.bnd.nm,hf.2⟩,hg.byte,hg.fl,hg.ol,hg.hl,hg.ok,hg.gen⟩,rfl,rfl⟩
  obtain⟨h1,h2,h3,h4,h5,h6,h7,h8,h9⟩:=hG
  have hdk:gG ⟨g.disk.files,g.disk.room,wr .i64 (aB (zY (wr .i64 d.fuse) 30) 1),g.disk.down⟩:=⟨⟨h1.1.1,h1.1.2.1,hf.1,h1.1.2.2.2⟩,h1.2.1,h1.2.2⟩
  refine⟨hdk,h2,h3,h4,h5,h6,h7,h8,?_⟩
  rcases h9 with ⟨a,b,c⟩ | h
  ·exact .inl ⟨a,b,c.1,hdk,c.2.2.1,c.2.2.2⟩
  ·exact .inr h
theorem XD (x0:aN) (x1:List IG) (k0:VH x0) (k1:okL afT x1):qG x0 x1=some true:=by
 refine Wq.eq ?_
 unfold qG
 rw[akv,ai,aU,aX]
 refine(ahf x0 k0).bind fun b hb=> ?_
 refine Wq.bind (Q:=fun c=>c=true->b=true/\x1.length<=40/\SG x0/\qR x0) ?_ fun c hc=> ?_
 ·rw[iH]
  refine⟨fun h=> ?_,fun _=>(ak _).2 fun h=>by cases h⟩
  simp only[aZ,bV,dF,dL,bI,bK,dG,dK,bY,dQ,bD,bG,dV,dW,len]at h
  have hg:=(hb h.1).1
  rw[Ko hg,ak]
  intro h2
  exact⟨h.1,by omega,hg,by simpa using h2⟩
 rw[iH]
 refine⟨fun _=>(ak _).2 rfl,fun h=> ?_⟩
 simp only[aZ,bV,dF,dL,bI,bK,dG,dK,bY,dQ,bD,bG,dV,dW,len]at h
 obtain⟨-, hl,hg,hG⟩:=hc h.2
 refine Wq.bind (Q:=fun w:(Bool×aN) ⊕ (Bool×aN)=>match w with | .inl _=>False | .inr _=>True)
  (lZ (n:=x1.length) (step:=fun v:Int×Bool×aN=>jg x1 v.1 v.2.1 v.2.2) (by omega) (fun i x=>SG x.2/\qR x.2) _ ?_ ?_ _ 0 (Nat.zero_le _) ⟨hg,hG⟩) ?_
 ·rintro i ⟨q,g⟩ hi ⟨a1,a2⟩
  simp only at a1 a2
  simp only[jg]
  have hd:JK x1[i]:=k1.1 _ (List.getElem_mem hi)
  rw[aH (by rw[ig];simpa using hi),aH (inb _ i hi),bQ _ i hi,amk a1 hd,ai]
  have fin:SG (vW g x1[i]).1->qR (vW g x1[i]).1->(((vW g x1[i]).1.up=false/\g.up=true->(vW g x1[i]).2.2=9)/\((vW g x1[i]).1.up=true->(vW g x1[i]).2.2≠9))->Wq (af (mG (vW g x1[i]).1) fun y1=>cnd (bor (bor (ax y1) (band (band (ax (vW g x1[i]).1.up) g.up) (ax (ieq (vW g x1[i]).2.snd 9)))) (band (vW g x1[i]).1.up (ieq (vW g x1[i]).2.snd 9))) (some (Sum.inr (Sum.inl (false,g)))) (some (Sum.inl (wr .i64 (au (i:Int) 1),q,(vW g x1[i]).1))))
   fun r:(Int×Bool×aN) ⊕ ((Bool×aN) ⊕ (Bool×aN))=>match r with
    |.inl x=>x.1=((i+1:Nat):Int)/\SG x.2.2/\qR x.2.2
    |.inr (.inl _)=>False
    |.inr (.inr _)=>True:=by
   intro s1 s2 s3
   rw[Ko s1,ai,decide_eq_true s2,dH ?_,ak]
   ·exact⟨eu (by omega),s1,s2⟩
   ·simp only[dL,bV,bK,bG,bD,aU]
    refine⟨⟨trivial,?_⟩,?_⟩
    ·cases hu:(vW g x1[i]).1.up with
     |true=>exact .inl (.inl rfl)
     |false=>
      cases hv:g.up with
      |false=>exact .inl (.inr rfl)
      |true=>exact .inr (s3.1 ⟨hu,hv⟩)
    ·cases hu:(vW g x1[i]).1.up with
     |false=>exact .inl rfl
     |true=>exact .inr (s3.2 hu)
  rcases agA a1 hd with h | ⟨h1,h2,h3,h4⟩
  ·refine(fin h.sg (h.right a2) ⟨fun hu=>((h.down hu.2).1 hu.1),fun hu=> ?_⟩).mono ?_
   ·cases hgu:g.up with
    |true=>intro h9;have:=(h.down hgu).2 h9;rw[hu]at this;cases this
    |false=>have:=h.low hgu;rw[this,hgu]at hu;cases hu
   ·rintro(x | x | x) hx<;>exact hx
  ·refine(fin h2 (h1 a2) ⟨fun hu=> ?_,fun hu=> ?_⟩).mono ?_
   ·rw[h3]at hu;rw[hu.2]at hu;cases hu.1
   ·rw[h4];simp
   ·rintro(x | x | x) hx<;>exact hx
 ·rintro⟨q,g⟩ -
  simp only[jg]
  rw[dH (Nb _),ak];trivial
 ·rintro(w | w) hw
  ·exact hw.elim
  ·simp only[jB,ak]
end Go.Av
