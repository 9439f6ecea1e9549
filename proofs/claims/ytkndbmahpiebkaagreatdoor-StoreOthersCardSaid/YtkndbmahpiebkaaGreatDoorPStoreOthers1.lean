/- The plain law, part 1. No condition. -/
import Derived.Test.YtkndbmahpiebkaaGreatDoorPStoreOthers0
import Derived.KernelRfl
set_option linter.unusedVariables false
set_option linter.unusedSimpArgs false
set_option linter.unnecessarySimpa false
namespace Go.Av
open Go
def lG (x0:ai) (x1:(List UInt8)) (x2:(List UInt8)):Option (ai×Int):=cnd (ile (len (jR [x2] [x1])) 68719476736) (af (gY x0 (jR [x2] [x1])) fun y0 => cnd (aB (ieq y0 0)) (cnd (aB (ieq y0 0)) (some (x0,y0)) (cnd (ieq x0.fuse 0) (some (ai.mk x0.files x0.room x0.fuse true,9)) (cnd (ieq x0.fuse (-1)) (cnd (ilt 0 (len x0.files)) (af (aP x0.files) fun y1 => cnd (band (ile 1 (len y1)) (band (ile 1 (len y1)) (ile (len y1) (len y1)))) (cnd (ile 0 (len y1)) (cnd (ile 1 (len y1)) (cnd (ile (aj 0 (len (ax (aG y1 1) (itn (aC (len y1) 1))))) (len y1)) (cnd (band (band (ile 0 (nti (nad 0 (itn (len (ax (aG y1 1) (itn (aC (len y1) 1)))))))) (ile (nti (nad 0 (itn (len (ax (aG y1 1) (itn (aC (len y1) 1))))))) (len y1))) (ile (len y1) (aC (len (dJ y1 0 (ax (aG y1 1) (itn (aC (len y1) 1))))) 0))) (af (bZ (ai.mk (ax (dJ (dJ y1 0 (ax (aG y1 1) (itn (aC (len y1) 1)))) (nad 0 (itn (nti (nad 0 (itn (len (ax (aG y1 1) (itn (aC (len y1) 1))))))))) (jC ak (itn (aC (len y1) (nti (nad 0 (itn (len (ax (aG y1 1) (itn (aC (len y1) 1))))))))))) (nad 0 (itn (len (ax (aG y1 1) (itn (aC (len y1) 1))))))) x0.room x0.fuse x0.down) x2) fun y2 => cnd y2.snd (cnd (band (ile 0 y2.fst) (ilt y2.fst (len (ax (dJ (dJ y1 0 (ax (aG y1 1) (itn (aC (len y1) 1)))) (nad 0 (itn (nti (nad 0 (itn (len (ax (aG y1 1) (itn (aC (len y1) 1))))))))) (jC ak (itn (aC (len y1) (nti (nad 0 (itn (len (ax (aG y1 1) (itn (aC (len y1) 1))))))))))) (nad 0 (itn (len (ax (aG y1 1) (itn (aC (len y1) 1)))))))))) (some (ai.mk (bf (ax (dJ (dJ y1 0 (ax (aG y1 1) (itn (aC (len y1) 1)))) (nad 0 (itn (nti (nad 0 (itn (len (ax (aG y1 1) (itn (aC (len y1) 1))))))))) (jC ak (itn (aC (len y1) (nti (nad 0 (itn (len (ax (aG y1 1) (itn (aC (len y1) 1))))))))))) (nad 0 (itn (len (ax (aG y1 1) (itn (aC (len y1) 1))))))) (itn y2.fst) (ak.mk x2 (ah x0.files 0).data (ah x0.files 0).sure)) x0.room x0.fuse x0.down,0)) none) (af (aZ (ax (dJ (dJ y1 0 (ax (aG y1 1) (itn (aC (len y1) 1)))) (nad 0 (itn (nti (nad 0 (itn (len (ax (aG y1 1) (itn (aC (len y1) 1))))))))) (jC ak (itn (aC (len y1) (nti (nad 0 (itn (len (ax (aG y1 1) (itn (aC (len y1) 1))))))))))) (nad 0 (itn (len (ax (aG y1 1) (itn (aC (len y1) 1))))))) y2.fst [ak.mk x2 (ah x0.files 0).data (ah x0.files 0).sure]) fun y3 => some (ai.mk y3 x0.room x0.fuse x0.down,0))) none) none) none) none) none) none) (cnd (ilt 0 (len x0.files)) (af (aP x0.files) fun y4 => cnd (band (ile 1 (len y4)) (band (ile 1 (len y4)) (ile (len y4) (len y4)))) (cnd (ile 0 (len y4)) (cnd (ile 1 (len y4)) (cnd (ile (aj 0 (len (ax (aG y4 1) (itn (aC (len y4) 1))))) (len y4)) (cnd (band (band (ile 0 (nti (nad 0 (itn (len (ax (aG y4 1) (itn (aC (len y4) 1)))))))) (ile (nti (nad 0 (itn (len (ax (aG y4 1) (itn (aC (len y4) 1))))))) (len y4))) (ile (len y4) (aC (len (dJ y4 0 (ax (aG y4 1) (itn (aC (len y4) 1))))) 0))) (af (bZ (ai.mk (ax (dJ (dJ y4 0 (ax (aG y4 1) (itn (aC (len y4) 1)))) (nad 0 (itn (nti (nad 0 (itn (len (ax (aG y4 1) (itn (aC (len y4) 1))))))))) (jC ak (itn (aC (len y4) (nti (nad 0 (itn (len (ax (aG y4 1) (itn (aC (len y4) 1))))))))))) (nad 0 (itn (len (ax (aG y4 1) (itn (aC (len y4) 1))))))) x0.room (wr .i64 (aC x0.fuse 1)) x0.down) x2) fun y5 => cnd y5.snd (cnd (band (ile 0 y5.fst) (ilt y5.fst (len (ax (dJ (dJ y4 0 (ax (aG y4 1) (itn (aC (len y4) 1)))) (nad 0 (itn (nti (nad 0 (itn (len (ax (aG y4 1) (itn (aC (len y4) 1))))))))) (jC ak (itn (aC (len y4) (nti (nad 0 (itn (len (ax (aG y4 1) (itn (aC (len y4) 1))))))))))) (nad 0 (itn (len (ax (aG y4 1) (itn (aC (len y4) 1)))))))))) (some (ai.mk (bf (ax (dJ (dJ y4 0 (ax (aG y4 1) (itn (aC (len y4) 1)))) (nad 0 (itn (nti (nad 0 (itn (len (ax (aG y4 1) (itn (aC (len y4) 1))))))))) (jC ak (itn (aC (len y4) (nti (nad 0 (itn (len (ax (aG y4 1) (itn (aC (len y4) 1))))))))))) (nad 0 (itn (len (ax (aG y4 1) (itn (aC (len y4) 1))))))) (itn y5.fst) (ak.mk x2 (ah x0.files 0).data (ah x0.files 0).sure)) x0.room (wr .i64 (aC x0.fuse 1)) x0.down,0)) none) (af (aZ (ax (dJ (dJ y4 0 (ax (aG y4 1) (itn (aC (len y4) 1)))) (nad 0 (itn (nti (nad 0 (itn (len (ax (aG y4 1) (itn (aC (len y4) 1))))))))) (jC ak (itn (aC (len y4) (nti (nad 0 (itn (len (ax (aG y4 1) (itn (aC (len y4) 1))))))))))) (nad 0 (itn (len (ax (aG y4 1) (itn (aC (len y4) 1))))))) y5.fst [ak.mk x2 (ah x0.files 0).data (ah x0.files 0).sure]) fun y6 => some (ai.mk y6 x0.room (wr .i64 (aC x0.fuse 1)) x0.down,0))) none) none) none) none) none) none)))) (af (bZ x0 x1) fun y7 => cnd (aB y7.snd) (some (x0,7)) (cnd (ieq x0.fuse 0) (some (ai.mk x0.files x0.room x0.fuse true,9)) (cnd (ieq x0.fuse (-1)) (cnd (band (ile 0 y7.fst) (ilt y7.fst (len x0.files))) (af (aP x0.files) fun y8 => cnd (band (band (band (ile 0 y7.fst) (ile y7.fst (wr .i64 (aj y7.fst 1)))) (ile (wr .i64 (aj y7.fst 1)) (len y8))) (band (ile (wr .i64 (aj y7.fst 1)) (len y8)) (ile (len y8) (len y8)))) (cnd (ieq y7.fst (wr .i64 (aj y7.fst 1))) (af (bZ (ai.mk y8 x0.room x0.fuse x0.down) x2) fun y9 => cnd y9.snd (cnd (band (ile 0 y9.fst) (ilt y9.fst (len y8))) (some (ai.mk (bf y8 (itn y9.fst) (ak.mk x2 (ah x0.files (itn y7.fst)).data (ah x0.files (itn y7.fst)).sure)) x0.room x0.fuse x0.down,0)) none) (af (aZ y8 y9.fst [ak.mk x2 (ah x0.files (itn y7.fst)).data (ah x0.files (itn y7.fst)).sure]) fun y10 => some (ai.mk y10 x0.room x0.fuse x0.down,0))) (cnd (band (ile 0 y7.fst) (ile y7.fst (len y8))) (cnd (band (ile 0 (wr .i64 (aj y7.fst 1))) (ile (wr .i64 (aj y7.fst 1)) (len y8))) (cnd (ile (aj (nti (itn y7.fst)) (len (ax (aG y8 (itn (wr .i64 (aj y7.fst 1)))) (itn (aC (len y8) (wr .i64 (aj y7.fst 1))))))) (len y8)) (cnd (band (band (ile 0 (nti (nad (itn y7.fst) (itn (len (ax (aG y8 (itn (wr .i64 (aj y7.fst 1)))) (itn (aC (len y8) (wr .i64 (aj y7.fst 1)))))))))) (ile (nti (nad (itn y7.fst) (itn (len (ax (aG y8 (itn (wr .i64 (aj y7.fst 1)))) (itn (aC (len y8) (wr .i64 (aj y7.fst 1))))))))) (len y8))) (ile (len y8) (aC (len (dJ y8 (itn y7.fst) (ax (aG y8 (itn (wr .i64 (aj y7.fst 1)))) (itn (aC (len y8) (wr .i64 (aj y7.fst 1))))))) 0))) (af (bZ (ai.mk (ax (dJ (dJ y8 (itn y7.fst) (ax (aG y8 (itn (wr .i64 (aj y7.fst 1)))) (itn (aC (len y8) (wr .i64 (aj y7.fst 1)))))) (nad 0 (itn (nti (nad (itn y7.fst) (itn (len (ax (aG y8 (itn (wr .i64 (aj y7.fst 1)))) (itn (aC (len y8) (wr .i64 (aj y7.fst 1))))))))))) (jC ak (itn (aC (len y8) (nti (nad (itn y7.fst) (itn (len (ax (aG y8 (itn (wr .i64 (aj y7.fst 1)))) (itn (aC (len y8) (wr .i64 (aj y7.fst 1))))))))))))) (nad (itn y7.fst) (itn (len (ax (aG y8 (itn (wr .i64 (aj y7.fst 1)))) (itn (aC (len y8) (wr .i64 (aj y7.fst 1))))))))) x0.room x0.fuse x0.down) x2) fun y11 => cnd y11.snd (cnd (band (ile 0 y11.fst) (ilt y11.fst (len (ax (dJ (dJ y8 (itn y7.fst) (ax (aG y8 (itn (wr .i64 (aj y7.fst 1)))) (itn (aC (len y8) (wr .i64 (aj y7.fst 1)))))) (nad 0 (itn (nti (nad (itn y7.fst) (itn (len (ax (aG y8 (itn (wr .i64 (aj y7.fst 1)))) (itn (aC (len y8) (wr .i64 (aj y7.fst 1))))))))))) (jC ak (itn (aC (len y8) (nti (nad (itn y7.fst) (itn (len (ax (aG y8 (itn (wr .i64 (aj y7.fst 1)))) (itn (aC (len y8) (wr .i64 (aj y7.fst 1))))))))))))) (nad (itn y7.fst) (itn (len (ax (aG y8 (itn (wr .i64 (aj y7.fst 1)))) (itn (aC (len y8) (wr .i64 (aj y7.fst 1)))))))))))) (some (ai.mk (bf (ax (dJ (dJ y8 (itn y7.fst) (ax (aG y8 (itn (wr .i64 (aj y7.fst 1)))) (itn (aC (len y8) (wr .i64 (aj y7.fst 1)))))) (nad 0 (itn (nti (nad (itn y7.fst) (itn (len (ax (aG y8 (itn (wr .i64 (aj y7.fst 1)))) (itn (aC (len y8) (wr .i64 (aj y7.fst 1))))))))))) (jC ak (itn (aC (len y8) (nti (nad (itn y7.fst) (itn (len (ax (aG y8 (itn (wr .i64 (aj y7.fst 1)))) (itn (aC (len y8) (wr .i64 (aj y7.fst 1))))))))))))) (nad (itn y7.fst) (itn (len (ax (aG y8 (itn (wr .i64 (aj y7.fst 1)))) (itn (aC (len y8) (wr .i64 (aj y7.fst 1))))))))) (itn y11.fst) (ak.mk x2 (ah x0.files (itn y7.fst)).data (ah x0.files (itn y7.fst)).sure)) x0.room x0.fuse x0.down,0)) none) (af (aZ (ax (dJ (dJ y8 (itn y7.fst) (ax (aG y8 (itn (wr .i64 (aj y7.fst 1)))) (itn (aC (len y8) (wr .i64 (aj y7.fst 1)))))) (nad 0 (itn (nti (nad (itn y7.fst) (itn (len (ax (aG y8 (itn (wr .i64 (aj y7.fst 1)))) (itn (aC (len y8) (wr .i64 (aj y7.fst 1))))))))))) (jC ak (itn (aC (len y8) (nti (nad (itn y7.fst) (itn (len (ax (aG y8 (itn (wr .i64 (aj y7.fst 1)))) (itn (aC (len y8) (wr .i64 (aj y7.fst 1))))))))))))) (nad (itn y7.fst) (itn (len (ax (aG y8 (itn (wr .i64 (aj y7.fst 1)))) (itn (aC (len y8) (wr .i64 (aj y7.fst 1))))))))) y11.fst [ak.mk x2 (ah x0.files (itn y7.fst)).data (ah x0.files (itn y7.fst)).sure]) fun y12 => some (ai.mk y12 x0.room x0.fuse x0.down,0))) none) none) none) none)) none) none) (cnd (band (ile 0 y7.fst) (ilt y7.fst (len x0.files))) (af (aP x0.files) fun y13 => cnd (band (band (band (ile 0 y7.fst) (ile y7.fst (wr .i64 (aj y7.fst 1)))) (ile (wr .i64 (aj y7.fst 1)) (len y13))) (band (ile (wr .i64 (aj y7.fst 1)) (len y13)) (ile (len y13) (len y13)))) (cnd (ieq y7.fst (wr .i64 (aj y7.fst 1))) (af (bZ (ai.mk y13 x0.room (wr .i64 (aC x0.fuse 1)) x0.down) x2) fun y14 => cnd y14.snd (cnd (band (ile 0 y14.fst) (ilt y14.fst (len y13))) (some (ai.mk (bf y13 (itn y14.fst) (ak.mk x2 (ah x0.files (itn y7.fst)).data (ah x0.files (itn y7.fst)).sure)) x0.room (wr .i64 (aC x0.fuse 1)) x0.down,0)) none) (af (aZ y13 y14.fst [ak.mk x2 (ah x0.files (itn y7.fst)).data (ah x0.files (itn y7.fst)).sure]) fun y15 => some (ai.mk y15 x0.room (wr .i64 (aC x0.fuse 1)) x0.down,0))) (cnd (band (ile 0 y7.fst) (ile y7.fst (len y13))) (cnd (band (ile 0 (wr .i64 (aj y7.fst 1))) (ile (wr .i64 (aj y7.fst 1)) (len y13))) (cnd (ile (aj (nti (itn y7.fst)) (len (ax (aG y13 (itn (wr .i64 (aj y7.fst 1)))) (itn (aC (len y13) (wr .i64 (aj y7.fst 1))))))) (len y13)) (cnd (band (band (ile 0 (nti (nad (itn y7.fst) (itn (len (ax (aG y13 (itn (wr .i64 (aj y7.fst 1)))) (itn (aC (len y13) (wr .i64 (aj y7.fst 1)))))))))) (ile (nti (nad (itn y7.fst) (itn (len (ax (aG y13 (itn (wr .i64 (aj y7.fst 1)))) (itn (aC (len y13) (wr .i64 (aj y7.fst 1))))))))) (len y13))) (ile (len y13) (aC (len (dJ y13 (itn y7.fst) (ax (aG y13 (itn (wr .i64 (aj y7.fst 1)))) (itn (aC (len y13) (wr .i64 (aj y7.fst 1))))))) 0))) (af (bZ (ai.mk (ax (dJ (dJ y13 (itn y7.fst) (ax (aG y13 (itn (wr .i64 (aj y7.fst 1)))) (itn (aC (len y13) (wr .i64 (aj y7.fst 1)))))) (nad 0 (itn (nti (nad (itn y7.fst) (itn (len (ax (aG y13 (itn (wr .i64 (aj y7.fst 1)))) (itn (aC (len y13) (wr .i64 (aj y7.fst 1))))))))))) (jC ak (itn (aC (len y13) (nti (nad (itn y7.fst) (itn (len (ax (aG y13 (itn (wr .i64 (aj y7.fst 1)))) (itn (aC (len y13) (wr .i64 (aj y7.fst 1))))))))))))) (nad (itn y7.fst) (itn (len (ax (aG y13 (itn (wr .i64 (aj y7.fst 1)))) (itn (aC (len y13) (wr .i64 (aj y7.fst 1))))))))) x0.room (wr .i64 (aC x0.fuse 1)) x0.down) x2) fun y16 => cnd y16.snd (cnd (band (ile 0 y16.fst) (ilt y16.fst (len (ax (dJ (dJ y13 (itn y7.fst) (ax (aG y13 (itn (wr .i64 (aj y7.fst 1)))) (itn (aC (len y13) (wr .i64 (aj y7.fst 1)))))) (nad 0 (itn (nti (nad (itn y7.fst) (itn (len (ax (aG y13 (itn (wr .i64 (aj y7.fst 1)))) (itn (aC (len y13) (wr .i64 (aj y7.fst 1))))))))))) (jC ak (itn (aC (len y13) (nti (nad (itn y7.fst) (itn (len (ax (aG y13 (itn (wr .i64 (aj y7.fst 1)))) (itn (aC (len y13) (wr .i64 (aj y7.fst 1))))))))))))) (nad (itn y7.fst) (itn (len (ax (aG y13 (itn (wr .i64 (aj y7.fst 1)))) (itn (aC (len y13) (wr .i64 (aj y7.fst 1)))))))))))) (some (ai.mk (bf (ax (dJ (dJ y13 (itn y7.fst) (ax (aG y13 (itn (wr .i64 (aj y7.fst 1)))) (itn (aC (len y13) (wr .i64 (aj y7.fst 1)))))) (nad 0 (itn (nti (nad (itn y7.fst) (itn (len (ax (aG y13 (itn (wr .i64 (aj y7.fst 1)))) (itn (aC (len y13) (wr .i64 (aj y7.fst 1))))))))))) (jC ak (itn (aC (len y13) (nti (nad (itn y7.fst) (itn (len (ax (aG y13 (itn (wr .i64 (aj y7.fst 1)))) (itn (aC (len y13) (wr .i64 (aj y7.fst 1))))))))))))) (nad (itn y7.fst) (itn (len (ax (aG y13 (itn (wr .i64 (aj y7.fst 1)))) (itn (aC (len y13) (wr .i64 (aj y7.fst 1))))))))) (itn y16.fst) (ak.mk x2 (ah x0.files (itn y7.fst)).data (ah x0.files (itn y7.fst)).sure)) x0.room (wr .i64 (aC x0.fuse 1)) x0.down,0)) none) (af (aZ (ax (dJ (dJ y13 (itn y7.fst) (ax (aG y13 (itn (wr .i64 (aj y7.fst 1)))) (itn (aC (len y13) (wr .i64 (aj y7.fst 1)))))) (nad 0 (itn (nti (nad (itn y7.fst) (itn (len (ax (aG y13 (itn (wr .i64 (aj y7.fst 1)))) (itn (aC (len y13) (wr .i64 (aj y7.fst 1))))))))))) (jC ak (itn (aC (len y13) (nti (nad (itn y7.fst) (itn (len (ax (aG y13 (itn (wr .i64 (aj y7.fst 1)))) (itn (aC (len y13) (wr .i64 (aj y7.fst 1))))))))))))) (nad (itn y7.fst) (itn (len (ax (aG y13 (itn (wr .i64 (aj y7.fst 1)))) (itn (aC (len y13) (wr .i64 (aj y7.fst 1))))))))) y16.fst [ak.mk x2 (ah x0.files (itn y7.fst)).data (ah x0.files (itn y7.fst)).sure]) fun y17 => some (ai.mk y17 x0.room (wr .i64 (aC x0.fuse 1)) x0.down,0))) none) none) none) none)) none) none))))) none
theorem Qi:jF=lG:=by
 funext a0 a1 a2
 unfold jF lG
 simp only[iL]
def EI (x0:ai) (x1:(List UInt8)) (x2:Int):Option (ai×Int):=af (gY x0 [x1]) fun y0 => cnd (aB (ieq y0 0)) (cnd (aB (ieq y0 0)) (some (x0,y0)) (cnd (ilt x2 0) (cnd (ilt x2 0) (some (x0,1)) (cnd (ieq x0.fuse 0) (some (ai.mk x0.files x0.room x0.fuse true,9)) (cnd (ieq x0.fuse (-1)) (af (aP x0.files) fun y1 => cnd (ilt 0 (len y1)) (cnd (band (ile 0 x2) (ile x2 (len (ah y1 0).data))) (af (dF (ax (ah y1 0).data (itn x2))) fun y2 => some (ai.mk (bf (bf y1 0 (ak.mk (ah y1 0).name y2 (ah y1 0).sure)) 0 (ak.mk (ah (bf y1 0 (ak.mk (ah y1 0).name y2 (ah y1 0).sure)) 0).name (ah (bf y1 0 (ak.mk (ah y1 0).name y2 (ah y1 0).sure)) 0).data (jY (ah y1 0).sure x2))) x0.room x0.fuse x0.down,0)) none) none) (af (aP x0.files) fun y3 => cnd (ilt 0 (len y3)) (cnd (band (ile 0 x2) (ile x2 (len (ah y3 0).data))) (af (dF (ax (ah y3 0).data (itn x2))) fun y4 => some (ai.mk (bf (bf y3 0 (ak.mk (ah y3 0).name y4 (ah y3 0).sure)) 0 (ak.mk (ah (bf y3 0 (ak.mk (ah y3 0).name y4 (ah y3 0).sure)) 0).name (ah (bf y3 0 (ak.mk (ah y3 0).name y4 (ah y3 0).sure)) 0).data (jY (ah y3 0).sure x2))) x0.room (wr .i64 (aC x0.fuse 1)) x0.down,0)) none) none)))) (cnd (ilt 0 (len x0.files)) (cnd (ilt (len (ah x0.files 0).data) x2) (some (x0,1)) (cnd (ieq x0.fuse 0) (some (ai.mk x0.files x0.room x0.fuse true,9)) (cnd (ieq x0.fuse (-1)) (af (aP x0.files) fun y5 => cnd (ilt 0 (len y5)) (cnd (band (ile 0 x2) (ile x2 (len (ah y5 0).data))) (af (dF (ax (ah y5 0).data (itn x2))) fun y6 => some (ai.mk (bf (bf y5 0 (ak.mk (ah y5 0).name y6 (ah y5 0).sure)) 0 (ak.mk (ah (bf y5 0 (ak.mk (ah y5 0).name y6 (ah y5 0).sure)) 0).name (ah (bf y5 0 (ak.mk (ah y5 0).name y6 (ah y5 0).sure)) 0).data (jY (ah y5 0).sure x2))) x0.room x0.fuse x0.down,0)) none) none) (af (aP x0.files) fun y7 => cnd (ilt 0 (len y7)) (cnd (band (ile 0 x2) (ile x2 (len (ah y7 0).data))) (af (dF (ax (ah y7 0).data (itn x2))) fun y8 => some (ai.mk (bf (bf y7 0 (ak.mk (ah y7 0).name y8 (ah y7 0).sure)) 0 (ak.mk (ah (bf y7 0 (ak.mk (ah y7 0).name y8 (ah y7 0).sure)) 0).name (ah (bf y7 0 (ak.mk (ah y7 0).name y8 (ah y7 0).sure)) 0).data (jY (ah y7 0).sure x2))) x0.room (wr .i64 (aC x0.fuse 1)) x0.down,0)) none) none)))) none))) (af (bZ x0 x1) fun y9 => cnd (aB y9.snd) (some (x0,7)) (cnd (ilt x2 0) (cnd (ilt x2 0) (some (x0,1)) (cnd (ieq x0.fuse 0) (some (ai.mk x0.files x0.room x0.fuse true,9)) (cnd (ieq x0.fuse (-1)) (af (aP x0.files) fun y10 => cnd (band (ile 0 y9.fst) (ilt y9.fst (len y10))) (cnd (band (ile 0 x2) (ile x2 (len (ah y10 (itn y9.fst)).data))) (af (dF (ax (ah y10 (itn y9.fst)).data (itn x2))) fun y11 => some (ai.mk (bf (bf y10 (itn y9.fst) (ak.mk (ah y10 (itn y9.fst)).name y11 (ah y10 (itn y9.fst)).sure)) (itn y9.fst) (ak.mk (ah (bf y10 (itn y9.fst) (ak.mk (ah y10 (itn y9.fst)).name y11 (ah y10 (itn y9.fst)).sure)) (itn y9.fst)).name (ah (bf y10 (itn y9.fst) (ak.mk (ah y10 (itn y9.fst)).name y11 (ah y10 (itn y9.fst)).sure)) (itn y9.fst)).data (jY (ah y10 (itn y9.fst)).sure x2))) x0.room x0.fuse x0.down,0)) none) none) (af (aP x0.files) fun y12 => cnd (band (ile 0 y9.fst) (ilt y9.fst (len y12))) (cnd (band (ile 0 x2) (ile x2 (len (ah y12 (itn y9.fst)).data))) (af (dF (ax (ah y12 (itn y9.fst)).data (itn x2))) fun y13 => some (ai.mk (bf (bf y12 (itn y9.fst) (ak.mk (ah y12 (itn y9.fst)).name y13 (ah y12 (itn y9.fst)).sure)) (itn y9.fst) (ak.mk (ah (bf y12 (itn y9.fst) (ak.mk (ah y12 (itn y9.fst)).name y13 (ah y12 (itn y9.fst)).sure)) (itn y9.fst)).name (ah (bf y12 (itn y9.fst) (ak.mk (ah y12 (itn y9.fst)).name y13 (ah y12 (itn y9.fst)).sure)) (itn y9.fst)).data (jY (ah y12 (itn y9.fst)).sure x2))) x0.room (wr .i64 (aC x0.fuse 1)) x0.down,0)) none) none)))) (cnd (band (ile 0 y9.fst) (ilt y9.fst (len x0.files))) (cnd (ilt (len (ah x0.files (itn y9.fst)).data) x2) (some (x0,1)) (cnd (ieq x0.fuse 0) (some (ai.mk x0.files x0.room x0.fuse true,9)) (cnd (ieq x0.fuse (-1)) (af (aP x0.files) fun y14 => cnd (band (ile 0 y9.fst) (ilt y9.fst (len y14))) (cnd (band (ile 0 x2) (ile x2 (len (ah y14 (itn y9.fst)).data))) (af (dF (ax (ah y14 (itn y9.fst)).data (itn x2))) fun y15 => some (ai.mk (bf (bf y14 (itn y9.fst) (ak.mk (ah y14 (itn y9.fst)).name y15 (ah y14 (itn y9.fst)).sure)) (itn y9.fst) (ak.mk (ah (bf y14 (itn y9.fst) (ak.mk (ah y14 (itn y9.fst)).name y15 (ah y14 (itn y9.fst)).sure)) (itn y9.fst)).name (ah (bf y14 (itn y9.fst) (ak.mk (ah y14 (itn y9.fst)).name y15 (ah y14 (itn y9.fst)).sure)) (itn y9.fst)).data (jY (ah y14 (itn y9.fst)).sure x2))) x0.room x0.fuse x0.down,0)) none) none) (af (aP x0.files) fun y16 => cnd (band (ile 0 y9.fst) (ilt y9.fst (len y16))) (cnd (band (ile 0 x2) (ile x2 (len (ah y16 (itn y9.fst)).data))) (af (dF (ax (ah y16 (itn y9.fst)).data (itn x2))) fun y17 => some (ai.mk (bf (bf y16 (itn y9.fst) (ak.mk (ah y16 (itn y9.fst)).name y17 (ah y16 (itn y9.fst)).sure)) (itn y9.fst) (ak.mk (ah (bf y16 (itn y9.fst) (ak.mk (ah y16 (itn y9.fst)).name y17 (ah y16 (itn y9.fst)).sure)) (itn y9.fst)).name (ah (bf y16 (itn y9.fst) (ak.mk (ah y16 (itn y9.fst)).name y17 (ah y16 (itn y9.fst)).sure)) (itn y9.fst)).data (jY (ah y16 (itn y9.fst)).sure x2))) x0.room (wr .i64 (aC x0.fuse 1)) x0.down,0)) none) none)))) none)))
theorem Vw:tC=EI:=by
 funext a0 a1 a2
 unfold tC EI
 simp only[xA,iL]
def fZ (x0:ai) (x1:dB):Option (ai×Int):=af (sQ x1) fun y0 => cnd (aB y0) (some (x0,1)) (af (yc x0) fun y1 => cnd (ieq y1.snd 1) (cnd (ieq y1.snd 1) (some (x0,y1.snd)) (cnd (aB (ieq x1.gen (wr .i64 (aj y1.fst.gen 1)))) (some (x0,8)) (af (jA x1.gen) fun y2 => af (mM x1) fun y3 => af (mJ x0 y2) fun y4 => cnd (ieq y4.snd 7) (af (lF x0 y2 [y3.a0,y3.a1,y3.a2,y3.a3,y3.a4,y3.a5,y3.a6,y3.a7,y3.a8,y3.a9,y3.a10,y3.a11,y3.a12,y3.a13,y3.a14,y3.a15,y3.a16,y3.a17,y3.a18,y3.a19]) fun y5 => cnd (aB (ieq y5.snd 0)) (some y5) (af (mG y5.fst y2) fun y6 => cnd (aB (ieq y6.snd 0)) (some y6) (some (y6.fst,0)))) (af (EI x0 y2 0) fun y7 => cnd (aB (ieq y7.snd 0)) (some y7) (af (lF y7.fst y2 [y3.a0,y3.a1,y3.a2,y3.a3,y3.a4,y3.a5,y3.a6,y3.a7,y3.a8,y3.a9,y3.a10,y3.a11,y3.a12,y3.a13,y3.a14,y3.a15,y3.a16,y3.a17,y3.a18,y3.a19]) fun y8 => cnd (aB (ieq y8.snd 0)) (some y8) (af (mG y8.fst y2) fun y9 => cnd (aB (ieq y9.snd 0)) (some y9) (some (y9.fst,0)))))))) (cnd (ieq y1.snd 9) (some (x0,y1.snd)) (cnd (aB (ieq x1.gen (wr .i64 (aj y1.fst.gen 1)))) (some (x0,8)) (af (jA x1.gen) fun y10 => af (mM x1) fun y11 => af (mJ x0 y10) fun y12 => cnd (ieq y12.snd 7) (af (lF x0 y10 [y11.a0,y11.a1,y11.a2,y11.a3,y11.a4,y11.a5,y11.a6,y11.a7,y11.a8,y11.a9,y11.a10,y11.a11,y11.a12,y11.a13,y11.a14,y11.a15,y11.a16,y11.a17,y11.a18,y11.a19]) fun y13 => cnd (aB (ieq y13.snd 0)) (some y13) (af (mG y13.fst y10) fun y14 => cnd (aB (ieq y14.snd 0)) (some y14) (some (y14.fst,0)))) (af (EI x0 y10 0) fun y15 => cnd (aB (ieq y15.snd 0)) (some y15) (af (lF y15.fst y10 [y11.a0,y11.a1,y11.a2,y11.a3,y11.a4,y11.a5,y11.a6,y11.a7,y11.a8,y11.a9,y11.a10,y11.a11,y11.a12,y11.a13,y11.a14,y11.a15,y11.a16,y11.a17,y11.a18,y11.a19]) fun y16 => cnd (aB (ieq y16.snd 0)) (some y16) (af (mG y16.fst y10) fun y17 => cnd (aB (ieq y17.snd 0)) (some y17) (some (y17.fst,0)))))))))
theorem QO:fB=fZ:=by
 funext a0 a1
 unfold fB fZ
 simp only[wL,BK,ET,Jq,Vw]
def aU (p0:Int) (p1:(List ak)) (p2:Int) (v0:Int) (v1:bF):Option ((Int×bF) ⊕ ((bF))):=cnd (ilt v0 p0) (cnd (band (ile 0 v0) (ilt v0 (len p1))) (af (rW (ah p1 (itn v0)).name) fun y0 => af (cnd y0 (dw p2) (some [])) fun y1 => cnd (band y0 (aB (seq (ah p1 (itn v0)).name y1))) (cnd (ieq v1.e 0) (af (yC v1.d (ah p1 (itn v0)).name) fun y2 => some (Sum.inl (wr .i64 (aj v0 1),bF.mk y2.fst y2.snd))) (some (Sum.inl (wr .i64 (aj v0 1),v1)))) (some (Sum.inl (wr .i64 (aj v0 1),v1)))) none) (some (Sum.inr v1))
theorem IV:aO=aU:=by
 funext a0 a1 a2 a3 a4
 unfold aO aU
 simp only[FB]
def AU (x0:ai) (x1:ay):Option (ai×Int×Int):=af (qi x1) fun y0 => cnd (aB (ieq y0.snd 0)) (some (x0,0,1)) (af (yc x0) fun y1 => cnd (ieq y1.snd 1) (some (x0,0,y1.snd)) (cnd (ieq y1.snd 9) (some (x0,0,y1.snd)) (cnd (ile 1000000000 y1.fst.gen) (some (x0,0,3)) (af (mJ x0 [(UInt8.ofNat 116),(UInt8.ofNat 109),(UInt8.ofNat 112)]) fun y2 => cnd (ieq y2.snd 0) (af (yC x0 [(UInt8.ofNat 116),(UInt8.ofNat 109),(UInt8.ofNat 112)]) fun y3 => cnd (ieq y3.snd 0) (af (lF y3.fst [(UInt8.ofNat 116),(UInt8.ofNat 109),(UInt8.ofNat 112)] y0.fst) fun y4 => cnd (ieq y4.snd 0) (af (mG y4.fst [(UInt8.ofNat 116),(UInt8.ofNat 109),(UInt8.ofNat 112)]) fun y5 => cnd (ieq y5.snd 0) (af (dw (wr .i64 (aj y1.fst.gen 1))) fun y6 => af (lG y5.fst [(UInt8.ofNat 116),(UInt8.ofNat 109),(UInt8.ofNat 112)] y6) fun y7 => cnd (ieq y7.snd 0) (af (fZ y7.fst (dB.mk (wr .i64 (aj y1.fst.gen 1)) x1.lsn)) fun y8 => af (bG (fun v => aU (len y8.fst.files) y8.fst.files (wr .i64 (aj y1.fst.gen 1)) v.fst v.snd) LF (0,bF.mk y8.fst y8.snd)) fun y9 => cnd (aB (ieq y9.e 0)) (some (y9.d,0,y9.e)) (some (y9.d,wr .i64 (aj y1.fst.gen 1),0))) (af (bG (fun v => aU (len y7.fst.files) y7.fst.files (wr .i64 (aj y1.fst.gen 1)) v.fst v.snd) LF (0,bF.mk y7.fst y7.snd)) fun y10 => cnd (aB (ieq y10.e 0)) (some (y10.d,0,y10.e)) (some (y10.d,wr .i64 (aj y1.fst.gen 1),0)))) (cnd (ieq y5.snd 0) (af (fZ y5.fst (dB.mk (wr .i64 (aj y1.fst.gen 1)) x1.lsn)) fun y11 => af (bG (fun v => aU (len y11.fst.files) y11.fst.files (wr .i64 (aj y1.fst.gen 1)) v.fst v.snd) LF (0,bF.mk y11.fst y11.snd)) fun y12 => cnd (aB (ieq y12.e 0)) (some (y12.d,0,y12.e)) (some (y12.d,wr .i64 (aj y1.fst.gen 1),0))) (af (bG (fun v => aU (len y5.fst.files) y5.fst.files (wr .i64 (aj y1.fst.gen 1)) v.fst v.snd) LF (0,bF.mk y5.fst y5.snd)) fun y13 => cnd (aB (ieq y13.e 0)) (some (y13.d,0,y13.e)) (some (y13.d,wr .i64 (aj y1.fst.gen 1),0))))) (cnd (ieq y4.snd 0) (af (dw (wr .i64 (aj y1.fst.gen 1))) fun y14 => af (lG y4.fst [(UInt8.ofNat 116),(UInt8.ofNat 109),(UInt8.ofNat 112)] y14) fun y15 => cnd (ieq y15.snd 0) (af (fZ y15.fst (dB.mk (wr .i64 (aj y1.fst.gen 1)) x1.lsn)) fun y16 => af (bG (fun v => aU (len y16.fst.files) y16.fst.files (wr .i64 (aj y1.fst.gen 1)) v.fst v.snd) LF (0,bF.mk y16.fst y16.snd)) fun y17 => cnd (aB (ieq y17.e 0)) (some (y17.d,0,y17.e)) (some (y17.d,wr .i64 (aj y1.fst.gen 1),0))) (af (bG (fun v => aU (len y15.fst.files) y15.fst.files (wr .i64 (aj y1.fst.gen 1)) v.fst v.snd) LF (0,bF.mk y15.fst y15.snd)) fun y18 => cnd (aB (ieq y18.e 0)) (some (y18.d,0,y18.e)) (some (y18.d,wr .i64 (aj y1.fst.gen 1),0)))) (cnd (ieq y4.snd 0) (af (fZ y4.fst (dB.mk (wr .i64 (aj y1.fst.gen 1)) x1.lsn)) fun y19 => af (bG (fun v => aU (len y19.fst.files) y19.fst.files (wr .i64 (aj y1.fst.gen 1)) v.fst v.snd) LF (0,bF.mk y19.fst y19.snd)) fun y20 => cnd (aB (ieq y20.e 0)) (some (y20.d,0,y20.e)) (some (y20.d,wr .i64 (aj y1.fst.gen 1),0))) (af (bG (fun v => aU (len y4.fst.files) y4.fst.files (wr .i64 (aj y1.fst.gen 1)) v.fst v.snd) LF (0,bF.mk y4.fst y4.snd)) fun y21 => cnd (aB (ieq y21.e 0)) (some (y21.d,0,y21.e)) (some (y21.d,wr .i64 (aj y1.fst.gen 1),0)))))) (cnd (ieq y3.snd 0) (af (mG y3.fst [(UInt8.ofNat 116),(UInt8.ofNat 109),(UInt8.ofNat 112)]) fun y22 => cnd (ieq y22.snd 0) (af (dw (wr .i64 (aj y1.fst.gen 1))) fun y23 => af (lG y22.fst [(UInt8.ofNat 116),(UInt8.ofNat 109),(UInt8.ofNat 112)] y23) fun y24 => cnd (ieq y24.snd 0) (af (fZ y24.fst (dB.mk (wr .i64 (aj y1.fst.gen 1)) x1.lsn)) fun y25 => af (bG (fun v => aU (len y25.fst.files) y25.fst.files (wr .i64 (aj y1.fst.gen 1)) v.fst v.snd) LF (0,bF.mk y25.fst y25.snd)) fun y26 => cnd (aB (ieq y26.e 0)) (some (y26.d,0,y26.e)) (some (y26.d,wr .i64 (aj y1.fst.gen 1),0))) (af (bG (fun v => aU (len y24.fst.files) y24.fst.files (wr .i64 (aj y1.fst.gen 1)) v.fst v.snd) LF (0,bF.mk y24.fst y24.snd)) fun y27 => cnd (aB (ieq y27.e 0)) (some (y27.d,0,y27.e)) (some (y27.d,wr .i64 (aj y1.fst.gen 1),0)))) (cnd (ieq y22.snd 0) (af (fZ y22.fst (dB.mk (wr .i64 (aj y1.fst.gen 1)) x1.lsn)) fun y28 => af (bG (fun v => aU (len y28.fst.files) y28.fst.files (wr .i64 (aj y1.fst.gen 1)) v.fst v.snd) LF (0,bF.mk y28.fst y28.snd)) fun y29 => cnd (aB (ieq y29.e 0)) (some (y29.d,0,y29.e)) (some (y29.d,wr .i64 (aj y1.fst.gen 1),0))) (af (bG (fun v => aU (len y22.fst.files) y22.fst.files (wr .i64 (aj y1.fst.gen 1)) v.fst v.snd) LF (0,bF.mk y22.fst y22.snd)) fun y30 => cnd (aB (ieq y30.e 0)) (some (y30.d,0,y30.e)) (some (y30.d,wr .i64 (aj y1.fst.gen 1),0))))) (cnd (ieq y3.snd 0) (af (dw (wr .i64 (aj y1.fst.gen 1))) fun y31 => af (lG y3.fst [(UInt8.ofNat 116),(UInt8.ofNat 109),(UInt8.ofNat 112)] y31) fun y32 => cnd (ieq y32.snd 0) (af (fZ y32.fst (dB.mk (wr .i64 (aj y1.fst.gen 1)) x1.lsn)) fun y33 => af (bG (fun v => aU (len y33.fst.files) y33.fst.files (wr .i64 (aj y1.fst.gen 1)) v.fst v.snd) LF (0,bF.mk y33.fst y33.snd)) fun y34 => cnd (aB (ieq y34.e 0)) (some (y34.d,0,y34.e)) (some (y34.d,wr .i64 (aj y1.fst.gen 1),0))) (af (bG (fun v => aU (len y32.fst.files) y32.fst.files (wr .i64 (aj y1.fst.gen 1)) v.fst v.snd) LF (0,bF.mk y32.fst y32.snd)) fun y35 => cnd (aB (ieq y35.e 0)) (some (y35.d,0,y35.e)) (some (y35.d,wr .i64 (aj y1.fst.gen 1),0)))) (cnd (ieq y3.snd 0) (af (fZ y3.fst (dB.mk (wr .i64 (aj y1.fst.gen 1)) x1.lsn)) fun y36 => af (bG (fun v => aU (len y36.fst.files) y36.fst.files (wr .i64 (aj y1.fst.gen 1)) v.fst v.snd) LF (0,bF.mk y36.fst y36.snd)) fun y37 => cnd (aB (ieq y37.e 0)) (some (y37.d,0,y37.e)) (some (y37.d,wr .i64 (aj y1.fst.gen 1),0))) (af (bG (fun v => aU (len y3.fst.files) y3.fst.files (wr .i64 (aj y1.fst.gen 1)) v.fst v.snd) LF (0,bF.mk y3.fst y3.snd)) fun y38 => cnd (aB (ieq y38.e 0)) (some (y38.d,0,y38.e)) (some (y38.d,wr .i64 (aj y1.fst.gen 1),0))))))) (af (lF x0 [(UInt8.ofNat 116),(UInt8.ofNat 109),(UInt8.ofNat 112)] y0.fst) fun y39 => cnd (ieq y39.snd 0) (af (mG y39.fst [(UInt8.ofNat 116),(UInt8.ofNat 109),(UInt8.ofNat 112)]) fun y40 => cnd (ieq y40.snd 0) (af (dw (wr .i64 (aj y1.fst.gen 1))) fun y41 => af (lG y40.fst [(UInt8.ofNat 116),(UInt8.ofNat 109),(UInt8.ofNat 112)] y41) fun y42 => cnd (ieq y42.snd 0) (af (fZ y42.fst (dB.mk (wr .i64 (aj y1.fst.gen 1)) x1.lsn)) fun y43 => af (bG (fun v => aU (len y43.fst.files) y43.fst.files (wr .i64 (aj y1.fst.gen 1)) v.fst v.snd) LF (0,bF.mk y43.fst y43.snd)) fun y44 => cnd (aB (ieq y44.e 0)) (some (y44.d,0,y44.e)) (some (y44.d,wr .i64 (aj y1.fst.gen 1),0))) (af (bG (fun v => aU (len y42.fst.files) y42.fst.files (wr .i64 (aj y1.fst.gen 1)) v.fst v.snd) LF (0,bF.mk y42.fst y42.snd)) fun y45 => cnd (aB (ieq y45.e 0)) (some (y45.d,0,y45.e)) (some (y45.d,wr .i64 (aj y1.fst.gen 1),0)))) (cnd (ieq y40.snd 0) (af (fZ y40.fst (dB.mk (wr .i64 (aj y1.fst.gen 1)) x1.lsn)) fun y46 => af (bG (fun v => aU (len y46.fst.files) y46.fst.files (wr .i64 (aj y1.fst.gen 1)) v.fst v.snd) LF (0,bF.mk y46.fst y46.snd)) fun y47 => cnd (aB (ieq y47.e 0)) (some (y47.d,0,y47.e)) (some (y47.d,wr .i64 (aj y1.fst.gen 1),0))) (af (bG (fun v => aU (len y40.fst.files) y40.fst.files (wr .i64 (aj y1.fst.gen 1)) v.fst v.snd) LF (0,bF.mk y40.fst y40.snd)) fun y48 => cnd (aB (ieq y48.e 0)) (some (y48.d,0,y48.e)) (some (y48.d,wr .i64 (aj y1.fst.gen 1),0))))) (cnd (ieq y39.snd 0) (af (dw (wr .i64 (aj y1.fst.gen 1))) fun y49 => af (lG y39.fst [(UInt8.ofNat 116),(UInt8.ofNat 109),(UInt8.ofNat 112)] y49) fun y50 => cnd (ieq y50.snd 0) (af (fZ y50.fst (dB.mk (wr .i64 (aj y1.fst.gen 1)) x1.lsn)) fun y51 => af (bG (fun v => aU (len y51.fst.files) y51.fst.files (wr .i64 (aj y1.fst.gen 1)) v.fst v.snd) LF (0,bF.mk y51.fst y51.snd)) fun y52 => cnd (aB (ieq y52.e 0)) (some (y52.d,0,y52.e)) (some (y52.d,wr .i64 (aj y1.fst.gen 1),0))) (af (bG (fun v => aU (len y50.fst.files) y50.fst.files (wr .i64 (aj y1.fst.gen 1)) v.fst v.snd) LF (0,bF.mk y50.fst y50.snd)) fun y53 => cnd (aB (ieq y53.e 0)) (some (y53.d,0,y53.e)) (some (y53.d,wr .i64 (aj y1.fst.gen 1),0)))) (cnd (ieq y39.snd 0) (af (fZ y39.fst (dB.mk (wr .i64 (aj y1.fst.gen 1)) x1.lsn)) fun y54 => af (bG (fun v => aU (len y54.fst.files) y54.fst.files (wr .i64 (aj y1.fst.gen 1)) v.fst v.snd) LF (0,bF.mk y54.fst y54.snd)) fun y55 => cnd (aB (ieq y55.e 0)) (some (y55.d,0,y55.e)) (some (y55.d,wr .i64 (aj y1.fst.gen 1),0))) (af (bG (fun v => aU (len y39.fst.files) y39.fst.files (wr .i64 (aj y1.fst.gen 1)) v.fst v.snd) LF (0,bF.mk y39.fst y39.snd)) fun y56 => cnd (aB (ieq y56.e 0)) (some (y56.d,0,y56.e)) (some (y56.d,wr .i64 (aj y1.fst.gen 1),0))))))))))
theorem QL:oq=AU:=by
 funext a0 a1
 unfold oq AU
 simp only[wL,BK,FB,ET,Jq,Qi,QO,IV]
def Aq:Option (Bool):=af (KI 1 1 (dL.mk 9 9 99) 99) fun y0 => af (Nv y0.fst (uK.mk 1 5 0 0 2 3 2 0 0 0 false 0 0)) fun y1 => af (Af (ai.mk [] 999 (-1) false)) fun y2 => af (AU (ai.mk [] 999 (-1) false) y0.fst) fun y3 => af (AU y3.fst y1.fst) fun y4 => af (Af y4.fst) fun y5 => af (cnd (band (band (band (band (band (band (ieq y2.snd.snd 7) (ieq y3.snd.snd 0)) (ieq y4.snd.snd 0)) (ieq y5.snd.snd 0)) (ieq y3.snd.fst 1)) (ieq y4.snd.fst 2)) (ieq y5.snd.fst 2)) (qQ y1.fst y5.fst) (some false)) fun y6 => af (cnd (band (band (band (band (band (band (band (band (band (ieq y2.snd.snd 7) (ieq y3.snd.snd 0)) (ieq y4.snd.snd 0)) (ieq y5.snd.snd 0)) (ieq y3.snd.fst 1)) (ieq y4.snd.fst 2)) (ieq y5.snd.fst 2)) y6) (ieq (len y5.fst.orders) 1)) (ieq (len y4.fst.files) 3)) (dw 7) (some [])) fun y7 => some (band (band (band (band (band (band (band (band (band (band (ieq y2.snd.snd 7) (ieq y3.snd.snd 0)) (ieq y4.snd.snd 0)) (ieq y5.snd.snd 0)) (ieq y3.snd.fst 1)) (ieq y4.snd.fst 2)) (ieq y5.snd.fst 2)) y6) (ieq (len y5.fst.orders) 1)) (ieq (len y4.fst.files) 3)) (seq y7 [(UInt8.ofNat 115),(UInt8.ofNat 110),(UInt8.ofNat 97),(UInt8.ofNat 112),(UInt8.ofNat 46),(UInt8.ofNat 48),(UInt8.ofNat 48),(UInt8.ofNat 48),(UInt8.ofNat 48),(UInt8.ofNat 48),(UInt8.ofNat 48),(UInt8.ofNat 48),(UInt8.ofNat 48),(UInt8.ofNat 48),(UInt8.ofNat 55)]))
theorem Gx:kP=Aq:=by
 unfold kP Aq
 simp only[WR,RN,QL]
theorem ajk:kP=some true:=by rw[Gx];kernel_rfl
theorem akf {d:ai} (h:SI d):uV d:=fun f hf=>ahA (h.files.1 f hf).data
theorem agp {d:ai} (h:SI d) (hs:d.files.length<=70/\∀f∈d.files,f.name.length<=100/\f.data.length<=70000):LP d:=
 ⟨fun f hf=>by have:=(hs.2 f hf).1;omega,h.fuse⟩
structure UpD (d:ai):Prop where
 right:iD d
 up:d.down=false
structure WY (d e:ai) (c:Int):Prop where
 code:(c=0/\e.down=false)\/(c=9/\e.down=true/\d.fuse≠ -1)
 fuse:d.fuse= -1->e.fuse= -1
 keep:Keep d e
theorem WY.up {d e:ai} {c:Int} (h:WY d e c) (hc:c=0):UpD e:=⟨h.keep.right,by rcases h.code with g | g;exact g.2;rw[hc]at g;exact absurd g.1 (by decide)⟩
theorem WY.cases {d e:ai} {c:Int} (h:WY d e c):c=0\/(c=9/\e.down=true/\d.fuse≠ -1):=h.code.imp (·.1) id
theorem UpD.first {d:ai} (h:UpD d) {ns:List Nm} (hn:∀n∈ns,jK n):ja d ns=0:=kW.2 ⟨h.right,h.up,hn⟩
theorem Oi {d:ai} (h:UpD d):((bT d).2=true/\(bT d).1.down=false)\/((bT d).2=false/\(bT d).1.down=true/\d.fuse≠ -1):=by
 have:=Qa d
 have hu:=h.up
 rcases this with ⟨h0,h1,h2,h3⟩ | ⟨h1,h2,h3,h4⟩
 ·exact .inr ⟨h3,h2,by omega⟩
 ·exact .inl ⟨h4,by rw[h3,hu]⟩
theorem Gl {d:ai} (h:d.fuse= -1):bT d=(d,true):=by unfold bT;rw[if_neg (by omega),if_pos h]
theorem SV {d:ai} {n:Nm} {b:List Int} (h:UpD d) (hn:jK n):
 ((dQ d n b).2=6/\(dQ d n b).1=d/\(d.room<(eP d.files:Int)+(b.length:Int)\/(bI d.files n=none/\64<=d.files.length)))\/
 (WY d (dQ d n b).1 (dQ d n b).2/\(∀m,bI (dQ d n b).1.files m=if m=n then some ⟨n,((bI d.files n).getD ⟨n,[],0⟩).data++b,((bI d.files n).getD ⟨n,[],0⟩).sure⟩else bI d.files m)/\
   eP (dQ d n b).1.files=eP d.files+b.length/\(dQ d n b).1.files.length<=d.files.length+1):=by
 have hk:=CZ (n:=n) (b:=b) h.right
 have h0:=h.first (BH hn)
 unfold dQ at hk ⊢
 rw[if_neg (fun g=>g h0)]at hk ⊢
 by_cases hc:d.room<(eP d.files:Int)+(b.length:Int)\/(bI d.files n=none/\64<=d.files.length)
 ·rw[if_pos hc];exact .inl ⟨rfl,rfl,hc⟩
 rw[if_neg hc]at hk ⊢
 right
 obtain⟨i,o,hs⟩:=kV h.right.asc (by have:=h.right.fl;omega) n
 generalize hF:(⟨n,((bI d.files n).getD ⟨n,[],0⟩).data++b,((bI d.files n).getD ⟨n,[],0⟩).sure⟩:ak)=F at hk ⊢
 have hFn:F.name=n:=by rw[<-hF]
 have g1:=hs.used F hFn
 have g2:=hs.long F hFn
 have hup:(CJ d F).down=false:=h.up
 have hold:F.data.length=OX o+b.length:=by
  rw[<-hF,<-hs.get]
  cases bI d.files n<;>simp [OX]
 refine⟨⟨?_,?_,hk⟩,fun m=> ?_,?_,?_⟩
 ·have hsf:=Qa (CJ d F)
  rcases hsf with ⟨q0,q1,q2,q3⟩ | ⟨q1,q2,q3,q4⟩
  ·right;unfold agu;rw[q3];exact⟨rfl,q2,by have:d.fuse=0:=q0;omega⟩
  ·left;unfold agu;rw[q4];exact⟨rfl,by rw[q3];exact hup⟩
 ·intro hf
  rw[IL,Gl (show(CJ d F).fuse= -1 from hf)];exact hf
 ·rw[IL,bD]
  show bI (pq F d.files) m=_
  rw[get_put,hFn]
 ·rw[IL,bD]
  show eP (pq F d.files)=_
  omega
 ·rw[IL,bD]
  show(pq F d.files).length<=_
  rw[g2];split<;>omega
theorem WJ {d:ai} {n:Nm} {f:ak} (h:UpD d) (hn:jK n) (hg:bI d.files n=some f):
 WY d (pO d n).1 (pO d n).2/\((pO d n).2=0->∀m,bI (pO d n).1.files m=if m=n then some ⟨n,f.data,len f.data⟩else bI d.files m)/\((pO d n).2≠0->(pO d n).1.files=d.files)/\
  eP (pO d n).1.files=eP d.files/\(pO d n).1.files.length=d.files.length:=by
 have hk:=Oq (n:=n) h.right
 have h0:=h.first (BH hn)
 unfold pO at hk ⊢
 rw[if_neg (fun g=>g h0),hg]at hk ⊢
 simp only at hk ⊢
 obtain⟨i,o,hs⟩:=kV h.right.asc (by have:=h.right.fl;omega) n
 have g1:=hs.used ⟨n,f.data,len f.data⟩ rfl
 have g2:=hs.long ⟨n,f.data,len f.data⟩ rfl
 have ho:=hs.get
 rw[hg]at ho
 subst ho
 rcases Oi h with ⟨q1,q2⟩ | ⟨q1,q2,q3⟩
 ·rw[if_pos q1]at hk ⊢
  refine⟨⟨.inl ⟨rfl,q2⟩,fun hf=> ?_,hk⟩,fun _ m=> ?_,fun g=>absurd rfl g,?_,?_⟩
  ·rw[Gl hf];exact hf
  ·show bI (pq _ (bT d).1.files) m=_
   rw[bD,get_put]
  ·show eP (pq _ (bT d).1.files)=_
   rw[bD];simp only[OX]at g1;omega
  ·show(pq _ (bT d).1.files).length=_
   rw[bD,g2];simp
 ·rw[if_neg (by rw[q1];decide)]at hk ⊢
  refine⟨⟨.inr ⟨rfl,q2,q3⟩,fun hf=>absurd hf q3,hk⟩,fun g=>absurd g (show ¬(9:Int)=0 by decide),fun _=>bD d,?_,?_⟩
  ·rw[bD]
  ·rw[bD]
theorem RD {d:ai} {n:Nm} {f:ak} (h:UpD d) (hn:jK n) (hg:bI d.files n=some f):
 WY d (jX d n).1 (jX d n).2/\((jX d n).2=0->∀m,bI (jX d n).1.files m=if m=n then none else bI d.files m)/\((jX d n).2≠0->(jX d n).1.files=d.files)/\
  eP (jX d n).1.files<=eP d.files/\(jX d n).1.files.length<=d.files.length:=by
 have hk:=G9 (n:=n) h.right
 have h0:=h.first (BH hn)
 unfold jX at hk ⊢
 rw[if_neg (fun g=>g h0),hg]at hk ⊢
 simp only at hk ⊢
 obtain⟨i,o,hs⟩:=kV h.right.asc (by have:=h.right.fl;omega) n
 have g1:=hs.usedD
 have g2:=Xw n d.files
 rcases Oi h with ⟨q1,q2⟩ | ⟨q1,q2,q3⟩
 ·rw[if_pos q1]at hk ⊢
  refine⟨⟨.inl ⟨rfl,q2⟩,fun hf=> ?_,hk⟩,fun _ m=> ?_,fun g=>absurd rfl g,?_,?_⟩
  ·rw[Gl hf];exact hf
  ·show bI (wH _ (bT d).1.files) m=_
   rw[bD,V7]
  ·show eP (wH _ (bT d).1.files)<=_
   rw[bD];omega
  ·show(wH _ (bT d).1.files).length<=_
   rw[bD];exact g2
 ·rw[if_neg (by rw[q1];decide)]at hk ⊢
  refine⟨⟨.inr ⟨rfl,q2,q3⟩,fun hf=>absurd hf q3,hk⟩,fun g=>absurd g (show ¬(9:Int)=0 by decide),fun _=>bD d,?_,?_⟩
  ·rw[bD];exact Nat.le_refl _
  ·rw[bD];exact Nat.le_refl _
theorem abC {d:ai} {a b:Nm} {f:ak} (h:UpD d) (ha:jK a) (hb:jK b) (hg:bI d.files a=some f):
 WY d (kE d a b).1 (kE d a b).2/\((kE d a b).2=0->∀m,bI (kE d a b).1.files m=if m=b then some ⟨b,f.data,f.sure⟩else if m=a then none else bI d.files m)/\((kE d a b).2≠0->(kE d a b).1.files=d.files)/\
  eP (kE d a b).1.files<=eP d.files/\(kE d a b).1.files.length<=d.files.length:=by
 have hk:=Nh (a:=a) (b:=b) h.right
 have h0:=h.first (ns:=[a,b]) (by intro n hn;simp at hn;rcases hn with rfl | rfl<;>assumption)
 unfold kE at hk ⊢
 rw[if_neg (fun g=>g h0),hg]at hk ⊢
 simp only at hk ⊢
 obtain⟨i,o,hs⟩:=kV h.right.asc (by have:=h.right.fl;omega) a
 have g1:=hs.usedD
 have ho:=hs.get
 rw[hg]at ho
 subst ho
 have hd:=hs.del
 obtain⟨hil,-, -⟩:=hs.lt
 have hlen:(wH a d.files).length=d.files.length - 1:=by rw[<-hd,List.length_eraseIdx_of_lt hil]
 obtain⟨j,o2,hs2⟩:=kV (abN (n:=a) h.right.asc) (by have:=h.right.fl;omega) b
 have g3:=hs2.used ⟨b,f.data,f.sure⟩ rfl
 have g4:=hs2.long ⟨b,f.data,f.sure⟩ rfl
 rcases Oi h with ⟨q1,q2⟩ | ⟨q1,q2,q3⟩
 ·rw[if_pos q1]at hk ⊢
  refine⟨⟨.inl ⟨rfl,q2⟩,fun hf=> ?_,hk⟩,fun _ m=> ?_,fun g=>absurd rfl g,?_,?_⟩
  ·rw[Gl hf];exact hf
  ·show bI (pq _ (wH a (bT d).1.files)) m=_
   rw[bD,get_put,V7]
  ·show eP (pq _ (wH a (bT d).1.files))<=_
   rw[bD];simp only[OX]at g1 g3;omega
  ·show(pq _ (wH a (bT d).1.files)).length<=_
   rw[bD,g4];split<;>omega
 ·rw[if_neg (by rw[q1];decide)]at hk ⊢
  refine⟨⟨.inr ⟨rfl,q2,q3⟩,fun hf=>absurd hf q3,hk⟩,fun g=>absurd g (show ¬(9:Int)=0 by decide),fun _=>bD d,?_,?_⟩
  ·rw[bD];exact Nat.le_refl _
  ·rw[bD];exact Nat.le_refl _
theorem agV {d:ai} {n:Nm} {f:ak} (h:UpD d) (hn:jK n) (hg:bI d.files n=some f):
 WY d (DN d n 0).1 (DN d n 0).2/\((DN d n 0).2=0->∀m,bI (DN d n 0).1.files m=if m=n then some ⟨n,[],0⟩else bI d.files m)/\((DN d n 0).2≠0->(DN d n 0).1.files=d.files)/\
  eP (DN d n 0).1.files<=eP d.files/\(DN d n 0).1.files.length=d.files.length:=by
 have hk:=WA (n:=n) (k:=0) h.right
 have h0:=h.first (BH hn)
 have hs0:=(XH h.right hg).1.2.1
 unfold DN at hk ⊢
 rw[if_neg (fun g=>g h0),hg]at hk ⊢
 simp only at hk ⊢
 have hno:¬((0:Int)<0\/len f.data<0):=by simp only[len];omega
 have hsu:(if (0:Int)<f.sure then 0 else f.sure)=0:=by split<;>omega
 rw[if_neg hno,hsu,show(0:Int).toNat=0 from rfl,List.take_zero]at hk ⊢
 obtain⟨i,o,hs⟩:=kV h.right.asc (by have:=h.right.fl;omega) n
 have g1:=hs.used ⟨n,[],0⟩ rfl
 have g2:=hs.long ⟨n,[],0⟩ rfl
 have ho:=hs.get
 rw[hg]at ho
 subst ho
 rcases Oi h with ⟨q1,q2⟩ | ⟨q1,q2,q3⟩
 ·rw[if_pos q1]at hk ⊢
  refine⟨⟨.inl ⟨rfl,q2⟩,fun hf=> ?_,hk⟩,fun _ m=> ?_,fun g=>absurd rfl g,?_,?_⟩
  ·rw[Gl hf];exact hf
  ·show bI (pq _ (bT d).1.files) m=_
   rw[bD,get_put]
  ·show eP (pq _ (bT d).1.files)<=_
   rw[bD];simp only[OX,List.length_nil]at g1;omega
  ·show(pq _ (bT d).1.files).length=_
   rw[bD,g2];simp
 ·rw[if_neg (by rw[q1];decide)]at hk ⊢
  refine⟨⟨.inr ⟨rfl,q2,q3⟩,fun hf=>absurd hf q3,hk⟩,fun g=>absurd g (show ¬(9:Int)=0 by decide),fun _=>bD d,?_,?_⟩
  ·rw[bD];exact Nat.le_refl _
  ·rw[bD]
theorem akN:fD≠n0:=by decide
theorem akP:fD≠n1:=by decide
theorem abz {g:Int} (h:wM g) {n:Nm} (hn:n.length≠15):iV g≠n:=fun e=>hn (by rw[<-e];exact TA h)
theorem abO (g:Int):(nmS g).length=6:=by unfold nmS;split<;>rfl
theorem abn (g:Int):nmS g≠fD:=fun e=>by have:=abO g;rw[e]at this;exact absurd this (by decide)
theorem afk:pJ lm fD=0:=by decide
theorem alE:pJ lm n0=0:=by decide
theorem alF:pJ lm n1=0:=by decide
theorem afG (g:Int):pJ lm (nmS g)=0:=by unfold nmS;split;exact alE;exact alF
structure DY (D x:ai):Prop where
 oth:∀n,n≠fD->bI x.files n=bI D.files n
structure YK (D:ai) (gen:Int) (b w:List Int) (x:ai):Prop where
 oth:∀n,n≠fD->n≠iV gen->n≠nmS gen->bI x.files n=bI D.files n
 snap:bI x.files (iV gen)=some ⟨iV gen,b,len b⟩
 slot:bI x.files (nmS gen)=bI D.files (nmS gen)\/∃f,bI x.files (nmS gen)=some f/\f.sure=0/\(f.data=[]\/f.data=w)
structure NS (D:ai) (gen:Int) (b w:List Int) (x:ai):Prop where
 oth:∀n,n≠fD->n≠nmS gen->pJ lm n=0->bI x.files n=bI D.files n
 snap:bI x.files (iV gen)=some ⟨iV gen,b,len b⟩
 slot:bI x.files (nmS gen)=some ⟨nmS gen,w,len w⟩
 olds:∀n,pJ lm n≠0->n≠iV gen->bI x.files n=none\/bI x.files n=bI D.files n
 tmp:bI x.files fD=none
structure DT (D x:ai) (m k:Nat):Prop where
 keep:Keep D x
 fuse:D.fuse= -1->x.fuse= -1
 used:eP x.files<=eP D.files+m
 long:x.files.length<=D.files.length+k
def amn (D:ai) (m:Nat):Prop:=D.room<(eP D.files:Int)+(m:Int)+20\/63<=D.files.length
def PO (D:ai) (m:Nat) (c:Int):Prop:=(c=6/\amn D m)\/(c=9/\D.fuse≠ -1)
theorem PO.ne {D:ai} {m:Nat} {c:Int} (h:PO D m c):c≠0:=by
 rcases h with ⟨h, -⟩ | ⟨h, -⟩<;>rw[h]<;>decide
theorem DT.pow {D x y:ai} {m k m' k':Nat} {c:Int} (h:DT D x m k) (p:WY x y c) (hu:eP y.files<=eP D.files+m') (hl:y.files.length<=D.files.length+k'):DT D y m' k':=
 ⟨h.keep.trans p.keep,fun hf=>p.fuse (h.fuse hf),hu,hl⟩
theorem JJ {D x y:ai} {m k:Nat} {c:Int} (h:DT D x m k) (p:WY x y c) (hc:c≠0) (mm:Nat):PO D mm c:=by
 rcases p.cases with g | ⟨g,-, g2⟩
 ·exact absurd g hc
 ·exact .inr ⟨g,fun hf=>g2 (h.fuse hf)⟩
theorem amz {D:ai} (h:UpD D) (m:Nat):DT D (xq D).1 0 0/\DY D (xq D).1/\(((xq D).2=0/\(xq D).1.down=false/\bI (xq D).1.files fD=none)\/PO D m (xq D).2):=by
 have run0:DT D D 0 0:=⟨Keep.refl h.right,id,Nat.le_refl _,Nat.le_refl _⟩
 unfold xq
 cases hg:bI D.files fD with
 |none=>rw[if_pos rfl];exact⟨run0,⟨fun n _=>rfl⟩,.inl ⟨rfl,h.up,hg⟩⟩
 |some f=>
  rw[if_neg (by intro e;cases e)]
  obtain⟨hp,h1,h2,h3,h4⟩:=RD h oJ hg
  refine⟨run0.pow hp (by omega) (by omega),⟨fun n hn=> ?_⟩,?_⟩
  ·by_cases hc:(jX D fD).2=0
   ·rw[h1 hc n,if_neg hn]
   ·rw[h2 hc]
  ·by_cases hc:(jX D fD).2=0
   ·left;exact⟨hc,(hp.up hc).up,by rw[h1 hc,if_pos rfl]⟩
   ·right;exact JJ run0 hp hc m
theorem amF {D:ai} {p:ai×Int} {b:List Int} (hr:DT D p.1 0 0) (hA:DY D p.1) (hc:(p.2=0/\p.1.down=false/\bI p.1.files fD=none)\/PO D b.length p.2):
 DT D (kL p fun d=>dQ d fD b).1 b.length 1/\DY D (kL p fun d=>dQ d fD b).1/\
 (((kL p fun d=>dQ d fD b).2=0/\(kL p fun d=>dQ d fD b).1.down=false/\bI (kL p fun d=>dQ d fD b).1.files fD=some ⟨fD,b,0⟩)\/PO D b.length (kL p fun d=>dQ d fD b).2):=by
 have hr1:DT D p.1 b.length 1:=⟨hr.keep,hr.fuse,by have:=hr.used;omega,by have:=hr.long;omega⟩
 rcases hc with ⟨h0,hw,hg⟩ | hb
 case inr=>rw[fV hb.ne];exact⟨hr1,hA,.inr hb⟩
 rw[then_ok h0]
 have hu:UpD p.1:=⟨hr.keep.right,hw⟩
 rcases SV (b:=b) hu oJ with ⟨a1,a2,a3⟩ | ⟨a1,a2,a3,a4⟩
 ·refine⟨by rw[a2];exact hr1,by rw[a2];exact hA,.inr (.inl ⟨a1,?_⟩)⟩
  have:=hr.used;have:=hr.long;have:=hr.keep.room
  rcases a3 with g | ⟨-, g⟩
  ·left;omega
  ·right;omega
 ·refine⟨hr.pow a1 (by have:=hr.used;omega) (by have:=hr.long;omega),⟨fun n hn=> ?_⟩,?_⟩
  ·rw[a2,if_neg hn];exact hA.oth n hn
  ·by_cases hc:(dQ p.1 fD b).2=0
   ·left;exact⟨hc,(a1.up hc).up,by rw[a2,if_pos rfl,hg];rfl⟩
   ·right;exact JJ hr a1 hc _
theorem alZ {D:ai} {p:ai×Int} {b:List Int} (hr:DT D p.1 b.length 1) (hA:DY D p.1) (hc:(p.2=0/\p.1.down=false/\bI p.1.files fD=some ⟨fD,b,0⟩)\/PO D b.length p.2):
 DT D (kL p fun d=>pO d fD).1 b.length 1/\DY D (kL p fun d=>pO d fD).1/\
 (((kL p fun d=>pO d fD).2=0/\(kL p fun d=>pO d fD).1.down=false/\bI (kL p fun d=>pO d fD).1.files fD=some ⟨fD,b,len b⟩)\/PO D b.length (kL p fun d=>pO d fD).2):=by
 rcases hc with ⟨h0,hw,hg⟩ | hb
 case inr=>rw[fV hb.ne];exact⟨hr,hA,.inr hb⟩
 rw[then_ok h0]
 have hu:UpD p.1:=⟨hr.keep.right,hw⟩
 obtain⟨a1,a2,a3,a4,a5⟩:=WJ hu oJ hg
 refine⟨hr.pow a1 (by have:=hr.used;omega) (by have:=hr.long;omega),⟨fun n hn=> ?_⟩,?_⟩
 ·by_cases hc:(pO p.1 fD).2=0
  ·rw[a2 hc,if_neg hn];exact hA.oth n hn
  ·rw[a3 hc];exact hA.oth n hn
 ·by_cases hc:(pO p.1 fD).2=0
  ·left;exact⟨hc,(a1.up hc).up,by rw[a2 hc,if_pos rfl]⟩
  ·right;exact JJ hr a1 hc _
structure V4 (D:ai) (gen:Int) (b:List Int) (x:ai):Prop where
 oth:∀n,n≠fD->n≠iV gen->bI x.files n=bI D.files n
 snap:bI x.files (iV gen)=some ⟨iV gen,b,len b⟩
 tmp:bI x.files fD=none
theorem walk3 {D:ai} {p:ai×Int} {b:List Int} {gen:Int} (hG:wM gen) (hr:DT D p.1 b.length 1) (hA:DY D p.1) (hc:(p.2=0/\p.1.down=false/\bI p.1.files fD=some ⟨fD,b,len b⟩)\/PO D b.length p.2):
 DT D (kL p fun d=>kE d fD (iV gen)).1 b.length 1/\
 (((kL p fun d=>kE d fD (iV gen)).2=0/\(kL p fun d=>kE d fD (iV gen)).1.down=false/\V4 D gen b (kL p fun d=>kE d fD (iV gen)).1)\/
  (DY D (kL p fun d=>kE d fD (iV gen)).1/\PO D b.length (kL p fun d=>kE d fD (iV gen)).2)):=by
 rcases hc with ⟨h0,hw,hg⟩ | hb
 case inr=>rw[fV hb.ne];exact⟨hr,.inr ⟨hA,hb⟩⟩
 rw[then_ok h0]
 have hu:UpD p.1:=⟨hr.keep.right,hw⟩
 have hne:iV gen≠fD:=abz hG (by decide)
 obtain⟨a1,a2,a3,a4,a5⟩:=abC hu oJ (UI hG) hg
 refine⟨hr.pow a1 (by have:=hr.used;omega) (by have:=hr.long;omega),?_⟩
 by_cases hc:(kE p.1 fD (iV gen)).2=0
 ·left
  refine⟨hc,(a1.up hc).up,⟨fun n h1 h2=> ?_,?_,?_⟩⟩
  ·rw[a2 hc,if_neg h2,if_neg h1];exact hA.oth n h1
  ·rw[a2 hc,if_pos rfl]
  ·rw[a2 hc,if_neg (Ne.symm hne),if_pos rfl]
 ·right
  exact⟨⟨fun n hn=>by rw[a3 hc];exact hA.oth n hn⟩,JJ hr a1 hc _⟩
theorem V4.ct {D x:ai} {gen:Int} {b:List Int} (hG:wM gen) (h:V4 D gen b x) {n:Nm} (h1:n≠fD) (h2:n.length≠15):bI x.files n=bI D.files n:=h.oth n h1 (Ne.symm (abz hG h2))
theorem walk4 {D:ai} {p:ai×Int} {b:List Int} {gen lsn:Int} (hD:UpD D) (hG:wM gen) (hs:EY ⟨gen,lsn⟩) (hgen:gen=(dZ D).1.gen+1) (hr:DT D p.1 b.length 1)
 (hc:(p.2=0/\p.1.down=false/\V4 D gen b p.1)\/(DY D p.1/\PO D b.length p.2)):
 DT D (kL p fun d=>Az d ⟨gen,lsn⟩).1 (b.length+20) 2/\
 (((kL p fun d=>Az d ⟨gen,lsn⟩).2=0/\(kL p fun d=>Az d ⟨gen,lsn⟩).1.down=false/\NS D gen b (Ac ⟨gen,lsn⟩) (kL p fun d=>Az d ⟨gen,lsn⟩).1)\/
  ((DY D (kL p fun d=>Az d ⟨gen,lsn⟩).1\/YK D gen b (Ac ⟨gen,lsn⟩) (kL p fun d=>Az d ⟨gen,lsn⟩).1)/\PO D b.length (kL p fun d=>Az d ⟨gen,lsn⟩).2)):=by
 have hr1:DT D p.1 (b.length+20) 2:=⟨hr.keep,hr.fuse,by have:=hr.used;omega,by have:=hr.long;omega⟩
 rcases hc with ⟨h0,hw,hB⟩ | ⟨hA,hb⟩
 case inr=>rw[fV hb.ne];exact⟨hr1,.inr ⟨.inl hA,hb⟩⟩
 rw[then_ok h0]
 have hu:UpD p.1:=⟨hr.keep.right,hw⟩
 generalize p.1=x at hr hr1 hB hu ⊢
 clear h0 hw
 have c0:ctF x.files n0=ctF D.files n0:=by unfold ctF;rw[hB.ct hG (Ne.symm akN) (by decide)]
 have c1:ctF x.files n1=ctF D.files n1:=by unfold ctF;rw[hB.ct hG (Ne.symm akP) (by decide)]
 obtain⟨r1,r2⟩:=Ht hu.right hu.up
 obtain⟨q1,q2⟩:=Ht hD.right hD.up
 have hz:zo x.files=zo D.files:=by unfold zo;rw[c0,c1]
 have hn1:(dZ x).2≠1:=by rcases r2 with ⟨g, -⟩ | ⟨g, -⟩<;>rw[g]<;>decide
 have hn9:(dZ x).2≠9:=by rcases r2 with ⟨g, -⟩ | ⟨g, -⟩<;>rw[g]<;>decide
 have hw:Az x ⟨gen,lsn⟩=agb x (nmS gen) (Ac ⟨gen,lsn⟩):=by
  unfold Az
  rw[if_neg (fun g=>g.elim (fun g=>g hs) hn1),if_neg hn9,if_neg (fun g=>g (by simp only;rw[r1,hz,<-q1];exact hgen))]
 rw[hw]
 have hnm:=ZN gen
 have hwl:=Zq ⟨gen,lsn⟩
 generalize Ac ⟨gen,lsn⟩=w at hwl ⊢
 have hsl:=hB.ct hG (abn gen) (by rw[abO];decide)
 have hne:iV gen≠nmS gen:=abz hG (by rw[abO];decide)
 have s0:DT D (uP x (nmS gen)).1 b.length 1/\(∀n,n≠nmS gen->bI (uP x (nmS gen)).1.files n=bI x.files n)/\
  (((uP x (nmS gen)).2=0/\(uP x (nmS gen)).1.down=false/\(bI (uP x (nmS gen)).1.files (nmS gen)=none\/bI (uP x (nmS gen)).1.files (nmS gen)=some ⟨nmS gen,[],0⟩))\/
   (PO D b.length (uP x (nmS gen)).2))/\(bI (uP x (nmS gen)).1.files (nmS gen)=bI x.files (nmS gen)\/bI (uP x (nmS gen)).1.files (nmS gen)=some ⟨nmS gen,[],0⟩):=by
  unfold uP
  cases hg:bI x.files (nmS gen)with
  |none=>rw[if_pos rfl];exact⟨hr,fun _ _=>rfl,.inl ⟨rfl,hu.up,.inl hg⟩,.inl hg⟩
  |some f=>
   rw[if_neg (by intro e;cases e)]
   obtain⟨a1,a2,a3,a4,a5⟩:=agV hu hnm hg
   refine⟨hr.pow a1 (by have:=hr.used;omega) (by have:=hr.long;omega),fun n hn=> ?_,?_,?_⟩
   ·by_cases hc:(DN x (nmS gen) 0).2=0
    ·rw[a2 hc,if_neg hn]
    ·rw[a3 hc]
   ·by_cases hc:(DN x (nmS gen) 0).2=0
    ·left;exact⟨hc,(a1.up hc).up,.inr (by rw[a2 hc,if_pos rfl])⟩
    ·right;exact JJ hr a1 hc _
   ·by_cases hc:(DN x (nmS gen) 0).2=0
    ·right;rw[a2 hc,if_pos rfl]
    ·left;rw[a3 hc];exact hg
 obtain⟨s1,s2,s3,s4⟩:=s0
 unfold agb
 generalize uP x (nmS gen)=y at s1 s2 s3 s4 ⊢
 have toB:∀z:ai,(∀n,n≠nmS gen->bI z.files n=bI x.files n)->(bI z.files (nmS gen)=bI x.files (nmS gen)\/∃f,bI z.files (nmS gen)=some f/\f.sure=0/\(f.data=[]\/f.data=w))->YK D gen b w z:=fun z g1 g2=>
  ⟨fun n h1 h2 h3=>by rw[g1 n h3];exact hB.oth n h1 h2,by rw[g1 _ hne];exact hB.snap,g2.imp (fun g=>by rw[g,hsl]) id⟩
 have s4':bI y.1.files (nmS gen)=bI x.files (nmS gen)\/∃f,bI y.1.files (nmS gen)=some f/\f.sure=0/\(f.data=[]\/f.data=w):=s4.imp id fun g=>⟨_,g,rfl,.inl rfl⟩
 have s1':DT D y.1 (b.length+20) 2:=⟨s1.keep,s1.fuse,by have:=s1.used;omega,by have:=s1.long;omega⟩
 rcases s3 with ⟨g0,gw,gs⟩ | gb
 case inr=>
  rw[fV gb.ne,fV gb.ne]
  exact⟨s1',.inr ⟨.inr (toB _ s2 s4'),gb⟩⟩
 rw[then_ok (p:=y) g0]
 have hyu:UpD y.1:=⟨s1.keep.right,gw⟩
 have hold:(bI y.1.files (nmS gen)).getD ⟨nmS gen,[],0⟩=⟨nmS gen,[],0⟩:=by
  rcases gs with g | g<;>rw[g]<;>rfl
 rcases SV (b:=w) hyu hnm with ⟨a1,a2,a3⟩ | ⟨a1,a2,a3,a4⟩
 ·rw[fV (by rw[a1];decide)]
  refine⟨by rw[a2];exact s1',.inr ⟨.inr (by rw[a2];exact toB _ s2 s4'),.inl ⟨a1,?_⟩⟩⟩
  have:=s1.used;have:=s1.long;have:=s1.keep.room
  rcases a3 with g | ⟨-, g⟩
  ·left;omega
  ·right;omega
 rw[hold]at a2
 simp only[List.nil_append]at a2
 have t1:DT D (dQ y.1 (nmS gen) w).1 (b.length+20) 2:=s1.pow a1 (by have:=s1.used;omega) (by have:=s1.long;omega)
 have t2:∀n,n≠nmS gen->bI (dQ y.1 (nmS gen) w).1.files n=bI x.files n:=fun n hn=>by rw[a2,if_neg hn];exact s2 n hn
 have t3:bI (dQ y.1 (nmS gen) w).1.files (nmS gen)=some ⟨nmS gen,w,0⟩:=by rw[a2,if_pos rfl]
 by_cases hc:(dQ y.1 (nmS gen) w).2=0
 case neg=>
  rw[fV hc]
  exact⟨t1,.inr ⟨.inr (toB _ t2 (.inr ⟨_,t3,rfl,.inr rfl⟩)),JJ s1 a1 hc _⟩⟩
 rw[then_ok hc]
 have hzu:=a1.up hc
 obtain⟨b1,b2,b3,b4,b5⟩:=WJ hzu hnm t3
 have u1:DT D (pO (dQ y.1 (nmS gen) w).1 (nmS gen)).1 (b.length+20) 2:=t1.pow b1 (by have:=t1.used;omega) (by have:=t1.long;omega)
 refine⟨u1,?_⟩
 by_cases hc2:(pO (dQ y.1 (nmS gen) w).1 (nmS gen)).2=0
 ·left
  refine⟨hc2,(b1.up hc2).up,⟨fun n h1 h2 h3=> ?_,?_,?_,fun n h1 h2=> .inr ?_,?_⟩⟩
  ·rw[b2 hc2,if_neg h2,t2 n h2]
   by_cases e:n=iV gen
   ·rw[e,TN hG]at h3;unfold wM at hG;omega
   ·exact hB.oth n h1 e
  ·rw[b2 hc2,if_neg hne,t2 _ hne];exact hB.snap
  ·rw[b2 hc2,if_pos rfl]
  ·have hns:n≠nmS gen:=fun e=>h1 (by rw[e];exact afG gen)
   have hnt:n≠fD:=fun e=>h1 (by rw[e];exact afk)
   rw[b2 hc2,if_neg hns,t2 n hns];exact hB.oth n hnt h2
  ·rw[b2 hc2,if_neg (Ne.symm (abn gen)),t2 _ (Ne.symm (abn gen))];exact hB.tmp
 ·right
  exact⟨.inr (toB _ (fun n hn=>by rw[b3 hc2];exact t2 n hn) (.inr ⟨_,by rw[b3 hc2];exact t3,rfl,.inr rfl⟩)),JJ t1 b1 hc2 _⟩
theorem ZJ {l:List ak} {f:ak} (h:H9 (f::l)):∀g∈l,g.name≠f.name:=fun g hg=>(Qs ((List.pairwise_cons.1 h).1 g hg)).symm
theorem get_mem {l:List ak} (h:H9 l) {f:ak} (hf:f∈l):bI l f.name=some f:=by
 induction l with
 |nil=>cases hf
 |cons g l ih=>
  rw[nM]
  rcases List.mem_cons.1 hf with rfl | hf
  ·rw[if_pos rfl]
  ·rw[if_neg (fun e=>ZJ h f hf e.symm)]
   exact ih (List.pairwise_cons.1 h).2 hf
theorem PV {D:ai} {gen:Int} {b w:List Int} {M K:Nat} (hG:wM gen):∀(l:List ak) (p:ai×Int),H9 l->(∀f∈l,jK f.name)->DT D p.1 M K->p.2=0->p.1.down=false->NS D gen b w p.1->
 (∀f∈l,pJ lm f.name≠0->f.name≠iV gen->bI p.1.files f.name≠none)->
 DT D (og gen p l).1 M K/\NS D gen b w (og gen p l).1/\
 (((og gen p l).2=0/\(og gen p l).1.down=false/\(∀f∈l,pJ lm f.name≠0->f.name≠iV gen->bI (og gen p l).1.files f.name=none)/\(∀n,bI p.1.files n=none->bI (og gen p l).1.files n=none))\/
  ((og gen p l).2=9/\D.fuse≠ -1))
 |[],p,_,_,hr,h0,hw,hC,_=>⟨hr,hC,.inl ⟨h0,hw,fun f hf=>(by cases hf),fun n h=>h⟩⟩
 |f::l,p,ha,hn,hr,h0,hw,hC,hp=>by
  rw[adW]
  have hal:=(List.pairwise_cons.1 ha).2
  have hnl:∀g∈l,jK g.name:=fun g hg=>hn g (List.mem_cons_of_mem _ hg)
  by_cases hs:pJ lm f.name≠0/\f.name≠iV gen
  case neg=>
   have e:FI gen p f=p:=by unfold FI;rw[if_neg hs]
   rw[e]
   obtain⟨g1,g2,g3⟩:=PV hG l p hal hnl hr h0 hw hC (fun g hg=>hp g (List.mem_cons_of_mem _ hg))
   refine⟨g1,g2,g3.imp (fun⟨q1,q2,q3,q4⟩=>⟨q1,q2,fun g hg h1 h2=> ?_,q4⟩) id⟩
   rcases List.mem_cons.1 hg with rfl | hg
   ·exact absurd ⟨h1,h2⟩ hs
   ·exact q3 g hg h1 h2
  have hu:UpD p.1:=⟨hr.keep.right,hw⟩
  have hne:=hp f (List.mem_cons_self ..) hs.1 hs.2
  obtain⟨k,hk⟩:∃k,bI p.1.files f.name=some k:=by
   cases h:bI p.1.files f.name with
   |none=>exact absurd h hne
   |some k=>exact⟨k,rfl⟩
  obtain⟨a1,a2,a3,a4,a5⟩:=RD hu (hn f (List.mem_cons_self ..)) hk
  have e:FI gen p f=jX p.1 f.name:=by unfold FI;rw[if_pos hs,then_ok h0]
  rw[e]
  have hr1:DT D (jX p.1 f.name).1 M K:=hr.pow a1 (by have:=hr.used;omega) (by have:=hr.long;omega)
  have hf0:f.name≠fD:=fun g=>hs.1 (by rw[g];exact afk)
  have hfS:f.name≠nmS gen:=fun g=>hs.1 (by rw[g];exact afG gen)
  by_cases hc:(jX p.1 f.name).2=0
  ·have get:=a2 hc
   have hC1:NS D gen b w (jX p.1 f.name).1:=by
    refine⟨fun n h1 h2 h3=> ?_,?_,?_,fun n h1 h2=> ?_,?_⟩
    ·rw[get,if_neg (fun g=>hs.1 (by rw[<-g];exact h3))];exact hC.oth n h1 h2 h3
    ·rw[get,if_neg (Ne.symm hs.2)];exact hC.snap
    ·rw[get,if_neg (Ne.symm hfS)];exact hC.slot
    ·rw[get];split
     ·exact .inl rfl
     ·exact hC.olds n h1 h2
    ·rw[get,if_neg (Ne.symm hf0)];exact hC.tmp
   obtain⟨g1,g2,g3⟩:=PV hG l (jX p.1 f.name) hal hnl hr1 hc (a1.up hc).up hC1 (fun g hg h1 h2=>by
    rw[get,if_neg (ZJ ha g hg)]
    exact hp g (List.mem_cons_of_mem _ hg) h1 h2)
   refine⟨g1,g2,g3.imp (fun⟨q1,q2,q3,q4⟩=>⟨q1,q2,fun g hg h1 h2=> ?_,fun n hn2=>q4 n ?_⟩) id⟩
   ·rcases List.mem_cons.1 hg with rfl | hg
    ·exact q4 _ (by rw[get,if_pos rfl])
    ·exact q3 g hg h1 h2
   ·rw[get];split
    ·rfl
    ·exact hn2
  ·rw[Tc hc]
   have get:=a3 hc
   refine⟨hr1,?_,.inr ?_⟩
   ·exact⟨fun n h1 h2 h3=>by rw[get];exact hC.oth n h1 h2 h3,by rw[get];exact hC.snap,by rw[get];exact hC.slot,fun n h1 h2=>by rw[get];exact hC.olds n h1 h2,by rw[get];exact hC.tmp⟩
   ·rcases a1.cases with g | ⟨g,-, g2⟩
    ·exact absurd g hc
    ·exact⟨g,fun hf=>g2 (hr.fuse hf)⟩
structure ahP (D:ai) (gen:Int) (b w:List Int) (r:ai×Int×Int):Prop where
 run:DT D r.1 (b.length+20) 2
 how:(r.2.2=0/\r.2.1=gen/\r.1.down=false/\NS D gen b w r.1/\∀n,pJ lm n≠0->n≠iV gen->bI r.1.files n=none)\/
  (r.2.1=0/\PO D b.length r.2.2/\(DY D r.1\/YK D gen b w r.1\/NS D gen b w r.1))
theorem aes {D:ai} {s:ay} (hD:UpD D) (hs:xg s) (hg:(dZ D).1.gen<1000000000) (hl:0<=s.lsn/\s.lsn<=1000000000):
 ahP D ((dZ D).1.gen+1) (encZ s) (Ac ⟨(dZ D).1.gen+1,s.lsn⟩) (NP D s):=by
 have hgr:=OG D
 obtain⟨q1,q2⟩:=Ht hD.right hD.up
 have hn1:(dZ D).2≠1:=by rcases q2 with ⟨g, -⟩ | ⟨g, -⟩<;>rw[g]<;>decide
 have hn9:(dZ D).2≠9:=by rcases q2 with ⟨g, -⟩ | ⟨g, -⟩<;>rw[g]<;>decide
 have hsave:NP D s=aa6 ((dZ D).1.gen+1) (og ((dZ D).1.gen+1) (BZ D ((dZ D).1.gen+1) s.lsn (encZ s)) (BZ D ((dZ D).1.gen+1) s.lsn (encZ s)).1.files):=by
  unfold NP
  rw[if_neg (fun g=>g.elim (fun g=>g hs) hn1),if_neg hn9,if_neg (by omega)]
 rw[hsave]
 have hG:wM ((dZ D).1.gen+1):=⟨by omega,by omega⟩
 have hsl:EY ⟨(dZ D).1.gen+1,s.lsn⟩:=⟨hG.1,hG.2,hl.1,hl.2⟩
 have w0:=amz hD (encZ s).length
 have w1:=amF (b:=encZ s) w0.1 w0.2.1 w0.2.2
 have w2:=alZ w1.1 w1.2.1 w1.2.2
 have w3:=walk3 hG w2.1 w2.2.1 w2.2.2
 have w4:=walk4 hD hG hsl rfl w3.1 w3.2
 change DT D (BZ D ((dZ D).1.gen+1) s.lsn (encZ s)).1 _ _/\(((BZ D ((dZ D).1.gen+1) s.lsn (encZ s)).2=0/\(BZ D ((dZ D).1.gen+1) s.lsn (encZ s)).1.down=false/\NS D _ _ _ (BZ D ((dZ D).1.gen+1) s.lsn (encZ s)).1)\/((DY D (BZ D ((dZ D).1.gen+1) s.lsn (encZ s)).1\/YK D _ _ _ (BZ D ((dZ D).1.gen+1) s.lsn (encZ s)).1)/\PO D _ (BZ D ((dZ D).1.gen+1) s.lsn (encZ s)).2))at w4
 generalize (dZ D).1.gen+1=gen at hG w4 ⊢
 generalize BZ D gen s.lsn (encZ s)=p at w4 ⊢
 generalize encZ s=b at w4 ⊢
 obtain⟨hr,hc⟩:=w4
 rcases hc with ⟨h0,hw,hC⟩ | ⟨hAB,hb⟩
 case inr=>
  rw[Tc hb.ne]
  unfold aa6
  rw[if_pos hb.ne]
  exact⟨hr,.inr ⟨rfl,hb,hAB.imp id .inl⟩⟩
 obtain⟨g1,g2,g3⟩:=PV hG p.1.files p hr.keep.right.asc (fun f hf=>(hr.keep.right.2.1.1 f hf).1) hr h0 hw hC (fun f hf _ _=>by rw[get_mem hr.keep.right.asc hf];intro e;cases e)
 generalize hq:og gen p p.1.files=q at g1 g2 g3 ⊢
 rcases g3 with ⟨k1,k2,k3,k4⟩ | ⟨k1,k2⟩
 ·unfold aa6
  rw[if_neg (fun g=>g k1)]
  refine⟨g1,.inl ⟨rfl,rfl,k2,g2,fun n h1 h2=> ?_⟩⟩
  show bI q.1.files n=none
  cases hp:bI p.1.files n with
  |none=>exact k4 n hp
  |some f=>
   obtain⟨m1,m2⟩:=I5 hp
   have:=k3 f m1 (by rw[m2];exact h1) (by rw[m2];exact h2)
   rwa[m2]at this
 ·unfold aa6
  rw[if_pos (by rw[k1];decide)]
  exact⟨g1,.inr ⟨rfl,.inr ⟨k1,k2⟩,.inr (.inr g2)⟩⟩
theorem Yc:∀(l:List ak) (F:Nat->ak->ak),(∀i f,(F i f).name=f.name)->∀n,(bI l n=none->bI (l.mapIdx F) n=none)/\∀k,bI l n=some k->∃i,bI (l.mapIdx F) n=some (F i k)
 |[],F,hF,n=>⟨fun _=>rfl,fun k h=>by cases h⟩
 |g::l,F,hF,n=>by
  rw[List.mapIdx_cons,nM,nM,hF 0 g]
  have ih:=Yc l (fun i=>F (i+1)) (fun i f=>hF (i+1) f) n
  by_cases h:g.name=n
  ·rw[if_pos h,if_pos h]
   exact⟨fun e=>(by cases e),fun k e=>⟨0,by rw[<-Option.some.inj e]⟩⟩
  ·rw[if_neg h,if_neg h]
   exact⟨ih.1,fun k e=>by obtain⟨i,hi⟩:=ih.2 k e;exact⟨i+1,hi⟩⟩
theorem UL:∀(l:List ak) (F:Nat->ak->ak),(∀i,∀f∈l,(F i f).data.length<=f.data.length)->eP (l.mapIdx F)<=eP l
 |[],F,_=>Nat.le_refl _
 |g::l,F,h=>by
  rw[List.mapIdx_cons,BI,BI]
  have:=UL l (fun i=>F (i+1)) (fun i f hf=>h (i+1) f (List.mem_cons_of_mem _ hf))
  have:=h 0 g (List.mem_cons_self ..)
  omega
theorem aeM {l:List ak} {F:Nat->ak->ak} (hF:∀i f,(F i f).name=f.name) (h:H9 l):H9 (l.mapIdx F):=by
 unfold H9 at h ⊢
 rw[List.pairwise_iff_getElem]at h ⊢
 intro i j hi hj hij
 rw[List.length_mapIdx]at hi hj
 rw[List.getElem_mapIdx,List.getElem_mapIdx,hF,hF]
 exact h i j hi hj hij
theorem X5 {f:ak} (h:okF f) (k:Int):∃m:Nat,f.sure<=(m:Int)/\m<=f.data.length/\Dw f k=⟨f.name,f.data.take m,(m:Int)⟩:=by
 have g:=afV h.2.1 h.2.2 k
 refine⟨(f.sure+jY (imax k 0) (len f.data - f.sure)).toNat,by have:=h.2.1;omega,by simp only[len]at g ⊢; omega,?_⟩
 unfold Dw
 have e:(((f.sure+jY (imax k 0) (len f.data - f.sure)).toNat:Nat):Int)=f.sure+jY (imax k 0) (len f.data - f.sure):=by have:=h.2.1;omega
 rw[e]
structure afi (D:ai):Prop where
 up:UpD D
 sure:∀n f,bI D.files n=some f->f.sure=len f.data
structure amI (x b:ai) (fuse:Int):Prop where
 base:afi b
 fz:b.fuse=fuse
 room:b.room=x.room
 non:∀n,bI x.files n=none->bI b.files n=none
 som:∀n k,bI x.files n=some k->∃m:Nat,k.sure<=(m:Int)/\m<=k.data.length/\bI b.files n=some ⟨n,k.data.take m,(m:Int)⟩
 used:eP b.files<=eP x.files
 long:b.files.length=x.files.length
theorem aeW {x:ai} {keep:List Int} {fuse:Int} (h:iD x) (hf: -1<=fuse):(KZ x keep fuse).2=0/\amI x (KZ x keep fuse).1 fuse:=by
 unfold KZ
 rw[if_pos ⟨h,hf⟩]
 refine⟨rfl,?_⟩
 have hF:∀(i:Nat) (f:ak),(Dw f (AZ keep i)).name=f.name:=fun i f=>rfl
 have hget:=fun n=>Yc x.files (fun i f=>Dw f (AZ keep i)) hF n
 have hs:∀n k,bI x.files n=some k->∃m:Nat,k.sure<=(m:Int)/\m<=k.data.length/\bI (x.files.mapIdx fun i f=>Dw f (AZ keep i)) n=some ⟨n,k.data.take m,(m:Int)⟩:=fun n k hk=>by
  obtain⟨i,hi⟩:=(hget n).2 k hk
  obtain⟨hok,hn⟩:=XH h hk
  obtain⟨m,m1,m2,m3⟩:=X5 hok (AZ keep i)
  exact⟨m,m1,m2,by rw[hi,m3,hn]⟩
 have hmem:∀f∈(x.files.mapIdx fun i f=>Dw f (AZ keep i)),∃k∈x.files,∃i,f=Dw k (AZ keep i):=fun f hf=>by
  obtain⟨i,hi,rfl⟩:=List.mem_iff_getElem.1 hf
  rw[List.length_mapIdx]at hi
  rw[List.getElem_mapIdx]
  exact⟨_,List.getElem_mem hi,i,rfl⟩
 have hu:=UL x.files (fun i f=>Dw f (AZ keep i)) (fun i f hf=>by
  obtain⟨m,m1,m2,m3⟩:=X5 (h.2.1.1 f hf) (AZ keep i)
  rw[m3];simp only[List.length_take];omega)
 have hr:iD ⟨x.files.mapIdx fun i f=>Dw f (AZ keep i),x.room,fuse,false⟩:=by
  have h1:=h.1
  refine⟨⟨h1.1,h1.2.1,hf,by simp only[List.length_mapIdx];exact h1.2.2.2⟩,⟨fun f hfm=> ?_,aeM hF h.asc⟩,?_⟩
  ·obtain⟨k,hk,i,rfl⟩:=hmem f hfm
   obtain⟨m,m1,m2,m3⟩:=X5 (h.2.1.1 k hk) (AZ keep i)
   rw[m3]
   exact⟨(h.2.1.1 k hk).1,by simp only;omega,by simp only[len,List.length_take];omega⟩
  ·have:=h.2.2;simp only;omega
 refine⟨⟨⟨hr,rfl⟩,fun n f hg=> ?_⟩,rfl,rfl,fun n hn=>(hget n).1 hn,hs,hu,by simp only[List.length_mapIdx]⟩
 cases hx:bI x.files n with
 |none=>rw[(hget n).1 hx]at hg;cases hg
 |some k=>
  obtain⟨m,m1,m2,m3⟩:=hs n k hx
  rw[m3]at hg
  rw[<-Option.some.inj hg]
  simp only[len,List.length_take];omega
theorem ags {x:ai} {keep:List Int} {fuse:Int} (h:uV x):uV (KZ x keep fuse).1:=by
 unfold KZ
 split
 ·intro f hf
  obtain⟨i,hi,rfl⟩:=List.mem_iff_getElem.1 hf
  simp only[List.length_mapIdx]at hi
  simp only[List.getElem_mapIdx]
  exact(h _ (List.getElem_mem hi)).take _
 ·exact h
structure amO (D:ai) (s:ay) (gen:Int):Prop where
 base:afi D
 ok:uy s
 right:xg s
 short:(encZ s).length<99999
 gn:wM gen
 next:gen=(zo D.files).gen+1
theorem agM {s:ay} (h:xg s):(encZ s).length<99999:=by
 have h1:=Q7 s
 have h2:=h.few
 omega
inductive aie (D:ai) (s:ay):Prop
 |over (h:NP D s=(D,0,3)) (hg:1000000000<=(dZ D).1.gen)
 |new (gen:Int) (hn:amO D s gen) (h:ahP D gen (encZ s) (Ac ⟨gen,s.lsn⟩) (NP D s))
theorem ahU {D:ai} {s:ay} (hD:afi D) (hr:uy s) (hs:xg s):aie D s:=by
 obtain⟨q1,q2⟩:=Ht hD.up.right hD.up.up
 have hgr:=OG D
 by_cases hg:(dZ D).1.gen<1000000000
 ·refine .new ((dZ D).1.gen+1) ⟨hD,hr,hs,agM hs,⟨by omega,by omega⟩,by rw[q1]⟩ (aes hD.up hs hg hs.fine.lsn)
 ·have hn1:(dZ D).2≠1:=by rcases q2 with ⟨g, -⟩ | ⟨g, -⟩<;>rw[g]<;>decide
  have hn9:(dZ D).2≠9:=by rcases q2 with ⟨g, -⟩ | ⟨g, -⟩<;>rw[g]<;>decide
  refine .over ?_ (by omega)
  unfold NP
  rw[if_neg (fun g=>g.elim (fun g=>g hs) hn1),if_neg hn9,if_pos (by omega)]
theorem aie.keep {D:ai} {s:ay} (hD:afi D) (h:aie D s):Keep D (NP D s).1:=by
 cases h with
 |over h hg=>rw[h];exact Keep.refl hD.up.right
 |new gen hn h=>exact h.run.keep
theorem aaW {s:ay} (hr:uy s) (hsh:D8 s):Wq (jP s) fun b=>b=true↔xg s:=
 KE s hr (by unfold D8 at hsh;omega) (by unfold D8 at hsh;omega) (by unfold D8 at hsh;omega)
theorem ahw {d:ai} {keep:List Int} {fuse:Int} (h:(KZ d keep fuse).2=0):iD d/\ -1<=fuse:=by
 unfold KZ at h
 split at h
 ·assumption
 ·exact absurd h (show ¬(1:Int)=0 by decide)
theorem agc {n m:Int} (h:inU n) (hm:m=12\/m=10):Ip (wr .i64 n) m=n%m/\0<=n%m/\n%m<=11:=by
 unfold inU at h
 rw[dN (by omega) (by omega)]
 unfold Ip
 rw[Int.tmod_eq_emod_of_nonneg (by omega)]
 rcases hm with rfl | rfl<;>omega
theorem aeY (s:Nm):0<=pJ lm s:=by unfold pJ;split<;>omega
theorem XA {D x:ai} {gen:Int} {b w:List Int} (hG:wM gen) (h:DY D x\/YK D gen b w x\/NS D gen b w x) {n:Nm} (h1:n≠fD) (h2:n≠n0) (h3:n≠n1) (h4:pJ lm n=0):bI x.files n=bI D.files n:=by
 have hs:n≠nmS gen:=by unfold nmS;split<;>assumption
 have hg:n≠iV gen:=fun e=>by rw[e,TN hG]at h4;unfold wM at hG;omega
 rcases h with h | h | h
 ·exact h.oth n h1
 ·exact h.oth n h1 hg hs
 ·exact h.oth n h1 hs h4
theorem adr {D b:ai} (hD:iD D) (hbu:UpD b) (hbnd:LP b)
 (hkeep:∀n,n≠fD->n≠n0->n≠n1->pJ lm n=0->∀f,bI D.files n=some f->∃k,bI b.files n=some k/\k.data=f.data):
 Wq (bG (fun v:Int×Bool => eu b D v.fst v.snd) LF (0,false)) fun w=>match w with | .inl _=>False | .inr _=>True:=by
 have hl:=hD.fl
 have et:[(UInt8.ofNat 116),(UInt8.ofNat 109),(UInt8.ofNat 112)]=fD:=rfl
 have e0:[(UInt8.ofNat 115),(UInt8.ofNat 108),(UInt8.ofNat 111),(UInt8.ofNat 116),(UInt8.ofNat 46),(UInt8.ofNat 48)]=n0:=rfl
 have e1:[(UInt8.ofNat 115),(UInt8.ofNat 108),(UInt8.ofNat 111),(UInt8.ofNat 116),(UInt8.ofNat 46),(UInt8.ofNat 49)]=n1:=rfl
 refine qL (n:=D.files.length) (by omega) (fun i x=>True) _ ?_ ?_ _ 0 (Nat.zero_le _) trivial
 ·rintro i q hi -
  simp only[eu]
  have hnm:=(hD.2.1.1 _ (List.getElem_mem hi)).1
  rw[aX (by rw[jJ];simpa using hi),aX (inb _ i hi),dY _ i hi,et,e0,e1]
  refine Wq.bind (Q:=fun y=>y=pJ lm D.files[i].name\/(y=0/\(D.files[i].name=fD\/D.files[i].name=n0\/D.files[i].name=n1))) ?_ fun y hy=> ?_
  ·rw[l9]
   refine⟨fun _=> ?_,fun h=>(aA _).2 (.inr ⟨rfl,?_⟩)⟩
   ·rw[Vm hnm.len,aA];exact .inl rfl
   ·simp only[dD,fO,ab3]at h
    rcases h with (h | h) | h
    ·exact .inl h
    ·exact .inr (.inl h)
    ·exact .inr (.inr h)
  ·rw[l9]
   refine⟨fun _=>(aA _).2 ⟨fA (by omega),trivial⟩,fun h=> ?_⟩
   simp only[iw,ab5,iK]at h
   obtain⟨⟨⟨g1,g2⟩,g3⟩,g4⟩:=h
   have hn0:pJ lm D.files[i].name=0:=by
    rcases hy with hy | ⟨-, hy⟩
    ·have:=aeY D.files[i].name;omega
    ·rcases hy with hy | hy | hy
     ·exact absurd hy g1
     ·exact absurd hy g2
     ·exact absurd hy g3
   obtain⟨k,k1,k2⟩:=hkeep _ g1 g2 g3 hn0 _ (get_mem hD.asc (List.getElem_mem hi))
   have hrd:NY b D.files[i].name=(D.files[i].data,0):=by
    unfold NY
    rw[if_neg (fun g=>g (hbu.first (BH hnm))),k1]
    simp only[k2]
   rw[Wu hbnd hnm.len,aF,hrd]
   simp only
   rw[aX (by rw[fO];exact .inl (inb _ i hi)),D6,fQ,zl,iJ (by rw[dD,ab3]),aA]
   exact⟨fA (by omega),trivial⟩
 ·rintro q -
  simp only[eu]
  rw[iJ (YQ _),aA];trivial
def Ju (l:List ak):Nat:=(l.filter fun f=>decide (pJ lm f.name≠0)).length
theorem Tm (a b:List ak):Ju (a++b)=Ju a+Ju b:=by simp [Ju]
theorem aaG (f:ak):Ju [f]=if pJ lm f.name≠0 then 1 else 0:=by unfold Ju;by_cases h:pJ lm f.name≠0<;>simp [h]
theorem aiW (l:List ak):Ju l<=l.length:=List.length_filter_le ..
theorem aej {b:ai} (hb:iD b) (ht:bI b.files fD=none) (q0:Bool):
 Wq (bG (fun v:Int×Int×Bool => dS b v.fst v.snd.fst v.snd.snd) LF (0,0,q0)) fun w=>match w with | .inl _=>False | .inr x=>x.1=(Ju b.files:Int):=by
 have hl:=hb.fl
 have et:[(UInt8.ofNat 116),(UInt8.ofNat 109),(UInt8.ofNat 112)]=fD:=rfl
 refine qL (n:=b.files.length) (by omega) (fun i x=>x.1=(Ju (b.files.take i):Int)) _ ?_ ?_ _ 0 (Nat.zero_le _) (by simp [Ju])
 ·rintro i ⟨n,q⟩ hi hx
  simp only at hx
  simp only[dS]
  have hnm:=(hb.2.1.1 _ (List.getElem_mem hi)).1
  have hnt:b.files[i].name≠fD:=fun e=>by
   have:=get_mem hb.asc (List.getElem_mem hi)
   rw[e,ht]at this;cases this
  have hle:=aiW (b.files.take i)
  rw[List.length_take]at hle
  have hseq:seq b.files[i].name fD=false:=by rw[ab5];exact hnt
  have hnn:=aeY b.files[i].name
  rw[aX (by rw[jJ];simpa using hi),aX (inb _ i hi),dY _ i hi,et,Vm hnm.len,aF,hseq,ZU,oP hi,Tm,aaG]
  by_cases h:0<pJ lm b.files[i].name
  ·rw[if_pos h,aX (inb _ i hi),dI,aA,if_pos (by omega)]
   refine⟨fA (by omega),?_⟩
   simp only
   rw[hx,aj,dN (by omega) (by omega)];omega
  ·rw[if_neg h,aX (inb _ i hi),dI,aA,if_neg (by omega)]
   exact⟨fA (by omega),by simp only;omega⟩
 ·rintro⟨n,q⟩ hx
  simp only[dS]
  rw[iJ (YQ _),aA]
  rw[List.take_length]at hx
  exact hx
theorem aix {b:ai} {gen:Int} (hG:wM gen) (hb:iD b) (h1:bI b.files (iV gen)≠none) (h2:∀n,pJ lm n≠0->n≠iV gen->bI b.files n=none):Ju b.files=1:=by
 obtain⟨i,o,hs⟩:=kV hb.asc (by have:=hb.fl;omega) (iV gen)
 have hall:∀f∈b.files,f.name≠iV gen->pJ lm f.name=0:=fun f hf hne=>by
  apply Classical.byContradiction
  intro h
  have:=h2 _ h hne
  rw[get_mem hb.asc hf]at this;cases this
 have hget:=hs.get
 have hz:∀l:List ak,(∀f∈l,pJ lm f.name=0)->Ju l=0:=fun l hl=>by
  unfold Ju
  rw[List.length_eq_zero_iff,List.filter_eq_nil_iff]
  intro f hf;simp [hl f hf]
 generalize b.files=L at hs hall hget h1
 cases hs with
 |no a c ha hc=>exact absurd hget h1
 |yes a f c e ha hc=>
  have hf:pJ lm f.name≠0:=by rw[e,TN hG];unfold wM at hG;omega
  rw[show a++f::c=a++([f]++c)from rfl,Tm,Tm,aaG,if_pos hf,
   hz a (fun g hg=>hall g (List.mem_append_left _ hg) (Qs (ha g hg))),hz c (fun g hg=>hall g (List.mem_append_right _ (List.mem_cons_of_mem _ hg)) (Qs (hc g hg)).symm)]
theorem Tt (x0:ai) (x1:ay) (x2:Int) (k0:SI x0) (k1:uy x1) (k2:inU x2):kU x0 x1 x2=some true:=by
 refine Wq.eq ?_
 unfold kU
 rw[ajk,aF,fQ,dI]
 refine(ag3 x0 k0.files).bind fun y1 h1=> ?_
 refine Wq.bind (Q:=fun b=>(y1=true->b=true->D8 x1)) ?_ fun y2 h2=> ?_
 ·rw[l9]
  exact⟨fun _=>(ajp x1).mono fun b hb _=>hb,fun h=>(aA _).2 fun _ h=>by cases h⟩
 refine Wq.bind (Q:=fun b=>b=true->(y1=true/\y2=true)/\xg x1) ?_ fun y3 h3=> ?_
 ·rw[l9]
  refine⟨fun h=> ?_,fun h=>(aA _).2 fun h=>by cases h⟩
  simp only[cO,eG,fO,iw,dH,dD,iy,iK,dU,jc,dG,dK,jm,jr]at h
  refine(aaW k1 (h2 h.1 h.2)).mono fun b hb e=>⟨h,hb.1 e⟩
 rw[l9]
 refine⟨fun _=>(aA _).2 rfl,fun h=> ?_⟩
 simp only[iw,dD]at h
 obtain⟨⟨e1,e2⟩,hR⟩:=h3 h.2
 have hd:=h1 e1
 have hs:=h2 e1 e2
 have hbnd:=agp k0 hd
 have hby:=akf k0
 obtain⟨f1,f2,f3⟩:=agc (m:=12) k2 (.inl rfl)
 rw[f1,ahN hbnd (by simp),aF,kY,lS]
 by_cases hb0:(KZ x0 [65536] (x2%12)).2=0
 case neg=>rw[if_neg hb0,aA]
 rw[if_pos hb0]
 obtain⟨hd0,hf0⟩:=ahw hb0
 obtain⟨-, hB⟩:=aeW (keep:=[65536]) hd0 hf0
 have hbyD:=ags (keep:=[65536]) (fuse:=x2%12) hby
 generalize (KZ x0 [65536] (x2%12)).1=D at hB hbyD ⊢
 have hD:=hB.base
 have hfD:inI D.fuse:=by rw[hB.fz];exact⟨by omega,by omega⟩
 have hbD:=hD.up.right.bnd hfD
 have hsd:=ahU hD k1 hR
 have hk:=hsd.keep hD
 rw[aaI hbD hbyD k1 hs,aF,ahN (hk.bnd hfD) (by simp),aF]
 obtain⟨hb1,hB1⟩:=aeW (keep:=[]) (fuse:= -1) hk.right (by decide)
 rw[hb1,D6,fQ,dI]
 generalize (KZ (NP D x1).1 [] (-1)).1=b at hB1 ⊢
 have hbB:=hB1.base.up.right.bnd (by rw[hB1.fz];decide)
 have hkeep:∀n,n≠fD->n≠n0->n≠n1->pJ lm n=0->∀f,bI D.files n=some f->∃k,bI b.files n=some k/\k.data=f.data:=fun n g1 g2 g3 g4 f hf=>by
  have hx:bI (NP D x1).1.files n=bI D.files n:=by
   cases hsd with
   |over h hg=>rw[h]
   |new gen hn h=>
    rcases h.how with ⟨-, -, -, h4, -⟩ | ⟨-, -, h3⟩
    ·exact XA hn.gn (.inr (.inr h4)) g1 g2 g3 g4
    ·exact XA hn.gn h3 g1 g2 g3 g4
  rw[hf]at hx
  obtain⟨m,m1,m2,m3⟩:=hB1.som n f hx
  refine⟨_,m3,?_⟩
  have:=hD.sure n f hf
  simp only[len]at this
  simp only
  exact List.take_of_length_le (by omega)
 refine(adr hD.up.right hB1.base.up hbB hkeep).bind fun y7 h7=> ?_
 match y7,h7 with
 |.inr y8,_=>
  simp only[qO]
  rw[kY,lS]
  cases hsd with
  |over h hg=>
   rw[h]
   rw[if_neg (show ¬(3:Int)=0 by decide),aA];rfl
  |new gen hn h=>
   rcases h.how with ⟨q1,q2,q3,q4,q5⟩ | ⟨q1,q2,q3⟩
   ·rw[if_pos q1]
    have ht:bI b.files fD=none:=hB1.non _ q4.tmp
    refine(aej hB1.base.up.right ht y8).bind fun y9 h9=> ?_
    match y9,h9 with
    |.inr y10,h9=>
     simp only at h9
     simp only
     have h1:bI b.files (iV gen)≠none:=by
      obtain⟨m,m1,m2,m3⟩:=hB1.som _ _ q4.snap
      rw[m3];intro e;cases e
     rw[aA,h9,aix hn.gn hB1.base.up.right h1 fun n g1 g2=>hB1.non n (q5 n g1 g2)]
     rfl
   ·rw[if_neg q2.ne,aA,q1];rfl
end Go.Av
