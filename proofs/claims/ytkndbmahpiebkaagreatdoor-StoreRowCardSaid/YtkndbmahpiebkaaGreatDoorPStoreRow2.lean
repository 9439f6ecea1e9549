/- The plain law, part 2. No condition. -/
import Derived.Test.YtkndbmahpiebkaaGreatDoorPStoreRow1
import Derived.KernelRfl
set_option linter.unusedVariables false
set_option linter.unusedSimpArgs false
set_option linter.unnecessarySimpa false
namespace Go.Av
open Go
theorem aa1 (x0:List Int) (x1:List Int) (k0:okL afH x0) (k1:okL BX x1):oQ x0 x1=some true:=by
 refine Wq.eq ?_
 unfold oQ
 rw[aog,aj,bC,bn,jW]
 refine⟨fun _=>(au _).2 rfl,fun h=> ?_⟩
 simp only[bF,dh,dV,eX,bI,bP,dP,eP,dm,fB,bK,bJ,fC,fD,len]at h
 have hd:V7 1 2:=by unfold V7;decide
 have he:MX UX:=⟨by show inI 90;decide,by show inI 90;decide,by show inI 900;decide⟩
 have hnew:xI 1 2 (dD.mk 90 90 900) 900=some (newS 1 2 UX 900,0):=by
  rw[show dD.mk 90 90 900=UX from rfl,agn he (by decide),if_pos ⟨hd,by unfold OE UX;decide,by decide⟩]
 rw[hnew,aj]
 refine Wq.bind (Q:=fun w=>match w with | .inl _=>False | .inr _=>True)
  (pF (n:=x0.length) (step:=fun v:Int×Int×Bool×ai×ak×ai=>iD x0 x1 v.fst v.snd.fst v.snd.snd.fst v.snd.snd.snd.fst v.snd.snd.snd.snd.fst v.snd.snd.snd.snd.snd) (by omega)
    (fun i x=>AtS x.2.2.2.1 x.2.2.1 x.1 i/\x.2.2.2.2=wu i) _ ?_ ?_ _ 0 (Nat.zero_le _) ?_) ?_
 ·rintro i ⟨gen,q,was,d,s⟩ hi ⟨hA,rfl⟩
  simp only at hA
  simp only[iD]
  have hi12:i<12:=by omega
  obtain⟨a0,a1,a2⟩:=anQ i hi12
  rw[aI (by rw[jl];simpa using hi),fE (by omega),show mQ.mk 1 ((i+1:Nat):Int) 0 0 1 1 1 0 0 0 false 0 0=Nk i from rfl,akw (by omega) a1,aj,a0,o7,bC,bn,aI (inb _ i hi),bQ _ i hi]
  obtain⟨f1,f2,f3⟩:=ajZ (m:=10) (k0.1 _ (List.getElem_mem hi)) (.inr rfl)
  have f3':x0[i]%10<=9:=by omega
  have ef:wr .i64 (aG (F5 (wr .i64 x0[i]) 10) 1)=x0[i]%10 - 1:=by rw[f1,aG,Ky ⟨by omega,by omega⟩]
  rw[ef]
  have hs1:(doS (wu i) (Nk i)).1=wu (i+1):=rfl
  rw[hs1]
  have hD:=aj8 (f:=x0[i]%10 - 1) hA.base (by omega)
  have hby:jP ⟨d.files,d.room,x0[i]%10 - 1,d.down⟩:=hA.byte
  have hlD:ql ⟨d.files,d.room,x0[i]%10 - 1,d.down⟩=ql d:=ac0 hA.base.up hD.up rfl fun _=>rfl
  have hroom:(⟨d.files,d.room,x0[i]%10 - 1,d.down⟩:ak).room=65536:=hA.room
  have hused:fP (⟨d.files,d.room,x0[i]%10 - 1,d.down⟩:ak).files<=4032*i:=hA.used
  have hlong:(⟨d.files,d.room,x0[i]%10 - 1,d.down⟩:ak).files.length<=2*i:=hA.long
  have hslot:gen=(jh (⟨d.files,d.room,x0[i]%10 - 1,d.down⟩:ak).files).gen:=hA.gn
  have hfz:inI (⟨d.files,d.room,x0[i]%10 - 1,d.down⟩:ak).fuse:=⟨by simp only;omega,by simp only;omega⟩
  generalize (⟨d.files,d.room,x0[i]%10 - 1,d.down⟩:ak)=D at hD hby hlD hroom hused hlong hslot hfz ⊢
  have hbD:=hD.up.right.bnd hfz
  have hsd:=akI hD a2.ok a2.right
  have hk:=hsd.keep hD
  have henc:=amK a2
  have hgr:=J7 (ctF D.files n0) (ctF D.files n1)
  have hfew:=hA.few
  have hg0:0<=gen:=by rw[hslot];exact hgr.1
  rw[adV hbD hby a2.ok a2.short,aj,apI (hk.bnd hfz) (by omega),aj]
  obtain⟨hb1,hB1⟩:=aof (keep:=x1) (fuse:= -1) hk.right (by decide)
  have hbyB:=ake (keep:=x1) (fuse:= -1) (ajA (s:=wu (i+1)) hby)
  rw[hb1]
  have hload:=hsd.load hD hB1
  have hcode:((sG D (wu (i+1))).2.2=0/\(sG D (wu (i+1))).2.1=gen+1)\/(sG D (wu (i+1))).2.2=9:=by
   cases hsd with
   |over h hg=>
    obtain⟨r1, -⟩:=yh hD.up.right hD.up.up
    rw[r1,<-hslot]at hg
    omega
   |new g hn h=>
    have hnx:=hn.next
    rcases h.how with ⟨q1,q2, -⟩ | ⟨q1,q2, -⟩
    ·exact .inl ⟨q1,by rw[q2,hnx,<-hslot]⟩
    ·rcases q2 with ⟨-, q3⟩ | ⟨q3, -⟩
     ·rcases q3 with q3 | q3<;>omega
     ·exact .inr q3
  have hrun:fP (sG D (wu (i+1))).1.files<=4032*(i+1)/\(sG D (wu (i+1))).1.files.length<=2*(i+1):=by
   cases hsd with
   |over h hg=>rw[h];exact⟨by show fP D.files<=_;omega,by show D.files.length<=_;omega⟩
   |new g hn h=>
    have u1:=h.run.used
    have u2:=h.run.long
    constructor<;>omega
  have hroomB:(TG (sG D (wu (i+1))).1 x1 (-1)).1.room=65536:=by rw[hB1.room,hk.room,hroom]
  generalize (TG (sG D (wu (i+1))).1 x1 (-1)).1=b at hB1 hbyB hload hroomB ⊢
  have hbB:=hB1.base.up.right.bnd (by rw[hB1.fz];decide)
  have hub:=hB1.used
  have hlb:=hB1.long
  rw[adD hbB hbyB,aj,o7,bC,ig]
  have hub2:fP b.files<=4032*(i+1):=by omega
  have hlb2:b.files.length<=2*(i+1):=by omega
  have hsb:=ahw hbyB
  have eg1:wr .i64 (ax gen 1)=gen+1:=by rw[ax,dI (by omega) (by omega)]
  rw[eg1]
  have hc1:bor (band (aF (ieq (sG D (wu (i+1))).2.2 0)) (aF (ieq (sG D (wu (i+1))).2.2 9))) (band (ieq (sG D (wu (i+1))).2.2 0) (aF (ieq (sG D (wu (i+1))).2.1 (gen+1))))=false:=by
   rcases hcode with ⟨g1,g2⟩ | g1
   ·rw[g1,g2,UC,UC];rfl
   ·rw[g1];rfl
  rw[dN hc1]
  rcases hload with ⟨g1,g2⟩ | ⟨g,hn,g1,g2,g3⟩
  ·
   have g9:(sG D (wu (i+1))).2.2=9:=by
    rcases hcode with ⟨c, -⟩ | c
    ·exact absurd c g2
    ·exact c
   rw[hlD]at g1
   have hl:=hA.load
   have he:=hA.err
   rw[g1]at hsb ⊢
   have ewas:(ql d).1=was:=by rw[hl]
   have egen:(ql d).2.1=gen:=by rw[hl]
   rw[ewas]at hsb ⊢
   rw[egen]
   have hne:ieq gen (gen+1)=false:=by rw[bJ];omega
   rw[hne,Xc,bn,aj,UC,bG,acy hsb,aj,g9]
   have hold:bor (band (ilt 0 gen) (ieq (ql d).2.2 0)) (band (ieq gen 0) (ieq (ql d).2.2 7))=true:=by
    simp only[dV,bF,dP,bK]
    rcases he with e | ⟨e1,e2⟩
    ·left
     refine⟨?_,e⟩
     have:=MP hA.base.up
     by_cases hz:(jh d.files).gen=0
     ·rw[if_pos hz]at this
      rw[this]at e;exact absurd e (show ¬(7:Int)=0 by decide)
     ·have:=hA.gn;omega
    ·exact .inr ⟨e2,e1⟩
   rw[hold]
   rw[dN (by rfl),au]
   refine⟨rfl,⟨hB1.base,hbyB,hroomB,hub2,hlb2,?_,?_,?_,by simp only;omega⟩,rfl⟩
   ·rw[g1];exact hl
   ·rw[g1];exact he
   ·have e1:=MP hB1.base.up
    by_cases hz:(jh b.files).gen=0
    ·rw[if_pos hz,g1,hl]at e1
     have:=congrArg (fun x:ai×Int×Int=>x.2.1) e1
     simp only at this
     rw[hz];exact this
    ·rw[if_neg hz,g1,hl]at e1
     unfold WG at e1
     split at e1
     ·have:=congrArg (fun x:ai×Int×Int=>x.2.1) e1
      exact this
     ·have:=congrArg (fun x:ai×Int×Int=>x.2.2) e1
      simp only at this
      rcases he with e | ⟨e2, -⟩<;>omega
  ·
   have hnx:=hn.next
   have eg:g=gen+1:=by rw[hnx,<-hslot]
   subst eg
   rw[g1]
   simp only
   simp only[UC,DL,bG,acy a2.short,aj]
   refine Wq.bind (Q:=fun _=>True) ?_ fun y5 _=> ?_
   ·rw[jW]
    exact⟨fun _=>(akN a2.short).mono fun _ _=>trivial,fun _=>(au _).2 trivial⟩
   rw[dN (by simp only[DL,bC,Xc,LM,ig]),au]
   refine⟨rfl,⟨hB1.base,hbyB,hroomB,hub2,hlb2,?_,?_,?_,by simp only;omega⟩,rfl⟩
   ·rw[g1]
   ·left;rw[g1]
   ·have e1:=MP hB1.base.up
    by_cases hz:(jh b.files).gen=0
    ·rw[if_pos hz,g1]at e1
     have:=congrArg (fun x:ai×Int×Int=>x.2.2) e1
     exact absurd this (show ¬(0:Int)=7 by decide)
    ·rw[if_neg hz,g1]at e1
     unfold WG at e1
     split at e1
     ·have:=congrArg (fun x:ai×Int×Int=>x.2.1) e1
      exact this
     ·have:=congrArg (fun x:ai×Int×Int=>x.2.2) e1
      exact absurd this (show ¬(0:Int)=2 by decide)
 ·rintro⟨gen,q,was,d,s⟩ -
  simp only[iD]
  rw[dN (acV _),au];trivial
 ·have hup:UpD (ak.mk [] 65536 (-1) false):=⟨by decide,rfl⟩
  have hz:jh (ak.mk [] 65536 (-1) false).files=⟨0,0⟩:=by unfold jh sF;rw[show ctF (ak.mk [] 65536 (-1) false).files n0=[]from rfl,show ctF (ak.mk [] 65536 (-1) false).files n1=[]from rfl,afr,afr]
  have hl:ql (ak.mk [] 65536 (-1) false)=(zS,0,7):=by rw[MP hup,hz,if_pos rfl]
  exact⟨⟨⟨hup,fun n f h=>by cases h⟩,fun f hf=>(by cases hf),rfl,Nat.zero_le _,Nat.zero_le _,by rw[hl];rfl,.inr ⟨by rw[hl],rfl⟩,by rw[hz],Int.le_refl _⟩,rfl⟩
 ·rintro(w | w) hw
  ·exact hw.elim
  ·simp only[qQ,au]
end Go.Av
