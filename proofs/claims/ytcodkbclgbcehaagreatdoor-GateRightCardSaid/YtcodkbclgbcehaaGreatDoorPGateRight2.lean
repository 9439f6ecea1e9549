/- The plain law, part 2. No condition. -/
import Derived.Test.YtcodkbclgbcehaaGreatDoorPGateRight1
import Derived.KernelRfl
set_option linter.unusedVariables false
set_option linter.unusedSimpArgs false
set_option linter.unnecessarySimpa false
namespace Go.Av
open Go
theorem ah8 {d:ak} {s:aB} (h:Ez d) (hb:iW d) (hr:iD s) (hsh:sG s):Np d s=some (mY d s):=by
 refine Wq.eq ?_;unfold Np mY;by_cases hR:iH s
 case neg=>
  rw[acp hr hsh hR,ai,au (by rfl),af,awh (.inl hR)]
 have henc:(encZ s).length<900000:=by
  have h1:=aaJ s;have h2:=hR.few;omega
 rw[aiM hr hsh hR,ai,bK (by rfl),ac6 h hb,ai,dn,dn];by_cases h1:(dS d).2=1
 ·rw[awh h1,af,awh (.inr h1),h1]
 have hneg:¬(¬iH s\/(dS d).2=1):=fun g=>g.elim (fun g=>g hR) h1;rw[awg h1,awg hneg];by_cases h9:(dS d).2=9
 ·rw[awh h9,af,awh h9,h9]
 rw[awg h9,awg h9,akH];by_cases hov:1000000000<=(dS d).1.K
 ·rw[awh hov,af,awh hov]
 rw[awg hov,awg hov];obtain⟨hd,hw⟩:=afI h1 h9;have hgn:=Nz d;have eg:wr .i64 (ay (dS d).1.K 1)=(dS d).1.K+1:=by rw[ay,bf (by omega) (by omega)]
 rw[eg];have hG:jJ ((dS d).1.K+1):=⟨by omega,by omega⟩;generalize (dS d).1.K+1=gen at hG ⊢;have et:[(UInt8.ofNat 116),(UInt8.ofNat 109),(UInt8.ofNat 112)]=gy:=rfl;rw[et];have hfu:=h.fu;have hN:=Xo hG;have k0:=adg hd;have b0:=acZ hb;rw[aix h oI.len,ai];have hrz:(aa7 d gy).2=if dN d.b gy=none then 7 else 0:=by
  unfold aa7;rw[awg (fun g=>g (jc.2 ⟨hd,hw,LC oI⟩))];cases dN d.b gy<;>simp
 rw[hrz,dn];unfold yV;by_cases hg:dN d.b gy=none
 ·have hc:yX d=(d,0):=by unfold yX;rw[awh hg]
  rw[awh hg,awg (by decide),hc,show(jm (d,(0:Int)) fun d=>dM d gy (encZ s))=dM d gy (encZ s)from then_ok rfl,abJ h oI.len henc,ai];have k1:=tu (n:=gy) (b:=encZ s) hd;have b1:=Hf (n:=gy) hb (Ru s);have hcl:∀q:ak×Int,ieq q.2 0=true\/ieq q.2 0=false:=fun q=>by cases ieq q.2 0<;>simp
  generalize hp1:dM d gy (encZ s)=p1 at k1 b1 ⊢;rcases hcl p1 with e1 | e1
  case inr=>
   simp only[bK e1];refine Iq hG hd hfu k1 ?_;rw[aP]at e1;rw[dY e1,dY e1,dY e1]
  rw[au e1,aiN (k1.bnd hfu) oI.len,ai];rw[aI]at e1;rw[then_ok (p:=p1) e1];have k2:=k1.trans (J8 (n:=gy) k1.right);have b2:=Nv (n:=gy) b1;generalize pq p1.1 gy=p2 at k2 b2 ⊢;rcases hcl p2 with e2 | e2
  case inr=>
   simp only[bK e2];refine Iq hG hd hfu k2 ?_;rw[aP]at e2;rw[dY e2,dY e2]
  rw[au e2,U2,ai,alj (k2.bnd hfu) oI.len hN.len,ai];rw[aI]at e2;rw[then_ok (p:=p2) e2];have k3:=k2.trans (Ld (a:=gy) (b:=jC gen) k2.right);have b3:=PD (a:=gy) (b:=jC gen) b2;generalize jH p2.1 gy (jC gen)=p3 at k3 b3 ⊢;rcases hcl p3 with e3 | e3
  case inr=>
   simp only[bK e3];refine Iq hG hd hfu k3 ?_;rw[aP]at e3;rw[dY e3]
  rw[au e3,aa2 (k3.bnd hfu) b3 (by unfold jJ at hG;unfold inI;simp only;omega),ai];rw[aI]at e3;rw[then_ok (p:=p3) e3];exact Iq hG hd hfu (k3.trans (Uw k3.right)) rfl
 ·have hc:yX d=fK d gy:=by unfold yX;rw[awg hg]
  rw[awg hg,awh rfl,hc,afC h oI.len,ai];have k0:=tN (n:=gy) hd;have b0:=Hg (n:=gy) hb;generalize fK d gy=p at k0 b0 ⊢;have hcl0:ieq p.2 0=true\/ieq p.2 0=false:=by cases ieq p.2 0<;>simp
  rcases hcl0 with e0 | e0
  case inr=>
   simp only[bK e0];refine Iq hG hd hfu k0 ?_;rw[aP]at e0;rw[dY (p:=p) e0,dY e0,dY e0,dY e0]
  rw[au e0,abJ (k0.bnd hfu) oI.len henc,ai];rw[aI]at e0;rw[then_ok (p:=p) e0];have k1:=k0.trans (tu (n:=gy) (b:=encZ s) k0.right);have b1:=Hf (n:=gy) b0 (Ru s);have hcl:∀q:ak×Int,ieq q.2 0=true\/ieq q.2 0=false:=fun q=>by cases ieq q.2 0<;>simp
  generalize hp1:dM p.1 gy (encZ s)=p1 at k1 b1 ⊢;rcases hcl p1 with e1 | e1
  case inr=>
   simp only[bK e1];refine Iq hG hd hfu k1 ?_;rw[aP]at e1;rw[dY e1,dY e1,dY e1]
  rw[au e1,aiN (k1.bnd hfu) oI.len,ai];rw[aI]at e1;rw[then_ok (p:=p1) e1];have k2:=k1.trans (J8 (n:=gy) k1.right);have b2:=Nv (n:=gy) b1;generalize pq p1.1 gy=p2 at k2 b2 ⊢;rcases hcl p2 with e2 | e2
  case inr=>
   simp only[bK e2];refine Iq hG hd hfu k2 ?_;rw[aP]at e2;rw[dY e2,dY e2]
  rw[au e2,U2,ai,alj (k2.bnd hfu) oI.len hN.len,ai];rw[aI]at e2;rw[then_ok (p:=p2) e2];have k3:=k2.trans (Ld (a:=gy) (b:=jC gen) k2.right);have b3:=PD (a:=gy) (b:=jC gen) b2;generalize jH p2.1 gy (jC gen)=p3 at k3 b3 ⊢;rcases hcl p3 with e3 | e3
  case inr=>
   simp only[bK e3];refine Iq hG hd hfu k3 ?_;rw[aP]at e3;rw[dY e3]
  rw[au e3,aa2 (k3.bnd hfu) b3 (by unfold jJ at hG;unfold inI;simp only;omega),ai];rw[aI]at e3;rw[then_ok (p:=p3) e3];exact Iq hG hd hfu (k3.trans (Uw k3.right)) rfl
theorem al1 {l:List aS} (h:J3 l) (hl:l.length<=100000) {i:Nat} (hi:i<l.length):zA l[i].name l=l.eraseIdx i:=by
 obtain⟨j,o,hs⟩:=lN h hl l[i].name;cases o with
 |none=>
  have:=hs.get;unfold dN at this;rw[List.find?_eq_none]at this;exact absurd (by simp) (this l[i] (awl hi))
 |some f=>
  obtain⟨hj,e1,e2⟩:=hs.lt;have:j=i:=by
   rcases ayf j i with c | c | c
   ·have:=aaD h c hi;rw[e1,e2]at this;exact absurd this (Qi _)
   ·exact c
   ·have:=aaD h c hj;rw[e1,e2]at this;exact absurd this (Qi _)
  rw[<-hs.del,this]
theorem apk {d:ak} {n:Nm} (h:(fK d n).2=0):(fK d n).1.b=zA n d.b/\fD d/\d.Q=false:=by
 unfold fK at h ⊢;by_cases h0:gG d [n]=0
 case neg=>rw[awh h0]at h;exact absurd h h0
 obtain⟨hd,hw, -⟩:=jc.1 h0;rw[awg (fun g=>g h0)]at h ⊢;cases hg:dN d.b n with
 |none=>rw[hg]at h;exact absurd h (show ¬(7:Int)=0 by decide)
 |some f=>
  rw[hg]at h;simp only at h ⊢;by_cases hs:(dG d).2=true
  ·rw[awh hs];exact⟨by unfold acB;rw[cZ],hd,hw⟩
  ·rw[awg hs]at h;exact absurd h (show ¬(9:Int)=0 by decide)
theorem Z4 (gen:Int) (p:ak×Int) (f:aS) (l:List aS):jS gen p (f::l)=jS gen (CJ gen p f) l:=rfl
theorem aqG {d0:ak} {p:ak×Int} {gen:Int} (hg:jJ gen) (hf:inI d0.T) (hk:Keep d0 p.1) (h0:p.2=0) (a b c:Int) (z:ak):
 Wq (ah (bU (fun v:Int×Int×Int×Int×ak×ak=>gJ gen v.1 v.2.1 v.2.2.1 v.2.2.2.1 v.2.2.2.2.1 v.2.2.2.2.2) LF (0,a,b,c,z,p.1)) fun y11=>dK y11 (fun y12=>some (y12.2.2.1,y12.2.1,y12.1)) fun y12=>some (y12.2.2.2.2,gen,0)) fun x=>x=RN gen (jS gen p p.1.b):=by
 refine Wq.bind (Q:=fun w=>match w with
  |.inl w=>w.1≠0/\w.2.1=0/\(w.2.2.1,w.1)=jS gen p p.1.b
  |.inr w=>(w.2.2.2.2,(0:Int))=jS gen p p.1.b)
  (Qs (step:=fun v:Int×Int×Int×Int×ak×ak=>gJ gen v.1 v.2.1 v.2.2.1 v.2.2.2.1 v.2.2.2.2.1 v.2.2.2.2.2)
    (fun v=>v.2.2.2.2.2.b.length - v.1.toNat)
    (fun v=>∃i:Nat,v.1=(i:Int)/\i<=v.2.2.2.2.2.b.length/\Keep d0 v.2.2.2.2.2/\jS gen (v.2.2.2.2.2,0) (v.2.2.2.2.2.b.drop i)=jS gen p p.1.b) _ ?_ LF _ (Zb (by have:=hk.right.fl;simp only;omega)) ⟨0,rfl,awm _,hk,by simp only[axP];rw[<-h0]⟩) ?_
 ·rintro⟨k,a,b,c,z,d⟩ ⟨i,rfl,hi,hkd,hsw⟩
  simp only at hi hkd hsw
  have hl:=hkd.right.fl
  simp only[gJ]
  rw[dF]
  refine⟨fun hlt=> ?_,fun hge=> ?_⟩
  ·rw[dm,axW]at hlt
   have hnm:=(hkd.right.2.1.1 _ (awl hlt)).1
   rw[axe hlt,Z4]at hsw
   rw[au (inb _ _ hlt),aN _ _ hlt,ale hnm.len,ai,dF]
   have hiff:(bor (ieq (ji mJ d.b[i].name) 0) (ieq (ji mJ d.b[i].name) gen)=true)↔¬(ji mJ d.b[i].name≠0/\d.b[i].name≠jC gen):=by
    simp only[aX,aI]
    constructor
    ·rintro(g | g) ⟨g1,g2⟩
     ·exact g1 g
     ·exact g2 (by rw[<-g];exact(akz g1).2)
    ·intro g
     by_cases e:ji mJ d.b[i].name=0
     ·exact .inl e
     ·right
      by_cases e2:d.b[i].name=jC gen
      ·rw[e2,acw hg]
      ·exact absurd ⟨e,e2⟩ g
   refine⟨fun hc=>(af _).2 ?_,fun hc=> ?_⟩
   ·have hno:=hiff.1 hc
    unfold CJ at hsw
    rw[awg hno]at hsw
    refine⟨⟨i+1,aZ (by omega),hlt,hkd,hsw⟩,?_⟩
    simp only
    rw[aZ (by omega)]
    omega
   ·have hyes:ji mJ d.b[i].name≠0/\d.b[i].name≠jC gen:=by
     apply azq;intro g;rw[hiff.2 g]at hc;cases hc
    unfold CJ at hsw
    rw[awh hyes,then_ok rfl]at hsw
    rw[au (inb _ _ hlt),af5 (hkd.bnd hf) hnm.len,ai,cO,dn]
    simp only at hsw
    by_cases e0:(fK d d.b[i].name).2=0
    ·rw[awh e0,af]
     have hk2:=hkd.trans (tN (n:=d.b[i].name) hkd.right)
     obtain⟨hfl,-, -⟩:=apk e0
     rw[al1 hkd.right.asc (by omega) hlt]at hfl
     have hlen:(fK d d.b[i].name).1.b.length=d.b.length - 1:=by rw[hfl,azp hlt]
     have hdr:(fK d d.b[i].name).1.b.drop i=d.b.drop (i+1):=by
      rw[hfl,ay3,ax4 (by rw[awu];omega),axR (by rw[awu];omega),aw1]
     refine⟨⟨i,rfl,by simp only;omega,hk2,?_⟩,?_⟩
     ·simp only
      rw[hdr,<-hsw,<-e0]
     ·simp only;omega
    ·rw[awg e0,af]
     refine⟨e0,rfl,?_⟩
     rw[<-hsw,Nw e0]
  ·have:¬i<d.b.length:=by rw[dm,axD]at hge;exact hge
   rw[af]
   rw[axR (by omega)]at hsw
   simp only
   rw[<-hsw];rfl
 ·rintro(w | w) hw
  ·simp only[dK,af]
   obtain⟨g1,g2,g3⟩:=hw
   rw[<-g3]
   unfold RN
   rw[awh g1,g2]
  ·simp only[dK,af]
   simp only at hw
   rw[<-hw]
   unfold RN
   rw[awg (fun g=>g rfl)]
theorem atM {d0:ak} {p q:ak×Int} {gen:Int} (hg:jJ gen) (hf:inI d0.T) (hk:Keep d0 p.1) (hq:q=p) (a b c:Int) (z:ak):
 Wq (cnd (ax (ieq p.2 0)) (some (p.1,0,p.2)) (ah (bU (fun v:Int×Int×Int×Int×ak×ak=>gJ gen v.1 v.2.1 v.2.2.1 v.2.2.2.1 v.2.2.2.2.1 v.2.2.2.2.2) LF (0,a,b,c,z,p.1)) fun y11=>dK y11 (fun y12=>some (y12.2.2.1,y12.2.1,y12.1)) fun y12=>some (y12.2.2.2.2,gen,0))) fun x=>x=RN gen (jS gen q q.1.b):=by
 subst hq
 rw[cO,dn]
 by_cases e:q.2=0
 ·rw[awh e];exact aqG hg hf hk e a b c z
 ·rw[awg e,af,Nw e];unfold RN;rw[awh e]
theorem adN {gen:Int} {p:ak×Int} (h:p.2≠0) (l:List aS):RN gen (jS gen p l)=(p.1,0,p.2):=by
 rw[Nw h];unfold RN;rw[awh h]
theorem alq {d0 p:ak} {gen lsn:Int} {b:List Int} (hg:jJ gen) (hf:inI d0.T) (hk:Keep d0 p) (hby:iW p) (hbb:jU b) (hbl:b.length<900000):
 Wq (ah (fO p [(UInt8.ofNat 116),(UInt8.ofNat 109),(UInt8.ofNat 112)] b) fun y14=>cnd (ax (ieq y14.2 0)) (some (y14.1,0,y14.2)) (ah (gq y14.1 [(UInt8.ofNat 116),(UInt8.ofNat 109),(UInt8.ofNat 112)]) fun y15=>cnd (ax (ieq y15.2 0)) (some (y15.1,0,y15.2)) (ah (qW gen) fun y16=>ah (mW y15.1 [(UInt8.ofNat 116),(UInt8.ofNat 109),(UInt8.ofNat 112)] y16) fun y17=>cnd (ax (ieq y17.2 0)) (some (y17.1,0,y17.2)) (ah (oD y17.1 (dU.mk gen lsn)) fun y18=>cnd (ax (ieq y18.2 0)) (some (y18.1,0,y18.2)) (ah (bU (fun v=>gJ gen v.1 v.2.1 v.2.2.1 v.2.2.2.1 v.2.2.2.2.1 v.2.2.2.2.2) LF (0,y18.2,0,0,ak.mk [] 0 0 false,y18.1)) fun y19=>dK y19 (fun y20=>some (y20.2.2.1,y20.2.1,y20.1)) fun y20=>some (y20.2.2.2.2,gen,0)))))) fun x=>x=
  RN gen (jS gen (jm (jm (jm (dM p gy b) fun d=>pq d gy) fun d=>jH d gy (jC gen)) fun d=>xI d ⟨gen,lsn⟩) (jm (jm (jm (dM p gy b) fun d=>pq d gy) fun d=>jH d gy (jC gen)) fun d=>xI d ⟨gen,lsn⟩).1.b):=by
 have et:[(UInt8.ofNat 116),(UInt8.ofNat 109),(UInt8.ofNat 112)]=gy:=rfl
 have hN:=Xo hg
 rw[et,aer (hk.bnd hf) oI.len hbl,ai,cO,dn]
 have k1:=hk.trans (tu (n:=gy) (b:=b) hk.right)
 have b1:=Hf (n:=gy) hby hbb
 generalize dM p gy b=p1 at k1 b1 ⊢
 by_cases e1:p1.2=0
 case neg=>rw[awg e1,af,dY e1,dY e1,dY e1,adN e1]
 rw[awh e1,then_ok (p:=p1) e1,alB (k1.bnd hf) oI.len,ai,cO,dn]
 have k2:=k1.trans (J8 (n:=gy) k1.right)
 have b2:=Nv (n:=gy) b1
 generalize pq p1.1 gy=p2 at k2 b2 ⊢
 by_cases e2:p2.2=0
 case neg=>rw[awg e2,af,dY e2,dY e2,adN e2]
 rw[awh e2,then_ok (p:=p2) e2,aiA hg,ai,apE (k2.bnd hf) oI.len hN.len,ai,cO,dn]
 have k3:=k2.trans (Ld (a:=gy) (b:=jC gen) k2.right)
 have b3:=PD (a:=gy) (b:=jC gen) b2
 generalize jH p2.1 gy (jC gen)=p3 at k3 b3 ⊢
 by_cases e3:p3.2=0
 case neg=>rw[awg e3,af,dY e3,adN e3]
 rw[awh e3,then_ok (p:=p3) e3,air (k3.bnd hf) b3 (by unfold jJ at hg;unfold inI;simp only;omega),ai]
 exact atM hg hf (k3.trans (Uw k3.right)) rfl _ _ _ _
theorem aiu {d:ak} {s:aB} (h:Ez d) (hb:iW d) (hr:iD s) (hsh:sG s):zD d s=some (mY d s):=by
 refine Wq.eq ?_;unfold zD mY;rw[Au h.nm,ai];have hr1:(dS d).2=1↔¬fD d:=by
  constructor
  ·intro g hd;unfold dS at g;rw[awg (fun k=>k hd)]at g;split at g
   ·exact absurd g (by decide)
   ·split at g<;>exact absurd g (by simp)
  ·intro hd;unfold dS;rw[awh hd]
 by_cases hd:fD d
 case neg=>
  rw[awR hd,aW,aK,aT,ai,kH,aU,af,awh (.inr (hr1.2 hd))]
 rw[awv hd,aK,aW,aU];refine(ajj hr hsh).bind fun y1 h1=> ?_;rw[dI,cO,tH];by_cases hR:iH s
 case neg=>rw[awg (fun g=>hR (h1.1 g)),af,awh (.inl hR)]
 have hne:¬(¬iH s\/(dS d).2=1):=fun g=>g.elim (fun g=>g hR) (fun g=>hr1.1 g hd);rw[awh (h1.2 hR),awg hne];cases hw:d.Q
 case true=>
  have h9:(dS d).2=9:=by unfold dS;rw[awg (fun g=>g hd),awh hw]
  rw[aU,af,awh h9]
 obtain⟨c1,c2⟩:=Ql hd hw;have h9:(dS d).2≠9:=by rcases c2 with ⟨g, -⟩ | ⟨g, -⟩<;>rw[g]<;>decide
 have hgn:=Nz d;have eg:wr .i64 (ay (dS d).1.K 1)=(dS d).1.K+1:=by rw[ay,bf (by omega) (by omega)]
 rw[aT,awg h9,adf h hb,ai,eg,xB];by_cases hov:1000000000<=(dS d).1.K
 ·rw[awh (by omega),af,awh hov]
 rw[awg (by omega),awg hov];have hG:jJ ((dS d).1.K+1):=⟨by omega,by omega⟩;generalize (dS d).1.K+1=gen at hG ⊢;have henc:(encZ s).length<900000:=by
  have h1:=aaJ s;have h2:=hR.few;omega
 simp only[apX hR,ai];unfold yV;have et:[(UInt8.ofNat 116),(UInt8.ofNat 109),(UInt8.ofNat 112)]=gy:=rfl;have hfu:=h.fu;refine(WX hd.asc (by have:=hd.fl;omega)).bind ?_;rintro k (⟨rfl,hgn⟩ | ⟨i,hi,rfl,hgs⟩)
 ·rw[et]at hgn;have hc:yX d=(d,0):=by unfold yX;rw[awh hgn]
  rw[bK (JA (by omega)),hc,show(jm (d,(0:Int)) fun d=>dM d gy (encZ s))=dM d gy (encZ s)from then_ok rfl];exact alq hG hfu (Keep.refl hd) hb (Ru s) henc
 ·rw[et]at hgs;have hc:yX d=fK d gy:=by unfold yX;rw[awg (by rw[hgs];intro e;cases e)]
  rw[au (dW (by omega)),hc]
  conv=>lhs;rw[et]
  rw[af5 h oI.len,ai,cO,dn];have k0:=tN (n:=gy) hd;have b0:=Hg (n:=gy) hb;generalize fK d gy=p at k0 b0 ⊢;by_cases e0:p.2=0
  case neg=>rw[awg e0,af,dY (p:=p) e0,dY e0,dY e0,dY e0,adN e0]
  rw[awh e0,then_ok (p:=p) e0];exact alq hG hfu k0 b0 (Ru s) henc
theorem ash {d:ak} (h:aaU d):iW d:=fun f hf=>aqM (h.b.1 f hf).data
theorem aou {d:ak} (h:aaU d) (hs:d.b.length<=70/\∀f∈d.b,f.name.length<=100/\f.data.length<=70000):Ez d:=
 ⟨fun f hf=>by have:=(hs.2 f hf).1;omega,h.T⟩
structure UpD (d:ak):Prop where
 right:fD d
 up:d.Q=false
structure afU (d e:ak) (c:Int):Prop where
 code:(c=0/\e.Q=false)\/(c=9/\e.Q=true/\d.T≠ -1)
 T:d.T= -1->e.T= -1
 keep:Keep d e
theorem afU.up {d e:ak} {c:Int} (h:afU d e c) (hc:c=0):UpD e:=⟨h.keep.right,by rcases h.code with g | g;exact g.2;rw[hc]at g;exact absurd g.1 (by decide)⟩
theorem afU.cases {d e:ak} {c:Int} (h:afU d e c):c=0\/(c=9/\e.Q=true/\d.T≠ -1):=h.code.imp (·.1) id
theorem UpD.first {d:ak} (h:UpD d) {ns:List Nm} (hn:∀n∈ns,iZ n):gG d ns=0:=jc.2 ⟨h.right,h.up,hn⟩
theorem Yl {d:ak} (h:UpD d):((dG d).2=true/\(dG d).1.Q=false)\/((dG d).2=false/\(dG d).1.Q=true/\d.T≠ -1):=by
 have:=aai d;have hu:=h.up;rcases this with ⟨h0,h1,h2,h3⟩ | ⟨h1,h2,h3,h4⟩
 ·exact .inr ⟨h3,h2,by omega⟩
 ·exact .inl ⟨h4,by rw[h3,hu]⟩
theorem NY {d:ak} (h:d.T= -1):dG d=(d,true):=by unfold dG;rw[awg (by omega),awh h]
theorem Un {d:ak} {n:Nm} {b:List Int} (h:UpD d) (hn:iZ n):
 ((dM d n b).2=6/\(dM d n b).1=d/\(d.qZ<(gK d.b:Int)+(b.length:Int)\/(dN d.b n=none/\64<=d.b.length)))\/
 (afU d (dM d n b).1 (dM d n b).2/\(∀m,dN (dM d n b).1.b m=if m=n then some ⟨n,((dN d.b n).getD ⟨n,[],0⟩).data++b,((dN d.b n).getD ⟨n,[],0⟩).J⟩else dN d.b m)/\
   gK (dM d n b).1.b=gK d.b+b.length/\(dM d n b).1.b.length<=d.b.length+1):=by
 have hk:=tu (n:=n) (b:=b) h.right
 have h0:=h.first (LC hn)
 unfold dM at hk ⊢
 rw[awg (fun g=>g h0)]at hk ⊢
 by_cases hc:d.qZ<(gK d.b:Int)+(b.length:Int)\/(dN d.b n=none/\64<=d.b.length)
 ·rw[awh hc];exact .inl ⟨rfl,rfl,hc⟩
 rw[awg hc]at hk ⊢
 right
 obtain⟨i,o,hs⟩:=lN h.right.asc (by have:=h.right.fl;omega) n
 generalize hF:(⟨n,((dN d.b n).getD ⟨n,[],0⟩).data++b,((dN d.b n).getD ⟨n,[],0⟩).J⟩:aS)=F at hk ⊢
 have hFn:F.name=n:=by rw[<-hF]
 have g1:=hs.used F hFn
 have g2:=hs.long F hFn
 have hup:(Ad d F).Q=false:=h.up
 have hold:F.data.length=YH o+b.length:=by
  rw[<-hF,<-hs.get]
  cases dN d.b n<;>simp [YH]
 refine⟨⟨?_,?_,hk⟩,fun m=> ?_,?_,?_⟩
 ·have hsf:=aai (Ad d F)
  rcases hsf with ⟨q0,q1,q2,q3⟩ | ⟨q1,q2,q3,q4⟩
  ·right;unfold aik;rw[q3];exact⟨rfl,q2,by have:d.T=0:=q0;omega⟩
  ·left;unfold aik;rw[q4];exact⟨rfl,by rw[q3];exact hup⟩
 ·intro hf
  rw[SC,NY (show(Ad d F).T= -1 from hf)];exact hf
 ·rw[SC,cZ]
  show dN (uq F d.b) m=_
  rw[get_put,hFn]
 ·rw[SC,cZ]
  show gK (uq F d.b)=_
  omega
 ·rw[SC,cZ]
  show(uq F d.b).length<=_
  rw[g2];split<;>omega
theorem ZM {d:ak} {n:Nm} {f:aS} (h:UpD d) (hn:iZ n) (hg:dN d.b n=some f):
 afU d (pq d n).1 (pq d n).2/\((pq d n).2=0->∀m,dN (pq d n).1.b m=if m=n then some ⟨n,f.data,len f.data⟩else dN d.b m)/\((pq d n).2≠0->(pq d n).1.b=d.b)/\
  gK (pq d n).1.b=gK d.b/\(pq d n).1.b.length=d.b.length:=by
 have hk:=J8 (n:=n) h.right
 have h0:=h.first (LC hn)
 unfold pq at hk ⊢
 rw[awg (fun g=>g h0),hg]at hk ⊢
 simp only at hk ⊢
 obtain⟨i,o,hs⟩:=lN h.right.asc (by have:=h.right.fl;omega) n
 have g1:=hs.used ⟨n,f.data,len f.data⟩ rfl
 have g2:=hs.long ⟨n,f.data,len f.data⟩ rfl
 have ho:=hs.get
 rw[hg]at ho
 subst ho
 rcases Yl h with ⟨q1,q2⟩ | ⟨q1,q2,q3⟩
 ·rw[awh q1]at hk ⊢
  refine⟨⟨.inl ⟨rfl,q2⟩,fun hf=> ?_,hk⟩,fun _ m=> ?_,fun g=>absurd rfl g,?_,?_⟩
  ·rw[NY hf];exact hf
  ·show dN (uq _ (dG d).1.b) m=_
   rw[cZ,get_put]
  ·show gK (uq _ (dG d).1.b)=_
   rw[cZ];simp only[YH]at g1;omega
  ·show(uq _ (dG d).1.b).length=_
   rw[cZ,g2];simp
 ·rw[awg (by rw[q1];decide)]at hk ⊢
  refine⟨⟨.inr ⟨rfl,q2,q3⟩,fun hf=>absurd hf q3,hk⟩,fun g=>absurd g (show ¬(9:Int)=0 by decide),fun _=>cZ d,?_,?_⟩
  ·rw[cZ]
  ·rw[cZ]
theorem UO {d:ak} {n:Nm} {f:aS} (h:UpD d) (hn:iZ n) (hg:dN d.b n=some f):
 afU d (fK d n).1 (fK d n).2/\((fK d n).2=0->∀m,dN (fK d n).1.b m=if m=n then none else dN d.b m)/\((fK d n).2≠0->(fK d n).1.b=d.b)/\
  gK (fK d n).1.b<=gK d.b/\(fK d n).1.b.length<=d.b.length:=by
 have hk:=tN (n:=n) h.right
 have h0:=h.first (LC hn)
 unfold fK at hk ⊢
 rw[awg (fun g=>g h0),hg]at hk ⊢
 simp only at hk ⊢
 obtain⟨i,o,hs⟩:=lN h.right.asc (by have:=h.right.fl;omega) n
 have g1:=hs.usedD
 have g2:=XA n d.b
 rcases Yl h with ⟨q1,q2⟩ | ⟨q1,q2,q3⟩
 ·rw[awh q1]at hk ⊢
  refine⟨⟨.inl ⟨rfl,q2⟩,fun hf=> ?_,hk⟩,fun _ m=> ?_,fun g=>absurd rfl g,?_,?_⟩
  ·rw[NY hf];exact hf
  ·show dN (zA _ (dG d).1.b) m=_
   rw[cZ,adQ]
  ·show gK (zA _ (dG d).1.b)<=_
   rw[cZ];omega
  ·show(zA _ (dG d).1.b).length<=_
   rw[cZ];exact g2
 ·rw[awg (by rw[q1];decide)]at hk ⊢
  refine⟨⟨.inr ⟨rfl,q2,q3⟩,fun hf=>absurd hf q3,hk⟩,fun g=>absurd g (show ¬(9:Int)=0 by decide),fun _=>cZ d,?_,?_⟩
  ·rw[cZ];exact awk _
  ·rw[cZ];exact awk _
theorem ah1 {d:ak} {a b:Nm} {f:aS} (h:UpD d) (ha:iZ a) (hb:iZ b) (hg:dN d.b a=some f):
 afU d (jH d a b).1 (jH d a b).2/\((jH d a b).2=0->∀m,dN (jH d a b).1.b m=if m=b then some ⟨b,f.data,f.J⟩else if m=a then none else dN d.b m)/\((jH d a b).2≠0->(jH d a b).1.b=d.b)/\
  gK (jH d a b).1.b<=gK d.b/\(jH d a b).1.b.length<=d.b.length:=by
 have hk:=Ld (a:=a) (b:=b) h.right
 have h0:=h.first (ns:=[a,b]) (by intro n hn;simp at hn;rcases hn with rfl | rfl<;>assumption)
 unfold jH at hk ⊢
 rw[awg (fun g=>g h0),hg]at hk ⊢
 simp only at hk ⊢
 obtain⟨i,o,hs⟩:=lN h.right.asc (by have:=h.right.fl;omega) a
 have g1:=hs.usedD
 have ho:=hs.get
 rw[hg]at ho
 subst ho
 have hd:=hs.del
 obtain⟨hil,-, -⟩:=hs.lt
 have hlen:(zA a d.b).length=d.b.length - 1:=by rw[<-hd,azp hil]
 obtain⟨j,o2,hs2⟩:=lN (aiv (n:=a) h.right.asc) (by have:=h.right.fl;omega) b
 have g3:=hs2.used ⟨b,f.data,f.J⟩ rfl
 have g4:=hs2.long ⟨b,f.data,f.J⟩ rfl
 rcases Yl h with ⟨q1,q2⟩ | ⟨q1,q2,q3⟩
 ·rw[awh q1]at hk ⊢
  refine⟨⟨.inl ⟨rfl,q2⟩,fun hf=> ?_,hk⟩,fun _ m=> ?_,fun g=>absurd rfl g,?_,?_⟩
  ·rw[NY hf];exact hf
  ·show dN (uq _ (zA a (dG d).1.b)) m=_
   rw[cZ,get_put,adQ]
  ·show gK (uq _ (zA a (dG d).1.b))<=_
   rw[cZ];simp only[YH]at g1 g3;omega
  ·show(uq _ (zA a (dG d).1.b)).length<=_
   rw[cZ,g4];split<;>omega
 ·rw[awg (by rw[q1];decide)]at hk ⊢
  refine⟨⟨.inr ⟨rfl,q2,q3⟩,fun hf=>absurd hf q3,hk⟩,fun g=>absurd g (show ¬(9:Int)=0 by decide),fun _=>cZ d,?_,?_⟩
  ·rw[cZ];exact awk _
  ·rw[cZ];exact awk _
theorem aoV {d:ak} {n:Nm} {f:aS} (h:UpD d) (hn:iZ n) (hg:dN d.b n=some f):
 afU d (Ce d n 0).1 (Ce d n 0).2/\((Ce d n 0).2=0->∀m,dN (Ce d n 0).1.b m=if m=n then some ⟨n,[],0⟩else dN d.b m)/\((Ce d n 0).2≠0->(Ce d n 0).1.b=d.b)/\
  gK (Ce d n 0).1.b<=gK d.b/\(Ce d n 0).1.b.length=d.b.length:=by
 have hk:=ae9 (n:=n) (k:=0) h.right
 have h0:=h.first (LC hn)
 have hs0:=(ai3 h.right hg).1.2.1
 unfold Ce at hk ⊢
 rw[awg (fun g=>g h0),hg]at hk ⊢
 simp only at hk ⊢
 have hno:¬((0:Int)<0\/len f.data<0):=by simp only[len];omega
 have hsu:(if (0:Int)<f.J then 0 else f.J)=0:=by split<;>omega
 rw[awg hno,hsu,show(0:Int).toNat=0 from rfl,ays]at hk ⊢
 obtain⟨i,o,hs⟩:=lN h.right.asc (by have:=h.right.fl;omega) n
 have g1:=hs.used ⟨n,[],0⟩ rfl
 have g2:=hs.long ⟨n,[],0⟩ rfl
 have ho:=hs.get
 rw[hg]at ho
 subst ho
 rcases Yl h with ⟨q1,q2⟩ | ⟨q1,q2,q3⟩
 ·rw[awh q1]at hk ⊢
  refine⟨⟨.inl ⟨rfl,q2⟩,fun hf=> ?_,hk⟩,fun _ m=> ?_,fun g=>absurd rfl g,?_,?_⟩
  ·rw[NY hf];exact hf
  ·show dN (uq _ (dG d).1.b) m=_
   rw[cZ,get_put]
  ·show gK (uq _ (dG d).1.b)<=_
   rw[cZ];simp only[YH,axm]at g1;omega
  ·show(uq _ (dG d).1.b).length=_
   rw[cZ,g2];simp
 ·rw[awg (by rw[q1];decide)]at hk ⊢
  refine⟨⟨.inr ⟨rfl,q2,q3⟩,fun hf=>absurd hf q3,hk⟩,fun g=>absurd g (show ¬(9:Int)=0 by decide),fun _=>cZ d,?_,?_⟩
  ·rw[cZ];exact awk _
  ·rw[cZ]
theorem aun:gy≠n0:=by decide
theorem au1:gy≠n1:=by decide
theorem ait {g:Int} (h:jJ g) {n:Nm} (hn:n.length≠15):jC g≠n:=fun e=>hn (by rw[<-e];exact Yo h)
theorem ai7 (g:Int):(nmS g).length=6:=by unfold nmS;split<;>rfl
theorem ah7 (g:Int):nmS g≠gy:=fun e=>by have:=ai7 g;rw[e]at this;exact absurd this (by decide)
theorem ani:ji mJ gy=0:=by decide
theorem au6:ji mJ n0=0:=by decide
theorem au5:ji mJ n1=0:=by decide
theorem am9 (g:Int):ji mJ (nmS g)=0:=by unfold nmS;split;exact au6;exact au5
structure Kq (D x:ak):Prop where
 oth:∀n,n≠gy->dN x.b n=dN D.b n
structure ab1 (D:ak) (gen:Int) (b w:List Int) (x:ak):Prop where
 oth:∀n,n≠gy->n≠jC gen->n≠nmS gen->dN x.b n=dN D.b n
 snap:dN x.b (jC gen)=some ⟨jC gen,b,len b⟩
 slot:dN x.b (nmS gen)=dN D.b (nmS gen)\/∃f,dN x.b (nmS gen)=some f/\f.J=0/\(f.data=[]\/f.data=w)
structure UK (D:ak) (gen:Int) (b w:List Int) (x:ak):Prop where
 oth:∀n,n≠gy->n≠nmS gen->ji mJ n=0->dN x.b n=dN D.b n
 snap:dN x.b (jC gen)=some ⟨jC gen,b,len b⟩
 slot:dN x.b (nmS gen)=some ⟨nmS gen,w,len w⟩
 olds:∀n,ji mJ n≠0->n≠jC gen->dN x.b n=none\/dN x.b n=dN D.b n
 tmp:dN x.b gy=none
structure LM (D x:ak) (m k:Nat):Prop where
 keep:Keep D x
 T:D.T= -1->x.T= -1
 used:gK x.b<=gK D.b+m
 long:x.b.length<=D.b.length+k
def ave (D:ak) (m:Nat):Prop:=D.qZ<(gK D.b:Int)+(m:Int)+20\/63<=D.b.length
def ZE (D:ak) (m:Nat) (c:Int):Prop:=(c=6/\ave D m)\/(c=9/\D.T≠ -1)
theorem ZE.ne {D:ak} {m:Nat} {c:Int} (h:ZE D m c):c≠0:=by
 rcases h with ⟨h, -⟩ | ⟨h, -⟩<;>rw[h]<;>decide
theorem LM.pow {D x y:ak} {m k m' k':Nat} {c:Int} (h:LM D x m k) (p:afU x y c) (hu:gK y.b<=gK D.b+m') (hl:y.b.length<=D.b.length+k'):LM D y m' k':=
 ⟨h.keep.trans p.keep,fun hf=>p.T (h.T hf),hu,hl⟩
theorem U0 {D x y:ak} {m k:Nat} {c:Int} (h:LM D x m k) (p:afU x y c) (hc:c≠0) (mm:Nat):ZE D mm c:=by
 rcases p.cases with g | ⟨g,-, g2⟩
 ·exact absurd g hc
 ·exact .inr ⟨g,fun hf=>g2 (h.T hf)⟩
theorem av4 {D:ak} (h:UpD D) (m:Nat):LM D (yX D).1 0 0/\Kq D (yX D).1/\(((yX D).2=0/\(yX D).1.Q=false/\dN (yX D).1.b gy=none)\/ZE D m (yX D).2):=by
 have run0:LM D D 0 0:=⟨Keep.refl h.right,id,awk _,awk _⟩;unfold yX;cases hg:dN D.b gy with
 |none=>rw[awh rfl];exact⟨run0,⟨fun n _=>rfl⟩,.inl ⟨rfl,h.up,hg⟩⟩
 |some f=>
  rw[awg (by intro e;cases e)];obtain⟨hp,h1,h2,h3,h4⟩:=UO h oI hg;refine⟨run0.pow hp (by omega) (by omega),⟨fun n hn=> ?_⟩,?_⟩
  ·by_cases hc:(fK D gy).2=0
   ·rw[h1 hc n,awg hn]
   ·rw[h2 hc]
  ·by_cases hc:(fK D gy).2=0
   ·left;exact⟨hc,(hp.up hc).up,by rw[h1 hc,awh rfl]⟩
   ·right;exact U0 run0 hp hc m
theorem avc {D:ak} {p:ak×Int} {b:List Int} (hr:LM D p.1 0 0) (hA:Kq D p.1) (hc:(p.2=0/\p.1.Q=false/\dN p.1.b gy=none)\/ZE D b.length p.2):
 LM D (jm p fun d=>dM d gy b).1 b.length 1/\Kq D (jm p fun d=>dM d gy b).1/\
 (((jm p fun d=>dM d gy b).2=0/\(jm p fun d=>dM d gy b).1.Q=false/\dN (jm p fun d=>dM d gy b).1.b gy=some ⟨gy,b,0⟩)\/ZE D b.length (jm p fun d=>dM d gy b).2):=by
 have hr1:LM D p.1 b.length 1:=⟨hr.keep,hr.T,by have:=hr.used;omega,by have:=hr.long;omega⟩
 rcases hc with ⟨h0,hw,hg⟩ | hb
 case inr=>rw[dY hb.ne];exact⟨hr1,hA,.inr hb⟩
 rw[then_ok h0]
 have hu:UpD p.1:=⟨hr.keep.right,hw⟩
 rcases Un (b:=b) hu oI with ⟨a1,a2,a3⟩ | ⟨a1,a2,a3,a4⟩
 ·refine⟨by rw[a2];exact hr1,by rw[a2];exact hA,.inr (.inl ⟨a1,?_⟩)⟩
  have:=hr.used;have:=hr.long;have:=hr.keep.qZ
  rcases a3 with g | ⟨-, g⟩
  ·left;omega
  ·right;omega
 ·refine⟨hr.pow a1 (by have:=hr.used;omega) (by have:=hr.long;omega),⟨fun n hn=> ?_⟩,?_⟩
  ·rw[a2,awg hn];exact hA.oth n hn
  ·by_cases hc:(dM p.1 gy b).2=0
   ·left;exact⟨hc,(a1.up hc).up,by rw[a2,awh rfl,hg];rfl⟩
   ·right;exact U0 hr a1 hc _
theorem avd {D:ak} {p:ak×Int} {b:List Int} (hr:LM D p.1 b.length 1) (hA:Kq D p.1) (hc:(p.2=0/\p.1.Q=false/\dN p.1.b gy=some ⟨gy,b,0⟩)\/ZE D b.length p.2):
 LM D (jm p fun d=>pq d gy).1 b.length 1/\Kq D (jm p fun d=>pq d gy).1/\
 (((jm p fun d=>pq d gy).2=0/\(jm p fun d=>pq d gy).1.Q=false/\dN (jm p fun d=>pq d gy).1.b gy=some ⟨gy,b,len b⟩)\/ZE D b.length (jm p fun d=>pq d gy).2):=by
 rcases hc with ⟨h0,hw,hg⟩ | hb
 case inr=>rw[dY hb.ne];exact⟨hr,hA,.inr hb⟩
 rw[then_ok h0]
 have hu:UpD p.1:=⟨hr.keep.right,hw⟩
 obtain⟨a1,a2,a3,a4,a5⟩:=ZM hu oI hg
 refine⟨hr.pow a1 (by have:=hr.used;omega) (by have:=hr.long;omega),⟨fun n hn=> ?_⟩,?_⟩
 ·by_cases hc:(pq p.1 gy).2=0
  ·rw[a2 hc,awg hn];exact hA.oth n hn
  ·rw[a3 hc];exact hA.oth n hn
 ·by_cases hc:(pq p.1 gy).2=0
  ·left;exact⟨hc,(a1.up hc).up,by rw[a2 hc,awh rfl]⟩
  ·right;exact U0 hr a1 hc _
structure adX (D:ak) (gen:Int) (b:List Int) (x:ak):Prop where
 oth:∀n,n≠gy->n≠jC gen->dN x.b n=dN D.b n
 snap:dN x.b (jC gen)=some ⟨jC gen,b,len b⟩
 tmp:dN x.b gy=none
theorem walk3 {D:ak} {p:ak×Int} {b:List Int} {gen:Int} (hG:jJ gen) (hr:LM D p.1 b.length 1) (hA:Kq D p.1) (hc:(p.2=0/\p.1.Q=false/\dN p.1.b gy=some ⟨gy,b,len b⟩)\/ZE D b.length p.2):
 LM D (jm p fun d=>jH d gy (jC gen)).1 b.length 1/\
 (((jm p fun d=>jH d gy (jC gen)).2=0/\(jm p fun d=>jH d gy (jC gen)).1.Q=false/\adX D gen b (jm p fun d=>jH d gy (jC gen)).1)\/
  (Kq D (jm p fun d=>jH d gy (jC gen)).1/\ZE D b.length (jm p fun d=>jH d gy (jC gen)).2)):=by
 rcases hc with ⟨h0,hw,hg⟩ | hb
 case inr=>rw[dY hb.ne];exact⟨hr,.inr ⟨hA,hb⟩⟩
 rw[then_ok h0]
 have hu:UpD p.1:=⟨hr.keep.right,hw⟩
 have hne:jC gen≠gy:=ait hG (by decide)
 obtain⟨a1,a2,a3,a4,a5⟩:=ah1 hu oI (Xo hG) hg
 refine⟨hr.pow a1 (by have:=hr.used;omega) (by have:=hr.long;omega),?_⟩
 by_cases hc:(jH p.1 gy (jC gen)).2=0
 ·left
  refine⟨hc,(a1.up hc).up,⟨fun n h1 h2=> ?_,?_,?_⟩⟩
  ·rw[a2 hc,awg h2,awg h1];exact hA.oth n h1
  ·rw[a2 hc,awh rfl]
  ·rw[a2 hc,awg (awE hne),awh rfl]
 ·right
  exact⟨⟨fun n hn=>by rw[a3 hc];exact hA.oth n hn⟩,U0 hr a1 hc _⟩
theorem adX.ct {D x:ak} {gen:Int} {b:List Int} (hG:jJ gen) (h:adX D gen b x) {n:Nm} (h1:n≠gy) (h2:n.length≠15):dN x.b n=dN D.b n:=h.oth n h1 (awE (ait hG h2))
theorem walk4 {D:ak} {p:ak×Int} {b:List Int} {gen lsn:Int} (hD:UpD D) (hG:jJ gen) (hs:FK ⟨gen,lsn⟩) (hgen:gen=(dS D).1.K+1) (hr:LM D p.1 b.length 1)
 (hc:(p.2=0/\p.1.Q=false/\adX D gen b p.1)\/(Kq D p.1/\ZE D b.length p.2)):
 LM D (jm p fun d=>xI d ⟨gen,lsn⟩).1 (b.length+20) 2/\
 (((jm p fun d=>xI d ⟨gen,lsn⟩).2=0/\(jm p fun d=>xI d ⟨gen,lsn⟩).1.Q=false/\UK D gen b (yh ⟨gen,lsn⟩) (jm p fun d=>xI d ⟨gen,lsn⟩).1)\/
  ((Kq D (jm p fun d=>xI d ⟨gen,lsn⟩).1\/ab1 D gen b (yh ⟨gen,lsn⟩) (jm p fun d=>xI d ⟨gen,lsn⟩).1)/\ZE D b.length (jm p fun d=>xI d ⟨gen,lsn⟩).2)):=by
 have hr1:LM D p.1 (b.length+20) 2:=⟨hr.keep,hr.T,by have:=hr.used;omega,by have:=hr.long;omega⟩
 rcases hc with ⟨h0,hw,hB⟩ | ⟨hA,hb⟩
 case inr=>rw[dY hb.ne];exact⟨hr1,.inr ⟨.inl hA,hb⟩⟩
 rw[then_ok h0]
 have hu:UpD p.1:=⟨hr.keep.right,hw⟩
 generalize p.1=x at hr hr1 hB hu ⊢
 clear h0 hw
 have c0:ctF x.b n0=ctF D.b n0:=by unfold ctF;rw[hB.ct hG (awE aun) (by decide)]
 have c1:ctF x.b n1=ctF D.b n1:=by unfold ctF;rw[hB.ct hG (awE au1) (by decide)]
 obtain⟨r1,r2⟩:=Ql hu.right hu.up
 obtain⟨q1,q2⟩:=Ql hD.right hD.up
 have hz:DI x.b=DI D.b:=by unfold DI;rw[c0,c1]
 have hn1:(dS x).2≠1:=by rcases r2 with ⟨g, -⟩ | ⟨g, -⟩<;>rw[g]<;>decide
 have hn9:(dS x).2≠9:=by rcases r2 with ⟨g, -⟩ | ⟨g, -⟩<;>rw[g]<;>decide
 have hw:xI x ⟨gen,lsn⟩=ai6 x (nmS gen) (yh ⟨gen,lsn⟩):=by
  unfold xI
  rw[awg (fun g=>g.elim (fun g=>g hs) hn1),awg hn9,awg (fun g=>g (by simp only;rw[r1,hz,<-q1];exact hgen))]
 rw[hw]
 have hnm:=acu gen
 have hwl:=ab9 ⟨gen,lsn⟩
 generalize yh ⟨gen,lsn⟩=w at hwl ⊢
 have hsl:=hB.ct hG (ah7 gen) (by rw[ai7];decide)
 have hne:jC gen≠nmS gen:=ait hG (by rw[ai7];decide)
 have s0:LM D (uN x (nmS gen)).1 b.length 1/\(∀n,n≠nmS gen->dN (uN x (nmS gen)).1.b n=dN x.b n)/\
  (((uN x (nmS gen)).2=0/\(uN x (nmS gen)).1.Q=false/\(dN (uN x (nmS gen)).1.b (nmS gen)=none\/dN (uN x (nmS gen)).1.b (nmS gen)=some ⟨nmS gen,[],0⟩))\/
   (ZE D b.length (uN x (nmS gen)).2))/\(dN (uN x (nmS gen)).1.b (nmS gen)=dN x.b (nmS gen)\/dN (uN x (nmS gen)).1.b (nmS gen)=some ⟨nmS gen,[],0⟩):=by
  unfold uN
  cases hg:dN x.b (nmS gen)with
  |none=>rw[awh rfl];exact⟨hr,fun _ _=>rfl,.inl ⟨rfl,hu.up,.inl hg⟩,.inl hg⟩
  |some f=>
   rw[awg (by intro e;cases e)]
   obtain⟨a1,a2,a3,a4,a5⟩:=aoV hu hnm hg
   refine⟨hr.pow a1 (by have:=hr.used;omega) (by have:=hr.long;omega),fun n hn=> ?_,?_,?_⟩
   ·by_cases hc:(Ce x (nmS gen) 0).2=0
    ·rw[a2 hc,awg hn]
    ·rw[a3 hc]
   ·by_cases hc:(Ce x (nmS gen) 0).2=0
    ·left;exact⟨hc,(a1.up hc).up,.inr (by rw[a2 hc,awh rfl])⟩
    ·right;exact U0 hr a1 hc _
   ·by_cases hc:(Ce x (nmS gen) 0).2=0
    ·right;rw[a2 hc,awh rfl]
    ·left;rw[a3 hc];exact hg
 obtain⟨s1,s2,s3,s4⟩:=s0
 unfold ai6
 generalize uN x (nmS gen)=y at s1 s2 s3 s4 ⊢
 have toB:∀z:ak,(∀n,n≠nmS gen->dN z.b n=dN x.b n)->(dN z.b (nmS gen)=dN x.b (nmS gen)\/∃f,dN z.b (nmS gen)=some f/\f.J=0/\(f.data=[]\/f.data=w))->ab1 D gen b w z:=fun z g1 g2=>
  ⟨fun n h1 h2 h3=>by rw[g1 n h3];exact hB.oth n h1 h2,by rw[g1 _ hne];exact hB.snap,g2.imp (fun g=>by rw[g,hsl]) id⟩
 have s4':dN y.1.b (nmS gen)=dN x.b (nmS gen)\/∃f,dN y.1.b (nmS gen)=some f/\f.J=0/\(f.data=[]\/f.data=w):=s4.imp id fun g=>⟨_,g,rfl,.inl rfl⟩
 have s1':LM D y.1 (b.length+20) 2:=⟨s1.keep,s1.T,by have:=s1.used;omega,by have:=s1.long;omega⟩
 rcases s3 with ⟨g0,gw,gs⟩ | gb
 case inr=>
  rw[dY gb.ne,dY gb.ne]
  exact⟨s1',.inr ⟨.inr (toB _ s2 s4'),gb⟩⟩
 rw[then_ok (p:=y) g0]
 have hyu:UpD y.1:=⟨s1.keep.right,gw⟩
 have hold:(dN y.1.b (nmS gen)).getD ⟨nmS gen,[],0⟩=⟨nmS gen,[],0⟩:=by
  rcases gs with g | g<;>rw[g]<;>rfl
 rcases Un (b:=w) hyu hnm with ⟨a1,a2,a3⟩ | ⟨a1,a2,a3,a4⟩
 ·rw[dY (by rw[a1];decide)]
  refine⟨by rw[a2];exact s1',.inr ⟨.inr (by rw[a2];exact toB _ s2 s4'),.inl ⟨a1,?_⟩⟩⟩
  have:=s1.used;have:=s1.long;have:=s1.keep.qZ
  rcases a3 with g | ⟨-, g⟩
  ·left;omega
  ·right;omega
 rw[hold]at a2
 simp only[aw1]at a2
 have t1:LM D (dM y.1 (nmS gen) w).1 (b.length+20) 2:=s1.pow a1 (by have:=s1.used;omega) (by have:=s1.long;omega)
 have t2:∀n,n≠nmS gen->dN (dM y.1 (nmS gen) w).1.b n=dN x.b n:=fun n hn=>by rw[a2,awg hn];exact s2 n hn
 have t3:dN (dM y.1 (nmS gen) w).1.b (nmS gen)=some ⟨nmS gen,w,0⟩:=by rw[a2,awh rfl]
 by_cases hc:(dM y.1 (nmS gen) w).2=0
 case neg=>
  rw[dY hc]
  exact⟨t1,.inr ⟨.inr (toB _ t2 (.inr ⟨_,t3,rfl,.inr rfl⟩)),U0 s1 a1 hc _⟩⟩
 rw[then_ok hc]
 have hzu:=a1.up hc
 obtain⟨b1,b2,b3,b4,b5⟩:=ZM hzu hnm t3
 have u1:LM D (pq (dM y.1 (nmS gen) w).1 (nmS gen)).1 (b.length+20) 2:=t1.pow b1 (by have:=t1.used;omega) (by have:=t1.long;omega)
 refine⟨u1,?_⟩
 by_cases hc2:(pq (dM y.1 (nmS gen) w).1 (nmS gen)).2=0
 ·left
  refine⟨hc2,(b1.up hc2).up,⟨fun n h1 h2 h3=> ?_,?_,?_,fun n h1 h2=> .inr ?_,?_⟩⟩
  ·rw[b2 hc2,awg h2,t2 n h2]
   by_cases e:n=jC gen
   ·rw[e,acw hG]at h3;unfold jJ at hG;omega
   ·exact hB.oth n h1 e
  ·rw[b2 hc2,awg hne,t2 _ hne];exact hB.snap
  ·rw[b2 hc2,awh rfl]
  ·have hns:n≠nmS gen:=fun e=>h1 (by rw[e];exact am9 gen)
   have hnt:n≠gy:=fun e=>h1 (by rw[e];exact ani)
   rw[b2 hc2,awg hns,t2 n hns];exact hB.oth n hnt h2
  ·rw[b2 hc2,awg (awE (ah7 gen)),t2 _ (awE (ah7 gen))];exact hB.tmp
 ·right
  exact⟨.inr (toB _ (fun n hn=>by rw[b3 hc2];exact t2 n hn) (.inr ⟨_,by rw[b3 hc2];exact t3,rfl,.inr rfl⟩)),U0 t1 b1 hc2 _⟩
theorem aht {l:List aS} {f:aS} (h:J3 (f::l)):∀g∈l,g.name≠f.name:=fun g hg=>(Hu ((ay7.1 h).1 g hg)).symm
theorem get_mem {l:List aS} (h:J3 l) {f:aS} (hf:f∈l):dN l f.name=some f:=by
 induction l with
 |nil=>cases hf
 |cons g l ih=>
  rw[uy];rcases aww.1 hf with rfl | hf
  ·rw[awh rfl]
  ·rw[awg (fun e=>aht h f hf e.symm)];exact ih (ay7.1 h).2 hf
theorem ZY {D:ak} {gen:Int} {b w:List Int} {M K:Nat} (hG:jJ gen):∀(l:List aS) (p:ak×Int),J3 l->(∀f∈l,iZ f.name)->LM D p.1 M K->p.2=0->p.1.Q=false->UK D gen b w p.1->
 (∀f∈l,ji mJ f.name≠0->f.name≠jC gen->dN p.1.b f.name≠none)->
 LM D (jS gen p l).1 M K/\UK D gen b w (jS gen p l).1/\
 (((jS gen p l).2=0/\(jS gen p l).1.Q=false/\(∀f∈l,ji mJ f.name≠0->f.name≠jC gen->dN (jS gen p l).1.b f.name=none)/\(∀n,dN p.1.b n=none->dN (jS gen p l).1.b n=none))\/
  ((jS gen p l).2=9/\D.T≠ -1))
 |[],p,_,_,hr,h0,hw,hC,_=>⟨hr,hC,.inl ⟨h0,hw,fun f hf=>(by cases hf),fun n h=>h⟩⟩
 |f::l,p,ha,hn,hr,h0,hw,hC,hp=>by
  rw[Z4]
  have hal:=(ay7.1 ha).2
  have hnl:∀g∈l,iZ g.name:=fun g hg=>hn g (awX _ hg)
  by_cases hs:ji mJ f.name≠0/\f.name≠jC gen
  case neg=>
   have e:CJ gen p f=p:=by unfold CJ;rw[awg hs]
   rw[e]
   obtain⟨g1,g2,g3⟩:=ZY hG l p hal hnl hr h0 hw hC (fun g hg=>hp g (awX _ hg))
   refine⟨g1,g2,g3.imp (fun⟨q1,q2,q3,q4⟩=>⟨q1,q2,fun g hg h1 h2=> ?_,q4⟩) id⟩
   rcases aww.1 hg with rfl | hg
   ·exact absurd ⟨h1,h2⟩ hs
   ·exact q3 g hg h1 h2
  have hu:UpD p.1:=⟨hr.keep.right,hw⟩
  have hne:=hp f (aw0 ..) hs.1 hs.2
  obtain⟨k,hk⟩:∃k,dN p.1.b f.name=some k:=by
   cases h:dN p.1.b f.name with
   |none=>exact absurd h hne
   |some k=>exact⟨k,rfl⟩
  obtain⟨a1,a2,a3,a4,a5⟩:=UO hu (hn f (aw0 ..)) hk
  have e:CJ gen p f=fK p.1 f.name:=by unfold CJ;rw[awh hs,then_ok h0]
  rw[e]
  have hr1:LM D (fK p.1 f.name).1 M K:=hr.pow a1 (by have:=hr.used;omega) (by have:=hr.long;omega)
  have hf0:f.name≠gy:=fun g=>hs.1 (by rw[g];exact ani)
  have hfS:f.name≠nmS gen:=fun g=>hs.1 (by rw[g];exact am9 gen)
  by_cases hc:(fK p.1 f.name).2=0
  ·have get:=a2 hc
   have hC1:UK D gen b w (fK p.1 f.name).1:=by
    refine⟨fun n h1 h2 h3=> ?_,?_,?_,fun n h1 h2=> ?_,?_⟩
    ·rw[get,awg (fun g=>hs.1 (by rw[<-g];exact h3))];exact hC.oth n h1 h2 h3
    ·rw[get,awg (awE hs.2)];exact hC.snap
    ·rw[get,awg (awE hfS)];exact hC.slot
    ·rw[get];split
     ·exact .inl rfl
     ·exact hC.olds n h1 h2
    ·rw[get,awg (awE hf0)];exact hC.tmp
   obtain⟨g1,g2,g3⟩:=ZY hG l (fK p.1 f.name) hal hnl hr1 hc (a1.up hc).up hC1 (fun g hg h1 h2=>by
    rw[get,awg (aht ha g hg)]
    exact hp g (awX _ hg) h1 h2)
   refine⟨g1,g2,g3.imp (fun⟨q1,q2,q3,q4⟩=>⟨q1,q2,fun g hg h1 h2=> ?_,fun n hn2=>q4 n ?_⟩) id⟩
   ·rcases aww.1 hg with rfl | hg
    ·exact q4 _ (by rw[get,awh rfl])
    ·exact q3 g hg h1 h2
   ·rw[get];split
    ·rfl
    ·exact hn2
  ·rw[Nw hc]
   have get:=a3 hc
   refine⟨hr1,?_,.inr ?_⟩
   ·exact⟨fun n h1 h2 h3=>by rw[get];exact hC.oth n h1 h2 h3,by rw[get];exact hC.snap,by rw[get];exact hC.slot,fun n h1 h2=>by rw[get];exact hC.olds n h1 h2,by rw[get];exact hC.tmp⟩
   ·rcases a1.cases with g | ⟨g,-, g2⟩
    ·exact absurd g hc
    ·exact⟨g,fun hf=>g2 (hr.T hf)⟩
structure auT (D:ak) (gen:Int) (b w:List Int) (r:ak×Int×Int):Prop where
 run:LM D r.1 (b.length+20) 2
 how:(r.2.2=0/\r.2.1=gen/\r.1.Q=false/\UK D gen b w r.1/\∀n,ji mJ n≠0->n≠jC gen->dN r.1.b n=none)\/
  (r.2.1=0/\ZE D b.length r.2.2/\(Kq D r.1\/ab1 D gen b w r.1\/UK D gen b w r.1))
theorem afl {D:ak} {s:aB} (hD:UpD D) (hs:iH s) (hg:(dS D).1.K<1000000000) (hl:0<=s.B/\s.B<=1000000000):
 auT D ((dS D).1.K+1) (encZ s) (yh ⟨(dS D).1.K+1,s.B⟩) (mY D s):=by
 have hgr:=Nz D
 obtain⟨q1,q2⟩:=Ql hD.right hD.up
 have hn1:(dS D).2≠1:=by rcases q2 with ⟨g, -⟩ | ⟨g, -⟩<;>rw[g]<;>decide
 have hn9:(dS D).2≠9:=by rcases q2 with ⟨g, -⟩ | ⟨g, -⟩<;>rw[g]<;>decide
 have hsave:mY D s=RN ((dS D).1.K+1) (jS ((dS D).1.K+1) (yV D ((dS D).1.K+1) s.B (encZ s)) (yV D ((dS D).1.K+1) s.B (encZ s)).1.b):=by
  unfold mY
  rw[awg (fun g=>g.elim (fun g=>g hs) hn1),awg hn9,awg (by omega)]
 rw[hsave]
 have hG:jJ ((dS D).1.K+1):=⟨by omega,by omega⟩
 have hsl:FK ⟨(dS D).1.K+1,s.B⟩:=⟨hG.1,hG.2,hl.1,hl.2⟩
 have w0:=av4 hD (encZ s).length
 have w1:=avc (b:=encZ s) w0.1 w0.2.1 w0.2.2
 have w2:=avd w1.1 w1.2.1 w1.2.2
 have w3:=walk3 hG w2.1 w2.2.1 w2.2.2
 have w4:=walk4 hD hG hsl rfl w3.1 w3.2
 change LM D (yV D ((dS D).1.K+1) s.B (encZ s)).1 _ _/\(((yV D ((dS D).1.K+1) s.B (encZ s)).2=0/\(yV D ((dS D).1.K+1) s.B (encZ s)).1.Q=false/\UK D _ _ _ (yV D ((dS D).1.K+1) s.B (encZ s)).1)\/((Kq D (yV D ((dS D).1.K+1) s.B (encZ s)).1\/ab1 D _ _ _ (yV D ((dS D).1.K+1) s.B (encZ s)).1)/\ZE D _ (yV D ((dS D).1.K+1) s.B (encZ s)).2))at w4
 generalize (dS D).1.K+1=gen at hG w4 ⊢
 generalize yV D gen s.B (encZ s)=p at w4 ⊢
 generalize encZ s=b at w4 ⊢
 obtain⟨hr,hc⟩:=w4
 rcases hc with ⟨h0,hw,hC⟩ | ⟨hAB,hb⟩
 case inr=>
  rw[Nw hb.ne]
  unfold RN
  rw[awh hb.ne]
  exact⟨hr,.inr ⟨rfl,hb,hAB.imp id .inl⟩⟩
 obtain⟨g1,g2,g3⟩:=ZY hG p.1.b p hr.keep.right.asc (fun f hf=>(hr.keep.right.2.1.1 f hf).1) hr h0 hw hC (fun f hf _ _=>by rw[get_mem hr.keep.right.asc hf];intro e;cases e)
 generalize hq:jS gen p p.1.b=q at g1 g2 g3 ⊢
 rcases g3 with ⟨k1,k2,k3,k4⟩ | ⟨k1,k2⟩
 ·unfold RN
  rw[awg (fun g=>g k1)]
  refine⟨g1,.inl ⟨rfl,rfl,k2,g2,fun n h1 h2=> ?_⟩⟩
  show dN q.1.b n=none
  cases hp:dN p.1.b n with
  |none=>exact k4 n hp
  |some f=>
   obtain⟨m1,m2⟩:=BQ hp
   have:=k3 f m1 (by rw[m2];exact h1) (by rw[m2];exact h2)
   rwa[m2]at this
 ·unfold RN
  rw[awh (by rw[k1];decide)]
  exact⟨g1,.inr ⟨rfl,.inr ⟨k1,k2⟩,.inr (.inr g2)⟩⟩
theorem apu {D:ak} {s:aB} (hb:iW D):iW (mY D s).1:=by
 unfold mY;split
 ·exact hb
 ·split
  ·exact hb
  ·split
   ·exact hb
   ·have:=aeW (gen:=(dS D).1.K+1) (yV D ((dS D).1.K+1) s.B (encZ s)).1.b (alC (gen:=(dS D).1.K+1) (lsn:=s.B) hb (Ru s));unfold RN;split<;>exact this
def wu:Nm:=[108,111,103,46]
def kz (g:Int):Nm:=uT wu g
theorem Sl {g:Int} (h:jJ g):kz g=wu++aah g.toNat:=by
 unfold kz uT aah;have:fmt10 g=NS 20 g.toNat:=by unfold fmt10;rw[awg (by have:=h.1;omega)]
 rw[awg (by unfold jJ at h;omega),this,awT]
theorem aoT {g:Int} (h:¬jJ g):kz g=[]:=by
 unfold kz uT;rw[awh (by unfold jJ at h;omega)]
theorem acr {g:Int} (h:jJ g):(kz g).length=14:=by
 rw[Sl h,awn,SA (by unfold jJ at h;omega)];rfl
theorem Nu {g:Int} (h:jJ g):ji wu (kz g)=g:=by
 have hv:g.toNat<=1000000000:=by unfold jJ at h;omega
 have e1:(kz g).take wu.length=wu:=by rw[Sl h,List.take_left]
 have e2:(kz g).drop wu.length=aah g.toNat:=by rw[Sl h,List.drop_left]
 unfold ji;rw[e1,e2,awh ⟨rfl,SA hv,TJ _,by rw[TF hv];exact hv⟩,TF hv];unfold jJ at h;omega
theorem acT {s:Nm} (h:ji wu s≠0):jJ (ji wu s)/\s=kz (ji wu s):=by
 have hc:s.take wu.length=wu/\(s.drop wu.length).length=10/\(∀c∈s.drop wu.length,48<=c/\c<=57)/\pU (s.drop wu.length)<=1000000000:=by
  apply azq;intro g;exact h (awg g)
 have e:ji wu s=((pU (s.drop wu.length):Nat):Int):=awh hc;obtain⟨h1,h2,h3,h4⟩:=hc;have hg:jJ (ji wu s):=by rw[e]at h ⊢; unfold jJ;omega
 refine⟨hg,?_⟩;rw[Sl hg,e,axh];have:=ajf h2 h3 (MP 10 _ h2 h3);unfold aah;rw[this]
 conv=>lhs;rw[<-aw7 wu.length s,h1]
theorem apo {g k:Int} (h:jJ g) (hk:jJ k) (e:kz g=kz k):g=k:=by rw[<-Nu h,e,Nu hk]
theorem Eb {g:Int} (h:jJ g):iZ (kz g):=by
 refine⟨?_,by rw[acr h];decide,by rw[acr h];decide⟩;rw[Sl h];intro c hc;rcases awt.1 hc with k | k
 ·have:∀c∈wu,P9 c:=by decide
  exact this c k
 ·exact ajy (TJ _ c k)
theorem ad7 (g:Int):qA g=some (kz g):=by
 refine Wq.eq ?_;unfold qA;rw[dF];refine⟨fun h=> ?_,fun h=> ?_⟩
 ·simp only[aH,aQ,aX,bn,aG,aF,bg,bC,aY,bI,aI,aP,bG,bJ]at h;rw[af,aoT (by unfold jJ;omega)]
 ·simp only[aH,aQ,aX,bn,aG,aF,bg,bC,aY,bI,aI,aP,bG,bJ]at h;have hg:jJ g:=⟨by omega,by omega⟩;have hl:=anR hg;have ef:jv g 10=some (fmt10 g):=by
   unfold jv ai2;rw[au (by rw[aH,aI,aH,aY,aY];unfold jJ at hg;exact⟨rfl,by omega,by omega⟩)]
  have ew:wr .i64 (aO 10 (len (fmt10 g)))=((10 - (fmt10 g).length:Nat):Int):=by
   rw[aO,bf (by simp only[len];omega) (by simp only[len];omega)];simp only[len];omega
  have er:lQ [(UInt8.ofNat 48)] ((10 - (fmt10 g).length:Nat):Int)=some (List.replicate (10 - (fmt10 g).length) 48):=by
   unfold lQ aiR;have e1:len [(UInt8.ofNat 48)]=1:=rfl;rw[e1,au (by simp only[aH,aY,dA,ayk];exact⟨by omega,by omega,by omega⟩),vK,Xq];rfl
  rw[ef,ai,ew,er,ai,au (dW (by simp only[len,ay,axv];omega)),au (dW (by simp only[len,ay,aJ,awn,axv,awF,axm];omega)),af];unfold kz uT;rw[awg (by unfold jJ at hg;omega)];rfl
theorem Zk {g:Int} (h:jJ g):gZ g=some (kz g):=by
 refine Wq.eq ?_;unfold gZ
 refine Wq.bind (fG (n:=10) (step:=fun v:Int×List UInt8×Int=>qx v.1 v.2.1 v.2.2) (by decide)
  (fun i x=>x.1.length=i/\(∀c∈x.1,Nc c)/\x.2=((g.toNat / 10^i:Nat):Int)/\pU x.1=g.toNat%10^i) (fun w=>w.length=10/\(∀c∈w,Nc c)/\pU w=g.toNat%10^10) ?_ ?_ _ 0 (by decide) ⟨rfl,by simp,?_,by simp [pU,Nat.mod_one]⟩) ?_
 ·rintro i ⟨out,n⟩ hi ⟨h1,h2,h3,h4⟩;simp only at h1 h2 h3 h4;simp only[qx];have hn:0<=n:=by rw[h3];exact Int.natCast_nonneg _
  have hm:=ayy (g.toNat / 10^i) (show 10>0 by decide);have em:(n%10).toNat=g.toNat / 10^i%10:=by rw[h3];omega
  have hle:g.toNat / 10^i<=1000000000:=aw4 (Nat.div_le_self _ _) (by unfold jJ at h;omega);rw[au (pO (by omega)),ajG n hn,em,au (dW (by simp only[ay,len,awY];omega)),af];refine⟨aZ (by omega),?_,?_,?_,?_⟩
  ·simp [aJ,h1]
  ·intro c hc;simp only[aJ,ayU,aww]at hc;rcases hc with rfl | hc
   ·rw[rW,Gn hm];omega
   ·exact h2 c hc
  ·simp only;unfold AL;rw[axM hn,h3,bf (by omega) (by omega),axx,<-Nat.div_div_eq_div_mul];rfl
  ·simp only[aJ,ayU];rw[ahx,Gn hm,h4,h1,axx,Nat.mod_mul];rw[show 48+g.toNat / 10^i%10 - 48=g.toNat / 10^i%10 by omega,ayt];omega
 ·rintro⟨out,n⟩ ⟨h1,h2,h3,h4⟩;simp only[qx];rw[bK (nP (by omega)),af];exact⟨h1,h2,h4⟩
 ·simp only[Nat.pow_zero,Nat.div_one];unfold jJ at h;omega
 ·rintro w ⟨h1,h2,h3⟩;rw[au (dW (by simp only[ay,len];omega)),af];have hv:g.toNat<=1000000000:=by unfold jJ at h;omega
  rw[Nat.mod_eq_of_lt (by omega)]at h3;have:w=aah g.toNat:=aaI 10 _ _ h1 (SA hv) h2 (TJ _) (by rw[h3,TF hv]);rw[this,Sl h];rfl
theorem ajn {s:Nm} (hs:s.length<999999):xk s=some (ji wu s):=by
 refine Wq.eq ?_;unfold xk;have hg:bor (ile 4 (len s)) (ax (ax (ax (ieq (len s) 14))))=true:=by
  simp only[aH,aQ,aX,bn,aG,aF,bg,bC,aY,bI,aI,aP,bG,bJ,len];omega
 rw[au hg,dF];have ht:aV s 4=s.take wu.length:=rfl;have hp:[(UInt8.ofNat 108),(UInt8.ofNat 111),(UInt8.ofNat 103),(UInt8.ofNat 46)]=wu:=rfl;refine⟨fun hc=>(af _).2 ?_,fun hc=> ?_⟩
 ·rw[ht,hp]at hc;simp only[aX,aG,aP,afq,len]at hc;unfold ji;rw[awg];rintro⟨g1,g2, -⟩;rcases hc with c | c
  ·rw[awP]at g2;have:wu.length=4:=rfl;omega
  ·exact c g1
 ·rw[ht,hp]at hc;simp only[bn,aF,aI,adn,len]at hc;obtain⟨h14,h4x⟩:=hc;have h14':s.length=14:=by omega
  have hdl:(s.drop 4).length=10:=by rw[awP];omega
  refine Wq.bind (Q:=fun w=>match w with
   |.inl k=>k=0/\¬∀c∈s.drop 4,Nc c
   |.inr x=>(∀c∈s.drop 4,Nc c)/\x.1=(pU (s.drop 4):Int))
   (fG (n:=14) (step:=fun v:Int×Int×Int=>lY s v.1 v.2.1 v.2.2) (by decide)
     (fun i x=>4<=i/\(∀c∈(s.drop 4).take (i - 4),Nc c)/\x.1=(pU ((s.drop 4).take (i - 4)):Int)) _ ?_ ?_ _ 4 (by decide) ⟨awk _,by simp,by simp [pU]⟩) ?_
  ·rintro i ⟨n,q⟩ hi ⟨h1,h2,h3⟩;simp only at h3;simp only[lY];have his:i<s.length:=by omega
   have hd:i - 4<(s.drop 4).length:=by omega
   have hel:(s.drop 4)[i - 4]=s[i]:=by rw[axH];congr 1;omega
   have hvl:=MP (i - 4) ((s.drop 4).take (i - 4)) (by rw[awu];omega) h2;have hpw:10^(i - 4)<=10^10:=ayD (by decide) (by omega);have h255:=s[i].toNat_lt;rw[au (pO (by omega)),au (inb _ _ his),au (by rw[aX];exact .inl (inb _ _ his)),abb _ _ his,dF];refine⟨fun hb=>(af _).2 ⟨rfl,fun g=> ?_⟩,fun hb=> ?_⟩
   ·have:=rW.1 (g s[i] (by rw[<-hel];exact awl hd));simp only[aH,aQ,aX,bn,aG,aF,bg,bC,aY,bI,aI,aP,bG,bJ]at hb;omega
   ·simp only[aH,aQ,aX,bn,aG,aF,bg,bC,aY,bI,aI,aP,bG,bJ]at hb;rw[au (inb _ _ his),af];have e1:wr .i64 (dA n 10)=n*10:=by rw[dA,bf (by omega) (by omega)]
    have e2:wr .i64 (wr .u8 (aO (s[i].toNat:Int) 48))=(s[i].toNat:Int) - 48:=by
     rw[aO,Ef,bf (by omega) (by omega)];omega
    have e3:i+1 - 4=(i - 4)+1:=by omega
    rw[e1,e2];refine⟨aZ (by omega),by omega,?_,?_⟩
    ·rw[e3,gm hd,hel];intro c hc;rcases awt.1 hc with k | k
     ·exact h2 c k
     ·rw[awC.1 k,rW];omega
    ·simp only;rw[e3,gm hd,hel,Oe,ay,bf (by omega) (by omega),h3];omega
  ·rintro⟨n,q⟩ ⟨h1,h2,h3⟩;simp only[lY];rw[bK (nP (by omega)),af];rw[show(14 - 4:Nat)=(s.drop 4).length by omega,awq]at h2 h3;exact⟨h2,h3⟩
  ·have hsn:wu.length=4:=rfl;rintro(k | ⟨n,q⟩) hw
   ·simp only[dK,af];unfold ji;rw[hw.1,awg (fun g=>hw.2 g.2.2.1)]
   ·simp only at hw;simp only[dK];rw[xB,hw.2];unfold ji;rw[hsn];split
    ·rename_i hgt;rw[af,awg (fun g=>by have:=g.2.2.2;omega)]
    ·rename_i hgt;rw[af,awh ⟨h4x,hdl,hw.1,by omega⟩]
def ET (f:fE):Prop:=1<=f.q9/\f.q9<=1000000/\1<=f.B/\f.B<=1000000000/\1<=f.L/\f.L<=6
instance (f:fE):Decidable (ET f):=by unfold ET;infer_instance
def rowP:List fE->Int->Int->Prop
 |[],_,_=>True
 |f::r,n,e=>ET f/\f.B=n/\e<=f.q9/\rowP r (f.B+1) f.q9
instance arp:∀(l:List fE) (n e:Int),Decidable (rowP l n e)
 |[],_,_=>isTrue trivial
 |f::r,n,e=>by
  unfold rowP
  have:=arp r (f.B+1) f.q9
  infer_instance
theorem Y7 (f:fE):EY f=some (decide (ET f)):=by
 refine Wq.dec ?_;unfold EY ET;rw[af];simp only[aH,aQ,aX,bn,aG,aF,bg,bC,aY,bI,aI,aP,bG,bJ];omega
theorem agy (f:fE):yH f=some (decide (ET f)):=by
 refine Wq.dec ?_;unfold yH ET;rw[af];simp only[aH,aQ,aX,bn,aG,aF,bg,bC,aY,bI,aI,aP,bG,bJ];omega
theorem al3 {l:List fE} {n e:Int} (hl:l.length<999999):UJ l n e=some (decide (rowP l n e)):=by
 refine Wq.dec ?_;unfold UJ;refine Wq.bind (Q:=fun w=>match w with | .inl w=>w.1=false/\¬rowP l n e | .inr _=>rowP l n e)
  (fG (n:=l.length) (step:=fun v:Int×Bool×Int×Int=>Fa (len l) l v.1 v.2.1 v.2.2.1 v.2.2.2) hl (fun i x=>rowP l n e↔rowP (l.drop i) x.2.1 x.2.2) _ ?_ ?_ _ 0 (awm _) (by simp)) ?_
 ·rintro i ⟨q,a,b⟩ hi hx;simp only at hx;simp only[Fa];rw[au (by rw[dm];simpa using hi),au (inb _ i hi),aN _ i hi,Y7,ai,dF];rw[axe hi,rowP]at hx;refine⟨fun h=>(af _).2 ⟨rfl,fun g=> ?_⟩,fun h=>(af _).2 ⟨aZ (by omega),?_⟩⟩
  ·obtain⟨g1,g2,g3, -⟩:=hx.1 g;simp only[aH,aQ,aX,bn,aG,aF,bg,bC,aY,bI,aI,aP,bG,bJ,axD]at h;rcases h with (h | h) | h
   ·exact h g1
   ·exact h g2
   ·omega
  ·simp only[aH,aQ,aX,bn,aG,aF,bg,bC,aY,bI,aI,aP,bG,bJ,axW]at h;obtain⟨⟨h1,h2⟩,h3⟩:=h;have h1':=h1;unfold ET at h1';have ew:wr .i64 (ay l[i].B 1)=l[i].B+1:=by rw[ay,bf (by omega) (by omega)]
   simp only;rw[ew];exact hx.trans ⟨fun g=>g.2.2.2,fun g=>⟨h1,h2,h3,g⟩⟩
 ·rintro⟨q,a,b⟩ hx;simp only[Fa];rw[bK (En _),af];rw[axs]at hx;exact hx.2 trivial
 ·rintro(w | w) hw
  ·simp only[dK,af];simp [hw.1,hw.2]
  ·simp only[dK,af];simp only at hw;simp [hw]
theorem amA {l:List fE} {n e:Int} (hl:l.length<999999):Aw l n e=some (decide (rowP l n e)):=by
 refine Wq.dec ?_;unfold Aw;refine Wq.bind (Q:=fun w=>match w with | .inl w=>w=false/\¬rowP l n e | .inr _=>rowP l n e)
  (fG (n:=l.length) (step:=fun v:Int×Bool=>rV l n e v.1 v.2) hl
    (fun i x=>(i=0/\(rowP l n e↔rowP (l.drop i) n e))\/∃(k:Nat) (hk:k<l.length),i=k+1/\ET l[k]/\(rowP l n e↔rowP (l.drop i) (l[k].B+1) l[k].q9)) _ ?_ ?_ _ 0 (awm _) (.inl ⟨rfl,by simp⟩)) ?_
 ·rintro i q hi hx;simp only[rV];have h0l:ilt 0 (len l)=true:=pO (by simp only[len];omega);rw[au (by rw[dm];simpa using hi),au (inb _ i hi),aN _ i hi,agy,ai,cO,sN,h0l];rw[axe hi]at hx;by_cases hf:ET l[i]
  case neg=>
   rw[awg hf,af];refine⟨rfl,fun g=> ?_⟩;rcases hx with ⟨-, hx⟩ | ⟨k,hk,-, -, hx⟩
   ·exact hf (hx.1 g).1
   ·exact hf (hx.1 g).1
  rw[awh hf];simp only[kH,aU,inb l i hi];rcases hx with ⟨rfl,hx⟩ | ⟨k,hk,rfl,hfk,hx⟩
  ·have e0:ilt ((0:Nat):Int) ((0:Nat):Int)=false:=rfl;have z1:ilt 0 ((0:Nat):Int)=false:=rfl;have z2:ieq ((0:Nat):Int) 0=true:=rfl;have g0:aj l 0=l[0]:=by simp [aj,hi]
   rw[z1,z2,g0];simp only[qU,ac8,aW,ahQ,aU,yU,alM];rw[dF];rw[rowP]at hx;refine⟨fun h=>(af _).2 ⟨rfl,fun g=> ?_⟩,fun h=>(af _).2 ⟨aZ (by omega),.inr ⟨0,hi,rfl,hf,?_⟩⟩⟩
   ·obtain⟨g1,g2,g3, -⟩:=hx.1 g;simp only[aH,aQ,aX,bn,aG,aF,bg,bC,aY,bI,aI,aP,bG,bJ]at h;rcases h with h | h
    ·exact h g2
    ·omega
   ·simp only[aH,aQ,aX,bn,aG,aF,bg,bC,aY,bI,aI,aP,bG,bJ]at h;exact hx.trans ⟨fun g=>g.2.2.2,fun g=>⟨hf,h.1,h.2,g⟩⟩
  ·have z1:ilt 0 ((k+1:Nat):Int)=true:=pO (by omega);have z2:ieq ((k+1:Nat):Int) 0=false:=by rw[aP];omega
   have e1:wr .i64 (aO ((k+1:Nat):Int) 1)=(k:Int):=by rw[aO,bf (by omega) (by omega)];omega
   have hfk':=hfk;unfold ET at hfk';have ew:wr .i64 (ay l[k].B 1)=l[k].B+1:=by rw[ay,bf (by omega) (by omega)]
   rw[z1,z2,e1,aN _ k hk,ew,inb l k hk];simp only[qU,yU,kH,aU,dI];rw[dF];rw[rowP]at hx;refine⟨fun h=>(af _).2 ⟨rfl,fun g=> ?_⟩,fun h=>(af _).2 ⟨aZ (by omega),.inr ⟨k+1,hi,rfl,hf,?_⟩⟩⟩
   ·obtain⟨g1,g2,g3, -⟩:=hx.1 g;simp only[aH,aQ,aX,bn,aG,aF,bg,bC,aY,bI,aI,aP,bG,bJ]at h;rcases h with h | h
    ·exact h g2
    ·omega
   ·simp only[aH,aQ,aX,bn,aG,aF,bg,bC,aY,bI,aI,aP,bG,bJ]at h;exact hx.trans ⟨fun g=>g.2.2.2,fun g=>⟨hf,h.1,h.2,g⟩⟩
 ·rintro q hx;simp only[rV];rw[bK (En _),af];rw[axs]at hx;rcases hx with ⟨-, hx⟩ | ⟨k,hk,-, -, hx⟩
  ·exact hx.2 trivial
  ·exact hx.2 trivial
 ·rintro(w | w) hw
  ·simp only[dK,af];simp only at hw;simp [hw.1,hw.2]
  ·simp only[dK,af];simp only at hw;simp [hw]
def Aa (w:dR):Prop:=(1<=w.q9/\w.q9<=1000000)/\(1<=w.next/\w.next<=1000000001)/\(0<=w.J/\w.J<w.next)/\w.M.length<=32/\(w.M.length:Int)=w.next - 1 - w.J/\rowP w.M (w.J+1) 1/\
 (∀f∈w.M,f.q9=w.q9)/\((w.seg=0/\w.qQ=0)\/(1<=w.seg/\1<=w.qQ/\w.qQ<=8/\w.seg+w.qQ=w.J+1))
instance (w:dR):Decidable (Aa w):=by unfold Aa;infer_instance
theorem alk:∀ {l:List fE} {n e:Int},e<=1->(rowP l n e↔rowP l n 1)
 |[],_,_,_=>Iff.rfl
 |f::r,n,e,h=>by unfold rowP ET;constructor<;>rintro⟨g1,g2,g3,g4⟩<;>exact⟨g1,g2,by omega,g4⟩
structure xW (w:dR):Prop where
 q9:inI w.q9
 next:inI w.next
 J:inI w.J
 seg:inI w.seg
 qQ:inI w.qQ
 few:w.M.length<999999
theorem asC {a b c:Int} (h1:0<=c) (h2:c<=1000000000) (ha:inI a) (hb:inI b):(band (band (band (band (ile 1 a) (ile 1 b)) (ile b 8)) (ile a (wr .i64 (ay c 1)))) (ieq (wr .i64 (ay a b)) (wr .i64 (ay c 1)))=true)↔(1<=a/\1<=b/\b<=8/\a+b=c+1):=by
 have e1:wr .i64 (ay c 1)=c+1:=by rw[ay,bf (by omega) (by omega)]
 rw[e1];simp only[aH,aQ,aX,bn,aG,aF,bg,bC,aY,bI,aI,aP,bG,bJ,ay];constructor
 ·rintro⟨⟨⟨⟨g1,g2⟩,g3⟩,g4⟩,g5⟩;rw[bf (by omega) (by omega)]at g5;exact⟨g1,g2,g3,g5⟩
 ·rintro⟨g1,g2,g3,g4⟩;rw[bf (by omega) (by omega)];exact⟨⟨⟨⟨g1,g2⟩,g3⟩,by omega⟩,g4⟩
theorem XE {w:dR} (hw:xW w):Gm w=some (decide (Aa w)):=by
 obtain⟨o1,o2,o3,o4,o5,hl⟩:=hw;refine Wq.dec ?_;unfold Gm;rw[dF];refine⟨fun h=>(af _).2 ?_,fun h=> ?_⟩
 ·simp only[aH,aQ,aX,bn,aG,aF,bg,bC,aY,bI,aI,aP,bG,bJ]at h;unfold Aa;constructor
  ·intro g;cases g
  ·rintro⟨g1,g2,g3, -⟩;omega
 simp only[aH,aQ,aX,bn,aG,aF,bg,bC,aY,bI,aI,aP,bG,bJ]at h;have e1:wr .i64 (aO (wr .i64 (aO w.next 1)) w.J)=w.next - 1 - w.J:=by
  rw[aO,aO,bf (n:=w.next - 1) (by omega) (by omega),bf (by omega) (by omega)]
 have e2:wr .i64 (ay w.J 1)=w.J+1:=by rw[ay,bf (by omega) (by omega)]
 have hse:=asC (c:=w.J) (by omega) (by omega) o4 o5;rw[e1,e2];rw[e2]at hse;have tail:∀(A B:Bool),(A=false->B=false->((∀f∈w.M,f.q9=w.q9)/\(w.M.length<=32/\(w.M.length:Int)=w.next - 1 - w.J/\rowP w.M (w.J+1) 1)))->((A=true\/B=true)->¬((∀f∈w.M,f.q9=w.q9)/\(w.M.length<=32/\(w.M.length:Int)=w.next - 1 - w.J/\rowP w.M (w.J+1) 1)))->
  Wq (cnd (bor A B) (some false) (cnd (ieq w.seg 0) (some (ieq w.qQ 0)) (some (band (band (band (band (ile 1 w.seg) (ile 1 w.qQ)) (ile w.qQ 8)) (ile w.seg (w.J+1))) (ieq (wr .i64 (ay w.seg w.qQ)) (w.J+1)))))) fun b=>b=true↔Aa w:=by
  intro A B h1 h2;rw[dF];refine⟨fun hc=>(af _).2 ?_,fun hc=> ?_⟩
  ·rw[aX]at hc;unfold Aa;constructor
   ·intro g;cases g
   ·rintro⟨-, -, -, g4,g5,g6,g7, -⟩;exact absurd ⟨g7,g4,g5,g6⟩ (h2 hc)
  ·rw[bn]at hc;obtain⟨k1,k2,k3,k4⟩:=h1 hc.1 hc.2;rw[dn];by_cases hs:w.seg=0
   ·rw[awh hs,af,aI];unfold Aa;constructor
    ·intro g;exact⟨by omega,by omega,by omega,k2,k3,k4,k1,.inl ⟨hs,g⟩⟩
    ·rintro⟨-, -, -, -, -, -, -, g⟩;rcases g with g | g
     ·exact g.2
     ·omega
   ·rw[awg hs,af,hse];unfold Aa;constructor
    ·intro g;exact⟨by omega,by omega,by omega,k2,k3,k4,k1,.inr g⟩
    ·rintro⟨-, -, -, -, -, -, -, g⟩;rcases g with g | g
     ·exact absurd g.1 hs
     ·exact g
 by_cases hA:w.M.length<=32/\(w.M.length:Int)=w.next - 1 - w.J
 case neg=>
  have hAb:bor (ilt 32 (len w.M)) (ax (ieq (len w.M) (w.next - 1 - w.J)))=true:=by
   simp only[aH,aQ,aX,bn,aG,aF,bg,bC,aY,bI,aI,aP,bG,bJ,len];omega
  rw[hAb,aK,aT,ai];simp only[kH,aK,aT];exact tail true false (fun g=>by cases g) (fun _ g=>hA ⟨g.2.1,g.2.2.1⟩)
 have hAb:bor (ilt 32 (len w.M)) (ax (ieq (len w.M) (w.next - 1 - w.J)))=false:=by
  simp only[aH,aQ,aX,bn,aG,aF,bg,bC,aY,bI,aI,aP,bG,bJ,len];omega
 rw[hAb,aW,aU,al3 hl,ai];simp only[dI];by_cases hr:rowP w.M (w.J+1) 1
 case neg=>
  rw[awR hr];simp only[aW,aK,aT,kH];exact tail true false (fun g=>by cases g) (fun _ g=>hr g.2.2.2)
 rw[awv hr];simp only[aK,aW,aU,dI];refine Wq.bind (Q:=fun w'=>match w' with | .inl k=>0<=k/\¬∀f∈w.M,f.q9=w.q9 | .inr _=>∀f∈w.M,f.q9=w.q9)
  (fG (n:=w.M.length) (step:=fun v:Int×Int=>eP (len w.M) w.M w.q9 w.next w.J w.seg w.qQ w.M v.1 v.2) hl (fun i x=>∀f∈w.M.take i,f.q9=w.q9) _ ?_ ?_ _ 0 (awm _) (by simp)) ?_
 ·rintro i x hi hx;simp only[eP];rw[au (by rw[dm];simpa using hi),au (inb _ i hi),aN _ i hi,cO,dn];split
  ·rename_i g;refine(af _).2 ⟨aZ (by omega),?_⟩;rw[gm hi];intro f hf;rcases awt.1 hf with c | c
   ·exact hx f c
   ·rw[awC.1 c];exact g
  ·rename_i g;exact(af _).2 ⟨by omega,fun k=>g (k _ (awl hi))⟩
 ·rintro x hx;simp only[eP];rw[bK (En _),af];rwa[awq]at hx
 ·rintro(k | k) hk
  ·simp only[dK];have:=tail false (ile 0 k) (fun _ g=>by rw[bI]at g;have:=hk.1;omega) (fun _ g=>hk.2 g.1);simpa only[dI] using this
  ·simp only[dK];exact tail false false (fun _ _=>⟨hk,hA.1,hA.2,hr⟩) (fun g=>by rcases g with g | g<;>cases g)
theorem XF {w:dR} (hw:xW w):pR w=some (decide (Aa w)):=by
 obtain⟨o1,o2,o3,o4,o5,hl⟩:=hw;unfold inI at o2 o3 o4 o5;refine Wq.dec ?_;unfold pR;rw[dF];by_cases hb:w.next= -9223372036854775808
 ·refine⟨fun _=>(af _).2 ?_,fun h=> ?_⟩
  ·unfold Aa;constructor
   ·intro g;cases g
   ·rintro⟨g1,g2,g3, -⟩;omega
  ·simp only[aH,aQ,aX,bn,aG,aF,bg,bC,aY,bI,aI,aP,bG,bJ]at h;omega
 have e0:wr .i64 (aO w.next 1)=w.next - 1:=by rw[aO,nY ⟨by omega,by omega⟩]
 rw[e0];refine⟨fun h=>(af _).2 ?_,fun h=> ?_⟩
 ·simp only[aH,aQ,aX,bn,aG,aF,bg,bC,aY,bI,aI,aP,bG,bJ,len]at h;unfold Aa;constructor
  ·intro g;cases g
  ·rintro⟨g1,g2,g3,g4, -⟩;omega
 simp only[aH,aQ,aX,bn,aG,aF,bg,bC,aY,bI,aI,aP,bG,bJ,len]at h;have e1:wr .i64 (aO (wr .i64 (aO w.next w.J)) 1)=w.next - 1 - w.J:=by
  rw[aO,aO,bf (n:=w.next - w.J) (by omega) (by omega),nY ⟨by omega,by omega⟩];omega
 have e2:wr .i64 (ay w.J 1)=w.J+1:=by rw[ay,bf (by omega) (by omega)]
 rw[e1,e2];have no:¬((w.M.length:Int)=w.next - 1 - w.J/\rowP w.M (w.J+1) 1)->¬Aa w:=fun g k=>by unfold Aa at k;exact g ⟨k.2.2.2.2.1,k.2.2.2.2.2.1⟩
 by_cases hA:(w.M.length:Int)=w.next - 1 - w.J
 case neg=>
  have hAb:ieq (len w.M) (w.next - 1 - w.J)=false:=by rw[aP];exact hA
  rw[hAb];simp only[aW,aK,aT,ai,kH,aU];rw[af];exact⟨fun g=>(by cases g),fun g=>absurd g (no fun k=>hA k.1)⟩
 have hAb:ieq (len w.M) (w.next - 1 - w.J)=true:=by rw[aI];exact hA
 rw[hAb];simp only[aK,aW,aU,dI];rw[amA hl,ai,cO,sN];by_cases hr:rowP w.M (w.J+1) 0
 case neg=>
  rw[awg hr,af];exact⟨fun g=>(by cases g),fun g=>absurd g (no fun k=>hr ((alk (by decide)).2 k.2))⟩
 rw[awh hr];refine Wq.bind (Q:=fun w'=>match w' with | .inl b=>b=false/\¬∀f∈w.M,f.q9=w.q9 | .inr _=>∀f∈w.M,f.q9=w.q9)
  (fG (n:=w.M.length) (step:=fun v:Int×Bool=>nK w v.1 v.2) hl (fun i x=>∀f∈w.M.take i,f.q9=w.q9) _ ?_ ?_ _ 0 (awm _) (by simp)) ?_
 ·rintro i x hi hx;simp only[nK];rw[au (by rw[dm];simpa using hi),au (inb _ i hi),aN _ i hi,cO,dn];split
  ·rename_i g;refine(af _).2 ⟨aZ (by omega),?_⟩;rw[gm hi];intro f hf;rcases awt.1 hf with c | c
   ·exact hx f c
   ·rw[awC.1 c];exact g
  ·rename_i g;exact(af _).2 ⟨rfl,fun k=>g (k _ (awl hi))⟩
 ·rintro x hx;simp only[nK];rw[bK (En _),af];rwa[awq]at hx
 ·rintro(k | k) hk
  ·simp only[dK,af];simp only at hk;rw[hk.1];exact⟨fun g=>(by cases g),fun g=>absurd g.2.2.2.2.2.2.1 hk.2⟩
  ·simp only[dK];simp only at hk;have base:((1<=w.q9/\w.q9<=1000000)/\(1<=w.next/\w.next<=1000000001)/\(0<=w.J/\w.J<w.next))/\w.M.length<=32:=by omega
   have hr1:=(alk (l:=w.M) (n:=w.J+1) (e:=0) (by decide)).1 hr;rw[dF];refine⟨fun g=>(af _).2 ?_,fun g=>(af _).2 ?_⟩
   ·simp only[aH,aQ,aX,bn,aG,aF,bg,bC,aY,bI,aI,aP,bG,bJ]at g;exact⟨fun _=>⟨base.1.1,base.1.2.1,base.1.2.2,base.2,hA,hr1,hk,.inl g⟩,fun _=>rfl⟩
   ·simp only[aH,aQ,aX,bn,aG,aF,bg,bC,aY,bI,aI,aP,bG,bJ]at g ⊢;constructor
    ·rintro⟨⟨⟨⟨g1,g2⟩,g3⟩,g4⟩,g5⟩;rw[ay,bf (by omega) (by omega)]at g5;exact⟨base.1.1,base.1.2.1,base.1.2.2,base.2,hA,hr1,hk,.inr ⟨g1,g3,g4,g5⟩⟩
    ·rintro⟨-, -, -, -, -, -, -, k8⟩;rcases k8 with k8 | ⟨k1,k2,k3,k4⟩
     ·rcases g with g | g
      ·exact absurd k8.1 g
      ·exact absurd k8.2 g
     ·rw[ay,bf (by omega) (by omega)];exact⟨⟨⟨⟨k1,by omega⟩,k2⟩,k3⟩,k4⟩
theorem as6 (s:Nm):0<=ji wu s:=by unfold ji;split<;>omega
theorem aaA (s:Nm):MO s=some (ji wu s):=rfl
def zo (l:List aS):List Int:=(l.map fun f=>ji wu f.name).filter fun n=>decide (0<n)
def acH (d:ak):List Int:=if fD d then zo d.b else []
theorem agO (a b:List aS):zo (a++b)=zo a++zo b:=by simp [zo]
theorem ahF (f:aS):zo [f]=if 0<ji wu f.name then [ji wu f.name]else []:=by
 unfold zo;by_cases h:0<ji wu f.name<;>simp [h]
theorem TB (l:List aS):(zo l).length<=l.length:=by
 unfold zo;exact aw4 (azo ..) (by simp)
theorem ae8 {d:ak} (hn:nameB d):IQ d=some (acH d):=by
 refine Wq.eq ?_;unfold IQ acH;rw[I7 hn,ai,cO,sN];by_cases hd:fD d
 case neg=>rw[awg hd,af,awg hd]
 rw[awh hd,awh hd];have hl:=hd.fl;refine Wq.bind (fG (n:=d.b.length) (step:=fun v:Int×List Int=>wG (len d.b) d.b v.1 v.2) (by omega) (fun i x=>x=zo (d.b.take i)) (fun w=>w=zo d.b) ?_ ?_ _ 0 (awm _) (by simp [zo])) fun w hw=>(af _).2 hw
 ·rintro i x hi rfl;simp only[wG];have h1:=TB (d.b.take i);rw[awu]at h1;rw[au (by rw[dm];simpa using hi),au (inb _ i hi),aN _ i hi,aaA,ai,xB,au (dW (by simp only[len,aJ,awn,awY];omega)),gm hi,agO,ahF];split
  ·rw[af];exact⟨aZ (by omega),rfl⟩
  ·rw[af];exact⟨aZ (by omega),by simp⟩
 ·rintro x rfl;simp only[wG];rw[bK (En _),af,awq]
theorem Wx {d:ak} (hn:nameB d) (hl:d.b.length<99999):oM d=some (acH d):=by
 refine Wq.eq ?_;unfold oM;by_cases hd:fD d
 case neg=>
  have hz:acH d=[]:=by unfold acH;rw[awg hd]
  rw[hz];refine Wq.bind (Q:=fun w=>w=[]) (Qs (step:=fun v:Int×List Int=>iI d v.1 v.2) (fun _=>0) (fun v=>v=(0,[])) _ ?_ LF _ (Zb (by decide)) rfl) fun w hw=>(af _).2 hw;rintro _ rfl;simp only[iI];rw[Au hn,awR hd];refine Wq.bind (Q:=fun b=>b=false) ?_ fun b hb=> ?_
  ·rw[dF,af];exact⟨fun _=>rfl,fun _=>rfl⟩
  ·rw[hb,ac8,aT,af]
 have hz:acH d=zo d.b:=by unfold acH;rw[awh hd]
 rw[hz];refine Wq.bind (fG (n:=d.b.length) (step:=fun v:Int×List Int=>iI d v.1 v.2) (by omega) (fun i x=>x=zo (d.b.take i)) (fun w=>w=zo d.b) ?_ ?_ _ 0 (awm _) (by simp [zo])) fun w hw=>(af _).2 hw
 ·rintro i x hi rfl;simp only[iI];have hnm:=(hd.2.1.1 _ (awl hi)).1;have h1:=TB (d.b.take i);rw[awu]at h1;have hlt:ilt (i:Int) (len d.b)=true:=by rw[dm];simpa using hi
  rw[hlt,aU,Au hn,awv hd,ai,qU,aU,au (Ae (dW (by omega)) rfl),aN _ i hi,ajn hnm.len,ai,xB,au (dW (by simp only[len,aJ,awn,awY];omega)),gm hi,agO,ahF];split
  ·rw[af];exact⟨aZ (by omega),rfl⟩
  ·rw[af];exact⟨aZ (by omega),by simp⟩
 ·rintro x rfl;simp only[iI];rw[En,aT,ai,yU,aT,af,awq]
def rC (w:dR) (d:ak):Prop:=Aa w/\fD d/\(∀f∈d.b,ji wu f.name<=w.J)/\(w.seg=0\/∃f,dN d.b (kz w.seg)=some f/\(f.data.length:Int)=w.qQ*72)
theorem aak {d:ak} (ha:J3 d.b) {g:Int} (hg:jJ g) {f:aS} (hf:f∈d.b):ji wu f.name=g↔dN d.b (kz g)=some f:=by
 constructor
 ·intro h;have hne:ji wu f.name≠0:=by rw[h];unfold jJ at hg;omega
  have:=(acT hne).2;rw[h]at this;rw[<-this];exact get_mem ha hf
 ·intro h;rw[(BQ h).2,Nu hg]
theorem Aa.seg {w:dR} (h:Aa w) (hs:w.seg≠0):jJ w.seg/\w.seg<=w.J/\1<=w.qQ/\w.qQ<=8/\w.seg+w.qQ=w.J+1:=by
 obtain⟨-, h2,h3,-, -, -, -, h8⟩:=h;rcases h8 with h8 | h8
 ·exact absurd h8.1 hs
 ·exact⟨⟨h8.1,by omega⟩,by omega,h8.2.1,h8.2.2.1,h8.2.2.2⟩
open Classical in
theorem afe {w:dR} {d:ak} (hw:xW w) (hn:nameB d):Ol w d=some (decide (rC w d)):=by
 refine Wq.dec ?_;unfold Ol;rw[XE hw,ai];by_cases hp:Aa w
 case neg=>
  rw[awR hp];simp only[aW,aK,aT,ai,kH,aU];rw[af];exact⟨fun g=>(by cases g),fun g=>absurd g.1 hp⟩
 rw[awv hp,aK,aW,aU,I7 hn,ai,dI,cO,sN];by_cases hd:fD d
 case neg=>
  rw[awg hd,af];exact⟨fun g=>(by cases g),fun g=>absurd g.2.1 hd⟩
 rw[awh hd];have hl:=hd.fl;have hus:=hd.us;have esz:∀f∈d.b,(f.data.length:Int)<=65536:=fun f hf=>by
  obtain⟨j,hj,rfl⟩:=ayp.1 hf;have:=zi hj;have:=Fz d.b (j+1);omega
 have ecnt:wr .i64 (dA w.qQ 72)=w.qQ*72:=by
  have:=hp.2.2.2.2.2.2.2;rw[dA,bf (by omega) (by omega)]
 refine Wq.bind (Q:=fun x=>match x with
  |.inl b=>b=false/\¬∀f∈d.b,ji wu f.name<=w.J
  |.inr x=>(∀f∈d.b,ji wu f.name<=w.J)/\(x.1=true↔(w.seg=0\/∃f∈d.b,w.seg≠0/\ji wu f.name=w.seg/\(f.data.length:Int)=w.qQ*72)))
  (fG (n:=d.b.length) (step:=fun v:Int×Bool×Bool=>D6 (len d.b) d.b w v.1 v.2.1 v.2.2) (by omega)
    (fun i x=>(∀f∈d.b.take i,ji wu f.name<=w.J)/\(x.1=true↔(w.seg=0\/∃f∈d.b.take i,w.seg≠0/\ji wu f.name=w.seg/\(f.data.length:Int)=w.qQ*72))) _ ?_ ?_ _ 0 (awm _) ⟨by simp,by simp only[aI,ays];simp⟩) ?_
 ·rintro i ⟨v,q⟩ hi ⟨h1,h2⟩;simp only at h2;simp only[D6];have hnn:=as6 d.b[i].name;rw[au (by rw[dm];simpa using hi),au (inb _ i hi),aN _ i hi,aaA,ai,ecnt,dF];refine⟨fun hc=>(af _).2 ⟨aZ (by omega),?_,?_⟩,fun hc=> ?_⟩
  ·simp only[aH,aQ,aX,bn,aG,aF,bg,bC,aY,bI,aI,aP,bG,bJ]at hc;have hs:=hp.seg (by omega);rw[gm hi];intro f hf;rcases awt.1 hf with c | c
   ·exact h1 f c
   ·rw[awC.1 c];omega
  ·simp only[aH,aQ,aX,bn,aG,aF,bg,bC,aY,bI,aI,aP,bG,bJ]at hc;have hs:=hp.seg (by omega);have hsz:w.seg≠0:=by omega
   simp only;rw[aI,gm hi];constructor
   ·intro g;exact .inr ⟨d.b[i],awD _ (awC.2 rfl),hsz,hc.2,g⟩
   ·rintro(g | ⟨f,hf,-, g2,g3⟩)
    ·exact absurd g hsz
    ·have hfm:f∈d.b:=by
      rcases awt.1 hf with c | c
      ·exact axo c
      ·rw[awC.1 c];exact awl hi
     have e1:=(aak hd.asc hs.1 hfm).1 g2;have e2:=(aak hd.asc hs.1 (awl hi)).1 hc.2;rw[e1]at e2;rw[<-awr e2];exact g3
  ·rw[dF];refine⟨fun hc2=>(af _).2 ⟨rfl,fun g=> ?_⟩,fun hc2=>(af _).2 ⟨aZ (by omega),?_,?_⟩⟩
   ·simp only[aH,aQ,aX,bn,aG,aF,bg,bC,aY,bI,aI,aP,bG,bJ]at hc2;have:=g _ (awl hi);omega
   ·simp only[aH,aQ,aX,bn,aG,aF,bg,bC,aY,bI,aI,aP,bG,bJ]at hc2;rw[gm hi];intro f hf;rcases awt.1 hf with c | c
    ·exact h1 f c
    ·rw[awC.1 c];exact hc2
   ·simp only[aH,aQ,aX,bn,aG,aF,bg,bC,aY,bI,aI,aP,bG,bJ]at hc hc2;simp only;rw[h2,gm hi];constructor
    ·rintro(g | ⟨f,hf,g⟩)
     ·exact .inl g
     ·exact .inr ⟨f,awM _ hf,g⟩
    ·rintro(g | ⟨f,hf,g1,g2,g3⟩)
     ·exact .inl g
     ·rcases awt.1 hf with c | c
      ·exact .inr ⟨f,c,g1,g2,g3⟩
      ·rw[awC.1 c]at g2;have hs:=hp.seg g1;have:=hs.1.1;omega
 ·rintro⟨v,q⟩ ⟨h1,h2⟩;simp only[D6];rw[bK (En _),af];rw[awq]at h1 h2;exact⟨h1,h2⟩
 ·rintro(x | x) hx
  ·simp only[dK,af];simp only at hx;rw[hx.1];exact⟨fun g=>(by cases g),fun g=>absurd g.2.2.1 hx.2⟩
  ·simp only[dK,af];simp only at hx;rw[hx.2];unfold rC;constructor
   ·rintro(g | ⟨f,hf,g1,g2,g3⟩)
    ·exact⟨hp,hd,hx.1,.inl g⟩
    ·exact⟨hp,hd,hx.1,.inr ⟨f,(aak hd.asc (hp.seg g1).1 hf).1 g2,g3⟩⟩
   ·rintro⟨-, -, -, g | ⟨f,g1,g2⟩⟩
    ·exact .inl g
    ·by_cases hs:w.seg=0
     ·exact .inl hs
     ·exact .inr ⟨f,(BQ g1).1,hs,(aak hd.asc (hp.seg hs).1 (BQ g1).1).2 g1,g2⟩
open Classical in
theorem Zg {w:dR} {d:ak} (hw:xW w) (hn:nameB d):qY w d=some (decide (rC w d)):=by
 refine Wq.dec ?_;unfold qY;rw[XF hw,ai];by_cases hp:Aa w
 case neg=>
  rw[awR hp];simp only[aW,aK,aT,ai,kH,aU];rw[af];exact⟨fun g=>(by cases g),fun g=>absurd g.1 hp⟩
 rw[awv hp,aK,aW,aU,Au hn,ai,dI,cO,sN];by_cases hd:fD d
 case neg=>
  rw[awg hd,af];exact⟨fun g=>(by cases g),fun g=>absurd g.2.1 hd⟩
 rw[awh hd,Wx hn (by have:=hd.fl;omega),ai];have hl:=hd.fl;have hsg:acH d=zo d.b:=by unfold acH;rw[awh hd]
 have hsl:=TB d.b;rw[hsg];have ecnt:wr .i64 (dA w.qQ 72)=w.qQ*72:=by
  have:=hp.2.2.2.2.2.2.2;rw[dA,bf (by omega) (by omega)]
 have hmem:(∀n∈zo d.b,n<=w.J)↔∀f∈d.b,ji wu f.name<=w.J:=by
  unfold zo;constructor
  ·intro h f hf;by_cases h0:0<ji wu f.name
   ·exact h _ (axK.2 ⟨axG.2 ⟨f,hf,rfl⟩,by simpa using h0⟩)
   ·have:=hp.2.2.1;omega
  ·intro h n hn;obtain⟨hn1, -⟩:=axK.1 hn;obtain⟨f,hf,rfl⟩:=axG.1 hn1;exact h f hf
 generalize zo d.b=L at hsl hmem ⊢
 refine Wq.bind (Q:=fun x=>match x with
  |.inl b=>b=false/\¬∀n∈L,n<=w.J
  |.inr x=>∀n∈L,n<=w.J)
  (fG (n:=L.length) (step:=fun v:Int×Bool=>pF L w v.1 v.2) (by omega) (fun i x=>∀n∈L.take i,n<=w.J) _ ?_ ?_ _ 0 (awm _) (by simp)) ?_
 ·rintro i x hi hx;simp only[pF];rw[au (by rw[dm];simpa using hi),au (inb _ i hi),aN _ i hi,xB];split
  ·rename_i g;rw[af];exact⟨rfl,fun k=>by have:=k _ (awl hi);omega⟩
  ·rename_i g;rw[af];refine⟨aZ (by omega),?_⟩;rw[gm hi];intro f hf;rcases awt.1 hf with c | c
   ·exact hx f c
   ·rw[awC.1 c];omega
 ·rintro x hx;simp only[pF];rw[bK (En _),af];rwa[awq]at hx
 ·rintro(x | x) hx
  ·simp only[dK,af];simp only at hx;rw[hx.1];exact⟨fun g=>(by cases g),fun g=>absurd (hmem.2 g.2.2.1) hx.2⟩
  ·simp only[dK];simp only at hx;rw[dn];by_cases hs:w.seg=0
   ·rw[awh hs,af];exact⟨fun _=>⟨hp,hd,hmem.1 hx,.inl hs⟩,fun _=>rfl⟩
   ·rw[awg hs,Zk (hp.seg hs).1,ai];refine(WX hd.asc (by omega)).bind ?_;rintro k (⟨rfl,hg⟩ | ⟨i,hi,rfl,hg⟩)
    ·rw[au (by rw[aX,aG];exact .inr (JA (by omega))),af,show ile 0 (-1)=false from rfl,yU];constructor
     ·intro g;cases g
     ·rintro⟨-, -, -, g | ⟨f,g1, -⟩⟩
      ·exact absurd g hs
      ·rw[hg]at g1;cases g1
    ·rw[au (by rw[aX];exact .inl (inb _ _ hi)),af,aN _ _ hi,show ile 0 (i:Int)=true from dW (by omega),qU,aI,ecnt];constructor
     ·intro g;exact⟨hp,hd,hmem.1 hx,.inr ⟨_,hg,g⟩⟩
     ·rintro⟨-, -, -, g | ⟨f,g1,g2⟩⟩
      ·exact absurd g hs
      ·rw[hg]at g1;rw[awr g1];exact g2
def QM (f:fE):List Int:=iY 72 4++iY f.q9 4++iY f.B 8++iY f.L 4++iY f.b0 8++iY f.b1 8++iY f.b2 8++iY f.b3 8++iY f.b4 8++iY f.b5 8
def UN (f:fE):List Int:=QM f++tC (zV (QM f))
theorem NK (f:fE):(QM f).length=68:=by simp [QM,iT]
theorem alI (f:fE):(UN f).length=72:=by simp [UN,NK,tC]
theorem V6 (f:fE):jU (QM f):=by
 unfold QM;exact((((((((((su _ _).app (su _ _)).app (su _ _)).app (su _ _)).app (su _ _)).app (su _ _)).app (su _ _)).app (su _ _)).app (su _ _)).app (su _ _))
theorem akB (f:fE):jU (UN f):=(V6 f).app (ZX _)
theorem ajr (n:Int) {j:Nat} (hj:j<8):dw .u64 n ((8*j:Nat):Int)=n / 256^j:=by
 have h2:min (((8*j:Nat):Int).toNat) (IntKind.bits .u64)=8*j:=by
  simp only[IntKind.bits,axh];omega
 unfold dw;rw[h2,Int.pow_mul,ayj _ (ayS (axy (by decide)))]
 rfl
theorem auy {n:Int} {i:Nat} (hi:i<8):ile 0 (wr .i64 (dA 8 (i:Int)))=true/\wr .u8 (dw .u64 (wr .u64 n) (wr .i64 (dA 8 (i:Int))))=n / 256^i%256:=by
 have h1:wr .i64 (dA 8 (i:Int))=((8*i:Nat):Int):=by
  unfold dA;rw[bf (by omega) (by omega)];omega
 rw[h1,ajr _ hi,Ef,rE];exact⟨dW (by omega),abD n hi⟩
theorem aqX {n:Int} {acc:List Int} (k:Nat) (hk:k<=8) (hl:acc.length<1000000):bU (fun v:Int×List Int=>bM (wr .u64 n) v.1 v.2) LF ((k:Int) - 1,acc)=some (acc++iY n k):=by
 refine Wq.eq (aiw (n:=k) (by omega) (fun i x=>x++iY n i=acc++iY n k/\x.length+i=acc.length+k) _ (fun i x hi hj=> ?_) (fun x hj=> ?_) acc ⟨rfl,rfl⟩)
 ·obtain⟨h1,h2⟩:=auy (n:=n) (i:=i) (by omega);simp only;unfold bM;rw[h2,au (dW (by omega)),au h1,au (uo (n:=1000100) (by simp only[aJ,awn,awF,axm];omega) (by decide)),af];refine⟨Yk (by omega),?_,?_⟩
  ·rw[<-hj.1];show(x++[_])++iY n i=x++(_::iY n i);rw[awT];rfl
  ·simp only[aJ,awn,awF,axm];omega
 ·simp only;unfold bM;rw[bK (JA (by omega)),af];have:=hj.1;simpa [iY] using this
theorem al5 (c:Int):[wr .u8 c,wr .u8 (dw .u32 c 8),wr .u8 (dw .u32 c 16),wr .u8 (dw .u32 c 24)]=tC c:=by
 have t1:wr .u8 (dw .u32 c 8)=c / 256^1%256:=(Xv (n:=c) (i:=1) (by decide)).2;have t2:wr .u8 (dw .u32 c 16)=c / 256^2%256:=(Xv (n:=c) (i:=2) (by decide)).2;have t3:wr .u8 (dw .u32 c 24)=c / 256^3%256:=(Xv (n:=c) (i:=3) (by decide)).2;rw[t1,t2,t3,Ef];rfl
theorem afp {f:fE} (h:ET f):I5 f=some (UN f,0):=by
 refine Wq.eq ?_;unfold I5;rw[Y7,awv h,ai,aK,aT];have p4:=fun(n:Int) (acc:List Int) (hl:acc.length<1000000)=>aqX (n:=n) (acc:=acc) 4 (by decide) hl;have p8:=fun(n:Int) (acc:List Int) (hl:acc.length<1000000)=>aqX (n:=n) (acc:=acc) 8 (by decide) hl;have c4:((4:Nat):Int) - 1=3:=rfl;have c8:((8:Nat):Int) - 1=7:=rfl;simp only[c4]at p4;simp only[c8]at p8;have e72:(72:Int)=wr .u64 72:=rfl;have L1:lM=bM:=rfl;have L2:kX=bM:=rfl;have L3:kZ=bM:=rfl;have L4:lu=bM:=rfl;have L5:kY=bM:=rfl;have L6:lD=bM:=rfl;have L7:lq=bM:=rfl;have L8:kV=bM:=rfl;have L9:kU=bM:=rfl;have q72:bU (fun v:Int×List Int=>bM 72 v.1 v.2) LF (3,[])=some ([]++iY 72 4):=p4 72 [] (by simp);rw[L1,L2,L3,L4,L5,L6,L7,L8,L9,q72,ai,p4 _ _ (by simp [iT]),ai,p8 _ _ (by simp [iT]),ai,p4 _ _ (by simp [iT]),ai,p8 _ _ (by simp [iT]),ai,p8 _ _ (by simp [iT]),ai,p8 _ _ (by simp [iT]),ai,p8 _ _ (by simp [iT]),ai,p8 _ _ (by simp [iT]),ai,p8 _ _ (by simp [iT]),ai];have eH:[]++iY 72 4++iY f.q9 4++iY f.B 8++iY f.L 4++iY f.b0 8++iY f.b1 8++iY f.b2 8++iY f.b3 8++iY f.b4 8++iY f.b5 8=QM f:=by unfold QM;rw[aw1]
 rw[eH,agH (by rw[NK];decide) (V6 f),ai,al5,au (uo (n:=1000) (by simp [aJ,NK,tC]) (by decide)),af]
 rfl
theorem ajg (n:Int):mr (wr .u64 n)=some (iY n 4):=by
 unfold mr;have t1:dw .u64 (wr .u64 n) 8=wr .u64 n / 256^1:=ajr (wr .u64 n) (j:=1) (by decide);have t2:dw .u64 (wr .u64 n) 16=wr .u64 n / 256^2:=ajr (wr .u64 n) (j:=2) (by decide);have t3:dw .u64 (wr .u64 n) 24=wr .u64 n / 256^3:=ajr (wr .u64 n) (j:=3) (by decide);have u:=fun {j:Nat} (hj:j<8)=>abD n hj;have t0:wr .u8 (wr .u64 n)=n / 256^0%256:=by rw[Ef,rE];have:=u (j:=0) (by decide);simpa using this
 rw[t1,t2,t3,t0,Ef,Ef,Ef,rE,u (by decide),u (by decide),u (by decide)]
 rfl
theorem UX (n:Int):iy n=some (iY n 8):=by
 refine Wq.eq ?_;unfold iy;have hX:0<=wr .u64 n/\wr .u64 n<18446744073709551616:=by rw[rE];omega
 have hs:dw .u64 (wr .u64 n) 32=wr .u64 n / 256^4:=ajr (wr .u64 n) (j:=4) (by decide);have h256:(256:Int)^4=4294967296:=by decide
 have hw:wr .u64 (wr .u64 n / 256^4)=wr .u64 n / 256^4:=by
  rw[rE (wr .u64 n / 256^4),h256];omega
 rw[hs,<-hw,ajg,ai,ajg,ai,au (uo (n:=100) (by simp [aJ,iT]) (by decide)),af];have u:=fun {j:Nat} (hj:j<8)=>abD n hj;have v:∀j:Nat,j<4->wr .u64 n / 256^4 / 256^j%256=n / 256^(j+4)%256:=fun j hj=>by
  rw[ayo (by decide),<-Int.pow_add,rE,Nat.add_comm 4 j,u (by omega)]
 show iY (wr .u64 n / 256^4) 4++iY n 4=iY n 8;simp only[iY,axa,aw1];rw[v 3 (by decide),v 2 (by decide),v 1 (by decide),v 0 (by decide)]
theorem auM (c:Int) (h:0<=c/\c<4294967296):[wr .u8 (ug c 256),wr .u8 (ug (wr .u32 (AL c 256)) 256),wr .u8 (ug (wr .u32 (AL c 65536)) 256),wr .u8 (wr .u32 (AL c 16777216))]=tC c:=by
 have q:∀m:Int,0<m->wr .u32 (AL c m)=c / m:=fun m hm=>by
  unfold AL;rw[axM h.1,ZO,awZ (ax9 h.1 (by omega)) (by have:=ayn m h.1;omega)]
 have n:∀m:Int,0<m->0<=c / m:=fun m hm=>ax9 h.1 (by omega);unfold tC;rw[q 256 (by decide),q 65536 (by decide),q 16777216 (by decide)];unfold ug;rw[axp h.1,axp (n 256 (by decide)),axp (n 65536 (by decide)),Ef,Ef,Ef,Ef,axV,axV,axV]
theorem avr:([0,0,0,72]:List Int)=iY 72 4:=by decide
theorem aey (f:fE):xg f=some (UN f):=by
 refine Wq.eq ?_;unfold xg;have big:∀l:List Int,l.length<=1000->ile (len l) 68719476736=true:=fun l h=>uo (n:=1000) h (by decide)
 rw[ajg,ai,au (big _ (by simp [aJ,iT])),UX,ai,au (big _ (by simp [aJ,iT])),ajg,ai,au (big _ (by simp [aJ,iT])),UX,ai,au (big _ (by simp [aJ,iT])),
  UX,ai,au (big _ (by simp [aJ,iT])),UX,ai,au (big _ (by simp [aJ,iT])),UX,ai,au (big _ (by simp [aJ,iT])),UX,ai,au (big _ (by simp [aJ,iT])),UX,ai,au (big _ (by simp [aJ,iT]))]
 have eH:aJ (aJ (aJ (aJ (aJ (aJ (aJ (aJ (aJ [0,0,0,72] (iY f.q9 4)) (iY f.B 8)) (iY f.L 4)) (iY f.b0 8)) (iY f.b1 8)) (iY f.b2 8)) (iY f.b3 8)) (iY f.b4 8)) (iY f.b5 8)=QM f:=by
  rw[avr];unfold aJ QM;exact Eq.refl _
 rw[eH,X5 (by rw[NK];decide) (V6 f),ai,auM _ (aeg _),au (big _ (by simp [aJ,NK,tC])),af];unfold UN aJ;exact Eq.refl _
def rowB (l:List fE):List Int:=l.flatMap UN
theorem WE (l:List fE):(rowB l).length=72*l.length:=flat_length alI l
theorem aof (l:List fE):jU (rowB l):=JZ fun x _=>akB x
theorem akg (a b:List fE):rowB (a++b)=rowB a++rowB b:=by simp [rowB]
theorem alz {l:List fE} (hl:l.length<1000) (h:∀f∈l,ET f):JX l=some (rowB l,0):=by
 refine Wq.eq ?_;unfold JX;refine Wq.bind (Q:=fun w=>match w with | .inl _=>False | .inr w=>w.1=rowB l)
  (fG (n:=l.length) (step:=fun v:Int×List Int×Int×List Int=>Fq (len l) l v.1 v.2.1 v.2.2.1 v.2.2.2) (by omega) (fun i x=>x.1=rowB (l.take i)) _ ?_ ?_ _ 0 (awm _) (by simp [rowB])) ?_
 ·rintro i ⟨b,e,z⟩ hi hx;simp only at hx;subst hx;simp only[Fq];have hbl:=WE (l.take (i+1));rw[awu]at hbl;rw[au (by rw[dm];simpa using hi),au (inb _ i hi),aN _ i hi,afp (h _ (awl hi)),ai];have eb:aJ (rowB (l.take i)) (UN l[i])=rowB (l.take (i+1)):=by rw[gm hi,akg];simp [aJ,rowB]
  simp only[mD,aK,aT];rw[eb,au (uo (n:=72000) (by omega) (by decide)),af];exact⟨aZ (by omega),rfl⟩
 ·rintro⟨b,e,z⟩ hx;simp only at hx;simp only[Fq];rw[bK (En _),af];rwa[awq]at hx
 ·rintro(w | w) hw
  ·exact hw.elim
  ·simp only[dK,af];simp only at hw;rw[hw]
theorem al2 {l:List fE} (hl:l.length<1000):sD l=some (rowB l):=by
 refine Wq.eq ?_;unfold sD;refine Wq.bind (fG (n:=l.length) (step:=fun v:Int×List Int=>rP l v.1 v.2) (by omega) (fun i x=>x=rowB (l.take i)) (fun w=>w=rowB l) ?_ ?_ _ 0 (awm _) (by simp [rowB])) fun w hw=>(af _).2 hw
 ·rintro i x hi rfl;simp only[rP];have hbl:=WE (l.take (i+1));rw[awu]at hbl;have eb:aJ (rowB (l.take i)) (UN l[i])=rowB (l.take (i+1)):=by rw[gm hi,akg];simp [aJ,rowB]
  rw[au (by rw[dm];simpa using hi),au (inb _ i hi),aN _ i hi,aey,ai,eb,au (uo (n:=72000) (by omega) (by decide)),af];exact⟨aZ (by omega),rfl⟩
 ·rintro x rfl;simp only[rP];rw[bK (En _),af,awq]
def zh (w:dR):Int×Int:=if w.seg=0\/w.qQ=8 then (w.J+1,0)else (w.seg,w.qQ)
def lm (w:dR):Nat:=min w.M.length (8 - (zh w).2).toNat
def yC (w:dR):dR:=⟨w.q9,w.next,w.J+(lm w:Int),(zh w).1,(zh w).2+(lm w:Int),w.M.drop (lm w)⟩
def writeW (w:dR) (d:ak):ak×Int:=jm (dM d (kz (zh w).1) (rowB (w.M.take (lm w)))) fun d=>pq d (kz (zh w).1)
def sW:Nat->dR->ak->dR×ak×Int
 |0,w,d=>(w,d,0)
 |k+1,w,d=>if w.M=[]then (w,d,0)else if (writeW w d).2≠0 then (w,(writeW w d).1,(writeW w d).2)else sW k (yC w) (writeW w d).1
open Classical in
noncomputable def fA (w:dR) (d:ak):dR×ak×Int:=if rC w d then sW 40 w d else (w,d,1)
theorem aep:∀ {l:List fE} {n e:Int},rowP l n e->∀f∈l,ET f
 |[],_,_,_,f,hf=>by cases hf
 |g::l,n,e,h,f,hf=>by
  unfold rowP at h
  rcases aww.1 hf with rfl | hf
  ·exact h.1
  ·exact aep h.2.2.2 f hf
theorem ahM:∀ {l:List fE} {n e:Int} (k:Nat),k<=l.length->rowP l n e->rowP (l.drop k) (n+k) 1
 |l,n,e,0,_,h=>by
  rw[axP,Int.natCast_zero,Int.add_zero]
  cases l with
  |nil=>trivial
  |cons f r=>unfold rowP at h ⊢; exact⟨h.1,h.2.1,h.1.1,h.2.2.2⟩
 |[],n,e,k+1,hk,h=>by simp at hk
 |f::r,n,e,k+1,hk,h=>by
  unfold rowP at h
  rw[List.drop_succ_cons]
  have:=ahM k (by simp at hk;omega) h.2.2.2
  rw[show n+((k+1:Nat):Int)=f.B+1+(k:Int) by rw[h.2.1];omega]
  exact this
theorem X7 {w:dR} (hw:Aa w) (hne:w.M≠[]):jJ (zh w).1/\0<=(zh w).2/\(zh w).2<=7/\(zh w).1+(zh w).2=w.J+1:=by
 obtain⟨h1,h2,h3,h4,h5,h6,h7,h8⟩:=hw;have hl:0<w.M.length:=ax1.2 hne;unfold zh jJ;split
 ·simp only;omega
 ·rename_i h;simp only;rcases h8 with h8 | h8<;>omega
theorem Oc {w:dR} (hw:Aa w) (hne:w.M≠[]):1<=lm w/\lm w<=w.M.length/\(lm w:Int)<=8 - (zh w).2/\(lm w:Int)=kP (len w.M) (8 - (zh w).2):=by
 obtain⟨-, g1,g2, -⟩:=X7 hw hne;have hl:0<w.M.length:=ax1.2 hne;have hl2:len w.M=(w.M.length:Int):=rfl;rw[anK];unfold lm;refine⟨by omega,by omega,by omega,?_⟩;by_cases h:8 - (zh w).2<len w.M
 ·rw[awh h];omega
 ·rw[awg h];omega
theorem Wh {w:dR} (hw:Aa w) (hne:w.M≠[]):Aa (yC w):=by
 obtain⟨g0,g1,g2,g3⟩:=X7 hw hne;obtain⟨t1,t2,t3, -⟩:=Oc hw hne;obtain⟨h1,h2,h3,h4,h5,h6,h7,h8⟩:=hw;unfold jJ at g0;have hr:=ahM (lm w) t2 h6;refine⟨h1,h2,⟨?_,?_⟩,?_,?_,?_,?_,.inr ⟨g0.1,?_,?_,?_⟩⟩
 ·simp only[yC];omega
 ·simp only[yC];omega
 ·simp only[yC,awP];omega
 ·simp only[yC,awP];omega
 ·simp only[yC];rw[show w.J+(lm w:Int)+1=w.J+1+(lm w:Int) by omega];exact hr
 ·intro f hf;exact h7 f (axE hf)
 ·simp only[yC];omega
 ·simp only[yC];omega
 ·simp only[yC];omega
theorem V3 {w:dR} {d:ak} (h:fD d):Keep d (writeW w d).1:=GX (tu h) fun e he=>J8 he
theorem akN {w:dR} {d:ak} (h:iW d):iW (writeW w d).1:=GH (Hf h (aof _)) fun e he=>Nv he
theorem ag7 {l:List fE} (h:l.length<1000000):dZ l=some l:=by unfold dZ;exact wH h
abbrev CmR:=(Int×ak×dR×ak×dR) ⊕ ((Int×ak×dR×ak×dR) ⊕ (Int×ak×dR×ak×dR))
theorem apR {w:dR} {d:ak} (hw:Aa w) (hne:w.M≠[]) (hd:Ez d) (hdp:fD d) (v0:Int) (v1:ak) (v2:dR) {N S C T:Int} (hN:N=(lm w:Int)) (hS:S=(zh w).1) (hC:C=(zh w).2+(lm w:Int)) (hT:T=w.J+(lm w:Int)):
 Wq (cnd (band (ile 0 N) (ile N (len w.M))) (ah (JX (aV w.M (itn N))) fun y0=>ah (qA S) fun y1=>ah (je d y1 y0.1) fun y2=>cnd (ieq y2.2 0) (ah (qA S) fun y3=>ah (jZ y2.1 y3) fun y4=>cnd (ax (ieq y4.2 0)) (some (Sum.inr (Sum.inl (y4.2,y4.1,w,y4.1,w)))) (cnd (band (ile 0 N) (ile N (len w.M))) (ah (dZ (bZ w.M (itn N))) fun y5=>some (Sum.inl (v0,v1,v2,y4.1,dR.mk w.q9 w.next T S C y5))) none)) (cnd (ax (ieq y2.2 0)) (some (Sum.inr (Sum.inl (y2.2,y2.1,w,y2.1,w)))) (cnd (band (ile 0 N) (ile N (len w.M))) (ah (dZ (bZ w.M (itn N))) fun y6=>some (Sum.inl (v0,v1,v2,y2.1,dR.mk w.q9 w.next T S C y6))) none))) none)
  fun x:CmR=>x=if (writeW w d).2≠0 then Sum.inr (Sum.inl ((writeW w d).2,(writeW w d).1,w,(writeW w d).1,w))else Sum.inl (v0,v1,v2,(writeW w d).1,yC w):=by
 obtain⟨g0,g1,g2,g3⟩:=X7 hw hne
 obtain⟨t1,t2,t3, -⟩:=Oc hw hne
 subst hN hS hC hT
 have hin:band (ile 0 (lm w:Int)) (ile (lm w:Int) (len w.M))=true:=Ae (dW (by omega)) (dW (by simp only[len];omega))
 have hfr:=aep hw.2.2.2.2.2.1
 have hlen:=hw.2.2.2.1
 have hn:=Eb g0
 rw[vK,au hin,show aV w.M (lm w)=w.M.take (lm w)from rfl,alz (by rw[awu];omega) (fun f hf=>hfr f (axo hf)),ai,ad7]
 change Wq (ah (some (kz (zh w).1)) _) _
 have hbl:=WE (w.M.take (lm w))
 rw[awu]at hbl
 rw[ai,abJ hd hn.len (by simp only;omega),ai,dn]
 unfold writeW
 simp only
 by_cases h0:(dM d (kz (zh w).1) (rowB (w.M.take (lm w)))).2=0
 ·have hk:=tu (n:=kz (zh w).1) (b:=rowB (w.M.take (lm w))) hdp
  rw[awh h0,ai,aiN (hk.bnd hd.fu) hn.len,ai,cO,dn,then_ok h0]
  by_cases h1:(pq (dM d (kz (zh w).1) (rowB (w.M.take (lm w)))).1 (kz (zh w).1)).2=0
  ·rw[awh h1,au hin,show bZ w.M (lm w)=w.M.drop (lm w)from rfl,ag7 (by rw[awP];omega),ai,af,awg (fun g=>g h1)]
   rfl
  ·rw[awg h1,af,awh h1]
 ·rw[awg h0,cO,dn,awg h0,af,dY h0,awh h0]
theorem adK {w:dR} (h:Aa w):xW w:=by
 obtain⟨h1,h2,h3,h4,h5,h6,h7,h8⟩:=h;refine⟨⟨by omega,by omega⟩,⟨by omega,by omega⟩,⟨by omega,by omega⟩,?_,?_,by omega⟩<;>unfold inI<;>rcases h8 with h8 | h8<;>omega
theorem af7 (k:Nat) {w:dR} {d:ak} (h:w.M=[]):sW k w d=(w,d,0):=by
 cases k with
 |zero=>rfl
 |succ k=>rw[sW,awh h]
theorem ajd {w:dR} {d:ak} (hw:xW w) (hd:Ez d):MJ w d=some (fA w d):=by
 classical
 refine Wq.eq ?_;unfold MJ fA;rw[afe hw hd.nm,ai,cO,sN];by_cases hf:rC w d
 case neg=>rw[awg hf,af,awg hf]
 rw[awh hf,awh hf]
 refine Wq.bind (Q:=fun x:(Int×ak×dR×ak×dR) ⊕ (Int×ak×dR×ak×dR)=>match x with
  |.inl x=>sW 40 w d=(x.2.2.1,x.2.1,x.1)
  |.inr x=>sW 40 w d=(x.2.2.2.2,x.2.2.2.1,0))
  (Qs (step:=fun v:Int×ak×dR×ak×dR=>F6 v.1 v.2.1 v.2.2.1 v.2.2.2.1 v.2.2.2.2)
    (fun v=>v.2.2.2.2.M.length)
    (fun v=>Aa v.2.2.2.2/\fD v.2.2.2.1/\inI v.2.2.2.1.T/\∃k,v.2.2.2.2.M.length<=k/\sW 40 w d=sW k v.2.2.2.2 v.2.2.2.1) _ ?_ LF _ (Zb (by have:=hf.1.2.2.2.1;simp only;omega)) ⟨hf.1,hf.2.1,hd.fu,40,by have:=hf.1.2.2.2.1;simp only;omega,rfl⟩) ?_
 ·rintro⟨v0,v1,v2,e,u⟩ ⟨hu,he,hfu,k,hk,hkk⟩;simp only at hu he hfu hk hkk;simp only[F6];rw[xB];by_cases hz:0<len u.M
  case neg=>
   have hnil:u.M=[]:=aw8 (by simp only[len]at hz;omega);rw[awg hz,af];simp only;rw[hkk,af7 k hnil]
  have hne:u.M≠[]:=fun h=>by rw[h]at hz;simp [len]at hz
  rw[awh hz];obtain⟨s0,s1,s2,s3⟩:=X7 hu hne;obtain⟨t1,t2,t3,t4⟩:=Oc hu hne;have hsure:=hu.2.2.1;have hnx:=hu.2.1;have e1:wr .i64 (ay u.J 1)=u.J+1:=by rw[ay,bf (by omega) (by omega)]
  obtain⟨k,rfl⟩:∃j,k=j+1:=⟨k - 1,by have:=ax1.2 hne;omega⟩;have hk2:sW (k+1) u e=if (writeW u e).2≠0 then (u,(writeW u e).1,(writeW u e).2)else sW k (yC u) (writeW u e).1:=by rw[sW,awg hne]
  rw[hk2]at hkk;have hkw:=V3 (w:=u) he;rw[dF];refine⟨fun hc=> ?_,fun hc=> ?_⟩
  ·have hseg:zh u=(u.J+1,0):=by unfold zh;simp only[aH,aQ,aX,bn,aG,aF,bg,bC,aY,bI,aI,aP,bG,bJ]at hc;rw[awh hc]
   rw[hseg]at t3 t4 s0 s3;have e8:kP (len u.M) 8=(lm u:Int):=by rw[t4];rfl
   rw[e8,e1];have e9:wr .i64 (ay u.J (lm u:Int))=u.J+(lm u:Int):=by rw[ay,bf (by omega) (by omega)]
   have e10:wr .i64 (ay 0 (lm u:Int))=(lm u:Int):=by rw[ay,bf (by omega) (by omega)];omega
   rw[e9,e10];refine(apR hu hne (he.bnd hfu) he v0 v1 v2 rfl (by rw[hseg]) (by rw[hseg];simp) rfl).mono fun x hx=> ?_;rw[hx];by_cases hwz:(writeW u e).2≠0
   ·rw[awh hwz]at hkk ⊢;exact hkk
   ·rw[awg hwz]at hkk ⊢;exact⟨⟨Wh hu hne,hkw.right,(hkw.bnd hfu).fu,k,by simp only[yC,awP];omega,hkk⟩,by simp only[yC,awP];omega⟩
  ·have hseg:zh u=(u.seg,u.qQ):=by unfold zh;simp only[aH,aQ,aX,bn,aG,aF,bg,bC,aY,bI,aI,aP,bG,bJ]at hc;rw[awg (by omega)]
   rw[hseg]at t3 t4 s0 s1 s2 s3;simp only at s1 s2;have e8:wr .i64 (aO 8 u.qQ)=8 - u.qQ:=by rw[aO,bf (by omega) (by omega)]
   have e8':kP (len u.M) (8 - u.qQ)=(lm u:Int):=by rw[t4]
   rw[e8,e8'];have e9:wr .i64 (ay u.J (lm u:Int))=u.J+(lm u:Int):=by rw[ay,bf (by omega) (by omega)]
   have e10:wr .i64 (ay u.qQ (lm u:Int))=u.qQ+(lm u:Int):=by rw[ay,bf (by omega) (by omega)]
   rw[e9,e10];refine(apR hu hne (he.bnd hfu) he v0 v1 v2 rfl (by rw[hseg]) (by rw[hseg]) rfl).mono fun x hx=> ?_;rw[hx];by_cases hwz:(writeW u e).2≠0
   ·rw[awh hwz]at hkk ⊢;exact hkk
   ·rw[awg hwz]at hkk ⊢;exact⟨⟨Wh hu hne,hkw.right,(hkw.bnd hfu).fu,k,by simp only[yC,awP];omega,hkk⟩,by simp only[yC,awP];omega⟩
 ·rintro(x | x) hx
  ·simp only[dK,af];simp only at hx;exact hx.symm
  ·simp only[dK,af];simp only at hx;exact hx.symm
theorem asX {w v:dR} (hc:0<=v.qQ/\v.qQ<=8) (hl:w.M.length<=32):
 Wq (bU (fun x:Int×dR=>jF w x.1 x.2) LF (0,v)) fun r=>∃n:Nat,n=min w.M.length (8 - v.qQ).toNat/\r=((n:Int),⟨v.q9,v.next,v.J,v.seg,v.qQ+(n:Int),v.M⟩):=by
 refine Qs (fun x:Int×dR=>(min w.M.length (8 - v.qQ).toNat) - x.1.toNat) (fun x=>∃i:Nat,i<=min w.M.length (8 - v.qQ).toNat/\x=((i:Int),⟨v.q9,v.next,v.J,v.seg,v.qQ+(i:Int),v.M⟩)) _ ?_ LF _ (Zb (by simp only;omega)) ⟨0,awm _,by simp⟩
 rintro _ ⟨i,hi,rfl⟩
 simp only[jF]
 rw[dF]
 refine⟨fun h=>(af _).2 ⟨⟨i+1,?_,?_⟩,?_⟩,fun h=>(af _).2 ⟨i,?_,rfl⟩⟩
 ·simp only[aH,aQ,aX,bn,aG,aF,bg,bC,aY,bI,aI,aP,bG,bJ,len]at h;omega
 ·rw[aZ (by omega),ay,bf (by omega) (by omega)]
  simp only[awo,dR.mk.injEq,awx]
  exact⟨by omega,azv⟩
 ·simp only[aH,aQ,aX,bn,aG,aF,bg,bC,aY,bI,aI,aP,bG,bJ,len]at h
  simp only
  rw[aZ (by omega)];omega
 ·simp only[aH,aQ,aX,bn,aG,aF,bg,bC,aY,bI,aI,aP,bG,bJ,len]at h;omega
theorem aqL {w v:dR} {d:ak} (hw:Aa w) (hne:w.M≠[]) (hd:Ez d) (hdp:fD d) (v0:Int) (v1:ak) (v2:dR) (hv:v=⟨w.q9,w.next,w.J,(zh w).1,(zh w).2,w.M⟩):
 Wq (ah (bU (fun v=>jF w v.1 v.2) LF (0,v)) fun y0=>cnd (band (ile 0 y0.1) (ile y0.1 (len w.M))) (ah (gZ y0.2.seg) fun y1=>cnd (band (ile 0 y0.1) (ile y0.1 (len w.M))) (ah (sD (aV w.M (itn y0.1))) fun y2=>ah (fO d y1 y2) fun y3=>cnd (ax (ieq y3.2 0)) (some (Sum.inr (Sum.inl (y3.2,y3.1,w,d,w)))) (ah (gZ y0.2.seg) fun y4=>ah (gq y3.1 y4) fun y5=>cnd (ax (ieq y5.2 0)) (some (Sum.inr (Sum.inl (y5.2,y5.1,w,d,w)))) (some (Sum.inl (v0,v1,v2,y5.1,dR.mk y0.2.q9 y0.2.next (wr .i64 (ay w.J y0.1)) y0.2.seg y0.2.qQ (bZ w.M (itn y0.1))))))) none) none)
  fun x:CmR=>x=if (writeW w d).2≠0 then Sum.inr (Sum.inl ((writeW w d).2,(writeW w d).1,w,d,w))else Sum.inl (v0,v1,v2,(writeW w d).1,yC w):=by
 obtain⟨g0,g1,g2,g3⟩:=X7 hw hne
 obtain⟨t1,t2,t3, -⟩:=Oc hw hne
 have hlen:=hw.2.2.2.1
 have hsure:=hw.2.2.1
 have hnx:=hw.2.1
 have hfr:=aep hw.2.2.2.2.2.1
 have hn:=Eb g0
 refine(asX (w:=w) (v:=v) (by subst hv;simp only;omega) hlen).bind ?_
 rintro _ ⟨n,hnn,rfl⟩
 have en:n=lm w:=by rw[hnn,hv];rfl
 subst en
 have hin:band (ile 0 (lm w:Int)) (ile (lm w:Int) (len w.M))=true:=Ae (dW (by omega)) (dW (by simp only[len];omega))
 simp only
 have hvs:v.seg=(zh w).1:=by rw[hv]
 have hbl:=WE (w.M.take (lm w))
 rw[awu]at hbl
 rw[au hin,hvs,Zk g0,ai,au hin,vK,show aV w.M (lm w)=w.M.take (lm w)from rfl,al2 (by rw[awu];omega),ai,aer hd hn.len (by omega),ai,cO,dn]
 unfold writeW
 by_cases h0:(dM d (kz (zh w).1) (rowB (w.M.take (lm w)))).2=0
 ·have hk:=tu (n:=kz (zh w).1) (b:=rowB (w.M.take (lm w))) hdp
  rw[awh h0,ai,alB (hk.bnd hd.fu) hn.len,ai,cO,dn,then_ok h0]
  by_cases h1:(pq (dM d (kz (zh w).1) (rowB (w.M.take (lm w)))).1 (kz (zh w).1)).2=0
  ·rw[awh h1,af,awg (fun g=>g h1),ay,bf (by omega) (by omega)]
   subst hv
   rfl
  ·rw[awg h1,af,awh h1]
 ·rw[awg h0,af,dY h0,awh h0]
theorem abC {w:dR} {d:ak} (hw:xW w) (hd:Ez d):rY w d=some (fA w d):=by
 classical
 refine Wq.eq ?_;unfold rY fA;rw[Zg hw hd.nm,ai,cO,sN];by_cases hf:rC w d
 case neg=>rw[awg hf,af,awg hf]
 rw[awh hf,awh hf]
 refine Wq.bind (Q:=fun x:(Int×ak×dR×ak×dR) ⊕ (Int×ak×dR×ak×dR)=>match x with
  |.inl x=>sW 40 w d=(x.2.2.1,x.2.1,x.1)
  |.inr x=>sW 40 w d=(x.2.2.2.2,x.2.2.2.1,0))
  (Qs (step:=fun v:Int×ak×dR×ak×dR=>sS v.1 v.2.1 v.2.2.1 v.2.2.2.1 v.2.2.2.2)
    (fun v=>v.2.2.2.2.M.length)
    (fun v=>Aa v.2.2.2.2/\fD v.2.2.2.1/\inI v.2.2.2.1.T/\∃k,v.2.2.2.2.M.length<=k/\sW 40 w d=sW k v.2.2.2.2 v.2.2.2.1) _ ?_ LF _ (Zb (by have:=hf.1.2.2.2.1;simp only;omega)) ⟨hf.1,hf.2.1,hd.fu,40,by have:=hf.1.2.2.2.1;simp only;omega,rfl⟩) ?_
 ·rintro⟨v0,v1,v2,e,u⟩ ⟨hu,he,hfu,k,hk,hkk⟩;simp only at hu he hfu hk hkk;simp only[sS];rw[xB];by_cases hz:0<len u.M
  case neg=>
   have hnil:u.M=[]:=aw8 (by simp only[len]at hz;omega);rw[awg hz,af];simp only;rw[hkk,af7 k hnil]
  have hne:u.M≠[]:=fun h=>by rw[h]at hz;simp [len]at hz
  rw[awh hz];obtain⟨t1,t2,t3,t4⟩:=Oc hu hne;have hsure:=hu.2.2.1;have hnx:=hu.2.1;have e1:wr .i64 (ay u.J 1)=u.J+1:=by rw[ay,bf (by omega) (by omega)]
  obtain⟨k,rfl⟩:∃j,k=j+1:=⟨k - 1,by have:=ax1.2 hne;omega⟩;have hk2:sW (k+1) u e=if (writeW u e).2≠0 then (u,(writeW u e).1,(writeW u e).2)else sW k (yC u) (writeW u e).1:=by rw[sW,awg hne]
  rw[hk2]at hkk;have hkw:=V3 (w:=u) he;rw[dF];refine⟨fun hc=> ?_,fun hc=> ?_⟩
  ·have hseg:zh u=(u.J+1,0):=by unfold zh;simp only[aH,aQ,aX,bn,aG,aF,bg,bC,aY,bI,aI,aP,bG,bJ]at hc;rw[awh hc]
   rw[e1];refine(aqL hu hne (he.bnd hfu) he v0 v1 v2 (by rw[hseg])).mono fun x hx=> ?_;rw[hx];by_cases hwz:(writeW u e).2≠0
   ·rw[awh hwz]at hkk ⊢;exact hkk
   ·rw[awg hwz]at hkk ⊢;exact⟨⟨Wh hu hne,hkw.right,(hkw.bnd hfu).fu,k,by simp only[yC,awP];omega,hkk⟩,by simp only[yC,awP];omega⟩
  ·have hseg:zh u=(u.seg,u.qQ):=by unfold zh;simp only[aH,aQ,aX,bn,aG,aF,bg,bC,aY,bI,aI,aP,bG,bJ]at hc;rw[awg (by omega)]
   refine(aqL hu hne (he.bnd hfu) he v0 v1 v2 (by rw[hseg])).mono fun x hx=> ?_;rw[hx];by_cases hwz:(writeW u e).2≠0
   ·rw[awh hwz]at hkk ⊢;exact hkk
   ·rw[awg hwz]at hkk ⊢;exact⟨⟨Wh hu hne,hkw.right,(hkw.bnd hfu).fu,k,by simp only[yC,awP];omega,hkk⟩,by simp only[yC,awP];omega⟩
 ·rintro(x | x) hx
  ·simp only[dK,af];simp only at hx;exact hx.symm
  ·simp only[dK,af];simp only at hx;exact hx.symm
open Classical in
noncomputable def YC (w:dR) (k:Int) (b:SA6):dR×Int:=
 if ¬Aa w\/k<1\/6<k then (w,1)else if 1000000000<w.next then (w,3)else if w.M.length=32 then (w,6)
 else (⟨w.q9,w.next+1,w.J,w.seg,w.qQ,w.M++[⟨w.q9,w.next,k,b.a0,b.a1,b.a2,b.a3,b.a4,b.a5⟩]⟩,0)
theorem aoJ {w:dR} {k:Int} {b:SA6} (hw:xW w):XU w k b=some (YC w k b):=by
 refine Wq.eq ?_;unfold XU YC;rw[XE hw,ai,cO,sN];by_cases hp:Aa w
 case neg=>rw[awg hp,cO,sN,awg hp,af,awh (.inl hp)]
 rw[awh hp,xB k 1,xB k 1];by_cases h1:k<1
 ·rw[awh h1,awh h1,af,awh (.inr (.inl h1))]
 rw[awg h1,xB 6 k];by_cases h6:6<k
 ·rw[awh h6,af,awh (.inr (.inr h6))]
 rw[awg h6,awg (fun g=>by rcases g with g | g | g;exact g hp;exact h1 g;exact h6 g),xB,dn]
 by_cases hn:1000000000<w.next
 ·rw[awh hn,af,awh hn]
 rw[awg hn,awg hn];have hlen:=hp.2.2.2.1;have hnx:=hp.2.1;by_cases hl:w.M.length=32
 ·rw[awh (by simp only[len];omega),af,awh hl]
 ·rw[awg (by simp only[len];omega),ag7 (by omega),ai,au (uo (n:=100) (by simp [aJ];omega) (by decide)),af,awg hl,ay,bf (by omega) (by omega)];rfl
theorem apx {w:dR} {k:Int} {b:SA6} (hw:xW w):Aq w k b=some (YC w k b):=by
 refine Wq.eq ?_;unfold Aq YC;rw[XF hw,ai,dF];refine⟨fun h=>(af _).2 ?_,fun h=> ?_⟩
 ·simp only[aH,aQ,aX,bn,aG,aF,bg,bC,aY,bI,aI,aP,bG,bJ,axD]at h;rw[awh (by rcases h with (h | h) | h;exact .inl h;exact .inr (.inl h);exact .inr (.inr h))]
 ·simp only[aH,aQ,aX,bn,aG,aF,bg,bC,aY,bI,aI,aP,bG,bJ,axW]at h;obtain⟨⟨hp,h1⟩,h6⟩:=h;rw[awg (fun g=>by rcases g with g | g | g;exact g hp;omega;omega),xB,akH]
  by_cases hn:1000000000<w.next
  ·rw[awh hn,af,awh hn]
  rw[awg hn,awg hn];have hlen:=hp.2.2.2.1;have hnx:=hp.2.1;by_cases hl:w.M.length=32
  ·rw[awh (by simp only[len];omega),af,awh hl]
  ·rw[awg (by simp only[len];omega),au (uo (n:=100) (by omega) (by decide)),au (uo (n:=100) (by simp [aJ];omega) (by decide)),af,awg hl,ay,bf (by omega) (by omega)];rfl
def aeE (w:dR):List Int->Int
 |[]=>w.J
 |m::_=>m - 1
def CP (w:dR) (lsn:Int):List Int->ak->ak×Int
 |[],d=>(d,0)
 |n::r,d=>if n=w.seg then CP w lsn r d else if lsn<aeE w r then (d,0)else if (fK d (kz n)).2≠0 then fK d (kz n)else CP w lsn r (fK d (kz n)).1
open Classical in
noncomputable def Y3 (w:dR) (d:ak) (lsn:Int):ak×Int:=if rC w d then CP w lsn (zo d.b) d else (d,1)
theorem abt {d:ak}:∀n∈zo d.b,jJ n:=fun n hn=>by
 obtain⟨h1,h2⟩:=axK.1 hn;obtain⟨f,hf,rfl⟩:=axG.1 h1;exact(acT (by simp at h2;omega)).1
theorem aeJ {w:dR} {d:ak} {lsn:Int} (hw:xW w) (hd:Ez d):OQ w d lsn=some (Y3 w d lsn):=by
 classical
 refine Wq.eq ?_;unfold OQ Y3;rw[afe hw hd.nm,ai,cO,sN];by_cases hf:rC w d
 case neg=>rw[awg hf,af,awg hf]
 rw[awh hf,awh hf,ae8 hd.nm,ai,show acH d=zo d.b by unfold acH;rw[awh hf.2.1]];have hsl:=TB d.b;have hfl:=hf.2.1.fl;have hgen:=abt (d:=d);have hsure:=hf.1.2.2.1;generalize zo d.b=L at hsl hgen ⊢
 refine Wq.bind (Q:=fun x=>match x with
  |.inl x=>CP w lsn L d=(x.2.2,0)
  |.inr x=>CP w lsn L d=(x.2.1,x.1))
  (fG (n:=L.length) (step:=fun v:Int×Int×ak×ak=>Ei (len L) lsn L L w v.1 v.2.1 v.2.2.1 v.2.2.2) (by omega)
    (fun i x=>CP w lsn L d=CP w lsn (L.drop i) x.2.2/\fD x.2.2/\inI x.2.2.T) _ ?_ ?_ _ 0 (awm _) ⟨by simp,hf.2.1,hd.fu⟩) ?_
 ·rintro i ⟨a,z,e⟩ hi ⟨h1,h2,h3⟩;simp only at h1 h2 h3;simp only[Ei];rw[axe hi,CP]at h1;have hg:=hgen _ (awl hi);have hn:=Eb hg;rw[au (by rw[dm];simpa using hi),au (inb _ i hi),aN _ i hi,aZ (by omega),xB,dn,dn];have rem:∀last:Int,aeE w (L.drop (i+1))=last->L[i]≠w.seg->
   Wq (cnd (ilt lsn last) (some (Sum.inr (Sum.inl (a,z,e)))) (ah (qA L[i]) fun y0=>ah (vX e y0) fun y1=>cnd (ax (ieq y1.2 0)) (some (Sum.inr (Sum.inr (y1.2,y1.1,y1.1)))) (some (Sum.inl (((i+1:Nat):Int),a,z,y1.1)))))
   fun r:(Int×Int×ak×ak) ⊕ ((Int×ak×ak) ⊕ (Int×ak×ak))=>match r with
    |.inl (k,x')=>k=((i+1:Nat):Int)/\CP w lsn L d=CP w lsn (L.drop (i+1)) x'.2.2/\fD x'.2.2/\inI x'.2.2.T
    |.inr w'=>match w' with | .inl x=>CP w lsn L d=(x.2.2,0) | .inr x=>CP w lsn L d=(x.2.1,x.1):=by
   intro last hlast hseg;rw[awg hseg,hlast]at h1;rw[xB];by_cases hlt:lsn<last
   ·rw[awh hlt]at h1 ⊢;rw[af];exact h1
   ·rw[awg hlt]at h1 ⊢;rw[ad7];change Wq (ah (some (kz L[i])) _) _;rw[ai,afC (h2.bnd h3) hn.len,ai,cO,dn];by_cases h0:(fK e (kz L[i])).2=0
    ·rw[awh h0,af];rw[awg (fun g=>g h0)]at h1;have hk:=tN (n:=kz L[i]) h2;exact⟨rfl,h1,hk.right,(hk.bnd h3).fu⟩
    ·rw[awg h0,af];rw[awh h0]at h1;exact h1
  by_cases hnx:((i+1:Nat):Int)<len L
  ·have hi1:i+1<L.length:=by simp only[len]at hnx;omega
   have hg1:=hgen _ (awl hi1);unfold jJ at hg1;rw[awh hnx,au (inb _ _ hi1),aN _ _ hi1,aO,bf (by omega) (by omega)];by_cases hseg:L[i]=w.seg
   ·rw[awh hseg]at h1 ⊢;rw[af];exact⟨rfl,h1,h2,h3⟩
   ·rw[awg hseg];refine(rem (L[i+1] - 1) (by rw[axe hi1,aeE]) hseg).mono fun r hr=> ?_
    match r,hr with
    |.inl (k,x'),hr=>exact hr
    |.inr (.inl x),hr=>exact hr
    |.inr (.inr x),hr=>exact hr
  ·rw[awg hnx];by_cases hseg:L[i]=w.seg
   ·rw[awh hseg]at h1 ⊢;rw[af];exact⟨rfl,h1,h2,h3⟩
   ·rw[awg hseg];refine(rem w.J (by rw[axR (by simp only[len]at hnx;omega),aeE]) hseg).mono fun r hr=> ?_
    match r,hr with
    |.inl (k,x'),hr=>exact hr
    |.inr (.inl x),hr=>exact hr
    |.inr (.inr x),hr=>exact hr
 ·rintro⟨a,z,e⟩ ⟨h1,h2,h3⟩;simp only at h1;simp only[Ei];rw[bK (En _),af];rw[axs]at h1;exact h1
 ·rintro(x | x) hx
  ·simp only[dK,af];simp only at hx;exact hx.symm
  ·simp only[dK,af];simp only at hx;exact hx.symm
theorem amR {w:dR} {d:ak} {lsn:Int} (hw:xW w) (hd:Ez d):zQ w d lsn=some (Y3 w d lsn):=by
 classical
 refine Wq.eq ?_;unfold zQ Y3;rw[Zg hw hd.nm,ai,cO,sN];by_cases hf:rC w d
 case neg=>rw[awg hf,af,awg hf]
 have hfl:=hf.2.1.fl;rw[awh hf,awh hf,Wx hd.nm (by omega),ai,show acH d=zo d.b by unfold acH;rw[awh hf.2.1]];have hsl:=TB d.b;have hgen:=abt (d:=d);generalize zo d.b=L at hsl hgen ⊢
 refine Wq.bind (Q:=fun x=>match x with
  |.inl x=>CP w lsn L d=(x.2.1,x.1)
  |.inr x=>CP w lsn L d=(x.2.2,0))
  (fG (n:=L.length) (step:=fun v:Int×Int×ak×ak=>oH lsn L w v.1 v.2.1 v.2.2.1 v.2.2.2) (by omega)
    (fun i x=>CP w lsn L d=CP w lsn (L.drop i) x.2.2/\fD x.2.2/\inI x.2.2.T) _ ?_ ?_ _ 0 (awm _) ⟨by simp,hf.2.1,hd.fu⟩) ?_
 ·rintro i ⟨a,z,e⟩ hi ⟨h1,h2,h3⟩;simp only at h1 h2 h3;simp only[oH];rw[axe hi,CP]at h1;have hg:=hgen _ (awl hi);have hn:=Eb hg;rw[au (by rw[dm];simpa using hi),au (inb _ i hi),aN _ i hi,aZ (by omega),dn];by_cases hseg:L[i]=w.seg
  ·rw[awh hseg]at h1 ⊢;rw[af];exact⟨rfl,h1,h2,h3⟩
  rw[awg hseg]at h1 ⊢;have hlast:(bor (band (ilt ((i+1:Nat):Int) (len L)) (ilt lsn (wr .i64 (aO (aj L (itn ((i+1:Nat):Int))) 1)))) (band (ieq ((i+1:Nat):Int) (len L)) (ilt lsn w.J))=true)↔lsn<aeE w (L.drop (i+1)):=by
   by_cases hi1:i+1<L.length
   ·have hg1:=hgen _ (awl hi1);unfold jJ at hg1;rw[axe hi1,aeE,aN _ _ hi1,aO,bf (by omega) (by omega)];simp only[aH,aQ,aX,bn,aG,aF,bg,bC,aY,bI,aI,aP,bG,bJ,len];omega
   ·rw[axR (by omega),aeE];simp only[aH,aQ,aX,bn,aG,aF,bg,bC,aY,bI,aI,aP,bG,bJ,len];omega
  rw[au (by simp only[aH,aQ,aX,bn,aG,aF,bg,bC,aY,bI,aI,aP,bG,bJ,len];omega),dF];refine⟨fun hc=> ?_,fun hc=> ?_⟩
  ·rw[awh (hlast.1 hc)]at h1;rw[af];exact h1
  ·rw[awg (fun g=>by rw[hlast.2 g]at hc;cases hc)]at h1;rw[au (inb _ i hi),Zk hg,ai,af5 (h2.bnd h3) hn.len,ai,cO,dn];by_cases h0:(fK e (kz L[i])).2=0
   ·rw[awh h0,af];rw[awg (fun g=>g h0)]at h1;have hk:=tN (n:=kz L[i]) h2;exact⟨rfl,h1,hk.right,(hk.bnd h3).fu⟩
   ·rw[awg h0,af];rw[awh h0]at h1;exact h1
 ·rintro⟨a,z,e⟩ ⟨h1,h2,h3⟩;simp only at h1;simp only[oH];rw[bK (En _),af];rw[axs]at h1;exact h1
 ·rintro(x | x) hx
  ·simp only[dK,af];simp only at hx;exact hx.symm
  ·simp only[dK,af];simp only at hx;exact hx.symm
def upP (g:bD):Prop:=(g.up=true/\g.disk.Q=false/\rC g.wal g.disk)\/(g.up=false/\g.disk.Q=true/\g.Y=[]/\g.feed.F=[]/\g.feed.gap=false)
def BI (g:bD):Prop:=fD g.disk/\iH g.state/\Aa g.wal/\g.state.B+1=g.wal.next/\Ht g.Y g.wal.J g.state.B/\WC g.feed (g.state.A+1)/\(∀n∈g.feed.F,qf (nZ n))/\(0<=g.K/\g.K<=1000000000)/\upP g
noncomputable instance (g:bD):Decidable (BI g):=Classical.propDecidable _
structure SG (g:bD):Prop where
 st:iD g.state
 sh:sG g.state
 wal:xW g.wal
 wl:g.wal.M.length<=40
 bnd:Ez g.disk
 z7:iW g.disk
 fl:g.disk.b.length<=70
 ol:g.Y.length<=9999
 hl:g.feed.F.length<=200
 ok:∀n∈g.feed.F,xu n
 K:inI g.K
theorem acM (w:dR) (lsn:Int):∀(l:List Int) (d:ak),fD d->(∀n∈l,jJ n)->(CP w lsn l d).2≠1
 |[],d,hd,_=>by rw[CP];simp
 |n::r,d,hd,hg=>by
  have hk:=tN (n:=kz n) hd
  have h1:(fK d (kz n)).2≠1:=by
   unfold fK
   split
   ·rename_i h
    unfold gG at h ⊢
    rw[awg (fun g=>g hd)]at h ⊢
    split at h
    ·rename_i h2;simp [h2]
    ·rename_i h2
     rw[awh (by intro m hm;rw[awC.1 hm];exact Eb (hg n (by simp)))]at h
     exact absurd rfl h
   ·split
    ·simp
    ·split<;>simp
  rw[CP]
  split
  ·exact acM w lsn r d hd fun m hm=>hg m (by simp [hm])
  split
  ·simp
  split
  ·exact h1
  ·exact acM w lsn r _ hk.right fun m hm=>hg m (by simp [hm])
open Classical in
theorem alm {w:dR} {d:ak} (hw:xW w) (hd:Ez d):Ap w d=some (decide (rC w d)):=by
 unfold Ap;rw[aeJ hw hd,ai];unfold Y3;by_cases h:rC w d
 ·rw[awh h];have:=acM w 0 (zo d.b) d h.2.1 abt;rw[show ieq (CP w 0 (zo d.b) d).2 1=false by rw[aP];exact this];simp [h,ax]
 ·rw[awg h];simp [h,ieq,ax]
theorem asx (l:List dV) (hl:l.length<999999):Wq (bU (fun v:Int×Int=>eG (len l) l v.1 v.2) LF (0,0)) fun w=>match w with
 |.inl k=>0<=k/\¬∀n∈l,qf (nZ n)
 |.inr _=>∀n∈l,qf (nZ n):=by
 refine fG (n:=l.length) hl (fun i _=>∀n∈l.take i,qf (nZ n)) _ (fun i q hi hj=> ?_) (fun q hj=> ?_) _ 0 (awm _) (fun n hn=>by simp at hn)
 ·simp only[eG]
  rw[au (by rw[dm];simpa using hi),au (inb l i hi),aN _ i hi,show uV l[i]=some (nZ l[i])from rfl,ai]
  refine(DW _).bind fun b hb=> ?_
  rw[dF,af,af]
  refine⟨fun h=>⟨by omega,fun g=> ?_⟩,fun h=>⟨aZ (by omega),fun n hn=> ?_⟩⟩
  ·rw[aG]at h;subst h
   have:=hb.2 (g _ (awl hi));cases this
  ·rw[aF]at h
   rcases(sQ hi).1 hn with h1 | rfl
   ·exact hj n h1
   ·exact hb.1 h
 ·simp only[eG]
  rw[bK (by rw[show((l.length:Nat):Int)=len l from rfl];simp [ilt]),af]
  rw[awq]at hj
  exact hj
theorem amY (g:bD):vC g=some (decide (g.Y=[]/\g.feed.F=[]/\g.feed.gap=false)):=by
 unfold vC;congr 1;rw[ax5];simp only[aH,aQ,aX,bn,aG,aF,bg,bC,aY,bI,aI,aP,bG,bJ,aw9,len];constructor
 ·rintro⟨⟨h1,h2⟩,h3⟩;exact⟨aw8 (by omega),aw8 (by omega),h3⟩
 ·rintro⟨h1,h2,h3⟩;rw[h1,h2];exact⟨⟨rfl,rfl⟩,h3⟩
theorem aot {g:bD} (hg:SG g):Wq (ah (cnd (band (band (band (ile 0 g.K) (ile g.K 1000000000)) (ax (beq g.up g.disk.Q))) g.up) (Ap g.wal g.disk) (some false)) fun y7=>ah (cnd (band (band (band (band (ile 0 g.K) (ile g.K 1000000000)) (ax (beq g.up g.disk.Q))) (ax (band g.up y7))) (ax g.up)) (vC g) (some false)) fun y8=>some (band (band (band (ile 0 g.K) (ile g.K 1000000000)) (ax (beq g.up g.disk.Q))) (bor (band g.up y7) (band (ax g.up) y8)))) fun b=>b=true↔((0<=g.K/\g.K<=1000000000)/\upP g):=by
 classical
 obtain⟨q,hq1,hq2⟩:∃q:Bool,vC g=some q/\(q=true↔(g.Y=[]/\g.feed.F=[]/\g.feed.gap=false)):=⟨_,amY g,axW⟩;obtain⟨f,hf1,hf2⟩:∃f:Bool,Ap g.wal g.disk=some f/\(f=true↔rC g.wal g.disk):=⟨_,alm hg.wal hg.bnd,axW⟩;unfold upP;rw[hq1,hf1,<-hq2,<-hf2];by_cases hG:0<=g.K/\g.K<=1000000000
 ·have e1:band (ile 0 g.K) (ile g.K 1000000000)=true:=by simp only[aH,aQ,aX,bn,aG,aF,bg,bC,aY,bI,aI,aP,bG,bJ];exact hG
  rw[e1];cases hu:g.up<;>cases hd:g.disk.Q<;>cases f<;>cases q<;>simp [hG,cnd,band,bor,ax,beq,ai,af]
 ·have e1:band (ile 0 g.K) (ile g.K 1000000000)=false:=by simp only[aH,aQ,aX,bn,aG,aF,bg,bC,aY,bI,aI,aP,bG,bJ];omega
  rw[e1];simp only[show ∀x,band false x=false from fun x=>rfl,aT,ai,af];exact⟨fun h=>(by cases h),fun h=>absurd h.1 hG⟩
theorem anM {a b:Int} (hb:1<=b/\b<=1000000001):(a=wr .i64 (aO b 1))↔a+1=b:=by
 rw[aO,bf (by omega) (by omega)];omega
theorem aay {g:bD} (hg:SG g):Eu g=some (decide (BI g)):=by
 classical
 refine Wq.dec ?_;unfold Eu BI;rw[I7 hg.bnd.nm,ai];by_cases h1:fD g.disk
 case neg=>
  rw[awR h1];simp only[aW,aK,kH,dI,aU,aT,ai,show ∀x,bor true x=true from fun x=>rfl];rw[af];exact⟨fun h=>(by cases h),fun h=>absurd h.1 h1⟩
 rw[awv h1];simp only[aK,aW,aU];refine(MW g.state hg.st hg.sh.1 hg.sh.2.2.1 hg.sh.2.2.2).bind fun b hb=> ?_;cases b with
 |false=>
  have:¬iH g.state:=fun h=>by have:=hb.2 h;cases this
  simp only[aW,aK,kH,dI,aU,aT,ai,show ∀x,bor true x=true from fun x=>rfl,show ∀x,bor false x=x from fun x=>rfl];rw[af];exact⟨fun h=>(by cases h),fun h=>absurd h.2.1 this⟩
 |true=>
 have hR:=hb.1 rfl;simp only[aK,aW,dI,aU];rw[XE hg.wal,ai];by_cases h2:Aa g.wal
 case neg=>
  rw[awR h2];simp only[aW,show ∀x,bor false x=x from fun x=>rfl,aU];rw[af];exact⟨fun h=>(by cases h),fun h=>absurd h.2.2.1 h2⟩
 rw[awv h2];simp only[aK,aW,show ∀x,bor false x=x from fun x=>rfl,aT];have hn:=h2.2.1;by_cases h3:g.state.B+1=g.wal.next
 case neg=>
  have e3:ieq g.state.B (wr .i64 (aO g.wal.next 1))=false:=by rw[aP,ne_eq,anM hn];exact h3
  rw[e3];simp only[aW,aK,aT,ai,show ∀x,bor true x=true from fun x=>rfl,aU];rw[af];exact⟨fun h=>(by cases h),fun h=>absurd h.2.2.2.1 h3⟩
 have e3:ieq g.state.B (wr .i64 (aO g.wal.next 1))=true:=by rw[aI,anM hn];exact h3
 rw[e3];simp only[aW,aK,aU,show ∀x,bor false x=x from fun x=>rfl];refine(aqr g.Y g.wal.J g.state.B (by have:=hg.ol;omega)).bind fun c hc=> ?_;cases c with
 |false=>
  have:¬Ht g.Y g.wal.J g.state.B:=fun h=>by have:=hc.2 h;cases this
  simp only[aW,aK,aT,ai,show ∀x,bor true x=true from fun x=>rfl,aU];rw[af];exact⟨fun h=>(by cases h),fun h=>absurd h.2.2.2.2.1 this⟩
 |true=>
 have hO:=hc.1 rfl;have hq:=hR.fine.A;have hw:wr .i64 (ay g.state.A 1)=g.state.A+1:=bf (by simp only[ay];omega) (by simp only[ay];omega);rw[hw];simp only[aK,aW,aU,show ∀x,bor false x=x from fun x=>rfl];refine(aaB g.feed _).bind fun d hd=> ?_;cases d with
 |false=>
  have:¬WC g.feed (g.state.A+1):=fun h=>by have:=hd.2 h;cases this
  simp only[aW,aK,aT,ai,show ∀x,bor true x=true from fun x=>rfl,aU];rw[af];exact⟨fun h=>(by cases h),fun h=>absurd h.2.2.2.2.2.1 this⟩
 |true=>
 have hF:=hd.1 rfl;simp only[aK,aW,aU,show ∀x,bor false x=x from fun x=>rfl,aT];refine(asx g.feed.F (by have:=hg.hl;omega)).bind ?_;rintro(k | k) hk
 ·simp only[dK];rw[au (dW hk.1),af];exact⟨fun h=>(by cases h),fun h=>absurd h.2.2.2.2.2.2.1 hk.2⟩
 ·simp only[dK];obtain⟨b,h,q⟩:=aot hg;exact⟨b,h,fun hb=>⟨h1,hR,h2,h3,hO,hF,hk,q.1 hb⟩,fun hh=>q.2 hh.2.2.2.2.2.2.2⟩
theorem abB {g:bD} (hg:SG g):tX g=some (decide (BI g)):=by
 classical
 refine Wq.dec ?_;unfold tX BI;refine(ajj hg.st hg.sh).bind fun b hb=> ?_;cases b with
 |false=>
  have:¬iH g.state:=fun h=>by have:=hb.2 h;cases this
  simp only[aW,aK,kH,dI,aU,aT,ai,show ∀x,bor true x=true from fun x=>rfl,show ∀x,bor false x=x from fun x=>rfl];rw[af];exact⟨fun h=>(by cases h),fun h=>absurd h.2.1 this⟩
 |true=>
 have hR:=hb.1 rfl;simp only[aK,aW,dI,aU];rw[XF hg.wal,ai];by_cases h2:Aa g.wal
 case neg=>
  rw[awR h2];simp only[aW,aK,show ∀x,bor false x=x from fun x=>rfl,show ∀x,bor true x=true from fun x=>rfl,aU,aT,ai];rw[af];exact⟨fun h=>(by cases h),fun h=>absurd h.2.2.1 h2⟩
 rw[awv h2];simp only[aK,aW,show ∀x,bor false x=x from fun x=>rfl,aU];rw[Au hg.bnd.nm,ai];by_cases h1:fD g.disk
 case neg=>
  rw[awR h1];simp only[aW,aK,show ∀x,bor true x=true from fun x=>rfl,aU];rw[af];exact⟨fun h=>(by cases h),fun h=>absurd h.1 h1⟩
 rw[awv h1];simp only[aK,show ∀x,bor false x=x from fun x=>rfl];have hn:=h2.2.1;have hL:=hR.fine.B;have hl1:wr .i64 (ay g.state.B 1)=g.state.B+1:=bf (by simp only[ay];omega) (by simp only[ay];omega);rw[hl1,dF];refine⟨fun h=>(af _).2 ?_,fun h=> ?_⟩
 ·simp only[aH,aQ,aX,bn,aG,aF,bg,bC,aY,bI,aI,aP,bG,bJ]at h;refine⟨fun h=>(by cases h),fun k=> ?_⟩;have k3:=k.2.2.2.1;have k8:=k.2.2.2.2.2.2.2.1;omega
 simp only[aH,aQ,aX,bn,aG,aF,bg,bC,aY,bI,aI,aP,bG,bJ]at h;have h3:g.state.B+1=g.wal.next:=h.1.1;have hgen:0<=g.K/\g.K<=1000000000:=by omega
 refine(apH g.Y g.wal.J g.state.B (by have:=hg.ol;omega)).bind fun c hc=> ?_;cases c with
 |false=>
  have:¬Ht g.Y g.wal.J g.state.B:=fun h=>by have:=hc.2 h;cases this
  simp only[aW,aK,aT,ai,show ∀x,bor true x=true from fun x=>rfl,aU];rw[af];exact⟨fun h=>(by cases h),fun h=>absurd h.2.2.2.2.1 this⟩
 |true=>
 have hO:=hc.1 rfl;have hq:=hR.fine.A;have hw:wr .i64 (ay g.state.A 1)=g.state.A+1:=bf (by simp only[ay];omega) (by simp only[ay];omega);rw[hw];simp only[aK,aW,aU,show ∀x,bor false x=x from fun x=>rfl];refine(abn g.feed _ (fun n hn=>(hg.ok n hn).A)).bind fun d hd=> ?_;cases d with
 |false=>
  have:¬WC g.feed (g.state.A+1):=fun h=>by have:=hd.2 h;cases this
  simp only[aW,aU];rw[af];exact⟨fun h=>(by cases h),fun h=>absurd h.2.2.2.2.2.1 this⟩
 |true=>
 have hF:=hd.1 rfl;simp only[aK,aT];refine Wq.bind (Q:=fun w:Bool ⊕ Bool=>match w with | .inl b=>b=false/\¬∀n∈g.feed.F,qf (nZ n) | .inr _=>∀n∈g.feed.F,qf (nZ n))
  (fG (n:=g.feed.F.length) (step:=fun v:Int×Bool=>nD g v.1 v.2) (by have:=hg.hl;omega) (fun i _=>∀n∈g.feed.F.take i,qf (nZ n)) _ (fun i q hi hj=> ?_) (fun q hj=> ?_) _ 0 (awm _) (fun n hn=>by simp at hn)) ?_
 ·simp only[nD];have hhl:=hg.hl;rw[au (by rw[dm];simpa using hi),au (inb g.feed.F i hi),aN _ i hi,show kF g.feed.F[i]=some (nZ g.feed.F[i])from rfl,ai];refine(G5 _).bind fun b hb=> ?_;rw[dF,af,af];refine⟨fun h=>⟨rfl,fun g=> ?_⟩,fun h=>⟨aZ (by omega),fun n hn=> ?_⟩⟩
  ·rw[aG]at h;subst h;have:=hb.2 (g _ (awl hi));cases this
  ·rw[aF]at h;rcases(sQ hi).1 hn with h1 | rfl
   ·exact hj n h1
   ·exact hb.1 h
 ·simp only[nD];rw[bK (En _),af];rw[awq]at hj;exact hj
 rintro(k | k) hk
 ·simp only[dK,af];simp only at hk;rw[hk.1];exact⟨fun h=>(by cases h),fun h=>absurd h.2.2.2.2.2.2.1 hk.2⟩
 ·simp only[dK];simp only at hk;have base:(upP g↔(fD g.disk/\iH g.state/\Aa g.wal/\g.state.B+1=g.wal.next/\Ht g.Y g.wal.J g.state.B/\WC g.feed (g.state.A+1)/\(∀n∈g.feed.F,qf (nZ n))/\(0<=g.K/\g.K<=1000000000)/\upP g)):=
   ⟨fun h=>⟨h1,hR,h2,h3,hO,hF,hk,hgen,h⟩,fun h=>h.2.2.2.2.2.2.2.2⟩
  rw[Zg hg.wal hg.bnd.nm];have e0:=amY g;unfold vC at e0;have e0:=awr e0;cases hu:g.up<;>cases hdn:g.disk.Q
  ·simp only[aT,ai,af,show ∀x,band false x=false from fun x=>rfl];refine⟨fun h=>(by cases h),fun h=> ?_⟩;have h:=base.2 h;unfold upP at h;rw[hu,hdn]at h;rcases h with h | h<;>simp at h
  ·rw[aU,af,aW,show ∀x,band true x=x from fun x=>rfl,e0,aw9,<-base];unfold upP;rw[hu,hdn];simp
  ·rw[aT,aU,ai,af,show ∀x,band true x=x from fun x=>rfl,aw9,<-base];unfold upP;rw[hu,hdn];simp
  ·simp only[aU,aK,af,show ∀x,band false x=false from fun x=>rfl];refine⟨fun h=>(by cases h),fun h=> ?_⟩;have h:=base.2 h;unfold upP at h;rw[hu,hdn]at h;rcases h with h | h<;>simp at h
noncomputable def kN (g:bD):Int:=if ¬BI g then 1 else if g.up=true then 0 else 9
theorem Ns {g:bD} (hg:SG g):Bc g=some (kN g):=by
 unfold Bc kN;rw[aay hg,ai,cO,sN];by_cases h:BI g
 ·rw[awh h,awg (fun k=>k h)];cases g.up<;>rfl
 ·rw[awg h,awh h]
theorem ML {g:bD} (hg:SG g):kS g=some (kN g):=by
 unfold kS kN;rw[abB hg,ai,cO,sN];by_cases h:BI g
 ·rw[awh h,awg (fun k=>k h)];cases g.up<;>rfl
 ·rw[awg h,awh h]
theorem wP {g:bD}:kN g=0↔BI g/\g.up=true:=by
 unfold kN;by_cases h:BI g
 ·rw[awg (fun k=>k h)];by_cases hu:g.up=true
  ·simp [h,hu]
  ·simp [h,hu]
 ·rw[awh h];simp [h]
def Xe (r:iJ):SA6:=if r.L=1 then ⟨r.order,r.y,r.z,r.X,r.N,r.I⟩else if r.L=4 then ⟨r.y,r.z,r.long,r.qX,r.opn,0⟩else if r.L=5 then (if r.on=true then ⟨1,0,0,0,0,0⟩else ⟨0,0,0,0,0,0⟩)
 else if r.L=6 then ⟨r.A,r.Z,r.order,r.N,r.I,0⟩else ⟨r.order,r.N,r.I,0,0,0⟩
theorem ami {r:iJ} (h:qf r):Ut r=some (Xe r,0):=by
 unfold Ut Xe;obtain⟨b,hb,q⟩:=DW r;have:=q.2 h;subst this;rw[hb,ai,aK,aT,dn,dn,dn,dn];split
 ·rfl
 split
 ·rfl
 split
 ·cases r.on<;>rfl
 split<;>rfl
theorem alF {r:iJ} (h:qf r):zO r=some (Xe r):=by
 unfold zO Xe;rw[dn,dn,dn,dn,dn];unfold qf at h;rcases h with h | h | h | h | h | h
 ·rw[awh h.1,awh h.1]
 ·rw[awg (by omega),awh h.1,awg (by omega),awg (by omega),awg (by omega),awg (by omega)]
 ·rw[awg (by omega),awg (by omega),awh h.1,awg (by omega),awg (by omega),awg (by omega),awg (by omega),h.2.2.2.2.2.1,h.2.2.2.2.2.2.1]
 ·rw[awg (by omega),awg (by omega),awg (by omega),awh h.1,awg (by omega),awh h.1]
 ·rw[awg (by omega),awg (by omega),awg (by omega),awg (by omega),awg (by omega),awg (by omega),awg (by omega),awh h.1];cases r.on<;>rfl
 ·rw[awg (by omega),awg (by omega),awg (by omega),awg (by omega),awh h.1,awg (by omega),awg (by omega),awg (by omega),awh h.1]
noncomputable def cu (g:bD) (r:iJ):bD×Int:=
 if (doS g.state r).2≠0 then (g,(doS g.state r).2)else if (YC g.wal r.L (Xe r)).2≠0 then (g,(YC g.wal r.L (Xe r)).2)
 else (⟨g.disk,(YC g.wal r.L (Xe r)).1,(doS g.state r).1,g.Y,g.feed,g.K,g.up⟩,0)
theorem TQ {g:bD} {r:iJ} (hs:iD g.state) (hsh:sG g.state) (hw:xW g.wal) (hr:mG r):Et g r=some (cu g r):=by
 unfold Et cu;rw[ahq hs hr hsh.1 hsh.2.2.1 hsh.2.2.2,ai,cO,dn];by_cases h:(doS g.state r).2=0
 case neg=>rw[awg h,awh h]
 rw[awh h,awg (fun k=>k h),ami ((abj g.state r).good h).1.2.1,ai,aoJ hw,ai,cO,dn];by_cases h2:(YC g.wal r.L (Xe r)).2=0
 ·rw[awh h2,awg (fun k=>k h2)]
 ·rw[awg h2,awh h2]
theorem VY {g:bD} {r:iJ} (hs:iD g.state) (hsh:sG g.state) (hw:xW g.wal) (hr:mG r):qV g r=some (cu g r):=by
 unfold qV cu;rw[avo hs hr hsh,ai,cO,dn];by_cases h:(doS g.state r).2=0
 case neg=>rw[awg h,awh h]
 rw[awh h,awg (fun k=>k h),alF ((abj g.state r).good h).1.2.1,ai,apx hw,ai,cO,dn];by_cases h2:(YC g.wal r.L (Xe r)).2=0
 ·rw[awh h2,awg (fun k=>k h2)]
 ·rw[awg h2,awh h2]
theorem agL:∀ {l:List fE} {n e:Int} {f:fE},rowP l n e->ET f->f.B=n+l.length->e<=f.q9->(∀x∈l,x.q9<=f.q9)->rowP (l++[f]) n e
 |[],n,e,f,_,hf,hl,he,_=>⟨hf,by simpa using hl,he,azv⟩
 |x::r,n,e,f,h,hf,hl,he,hx=>by
  obtain⟨h1,h2,h3,h4⟩:=h
  refine⟨h1,h2,h3,agL h4 hf ?_ (hx x (by simp)) fun y hy=>hx y (by simp [hy])⟩
  simp only[awF]at hl;omega
structure asv (w v:dR):Prop where
 wal:Aa v
 next:v.next=w.next+1
 J:v.J=w.J
 seg:v.seg=w.seg
 qQ:v.qQ=w.qQ
 few:v.M.length=w.M.length+1
 lim:w.next<=1000000000
theorem auN {w:dR} {k:Int} {b:SA6} (h:(YC w k b).2=0):Aa w/\asv w (YC w k b).1:=by
 unfold YC at h ⊢;split at h
 ·cases h
 rename_i h1;split at h
 ·cases h
 rename_i h2;split at h
 ·cases h
 rename_i h3;rw[awg h1,awg h2,awg h3];have hw:Aa w:=axj.1 fun g=>h1 (.inl g);refine⟨hw,⟨?_,rfl,rfl,rfl,rfl,by simp,by omega⟩⟩;obtain⟨w1,w2,w3,w4,w5,w6,w7,w8⟩:=hw;have hk:1<=k/\k<=6:=by omega
 refine⟨w1,by simp only;omega,by simp only;omega,by simp only[awn,awY];omega,by simp only[awn,awY];omega,?_,?_,w8⟩
 ·refine agL w6 ⟨w1.1,w1.2,by simp only;omega,by simp only;omega,hk.1,hk.2⟩ (by simp only;omega) w1.1 fun x hx=> ?_;rw[w7 x hx];exact aw3 _
 ·intro x hx;rcases awt.1 hx with c | c
  ·exact w7 x c
  ·rw[awC.1 c]
theorem asv.fits {w v:dR} {d:ak} (h:asv w v) (hf:rC w d):rC v d:=by
 obtain⟨-, f2,f3,f4⟩:=hf;refine⟨h.wal,f2,?_,?_⟩
 ·rw[h.J];exact f3
 ·rw[h.seg,h.qQ];exact f4
theorem arC {w:dR} {k:Int} {b:SA6}:(YC w k b).2≠9:=by
 unfold YC;split
 ·simp
 split
 ·simp
 split<;>simp
theorem alu (s t:aB) (a y:Int):(Vs s t a y).2≠9:=by
 unfold Vs;split
 ·simp
 split<;>simp
theorem amU (s:aB) (r:iJ):(doS s r).2≠9:=by
 unfold doS;split
 ·simp
 split
 ·split
  ·simp
  split
  ·simp
  exact alu _ _ _ _
 split
 ·split
  ·simp
  split
  ·simp
  split
  ·simp
  exact alu _ _ _ _
 split
 ·split
  ·simp
  split<;>simp
 split
 ·split<;>simp
 split
 ·simp
 split
 ·simp
 split
 ·simp
 split<;>simp
theorem ZG (g:bD) (r:iJ):(cu g r).2≠9:=by
 unfold cu;split
 ·exact amU _ _
 split
 ·exact arC
 ·simp
structure avP (g h:bD):Prop where
 disk:h.disk=g.disk
 put:asv g.wal h.wal
 R:iH h.state
 B:h.state.B=g.state.B+1
 out:h.Y=g.Y
 feed:h.feed=g.feed
 K:h.K=g.K
 up:h.up=g.up
 st:iD h.state
 sh:sG h.state
theorem HY {g:bD} {r:iJ} (hs:iD g.state) (hsh:sG g.state) (hr:mG r) (h:(cu g r).2=0):avP g (cu g r).1/\(doS g.state r).2=0/\(cu g r).1.state=(doS g.state r).1:=by
 unfold cu at h ⊢;by_cases h1:(doS g.state r).2≠0
 ·rw[awh h1]at h;exact absurd h h1
 rw[awg h1]at h ⊢;by_cases h2:(YC g.wal r.L (Xe r)).2≠0
 ·rw[awh h2]at h;exact absurd h h2
 rw[awg h2];have h1:(doS g.state r).2=0:=axj.1 h1;have h2:(YC g.wal r.L (Xe r)).2=0:=axj.1 h2;have q:=(abj g.state r).good h1;exact⟨⟨rfl,(auN h2).2,agT q.1.1 hs hr,q.2.1,rfl,rfl,rfl,rfl,(abj g.state r).rng hs hr,aoB hsh r⟩,h1,rfl⟩
theorem akq:∀ {l:List jh} {a z:Int},Ht l a z->a<=z->(l.length:Int)<=z - a
 |[],a,z,_,h=>by simp;omega
 |m::r,a,z,h,_=>by
  have:=akq h.2.2.2 h.2.2.1
  have:=h.2.1
  simp only[awF];omega
theorem SG.of {g:bD} (h:BI g) (st:iD g.state) (sh:sG g.state) (fu:inI g.disk.T) (by':iW g.disk) (ok:∀n∈g.feed.F,xu n):SG g:=by
 obtain⟨h1,h2,h3,h4,h5,h6,h7,h8,h9⟩:=h;have w:=adK h3;have hl:=h3.2.2.2.1;have hs:=h3.2.2.2.2.1;have ho:=akq h5 (by have:=h3.2.2.1;omega);refine⟨st,sh,w,by omega,h1.bnd fu,by',by have:=h1.fl;omega,by omega,by have:=h6.2.2.1;omega,ok,by unfold inI;omega⟩
theorem abK {g:bD} (h:BI g) (hu:g.up=true):g.disk.Q=false/\rC g.wal g.disk:=by
 rcases h.2.2.2.2.2.2.2.2 with h | h
 ·exact h.2
 ·rw[h.1]at hu;cases hu
theorem UQ {g:bD} (hu:g.up=true):kN g≠9:=by
 unfold kN;rw[awh hu];split<;>simp
def ofM (k:Int) (o:aC) (z:Int):jh:=(vW k o z).getD ⟨0,0,0,0,0,0,0,0,0⟩
theorem atF (k:Int) (o:aC) (z:Int):vW k o z=some (ofM k o z):=by
 obtain⟨m,h⟩:=aug k o z;unfold ofM;rw[h];rfl
def Vp (g:bD) (r:iJ):bD:=⟨g.disk,g.wal,g.state,g.Y++[ofM r.L (aj g.state.a (itn (Rw g.state.a r.order))) g.state.B],g.feed,g.K,g.up⟩
noncomputable def Az (g:bD) (r:iJ):bD×Int:=
 if kN g≠0 then (g,kN g)else if r.L<1\/3<r.L then (g,1)else if (cu g r).2≠0 then (g,(cu g r).2)else (Vp (cu g r).1 r,0)
theorem acs {g:bD} {r:iJ} (hg:SG g) (hr:mG r) (hk:¬(r.L<1\/3<r.L)) (h:(cu g r).2=0):∃(j:Nat) (hj:j<(cu g r).1.state.a.length),Rw (cu g r).1.state.a r.order=(j:Int)/\
 (wE (cu g r).1.state.a[j])/\(r.L=2->1<=(cu g r).1.state.a[j].V/\1<=(cu g r).1.state.a[j].U/\1<=(cu g r).1.state.a[j].O):=by
 obtain⟨q,h1,h2⟩:=HY hg.st hg.sh hr h
 obtain⟨o,ho,hid,hv⟩:=aqg h1 (by omega)
 rw[<-h2]at ho
 obtain⟨j,hj,hf,rfl⟩:=ar6 q.R.fine.asc ho
 rw[hid]at hf
 exact⟨j,hj,Gg hf,(q.R.fine.ords _ (awl hj)).1,hv⟩
theorem agm {g:bD} {r:iJ} (hg:SG g) (hr:mG r):FP g r=some (Az g r):=by
 unfold FP Az;rw[Ns hg,ai,cO,dn];by_cases h0:kN g=0
 case neg=>rw[awg h0,awh h0]
 rw[awh h0,awg (fun k=>k h0)];by_cases hk:r.L<1\/3<r.L
 ·rw[au (by simp only[aH,aQ,aX,bn,aG,aF,bg,bC,aY,bI,aI,aP,bG,bJ];exact hk),awh hk]
 rw[bK (by simp only[aH,aQ,aX,bn,aG,aF,bg,bC,aY,bI,aI,aP,bG,bJ];omega),awg hk,TQ hg.st hg.sh hg.wal hr,ai,cO,dn];by_cases h:(cu g r).2=0
 case neg=>rw[awg h,awh h]
 rw[awh h,awg (fun k=>k h)];have hol:=hg.ol;obtain⟨j,hj,hf, -⟩:=acs hg hr hk h;obtain⟨q,-, -⟩:=HY hg.st hg.sh hr h;rw[PU _ _ q.sh.1,ai,hf,au (inb _ j hj),show gu g.Y=some g.Y from wH (by omega),ai,atF,ai,au (by simp only[aJ,len];exact dW (by simp;omega))];unfold Vp;rw[hf,q.out];rfl
theorem agE {g:bD} {r:iJ} (hg:SG g) (hr:mG r):wY g r=some (Az g r):=by
 unfold wY Az;rw[ML hg,ai,cO,dn];by_cases h0:kN g=0
 case neg=>rw[awg h0,awh h0]
 rw[awh h0,awg (fun k=>k h0)];by_cases hk:r.L<1\/3<r.L
 ·rw[au (by simp only[aH,aQ,aX,bn,aG,aF,bg,bC,aY,bI,aI,aP,bG,bJ];omega),awh hk]
 rw[bK (by simp only[aH,aQ,aX,bn,aG,aF,bg,bC,aY,bI,aI,aP,bG,bJ];omega),awg hk,VY hg.st hg.sh hg.wal hr,ai,cO,dn];by_cases h:(cu g r).2=0
 case neg=>rw[awg h,awh h]
 rw[awh h,awg (fun k=>k h)];have hol:=hg.ol;obtain⟨j,hj,hf, -⟩:=acs hg hr hk h;obtain⟨q,-, -⟩:=HY hg.st hg.sh hr h;rw[aio _ _ q.sh.1,ai,hf,au (inb _ j hj),av8,atF,ai,au (uo (n:=99999) (by omega) (by decide)),au (by simp only[aJ,len];exact dW (by simp;omega))];unfold Vp;rw[hf,q.out];rfl
theorem aiH {g:bD} {r:iJ} (hg:SG g) (hr:mG r):SG (Az g r).1/\(BI g->BI (Az g r).1)/\(Az g r).1.up=g.up/\(Az g r).1.disk=g.disk/\(Az g r).1.wal.J=g.wal.J/\(Az g r).1.K=g.K/\(g.up=true->(Az g r).2≠9):=by
 unfold Az;by_cases h0:kN g=0
 case neg=>
  rw[awh h0];refine⟨hg,id,rfl,rfl,rfl,rfl,fun hu=> ?_⟩;exact UQ hu
 rw[awg (fun k=>k h0)];obtain⟨hG,hu⟩:=wP.1 h0;by_cases hk:r.L<1\/3<r.L
 ·rw[awh hk];exact⟨hg,id,rfl,rfl,rfl,rfl,fun _=>by simp⟩
 rw[awg hk];by_cases h:(cu g r).2=0
 case neg=>rw[awh h];exact⟨hg,id,rfl,rfl,rfl,rfl,fun _=>ZG g r⟩
 rw[awg (fun k=>k h)];obtain⟨j,hj,hf,hoP,hv⟩:=acs hg hr hk h;obtain⟨q,hd0,hds⟩:=HY hg.st hg.sh hr h;obtain⟨h1,h2,h3,h4,h5,h6,h7,h8,h9⟩:=hG;have hfit:=abK ⟨h1,h2,h3,h4,h5,h6,h7,h8,h9⟩ hu;have hseq:(cu g r).1.state.A=g.state.A:=by
  have:=((abj g.state r).good hd0).2.2.1;rw[hds,this,awg (by omega)]
 have hsn:=h3.2.2.1;have hlim:=q.put.lim;have hlsn:=q.B;have hnew:Ht (Vp (cu g r).1 r).Y g.wal.J (g.state.B+1):=by
  unfold Vp;simp only;rw[q.out,hf,aN _ _ hj,hlsn];obtain⟨m,hm,hmp,hml⟩:=ava (k:=r.L) (z:=g.state.B+1) hoP (by omega) hv (by omega);have:ofM r.L (cu g r).1.state.a[j] (g.state.B+1)=m:=by unfold ofM;rw[hm];rfl
  rw[this];exact aj7 (z:=g.state.B) h5 (by omega) hmp (by omega) (by omega)
 have hR:BI (Vp (cu g r).1 r):=by
  refine⟨by rw[show(Vp (cu g r).1 r).disk=_ from q.disk];exact h1,q.R,q.put.wal,?_,?_,?_,?_,?_,.inl ⟨q.up.trans hu,?_,?_⟩⟩
  ·show(cu g r).1.state.B+1=(cu g r).1.wal.next;rw[hlsn,q.put.next];omega
  ·rw[show(Vp (cu g r).1 r).wal.J=g.wal.J from q.put.J,show(Vp (cu g r).1 r).state.B=g.state.B+1 from hlsn];exact hnew
  ·rw[show(Vp (cu g r).1 r).feed=g.feed from q.feed,show(Vp (cu g r).1 r).state.A=g.state.A from hseq];exact h6
  ·rw[show(Vp (cu g r).1 r).feed=g.feed from q.feed];exact h7
  ·rw[show(Vp (cu g r).1 r).K=g.K from q.K];exact h8
  ·rw[show(Vp (cu g r).1 r).disk=g.disk from q.disk];exact hfit.1
  ·rw[show(Vp (cu g r).1 r).disk=g.disk from q.disk];exact q.put.fits hfit.2
 refine⟨SG.of hR q.st q.sh ?_ ?_ ?_,fun _=>hR,q.up,q.disk,q.put.J,q.K,fun _=>by simp⟩
 ·rw[show(Vp (cu g r).1 r).disk=g.disk from q.disk];exact hg.bnd.fu
 ·rw[show(Vp (cu g r).1 r).disk=g.disk from q.disk];exact hg.z7
 ·rw[show(Vp (cu g r).1 r).feed=g.feed from q.feed];exact hg.ok
def Dh (p:ak×Int):Prop:=p.1.Q=true↔p.2=9
theorem kG {d:ak} {c:Int} (h:d.Q=false) (hc:c≠9):Dh (d,c):=by unfold Dh;simp [h,hc]
theorem OD {d:ak} {ns:List Nm} (h:d.Q=false):gG d ns≠9:=by
 unfold gG;split
 ·simp
 rw[awg (by rw[h];simp)];split<;>simp
theorem Oj {d:ak} (h:d.Q=false):((dG d).2=true/\(dG d).1.Q=false)\/((dG d).2=false/\(dG d).1.Q=true):=by
 unfold dG;split
 ·exact .inr ⟨rfl,rfl⟩
 split
 ·exact .inl ⟨rfl,h⟩
 ·exact .inl ⟨rfl,h⟩
theorem adh {d:ak} {n:Nm} {b:List Int} (h:d.Q=false):Dh (dM d n b):=by
 unfold dM;split
 ·exact kG h (OD h)
 split
 ·exact kG h (by simp)
 ·unfold aik Dh;rcases Oj (d:=Ad d ⟨n,((dN d.b n).getD ⟨n,[],0⟩).data++b,((dN d.b n).getD ⟨n,[],0⟩).J⟩) h with ⟨h1,h2⟩ | ⟨h1,h2⟩<;>simp [h1,h2]
theorem agS {d:ak} {n:Nm} (h:d.Q=false):Dh (pq d n):=by
 unfold pq;split
 ·exact kG h (OD h)
 split
 ·exact kG h (by simp)
 ·unfold Dh;rcases Oj h with ⟨h1,h2⟩ | ⟨h1,h2⟩<;>simp [h1,h2,Ad]
theorem aks {d:ak} {a b:Nm} (h:d.Q=false):Dh (jH d a b):=by
 unfold jH;split
 ·exact kG h (OD h)
 split
 ·exact kG h (by simp)
 ·unfold Dh;rcases Oj h with ⟨h1,h2⟩ | ⟨h1,h2⟩<;>simp [h1,h2,Ad,acB]
theorem Wv {d:ak} {n:Nm} (h:d.Q=false):Dh (fK d n):=by
 unfold fK;split
 ·exact kG h (OD h)
 split
 ·exact kG h (by simp)
 ·unfold Dh;rcases Oj h with ⟨h1,h2⟩ | ⟨h1,h2⟩<;>simp [h1,h2,acB]
theorem arv {d:ak} {n:Nm} {k:Int} (h:d.Q=false):Dh (Ce d n k):=by
 unfold Ce;split
 ·exact kG h (OD h)
 split
 ·exact kG h (by simp)
 split
 ·exact kG h (by simp)
 ·unfold Dh;rcases Oj h with ⟨h1,h2⟩ | ⟨h1,h2⟩<;>simp [h1,h2,Ad]
theorem Dh.up {p:ak×Int} (h:Dh p) (h0:p.2≠9):p.1.Q=false:=by
 unfold Dh at h;cases hd:p.1.Q with
 |false=>rfl
 |true=>exact absurd (h.1 hd) h0
theorem J7 {p:ak×Int} {f:ak->ak×Int} (h:Dh p) (hf:∀e,e.Q=false->Dh (f e)):Dh (jm p f):=by
 by_cases h0:p.2=0
 ·rw[then_ok h0];exact hf _ (h.up (by omega))
 ·rw[dY h0];exact h
theorem af2 {d:ak} (h:d.Q=false):(dS d).2≠9:=by
 unfold dS;split
 ·simp
 rw[awg (by rw[h];simp)];split<;>simp
theorem alX {d:ak} {s:dU} (h:d.Q=false):Dh (xI d s):=by
 unfold xI;split
 ·exact kG h (by simp)
 rw[awg (af2 h)];split
 ·exact kG h (by simp)
 ·unfold ai6 uN;refine J7 (J7 ?_ fun e he=>adh he) fun e he=>agS he;split
  ·exact kG h (by simp)
  ·exact arv h
theorem aft {gen:Int}:∀(l:List aS) {p:ak×Int},Dh p->Dh (jS gen p l)
 |[],p,h=>h
 |f::r,p,h=>by
  rw[Z4]
  refine aft r ?_
  unfold CJ
  split
  ·exact J7 h fun e he=>Wv he
  ·exact h
theorem aop {d:ak} {s:aB} (h:d.Q=false):(mY d s).1.Q=true↔(mY d s).2.2=9:=by
 unfold mY;split
 ·simp [h]
 rw[awg (af2 h)];split
 ·simp [h]
 ·have q:Dh (jS ((dS d).1.K+1) (yV d ((dS d).1.K+1) s.B (encZ s)) (yV d ((dS d).1.K+1) s.B (encZ s)).1.b):=by
   refine aft _ ?_;unfold yV yX;refine J7 (J7 (J7 (J7 ?_ fun e he=>adh he) fun e he=>agS he) fun e he=>aks he) fun e he=>alX he;split
   ·exact kG h (by simp)
   ·exact Wv h
  unfold RN;split
  ·exact q
  ·rename_i h0;have h0:=axj.1 h0;have:=q.up (by omega);simp [this]
theorem ajT {l:List aS} (ha:J3 l) {p:Nm->Prop}:(∀f∈l,p f.name)↔∀n f,dN l n=some f->p n:=by
 constructor
 ·intro h n f hg;have:=BQ hg;rw[<-this.2];exact h f this.1
 ·intro h f hf;exact h _ f (get_mem ha hf)
theorem aib {w:dR} {d:ak} (hw:Aa w) (hd:fD d) (h1:∀n f,dN d.b n=some f->ji wu n<=w.J) (h2:w.seg=0\/∃f,dN d.b (kz w.seg)=some f/\(f.data.length:Int)=w.qQ*72):rC w d:=
 ⟨hw,hd,(ajT hd.asc (p:=fun n=>ji wu n<=w.J)).2 h1,h2⟩
theorem aa3 {w:dR} {d:ak} (h:rC w d) {n:Nm} {f:aS} (hg:dN d.b n=some f):ji wu n<=w.J:=
 (ajT h.2.1.asc (p:=fun n=>ji wu n<=w.J)).1 h.2.2.1 n f hg
theorem apa {w:dR} {d e:ak} (h:rC w d) (he:fD e) (hs:∀n,ji wu n≠0->dN e.b n=dN d.b n):rC w e:=by
 have hw:=h.1;refine aib hw he (fun n f hg=> ?_) ?_
 ·by_cases hn:ji wu n=0
  ·rw[hn];exact hw.2.2.1.1
  ·rw[hs n hn]at hg;exact aa3 h hg
 ·rcases h.2.2.2 with h0 | ⟨f,hg,hf⟩
  ·exact .inl h0
  ·by_cases hz:w.seg=0
   ·exact .inl hz
   ·have hgp:=(hw.seg hz).1;refine .inr ⟨f,?_,hf⟩;rw[hs _ (by rw[Nu hgp];exact hz)];exact hg
theorem amw {w:dR} {d:ak} (hne:w.M≠[]) (hf:rC w d) (hu:d.Q=false):
 ((writeW w d).2=0/\(writeW w d).1.Q=false/\rC (yC w) (writeW w d).1)\/((writeW w d).2=6/\(writeW w d).1=d)\/((writeW w d).2=9/\(writeW w d).1.Q=true):=by
 have hw:=hf.1
 obtain⟨g0,g1,g2,g3⟩:=X7 hw hne
 obtain⟨t1,t2,t3, -⟩:=Oc hw hne
 have hn:=Eb g0
 have hU:UpD d:=⟨hf.2.1,hu⟩
 have hsr:=hw.2.2.1
 unfold writeW
 generalize hB:rowB (w.M.take (lm w))=B
 have hBl:B.length=72*lm w:=by rw[<-hB,WE,awu];omega
 rcases Un (b:=B) hU hn with ⟨a1,a2, -⟩ | ⟨a1,a2,a3,a4⟩
 ·right;left
  rw[dY (by rw[a1];simp)];exact⟨a1,a2⟩
 rcases a1.cases with c | ⟨c1,c2, -⟩
 case inr=>
  right;right
  rw[dY (by rw[c1];simp)];exact⟨c1,c2⟩
 rw[then_ok c]
 have hU2:=a1.up c
 have hg:=a2 (kz (zh w).1)
 rw[awh rfl]at hg
 obtain⟨s1,s2,s3,s4,s5⟩:=ZM hU2 hn hg
 rcases s1.cases with e | ⟨e1,e2, -⟩
 case inr=>exact .inr (.inr ⟨e1,e2⟩)
 refine .inl ⟨e,(s1.up e).up,aib (Wh hw hne) (s1.up e).right (fun n f hgf=> ?_) (.inr ?_)⟩
 ·rw[s2 e n]at hgf
  by_cases hnn:n=kz (zh w).1
  ·rw[hnn,Nu g0];simp only[yC];omega
  ·rw[awg hnn,a2 n,awg hnn]at hgf
   have:=aa3 hf hgf
   simp only[yC];omega
 ·refine⟨_,(s2 e _).trans (awh rfl),?_⟩
  simp only[yC,awn,hBl]
  have hold:((((dN d.b (kz (zh w).1)).getD ⟨kz (zh w).1,[],0⟩).data.length:Nat):Int)=(zh w).2*72:=by
   by_cases hs:w.seg=0\/w.qQ=8
   ·have hq:zh w=(w.J+1,0):=awh hs
    rw[hq]at g0 ⊢
    have:dN d.b (kz (w.J+1))=none:=by
     cases hgg:dN d.b (kz (w.J+1))with
     |none=>rfl
     |some f=>
      have:=aa3 hf hgg
      rw[Nu g0]at this;omega
    simp only[this];simp
   ·have hq:zh w=(w.seg,w.qQ):=awg hs
    rw[hq]
    rcases hf.2.2.2 with hz | ⟨f,f1,f2⟩
    ·exact absurd (.inl hz) hs
    ·simp only[f1];simpa using f2
  push_cast
  omega
structure avA (w:dR) (d:ak) (r:dR×ak×Int):Prop where
 wal:Aa r.1
 next:r.1.next=w.next
 q9:r.1.q9=w.q9
 J:w.J<=r.1.J
 keep:Keep d r.2.1
 z7:iW d->iW r.2.1
 code:(r.2.2=0/\r.2.1.Q=false/\rC r.1 r.2.1/\r.1.M=[])\/(r.2.2=6/\r.2.1.Q=false/\rC r.1 r.2.1)\/(r.2.2=9/\r.2.1.Q=true)
theorem afN:∀(k:Nat) {w:dR} {d:ak},w.M.length<=k->rC w d->d.Q=false->avA w d (sW k w d)
 |0,w,d,hk,hf,hu=>by
  rw[sW]
  exact⟨hf.1,rfl,rfl,aw3 _,Keep.refl hf.2.1,id,.inl ⟨rfl,hu,hf,aw8 (by show w.M.length=0;omega)⟩⟩
 |k+1,w,d,hk,hf,hu=>by
  rw[sW]
  by_cases hne:w.M=[]
  ·rw[awh hne]
   exact⟨hf.1,rfl,rfl,aw3 _,Keep.refl hf.2.1,id,.inl ⟨rfl,hu,hf,hne⟩⟩
  rw[awg hne]
  have hkw:=V3 (w:=w) hf.2.1
  have hbw:iW d->iW (writeW w d).1:=fun h=>akN h
  obtain⟨t1,t2,-, -⟩:=Oc hf.1 hne
  rcases amw hne hf hu with ⟨a,b,c⟩ | ⟨a,b⟩ | ⟨a,b⟩
  ·rw[awg (fun g=>g a)]
   have ih:=afN k (w:=yC w) (d:=(writeW w d).1) (by simp only[yC,awP];omega) c b
   exact⟨ih.wal,ih.next,ih.q9,by have:=ih.J;rw[show(yC w).J=w.J+(lm w:Int)from rfl]at this;omega,hkw.trans ih.keep,fun h=>ih.z7 (hbw h),ih.code⟩
  ·rw[awh (by rw[a];simp)]
   exact⟨hf.1,rfl,rfl,aw3 _,hkw,hbw,.inr (.inl ⟨a,by rw[b];exact hu,by rw[b];exact hf⟩)⟩
  ·rw[awh (by rw[a];simp)]
   exact⟨hf.1,rfl,rfl,aw3 _,hkw,hbw,.inr (.inr ⟨a,b⟩)⟩
theorem acW {w:dR} {d:ak} (hf:rC w d) (hu:d.Q=false):avA w d (fA w d):=by
 unfold fA;rw[awh hf];exact afN 40 (by have:=hf.1.2.2.2.1;omega) hf hu
theorem Ui {l:List jh} {s:Int} {i:Nat} (h1:∀(j:Nat) (h:j<l.length),j<i->l[j].B<=s) (h2:∀h:i<l.length,s<l[i].B) (hi:i<=l.length):
 l.take i=(l.takeWhile fun m=>decide (m.B<=s))/\l.drop i=(l.dropWhile fun m=>decide (m.B<=s)):=by
 induction l generalizing i with
 |nil=>simp at hi;subst hi;simp
 |cons m r ih=>
  cases i with
  |zero=>
   have:=h2 (by simp)
   simp at this
   rw[List.takeWhile_cons_of_neg (by simp;omega),List.dropWhile_cons_of_neg (by simp;omega)]
   simp
  |succ i=>
   have h0:=h1 0 (by simp) (by omega)
   simp at h0
   rw[List.takeWhile_cons_of_pos (by simpa using h0),List.dropWhile_cons_of_pos (by simpa using h0)]
   have:=ih (i:=i) (fun j h hj=>by have:=h1 (j+1) (by simp;omega) (by omega);simpa using this) (fun h=>by have:=h2 (by simp;omega);simpa using this) (by simp at hi;omega)
   simp [this.1,this.2]
def goM (l:List jh) (s:Int):List jh:=l.takeWhile fun m=>decide (m.B<=s)
def RG (l:List jh) (s:Int):List jh:=l.dropWhile fun m=>decide (m.B<=s)
theorem X8 {l:List jh} (h:l.length<1000000):gu l=some l:=wH h
theorem afE {α:Type} (l:List α) (i:Nat):aV l (itn (i:Int))=l.take i:=rfl
theorem afr {α:Type} (l:List α) (i:Nat):bZ l (itn (i:Int))=l.drop i:=rfl
theorem aez {l:List jh} {s:Int} (hl:l.length<99999):H8 l s=some (goM l s,RG l s):=by
 refine Wq.eq ?_;unfold H8
 refine Wq.bind (Q:=fun w:Int ⊕ Int=>match w with
  |.inl k=>∃i:Nat,k=(i:Int)/\i<=l.length/\l.take i=goM l s/\l.drop i=RG l s
  |.inr _=>l=goM l s/\RG l s=[])
  (fG (n:=l.length) (step:=fun v:Int×Int=>fB (len l) l s v.1 v.2) (by omega) (fun i _=>∀(j:Nat) (h:j<l.length),j<i->l[j].B<=s) _ (fun i q hi hj=> ?_) (fun q hj=> ?_) _ 0 (awm _) (fun j h hj=>by omega)) ?_
 ·simp only[fB];rw[au (by rw[dm];simpa using hi),au (inb l i hi),aN _ i hi,xB];by_cases h:s<l[i].B
  ·rw[awh h];have:=Ui hj (fun _=>h) (by omega);exact(af _).2 ⟨i,rfl,by omega,this.1,this.2⟩
  ·rw[awg h];refine(af _).2 ⟨aZ (by omega),fun j hjl hji=> ?_⟩;by_cases e:j=i
   ·subst e;omega
   ·exact hj j hjl (by omega)
 ·simp only[fB];rw[bK (En _)];have:=Ui (i:=l.length) hj (fun h=>by omega) (by omega);refine(af _).2 ⟨?_,?_⟩
  ·have:=this.1;rw[awq]at this;exact this
  ·have:=this.2;rw[axs]at this;exact this.symm
 ·rintro(k | k) hk
  ·obtain⟨i,rfl,hi,h1,h2⟩:=hk;simp only[dK];have hin:band (ile 0 (i:Int)) (ile (i:Int) (len l))=true:=Ae (dW (by omega)) (dW (by simp only[len];omega));rw[bK (nP (by omega)),au hin,afE,afr,X8 (by rw[awu];omega),ai,au hin,X8 (by rw[awP];omega),ai,af,h1,h2]
  ·obtain⟨h1,h2⟩:=hk;simp only[dK];have hin:band (ile 0 (len l)) (ile (len l) (len l))=true:=Ae (dW (by simp only[len];omega)) (dW (by omega));rw[au hin,show aV l (itn (len l))=l by rw[show len l=((l.length:Nat):Int)from rfl,afE,awq],show bZ l (itn (len l))=[] by rw[show len l=((l.length:Nat):Int)from rfl,afr,axs],X8 (by omega),ai,au hin,X8 (by simp),ai,af,<-h1,h2]
theorem aec {l:List jh} {s:Int} (hl:l.length<99999):Wq (yw l s) fun k=>∃i:Nat,k=(i:Int)/\i<=l.length/\l.take i=goM l s/\l.drop i=RG l s:=by
 unfold yw;refine Wq.bind (Q:=fun k:Int=>∃i:Nat,k=(i:Int)/\i<=l.length/\l.take i=goM l s/\l.drop i=RG l s)
  (Qs (step:=fun v:Int=>uz l s v) (fun v=>l.length - v.toNat) (fun v=>∃i:Nat,v=(i:Int)/\i<=l.length/\∀(j:Nat) (h:j<l.length),j<i->l[j].B<=s) _ ?_ LF _ (Zb (by omega)) ⟨0,rfl,awm _,fun j h hj=>by omega⟩) (fun k hk=>(af _).2 hk)
 rintro _ ⟨i,rfl,hi,hj⟩;simp only[uz];by_cases hlt:i<l.length
 ·rw[au (by rw[aX];exact .inl (inb _ i hlt)),dm,aN _ i hlt,dF];refine⟨fun h=>(af _).2 ⟨⟨i+1,aZ (by omega),by omega,fun j hjl hji=> ?_⟩,?_⟩,fun h=>(af _).2 ?_⟩
  ·simp only[aH,aQ,aX,bn,aG,aF,bg,bC,aY,bI,aI,aP,bG,bJ]at h;by_cases e:j=i
   ·subst e;exact h.2
   ·exact hj j hjl (by omega)
  ·rw[aZ (by omega)];omega
  ·have h:s<l[i].B:=by
    simp only[aH,aQ,aX,bn,aG,aF,bg,bC,aY,bI,aI,aP,bG,bJ]at h;rcases h with h | h
    ·simp at h;omega
    ·exact h
   have:=Ui hj (fun _=>h) (by omega);exact⟨i,rfl,hi,this.1,this.2⟩
 ·have e:i=l.length:=by omega
  subst e;have hb:ilt ((l.length:Nat):Int) (len l)=false:=En _;rw[hb,au (by simp only[aW];cases band (ile 0 _) false<;>rfl),show ∀x,band false x=false from fun x=>rfl,aT,af]
  have:=Ui (i:=l.length) hj (fun h=>by omega) (by omega);exact⟨_,rfl,by omega,this.1,this.2⟩
theorem ahE:∀ {l:List jh} {a s z:Int},Ht l a z->a<=s->Ht (RG l s) s z
 |[],a,s,z,h,_=>trivial
 |m::r,a,s,z,h,ha=>by
  unfold RG
  by_cases hm:m.B<=s
  ·rw[List.dropWhile_cons_of_pos (by simpa using hm)]
   exact ahE h.2.2.2 hm
  ·rw[List.dropWhile_cons_of_neg (by simpa using hm)]
   exact⟨h.1,by omega,h.2.2.1,h.2.2.2⟩
theorem auV (l:List jh) (s:Int):(goM l s).length+(RG l s).length=l.length:=by
 unfold goM RG;rw[<-awn,List.takeWhile_append_dropWhile]
def aeC (g:bD):bD:=⟨g.disk,g.wal,g.state,[],⟨[],false⟩,g.K,false⟩
noncomputable def ahZ (g:bD):bD:=⟨(fA g.wal g.disk).2.1,(fA g.wal g.disk).1,g.state,g.Y,g.feed,g.K,g.up⟩
noncomputable def abh (g:bD):bD×Int:=(if (fA g.wal g.disk).2.1.Q=true then aeC (ahZ g)else ahZ g,(fA g.wal g.disk).2.2)
theorem aho {g:bD} (hw:xW g.wal) (hd:Ez g.disk):DY g=some (abh g):=by
 unfold DY abh;rw[ajd hw hd,ai,tH];split<;>rfl
noncomputable def bH (g:bD):bD×List jh×Int:=
 if kN g≠0 then (g,[],kN g)else if (fA g.wal g.disk).2.1.Q=true then (aeC (ahZ g),[],(fA g.wal g.disk).2.2)
 else (⟨(fA g.wal g.disk).2.1,(fA g.wal g.disk).1,g.state,RG g.Y (fA g.wal g.disk).1.J,g.feed,g.K,g.up⟩,goM g.Y (fA g.wal g.disk).1.J,(fA g.wal g.disk).2.2)
theorem Um {g:bD} (hg:SG g):Bf g=some (bH g):=by
 unfold Bf bH;rw[Ns hg,ai,cO,dn];by_cases h0:kN g=0
 case neg=>rw[awg h0,awh h0]
 rw[awh h0,awg (fun k=>k h0),aho hg.wal hg.bnd,ai];have hu:=(wP.1 h0).2;unfold abh;by_cases hd:(fA g.wal g.disk).2.1.Q=true
 ·rw[awh hd,awh hd];rfl
 ·rw[awg hd,awg hd];simp only[ahZ];rw[hu,aK,aT,aez (by have:=hg.ol;omega)];rfl
theorem Uy {g:bD} (hg:SG g):oK g=some ⟨(bH g).1,(bH g).2.1,(bH g).2.2⟩:=by
 refine Wq.eq ?_;unfold oK bH;rw[ML hg,ai,cO,dn];by_cases h0:kN g=0
 case neg=>rw[awg h0,awh h0,af]
 rw[awh h0,awg (fun k=>k h0),abC hg.wal hg.bnd,ai,tH];by_cases hd:(fA g.wal g.disk).2.1.Q=true
 ·rw[awh hd,awh hd];exact(af _).2 rfl
 ·rw[awg hd,awg hd];refine(aec (by have:=hg.ol;omega)).bind ?_;rintro _ ⟨i,rfl,hi,h1,h2⟩;have hin:band (ile 0 (i:Int)) (ile (i:Int) (len g.Y))=true:=Ae (dW (by omega)) (dW (by simp only[len];omega));rw[au hin,au hin,afE,afr,h1,h2,af]
theorem ZL {g:bD} (hd:fD g.disk) (hR:iH g.state) (hw:Aa g.wal) (hl:g.state.B+1=g.wal.next) (hgen:0<=g.K/\g.K<=1000000000) (hdn:g.disk.Q=true):BI (aeC g):=by
 have hq:=hR.fine.A;exact⟨hd,hR,hw,hl,trivial,⟨by show 1<=g.state.A+1;omega,by show g.state.A+1<=_;omega,by simp [aeC],azv⟩,fun n hn=>(by cases hn),hgen,.inr ⟨rfl,hdn,rfl,rfl,rfl⟩⟩
structure avX (g:bD) (r:bD×List jh×Int):Prop where
 sg:SG r.1
 right:BI r.1
 state:r.1.state=g.state
 K:r.1.K=g.K
 next:r.1.wal.next=g.wal.next
 J:g.wal.J<=r.1.wal.J
 how:(r.1.up=true/\(r.2.2=0\/r.2.2=6)/\r.1.feed=g.feed/\r.2.1=goM g.Y r.1.wal.J/\r.1.Y=RG g.Y r.1.wal.J/\(r.2.2=0->r.1.wal.M=[]))\/(r.1.up=false/\r.2.2=9/\r.2.1=[])
theorem abQ {g:bD} (h:kN g≠0):bH g=(g,[],kN g):=by unfold bH;rw[awh h]
theorem Dx {g:bD} (hg:SG g) (h0:kN g=0):avX g (bH g):=by
 obtain⟨hG,hu⟩:=wP.1 h0;obtain⟨hdn,hfit⟩:=abK hG hu;obtain⟨h1,h2,h3,h4,h5,h6,h7,h8,h9⟩:=hG;have q:=acW hfit hdn;have hL:=h2.fine.B;unfold bH;rw[awg (fun k=>k h0)];have hfu:=(q.keep.bnd hg.bnd.fu).fu;have hby:=q.z7 hg.z7;have hnx:=q.next;have hsn:=q.wal.2.2.1;by_cases hd:(fA g.wal g.disk).2.1.Q=true
 ·rw[awh hd];have e9:(fA g.wal g.disk).2.2=9:=by
   rcases q.code with ⟨-, c, -⟩ | ⟨-, c, -⟩ | ⟨c, -⟩
   ·rw[hd]at c;cases c
   ·rw[hd]at c;cases c
   ·exact c
  have hR:BI (aeC (ahZ g)):=ZL (g:=ahZ g) q.keep.right h2 q.wal (h4.trans hnx.symm) h8 hd;exact⟨SG.of hR hg.st hg.sh hfu hby (fun n hn=>(by cases hn)),hR,rfl,rfl,hnx,q.J,.inr ⟨rfl,e9,rfl⟩⟩
 ·rw[awg hd];have hc:((fA g.wal g.disk).2.2=0\/(fA g.wal g.disk).2.2=6)/\rC (fA g.wal g.disk).1 (fA g.wal g.disk).2.1/\((fA g.wal g.disk).2.2=0->(fA g.wal g.disk).1.M=[]):=by
   rcases q.code with ⟨c1,-, c2,c3⟩ | ⟨c1,-, c2⟩ | ⟨-, c⟩
   ·exact⟨.inl c1,c2,fun _=>c3⟩
   ·exact⟨.inr c1,c2,fun c=>(by omega)⟩
   ·exact absurd c hd
  have hR:BI ⟨(fA g.wal g.disk).2.1,(fA g.wal g.disk).1,g.state,RG g.Y (fA g.wal g.disk).1.J,g.feed,g.K,g.up⟩:=
   ⟨q.keep.right,h2,q.wal,h4.trans hnx.symm,ahE h5 q.J,h6,h7,h8,.inl ⟨hu,by simpa using hd,hc.2.1⟩⟩
  exact⟨SG.of hR hg.st hg.sh hfu hby hg.ok,hR,rfl,rfl,hnx,q.J,.inl ⟨hu,hc.1,rfl,rfl,rfl,hc.2.2⟩⟩
noncomputable def Vk (g:bD) (r:iJ):bD×List jh×Int:=
 if kN g≠0 then (g,[],kN g)else if r.L≠4/\r.L≠5 then (g,[],1)else if (doS g.state r).2≠0 then (g,[],(doS g.state r).2)else
 if (bH g).2.2≠0 then bH g else
 if (cu (bH g).1 r).2≠0 then ((bH g).1,(bH g).2.1,(cu (bH g).1 r).2)else
 if (fA (cu (bH g).1 r).1.wal (cu (bH g).1 r).1.disk).2.2=0 then (ahZ (cu (bH g).1 r).1,(bH g).2.1,0)else
 if (fA (cu (bH g).1 r).1.wal (cu (bH g).1 r).1.disk).2.1.Q=true then
  (aeC ⟨(fA (cu (bH g).1 r).1.wal (cu (bH g).1 r).1.disk).2.1,(bH g).1.wal,(bH g).1.state,(bH g).1.Y,(bH g).1.feed,(bH g).1.K,(bH g).1.up⟩,(bH g).2.1,(fA (cu (bH g).1 r).1.wal (cu (bH g).1 r).1.disk).2.2)
 else ((bH g).1,(bH g).2.1,(fA (cu (bH g).1 r).1.wal (cu (bH g).1 r).1.disk).2.2)
theorem avW {s:aB} {r:iJ} (hr:iD s) (hrr:mG r) (hsh:sG s):TM s r=some (doS s r).2:=by
 unfold TM;rw[ahq hr hrr hsh.1 hsh.2.2.1 hsh.2.2.2];rfl
theorem Z7 {g:bD} {r:iJ} (hg:SG g) (hr:mG r) (h0:kN g=0) (hf:(bH g).2.2=0) (hn:(cu (bH g).1 r).2=0):
 avP (bH g).1 (cu (bH g).1 r).1/\rC (cu (bH g).1 r).1.wal (cu (bH g).1 r).1.disk/\(cu (bH g).1 r).1.disk.Q=false/\(cu (bH g).1 r).1.up=true:=by
 have q:=Dx hg h0
 rcases q.how with ⟨hu,-, -, -⟩ | ⟨-, h, -⟩
 case inr=>rw[hf]at h;cases h
 obtain⟨hdn,hfit⟩:=abK q.right hu
 have p:=(HY q.sg.st q.sg.sh hr hn).1
 exact⟨p,by rw[p.disk];exact p.put.fits hfit,by rw[p.disk];exact hdn,p.up.trans hu⟩
theorem alp {g:bD} {r:iJ} (hg:SG g) (hr:mG r):KU g r=some (Vk g r):=by
 unfold KU Vk;rw[Ns hg,ai,cO,dn];by_cases h0:kN g=0
 case neg=>rw[awg h0,awh h0]
 rw[awh h0,awg (fun k=>k h0)];by_cases hk:r.L≠4/\r.L≠5
 ·rw[au (by simp only[aH,aQ,aX,bn,aG,aF,bg,bC,aY,bI,aI,aP,bG,bJ];exact hk),awh hk]
 rw[bK (by simp only[aH,aQ,aX,bn,aG,aF,bg,bC,aY,bI,aI,aP,bG,bJ];omega),awg hk,avW hg.st hr hg.sh,ai,cO,dn];by_cases h1:(doS g.state r).2=0
 case neg=>rw[awg h1,awh h1]
 rw[awh h1,awg (fun k=>k h1),Um hg,ai,cO,dn];by_cases hf:(bH g).2.2=0
 case neg=>rw[awg hf,awh hf]
 have q:=Dx hg h0;rw[awh hf,awg (fun k=>k hf),TQ q.sg.st q.sg.sh q.sg.wal hr,ai,cO,dn];by_cases hn:(cu (bH g).1 r).2=0
 case neg=>rw[awg hn,awh hn]
 rw[awh hn,awg (fun k=>k hn)];obtain⟨p,hfit,hdn,hup⟩:=Z7 hg hr h0 hf hn;rw[aho (adK hfit.1) (hfit.2.1.bnd (by rw[p.disk];exact q.sg.bnd.fu)),ai,dn];have cq:=acW hfit hdn;unfold abh;by_cases hc:(fA (cu (bH g).1 r).1.wal (cu (bH g).1 r).1.disk).2.2=0
 ·rw[awh hc,awh hc];have:¬(fA (cu (bH g).1 r).1.wal (cu (bH g).1 r).1.disk).2.1.Q=true:=by
   rcases cq.code with ⟨-, c, -⟩ | ⟨c, -⟩ | ⟨c, -⟩
   ·rw[c];simp
   ·omega
   ·omega
  rw[awg this]
 ·rw[awg hc,awg hc];by_cases hd:(fA (cu (bH g).1 r).1.wal (cu (bH g).1 r).1.disk).2.1.Q=true
  ·rw[awh hd,awh hd];rfl
  ·rw[awg hd,awg hd];simp only[ahZ];rw[hup,aU]
theorem aky {g:bD} {r:iJ} (hg:SG g) (hr:mG r):zI g r=some ⟨(Vk g r).1,(Vk g r).2.1,(Vk g r).2.2⟩:=by
 unfold zI Vk;rw[ML hg,ai,cO,dn];by_cases h0:kN g=0
 case neg=>rw[awg h0,awh h0]
 rw[awh h0,awg (fun k=>k h0)];by_cases hk:r.L≠4/\r.L≠5
 ·rw[au (by simp only[aH,aQ,aX,bn,aG,aF,bg,bC,aY,bI,aI,aP,bG,bJ];exact hk),awh hk]
 rw[bK (by simp only[aH,aQ,aX,bn,aG,aF,bg,bC,aY,bI,aI,aP,bG,bJ];omega),awg hk,avo hg.st hr hg.sh,ai,cO,dn];by_cases h1:(doS g.state r).2=0
 case neg=>rw[awg h1,awh h1]
 rw[awh h1,awg (fun k=>k h1),Uy hg,ai,cO,dn];by_cases hf:(bH g).2.2=0
 case neg=>rw[awg hf,awh hf]
 have q:=Dx hg h0;rw[awh hf,awg (fun k=>k hf),VY q.sg.st q.sg.sh q.sg.wal hr,ai,cO,dn];by_cases hn:(cu (bH g).1 r).2=0
 case neg=>rw[awg hn,awh hn]
 rw[awh hn,awg (fun k=>k hn)];obtain⟨p,hfit,hdn,hup⟩:=Z7 hg hr h0 hf hn;rw[abC (adK hfit.1) (hfit.2.1.bnd (by rw[p.disk];exact q.sg.bnd.fu)),ai,dn];by_cases hc:(fA (cu (bH g).1 r).1.wal (cu (bH g).1 r).1.disk).2.2=0
 ·rw[awh hc,awh hc];rfl
 ·rw[awg hc,awg hc,tH];by_cases hd:(fA (cu (bH g).1 r).1.wal (cu (bH g).1 r).1.disk).2.1.Q=true
  ·rw[awh hd,awh hd];rfl
  ·rw[awg hd,awg hd]
structure ac2 (g h:bD) (e:Int):Prop where
 sg:SG h
 right:BI g->BI h
 Q:g.up=true->(h.up=false↔e=9)
 low:g.up=false->h=g
theorem ZC {g:bD} (hg:SG g):ac2 g (bH g).1 (bH g).2.2:=by
 by_cases h0:kN g=0
 case neg=>
  rw[abQ h0];exact⟨hg,id,fun hu=>⟨fun h=>(by rw[hu]at h;cases h),fun h=>absurd h (UQ hu)⟩,fun _=>rfl⟩
 have q:=Dx hg h0;refine⟨q.sg,fun _=>q.right,fun hu=> ?_,fun hu=> ?_⟩
 ·rcases q.how with ⟨h1,h2, -⟩ | ⟨h1,h2, -⟩
  ·rw[h1];constructor
   ·intro h;cases h
   ·intro h;omega
  ·exact⟨fun _=>h2,fun _=>h1⟩
 ·have:=(wP.1 h0).2;rw[hu]at this;cases this
theorem RJ {g:bD} (hg:SG g) {e:Int} (he:g.up=true->e≠9):ac2 g g e:=
 ⟨hg,id,fun hu=>⟨fun h=>(by rw[hu]at h;cases h),fun h=>absurd h (he hu)⟩,fun _=>rfl⟩
theorem aoU {g:bD} {r:iJ} (hg:SG g) (hr:mG r):ac2 g (Vk g r).1 (Vk g r).2.2:=by
 unfold Vk;by_cases h0:kN g=0
 case neg=>rw[awh h0];exact RJ hg fun hu=>UQ hu
 rw[awg (fun k=>k h0)];by_cases hk:r.L≠4/\r.L≠5
 ·rw[awh hk];exact RJ hg fun _=>by simp
 rw[awg hk];by_cases h1:(doS g.state r).2=0
 case neg=>rw[awh h1];exact RJ hg fun _=>amU _ _
 rw[awg (fun k=>k h1)];by_cases hf:(bH g).2.2=0
 case neg=>rw[awh hf];exact ZC hg
 rw[awg (fun k=>k hf)];have q:=Dx hg h0;have hu:=(wP.1 h0).2;have hfu:(bH g).1.up=true:=by
  rcases q.how with ⟨h, -⟩ | ⟨-, h, -⟩
  ·exact h
  ·rw[hf]at h;cases h
 have same:∀e:Int,e≠9->ac2 g (bH g).1 e:=fun e he=>⟨q.sg,fun _=>q.right,fun _=>⟨fun h=>(by rw[hfu]at h;cases h),fun h=>absurd h he⟩,fun h=>by rw[hu]at h;cases h⟩;by_cases hn:(cu (bH g).1 r).2=0
 case neg=>rw[awh hn];exact same _ (ZG _ _)
 rw[awg (fun k=>k hn)];obtain⟨p,hfit,hdn,hup⟩:=Z7 hg hr h0 hf hn;have cq:=acW hfit hdn;obtain⟨r1,r2,r3,r4,r5,r6,r7,r8,r9⟩:=q.right;have hdk:Keep (bH g).1.disk (fA (cu (bH g).1 r).1.wal (cu (bH g).1 r).1.disk).2.1:=⟨cq.keep.right,by rw[<-p.disk];exact cq.keep.fz,by rw[<-p.disk];exact cq.keep.qZ⟩;have hbk:iW (fA (cu (bH g).1 r).1.wal (cu (bH g).1 r).1.disk).2.1:=cq.z7 (by rw[p.disk];exact q.sg.z7);have hfk:=(hdk.bnd q.sg.bnd.fu).fu;by_cases hc:(fA (cu (bH g).1 r).1.wal (cu (bH g).1 r).1.disk).2.2=0
 ·rw[awh hc];have hcd:(fA (cu (bH g).1 r).1.wal (cu (bH g).1 r).1.disk).2.1.Q=false/\rC (fA (cu (bH g).1 r).1.wal (cu (bH g).1 r).1.disk).1 (fA (cu (bH g).1 r).1.wal (cu (bH g).1 r).1.disk).2.1/\(fA (cu (bH g).1 r).1.wal (cu (bH g).1 r).1.disk).1.M=[]:=by
   rcases cq.code with ⟨-, c,c2,c3⟩ | ⟨c, -⟩ | ⟨c, -⟩
   ·exact⟨c,c2,c3⟩
   ·omega
   ·omega
  have hout:(bH g).1.Y=[]:=by
   rcases q.how with ⟨-, -, -, -, ho,hw⟩ | ⟨-, h, -⟩
   ·have hw:=hw hf;have h5:=r3.2.2.2.2.1;rw[hw]at h5;simp only[axm]at h5;have:=r5;rw[ho]at this ⊢;cases hs:RG g.Y (bH g).1.wal.J with
    |nil=>rfl
    |cons m t=>
     rw[hs]at this;have a1:=this.2.1;have a2:=this.2.2.1;exfalso;omega
   ·rw[hf]at h;cases h
  have hseq:(cu (bH g).1 r).1.state.A=(bH g).1.state.A:=by
   obtain⟨-, d1,d2⟩:=HY q.sg.st q.sg.sh hr hn;rw[d2,((abj _ r).good d1).2.2.1,awg (by omega)]
  have hR:BI (ahZ (cu (bH g).1 r).1):=by
   refine⟨cq.keep.right,p.R,cq.wal,?_,?_,?_,?_,?_,.inl ⟨hup,hcd.1,hcd.2.1⟩⟩
   ·show(cu (bH g).1 r).1.state.B+1=(fA (cu (bH g).1 r).1.wal (cu (bH g).1 r).1.disk).1.next;rw[cq.next,p.put.next,p.B];omega
   ·show Ht (cu (bH g).1 r).1.Y _ _;rw[p.out,hout];trivial
   ·show WC (cu (bH g).1 r).1.feed ((cu (bH g).1 r).1.state.A+1);rw[p.feed,hseq];exact r6
   ·show ∀n∈(cu (bH g).1 r).1.feed.F,_;rw[p.feed];exact r7
   ·show 0<=(cu (bH g).1 r).1.K/\(cu (bH g).1 r).1.K<=1000000000;rw[p.K];exact r8
  refine⟨SG.of hR p.st p.sh hfk hbk ?_,fun _=>hR,fun _=>⟨fun h=> ?_,fun h=>(by cases h)⟩,fun h=>by rw[hu]at h;cases h⟩
  ·show ∀n∈(cu (bH g).1 r).1.feed.F,_;rw[p.feed];exact q.sg.ok
  ·have:(cu (bH g).1 r).1.up=false:=h;rw[hup]at this;cases this
 rw[awg hc];by_cases hd:(fA (cu (bH g).1 r).1.wal (cu (bH g).1 r).1.disk).2.1.Q=true
 ·rw[awh hd];have e9:(fA (cu (bH g).1 r).1.wal (cu (bH g).1 r).1.disk).2.2=9:=by
   rcases cq.code with ⟨-, c, -⟩ | ⟨-, c, -⟩ | ⟨c, -⟩
   ·rw[hd]at c;cases c
   ·rw[hd]at c;cases c
   ·exact c
  have hR:=ZL (g:=⟨(fA (cu (bH g).1 r).1.wal (cu (bH g).1 r).1.disk).2.1,(bH g).1.wal,(bH g).1.state,(bH g).1.Y,(bH g).1.feed,(bH g).1.K,(bH g).1.up⟩) hdk.right r2 r3 r4 r8 hd;exact⟨SG.of hR q.sg.st q.sg.sh hfk hbk (fun n hn=>(by cases hn)),fun _=>hR,fun _=>⟨fun _=>e9,fun _=>rfl⟩,fun h=>by rw[hu]at h;cases h⟩
 ·rw[awg hd];refine same _ fun h=>hd ?_;rcases cq.code with ⟨c, -⟩ | ⟨c, -⟩ | ⟨-, c⟩
  ·exact absurd (c.symm.trans h) (by decide)
  ·exact absurd (c.symm.trans h) (by decide)
  ·exact c
theorem aml {d:ak} {s:aB} (h:fD d):Keep d (mY d s).1:=by
 unfold mY;split
 ·exact Keep.refl h
 split
 ·exact Keep.refl h
 split
 ·exact Keep.refl h
 ·have:=aeA (gen:=(dS d).1.K+1) (yV d ((dS d).1.K+1) s.B (encZ s)).1.b (alR (gen:=(dS d).1.K+1) (lsn:=s.B) (b:=encZ s) h);unfold RN;split<;>exact this
theorem ar8 {n:Nm} (h:ji wu n≠0):n≠gy/\n≠n0/\n≠n1/\ji mJ n=0:=by
 obtain⟨h1,h2⟩:=acT h;have h3:=acr h1;rw[<-h2]at h3;refine⟨fun e=> ?_,fun e=> ?_,fun e=> ?_,?_⟩
 ·rw[e]at h3;simp [gy]at h3
 ·rw[e]at h3;simp [n0]at h3
 ·rw[e]at h3;simp [n1]at h3
 ·by_cases hz:ji mJ n=0
  ·exact hz
  ·obtain⟨k1,k2⟩:=akz hz;have:=Yo k1;rw[<-k2]at this;omega
theorem aoI {D x:ak} {gen:Int} {b w:List Int} (hG:jJ gen) (h:Kq D x\/ab1 D gen b w x\/UK D gen b w x) {n:Nm} (hn:ji wu n≠0):dN x.b n=dN D.b n:=by
 obtain⟨h1,h2,h3,h4⟩:=ar8 hn;have hs:n≠nmS gen:=by unfold nmS;split<;>assumption
 have hg:n≠jC gen:=fun e=>by rw[e,acw hG]at h4;unfold jJ at hG;omega
 rcases h with h | h | h
 ·exact h.oth n h1
 ·exact h.oth n h1 hg hs
 ·exact h.oth n h1 hs h4
structure ajp (w:dR) (d:ak) (r:ak×Int):Prop where
 keep:Keep d r.1
 z7:iW d->iW r.1
 Q:Dh r
 fits:r.2≠9->rC w r.1
theorem apv {w:dR} {d:ak} {s:aB} (hf:rC w d) (hu:d.Q=false) (hs:iH s):ajp w d ((mY d s).1,(mY d s).2.2)/\((mY d s).2.2=0->0<=(mY d s).2.1/\(mY d s).2.1<=1000000000):=by
 have hU:UpD d:=⟨hf.2.1,hu⟩;have hk:=aml (s:=s) hf.2.1;have hg0:=Nz d;refine⟨⟨hk,apu,aop hu,fun _=> ?_⟩,fun h0=> ?_⟩
 ·by_cases hg:(dS d).1.K<1000000000
  ·have hG:jJ ((dS d).1.K+1):=by unfold jJ;omega
   have q:=afl hU hs hg hs.fine.B;have hst:Kq d (mY d s).1\/ab1 d ((dS d).1.K+1) (encZ s) (yh ⟨(dS d).1.K+1,s.B⟩) (mY d s).1\/UK d ((dS d).1.K+1) (encZ s) (yh ⟨(dS d).1.K+1,s.B⟩) (mY d s).1:=by
    rcases q.how with ⟨-, -, -, h, -⟩ | ⟨-, -, h⟩
    ·exact .inr (.inr h)
    ·exact h
   exact apa hf hk.right fun n hn=>aoI hG hst hn
  ·have:(mY d s).1=d:=by
    unfold mY;split
    ·rfl
    split
    ·rfl
    rw[awh (by omega)]
   show rC w (mY d s).1;rw[this];exact hf
 ·by_cases hg:(dS d).1.K<1000000000
  ·have q:=afl hU hs hg hs.fine.B;rcases q.how with ⟨-, h, -⟩ | ⟨h,-, -⟩
   ·rw[h];omega
   ·rw[h];omega
  ·exfalso;unfold mY at h0;split at h0
   ·cases h0
   split at h0
   ·cases h0
   rw[awh (by omega)]at h0;cases h0
theorem acY {w:dR} {lsn:Int}:∀(l:List Int) (d:ak),(∀n∈l,jJ n)->rC w d->d.Q=false->ajp w d (CP w lsn l d)
 |[],d,hg,hf,hu=>by rw[CP];exact⟨Keep.refl hf.2.1,id,kG hu (by simp),fun _=>hf⟩
 |n::r,d,hg,hf,hu=>by
  have hgr:∀m∈r,jJ m:=fun m hm=>hg m (by simp [hm])
  have hgn:=hg n (by simp)
  have hn:=Eb hgn
  rw[CP]
  split
  ·exact acY r d hgr hf hu
  rename_i hseg
  split
  ·exact⟨Keep.refl hf.2.1,id,kG hu (by simp),fun _=>hf⟩
  have hk:=tN (n:=kz n) hf.2.1
  cases hgt:dN d.b (kz n)with
  |none=>
   have e:fK d (kz n)=(d,7):=by
    unfold fK
    rw[awg (fun g=>g (jc.2 ⟨hf.2.1,hu,fun m hm=>by rw[awC.1 hm];exact hn⟩)),hgt]
   rw[e,awh (by simp)]
   exact⟨Keep.refl hf.2.1,id,kG hu (by simp),fun _=>hf⟩
  |some f=>
   obtain⟨c1,c2,c3,-, -⟩:=UO ⟨hf.2.1,hu⟩ hn hgt
   rcases c1.cases with c | ⟨c,cd, -⟩
   ·rw[awg (fun g=>g c)]
    have hf2:rC w (fK d (kz n)).1:=by
     refine aib hf.1 hk.right (fun m k hm=> ?_) ?_
     ·rw[c2 c m]at hm
      split at hm
      ·cases hm
      ·exact aa3 hf hm
     ·rcases hf.2.2.2 with hz | ⟨k,k1,k2⟩
      ·exact .inl hz
      ·by_cases hz:w.seg=0
       ·exact .inl hz
       ·refine .inr ⟨k,?_,k2⟩
        rw[c2 c _,awg (fun e=>hseg (apo (hf.1.seg hz).1 hgn e).symm)];exact k1
    have ih:=acY (w:=w) (lsn:=lsn) r (fK d (kz n)).1 hgr hf2 (c1.up c).up
    exact⟨hk.trans ih.keep,fun h=>ih.z7 (Hg h),ih.Q,ih.fits⟩
   ·rw[awh (by rw[c];simp)]
    exact⟨hk,fun h=>Hg h,Wv hu,fun h=>absurd c h⟩
theorem arE {w:dR} {d:ak} {lsn:Int} (hf:rC w d) (hu:d.Q=false):ajp w d (Y3 w d lsn):=by
 unfold Y3;rw[awh hf];exact acY _ d abt hf hu
noncomputable def Tc (g:bD):ak×Int:=if (mY g.disk g.state).2.2=0 then Y3 g.wal (mY g.disk g.state).1 g.state.B else ((mY g.disk g.state).1,(mY g.disk g.state).2.2)
noncomputable def abG (g:bD):bD:=⟨(Tc g).1,g.wal,g.state,g.Y,g.feed,if (Tc g).2=0 then (mY g.disk g.state).2.1 else g.K,g.up⟩
noncomputable def Vd (g:bD):bD×List jh×Int:=
 if (bH g).2.2≠0 then bH g else
 (if (Tc (bH g).1).1.Q=true then aeC (abG (bH g).1)else abG (bH g).1,(bH g).2.1,(Tc (bH g).1).2)
structure av6 (g:bD):Prop where
 kept:ajp g.wal g.disk (Tc g)
 K:(Tc g).2=0->0<=(mY g.disk g.state).2.1/\(mY g.disk g.state).2.1<=1000000000
 first:ajp g.wal g.disk ((mY g.disk g.state).1,(mY g.disk g.state).2.2)
theorem aia {g:bD} (hG:BI g) (hu:g.up=true):av6 g:=by
 obtain⟨hdn,hfit⟩:=abK hG hu;have q:=apv hfit hdn hG.2.1;refine⟨?_,fun h=> ?_,q.1⟩
 ·unfold Tc;by_cases h0:(mY g.disk g.state).2.2=0
  ·rw[awh h0];have hu2:=q.1.Q.up (by show(mY g.disk g.state).2.2≠9;omega);have p:=arE (lsn:=g.state.B) (q.1.fits (by show(mY g.disk g.state).2.2≠9;omega)) hu2;exact⟨q.1.keep.trans p.keep,fun h=>p.z7 (q.1.z7 h),p.Q,p.fits⟩
  ·rw[awg h0];exact q.1
 ·unfold Tc at h;by_cases h0:(mY g.disk g.state).2.2=0
  ·exact q.2 h0
  ·rw[awg h0]at h;exact absurd h h0
theorem afv {g:bD} (hg:SG g) (hf:(bH g).2.2=0):kN g=0/\avX g (bH g)/\(bH g).1.up=true:=by
 by_cases h0:kN g=0
 ·have q:=Dx hg h0;refine⟨h0,q,?_⟩;rcases q.how with ⟨h, -⟩ | ⟨-, h, -⟩
  ·exact h
  ·rw[hf]at h;cases h
 ·rw[abQ h0]at hf;exact absurd hf h0
theorem akE {g:bD} (hg:SG g):KQ g=some (Vd g):=by
 unfold KQ Vd;rw[Um hg,ai,cO,dn];by_cases hf:(bH g).2.2=0
 case neg=>rw[awg hf,awh hf]
 obtain⟨h0,q,hu⟩:=afv hg hf;have sq:=aia q.right hu;rw[awh hf,awg (fun k=>k hf),ah8 q.sg.bnd q.sg.z7 q.sg.st q.sg.sh,ai,dn,dn];unfold abG;have sk:=sq.kept;unfold Tc at sk ⊢;by_cases hs:(mY (bH g).1.disk (bH g).1.state).2.2=0
 ·rw[awh hs]at sk;rw[awh hs,awh hs,aeJ q.sg.wal (sq.first.keep.bnd q.sg.bnd.fu),ai,dn];by_cases hd:(Y3 (bH g).1.wal (mY (bH g).1.disk (bH g).1.state).1 (bH g).1.state.B).2=0
  ·have:=sk.Q.up (by rw[hd];simp);rw[awh hd,awh hd,awg (by rw[this];simp)]
  ·rw[awg hd,awg hd,tH];split
   ·rfl
   ·rfl
 ·rw[awg hs,awg hs,awg hs,tH];simp only;rw[awg hs];split
  ·rfl
  ·rfl
theorem akR {g:bD} (hg:SG g):zJ g=some ⟨(Vd g).1,(Vd g).2.1,(Vd g).2.2⟩:=by
 unfold zJ Vd;rw[Uy hg,ai,cO,dn];by_cases hf:(bH g).2.2=0
 case neg=>rw[awg hf,awh hf]
 obtain⟨h0,q,hu⟩:=afv hg hf;have sq:=aia q.right hu;rw[awh hf,awg (fun k=>k hf),aiu q.sg.bnd q.sg.z7 q.sg.st q.sg.sh,ai,dn,dn];unfold abG Tc;by_cases hs:(mY (bH g).1.disk (bH g).1.state).2.2=0
 ·rw[awh hs,awh hs,amR q.sg.wal (sq.first.keep.bnd q.sg.bnd.fu),ai,dn];by_cases hd:(Y3 (bH g).1.wal (mY (bH g).1.disk (bH g).1.state).1 (bH g).1.state.B).2=0
  ·rw[awh hd,awh hd,tH];split
   ·rfl
   ·rfl
  ·rw[awg hd,awg hd,tH];split
   ·rfl
   ·rfl
 ·rw[awg hs,awg hs,awg hs,tH];simp only;rw[awg hs];split
  ·rfl
  ·rfl
theorem aoA {g:bD} (hg:SG g):ac2 g (Vd g).1 (Vd g).2.2:=by
 unfold Vd;by_cases hf:(bH g).2.2=0
 case neg=>rw[awh hf];exact ZC hg
 obtain⟨h0,q,hu⟩:=afv hg hf;have sq:=aia q.right hu;rw[awg (fun k=>k hf)];have hgu:=(wP.1 h0).2;obtain⟨r1,r2,r3,r4,r5,r6,r7,r8,r9⟩:=q.right;have hfk:=(sq.kept.keep.bnd q.sg.bnd.fu).fu;have hbk:=sq.kept.z7 q.sg.z7;have hgen:0<=(abG (bH g).1).K/\(abG (bH g).1).K<=1000000000:=by
  unfold abG;simp only;split
  ·rename_i h;exact sq.K h
  ·exact r8
 have hdq:=sq.kept.Q;unfold Dh at hdq;by_cases hd:(Tc (bH g).1).1.Q=true
 ·rw[awh hd];have hR:=ZL (g:=abG (bH g).1) sq.kept.keep.right r2 r3 r4 hgen hd;exact⟨SG.of hR q.sg.st q.sg.sh hfk hbk (fun n hn=>(by cases hn)),fun _=>hR,fun _=>⟨fun _=>hdq.1 hd,fun _=>rfl⟩,fun h=>by rw[hgu]at h;cases h⟩
 ·rw[awg hd];have h9:(Tc (bH g).1).2≠9:=fun h=>hd (hdq.2 h);have hR:BI (abG (bH g).1):=⟨sq.kept.keep.right,r2,r3,r4,r5,r6,r7,hgen,.inl ⟨hu,(by simpa using hd:(Tc (bH g).1).1.Q=false),sq.kept.fits h9⟩⟩;refine⟨SG.of hR q.sg.st q.sg.sh hfk hbk q.sg.ok,fun _=>hR,fun _=>⟨fun h=> ?_,fun h=>absurd h h9⟩,fun h=>by rw[hgu]at h;cases h⟩;have:(bH g).1.up=false:=h;rw[hu]at this;cases this
noncomputable def fQ:bD->List dV->bD×Int
 |g,[]=>(g,0)
 |g,n::r=>if (cu g (nZ n)).2=0 then fQ (cu g (nZ n)).1 r else (g,(cu g (nZ n)).2)
open Classical in
noncomputable def XG (g:bD) (n:dV):bD×Int:=
 if kN g≠0 then (g,kN g)else if ¬qf (nZ n)then (g,1)else
 if (rD g.feed n (g.state.A+1)).2.2≠0 then (g,(rD g.feed n (g.state.A+1)).2.2)else
 if 1000000000<g.state.B+((rD g.feed n (g.state.A+1)).2.1.length:Int)then (g,3)else
 if 32<(rD g.feed n (g.state.A+1)).2.1.length+g.wal.M.length then (g,6)else
 if (fQ g (rD g.feed n (g.state.A+1)).2.1).2≠0 then (g,(fQ g (rD g.feed n (g.state.A+1)).2.1).2)else
 (⟨(fQ g (rD g.feed n (g.state.A+1)).2.1).1.disk,(fQ g (rD g.feed n (g.state.A+1)).2.1).1.wal,(fQ g (rD g.feed n (g.state.A+1)).2.1).1.state,(fQ g (rD g.feed n (g.state.A+1)).2.1).1.Y,
   (rD g.feed n (g.state.A+1)).1,(fQ g (rD g.feed n (g.state.A+1)).2.1).1.K,(fQ g (rD g.feed n (g.state.A+1)).2.1).1.up⟩,0)
structure avI (g h:bD) (k:Int):Prop where
 disk:h.disk=g.disk
 wal:Aa h.wal
 fits:rC g.wal g.disk->rC h.wal g.disk
 next:h.wal.next=g.wal.next+k
 J:h.wal.J=g.wal.J
 R:iH h.state
 B:h.state.B=g.state.B+k
 A:h.state.A=g.state.A+k
 out:h.Y=g.Y
 feed:h.feed=g.feed
 K:h.K=g.K
 up:h.up=g.up
 st:iD h.state
 sh:sG h.state
theorem aov {g:bD} {n:dV} (hs:iD g.state) (hsh:sG g.state) (hn:xu n) (h:(cu g (nZ n)).2=0):(cu g (nZ n)).1.state.A=g.state.A+1:=by
 obtain⟨-, d1,d2⟩:=HY hs hsh (Xx hn) h;rw[d2,((abj _ _).good d1).2.2.1,awh (show(nZ n).L=6 from rfl)]
theorem ajF:∀(l:List dV) (g:bD),(∀n∈l,xu n)->Aa g.wal->iH g.state->iD g.state->sG g.state->(fQ g l).2=0->avI g (fQ g l).1 l.length
 |[],g,_,hw,hR,hs,hsh,_=>⟨rfl,hw,id,by simp [fQ],rfl,hR,by simp [fQ],by simp [fQ],rfl,rfl,rfl,rfl,hs,hsh⟩
 |n::r,g,hl,hw,hR,hs,hsh,h=>by
  rw[fQ]at h ⊢
  by_cases h0:(cu g (nZ n)).2=0
  case neg=>rw[awg h0]at h;exact absurd h h0
  rw[awh h0]at h ⊢
  have hn:=hl n (by simp)
  have p:=(HY hs hsh (Xx hn) h0).1
  have ih:=ajF r _ (fun m hm=>hl m (by simp [hm])) p.put.wal p.R p.st p.sh h
  have hq:=aov hs hsh hn h0
  refine⟨ih.disk.trans p.disk,ih.wal,fun hf=> ?_,?_,ih.J.trans p.put.J,ih.R,?_,?_,ih.out.trans p.out,ih.feed.trans p.feed,ih.K.trans p.K,ih.up.trans p.up,ih.st,ih.sh⟩
  ·have:=ih.fits (by rw[p.disk];exact p.put.fits hf)
   rwa[p.disk]at this
  ·rw[ih.next,p.put.next];simp only[awF];omega
  ·rw[ih.B,p.B];simp only[awF];omega
  ·rw[ih.A,hq];simp only[awF];omega
theorem ad5:∀(l:List dV) (g:bD),(fQ g l).2≠9
 |[],g=>by simp [fQ]
 |n::r,g=>by
  rw[fQ]
  split
  ·exact ad5 r _
  ·exact ZG _ _
theorem aeH {l:List dV} {i:Nat} (hi:i<l.length) (g:bD):fQ g (l.drop i)=if (cu g (nZ l[i])).2=0 then fQ (cu g (nZ l[i])).1 (l.drop (i+1))else (g,(cu g (nZ l[i])).2):=by
 rw[axe hi];rfl
structure al7 (h:bD):Prop where
 st:iD h.state
 sh:sG h.state
 wal:xW h.wal
theorem al7.next {h:bD} {n:dV} (m:al7 h) (hn:xu n) (h0:(cu h (nZ n)).2=0):al7 (cu h (nZ n)).1:=by
 have p:=(HY m.st m.sh (Xx hn) h0).1;exact⟨p.st,p.sh,adK p.put.wal⟩
theorem arF {l:List dV} {g:bD} (z:bD) (hl:l.length<999) (hok:∀n∈l,xu n) (hm:al7 g):Wq (bU (fun v:Int×Int×Int×bD×bD=>wz (len l) l g v.1 v.2.1 v.2.2.1 v.2.2.2.1 v.2.2.2.2) LF (0,0,0,g,z)) fun w=>match w with
 |.inl x=>x.2.2=g/\x.1=(fQ g l).2/\x.1≠0
 |.inr x=>x.2.2.1=(fQ g l).1/\(fQ g l).2=0:=by
 refine fG (n:=l.length) (by omega) (fun i x=>al7 x.2.2.1/\fQ g l=fQ x.2.2.1 (l.drop i)) _ ?_ ?_ _ 0 (awm _) ⟨hm,by simp⟩
 ·rintro i ⟨x1,x2,s,x4⟩ hi ⟨g1,g3⟩
  simp only at g1 g3
  simp only[wz]
  have hn:=hok _ (awl hi)
  rw[au (by rw[dm];simpa using hi),au (inb l i hi),aN l i hi,show uV l[i]=some (nZ l[i])from rfl,ai,TQ g1.st g1.sh g1.wal (Xx hn),ai,dF,af,af]
  rw[aeH hi]at g3
  refine⟨fun hz=> ?_,fun hz=> ?_⟩
  ·rw[aG,aP]at hz
   rw[awg hz]at g3
   exact⟨rfl,by rw[g3],hz⟩
  ·rw[aF,aI]at hz
   rw[awh hz]at g3
   exact⟨aZ (by omega),g1.next hn hz,g3⟩
 ·rintro⟨x1,x2,s,x4⟩ ⟨g1,g3⟩
  simp only at g1 g3
  simp only[wz]
  rw[bK (En _),af]
  rw[axs]at g3
  have g3:fQ g l=(s,0):=g3
  rw[g3]
  exact⟨rfl,rfl⟩
theorem ar2 {l:List dV} {g:bD} (z:bD) (hl:l.length<999) (hok:∀n∈l,xu n) (hm:al7 g):Wq (bU (fun v:Int×Int×bD×bD=>mZ l g v.1 v.2.1 v.2.2.1 v.2.2.2) LF (0,0,g,z)) fun w=>match w with
 |.inl x=>x.2.2=g/\x.1=(fQ g l).2/\x.1≠0
 |.inr x=>x.2.1=(fQ g l).1/\(fQ g l).2=0:=by
 refine fG (n:=l.length) (by omega) (fun i x=>al7 x.2.1/\fQ g l=fQ x.2.1 (l.drop i)) _ ?_ ?_ _ 0 (awm _) ⟨hm,by simp⟩
 ·rintro i ⟨x1,s,x4⟩ hi ⟨g1,g3⟩
  simp only at g1 g3
  simp only[mZ]
  have hn:=hok _ (awl hi)
  rw[au (by rw[dm];simpa using hi),au (inb l i hi),aN l i hi,show kF l[i]=some (nZ l[i])from rfl,ai,VY g1.st g1.sh g1.wal (Xx hn),ai,dF,af,af]
  rw[aeH hi]at g3
  refine⟨fun hz=> ?_,fun hz=> ?_⟩
  ·rw[aG,aP]at hz
   rw[awg hz]at g3
   exact⟨rfl,by rw[g3],hz⟩
  ·rw[aF,aI]at hz
   rw[awh hz]at g3
   exact⟨aZ (by omega),g1.next hn hz,g3⟩
 ·rintro⟨x1,s,x4⟩ ⟨g1,g3⟩
  simp only at g1 g3
  simp only[mZ]
  rw[bK (En _),af]
  rw[axs]at g3
  have g3:fQ g l=(s,0):=g3
  rw[g3]
  exact⟨rfl,rfl⟩
theorem ah5 {g:bD} (hg:SG g) {n:dV} (hn:xu n) (h0:kN g=0):(rD g.feed n (g.state.A+1)).2.1.length<=9/\(∀m∈(rD g.feed n (g.state.A+1)).2.1,xu m)/\(∀m∈(rD g.feed n (g.state.A+1)).1.F,xu m):=by
 have cm:=aql (f:=g.feed) (n:=n) (x:=g.state.A+1);have h8:=(wP.1 h0).1.2.2.2.2.2.1.2.2.1;have hmem:∀m,m∈g.feed.F\/m=n->xu m:=fun m hm=>by
  rcases hm with hm | rfl
  ·exact hg.ok m hm
  ·exact hn
 exact⟨by have:=cm.2.1;omega,fun m hm=>hmem m (cm.2.2.2 m hm),fun m hm=>hmem m (cm.2.2.1 m hm)⟩
theorem ak5 {g:bD} {n:dV} (hg:SG g) (hn:xu n):P6 g n=some (XG g n):=by
 unfold P6 XG;rw[Ns hg,ai,cO,dn];by_cases h0:kN g=0
 case neg=>rw[awg h0,awh h0]
 rw[awh h0,awg (fun k=>k h0),show uV n=some (nZ n)from rfl,ai];obtain⟨b,hb,hbq⟩:=DW (nZ n);rw[hb,ai];cases b with
 |false=>rw[awh (fun k=>by have:=hbq.2 k;cases this)];rfl
 |true=>
 rw[awg (fun k=>k (hbq.1 rfl)),aK,aT];have hG:=(wP.1 h0).1;have hq:=hG.2.1.fine.A;have hL:=hG.2.1.fine.B;have hwl:=hG.2.2.1.2.2.2.1;have hw:wr .i64 (ay g.state.A 1)=g.state.A+1:=bf (by simp only[ay];omega) (by simp only[ay];omega);rw[hw,ajS,ai,cO,dn];obtain⟨c1,c2,c3⟩:=ah5 hg hn h0;generalize rD g.feed n (g.state.A+1)=C at*;obtain⟨f,l,e⟩:=C;simp only at*;by_cases he:e=0
 case neg=>rw[awg he,awh he]
 subst he;rw[awh rfl,awg (fun k=>k rfl),show len l=(l.length:Int)from rfl,show len g.wal.M=(g.wal.M.length:Int)from rfl,show ay g.state.B (l.length:Int)=g.state.B+(l.length:Int)from rfl,bf (by omega) (by omega),xB];by_cases ho:1000000000<g.state.B+(l.length:Int)
 ·rw[awh ho,awh ho]
 rw[awg ho,awg ho,show ay (l.length:Int) (g.wal.M.length:Int)=(l.length:Int)+(g.wal.M.length:Int)from rfl,bf (by omega) (by omega),xB];by_cases hf:32<l.length+g.wal.M.length
 ·rw[awh (by omega),awh hf]
 rw[awg (by omega),awg hf];obtain⟨w,w1,w2⟩:=arF (bD.mk (ak.mk [] 0 0 false) (dR.mk 0 0 0 0 0 []) (aB.mk 0 0 [] [] [] [] false 0 0 0) [] (jl.mk [] false) 0 false) (by omega) c2 ⟨hg.st,hg.sh,hg.wal⟩;have w1':bU (fun v:Int×Int×Int×bD×bD=>wz (l.length:Int) l g v.1 v.2.1 v.2.2.1 v.2.2.2.1 v.2.2.2.2) LF (0,0,0,g,bD.mk (ak.mk [] 0 0 false) (dR.mk 0 0 0 0 0 []) (aB.mk 0 0 [] [] [] [] false 0 0 0) [] (jl.mk [] false) 0 false)=some w:=w1;rw[w1',ai]
 match w,w2 with
 |.inl x,⟨a1,a2,a3⟩=>simp only[dK];rw[awh (by rw[<-a2];exact a3),a1,a2]
 |.inr x,⟨a1,a2⟩=>simp only[dK];rw[awg (fun k=>k a2),a1]
theorem ajB {g:bD} {n:dV} (hg:SG g) (hn:xu n):zU g n=some (XG g n):=by
 unfold zU XG;rw[ML hg,ai,cO,dn];by_cases h0:kN g=0
 case neg=>rw[awg h0,awh h0]
 rw[awh h0,awg (fun k=>k h0),show kF n=some (nZ n)from rfl,ai];obtain⟨b,hb,hbq⟩:=G5 (nZ n);rw[hb,ai];cases b with
 |false=>rw[awh (fun k=>by have:=hbq.2 k;cases this)];rfl
 |true=>
 rw[awg (fun k=>k (hbq.1 rfl)),aK,aT];have hG:=(wP.1 h0).1;have hq:=hG.2.1.fine.A;have hL:=hG.2.1.fine.B;have hwl:=hG.2.2.1.2.2.2.1;have hw:wr .i64 (ay g.state.A 1)=g.state.A+1:=bf (by simp only[ay];omega) (by simp only[ay];omega);rw[hw,ajz _ _ _ (fun m hm=>(hg.ok m hm).A) hn.A,ai,cO,dn];obtain⟨c1,c2,c3⟩:=ah5 hg hn h0;generalize rD g.feed n (g.state.A+1)=C at*;obtain⟨f,l,e⟩:=C;simp only at*;by_cases he:e=0
 case neg=>rw[awg he,awh he]
 subst he;rw[awh rfl,awg (fun k=>k rfl),show len l=(l.length:Int)from rfl,show len g.wal.M=(g.wal.M.length:Int)from rfl,show aO 1000000000 (l.length:Int)=1000000000 - (l.length:Int)from rfl,bf (by omega) (by omega),xB];by_cases ho:1000000000<g.state.B+(l.length:Int)
 ·rw[awh (by omega),awh ho]
 rw[awg (by omega),awg ho,show aO 32 (l.length:Int)=32 - (l.length:Int)from rfl,bf (by omega) (by omega),xB];by_cases hf:32<l.length+g.wal.M.length
 ·rw[awh (by omega),awh hf]
 rw[awg (by omega),awg hf];obtain⟨w,w1,w2⟩:=ar2 (bD.mk (ak.mk [] 0 0 false) (dR.mk 0 0 0 0 0 []) (aB.mk 0 0 [] [] [] [] false 0 0 0) [] (jl.mk [] false) 0 false) (by omega) c2 ⟨hg.st,hg.sh,hg.wal⟩;rw[w1,ai]
 match w,w2 with
 |.inl x,⟨a1,a2,a3⟩=>simp only[dK];rw[awh (by rw[<-a2];exact a3),a1,a2]
 |.inr x,⟨a1,a2⟩=>simp only[dK];rw[awg (fun k=>k a2),a1]
theorem aoe (f:jl) (n:dV) (x:Int):(rD f n x).2.2≠9:=by
 unfold rD;split
 ·simp
 split
 ·simp
 split
 ·simp
 split
 ·simp
 split<;>simp
theorem aoy {g:bD} {n:dV} (hg:SG g) (hn:xu n):ac2 g (XG g n).1 (XG g n).2/\(XG g n).1.disk=g.disk/\(XG g n).1.wal.J=g.wal.J/\(XG g n).1.K=g.K/\(XG g n).1.Y=g.Y:=by
 have same:∀e:Int,e≠9->ac2 g (g,e).1 (g,e).2/\(g,e).1.disk=g.disk/\(g,e).1.wal.J=g.wal.J/\(g,e).1.K=g.K/\(g,e).1.Y=g.Y:=fun e he=>⟨RJ hg fun _=>he,rfl,rfl,rfl,rfl⟩;unfold XG;by_cases h0:kN g=0
 case neg=>rw[awh h0];exact⟨RJ hg fun hu=>UQ hu,rfl,rfl,rfl,rfl⟩
 rw[awg (fun k=>k h0)];by_cases hr:qf (nZ n)
 case neg=>rw[awh hr];exact same 1 (by simp)
 rw[awg (fun k=>k hr)];obtain⟨hG,hu⟩:=wP.1 h0;obtain⟨hdn,hfit⟩:=abK hG hu;obtain⟨c1,c2,c3⟩:=ah5 hg hn h0;have c9:=aoe g.feed n (g.state.A+1);have cok:=anH (f:=g.feed) (n:=n) (x:=g.state.A+1);generalize rD g.feed n (g.state.A+1)=C at*;obtain⟨f,l,e⟩:=C;simp only at c1 c2 c3 c9 cok ⊢;by_cases he:e=0
 case neg=>rw[awh he];exact same e c9
 have cq:=cok he;rw[awg (fun k=>k he)];by_cases ho:1000000000<g.state.B+(l.length:Int)
 ·rw[awh ho];exact same 3 (by simp)
 rw[awg ho];by_cases hf:32<l.length+g.wal.M.length
 ·rw[awh hf];exact same 6 (by simp)
 rw[awg hf];by_cases hz:(fQ g l).2=0
 case neg=>rw[awh hz];exact same _ (ad5 _ _)
 rw[awg (fun k=>k hz)];obtain⟨h1,h2,h3,h4,h5,h6,h7,h8,h9⟩:=hG;have q:=ajF l g c2 h3 h2 hg.st hg.sh hz;have hR:BI ⟨(fQ g l).1.disk,(fQ g l).1.wal,(fQ g l).1.state,(fQ g l).1.Y,f,(fQ g l).1.K,(fQ g l).1.up⟩:=by
  have hqs:=q.R.fine.A;have hls:=q.R.fine.B;have e1:=q.A;have e2:=q.B;have hx:(fQ g l).1.state.A+1=g.state.A+1+(l.length:Int):=by omega
  refine⟨?_,q.R,q.wal,?_,?_,⟨?_,?_,cq.len,?_⟩,?_,?_,.inl ⟨q.up.trans hu,?_,?_⟩⟩
  ·show fD (fQ g l).1.disk;rw[q.disk];exact h1
  ·show(fQ g l).1.state.B+1=(fQ g l).1.wal.next;rw[e2,q.next];omega
  ·show Ht (fQ g l).1.Y (fQ g l).1.wal.J (fQ g l).1.state.B;rw[q.out,q.J];exact anv h5 (by omega)
  ·show 1<=(fQ g l).1.state.A+1;omega
  ·show(fQ g l).1.state.A+1<=1000000001;omega
  ·show zq f.F ((fQ g l).1.state.A+1) ((fQ g l).1.state.A+1);rw[hx];exact cq.F
  ·intro m hm;rcases cq.mem m hm with c | c
   ·exact h7 m c
   ·rw[c];exact hr
  ·show 0<=(fQ g l).1.K/\(fQ g l).1.K<=1000000000;rw[q.K];exact h8
  ·show(fQ g l).1.disk.Q=false;rw[q.disk];exact hdn
  ·show rC (fQ g l).1.wal (fQ g l).1.disk;rw[q.disk];exact q.fits hfit
 refine⟨⟨SG.of hR q.st q.sh ?_ ?_ c3,fun _=>hR,fun _=>⟨fun h=> ?_,fun h=>(by cases h)⟩,fun h=>(by rw[hu]at h;cases h)⟩,q.disk,q.J,q.K,q.out⟩
 ·show inI (fQ g l).1.disk.T;rw[q.disk];exact hg.bnd.fu
 ·show iW (fQ g l).1.disk;rw[q.disk];exact hg.z7
 ·have:(fQ g l).1.up=false:=h;rw[q.up,hu]at this;cases this
theorem ak8 {g:bD} {r:iJ} (hg:SG g) (hr:mG r):ac2 g (Az g r).1 (Az g r).2:=by
 obtain⟨h1,h2,h3,-, -, -, h7⟩:=aiH hg hr;refine⟨h1,h2,fun hu=>⟨fun h=> ?_,fun h=>absurd h (h7 hu)⟩,fun hl=> ?_⟩
 ·rw[h3,hu]at h;cases h
 ·unfold Az;rw[awh (fun k=>by have:=(wP.1 k).2;rw[hl]at this;cases this)]
theorem alU {l:List fE} (hl:l.length<999999):zG l l=some true:=by
 refine Wq.eq ?_;unfold zG;rw[bK (by simp only[aF,aI])]
 refine Wq.bind (Q:=fun w:Bool ⊕ Bool=>match w with
  |.inl b=>False
  |.inr _=>True)
  (fG (n:=l.length) (step:=fun v:Int×Bool=>qL l l v.1 v.2) (by omega) (fun i x=>True) _ ?_ ?_ _ 0 (awm _) trivial) ?_
 ·rintro i q hi -;simp only[qL];rw[au (by rw[dm];simpa using hi),au (inb _ i hi),au (inb _ i hi),bK (by simp only[aF,aH,aI,and_self]),af];exact⟨aZ (by omega),azv⟩
 ·rintro q -;simp only[qL];rw[bK (En _),af];trivial
 ·rintro(w | w) hw
  ·exact hw.elim
  ·simp only[dK,af]
theorem apG {w:dR} (hl:w.M.length<999999):zM w w=some true:=by
 unfold zM;simp only[ad6,qU,aU,alU hl,ai]
theorem SG.same {g:bD} (h:SG g):kC g g=some true:=by
 have h1:=h.fl;have h2:=h.wl;have h3:=h.ol;have h4:=h.hl;unfold kC;simp only[ad6,agF,qU,aU,aqR _ (show g.disk.b.length<999999 by omega),apG (show g.wal.M.length<999999 by omega),ao3 h.sh,Ym _ (show g.Y.length<999999 by omega),apj _ (show g.feed.F.length<999999 by omega),ai]
theorem apt (g:bD) (k:adO g):Wq (yN g) fun b=>b=true->SG g/\g.Y.length<=99/\g.feed.F.length<=99:=by
 unfold yN;refine(aoo g.disk k.disk_files).bind fun b hb=> ?_;refine Wq.bind (Q:=fun c=>c=true->b=true/\sG g.state) ?_ fun c hc=> ?_
 ·rw[dF];exact⟨fun h1=>(asw g.state).mono fun c hc h=>⟨h1,hc h⟩,fun _=>(af _).2 fun h=>by cases h⟩
 ·rw[af];intro h;simp only[aH,aQ,aX,bn,aG,aF,bg,bC,aY,bI,aI,aP,bG,bJ,len]at h;obtain⟨⟨⟨⟨h1,h2⟩,h3⟩,h4⟩,h5⟩:=h;have hd:aaU g.disk:=⟨k.disk_files,k.disk_room,k.disk_fuse⟩;have hs:=hb h1;refine⟨⟨⟨k.state_accounts,k.state_symbols,k.state_orders,k.state_cells,k.state_limits,k.state_caps,k.state_last,k.state_seq,k.state_lsn⟩,(hc h2).2,⟨k.wal_epoch,k.wal_next,k.wal_sure,k.wal_seg,k.wal_count,by omega⟩,by omega,aou hd hs,ash hd,hs.1,by omega,by omega,fun n hn=>k.feed_held.1 n hn,k.K⟩,by omega,by omega⟩
theorem arT:DU=some true:=by kernel_rfl
theorem XI {g:bD} (h:SG g):SG (bH g).1/\(bH g).2.1.length<999999:=by
 refine⟨(ZC h).sg,?_⟩;by_cases h0:kN g=0
 ·have q:=Dx h h0;rcases q.how with ⟨-, -, -, e, -⟩ | ⟨-, -, e⟩
  ·rw[e];have:=auV g.Y (bH g).1.wal.J;have:=h.ol;omega
  ·rw[e];simp
 ·rw[abQ h0];simp
theorem alY {g:bD} {r:iJ} (h:SG g) (hr:mG r):SG (Vk g r).1/\(Vk g r).2.1.length<999999:=by
 refine⟨(aoU h hr).sg,?_⟩;have hf:=(XI h).2;unfold Vk;split
 ·simp
 split
 ·simp
 split
 ·simp
 split
 ·exact hf
 split
 ·exact hf
 split
 ·exact hf
 split<;>exact hf
theorem alN {g:bD} (h:SG g):SG (Vd g).1/\(Vd g).2.1.length<999999:=by
 refine⟨(aoA h).sg,?_⟩;have hf:=(XI h).2;unfold Vd;split<;>exact hf
theorem aeh (x0:bD) (x1:iJ) (x2:dV) (k0:adO x0) (k1:mG x1) (k2:xu x2):zk x0 x1 x2=some true:=by
 refine Wq.eq ?_;unfold zk;rw[arT,ai,aK,aT];refine(apt x0 k0).bind fun b hb=> ?_;rw[dF];refine⟨fun _=>(af _).2 rfl,fun h=> ?_⟩;rw[aF]at h;obtain⟨hg,-, -⟩:=hb h;have s1:=(ak8 hg k1).sg.same;have s2:=(aoy hg k2).1.sg.same;obtain⟨f1,f2⟩:=XI hg;obtain⟨t1,t2⟩:=alY hg k1;obtain⟨v1,v2⟩:=alN hg
 simp only[aay hg,abB hg,ai,agF,aK,aT,agm hg k1,agE hg k1,ad6,aW,aU,s1,dI,ak5 hg k2,ajB hg k2,s2,Um hg,Uy hg,f1.same,Ym _ f2,
  alp hg k1,aky hg k1,t1.same,Ym _ t2,akE hg,akR hg,v1.same,Ym _ v2,qU,af]
end Go.Av
