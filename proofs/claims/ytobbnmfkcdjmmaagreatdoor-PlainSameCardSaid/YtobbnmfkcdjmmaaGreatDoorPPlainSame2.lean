/- The plain law, part 2. No condition. -/
import Derived.Test.YtobbnmfkcdjmmaaGreatDoorPPlainSame1
import Derived.KernelRfl
set_option linter.unusedVariables false
set_option linter.unusedSimpArgs false
set_option linter.unnecessarySimpa false
namespace Go.Av
open Go
theorem Za {p:bH} {l:List dQ} (f':gJ) (z:bH) (hl:l.length<999) (hok:∀n∈l,mr n) (hs:gG p.state) (hsh:l9 p.state):
 Wq (bV (fun v:Int×Int×Int×bH×bH=>kU (len l) l p v.1 v.2.1 v.2.2.1 v.2.2.2.1 v.2.2.2.2) LF (0,0,0,bH.mk p.state p.outbox f',z)) fun w=>match w with
  |.inl x=>x.2.2=p/\x.1=(FP p.state l).2/\x.1≠0
  |.inr x=>x.2.2.1=⟨(FP p.state l).1,p.outbox,f'⟩/\(FP p.state l).2=0:=by
 have step:∀(i:Nat) (hi:i<l.length) (s:ay),FP s (l.drop i)=if (doS s (jk l[i])).2=0 then FP (doS s (jk l[i])).1 (l.drop (i+1))else (s,(doS s (jk l[i])).2):=fun i hi s=>by
  rw[List.drop_eq_getElem_cons hi];rfl
 refine lD (n:=l.length) (by omega) (fun i x=>∃s,x.2.2.1=⟨s,p.outbox,f'⟩/\gG s/\l9 s/\FP p.state l=FP s (l.drop i)) _ ?_ ?_ _ 0 (Nat.zero_le _) ⟨p.state,rfl,hs,hsh,by simp⟩
 ·rintro i ⟨x1,x2,x3,x4⟩ hi ⟨s,rfl,g1,g2,g3⟩
  simp only[kU]
  have hrr:=IB (hok l[i] (List.getElem_mem hi))
  rw[aA (by rw[eX];simpa using hi),aA (inb l i hi),bC l i hi,show iD l[i]=some (jk l[i])from rfl,ah,NW g1 hrr g2.1 g2.2.2.1 g2.2.2.2,ah,fP,ai,ai]
  rw[step i hi]at g3
  refine⟨fun hz=> ?_,fun hz=> ?_⟩
  ·rw[aY,bg]at hz
   rw[if_neg hz]at g3
   exact⟨rfl,by rw[g3],hz⟩
  ·rw[aZ,bn]at hz
   rw[if_pos hz]at g3
   exact⟨dG (by omega),_,rfl,(O5 s (jk l[i])).rng g1 hrr,UL g2 _,g3⟩
 ·rintro⟨x1,x2,x3,x4⟩ ⟨s,rfl,g1,g2,g3⟩
  simp only[kU]
  rw[cZ (Nk _),ai]
  rw[List.drop_length]at g3
  have g3:FP p.state l=(s,0):=g3
  rw[g3]
  exact⟨rfl,rfl⟩
theorem abO {p:bH} {n:dQ} (h:SP p) (hhl:p.feed.held.length<=100) (hn:mr n) (hP:Fz p):sV p n=some (Ve p n):=by
 unfold sV Ve
 rw[CZ h,ah,decide_eq_true hP,aJ,bf,aX,show iD n=some (jk n)from rfl,ah,aX]
 obtain⟨b,hb,hbq⟩:=qJ (jk n)
 rw[hb,ah]
 cases b with
 |false=>rw[if_pos (fun k=>by have:=hbq.2 k;cases this)];rfl
 |true=>
 rw[if_neg (fun k=>k (hbq.1 rfl)),cZ (by rfl)]
 have hq:=hP.2.1.fine.seq
 have hL:=hP.2.1.fine.lsn
 have hw:wr .i64 (ax p.state.seq 1)=p.state.seq+1:=bM (by simp only[ax];omega) (by simp only[ax];omega)
 rw[hw,Vb,ah,fD,fA]
 have cm:=ac7 (f:=p.feed) (n:=n) (x:=p.state.seq+1)
 have hmem:∀m,m∈p.feed.held\/m=n->mr m:=fun m hm=>by
  rcases hm with hm | rfl
  ·exact h.ok m hm
  ·exact hn
 generalize kz p.feed n (p.state.seq+1)=C at*
 obtain⟨f,l,e⟩:=C
 simp only at*
 by_cases he:e=0
 case neg=>rw[if_neg he,if_pos he]
 subst he
 rw[if_pos rfl,if_neg (fun k=>k rfl),show len l=(l.length:Int)from rfl,show aI 1000000000 (l.length:Int)=1000000000 - (l.length:Int)from rfl,bM (by omega) (by omega),ES]
 by_cases ho:1000000000<p.state.lsn+(l.length:Int)
 ·rw[if_pos (by omega),if_pos ho]
 rw[if_neg (by omega),if_neg ho]
 obtain⟨w,w1,w2⟩:=Za (p:=p) (l:=l) f (bH.mk (ay.mk 0 0 [] [] [] [] false 0 0 0) [] (gJ.mk [] false)) (by omega) (fun m hm=>hmem m (cm.2.2.2 m hm)) h.st h.sh
 have w1':bV (fun v:Int×Int×Int×bH×bH=>kU (l.length:Int) l p v.1 v.2.1 v.2.2.1 v.2.2.2.1 v.2.2.2.2) LF (0,0,0,bH.mk p.state p.outbox f,bH.mk (ay.mk 0 0 [] [] [] [] false 0 0 0) [] (gJ.mk [] false))=some w:=w1
 rw[w1',ah]
 match w,w2 with
 |.inl x,⟨a1,a2,a3⟩=>simp only[gX];rw[if_pos (by rw[<-a2];exact a3),a1,a2]
 |.inr x,⟨a1,a2⟩=>simp only[gX];rw[if_neg (fun k=>k a2),a1]
theorem ajJ {w:fO} {k:Int} {b:SA6} (hw:wV w) (hk:1<=k/\k<=6) (hn:w.next<=1000000000):(O0 w k b).2=0\/(O0 w k b).2=6:=by
 unfold O0
 rw[if_neg (fun g=>by rcases g with g | g | g;exact g hw;omega;omega),if_neg (by omega)]
 split
 ·exact .inr rfl
 ·exact .inl rfl
theorem ahb {r:iq} (h:qQ r):1<=r.kind/\r.kind<=6:=by unfold qQ at h;omega
theorem Qa {g:bD} {r:iq} (hw:wV g.wal) (hl:g.state.lsn+1=g.wal.next):(aS g r).2=(doS g.state r).2\/(aS g r).2=6:=by
 unfold aS
 by_cases h:(doS g.state r).2≠0
 ·rw[if_pos h];exact .inl rfl
 rw[if_neg h]
 have h:=Classical.not_not.1 h
 have q:=((O5 g.state r).good h).1
 have h3:=q.2.2.1
 rcases ajJ (b:=SA r) hw (ahb q.2.1) (by omega)with e | e
 ·rw[if_neg (fun k=>k e)];exact .inl h.symm
 ·rw[if_pos (by rw[e];simp)];exact .inr e
theorem YS:∀(l:List dQ) (g:bD),(∀n∈l,mr n)->wV g.wal->g.state.lsn+1=g.wal.next->gG g.state->l9 g.state->
 (dY g l).2=6\/((dY g l).2=(FP g.state l).2/\((dY g l).2=0->(dY g l).1.state=(FP g.state l).1))
 |[],g,_,_,_,_,_=> .inr ⟨rfl,fun _=>rfl⟩
 |n::r,g,hl,hw,hn,hs,hsh=>by
  rw[dY,FP]
  have hno:=hl n (by simp)
  by_cases h0:(aS g (jk n)).2=0
  ·rw[if_pos h0]
   obtain⟨p,d1,d2⟩:=wU hs hsh (IB hno) h0
   rw[if_pos d1,<-d2]
   exact YS r _ (fun m hm=>hl m (by simp [hm])) p.put.wal (by rw[p.lsn,p.put.next,<-hn]) p.st p.sh
  ·rw[if_neg h0]
   rcases Qa (r:=jk n) hw hn with e | e
   ·rw[if_neg (by rw[<-e];exact h0)]
    exact .inr ⟨e,fun h=>absurd h h0⟩
   ·exact .inl e
def Nr {τ:Type} [DecidableEq τ] (n:Int) (f:Bool->Option τ):Option τ:=if n=0 then (if f true=f false then f true else none)else f false
theorem ER {τ:Type} [DecidableEq τ] (n:Int) (f:Bool->Option τ):NU n f=Nr n f:=by
 unfold NU Nr
 by_cases h:n=0
 ·rw[if_pos h,if_pos h]
  by_cases h2:f true=f false
  ·rw[if_pos h2,if_pos h2]
  ·rw[if_neg h2,if_neg h2]
 ·rw[if_neg h,if_neg h]
def fJ (x0:(List aB)):Option ((List aB)):=Nr (len x0) fun y0=>cnd (beq y0 true) (some []) (cnd (ile (len x0) 68719476736) (some x0) none)
theorem Bf:fC=fJ:=by
 funext a0
 unfold fC fJ
 simp only[ER]
def fZ (x0:(List bF)):Option ((List bF)):=Nr (len x0) fun y0=>cnd (beq y0 true) (some []) (cnd (ile (len x0) 68719476736) (some x0) none)
theorem BH:fG=fZ:=by
 funext a0
 unfold fG fZ
 simp only[ER]
def fV (x0:(List jK)):Option ((List jK)):=Nr (len x0) fun y0=>cnd (beq y0 true) (some []) (cnd (ile (len x0) 68719476736) (some x0) none)
theorem BU:fE=fV:=by
 funext a0
 unfold fE fV
 simp only[ER]
def iI (x0:(List Int)):Option ((List Int)):=Nr (len x0) fun y0=>cnd (beq y0 true) (some []) (cnd (ile (len x0) 68719476736) (some x0) none)
theorem Ez:iy=iI:=by
 funext a0
 unfold iy iI
 simp only[ER]
def CW (x0:ay) (x1:iq):Option (ay×Int):=af (oM x0.lsn 1) fun y0=>af (cnd (au (bor (au (ieq y0.2 0)) (ile 1000000000 x0.lsn))) (jY x1) (some false)) fun y1=>af (cnd (au (bor (bor (au (ieq y0.2 0)) (ile 1000000000 x0.lsn)) (au y1))) (oC x0) (some false)) fun y2=>cnd (bor (bor (bor (au (ieq y0.2 0)) (ile 1000000000 x0.lsn)) (au y1)) (au y2)) (some (x0,1)) (af (fJ x0.orders) fun y3=>af (fZ x0.cells) fun y4=>af (fV x0.limits) fun y5=>af (iI x0.caps) fun y6=>cnd (ieq x1.kind 1) (af (yu x1) fun y7=>cnd (ile x1.order x0.last) (cnd (ile x1.order x0.last) (some (x0,1)) (cnd x0.kill (some (x0,5)) (cnd (ieq (len y3) 64) (some (x0,6)) (af (fJ y3) fun y8=>af (fZ y4) fun y9=>af (fV y5) fun y10=>af (iI y6) fun y11=>af (bG (ay.mk x0.accounts x0.symbols y3 y4 y5 y6 x0.kill x0.last x0.seq x0.lsn) y7.1.account y7.1.symbol) fun y12=>cnd (band (ile 0 y12) (ilt y12 (len y4))) (af (jX (aj y4 (itn y12)) y7.1) fun y13=>cnd (au (ieq y13.2 0)) (some (x0,3)) (cnd (ile (len (cu y3 [y7.1])) 68719476736) (af (dU (ay.mk x0.accounts x0.symbols (cu y3 [y7.1]) (bT y4 (itn y12) y13.1) y5 y6 x0.kill y7.1.id x0.seq x0.lsn) (ay.mk x0.accounts x0.symbols y8 y9 y10 y11 x0.kill x0.last x0.seq x0.lsn) y7.1.account y7.1.symbol) fun y14=>cnd (au (ieq y14 0)) (some (x0,y14)) (some (ay.mk x0.accounts x0.symbols (cu y3 [y7.1]) (bT y4 (itn y12) y13.1) y5 y6 x0.kill y7.1.id x0.seq (wr .i64 (ax x0.lsn 1)),0))) none)) none)))) (cnd (ile x0.accounts x1.account) (cnd (ile x0.accounts x1.account) (some (x0,1)) (cnd x0.kill (some (x0,5)) (cnd (ieq (len y3) 64) (some (x0,6)) (af (fJ y3) fun y15=>af (fZ y4) fun y16=>af (fV y5) fun y17=>af (iI y6) fun y18=>af (bG (ay.mk x0.accounts x0.symbols y3 y4 y5 y6 x0.kill x0.last x0.seq x0.lsn) y7.1.account y7.1.symbol) fun y19=>cnd (band (ile 0 y19) (ilt y19 (len y4))) (af (jX (aj y4 (itn y19)) y7.1) fun y20=>cnd (au (ieq y20.2 0)) (some (x0,3)) (cnd (ile (len (cu y3 [y7.1])) 68719476736) (af (dU (ay.mk x0.accounts x0.symbols (cu y3 [y7.1]) (bT y4 (itn y19) y20.1) y5 y6 x0.kill y7.1.id x0.seq x0.lsn) (ay.mk x0.accounts x0.symbols y15 y16 y17 y18 x0.kill x0.last x0.seq x0.lsn) y7.1.account y7.1.symbol) fun y21=>cnd (au (ieq y21 0)) (some (x0,y21)) (some (ay.mk x0.accounts x0.symbols (cu y3 [y7.1]) (bT y4 (itn y19) y20.1) y5 y6 x0.kill y7.1.id x0.seq (wr .i64 (ax x0.lsn 1)),0))) none)) none)))) (cnd (ile x0.symbols x1.symbol) (some (x0,1)) (cnd x0.kill (some (x0,5)) (cnd (ieq (len y3) 64) (some (x0,6)) (af (fJ y3) fun y22=>af (fZ y4) fun y23=>af (fV y5) fun y24=>af (iI y6) fun y25=>af (bG (ay.mk x0.accounts x0.symbols y3 y4 y5 y6 x0.kill x0.last x0.seq x0.lsn) y7.1.account y7.1.symbol) fun y26=>cnd (band (ile 0 y26) (ilt y26 (len y4))) (af (jX (aj y4 (itn y26)) y7.1) fun y27=>cnd (au (ieq y27.2 0)) (some (x0,3)) (cnd (ile (len (cu y3 [y7.1])) 68719476736) (af (dU (ay.mk x0.accounts x0.symbols (cu y3 [y7.1]) (bT y4 (itn y26) y27.1) y5 y6 x0.kill y7.1.id x0.seq x0.lsn) (ay.mk x0.accounts x0.symbols y22 y23 y24 y25 x0.kill x0.last x0.seq x0.lsn) y7.1.account y7.1.symbol) fun y28=>cnd (au (ieq y28 0)) (some (x0,y28)) (some (ay.mk x0.accounts x0.symbols (cu y3 [y7.1]) (bT y4 (itn y26) y27.1) y5 y6 x0.kill y7.1.id x0.seq (wr .i64 (ax x0.lsn 1)),0))) none)) none)))))) (cnd (ieq x1.kind 2) (af (lZ (ay.mk x0.accounts x0.symbols y3 y4 y5 y6 x0.kill x0.last x0.seq x0.lsn) x1.order) fun y29=>cnd (ieq y29 (-1)) (some (x0,7)) (cnd (band (ile 0 y29) (ilt y29 (len y3))) (af (vS (aj y3 (itn y29)) x1.qty x1.price) fun y30=>cnd (au (ieq y30.2 0)) (some (x0,8)) (cnd x0.kill (some (x0,5)) (af (fJ y3) fun y31=>af (fZ y4) fun y32=>af (fV y5) fun y33=>af (iI y6) fun y34=>af (bG (ay.mk x0.accounts x0.symbols y3 y4 y5 y6 x0.kill x0.last x0.seq x0.lsn) (aj y3 (itn y29)).account (aj y3 (itn y29)).symbol) fun y35=>cnd (band (ile 0 y35) (ilt y35 (len y4))) (af (BD (aj y4 (itn y35)) (aj y3 (itn y29))) fun y36=>af (jX y36.1 y30.1) fun y37=>cnd (au (ieq y37.2 0)) (some (x0,3)) (cnd (band (ile 0 y29) (ilt y29 (len y3))) (af (dU (ay.mk x0.accounts x0.symbols (bT y3 (itn y29) y30.1) (bT y4 (itn y35) y37.1) y5 y6 x0.kill x0.last x0.seq x0.lsn) (ay.mk x0.accounts x0.symbols y31 y32 y33 y34 x0.kill x0.last x0.seq x0.lsn) (aj y3 (itn y29)).account (aj y3 (itn y29)).symbol) fun y38=>cnd (au (ieq y38 0)) (some (x0,y38)) (some (ay.mk x0.accounts x0.symbols (bT y3 (itn y29) y30.1) (bT y4 (itn y35) y37.1) y5 y6 x0.kill x0.last x0.seq (wr .i64 (ax x0.lsn 1)),0))) none)) none))) none)) (cnd (ieq x1.kind 3) (af (lZ (ay.mk x0.accounts x0.symbols y3 y4 y5 y6 x0.kill x0.last x0.seq x0.lsn) x1.order) fun y39=>cnd (ieq y39 (-1)) (some (x0,7)) (cnd (band (ile 0 y39) (ilt y39 (len y3))) (af (Dc (aj y3 (itn y39))) fun y40=>cnd (band (ile 0 y39) (ilt y39 (len y3))) (cnd (au (ieq y40.2 0)) (some (x0,y40.2)) (some (ay.mk x0.accounts x0.symbols (bT y3 (itn y39) y40.1) y4 y5 y6 x0.kill x0.last x0.seq (wr .i64 (ax x0.lsn 1)),0))) none) none)) (cnd (ieq x1.kind 4) (cnd (ile x0.accounts x1.account) (cnd (ile x0.accounts x1.account) (some (x0,1)) (cnd (ieq x1.symbol (-1)) (cnd (band (ile 0 x1.account) (ilt x1.account (len y6))) (some (ay.mk x0.accounts x0.symbols y3 y4 y5 (bT y6 (itn x1.account) x1.opn) x0.kill x0.last x0.seq (wr .i64 (ax x0.lsn 1)),0)) none) (af (bG (ay.mk x0.accounts x0.symbols y3 y4 y5 y6 x0.kill x0.last x0.seq x0.lsn) x1.account x1.symbol) fun y41=>cnd (band (ile 0 y41) (ilt y41 (len y5))) (some (ay.mk x0.accounts x0.symbols y3 y4 (bT y5 (itn y41) (jK.mk x1.long x1.short x1.opn)) y6 x0.kill x0.last x0.seq (wr .i64 (ax x0.lsn 1)),0)) none))) (cnd (ile x0.symbols x1.symbol) (some (x0,1)) (cnd (ieq x1.symbol (-1)) (cnd (band (ile 0 x1.account) (ilt x1.account (len y6))) (some (ay.mk x0.accounts x0.symbols y3 y4 y5 (bT y6 (itn x1.account) x1.opn) x0.kill x0.last x0.seq (wr .i64 (ax x0.lsn 1)),0)) none) (af (bG (ay.mk x0.accounts x0.symbols y3 y4 y5 y6 x0.kill x0.last x0.seq x0.lsn) x1.account x1.symbol) fun y42=>cnd (band (ile 0 y42) (ilt y42 (len y5))) (some (ay.mk x0.accounts x0.symbols y3 y4 (bT y5 (itn y42) (jK.mk x1.long x1.short x1.opn)) y6 x0.kill x0.last x0.seq (wr .i64 (ax x0.lsn 1)),0)) none)))) (cnd (ieq x1.kind 5) (some (ay.mk x0.accounts x0.symbols y3 y4 y5 y6 x1.on x0.last x0.seq (wr .i64 (ax x0.lsn 1)),0)) (cnd (au (ieq x1.seq (wr .i64 (ax x0.seq 1)))) (some (x0,11)) (af (lZ (ay.mk x0.accounts x0.symbols y3 y4 y5 y6 x0.kill x0.last x1.seq x0.lsn) x1.order) fun y43=>cnd (ieq y43 (-1)) (some (ay.mk x0.accounts x0.symbols y3 y4 y5 y6 x0.kill x0.last x1.seq (wr .i64 (ax x0.lsn 1)),0)) (cnd (band (ile 0 y43) (ilt y43 (len y3))) (af (zL (aj y3 (itn y43)) (dQ.mk x1.seq x1.what x1.order x1.qty x1.price)) fun y44=>cnd (au (ieq y44.2 0)) (some (ay.mk x0.accounts x0.symbols y3 y4 y5 y6 x0.kill x0.last x1.seq (wr .i64 (ax x0.lsn 1)),0)) (af (bG (ay.mk x0.accounts x0.symbols y3 y4 y5 y6 x0.kill x0.last x1.seq x0.lsn) (aj y3 (itn y43)).account (aj y3 (itn y43)).symbol) fun y45=>cnd (band (ile 0 y45) (ilt y45 (len y4))) (af (BD (aj y4 (itn y45)) (aj y3 (itn y43))) fun y46=>af (jX (aj (bT y4 (itn y45) y46.1) (itn y45)) y44.1) fun y47=>cnd (ieq x1.what 3) (af (Gj (aj (bT (bT y4 (itn y45) y46.1) (itn y45) y47.1) (itn y45)) (aj y3 (itn y43)).side x1.qty) fun y48=>cnd (band (ile 0 y43) (ilt y43 (len y3))) (cnd (ieq y44.1.phase 3) (af (gZ (bT y3 (itn y43) y44.1) y43 (wr .i64 (ax y43 1))) fun y49=>some (ay.mk x0.accounts x0.symbols y49 (bT (bT (bT y4 (itn y45) y46.1) (itn y45) y47.1) (itn y45) y48.1) y5 y6 x0.kill x0.last x1.seq (wr .i64 (ax x0.lsn 1)),0)) (some (ay.mk x0.accounts x0.symbols (bT y3 (itn y43) y44.1) (bT (bT (bT y4 (itn y45) y46.1) (itn y45) y47.1) (itn y45) y48.1) y5 y6 x0.kill x0.last x1.seq (wr .i64 (ax x0.lsn 1)),0))) none) (cnd (band (ile 0 y43) (ilt y43 (len y3))) (cnd (ieq y44.1.phase 3) (af (gZ (bT y3 (itn y43) y44.1) y43 (wr .i64 (ax y43 1))) fun y50=>some (ay.mk x0.accounts x0.symbols y50 (bT (bT y4 (itn y45) y46.1) (itn y45) y47.1) y5 y6 x0.kill x0.last x1.seq (wr .i64 (ax x0.lsn 1)),0)) (some (ay.mk x0.accounts x0.symbols (bT y3 (itn y43) y44.1) (bT (bT y4 (itn y45) y46.1) (itn y45) y47.1) y5 y6 x0.kill x0.last x1.seq (wr .i64 (ax x0.lsn 1)),0))) none)) none)) none))))))))
theorem Jd:um=CW:=by
 funext a0 a1
 unfold um CW
 simp only[Bf,BH,BU,Ez]
def xG (x0:bH) (x1:iq) (x2:(List Int)):Option (ay×Int):=af (jI x0) fun y0=>af (cnd (au (au y0)) (mF x2 x1.kind) (some false)) fun y1=>cnd (bor (au y0) (au y1)) (some (x0.state,1)) (af (CW x0.state x1) fun y2=>some y2)
theorem Ej:sZ=xG:=by
 funext a0 a1 a2
 unfold sZ xG
 simp only[Jd]
def o6 (x0:(List jQ)):Option ((List jQ)):=Nr (len x0) fun y0=>cnd (beq y0 true) (some []) (cnd (ile (len x0) 68719476736) (some x0) none)
theorem Du:bY=o6:=by
 funext a0
 unfold bY o6
 simp only[ER]
def yZ (x0:bH) (x1:iq):Option (bH×Int):=af (xG x0 x1 [1,2,3]) fun y0=>cnd (au (ieq y0.2 0)) (some (x0,y0.2)) (af (lZ y0.1 x1.order) fun y1=>cnd (band (ile 0 y1) (ilt y1 (len y0.1.orders))) (af (o6 x0.outbox) fun y2=>af (oK x1.kind (aj y0.1.orders (itn y1)) y0.1.lsn) fun y3=>cnd (ile (len (cu y2 [y3])) 68719476736) (some (bH.mk y0.1 (cu y2 [y3]) x0.feed,0)) none) none)
theorem Lp:o8=yZ:=by
 funext a0 a1
 unfold o8 yZ
 simp only[Ej,Du]
def fB (x0:(List dQ)):Option ((List dQ)):=Nr (len x0) fun y0=>cnd (beq y0 true) (some []) (cnd (ile (len x0) 68719476736) (some x0) none)
theorem Ce:dD=fB:=by
 funext a0
 unfold dD fB
 simp only[ER]
def DV (x0:gJ) (x1:dQ) (x2:Int):Option (gJ×(List dQ)×Int):=af (tu x0 x2) fun y0=>cnd (au y0) (cnd (au y0) (some (x0,[],1)) (cnd (ilt x1.seq x2) (some (x0,[],0)) (cnd (ilt (wr .i64 (ax x2 8)) x1.seq) (some (gJ.mk x0.held true,[],0)) (cnd (ieq x1.seq x2) (af (sF x0.held (wr .i64 (ax x2 1))) fun y1=>cnd (band (ile 0 (len x0.held)) (ile 0 (len x0.held))) (cnd (band (ile (len (cu (nol x0.held) [x1])) 68719476736) (bor (ieq (len (nol x0.held)) 0) true)) (cnd (band (ile 0 y1) (ile y1 (len x0.held))) (cnd (ile (len (cu (cu (nol x0.held) [x1]) (aG x0.held (itn y1)))) 68719476736) (cnd (band (ile 0 y1) (ile y1 (len x0.held))) (af (fB (aV x0.held (itn y1))) fun y2=>some (gJ.mk y2 x0.gap,cu (cu (nol x0.held) [x1]) (aG x0.held (itn y1)),0)) none) none) none) none) none) (af (og x0.held x1.seq) fun y3=>cnd (au y3.2) (af (fB x0.held) fun y4=>af (gm y4 y3.1 [x1]) fun y5=>some (gJ.mk y5 x0.gap,[],0)) (some (x0,[],0))))))) (cnd (ilt x1.seq 1) (cnd (ilt x1.seq 1) (some (x0,[],1)) (cnd (ilt x1.seq x2) (some (x0,[],0)) (cnd (ilt (wr .i64 (ax x2 8)) x1.seq) (some (gJ.mk x0.held true,[],0)) (cnd (ieq x1.seq x2) (af (sF x0.held (wr .i64 (ax x2 1))) fun y6=>cnd (band (ile 0 (len x0.held)) (ile 0 (len x0.held))) (cnd (band (ile (len (cu (nol x0.held) [x1])) 68719476736) (bor (ieq (len (nol x0.held)) 0) true)) (cnd (band (ile 0 y6) (ile y6 (len x0.held))) (cnd (ile (len (cu (cu (nol x0.held) [x1]) (aG x0.held (itn y6)))) 68719476736) (cnd (band (ile 0 y6) (ile y6 (len x0.held))) (af (fB (aV x0.held (itn y6))) fun y7=>some (gJ.mk y7 x0.gap,cu (cu (nol x0.held) [x1]) (aG x0.held (itn y6)),0)) none) none) none) none) none) (af (og x0.held x1.seq) fun y8=>cnd (au y8.2) (af (fB x0.held) fun y9=>af (gm y9 y8.1 [x1]) fun y10=>some (gJ.mk y10 x0.gap,[],0)) (some (x0,[],0))))))) (cnd (ilt 1000000000 x1.seq) (some (x0,[],1)) (cnd (ilt x1.seq x2) (some (x0,[],0)) (cnd (ilt (wr .i64 (ax x2 8)) x1.seq) (some (gJ.mk x0.held true,[],0)) (cnd (ieq x1.seq x2) (af (sF x0.held (wr .i64 (ax x2 1))) fun y11=>cnd (band (ile 0 (len x0.held)) (ile 0 (len x0.held))) (cnd (band (ile (len (cu (nol x0.held) [x1])) 68719476736) (bor (ieq (len (nol x0.held)) 0) true)) (cnd (band (ile 0 y11) (ile y11 (len x0.held))) (cnd (ile (len (cu (cu (nol x0.held) [x1]) (aG x0.held (itn y11)))) 68719476736) (cnd (band (ile 0 y11) (ile y11 (len x0.held))) (af (fB (aV x0.held (itn y11))) fun y12=>some (gJ.mk y12 x0.gap,cu (cu (nol x0.held) [x1]) (aG x0.held (itn y11)),0)) none) none) none) none) none) (af (og x0.held x1.seq) fun y13=>cnd (au y13.2) (af (fB x0.held) fun y14=>af (gm y14 y13.1 [x1]) fun y15=>some (gJ.mk y15 x0.gap,[],0)) (some (x0,[],0))))))))
theorem P9:wH=DV:=by
 funext a0 a1 a2
 unfold wH DV
 simp only[Ce]
def vZ (p0:Int) (p1:(List dQ)) (p2:bH) (v0:Int) (v1:Int) (v2:Int) (v3:bH) (v4:bH):Option ((Int×Int×Int×bH×bH) ⊕ ((Int×bH×bH) ⊕ ((Int×Int×bH×bH)))):=cnd (ilt v0 p0) (cnd (band (ile 0 v0) (ilt v0 (len p1))) (af (iD (aj p1 (itn v0))) fun y0=>af (CW v3.state y0) fun y1=>cnd (au (ieq y1.2 0)) (some (Sum.inr (Sum.inl (y1.2,bH.mk y1.1 v3.outbox v3.feed,p2)))) (some (Sum.inl (wr .i64 (ax v0 1),y1.2,v2,bH.mk y1.1 v3.outbox v3.feed,v4)))) none) (some (Sum.inr (Sum.inr (v1,v2,v3,v4))))
theorem IE:kU=vZ:=by
 funext a0 a1 a2 a3 a4 a5 a6 a7
 unfold kU vZ
 simp only[Jd]
def BF (x0:bH) (x1:dQ):Option (bH×Int):=af (jI x0) fun y0=>af (cnd (au (au y0)) (iD x1) (some (iq.mk 0 0 0 0 0 0 0 0 0 0 false 0 0))) fun y1=>af (cnd (au (au y0)) (jY y1) (some false)) fun y2=>cnd (bor (au y0) (au y2)) (some (x0,1)) (af (DV x0.feed x1 (wr .i64 (ax x0.state.seq 1))) fun y3=>cnd (au (ieq y3.2.2 0)) (some (x0,y3.2.2)) (cnd (ilt (wr .i64 (aI 1000000000 (len y3.2.1))) x0.state.lsn) (some (x0,3)) (af (bV (fun v=>vZ (len y3.2.1) y3.2.1 x0 v.1 v.2.1 v.2.2.1 v.2.2.2.1 v.2.2.2.2) LF (0,y3.2.2,0,bH.mk x0.state x0.outbox y3.1,bH.mk (ay.mk 0 0 [] [] [] [] false 0 0 0) [] (gJ.mk [] false))) fun y4=>gX y4 (fun y5=>some (y5.2.2,y5.1)) fun y5=>some (y5.2.2.1,0))))
theorem OZ:sV=BF:=by
 funext a0 a1
 unfold sV BF
 simp only[P9,IE]
def BO (x0:bH) (x1:iq):Option (bH×(List jQ)×Int):=af (xG x0 x1 [4,5]) fun y0=>cnd (au (ieq y0.2 0)) (some (x0,[],y0.2)) (some (bH.mk y0.1 [] x0.feed,x0.outbox,0))
theorem OT:tq=BO:=by
 funext a0 a1
 unfold tq BO
 simp only[Ej]
def yE:Option (Bool):=af (Qh 1 1 (jK.mk 50 50 500) 900) fun y0=>af (yZ (bH.mk y0.1 [] (gJ.mk [] false)) (iq.mk 1 1 0 0 1 4 2 0 0 0 false 0 0)) fun y1=>af (BF y1.1 (dQ.mk 1 1 1 0 0)) fun y2=>af (ug y2.1) fun y3=>af (BO y3.1 (iq.mk 5 0 0 0 0 0 0 0 0 0 true 0 0)) fun y4=>cnd (bor (ilt 0 (len y3.2.1)) (au (band (band (band (band (band (ieq y0.2 0) (ieq y1.2 0)) (ieq y2.2 0)) (ieq y3.2.2 0)) (ieq y4.2.2 0)) (ieq (len y3.2.1) 1)))) (cnd (bor (ilt 0 (len y4.1.state.orders)) (au (band (band (band (band (band (band (band (band (band (band (ieq y0.2 0) (ieq y1.2 0)) (ieq y2.2 0)) (ieq y3.2.2 0)) (ieq y4.2.2 0)) (ieq (len y3.2.1) 1)) (ieq (aj y3.2.1 0).lsn 1)) (ieq (len y4.2.1) 0)) y4.1.state.kill) (ieq y4.1.state.lsn 3)) (ieq (len y4.1.state.orders) 1)))) (af (cnd (band (band (band (band (band (band (band (band (band (band (band (ieq y0.2 0) (ieq y1.2 0)) (ieq y2.2 0)) (ieq y3.2.2 0)) (ieq y4.2.2 0)) (ieq (len y3.2.1) 1)) (ieq (aj y3.2.1 0).lsn 1)) (ieq (len y4.2.1) 0)) y4.1.state.kill) (ieq y4.1.state.lsn 3)) (ieq (len y4.1.state.orders) 1)) (ieq (aj y4.1.state.orders 0).phase 2)) (jI y4.1) (some false)) fun y5=>some (band (band (band (band (band (band (band (band (band (band (band (band (ieq y0.2 0) (ieq y1.2 0)) (ieq y2.2 0)) (ieq y3.2.2 0)) (ieq y4.2.2 0)) (ieq (len y3.2.1) 1)) (ieq (aj y3.2.1 0).lsn 1)) (ieq (len y4.2.1) 0)) y4.1.state.kill) (ieq y4.1.state.lsn 3)) (ieq (len y4.1.state.orders) 1)) (ieq (aj y4.1.state.orders 0).phase 2)) y5)) none) none
theorem Ep:mY=yE:=by
 unfold mY yE
 simp only[Lp,OZ,OT]
theorem aj6:mY=some true:=by rw[Ep];kernel_rfl
theorem ajY {β:Type} {e f:Int} {h:bD} {q z:bH} {x:Option β} {k:Option β} (hs:e=6\/e=9\/(SG h/\e=f/\ofP h=q/\SP q)):
 (af (cnd (band (band (au (ieq e 6)) (au (ieq e 9))) (au (au (ieq e f)))) (mP h) (some z)) fun y7=>af (cnd (band (band (au (ieq e 6)) (au (ieq e 9))) (au (au (ieq e f)))) (eF y7 q) (some false)) fun y8=>
   cnd (band (band (au (ieq e 6)) (au (ieq e 9))) (bor (au (ieq e f)) (au y8))) x k)=k:=by
 rcases hs with rfl | rfl | ⟨h1,rfl,rfl,h2⟩
 ·rfl
 ·rfl
 ·rw[F5 h1,X7]
  by_cases h6:e=6
  ·subst h6;rfl
  ·by_cases h9:e=9
   ·subst h9;rfl
   ·rw[show ieq e 6=false by rw[bg];exact h6,show ieq e 9=false by rw[bg];exact h9]
    simp only[bf,aJ,show band true true=true from rfl,aX,ah,Tc h2]
    rfl
theorem ai6 {β:Type} {e f:Int} {h:bD} {q z:bH} {l m:List jQ} {x:Option β} {k:Option β} (hs:e=6\/e=9\/(SG h/\e=f/\ofP h=q/\SP q/\l=m/\m.length<999999)):
 (af (cnd (band (band (au (ieq e 6)) (au (ieq e 9))) (au (au (ieq e f)))) (mP h) (some z)) fun y15=>af (cnd (band (band (au (ieq e 6)) (au (ieq e 9))) (au (au (ieq e f)))) (eF y15 q) (some false)) fun y16=>
   af (cnd (band (band (au (ieq e 6)) (au (ieq e 9))) (au (bor (au (ieq e f)) (au y16)))) (eU l m) (some false)) fun y17=>
   cnd (band (band (au (ieq e 6)) (au (ieq e 9))) (bor (bor (au (ieq e f)) (au y16)) (au y17))) x k)=k:=by
 rcases hs with rfl | rfl | ⟨h1,rfl,rfl,h2,rfl,h3⟩
 ·rfl
 ·rfl
 ·rw[F5 h1,X7]
  by_cases h6:e=6
  ·subst h6;rfl
  ·by_cases h9:e=9
   ·subst h9;rfl
   ·rw[show ieq e 6=false by rw[bg];exact h6,show ieq e 9=false by rw[bg];exact h9]
    simp only[bf,aJ,show band true true=true from rfl,aX,ah,Tc h2,show bor false false=false from rfl,Ov _ h3]
    rfl
theorem Rn {g:bD} (hG:qm g):jW g=0/\g.up=true\/jW g=9/\g.up=false:=by
 cases hu:g.up with
 |true=>exact .inl ⟨pG.2 ⟨hG,hu⟩,rfl⟩
 |false=>right;unfold jW;rw[if_neg (fun k=>k hG),if_neg (by rw[hu];simp)];exact⟨rfl,rfl⟩
theorem ahe {g:bD} {r:iq} (hg:SG g) (hG:qm g) (hr:lm r):(lV g r).2=6\/(lV g r).2=9\/(SG (lV g r).1/\(lV g r).2=(acj (ofP g) r).2/\ofP (lV g r).1=(acj (ofP g) r).1/\SP (acj (ofP g) r).1):=by
 have st:=acU hg hr
 have pl:=(st.sg.plain (st.right hG)).1
 have key:(lV g r).2=6\/(lV g r).2=9\/((lV g r).2=(acj (ofP g) r).2/\ofP (lV g r).1=(acj (ofP g) r).1):=by
  unfold lV acj
  rcases Rn hG with ⟨h0,hu⟩ | ⟨h0, -⟩
  case inr=>right;left;rw[if_pos (by rw[h0];simp)];exact h0
  rw[if_neg (fun k=>k h0)]
  by_cases hk:r.kind<1\/3<r.kind
  ·rw[if_pos hk,if_pos hk];exact .inr (.inr ⟨rfl,rfl⟩)
  rw[if_neg hk,if_neg hk]
  by_cases h:(aS g r).2=0
  ·obtain⟨q,d1,d2⟩:=wU hg.st hg.sh hr h
   rw[if_neg (fun k=>k h),if_neg (fun k=>k d1)]
   refine .inr (.inr ⟨rfl,?_⟩)
   show bH.mk (aS g r).1.state ((aS g r).1.outbox++_) (aS g r).1.feed=_
   rw[q.out,q.feed,d2];rfl
  ·rw[if_pos h]
   rcases Qa (r:=r) hG.2.2.1 hG.2.2.2.1 with e | e
   ·right;right
    rw[if_pos (by show(doS g.state r).2≠0;rw[<-e];exact h)]
    exact⟨e,rfl⟩
   ·exact .inl e
 rcases key with k | k | ⟨k1,k2⟩
 ·exact .inl k
 ·exact .inr (.inl k)
 ·exact .inr (.inr ⟨st.sg,k1,k2,by rw[<-k2];exact pl⟩)
theorem alr {g:bD} {n:dQ} (hg:SG g) (hG:qm g) (hn:mr n):(Ah g n).2=6\/(Ah g n).2=9\/(SG (Ah g n).1/\(Ah g n).2=(Ve (ofP g) n).2/\ofP (Ah g n).1=(Ve (ofP g) n).1/\SP (Ve (ofP g) n).1):=by
 have st:=(ah3 hg hn).1
 have pl:=(st.sg.plain (st.right hG)).1
 have key:(Ah g n).2=6\/(Ah g n).2=9\/((Ah g n).2=(Ve (ofP g) n).2/\ofP (Ah g n).1=(Ve (ofP g) n).1):=by
  unfold Ah Ve
  rcases Rn hG with ⟨h0,hu⟩ | ⟨h0, -⟩
  case inr=>right;left;rw[if_pos (by rw[h0];simp)];exact h0
  rw[if_neg (fun k=>k h0)]
  by_cases hr:qQ (jk n)
  case neg=>rw[if_pos hr,if_pos hr];exact .inr (.inr ⟨rfl,rfl⟩)
  have hnr:¬¬qQ (jk n):=fun k=>k hr
  rw[if_neg hnr,if_neg hnr,show(ofP g).feed=g.feed from rfl,show(ofP g).state=g.state from rfl,show(ofP g).outbox=g.outbox from rfl]
  obtain⟨c1,c2,c3⟩:=aaY hg hn h0
  generalize kz g.feed n (g.state.seq+1)=C at*
  obtain⟨f,l,e⟩:=C
  simp only at c1 c2 c3 ⊢
  by_cases he:e=0
  case neg=>rw[if_pos he,if_pos he];exact .inr (.inr ⟨rfl,rfl⟩)
  have hne:¬e≠0:=fun k=>k he
  rw[if_neg hne,if_neg hne]
  by_cases ho:1000000000<g.state.lsn+(l.length:Int)
  ·rw[if_pos ho,if_pos ho];exact .inr (.inr ⟨rfl,rfl⟩)
  rw[if_neg ho,if_neg ho]
  by_cases hf:32<l.length+g.wal.wait.length
  ·rw[if_pos hf];exact .inl rfl
  rw[if_neg hf]
  rcases YS l g c2 hG.2.2.1 hG.2.2.2.1 hg.st hg.sh with k | ⟨k1,k2⟩
  ·rw[if_pos (by rw[k];simp)];exact .inl k
  ·by_cases hz:(dY g l).2=0
   ·have q:=YI l g c2 hG.2.2.1 hG.2.1 hg.st hg.sh hz
    rw[if_neg (fun k=>k hz),if_neg (fun k=>k (by rw[<-k1];exact hz))]
    refine .inr (.inr ⟨rfl,?_⟩)
    show bH.mk (dY g l).1.state (dY g l).1.outbox f=_
    rw[k2 hz,q.out]
   ·rw[if_pos hz,if_pos (by rw[<-k1];exact hz)]
    exact .inr (.inr ⟨k1,rfl⟩)
 rcases key with k | k | ⟨k1,k2⟩
 ·exact .inl k
 ·exact .inr (.inl k)
 ·exact .inr (.inr ⟨st.sg,k1,k2,by rw[<-k2];exact pl⟩)
theorem VG {g:bD} (hg:SG g) (hG:qm g):(aH g).2.2=6\/(aH g).2.2=9\/((aH g).2.2=0/\jW g=0/\(aH g).2.1=g.outbox/\(aH g).1.outbox=[]/\(aH g).1.feed=g.feed/\(aH g).1.state=g.state):=by
 rcases Rn hG with ⟨h0,hu⟩ | ⟨h0, -⟩
 case inr=>right;left;rw[UO (by rw[h0];simp)];exact h0
 have q:=wo hg h0
 rcases q.how with ⟨u1,u2,u3,u4,u5,u6⟩ | ⟨u1,u2,u3⟩
 ·rcases u2 with u2 | u2
  ·right;right
   have hwt:=u6 u2
   have r5:=q.right.2.2.1.2.2.2.2.1
   rw[hwt]at r5
   simp only[List.length_nil]at r5
   have r4:=q.right.2.2.2.1
   rw[q.state]at r4
   have ga:=aiO (s:=(aH g).1.wal.sure) hG.2.2.2.2.1 (by omega)
   rw[u4,u5,u3,q.state]
   exact⟨u2,h0,ga.1,ga.2,rfl,rfl⟩
  ·exact .inl u2
 ·exact .inr (.inl u2)
theorem alu {g:bD} {r:iq} (hg:SG g) (hG:qm g) (hr:lm r):(Bo g r).2.2=6\/(Bo g r).2.2=9\/(SG (Bo g r).1/\(Bo g r).2.2=(Dy (ofP g) r).2.2/\ofP (Bo g r).1=(Dy (ofP g) r).1/\SP (Dy (ofP g) r).1/\(Bo g r).2.1=(Dy (ofP g) r).2.1/\(Dy (ofP g) r).2.1.length<999999):=by
 have st:=ahq hg hr
 have pl:=(st.sg.plain (st.right hG)).1
 have hol:=hg.ol
 have hl:(Dy (ofP g) r).2.1.length<999999:=by
  unfold Dy
  split
  ·simp
  split
  ·simp
  ·show g.outbox.length<_;omega
 have key:(Bo g r).2.2=6\/(Bo g r).2.2=9\/((Bo g r).2.2=(Dy (ofP g) r).2.2/\ofP (Bo g r).1=(Dy (ofP g) r).1/\(Bo g r).2.1=(Dy (ofP g) r).2.1):=by
  rcases Rn hG with ⟨h0,hu⟩ | ⟨h0, -⟩
  case inr=>right;left;unfold Bo;rw[if_pos (by rw[h0];simp)];exact h0
  unfold Bo Dy
  rw[if_neg (fun k=>k h0)]
  by_cases hk:r.kind≠4/\r.kind≠5
  ·rw[if_pos hk,if_pos hk];exact .inr (.inr ⟨rfl,rfl,rfl⟩)
  rw[if_neg hk,if_neg hk,show(ofP g).state=g.state from rfl]
  by_cases h1:(doS g.state r).2=0
  case neg=>rw[if_pos h1,if_pos h1];exact .inr (.inr ⟨rfl,rfl,rfl⟩)
  have hn1:¬(doS g.state r).2≠0:=fun k=>k h1
  rw[if_neg hn1,if_neg hn1]
  rcases VG hg hG with k | k | ⟨hf,-, f1,f2,f3,f4⟩
  ·rw[if_pos (by rw[k];simp)];exact .inl k
  ·rw[if_pos (by rw[k];simp)];exact .inr (.inl k)
  rw[if_neg (fun k=>k hf)]
  have q:=wo hg h0
  by_cases hn:(aS (aH g).1 r).2=0
  ·obtain⟨p,d1,d2⟩:=wU q.sg.st q.sg.sh hr hn
   obtain⟨p',hfit,hdn,hup⟩:=QU hg hr h0 hf hn
   have cq:=Ox hfit hdn
   rw[if_neg (fun k=>k hn)]
   by_cases hc:(dV (aS (aH g).1 r).1.wal (aS (aH g).1 r).1.disk).2.2=0
   ·rw[if_pos hc]
    refine .inr (.inr ⟨rfl,?_,f1⟩)
    show bH.mk (aS (aH g).1 r).1.state (aS (aH g).1 r).1.outbox (aS (aH g).1 r).1.feed=_
    rw[d2,p.out,p.feed,f2,f3,f4];rfl
   ·rw[if_neg hc]
    have hc2:(dV (aS (aH g).1 r).1.wal (aS (aH g).1 r).1.disk).2.2=6\/(dV (aS (aH g).1 r).1.wal (aS (aH g).1 r).1.disk).2.2=9:=by
     rcases cq.code with ⟨c, -⟩ | ⟨c, -⟩ | ⟨c, -⟩
     ·exact absurd c hc
     ·exact .inl c
     ·exact .inr c
    split
    ·rcases hc2 with c | c
     ·exact .inl c
     ·exact .inr (.inl c)
    ·rcases hc2 with c | c
     ·exact .inl c
     ·exact .inr (.inl c)
  ·rw[if_pos hn]
   rcases Qa (r:=r) q.right.2.2.1 q.right.2.2.2.1 with e | e
   ·rw[f4]at e;exact absurd (e.trans h1) hn
   ·exact .inl e
 rcases key with k | k | ⟨k1,k2,k3⟩
 ·exact .inl k
 ·exact .inr (.inl k)
 ·exact .inr (.inr ⟨st.sg,k1,k2,by rw[<-k2];exact pl,k3,hl⟩)
theorem YX (x0:bD) (x1:iq) (x2:dQ) (k0:V4 x0) (k1:lm x1) (k2:mr x2):qP x0 x1 x2=some true:=by
 refine Wq.eq ?_
 unfold qP
 rw[aj6,ah,aJ,aU]
 refine(ahC x0 k0).bind fun b hb=> ?_
 refine Wq.bind (Q:=fun c=>b=true->c=true->SG x0/\qm x0) ?_ fun c hc=> ?_
 ·rw[fP]
  refine⟨fun h=> ?_,fun _=>(ai _).2 fun _ h=>by cases h⟩
  rw[aY,aZ]at h
  have hg:=(hb h).1
  rw[S9 hg,ai]
  exact fun _ h2=>⟨hg,by simpa using h2⟩
 rw[fP]
 refine⟨fun _=>(ai _).2 rfl,fun h=> ?_⟩
 simp only[aW,bK,dn,dF,aY,aZ,dA,dB,bP,dJ,bn,bg,dM,dN]at h
 obtain⟨hg,hG⟩:=hc h.1 h.2
 obtain⟨p1,p2,p3,p4⟩:=hg.plain hG
 rw[F5 hg,ah,CZ p1,ah,decide_eq_true p4,aJ,aU,Zj hg k1,ah,Yz p1 p2 k1 p4,ah,ajY (ahe hg hG k1),
  acO hg k2,ah,abO p1 p3 k2 p4,ah,ajY (alr hg hG k2),Kq hg,ah,Zr p1 p4,ah]
 have fc:=VG hg hG
 have fs:=QT hg
 have hol:=hg.ol
 have fz:(aH x0).2.2=6\/(aH x0).2.2=9\/(SG (aH x0).1/\(aH x0).2.2=0/\ofP (aH x0).1=⟨(ofP x0).state,[],(ofP x0).feed⟩/\SP ⟨(ofP x0).state,[],(ofP x0).feed⟩/\(aH x0).2.1=(ofP x0).outbox/\(ofP x0).outbox.length<999999):=by
  rcases fc with k | k | ⟨a1,-, a2,a3,a4,a5⟩
  ·exact .inl k
  ·exact .inr (.inl k)
  ·exact .inr (.inr ⟨fs.sg,a1,by unfold ofP;rw[a3,a4,a5],⟨p1.st,p1.sh,by simp,p1.hl,p1.ok⟩,a2,by show x0.outbox.length<_;omega⟩)
 rw[ai6 fz,aed hg,ah]
 have hsv:Wq (af (cnd (ieq (uO x0).2.2 0) (mP (uO x0).1) (some (bH.mk (ay.mk 0 0 [] [] [] [] false 0 0 0) [] (gJ.mk [] false)))) fun y19=>af (cnd (ieq (uO x0).2.2 0) (eF y19 ⟨(ofP x0).state,[],(ofP x0).feed⟩) (some false)) fun y20=>
  af (cnd (band (ieq (uO x0).2.2 0) (au (au y20))) (eU (uO x0).2.1 (ofP x0).outbox) (some false)) fun y21=>some (band (ieq (uO x0).2.2 0) (bor (au y20) (au y21)))) fun b=>b=false:=by
  by_cases hz:(uO x0).2.2=0
  ·have hsg:=(aaJ hg).sg
   have hfl:(aH x0).2.2=0:=by
    unfold uO at hz
    by_cases hf:(aH x0).2.2=0
    ·exact hf
    ·rw[if_pos hf]at hz;exact hz
   rcases fz with k | k | ⟨a1,a2,a3,a4,a5,a6⟩
   ·omega
   ·omega
   have hkeep:ofP (uO x0).1=ofP (aH x0).1/\(uO x0).2.1=(aH x0).2.1:=by
    have hst:=aaJ hg
    unfold uO at hz ⊢
    rw[if_neg (fun k=>k hfl)]at hz ⊢
    obtain⟨h0,q,hu⟩:=YZ hg hfl
    have sq:=abq q.right hu
    have:=sq.kept.down.up (by rw[show(Jk (aH x0).1).2=0 from hz];simp)
    simp only
    rw[if_neg (by rw[this];simp)]
    exact⟨rfl,trivial⟩
   rw[show ieq (uO x0).2.2 0=true by rw[bn];exact hz,aX,F5 hsg,ah,aX,hkeep.1,a3,Tc a4,ah,aJ,bf,EP,aX,hkeep.2,a5,Ov _ a6,ah,ai];rfl
  ·rw[show ieq (uO x0).2.2 0=false by rw[bg];exact hz]
   exact(ai _).2 rfl
 obtain⟨y,hy,hy2⟩:=hsv
 have assoc:∀ {β:Type} (k:Bool->Option β),(af (cnd (ieq (uO x0).2.2 0) (mP (uO x0).1) (some (bH.mk (ay.mk 0 0 [] [] [] [] false 0 0 0) [] (gJ.mk [] false)))) fun y19=>af (cnd (ieq (uO x0).2.2 0) (eF y19 ⟨(ofP x0).state,[],(ofP x0).feed⟩) (some false)) fun y20=>
  af (cnd (band (ieq (uO x0).2.2 0) (au (au y20))) (eU (uO x0).2.1 (ofP x0).outbox) (some false)) fun y21=>k (band (ieq (uO x0).2.2 0) (bor (au y20) (au y21))))=k false:=by
  intro β k
  have:∀(A:Option bH) (B:bH->Option Bool) (C:Bool->Option Bool) (D:Bool->Bool->Bool),(af A fun a=>af (B a) fun b=>af (C b) fun c=>k (D b c))=af (af A fun a=>af (B a) fun b=>af (C b) fun c=>some (D b c)) k:=by
   intro A B C D
   cases A with
   |none=>rfl
   |some a=>
    simp only[ah]
    cases B a with
    |none=>rfl
    |some b=>
     simp only[ah]
     cases C b with
     |none=>rfl
     |some c=>rfl
  rw[this,hy,ah,hy2]
 rw[assoc (fun t=>cnd t (some false) _),aU,adW hg k1,ah,abT p1 k1 p4,ah]
 rcases alu hg hG k1 with k | k | ⟨a1,a2,a3,a4,a5,a6⟩
 ·simp only[k];exact(ai _).2 rfl
 ·simp only[k];exact(ai _).2 rfl
 ·rw[a2,a5,F5 a1,a3]
  by_cases h6:(Dy (ofP x0) x1).2.2=6
  ·simp only[h6];exact(ai _).2 rfl
  by_cases h9:(Dy (ofP x0) x1).2.2=9
  ·simp only[h9];exact(ai _).2 rfl
  have z6:ieq (Dy (ofP x0) x1).2.2 6=false:=by rw[bg];exact h6
  have z9:ieq (Dy (ofP x0) x1).2.2 9=false:=by rw[bg];exact h9
  simp only[z6,z9,X7,bf,aJ,show ∀x,bor false x=x from fun x=>rfl,show ∀x,band true x=x from fun x=>rfl,show band true true=true from rfl,aX,ah,Tc a4,Ov _ a6,ai]
  try rfl
end Go.Av
