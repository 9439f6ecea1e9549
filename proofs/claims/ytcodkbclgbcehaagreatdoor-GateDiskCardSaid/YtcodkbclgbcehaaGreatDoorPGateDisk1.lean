/- The plain law, part 1. No condition. -/
import Derived.Test.YtcodkbclgbcehaaGreatDoorPGateDisk0
import Derived.KernelRfl
set_option linter.unusedVariables false
set_option linter.unusedSimpArgs false
set_option linter.unnecessarySimpa false
namespace Go.Av
open Go
theorem ahl {n:Nm} {l:List aB} (h:Jy l):Jy (Gz n l):=by
 unfold Jy Gz;exact List.Pairwise.sublist List.filter_sublist h
theorem adO (d:ax) (hl:okL OM d.files):Wq (pJ d) fun b=>b=true->d.files.length<=70/\∀f∈d.files,f.name.length<=100/\f.data.length<=70000:=by
 unfold pJ
 rw[gJ]
 refine⟨fun h=>(ak _).2 (by intro g;cases g),fun h=> ?_⟩
 simp only[bg,bP,dh,dB,bn,aY,dn,dG,bZ,dL,bF,bH,dJ,dO,len]at h
 refine Wq.bind (Q:=fun w=>match w with
  |.inl b=>b=false
  |.inr _=>∀f∈d.files,f.name.length<=100/\f.data.length<=70000)
  (nD (n:=d.files.length) (step:=fun v:Int×Int×Bool=>jG d v.1 v.2.1 v.2.2) (by omega) (fun i x=>∀f∈d.files.take i,f.name.length<=100/\f.data.length<=70000) _ ?_ ?_ _ 0 (Nat.zero_le _) (by simp)) ?_
 ·rintro i ⟨n,q⟩ hi hx
  simp only[jG]
  rw[aI (by rw[eP];simpa using hi),aI (inb _ i hi),aI (by rw[dh];exact .inl (inb _ i hi)),bJ _ i hi,aI (inb _ i hi),gJ,ak,ak]
  refine⟨fun _=>rfl,fun hb=>⟨dZ (by omega),?_⟩⟩
  simp only[bg,bP,dh,dB,bn,aY,dn,dG,bZ,dL,bF,bH,dJ,dO,len]at hb
  rw[lZ hi]
  intro f hf
  rcases List.mem_append.1 hf with c | c
  ·exact hx f c
  ·rw[List.mem_singleton.1 c];omega
 ·rintro⟨n,q⟩ hx
  simp only[jG]
  rw[dD (MK _),ak]
  rwa[List.take_length]at hx
 ·rintro(w | w) hw
  ·simp only[gK,ak];simp only at hw;rw[hw];intro g;cases g
  ·simp only[gK,ak];exact fun _=>⟨by omega,hw⟩
theorem afp (d:ax) (hl:d.files.length<999999):mG d d=some true:=by
 refine Wq.eq ?_
 unfold mG
 rw[dD (by simp only[dB,aY,bF,dJ,and_self])]
 refine Wq.bind (Q:=fun w:Bool ⊕ Bool=>match w with
  |.inl b=>False
  |.inr _=>True)
  (nD (n:=d.files.length) (step:=fun v:Int×Bool=>kS d d v.1 v.2) (by omega) (fun i x=>True) _ ?_ ?_ _ 0 (Nat.zero_le _) trivial) ?_
 ·rintro i q hi -
  simp only[kS]
  rw[aI (by rw[eP];simpa using hi),aI (inb _ i hi),aI (inb _ i hi),dD (by simp only[dB,aY,bF,aic,and_self]),ak]
  exact⟨dZ (by omega),trivial⟩
 ·rintro q -
  simp only[kS]
  rw[dD (MK _),ak];trivial
 ·rintro(w | w) hw
  ·exact hw.elim
  ·simp only[gK,ak]
def n1:Nm:=[115,108,111,116,46,49]
theorem rY.len {n:Nm} (h:rY n):n.length<999999:=by have:=h.2.2;omega
def uU (d:ax):Prop:=∀f∈d.files,yg f.data
theorem Df {l:List aB} (h:Jy l) (hl:l.length<=100000) (n:Nm):∃i o,kZ n l i o:=by
 obtain⟨_,_,i,o,_,h2,_⟩:=Za (d:=⟨l,0,0,false⟩) (n:=n) h hl
 exact⟨i,o,h2⟩
theorem get_put (f:aB) (m:Nm):∀l:List aB,kV (qI f l) m=if m=f.name then some f else kV l m
 |[]=>by
  rw[qI,vS]
  by_cases h:m=f.name
  ·rw[if_pos h.symm,if_pos h]
  ·rw[if_neg (fun e=>h e.symm),if_neg h]
 |g::r=>by
  rw[qI]
  by_cases hlt:g.name<f.name
  ·rw[if_pos hlt,vS,vS,get_put f m r]
   by_cases h:m=f.name
   ·rw[if_neg (fun e=>Tz f.name (by rw[e,h]at hlt;exact hlt)),if_pos h,if_pos h]
   ·rw[if_neg h,if_neg h]
  ·rw[if_neg hlt,vS]
   by_cases h:m=f.name
   ·rw[if_pos h.symm,if_pos h]
   ·rw[if_neg (fun e=>h e.symm),if_neg h]
    exact gd m h (g::r)
where
 gd (m:Nm) (h:m≠f.name):∀l:List aB,kV (Gz f.name l) m=kV l m
 |[]=>rfl
 |g::r=>by
  rw[Lu]
  by_cases e:g.name=f.name
  ·rw[if_pos e,gd m h r,vS,if_neg (fun k=>h (by rw[<-k,e]))]
  ·rw[if_neg e,vS,vS,gd m h r]
theorem RD (f:aB) (l:List aB):wJ (f::l)↔okF f/\wJ l/\∀g∈l,f.name<g.name:=by
 have:=qY [f] l
 rw[List.singleton_append,XR]at this
 rw[this]
 simp
def SL (o:Option aB):Nat:=match o with | some f=>f.data.length | none=>0
theorem kZ.used {n:Nm} {l:List aB} {i:Nat} {o:Option aB} (h:kZ n l i o) (f:aB) (e:f.name=n):jA (qI f l)+SL o=jA l+f.data.length:=by
 subst e
 cases h with
 |no a b ha hb=>rw[uo ha,EL hb,pq,pq,Ig];simp only[SL];omega
 |yes a g b e ha hb=>rw[uo ha,TI e hb,pq,pq,Ig,Ig];simp only[SL];omega
theorem kZ.long {n:Nm} {l:List aB} {i:Nat} {o:Option aB} (h:kZ n l i o) (f:aB) (e:f.name=n):(qI f l).length=l.length+if o=none then 1 else 0:=by
 subst e
 cases h with
 |no a b ha hb=>rw[uo ha,EL hb];simp;omega
 |yes a g b e ha hb=>rw[uo ha,TI e hb];simp
theorem kZ.good {n:Nm} {l:List aB} {i:Nat} {o:Option aB} (h:kZ n l i o) {f:aB} (e:f.name=n) (hf:okF f) (hl:wJ l):wJ (qI f l):=by
 subst e
 cases h with
 |no a b ha hb=>
  rw[uo ha,EL hb]
  obtain⟨h1,h2,h3⟩:=(qY _ _).1 hl
  refine(qY _ _).2 ⟨h1,(RD _ _).2 ⟨hf,h2,hb⟩,fun g hg k hk=> ?_⟩
  rcases List.mem_cons.1 hk with rfl | hk
  ·exact ha g hg
  ·exact h3 g hg k hk
 |yes a g b e ha hb=>
  rw[uo ha,TI e hb]
  obtain⟨h1,h2,h3⟩:=(qY _ _).1 hl
  refine(qY _ _).2 ⟨h1,(RD _ _).2 ⟨hf,((RD _ _).1 h2).2.1,hb⟩,fun g hg k hk=> ?_⟩
  rcases List.mem_cons.1 hk with rfl | hk
  ·exact ha g hg
  ·exact h3 g hg k (List.mem_cons_of_mem _ hk)
theorem kZ.usedD {n:Nm} {l:List aB} {i:Nat} {o:Option aB} (h:kZ n l i o):jA (Gz n l)+SL o=jA l:=by
 cases h with
 |no a b ha hb=>rw[AO (fun f hf=>(List.mem_append.1 hf).elim (fun g=>Rj (ha f g)) (fun g=>(Rj (hb f g)).symm))];rfl
 |yes a g b e ha hb=>
  rw[RI,Lu,if_pos e,AO fun g hg=>Rj (ha g hg),AO fun g hg=>(Rj (hb g hg)).symm,pq,pq,Ig]
  simp only[SL];omega
theorem af2 {n:Nm} {l:List aB} (h:wJ l):wJ (Gz n l):=⟨fun f hf=>h.1 f (List.mem_filter.1 hf).1,ahl h.2⟩
structure Keep (d e:ax):Prop where
 right:jB e
 fz:e.fuse<=d.fuse
 room:e.room=d.room
theorem Keep.refl {d:ax} (h:jB d):Keep d d:=⟨h,Int.le_refl _,rfl⟩
theorem Keep.trans {a b c:ax} (h:Keep a b) (k:Keep b c):Keep a c:=⟨k.right,Int.le_trans k.fz h.fz,k.room.trans h.room⟩
theorem jB.bnd {d:ax} (h:jB d) (hf:inI d.fuse):SK d:=
 ⟨fun f hf=>by have:=(h.2.1.1 f hf).1.2.2;omega,hf⟩
theorem Keep.bnd {d e:ax} (h:Keep d e) (hf:inI d.fuse):SK e:=by
 refine h.right.bnd ?_
 have:=h.fz
 have:=h.right.1.2.2.1
 unfold inI at*
 omega
theorem NK (d:ax):(d.fuse=0/\(fJ d).1.fuse=0/\(fJ d).1.down=true/\(fJ d).2=false)\/((fJ d).1.fuse<=d.fuse/\(-1<=d.fuse-> -1<=(fJ d).1.fuse)/\(fJ d).1.down=d.down/\(fJ d).2=true):=by
 unfold fJ
 by_cases h0:d.fuse=0
 ·simp [h0]
 by_cases h1:d.fuse= -1
 ·simp [h1]
 ·rw[if_neg h0,if_neg h1];right;simp only;exact⟨by omega,fun _=>by omega,trivial,trivial⟩
theorem Ob {d:ax} (h:jB d):Keep d (fJ d).1:=by
 have hf:=NK d
 have h1:=h.1
 refine⟨⟨⟨?_,?_,?_,?_⟩,?_,?_⟩,?_,DJ d⟩<;>(try rw[DJ])<;>(try rw[jg])
 ·omega
 ·omega
 ·rcases hf with hf | hf
  ·omega
  ·exact hf.2.1 h1.2.2.1
 ·omega
 ·exact h.2.1
 ·exact h.2.2
 ·rcases hf with hf | hf<;>omega
theorem Xo {d:ax} {f:aB} (h:jB d) (hf:okF f) (hu:(jA d.files:Int)+f.data.length<=d.room+SL (kV d.files f.name)) (hl:kV d.files f.name≠none\/d.files.length<64):Keep d (G7 d f):=by
 obtain⟨i,o,hs⟩:=Df h.asc (by have:=h.fl;omega) f.name
 have g1:=hs.used f rfl
 have g2:=hs.long f rfl
 rw[hs.get]at hu hl
 have h1:=h.1
 refine⟨⟨⟨h1.1,h1.2.1,h1.2.2.1,?_⟩,hs.good rfl hf h.2.1,?_⟩,Int.le_refl _,rfl⟩
 ·show(qI f d.files).length<=64
  rw[g2]
  split
  ·rename_i e;rcases hl with c | c
   ·exact absurd e c
   ·omega
  ·omega
 ·show(jA (qI f d.files):Int)<=d.room
  omega
theorem aeA {d:ax} {n:Nm} (h:jB d):Keep d (aiH d n):=by
 obtain⟨i,o,hs⟩:=Df h.asc (by have:=h.fl;omega) n
 have g1:=hs.usedD
 have h1:=h.1
 have h2:=h.2.2
 have:=afb n d.files
 exact⟨⟨⟨h1.1,h1.2.1,h1.2.2.1,Nat.le_trans this h1.2.2.2⟩,af2 h.2.1,by show(jA (Gz n d.files):Int)<=d.room;omega⟩,Int.le_refl _,rfl⟩
theorem ai9 {d:ax} {n:Nm} {f:aB} (h:jB d) (hg:kV d.files n=some f):okF f/\f.name=n:=⟨h.2.1.1 f (Aa hg).1,(Aa hg).2⟩
theorem GL (p:ax×Bool):(adZ p).1=p.1:=rfl
theorem J4 {d:ax} {n:Nm} {b:List Int} (h:jB d):Keep d (o9 d n b).1:=by
 unfold o9
 by_cases h0:sD d [n]=0
 case neg=>rw[if_pos h0];exact Keep.refl h
 rw[if_neg (fun g=>g h0)]
 have hn:=(Ag.1 h0).2.2 n (List.mem_singleton.2 rfl)
 by_cases hc:d.room<(jA d.files:Int)+(b.length:Int)\/(kV d.files n=none/\64<=d.files.length)
 ·rw[if_pos hc];exact Keep.refl h
 rw[if_neg hc,GL]
 have hw:Keep d (G7 d ⟨n,((kV d.files n).getD ⟨n,[],0⟩).data++b,((kV d.files n).getD ⟨n,[],0⟩).sure⟩):=by
  have hc1:¬d.room<(jA d.files:Int)+(b.length:Int):=fun g=>hc (.inl g)
  refine Xo h ?_ ?_ ?_
  ·cases hg:kV d.files n with
   |none=>exact⟨hn,Int.le_refl _,by simp only[len,Option.getD_none];omega⟩
   |some f=>
    have hf:=(ai9 h hg).1
    exact⟨hn,hf.2.1,by have:=hf.2.2;simp only[Option.getD_some,len,List.length_append]at this ⊢; omega⟩
  ·cases hg:kV d.files n with
   |none=>simp only[SL,Option.getD_none,List.nil_append];omega
   |some f=>simp only[SL,Option.getD_some,List.length_append];omega
  ·cases hg:kV d.files n with
   |none=>right;have:¬64<=d.files.length:=fun g=>hc (.inr ⟨hg,g⟩);omega
   |some f=>left;intro e;cases e
 exact hw.trans (Ob hw.right)
theorem Xn {d:ax} {n:Nm} (h:jB d):Keep d (BA d n).1:=by
 unfold BA
 by_cases h0:sD d [n]=0
 case neg=>rw[if_pos h0];exact Keep.refl h
 rw[if_neg (fun g=>g h0)]
 have hn:=(Ag.1 h0).2.2 n (List.mem_singleton.2 rfl)
 have hk:=Ob h
 cases hg:kV d.files n with
 |none=>exact Keep.refl h
 |some f=>
  simp only
  split
  ·refine hk.trans (Xo hk.right ⟨hn,by simp only[len];omega,Int.le_refl _⟩ ?_ ?_)
   ·simp only;rw[jg,DJ,hg];simp only[SL];have:=h.2.2;omega
   ·left;simp only;rw[jg,hg];intro e;cases e
  ·exact hk
theorem RV {d:ax} {n:Nm} (h:jB d):Keep d (Ba d n).1:=by
 unfold Ba
 by_cases h0:sD d [n]=0
 case neg=>rw[if_pos h0];exact Keep.refl h
 rw[if_neg (fun g=>g h0)]
 have hk:=Ob h
 cases hg:kV d.files n with
 |none=>exact Keep.refl h
 |some f=>
  simp only
  split
  ·exact hk.trans (aeA hk.right)
  ·exact hk
theorem acz {f g:aB}:∀ {l:List aB},g∈qI f l->g=f\/g∈l
 |[],h=> .inl (List.mem_singleton.1 h)
 |k::r,h=>by
  rw[qI]at h
  split at h
  ·rcases List.mem_cons.1 h with rfl | h
   ·exact .inr (List.mem_cons_self ..)
   ·rcases acz h with e | e
    ·exact .inl e
    ·exact .inr (List.mem_cons_of_mem _ e)
  ·rcases List.mem_cons.1 h with rfl | h
   ·exact .inl rfl
   ·exact .inr (List.mem_filter.1 h).1
theorem XP {d:ax} {f:aB} (h:uU d) (hf:yg f.data):uU (G7 d f):=fun g hg=>by
 rcases acz hg with rfl | hg
 ·exact hf
 ·exact h g hg
theorem Ox {d:ax} (h:uU d):uU (fJ d).1:=fun g hg=>by rw[jg]at hg;exact h g hg
theorem aaX {d:ax} {n:Nm} {f:aB} (h:uU d) (hg:kV d.files n=some f):yg f.data:=h f (Aa hg).1
theorem Zj {d:ax} {n:Nm} {b:List Int} (h:uU d) (hb:yg b):uU (o9 d n b).1:=by
 unfold o9
 split
 ·exact h
 ·split
  ·exact h
  ·rw[GL]
   refine Ox (XP h ?_)
   cases hg:kV d.files n with
   |none=>exact hb
   |some f=>exact(aaX h hg).app hb
theorem aeh {d:ax} {n:Nm} (h:uU d):uU (BA d n).1:=by
 unfold BA
 split
 ·exact h
 ·cases hg:kV d.files n with
  |none=>exact h
  |some f=>simp only;split;exact XP (Ox h) (show yg f.data from aaX h hg);exact Ox h
def VR (p:ax×Int) (f:ax->ax×Int):ax×Int:=if p.2≠0 then p else f p.1
theorem Ur {p:ax×Int} {f:ax->ax×Int} (h:p.2≠0):VR p f=p:=if_pos h
theorem then_ok {p:ax×Int} {f:ax->ax×Int} (h:p.2=0):VR p f=f p.1:=if_neg (fun g=>g h)
theorem aey {d:ax} {p:ax×Int} {f:ax->ax×Int} (h:Keep d p.1) (hf:∀e,jB e->Keep e (f e).1):Keep d (VR p f).1:=by
 unfold VR;split
 ·exact h
 ·exact h.trans (hf _ h.right)
theorem aem {p:ax×Int} {f:ax->ax×Int} (h:uU p.1) (hf:∀e,uU e->uU (f e).1):uU (VR p f).1:=by
 unfold VR;split
 ·exact h
 ·exact hf _ h
def YN (v:Nat):Nm:=List.replicate (10 - (Ez 20 v).length) 48++Ez 20 v
def zJ (g:Int):Prop:=1<=g/\g<=1000000000
theorem aaP {v:Nat} (h:v<=1000000000):(YN v).length=10:=by
 have:=DN 20 v 10 (by omega) (by decide)
 unfold YN;rw[List.length_append,List.length_replicate];omega
theorem ZR (v:Nat):∀c∈YN v,O0 c:=by
 intro c hc
 rcases List.mem_append.1 hc with h | h
 ·rw[List.mem_replicate]at h;rw[h.2,rP];decide
 ·exact OT _ _ c h
theorem ZC {v:Nat} (h:v<=1000000000):qh (YN v)=v:=by
 unfold YN;rw[Oh,UL 20 v (by omega)]
theorem afw {c:UInt8} (h:O0 c):NC c:=by rw[rP]at h;exact .inr (.inl h)
theorem ag8 {g:Int} (h:zJ g):(fmt10 g).length<=10:=by
 have:fmt10 g=Ez 20 g.toNat:=by unfold fmt10;rw[if_neg (by have:=h.1;omega)]
 rw[this];exact DN 20 _ 10 (by unfold zJ at h;omega) (by decide)
theorem ahC {d:ax} (h:Ql d):uU d:=fun f hf=>afY (h.files.1 f hf).data
theorem adr {d:ax} (h:Ql d) (hs:d.files.length<=70/\∀f∈d.files,f.name.length<=100/\f.data.length<=70000):SK d:=
 ⟨fun f hf=>by have:=(hs.2 f hf).1;omega,h.fuse⟩
structure UpD (d:ax):Prop where
 right:jB d
 up:d.down=false
structure adK (d e:ax) (c:Int):Prop where
 code:(c=0/\e.down=false)\/(c=9/\e.down=true/\d.fuse≠ -1)
 fuse:d.fuse= -1->e.fuse= -1
 keep:Keep d e
theorem adK.up {d e:ax} {c:Int} (h:adK d e c) (hc:c=0):UpD e:=⟨h.keep.right,by rcases h.code with g | g;exact g.2;rw[hc]at g;exact absurd g.1 (by decide)⟩
theorem adK.cases {d e:ax} {c:Int} (h:adK d e c):c=0\/(c=9/\e.down=true/\d.fuse≠ -1):=h.code.imp (·.1) id
theorem UpD.first {d:ax} (h:UpD d) {ns:List Nm} (hn:∀n∈ns,rY n):sD d ns=0:=Ag.2 ⟨h.right,h.up,hn⟩
theorem adS {d:ax} (h:UpD d):((fJ d).2=true/\(fJ d).1.down=false)\/((fJ d).2=false/\(fJ d).1.down=true/\d.fuse≠ -1):=by
 have:=NK d
 have hu:=h.up
 rcases this with ⟨h0,h1,h2,h3⟩ | ⟨h1,h2,h3,h4⟩
 ·exact .inr ⟨h3,h2,by omega⟩
 ·exact .inl ⟨h4,by rw[h3,hu]⟩
theorem TV {d:ax} (h:d.fuse= -1):fJ d=(d,true):=by unfold fJ;rw[if_neg (by omega),if_pos h]
theorem Yn {d:ax} {n:Nm} {b:List Int} (h:UpD d) (hn:rY n):
 ((o9 d n b).2=6/\(o9 d n b).1=d/\(d.room<(jA d.files:Int)+(b.length:Int)\/(kV d.files n=none/\64<=d.files.length)))\/
 (adK d (o9 d n b).1 (o9 d n b).2/\(∀m,kV (o9 d n b).1.files m=if m=n then some ⟨n,((kV d.files n).getD ⟨n,[],0⟩).data++b,((kV d.files n).getD ⟨n,[],0⟩).sure⟩else kV d.files m)/\
   jA (o9 d n b).1.files=jA d.files+b.length/\(o9 d n b).1.files.length<=d.files.length+1):=by
 have hk:=J4 (n:=n) (b:=b) h.right
 have h0:=h.first (Un hn)
 unfold o9 at hk ⊢
 rw[if_neg (fun g=>g h0)]at hk ⊢
 by_cases hc:d.room<(jA d.files:Int)+(b.length:Int)\/(kV d.files n=none/\64<=d.files.length)
 ·rw[if_pos hc];exact .inl ⟨rfl,rfl,hc⟩
 rw[if_neg hc]at hk ⊢
 right
 obtain⟨i,o,hs⟩:=Df h.right.asc (by have:=h.right.fl;omega) n
 generalize hF:(⟨n,((kV d.files n).getD ⟨n,[],0⟩).data++b,((kV d.files n).getD ⟨n,[],0⟩).sure⟩:aB)=F at hk ⊢
 have hFn:F.name=n:=by rw[<-hF]
 have g1:=hs.used F hFn
 have g2:=hs.long F hFn
 have hup:(G7 d F).down=false:=h.up
 have hold:F.data.length=SL o+b.length:=by
  rw[<-hF,<-hs.get]
  cases kV d.files n<;>simp [SL]
 refine⟨⟨?_,?_,hk⟩,fun m=> ?_,?_,?_⟩
 ·have hsf:=NK (G7 d F)
  rcases hsf with ⟨q0,q1,q2,q3⟩ | ⟨q1,q2,q3,q4⟩
  ·right;unfold adZ;rw[q3];exact⟨rfl,q2,by have:d.fuse=0:=q0;omega⟩
  ·left;unfold adZ;rw[q4];exact⟨rfl,by rw[q3];exact hup⟩
 ·intro hf
  rw[GL,TV (show(G7 d F).fuse= -1 from hf)];exact hf
 ·rw[GL,jg]
  show kV (qI F d.files) m=_
  rw[get_put,hFn]
 ·rw[GL,jg]
  show jA (qI F d.files)=_
  omega
 ·rw[GL,jg]
  show(qI F d.files).length<=_
  rw[g2];split<;>omega
theorem abb {d:ax} {n:Nm} {f:aB} (h:UpD d) (hn:rY n) (hg:kV d.files n=some f):
 adK d (BA d n).1 (BA d n).2/\((BA d n).2=0->∀m,kV (BA d n).1.files m=if m=n then some ⟨n,f.data,len f.data⟩else kV d.files m)/\((BA d n).2≠0->(BA d n).1.files=d.files)/\
  jA (BA d n).1.files=jA d.files/\(BA d n).1.files.length=d.files.length:=by
 have hk:=Xn (n:=n) h.right
 have h0:=h.first (Un hn)
 unfold BA at hk ⊢
 rw[if_neg (fun g=>g h0),hg]at hk ⊢
 simp only at hk ⊢
 obtain⟨i,o,hs⟩:=Df h.right.asc (by have:=h.right.fl;omega) n
 have g1:=hs.used ⟨n,f.data,len f.data⟩ rfl
 have g2:=hs.long ⟨n,f.data,len f.data⟩ rfl
 have ho:=hs.get
 rw[hg]at ho
 subst ho
 rcases adS h with ⟨q1,q2⟩ | ⟨q1,q2,q3⟩
 ·rw[if_pos q1]at hk ⊢
  refine⟨⟨.inl ⟨rfl,q2⟩,fun hf=> ?_,hk⟩,fun _ m=> ?_,fun g=>absurd rfl g,?_,?_⟩
  ·rw[TV hf];exact hf
  ·show kV (qI _ (fJ d).1.files) m=_
   rw[jg,get_put]
  ·show jA (qI _ (fJ d).1.files)=_
   rw[jg];simp only[SL]at g1;omega
  ·show(qI _ (fJ d).1.files).length=_
   rw[jg,g2];simp
 ·rw[if_neg (by rw[q1];decide)]at hk ⊢
  refine⟨⟨.inr ⟨rfl,q2,q3⟩,fun hf=>absurd hf q3,hk⟩,fun g=>absurd g (show ¬(9:Int)=0 by decide),fun _=>jg d,?_,?_⟩
  ·rw[jg]
  ·rw[jg]
theorem adY {l:List aB} {f:aB} (h:Jy (f::l)):∀g∈l,g.name≠f.name:=fun g hg=>(Rj ((List.pairwise_cons.1 h).1 g hg)).symm
theorem get_mem {l:List aB} (h:Jy l) {f:aB} (hf:f∈l):kV l f.name=some f:=by
 induction l with
 |nil=>cases hf
 |cons g l ih=>
  rw[vS]
  rcases List.mem_cons.1 hf with rfl | hf
  ·rw[if_pos rfl]
  ·rw[if_neg (fun e=>adY h f hf e.symm)]
   exact ih (List.pairwise_cons.1 h).2 hf
def sH:Nm:=[108,111,103,46]
def lG (g:Int):Nm:=oM sH g
theorem Ko {g:Int} (h:zJ g):lG g=sH++YN g.toNat:=by
 unfold lG oM YN
 have:fmt10 g=Ez 20 g.toNat:=by unfold fmt10;rw[if_neg (by have:=h.1;omega)]
 rw[if_neg (by unfold zJ at h;omega),this,List.append_assoc]
theorem aed {g:Int} (h:¬zJ g):lG g=[]:=by
 unfold lG oM;rw[if_pos (by unfold zJ at h;omega)]
theorem XW {g:Int} (h:zJ g):(lG g).length=14:=by
 rw[Ko h,List.length_append,aaP (by unfold zJ at h;omega)];rfl
theorem QS {g:Int} (h:zJ g):oq sH (lG g)=g:=by
 have hv:g.toNat<=1000000000:=by unfold zJ at h;omega
 have e1:(lG g).take sH.length=sH:=by rw[Ko h,List.take_left]
 have e2:(lG g).drop sH.length=YN g.toNat:=by rw[Ko h,List.drop_left]
 unfold oq
 rw[e1,e2,if_pos ⟨rfl,aaP hv,ZR _,by rw[ZC hv];exact hv⟩,ZC hv]
 unfold zJ at h;omega
theorem Xc {s:Nm} (h:oq sH s≠0):zJ (oq sH s)/\s=lG (oq sH s):=by
 have hc:s.take sH.length=sH/\(s.drop sH.length).length=10/\(∀c∈s.drop sH.length,48<=c/\c<=57)/\qh (s.drop sH.length)<=1000000000:=by
  apply Classical.byContradiction
  intro g;exact h (if_neg g)
 have e:oq sH s=((qh (s.drop sH.length):Nat):Int):=if_pos hc
 obtain⟨h1,h2,h3,h4⟩:=hc
 have hg:zJ (oq sH s):=by rw[e]at h ⊢; unfold zJ;omega
 refine⟨hg,?_⟩
 rw[Ko hg,e,Int.toNat_natCast]
 have:=abd h2 h3 (Lp 10 _ h2 h3)
 unfold YN
 rw[this]
 conv=>lhs;rw[<-List.take_append_drop sH.length s,h1]
theorem EX {g:Int} (h:zJ g):rY (lG g):=by
 refine⟨?_,by rw[XW h];decide,by rw[XW h];decide⟩
 rw[Ko h]
 intro c hc
 rcases List.mem_append.1 hc with k | k
 ·have:∀c∈sH,NC c:=by decide
  exact this c k
 ·exact afw (ZR _ c k)
theorem UO (g:Int):iq g=some (lG g):=by
 refine Wq.eq ?_
 unfold iq
 rw[gJ]
 refine⟨fun h=> ?_,fun h=> ?_⟩
 ·simp only[bg,bP,dh,dB,bn,aY,dn,dG,bZ,dL,bF,bH,dJ,dO]at h
  rw[ak,aed (by unfold zJ;omega)]
 ·simp only[bg,bP,dh,dB,bn,aY,dn,dG,bZ,dL,bF,bH,dJ,dO]at h
  have hg:zJ g:=⟨by omega,by omega⟩
  have hl:=ag8 hg
  have ef:jy g 10=some (fmt10 g):=by
   unfold jy aau
   rw[aI (by rw[bg,bF,bg,bZ,bZ];unfold zJ at hg;exact⟨rfl,by omega,by omega⟩)]
  have ew:wr .i64 (aA 10 (len (fmt10 g)))=((10 - (fmt10 g).length:Nat):Int):=by
   rw[aA,dA (by simp only[len];omega) (by simp only[len];omega)];simp only[len];omega
  have er:lD [(UInt8.ofNat 48)] ((10 - (fmt10 g).length:Nat):Int)=some (List.replicate (10 - (fmt10 g).length) 48):=by
   unfold lD aag
   have e1:len [(UInt8.ofNat 48)]=1:=rfl
   rw[e1,aI (by simp only[bg,bZ,fQ,Int.one_mul];exact⟨by omega,by omega,by omega⟩),Fb,Ph];rfl
  rw[ef,au,ew,er,au,aI (lm (by simp only[len,ai,List.length_replicate];omega)),aI (lm (by simp only[len,ai,dm,List.length_append,List.length_replicate,List.length_cons,List.length_nil];omega)),ak]
  unfold lG oM
  rw[if_neg (by unfold zJ at hg;omega)];rfl
def FP (f:eX):Prop:=1<=f.epoch/\f.epoch<=1000000/\1<=f.lsn/\f.lsn<=1000000000/\1<=f.kind/\f.kind<=6
instance (f:eX):Decidable (FP f):=by unfold FP;infer_instance
def rowP:List eX->Int->Int->Prop
 |[],_,_=>True
 |f::r,n,e=>FP f/\f.lsn=n/\e<=f.epoch/\rowP r (f.lsn+1) f.epoch
instance afa:∀(l:List eX) (n e:Int),Decidable (rowP l n e)
 |[],_,_=>isTrue trivial
 |f::r,n,e=>by
  unfold rowP
  have:=afa r (f.lsn+1) f.epoch
  infer_instance
theorem Nq (f:eX):wS f=some (decide (FP f)):=by
 refine Wq.dec ?_
 unfold wS FP
 rw[ak]
 simp only[bg,bP,dh,dB,bn,aY,dn,dG,bZ,dL,bF,bH,dJ,dO]
 omega
theorem abE {l:List eX} {n e:Int} (hl:l.length<999999):I4 l n e=some (decide (rowP l n e)):=by
 refine Wq.dec ?_
 unfold I4
 refine Wq.bind (Q:=fun w=>match w with | .inl w=>w.1=false/\¬rowP l n e | .inr _=>rowP l n e)
  (nD (n:=l.length) (step:=fun v:Int×Bool×Int×Int=>wZ (len l) l v.1 v.2.1 v.2.2.1 v.2.2.2) hl (fun i x=>rowP l n e↔rowP (l.drop i) x.2.1 x.2.2) _ ?_ ?_ _ 0 (Nat.zero_le _) (by simp)) ?_
 ·rintro i ⟨q,a,b⟩ hi hx
  simp only at hx
  simp only[wZ]
  rw[aI (by rw[eP];simpa using hi),aI (inb _ i hi),bJ _ i hi,Nq,au,gJ]
  rw[List.drop_eq_getElem_cons hi,rowP]at hx
  refine⟨fun h=>(ak _).2 ⟨rfl,fun g=> ?_⟩,fun h=>(ak _).2 ⟨dZ (by omega),?_⟩⟩
  ·obtain⟨g1,g2,g3, -⟩:=hx.1 g
   simp only[bg,bP,dh,dB,bn,aY,dn,dG,bZ,dL,bF,bH,dJ,dO,decide_eq_false_iff_not]at h
   rcases h with (h | h) | h
   ·exact h g1
   ·exact h g2
   ·omega
  ·simp only[bg,bP,dh,dB,bn,aY,dn,dG,bZ,dL,bF,bH,dJ,dO,decide_eq_true_iff]at h
   obtain⟨⟨h1,h2⟩,h3⟩:=h
   have h1':=h1
   unfold FP at h1'
   have ew:wr .i64 (ai l[i].lsn 1)=l[i].lsn+1:=by rw[ai,dA (by omega) (by omega)]
   simp only
   rw[ew]
   exact hx.trans ⟨fun g=>g.2.2.2,fun g=>⟨h1,h2,h3,g⟩⟩
 ·rintro⟨q,a,b⟩ hx
  simp only[wZ]
  rw[dD (MK _),ak]
  rw[List.drop_length]at hx
  exact hx.2 trivial
 ·rintro(w | w) hw
  ·simp only[gK,ak];simp [hw.1,hw.2]
  ·simp only[gK,ak];simp only at hw;simp [hw]
def xU (w:dU):Prop:=(1<=w.epoch/\w.epoch<=1000000)/\(1<=w.next/\w.next<=1000000001)/\(0<=w.sure/\w.sure<w.next)/\w.wait.length<=32/\(w.wait.length:Int)=w.next - 1 - w.sure/\rowP w.wait (w.sure+1) 1/\
 (∀f∈w.wait,f.epoch=w.epoch)/\((w.seg=0/\w.count=0)\/(1<=w.seg/\1<=w.count/\w.count<=8/\w.seg+w.count=w.sure+1))
instance (w:dU):Decidable (xU w):=by unfold xU;infer_instance
structure yP (w:dU):Prop where
 epoch:inI w.epoch
 next:inI w.next
 sure:inI w.sure
 seg:inI w.seg
 count:inI w.count
 few:w.wait.length<999999
theorem ahi {a b c:Int} (h1:0<=c) (h2:c<=1000000000) (ha:inI a) (hb:inI b):(band (band (band (band (ile 1 a) (ile 1 b)) (ile b 8)) (ile a (wr .i64 (ai c 1)))) (ieq (wr .i64 (ai a b)) (wr .i64 (ai c 1)))=true)↔(1<=a/\1<=b/\b<=8/\a+b=c+1):=by
 have e1:wr .i64 (ai c 1)=c+1:=by rw[ai,dA (by omega) (by omega)]
 rw[e1]
 simp only[bg,bP,dh,dB,bn,aY,dn,dG,bZ,dL,bF,bH,dJ,dO,ai]
 constructor
 ·rintro⟨⟨⟨⟨g1,g2⟩,g3⟩,g4⟩,g5⟩
  rw[dA (by omega) (by omega)]at g5
  exact⟨g1,g2,g3,g5⟩
 ·rintro⟨g1,g2,g3,g4⟩
  rw[dA (by omega) (by omega)]
  exact⟨⟨⟨⟨g1,g2⟩,g3⟩,by omega⟩,g4⟩
theorem Ky {w:dU} (hw:yP w):qK w=some (decide (xU w)):=by
 obtain⟨o1,o2,o3,o4,o5,hl⟩:=hw
 refine Wq.dec ?_
 unfold qK
 rw[gJ]
 refine⟨fun h=>(ak _).2 ?_,fun h=> ?_⟩
 ·simp only[bg,bP,dh,dB,bn,aY,dn,dG,bZ,dL,bF,bH,dJ,dO]at h
  unfold xU
  constructor
  ·intro g;cases g
  ·rintro⟨g1,g2,g3, -⟩;omega
 simp only[bg,bP,dh,dB,bn,aY,dn,dG,bZ,dL,bF,bH,dJ,dO]at h
 have e1:wr .i64 (aA (wr .i64 (aA w.next 1)) w.sure)=w.next - 1 - w.sure:=by
  rw[aA,aA,dA (n:=w.next - 1) (by omega) (by omega),dA (by omega) (by omega)]
 have e2:wr .i64 (ai w.sure 1)=w.sure+1:=by rw[ai,dA (by omega) (by omega)]
 have hse:=ahi (c:=w.sure) (by omega) (by omega) o4 o5
 rw[e1,e2]
 rw[e2]at hse
 have tail:∀(A B:Bool),(A=false->B=false->((∀f∈w.wait,f.epoch=w.epoch)/\(w.wait.length<=32/\(w.wait.length:Int)=w.next - 1 - w.sure/\rowP w.wait (w.sure+1) 1)))->((A=true\/B=true)->¬((∀f∈w.wait,f.epoch=w.epoch)/\(w.wait.length<=32/\(w.wait.length:Int)=w.next - 1 - w.sure/\rowP w.wait (w.sure+1) 1)))->
  Wq (cnd (bor A B) (some false) (cnd (ieq w.seg 0) (some (ieq w.count 0)) (some (band (band (band (band (ile 1 w.seg) (ile 1 w.count)) (ile w.count 8)) (ile w.seg (w.sure+1))) (ieq (wr .i64 (ai w.seg w.count)) (w.sure+1)))))) fun b=>b=true↔xU w:=by
  intro A B h1 h2
  rw[gJ]
  refine⟨fun hc=>(ak _).2 ?_,fun hc=> ?_⟩
  ·rw[dh]at hc
   unfold xU
   constructor
   ·intro g;cases g
   ·rintro⟨-, -, -, g4,g5,g6,g7, -⟩
    exact absurd ⟨g7,g4,g5,g6⟩ (h2 hc)
  ·rw[dB]at hc
   obtain⟨k1,k2,k3,k4⟩:=h1 hc.1 hc.2
   rw[kM]
   by_cases hs:w.seg=0
   ·rw[if_pos hs,ak,bF]
    unfold xU
    constructor
    ·intro g;exact⟨by omega,by omega,by omega,k2,k3,k4,k1,.inl ⟨hs,g⟩⟩
    ·rintro⟨-, -, -, -, -, -, -, g⟩
     rcases g with g | g
     ·exact g.2
     ·omega
   ·rw[if_neg hs,ak,hse]
    unfold xU
    constructor
    ·intro g;exact⟨by omega,by omega,by omega,k2,k3,k4,k1,.inr g⟩
    ·rintro⟨-, -, -, -, -, -, -, g⟩
     rcases g with g | g
     ·exact absurd g.1 hs
     ·exact g
 by_cases hA:w.wait.length<=32/\(w.wait.length:Int)=w.next - 1 - w.sure
 case neg=>
  have hAb:bor (ilt 32 (len w.wait)) (aj (ieq (len w.wait) (w.next - 1 - w.sure)))=true:=by
   simp only[bg,bP,dh,dB,bn,aY,dn,dG,bZ,dL,bF,bH,dJ,dO,len];omega
  rw[hAb,aS,aU,au]
  simp only[um,aS,aU]
  exact tail true false (fun g=>by cases g) (fun _ g=>hA ⟨g.2.1,g.2.2.1⟩)
 have hAb:bor (ilt 32 (len w.wait)) (aj (ieq (len w.wait) (w.next - 1 - w.sure)))=false:=by
  simp only[bg,bP,dh,dB,bn,aY,dn,dG,bZ,dL,bF,bH,dJ,dO,len];omega
 rw[hAb,bC,bI,abE hl,au]
 simp only[fP]
 by_cases hr:rowP w.wait (w.sure+1) 1
 case neg=>
  rw[decide_eq_false hr]
  simp only[bC,aS,aU,um]
  exact tail true false (fun g=>by cases g) (fun _ g=>hr g.2.2.2)
 rw[decide_eq_true hr]
 simp only[aS,bC,bI,fP]
 refine Wq.bind (Q:=fun w'=>match w' with | .inl k=>0<=k/\¬∀f∈w.wait,f.epoch=w.epoch | .inr _=>∀f∈w.wait,f.epoch=w.epoch)
  (nD (n:=w.wait.length) (step:=fun v:Int×Int=>dw (len w.wait) w.wait w.epoch w.next w.sure w.seg w.count w.wait v.1 v.2) hl (fun i x=>∀f∈w.wait.take i,f.epoch=w.epoch) _ ?_ ?_ _ 0 (Nat.zero_le _) (by simp)) ?_
 ·rintro i x hi hx
  simp only[dw]
  rw[aI (by rw[eP];simpa using hi),aI (inb _ i hi),bJ _ i hi,jZ,kM]
  split
  ·rename_i g
   refine(ak _).2 ⟨dZ (by omega),?_⟩
   rw[lZ hi]
   intro f hf
   rcases List.mem_append.1 hf with c | c
   ·exact hx f c
   ·rw[List.mem_singleton.1 c];exact g
  ·rename_i g
   exact(ak _).2 ⟨by omega,fun k=>g (k _ (List.getElem_mem hi))⟩
 ·rintro x hx
  simp only[dw]
  rw[dD (MK _),ak]
  rwa[List.take_length]at hx
 ·rintro(k | k) hk
  ·simp only[gK]
   have:=tail false (ile 0 k) (fun _ g=>by rw[dL]at g;have:=hk.1;omega) (fun _ g=>hk.2 g.1)
   simpa only[fP] using this
  ·simp only[gK]
   exact tail false false (fun _ _=>⟨hk,hA.1,hA.2,hr⟩) (fun g=>by rcases g with g | g<;>cases g)
theorem agT (s:Nm):0<=oq sH s:=by unfold oq;split<;>omega
theorem O5 (s:Nm):CV s=some (oq sH s):=rfl
def zL (l:List aB):List Int:=(l.map fun f=>oq sH f.name).filter fun n=>decide (0<n)
def ah5 (d:ax):List Int:=if jB d then zL d.files else []
theorem adk (a b:List aB):zL (a++b)=zL a++zL b:=by simp [zL]
theorem ad1 (f:aB):zL [f]=if 0<oq sH f.name then [oq sH f.name]else []:=by
 unfold zL;by_cases h:0<oq sH f.name<;>simp [h]
theorem Ya (l:List aB):(zL l).length<=l.length:=by
 unfold zL;exact Nat.le_trans (List.length_filter_le ..) (by simp)
theorem TM {d:ax} (hn:nameB d):uf d=some (ah5 d):=by
 refine Wq.eq ?_
 unfold uf ah5
 rw[Dl hn,au,jZ,CS]
 by_cases hd:jB d
 case neg=>rw[if_neg hd,ak,if_neg hd]
 rw[if_pos hd,if_pos hd]
 have hl:=hd.fl
 refine Wq.bind (nD (n:=d.files.length) (step:=fun v:Int×List Int=>nT (len d.files) d.files v.1 v.2) (by omega) (fun i x=>x=zL (d.files.take i)) (fun w=>w=zL d.files) ?_ ?_ _ 0 (Nat.zero_le _) (by simp [zL])) fun w hw=>(ak _).2 hw
 ·rintro i x hi rfl
  simp only[nT]
  have h1:=Ya (d.files.take i)
  rw[List.length_take]at h1
  rw[aI (by rw[eP];simpa using hi),aI (inb _ i hi),bJ _ i hi,O5,au,Kt,aI (lm (by simp only[len,dm,List.length_append,List.length_singleton];omega)),lZ hi,adk,ad1]
  split
  ·rw[ak];exact⟨dZ (by omega),rfl⟩
  ·rw[ak];exact⟨dZ (by omega),by simp⟩
 ·rintro x rfl
  simp only[nT]
  rw[dD (MK _),ak,List.take_length]
def rJ (w:dU) (d:ax):Prop:=xU w/\jB d/\(∀f∈d.files,oq sH f.name<=w.sure)/\(w.seg=0\/∃f,kV d.files (lG w.seg)=some f/\(f.data.length:Int)=w.count*72)
theorem O6 {d:ax} (ha:Jy d.files) {g:Int} (hg:zJ g) {f:aB} (hf:f∈d.files):oq sH f.name=g↔kV d.files (lG g)=some f:=by
 constructor
 ·intro h
  have hne:oq sH f.name≠0:=by rw[h];unfold zJ at hg;omega
  have:=(Xc hne).2
  rw[h]at this
  rw[<-this]
  exact get_mem ha hf
 ·intro h
  rw[(Aa h).2,QS hg]
theorem xU.seg {w:dU} (h:xU w) (hs:w.seg≠0):zJ w.seg/\w.seg<=w.sure/\1<=w.count/\w.count<=8/\w.seg+w.count=w.sure+1:=by
 obtain⟨-, h2,h3,-, -, -, -, h8⟩:=h
 rcases h8 with h8 | h8
 ·exact absurd h8.1 hs
 ·exact⟨⟨h8.1,by omega⟩,by omega,h8.2.1,h8.2.2.1,h8.2.2.2⟩
open Classical in
theorem Vr {w:dU} {d:ax} (hw:yP w) (hn:nameB d):xR w d=some (decide (rJ w d)):=by
 refine Wq.dec ?_
 unfold xR
 rw[Ky hw,au]
 by_cases hp:xU w
 case neg=>
  rw[decide_eq_false hp]
  simp only[bC,aS,aU,au,um,bI]
  rw[ak]
  exact⟨fun g=>(by cases g),fun g=>absurd g.1 hp⟩
 rw[decide_eq_true hp,aS,bC,bI,Dl hn,au,fP,jZ,CS]
 by_cases hd:jB d
 case neg=>
  rw[if_neg hd,ak]
  exact⟨fun g=>(by cases g),fun g=>absurd g.2.1 hd⟩
 rw[if_pos hd]
 have hl:=hd.fl
 have hus:=hd.us
 have esz:∀f∈d.files,(f.data.length:Int)<=65536:=fun f hf=>by
  obtain⟨j,hj,rfl⟩:=List.mem_iff_getElem.1 hf
  have:=Il hj
  have:=O3 d.files (j+1)
  omega
 have ecnt:wr .i64 (fQ w.count 72)=w.count*72:=by
  have:=hp.2.2.2.2.2.2.2
  rw[fQ,dA (by omega) (by omega)]
 refine Wq.bind (Q:=fun x=>match x with
  |.inl b=>b=false/\¬∀f∈d.files,oq sH f.name<=w.sure
  |.inr x=>(∀f∈d.files,oq sH f.name<=w.sure)/\(x.1=true↔(w.seg=0\/∃f∈d.files,w.seg≠0/\oq sH f.name=w.seg/\(f.data.length:Int)=w.count*72)))
  (nD (n:=d.files.length) (step:=fun v:Int×Bool×Bool=>uh (len d.files) d.files w v.1 v.2.1 v.2.2) (by omega)
    (fun i x=>(∀f∈d.files.take i,oq sH f.name<=w.sure)/\(x.1=true↔(w.seg=0\/∃f∈d.files.take i,w.seg≠0/\oq sH f.name=w.seg/\(f.data.length:Int)=w.count*72))) _ ?_ ?_ _ 0 (Nat.zero_le _) ⟨by simp,by simp only[bF,List.take_zero];simp⟩) ?_
 ·rintro i ⟨v,q⟩ hi ⟨h1,h2⟩
  simp only at h2
  simp only[uh]
  have hnn:=agT d.files[i].name
  rw[aI (by rw[eP];simpa using hi),aI (inb _ i hi),bJ _ i hi,O5,au,ecnt,gJ]
  refine⟨fun hc=>(ak _).2 ⟨dZ (by omega),?_,?_⟩,fun hc=> ?_⟩
  ·simp only[bg,bP,dh,dB,bn,aY,dn,dG,bZ,dL,bF,bH,dJ,dO]at hc
   have hs:=hp.seg (by omega)
   rw[lZ hi]
   intro f hf
   rcases List.mem_append.1 hf with c | c
   ·exact h1 f c
   ·rw[List.mem_singleton.1 c];omega
  ·simp only[bg,bP,dh,dB,bn,aY,dn,dG,bZ,dL,bF,bH,dJ,dO]at hc
   have hs:=hp.seg (by omega)
   have hsz:w.seg≠0:=by omega
   simp only
   rw[bF,lZ hi]
   constructor
   ·intro g
    exact .inr ⟨d.files[i],List.mem_append_right _ (List.mem_singleton.2 rfl),hsz,hc.2,g⟩
   ·rintro(g | ⟨f,hf,-, g2,g3⟩)
    ·exact absurd g hsz
    ·have hfm:f∈d.files:=by
      rcases List.mem_append.1 hf with c | c
      ·exact List.mem_of_mem_take c
      ·rw[List.mem_singleton.1 c];exact List.getElem_mem hi
     have e1:=(O6 hd.asc hs.1 hfm).1 g2
     have e2:=(O6 hd.asc hs.1 (List.getElem_mem hi)).1 hc.2
     rw[e1]at e2
     rw[<-Option.some.inj e2];exact g3
  ·rw[gJ]
   refine⟨fun hc2=>(ak _).2 ⟨rfl,fun g=> ?_⟩,fun hc2=>(ak _).2 ⟨dZ (by omega),?_,?_⟩⟩
   ·simp only[bg,bP,dh,dB,bn,aY,dn,dG,bZ,dL,bF,bH,dJ,dO]at hc2
    have:=g _ (List.getElem_mem hi)
    omega
   ·simp only[bg,bP,dh,dB,bn,aY,dn,dG,bZ,dL,bF,bH,dJ,dO]at hc2
    rw[lZ hi]
    intro f hf
    rcases List.mem_append.1 hf with c | c
    ·exact h1 f c
    ·rw[List.mem_singleton.1 c];exact hc2
   ·simp only[bg,bP,dh,dB,bn,aY,dn,dG,bZ,dL,bF,bH,dJ,dO]at hc hc2
    simp only
    rw[h2,lZ hi]
    constructor
    ·rintro(g | ⟨f,hf,g⟩)
     ·exact .inl g
     ·exact .inr ⟨f,List.mem_append_left _ hf,g⟩
    ·rintro(g | ⟨f,hf,g1,g2,g3⟩)
     ·exact .inl g
     ·rcases List.mem_append.1 hf with c | c
      ·exact .inr ⟨f,c,g1,g2,g3⟩
      ·rw[List.mem_singleton.1 c]at g2
       have hs:=hp.seg g1
       have:=hs.1.1
       omega
 ·rintro⟨v,q⟩ ⟨h1,h2⟩
  simp only[uh]
  rw[dD (MK _),ak]
  rw[List.take_length]at h1 h2
  exact⟨h1,h2⟩
 ·rintro(x | x) hx
  ·simp only[gK,ak]
   simp only at hx
   rw[hx.1]
   exact⟨fun g=>(by cases g),fun g=>absurd g.2.2.1 hx.2⟩
  ·simp only[gK,ak]
   simp only at hx
   rw[hx.2]
   unfold rJ
   constructor
   ·rintro(g | ⟨f,hf,g1,g2,g3⟩)
    ·exact⟨hp,hd,hx.1,.inl g⟩
    ·exact⟨hp,hd,hx.1,.inr ⟨f,(O6 hd.asc (hp.seg g1).1 hf).1 g2,g3⟩⟩
   ·rintro⟨-, -, -, g | ⟨f,g1,g2⟩⟩
    ·exact .inl g
    ·by_cases hs:w.seg=0
     ·exact .inl hs
     ·exact .inr ⟨f,(Aa g1).1,hs,(O6 hd.asc (hp.seg hs).1 (Aa g1).1).2 g1,g2⟩
def Kw (f:eX):List Int:=wF 72 4++wF f.epoch 4++wF f.lsn 8++wF f.kind 4++wF f.b0 8++wF f.b1 8++wF f.b2 8++wF f.b3 8++wF f.b4 8++wF f.b5 8
def QM (f:eX):List Int:=Kw f++WV (ai4 (Kw f))
theorem Ol (f:eX):(Kw f).length=68:=by simp [Kw,uY]
theorem abT (f:eX):(QM f).length=72:=by simp [QM,Ol,WV]
theorem RP (f:eX):yg (Kw f):=by
 unfold Kw
 exact((((((((((qo _ _).app (qo _ _)).app (qo _ _)).app (qo _ _)).app (qo _ _)).app (qo _ _)).app (qo _ _)).app (qo _ _)).app (qo _ _)).app (qo _ _))
theorem aap (f:eX):yg (QM f):=(RP f).app (ab5 _)
theorem ajF (n:Int) {j:Nat} (hj:j<8):bQ .u64 n ((8*j:Nat):Int)=n / 256^j:=by
 have h2:min (((8*j:Nat):Int).toNat) (IntKind.bits .u64)=8*j:=by
  simp only[IntKind.bits,Int.toNat_natCast];omega
 unfold bQ
 rw[h2,Int.pow_mul,Int.fdiv_eq_ediv_of_nonneg _ (Int.le_of_lt (Int.pow_pos (by decide)))]
 rfl
theorem ai7 {n:Int} {i:Nat} (hi:i<8):ile 0 (wr .i64 (fQ 8 (i:Int)))=true/\wr .u8 (bQ .u64 (wr .u64 n) (wr .i64 (fQ 8 (i:Int))))=n / 256^i%256:=by
 have h1:wr .i64 (fQ 8 (i:Int))=((8*i:Nat):Int):=by
  unfold fQ
  rw[dA (by omega) (by omega)];omega
 rw[h1,ajF _ hi,afW,zo]
 exact⟨lm (by omega),afU n hi⟩
theorem afs {n:Int} {acc:List Int} (k:Nat) (hk:k<=8) (hl:acc.length<1000000):bD (fun v:Int×List Int=>aN (wr .u64 n) v.1 v.2) LF ((k:Int) - 1,acc)=some (acc++wF n k):=by
 refine Wq.eq (aiL (n:=k) (by omega) (fun i x=>x++wF n i=acc++wF n k/\x.length+i=acc.length+k) _ (fun i x hi hj=> ?_) (fun x hj=> ?_) acc ⟨rfl,rfl⟩)
 ·obtain⟨h1,h2⟩:=ai7 (n:=n) (i:=i) (by omega)
  simp only
  unfold aN
  rw[h2,aI (lm (by omega)),aI h1,aI (Yv (n:=1000100) (by simp only[dm,List.length_append,List.length_cons,List.length_nil];omega) (by decide)),ak]
  refine⟨ahx (by omega),?_,?_⟩
  ·rw[<-hj.1]
   show(x++[_])++wF n i=x++(_::wF n i)
   rw[List.append_assoc];rfl
  ·simp only[dm,List.length_append,List.length_cons,List.length_nil];omega
 ·simp only
  unfold aN
  rw[dD (JX (by omega)),ak]
  have:=hj.1
  simpa [wF] using this
theorem abA (c:Int):[wr .u8 c,wr .u8 (bQ .u32 c 8),wr .u8 (bQ .u32 c 16),wr .u8 (bQ .u32 c 24)]=WV c:=by
 have t1:wr .u8 (bQ .u32 c 8)=c / 256^1%256:=(aa9 (n:=c) (i:=1) (by decide)).2
 have t2:wr .u8 (bQ .u32 c 16)=c / 256^2%256:=(aa9 (n:=c) (i:=2) (by decide)).2
 have t3:wr .u8 (bQ .u32 c 24)=c / 256^3%256:=(aa9 (n:=c) (i:=3) (by decide)).2
 rw[t1,t2,t3,afW];rfl
theorem Ub {f:eX} (h:FP f):yV f=some (QM f,0):=by
 refine Wq.eq ?_
 unfold yV
 rw[Nq,decide_eq_true h,au,aS,aU]
 have p4:=fun(n:Int) (acc:List Int) (hl:acc.length<1000000)=>afs (n:=n) (acc:=acc) 4 (by decide) hl
 have p8:=fun(n:Int) (acc:List Int) (hl:acc.length<1000000)=>afs (n:=n) (acc:=acc) 8 (by decide) hl
 have c4:((4:Nat):Int) - 1=3:=rfl
 have c8:((8:Nat):Int) - 1=7:=rfl
 simp only[c4]at p4
 simp only[c8]at p8
 have e72:(72:Int)=wr .u64 72:=rfl
 have L1:jv=aN:=rfl
 have L2:jh=aN:=rfl
 have L3:ja=aN:=rfl
 have L4:iZ=aN:=rfl
 have L5:je=aN:=rfl
 have L6:ji=aN:=rfl
 have L7:jb=aN:=rfl
 have L8:jd=aN:=rfl
 have L9:iY=aN:=rfl
 have q72:bD (fun v:Int×List Int=>aN 72 v.1 v.2) LF (3,[])=some ([]++wF 72 4):=p4 72 [] (by simp)
 rw[L1,L2,L3,L4,L5,L6,L7,L8,L9,q72,au,p4 _ _ (by simp [uY]),au,p8 _ _ (by simp [uY]),au,p4 _ _ (by simp [uY]),au,p8 _ _ (by simp [uY]),au,p8 _ _ (by simp [uY]),au,p8 _ _ (by simp [uY]),au,p8 _ _ (by simp [uY]),au,p8 _ _ (by simp [uY]),au,p8 _ _ (by simp [uY]),au]
 have eH:[]++wF 72 4++wF f.epoch 4++wF f.lsn 8++wF f.kind 4++wF f.b0 8++wF f.b1 8++wF f.b2 8++wF f.b3 8++wF f.b4 8++wF f.b5 8=Kw f:=by unfold Kw;rw[List.nil_append]
 rw[eH,adp (by rw[Ol];decide) (RP f),au,abA,aI (Yv (n:=1000) (by simp [dm,Ol,WV]) (by decide)),ak]
 rfl
def rowB (l:List eX):List Int:=l.flatMap QM
theorem Uh (l:List eX):(rowB l).length=72*l.length:=flat_length abT l
theorem ad5 (l:List eX):yg (rowB l):=abK fun x _=>aap x
theorem afZ (a b:List eX):rowB (a++b)=rowB a++rowB b:=by simp [rowB]
theorem abZ {l:List eX} (hl:l.length<1000) (h:∀f∈l,FP f):uO l=some (rowB l,0):=by
 refine Wq.eq ?_
 unfold uO
 refine Wq.bind (Q:=fun w=>match w with | .inl _=>False | .inr w=>w.1=rowB l)
  (nD (n:=l.length) (step:=fun v:Int×List Int×Int×List Int=>wL (len l) l v.1 v.2.1 v.2.2.1 v.2.2.2) (by omega) (fun i x=>x.1=rowB (l.take i)) _ ?_ ?_ _ 0 (Nat.zero_le _) (by simp [rowB])) ?_
 ·rintro i ⟨b,e,z⟩ hi hx
  simp only at hx
  subst hx
  simp only[wL]
  have hbl:=Uh (l.take (i+1))
  rw[List.length_take]at hbl
  rw[aI (by rw[eP];simpa using hi),aI (inb _ i hi),bJ _ i hi,Ub (h _ (List.getElem_mem hi)),au]
  have eb:dm (rowB (l.take i)) (QM l[i])=rowB (l.take (i+1)):=by rw[lZ hi,afZ];simp [dm,rowB]
  simp only[nM,aS,aU]
  rw[eb,aI (Yv (n:=72000) (by omega) (by decide)),ak]
  exact⟨dZ (by omega),rfl⟩
 ·rintro⟨b,e,z⟩ hx
  simp only at hx
  simp only[wL]
  rw[dD (MK _),ak]
  rwa[List.take_length]at hx
 ·rintro(w | w) hw
  ·exact hw.elim
  ·simp only[gK,ak];simp only at hw;rw[hw]
def wX (w:dU):Int×Int:=if w.seg=0\/w.count=8 then (w.sure+1,0)else (w.seg,w.count)
def kW (w:dU):Nat:=min w.wait.length (8 - (wX w).2).toNat
def ve (w:dU):dU:=⟨w.epoch,w.next,w.sure+(kW w:Int),(wX w).1,(wX w).2+(kW w:Int),w.wait.drop (kW w)⟩
def writeW (w:dU) (d:ax):ax×Int:=VR (o9 d (lG (wX w).1) (rowB (w.wait.take (kW w)))) fun d=>BA d (lG (wX w).1)
def sN:Nat->dU->ax->dU×ax×Int
 |0,w,d=>(w,d,0)
 |k+1,w,d=>if w.wait=[]then (w,d,0)else if (writeW w d).2≠0 then (w,(writeW w d).1,(writeW w d).2)else sN k (ve w) (writeW w d).1
open Classical in
noncomputable def jr (w:dU) (d:ax):dU×ax×Int:=if rJ w d then sN 40 w d else (w,d,1)
theorem aae:∀ {l:List eX} {n e:Int},rowP l n e->∀f∈l,FP f
 |[],_,_,_,f,hf=>by cases hf
 |g::l,n,e,h,f,hf=>by
  unfold rowP at h
  rcases List.mem_cons.1 hf with rfl | hf
  ·exact h.1
  ·exact aae h.2.2.2 f hf
theorem XY:∀ {l:List eX} {n e:Int} (k:Nat),k<=l.length->rowP l n e->rowP (l.drop k) (n+k) 1
 |l,n,e,0,_,h=>by
  rw[List.drop_zero,Int.natCast_zero,Int.add_zero]
  cases l with
  |nil=>trivial
  |cons f r=>unfold rowP at h ⊢; exact⟨h.1,h.2.1,h.1.1,h.2.2.2⟩
 |[],n,e,k+1,hk,h=>by simp at hk
 |f::r,n,e,k+1,hk,h=>by
  unfold rowP at h
  rw[List.drop_succ_cons]
  have:=XY k (by simp at hk;omega) h.2.2.2
  rw[show n+((k+1:Nat):Int)=f.lsn+1+(k:Int) by rw[h.2.1];omega]
  exact this
theorem PU {w:dU} (hw:xU w) (hne:w.wait≠[]):zJ (wX w).1/\0<=(wX w).2/\(wX w).2<=7/\(wX w).1+(wX w).2=w.sure+1:=by
 obtain⟨h1,h2,h3,h4,h5,h6,h7,h8⟩:=hw
 have hl:0<w.wait.length:=List.length_pos_iff.2 hne
 unfold wX zJ
 split
 ·simp only;omega
 ·rename_i h
  simp only
  rcases h8 with h8 | h8<;>omega
theorem KN {w:dU} (hw:xU w) (hne:w.wait≠[]):1<=kW w/\kW w<=w.wait.length/\(kW w:Int)<=8 - (wX w).2/\(kW w:Int)=eU (len w.wait) (8 - (wX w).2):=by
 obtain⟨-, g1,g2, -⟩:=PU hw hne
 have hl:0<w.wait.length:=List.length_pos_iff.2 hne
 have hl2:len w.wait=(w.wait.length:Int):=rfl
 rw[agS]
 unfold kW
 refine⟨by omega,by omega,by omega,?_⟩
 by_cases h:8 - (wX w).2<len w.wait
 ·rw[if_pos h];omega
 ·rw[if_neg h];omega
theorem VA {w:dU} (hw:xU w) (hne:w.wait≠[]):xU (ve w):=by
 obtain⟨g0,g1,g2,g3⟩:=PU hw hne
 obtain⟨t1,t2,t3, -⟩:=KN hw hne
 obtain⟨h1,h2,h3,h4,h5,h6,h7,h8⟩:=hw
 unfold zJ at g0
 have hr:=XY (kW w) t2 h6
 refine⟨h1,h2,⟨?_,?_⟩,?_,?_,?_,?_,.inr ⟨g0.1,?_,?_,?_⟩⟩
 ·simp only[ve];omega
 ·simp only[ve];omega
 ·simp only[ve,List.length_drop];omega
 ·simp only[ve,List.length_drop];omega
 ·simp only[ve]
  rw[show w.sure+(kW w:Int)+1=w.sure+1+(kW w:Int) by omega]
  exact hr
 ·intro f hf
  exact h7 f (List.mem_of_mem_drop hf)
 ·simp only[ve];omega
 ·simp only[ve];omega
 ·simp only[ve];omega
theorem RG {w:dU} {d:ax} (h:jB d):Keep d (writeW w d).1:=aey (J4 h) fun e he=>Xn he
theorem Zl {w:dU} {d:ax} (h:uU d):uU (writeW w d).1:=aem (Zj h (ad5 _)) fun e he=>aeh he
theorem Xy {l:List eX} (h:l.length<1000000):bU l=some l:=by unfold bU;exact pV h
abbrev CmR:=(Int×ax×dU×ax×dU) ⊕ ((Int×ax×dU×ax×dU) ⊕ (Int×ax×dU×ax×dU))
theorem afG {w:dU} {d:ax} (hw:xU w) (hne:w.wait≠[]) (hd:SK d) (hdp:jB d) (v0:Int) (v1:ax) (v2:dU) {N S C T:Int} (hN:N=(kW w:Int)) (hS:S=(wX w).1) (hC:C=(wX w).2+(kW w:Int)) (hT:T=w.sure+(kW w:Int)):
 Wq (cnd (band (ile 0 N) (ile N (len w.wait))) (af (uO (ay w.wait (itn N))) fun y0=>af (iq S) fun y1=>af (iD d y1 y0.1) fun y2=>cnd (ieq y2.2 0) (af (iq S) fun y3=>af (iU y2.1 y3) fun y4=>cnd (aj (ieq y4.2 0)) (some (Sum.inr (Sum.inl (y4.2,y4.1,w,y4.1,w)))) (cnd (band (ile 0 N) (ile N (len w.wait))) (af (bU (aF w.wait (itn N))) fun y5=>some (Sum.inl (v0,v1,v2,y4.1,dU.mk w.epoch w.next T S C y5))) none)) (cnd (aj (ieq y2.2 0)) (some (Sum.inr (Sum.inl (y2.2,y2.1,w,y2.1,w)))) (cnd (band (ile 0 N) (ile N (len w.wait))) (af (bU (aF w.wait (itn N))) fun y6=>some (Sum.inl (v0,v1,v2,y2.1,dU.mk w.epoch w.next T S C y6))) none))) none)
  fun x:CmR=>x=if (writeW w d).2≠0 then Sum.inr (Sum.inl ((writeW w d).2,(writeW w d).1,w,(writeW w d).1,w))else Sum.inl (v0,v1,v2,(writeW w d).1,ve w):=by
 obtain⟨g0,g1,g2,g3⟩:=PU hw hne
 obtain⟨t1,t2,t3, -⟩:=KN hw hne
 subst hN hS hC hT
 have hin:band (ile 0 (kW w:Int)) (ile (kW w:Int) (len w.wait))=true:=Gu (lm (by omega)) (lm (by simp only[len];omega))
 have hfr:=aae hw.2.2.2.2.2.1
 have hlen:=hw.2.2.2.1
 have hn:=EX g0
 rw[Fb,aI hin,show ay w.wait (kW w)=w.wait.take (kW w)from rfl,abZ (by rw[List.length_take];omega) (fun f hf=>hfr f (List.mem_of_mem_take hf)),au,UO]
 change Wq (af (some (lG (wX w).1)) _) _
 have hbl:=Uh (w.wait.take (kW w))
 rw[List.length_take]at hbl
 rw[au,afz hd hn.len (by simp only;omega),au,kM]
 unfold writeW
 simp only
 by_cases h0:(o9 d (lG (wX w).1) (rowB (w.wait.take (kW w)))).2=0
 ·have hk:=J4 (n:=lG (wX w).1) (b:=rowB (w.wait.take (kW w))) hdp
  rw[if_pos h0,au,aiU (hk.bnd hd.fu) hn.len,au,jZ,kM,then_ok h0]
  by_cases h1:(BA (o9 d (lG (wX w).1) (rowB (w.wait.take (kW w)))).1 (lG (wX w).1)).2=0
  ·rw[if_pos h1,aI hin,show aF w.wait (kW w)=w.wait.drop (kW w)from rfl,Xy (by rw[List.length_drop];omega),au,ak,if_neg (fun g=>g h1)]
   rfl
  ·rw[if_neg h1,ak,if_pos h1]
 ·rw[if_neg h0,jZ,kM,if_neg h0,ak,Ur h0,if_pos h0]
theorem acp {w:dU} (h:xU w):yP w:=by
 obtain⟨h1,h2,h3,h4,h5,h6,h7,h8⟩:=h
 refine⟨⟨by omega,by omega⟩,⟨by omega,by omega⟩,⟨by omega,by omega⟩,?_,?_,by omega⟩<;>unfold inI<;>rcases h8 with h8 | h8<;>omega
theorem abq (k:Nat) {w:dU} {d:ax} (h:w.wait=[]):sN k w d=(w,d,0):=by
 cases k with
 |zero=>rfl
 |succ k=>rw[sN,if_pos h]
theorem Yy {w:dU} {d:ax} (hw:yP w) (hd:SK d):vI w d=some (jr w d):=by
 classical
 refine Wq.eq ?_
 unfold vI jr
 rw[Vr hw hd.nm,au,jZ,CS]
 by_cases hf:rJ w d
 case neg=>rw[if_neg hf,ak,if_neg hf]
 rw[if_pos hf,if_pos hf]
 refine Wq.bind (Q:=fun x:(Int×ax×dU×ax×dU) ⊕ (Int×ax×dU×ax×dU)=>match x with
  |.inl x=>sN 40 w d=(x.2.2.1,x.2.1,x.1)
  |.inr x=>sN 40 w d=(x.2.2.2.2,x.2.2.2.1,0))
  (Vo (step:=fun v:Int×ax×dU×ax×dU=>oG v.1 v.2.1 v.2.2.1 v.2.2.2.1 v.2.2.2.2)
    (fun v=>v.2.2.2.2.wait.length)
    (fun v=>xU v.2.2.2.2/\jB v.2.2.2.1/\inI v.2.2.2.1.fuse/\∃k,v.2.2.2.2.wait.length<=k/\sN 40 w d=sN k v.2.2.2.2 v.2.2.2.1) _ ?_ LF _ (ZH (by have:=hf.1.2.2.2.1;simp only;omega)) ⟨hf.1,hf.2.1,hd.fu,40,by have:=hf.1.2.2.2.1;simp only;omega,rfl⟩) ?_
 ·rintro⟨v0,v1,v2,e,u⟩ ⟨hu,he,hfu,k,hk,hkk⟩
  simp only at hu he hfu hk hkk
  simp only[oG]
  rw[Kt]
  by_cases hz:0<len u.wait
  case neg=>
   have hnil:u.wait=[]:=List.eq_nil_of_length_eq_zero (by simp only[len]at hz;omega)
   rw[if_neg hz,ak]
   simp only
   rw[hkk,abq k hnil]
  have hne:u.wait≠[]:=fun h=>by rw[h]at hz;simp [len]at hz
  rw[if_pos hz]
  obtain⟨s0,s1,s2,s3⟩:=PU hu hne
  obtain⟨t1,t2,t3,t4⟩:=KN hu hne
  have hsure:=hu.2.2.1
  have hnx:=hu.2.1
  have e1:wr .i64 (ai u.sure 1)=u.sure+1:=by rw[ai,dA (by omega) (by omega)]
  obtain⟨k,rfl⟩:∃j,k=j+1:=⟨k - 1,by have:=List.length_pos_iff.2 hne;omega⟩
  have hk2:sN (k+1) u e=if (writeW u e).2≠0 then (u,(writeW u e).1,(writeW u e).2)else sN k (ve u) (writeW u e).1:=by rw[sN,if_neg hne]
  rw[hk2]at hkk
  have hkw:=RG (w:=u) he
  rw[gJ]
  refine⟨fun hc=> ?_,fun hc=> ?_⟩
  ·have hseg:wX u=(u.sure+1,0):=by unfold wX;simp only[bg,bP,dh,dB,bn,aY,dn,dG,bZ,dL,bF,bH,dJ,dO]at hc;rw[if_pos hc]
   rw[hseg]at t3 t4 s0 s3
   have e8:eU (len u.wait) 8=(kW u:Int):=by rw[t4];rfl
   rw[e8,e1]
   have e9:wr .i64 (ai u.sure (kW u:Int))=u.sure+(kW u:Int):=by rw[ai,dA (by omega) (by omega)]
   have e10:wr .i64 (ai 0 (kW u:Int))=(kW u:Int):=by rw[ai,dA (by omega) (by omega)];omega
   rw[e9,e10]
   refine(afG hu hne (he.bnd hfu) he v0 v1 v2 rfl (by rw[hseg]) (by rw[hseg];simp) rfl).mono fun x hx=> ?_
   rw[hx]
   by_cases hwz:(writeW u e).2≠0
   ·rw[if_pos hwz]at hkk ⊢
    exact hkk
   ·rw[if_neg hwz]at hkk ⊢
    exact⟨⟨VA hu hne,hkw.right,(hkw.bnd hfu).fu,k,by simp only[ve,List.length_drop];omega,hkk⟩,by simp only[ve,List.length_drop];omega⟩
  ·have hseg:wX u=(u.seg,u.count):=by unfold wX;simp only[bg,bP,dh,dB,bn,aY,dn,dG,bZ,dL,bF,bH,dJ,dO]at hc;rw[if_neg (by omega)]
   rw[hseg]at t3 t4 s0 s1 s2 s3
   simp only at s1 s2
   have e8:wr .i64 (aA 8 u.count)=8 - u.count:=by rw[aA,dA (by omega) (by omega)]
   have e8':eU (len u.wait) (8 - u.count)=(kW u:Int):=by rw[t4]
   rw[e8,e8']
   have e9:wr .i64 (ai u.sure (kW u:Int))=u.sure+(kW u:Int):=by rw[ai,dA (by omega) (by omega)]
   have e10:wr .i64 (ai u.count (kW u:Int))=u.count+(kW u:Int):=by rw[ai,dA (by omega) (by omega)]
   rw[e9,e10]
   refine(afG hu hne (he.bnd hfu) he v0 v1 v2 rfl (by rw[hseg]) (by rw[hseg]) rfl).mono fun x hx=> ?_
   rw[hx]
   by_cases hwz:(writeW u e).2≠0
   ·rw[if_pos hwz]at hkk ⊢
    exact hkk
   ·rw[if_neg hwz]at hkk ⊢
    exact⟨⟨VA hu hne,hkw.right,(hkw.bnd hfu).fu,k,by simp only[ve,List.length_drop];omega,hkk⟩,by simp only[ve,List.length_drop];omega⟩
 ·rintro(x | x) hx
  ·simp only[gK,ak];simp only at hx;exact hx.symm
  ·simp only[gK,ak];simp only at hx;exact hx.symm
open Classical in
noncomputable def Ri (w:dU) (k:Int) (b:SA6):dU×Int:=
 if ¬xU w\/k<1\/6<k then (w,1)else if 1000000000<w.next then (w,3)else if w.wait.length=32 then (w,6)
 else (⟨w.epoch,w.next+1,w.sure,w.seg,w.count,w.wait++[⟨w.epoch,w.next,k,b.a0,b.a1,b.a2,b.a3,b.a4,b.a5⟩]⟩,0)
theorem aeg {w:dU} {k:Int} {b:SA6} (hw:yP w):Du w k b=some (Ri w k b):=by
 refine Wq.eq ?_
 unfold Du Ri
 rw[Ky hw,au,jZ,CS]
 by_cases hp:xU w
 case neg=>rw[if_neg hp,jZ,CS,if_neg hp,ak,if_pos (.inl hp)]
 rw[if_pos hp,Kt k 1,Kt k 1]
 by_cases h1:k<1
 ·rw[if_pos h1,if_pos h1,ak,if_pos (.inr (.inl h1))]
 rw[if_neg h1,Kt 6 k]
 by_cases h6:6<k
 ·rw[if_pos h6,ak,if_pos (.inr (.inr h6))]
 rw[if_neg h6,if_neg (fun g=>by rcases g with g | g | g;exact g hp;exact h1 g;exact h6 g),Kt,kM]
 by_cases hn:1000000000<w.next
 ·rw[if_pos hn,ak,if_pos hn]
 rw[if_neg hn,if_neg hn]
 have hlen:=hp.2.2.2.1
 have hnx:=hp.2.1
 by_cases hl:w.wait.length=32
 ·rw[if_pos (by simp only[len];omega),ak,if_pos hl]
 ·rw[if_neg (by simp only[len];omega),Xy (by omega),au,aI (Yv (n:=100) (by simp [dm];omega) (by decide)),ak,if_neg hl,ai,dA (by omega) (by omega)];rfl
def acP (w:dU):List Int->Int
 |[]=>w.sure
 |m::_=>m - 1
def CG (w:dU) (lsn:Int):List Int->ax->ax×Int
 |[],d=>(d,0)
 |n::r,d=>if n=w.seg then CG w lsn r d else if lsn<acP w r then (d,0)else if (Ba d (lG n)).2≠0 then Ba d (lG n)else CG w lsn r (Ba d (lG n)).1
open Classical in
noncomputable def agf (w:dU) (d:ax) (lsn:Int):ax×Int:=if rJ w d then CG w lsn (zL d.files) d else (d,1)
theorem ZP {d:ax}:∀n∈zL d.files,zJ n:=fun n hn=>by
 obtain⟨h1,h2⟩:=List.mem_filter.1 hn
 obtain⟨f,hf,rfl⟩:=List.mem_map.1 h1
 exact(Xc (by simp at h2;omega)).1
theorem abO {w:dU} {d:ax} {lsn:Int} (hw:yP w) (hd:SK d):xP w d lsn=some (agf w d lsn):=by
 classical
 refine Wq.eq ?_
 unfold xP agf
 rw[Vr hw hd.nm,au,jZ,CS]
 by_cases hf:rJ w d
 case neg=>rw[if_neg hf,ak,if_neg hf]
 rw[if_pos hf,if_pos hf,TM hd.nm,au,show ah5 d=zL d.files by unfold ah5;rw[if_pos hf.2.1]]
 have hsl:=Ya d.files
 have hfl:=hf.2.1.fl
 have hgen:=ZP (d:=d)
 have hsure:=hf.1.2.2.1
 generalize zL d.files=L at hsl hgen ⊢
 refine Wq.bind (Q:=fun x=>match x with
  |.inl x=>CG w lsn L d=(x.2.2,0)
  |.inr x=>CG w lsn L d=(x.2.1,x.1))
  (nD (n:=L.length) (step:=fun v:Int×Int×ax×ax=>nS (len L) lsn L L w v.1 v.2.1 v.2.2.1 v.2.2.2) (by omega)
    (fun i x=>CG w lsn L d=CG w lsn (L.drop i) x.2.2/\jB x.2.2/\inI x.2.2.fuse) _ ?_ ?_ _ 0 (Nat.zero_le _) ⟨by simp,hf.2.1,hd.fu⟩) ?_
 ·rintro i ⟨a,z,e⟩ hi ⟨h1,h2,h3⟩
  simp only at h1 h2 h3
  simp only[nS]
  rw[List.drop_eq_getElem_cons hi,CG]at h1
  have hg:=hgen _ (List.getElem_mem hi)
  have hn:=EX hg
  rw[aI (by rw[eP];simpa using hi),aI (inb _ i hi),bJ _ i hi,dZ (by omega),Kt,kM,kM]
  have rem:∀last:Int,acP w (L.drop (i+1))=last->L[i]≠w.seg->
   Wq (cnd (ilt lsn last) (some (Sum.inr (Sum.inl (a,z,e)))) (af (iq L[i]) fun y0=>af (kE e y0) fun y1=>cnd (aj (ieq y1.2 0)) (some (Sum.inr (Sum.inr (y1.2,y1.1,y1.1)))) (some (Sum.inl (((i+1:Nat):Int),a,z,y1.1)))))
   fun r:(Int×Int×ax×ax) ⊕ ((Int×ax×ax) ⊕ (Int×ax×ax))=>match r with
    |.inl (k,x')=>k=((i+1:Nat):Int)/\CG w lsn L d=CG w lsn (L.drop (i+1)) x'.2.2/\jB x'.2.2/\inI x'.2.2.fuse
    |.inr w'=>match w' with | .inl x=>CG w lsn L d=(x.2.2,0) | .inr x=>CG w lsn L d=(x.2.1,x.1):=by
   intro last hlast hseg
   rw[if_neg hseg,hlast]at h1
   rw[Kt]
   by_cases hlt:lsn<last
   ·rw[if_pos hlt]at h1 ⊢
    rw[ak];exact h1
   ·rw[if_neg hlt]at h1 ⊢
    rw[UO]
    change Wq (af (some (lG L[i])) _) _
    rw[au,aeS (h2.bnd h3) hn.len,au,jZ,kM]
    by_cases h0:(Ba e (lG L[i])).2=0
    ·rw[if_pos h0,ak]
     rw[if_neg (fun g=>g h0)]at h1
     have hk:=RV (n:=lG L[i]) h2
     exact⟨rfl,h1,hk.right,(hk.bnd h3).fu⟩
    ·rw[if_neg h0,ak]
     rw[if_pos h0]at h1
     exact h1
  by_cases hnx:((i+1:Nat):Int)<len L
  ·have hi1:i+1<L.length:=by simp only[len]at hnx;omega
   have hg1:=hgen _ (List.getElem_mem hi1)
   unfold zJ at hg1
   rw[if_pos hnx,aI (inb _ _ hi1),bJ _ _ hi1,aA,dA (by omega) (by omega)]
   by_cases hseg:L[i]=w.seg
   ·rw[if_pos hseg]at h1 ⊢
    rw[ak];exact⟨rfl,h1,h2,h3⟩
   ·rw[if_neg hseg]
    refine(rem (L[i+1] - 1) (by rw[List.drop_eq_getElem_cons hi1,acP]) hseg).mono fun r hr=> ?_
    match r,hr with
    |.inl (k,x'),hr=>exact hr
    |.inr (.inl x),hr=>exact hr
    |.inr (.inr x),hr=>exact hr
  ·rw[if_neg hnx]
   by_cases hseg:L[i]=w.seg
   ·rw[if_pos hseg]at h1 ⊢
    rw[ak];exact⟨rfl,h1,h2,h3⟩
   ·rw[if_neg hseg]
    refine(rem w.sure (by rw[List.drop_eq_nil_of_le (by simp only[len]at hnx;omega),acP]) hseg).mono fun r hr=> ?_
    match r,hr with
    |.inl (k,x'),hr=>exact hr
    |.inr (.inl x),hr=>exact hr
    |.inr (.inr x),hr=>exact hr
 ·rintro⟨a,z,e⟩ ⟨h1,h2,h3⟩
  simp only at h1
  simp only[nS]
  rw[dD (MK _),ak]
  rw[List.drop_length]at h1
  exact h1
 ·rintro(x | x) hx
  ·simp only[gK,ak];simp only at hx;exact hx.symm
  ·simp only[gK,ak];simp only at hx;exact hx.symm
def upP (g:aW):Prop:=(g.up=true/\g.disk.down=false/\rJ g.wal g.disk)\/(g.up=false/\g.disk.down=true/\g.outbox=[]/\g.feed.held=[]/\g.feed.gap=false)
def yF (g:aW):Prop:=jB g.disk/\kN g.state/\xU g.wal/\g.state.lsn+1=g.wal.next/\Gj g.outbox g.wal.sure g.state.lsn/\XK g.feed (g.state.seq+1)/\(∀n∈g.feed.held,vN (pI n))/\(0<=g.gen/\g.gen<=1000000000)/\upP g
noncomputable instance (g:aW):Decidable (yF g):=Classical.propDecidable _
structure SG (g:aW):Prop where
 st:jS g.state
 sh:uz g.state
 wal:yP g.wal
 wl:g.wal.wait.length<=40
 bnd:SK g.disk
 byte:uU g.disk
 fl:g.disk.files.length<=70
 ol:g.outbox.length<=9999
 hl:g.feed.held.length<=200
 ok:∀n∈g.feed.held,ql n
 gen:inI g.gen
theorem QY (w:dU) (lsn:Int):∀(l:List Int) (d:ax),jB d->(∀n∈l,zJ n)->(CG w lsn l d).2≠1
 |[],d,hd,_=>by rw[CG];simp
 |n::r,d,hd,hg=>by
  have hk:=RV (n:=lG n) hd
  have h1:(Ba d (lG n)).2≠1:=by
   unfold Ba
   split
   ·rename_i h
    unfold sD at h ⊢
    rw[if_neg (fun g=>g hd)]at h ⊢
    split at h
    ·rename_i h2;simp [h2]
    ·rename_i h2
     rw[if_pos (by intro m hm;rw[List.mem_singleton.1 hm];exact EX (hg n (by simp)))]at h
     exact absurd rfl h
   ·split
    ·simp
    ·split<;>simp
  rw[CG]
  split
  ·exact QY w lsn r d hd fun m hm=>hg m (by simp [hm])
  split
  ·simp
  split
  ·exact h1
  ·exact QY w lsn r _ hk.right fun m hm=>hg m (by simp [hm])
open Classical in
theorem aah {w:dU} {d:ax} (hw:yP w) (hd:SK d):ng w d=some (decide (rJ w d)):=by
 unfold ng
 rw[abO hw hd,au]
 unfold agf
 by_cases h:rJ w d
 ·rw[if_pos h]
  have:=QY w 0 (zL d.files) d h.2.1 ZP
  rw[show ieq (CG w 0 (zL d.files) d).2 1=false by rw[bH];exact this]
  simp [h,aj]
 ·rw[if_neg h];simp [h,ieq,aj]
theorem ah7 (l:List fE) (hl:l.length<999999):Wq (bD (fun v:Int×Int=>bV (len l) l v.1 v.2) LF (0,0)) fun w=>match w with
 |.inl k=>0<=k/\¬∀n∈l,vN (pI n)
 |.inr _=>∀n∈l,vN (pI n):=by
 refine nD (n:=l.length) hl (fun i _=>∀n∈l.take i,vN (pI n)) _ (fun i q hi hj=> ?_) (fun q hj=> ?_) _ 0 (Nat.zero_le _) (fun n hn=>by simp at hn)
 ·simp only[bV]
  rw[aI (by rw[eP];simpa using hi),aI (inb l i hi),bJ _ i hi,show mP l[i]=some (pI l[i])from rfl,au]
  refine(uJ _).bind fun b hb=> ?_
  rw[gJ,ak,ak]
  refine⟨fun h=>⟨by omega,fun g=> ?_⟩,fun h=>⟨dZ (by omega),fun n hn=> ?_⟩⟩
  ·rw[bn]at h;subst h
   have:=hb.2 (g _ (List.getElem_mem hi));cases this
  ·rw[aY]at h
   rcases(A7 hi).1 hn with h1 | rfl
   ·exact hj n h1
   ·exact hb.1 h
 ·simp only[bV]
  rw[dD (by rw[show((l.length:Nat):Int)=len l from rfl];simp [ilt]),ak]
  rw[List.take_length]at hj
  exact hj
theorem ahJ (g:aW):kQ g=some (decide (g.outbox=[]/\g.feed.held=[]/\g.feed.gap=false)):=by
 unfold kQ
 congr 1
 rw[Bool.eq_iff_iff]
 simp only[bg,bP,dh,dB,bn,aY,dn,dG,bZ,dL,bF,bH,dJ,dO,decide_eq_true_eq,len]
 constructor
 ·rintro⟨⟨h1,h2⟩,h3⟩
  exact⟨List.eq_nil_of_length_eq_zero (by omega),List.eq_nil_of_length_eq_zero (by omega),h3⟩
 ·rintro⟨h1,h2,h3⟩
  rw[h1,h2];exact⟨⟨rfl,rfl⟩,h3⟩
theorem aeo {g:aW} (hg:SG g):Wq (af (cnd (band (band (band (ile 0 g.gen) (ile g.gen 1000000000)) (aj (beq g.up g.disk.down))) g.up) (ng g.wal g.disk) (some false)) fun y7=>af (cnd (band (band (band (band (ile 0 g.gen) (ile g.gen 1000000000)) (aj (beq g.up g.disk.down))) (aj (band g.up y7))) (aj g.up)) (kQ g) (some false)) fun y8=>some (band (band (band (ile 0 g.gen) (ile g.gen 1000000000)) (aj (beq g.up g.disk.down))) (bor (band g.up y7) (band (aj g.up) y8)))) fun b=>b=true↔((0<=g.gen/\g.gen<=1000000000)/\upP g):=by
 classical
 obtain⟨q,hq1,hq2⟩:∃q:Bool,kQ g=some q/\(q=true↔(g.outbox=[]/\g.feed.held=[]/\g.feed.gap=false)):=⟨_,ahJ g,decide_eq_true_iff⟩
 obtain⟨f,hf1,hf2⟩:∃f:Bool,ng g.wal g.disk=some f/\(f=true↔rJ g.wal g.disk):=⟨_,aah hg.wal hg.bnd,decide_eq_true_iff⟩
 unfold upP
 rw[hq1,hf1,<-hq2,<-hf2]
 by_cases hG:0<=g.gen/\g.gen<=1000000000
 ·have e1:band (ile 0 g.gen) (ile g.gen 1000000000)=true:=by simp only[bg,bP,dh,dB,bn,aY,dn,dG,bZ,dL,bF,bH,dJ,dO];exact hG
  rw[e1]
  cases hu:g.up<;>cases hd:g.disk.down<;>cases f<;>cases q<;>simp [hG,cnd,band,bor,aj,beq,au,ak]
 ·have e1:band (ile 0 g.gen) (ile g.gen 1000000000)=false:=by simp only[bg,bP,dh,dB,bn,aY,dn,dG,bZ,dL,bF,bH,dJ,dO];omega
  rw[e1]
  simp only[show ∀x,band false x=false from fun x=>rfl,aU,au,ak]
  exact⟨fun h=>(by cases h),fun h=>absurd h.1 hG⟩
theorem acn {a b:Int} (hb:1<=b/\b<=1000000001):(a=wr .i64 (aA b 1))↔a+1=b:=by
 rw[aA,dA (by omega) (by omega)];omega
theorem Y6 {g:aW} (hg:SG g):qZ g=some (decide (yF g)):=by
 classical
 refine Wq.dec ?_
 unfold qZ yF
 rw[Dl hg.bnd.nm,au]
 by_cases h1:jB g.disk
 case neg=>
  rw[decide_eq_false h1]
  simp only[bC,aS,um,fP,bI,aU,au,show ∀x,bor true x=true from fun x=>rfl]
  rw[ak];exact⟨fun h=>(by cases h),fun h=>absurd h.1 h1⟩
 rw[decide_eq_true h1]
 simp only[aS,bC,bI]
 refine(Qp g.state hg.st hg.sh.1 hg.sh.2.2.1 hg.sh.2.2.2).bind fun b hb=> ?_
 cases b with
 |false=>
  have:¬kN g.state:=fun h=>by have:=hb.2 h;cases this
  simp only[bC,aS,um,fP,bI,aU,au,show ∀x,bor true x=true from fun x=>rfl,show ∀x,bor false x=x from fun x=>rfl]
  rw[ak];exact⟨fun h=>(by cases h),fun h=>absurd h.2.1 this⟩
 |true=>
 have hR:=hb.1 rfl
 simp only[aS,bC,fP,bI]
 rw[Ky hg.wal,au]
 by_cases h2:xU g.wal
 case neg=>
  rw[decide_eq_false h2]
  simp only[bC,show ∀x,bor false x=x from fun x=>rfl,bI]
  rw[ak];exact⟨fun h=>(by cases h),fun h=>absurd h.2.2.1 h2⟩
 rw[decide_eq_true h2]
 simp only[aS,bC,show ∀x,bor false x=x from fun x=>rfl,aU]
 have hn:=h2.2.1
 by_cases h3:g.state.lsn+1=g.wal.next
 case neg=>
  have e3:ieq g.state.lsn (wr .i64 (aA g.wal.next 1))=false:=by rw[bH,ne_eq,acn hn];exact h3
  rw[e3]
  simp only[bC,aS,aU,au,show ∀x,bor true x=true from fun x=>rfl,bI]
  rw[ak];exact⟨fun h=>(by cases h),fun h=>absurd h.2.2.2.1 h3⟩
 have e3:ieq g.state.lsn (wr .i64 (aA g.wal.next 1))=true:=by rw[bF,acn hn];exact h3
 rw[e3]
 simp only[bC,aS,bI,show ∀x,bor false x=x from fun x=>rfl]
 refine(aeF g.outbox g.wal.sure g.state.lsn (by have:=hg.ol;omega)).bind fun c hc=> ?_
 cases c with
 |false=>
  have:¬Gj g.outbox g.wal.sure g.state.lsn:=fun h=>by have:=hc.2 h;cases this
  simp only[bC,aS,aU,au,show ∀x,bor true x=true from fun x=>rfl,bI]
  rw[ak];exact⟨fun h=>(by cases h),fun h=>absurd h.2.2.2.2.1 this⟩
 |true=>
 have hO:=hc.1 rfl
 have hq:=hR.fine.seq
 have hw:wr .i64 (ai g.state.seq 1)=g.state.seq+1:=dA (by simp only[ai];omega) (by simp only[ai];omega)
 rw[hw]
 simp only[aS,bC,bI,show ∀x,bor false x=x from fun x=>rfl]
 refine(PV g.feed _).bind fun d hd=> ?_
 cases d with
 |false=>
  have:¬XK g.feed (g.state.seq+1):=fun h=>by have:=hd.2 h;cases this
  simp only[bC,aS,aU,au,show ∀x,bor true x=true from fun x=>rfl,bI]
  rw[ak];exact⟨fun h=>(by cases h),fun h=>absurd h.2.2.2.2.2.1 this⟩
 |true=>
 have hF:=hd.1 rfl
 simp only[aS,bC,bI,show ∀x,bor false x=x from fun x=>rfl,aU]
 refine(ah7 g.feed.held (by have:=hg.hl;omega)).bind ?_
 rintro(k | k) hk
 ·simp only[gK]
  rw[aI (lm hk.1),ak]
  exact⟨fun h=>(by cases h),fun h=>absurd h.2.2.2.2.2.2.1 hk.2⟩
 ·simp only[gK]
  obtain⟨b,h,q⟩:=aeo hg
  exact⟨b,h,fun hb=>⟨h1,hR,h2,h3,hO,hF,hk,q.1 hb⟩,fun hh=>q.2 hh.2.2.2.2.2.2.2⟩
noncomputable def nV (g:aW):Int:=if ¬yF g then 1 else if g.up=true then 0 else 9
theorem Ih {g:aW} (hg:SG g):mM g=some (nV g):=by
 unfold mM nV
 rw[Y6 hg,au,jZ,CS]
 by_cases h:yF g
 ·rw[if_pos h,if_neg (fun k=>k h)];cases g.up<;>rfl
 ·rw[if_neg h,if_pos h]
theorem xJ {g:aW}:nV g=0↔yF g/\g.up=true:=by
 unfold nV
 by_cases h:yF g
 ·rw[if_neg (fun k=>k h)]
  by_cases hu:g.up=true
  ·simp [h,hu]
  ·simp [h,hu]
 ·rw[if_pos h];simp [h]
def RY (r:iT):SA6:=if r.kind=1 then ⟨r.order,r.account,r.symbol,r.side,r.qty,r.price⟩else if r.kind=4 then ⟨r.account,r.symbol,r.long,r.short,r.opn,0⟩else if r.kind=5 then (if r.on=true then ⟨1,0,0,0,0,0⟩else ⟨0,0,0,0,0,0⟩)
 else if r.kind=6 then ⟨r.seq,r.what,r.order,r.qty,r.price,0⟩else ⟨r.order,r.qty,r.price,0,0,0⟩
theorem aa5 {r:iT} (h:vN r):Ei r=some (RY r,0):=by
 unfold Ei RY
 obtain⟨b,hb,q⟩:=uJ r
 have:=q.2 h;subst this
 rw[hb,au,aS,aU,kM,kM,kM,kM]
 split
 ·rfl
 split
 ·rfl
 split
 ·cases r.on<;>rfl
 split<;>rfl
noncomputable def fO (g:aW) (r:iT):aW×Int:=
 if (doS g.state r).2≠0 then (g,(doS g.state r).2)else if (Ri g.wal r.kind (RY r)).2≠0 then (g,(Ri g.wal r.kind (RY r)).2)
 else (⟨g.disk,(Ri g.wal r.kind (RY r)).1,(doS g.state r).1,g.outbox,g.feed,g.gen,g.up⟩,0)
theorem OV {g:aW} {r:iT} (hs:jS g.state) (hsh:uz g.state) (hw:yP g.wal) (hr:sS r):oJ g r=some (fO g r):=by
 unfold oJ fO
 rw[ad2 hs hr hsh.1 hsh.2.2.1 hsh.2.2.2,au,jZ,kM]
 by_cases h:(doS g.state r).2=0
 case neg=>rw[if_neg h,if_pos h]
 rw[if_pos h,if_neg (fun k=>k h),aa5 ((VG g.state r).good h).1.2.1,au,aeg hw,au,jZ,kM]
 by_cases h2:(Ri g.wal r.kind (RY r)).2=0
 ·rw[if_pos h2,if_neg (fun k=>k h2)]
 ·rw[if_neg h2,if_pos h2]
theorem X5:∀ {l:List eX} {n e:Int} {f:eX},rowP l n e->FP f->f.lsn=n+l.length->e<=f.epoch->(∀x∈l,x.epoch<=f.epoch)->rowP (l++[f]) n e
 |[],n,e,f,_,hf,hl,he,_=>⟨hf,by simpa using hl,he,trivial⟩
 |x::r,n,e,f,h,hf,hl,he,hx=>by
  obtain⟨h1,h2,h3,h4⟩:=h
  refine⟨h1,h2,h3,X5 h4 hf ?_ (hx x (by simp)) fun y hy=>hx y (by simp [hy])⟩
  simp only[List.length_cons]at hl;omega
structure ahz (w v:dU):Prop where
 wal:xU v
 next:v.next=w.next+1
 sure:v.sure=w.sure
 seg:v.seg=w.seg
 count:v.count=w.count
 few:v.wait.length=w.wait.length+1
 lim:w.next<=1000000000
theorem ai2 {w:dU} {k:Int} {b:SA6} (h:(Ri w k b).2=0):xU w/\ahz w (Ri w k b).1:=by
 unfold Ri at h ⊢
 split at h
 ·cases h
 rename_i h1
 split at h
 ·cases h
 rename_i h2
 split at h
 ·cases h
 rename_i h3
 rw[if_neg h1,if_neg h2,if_neg h3]
 have hw:xU w:=Classical.not_not.1 fun g=>h1 (.inl g)
 refine⟨hw,⟨?_,rfl,rfl,rfl,rfl,by simp,by omega⟩⟩
 obtain⟨w1,w2,w3,w4,w5,w6,w7,w8⟩:=hw
 have hk:1<=k/\k<=6:=by omega
 refine⟨w1,by simp only;omega,by simp only;omega,by simp only[List.length_append,List.length_singleton];omega,by simp only[List.length_append,List.length_singleton];omega,?_,?_,w8⟩
 ·refine X5 w6 ⟨w1.1,w1.2,by simp only;omega,by simp only;omega,hk.1,hk.2⟩ (by simp only;omega) w1.1 fun x hx=> ?_
  rw[w7 x hx];exact Int.le_refl _
 ·intro x hx
  rcases List.mem_append.1 hx with c | c
  ·exact w7 x c
  ·rw[List.mem_singleton.1 c]
theorem ahz.fits {w v:dU} {d:ax} (h:ahz w v) (hf:rJ w d):rJ v d:=by
 obtain⟨-, f2,f3,f4⟩:=hf
 refine⟨h.wal,f2,?_,?_⟩
 ·rw[h.sure];exact f3
 ·rw[h.seg,h.count];exact f4
theorem aeZ {w:dU} {k:Int} {b:SA6}:(Ri w k b).2≠9:=by
 unfold Ri
 split
 ·simp
 split
 ·simp
 split<;>simp
theorem ZF (s t:aC) (a y:Int):(MJ s t a y).2≠9:=by
 unfold MJ
 split
 ·simp
 split<;>simp
theorem ah0 (s:aC) (r:iT):(doS s r).2≠9:=by
 unfold doS
 split
 ·simp
 split
 ·split
  ·simp
  split
  ·simp
  exact ZF _ _ _ _
 split
 ·split
  ·simp
  split
  ·simp
  split
  ·simp
  exact ZF _ _ _ _
 split
 ·split
  ·simp
  split<;>simp
 split
 ·split<;>simp
 split
 ·simp
 split
 ·simp
 split
 ·simp
 split<;>simp
theorem UJ (g:aW) (r:iT):(fO g r).2≠9:=by
 unfold fO
 split
 ·exact ah0 _ _
 split
 ·exact aeZ
 ·simp
structure aki (g h:aW):Prop where
 disk:h.disk=g.disk
 put:ahz g.wal h.wal
 R:kN h.state
 lsn:h.state.lsn=g.state.lsn+1
 out:h.outbox=g.outbox
 feed:h.feed=g.feed
 gen:h.gen=g.gen
 up:h.up=g.up
 st:jS h.state
 sh:uz h.state
theorem G8 {g:aW} {r:iT} (hs:jS g.state) (hsh:uz g.state) (hr:sS r) (h:(fO g r).2=0):aki g (fO g r).1/\(doS g.state r).2=0/\(fO g r).1.state=(doS g.state r).1:=by
 unfold fO at h ⊢
 by_cases h1:(doS g.state r).2≠0
 ·rw[if_pos h1]at h;exact absurd h h1
 rw[if_neg h1]at h ⊢
 by_cases h2:(Ri g.wal r.kind (RY r)).2≠0
 ·rw[if_pos h2]at h;exact absurd h h2
 rw[if_neg h2]
 have h1:(doS g.state r).2=0:=Classical.not_not.1 h1
 have h2:(Ri g.wal r.kind (RY r)).2=0:=Classical.not_not.1 h2
 have q:=(VG g.state r).good h1
 exact⟨⟨rfl,(ai2 h2).2,aev q.1.1 hs hr,q.2.1,rfl,rfl,rfl,rfl,(VG g.state r).rng hs hr,ad4 hsh r⟩,h1,rfl⟩
theorem aaO:∀ {l:List jw} {a z:Int},Gj l a z->a<=z->(l.length:Int)<=z - a
 |[],a,z,_,h=>by simp;omega
 |m::r,a,z,h,_=>by
  have:=aaO h.2.2.2 h.2.2.1
  have:=h.2.1
  simp only[List.length_cons];omega
theorem SG.of {g:aW} (h:yF g) (st:jS g.state) (sh:uz g.state) (fu:inI g.disk.fuse) (by':uU g.disk) (ok:∀n∈g.feed.held,ql n):SG g:=by
 obtain⟨h1,h2,h3,h4,h5,h6,h7,h8,h9⟩:=h
 have w:=acp h3
 have hl:=h3.2.2.2.1
 have hs:=h3.2.2.2.2.1
 have ho:=aaO h5 (by have:=h3.2.2.1;omega)
 refine⟨st,sh,w,by omega,h1.bnd fu,by',by have:=h1.fl;omega,by omega,by have:=h6.2.2.1;omega,ok,by unfold inI;omega⟩
theorem YL {g:aW} (h:yF g) (hu:g.up=true):g.disk.down=false/\rJ g.wal g.disk:=by
 rcases h.2.2.2.2.2.2.2.2 with h | h
 ·exact h.2
 ·rw[h.1]at hu;cases hu
theorem VI {g:aW} (hu:g.up=true):nV g≠9:=by
 unfold nV
 rw[if_pos hu]
 split<;>simp
def ofM (k:Int) (o:aG) (z:Int):jw:=(o7 k o z).getD ⟨0,0,0,0,0,0,0,0,0⟩
theorem ajX (k:Int) (o:aG) (z:Int):o7 k o z=some (ofM k o z):=by
 obtain⟨m,h⟩:=ajh k o z
 unfold ofM;rw[h];rfl
def JF (g:aW) (r:iT):aW:=⟨g.disk,g.wal,g.state,g.outbox++[ofM r.kind (ah g.state.orders (itn (Nw g.state.orders r.order))) g.state.lsn],g.feed,g.gen,g.up⟩
noncomputable def AQ (g:aW) (r:iT):aW×Int:=
 if nV g≠0 then (g,nV g)else if r.kind<1\/3<r.kind then (g,1)else if (fO g r).2≠0 then (g,(fO g r).2)else (JF (fO g r).1 r,0)
theorem XL {g:aW} {r:iT} (hg:SG g) (hr:sS r) (hk:¬(r.kind<1\/3<r.kind)) (h:(fO g r).2=0):∃(j:Nat) (hj:j<(fO g r).1.state.orders.length),Nw (fO g r).1.state.orders r.order=(j:Int)/\
 (sF (fO g r).1.state.orders[j])/\(r.kind=2->1<=(fO g r).1.state.orders[j].newQty/\1<=(fO g r).1.state.orders[j].newPrice/\1<=(fO g r).1.state.orders[j].version):=by
 obtain⟨q,h1,h2⟩:=G8 hg.st hg.sh hr h
 obtain⟨o,ho,hid,hv⟩:=agC h1 (by omega)
 rw[<-h2]at ho
 obtain⟨j,hj,hf,rfl⟩:=ahL q.R.fine.asc ho
 rw[hid]at hf
 exact⟨j,hj,IC hf,(q.R.fine.ords _ (List.getElem_mem hj)).1,hv⟩
theorem V4 {g:aW} {r:iT} (hg:SG g) (hr:sS r):pK g r=some (AQ g r):=by
 unfold pK AQ
 rw[Ih hg,au,jZ,kM]
 by_cases h0:nV g=0
 case neg=>rw[if_neg h0,if_pos h0]
 rw[if_pos h0,if_neg (fun k=>k h0)]
 by_cases hk:r.kind<1\/3<r.kind
 ·rw[aI (by simp only[bg,bP,dh,dB,bn,aY,dn,dG,bZ,dL,bF,bH,dJ,dO];exact hk),if_pos hk]
 rw[dD (by simp only[bg,bP,dh,dB,bn,aY,dn,dG,bZ,dL,bF,bH,dJ,dO];omega),if_neg hk,OV hg.st hg.sh hg.wal hr,au,jZ,kM]
 by_cases h:(fO g r).2=0
 case neg=>rw[if_neg h,if_pos h]
 rw[if_pos h,if_neg (fun k=>k h)]
 have hol:=hg.ol
 obtain⟨j,hj,hf, -⟩:=XL hg hr hk h
 obtain⟨q,-, -⟩:=G8 hg.st hg.sh hr h
 rw[Fe _ _ q.sh.1,au,hf,aI (inb _ j hj),show dM g.outbox=some g.outbox from pV (by omega),au,ajX,au,aI (by simp only[dm,len];exact lm (by simp;omega))]
 unfold JF
 rw[hf,q.out];rfl
theorem Yl {g:aW} {r:iT} (hg:SG g) (hr:sS r):SG (AQ g r).1/\(yF g->yF (AQ g r).1)/\(AQ g r).1.up=g.up/\(AQ g r).1.disk=g.disk/\(AQ g r).1.wal.sure=g.wal.sure/\(AQ g r).1.gen=g.gen/\(g.up=true->(AQ g r).2≠9):=by
 unfold AQ
 by_cases h0:nV g=0
 case neg=>
  rw[if_pos h0]
  refine⟨hg,id,rfl,rfl,rfl,rfl,fun hu=> ?_⟩
  exact VI hu
 rw[if_neg (fun k=>k h0)]
 obtain⟨hG,hu⟩:=xJ.1 h0
 by_cases hk:r.kind<1\/3<r.kind
 ·rw[if_pos hk];exact⟨hg,id,rfl,rfl,rfl,rfl,fun _=>by simp⟩
 rw[if_neg hk]
 by_cases h:(fO g r).2=0
 case neg=>rw[if_pos h];exact⟨hg,id,rfl,rfl,rfl,rfl,fun _=>UJ g r⟩
 rw[if_neg (fun k=>k h)]
 obtain⟨j,hj,hf,hoP,hv⟩:=XL hg hr hk h
 obtain⟨q,hd0,hds⟩:=G8 hg.st hg.sh hr h
 obtain⟨h1,h2,h3,h4,h5,h6,h7,h8,h9⟩:=hG
 have hfit:=YL ⟨h1,h2,h3,h4,h5,h6,h7,h8,h9⟩ hu
 have hseq:(fO g r).1.state.seq=g.state.seq:=by
  have:=((VG g.state r).good hd0).2.2.1
  rw[hds,this,if_neg (by omega)]
 have hsn:=h3.2.2.1
 have hlim:=q.put.lim
 have hlsn:=q.lsn
 have hnew:Gj (JF (fO g r).1 r).outbox g.wal.sure (g.state.lsn+1):=by
  unfold JF
  simp only
  rw[q.out,hf,bJ _ _ hj,hlsn]
  obtain⟨m,hm,hmp,hml⟩:=aj8 (k:=r.kind) (z:=g.state.lsn+1) hoP (by omega) hv (by omega)
  have:ofM r.kind (fO g r).1.state.orders[j] (g.state.lsn+1)=m:=by unfold ofM;rw[hm];rfl
  rw[this]
  exact ZI (z:=g.state.lsn) h5 (by omega) hmp (by omega) (by omega)
 have hR:yF (JF (fO g r).1 r):=by
  refine⟨by rw[show(JF (fO g r).1 r).disk=_ from q.disk];exact h1,q.R,q.put.wal,?_,?_,?_,?_,?_,.inl ⟨q.up.trans hu,?_,?_⟩⟩
  ·show(fO g r).1.state.lsn+1=(fO g r).1.wal.next
   rw[hlsn,q.put.next];omega
  ·rw[show(JF (fO g r).1 r).wal.sure=g.wal.sure from q.put.sure,show(JF (fO g r).1 r).state.lsn=g.state.lsn+1 from hlsn];exact hnew
  ·rw[show(JF (fO g r).1 r).feed=g.feed from q.feed,show(JF (fO g r).1 r).state.seq=g.state.seq from hseq];exact h6
  ·rw[show(JF (fO g r).1 r).feed=g.feed from q.feed];exact h7
  ·rw[show(JF (fO g r).1 r).gen=g.gen from q.gen];exact h8
  ·rw[show(JF (fO g r).1 r).disk=g.disk from q.disk];exact hfit.1
  ·rw[show(JF (fO g r).1 r).disk=g.disk from q.disk];exact q.put.fits hfit.2
 refine⟨SG.of hR q.st q.sh ?_ ?_ ?_,fun _=>hR,q.up,q.disk,q.put.sure,q.gen,fun _=>by simp⟩
 ·rw[show(JF (fO g r).1 r).disk=g.disk from q.disk];exact hg.bnd.fu
 ·rw[show(JF (fO g r).1 r).disk=g.disk from q.disk];exact hg.byte
 ·rw[show(JF (fO g r).1 r).feed=g.feed from q.feed];exact hg.ok
theorem aan {l:List aB} (ha:Jy l) {p:Nm->Prop}:(∀f∈l,p f.name)↔∀n f,kV l n=some f->p n:=by
 constructor
 ·intro h n f hg
  have:=Aa hg
  rw[<-this.2];exact h f this.1
 ·intro h f hf
  exact h _ f (get_mem ha hf)
theorem ahD {w:dU} {d:ax} (hw:xU w) (hd:jB d) (h1:∀n f,kV d.files n=some f->oq sH n<=w.sure) (h2:w.seg=0\/∃f,kV d.files (lG w.seg)=some f/\(f.data.length:Int)=w.count*72):rJ w d:=
 ⟨hw,hd,(aan hd.asc (p:=fun n=>oq sH n<=w.sure)).2 h1,h2⟩
theorem Zq {w:dU} {d:ax} (h:rJ w d) {n:Nm} {f:aB} (hg:kV d.files n=some f):oq sH n<=w.sure:=
 (aan h.2.1.asc (p:=fun n=>oq sH n<=w.sure)).1 h.2.2.1 n f hg
theorem abp {w:dU} {d:ax} (hne:w.wait≠[]) (hf:rJ w d) (hu:d.down=false):
 ((writeW w d).2=0/\(writeW w d).1.down=false/\rJ (ve w) (writeW w d).1)\/((writeW w d).2=6/\(writeW w d).1=d)\/((writeW w d).2=9/\(writeW w d).1.down=true):=by
 have hw:=hf.1
 obtain⟨g0,g1,g2,g3⟩:=PU hw hne
 obtain⟨t1,t2,t3, -⟩:=KN hw hne
 have hn:=EX g0
 have hU:UpD d:=⟨hf.2.1,hu⟩
 have hsr:=hw.2.2.1
 unfold writeW
 generalize hB:rowB (w.wait.take (kW w))=B
 have hBl:B.length=72*kW w:=by rw[<-hB,Uh,List.length_take];omega
 rcases Yn (b:=B) hU hn with ⟨a1,a2, -⟩ | ⟨a1,a2,a3,a4⟩
 ·right;left
  rw[Ur (by rw[a1];simp)];exact⟨a1,a2⟩
 rcases a1.cases with c | ⟨c1,c2, -⟩
 case inr=>
  right;right
  rw[Ur (by rw[c1];simp)];exact⟨c1,c2⟩
 rw[then_ok c]
 have hU2:=a1.up c
 have hg:=a2 (lG (wX w).1)
 rw[if_pos rfl]at hg
 obtain⟨s1,s2,s3,s4,s5⟩:=abb hU2 hn hg
 rcases s1.cases with e | ⟨e1,e2, -⟩
 case inr=>exact .inr (.inr ⟨e1,e2⟩)
 refine .inl ⟨e,(s1.up e).up,ahD (VA hw hne) (s1.up e).right (fun n f hgf=> ?_) (.inr ?_)⟩
 ·rw[s2 e n]at hgf
  by_cases hnn:n=lG (wX w).1
  ·rw[hnn,QS g0];simp only[ve];omega
  ·rw[if_neg hnn,a2 n,if_neg hnn]at hgf
   have:=Zq hf hgf
   simp only[ve];omega
 ·refine⟨_,(s2 e _).trans (if_pos rfl),?_⟩
  simp only[ve,List.length_append,hBl]
  have hold:((((kV d.files (lG (wX w).1)).getD ⟨lG (wX w).1,[],0⟩).data.length:Nat):Int)=(wX w).2*72:=by
   by_cases hs:w.seg=0\/w.count=8
   ·have hq:wX w=(w.sure+1,0):=if_pos hs
    rw[hq]at g0 ⊢
    have:kV d.files (lG (w.sure+1))=none:=by
     cases hgg:kV d.files (lG (w.sure+1))with
     |none=>rfl
     |some f=>
      have:=Zq hf hgg
      rw[QS g0]at this;omega
    simp only[this];simp
   ·have hq:wX w=(w.seg,w.count):=if_neg hs
    rw[hq]
    rcases hf.2.2.2 with hz | ⟨f,f1,f2⟩
    ·exact absurd (.inl hz) hs
    ·simp only[f1];simpa using f2
  push_cast
  omega
structure ake (w:dU) (d:ax) (r:dU×ax×Int):Prop where
 wal:xU r.1
 next:r.1.next=w.next
 epoch:r.1.epoch=w.epoch
 sure:w.sure<=r.1.sure
 keep:Keep d r.2.1
 byte:uU d->uU r.2.1
 code:(r.2.2=0/\r.2.1.down=false/\rJ r.1 r.2.1/\r.1.wait=[])\/(r.2.2=6/\r.2.1.down=false/\rJ r.1 r.2.1)\/(r.2.2=9/\r.2.1.down=true)
theorem U3:∀(k:Nat) {w:dU} {d:ax},w.wait.length<=k->rJ w d->d.down=false->ake w d (sN k w d)
 |0,w,d,hk,hf,hu=>by
  rw[sN]
  exact⟨hf.1,rfl,rfl,Int.le_refl _,Keep.refl hf.2.1,id,.inl ⟨rfl,hu,hf,List.eq_nil_of_length_eq_zero (by show w.wait.length=0;omega)⟩⟩
 |k+1,w,d,hk,hf,hu=>by
  rw[sN]
  by_cases hne:w.wait=[]
  ·rw[if_pos hne]
   exact⟨hf.1,rfl,rfl,Int.le_refl _,Keep.refl hf.2.1,id,.inl ⟨rfl,hu,hf,hne⟩⟩
  rw[if_neg hne]
  have hkw:=RG (w:=w) hf.2.1
  have hbw:uU d->uU (writeW w d).1:=fun h=>Zl h
  obtain⟨t1,t2,-, -⟩:=KN hf.1 hne
  rcases abp hne hf hu with ⟨a,b,c⟩ | ⟨a,b⟩ | ⟨a,b⟩
  ·rw[if_neg (fun g=>g a)]
   have ih:=U3 k (w:=ve w) (d:=(writeW w d).1) (by simp only[ve,List.length_drop];omega) c b
   exact⟨ih.wal,ih.next,ih.epoch,by have:=ih.sure;rw[show(ve w).sure=w.sure+(kW w:Int)from rfl]at this;omega,hkw.trans ih.keep,fun h=>ih.byte (hbw h),ih.code⟩
  ·rw[if_pos (by rw[a];simp)]
   exact⟨hf.1,rfl,rfl,Int.le_refl _,hkw,hbw,.inr (.inl ⟨a,by rw[b];exact hu,by rw[b];exact hf⟩)⟩
  ·rw[if_pos (by rw[a];simp)]
   exact⟨hf.1,rfl,rfl,Int.le_refl _,hkw,hbw,.inr (.inr ⟨a,b⟩)⟩
theorem adE {w:dU} {d:ax} (hf:rJ w d) (hu:d.down=false):ake w d (jr w d):=by
 unfold jr
 rw[if_pos hf]
 exact U3 40 (by have:=hf.1.2.2.2.1;omega) hf hu
theorem U8 {l:List jw} {s:Int} {i:Nat} (h1:∀(j:Nat) (h:j<l.length),j<i->l[j].lsn<=s) (h2:∀h:i<l.length,s<l[i].lsn) (hi:i<=l.length):
 l.take i=(l.takeWhile fun m=>decide (m.lsn<=s))/\l.drop i=(l.dropWhile fun m=>decide (m.lsn<=s)):=by
 induction l generalizing i with
 |nil=>simp at hi;subst hi;simp
 |cons m r ih=>
  cases i with
  |zero=>
   have:=h2 (by simp)
   simp at this
   rw[List.takeWhile_cons_of_neg (by simp;omega),List.dropWhile_cons_of_neg (by simp;omega)]
   simp
  |succ i=>
   have h0:=h1 0 (by simp) (by omega)
   simp at h0
   rw[List.takeWhile_cons_of_pos (by simpa using h0),List.dropWhile_cons_of_pos (by simpa using h0)]
   have:=ih (i:=i) (fun j h hj=>by have:=h1 (j+1) (by simp;omega) (by omega);simpa using this) (fun h=>by have:=h2 (by simp;omega);simpa using this) (by simp at hi;omega)
   simp [this.1,this.2]
def goM (l:List jw) (s:Int):List jw:=l.takeWhile fun m=>decide (m.lsn<=s)
def Ht (l:List jw) (s:Int):List jw:=l.dropWhile fun m=>decide (m.lsn<=s)
theorem LG {l:List jw} (h:l.length<1000000):dM l=some l:=pV h
theorem Zi {α:Type} (l:List α) (i:Nat):ay l (itn (i:Int))=l.take i:=rfl
theorem aai {α:Type} (l:List α) (i:Nat):aF l (itn (i:Int))=l.drop i:=rfl
theorem UG {l:List jw} {s:Int} (hl:l.length<99999):qB l s=some (goM l s,Ht l s):=by
 refine Wq.eq ?_
 unfold qB
 refine Wq.bind (Q:=fun w:Int ⊕ Int=>match w with
  |.inl k=>∃i:Nat,k=(i:Int)/\i<=l.length/\l.take i=goM l s/\l.drop i=Ht l s
  |.inr _=>l=goM l s/\Ht l s=[])
  (nD (n:=l.length) (step:=fun v:Int×Int=>cZ (len l) l s v.1 v.2) (by omega) (fun i _=>∀(j:Nat) (h:j<l.length),j<i->l[j].lsn<=s) _ (fun i q hi hj=> ?_) (fun q hj=> ?_) _ 0 (Nat.zero_le _) (fun j h hj=>by omega)) ?_
 ·simp only[cZ]
  rw[aI (by rw[eP];simpa using hi),aI (inb l i hi),bJ _ i hi,Kt]
  by_cases h:s<l[i].lsn
  ·rw[if_pos h]
   have:=U8 hj (fun _=>h) (by omega)
   exact(ak _).2 ⟨i,rfl,by omega,this.1,this.2⟩
  ·rw[if_neg h]
   refine(ak _).2 ⟨dZ (by omega),fun j hjl hji=> ?_⟩
   by_cases e:j=i
   ·subst e;omega
   ·exact hj j hjl (by omega)
 ·simp only[cZ]
  rw[dD (MK _)]
  have:=U8 (i:=l.length) hj (fun h=>by omega) (by omega)
  refine(ak _).2 ⟨?_,?_⟩
  ·have:=this.1;rw[List.take_length]at this;exact this
  ·have:=this.2;rw[List.drop_length]at this;exact this.symm
 ·rintro(k | k) hk
  ·obtain⟨i,rfl,hi,h1,h2⟩:=hk
   simp only[gK]
   have hin:band (ile 0 (i:Int)) (ile (i:Int) (len l))=true:=Gu (lm (by omega)) (lm (by simp only[len];omega))
   rw[dD (BI (by omega)),aI hin,Zi,aai,LG (by rw[List.length_take];omega),au,aI hin,LG (by rw[List.length_drop];omega),au,ak,h1,h2]
  ·obtain⟨h1,h2⟩:=hk
   simp only[gK]
   have hin:band (ile 0 (len l)) (ile (len l) (len l))=true:=Gu (lm (by simp only[len];omega)) (lm (by omega))
   rw[aI hin,show ay l (itn (len l))=l by rw[show len l=((l.length:Nat):Int)from rfl,Zi,List.take_length],show aF l (itn (len l))=[] by rw[show len l=((l.length:Nat):Int)from rfl,aai,List.drop_length],LG (by omega),au,aI hin,LG (by simp),au,ak,<-h1,h2]
theorem XC:∀ {l:List jw} {a s z:Int},Gj l a z->a<=s->Gj (Ht l s) s z
 |[],a,s,z,h,_=>trivial
 |m::r,a,s,z,h,ha=>by
  unfold Ht
  by_cases hm:m.lsn<=s
  ·rw[List.dropWhile_cons_of_pos (by simpa using hm)]
   exact XC h.2.2.2 hm
  ·rw[List.dropWhile_cons_of_neg (by simpa using hm)]
   exact⟨h.1,by omega,h.2.2.1,h.2.2.2⟩
theorem aeC:∀ {l:List jw} {a z s:Int},Gj l a z->z<=s->goM l s=l/\Ht l s=[]
 |[],a,z,s,_,_=>⟨rfl,rfl⟩
 |m::r,a,z,s,h,hs=>by
  have ih:=aeC h.2.2.2 hs
  have hm:m.lsn<=s:=by have:=h.2.2.1;omega
  unfold goM Ht at ih ⊢
  rw[List.takeWhile_cons_of_pos (by simpa using hm),List.dropWhile_cons_of_pos (by simpa using hm),ih.1,ih.2]
  exact⟨rfl,rfl⟩
theorem aiR (l:List jw) (s:Int):(goM l s).length+(Ht l s).length=l.length:=by
 unfold goM Ht
 rw[<-List.length_append,List.takeWhile_append_dropWhile]
def ZA (g:aW):aW:=⟨g.disk,g.wal,g.state,[],⟨[],false⟩,g.gen,false⟩
noncomputable def adF (g:aW):aW:=⟨(jr g.wal g.disk).2.1,(jr g.wal g.disk).1,g.state,g.outbox,g.feed,g.gen,g.up⟩
noncomputable def Ux (g:aW):aW×Int:=(if (jr g.wal g.disk).2.1.down=true then ZA (adF g)else adF g,(jr g.wal g.disk).2.2)
theorem adw {g:aW} (hw:yP g.wal) (hd:SK g.disk):nJ g=some (Ux g):=by
 unfold nJ Ux
 rw[Yy hw hd,au,KA]
 split<;>rfl
noncomputable def zZ (g:aW):aW×List jw×Int:=
 if nV g≠0 then (g,[],nV g)else if (jr g.wal g.disk).2.1.down=true then (ZA (adF g),[],(jr g.wal g.disk).2.2)
 else (⟨(jr g.wal g.disk).2.1,(jr g.wal g.disk).1,g.state,Ht g.outbox (jr g.wal g.disk).1.sure,g.feed,g.gen,g.up⟩,goM g.outbox (jr g.wal g.disk).1.sure,(jr g.wal g.disk).2.2)
theorem YJ {g:aW} (hg:SG g):mW g=some (zZ g):=by
 unfold mW zZ
 rw[Ih hg,au,jZ,kM]
 by_cases h0:nV g=0
 case neg=>rw[if_neg h0,if_pos h0]
 rw[if_pos h0,if_neg (fun k=>k h0),adw hg.wal hg.bnd,au]
 have hu:=(xJ.1 h0).2
 unfold Ux
 by_cases hd:(jr g.wal g.disk).2.1.down=true
 ·rw[if_pos hd,if_pos hd];rfl
 ·rw[if_neg hd,if_neg hd]
  simp only[adF]
  rw[hu,aS,aU,UG (by have:=hg.ol;omega)];rfl
theorem abe {g:aW} (hd:jB g.disk) (hR:kN g.state) (hw:xU g.wal) (hl:g.state.lsn+1=g.wal.next) (hgen:0<=g.gen/\g.gen<=1000000000) (hdn:g.disk.down=true):yF (ZA g):=by
 have hq:=hR.fine.seq
 exact⟨hd,hR,hw,hl,trivial,⟨by show 1<=g.state.seq+1;omega,by show g.state.seq+1<=_;omega,by simp [ZA],trivial⟩,fun n hn=>(by cases hn),hgen,.inr ⟨rfl,hdn,rfl,rfl,rfl⟩⟩
structure akk (g:aW) (r:aW×List jw×Int):Prop where
 sg:SG r.1
 right:yF r.1
 state:r.1.state=g.state
 gen:r.1.gen=g.gen
 next:r.1.wal.next=g.wal.next
 sure:g.wal.sure<=r.1.wal.sure
 how:(r.1.up=true/\(r.2.2=0\/r.2.2=6)/\r.1.feed=g.feed/\r.2.1=goM g.outbox r.1.wal.sure/\r.1.outbox=Ht g.outbox r.1.wal.sure/\(r.2.2=0->r.1.wal.wait=[]))\/(r.1.up=false/\r.2.2=9/\r.2.1=[])
theorem adJ {g:aW} (h:nV g≠0):zZ g=(g,[],nV g):=by unfold zZ;rw[if_pos h]
theorem aaJ {g:aW} (hg:SG g) (h0:nV g=0):akk g (zZ g):=by
 obtain⟨hG,hu⟩:=xJ.1 h0
 obtain⟨hdn,hfit⟩:=YL hG hu
 obtain⟨h1,h2,h3,h4,h5,h6,h7,h8,h9⟩:=hG
 have q:=adE hfit hdn
 have hL:=h2.fine.lsn
 unfold zZ
 rw[if_neg (fun k=>k h0)]
 have hfu:=(q.keep.bnd hg.bnd.fu).fu
 have hby:=q.byte hg.byte
 have hnx:=q.next
 have hsn:=q.wal.2.2.1
 by_cases hd:(jr g.wal g.disk).2.1.down=true
 ·rw[if_pos hd]
  have e9:(jr g.wal g.disk).2.2=9:=by
   rcases q.code with ⟨-, c, -⟩ | ⟨-, c, -⟩ | ⟨c, -⟩
   ·rw[hd]at c;cases c
   ·rw[hd]at c;cases c
   ·exact c
  have hR:yF (ZA (adF g)):=abe (g:=adF g) q.keep.right h2 q.wal (h4.trans hnx.symm) h8 hd
  exact⟨SG.of hR hg.st hg.sh hfu hby (fun n hn=>(by cases hn)),hR,rfl,rfl,hnx,q.sure,.inr ⟨rfl,e9,rfl⟩⟩
 ·rw[if_neg hd]
  have hc:((jr g.wal g.disk).2.2=0\/(jr g.wal g.disk).2.2=6)/\rJ (jr g.wal g.disk).1 (jr g.wal g.disk).2.1/\((jr g.wal g.disk).2.2=0->(jr g.wal g.disk).1.wait=[]):=by
   rcases q.code with ⟨c1,-, c2,c3⟩ | ⟨c1,-, c2⟩ | ⟨-, c⟩
   ·exact⟨.inl c1,c2,fun _=>c3⟩
   ·exact⟨.inr c1,c2,fun c=>(by omega)⟩
   ·exact absurd c hd
  have hR:yF ⟨(jr g.wal g.disk).2.1,(jr g.wal g.disk).1,g.state,Ht g.outbox (jr g.wal g.disk).1.sure,g.feed,g.gen,g.up⟩:=
   ⟨q.keep.right,h2,q.wal,h4.trans hnx.symm,XC h5 q.sure,h6,h7,h8,.inl ⟨hu,by simpa using hd,hc.2.1⟩⟩
  exact⟨SG.of hR hg.st hg.sh hfu hby hg.ok,hR,rfl,rfl,hnx,q.sure,.inl ⟨hu,hc.1,rfl,rfl,rfl,hc.2.2⟩⟩
structure aff (g h:aW) (e:Int):Prop where
 sg:SG h
 right:yF g->yF h
 down:g.up=true->(h.up=false↔e=9)
 low:g.up=false->h=g
theorem Xe {g:aW} (hg:SG g) {e:Int} (he:g.up=true->e≠9):aff g g e:=
 ⟨hg,id,fun hu=>⟨fun h=>(by rw[hu]at h;cases h),fun h=>absurd h (he hu)⟩,fun _=>rfl⟩
noncomputable def eY:aW->List fE->aW×Int
 |g,[]=>(g,0)
 |g,n::r=>if (fO g (pI n)).2=0 then eY (fO g (pI n)).1 r else (g,(fO g (pI n)).2)
open Classical in
noncomputable def Py (g:aW) (n:fE):aW×Int:=
 if nV g≠0 then (g,nV g)else if ¬vN (pI n)then (g,1)else
 if (lW g.feed n (g.state.seq+1)).2.2≠0 then (g,(lW g.feed n (g.state.seq+1)).2.2)else
 if 1000000000<g.state.lsn+((lW g.feed n (g.state.seq+1)).2.1.length:Int)then (g,3)else
 if 32<(lW g.feed n (g.state.seq+1)).2.1.length+g.wal.wait.length then (g,6)else
 if (eY g (lW g.feed n (g.state.seq+1)).2.1).2≠0 then (g,(eY g (lW g.feed n (g.state.seq+1)).2.1).2)else
 (⟨(eY g (lW g.feed n (g.state.seq+1)).2.1).1.disk,(eY g (lW g.feed n (g.state.seq+1)).2.1).1.wal,(eY g (lW g.feed n (g.state.seq+1)).2.1).1.state,(eY g (lW g.feed n (g.state.seq+1)).2.1).1.outbox,
   (lW g.feed n (g.state.seq+1)).1,(eY g (lW g.feed n (g.state.seq+1)).2.1).1.gen,(eY g (lW g.feed n (g.state.seq+1)).2.1).1.up⟩,0)
structure aj1 (g h:aW) (k:Int):Prop where
 disk:h.disk=g.disk
 wal:xU h.wal
 fits:rJ g.wal g.disk->rJ h.wal g.disk
 next:h.wal.next=g.wal.next+k
 sure:h.wal.sure=g.wal.sure
 R:kN h.state
 lsn:h.state.lsn=g.state.lsn+k
 seq:h.state.seq=g.state.seq+k
 out:h.outbox=g.outbox
 feed:h.feed=g.feed
 gen:h.gen=g.gen
 up:h.up=g.up
 st:jS h.state
 sh:uz h.state
theorem adI {g:aW} {n:fE} (hs:jS g.state) (hsh:uz g.state) (hn:ql n) (h:(fO g (pI n)).2=0):(fO g (pI n)).1.state.seq=g.state.seq+1:=by
 obtain⟨-, d1,d2⟩:=G8 hs hsh (OQ hn) h
 rw[d2,((VG _ _).good d1).2.2.1,if_pos (show(pI n).kind=6 from rfl)]
theorem aaM:∀(l:List fE) (g:aW),(∀n∈l,ql n)->xU g.wal->kN g.state->jS g.state->uz g.state->(eY g l).2=0->aj1 g (eY g l).1 l.length
 |[],g,_,hw,hR,hs,hsh,_=>⟨rfl,hw,id,by simp [eY],rfl,hR,by simp [eY],by simp [eY],rfl,rfl,rfl,rfl,hs,hsh⟩
 |n::r,g,hl,hw,hR,hs,hsh,h=>by
  rw[eY]at h ⊢
  by_cases h0:(fO g (pI n)).2=0
  case neg=>rw[if_neg h0]at h;exact absurd h h0
  rw[if_pos h0]at h ⊢
  have hn:=hl n (by simp)
  have p:=(G8 hs hsh (OQ hn) h0).1
  have ih:=aaM r _ (fun m hm=>hl m (by simp [hm])) p.put.wal p.R p.st p.sh h
  have hq:=adI hs hsh hn h0
  refine⟨ih.disk.trans p.disk,ih.wal,fun hf=> ?_,?_,ih.sure.trans p.put.sure,ih.R,?_,?_,ih.out.trans p.out,ih.feed.trans p.feed,ih.gen.trans p.gen,ih.up.trans p.up,ih.st,ih.sh⟩
  ·have:=ih.fits (by rw[p.disk];exact p.put.fits hf)
   rwa[p.disk]at this
  ·rw[ih.next,p.put.next];simp only[List.length_cons];omega
  ·rw[ih.lsn,p.lsn];simp only[List.length_cons];omega
  ·rw[ih.seq,hq];simp only[List.length_cons];omega
theorem Vs:∀(l:List fE) (g:aW),(eY g l).2≠9
 |[],g=>by simp [eY]
 |n::r,g=>by
  rw[eY]
  split
  ·exact Vs r _
  ·exact UJ _ _
theorem ab8 {l:List fE} {i:Nat} (hi:i<l.length) (g:aW):eY g (l.drop i)=if (fO g (pI l[i])).2=0 then eY (fO g (pI l[i])).1 (l.drop (i+1))else (g,(fO g (pI l[i])).2):=by
 rw[List.drop_eq_getElem_cons hi];rfl
structure afg (h:aW):Prop where
 st:jS h.state
 sh:uz h.state
 wal:yP h.wal
theorem afg.next {h:aW} {n:fE} (m:afg h) (hn:ql n) (h0:(fO h (pI n)).2=0):afg (fO h (pI n)).1:=by
 have p:=(G8 m.st m.sh (OQ hn) h0).1
 exact⟨p.st,p.sh,acp p.put.wal⟩
theorem ah6 {l:List fE} {g:aW} (z:aW) (hl:l.length<999) (hok:∀n∈l,ql n) (hm:afg g):Wq (bD (fun v:Int×Int×Int×aW×aW=>nG (len l) l g v.1 v.2.1 v.2.2.1 v.2.2.2.1 v.2.2.2.2) LF (0,0,0,g,z)) fun w=>match w with
 |.inl x=>x.2.2=g/\x.1=(eY g l).2/\x.1≠0
 |.inr x=>x.2.2.1=(eY g l).1/\(eY g l).2=0:=by
 refine nD (n:=l.length) (by omega) (fun i x=>afg x.2.2.1/\eY g l=eY x.2.2.1 (l.drop i)) _ ?_ ?_ _ 0 (Nat.zero_le _) ⟨hm,by simp⟩
 ·rintro i ⟨x1,x2,s,x4⟩ hi ⟨g1,g3⟩
  simp only at g1 g3
  simp only[nG]
  have hn:=hok _ (List.getElem_mem hi)
  rw[aI (by rw[eP];simpa using hi),aI (inb l i hi),bJ l i hi,show mP l[i]=some (pI l[i])from rfl,au,OV g1.st g1.sh g1.wal (OQ hn),au,gJ,ak,ak]
  rw[ab8 hi]at g3
  refine⟨fun hz=> ?_,fun hz=> ?_⟩
  ·rw[bn,bH]at hz
   rw[if_neg hz]at g3
   exact⟨rfl,by rw[g3],hz⟩
  ·rw[aY,bF]at hz
   rw[if_pos hz]at g3
   exact⟨dZ (by omega),g1.next hn hz,g3⟩
 ·rintro⟨x1,x2,s,x4⟩ ⟨g1,g3⟩
  simp only at g1 g3
  simp only[nG]
  rw[dD (MK _),ak]
  rw[List.drop_length]at g3
  have g3:eY g l=(s,0):=g3
  rw[g3]
  exact⟨rfl,rfl⟩
theorem ac8 {g:aW} (hg:SG g) {n:fE} (hn:ql n) (h0:nV g=0):(lW g.feed n (g.state.seq+1)).2.1.length<=9/\(∀m∈(lW g.feed n (g.state.seq+1)).2.1,ql m)/\(∀m∈(lW g.feed n (g.state.seq+1)).1.held,ql m):=by
 have cm:=afR (f:=g.feed) (n:=n) (x:=g.state.seq+1)
 have h8:=(xJ.1 h0).1.2.2.2.2.2.1.2.2.1
 have hmem:∀m,m∈g.feed.held\/m=n->ql m:=fun m hm=>by
  rcases hm with hm | rfl
  ·exact hg.ok m hm
  ·exact hn
 exact⟨by have:=cm.2.1;omega,fun m hm=>hmem m (cm.2.2.2 m hm),fun m hm=>hmem m (cm.2.2.1 m hm)⟩
theorem Zr {g:aW} {n:fE} (hg:SG g) (hn:ql n):EY g n=some (Py g n):=by
 unfold EY Py
 rw[Ih hg,au,jZ,kM]
 by_cases h0:nV g=0
 case neg=>rw[if_neg h0,if_pos h0]
 rw[if_pos h0,if_neg (fun k=>k h0),show mP n=some (pI n)from rfl,au]
 obtain⟨b,hb,hbq⟩:=uJ (pI n)
 rw[hb,au]
 cases b with
 |false=>rw[if_pos (fun k=>by have:=hbq.2 k;cases this)];rfl
 |true=>
 rw[if_neg (fun k=>k (hbq.1 rfl)),aS,aU]
 have hG:=(xJ.1 h0).1
 have hq:=hG.2.1.fine.seq
 have hL:=hG.2.1.fine.lsn
 have hwl:=hG.2.2.1.2.2.2.1
 have hw:wr .i64 (ai g.state.seq 1)=g.state.seq+1:=dA (by simp only[ai];omega) (by simp only[ai];omega)
 rw[hw,Zn,au,jZ,kM]
 obtain⟨c1,c2,c3⟩:=ac8 hg hn h0
 generalize lW g.feed n (g.state.seq+1)=C at*
 obtain⟨f,l,e⟩:=C
 simp only at*
 by_cases he:e=0
 case neg=>rw[if_neg he,if_pos he]
 subst he
 rw[if_pos rfl,if_neg (fun k=>k rfl),show len l=(l.length:Int)from rfl,show len g.wal.wait=(g.wal.wait.length:Int)from rfl,show ai g.state.lsn (l.length:Int)=g.state.lsn+(l.length:Int)from rfl,dA (by omega) (by omega),Kt]
 by_cases ho:1000000000<g.state.lsn+(l.length:Int)
 ·rw[if_pos ho,if_pos ho]
 rw[if_neg ho,if_neg ho,show ai (l.length:Int) (g.wal.wait.length:Int)=(l.length:Int)+(g.wal.wait.length:Int)from rfl,dA (by omega) (by omega),Kt]
 by_cases hf:32<l.length+g.wal.wait.length
 ·rw[if_pos (by omega),if_pos hf]
 rw[if_neg (by omega),if_neg hf]
 obtain⟨w,w1,w2⟩:=ah6 (aW.mk (ax.mk [] 0 0 false) (dU.mk 0 0 0 0 0 []) (aC.mk 0 0 [] [] [] [] false 0 0 0) [] (kD.mk [] false) 0 false) (by omega) c2 ⟨hg.st,hg.sh,hg.wal⟩
 have w1':bD (fun v:Int×Int×Int×aW×aW=>nG (l.length:Int) l g v.1 v.2.1 v.2.2.1 v.2.2.2.1 v.2.2.2.2) LF (0,0,0,g,aW.mk (ax.mk [] 0 0 false) (dU.mk 0 0 0 0 0 []) (aC.mk 0 0 [] [] [] [] false 0 0 0) [] (kD.mk [] false) 0 false)=some w:=w1
 rw[w1',au]
 match w,w2 with
 |.inl x,⟨a1,a2,a3⟩=>simp only[gK];rw[if_pos (by rw[<-a2];exact a3),a1,a2]
 |.inr x,⟨a1,a2⟩=>simp only[gK];rw[if_neg (fun k=>k a2),a1]
theorem ady (f:kD) (n:fE) (x:Int):(lW f n x).2.2≠9:=by
 unfold lW
 split
 ·simp
 split
 ·simp
 split
 ·simp
 split
 ·simp
 split<;>simp
theorem adu {g:aW} {n:fE} (hg:SG g) (hn:ql n):aff g (Py g n).1 (Py g n).2/\(Py g n).1.disk=g.disk/\(Py g n).1.wal.sure=g.wal.sure/\(Py g n).1.gen=g.gen/\(Py g n).1.outbox=g.outbox:=by
 have same:∀e:Int,e≠9->aff g (g,e).1 (g,e).2/\(g,e).1.disk=g.disk/\(g,e).1.wal.sure=g.wal.sure/\(g,e).1.gen=g.gen/\(g,e).1.outbox=g.outbox:=fun e he=>⟨Xe hg fun _=>he,rfl,rfl,rfl,rfl⟩
 unfold Py
 by_cases h0:nV g=0
 case neg=>rw[if_pos h0];exact⟨Xe hg fun hu=>VI hu,rfl,rfl,rfl,rfl⟩
 rw[if_neg (fun k=>k h0)]
 by_cases hr:vN (pI n)
 case neg=>rw[if_pos hr];exact same 1 (by simp)
 rw[if_neg (fun k=>k hr)]
 obtain⟨hG,hu⟩:=xJ.1 h0
 obtain⟨hdn,hfit⟩:=YL hG hu
 obtain⟨c1,c2,c3⟩:=ac8 hg hn h0
 have c9:=ady g.feed n (g.state.seq+1)
 have cok:=ac5 (f:=g.feed) (n:=n) (x:=g.state.seq+1)
 generalize lW g.feed n (g.state.seq+1)=C at*
 obtain⟨f,l,e⟩:=C
 simp only at c1 c2 c3 c9 cok ⊢
 by_cases he:e=0
 case neg=>rw[if_pos he];exact same e c9
 have cq:=cok he
 rw[if_neg (fun k=>k he)]
 by_cases ho:1000000000<g.state.lsn+(l.length:Int)
 ·rw[if_pos ho];exact same 3 (by simp)
 rw[if_neg ho]
 by_cases hf:32<l.length+g.wal.wait.length
 ·rw[if_pos hf];exact same 6 (by simp)
 rw[if_neg hf]
 by_cases hz:(eY g l).2=0
 case neg=>rw[if_pos hz];exact same _ (Vs _ _)
 rw[if_neg (fun k=>k hz)]
 obtain⟨h1,h2,h3,h4,h5,h6,h7,h8,h9⟩:=hG
 have q:=aaM l g c2 h3 h2 hg.st hg.sh hz
 have hR:yF ⟨(eY g l).1.disk,(eY g l).1.wal,(eY g l).1.state,(eY g l).1.outbox,f,(eY g l).1.gen,(eY g l).1.up⟩:=by
  have hqs:=q.R.fine.seq
  have hls:=q.R.fine.lsn
  have e1:=q.seq
  have e2:=q.lsn
  have hx:(eY g l).1.state.seq+1=g.state.seq+1+(l.length:Int):=by omega
  refine⟨?_,q.R,q.wal,?_,?_,⟨?_,?_,cq.len,?_⟩,?_,?_,.inl ⟨q.up.trans hu,?_,?_⟩⟩
  ·show jB (eY g l).1.disk
   rw[q.disk];exact h1
  ·show(eY g l).1.state.lsn+1=(eY g l).1.wal.next
   rw[e2,q.next];omega
  ·show Gj (eY g l).1.outbox (eY g l).1.wal.sure (eY g l).1.state.lsn
   rw[q.out,q.sure];exact acL h5 (by omega)
  ·show 1<=(eY g l).1.state.seq+1
   omega
  ·show(eY g l).1.state.seq+1<=1000000001
   omega
  ·show tu f.held ((eY g l).1.state.seq+1) ((eY g l).1.state.seq+1)
   rw[hx];exact cq.held
  ·intro m hm
   rcases cq.mem m hm with c | c
   ·exact h7 m c
   ·rw[c];exact hr
  ·show 0<=(eY g l).1.gen/\(eY g l).1.gen<=1000000000
   rw[q.gen];exact h8
  ·show(eY g l).1.disk.down=false
   rw[q.disk];exact hdn
  ·show rJ (eY g l).1.wal (eY g l).1.disk
   rw[q.disk];exact q.fits hfit
 refine⟨⟨SG.of hR q.st q.sh ?_ ?_ c3,fun _=>hR,fun _=>⟨fun h=> ?_,fun h=>(by cases h)⟩,fun h=>(by rw[hu]at h;cases h)⟩,q.disk,q.sure,q.gen,q.out⟩
 ·show inI (eY g l).1.disk.fuse
  rw[q.disk];exact hg.bnd.fu
 ·show uU (eY g l).1.disk
  rw[q.disk];exact hg.byte
 ·have:(eY g l).1.up=false:=h
  rw[q.up,hu]at this;cases this
theorem adl (g:aW) (k:TF g):Wq (oU g) fun b=>b=true->SG g/\g.outbox.length<=99/\g.feed.held.length<=99:=by
 unfold oU
 refine(adO g.disk k.disk_files).bind fun b hb=> ?_
 refine Wq.bind (Q:=fun c=>c=true->b=true/\uz g.state) ?_ fun c hc=> ?_
 ·rw[gJ]
  exact⟨fun h1=>(agM g.state).mono fun c hc h=>⟨h1,hc h⟩,fun _=>(ak _).2 fun h=>by cases h⟩
 ·rw[ak]
  intro h
  simp only[bg,bP,dh,dB,bn,aY,dn,dG,bZ,dL,bF,bH,dJ,dO,len]at h
  obtain⟨⟨⟨⟨h1,h2⟩,h3⟩,h4⟩,h5⟩:=h
  have hd:Ql g.disk:=⟨k.disk_files,k.disk_room,k.disk_fuse⟩
  have hs:=hb h1
  refine⟨⟨⟨k.state_accounts,k.state_symbols,k.state_orders,k.state_cells,k.state_limits,k.state_caps,k.state_last,k.state_seq,k.state_lsn⟩,(hc h2).2,⟨k.wal_epoch,k.wal_next,k.wal_sure,k.wal_seg,k.wal_count,by omega⟩,by omega,adr hd hs,ahC hd,hs.1,by omega,by omega,fun n hn=>k.feed_held.1 n hn,k.gen⟩,by omega,by omega⟩
def FT {τ:Type} [DecidableEq τ] (n:Int) (f:Bool->Option τ):Option τ:=if n=0 then (if f true=f false then f true else none)else f false
theorem yB {τ:Type} [DecidableEq τ] (n:Int) (f:Bool->Option τ):JH n f=FT n f:=by
 unfold JH FT
 by_cases h:n=0
 ·rw[if_pos h,if_pos h]
  by_cases h2:f true=f false
  ·rw[if_pos h2,if_pos h2]
  ·rw[if_neg h2,if_neg h2]
 ·rw[if_neg h,if_neg h]
def aJ (x0:(List aB)):Option ((List aB)):=FT (len x0) fun y0=>cnd (beq y0 true) (some []) (cnd (ile (len x0) 68719476736) (some x0) none)
theorem ig:aK=aJ:=by
 funext a0
 unfold aK aJ
 simp only[yB]
def lX (x0:ax) (x1:(List UInt8)):Option (ax×Int):=af (iI x0 [x1]) fun y0=>cnd (aj (ieq y0 0)) (cnd (aj (ieq y0 0)) (some (x0,y0)) (cnd (ieq x0.fuse 0) (some (ax.mk x0.files x0.room x0.fuse true,9)) (cnd (ieq x0.fuse (-1)) (af (aJ x0.files) fun y1=>af (dK y1 0 1) fun y2=>some (ax.mk y2 x0.room x0.fuse x0.down,0)) (af (aJ x0.files) fun y3=>af (dK y3 0 1) fun y4=>some (ax.mk y4 x0.room (wr .i64 (aA x0.fuse 1)) x0.down,0))))) (af (dR x0 x1) fun y5=>cnd (aj y5.2) (some (x0,7)) (cnd (ieq x0.fuse 0) (some (ax.mk x0.files x0.room x0.fuse true,9)) (cnd (ieq x0.fuse (-1)) (af (aJ x0.files) fun y6=>af (dK y6 y5.1 (wr .i64 (ai y5.1 1))) fun y7=>some (ax.mk y7 x0.room x0.fuse x0.down,0)) (af (aJ x0.files) fun y8=>af (dK y8 y5.1 (wr .i64 (ai y5.1 1))) fun y9=>some (ax.mk y9 x0.room (wr .i64 (aA x0.fuse 1)) x0.down,0)))))
theorem uP:kE=lX:=by
 funext a0 a1
 unfold kE lX
 simp only[ig]
def xH (p0:Int) (p1:Int) (p2:(List Int)) (p3:(List Int)) (p4:dU) (v0:Int) (v1:Int) (v2:ax) (v3:ax):Option ((Int×Int×ax×ax) ⊕ ((Int×ax×ax) ⊕ ((Int×ax×ax)))):=cnd (ilt v0 p0) (cnd (band (ile 0 v0) (ilt v0 (len p2))) (cnd (ilt (wr .i64 (ai v0 1)) (len p3)) (cnd (band (ile 0 (wr .i64 (ai v0 1))) (ilt (wr .i64 (ai v0 1)) (len p3))) (cnd (ieq (ah p2 (itn v0)) p4.seg) (some (Sum.inl (wr .i64 (ai v0 1),v1,v2,v3))) (cnd (ilt p1 (wr .i64 (aA (ah p3 (itn (wr .i64 (ai v0 1)))) 1))) (some (Sum.inr (Sum.inl (v1,v2,v3)))) (af (iq (ah p2 (itn v0))) fun y0=>af (lX v3 y0) fun y1=>cnd (aj (ieq y1.2 0)) (some (Sum.inr (Sum.inr (y1.2,y1.1,y1.1)))) (some (Sum.inl (wr .i64 (ai v0 1),v1,v2,y1.1)))))) none) (cnd (ieq (ah p2 (itn v0)) p4.seg) (some (Sum.inl (wr .i64 (ai v0 1),v1,v2,v3))) (cnd (ilt p1 p4.sure) (some (Sum.inr (Sum.inl (v1,v2,v3)))) (af (iq (ah p2 (itn v0))) fun y2=>af (lX v3 y2) fun y3=>cnd (aj (ieq y3.2 0)) (some (Sum.inr (Sum.inr (y3.2,y3.1,y3.1)))) (some (Sum.inl (wr .i64 (ai v0 1),v1,v2,y3.1))))))) none) (some (Sum.inr (Sum.inl (v1,v2,v3))))
theorem Ju:nS=xH:=by
 funext a0 a1 a2 a3 a4 a5 a6 a7 a8
 unfold nS xH
 simp only[uP]
def zi (x0:dU) (x1:ax) (x2:Int):Option (ax×Int):=af (xR x0 x1) fun y0=>cnd (aj y0) (some (x1,1)) (af (uf x1) fun y1=>af (bD (fun v=>xH (len y1) x2 y1 y1 x0 v.1 v.2.1 v.2.2.1 v.2.2.2) LF (0,0,ax.mk [] 0 0 false,x1)) fun y2=>gK y2 (fun y3=>some (y3.2.2,0)) fun y3=>some (y3.2.1,y3.1))
theorem EW:xP=zi:=by
 funext a0 a1 a2
 unfold xP zi
 simp only[Ju]
def rH (x0:dU) (x1:ax):Option (Bool):=af (zi x0 x1 0) fun y0=>some (aj (ieq y0.2 1))
theorem Oo:ng=rH:=by
 funext a0 a1
 unfold ng rH
 simp only[EW]
def vT (x0:aW):Option (Bool):=af (lI x0.disk) fun y0=>af (cnd (aj (aj y0)) (mQ x0.state) (some false)) fun y1=>af (cnd (aj (bor (aj y0) (aj y1))) (qK x0.wal) (some false)) fun y2=>cnd (bor (bor (aj y0) (aj y1)) (aj y2)) (some false) (af (cnd (aj (aj (ieq x0.state.lsn (wr .i64 (aA x0.wal.next 1))))) (uK x0.outbox x0.wal.sure x0.state.lsn) (some false)) fun y3=>af (cnd (aj (bor (aj (ieq x0.state.lsn (wr .i64 (aA x0.wal.next 1)))) (aj y3))) (vO x0.feed (wr .i64 (ai x0.state.seq 1))) (some false)) fun y4=>cnd (aj (bor (bor (aj (ieq x0.state.lsn (wr .i64 (aA x0.wal.next 1)))) (aj y3)) (aj y4))) (af (bD (fun v=>bV (len x0.feed.held) x0.feed.held v.1 v.2) LF (0,0)) fun y5=>gK y5 (fun y6=>cnd (bor (bor (bor (aj (ieq x0.state.lsn (wr .i64 (aA x0.wal.next 1)))) (aj y3)) (aj y4)) (ile 0 y6)) (some false) (af (cnd (band (band (band (ile 0 x0.gen) (ile x0.gen 1000000000)) (aj (beq x0.up x0.disk.down))) x0.up) (rH x0.wal x0.disk) (some false)) fun y7=>af (cnd (band (band (band (band (ile 0 x0.gen) (ile x0.gen 1000000000)) (aj (beq x0.up x0.disk.down))) (aj (band x0.up y7))) (aj x0.up)) (kQ x0) (some false)) fun y8=>some (band (band (band (ile 0 x0.gen) (ile x0.gen 1000000000)) (aj (beq x0.up x0.disk.down))) (bor (band x0.up y7) (band (aj x0.up) y8))))) fun y6=>cnd (bor (bor (bor (aj (ieq x0.state.lsn (wr .i64 (aA x0.wal.next 1)))) (aj y3)) (aj y4)) false) (some false) (af (cnd (band (band (band (ile 0 x0.gen) (ile x0.gen 1000000000)) (aj (beq x0.up x0.disk.down))) x0.up) (rH x0.wal x0.disk) (some false)) fun y9=>af (cnd (band (band (band (band (ile 0 x0.gen) (ile x0.gen 1000000000)) (aj (beq x0.up x0.disk.down))) (aj (band x0.up y9))) (aj x0.up)) (kQ x0) (some false)) fun y10=>some (band (band (band (ile 0 x0.gen) (ile x0.gen 1000000000)) (aj (beq x0.up x0.disk.down))) (bor (band x0.up y9) (band (aj x0.up) y10))))) (cnd (bor (bor (bor (aj (ieq x0.state.lsn (wr .i64 (aA x0.wal.next 1)))) (aj y3)) (aj y4)) false) (some false) (af (cnd (band (band (band (ile 0 x0.gen) (ile x0.gen 1000000000)) (aj (beq x0.up x0.disk.down))) x0.up) (rH x0.wal x0.disk) (some false)) fun y11=>af (cnd (band (band (band (band (ile 0 x0.gen) (ile x0.gen 1000000000)) (aj (beq x0.up x0.disk.down))) (aj (band x0.up y11))) (aj x0.up)) (kQ x0) (some false)) fun y12=>some (band (band (band (ile 0 x0.gen) (ile x0.gen 1000000000)) (aj (beq x0.up x0.disk.down))) (bor (band x0.up y11) (band (aj x0.up) y12))))))
theorem CQ:qZ=vT:=by
 funext a0
 unfold qZ vT
 simp only[Oo]
def pO (x0:Int) (x1:jm) (x2:Int):Option (aW×Bool):=af (Oz 2 2 x1 x2) fun y0=>af (cnd (ieq y0.2 0) (vT (aW.mk (ax.mk [] x0 (-1) false) (dU.mk 1 1 0 0 0 []) y0.1 [] (kD.mk [] false) 0 true)) (some false)) fun y1=>some (aW.mk (ax.mk [] x0 (-1) false) (dU.mk 1 1 0 0 0 []) y0.1 [] (kD.mk [] false) 0 true,band (ieq y0.2 0) y1)
theorem C9:pG=pO:=by
 funext a0 a1 a2
 unfold pG pO
 simp only[CQ]
def qC (x0:aW):Option (Int):=af (vT x0) fun y0=>cnd (aj y0) (some 1) (cnd (aj x0.up) (some 9) (some 0))
theorem wu:mM=qC:=by
 funext a0
 unfold mM qC
 simp only[CQ]
def fG (x0:(List aG)):Option ((List aG)):=FT (len x0) fun y0=>cnd (beq y0 true) (some []) (cnd (ile (len x0) 68719476736) (some x0) none)
theorem zI:eG=fG:=by
 funext a0
 unfold eG fG
 simp only[yB]
def fK (x0:(List aX)):Option ((List aX)):=FT (len x0) fun y0=>cnd (beq y0 true) (some []) (cnd (ile (len x0) 68719476736) (some x0) none)
theorem Ah:fB=fK:=by
 funext a0
 unfold fB fK
 simp only[yB]
def fM (x0:(List jm)):Option ((List jm)):=FT (len x0) fun y0=>cnd (beq y0 true) (some []) (cnd (ile (len x0) 68719476736) (some x0) none)
theorem Ap:fA=fM:=by
 funext a0
 unfold fA fM
 simp only[yB]
def gV (x0:(List Int)):Option ((List Int)):=FT (len x0) fun y0=>cnd (beq y0 true) (some []) (cnd (ile (len x0) 68719476736) (some x0) none)
theorem Dc:gG=gV:=by
 funext a0
 unfold gG gV
 simp only[yB]
def AZ (x0:aC) (x1:iT):Option (aC×Int):=af (nI x0.lsn 1) fun y0=>af (cnd (aj (bor (aj (ieq y0.2 0)) (ile 1000000000 x0.lsn))) (lQ x1) (some false)) fun y1=>af (cnd (aj (bor (bor (aj (ieq y0.2 0)) (ile 1000000000 x0.lsn)) (aj y1))) (mQ x0) (some false)) fun y2=>cnd (bor (bor (bor (aj (ieq y0.2 0)) (ile 1000000000 x0.lsn)) (aj y1)) (aj y2)) (some (x0,1)) (af (fG x0.orders) fun y3=>af (fK x0.cells) fun y4=>af (fM x0.limits) fun y5=>af (gV x0.caps) fun y6=>cnd (ieq x1.kind 1) (af (wW x1) fun y7=>cnd (ile x1.order x0.last) (cnd (ile x1.order x0.last) (some (x0,1)) (cnd x0.kill (some (x0,5)) (cnd (ieq (len y3) 64) (some (x0,6)) (af (fG y3) fun y8=>af (fK y4) fun y9=>af (fM y5) fun y10=>af (gV y6) fun y11=>af (bf (aC.mk x0.accounts x0.symbols y3 y4 y5 y6 x0.kill x0.last x0.seq x0.lsn) y7.1.account y7.1.symbol) fun y12=>cnd (band (ile 0 y12) (ilt y12 (len y4))) (af (jC (ah y4 (itn y12)) y7.1) fun y13=>cnd (aj (ieq y13.2 0)) (some (x0,3)) (cnd (ile (len (dm y3 [y7.1])) 68719476736) (af (dQ (aC.mk x0.accounts x0.symbols (dm y3 [y7.1]) (aZ y4 (itn y12) y13.1) y5 y6 x0.kill y7.1.id x0.seq x0.lsn) (aC.mk x0.accounts x0.symbols y8 y9 y10 y11 x0.kill x0.last x0.seq x0.lsn) y7.1.account y7.1.symbol) fun y14=>cnd (aj (ieq y14 0)) (some (x0,y14)) (some (aC.mk x0.accounts x0.symbols (dm y3 [y7.1]) (aZ y4 (itn y12) y13.1) y5 y6 x0.kill y7.1.id x0.seq (wr .i64 (ai x0.lsn 1)),0))) none)) none)))) (cnd (ile x0.accounts x1.account) (cnd (ile x0.accounts x1.account) (some (x0,1)) (cnd x0.kill (some (x0,5)) (cnd (ieq (len y3) 64) (some (x0,6)) (af (fG y3) fun y15=>af (fK y4) fun y16=>af (fM y5) fun y17=>af (gV y6) fun y18=>af (bf (aC.mk x0.accounts x0.symbols y3 y4 y5 y6 x0.kill x0.last x0.seq x0.lsn) y7.1.account y7.1.symbol) fun y19=>cnd (band (ile 0 y19) (ilt y19 (len y4))) (af (jC (ah y4 (itn y19)) y7.1) fun y20=>cnd (aj (ieq y20.2 0)) (some (x0,3)) (cnd (ile (len (dm y3 [y7.1])) 68719476736) (af (dQ (aC.mk x0.accounts x0.symbols (dm y3 [y7.1]) (aZ y4 (itn y19) y20.1) y5 y6 x0.kill y7.1.id x0.seq x0.lsn) (aC.mk x0.accounts x0.symbols y15 y16 y17 y18 x0.kill x0.last x0.seq x0.lsn) y7.1.account y7.1.symbol) fun y21=>cnd (aj (ieq y21 0)) (some (x0,y21)) (some (aC.mk x0.accounts x0.symbols (dm y3 [y7.1]) (aZ y4 (itn y19) y20.1) y5 y6 x0.kill y7.1.id x0.seq (wr .i64 (ai x0.lsn 1)),0))) none)) none)))) (cnd (ile x0.symbols x1.symbol) (some (x0,1)) (cnd x0.kill (some (x0,5)) (cnd (ieq (len y3) 64) (some (x0,6)) (af (fG y3) fun y22=>af (fK y4) fun y23=>af (fM y5) fun y24=>af (gV y6) fun y25=>af (bf (aC.mk x0.accounts x0.symbols y3 y4 y5 y6 x0.kill x0.last x0.seq x0.lsn) y7.1.account y7.1.symbol) fun y26=>cnd (band (ile 0 y26) (ilt y26 (len y4))) (af (jC (ah y4 (itn y26)) y7.1) fun y27=>cnd (aj (ieq y27.2 0)) (some (x0,3)) (cnd (ile (len (dm y3 [y7.1])) 68719476736) (af (dQ (aC.mk x0.accounts x0.symbols (dm y3 [y7.1]) (aZ y4 (itn y26) y27.1) y5 y6 x0.kill y7.1.id x0.seq x0.lsn) (aC.mk x0.accounts x0.symbols y22 y23 y24 y25 x0.kill x0.last x0.seq x0.lsn) y7.1.account y7.1.symbol) fun y28=>cnd (aj (ieq y28 0)) (some (x0,y28)) (some (aC.mk x0.accounts x0.symbols (dm y3 [y7.1]) (aZ y4 (itn y26) y27.1) y5 y6 x0.kill y7.1.id x0.seq (wr .i64 (ai x0.lsn 1)),0))) none)) none)))))) (cnd (ieq x1.kind 2) (af (lN (aC.mk x0.accounts x0.symbols y3 y4 y5 y6 x0.kill x0.last x0.seq x0.lsn) x1.order) fun y29=>cnd (ieq y29 (-1)) (some (x0,7)) (cnd (band (ile 0 y29) (ilt y29 (len y3))) (af (uM (ah y3 (itn y29)) x1.qty x1.price) fun y30=>cnd (aj (ieq y30.2 0)) (some (x0,8)) (cnd x0.kill (some (x0,5)) (af (fG y3) fun y31=>af (fK y4) fun y32=>af (fM y5) fun y33=>af (gV y6) fun y34=>af (bf (aC.mk x0.accounts x0.symbols y3 y4 y5 y6 x0.kill x0.last x0.seq x0.lsn) (ah y3 (itn y29)).account (ah y3 (itn y29)).symbol) fun y35=>cnd (band (ile 0 y35) (ilt y35 (len y4))) (af (AB (ah y4 (itn y35)) (ah y3 (itn y29))) fun y36=>af (jC y36.1 y30.1) fun y37=>cnd (aj (ieq y37.2 0)) (some (x0,3)) (cnd (band (ile 0 y29) (ilt y29 (len y3))) (af (dQ (aC.mk x0.accounts x0.symbols (aZ y3 (itn y29) y30.1) (aZ y4 (itn y35) y37.1) y5 y6 x0.kill x0.last x0.seq x0.lsn) (aC.mk x0.accounts x0.symbols y31 y32 y33 y34 x0.kill x0.last x0.seq x0.lsn) (ah y3 (itn y29)).account (ah y3 (itn y29)).symbol) fun y38=>cnd (aj (ieq y38 0)) (some (x0,y38)) (some (aC.mk x0.accounts x0.symbols (aZ y3 (itn y29) y30.1) (aZ y4 (itn y35) y37.1) y5 y6 x0.kill x0.last x0.seq (wr .i64 (ai x0.lsn 1)),0))) none)) none))) none)) (cnd (ieq x1.kind 3) (af (lN (aC.mk x0.accounts x0.symbols y3 y4 y5 y6 x0.kill x0.last x0.seq x0.lsn) x1.order) fun y39=>cnd (ieq y39 (-1)) (some (x0,7)) (cnd (band (ile 0 y39) (ilt y39 (len y3))) (af (BF (ah y3 (itn y39))) fun y40=>cnd (band (ile 0 y39) (ilt y39 (len y3))) (cnd (aj (ieq y40.2 0)) (some (x0,y40.2)) (some (aC.mk x0.accounts x0.symbols (aZ y3 (itn y39) y40.1) y4 y5 y6 x0.kill x0.last x0.seq (wr .i64 (ai x0.lsn 1)),0))) none) none)) (cnd (ieq x1.kind 4) (cnd (ile x0.accounts x1.account) (cnd (ile x0.accounts x1.account) (some (x0,1)) (cnd (ieq x1.symbol (-1)) (cnd (band (ile 0 x1.account) (ilt x1.account (len y6))) (some (aC.mk x0.accounts x0.symbols y3 y4 y5 (aZ y6 (itn x1.account) x1.opn) x0.kill x0.last x0.seq (wr .i64 (ai x0.lsn 1)),0)) none) (af (bf (aC.mk x0.accounts x0.symbols y3 y4 y5 y6 x0.kill x0.last x0.seq x0.lsn) x1.account x1.symbol) fun y41=>cnd (band (ile 0 y41) (ilt y41 (len y5))) (some (aC.mk x0.accounts x0.symbols y3 y4 (aZ y5 (itn y41) (jm.mk x1.long x1.short x1.opn)) y6 x0.kill x0.last x0.seq (wr .i64 (ai x0.lsn 1)),0)) none))) (cnd (ile x0.symbols x1.symbol) (some (x0,1)) (cnd (ieq x1.symbol (-1)) (cnd (band (ile 0 x1.account) (ilt x1.account (len y6))) (some (aC.mk x0.accounts x0.symbols y3 y4 y5 (aZ y6 (itn x1.account) x1.opn) x0.kill x0.last x0.seq (wr .i64 (ai x0.lsn 1)),0)) none) (af (bf (aC.mk x0.accounts x0.symbols y3 y4 y5 y6 x0.kill x0.last x0.seq x0.lsn) x1.account x1.symbol) fun y42=>cnd (band (ile 0 y42) (ilt y42 (len y5))) (some (aC.mk x0.accounts x0.symbols y3 y4 (aZ y5 (itn y42) (jm.mk x1.long x1.short x1.opn)) y6 x0.kill x0.last x0.seq (wr .i64 (ai x0.lsn 1)),0)) none)))) (cnd (ieq x1.kind 5) (some (aC.mk x0.accounts x0.symbols y3 y4 y5 y6 x1.on x0.last x0.seq (wr .i64 (ai x0.lsn 1)),0)) (cnd (aj (ieq x1.seq (wr .i64 (ai x0.seq 1)))) (some (x0,11)) (af (lN (aC.mk x0.accounts x0.symbols y3 y4 y5 y6 x0.kill x0.last x1.seq x0.lsn) x1.order) fun y43=>cnd (ieq y43 (-1)) (some (aC.mk x0.accounts x0.symbols y3 y4 y5 y6 x0.kill x0.last x1.seq (wr .i64 (ai x0.lsn 1)),0)) (cnd (band (ile 0 y43) (ilt y43 (len y3))) (af (zA (ah y3 (itn y43)) (fE.mk x1.seq x1.what x1.order x1.qty x1.price)) fun y44=>cnd (aj (ieq y44.2 0)) (some (aC.mk x0.accounts x0.symbols y3 y4 y5 y6 x0.kill x0.last x1.seq (wr .i64 (ai x0.lsn 1)),0)) (af (bf (aC.mk x0.accounts x0.symbols y3 y4 y5 y6 x0.kill x0.last x1.seq x0.lsn) (ah y3 (itn y43)).account (ah y3 (itn y43)).symbol) fun y45=>cnd (band (ile 0 y45) (ilt y45 (len y4))) (af (AB (ah y4 (itn y45)) (ah y3 (itn y43))) fun y46=>af (jC (ah (aZ y4 (itn y45) y46.1) (itn y45)) y44.1) fun y47=>cnd (ieq x1.what 3) (af (Ef (ah (aZ (aZ y4 (itn y45) y46.1) (itn y45) y47.1) (itn y45)) (ah y3 (itn y43)).side x1.qty) fun y48=>cnd (band (ile 0 y43) (ilt y43 (len y3))) (cnd (ieq y44.1.phase 3) (af (gm (aZ y3 (itn y43) y44.1) y43 (wr .i64 (ai y43 1))) fun y49=>some (aC.mk x0.accounts x0.symbols y49 (aZ (aZ (aZ y4 (itn y45) y46.1) (itn y45) y47.1) (itn y45) y48.1) y5 y6 x0.kill x0.last x1.seq (wr .i64 (ai x0.lsn 1)),0)) (some (aC.mk x0.accounts x0.symbols (aZ y3 (itn y43) y44.1) (aZ (aZ (aZ y4 (itn y45) y46.1) (itn y45) y47.1) (itn y45) y48.1) y5 y6 x0.kill x0.last x1.seq (wr .i64 (ai x0.lsn 1)),0))) none) (cnd (band (ile 0 y43) (ilt y43 (len y3))) (cnd (ieq y44.1.phase 3) (af (gm (aZ y3 (itn y43) y44.1) y43 (wr .i64 (ai y43 1))) fun y50=>some (aC.mk x0.accounts x0.symbols y50 (aZ (aZ y4 (itn y45) y46.1) (itn y45) y47.1) y5 y6 x0.kill x0.last x1.seq (wr .i64 (ai x0.lsn 1)),0)) (some (aC.mk x0.accounts x0.symbols (aZ y3 (itn y43) y44.1) (aZ (aZ y4 (itn y45) y46.1) (itn y45) y47.1) y5 y6 x0.kill x0.last x1.seq (wr .i64 (ai x0.lsn 1)),0))) none)) none)) none))))))))
theorem Ie:xY=AZ:=by
 funext a0 a1
 unfold xY AZ
 simp only[zI,Ah,Ap,Dc]
def dN (x0:(List eX)):Option ((List eX)):=FT (len x0) fun y0=>cnd (beq y0 true) (some []) (cnd (ile (len x0) 68719476736) (some x0) none)
theorem qc:bU=dN:=by
 funext a0
 unfold bU dN
 simp only[yB]
def FQ (x0:dU) (x1:Int) (x2:SA6):Option (dU×Int):=af (qK x0) fun y0=>cnd (aj y0) (cnd (aj y0) (some (x0,1)) (cnd (ilt 1000000000 x0.next) (some (x0,3)) (cnd (ieq (len x0.wait) 32) (some (x0,6)) (af (dN x0.wait) fun y1=>cnd (ile (len (dm y1 [eX.mk x0.epoch x0.next x1 x2.a0 x2.a1 x2.a2 x2.a3 x2.a4 x2.a5])) 68719476736) (some (dU.mk x0.epoch (wr .i64 (ai x0.next 1)) x0.sure x0.seg x0.count (dm y1 [eX.mk x0.epoch x0.next x1 x2.a0 x2.a1 x2.a2 x2.a3 x2.a4 x2.a5]),0)) none)))) (cnd (ilt x1 1) (cnd (ilt x1 1) (some (x0,1)) (cnd (ilt 1000000000 x0.next) (some (x0,3)) (cnd (ieq (len x0.wait) 32) (some (x0,6)) (af (dN x0.wait) fun y2=>cnd (ile (len (dm y2 [eX.mk x0.epoch x0.next x1 x2.a0 x2.a1 x2.a2 x2.a3 x2.a4 x2.a5])) 68719476736) (some (dU.mk x0.epoch (wr .i64 (ai x0.next 1)) x0.sure x0.seg x0.count (dm y2 [eX.mk x0.epoch x0.next x1 x2.a0 x2.a1 x2.a2 x2.a3 x2.a4 x2.a5]),0)) none)))) (cnd (ilt 6 x1) (some (x0,1)) (cnd (ilt 1000000000 x0.next) (some (x0,3)) (cnd (ieq (len x0.wait) 32) (some (x0,6)) (af (dN x0.wait) fun y3=>cnd (ile (len (dm y3 [eX.mk x0.epoch x0.next x1 x2.a0 x2.a1 x2.a2 x2.a3 x2.a4 x2.a5])) 68719476736) (some (dU.mk x0.epoch (wr .i64 (ai x0.next 1)) x0.sure x0.seg x0.count (dm y3 [eX.mk x0.epoch x0.next x1 x2.a0 x2.a1 x2.a2 x2.a3 x2.a4 x2.a5]),0)) none)))))
theorem Qz:Du=FQ:=by
 funext a0 a1 a2
 unfold Du FQ
 simp only[qc]
def vW (x0:aW) (x1:iT):Option (aW×Int):=af (AZ x0.state x1) fun y0=>cnd (aj (ieq y0.2 0)) (some (x0,y0.2)) (af (Ei x1) fun y1=>af (FQ x0.wal x1.kind y1.1) fun y2=>cnd (aj (ieq y2.2 0)) (some (x0,y2.2)) (some (aW.mk x0.disk y2.1 y0.1 x0.outbox x0.feed x0.gen x0.up,0)))
theorem CB:oJ=vW:=by
 funext a0 a1
 unfold oJ vW
 simp only[Ie,Qz]
def dW (x0:(List jw)):Option ((List jw)):=FT (len x0) fun y0=>cnd (beq y0 true) (some []) (cnd (ile (len x0) 68719476736) (some x0) none)
theorem qJ:dM=dW:=by
 funext a0
 unfold dM dW
 simp only[yB]
def zB (x0:aW) (x1:iT):Option (aW×Int):=af (qC x0) fun y0=>cnd (aj (ieq y0 0)) (some (x0,y0)) (cnd (bor (ilt x1.kind 1) (ilt 3 x1.kind)) (some (x0,1)) (af (vW x0 x1) fun y1=>cnd (aj (ieq y1.2 0)) (some (x0,y1.2)) (af (lN y1.1.state x1.order) fun y2=>cnd (band (ile 0 y2) (ilt y2 (len y1.1.state.orders))) (af (dW x0.outbox) fun y3=>af (o7 x1.kind (ah y1.1.state.orders (itn y2)) y1.1.state.lsn) fun y4=>cnd (ile (len (dm y3 [y4])) 68719476736) (some (aW.mk y1.1.disk y1.1.wal y1.1.state (dm y3 [y4]) y1.1.feed y1.1.gen y1.1.up,0)) none) none)))
theorem JK:pK=zB:=by
 funext a0 a1
 unfold pK zB
 simp only[wu,CB,qJ]
def iy (x0:ax) (x1:(List UInt8)) (x2:(List Int)):Option (ax×Int):=af (iI x0 [x1]) fun y0=>cnd (aj (ieq y0 0)) (some (x0,y0)) (af (dR x0 x1) fun y1=>af (BK x0) fun y2=>cnd (bor (ilt (wr .i64 (aA x0.room y2)) (len x2)) (band (aj y1.2) (ieq (len x0.files) 64))) (some (x0,6)) (af (aJ x0.files) fun y3=>cnd (aj y1.2) (af (bG y3 y1.1 [aB.mk x1 [] 0]) fun y4=>cnd (band (ile 0 y1.1) (ilt y1.1 (len y4))) (af (jc [Md.mk (ah y4 (itn y1.1)).data,Md.mk x2]) fun y5=>cnd (band (ile 0 y1.1) (ilt y1.1 (len y4))) (cnd (ieq x0.fuse 0) (some (ax.mk (aZ y4 (itn y1.1) (aB.mk (ah y4 (itn y1.1)).name y5 (ah y4 (itn y1.1)).sure)) x0.room x0.fuse true,9)) (cnd (ieq x0.fuse (-1)) (some (ax.mk (aZ y4 (itn y1.1) (aB.mk (ah y4 (itn y1.1)).name y5 (ah y4 (itn y1.1)).sure)) x0.room x0.fuse x0.down,0)) (some (ax.mk (aZ y4 (itn y1.1) (aB.mk (ah y4 (itn y1.1)).name y5 (ah y4 (itn y1.1)).sure)) x0.room (wr .i64 (aA x0.fuse 1)) x0.down,0)))) none) none) (cnd (band (ile 0 y1.1) (ilt y1.1 (len y3))) (af (jc [Md.mk (ah y3 (itn y1.1)).data,Md.mk x2]) fun y6=>cnd (band (ile 0 y1.1) (ilt y1.1 (len y3))) (cnd (ieq x0.fuse 0) (some (ax.mk (aZ y3 (itn y1.1) (aB.mk (ah y3 (itn y1.1)).name y6 (ah y3 (itn y1.1)).sure)) x0.room x0.fuse true,9)) (cnd (ieq x0.fuse (-1)) (some (ax.mk (aZ y3 (itn y1.1) (aB.mk (ah y3 (itn y1.1)).name y6 (ah y3 (itn y1.1)).sure)) x0.room x0.fuse x0.down,0)) (some (ax.mk (aZ y3 (itn y1.1) (aB.mk (ah y3 (itn y1.1)).name y6 (ah y3 (itn y1.1)).sure)) x0.room (wr .i64 (aA x0.fuse 1)) x0.down,0)))) none) none)))
theorem uq:iD=iy:=by
 funext a0 a1 a2
 unfold iD iy
 simp only[ig]
def iJ (x0:ax) (x1:(List UInt8)):Option (ax×Int):=af (iI x0 [x1]) fun y0=>cnd (aj (ieq y0 0)) (cnd (aj (ieq y0 0)) (some (x0,y0)) (cnd (ieq x0.fuse 0) (some (ax.mk x0.files x0.room x0.fuse true,9)) (cnd (ieq x0.fuse (-1)) (af (aJ x0.files) fun y1=>cnd (ilt 0 (len y1)) (cnd (ilt 0 (len y1)) (some (ax.mk (aZ y1 0 (aB.mk (ah y1 0).name (ah y1 0).data (len (ah y1 0).data))) x0.room x0.fuse x0.down,0)) none) none) (af (aJ x0.files) fun y2=>cnd (ilt 0 (len y2)) (cnd (ilt 0 (len y2)) (some (ax.mk (aZ y2 0 (aB.mk (ah y2 0).name (ah y2 0).data (len (ah y2 0).data))) x0.room (wr .i64 (aA x0.fuse 1)) x0.down,0)) none) none)))) (af (dR x0 x1) fun y3=>cnd (aj y3.2) (some (x0,7)) (cnd (ieq x0.fuse 0) (some (ax.mk x0.files x0.room x0.fuse true,9)) (cnd (ieq x0.fuse (-1)) (af (aJ x0.files) fun y4=>cnd (band (ile 0 y3.1) (ilt y3.1 (len y4))) (cnd (band (ile 0 y3.1) (ilt y3.1 (len y4))) (some (ax.mk (aZ y4 (itn y3.1) (aB.mk (ah y4 (itn y3.1)).name (ah y4 (itn y3.1)).data (len (ah y4 (itn y3.1)).data))) x0.room x0.fuse x0.down,0)) none) none) (af (aJ x0.files) fun y5=>cnd (band (ile 0 y3.1) (ilt y3.1 (len y5))) (cnd (band (ile 0 y3.1) (ilt y3.1 (len y5))) (some (ax.mk (aZ y5 (itn y3.1) (aB.mk (ah y5 (itn y3.1)).name (ah y5 (itn y3.1)).data (len (ah y5 (itn y3.1)).data))) x0.room (wr .i64 (aA x0.fuse 1)) x0.down,0)) none) none))))
theorem xO:iU=iJ:=by
 funext a0 a1
 unfold iU iJ
 simp only[ig]
def wB (v0:Int) (v1:ax) (v2:dU) (v3:ax) (v4:dU):Option ((Int×ax×dU×ax×dU) ⊕ ((Int×ax×dU×ax×dU) ⊕ ((Int×ax×dU×ax×dU)))):=cnd (ilt 0 (len v4.wait)) (cnd (bor (ieq v4.seg 0) (ieq v4.count 8)) (cnd (band (ile 0 (eU (len v4.wait) 8)) (ile (eU (len v4.wait) 8) (len v4.wait))) (af (uO (ay v4.wait (itn (eU (len v4.wait) 8)))) fun y0=>af (iq (wr .i64 (ai v4.sure 1))) fun y1=>af (iy v3 y1 y0.1) fun y2=>cnd (ieq y2.2 0) (af (iq (wr .i64 (ai v4.sure 1))) fun y3=>af (iJ y2.1 y3) fun y4=>cnd (aj (ieq y4.2 0)) (some (Sum.inr (Sum.inl (y4.2,y4.1,v4,y4.1,v4)))) (cnd (band (ile 0 (eU (len v4.wait) 8)) (ile (eU (len v4.wait) 8) (len v4.wait))) (af (dN (aF v4.wait (itn (eU (len v4.wait) 8)))) fun y5=>some (Sum.inl (v0,v1,v2,y4.1,dU.mk v4.epoch v4.next (wr .i64 (ai v4.sure (eU (len v4.wait) 8))) (wr .i64 (ai v4.sure 1)) (wr .i64 (ai 0 (eU (len v4.wait) 8))) y5))) none)) (cnd (aj (ieq y2.2 0)) (some (Sum.inr (Sum.inl (y2.2,y2.1,v4,y2.1,v4)))) (cnd (band (ile 0 (eU (len v4.wait) 8)) (ile (eU (len v4.wait) 8) (len v4.wait))) (af (dN (aF v4.wait (itn (eU (len v4.wait) 8)))) fun y6=>some (Sum.inl (v0,v1,v2,y2.1,dU.mk v4.epoch v4.next (wr .i64 (ai v4.sure (eU (len v4.wait) 8))) (wr .i64 (ai v4.sure 1)) (wr .i64 (ai 0 (eU (len v4.wait) 8))) y6))) none))) none) (cnd (band (ile 0 (eU (len v4.wait) (wr .i64 (aA 8 v4.count)))) (ile (eU (len v4.wait) (wr .i64 (aA 8 v4.count))) (len v4.wait))) (af (uO (ay v4.wait (itn (eU (len v4.wait) (wr .i64 (aA 8 v4.count)))))) fun y7=>af (iq v4.seg) fun y8=>af (iy v3 y8 y7.1) fun y9=>cnd (ieq y9.2 0) (af (iq v4.seg) fun y10=>af (iJ y9.1 y10) fun y11=>cnd (aj (ieq y11.2 0)) (some (Sum.inr (Sum.inl (y11.2,y11.1,v4,y11.1,v4)))) (cnd (band (ile 0 (eU (len v4.wait) (wr .i64 (aA 8 v4.count)))) (ile (eU (len v4.wait) (wr .i64 (aA 8 v4.count))) (len v4.wait))) (af (dN (aF v4.wait (itn (eU (len v4.wait) (wr .i64 (aA 8 v4.count)))))) fun y12=>some (Sum.inl (v0,v1,v2,y11.1,dU.mk v4.epoch v4.next (wr .i64 (ai v4.sure (eU (len v4.wait) (wr .i64 (aA 8 v4.count))))) v4.seg (wr .i64 (ai v4.count (eU (len v4.wait) (wr .i64 (aA 8 v4.count))))) y12))) none)) (cnd (aj (ieq y9.2 0)) (some (Sum.inr (Sum.inl (y9.2,y9.1,v4,y9.1,v4)))) (cnd (band (ile 0 (eU (len v4.wait) (wr .i64 (aA 8 v4.count)))) (ile (eU (len v4.wait) (wr .i64 (aA 8 v4.count))) (len v4.wait))) (af (dN (aF v4.wait (itn (eU (len v4.wait) (wr .i64 (aA 8 v4.count)))))) fun y13=>some (Sum.inl (v0,v1,v2,y9.1,dU.mk v4.epoch v4.next (wr .i64 (ai v4.sure (eU (len v4.wait) (wr .i64 (aA 8 v4.count))))) v4.seg (wr .i64 (ai v4.count (eU (len v4.wait) (wr .i64 (aA 8 v4.count))))) y13))) none))) none)) (some (Sum.inr (Sum.inr (v0,v1,v2,v3,v4))))
theorem Ip:oG=wB:=by
 funext a0 a1 a2 a3 a4
 unfold oG wB
 simp only[qc,uq,xO]
def Aj (x0:dU) (x1:ax):Option (dU×ax×Int):=af (xR x0 x1) fun y0=>cnd (aj y0) (some (x0,x1,1)) (af (bD (fun v=>wB v.1 v.2.1 v.2.2.1 v.2.2.2.1 v.2.2.2.2) LF (0,ax.mk [] 0 0 false,dU.mk 0 0 0 0 0 [],x1,x0)) fun y1=>gK y1 (fun y2=>some (y2.2.2.1,y2.2.1,y2.1)) fun y2=>some (y2.2.2.2.2,y2.2.2.2.1,0))
theorem MC:vI=Aj:=by
 funext a0 a1
 unfold vI Aj
 simp only[Ip]
def qP (x0:aW):Option (aW×Int):=af (Aj x0.wal x0.disk) fun y0=>cnd y0.2.1.down (af (o6 (aW.mk y0.2.1 y0.1 x0.state x0.outbox x0.feed x0.gen x0.up)) fun y1=>some (y1,y0.2.2)) (some (aW.mk y0.2.1 y0.1 x0.state x0.outbox x0.feed x0.gen x0.up,y0.2.2))
theorem zN:nJ=qP:=by
 funext a0
 unfold nJ qP
 simp only[MC]
def xW (x0:(List jw)) (x1:Int):Option ((List jw)×(List jw)):=af (bD (fun v=>cZ (len x0) x0 x1 v.1 v.2) LF (0,0)) fun y0=>gK y0 (fun y1=>cnd (ilt y1 0) (cnd (band (ile 0 (len x0)) (ile (len x0) (len x0))) (af (dW (ay x0 (itn (len x0)))) fun y2=>cnd (band (ile 0 (len x0)) (ile (len x0) (len x0))) (af (dW (aF x0 (itn (len x0)))) fun y3=>some (y2,y3)) none) none) (cnd (band (ile 0 y1) (ile y1 (len x0))) (af (dW (ay x0 (itn y1))) fun y4=>cnd (band (ile 0 y1) (ile y1 (len x0))) (af (dW (aF x0 (itn y1))) fun y5=>some (y4,y5)) none) none)) fun y1=>cnd (band (ile 0 (len x0)) (ile (len x0) (len x0))) (af (dW (ay x0 (itn (len x0)))) fun y6=>cnd (band (ile 0 (len x0)) (ile (len x0) (len x0))) (af (dW (aF x0 (itn (len x0)))) fun y7=>some (y6,y7)) none) none
theorem JB:qB=xW:=by
 funext a0 a1
 unfold qB xW
 simp only[qJ]
def qG (x0:aW):Option (aW×(List jw)×Int):=af (qC x0) fun y0=>cnd (aj (ieq y0 0)) (some (x0,[],y0)) (af (qP x0) fun y1=>cnd (aj y1.1.up) (some (y1.1,[],y1.2)) (af (xW y1.1.outbox y1.1.wal.sure) fun y2=>some (aW.mk y1.1.disk y1.1.wal y1.1.state y2.2 y1.1.feed y1.1.gen y1.1.up,y2.1,y1.2)))
theorem wG:mW=qG:=by
 funext a0
 unfold mW qG
 simp only[wu,zN,JB]
def Ey (x0:aC) (x1:iT):Option (Int):=af (AZ x0 x1) fun y0=>some y0.2
theorem Qm:Ij=Ey:=by
 funext a0 a1
 unfold Ij Ey
 simp only[Ie]
def Cb (x0:aW) (x1:iT):Option (aW×(List jw)×Int):=af (qC x0) fun y0=>cnd (aj (ieq y0 0)) (some (x0,[],y0)) (cnd (band (aj (ieq x1.kind 4)) (aj (ieq x1.kind 5))) (some (x0,[],1)) (af (Ey x0.state x1) fun y1=>cnd (aj (ieq y1 0)) (some (x0,[],y1)) (af (qG x0) fun y2=>cnd (aj (ieq y2.2.2 0)) (some y2) (af (vW y2.1 x1) fun y3=>cnd (aj (ieq y3.2 0)) (some (y2.1,y2.2.1,y3.2)) (af (qP y3.1) fun y4=>cnd (ieq y4.2 0) (some (y4.1,y2.2.1,0)) (cnd y4.1.up (some (y2.1,y2.2.1,y4.2)) (af (o6 (aW.mk y4.1.disk y2.1.wal y2.1.state y2.1.outbox y2.1.feed y2.1.gen y2.1.up)) fun y5=>some (y5,y2.2.1,y4.2))))))))
theorem NR:Fg=Cb:=by
 funext a0 a1
 unfold Fg Cb
 simp only[wu,CB,zN,wG,Qm]
def dH (x0:(List Int)):Option ((List Int)):=FT (len x0) fun y0=>cnd (beq y0 true) (some []) (cnd (ile (len x0) 68719476736) (some x0) none)
theorem vg:dX=dH:=by
 funext a0
 unfold dX dH
 simp only[yB]
def kY (x0:ax) (x1:(List UInt8)):Option ((List Int)×Int):=af (iI x0 [x1]) fun y0=>cnd (aj (ieq y0 0)) (cnd (aj (ieq y0 0)) (some ([],y0)) (cnd (ilt 0 (len x0.files)) (af (dH (ah x0.files 0).data) fun y1=>some (y1,0)) none)) (af (dR x0 x1) fun y2=>cnd (aj y2.2) (some ([],7)) (cnd (band (ile 0 y2.1) (ilt y2.1 (len x0.files))) (af (dH (ah x0.files (itn y2.1)).data) fun y3=>some (y3,0)) none))
theorem xM:oV=kY:=by
 funext a0 a1
 unfold oV kY
 simp only[vg]
def xE (x0:ax):Option (iE×Int):=af (lI x0) fun y0=>cnd (aj y0) (some (iE.mk 0 0,1)) (cnd x0.down (some (iE.mk 0 0,9)) (af (lJ 0) fun y1=>af (kY x0 y1) fun y2=>af (pU y2.1) fun y3=>cnd (band (band (ieq y3.2 0) (ieq (YK y3.1.gen 2) 0)) (ilt 0 y3.1.gen)) (af (lJ 1) fun y4=>af (kY x0 y4) fun y5=>af (pU y5.1) fun y6=>cnd (band (band (ieq y6.2 0) (ieq (YK y6.1.gen 2) 1)) (ilt y3.1.gen y6.1.gen)) (cnd (ieq y6.1.gen 0) (some (iE.mk 0 0,7)) (some (y6.1,0))) (cnd (ieq y3.1.gen 0) (some (iE.mk 0 0,7)) (some (y3.1,0)))) (af (lJ 1) fun y7=>af (kY x0 y7) fun y8=>af (pU y8.1) fun y9=>cnd (band (band (ieq y9.2 0) (ieq (YK y9.1.gen 2) 1)) (ilt 0 y9.1.gen)) (cnd (ieq y9.1.gen 0) (some (iE.mk 0 0,7)) (some (y9.1,0))) (some (iE.mk 0 0,7)))))
theorem En:Bj=xE:=by
 funext a0
 unfold Bj xE
 simp only[xM]
def jD (x0:ax) (x1:(List UInt8)) (x2:(List UInt8)):Option (ax×Int):=cnd (ile (len (dm [x2] [x1])) 68719476736) (af (iI x0 (dm [x2] [x1])) fun y0=>cnd (aj (ieq y0 0)) (cnd (aj (ieq y0 0)) (some (x0,y0)) (cnd (ieq x0.fuse 0) (some (ax.mk x0.files x0.room x0.fuse true,9)) (cnd (ieq x0.fuse (-1)) (cnd (ilt 0 (len x0.files)) (af (aJ x0.files) fun y1=>cnd (band (ile 1 (len y1)) (band (ile 1 (len y1)) (ile (len y1) (len y1)))) (cnd (ile 0 (len y1)) (cnd (ile 1 (len y1)) (cnd (ile (ai 0 (len (ay (aF y1 1) (itn (aA (len y1) 1))))) (len y1)) (cnd (band (band (ile 0 (nti (nad 0 (itn (len (ay (aF y1 1) (itn (aA (len y1) 1)))))))) (ile (nti (nad 0 (itn (len (ay (aF y1 1) (itn (aA (len y1) 1))))))) (len y1))) (ile (len y1) (aA (len (dY y1 0 (ay (aF y1 1) (itn (aA (len y1) 1))))) 0))) (af (dR (ax.mk (ay (dY (dY y1 0 (ay (aF y1 1) (itn (aA (len y1) 1)))) (nad 0 (itn (nti (nad 0 (itn (len (ay (aF y1 1) (itn (aA (len y1) 1))))))))) (jJ aB (itn (aA (len y1) (nti (nad 0 (itn (len (ay (aF y1 1) (itn (aA (len y1) 1))))))))))) (nad 0 (itn (len (ay (aF y1 1) (itn (aA (len y1) 1))))))) x0.room x0.fuse x0.down) x2) fun y2=>cnd y2.2 (cnd (band (ile 0 y2.1) (ilt y2.1 (len (ay (dY (dY y1 0 (ay (aF y1 1) (itn (aA (len y1) 1)))) (nad 0 (itn (nti (nad 0 (itn (len (ay (aF y1 1) (itn (aA (len y1) 1))))))))) (jJ aB (itn (aA (len y1) (nti (nad 0 (itn (len (ay (aF y1 1) (itn (aA (len y1) 1))))))))))) (nad 0 (itn (len (ay (aF y1 1) (itn (aA (len y1) 1)))))))))) (some (ax.mk (aZ (ay (dY (dY y1 0 (ay (aF y1 1) (itn (aA (len y1) 1)))) (nad 0 (itn (nti (nad 0 (itn (len (ay (aF y1 1) (itn (aA (len y1) 1))))))))) (jJ aB (itn (aA (len y1) (nti (nad 0 (itn (len (ay (aF y1 1) (itn (aA (len y1) 1))))))))))) (nad 0 (itn (len (ay (aF y1 1) (itn (aA (len y1) 1))))))) (itn y2.1) (aB.mk x2 (ah x0.files 0).data (ah x0.files 0).sure)) x0.room x0.fuse x0.down,0)) none) (af (bG (ay (dY (dY y1 0 (ay (aF y1 1) (itn (aA (len y1) 1)))) (nad 0 (itn (nti (nad 0 (itn (len (ay (aF y1 1) (itn (aA (len y1) 1))))))))) (jJ aB (itn (aA (len y1) (nti (nad 0 (itn (len (ay (aF y1 1) (itn (aA (len y1) 1))))))))))) (nad 0 (itn (len (ay (aF y1 1) (itn (aA (len y1) 1))))))) y2.1 [aB.mk x2 (ah x0.files 0).data (ah x0.files 0).sure]) fun y3=>some (ax.mk y3 x0.room x0.fuse x0.down,0))) none) none) none) none) none) none) (cnd (ilt 0 (len x0.files)) (af (aJ x0.files) fun y4=>cnd (band (ile 1 (len y4)) (band (ile 1 (len y4)) (ile (len y4) (len y4)))) (cnd (ile 0 (len y4)) (cnd (ile 1 (len y4)) (cnd (ile (ai 0 (len (ay (aF y4 1) (itn (aA (len y4) 1))))) (len y4)) (cnd (band (band (ile 0 (nti (nad 0 (itn (len (ay (aF y4 1) (itn (aA (len y4) 1)))))))) (ile (nti (nad 0 (itn (len (ay (aF y4 1) (itn (aA (len y4) 1))))))) (len y4))) (ile (len y4) (aA (len (dY y4 0 (ay (aF y4 1) (itn (aA (len y4) 1))))) 0))) (af (dR (ax.mk (ay (dY (dY y4 0 (ay (aF y4 1) (itn (aA (len y4) 1)))) (nad 0 (itn (nti (nad 0 (itn (len (ay (aF y4 1) (itn (aA (len y4) 1))))))))) (jJ aB (itn (aA (len y4) (nti (nad 0 (itn (len (ay (aF y4 1) (itn (aA (len y4) 1))))))))))) (nad 0 (itn (len (ay (aF y4 1) (itn (aA (len y4) 1))))))) x0.room (wr .i64 (aA x0.fuse 1)) x0.down) x2) fun y5=>cnd y5.2 (cnd (band (ile 0 y5.1) (ilt y5.1 (len (ay (dY (dY y4 0 (ay (aF y4 1) (itn (aA (len y4) 1)))) (nad 0 (itn (nti (nad 0 (itn (len (ay (aF y4 1) (itn (aA (len y4) 1))))))))) (jJ aB (itn (aA (len y4) (nti (nad 0 (itn (len (ay (aF y4 1) (itn (aA (len y4) 1))))))))))) (nad 0 (itn (len (ay (aF y4 1) (itn (aA (len y4) 1)))))))))) (some (ax.mk (aZ (ay (dY (dY y4 0 (ay (aF y4 1) (itn (aA (len y4) 1)))) (nad 0 (itn (nti (nad 0 (itn (len (ay (aF y4 1) (itn (aA (len y4) 1))))))))) (jJ aB (itn (aA (len y4) (nti (nad 0 (itn (len (ay (aF y4 1) (itn (aA (len y4) 1))))))))))) (nad 0 (itn (len (ay (aF y4 1) (itn (aA (len y4) 1))))))) (itn y5.1) (aB.mk x2 (ah x0.files 0).data (ah x0.files 0).sure)) x0.room (wr .i64 (aA x0.fuse 1)) x0.down,0)) none) (af (bG (ay (dY (dY y4 0 (ay (aF y4 1) (itn (aA (len y4) 1)))) (nad 0 (itn (nti (nad 0 (itn (len (ay (aF y4 1) (itn (aA (len y4) 1))))))))) (jJ aB (itn (aA (len y4) (nti (nad 0 (itn (len (ay (aF y4 1) (itn (aA (len y4) 1))))))))))) (nad 0 (itn (len (ay (aF y4 1) (itn (aA (len y4) 1))))))) y5.1 [aB.mk x2 (ah x0.files 0).data (ah x0.files 0).sure]) fun y6=>some (ax.mk y6 x0.room (wr .i64 (aA x0.fuse 1)) x0.down,0))) none) none) none) none) none) none)))) (af (dR x0 x1) fun y7=>cnd (aj y7.2) (some (x0,7)) (cnd (ieq x0.fuse 0) (some (ax.mk x0.files x0.room x0.fuse true,9)) (cnd (ieq x0.fuse (-1)) (cnd (band (ile 0 y7.1) (ilt y7.1 (len x0.files))) (af (aJ x0.files) fun y8=>cnd (band (band (band (ile 0 y7.1) (ile y7.1 (wr .i64 (ai y7.1 1)))) (ile (wr .i64 (ai y7.1 1)) (len y8))) (band (ile (wr .i64 (ai y7.1 1)) (len y8)) (ile (len y8) (len y8)))) (cnd (ieq y7.1 (wr .i64 (ai y7.1 1))) (af (dR (ax.mk y8 x0.room x0.fuse x0.down) x2) fun y9=>cnd y9.2 (cnd (band (ile 0 y9.1) (ilt y9.1 (len y8))) (some (ax.mk (aZ y8 (itn y9.1) (aB.mk x2 (ah x0.files (itn y7.1)).data (ah x0.files (itn y7.1)).sure)) x0.room x0.fuse x0.down,0)) none) (af (bG y8 y9.1 [aB.mk x2 (ah x0.files (itn y7.1)).data (ah x0.files (itn y7.1)).sure]) fun y10=>some (ax.mk y10 x0.room x0.fuse x0.down,0))) (cnd (band (ile 0 y7.1) (ile y7.1 (len y8))) (cnd (band (ile 0 (wr .i64 (ai y7.1 1))) (ile (wr .i64 (ai y7.1 1)) (len y8))) (cnd (ile (ai (nti (itn y7.1)) (len (ay (aF y8 (itn (wr .i64 (ai y7.1 1)))) (itn (aA (len y8) (wr .i64 (ai y7.1 1))))))) (len y8)) (cnd (band (band (ile 0 (nti (nad (itn y7.1) (itn (len (ay (aF y8 (itn (wr .i64 (ai y7.1 1)))) (itn (aA (len y8) (wr .i64 (ai y7.1 1)))))))))) (ile (nti (nad (itn y7.1) (itn (len (ay (aF y8 (itn (wr .i64 (ai y7.1 1)))) (itn (aA (len y8) (wr .i64 (ai y7.1 1))))))))) (len y8))) (ile (len y8) (aA (len (dY y8 (itn y7.1) (ay (aF y8 (itn (wr .i64 (ai y7.1 1)))) (itn (aA (len y8) (wr .i64 (ai y7.1 1))))))) 0))) (af (dR (ax.mk (ay (dY (dY y8 (itn y7.1) (ay (aF y8 (itn (wr .i64 (ai y7.1 1)))) (itn (aA (len y8) (wr .i64 (ai y7.1 1)))))) (nad 0 (itn (nti (nad (itn y7.1) (itn (len (ay (aF y8 (itn (wr .i64 (ai y7.1 1)))) (itn (aA (len y8) (wr .i64 (ai y7.1 1))))))))))) (jJ aB (itn (aA (len y8) (nti (nad (itn y7.1) (itn (len (ay (aF y8 (itn (wr .i64 (ai y7.1 1)))) (itn (aA (len y8) (wr .i64 (ai y7.1 1))))))))))))) (nad (itn y7.1) (itn (len (ay (aF y8 (itn (wr .i64 (ai y7.1 1)))) (itn (aA (len y8) (wr .i64 (ai y7.1 1))))))))) x0.room x0.fuse x0.down) x2) fun y11=>cnd y11.2 (cnd (band (ile 0 y11.1) (ilt y11.1 (len (ay (dY (dY y8 (itn y7.1) (ay (aF y8 (itn (wr .i64 (ai y7.1 1)))) (itn (aA (len y8) (wr .i64 (ai y7.1 1)))))) (nad 0 (itn (nti (nad (itn y7.1) (itn (len (ay (aF y8 (itn (wr .i64 (ai y7.1 1)))) (itn (aA (len y8) (wr .i64 (ai y7.1 1))))))))))) (jJ aB (itn (aA (len y8) (nti (nad (itn y7.1) (itn (len (ay (aF y8 (itn (wr .i64 (ai y7.1 1)))) (itn (aA (len y8) (wr .i64 (ai y7.1 1))))))))))))) (nad (itn y7.1) (itn (len (ay (aF y8 (itn (wr .i64 (ai y7.1 1)))) (itn (aA (len y8) (wr .i64 (ai y7.1 1)))))))))))) (some (ax.mk (aZ (ay (dY (dY y8 (itn y7.1) (ay (aF y8 (itn (wr .i64 (ai y7.1 1)))) (itn (aA (len y8) (wr .i64 (ai y7.1 1)))))) (nad 0 (itn (nti (nad (itn y7.1) (itn (len (ay (aF y8 (itn (wr .i64 (ai y7.1 1)))) (itn (aA (len y8) (wr .i64 (ai y7.1 1))))))))))) (jJ aB (itn (aA (len y8) (nti (nad (itn y7.1) (itn (len (ay (aF y8 (itn (wr .i64 (ai y7.1 1)))) (itn (aA (len y8) (wr .i64 (ai y7.1 1))))))))))))) (nad (itn y7.1) (itn (len (ay (aF y8 (itn (wr .i64 (ai y7.1 1)))) (itn (aA (len y8) (wr .i64 (ai y7.1 1))))))))) (itn y11.1) (aB.mk x2 (ah x0.files (itn y7.1)).data (ah x0.files (itn y7.1)).sure)) x0.room x0.fuse x0.down,0)) none) (af (bG (ay (dY (dY y8 (itn y7.1) (ay (aF y8 (itn (wr .i64 (ai y7.1 1)))) (itn (aA (len y8) (wr .i64 (ai y7.1 1)))))) (nad 0 (itn (nti (nad (itn y7.1) (itn (len (ay (aF y8 (itn (wr .i64 (ai y7.1 1)))) (itn (aA (len y8) (wr .i64 (ai y7.1 1))))))))))) (jJ aB (itn (aA (len y8) (nti (nad (itn y7.1) (itn (len (ay (aF y8 (itn (wr .i64 (ai y7.1 1)))) (itn (aA (len y8) (wr .i64 (ai y7.1 1))))))))))))) (nad (itn y7.1) (itn (len (ay (aF y8 (itn (wr .i64 (ai y7.1 1)))) (itn (aA (len y8) (wr .i64 (ai y7.1 1))))))))) y11.1 [aB.mk x2 (ah x0.files (itn y7.1)).data (ah x0.files (itn y7.1)).sure]) fun y12=>some (ax.mk y12 x0.room x0.fuse x0.down,0))) none) none) none) none)) none) none) (cnd (band (ile 0 y7.1) (ilt y7.1 (len x0.files))) (af (aJ x0.files) fun y13=>cnd (band (band (band (ile 0 y7.1) (ile y7.1 (wr .i64 (ai y7.1 1)))) (ile (wr .i64 (ai y7.1 1)) (len y13))) (band (ile (wr .i64 (ai y7.1 1)) (len y13)) (ile (len y13) (len y13)))) (cnd (ieq y7.1 (wr .i64 (ai y7.1 1))) (af (dR (ax.mk y13 x0.room (wr .i64 (aA x0.fuse 1)) x0.down) x2) fun y14=>cnd y14.2 (cnd (band (ile 0 y14.1) (ilt y14.1 (len y13))) (some (ax.mk (aZ y13 (itn y14.1) (aB.mk x2 (ah x0.files (itn y7.1)).data (ah x0.files (itn y7.1)).sure)) x0.room (wr .i64 (aA x0.fuse 1)) x0.down,0)) none) (af (bG y13 y14.1 [aB.mk x2 (ah x0.files (itn y7.1)).data (ah x0.files (itn y7.1)).sure]) fun y15=>some (ax.mk y15 x0.room (wr .i64 (aA x0.fuse 1)) x0.down,0))) (cnd (band (ile 0 y7.1) (ile y7.1 (len y13))) (cnd (band (ile 0 (wr .i64 (ai y7.1 1))) (ile (wr .i64 (ai y7.1 1)) (len y13))) (cnd (ile (ai (nti (itn y7.1)) (len (ay (aF y13 (itn (wr .i64 (ai y7.1 1)))) (itn (aA (len y13) (wr .i64 (ai y7.1 1))))))) (len y13)) (cnd (band (band (ile 0 (nti (nad (itn y7.1) (itn (len (ay (aF y13 (itn (wr .i64 (ai y7.1 1)))) (itn (aA (len y13) (wr .i64 (ai y7.1 1)))))))))) (ile (nti (nad (itn y7.1) (itn (len (ay (aF y13 (itn (wr .i64 (ai y7.1 1)))) (itn (aA (len y13) (wr .i64 (ai y7.1 1))))))))) (len y13))) (ile (len y13) (aA (len (dY y13 (itn y7.1) (ay (aF y13 (itn (wr .i64 (ai y7.1 1)))) (itn (aA (len y13) (wr .i64 (ai y7.1 1))))))) 0))) (af (dR (ax.mk (ay (dY (dY y13 (itn y7.1) (ay (aF y13 (itn (wr .i64 (ai y7.1 1)))) (itn (aA (len y13) (wr .i64 (ai y7.1 1)))))) (nad 0 (itn (nti (nad (itn y7.1) (itn (len (ay (aF y13 (itn (wr .i64 (ai y7.1 1)))) (itn (aA (len y13) (wr .i64 (ai y7.1 1))))))))))) (jJ aB (itn (aA (len y13) (nti (nad (itn y7.1) (itn (len (ay (aF y13 (itn (wr .i64 (ai y7.1 1)))) (itn (aA (len y13) (wr .i64 (ai y7.1 1))))))))))))) (nad (itn y7.1) (itn (len (ay (aF y13 (itn (wr .i64 (ai y7.1 1)))) (itn (aA (len y13) (wr .i64 (ai y7.1 1))))))))) x0.room (wr .i64 (aA x0.fuse 1)) x0.down) x2) fun y16=>cnd y16.2 (cnd (band (ile 0 y16.1) (ilt y16.1 (len (ay (dY (dY y13 (itn y7.1) (ay (aF y13 (itn (wr .i64 (ai y7.1 1)))) (itn (aA (len y13) (wr .i64 (ai y7.1 1)))))) (nad 0 (itn (nti (nad (itn y7.1) (itn (len (ay (aF y13 (itn (wr .i64 (ai y7.1 1)))) (itn (aA (len y13) (wr .i64 (ai y7.1 1))))))))))) (jJ aB (itn (aA (len y13) (nti (nad (itn y7.1) (itn (len (ay (aF y13 (itn (wr .i64 (ai y7.1 1)))) (itn (aA (len y13) (wr .i64 (ai y7.1 1))))))))))))) (nad (itn y7.1) (itn (len (ay (aF y13 (itn (wr .i64 (ai y7.1 1)))) (itn (aA (len y13) (wr .i64 (ai y7.1 1)))))))))))) (some (ax.mk (aZ (ay (dY (dY y13 (itn y7.1) (ay (aF y13 (itn (wr .i64 (ai y7.1 1)))) (itn (aA (len y13) (wr .i64 (ai y7.1 1)))))) (nad 0 (itn (nti (nad (itn y7.1) (itn (len (ay (aF y13 (itn (wr .i64 (ai y7.1 1)))) (itn (aA (len y13) (wr .i64 (ai y7.1 1))))))))))) (jJ aB (itn (aA (len y13) (nti (nad (itn y7.1) (itn (len (ay (aF y13 (itn (wr .i64 (ai y7.1 1)))) (itn (aA (len y13) (wr .i64 (ai y7.1 1))))))))))))) (nad (itn y7.1) (itn (len (ay (aF y13 (itn (wr .i64 (ai y7.1 1)))) (itn (aA (len y13) (wr .i64 (ai y7.1 1))))))))) (itn y16.1) (aB.mk x2 (ah x0.files (itn y7.1)).data (ah x0.files (itn y7.1)).sure)) x0.room (wr .i64 (aA x0.fuse 1)) x0.down,0)) none) (af (bG (ay (dY (dY y13 (itn y7.1) (ay (aF y13 (itn (wr .i64 (ai y7.1 1)))) (itn (aA (len y13) (wr .i64 (ai y7.1 1)))))) (nad 0 (itn (nti (nad (itn y7.1) (itn (len (ay (aF y13 (itn (wr .i64 (ai y7.1 1)))) (itn (aA (len y13) (wr .i64 (ai y7.1 1))))))))))) (jJ aB (itn (aA (len y13) (nti (nad (itn y7.1) (itn (len (ay (aF y13 (itn (wr .i64 (ai y7.1 1)))) (itn (aA (len y13) (wr .i64 (ai y7.1 1))))))))))))) (nad (itn y7.1) (itn (len (ay (aF y13 (itn (wr .i64 (ai y7.1 1)))) (itn (aA (len y13) (wr .i64 (ai y7.1 1))))))))) y16.1 [aB.mk x2 (ah x0.files (itn y7.1)).data (ah x0.files (itn y7.1)).sure]) fun y17=>some (ax.mk y17 x0.room (wr .i64 (aA x0.fuse 1)) x0.down,0))) none) none) none) none)) none) none))))) none
theorem JZ:lH=jD:=by
 funext a0 a1 a2
 unfold lH jD
 simp only[ig]
def zu (x0:ax) (x1:(List UInt8)) (x2:Int):Option (ax×Int):=af (iI x0 [x1]) fun y0=>cnd (aj (ieq y0 0)) (cnd (aj (ieq y0 0)) (some (x0,y0)) (cnd (ilt x2 0) (cnd (ilt x2 0) (some (x0,1)) (cnd (ieq x0.fuse 0) (some (ax.mk x0.files x0.room x0.fuse true,9)) (cnd (ieq x0.fuse (-1)) (af (aJ x0.files) fun y1=>cnd (ilt 0 (len y1)) (cnd (band (ile 0 x2) (ile x2 (len (ah y1 0).data))) (af (dH (ay (ah y1 0).data (itn x2))) fun y2=>some (ax.mk (aZ (aZ y1 0 (aB.mk (ah y1 0).name y2 (ah y1 0).sure)) 0 (aB.mk (ah (aZ y1 0 (aB.mk (ah y1 0).name y2 (ah y1 0).sure)) 0).name (ah (aZ y1 0 (aB.mk (ah y1 0).name y2 (ah y1 0).sure)) 0).data (eU (ah y1 0).sure x2))) x0.room x0.fuse x0.down,0)) none) none) (af (aJ x0.files) fun y3=>cnd (ilt 0 (len y3)) (cnd (band (ile 0 x2) (ile x2 (len (ah y3 0).data))) (af (dH (ay (ah y3 0).data (itn x2))) fun y4=>some (ax.mk (aZ (aZ y3 0 (aB.mk (ah y3 0).name y4 (ah y3 0).sure)) 0 (aB.mk (ah (aZ y3 0 (aB.mk (ah y3 0).name y4 (ah y3 0).sure)) 0).name (ah (aZ y3 0 (aB.mk (ah y3 0).name y4 (ah y3 0).sure)) 0).data (eU (ah y3 0).sure x2))) x0.room (wr .i64 (aA x0.fuse 1)) x0.down,0)) none) none)))) (cnd (ilt 0 (len x0.files)) (cnd (ilt (len (ah x0.files 0).data) x2) (some (x0,1)) (cnd (ieq x0.fuse 0) (some (ax.mk x0.files x0.room x0.fuse true,9)) (cnd (ieq x0.fuse (-1)) (af (aJ x0.files) fun y5=>cnd (ilt 0 (len y5)) (cnd (band (ile 0 x2) (ile x2 (len (ah y5 0).data))) (af (dH (ay (ah y5 0).data (itn x2))) fun y6=>some (ax.mk (aZ (aZ y5 0 (aB.mk (ah y5 0).name y6 (ah y5 0).sure)) 0 (aB.mk (ah (aZ y5 0 (aB.mk (ah y5 0).name y6 (ah y5 0).sure)) 0).name (ah (aZ y5 0 (aB.mk (ah y5 0).name y6 (ah y5 0).sure)) 0).data (eU (ah y5 0).sure x2))) x0.room x0.fuse x0.down,0)) none) none) (af (aJ x0.files) fun y7=>cnd (ilt 0 (len y7)) (cnd (band (ile 0 x2) (ile x2 (len (ah y7 0).data))) (af (dH (ay (ah y7 0).data (itn x2))) fun y8=>some (ax.mk (aZ (aZ y7 0 (aB.mk (ah y7 0).name y8 (ah y7 0).sure)) 0 (aB.mk (ah (aZ y7 0 (aB.mk (ah y7 0).name y8 (ah y7 0).sure)) 0).name (ah (aZ y7 0 (aB.mk (ah y7 0).name y8 (ah y7 0).sure)) 0).data (eU (ah y7 0).sure x2))) x0.room (wr .i64 (aA x0.fuse 1)) x0.down,0)) none) none)))) none))) (af (dR x0 x1) fun y9=>cnd (aj y9.2) (some (x0,7)) (cnd (ilt x2 0) (cnd (ilt x2 0) (some (x0,1)) (cnd (ieq x0.fuse 0) (some (ax.mk x0.files x0.room x0.fuse true,9)) (cnd (ieq x0.fuse (-1)) (af (aJ x0.files) fun y10=>cnd (band (ile 0 y9.1) (ilt y9.1 (len y10))) (cnd (band (ile 0 x2) (ile x2 (len (ah y10 (itn y9.1)).data))) (af (dH (ay (ah y10 (itn y9.1)).data (itn x2))) fun y11=>some (ax.mk (aZ (aZ y10 (itn y9.1) (aB.mk (ah y10 (itn y9.1)).name y11 (ah y10 (itn y9.1)).sure)) (itn y9.1) (aB.mk (ah (aZ y10 (itn y9.1) (aB.mk (ah y10 (itn y9.1)).name y11 (ah y10 (itn y9.1)).sure)) (itn y9.1)).name (ah (aZ y10 (itn y9.1) (aB.mk (ah y10 (itn y9.1)).name y11 (ah y10 (itn y9.1)).sure)) (itn y9.1)).data (eU (ah y10 (itn y9.1)).sure x2))) x0.room x0.fuse x0.down,0)) none) none) (af (aJ x0.files) fun y12=>cnd (band (ile 0 y9.1) (ilt y9.1 (len y12))) (cnd (band (ile 0 x2) (ile x2 (len (ah y12 (itn y9.1)).data))) (af (dH (ay (ah y12 (itn y9.1)).data (itn x2))) fun y13=>some (ax.mk (aZ (aZ y12 (itn y9.1) (aB.mk (ah y12 (itn y9.1)).name y13 (ah y12 (itn y9.1)).sure)) (itn y9.1) (aB.mk (ah (aZ y12 (itn y9.1) (aB.mk (ah y12 (itn y9.1)).name y13 (ah y12 (itn y9.1)).sure)) (itn y9.1)).name (ah (aZ y12 (itn y9.1) (aB.mk (ah y12 (itn y9.1)).name y13 (ah y12 (itn y9.1)).sure)) (itn y9.1)).data (eU (ah y12 (itn y9.1)).sure x2))) x0.room (wr .i64 (aA x0.fuse 1)) x0.down,0)) none) none)))) (cnd (band (ile 0 y9.1) (ilt y9.1 (len x0.files))) (cnd (ilt (len (ah x0.files (itn y9.1)).data) x2) (some (x0,1)) (cnd (ieq x0.fuse 0) (some (ax.mk x0.files x0.room x0.fuse true,9)) (cnd (ieq x0.fuse (-1)) (af (aJ x0.files) fun y14=>cnd (band (ile 0 y9.1) (ilt y9.1 (len y14))) (cnd (band (ile 0 x2) (ile x2 (len (ah y14 (itn y9.1)).data))) (af (dH (ay (ah y14 (itn y9.1)).data (itn x2))) fun y15=>some (ax.mk (aZ (aZ y14 (itn y9.1) (aB.mk (ah y14 (itn y9.1)).name y15 (ah y14 (itn y9.1)).sure)) (itn y9.1) (aB.mk (ah (aZ y14 (itn y9.1) (aB.mk (ah y14 (itn y9.1)).name y15 (ah y14 (itn y9.1)).sure)) (itn y9.1)).name (ah (aZ y14 (itn y9.1) (aB.mk (ah y14 (itn y9.1)).name y15 (ah y14 (itn y9.1)).sure)) (itn y9.1)).data (eU (ah y14 (itn y9.1)).sure x2))) x0.room x0.fuse x0.down,0)) none) none) (af (aJ x0.files) fun y16=>cnd (band (ile 0 y9.1) (ilt y9.1 (len y16))) (cnd (band (ile 0 x2) (ile x2 (len (ah y16 (itn y9.1)).data))) (af (dH (ay (ah y16 (itn y9.1)).data (itn x2))) fun y17=>some (ax.mk (aZ (aZ y16 (itn y9.1) (aB.mk (ah y16 (itn y9.1)).name y17 (ah y16 (itn y9.1)).sure)) (itn y9.1) (aB.mk (ah (aZ y16 (itn y9.1) (aB.mk (ah y16 (itn y9.1)).name y17 (ah y16 (itn y9.1)).sure)) (itn y9.1)).name (ah (aZ y16 (itn y9.1) (aB.mk (ah y16 (itn y9.1)).name y17 (ah y16 (itn y9.1)).sure)) (itn y9.1)).data (eU (ah y16 (itn y9.1)).sure x2))) x0.room (wr .i64 (aA x0.fuse 1)) x0.down,0)) none) none)))) none)))
theorem P5:DX=zu:=by
 funext a0 a1 a2
 unfold DX zu
 simp only[ig,vg]
def fC (x0:ax) (x1:iE):Option (ax×Int):=af (Dh x1) fun y0=>cnd (aj y0) (some (x0,1)) (af (xE x0) fun y1=>cnd (ieq y1.2 1) (cnd (ieq y1.2 1) (some (x0,y1.2)) (cnd (aj (ieq x1.gen (wr .i64 (ai y1.1.gen 1)))) (some (x0,8)) (af (lJ x1.gen) fun y2=>af (vM x1) fun y3=>af (kY x0 y2) fun y4=>cnd (ieq y4.2 7) (af (iy x0 y2 [y3.a0,y3.a1,y3.a2,y3.a3,y3.a4,y3.a5,y3.a6,y3.a7,y3.a8,y3.a9,y3.a10,y3.a11,y3.a12,y3.a13,y3.a14,y3.a15,y3.a16,y3.a17,y3.a18,y3.a19]) fun y5=>cnd (aj (ieq y5.2 0)) (some y5) (af (iJ y5.1 y2) fun y6=>cnd (aj (ieq y6.2 0)) (some y6) (some (y6.1,0)))) (af (zu x0 y2 0) fun y7=>cnd (aj (ieq y7.2 0)) (some y7) (af (iy y7.1 y2 [y3.a0,y3.a1,y3.a2,y3.a3,y3.a4,y3.a5,y3.a6,y3.a7,y3.a8,y3.a9,y3.a10,y3.a11,y3.a12,y3.a13,y3.a14,y3.a15,y3.a16,y3.a17,y3.a18,y3.a19]) fun y8=>cnd (aj (ieq y8.2 0)) (some y8) (af (iJ y8.1 y2) fun y9=>cnd (aj (ieq y9.2 0)) (some y9) (some (y9.1,0)))))))) (cnd (ieq y1.2 9) (some (x0,y1.2)) (cnd (aj (ieq x1.gen (wr .i64 (ai y1.1.gen 1)))) (some (x0,8)) (af (lJ x1.gen) fun y10=>af (vM x1) fun y11=>af (kY x0 y10) fun y12=>cnd (ieq y12.2 7) (af (iy x0 y10 [y11.a0,y11.a1,y11.a2,y11.a3,y11.a4,y11.a5,y11.a6,y11.a7,y11.a8,y11.a9,y11.a10,y11.a11,y11.a12,y11.a13,y11.a14,y11.a15,y11.a16,y11.a17,y11.a18,y11.a19]) fun y13=>cnd (aj (ieq y13.2 0)) (some y13) (af (iJ y13.1 y10) fun y14=>cnd (aj (ieq y14.2 0)) (some y14) (some (y14.1,0)))) (af (zu x0 y10 0) fun y15=>cnd (aj (ieq y15.2 0)) (some y15) (af (iy y15.1 y10 [y11.a0,y11.a1,y11.a2,y11.a3,y11.a4,y11.a5,y11.a6,y11.a7,y11.a8,y11.a9,y11.a10,y11.a11,y11.a12,y11.a13,y11.a14,y11.a15,y11.a16,y11.a17,y11.a18,y11.a19]) fun y16=>cnd (aj (ieq y16.2 0)) (some y16) (af (iJ y16.1 y10) fun y17=>cnd (aj (ieq y17.2 0)) (some y17) (some (y17.1,0)))))))))
theorem MG:iG=fC:=by
 funext a0 a1
 unfold iG fC
 simp only[uq,xO,xM,En,P5]
def aO (p0:Int) (p1:(List aB)) (p2:Int) (v0:Int) (v1:cu):Option ((Int×cu) ⊕ ((cu))):=cnd (ilt v0 p0) (cnd (band (ile 0 v0) (ilt v0 (len p1))) (af (Af (ah p1 (itn v0)).name) fun y0=>af (cnd y0 (gu p2) (some [])) fun y1=>cnd (band y0 (aj (seq (ah p1 (itn v0)).name y1))) (cnd (ieq v1.e 0) (af (lX v1.d (ah p1 (itn v0)).name) fun y2=>some (Sum.inl (wr .i64 (ai v0 1),cu.mk y2.1 y2.2))) (some (Sum.inl (wr .i64 (ai v0 1),v1)))) (some (Sum.inl (wr .i64 (ai v0 1),v1)))) none) (some (Sum.inr v1))
theorem EJ:aV=aO:=by
 funext a0 a1 a2 a3 a4
 unfold aV aO
 simp only[uP]
def Aq (x0:ax) (x1:aC):Option (ax×Int×Int):=af (IQ x1) fun y0=>cnd (aj (ieq y0.2 0)) (some (x0,0,1)) (af (xE x0) fun y1=>cnd (ieq y1.2 1) (some (x0,0,y1.2)) (cnd (ieq y1.2 9) (some (x0,0,y1.2)) (cnd (ile 1000000000 y1.1.gen) (some (x0,0,3)) (af (kY x0 [(UInt8.ofNat 116),(UInt8.ofNat 109),(UInt8.ofNat 112)]) fun y2=>cnd (ieq y2.2 0) (af (lX x0 [(UInt8.ofNat 116),(UInt8.ofNat 109),(UInt8.ofNat 112)]) fun y3=>cnd (ieq y3.2 0) (af (iy y3.1 [(UInt8.ofNat 116),(UInt8.ofNat 109),(UInt8.ofNat 112)] y0.1) fun y4=>cnd (ieq y4.2 0) (af (iJ y4.1 [(UInt8.ofNat 116),(UInt8.ofNat 109),(UInt8.ofNat 112)]) fun y5=>cnd (ieq y5.2 0) (af (gu (wr .i64 (ai y1.1.gen 1))) fun y6=>af (jD y5.1 [(UInt8.ofNat 116),(UInt8.ofNat 109),(UInt8.ofNat 112)] y6) fun y7=>cnd (ieq y7.2 0) (af (fC y7.1 (iE.mk (wr .i64 (ai y1.1.gen 1)) x1.lsn)) fun y8=>af (bD (fun v=>aO (len y8.1.files) y8.1.files (wr .i64 (ai y1.1.gen 1)) v.1 v.2) LF (0,cu.mk y8.1 y8.2)) fun y9=>cnd (aj (ieq y9.e 0)) (some (y9.d,0,y9.e)) (some (y9.d,wr .i64 (ai y1.1.gen 1),0))) (af (bD (fun v=>aO (len y7.1.files) y7.1.files (wr .i64 (ai y1.1.gen 1)) v.1 v.2) LF (0,cu.mk y7.1 y7.2)) fun y10=>cnd (aj (ieq y10.e 0)) (some (y10.d,0,y10.e)) (some (y10.d,wr .i64 (ai y1.1.gen 1),0)))) (cnd (ieq y5.2 0) (af (fC y5.1 (iE.mk (wr .i64 (ai y1.1.gen 1)) x1.lsn)) fun y11=>af (bD (fun v=>aO (len y11.1.files) y11.1.files (wr .i64 (ai y1.1.gen 1)) v.1 v.2) LF (0,cu.mk y11.1 y11.2)) fun y12=>cnd (aj (ieq y12.e 0)) (some (y12.d,0,y12.e)) (some (y12.d,wr .i64 (ai y1.1.gen 1),0))) (af (bD (fun v=>aO (len y5.1.files) y5.1.files (wr .i64 (ai y1.1.gen 1)) v.1 v.2) LF (0,cu.mk y5.1 y5.2)) fun y13=>cnd (aj (ieq y13.e 0)) (some (y13.d,0,y13.e)) (some (y13.d,wr .i64 (ai y1.1.gen 1),0))))) (cnd (ieq y4.2 0) (af (gu (wr .i64 (ai y1.1.gen 1))) fun y14=>af (jD y4.1 [(UInt8.ofNat 116),(UInt8.ofNat 109),(UInt8.ofNat 112)] y14) fun y15=>cnd (ieq y15.2 0) (af (fC y15.1 (iE.mk (wr .i64 (ai y1.1.gen 1)) x1.lsn)) fun y16=>af (bD (fun v=>aO (len y16.1.files) y16.1.files (wr .i64 (ai y1.1.gen 1)) v.1 v.2) LF (0,cu.mk y16.1 y16.2)) fun y17=>cnd (aj (ieq y17.e 0)) (some (y17.d,0,y17.e)) (some (y17.d,wr .i64 (ai y1.1.gen 1),0))) (af (bD (fun v=>aO (len y15.1.files) y15.1.files (wr .i64 (ai y1.1.gen 1)) v.1 v.2) LF (0,cu.mk y15.1 y15.2)) fun y18=>cnd (aj (ieq y18.e 0)) (some (y18.d,0,y18.e)) (some (y18.d,wr .i64 (ai y1.1.gen 1),0)))) (cnd (ieq y4.2 0) (af (fC y4.1 (iE.mk (wr .i64 (ai y1.1.gen 1)) x1.lsn)) fun y19=>af (bD (fun v=>aO (len y19.1.files) y19.1.files (wr .i64 (ai y1.1.gen 1)) v.1 v.2) LF (0,cu.mk y19.1 y19.2)) fun y20=>cnd (aj (ieq y20.e 0)) (some (y20.d,0,y20.e)) (some (y20.d,wr .i64 (ai y1.1.gen 1),0))) (af (bD (fun v=>aO (len y4.1.files) y4.1.files (wr .i64 (ai y1.1.gen 1)) v.1 v.2) LF (0,cu.mk y4.1 y4.2)) fun y21=>cnd (aj (ieq y21.e 0)) (some (y21.d,0,y21.e)) (some (y21.d,wr .i64 (ai y1.1.gen 1),0)))))) (cnd (ieq y3.2 0) (af (iJ y3.1 [(UInt8.ofNat 116),(UInt8.ofNat 109),(UInt8.ofNat 112)]) fun y22=>cnd (ieq y22.2 0) (af (gu (wr .i64 (ai y1.1.gen 1))) fun y23=>af (jD y22.1 [(UInt8.ofNat 116),(UInt8.ofNat 109),(UInt8.ofNat 112)] y23) fun y24=>cnd (ieq y24.2 0) (af (fC y24.1 (iE.mk (wr .i64 (ai y1.1.gen 1)) x1.lsn)) fun y25=>af (bD (fun v=>aO (len y25.1.files) y25.1.files (wr .i64 (ai y1.1.gen 1)) v.1 v.2) LF (0,cu.mk y25.1 y25.2)) fun y26=>cnd (aj (ieq y26.e 0)) (some (y26.d,0,y26.e)) (some (y26.d,wr .i64 (ai y1.1.gen 1),0))) (af (bD (fun v=>aO (len y24.1.files) y24.1.files (wr .i64 (ai y1.1.gen 1)) v.1 v.2) LF (0,cu.mk y24.1 y24.2)) fun y27=>cnd (aj (ieq y27.e 0)) (some (y27.d,0,y27.e)) (some (y27.d,wr .i64 (ai y1.1.gen 1),0)))) (cnd (ieq y22.2 0) (af (fC y22.1 (iE.mk (wr .i64 (ai y1.1.gen 1)) x1.lsn)) fun y28=>af (bD (fun v=>aO (len y28.1.files) y28.1.files (wr .i64 (ai y1.1.gen 1)) v.1 v.2) LF (0,cu.mk y28.1 y28.2)) fun y29=>cnd (aj (ieq y29.e 0)) (some (y29.d,0,y29.e)) (some (y29.d,wr .i64 (ai y1.1.gen 1),0))) (af (bD (fun v=>aO (len y22.1.files) y22.1.files (wr .i64 (ai y1.1.gen 1)) v.1 v.2) LF (0,cu.mk y22.1 y22.2)) fun y30=>cnd (aj (ieq y30.e 0)) (some (y30.d,0,y30.e)) (some (y30.d,wr .i64 (ai y1.1.gen 1),0))))) (cnd (ieq y3.2 0) (af (gu (wr .i64 (ai y1.1.gen 1))) fun y31=>af (jD y3.1 [(UInt8.ofNat 116),(UInt8.ofNat 109),(UInt8.ofNat 112)] y31) fun y32=>cnd (ieq y32.2 0) (af (fC y32.1 (iE.mk (wr .i64 (ai y1.1.gen 1)) x1.lsn)) fun y33=>af (bD (fun v=>aO (len y33.1.files) y33.1.files (wr .i64 (ai y1.1.gen 1)) v.1 v.2) LF (0,cu.mk y33.1 y33.2)) fun y34=>cnd (aj (ieq y34.e 0)) (some (y34.d,0,y34.e)) (some (y34.d,wr .i64 (ai y1.1.gen 1),0))) (af (bD (fun v=>aO (len y32.1.files) y32.1.files (wr .i64 (ai y1.1.gen 1)) v.1 v.2) LF (0,cu.mk y32.1 y32.2)) fun y35=>cnd (aj (ieq y35.e 0)) (some (y35.d,0,y35.e)) (some (y35.d,wr .i64 (ai y1.1.gen 1),0)))) (cnd (ieq y3.2 0) (af (fC y3.1 (iE.mk (wr .i64 (ai y1.1.gen 1)) x1.lsn)) fun y36=>af (bD (fun v=>aO (len y36.1.files) y36.1.files (wr .i64 (ai y1.1.gen 1)) v.1 v.2) LF (0,cu.mk y36.1 y36.2)) fun y37=>cnd (aj (ieq y37.e 0)) (some (y37.d,0,y37.e)) (some (y37.d,wr .i64 (ai y1.1.gen 1),0))) (af (bD (fun v=>aO (len y3.1.files) y3.1.files (wr .i64 (ai y1.1.gen 1)) v.1 v.2) LF (0,cu.mk y3.1 y3.2)) fun y38=>cnd (aj (ieq y38.e 0)) (some (y38.d,0,y38.e)) (some (y38.d,wr .i64 (ai y1.1.gen 1),0))))))) (af (iy x0 [(UInt8.ofNat 116),(UInt8.ofNat 109),(UInt8.ofNat 112)] y0.1) fun y39=>cnd (ieq y39.2 0) (af (iJ y39.1 [(UInt8.ofNat 116),(UInt8.ofNat 109),(UInt8.ofNat 112)]) fun y40=>cnd (ieq y40.2 0) (af (gu (wr .i64 (ai y1.1.gen 1))) fun y41=>af (jD y40.1 [(UInt8.ofNat 116),(UInt8.ofNat 109),(UInt8.ofNat 112)] y41) fun y42=>cnd (ieq y42.2 0) (af (fC y42.1 (iE.mk (wr .i64 (ai y1.1.gen 1)) x1.lsn)) fun y43=>af (bD (fun v=>aO (len y43.1.files) y43.1.files (wr .i64 (ai y1.1.gen 1)) v.1 v.2) LF (0,cu.mk y43.1 y43.2)) fun y44=>cnd (aj (ieq y44.e 0)) (some (y44.d,0,y44.e)) (some (y44.d,wr .i64 (ai y1.1.gen 1),0))) (af (bD (fun v=>aO (len y42.1.files) y42.1.files (wr .i64 (ai y1.1.gen 1)) v.1 v.2) LF (0,cu.mk y42.1 y42.2)) fun y45=>cnd (aj (ieq y45.e 0)) (some (y45.d,0,y45.e)) (some (y45.d,wr .i64 (ai y1.1.gen 1),0)))) (cnd (ieq y40.2 0) (af (fC y40.1 (iE.mk (wr .i64 (ai y1.1.gen 1)) x1.lsn)) fun y46=>af (bD (fun v=>aO (len y46.1.files) y46.1.files (wr .i64 (ai y1.1.gen 1)) v.1 v.2) LF (0,cu.mk y46.1 y46.2)) fun y47=>cnd (aj (ieq y47.e 0)) (some (y47.d,0,y47.e)) (some (y47.d,wr .i64 (ai y1.1.gen 1),0))) (af (bD (fun v=>aO (len y40.1.files) y40.1.files (wr .i64 (ai y1.1.gen 1)) v.1 v.2) LF (0,cu.mk y40.1 y40.2)) fun y48=>cnd (aj (ieq y48.e 0)) (some (y48.d,0,y48.e)) (some (y48.d,wr .i64 (ai y1.1.gen 1),0))))) (cnd (ieq y39.2 0) (af (gu (wr .i64 (ai y1.1.gen 1))) fun y49=>af (jD y39.1 [(UInt8.ofNat 116),(UInt8.ofNat 109),(UInt8.ofNat 112)] y49) fun y50=>cnd (ieq y50.2 0) (af (fC y50.1 (iE.mk (wr .i64 (ai y1.1.gen 1)) x1.lsn)) fun y51=>af (bD (fun v=>aO (len y51.1.files) y51.1.files (wr .i64 (ai y1.1.gen 1)) v.1 v.2) LF (0,cu.mk y51.1 y51.2)) fun y52=>cnd (aj (ieq y52.e 0)) (some (y52.d,0,y52.e)) (some (y52.d,wr .i64 (ai y1.1.gen 1),0))) (af (bD (fun v=>aO (len y50.1.files) y50.1.files (wr .i64 (ai y1.1.gen 1)) v.1 v.2) LF (0,cu.mk y50.1 y50.2)) fun y53=>cnd (aj (ieq y53.e 0)) (some (y53.d,0,y53.e)) (some (y53.d,wr .i64 (ai y1.1.gen 1),0)))) (cnd (ieq y39.2 0) (af (fC y39.1 (iE.mk (wr .i64 (ai y1.1.gen 1)) x1.lsn)) fun y54=>af (bD (fun v=>aO (len y54.1.files) y54.1.files (wr .i64 (ai y1.1.gen 1)) v.1 v.2) LF (0,cu.mk y54.1 y54.2)) fun y55=>cnd (aj (ieq y55.e 0)) (some (y55.d,0,y55.e)) (some (y55.d,wr .i64 (ai y1.1.gen 1),0))) (af (bD (fun v=>aO (len y39.1.files) y39.1.files (wr .i64 (ai y1.1.gen 1)) v.1 v.2) LF (0,cu.mk y39.1 y39.2)) fun y56=>cnd (aj (ieq y56.e 0)) (some (y56.d,0,y56.e)) (some (y56.d,wr .i64 (ai y1.1.gen 1),0))))))))))
theorem Me:Dj=Aq:=by
 funext a0 a1
 unfold Dj Aq
 simp only[uP,uq,xO,xM,En,JZ,MG,EJ]
def Cm (x0:aW):Option (aW×(List jw)×Int):=af (qG x0) fun y0=>cnd (aj (ieq y0.2.2 0)) (some y0) (af (Aq y0.1.disk y0.1.state) fun y1=>cnd (ieq y1.2.2 0) (af (zi y0.1.wal y1.1 y0.1.state.lsn) fun y2=>cnd (ieq y2.2 0) (some (aW.mk y2.1 y0.1.wal y0.1.state y0.1.outbox y0.1.feed y1.2.1 y0.1.up,y0.2.1,y2.2)) (cnd y2.1.down (af (o6 (aW.mk y2.1 y0.1.wal y0.1.state y0.1.outbox y0.1.feed y0.1.gen y0.1.up)) fun y3=>some (y3,y0.2.1,y2.2)) (some (aW.mk y2.1 y0.1.wal y0.1.state y0.1.outbox y0.1.feed y0.1.gen y0.1.up,y0.2.1,y2.2)))) (cnd (ieq y1.2.2 0) (some (aW.mk y1.1 y0.1.wal y0.1.state y0.1.outbox y0.1.feed y1.2.1 y0.1.up,y0.2.1,y1.2.2)) (cnd y1.1.down (af (o6 (aW.mk y1.1 y0.1.wal y0.1.state y0.1.outbox y0.1.feed y0.1.gen y0.1.up)) fun y4=>some (y4,y0.2.1,y1.2.2)) (some (aW.mk y1.1 y0.1.wal y0.1.state y0.1.outbox y0.1.feed y0.1.gen y0.1.up,y0.2.1,y1.2.2)))))
theorem NY:FM=Cm:=by
 funext a0
 unfold FM Cm
 simp only[EW,wG,Me]
def wK:Option (Bool):=af (pO 5000 (jm.mk 50 50 500) 900) fun y0=>af (zB y0.1 (iT.mk 1 1 0 0 1 4 2 0 0 0 false 0 0)) fun y1=>af (qG y1.1) fun y2=>af (Cb y1.1 (iT.mk 5 0 0 0 0 0 0 0 0 0 true 0 0)) fun y3=>af (Cm y3.1) fun y4=>cnd (bor (ilt 0 (len y2.2.1)) (aj (band (band (band (band (band (band (band y0.2 (ieq y1.2 0)) (ieq y2.2.2 0)) (ieq y3.2.2 0)) (ieq y4.2.2 0)) (ieq (len y1.1.outbox) 1)) (ieq (len y2.1.outbox) 0)) (ieq (len y2.2.1) 1)))) (some (band (band (band (band (band (band (band (band (band (band (band (band y0.2 (ieq y1.2 0)) (ieq y2.2.2 0)) (ieq y3.2.2 0)) (ieq y4.2.2 0)) (ieq (len y1.1.outbox) 1)) (ieq (len y2.1.outbox) 0)) (ieq (len y2.2.1) 1)) (ieq (ah y2.2.1 0).lsn 1)) (ieq (len y3.2.1) 1)) y3.1.state.kill) (ieq y4.1.gen 1)) (ieq y2.1.wal.sure 1))) none
theorem Dk:lK=wK:=by
 unfold lK wK
 simp only[C9,JK,wG,NR,NY]
theorem ahO:lK=some true:=by rw[Dk];kernel_rfl
theorem V7 (x0:aW) (x1:iT) (x2:fE) (k0:TF x0) (k1:sS x1) (k2:ql x2):qF x0 x1 x2=some true:=by
 refine Wq.eq ?_
 unfold qF
 rw[ahO,au,aS,aU]
 refine(adl x0 k0).bind fun b hb=> ?_
 rw[gJ]
 refine⟨fun _=>(ak _).2 rfl,fun h=> ?_⟩
 rw[aY]at h
 obtain⟨hg,hol,hhl⟩:=hb h
 have hfl:=hg.fl
 obtain⟨-, -, -, s1,s2,s3, -⟩:=Yl hg k1
 obtain⟨-, n1,n2,n3,n4⟩:=adu hg k2
 simp only[V4 hg k1,Zr hg k2,au,s1,n1,afp _ (show x0.disk.files.length<999999 by omega),s2,n2,s3,n3,n4,KF,aS,fP,bC,bI,WR _ (show x0.outbox.length<999999 by omega),aU,YJ hg]
 by_cases h0:nV x0=0
 case neg=>
  rw[adJ h0]
  rw[gJ]
  refine⟨fun _=>(ak _).2 rfl,fun hc=> ?_⟩
  simp only[bg,bP,dh,dB,bn,aY,dn,dG,bZ,dL,bF,bH,dJ,dO]at hc
  exfalso
  unfold nV at h0 hc
  by_cases hp:yF x0
  ·rw[if_neg (fun k=>k hp),if_pos hc.2]at h0;exact h0 rfl
  ·rw[if_pos hp]at hc;exact hc.1 rfl
 have q:=aaJ hg h0
 rcases q.how with ⟨u1,u2,u3,u4,u5,u6⟩ | ⟨u1,u2,u3⟩
 case inr=>
  rw[aI (by rw[u1,bC,dh];exact .inr rfl),u3,ak];rfl
 have hlen:=aiR x0.outbox (zZ x0).1.wal.sure
 have hG:=(xJ.1 h0).1
 rw[dD (by rw[u1,aS,dB,bH];exact⟨by omega,rfl⟩),q.state,adb hg.sh,au,aS,bC,bI,u3,ad7 _ (by omega),au,q.next,q.gen,KF,KF,u4,u5,
  show wr .i64 (ai (len (goM x0.outbox (zZ x0).1.wal.sure)) (len (Ht x0.outbox (zZ x0).1.wal.sure)))=len x0.outbox by
   simp only[len,ai];rw[dA (by omega) (by omega)];omega,KF]
 simp only[aS,fP,aU,show bor false false=false from rfl]
 by_cases he:(zZ x0).2.2=0
 ·have hwt:=u6 he
  have r5:=q.right.2.2.1.2.2.2.2.1
  rw[hwt]at r5
  simp only[List.length_nil]at r5
  have r4:=q.right.2.2.2.1
  rw[q.state]at r4
  have hsu:(zZ x0).1.wal.sure=x0.state.lsn:=by omega
  have ga:=aeC (s:=(zZ x0).1.wal.sure) hG.2.2.2.2.1 (by omega)
  rw[ga.1,ga.2,hsu,he]
  simp only[KF,show len ([]:List jw)=0 from rfl,aS,bC,Ib,bI,WR _ (show x0.outbox.length<999999 by omega),au,ak]
  rfl
 ·rw[show ieq (zZ x0).2.2 0=false by rw[bH];exact he]
  simp only[aS,bC,show ∀x,band false x=false from fun x=>rfl,aU,au,ak]
  rfl
end Go.Av
