/- The plain law, part 2. No condition. -/
import Derived.Test.YtmijckhlnkgaiaaGreatDoorPMassRight1
import Derived.KernelRfl
set_option linter.unusedVariables false
set_option linter.unusedSimpArgs false
set_option linter.unnecessarySimpa false
namespace Go.Av
open Go
theorem Zx {g:bM} {r:dB} (hg:SG g) (hr:iF r):ahy g (zU g r).1 (zU g r).2.2:=by
 unfold zU;by_cases h0:oH g=0
 case neg=>rw[if_pos h0];exact ZH hg fun hu=>WQ hu
 rw[if_neg (fun k=>k h0)];by_cases hk:r.kind≠4/\r.kind≠5
 ·rw[if_pos hk];exact ZH hg fun _=>by simp
 rw[if_neg hk];by_cases h1:(doS g.state r).2=0
 case neg=>rw[if_pos h1];exact ZH hg fun _=>akg _ _
 rw[if_neg (fun k=>k h1)];by_cases hf:(bC g).2.2=0
 case neg=>rw[if_pos hf];exact KG hg
 rw[if_neg (fun k=>k hf)];have q:=DW hg h0;have hu:=(GX.1 h0).2;have hfu:(bC g).1.up=true:=by
  rcases q.how with ⟨h, -⟩ | ⟨-, h, -⟩
  ·exact h
  ·rw[hf]at h;cases h
 have same:∀e:Int,e≠9->ahy g (bC g).1 e:=fun e he=>⟨q.sg,fun _=>q.right,fun _=>⟨fun h=>(by rw[hfu]at h;cases h),fun h=>absurd h he⟩,fun h=>by rw[hu]at h;cases h⟩;by_cases hn:(bU (bC g).1 r).2=0
 case neg=>rw[if_pos hn];exact same _ (adg _ _)
 rw[if_neg (fun k=>k hn)];obtain⟨p,hfit,hdn,hup⟩:=Xo hg hr h0 hf hn;have cq:=Za hfit hdn;obtain⟨r1,r2,r3,r4,r5,r6,r7,r8,r9⟩:=q.right;have hdk:Keep (bC g).1.disk (dV (bU (bC g).1 r).1.wal (bU (bC g).1 r).1.disk).2.1:=⟨cq.keep.right,by rw[<-p.disk];exact cq.keep.fz,by rw[<-p.disk];exact cq.keep.room⟩;have hbk:AU (dV (bU (bC g).1 r).1.wal (bU (bC g).1 r).1.disk).2.1:=cq.byte (by rw[p.disk];exact q.sg.byte);have hfk:=(hdk.bnd q.sg.bnd.fu).fu;by_cases hc:(dV (bU (bC g).1 r).1.wal (bU (bC g).1 r).1.disk).2.2=0
 ·rw[if_pos hc];have hcd:(dV (bU (bC g).1 r).1.wal (bU (bC g).1 r).1.disk).2.1.down=false/\xU (dV (bU (bC g).1 r).1.wal (bU (bC g).1 r).1.disk).1 (dV (bU (bC g).1 r).1.wal (bU (bC g).1 r).1.disk).2.1/\(dV (bU (bC g).1 r).1.wal (bU (bC g).1 r).1.disk).1.wait=[]:=by
   rcases cq.code with ⟨-, c,c2,c3⟩ | ⟨c, -⟩ | ⟨c, -⟩
   ·exact⟨c,c2,c3⟩
   ·omega
   ·omega
  have hout:(bC g).1.outbox=[]:=by
   rcases q.how with ⟨-, -, -, -, ho,hw⟩ | ⟨-, h, -⟩
   ·have hw:=hw hf;have h5:=r3.2.2.2.2.1;rw[hw]at h5;simp only[List.length_nil]at h5;have:=r5;rw[ho]at this ⊢;cases hs:Pn g.outbox (bC g).1.wal.sure with
    |nil=>rfl
    |cons m t=>
     rw[hs]at this;have a1:=this.2.1;have a2:=this.2.2.1;exfalso;omega
   ·rw[hf]at h;cases h
  have hseq:(bU (bC g).1 r).1.state.seq=(bC g).1.state.seq:=by
   obtain⟨-, d1,d2⟩:=KD q.sg.st q.sg.sh hr hn;rw[d2,((ZX _ r).good d1).2.2.1,if_neg (by omega)]
  have hR:qi (afk (bU (bC g).1 r).1):=by
   refine⟨cq.keep.right,p.R,cq.wal,?_,?_,?_,?_,?_,.inl ⟨hup,hcd.1,hcd.2.1⟩⟩
   ·show(bU (bC g).1 r).1.state.lsn+1=(dV (bU (bC g).1 r).1.wal (bU (bC g).1 r).1.disk).1.next;rw[cq.next,p.put.next,p.lsn];omega
   ·show Hg (bU (bC g).1 r).1.outbox _ _;rw[p.out,hout];trivial
   ·show XT (bU (bC g).1 r).1.feed ((bU (bC g).1 r).1.state.seq+1);rw[p.feed,hseq];exact r6
   ·show ∀n∈(bU (bC g).1 r).1.feed.held,_;rw[p.feed];exact r7
   ·show 0<=(bU (bC g).1 r).1.gen/\(bU (bC g).1 r).1.gen<=1000000000;rw[p.gen];exact r8
  refine⟨SG.of hR p.st p.sh hfk hbk ?_,fun _=>hR,fun _=>⟨fun h=> ?_,fun h=>(by cases h)⟩,fun h=>by rw[hu]at h;cases h⟩
  ·show ∀n∈(bU (bC g).1 r).1.feed.held,_;rw[p.feed];exact q.sg.ok
  ·have:(bU (bC g).1 r).1.up=false:=h;rw[hup]at this;cases this
 rw[if_neg hc];by_cases hd:(dV (bU (bC g).1 r).1.wal (bU (bC g).1 r).1.disk).2.1.down=true
 ·rw[if_pos hd];have e9:(dV (bU (bC g).1 r).1.wal (bU (bC g).1 r).1.disk).2.2=9:=by
   rcases cq.code with ⟨-, c, -⟩ | ⟨-, c, -⟩ | ⟨c, -⟩
   ·rw[hd]at c;cases c
   ·rw[hd]at c;cases c
   ·exact c
  have hR:=ac9 (g:=⟨(dV (bU (bC g).1 r).1.wal (bU (bC g).1 r).1.disk).2.1,(bC g).1.wal,(bC g).1.state,(bC g).1.outbox,(bC g).1.feed,(bC g).1.gen,(bC g).1.up⟩) hdk.right r2 r3 r4 r8 hd;exact⟨SG.of hR q.sg.st q.sg.sh hfk hbk (fun n hn=>(by cases hn)),fun _=>hR,fun _=>⟨fun _=>e9,fun _=>rfl⟩,fun h=>by rw[hu]at h;cases h⟩
 ·rw[if_neg hd];refine same _ fun h=>hd ?_;rcases cq.code with ⟨c, -⟩ | ⟨c, -⟩ | ⟨-, c⟩
  ·exact absurd (c.symm.trans h) (by decide)
  ·exact absurd (c.symm.trans h) (by decide)
  ·exact c
theorem ZY {g:bM} {r:dB} (hg:SG g) (hr:iF r):ahy g (jv g r).1 (jv g r).2:=by
 obtain⟨h1,h2,h3,-, -, -, h7⟩:=afj hg hr;refine⟨h1,h2,fun hu=>⟨fun h=> ?_,fun h=>absurd h (h7 hu)⟩,fun hl=> ?_⟩
 ·rw[h3,hu]at h;cases h
 ·unfold jv;rw[if_pos (fun k=>by have:=(GX.1 k).2;rw[hl]at this;cases this)]
theorem aiU {l:List bY} (hl:l.length<999999):wU l l=some true:=by
 refine Wq.eq ?_;unfold wU;rw[bW (by simp only[aF,aK])]
 refine Wq.bind (Q:=fun w:Bool ⊕ Bool=>match w with
  |.inl b=>False
  |.inr _=>True)
  (gu (n:=l.length) (step:=fun v:Int×Bool=>nK l l v.1 v.2) (by omega) (fun i x=>True) _ ?_ ?_ _ 0 (Nat.zero_le _) trivial) ?_
 ·rintro i q hi -;simp only[nK];rw[au (by rw[cu];simpa using hi),au (inb _ i hi),au (inb _ i hi),bW (by simp only[aF,aH,aK,and_self]),ah];exact⟨bQ (by omega),trivial⟩
 ·rintro q -;simp only[nK];rw[bW (BK _),ah];trivial
 ·rintro(w | w) hw
  ·exact hw.elim
  ·simp only[dJ,ah]
theorem ane {w:dG} (hl:w.wait.length<999999):wR w w=some true:=by
 unfold wR;simp only[abd,oQ,aP,aiU hl,ai]
theorem SG.same {g:bM} (h:SG g):qM g g=some true:=by
 have h1:=h.fl;have h2:=h.wl;have h3:=h.ol;have h4:=h.hl;unfold qM;simp only[abd,alg,oQ,aP,amU _ (show g.disk.files.length<999999 by omega),ane (show g.wal.wait.length<999999 by omega),alk h.sh,Zi _ (show g.outbox.length<999999 by omega),alc _ (show g.feed.held.length<999999 by omega),ai]
theorem alv (g:bM) (k:aaY g):Wq (vz g) fun b=>b=true->SG g/\g.outbox.length<=99/\g.feed.held.length<=99:=by
 unfold vz;refine(alj g.disk k.disk_files).bind fun b hb=> ?_;refine Wq.bind (Q:=fun c=>c=true->b=true/\rW g.state) ?_ fun c hc=> ?_
 ·rw[dH];exact⟨fun h1=>(aoX g.state).mono fun c hc h=>⟨h1,hc h⟩,fun _=>(ah _).2 fun h=>by cases h⟩
 ·rw[ah];intro h;simp only[aH,aJ,aW,bf,aG,aF,aZ,bg,aX,bF,aK,aN,bD,bH,len]at h;obtain⟨⟨⟨⟨h1,h2⟩,h3⟩,h4⟩,h5⟩:=h;have hd:YS g.disk:=⟨k.disk_files,k.disk_room,k.disk_fuse⟩;have hs:=hb h1;refine⟨⟨⟨k.state_accounts,k.state_symbols,k.state_orders,k.state_cells,k.state_limits,k.state_caps,k.state_last,k.state_seq,k.state_lsn⟩,(hc h2).2,⟨k.wal_epoch,k.wal_next,k.wal_sure,k.wal_seg,k.wal_count,by omega⟩,by omega,alI hd hs,aoN hd,hs.1,by omega,by omega,fun n hn=>k.feed_held.1 n hn,k.gen⟩,by omega,by omega⟩
def XD (a:Int) (o:ax):Bool:=(decide (a= -1)||decide (o.account=a))&& !o.asked
def aqh (o:ax):dB:=⟨3,o.id,0,0,0,0,0,0,0,0,false,0,0⟩
def MS (os:List ax) (a:Int):List dB:=(os.filter (XD a)).map aqh
theorem Qg (os:List ax) (a:Int) {i:Nat} (h:i<os.length):MS (os.take (i+1)) a=MS (os.take i) a++(if XD a os[i]=true then [aqh os[i]]else []):=by
 unfold MS;rw[List.take_succ_eq_append_getElem h,List.filter_append,List.map_append];congr 1;by_cases hl:XD a os[i]=true
 ·simp [List.filter,hl]
 ·simp [List.filter,hl]
theorem U7 (os:List ax) (a:Int):(MS os a).length<=os.length:=by
 unfold MS;rw[List.length_map];exact List.length_filter_le _ _
theorem al4 {os:List ax} {a:Int} (h:∀o∈os,dU o):∀r∈MS os a,iF r/\r.kind=3:=fun r hr=>by
 unfold MS at hr;obtain⟨o,ho,rfl⟩:=List.mem_map.1 hr;have:=(h o (List.mem_filter.1 ho).1).id;refine⟨⟨?_,this,?_,?_,?_,?_,?_,?_,?_,?_,?_,?_⟩,rfl⟩<;>(unfold inI;simp [aqh])
theorem alq {os:List ax} {a:Int} (hl:os.length<999999):Wq (bZ (fun v:Int×List dB=>oZ (len os) os a v.1 v.2) LF (0,[])) fun w=>w=MS os a:=by
 refine(gu (n:=os.length) (step:=fun v:Int×List dB=>oZ (len os) os a v.1 v.2) hl (fun i x=>x=MS (os.take i) a) (fun w=>w=MS os a) ?_ ?_ _ 0 (Nat.zero_le _) rfl)
 ·rintro i x hi rfl;simp only[oZ];have h1:=U7 (os.take i) a;rw[au (by rw[cu];simpa using hi),au (inb _ i hi),aS _ _ hi];unfold Ze;rw[ai];have hc:band (bor (ieq a (-1)) (ieq os[i].account a)) (ak os[i].asked)=XD a os[i]:=by
   unfold XD;by_cases x1:a= -1<;>by_cases x2:os[i].account=a<;>cases os[i].asked<;>simp [ieq,x1,x2,band,bor,ak]
  rw[hc];cases hL:XD a os[i]with
  |true=>
   rw[aP,au (yI (n:=9999999) (by simp only[aQ,List.length_append,List.length_singleton];rw[List.length_take]at h1;omega) (by decide)),ah];exact⟨bQ (by omega),by rw[Qg os a hi,if_pos hL];rfl⟩
  |false=>
   rw[aO,ah];exact⟨bQ (by omega),by rw[Qg os a hi,if_neg (by rw[hL];simp),List.append_nil]⟩
 ·rintro x rfl;simp only[oZ];rw[bW (BK _),ah,List.take_length]
noncomputable instance (s:ay):Decidable (iZ s):=Classical.propDecidable _
noncomputable def qm (s:ay) (a:Int):List dB:=if iZ s/\ -1<=a/\a<s.accounts then MS s.orders a else []
theorem ad9 {s:ay} {a:Int} (hs:iW s) (hsh:rW s):sN s a=some (qm s a):=by
 refine Wq.eq ?_;unfold sN qm;refine(afS hs hsh).bind fun b hb=> ?_;cases b with
 |false=>
  have hn:¬iZ s:=fun h=>by have:=hb.2 h;cases this
  simp only[aU,aI,aO,ai,ja,aP,ah];rw[if_neg (fun h=>hn h.1)]
 |true=>
  have hR:=hb.1 rfl;unfold KY;simp only[aU,aI,aP,ai,dD];by_cases h: -1<=a/\a<s.accounts
  ·rw[bW (by simp only[aH,aJ,aW,bf,aG,aF,aZ,bg,aX,bF,aK,aN,bD,bH];exact h),if_pos ⟨hR,h⟩];refine(alq hsh.1).bind ?_;rintro w rfl;rw[ah]
  ·rw[au (by rw[aG,aJ,bF,bg];omega),if_neg (fun k=>h k.2),ah]
theorem ag7 {s:ay} {a:Int} (ha: -1<=a) (hl:s.orders.length<999999):Wq (bZ (fun v:Int×List dB=>iJ a s v.1 v.2) LF (0,[])) fun w=>w=MS s.orders a:=by
 refine(gu (n:=s.orders.length) (step:=fun v:Int×List dB=>iJ a s v.1 v.2) hl (fun i x=>x=MS (s.orders.take i) a) (fun w=>w=MS s.orders a) ?_ ?_ _ 0 (Nat.zero_le _) rfl)
 ·rintro i x hi rfl;simp only[iJ];have h1:=U7 (s.orders.take i) a;have hin:=inb _ i hi;rw[au (by rw[cu];simpa using hi),au (by rw[aW];exact .inl hin),au (by rw[aW];exact .inl hin),aS _ _ hi];have hc:band (bor (ilt a 0) (ieq s.orders[i].account a)) (ak s.orders[i].asked)=XD a s.orders[i]:=by
   unfold XD;have e:ilt a 0=decide (a= -1):=by
    by_cases x1:a= -1
    ·subst x1;rfl
    ·rw[decide_eq_false x1,bg];omega
   rw[e];by_cases x1:a= -1<;>by_cases x2:s.orders[i].account=a<;>cases s.orders[i].asked<;>simp [ieq,x1,x2,band,bor,ak]
  rw[hc];cases hL:XD a s.orders[i]with
  |true=>
   rw[aP,au hin,au (yI (n:=9999999) (by simp only[aQ,List.length_append,List.length_singleton];rw[List.length_take]at h1;omega) (by decide)),ah];exact⟨bQ (by omega),by rw[Qg _ a hi,if_pos hL];rfl⟩
  |false=>
   rw[aO,ah];exact⟨bQ (by omega),by rw[Qg _ a hi,if_neg (by rw[hL];simp),List.append_nil]⟩
 ·rintro x rfl;simp only[iJ];rw[bW (BK _),ah,List.take_length]
theorem ae1 {s:ay} {a:Int} (hs:iW s) (hsh:rW s):nS s a=some (qm s a):=by
 refine Wq.eq ?_;unfold nS qm;refine(af9 hs hsh).bind fun b hb=> ?_;by_cases h:iZ s/\ -1<=a/\a<s.accounts
 ·rw[bW (by simp only[aH,aJ,aW,bf,aG,aF,aZ,bg,aX,bF,aK,aN,bD,bH];exact⟨⟨hb.2 h.1,h.2.1⟩,h.2.2⟩),if_pos h];refine(ag7 h.2.1 hsh.1).bind ?_;rintro w rfl;rw[ah]
 ·rw[au ?_,if_neg h,ah];simp only[aH,aJ,aW,bf,aG,aF,aZ,bg,aX,bF,aK,aN,bD,bH];by_cases hR:iZ s
  ·rcases Int.lt_or_le a (-1)with k | k
   ·exact .inl (.inr k)
   ·exact .inr (by have:¬a<s.accounts:=fun q=>h ⟨hR,k,q⟩;omega)
  ·left;left;cases b with
   |false=>rfl
   |true=>exact absurd (hb.1 rfl) hR
theorem ain {l:List dB} (hl:l.length<999999):wI l l=some true:=by
 refine Wq.eq ?_;unfold wI;rw[bW (by simp only[aF,aK])]
 refine Wq.bind (Q:=fun w:Bool ⊕ Bool=>match w with
  |.inl b=>False
  |.inr _=>True)
  (gu (n:=l.length) (step:=fun v:Int×Bool=>nG l l v.1 v.2) (by omega) (fun i x=>True) _ ?_ ?_ _ 0 (Nat.zero_le _) trivial) ?_
 ·rintro i q hi -;simp only[nG];rw[au (by rw[cu];simpa using hi),au (inb _ i hi),au (inb _ i hi),bW (by simp only[aF,aH,aK,bD,and_self]),ah];exact⟨bQ (by omega),trivial⟩
 ·rintro q -;simp only[nG];rw[bW (BK _),ah];trivial
 ·rintro(w | w) hw
  ·exact hw.elim
  ·simp only[dJ,ah]
noncomputable def adJ (p:bM×List eU×Int) (r:dB):bM×List eU×Int:=
 if p.2.2≠0 then p else if p.1.wal.wait.length=32 then
  (if (bC p.1).2.2≠0 then ((bC p.1).1,p.2.1++(bC p.1).2.1,(bC p.1).2.2)else ((jv (bC p.1).1 r).1,p.2.1++(bC p.1).2.1,(jv (bC p.1).1 r).2))
 else ((jv p.1 r).1,p.2.1,(jv p.1 r).2)
noncomputable def goZ (p:bM×List eU×Int):List dB->bM×List eU×Int
 |[]=>p
 |r::l=>goZ (adJ p r) l
theorem agS (p:bM×List eU×Int):∀(l:List dB) (r:dB),goZ p (l++[r])=adJ (goZ p l) r:=by
 intro l
 induction l generalizing p with
 |nil=>intro r;rfl
 |cons a l ih=>intro r;exact ih (adJ p a) r
theorem ajS {p:bM×List eU×Int} (h:p.2.2≠0):∀l,goZ p l=p
 |[]=>rfl
 |r::l=>by rw[goZ,show adJ p r=p from if_pos h];exact ajS h l
noncomputable def I5 (g:bM) (a:Int):bM×List eU×Int:=
 if ¬(qi g/\ -1<=a/\a<g.state.accounts)then (g,[],1)else
 if (goZ (g,[],0) (qm g.state a)).2.2≠0 then goZ (g,[],0) (qm g.state a)else
 ((bC (goZ (g,[],0) (qm g.state a)).1).1,(goZ (g,[],0) (qm g.state a)).2.1++(bC (goZ (g,[],0) (qm g.state a)).1).2.1,(bC (goZ (g,[],0) (qm g.state a)).1).2.2)
structure Q8 (g0:bM) (k:Nat) (p:bM×List eU×Int):Prop where
 sg:SG p.1
 right:qi p.1
 len:p.2.1.length+p.1.outbox.length<=g0.outbox.length+k
theorem Kt {g:bM} (hg:SG g):(bC g).2.1.length+(bC g).1.outbox.length<=g.outbox.length:=by
 by_cases h0:oH g=0
 ·have q:=DW hg h0;rcases q.how with ⟨-, -, -, e1,e2, -⟩ | ⟨hup,-, e⟩
  ·rw[e1,e2];have:=arq g.outbox (bC g).1.wal.sure;omega
  ·rw[e];rcases q.right.2.2.2.2.2.2.2.2 with ⟨u,_⟩ | ⟨_,_,o,_⟩
   ·rw[hup]at u;cases u
   ·rw[o];simp
 ·rw[aei h0];simp
theorem ab3 {g:bM} {r:dB} (hg:SG g) (hr:iF r):(jv g r).1.outbox.length<=g.outbox.length+1:=by
 unfold jv;split
 ·exact Nat.le_succ _
 split
 ·exact Nat.le_succ _
 split
 ·exact Nat.le_succ _
 ·rename_i h;have h:(bU g r).2=0:=Classical.not_not.1 h;have q:=(KD hg.st hg.sh hr h).1;simp only[Qp,List.length_append,List.length_singleton,q.out];omega
theorem Q8.one {g0:bM} {k:Nat} {p:bM×List eU×Int} {r:dB} (m:Q8 g0 k p) (hr:iF r):Q8 g0 (k+1) (adJ p r):=by
 have hl:=m.len;unfold adJ;by_cases h0:p.2.2≠0
 ·rw[if_pos h0];exact⟨m.sg,m.right,by omega⟩
 rw[if_neg h0];by_cases h1:p.1.wal.wait.length=32
 ·rw[if_pos h1];have s1:=KG m.sg;have l1:=Kt m.sg;by_cases h2:(bC p.1).2.2≠0
  ·rw[if_pos h2];exact⟨s1.sg,s1.right m.right,by simp only[List.length_append];omega⟩
  ·rw[if_neg h2];have s2:=ZY s1.sg hr;have l2:=ab3 s1.sg hr;exact⟨s2.sg,s2.right (s1.right m.right),by simp only[List.length_append];omega⟩
 ·rw[if_neg h1];have s2:=ZY m.sg hr;have l2:=ab3 m.sg hr;exact⟨s2.sg,s2.right m.right,by simp only;omega⟩
theorem Q8.go {g0:bM}:∀(l:List dB) {k:Nat} {p:bM×List eU×Int},Q8 g0 k p->(∀r∈l,iF r)->Q8 g0 (k+l.length) (goZ p l)
 |[],k,p,m,_=>m
 |r::l,k,p,m,h=>by
  have:=Q8.go l (m.one (h r (by simp))) fun x hx=>h x (by simp [hx])
  rw[show k+(r::l).length=k+1+l.length by simp;omega]
  exact this
theorem Q8.start {g:bM} (hg:SG g) (hG:qi g):Q8 g 0 (g,[],0):=⟨hg,hG,by simp⟩
def adY (p:bM×List eU×Int):List bn×Int×Int×Bool×Int×Int×Int×Int×Int×List bY×Int×Int×List ax×List aT×List fA×List Int×Bool×Int×Int×Int×List eU×List uX×Bool×Int×Bool×List eU×Int:=
 (p.1.disk.files,p.1.disk.room,p.1.disk.fuse,p.1.disk.down,p.1.wal.epoch,p.1.wal.next,p.1.wal.sure,p.1.wal.seg,p.1.wal.count,p.1.wal.wait,p.1.state.accounts,p.1.state.symbols,p.1.state.orders,p.1.state.cells,p.1.state.limits,p.1.state.caps,p.1.state.kill,p.1.state.last,p.1.state.seq,p.1.state.lsn,p.1.outbox,p.1.feed.held,p.1.feed.gap,p.1.gen,p.1.up,p.2.1,p.2.2)
theorem aog {g:bM} {y2:List dB} (hg:SG g) (hG:qi g) (hl:y2.length<999999) (hr:∀r∈y2,iF r):
 Wq (bZ (fun v=>rJ (len y2) y2 v.1 v.2.1 v.2.2.1 v.2.2.2.1 v.2.2.2.2.1 v.2.2.2.2.2.1 v.2.2.2.2.2.2.1 v.2.2.2.2.2.2.2.1 v.2.2.2.2.2.2.2.2.1 v.2.2.2.2.2.2.2.2.2.1 v.2.2.2.2.2.2.2.2.2.2.1 v.2.2.2.2.2.2.2.2.2.2.2.1 v.2.2.2.2.2.2.2.2.2.2.2.2.1 v.2.2.2.2.2.2.2.2.2.2.2.2.2.1 v.2.2.2.2.2.2.2.2.2.2.2.2.2.2.1 v.2.2.2.2.2.2.2.2.2.2.2.2.2.2.2.1 v.2.2.2.2.2.2.2.2.2.2.2.2.2.2.2.2.1 v.2.2.2.2.2.2.2.2.2.2.2.2.2.2.2.2.2.1 v.2.2.2.2.2.2.2.2.2.2.2.2.2.2.2.2.2.2.1 v.2.2.2.2.2.2.2.2.2.2.2.2.2.2.2.2.2.2.2.1 v.2.2.2.2.2.2.2.2.2.2.2.2.2.2.2.2.2.2.2.2.1 v.2.2.2.2.2.2.2.2.2.2.2.2.2.2.2.2.2.2.2.2.2.1 v.2.2.2.2.2.2.2.2.2.2.2.2.2.2.2.2.2.2.2.2.2.2.1 v.2.2.2.2.2.2.2.2.2.2.2.2.2.2.2.2.2.2.2.2.2.2.2.1 v.2.2.2.2.2.2.2.2.2.2.2.2.2.2.2.2.2.2.2.2.2.2.2.2.1 v.2.2.2.2.2.2.2.2.2.2.2.2.2.2.2.2.2.2.2.2.2.2.2.2.2.1 v.2.2.2.2.2.2.2.2.2.2.2.2.2.2.2.2.2.2.2.2.2.2.2.2.2.2.1 v.2.2.2.2.2.2.2.2.2.2.2.2.2.2.2.2.2.2.2.2.2.2.2.2.2.2.2) LF (0,adY (g,[],0))) fun w=>w=adY (goZ (g,[],0) y2):=by
 refine(gu (n:=y2.length) (step:=fun v=>rJ (len y2) y2 v.1 v.2.1 v.2.2.1 v.2.2.2.1 v.2.2.2.2.1 v.2.2.2.2.2.1 v.2.2.2.2.2.2.1 v.2.2.2.2.2.2.2.1 v.2.2.2.2.2.2.2.2.1 v.2.2.2.2.2.2.2.2.2.1 v.2.2.2.2.2.2.2.2.2.2.1 v.2.2.2.2.2.2.2.2.2.2.2.1 v.2.2.2.2.2.2.2.2.2.2.2.2.1 v.2.2.2.2.2.2.2.2.2.2.2.2.2.1 v.2.2.2.2.2.2.2.2.2.2.2.2.2.2.1 v.2.2.2.2.2.2.2.2.2.2.2.2.2.2.2.1 v.2.2.2.2.2.2.2.2.2.2.2.2.2.2.2.2.1 v.2.2.2.2.2.2.2.2.2.2.2.2.2.2.2.2.2.1 v.2.2.2.2.2.2.2.2.2.2.2.2.2.2.2.2.2.2.1 v.2.2.2.2.2.2.2.2.2.2.2.2.2.2.2.2.2.2.2.1 v.2.2.2.2.2.2.2.2.2.2.2.2.2.2.2.2.2.2.2.2.1 v.2.2.2.2.2.2.2.2.2.2.2.2.2.2.2.2.2.2.2.2.2.1 v.2.2.2.2.2.2.2.2.2.2.2.2.2.2.2.2.2.2.2.2.2.2.1 v.2.2.2.2.2.2.2.2.2.2.2.2.2.2.2.2.2.2.2.2.2.2.2.1 v.2.2.2.2.2.2.2.2.2.2.2.2.2.2.2.2.2.2.2.2.2.2.2.2.1 v.2.2.2.2.2.2.2.2.2.2.2.2.2.2.2.2.2.2.2.2.2.2.2.2.2.1 v.2.2.2.2.2.2.2.2.2.2.2.2.2.2.2.2.2.2.2.2.2.2.2.2.2.2.1 v.2.2.2.2.2.2.2.2.2.2.2.2.2.2.2.2.2.2.2.2.2.2.2.2.2.2.2) hl (fun i x=>x=adY (goZ (g,[],0) (y2.take i))) (fun w=>w=adY (goZ (g,[],0) y2)) ?_ ?_ _ 0 (Nat.zero_le _) rfl)
 ·rintro i x hi rfl
  have m:=Q8.go (y2.take i) (Q8.start hg hG) fun r hx=>hr r (List.mem_of_mem_take hx)
  have hri:iF y2[i]:=hr _ (List.getElem_mem hi)
  rw[List.take_succ_eq_append_getElem hi]
  simp only[agS]
  generalize goZ (g,[],0) (y2.take i)=p at m ⊢
  have ml:=m.len
  rw[List.length_take]at ml
  have hol:=hg.ol
  simp only[rJ,adY]
  rw[au (by rw[cu];simpa using hi),au (inb _ i hi),aS _ _ hi,dQ]
  unfold adJ
  by_cases h0:p.2.2=0
  case neg=>
   rw[if_neg h0,if_pos h0,ah]
   exact⟨bQ (by omega),rfl⟩
  rw[if_pos h0,if_neg (fun k=>k h0),dQ]
  by_cases h1:p.1.wal.wait.length=32
  ·rw[if_pos (by show((p.1.wal.wait.length:Nat):Int)=32;omega),if_pos h1]
   have fl:=Kt m.sg
   rw[show uS _=some (bC p.1)from Q9 m.sg,ai,au (yI (n:=99999999) (by simp only[aQ,List.length_append];omega) (by decide)),dQ]
   by_cases h2:(bC p.1).2.2=0
   ·rw[if_pos h2,if_neg (fun k=>k h2),VS (KG m.sg).sg hri,ai,ah]
    exact⟨bQ (by omega),rfl⟩
   ·rw[if_neg h2,if_pos h2,ah]
    exact⟨bQ (by omega),rfl⟩
  ·rw[if_neg (by show ¬((p.1.wal.wait.length:Nat):Int)=32;omega),if_neg h1,dQ,if_pos h0]
   rw[show wu _ y2[i]=some (jv p.1 y2[i])from VS m.sg hri,ai,ah]
   exact⟨bQ (by omega),rfl⟩
 ·rintro x rfl
  simp only[rJ]
  rw[bW (BK _),ah,List.take_length]
theorem Na {g:bM} (hg:SG g) (a:Int):(qm g.state a).length<999999/\∀r∈qm g.state a,iF r:=by
 unfold qm;split
 ·exact⟨Nat.lt_of_le_of_lt (U7 _ _) hg.sh.1,fun r hr=>(al4 (fun o ho=>hg.st.orders.1 o ho) r hr).1⟩
 ·exact⟨by simp,fun r hr=>by cases hr⟩
theorem aj2 {g:bM} {a:Int} (hg:SG g):Bv g a=some (I5 g a):=by
 refine Wq.eq ?_;unfold Bv I5;rw[YP hg,ai];by_cases hG:qi g
 case neg=>
  rw[decide_eq_false hG,if_pos (fun k=>hG k.1)];simp only[aU,aI,aO,ai,ja,aP,ah]
 unfold KY;rw[decide_eq_true hG];simp only[aU,aI,aP,ai,dD];by_cases h: -1<=a/\a<g.state.accounts
 case neg=>
  rw[au (by rw[aG,aJ,bF,bg];omega),if_pos (fun k=>h k.2),ah]
 rw[bW (by simp only[aH,aJ,aW,bf,aG,aF,aZ,bg,aX,bF,aK,aN,bD,bH];exact h),if_neg (fun k=>k ⟨hG,h⟩),ad9 hg.st hg.sh,ai];obtain⟨c1,c2⟩:=Na hg a;refine(aog hg hG c1 c2).bind ?_;rintro w rfl;have m:=Q8.go _ (Q8.start hg hG) c2;generalize goZ (g,[],0) (qm g.state a)=p at m ⊢;have ml:=m.len;have hol:=hg.ol;simp only[adY];rw[dQ];by_cases h0:p.2.2=0
 ·rw[if_pos h0,if_neg (fun k=>k h0)];have fl:=Kt m.sg;rw[show uS _=some (bC p.1)from Q9 m.sg,ai,au (yI (n:=99999999) (by simp only[aQ,List.length_append];omega) (by decide)),ah]
  rfl
 ·rw[if_neg h0,if_pos h0,ah]
theorem ank {g:bM} {l:List eU} {e:Int} (hg:SG g) (hl:l.length<99999999):qP ⟨g,l,e⟩=some ⟨(bC g).1,l++(bC g).2.1,(bC g).2.2⟩:=by
 unfold qP;have fl:=Kt hg;have:=hg.ol;rw[YG hg,ai,au (yI (n:=99999999) (by show l.length<=_;omega) (by decide)),au (yI (n:=999999999) (by simp only[aQ,List.length_append];omega) (by decide))]
 rfl
def QF (p:bM×List eU×Int):iY:=⟨p.1,p.2.1,p.2.2⟩
theorem akM {g:bM} {y:List dB} (z:iY) (hg:SG g) (hG:qi g) (hl:y.length<999999) (hr:∀r∈y,iF r):
 Wq (bZ (fun v:Int×iY×iY=>jg y v.1 v.2.1 v.2.2) LF (0,iY.mk g [] 0,z)) fun w=>match w with
  |.inl q=>(goZ (g,[],0) y).2.2≠0/\q.2=QF (goZ (g,[],0) y)
  |.inr q=>(goZ (g,[],0) y).2.2=0/\q.1=QF (goZ (g,[],0) y):=by
 refine(gu (n:=y.length) (step:=fun v:Int×iY×iY=>jg y v.1 v.2.1 v.2.2) hl (fun i x=>(goZ (g,[],0) (y.take i)).2.2=0/\x.1=QF (goZ (g,[],0) (y.take i))) _ ?_ ?_ _ 0 (Nat.zero_le _) ⟨rfl,rfl⟩)
 ·rintro i ⟨x,z'⟩ hi ⟨h0,rfl⟩
  have m:=Q8.go (y.take i) (Q8.start hg hG) fun r hx=>hr r (List.mem_of_mem_take hx)
  have hri:iF y[i]:=hr _ (List.getElem_mem hi)
  have e1:goZ (g,[],0) (y.take (i+1))=adJ (goZ (g,[],0) (y.take i)) y[i]:=by rw[List.take_succ_eq_append_getElem hi,agS]
  have e2:goZ (g,[],0) y=goZ (goZ (g,[],0) (y.take (i+1))) (y.drop (i+1)):=by
   have:∀(p:bM×List eU×Int) (a b:List dB),goZ p (a++b)=goZ (goZ p a) b:=fun p a=>by
    induction a generalizing p with
    |nil=>intro b;rfl
    |cons r a ih=>intro b;exact ih (adJ p r) b
   rw[<-this,List.take_append_drop]
  have bad:(goZ (g,[],0) (y.take (i+1))).2.2≠0->goZ (g,[],0) y=goZ (g,[],0) (y.take (i+1)):=fun h=>by rw[e2,ajS h]
  rw[e1]at bad ⊢
  generalize goZ (g,[],0) (y.take i)=p at m h0 bad ⊢
  have ml:=m.len
  rw[List.length_take]at ml
  have hol:=hg.ol
  have hw:=m.right.2.2.1.2.2.2.1
  simp only[jg,QF]
  have hin:=inb _ i hi
  have o1:adJ p y[i]=if p.1.wal.wait.length=32 then
   (if (bC p.1).2.2≠0 then ((bC p.1).1,p.2.1++(bC p.1).2.1,(bC p.1).2.2)else ((jv (bC p.1).1 y[i]).1,p.2.1++(bC p.1).2.1,(jv (bC p.1).1 y[i]).2))
   else ((jv p.1 y[i]).1,p.2.1,(jv p.1 y[i]).2):=if_neg (fun k=>k h0)
  rw[au (by rw[cu];simpa using hi)]
  by_cases h1:p.1.wal.wait.length=32
  ·rw[if_pos h1]at o1
   rw[au (show ile 32 (len p.1.wal.wait)=true from gV (by unfold len;omega)),ank m.sg (by omega),ai,dP,dQ]
   by_cases h2:(bC p.1).2.2=0
   ·rw[if_neg (fun k=>k h2)]at o1
    rw[if_pos h2,au hin,aS _ _ hi,VP (KG m.sg).sg hri,ai,dP,dQ]
    by_cases h3:(jv (bC p.1).1 y[i]).2=0
    ·rw[if_pos h3,ah,o1]
     exact⟨bQ (by omega),h3,by show iY.mk _ _ _=iY.mk _ _ _;rw[h3,h2]⟩
    ·rw[if_neg h3,ah]
     have bd:=bad (by rw[o1];exact h3)
     rw[bd,o1]
     exact⟨h3,rfl⟩
   ·rw[if_pos h2]at o1
    rw[if_neg h2,ah]
    have bd:=bad (by rw[o1];exact h2)
    rw[bd,o1]
    exact⟨h2,rfl⟩
  ·rw[if_neg h1]at o1
   rw[bW (show ile 32 (len p.1.wal.wait)=false from MX (by unfold len;omega)),au hin,aS _ _ hi,VP m.sg hri,ai,dP,dQ]
   by_cases h3:(jv p.1 y[i]).2=0
   ·rw[if_pos h3,ah,o1]
    exact⟨bQ (by omega),h3,by show iY.mk _ _ _=iY.mk _ _ _;rw[h3,h0]⟩
   ·rw[if_neg h3,ah]
    have bd:=bad (by rw[o1];exact h3)
    rw[bd,o1]
    exact⟨h3,rfl⟩
 ·rintro⟨x,z'⟩ ⟨h0,rfl⟩
  simp only[jg]
  rw[bW (BK _),ah]
  rw[List.take_length]at h0 ⊢
  exact⟨h0,rfl⟩
theorem akt {g:bM} {a:Int} (hg:SG g):pX g a=some (QF (I5 g a)):=by
 refine Wq.eq ?_;unfold pX I5;rw[YJ hg,ai];by_cases h:qi g/\ -1<=a/\a<g.state.accounts
 case neg=>
  rw[au ?_,if_pos h,ah];· rfl
  simp only[aH,aJ,aW,bf,aG,aF,aZ,bg,aX,bF,aK,aN,bD,bH];by_cases hG:qi g
  ·rcases Int.lt_or_le a (-1)with k | k
   ·exact .inl (.inr k)
   ·exact .inr (by have:¬a<g.state.accounts:=fun q=>h ⟨hG,k,q⟩;omega)
  ·exact .inl (.inl (decide_eq_false hG))
 obtain⟨hG,ha⟩:=h;rw[bW (by simp only[aH,aJ,aW,bf,aG,aF,aZ,bg,aX,bF,aK,aN,bD,bH];exact⟨⟨decide_eq_true hG,ha.1⟩,ha.2⟩),if_neg (fun k=>k ⟨hG,ha⟩),ae1 hg.st hg.sh,ai];obtain⟨c1,c2⟩:=Na hg a;refine(akM _ hg hG c1 c2).bind ?_;have m:=Q8.go _ (Q8.start hg hG) c2;have ml:=m.len;have hol:=hg.ol;rintro(w | w) ⟨h0,hw⟩
 ·simp only[dJ];rw[if_pos h0,ah,hw]
 ·simp only[dJ];rw[if_neg (fun k=>k h0),hw,show QF (goZ (g,[],0) (qm g.state a))=iY.mk _ _ _ from rfl,ank m.sg (by omega),ai,ah]
  rfl
theorem aie (s:ay) (a:Int):(qm s a).length<=64:=by
 unfold qm;split
 ·rename_i h;have:=U7 s.orders a;have:=h.1.sized;unfold mZ at this;omega
 ·simp
theorem Nv {g:bM} (hg:SG g) (a:Int):SG (I5 g a).1/\(qi g->qi (I5 g a).1)/\(I5 g a).2.1.length<19999:=by
 unfold I5;by_cases h:qi g/\ -1<=a/\a<g.state.accounts
 case neg=>rw[if_pos h];exact⟨hg,id,by simp⟩
 rw[if_neg (fun k=>k h)];obtain⟨c1,c2⟩:=Na hg a;have m:=Q8.go _ (Q8.start hg h.1) c2;have ml:=m.len;have hol:=hg.ol;have c6:=aie g.state a;split
 ·exact⟨m.sg,fun _=>m.right,by omega⟩
 ·have fl:=Kt m.sg;have fs:=KG m.sg;exact⟨fs.sg,fun _=>fs.right m.right,by simp only[List.length_append];omega⟩
def Gn:dB:=⟨5,0,0,0,0,0,0,0,0,0,true,0,0⟩
theorem UF:iF Gn:=by refine⟨?_,?_,?_,?_,?_,?_,?_,?_,?_,?_,?_,?_⟩<;>(unfold inI;simp [Gn])
noncomputable def XF (g:bM):bM×List eU×Int:=
 if (zU g Gn).2.2≠0 then zU g Gn else ((I5 (zU g Gn).1 (-1)).1,(zU g Gn).2.1++(I5 (zU g Gn).1 (-1)).2.1,(I5 (zU g Gn).1 (-1)).2.2)
theorem acK {g:bM} {r:dB} (h:SG g):(zU g r).2.1.length<=9999:=by
 have hf:(bC g).2.1.length<=9999:=by have:=Kt h;have:=h.ol;omega
 unfold zU;split
 ·simp
 split
 ·simp
 split
 ·simp
 split
 ·exact hf
 split
 ·exact hf
 split
 ·exact hf
 split<;>exact hf
theorem aqR {g:bM} (hg:SG g):II g=some (XF g):=by
 unfold II XF;rw[show IK g (dB.mk 5 0 0 0 0 0 0 0 0 0 true 0 0)=some (zU g Gn)from ahr hg UF,ai,dP,dQ];have t1:=(Zx hg UF).sg;have t2:=acK (r:=Gn) hg;have s2:=(Nv t1 (-1)).2.2;by_cases h:(zU g Gn).2.2=0
 ·rw[if_pos h,if_neg (fun k=>k h),aj2 t1,ai,au (yI (n:=999999999) (by simp only[aQ,List.length_append];omega) (by decide))];rfl
 ·rw[if_neg h,if_pos h]
theorem aqW {g:bM} (hg:SG g):wJ g=some (QF (XF g)):=by
 unfold wJ XF;rw[show qK g (dB.mk 5 0 0 0 0 0 0 0 0 0 true 0 0)=some ⟨(zU g Gn).1,(zU g Gn).2.1,(zU g Gn).2.2⟩from ahE hg UF,ai,dP,dQ];have t1:=(Zx hg UF).sg;have t2:=acK (r:=Gn) hg;have s2:=(Nv t1 (-1)).2.2;by_cases h:(zU g Gn).2.2=0
 ·rw[if_pos h,if_neg (fun k=>k h),akt t1,ai,au (yI (n:=999999999) (by show(zU g Gn).2.1.length<=_;omega) (by decide)),au (yI (n:=999999999) (by simp only[aQ,List.length_append,QF];omega) (by decide))];rfl
 ·rw[if_neg h,if_pos h];rfl
theorem ail {g:bM} (hg:SG g):SG (XF g).1/\(qi g->qi (XF g).1)/\(XF g).2.1.length<99999:=by
 have t1:=Zx hg UF;have t2:=acK (r:=Gn) hg;obtain⟨s1,s2,s3⟩:=Nv t1.sg (-1);unfold XF;split
 ·exact⟨t1.sg,t1.right,by omega⟩
 ·exact⟨s1,fun h=>s2 (t1.right h),by simp only[List.length_append];omega⟩
theorem aps:AZ=some true:=by kernel_rfl
theorem acj (x0:bM) (x1:Int) (k0:aaY x0) (k1:inI x1):wz x0 x1=some true:=by
 refine Wq.eq ?_;unfold wz;rw[aps,ai,aI,aO];refine(alv x0 k0).bind fun b hb=> ?_;rw[dH];refine⟨fun _=>(ah _).2 rfl,fun h=> ?_⟩;rw[aF]at h;obtain⟨hg,-, -⟩:=hb h;obtain⟨c1, -⟩:=Na hg x1;obtain⟨s1,-, s2⟩:=Nv hg x1;obtain⟨t1,-, t2⟩:=ail hg
 simp only[ad9 hg.st hg.sh,ae1 hg.st hg.sh,ai,ain c1,aI,aO,aj2 hg,akt hg,QF,abd,aU,aP,s1.same,dD,Zi _ (show(I5 x0 x1).2.1.length<999999 by omega),
  aqR hg,aqW hg,t1.same,Zi _ (show(XF x0).2.1.length<999999 by omega),oQ,ah]
end Go.Av
