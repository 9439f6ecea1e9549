/- The plain law, part 1. No condition. -/
import Derived.Test.YtmijckhlnkgaiaaGreatDoorPMassTells0
import Derived.KernelRfl
set_option linter.unusedVariables false
set_option linter.unusedSimpArgs false
set_option linter.unnecessarySimpa false
namespace Go.Av
open Go
theorem acf {d:ay} {n:Nm} {f:aI} (h:UpD d) (hn:rP n) (hg:kM d.files n=some f):
 aeS d (A7 d n).1 (A7 d n).2/\((A7 d n).2=0->∀m,kM (A7 d n).1.files m=if m=n then some ⟨n,f.data,len f.data⟩else kM d.files m)/\((A7 d n).2≠0->(A7 d n).1.files=d.files)/\
  jd (A7 d n).1.files=jd d.files/\(A7 d n).1.files.length=d.files.length:=by
 have hk:=XU (n:=n) h.right
 have h0:=h.first (Vb hn)
 unfold A7 at hk ⊢
 rw[if_neg (fun g=>g h0),hg]at hk ⊢
 simp only at hk ⊢
 obtain⟨i,o,hs⟩:=CU h.right.asc (by have:=h.right.fl;omega) n
 have g1:=hs.used ⟨n,f.data,len f.data⟩ rfl
 have g2:=hs.long ⟨n,f.data,len f.data⟩ rfl
 have ho:=hs.get
 rw[hg]at ho
 subst ho
 rcases aeY h with ⟨q1,q2⟩ | ⟨q1,q2,q3⟩
 ·rw[if_pos q1]at hk ⊢
  refine⟨⟨.inl ⟨rfl,q2⟩,fun hf=> ?_,hk⟩,fun _ m=> ?_,fun g=>absurd rfl g,?_,?_⟩
  ·rw[UB hf];exact hf
  ·show kM (qC _ (dX d).1.files) m=_
   rw[iC,get_put]
  ·show jd (qC _ (dX d).1.files)=_
   rw[iC];simp only[Tt]at g1;omega
  ·show(qC _ (dX d).1.files).length=_
   rw[iC,g2];simp
 ·rw[if_neg (by rw[q1];decide)]at hk ⊢
  refine⟨⟨.inr ⟨rfl,q2,q3⟩,fun hf=>absurd hf q3,hk⟩,fun g=>absurd g (show ¬(9:Int)=0 by decide),fun _=>iC d,?_,?_⟩
  ·rw[iC]
  ·rw[iC]
theorem aej {l:List aI} {f:aI} (h:Jc (f::l)):∀g∈l,g.name≠f.name:=fun g hg=>(QE ((List.pairwise_cons.1 h).1 g hg)).symm
theorem get_mem {l:List aI} (h:Jc l) {f:aI} (hf:f∈l):kM l f.name=some f:=by
 induction l with
 |nil=>cases hf
 |cons g l ih=>
  rw[uT];rcases List.mem_cons.1 hf with rfl | hf
  ·rw[if_pos rfl]
  ·rw[if_neg (fun e=>aej h f hf e.symm)];exact ih (List.pairwise_cons.1 h).2 hf
theorem Zr {s:ax} (hr:kT s) (hsh:rO s):Wq (iZ s) fun b=>b=true↔jw s:=
 Iy s hr (by unfold rO at hsh;omega) (by unfold rO at hsh;omega) (by unfold rO at hsh;omega)
def rX:Nm:=[108,111,103,46]
def kY (g:Int):Nm:=Ce rX g
theorem JA {g:Int} (h:zA g):kY g=rX++ZE g.toNat:=by
 unfold kY Ce ZE;have:fmt10 g=F6 20 g.toNat:=by unfold fmt10;rw[if_neg (by have:=h.1;omega)]
 rw[if_neg (by unfold zA at h;omega),this,List.append_assoc]
theorem aeP {g:Int} (h:¬zA g):kY g=[]:=by
 unfold kY Ce;rw[if_pos (by unfold zA at h;omega)]
theorem Yi {g:Int} (h:zA g):(kY g).length=14:=by
 rw[JA h,List.length_append,aak (by unfold zA at h;omega)];rfl
theorem QI {g:Int} (h:zA g):vP rX (kY g)=g:=by
 have hv:g.toNat<=1000000000:=by unfold zA at h;omega
 have e1:(kY g).take rX.length=rX:=by rw[JA h,List.take_left]
 have e2:(kY g).drop rX.length=ZE g.toNat:=by rw[JA h,List.drop_left]
 unfold vP;rw[e1,e2,if_pos ⟨rfl,aak hv,aan _,by rw[abG hv];exact hv⟩,abG hv];unfold zA at h;omega
theorem Yy {s:Nm} (h:vP rX s≠0):zA (vP rX s)/\s=kY (vP rX s):=by
 have hc:s.take rX.length=rX/\(s.drop rX.length).length=10/\(∀c∈s.drop rX.length,48<=c/\c<=57)/\xX (s.drop rX.length)<=1000000000:=by
  apply Classical.byContradiction;intro g;exact h (if_neg g)
 have e:vP rX s=((xX (s.drop rX.length):Nat):Int):=if_pos hc;obtain⟨h1,h2,h3,h4⟩:=hc;have hg:zA (vP rX s):=by rw[e]at h ⊢; unfold zA;omega
 refine⟨hg,?_⟩;rw[JA hg,e,Int.toNat_natCast];have:=agr h2 h3 (Ue 10 _ h2 h3);unfold ZE;rw[this]
 conv=>lhs;rw[<-List.take_append_drop rX.length s,h1]
theorem EF {g:Int} (h:zA g):rP (kY g):=by
 refine⟨?_,by rw[Yi h];decide,by rw[Yi h];decide⟩;rw[JA h];intro c hc;rcases List.mem_append.1 hc with k | k
 ·have:∀c∈rX,MV c:=by decide
  exact this c k
 ·exact agQ (aan _ c k)
theorem V7 (g:Int):iL g=some (kY g):=by
 refine Wq.eq ?_;unfold iL;rw[gy];refine⟨fun h=> ?_,fun h=> ?_⟩
 ·simp only[aW,bG,bU,dw,aX,aU,cZ,dn,bJ,dA,bf,bn,dG,dK]at h;rw[ah,aeP (by unfold zA;omega)]
 ·simp only[aW,bG,bU,dw,aX,aU,cZ,dn,bJ,dA,bf,bn,dG,dK]at h;have hg:zA g:=⟨by omega,by omega⟩;have hl:=ah6 hg;have ef:kL g 10=some (fmt10 g):=by
   unfold kL aew;rw[aB (by rw[aW,bf,aW,bJ,bJ];unfold zA at hg;exact⟨rfl,by omega,by omega⟩)]
  have ew:wr .i64 (aS 10 (len (fmt10 g)))=((10 - (fmt10 g).length:Nat):Int):=by
   rw[aS,dL (by simp only[len];omega) (by simp only[len];omega)];simp only[len];omega
  have er:mg [(UInt8.ofNat 48)] ((10 - (fmt10 g).length:Nat):Int)=some (List.replicate (10 - (fmt10 g).length) 48):=by
   unfold mg aek;have e1:len [(UInt8.ofNat 48)]=1:=rfl;rw[e1,aB (by simp only[aW,bJ,eF,Int.one_mul];exact⟨by omega,by omega,by omega⟩),EK,WC];rfl
  rw[ef,aj,ew,er,aj,aB (nC (by simp only[len,aF,List.length_replicate];omega)),aB (nC (by simp only[len,aF,bP,List.length_append,List.length_replicate,List.length_cons,List.length_nil];omega)),ah];unfold kY Ce;rw[if_neg (by unfold zA at hg;omega)];rfl
def FD (f:bD):Prop:=1<=f.epoch/\f.epoch<=1000000/\1<=f.lsn/\f.lsn<=1000000000/\1<=f.kind/\f.kind<=6
instance (f:bD):Decidable (FD f):=by unfold FD;infer_instance
def rowP:List bD->Int->Int->Prop
 |[],_,_=>True
 |f::r,n,e=>FD f/\f.lsn=n/\e<=f.epoch/\rowP r (f.lsn+1) f.epoch
instance agS:∀(l:List bD) (n e:Int),Decidable (rowP l n e)
 |[],_,_=>isTrue trivial
 |f::r,n,e=>by
  unfold rowP
  have:=agS r (f.lsn+1) f.epoch
  infer_instance
theorem Ns (f:bD):o9 f=some (decide (FD f)):=by
 refine Wq.dec ?_;unfold o9 FD;rw[ah];simp only[aW,bG,bU,dw,aX,aU,cZ,dn,bJ,dA,bf,bn,dG,dK];omega
theorem ab6 {l:List bD} {n e:Int} (hl:l.length<999999):Hq l n e=some (decide (rowP l n e)):=by
 refine Wq.dec ?_;unfold Hq;refine Wq.bind (Q:=fun w=>match w with | .inl w=>w.1=false/\¬rowP l n e | .inr _=>rowP l n e)
  (lH (n:=l.length) (step:=fun v:Int×Bool×Int×Int=>wO (len l) l v.1 v.2.1 v.2.2.1 v.2.2.2) hl (fun i x=>rowP l n e↔rowP (l.drop i) x.2.1 x.2.2) _ ?_ ?_ _ 0 (Nat.zero_le _) (by simp)) ?_
 ·rintro i ⟨q,a,b⟩ hi hx;simp only at hx;simp only[wO];rw[aB (by rw[dS];simpa using hi),aB (inb _ i hi),aZ _ i hi,Ns,aj,gy];rw[List.drop_eq_getElem_cons hi,rowP]at hx;refine⟨fun h=>(ah _).2 ⟨rfl,fun g=> ?_⟩,fun h=>(ah _).2 ⟨dH (by omega),?_⟩⟩
  ·obtain⟨g1,g2,g3, -⟩:=hx.1 g;simp only[aW,bG,bU,dw,aX,aU,cZ,dn,bJ,dA,bf,bn,dG,dK,decide_eq_false_iff_not]at h;rcases h with (h | h) | h
   ·exact h g1
   ·exact h g2
   ·omega
  ·simp only[aW,bG,bU,dw,aX,aU,cZ,dn,bJ,dA,bf,bn,dG,dK,decide_eq_true_iff]at h;obtain⟨⟨h1,h2⟩,h3⟩:=h;have h1':=h1;unfold FD at h1';have ew:wr .i64 (aF l[i].lsn 1)=l[i].lsn+1:=by rw[aF,dL (by omega) (by omega)]
   simp only;rw[ew];exact hx.trans ⟨fun g=>g.2.2.2,fun g=>⟨h1,h2,h3,g⟩⟩
 ·rintro⟨q,a,b⟩ hx;simp only[wO];rw[cu (Ie _),ah];rw[List.drop_length]at hx;exact hx.2 trivial
 ·rintro(w | w) hw
  ·simp only[fO,ah];simp [hw.1,hw.2]
  ·simp only[fO,ah];simp only at hw;simp [hw]
def yZ (w:dO):Prop:=(1<=w.epoch/\w.epoch<=1000000)/\(1<=w.next/\w.next<=1000000001)/\(0<=w.sure/\w.sure<w.next)/\w.wait.length<=32/\(w.wait.length:Int)=w.next - 1 - w.sure/\rowP w.wait (w.sure+1) 1/\
 (∀f∈w.wait,f.epoch=w.epoch)/\((w.seg=0/\w.count=0)\/(1<=w.seg/\1<=w.count/\w.count<=8/\w.seg+w.count=w.sure+1))
instance (w:dO):Decidable (yZ w):=by unfold yZ;infer_instance
structure AB (w:dO):Prop where
 epoch:inI w.epoch
 next:inI w.next
 sure:inI w.sure
 seg:inI w.seg
 count:inI w.count
 few:w.wait.length<999999
theorem aiH {a b c:Int} (h1:0<=c) (h2:c<=1000000000) (ha:inI a) (hb:inI b):(band (band (band (band (ile 1 a) (ile 1 b)) (ile b 8)) (ile a (wr .i64 (aF c 1)))) (ieq (wr .i64 (aF a b)) (wr .i64 (aF c 1)))=true)↔(1<=a/\1<=b/\b<=8/\a+b=c+1):=by
 have e1:wr .i64 (aF c 1)=c+1:=by rw[aF,dL (by omega) (by omega)]
 rw[e1];simp only[aW,bG,bU,dw,aX,aU,cZ,dn,bJ,dA,bf,bn,dG,dK,aF];constructor
 ·rintro⟨⟨⟨⟨g1,g2⟩,g3⟩,g4⟩,g5⟩;rw[dL (by omega) (by omega)]at g5;exact⟨g1,g2,g3,g5⟩
 ·rintro⟨g1,g2,g3,g4⟩;rw[dL (by omega) (by omega)];exact⟨⟨⟨⟨g1,g2⟩,g3⟩,by omega⟩,g4⟩
theorem KW {w:dO} (hw:AB w):xK w=some (decide (yZ w)):=by
 obtain⟨o1,o2,o3,o4,o5,hl⟩:=hw;refine Wq.dec ?_;unfold xK;rw[gy];refine⟨fun h=>(ah _).2 ?_,fun h=> ?_⟩
 ·simp only[aW,bG,bU,dw,aX,aU,cZ,dn,bJ,dA,bf,bn,dG,dK]at h;unfold yZ;constructor
  ·intro g;cases g
  ·rintro⟨g1,g2,g3, -⟩;omega
 simp only[aW,bG,bU,dw,aX,aU,cZ,dn,bJ,dA,bf,bn,dG,dK]at h;have e1:wr .i64 (aS (wr .i64 (aS w.next 1)) w.sure)=w.next - 1 - w.sure:=by
  rw[aS,aS,dL (n:=w.next - 1) (by omega) (by omega),dL (by omega) (by omega)]
 have e2:wr .i64 (aF w.sure 1)=w.sure+1:=by rw[aF,dL (by omega) (by omega)]
 have hse:=aiH (c:=w.sure) (by omega) (by omega) o4 o5;rw[e1,e2];rw[e2]at hse;have tail:∀(A B:Bool),(A=false->B=false->((∀f∈w.wait,f.epoch=w.epoch)/\(w.wait.length<=32/\(w.wait.length:Int)=w.next - 1 - w.sure/\rowP w.wait (w.sure+1) 1)))->((A=true\/B=true)->¬((∀f∈w.wait,f.epoch=w.epoch)/\(w.wait.length<=32/\(w.wait.length:Int)=w.next - 1 - w.sure/\rowP w.wait (w.sure+1) 1)))->
  Wq (cnd (bor A B) (some false) (cnd (ieq w.seg 0) (some (ieq w.count 0)) (some (band (band (band (band (ile 1 w.seg) (ile 1 w.count)) (ile w.count 8)) (ile w.seg (w.sure+1))) (ieq (wr .i64 (aF w.seg w.count)) (w.sure+1)))))) fun b=>b=true↔yZ w:=by
  intro A B h1 h2;rw[gy];refine⟨fun hc=>(ah _).2 ?_,fun hc=> ?_⟩
  ·rw[bU]at hc;unfold yZ;constructor
   ·intro g;cases g
   ·rintro⟨-, -, -, g4,g5,g6,g7, -⟩;exact absurd ⟨g7,g4,g5,g6⟩ (h2 hc)
  ·rw[dw]at hc;obtain⟨k1,k2,k3,k4⟩:=h1 hc.1 hc.2;rw[ja];by_cases hs:w.seg=0
   ·rw[if_pos hs,ah,bf];unfold yZ;constructor
    ·intro g;exact⟨by omega,by omega,by omega,k2,k3,k4,k1,.inl ⟨hs,g⟩⟩
    ·rintro⟨-, -, -, -, -, -, -, g⟩;rcases g with g | g
     ·exact g.2
     ·omega
   ·rw[if_neg hs,ah,hse];unfold yZ;constructor
    ·intro g;exact⟨by omega,by omega,by omega,k2,k3,k4,k1,.inr g⟩
    ·rintro⟨-, -, -, -, -, -, -, g⟩;rcases g with g | g
     ·exact absurd g.1 hs
     ·exact g
 by_cases hA:w.wait.length<=32/\(w.wait.length:Int)=w.next - 1 - w.sure
 case neg=>
  have hAb:bor (ilt 32 (len w.wait)) (ak (ieq (len w.wait) (w.next - 1 - w.sure)))=true:=by
   simp only[aW,bG,bU,dw,aX,aU,cZ,dn,bJ,dA,bf,bn,dG,dK,len];omega
  rw[hAb,aJ,aQ,aj];simp only[ql,aJ,aQ];exact tail true false (fun g=>by cases g) (fun _ g=>hA ⟨g.2.1,g.2.2.1⟩)
 have hAb:bor (ilt 32 (len w.wait)) (ak (ieq (len w.wait) (w.next - 1 - w.sure)))=false:=by
  simp only[aW,bG,bU,dw,aX,aU,cZ,dn,bJ,dA,bf,bn,dG,dK,len];omega
 rw[hAb,aY,aV,ab6 hl,aj];simp only[dW];by_cases hr:rowP w.wait (w.sure+1) 1
 case neg=>
  rw[decide_eq_false hr];simp only[aY,aJ,aQ,ql];exact tail true false (fun g=>by cases g) (fun _ g=>hr g.2.2.2)
 rw[decide_eq_true hr];simp only[aJ,aY,aV,dW];refine Wq.bind (Q:=fun w'=>match w' with | .inl k=>0<=k/\¬∀f∈w.wait,f.epoch=w.epoch | .inr _=>∀f∈w.wait,f.epoch=w.epoch)
  (lH (n:=w.wait.length) (step:=fun v:Int×Int=>bY (len w.wait) w.wait w.epoch w.next w.sure w.seg w.count w.wait v.1 v.2) hl (fun i x=>∀f∈w.wait.take i,f.epoch=w.epoch) _ ?_ ?_ _ 0 (Nat.zero_le _) (by simp)) ?_
 ·rintro i x hi hx;simp only[bY];rw[aB (by rw[dS];simpa using hi),aB (inb _ i hi),aZ _ i hi,kD,ja];split
  ·rename_i g;refine(ah _).2 ⟨dH (by omega),?_⟩;rw[lT hi];intro f hf;rcases List.mem_append.1 hf with c | c
   ·exact hx f c
   ·rw[List.mem_singleton.1 c];exact g
  ·rename_i g;exact(ah _).2 ⟨by omega,fun k=>g (k _ (List.getElem_mem hi))⟩
 ·rintro x hx;simp only[bY];rw[cu (Ie _),ah];rwa[List.take_length]at hx
 ·rintro(k | k) hk
  ·simp only[fO];have:=tail false (ile 0 k) (fun _ g=>by rw[dA]at g;have:=hk.1;omega) (fun _ g=>hk.2 g.1);simpa only[dW] using this
  ·simp only[fO];exact tail false false (fun _ _=>⟨hk,hA.1,hA.2,hr⟩) (fun g=>by rcases g with g | g<;>cases g)
theorem ait (s:Nm):0<=vP rX s:=by unfold vP;split<;>omega
theorem Qa (s:Nm):CY s=some (vP rX s):=rfl
def zD (l:List aI):List Int:=(l.map fun f=>vP rX f.name).filter fun n=>decide (0<n)
def ahV (d:ay):List Int:=if jk d then zD d.files else []
theorem aeN (a b:List aI):zD (a++b)=zD a++zD b:=by simp [zD]
theorem aes (f:aI):zD [f]=if 0<vP rX f.name then [vP rX f.name]else []:=by
 unfold zD;by_cases h:0<vP rX f.name<;>simp [h]
theorem XO (l:List aI):(zD l).length<=l.length:=by
 unfold zD;exact Nat.le_trans (List.length_filter_le ..) (by simp)
theorem Uz {d:ay} (hn:nameB d):mV d=some (ahV d):=by
 refine Wq.eq ?_;unfold mV ahV;rw[Dh hn,aj,kD,CB];by_cases hd:jk d
 case neg=>rw[if_neg hd,ah,if_neg hd]
 rw[if_pos hd,if_pos hd];have hl:=hd.fl;refine Wq.bind (lH (n:=d.files.length) (step:=fun v:Int×List Int=>mW (len d.files) d.files v.1 v.2) (by omega) (fun i x=>x=zD (d.files.take i)) (fun w=>w=zD d.files) ?_ ?_ _ 0 (Nat.zero_le _) (by simp [zD])) fun w hw=>(ah _).2 hw
 ·rintro i x hi rfl;simp only[mW];have h1:=XO (d.files.take i);rw[List.length_take]at h1;rw[aB (by rw[dS];simpa using hi),aB (inb _ i hi),aZ _ i hi,Qa,aj,O7,aB (nC (by simp only[len,bP,List.length_append,List.length_singleton];omega)),lT hi,aeN,aes];split
  ·rw[ah];exact⟨dH (by omega),rfl⟩
  ·rw[ah];exact⟨dH (by omega),by simp⟩
 ·rintro x rfl;simp only[mW];rw[cu (Ie _),ah,List.take_length]
def vK (w:dO) (d:ay):Prop:=yZ w/\jk d/\(∀f∈d.files,vP rX f.name<=w.sure)/\(w.seg=0\/∃f,kM d.files (kY w.seg)=some f/\(f.data.length:Int)=w.count*72)
theorem PZ {d:ay} (ha:Jc d.files) {g:Int} (hg:zA g) {f:aI} (hf:f∈d.files):vP rX f.name=g↔kM d.files (kY g)=some f:=by
 constructor
 ·intro h;have hne:vP rX f.name≠0:=by rw[h];unfold zA at hg;omega
  have:=(Yy hne).2;rw[h]at this;rw[<-this];exact get_mem ha hf
 ·intro h;rw[(Ap h).2,QI hg]
theorem yZ.seg {w:dO} (h:yZ w) (hs:w.seg≠0):zA w.seg/\w.seg<=w.sure/\1<=w.count/\w.count<=8/\w.seg+w.count=w.sure+1:=by
 obtain⟨-, h2,h3,-, -, -, -, h8⟩:=h;rcases h8 with h8 | h8
 ·exact absurd h8.1 hs
 ·exact⟨⟨h8.1,by omega⟩,by omega,h8.2.1,h8.2.2.1,h8.2.2.2⟩
open Classical in
theorem VA {w:dO} {d:ay} (hw:AB w) (hn:nameB d):DL w d=some (decide (vK w d)):=by
 refine Wq.dec ?_;unfold DL;rw[KW hw,aj];by_cases hp:yZ w
 case neg=>
  rw[decide_eq_false hp];simp only[aY,aJ,aQ,aj,ql,aV];rw[ah];exact⟨fun g=>(by cases g),fun g=>absurd g.1 hp⟩
 rw[decide_eq_true hp,aJ,aY,aV,Dh hn,aj,dW,kD,CB];by_cases hd:jk d
 case neg=>
  rw[if_neg hd,ah];exact⟨fun g=>(by cases g),fun g=>absurd g.2.1 hd⟩
 rw[if_pos hd];have hl:=hd.fl;have hus:=hd.us;have esz:∀f∈d.files,(f.data.length:Int)<=65536:=fun f hf=>by
  obtain⟨j,hj,rfl⟩:=List.mem_iff_getElem.1 hf;have:=Ho hj;have:=Oz d.files (j+1);omega
 have ecnt:wr .i64 (eF w.count 72)=w.count*72:=by
  have:=hp.2.2.2.2.2.2.2;rw[eF,dL (by omega) (by omega)]
 refine Wq.bind (Q:=fun x=>match x with
  |.inl b=>b=false/\¬∀f∈d.files,vP rX f.name<=w.sure
  |.inr x=>(∀f∈d.files,vP rX f.name<=w.sure)/\(x.1=true↔(w.seg=0\/∃f∈d.files,w.seg≠0/\vP rX f.name=w.seg/\(f.data.length:Int)=w.count*72)))
  (lH (n:=d.files.length) (step:=fun v:Int×Bool×Bool=>uQ (len d.files) d.files w v.1 v.2.1 v.2.2) (by omega)
    (fun i x=>(∀f∈d.files.take i,vP rX f.name<=w.sure)/\(x.1=true↔(w.seg=0\/∃f∈d.files.take i,w.seg≠0/\vP rX f.name=w.seg/\(f.data.length:Int)=w.count*72))) _ ?_ ?_ _ 0 (Nat.zero_le _) ⟨by simp,by simp only[bf,List.take_zero];simp⟩) ?_
 ·rintro i ⟨v,q⟩ hi ⟨h1,h2⟩;simp only at h2;simp only[uQ];have hnn:=ait d.files[i].name;rw[aB (by rw[dS];simpa using hi),aB (inb _ i hi),aZ _ i hi,Qa,aj,ecnt,gy];refine⟨fun hc=>(ah _).2 ⟨dH (by omega),?_,?_⟩,fun hc=> ?_⟩
  ·simp only[aW,bG,bU,dw,aX,aU,cZ,dn,bJ,dA,bf,bn,dG,dK]at hc;have hs:=hp.seg (by omega);rw[lT hi];intro f hf;rcases List.mem_append.1 hf with c | c
   ·exact h1 f c
   ·rw[List.mem_singleton.1 c];omega
  ·simp only[aW,bG,bU,dw,aX,aU,cZ,dn,bJ,dA,bf,bn,dG,dK]at hc;have hs:=hp.seg (by omega);have hsz:w.seg≠0:=by omega
   simp only;rw[bf,lT hi];constructor
   ·intro g;exact .inr ⟨d.files[i],List.mem_append_right _ (List.mem_singleton.2 rfl),hsz,hc.2,g⟩
   ·rintro(g | ⟨f,hf,-, g2,g3⟩)
    ·exact absurd g hsz
    ·have hfm:f∈d.files:=by
      rcases List.mem_append.1 hf with c | c
      ·exact List.mem_of_mem_take c
      ·rw[List.mem_singleton.1 c];exact List.getElem_mem hi
     have e1:=(PZ hd.asc hs.1 hfm).1 g2;have e2:=(PZ hd.asc hs.1 (List.getElem_mem hi)).1 hc.2;rw[e1]at e2;rw[<-Option.some.inj e2];exact g3
  ·rw[gy];refine⟨fun hc2=>(ah _).2 ⟨rfl,fun g=> ?_⟩,fun hc2=>(ah _).2 ⟨dH (by omega),?_,?_⟩⟩
   ·simp only[aW,bG,bU,dw,aX,aU,cZ,dn,bJ,dA,bf,bn,dG,dK]at hc2;have:=g _ (List.getElem_mem hi);omega
   ·simp only[aW,bG,bU,dw,aX,aU,cZ,dn,bJ,dA,bf,bn,dG,dK]at hc2;rw[lT hi];intro f hf;rcases List.mem_append.1 hf with c | c
    ·exact h1 f c
    ·rw[List.mem_singleton.1 c];exact hc2
   ·simp only[aW,bG,bU,dw,aX,aU,cZ,dn,bJ,dA,bf,bn,dG,dK]at hc hc2;simp only;rw[h2,lT hi];constructor
    ·rintro(g | ⟨f,hf,g⟩)
     ·exact .inl g
     ·exact .inr ⟨f,List.mem_append_left _ hf,g⟩
    ·rintro(g | ⟨f,hf,g1,g2,g3⟩)
     ·exact .inl g
     ·rcases List.mem_append.1 hf with c | c
      ·exact .inr ⟨f,c,g1,g2,g3⟩
      ·rw[List.mem_singleton.1 c]at g2;have hs:=hp.seg g1;have:=hs.1.1;omega
 ·rintro⟨v,q⟩ ⟨h1,h2⟩;simp only[uQ];rw[cu (Ie _),ah];rw[List.take_length]at h1 h2;exact⟨h1,h2⟩
 ·rintro(x | x) hx
  ·simp only[fO,ah];simp only at hx;rw[hx.1];exact⟨fun g=>(by cases g),fun g=>absurd g.2.2.1 hx.2⟩
  ·simp only[fO,ah];simp only at hx;rw[hx.2];unfold vK;constructor
   ·rintro(g | ⟨f,hf,g1,g2,g3⟩)
    ·exact⟨hp,hd,hx.1,.inl g⟩
    ·exact⟨hp,hd,hx.1,.inr ⟨f,(PZ hd.asc (hp.seg g1).1 hf).1 g2,g3⟩⟩
   ·rintro⟨-, -, -, g | ⟨f,g1,g2⟩⟩
    ·exact .inl g
    ·by_cases hs:w.seg=0
     ·exact .inl hs
     ·exact .inr ⟨f,(Ap g1).1,hs,(PZ hd.asc (hp.seg hs).1 (Ap g1).1).2 g1,g2⟩
def JU (f:bD):List Int:=wK 72 4++wK f.epoch 4++wK f.lsn 8++wK f.kind 4++wK f.b0 8++wK f.b1 8++wK f.b2 8++wK f.b3 8++wK f.b4 8++wK f.b5 8
def QO (f:bD):List Int:=JU f++XH (akz (JU f))
theorem Ol (f:bD):(JU f).length=68:=by simp [JU,ug]
theorem acp (f:bD):(QO f).length=72:=by simp [QO,Ol,XH]
theorem SL (f:bD):xR (JU f):=by
 unfold JU;exact((((((((((qg _ _).app (qg _ _)).app (qg _ _)).app (qg _ _)).app (qg _ _)).app (qg _ _)).app (qg _ _)).app (qg _ _)).app (qg _ _)).app (qg _ _))
theorem aa7 (f:bD):xR (QO f):=(SL f).app (ac2 _)
theorem alm (n:Int) {j:Nat} (hj:j<8):bI .u64 n ((8*j:Nat):Int)=n / 256^j:=by
 have h2:min (((8*j:Nat):Int).toNat) (IntKind.bits .u64)=8*j:=by
  simp only[IntKind.bits,Int.toNat_natCast];omega
 unfold bI;rw[h2,Int.pow_mul,Int.fdiv_eq_ediv_of_nonneg _ (Int.le_of_lt (Int.pow_pos (by decide)))]
 rfl
theorem akb {n:Int} {i:Nat} (hi:i<8):ile 0 (wr .i64 (eF 8 (i:Int)))=true/\wr .u8 (bI .u64 (wr .u64 n) (wr .i64 (eF 8 (i:Int))))=n / 256^i%256:=by
 have h1:wr .i64 (eF 8 (i:Int))=((8*i:Nat):Int):=by
  unfold eF;rw[dL (by omega) (by omega)];omega
 rw[h1,alm _ hi,af5,zx];exact⟨nC (by omega),af6 n hi⟩
theorem ahe {n:Int} {acc:List Int} (k:Nat) (hk:k<=8) (hl:acc.length<1000000):bZ (fun v:Int×List Int=>aG (wr .u64 n) v.1 v.2) LF ((k:Int) - 1,acc)=some (acc++wK n k):=by
 refine Wq.eq (akc (n:=k) (by omega) (fun i x=>x++wK n i=acc++wK n k/\x.length+i=acc.length+k) _ (fun i x hi hj=> ?_) (fun x hj=> ?_) acc ⟨rfl,rfl⟩)
 ·obtain⟨h1,h2⟩:=akb (n:=n) (i:=i) (by omega);simp only;unfold aG;rw[h2,aB (nC (by omega)),aB h1,aB (Ob (n:=1000100) (by simp only[bP,List.length_append,List.length_cons,List.length_nil];omega) (by decide)),ah];refine⟨ajd (by omega),?_,?_⟩
  ·rw[<-hj.1];show(x++[_])++wK n i=x++(_::wK n i);rw[List.append_assoc];rfl
  ·simp only[bP,List.length_append,List.length_cons,List.length_nil];omega
 ·simp only;unfold aG;rw[cu (Js (by omega)),ah];have:=hj.1;simpa [wK] using this
theorem ack (c:Int):[wr .u8 c,wr .u8 (bI .u32 c 8),wr .u8 (bI .u32 c 16),wr .u8 (bI .u32 c 24)]=XH c:=by
 have t1:wr .u8 (bI .u32 c 8)=c / 256^1%256:=(ac7 (n:=c) (i:=1) (by decide)).2;have t2:wr .u8 (bI .u32 c 16)=c / 256^2%256:=(ac7 (n:=c) (i:=2) (by decide)).2;have t3:wr .u8 (bI .u32 c 24)=c / 256^3%256:=(ac7 (n:=c) (i:=3) (by decide)).2;rw[t1,t2,t3,af5];rfl
theorem Un {f:bD} (h:FD f):yT f=some (QO f,0):=by
 refine Wq.eq ?_;unfold yT;rw[Ns,decide_eq_true h,aj,aJ,aQ];have p4:=fun(n:Int) (acc:List Int) (hl:acc.length<1000000)=>ahe (n:=n) (acc:=acc) 4 (by decide) hl;have p8:=fun(n:Int) (acc:List Int) (hl:acc.length<1000000)=>ahe (n:=n) (acc:=acc) 8 (by decide) hl;have c4:((4:Nat):Int) - 1=3:=rfl;have c8:((8:Nat):Int) - 1=7:=rfl;simp only[c4]at p4;simp only[c8]at p8;have e72:(72:Int)=wr .u64 72:=rfl;have L1:iY=aG:=rfl;have L2:iD=aG:=rfl;have L3:iO=aG:=rfl;have L4:iE=aG:=rfl;have L5:iK=aG:=rfl;have L6:iP=aG:=rfl;have L7:iJ=aG:=rfl;have L8:iQ=aG:=rfl;have L9:iI=aG:=rfl;have q72:bZ (fun v:Int×List Int=>aG 72 v.1 v.2) LF (3,[])=some ([]++wK 72 4):=p4 72 [] (by simp);rw[L1,L2,L3,L4,L5,L6,L7,L8,L9,q72,aj,p4 _ _ (by simp [ug]),aj,p8 _ _ (by simp [ug]),aj,p4 _ _ (by simp [ug]),aj,p8 _ _ (by simp [ug]),aj,p8 _ _ (by simp [ug]),aj,p8 _ _ (by simp [ug]),aj,p8 _ _ (by simp [ug]),aj,p8 _ _ (by simp [ug]),aj,p8 _ _ (by simp [ug]),aj];have eH:[]++wK 72 4++wK f.epoch 4++wK f.lsn 8++wK f.kind 4++wK f.b0 8++wK f.b1 8++wK f.b2 8++wK f.b3 8++wK f.b4 8++wK f.b5 8=JU f:=by unfold JU;rw[List.nil_append]
 rw[eH,aeT (by rw[Ol];decide) (SL f),aj,ack,aB (Ob (n:=1000) (by simp [bP,Ol,XH]) (by decide)),ah]
 rfl
def rowB (l:List bD):List Int:=l.flatMap QO
theorem VW (l:List bD):(rowB l).length=72*l.length:=flat_length acp l
theorem afA (l:List bD):xR (rowB l):=acB fun x _=>aa7 x
theorem ag9 (a b:List bD):rowB (a++b)=rowB a++rowB b:=by simp [rowB]
theorem acT {l:List bD} (hl:l.length<1000) (h:∀f∈l,FD f):zQ l=some (rowB l,0):=by
 refine Wq.eq ?_;unfold zQ;refine Wq.bind (Q:=fun w=>match w with | .inl _=>False | .inr w=>w.1=rowB l)
  (lH (n:=l.length) (step:=fun v:Int×List Int×Int×List Int=>wu (len l) l v.1 v.2.1 v.2.2.1 v.2.2.2) (by omega) (fun i x=>x.1=rowB (l.take i)) _ ?_ ?_ _ 0 (Nat.zero_le _) (by simp [rowB])) ?_
 ·rintro i ⟨b,e,z⟩ hi hx;simp only at hx;subst hx;simp only[wu];have hbl:=VW (l.take (i+1));rw[List.length_take]at hbl;rw[aB (by rw[dS];simpa using hi),aB (inb _ i hi),aZ _ i hi,Un (h _ (List.getElem_mem hi)),aj];have eb:bP (rowB (l.take i)) (QO l[i])=rowB (l.take (i+1)):=by rw[lT hi,ag9];simp [bP,rowB]
  simp only[mM,aJ,aQ];rw[eb,aB (Ob (n:=72000) (by omega) (by decide)),ah];exact⟨dH (by omega),rfl⟩
 ·rintro⟨b,e,z⟩ hx;simp only at hx;simp only[wu];rw[cu (Ie _),ah];rwa[List.take_length]at hx
 ·rintro(w | w) hw
  ·exact hw.elim
  ·simp only[fO,ah];simp only at hw;rw[hw]
def vW (w:dO):Int×Int:=if w.seg=0\/w.count=8 then (w.sure+1,0)else (w.seg,w.count)
def kP (w:dO):Nat:=min w.wait.length (8 - (vW w).2).toNat
def tX (w:dO):dO:=⟨w.epoch,w.next,w.sure+(kP w:Int),(vW w).1,(vW w).2+(kP w:Int),w.wait.drop (kP w)⟩
def writeW (w:dO) (d:ay):ay×Int:=Ws (oq d (kY (vW w).1) (rowB (w.wait.take (kP w)))) fun d=>A7 d (kY (vW w).1)
def sK:Nat->dO->ay->dO×ay×Int
 |0,w,d=>(w,d,0)
 |k+1,w,d=>if w.wait=[]then (w,d,0)else if (writeW w d).2≠0 then (w,(writeW w d).1,(writeW w d).2)else sK k (tX w) (writeW w d).1
open Classical in
noncomputable def iw (w:dO) (d:ay):dO×ay×Int:=if vK w d then sK 40 w d else (w,d,1)
theorem ZV:∀ {l:List bD} {n e:Int},rowP l n e->∀f∈l,FD f
 |[],_,_,_,f,hf=>by cases hf
 |g::l,n,e,h,f,hf=>by
  unfold rowP at h
  rcases List.mem_cons.1 hf with rfl | hf
  ·exact h.1
  ·exact ZV h.2.2.2 f hf
theorem XD:∀ {l:List bD} {n e:Int} (k:Nat),k<=l.length->rowP l n e->rowP (l.drop k) (n+k) 1
 |l,n,e,0,_,h=>by
  rw[List.drop_zero,Int.natCast_zero,Int.add_zero]
  cases l with
  |nil=>trivial
  |cons f r=>unfold rowP at h ⊢; exact⟨h.1,h.2.1,h.1.1,h.2.2.2⟩
 |[],n,e,k+1,hk,h=>by simp at hk
 |f::r,n,e,k+1,hk,h=>by
  unfold rowP at h
  rw[List.drop_succ_cons]
  have:=XD k (by simp at hk;omega) h.2.2.2
  rw[show n+((k+1:Nat):Int)=f.lsn+1+(k:Int) by rw[h.2.1];omega]
  exact this
theorem PX {w:dO} (hw:yZ w) (hne:w.wait≠[]):zA (vW w).1/\0<=(vW w).2/\(vW w).2<=7/\(vW w).1+(vW w).2=w.sure+1:=by
 obtain⟨h1,h2,h3,h4,h5,h6,h7,h8⟩:=hw;have hl:0<w.wait.length:=List.length_pos_iff.2 hne;unfold vW zA;split
 ·simp only;omega
 ·rename_i h;simp only;rcases h8 with h8 | h8<;>omega
theorem Jo {w:dO} (hw:yZ w) (hne:w.wait≠[]):1<=kP w/\kP w<=w.wait.length/\(kP w:Int)<=8 - (vW w).2/\(kP w:Int)=iq (len w.wait) (8 - (vW w).2):=by
 obtain⟨-, g1,g2, -⟩:=PX hw hne;have hl:0<w.wait.length:=List.length_pos_iff.2 hne;have hl2:len w.wait=(w.wait.length:Int):=rfl;rw[ahT];unfold kP;refine⟨by omega,by omega,by omega,?_⟩;by_cases h:8 - (vW w).2<len w.wait
 ·rw[if_pos h];omega
 ·rw[if_neg h];omega
theorem VD {w:dO} (hw:yZ w) (hne:w.wait≠[]):yZ (tX w):=by
 obtain⟨g0,g1,g2,g3⟩:=PX hw hne;obtain⟨t1,t2,t3, -⟩:=Jo hw hne;obtain⟨h1,h2,h3,h4,h5,h6,h7,h8⟩:=hw;unfold zA at g0;have hr:=XD (kP w) t2 h6;refine⟨h1,h2,⟨?_,?_⟩,?_,?_,?_,?_,.inr ⟨g0.1,?_,?_,?_⟩⟩
 ·simp only[tX];omega
 ·simp only[tX];omega
 ·simp only[tX,List.length_drop];omega
 ·simp only[tX,List.length_drop];omega
 ·simp only[tX];rw[show w.sure+(kP w:Int)+1=w.sure+1+(kP w:Int) by omega];exact hr
 ·intro f hf;exact h7 f (List.mem_of_mem_drop hf)
 ·simp only[tX];omega
 ·simp only[tX];omega
 ·simp only[tX];omega
theorem RI {w:dO} {d:ay} (h:jk d):Keep d (writeW w d).1:=afe (Ju h) fun e he=>XU he
theorem abH {w:dO} {d:ay} (h:vM d):vM (writeW w d).1:=ae2 (aaH h (afA _)) fun e he=>aef he
theorem Yj {l:List bD} (h:l.length<1000000):bT l=some l:=by unfold bT;exact uO h
abbrev CmR:=(Int×ay×dO×ay×dO) ⊕ ((Int×ay×dO×ay×dO) ⊕ (Int×ay×dO×ay×dO))
theorem af2 {w:dO} {d:ay} (hw:yZ w) (hne:w.wait≠[]) (hd:Tv d) (hdp:jk d) (v0:Int) (v1:ay) (v2:dO) {N S C T:Int} (hN:N=(kP w:Int)) (hS:S=(vW w).1) (hC:C=(vW w).2+(kP w:Int)) (hT:T=w.sure+(kP w:Int)):
 Wq (cnd (band (ile 0 N) (ile N (len w.wait))) (af (zQ (bF w.wait (itn N))) fun y0=>af (iL S) fun y1=>af (rM d y1 y0.1) fun y2=>cnd (ieq y2.2 0) (af (iL S) fun y3=>af (wZ y2.1 y3) fun y4=>cnd (ak (ieq y4.2 0)) (some (Sum.inr (Sum.inl (y4.2,y4.1,w,y4.1,w)))) (cnd (band (ile 0 N) (ile N (len w.wait))) (af (bT (dF w.wait (itn N))) fun y5=>some (Sum.inl (v0,v1,v2,y4.1,dO.mk w.epoch w.next T S C y5))) none)) (cnd (ak (ieq y2.2 0)) (some (Sum.inr (Sum.inl (y2.2,y2.1,w,y2.1,w)))) (cnd (band (ile 0 N) (ile N (len w.wait))) (af (bT (dF w.wait (itn N))) fun y6=>some (Sum.inl (v0,v1,v2,y2.1,dO.mk w.epoch w.next T S C y6))) none))) none)
  fun x:CmR=>x=if (writeW w d).2≠0 then Sum.inr (Sum.inl ((writeW w d).2,(writeW w d).1,w,(writeW w d).1,w))else Sum.inl (v0,v1,v2,(writeW w d).1,tX w):=by
 obtain⟨g0,g1,g2,g3⟩:=PX hw hne
 obtain⟨t1,t2,t3, -⟩:=Jo hw hne
 subst hN hS hC hT
 have hin:band (ile 0 (kP w:Int)) (ile (kP w:Int) (len w.wait))=true:=ND (nC (by omega)) (nC (by simp only[len];omega))
 have hfr:=ZV hw.2.2.2.2.2.1
 have hlen:=hw.2.2.2.1
 have hn:=EF g0
 rw[EK,aB hin,show bF w.wait (kP w)=w.wait.take (kP w)from rfl,acT (by rw[List.length_take];omega) (fun f hf=>hfr f (List.mem_of_mem_take hf)),aj,V7]
 change Wq (af (some (kY (vW w).1)) _) _
 have hbl:=VW (w.wait.take (kP w))
 rw[List.length_take]at hbl
 rw[aj,agN hd hn.len (by simp only;omega),aj,ja]
 unfold writeW
 simp only
 by_cases h0:(oq d (kY (vW w).1) (rowB (w.wait.take (kP w)))).2=0
 ·have hk:=Ju (n:=kY (vW w).1) (b:=rowB (w.wait.take (kP w))) hdp
  rw[if_pos h0,aj,aj6 (hk.bnd hd.fu) hn.len,aj,kD,ja,then_ok h0]
  by_cases h1:(A7 (oq d (kY (vW w).1) (rowB (w.wait.take (kP w)))).1 (kY (vW w).1)).2=0
  ·rw[if_pos h1,aB hin,show dF w.wait (kP w)=w.wait.drop (kP w)from rfl,Yj (by rw[List.length_drop];omega),aj,ah,if_neg (fun g=>g h1)]
   rfl
  ·rw[if_neg h1,ah,if_pos h1]
 ·rw[if_neg h0,kD,ja,if_neg h0,ah,Wl h0,if_pos h0]
theorem ah8 {w:dO} (h:yZ w):AB w:=by
 obtain⟨h1,h2,h3,h4,h5,h6,h7,h8⟩:=h;refine⟨⟨by omega,by omega⟩,⟨by omega,by omega⟩,⟨by omega,by omega⟩,?_,?_,by omega⟩<;>unfold inI<;>rcases h8 with h8 | h8<;>omega
theorem acW (k:Nat) {w:dO} {d:ay} (h:w.wait=[]):sK k w d=(w,d,0):=by
 cases k with
 |zero=>rfl
 |succ k=>rw[sK,if_pos h]
theorem Zu {w:dO} {d:ay} (hw:AB w) (hd:Tv d):CS w d=some (iw w d):=by
 classical
 refine Wq.eq ?_;unfold CS iw;rw[VA hw hd.nm,aj,kD,CB];by_cases hf:vK w d
 case neg=>rw[if_neg hf,ah,if_neg hf]
 rw[if_pos hf,if_pos hf]
 refine Wq.bind (Q:=fun x:(Int×ay×dO×ay×dO) ⊕ (Int×ay×dO×ay×dO)=>match x with
  |.inl x=>sK 40 w d=(x.2.2.1,x.2.1,x.1)
  |.inr x=>sK 40 w d=(x.2.2.2.2,x.2.2.2.1,0))
  (YR (step:=fun v:Int×ay×dO×ay×dO=>wU v.1 v.2.1 v.2.2.1 v.2.2.2.1 v.2.2.2.2)
    (fun v=>v.2.2.2.2.wait.length)
    (fun v=>yZ v.2.2.2.2/\jk v.2.2.2.1/\inI v.2.2.2.1.fuse/\∃k,v.2.2.2.2.wait.length<=k/\sK 40 w d=sK k v.2.2.2.2 v.2.2.2.1) _ ?_ LF _ (adK (by have:=hf.1.2.2.2.1;simp only;omega)) ⟨hf.1,hf.2.1,hd.fu,40,by have:=hf.1.2.2.2.1;simp only;omega,rfl⟩) ?_
 ·rintro⟨v0,v1,v2,e,u⟩ ⟨hu,he,hfu,k,hk,hkk⟩;simp only at hu he hfu hk hkk;simp only[wU];rw[O7];by_cases hz:0<len u.wait
  case neg=>
   have hnil:u.wait=[]:=List.eq_nil_of_length_eq_zero (by simp only[len]at hz;omega);rw[if_neg hz,ah];simp only;rw[hkk,acW k hnil]
  have hne:u.wait≠[]:=fun h=>by rw[h]at hz;simp [len]at hz
  rw[if_pos hz];obtain⟨s0,s1,s2,s3⟩:=PX hu hne;obtain⟨t1,t2,t3,t4⟩:=Jo hu hne;have hsure:=hu.2.2.1;have hnx:=hu.2.1;have e1:wr .i64 (aF u.sure 1)=u.sure+1:=by rw[aF,dL (by omega) (by omega)]
  obtain⟨k,rfl⟩:∃j,k=j+1:=⟨k - 1,by have:=List.length_pos_iff.2 hne;omega⟩;have hk2:sK (k+1) u e=if (writeW u e).2≠0 then (u,(writeW u e).1,(writeW u e).2)else sK k (tX u) (writeW u e).1:=by rw[sK,if_neg hne]
  rw[hk2]at hkk;have hkw:=RI (w:=u) he;rw[gy];refine⟨fun hc=> ?_,fun hc=> ?_⟩
  ·have hseg:vW u=(u.sure+1,0):=by unfold vW;simp only[aW,bG,bU,dw,aX,aU,cZ,dn,bJ,dA,bf,bn,dG,dK]at hc;rw[if_pos hc]
   rw[hseg]at t3 t4 s0 s3;have e8:iq (len u.wait) 8=(kP u:Int):=by rw[t4];rfl
   rw[e8,e1];have e9:wr .i64 (aF u.sure (kP u:Int))=u.sure+(kP u:Int):=by rw[aF,dL (by omega) (by omega)]
   have e10:wr .i64 (aF 0 (kP u:Int))=(kP u:Int):=by rw[aF,dL (by omega) (by omega)];omega
   rw[e9,e10];refine(af2 hu hne (he.bnd hfu) he v0 v1 v2 rfl (by rw[hseg]) (by rw[hseg];simp) rfl).mono fun x hx=> ?_;rw[hx];by_cases hwz:(writeW u e).2≠0
   ·rw[if_pos hwz]at hkk ⊢;exact hkk
   ·rw[if_neg hwz]at hkk ⊢;exact⟨⟨VD hu hne,hkw.right,(hkw.bnd hfu).fu,k,by simp only[tX,List.length_drop];omega,hkk⟩,by simp only[tX,List.length_drop];omega⟩
  ·have hseg:vW u=(u.seg,u.count):=by unfold vW;simp only[aW,bG,bU,dw,aX,aU,cZ,dn,bJ,dA,bf,bn,dG,dK]at hc;rw[if_neg (by omega)]
   rw[hseg]at t3 t4 s0 s1 s2 s3;simp only at s1 s2;have e8:wr .i64 (aS 8 u.count)=8 - u.count:=by rw[aS,dL (by omega) (by omega)]
   have e8':iq (len u.wait) (8 - u.count)=(kP u:Int):=by rw[t4]
   rw[e8,e8'];have e9:wr .i64 (aF u.sure (kP u:Int))=u.sure+(kP u:Int):=by rw[aF,dL (by omega) (by omega)]
   have e10:wr .i64 (aF u.count (kP u:Int))=u.count+(kP u:Int):=by rw[aF,dL (by omega) (by omega)]
   rw[e9,e10];refine(af2 hu hne (he.bnd hfu) he v0 v1 v2 rfl (by rw[hseg]) (by rw[hseg]) rfl).mono fun x hx=> ?_;rw[hx];by_cases hwz:(writeW u e).2≠0
   ·rw[if_pos hwz]at hkk ⊢;exact hkk
   ·rw[if_neg hwz]at hkk ⊢;exact⟨⟨VD hu hne,hkw.right,(hkw.bnd hfu).fu,k,by simp only[tX,List.length_drop];omega,hkk⟩,by simp only[tX,List.length_drop];omega⟩
 ·rintro(x | x) hx
  ·simp only[fO,ah];simp only at hx;exact hx.symm
  ·simp only[fO,ah];simp only at hx;exact hx.symm
open Classical in
noncomputable def Rf (w:dO) (k:Int) (b:SA6):dO×Int:=
 if ¬yZ w\/k<1\/6<k then (w,1)else if 1000000000<w.next then (w,3)else if w.wait.length=32 then (w,6)
 else (⟨w.epoch,w.next+1,w.sure,w.seg,w.count,w.wait++[⟨w.epoch,w.next,k,b.a0,b.a1,b.a2,b.a3,b.a4,b.a5⟩]⟩,0)
theorem afy {w:dO} {k:Int} {b:SA6} (hw:AB w):LJ w k b=some (Rf w k b):=by
 refine Wq.eq ?_;unfold LJ Rf;rw[KW hw,aj,kD,CB];by_cases hp:yZ w
 case neg=>rw[if_neg hp,kD,CB,if_neg hp,ah,if_pos (.inl hp)]
 rw[if_pos hp,O7 k 1,O7 k 1];by_cases h1:k<1
 ·rw[if_pos h1,if_pos h1,ah,if_pos (.inr (.inl h1))]
 rw[if_neg h1,O7 6 k];by_cases h6:6<k
 ·rw[if_pos h6,ah,if_pos (.inr (.inr h6))]
 rw[if_neg h6,if_neg (fun g=>by rcases g with g | g | g;exact g hp;exact h1 g;exact h6 g),O7,ja]
 by_cases hn:1000000000<w.next
 ·rw[if_pos hn,ah,if_pos hn]
 rw[if_neg hn,if_neg hn];have hlen:=hp.2.2.2.1;have hnx:=hp.2.1;by_cases hl:w.wait.length=32
 ·rw[if_pos (by simp only[len];omega),ah,if_pos hl]
 ·rw[if_neg (by simp only[len];omega),Yj (by omega),aj,aB (Ob (n:=100) (by simp [bP];omega) (by decide)),ah,if_neg hl,aF,dL (by omega) (by omega)];rfl
def adR (w:dO):List Int->Int
 |[]=>w.sure
 |m::_=>m - 1
def Ci (w:dO) (lsn:Int):List Int->ay->ay×Int
 |[],d=>(d,0)
 |n::r,d=>if n=w.seg then Ci w lsn r d else if lsn<adR w r then (d,0)else if (AP d (kY n)).2≠0 then AP d (kY n)else Ci w lsn r (AP d (kY n)).1
open Classical in
noncomputable def agm (w:dO) (d:ay) (lsn:Int):ay×Int:=if vK w d then Ci w lsn (zD d.files) d else (d,1)
theorem abh {d:ay}:∀n∈zD d.files,zA n:=fun n hn=>by
 obtain⟨h1,h2⟩:=List.mem_filter.1 hn;obtain⟨f,hf,rfl⟩:=List.mem_map.1 h1;exact(Yy (by simp at h2;omega)).1
theorem acv {w:dO} {d:ay} {lsn:Int} (hw:AB w) (hd:Tv d):Hl w d lsn=some (agm w d lsn):=by
 classical
 refine Wq.eq ?_;unfold Hl agm;rw[VA hw hd.nm,aj,kD,CB];by_cases hf:vK w d
 case neg=>rw[if_neg hf,ah,if_neg hf]
 rw[if_pos hf,if_pos hf,Uz hd.nm,aj,show ahV d=zD d.files by unfold ahV;rw[if_pos hf.2.1]];have hsl:=XO d.files;have hfl:=hf.2.1.fl;have hgen:=abh (d:=d);have hsure:=hf.1.2.2.1;generalize zD d.files=L at hsl hgen ⊢
 refine Wq.bind (Q:=fun x=>match x with
  |.inl x=>Ci w lsn L d=(x.2.2,0)
  |.inr x=>Ci w lsn L d=(x.2.1,x.1))
  (lH (n:=L.length) (step:=fun v:Int×Int×ay×ay=>uH (len L) lsn L L w v.1 v.2.1 v.2.2.1 v.2.2.2) (by omega)
    (fun i x=>Ci w lsn L d=Ci w lsn (L.drop i) x.2.2/\jk x.2.2/\inI x.2.2.fuse) _ ?_ ?_ _ 0 (Nat.zero_le _) ⟨by simp,hf.2.1,hd.fu⟩) ?_
 ·rintro i ⟨a,z,e⟩ hi ⟨h1,h2,h3⟩;simp only at h1 h2 h3;simp only[uH];rw[List.drop_eq_getElem_cons hi,Ci]at h1;have hg:=hgen _ (List.getElem_mem hi);have hn:=EF hg;rw[aB (by rw[dS];simpa using hi),aB (inb _ i hi),aZ _ i hi,dH (by omega),O7,ja,ja];have rem:∀last:Int,adR w (L.drop (i+1))=last->L[i]≠w.seg->
   Wq (cnd (ilt lsn last) (some (Sum.inr (Sum.inl (a,z,e)))) (af (iL L[i]) fun y0=>af (pq e y0) fun y1=>cnd (ak (ieq y1.2 0)) (some (Sum.inr (Sum.inr (y1.2,y1.1,y1.1)))) (some (Sum.inl (((i+1:Nat):Int),a,z,y1.1)))))
   fun r:(Int×Int×ay×ay) ⊕ ((Int×ay×ay) ⊕ (Int×ay×ay))=>match r with
    |.inl (k,x')=>k=((i+1:Nat):Int)/\Ci w lsn L d=Ci w lsn (L.drop (i+1)) x'.2.2/\jk x'.2.2/\inI x'.2.2.fuse
    |.inr w'=>match w' with | .inl x=>Ci w lsn L d=(x.2.2,0) | .inr x=>Ci w lsn L d=(x.2.1,x.1):=by
   intro last hlast hseg;rw[if_neg hseg,hlast]at h1;rw[O7];by_cases hlt:lsn<last
   ·rw[if_pos hlt]at h1 ⊢;rw[ah];exact h1
   ·rw[if_neg hlt]at h1 ⊢;rw[V7];change Wq (af (some (kY L[i])) _) _;rw[aj,ahn (h2.bnd h3) hn.len,aj,kD,ja];by_cases h0:(AP e (kY L[i])).2=0
    ·rw[if_pos h0,ah];rw[if_neg (fun g=>g h0)]at h1;have hk:=Sr (n:=kY L[i]) h2;exact⟨rfl,h1,hk.right,(hk.bnd h3).fu⟩
    ·rw[if_neg h0,ah];rw[if_pos h0]at h1;exact h1
  by_cases hnx:((i+1:Nat):Int)<len L
  ·have hi1:i+1<L.length:=by simp only[len]at hnx;omega
   have hg1:=hgen _ (List.getElem_mem hi1);unfold zA at hg1;rw[if_pos hnx,aB (inb _ _ hi1),aZ _ _ hi1,aS,dL (by omega) (by omega)];by_cases hseg:L[i]=w.seg
   ·rw[if_pos hseg]at h1 ⊢;rw[ah];exact⟨rfl,h1,h2,h3⟩
   ·rw[if_neg hseg];refine(rem (L[i+1] - 1) (by rw[List.drop_eq_getElem_cons hi1,adR]) hseg).mono fun r hr=> ?_
    match r,hr with
    |.inl (k,x'),hr=>exact hr
    |.inr (.inl x),hr=>exact hr
    |.inr (.inr x),hr=>exact hr
  ·rw[if_neg hnx];by_cases hseg:L[i]=w.seg
   ·rw[if_pos hseg]at h1 ⊢;rw[ah];exact⟨rfl,h1,h2,h3⟩
   ·rw[if_neg hseg];refine(rem w.sure (by rw[List.drop_eq_nil_of_le (by simp only[len]at hnx;omega),adR]) hseg).mono fun r hr=> ?_
    match r,hr with
    |.inl (k,x'),hr=>exact hr
    |.inr (.inl x),hr=>exact hr
    |.inr (.inr x),hr=>exact hr
 ·rintro⟨a,z,e⟩ ⟨h1,h2,h3⟩;simp only at h1;simp only[uH];rw[cu (Ie _),ah];rw[List.drop_length]at h1;exact h1
 ·rintro(x | x) hx
  ·simp only[fO,ah];simp only at hx;exact hx.symm
  ·simp only[fO,ah];simp only at hx;exact hx.symm
def upP (g:aT):Prop:=(g.up=true/\g.disk.down=false/\vK g.wal g.disk)\/(g.up=false/\g.disk.down=true/\g.outbox=[]/\g.feed.held=[]/\g.feed.gap=false)
def ny (g:aT):Prop:=jk g.disk/\jw g.state/\yZ g.wal/\g.state.lsn+1=g.wal.next/\Jg g.outbox g.wal.sure g.state.lsn/\adF g.feed (g.state.seq+1)/\(∀n∈g.feed.held,vZ (MZ n))/\(0<=g.gen/\g.gen<=1000000000)/\upP g
noncomputable instance (g:aT):Decidable (ny g):=Classical.propDecidable _
structure SG (g:aT):Prop where
 st:kT g.state
 sh:rO g.state
 wal:AB g.wal
 wl:g.wal.wait.length<=40
 bnd:Tv g.disk
 byte:vM g.disk
 fl:g.disk.files.length<=70
 ol:g.outbox.length<=9999
 hl:g.feed.held.length<=200
 ok:∀n∈g.feed.held,Uh n
 gen:inI g.gen
theorem Qw (w:dO) (lsn:Int):∀(l:List Int) (d:ay),jk d->(∀n∈l,zA n)->(Ci w lsn l d).2≠1
 |[],d,hd,_=>by rw[Ci];simp
 |n::r,d,hd,hg=>by
  have hk:=Sr (n:=kY n) hd
  have h1:(AP d (kY n)).2≠1:=by
   unfold AP
   split
   ·rename_i h
    unfold rY at h ⊢
    rw[if_neg (fun g=>g hd)]at h ⊢
    split at h
    ·rename_i h2;simp [h2]
    ·rename_i h2
     rw[if_pos (by intro m hm;rw[List.mem_singleton.1 hm];exact EF (hg n (by simp)))]at h
     exact absurd rfl h
   ·split
    ·simp
    ·split<;>simp
  rw[Ci]
  split
  ·exact Qw w lsn r d hd fun m hm=>hg m (by simp [hm])
  split
  ·simp
  split
  ·exact h1
  ·exact Qw w lsn r _ hk.right fun m hm=>hg m (by simp [hm])
open Classical in
theorem abu {w:dO} {d:ay} (hw:AB w) (hd:Tv d):qH w d=some (decide (vK w d)):=by
 unfold qH;rw[acv hw hd,aj];unfold agm;by_cases h:vK w d
 ·rw[if_pos h];have:=Qw w 0 (zD d.files) d h.2.1 abh;rw[show ieq (Ci w 0 (zD d.files) d).2 1=false by rw[bn];exact this];simp [h,ak]
 ·rw[if_neg h];simp [h,ieq,ak]
theorem aiJ (l:List uy) (hl:l.length<999999):Wq (bZ (fun v:Int×Int=>bW (len l) l v.1 v.2) LF (0,0)) fun w=>match w with
 |.inl k=>0<=k/\¬∀n∈l,vZ (MZ n)
 |.inr _=>∀n∈l,vZ (MZ n):=by
 refine lH (n:=l.length) hl (fun i _=>∀n∈l.take i,vZ (MZ n)) _ (fun i q hi hj=> ?_) (fun q hj=> ?_) _ 0 (Nat.zero_le _) (fun n hn=>by simp at hn)
 ·simp only[bW]
  rw[aB (by rw[dS];simpa using hi),aB (inb l i hi),aZ _ i hi,show yL l[i]=some (MZ l[i])from rfl,aj]
  refine(xG _).bind fun b hb=> ?_
  rw[gy,ah,ah]
  refine⟨fun h=>⟨by omega,fun g=> ?_⟩,fun h=>⟨dH (by omega),fun n hn=> ?_⟩⟩
  ·rw[aX]at h;subst h
   have:=hb.2 (g _ (List.getElem_mem hi));cases this
  ·rw[aU]at h
   rcases(AX hi).1 hn with h1 | rfl
   ·exact hj n h1
   ·exact hb.1 h
 ·simp only[bW]
  rw[cu (by rw[show((l.length:Nat):Int)=len l from rfl];simp [ilt]),ah]
  rw[List.take_length]at hj
  exact hj
theorem ai3 (g:aT):nS g=some (decide (g.outbox=[]/\g.feed.held=[]/\g.feed.gap=false)):=by
 unfold nS;congr 1;rw[Bool.eq_iff_iff];simp only[aW,bG,bU,dw,aX,aU,cZ,dn,bJ,dA,bf,bn,dG,dK,decide_eq_true_eq,len];constructor
 ·rintro⟨⟨h1,h2⟩,h3⟩;exact⟨List.eq_nil_of_length_eq_zero (by omega),List.eq_nil_of_length_eq_zero (by omega),h3⟩
 ·rintro⟨h1,h2,h3⟩;rw[h1,h2];exact⟨⟨rfl,rfl⟩,h3⟩
theorem aeI {g:aT} (hg:SG g):Wq (af (cnd (band (band (band (ile 0 g.gen) (ile g.gen 1000000000)) (ak (beq g.up g.disk.down))) g.up) (qH g.wal g.disk) (some false)) fun y7=>af (cnd (band (band (band (band (ile 0 g.gen) (ile g.gen 1000000000)) (ak (beq g.up g.disk.down))) (ak (band g.up y7))) (ak g.up)) (nS g) (some false)) fun y8=>some (band (band (band (ile 0 g.gen) (ile g.gen 1000000000)) (ak (beq g.up g.disk.down))) (bor (band g.up y7) (band (ak g.up) y8)))) fun b=>b=true↔((0<=g.gen/\g.gen<=1000000000)/\upP g):=by
 classical
 obtain⟨q,hq1,hq2⟩:∃q:Bool,nS g=some q/\(q=true↔(g.outbox=[]/\g.feed.held=[]/\g.feed.gap=false)):=⟨_,ai3 g,decide_eq_true_iff⟩;obtain⟨f,hf1,hf2⟩:∃f:Bool,qH g.wal g.disk=some f/\(f=true↔vK g.wal g.disk):=⟨_,abu hg.wal hg.bnd,decide_eq_true_iff⟩;unfold upP;rw[hq1,hf1,<-hq2,<-hf2];by_cases hG:0<=g.gen/\g.gen<=1000000000
 ·have e1:band (ile 0 g.gen) (ile g.gen 1000000000)=true:=by simp only[aW,bG,bU,dw,aX,aU,cZ,dn,bJ,dA,bf,bn,dG,dK];exact hG
  rw[e1];cases hu:g.up<;>cases hd:g.disk.down<;>cases f<;>cases q<;>simp [hG,cnd,band,bor,ak,beq,aj,ah]
 ·have e1:band (ile 0 g.gen) (ile g.gen 1000000000)=false:=by simp only[aW,bG,bU,dw,aX,aU,cZ,dn,bJ,dA,bf,bn,dG,dK];omega
  rw[e1];simp only[show ∀x,band false x=false from fun x=>rfl,aQ,aj,ah];exact⟨fun h=>(by cases h),fun h=>absurd h.1 hG⟩
theorem adY {a b:Int} (hb:1<=b/\b<=1000000001):(a=wr .i64 (aS b 1))↔a+1=b:=by
 rw[aS,dL (by omega) (by omega)];omega
theorem O8 {g:aT} (hg:SG g):zh g=some (decide (ny g)):=by
 classical
 refine Wq.dec ?_;unfold zh ny;rw[Dh hg.bnd.nm,aj];by_cases h1:jk g.disk
 case neg=>
  rw[decide_eq_false h1];simp only[aY,aJ,ql,dW,aV,aQ,aj,show ∀x,bor true x=true from fun x=>rfl];rw[ah];exact⟨fun h=>(by cases h),fun h=>absurd h.1 h1⟩
 rw[decide_eq_true h1];simp only[aJ,aY,aV];refine(Iy g.state hg.st hg.sh.1 hg.sh.2.2.1 hg.sh.2.2.2).bind fun b hb=> ?_;cases b with
 |false=>
  have:¬jw g.state:=fun h=>by have:=hb.2 h;cases this
  simp only[aY,aJ,ql,dW,aV,aQ,aj,show ∀x,bor true x=true from fun x=>rfl,show ∀x,bor false x=x from fun x=>rfl];rw[ah];exact⟨fun h=>(by cases h),fun h=>absurd h.2.1 this⟩
 |true=>
 have hR:=hb.1 rfl;simp only[aJ,aY,dW,aV];rw[KW hg.wal,aj];by_cases h2:yZ g.wal
 case neg=>
  rw[decide_eq_false h2];simp only[aY,show ∀x,bor false x=x from fun x=>rfl,aV];rw[ah];exact⟨fun h=>(by cases h),fun h=>absurd h.2.2.1 h2⟩
 rw[decide_eq_true h2];simp only[aJ,aY,show ∀x,bor false x=x from fun x=>rfl,aQ];have hn:=h2.2.1;by_cases h3:g.state.lsn+1=g.wal.next
 case neg=>
  have e3:ieq g.state.lsn (wr .i64 (aS g.wal.next 1))=false:=by rw[bn,ne_eq,adY hn];exact h3
  rw[e3];simp only[aY,aJ,aQ,aj,show ∀x,bor true x=true from fun x=>rfl,aV];rw[ah];exact⟨fun h=>(by cases h),fun h=>absurd h.2.2.2.1 h3⟩
 have e3:ieq g.state.lsn (wr .i64 (aS g.wal.next 1))=true:=by rw[bf,adY hn];exact h3
 rw[e3];simp only[aY,aJ,aV,show ∀x,bor false x=x from fun x=>rfl];refine(ahf g.outbox g.wal.sure g.state.lsn (by have:=hg.ol;omega)).bind fun c hc=> ?_;cases c with
 |false=>
  have:¬Jg g.outbox g.wal.sure g.state.lsn:=fun h=>by have:=hc.2 h;cases this
  simp only[aY,aJ,aQ,aj,show ∀x,bor true x=true from fun x=>rfl,aV];rw[ah];exact⟨fun h=>(by cases h),fun h=>absurd h.2.2.2.2.1 this⟩
 |true=>
 have hO:=hc.1 rfl;have hq:=hR.fine.seq;have hw:wr .i64 (aF g.state.seq 1)=g.state.seq+1:=dL (by simp only[aF];omega) (by simp only[aF];omega);rw[hw];simp only[aJ,aY,aV,show ∀x,bor false x=x from fun x=>rfl];refine(Ze g.feed _).bind fun d hd=> ?_;cases d with
 |false=>
  have:¬adF g.feed (g.state.seq+1):=fun h=>by have:=hd.2 h;cases this
  simp only[aY,aJ,aQ,aj,show ∀x,bor true x=true from fun x=>rfl,aV];rw[ah];exact⟨fun h=>(by cases h),fun h=>absurd h.2.2.2.2.2.1 this⟩
 |true=>
 have hF:=hd.1 rfl;simp only[aJ,aY,aV,show ∀x,bor false x=x from fun x=>rfl,aQ];refine(aiJ g.feed.held (by have:=hg.hl;omega)).bind ?_;rintro(k | k) hk
 ·simp only[fO];rw[aB (nC hk.1),ah];exact⟨fun h=>(by cases h),fun h=>absurd h.2.2.2.2.2.2.1 hk.2⟩
 ·simp only[fO];obtain⟨b,h,q⟩:=aeI hg;exact⟨b,h,fun hb=>⟨h1,hR,h2,h3,hO,hF,hk,q.1 hb⟩,fun hh=>q.2 hh.2.2.2.2.2.2.2⟩
noncomputable def o7 (g:aT):Int:=if ¬ny g then 1 else if g.up=true then 0 else 9
theorem OU {g:aT} (hg:SG g):uY g=some (o7 g):=by
 unfold uY o7;rw[O8 hg,aj,kD,CB];by_cases h:ny g
 ·rw[if_pos h,if_neg (fun k=>k h)];cases g.up<;>rfl
 ·rw[if_neg h,if_pos h]
theorem Ai {g:aT}:o7 g=0↔ny g/\g.up=true:=by
 unfold o7;by_cases h:ny g
 ·rw[if_neg (fun k=>k h)];by_cases hu:g.up=true
  ·simp [h,hu]
  ·simp [h,hu]
 ·rw[if_pos h];simp [h]
def SS (r:bV):SA6:=if r.kind=1 then ⟨r.order,r.account,r.symbol,r.side,r.qty,r.price⟩else if r.kind=4 then ⟨r.account,r.symbol,r.long,r.short,r.opn,0⟩else if r.kind=5 then (if r.on=true then ⟨1,0,0,0,0,0⟩else ⟨0,0,0,0,0,0⟩)
 else if r.kind=6 then ⟨r.seq,r.what,r.order,r.qty,r.price,0⟩else ⟨r.order,r.qty,r.price,0,0,0⟩
theorem ac4 {r:bV} (h:vZ r):jA r=some (SS r,0):=by
 unfold jA SS;obtain⟨b,hb,q⟩:=xG r;have:=q.2 h;subst this;rw[hb,aj,aJ,aQ,ja,ja,ja,ja];split
 ·rfl
 split
 ·rfl
 split
 ·cases r.on<;>rfl
 split<;>rfl
noncomputable def dV (g:aT) (r:bV):aT×Int:=
 if (doS g.state r).2≠0 then (g,(doS g.state r).2)else if (Rf g.wal r.kind (SS r)).2≠0 then (g,(Rf g.wal r.kind (SS r)).2)
 else (⟨g.disk,(Rf g.wal r.kind (SS r)).1,(doS g.state r).1,g.outbox,g.feed,g.gen,g.up⟩,0)
theorem YZ {g:aT} {r:bV} (hs:kT g.state) (hsh:rO g.state) (hw:AB g.wal) (hr:kz r):yh g r=some (dV g r):=by
 unfold yh dV;rw[aeC hs hr hsh.1 hsh.2.2.1 hsh.2.2.2,aj,kD,ja];by_cases h:(doS g.state r).2=0
 case neg=>rw[if_neg h,if_pos h]
 rw[if_pos h,if_neg (fun k=>k h),ac4 ((Wi g.state r).good h).1.2.1,aj,afy hw,aj,kD,ja];by_cases h2:(Rf g.wal r.kind (SS r)).2=0
 ·rw[if_pos h2,if_neg (fun k=>k h2)]
 ·rw[if_neg h2,if_pos h2]
theorem Ya:∀ {l:List bD} {n e:Int} {f:bD},rowP l n e->FD f->f.lsn=n+l.length->e<=f.epoch->(∀x∈l,x.epoch<=f.epoch)->rowP (l++[f]) n e
 |[],n,e,f,_,hf,hl,he,_=>⟨hf,by simpa using hl,he,trivial⟩
 |x::r,n,e,f,h,hf,hl,he,hx=>by
  obtain⟨h1,h2,h3,h4⟩:=h
  refine⟨h1,h2,h3,Ya h4 hf ?_ (hx x (by simp)) fun y hy=>hx y (by simp [hy])⟩
  simp only[List.length_cons]at hl;omega
structure aie (w v:dO):Prop where
 wal:yZ v
 next:v.next=w.next+1
 sure:v.sure=w.sure
 seg:v.seg=w.seg
 count:v.count=w.count
 few:v.wait.length=w.wait.length+1
 lim:w.next<=1000000000
theorem ajW {w:dO} {k:Int} {b:SA6} (h:(Rf w k b).2=0):yZ w/\aie w (Rf w k b).1:=by
 unfold Rf at h ⊢;split at h
 ·cases h
 rename_i h1;split at h
 ·cases h
 rename_i h2;split at h
 ·cases h
 rename_i h3;rw[if_neg h1,if_neg h2,if_neg h3];have hw:yZ w:=Classical.not_not.1 fun g=>h1 (.inl g);refine⟨hw,⟨?_,rfl,rfl,rfl,rfl,by simp,by omega⟩⟩;obtain⟨w1,w2,w3,w4,w5,w6,w7,w8⟩:=hw;have hk:1<=k/\k<=6:=by omega
 refine⟨w1,by simp only;omega,by simp only;omega,by simp only[List.length_append,List.length_singleton];omega,by simp only[List.length_append,List.length_singleton];omega,?_,?_,w8⟩
 ·refine Ya w6 ⟨w1.1,w1.2,by simp only;omega,by simp only;omega,hk.1,hk.2⟩ (by simp only;omega) w1.1 fun x hx=> ?_;rw[w7 x hx];exact Int.le_refl _
 ·intro x hx;rcases List.mem_append.1 hx with c | c
  ·exact w7 x c
  ·rw[List.mem_singleton.1 c]
theorem aie.fits {w v:dO} {d:ay} (h:aie w v) (hf:vK w d):vK v d:=by
 obtain⟨-, f2,f3,f4⟩:=hf;refine⟨h.wal,f2,?_,?_⟩
 ·rw[h.sure];exact f3
 ·rw[h.seg,h.count];exact f4
theorem afI {w:dO} {k:Int} {b:SA6}:(Rf w k b).2≠9:=by
 unfold Rf;split
 ·simp
 split
 ·simp
 split<;>simp
theorem abE (s t:ax) (a y:Int):(LY s t a y).2≠9:=by
 unfold LY;split
 ·simp
 split<;>simp
theorem aiX (s:ax) (r:bV):(doS s r).2≠9:=by
 unfold doS;split
 ·simp
 split
 ·split
  ·simp
  split
  ·simp
  exact abE _ _ _ _
 split
 ·split
  ·simp
  split
  ·simp
  split
  ·simp
  exact abE _ _ _ _
 split
 ·split
  ·simp
  split<;>simp
 split
 ·split<;>simp
 split
 ·simp
 split
 ·simp
 split
 ·simp
 split<;>simp
theorem acD (g:aT) (r:bV):(dV g r).2≠9:=by
 unfold dV;split
 ·exact aiX _ _
 split
 ·exact afI
 ·simp
structure alH (g h:aT):Prop where
 disk:h.disk=g.disk
 put:aie g.wal h.wal
 R:jw h.state
 lsn:h.state.lsn=g.state.lsn+1
 out:h.outbox=g.outbox
 feed:h.feed=g.feed
 gen:h.gen=g.gen
 up:h.up=g.up
 st:kT h.state
 sh:rO h.state
theorem Kw {g:aT} {r:bV} (hs:kT g.state) (hsh:rO g.state) (hr:kz r) (h:(dV g r).2=0):alH g (dV g r).1/\(doS g.state r).2=0/\(dV g r).1.state=(doS g.state r).1:=by
 unfold dV at h ⊢;by_cases h1:(doS g.state r).2≠0
 ·rw[if_pos h1]at h;exact absurd h h1
 rw[if_neg h1]at h ⊢;by_cases h2:(Rf g.wal r.kind (SS r)).2≠0
 ·rw[if_pos h2]at h;exact absurd h h2
 rw[if_neg h2];have h1:(doS g.state r).2=0:=Classical.not_not.1 h1;have h2:(Rf g.wal r.kind (SS r)).2=0:=Classical.not_not.1 h2;have q:=(Wi g.state r).good h1;exact⟨⟨rfl,(ajW h2).2,afB q.1.1 hs hr,q.2.1,rfl,rfl,rfl,rfl,(Wi g.state r).rng hs hr,ae8 hsh r⟩,h1,rfl⟩
theorem aaW:∀ {l:List eu} {a z:Int},Jg l a z->a<=z->(l.length:Int)<=z - a
 |[],a,z,_,h=>by simp;omega
 |m::r,a,z,h,_=>by
  have:=aaW h.2.2.2 h.2.2.1
  have:=h.2.1
  simp only[List.length_cons];omega
theorem SG.of {g:aT} (h:ny g) (st:kT g.state) (sh:rO g.state) (fu:inI g.disk.fuse) (by':vM g.disk) (ok:∀n∈g.feed.held,Uh n):SG g:=by
 obtain⟨h1,h2,h3,h4,h5,h6,h7,h8,h9⟩:=h;have w:=ah8 h3;have hl:=h3.2.2.2.1;have hs:=h3.2.2.2.2.1;have ho:=aaW h5 (by have:=h3.2.2.1;omega);refine⟨st,sh,w,by omega,h1.bnd fu,by',by have:=h1.fl;omega,by omega,by have:=h6.2.2.1;omega,ok,by unfold inI;omega⟩
theorem YT {g:aT} (h:ny g) (hu:g.up=true):g.disk.down=false/\vK g.wal g.disk:=by
 rcases h.2.2.2.2.2.2.2.2 with h | h
 ·exact h.2
 ·rw[h.1]at hu;cases hu
theorem V8 {g:aT} (hu:g.up=true):o7 g≠9:=by
 unfold o7;rw[if_pos hu];split<;>simp
def ofM (k:Int) (o:au) (z:Int):eu:=(gu k o z).getD ⟨0,0,0,0,0,0,0,0,0⟩
theorem ak9 (k:Int) (o:au) (z:Int):gu k o z=some (ofM k o z):=by
 obtain⟨m,h⟩:=akR k o z;unfold ofM;rw[h];rfl
def FB (g:aT) (r:bV):aT:=⟨g.disk,g.wal,g.state,g.outbox++[ofM r.kind (ai g.state.orders (itn (JE g.state.orders r.order))) g.state.lsn],g.feed,g.gen,g.up⟩
noncomputable def jq (g:aT) (r:bV):aT×Int:=
 if o7 g≠0 then (g,o7 g)else if r.kind<1\/3<r.kind then (g,1)else if (dV g r).2≠0 then (g,(dV g r).2)else (FB (dV g r).1 r,0)
theorem Q8 {g:aT} {r:bV} (hg:SG g) (hr:kz r) (hk:¬(r.kind<1\/3<r.kind)) (h:(dV g r).2=0):∃(j:Nat) (hj:j<(dV g r).1.state.orders.length),JE (dV g r).1.state.orders r.order=(j:Int)/\
 (rG (dV g r).1.state.orders[j])/\(r.kind=2->1<=(dV g r).1.state.orders[j].newQty/\1<=(dV g r).1.state.orders[j].newPrice/\1<=(dV g r).1.state.orders[j].version):=by
 obtain⟨q,h1,h2⟩:=Kw hg.st hg.sh hr h
 obtain⟨o,ho,hid,hv⟩:=agG h1 (by omega)
 rw[<-h2]at ho
 obtain⟨j,hj,hf,rfl⟩:=ajo q.R.fine.asc ho
 rw[hid]at hf
 exact⟨j,hj,DU hf,(q.R.fine.ords _ (List.getElem_mem hj)).1,hv⟩
theorem MO {g:aT} {r:bV} (hg:SG g) (hr:kz r):oQ g r=some (jq g r):=by
 unfold oQ jq;rw[OU hg,aj,kD,ja];by_cases h0:o7 g=0
 case neg=>rw[if_neg h0,if_pos h0]
 rw[if_pos h0,if_neg (fun k=>k h0)];by_cases hk:r.kind<1\/3<r.kind
 ·rw[aB (by simp only[aW,bG,bU,dw,aX,aU,cZ,dn,bJ,dA,bf,bn,dG,dK];exact hk),if_pos hk]
 rw[cu (by simp only[aW,bG,bU,dw,aX,aU,cZ,dn,bJ,dA,bf,bn,dG,dK];omega),if_neg hk,YZ hg.st hg.sh hg.wal hr,aj,kD,ja];by_cases h:(dV g r).2=0
 case neg=>rw[if_neg h,if_pos h]
 rw[if_pos h,if_neg (fun k=>k h)];have hol:=hg.ol;obtain⟨j,hj,hf, -⟩:=Q8 hg hr hk h;obtain⟨q,-, -⟩:=Kw hg.st hg.sh hr h;rw[Fb _ _ q.sh.1,aj,hf,aB (inb _ j hj),show dU g.outbox=some g.outbox from uO (by omega),aj,ak9,aj,aB (by simp only[bP,len];exact nC (by simp;omega))];unfold FB;rw[hf,q.out];rfl
theorem Zy {g:aT} {r:bV} (hg:SG g) (hr:kz r):SG (jq g r).1/\(ny g->ny (jq g r).1)/\(jq g r).1.up=g.up/\(jq g r).1.disk=g.disk/\(jq g r).1.wal.sure=g.wal.sure/\(jq g r).1.gen=g.gen/\(g.up=true->(jq g r).2≠9):=by
 unfold jq;by_cases h0:o7 g=0
 case neg=>
  rw[if_pos h0];refine⟨hg,id,rfl,rfl,rfl,rfl,fun hu=> ?_⟩;exact V8 hu
 rw[if_neg (fun k=>k h0)];obtain⟨hG,hu⟩:=Ai.1 h0;by_cases hk:r.kind<1\/3<r.kind
 ·rw[if_pos hk];exact⟨hg,id,rfl,rfl,rfl,rfl,fun _=>by simp⟩
 rw[if_neg hk];by_cases h:(dV g r).2=0
 case neg=>rw[if_pos h];exact⟨hg,id,rfl,rfl,rfl,rfl,fun _=>acD g r⟩
 rw[if_neg (fun k=>k h)];obtain⟨j,hj,hf,hoP,hv⟩:=Q8 hg hr hk h;obtain⟨q,hd0,hds⟩:=Kw hg.st hg.sh hr h;obtain⟨h1,h2,h3,h4,h5,h6,h7,h8,h9⟩:=hG;have hfit:=YT ⟨h1,h2,h3,h4,h5,h6,h7,h8,h9⟩ hu;have hseq:(dV g r).1.state.seq=g.state.seq:=by
  have:=((Wi g.state r).good hd0).2.2.1;rw[hds,this,if_neg (by omega)]
 have hsn:=h3.2.2.1;have hlim:=q.put.lim;have hlsn:=q.lsn;have hnew:Jg (FB (dV g r).1 r).outbox g.wal.sure (g.state.lsn+1):=by
  unfold FB;simp only;rw[q.out,hf,aZ _ _ hj,hlsn];obtain⟨m,hm,hmp,hml⟩:=ald (k:=r.kind) (z:=g.state.lsn+1) hoP (by omega) hv (by omega);have:ofM r.kind (dV g r).1.state.orders[j] (g.state.lsn+1)=m:=by unfold ofM;rw[hm];rfl
  rw[this];exact aa9 (z:=g.state.lsn) h5 (by omega) hmp (by omega) (by omega)
 have hR:ny (FB (dV g r).1 r):=by
  refine⟨by rw[show(FB (dV g r).1 r).disk=_ from q.disk];exact h1,q.R,q.put.wal,?_,?_,?_,?_,?_,.inl ⟨q.up.trans hu,?_,?_⟩⟩
  ·show(dV g r).1.state.lsn+1=(dV g r).1.wal.next;rw[hlsn,q.put.next];omega
  ·rw[show(FB (dV g r).1 r).wal.sure=g.wal.sure from q.put.sure,show(FB (dV g r).1 r).state.lsn=g.state.lsn+1 from hlsn];exact hnew
  ·rw[show(FB (dV g r).1 r).feed=g.feed from q.feed,show(FB (dV g r).1 r).state.seq=g.state.seq from hseq];exact h6
  ·rw[show(FB (dV g r).1 r).feed=g.feed from q.feed];exact h7
  ·rw[show(FB (dV g r).1 r).gen=g.gen from q.gen];exact h8
  ·rw[show(FB (dV g r).1 r).disk=g.disk from q.disk];exact hfit.1
  ·rw[show(FB (dV g r).1 r).disk=g.disk from q.disk];exact q.put.fits hfit.2
 refine⟨SG.of hR q.st q.sh ?_ ?_ ?_,fun _=>hR,q.up,q.disk,q.put.sure,q.gen,fun _=>by simp⟩
 ·rw[show(FB (dV g r).1 r).disk=g.disk from q.disk];exact hg.bnd.fu
 ·rw[show(FB (dV g r).1 r).disk=g.disk from q.disk];exact hg.byte
 ·rw[show(FB (dV g r).1 r).feed=g.feed from q.feed];exact hg.ok
theorem abI {l:List aI} (ha:Jc l) {p:Nm->Prop}:(∀f∈l,p f.name)↔∀n f,kM l n=some f->p n:=by
 constructor
 ·intro h n f hg;have:=Ap hg;rw[<-this.2];exact h f this.1
 ·intro h f hf;exact h _ f (get_mem ha hf)
theorem aiu {w:dO} {d:ay} (hw:yZ w) (hd:jk d) (h1:∀n f,kM d.files n=some f->vP rX n<=w.sure) (h2:w.seg=0\/∃f,kM d.files (kY w.seg)=some f/\(f.data.length:Int)=w.count*72):vK w d:=
 ⟨hw,hd,(abI hd.asc (p:=fun n=>vP rX n<=w.sure)).2 h1,h2⟩
theorem aaV {w:dO} {d:ay} (h:vK w d) {n:Nm} {f:aI} (hg:kM d.files n=some f):vP rX n<=w.sure:=
 (abI h.2.1.asc (p:=fun n=>vP rX n<=w.sure)).1 h.2.2.1 n f hg
theorem acX {w:dO} {d:ay} (hne:w.wait≠[]) (hf:vK w d) (hu:d.down=false):
 ((writeW w d).2=0/\(writeW w d).1.down=false/\vK (tX w) (writeW w d).1)\/((writeW w d).2=6/\(writeW w d).1=d)\/((writeW w d).2=9/\(writeW w d).1.down=true):=by
 have hw:=hf.1
 obtain⟨g0,g1,g2,g3⟩:=PX hw hne
 obtain⟨t1,t2,t3, -⟩:=Jo hw hne
 have hn:=EF g0
 have hU:UpD d:=⟨hf.2.1,hu⟩
 have hsr:=hw.2.2.1
 unfold writeW
 generalize hB:rowB (w.wait.take (kP w))=B
 have hBl:B.length=72*kP w:=by rw[<-hB,VW,List.length_take];omega
 rcases YK (b:=B) hU hn with ⟨a1,a2, -⟩ | ⟨a1,a2,a3,a4⟩
 ·right;left
  rw[Wl (by rw[a1];simp)];exact⟨a1,a2⟩
 rcases a1.cases with c | ⟨c1,c2, -⟩
 case inr=>
  right;right
  rw[Wl (by rw[c1];simp)];exact⟨c1,c2⟩
 rw[then_ok c]
 have hU2:=a1.up c
 have hg:=a2 (kY (vW w).1)
 rw[if_pos rfl]at hg
 obtain⟨s1,s2,s3,s4,s5⟩:=acf hU2 hn hg
 rcases s1.cases with e | ⟨e1,e2, -⟩
 case inr=>exact .inr (.inr ⟨e1,e2⟩)
 refine .inl ⟨e,(s1.up e).up,aiu (VD hw hne) (s1.up e).right (fun n f hgf=> ?_) (.inr ?_)⟩
 ·rw[s2 e n]at hgf
  by_cases hnn:n=kY (vW w).1
  ·rw[hnn,QI g0];simp only[tX];omega
  ·rw[if_neg hnn,a2 n,if_neg hnn]at hgf
   have:=aaV hf hgf
   simp only[tX];omega
 ·refine⟨_,(s2 e _).trans (if_pos rfl),?_⟩
  simp only[tX,List.length_append,hBl]
  have hold:((((kM d.files (kY (vW w).1)).getD ⟨kY (vW w).1,[],0⟩).data.length:Nat):Int)=(vW w).2*72:=by
   by_cases hs:w.seg=0\/w.count=8
   ·have hq:vW w=(w.sure+1,0):=if_pos hs
    rw[hq]at g0 ⊢
    have:kM d.files (kY (w.sure+1))=none:=by
     cases hgg:kM d.files (kY (w.sure+1))with
     |none=>rfl
     |some f=>
      have:=aaV hf hgg
      rw[QI g0]at this;omega
    simp only[this];simp
   ·have hq:vW w=(w.seg,w.count):=if_neg hs
    rw[hq]
    rcases hf.2.2.2 with hz | ⟨f,f1,f2⟩
    ·exact absurd (.inl hz) hs
    ·simp only[f1];simpa using f2
  push_cast
  omega
structure ak4 (w:dO) (d:ay) (r:dO×ay×Int):Prop where
 wal:yZ r.1
 next:r.1.next=w.next
 epoch:r.1.epoch=w.epoch
 sure:w.sure<=r.1.sure
 keep:Keep d r.2.1
 byte:vM d->vM r.2.1
 code:(r.2.2=0/\r.2.1.down=false/\vK r.1 r.2.1/\r.1.wait=[])\/(r.2.2=6/\r.2.1.down=false/\vK r.1 r.2.1)\/(r.2.2=9/\r.2.1.down=true)
theorem Uy:∀(k:Nat) {w:dO} {d:ay},w.wait.length<=k->vK w d->d.down=false->ak4 w d (sK k w d)
 |0,w,d,hk,hf,hu=>by
  rw[sK]
  exact⟨hf.1,rfl,rfl,Int.le_refl _,Keep.refl hf.2.1,id,.inl ⟨rfl,hu,hf,List.eq_nil_of_length_eq_zero (by show w.wait.length=0;omega)⟩⟩
 |k+1,w,d,hk,hf,hu=>by
  rw[sK]
  by_cases hne:w.wait=[]
  ·rw[if_pos hne]
   exact⟨hf.1,rfl,rfl,Int.le_refl _,Keep.refl hf.2.1,id,.inl ⟨rfl,hu,hf,hne⟩⟩
  rw[if_neg hne]
  have hkw:=RI (w:=w) hf.2.1
  have hbw:vM d->vM (writeW w d).1:=fun h=>abH h
  obtain⟨t1,t2,-, -⟩:=Jo hf.1 hne
  rcases acX hne hf hu with ⟨a,b,c⟩ | ⟨a,b⟩ | ⟨a,b⟩
  ·rw[if_neg (fun g=>g a)]
   have ih:=Uy k (w:=tX w) (d:=(writeW w d).1) (by simp only[tX,List.length_drop];omega) c b
   exact⟨ih.wal,ih.next,ih.epoch,by have:=ih.sure;rw[show(tX w).sure=w.sure+(kP w:Int)from rfl]at this;omega,hkw.trans ih.keep,fun h=>ih.byte (hbw h),ih.code⟩
  ·rw[if_pos (by rw[a];simp)]
   exact⟨hf.1,rfl,rfl,Int.le_refl _,hkw,hbw,.inr (.inl ⟨a,by rw[b];exact hu,by rw[b];exact hf⟩)⟩
  ·rw[if_pos (by rw[a];simp)]
   exact⟨hf.1,rfl,rfl,Int.le_refl _,hkw,hbw,.inr (.inr ⟨a,b⟩)⟩
theorem ae6 {w:dO} {d:ay} (hf:vK w d) (hu:d.down=false):ak4 w d (iw w d):=by
 unfold iw;rw[if_pos hf];exact Uy 40 (by have:=hf.1.2.2.2.1;omega) hf hu
theorem UJ {l:List eu} {s:Int} {i:Nat} (h1:∀(j:Nat) (h:j<l.length),j<i->l[j].lsn<=s) (h2:∀h:i<l.length,s<l[i].lsn) (hi:i<=l.length):
 l.take i=(l.takeWhile fun m=>decide (m.lsn<=s))/\l.drop i=(l.dropWhile fun m=>decide (m.lsn<=s)):=by
 induction l generalizing i with
 |nil=>simp at hi;subst hi;simp
 |cons m r ih=>
  cases i with
  |zero=>
   have:=h2 (by simp)
   simp at this
   rw[List.takeWhile_cons_of_neg (by simp;omega),List.dropWhile_cons_of_neg (by simp;omega)]
   simp
  |succ i=>
   have h0:=h1 0 (by simp) (by omega)
   simp at h0
   rw[List.takeWhile_cons_of_pos (by simpa using h0),List.dropWhile_cons_of_pos (by simpa using h0)]
   have:=ih (i:=i) (fun j h hj=>by have:=h1 (j+1) (by simp;omega) (by omega);simpa using this) (fun h=>by have:=h2 (by simp;omega);simpa using this) (by simp at hi;omega)
   simp [this.1,this.2]
def goM (l:List eu) (s:Int):List eu:=l.takeWhile fun m=>decide (m.lsn<=s)
def GZ (l:List eu) (s:Int):List eu:=l.dropWhile fun m=>decide (m.lsn<=s)
theorem Lu {l:List eu} (h:l.length<1000000):dU l=some l:=uO h
theorem Wx {α:Type} (l:List α) (i:Nat):bF l (itn (i:Int))=l.take i:=rfl
theorem abK {α:Type} (l:List α) (i:Nat):dF l (itn (i:Int))=l.drop i:=rfl
theorem WH {l:List eu} {s:Int} (hl:l.length<99999):yM l s=some (goM l s,GZ l s):=by
 refine Wq.eq ?_;unfold yM
 refine Wq.bind (Q:=fun w:Int ⊕ Int=>match w with
  |.inl k=>∃i:Nat,k=(i:Int)/\i<=l.length/\l.take i=goM l s/\l.drop i=GZ l s
  |.inr _=>l=goM l s/\GZ l s=[])
  (lH (n:=l.length) (step:=fun v:Int×Int=>dB (len l) l s v.1 v.2) (by omega) (fun i _=>∀(j:Nat) (h:j<l.length),j<i->l[j].lsn<=s) _ (fun i q hi hj=> ?_) (fun q hj=> ?_) _ 0 (Nat.zero_le _) (fun j h hj=>by omega)) ?_
 ·simp only[dB];rw[aB (by rw[dS];simpa using hi),aB (inb l i hi),aZ _ i hi,O7];by_cases h:s<l[i].lsn
  ·rw[if_pos h];have:=UJ hj (fun _=>h) (by omega);exact(ah _).2 ⟨i,rfl,by omega,this.1,this.2⟩
  ·rw[if_neg h];refine(ah _).2 ⟨dH (by omega),fun j hjl hji=> ?_⟩;by_cases e:j=i
   ·subst e;omega
   ·exact hj j hjl (by omega)
 ·simp only[dB];rw[cu (Ie _)];have:=UJ (i:=l.length) hj (fun h=>by omega) (by omega);refine(ah _).2 ⟨?_,?_⟩
  ·have:=this.1;rw[List.take_length]at this;exact this
  ·have:=this.2;rw[List.drop_length]at this;exact this.symm
 ·rintro(k | k) hk
  ·obtain⟨i,rfl,hi,h1,h2⟩:=hk;simp only[fO];have hin:band (ile 0 (i:Int)) (ile (i:Int) (len l))=true:=ND (nC (by omega)) (nC (by simp only[len];omega));rw[cu (I9 (by omega)),aB hin,Wx,abK,Lu (by rw[List.length_take];omega),aj,aB hin,Lu (by rw[List.length_drop];omega),aj,ah,h1,h2]
  ·obtain⟨h1,h2⟩:=hk;simp only[fO];have hin:band (ile 0 (len l)) (ile (len l) (len l))=true:=ND (nC (by simp only[len];omega)) (nC (by omega));rw[aB hin,show bF l (itn (len l))=l by rw[show len l=((l.length:Nat):Int)from rfl,Wx,List.take_length],show dF l (itn (len l))=[] by rw[show len l=((l.length:Nat):Int)from rfl,abK,List.drop_length],Lu (by omega),aj,aB hin,Lu (by simp),aj,ah,<-h1,h2]
theorem Yn:∀ {l:List eu} {a s z:Int},Jg l a z->a<=s->Jg (GZ l s) s z
 |[],a,s,z,h,_=>trivial
 |m::r,a,s,z,h,ha=>by
  unfold GZ
  by_cases hm:m.lsn<=s
  ·rw[List.dropWhile_cons_of_pos (by simpa using hm)]
   exact Yn h.2.2.2 hm
  ·rw[List.dropWhile_cons_of_neg (by simpa using hm)]
   exact⟨h.1,by omega,h.2.2.1,h.2.2.2⟩
theorem aha:∀ {l:List eu} {a z s:Int},Jg l a z->z<=s->goM l s=l/\GZ l s=[]
 |[],a,z,s,_,_=>⟨rfl,rfl⟩
 |m::r,a,z,s,h,hs=>by
  have ih:=aha h.2.2.2 hs
  have hm:m.lsn<=s:=by have:=h.2.2.1;omega
  unfold goM GZ at ih ⊢
  rw[List.takeWhile_cons_of_pos (by simpa using hm),List.dropWhile_cons_of_pos (by simpa using hm),ih.1,ih.2]
  exact⟨rfl,rfl⟩
theorem ajK (l:List eu) (s:Int):(goM l s).length+(GZ l s).length=l.length:=by
 unfold goM GZ;rw[<-List.length_append,List.takeWhile_append_dropWhile]
def abz (g:aT):aT:=⟨g.disk,g.wal,g.state,[],⟨[],false⟩,g.gen,false⟩
noncomputable def afm (g:aT):aT:=⟨(iw g.wal g.disk).2.1,(iw g.wal g.disk).1,g.state,g.outbox,g.feed,g.gen,g.up⟩
noncomputable def Wh (g:aT):aT×Int:=(if (iw g.wal g.disk).2.1.down=true then abz (afm g)else afm g,(iw g.wal g.disk).2.2)
theorem afD {g:aT} (hw:AB g.wal) (hd:Tv g.disk):tY g=some (Wh g):=by
 unfold tY Wh;rw[Zu hw hd,aj,J5];split<;>rfl
noncomputable def dM (g:aT):aT×List eu×Int:=
 if o7 g≠0 then (g,[],o7 g)else if (iw g.wal g.disk).2.1.down=true then (abz (afm g),[],(iw g.wal g.disk).2.2)
 else (⟨(iw g.wal g.disk).2.1,(iw g.wal g.disk).1,g.state,GZ g.outbox (iw g.wal g.disk).1.sure,g.feed,g.gen,g.up⟩,goM g.outbox (iw g.wal g.disk).1.sure,(iw g.wal g.disk).2.2)
theorem O0 {g:aT} (hg:SG g):oI g=some (dM g):=by
 unfold oI dM;rw[OU hg,aj,kD,ja];by_cases h0:o7 g=0
 case neg=>rw[if_neg h0,if_pos h0]
 rw[if_pos h0,if_neg (fun k=>k h0),afD hg.wal hg.bnd,aj];have hu:=(Ai.1 h0).2;unfold Wh;by_cases hd:(iw g.wal g.disk).2.1.down=true
 ·rw[if_pos hd,if_pos hd];rfl
 ·rw[if_neg hd,if_neg hd];simp only[afm];rw[hu,aJ,aQ,WH (by have:=hg.ol;omega)];rfl
theorem acQ {g:aT} (hd:jk g.disk) (hR:jw g.state) (hw:yZ g.wal) (hl:g.state.lsn+1=g.wal.next) (hgen:0<=g.gen/\g.gen<=1000000000) (hdn:g.disk.down=true):ny (abz g):=by
 have hq:=hR.fine.seq;exact⟨hd,hR,hw,hl,trivial,⟨by show 1<=g.state.seq+1;omega,by show g.state.seq+1<=_;omega,by simp [abz],trivial⟩,fun n hn=>(by cases hn),hgen,.inr ⟨rfl,hdn,rfl,rfl,rfl⟩⟩
structure alk (g:aT) (r:aT×List eu×Int):Prop where
 sg:SG r.1
 right:ny r.1
 state:r.1.state=g.state
 gen:r.1.gen=g.gen
 next:r.1.wal.next=g.wal.next
 sure:g.wal.sure<=r.1.wal.sure
 how:(r.1.up=true/\(r.2.2=0\/r.2.2=6)/\r.1.feed=g.feed/\r.2.1=goM g.outbox r.1.wal.sure/\r.1.outbox=GZ g.outbox r.1.wal.sure/\(r.2.2=0->r.1.wal.wait=[]))\/(r.1.up=false/\r.2.2=9/\r.2.1=[])
theorem Qz {g:aT} (h:o7 g≠0):dM g=(g,[],o7 g):=by unfold dM;rw[if_pos h]
theorem KN {g:aT} (hg:SG g) (h0:o7 g=0):alk g (dM g):=by
 obtain⟨hG,hu⟩:=Ai.1 h0;obtain⟨hdn,hfit⟩:=YT hG hu;obtain⟨h1,h2,h3,h4,h5,h6,h7,h8,h9⟩:=hG;have q:=ae6 hfit hdn;have hL:=h2.fine.lsn;unfold dM;rw[if_neg (fun k=>k h0)];have hfu:=(q.keep.bnd hg.bnd.fu).fu;have hby:=q.byte hg.byte;have hnx:=q.next;have hsn:=q.wal.2.2.1;by_cases hd:(iw g.wal g.disk).2.1.down=true
 ·rw[if_pos hd];have e9:(iw g.wal g.disk).2.2=9:=by
   rcases q.code with ⟨-, c, -⟩ | ⟨-, c, -⟩ | ⟨c, -⟩
   ·rw[hd]at c;cases c
   ·rw[hd]at c;cases c
   ·exact c
  have hR:ny (abz (afm g)):=acQ (g:=afm g) q.keep.right h2 q.wal (h4.trans hnx.symm) h8 hd;exact⟨SG.of hR hg.st hg.sh hfu hby (fun n hn=>(by cases hn)),hR,rfl,rfl,hnx,q.sure,.inr ⟨rfl,e9,rfl⟩⟩
 ·rw[if_neg hd];have hc:((iw g.wal g.disk).2.2=0\/(iw g.wal g.disk).2.2=6)/\vK (iw g.wal g.disk).1 (iw g.wal g.disk).2.1/\((iw g.wal g.disk).2.2=0->(iw g.wal g.disk).1.wait=[]):=by
   rcases q.code with ⟨c1,-, c2,c3⟩ | ⟨c1,-, c2⟩ | ⟨-, c⟩
   ·exact⟨.inl c1,c2,fun _=>c3⟩
   ·exact⟨.inr c1,c2,fun c=>(by omega)⟩
   ·exact absurd c hd
  have hR:ny ⟨(iw g.wal g.disk).2.1,(iw g.wal g.disk).1,g.state,GZ g.outbox (iw g.wal g.disk).1.sure,g.feed,g.gen,g.up⟩:=
   ⟨q.keep.right,h2,q.wal,h4.trans hnx.symm,Yn h5 q.sure,h6,h7,h8,.inl ⟨hu,by simpa using hd,hc.2.1⟩⟩
  exact⟨SG.of hR hg.st hg.sh hfu hby hg.ok,hR,rfl,rfl,hnx,q.sure,.inl ⟨hu,hc.1,rfl,rfl,rfl,hc.2.2⟩⟩
structure ajF (g h:aT) (e:Int):Prop where
 sg:SG h
 right:ny g->ny h
 down:g.up=true->(h.up=false↔e=9)
 low:g.up=false->h=g
theorem NC {g:aT} (hg:SG g):ajF g (dM g).1 (dM g).2.2:=by
 by_cases h0:o7 g=0
 case neg=>
  rw[Qz h0];exact⟨hg,id,fun hu=>⟨fun h=>(by rw[hu]at h;cases h),fun h=>absurd h (V8 hu)⟩,fun _=>rfl⟩
 have q:=KN hg h0;refine⟨q.sg,fun _=>q.right,fun hu=> ?_,fun hu=> ?_⟩
 ·rcases q.how with ⟨h1,h2, -⟩ | ⟨h1,h2, -⟩
  ·rw[h1];constructor
   ·intro h;cases h
   ·intro h;omega
  ·exact⟨fun _=>h2,fun _=>h1⟩
 ·have:=(Ai.1 h0).2;rw[hu]at this;cases this
theorem aaP {g:aT} (hg:SG g) (hf:(dM g).2.2=0):o7 g=0/\alk g (dM g)/\(dM g).1.up=true:=by
 by_cases h0:o7 g=0
 ·have q:=KN hg h0;refine⟨h0,q,?_⟩;rcases q.how with ⟨h, -⟩ | ⟨-, h, -⟩
  ·exact h
  ·rw[hf]at h;cases h
 ·rw[Qz h0]at hf;exact absurd hf h0
theorem KO {g:aT} {r:bV} (hg:SG g) (hr:kz r):ajF g (jq g r).1 (jq g r).2:=by
 obtain⟨h1,h2,h3,-, -, -, h7⟩:=Zy hg hr;refine⟨h1,h2,fun hu=>⟨fun h=> ?_,fun h=>absurd h (h7 hu)⟩,fun hl=> ?_⟩
 ·rw[h3,hu]at h;cases h
 ·unfold jq;rw[if_pos (fun k=>by have:=(Ai.1 k).2;rw[hl]at this;cases this)]
theorem abU {l:List bD} (hl:l.length<999999):qc l l=some true:=by
 refine Wq.eq ?_;unfold qc;rw[cu (by simp only[aU,bf])]
 refine Wq.bind (Q:=fun w:Bool ⊕ Bool=>match w with
  |.inl b=>False
  |.inr _=>True)
  (lH (n:=l.length) (step:=fun v:Int×Bool=>kF l l v.1 v.2) (by omega) (fun i x=>True) _ ?_ ?_ _ 0 (Nat.zero_le _) trivial) ?_
 ·rintro i q hi -;simp only[kF];rw[aB (by rw[dS];simpa using hi),aB (inb _ i hi),aB (inb _ i hi),cu (by simp only[aU,aW,bf,and_self]),ah];exact⟨dH (by omega),trivial⟩
 ·rintro q -;simp only[kF];rw[cu (Ie _),ah];trivial
 ·rintro(w | w) hw
  ·exact hw.elim
  ·simp only[fO,ah]
theorem ahl {w:dO} (hl:w.wait.length<999999):pW w w=some true:=by
 unfold pW;simp only[Kt,zO,aV,abU hl,aj]
theorem SG.same {g:aT} (h:SG g):pY g g=some true:=by
 have h1:=h.fl;have h2:=h.wl;have h3:=h.ol;have h4:=h.hl;unfold pY;simp only[Kt,aff,zO,aV,agc _ (show g.disk.files.length<999999 by omega),ahl (show g.wal.wait.length<999999 by omega),aeF h.sh,Ye _ (show g.outbox.length<999999 by omega),afl _ (show g.feed.held.length<999999 by omega),aj]
theorem ae7 (g:aT) (k:Ud g):Wq (oM g) fun b=>b=true->SG g/\g.outbox.length<=99/\g.feed.held.length<=99:=by
 unfold oM;refine(aeR g.disk k.disk_files).bind fun b hb=> ?_;refine Wq.bind (Q:=fun c=>c=true->b=true/\rO g.state) ?_ fun c hc=> ?_
 ·rw[gy];exact⟨fun h1=>(aio g.state).mono fun c hc h=>⟨h1,hc h⟩,fun _=>(ah _).2 fun h=>by cases h⟩
 ·rw[ah];intro h;simp only[aW,bG,bU,dw,aX,aU,cZ,dn,bJ,dA,bf,bn,dG,dK,len]at h;obtain⟨⟨⟨⟨h1,h2⟩,h3⟩,h4⟩,h5⟩:=h;have hd:PE g.disk:=⟨k.disk_files,k.disk_room,k.disk_fuse⟩;have hs:=hb h1;refine⟨⟨⟨k.state_accounts,k.state_symbols,k.state_orders,k.state_cells,k.state_limits,k.state_caps,k.state_last,k.state_seq,k.state_lsn⟩,(hc h2).2,⟨k.wal_epoch,k.wal_next,k.wal_sure,k.wal_seg,k.wal_count,by omega⟩,by omega,aee hd hs,ah3 hd,hs.1,by omega,by omega,fun n hn=>k.feed_held.1 n hn,k.gen⟩,by omega,by omega⟩
def Vj (a:Int) (o:au):Bool:=(decide (a= -1)||decide (o.account=a))&& !o.asked
def aj8 (o:au):bV:=⟨3,o.id,0,0,0,0,0,0,0,0,false,0,0⟩
def zi (os:List au) (a:Int):List bV:=(os.filter (Vj a)).map aj8
theorem Ux (os:List au) (a:Int) {i:Nat} (h:i<os.length):zi (os.take (i+1)) a=zi (os.take i) a++(if Vj a os[i]=true then [aj8 os[i]]else []):=by
 unfold zi;rw[List.take_succ_eq_append_getElem h,List.filter_append,List.map_append];congr 1;by_cases hl:Vj a os[i]=true
 ·simp [List.filter,hl]
 ·simp [List.filter,hl]
theorem Qy (os:List au) (a:Int):(zi os a).length<=os.length:=by
 unfold zi;rw[List.length_map];exact List.length_filter_le _ _
theorem aaM {os:List au} {a:Int} (h:∀o∈os,fA o):∀r∈zi os a,kz r/\r.kind=3:=fun r hr=>by
 unfold zi at hr;obtain⟨o,ho,rfl⟩:=List.mem_map.1 hr;have:=(h o (List.mem_filter.1 ho).1).id;refine⟨⟨?_,this,?_,?_,?_,?_,?_,?_,?_,?_,?_,?_⟩,rfl⟩<;>(unfold inI;simp [aj8])
theorem afj {os:List au} {a:Int} (hl:os.length<999999):Wq (bZ (fun v:Int×List bV=>kW (len os) os a v.1 v.2) LF (0,[])) fun w=>w=zi os a:=by
 refine(lH (n:=os.length) (step:=fun v:Int×List bV=>kW (len os) os a v.1 v.2) hl (fun i x=>x=zi (os.take i) a) (fun w=>w=zi os a) ?_ ?_ _ 0 (Nat.zero_le _) rfl)
 ·rintro i x hi rfl;simp only[kW];have h1:=Qy (os.take i) a;rw[aB (by rw[dS];simpa using hi),aB (inb _ i hi),aZ _ _ hi];unfold Qp;rw[aj];have hc:band (bor (ieq a (-1)) (ieq os[i].account a)) (ak os[i].asked)=Vj a os[i]:=by
   unfold Vj;by_cases x1:a= -1<;>by_cases x2:os[i].account=a<;>cases os[i].asked<;>simp [ieq,x1,x2,band,bor,ak]
  rw[hc];cases hL:Vj a os[i]with
  |true=>
   rw[aV,aB (Ob (n:=9999999) (by simp only[bP,List.length_append,List.length_singleton];rw[List.length_take]at h1;omega) (by decide)),ah];exact⟨dH (by omega),by rw[Ux os a hi,if_pos hL];rfl⟩
  |false=>
   rw[aQ,ah];exact⟨dH (by omega),by rw[Ux os a hi,if_neg (by rw[hL];simp),List.append_nil]⟩
 ·rintro x rfl;simp only[kW];rw[cu (Ie _),ah,List.take_length]
noncomputable instance (s:ax):Decidable (jw s):=Classical.propDecidable _
noncomputable def iy (s:ax) (a:Int):List bV:=if jw s/\ -1<=a/\a<s.accounts then zi s.orders a else []
theorem YB {s:ax} {a:Int} (hs:kT s) (hsh:rO s):mG s a=some (iy s a):=by
 refine Wq.eq ?_;unfold mG iy;refine(Zr hs hsh).bind fun b hb=> ?_;cases b with
 |false=>
  have hn:¬jw s:=fun h=>by have:=hb.2 h;cases this
  simp only[aY,aJ,aQ,aj,ql,aV,ah];rw[if_neg (fun h=>hn h.1)]
 |true=>
  have hR:=hb.1 rfl;unfold Ec;simp only[aY,aJ,aV,aj,dW];by_cases h: -1<=a/\a<s.accounts
  ·rw[cu (by simp only[aW,bG,bU,dw,aX,aU,cZ,dn,bJ,dA,bf,bn,dG,dK];exact h),if_pos ⟨hR,h⟩];refine(afj hsh.1).bind ?_;rintro w rfl;rw[ah]
  ·rw[aB (by rw[aX,bG,dA,dn];omega),if_neg (fun k=>h k.2),ah]
noncomputable def Tq (p:aT×List eu×Int) (r:bV):aT×List eu×Int:=
 if p.2.2≠0 then p else if p.1.wal.wait.length=32 then
  (if (dM p.1).2.2≠0 then ((dM p.1).1,p.2.1++(dM p.1).2.1,(dM p.1).2.2)else ((jq (dM p.1).1 r).1,p.2.1++(dM p.1).2.1,(jq (dM p.1).1 r).2))
 else ((jq p.1 r).1,p.2.1,(jq p.1 r).2)
noncomputable def goZ (p:aT×List eu×Int):List bV->aT×List eu×Int
 |[]=>p
 |r::l=>goZ (Tq p r) l
theorem af8 (p:aT×List eu×Int):∀(l:List bV) (r:bV),goZ p (l++[r])=Tq (goZ p l) r:=by
 intro l
 induction l generalizing p with
 |nil=>intro r;rfl
 |cons a l ih=>intro r;exact ih (Tq p a) r
theorem adl {p:aT×List eu×Int} (h:p.2.2≠0):∀l,goZ p l=p
 |[]=>rfl
 |r::l=>by rw[goZ,show Tq p r=p from if_pos h];exact adl h l
noncomputable def uh (g:aT) (a:Int):aT×List eu×Int:=
 if ¬(ny g/\ -1<=a/\a<g.state.accounts)then (g,[],1)else
 if (goZ (g,[],0) (iy g.state a)).2.2≠0 then goZ (g,[],0) (iy g.state a)else
 ((dM (goZ (g,[],0) (iy g.state a)).1).1,(goZ (g,[],0) (iy g.state a)).2.1++(dM (goZ (g,[],0) (iy g.state a)).1).2.1,(dM (goZ (g,[],0) (iy g.state a)).1).2.2)
structure NZ (g0:aT) (k:Nat) (p:aT×List eu×Int):Prop where
 sg:SG p.1
 right:ny p.1
 len:p.2.1.length+p.1.outbox.length<=g0.outbox.length+k
theorem Lm {g:aT} (hg:SG g):(dM g).2.1.length+(dM g).1.outbox.length<=g.outbox.length:=by
 by_cases h0:o7 g=0
 ·have q:=KN hg h0;rcases q.how with ⟨-, -, -, e1,e2, -⟩ | ⟨hup,-, e⟩
  ·rw[e1,e2];have:=ajK g.outbox (dM g).1.wal.sure;omega
  ·rw[e];rcases q.right.2.2.2.2.2.2.2.2 with ⟨u,_⟩ | ⟨_,_,o,_⟩
   ·rw[hup]at u;cases u
   ·rw[o];simp
 ·rw[Qz h0];simp
theorem VN {g:aT} {r:bV} (hg:SG g) (hr:kz r):(jq g r).1.outbox.length<=g.outbox.length+1:=by
 unfold jq;split
 ·exact Nat.le_succ _
 split
 ·exact Nat.le_succ _
 split
 ·exact Nat.le_succ _
 ·rename_i h;have h:(dV g r).2=0:=Classical.not_not.1 h;have q:=(Kw hg.st hg.sh hr h).1;simp only[FB,List.length_append,List.length_singleton,q.out];omega
theorem NZ.one {g0:aT} {k:Nat} {p:aT×List eu×Int} {r:bV} (m:NZ g0 k p) (hr:kz r):NZ g0 (k+1) (Tq p r):=by
 have hl:=m.len;unfold Tq;by_cases h0:p.2.2≠0
 ·rw[if_pos h0];exact⟨m.sg,m.right,by omega⟩
 rw[if_neg h0];by_cases h1:p.1.wal.wait.length=32
 ·rw[if_pos h1];have s1:=NC m.sg;have l1:=Lm m.sg;by_cases h2:(dM p.1).2.2≠0
  ·rw[if_pos h2];exact⟨s1.sg,s1.right m.right,by simp only[List.length_append];omega⟩
  ·rw[if_neg h2];have s2:=KO s1.sg hr;have l2:=VN s1.sg hr;exact⟨s2.sg,s2.right (s1.right m.right),by simp only[List.length_append];omega⟩
 ·rw[if_neg h1];have s2:=KO m.sg hr;have l2:=VN m.sg hr;exact⟨s2.sg,s2.right m.right,by simp only;omega⟩
theorem NZ.go {g0:aT}:∀(l:List bV) {k:Nat} {p:aT×List eu×Int},NZ g0 k p->(∀r∈l,kz r)->NZ g0 (k+l.length) (goZ p l)
 |[],k,p,m,_=>m
 |r::l,k,p,m,h=>by
  have:=NZ.go l (m.one (h r (by simp))) fun x hx=>h x (by simp [hx])
  rw[show k+(r::l).length=k+1+l.length by simp;omega]
  exact this
theorem NZ.start {g:aT} (hg:SG g) (hG:ny g):NZ g 0 (g,[],0):=⟨hg,hG,by simp⟩
def Yt (p:aT×List eu×Int):List aI×Int×Int×Bool×Int×Int×Int×Int×Int×List bD×Int×Int×List au×List aN×List fB×List Int×Bool×Int×Int×Int×List eu×List uy×Bool×Int×Bool×List eu×Int:=
 (p.1.disk.files,p.1.disk.room,p.1.disk.fuse,p.1.disk.down,p.1.wal.epoch,p.1.wal.next,p.1.wal.sure,p.1.wal.seg,p.1.wal.count,p.1.wal.wait,p.1.state.accounts,p.1.state.symbols,p.1.state.orders,p.1.state.cells,p.1.state.limits,p.1.state.caps,p.1.state.kill,p.1.state.last,p.1.state.seq,p.1.state.lsn,p.1.outbox,p.1.feed.held,p.1.feed.gap,p.1.gen,p.1.up,p.2.1,p.2.2)
theorem ahX {g:aT} {y2:List bV} (hg:SG g) (hG:ny g) (hl:y2.length<999999) (hr:∀r∈y2,kz r):
 Wq (bZ (fun v=>mr (len y2) y2 v.1 v.2.1 v.2.2.1 v.2.2.2.1 v.2.2.2.2.1 v.2.2.2.2.2.1 v.2.2.2.2.2.2.1 v.2.2.2.2.2.2.2.1 v.2.2.2.2.2.2.2.2.1 v.2.2.2.2.2.2.2.2.2.1 v.2.2.2.2.2.2.2.2.2.2.1 v.2.2.2.2.2.2.2.2.2.2.2.1 v.2.2.2.2.2.2.2.2.2.2.2.2.1 v.2.2.2.2.2.2.2.2.2.2.2.2.2.1 v.2.2.2.2.2.2.2.2.2.2.2.2.2.2.1 v.2.2.2.2.2.2.2.2.2.2.2.2.2.2.2.1 v.2.2.2.2.2.2.2.2.2.2.2.2.2.2.2.2.1 v.2.2.2.2.2.2.2.2.2.2.2.2.2.2.2.2.2.1 v.2.2.2.2.2.2.2.2.2.2.2.2.2.2.2.2.2.2.1 v.2.2.2.2.2.2.2.2.2.2.2.2.2.2.2.2.2.2.2.1 v.2.2.2.2.2.2.2.2.2.2.2.2.2.2.2.2.2.2.2.2.1 v.2.2.2.2.2.2.2.2.2.2.2.2.2.2.2.2.2.2.2.2.2.1 v.2.2.2.2.2.2.2.2.2.2.2.2.2.2.2.2.2.2.2.2.2.2.1 v.2.2.2.2.2.2.2.2.2.2.2.2.2.2.2.2.2.2.2.2.2.2.2.1 v.2.2.2.2.2.2.2.2.2.2.2.2.2.2.2.2.2.2.2.2.2.2.2.2.1 v.2.2.2.2.2.2.2.2.2.2.2.2.2.2.2.2.2.2.2.2.2.2.2.2.2.1 v.2.2.2.2.2.2.2.2.2.2.2.2.2.2.2.2.2.2.2.2.2.2.2.2.2.2.1 v.2.2.2.2.2.2.2.2.2.2.2.2.2.2.2.2.2.2.2.2.2.2.2.2.2.2.2) LF (0,Yt (g,[],0))) fun w=>w=Yt (goZ (g,[],0) y2):=by
 refine(lH (n:=y2.length) (step:=fun v=>mr (len y2) y2 v.1 v.2.1 v.2.2.1 v.2.2.2.1 v.2.2.2.2.1 v.2.2.2.2.2.1 v.2.2.2.2.2.2.1 v.2.2.2.2.2.2.2.1 v.2.2.2.2.2.2.2.2.1 v.2.2.2.2.2.2.2.2.2.1 v.2.2.2.2.2.2.2.2.2.2.1 v.2.2.2.2.2.2.2.2.2.2.2.1 v.2.2.2.2.2.2.2.2.2.2.2.2.1 v.2.2.2.2.2.2.2.2.2.2.2.2.2.1 v.2.2.2.2.2.2.2.2.2.2.2.2.2.2.1 v.2.2.2.2.2.2.2.2.2.2.2.2.2.2.2.1 v.2.2.2.2.2.2.2.2.2.2.2.2.2.2.2.2.1 v.2.2.2.2.2.2.2.2.2.2.2.2.2.2.2.2.2.1 v.2.2.2.2.2.2.2.2.2.2.2.2.2.2.2.2.2.2.1 v.2.2.2.2.2.2.2.2.2.2.2.2.2.2.2.2.2.2.2.1 v.2.2.2.2.2.2.2.2.2.2.2.2.2.2.2.2.2.2.2.2.1 v.2.2.2.2.2.2.2.2.2.2.2.2.2.2.2.2.2.2.2.2.2.1 v.2.2.2.2.2.2.2.2.2.2.2.2.2.2.2.2.2.2.2.2.2.2.1 v.2.2.2.2.2.2.2.2.2.2.2.2.2.2.2.2.2.2.2.2.2.2.2.1 v.2.2.2.2.2.2.2.2.2.2.2.2.2.2.2.2.2.2.2.2.2.2.2.2.1 v.2.2.2.2.2.2.2.2.2.2.2.2.2.2.2.2.2.2.2.2.2.2.2.2.2.1 v.2.2.2.2.2.2.2.2.2.2.2.2.2.2.2.2.2.2.2.2.2.2.2.2.2.2.1 v.2.2.2.2.2.2.2.2.2.2.2.2.2.2.2.2.2.2.2.2.2.2.2.2.2.2.2) hl (fun i x=>x=Yt (goZ (g,[],0) (y2.take i))) (fun w=>w=Yt (goZ (g,[],0) y2)) ?_ ?_ _ 0 (Nat.zero_le _) rfl)
 ·rintro i x hi rfl
  have m:=NZ.go (y2.take i) (NZ.start hg hG) fun r hx=>hr r (List.mem_of_mem_take hx)
  have hri:kz y2[i]:=hr _ (List.getElem_mem hi)
  rw[List.take_succ_eq_append_getElem hi]
  simp only[af8]
  generalize goZ (g,[],0) (y2.take i)=p at m ⊢
  have ml:=m.len
  rw[List.length_take]at ml
  have hol:=hg.ol
  simp only[mr,Yt]
  rw[aB (by rw[dS];simpa using hi),aB (inb _ i hi),aZ _ _ hi,ja]
  unfold Tq
  by_cases h0:p.2.2=0
  case neg=>
   rw[if_neg h0,if_pos h0,ah]
   exact⟨dH (by omega),rfl⟩
  rw[if_pos h0,if_neg (fun k=>k h0),ja]
  by_cases h1:p.1.wal.wait.length=32
  ·rw[if_pos (by show((p.1.wal.wait.length:Nat):Int)=32;omega),if_pos h1]
   have fl:=Lm m.sg
   rw[show oI _=some (dM p.1)from O0 m.sg,aj,aB (Ob (n:=99999999) (by simp only[bP,List.length_append];omega) (by decide)),ja]
   by_cases h2:(dM p.1).2.2=0
   ·rw[if_pos h2,if_neg (fun k=>k h2),MO (NC m.sg).sg hri,aj,ah]
    exact⟨dH (by omega),rfl⟩
   ·rw[if_neg h2,if_pos h2,ah]
    exact⟨dH (by omega),rfl⟩
  ·rw[if_neg (by show ¬((p.1.wal.wait.length:Nat):Int)=32;omega),if_neg h1,ja,if_pos h0]
   rw[show oQ _ y2[i]=some (jq p.1 y2[i])from MO m.sg hri,aj,ah]
   exact⟨dH (by omega),rfl⟩
 ·rintro x rfl
  simp only[mr]
  rw[cu (Ie _),ah,List.take_length]
theorem SA {g:aT} (hg:SG g) (a:Int):(iy g.state a).length<999999/\∀r∈iy g.state a,kz r:=by
 unfold iy;split
 ·exact⟨Nat.lt_of_le_of_lt (Qy _ _) hg.sh.1,fun r hr=>(aaM (fun o ho=>hg.st.orders.1 o ho) r hr).1⟩
 ·exact⟨by simp,fun r hr=>by cases hr⟩
theorem adG {g:aT} {a:Int} (hg:SG g):qU g a=some (uh g a):=by
 refine Wq.eq ?_;unfold qU uh;rw[O8 hg,aj];by_cases hG:ny g
 case neg=>
  rw[decide_eq_false hG,if_pos (fun k=>hG k.1)];simp only[aY,aJ,aQ,aj,ql,aV,ah]
 unfold Ec;rw[decide_eq_true hG];simp only[aY,aJ,aV,aj,dW];by_cases h: -1<=a/\a<g.state.accounts
 case neg=>
  rw[aB (by rw[aX,bG,dA,dn];omega),if_pos (fun k=>h k.2),ah]
 rw[cu (by simp only[aW,bG,bU,dw,aX,aU,cZ,dn,bJ,dA,bf,bn,dG,dK];exact h),if_neg (fun k=>k ⟨hG,h⟩),YB hg.st hg.sh,aj];obtain⟨c1,c2⟩:=SA hg a;refine(ahX hg hG c1 c2).bind ?_;rintro w rfl;have m:=NZ.go _ (NZ.start hg hG) c2;generalize goZ (g,[],0) (iy g.state a)=p at m ⊢;have ml:=m.len;have hol:=hg.ol;simp only[Yt];rw[ja];by_cases h0:p.2.2=0
 ·rw[if_pos h0,if_neg (fun k=>k h0)];have fl:=Lm m.sg;rw[show oI _=some (dM p.1)from O0 m.sg,aj,aB (Ob (n:=99999999) (by simp only[bP,List.length_append];omega) (by decide)),ah]
  rfl
 ·rw[if_neg h0,if_pos h0,ah]
theorem ac8 (s:ax) (a:Int):(iy s a).length<=64:=by
 unfold iy;split
 ·rename_i h;have:=Qy s.orders a;have:=h.1.sized;unfold qA at this;omega
 ·simp
theorem aa4 {g:aT} (hg:SG g) (a:Int):SG (uh g a).1/\(ny g->ny (uh g a).1)/\(uh g a).2.1.length<19999:=by
 unfold uh;by_cases h:ny g/\ -1<=a/\a<g.state.accounts
 case neg=>rw[if_pos h];exact⟨hg,id,by simp⟩
 rw[if_neg (fun k=>k h)];obtain⟨c1,c2⟩:=SA hg a;have m:=NZ.go _ (NZ.start hg h.1) c2;have ml:=m.len;have hol:=hg.ol;have c6:=ac8 g.state a;split
 ·exact⟨m.sg,fun _=>m.right,by omega⟩
 ·have fl:=Lm m.sg;have fs:=NC m.sg;exact⟨fs.sg,fun _=>fs.right m.right,by simp only[List.length_append];omega⟩
theorem ail:uJ=some true:=by kernel_rfl
theorem Vr {p:au->Bool} {q:au} (hq:p q=false):∀ {l:List au} {o:au} {t:List au},FK l->l.filter p=o::t->∀(k:Nat) (h:k<l.length),l[k].id=o.id->(l.set k q).filter p=t
 |[],o,t,_,h,k,hk,_=>by cases hk
 |x::l,o,t,ha,h,k,hk,hi=>by
  have ha':=List.pairwise_cons.1 ha
  cases hx:p x with
  |true=>
   rw[List.filter_cons_of_pos hx]at h
   obtain⟨rfl,rfl⟩:=List.cons.inj h
   cases k with
   |zero=>rw[List.set_cons_zero,List.filter_cons_of_neg (by rw[hq];simp)]
   |succ k=>
    have hk':k<l.length:=by simpa using hk
    have:=ha'.1 l[k] (List.getElem_mem hk')
    rw[List.getElem_cons_succ]at hi
    omega
  |false=>
   rw[List.filter_cons_of_neg (by rw[hx];simp)]at h
   cases k with
   |zero=>
    have hm:o∈l:=(List.mem_filter.1 (show o∈l.filter p by rw[h];simp)).1
    have:=ha'.1 o hm
    rw[List.getElem_cons_zero]at hi
    omega
   |succ k=>
    have hk':k<l.length:=by simpa using hk
    rw[List.getElem_cons_succ]at hi
    rw[List.set_cons_succ,List.filter_cons_of_neg (by rw[hx];simp)]
    exact Vr hq ha'.2 h k hk' hi
theorem afu {l:List au} {a:Int} {r:bV} {t:List bV} (ha:FK l) (h:zi l a=r::t) {k:Nat} (hk:k<l.length) (hi:l[k].id=r.order):zi (cO l k (VP l[k])) a=t:=by
 unfold zi at h ⊢;obtain⟨o,t',h1,h2,h3⟩:=List.map_eq_cons_iff.1 h;have hi':l[k].id=o.id:=by rw[hi,<-h2];rfl
 rw[show cO l k (VP l[k])=l.set k (VP l[k])from rfl,Vr (by unfold Vj VP;simp) ha h1 k hk hi',h3]
theorem ab8 {s:ax} {r:bV} (h3:r.kind=3) (h:(doS s r).2=0):∃k,sO s.orders r.order=some k/\
 (doS s r).1=⟨s.accounts,s.symbols,cO s.orders k (VP (ai s.orders k)),s.cells,s.limits,s.caps,s.kill,s.last,s.seq,s.lsn+1⟩:=by
 have hm:=((Wi s r).good h).1
 unfold doS at h ⊢
 rw[if_neg (fun g=>g hm),if_neg (by omega),if_neg (by omega),if_pos h3]at h ⊢
 cases hf:sO s.orders r.order with
 |none=>simp only[hf]at h;cases h
 |some k=>
  simp only[hf]at h ⊢
  by_cases hx:(ai s.orders k).asked=true
  ·rw[if_pos hx]at h;cases h
  ·rw[if_neg hx];exact⟨k,rfl,rfl⟩
theorem agt {o:au} {z:Int} (ho:rG o) (hz:0<=z/\z<=1000000000):(ofM 3 o z).kind=3/\(ofM 3 o z).order=o.id:=by
 obtain⟨b1,b2,b3,b4,b5,b6⟩:=ho.1;have hm:msgP (eu.mk 3 o.id o.account o.symbol o.side 0 0 0 z):=⟨b1,b2,b3,b4,hz,.inr (.inr ⟨rfl,rfl,rfl,rfl⟩)⟩;have:gu 3 o z=some (eu.mk 3 o.id o.account o.symbol o.side 0 0 0 z):=by
  unfold gu;rw[ja,ja,jo,decide_eq_true ho];simp only[aj,aJ,aY,aV,ac9];rw[if_neg (by decide),if_neg (by decide),decide_eq_true hm]
  rfl
 unfold ofM;rw[this];exact⟨rfl,rfl⟩
def aaJ (m:eu):Int×Int:=(m.kind,m.order)
def aa6 (r:bV):Int×Int:=(3,r.order)
structure Xv (g:aT) (a:Int) (done rest:List bV) (p:aT×List eu×Int):Prop where
 ok:p.2.2=0
 sg:SG p.1
 right:ny p.1
 left:zi p.1.state.orders a=rest
 acc:p.1.state.accounts=g.state.accounts
 told:∃ms,p.2.1++p.1.outbox=g.outbox++ms/\ms.map aaJ=done.map aa6
theorem ajc (l:List eu) (s:Int):goM l s++GZ l s=l:=List.takeWhile_append_dropWhile
theorem SN {g:aT} (hg:SG g) (h:(dM g).2.2=0):(dM g).1.state=g.state/\(dM g).2.1++(dM g).1.outbox=g.outbox/\(dM g).1.wal.wait=[]/\(dM g).1.up=true/\SG (dM g).1/\ny (dM g).1:=by
 obtain⟨h0,q,hu⟩:=aaP hg h;rcases q.how with ⟨-, -, -, e1,e2,e3⟩ | ⟨e, -⟩
 ·exact⟨q.state,by rw[e1,e2];exact ajc _ _,e3 h,hu,q.sg,q.right⟩
 ·rw[hu]at e;cases e
theorem Sl {g0:aT} {a:Int} {done rest:List bV} {r:bV} {g:aT} {l:List eu} (t:Xv g0 a done (r::rest) (g,l,0)) (hr:kz r) (h3:r.kind=3) (h:(jq g r).2=0):
 Xv g0 a (done++[r]) rest ((jq g r).1,l,0):=by
 obtain⟨-, sg,right,left,acc,ms,m1,m2⟩:=t
 simp only at sg right left acc m1
 have hst:=KO sg hr
 unfold jq at h hst ⊢
 by_cases h0:o7 g=0
 case neg=>rw[if_pos h0]at h;exact absurd h h0
 rw[if_neg (fun k=>k h0),if_neg (by omega)]at h hst ⊢
 by_cases hn:(dV g r).2=0
 case neg=>rw[if_pos hn]at h;exact absurd h hn
 rw[if_neg (fun k=>k hn)]at h hst ⊢
 obtain⟨q,d1,d2⟩:=Kw sg.st sg.sh hr hn
 obtain⟨j,hj,hf,ho, -⟩:=Q8 sg hr (by omega) hn
 obtain⟨k,k1,k2⟩:=ab8 h3 d1
 obtain⟨hk,hid⟩:=kJ k1
 have e1:(FB (dV g r).1 r).state=(doS g.state r).1:=d2
 refine⟨rfl,hst.sg,hst.right right,?_,?_,ms++[ofM r.kind (ai (dV g r).1.state.orders (itn (JE (dV g r).1.state.orders r.order))) (dV g r).1.state.lsn],?_,?_⟩
 ·show zi (FB (dV g r).1 r).state.orders a=rest
  rw[e1,k2]
  show zi (cO g.state.orders k (VP (ai g.state.orders k))) a=rest
  rw[show ai g.state.orders k=g.state.orders[k]from aZ _ _ hk]
  exact afu right.2.1.fine.asc left hk hid
 ·show(FB (dV g r).1 r).state.accounts=_
  rw[e1,k2];exact acc
 ·show l++((dV g r).1.outbox++[_])=_
  rw[q.out,<-List.append_assoc,m1,List.append_assoc]
 ·rw[List.map_append,List.map_append,m2]
  congr 1
  rw[hf,aZ _ _ hj,h3]
  have hz:0<=(dV g r).1.state.lsn/\(dV g r).1.state.lsn<=1000000000:=q.R.fine.lsn
  obtain⟨o1,o2⟩:=agt (z:=(dV g r).1.state.lsn) ho hz
  have oid:(dV g r).1.state.orders[j].id=r.order:=by
   cases hfz:sO (dV g r).1.state.orders r.order with
   |none=>rw[H7 hfz]at hf;omega
   |some i=>
    rw[DU hfz]at hf
    obtain⟨hi,hii⟩:=kJ hfz
    have:i=j:=by omega
    subst this;exact hii
  simp only[List.map_cons,List.map_nil,aaJ,aa6,o1,o2,oid]
theorem af9 {g0:aT} {a:Int} {done rest:List bV} {r:bV} {p:aT×List eu×Int} (t:Xv g0 a done (r::rest) p) (hr:kz r) (h3:r.kind=3) (h:(Tq p r).2.2=0):
 Xv g0 a (done++[r]) rest (Tq p r):=by
 have h0:=t.ok
 unfold Tq at h ⊢
 rw[if_neg (fun k=>k h0)]at h ⊢
 by_cases h1:p.1.wal.wait.length=32
 ·rw[if_pos h1]at h ⊢
  by_cases h2:(dM p.1).2.2=0
  case neg=>rw[if_pos h2]at h;exact absurd h h2
  rw[if_neg (fun k=>k h2)]at h ⊢
  obtain⟨f1,f2,-, -, f5,f6⟩:=SN t.sg h2
  obtain⟨ms,m1,m2⟩:=t.told
  have:=Sl (g0:=g0) (a:=a) (done:=done) (rest:=rest) (g:=(dM p.1).1) (l:=p.2.1++(dM p.1).2.1) ⟨rfl,f5,f6,(by show zi (dM p.1).1.state.orders a=_;rw[f1];exact t.left),(by show(dM p.1).1.state.accounts=_;rw[f1];exact t.acc),ms,(by show(p.2.1++(dM p.1).2.1)++(dM p.1).1.outbox=_;rw[List.append_assoc,f2];exact m1),m2⟩ hr h3 h
  have h:(jq (dM p.1).1 r).2=0:=h
  rw[h];exact this
 ·rw[if_neg h1]at h ⊢
  have h:(jq p.1 r).2=0:=h
  have:=Sl (g:=p.1) (l:=p.2.1) ⟨rfl,t.sg,t.right,t.left,t.acc,t.told⟩ hr h3 h
  rw[h];exact this
theorem ad3 {g0:aT} {a:Int}:∀(rest:List bV) {done:List bV} {p:aT×List eu×Int},Xv g0 a done rest p->(∀r∈rest,kz r/\r.kind=3)->(goZ p rest).2.2=0->Xv g0 a (done++rest) [] (goZ p rest)
 |[],done,p,t,_,_=>by rw[List.append_nil];exact t
 |r::rest,done,p,t,hr,h=>by
  have h1:(Tq p r).2.2=0:=by
   by_cases k:(Tq p r).2.2=0
   ·exact k
   ·rw[goZ,adl k]at h;exact h
  obtain⟨o1,o2⟩:=hr r (by simp)
  have:=ad3 rest (af9 t o1 o2 h1) (fun x hx=>hr x (by simp [hx])) h
  rw[List.append_assoc]at this
  exact this
theorem aaA {h:aT} (hG:ny h) (hu:h.up=true) (h1:h.wal.wait=[]) (h2:h.outbox=[]):dM h=(h,[],0):=by
 obtain⟨hd,hf⟩:=YT hG hu;have hc:iw h.wal h.disk=(h.wal,h.disk,0):=by
  unfold iw;rw[if_pos hf];show(if h.wal.wait=[]then (h.wal,h.disk,(0:Int))else _)=_
  rw[if_pos h1]
 unfold dM;rw[if_neg (fun k=>k (Ai.2 ⟨hG,hu⟩)),hc,if_neg (by show ¬h.disk.down=true;rw[hd];simp)];cases h;simp only at h2;subst h2
 rfl
structure SwQ (g:aT) (a:Int) (p:aT×List eu×Int):Prop where
 out:∃ms,p.2.1=g.outbox++ms/\ms.map aaJ=(iy g.state a).map aa6
 again:uh p.1 a=(p.1,[],0)
theorem aaQ {g:aT} {a:Int} (hg:SG g) (h:(uh g a).2.2=0):SwQ g a (uh g a):=by
 unfold uh at h ⊢;by_cases hc:ny g/\ -1<=a/\a<g.state.accounts
 case neg=>rw[if_pos hc]at h;cases h
 rw[if_neg (fun k=>k hc)]at h ⊢;obtain⟨hG,ha⟩:=hc;by_cases hz:(goZ (g,[],0) (iy g.state a)).2.2=0
 case neg=>rw[if_pos hz]at h;exact absurd h hz
 rw[if_neg (fun k=>k hz)]at h ⊢;have hcl:iy g.state a=zi g.state.orders a:=by unfold iy;rw[if_pos ⟨hG.2.1,ha⟩]
 have hok:=aaM (a:=a) fun o ho=>hg.st.orders.1 o ho;rw[<-hcl]at hok;have t:=ad3 (g0:=g) (a:=a) (iy g.state a) (done:=[]) (p:=(g,[],0)) ⟨rfl,hg,hG,hcl.symm,rfl,[],by simp,rfl⟩ hok hz;generalize goZ (g,[],0) (iy g.state a)=p at t h ⊢;have h:(dM p.1).2.2=0:=h;obtain⟨f1,f2,f3,f4,f5,f6⟩:=SN t.sg h;have hnil:(dM p.1).1.outbox=[]:=by
  obtain⟨-, q, -⟩:=aaP t.sg h;rcases q.how with ⟨-, -, -, -, e2, -⟩ | ⟨e, -⟩
  ·rw[e2];have w:=f6.2.2.1.2.2.2.2.1;rw[f3]at w;have l:=f6.2.2.2.1;rw[q.state]at l;have:=t.right.2.2.2.2.1;refine(aha this ?_).2;simp only[List.length_nil]at w;omega
  ·rw[f4]at e;cases e
 obtain⟨ms,m1,m2⟩:=t.told;refine⟨⟨ms,?_,?_⟩,?_⟩
 ·show p.2.1++(dM p.1).2.1=_;rw[hnil,List.append_nil]at f2;rw[f2];exact m1
 ·simpa using m2
 ·show uh (dM p.1).1 a=((dM p.1).1,[],0);have hacc:(dM p.1).1.state.accounts=g.state.accounts:=by rw[f1];exact t.acc
  have hl:iy (dM p.1).1.state a=[]:=by
   unfold iy;rw[if_pos ⟨f6.2.1,ha.1,by rw[hacc];exact ha.2⟩,f1];exact t.left
  unfold uh;rw[if_neg (fun k=>k ⟨f6,ha.1,by rw[hacc];exact ha.2⟩),hl];show(if (0:Int)≠0 then _ else _)=_
  rw[if_neg (by simp)];show((dM (dM p.1).1).1,[]++(dM (dM p.1).1).2.1,(dM (dM p.1).1).2.2)=_;rw[aaA f6 f4 f3 hnil];rfl
theorem ajh {l m:List eu} {y:List bV} {g:aT} (he:l=g.outbox++m) (hm:m.map aaJ=y.map aa6) (hl:l.length<999999):
 Wq (bZ (fun v:Int×Bool=>eP l y g v.1 v.2) LF (0,false)) fun w=>match w with
  |.inl _=>False
  |.inr _=>True:=by
 have hlen:m.length=y.length:=by have:=congrArg List.length hm;simpa using this
 subst he
 rw[List.length_append]at hl
 refine(lH (n:=y.length) (step:=fun v:Int×Bool=>eP (g.outbox++m) y g v.1 v.2) (by omega) (fun _ _=>True) _ ?_ ?_ _ 0 (Nat.zero_le _) trivial)
 ·rintro i x hi -
  simp only[eP]
  have e1:wr .i64 (aF (len g.outbox) (i:Int))=((g.outbox.length+i:Nat):Int):=by
   unfold aF len;rw[Gf ⟨by omega,by omega⟩];omega
  have hi':i<m.length:=by omega
  have hb:g.outbox.length+i<(g.outbox++m).length:=by rw[List.length_append];omega
  have hx:(g.outbox++m)[g.outbox.length+i]=m[i]:=by
   rw[List.getElem_append_right (by omega)];congr 1;omega
  have hv:aaJ m[i]=aa6 y[i]:=by
   have:=congrArg (fun l:List (Int×Int)=>l[i]?) hm
   simpa [hi,hi'] using this
  obtain⟨v1,v2⟩:=Prod.mk.inj hv
  rw[aB (by rw[dS];simpa using hi),e1,aB (inb _ _ hb),aZ _ _ hb,aZ _ _ hi,hx,aB (by rw[bU];exact .inl (inb _ i hi)),cu (by rw[v1,v2];simp only[Kt,aJ,dW]),ah]
  exact⟨dH (by omega),trivial⟩
 ·rintro x -
  simp only[eP]
  rw[cu (Ie _),ah];trivial
theorem Uw (x0:aT) (x1:Int) (k0:Ud x0) (k1:inI x1):oZ x0 x1=some true:=by
 refine Wq.eq ?_;unfold oZ;rw[ail,aj,aJ,aQ];refine(ae7 x0 k0).bind fun b hb=> ?_;rw[gy];refine⟨fun _=>(ah _).2 rfl,fun h=> ?_⟩;rw[aU]at h;obtain⟨hg,-, -⟩:=hb h;obtain⟨s1,-, s2⟩:=aa4 hg x1;rw[YB hg.st hg.sh,aj,adG hg,aj,kD,ja];by_cases hz:(uh x0 x1).2.2=0
 case neg=>rw[if_neg hz,ah]
 rw[if_pos hz];obtain⟨⟨ms,m1,m2⟩,ag⟩:=aaQ hg hz;have hlen:ms.length=(iy x0.state x1).length:=by have:=congrArg List.length m2;simpa using this
 have hll:=s2;rw[m1,List.length_append]at hll;have e1:wr .i64 (aF (len x0.outbox) (len (iy x0.state x1)))=len (uh x0 x1).2.1:=by
  rw[m1];unfold aF len;rw[Gf ⟨by omega,by omega⟩,List.length_append];omega
 rw[e1];have ht:bF (dF (uh x0 x1).2.1 0) (itn (len x0.outbox))=x0.outbox:=by
  rw[show dF (uh x0 x1).2.1 0=(uh x0 x1).2.1 from rfl,m1,show len x0.outbox=((x0.outbox.length:Nat):Int)from rfl,Wx,List.take_left']
  rfl
 have hsame:=Ye x0.outbox (by omega);rw[aB (by rw[bU];left;rw[m1];exact ND (nC (by unfold len;omega)) (nC (by unfold len;rw[List.length_append];omega)))];simp only[Kt,aJ,aY,aV,ht,hsame,aj,dW,aQ];refine(ajh m1 m2 (by omega)).bind ?_;rintro(w | w) hw
 ·exact hw.elim
 simp only[fO];rw[adG s1,ag,aj];simp only[Kt,show len ([]:List eu)=0 from rfl,zO,aV,s1.same,aj,ah]
end Go.Av
