/- The plain law, part 0. No condition. -/
import Derived.Test.YtkndbmahpiebkaaGreatDoorDStoreRow
import Derived.KernelRfl
set_option linter.unusedVariables false
set_option linter.unusedSimpArgs false
set_option linter.unnecessarySimpa false
namespace Go.Av
open Go
theorem abv {V W:Type} {step:V->Option (V ⊕ W)} (μ:V->Nat) (I:V->Prop) (R:W->Prop)
 (h:∀v,I v->(∃v',step v=some (.inl v')/\I v'/\μ v'<μ v)\/∃w,step v=some (.inr w)/\R w):∀(n:Nat) (v:V),μ v<n->I v->∃w,bT step n v=some w/\R w
 |0,v,hn,_=>by omega
 |n+1,v,hn,hI=>by
  rcases h v hI with ⟨v',h1,h2,h3⟩ | ⟨w,h1,h2⟩
  ·obtain⟨w,g1,g2⟩:=abv μ I R h n v' (by omega) h2
   exact⟨w,by rw[bT,h1];exact g1,g2⟩
  ·exact⟨w,by rw[bT,h1];rfl,h2⟩
theorem ahI {n:Nat} (h:n<1000000):n<LF:=Nat.lt_trans h (by decide)
theorem Ky {n:Int} (h:inI n):wr .i64 n=n:=by
 unfold inI at h
 unfold wr IntKind.wrap
 simp [IntKind.bits,IntKind.signed]
 omega
theorem apB (n:Int):inI (wr .i64 n):=by
 unfold inI wr IntKind.wrap
 simp [IntKind.bits,IntKind.signed]
 omega
theorem ahm {n:Int} (h1: -18446744073709551616<=n) (h2:n<=18446744073709551616):
 (inI n/\wr .i64 n=n)\/(9223372036854775807<n/\wr .i64 n=n - 18446744073709551616)\/(n< -9223372036854775808/\wr .i64 n=n+18446744073709551616):=by
 unfold inI wr IntKind.wrap
 simp [IntKind.bits,IntKind.signed]
 omega
theorem D8 (n:Int):wr .u64 n=n%18446744073709551616:=by
 unfold wr IntKind.wrap
 simp [IntKind.bits,IntKind.signed]
theorem dI {n:Int} (h1:0<=n) (h2:n<1000000000000):wr .i64 n=n:=Ky ⟨by omega,by omega⟩
theorem aI {α:Type} {b:Bool} {x y:α} (h:b=true):cnd b x y=x:=by subst h;rfl
theorem dN {α:Type} {b:Bool} {x y:α} (h:b=false):cnd b x y=y:=by subst h;rfl
theorem LY {α:Type} (b:Bool) (x y:α):cnd b x y=if b=true then x else y:=by cases b<;>rfl
theorem kQ {α:Type} (a b:Int) (x y:α):cnd (ieq a b) x y=if a=b then x else y:=by
 by_cases h:a=b
 ·rw[if_pos h,show ieq a b=true by simp [ieq,h]];rfl
 ·rw[if_neg h,show ieq a b=false by simp [ieq,h]];rfl
theorem aip {α:Type} (a b:Int) (x y:α):cnd (ilt a b) x y=if a<b then x else y:=by
 by_cases h:a<b
 ·rw[if_pos h,show ilt a b=true by simp [ilt,h]];rfl
 ·rw[if_neg h,show ilt a b=false by simp [ilt,h]];rfl
theorem aqN {α:Type} (a b:Int) (x y:α):cnd (ile a b) x y=if a<=b then x else y:=by
 by_cases h:a<=b
 ·rw[if_pos h,show ile a b=true by simp [ile,h]];rfl
 ·rw[if_neg h,show ile a b=false by simp [ile,h]];rfl
theorem lM {α:Type} (b:Bool) (x y:α):cnd (aF b) x y=cnd b y x:=by cases b<;>rfl
theorem KX {α:Type} (P:Prop) [Decidable P] (x y:α):cnd (decide P) x y=if P then x else y:=by
 by_cases h:P
 ·rw[if_pos h,decide_eq_true h];rfl
 ·rw[if_neg h,decide_eq_false h];rfl
instance (n:Int):Decidable (inI n):=by unfold inI;infer_instance
theorem aj {α β:Type} (a:α) (f:α->Option β):af (some a) f=f a:=rfl
theorem anC {α β:Type} (f:α->Option β):af none f=none:=rfl
theorem ap0 {α β:Type} (p:Prop) [Decidable p] (x y:Option α) (f:α->Option β):af (if p then x else y) f=if p then af x f else af y f:=by split<;>rfl
theorem CX {a b:Int} (h:a<b):ilt a b=true:=decide_eq_true h
theorem BD {a b:Int} (h:¬a<b):ilt a b=false:=decide_eq_false h
theorem kF {a b:Int} (h:a<=b):ile a b=true:=decide_eq_true h
theorem Oy {a b:Int} (h:¬a<=b):ile a b=false:=decide_eq_false h
theorem UC (a:Int):ieq a a=true:=by simp [ieq]
theorem zX {a b:Bool} (h1:a=true) (h2:b=true):band a b=true:=by subst h1;subst h2;rfl
theorem bQ {α:Type} [Inhabited α] (l:List α) (i:Nat) (h:i<l.length):ah l (itn (i:Int))=l[i]:=by
 simp [ah,itn,h]
theorem inb {α:Type} (l:List α) (i:Nat) (h:i<l.length):band (ile 0 (i:Int)) (ilt (i:Int) (len l))=true:=zX (kF (by omega)) (CX (by simp only[len];omega))
theorem bF (a b:Bool):(band a b=true)=(a=true/\b=true):=by cases a<;>cases b<;>simp [band]
theorem dh (a b:Bool):(band a b=false)=(a=false\/b=false):=by cases a<;>cases b<;>simp [band]
theorem dV (a b:Bool):(bor a b=true)=(a=true\/b=true):=by cases a<;>cases b<;>simp [bor]
theorem eX (a b:Bool):(bor a b=false)=(a=false/\b=false):=by cases a<;>cases b<;>simp [bor]
theorem bI (a:Bool):(aF a=true)=(a=false):=by cases a<;>simp [aF]
theorem bP (a:Bool):(aF a=false)=(a=true):=by cases a<;>simp [aF]
theorem dP (a b:Int):(ilt a b=true)=(a<b):=by simp [ilt]
theorem eP (a b:Int):(ilt a b=false)=(b<=a):=by simp [ilt]
theorem dm (a b:Int):(ile a b=true)=(a<=b):=by simp [ile]
theorem fB (a b:Int):(ile a b=false)=(b<a):=by simp [ile]
theorem bK (a b:Int):(ieq a b=true)=(a=b):=by simp [ieq]
theorem bJ (a b:Int):(ieq a b=false)=(a≠b):=by simp [ieq]
theorem fC (a b:Bool):(beq a b=true)=(a=b):=by simp [beq]
theorem fD (a b:Bool):(beq a b=false)=(a≠b):=by simp [beq]
theorem akf (a b:List UInt8):(seq a b=true)=(a=b):=by simp [seq]
theorem alK (a b:List UInt8):(seq a b=false)=(a≠b):=by simp [seq]
def Wq {α:Type} (o:Option α) (Q:α->Prop):Prop:=∃a,o=some a/\Q a
theorem au {α:Type} {Q:α->Prop} (a:α):Wq (some a) Q↔Q a:=⟨fun⟨_,h,q⟩=>by cases h;exact q,fun h=>⟨a,rfl,h⟩⟩
theorem jW {α:Type} {Q:α->Prop} (c:Bool) (x y:Option α):Wq (cnd c x y) Q↔(c=true->Wq x Q)/\(c=false->Wq y Q):=by
 cases c<;>simp [cnd]
theorem xM {α β:Type} {Q:β->Prop} (o:Option α) (f:α->Option β):Wq (af o f) Q↔Wq o fun a=>Wq (f a) Q:=by
 cases o with
 |none=>simp [af,Wq]
 |some a=>simp [af,au]
theorem Wq.mono {α:Type} {Q R:α->Prop} {o:Option α} (h:Wq o Q) (hq:∀a,Q a->R a):Wq o R:=by
 obtain⟨a,e,q⟩:=h
 exact⟨a,e,hq a q⟩
theorem Wq.bind {α β:Type} {Q:α->Prop} {R:β->Prop} {o:Option α} {f:α->Option β} (h:Wq o Q) (hq:∀a,Q a->Wq (f a) R):Wq (af o f) R:=(xM o f).2 (h.mono hq)
theorem Wq.eq {α:Type} {o:Option α} {a:α} (h:Wq o fun x=>x=a):o=some a:=by obtain⟨x,e,rfl⟩:=h;exact e
theorem Wq.dec {o:Option Bool} {P:Prop} [Decidable P] (h:Wq o fun b=>b=true↔P):o=some (decide P):=by
 obtain⟨b,e,q⟩:=h
 rw[e];congr 1
 cases b<;>simp_all
theorem adU {V W:Type} {step:V->Option (V ⊕ W)} (μ:V->Nat) (I:V->Prop) (R:W->Prop)
 (h:∀v,I v->Wq (step v) fun r=>match r with | .inl v'=>I v'/\μ v'<μ v | .inr w=>R w) (n:Nat) (v:V) (hn:μ v<n) (hi:I v):Wq (bT step n v) R:=
 abv μ I R (fun v hv=>by
  obtain⟨r,e,q⟩:=h v hv
  match r,e,q with
  |.inl v',e,q=>exact .inl ⟨v',e,q.1,q.2⟩
  |.inr w,e,q=>exact .inr ⟨w,e,q⟩) n v hn hi
theorem fE {i:Nat} (h:i<1000000):wr .i64 (ax (i:Int) 1)=((i+1:Nat):Int):=by
 unfold ax
 rw[dI (by omega) (by omega)];omega
theorem jl {α:Type} (l:List α) (i:Nat):ilt (i:Int) (len l)=decide (i<l.length):=by
 simp [ilt,len]
theorem pF {W X:Type} {step:Int×X->Option ((Int×X) ⊕ W)} {n:Nat} (hn:n<999999) (J:Nat->X->Prop) (R:W->Prop)
 (h:∀i x,i<n->J i x->Wq (step ((i:Int),x)) fun r=>match r with | .inl (k,x')=>k=((i+1:Nat):Int)/\J (i+1) x' | .inr w=>R w)
 (he:∀x,J n x->Wq (step ((n:Int),x)) fun r=>match r with | .inl _=>False | .inr w=>R w)
 (x:X) (i0:Nat) (hi0:i0<=n) (hx:J i0 x):Wq (bT step LF ((i0:Int),x)) R:=by
 refine adU (fun v:Int×X=>n - v.1.toNat) (fun v:Int×X=>∃i:Nat,v.1=(i:Int)/\i<=n/\J i v.2) R ?_ LF _ (ahI (by simp only;omega)) ⟨i0,rfl,hi0,hx⟩
 rintro⟨k,y⟩ ⟨i,rfl,hi,hj⟩
 by_cases hlt:i<n
 ·refine(h i y hlt hj).mono fun r hr=> ?_
  match r,hr with
  |.inl (k,x'),hr=>
   obtain⟨rfl,h2⟩:=hr
   exact⟨⟨i+1,rfl,hlt,h2⟩,by simp only[Int.toNat_natCast];omega⟩
  |.inr w,hr=>exact hr
 ·obtain rfl:i=n:=by omega
  refine(he y hj).mono fun r hr=> ?_
  match r,hr with
  |.inl _,hr=>exact hr.elim
  |.inr w,hr=>exact hr
theorem DI {α:Type} {l:List α} (h:l.length<1000000):UY (len l) (fun y0 => cnd (beq y0 true) (some []) (cnd (ile (len l) 68719476736) (some l) none))=some l:=by
 unfold UY
 have hc:ile (len l) 68719476736=true:=kF (by simp only[len];omega)
 simp only[aI hc]
 by_cases h0:len l=0
 ·have:l=[]:=List.eq_nil_of_length_eq_zero (by simp only[len]at h0;omega)
  subst this
  simp [len,cnd,beq,ile]
 ·rw[if_neg h0]
  simp [cnd,beq]
theorem bG {α:Type} (x y:α):cnd true x y=x:=rfl
theorem bn {α:Type} (x y:α):cnd false x y=y:=rfl
theorem bC:aF true=false:=rfl
theorem bZ:aF false=true:=rfl
theorem DL (b:Bool):band true b=b:=rfl
theorem LM (b:Bool):band false b=false:=rfl
theorem xq (b:Bool):bor true b=true:=rfl
theorem ig (b:Bool):bor false b=b:=rfl
theorem Xc (b:Bool):band b false=false:=by cases b<;>rfl
theorem ai5 (b:Bool):bor b true=true:=by cases b<;>rfl
theorem o7:ieq 0 0=true:=rfl
theorem zY:ieq 3 0=false:=rfl
theorem rZ {α:Type} (l:List α) (i:Nat) (x:α):(aY l i x).length=l.length:=by simp [aY]
theorem qN (i:Nat):itn (i:Int)=i:=by simp [itn]
theorem oM {a b:Int} (ha:inI a) (hb:inI b):oZ a b=some (if inI (a+b)then (a+b,0)else (0,3)):=by
 unfold inI at ha hb
 unfold oZ ax
 rcases ahm (n:=a+b) (by omega) (by omega)with ⟨h,e⟩ | ⟨h,e⟩ | ⟨h,e⟩<;>rw[e,LY]<;>simp only[bF,dh,dV,eX,bI,bP,dP,eP,dm,fB,bK,bJ,fC,fD]
 ·rw[if_pos h,if_neg]
  rintro⟨h1,h2⟩;unfold inI at h;exact h1 (decide_eq_decide.2 (by omega))
 ·rw[if_pos,if_neg (by unfold inI;omega)]
  exact⟨fun h1=>by have:=decide_eq_decide.1 h1;omega,by omega⟩
 ·rw[if_pos,if_neg (by unfold inI;omega)]
  exact⟨fun h1=>by have:=decide_eq_decide.1 h1;omega,by omega⟩
theorem Gm {a b:Int} (ha:inI a) (hb:inI b):wH a b=some (if inI (a - b)then (a - b,0)else (0,3)):=by
 unfold inI at ha hb
 unfold wH aG
 rcases ahm (n:=a - b) (by omega) (by omega)with ⟨h,e⟩ | ⟨h,e⟩ | ⟨h,e⟩<;>rw[e,LY]<;>simp only[bF,dh,dV,eX,bI,bP,dP,eP,dm,fB,bK,bJ,fC,fD]
 ·rw[if_pos h,if_neg]
  rintro⟨h1,h2⟩;unfold inI at h;exact h1 (decide_eq_decide.2 (by omega))
 ·rw[if_pos,if_neg (by unfold inI;omega)]
  exact⟨fun h1=>by have:=decide_eq_decide.1 h1;omega,by omega⟩
 ·rw[if_pos,if_neg (by unfold inI;omega)]
  exact⟨fun h1=>by have:=decide_eq_decide.1 h1;omega,by omega⟩
theorem abI (a b:Int):Gj a b=some (max a b):=by
 unfold Gj imax
 congr 1
 by_cases h:b>a
 ·rw[if_pos h];omega
 ·rw[if_neg h];omega
theorem half (n:Int) (h1:0<=n) (h2:n<18446744073709551616):∃a b:Int,n=a*4294967296+b/\0<=a/\a<4294967296/\0<=b/\b<4294967296/\dG .u64 n 32=a/\wr .u64 (oH .u64 n 4294967295)=b:=by
 refine⟨n / 4294967296,n%4294967296,by omega,by omega,by omega,by omega,by omega,?_,?_⟩
 ·unfold dG
  have:min (Int.toNat 32) (IntKind.bits .u64)=32:=by decide
  rw[this,Int.fdiv_eq_ediv_of_nonneg _ (by decide)]
  rfl
 ·unfold oH
  rw[D8]
  have e:(BitVec.ofInt (IntKind.bits .u64) n &&& BitVec.ofInt (IntKind.bits .u64) 4294967295).toNat=n.toNat%4294967296:=by
   rw[BitVec.toNat_and]
   have:(BitVec.ofInt (IntKind.bits .u64) 4294967295).toNat=2^32 - 1:=by decide
   rw[this,Nat.and_two_pow_sub_one_eq_mod]
   rw[BitVec.toNat_ofInt]
   congr 1
   have:(n%(2^(IntKind.bits .u64):Nat))=n:=Int.emod_eq_of_lt h1 (by simpa [IntKind.bits] using h2)
   rw[this]
  rw[e];omega
theorem ahz {x y:Int} (hx:0<=x) (hx2:x<18446744073709551616) (hy:0<=y) (hy2:y<18446744073709551616):
 oV x y=some (x*y / 18446744073709551616,x*y%18446744073709551616):=by
 obtain⟨a,b,e1,a1,a2,b1,b2,s1,s2⟩:=half x hx hx2
 obtain⟨c,d,e2,c1,c2,d1,d2,t1,t2⟩:=half y hy hy2
 unfold oV
 rw[s1,s2,t1,t2]
 unfold jq ax
 have m1:0<=a*c/\a*c<=4294967295*4294967295:=⟨Int.mul_nonneg a1 c1,Int.mul_le_mul (by omega) (by omega) c1 (by omega)⟩
 have m2:0<=a*d/\a*d<=4294967295*4294967295:=⟨Int.mul_nonneg a1 d1,Int.mul_le_mul (by omega) (by omega) d1 (by omega)⟩
 have m3:0<=b*c/\b*c<=4294967295*4294967295:=⟨Int.mul_nonneg b1 c1,Int.mul_le_mul (by omega) (by omega) c1 (by omega)⟩
 have m4:0<=b*d/\b*d<=4294967295*4294967295:=⟨Int.mul_nonneg b1 d1,Int.mul_le_mul (by omega) (by omega) d1 (by omega)⟩
 have mm:x*y=a*c*18446744073709551616+(a*d+b*c)*4294967296+b*d:=by
  subst e1 e2
  simp only[Int.add_mul,Int.mul_add]
  have q1:a*4294967296*(c*4294967296)=a*c*18446744073709551616:=by
   rw[Int.mul_assoc,Int.mul_left_comm 4294967296,<-Int.mul_assoc,<-Int.mul_assoc];omega
  have q2:a*4294967296*d=a*d*4294967296:=by rw[Int.mul_assoc,Int.mul_comm 4294967296,<-Int.mul_assoc]
  have q3:b*(c*4294967296)=b*c*4294967296:=by rw[<-Int.mul_assoc]
  rw[q1,q2,q3];omega
 rw[mm]
 generalize a*c=p at*
 generalize a*d=q at*
 generalize b*c=r at*
 generalize b*d=t at*
 have sh:∀n:Int,0<=n->n<18446744073709551616->dG .u64 n 32=n / 4294967296:=fun n h1 h2=>by
  obtain⟨u,v,h3,h4,h5,h6,h7,h8,_⟩:=half n h1 h2
  rw[h8];omega
 have la:∀n:Int,0<=n->n<18446744073709551616->wr .u64 (oH .u64 n 4294967295)=n%4294967296:=fun n h1 h2=>by
  obtain⟨u,v,h3,h4,h5,h6,h7,_,h8⟩:=half n h1 h2
  rw[h8];omega
 simp only[D8 p,D8 q,D8 r,D8 t]
 rw[Int.emod_eq_of_lt (a:=p) m1.1 (by omega),Int.emod_eq_of_lt (a:=q) m2.1 (by omega),Int.emod_eq_of_lt (a:=r) m3.1 (by omega),Int.emod_eq_of_lt (a:=t) m4.1 (by omega)]
 rw[sh t m4.1 (by omega)]
 rw[D8 (q+t / 4294967296),Int.emod_eq_of_lt (a:=q+t / 4294967296) (by omega) (by omega)]
 rw[sh (q+t / 4294967296) (by omega) (by omega),la (q+t / 4294967296) (by omega) (by omega)]
 rw[D8 (p+_),Int.emod_eq_of_lt (a:=p+(q+t / 4294967296) / 4294967296) (by omega) (by omega)]
 rw[D8 ((q+t / 4294967296)%4294967296+r),Int.emod_eq_of_lt (a:=(q+t / 4294967296)%4294967296+r) (by omega) (by omega)]
 rw[sh _ (by omega) (by omega)]
 rw[D8,D8]
 congr 2<;>omega
theorem aak {a:Int} (ha:inI a):Dq a=some (a.natAbs:Int):=by
 unfold inI at ha
 unfold Dq aG
 rw[LY];simp only[dP,D8]
 split
 ·congr 1;omega
 ·congr 1;omega
theorem abN {a b:Int} (ha:inI a) (hb:inI b):Gu a b=some (if inI (a*b)then (a*b,0)else (0,3)):=by
 unfold Gu
 rw[aak ha,aak hb,aj,aj,ahz (by omega) (by unfold inI at ha;omega) (by omega) (by unfold inI at hb;omega),aj]
 have hm:(a.natAbs:Int)*(b.natAbs:Int)=((a*b).natAbs:Int):=by rw[Int.natAbs_mul];rfl
 have hn:(a.natAbs:Int)*(b.natAbs:Int)<=9223372036854775808*9223372036854775808:=Int.mul_le_mul (by unfold inI at ha;omega) (by unfold inI at hb;omega) (by omega) (by omega)
 rw[hm]at hn ⊢
 have hs:(decide (a<0)=decide (b<0)->0<=a*b)/\(decide (a<0)≠decide (b<0)->a*b<=0):=by
  constructor
  ·intro h
   by_cases h1:a<0
   ·have h2:b<0:=by simpa [h1] using h
    exact Int.mul_nonneg_of_nonpos_of_nonpos (by omega) (by omega)
   ·have h2:¬b<0:=by simpa [h1] using h
    exact Int.mul_nonneg (by omega) (by omega)
  ·intro h
   by_cases h1:a<0
   ·have h2:¬b<0:=by simpa [h1] using h
    exact Int.mul_nonpos_of_nonpos_of_nonneg (by omega) (by omega)
   ·have h2:b<0:=by simpa [h1] using h
    exact Int.mul_nonpos_of_nonneg_of_nonpos (by omega) (by omega)
 generalize a*b=p at*
 simp only[LY,bF,dh,dV,eX,bI,bP,dP,eP,dm,fB,bK,bJ,fC,fD,aG,D8,ne_eq]
 unfold ilt at*
 by_cases hd:decide (a<0)=decide (b<0)
 ·have hp:=hs.1 hd
  rw[if_neg (fun h=>h.1.2 hd)]
  by_cases hr:p<=9223372036854775807
  ·rw[if_pos (by omega),if_pos ⟨by omega,by omega⟩,Ky ⟨by omega,by omega⟩]
   congr 2;omega
  ·rw[if_neg (by omega),if_neg (by unfold inI;omega)]
 ·have hp:=hs.2 hd
  by_cases hr: -9223372036854775808<=p
  ·rw[if_pos ⟨⟨by omega,hd⟩,by omega⟩,if_pos ⟨by omega,by omega⟩]
   congr 2
   rcases ahm (n:=(0 - ((p.natAbs:Int)%18446744073709551616))%18446744073709551616) (by omega) (by omega)with ⟨h,e⟩ | ⟨h,e⟩ | ⟨h,e⟩<;>rw[e]<;>unfold inI at* <;>omega
  ·rw[if_neg (by omega),if_neg (by omega),if_neg (by unfold inI;omega)]
def yO (n:Int):Prop:=1<=n/\n<=1000000000000
def EP (r:mQ):Prop:=
 (r.kind=1/\yO r.order/\(0<=r.account/\r.account<8)/\(0<=r.symbol/\r.symbol<8)/\(r.side=1\/r.side=2)/\1<=r.qty/\1<=r.price/\r.long=0/\r.short=0/\r.opn=0/\r.on=false/\r.seq=0/\r.what=0)\/
 (r.kind=2/\yO r.order/\r.account=0/\r.symbol=0/\r.side=0/\1<=r.qty/\1<=r.price/\r.long=0/\r.short=0/\r.opn=0/\r.on=false/\r.seq=0/\r.what=0)\/
 (r.kind=3/\yO r.order/\r.account=0/\r.symbol=0/\r.side=0/\r.qty=0/\r.price=0/\r.long=0/\r.short=0/\r.opn=0/\r.on=false/\r.seq=0/\r.what=0)\/
 (r.kind=4/\r.order=0/\(0<=r.account/\r.account<8)/\((r.symbol= -1/\r.long=0/\r.short=0)\/(0<=r.symbol/\r.symbol<8))/\r.side=0/\r.qty=0/\r.price=0/\0<=r.long/\0<=r.short/\0<=r.opn/\r.on=false/\r.seq=0/\r.what=0)\/
 (r.kind=5/\r.order=0/\r.account=0/\r.symbol=0/\r.side=0/\r.qty=0/\r.price=0/\r.long=0/\r.short=0/\r.opn=0/\r.seq=0/\r.what=0)\/
 (r.kind=6/\yO r.order/\r.account=0/\r.symbol=0/\r.side=0/\r.long=0/\r.short=0/\r.opn=0/\r.on=false/\(1<=r.seq/\r.seq<=1000000000)/\
   ((r.what=3/\1<=r.qty/\r.price=0)\/(r.what=5/\1<=r.qty/\1<=r.price)\/((r.what=1\/r.what=2\/r.what=4\/r.what=6)/\r.qty=0/\r.price=0)))
theorem alD (a b c:Int):(0<=jF (jF a b) c)↔0<=a/\0<=b/\0<=c:=by
 unfold jF;split<;>split<;>omega
theorem aeA (r:mQ):Wq (EC r) fun b=>b=true↔yO r.order/\(1<=r.seq/\r.seq<=1000000000)/\
 ((r.what=3/\1<=r.qty/\r.price=0)\/(r.what=5/\1<=r.qty/\1<=r.price)\/((r.what=1\/r.what=2\/r.what=4\/r.what=6)/\r.qty=0/\r.price=0)):=by
 unfold EC mJ oJ
 by_cases h1:1<=r.seq/\r.seq<=1000000000
 ·rw[aI (b:=aF (bor (ilt r.seq 1) (ilt 1000000000 r.seq))) (by simp only[bF,dh,dV,eX,bI,bP,dP,eP,dm,fB,bK,bJ,fC,fD];omega),aj]
  by_cases h2:yO r.order
  ·rw[show band (ile 1 r.order) (ile r.order 1000000000000)=true by simp only[bF,dh,dV,eX,bI,bP,dP,eP,dm,fB,bK,bJ,fC,fD];exact h2,dN (by simp only[bF,dh,dV,eX,bI,bP,dP,eP,dm,fB,bK,bJ,fC,fD];exact⟨by omega,trivial⟩)]
   by_cases k3:r.what=3
   ·rw[aI (by rw[bK];exact k3),au];simp only[h1,h2,true_and,bF,dh,dV,eX,bI,bP,dP,eP,dm,fB,bK,bJ,fC,fD];omega
   rw[dN (by rw[bJ];exact k3)]
   by_cases k5:r.what=5
   ·rw[aI (by rw[bK];exact k5),aj,au];simp only[h1,h2,true_and,bF,dh,dV,eX,bI,bP,dP,eP,dm,fB,bK,bJ,fC,fD];omega
   rw[dN (by rw[bJ];exact k5)]
   by_cases k1:r.what=1
   ·rw[aI (by rw[bK];exact k1),aI (by rw[bK];exact k1),au];simp only[h1,h2,true_and,bF,dh,dV,eX,bI,bP,dP,eP,dm,fB,bK,bJ,fC,fD];omega
   rw[dN (by rw[bJ];exact k1)]
   by_cases k2:r.what=2
   ·rw[aI (by rw[bK];exact k2),aI (by rw[bK];exact k2),au];simp only[h1,h2,true_and,bF,dh,dV,eX,bI,bP,dP,eP,dm,fB,bK,bJ,fC,fD];omega
   rw[dN (by rw[bJ];exact k2)]
   by_cases k4:r.what=4
   ·rw[aI (by rw[bK];exact k4),aI (by rw[bK];exact k4),au];simp only[h1,h2,true_and,bF,dh,dV,eX,bI,bP,dP,eP,dm,fB,bK,bJ,fC,fD];omega
   rw[dN (by rw[bJ];exact k4)]
   by_cases k6:r.what=6
   ·rw[aI (by rw[bK];exact k6),au];simp only[h1,h2,true_and,bF,dh,dV,eX,bI,bP,dP,eP,dm,fB,bK,bJ,fC,fD];omega
   rw[dN (by rw[bJ];exact k6),au]
   simp only[h1,h2,true_and,Bool.false_eq_true,false_iff];omega
  ·rw[show band (ile 1 r.order) (ile r.order 1000000000000)=false by simp only[bF,dh,dV,eX,bI,bP,dP,eP,dm,fB,bK,bJ,fC,fD];unfold yO at h2;omega,aI (by simp only[bF,dh,dV,eX,bI,bP,dP,eP,dm,fB,bK,bJ,fC,fD,or_true]),au]
   simp [h2]
 ·rw[dN (b:=aF (bor (ilt r.seq 1) (ilt 1000000000 r.seq))) (by simp only[bF,dh,dV,eX,bI,bP,dP,eP,dm,fB,bK,bJ,fC,fD];omega),aj,aI (by simp only[bF,dh,dV,eX,bI,bP,dP,eP,dm,fB,bK,bJ,fC,fD,or_true]),au]
  simp [h1]
theorem Jk (r:mQ):Wq (rU r) fun b=>b=true↔EP r:=by
 unfold rU FY
 obtain⟨ev,he,hq⟩:=aeA r
 by_cases k1:r.kind=1
 ·have e1:ieq r.kind 1=true:=by rw[bK];exact k1
  simp only[e1,bG,aj]
  simp only[xM,jW,au,bF,dh,dV,eX,bI,bP,dP,eP,dm,fB,bK,bJ,fC,fD,true_implies,ne_eq,not_true_eq_false,false_implies,and_true,true_and,or_self,reduceCtorEq,mJ,oC,oJ,EP,yO];grind
 have e1:ieq r.kind 1=false:=by rw[bJ];exact k1
 by_cases k2:r.kind=2
 ·have e2:ieq r.kind 2=true:=by rw[bK];exact k2
  simp only[e1,e2,bG,bn,aj]
  simp only[xM,jW,au,bF,dh,dV,eX,bI,bP,dP,eP,dm,fB,bK,bJ,fC,fD,true_implies,ne_eq,not_true_eq_false,false_implies,and_true,true_and,or_self,reduceCtorEq,mJ,oC,oJ,EP,yO];grind
 have e2:ieq r.kind 2=false:=by rw[bJ];exact k2
 by_cases k3:r.kind=3
 ·have e3:ieq r.kind 3=true:=by rw[bK];exact k3
  simp only[e1,e2,e3,bG,bn,aj]
  simp only[xM,jW,au,bF,dh,dV,eX,bI,bP,dP,eP,dm,fB,bK,bJ,fC,fD,true_implies,ne_eq,not_true_eq_false,false_implies,and_true,true_and,or_self,reduceCtorEq,mJ,oC,oJ,EP,yO];grind
 have e3:ieq r.kind 3=false:=by rw[bJ];exact k3
 by_cases k4:r.kind=4
 ·have e4:ieq r.kind 4=true:=by rw[bK];exact k4
  simp only[e1,e2,e3,e4,bG,bn,aj]
  simp only[xM,jW,au,bF,dh,dV,eX,bI,bP,dP,eP,dm,fB,bK,bJ,fC,fD,true_implies,ne_eq,not_true_eq_false,false_implies,and_true,true_and,or_self,reduceCtorEq,mJ,oC,oJ,EP,yO,alD];grind
 have e4:ieq r.kind 4=false:=by rw[bJ];exact k4
 by_cases k5:r.kind=5
 ·have e5:ieq r.kind 5=true:=by rw[bK];exact k5
  simp only[e1,e2,e3,e4,e5,bG,bn,aj]
  simp only[xM,jW,au,bF,dh,dV,eX,bI,bP,dP,eP,dm,fB,bK,bJ,fC,fD,true_implies,ne_eq,not_true_eq_false,false_implies,and_true,true_and,or_self,reduceCtorEq,mJ,oC,oJ,EP,yO];grind
 have e5:ieq r.kind 5=false:=by rw[bJ];exact k5
 by_cases k6:r.kind=6
 ·have e6:ieq r.kind 6=true:=by rw[bK];exact k6
  simp only[e1,e2,e3,e4,e5,e6,bG,bn,aj,he]
  simp only[xM,jW,au,bF,dh,dV,eX,bI,bP,dP,eP,dm,fB,bK,bJ,fC,fD,true_implies,ne_eq,not_true_eq_false,false_implies,and_true,true_and,or_self,reduceCtorEq,EP,hq];grind
 have e6:ieq r.kind 6=false:=by rw[bJ];exact k6
 simp only[e1,e2,e3,e4,e5,e6,bG,bn,aj]
 simp only[xM,jW,au,bF,dh,dV,eX,bI,bP,dP,eP,dm,fB,bK,bJ,fC,fD,true_implies,ne_eq,not_true_eq_false,false_implies,and_true,true_and,or_self,reduceCtorEq,EP];grind
def PE (o:aA):Prop:=(1<=o.id/\o.id<=1000000000000)/\(0<=o.account/\o.account<8)/\(0<=o.symbol/\o.symbol<8)/\(o.side=1\/o.side=2)/\1<=o.qty/\1<=o.price
theorem abh (o:aA):Wq (yV o) fun b=>b=true↔PE o:=by
 unfold yV
 rw[xM]
 refine(Jk _).mono fun b hb=> ?_
 rw[au,hb]
 simp [EP,PE,yO]
def xk (o:aA):Prop:=o.newQty≠0\/o.newPrice≠0
instance (o:aA):Decidable (xk o):=by unfold xk;infer_instance
instance (o:aA):Decidable (PE o):=by unfold PE;infer_instance
theorem Nq (o:aA):Wq (iY o) fun b=>b=true↔xk o:=by
 unfold iY
 simp only[au,dV,bI,bJ,xk]
theorem EW (o:aA):iY o=some (decide (xk o)):=(Nq o).dec
def vS (o:aA):Prop:=PE o/\0<=o.filled/\o.filled<=o.qty/\0<=o.version/\(xk o->1<=o.newQty/\1<=o.newPrice)/\
 ((o.phase=1/\o.filled=0/\o.version=0/\¬xk o)\/(o.phase=2/\o.filled<o.qty)\/(o.phase=3/\¬xk o))
instance (o:aA):Decidable (vS o):=by unfold vS;infer_instance
theorem aaY (o:aA):Wq (jw o) fun b=>b=true↔vS o:=by
 unfold jw
 rw[xM]
 refine(Nq o).mono fun p hp=> ?_
 rw[xM]
 refine(abh o).mono fun b hb=> ?_
 unfold vS
 rw[<-hp,<-hb]
 have hm:(jF o.newQty o.newPrice<1)↔¬(1<=o.newQty/\1<=o.newPrice):=by unfold jF;split<;>omega
 simp only[xM,jW,au,bF,dh,dV,eX,bI,bP,dP,eP,dm,fB,bK,bJ,fC,fD,hm]
 cases p<;>cases b<;>simp<;>omega
theorem nV (o:aA):jw o=some (decide (vS o)):=(aaY o).dec
def lX (o:aA):Int:=if o.phase=3 then 0 else max o.qty o.newQty - o.filled
def ji (o:aA):Int:=if o.phase=3 then 0 else if o.newQty<=o.filled then (o.qty - o.filled)*o.price else max ((o.qty - o.filled)*o.price) ((o.newQty - o.filled)*o.newPrice)
theorem Gp {o:aA} (h:vS o) (hr:fV o):0<=lX o/\lX o<=9223372036854775807:=by
 obtain⟨_,h1,h2,_⟩:=h
 have:=hr.qty.2;have:=hr.newQty.2
 unfold lX;split<;>omega
theorem ah2 {o:aA} (h:vS o) (hn:o.filled<o.newQty):1<=o.newPrice:=by
 obtain⟨_,h1,h2,_,h4,_⟩:=h
 exact(h4 (.inl (by omega))).2
theorem Gs {o:aA} (h:vS o):0<=ji o:=by
 have hp:=h.1.2.2.2.2.2
 have hf:=h.2.2.1
 unfold ji;split
 ·omega
 ·have m:0<=(o.qty - o.filled)*o.price:=Int.mul_nonneg (by omega) (by omega)
  split<;>omega
theorem Tn {o:aA} (h:vS o) (hr:fV o):rV o=some (lX o):=by
 have hb:=Gp h hr
 unfold rV
 rw[nV,aj,decide_eq_true h,abI,aj]
 unfold lX at*
 rw[bC,ig,kQ]
 split
 ·rfl
 ·rename_i hp
  rw[if_neg hp]at hb
  unfold aG
  rw[Ky ⟨by omega,by omega⟩]
theorem QT {o:aA} (h:vS o) (hr:fV o):wG o=some (if ji o<=9223372036854775807 then (ji o,0)else (0,3)):=by
 have hp:=h.1.2.2.2.2.2
 have hf:=h.2.2.1
 have hf0:=h.2.1
 have rq:=hr.qty;have rp:=hr.price;have rf:=hr.filled;have rn:=hr.newQty;have rnp:=hr.newPrice
 unfold inI at rq rf rn
 unfold wG
 rw[nV,aj,decide_eq_true h,bC,bn,kQ]
 unfold ji
 split
 ·rw[if_pos (by omega)]
 ·unfold aG
  rw[Ky ⟨by omega,by omega⟩,abN ⟨by omega,by omega⟩ rp,aj]
  have m:0<=(o.qty - o.filled)*o.price:=Int.mul_nonneg (by omega) (by omega)
  generalize (o.qty - o.filled)*o.price=a at*
  rw[LY]
  simp only[bF,dh,dV,eX,bI,bP,dP,eP,dm,fB,bK,bJ,fC,fD]
  by_cases hn:o.newQty<=o.filled
  ·rw[if_pos (.inr hn),if_pos hn]
   by_cases ha:a<=9223372036854775807
   ·rw[if_pos (c:=inI a) ⟨by omega,ha⟩,if_pos ha]
   ·rw[if_neg (c:=inI a) (by unfold inI;omega),if_neg ha]
  ·rw[if_neg hn]
   have hnp:=ah2 h (by omega)
   rw[Ky ⟨by omega,by omega⟩,abN ⟨by omega,by omega⟩ rnp,aj]
   have m2:0<=(o.newQty - o.filled)*o.newPrice:=Int.mul_nonneg (by omega) (by omega)
   generalize (o.newQty - o.filled)*o.newPrice=b at*
   by_cases ha:a<=9223372036854775807
   ·rw[if_pos (c:=inI a) ⟨by omega,ha⟩,if_neg (by simp only[ne_eq,not_true_eq_false,false_or];exact hn)]
    by_cases hb:b<=9223372036854775807
    ·rw[if_pos (c:=inI b) ⟨by omega,hb⟩]
     rw[dN (by simp [aF,ieq]),abI,aj,if_pos (by omega)]
    ·rw[if_neg (c:=inI b) (by unfold inI;omega)]
     rw[aI (by simp [aF,ieq]),if_neg (by omega)]
   ·rw[if_neg (c:=inI a) (by unfold inI;omega),if_pos (.inl (by decide)),if_neg (by omega)]
def okC (c:aK):Prop:=zQ c/\(0<=c.buy/\0<=c.sell/\0<=c.opn)/\inI (c.pos+c.buy)/\inI (c.sell - c.pos)
theorem JB (c:aK):okC c↔(inI c.pos/\inI c.buy/\inI c.sell/\inI c.opn)/\(0<=c.buy/\0<=c.sell/\0<=c.opn)/\inI (c.pos+c.buy)/\inI (c.sell - c.pos):=
 ⟨fun⟨⟨a,b,c,d⟩,h⟩=>⟨⟨a,b,c,d⟩,h⟩,fun⟨⟨a,b,c,d⟩,h⟩=>⟨⟨a,b,c,d⟩,h⟩⟩
instance (c:aK):Decidable (okC c):=decidable_of_iff _ (JB c).symm
theorem Xb {c:aK} (h:zQ c):Bh c=some (⟨if inI (c.pos+c.buy)then c.pos+c.buy else 0,if inI (c.sell - c.pos)then c.sell - c.pos else 0,c.opn⟩,decide (inI (c.pos+c.buy)/\inI (c.sell - c.pos))):=by
 unfold Bh
 rw[oM h.pos h.buy,aj,Gm h.sell h.pos,aj]
 by_cases h1:inI (c.pos+c.buy)
 ·by_cases h2:inI (c.sell - c.pos)
  ·simp only[if_pos h1,if_pos h2,o7,DL,decide_eq_true (show _/\_ from⟨h1,h2⟩)]
  ·simp only[if_pos h1,if_neg h2,zY,o7,DL,decide_eq_false (fun h:_/\_=>h2 h.2)]
 ·simp only[if_neg h1,zY,LM,decide_eq_false (fun h:_/\_=>h1 h.1)]
  by_cases h2:inI (c.sell - c.pos)
  ·simp only[if_pos h2]
  ·simp only[if_neg h2]
theorem ad8 {c:aK} (h:zQ c):Wq (iT c) fun b=>b=true↔okC c:=by
 unfold iT
 rw[Xb h,aj,au]
 simp only[bF,dm,decide_eq_true_eq,okC]
 rw[alD]
 constructor
 ·rintro⟨a,b⟩;exact⟨h,b,a⟩
 ·rintro⟨_,b,a⟩;exact⟨a,b⟩
theorem lq {c:aK} (h:zQ c):iT c=some (decide (okC c)):=(ad8 h).dec
def ofC (c:aK):dD:=⟨c.pos+c.buy,c.sell - c.pos,c.opn⟩
theorem acF {c:aK} (h:okC c):Gq c=some (ofC c,0):=by
 unfold Gq
 rw[lq h.1,aj,decide_eq_true h,bC,bn,Xb h.1,aj,if_pos h.2.2.1,if_pos h.2.2.2]
 rfl
def qR (c:aK) (o:aA):aK:=if o.side=2 then ⟨c.pos,c.buy,c.sell+lX o,c.opn+ji o⟩else ⟨c.pos,c.buy+lX o,c.sell,c.opn+ji o⟩
def sS (c:aK) (o:aA):aK:=if o.side=2 then ⟨c.pos,c.buy,c.sell - lX o,c.opn - ji o⟩else ⟨c.pos,c.buy - lX o,c.sell,c.opn - ji o⟩
theorem Eu {c:aK} {o:aA} (hc:okC c) (ho:vS o) (hr:fV o):iR c o=some (if okC (qR c o)then (qR c o,0)else (c,3)):=by
 have hO:=Gp ho hr
 have hW:=Gs ho
 obtain⟨hk,⟨n1,n2,n3⟩,r1,r2⟩:=id hc
 have ib:=hk.buy;have is':=hk.sell;have io:=hk.opn;have ip:=hk.pos
 unfold iR
 rw[lq hk,aj,decide_eq_true hc,nV,decide_eq_true ho,bC,bZ,bG,aj,bC,ig,bn,QT ho hr,Tn ho hr,aj]
 simp only[aj]
 have oO:inI (lX o):=⟨by omega,by omega⟩
 by_cases hw:ji o<=9223372036854775807
 ·have oW:inI (ji o):=⟨by omega,hw⟩
  rw[if_pos hw]
  simp only[o7,bC,ig]
  by_cases hs:o.side=2
  ·rw[aI (by rw[bK];exact hs),oM is' oO,aj,oM io oW,aj]
   unfold qR;rw[if_pos hs]
   by_cases h1:c.sell+lX o<=9223372036854775807
   ·by_cases h2:c.opn+ji o<=9223372036854775807
    ·rw[if_pos ⟨by omega,h1⟩,if_pos ⟨by omega,h2⟩]
     simp only[o7,bC,ig,bZ,bG]
     rw[lq (c:=⟨c.pos,c.buy,c.sell+lX o,c.opn+ji o⟩) ⟨ip,ib,⟨by simp only;omega,h1⟩,⟨by simp only;omega,h2⟩⟩,aj,lM,KX]
     split<;>rfl
    ·rw[if_pos ⟨by omega,h1⟩,if_neg (by unfold inI;omega)]
     simp only[o7,zY,bC,ig,bZ,bG,xq,bn,aj]
     rw[if_neg fun h=>h2 h.1.opn.2]
   ·rw[if_neg (by unfold inI;omega)]
    simp only[zY,bZ,xq,bC,bG,bn,aj]
    rw[if_neg fun h=>h1 h.1.sell.2]
  ·rw[dN (by rw[bJ];exact hs),oM ib oO,aj,oM io oW,aj]
   unfold qR;rw[if_neg hs]
   by_cases h1:c.buy+lX o<=9223372036854775807
   ·by_cases h2:c.opn+ji o<=9223372036854775807
    ·rw[if_pos ⟨by omega,h1⟩,if_pos ⟨by omega,h2⟩]
     simp only[o7,bC,ig,bZ,bG]
     rw[lq (c:=⟨c.pos,c.buy+lX o,c.sell,c.opn+ji o⟩) ⟨ip,⟨by simp only;omega,h1⟩,is',⟨by simp only;omega,h2⟩⟩,aj,lM,KX]
     split<;>rfl
    ·rw[if_pos ⟨by omega,h1⟩,if_neg (by unfold inI;omega)]
     simp only[o7,zY,bC,ig,bZ,bG,xq,bn,aj]
     rw[if_neg fun h=>h2 h.1.opn.2]
   ·rw[if_neg (by unfold inI;omega)]
    simp only[zY,bZ,xq,bC,bG,bn,aj]
    rw[if_neg fun h=>h1 h.1.buy.2]
 ·have hno:¬okC (qR c o):=fun h=>by
   have:=h.1.opn.2
   unfold qR at this
   split at this<;>simp only at this<;>omega
  rw[if_neg hw,if_neg hno]
  simp only[zY,bZ,xq,bC,bn,aj,bG]
  by_cases hs:o.side=2
  ·rw[aI (by rw[bK];exact hs),oM is' oO,aj,oM io (by decide),aj]
  ·rw[dN (by rw[bJ];exact hs),oM ib oO,aj,oM io (by decide),aj]
theorem abL {c:aK} {o:aA} (hc:okC c) (ho:vS o) (hr:fV o) (hs:okC (sS c o)):Ap c o=some (sS c o,0):=by
 have hO:=Gp ho hr
 have hW:=Gs ho
 obtain⟨hk,⟨n1,n2,n3⟩,r1,r2⟩:=id hc
 have ib:=hk.buy;have is':=hk.sell;have io:=hk.opn;have ip:=hk.pos
 have oO:inI (lX o):=⟨by omega,by omega⟩
 have hw:ji o<=9223372036854775807:=by
  have h1:=hs.2.1.2.2
  have h2:=io.2
  have h3:(sS c o).opn=c.opn - ji o:=by unfold sS;split<;>rfl
  omega
 have oW:inI (ji o):=⟨by omega,hw⟩
 unfold Ap
 rw[lq hk,aj,decide_eq_true hc,nV,decide_eq_true ho,bC,bZ,bG,aj,bC,ig,bn,QT ho hr,Tn ho hr,aj]
 simp only[aj]
 rw[if_pos hw]
 simp only[o7,bC,ig]
 unfold inI at ib is' io
 by_cases hd:o.side=2
 ·rw[aI (by rw[bK];exact hd),Gm is' oO,aj,Gm io oW,aj]
  unfold sS at hs ⊢; rw[if_pos hd]at hs ⊢
  rw[if_pos ⟨by omega,by omega⟩,if_pos ⟨by omega,by omega⟩]
  simp only[o7,bC,ig,bZ,bG]
  rw[lq hs.1,decide_eq_true hs,aj,bC,bn]
 ·rw[dN (by rw[bJ];exact hd),Gm ib oO,aj,Gm io oW,aj]
  unfold sS at hs ⊢; rw[if_neg hd]at hs ⊢
  rw[if_pos ⟨by omega,by omega⟩,if_pos ⟨by omega,by omega⟩]
  simp only[o7,bC,ig,bZ,bG]
  rw[lq hs.1,decide_eq_true hs,aj,bC,bn]
theorem agZ {c:aK} {d q:Int} (hc:okC c) (hd:d=1\/d=2) (hq:0<=q) (rq:inI q) (hn:okC ⟨if d=1 then c.pos+q else c.pos - q,c.buy,c.sell,c.opn⟩):
 DX c d q=some (⟨if d=1 then c.pos+q else c.pos - q,c.buy,c.sell,c.opn⟩,0):=by
 unfold DX
 rw[lq hc.1,aj,decide_eq_true hc,bC,ig,dN (by simp only[bF,dh,dV,eX,bI,bP,dP,eP,dm,fB,bK,bJ,fC,fD];omega)]
 have ip:=hc.1.pos
 have hp:=hn.1.pos
 simp only at hp
 by_cases h:d=1
 ·rw[aI (by rw[bK];exact h),oM ip rq,aj]
  simp only[if_pos h]at hn hp ⊢
  rw[if_pos hp]
  simp only[o7,bC,ig,bZ,bG]
  rw[lq hn.1,decide_eq_true hn,aj,bC,bn]
 ·rw[dN (by rw[bJ];exact h),Gm ip rq,aj]
  simp only[if_neg h]at hn hp ⊢
  rw[if_pos hp]
  simp only[o7,bC,ig,bZ,bG]
  rw[lq hn.1,decide_eq_true hn,aj,bC,bn]
def OE (x:dD):Prop:=0<=x.long/\0<=x.short/\0<=x.opn
instance (x:dD):Decidable (OE x):=by unfold OE;infer_instance
theorem aaV (x:dD):yU x=some (decide (OE x)):=by
 refine Wq.dec ?_
 unfold yU OE
 rw[au,dm,alD]
def aa5 (was now cap:Int):Prop:=max was cap<now
instance (a b c:Int):Decidable (aa5 a b c):=by unfold aa5;infer_instance
def G7 (a b l:dD):Prop:=aa5 a.long b.long l.long\/aa5 a.short b.short l.short\/aa5 a.opn b.opn l.opn
instance (a b l:dD):Decidable (G7 a b l):=by unfold G7;infer_instance
theorem Ik (a b c:Int):jR a b c=some (decide (aa5 a b c)):=by
 refine Wq.dec ?_
 unfold jR imax aa5
 rw[au,dP]
 split<;>omega
theorem X5 (a b l:dD):vO a b l=some (decide (G7 a b l)):=by
 refine Wq.dec ?_
 unfold vO wJ
 simp only[aj,Ik,jW,au,decide_eq_true_eq,decide_eq_false_iff_not,G7]
 grind
theorem abe (l:List Int) (i:Nat) (h:i<l.length):(l.take (i+1)).sum=(l.take i).sum+l[i]:=by
 rw[List.take_succ_eq_append_getElem h,List.sum_append];simp
theorem ac1:∀ {l:List Int},(∀x∈l,0<=x)->0<=l.sum
 |[],_=>by simp
 |a::l,h=>by
  have:=ac1 (l:=l) fun x hx=>h x (by simp [hx])
  have:=h a (by simp)
  simp only[List.sum_cons];omega
theorem agb {l:List Int} (h:∀x∈l,0<=x) (i:Nat):(l.take i).sum<=l.sum:=by
 have e:l.sum=(l.take i).sum+(l.drop i).sum:=by rw[<-List.sum_append,List.take_append_drop]
 have:=ac1 (l:=l.drop i) fun x hx=>h x (List.mem_of_mem_drop hx)
 omega
def aqw (l:List Int):Int×Int:=if l.sum<=9223372036854775807 then (l.sum,0)else (0,3)
theorem aeQ {l:List Int} (hl:l.length<999999) (h:∀x∈l,0<=x/\inI x):Ej l=some (aqw l):=by
 refine Wq.eq ?_
 have hn:∀x∈l,0<=x:=fun x hx=>(h x hx).1
 unfold Ej
 refine Wq.bind (Q:=fun w:(Int×Int) ⊕ (Int×Int×Int)=>match w with | .inl w=>w=(3,0)/\¬l.sum<=9223372036854775807 | .inr w=>w.1=l.sum/\l.sum<=9223372036854775807)
  (pF (n:=l.length) (step:=fun v:Int×Int×Int×Int=>ug (len l) l v.fst v.snd.fst v.snd.snd.fst v.snd.snd.snd) (by omega)
    (fun i x=>x.1=(l.take i).sum/\x.1<=9223372036854775807) _ ?_ ?_ _ 0 (Nat.zero_le _) (by simp)) ?_
 ·rintro i ⟨a,b,c⟩ hi ⟨rfl,ha⟩
  simp only[ug]
  simp only at ha
  have ht:=ac1 (l:=l.take i) fun x hx=>hn x (List.mem_of_mem_take hx)
  have hx:=h l[i] (List.getElem_mem _)
  rw[aI (by rw[jl];simpa using hi),aI (inb l i hi),bQ l i hi,oM ⟨by omega,ha⟩ hx.2,aj,<-abe l i hi]
  have:=agb hn (i+1)
  have h2:=ac1 (l:=l.take (i+1)) fun x hx=>hn x (List.mem_of_mem_take hx)
  by_cases hr:(l.take (i+1)).sum<=9223372036854775807
  ·rw[if_pos ⟨by omega,hr⟩]
   simp only[o7,bC,bn,au]
   exact⟨fE (by omega),trivial,hr⟩
  ·rw[if_neg (by unfold inI;omega)]
   simp only[zY,bZ,bG,au]
   exact⟨trivial,by omega⟩
 ·rintro⟨a,b,c⟩ ⟨rfl,ha⟩
  simp only[ug]
  simp only at ha
  rw[dN (by rw[jl];simp),au]
  rw[List.take_length]at*
  exact⟨rfl,ha⟩
 ·rintro w hw
  unfold aqw
  cases w with
  |inl w=>obtain⟨rfl,h2⟩:=hw;simp only[qQ,au];rw[if_neg h2]
  |inr w=>obtain⟨h1,h2⟩:=hw;simp only[qQ,au];rw[if_pos h2,h1]
def pO (l:List aK):Int:=(l.map aK.opn).sum
theorem JU {l:List aK} (hl:l.length<999999) (h:∀c∈l,0<=c.opn/\inI c.opn):sJ l=some (if pO l<=9223372036854775807 then (pO l,0)else (0,3)):=by
 refine Wq.eq ?_
 unfold sJ
 refine Wq.bind (Q:=fun w:List Int=>w=l.map aK.opn)
  (pF (n:=l.length) (step:=fun v:Int×List Int=>qw (len l) l v.fst v.snd) (by omega) (fun i x=>x=(l.take i).map aK.opn) _ ?_ ?_ _ 0 (Nat.zero_le _) (by simp)) ?_
 ·rintro i x hi rfl
  simp only[qw]
  rw[aI (by rw[jl];simpa using hi),aI (inb l i hi),aI (kF (by simp [jc,len];omega)),au,bQ l i hi]
  exact⟨fE (by omega),by rw[List.take_succ_eq_append_getElem hi,List.map_append];rfl⟩
 ·rintro x rfl
  simp only[qw]
  rw[dN (by rw[jl];simp),au,List.take_length]
 ·rintro w rfl
  rw[aeQ (by simpa using hl) (fun x hx=>by
   obtain⟨c,hc,rfl⟩:=List.mem_map.1 hx
   exact h c hc),aj,au]
  rfl
theorem Rx {l:List Int} (hl:l.length<999999) (h0:l≠[]):Wq (lG l) fun m=>0<=m↔∀x∈l,0<=x:=by
 have hp:0<l.length:=List.length_pos_iff.2 h0
 unfold lG
 rw[dN (BD (by simp only[len];omega)),aI (CX (by simp only[len];omega))]
 refine Wq.bind (Q:=fun m=>0<=m↔∀x∈l,0<=x) (pF (n:=l.length) (step:=fun v:Int×Int=>jZ l v.fst v.snd) (by omega) (fun i x=>0<=x↔∀y∈l.take i,0<=y) _ ?_ ?_ _ 1 hp ?_) ?_
 ·rintro i x hi hx
  simp only[jZ]
  rw[aI (by rw[jl];simpa using hi),aI (inb l i hi),au,bQ l i hi]
  refine⟨fE (by omega),?_⟩
  rw[List.take_succ_eq_append_getElem hi]
  simp only[List.mem_append,List.mem_singleton]
  unfold jF
  constructor
  ·intro h y hy
   rcases hy with hy | rfl
   ·exact hx.1 (by split at h<;>omega) y hy
   ·split at h<;>omega
  ·intro h
   have h1:=hx.2 fun y hy=>h y (.inl hy)
   have h2:=h _ (.inr rfl)
   split<;>omega
 ·rintro x hx
  simp only[jZ]
  rw[dN (by rw[jl];simp),au]
  rwa[List.take_length]at hx
 ·cases l with
  |nil=>exact absurd rfl h0
  |cons a r=>simp [ah]
 ·exact fun w hw=>(au _).2 hw
def Gz (l:List aA) (n:Int):Option Nat:=l.findIdx? fun o=>o.id == n
def Xt (l:List aA) (n:Int):Int:=match Gz l n with | some k=>k | none=> -1
theorem OV (s:ai) (n:Int) (hl:s.orders.length<999999):qg s n=some (Xt s.orders n):=by
 refine Wq.eq ?_
 unfold qg
 refine Wq.bind (Q:=fun w:Int ⊕ Int=>match w with
  |.inl k=>∃i:Nat,k=i/\∃h:i<s.orders.length,s.orders[i].id=n/\∀j,(h:j<s.orders.length)->j<i->s.orders[j].id≠n
  |.inr _=>∀j,(h:j<s.orders.length)->s.orders[j].id≠n)
  (pF (n:=s.orders.length) (step:=fun v:Int×Int=>dB (len s.orders) s.orders n v.fst v.snd) (by omega) (fun i x=>∀j,(h:j<s.orders.length)->j<i->s.orders[j].id≠n) _ ?_ ?_ _ 0 (Nat.zero_le _) (fun j _ h=>by omega)) ?_
 ·rintro i x hi hx
  simp only[dB]
  rw[aI (by rw[jl];simpa using hi),aI (inb _ i hi),bQ _ i hi,jW]
  refine⟨fun he=>(au _).2 ⟨i,rfl,hi,by simpa [ieq] using he,hx⟩,fun he=>(au _).2 ⟨fE (by omega),fun j hj hji=> ?_⟩⟩
  by_cases e:j=i
  ·subst e;simpa [ieq] using he
  ·exact hx j hj (by omega)
 ·rintro x hx
  simp only[dB]
  rw[dN (by rw[jl];simp),au]
  exact fun j hj=>hx j hj hj
 ·rintro w hw
  cases w with
  |inl k=>
   obtain⟨i,rfl,hi,h1,h2⟩:=hw
   have:Gz s.orders n=some i:=by
    unfold Gz
    rw[List.findIdx?_eq_some_iff_getElem]
    exact⟨hi,by simpa using h1,fun j hj=>by simpa using h2 j (by omega) hj⟩
   simp only[qQ,au,Xt,this]
  |inr k=>
   have:Gz s.orders n=none:=by
    unfold Gz
    rw[List.findIdx?_eq_none_iff]
    intro o ho
    obtain⟨j,hj,rfl⟩:=List.getElem_of_mem ho
    simpa using hw j hj
   simp only[qQ,au,Xt,this]
theorem vz {l:List aA} {n:Int} {k:Nat} (h:Gz l n=some k):∃hk:k<l.length,l[k].id=n:=by
 unfold Gz at h
 rw[List.findIdx?_eq_some_iff_getElem]at h
 obtain⟨hk,h1,_⟩:=h
 exact⟨hk,by simpa using h1⟩
theorem Sv {l:List aA} {n:Int} {k:Nat} (h:Gz l n=some k):Xt l n=k:=by unfold Xt;rw[h]
theorem SL {l:List aA} {n:Int} (h:Gz l n=none):Xt l n= -1:=by unfold Xt;rw[h]
def sK (s:ai):Prop:=(1<=s.accounts/\s.accounts<=8)/\(1<=s.symbols/\s.symbols<=8)/\len s.cells=s.accounts*s.symbols/\len s.limits=len s.cells/\len s.caps=s.accounts/\s.orders.length<=64
instance (s:ai):Decidable (sK s):=by unfold sK;infer_instance
theorem Bo {a b:Int} (h1:0<=a) (h2:a<=9) (h3:0<=b) (h4:b<=9):0<=a*b/\a*b<=81:=
 ⟨Int.mul_nonneg h1 h3,by have:=Int.mul_le_mul h2 h4 h3 (by omega);omega⟩
theorem QD (s:ai):Wq (pz s) fun b=>b=true↔sK s:=by
 unfold pz
 simp only[au,bF,dm,bK,sK]
 constructor
 ·rintro⟨⟨⟨⟨⟨⟨⟨a,b⟩,c⟩,d⟩,e⟩,f⟩,g⟩,h⟩
  have:=Bo (a:=s.accounts) (b:=s.symbols) (by omega) (by omega) (by omega) (by omega)
  rw[show jq s.accounts s.symbols=s.accounts*s.symbols from rfl,dI this.1 (by omega)]at e
  exact⟨⟨a,b⟩,⟨c,d⟩,e,f,g,by simp only[len]at h;omega⟩
 ·rintro⟨⟨a,b⟩,⟨c,d⟩,e,f,g,h⟩
  have:=Bo (a:=s.accounts) (b:=s.symbols) (by omega) (by omega) (by omega) (by omega)
  rw[show jq s.accounts s.symbols=s.accounts*s.symbols from rfl,dI this.1 (by omega)]
  exact⟨⟨⟨⟨⟨⟨⟨a,b⟩,c⟩,d⟩,e⟩,f⟩,g⟩,by simp only[len];omega⟩
theorem sK.lens {s:ai} (hs:sK s):s.cells.length<=64/\s.limits.length=s.cells.length/\s.caps.length=s.accounts.toNat/\s.orders.length<=64:=by
 obtain⟨⟨h1,h2⟩,⟨h3,h4⟩,h5,h6,h7,h8⟩:=hs
 have m:s.accounts*s.symbols<=8*8:=Int.mul_le_mul h2 h4 (by omega) (by omega)
 simp only[len]at h5 h6 h7
 exact⟨by omega,by omega,by omega,h8⟩
def atZ (n:Int) (o:aA):Int:=o.account*n+o.symbol
theorem KE {s:ai} (hs:sK s) (a y:Int) (ha:0<=a) (ha2:a<s.accounts) (hy:0<=y) (hy2:y<s.symbols):
 ∃k:Nat,aX s a y=some (k:Int)/\(k:Int)=a*s.symbols+y/\k<s.cells.length:=by
 obtain⟨⟨h1,h2⟩,⟨h3,h4⟩,h5,_⟩:=hs
 have m:=Bo (a:=a) (b:=s.symbols) (by omega) (by omega) (by omega) (by omega)
 have l:(a+1)*s.symbols<=s.accounts*s.symbols:=Int.mul_le_mul_of_nonneg_right (by omega) (by omega)
 have e:(a+1)*s.symbols=a*s.symbols+s.symbols:=by rw[Int.add_mul,Int.one_mul]
 refine⟨(a*s.symbols+y).toNat,?_,by omega,by simp only[len]at h5;omega⟩
 unfold aX
 rw[show jq a s.symbols=a*s.symbols from rfl,dI m.1 (by omega),show ax (a*s.symbols) y=a*s.symbols+y from rfl,dI (by omega) (by omega)]
 congr 1;omega
def rQ (n:Int) (cs:List aK) (a:Int):List aK:=(cs.drop (a*n).toNat).take n.toNat
theorem Vr {s:ai} (hs:sK s) (a:Int) (ha:0<=a) (ha2:a<s.accounts):
 jC s a=some (rQ s.symbols s.cells a):=by
 obtain⟨⟨h1,h2⟩,⟨h3,h4⟩,h5,_⟩:=hs
 have m:=Bo (a:=a) (b:=s.symbols) (by omega) (by omega) (by omega) (by omega)
 have m2:=Bo (a:=a+1) (b:=s.symbols) (by omega) (by omega) (by omega) (by omega)
 have l:(a+1)*s.symbols<=s.accounts*s.symbols:=Int.mul_le_mul_of_nonneg_right (by omega) (by omega)
 have e:(a+1)*s.symbols=a*s.symbols+s.symbols:=by rw[Int.add_mul,Int.one_mul]
 unfold jC
 rw[show jq a s.symbols=a*s.symbols from rfl,dI m.1 (by omega),show ax a 1=a+1 from rfl,dI (n:=a+1) (by omega) (by omega),
  show jq (a+1) s.symbols=(a+1)*s.symbols from rfl,dI m2.1 (by omega)]
 rw[aI (by simp only[bF,dm];omega)]
 rw[show aG ((a+1)*s.symbols) (a*s.symbols)=s.symbols from by unfold aG;omega]
 rfl
theorem Vb {n:Int} {cs:List aK} {a:Int} {c:aK} (h:c∈rQ n cs a):c∈cs:=List.mem_of_mem_drop (List.mem_of_mem_take h)
theorem VY {n:Int} {cs:List aK} {a:Int}:(rQ n cs a).length<=cs.length:=by
 unfold rQ;rw[List.length_take,List.length_drop];omega
def BM (s:ai) (o:aA):Prop:=vS o/\o.phase≠3/\o.account<s.accounts/\o.symbol<s.symbols
def QC (l:List aA):Prop:=l.Pairwise fun a b=>a.id<b.id
structure aiK (s:ai):Prop where
 ords:∀o∈s.orders,BM s o
 asc:QC s.orders
 ids:∀o∈s.orders,o.id<=s.last
 last:0<=s.last/\s.last<=1000000000000
 seq:0<=s.seq/\s.seq<=1000000000
 lsn:0<=s.lsn/\s.lsn<=1000000000
 lims:∀x∈s.limits,OE x
 caps:∀x∈s.caps,0<=x
theorem Ed {α:Type} {l:List α} {i:Nat} (h:i<l.length) {x:α}:x∈l.take (i+1)↔x∈l.take i\/x=l[i]:=by
 rw[List.take_succ_eq_append_getElem h,List.mem_append,List.mem_singleton]
theorem apl (s:ai) (hl:s.orders.length<999999) (h2:s.limits.length<999999) (h3:s.caps.length<999999) (h0:s.caps≠[]):
 Wq (qI s) fun b=>b=true↔aiK s:=by
 unfold qI
 refine Wq.bind (Q:=fun w:Bool ⊕ (Int×Bool)=>match w with
  |.inl b=>b=false/\¬((∀o∈s.orders,BM s o)/\QC s.orders)
  |.inr v=>(∀o∈s.orders,BM s o/\o.id<=v.1)/\QC s.orders/\(v.1=0\/∃o∈s.orders,o.id=v.1))
  (pF (n:=s.orders.length) (step:=fun v:Int×Int×Bool=>kT (len s.orders) s.orders s v.fst v.snd.fst v.snd.snd) (by omega)
    (fun i v=>(∀o∈s.orders.take i,BM s o/\o.id<=v.1)/\QC (s.orders.take i)/\(v.1=0\/∃o∈s.orders.take i,o.id=v.1)) _ ?_ ?_ _ 0 (Nat.zero_le _) (by simp [QC])) ?_
 ·rintro i ⟨x,q⟩ hi ⟨g1,g2,g3⟩
  simp only at g1 g2 g3
  simp only[kT]
  rw[aI (by rw[jl];simpa using hi),aI (inb _ i hi),bQ _ i hi,nV,aj]
  simp only[jW,au,dV,eX,bI,bP,bK,bJ,dm,fB,decide_eq_true_eq,decide_eq_false_iff_not]
  refine⟨fun hb=>⟨trivial,fun⟨a1,a2⟩=> ?_⟩,fun hc=>⟨fE (by omega),fun o ho=> ?_,?_,.inr ⟨_,(Ed hi).2 (.inr rfl),rfl⟩⟩⟩
  ·obtain⟨b1,b2,b3,b4⟩:=a1 s.orders[i] (List.getElem_mem _)
   have hle:s.orders[i].id<=x:=by
    rcases hb with (((hb | hb) | hb) | hb) | hb
    ·exact absurd b1 hb
    ·exact absurd hb b2
    ·omega
    ·omega
    ·exact hb
   rcases g3 with g3 | ⟨o,ho,g3⟩
   ·have:=b1.1.1.1;omega
   ·obtain⟨j,hj,rfl⟩:=List.getElem_of_mem ho
    rw[List.length_take]at hj
    have:=List.pairwise_iff_getElem.1 a2 j i (by omega) hi (by omega)
    rw[List.getElem_take]at g3
    omega
  ·rcases(Ed hi).1 ho with ho | rfl
   ·have:=g1 o ho
    exact⟨this.1,by have:=this.2;omega⟩
   ·exact⟨⟨hc.1.1.1.1,hc.1.1.1.2,by omega,by omega⟩,Int.le_refl _⟩
  ·rw[List.take_succ_eq_append_getElem hi]
   unfold QC
   rw[List.pairwise_append]
   refine⟨g2,by simp,fun a ha b hb=> ?_⟩
   rw[List.mem_singleton]at hb
   subst hb
   have:=(g1 a ha).2
   omega
 ·rintro⟨x,q⟩ hx
  simp only[kT]
  rw[dN (by rw[jl];simp),au]
  simp only[List.take_length]at hx
  exact hx
 ·rintro w hw
  cases w with
  |inl b=>
   obtain⟨rfl,hn⟩:=hw
   simp only[qQ,au]
   exact⟨fun h=>(by cases h),fun h=>absurd ⟨h.ords,h.asc⟩ hn⟩
  |inr v=>
   obtain⟨g1,g2,g3⟩:=hw
   have gl:v.1<=s.last/\0<=s.last↔(∀o∈s.orders,o.id<=s.last)/\0<=s.last:=by
    constructor
    ·rintro⟨a,b⟩;exact⟨fun o ho=>by have:=(g1 o ho).2;omega,b⟩
    ·rintro⟨a,b⟩
     refine⟨?_,b⟩
     rcases g3 with g3 | ⟨o,ho,g3⟩
     ·omega
     ·have:=a o ho;omega
   have hF:aiK s↔(v.1<=s.last/\s.last<=1000000000000/\0<=s.seq/\s.seq<=1000000000/\0<=s.lsn/\s.lsn<=1000000000)/\(∀x∈s.limits,OE x)/\(∀x∈s.caps,0<=x)/\0<=s.last:=by
    constructor
    ·intro h
     have:=gl.2 ⟨h.ids,h.last.1⟩
     exact⟨⟨this.1,h.last.2,h.seq.1,h.seq.2,h.lsn.1,h.lsn.2⟩,h.lims,h.caps,h.last.1⟩
    ·rintro⟨⟨a1,a2,a3,a4,a5,a6⟩,b,c,d⟩
     exact⟨fun o ho=>(g1 o ho).1,g2,(gl.1 ⟨a1,d⟩).1,⟨d,a2⟩,⟨a3,a4⟩,⟨a5,a6⟩,b,c⟩
   rw[hF]
   obtain⟨m,hm,hmq⟩:=Rx h3 h0
   simp only[qQ,hm,LY,ap0,aj]
   simp only[bF,dh,dV,eX,bI,bP,dP,eP,dm,fB,bK,bJ,fC,fD]
   by_cases hA:v.1<=s.last/\s.last<=1000000000000/\0<=s.seq/\s.seq<=1000000000/\0<=s.lsn/\s.lsn<=1000000000
   ·have hA':((((v.fst<=s.last/\s.last<=1000000000000)/\0<=s.seq)/\s.seq<=1000000000)/\0<=s.lsn)/\s.lsn<=1000000000:=⟨⟨⟨⟨⟨hA.1,hA.2.1⟩,hA.2.2.1⟩,hA.2.2.2.1⟩,hA.2.2.2.2.1⟩,hA.2.2.2.2.2⟩
    rw[if_pos hA']
    refine Wq.bind (Q:=fun w:Int ⊕ Int=>match w with | .inl k=>0<=k/\¬∀x∈s.limits,OE x | .inr _=>∀x∈s.limits,OE x)
     (pF (n:=s.limits.length) (step:=fun v:Int×Int=>bH (len s.limits) s.limits v.fst v.snd) (by omega) (fun i _=>∀x∈s.limits.take i,OE x) _ ?_ ?_ _ 0 (Nat.zero_le _) (by simp)) ?_
    ·rintro i x hi hx
     simp only[bH]
     rw[aI (by rw[jl];simpa using hi),aI (inb _ i hi),bQ _ i hi,aaV,aj]
     simp only[jW,au,bI,bP,decide_eq_true_eq,decide_eq_false_iff_not]
     refine⟨fun h=>⟨by omega,fun h2=>h (h2 _ (List.getElem_mem _))⟩,fun h=>⟨fE (by omega),fun x hx'=> ?_⟩⟩
     rcases(Ed hi).1 hx' with h5 | rfl
     ·exact hx x h5
     ·exact h
    ·rintro x hx
     simp only[bH]
     rw[dN (by rw[jl];simp),au]
     rwa[List.take_length]at hx
    ·rintro w hw
     cases w with
     |inl k=>
      obtain⟨hk,hn⟩:=hw
      simp only
      rw[if_neg (fun h=>by omega),au]
      simp only[bF,dh,dV,eX,bI,bP,dP,eP,dm,fB,bK,bJ,fC,fD]
      constructor
      ·rintro⟨⟨⟨_,h⟩,_⟩,_⟩;omega
      ·rintro⟨_,h,_⟩;exact absurd h hn
     |inr k=>
      simp only
      rw[if_pos (.inl hA'),au]
      simp only[bF,dh,dV,eX,bI,bP,dP,eP,dm,fB,bK,bJ,fC,fD]
      constructor
      ·rintro⟨⟨_,h1⟩,h2⟩;exact⟨hA,hw,hmq.1 h1,h2⟩
      ·rintro⟨_,_,h1,h2⟩;exact⟨⟨.inl hA',hmq.2 h1⟩,h2⟩
   ·have hA':¬(((((v.fst<=s.last/\s.last<=1000000000000)/\0<=s.seq)/\s.seq<=1000000000)/\0<=s.lsn)/\s.lsn<=1000000000):=by omega
    rw[if_neg hA',if_neg (by simpa using hA'),au]
    simp only[bF,dh,dV,eX,bI,bP,dP,eP,dm,fB,bK,bJ,fC,fD]
    constructor
    ·rintro⟨⟨h | h,_⟩,_⟩
     ·exact absurd h hA'
     ·cases h
    ·rintro⟨h,_⟩;exact absurd h hA
def lJ (a b:aK):aK:=⟨a.pos+b.pos,a.buy+b.buy,a.sell+b.sell,a.opn+b.opn⟩
def zC:aK:=⟨0,0,0,0⟩
def wC (o:aA):aK:=if o.side=2 then ⟨0,0,lX o,ji o⟩else ⟨0,lX o,0,ji o⟩
def inC (n i:Int) (o:aA):aK:=if atZ n o=i then wC o else zC
def mF (n i:Int):List aA->aK
 |[]=>zC
 |o::r=>lJ (inC n i o) (mF n i r)
theorem BR {a b:aK} (h1:a.pos=b.pos) (h2:a.buy=b.buy) (h3:a.sell=b.sell) (h4:a.opn=b.opn):a=b:=by
 cases a;cases b;simp_all
theorem JI (a:aK):lJ a zC=a:=by apply BR<;>simp [lJ,zC]
theorem apv (a:aK):lJ zC a=a:=by apply BR<;>simp [lJ,zC]
theorem aiX (a b:aK):lJ a b=lJ b a:=by apply BR<;>simp only[lJ]<;>omega
theorem Df (a b c:aK):lJ (lJ a b) c=lJ a (lJ b c):=by apply BR<;>simp only[lJ]<;>omega
theorem Uk (c:aK) (o:aA):qR c o=lJ c (wC o):=by unfold qR wC;split<;>simp [lJ]
theorem qh (n i:Int):∀(l m:List aA),mF n i (l++m)=lJ (mF n i l) (mF n i m)
 |[],m=>(apv _).symm
 |o::l,m=>by
  rw[List.cons_append,mF,mF,qh n i l m,Df]
theorem OB (n i:Int) (o:aA):mF n i [o]=inC n i o:=JI _
theorem Hw (n i:Int) (l:List aA) (k:Nat) (h:k<l.length):mF n i l=lJ (lJ (mF n i (l.take k)) (mF n i (l.drop (k+1)))) (inC n i l[k]):=by
 have e:l=l.take k++(l[k]::l.drop (k+1)):=by rw[<-List.drop_eq_getElem_cons h,List.take_append_drop]
 have:mF n i l=mF n i (l.take k++(l[k]::l.drop (k+1))):=by rw[<-e]
 rw[this,qh,mF,Df,aiX (inC n i l[k])]
theorem ZP (n i:Int) (l:List aA) (k:Nat) (h:k<l.length) (p:aA):mF n i (l.set k p)=lJ (lJ (mF n i (l.take k)) (mF n i (l.drop (k+1)))) (inC n i p):=by
 have h1:(l.set k p).take k=l.take k:=List.take_set_of_le (Nat.le_refl _)
 have h2:(l.set k p).drop (k+1)=l.drop (k+1):=List.drop_set_of_lt (by omega)
 have h3:(l.set k p)[k]'(by simpa using h)=p:=List.getElem_set_self _
 rw[Hw n i (l.set k p) k (by simpa using h),h1,h2,h3]
theorem Yt (n i:Int) (l:List aA) (k:Nat) (h:k<l.length):mF n i (l.eraseIdx k)=lJ (mF n i (l.take k)) (mF n i (l.drop (k+1))):=by
 rw[List.eraseIdx_eq_take_drop_succ,qh]
def nnC (c:aK):Prop:=c.pos=0/\0<=c.buy/\0<=c.sell/\0<=c.opn
theorem amA {o:aA} (h:vS o) (hr:fV o):nnC (wC o):=by
 have:=Gp h hr
 have:=Gs h
 unfold wC nnC;split<;>simp<;>omega
theorem apX (n i:Int) {o:aA} (h:vS o) (hr:fV o):nnC (inC n i o):=by
 unfold inC;split
 ·exact amA h hr
 ·simp [nnC,zC]
theorem ad5 {a b:aK} (h1:nnC a) (h2:nnC b):nnC (lJ a b):=by
 unfold nnC lJ at *; simp only;omega
theorem Jz (n i:Int):∀ {l:List aA},(∀o∈l,vS o/\fV o)->nnC (mF n i l)
 |[],_=>by simp [mF,nnC,zC]
 |o::l,h=>ad5 (apX n i (h o (by simp)).1 (h o (by simp)).2) (Jz n i fun x hx=>h x (by simp [hx]))
def XD (c:aK):Prop:=c.buy<=9223372036854775807/\c.sell<=9223372036854775807/\c.opn<=9223372036854775807
theorem aah {c:aK} (h:nnC c) (hf:XD c):okC c:=by
 obtain⟨h0,h1,h2,h3⟩:=h
 obtain⟨f1,f2,f3⟩:=hf
 rw[JB,h0]
 unfold inI
 omega
theorem abQ {c:aK} (h:okC c):XD c:=⟨h.1.buy.2,h.1.sell.2,h.1.opn.2⟩
theorem ale {a b:aK} (hb:nnC b) (h:XD (lJ a b)):XD a:=by
 unfold XD lJ nnC at *; simp only at *; omega
def fitAll (s:ai):Prop:=∀j:Nat,j<s.cells.length->XD (mF s.symbols j s.orders)
theorem V5 {α:Type} (l:List α) (k:Nat) (x:α) (j:Nat) (h:j<(aY l (itn (k:Int)) x).length):(aY l (itn (k:Int)) x)[j]=if k=j then x else l[j]'(by simpa [aY] using h):=by
 simp [aY,itn,List.getElem_set]
theorem alX {s:ai} (hs:sK s) (hk:∀o∈s.orders,BM s o/\fV o):
 Wq (ou s) fun r=>(r.2=true↔fitAll s)/\(r.2=true->r.1.length=s.cells.length/\∀(j:Nat) (h:j<r.1.length),r.1[j]=mF s.symbols j s.orders):=by
 obtain⟨hc,_,_,hol⟩:=hs.lens
 unfold ou
 rw[aI (by simp only[bF,dm,len];omega)]
 refine Wq.bind (Q:=fun w:(Bool×List aK×List aK) ⊕ (Bool×List aK×List aK)=>match w with
  |.inl b=>b.1=false/\¬fitAll s
  |.inr b=>b.2.2.length=s.cells.length/\∀(j:Nat) (h:j<b.2.2.length),b.2.2[j]=mF s.symbols j s.orders/\XD b.2.2[j])
  (pF (n:=s.orders.length) (step:=fun v:Int×Bool×List aK×List aK=>jH (len s.orders) s.orders s v.fst v.snd.fst v.snd.snd.fst v.snd.snd.snd) (by omega)
    (fun i x=>x.2.2.length=s.cells.length/\∀(j:Nat) (h:j<x.2.2.length),x.2.2[j]=mF s.symbols j (s.orders.take i)/\XD x.2.2[j]) _ ?_ ?_ _ 0 (Nat.zero_le _) ?_) ?_
 ·rintro i ⟨q,x,y⟩ hi ⟨hx,hy⟩
  simp only at hx hy
  simp only[jH]
  have hmem:=hk s.orders[i] (List.getElem_mem _)
  obtain⟨⟨ho,ho3,g1,g2⟩,hor⟩:=id hmem
  obtain⟨⟨_,hb1,hb2,_⟩,_⟩:=id ho
  obtain⟨k,k1,k2,k3⟩:=KE hs s.orders[i].account s.orders[i].symbol hb1.1 g1 hb2.1 g2
  have hky:k<y.length:=by omega
  have hnn:nnC y[k]:=by
   rw[(hy k hky).1]
   exact Jz _ _ fun o h=>⟨(hk o (List.mem_of_mem_take h)).1.1,(hk o (List.mem_of_mem_take h)).2⟩
  have hok:okC y[k]:=aah hnn (hy k hky).2
  have hnew:nnC (qR y[k] s.orders[i]):=by rw[Uk];exact ad5 hnn (amA ho hor)
  have hsum:∀j:Nat,mF s.symbols j (s.orders.take (i+1))=lJ (mF s.symbols j (s.orders.take i)) (inC s.symbols j s.orders[i]):=fun j=>by
   rw[List.take_succ_eq_append_getElem hi,qh,OB]
  have hat:atZ s.symbols s.orders[i]=(k:Int):=k2.symm
  have hkk:qR y[k] s.orders[i]=mF s.symbols k (s.orders.take (i+1)):=by
   rw[hsum,Uk,(hy k hky).1]
   unfold inC;rw[if_pos hat]
  rw[aI (by rw[jl];simpa using hi),aI (inb _ i hi),bQ _ i hi,k1,aj,aI (inb y k hky),bQ y k hky,Eu hok ho hor,aj]
  by_cases hf:okC (qR y[k] s.orders[i])
  ·rw[if_pos hf]
   simp only[o7,bC,bn]
   rw[aI (inb y k hky),au]
   refine⟨fE (by omega),(rZ _ _ _).trans hx,fun j hj=> ?_⟩
   have hj':j<y.length:=by simpa [aY] using hj
   show(aY y (itn (k:Int)) (qR y[k] s.orders[i]))[j]'hj=_/\XD ((aY y (itn (k:Int)) (qR y[k] s.orders[i]))[j]'hj)
   rw[V5]
   split
   ·rename_i e;subst e
    exact⟨hkk,abQ hf⟩
   ·rename_i e
    rw[hsum j]
    unfold inC
    rw[if_neg (by omega),JI]
    exact hy j hj'
  ·rw[if_neg hf]
   simp only[zY,bZ,bG]
   rw[au]
   refine⟨rfl,fun hall=>hf (aah hnew ?_)⟩
   rw[hkk]
   have e:mF s.symbols k s.orders=lJ (mF s.symbols k (s.orders.take (i+1))) (mF s.symbols k (s.orders.drop (i+1))):=by
    rw[<-qh,List.take_append_drop]
   have:=hall k k3
   rw[e]at this
   exact ale (Jz _ _ fun o h=>⟨(hk o (List.mem_of_mem_drop h)).1.1,(hk o (List.mem_of_mem_drop h)).2⟩) this
 ·rintro⟨q,x,y⟩ hx
  simp only[jH]
  rw[dN (by rw[jl];simp),au]
  simp only[List.take_length]at hx
  exact hx
 ·simp only[List.take_zero,mF]
  refine⟨by simp [iQ,itn,len],fun j hj=> ?_⟩
  simp only[iQ,List.getElem_replicate]
  exact⟨rfl,by simp only[XD];decide⟩
 ·rintro w hw
  cases w with
  |inl b=>
   obtain⟨h1,h2⟩:=hw
   simp only[qQ,au,h1]
   exact⟨⟨fun h=>(by cases h),fun h=>absurd h h2⟩,fun h=>by cases h⟩
  |inr b=>
   obtain⟨h1,h2⟩:=hw
   simp only[qQ,au]
   refine⟨⟨fun _ j hj=> ?_,fun _=>trivial⟩,fun _=>⟨h1,fun j hj=>(h2 j hj).1⟩⟩
   have:=h2 j (by omega)
   rw[<-this.1];exact this.2
def dA (s:ai) (l:List aA):List aK:=s.cells.mapIdx fun i c=>lJ ⟨c.pos,0,0,0⟩ (mF s.symbols i l)
theorem gq (s:ai) (l:List aA):(dA s l).length=s.cells.length:=by simp [dA]
theorem kR (s:ai) (l:List aA) (i:Nat) (h:i<(dA s l).length):(dA s l)[i]=lJ ⟨(s.cells[i]'(by simpa [dA] using h)).pos,0,0,0⟩ (mF s.symbols i l):=by
 simp [dA]
def aal (n m:Int) (cs:List aK):Prop:=∀a:Int,0<=a->a<n->pO (rQ m cs a)<=9223372036854775807
structure gu (s:ai):Prop where
 sized:sK s
 fine:aiK s
 cells:s.cells=dA s s.orders
 ok:∀c∈s.cells,okC c
 acct:aal s.accounts s.symbols s.cells
theorem BQ (s:ai) (hr:iF s) (hl:s.orders.length<999999) (h2:s.limits.length<999999) (h3:s.caps.length<999999):
 Wq (lW s) fun b=>b=true↔gu s:=by
 unfold lW sV
 rw[xM]
 refine Wq.bind (QD s) fun z hz=> ?_
 refine Wq.bind (Q:=fun b=>b=true↔(z=true/\aiK s)) ?_ ?_
 ·rw[jW]
  refine⟨fun h=> ?_,fun h=>(au _).2 ?_⟩
  ·simp only[bI,bP]at h
   have hs:sK s:=hz.1 h
   refine(apl s hl h2 h3 ?_).mono fun b hb=>by rw[hb];simp [h]
   intro e
   have:=hs.2.2.2.2.1
   have:=hs.1.1
   simp [e,len]at*
   omega
  ·simp only[bI,bP]at h
   simp [h]
 ·intro f hf
  rw[jW]
  refine⟨fun h=>(au _).2 ((au _).2 ?_),fun h=> ?_⟩
  ·simp only[dV,bI]at h
   refine⟨fun h=>(by cases h),fun hr=> ?_⟩
   have e1:=hz.2 hr.sized
   have e2:=hf.2 ⟨e1,hr.fine⟩
   rw[e1,e2]at h
   simp at h
  ·simp only[eX,bP]at h
   have hs:=hz.1 h.1
   have hfn:=(hf.1 h.2).2
   obtain⟨hc,hlim,hcap,hol⟩:=hs.lens
   have hall:∀o∈s.orders,BM s o/\fV o:=fun o ho=>⟨hfn.ords o ho,hr.orders.1 o ho⟩
   have hokc:∀c∈s.cells,zQ c:=hr.cells.1
   refine Wq.bind (alX hs hall) fun y hy=> ?_
   obtain⟨hy1,hy2⟩:=hy
   rw[jW]
   refine⟨fun h5=>(au _).2 ((au _).2 ?_),fun h5=> ?_⟩
   ·rw[bI]at h5
    refine⟨fun h=>(by cases h),fun hR=> ?_⟩
    have:y.2=true:=hy1.2 fun j hj=>by
     have e:=hR.ok s.cells[j] (List.getElem_mem _)
     have e2:s.cells[j]=lJ ⟨s.cells[j].pos,0,0,0⟩ (mF s.symbols j s.orders):=by
      have:=kR s s.orders j (by rw[gq];exact hj)
      rw[<-this]
      congr 1
      exact hR.cells
     have e3:=abQ e
     rw[e2]at e3
     unfold XD lJ at e3
     simpa [XD] using e3
    rw[this]at h5;cases h5
   ·rw[bP]at h5
    obtain⟨hyl,hyg⟩:=hy2 h5
    refine Wq.bind (Q:=fun w:(Bool×List aK) ⊕ (Bool×List aK)=>match w with
     |.inl b=>b.1=false/\¬((∀c∈s.cells,okC c)/\s.cells=dA s s.orders)
     |.inr _=>(∀c∈s.cells,okC c)/\s.cells=dA s s.orders)
     (pF (n:=s.cells.length) (step:=fun v:Int×Bool×List aK=>jI (len s.cells) s.cells v.fst v.snd.fst v.snd.snd) (by omega)
     (fun i x=>x.2.length=s.cells.length/\(∀(j:Nat) (h:j<x.2.length),i<=j->x.2[j]=mF s.symbols j s.orders)/\∀(j:Nat) (h:j<s.cells.length),j<i->okC s.cells[j]/\s.cells[j]=lJ ⟨s.cells[j].pos,0,0,0⟩ (mF s.symbols j s.orders)) _ ?_ ?_ _ 0 (Nat.zero_le _)
     ⟨hyl,fun j hj _=>hyg j hj,fun j _ h=>by omega⟩) ?_
    ·rintro i ⟨q,x⟩ hi ⟨hx,hxj,hxd⟩
     simp only at hx hxj hxd
     simp only[jI]
     have hix:i<x.length:=by omega
     rw[aI (by rw[jl];simpa using hi),aI (inb _ i hi),aI (inb x i hix),bQ _ i hi,bQ x i hix,lq (hokc _ (List.getElem_mem _)),aj]
     have hil:i<(aY x (itn (i:Int)) (aK.mk s.cells[i].pos x[i].buy x[i].sell x[i].opn)).length:=by rw[rZ];exact hix
     rw[aI (by rw[dV];exact .inl (inb _ i hil)),bQ _ i hil]
     have hg:(aY x (itn (i:Int)) (aK.mk s.cells[i].pos x[i].buy x[i].sell x[i].opn))[i]=aK.mk s.cells[i].pos x[i].buy x[i].sell x[i].opn:=by
      simp [aY,itn]
     rw[hg]
     have hxi:=hxj i hix (Nat.le_refl _)
     have hq:lJ ⟨s.cells[i].pos,0,0,0⟩ (mF s.symbols i s.orders)=aK.mk s.cells[i].pos x[i].buy x[i].sell x[i].opn:=by
      rw[<-hxi]
      have hp:x[i].pos=0:=by rw[hxi];exact(Jz _ _ fun o h=>⟨(hall o h).1.1,(hall o h).2⟩).1
      apply BR<;>simp only[lJ]<;>omega
     simp only[jW,au,bF,dh,dV,eX,bI,bP,dP,eP,dm,fB,bK,bJ,fC,fD]
     constructor
     ·intro hb
      refine⟨trivial,fun⟨a1,a2⟩=> ?_⟩
      have b1:=a1 s.cells[i] (List.getElem_mem _)
      have b2:s.cells[i]=lJ ⟨s.cells[i].pos,0,0,0⟩ (mF s.symbols i s.orders):=by
       have:=kR s s.orders i (by rw[gq];exact hi)
       rw[<-this];congr 1
      rw[hq]at b2
      rcases hb with hb | hb
      ·exact absurd b1 (by simpa using hb)
      ·have c2:=congrArg aK.buy b2;have c3:=congrArg aK.sell b2;have c4:=congrArg aK.opn b2
       simp only at c2 c3 c4
       rcases hb with hb | hb | hb | hb
       ·exact hb rfl
       ·exact hb c2.symm
       ·exact hb c3.symm
       ·exact hb c4.symm
     ·intro hb
      obtain⟨b1,_,b2,b3,b4⟩:=hb
      refine⟨fE (by omega),(rZ _ _ _).trans hx,fun j hj hij=> ?_,fun j hj hji=> ?_⟩
      ·rw[V5,if_neg (by omega)]
       exact hxj j (by simpa [aY] using hj) (by omega)
      ·by_cases e:j=i
       ·subst e
        refine⟨by simpa using b1,?_⟩
        rw[hq]
        exact BR rfl b2.symm b3.symm b4.symm
       ·exact hxd j hj (by omega)
    ·rintro⟨q,x⟩ ⟨hx,_,hxd⟩
     simp only[jI]
     rw[dN (by rw[jl];simp),au]
     refine⟨fun c hc=> ?_,?_⟩
     ·obtain⟨j,hj,rfl⟩:=List.getElem_of_mem hc
      exact(hxd j hj hj).1
     ·refine List.ext_getElem (gq _ _).symm fun j h1 h2=> ?_
      rw[kR]
      exact(hxd j h1 h1).2
    ·rintro w hw
     cases w with
     |inl b=>
      obtain⟨h1,h2⟩:=hw
      simp only[qQ,au,h1]
      exact⟨fun h=>(by cases h),fun hR=>absurd ⟨hR.ok,hR.cells⟩ h2⟩
     |inr b=>
      obtain⟨hok,hcs⟩:=hw
      simp only[qQ]
      rw[xM]
      have hacc:∀a:Int,∀c∈rQ s.symbols s.cells a,0<=c.opn/\inI c.opn:=fun a c hc=>by
       have:=hok c (Vb hc)
       exact⟨this.2.1.2.2,this.1.opn⟩
      refine Wq.mono (Q:=fun w:Bool ⊕ Bool=>match w with | .inl b=>b=false/\¬aal s.accounts s.symbols s.cells | .inr _=>aal s.accounts s.symbols s.cells)
       (pF (n:=s.accounts.toNat) (step:=fun v:Int×Bool=>jK s.accounts s v.fst v.snd) (by have:=hs.1.2;omega)
       (fun i x=>∀a:Int,0<=a->a<i->pO (rQ s.symbols s.cells a)<=9223372036854775807) _ ?_ ?_ _ 0 (Nat.zero_le _) (fun a h1 h2=>by omega)) ?_
      ·rintro i q hi hx
       have hia:(i:Int)<s.accounts:=by omega
       simp only[jK]
       rw[aI (CX hia),Vr hs i (by omega) hia,aj,JU (by have:=VY (n:=s.symbols) (cs:=s.cells) (a:=(i:Int));omega) (hacc i),aj]
       by_cases hw:pO (rQ s.symbols s.cells i)<=9223372036854775807
       ·rw[if_pos hw]
        simp only[o7,bC,bn,au]
        refine⟨fE (by omega),fun a h1 h2=> ?_⟩
        by_cases e:a=i
        ·subst e;exact hw
        ·exact hx a h1 (by omega)
       ·rw[if_neg hw]
        simp only[zY,bZ,bG,au]
        exact⟨trivial,fun h=>hw (h i (by omega) hia)⟩
      ·rintro q hx
       simp only[jK]
       rw[dN (BD (by omega)),au]
       exact fun a h1 h2=>hx a h1 (by omega)
      ·rintro w hw
       cases w with
       |inl b=>
        obtain⟨rfl,h2⟩:=hw
        simp only[au]
        exact⟨fun h=>(by cases h),fun hR=>absurd hR.acct h2⟩
       |inr b=>
        simp only[au]
        exact⟨fun _=>⟨hs,hfn,hcs,hok,hw⟩,fun _=>trivial⟩
def Ij (o:aA):aA:=⟨o.id,o.account,o.symbol,o.side,o.qty,o.price,o.filled,3,0,0,o.version,o.asked⟩
def KQ (o:aA):aA:=⟨o.id,o.account,o.symbol,o.side,o.qty,o.price,o.filled,o.phase,0,0,o.version,o.asked⟩
def kH (r:mQ):aA:=⟨r.order,r.account,r.symbol,r.side,r.qty,r.price,0,1,0,0,0,false⟩
def zM (o:aA):Prop:=o.phase=2/\¬xk o/\o.asked=false/\o.version<9223372036854775807
instance (o:aA):Decidable (zM o):=by unfold zM;infer_instance
def wU (o:aA) (q p:Int):aA:=⟨o.id,o.account,o.symbol,o.side,o.qty,o.price,o.filled,o.phase,q,p,o.version+1,o.asked⟩
def aoo (o:aA):aA:=⟨o.id,o.account,o.symbol,o.side,o.qty,o.price,o.filled,o.phase,o.newQty,o.newPrice,o.version,true⟩
def WV (o:aA) (f:Int):aA:=⟨o.id,o.account,o.symbol,o.side,o.qty,o.price,f,o.phase,o.newQty,o.newPrice,o.version,o.asked⟩
def WA (o:aA) (f:Int):aA:=⟨o.id,o.account,o.symbol,o.side,o.qty,o.price,o.filled,f,o.newQty,o.newPrice,o.version,o.asked⟩
def abU (o:aA) (q p:Int):aA:=⟨o.id,o.account,o.symbol,o.side,q,p,o.filled,o.phase,0,0,o.version,o.asked⟩
def QS (o:aA) (what q p:Int):Option aA:=
 if o.phase=1 then (if what=1 then some (WA o 2)else if what=2 then some (Ij o)else none)
 else if o.phase=2 then
  if what=3 then (if o.qty - o.filled<q then none else if o.filled+q<o.qty then some (WV o (o.filled+q))else some (Ij (WV o (o.filled+q))))
  else if what=4 then some (Ij o)
  else if what=5 then (if xk o/\q=o.newQty/\p=o.newPrice/\o.filled<q then some (abU o q p)else none)
  else if what=6 then (if xk o then some (KQ o)else none)
  else none
 else none
theorem aa3 {r:mQ} (h:EP r) (hk:r.kind=1):wL r=some (kH r,0):=by
 unfold wL
 obtain⟨b,e,q⟩:=Jk r
 rw[e,q.2 h,hk]
 rfl
theorem YJ {o:aA} {q p:Int} (h:vS o) (hr:fV o) (hq:1<=q) (hp:1<=p):
 Wq (tK o q p) fun r=>(zM o->r=(wU o q p,0))/\(¬zM o->r.2≠0):=by
 have hv:=hr.version
 unfold tK
 rw[oM hv (by decide),aj,nV,aj,decide_eq_true h,bC,bn,dN (BD (by omega)),dN (BD (by omega))]
 unfold inI at hv
 by_cases hm:o.version+1<=9223372036854775807
 ·rw[if_pos ⟨by omega,hm⟩]
  simp only[o7,bC,bn]
  unfold ax
  rw[Ky ⟨by omega,hm⟩,EW,aj]
  simp only[xM,jW,au,bF,dh,dV,eX,bI,bP,dP,eP,dm,fB,bK,bJ,fC,fD,true_implies,ne_eq,not_true_eq_false,false_implies,and_true,true_and,or_self,reduceCtorEq]
  unfold zM
  refine⟨fun h1=>⟨fun _=>⟨fun h2=>absurd h2.1 h1,fun _=>by decide⟩,fun h2=>absurd h2 h1⟩,fun h1=>⟨fun h2=>⟨fun _=>⟨fun h3=>absurd (by simpa using h2) h3.2.1,fun _=>by decide⟩,fun h3=>by rw[h2]at h3;cases h3⟩,fun h2=> ?_⟩⟩
  have h2:¬xk o:=by simpa using h2
  refine⟨fun h3=>⟨fun h4=>(by rw[h4.2.2.1]at h3;cases h3),fun _=>by decide⟩,fun h3=>⟨fun _=>rfl,fun h4=>absurd ⟨h1,h2,h3,by omega⟩ h4⟩⟩
 ·rw[if_neg (by unfold inI;omega)]
  simp only[zY,bZ,bG,au]
  exact⟨fun h2=>(by have:=h2.2.2.2;omega),fun _=>by decide⟩
theorem afa {o:aA} (h:vS o) (h3:o.phase≠3):Bg o=some (if o.asked=true then (o,8)else (aoo o,0)):=by
 unfold Bg
 rw[nV,aj,decide_eq_true h,bC,bn,dN (by rw[bJ];exact h3),LY]
 split<;>rfl
def aev (n:zl):mQ:=⟨6,n.order,0,0,0,n.qty,n.price,0,0,0,false,n.seq,n.what⟩
theorem LX (o:aA):yF o=some (Ij o):=rfl
theorem adz (o:aA) (n:zl):Ce o n=some (if n.what=1 then (WA o 2,true)else if n.what=2 then (Ij o,true)else (o,false)):=by
 unfold Ce
 rw[LX,aj,kQ,kQ]
 split
 ·rfl
 ·split<;>rfl
theorem acS {o:aA} {n:zl} (h:vS o) (hr:fV o) (hp:o.phase=2) (hn:n.what=3->1<=n.qty/\inI n.qty):
 Wq (BZ o n) fun r=>match QS o n.what n.qty n.price with | some p=>r=(p,true) | none=>r.2=false:=by
 have hq:=hr.qty;have hf:=hr.filled
 have h1:=h.2.1;have h2:=h.2.2.1
 unfold inI at hq hf
 unfold BZ QS
 rw[if_neg (by omega),if_pos hp]
 unfold aG ax
 rw[Ky (n:=o.qty - o.filled) ⟨by omega,by omega⟩]
 by_cases k3:n.what=3
 ·obtain⟨g1,g2⟩:=hn k3
  unfold inI at g2
  rw[if_pos k3,aI (by rw[bK];exact k3),jW]
  refine⟨fun h4=> ?_,fun h4=> ?_⟩
  ·rw[dP]at h4
   rw[if_pos h4,au]
  ·rw[eP]at h4
   rw[if_neg (by omega),Ky ⟨by omega,by omega⟩,jW]
   refine⟨fun h5=> ?_,fun h5=> ?_⟩
   ·rw[dP]at h5
    rw[if_pos h5,au];rfl
   ·rw[eP]at h5
    rw[if_neg (by omega),LX,aj,au];rfl
 rw[if_neg k3,dN (by rw[bJ];exact k3)]
 by_cases k4:n.what=4
 ·rw[if_pos k4,aI (by rw[bK];exact k4),LX,aj,au]
 rw[if_neg k4,dN (by rw[bJ];exact k4)]
 by_cases k5:n.what=5
 ·rw[if_pos k5,aI (by rw[bK];exact k5),EW,aj,jW]
  refine⟨fun hb=> ?_,fun hb=> ?_⟩
  ·simp only[bF,dh,dV,eX,bI,bP,dP,eP,dm,fB,bK,bJ,fC,fD,decide_eq_false_iff_not]at hb
   rw[if_neg (by rintro⟨a1,a2,a3,a4⟩;rcases hb with ((hb | hb) | hb) | hb;exact hb a1;exact hb a2;exact hb a3;omega),au]
  ·simp only[bF,dh,dV,eX,bI,bP,dP,eP,dm,fB,bK,bJ,fC,fD,decide_eq_true_eq]at hb
   rw[if_pos ⟨hb.1.1.1,hb.1.1.2,hb.1.2,by omega⟩]
   exact(au _).2 rfl
 rw[if_neg k5,dN (by rw[bJ];exact k5)]
 by_cases k6:n.what=6
 ·rw[if_pos k6,aI (by rw[bK];exact k6),EW]
  by_cases hb:xk o
  ·rw[if_pos hb,decide_eq_true hb];exact(au _).2 rfl
  ·rw[if_neg hb,decide_eq_false hb];exact(au _).2 rfl
 rw[if_neg k6,dN (by rw[bJ];exact k6),au]
theorem adN {o:aA} {n:zl} (h:vS o) (hr:fV o) (hn:EP (aev n)) (hi:n.order=o.id) (hq:inI n.qty):
 yE o n=some (match QS o n.what n.qty n.price with | some p=>(p,0) | none=>(o,8)):=by
 refine Wq.eq ?_
 unfold yE
 obtain⟨b,e,q⟩:=Jk (aev n)
 rw[nV,aj,decide_eq_true h,bC,bZ,bG,show F9 n=some (aev n)from rfl,aj,bG,e,q.2 hn,aj,bC,ig,ig,dN (by rw[bP,bK];exact hi),jW]
 refine⟨fun h1=> ?_,fun h1=> ?_⟩
 ·rw[bK]at h1
  rw[adz,aj]
  unfold QS
  rw[if_pos h1]
  by_cases k1:n.what=1
  ·simp only[if_pos k1];exact(au _).2 rfl
  ·by_cases k2:n.what=2
   ·simp only[if_neg k1,if_pos k2];exact(au _).2 rfl
   ·simp only[if_neg k1,if_neg k2];exact(au _).2 rfl
 ·rw[bJ]at h1
  rw[jW]
  refine⟨fun h2=> ?_,fun h2=> ?_⟩
  ·rw[bK]at h2
   refine Wq.bind (acS h hr h2 fun k3=> ?_) fun y hy=> ?_
   ·unfold EP aev at hn
    simp only at hn
    refine⟨?_,hq⟩
    omega
   ·rw[jW]
    cases ht:QS o n.what n.qty n.price with
    |none=>
     simp only[ht]at hy
     rw[hy]
     exact⟨fun _=>(au _).2 rfl,fun h=>(by cases h)⟩
    |some p=>
     simp only[ht]at hy
     rw[hy]
     exact⟨fun h=>(by cases h),fun _=>(au _).2 rfl⟩
  ·rw[bJ]at h2
   rw[au]
   unfold QS
   rw[if_neg h1,if_neg h2]
def YS (s:ai) (l:List aA):ai:=⟨s.accounts,s.symbols,l,dA s l,s.limits,s.caps,s.kill,s.last,s.seq,s.lsn⟩
def agr (s:ai):Prop:=(∀c∈s.cells,okC c)/\aal s.accounts s.symbols s.cells
def Zz (was now:ai) (a y:Int):Prop:=
 G7 (ofC (ah was.cells (itn (a*was.symbols+y)))) (ofC (ah now.cells (itn (a*was.symbols+y)))) (ah was.limits (itn (a*was.symbols+y)))\/
 aa5 (pO (rQ was.symbols was.cells a)) (pO (rQ was.symbols now.cells a)) (ah was.caps (itn a))
instance (s t:ai) (a y:Int):Decidable (Zz s t a y):=by unfold Zz;infer_instance
open Classical in
noncomputable def Y2 (s t:ai) (a y:Int):ai×Int:=
 if ¬agr t then (s,3)else if Zz s t a y then (s,4)else (⟨t.accounts,t.symbols,t.orders,t.cells,t.limits,t.caps,t.kill,t.last,t.seq,t.lsn+1⟩,0)
def aj3 (s:ai) (o:aA) (q:Int):List aK:=
 aY s.cells (itn (atZ s.symbols o)) ⟨if o.side=1 then (ah s.cells (itn (atZ s.symbols o))).pos+q else (ah s.cells (itn (atZ s.symbols o))).pos - q,(ah s.cells (itn (atZ s.symbols o))).buy,(ah s.cells (itn (atZ s.symbols o))).sell,(ah s.cells (itn (atZ s.symbols o))).opn⟩
def evS (s:ai) (r:mQ) (k:Nat) (p:aA):ai:=
 let o:=ah s.orders k
 let s':ai:=⟨s.accounts,s.symbols,s.orders,if r.what=3 then aj3 s o r.qty else s.cells,s.limits,s.caps,s.kill,s.last,r.seq,s.lsn+1⟩
 YS s' (if p.phase=3 then s.orders.eraseIdx k else aY s.orders k p)
def Un (s:ai) (r:mQ):Prop:=gu s/\EP r/\s.lsn<1000000000/\r.account<s.accounts/\r.symbol<s.symbols/\(r.kind=1->s.last<r.order)
open Classical in
noncomputable def doS (s:ai) (r:mQ):ai×Int:=
 if ¬Un s r then (s,1)
 else if r.kind=1 then
  if s.kill=true then (s,5)else if s.orders.length=64 then (s,6)
  else Y2 s ⟨s.accounts,s.symbols,jc s.orders [kH r],dA s (jc s.orders [kH r]),s.limits,s.caps,s.kill,r.order,s.seq,s.lsn⟩ r.account r.symbol
 else if r.kind=2 then
  match Gz s.orders r.order with
  |none=>(s,7)
  |some k=>
   if ¬zM (ah s.orders k)then (s,8)else if s.kill=true then (s,5)
   else Y2 s (YS s (aY s.orders k (wU (ah s.orders k) r.qty r.price))) (ah s.orders k).account (ah s.orders k).symbol
 else if r.kind=3 then
  match Gz s.orders r.order with
  |none=>(s,7)
  |some k=>if (ah s.orders k).asked=true then (s,8)else (⟨s.accounts,s.symbols,aY s.orders k (aoo (ah s.orders k)),s.cells,s.limits,s.caps,s.kill,s.last,s.seq,s.lsn+1⟩,0)
 else if r.kind=4 then
  if r.symbol= -1 then (⟨s.accounts,s.symbols,s.orders,s.cells,s.limits,aY s.caps (itn r.account) r.opn,s.kill,s.last,s.seq,s.lsn+1⟩,0)
  else (⟨s.accounts,s.symbols,s.orders,s.cells,aY s.limits (itn (r.account*s.symbols+r.symbol)) ⟨r.long,r.short,r.opn⟩,s.caps,s.kill,s.last,s.seq,s.lsn+1⟩,0)
 else if r.kind=5 then (⟨s.accounts,s.symbols,s.orders,s.cells,s.limits,s.caps,r.on,s.last,s.seq,s.lsn+1⟩,0)
 else if r.seq≠s.seq+1 then (s,11)
 else match Gz s.orders r.order with
  |none=>(⟨s.accounts,s.symbols,s.orders,s.cells,s.limits,s.caps,s.kill,s.last,r.seq,s.lsn+1⟩,0)
  |some k=>match QS (ah s.orders k) r.what r.qty r.price with
   |none=>(⟨s.accounts,s.symbols,s.orders,s.cells,s.limits,s.caps,s.kill,s.last,r.seq,s.lsn+1⟩,0)
   |some p=>(evS s r k p,0)
theorem ao1 {n:Int} (h1:0<=n) (h2:n<1000000000):wr .i64 (ax n 1)=n+1:=by unfold ax;exact dI (by omega) (by omega)
theorem ady {s:ai} (hs:sK s) {o:aA} (h:BM s o):∃k:Nat,aX s o.account o.symbol=some (k:Int)/\atZ s.symbols o=(k:Int)/\k<s.cells.length:=by
 obtain⟨ho,_,g1,g2⟩:=h
 obtain⟨⟨_,hb1,hb2,_⟩,_⟩:=id ho
 obtain⟨k,k1,k2,k3⟩:=KE hs o.account o.symbol hb1.1 g1 hb2.1 g2
 exact⟨k,k1,k2.symm,k3⟩
theorem agp {s:ai} (hR:gu s) (l:List aA) (k:Nat) (hk:k<s.cells.length) (c:aK) (hc:c=lJ ⟨s.cells[k].pos,0,0,0⟩ (mF s.symbols k l))
 (ho:∀j:Nat,j≠k->mF s.symbols j l=mF s.symbols j s.orders):dA s l=s.cells.set k c:=by
 refine List.ext_getElem (by rw[gq,List.length_set]) fun j h1 h2=> ?_
 rw[kR,List.getElem_set]
 have hj:j<s.cells.length:=by simpa [dA] using h1
 split
 ·rename_i e;subst e;exact hc.symm
 ·rename_i e
  rw[ho j (by omega),<-kR s s.orders j (by rw[gq];exact hj)]
  congr 1
  exact hR.cells.symm
theorem cell_of {s:ai} (hR:gu s) (k:Nat) (hk:k<s.cells.length):s.cells[k]=lJ ⟨s.cells[k].pos,0,0,0⟩ (mF s.symbols k s.orders):=by
 have:=kR s s.orders k (by rw[gq];exact hk)
 rw[<-this];congr 1;exact hR.cells
theorem agk {n:Int} {o:aA} {k:Nat} (h:atZ n o=(k:Int)):inC n k o=wC o:=by unfold inC;rw[if_pos h]
theorem Yj {n:Int} {o:aA} {k j:Nat} (h:atZ n o=(k:Int)) (hj:j≠k):inC n j o=zC:=by unfold inC;rw[if_neg (by omega)]
theorem ao3 {s:ai} (hR:gu s) (o:aA) (k:Nat) (hk:k<s.cells.length) (ha:atZ s.symbols o=(k:Int)):dA s (s.orders++[o])=s.cells.set k (qR s.cells[k] o):=by
 refine agp hR _ k hk _ ?_ fun j hj=> ?_
 ·rw[qh,OB,agk ha,<-Df,<-cell_of hR k hk,Uk]
 ·rw[qh,OB,Yj ha hj,JI]
theorem amT {c:aK} {o:aA} {d:aK} (h:c=lJ d (wC o)):sS c o=d:=by
 subst h
 unfold sS wC lJ
 split<;>apply BR<;>simp only<;>omega
def Yo (s:ai) (m k:Nat):aK:=lJ (lJ (mF s.symbols k (s.orders.take m)) (mF s.symbols k (s.orders.drop (m+1)))) zC
theorem PU {s:ai} (hR:gu s) (m:Nat) (hm:m<s.orders.length) (k:Nat) (hk:k<s.cells.length) (ha:atZ s.symbols s.orders[m]=(k:Int)):
 sS s.cells[k] s.orders[m]=lJ ⟨s.cells[k].pos,0,0,0⟩ (Yo s m k):=by
 refine amT ?_
 have h:=cell_of hR k hk
 rw[Hw s.symbols k s.orders m hm,agk ha]at h
 unfold Yo
 rw[JI,Df]
 exact h
theorem ana {s:ai} (hk:∀o∈s.orders,vS o/\fV o) (m k:Nat):nnC (Yo s m k):=by
 unfold Yo
 rw[JI]
 exact ad5 (Jz _ _ fun o h=>hk o (List.mem_of_mem_take h)) (Jz _ _ fun o h=>hk o (List.mem_of_mem_drop h))
theorem akE {s:ai} (hR:gu s) (m:Nat) (hm:m<s.orders.length) (p:aA) (k:Nat) (hk:k<s.cells.length) (ha:atZ s.symbols s.orders[m]=(k:Int)) (hp:atZ s.symbols p=(k:Int)):
 dA s (s.orders.set m p)=s.cells.set k (qR (sS s.cells[k] s.orders[m]) p):=by
 refine agp hR _ k hk _ ?_ fun j hj=> ?_
 ·rw[PU hR m hm k hk ha,ZP s.symbols k s.orders m hm,agk hp,Uk]
  unfold Yo
  rw[JI,Df]
 ·rw[ZP s.symbols j s.orders m hm,Hw s.symbols j s.orders m hm,Yj hp hj,Yj ha hj]
theorem aoL {s:ai} (hR:gu s) (m:Nat) (hm:m<s.orders.length) (k:Nat) (hk:k<s.cells.length) (ha:atZ s.symbols s.orders[m]=(k:Int)):
 dA s (s.orders.eraseIdx m)=s.cells.set k (sS s.cells[k] s.orders[m]):=by
 refine agp hR _ k hk _ ?_ fun j hj=> ?_
 ·rw[PU hR m hm k hk ha,Yt s.symbols k s.orders m hm]
  unfold Yo
  rw[JI]
 ·rw[Yt s.symbols j s.orders m hm,Hw s.symbols j s.orders m hm,Yj ha hj,JI]
theorem agP {s:ai} (hR:gu s) (hr:iF s) (m:Nat) (hm:m<s.orders.length) (k:Nat) (hk:k<s.cells.length) (ha:atZ s.symbols s.orders[m]=(k:Int)):okC (sS s.cells[k] s.orders[m]):=by
 have hall:∀o∈s.orders,vS o/\fV o:=fun o h=>⟨(hR.fine.ords o h).1,hr.orders.1 o h⟩
 have hm':=hall s.orders[m] (List.getElem_mem _)
 have h1:=hR.ok s.cells[k] (List.getElem_mem _)
 rw[PU hR m hm k hk ha]
 have h2:=ana hall m k
 have h3:=amA hm'.1 hm'.2
 have h4:s.cells[k]=lJ (lJ ⟨s.cells[k].pos,0,0,0⟩ (Yo s m k)) (wC s.orders[m]):=by
  have:=PU hR m hm k hk ha
  rw[<-this]
  unfold sS wC lJ
  split<;>apply BR<;>simp only<;>omega
 rw[JB]at h1 ⊢
 have b1:=congrArg aK.buy h4;have b2:=congrArg aK.sell h4;have b3:=congrArg aK.opn h4
 unfold nnC at h2 h3
 unfold inI at*
 simp only[lJ]at*
 omega
theorem aiJ {n:Int} {cs:List aK} (h:∀c∈cs,okC c) (a:Int):∀c∈rQ n cs a,0<=c.opn/\inI c.opn:=fun c hc=>by
 have:=h c (Vb hc)
 exact⟨this.2.1.2.2,this.1.opn⟩
theorem alf {n:Int} (hn:0<=n) {cs:List aK} {k:Nat} {c:aK} {a y b:Int} (ha:0<=a) (hy:0<=y) (hy2:y<n) (hk:(k:Int)=a*n+y) (hb:0<=b) (hab:b≠a):rQ n (cs.set k c) b=rQ n cs b:=by
 unfold rQ
 rcases Int.lt_or_gt_of_ne hab with h | h
 ·have h1:(b+1)*n<=a*n:=Int.mul_le_mul_of_nonneg_right (by omega) hn
  have h2:(b+1)*n=b*n+n:=by rw[Int.add_mul,Int.one_mul]
  have h3:0<=b*n:=Int.mul_nonneg hb hn
  rw[List.drop_set]
  rw[if_neg (by omega),List.take_set_of_le (by omega)]
 ·have h1:(a+1)*n<=b*n:=Int.mul_le_mul_of_nonneg_right (by omega) hn
  have h2:(a+1)*n=a*n+n:=by rw[Int.add_mul,Int.one_mul]
  rw[List.drop_set_of_lt (by omega)]
theorem ah0 {s t:ai} (hR:gu s) (hn1:t.accounts=s.accounts) (hn2:t.symbols=s.symbols) {k:Nat} {c:aK} {a y:Int} (ha:0<=a) (ha2:a<s.accounts) (hy:0<=y) (hy2:y<s.symbols) (hk:(k:Int)=a*s.symbols+y) (hkl:k<s.cells.length)
 (hc:t.cells=s.cells.set k c):agr t↔okC c/\pO (rQ s.symbols t.cells a)<=9223372036854775807:=by
 unfold agr aal
 rw[hn1,hn2]
 constructor
 ·rintro⟨h1,h2⟩
  refine⟨h1 c ?_,h2 a ha ha2⟩
  rw[hc];exact List.mem_set hkl _
 ·rintro⟨h1,h2⟩
  refine⟨fun d hd=> ?_,fun b hb hb2=> ?_⟩
  ·rw[hc]at hd
   rcases List.mem_or_eq_of_mem_set hd with hd | rfl
   ·exact hR.ok d hd
   ·exact h1
  ·by_cases e:b=a
   ·subst e;exact h2
   ·rw[hc,alf (by omega) ha hy hy2 hk hb e]
    exact hR.acct b hb hb2
theorem am4 {s t:ai} (hR:gu s) (ht:sK t) (hn1:t.accounts=s.accounts) (hn2:t.symbols=s.symbols) (hl:t.limits=s.limits) (hcp:t.caps=s.caps) (hok:∀c∈t.cells,okC c) {k:Nat} {a y:Int} (ha:0<=a) (ha2:a<s.accounts) (hy:0<=y) (hy2:y<s.symbols) (hk:(k:Int)=a*s.symbols+y) (hkl:k<s.cells.length):
 dO t s a y=some (if ¬pO (rQ s.symbols t.cells a)<=9223372036854775807 then 3 else if Zz s t a y then 4 else 0):=by
 have hs:=hR.sized
 obtain⟨l1,l2,l3,l4⟩:=hs.lens
 obtain⟨m1,m2,m3,m4⟩:=ht.lens
 have hcl:t.cells.length=s.cells.length:=by
  have:=ht.2.2.1;have:=hs.2.2.1
  rw[hn1,hn2]at*
  simp only[len]at *; omega
 obtain⟨k',e1,e2,e3⟩:=KE ht a y ha (by omega) hy (by omega)
 have hkk:k'=k:=by rw[hn2]at e2;omega
 subst hkk
 have hkt:k'<t.cells.length:=by omega
 have hkm:k'<t.limits.length:=by omega
 have ln1:=VY (n:=s.symbols) (cs:=s.cells) (a:=a)
 have ln2:=VY (n:=s.symbols) (cs:=t.cells) (a:=a)
 unfold dO
 rw[e1,aj,Vr ht a ha (by omega),aj,hn2,JU (by omega) (aiJ hok a),aj]
 by_cases hw:pO (rQ s.symbols t.cells a)<=9223372036854775807
 ·rw[if_pos hw,if_neg (by simpa using hw)]
  simp only[o7,bC,bn]
  rw[Vr hs a ha ha2,aj,JU (by omega) (aiJ hR.ok a),aj,if_pos (hR.acct a ha ha2),aI (inb _ k' hkl),bQ _ k' hkl,acF (hR.ok _ (List.getElem_mem _)),aj,
   aI (inb _ k' hkt),bQ _ k' hkt,acF (hok _ (List.getElem_mem _)),aj,aI (inb _ k' hkm),bQ _ k' hkm,X5,aj]
  have hac:band (ile 0 a) (ilt a (len t.caps))=true:=zX (kF ha) (CX (by simp only[len];omega))
  rw[aI (by rw[dV];exact .inl hac),lM,KX,Ik]
  have hst:Zz s t a y↔G7 (ofC s.cells[k']) (ofC t.cells[k']) t.limits[k']\/aa5 (pO (rQ s.symbols s.cells a)) (pO (rQ s.symbols t.cells a)) (ah t.caps (itn a)):=by
   unfold Zz
   rw[<-hk,bQ _ k' hkl,bQ _ k' hkt,bQ _ k' (by omega),hcp]
   simp only[hl]
  by_cases hx:G7 (ofC s.cells[k']) (ofC t.cells[k']) t.limits[k']
  ·rw[if_pos hx,aj,decide_eq_true hx,xq,bG,if_pos (hst.2 (.inl hx))]
  ·rw[if_neg hx,aj,decide_eq_false hx,ig,KX]
   by_cases hz:aa5 (pO (rQ s.symbols s.cells a)) (pO (rQ s.symbols t.cells a)) (ah t.caps (itn a))
   ·rw[if_pos hz,if_pos (hst.2 (.inr hz))]
   ·rw[if_neg hz,if_neg fun h=>(hst.1 h).elim hx hz]
 ·rw[if_neg hw,if_pos hw]
  simp only[zY,bZ,bG]
theorem amo {l:List aA} {i:Nat} (hi:i<l.length) (hl:l.length<1000):gm l i (wr .i64 (ax i 1))=some (l.eraseIdx i):=by
 rw[fE (by omega)]
 unfold gm
 have e1:aC (aH l (itn ((i+1:Nat):Int))) (itn (aG (len l) ((i+1:Nat):Int)))=l.drop (i+1):=by
  simp only[aC,aH,itn,aG,len,Int.toNat_natCast]
  rw[List.take_of_length_le (by simp;omega)]
 rw[e1]
 have e2:nad (itn (i:Int)) (itn (len (l.drop (i+1))))=l.length - 1:=by simp [nad,itn,len];omega
 simp only[e2]
 have e3:(eu l (itn (i:Int)) (l.drop (i+1))).length=l.length:=by simp [eu,itn];omega
 rw[aI (by simp only[bF,dm,len];omega),dN (by rw[bJ];omega),aI (by simp only[bF,dm,len];omega),aI (by simp only[bF,dm,len];omega),
  aI (by simp only[dm,len,nti,itn,ax,List.length_drop,Int.toNat_natCast];omega),aI (by simp only[bF,dm,len,nti,aG,e3];omega)]
 congr 1
 simp only[aC,aH,eu,itn,nad,nti,len,aG,Int.toNat_natCast,List.drop_zero,Nat.zero_add]
 rw[List.eraseIdx_eq_take_drop_succ]
 have e4:(l.take i++(l.drop (i+1)++l.drop (i+(l.drop (i+1)).length))).take (l.length - 1)=l.take i++l.drop (i+1):=by
  rw[<-List.append_assoc,List.take_append_of_le_length (by simp;omega),List.take_of_length_le (by simp;omega)]
 rw[e4,List.take_append_of_le_length (by simp;omega),List.take_of_length_le (by simp;omega)]
structure alz (o p:aA) (what q:Int):Prop where
 ord:vS p
 rng:fV p
 id:p.id=o.id
 account:p.account=o.account
 symbol:p.symbol=o.symbol
 side:p.side=o.side
 opn:lX p+(if what=3 then q else 0)<=lX o
 worth:ji p<=ji o
 phase:p.phase=2\/p.phase=3
theorem amw {o:aA} (h:vS o):vS (Ij o):=by
 obtain⟨h1,h2,h3,h4,h5,h6⟩:=h
 exact⟨h1,h2,h3,h4,fun h=>by simp [xk,Ij]at h,.inr (.inr ⟨rfl,by simp [xk,Ij]⟩)⟩
theorem akW {o:aA} (h:fV o):fV (Ij o):=⟨h.id,h.account,h.symbol,h.side,h.qty,h.price,h.filled,(by decide:inI 3),(by decide:inI 0),(by decide:inI 0),h.version⟩
theorem PX (o:aA):lX (Ij o)=0/\ji (Ij o)=0:=⟨rfl,rfl⟩
theorem abV {o:aA} {what q:Int} (h:vS o) (hr:fV o) (hq:what=3->q<=lX o):alz o (Ij o) what q:=by
 have:=Gp h hr
 have:=Gs h
 refine⟨amw h,akW hr,rfl,rfl,rfl,rfl,?_,by rw[(PX o).2];omega,.inr rfl⟩
 rw[(PX o).1]
 split
 ·rename_i h3;have:=hq h3;omega
 ·omega
theorem OQ {o:aA} (h:o.phase≠3):lX o=max o.qty o.newQty - o.filled:=by unfold lX;rw[if_neg h]
theorem Ar {o:aA} (h:o.phase≠3):ji o=if o.newQty<=o.filled then (o.qty - o.filled)*o.price else max ((o.qty - o.filled)*o.price) ((o.newQty - o.filled)*o.newPrice):=by unfold ji;rw[if_neg h]
theorem aex {a b c:Int} (h:a<=b) (hc:0<=c):a*c<=b*c:=Int.mul_le_mul_of_nonneg_right h hc
theorem ahb {o p:aA} {what q pr:Int} (h:vS o) (hr:fV o) (ht:QS o what q pr=some p) (h3:what=3->1<=q) (h5:what=5->1<=q/\1<=pr) (rq:inI q) (rp:inI pr):alz o p what q:=by
 obtain⟨g1,g2,g3,g4,g5,g6⟩:=id h
 have hb1:=g1.2.2.2.2.1
 have hb2:=g1.2.2.2.2.2
 have r1:=hr.qty;have r2:=hr.filled;have r3:=hr.newQty;have r4:=hr.newPrice
 unfold inI at r1 r2 r3
 unfold QS at ht
 by_cases p1:o.phase=1
 ·rw[if_pos p1]at ht
  have hp:o.filled=0/\o.version=0/\¬xk o:=by
   rcases g6 with g | g | g
   ·exact g.2
   ·omega
   ·omega
  by_cases k1:what=1
  ·rw[if_pos k1]at ht
   cases ht
   refine⟨⟨g1,g2,g3,g4,g5,.inr (.inl ⟨rfl,by show o.filled<o.qty;omega⟩)⟩,⟨hr.id,hr.account,hr.symbol,hr.side,hr.qty,hr.price,hr.filled,(by decide:inI 2),hr.newQty,hr.newPrice,hr.version⟩,rfl,rfl,rfl,rfl,?_,?_,.inl rfl⟩
   ·have e1:lX (WA o 2)=max o.qty o.newQty - o.filled:=OQ (o:=WA o 2) (by show(2:Int)≠3;decide)
    rw[if_neg (by omega),e1,OQ (o:=o) (by omega)];omega
   ·have e1:ji (WA o 2)=if o.newQty<=o.filled then (o.qty - o.filled)*o.price else max ((o.qty - o.filled)*o.price) ((o.newQty - o.filled)*o.newPrice):=Ar (o:=WA o 2) (by show(2:Int)≠3;decide)
    rw[e1,Ar (o:=o) (by omega)];exact Int.le_refl _
  ·rw[if_neg k1]at ht
   by_cases k2:what=2
   ·rw[if_pos k2]at ht
    cases ht
    exact abV h hr fun h=>by omega
   ·rw[if_neg k2]at ht;cases ht
 ·rw[if_neg p1]at ht
  by_cases p2:o.phase=2
  ·rw[if_pos p2]at ht
   have hlt:o.filled<o.qty:=by rcases g6 with g | g | g<;>omega
   by_cases k3:what=3
   ·rw[if_pos k3]at ht
    have hq1:=h3 k3
    by_cases c1:o.qty - o.filled<q
    ·rw[if_pos c1]at ht;cases ht
    ·rw[if_neg c1]at ht
     have hoo:lX o=max o.qty o.newQty - o.filled:=by unfold lX;rw[if_neg (by omega)]
     have hfl:vS (WV o (o.filled+q))\/¬(o.filled+q<o.qty):=by
      by_cases c2:o.filled+q<o.qty
      ·exact .inl ⟨g1,by show 0<=o.filled+q;omega,by show o.filled+q<=o.qty;omega,g4,g5,.inr (.inl ⟨p2,c2⟩)⟩
      ·exact .inr c2
     by_cases c2:o.filled+q<o.qty
     ·rw[if_pos c2]at ht
      cases ht
      refine⟨hfl.resolve_right (by omega),⟨hr.id,hr.account,hr.symbol,hr.side,hr.qty,hr.price,⟨by show _<=o.filled+q;omega,by show o.filled+q<=_;omega⟩,hr.phase,hr.newQty,hr.newPrice,hr.version⟩,rfl,rfl,rfl,rfl,?_,?_,.inl p2⟩
      ·have e1:lX (WV o (o.filled+q))=max o.qty o.newQty - (o.filled+q):=OQ (o:=WV o (o.filled+q)) (by show o.phase≠3;omega)
       rw[if_pos k3,hoo,e1];omega
      ·have e1:ji (WV o (o.filled+q))=if o.newQty<=o.filled+q then (o.qty - (o.filled+q))*o.price else max ((o.qty - (o.filled+q))*o.price) ((o.newQty - (o.filled+q))*o.newPrice):=Ar (o:=WV o (o.filled+q)) (by show o.phase≠3;omega)
       rw[e1,Ar (o:=o) (by omega)]
       have m1:(o.qty - (o.filled+q))*o.price<=(o.qty - o.filled)*o.price:=aex (by omega) (by omega)
       by_cases n1:o.newQty<=o.filled
       ·rw[if_pos n1,if_pos (by omega)];exact m1
       ·have hnp:=ah2 h (by omega)
        have m2:(o.newQty - (o.filled+q))*o.newPrice<=(o.newQty - o.filled)*o.newPrice:=aex (by omega) (by omega)
        rw[if_neg n1]
        split<;>omega
     ·rw[if_neg c2]at ht
      cases ht
      have hod:vS (Ij (WV o (o.filled+q))):=by
       refine⟨g1,by show 0<=o.filled+q;omega,by show o.filled+q<=o.qty;omega,g4,fun h=>by simp [xk,Ij]at h,.inr (.inr ⟨rfl,by simp [xk,Ij]⟩)⟩
      refine⟨hod,⟨hr.id,hr.account,hr.symbol,hr.side,hr.qty,hr.price,⟨by show _<=o.filled+q;omega,by show o.filled+q<=_;omega⟩,(by decide:inI 3),(by decide:inI 0),(by decide:inI 0),hr.version⟩,rfl,rfl,rfl,rfl,?_,by rw[(PX _).2];exact Gs h,.inr rfl⟩
      rw[(PX _).1,if_pos k3,hoo];omega
   ·rw[if_neg k3]at ht
    by_cases k4:what=4
    ·rw[if_pos k4]at ht
     cases ht
     exact abV h hr fun h=>by omega
    ·rw[if_neg k4]at ht
     have hoo:lX o=max o.qty o.newQty - o.filled:=by unfold lX;rw[if_neg (by omega)]
     by_cases k5:what=5
     ·rw[if_pos k5]at ht
      by_cases c1:xk o/\q=o.newQty/\pr=o.newPrice/\o.filled<q
      ·rw[if_pos c1]at ht
       cases ht
       obtain⟨c1,c2,c3,c4⟩:=c1
       obtain⟨h51,h52⟩:=h5 k5
       refine⟨⟨⟨g1.1,g1.2.1,g1.2.2.1,g1.2.2.2.1,h51,h52⟩,g2,by show o.filled<=q;omega,g4,fun h=>by simp [xk,abU]at h,.inr (.inl ⟨p2,c4⟩)⟩,⟨hr.id,hr.account,hr.symbol,hr.side,rq,rp,hr.filled,hr.phase,(by decide:inI 0),(by decide:inI 0),hr.version⟩,rfl,rfl,rfl,rfl,?_,?_,.inl p2⟩
       ·have e1:lX (abU o q pr)=max q 0 - o.filled:=OQ (o:=abU o q pr) (by show o.phase≠3;omega)
        rw[if_neg k3,hoo,e1];omega
       ·have e1:ji (abU o q pr)=if 0<=o.filled then (q - o.filled)*pr else max ((q - o.filled)*pr) ((0 - o.filled)*0):=Ar (o:=abU o q pr) (by show o.phase≠3;omega)
        rw[e1,Ar (o:=o) (by omega),if_pos g2,if_neg (by omega),c2,c3];exact Int.le_max_right _ _
      ·rw[if_neg c1]at ht;cases ht
     ·rw[if_neg k5]at ht
      by_cases k6:what=6
      ·rw[if_pos k6]at ht
       by_cases c1:xk o
       ·rw[if_pos c1]at ht
        cases ht
        refine⟨⟨g1,g2,g3,g4,fun h=>by simp [xk,KQ]at h,.inr (.inl ⟨p2,hlt⟩)⟩,⟨hr.id,hr.account,hr.symbol,hr.side,hr.qty,hr.price,hr.filled,hr.phase,(by decide:inI 0),(by decide:inI 0),hr.version⟩,rfl,rfl,rfl,rfl,?_,?_,.inl p2⟩
        ·have e1:lX (KQ o)=max o.qty 0 - o.filled:=OQ (o:=KQ o) (by show o.phase≠3;omega)
         rw[if_neg k3,hoo,e1];omega
        ·have e1:ji (KQ o)=if 0<=o.filled then (o.qty - o.filled)*o.price else max ((o.qty - o.filled)*o.price) ((0 - o.filled)*0):=Ar (o:=KQ o) (by show o.phase≠3;omega)
         rw[e1,Ar (o:=o) (by omega),if_pos g2]
         split
         ·exact Int.le_refl _
         ·exact Int.le_max_left _ _
       ·rw[if_neg c1]at ht;cases ht
      ·rw[if_neg k6]at ht;cases ht
  ·rw[if_neg p2]at ht;cases ht
theorem abM {r:mQ} (h:EP r) (hk:r.kind=1):vS (kH r)/\BM ⟨8,8,[],[],[],[],false,0,0,0⟩ (kH r):=by
 unfold EP yO at h
 have h1:PE (kH r):=by unfold PE kH;simp only;omega
 have h2:¬xk (kH r):=by simp [xk,kH]
 have h3:vS (kH r):=⟨h1,Int.le_refl _,by have:=h1.2.2.2.2.1;show 0<=(kH r).qty;omega,Int.le_refl _,fun h=>absurd h h2,.inl ⟨rfl,rfl,rfl,h2⟩⟩
 exact⟨h3,h3,by simp [kH],h1.2.1.2,h1.2.2.1.2⟩
theorem acD {r:mQ} (h:Jc r):fV (kH r):=⟨h.order,h.account,h.symbol,h.side,h.qty,h.price,(by decide:inI 0),(by decide:inI 1),(by decide:inI 0),(by decide:inI 0),(by decide:inI 0)⟩
theorem aau {o:aA} {q p:Int} (h:vS o) (hc:zM o) (hq:1<=q) (hp:1<=p):vS (wU o q p):=by
 obtain⟨g1,g2,g3,g4,g5,g6⟩:=id h
 obtain⟨c1,c2,c3,c4⟩:=hc
 exact⟨g1,g2,g3,by show 0<=o.version+1;omega,fun _=>⟨hq,hp⟩,.inr (.inl ⟨c1,by rcases g6 with g | g | g<;>(show o.filled<o.qty)<;>omega⟩)⟩
theorem ZO {o:aA} {q p:Int} (h:fV o) (hc:zM o) (hq:inI q) (hp:inI p):fV (wU o q p):=by
 have:=h.version
 obtain⟨c1,c2,c3,c4⟩:=hc
 unfold inI at this
 exact⟨h.id,h.account,h.symbol,h.side,h.qty,h.price,h.filled,h.phase,hq,hp,⟨by show _<=o.version+1;omega,by show o.version+1<=_;omega⟩⟩
theorem anY {o:aA} (h:fV o):fV (aoo o):=⟨h.id,h.account,h.symbol,h.side,h.qty,h.price,h.filled,h.phase,h.newQty,h.newPrice,h.version⟩
theorem ae7 {l:List aA} (h:l.length<1000000):eU l=some l:=DI h
theorem agc {l:List aK} (h:l.length<1000000):fA l=some l:=DI h
theorem ag9 {l:List dD} (h:l.length<1000000):eY l=some l:=DI h
theorem ae6 {l:List Int} (h:l.length<1000000):gG l=some l:=DI h
theorem yT {s t:ai} (hs:sK s) (h1:t.accounts=s.accounts) (h2:t.symbols=s.symbols) (h3:t.cells.length=s.cells.length) (h4:t.limits.length=s.limits.length) (h5:t.caps.length=s.caps.length) (h6:t.orders.length<=64):sK t:=by
 obtain⟨a1,a2,a3,a4,a5,a6⟩:=hs
 unfold sK
 simp only[len]at*
 rw[h1,h2,h3,h4,h5]
 exact⟨a1,a2,a3,a4,a5,h6⟩
theorem aoy {s t:ai} (hR:gu s) (ht:sK t) (hn1:t.accounts=s.accounts) (hn2:t.symbols=s.symbols) (hl:t.limits=s.limits) (hcp:t.caps=s.caps) {k:Nat} {c:aK} {a y:Int} (ha:0<=a) (ha2:a<s.accounts) (hy:0<=y) (hy2:y<s.symbols) (hk:(k:Int)=a*s.symbols+y) (hkl:k<s.cells.length)
 (hc:t.cells=s.cells.set k c) (hc2:okC c):
 Wq (dO t s a y) fun e=>cnd (aF (ieq e 0)) (some (s,e)) (some (⟨t.accounts,t.symbols,t.orders,t.cells,t.limits,t.caps,t.kill,t.last,t.seq,t.lsn+1⟩,0))=some (Y2 s t a y):=by
 have hok:∀d∈t.cells,okC d:=fun d hd=>by
  rw[hc]at hd
  rcases List.mem_or_eq_of_mem_set hd with hd | rfl
  ·exact hR.ok d hd
  ·exact hc2
 rw[am4 hR ht hn1 hn2 hl hcp hok ha ha2 hy hy2 hk hkl,au]
 have hf:=ah0 hR hn1 hn2 ha ha2 hy hy2 hk hkl hc
 unfold Y2
 by_cases hw:pO (rQ s.symbols t.cells a)<=9223372036854775807
 ·rw[if_neg (c:=¬agr t) (fun h=>h (hf.2 ⟨hc2,hw⟩)),if_neg (c:=¬pO (rQ s.symbols t.cells a)<=9223372036854775807) (fun h=>h hw)]
  by_cases hst:Zz s t a y
  ·rw[if_pos hst,if_pos hst];rfl
  ·rw[if_neg hst,if_neg hst];rfl
 ·rw[if_pos (c:=¬agr t) (fun h=>hw (hf.1 h).2),if_pos (c:=¬pO (rQ s.symbols t.cells a)<=9223372036854775807) hw];rfl
theorem ahy {s t:ai} (hR:gu s) (hn1:t.accounts=s.accounts) (hn2:t.symbols=s.symbols) {k:Nat} {c:aK} {a y:Int} (ha:0<=a) (ha2:a<s.accounts) (hy:0<=y) (hy2:y<s.symbols) (hk:(k:Int)=a*s.symbols+y) (hkl:k<s.cells.length)
 (hc:t.cells=s.cells.set k c) (hc2:¬okC c):Y2 s t a y=(s,3):=by
 unfold Y2
 rw[if_pos fun h=>hc2 ((ah0 hR hn1 hn2 ha ha2 hy hy2 hk hkl hc).1 h).1]
theorem YL (n i:Int):∀(l:List aA),(mF n i l).pos=0
 |[]=>rfl
 |o::l=>by
  have h:=YL n i l
  have:(inC n i o).pos=0:=by unfold inC wC;split<;>(try split)<;>rfl
  simp only[mF,lJ,h,this];rfl
theorem afD {s s':ai} (hsym:s'.symbols=s.symbols) {k:Nat} (hk:k<s.cells.length) {c d:aK} (hc:s'.cells=s.cells.set k d) {l:List aA} (hE:dA s l=s.cells.set k c):
 dA s' l=s.cells.set k ⟨d.pos,c.buy,c.sell,c.opn⟩:=by
 have e0:dA s' l=(s.cells.set k d).mapIdx fun i c=>lJ ⟨c.pos,0,0,0⟩ (mF s.symbols i l):=by unfold dA;rw[hsym,hc]
 rw[e0]
 refine List.ext_getElem (by simp) fun j h1 h2=> ?_
 have hj:j<s.cells.length:=by simpa using h1
 rw[List.getElem_mapIdx,List.getElem_set,List.getElem_set]
 have hj2:(dA s l)[j]'(by rw[gq];exact hj)=(s.cells.set k c)[j]'(by simpa using hj):=by simp only[hE]
 rw[kR,List.getElem_set]at hj2
 by_cases e:k=j
 ·subst e
  rw[if_pos rfl,if_pos rfl]
  rw[if_pos rfl]at hj2
  rw[<-hj2]
  have:=YL s.symbols k l
  apply BR<;>simp only[lJ]<;>omega
 ·rw[if_neg e,if_neg e]
  rw[if_neg e]at hj2
  exact hj2
theorem akQ {α:Type} (l:List α) (k:Nat) (a b:α):(l.set k a).set k b=l.set k b:=by simp
theorem P9 {α:Type} (l:List α) (k:Nat) (x:α):aY l (itn (k:Int)) x=l.set k x:=by simp [aY,itn]
theorem Tf {α:Type} (l:List α) (k:Nat) (x:α):aY l k x=l.set k x:=rfl
theorem zG {α:Type} [Inhabited α] (l:List α) (k:Nat) (h:k<l.length):ah l k=l[k]:=by simp [ah,h]
theorem aiW (l:List aA) (k:Nat) (p:aA):(l.set k p).eraseIdx k=l.eraseIdx k:=by
 simp [List.eraseIdx_set_eq]
theorem akH {c:aK} {p:aA} (h:p.phase=3):qR c p=c:=by
 have h1:lX p=0:=by unfold lX;rw[if_pos h]
 have h2:ji p=0:=by unfold ji;rw[if_pos h]
 unfold qR;rw[h1,h2];split<;>simp
theorem akj (c:aK) (o:aA):(qR c o).pos=c.pos:=by unfold qR;split<;>rfl
theorem akG (c:aK) (o:aA):(sS c o).pos=c.pos:=by unfold sS;split<;>rfl
theorem adF {s:ai} (hR:gu s) (hr:iF s) (m:Nat) (hm:m<s.orders.length) (k:Nat) (hk:k<s.cells.length) (ha:atZ s.symbols s.orders[m]=(k:Int)) {p:aA} {what q:Int} (hp:alz s.orders[m] p what q) (hq:what=3->1<=q):
 okC (qR (sS s.cells[k] s.orders[m]) p)/\(what=3->okC ⟨if s.orders[m].side=1 then s.cells[k].pos+q else s.cells[k].pos - q,(qR (sS s.cells[k] s.orders[m]) p).buy,(qR (sS s.cells[k] s.orders[m]) p).sell,(qR (sS s.cells[k] s.orders[m]) p).opn⟩):=by
 have h0:=agP hR hr m hm k hk ha
 have h1:=hR.ok s.cells[k] (List.getElem_mem _)
 have ho:=(hR.fine.ords _ (List.getElem_mem hm)).1
 have hs:=ho.1.2.2.2.1
 have hro:=hr.orders.1 _ (List.getElem_mem hm)
 have b1:=Gp hp.ord hp.rng
 have b2:=Gs hp.ord
 have b3:=hp.opn
 have b4:=hp.worth
 have b5:=hp.side
 rw[JB]at h0 h1
 by_cases e:s.orders[m].side=2
 ·have ea:qR (sS s.cells[k] s.orders[m]) p=⟨s.cells[k].pos,s.cells[k].buy,s.cells[k].sell - lX s.orders[m]+lX p,s.cells[k].opn - ji s.orders[m]+ji p⟩:=by
   unfold qR sS;rw[b5,if_pos e,if_pos e]
  have es:sS s.cells[k] s.orders[m]=⟨s.cells[k].pos,s.cells[k].buy,s.cells[k].sell - lX s.orders[m],s.cells[k].opn - ji s.orders[m]⟩:=by unfold sS;rw[if_pos e]
  rw[ea,if_neg (by omega)]
  rw[es]at h0
  refine⟨?_,fun h3=> ?_⟩
  ·rw[JB];unfold inI at *; simp only at *; split at b3<;>omega
  ·rw[if_pos h3]at b3
   have:=hq h3
   rw[JB];unfold inI at *; simp only at *; omega
 ·have ea:qR (sS s.cells[k] s.orders[m]) p=⟨s.cells[k].pos,s.cells[k].buy - lX s.orders[m]+lX p,s.cells[k].sell,s.cells[k].opn - ji s.orders[m]+ji p⟩:=by
   unfold qR sS;rw[b5,if_neg e,if_neg e]
  have es:sS s.cells[k] s.orders[m]=⟨s.cells[k].pos,s.cells[k].buy - lX s.orders[m],s.cells[k].sell,s.cells[k].opn - ji s.orders[m]⟩:=by unfold sS;rw[if_neg e]
  rw[ea,if_pos (by omega)]
  rw[es]at h0
  refine⟨?_,fun h3=> ?_⟩
  ·rw[JB];unfold inI at *; simp only at *; split at b3<;>omega
  ·rw[if_pos h3]at b3
   have:=hq h3
   rw[JB];unfold inI at *; simp only at *; omega
theorem afw {s:ai} (hR:gu s) (m:Nat) (hm:m<s.orders.length) (k:Nat) (hk:k<s.cells.length) (ha:atZ s.symbols s.orders[m]=(k:Int)) {p:aA} (hp:atZ s.symbols p=(k:Int)):
 dA s (if p.phase=3 then s.orders.eraseIdx m else s.orders.set m p)=s.cells.set k (qR (sS s.cells[k] s.orders[m]) p):=by
 split
 ·rename_i h;rw[aoL hR m hm k hk ha,akH h]
 ·exact akE hR m hm p k hk ha hp
theorem aaz {s:ai} (hR:gu s) (r:mQ) (m:Nat) (hm:m<s.orders.length) (k:Nat) (hk:k<s.cells.length) (ha:atZ s.symbols s.orders[m]=(k:Int)) {p:aA} (hp:atZ s.symbols p=(k:Int)):
 evS s r m p=⟨s.accounts,s.symbols,if p.phase=3 then s.orders.eraseIdx m else s.orders.set m p,
  s.cells.set k (if r.what=3 then ⟨if s.orders[m].side=1 then s.cells[k].pos+r.qty else s.cells[k].pos - r.qty,(qR (sS s.cells[k] s.orders[m]) p).buy,(qR (sS s.cells[k] s.orders[m]) p).sell,(qR (sS s.cells[k] s.orders[m]) p).opn⟩else qR (sS s.cells[k] s.orders[m]) p),
  s.limits,s.caps,s.kill,s.last,r.seq,s.lsn+1⟩:=by
 unfold evS
 rw[zG _ m hm,Tf]
 have hmk:∀s':ai,s'.symbols=s.symbols->s'.cells=(if r.what=3 then aj3 s s.orders[m] r.qty else s.cells)->dA s' (if p.phase=3 then s.orders.eraseIdx m else s.orders.set m p)=
  s.cells.set k (if r.what=3 then ⟨if s.orders[m].side=1 then s.cells[k].pos+r.qty else s.cells[k].pos - r.qty,(qR (sS s.cells[k] s.orders[m]) p).buy,(qR (sS s.cells[k] s.orders[m]) p).sell,(qR (sS s.cells[k] s.orders[m]) p).opn⟩else qR (sS s.cells[k] s.orders[m]) p):=by
  intro s' h1 h2
  by_cases h3:r.what=3
  ·rw[if_pos h3]at h2 ⊢
   unfold aj3 at h2
   rw[ha,bQ _ k hk,P9]at h2
   exact afD h1 hk h2 (afw hR m hm k hk ha hp)
  ·rw[if_neg h3]at h2 ⊢
   have:dA s' (if p.phase=3 then s.orders.eraseIdx m else s.orders.set m p)=dA s (if p.phase=3 then s.orders.eraseIdx m else s.orders.set m p):=by
    unfold dA;rw[h1,h2]
   rw[this,afw hR m hm k hk ha hp]
 exact congrArg (fun c=>ai.mk s.accounts s.symbols (if p.phase=3 then s.orders.eraseIdx m else s.orders.set m p) c s.limits s.caps s.kill s.last r.seq (s.lsn+1)) (hmk ⟨s.accounts,s.symbols,s.orders,if r.what=3 then aj3 s s.orders[m] r.qty else s.cells,s.limits,s.caps,s.kill,s.last,r.seq,s.lsn+1⟩ rfl rfl)
theorem ajs {s:ai} {r:mQ} (hr:iF s) (hrr:Jc r) (hl:s.orders.length<999999) (hl2:s.limits.length<999999) (hl3:s.caps.length<999999):wI s r=some (doS s r):=by
 obtain⟨b1,e1,q1⟩:=Jk r
 obtain⟨b2,e2,q2⟩:=BQ s hr hl hl2 hl3
 have bad:¬Un s r->doS s r=(s,1):=fun h=>by unfold doS;rw[if_pos h]
 by_cases hA:s.lsn<1000000000/\EP r/\gu s
 case neg=>
  have hno:¬Un s r:=fun h=>hA ⟨h.2.2.1,h.2.1,h.1⟩
  rw[bad hno]
  refine Wq.eq ?_
  unfold wI
  rw[oM hr.lsn (by decide),aj,xM]
  refine Wq.mono (Q:=fun y1=>y1=true->(inI (s.lsn+1)/\s.lsn<1000000000/\EP r)) ?_ fun y1 h1=> ?_
  ·rw[jW]
   refine⟨fun h=> ?_,fun h=>(au _).2 (by simp)⟩
   rw[e1,au]
   intro hb
   simp only[bF,dh,dV,eX,bI,bP,dP,eP,dm,fB,bK,bJ,fC,fD]at h
   by_cases hin:inI (s.lsn+1)
   ·exact⟨hin,by omega,q1.1 hb⟩
   ·rw[if_neg hin]at h;simp at h
  rw[xM]
  refine Wq.mono (Q:=fun y2=>y2=true->(y1=true/\gu s)) ?_ fun y2 h2=> ?_
  ·rw[jW]
   refine⟨fun h=> ?_,fun h=>(au _).2 (by simp)⟩
   rw[e2,au]
   intro hb
   simp only[bF,dh,dV,eX,bI,bP,dP,eP,dm,fB,bK,bJ,fC,fD]at h
   exact⟨by simpa using h.2,q2.1 hb⟩
  rw[jW]
  refine⟨fun _=>(au _).2 rfl,fun h=> ?_⟩
  simp only[bF,dh,dV,eX,bI,bP,dP,eP,dm,fB,bK,bJ,fC,fD]at h
  have g2:=h2 h.2
  have g1:=h1 g2.1
  exact absurd ⟨g1.2.1,g1.2.2,g2.2⟩ hA
 obtain⟨hlsn,hrec,hR⟩:=hA
 obtain rfl:=q1.2 hrec
 obtain rfl:=q2.2 hR
 have hs:=hR.sized
 obtain⟨lc,ll,lcp,lo⟩:=hs.lens
 have hl0:=hR.fine.lsn
 have hq0:=hR.fine.seq
 have h1a:=hs.1;have h1b:=hs.2.1
 have good:r.account<s.accounts->r.symbol<s.symbols->(r.kind=1->s.last<r.order)->Un s r:=fun a b c=>⟨hR,hrec,hlsn,a,b,c⟩
 have hwr:wr .i64 (ax s.lsn 1)=s.lsn+1:=ao1 hl0.1 hlsn
 have hall:∀o∈s.orders,vS o/\fV o:=fun o h=>⟨(hR.fine.ords o h).1,hr.orders.1 o h⟩
 unfold wI
 rw[oM hr.lsn (by decide),aj,if_pos (c:=inI (s.lsn+1)) ⟨by omega,by omega⟩]
 simp only[o7,bC,ig,Oy (show ¬(1000000000:Int)<=s.lsn by omega),bZ,bG,bn,e1,e2,aj,ae7 (l:=s.orders) (by omega),agc (l:=s.cells) (by omega),ag9 (l:=s.limits) (by omega),ae6 (l:=s.caps) (by omega),hwr]
 have eta:(ai.mk s.accounts s.symbols s.orders s.cells s.limits s.caps s.kill s.last s.seq s.lsn)=s:=rfl
 simp only[eta]
 by_cases k1:r.kind=1
 ·rw[aI (by rw[bK];exact k1),aa3 hrec k1,aj]
  by_cases c1:r.order<=s.last
  ·rw[bad fun h=>by have:=h.2.2.2.2.2 k1;omega]
   simp only[kF c1,bG]
  by_cases c2:s.accounts<=r.account
  ·rw[bad fun h=>by have:=h.2.2.2.1;omega]
   simp only[Oy c1,kF c2,bG,bn]
  by_cases c3:s.symbols<=r.symbol
  ·rw[bad fun h=>by have:=h.2.2.2.2.1;omega]
   simp only[Oy c1,Oy c2,kF c3,bG,bn]
  simp only[Oy c1,Oy c2,Oy c3,bn]
  have hm:=good (by omega) (by omega) fun _=>by omega
  unfold doS
  rw[if_neg (fun h:¬Un s r=>h hm),if_pos k1]
  by_cases hk:s.kill=true
  ·rw[if_pos hk,aI hk]
  rw[if_neg hk,dN (by simpa using hk),kQ]
  by_cases h64:s.orders.length=64
  ·rw[if_pos (show len s.orders=64 by simp only[len];omega),if_pos h64]
  rw[if_neg (show ¬len s.orders=64 by simp only[len];omega),if_neg h64]
  obtain⟨ho,ho2⟩:=abM hrec k1
  have hro:=acD hrr
  have hrec':=hrec
  unfold EP at hrec'
  have hra:0<=r.account/\0<=r.symbol:=by omega
  obtain⟨k,g1,g2,g3⟩:=KE hs r.account r.symbol hra.1 (by omega) hra.2 (by omega)
  have hat:atZ s.symbols (kH r)=(k:Int):=g2.symm
  have hmk:=ao3 hR (kH r) k g3 hat
  rw[show aX s (kH r).account (kH r).symbol=some (k:Int)from g1,aj,aI (inb _ k g3),bQ _ k g3,Eu (hR.ok _ (List.getElem_mem _)) ho hro,aj]
  have hcells:dA s (jc s.orders [kH r])=s.cells.set k (qR s.cells[k] (kH r)):=hmk
  by_cases hok:okC (qR s.cells[k] (kH r))
  ·rw[if_pos hok]
   simp only[o7,bC,bn]
   rw[aI (kF (by simp [len,jc];omega)),P9,<-hcells]
   have ht:sK ⟨s.accounts,s.symbols,jc s.orders [kH r],dA s (jc s.orders [kH r]),s.limits,s.caps,s.kill,(kH r).id,s.seq,s.lsn⟩:=yT hs rfl rfl (gq _ _) rfl rfl (by simp [jc];omega)
   obtain⟨e,he,hq⟩:=aoy (a:=r.account) (y:=r.symbol) hR ht rfl rfl rfl rfl hra.1 (by omega) hra.2 (by omega) g2 g3 hcells hok
   rw[show dO _ s (kH r).account (kH r).symbol=some e from he,aj]
   exact hq
  ·rw[if_neg hok]
   simp only[zY,bZ,bG]
   rw[ahy (t:=⟨s.accounts,s.symbols,jc s.orders [kH r],dA s (jc s.orders [kH r]),s.limits,s.caps,s.kill,r.order,s.seq,s.lsn⟩) hR rfl rfl hra.1 (by omega) hra.2 (by omega) g2 g3 hcells hok]
 rw[dN (by rw[bJ];exact k1)]
 by_cases k2:r.kind=2
 ·rw[aI (by rw[bK];exact k2),OV s r.order (by omega),aj]
  have hrec':=hrec
  unfold EP at hrec'
  have hra:r.account=0/\r.symbol=0/\1<=r.qty/\1<=r.price:=by omega
  have hm:=good (by omega) (by omega) fun h=>absurd h k1
  unfold doS
  rw[if_neg (fun h:¬Un s r=>h hm),if_neg k1,if_pos k2]
  cases hf:Gz s.orders r.order with
  |none=>
   rw[SL hf,aI (by decide)]
  |some m=>
   rw[Sv hf,dN (by rw[bJ];omega)]
   obtain⟨hm1,hm2⟩:=vz hf
   simp only[aI (inb _ m hm1),bQ _ m hm1,zG _ m hm1]
   obtain⟨ho,hro⟩:=hall s.orders[m] (List.getElem_mem _)
   obtain⟨ch,ce,cq1,cq2⟩:=YJ ho hro hra.2.2.1 hra.2.2.2
   rw[ce,aj]
   by_cases hch:zM s.orders[m]
   case neg=>
    rw[if_pos hch,aI (by rw[bI,bJ];exact cq2 hch)]
   rw[if_neg (fun h:¬zM s.orders[m]=>h hch)]
   obtain rfl:=cq1 hch
   simp only[o7,bC,bn]
   by_cases hk:s.kill=true
   ·rw[if_pos hk,aI hk]
   rw[if_neg hk,dN (by simpa using hk)]
   obtain⟨k,g1,g2,g3⟩:=ady hs (hR.fine.ords _ (List.getElem_mem hm1))
   have hpo:=aau ho hch hra.2.2.1 hra.2.2.2
   have hpr:=ZO hro hch hrr.qty hrr.price
   have hat:atZ s.symbols (wU s.orders[m] r.qty r.price)=(k:Int):=g2
   have hsub:=agP hR hr m hm1 k g3 g2
   have hcells:dA s (aY s.orders m (wU s.orders[m] r.qty r.price))=s.cells.set k (qR (sS s.cells[k] s.orders[m]) (wU s.orders[m] r.qty r.price)):=akE hR m hm1 _ k g3 g2 hat
   rw[g1,aj,aI (inb _ k g3),bQ _ k g3,abL (hR.ok _ (List.getElem_mem _)) ho hro hsub,aj,Eu hsub hpo hpr,aj]
   have hoa:=(hR.fine.ords _ (List.getElem_mem hm1))
   have hob:=ho.1
   by_cases hok:okC (qR (sS s.cells[k] s.orders[m]) (wU s.orders[m] r.qty r.price))
   ·rw[if_pos hok]
    simp only[o7,bC,bn]
    rw[P9 s.cells,P9 s.orders,<-Tf s.orders,<-hcells]
    have ht:sK (YS s (aY s.orders m (wU s.orders[m] r.qty r.price))):=yT hs rfl rfl (gq _ _) rfl rfl (by show(aY _ _ _).length<=64;rw[rZ];omega)
    obtain⟨e,he,hq⟩:=aoy (a:=s.orders[m].account) (y:=s.orders[m].symbol) hR ht rfl rfl rfl rfl hob.2.1.1 hoa.2.2.1 hob.2.2.1.1 hoa.2.2.2 g2.symm g3 hcells hok
    have he':dO ⟨s.accounts,s.symbols,aY s.orders m (wU s.orders[m] r.qty r.price),dA s (aY s.orders m (wU s.orders[m] r.qty r.price)),s.limits,s.caps,s.kill,s.last,s.seq,s.lsn⟩ s s.orders[m].account s.orders[m].symbol=some e:=he
    rw[he',aj]
    exact hq
   ·rw[if_neg hok]
    simp only[zY,bZ,bG]
    rw[ahy (t:=YS s (aY s.orders m (wU s.orders[m] r.qty r.price))) hR rfl rfl hob.2.1.1 hoa.2.2.1 hob.2.2.1.1 hoa.2.2.2 g2.symm g3 hcells hok]
 rw[dN (by rw[bJ];exact k2)]
 by_cases k3:r.kind=3
 ·rw[aI (by rw[bK];exact k3),OV s r.order (by omega),aj]
  have hrec':=hrec
  unfold EP at hrec'
  have hra:r.account=0/\r.symbol=0:=by omega
  have hm:=good (by omega) (by omega) fun h=>absurd h k1
  unfold doS
  rw[if_neg (fun h:¬Un s r=>h hm),if_neg k1,if_neg k2,if_pos k3]
  cases hf:Gz s.orders r.order with
  |none=>
   rw[SL hf,aI (by decide)]
  |some m=>
   rw[Sv hf,dN (by rw[bJ];omega)]
   obtain⟨hm1,hm2⟩:=vz hf
   have hoi:=hR.fine.ords _ (List.getElem_mem hm1)
   simp only[aI (inb _ m hm1),bQ _ m hm1,zG _ m hm1]
   rw[afa hoi.1 hoi.2.1,aj]
   by_cases ha:s.orders[m].asked=true
   ·rw[if_pos ha,if_pos ha];rfl
   ·rw[if_neg ha,if_neg ha,P9];rfl
 rw[dN (by rw[bJ];exact k3)]
 by_cases k4:r.kind=4
 ·rw[aI (by rw[bK];exact k4)]
  have hrec':=hrec
  unfold EP at hrec'
  by_cases c2:s.accounts<=r.account
  ·rw[bad fun h=>by have:=h.2.2.2.1;omega]
   simp only[kF c2,bG]
  by_cases c3:s.symbols<=r.symbol
  ·rw[bad fun h=>by have:=h.2.2.2.2.1;omega]
   simp only[Oy c2,kF c3,bG,bn]
  simp only[Oy c2,Oy c3,bn]
  have hm:=good (by omega) (by omega) fun h=>absurd h k1
  unfold doS
  rw[if_neg (fun h:¬Un s r=>h hm),if_neg k1,if_neg k2,if_neg k3,if_pos k4,kQ]
  by_cases hy:r.symbol= -1
  ·rw[if_pos hy,if_pos hy,aI (zX (kF (by omega)) (CX (by simp only[len];omega)))]
  ·rw[if_neg hy,if_neg hy]
   obtain⟨k,g1,g2,g3⟩:=KE hs r.account r.symbol (by omega) (by omega) (by omega) (by omega)
   have g4:k<s.limits.length:=by omega
   rw[g1,aj,aI (inb _ k g4),g2]
 rw[dN (by rw[bJ];exact k4)]
 by_cases k5:r.kind=5
 ·rw[aI (by rw[bK];exact k5)]
  have hrec':=hrec
  unfold EP at hrec'
  have hra:r.account=0/\r.symbol=0:=by omega
  have hm:=good (by omega) (by omega) fun h=>absurd h k1
  unfold doS
  rw[if_neg (fun h:¬Un s r=>h hm),if_neg k1,if_neg k2,if_neg k3,if_neg k4,if_pos k5]
 rw[dN (by rw[bJ];exact k5)]
 have hrec':=hrec
 unfold EP at hrec'
 have hra:r.account=0/\r.symbol=0:=by omega
 have hm:=good (by omega) (by omega) fun h=>absurd h k1
 unfold doS
 rw[if_neg (fun h:¬Un s r=>h hm),if_neg k1,if_neg k2,if_neg k3,if_neg k4,if_neg k5]
 have hws:wr .i64 (ax s.seq 1)=s.seq+1:=by unfold ax;exact dI (by omega) (by omega)
 rw[hws,lM,kQ]
 by_cases c1:r.seq=s.seq+1
 case neg=>
  rw[if_neg c1,if_pos c1]
 rw[if_pos c1,if_neg (fun h:r.seq≠s.seq+1=>h c1),OV _ r.order (by show s.orders.length<_;omega),aj]
 show cnd (ieq (Xt s.orders r.order) (-1)) _ _=_
 cases hf:Gz s.orders r.order with
 |none=>
  rw[SL hf,aI (by decide)]
 |some m=>
  rw[Sv hf,dN (by rw[bJ];omega)]
  obtain⟨hm1,hm2⟩:=vz hf
  simp only[aI (inb _ m hm1),bQ _ m hm1,zG _ m hm1]
  obtain⟨ho,hro⟩:=hall s.orders[m] (List.getElem_mem _)
  have hnote:EP (aev ⟨r.seq,r.what,r.order,r.qty,r.price⟩):=by
   have k6:r.kind=6:=by omega
   refine .inr (.inr (.inr (.inr (.inr ⟨rfl,?_⟩))))
   rcases hrec with h | h | h | h | h | h
   ·omega
   ·omega
   ·omega
   ·omega
   ·omega
   ·exact⟨h.2.1,rfl,rfl,rfl,rfl,rfl,rfl,rfl,h.2.2.2.2.2.2.2.2.2⟩
  rw[adN ho hro hnote hm2.symm hrr.qty]
  cases ht:QS s.orders[m] r.what r.qty r.price with
  |none=>
   simp only[aj]
   rw[aI (by decide)]
  |some p=>
   simp only[aj,o7,bC,bn]
   have hq3:r.what=3->1<=r.qty:=fun h=>by omega
   have hp:=ahb ho hro ht hq3 (fun h=>by omega) hrr.qty hrr.price
   obtain⟨k,g1,g2,g3⟩:=ady hs (hR.fine.ords _ (List.getElem_mem hm1))
   have hat:atZ s.symbols p=(k:Int):=by unfold atZ;rw[hp.account,hp.symbol];exact g2
   have hsub:=agP hR hr m hm1 k g3 g2
   obtain⟨hev1,hev2⟩:=adF hR hr m hm1 k g3 g2 hp hq3
   rw[show aX (ai.mk s.accounts s.symbols s.orders s.cells s.limits s.caps s.kill s.last r.seq s.lsn) s.orders[m].account s.orders[m].symbol=some (k:Int)from g1,aj,aI (inb _ k g3),bQ _ k g3,
    abL (hR.ok _ (List.getElem_mem _)) ho hro hsub,aj]
   simp only[P9,akQ]
   have gk:∀c:aK,ah (s.cells.set k c) (itn (k:Int))=c:=fun c=>by rw[bQ _ k (by simpa using g3),List.getElem_set_self]
   rw[gk,Eu hsub hp.ord hp.rng,if_pos hev1,aj,gk,aaz hR r m hm1 k g3 g2 hat]
   have hdel:=amo (l:=s.orders.set m p) (i:=m) (by simpa using hm1) (by simp;omega)
   rw[aiW]at hdel
   simp only[hdel,aj,kQ]
   by_cases h3:r.what=3
   ·rw[if_pos h3,if_pos h3]
    have hside:=ho.1.2.2.2.1
    have e1:(qR (sS s.cells[k] s.orders[m]) p).pos=s.cells[k].pos:=by rw[akj,akG]
    have hn:=hev2 h3
    rw[<-e1]at hn
    rw[agZ hev1 hside (by have:=hq3 h3;omega) hrr.qty hn,aj,e1]
    split<;>rfl
   ·rw[if_neg h3,if_neg h3]
    split<;>rfl
theorem mk_pos (s:ai) (l:List aA) (j:Nat) (h:j<(dA s l).length):(dA s l)[j].pos=(s.cells[j]'(by simpa [dA] using h)).pos:=by
 rw[kR]
 have:=YL s.symbols j l
 simp only[lJ];omega
theorem aiv {s t:ai} (h1:t.symbols=s.symbols) {l:List aA} (h2:t.cells=dA s l):t.cells=dA t l:=by
 have e0:dA t l=(dA s l).mapIdx fun i c=>lJ ⟨c.pos,0,0,0⟩ (mF s.symbols i l):=by unfold dA;rw[h1,h2];rfl
 rw[e0,h2]
 refine List.ext_getElem (by simp) fun j g1 g2=> ?_
 rw[List.getElem_mapIdx,mk_pos,kR]
theorem anS {l:List aA} {o:aA} (h:QC l) (ho:∀x∈l,x.id<o.id):QC (l++[o]):=by
 unfold QC at*
 rw[List.pairwise_append]
 refine⟨h,by simp,fun a ha b hb=> ?_⟩
 rw[List.mem_singleton]at hb
 subst hb
 exact ho a ha
theorem ad4 {l:List aA} {m:Nat} (hm:m<l.length) {p:aA} (h:QC l) (hp:p.id=l[m].id):QC (l.set m p):=by
 unfold QC at*
 rw[List.pairwise_iff_getElem]at*
 intro i j hi hj hij
 have hi':i<l.length:=by simpa using hi
 have hj':j<l.length:=by simpa using hj
 have h0:=h i j hi' hj' hij
 rw[List.getElem_set,List.getElem_set]
 split
 ·rename_i e;subst e
  rw[if_neg (by omega),hp];exact h0
 ·split
  ·rename_i e;subst e
   rw[hp];exact h0
  ·exact h0
theorem ajK {l:List aA} (m:Nat) (h:QC l):QC (l.eraseIdx m):=List.Pairwise.sublist (List.eraseIdx_sublist _ _) h
theorem amE {l m:List aK} (hl:l.length=m.length) (h:∀(i:Nat) (h1:i<l.length) (h2:i<m.length),l[i].opn<=m[i].opn):pO l<=pO m:=by
 induction l generalizing m with
 |nil=>cases m with
  |nil=>exact Int.le_refl _
  |cons a r=>simp at hl
 |cons a l ih=>cases m with
  |nil=>simp at hl
  |cons b m=>
   have h0:=h 0 (by simp) (by simp)
   have:=ih (m:=m) (by simpa using hl) fun i h1 h2=>by
    have:=h (i+1) (by simp;omega) (by simp;omega)
    simpa using this
   unfold pO at*
   simp only[List.map_cons,List.sum_cons,List.getElem_cons_zero]at*
   omega
theorem ang {n:Int} {cs ds:List aK} (hl:cs.length=ds.length) (h:∀(i:Nat) (h1:i<cs.length) (h2:i<ds.length),cs[i].opn<=ds[i].opn) (a:Int):pO (rQ n cs a)<=pO (rQ n ds a):=by
 unfold rQ
 refine amE (by simp [hl]) fun i h1 h2=> ?_
 rw[List.getElem_take,List.getElem_take,List.getElem_drop,List.getElem_drop]
 exact h _ _ _
theorem apt {cs:List aK} {k:Nat} {c:aK} (hk:k<cs.length) (hc:c.opn<=cs[k].opn) (i:Nat) (h1:i<(cs.set k c).length) (h2:i<cs.length):(cs.set k c)[i].opn<=cs[i].opn:=by
 rw[List.getElem_set]
 split
 ·rename_i e;subst e;exact hc
 ·exact Int.le_refl _
theorem amf {s:ai} (hR:gu s) {r:mQ} (h:s.last<r.order):∀x∈s.orders,x.id<(kH r).id:=fun x hx=>by
 have:=hR.fine.ids x hx
 show x.id<r.order;omega
theorem lT {α:Type} {l:List α} {m:Nat} {p x:α} (h:x∈l.set m p):x∈l\/x=p:=List.mem_or_eq_of_mem_set h
theorem abB {s t:ai} (hR:gu s) (h1:t.accounts=s.accounts) (h2:t.symbols=s.symbols) (hl:t.limits=s.limits) (hc:t.caps=s.caps) (hq:t.seq=s.seq) (hls:t.lsn=s.lsn) (hlsn:s.lsn<1000000000)
 (ht:t.cells=dA s t.orders) (ho:∀o∈t.orders,BM s o) (has:QC t.orders) (hid:∀o∈t.orders,o.id<=t.last) (hla:0<=t.last/\t.last<=1000000000000) (hlen:t.orders.length<=64) (a y:Int):
 gu (Y2 s t a y).1:=by
 unfold Y2
 split
 ·exact hR
 ·rename_i hf
  have hf:agr t:=Classical.not_not.1 hf
  split
  ·exact hR
  ·have hcl:t.cells.length=s.cells.length:=by rw[ht,gq]
   have hz:=hR.fine
   refine⟨yT hR.sized h1 h2 hcl (by rw[hl]) (by rw[hc]) hlen,⟨fun o h=> ?_,has,hid,hla,by rw[hq];exact hz.seq,?_,by rw[hl];exact hz.lims,by rw[hc];exact hz.caps⟩,?_,hf.1,hf.2⟩
   ·obtain⟨g1,g2,g3,g4⟩:=ho o h
    exact⟨g1,g2,by show o.account<t.accounts;omega,by show o.symbol<t.symbols;omega⟩
   ·have:=hz.lsn
    show 0<=t.lsn+1/\t.lsn+1<=1000000000
    omega
   ·have:=aiv h2 ht
    exact this
theorem aiY {s:ai} {r:mQ} (hR:gu s) (hr:iF s) (hrr:Jc r):gu (doS s r).1:=by
 unfold doS
 split
 ·exact hR
 rename_i hm
 have hm:Un s r:=Classical.not_not.1 hm
 obtain⟨_,hrec,hlsn,hacc,hsym,hord⟩:=hm
 have hz:=hR.fine
 have hs:=hR.sized
 obtain⟨lc,ll,lcp,lo⟩:=hs.lens
 have hl0:=hz.lsn
 have hrec':=hrec
 unfold EP yO at hrec'
 split
 ·rename_i k1
  split
  ·exact hR
  split
  ·exact hR
  ·rename_i h64
   obtain⟨g1,g2⟩:=abM hrec k1
   refine abB (t:=⟨s.accounts,s.symbols,jc s.orders [kH r],dA s (jc s.orders [kH r]),s.limits,s.caps,s.kill,r.order,s.seq,s.lsn⟩) hR rfl rfl rfl rfl rfl rfl hlsn rfl (fun o h=> ?_) (anS hz.asc (amf hR (hord k1))) (fun o h=> ?_) (by show 0<=r.order/\r.order<=_;omega) (by show(s.orders++[_]).length<=64;simp;omega) _ _
   ·rcases List.mem_append.1 h with h | h
    ·exact hz.ords o h
    ·rw[List.mem_singleton]at h
     subst h
     exact⟨g1,by simp [kH],hacc,hsym⟩
   ·rcases List.mem_append.1 h with h | h
    ·have:=amf hR (hord k1) o h
     show o.id<=r.order
     exact Int.le_of_lt this
    ·rw[List.mem_singleton]at h
     subst h;exact Int.le_refl _
 split
 ·rename_i k1 k2
  split
  ·exact hR
  rename_i m hf
  obtain⟨hm1,hm2⟩:=vz hf
  simp only[zG _ m hm1]
  split
  ·exact hR
  rename_i hch
  have hch:zM s.orders[m]:=Classical.not_not.1 hch
  split
  ·exact hR
  have hoi:=hz.ords _ (List.getElem_mem hm1)
  have hpo:=aau (q:=r.qty) (p:=r.price) hoi.1 hch (by omega) (by omega)
  refine abB (t:=YS s (aY s.orders m (wU s.orders[m] r.qty r.price))) hR rfl rfl rfl rfl rfl rfl hlsn rfl (fun o h=> ?_) (ad4 hm1 hz.asc rfl) (fun o h=> ?_) hz.last (by show(s.orders.set _ _).length<=64;simp;omega) _ _
  ·rcases lT h with h | rfl
   ·exact hz.ords o h
   ·exact⟨hpo,by show s.orders[m].phase≠3;exact hoi.2.1,hoi.2.2.1,hoi.2.2.2⟩
  ·rcases lT h with h | rfl
   ·exact hz.ids o h
   ·exact hz.ids s.orders[m] (List.getElem_mem hm1)
 split
 ·rename_i k1 k2 k3
  split
  ·exact hR
  rename_i m hf
  obtain⟨hm1,hm2⟩:=vz hf
  simp only[zG _ m hm1]
  split
  ·exact hR
  have hoi:=hz.ords _ (List.getElem_mem hm1)
  refine⟨yT hs rfl rfl rfl rfl rfl (by show(s.orders.set _ _).length<=64;simp;omega),⟨fun o h=> ?_,ad4 hm1 hz.asc rfl,fun o h=> ?_,hz.last,hz.seq,⟨by show 0<=s.lsn+1;omega,by show s.lsn+1<=_;omega⟩,hz.lims,hz.caps⟩,?_,hR.ok,hR.acct⟩
  ·rcases lT h with h | rfl
   ·exact hz.ords o h
   ·exact⟨hoi.1,hoi.2.1,hoi.2.2.1,hoi.2.2.2⟩
  ·rcases lT h with h | rfl
   ·exact hz.ids o h
   ·exact hz.ids s.orders[m] (List.getElem_mem hm1)
  ·have e:∀j:Nat,mF s.symbols j (s.orders.set m (aoo s.orders[m]))=mF s.symbols j s.orders:=fun j=>by
    rw[ZP _ _ _ _ hm1,Hw _ _ _ _ hm1];rfl
   refine hR.cells.trans ?_
   unfold dA
   simp only[Tf,e]
 split
 ·rename_i k1 k2 k3 k4
  split
  ·rename_i hy
   refine⟨yT hs rfl rfl rfl rfl (rZ _ _ _) lo,⟨hz.ords,hz.asc,hz.ids,hz.last,hz.seq,⟨by show 0<=s.lsn+1;omega,by show s.lsn+1<=_;omega⟩,hz.lims,fun x hx=> ?_⟩,hR.cells,hR.ok,hR.acct⟩
   rcases lT hx with h | rfl
   ·exact hz.caps x h
   ·omega
  ·rename_i hy
   refine⟨yT hs rfl rfl rfl (rZ _ _ _) rfl lo,⟨hz.ords,hz.asc,hz.ids,hz.last,hz.seq,⟨by show 0<=s.lsn+1;omega,by show s.lsn+1<=_;omega⟩,fun x hx=> ?_,hz.caps⟩,hR.cells,hR.ok,hR.acct⟩
   rcases lT hx with h | rfl
   ·exact hz.lims x h
   ·unfold OE;simp only;omega
 split
 ·exact⟨yT hs rfl rfl rfl rfl rfl lo,⟨hz.ords,hz.asc,hz.ids,hz.last,hz.seq,⟨by show 0<=s.lsn+1;omega,by show s.lsn+1<=_;omega⟩,hz.lims,hz.caps⟩,hR.cells,hR.ok,hR.acct⟩
 split
 ·exact hR
 rename_i k1 k2 k3 k4 k5 hseq
 have hseq:r.seq=s.seq+1:=Classical.not_not.1 hseq
 have hrs:0<=r.seq/\r.seq<=1000000000:=by omega
 split
 ·exact⟨yT hs rfl rfl rfl rfl rfl lo,⟨hz.ords,hz.asc,hz.ids,hz.last,hrs,⟨by show 0<=s.lsn+1;omega,by show s.lsn+1<=_;omega⟩,hz.lims,hz.caps⟩,hR.cells,hR.ok,hR.acct⟩
 rename_i m hf
 obtain⟨hm1,hm2⟩:=vz hf
 simp only[zG _ m hm1]
 split
 ·exact⟨yT hs rfl rfl rfl rfl rfl lo,⟨hz.ords,hz.asc,hz.ids,hz.last,hrs,⟨by show 0<=s.lsn+1;omega,by show s.lsn+1<=_;omega⟩,hz.lims,hz.caps⟩,hR.cells,hR.ok,hR.acct⟩
 rename_i p ht
 have hoi:=hz.ords _ (List.getElem_mem hm1)
 have hro:=hr.orders.1 _ (List.getElem_mem hm1)
 have hq3:r.what=3->1<=r.qty:=fun h=>by omega
 have hp:=ahb hoi.1 hro ht hq3 (fun h=>by omega) hrr.qty hrr.price
 obtain⟨k,g1,g2,g3⟩:=ady hs hoi
 have hat:atZ s.symbols p=(k:Int):=by unfold atZ;rw[hp.account,hp.symbol];exact g2
 obtain⟨hev1,hev2⟩:=adF hR hr m hm1 k g3 g2 hp hq3
 have hcells:(evS s r m p).cells=dA (evS s r m p) (evS s r m p).orders:=aiv (s:=⟨s.accounts,s.symbols,s.orders,if r.what=3 then aj3 s (ah s.orders m) r.qty else s.cells,s.limits,s.caps,s.kill,s.last,r.seq,s.lsn+1⟩) (t:=evS s r m p) rfl (l:=(evS s r m p).orders) rfl
 have hst:=aaz hR r m hm1 k g3 g2 hat
 refine⟨?_,?_,hcells,?_,?_⟩
 ·rw[hst]
  refine yT hs rfl rfl (by simp) rfl rfl ?_
  show(if p.phase=3 then s.orders.eraseIdx m else s.orders.set m p).length<=64
  split
  ·have:=List.length_eraseIdx_le s.orders m;omega
  ·simp;omega
 ·rw[hst]
  have hmem:∀o∈(if p.phase=3 then s.orders.eraseIdx m else s.orders.set m p),o∈s.orders\/(o=p/\p.phase≠3):=fun o ho=>by
   split at ho
   ·exact .inl (List.mem_of_mem_eraseIdx ho)
   ·rename_i h3
    rcases lT ho with h | rfl
    ·exact .inl h
    ·exact .inr ⟨rfl,h3⟩
  refine⟨fun o ho=> ?_,?_,fun o ho=> ?_,hz.last,hrs,⟨by show 0<=s.lsn+1;omega,by show s.lsn+1<=_;omega⟩,hz.lims,hz.caps⟩
  ·rcases hmem o ho with h | ⟨rfl,h3⟩
   ·exact hz.ords o h
   ·exact⟨hp.ord,h3,by show o.account<s.accounts;rw[hp.account];exact hoi.2.2.1,by show o.symbol<s.symbols;rw[hp.symbol];exact hoi.2.2.2⟩
  ·show QC (if p.phase=3 then s.orders.eraseIdx m else s.orders.set m p)
   split
   ·exact ajK m hz.asc
   ·exact ad4 hm1 hz.asc hp.id
  ·rcases hmem o ho with h | ⟨rfl,_⟩
   ·exact hz.ids o h
   ·show o.id<=s.last
    rw[hp.id];exact hz.ids _ (List.getElem_mem hm1)
 ·rw[hst]
  intro c hc
  rcases lT hc with h | rfl
  ·exact hR.ok c h
  ·split
   ·rename_i h3;exact hev2 h3
   ·exact hev1
 ·rw[hst]
  intro a h1 h2
  refine Int.le_trans (ang (by simp) (fun i g4 g5=>apt g3 ?_ i g4 g5) a) (hR.acct a h1 h2)
  have hw:=hp.worth
  have e:(qR (sS s.cells[k] s.orders[m]) p).opn<=s.cells[k].opn:=by
   have e1:(qR (sS s.cells[k] s.orders[m]) p).opn=s.cells[k].opn - ji s.orders[m]+ji p:=by unfold qR sS;split<;>split<;>rfl
   omega
  split
  ·exact e
  ·exact e
theorem X6 {α:Type} {p:α->Prop} {l:List α} (h:okL p l) {k:Nat} {x:α} (hx:p x):okL p (l.set k x):=⟨fun y hy=>by
 rcases List.mem_or_eq_of_mem_set hy with h1 | rfl
 ·exact h.1 y h1
 ·exact hx,by have:=h.2;simpa using this⟩
structure DoQ (s:ai) (r:mQ) (t:ai) (e:Int):Prop where
 bad:e≠0->t=s
 good:e=0->Un s r/\t.lsn=s.lsn+1/\(t.seq=if r.kind=6 then s.seq+1 else s.seq)/\(t.last=if r.kind=1 then r.order else s.last)/\t.accounts=s.accounts/\t.symbols=s.symbols/\t.cells.length=s.cells.length/\t.limits.length=s.limits.length/\t.caps.length=s.caps.length/\t.orders.length<=64/\
  (r.kind≠4->t.limits=s.limits/\t.caps=s.caps)/\(r.kind≠5->t.kill=s.kill)/\(r.kind=6->r.seq=s.seq+1)
 rng:iF s->Jc r->iF t
theorem BN {s:ai} {r:mQ} {e:Int} (he:e≠0):DoQ s r s e:=⟨fun _=>rfl,fun h=>absurd h he,fun h _=>h⟩
theorem aoB {s t:ai} {r:mQ} {a y:Int} (hm:Un s r) (h6:r.kind≠6) (h1:t.accounts=s.accounts) (h2:t.symbols=s.symbols) (h3:t.limits=s.limits) (h4:t.caps=s.caps) (h5:t.seq=s.seq) (h7:t.lsn=s.lsn) (h8:t.last=if r.kind=1 then r.order else s.last) (h9:t.cells.length=s.cells.length) (h10:t.orders.length<=64) (h11:t.kill=s.kill)
 (hr:iF s->Jc r->∀o∈t.orders,fV o):DoQ s r (Y2 s t a y).1 (Y2 s t a y).2:=by
 unfold Y2
 split
 ·exact BN (by simp)
 ·rename_i hf
  have hf:agr t:=Classical.not_not.1 hf
  split
  ·exact BN (by simp)
  ·refine⟨fun h=>absurd rfl h,fun _=>⟨hm,by show t.lsn+1=_;rw[h7],by rw[if_neg h6];exact h5,h8,h1,h2,h9,by rw[h3],by rw[h4],h10,fun _=>⟨h3,h4⟩,fun _=>h11,fun h=>absurd h h6⟩,fun hs hrr=> ?_⟩
   have hR:=hm.1
   have hz:=hR.fine
   have hlsn:=hm.2.2.1
   obtain⟨lc,ll,lcp,lo⟩:=hR.sized.lens
   have b3:=hz.lsn
   refine⟨by rw[h1];exact hs.accounts,by rw[h2];exact hs.symbols,⟨hr hs hrr,by show t.orders.length<=_;omega⟩,⟨fun c hc=>(hf.1 c hc).1,by show t.cells.length<=_;omega⟩,by rw[h3];exact hs.limits,by rw[h4];exact hs.caps,?_,by rw[h5];exact hs.seq,⟨by show _<=t.lsn+1;omega,by show t.lsn+1<=_;omega⟩⟩
   show inI t.last
   rw[h8];split
   ·exact hrr.order
   ·exact hs.last
theorem aoF (s:ai) (r:mQ):DoQ s r (doS s r).1 (doS s r).2:=by
 unfold doS
 split
 ·exact BN (by simp)
 rename_i hm
 have hm:Un s r:=Classical.not_not.1 hm
 obtain⟨hR,hrec,hlsn,hacc,hsym,hord⟩:=id hm
 have hz:=hR.fine
 have hs:=hR.sized
 obtain⟨lc,ll,lcp,lo⟩:=hs.lens
 have hl0:=hz.lsn
 have hls:iF s->inI (s.lsn+1):=fun _=>⟨by omega,by omega⟩
 have hrec':=hrec
 unfold EP yO at hrec'
 split
 ·rename_i k1
  split
  ·exact BN (by simp)
  split
  ·exact BN (by simp)
  ·rename_i h64
   refine aoB (t:=⟨s.accounts,s.symbols,jc s.orders [kH r],dA s (jc s.orders [kH r]),s.limits,s.caps,s.kill,r.order,s.seq,s.lsn⟩) hm (by omega) rfl rfl rfl rfl rfl rfl (by rw[if_pos k1]) (gq _ _) (by show(s.orders++[_]).length<=64;simp;omega) rfl fun hs hrr o h=> ?_
   rcases List.mem_append.1 h with h | h
   ·exact hs.orders.1 o h
   ·rw[List.mem_singleton]at h
    subst h
    exact acD hrr
 split
 ·rename_i k1 k2
  split
  ·exact BN (by simp)
  rename_i m hf
  obtain⟨hm1,hm2⟩:=vz hf
  simp only[zG _ m hm1]
  split
  ·exact BN (by simp)
  rename_i hch
  have hch:zM s.orders[m]:=Classical.not_not.1 hch
  split
  ·exact BN (by simp)
  refine aoB (t:=YS s (aY s.orders m (wU s.orders[m] r.qty r.price))) hm (by omega) rfl rfl rfl rfl rfl rfl (by rw[if_neg k1];rfl) (gq _ _) (by show(s.orders.set _ _).length<=64;simp;omega) rfl fun hs hrr o h=> ?_
  rcases lT h with h | rfl
  ·exact hs.orders.1 o h
  ·exact ZO (hs.orders.1 _ (List.getElem_mem hm1)) hch hrr.qty hrr.price
 split
 ·rename_i k1 k2 k3
  split
  ·exact BN (by simp)
  rename_i m hf
  obtain⟨hm1,hm2⟩:=vz hf
  simp only[zG _ m hm1]
  split
  ·exact BN (by simp)
  exact⟨fun h=>absurd rfl h,fun _=>⟨hm,rfl,by rw[if_neg (by omega)],by rw[if_neg k1],rfl,rfl,rfl,rfl,rfl,by show(s.orders.set _ _).length<=64;simp;omega,fun _=>⟨rfl,rfl⟩,fun _=>rfl,fun h=>by omega⟩,
   fun h hrr=>⟨h.accounts,h.symbols,X6 h.orders (anY (h.orders.1 _ (List.getElem_mem hm1))),h.cells,h.limits,h.caps,h.last,h.seq,hls h⟩⟩
 split
 ·rename_i k1 k2 k3 k4
  split
  ·exact⟨fun h=>absurd rfl h,fun _=>⟨hm,rfl,by rw[if_neg (by omega)],by rw[if_neg k1],rfl,rfl,rfl,rfl,rZ _ _ _,lo,fun h=>absurd k4 h,fun _=>rfl,fun h=>by omega⟩,
    fun h hrr=>⟨h.accounts,h.symbols,h.orders,h.cells,h.limits,X6 h.caps hrr.opn,h.last,h.seq,hls h⟩⟩
  ·exact⟨fun h=>absurd rfl h,fun _=>⟨hm,rfl,by rw[if_neg (by omega)],by rw[if_neg k1],rfl,rfl,rfl,rZ _ _ _,rfl,lo,fun h=>absurd k4 h,fun _=>rfl,fun h=>by omega⟩,
    fun h hrr=>⟨h.accounts,h.symbols,h.orders,h.cells,X6 h.limits ⟨hrr.long,hrr.short,hrr.opn⟩,h.caps,h.last,h.seq,hls h⟩⟩
 split
 ·rename_i k1 k2 k3 k4 k5
  exact⟨fun h=>absurd rfl h,fun _=>⟨hm,rfl,by rw[if_neg (by omega)],by rw[if_neg k1],rfl,rfl,rfl,rfl,rfl,lo,fun _=>⟨rfl,rfl⟩,fun h=>absurd k5 h,fun h=>by omega⟩,
   fun h hrr=>⟨h.accounts,h.symbols,h.orders,h.cells,h.limits,h.caps,h.last,h.seq,hls h⟩⟩
 split
 ·exact BN (by simp)
 rename_i k1 k2 k3 k4 k5 hseq
 have hseq:r.seq=s.seq+1:=Classical.not_not.1 hseq
 have k6:r.kind=6:=by omega
 have ev:DoQ s r ⟨s.accounts,s.symbols,s.orders,s.cells,s.limits,s.caps,s.kill,s.last,r.seq,s.lsn+1⟩ 0:=
  ⟨fun h=>absurd rfl h,fun _=>⟨hm,rfl,by rw[if_pos k6];exact hseq,by rw[if_neg k1],rfl,rfl,rfl,rfl,rfl,lo,fun _=>⟨rfl,rfl⟩,fun _=>rfl,fun _=>hseq⟩,
   fun h hrr=>⟨h.accounts,h.symbols,h.orders,h.cells,h.limits,h.caps,h.last,hrr.seq,hls h⟩⟩
 split
 ·exact ev
 rename_i m hf
 obtain⟨hm1,hm2⟩:=vz hf
 simp only[zG _ m hm1]
 split
 ·exact ev
 rename_i p ht
 have hoi:=hz.ords _ (List.getElem_mem hm1)
 have hlen:(if p.phase=3 then s.orders.eraseIdx m else aY s.orders m p).length<=64:=by
  split
  ·have:=List.length_eraseIdx_le s.orders m;omega
  ·rw[rZ];omega
 refine⟨fun h=>absurd rfl h,fun _=>⟨hm,rfl,by rw[if_pos k6];exact hseq,by rw[if_neg k1];rfl,rfl,rfl,?_,rfl,rfl,hlen,fun _=>⟨rfl,rfl⟩,fun _=>rfl,fun _=>hseq⟩,fun h hrr=> ?_⟩
 ·show(dA _ _).length=_
  rw[gq]
  show(if r.what=3 then aj3 s (ah s.orders m) r.qty else s.cells).length=_
  split
  ·exact rZ _ _ _
  ·rfl
 ·have hro:=h.orders.1 _ (List.getElem_mem hm1)
  have hq3:r.what=3->1<=r.qty:=fun h=>by omega
  have hp:=ahb hoi.1 hro ht hq3 (fun h=>by omega) hrr.qty hrr.price
  obtain⟨k,g1,g2,g3⟩:=ady hs hoi
  have hat:atZ s.symbols p=(k:Int):=by unfold atZ;rw[hp.account,hp.symbol];exact g2
  obtain⟨hev1,hev2⟩:=adF hR h m hm1 k g3 g2 hp hq3
  rw[aaz hR r m hm1 k g3 g2 hat]
  refine⟨h.accounts,h.symbols,⟨fun o ho=> ?_,?_⟩,X6 h.cells ?_,h.limits,h.caps,h.last,hrr.seq,hls h⟩
  ·show mY o
   have ho:o∈(if p.phase=3 then s.orders.eraseIdx m else s.orders.set m p):=ho
   split at ho
   ·exact h.orders.1 o (List.mem_of_mem_eraseIdx ho)
   ·rcases lT ho with h1 | rfl
    ·exact h.orders.1 o h1
    ·exact hp.rng
  ·show(if p.phase=3 then s.orders.eraseIdx m else s.orders.set m p).length<=_
   rw[Tf]at hlen
   omega
  ·show zQ _
   split
   ·rename_i h3;exact(hev2 h3).1
   ·exact hev1.1
theorem acR {α:Type} {l m:List α} (hlen:l.length=m.length) (hn:l.length<999999) {step:Int×Bool->Option ((Int×Bool) ⊕ (Bool ⊕ Bool))}
 (hstep:∀(i:Nat) (h:i<l.length) (h2:i<m.length) (q:Bool),Wq (step ((i:Int),q)) fun r=>(l[i]=m[i]->r= .inl (((i+1:Nat):Int),q))/\(l[i]≠m[i]->r= .inr (.inl false)))
 (hend:∀q,step ((l.length:Int),q)=some (.inr (.inr q))) (q:Bool):Wq (bT step LF (0,q)) fun w=>match w with | .inl b=>b=false/\l≠m | .inr b=>l=m:=by
 refine pF (n:=l.length) hn (fun i _=>∀(j:Nat) (h:j<l.length) (h2:j<m.length),j<i->l[j]=m[j]) _ (fun i x hi hx=> ?_) (fun x hx=> ?_) _ 0 (Nat.zero_le _) (fun j _ _ h=>by omega)
 ·have hi2:i<m.length:=by omega
  refine(hstep i hi hi2 x).mono fun r hr=> ?_
  by_cases e:l[i]=m[i]
  ·rw[hr.1 e]
   refine⟨rfl,fun j h h2 hj=> ?_⟩
   by_cases ej:j=i
   ·subst ej;exact e
   ·exact hx j h h2 (by omega)
  ·rw[hr.2 e]
   refine⟨rfl,fun h=>e ?_⟩
   subst h;rfl
 ·rw[hend x]
  exact(au _).2 (List.ext_getElem hlen fun j h h2=>hx j h h2 h)
theorem anh {α β:Type} (l:List α) (m:List β):(len l=len m)↔l.length=m.length:=by unfold len;omega
theorem abS (a b:aA):(a.id=b.id/\a.account=b.account/\a.symbol=b.symbol/\a.side=b.side/\a.qty=b.qty/\a.price=b.price/\a.filled=b.filled/\a.phase=b.phase/\a.newQty=b.newQty/\a.newPrice=b.newPrice/\a.version=b.version/\a.asked=b.asked)↔a=b:=by
 cases a;cases b;simp
theorem ajQ (a b:aK):(a.pos=b.pos/\a.buy=b.buy/\a.sell=b.sell/\a.opn=b.opn)↔a=b:=by
 cases a;cases b;simp
theorem aeP (a b:dD):(a.long=b.long/\a.short=b.short/\a.opn=b.opn)↔a=b:=by
 cases a;cases b;simp
theorem acJ (a b:ai):(a.accounts=b.accounts/\a.symbols=b.symbols/\a.kill=b.kill/\a.last=b.last/\a.seq=b.seq/\a.lsn=b.lsn/\a.orders=b.orders/\a.cells=b.cells/\a.limits=b.limits/\a.caps=b.caps)↔a=b:=by
 cases a;cases b;simp;grind
def xQ (s:ai):Prop:=s.orders.length<999999/\s.cells.length<999999/\s.limits.length<999999/\s.caps.length<999999
theorem akN {a b:ai} (ha:xQ a):Wq (iV a b) fun r=>r=true↔a=b:=by
 obtain⟨h1,h2,h3,h4⟩:=ha
 unfold iV
 rw[jW]
 have hx:=acJ a b
 refine⟨fun h=>(au _).2 ⟨fun h=>(by cases h),fun h2=> ?_⟩,fun h=> ?_⟩
 ·subst h2
  simp only[bF,dh,dV,eX,bI,bP,dP,eP,dm,fB,bK,bJ,fC,fD]at h
  simp at h
 ·simp only[bF,dh,dV,eX,bI,bP,dP,eP,dm,fB,bK,bJ,fC,fD,anh]at h
  obtain⟨⟨⟨⟨⟨⟨⟨⟨⟨a1,a2⟩,a3⟩,a4⟩,a5⟩,a6⟩,a7⟩,a8⟩,a9⟩,a10⟩:=h
  have e1:a=b↔a.orders=b.orders/\a.cells=b.cells/\a.limits=b.limits/\a.caps=b.caps:=by
   rw[<-hx];exact⟨fun h=>⟨h.2.2.2.2.2.2.1,h.2.2.2.2.2.2.2.1,h.2.2.2.2.2.2.2.2.1,h.2.2.2.2.2.2.2.2.2⟩,fun h=>⟨a1,a2,a3,a4,a5,a6,h⟩⟩
  rw[e1]
  refine Wq.bind (acR (l:=a.orders) (m:=b.orders) a7 h1 (step:=fun v:Int×Bool=>kz b a v.fst v.snd) (fun i h hh q=> ?_) (fun q=> ?_) _) fun w hw=> ?_
  ·simp only[kz]
   rw[aI (by rw[jl];simpa using h),aI (inb _ i h),aI (inb _ i hh),bQ _ i h,bQ _ i hh,jW,au,au,bI,bP,fE (by omega)]
   have:=abS a.orders[i] b.orders[i]
   simp only[bF,dh,dV,eX,bI,bP,dP,eP,dm,fB,bK,bJ,fC,fD]at*
   exact⟨fun h=>⟨fun e=>(by have:=this.2 e;grind),fun _=>trivial⟩,fun h=>⟨fun _=>trivial,fun e=>absurd (this.1 h) e⟩⟩
  ·simp only[kz]
   rw[dN (by rw[show((a.orders.length:Nat):Int)=len a.orders from rfl];simp [ilt])]
  cases w with
  |inl w=>obtain⟨rfl,h⟩:=hw;simp only[qQ,au];simp [h]
  |inr w=>
  simp only[qQ,hw,true_and]
  refine Wq.bind (acR (l:=a.cells) (m:=b.cells) a8 h2 (step:=fun v:Int×Bool=>jG b a v.fst v.snd) (fun i h hh q=> ?_) (fun q=> ?_) _) fun w hw=> ?_
  ·simp only[jG]
   rw[aI (by rw[jl];simpa using h),aI (inb _ i h),aI (inb _ i hh),bQ _ i h,bQ _ i hh,jW,au,au,bI,bP,fE (by omega)]
   have:=ajQ a.cells[i] b.cells[i]
   simp only[bF,dh,dV,eX,bI,bP,dP,eP,dm,fB,bK,bJ,fC,fD]at*
   exact⟨fun h=>⟨fun e=>(by have:=this.2 e;grind),fun _=>trivial⟩,fun h=>⟨fun _=>trivial,fun e=>absurd (this.1 h) e⟩⟩
  ·simp only[jG]
   rw[dN (by rw[show((a.cells.length:Nat):Int)=len a.cells from rfl];simp [ilt])]
  cases w with
  |inl w=>obtain⟨rfl,h⟩:=hw;simp only[qQ,au];simp [h]
  |inr w=>
  simp only[qQ,hw,true_and]
  refine Wq.bind (acR (l:=a.limits) (m:=b.limits) a9 h3 (step:=fun v:Int×Bool=>jJ b a v.fst v.snd) (fun i h hh q=> ?_) (fun q=> ?_) _) fun w hw=> ?_
  ·simp only[jJ]
   rw[aI (by rw[jl];simpa using h),aI (inb _ i h),aI (inb _ i hh),bQ _ i h,bQ _ i hh,jW,au,au,bI,bP,fE (by omega)]
   have:=aeP a.limits[i] b.limits[i]
   simp only[bF,dh,dV,eX,bI,bP,dP,eP,dm,fB,bK,bJ,fC,fD]at*
   exact⟨fun h=>⟨fun e=>(by have:=this.2 e;grind),fun _=>trivial⟩,fun h=>⟨fun _=>trivial,fun e=>absurd (this.1 h) e⟩⟩
  ·simp only[jJ]
   rw[dN (by rw[show((a.limits.length:Nat):Int)=len a.limits from rfl];simp [ilt])]
  cases w with
  |inl w=>obtain⟨rfl,h⟩:=hw;simp only[qQ,au];simp [h]
  |inr w=>
  simp only[qQ,hw,true_and]
  refine Wq.bind (acR (l:=a.caps) (m:=b.caps) a10 h4 (step:=fun v:Int×Bool=>jL b a v.fst v.snd) (fun i h hh q=> ?_) (fun q=> ?_) _) fun w hw=> ?_
  ·simp only[jL]
   rw[aI (by rw[jl];simpa using h),aI (inb _ i h),aI (inb _ i hh),bQ _ i h,bQ _ i hh,jW,au,au,bI,bP,fE (by omega)]
   simp only[bF,dh,dV,eX,bI,bP,dP,eP,dm,fB,bK,bJ,fC,fD]at*
   exact⟨fun h=>⟨fun e=>absurd e h,fun _=>trivial⟩,fun h=>⟨fun _=>trivial,fun e=>absurd h e⟩⟩
  ·simp only[jL]
   rw[dN (by rw[show((a.caps.length:Nat):Int)=len a.caps from rfl];simp [ilt])]
  cases w with
  |inl w=>obtain⟨rfl,h⟩:=hw;simp only[qQ,au];simp [h]
  |inr w=>simp only[qQ,hw,au]
theorem acy {a:ai} (ha:xQ a):iV a a=some true:=by
 obtain⟨b,e,q⟩:=akN (b:=a) ha
 rw[e,q.2 rfl]
theorem ai4 {s:ai} (h:xQ s) (r:mQ):xQ (doS s r).1:=by
 have q:=aoF s r
 by_cases e:(doS s r).2=0
 ·obtain⟨_,_,_,_,_,_,h1,h2,h3,h4,_⟩:=q.good e
  unfold xQ at *; omega
 ·rw[q.bad e];exact h
def aoE {α:Type} (v0:Int) (v1:List α):Option ((Int×List α) ⊕ List α):=cnd (ilt v0 (len v1)) (cnd (band (ile 0 v0) (ile v0 (len v1))) (cnd (band (ile 0 v0) (ile v0 (len v1))) (some (Sum.inl (wr .i64 (ax v0 (jF (len (aC (aH v1 0) (itn v0))) (nti (itn (aG (len v1) v0))))),eu v1 (itn v0) (aC (aC (aH v1 0) (itn v0)) (itn (jF (len (aC (aH v1 0) (itn v0))) (nti (itn (aG (len v1) v0))))))))) none) none) (some (Sum.inr v1))
theorem afJ (a b:Int):jF a b=min a b:=by unfold jF;split<;>omega
theorem ail {α:Type} (x:α) (n m:Nat) (l:List α) (hn:n<999999) (h1:1<=m) (h2:m<=n) (hl:l.length=n) (hx:∀(j:Nat) (h:j<l.length),j<m->l[j]=x):
 Wq (bT (fun v:Int×List α=>aoE v.fst v.snd) LF ((m:Int),l)) fun w=>w=List.replicate n x:=by
 refine adU (fun v:Int×List α=>n - v.1.toNat) (fun v:Int×List α=>∃m:Nat,v.1=(m:Int)/\1<=m/\m<=n/\v.2.length=n/\∀(j:Nat) (h:j<v.2.length),j<m->v.2[j]=x) _ ?_ LF _ (ahI (by simp only;omega)) ⟨m,rfl,h1,h2,hl,hx⟩
 rintro⟨k,y⟩ ⟨i,hk,hi,hi2,hy,hj⟩
 simp only at hk hy hj
 subst hk
 unfold aoE
 by_cases hlt:i<n
 ·rw[aI (by rw[jl];simpa [hy] using hlt),aI (zX (kF (by omega)) (kF (by simp only[len];omega))),aI (zX (kF (by omega)) (kF (by simp only[len];omega))),au]
  have e1:aC (aH y 0) (itn (i:Int))=y.take i:=by simp [aC,aH,itn]
  have e2:jF (len (y.take i)) (nti (itn (aG (len y) (i:Int))))=((min i (n - i):Nat):Int):=by
   rw[afJ];unfold len nti itn aG;rw[List.length_take];omega
  rw[e1,e2]
  have e3:wr .i64 (ax (i:Int) ((min i (n - i):Nat):Int))=((i+min i (n - i):Nat):Int):=by
   rw[dI (by unfold ax;omega) (by unfold ax;omega)];unfold ax;omega
  rw[e3]
  have e4:eu y (itn (i:Int)) (aC (y.take i) (itn ((min i (n - i):Nat):Int)))=y.take i++((y.take i).take (min i (n - i))++y.drop (i+min i (n - i))):=by
   unfold eu aC itn
   simp only[Int.toNat_natCast,List.length_take]
   congr 3;omega
  rw[e4]
  refine⟨⟨_,rfl,by omega,by omega,?_,fun j h hj2=> ?_⟩,?_⟩
  ·simp only[List.length_append,List.length_take,List.length_drop];omega
  ·simp only[List.getElem_append,List.length_take]
   split
   ·rw[List.getElem_take];exact hj j (by omega) (by omega)
   ·split
    ·rw[List.getElem_take,List.getElem_take];exact hj _ (by omega) (by omega)
    ·omega
  ·simp only[Int.toNat_natCast];omega
 ·have hin:i=n:=by omega
  subst hin
  rw[dN (by rw[jl];simp [hy]),au]
  exact List.eq_replicate_iff.2 ⟨hy,fun b hb=>by obtain⟨j,h,rfl⟩:=List.getElem_of_mem hb;exact hj j h (by simp only at h;omega)⟩
theorem alP (n:Nat) (hn:n<=64):ru (wr .u64 1) (wr .u64 (n:Int))=some (0,(n:Int)):=by
 have e:wr .u64 (n:Int)=(n:Int):=by
  have:∀k:Fin 65,wr .u64 ((k:Nat):Int)=((k:Nat):Int):=by decide
  exact this ⟨n,by omega⟩
 have e1:wr .u64 1=1:=by decide
 unfold ru
 rw[e,e1,ahz (by decide) (by decide) (by omega) (by omega),aj]
 congr 1
 refine Prod.ext ?_ ?_<;>simp only<;>omega
theorem ab8 {α:Type} [Inhabited α] (x:α) (n:Nat) (h1:1<=n) (h2:n<=64):
 (jF (len [x]) (len (iQ α (itn (wr .i64 (n:Int))))),eu (iQ α (itn (wr .i64 (n:Int)))) 0 (aC [x] (itn (jF (len [x]) (len (iQ α (itn (wr .i64 (n:Int)))))))))=(((1:Nat):Int),x::List.replicate (n - 1) default):=by
 have e:wr .i64 (n:Int)=(n:Int):=dI (by omega) (by omega)
 have e2:jF (len [x]) (len (iQ α n))=1:=by rw[afJ];unfold len iQ;simp;omega
 have e3:itn (n:Int)=n:=Int.toNat_natCast n
 have e4:itn 1=1:=rfl
 rw[e,e3,e2,e4]
 refine Prod.ext rfl ?_
 show []++([x]++(List.replicate n default).drop (0+1))=_
 simp
theorem ahc (x:dD) (n:Nat) (h1:1<=n) (h2:n<=64):kX [x] (n:Int)=some (List.replicate n x):=by
 refine Wq.eq ?_
 unfold kX
 have e:wr .i64 (n:Int)=(n:Int):=dI (by omega) (by omega)
 rw[dN (BD (by omega)),show len [x]=1 from rfl,alP n h2,aj,dN (by simp only[bF,dh,dV,eX,bI,bP,dP,eP,dm,fB,bK,bJ,fC,fD];omega)]
 rw[aI (by simp only[e,bF,dh,dV,eX,bI,bP,dP,eP,dm,fB,bK,bJ,fC,fD];omega)]
 refine Wq.bind (Q:=fun w=>w=List.replicate n x) ?_ fun w hw=>by rw[au];exact hw
 have:=ab8 x n h1 h2
 rw[show len [x]=1 from rfl]at this
 simp only at this ⊢
 rw[this]
 exact ail x n 1 _ (by omega) (Nat.le_refl _) h1 (by simp;omega) fun j h hj=>by
  obtain rfl:j=0:=by omega
  rfl
theorem ai9 (x:Int) (n:Nat) (h1:1<=n) (h2:n<=64):mW [x] (n:Int)=some (List.replicate n x):=by
 refine Wq.eq ?_
 unfold mW
 have e:wr .i64 (n:Int)=(n:Int):=dI (by omega) (by omega)
 rw[dN (BD (by omega)),show len [x]=1 from rfl,alP n h2,aj,dN (by simp only[bF,dh,dV,eX,bI,bP,dP,eP,dm,fB,bK,bJ,fC,fD];omega)]
 rw[aI (by simp only[e,bF,dh,dV,eX,bI,bP,dP,eP,dm,fB,bK,bJ,fC,fD];omega)]
 refine Wq.bind (Q:=fun w=>w=List.replicate n x) ?_ fun w hw=>by rw[au];exact hw
 have:=ab8 x n h1 h2
 rw[show len [x]=1 from rfl]at this
 simp only at this ⊢
 rw[this]
 exact ail x n 1 _ (by omega) (Nat.le_refl _) h1 (by simp;omega) fun j h hj=>by
  obtain rfl:j=0:=by omega
  rfl
def zS:ai:=⟨0,0,[],[],[],[],false,0,0,0⟩
def newS (n m:Int) (l:dD) (c:Int):ai:=⟨n,m,[],List.replicate (n*m).toNat zC,List.replicate (n*m).toNat l,List.replicate n.toNat c,false,0,0,0⟩
def V7 (n m:Int):Prop:=1<=n/\n<=8/\1<=m/\m<=8
theorem ads {n m:Int} (h:V7 n m):1<=n*m/\n*m<=64:=
 ⟨by have:=Int.mul_le_mul h.1 h.2.2.1 (by omega) (by have:=h.1;omega);omega,by have:=Int.mul_le_mul h.2.1 h.2.2.2 (by have:=h.2.2.1;omega) (by omega);omega⟩
theorem aoI:okC zC:=by decide
theorem ZB:∀k,pO (List.replicate k zC)=0
 |0=>rfl
 |k+1=>by
  have:=ZB k
  unfold pO at*
  rw[List.replicate_succ,List.map_cons,List.sum_cons,this];rfl
theorem abG {n m:Int} (h:V7 n m) (l:dD) (c:Int):gu (newS n m l c)↔(OE l/\0<=c):=by
 obtain⟨q1,q2⟩:=ads h
 obtain⟨d1,d2,d3,d4⟩:=h
 constructor
 ·intro hR
  exact⟨hR.fine.lims l (List.mem_replicate.2 ⟨by omega,rfl⟩),hR.fine.caps c (List.mem_replicate.2 ⟨by omega,rfl⟩)⟩
 ·rintro⟨h1,h2⟩
  refine⟨?_,?_,?_,?_,?_⟩
  ·refine⟨⟨d1,d2⟩,⟨d3,d4⟩,?_,?_,?_,?_⟩<;>simp only[newS,len,List.length_replicate,List.length_nil]<;>omega
  ·exact⟨fun o h=>(by cases h),List.Pairwise.nil,fun o h=>(by cases h),⟨Int.le_refl _,by show(0:Int)<=_;decide⟩,⟨Int.le_refl _,by show(0:Int)<=_;decide⟩,⟨Int.le_refl _,by show(0:Int)<=_;decide⟩,fun x hx=>by rw[List.eq_of_mem_replicate hx];exact h1,fun x hx=>by rw[List.eq_of_mem_replicate hx];exact h2⟩
  ·refine List.ext_getElem (by rw[gq]) fun i g1 g2=> ?_
   rw[kR]
   simp only[newS,List.getElem_replicate]
   rfl
  ·intro c hc
   rw[List.eq_of_mem_replicate hc];exact aoI
  ·intro a h3 h4
   have:rQ (newS n m l c).symbols (newS n m l c).cells a=List.replicate (rQ (newS n m l c).symbols (newS n m l c).cells a).length zC:=
    List.eq_replicate_iff.2 ⟨rfl,fun b hb=>List.eq_of_mem_replicate (Vb hb)⟩
   rw[this,ZB];decide
theorem akM {n m:Int} (h:V7 n m) {l:dD} {c:Int} (hl:MX l) (hc:inI c):iF (newS n m l c)/\xQ (newS n m l c):=by
 obtain⟨q1,q2⟩:=ads h
 obtain⟨d1,d2,d3,d4⟩:=h
 refine⟨⟨?_,?_,?_,?_,?_,?_,?_,?_,?_⟩,?_⟩
 ·show inI n
  unfold inI;omega
 ·show inI m
  unfold inI;omega
 ·exact⟨fun o h=>(by cases h),Nat.zero_le _⟩
 ·exact⟨fun c hc=>by rw[List.eq_of_mem_replicate hc];exact aoI.1,by simp only[newS,List.length_replicate];omega⟩
 ·exact⟨fun c hc=>by rw[List.eq_of_mem_replicate hc];exact hl,by simp only[newS,List.length_replicate];omega⟩
 ·exact⟨fun c hc=>by rw[List.eq_of_mem_replicate hc];assumption,by simp only[newS,List.length_replicate];omega⟩
 ·exact(show inI 0 by decide)
 ·exact(show inI 0 by decide)
 ·exact(show inI 0 by decide)
 ·unfold xQ newS;simp only[List.length_replicate,List.length_nil];omega
open Classical in
theorem agn {n m:Int} {l:dD} {c:Int} (hl:MX l) (hc:inI c):xI n m l c=some (if V7 n m/\OE l/\0<=c then (newS n m l c,0)else (zS,1)):=by
 refine Wq.eq ?_
 unfold xI
 rw[LY]
 by_cases h:V7 n m
 case neg=>
  rw[if_pos (by simp only[bF,dh,dV,eX,bI,bP,dP,eP,dm,fB,bK,bJ,fC,fD];unfold V7 at h;omega),if_neg (fun h2=>h h2.1),au];rfl
 obtain⟨q1,q2⟩:=ads h
 have hd:=id h
 unfold V7 at hd
 rw[if_neg (by simp only[bF,dh,dV,eX,bI,bP,dP,eP,dm,fB,bK,bJ,fC,fD];omega)]
 have ew:wr .i64 (jq n m)=(((n*m).toNat:Nat):Int):=by
  rw[dI (by unfold jq;omega) (by unfold jq;omega)];unfold jq;omega
 rw[ew,aI (by simp only[bF,dh,dV,eX,bI,bP,dP,eP,dm,fB,bK,bJ,fC,fD];omega),ahc l _ (by omega) (by omega),aj]
 have en:n=((n.toNat:Nat):Int):=by omega
 have er:=ai9 c n.toNat (by omega) (by omega)
 rw[<-en]at er
 rw[er,aj]
 have es:ai.mk n m [] (iQ aK (itn (((n*m).toNat:Nat):Int))) (List.replicate (n*m).toNat l) (List.replicate n.toNat c) false 0 0 0=newS n m l c:=rfl
 rw[es]
 obtain⟨o1,o2⟩:=akM h hl hc
 refine(BQ _ o1 o2.1 o2.2.2.1 o2.2.2.2).bind fun b hb=> ?_
 rw[abG h]at hb
 rw[LY]
 by_cases hlc:OE l/\0<=c
 ·rw[if_pos (show V7 n m/\OE l/\0<=c from⟨h,hlc⟩),if_neg (by rw[hb.2 hlc];decide),au]
 ·rw[if_neg (fun h2:V7 n m/\OE l/\0<=c=>hlc h2.2),if_pos (by rw[bI];cases e:b with | false=>rfl | true=>exact absurd (hb.1 e) hlc),au];rfl
theorem WT {α β:Type} (l:List α) {i:Nat} (h:i<l.length) (x y z:β):cnd (ilt (i:Int) (len l)) (cnd (band (ile 0 (i:Int)) (ilt (i:Int) (len l))) x y) z=x:=by
 rw[aI (b:=ilt _ _) (CX (by unfold len;omega)),aI (inb l i h)]
theorem RQ {α β:Type} (l:List α) (x y:β):cnd (ilt (l.length:Int) (len l)) x y=y:=dN (BD (by unfold len;omega))
def tq (n:Int):Nat->List Int
 |0=>[]
 |k+1=>(n / 256^k%256)::tq n k
theorem rW (n:Int):∀k,(tq n k).length=k
 |0=>rfl
 |k+1=>by rw[tq,List.length_cons,rW n k]
def fM (l:List Int):Prop:=∀x∈l,0<=x/\x<=255
theorem Ld (n:Int):∀k,fM (tq n k)
 |0=>by intro x hx;cases hx
 |k+1=>by
  intro x hx
  rcases List.mem_cons.1 hx with rfl | hx
  ·have h1:=Int.emod_nonneg (n / 256^k) (b:=256) (by decide)
   have h2:=Int.emod_lt_of_pos (n / 256^k) (b:=256) (by decide)
   omega
  ·exact Ld n k x hx
theorem fM.app {a b:List Int} (h:fM a) (k:fM b):fM (a++b):=fun x hx=>by
 rcases List.mem_append.1 hx with h1 | h1
 ·exact h x h1
 ·exact k x h1
theorem fM.drop {l:List Int} (h:fM l) (n:Nat):fM (l.drop n):=fun x hx=>h x (List.mem_of_mem_drop hx)
theorem fM.take {l:List Int} (h:fM l) (n:Nat):fM (l.take n):=fun x hx=>h x (List.mem_of_mem_take hx)
theorem fM.get {l:List Int} (h:fM l) {i:Nat} (hi:i<l.length):0<=l[i]/\l[i]<=255:=h _ (List.getElem_mem hi)
theorem GH {α:Type} {f:α->List Int} {l:List α} (h:∀x∈l,fM (f x)):fM (l.flatMap f):=fun x hx=>by
 obtain⟨y,h1,h2⟩:=List.mem_flatMap.1 hx
 exact h y h1 x h2
theorem aej (n:Int):wr .u8 n=n%256:=by
 unfold wr IntKind.wrap
 simp [IntKind.bits,IntKind.signed]
theorem akP (n:Int):wr .u32 n=n%4294967296:=by
 unfold wr IntKind.wrap
 simp [IntKind.bits,IntKind.signed]
theorem apR {W X:Type} {step:Int×X->Option ((Int×X) ⊕ W)} {n:Nat} (hn:n<999999) (J:Nat->X->Prop) (R:W->Prop)
 (h:∀i x,i<n->J (i+1) x->Wq (step ((i:Int),x)) fun r=>match r with | .inl (k,x')=>k=(i:Int) - 1/\J i x' | .inr w=>R w)
 (he:∀x,J 0 x->Wq (step (-1,x)) fun r=>match r with | .inl _=>False | .inr w=>R w)
 (x:X) (hx:J n x):Wq (bT step LF ((n:Int) - 1,x)) R:=by
 refine adU (fun v:Int×X=>(v.1+1).toNat) (fun v:Int×X=>∃i:Nat,v.1=(i:Int) - 1/\i<=n/\J i v.2) R ?_ LF _ (ahI (by simp only;omega)) ⟨n,rfl,Nat.le_refl _,hx⟩
 rintro⟨k,y⟩ ⟨i,rfl,hi,hj⟩
 cases i with
 |zero=>
  refine(he y hj).mono fun r hr=> ?_
  match r,hr with
  |.inl _,hr=>exact hr.elim
  |.inr w,hr=>exact hr
 |succ i=>
  have e:((i+1:Nat):Int) - 1=(i:Int):=by omega
  rw[e]
  refine(h i y (by omega) hj).mono fun r hr=> ?_
  match r,hr with
  |.inl (k,x'),hr=>
   obtain⟨rfl,h2⟩:=hr
   exact⟨⟨i,rfl,by omega,h2⟩,by simp only;omega⟩
  |.inr w,hr=>exact hr
theorem ahA {i:Nat} (h:i<1000000):wr .i64 (aG (i:Int) 1)=(i:Int) - 1:=by
 unfold aG
 exact Ky ⟨by omega,by omega⟩
theorem byte_of {n:Int} {i:Nat} (hi:i<8):ile 0 (wr .i64 (jq 8 (i:Int)))=true/\wr .u8 (dG .i64 n (wr .i64 (jq 8 (i:Int))))=n / 256^i%256:=by
 have h1:wr .i64 (jq 8 (i:Int))=((8*i:Nat):Int):=by
  unfold jq
  rw[dI (by omega) (by omega)];omega
 have h2:min (((8*i:Nat):Int).toNat) (IntKind.bits .i64)=8*i:=by
  simp only[IntKind.bits,Int.toNat_natCast];omega
 rw[h1]
 refine⟨kF (by omega),?_⟩
 unfold dG
 rw[h2,Int.pow_mul,aej,Int.fdiv_eq_ediv_of_nonneg _ (Int.le_of_lt (Int.pow_pos (by decide)))]
 rfl
theorem adl {α:Type} {l:List α} {n:Nat} (h:l.length<=n) (hn:n<68719476736):ile (len l) 68719476736=true:=kF (by unfold len;omega)
theorem adn (n:Int) (k:Nat) (a:List Int):(a++tq n k).length=a.length+k:=by rw[List.length_append,rW]
theorem s_put {n:Int} {acc:List Int} (k:Nat) (hk:k<=8) (hl:acc.length<1000000):bT (fun v:Int×List Int=>nD n v.1 v.2) LF ((k:Int) - 1,acc)=some (acc++tq n k):=by
 refine Wq.eq (apR (n:=k) (by omega) (fun i x=>x++tq n i=acc++tq n k/\x.length+i=acc.length+k) _ (fun i x hi hj=> ?_) (fun x hj=> ?_) acc ⟨rfl,rfl⟩)
 ·obtain⟨h1,h2⟩:=byte_of (n:=n) (i:=i) (by omega)
  simp only
  unfold nD
  rw[h2,aI (kF (by omega)),aI h1,aI (adl (n:=1000100) (by simp only[jc,List.length_append,List.length_cons,List.length_nil];omega) (by decide)),au]
  refine⟨ahA (by omega),?_,?_⟩
  ·rw[<-hj.1]
   show(x++[_])++tq n i=x++(_::tq n i)
   rw[List.append_assoc];rfl
  ·simp only[jc,List.length_append,List.length_cons,List.length_nil];omega
 ·simp only
  unfold nD
  rw[dN (Oy (by omega)),au]
  have:=hj.1
  simpa [tq] using this
theorem ab6 {acc:List Int} (k:Nat) (h0:0<k) (hk:k<=8) {l:List Int} (hl:acc.length+8*l.length<1000000):qi acc (k:Int) l=some (acc++l.flatMap fun n=>tq n k):=by
 have hn:l.length<999999:=by omega
 refine Wq.eq ?_
 unfold qi
 refine Wq.bind (Q:=fun y=>y=acc++l.flatMap fun n=>tq n k) ?_ fun y hy=>(au _).2 hy
 refine pF hn (fun i x=>x=acc++(l.take i).flatMap (fun n=>tq n k)/\x.length=acc.length+k*i) _ (fun i x hi hj=> ?_) (fun x hj=> ?_) acc 0 (Nat.zero_le _) ⟨by simp,by simp⟩
 ·simp only
  unfold uh
  have hki:k*i<=8*i:=Nat.mul_le_mul_right _ hk
  rw[WT l hi,bQ l i hi]
  have e:wr .i64 (aG (k:Int) 1)=(k:Int) - 1:=ahA (by omega)
  rw[e,s_put k hk (by omega),aj,au]
  refine⟨fE (by omega),?_,?_⟩
  ·rw[List.take_succ_eq_append_getElem hi,List.flatMap_append,hj.1]
   simp
  ·rw[adn,hj.2,Nat.mul_add];omega
 ·simp only
  unfold uh
  rw[RQ,au,hj.1,List.take_length]
theorem afb {acc:List Int} (k:Nat) (h0:0<k) (hk:k<=8) {l:List Int} (hl:acc.length+8*l.length<1000000):jS acc (k:Int) l=some (acc++l.flatMap fun n=>tq n k):=ab6 k h0 hk hl
def unZ (l:List Int):Int:=l.foldl (fun n b=>n*256+b) 0
theorem ame (l:List Int) (b:Int):unZ (l++[b])=unZ l*256+b:=by unfold unZ;rw[List.foldl_append];rfl
theorem ak8 (n c:Int):wr .i64 (wr .i64 n*256+c)=wr .i64 (n*256+c):=by
 unfold wr IntKind.wrap
 simp [IntKind.bits,IntKind.signed]
 omega
theorem aeS (n:Int):wr .i64 (n%18446744073709551616)=wr .i64 n:=by
 unfold wr IntKind.wrap
 simp [IntKind.bits,IntKind.signed]
theorem adP (a c:Int) (h1:0<=c) (h2:c<=255):wr .i64 (ior .i64 (wr .i64 (pU .i64 a 8)) (wr .i64 c))=wr .i64 (a*256+c):=by
 have e1:pU .i64 a 8=a*256:=rfl
 have e2:wr .i64 c=c:=dI h1 (by omega)
 rw[e1,e2,<-aeS (a*256+c)]
 congr 1
 unfold ior
 rw[BitVec.toNat_or,BitVec.toNat_ofInt,BitVec.toNat_ofInt]
 have e3:((2^IntKind.bits .i64:Nat):Int)=18446744073709551616:=by decide
 rw[e3]
 have e4:wr .i64 (a*256)%18446744073709551616=((a%72057594037927936).toNat*256:Nat):=by
  have:wr .i64 (a*256)%18446744073709551616=a*256%18446744073709551616:=by
   unfold wr IntKind.wrap
   simp [IntKind.bits,IntKind.signed]
   omega
  rw[this];omega
 have e5:c%18446744073709551616=(c.toNat:Int):=by omega
 rw[e4,e5,Int.toNat_natCast,Int.toNat_natCast]
 have e6:=Nat.shiftLeft_add_eq_or_of_lt (i:=8) (b:=c.toNat) (by omega) (a%72057594037927936).toNat
 rw[Nat.shiftLeft_eq]at e6
 rw[show(a%72057594037927936).toNat*256=(a%72057594037927936).toNat*2^8 from rfl,<-e6]
 omega
theorem aoD {r:fJ} {k:Nat} (hk:k<=r.rest.length) (hn:k<999999) (hb:fM r.rest):cZ r (k:Int)=some (⟨r.rest.drop k,r.odd⟩,wr .i64 (unZ (r.rest.take k))):=by
 refine Wq.eq ?_
 unfold cZ
 have h1:band (ile 0 (k:Int)) (ile (k:Int) (len r.rest))=true:=zX (kF (by omega)) (kF (by unfold len;omega))
 have e:aC r.rest (itn (k:Int))=r.rest.take k:=by simp [aC,itn]
 rw[h1,bG,e]
 have hlen:(r.rest.take k).length=k:=by rw[List.length_take];omega
 refine Wq.bind (Q:=fun y=>y=wr .i64 (unZ (r.rest.take k))) ?_ fun y hy=> ?_
 ·have hn':(r.rest.take k).length<999999:=by omega
  refine pF hn' (fun i x=>x=wr .i64 (unZ ((r.rest.take k).take i))) _ (fun i x hi hj=> ?_) (fun x hj=> ?_) 0 0 (Nat.zero_le _) (by simp [unZ];rfl)
  ·simp only
   unfold pI
   obtain⟨b1,b2⟩:=(hb.take k).get hi
   rw[WT _ hi,bQ _ i hi,au,adP _ _ b1 b2,hj,ak8]
   refine⟨fE (by omega),?_⟩
   rw[List.take_succ_eq_append_getElem hi,ame]
  ·simp only
   unfold pI
   rw[RQ,au,hj,List.take_length]
 ·subst hy
  rw[bG,au]
  simp [aH,itn]
theorem ajD (l:List Int) (a:Int):l.foldl (fun n b=>n*256+b) a=a*256^l.length+unZ l:=by
 induction l generalizing a with
 |nil=>simp [unZ]
 |cons b l ih=>
  unfold unZ
  rw[List.foldl_cons,List.foldl_cons,ih,ih (0*256+b),List.length_cons,Int.pow_succ]
  simp only[Int.zero_mul,Int.zero_add,Int.add_mul]
  rw[Int.mul_assoc,Int.mul_comm 256];omega
theorem TR (b:Int) (l:List Int):unZ (b::l)=b*256^l.length+unZ l:=by
 have:=ajD l (0*256+b)
 unfold unZ at*
 rw[List.foldl_cons,this];simp
theorem aij:∀ {l:List Int},fM l->0<=unZ l/\unZ l<256^l.length
 |[],_=>by simp [unZ]
 |b::l,h=>by
  obtain⟨h1,h2⟩:=aij (l:=l) fun x hx=>h x (by simp [hx])
  obtain⟨b1,b2⟩:=h b (by simp)
  rw[TR,List.length_cons,Int.pow_succ]
  have hp:(0:Int)<256^l.length:=Int.pow_pos (by decide)
  have q1:0<=b*256^l.length:=Int.mul_nonneg b1 (by omega)
  have q2:b*256^l.length<=255*256^l.length:=Int.mul_le_mul_of_nonneg_right b2 (by omega)
  exact⟨by omega,by omega⟩
theorem adg (n:Int):∀k,unZ (tq n k)=n%256^k
 |0=>by simp [tq,unZ,Int.emod_one]
 |k+1=>by
  rw[tq,TR,rW,adg n k,Int.pow_succ]
  have hp:(0:Int)<256^k:=Int.pow_pos (by decide)
  have h1:n / 256^k%256=n / 256^k - 256*(n / 256^k / 256):=Int.emod_def _ _
  have h2:n / 256^k / 256=n / (256^k*256):=Int.ediv_ediv_of_nonneg (by omega)
  rw[h1,h2,Int.emod_def n (256^k),Int.emod_def n (256^k*256),Int.sub_mul]
  have h3:n / 256^k*256^k=256^k*(n / 256^k):=Int.mul_comm _ _
  have h4:256*(n / (256^k*256))*256^k=256^k*256*(n / (256^k*256)):=by
   rw[Int.mul_comm (256*_),<-Int.mul_assoc]
  rw[h3,h4];omega
theorem ZF {m:Int}:∀(k:Nat) (n q:Int),m=n+q*256^k->tq m k=tq n k
 |0,_,_,_=>rfl
 |k+1,n,q,h=>by
  rw[Int.pow_succ]at h
  have hp:(256:Int)^k≠0:=by have:(0:Int)<256^k:=Int.pow_pos (by decide);omega
  have e:m=n+q*256*256^k:=by
   rw[h,<-Int.mul_assoc,Int.mul_assoc q,Int.mul_comm _ 256,<-Int.mul_assoc]
  rw[tq,tq,ZF k n (q*256) e,e,Int.add_mul_ediv_right _ _ hp,Int.mul_comm q 256,Int.add_mul_emod_self_left]
theorem air:∀ {l:List Int},fM l->tq (unZ l) l.length=l
 |[],_=>rfl
 |b::l,h=>by
  have hl:fM l:=fun x hx=>h x (by simp [hx])
  obtain⟨h1,h2⟩:=aij hl
  obtain⟨b1,b2⟩:=h b (by simp)
  have hp:(256:Int)^l.length≠0:=by have:(0:Int)<256^l.length:=Int.pow_pos (by decide);omega
  rw[List.length_cons,tq,ZF l.length (unZ l) b (by rw[TR,Int.add_comm]),air hl,TR,Int.add_comm,Int.add_mul_ediv_right _ _ hp,Int.ediv_eq_zero_of_lt h1 h2]
  congr 1
  omega
theorem apx (n:Int):∃q,wr .i64 n=n+q*256^8:=by
 have:(256:Int)^8=18446744073709551616:=by decide
 rw[this]
 unfold wr IntKind.wrap
 simp [IntKind.bits,IntKind.signed]
 exact⟨-((n+9223372036854775808) / 18446744073709551616),by omega⟩
theorem apG (n:Int):tq (wr .i64 n) 8=tq n 8:=by
 obtain⟨q,h⟩:=apx n
 exact ZF 8 n q h
theorem aii {n:Int} (h:inI n):wr .i64 (unZ (tq n 8))=n:=by
 rw[adg]
 have:(256:Int)^8=18446744073709551616:=by decide
 rw[this,aeS,Ky h]
theorem aoA {n:Int} (h1:0<=n) (h2:n<256):wr .i64 (unZ (tq n 1))=n:=by
 rw[adg]
 have:(256:Int)^1=256:=by decide
 rw[this,Int.emod_eq_of_lt h1 h2,dI h1 (by omega)]
theorem ahi {l:List Int} (h:fM l) (hl:l.length=8):tq (wr .i64 (unZ l)) 8=l:=by
 rw[apG,<-hl,air h]
abbrev B32:=BitVec 32
def hB (x:B32):B32:=(x >>> 1) ^^^ (if x.getLsbD 0 then 0xedb88320#32 else 0#32)
def hN:Nat->B32->B32
 |0,x=>x
 |n+1,x=>hN n (hB x)
theorem ao0 (x y:B32):hB (x ^^^ y)=hB x ^^^ hB y:=by
 unfold hB
 rw[BitVec.ushiftRight_xor_distrib,BitVec.getLsbD_xor]
 cases x.getLsbD 0<;>cases y.getLsbD 0<;>simp [BitVec.xor_assoc]
 ·rw[BitVec.xor_comm (y >>> 1)]
 ·rw[<-BitVec.xor_assoc (3988292384#32),BitVec.xor_comm (3988292384#32) (y >>> 1),BitVec.xor_assoc];simp
theorem akA:∀(n:Nat) (x y:B32),hN n (x ^^^ y)=hN n x ^^^ hN n y
 |0,_,_=>rfl
 |n+1,x,y=>by rw[hN,hN,hN,ao0,akA n]
theorem apn {y:B32} (h:y.getLsbD 31=false):hB (y <<< 1)=y:=by
 unfold hB
 have h0:(y <<< 1).getLsbD 0=false:=by simp
 rw[h0]
 refine BitVec.eq_of_getLsbD_eq fun i hi=> ?_
 simp only[BitVec.getLsbD_xor,BitVec.getLsbD_ushiftRight,BitVec.getLsbD_shiftLeft]
 by_cases h31:i=31
 ·subst h31
  have:y[31]=false:=by simpa using h
  simp [this]
 ·have:1+i<32:=by omega
  simp [this]
theorem akJ:∀(k:Nat) (y:B32),k<=32->(∀j,32 - k<=j->y.getLsbD j=false)->hN k (y <<< k)=y
 |0,y,_,_=>by simp [hN]
 |k+1,y,hk,h=>by
  have e:y <<< (k+1)=(y <<< k) <<< 1:=by rw[BitVec.shiftLeft_add]
  rw[hN,e,apn,akJ k y (by omega) fun j hj=>h j (by omega)]
  rw[BitVec.getLsbD_shiftLeft,h (31 - k) (by omega)]
  simp
theorem aeg:∀(a b:Nat) (x:B32),hN (a+b) x=hN b (hN a x)
 |0,b,x=>by rw[Nat.zero_add];rfl
 |a+1,b,x=>by rw[Nat.add_right_comm,hN,hN,aeg a]
theorem aol (x:B32):hN 4 (x &&& 15#32) ^^^ (x >>> 4)=hN 4 x:=by
 have hs:=akJ 4 (x >>> 4) (by decide) fun j hj=>by
  rw[BitVec.getLsbD_ushiftRight];exact BitVec.getLsbD_of_ge _ _ (by omega)
 have e:x=(x &&& 15#32) ^^^ ((x >>> 4) <<< 4):=by
  refine BitVec.eq_of_getLsbD_eq fun i hi=> ?_
  simp only[BitVec.getLsbD_xor,BitVec.getLsbD_and,BitVec.getLsbD_shiftLeft,BitVec.getLsbD_ushiftRight]
  by_cases h4:i<4
  ·have h15:(15#32).getLsbD i=true:=by
    have:i=0\/i=1\/i=2\/i=3:=by omega
    rcases this with rfl | rfl | rfl | rfl<;>rfl
   rw[h15]
   simp [h4]
  ·have h15:(15#32).getLsbD i=false:=by
    have:(15#32)=BitVec.ofNat 32 15:=rfl
    rw[this,BitVec.getLsbD_ofNat]
    have:Nat.testBit 15 i=false:=Nat.testBit_lt_two_pow (Nat.lt_of_lt_of_le (by decide:15<2^4) (Nat.pow_le_pow_right (by decide) (by omega)))
    simp [this]
   have:4+(i - 4)=i:=by omega
   rw[h15,this]
   simp [h4,hi]
 conv=>rhs;rw[e,akA,hs]
def ofB (b:Int):B32:=BitVec.ofInt 32 b
def toI (x:B32):Int:=(x.toNat:Int)
theorem anB (x:B32):0<=toI x/\toI x<4294967296:=by
 have:=x.isLt
 unfold toI
 omega
theorem Ym (x:B32):ofB (toI x)=x:=by
 apply BitVec.eq_of_toNat_eq
 unfold ofB toI
 rw[BitVec.toNat_ofInt]
 have:=x.isLt
 omega
theorem anp {b:Int} (h1:0<=b) (h2:b<4294967296):toI (ofB b)=b:=by
 unfold ofB toI
 rw[BitVec.toNat_ofInt]
 omega
theorem al5 (x:B32):wr .u32 (toI x)=toI x:=by
 have:=anB x
 rw[akP];omega
theorem QL (x y:B32):wr .u32 (gJ .u32 (toI x) (toI y))=toI (x ^^^ y):=by
 have:gJ .u32 (toI x) (toI y)=toI (x ^^^ y):=by
  show((BitVec.ofInt 32 (toI x) ^^^ BitVec.ofInt 32 (toI y)).toNat:Int)=_
  have h1:=Ym x
  have h2:=Ym y
  unfold ofB at h1 h2
  rw[h1,h2];rfl
 rw[this,al5]
theorem af0 (x y:B32):wr .u32 (oH .u32 (toI x) (toI y))=toI (x &&& y):=by
 have:oH .u32 (toI x) (toI y)=toI (x &&& y):=by
  show((BitVec.ofInt 32 (toI x) &&& BitVec.ofInt 32 (toI y)).toNat:Int)=_
  have h1:=Ym x
  have h2:=Ym y
  unfold ofB at h1 h2
  rw[h1,h2];rfl
 rw[this,al5]
theorem alj (x:B32) (k:Nat) (hk:k<=32):dG .u32 (toI x) (k:Int)=toI (x >>> k):=by
 unfold dG toI
 have:min ((k:Int).toNat) (IntKind.bits .u32)=k:=by simp only[IntKind.bits,Int.toNat_natCast];omega
 rw[this,Int.fdiv_eq_ediv_of_nonneg _ (Int.le_of_lt (Int.pow_pos (by decide))),BitVec.toNat_ushiftRight,Nat.shiftRight_eq_div_pow]
 simp
theorem aeM {b:Int} (h1:0<=b) (h2:b<=255):wr .u32 b=toI (ofB b):=by
 rw[anp h1 (by omega),akP];omega
theorem aqu (x:B32):(toI x%2=1)↔x.getLsbD 0=true:=by
 unfold toI
 rw[BitVec.getLsbD,Nat.testBit_zero]
 simp only[decide_eq_true_eq]
 omega
theorem MV (x:B32):bY (toI x)=some (toI (hN 4 x)):=by
 refine Wq.eq ?_
 unfold bY
 refine Wq.bind (Q:=fun y=>y=toI (hN 4 x)) ?_ fun y hy=>(au _).2 hy
 refine pF (n:=4) (by decide) (fun i v=>v=toI (hN i x)) _ (fun i v hi hj=> ?_) (fun v hj=> ?_) _ 0 (by decide) rfl
 ·subst hj
  simp only
  unfold zx
  rw[aI (CX (by omega))]
  have e1:(1:Int)=toI 1#32:=rfl
  have e15:(3988292384:Int)=toI 3988292384#32:=rfl
  have e2:dG .u32 (toI (hN i x)) 1=toI (hN i x >>> 1):=alj _ 1 (by decide)
  rw[e2,e15,QL]
  have hb:wr .u32 (oH .u32 (toI (hN i x)) 1)=toI (hN i x &&& 1#32):=by conv=>lhs;rw[e1,af0]
  rw[hb,aeg i 1]
  have hl:(ieq (toI (hN i x &&& 1#32)) 1=true)↔(hN i x).getLsbD 0=true:=by
   rw[bK,<-aqu]
   unfold toI
   have:(hN i x &&& 1#32).toNat=(hN i x).toNat%2:=by
    rw[BitVec.toNat_and]
    exact Nat.and_two_pow_sub_one_eq_mod _ 1
   rw[this];omega
  cases hc:ieq (toI (hN i x &&& 1#32)) 1 with
  |true=>
   rw[bG,au]
   refine⟨fE (by omega),?_⟩
   show _=toI (hB (hN i x))
   unfold hB
   rw[if_pos (hl.1 hc)]
  |false=>
   rw[bn,au]
   refine⟨fE (by omega),?_⟩
   show _=toI (hB (hN i x))
   unfold hB
   rw[if_neg (fun h=>by rw[hl.2 h]at hc;cases hc),BitVec.xor_zero]
 ·subst hj
  simp only
  unfold zx
  rw[dN (BD (by omega)),au]
def ones:B32:=BitVec.allOnes 32
def abd (n:B32) (l:List Int):B32:=l.foldl (fun n b=>hN 8 (n ^^^ ofB b)) n
def xA (l:List Int):Int:=toI (ones ^^^ abd ones l)
theorem ami (n:B32) (a b:List Int):abd n (a++b)=abd (abd n a) b:=List.foldl_append
theorem abl {l:List Int} (hl:l.length<999999) (hb:fM l):Gl l=some (xA l):=by
 refine Wq.eq ?_
 unfold Gl LG
 have e0:(4294967295:Int)=toI ones:=rfl
 have e00:(0:Int)=toI 0#32:=rfl
 have e15:(15:Int)=toI 15#32:=rfl
 refine Wq.bind (Q:=fun y=>y=xA l) (Wq.bind (Q:=fun y=>y=toI (abd ones l)) ?_ fun y hy=> ?_) fun y hy=>(au _).2 hy
 ·have hi0:wr .u32 (gJ .u32 4294967295 0)=toI ones:=by
   conv=>lhs;rw[e0,e00,QL]
   simp
  rw[hi0]
  refine pF hl (fun i v=>v=toI (abd ones (l.take i))) _ (fun i v hi hj=> ?_) (fun v hj=> ?_) _ 0 (Nat.zero_le _) rfl
  ·subst hj
   simp only
   unfold zL
   obtain⟨b1,b2⟩:=hb.get hi
   have e4:∀x:B32,dG .u32 (toI x) 4=toI (x >>> 4):=fun x=>alj x 4 (by decide)
   rw[WT l hi,bQ l i hi,aeM b1 b2,QL,e15,af0,MV,aj,e4,QL,aol,af0,MV,aj,e4,QL,aol,au]
   refine⟨fE (by omega),?_⟩
   rw[List.take_succ_eq_append_getElem hi,ami,<-aeg]
   rfl
  ·subst hj
   simp only
   unfold zL
   rw[RQ,au,List.take_length]
 ·subst hy
  rw[au]
  conv=>lhs;rw[e0,QL]
  rfl
def qV (n:Int):List Int:=[n%256,n / 256%256,n / 65536%256,n / 16777216%256]
theorem aaB (n:Int):fM (qV n):=fun x hx=>by
 unfold qV at hx
 simp only[List.mem_cons,List.not_mem_nil,or_false]at hx
 rcases hx with rfl | rfl | rfl | rfl<;>omega
def NY (b:Bool):Int:=if b then 1 else 0
theorem aeD (b:Bool):0<=NY b/\NY b<=1:=by cases b<;>decide
theorem ab9 (b:Bool):KP b=some (NY b):=by cases b<;>rfl
def p8 (l:List Int):List Int:=l.flatMap fun n=>tq n 8
def p1 (l:List Int):List Int:=l.flatMap fun n=>tq n 1
theorem flat_length {α β:Type} {f:α->List β} {m:Nat} (h:∀x,(f x).length=m):∀l:List α,(l.flatMap f).length=m*l.length
 |[]=>rfl
 |x::l=>by rw[List.flatMap_cons,List.length_append,h,flat_length h l,List.length_cons,Nat.mul_add,Nat.mul_one,Nat.add_comm]
theorem Ac (l:List Int):(p8 l).length=8*l.length:=flat_length (fun x=>rW x 8) l
theorem GU (l:List Int):(p1 l).length=1*l.length:=flat_length (fun x=>rW x 1) l
theorem Qa (l:List Int):fM (p8 l):=GH fun x _=>Ld x 8
theorem acO (l:List Int):fM (p1 l):=GH fun x _=>Ld x 1
def ku (o:aA):List Int:=p8 [o.id]++(p1 [o.account,o.symbol,o.side,o.phase]++(p8 [o.qty,o.price,o.filled,o.newQty,o.newPrice,o.version]++p1 [NY o.asked]))
def ED (c:aK):List Int:=p8 [c.pos]
def VZ (l:dD):List Int:=p8 [l.long,l.short,l.opn]
def magic:List Int:=[115,110,97,102]
def headB (s:ai):List Int:=magic++(p1 [s.accounts,s.symbols,NY s.kill,len s.orders]++p8 [s.last,s.seq,s.lsn])
def uH (s:ai):List Int:=headB s++(s.orders.flatMap ku++(s.cells.flatMap ED++(s.limits.flatMap VZ++p8 s.caps)))
def encZ (s:ai):List Int:=uH s++qV (xA (uH s))
theorem nG (o:aA):(ku o).length=61:=by simp [ku,Ac,GU]
theorem KG (c:aK):(ED c).length=8:=by simp [ED,Ac]
theorem OZ (c:dD):(VZ c).length=24:=by simp [VZ,Ac]
theorem Gh (s:ai):(headB s).length=32:=by simp [headB,magic,Ac,GU]
theorem Ko (s:ai):(uH s).length=32+61*s.orders.length+8*s.cells.length+24*s.limits.length+8*s.caps.length:=by
 simp only[uH,List.length_append,Gh,flat_length nG,flat_length KG,flat_length OZ,Ac]
 omega
theorem IG (s:ai):(encZ s).length=36+61*s.orders.length+8*s.cells.length+24*s.limits.length+8*s.caps.length:=by
 simp only[encZ,List.length_append,Ko,qV,List.length_cons,List.length_nil]
 omega
theorem RY:fM magic:=fun x hx=>by
 simp only[magic,List.mem_cons,List.not_mem_nil,or_false]at hx
 rcases hx with rfl | rfl | rfl | rfl<;>decide
theorem afA (o:aA):fM (ku o):=(Qa _).app ((acO _).app ((Qa _).app (acO _)))
theorem aay (s:ai):fM (uH s):=
 (RY.app ((acO _).app (Qa _))).app ((GH fun o _=>afA o).app ((GH fun c _=>Qa _).app ((GH fun c _=>Qa _).app (Qa _))))
theorem A8 (s:ai):fM (encZ s):=(aay s).app (aaB _)
theorem ajv {acc l:List Int} (h:acc.length+8*l.length<1000000):jS acc 8 l=some (acc++p8 l):=afb 8 (by decide) (by decide) h
theorem apF {acc l:List Int} (h:acc.length+8*l.length<1000000):qi acc 1 l=some (acc++p1 l):=ab6 1 (by decide) (by decide) h
theorem gu.few {s:ai} (h:gu s):s.orders.length<=64/\s.cells.length<=64/\s.limits.length=s.cells.length/\s.caps.length=s.accounts.toNat/\s.accounts.toNat<=8/\(s.cells.length:Int)=s.accounts*s.symbols/\(1<=s.accounts/\s.accounts<=8)/\(1<=s.symbols/\s.symbols<=8):=by
 obtain⟨h1,h2,h3,h4⟩:=h.sized.lens
 have:=h.sized.1
 exact⟨h4,h1,h2,h3,by omega,h.sized.2.2.1,this,h.sized.2.1⟩
theorem YP {a b n:Int} (ha:1<=a/\a<=8) (hb:1<=b/\b<=8) (hn:0<=n/\n<=255):Dz a b n=some (36+n*61+a*b*32+a*8):=by
 unfold Dz ax jq
 have m:=Bo (a:=a) (b:=b) (by omega) (by omega) (by omega) (by omega)
 rw[dI (n:=n*61) (by omega) (by omega),dI (n:=32+n*61) (by omega) (by omega),dI (n:=a*b) (by omega) (by omega),dI (n:=a*b*32) (by omega) (by omega),dI (n:=32+n*61+a*b*32) (by omega) (by omega),dI (n:=a*8) (by omega) (by omega),dI (n:=32+n*61+a*b*32+a*8) (by omega) (by omega),dI (by omega) (by omega)]
 congr 1;omega
theorem ahn {s:ai} (hr:iF s) (hsh:xQ s) (h:gu s):Ad s=some (len (encZ s)):=by
 refine Wq.eq ?_
 unfold Ad
 refine(BQ s hr hsh.1 hsh.2.2.1 hsh.2.2.2).bind fun b hb=> ?_
 obtain⟨f1,f2,f3,f4,f5,f6,f7,f8⟩:=h.few
 rw[hb.2 h,bC,bn,YP f7 f8 (by unfold len;omega),aj,au]
 unfold len
 rw[IG,<-f6]
 omega
theorem aar {s:ai} (hr:iF s) (hsh:xQ s) (h:¬gu s):Ad s=some 0:=by
 refine Wq.eq ?_
 unfold Ad
 refine(BQ s hr hsh.1 hsh.2.2.1 hsh.2.2.2).bind fun b hb=> ?_
 have:b=false:=by cases b with
  |false=>rfl
  |true=>exact absurd (hb.1 rfl) h
 subst this
 rw[bZ,bG,au]
theorem U8 {n:Int} {i:Nat} (hi:i<4):ile 0 (wr .i64 (jq 8 (i:Int)))=true/\wr .u8 (dG .u32 n (wr .i64 (jq 8 (i:Int))))=n / 256^i%256:=by
 have h1:wr .i64 (jq 8 (i:Int))=((8*i:Nat):Int):=by
  unfold jq
  rw[dI (by omega) (by omega)];omega
 have h2:min (((8*i:Nat):Int).toNat) (IntKind.bits .u32)=8*i:=by
  simp only[IntKind.bits,Int.toNat_natCast];omega
 rw[h1]
 refine⟨kF (by omega),?_⟩
 unfold dG
 rw[h2,Int.pow_mul,aej,Int.fdiv_eq_ediv_of_nonneg _ (Int.le_of_lt (Int.pow_pos (by decide)))]
 rfl
theorem aeU (n:Int) {i:Nat} (hi:i<4):(qV n)[i]'(by simpa [qV] using hi)=n / 256^i%256:=by
 have:i=0\/i=1\/i=2\/i=3:=by omega
 rcases this with rfl | rfl | rfl | rfl
 ·have:(256:Int)^0=1:=rfl
  simp only[qV,this,List.getElem_cons_zero];omega
 ·rfl
 ·rfl
 ·rfl
theorem ajt (n:Int) {i:Nat} (hi:i<4) (acc:List Int):acc++(qV n).take i++[n / 256^i%256]=acc++(qV n).take (i+1):=by
 rw[List.take_succ_eq_append_getElem (by simpa [qV] using hi),aeU n hi,List.append_assoc]
theorem ac3 {s:ai} (hr:iF s) (hsh:xQ s) (h:gu s):rD s=some (encZ s,0):=by
 refine Wq.eq ?_
 obtain⟨f1,f2,f3,f4,f5,f6,f7,f8⟩:=h.few
 have hel:=IG s
 unfold rD
 have hz:ieq (len (encZ s)) 0=false:=by rw[bJ];unfold len;omega
 have hm:jc (iQ Int 0) (s2u [UInt8.ofNat 115,UInt8.ofNat 110,UInt8.ofNat 97,UInt8.ofNat 102])=magic:=by decide
 rw[ahn hr hsh h,aj,hz,bn,aI (zX (kF (by unfold len;omega)) (kF (by unfold len;omega))),ab9,aj,hm,apF (by simp [magic]),aj,
  ajv (by simp [magic,GU]),aj]
 have hhead:magic++p1 [s.accounts,s.symbols,NY s.kill,len s.orders]++p8 [s.last,s.seq,s.lsn]=headB s:=by rw[headB,List.append_assoc]
 rw[hhead]
 have hl0:=Gh s
 refine Wq.bind (Q:=fun y=>y=headB s++s.orders.flatMap ku) ?_ fun y hy=> ?_
 ·refine pF (n:=s.orders.length) (by omega) (fun i x=>x=headB s++(s.orders.take i).flatMap ku) _ (fun i x hi hj=> ?_) (fun x hj=> ?_) _ 0 (Nat.zero_le _) (by simp)
  ·simp only
   unfold sD
   have hx:x.length=32+61*i:=by
    rw[hj,List.length_append,hl0,flat_length nG,List.length_take];omega
   rw[WT s.orders hi,bQ _ i hi,ajv (by simp;omega),aj,apF (by simp [Ac];omega),aj,ajv (by simp [Ac,GU];omega),aj,ab9,aj,apF (by simp [Ac,GU];omega),aj,au]
   refine⟨fE (by omega),?_⟩
   rw[List.take_succ_eq_append_getElem hi,List.flatMap_append,hj]
   simp [ku]
  ·simp only
   unfold sD
   rw[RQ,au,hj,List.take_length]
 subst hy
 refine Wq.bind (Q:=fun y=>y=headB s++s.orders.flatMap ku++s.cells.flatMap ED) ?_ fun y hy=> ?_
 ·refine pF (n:=s.cells.length) (by omega) (fun i x=>x=headB s++s.orders.flatMap ku++(s.cells.take i).flatMap ED) _ (fun i x hi hj=> ?_) (fun x hj=> ?_) _ 0 (Nat.zero_le _) (by simp)
  ·simp only
   unfold rJ
   have hx:x.length=32+61*s.orders.length+8*i:=by
    rw[hj,List.length_append,List.length_append,hl0,flat_length nG,flat_length KG,List.length_take];omega
   rw[WT s.cells hi,bQ _ i hi,ajv (by simp;omega),aj,au]
   refine⟨fE (by omega),?_⟩
   rw[List.take_succ_eq_append_getElem hi,List.flatMap_append,hj]
   simp [ED]
  ·simp only
   unfold rJ
   rw[RQ,au,hj,List.take_length]
 subst hy
 refine Wq.bind (Q:=fun y=>y=headB s++s.orders.flatMap ku++s.cells.flatMap ED++s.limits.flatMap VZ) ?_ fun y hy=> ?_
 ·refine pF (n:=s.limits.length) (by omega) (fun i x=>x=headB s++s.orders.flatMap ku++s.cells.flatMap ED++(s.limits.take i).flatMap VZ) _ (fun i x hi hj=> ?_) (fun x hj=> ?_) _ 0 (Nat.zero_le _) (by simp)
  ·simp only
   unfold rH
   have hx:x.length=32+61*s.orders.length+8*s.cells.length+24*i:=by
    rw[hj,List.length_append,List.length_append,List.length_append,hl0,flat_length nG,flat_length KG,flat_length OZ,List.length_take];omega
   rw[WT s.limits hi,bQ _ i hi,ajv (by simp;omega),aj,au]
   refine⟨fE (by omega),?_⟩
   rw[List.take_succ_eq_append_getElem hi,List.flatMap_append,hj]
   simp [VZ]
  ·simp only
   unfold rH
   rw[RQ,au,hj,List.take_length]
 subst hy
 have hbl:=Ko s
 have hb:headB s++s.orders.flatMap ku++s.cells.flatMap ED++s.limits.flatMap VZ++p8 s.caps=uH s:=by simp [uH]
 rw[ajv (by
  have:=congrArg List.length hb
  rw[List.length_append,Ac]at this
  omega),aj,hb,abl (by omega) (aay s),aj]
 refine Wq.bind (Q:=fun y=>y=encZ s) ?_ fun y hy=>by rw[au,hy]
 refine pF (n:=4) (by decide) (fun i x=>x=uH s++(qV (xA (uH s))).take i) _ (fun i x hi hj=> ?_) (fun x hj=> ?_) _ 0 (by decide) (by simp)
 ·simp only
  unfold qG
  obtain⟨q1,q2⟩:=U8 (n:=xA (uH s)) hi
  have hx:x.length<=(uH s).length+4:=by
   rw[hj,List.length_append,List.length_take];omega
  rw[aI (CX (by omega)),aI q1,q2,aI (adl (n:=1000000) (by simp [jc];omega) (by decide)),au]
  refine⟨fE (by omega),?_⟩
  rw[hj]
  exact ajt _ hi _
 ·simp only
  unfold qG
  rw[dN (BD (by omega)),au,hj]
  rfl
theorem Vo {s:ai} (hr:iF s) (hsh:xQ s) (h:¬gu s):rD s=some ([],1):=by
 unfold rD
 rw[aar hr hsh h,aj]
 rfl
theorem Jr (n:Int) (l:List Int):p8 (n::l)=p8 [n]++p8 l:=by simp [p8]
theorem PN (n:Int) (l:List Int):p1 (n::l)=p1 [n]++p1 l:=by simp [p1]
theorem Vj (n:Int):p1 [n]=[wr .u8 n]:=by
 rw[aej]
 show [n / 256^0%256]=_
 have:(256:Int)^0=1:=rfl
 rw[this]
 congr 1
 omega
theorem aqK (a b c:Int):p8 [a,b,c]=p8 [a]++(p8 [b]++p8 [c]):=by rw[Jr,Jr b]
theorem aqX (a b c d:Int):p1 [a,b,c,d]=[wr .u8 a,wr .u8 b,wr .u8 c,wr .u8 d]:=by
 rw[PN,PN b,PN c,Vj,Vj,Vj,Vj];rfl
def at8 (b:List Int) (i:Nat):Int:=wr .i64 (unZ ((b.drop i).take 8))
def at1 (b:List Int) (i:Nat):Int:=ah b i
theorem ac4 {b:List Int} {i:Nat} (h:i<b.length):at1 b i=b[i]:=by unfold at1 ah;rw[List.getD_eq_getElem?_getD,List.getElem?_eq_getElem h];rfl
theorem kK {b:List Int} (hb:fM b) (i:Nat):0<=at1 b i/\at1 b i<=255:=by
 by_cases h:i<b.length
 ·rw[ac4 h];exact hb.get h
 ·unfold at1 ah
  rw[List.getD_eq_getElem?_getD,List.getElem?_eq_none (by omega)]
  decide
theorem Ee (b:List Int) (i:Nat):inI (at8 b i):=apB _
def rdr (b:List Int) (k:Nat) (od:Bool):fJ:=⟨(b.take (b.length - 4)).drop k,od⟩
theorem alM {b:List Int} {n k m:Nat} (h:k+m<=n):((b.take n).drop k).take m=(b.drop k).take m:=by
 rw[List.drop_take,List.take_take,Nat.min_eq_left (by omega)]
theorem take_one {b:List Int} {k:Nat} (h:k<b.length):(b.drop k).take 1=[at1 b k]:=by
 rw[ac4 h,List.drop_eq_getElem_cons h];rfl
theorem rd8 {b:List Int} (hb:fM b) {k:Nat} {od:Bool} (h:k+8<=b.length - 4):cZ (rdr b k od) 8=some (rdr b (k+8) od,at8 b k):=by
 have:=aoD (r:=rdr b k od) (k:=8) (by simp only[rdr,List.length_drop,List.length_take];omega) (by decide) ((hb.take _).drop _)
 rw[show(8:Int)=((8:Nat):Int)from rfl,this]
 simp only[rdr,List.drop_drop,alM h]
 rfl
theorem rd1 {b:List Int} (hb:fM b) {k:Nat} {od:Bool} (h:k+1<=b.length - 4):iE (rdr b k od)=some (rdr b (k+1) od,at1 b k):=by
 have:=aoD (r:=rdr b k od) (k:=1) (by simp only[rdr,List.length_drop,List.length_take];omega) (by decide) ((hb.take _).drop _)
 unfold iE
 rw[show(1:Int)=((1:Nat):Int)from rfl,this,aj]
 simp only[rdr,List.drop_drop,alM h]
 rw[take_one (by omega)]
 have h1:=kK hb k
 have:wr .i64 (unZ [at1 b k])=at1 b k:=by
  show wr .i64 (0*256+at1 b k)=_
  rw[Int.zero_mul,Int.zero_add,dI h1.1 (by omega)]
 rw[this]
theorem rdf {b:List Int} (hb:fM b) {k:Nat} {od:Bool} (h:k+1<=b.length - 4):o5 (rdr b k od)=some (rdr b (k+1) (bor od (ilt 1 (at1 b k))),ieq (at1 b k) 1):=by
 unfold o5
 rw[rd1 hb h,aj]
 rfl
def ag6 (b:List Int) (k:Nat):aA:=⟨at8 b k,at1 b (k+8),at1 b (k+9),at1 b (k+10),at8 b (k+12),at8 b (k+20),at8 b (k+28),at1 b (k+11),at8 b (k+36),at8 b (k+44),at8 b (k+52),ieq (at1 b (k+60)) 1⟩
theorem rdo {b:List Int} (hb:fM b) {k:Nat} {od:Bool} (h:k+61<=b.length - 4):qJ (rdr b k od)=some (rdr b (k+61) (bor od (ilt 1 (at1 b (k+60)))),ag6 b k):=by
 unfold qJ
 rw[rd8 hb (by omega),aj,rd1 hb (by omega),aj,rd1 hb (by omega),aj,rd1 hb (by omega),aj,rd1 hb (by omega),aj,rd8 hb (by omega),aj,rd8 hb (by omega),aj,rd8 hb (by omega),aj,rd8 hb (by omega),aj,rd8 hb (by omega),aj,rd8 hb (by omega),aj,rdf hb (by omega),aj]
 rfl
def VU {α:Type} [Inhabited α] (f:Nat->α) (i n:Nat):List α:=(List.range i).map f++List.replicate (n - i) default
theorem afi {α:Type} [Inhabited α] (f:Nat->α) {i n:Nat} (h:i<=n):(VU f i n).length=n:=by
 simp only[VU,List.length_append,List.length_map,List.length_range,List.length_replicate];omega
theorem aeF {α:Type} [Inhabited α] (f:Nat->α) {i n:Nat} (h:i<n):aY (VU f i n) (itn (i:Int)) (f i)=VU f (i+1) n:=by
 unfold aY VU
 rw[qN,List.set_append,if_neg (by simp),List.range_succ,List.map_append]
 have:n - i=(n - (i+1))+1:=by omega
 rw[this,List.replicate_succ]
 simp
theorem alb {α:Type} [Inhabited α] (f:Nat->α) {i n:Nat} (h:i<n):ah (VU f i n) (itn (i:Int))=default:=by
 unfold ah VU
 rw[qN,List.getD_eq_getElem?_getD,List.getElem?_append_right (by simp)]
 have h2:0<n - i:=by omega
 simp [List.getElem?_replicate,h2]
theorem abP {α:Type} [Inhabited α] (f:Nat->α) (n:Nat):VU f 0 n=iQ α n:=by simp [VU,iQ]
theorem ace {α:Type} [Inhabited α] (f:Nat->α) (n:Nat):VU f n n=(List.range n).map f:=by simp [VU]
def nZ (b:List Int) (k:Nat):Nat:=(at1 b k).toNat
theorem Nr {b:List Int} (hb:fM b) (k:Nat):(nZ b k:Int)=at1 b k:=by
 have:=kK hb k
 unfold nZ;omega
def aiL (b:List Int) (k:Nat):aK:=⟨at8 b k,0,0,0⟩
def anK (b:List Int) (k:Nat):dD:=⟨at8 b k,at8 b (k+8),at8 b (k+16)⟩
def cN (b:List Int):Nat:=nZ b 4*nZ b 5
def off2 (b:List Int):Nat:=32+61*nZ b 7
def QF (b:List Int):Nat:=off2 b+8*cN b
def NZ (b:List Int):Nat:=QF b+24*cN b
def FB (b:List Int):List aA:=(List.range (nZ b 7)).map fun i=>ag6 b (32+61*i)
def DF (b:List Int):List aK:=(List.range (cN b)).map fun i=>aiL b (off2 b+8*i)
def QU (b:List Int):List dD:=(List.range (cN b)).map fun i=>anK b (QF b+24*i)
def QY (b:List Int):List Int:=(List.range (nZ b 4)).map fun i=>at8 b (NZ b+8*i)
def pZ (b:List Int):ai:=⟨at1 b 4,at1 b 5,FB b,DF b,QU b,QY b,ieq (at1 b 6) 1,at8 b 8,at8 b 16,at8 b 24⟩
def rY (s:ai):ai:=YS s s.orders
structure xw (b:List Int):Prop where
 many:36<=b.length
 mark:b.take 4=magic
 acc:1<=at1 b 4/\at1 b 4<=8
 sym:1<=at1 b 5/\at1 b 5<=8
 ords:at1 b 7<=64
 just:b.length=NZ b+8*nZ b 4+4
def sumP (b:List Int):Prop:=b.drop (b.length - 4)=qV (xA (b.take (b.length - 4)))
def akn (b:List Int):Prop:=1<at1 b 6\/∃i,i<nZ b 7/\1<at1 b (32+61*i+60)
def WZ (b:List Int):Prop:=¬akn b/\gu (rY (pZ b))
structure af7 (b:List Int) (r:ai×Int):Prop where
 form:¬xw b->r=(zS,2)
 sum:xw b->¬sumP b->r=(zS,10)
 bad:xw b->sumP b->¬WZ b->r=(zS,2)
 good:xw b->sumP b->WZ b->r=(rY (pZ b),0)
theorem af7.uniq {b:List Int} {r r':ai×Int} (h:af7 b r) (k:af7 b r'):r=r':=by
 by_cases h1:xw b
 ·by_cases h2:sumP b
  ·by_cases h3:WZ b
   ·rw[h.good h1 h2 h3,k.good h1 h2 h3]
   ·rw[h.bad h1 h2 h3,k.bad h1 h2 h3]
  ·rw[h.sum h1 h2,k.sum h1 h2]
 ·rw[h.form h1,k.form h1]
theorem xw.nums {b:List Int} (h:xw b):(1<=nZ b 4/\nZ b 4<=8)/\(1<=nZ b 5/\nZ b 5<=8)/\nZ b 7<=64/\cN b<=64:=by
 obtain⟨_,_,h1,h2,h3,_⟩:=h
 have hm:nZ b 4*nZ b 5<=8*8:=Nat.mul_le_mul (by unfold nZ;omega) (by unfold nZ;omega)
 unfold cN
 unfold nZ at hm ⊢
 refine⟨⟨by omega,by omega⟩,⟨by omega,by omega⟩,by omega,hm⟩
theorem xw.cN {b:List Int} (hb:fM b) (h:xw b):(cN b:Int)=at1 b 4*at1 b 5:=by
 unfold Go.Av.cN
 rw[Int.natCast_mul,Nr hb,Nr hb]
theorem ZJ {b:List Int} (hb:fM b) (h:xw b):sK (pZ b):=by
 have hn:=h.nums
 have hc:=h.cN hb
 refine⟨h.acc,h.sym,?_,?_,?_,?_⟩
 ·show((DF b).length:Int)=_
  simp only[DF,List.length_map,List.length_range]
  exact hc
 ·show((QU b).length:Int)=((DF b).length:Int)
  simp only[DF,QU,List.length_map,List.length_range]
 ·show((QY b).length:Int)=at1 b 4
  simp only[QY,List.length_map,List.length_range,Nr hb]
 ·show(FB b).length<=64
  simp only[FB,List.length_map,List.length_range];omega
theorem EI {n:Int} (h:0<=n/\n<=255):inI n:=⟨by omega,by omega⟩
theorem aea {b:List Int} (hb:fM b) (k:Nat):fV (ag6 b k):=
 ⟨Ee b _,EI (kK hb _),EI (kK hb _),EI (kK hb _),Ee b _,Ee b _,Ee b _,EI (kK hb _),Ee b _,Ee b _,Ee b _⟩
theorem ajx {b:List Int} (hb:fM b) (hf:xw b) {kl:Bool} {l1 l2 l3:Int} {od:Bool} (hod:od=true↔1<at1 b 6):
 Wq (bT (fun v:Int×Int×Int×List aA×List aK×List dD×List Int×Bool×Int×Int×Int×fJ=>dY (nZ b 7:Int) v.1 v.2.1 v.2.2.1 v.2.2.2.1 v.2.2.2.2.1 v.2.2.2.2.2.1 v.2.2.2.2.2.2.1 v.2.2.2.2.2.2.2.1 v.2.2.2.2.2.2.2.2.1 v.2.2.2.2.2.2.2.2.2.1 v.2.2.2.2.2.2.2.2.2.2.1 v.2.2.2.2.2.2.2.2.2.2.2) LF
  (0,at1 b 4,at1 b 5,iQ aA (nZ b 7),[],[],[],kl,l1,l2,l3,rdr b 32 od)) fun w=>∃od',(od'=true↔akn b)/\w=(at1 b 4,at1 b 5,FB b,[],[],[],kl,l1,l2,l3,rdr b (off2 b) od'):=by
 have hn:=hf.nums
 have hj:=hf.just
 unfold NZ QF off2 at hj
 refine pF (n:=nZ b 7) (by omega) (fun i x=>∃od',(od'=true↔(1<at1 b 6\/∃j,j<i/\1<at1 b (32+61*j+60)))/\x=(at1 b 4,at1 b 5,VU (fun i=>ag6 b (32+61*i)) i (nZ b 7),[],[],[],kl,l1,l2,l3,rdr b (32+61*i) od')) _ ?_ ?_ _ 0 (Nat.zero_le _) ⟨od,?_,?_⟩
 ·rintro i x hi ⟨od',h1,rfl⟩
  simp only
  unfold dY
  rw[aI (CX (by omega)),rdo hb (by omega),aj,aI (inb _ i (by rw[afi _ (by omega)];exact hi)),au]
  refine⟨fE (by omega),bor od' (ilt 1 (at1 b (32+61*i+60))),?_,?_⟩
  ·rw[dV,h1,dP]
   constructor
   ·rintro((h | ⟨j,h2,h3⟩) | h)
    ·exact .inl h
    ·exact .inr ⟨j,by omega,h3⟩
    ·exact .inr ⟨i,by omega,h⟩
   ·rintro(h | ⟨j,h2,h3⟩)
    ·exact .inl (.inl h)
    ·by_cases hji:j=i
     ·subst hji;exact .inr h3
     ·exact .inl (.inr ⟨j,by omega,h3⟩)
  ·simp only
   rw[aeF (fun i=>ag6 b (32+61*i)) hi]
   rfl
 ·rintro x ⟨od',h1,rfl⟩
  simp only
  unfold dY
  rw[dN (BD (by omega)),au,ace]
  exact⟨od',h1,rfl⟩
 ·rw[hod]
  exact⟨.inl,fun h=>by
   rcases h with h | ⟨j,hj,_⟩
   ·exact h
   ·omega⟩
 ·rw[abP]
theorem akZ {b:List Int} (hb:fM b) (hf:xw b) {a y:Int} {os:List aA} {kl:Bool} {l1 l2 l3:Int} {od:Bool}:
 Wq (bT (fun v:Int×Int×Int×List aA×List aK×List dD×List Int×Bool×Int×Int×Int×fJ=>dQ (cN b:Int) v.1 v.2.1 v.2.2.1 v.2.2.2.1 v.2.2.2.2.1 v.2.2.2.2.2.1 v.2.2.2.2.2.2.1 v.2.2.2.2.2.2.2.1 v.2.2.2.2.2.2.2.2.1 v.2.2.2.2.2.2.2.2.2.1 v.2.2.2.2.2.2.2.2.2.2.1 v.2.2.2.2.2.2.2.2.2.2.2) LF
  (0,a,y,os,iQ aK (cN b),[],[],kl,l1,l2,l3,rdr b (off2 b) od)) fun w=>w=(a,y,os,DF b,[],[],kl,l1,l2,l3,rdr b (QF b) od):=by
 have hn:=hf.nums
 have hj:=hf.just
 unfold NZ at hj
 refine pF (n:=cN b) (by omega) (fun i x=>x=(a,y,os,VU (fun i=>aiL b (off2 b+8*i)) i (cN b),[],[],kl,l1,l2,l3,rdr b (off2 b+8*i) od)) _ ?_ ?_ _ 0 (Nat.zero_le _) ?_
 ·rintro i x hi rfl
  simp only
  unfold dQ
  have:QF b=off2 b+8*cN b:=rfl
  rw[aI (CX (by omega)),rd8 hb (by omega),aj,aI (inb _ i (by rw[afi _ (by omega)];exact hi)),au,alb _ hi]
  refine⟨fE (by omega),?_⟩
  simp only
  rw[show aK.mk (at8 b (off2 b+8*i)) (default:aK).buy (default:aK).sell (default:aK).opn=(fun i=>aiL b (off2 b+8*i)) i from rfl,aeF (fun i=>aiL b (off2 b+8*i)) hi]
  rfl
 ·rintro x rfl
  simp only
  unfold dQ
  rw[dN (BD (by omega)),au,ace]
  rfl
 ·rw[abP];rfl
theorem amJ {b:List Int} (hb:fM b) (hf:xw b) {a y:Int} {os:List aA} {cs:List aK} {kl:Bool} {l1 l2 l3:Int} {od:Bool}:
 Wq (bT (fun v:Int×Int×Int×List aA×List aK×List dD×List Int×Bool×Int×Int×Int×fJ=>dS (cN b:Int) v.1 v.2.1 v.2.2.1 v.2.2.2.1 v.2.2.2.2.1 v.2.2.2.2.2.1 v.2.2.2.2.2.2.1 v.2.2.2.2.2.2.2.1 v.2.2.2.2.2.2.2.2.1 v.2.2.2.2.2.2.2.2.2.1 v.2.2.2.2.2.2.2.2.2.2.1 v.2.2.2.2.2.2.2.2.2.2.2) LF
  (0,a,y,os,cs,[],[],kl,l1,l2,l3,rdr b (QF b) od)) fun w=>w=(a,y,os,cs,QU b,[],kl,l1,l2,l3,rdr b (NZ b) od):=by
 have hn:=hf.nums
 have hj:=hf.just
 refine pF (n:=cN b) (by omega) (fun i x=>x=(a,y,os,cs,(List.range i).map (fun i=>anK b (QF b+24*i)),[],kl,l1,l2,l3,rdr b (QF b+24*i) od)) _ ?_ ?_ _ 0 (Nat.zero_le _) rfl
 ·rintro i x hi rfl
  simp only
  unfold dS
  have:NZ b=QF b+24*cN b:=rfl
  rw[aI (CX (by omega)),rd8 hb (by omega),aj,rd8 hb (by omega),aj,rd8 hb (by omega),aj,aI (adl (n:=1000) (by simp [jc];omega) (by decide)),au]
  refine⟨fE (by omega),?_⟩
  simp only
  rw[List.range_succ,List.map_append]
  rfl
 ·rintro x rfl
  simp only
  unfold dS
  rw[dN (BD (by omega)),au]
  rfl
theorem amY {b:List Int} (hb:fM b) (hf:xw b) {y:Int} {os:List aA} {cs:List aK} {ls:List dD} {kl:Bool} {l1 l2 l3:Int} {od:Bool} (a:Int):
 Wq (bT (fun v:Int×Int×Int×List aA×List aK×List dD×List Int×Bool×Int×Int×Int×fJ=>dR (nZ b 4:Int) v.1 v.2.1 v.2.2.1 v.2.2.2.1 v.2.2.2.2.1 v.2.2.2.2.2.1 v.2.2.2.2.2.2.1 v.2.2.2.2.2.2.2.1 v.2.2.2.2.2.2.2.2.1 v.2.2.2.2.2.2.2.2.2.1 v.2.2.2.2.2.2.2.2.2.2.1 v.2.2.2.2.2.2.2.2.2.2.2) LF
  (0,a,y,os,cs,ls,[],kl,l1,l2,l3,rdr b (NZ b) od)) fun w=>w=(a,y,os,cs,ls,QY b,kl,l1,l2,l3,rdr b (NZ b+8*nZ b 4) od):=by
 have hn:=hf.nums
 have hj:=hf.just
 refine pF (n:=nZ b 4) (by omega) (fun i x=>x=(a,y,os,cs,ls,(List.range i).map (fun i=>at8 b (NZ b+8*i)),kl,l1,l2,l3,rdr b (NZ b+8*i) od)) _ ?_ ?_ _ 0 (Nat.zero_le _) rfl
 ·rintro i x hi rfl
  simp only
  unfold dR
  rw[aI (CX (by omega)),rd8 hb (by omega),aj,aI (adl (n:=1000) (by simp [jc];omega) (by decide)),au]
  refine⟨fE (by omega),?_⟩
  simp only
  rw[List.range_succ,List.map_append]
  rfl
 ·rintro x rfl
  simp only
  unfold dR
  rw[dN (BD (by omega)),au]
  rfl
theorem XT {c:aK} {o:aA} (hk:zQ c) (h:¬(okC c/\vS o)):iR c o=some (c,1):=by
 unfold iR
 rw[lq hk,aj]
 by_cases h1:okC c
 ·have h2:¬vS o:=fun h2=>h ⟨h1,h2⟩
  rw[decide_eq_true h1,nV,decide_eq_false h2,bC,bZ,bG,aj,bZ,ai5,bG]
 ·rw[decide_eq_false h1,bZ,bC,bn,aj,bZ,xq,bG]
theorem alJ {p:Int} {a b:aK} (hp:inI p) (ha:nnC a) (hb:nnC b) (h:okC (lJ ⟨p,0,0,0⟩ (lJ a b))):okC (lJ ⟨p,0,0,0⟩ a):=by
 obtain⟨hk,_,r1,r2⟩:=h
 have h1:=hk.buy;have h2:=hk.sell;have h3:=hk.opn
 unfold nnC at ha hb
 simp only[lJ]at h1 h2 h3 r1 r2
 unfold inI at*
 refine⟨⟨?_,?_,?_,?_⟩,⟨?_,?_,?_⟩,?_,?_⟩<;>simp only[lJ,inI]<;>omega
theorem Fg {p:ai} (h:gu (rY p)):∀o∈p.orders,BM p o:=fun o ho=>by
 have:=h.fine.ords o ho
 exact this
theorem abj {p:ai} (hc:∀c∈p.cells,inI c.pos) (ho:∀o∈p.orders,fV o) (h:gu (rY p)) {k:Nat} (hk:k<p.cells.length) (i:Nat):okC (lJ ⟨p.cells[k].pos,0,0,0⟩ (mF p.symbols k (p.orders.take i))):=by
 have hin:=Fg h
 have hm:(dA p p.orders)[k]'(by rw[gq];exact hk)∈(rY p).cells:=List.getElem_mem _
 have:=h.ok _ hm
 rw[kR]at this
 have e:mF p.symbols k p.orders=lJ (mF p.symbols k (p.orders.take i)) (mF p.symbols k (p.orders.drop i)):=by
  rw[<-qh,List.take_append_drop]
 rw[e]at this
 exact alJ (hc _ (List.getElem_mem _)) (Jz _ _ fun o h=>⟨(hin o (List.mem_of_mem_take h)).1,ho o (List.mem_of_mem_take h)⟩) (Jz _ _ fun o h=>⟨(hin o (List.mem_of_mem_drop h)).1,ho o (List.mem_of_mem_drop h)⟩) this
theorem apO {p:ai} (hs:sK p) (ho:∀o∈p.orders,fV o/\0<=o.account/\0<=o.symbol) (hc:∀c∈p.cells,inI c.pos/\c=⟨c.pos,0,0,0⟩):
 Wq (bT (fun v:Int×Bool×Int×Int×Unit×Unit×Unit×Unit×Bool×Int×Int×Int×List aA×List aK×List dD×List Int=>gY (len p.orders) v.1 v.2.1 v.2.2.1 v.2.2.2.1 v.2.2.2.2.1 v.2.2.2.2.2.1 v.2.2.2.2.2.2.1 v.2.2.2.2.2.2.2.1 v.2.2.2.2.2.2.2.2.1 v.2.2.2.2.2.2.2.2.2.1 v.2.2.2.2.2.2.2.2.2.2.1 v.2.2.2.2.2.2.2.2.2.2.2.1 v.2.2.2.2.2.2.2.2.2.2.2.2.1 v.2.2.2.2.2.2.2.2.2.2.2.2.2.1 v.2.2.2.2.2.2.2.2.2.2.2.2.2.2.1 v.2.2.2.2.2.2.2.2.2.2.2.2.2.2.2) LF
  (0,false,p.accounts,p.symbols,PUnit.unit,PUnit.unit,PUnit.unit,PUnit.unit,p.kill,p.last,p.seq,p.lsn,p.orders,p.cells,p.limits,p.caps)) fun w=>match w with
  |.inl w=>w.1=false/\¬gu (rY p)
  |.inr w=>(∀c∈dA p p.orders,zQ c)/\∃f,w=(f,p.accounts,p.symbols,PUnit.unit,PUnit.unit,PUnit.unit,PUnit.unit,p.kill,p.last,p.seq,p.lsn,p.orders,dA p p.orders,p.limits,p.caps):=by
 obtain⟨hcl,_,_,hol⟩:=hs.lens
 refine pF (n:=p.orders.length) (by omega) (fun i x=>∃cs:List aK,x=(false,p.accounts,p.symbols,PUnit.unit,PUnit.unit,PUnit.unit,PUnit.unit,p.kill,p.last,p.seq,p.lsn,p.orders,cs,p.limits,p.caps)/\
  cs.length=p.cells.length/\(∀(j:Nat) (h:j<cs.length) (h':j<p.cells.length),cs[j]=lJ ⟨p.cells[j].pos,0,0,0⟩ (mF p.symbols j (p.orders.take i)))/\(∀c∈cs,zQ c)/\∀o∈p.orders.take i,BM p o\/(vS o/\o.account<p.accounts/\o.symbol<p.symbols)) _ ?_ ?_ _ 0 (Nat.zero_le _) ?_
 ·rintro i x hi ⟨cs,rfl,h1,h2,h3,h4⟩
  simp only
  unfold gY
  rw[WT p.orders hi,bQ _ i hi]
  obtain⟨hor,ha0,hy0⟩:=ho _ (List.getElem_mem hi)
  obtain⟨o,hoe⟩:∃o,o=p.orders[i]:=⟨_,rfl⟩
  have hom:o∈p.orders:=hoe▸List.getElem_mem hi
  rw[<-hoe]at hor ha0 hy0 ⊢
  unfold F7
  simp only
  by_cases hin:o.account<p.accounts/\o.symbol<p.symbols
  ·have hplc:bor (bor (bor (ilt o.account 0) (ile p.accounts o.account)) (ilt o.symbol 0)) (ile p.symbols o.symbol)=false:=by
    simp only[bF,dh,dV,eX,bI,bP,dP,eP,dm,fB,bK,bJ,fC,fD];omega
   have hco:=KE hs o.account o.symbol ha0 hin.1 hy0 hin.2
   obtain⟨k,hk,hkn⟩:∃k:Nat,(k:Int)=o.account*p.symbols+o.symbol/\k<p.cells.length:=by
    have m:=Bo (a:=o.account) (b:=p.symbols) ha0 (by have:=hs.1.2;omega) (by have:=hs.2.1.1;omega) (by have:=hs.2.1.2;omega)
    have hcc:(p.cells.length:Int)=p.accounts*p.symbols:=hs.2.2.1
    have:o.account*p.symbols+p.symbols<=p.accounts*p.symbols:=by
     have:=Int.mul_le_mul_of_nonneg_right (show o.account+1<=p.accounts by omega) (show 0<=p.symbols by have:=hs.2.1.1;omega)
     rw[Int.add_mul,Int.one_mul]at this
     exact this
    exact⟨(o.account*p.symbols+o.symbol).toNat,by omega,by omega⟩
   have hcell:aX (ai.mk p.accounts p.symbols p.orders cs p.limits p.caps p.kill p.last p.seq p.lsn) o.account o.symbol=some (k:Int):=by
    unfold aX
    simp only
    unfold ax jq
    have m:=Bo (a:=o.account) (b:=p.symbols) ha0 (by have:=hs.1.2;omega) (by have:=hs.2.1.1;omega) (by have:=hs.2.1.2;omega)
    have:=hs.2.1.2
    rw[dI m.1 (by omega),dI (by omega) (by omega),hk]
   have hkc:k<cs.length:=by omega
   rw[hplc,bn,hcell,aj,aj,dN (by rw[bJ];omega),aI (inb cs k hkc),bQ _ k hkc]
   have hck:=h2 k hkc hkn
   have hokc:=h3 _ (List.getElem_mem hkc)
   by_cases hbad:okC cs[k]/\vS o
   ·have hcadd:qR cs[k] o=lJ ⟨p.cells[k].pos,0,0,0⟩ (mF p.symbols k (p.orders.take (i+1))):=by
     rw[Uk,hck,List.take_succ_eq_append_getElem hi,qh,OB,Df,<-hoe]
     unfold inC
     rw[if_pos (by unfold atZ;omega)]
    rw[Eu hbad.1 hbad.2 hor,aj]
    by_cases hnew:okC (qR cs[k] o)
    ·rw[if_pos hnew]
     simp only[o7,bC,bn]
     rw[aI (inb cs k hkc),au]
     refine⟨fE (by omega),_,rfl,by rw[rZ];exact h1,fun j hj hj'=> ?_,fun c hcm=> ?_,fun o' ho'=> ?_⟩
     ·rw[V5]
      split
      ·rename_i e;subst e
       exact hcadd
      ·rename_i e
       rw[h2 j (by rw[rZ]at hj;exact hj) hj',List.take_succ_eq_append_getElem hi,qh,OB,<-hoe]
       unfold inC
       rw[if_neg (by unfold atZ;omega),JI]
     ·unfold aY at hcm
      rcases List.mem_or_eq_of_mem_set hcm with h | h
      ·exact h3 c h
      ·rw[h];exact hnew.1
     ·rcases(Ed hi).1 ho' with h | h
      ·exact h4 o' h
      ·rw[h,<-hoe];exact .inr ⟨hbad.2,hin⟩
    ·rw[if_neg hnew]
     simp only[zY,bZ,bG]
     rw[au]
     exact⟨rfl,fun hR=>hnew (by rw[hcadd];exact abj (fun c h=>(hc c h).1) (fun o h=>(ho o h).1) hR hkn (i+1))⟩
   ·rw[XT hokc hbad,aj]
    have:ieq 1 0=false:=rfl
    simp only[this,bZ,bG]
    rw[au]
    refine⟨rfl,fun hR=>hbad ⟨?_,(Fg hR o hom).1⟩⟩
    rw[hck]
    exact abj (fun c h=>(hc c h).1) (fun o h=>(ho o h).1) hR hkn i
  ·have hplc:bor (bor (bor (ilt o.account 0) (ile p.accounts o.account)) (ilt o.symbol 0)) (ile p.symbols o.symbol)=true:=by
    simp only[bF,dh,dV,eX,bI,bP,dP,eP,dm,fB,bK,bJ,fC,fD];omega
   rw[hplc,bG,aj]
   have:ieq (-1) (-1)=true:=rfl
   rw[this,bG,au]
   exact⟨rfl,fun hR=>hin (Fg hR o hom).2.2⟩
 ·rintro x ⟨cs,rfl,h1,h2,h3,h4⟩
  simp only
  unfold gY
  have e:cs=dA p p.orders:=by
   refine List.ext_getElem (by rw[h1,gq]) fun j hj hj'=> ?_
   rw[h2 j hj (by omega),kR,List.take_length]
  rw[RQ,au,<-e]
  exact⟨h3,false,rfl⟩
 ·refine⟨p.cells,rfl,rfl,fun j h h'=> ?_,fun c h=> ?_,fun o h=>by simp at h⟩
  ·have:=(hc _ (List.getElem_mem h)).2
   rw[List.take_zero]
   show _=lJ _ zC
   rw[JI];exact this
  ·obtain⟨h1,h2⟩:=hc c h
   rw[h2]
   exact⟨h1,⟨by simp only;omega,by simp only;omega⟩,⟨by simp only;omega,by simp only;omega⟩,⟨by simp only;omega,by simp only;omega⟩⟩
theorem ah6 {a b:List Int} (ha:fM a) (hb:fM b):u2s a=u2s b↔a=b:=by
 refine⟨fun h=> ?_,fun h=>by rw[h]⟩
 unfold u2s at h
 have hl:a.length=b.length:=by simpa using congrArg List.length h
 refine List.ext_getElem hl fun i h1 h2=> ?_
 have hi:(a.map fun n=>UInt8.ofNat n.toNat)[i]'(by simpa using h1)=(b.map fun n=>UInt8.ofNat n.toNat)[i]'(by simpa using h2):=by simp only[h]
 simp only[List.getElem_map]at hi
 have b1:=ha.get h1
 have b2:=hb.get h2
 have:=congrArg UInt8.toNat hi
 simp only[UInt8.toNat_ofNat']at this
 omega
theorem amu {t:List Int} (ht:t.length=4) {n:Int}:Wq (bT (fun v:Int×Int×ai=>oP (len t) t n v.1 v.2.1 v.2.2) LF (0,0,zS)) fun w=>match w with
 |.inl w=>t≠qV n/\w=(10,zS)
 |.inr w=>t=qV n:=by
 refine pF (n:=4) (by decide) (fun i x=>x=(0,zS)/\∀(k:Nat) (h:k<t.length) (h':k<(qV n).length),k<i->t[k]=(qV n)[k]) _ ?_ ?_ _ 0 (by decide) ⟨rfl,fun k _ _ h=>by omega⟩
 ·rintro i x hi ⟨rfl,h⟩
  simp only
  unfold oP
  have hit:i<t.length:=by omega
  obtain⟨q1,q2⟩:=U8 (n:=n) hi
  rw[WT t hit,bQ t i hit,aI q1,q2]
  have hti:(qV n)[i]'(by simp [qV];omega)=n / 256^i%256:=aeU n hi
  by_cases he:t[i]=n / 256^i%256
  ·rw[dN (by simp only[bF,dh,dV,eX,bI,bP,dP,eP,dm,fB,bK,bJ,fC,fD];exact he),au]
   refine⟨fE (by omega),rfl,fun k h1 h2 hk=> ?_⟩
   by_cases hki:k=i
   ·subst hki;rw[he,hti]
   ·exact h k h1 h2 (by omega)
  ·rw[aI (by simp only[bF,dh,dV,eX,bI,bP,dP,eP,dm,fB,bK,bJ,fC,fD];exact he),au]
   refine⟨fun hh=>he ?_,rfl⟩
   rw[<-hti]
   simp only[hh]
 ·rintro x ⟨rfl,h⟩
  simp only
  unfold oP
  rw[dN (BD (by unfold len;omega)),au]
  exact List.ext_getElem (by rw[ht];rfl) fun k h1 h2=>h k h1 h2 (by omega)
theorem noS:ai.mk 0 0 [] [] [] [] false 0 0 0=zS:=rfl
theorem anA {b:List Int} (hb:fM b) (hf:xw b) (hc:∀c∈dA (pZ b) (pZ b).orders,zQ c):iF (rY (pZ b)):=by
 have hs:=ZJ hb hf
 obtain⟨l1,l2,l3,l4⟩:=hs.lens
 have hc8:=Ee b
 refine⟨EI (kK hb _),EI (kK hb _),⟨fun o ho=> ?_,by show(pZ b).orders.length<=_;omega⟩,⟨hc,by show(dA _ _).length<=_;rw[gq];omega⟩,⟨fun x hx=> ?_,by show(pZ b).limits.length<=_;omega⟩,⟨fun x hx=> ?_,?_⟩,hc8 _,hc8 _,hc8 _⟩
 ·obtain⟨i,_,rfl⟩:=List.mem_map.1 (show o∈FB b from ho)
  exact aea hb _
 ·obtain⟨i,_,rfl⟩:=List.mem_map.1 (show x∈QU b from hx)
  exact⟨hc8 _,hc8 _,hc8 _⟩
 ·obtain⟨i,_,rfl⟩:=List.mem_map.1 (show x∈QY b from hx)
  exact hc8 _
 ·have:=hf.nums
  show(pZ b).caps.length<=_
  rw[l3]
  have:=hf.acc
  have e:(pZ b).accounts=at1 b 4:=rfl
  omega
theorem Y5 {b:List Int} (hb:fM b) (hf:xw b):xQ (rY (pZ b)):=by
 have hs:=ZJ hb hf
 obtain⟨l1,l2,l3,l4⟩:=hs.lens
 have:=hf.acc
 have e:(pZ b).accounts=at1 b 4:=rfl
 refine⟨?_,?_,?_,?_⟩
 ·show(pZ b).orders.length<_;omega
 ·show(dA _ _).length<_;rw[gq];omega
 ·show(pZ b).limits.length<_;omega
 ·show(pZ b).caps.length<_;omega
theorem ahH {b:List Int} (hb:fM b):∀o∈(pZ b).orders,fV o/\0<=o.account/\0<=o.symbol:=fun o ho=>by
 obtain⟨i,_,rfl⟩:=List.mem_map.1 (show o∈FB b from ho)
 exact⟨aea hb _,(kK hb _).1,(kK hb _).1⟩
theorem aeo {b:List Int}:∀c∈(pZ b).cells,inI c.pos/\c=⟨c.pos,0,0,0⟩:=fun c hc=>by
 obtain⟨i,_,rfl⟩:=List.mem_map.1 (show c∈DF b from hc)
 exact⟨Ee b _,rfl⟩
theorem acX {n:Int} (h:0<=n/\n<=255):wr .i64 n=n:=dI h.1 (by omega)
theorem Ui {b:List Int} (hb:fM b) (hl:b.length<99999):Wq (su b) (af7 b):=by
 have r4:=kK hb 4;have r5:=kK hb 5;have r7:=kK hb 7
 have e4:ah b 4=at1 b 4:=rfl
 have e5:ah b 5=at1 b 5:=rfl
 have e7:ah b 7=at1 b 7:=rfl
 have et:aC b 4=b.take 4:=rfl
 have em:[UInt8.ofNat 115,UInt8.ofNat 110,UInt8.ofNat 97,UInt8.ofNat 102]=u2s magic:=by decide
 have notForm:¬xw b->Wq (some (zS,(2:Int))) (af7 b):=fun h=>(au _).2 ⟨fun _=>rfl,fun h'=>absurd h' h,fun h'=>absurd h' h,fun h'=>absurd h' h⟩
 unfold su
 rw[noS,e4,e5,e7,et,em,acX r4,acX r5,acX r7]
 have c0:bor (ile 4 (len b)) (aF (aF (ilt (len b) 36)))=true:=by
  simp only[bF,dh,dV,eX,bI,bP,dP,eP,dm,fB,bK,bJ,fC,fD];omega
 rw[aI c0]
 by_cases h36:b.length<36\/b.take 4≠magic
 ·rw[aI (b:=bor _ _) (by
   simp only[bF,dh,dV,eX,bI,bP,dP,eP,dm,fB,bK,bJ,fC,fD,alK,ne_eq,ah6 (hb.take 4) RY]
   unfold len
   rcases h36 with h | h
   ·exact .inl (by omega)
   ·exact .inr h)]
  exact notForm fun hf=>by
   rcases h36 with h | h
   ·have:=hf.many;omega
   ·exact h hf.mark
 have h36':36<=b.length/\b.take 4=magic:=⟨by omega,by simpa using fun h=>h36 (.inr h)⟩
 rw[dN (b:=bor _ _) (by
  simp only[bF,dh,dV,eX,bI,bP,dP,eP,dm,fB,bK,bJ,fC,fD,akf,ah6 (hb.take 4) RY]
  unfold len
  exact⟨by omega,h36'.2⟩),aI (CX (by unfold len;omega)),aI (CX (by unfold len;omega)),aI (CX (by unfold len;omega))]
 by_cases hdim:(1<=at1 b 4/\at1 b 4<=8)/\(1<=at1 b 5/\at1 b 5<=8)/\at1 b 7<=64
 case neg=>
  have hd:bor (bor (bor (bor (ilt (at1 b 4) 1) (ilt 8 (at1 b 4))) (ilt (at1 b 5) 1)) (ilt 8 (at1 b 5))) (ilt 64 (at1 b 7))=true:=by
   simp only[bF,dh,dV,eX,bI,bP,dP,eP,dm,fB,bK,bJ,fC,fD];omega
  rw[hd,bC,bn,aj,xq,bG]
  exact notForm fun hf=>hdim ⟨hf.acc,hf.sym,hf.ords⟩
 have hd:bor (bor (bor (bor (ilt (at1 b 4) 1) (ilt 8 (at1 b 4))) (ilt (at1 b 5) 1)) (ilt 8 (at1 b 5))) (ilt 64 (at1 b 7))=false:=by
  simp only[bF,dh,dV,eX,bI,bP,dP,eP,dm,fB,bK,bJ,fC,fD];omega
 rw[hd,bZ,bG,YP hdim.1 hdim.2.1 ⟨r7.1,r7.2⟩,aj,ig]
 have hcN:((cN b:Nat):Int)=at1 b 4*at1 b 5:=by
  unfold cN
  rw[Int.natCast_mul,Nr hb,Nr hb]
 have n4:=Nr hb 4;have n7:=Nr hb 7
 by_cases hj:b.length=NZ b+8*nZ b 4+4
 case neg=>
  rw[aI (b:=aF _) (by
   simp only[bF,dh,dV,eX,bI,bP,dP,eP,dm,fB,bK,bJ,fC,fD]
   unfold len
   unfold NZ QF off2 at hj
   omega)]
  exact notForm fun hf=>hj hf.just
 have hf:xw b:=⟨h36'.1,h36'.2,hdim.1,hdim.2.1,hdim.2.2,hj⟩
 rw[dN (b:=aF _) (by
  simp only[bF,dh,dV,eX,bI,bP,dP,eP,dm,fB,bK,bJ,fC,fD]
  unfold len
  unfold NZ QF off2 at hj
  omega)]
 have hsub:wr .i64 (aG (len b) 4)=((b.length - 4:Nat):Int):=by
  unfold aG len
  rw[dI (by omega) (by omega)];omega
 rw[hsub,aI (zX (kF (by omega)) (kF (by unfold len;omega))),aI (zX (kF (by omega)) (kF (by unfold len;omega))),qN]
 have el:aC b (b.length - 4)=b.take (b.length - 4):=rfl
 have ed:aH b (b.length - 4)=b.drop (b.length - 4):=rfl
 rw[el,ed,abl (by rw[List.length_take];omega) (hb.take _),aj]
 refine(amu (t:=b.drop (b.length - 4)) (n:=xA (b.take (b.length - 4))) (by rw[List.length_drop];omega)).bind fun w hw=> ?_
 match w,hw with
 |.inl w,hw=>
  obtain⟨h1,rfl⟩:=hw
  show Wq (some (zS,(10:Int))) (af7 b)
  exact(au _).2 ⟨fun h=>absurd hf h,fun _ _=>rfl,fun _ h=>absurd h h1,fun _ h=>absurd h h1⟩
 |.inr w,hw=>
  have hsum:sumP b:=hw
  simp only[qQ]
  have hrd:fJ.mk (aH (b.take (b.length - 4)) 4) false=rdr b 4 false:=rfl
  have hnn:=hf.nums
  have hlen:32<=b.length - 4:=by
   unfold NZ QF off2 at hj;omega
  rw[aI (kF (by unfold len;rw[List.length_take];omega)),hrd,rd1 hb (by omega),aj,rd1 hb (by omega),aj,rdf hb (by omega),aj,rd1 hb (by omega),aj]
  simp only
  have e71:at1 b (4+1+1+1)=at1 b 7:=rfl
  rw[e71]
  rw[aI (zX (zX (kF r7.1) (kF (Int.le_refl _))) (kF (by omega))),rd8 hb (by omega),aj,rd8 hb (by omega),aj,rd8 hb (by omega),aj]
  simp only
  have e8:itn (at1 b 7)=nZ b 7:=rfl
  have e9:len (iQ aA (nZ b 7))=(nZ b 7:Int):=by simp [len,iQ]
  rw[e8,e9]
  refine(ajx hb hf (od:=bor false (ilt 1 (at1 b 6))) (by rw[ig,dP])).bind fun y11 h11=> ?_
  obtain⟨od,hod,rfl⟩:=h11
  simp only
  have m:=Bo (a:=at1 b 4) (b:=at1 b 5) r4.1 (by omega) r5.1 (by omega)
  have hm:wr .i64 (jq (at1 b 4) (at1 b 5))=(cN b:Int):=by
   unfold jq
   rw[dI m.1 (by omega),hcN]
  rw[hm,aI (zX (zX (kF (by omega)) (kF (Int.le_refl _))) (kF (by omega))),qN]
  have e10:len (iQ aK (cN b))=(cN b:Int):=by simp [len,iQ]
  rw[e10]
  refine(akZ hb hf).bind fun y12 h12=> ?_
  subst h12
  simp only
  have e11:len (DF b)=(cN b:Int):=by simp [len,DF]
  rw[e11]
  refine(amJ hb hf).bind fun y13 h13=> ?_
  subst h13
  simp only
  rw[<-n4]
  refine(amY hb hf (nZ b 4:Int)).bind fun y14 h14=> ?_
  subst h14
  simp only[rdr]
  rw[n4]
  have bad2:¬WZ b->Wq (some (zS,(2:Int))) (af7 b):=fun h=>(au _).2 ⟨fun h'=>absurd hf h',fun _ h'=>absurd hsum h',fun _ _ _=>rfl,fun _ _ h'=>absurd h' h⟩
  cases od with
  |true=>
   rw[bC,bn,xq,bC,bn,aj,xq,bG]
   exact bad2 fun hg=>hg.1 (hod.1 rfl)
  |false=>
   rw[bZ,bG]
   have hno:¬akn b:=fun h=>by have:=hod.2 h;cases this
   refine(apO (p:=pZ b) (ZJ hb hf) (ahH hb) aeo).bind fun w hw=> ?_
   match w,hw with
   |.inl w,hw=>
    obtain⟨h1,h2⟩:=hw
    simp only[qQ]
    rw[h1,bZ,ig,bC,bn,aj,xq,bG]
    exact bad2 fun hg=>h2 hg.2
   |.inr w,hw=>
    obtain⟨h1,f,rfl⟩:=hw
    simp only[qQ]
    rw[ig,bZ,bG]
    have hsh:=Y5 hb hf
    refine(BQ (rY (pZ b)) (anA hb hf h1) hsh.1 hsh.2.2.1 hsh.2.2.2).bind fun y hy=> ?_
    cases y with
    |false=>
     rw[ig,bZ,bG]
     exact bad2 fun hg=>by have:=hy.2 hg.2;cases this
    |true=>
     rw[ig,bC,bn,au]
     exact⟨fun h=>absurd hf h,fun _ h=>absurd hsum h,fun _ _ h=>absurd ⟨hno,hy.1 rfl⟩ h,fun _ _ _=>rfl⟩
def sl (b:List Int) (k m:Nat):List Int:=(b.drop k).take m
theorem YQ (b:List Int) (k m n:Nat):sl b k (m+n)=sl b k m++sl b (k+m) n:=by
 unfold sl
 rw[List.take_add,List.drop_drop]
theorem apL {b:List Int} {k m:Nat} (h:k+m<=b.length):(sl b k m).length=m:=by
 unfold sl;rw[List.length_take,List.length_drop];omega
theorem GY {b:List Int} (hb:fM b) {k:Nat} (h:k+8<=b.length):p8 [at8 b k]=sl b k 8:=by
 have h8:=ahi (l:=sl b k 8) ((hb.drop k).take 8) (apL h)
 have e:p8 [at8 b k]=tq (at8 b k) 8:=by simp [p8]
 rw[e];exact h8
theorem Tv {b:List Int} (hb:fM b) {k:Nat} (h:k+1<=b.length):p1 [at1 b k]=sl b k 1:=by
 have r:=kK hb k
 unfold sl
 rw[Vj,take_one (by omega),aej,Int.emod_eq_of_lt r.1 (by omega)]
theorem aqW (a b c d e f:Int):p8 [a,b,c,d,e,f]=p8 [a]++(p8 [b]++(p8 [c]++(p8 [d]++(p8 [e]++p8 [f])))):=by
 rw[Jr,Jr b,Jr c,Jr d,Jr e]
theorem aox (a b c d:Int):p1 [a,b,c,d]=p1 [a]++(p1 [b]++(p1 [c]++p1 [d])):=by
 rw[PN,PN b,PN c]
theorem akD {n:Int} (h:0<=n) (h2:¬1<n):NY (ieq n 1)=n:=by
 by_cases h1:n=1
 ·subst h1;rfl
 ·have:n=0:=by omega
  subst this;rfl
theorem ai3 {b:List Int} (hb:fM b) {k:Nat} (h:k+61<=b.length) (ho:¬1<at1 b (k+60)):ku (ag6 b k)=sl b k 61:=by
 unfold ku ag6
 simp only
 rw[aqW,aox,akD (kK hb _).1 ho,GY hb (by omega),Tv hb (by omega),Tv hb (by omega),Tv hb (by omega),Tv hb (by omega),GY hb (by omega),GY hb (by omega),GY hb (by omega),GY hb (by omega),GY hb (by omega),GY hb (by omega),Tv hb (by omega)]
 rw[show 61=8+((1+(1+(1+1)))+((8+(8+(8+(8+(8+8)))))+1))from rfl]
 simp only[YQ,Nat.add_assoc]
 simp only[List.append_assoc,Nat.reduceAdd]
theorem anr {b:List Int} (hb:fM b) {k:Nat} (h:k+24<=b.length):VZ (anK b k)=sl b k 24:=by
 unfold VZ anK
 simp only
 rw[aqK,GY hb (by omega),GY hb (by omega),GY hb (by omega),show 24=8+(8+8)from rfl]
 simp only[YQ,Nat.add_assoc]
theorem U5 {b:List Int} {g:Nat->List Int} {o m:Nat}:∀(n:Nat),(∀i,i<n->g i=sl b (o+m*i) m)->(List.range n).flatMap g=sl b o (m*n)
 |0,_=>by simp [sl]
 |n+1,h=>by
  rw[List.range_succ,List.flatMap_append,U5 n fun i hi=>h i (by omega),Nat.mul_add,Nat.mul_one,YQ]
  simp only[List.flatMap_cons,List.flatMap_nil,List.append_nil]
  rw[h n (by omega)]
theorem Gn (l:List aK):l.flatMap ED=p8 (l.map (·.pos)):=by
 induction l with
 |nil=>rfl
 |cons c l ih=>rw[List.flatMap_cons,List.map_cons,Jr,ih];rfl
theorem adM (s:ai) (l:List aA):(dA s l).map (·.pos)=s.cells.map (·.pos):=by
 refine List.ext_getElem (by simp [dA]) fun i h1 h2=> ?_
 rw[List.getElem_map,List.getElem_map]
 exact mk_pos s l i (by simpa using h1)
theorem ajb {b:List Int} (hb:fM b) (hf:xw b) (hs:sumP b) (ho:¬akn b):encZ (rY (pZ b))=b:=by
 have hn:=hf.nums
 have hj:=hf.just
 have n4:=Nr hb 4;have n7:=Nr hb 7
 have ho6:¬1<at1 b 6:=fun h=>ho (.inl h)
 have hoi:∀i,i<nZ b 7->¬1<at1 b (32+61*i+60):=fun i hi h=>ho (.inr ⟨i,hi,h⟩)
 have h2:off2 b=32+61*nZ b 7:=rfl
 have h3:QF b=off2 b+8*cN b:=rfl
 have h4:NZ b=QF b+24*cN b:=rfl
 have hhead:headB (rY (pZ b))=sl b 0 32:=by
  unfold headB
  show magic++(p1 [at1 b 4,at1 b 5,NY (ieq (at1 b 6) 1),len (FB b)]++p8 [at8 b 8,at8 b 16,at8 b 24])=_
  have hlen:len (FB b)=at1 b 7:=by
   unfold len FB
   rw[List.length_map,List.length_range,n7]
  rw[hlen,akD (kK hb _).1 ho6,aox,aqK,Tv hb (by omega),Tv hb (by omega),Tv hb (by omega),Tv hb (by omega),GY hb (by omega),GY hb (by omega),GY hb (by omega)]
  rw[show 32=4+((1+(1+(1+1)))+(8+(8+8)))from rfl]
  simp only[YQ,Nat.add_assoc,Nat.zero_add]
  have:sl b 0 4=magic:=by unfold sl;rw[List.drop_zero];exact hf.mark
  rw[this]
  simp only[List.append_assoc,Nat.reduceAdd]
 have ho2:(rY (pZ b)).orders.flatMap ku=sl b 32 (61*nZ b 7):=by
  show(FB b).flatMap ku=_
  unfold FB
  rw[List.flatMap_map]
  exact U5 _ fun i hi=>ai3 hb (by omega) (hoi i hi)
 have hc2:(rY (pZ b)).cells.flatMap ED=sl b (off2 b) (8*cN b):=by
  show(dA (pZ b) (pZ b).orders).flatMap ED=_
  rw[Gn,adM,<-Gn]
  show(DF b).flatMap ED=_
  unfold DF
  rw[List.flatMap_map]
  exact U5 _ fun i hi=>GY hb (by omega)
 have hl2:(rY (pZ b)).limits.flatMap VZ=sl b (QF b) (24*cN b):=by
  show(QU b).flatMap VZ=_
  unfold QU
  rw[List.flatMap_map]
  exact U5 _ fun i hi=>anr hb (by omega)
 have hk2:p8 (rY (pZ b)).caps=sl b (NZ b) (8*nZ b 4):=by
  show p8 (QY b)=_
  unfold QY p8
  rw[List.flatMap_map]
  refine U5 _ fun i hi=> ?_
  have:=GY hb (k:=NZ b+8*i) (by omega)
  rw[<-this];simp [p8]
 have hbody:uH (rY (pZ b))=b.take (b.length - 4):=by
  unfold uH
  rw[hhead,ho2,hc2,hl2,hk2]
  have e:b.length - 4=32+(61*nZ b 7+(8*cN b+(24*cN b+8*nZ b 4))):=by omega
  have:sl b 0 (b.length - 4)=b.take (b.length - 4):=by unfold sl;rw[List.drop_zero]
  rw[<-this,e]
  simp only[YQ,Nat.zero_add]
  rw[<-h2,<-h3,<-h4]
 unfold encZ
 rw[hbody,<-hs,List.take_append_drop]
theorem aj2 {a b:Int} (ha:inI a) (hb:inI b) (h:tq a 8=tq b 8):a=b:=by rw[<-aii ha,h,aii hb]
def b1 (n:Int):Prop:=0<=n/\n<=255
theorem aiR {a b:Int} (ha:b1 a) (hb:b1 b) (h:tq a 1=tq b 1):a=b:=by
 unfold b1 at ha hb
 rw[<-aoA ha.1 (by omega),h,aoA hb.1 (by omega)]
theorem Om {α:Type} {f:α->List Int} {m:Nat} (hm:∀x,(f x).length=m) {P:α->Prop} (hi:∀x y,P x->P y->f x=f y->x=y):∀ {l k:List α},l.length=k.length->(∀x∈l,P x)->(∀x∈k,P x)->l.flatMap f=k.flatMap f->l=k
 |[],[],_,_,_,_=>rfl
 |[],_::_,h,_,_,_=>by cases h
 |_::_,[],h,_,_,_=>by cases h
 |x::l,y::k,h,h1,h2,he=>by
  rw[List.flatMap_cons,List.flatMap_cons]at he
  obtain⟨e1,e2⟩:=List.append_inj he (by rw[hm,hm])
  rw[hi x y (h1 x (by simp)) (h2 y (by simp)) e1,Om hm hi (by simpa using h) (fun z hz=>h1 z (by simp [hz])) (fun z hz=>h2 z (by simp [hz])) e2]
end Go.Av
