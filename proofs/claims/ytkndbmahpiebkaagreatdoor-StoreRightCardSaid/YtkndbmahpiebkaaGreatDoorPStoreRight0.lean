/- The plain law, part 0. No condition. -/
import Derived.Test.YtkndbmahpiebkaaGreatDoorDStoreRight
import Derived.KernelRfl
set_option linter.unusedVariables false
set_option linter.unusedSimpArgs false
set_option linter.unnecessarySimpa false
namespace Go.Av
open Go
theorem aiU {V W:Type} {step:V->Option (V ⊕ W)} (μ:V->Nat) (I:V->Prop) (R:W->Prop)
 (h:∀v,I v->(∃v',step v=some (.inl v')/\I v'/\μ v'<μ v)\/∃w,step v=some (.inr w)/\R w):∀(n:Nat) (v:V),μ v<n->I v->∃w,bD step n v=some w/\R w
 |0,v,hn,_=>by omega
 |n+1,v,hn,hI=>by
  rcases h v hI with ⟨v',h1,h2,h3⟩ | ⟨w,h1,h2⟩
  ·obtain⟨w,g1,g2⟩:=aiU μ I R h n v' (by omega) h2
   exact⟨w,by rw[bD,h1];exact g1,g2⟩
  ·exact⟨w,by rw[bD,h1];rfl,h2⟩
theorem aoj {n:Nat} (h:n<1000000):n<LF:=Nat.lt_trans h (by decide)
theorem yL {n:Int} (h:inI n):wr .i64 n=n:=by
 unfold inI at h
 unfold wr IntKind.wrap
 simp [IntKind.bits,IntKind.signed]
 omega
theorem ai5 (n:Int):inI (wr .i64 n):=by
 unfold inI wr IntKind.wrap
 simp [IntKind.bits,IntKind.signed]
 omega
theorem aj8 {n:Int} (h1: -18446744073709551616<=n) (h2:n<=18446744073709551616):
 (inI n/\wr .i64 n=n)\/(9223372036854775807<n/\wr .i64 n=n - 18446744073709551616)\/(n< -9223372036854775808/\wr .i64 n=n+18446744073709551616):=by
 unfold inI wr IntKind.wrap
 simp [IntKind.bits,IntKind.signed]
 omega
theorem uh (n:Int):wr .u64 n=n%18446744073709551616:=by
 unfold wr IntKind.wrap
 simp [IntKind.bits,IntKind.signed]
theorem bY {n:Int} (h1:0<=n) (h2:n<1000000000000):wr .i64 n=n:=yL ⟨by omega,by omega⟩
theorem aB {α:Type} {b:Bool} {x y:α} (h:b=true):cnd b x y=x:=by subst h;rfl
theorem dH {α:Type} {b:Bool} {x y:α} (h:b=false):cnd b x y=y:=by subst h;rfl
theorem Jv {α:Type} (b:Bool) (x y:α):cnd b x y=if b=true then x else y:=by cases b<;>rfl
theorem iO {α:Type} (a b:Int) (x y:α):cnd (ieq a b) x y=if a=b then x else y:=by
 by_cases h:a=b
 ·rw[if_pos h,show ieq a b=true by simp [ieq,h]];rfl
 ·rw[if_neg h,show ieq a b=false by simp [ieq,h]];rfl
theorem Xb {α:Type} (a b:Int) (x y:α):cnd (ilt a b) x y=if a<b then x else y:=by
 by_cases h:a<b
 ·rw[if_pos h,show ilt a b=true by simp [ilt,h]];rfl
 ·rw[if_neg h,show ilt a b=false by simp [ilt,h]];rfl
theorem aqJ {α:Type} (a b:Int) (x y:α):cnd (ile a b) x y=if a<=b then x else y:=by
 by_cases h:a<=b
 ·rw[if_pos h,show ile a b=true by simp [ile,h]];rfl
 ·rw[if_neg h,show ile a b=false by simp [ile,h]];rfl
theorem fB {α:Type} (b:Bool) (x y:α):cnd (ay b) x y=cnd b y x:=by cases b<;>rfl
theorem JW {α:Type} (P:Prop) [Decidable P] (x y:α):cnd (decide P) x y=if P then x else y:=by
 by_cases h:P
 ·rw[if_pos h,decide_eq_true h];rfl
 ·rw[if_neg h,decide_eq_false h];rfl
instance (n:Int):Decidable (inI n):=by unfold inI;infer_instance
theorem ak {α β:Type} (a:α) (f:α->Option β):af (some a) f=f a:=rfl
theorem avf {α β:Type} (p:Prop) [Decidable p] (x y:Option α) (f:α->Option β):af (if p then x else y) f=if p then af x f else af y f:=by split<;>rfl
theorem nD {a b:Int} (h:a<b):ilt a b=true:=decide_eq_true h
theorem qm {a b:Int} (h:¬a<b):ilt a b=false:=decide_eq_false h
theorem jd {a b:Int} (h:a<=b):ile a b=true:=decide_eq_true h
theorem ahJ {a b:Int} (h:¬a<=b):ile a b=false:=decide_eq_false h
theorem agZ (a:Int):ieq a a=true:=by simp [ieq]
theorem Fb {a b:Bool} (h1:a=true) (h2:b=true):band a b=true:=by subst h1;subst h2;rfl
theorem bI {α:Type} [Inhabited α] (l:List α) (i:Nat) (h:i<l.length):ai l (itn (i:Int))=l[i]:=by
 simp [ai,itn,h]
theorem inb {α:Type} (l:List α) (i:Nat) (h:i<l.length):band (ile 0 (i:Int)) (ilt (i:Int) (len l))=true:=Fb (jd (by omega)) (nD (by simp only[len];omega))
theorem aQ (a b:Bool):(band a b=true)=(a=true/\b=true):=by cases a<;>cases b<;>simp [band]
theorem bg (a b:Bool):(band a b=false)=(a=false\/b=false):=by cases a<;>cases b<;>simp [band]
theorem bM (a b:Bool):(bor a b=true)=(a=true\/b=true):=by cases a<;>cases b<;>simp [bor]
theorem bZ (a b:Bool):(bor a b=false)=(a=false/\b=false):=by cases a<;>cases b<;>simp [bor]
theorem aT (a:Bool):(ay a=true)=(a=false):=by cases a<;>simp [ay]
theorem aU (a:Bool):(ay a=false)=(a=true):=by cases a<;>simp [ay]
theorem bV (a b:Int):(ilt a b=true)=(a<b):=by simp [ilt]
theorem cu (a b:Int):(ilt a b=false)=(b<=a):=by simp [ilt]
theorem bJ (a b:Int):(ile a b=true)=(a<=b):=by simp [ile]
theorem dh (a b:Int):(ile a b=false)=(b<a):=by simp [ile]
theorem aZ (a b:Int):(ieq a b=true)=(a=b):=by simp [ieq]
theorem bC (a b:Int):(ieq a b=false)=(a≠b):=by simp [ieq]
theorem cZ (a b:Bool):(beq a b=true)=(a=b):=by simp [beq]
theorem dm (a b:Bool):(beq a b=false)=(a≠b):=by simp [beq]
theorem ZP (a b:List UInt8):(seq a b=true)=(a=b):=by simp [seq]
theorem afK (a b:List UInt8):(seq a b=false)=(a≠b):=by simp [seq]
def Wq {α:Type} (o:Option α) (Q:α->Prop):Prop:=∃a,o=some a/\Q a
theorem ah {α:Type} {Q:α->Prop} (a:α):Wq (some a) Q↔Q a:=⟨fun⟨_,h,q⟩=>by cases h;exact q,fun h=>⟨a,rfl,h⟩⟩
theorem gq {α:Type} {Q:α->Prop} (c:Bool) (x y:Option α):Wq (cnd c x y) Q↔(c=true->Wq x Q)/\(c=false->Wq y Q):=by
 cases c<;>simp [cnd]
theorem uM {α β:Type} {Q:β->Prop} (o:Option α) (f:α->Option β):Wq (af o f) Q↔Wq o fun a=>Wq (f a) Q:=by
 cases o with
 |none=>simp [af,Wq]
 |some a=>simp [af,ah]
theorem Wq.mono {α:Type} {Q R:α->Prop} {o:Option α} (h:Wq o Q) (hq:∀a,Q a->R a):Wq o R:=by
 obtain⟨a,e,q⟩:=h
 exact⟨a,e,hq a q⟩
theorem Wq.bind {α β:Type} {Q:α->Prop} {R:β->Prop} {o:Option α} {f:α->Option β} (h:Wq o Q) (hq:∀a,Q a->Wq (f a) R):Wq (af o f) R:=(uM o f).2 (h.mono hq)
theorem Wq.eq {α:Type} {o:Option α} {a:α} (h:Wq o fun x=>x=a):o=some a:=by obtain⟨x,e,rfl⟩:=h;exact e
theorem Wq.dec {o:Option Bool} {P:Prop} [Decidable P] (h:Wq o fun b=>b=true↔P):o=some (decide P):=by
 obtain⟨b,e,q⟩:=h
 rw[e];congr 1
 cases b<;>simp_all
def Tot {α:Type} (o:Option α):Prop:=Wq o fun _=>True
theorem Tot.wq {α:Type} {Q:α->Prop} {o:Option α} (h:Tot o) (hq:∀a,o=some a->Q a):Wq o Q:=by
 obtain⟨a,e,_⟩:=h
 exact⟨a,e,hq a e⟩
theorem Wq.tot {α:Type} {Q:α->Prop} {o:Option α} (h:Wq o Q):Tot o:=h.mono fun _ _=>trivial
theorem TK {α:Type} (a:α):Tot (some a):=⟨a,rfl,trivial⟩
theorem adQ {α:Type} {c:Bool} {x y:Option α} (h1:c=true->Tot x) (h2:c=false->Tot y):Tot (cnd c x y):=(gq c x y).2 ⟨h1,h2⟩
theorem aqB {α β:Type} {o:Option α} {f:α->Option β} (h:Tot o) (h2:∀a,o=some a->Tot (f a)):Tot (af o f):=(uM o f).2 (h.wq h2)
theorem ajT {V W:Type} {step:V->Option (V ⊕ W)} (μ:V->Nat) (I:V->Prop) (R:W->Prop)
 (h:∀v,I v->Wq (step v) fun r=>match r with | .inl v'=>I v'/\μ v'<μ v | .inr w=>R w) (n:Nat) (v:V) (hn:μ v<n) (hi:I v):Wq (bD step n v) R:=
 aiU μ I R (fun v hv=>by
  obtain⟨r,e,q⟩:=h v hv
  match r,e,q with
  |.inl v',e,q=>exact .inl ⟨v',e,q.1,q.2⟩
  |.inr w,e,q=>exact .inr ⟨w,e,q⟩) n v hn hi
theorem bG {i:Nat} (h:i<1000000):wr .i64 (aj (i:Int) 1)=((i+1:Nat):Int):=by
 unfold aj
 rw[bY (by omega) (by omega)];omega
theorem eU {α:Type} (l:List α) (i:Nat):ilt (i:Int) (len l)=decide (i<l.length):=by
 simp [ilt,len]
theorem gX {W X:Type} {step:Int×X->Option ((Int×X) ⊕ W)} {n:Nat} (hn:n<999999) (J:Nat->X->Prop) (R:W->Prop)
 (h:∀i x,i<n->J i x->Wq (step ((i:Int),x)) fun r=>match r with | .inl (k,x')=>k=((i+1:Nat):Int)/\J (i+1) x' | .inr w=>R w)
 (he:∀x,J n x->Wq (step ((n:Int),x)) fun r=>match r with | .inl _=>False | .inr w=>R w)
 (x:X) (i0:Nat) (hi0:i0<=n) (hx:J i0 x):Wq (bD step LF ((i0:Int),x)) R:=by
 refine ajT (fun v:Int×X=>n - v.1.toNat) (fun v:Int×X=>∃i:Nat,v.1=(i:Int)/\i<=n/\J i v.2) R ?_ LF _ (aoj (by simp only;omega)) ⟨i0,rfl,hi0,hx⟩
 rintro⟨k,y⟩ ⟨i,rfl,hi,hj⟩
 by_cases hlt:i<n
 ·refine(h i y hlt hj).mono fun r hr=> ?_
  match r,hr with
  |.inl (k,x'),hr=>
   obtain⟨rfl,h2⟩:=hr
   exact⟨⟨i+1,rfl,hlt,h2⟩,by simp only[Int.toNat_natCast];omega⟩
  |.inr w,hr=>exact hr
 ·obtain rfl:i=n:=by omega
  refine(he y hj).mono fun r hr=> ?_
  match r,hr with
  |.inl _,hr=>exact hr.elim
  |.inr w,hr=>exact hr
theorem agt {α:Type} {l:List α} (h:l.length<1000000):abW (len l) (fun y0 => cnd (beq y0 true) (some []) (cnd (ile (len l) 68719476736) (some l) none))=some l:=by
 unfold abW
 have hc:ile (len l) 68719476736=true:=jd (by simp only[len];omega)
 simp only[aB hc]
 by_cases h0:len l=0
 ·have:l=[]:=List.eq_nil_of_length_eq_zero (by simp only[len]at h0;omega)
  subst this
  simp [len,cnd,beq,ile]
 ·rw[if_neg h0]
  simp [cnd,beq]
theorem bK {α:Type} (x y:α):cnd true x y=x:=rfl
theorem bW {α:Type} (x y:α):cnd false x y=y:=rfl
theorem dD:ay true=false:=rfl
theorem dA:ay false=true:=rfl
theorem Bz (b:Bool):band true b=b:=rfl
theorem LK (b:Bool):band false b=false:=rfl
theorem sG (b:Bool):bor true b=true:=rfl
theorem iM (b:Bool):bor false b=b:=rfl
theorem ah3 (b:Bool):bor b true=true:=by cases b<;>rfl
theorem Dp:ieq 0 0=true:=rfl
theorem QO:ieq 3 0=false:=rfl
theorem UJ {α:Type} (l:List α) (i:Nat) (x:α):(bT l i x).length=l.length:=by simp [bT]
theorem qh (i:Nat):itn (i:Int)=i:=by simp [itn]
theorem Bq {a b:Int} (ha:inI a) (hb:inI b):tN a b=some (if inI (a+b)then (a+b,0)else (0,3)):=by
 unfold inI at ha hb
 unfold tN aj
 rcases aj8 (n:=a+b) (by omega) (by omega)with ⟨h,e⟩ | ⟨h,e⟩ | ⟨h,e⟩<;>rw[e,Jv]<;>simp only[aQ,bg,bM,bZ,aT,aU,bV,cu,bJ,dh,aZ,bC,cZ,dm]
 ·rw[if_pos h,if_neg]
  rintro⟨h1,h2⟩;unfold inI at h;exact h1 (decide_eq_decide.2 (by omega))
 ·rw[if_pos,if_neg (by unfold inI;omega)]
  exact⟨fun h1=>by have:=decide_eq_decide.1 h1;omega,by omega⟩
 ·rw[if_pos,if_neg (by unfold inI;omega)]
  exact⟨fun h1=>by have:=decide_eq_decide.1 h1;omega,by omega⟩
theorem aoF {a b:Int} (ha:inI a) (hb:inI b):Bo a b=some (if inI (a - b)then (a - b,0)else (0,3)):=by
 unfold inI at ha hb
 unfold Bo aI
 rcases aj8 (n:=a - b) (by omega) (by omega)with ⟨h,e⟩ | ⟨h,e⟩ | ⟨h,e⟩<;>rw[e,Jv]<;>simp only[aQ,bg,bM,bZ,aT,aU,bV,cu,bJ,dh,aZ,bC,cZ,dm]
 ·rw[if_pos h,if_neg]
  rintro⟨h1,h2⟩;unfold inI at h;exact h1 (decide_eq_decide.2 (by omega))
 ·rw[if_pos,if_neg (by unfold inI;omega)]
  exact⟨fun h1=>by have:=decide_eq_decide.1 h1;omega,by omega⟩
 ·rw[if_pos,if_neg (by unfold inI;omega)]
  exact⟨fun h1=>by have:=decide_eq_decide.1 h1;omega,by omega⟩
theorem aid (a b:Int):Pn a b=some (max a b):=by
 unfold Pn imax
 congr 1
 by_cases h:b>a
 ·rw[if_pos h];omega
 ·rw[if_neg h];omega
theorem half (n:Int) (h1:0<=n) (h2:n<18446744073709551616):∃a b:Int,n=a*4294967296+b/\0<=a/\a<4294967296/\0<=b/\b<4294967296/\dN .u64 n 32=a/\wr .u64 (kL .u64 n 4294967295)=b:=by
 refine⟨n / 4294967296,n%4294967296,by omega,by omega,by omega,by omega,by omega,?_,?_⟩
 ·unfold dN
  have:min (Int.toNat 32) (IntKind.bits .u64)=32:=by decide
  rw[this,Int.fdiv_eq_ediv_of_nonneg _ (by decide)]
  rfl
 ·unfold kL
  rw[uh]
  have e:(BitVec.ofInt (IntKind.bits .u64) n &&& BitVec.ofInt (IntKind.bits .u64) 4294967295).toNat=n.toNat%4294967296:=by
   rw[BitVec.toNat_and]
   have:(BitVec.ofInt (IntKind.bits .u64) 4294967295).toNat=2^32 - 1:=by decide
   rw[this,Nat.and_two_pow_sub_one_eq_mod]
   rw[BitVec.toNat_ofInt]
   congr 1
   have:(n%(2^(IntKind.bits .u64):Nat))=n:=Int.emod_eq_of_lt h1 (by simpa [IntKind.bits] using h2)
   rw[this]
  rw[e];omega
theorem as2 {x y:Int} (hx:0<=x) (hx2:x<18446744073709551616) (hy:0<=y) (hy2:y<18446744073709551616):
 tJ x y=some (x*y / 18446744073709551616,x*y%18446744073709551616):=by
 obtain⟨a,b,e1,a1,a2,b1,b2,s1,s2⟩:=half x hx hx2
 obtain⟨c,d,e2,c1,c2,d1,d2,t1,t2⟩:=half y hy hy2
 unfold tJ
 rw[s1,s2,t1,t2]
 unfold dY aj
 have m1:0<=a*c/\a*c<=4294967295*4294967295:=⟨Int.mul_nonneg a1 c1,Int.mul_le_mul (by omega) (by omega) c1 (by omega)⟩
 have m2:0<=a*d/\a*d<=4294967295*4294967295:=⟨Int.mul_nonneg a1 d1,Int.mul_le_mul (by omega) (by omega) d1 (by omega)⟩
 have m3:0<=b*c/\b*c<=4294967295*4294967295:=⟨Int.mul_nonneg b1 c1,Int.mul_le_mul (by omega) (by omega) c1 (by omega)⟩
 have m4:0<=b*d/\b*d<=4294967295*4294967295:=⟨Int.mul_nonneg b1 d1,Int.mul_le_mul (by omega) (by omega) d1 (by omega)⟩
 have mm:x*y=a*c*18446744073709551616+(a*d+b*c)*4294967296+b*d:=by
  subst e1 e2
  simp only[Int.add_mul,Int.mul_add]
  have q1:a*4294967296*(c*4294967296)=a*c*18446744073709551616:=by
   rw[Int.mul_assoc,Int.mul_left_comm 4294967296,<-Int.mul_assoc,<-Int.mul_assoc];omega
  have q2:a*4294967296*d=a*d*4294967296:=by rw[Int.mul_assoc,Int.mul_comm 4294967296,<-Int.mul_assoc]
  have q3:b*(c*4294967296)=b*c*4294967296:=by rw[<-Int.mul_assoc]
  rw[q1,q2,q3];omega
 rw[mm]
 generalize a*c=p at*
 generalize a*d=q at*
 generalize b*c=r at*
 generalize b*d=t at*
 have sh:∀n:Int,0<=n->n<18446744073709551616->dN .u64 n 32=n / 4294967296:=fun n h1 h2=>by
  obtain⟨u,v,h3,h4,h5,h6,h7,h8,_⟩:=half n h1 h2
  rw[h8];omega
 have la:∀n:Int,0<=n->n<18446744073709551616->wr .u64 (kL .u64 n 4294967295)=n%4294967296:=fun n h1 h2=>by
  obtain⟨u,v,h3,h4,h5,h6,h7,_,h8⟩:=half n h1 h2
  rw[h8];omega
 simp only[uh p,uh q,uh r,uh t]
 rw[Int.emod_eq_of_lt (a:=p) m1.1 (by omega),Int.emod_eq_of_lt (a:=q) m2.1 (by omega),Int.emod_eq_of_lt (a:=r) m3.1 (by omega),Int.emod_eq_of_lt (a:=t) m4.1 (by omega)]
 rw[sh t m4.1 (by omega)]
 rw[uh (q+t / 4294967296),Int.emod_eq_of_lt (a:=q+t / 4294967296) (by omega) (by omega)]
 rw[sh (q+t / 4294967296) (by omega) (by omega),la (q+t / 4294967296) (by omega) (by omega)]
 rw[uh (p+_),Int.emod_eq_of_lt (a:=p+(q+t / 4294967296) / 4294967296) (by omega) (by omega)]
 rw[uh ((q+t / 4294967296)%4294967296+r),Int.emod_eq_of_lt (a:=(q+t / 4294967296)%4294967296+r) (by omega) (by omega)]
 rw[sh _ (by omega) (by omega)]
 rw[uh,uh]
 congr 2<;>omega
theorem afu {a:Int} (ha:inI a):LU a=some (a.natAbs:Int):=by
 unfold inI at ha
 unfold LU aI
 rw[Jv];simp only[bV,uh]
 split
 ·congr 1;omega
 ·congr 1;omega
theorem ah9 {a b:Int} (ha:inI a) (hb:inI b):Pj a b=some (if inI (a*b)then (a*b,0)else (0,3)):=by
 unfold Pj
 rw[afu ha,afu hb,ak,ak,as2 (by omega) (by unfold inI at ha;omega) (by omega) (by unfold inI at hb;omega),ak]
 have hm:(a.natAbs:Int)*(b.natAbs:Int)=((a*b).natAbs:Int):=by rw[Int.natAbs_mul];rfl
 have hn:(a.natAbs:Int)*(b.natAbs:Int)<=9223372036854775808*9223372036854775808:=Int.mul_le_mul (by unfold inI at ha;omega) (by unfold inI at hb;omega) (by omega) (by omega)
 rw[hm]at hn ⊢
 have hs:(decide (a<0)=decide (b<0)->0<=a*b)/\(decide (a<0)≠decide (b<0)->a*b<=0):=by
  constructor
  ·intro h
   by_cases h1:a<0
   ·have h2:b<0:=by simpa [h1] using h
    exact Int.mul_nonneg_of_nonpos_of_nonpos (by omega) (by omega)
   ·have h2:¬b<0:=by simpa [h1] using h
    exact Int.mul_nonneg (by omega) (by omega)
  ·intro h
   by_cases h1:a<0
   ·have h2:¬b<0:=by simpa [h1] using h
    exact Int.mul_nonpos_of_nonpos_of_nonneg (by omega) (by omega)
   ·have h2:b<0:=by simpa [h1] using h
    exact Int.mul_nonpos_of_nonneg_of_nonpos (by omega) (by omega)
 generalize a*b=p at*
 simp only[Jv,aQ,bg,bM,bZ,aT,aU,bV,cu,bJ,dh,aZ,bC,cZ,dm,aI,uh,ne_eq]
 unfold ilt at*
 by_cases hd:decide (a<0)=decide (b<0)
 ·have hp:=hs.1 hd
  rw[if_neg (fun h=>h.1.2 hd)]
  by_cases hr:p<=9223372036854775807
  ·rw[if_pos (by omega),if_pos ⟨by omega,by omega⟩,yL ⟨by omega,by omega⟩]
   congr 2;omega
  ·rw[if_neg (by omega),if_neg (by unfold inI;omega)]
 ·have hp:=hs.2 hd
  by_cases hr: -9223372036854775808<=p
  ·rw[if_pos ⟨⟨by omega,hd⟩,by omega⟩,if_pos ⟨by omega,by omega⟩]
   congr 2
   rcases aj8 (n:=(0 - ((p.natAbs:Int)%18446744073709551616))%18446744073709551616) (by omega) (by omega)with ⟨h,e⟩ | ⟨h,e⟩ | ⟨h,e⟩<;>rw[e]<;>unfold inI at* <;>omega
  ·rw[if_neg (by omega),if_neg (by omega),if_neg (by unfold inI;omega)]
def vS (n:Int):Prop:=1<=n/\n<=1000000000000
def Tn (r:yC):Prop:=
 (r.kind=1/\vS r.order/\(0<=r.account/\r.account<8)/\(0<=r.symbol/\r.symbol<8)/\(r.side=1\/r.side=2)/\1<=r.qty/\1<=r.price/\r.long=0/\r.short=0/\r.opn=0/\r.on=false/\r.seq=0/\r.what=0)\/
 (r.kind=2/\vS r.order/\r.account=0/\r.symbol=0/\r.side=0/\1<=r.qty/\1<=r.price/\r.long=0/\r.short=0/\r.opn=0/\r.on=false/\r.seq=0/\r.what=0)\/
 (r.kind=3/\vS r.order/\r.account=0/\r.symbol=0/\r.side=0/\r.qty=0/\r.price=0/\r.long=0/\r.short=0/\r.opn=0/\r.on=false/\r.seq=0/\r.what=0)\/
 (r.kind=4/\r.order=0/\(0<=r.account/\r.account<8)/\((r.symbol= -1/\r.long=0/\r.short=0)\/(0<=r.symbol/\r.symbol<8))/\r.side=0/\r.qty=0/\r.price=0/\0<=r.long/\0<=r.short/\0<=r.opn/\r.on=false/\r.seq=0/\r.what=0)\/
 (r.kind=5/\r.order=0/\r.account=0/\r.symbol=0/\r.side=0/\r.qty=0/\r.price=0/\r.long=0/\r.short=0/\r.opn=0/\r.seq=0/\r.what=0)\/
 (r.kind=6/\vS r.order/\r.account=0/\r.symbol=0/\r.side=0/\r.long=0/\r.short=0/\r.opn=0/\r.on=false/\(1<=r.seq/\r.seq<=1000000000)/\
   ((r.what=3/\1<=r.qty/\r.price=0)\/(r.what=5/\1<=r.qty/\1<=r.price)\/((r.what=1\/r.what=2\/r.what=4\/r.what=6)/\r.qty=0/\r.price=0)))
theorem aq2 (a b c:Int):(0<=tu (tu a b) c)↔0<=a/\0<=b/\0<=c:=by
 unfold tu;split<;>split<;>omega
theorem akF (r:yC):Wq (MB r) fun b=>b=true↔vS r.order/\(1<=r.seq/\r.seq<=1000000000)/\
 ((r.what=3/\1<=r.qty/\r.price=0)\/(r.what=5/\1<=r.qty/\1<=r.price)\/((r.what=1\/r.what=2\/r.what=4\/r.what=6)/\r.qty=0/\r.price=0)):=by
 unfold MB qF su
 by_cases h1:1<=r.seq/\r.seq<=1000000000
 ·rw[aB (b:=ay (bor (ilt r.seq 1) (ilt 1000000000 r.seq))) (by simp only[aQ,bg,bM,bZ,aT,aU,bV,cu,bJ,dh,aZ,bC,cZ,dm];omega),ak]
  by_cases h2:vS r.order
  ·rw[show band (ile 1 r.order) (ile r.order 1000000000000)=true by simp only[aQ,bg,bM,bZ,aT,aU,bV,cu,bJ,dh,aZ,bC,cZ,dm];exact h2,dH (by simp only[aQ,bg,bM,bZ,aT,aU,bV,cu,bJ,dh,aZ,bC,cZ,dm];exact⟨by omega,trivial⟩)]
   by_cases k3:r.what=3
   ·rw[aB (by rw[aZ];exact k3),ah];simp only[h1,h2,true_and,aQ,bg,bM,bZ,aT,aU,bV,cu,bJ,dh,aZ,bC,cZ,dm];omega
   rw[dH (by rw[bC];exact k3)]
   by_cases k5:r.what=5
   ·rw[aB (by rw[aZ];exact k5),ak,ah];simp only[h1,h2,true_and,aQ,bg,bM,bZ,aT,aU,bV,cu,bJ,dh,aZ,bC,cZ,dm];omega
   rw[dH (by rw[bC];exact k5)]
   by_cases k1:r.what=1
   ·rw[aB (by rw[aZ];exact k1),aB (by rw[aZ];exact k1),ah];simp only[h1,h2,true_and,aQ,bg,bM,bZ,aT,aU,bV,cu,bJ,dh,aZ,bC,cZ,dm];omega
   rw[dH (by rw[bC];exact k1)]
   by_cases k2:r.what=2
   ·rw[aB (by rw[aZ];exact k2),aB (by rw[aZ];exact k2),ah];simp only[h1,h2,true_and,aQ,bg,bM,bZ,aT,aU,bV,cu,bJ,dh,aZ,bC,cZ,dm];omega
   rw[dH (by rw[bC];exact k2)]
   by_cases k4:r.what=4
   ·rw[aB (by rw[aZ];exact k4),aB (by rw[aZ];exact k4),ah];simp only[h1,h2,true_and,aQ,bg,bM,bZ,aT,aU,bV,cu,bJ,dh,aZ,bC,cZ,dm];omega
   rw[dH (by rw[bC];exact k4)]
   by_cases k6:r.what=6
   ·rw[aB (by rw[aZ];exact k6),ah];simp only[h1,h2,true_and,aQ,bg,bM,bZ,aT,aU,bV,cu,bJ,dh,aZ,bC,cZ,dm];omega
   rw[dH (by rw[bC];exact k6),ah]
   simp only[h1,h2,true_and,Bool.false_eq_true,false_iff];omega
  ·rw[show band (ile 1 r.order) (ile r.order 1000000000000)=false by simp only[aQ,bg,bM,bZ,aT,aU,bV,cu,bJ,dh,aZ,bC,cZ,dm];unfold vS at h2;omega,aB (by simp only[aQ,bg,bM,bZ,aT,aU,bV,cu,bJ,dh,aZ,bC,cZ,dm,or_true]),ah]
   simp [h2]
 ·rw[dH (b:=ay (bor (ilt r.seq 1) (ilt 1000000000 r.seq))) (by simp only[aQ,bg,bM,bZ,aT,aU,bV,cu,bJ,dh,aZ,bC,cZ,dm];omega),ak,aB (by simp only[aQ,bg,bM,bZ,aT,aU,bV,cu,bJ,dh,aZ,bC,cZ,dm,or_true]),ah]
  simp [h1]
theorem alE (r:yC):Wq (wY r) fun b=>b=true↔Tn r:=by
 unfold wY OT
 obtain⟨ev,he,hq⟩:=akF r
 by_cases k1:r.kind=1
 ·have e1:ieq r.kind 1=true:=by rw[aZ];exact k1
  simp only[e1,bK,ak]
  simp only[uM,gq,ah,aQ,bg,bM,bZ,aT,aU,bV,cu,bJ,dh,aZ,bC,cZ,dm,true_implies,ne_eq,not_true_eq_false,false_implies,and_true,true_and,or_self,reduceCtorEq,qF,sV,su,Tn,vS];grind
 have e1:ieq r.kind 1=false:=by rw[bC];exact k1
 by_cases k2:r.kind=2
 ·have e2:ieq r.kind 2=true:=by rw[aZ];exact k2
  simp only[e1,e2,bK,bW,ak]
  simp only[uM,gq,ah,aQ,bg,bM,bZ,aT,aU,bV,cu,bJ,dh,aZ,bC,cZ,dm,true_implies,ne_eq,not_true_eq_false,false_implies,and_true,true_and,or_self,reduceCtorEq,qF,sV,su,Tn,vS];grind
 have e2:ieq r.kind 2=false:=by rw[bC];exact k2
 by_cases k3:r.kind=3
 ·have e3:ieq r.kind 3=true:=by rw[aZ];exact k3
  simp only[e1,e2,e3,bK,bW,ak]
  simp only[uM,gq,ah,aQ,bg,bM,bZ,aT,aU,bV,cu,bJ,dh,aZ,bC,cZ,dm,true_implies,ne_eq,not_true_eq_false,false_implies,and_true,true_and,or_self,reduceCtorEq,qF,sV,su,Tn,vS];grind
 have e3:ieq r.kind 3=false:=by rw[bC];exact k3
 by_cases k4:r.kind=4
 ·have e4:ieq r.kind 4=true:=by rw[aZ];exact k4
  simp only[e1,e2,e3,e4,bK,bW,ak]
  simp only[uM,gq,ah,aQ,bg,bM,bZ,aT,aU,bV,cu,bJ,dh,aZ,bC,cZ,dm,true_implies,ne_eq,not_true_eq_false,false_implies,and_true,true_and,or_self,reduceCtorEq,qF,sV,su,Tn,vS,aq2];grind
 have e4:ieq r.kind 4=false:=by rw[bC];exact k4
 by_cases k5:r.kind=5
 ·have e5:ieq r.kind 5=true:=by rw[aZ];exact k5
  simp only[e1,e2,e3,e4,e5,bK,bW,ak]
  simp only[uM,gq,ah,aQ,bg,bM,bZ,aT,aU,bV,cu,bJ,dh,aZ,bC,cZ,dm,true_implies,ne_eq,not_true_eq_false,false_implies,and_true,true_and,or_self,reduceCtorEq,qF,sV,su,Tn,vS];grind
 have e5:ieq r.kind 5=false:=by rw[bC];exact k5
 by_cases k6:r.kind=6
 ·have e6:ieq r.kind 6=true:=by rw[aZ];exact k6
  simp only[e1,e2,e3,e4,e5,e6,bK,bW,ak,he]
  simp only[uM,gq,ah,aQ,bg,bM,bZ,aT,aU,bV,cu,bJ,dh,aZ,bC,cZ,dm,true_implies,ne_eq,not_true_eq_false,false_implies,and_true,true_and,or_self,reduceCtorEq,Tn,hq];grind
 have e6:ieq r.kind 6=false:=by rw[bC];exact k6
 simp only[e1,e2,e3,e4,e5,e6,bK,bW,ak]
 simp only[uM,gq,ah,aQ,bg,bM,bZ,aT,aU,bV,cu,bJ,dh,aZ,bC,cZ,dm,true_implies,ne_eq,not_true_eq_false,false_implies,and_true,true_and,or_self,reduceCtorEq,Tn];grind
def aav (o:aJ):Prop:=(1<=o.id/\o.id<=1000000000000)/\(0<=o.account/\o.account<8)/\(0<=o.symbol/\o.symbol<8)/\(o.side=1\/o.side=2)/\1<=o.qty/\1<=o.price
theorem ahw (o:aJ):Wq (FI o) fun b=>b=true↔aav o:=by
 unfold FI
 rw[uM]
 refine(alE _).mono fun b hb=> ?_
 rw[ah,hb]
 simp [Tn,aav,vS]
def aeb (o:aJ):Prop:=o.newQty≠0\/o.newPrice≠0
instance (o:aJ):Decidable (aeb o):=by unfold aeb;infer_instance
instance (o:aJ):Decidable (aav o):=by unfold aav;infer_instance
theorem aep (o:aJ):Wq (kN o) fun b=>b=true↔aeb o:=by
 unfold kN
 simp only[ah,bM,aT,bC,aeb]
def NS (o:aJ):Prop:=aav o/\0<=o.filled/\o.filled<=o.qty/\0<=o.version/\(aeb o->1<=o.newQty/\1<=o.newPrice)/\
 ((o.phase=1/\o.filled=0/\o.version=0/\¬aeb o)\/(o.phase=2/\o.filled<o.qty)\/(o.phase=3/\¬aeb o))
instance (o:aJ):Decidable (NS o):=by unfold NS;infer_instance
theorem ahh (o:aJ):Wq (kQ o) fun b=>b=true↔NS o:=by
 unfold kQ
 rw[uM]
 refine(aep o).mono fun p hp=> ?_
 rw[uM]
 refine(ahw o).mono fun b hb=> ?_
 unfold NS
 rw[<-hp,<-hb]
 have hm:(tu o.newQty o.newPrice<1)↔¬(1<=o.newQty/\1<=o.newPrice):=by unfold tu;split<;>omega
 simp only[uM,gq,ah,aQ,bg,bM,bZ,aT,aU,bV,cu,bJ,dh,aZ,bC,cZ,dm,hm]
 cases p<;>cases b<;>simp<;>omega
theorem GL (o:aJ):kQ o=some (decide (NS o)):=(ahh o).dec
def Jd (o:aJ):Int:=if o.phase=3 then 0 else max o.qty o.newQty - o.filled
def qj (o:aJ):Int:=if o.phase=3 then 0 else if o.newQty<=o.filled then (o.qty - o.filled)*o.price else max ((o.qty - o.filled)*o.price) ((o.newQty - o.filled)*o.newPrice)
theorem U6 {o:aJ} (h:NS o) (hr:lX o):0<=Jd o/\Jd o<=9223372036854775807:=by
 obtain⟨_,h1,h2,_⟩:=h
 have:=hr.qty.2;have:=hr.newQty.2
 unfold Jd;split<;>omega
theorem anr {o:aJ} (h:NS o) (hn:o.filled<o.newQty):1<=o.newPrice:=by
 obtain⟨_,h1,h2,_,h4,_⟩:=h
 exact(h4 (.inl (by omega))).2
theorem acC {o:aJ} (h:NS o):0<=qj o:=by
 have hp:=h.1.2.2.2.2.2
 have hf:=h.2.2.1
 unfold qj;split
 ·omega
 ·have m:0<=(o.qty - o.filled)*o.price:=Int.mul_nonneg (by omega) (by omega)
  split<;>omega
theorem ajX {o:aJ} (h:NS o) (hr:lX o):wX o=some (Jd o):=by
 have hb:=U6 h hr
 unfold wX
 rw[GL,ak,decide_eq_true h,aid,ak]
 unfold Jd at*
 rw[dD,iM,iO]
 split
 ·rfl
 ·rename_i hp
  rw[if_neg hp]at hb
  unfold aI
  rw[yL ⟨by omega,by omega⟩]
theorem aht {o:aJ} (h:NS o) (hr:lX o):BA o=some (if qj o<=9223372036854775807 then (qj o,0)else (0,3)):=by
 have hp:=h.1.2.2.2.2.2
 have hf:=h.2.2.1
 have hf0:=h.2.1
 have rq:=hr.qty;have rp:=hr.price;have rf:=hr.filled;have rn:=hr.newQty;have rnp:=hr.newPrice
 unfold inI at rq rf rn
 unfold BA
 rw[GL,ak,decide_eq_true h,dD,bW,iO]
 unfold qj
 split
 ·rw[if_pos (by omega)]
 ·unfold aI
  rw[yL ⟨by omega,by omega⟩,ah9 ⟨by omega,by omega⟩ rp,ak]
  have m:0<=(o.qty - o.filled)*o.price:=Int.mul_nonneg (by omega) (by omega)
  generalize (o.qty - o.filled)*o.price=a at*
  rw[Jv]
  simp only[aQ,bg,bM,bZ,aT,aU,bV,cu,bJ,dh,aZ,bC,cZ,dm]
  by_cases hn:o.newQty<=o.filled
  ·rw[if_pos (.inr hn),if_pos hn]
   by_cases ha:a<=9223372036854775807
   ·rw[if_pos (c:=inI a) ⟨by omega,ha⟩,if_pos ha]
   ·rw[if_neg (c:=inI a) (by unfold inI;omega),if_neg ha]
  ·rw[if_neg hn]
   have hnp:=anr h (by omega)
   rw[yL ⟨by omega,by omega⟩,ah9 ⟨by omega,by omega⟩ rnp,ak]
   have m2:0<=(o.newQty - o.filled)*o.newPrice:=Int.mul_nonneg (by omega) (by omega)
   generalize (o.newQty - o.filled)*o.newPrice=b at*
   by_cases ha:a<=9223372036854775807
   ·rw[if_pos (c:=inI a) ⟨by omega,ha⟩,if_neg (by simp only[ne_eq,not_true_eq_false,false_or];exact hn)]
    by_cases hb:b<=9223372036854775807
    ·rw[if_pos (c:=inI b) ⟨by omega,hb⟩]
     rw[dH (by simp [ay,ieq]),aid,ak,if_pos (by omega)]
    ·rw[if_neg (c:=inI b) (by unfold inI;omega)]
     rw[aB (by simp [ay,ieq]),if_neg (by omega)]
   ·rw[if_neg (c:=inI a) (by unfold inI;omega),if_pos (.inl (by decide)),if_neg (by omega)]
def okC (c:aK):Prop:=rW c/\(0<=c.buy/\0<=c.sell/\0<=c.opn)/\inI (c.pos+c.buy)/\inI (c.sell - c.pos)
theorem anL (c:aK):okC c↔(inI c.pos/\inI c.buy/\inI c.sell/\inI c.opn)/\(0<=c.buy/\0<=c.sell/\0<=c.opn)/\inI (c.pos+c.buy)/\inI (c.sell - c.pos):=
 ⟨fun⟨⟨a,b,c,d⟩,h⟩=>⟨⟨a,b,c,d⟩,h⟩,fun⟨⟨a,b,c,d⟩,h⟩=>⟨⟨a,b,c,d⟩,h⟩⟩
instance (c:aK):Decidable (okC c):=decidable_of_iff _ (anL c).symm
theorem alP {c:aK} (h:rW c):IX c=some (⟨if inI (c.pos+c.buy)then c.pos+c.buy else 0,if inI (c.sell - c.pos)then c.sell - c.pos else 0,c.opn⟩,decide (inI (c.pos+c.buy)/\inI (c.sell - c.pos))):=by
 unfold IX
 rw[Bq h.pos h.buy,ak,aoF h.sell h.pos,ak]
 by_cases h1:inI (c.pos+c.buy)
 ·by_cases h2:inI (c.sell - c.pos)
  ·simp only[if_pos h1,if_pos h2,Dp,Bz,decide_eq_true (show _/\_ from⟨h1,h2⟩)]
  ·simp only[if_pos h1,if_neg h2,QO,Dp,Bz,decide_eq_false (fun h:_/\_=>h2 h.2)]
 ·simp only[if_neg h1,QO,LK,decide_eq_false (fun h:_/\_=>h1 h.1)]
  by_cases h2:inI (c.sell - c.pos)
  ·simp only[if_pos h2]
  ·simp only[if_neg h2]
theorem aj2 {c:aK} (h:rW c):Wq (jJ c) fun b=>b=true↔okC c:=by
 unfold jJ
 rw[alP h,ak,ah]
 simp only[aQ,bJ,decide_eq_true_eq,okC]
 rw[aq2]
 constructor
 ·rintro⟨a,b⟩;exact⟨h,b,a⟩
 ·rintro⟨_,b,a⟩;exact⟨a,b⟩
theorem Jm {c:aK} (h:rW c):jJ c=some (decide (okC c)):=(aj2 h).dec
def YO (c:aK) (o:aJ):aK:=if o.side=2 then ⟨c.pos,c.buy,c.sell+Jd o,c.opn+qj o⟩else ⟨c.pos,c.buy+Jd o,c.sell,c.opn+qj o⟩
theorem aea {c:aK} {o:aJ} (hc:okC c) (ho:NS o) (hr:lX o):jH c o=some (if okC (YO c o)then (YO c o,0)else (c,3)):=by
 have hO:=U6 ho hr
 have hW:=acC ho
 obtain⟨hk,⟨n1,n2,n3⟩,r1,r2⟩:=id hc
 have ib:=hk.buy;have is':=hk.sell;have io:=hk.opn;have ip:=hk.pos
 unfold jH
 rw[Jm hk,ak,decide_eq_true hc,GL,decide_eq_true ho,dD,dA,bK,ak,dD,iM,bW,aht ho hr,ajX ho hr,ak]
 simp only[ak]
 have oO:inI (Jd o):=⟨by omega,by omega⟩
 by_cases hw:qj o<=9223372036854775807
 ·have oW:inI (qj o):=⟨by omega,hw⟩
  rw[if_pos hw]
  simp only[Dp,dD,iM]
  by_cases hs:o.side=2
  ·rw[aB (by rw[aZ];exact hs),Bq is' oO,ak,Bq io oW,ak]
   unfold YO;rw[if_pos hs]
   by_cases h1:c.sell+Jd o<=9223372036854775807
   ·by_cases h2:c.opn+qj o<=9223372036854775807
    ·rw[if_pos ⟨by omega,h1⟩,if_pos ⟨by omega,h2⟩]
     simp only[Dp,dD,iM,dA,bK]
     rw[Jm (c:=⟨c.pos,c.buy,c.sell+Jd o,c.opn+qj o⟩) ⟨ip,ib,⟨by simp only;omega,h1⟩,⟨by simp only;omega,h2⟩⟩,ak,fB,JW]
     split<;>rfl
    ·rw[if_pos ⟨by omega,h1⟩,if_neg (by unfold inI;omega)]
     simp only[Dp,QO,dD,iM,dA,bK,sG,bW,ak]
     rw[if_neg fun h=>h2 h.1.opn.2]
   ·rw[if_neg (by unfold inI;omega)]
    simp only[QO,dA,sG,dD,bK,bW,ak]
    rw[if_neg fun h=>h1 h.1.sell.2]
  ·rw[dH (by rw[bC];exact hs),Bq ib oO,ak,Bq io oW,ak]
   unfold YO;rw[if_neg hs]
   by_cases h1:c.buy+Jd o<=9223372036854775807
   ·by_cases h2:c.opn+qj o<=9223372036854775807
    ·rw[if_pos ⟨by omega,h1⟩,if_pos ⟨by omega,h2⟩]
     simp only[Dp,dD,iM,dA,bK]
     rw[Jm (c:=⟨c.pos,c.buy+Jd o,c.sell,c.opn+qj o⟩) ⟨ip,⟨by simp only;omega,h1⟩,is',⟨by simp only;omega,h2⟩⟩,ak,fB,JW]
     split<;>rfl
    ·rw[if_pos ⟨by omega,h1⟩,if_neg (by unfold inI;omega)]
     simp only[Dp,QO,dD,iM,dA,bK,sG,bW,ak]
     rw[if_neg fun h=>h2 h.1.opn.2]
   ·rw[if_neg (by unfold inI;omega)]
    simp only[QO,dA,sG,dD,bK,bW,ak]
    rw[if_neg fun h=>h1 h.1.buy.2]
 ·have hno:¬okC (YO c o):=fun h=>by
   have:=h.1.opn.2
   unfold YO at this
   split at this<;>simp only at this<;>omega
  rw[if_neg hw,if_neg hno]
  simp only[QO,dA,sG,dD,bW,ak,bK]
  by_cases hs:o.side=2
  ·rw[aB (by rw[aZ];exact hs),Bq is' oO,ak,Bq io (by decide),ak]
  ·rw[dH (by rw[bC];exact hs),Bq ib oO,ak,Bq io (by decide),ak]
def acf (x:dL):Prop:=0<=x.long/\0<=x.short/\0<=x.opn
instance (x:dL):Decidable (acf x):=by unfold acf;infer_instance
theorem ahq (x:dL):Gw x=some (decide (acf x)):=by
 refine Wq.dec ?_
 unfold Gw acf
 rw[ah,bJ,aq2]
theorem aam (l:List Int) (i:Nat) (h:i<l.length):(l.take (i+1)).sum=(l.take i).sum+l[i]:=by
 rw[List.take_succ_eq_append_getElem h,List.sum_append];simp
theorem af0:∀ {l:List Int},(∀x∈l,0<=x)->0<=l.sum
 |[],_=>by simp
 |a::l,h=>by
  have:=af0 (l:=l) fun x hx=>h x (by simp [hx])
  have:=h a (by simp)
  simp only[List.sum_cons];omega
theorem aeh {l:List Int} (h:∀x∈l,0<=x) (i:Nat):(l.take i).sum<=l.sum:=by
 have e:l.sum=(l.take i).sum+(l.drop i).sum:=by rw[<-List.sum_append,List.take_append_drop]
 have:=af0 (l:=l.drop i) fun x hx=>h x (List.mem_of_mem_drop hx)
 omega
def avH (l:List Int):Int×Int:=if l.sum<=9223372036854775807 then (l.sum,0)else (0,3)
theorem akz {l:List Int} (hl:l.length<999999) (h:∀x∈l,0<=x/\inI x):MZ l=some (avH l):=by
 refine Wq.eq ?_
 have hn:∀x∈l,0<=x:=fun x hx=>(h x hx).1
 unfold MZ
 refine Wq.bind (Q:=fun w:(Int×Int) ⊕ (Int×Int×Int)=>match w with | .inl w=>w=(3,0)/\¬l.sum<=9223372036854775807 | .inr w=>w.1=l.sum/\l.sum<=9223372036854775807)
  (gX (n:=l.length) (step:=fun v:Int×Int×Int×Int=>yR (len l) l v.fst v.snd.fst v.snd.snd.fst v.snd.snd.snd) (by omega)
    (fun i x=>x.1=(l.take i).sum/\x.1<=9223372036854775807) _ ?_ ?_ _ 0 (Nat.zero_le _) (by simp)) ?_
 ·rintro i ⟨a,b,c⟩ hi ⟨rfl,ha⟩
  simp only[yR]
  simp only at ha
  have ht:=af0 (l:=l.take i) fun x hx=>hn x (List.mem_of_mem_take hx)
  have hx:=h l[i] (List.getElem_mem _)
  rw[aB (by rw[eU];simpa using hi),aB (inb l i hi),bI l i hi,Bq ⟨by omega,ha⟩ hx.2,ak,<-aam l i hi]
  have:=aeh hn (i+1)
  have h2:=af0 (l:=l.take (i+1)) fun x hx=>hn x (List.mem_of_mem_take hx)
  by_cases hr:(l.take (i+1)).sum<=9223372036854775807
  ·rw[if_pos ⟨by omega,hr⟩]
   simp only[Dp,dD,bW,ah]
   exact⟨bG (by omega),trivial,hr⟩
  ·rw[if_neg (by unfold inI;omega)]
   simp only[QO,dA,bK,ah]
   exact⟨trivial,by omega⟩
 ·rintro⟨a,b,c⟩ ⟨rfl,ha⟩
  simp only[yR]
  simp only at ha
  rw[dH (by rw[eU];simp),ah]
  rw[List.take_length]at*
  exact⟨rfl,ha⟩
 ·rintro w hw
  unfold avH
  cases w with
  |inl w=>obtain⟨rfl,h2⟩:=hw;simp only[gY,ah];rw[if_neg h2]
  |inr w=>obtain⟨h1,h2⟩:=hw;simp only[gY,ah];rw[if_pos h2,h1]
def vP (l:List aK):Int:=(l.map aK.opn).sum
theorem ahz {l:List aK} (hl:l.length<999999) (h:∀c∈l,0<=c.opn/\inI c.opn):xB l=some (if vP l<=9223372036854775807 then (vP l,0)else (0,3)):=by
 refine Wq.eq ?_
 unfold xB
 refine Wq.bind (Q:=fun w:List Int=>w=l.map aK.opn)
  (gX (n:=l.length) (step:=fun v:Int×List Int=>uX (len l) l v.fst v.snd) (by omega) (fun i x=>x=(l.take i).map aK.opn) _ ?_ ?_ _ 0 (Nat.zero_le _) (by simp)) ?_
 ·rintro i x hi rfl
  simp only[uX]
  rw[aB (by rw[eU];simpa using hi),aB (inb l i hi),aB (jd (by simp [dB,len];omega)),ah,bI l i hi]
  exact⟨bG (by omega),by rw[List.take_succ_eq_append_getElem hi,List.map_append];rfl⟩
 ·rintro x rfl
  simp only[uX]
  rw[dH (by rw[eU];simp),ah,List.take_length]
 ·rintro w rfl
  rw[akz (by simpa using hl) (fun x hx=>by
   obtain⟨c,hc,rfl⟩:=List.mem_map.1 hx
   exact h c hc),ak,ah]
  rfl
theorem aaw {l:List Int} (hl:l.length<999999) (h0:l≠[]):Wq (oN l) fun m=>0<=m↔∀x∈l,0<=x:=by
 have hp:0<l.length:=List.length_pos_iff.2 h0
 unfold oN
 rw[dH (qm (by simp only[len];omega)),aB (nD (by simp only[len];omega))]
 refine Wq.bind (Q:=fun m=>0<=m↔∀x∈l,0<=x) (gX (n:=l.length) (step:=fun v:Int×Int=>ny l v.fst v.snd) (by omega) (fun i x=>0<=x↔∀y∈l.take i,0<=y) _ ?_ ?_ _ 1 hp ?_) ?_
 ·rintro i x hi hx
  simp only[ny]
  rw[aB (by rw[eU];simpa using hi),aB (inb l i hi),ah,bI l i hi]
  refine⟨bG (by omega),?_⟩
  rw[List.take_succ_eq_append_getElem hi]
  simp only[List.mem_append,List.mem_singleton]
  unfold tu
  constructor
  ·intro h y hy
   rcases hy with hy | rfl
   ·exact hx.1 (by split at h<;>omega) y hy
   ·split at h<;>omega
  ·intro h
   have h1:=hx.2 fun y hy=>h y (.inl hy)
   have h2:=h _ (.inr rfl)
   split<;>omega
 ·rintro x hx
  simp only[ny]
  rw[dH (by rw[eU];simp),ah]
  rwa[List.take_length]at hx
 ·cases l with
  |nil=>exact absurd rfl h0
  |cons a r=>simp [ai]
 ·exact fun w hw=>(ah _).2 hw
def aj9 (l:List aJ) (n:Int):Option Nat:=l.findIdx? fun o=>o.id == n
def aqA (l:List aJ) (n:Int):Int:=match aj9 l n with | some k=>k | none=> -1
theorem att (s:ax) (n:Int) (hl:s.orders.length<999999):uT s n=some (aqA s.orders n):=by
 refine Wq.eq ?_
 unfold uT
 refine Wq.bind (Q:=fun w:Int ⊕ Int=>match w with
  |.inl k=>∃i:Nat,k=i/\∃h:i<s.orders.length,s.orders[i].id=n/\∀j,(h:j<s.orders.length)->j<i->s.orders[j].id≠n
  |.inr _=>∀j,(h:j<s.orders.length)->s.orders[j].id≠n)
  (gX (n:=s.orders.length) (step:=fun v:Int×Int=>dS (len s.orders) s.orders n v.fst v.snd) (by omega) (fun i x=>∀j,(h:j<s.orders.length)->j<i->s.orders[j].id≠n) _ ?_ ?_ _ 0 (Nat.zero_le _) (fun j _ h=>by omega)) ?_
 ·rintro i x hi hx
  simp only[dS]
  rw[aB (by rw[eU];simpa using hi),aB (inb _ i hi),bI _ i hi,gq]
  refine⟨fun he=>(ah _).2 ⟨i,rfl,hi,by simpa [ieq] using he,hx⟩,fun he=>(ah _).2 ⟨bG (by omega),fun j hj hji=> ?_⟩⟩
  by_cases e:j=i
  ·subst e;simpa [ieq] using he
  ·exact hx j hj (by omega)
 ·rintro x hx
  simp only[dS]
  rw[dH (by rw[eU];simp),ah]
  exact fun j hj=>hx j hj hj
 ·rintro w hw
  cases w with
  |inl k=>
   obtain⟨i,rfl,hi,h1,h2⟩:=hw
   have:aj9 s.orders n=some i:=by
    unfold aj9
    rw[List.findIdx?_eq_some_iff_getElem]
    exact⟨hi,by simpa using h1,fun j hj=>by simpa using h2 j (by omega) hj⟩
   simp only[gY,ah,aqA,this]
  |inr k=>
   have:aj9 s.orders n=none:=by
    unfold aj9
    rw[List.findIdx?_eq_none_iff]
    intro o ho
    obtain⟨j,hj,rfl⟩:=List.getElem_of_mem ho
    simpa using hw j hj
   simp only[gY,ah,aqA,this]
def BV (s:ax):Prop:=(1<=s.accounts/\s.accounts<=8)/\(1<=s.symbols/\s.symbols<=8)/\len s.cells=s.accounts*s.symbols/\len s.limits=len s.cells/\len s.caps=s.accounts/\s.orders.length<=64
instance (s:ax):Decidable (BV s):=by unfold BV;infer_instance
theorem vJ {a b:Int} (h1:0<=a) (h2:a<=9) (h3:0<=b) (h4:b<=9):0<=a*b/\a*b<=81:=
 ⟨Int.mul_nonneg h1 h3,by have:=Int.mul_le_mul h2 h4 h3 (by omega);omega⟩
theorem ZA (s:ax):Wq (uy s) fun b=>b=true↔BV s:=by
 unfold uy
 simp only[ah,aQ,bJ,aZ,BV]
 constructor
 ·rintro⟨⟨⟨⟨⟨⟨⟨a,b⟩,c⟩,d⟩,e⟩,f⟩,g⟩,h⟩
  have:=vJ (a:=s.accounts) (b:=s.symbols) (by omega) (by omega) (by omega) (by omega)
  rw[show dY s.accounts s.symbols=s.accounts*s.symbols from rfl,bY this.1 (by omega)]at e
  exact⟨⟨a,b⟩,⟨c,d⟩,e,f,g,by simp only[len]at h;omega⟩
 ·rintro⟨⟨a,b⟩,⟨c,d⟩,e,f,g,h⟩
  have:=vJ (a:=s.accounts) (b:=s.symbols) (by omega) (by omega) (by omega) (by omega)
  rw[show dY s.accounts s.symbols=s.accounts*s.symbols from rfl,bY this.1 (by omega)]
  exact⟨⟨⟨⟨⟨⟨⟨a,b⟩,c⟩,d⟩,e⟩,f⟩,g⟩,by simp only[len];omega⟩
theorem BV.lens {s:ax} (hs:BV s):s.cells.length<=64/\s.limits.length=s.cells.length/\s.caps.length=s.accounts.toNat/\s.orders.length<=64:=by
 obtain⟨⟨h1,h2⟩,⟨h3,h4⟩,h5,h6,h7,h8⟩:=hs
 have m:s.accounts*s.symbols<=8*8:=Int.mul_le_mul h2 h4 (by omega) (by omega)
 simp only[len]at h5 h6 h7
 exact⟨by omega,by omega,by omega,h8⟩
def atZ (n:Int) (o:aJ):Int:=o.account*n+o.symbol
theorem akZ {s:ax} (hs:BV s) (a y:Int) (ha:0<=a) (ha2:a<s.accounts) (hy:0<=y) (hy2:y<s.symbols):
 ∃k:Nat,bU s a y=some (k:Int)/\(k:Int)=a*s.symbols+y/\k<s.cells.length:=by
 obtain⟨⟨h1,h2⟩,⟨h3,h4⟩,h5,_⟩:=hs
 have m:=vJ (a:=a) (b:=s.symbols) (by omega) (by omega) (by omega) (by omega)
 have l:(a+1)*s.symbols<=s.accounts*s.symbols:=Int.mul_le_mul_of_nonneg_right (by omega) (by omega)
 have e:(a+1)*s.symbols=a*s.symbols+s.symbols:=by rw[Int.add_mul,Int.one_mul]
 refine⟨(a*s.symbols+y).toNat,?_,by omega,by simp only[len]at h5;omega⟩
 unfold bU
 rw[show dY a s.symbols=a*s.symbols from rfl,bY m.1 (by omega),show aj (a*s.symbols) y=a*s.symbols+y from rfl,bY (by omega) (by omega)]
 congr 1;omega
def UL (n:Int) (cs:List aK) (a:Int):List aK:=(cs.drop (a*n).toNat).take n.toNat
theorem aoR {s:ax} (hs:BV s) (a:Int) (ha:0<=a) (ha2:a<s.accounts):
 kZ s a=some (UL s.symbols s.cells a):=by
 obtain⟨⟨h1,h2⟩,⟨h3,h4⟩,h5,_⟩:=hs
 have m:=vJ (a:=a) (b:=s.symbols) (by omega) (by omega) (by omega) (by omega)
 have m2:=vJ (a:=a+1) (b:=s.symbols) (by omega) (by omega) (by omega) (by omega)
 have l:(a+1)*s.symbols<=s.accounts*s.symbols:=Int.mul_le_mul_of_nonneg_right (by omega) (by omega)
 have e:(a+1)*s.symbols=a*s.symbols+s.symbols:=by rw[Int.add_mul,Int.one_mul]
 unfold kZ
 rw[show dY a s.symbols=a*s.symbols from rfl,bY m.1 (by omega),show aj a 1=a+1 from rfl,bY (n:=a+1) (by omega) (by omega),
  show dY (a+1) s.symbols=(a+1)*s.symbols from rfl,bY m2.1 (by omega)]
 rw[aB (by simp only[aQ,bJ];omega)]
 rw[show aI ((a+1)*s.symbols) (a*s.symbols)=s.symbols from by unfold aI;omega]
 rfl
theorem acJ {n:Int} {cs:List aK} {a:Int} {c:aK} (h:c∈UL n cs a):c∈cs:=List.mem_of_mem_drop (List.mem_of_mem_take h)
theorem acI {n:Int} {cs:List aK} {a:Int}:(UL n cs a).length<=cs.length:=by
 unfold UL;rw[List.length_take,List.length_drop];omega
def tV (s:ax) (o:aJ):Prop:=NS o/\o.phase≠3/\o.account<s.accounts/\o.symbol<s.symbols
def ajl (l:List aJ):Prop:=l.Pairwise fun a b=>a.id<b.id
structure ak2 (s:ax):Prop where
 ords:∀o∈s.orders,tV s o
 asc:ajl s.orders
 ids:∀o∈s.orders,o.id<=s.last
 last:0<=s.last/\s.last<=1000000000000
 seq:0<=s.seq/\s.seq<=1000000000
 lsn:0<=s.lsn/\s.lsn<=1000000000
 lims:∀x∈s.limits,acf x
 caps:∀x∈s.caps,0<=x
theorem uU {α:Type} {l:List α} {i:Nat} (h:i<l.length) {x:α}:x∈l.take (i+1)↔x∈l.take i\/x=l[i]:=by
 rw[List.take_succ_eq_append_getElem h,List.mem_append,List.mem_singleton]
theorem auZ (s:ax) (hl:s.orders.length<999999) (h2:s.limits.length<999999) (h3:s.caps.length<999999) (h0:s.caps≠[]):
 Wq (wo s) fun b=>b=true↔ak2 s:=by
 unfold wo
 refine Wq.bind (Q:=fun w:Bool ⊕ (Int×Bool)=>match w with
  |.inl b=>b=false/\¬((∀o∈s.orders,tV s o)/\ajl s.orders)
  |.inr v=>(∀o∈s.orders,tV s o/\o.id<=v.1)/\ajl s.orders/\(v.1=0\/∃o∈s.orders,o.id=v.1))
  (gX (n:=s.orders.length) (step:=fun v:Int×Int×Bool=>nY (len s.orders) s.orders s v.fst v.snd.fst v.snd.snd) (by omega)
    (fun i v=>(∀o∈s.orders.take i,tV s o/\o.id<=v.1)/\ajl (s.orders.take i)/\(v.1=0\/∃o∈s.orders.take i,o.id=v.1)) _ ?_ ?_ _ 0 (Nat.zero_le _) (by simp [ajl])) ?_
 ·rintro i ⟨x,q⟩ hi ⟨g1,g2,g3⟩
  simp only at g1 g2 g3
  simp only[nY]
  rw[aB (by rw[eU];simpa using hi),aB (inb _ i hi),bI _ i hi,GL,ak]
  simp only[gq,ah,bM,bZ,aT,aU,aZ,bC,bJ,dh,decide_eq_true_eq,decide_eq_false_iff_not]
  refine⟨fun hb=>⟨trivial,fun⟨a1,a2⟩=> ?_⟩,fun hc=>⟨bG (by omega),fun o ho=> ?_,?_,.inr ⟨_,(uU hi).2 (.inr rfl),rfl⟩⟩⟩
  ·obtain⟨b1,b2,b3,b4⟩:=a1 s.orders[i] (List.getElem_mem _)
   have hle:s.orders[i].id<=x:=by
    rcases hb with (((hb | hb) | hb) | hb) | hb
    ·exact absurd b1 hb
    ·exact absurd hb b2
    ·omega
    ·omega
    ·exact hb
   rcases g3 with g3 | ⟨o,ho,g3⟩
   ·have:=b1.1.1.1;omega
   ·obtain⟨j,hj,rfl⟩:=List.getElem_of_mem ho
    rw[List.length_take]at hj
    have:=List.pairwise_iff_getElem.1 a2 j i (by omega) hi (by omega)
    rw[List.getElem_take]at g3
    omega
  ·rcases(uU hi).1 ho with ho | rfl
   ·have:=g1 o ho
    exact⟨this.1,by have:=this.2;omega⟩
   ·exact⟨⟨hc.1.1.1.1,hc.1.1.1.2,by omega,by omega⟩,Int.le_refl _⟩
  ·rw[List.take_succ_eq_append_getElem hi]
   unfold ajl
   rw[List.pairwise_append]
   refine⟨g2,by simp,fun a ha b hb=> ?_⟩
   rw[List.mem_singleton]at hb
   subst hb
   have:=(g1 a ha).2
   omega
 ·rintro⟨x,q⟩ hx
  simp only[nY]
  rw[dH (by rw[eU];simp),ah]
  simp only[List.take_length]at hx
  exact hx
 ·rintro w hw
  cases w with
  |inl b=>
   obtain⟨rfl,hn⟩:=hw
   simp only[gY,ah]
   exact⟨fun h=>(by cases h),fun h=>absurd ⟨h.ords,h.asc⟩ hn⟩
  |inr v=>
   obtain⟨g1,g2,g3⟩:=hw
   have gl:v.1<=s.last/\0<=s.last↔(∀o∈s.orders,o.id<=s.last)/\0<=s.last:=by
    constructor
    ·rintro⟨a,b⟩;exact⟨fun o ho=>by have:=(g1 o ho).2;omega,b⟩
    ·rintro⟨a,b⟩
     refine⟨?_,b⟩
     rcases g3 with g3 | ⟨o,ho,g3⟩
     ·omega
     ·have:=a o ho;omega
   have hF:ak2 s↔(v.1<=s.last/\s.last<=1000000000000/\0<=s.seq/\s.seq<=1000000000/\0<=s.lsn/\s.lsn<=1000000000)/\(∀x∈s.limits,acf x)/\(∀x∈s.caps,0<=x)/\0<=s.last:=by
    constructor
    ·intro h
     have:=gl.2 ⟨h.ids,h.last.1⟩
     exact⟨⟨this.1,h.last.2,h.seq.1,h.seq.2,h.lsn.1,h.lsn.2⟩,h.lims,h.caps,h.last.1⟩
    ·rintro⟨⟨a1,a2,a3,a4,a5,a6⟩,b,c,d⟩
     exact⟨fun o ho=>(g1 o ho).1,g2,(gl.1 ⟨a1,d⟩).1,⟨d,a2⟩,⟨a3,a4⟩,⟨a5,a6⟩,b,c⟩
   rw[hF]
   obtain⟨m,hm,hmq⟩:=aaw h3 h0
   simp only[gY,hm,Jv,avf,ak]
   simp only[aQ,bg,bM,bZ,aT,aU,bV,cu,bJ,dh,aZ,bC,cZ,dm]
   by_cases hA:v.1<=s.last/\s.last<=1000000000000/\0<=s.seq/\s.seq<=1000000000/\0<=s.lsn/\s.lsn<=1000000000
   ·have hA':((((v.fst<=s.last/\s.last<=1000000000000)/\0<=s.seq)/\s.seq<=1000000000)/\0<=s.lsn)/\s.lsn<=1000000000:=⟨⟨⟨⟨⟨hA.1,hA.2.1⟩,hA.2.2.1⟩,hA.2.2.2.1⟩,hA.2.2.2.2.1⟩,hA.2.2.2.2.2⟩
    rw[if_pos hA']
    refine Wq.bind (Q:=fun w:Int ⊕ Int=>match w with | .inl k=>0<=k/\¬∀x∈s.limits,acf x | .inr _=>∀x∈s.limits,acf x)
     (gX (n:=s.limits.length) (step:=fun v:Int×Int=>dn (len s.limits) s.limits v.fst v.snd) (by omega) (fun i _=>∀x∈s.limits.take i,acf x) _ ?_ ?_ _ 0 (Nat.zero_le _) (by simp)) ?_
    ·rintro i x hi hx
     simp only[dn]
     rw[aB (by rw[eU];simpa using hi),aB (inb _ i hi),bI _ i hi,ahq,ak]
     simp only[gq,ah,aT,aU,decide_eq_true_eq,decide_eq_false_iff_not]
     refine⟨fun h=>⟨by omega,fun h2=>h (h2 _ (List.getElem_mem _))⟩,fun h=>⟨bG (by omega),fun x hx'=> ?_⟩⟩
     rcases(uU hi).1 hx' with h5 | rfl
     ·exact hx x h5
     ·exact h
    ·rintro x hx
     simp only[dn]
     rw[dH (by rw[eU];simp),ah]
     rwa[List.take_length]at hx
    ·rintro w hw
     cases w with
     |inl k=>
      obtain⟨hk,hn⟩:=hw
      simp only
      rw[if_neg (fun h=>by omega),ah]
      simp only[aQ,bg,bM,bZ,aT,aU,bV,cu,bJ,dh,aZ,bC,cZ,dm]
      constructor
      ·rintro⟨⟨⟨_,h⟩,_⟩,_⟩;omega
      ·rintro⟨_,h,_⟩;exact absurd h hn
     |inr k=>
      simp only
      rw[if_pos (.inl hA'),ah]
      simp only[aQ,bg,bM,bZ,aT,aU,bV,cu,bJ,dh,aZ,bC,cZ,dm]
      constructor
      ·rintro⟨⟨_,h1⟩,h2⟩;exact⟨hA,hw,hmq.1 h1,h2⟩
      ·rintro⟨_,_,h1,h2⟩;exact⟨⟨.inl hA',hmq.2 h1⟩,h2⟩
   ·have hA':¬(((((v.fst<=s.last/\s.last<=1000000000000)/\0<=s.seq)/\s.seq<=1000000000)/\0<=s.lsn)/\s.lsn<=1000000000):=by omega
    rw[if_neg hA',if_neg (by simpa using hA'),ah]
    simp only[aQ,bg,bM,bZ,aT,aU,bV,cu,bJ,dh,aZ,bC,cZ,dm]
    constructor
    ·rintro⟨⟨h | h,_⟩,_⟩
     ·exact absurd h hA'
     ·cases h
    ·rintro⟨h,_⟩;exact absurd h hA
def tC (a b:aK):aK:=⟨a.pos+b.pos,a.buy+b.buy,a.sell+b.sell,a.opn+b.opn⟩
def zC:aK:=⟨0,0,0,0⟩
def wC (o:aJ):aK:=if o.side=2 then ⟨0,0,Jd o,qj o⟩else ⟨0,Jd o,0,qj o⟩
def inC (n i:Int) (o:aJ):aK:=if atZ n o=i then wC o else zC
def ru (n i:Int):List aJ->aK
 |[]=>zC
 |o::r=>tC (inC n i o) (ru n i r)
theorem MF {a b:aK} (h1:a.pos=b.pos) (h2:a.buy=b.buy) (h3:a.sell=b.sell) (h4:a.opn=b.opn):a=b:=by
 cases a;cases b;simp_all
theorem acM (a:aK):tC a zC=a:=by apply MF<;>simp [tC,zC]
theorem aug (a:aK):tC zC a=a:=by apply MF<;>simp [tC,zC]
theorem agQ (a b c:aK):tC (tC a b) c=tC a (tC b c):=by apply MF<;>simp only[tC]<;>omega
theorem aeV (c:aK) (o:aJ):YO c o=tC c (wC o):=by unfold YO wC;split<;>simp [tC]
theorem zu (n i:Int):∀(l m:List aJ),ru n i (l++m)=tC (ru n i l) (ru n i m)
 |[],m=>(aug _).symm
 |o::l,m=>by
  rw[List.cons_append,ru,ru,zu n i l m,agQ]
theorem abI (n i:Int) (o:aJ):ru n i [o]=inC n i o:=acM _
def nnC (c:aK):Prop:=c.pos=0/\0<=c.buy/\0<=c.sell/\0<=c.opn
theorem atA {o:aJ} (h:NS o) (hr:lX o):nnC (wC o):=by
 have:=U6 h hr
 have:=acC h
 unfold wC nnC;split<;>simp<;>omega
theorem auw (n i:Int) {o:aJ} (h:NS o) (hr:lX o):nnC (inC n i o):=by
 unfold inC;split
 ·exact atA h hr
 ·simp [nnC,zC]
theorem anq {a b:aK} (h1:nnC a) (h2:nnC b):nnC (tC a b):=by
 unfold nnC tC at *; simp only;omega
theorem O0 (n i:Int):∀ {l:List aJ},(∀o∈l,NS o/\lX o)->nnC (ru n i l)
 |[],_=>by simp [ru,nnC,zC]
 |o::l,h=>anq (auw n i (h o (by simp)).1 (h o (by simp)).2) (O0 n i fun x hx=>h x (by simp [hx]))
def MP (c:aK):Prop:=c.buy<=9223372036854775807/\c.sell<=9223372036854775807/\c.opn<=9223372036854775807
theorem ag6 {c:aK} (h:nnC c) (hf:MP c):okC c:=by
 obtain⟨h0,h1,h2,h3⟩:=h
 obtain⟨f1,f2,f3⟩:=hf
 rw[anL,h0]
 unfold inI
 omega
theorem adF {c:aK} (h:okC c):MP c:=⟨h.1.buy.2,h.1.sell.2,h.1.opn.2⟩
theorem alc {a b:aK} (hb:nnC b) (h:MP (tC a b)):MP a:=by
 unfold MP tC nnC at *; simp only at *; omega
def fitAll (s:ax):Prop:=∀j:Nat,j<s.cells.length->MP (ru s.symbols j s.orders)
theorem adH {α:Type} (l:List α) (k:Nat) (x:α) (j:Nat) (h:j<(bT l (itn (k:Int)) x).length):(bT l (itn (k:Int)) x)[j]=if k=j then x else l[j]'(by simpa [bT] using h):=by
 simp [bT,itn,List.getElem_set]
theorem apX {s:ax} (hs:BV s) (hk:∀o∈s.orders,tV s o/\lX o):
 Wq (sD s) fun r=>(r.2=true↔fitAll s)/\(r.2=true->r.1.length=s.cells.length/\∀(j:Nat) (h:j<r.1.length),r.1[j]=ru s.symbols j s.orders):=by
 obtain⟨hc,_,_,hol⟩:=hs.lens
 unfold sD
 rw[aB (by simp only[aQ,bJ,len];omega)]
 refine Wq.bind (Q:=fun w:(Bool×List aK×List aK) ⊕ (Bool×List aK×List aK)=>match w with
  |.inl b=>b.1=false/\¬fitAll s
  |.inr b=>b.2.2.length=s.cells.length/\∀(j:Nat) (h:j<b.2.2.length),b.2.2[j]=ru s.symbols j s.orders/\MP b.2.2[j])
  (gX (n:=s.orders.length) (step:=fun v:Int×Bool×List aK×List aK=>lD (len s.orders) s.orders s v.fst v.snd.fst v.snd.snd.fst v.snd.snd.snd) (by omega)
    (fun i x=>x.2.2.length=s.cells.length/\∀(j:Nat) (h:j<x.2.2.length),x.2.2[j]=ru s.symbols j (s.orders.take i)/\MP x.2.2[j]) _ ?_ ?_ _ 0 (Nat.zero_le _) ?_) ?_
 ·rintro i ⟨q,x,y⟩ hi ⟨hx,hy⟩
  simp only at hx hy
  simp only[lD]
  have hmem:=hk s.orders[i] (List.getElem_mem _)
  obtain⟨⟨ho,ho3,g1,g2⟩,hor⟩:=id hmem
  obtain⟨⟨_,hb1,hb2,_⟩,_⟩:=id ho
  obtain⟨k,k1,k2,k3⟩:=akZ hs s.orders[i].account s.orders[i].symbol hb1.1 g1 hb2.1 g2
  have hky:k<y.length:=by omega
  have hnn:nnC y[k]:=by
   rw[(hy k hky).1]
   exact O0 _ _ fun o h=>⟨(hk o (List.mem_of_mem_take h)).1.1,(hk o (List.mem_of_mem_take h)).2⟩
  have hok:okC y[k]:=ag6 hnn (hy k hky).2
  have hnew:nnC (YO y[k] s.orders[i]):=by rw[aeV];exact anq hnn (atA ho hor)
  have hsum:∀j:Nat,ru s.symbols j (s.orders.take (i+1))=tC (ru s.symbols j (s.orders.take i)) (inC s.symbols j s.orders[i]):=fun j=>by
   rw[List.take_succ_eq_append_getElem hi,zu,abI]
  have hat:atZ s.symbols s.orders[i]=(k:Int):=k2.symm
  have hkk:YO y[k] s.orders[i]=ru s.symbols k (s.orders.take (i+1)):=by
   rw[hsum,aeV,(hy k hky).1]
   unfold inC;rw[if_pos hat]
  rw[aB (by rw[eU];simpa using hi),aB (inb _ i hi),bI _ i hi,k1,ak,aB (inb y k hky),bI y k hky,aea hok ho hor,ak]
  by_cases hf:okC (YO y[k] s.orders[i])
  ·rw[if_pos hf]
   simp only[Dp,dD,bW]
   rw[aB (inb y k hky),ah]
   refine⟨bG (by omega),(UJ _ _ _).trans hx,fun j hj=> ?_⟩
   have hj':j<y.length:=by simpa [bT] using hj
   show(bT y (itn (k:Int)) (YO y[k] s.orders[i]))[j]'hj=_/\MP ((bT y (itn (k:Int)) (YO y[k] s.orders[i]))[j]'hj)
   rw[adH]
   split
   ·rename_i e;subst e
    exact⟨hkk,adF hf⟩
   ·rename_i e
    rw[hsum j]
    unfold inC
    rw[if_neg (by omega),acM]
    exact hy j hj'
  ·rw[if_neg hf]
   simp only[QO,dA,bK]
   rw[ah]
   refine⟨rfl,fun hall=>hf (ag6 hnew ?_)⟩
   rw[hkk]
   have e:ru s.symbols k s.orders=tC (ru s.symbols k (s.orders.take (i+1))) (ru s.symbols k (s.orders.drop (i+1))):=by
    rw[<-zu,List.take_append_drop]
   have:=hall k k3
   rw[e]at this
   exact alc (O0 _ _ fun o h=>⟨(hk o (List.mem_of_mem_drop h)).1.1,(hk o (List.mem_of_mem_drop h)).2⟩) this
 ·rintro⟨q,x,y⟩ hx
  simp only[lD]
  rw[dH (by rw[eU];simp),ah]
  simp only[List.take_length]at hx
  exact hx
 ·simp only[List.take_zero,ru]
  refine⟨by simp [jR,itn,len],fun j hj=> ?_⟩
  simp only[jR,List.getElem_replicate]
  exact⟨rfl,by simp only[MP];decide⟩
 ·rintro w hw
  cases w with
  |inl b=>
   obtain⟨h1,h2⟩:=hw
   simp only[gY,ah,h1]
   exact⟨⟨fun h=>(by cases h),fun h=>absurd h h2⟩,fun h=>by cases h⟩
  |inr b=>
   obtain⟨h1,h2⟩:=hw
   simp only[gY,ah]
   refine⟨⟨fun _ j hj=> ?_,fun _=>trivial⟩,fun _=>⟨h1,fun j hj=>(h2 j hj).1⟩⟩
   have:=h2 j (by omega)
   rw[<-this.1];exact this.2
def gJ (s:ax) (l:List aJ):List aK:=s.cells.mapIdx fun i c=>tC ⟨c.pos,0,0,0⟩ (ru s.symbols i l)
theorem oU (s:ax) (l:List aJ):(gJ s l).length=s.cells.length:=by simp [gJ]
theorem IY (s:ax) (l:List aJ) (i:Nat) (h:i<(gJ s l).length):(gJ s l)[i]=tC ⟨(s.cells[i]'(by simpa [gJ] using h)).pos,0,0,0⟩ (ru s.symbols i l):=by
 simp [gJ]
def aaZ (n m:Int) (cs:List aK):Prop:=∀a:Int,0<=a->a<n->vP (UL m cs a)<=9223372036854775807
structure zY (s:ax):Prop where
 sized:BV s
 fine:ak2 s
 cells:s.cells=gJ s s.orders
 ok:∀c∈s.cells,okC c
 acct:aaZ s.accounts s.symbols s.cells
theorem VE (s:ax) (hr:yK s) (hl:s.orders.length<999999) (h2:s.limits.length<999999) (h3:s.caps.length<999999):
 Wq (pY s) fun b=>b=true↔zY s:=by
 unfold pY yg
 rw[uM]
 refine Wq.bind (ZA s) fun z hz=> ?_
 refine Wq.bind (Q:=fun b=>b=true↔(z=true/\ak2 s)) ?_ ?_
 ·rw[gq]
  refine⟨fun h=> ?_,fun h=>(ah _).2 ?_⟩
  ·simp only[aT,aU]at h
   have hs:BV s:=hz.1 h
   refine(auZ s hl h2 h3 ?_).mono fun b hb=>by rw[hb];simp [h]
   intro e
   have:=hs.2.2.2.2.1
   have:=hs.1.1
   simp [e,len]at*
   omega
  ·simp only[aT,aU]at h
   simp [h]
 ·intro f hf
  rw[gq]
  refine⟨fun h=>(ah _).2 ((ah _).2 ?_),fun h=> ?_⟩
  ·simp only[bM,aT]at h
   refine⟨fun h=>(by cases h),fun hr=> ?_⟩
   have e1:=hz.2 hr.sized
   have e2:=hf.2 ⟨e1,hr.fine⟩
   rw[e1,e2]at h
   simp at h
  ·simp only[bZ,aU]at h
   have hs:=hz.1 h.1
   have hfn:=(hf.1 h.2).2
   obtain⟨hc,hlim,hcap,hol⟩:=hs.lens
   have hall:∀o∈s.orders,tV s o/\lX o:=fun o ho=>⟨hfn.ords o ho,hr.orders.1 o ho⟩
   have hokc:∀c∈s.cells,rW c:=hr.cells.1
   refine Wq.bind (apX hs hall) fun y hy=> ?_
   obtain⟨hy1,hy2⟩:=hy
   rw[gq]
   refine⟨fun h5=>(ah _).2 ((ah _).2 ?_),fun h5=> ?_⟩
   ·rw[aT]at h5
    refine⟨fun h=>(by cases h),fun hR=> ?_⟩
    have:y.2=true:=hy1.2 fun j hj=>by
     have e:=hR.ok s.cells[j] (List.getElem_mem _)
     have e2:s.cells[j]=tC ⟨s.cells[j].pos,0,0,0⟩ (ru s.symbols j s.orders):=by
      have:=IY s s.orders j (by rw[oU];exact hj)
      rw[<-this]
      congr 1
      exact hR.cells
     have e3:=adF e
     rw[e2]at e3
     unfold MP tC at e3
     simpa [MP] using e3
    rw[this]at h5;cases h5
   ·rw[aU]at h5
    obtain⟨hyl,hyg⟩:=hy2 h5
    refine Wq.bind (Q:=fun w:(Bool×List aK) ⊕ (Bool×List aK)=>match w with
     |.inl b=>b.1=false/\¬((∀c∈s.cells,okC c)/\s.cells=gJ s s.orders)
     |.inr _=>(∀c∈s.cells,okC c)/\s.cells=gJ s s.orders)
     (gX (n:=s.cells.length) (step:=fun v:Int×Bool×List aK=>lH (len s.cells) s.cells v.fst v.snd.fst v.snd.snd) (by omega)
     (fun i x=>x.2.length=s.cells.length/\(∀(j:Nat) (h:j<x.2.length),i<=j->x.2[j]=ru s.symbols j s.orders)/\∀(j:Nat) (h:j<s.cells.length),j<i->okC s.cells[j]/\s.cells[j]=tC ⟨s.cells[j].pos,0,0,0⟩ (ru s.symbols j s.orders)) _ ?_ ?_ _ 0 (Nat.zero_le _)
     ⟨hyl,fun j hj _=>hyg j hj,fun j _ h=>by omega⟩) ?_
    ·rintro i ⟨q,x⟩ hi ⟨hx,hxj,hxd⟩
     simp only at hx hxj hxd
     simp only[lH]
     have hix:i<x.length:=by omega
     rw[aB (by rw[eU];simpa using hi),aB (inb _ i hi),aB (inb x i hix),bI _ i hi,bI x i hix,Jm (hokc _ (List.getElem_mem _)),ak]
     have hil:i<(bT x (itn (i:Int)) (aK.mk s.cells[i].pos x[i].buy x[i].sell x[i].opn)).length:=by rw[UJ];exact hix
     rw[aB (by rw[bM];exact .inl (inb _ i hil)),bI _ i hil]
     have hg:(bT x (itn (i:Int)) (aK.mk s.cells[i].pos x[i].buy x[i].sell x[i].opn))[i]=aK.mk s.cells[i].pos x[i].buy x[i].sell x[i].opn:=by
      simp [bT,itn]
     rw[hg]
     have hxi:=hxj i hix (Nat.le_refl _)
     have hq:tC ⟨s.cells[i].pos,0,0,0⟩ (ru s.symbols i s.orders)=aK.mk s.cells[i].pos x[i].buy x[i].sell x[i].opn:=by
      rw[<-hxi]
      have hp:x[i].pos=0:=by rw[hxi];exact(O0 _ _ fun o h=>⟨(hall o h).1.1,(hall o h).2⟩).1
      apply MF<;>simp only[tC]<;>omega
     simp only[gq,ah,aQ,bg,bM,bZ,aT,aU,bV,cu,bJ,dh,aZ,bC,cZ,dm]
     constructor
     ·intro hb
      refine⟨trivial,fun⟨a1,a2⟩=> ?_⟩
      have b1:=a1 s.cells[i] (List.getElem_mem _)
      have b2:s.cells[i]=tC ⟨s.cells[i].pos,0,0,0⟩ (ru s.symbols i s.orders):=by
       have:=IY s s.orders i (by rw[oU];exact hi)
       rw[<-this];congr 1
      rw[hq]at b2
      rcases hb with hb | hb
      ·exact absurd b1 (by simpa using hb)
      ·have c2:=congrArg aK.buy b2;have c3:=congrArg aK.sell b2;have c4:=congrArg aK.opn b2
       simp only at c2 c3 c4
       rcases hb with hb | hb | hb | hb
       ·exact hb rfl
       ·exact hb c2.symm
       ·exact hb c3.symm
       ·exact hb c4.symm
     ·intro hb
      obtain⟨b1,_,b2,b3,b4⟩:=hb
      refine⟨bG (by omega),(UJ _ _ _).trans hx,fun j hj hij=> ?_,fun j hj hji=> ?_⟩
      ·rw[adH,if_neg (by omega)]
       exact hxj j (by simpa [bT] using hj) (by omega)
      ·by_cases e:j=i
       ·subst e
        refine⟨by simpa using b1,?_⟩
        rw[hq]
        exact MF rfl b2.symm b3.symm b4.symm
       ·exact hxd j hj (by omega)
    ·rintro⟨q,x⟩ ⟨hx,_,hxd⟩
     simp only[lH]
     rw[dH (by rw[eU];simp),ah]
     refine⟨fun c hc=> ?_,?_⟩
     ·obtain⟨j,hj,rfl⟩:=List.getElem_of_mem hc
      exact(hxd j hj hj).1
     ·refine List.ext_getElem (oU _ _).symm fun j h1 h2=> ?_
      rw[IY]
      exact(hxd j h1 h1).2
    ·rintro w hw
     cases w with
     |inl b=>
      obtain⟨h1,h2⟩:=hw
      simp only[gY,ah,h1]
      exact⟨fun h=>(by cases h),fun hR=>absurd ⟨hR.ok,hR.cells⟩ h2⟩
     |inr b=>
      obtain⟨hok,hcs⟩:=hw
      simp only[gY]
      rw[uM]
      have hacc:∀a:Int,∀c∈UL s.symbols s.cells a,0<=c.opn/\inI c.opn:=fun a c hc=>by
       have:=hok c (acJ hc)
       exact⟨this.2.1.2.2,this.1.opn⟩
      refine Wq.mono (Q:=fun w:Bool ⊕ Bool=>match w with | .inl b=>b=false/\¬aaZ s.accounts s.symbols s.cells | .inr _=>aaZ s.accounts s.symbols s.cells)
       (gX (n:=s.accounts.toNat) (step:=fun v:Int×Bool=>lF s.accounts s v.fst v.snd) (by have:=hs.1.2;omega)
       (fun i x=>∀a:Int,0<=a->a<i->vP (UL s.symbols s.cells a)<=9223372036854775807) _ ?_ ?_ _ 0 (Nat.zero_le _) (fun a h1 h2=>by omega)) ?_
      ·rintro i q hi hx
       have hia:(i:Int)<s.accounts:=by omega
       simp only[lF]
       rw[aB (nD hia),aoR hs i (by omega) hia,ak,ahz (by have:=acI (n:=s.symbols) (cs:=s.cells) (a:=(i:Int));omega) (hacc i),ak]
       by_cases hw:vP (UL s.symbols s.cells i)<=9223372036854775807
       ·rw[if_pos hw]
        simp only[Dp,dD,bW,ah]
        refine⟨bG (by omega),fun a h1 h2=> ?_⟩
        by_cases e:a=i
        ·subst e;exact hw
        ·exact hx a h1 (by omega)
       ·rw[if_neg hw]
        simp only[QO,dA,bK,ah]
        exact⟨trivial,fun h=>hw (h i (by omega) hia)⟩
      ·rintro q hx
       simp only[lF]
       rw[dH (qm (by omega)),ah]
       exact fun a h1 h2=>hx a h1 (by omega)
      ·rintro w hw
       cases w with
       |inl b=>
        obtain⟨rfl,h2⟩:=hw
        simp only[ah]
        exact⟨fun h=>(by cases h),fun hR=>absurd hR.acct h2⟩
       |inr b=>
        simp only[ah]
        exact⟨fun _=>⟨hs,hfn,hcs,hok,hw⟩,fun _=>trivial⟩
def atD (s:ax) (l:List aJ):ax:=⟨s.accounts,s.symbols,l,gJ s l,s.limits,s.caps,s.kill,s.last,s.seq,s.lsn⟩
def avn (s:ax):Prop:=(∀c∈s.cells,okC c)/\aaZ s.accounts s.symbols s.cells
theorem auL {n:Int} {o:aJ} {k:Nat} (h:atZ n o=(k:Int)):inC n k o=wC o:=by unfold inC;rw[if_pos h]
theorem asw {n:Int} {cs:List aK} (h:∀c∈cs,okC c) (a:Int):∀c∈UL n cs a,0<=c.opn/\inI c.opn:=fun c hc=>by
 have:=h c (acJ hc)
 exact⟨this.2.1.2.2,this.1.opn⟩
theorem aoB {o:aJ} (h:o.phase≠3):qj o=if o.newQty<=o.filled then (o.qty - o.filled)*o.price else max ((o.qty - o.filled)*o.price) ((o.newQty - o.filled)*o.newPrice):=by unfold qj;rw[if_neg h]
theorem afk {α:Type} {l m:List α} (hlen:l.length=m.length) (hn:l.length<999999) {step:Int×Bool->Option ((Int×Bool) ⊕ (Bool ⊕ Bool))}
 (hstep:∀(i:Nat) (h:i<l.length) (h2:i<m.length) (q:Bool),Wq (step ((i:Int),q)) fun r=>(l[i]=m[i]->r= .inl (((i+1:Nat):Int),q))/\(l[i]≠m[i]->r= .inr (.inl false)))
 (hend:∀q,step ((l.length:Int),q)=some (.inr (.inr q))) (q:Bool):Wq (bD step LF (0,q)) fun w=>match w with | .inl b=>b=false/\l≠m | .inr b=>l=m:=by
 refine gX (n:=l.length) hn (fun i _=>∀(j:Nat) (h:j<l.length) (h2:j<m.length),j<i->l[j]=m[j]) _ (fun i x hi hx=> ?_) (fun x hx=> ?_) _ 0 (Nat.zero_le _) (fun j _ _ h=>by omega)
 ·have hi2:i<m.length:=by omega
  refine(hstep i hi hi2 x).mono fun r hr=> ?_
  by_cases e:l[i]=m[i]
  ·rw[hr.1 e]
   refine⟨rfl,fun j h h2 hj=> ?_⟩
   by_cases ej:j=i
   ·subst ej;exact e
   ·exact hx j h h2 (by omega)
  ·rw[hr.2 e]
   refine⟨rfl,fun h=>e ?_⟩
   subst h;rfl
 ·rw[hend x]
  exact(ah _).2 (List.ext_getElem hlen fun j h h2=>hx j h h2 h)
theorem as9 {α β:Type} (l:List α) (m:List β):(len l=len m)↔l.length=m.length:=by unfold len;omega
theorem apo (a b:aJ):(a.id=b.id/\a.account=b.account/\a.symbol=b.symbol/\a.side=b.side/\a.qty=b.qty/\a.price=b.price/\a.filled=b.filled/\a.phase=b.phase/\a.newQty=b.newQty/\a.newPrice=b.newPrice/\a.version=b.version/\a.asked=b.asked)↔a=b:=by
 cases a;cases b;simp
theorem ahR (a b:aK):(a.pos=b.pos/\a.buy=b.buy/\a.sell=b.sell/\a.opn=b.opn)↔a=b:=by
 cases a;cases b;simp
theorem aq4 (a b:dL):(a.long=b.long/\a.short=b.short/\a.opn=b.opn)↔a=b:=by
 cases a;cases b;simp
theorem ao5 (a b:ax):(a.accounts=b.accounts/\a.symbols=b.symbols/\a.kill=b.kill/\a.last=b.last/\a.seq=b.seq/\a.lsn=b.lsn/\a.orders=b.orders/\a.cells=b.cells/\a.limits=b.limits/\a.caps=b.caps)↔a=b:=by
 cases a;cases b;simp;grind
def BU (s:ax):Prop:=s.orders.length<999999/\s.cells.length<999999/\s.limits.length<999999/\s.caps.length<999999
theorem atU {a b:ax} (ha:BU a):Wq (iH a b) fun r=>r=true↔a=b:=by
 obtain⟨h1,h2,h3,h4⟩:=ha
 unfold iH
 rw[gq]
 have hx:=ao5 a b
 refine⟨fun h=>(ah _).2 ⟨fun h=>(by cases h),fun h2=> ?_⟩,fun h=> ?_⟩
 ·subst h2
  simp only[aQ,bg,bM,bZ,aT,aU,bV,cu,bJ,dh,aZ,bC,cZ,dm]at h
  simp at h
 ·simp only[aQ,bg,bM,bZ,aT,aU,bV,cu,bJ,dh,aZ,bC,cZ,dm,as9]at h
  obtain⟨⟨⟨⟨⟨⟨⟨⟨⟨a1,a2⟩,a3⟩,a4⟩,a5⟩,a6⟩,a7⟩,a8⟩,a9⟩,a10⟩:=h
  have e1:a=b↔a.orders=b.orders/\a.cells=b.cells/\a.limits=b.limits/\a.caps=b.caps:=by
   rw[<-hx];exact⟨fun h=>⟨h.2.2.2.2.2.2.1,h.2.2.2.2.2.2.2.1,h.2.2.2.2.2.2.2.2.1,h.2.2.2.2.2.2.2.2.2⟩,fun h=>⟨a1,a2,a3,a4,a5,a6,h⟩⟩
  rw[e1]
  refine Wq.bind (afk (l:=a.orders) (m:=b.orders) a7 h1 (step:=fun v:Int×Bool=>mY b a v.fst v.snd) (fun i h hh q=> ?_) (fun q=> ?_) _) fun w hw=> ?_
  ·simp only[mY]
   rw[aB (by rw[eU];simpa using h),aB (inb _ i h),aB (inb _ i hh),bI _ i h,bI _ i hh,gq,ah,ah,aT,aU,bG (by omega)]
   have:=apo a.orders[i] b.orders[i]
   simp only[aQ,bg,bM,bZ,aT,aU,bV,cu,bJ,dh,aZ,bC,cZ,dm]at*
   exact⟨fun h=>⟨fun e=>(by have:=this.2 e;grind),fun _=>trivial⟩,fun h=>⟨fun _=>trivial,fun e=>absurd (this.1 h) e⟩⟩
  ·simp only[mY]
   rw[dH (by rw[show((a.orders.length:Nat):Int)=len a.orders from rfl];simp [ilt])]
  cases w with
  |inl w=>obtain⟨rfl,h⟩:=hw;simp only[gY,ah];simp [h]
  |inr w=>
  simp only[gY,hw,true_and]
  refine Wq.bind (afk (l:=a.cells) (m:=b.cells) a8 h2 (step:=fun v:Int×Bool=>lS b a v.fst v.snd) (fun i h hh q=> ?_) (fun q=> ?_) _) fun w hw=> ?_
  ·simp only[lS]
   rw[aB (by rw[eU];simpa using h),aB (inb _ i h),aB (inb _ i hh),bI _ i h,bI _ i hh,gq,ah,ah,aT,aU,bG (by omega)]
   have:=ahR a.cells[i] b.cells[i]
   simp only[aQ,bg,bM,bZ,aT,aU,bV,cu,bJ,dh,aZ,bC,cZ,dm]at*
   exact⟨fun h=>⟨fun e=>(by have:=this.2 e;grind),fun _=>trivial⟩,fun h=>⟨fun _=>trivial,fun e=>absurd (this.1 h) e⟩⟩
  ·simp only[lS]
   rw[dH (by rw[show((a.cells.length:Nat):Int)=len a.cells from rfl];simp [ilt])]
  cases w with
  |inl w=>obtain⟨rfl,h⟩:=hw;simp only[gY,ah];simp [h]
  |inr w=>
  simp only[gY,hw,true_and]
  refine Wq.bind (afk (l:=a.limits) (m:=b.limits) a9 h3 (step:=fun v:Int×Bool=>lG b a v.fst v.snd) (fun i h hh q=> ?_) (fun q=> ?_) _) fun w hw=> ?_
  ·simp only[lG]
   rw[aB (by rw[eU];simpa using h),aB (inb _ i h),aB (inb _ i hh),bI _ i h,bI _ i hh,gq,ah,ah,aT,aU,bG (by omega)]
   have:=aq4 a.limits[i] b.limits[i]
   simp only[aQ,bg,bM,bZ,aT,aU,bV,cu,bJ,dh,aZ,bC,cZ,dm]at*
   exact⟨fun h=>⟨fun e=>(by have:=this.2 e;grind),fun _=>trivial⟩,fun h=>⟨fun _=>trivial,fun e=>absurd (this.1 h) e⟩⟩
  ·simp only[lG]
   rw[dH (by rw[show((a.limits.length:Nat):Int)=len a.limits from rfl];simp [ilt])]
  cases w with
  |inl w=>obtain⟨rfl,h⟩:=hw;simp only[gY,ah];simp [h]
  |inr w=>
  simp only[gY,hw,true_and]
  refine Wq.bind (afk (l:=a.caps) (m:=b.caps) a10 h4 (step:=fun v:Int×Bool=>lN b a v.fst v.snd) (fun i h hh q=> ?_) (fun q=> ?_) _) fun w hw=> ?_
  ·simp only[lN]
   rw[aB (by rw[eU];simpa using h),aB (inb _ i h),aB (inb _ i hh),bI _ i h,bI _ i hh,gq,ah,ah,aT,aU,bG (by omega)]
   simp only[aQ,bg,bM,bZ,aT,aU,bV,cu,bJ,dh,aZ,bC,cZ,dm]at*
   exact⟨fun h=>⟨fun e=>absurd e h,fun _=>trivial⟩,fun h=>⟨fun _=>trivial,fun e=>absurd h e⟩⟩
  ·simp only[lN]
   rw[dH (by rw[show((a.caps.length:Nat):Int)=len a.caps from rfl];simp [ilt])]
  cases w with
  |inl w=>obtain⟨rfl,h⟩:=hw;simp only[gY,ah];simp [h]
  |inr w=>simp only[gY,hw,ah]
theorem apw {a:ax} (ha:BU a):iH a a=some true:=by
 obtain⟨b,e,q⟩:=atU (b:=a) ha
 rw[e,q.2 rfl]
theorem as4 (s:ax):Wq (sZ s) fun b=>b=true->BU s:=by
 unfold sZ BU
 simp only[ah,aQ,bg,bM,bZ,aT,aU,bV,cu,bJ,dh,aZ,bC,cZ,dm,len]
 omega
theorem aek {a b:Int} (ha:inI a) (hb:inI b):iQ a b=some (if inI (a+b)then (a+b,true)else (0,false)):=by
 unfold inI at ha hb
 unfold iQ aI aj
 rw[Jv]
 simp only[aQ,bg,bM,bZ,aT,aU,bV,cu,bJ,dh,aZ,bC,cZ,dm]
 by_cases h:inI (a+b)
 ·rw[if_pos h,yL h]
  unfold inI at h
  rw[if_neg]
  rintro(⟨h1,h2⟩ | ⟨h1,h2⟩)
  ·rw[yL ⟨by omega,by omega⟩]at h2;omega
  ·rw[yL ⟨by omega,by omega⟩]at h2;omega
 ·rw[if_neg h]
  unfold inI at h
  rw[if_pos]
  by_cases hp:0<b
  ·exact .inl ⟨hp,by rw[yL ⟨by omega,by omega⟩];omega⟩
  ·exact .inr ⟨by omega,by rw[yL ⟨by omega,by omega⟩];omega⟩
theorem avE {a b:Int} (ha:inI a) (hb:inI b):wz a b=some (if inI (a - b)then (a - b,true)else (0,false)):=by
 unfold inI at ha hb
 unfold wz aI aj
 rw[Jv]
 simp only[aQ,bg,bM,bZ,aT,aU,bV,cu,bJ,dh,aZ,bC,cZ,dm]
 by_cases h:inI (a - b)
 ·rw[if_pos h,yL h]
  unfold inI at h
  rw[if_neg]
  rintro(⟨h1,h2⟩ | ⟨h1,h2⟩)
  ·rw[yL ⟨by omega,by omega⟩]at h2;omega
  ·rw[yL ⟨by omega,by omega⟩]at h2;omega
 ·rw[if_neg h]
  unfold inI at h
  rw[if_pos]
  by_cases hp:0<b
  ·exact .inr ⟨hp,by rw[yL ⟨by omega,by omega⟩];omega⟩
  ·exact .inl ⟨by omega,by rw[yL ⟨by omega,by omega⟩];omega⟩
theorem anv {a:Int} (ha:inI a):o6 a=some (a.natAbs:Int):=by
 unfold inI at ha
 unfold o6 aI aj
 rw[Xb]
 split
 ·rw[yL (n:=a+1) ⟨by omega,by omega⟩,yL (n:=0 - (a+1)) ⟨by omega,by omega⟩,uh,uh]
  congr 1;omega
 ·rw[uh];congr 1;omega
theorem aol {a b:Int} (ha:inI a) (hb:inI b):Wq (rD a b) fun r=>(r.2=true↔inI (a*b))/\(r.2=true->r.1=a*b):=by
 unfold rD
 rw[anv ha,anv hb,ak,ak]
 have hm:(a.natAbs:Int)*(b.natAbs:Int)=((a*b).natAbs:Int):=by rw[Int.natAbs_mul];rfl
 have hs:((a<0↔b<0)->0<=a*b)/\(¬(a<0↔b<0)->a*b<=0):=by
  constructor
  ·intro h
   by_cases h1:a<0
   ·exact Int.mul_nonneg_of_nonpos_of_nonpos (by omega) (by have:=h.1 h1;omega)
   ·exact Int.mul_nonneg (by omega) (by have:¬b<0:=fun h2=>h1 (h.2 h2);omega)
  ·intro h
   by_cases h1:a<0
   ·exact Int.mul_nonpos_of_nonpos_of_nonneg (by omega) (by have:¬b<0:=fun h2=>h ⟨fun _=>h2,fun _=>h1⟩;omega)
   ·exact Int.mul_nonpos_of_nonneg_of_nonpos (by omega) (by have:b<0:=by { by_cases h2:b<0;exact h2;exact absurd ⟨fun h=>absurd h h1,fun h=>absurd h h2⟩ h };omega)
 unfold inI at ha hb
 obtain⟨A,B,e1,A1,A2,B1,B2,s1,s2⟩:=half (a.natAbs:Int) (by omega) (by omega)
 obtain⟨C,D,e2,C1,C2,D1,D2,t1,t2⟩:=half (b.natAbs:Int) (by omega) (by omega)
 rw[s1,s2,t1,t2]
 have m2:0<=A*D/\A*D<=4294967295*4294967295:=⟨Int.mul_nonneg A1 D1,Int.mul_le_mul (by omega) (by omega) D1 (by omega)⟩
 have m3:0<=B*C/\B*C<=4294967295*4294967295:=⟨Int.mul_nonneg B1 C1,Int.mul_le_mul (by omega) (by omega) C1 (by omega)⟩
 have m4:0<=B*D/\B*D<=4294967295*4294967295:=⟨Int.mul_nonneg B1 D1,Int.mul_le_mul (by omega) (by omega) D1 (by omega)⟩
 have mm:((a*b).natAbs:Int)=A*C*18446744073709551616+(A*D+B*C)*4294967296+B*D:=by
  rw[<-hm,e1,e2]
  simp only[Int.add_mul,Int.mul_add]
  have q1:A*4294967296*(C*4294967296)=A*C*18446744073709551616:=by
   rw[Int.mul_assoc,Int.mul_left_comm 4294967296,<-Int.mul_assoc,<-Int.mul_assoc];omega
  have q2:A*4294967296*D=A*D*4294967296:=by rw[Int.mul_assoc,Int.mul_comm 4294967296,<-Int.mul_assoc]
  have q3:B*(C*4294967296)=B*C*4294967296:=by rw[<-Int.mul_assoc]
  rw[q1,q2,q3];omega
 have mac:0<=A*C/\(0<A->0<C->1<=A*C):=⟨Int.mul_nonneg A1 C1,fun h1 h2=>Int.mul_pos h1 h2⟩
 have mz:(A=0->A*C=0/\A*D=0)/\(C=0->A*C=0/\B*C=0):=⟨fun h=>by subst h;simp,fun h=>by subst h;simp⟩
 unfold dY aj aI qZ
 have e32:min (Int.toNat 32) (IntKind.bits .u64)=32:=by decide
 simp only[e32]
 generalize A*C=p at*
 generalize A*D=q at*
 generalize B*C=r at*
 generalize B*D=t at*
 generalize a*b=w at*
 simp only[uh]
 by_cases c1:0<A/\0<C
 ·rw[aB (by simp only[aQ,bg,bM,bZ,aT,aU,bV,cu,bJ,dh,aZ,bC,cZ,dm];exact c1),ah]
  have:=mac.2 c1.1 c1.2
  unfold inI
  simp only[Bool.false_eq_true,false_iff,false_implies,and_true]
  omega
 ·rw[dH (by simp only[aQ,bg,bM,bZ,aT,aU,bV,cu,bJ,dh,aZ,bC,cZ,dm];omega)]
  have hac:p=0/\(q=0\/r=0):=by
   by_cases h:A=0
   ·exact⟨(mz.1 h).1,.inl (mz.1 h).2⟩
   ·have hC:C=0:=by omega
    exact⟨(mz.2 hC).1,.inr (mz.2 hC).2⟩
  rw[Int.emod_eq_of_lt (a:=q) m2.1 (by omega),Int.emod_eq_of_lt (a:=r) m3.1 (by omega),Int.emod_eq_of_lt (a:=t) m4.1 (by omega),Int.emod_eq_of_lt (a:=q+r) (by omega) (by omega)]
  rw[aqJ]
  by_cases c2:4294967296<=q+r
  ·rw[if_pos c2,ah]
   unfold inI
   simp only[Bool.false_eq_true,false_iff,false_implies,and_true]
   omega
  ·rw[if_neg c2,gq]
   have hw:((w.natAbs:Nat):Int)=(q+r)*4294967296+t:=by omega
   have hsh:((q+r)*2^32)%18446744073709551616=(q+r)*4294967296:=by
    rw[show(2:Int)^32=4294967296 by decide];exact Int.emod_eq_of_lt (by omega) (by omega)
   rw[hsh]
   refine⟨fun h=>(ah _).2 ?_,fun h=> ?_⟩
   ·simp only[aQ,bg,bM,bZ,aT,aU,bV,cu,bJ,dh,aZ,bC,cZ,dm]at h
    unfold inI
    simp only[Bool.false_eq_true,false_iff,false_implies,and_true]
    omega
   ·simp only[aQ,bg,bM,bZ,aT,aU,bV,cu,bJ,dh,aZ,bC,cZ,dm]at h
    have hlt:(q+r)*4294967296+t<18446744073709551616:=by omega
    rw[Int.emod_eq_of_lt (a:=(q+r)*4294967296+t) (by omega) hlt]at h ⊢
    rw[<-hw]at h ⊢
    rw[gq]
    refine⟨fun h5=>(ah _).2 ?_,fun h5=>(ah _).2 ?_⟩
    ·have h6:¬(a<0↔b<0):=fun h7=>by
      rw[aT,dm]at h5
      exact h5 (decide_eq_decide.2 h7)
     have:=hs.2 h6
     have e:wr .i64 ((0 - ((w.natAbs:Nat):Int))%18446744073709551616)=w:=by
      rcases aj8 (n:=(0 - ((w.natAbs:Nat):Int))%18446744073709551616) (by omega) (by omega)with ⟨g,e⟩ | ⟨g,e⟩ | ⟨g,e⟩<;>rw[e]<;>(try unfold inI at g)<;>omega
     simp only[e,true_iff,implies_true,and_true]
     unfold inI;omega
    ·have h6:(a<0↔b<0):=by
      rw[aU,cZ]at h5
      exact decide_eq_decide.1 h5
     have:=hs.1 h6
     simp only[bV]
     unfold inI
     refine⟨by omega,fun h7=> ?_⟩
     rw[yL ⟨by omega,by omega⟩];omega
theorem ake (r:yC):Wq (rZ r) fun b=>b=true↔Tn r:=by
 unfold rZ qc
 by_cases k1:r.kind=1
 ·have e1:ieq r.kind 1=true:=by rw[aZ];exact k1
  simp only[e1,bK,ak]
  simp only[uM,gq,ah,aQ,bg,bM,bZ,aT,aU,bV,cu,bJ,dh,aZ,bC,cZ,dm,true_implies,ne_eq,not_true_eq_false,false_implies,and_true,true_and,or_self,reduceCtorEq,Tn,vS];grind
 have e1:ieq r.kind 1=false:=by rw[bC];exact k1
 by_cases k2:r.kind=2
 ·have e2:ieq r.kind 2=true:=by rw[aZ];exact k2
  simp only[e1,e2,bK,bW,ak]
  simp only[uM,gq,ah,aQ,bg,bM,bZ,aT,aU,bV,cu,bJ,dh,aZ,bC,cZ,dm,true_implies,ne_eq,not_true_eq_false,false_implies,and_true,true_and,or_self,reduceCtorEq,Tn,vS];grind
 have e2:ieq r.kind 2=false:=by rw[bC];exact k2
 by_cases k3:r.kind=3
 ·have e3:ieq r.kind 3=true:=by rw[aZ];exact k3
  simp only[e1,e2,e3,bK,bW,ak]
  have hrec:Tn r↔(vS r.order/\r.account=0/\r.symbol=0/\r.side=0/\r.qty=0/\r.price=0/\r.long=0/\r.short=0/\r.opn=0/\r.on=false/\r.seq=0/\r.what=0):=by
   unfold Tn
   constructor
   ·rintro(h | h | h | h | h | h)
    ·omega
    ·omega
    ·exact h.2
    ·omega
    ·omega
    ·omega
   ·exact fun h=> .inr (.inr (.inl ⟨k3,h⟩))
  rw[hrec]
  simp only[uM,gq,ah,aQ,bg,bM,bZ,aT,aU,bV,cu,bJ,dh,aZ,bC,cZ,dm,true_implies,ne_eq,not_true_eq_false,false_implies,and_true,true_and,or_self,reduceCtorEq,vS];grind
 have e3:ieq r.kind 3=false:=by rw[bC];exact k3
 by_cases k4:r.kind=4
 ·have e4:ieq r.kind 4=true:=by rw[aZ];exact k4
  simp only[e1,e2,e3,e4,bK,bW,ak]
  simp only[uM,gq,ah,aQ,bg,bM,bZ,aT,aU,bV,cu,bJ,dh,aZ,bC,cZ,dm,true_implies,ne_eq,not_true_eq_false,false_implies,and_true,true_and,or_self,reduceCtorEq,Tn,vS];grind
 have e4:ieq r.kind 4=false:=by rw[bC];exact k4
 by_cases k5:r.kind=5
 ·have e5:ieq r.kind 5=true:=by rw[aZ];exact k5
  simp only[e1,e2,e3,e4,e5,bK,bW,ak]
  have hrec:Tn r↔(r.order=0/\r.account=0/\r.symbol=0/\r.side=0/\r.qty=0/\r.price=0/\r.long=0/\r.short=0/\r.opn=0/\r.seq=0/\r.what=0):=by
   unfold Tn
   constructor
   ·rintro(h | h | h | h | h | h)
    ·omega
    ·omega
    ·omega
    ·omega
    ·exact h.2
    ·omega
   ·exact fun h=> .inr (.inr (.inr (.inr (.inl ⟨k5,h⟩))))
  rw[hrec]
  simp only[uM,gq,ah,aQ,bg,bM,bZ,aT,aU,bV,cu,bJ,dh,aZ,bC,cZ,dm,true_implies,ne_eq,not_true_eq_false,false_implies,and_true,true_and,or_self,reduceCtorEq,vS]
 have e5:ieq r.kind 5=false:=by rw[bC];exact k5
 by_cases k6:r.kind=6
 ·have e6:ieq r.kind 6=true:=by rw[aZ];exact k6
  simp only[e1,e2,e3,e4,e5,e6,bK,bW]
  have hrec:Tn r↔(vS r.order/\r.account=0/\r.symbol=0/\r.side=0/\r.long=0/\r.short=0/\r.opn=0/\r.on=false/\(1<=r.seq/\r.seq<=1000000000)/\
   ((r.what=3/\1<=r.qty/\r.price=0)\/(r.what=5/\1<=r.qty/\1<=r.price)\/((r.what=1\/r.what=2\/r.what=4\/r.what=6)/\r.qty=0/\r.price=0))):=by
   unfold Tn
   constructor
   ·rintro(h | h | h | h | h | h)
    ·omega
    ·omega
    ·omega
    ·omega
    ·omega
    ·exact h.2
   ·exact fun h=> .inr (.inr (.inr (.inr (.inr ⟨k6,h⟩))))
  rw[hrec,uM]
  refine Wq.mono (Q:=fun y=>(1<=r.seq/\r.seq<=1000000000)->(1<=r.what/\r.what<=6)->(y=true↔vS r.order)) ?_ fun y hy=> ?_
  ·rw[gq]
   refine⟨fun h=>(ah _).2 fun _ _=>by simp only[aQ,bg,bM,bZ,aT,aU,bV,cu,bJ,dh,aZ,bC,cZ,dm,vS];omega,fun h=>(ah _).2 fun g1 g2=> ?_⟩
   simp only[aQ,bg,bM,bZ,aT,aU,bV,cu,bJ,dh,aZ,bC,cZ,dm]at h
   omega
  by_cases w3:r.what=3
  ·rw[aB (by simp only[aQ,bg,bM,bZ,aT,aU,bV,cu,bJ,dh,aZ,bC,cZ,dm];exact .inl w3),dH (by rw[bC];omega),ah]
   simp only[aQ,bg,bM,bZ,aT,aU,bV,cu,bJ,dh,aZ,bC,cZ,dm,true_and]
   rw[w3]at hy ⊢
   constructor
   ·rintro⟨⟨⟨⟨⟨⟨a1,a2⟩,_⟩,_⟩,a3⟩,a4⟩,b1,b2,b3,b4,b5,b6,b7,b8,_⟩
    exact⟨(hy ⟨by omega,a2⟩ (by omega)).1 a3,b1,b2,b3,b5,b6,b7,b8,⟨by omega,a2⟩,.inl ⟨rfl,by omega,b4⟩⟩
   ·rintro⟨c1,b1,b2,b3,b5,b6,b7,b8,c2,c3⟩
    have c4:1<=r.qty/\r.price=0:=by omega
    exact⟨⟨⟨⟨⟨⟨by omega,c2.2⟩,by omega⟩,by omega⟩,(hy c2 (by omega)).2 c1⟩,by omega⟩,b1,b2,b3,c4.2,b5,b6,b7,b8,trivial⟩
  by_cases w5:r.what=5
  ·rw[aB (by simp only[aQ,bg,bM,bZ,aT,aU,bV,cu,bJ,dh,aZ,bC,cZ,dm];exact .inr w5),aB (by rw[aZ];exact w5),ah]
   simp only[aQ,bg,bM,bZ,aT,aU,bV,cu,bJ,dh,aZ,bC,cZ,dm,true_and]
   rw[w5]at hy ⊢
   constructor
   ·rintro⟨⟨⟨⟨⟨⟨⟨a1,a2⟩,_⟩,_⟩,a3⟩,a4⟩,a5⟩,b1,b2,b3,b5,b6,b7,b8,_⟩
    exact⟨(hy ⟨by omega,a2⟩ (by omega)).1 a3,b1,b2,b3,b5,b6,b7,b8,⟨by omega,a2⟩,.inr (.inl ⟨rfl,by omega,by omega⟩)⟩
   ·rintro⟨c1,b1,b2,b3,b5,b6,b7,b8,c2,c3⟩
    have c4:1<=r.qty/\1<=r.price:=by omega
    exact⟨⟨⟨⟨⟨⟨⟨by omega,c2.2⟩,by omega⟩,by omega⟩,(hy c2 (by omega)).2 c1⟩,by omega⟩,by omega⟩,b1,b2,b3,b5,b6,b7,b8,trivial⟩
  rw[dH (by simp only[aQ,bg,bM,bZ,aT,aU,bV,cu,bJ,dh,aZ,bC,cZ,dm];exact⟨w3,w5⟩),dH (by rw[bC];exact w5),ah]
  simp only[aQ,bg,bM,bZ,aT,aU,bV,cu,bJ,dh,aZ,bC,cZ,dm,true_and]
  constructor
  ·rintro⟨⟨⟨⟨⟨a1,a2⟩,a6⟩,a7⟩,a3⟩,b1,b2,b3,b9,b4,b5,b6,b7,b8,_⟩
   exact⟨(hy ⟨by omega,a2⟩ (by omega)).1 a3,b1,b2,b3,b5,b6,b7,b8,⟨by omega,a2⟩,.inr (.inr ⟨by omega,b9,b4⟩)⟩
  ·rintro⟨c1,b1,b2,b3,b5,b6,b7,b8,c2,c3⟩
   have c4:r.qty=0/\r.price=0/\1<=r.what/\r.what<=6:=by omega
   exact⟨⟨⟨⟨⟨by omega,c2.2⟩,by omega⟩,by omega⟩,(hy c2 (by omega)).2 c1⟩,b1,b2,b3,c4.1,c4.2.1,b5,b6,b7,b8,trivial⟩
 have e6:ieq r.kind 6=false:=by rw[bC];exact k6
 simp only[e1,e2,e3,e4,e5,e6,bK,bW,ak]
 simp only[uM,gq,ah,aQ,bg,bM,bZ,aT,aU,bV,cu,bJ,dh,aZ,bC,cZ,dm,true_implies,ne_eq,not_true_eq_false,false_implies,and_true,true_and,or_self,reduceCtorEq,Tn];grind
theorem Gn (o:aJ):lW o=some (decide (NS o)):=by
 refine Wq.dec ?_
 unfold lW
 refine(ake _).bind fun b hb=> ?_
 have hb':b=true↔aav o:=by rw[hb];simp [Tn,aav,vS]
 unfold NS aeb
 rw[<-hb']
 simp only[uM,gq,ah,aQ,bg,bM,bZ,aT,aU,bV,cu,bJ,dh,aZ,bC,cZ,dm,true_implies,ne_eq,not_true_eq_false,false_implies,and_true,true_and,or_self,reduceCtorEq]
 cases b<;>grind
theorem ajb {o:aJ} (h:NS o) (hr:lX o):kW o=some (Jd o):=by
 have hb:=U6 h hr
 have hf:=h.2.1
 have hq:=h.2.2.1
 have r1:=hr.qty;have r2:=hr.newQty
 unfold inI at r1 r2
 unfold kW aI
 rw[Gn,ak,decide_eq_true h]
 unfold Jd at*
 rw[dD,iM,iO]
 split
 ·rfl
 ·rename_i hp
  rw[if_neg hp]at hb
  rw[Xb]
  split
  ·rw[yL ⟨by omega,by omega⟩];congr 1;omega
  ·rw[yL ⟨by omega,by omega⟩];congr 1;omega
theorem ahl {o:aJ} (h:NS o) (hr:lX o):l9 o=some (if qj o<=9223372036854775807 then (qj o,0)else (0,3)):=by
 refine Wq.eq ?_
 have hp:=h.1.2.2.2.2.2
 have hf:=h.2.2.1
 have hf0:=h.2.1
 have rq:=hr.qty;have rp:=hr.price;have rf:=hr.filled;have rn:=hr.newQty;have rnp:=hr.newPrice
 unfold inI at rq rf rn
 unfold l9 aI
 rw[Gn,ak,decide_eq_true h,dD,bW,iO]
 by_cases h3:o.phase=3
 ·rw[if_pos h3,ah]
  have:qj o=0:=by unfold qj;rw[if_pos h3]
  rw[this];rfl
 ·rw[if_neg h3,yL ⟨by omega,by omega⟩]
  refine(aol ⟨by omega,by omega⟩ rp).bind fun y hy=> ?_
  have m:0<=(o.qty - o.filled)*o.price:=Int.mul_nonneg (by omega) (by omega)
  rw[aoB h3]
  generalize (o.qty - o.filled)*o.price=a at*
  have hia:inI a↔a<=9223372036854775807:=by unfold inI;omega
  rw[hia]at hy
  rw[gq]
  refine⟨fun hb=>(ah _).2 ?_,fun hb=> ?_⟩
  ·have hn:¬a<=9223372036854775807:=fun h=>by rw[hy.1.2 h]at hb;cases hb
   rw[if_neg];split<;>omega
  ·have hyt:y.2=true:=by simpa [ay] using hb
   have hale:=hy.1.1 hyt
   have hya:=hy.2 hyt
   rw[Xb]
   by_cases hn:o.filled<o.newQty
   ·rw[if_pos hn,if_neg (by omega:¬o.newQty<=o.filled)]
    have hnp:=anr h hn
    rw[yL ⟨by omega,by omega⟩]
    refine(aol ⟨by omega,by omega⟩ rnp).bind fun z hz=> ?_
    have m2:0<=(o.newQty - o.filled)*o.newPrice:=Int.mul_nonneg (by omega) (by omega)
    generalize (o.newQty - o.filled)*o.newPrice=b at*
    have hib:inI b↔b<=9223372036854775807:=by unfold inI;omega
    rw[hib]at hz
    rw[gq]
    refine⟨fun hb=>(ah _).2 ?_,fun hb=> ?_⟩
    ·have hn:¬b<=9223372036854775807:=fun h=>by rw[hz.1.2 h]at hb;cases hb
     rw[if_neg (by omega)]
    ·have hzt:z.2=true:=by simpa [ay] using hb
     have hble:=hz.1.1 hzt
     have hzb:=hz.2 hzt
     rw[hya,hzb,Xb,if_pos (c:=max a b<=9223372036854775807) (by omega)]
     by_cases hab:a<b
     ·rw[if_pos hab,ah,Int.max_eq_right (by omega)]
     ·rw[if_neg hab,ah,Int.max_eq_left (by omega)]
   ·rw[if_neg hn,if_pos (by omega:o.newQty<=o.filled),if_pos hale,ah,hya]
theorem abK {c:aK} (h:rW c):tq c=some (decide (okC c)):=by
 refine Wq.dec ?_
 unfold tq
 rw[aek h.pos h.buy,ak,avE h.sell h.pos,ak,ah]
 simp only[aQ,bg,bM,bZ,aT,aU,bV,cu,bJ,dh,aZ,bC,cZ,dm,okC]
 by_cases h1:inI (c.pos+c.buy)
 ·by_cases h2:inI (c.sell - c.pos)
  ·simp only[if_pos h1,if_pos h2]
   constructor
   ·rintro⟨⟨⟨_,a⟩,b⟩,d⟩;exact⟨h,⟨a,b,d⟩,h1,h2⟩
   ·rintro⟨_,⟨a,b,d⟩,_,_⟩;exact⟨⟨⟨⟨trivial,trivial⟩,a⟩,b⟩,d⟩
  ·simp only[if_neg h2]
   constructor
   ·rintro⟨⟨⟨⟨_,a⟩,_⟩,_⟩,_⟩;cases a
   ·rintro⟨_,_,_,a⟩;exact absurd a h2
 ·simp only[if_neg h1]
  constructor
  ·rintro⟨⟨⟨⟨a,_⟩,_⟩,_⟩,_⟩;cases a
  ·rintro⟨_,_,a,_⟩;exact absurd a h1
theorem aho (x:dL):sJ x=some (decide (acf x)):=by
 refine Wq.dec ?_
 unfold sJ acf
 simp only[ah,aQ,bg,bM,bZ,aT,aU,bV,cu,bJ,dh,aZ,bC,cZ,dm]
 grind
theorem aof {l:List aK} (hl:l.length<999999) (h:∀c∈l,0<=c.opn/\inI c.opn):sU l=some (if vP l<=9223372036854775807 then (vP l,true)else (0,false)):=by
 refine Wq.eq ?_
 have hn:∀x∈l.map aK.opn,0<=x:=fun x hx=>by
  obtain⟨c,hc,rfl⟩:=List.mem_map.1 hx
  exact(h c hc).1
 have htk:∀i,(l.take i).map aK.opn=(l.map aK.opn).take i:=fun i=>by rw[List.map_take]
 unfold sU
 refine Wq.bind (Q:=fun w:(Bool×Int) ⊕ (Int×Bool×Int)=>match w with | .inl w=>w=(false,0)/\¬vP l<=9223372036854775807 | .inr w=>w.1=vP l/\vP l<=9223372036854775807)
  (gX (n:=l.length) (step:=fun v:Int×Int×Bool×Int=>lI l v.fst v.snd.fst v.snd.snd.fst v.snd.snd.snd) (by omega)
    (fun i x=>x.1=vP (l.take i)/\x.1<=9223372036854775807) _ ?_ ?_ _ 0 (Nat.zero_le _) (by simp [vP])) ?_
 ·rintro i ⟨a,b,c⟩ hi ⟨rfl,ha⟩
  simp only[lI]
  simp only at ha
  have hx:=h l[i] (List.getElem_mem _)
  have hs:vP (l.take (i+1))=vP (l.take i)+l[i].opn:=by
   unfold vP
   rw[htk,htk,aam _ i (by simpa using hi),List.getElem_map]
  have ht:0<=vP (l.take i):=by unfold vP;rw[htk];exact af0 fun x hx=>hn x (List.mem_of_mem_take hx)
  have htl:vP (l.take (i+1))<=vP l:=by unfold vP;rw[htk];exact aeh hn _
  rw[aB (by rw[eU];simpa using hi),aB (inb l i hi),bI l i hi,aek ⟨by omega,ha⟩ hx.2,ak,<-hs]
  by_cases hr:vP (l.take (i+1))<=9223372036854775807
  ·rw[if_pos ⟨by omega,hr⟩]
   simp only[dD,bW,ah]
   exact⟨bG (by omega),trivial,hr⟩
  ·rw[if_neg (by unfold inI;omega)]
   simp only[dA,bK,ah]
   exact⟨trivial,by omega⟩
 ·rintro⟨a,b,c⟩ ⟨rfl,ha⟩
  simp only[lI]
  rw[dH (by rw[eU];simp),ah]
  rw[List.take_length]at*
  exact⟨rfl,ha⟩
 ·rintro w hw
  cases w with
  |inl w=>obtain⟨rfl,h2⟩:=hw;simp only[gY,ah];rw[if_neg h2]
  |inr w=>obtain⟨h1,h2⟩:=hw;simp only[gY,ah];rw[if_pos h2,h1]
theorem apz (c:aK) {o:aJ} (h:o.side=1\/o.side=2):YO c o=if o.side=1 then ⟨c.pos,c.buy+Jd o,c.sell,c.opn+qj o⟩else ⟨c.pos,c.buy,c.sell+Jd o,c.opn+qj o⟩:=by
 unfold YO
 by_cases e:o.side=1
 ·rw[if_pos e,if_neg (by omega)]
 ·rw[if_neg e,if_pos (by omega)]
theorem aus {s:ax} (hk:∀o∈s.orders,tV s o/\lX o) (hs:BV s) (hol:s.orders.length<999999) (i:Nat) (pos:Int) (a:Bool) (b:List aK):
 Wq (bD (fun v:Int×Bool×List aK×aK=>fQ (i:Int) s v.fst v.snd.fst v.snd.snd.fst v.snd.snd.snd) LF (0,a,b,aK.mk pos 0 0 0)) fun w=>match w with
  |.inl w=>w.1=false/\w.2.1=[]/\¬MP (ru s.symbols i s.orders)
  |.inr w=>w.1=a/\w.2.1=b/\w.2.2=tC ⟨pos,0,0,0⟩ (ru s.symbols i s.orders)/\MP (ru s.symbols i s.orders):=by
 have hz:tC ⟨pos,0,0,0⟩ zC=aK.mk pos 0 0 0:=by apply MF<;>simp [tC,zC]
 refine gX (n:=s.orders.length) hol (fun k x=>x.1=a/\x.2.1=b/\x.2.2=tC ⟨pos,0,0,0⟩ (ru s.symbols i (s.orders.take k))/\MP (ru s.symbols i (s.orders.take k))) _ ?_ ?_ _ 0 (Nat.zero_le _) ⟨rfl,rfl,by simp only[List.take_zero,ru];exact hz.symm,by simp only[List.take_zero,ru,MP,zC];decide⟩
 ·rintro k ⟨x1,x2,x3⟩ hkl ⟨rfl,rfl,g3,g4⟩
  simp only at g3 g4
  obtain⟨hoi,hor⟩:=hk s.orders[k] (List.getElem_mem _)
  obtain⟨ho,_,ha,hy⟩:=id hoi
  have hside:=ho.1.2.2.2.1
  have hacc:=ho.1.2.1;have hsym:=ho.1.2.2.1
  have m:=vJ (a:=s.orders[k].account) (b:=s.symbols) (by omega) (by have:=hs.1.2;omega) (by have:=hs.2.1.1;omega) (by have:=hs.2.1.2;omega)
  have hwr:wr .i64 (aj (wr .i64 (dY s.orders[k].account s.symbols)) s.orders[k].symbol)=atZ s.symbols s.orders[k]:=by
   unfold aj dY atZ
   rw[bY (n:=s.orders[k].account*s.symbols) m.1 (by omega),bY (by omega) (by omega)]
  have hstep:ru s.symbols i (s.orders.take (k+1))=tC (ru s.symbols i (s.orders.take k)) (inC s.symbols i s.orders[k]):=by
   rw[List.take_succ_eq_append_getElem hkl,zu,abI]
  have hnn:=O0 s.symbols i (l:=s.orders.take k) fun o h=>⟨(hk o (List.mem_of_mem_take h)).1.1,(hk o (List.mem_of_mem_take h)).2⟩
  have hO:=U6 ho hor
  have hW:=acC ho
  have hfull:MP (ru s.symbols i s.orders)->MP (ru s.symbols i (s.orders.take (k+1))):=fun h=>by
   have e:ru s.symbols i s.orders=tC (ru s.symbols i (s.orders.take (k+1))) (ru s.symbols i (s.orders.drop (k+1))):=by
    rw[<-zu,List.take_append_drop]
   rw[e]at h
   exact alc (O0 _ _ fun o h=>⟨(hk o (List.mem_of_mem_drop h)).1.1,(hk o (List.mem_of_mem_drop h)).2⟩) h
  simp only[fQ]
  rw[aB (by rw[eU];simpa using hkl),aB (inb _ k hkl),bI _ k hkl,hwr,fB,iO]
  by_cases hat:atZ s.symbols s.orders[k]=(i:Int)
  case neg=>
   rw[if_neg hat,ah]
   refine⟨bG (by omega),rfl,rfl,?_,?_⟩
   ·rw[hstep];unfold inC;rw[if_neg hat,acM];exact g3
   ·rw[hstep];unfold inC;rw[if_neg hat,acM];exact g4
  rw[if_pos hat,ahl ho hor,ak,ajb ho hor]
  have hin:inC s.symbols i s.orders[k]=wC s.orders[k]:=auL hat
  rw[hin]at hstep
  generalize ru s.symbols i (s.orders.take k)=c at*
  obtain⟨n0,n1,n2,n3⟩:=hnn
  obtain⟨f1,f2,f3⟩:=id g4
  have e1:x3.opn=c.opn:=by rw[g3];simp [tC]
  have e2:x3.buy=c.buy:=by rw[g3];simp [tC]
  have e3:x3.sell=c.sell:=by rw[g3];simp [tC]
  have e4:x3.pos=pos:=by rw[g3];simp [tC,n0]
  have iw:∀w:Int,0<=w->w<=9223372036854775807->inI w:=fun w h1 h2=>⟨by omega,h2⟩
  by_cases hw:qj s.orders[k]<=9223372036854775807
  case neg=>
   have hno:¬MP (ru s.symbols i s.orders):=fun h=>by
    have h:=hfull h
    rw[hstep]at h
    have:=h.2.2
    have e:(wC s.orders[k]).opn=qj s.orders[k]:=by unfold wC;split<;>rfl
    simp only[tC,e]at this;omega
   rw[if_neg hw]
   simp only[ak]
   rw[e1,aek (iw _ n3 f3) (by decide),ak,iO]
   split
   ·rw[e2,aek (iw _ n1 f1) (iw _ hO.1 hO.2),ak,aB (by simp only[aQ,bg,bM,bZ,aT,aU,bV,cu,bJ,dh,aZ,bC,cZ,dm];left;left;decide),ah];exact⟨rfl,rfl,hno⟩
   ·rw[e3,aek (iw _ n2 f2) (iw _ hO.1 hO.2),ak,aB (by simp only[aQ,bg,bM,bZ,aT,aU,bV,cu,bJ,dh,aZ,bC,cZ,dm];left;left;decide),ah];exact⟨rfl,rfl,hno⟩
  rw[if_pos hw]
  simp only[ak]
  have hao:=apz c hside
  rw[aeV]at hao
  rw[e1,aek (iw _ n3 f3) (iw _ hW hw),ak,iO]
  by_cases hsd:s.orders[k].side=1
  ·rw[if_pos hsd]at hao ⊢
   rw[e2,aek (iw _ n1 f1) (iw _ hO.1 hO.2),ak]
   rw[hao]at hstep
   by_cases h1:c.opn+qj s.orders[k]<=9223372036854775807
   ·by_cases h2:c.buy+Jd s.orders[k]<=9223372036854775807
    ·rw[if_pos (iw _ (by omega) h1),if_pos (iw _ (by omega) h2)]
     simp only[Dp,dD,iM,bW]
     rw[ah]
     refine⟨bG (by omega),rfl,rfl,?_,?_⟩
     ·rw[hstep];apply MF<;>simp only[tC]<;>omega
     ·rw[hstep];exact⟨h2,f2,h1⟩
    ·have hno:¬MP (ru s.symbols i s.orders):=fun h=>by
      have h:=(hfull h).1;rw[hstep]at h;exact h2 h
     rw[if_pos (iw _ (by omega) h1),if_neg (fun h=>h2 h.2)]
     simp only[Dp,dD,iM,dA,bK]
     exact(ah _).2 ⟨rfl,rfl,hno⟩
   ·have hno:¬MP (ru s.symbols i s.orders):=fun h=>by
     have h:=(hfull h).2.2;rw[hstep]at h;exact h1 h
    rw[if_neg (c:=inI (c.opn+qj s.orders[k])) (fun h=>h1 h.2)]
    simp only[Dp,dD,iM,dA,sG,bK]
    exact(ah _).2 ⟨rfl,rfl,hno⟩
  ·rw[if_neg hsd]at hao ⊢
   rw[e3,aek (iw _ n2 f2) (iw _ hO.1 hO.2),ak]
   rw[hao]at hstep
   by_cases h1:c.opn+qj s.orders[k]<=9223372036854775807
   ·by_cases h2:c.sell+Jd s.orders[k]<=9223372036854775807
    ·rw[if_pos (iw _ (by omega) h1),if_pos (iw _ (by omega) h2)]
     simp only[Dp,dD,iM,bW]
     rw[ah]
     refine⟨bG (by omega),rfl,rfl,?_,?_⟩
     ·rw[hstep];apply MF<;>simp only[tC]<;>omega
     ·rw[hstep];exact⟨f1,h2,h1⟩
    ·have hno:¬MP (ru s.symbols i s.orders):=fun h=>by
      have h:=(hfull h).2.1;rw[hstep]at h;exact h2 h
     rw[if_pos (iw _ (by omega) h1),if_neg (fun h=>h2 h.2)]
     simp only[Dp,dD,iM,dA,bK]
     exact(ah _).2 ⟨rfl,rfl,hno⟩
   ·have hno:¬MP (ru s.symbols i s.orders):=fun h=>by
     have h:=(hfull h).2.2;rw[hstep]at h;exact h1 h
    rw[if_neg (c:=inI (c.opn+qj s.orders[k])) (fun h=>h1 h.2)]
    simp only[Dp,dD,iM,dA,sG,bK]
    exact(ah _).2 ⟨rfl,rfl,hno⟩
 ·rintro⟨x1,x2,x3⟩ ⟨g1,g2,g3,g4⟩
  simp only[fQ]
  rw[dH (by rw[eU];simp),ah]
  rw[List.take_length]at g3 g4
  exact⟨g1,g2,g3,g4⟩
theorem ap7 {n m:Int} (hn:1<=n/\n<=8) (hm:1<=m/\m<=8) {cs:List aK} (hc:len cs=n*m) {a:Int} (ha:0<=a) (ha2:a<n):
 band (band (ile 0 (wr .i64 (dY a m))) (ile (wr .i64 (dY a m)) (wr .i64 (dY (wr .i64 (aj a 1)) m)))) (ile (wr .i64 (dY (wr .i64 (aj a 1)) m)) (len cs))=true/\
 aA (aN cs (itn (wr .i64 (dY a m)))) (itn (aI (wr .i64 (dY (wr .i64 (aj a 1)) m)) (wr .i64 (dY a m))))=UL m cs a:=by
 have q:=vJ (a:=a) (b:=m) (by omega) (by omega) (by omega) (by omega)
 have q2:=vJ (a:=a+1) (b:=m) (by omega) (by omega) (by omega) (by omega)
 have l:(a+1)*m<=n*m:=Int.mul_le_mul_of_nonneg_right (by omega) (by omega)
 have e:(a+1)*m=a*m+m:=by rw[Int.add_mul,Int.one_mul]
 rw[show dY a m=a*m from rfl,bY q.1 (by omega),show aj a 1=a+1 from rfl,bY (n:=a+1) (by omega) (by omega),
  show dY (a+1) m=(a+1)*m from rfl,bY q2.1 (by omega)]
 refine⟨by simp only[aQ,bJ];omega,?_⟩
 rw[show aI ((a+1)*m) (a*m)=m from by unfold aI;omega]
 rfl
theorem amZ {s:ax} (hs:BV s) (hk:∀o∈s.orders,tV s o/\lX o) (hcl:okL CO s.cells):
 Wq (jv s) fun r=>(r.2=true↔avn (atD s s.orders))/\(r.2=true->r.1=gJ s s.orders):=by
 obtain⟨hc,_,_,hol⟩:=hs.lens
 have hnn:∀i:Nat,nnC (ru s.symbols i s.orders):=fun i=>O0 _ _ fun o h=>⟨(hk o h).1.1,(hk o h).2⟩
 unfold jv
 refine Wq.bind (Q:=fun w:(Bool×List aK) ⊕ (List aK×Bool×List aK)=>match w with
  |.inl w=>w.1=false/\¬∀c∈gJ s s.orders,okC c
  |.inr w=>w.1=gJ s s.orders/\∀c∈gJ s s.orders,okC c)
  (gX (n:=s.cells.length) (step:=fun v:Int×List aK×Bool×List aK=>iy s v.fst v.snd.fst v.snd.snd.fst v.snd.snd.snd) (by omega)
    (fun i x=>x.1=(gJ s s.orders).take i/\∀c∈x.1,okC c) _ ?_ ?_ _ 0 (Nat.zero_le _) ⟨by simp,by simp⟩) ?_
 ·rintro i ⟨x1,x2,x3⟩ hi ⟨g1,g2⟩
  simp only at g1 g2
  have him:i<(gJ s s.orders).length:=by rw[oU];exact hi
  have hci:rW s.cells[i]:=hcl.1 _ (List.getElem_mem hi)
  simp only[iy]
  rw[aB (by rw[eU];simpa using hi),aB (inb _ i hi),bI _ i hi]
  refine Wq.bind (aus hk hs (by omega) i s.cells[i].pos x2 x3) fun w hw=> ?_
  have hmk:=IY s s.orders i him
  have hokfit:okC (gJ s s.orders)[i]->MP (ru s.symbols i s.orders):=fun h=>by
   have:=adF h
   rw[hmk]at this
   unfold MP tC at this
   simpa [MP] using this
  cases w with
  |inl w=>
   obtain⟨h1,h2,h3⟩:=hw
   simp only[gY,ah]
   exact⟨h1,fun h=>h3 (hokfit (h _ (List.getElem_mem him)))⟩
  |inr w=>
   obtain⟨h1,h2,h3,h4⟩:=hw
   simp only[gY]
   have hokc:rW w.2.2:=by
    rw[h3]
    have n:=hnn i
    obtain⟨n0,n1,n2,n3⟩:=n
    obtain⟨f1,f2,f3⟩:=h4
    have hp:=hci.pos
    refine⟨?_,?_,?_,?_⟩<;>simp only[tC]<;>unfold inI at* <;>omega
   rw[abK hokc,ak,fB,JW,h3,<-hmk]
   by_cases hok:okC (gJ s s.orders)[i]
   ·rw[if_pos hok,aB (jd (by rw[g1];simp [dB,len];omega)),ah]
    refine⟨bG (by omega),?_,fun c hc=> ?_⟩
    ·rw[List.take_succ_eq_append_getElem him,<-g1];rfl
    ·rcases List.mem_append.1 hc with hc | hc
     ·exact g2 c hc
     ·rw[List.mem_singleton]at hc;subst hc;exact hok
   ·rw[if_neg hok,ah]
    exact⟨rfl,fun h=>hok (h _ (List.getElem_mem him))⟩
 ·rintro⟨x1,x2,x3⟩ ⟨g1,g2⟩
  simp only[iy]
  rw[dH (by rw[eU];simp),ah]
  have e:(gJ s s.orders).take s.cells.length=gJ s s.orders:=List.take_of_length_le (by rw[oU];exact Nat.le_refl _)
  rw[e]at g1
  simp only at g1 g2
  exact⟨g1,by rw[<-g1];exact g2⟩
 ·rintro w hw
  cases w with
  |inl w=>
   obtain⟨h1,h2⟩:=hw
   simp only[gY,ah,h1]
   exact⟨⟨fun h=>(by cases h),fun h=>absurd h.1 h2⟩,fun h=>(by cases h)⟩
  |inr w=>
   obtain⟨h1,h2⟩:=hw
   simp only[gY]
   have hlen:len (gJ s s.orders)=s.accounts*s.symbols:=by simp only[len,oU];exact hs.2.2.1
   refine Wq.bind (Q:=fun w:(Bool×List aK) ⊕ (Bool×List aK)=>match w with | .inl w=>w.1=false/\¬aaZ s.accounts s.symbols (gJ s s.orders) | .inr _=>aaZ s.accounts s.symbols (gJ s s.orders))
    (gX (n:=s.accounts.toNat) (step:=fun v:Int×Bool×List aK=>gK w.fst s v.fst v.snd.fst v.snd.snd) (by have:=hs.1.2;omega)
    (fun i x=>∀a:Int,0<=a->a<i->vP (UL s.symbols (gJ s s.orders) a)<=9223372036854775807) _ ?_ ?_ _ 0 (Nat.zero_le _) (fun a h1 h2=>by omega)) ?_
   ·rintro i q hi hx
    have hia:(i:Int)<s.accounts:=by omega
    obtain⟨c1,c2⟩:=ap7 hs.1 hs.2.1 (cs:=gJ s s.orders) hlen (a:=(i:Int)) (by omega) hia
    simp only[gK,h1]
    rw[aB (nD hia),aB c1,c2,aof (by have:=acI (n:=s.symbols) (cs:=gJ s s.orders) (a:=(i:Int));rw[oU]at this;omega) (asw h2 i),ak]
    by_cases hw:vP (UL s.symbols (gJ s s.orders) i)<=9223372036854775807
    ·rw[if_pos hw]
     simp only[dD,bW,ah]
     refine⟨bG (by have:=hs.1.2;omega),fun a h1 h2=> ?_⟩
     by_cases e:a=i
     ·subst e;exact hw
     ·exact hx a h1 (by omega)
    ·rw[if_neg hw]
     simp only[dA,bK,ah]
     exact⟨trivial,fun h=>hw (h i (by omega) hia)⟩
   ·rintro q hx
    simp only[gK]
    rw[dH (qm (by omega)),ah]
    exact fun a h1 h2=>hx a h1 (by omega)
   ·rintro v hv
    cases v with
    |inl v=>
     obtain⟨g1,g2⟩:=hv
     simp only[gY,ah,g1]
     exact⟨⟨fun h=>(by cases h),fun h=>absurd h.2 g2⟩,fun h=>(by cases h)⟩
    |inr v=>
     simp only[gY,ah]
     exact⟨⟨fun _=>⟨h2,hv⟩,fun _=>trivial⟩,fun _=>h1⟩
theorem akw (l:List aJ):ajl l↔∀i:Nat,(h:i+1<l.length)->l[i].id<l[i+1].id:=by
 constructor
 ·exact fun h i hi=>List.pairwise_iff_getElem.1 h i (i+1) (by omega) hi (by omega)
 ·intro h
  refine List.pairwise_iff_getElem.2 fun i j hi hj hij=> ?_
  have key:∀d:Nat,(hd:i+d+1<l.length)->l[i].id<l[i+d+1].id:=fun d=>by
   induction d with
   |zero=>exact fun hd=>h i hd
   |succ d ih=>exact fun hd=>Int.lt_trans (ih (by omega)) (h (i+d+1) (by omega))
  have e:j=i+(j - i - 1)+1:=by omega
  have:=key (j - i - 1) (by omega)
  simp only[<-e]at this
  exact this
theorem anN {s:ax} (hr:yK s) (hsh:BU s):Wq (pI s) fun b=>b=true↔zY s:=by
 obtain⟨l1,l2,l3,l4⟩:=hsh
 unfold pI
 rw[gq]
 refine⟨fun h=>(ah _).2 ⟨fun h=>(by cases h),fun hR=> ?_⟩,fun h=> ?_⟩
 ·obtain⟨a1,a2,a3,a4,a5,a6⟩:=hR.sized
  have m:=vJ (a:=s.accounts) (b:=s.symbols) (by omega) (by omega) (by omega) (by omega)
  simp only[aQ,bg,bM,bZ,aT,aU,bV,cu,bJ,dh,aZ,bC,cZ,dm,show dY s.accounts s.symbols=s.accounts*s.symbols from rfl,bY m.1 (show s.accounts*s.symbols<1000000000000 by omega),len]at h
  simp only[len]at a3 a4 a5
  omega
 have hs:BV s:=by
  simp only[aQ,bg,bM,bZ,aT,aU,bV,cu,bJ,dh,aZ,bC,cZ,dm,len]at h
  have m:=vJ (a:=s.accounts) (b:=s.symbols) (by omega) (by omega) (by omega) (by omega)
  rw[show dY s.accounts s.symbols=s.accounts*s.symbols from rfl,bY m.1 (by omega)]at h
  unfold BV
  simp only[len]
  omega
 rw[gq]
 refine⟨fun h=>(ah _).2 ⟨fun h=>(by cases h),fun hR=> ?_⟩,fun h=> ?_⟩
 ·have b1:=hR.fine.last;have b2:=hR.fine.seq;have b3:=hR.fine.lsn
  simp only[aQ,bg,bM,bZ,aT,aU,bV,cu,bJ,dh,aZ,bC,cZ,dm]at h
  omega
 simp only[aQ,bg,bM,bZ,aT,aU,bV,cu,bJ,dh,aZ,bC,cZ,dm]at h
 refine Wq.bind (Q:=fun w:Bool ⊕ Bool=>match w with
  |.inl b=>b=false/\¬((∀o∈s.orders,tV s o/\o.id<=s.last)/\ajl s.orders)
  |.inr _=>(∀o∈s.orders,tV s o/\o.id<=s.last)/\ajl s.orders)
  (gX (n:=s.orders.length) (step:=fun v:Int×Bool=>kS s v.fst v.snd) l1
    (fun i _=>(∀o∈s.orders.take i,tV s o/\o.id<=s.last)/\∀k:Nat,(h:k+1<s.orders.length)->k+1<i->s.orders[k].id<s.orders[k+1].id) _ ?_ ?_ _ 0 (Nat.zero_le _) (by simp)) ?_
 ·rintro i q hi ⟨g1,g2⟩
  simp only[kS]
  rw[aB (by rw[eU];simpa using hi),aB (inb _ i hi),bI _ i hi,Gn,ak]
  have hbad:∀b:Bool,(b=true↔¬(tV s s.orders[i]/\s.orders[i].id<=s.last))->b=bor (bor (bor (bor (ay (decide (NS s.orders[i]))) (ieq s.orders[i].phase 3)) (ile s.accounts s.orders[i].account)) (ile s.symbols s.orders[i].symbol)) (ilt s.last s.orders[i].id):=fun b hb=>by
   rw[Bool.eq_iff_iff,hb]
   unfold tV
   simp only[aQ,bg,bM,bZ,aT,aU,bV,cu,bJ,dh,aZ,bC,cZ,dm,decide_eq_false_iff_not]
   constructor
   ·intro h
    by_cases a:NS s.orders[i]
    ·by_cases b:s.orders[i].phase=3
     ·exact .inl (.inl (.inl (.inr b)))
     ·by_cases c:s.accounts<=s.orders[i].account
      ·exact .inl (.inl (.inr c))
      ·by_cases d:s.symbols<=s.orders[i].symbol
       ·exact .inl (.inr d)
       ·exact .inr (by by_cases e:s.orders[i].id<=s.last;exact absurd ⟨⟨a,b,by omega,by omega⟩,e⟩ h;omega)
    ·exact .inl (.inl (.inl (.inl a)))
   ·rintro((((a | a) | a) | a) | a) ⟨⟨b1,b2,b3,b4⟩,b5⟩
    ·exact a b1
    ·exact b2 a
    ·omega
    ·omega
    ·omega
  by_cases hok:tV s s.orders[i]/\s.orders[i].id<=s.last
  ·rw[<-hbad false (by simp [hok])]
   simp only[dA,Bz,iM]
   by_cases h0:i=0
   ·subst h0
    rw[aB (by simp only[aQ,bg,bM,bZ,aT,aU,bV,cu,bJ,dh,aZ,bC,cZ,dm];right;decide),dH (by simp only[aQ,bg,bM,bZ,aT,aU,bV,cu,bJ,dh,aZ,bC,cZ,dm];left;decide),ah]
    refine⟨bG (by omega),fun o ho=> ?_,fun k hk1 hk2=>by omega⟩
    rcases(uU hi).1 ho with ho | rfl
    ·exact g1 o ho
    ·exact hok
   ·have hw:wr .i64 (aI (i:Int) 1)=((i - 1:Nat):Int):=by unfold aI;rw[bY (by omega) (by omega)];omega
    have hi1:i - 1<s.orders.length:=by omega
    rw[hw,aB (by rw[bM];exact .inl (inb _ _ hi1)),bI _ _ hi1,nD (show(0:Int)<(i:Int) by omega),Bz,aqJ]
    have hii:s.orders[i - 1+1]'(by omega)=s.orders[i]:=by congr 1;omega
    by_cases hle:s.orders[i].id<=s.orders[i - 1].id
    ·rw[if_pos hle,ah]
     refine⟨rfl,fun⟨_,h2⟩=> ?_⟩
     have:=(akw _).1 h2 (i - 1) (by omega)
     rw[hii]at this;omega
    ·rw[if_neg hle,ah]
     refine⟨bG (by omega),fun o ho=> ?_,fun k hk1 hk2=> ?_⟩
     ·rcases(uU hi).1 ho with ho | rfl
      ·exact g1 o ho
      ·exact hok
     ·by_cases e:k+1=i
      ·have e2:k=i - 1:=by omega
       subst e2
       rw[hii];omega
      ·exact g2 k hk1 (by omega)
  ·rw[<-hbad true (by simp [hok])]
   simp only[dD,LK,dA,sG,ah3,bK]
   rw[ah]
   exact⟨rfl,fun h2=>hok (h2.1 _ (List.getElem_mem _))⟩
 ·rintro q ⟨g1,g2⟩
  simp only[kS]
  rw[dH (by rw[eU];simp),ah]
  rw[List.take_length]at g1
  exact⟨g1,(akw _).2 fun k hk=>g2 k hk hk⟩
 rintro w hw
 cases w with
 |inl b=>
  obtain⟨rfl,hn⟩:=hw
  simp only[gY,ah]
  exact⟨fun h=>(by cases h),fun hR=>absurd ⟨fun o ho=>⟨hR.fine.ords o ho,hR.fine.ids o ho⟩,hR.fine.asc⟩ hn⟩
 |inr b=>
 obtain⟨ho,has⟩:=hw
 simp only[gY]
 refine Wq.bind (Q:=fun w:Bool ⊕ Bool=>match w with | .inl b=>b=false/\¬∀x∈s.limits,acf x | .inr _=>∀x∈s.limits,acf x)
  (gX (n:=s.limits.length) (step:=fun v:Int×Bool=>kV s v.fst v.snd) l3 (fun i _=>∀x∈s.limits.take i,acf x) _ ?_ ?_ _ 0 (Nat.zero_le _) (by simp)) ?_
 ·rintro i q hi hx
  simp only[kV]
  rw[aB (by rw[eU];simpa using hi),aB (inb _ i hi),bI _ i hi,aho,ak,fB,JW]
  split
  ·rename_i h5
   rw[ah]
   refine⟨bG (by omega),fun x hx'=> ?_⟩
   rcases(uU hi).1 hx' with h6 | rfl
   ·exact hx x h6
   ·exact h5
  ·rename_i h5
   rw[ah]
   exact⟨rfl,fun h2=>h5 (h2 _ (List.getElem_mem _))⟩
 ·rintro x hx
  simp only[kV]
  rw[dH (by rw[eU];simp),ah]
  rwa[List.take_length]at hx
 rintro w hw
 cases w with
 |inl b=>
  obtain⟨rfl,hn⟩:=hw
  simp only[gY,ah]
  exact⟨fun h=>(by cases h),fun hR=>absurd hR.fine.lims hn⟩
 |inr b=>
 simp only[gY]
 refine Wq.bind (Q:=fun w:Bool ⊕ Bool=>match w with | .inl b=>b=false/\¬∀x∈s.caps,0<=x | .inr _=>∀x∈s.caps,0<=x)
  (gX (n:=s.caps.length) (step:=fun v:Int×Bool=>kR s v.fst v.snd) l4 (fun i _=>∀x∈s.caps.take i,0<=x) _ ?_ ?_ _ 0 (Nat.zero_le _) (by simp)) ?_
 ·rintro i q hi hx
  simp only[kR]
  rw[aB (by rw[eU];simpa using hi),aB (inb _ i hi),bI _ i hi,Xb]
  split
  ·rename_i h5
   rw[ah]
   exact⟨rfl,fun h2=>by have:=h2 _ (List.getElem_mem hi);omega⟩
  ·rename_i h5
   rw[ah]
   refine⟨bG (by omega),fun x hx'=> ?_⟩
   rcases(uU hi).1 hx' with h6 | rfl
   ·exact hx x h6
   ·omega
 ·rintro x hx
  simp only[kR]
  rw[dH (by rw[eU];simp),ah]
  rwa[List.take_length]at hx
 rintro v hv
 cases v with
 |inl b=>
  obtain⟨rfl,hn⟩:=hv
  simp only[gY,ah]
  exact⟨fun h=>(by cases h),fun hR=>absurd hR.fine.caps hn⟩
 |inr b=>
 simp only[gY]
 have hfine:ak2 s:=⟨fun o h=>(ho o h).1,has,fun o h=>(ho o h).2,by omega,by omega,by omega,hw,hv⟩
 have hall:∀o∈s.orders,tV s o/\lX o:=fun o h=>⟨(ho o h).1,hr.orders.1 o h⟩
 refine Wq.bind (amZ hs hall hr.cells) fun y hy=> ?_
 rw[gq]
 refine⟨fun h=>(ah _).2 ⟨fun h=>(by cases h),fun hR=> ?_⟩,fun h=> ?_⟩
 ·rw[aT]at h
  have:y.2=true:=hy.1.2 ⟨by show ∀c∈gJ s s.orders,okC c;rw[<-hR.cells];exact hR.ok,by show aaZ s.accounts s.symbols (gJ s s.orders);rw[<-hR.cells];exact hR.acct⟩
  rw[this]at h;cases h
 rw[aU]at h
 have hfit:=hy.1.1 h
 have hc:=hy.2 h
 rw[hc]
 refine Wq.bind (afk (l:=gJ s s.orders) (m:=s.cells) (oU _ _) (by rw[oU];exact l2) (step:=fun v:Int×Bool=>ku (gJ s s.orders) s v.fst v.snd) (fun i h hh q=> ?_) (fun q=> ?_) _) fun w hw=> ?_
 ·simp only[ku]
  rw[aB (by rw[eU];simpa using h),aB (inb _ i h),aB (inb _ i hh),bI _ i h,bI _ i hh,gq,ah,ah,aT,aU,bG (by omega)]
  have:=ahR (gJ s s.orders)[i] s.cells[i]
  simp only[aQ,bg,bM,bZ,aT,aU,bV,cu,bJ,dh,aZ,bC,cZ,dm]at*
  exact⟨fun h=>⟨fun e=>(by have:=this.2 e;grind),fun _=>trivial⟩,fun h=>⟨fun _=>trivial,fun e=>absurd (this.1 h) e⟩⟩
 ·simp only[ku]
  rw[dH (by rw[show(((gJ s s.orders).length:Nat):Int)=len (gJ s s.orders)from rfl];simp [ilt])]
 cases w with
 |inl w=>
  obtain⟨rfl,h⟩:=hw
  simp only[gY,ah]
  exact⟨fun h=>(by cases h),fun hR=>absurd hR.cells.symm h⟩
 |inr w=>
  simp only[gY,ah]
  have e:s.cells=gJ s s.orders:=Eq.symm hw
  exact⟨fun _=>⟨hs,hfine,e,by rw[e];exact hfit.1,by rw[e];exact hfit.2⟩,fun _=>trivial⟩
def zS:ax:=⟨0,0,[],[],[],[],false,0,0,0⟩
theorem Oy {α β:Type} (l:List α) {i:Nat} (h:i<l.length) (x y z:β):cnd (ilt (i:Int) (len l)) (cnd (band (ile 0 (i:Int)) (ilt (i:Int) (len l))) x y) z=x:=by
 rw[aB (b:=ilt _ _) (nD (by unfold len;omega)),aB (inb l i h)]
theorem Hz {α β:Type} (l:List α) (x y:β):cnd (ilt (l.length:Int) (len l)) x y=y:=dH (qm (by unfold len;omega))
def wL (n:Int):Nat->List Int
 |0=>[]
 |k+1=>(n / 256^k%256)::wL n k
theorem JR (n:Int):∀k,(wL n k).length=k
 |0=>rfl
 |k+1=>by rw[wL,List.length_cons,JR n k]
def gm (l:List Int):Prop:=∀x∈l,0<=x/\x<=255
theorem UA (n:Int):∀k,gm (wL n k)
 |0=>by intro x hx;cases hx
 |k+1=>by
  intro x hx
  rcases List.mem_cons.1 hx with rfl | hx
  ·have h1:=Int.emod_nonneg (n / 256^k) (b:=256) (by decide)
   have h2:=Int.emod_lt_of_pos (n / 256^k) (b:=256) (by decide)
   omega
  ·exact UA n k x hx
theorem gm.app {a b:List Int} (h:gm a) (k:gm b):gm (a++b):=fun x hx=>by
 rcases List.mem_append.1 hx with h1 | h1
 ·exact h x h1
 ·exact k x h1
theorem gm.drop {l:List Int} (h:gm l) (n:Nat):gm (l.drop n):=fun x hx=>h x (List.mem_of_mem_drop hx)
theorem gm.take {l:List Int} (h:gm l) (n:Nat):gm (l.take n):=fun x hx=>h x (List.mem_of_mem_take hx)
theorem gm.get {l:List Int} (h:gm l) {i:Nat} (hi:i<l.length):0<=l[i]/\l[i]<=255:=h _ (List.getElem_mem hi)
theorem QD {α:Type} {f:α->List Int} {l:List α} (h:∀x∈l,gm (f x)):gm (l.flatMap f):=fun x hx=>by
 obtain⟨y,h1,h2⟩:=List.mem_flatMap.1 hx
 exact h y h1 x h2
theorem Ul (n:Int):wr .u8 n=n%256:=by
 unfold wr IntKind.wrap
 simp [IntKind.bits,IntKind.signed]
theorem aa4 (n:Int):wr .u32 n=n%4294967296:=by
 unfold wr IntKind.wrap
 simp [IntKind.bits,IntKind.signed]
theorem amO {W X:Type} {step:Int×X->Option ((Int×X) ⊕ W)} {n:Nat} (hn:n<999999) (J:Nat->X->Prop) (R:W->Prop)
 (h:∀i x,i<n->J (i+1) x->Wq (step ((i:Int),x)) fun r=>match r with | .inl (k,x')=>k=(i:Int) - 1/\J i x' | .inr w=>R w)
 (he:∀x,J 0 x->Wq (step (-1,x)) fun r=>match r with | .inl _=>False | .inr w=>R w)
 (x:X) (hx:J n x):Wq (bD step LF ((n:Int) - 1,x)) R:=by
 refine ajT (fun v:Int×X=>(v.1+1).toNat) (fun v:Int×X=>∃i:Nat,v.1=(i:Int) - 1/\i<=n/\J i v.2) R ?_ LF _ (aoj (by simp only;omega)) ⟨n,rfl,Nat.le_refl _,hx⟩
 rintro⟨k,y⟩ ⟨i,rfl,hi,hj⟩
 cases i with
 |zero=>
  refine(he y hj).mono fun r hr=> ?_
  match r,hr with
  |.inl _,hr=>exact hr.elim
  |.inr w,hr=>exact hr
 |succ i=>
  have e:((i+1:Nat):Int) - 1=(i:Int):=by omega
  rw[e]
  refine(h i y (by omega) hj).mono fun r hr=> ?_
  match r,hr with
  |.inl (k,x'),hr=>
   obtain⟨rfl,h2⟩:=hr
   exact⟨⟨i,rfl,by omega,h2⟩,by simp only;omega⟩
  |.inr w,hr=>exact hr
theorem ab7 {i:Nat} (h:i<1000000):wr .i64 (aI (i:Int) 1)=(i:Int) - 1:=by
 unfold aI
 exact yL ⟨by omega,by omega⟩
theorem byte_of {n:Int} {i:Nat} (hi:i<8):ile 0 (wr .i64 (dY 8 (i:Int)))=true/\wr .u8 (dN .i64 n (wr .i64 (dY 8 (i:Int))))=n / 256^i%256:=by
 have h1:wr .i64 (dY 8 (i:Int))=((8*i:Nat):Int):=by
  unfold dY
  rw[bY (by omega) (by omega)];omega
 have h2:min (((8*i:Nat):Int).toNat) (IntKind.bits .i64)=8*i:=by
  simp only[IntKind.bits,Int.toNat_natCast];omega
 rw[h1]
 refine⟨jd (by omega),?_⟩
 unfold dN
 rw[h2,Int.pow_mul,Ul,Int.fdiv_eq_ediv_of_nonneg _ (Int.le_of_lt (Int.pow_pos (by decide)))]
 rfl
theorem vX {α:Type} {l:List α} {n:Nat} (h:l.length<=n) (hn:n<68719476736):ile (len l) 68719476736=true:=jd (by unfold len;omega)
theorem ajS (n:Int) (k:Nat) (a:List Int):(a++wL n k).length=a.length+k:=by rw[List.length_append,JR]
theorem s_put {n:Int} {acc:List Int} (k:Nat) (hk:k<=8) (hl:acc.length<1000000):bD (fun v:Int×List Int=>qY n v.1 v.2) LF ((k:Int) - 1,acc)=some (acc++wL n k):=by
 refine Wq.eq (amO (n:=k) (by omega) (fun i x=>x++wL n i=acc++wL n k/\x.length+i=acc.length+k) _ (fun i x hi hj=> ?_) (fun x hj=> ?_) acc ⟨rfl,rfl⟩)
 ·obtain⟨h1,h2⟩:=byte_of (n:=n) (i:=i) (by omega)
  simp only
  unfold qY
  rw[h2,aB (jd (by omega)),aB h1,aB (vX (n:=1000100) (by simp only[dB,List.length_append,List.length_cons,List.length_nil];omega) (by decide)),ah]
  refine⟨ab7 (by omega),?_,?_⟩
  ·rw[<-hj.1]
   show(x++[_])++wL n i=x++(_::wL n i)
   rw[List.append_assoc];rfl
  ·simp only[dB,List.length_append,List.length_cons,List.length_nil];omega
 ·simp only
  unfold qY
  rw[dH (ahJ (by omega)),ah]
  have:=hj.1
  simpa [wL] using this
theorem aiw {acc:List Int} (k:Nat) (h0:0<k) (hk:k<=8) {l:List Int} (hl:acc.length+8*l.length<1000000):uS acc (k:Int) l=some (acc++l.flatMap fun n=>wL n k):=by
 have hn:l.length<999999:=by omega
 refine Wq.eq ?_
 unfold uS
 refine Wq.bind (Q:=fun y=>y=acc++l.flatMap fun n=>wL n k) ?_ fun y hy=>(ah _).2 hy
 refine gX hn (fun i x=>x=acc++(l.take i).flatMap (fun n=>wL n k)/\x.length=acc.length+k*i) _ (fun i x hi hj=> ?_) (fun x hj=> ?_) acc 0 (Nat.zero_le _) ⟨by simp,by simp⟩
 ·simp only
  unfold yT
  have hki:k*i<=8*i:=Nat.mul_le_mul_right _ hk
  rw[Oy l hi,bI l i hi]
  have e:wr .i64 (aI (k:Int) 1)=(k:Int) - 1:=ab7 (by omega)
  rw[e,s_put k hk (by omega),ak,ah]
  refine⟨bG (by omega),?_,?_⟩
  ·rw[List.take_succ_eq_append_getElem hi,List.flatMap_append,hj.1]
   simp
  ·rw[ajS,hj.2,Nat.mul_add];omega
 ·simp only
  unfold yT
  rw[Hz,ah,hj.1,List.take_length]
theorem akA {acc:List Int} (k:Nat) (h0:0<k) (hk:k<=8) {l:List Int} (hl:acc.length+8*l.length<1000000):mD acc (k:Int) l=some (acc++l.flatMap fun n=>wL n k):=aiw k h0 hk hl
def unZ (l:List Int):Int:=l.foldl (fun n b=>n*256+b) 0
theorem afs (l:List Int) (b:Int):unZ (l++[b])=unZ l*256+b:=by unfold unZ;rw[List.foldl_append];rfl
theorem ari (n c:Int):wr .i64 (wr .i64 n*256+c)=wr .i64 (n*256+c):=by
 unfold wr IntKind.wrap
 simp [IntKind.bits,IntKind.signed]
 omega
theorem akg (n:Int):wr .i64 (n%18446744073709551616)=wr .i64 n:=by
 unfold wr IntKind.wrap
 simp [IntKind.bits,IntKind.signed]
theorem ajo (a c:Int) (h1:0<=c) (h2:c<=255):wr .i64 (ior .i64 (wr .i64 (qZ .i64 a 8)) (wr .i64 c))=wr .i64 (a*256+c):=by
 have e1:qZ .i64 a 8=a*256:=rfl
 have e2:wr .i64 c=c:=bY h1 (by omega)
 rw[e1,e2,<-akg (a*256+c)]
 congr 1
 unfold ior
 rw[BitVec.toNat_or,BitVec.toNat_ofInt,BitVec.toNat_ofInt]
 have e3:((2^IntKind.bits .i64:Nat):Int)=18446744073709551616:=by decide
 rw[e3]
 have e4:wr .i64 (a*256)%18446744073709551616=((a%72057594037927936).toNat*256:Nat):=by
  have:wr .i64 (a*256)%18446744073709551616=a*256%18446744073709551616:=by
   unfold wr IntKind.wrap
   simp [IntKind.bits,IntKind.signed]
   omega
  rw[this];omega
 have e5:c%18446744073709551616=(c.toNat:Int):=by omega
 rw[e4,e5,Int.toNat_natCast,Int.toNat_natCast]
 have e6:=Nat.shiftLeft_add_eq_or_of_lt (i:=8) (b:=c.toNat) (by omega) (a%72057594037927936).toNat
 rw[Nat.shiftLeft_eq]at e6
 rw[show(a%72057594037927936).toNat*256=(a%72057594037927936).toNat*2^8 from rfl,<-e6]
 omega
theorem atv {r:gV} {k:Nat} (hk:k<=r.rest.length) (hn:k<999999) (hb:gm r.rest):dP r (k:Int)=some (⟨r.rest.drop k,r.odd⟩,wr .i64 (unZ (r.rest.take k))):=by
 refine Wq.eq ?_
 unfold dP
 have h1:band (ile 0 (k:Int)) (ile (k:Int) (len r.rest))=true:=Fb (jd (by omega)) (jd (by unfold len;omega))
 have e:aA r.rest (itn (k:Int))=r.rest.take k:=by simp [aA,itn]
 rw[h1,bK,e]
 have hlen:(r.rest.take k).length=k:=by rw[List.length_take];omega
 refine Wq.bind (Q:=fun y=>y=wr .i64 (unZ (r.rest.take k))) ?_ fun y hy=> ?_
 ·have hn':(r.rest.take k).length<999999:=by omega
  refine gX hn' (fun i x=>x=wr .i64 (unZ ((r.rest.take k).take i))) _ (fun i x hi hj=> ?_) (fun x hj=> ?_) 0 0 (Nat.zero_le _) (by simp [unZ];rfl)
  ·simp only
   unfold um
   obtain⟨b1,b2⟩:=(hb.take k).get hi
   rw[Oy _ hi,bI _ i hi,ah,ajo _ _ b1 b2,hj,ari]
   refine⟨bG (by omega),?_⟩
   rw[List.take_succ_eq_append_getElem hi,afs]
  ·simp only
   unfold um
   rw[Hz,ah,hj,List.take_length]
 ·subst hy
  rw[bK,ah]
  simp [aN,itn]
theorem apj (l:List Int) (a:Int):l.foldl (fun n b=>n*256+b) a=a*256^l.length+unZ l:=by
 induction l generalizing a with
 |nil=>simp [unZ]
 |cons b l ih=>
  unfold unZ
  rw[List.foldl_cons,List.foldl_cons,ih,ih (0*256+b),List.length_cons,Int.pow_succ]
  simp only[Int.zero_mul,Int.zero_add,Int.add_mul]
  rw[Int.mul_assoc,Int.mul_comm 256];omega
theorem afp (b:Int) (l:List Int):unZ (b::l)=b*256^l.length+unZ l:=by
 have:=apj l (0*256+b)
 unfold unZ at*
 rw[List.foldl_cons,this];simp
theorem aeY:∀ {l:List Int},gm l->0<=unZ l/\unZ l<256^l.length
 |[],_=>by simp [unZ]
 |b::l,h=>by
  obtain⟨h1,h2⟩:=aeY (l:=l) fun x hx=>h x (by simp [hx])
  obtain⟨b1,b2⟩:=h b (by simp)
  rw[afp,List.length_cons,Int.pow_succ]
  have hp:(0:Int)<256^l.length:=Int.pow_pos (by decide)
  have q1:0<=b*256^l.length:=Int.mul_nonneg b1 (by omega)
  have q2:b*256^l.length<=255*256^l.length:=Int.mul_le_mul_of_nonneg_right b2 (by omega)
  exact⟨by omega,by omega⟩
theorem agT {m:Int}:∀(k:Nat) (n q:Int),m=n+q*256^k->wL m k=wL n k
 |0,_,_,_=>rfl
 |k+1,n,q,h=>by
  rw[Int.pow_succ]at h
  have hp:(256:Int)^k≠0:=by have:(0:Int)<256^k:=Int.pow_pos (by decide);omega
  have e:m=n+q*256*256^k:=by
   rw[h,<-Int.mul_assoc,Int.mul_assoc q,Int.mul_comm _ 256,<-Int.mul_assoc]
  rw[wL,wL,agT k n (q*256) e,e,Int.add_mul_ediv_right _ _ hp,Int.mul_comm q 256,Int.add_mul_emod_self_left]
theorem anG:∀ {l:List Int},gm l->wL (unZ l) l.length=l
 |[],_=>rfl
 |b::l,h=>by
  have hl:gm l:=fun x hx=>h x (by simp [hx])
  obtain⟨h1,h2⟩:=aeY hl
  obtain⟨b1,b2⟩:=h b (by simp)
  have hp:(256:Int)^l.length≠0:=by have:(0:Int)<256^l.length:=Int.pow_pos (by decide);omega
  rw[List.length_cons,wL,agT l.length (unZ l) b (by rw[afp,Int.add_comm]),anG hl,afp,Int.add_comm,Int.add_mul_ediv_right _ _ hp,Int.ediv_eq_zero_of_lt h1 h2]
  congr 1
  omega
theorem atY (n:Int):∃q,wr .i64 n=n+q*256^8:=by
 have:(256:Int)^8=18446744073709551616:=by decide
 rw[this]
 unfold wr IntKind.wrap
 simp [IntKind.bits,IntKind.signed]
 exact⟨-((n+9223372036854775808) / 18446744073709551616),by omega⟩
theorem auk (n:Int):wL (wr .i64 n) 8=wL n 8:=by
 obtain⟨q,h⟩:=atY n
 exact agT 8 n q h
theorem aqf {l:List Int} (h:gm l) (hl:l.length=8):wL (wr .i64 (unZ l)) 8=l:=by
 rw[auk,<-hl,anG h]
abbrev B32:=BitVec 32
def hB (x:B32):B32:=(x >>> 1) ^^^ (if x.getLsbD 0 then 0xedb88320#32 else 0#32)
def hN:Nat->B32->B32
 |0,x=>x
 |n+1,x=>hN n (hB x)
theorem auT (x y:B32):hB (x ^^^ y)=hB x ^^^ hB y:=by
 unfold hB
 rw[BitVec.ushiftRight_xor_distrib,BitVec.getLsbD_xor]
 cases x.getLsbD 0<;>cases y.getLsbD 0<;>simp [BitVec.xor_assoc]
 ·rw[BitVec.xor_comm (y >>> 1)]
 ·rw[<-BitVec.xor_assoc (3988292384#32),BitVec.xor_comm (3988292384#32) (y >>> 1),BitVec.xor_assoc];simp
theorem arK:∀(n:Nat) (x y:B32),hN n (x ^^^ y)=hN n x ^^^ hN n y
 |0,_,_=>rfl
 |n+1,x,y=>by rw[hN,hN,hN,auT,arK n]
theorem auO {y:B32} (h:y.getLsbD 31=false):hB (y <<< 1)=y:=by
 unfold hB
 have h0:(y <<< 1).getLsbD 0=false:=by simp
 rw[h0]
 refine BitVec.eq_of_getLsbD_eq fun i hi=> ?_
 simp only[BitVec.getLsbD_xor,BitVec.getLsbD_ushiftRight,BitVec.getLsbD_shiftLeft]
 by_cases h31:i=31
 ·subst h31
  have:y[31]=false:=by simpa using h
  simp [this]
 ·have:1+i<32:=by omega
  simp [this]
theorem apZ:∀(k:Nat) (y:B32),k<=32->(∀j,32 - k<=j->y.getLsbD j=false)->hN k (y <<< k)=y
 |0,y,_,_=>by simp [hN]
 |k+1,y,hk,h=>by
  have e:y <<< (k+1)=(y <<< k) <<< 1:=by rw[BitVec.shiftLeft_add]
  rw[hN,e,auO,apZ k y (by omega) fun j hj=>h j (by omega)]
  rw[BitVec.getLsbD_shiftLeft,h (31 - k) (by omega)]
  simp
theorem agJ:∀(a b:Nat) (x:B32),hN (a+b) x=hN b (hN a x)
 |0,b,x=>by rw[Nat.zero_add];rfl
 |a+1,b,x=>by rw[Nat.add_right_comm,hN,hN,agJ a]
theorem asP (x:B32):hN 4 (x &&& 15#32) ^^^ (x >>> 4)=hN 4 x:=by
 have hs:=apZ 4 (x >>> 4) (by decide) fun j hj=>by
  rw[BitVec.getLsbD_ushiftRight];exact BitVec.getLsbD_of_ge _ _ (by omega)
 have e:x=(x &&& 15#32) ^^^ ((x >>> 4) <<< 4):=by
  refine BitVec.eq_of_getLsbD_eq fun i hi=> ?_
  simp only[BitVec.getLsbD_xor,BitVec.getLsbD_and,BitVec.getLsbD_shiftLeft,BitVec.getLsbD_ushiftRight]
  by_cases h4:i<4
  ·have h15:(15#32).getLsbD i=true:=by
    have:i=0\/i=1\/i=2\/i=3:=by omega
    rcases this with rfl | rfl | rfl | rfl<;>rfl
   rw[h15]
   simp [h4]
  ·have h15:(15#32).getLsbD i=false:=by
    have:(15#32)=BitVec.ofNat 32 15:=rfl
    rw[this,BitVec.getLsbD_ofNat]
    have:Nat.testBit 15 i=false:=Nat.testBit_lt_two_pow (Nat.lt_of_lt_of_le (by decide:15<2^4) (Nat.pow_le_pow_right (by decide) (by omega)))
    simp [this]
   have:4+(i - 4)=i:=by omega
   rw[h15,this]
   simp [h4,hi]
 conv=>rhs;rw[e,arK,hs]
def ofB (b:Int):B32:=BitVec.ofInt 32 b
def toI (x:B32):Int:=(x.toNat:Int)
theorem abv (x:B32):0<=toI x/\toI x<4294967296:=by
 have:=x.isLt
 unfold toI
 omega
theorem ae6 (x:B32):ofB (toI x)=x:=by
 apply BitVec.eq_of_toNat_eq
 unfold ofB toI
 rw[BitVec.toNat_ofInt]
 have:=x.isLt
 omega
theorem atd {b:Int} (h1:0<=b) (h2:b<4294967296):toI (ofB b)=b:=by
 unfold ofB toI
 rw[BitVec.toNat_ofInt]
 omega
theorem aqa (x:B32):wr .u32 (toI x)=toI x:=by
 have:=abv x
 rw[aa4];omega
theorem SB (x y:B32):wr .u32 (iG .u32 (toI x) (toI y))=toI (x ^^^ y):=by
 have:iG .u32 (toI x) (toI y)=toI (x ^^^ y):=by
  show((BitVec.ofInt 32 (toI x) ^^^ BitVec.ofInt 32 (toI y)).toNat:Int)=_
  have h1:=ae6 x
  have h2:=ae6 y
  unfold ofB at h1 h2
  rw[h1,h2];rfl
 rw[this,aqa]
theorem akD (x y:B32):wr .u32 (kL .u32 (toI x) (toI y))=toI (x &&& y):=by
 have:kL .u32 (toI x) (toI y)=toI (x &&& y):=by
  show((BitVec.ofInt 32 (toI x) &&& BitVec.ofInt 32 (toI y)).toNat:Int)=_
  have h1:=ae6 x
  have h2:=ae6 y
  unfold ofB at h1 h2
  rw[h1,h2];rfl
 rw[this,aqa]
theorem anQ (x:B32) (k:Nat) (hk:k<=32):dN .u32 (toI x) (k:Int)=toI (x >>> k):=by
 unfold dN toI
 have:min ((k:Int).toNat) (IntKind.bits .u32)=k:=by simp only[IntKind.bits,Int.toNat_natCast];omega
 rw[this,Int.fdiv_eq_ediv_of_nonneg _ (Int.le_of_lt (Int.pow_pos (by decide))),BitVec.toNat_ushiftRight,Nat.shiftRight_eq_div_pow]
 simp
theorem afg {b:Int} (h1:0<=b) (h2:b<=255):wr .u32 b=toI (ofB b):=by
 rw[atd h1 (by omega),aa4];omega
theorem aty (x:B32):(toI x%2=1)↔x.getLsbD 0=true:=by
 unfold toI
 rw[BitVec.getLsbD,Nat.testBit_zero]
 simp only[decide_eq_true_eq]
 omega
theorem V8 (x:B32):dM (toI x)=some (toI (hN 4 x)):=by
 refine Wq.eq ?_
 unfold dM
 refine Wq.bind (Q:=fun y=>y=toI (hN 4 x)) ?_ fun y hy=>(ah _).2 hy
 refine gX (n:=4) (by decide) (fun i v=>v=toI (hN i x)) _ (fun i v hi hj=> ?_) (fun v hj=> ?_) _ 0 (by decide) rfl
 ·subst hj
  simp only
  unfold F6
  rw[aB (nD (by omega))]
  have e1:(1:Int)=toI 1#32:=rfl
  have e15:(3988292384:Int)=toI 3988292384#32:=rfl
  have e2:dN .u32 (toI (hN i x)) 1=toI (hN i x >>> 1):=anQ _ 1 (by decide)
  rw[e2,e15,SB]
  have hb:wr .u32 (kL .u32 (toI (hN i x)) 1)=toI (hN i x &&& 1#32):=by conv=>lhs;rw[e1,akD]
  rw[hb,agJ i 1]
  have hl:(ieq (toI (hN i x &&& 1#32)) 1=true)↔(hN i x).getLsbD 0=true:=by
   rw[aZ,<-aty]
   unfold toI
   have:(hN i x &&& 1#32).toNat=(hN i x).toNat%2:=by
    rw[BitVec.toNat_and]
    exact Nat.and_two_pow_sub_one_eq_mod _ 1
   rw[this];omega
  cases hc:ieq (toI (hN i x &&& 1#32)) 1 with
  |true=>
   rw[bK,ah]
   refine⟨bG (by omega),?_⟩
   show _=toI (hB (hN i x))
   unfold hB
   rw[if_pos (hl.1 hc)]
  |false=>
   rw[bW,ah]
   refine⟨bG (by omega),?_⟩
   show _=toI (hB (hN i x))
   unfold hB
   rw[if_neg (fun h=>by rw[hl.2 h]at hc;cases hc),BitVec.xor_zero]
 ·subst hj
  simp only
  unfold F6
  rw[dH (qm (by omega)),ah]
def ones:B32:=BitVec.allOnes 32
def acR (n:B32) (l:List Int):B32:=l.foldl (fun n b=>hN 8 (n ^^^ ofB b)) n
def xU (l:List Int):Int:=toI (ones ^^^ acR ones l)
theorem alI (n:B32) (a b:List Int):acR n (a++b)=acR (acR n a) b:=List.foldl_append
theorem aiC {l:List Int} (hl:l.length<999999) (hb:gm l):Pv l=some (xU l):=by
 refine Wq.eq ?_
 unfold Pv Vq
 have e0:(4294967295:Int)=toI ones:=rfl
 have e00:(0:Int)=toI 0#32:=rfl
 have e15:(15:Int)=toI 15#32:=rfl
 refine Wq.bind (Q:=fun y=>y=xU l) (Wq.bind (Q:=fun y=>y=toI (acR ones l)) ?_ fun y hy=> ?_) fun y hy=>(ah _).2 hy
 ·have hi0:wr .u32 (iG .u32 4294967295 0)=toI ones:=by
   conv=>lhs;rw[e0,e00,SB]
   simp
  rw[hi0]
  refine gX hl (fun i v=>v=toI (acR ones (l.take i))) _ (fun i v hi hj=> ?_) (fun v hj=> ?_) _ 0 (Nat.zero_le _) rfl
  ·subst hj
   simp only
   unfold Gm
   obtain⟨b1,b2⟩:=hb.get hi
   have e4:∀x:B32,dN .u32 (toI x) 4=toI (x >>> 4):=fun x=>anQ x 4 (by decide)
   rw[Oy l hi,bI l i hi,afg b1 b2,SB,e15,akD,V8,ak,e4,SB,asP,akD,V8,ak,e4,SB,asP,ah]
   refine⟨bG (by omega),?_⟩
   rw[List.take_succ_eq_append_getElem hi,alI,<-agJ]
   rfl
  ·subst hj
   simp only
   unfold Gm
   rw[Hz,ah,List.take_length]
 ·subst hy
  rw[ah]
  conv=>lhs;rw[e0,SB]
  rfl
theorem Zn {l:List Int} (hl:l.length<999999) (hb:gm l):lV l=some (xU l):=by
 refine Wq.eq ?_
 unfold lV xZ
 have e0:(4294967295:Int)=toI ones:=rfl
 have e00:(0:Int)=toI 0#32:=rfl
 have e15:(3988292384:Int)=toI 3988292384#32:=rfl
 refine Wq.bind (Q:=fun y=>y=xU l) (Wq.bind (Q:=fun y=>y=toI (acR ones l)) ?_ fun y hy=> ?_) fun y hy=>(ah _).2 hy
 ·have hi0:wr .u32 (iG .u32 0 4294967295)=toI ones:=by
   conv=>lhs;rw[e0,e00,SB]
   simp
  rw[hi0]
  refine gX hl (fun i v=>v=toI (acR ones (l.take i))) _ (fun i v hi hj=> ?_) (fun v hj=> ?_) _ 0 (Nat.zero_le _) rfl
  ·subst hj
   simp only
   unfold qp
   obtain⟨b1,b2⟩:=hb.get hi
   rw[Oy l hi,bI l i hi,afg b1 b2,SB]
   generalize hz:acR ones (l.take i) ^^^ ofB l[i]=z
   refine Wq.bind (Q:=fun y=>y=toI (hN 8 z)) ?_ fun y hy=> ?_
   ·refine gX (n:=8) (by decide) (fun i v=>v=toI (hN i z)) _ (fun i v hi hj=> ?_) (fun v hj=> ?_) _ 0 (by decide) rfl
    ·subst hj
     simp only
     unfold ou
     rw[aB (nD (by omega)),agJ i 1]
     have r0:=abv (hN i z)
     have q1:wr .u32 (JA (toI (hN i z)) 2)=toI (hN i z >>> 1):=by
      rw[<-anQ _ 1 (by decide)]
      unfold JA dN
      rw[Int.tdiv_eq_ediv_of_nonneg r0.1,aa4,Int.fdiv_eq_ediv_of_nonneg _ (by decide)]
      show _=toI (hN i z) / 2^1
      omega
     have hl:(ieq (vI (toI (hN i z)) 2) 1=true)↔(hN i z).getLsbD 0=true:=by
      rw[aZ,<-aty]
      unfold vI
      rw[Int.tmod_eq_emod_of_nonneg r0.1]
     rw[q1,e15,SB]
     cases hc:ieq (vI (toI (hN i z)) 2) 1 with
     |true=>
      rw[bK,ah]
      refine⟨bG (by omega),?_⟩
      show _=toI (hB (hN i z))
      unfold hB
      rw[if_pos (hl.1 hc)]
     |false=>
      rw[bW,ah]
      refine⟨bG (by omega),?_⟩
      show _=toI (hB (hN i z))
      unfold hB
      rw[if_neg (fun h=>by rw[hl.2 h]at hc;cases hc),BitVec.xor_zero]
    ·subst hj
     simp only
     unfold ou
     rw[dH (qm (by omega)),ah]
   ·subst hy
    rw[ah]
    refine⟨bG (by omega),?_⟩
    rw[List.take_succ_eq_append_getElem hi,alI,<-hz]
    rfl
  ·subst hj
   simp only
   unfold qp
   rw[Hz,ah,List.take_length]
 ·subst hy
  rw[ah]
  conv=>lhs;rw[e0,SB,BitVec.xor_comm]
  rfl
def pz (n:Int):List Int:=[n%256,n / 256%256,n / 65536%256,n / 16777216%256]
theorem amR (n:Int):gm (pz n):=fun x hx=>by
 unfold pz at hx
 simp only[List.mem_cons,List.not_mem_nil,or_false]at hx
 rcases hx with rfl | rfl | rfl | rfl<;>omega
def akl (b:Bool):Int:=if b then 1 else 0
theorem aiB (b:Bool):UG b=some (akl b):=by cases b<;>rfl
def p8 (l:List Int):List Int:=l.flatMap fun n=>wL n 8
def p1 (l:List Int):List Int:=l.flatMap fun n=>wL n 1
theorem flat_length {α β:Type} {f:α->List β} {m:Nat} (h:∀x,(f x).length=m):∀l:List α,(l.flatMap f).length=m*l.length
 |[]=>rfl
 |x::l=>by rw[List.flatMap_cons,List.length_append,h,flat_length h l,List.length_cons,Nat.mul_add,Nat.mul_one,Nat.add_comm]
theorem tY (l:List Int):(p8 l).length=8*l.length:=flat_length (fun x=>JR x 8) l
theorem QE (l:List Int):(p1 l).length=1*l.length:=flat_length (fun x=>JR x 1) l
theorem Y9 (l:List Int):gm (p8 l):=QD fun x _=>UA x 8
theorem ajP (l:List Int):gm (p1 l):=QD fun x _=>UA x 1
def xK (o:aJ):List Int:=p8 [o.id]++(p1 [o.account,o.symbol,o.side,o.phase]++(p8 [o.qty,o.price,o.filled,o.newQty,o.newPrice,o.version]++p1 [akl o.asked]))
def Ov (c:aK):List Int:=p8 [c.pos]
def aeH (l:dL):List Int:=p8 [l.long,l.short,l.opn]
def magic:List Int:=[115,110,97,102]
def headB (s:ax):List Int:=magic++(p1 [s.accounts,s.symbols,akl s.kill,len s.orders]++p8 [s.last,s.seq,s.lsn])
def Ez (s:ax):List Int:=headB s++(s.orders.flatMap xK++(s.cells.flatMap Ov++(s.limits.flatMap aeH++p8 s.caps)))
def encZ (s:ax):List Int:=Ez s++pz (xU (Ez s))
theorem Hu (o:aJ):(xK o).length=61:=by simp [xK,tY,QE]
theorem Ud (c:aK):(Ov c).length=8:=by simp [Ov,tY]
theorem agh (c:dL):(aeH c).length=24:=by simp [aeH,tY]
theorem acS (s:ax):(headB s).length=32:=by simp [headB,magic,tY,QE]
theorem adE (s:ax):(Ez s).length=32+61*s.orders.length+8*s.cells.length+24*s.limits.length+8*s.caps.length:=by
 simp only[Ez,List.length_append,acS,flat_length Hu,flat_length Ud,flat_length agh,tY]
 omega
theorem abV (s:ax):(encZ s).length=36+61*s.orders.length+8*s.cells.length+24*s.limits.length+8*s.caps.length:=by
 simp only[encZ,List.length_append,adE,pz,List.length_cons,List.length_nil]
 omega
theorem aaR:gm magic:=fun x hx=>by
 simp only[magic,List.mem_cons,List.not_mem_nil,or_false]at hx
 rcases hx with rfl | rfl | rfl | rfl<;>decide
theorem alL (o:aJ):gm (xK o):=(Y9 _).app ((ajP _).app ((Y9 _).app (ajP _)))
theorem aau (s:ax):gm (Ez s):=
 (aaR.app ((ajP _).app (Y9 _))).app ((QD fun o _=>alL o).app ((QD fun c _=>Y9 _).app ((QD fun c _=>Y9 _).app (Y9 _))))
theorem Y6 (s:ax):gm (encZ s):=(aau s).app (amR _)
theorem aoT {acc l:List Int} (h:acc.length+8*l.length<1000000):mD acc 8 l=some (acc++p8 l):=akA 8 (by decide) (by decide) h
theorem atG {acc l:List Int} (h:acc.length+8*l.length<1000000):uS acc 1 l=some (acc++p1 l):=aiw 1 (by decide) (by decide) h
theorem zY.few {s:ax} (h:zY s):s.orders.length<=64/\s.cells.length<=64/\s.limits.length=s.cells.length/\s.caps.length=s.accounts.toNat/\s.accounts.toNat<=8/\(s.cells.length:Int)=s.accounts*s.symbols/\(1<=s.accounts/\s.accounts<=8)/\(1<=s.symbols/\s.symbols<=8):=by
 obtain⟨h1,h2,h3,h4⟩:=h.sized.lens
 have:=h.sized.1
 exact⟨h4,h1,h2,h3,by omega,h.sized.2.2.1,this,h.sized.2.1⟩
theorem afJ {a b n:Int} (ha:1<=a/\a<=8) (hb:1<=b/\b<=8) (hn:0<=n/\n<=255):KU a b n=some (36+n*61+a*b*32+a*8):=by
 unfold KU aj dY
 have m:=vJ (a:=a) (b:=b) (by omega) (by omega) (by omega) (by omega)
 rw[bY (n:=n*61) (by omega) (by omega),bY (n:=32+n*61) (by omega) (by omega),bY (n:=a*b) (by omega) (by omega),bY (n:=a*b*32) (by omega) (by omega),bY (n:=32+n*61+a*b*32) (by omega) (by omega),bY (n:=a*8) (by omega) (by omega),bY (n:=32+n*61+a*b*32+a*8) (by omega) (by omega),bY (by omega) (by omega)]
 congr 1;omega
theorem ams {s:ax} (hr:yK s) (hsh:BU s) (h:zY s):Hr s=some (len (encZ s)):=by
 refine Wq.eq ?_
 unfold Hr
 refine(VE s hr hsh.1 hsh.2.2.1 hsh.2.2.2).bind fun b hb=> ?_
 obtain⟨f1,f2,f3,f4,f5,f6,f7,f8⟩:=h.few
 rw[hb.2 h,dD,bW,afJ f7 f8 (by unfold len;omega),ak,ah]
 unfold len
 rw[abV,<-f6]
 omega
theorem afb {s:ax} (hr:yK s) (hsh:BU s) (h:¬zY s):Hr s=some 0:=by
 refine Wq.eq ?_
 unfold Hr
 refine(VE s hr hsh.1 hsh.2.2.1 hsh.2.2.2).bind fun b hb=> ?_
 have:b=false:=by cases b with
  |false=>rfl
  |true=>exact absurd (hb.1 rfl) h
 subst this
 rw[dA,bK,ah]
theorem acP {n:Int} {i:Nat} (hi:i<4):ile 0 (wr .i64 (dY 8 (i:Int)))=true/\wr .u8 (dN .u32 n (wr .i64 (dY 8 (i:Int))))=n / 256^i%256:=by
 have h1:wr .i64 (dY 8 (i:Int))=((8*i:Nat):Int):=by
  unfold dY
  rw[bY (by omega) (by omega)];omega
 have h2:min (((8*i:Nat):Int).toNat) (IntKind.bits .u32)=8*i:=by
  simp only[IntKind.bits,Int.toNat_natCast];omega
 rw[h1]
 refine⟨jd (by omega),?_⟩
 unfold dN
 rw[h2,Int.pow_mul,Ul,Int.fdiv_eq_ediv_of_nonneg _ (Int.le_of_lt (Int.pow_pos (by decide)))]
 rfl
theorem abU (n:Int) {i:Nat} (hi:i<4):(pz n)[i]'(by simpa [pz] using hi)=n / 256^i%256:=by
 have:i=0\/i=1\/i=2\/i=3:=by omega
 rcases this with rfl | rfl | rfl | rfl
 ·have:(256:Int)^0=1:=rfl
  simp only[pz,this,List.getElem_cons_zero];omega
 ·rfl
 ·rfl
 ·rfl
theorem adq (n:Int) {i:Nat} (hi:i<4) (acc:List Int):acc++(pz n).take i++[n / 256^i%256]=acc++(pz n).take (i+1):=by
 rw[List.take_succ_eq_append_getElem (by simpa [pz] using hi),abU n hi,List.append_assoc]
theorem ajC {s:ax} (hr:yK s) (hsh:BU s) (h:zY s):wQ s=some (encZ s,0):=by
 refine Wq.eq ?_
 obtain⟨f1,f2,f3,f4,f5,f6,f7,f8⟩:=h.few
 have hel:=abV s
 unfold wQ
 have hz:ieq (len (encZ s)) 0=false:=by rw[bC];unfold len;omega
 have hm:dB (jR Int 0) (s2u [UInt8.ofNat 115,UInt8.ofNat 110,UInt8.ofNat 97,UInt8.ofNat 102])=magic:=by decide
 rw[ams hr hsh h,ak,hz,bW,aB (Fb (jd (by unfold len;omega)) (jd (by unfold len;omega))),aiB,ak,hm,atG (by simp [magic]),ak,
  aoT (by simp [magic,QE]),ak]
 have hhead:magic++p1 [s.accounts,s.symbols,akl s.kill,len s.orders]++p8 [s.last,s.seq,s.lsn]=headB s:=by rw[headB,List.append_assoc]
 rw[hhead]
 have hl0:=acS s
 refine Wq.bind (Q:=fun y=>y=headB s++s.orders.flatMap xK) ?_ fun y hy=> ?_
 ·refine gX (n:=s.orders.length) (by omega) (fun i x=>x=headB s++(s.orders.take i).flatMap xK) _ (fun i x hi hj=> ?_) (fun x hj=> ?_) _ 0 (Nat.zero_le _) (by simp)
  ·simp only
   unfold wO
   have hx:x.length=32+61*i:=by
    rw[hj,List.length_append,hl0,flat_length Hu,List.length_take];omega
   rw[Oy s.orders hi,bI _ i hi,aoT (by simp;omega),ak,atG (by simp [tY];omega),ak,aoT (by simp [tY,QE];omega),ak,aiB,ak,atG (by simp [tY,QE];omega),ak,ah]
   refine⟨bG (by omega),?_⟩
   rw[List.take_succ_eq_append_getElem hi,List.flatMap_append,hj]
   simp [xK]
  ·simp only
   unfold wO
   rw[Hz,ah,hj,List.take_length]
 subst hy
 refine Wq.bind (Q:=fun y=>y=headB s++s.orders.flatMap xK++s.cells.flatMap Ov) ?_ fun y hy=> ?_
 ·refine gX (n:=s.cells.length) (by omega) (fun i x=>x=headB s++s.orders.flatMap xK++(s.cells.take i).flatMap Ov) _ (fun i x hi hj=> ?_) (fun x hj=> ?_) _ 0 (Nat.zero_le _) (by simp)
  ·simp only
   unfold wM
   have hx:x.length=32+61*s.orders.length+8*i:=by
    rw[hj,List.length_append,List.length_append,hl0,flat_length Hu,flat_length Ud,List.length_take];omega
   rw[Oy s.cells hi,bI _ i hi,aoT (by simp;omega),ak,ah]
   refine⟨bG (by omega),?_⟩
   rw[List.take_succ_eq_append_getElem hi,List.flatMap_append,hj]
   simp [Ov]
  ·simp only
   unfold wM
   rw[Hz,ah,hj,List.take_length]
 subst hy
 refine Wq.bind (Q:=fun y=>y=headB s++s.orders.flatMap xK++s.cells.flatMap Ov++s.limits.flatMap aeH) ?_ fun y hy=> ?_
 ·refine gX (n:=s.limits.length) (by omega) (fun i x=>x=headB s++s.orders.flatMap xK++s.cells.flatMap Ov++(s.limits.take i).flatMap aeH) _ (fun i x hi hj=> ?_) (fun x hj=> ?_) _ 0 (Nat.zero_le _) (by simp)
  ·simp only
   unfold wV
   have hx:x.length=32+61*s.orders.length+8*s.cells.length+24*i:=by
    rw[hj,List.length_append,List.length_append,List.length_append,hl0,flat_length Hu,flat_length Ud,flat_length agh,List.length_take];omega
   rw[Oy s.limits hi,bI _ i hi,aoT (by simp;omega),ak,ah]
   refine⟨bG (by omega),?_⟩
   rw[List.take_succ_eq_append_getElem hi,List.flatMap_append,hj]
   simp [aeH]
  ·simp only
   unfold wV
   rw[Hz,ah,hj,List.take_length]
 subst hy
 have hbl:=adE s
 have hb:headB s++s.orders.flatMap xK++s.cells.flatMap Ov++s.limits.flatMap aeH++p8 s.caps=Ez s:=by simp [Ez]
 rw[aoT (by
  have:=congrArg List.length hb
  rw[List.length_append,tY]at this
  omega),ak,hb,aiC (by omega) (aau s),ak]
 refine Wq.bind (Q:=fun y=>y=encZ s) ?_ fun y hy=>by rw[ah,hy]
 refine gX (n:=4) (by decide) (fun i x=>x=Ez s++(pz (xU (Ez s))).take i) _ (fun i x hi hj=> ?_) (fun x hj=> ?_) _ 0 (by decide) (by simp)
 ·simp only
  unfold vz
  obtain⟨q1,q2⟩:=acP (n:=xU (Ez s)) hi
  have hx:x.length<=(Ez s).length+4:=by
   rw[hj,List.length_append,List.length_take];omega
  rw[aB (nD (by omega)),aB q1,q2,aB (vX (n:=1000000) (by simp [dB];omega) (by decide)),ah]
  refine⟨bG (by omega),?_⟩
  rw[hj]
  exact adq _ hi _
 ·simp only
  unfold vz
  rw[dH (qm (by omega)),ah,hj]
  rfl
theorem acE {s:ax} (hr:yK s) (hsh:BU s) (h:¬zY s):wQ s=some ([],1):=by
 unfold wQ
 rw[afb hr hsh h,ak]
 rfl
theorem aqS (n:Int) {j:Nat} (hj:j<8):n%18446744073709551616 / 256^j%256=n / 256^j%256:=by
 have:j=0\/j=1\/j=2\/j=3\/j=4\/j=5\/j=6\/j=7:=by omega
 rcases this with rfl | rfl | rfl | rfl | rfl | rfl | rfl | rfl
 ·rw[show(256:Int)^0=1 by decide];omega
 ·rw[show(256:Int)^1=256 by decide];omega
 ·rw[show(256:Int)^2=65536 by decide];omega
 ·rw[show(256:Int)^3=16777216 by decide];omega
 ·rw[show(256:Int)^4=4294967296 by decide];omega
 ·rw[show(256:Int)^5=1099511627776 by decide];omega
 ·rw[show(256:Int)^6=281474976710656 by decide];omega
 ·rw[show(256:Int)^7=72057594037927936 by decide];omega
theorem atz {n:Int} {k:Nat} (h0:0<k) (hk:k<=8):dQ n (k:Int)=some (wL n k):=by
 refine Wq.eq ?_
 unfold dQ
 rw[aB (Fb (Fb (jd (by omega)) (jd (by omega))) (jd (by omega))),ab7 (by omega),qh]
 refine Wq.bind (Q:=fun y=>y=wL n k) ?_ fun y hy=>(ah _).2 hy
 refine amO (step:=fun v:Int×Int×List Int=>mO v.1 v.2.1 v.2.2) (n:=k) (by omega) (fun i x=>i<=k/\x.1=n%18446744073709551616 / 256^(k - i)/\x.2=List.replicate i 0++wL n (k - i)) _ (fun i x hi hj=> ?_) (fun x hj=> ?_) _ ⟨Nat.le_refl _,?_,?_⟩
 ·obtain⟨u,out⟩:=x
  obtain⟨h1,h2,h3⟩:=hj
  simp only at h2 h3 ⊢
  unfold mO
  have hol:out.length=k:=by rw[h3,List.length_append,List.length_replicate,JR];omega
  have hp:(0:Int)<256^(k - (i+1)):=Int.pow_pos (by decide)
  have hu:0<=u/\u<18446744073709551616:=by
   have q1:0<=n%18446744073709551616:=by omega
   rw[h2]
   refine⟨Int.ediv_nonneg q1 (by omega),?_⟩
   have:=Int.ediv_le_self (256^(k - (i+1))) q1
   omega
  rw[aB (jd (by omega)),aB (inb out i (by omega)),ah]
  have e:k - i=(k - (i+1))+1:=by omega
  have e2:wr .u8 (vI u 256)=n / 256^(k - (i+1))%256:=by
   unfold vI
   rw[Int.tmod_eq_emod_of_nonneg hu.1,Ul,Int.emod_emod,h2]
   exact aqS n (by omega)
  refine⟨ab7 (by omega),by omega,?_,?_⟩
  ·show wr .u64 (JA u 256)=_
   unfold JA
   rw[Int.tdiv_eq_ediv_of_nonneg hu.1,uh,Int.emod_eq_of_lt (by omega) (by omega),h2,e,Int.pow_succ]
   exact Int.ediv_ediv_of_nonneg (by omega)
  ·show bT out (itn (i:Int)) _=_
   rw[e2,h3,e,qh]
   unfold bT
   rw[List.set_append,if_pos (by simp),List.replicate_succ',List.set_append,if_neg (by simp)]
   simp [wL]
 ·obtain⟨u,out⟩:=x
  obtain⟨h1,h2,h3⟩:=hj
  simp only at h2 h3 ⊢
  unfold mO
  rw[dH (ahJ (by omega)),ah,h3]
  rfl
 ·simp only[Nat.sub_self]
  rw[uh]
  have:(256:Int)^0=1:=rfl
  rw[this];omega
 ·simp [jR,wL]
theorem TG (n:Int):dQ n 8=some (p8 [n]):=by
 have:=atz (n:=n) (k:=8) (by decide) (by decide)
 rw[show(8:Int)=((8:Nat):Int)from rfl,this];simp [p8]
theorem aqb (n:Int):dQ n 1=some (p1 [n]):=by
 have:=atz (n:=n) (k:=1) (by decide) (by decide)
 rw[show(1:Int)=((1:Nat):Int)from rfl,this];simp [p1]
theorem aqh (b:Bool):uq b=some (akl b):=by cases b<;>rfl
theorem ann (n:Int) (l:List Int):p8 (n::l)=p8 [n]++p8 l:=by simp [p8]
theorem ajU (n:Int) (l:List Int):p1 (n::l)=p1 [n]++p1 l:=by simp [p1]
theorem apJ (a b:List Int):p8 (a++b)=p8 a++p8 b:=by simp [p8]
theorem auz (a b:List Int):p1 (a++b)=p1 a++p1 b:=by simp [p1]
theorem ajA (n:Int):p1 [n]=[wr .u8 n]:=by
 rw[Ul]
 show [n / 256^0%256]=_
 have:(256:Int)^0=1:=rfl
 rw[this]
 congr 1
 omega
theorem avr (a b c:Int):p8 [a,b,c]=p8 [a]++(p8 [b]++p8 [c]):=by rw[ann,ann b]
theorem avO (a b c d:Int):p1 [a,b,c,d]=[wr .u8 a,wr .u8 b,wr .u8 c,wr .u8 d]:=by
 rw[ajU,ajU b,ajU c,ajA,ajA,ajA,ajA];rfl
theorem Ve (a b:List Int):dB a b=a++b:=rfl
theorem aqx {s:ax} (h:zY s):nX s=some (encZ s):=by
 refine Wq.eq ?_
 obtain⟨f1,f2,f3,f4,f5,f6,f7,f8⟩:=h.few
 unfold nX
 rw[aqh,ak]
 refine Wq.bind (Q:=fun y=>y=magic++p1 [s.accounts,s.symbols,akl s.kill,len s.orders]) ?_ fun y hy=> ?_
 ·refine gX (n:=4) (by decide) (fun i x=>x=magic++p1 ([s.accounts,s.symbols,akl s.kill,len s.orders].take i)) _ (fun i x hi hj=> ?_) (fun x hj=> ?_) _ 0 (by decide) (by simp [p1,magic])
  ·simp only
   unfold nI
   have hx:x.length<=8:=by
    rw[hj,List.length_append,QE,List.length_take]
    simp only[magic,List.length_cons,List.length_nil];omega
   rw[aB (nD (by omega)),aB (inb _ i (by simpa using hi)),bI _ i (by simpa using hi),aqb,ak,aB (vX (n:=1000000) (by simp [dB,QE];omega) (by decide)),ah]
   refine⟨bG (by omega),?_⟩
   rw[List.take_succ_eq_append_getElem (by simpa using hi),auz,hj,Ve,List.append_assoc]
  ·simp only
   unfold nI
   rw[dH (qm (by omega)),ah,hj]
   rfl
 subst hy
 rw[TG,ak,aB (vX (n:=1000000) (by simp [dB,magic,tY,QE]) (by decide)),TG,ak,aB (vX (n:=1000000) (by simp [dB,magic,tY,QE]) (by decide)),TG,ak,aB (vX (n:=1000000) (by simp [dB,magic,tY,QE]) (by decide))]
 have hhead:dB (dB (dB (magic++p1 [s.accounts,s.symbols,akl s.kill,len s.orders]) (p8 [s.last])) (p8 [s.seq])) (p8 [s.lsn])=headB s:=by
  simp only[Ve,headB,avr,List.append_assoc]
 rw[hhead]
 have hl0:=acS s
 refine Wq.bind (Q:=fun y=>y.1=headB s++s.orders.flatMap xK) ?_ fun y hy=> ?_
 ·refine gX (step:=fun v:Int×List Int×List Int=>jT s v.1 v.2.1 v.2.2) (n:=s.orders.length) (by omega) (fun i x=>x.1=headB s++(s.orders.take i).flatMap xK) _ (fun i x hi hj=> ?_) (fun x hj=> ?_) _ 0 (Nat.zero_le _) (by simp)
  ·obtain⟨x,w⟩:=x
   simp only at hj ⊢
   unfold jT
   have hx:x.length=32+61*i:=by
    rw[hj,List.length_append,hl0,flat_length Hu,List.length_take];omega
   rw[Oy s.orders hi,bI _ i hi,TG,ak,aB (vX (n:=1000000) (by simp [dB,tY];omega) (by decide)),aB (vX (n:=1000000) (by simp [dB,tY];omega) (by decide))]
   obtain⟨acc,hacc⟩:∃acc,acc=dB (dB x (p8 [s.orders[i].id])) [wr .u8 s.orders[i].account,wr .u8 s.orders[i].symbol,wr .u8 s.orders[i].side,wr .u8 s.orders[i].phase]:=⟨_,rfl⟩
   rw[<-hacc]
   have hal:acc.length=x.length+12:=by rw[hacc];simp [dB,tY]
   refine Wq.bind (Q:=fun y=>y=acc++p8 [s.orders[i].qty,s.orders[i].price,s.orders[i].filled,s.orders[i].newQty,s.orders[i].newPrice,s.orders[i].version]) ?_ fun y hy=> ?_
   ·generalize hm:[s.orders[i].qty,s.orders[i].price,s.orders[i].filled,s.orders[i].newQty,s.orders[i].newPrice,s.orders[i].version]=m
    have hml:m.length=6:=by rw[<-hm];rfl
    refine gX (n:=6) (by decide) (fun k x=>x=acc++p8 (m.take k)) _ (fun k x hk hj=> ?_) (fun x hj=> ?_) _ 0 (by decide) (by simp [p8])
    ·simp only
     unfold jY
     have hx:x.length<=acc.length+48:=by
      rw[hj,List.length_append,tY,List.length_take];omega
     rw[aB (nD (by omega)),aB (inb m k (by omega)),bI m k (by omega),TG,ak,aB (vX (n:=1000000) (by simp [dB,tY];omega) (by decide)),ah]
     refine⟨bG (by omega),?_⟩
     rw[List.take_succ_eq_append_getElem (by omega),apJ,hj,Ve,List.append_assoc]
    ·simp only
     unfold jY
     rw[dH (qm (by omega)),ah,hj,List.take_of_length_le (by omega)]
   subst hy
   rw[aqh,ak,aqb,ak,aB (vX (n:=1000000) (by simp [dB,tY,QE];omega) (by decide)),ah]
   refine⟨bG (by omega),?_⟩
   show dB _ _=_
   rw[List.take_succ_eq_append_getElem hi,List.flatMap_append,hacc,hj]
   simp only[Ve,List.flatMap_cons,List.flatMap_nil,List.append_nil,xK,List.append_assoc,avO,List.cons_append,List.nil_append]
  ·obtain⟨x,w⟩:=x
   simp only at hj ⊢
   unfold jT
   rw[Hz,ah,hj,List.take_length]
 rw[hy]
 refine Wq.bind (Q:=fun y=>y=headB s++s.orders.flatMap xK++s.cells.flatMap Ov) ?_ fun y hy=> ?_
 ·refine gX (n:=s.cells.length) (by omega) (fun i x=>x=headB s++s.orders.flatMap xK++(s.cells.take i).flatMap Ov) _ (fun i x hi hj=> ?_) (fun x hj=> ?_) _ 0 (Nat.zero_le _) (by simp)
  ·simp only
   unfold mr
   have hx:x.length=32+61*s.orders.length+8*i:=by
    rw[hj,List.length_append,List.length_append,hl0,flat_length Hu,flat_length Ud,List.length_take];omega
   rw[Oy s.cells hi,bI _ i hi,TG,ak,aB (vX (n:=1000000) (by simp [dB,tY];omega) (by decide)),ah]
   refine⟨bG (by omega),?_⟩
   rw[List.take_succ_eq_append_getElem hi,List.flatMap_append,hj]
   simp [Ov,Ve]
  ·simp only
   unfold mr
   rw[Hz,ah,hj,List.take_length]
 subst hy
 refine Wq.bind (Q:=fun y=>y=headB s++s.orders.flatMap xK++s.cells.flatMap Ov++s.limits.flatMap aeH) ?_ fun y hy=> ?_
 ·refine gX (n:=s.limits.length) (by omega) (fun i x=>x=headB s++s.orders.flatMap xK++s.cells.flatMap Ov++(s.limits.take i).flatMap aeH) _ (fun i x hi hj=> ?_) (fun x hj=> ?_) _ 0 (Nat.zero_le _) (by simp)
  ·simp only
   unfold lY
   have hx:x.length=32+61*s.orders.length+8*s.cells.length+24*i:=by
    rw[hj,List.length_append,List.length_append,List.length_append,hl0,flat_length Hu,flat_length Ud,flat_length agh,List.length_take];omega
   have hib:=inb s.limits i hi
   rw[Oy s.limits hi,bI _ i hi,TG,ak,aB (vX (n:=1000000) (by simp [dB,tY];omega) (by decide)),aB hib,TG,ak,aB (vX (n:=1000000) (by simp [dB,tY];omega) (by decide)),aB hib,TG,ak,aB (vX (n:=1000000) (by simp [dB,tY];omega) (by decide)),ah]
   refine⟨bG (by omega),?_⟩
   rw[List.take_succ_eq_append_getElem hi,List.flatMap_append,hj]
   simp only[Ve,List.flatMap_cons,List.flatMap_nil,List.append_nil,aeH,avr,List.append_assoc]
  ·simp only
   unfold lY
   rw[Hz,ah,hj,List.take_length]
 subst hy
 have hbl:=adE s
 have hb:headB s++s.orders.flatMap xK++s.cells.flatMap Ov++s.limits.flatMap aeH++p8 s.caps=Ez s:=by simp [Ez]
 have hbl2:=congrArg List.length hb
 rw[List.length_append,tY]at hbl2
 refine Wq.bind (Q:=fun y=>y=Ez s) ?_ fun y hy=> ?_
 ·rw[<-hb]
  refine gX (n:=s.caps.length) (by omega) (fun i x=>x=headB s++s.orders.flatMap xK++s.cells.flatMap Ov++s.limits.flatMap aeH++p8 (s.caps.take i)) _ (fun i x hi hj=> ?_) (fun x hj=> ?_) _ 0 (Nat.zero_le _) (by simp [p8])
  ·simp only
   unfold lq
   have hx:x.length<=(Ez s).length:=by
    rw[hj,List.length_append,tY,List.length_take];omega
   rw[Oy s.caps hi,bI _ i hi,TG,ak,aB (vX (n:=1000000) (by simp [dB,tY];omega) (by decide)),ah]
   refine⟨bG (by omega),?_⟩
   rw[List.take_succ_eq_append_getElem hi,apJ,hj,Ve]
   simp only[List.append_assoc]
  ·simp only
   unfold lq
   rw[Hz,ah,hj,List.take_length]
 subst hy
 rw[Zn (by omega) (aau s),ak]
 refine Wq.bind (Q:=fun y=>y=encZ s) ?_ fun y hy=>by rw[ah,hy]
 have hcr:0<=xU (Ez s)/\xU (Ez s)<4294967296:=abv _
 refine gX (step:=fun v:Int×Int×List Int=>jE v.1 v.2.1 v.2.2) (n:=4) (by decide) (fun i x=>x.1=xU (Ez s) / 256^i/\x.2=Ez s++(pz (xU (Ez s))).take i) _ (fun i x hi hj=> ?_) (fun x hj=> ?_) _ 0 (by decide) ⟨by simp,by simp⟩
 ·obtain⟨u,x⟩:=x
  obtain⟨h1,h2⟩:=hj
  simp only at h1 h2 ⊢
  unfold jE
  have hp:(0:Int)<256^i:=Int.pow_pos (by decide)
  have hu:0<=u/\u<4294967296:=by
   rw[h1]
   exact⟨Int.ediv_nonneg hcr.1 (by omega),by have:=Int.ediv_le_self (256^i) hcr.1;omega⟩
  have hx:x.length<=(Ez s).length+4:=by
   rw[h2,List.length_append,List.length_take];omega
  have e2:wr .u8 (vI u 256)=xU (Ez s) / 256^i%256:=by
   unfold vI
   rw[Int.tmod_eq_emod_of_nonneg hu.1,Ul,Int.emod_emod,h1]
  rw[aB (nD (by omega)),e2,aB (vX (n:=1000000) (by simp [dB];omega) (by decide)),ah]
  refine⟨bG (by omega),?_,?_⟩
  ·show wr .u32 (JA u 256)=_
   unfold JA
   rw[Int.tdiv_eq_ediv_of_nonneg hu.1,aa4,Int.emod_eq_of_lt (by omega) (by omega),h1,Int.pow_succ]
   exact Int.ediv_ediv_of_nonneg (by omega)
  ·show dB _ _=_
   rw[h2]
   exact adq _ hi _
 ·obtain⟨u,x⟩:=x
  obtain⟨h1,h2⟩:=hj
  simp only at h1 h2 ⊢
  unfold jE
  rw[dH (qm (by omega)),ah,h2]
  rfl
def at8 (b:List Int) (i:Nat):Int:=wr .i64 (unZ ((b.drop i).take 8))
def at1 (b:List Int) (i:Nat):Int:=ai b i
theorem anV {b:List Int} {i:Nat} (h:i<b.length):at1 b i=b[i]:=by unfold at1 ai;rw[List.getD_eq_getElem?_getD,List.getElem?_eq_getElem h];rfl
theorem rU {b:List Int} (hb:gm b) (i:Nat):0<=at1 b i/\at1 b i<=255:=by
 by_cases h:i<b.length
 ·rw[anV h];exact hb.get h
 ·unfold at1 ai
  rw[List.getD_eq_getElem?_getD,List.getElem?_eq_none (by omega)]
  decide
theorem LZ (b:List Int) (i:Nat):inI (at8 b i):=ai5 _
def rdr (b:List Int) (k:Nat) (od:Bool):gV:=⟨(b.take (b.length - 4)).drop k,od⟩
theorem aro {b:List Int} {n k m:Nat} (h:k+m<=n):((b.take n).drop k).take m=(b.drop k).take m:=by
 rw[List.drop_take,List.take_take,Nat.min_eq_left (by omega)]
theorem take_one {b:List Int} {k:Nat} (h:k<b.length):(b.drop k).take 1=[at1 b k]:=by
 rw[anV h,List.drop_eq_getElem_cons h];rfl
theorem rd8 {b:List Int} (hb:gm b) {k:Nat} {od:Bool} (h:k+8<=b.length - 4):dP (rdr b k od) 8=some (rdr b (k+8) od,at8 b k):=by
 have:=atv (r:=rdr b k od) (k:=8) (by simp only[rdr,List.length_drop,List.length_take];omega) (by decide) ((hb.take _).drop _)
 rw[show(8:Int)=((8:Nat):Int)from rfl,this]
 simp only[rdr,List.drop_drop,aro h]
 rfl
theorem rd1 {b:List Int} (hb:gm b) {k:Nat} {od:Bool} (h:k+1<=b.length - 4):jl (rdr b k od)=some (rdr b (k+1) od,at1 b k):=by
 have:=atv (r:=rdr b k od) (k:=1) (by simp only[rdr,List.length_drop,List.length_take];omega) (by decide) ((hb.take _).drop _)
 unfold jl
 rw[show(1:Int)=((1:Nat):Int)from rfl,this,ak]
 simp only[rdr,List.drop_drop,aro h]
 rw[take_one (by omega)]
 have h1:=rU hb k
 have:wr .i64 (unZ [at1 b k])=at1 b k:=by
  show wr .i64 (0*256+at1 b k)=_
  rw[Int.zero_mul,Int.zero_add,bY h1.1 (by omega)]
 rw[this]
theorem rdf {b:List Int} (hb:gm b) {k:Nat} {od:Bool} (h:k+1<=b.length - 4):tX (rdr b k od)=some (rdr b (k+1) (bor od (ilt 1 (at1 b k))),ieq (at1 b k) 1):=by
 unfold tX
 rw[rd1 hb h,ak]
 rfl
def XD (b:List Int) (k:Nat):aJ:=⟨at8 b k,at1 b (k+8),at1 b (k+9),at1 b (k+10),at8 b (k+12),at8 b (k+20),at8 b (k+28),at1 b (k+11),at8 b (k+36),at8 b (k+44),at8 b (k+52),ieq (at1 b (k+60)) 1⟩
theorem rdo {b:List Int} (hb:gm b) {k:Nat} {od:Bool} (h:k+61<=b.length - 4):vG (rdr b k od)=some (rdr b (k+61) (bor od (ilt 1 (at1 b (k+60)))),XD b k):=by
 unfold vG
 rw[rd8 hb (by omega),ak,rd1 hb (by omega),ak,rd1 hb (by omega),ak,rd1 hb (by omega),ak,rd1 hb (by omega),ak,rd8 hb (by omega),ak,rd8 hb (by omega),ak,rd8 hb (by omega),ak,rd8 hb (by omega),ak,rd8 hb (by omega),ak,rd8 hb (by omega),ak,rdf hb (by omega),ak]
 rfl
def acU {α:Type} [Inhabited α] (f:Nat->α) (i n:Nat):List α:=(List.range i).map f++List.replicate (n - i) default
theorem alh {α:Type} [Inhabited α] (f:Nat->α) {i n:Nat} (h:i<=n):(acU f i n).length=n:=by
 simp only[acU,List.length_append,List.length_map,List.length_range,List.length_replicate];omega
theorem alM {α:Type} [Inhabited α] (f:Nat->α) {i n:Nat} (h:i<n):bT (acU f i n) (itn (i:Int)) (f i)=acU f (i+1) n:=by
 unfold bT acU
 rw[qh,List.set_append,if_neg (by simp),List.range_succ,List.map_append]
 have:n - i=(n - (i+1))+1:=by omega
 rw[this,List.replicate_succ]
 simp
theorem apB {α:Type} [Inhabited α] (f:Nat->α) {i n:Nat} (h:i<n):ai (acU f i n) (itn (i:Int))=default:=by
 unfold ai acU
 rw[qh,List.getD_eq_getElem?_getD,List.getElem?_append_right (by simp)]
 have h2:0<n - i:=by omega
 simp [List.getElem?_replicate,h2]
theorem aia {α:Type} [Inhabited α] (f:Nat->α) (n:Nat):acU f 0 n=jR α n:=by simp [acU,jR]
theorem aiu {α:Type} [Inhabited α] (f:Nat->α) (n:Nat):acU f n n=(List.range n).map f:=by simp [acU]
def nZ (b:List Int) (k:Nat):Nat:=(at1 b k).toNat
theorem XQ {b:List Int} (hb:gm b) (k:Nat):(nZ b k:Int)=at1 b k:=by
 have:=rU hb k
 unfold nZ;omega
def ak9 (b:List Int) (k:Nat):aK:=⟨at8 b k,0,0,0⟩
def at7 (b:List Int) (k:Nat):dL:=⟨at8 b k,at8 b (k+8),at8 b (k+16)⟩
def cN (b:List Int):Nat:=nZ b 4*nZ b 5
def off2 (b:List Int):Nat:=32+61*nZ b 7
def PO (b:List Int):Nat:=off2 b+8*cN b
def Ls (b:List Int):Nat:=PO b+24*cN b
def Io (b:List Int):List aJ:=(List.range (nZ b 7)).map fun i=>XD b (32+61*i)
def Fz (b:List Int):List aK:=(List.range (cN b)).map fun i=>ak9 b (off2 b+8*i)
def U4 (b:List Int):List dL:=(List.range (cN b)).map fun i=>at7 b (PO b+24*i)
def Xe (b:List Int):List Int:=(List.range (nZ b 4)).map fun i=>at8 b (Ls b+8*i)
def pZ (b:List Int):ax:=⟨at1 b 4,at1 b 5,Io b,Fz b,U4 b,Xe b,ieq (at1 b 6) 1,at8 b 8,at8 b 16,at8 b 24⟩
def Q5 (s:ax):ax:=atD s s.orders
structure xR (b:List Int):Prop where
 many:36<=b.length
 mark:b.take 4=magic
 acc:1<=at1 b 4/\at1 b 4<=8
 sym:1<=at1 b 5/\at1 b 5<=8
 ords:at1 b 7<=64
 just:b.length=Ls b+8*nZ b 4+4
def sumP (b:List Int):Prop:=b.drop (b.length - 4)=pz (xU (b.take (b.length - 4)))
def asj (b:List Int):Prop:=1<at1 b 6\/∃i,i<nZ b 7/\1<at1 b (32+61*i+60)
def ZW (b:List Int):Prop:=¬asj b/\zY (Q5 (pZ b))
structure aeI (b:List Int) (r:ax×Int):Prop where
 form:¬xR b->r=(zS,2)
 sum:xR b->¬sumP b->r=(zS,10)
 bad:xR b->sumP b->¬ZW b->r=(zS,2)
 good:xR b->sumP b->ZW b->r=(Q5 (pZ b),0)
theorem aeI.uniq {b:List Int} {r r':ax×Int} (h:aeI b r) (k:aeI b r'):r=r':=by
 by_cases h1:xR b
 ·by_cases h2:sumP b
  ·by_cases h3:ZW b
   ·rw[h.good h1 h2 h3,k.good h1 h2 h3]
   ·rw[h.bad h1 h2 h3,k.bad h1 h2 h3]
  ·rw[h.sum h1 h2,k.sum h1 h2]
 ·rw[h.form h1,k.form h1]
theorem xR.nums {b:List Int} (h:xR b):(1<=nZ b 4/\nZ b 4<=8)/\(1<=nZ b 5/\nZ b 5<=8)/\nZ b 7<=64/\cN b<=64:=by
 obtain⟨_,_,h1,h2,h3,_⟩:=h
 have hm:nZ b 4*nZ b 5<=8*8:=Nat.mul_le_mul (by unfold nZ;omega) (by unfold nZ;omega)
 unfold cN
 unfold nZ at hm ⊢
 refine⟨⟨by omega,by omega⟩,⟨by omega,by omega⟩,by omega,hm⟩
theorem xR.cN {b:List Int} (hb:gm b) (h:xR b):(cN b:Int)=at1 b 4*at1 b 5:=by
 unfold Go.Av.cN
 rw[Int.natCast_mul,XQ hb,XQ hb]
theorem ach {b:List Int} (hb:gm b) (h:xR b):BV (pZ b):=by
 have hn:=h.nums
 have hc:=h.cN hb
 refine⟨h.acc,h.sym,?_,?_,?_,?_⟩
 ·show((Fz b).length:Int)=_
  simp only[Fz,List.length_map,List.length_range]
  exact hc
 ·show((U4 b).length:Int)=((Fz b).length:Int)
  simp only[Fz,U4,List.length_map,List.length_range]
 ·show((Xe b).length:Int)=at1 b 4
  simp only[Xe,List.length_map,List.length_range,XQ hb]
 ·show(Io b).length<=64
  simp only[Io,List.length_map,List.length_range];omega
theorem Nl {n:Int} (h:0<=n/\n<=255):inI n:=⟨by omega,by omega⟩
theorem anu {b:List Int} (hb:gm b) (k:Nat):lX (XD b k):=
 ⟨LZ b _,Nl (rU hb _),Nl (rU hb _),Nl (rU hb _),LZ b _,LZ b _,LZ b _,Nl (rU hb _),LZ b _,LZ b _,LZ b _⟩
theorem aor {b:List Int} (hb:gm b) (hf:xR b) {kl:Bool} {l1 l2 l3:Int} {od:Bool} (hod:od=true↔1<at1 b 6):
 Wq (bD (fun v:Int×Int×Int×List aJ×List aK×List dL×List Int×Bool×Int×Int×Int×gV=>fG (nZ b 7:Int) v.1 v.2.1 v.2.2.1 v.2.2.2.1 v.2.2.2.2.1 v.2.2.2.2.2.1 v.2.2.2.2.2.2.1 v.2.2.2.2.2.2.2.1 v.2.2.2.2.2.2.2.2.1 v.2.2.2.2.2.2.2.2.2.1 v.2.2.2.2.2.2.2.2.2.2.1 v.2.2.2.2.2.2.2.2.2.2.2) LF
  (0,at1 b 4,at1 b 5,jR aJ (nZ b 7),[],[],[],kl,l1,l2,l3,rdr b 32 od)) fun w=>∃od',(od'=true↔asj b)/\w=(at1 b 4,at1 b 5,Io b,[],[],[],kl,l1,l2,l3,rdr b (off2 b) od'):=by
 have hn:=hf.nums
 have hj:=hf.just
 unfold Ls PO off2 at hj
 refine gX (n:=nZ b 7) (by omega) (fun i x=>∃od',(od'=true↔(1<at1 b 6\/∃j,j<i/\1<at1 b (32+61*j+60)))/\x=(at1 b 4,at1 b 5,acU (fun i=>XD b (32+61*i)) i (nZ b 7),[],[],[],kl,l1,l2,l3,rdr b (32+61*i) od')) _ ?_ ?_ _ 0 (Nat.zero_le _) ⟨od,?_,?_⟩
 ·rintro i x hi ⟨od',h1,rfl⟩
  simp only
  unfold fG
  rw[aB (nD (by omega)),rdo hb (by omega),ak,aB (inb _ i (by rw[alh _ (by omega)];exact hi)),ah]
  refine⟨bG (by omega),bor od' (ilt 1 (at1 b (32+61*i+60))),?_,?_⟩
  ·rw[bM,h1,bV]
   constructor
   ·rintro((h | ⟨j,h2,h3⟩) | h)
    ·exact .inl h
    ·exact .inr ⟨j,by omega,h3⟩
    ·exact .inr ⟨i,by omega,h⟩
   ·rintro(h | ⟨j,h2,h3⟩)
    ·exact .inl (.inl h)
    ·by_cases hji:j=i
     ·subst hji;exact .inr h3
     ·exact .inl (.inr ⟨j,by omega,h3⟩)
  ·simp only
   rw[alM (fun i=>XD b (32+61*i)) hi]
   rfl
 ·rintro x ⟨od',h1,rfl⟩
  simp only
  unfold fG
  rw[dH (qm (by omega)),ah,aiu]
  exact⟨od',h1,rfl⟩
 ·rw[hod]
  exact⟨.inl,fun h=>by
   rcases h with h | ⟨j,hj,_⟩
   ·exact h
   ·omega⟩
 ·rw[aia]
theorem arw {b:List Int} (hb:gm b) (hf:xR b) {a y:Int} {os:List aJ} {kl:Bool} {l1 l2 l3:Int} {od:Bool}:
 Wq (bD (fun v:Int×Int×Int×List aJ×List aK×List dL×List Int×Bool×Int×Int×Int×gV=>eX (cN b:Int) v.1 v.2.1 v.2.2.1 v.2.2.2.1 v.2.2.2.2.1 v.2.2.2.2.2.1 v.2.2.2.2.2.2.1 v.2.2.2.2.2.2.2.1 v.2.2.2.2.2.2.2.2.1 v.2.2.2.2.2.2.2.2.2.1 v.2.2.2.2.2.2.2.2.2.2.1 v.2.2.2.2.2.2.2.2.2.2.2) LF
  (0,a,y,os,jR aK (cN b),[],[],kl,l1,l2,l3,rdr b (off2 b) od)) fun w=>w=(a,y,os,Fz b,[],[],kl,l1,l2,l3,rdr b (PO b) od):=by
 have hn:=hf.nums
 have hj:=hf.just
 unfold Ls at hj
 refine gX (n:=cN b) (by omega) (fun i x=>x=(a,y,os,acU (fun i=>ak9 b (off2 b+8*i)) i (cN b),[],[],kl,l1,l2,l3,rdr b (off2 b+8*i) od)) _ ?_ ?_ _ 0 (Nat.zero_le _) ?_
 ·rintro i x hi rfl
  simp only
  unfold eX
  have:PO b=off2 b+8*cN b:=rfl
  rw[aB (nD (by omega)),rd8 hb (by omega),ak,aB (inb _ i (by rw[alh _ (by omega)];exact hi)),ah,apB _ hi]
  refine⟨bG (by omega),?_⟩
  simp only
  rw[show aK.mk (at8 b (off2 b+8*i)) (default:aK).buy (default:aK).sell (default:aK).opn=(fun i=>ak9 b (off2 b+8*i)) i from rfl,alM (fun i=>ak9 b (off2 b+8*i)) hi]
  rfl
 ·rintro x rfl
  simp only
  unfold eX
  rw[dH (qm (by omega)),ah,aiu]
  rfl
 ·rw[aia];rfl
theorem ar1 {b:List Int} (hb:gm b) (hf:xR b) {a y:Int} {os:List aJ} {cs:List aK} {kl:Bool} {l1 l2 l3:Int} {od:Bool}:
 Wq (bD (fun v:Int×Int×Int×List aJ×List aK×List dL×List Int×Bool×Int×Int×Int×gV=>fA (cN b:Int) v.1 v.2.1 v.2.2.1 v.2.2.2.1 v.2.2.2.2.1 v.2.2.2.2.2.1 v.2.2.2.2.2.2.1 v.2.2.2.2.2.2.2.1 v.2.2.2.2.2.2.2.2.1 v.2.2.2.2.2.2.2.2.2.1 v.2.2.2.2.2.2.2.2.2.2.1 v.2.2.2.2.2.2.2.2.2.2.2) LF
  (0,a,y,os,cs,[],[],kl,l1,l2,l3,rdr b (PO b) od)) fun w=>w=(a,y,os,cs,U4 b,[],kl,l1,l2,l3,rdr b (Ls b) od):=by
 have hn:=hf.nums
 have hj:=hf.just
 refine gX (n:=cN b) (by omega) (fun i x=>x=(a,y,os,cs,(List.range i).map (fun i=>at7 b (PO b+24*i)),[],kl,l1,l2,l3,rdr b (PO b+24*i) od)) _ ?_ ?_ _ 0 (Nat.zero_le _) rfl
 ·rintro i x hi rfl
  simp only
  unfold fA
  have:Ls b=PO b+24*cN b:=rfl
  rw[aB (nD (by omega)),rd8 hb (by omega),ak,rd8 hb (by omega),ak,rd8 hb (by omega),ak,aB (vX (n:=1000) (by simp [dB];omega) (by decide)),ah]
  refine⟨bG (by omega),?_⟩
  simp only
  rw[List.range_succ,List.map_append]
  rfl
 ·rintro x rfl
  simp only
  unfold fA
  rw[dH (qm (by omega)),ah]
  rfl
theorem arR {b:List Int} (hb:gm b) (hf:xR b) {y:Int} {os:List aJ} {cs:List aK} {ls:List dL} {kl:Bool} {l1 l2 l3:Int} {od:Bool} (a:Int):
 Wq (bD (fun v:Int×Int×Int×List aJ×List aK×List dL×List Int×Bool×Int×Int×Int×gV=>eY (nZ b 4:Int) v.1 v.2.1 v.2.2.1 v.2.2.2.1 v.2.2.2.2.1 v.2.2.2.2.2.1 v.2.2.2.2.2.2.1 v.2.2.2.2.2.2.2.1 v.2.2.2.2.2.2.2.2.1 v.2.2.2.2.2.2.2.2.2.1 v.2.2.2.2.2.2.2.2.2.2.1 v.2.2.2.2.2.2.2.2.2.2.2) LF
  (0,a,y,os,cs,ls,[],kl,l1,l2,l3,rdr b (Ls b) od)) fun w=>w=(a,y,os,cs,ls,Xe b,kl,l1,l2,l3,rdr b (Ls b+8*nZ b 4) od):=by
 have hn:=hf.nums
 have hj:=hf.just
 refine gX (n:=nZ b 4) (by omega) (fun i x=>x=(a,y,os,cs,ls,(List.range i).map (fun i=>at8 b (Ls b+8*i)),kl,l1,l2,l3,rdr b (Ls b+8*i) od)) _ ?_ ?_ _ 0 (Nat.zero_le _) rfl
 ·rintro i x hi rfl
  simp only
  unfold eY
  rw[aB (nD (by omega)),rd8 hb (by omega),ak,aB (vX (n:=1000) (by simp [dB];omega) (by decide)),ah]
  refine⟨bG (by omega),?_⟩
  simp only
  rw[List.range_succ,List.map_append]
  rfl
 ·rintro x rfl
  simp only
  unfold eY
  rw[dH (qm (by omega)),ah]
  rfl
theorem aeE {c:aK} {o:aJ} (hk:rW c) (h:¬(okC c/\NS o)):jH c o=some (c,1):=by
 unfold jH
 rw[Jm hk,ak]
 by_cases h1:okC c
 ·have h2:¬NS o:=fun h2=>h ⟨h1,h2⟩
  rw[decide_eq_true h1,GL,decide_eq_false h2,dD,dA,bK,ak,dA,ah3,bK]
 ·rw[decide_eq_false h1,dA,dD,bW,ak,dA,sG,bK]
theorem apF {p:Int} {a b:aK} (hp:inI p) (ha:nnC a) (hb:nnC b) (h:okC (tC ⟨p,0,0,0⟩ (tC a b))):okC (tC ⟨p,0,0,0⟩ a):=by
 obtain⟨hk,_,r1,r2⟩:=h
 have h1:=hk.buy;have h2:=hk.sell;have h3:=hk.opn
 unfold nnC at ha hb
 simp only[tC]at h1 h2 h3 r1 r2
 unfold inI at*
 refine⟨⟨?_,?_,?_,?_⟩,⟨?_,?_,?_⟩,?_,?_⟩<;>simp only[tC,inI]<;>omega
theorem ug {p:ax} (h:zY (Q5 p)):∀o∈p.orders,tV p o:=fun o ho=>by
 have:=h.fine.ords o ho
 exact this
theorem aiA {p:ax} (hc:∀c∈p.cells,inI c.pos) (ho:∀o∈p.orders,lX o) (h:zY (Q5 p)) {k:Nat} (hk:k<p.cells.length) (i:Nat):okC (tC ⟨p.cells[k].pos,0,0,0⟩ (ru p.symbols k (p.orders.take i))):=by
 have hin:=ug h
 have hm:(gJ p p.orders)[k]'(by rw[oU];exact hk)∈(Q5 p).cells:=List.getElem_mem _
 have:=h.ok _ hm
 rw[IY]at this
 have e:ru p.symbols k p.orders=tC (ru p.symbols k (p.orders.take i)) (ru p.symbols k (p.orders.drop i)):=by
  rw[<-zu,List.take_append_drop]
 rw[e]at this
 exact apF (hc _ (List.getElem_mem _)) (O0 _ _ fun o h=>⟨(hin o (List.mem_of_mem_take h)).1,ho o (List.mem_of_mem_take h)⟩) (O0 _ _ fun o h=>⟨(hin o (List.mem_of_mem_drop h)).1,ho o (List.mem_of_mem_drop h)⟩) this
theorem atL {p:ax} (hs:BV p) (ho:∀o∈p.orders,lX o/\0<=o.account/\0<=o.symbol) (hc:∀c∈p.cells,inI c.pos/\c=⟨c.pos,0,0,0⟩):
 Wq (bD (fun v:Int×Bool×Int×Int×Unit×Unit×Unit×Unit×Bool×Int×Int×Int×List aJ×List aK×List dL×List Int=>iZ (len p.orders) v.1 v.2.1 v.2.2.1 v.2.2.2.1 v.2.2.2.2.1 v.2.2.2.2.2.1 v.2.2.2.2.2.2.1 v.2.2.2.2.2.2.2.1 v.2.2.2.2.2.2.2.2.1 v.2.2.2.2.2.2.2.2.2.1 v.2.2.2.2.2.2.2.2.2.2.1 v.2.2.2.2.2.2.2.2.2.2.2.1 v.2.2.2.2.2.2.2.2.2.2.2.2.1 v.2.2.2.2.2.2.2.2.2.2.2.2.2.1 v.2.2.2.2.2.2.2.2.2.2.2.2.2.2.1 v.2.2.2.2.2.2.2.2.2.2.2.2.2.2.2) LF
  (0,false,p.accounts,p.symbols,PUnit.unit,PUnit.unit,PUnit.unit,PUnit.unit,p.kill,p.last,p.seq,p.lsn,p.orders,p.cells,p.limits,p.caps)) fun w=>match w with
  |.inl w=>w.1=false/\¬zY (Q5 p)
  |.inr w=>(∀c∈gJ p p.orders,rW c)/\∃f,w=(f,p.accounts,p.symbols,PUnit.unit,PUnit.unit,PUnit.unit,PUnit.unit,p.kill,p.last,p.seq,p.lsn,p.orders,gJ p p.orders,p.limits,p.caps):=by
 obtain⟨hcl,_,_,hol⟩:=hs.lens
 refine gX (n:=p.orders.length) (by omega) (fun i x=>∃cs:List aK,x=(false,p.accounts,p.symbols,PUnit.unit,PUnit.unit,PUnit.unit,PUnit.unit,p.kill,p.last,p.seq,p.lsn,p.orders,cs,p.limits,p.caps)/\
  cs.length=p.cells.length/\(∀(j:Nat) (h:j<cs.length) (h':j<p.cells.length),cs[j]=tC ⟨p.cells[j].pos,0,0,0⟩ (ru p.symbols j (p.orders.take i)))/\(∀c∈cs,rW c)/\∀o∈p.orders.take i,tV p o\/(NS o/\o.account<p.accounts/\o.symbol<p.symbols)) _ ?_ ?_ _ 0 (Nat.zero_le _) ?_
 ·rintro i x hi ⟨cs,rfl,h1,h2,h3,h4⟩
  simp only
  unfold iZ
  rw[Oy p.orders hi,bI _ i hi]
  obtain⟨hor,ha0,hy0⟩:=ho _ (List.getElem_mem hi)
  obtain⟨o,hoe⟩:∃o,o=p.orders[i]:=⟨_,rfl⟩
  have hom:o∈p.orders:=hoe▸List.getElem_mem hi
  rw[<-hoe]at hor ha0 hy0 ⊢
  unfold O7
  simp only
  by_cases hin:o.account<p.accounts/\o.symbol<p.symbols
  ·have hplc:bor (bor (bor (ilt o.account 0) (ile p.accounts o.account)) (ilt o.symbol 0)) (ile p.symbols o.symbol)=false:=by
    simp only[aQ,bg,bM,bZ,aT,aU,bV,cu,bJ,dh,aZ,bC,cZ,dm];omega
   have hco:=akZ hs o.account o.symbol ha0 hin.1 hy0 hin.2
   obtain⟨k,hk,hkn⟩:∃k:Nat,(k:Int)=o.account*p.symbols+o.symbol/\k<p.cells.length:=by
    have m:=vJ (a:=o.account) (b:=p.symbols) ha0 (by have:=hs.1.2;omega) (by have:=hs.2.1.1;omega) (by have:=hs.2.1.2;omega)
    have hcc:(p.cells.length:Int)=p.accounts*p.symbols:=hs.2.2.1
    have:o.account*p.symbols+p.symbols<=p.accounts*p.symbols:=by
     have:=Int.mul_le_mul_of_nonneg_right (show o.account+1<=p.accounts by omega) (show 0<=p.symbols by have:=hs.2.1.1;omega)
     rw[Int.add_mul,Int.one_mul]at this
     exact this
    exact⟨(o.account*p.symbols+o.symbol).toNat,by omega,by omega⟩
   have hcell:bU (ax.mk p.accounts p.symbols p.orders cs p.limits p.caps p.kill p.last p.seq p.lsn) o.account o.symbol=some (k:Int):=by
    unfold bU
    simp only
    unfold aj dY
    have m:=vJ (a:=o.account) (b:=p.symbols) ha0 (by have:=hs.1.2;omega) (by have:=hs.2.1.1;omega) (by have:=hs.2.1.2;omega)
    have:=hs.2.1.2
    rw[bY m.1 (by omega),bY (by omega) (by omega),hk]
   have hkc:k<cs.length:=by omega
   rw[hplc,bW,hcell,ak,ak,dH (by rw[bC];omega),aB (inb cs k hkc),bI _ k hkc]
   have hck:=h2 k hkc hkn
   have hokc:=h3 _ (List.getElem_mem hkc)
   by_cases hbad:okC cs[k]/\NS o
   ·have hcadd:YO cs[k] o=tC ⟨p.cells[k].pos,0,0,0⟩ (ru p.symbols k (p.orders.take (i+1))):=by
     rw[aeV,hck,List.take_succ_eq_append_getElem hi,zu,abI,agQ,<-hoe]
     unfold inC
     rw[if_pos (by unfold atZ;omega)]
    rw[aea hbad.1 hbad.2 hor,ak]
    by_cases hnew:okC (YO cs[k] o)
    ·rw[if_pos hnew]
     simp only[Dp,dD,bW]
     rw[aB (inb cs k hkc),ah]
     refine⟨bG (by omega),_,rfl,by rw[UJ];exact h1,fun j hj hj'=> ?_,fun c hcm=> ?_,fun o' ho'=> ?_⟩
     ·rw[adH]
      split
      ·rename_i e;subst e
       exact hcadd
      ·rename_i e
       rw[h2 j (by rw[UJ]at hj;exact hj) hj',List.take_succ_eq_append_getElem hi,zu,abI,<-hoe]
       unfold inC
       rw[if_neg (by unfold atZ;omega),acM]
     ·unfold bT at hcm
      rcases List.mem_or_eq_of_mem_set hcm with h | h
      ·exact h3 c h
      ·rw[h];exact hnew.1
     ·rcases(uU hi).1 ho' with h | h
      ·exact h4 o' h
      ·rw[h,<-hoe];exact .inr ⟨hbad.2,hin⟩
    ·rw[if_neg hnew]
     simp only[QO,dA,bK]
     rw[ah]
     exact⟨rfl,fun hR=>hnew (by rw[hcadd];exact aiA (fun c h=>(hc c h).1) (fun o h=>(ho o h).1) hR hkn (i+1))⟩
   ·rw[aeE hokc hbad,ak]
    have:ieq 1 0=false:=rfl
    simp only[this,dA,bK]
    rw[ah]
    refine⟨rfl,fun hR=>hbad ⟨?_,(ug hR o hom).1⟩⟩
    rw[hck]
    exact aiA (fun c h=>(hc c h).1) (fun o h=>(ho o h).1) hR hkn i
  ·have hplc:bor (bor (bor (ilt o.account 0) (ile p.accounts o.account)) (ilt o.symbol 0)) (ile p.symbols o.symbol)=true:=by
    simp only[aQ,bg,bM,bZ,aT,aU,bV,cu,bJ,dh,aZ,bC,cZ,dm];omega
   rw[hplc,bK,ak]
   have:ieq (-1) (-1)=true:=rfl
   rw[this,bK,ah]
   exact⟨rfl,fun hR=>hin (ug hR o hom).2.2⟩
 ·rintro x ⟨cs,rfl,h1,h2,h3,h4⟩
  simp only
  unfold iZ
  have e:cs=gJ p p.orders:=by
   refine List.ext_getElem (by rw[h1,oU]) fun j hj hj'=> ?_
   rw[h2 j hj (by omega),IY,List.take_length]
  rw[Hz,ah,<-e]
  exact⟨h3,false,rfl⟩
 ·refine⟨p.cells,rfl,rfl,fun j h h'=> ?_,fun c h=> ?_,fun o h=>by simp at h⟩
  ·have:=(hc _ (List.getElem_mem h)).2
   rw[List.take_zero]
   show _=tC _ zC
   rw[acM];exact this
  ·obtain⟨h1,h2⟩:=hc c h
   rw[h2]
   exact⟨h1,⟨by simp only;omega,by simp only;omega⟩,⟨by simp only;omega,by simp only;omega⟩,⟨by simp only;omega,by simp only;omega⟩⟩
theorem amX {a b:List Int} (ha:gm a) (hb:gm b):u2s a=u2s b↔a=b:=by
 refine⟨fun h=> ?_,fun h=>by rw[h]⟩
 unfold u2s at h
 have hl:a.length=b.length:=by simpa using congrArg List.length h
 refine List.ext_getElem hl fun i h1 h2=> ?_
 have hi:(a.map fun n=>UInt8.ofNat n.toNat)[i]'(by simpa using h1)=(b.map fun n=>UInt8.ofNat n.toNat)[i]'(by simpa using h2):=by simp only[h]
 simp only[List.getElem_map]at hi
 have b1:=ha.get h1
 have b2:=hb.get h2
 have:=congrArg UInt8.toNat hi
 simp only[UInt8.toNat_ofNat']at this
 omega
theorem arE {t:List Int} (ht:t.length=4) {n:Int}:Wq (bD (fun v:Int×Int×ax=>tH (len t) t n v.1 v.2.1 v.2.2) LF (0,0,zS)) fun w=>match w with
 |.inl w=>t≠pz n/\w=(10,zS)
 |.inr w=>t=pz n:=by
 refine gX (n:=4) (by decide) (fun i x=>x=(0,zS)/\∀(k:Nat) (h:k<t.length) (h':k<(pz n).length),k<i->t[k]=(pz n)[k]) _ ?_ ?_ _ 0 (by decide) ⟨rfl,fun k _ _ h=>by omega⟩
 ·rintro i x hi ⟨rfl,h⟩
  simp only
  unfold tH
  have hit:i<t.length:=by omega
  obtain⟨q1,q2⟩:=acP (n:=n) hi
  rw[Oy t hit,bI t i hit,aB q1,q2]
  have hti:(pz n)[i]'(by simp [pz];omega)=n / 256^i%256:=abU n hi
  by_cases he:t[i]=n / 256^i%256
  ·rw[dH (by simp only[aQ,bg,bM,bZ,aT,aU,bV,cu,bJ,dh,aZ,bC,cZ,dm];exact he),ah]
   refine⟨bG (by omega),rfl,fun k h1 h2 hk=> ?_⟩
   by_cases hki:k=i
   ·subst hki;rw[he,hti]
   ·exact h k h1 h2 (by omega)
  ·rw[aB (by simp only[aQ,bg,bM,bZ,aT,aU,bV,cu,bJ,dh,aZ,bC,cZ,dm];exact he),ah]
   refine⟨fun hh=>he ?_,rfl⟩
   rw[<-hti]
   simp only[hh]
 ·rintro x ⟨rfl,h⟩
  simp only
  unfold tH
  rw[dH (qm (by unfold len;omega)),ah]
  exact List.ext_getElem (by rw[ht];rfl) fun k h1 h2=>h k h1 h2 (by omega)
theorem noS:ax.mk 0 0 [] [] [] [] false 0 0 0=zS:=rfl
theorem asb {b:List Int} (hb:gm b) (hf:xR b) (hc:∀c∈gJ (pZ b) (pZ b).orders,rW c):yK (Q5 (pZ b)):=by
 have hs:=ach hb hf
 obtain⟨l1,l2,l3,l4⟩:=hs.lens
 have hc8:=LZ b
 refine⟨Nl (rU hb _),Nl (rU hb _),⟨fun o ho=> ?_,by show(pZ b).orders.length<=_;omega⟩,⟨hc,by show(gJ _ _).length<=_;rw[oU];omega⟩,⟨fun x hx=> ?_,by show(pZ b).limits.length<=_;omega⟩,⟨fun x hx=> ?_,?_⟩,hc8 _,hc8 _,hc8 _⟩
 ·obtain⟨i,_,rfl⟩:=List.mem_map.1 (show o∈Io b from ho)
  exact anu hb _
 ·obtain⟨i,_,rfl⟩:=List.mem_map.1 (show x∈U4 b from hx)
  exact⟨hc8 _,hc8 _,hc8 _⟩
 ·obtain⟨i,_,rfl⟩:=List.mem_map.1 (show x∈Xe b from hx)
  exact hc8 _
 ·have:=hf.nums
  show(pZ b).caps.length<=_
  rw[l3]
  have:=hf.acc
  have e:(pZ b).accounts=at1 b 4:=rfl
  omega
theorem afC {b:List Int} (hb:gm b) (hf:xR b):BU (Q5 (pZ b)):=by
 have hs:=ach hb hf
 obtain⟨l1,l2,l3,l4⟩:=hs.lens
 have:=hf.acc
 have e:(pZ b).accounts=at1 b 4:=rfl
 refine⟨?_,?_,?_,?_⟩
 ·show(pZ b).orders.length<_;omega
 ·show(gJ _ _).length<_;rw[oU];omega
 ·show(pZ b).limits.length<_;omega
 ·show(pZ b).caps.length<_;omega
theorem anD {b:List Int} (hb:gm b):∀o∈(pZ b).orders,lX o/\0<=o.account/\0<=o.symbol:=fun o ho=>by
 obtain⟨i,_,rfl⟩:=List.mem_map.1 (show o∈Io b from ho)
 exact⟨anu hb _,(rU hb _).1,(rU hb _).1⟩
theorem akx {b:List Int}:∀c∈(pZ b).cells,inI c.pos/\c=⟨c.pos,0,0,0⟩:=fun c hc=>by
 obtain⟨i,_,rfl⟩:=List.mem_map.1 (show c∈Fz b from hc)
 exact⟨LZ b _,rfl⟩
theorem L6 {n:Int} (h:0<=n/\n<=255):wr .i64 n=n:=bY h.1 (by omega)
theorem ai2 {b:List Int} (hb:gm b) (hl:b.length<99999):Wq (zI b) (aeI b):=by
 have r4:=rU hb 4;have r5:=rU hb 5;have r7:=rU hb 7
 have e4:ai b 4=at1 b 4:=rfl
 have e5:ai b 5=at1 b 5:=rfl
 have e7:ai b 7=at1 b 7:=rfl
 have et:aA b 4=b.take 4:=rfl
 have em:[UInt8.ofNat 115,UInt8.ofNat 110,UInt8.ofNat 97,UInt8.ofNat 102]=u2s magic:=by decide
 have notForm:¬xR b->Wq (some (zS,(2:Int))) (aeI b):=fun h=>(ah _).2 ⟨fun _=>rfl,fun h'=>absurd h' h,fun h'=>absurd h' h,fun h'=>absurd h' h⟩
 unfold zI
 rw[noS,e4,e5,e7,et,em,L6 r4,L6 r5,L6 r7]
 have c0:bor (ile 4 (len b)) (ay (ay (ilt (len b) 36)))=true:=by
  simp only[aQ,bg,bM,bZ,aT,aU,bV,cu,bJ,dh,aZ,bC,cZ,dm];omega
 rw[aB c0]
 by_cases h36:b.length<36\/b.take 4≠magic
 ·rw[aB (b:=bor _ _) (by
   simp only[aQ,bg,bM,bZ,aT,aU,bV,cu,bJ,dh,aZ,bC,cZ,dm,afK,ne_eq,amX (hb.take 4) aaR]
   unfold len
   rcases h36 with h | h
   ·exact .inl (by omega)
   ·exact .inr h)]
  exact notForm fun hf=>by
   rcases h36 with h | h
   ·have:=hf.many;omega
   ·exact h hf.mark
 have h36':36<=b.length/\b.take 4=magic:=⟨by omega,by simpa using fun h=>h36 (.inr h)⟩
 rw[dH (b:=bor _ _) (by
  simp only[aQ,bg,bM,bZ,aT,aU,bV,cu,bJ,dh,aZ,bC,cZ,dm,ZP,amX (hb.take 4) aaR]
  unfold len
  exact⟨by omega,h36'.2⟩),aB (nD (by unfold len;omega)),aB (nD (by unfold len;omega)),aB (nD (by unfold len;omega))]
 by_cases hdim:(1<=at1 b 4/\at1 b 4<=8)/\(1<=at1 b 5/\at1 b 5<=8)/\at1 b 7<=64
 case neg=>
  have hd:bor (bor (bor (bor (ilt (at1 b 4) 1) (ilt 8 (at1 b 4))) (ilt (at1 b 5) 1)) (ilt 8 (at1 b 5))) (ilt 64 (at1 b 7))=true:=by
   simp only[aQ,bg,bM,bZ,aT,aU,bV,cu,bJ,dh,aZ,bC,cZ,dm];omega
  rw[hd,dD,bW,ak,sG,bK]
  exact notForm fun hf=>hdim ⟨hf.acc,hf.sym,hf.ords⟩
 have hd:bor (bor (bor (bor (ilt (at1 b 4) 1) (ilt 8 (at1 b 4))) (ilt (at1 b 5) 1)) (ilt 8 (at1 b 5))) (ilt 64 (at1 b 7))=false:=by
  simp only[aQ,bg,bM,bZ,aT,aU,bV,cu,bJ,dh,aZ,bC,cZ,dm];omega
 rw[hd,dA,bK,afJ hdim.1 hdim.2.1 ⟨r7.1,r7.2⟩,ak,iM]
 have hcN:((cN b:Nat):Int)=at1 b 4*at1 b 5:=by
  unfold cN
  rw[Int.natCast_mul,XQ hb,XQ hb]
 have n4:=XQ hb 4;have n7:=XQ hb 7
 by_cases hj:b.length=Ls b+8*nZ b 4+4
 case neg=>
  rw[aB (b:=ay _) (by
   simp only[aQ,bg,bM,bZ,aT,aU,bV,cu,bJ,dh,aZ,bC,cZ,dm]
   unfold len
   unfold Ls PO off2 at hj
   omega)]
  exact notForm fun hf=>hj hf.just
 have hf:xR b:=⟨h36'.1,h36'.2,hdim.1,hdim.2.1,hdim.2.2,hj⟩
 rw[dH (b:=ay _) (by
  simp only[aQ,bg,bM,bZ,aT,aU,bV,cu,bJ,dh,aZ,bC,cZ,dm]
  unfold len
  unfold Ls PO off2 at hj
  omega)]
 have hsub:wr .i64 (aI (len b) 4)=((b.length - 4:Nat):Int):=by
  unfold aI len
  rw[bY (by omega) (by omega)];omega
 rw[hsub,aB (Fb (jd (by omega)) (jd (by unfold len;omega))),aB (Fb (jd (by omega)) (jd (by unfold len;omega))),qh]
 have el:aA b (b.length - 4)=b.take (b.length - 4):=rfl
 have ed:aN b (b.length - 4)=b.drop (b.length - 4):=rfl
 rw[el,ed,aiC (by rw[List.length_take];omega) (hb.take _),ak]
 refine(arE (t:=b.drop (b.length - 4)) (n:=xU (b.take (b.length - 4))) (by rw[List.length_drop];omega)).bind fun w hw=> ?_
 match w,hw with
 |.inl w,hw=>
  obtain⟨h1,rfl⟩:=hw
  show Wq (some (zS,(10:Int))) (aeI b)
  exact(ah _).2 ⟨fun h=>absurd hf h,fun _ _=>rfl,fun _ h=>absurd h h1,fun _ h=>absurd h h1⟩
 |.inr w,hw=>
  have hsum:sumP b:=hw
  simp only[gY]
  have hrd:gV.mk (aN (b.take (b.length - 4)) 4) false=rdr b 4 false:=rfl
  have hnn:=hf.nums
  have hlen:32<=b.length - 4:=by
   unfold Ls PO off2 at hj;omega
  rw[aB (jd (by unfold len;rw[List.length_take];omega)),hrd,rd1 hb (by omega),ak,rd1 hb (by omega),ak,rdf hb (by omega),ak,rd1 hb (by omega),ak]
  simp only
  have e71:at1 b (4+1+1+1)=at1 b 7:=rfl
  rw[e71]
  rw[aB (Fb (Fb (jd r7.1) (jd (Int.le_refl _))) (jd (by omega))),rd8 hb (by omega),ak,rd8 hb (by omega),ak,rd8 hb (by omega),ak]
  simp only
  have e8:itn (at1 b 7)=nZ b 7:=rfl
  have e9:len (jR aJ (nZ b 7))=(nZ b 7:Int):=by simp [len,jR]
  rw[e8,e9]
  refine(aor hb hf (od:=bor false (ilt 1 (at1 b 6))) (by rw[iM,bV])).bind fun y11 h11=> ?_
  obtain⟨od,hod,rfl⟩:=h11
  simp only
  have m:=vJ (a:=at1 b 4) (b:=at1 b 5) r4.1 (by omega) r5.1 (by omega)
  have hm:wr .i64 (dY (at1 b 4) (at1 b 5))=(cN b:Int):=by
   unfold dY
   rw[bY m.1 (by omega),hcN]
  rw[hm,aB (Fb (Fb (jd (by omega)) (jd (Int.le_refl _))) (jd (by omega))),qh]
  have e10:len (jR aK (cN b))=(cN b:Int):=by simp [len,jR]
  rw[e10]
  refine(arw hb hf).bind fun y12 h12=> ?_
  subst h12
  simp only
  have e11:len (Fz b)=(cN b:Int):=by simp [len,Fz]
  rw[e11]
  refine(ar1 hb hf).bind fun y13 h13=> ?_
  subst h13
  simp only
  rw[<-n4]
  refine(arR hb hf (nZ b 4:Int)).bind fun y14 h14=> ?_
  subst h14
  simp only[rdr]
  rw[n4]
  have bad2:¬ZW b->Wq (some (zS,(2:Int))) (aeI b):=fun h=>(ah _).2 ⟨fun h'=>absurd hf h',fun _ h'=>absurd hsum h',fun _ _ _=>rfl,fun _ _ h'=>absurd h' h⟩
  cases od with
  |true=>
   rw[dD,bW,sG,dD,bW,ak,sG,bK]
   exact bad2 fun hg=>hg.1 (hod.1 rfl)
  |false=>
   rw[dA,bK]
   have hno:¬asj b:=fun h=>by have:=hod.2 h;cases this
   refine(atL (p:=pZ b) (ach hb hf) (anD hb) akx).bind fun w hw=> ?_
   match w,hw with
   |.inl w,hw=>
    obtain⟨h1,h2⟩:=hw
    simp only[gY]
    rw[h1,dA,iM,dD,bW,ak,sG,bK]
    exact bad2 fun hg=>h2 hg.2
   |.inr w,hw=>
    obtain⟨h1,f,rfl⟩:=hw
    simp only[gY]
    rw[iM,dA,bK]
    have hsh:=afC hb hf
    refine(VE (Q5 (pZ b)) (asb hb hf h1) hsh.1 hsh.2.2.1 hsh.2.2.2).bind fun y hy=> ?_
    cases y with
    |false=>
     rw[iM,dA,bK]
     exact bad2 fun hg=>by have:=hy.2 hg.2;cases this
    |true=>
     rw[iM,dD,bW,ah]
     exact⟨fun h=>absurd hf h,fun _ h=>absurd hsum h,fun _ _ h=>absurd ⟨hno,hy.1 rfl⟩ h,fun _ _ _=>rfl⟩
def b1 (n:Int):Prop:=0<=n/\n<=255
theorem akC:BU zS:=by unfold BU zS;decide
theorem aqt {l:List Int} (h:okL ak3 l):gm l:=fun x hx=>h.1 x hx
theorem akh (n c:Int) (hc:0<=c/\c<=255):wr .u64 (aj (wr .u64 (dY (n%18446744073709551616) 256)) (wr .u64 c))=(n*256+c)%18446744073709551616:=by
 rw[uh,uh,uh]
 unfold aj dY
 omega
theorem atF {l:List Int} (hb:gm l) (hl:l.length<999999):dG l=some (wr .i64 (unZ l)):=by
 refine Wq.eq ?_
 unfold dG
 refine Wq.bind (Q:=fun y=>y=unZ l%18446744073709551616) ?_ fun y hy=>by rw[ah,hy,akg]
 refine gX hl (fun i x=>x=unZ (l.take i)%18446744073709551616) _ (fun i x hi hj=> ?_) (fun x hj=> ?_) 0 0 (Nat.zero_le _) (by simp [unZ])
 ·simp only
  unfold qQ
  rw[Oy l hi,bI l i hi,ah,hj,akh _ _ (hb.get hi)]
  refine⟨bG (by omega),?_⟩
  rw[List.take_succ_eq_append_getElem hi,afs]
 ·simp only
  unfold qQ
  rw[Hz,ah,hj,List.take_length]
theorem rn {α:Type} {b:List Int} (hb:gm b) {p q:Nat} (hq:q=p+8) (h:q<=b.length) (f:Int->Option α) (z:Option α):
 cnd (band (band (ile 0 (p:Int)) (ile (p:Int) (q:Int))) (ile (q:Int) (len b))) (af (dG (aA (aN b (itn (p:Int))) (itn (aI (q:Int) (p:Int))))) f) z=f (at8 b p):=by
 have e:itn (aI (q:Int) (p:Int))=8:=by unfold itn aI;omega
 have e2:aA (aN b (itn (p:Int))) 8=(b.drop p).take 8:=by rw[qh];rfl
 rw[aB (Fb (Fb (jd (by omega)) (jd (by omega))) (jd (by unfold len;omega))),e,e2,atF ((hb.drop _).take _) (by rw[List.length_take];omega),ak]
 rfl
theorem ri {α:Type} {b:List Int} {p:Nat} (h:p<b.length) (x z:Option α):cnd (band (ile 0 (p:Int)) (ilt (p:Int) (len b))) x z=x:=aB (inb b p h)
theorem BO {k j:Nat} (h:k+j<1000000):wr .i64 (aj (k:Int) (j:Int))=((k+j:Nat):Int):=by
 unfold aj
 rw[bY (by omega) (by omega)];omega
theorem lg1 (b:List Int) (k:Nat):ai b (itn (k:Int))=at1 b k:=by rw[qh];rfl
theorem aoo {b:List Int} (hb:gm b) (hl:b.length<99999) (hf:xR b) {a y:Int} {kl:Bool} {l1 l2 l3:Int}:
 Wq (bD (fun v:Int×Int×Int×Int×List aJ×List aK×List dL×List Int×Bool×Int×Int×Int=>jr (nZ b 7:Int) b v.1 v.2.1 v.2.2.1 v.2.2.2.1 v.2.2.2.2.1 v.2.2.2.2.2.1 v.2.2.2.2.2.2.1 v.2.2.2.2.2.2.2.1 v.2.2.2.2.2.2.2.2.1 v.2.2.2.2.2.2.2.2.2.1 v.2.2.2.2.2.2.2.2.2.2.1 v.2.2.2.2.2.2.2.2.2.2.2) LF
  (0,32,a,y,[],[],[],[],kl,l1,l2,l3)) fun w=>w=((off2 b:Int),a,y,Io b,[],[],[],kl,l1,l2,l3):=by
 have hn:=hf.nums
 have hj:=hf.just
 unfold Ls PO off2 at hj
 refine gX (n:=nZ b 7) (by omega) (fun i x=>x=(((32+61*i:Nat):Int),a,y,(List.range i).map (fun i=>XD b (32+61*i)),[],[],[],kl,l1,l2,l3)) _ ?_ ?_ _ 0 (Nat.zero_le _) rfl
 ·rintro i x hi rfl
  simp only
  unfold jr
  obtain⟨k,hk⟩:∃k,k=32+61*i:=⟨_,rfl⟩
  have hkl:k+61<=b.length:=by omega
  rw[<-hk]
  have o8:wr .i64 (aj (k:Int) 8)=((k+8:Nat):Int):=BO (j:=8) (by omega)
  have o9:wr .i64 (aj (k:Int) 9)=((k+9:Nat):Int):=BO (j:=9) (by omega)
  have o10:wr .i64 (aj (k:Int) 10)=((k+10:Nat):Int):=BO (j:=10) (by omega)
  have o11:wr .i64 (aj (k:Int) 11)=((k+11:Nat):Int):=BO (j:=11) (by omega)
  have o12:wr .i64 (aj (k:Int) 12)=((k+12:Nat):Int):=BO (j:=12) (by omega)
  have o20:wr .i64 (aj (k:Int) 20)=((k+20:Nat):Int):=BO (j:=20) (by omega)
  have o28:wr .i64 (aj (k:Int) 28)=((k+28:Nat):Int):=BO (j:=28) (by omega)
  have o36:wr .i64 (aj (k:Int) 36)=((k+36:Nat):Int):=BO (j:=36) (by omega)
  have o44:wr .i64 (aj (k:Int) 44)=((k+44:Nat):Int):=BO (j:=44) (by omega)
  have o52:wr .i64 (aj (k:Int) 52)=((k+52:Nat):Int):=BO (j:=52) (by omega)
  have o60:wr .i64 (aj (k:Int) 60)=((k+60:Nat):Int):=BO (j:=60) (by omega)
  have o61:wr .i64 (aj (k:Int) 61)=((k+61:Nat):Int):=BO (j:=61) (by omega)
  simp only[o8,o9,o10,o11,o12,o20,o28,o36,o44,o52,o60,o61,lg1]
  rw[aB (nD (by omega)),rn hb rfl (by omega),ri (by omega),ri (by omega),ri (by omega),ri (by omega),rn hb rfl (by omega),rn hb rfl (by omega),rn hb rfl (by omega),rn hb rfl (by omega),rn hb rfl (by omega),rn hb rfl (by omega),ri (by omega)]
  rw[L6 (rU hb _),L6 (rU hb _),L6 (rU hb _),L6 (rU hb _)]
  rw[aB (vX (n:=1000) (by simp [dB];omega) (by decide)),ah]
  refine⟨bG (by omega),?_⟩
  rw[List.range_succ,List.map_append]
  have e61:((k+61:Nat):Int)=((32+61*(i+1):Nat):Int):=by omega
  rw[e61,hk]
  rfl
 ·rintro x rfl
  simp only
  unfold jr
  rw[dH (qm (by omega)),ah]
  rfl
theorem arH {b:List Int} (hb:gm b) (hl:b.length<99999) (hf:xR b) {a y:Int} {os:List aJ} {kl:Bool} {l1 l2 l3:Int}:
 Wq (bD (fun v:Int×Int×Int×Int×List aJ×List aK×List dL×List Int×Bool×Int×Int×Int=>jm (cN b:Int) b v.1 v.2.1 v.2.2.1 v.2.2.2.1 v.2.2.2.2.1 v.2.2.2.2.2.1 v.2.2.2.2.2.2.1 v.2.2.2.2.2.2.2.1 v.2.2.2.2.2.2.2.2.1 v.2.2.2.2.2.2.2.2.2.1 v.2.2.2.2.2.2.2.2.2.2.1 v.2.2.2.2.2.2.2.2.2.2.2) LF
  (0,(off2 b:Int),a,y,os,[],[],[],kl,l1,l2,l3)) fun w=>w=((PO b:Int),a,y,os,Fz b,[],[],kl,l1,l2,l3):=by
 have hn:=hf.nums
 have hj:=hf.just
 unfold Ls at hj
 have h3:PO b=off2 b+8*cN b:=rfl
 refine gX (n:=cN b) (by omega) (fun i x=>x=(((off2 b+8*i:Nat):Int),a,y,os,(List.range i).map (fun i=>ak9 b (off2 b+8*i)),[],[],kl,l1,l2,l3)) _ ?_ ?_ _ 0 (Nat.zero_le _) rfl
 ·rintro i x hi rfl
  simp only
  unfold jm
  obtain⟨k,hk⟩:∃k,k=off2 b+8*i:=⟨_,rfl⟩
  have hkl:k+8<=b.length:=by omega
  rw[<-hk]
  have o8:wr .i64 (aj (k:Int) 8)=((k+8:Nat):Int):=BO (j:=8) (by omega)
  simp only[o8]
  rw[aB (nD (by omega)),rn hb rfl (by omega),aB (vX (n:=1000) (by simp [dB];omega) (by decide)),ah]
  refine⟨bG (by omega),?_⟩
  rw[List.range_succ,List.map_append]
  have e:((k+8:Nat):Int)=((off2 b+8*(i+1):Nat):Int):=by omega
  rw[e,hk]
  rfl
 ·rintro x rfl
  simp only
  unfold jm
  rw[dH (qm (by omega)),ah,<-h3]
  rfl
theorem arT {b:List Int} (hb:gm b) (hl:b.length<99999) (hf:xR b) {a y:Int} {os:List aJ} {cs:List aK} {kl:Bool} {l1 l2 l3:Int}:
 Wq (bD (fun v:Int×Int×Int×Int×List aJ×List aK×List dL×List Int×Bool×Int×Int×Int=>jq (cN b:Int) b v.1 v.2.1 v.2.2.1 v.2.2.2.1 v.2.2.2.2.1 v.2.2.2.2.2.1 v.2.2.2.2.2.2.1 v.2.2.2.2.2.2.2.1 v.2.2.2.2.2.2.2.2.1 v.2.2.2.2.2.2.2.2.2.1 v.2.2.2.2.2.2.2.2.2.2.1 v.2.2.2.2.2.2.2.2.2.2.2) LF
  (0,(PO b:Int),a,y,os,cs,[],[],kl,l1,l2,l3)) fun w=>w=((Ls b:Int),a,y,os,cs,U4 b,[],kl,l1,l2,l3):=by
 have hn:=hf.nums
 have hj:=hf.just
 have h4:Ls b=PO b+24*cN b:=rfl
 refine gX (n:=cN b) (by omega) (fun i x=>x=(((PO b+24*i:Nat):Int),a,y,os,cs,(List.range i).map (fun i=>at7 b (PO b+24*i)),[],kl,l1,l2,l3)) _ ?_ ?_ _ 0 (Nat.zero_le _) rfl
 ·rintro i x hi rfl
  simp only
  unfold jq
  obtain⟨k,hk⟩:∃k,k=PO b+24*i:=⟨_,rfl⟩
  have hkl:k+24<=b.length:=by omega
  rw[<-hk]
  have o8:wr .i64 (aj (k:Int) 8)=((k+8:Nat):Int):=BO (j:=8) (by omega)
  have o16:wr .i64 (aj (k:Int) 16)=((k+16:Nat):Int):=BO (j:=16) (by omega)
  have o24:wr .i64 (aj (k:Int) 24)=((k+24:Nat):Int):=BO (j:=24) (by omega)
  simp only[o8,o16,o24]
  rw[aB (nD (by omega)),rn hb rfl (by omega),rn hb rfl (by omega),rn hb rfl (by omega),aB (vX (n:=1000) (by simp [dB];omega) (by decide)),ah]
  refine⟨bG (by omega),?_⟩
  rw[List.range_succ,List.map_append]
  have e:((k+24:Nat):Int)=((PO b+24*(i+1):Nat):Int):=by omega
  rw[e,hk]
  rfl
 ·rintro x rfl
  simp only
  unfold jq
  rw[dH (qm (by omega)),ah,<-h4]
  rfl
theorem as3 {b:List Int} (hb:gm b) (hl:b.length<99999) (hf:xR b) {y:Int} {os:List aJ} {cs:List aK} {ls:List dL} {kl:Bool} {l1 l2 l3:Int}:
 Wq (bD (fun v:Int×Int×Int×Int×List aJ×List aK×List dL×List Int×Bool×Int×Int×Int=>jb b v.1 v.2.1 v.2.2.1 v.2.2.2.1 v.2.2.2.2.1 v.2.2.2.2.2.1 v.2.2.2.2.2.2.1 v.2.2.2.2.2.2.2.1 v.2.2.2.2.2.2.2.2.1 v.2.2.2.2.2.2.2.2.2.1 v.2.2.2.2.2.2.2.2.2.2.1 v.2.2.2.2.2.2.2.2.2.2.2) LF
  (0,(Ls b:Int),(nZ b 4:Int),y,os,cs,ls,[],kl,l1,l2,l3)) fun w=>∃k:Int,w=(k,(nZ b 4:Int),y,os,cs,ls,Xe b,kl,l1,l2,l3):=by
 have hn:=hf.nums
 have hj:=hf.just
 refine gX (n:=nZ b 4) (by omega) (fun i x=>x=(((Ls b+8*i:Nat):Int),(nZ b 4:Int),y,os,cs,ls,(List.range i).map (fun i=>at8 b (Ls b+8*i)),kl,l1,l2,l3)) _ ?_ ?_ _ 0 (Nat.zero_le _) rfl
 ·rintro i x hi rfl
  simp only
  unfold jb
  obtain⟨k,hk⟩:∃k,k=Ls b+8*i:=⟨_,rfl⟩
  have hkl:k+8<=b.length:=by omega
  rw[<-hk]
  have o8:wr .i64 (aj (k:Int) 8)=((k+8:Nat):Int):=BO (j:=8) (by omega)
  simp only[o8]
  rw[aB (nD (by omega)),rn hb rfl (by omega),aB (vX (n:=1000) (by simp [dB];omega) (by decide)),ah]
  refine⟨bG (by omega),?_⟩
  rw[List.range_succ,List.map_append]
  have e:((k+8:Nat):Int)=((Ls b+8*(i+1):Nat):Int):=by omega
  rw[e,hk]
  rfl
 ·rintro x rfl
  simp only
  unfold jb
  rw[dH (qm (by omega)),ah]
  exact⟨_,rfl⟩
theorem atI {b:List Int} (hl:b.length<99999) (h4:4<=b.length) {n:Int} (hn:0<=n/\n<4294967296):Wq (bD (fun v:Int×Int×Int×ax=>jQ b v.1 v.2.1 v.2.2.1 v.2.2.2) LF (0,n,0,zS)) fun w=>match w with
 |.inl w=>b.drop (b.length - 4)≠pz n/\w=(10,zS)
 |.inr w=>b.drop (b.length - 4)=pz n/\w=(0,zS):=by
 obtain⟨t,ht⟩:∃t,t=b.drop (b.length - 4):=⟨_,rfl⟩
 have htl:t.length=4:=by rw[ht,List.length_drop];omega
 rw[<-ht]
 refine gX (n:=4) (by decide) (fun i x=>x=(n / 256^i,0,zS)/\∀(k:Nat) (h:k<t.length) (h':k<(pz n).length),k<i->t[k]=(pz n)[k]) _ ?_ ?_ _ 0 (by decide) ⟨by simp,fun k _ _ h=>by omega⟩
 ·rintro i x hi ⟨rfl,h⟩
  simp only
  unfold jQ
  have hp:(0:Int)<256^i:=Int.pow_pos (by decide)
  have hu:0<=n / 256^i/\n / 256^i<4294967296:=⟨Int.ediv_nonneg hn.1 (by omega),by have:=Int.ediv_le_self (256^i) hn.1;omega⟩
  have hsub:wr .i64 (aI (len b) 4)=((b.length - 4:Nat):Int):=by
   unfold aI len
   rw[bY (by omega) (by omega)];omega
  have hit:i<t.length:=by omega
  have hg:ai b (itn (((b.length - 4+i:Nat)):Int))=t[i]:=by
   rw[bI b _ (by omega)]
   have:t[i]=b[b.length - 4+i]'(by omega):=by
    have h1:t[i]? =b[b.length - 4+i]? :=by rw[ht,List.getElem?_drop]
    rw[List.getElem?_eq_getElem hit,List.getElem?_eq_getElem (by omega:b.length - 4+i<b.length)]at h1
    exact Option.some.inj h1
   exact this.symm
  have e2:wr .u8 (vI (n / 256^i) 256)=n / 256^i%256:=by
   unfold vI
   rw[Int.tmod_eq_emod_of_nonneg hu.1,Ul,Int.emod_emod]
  rw[aB (nD (by omega)),hsub,BO (by omega),aB (inb b _ (by omega)),hg,e2]
  have hti:(pz n)[i]'(by simp [pz];omega)=n / 256^i%256:=abU n hi
  by_cases he:t[i]=n / 256^i%256
  ·rw[dH (by simp only[aQ,bg,bM,bZ,aT,aU,bV,cu,bJ,dh,aZ,bC,cZ,dm];exact he),ah]
   refine⟨bG (by omega),?_,fun k h1 h2 hk=> ?_⟩
   ·have:wr .u32 (JA (n / 256^i) 256)=n / 256^(i+1):=by
     unfold JA
     rw[Int.tdiv_eq_ediv_of_nonneg hu.1,aa4,Int.emod_eq_of_lt (by omega) (by omega),Int.pow_succ]
     exact Int.ediv_ediv_of_nonneg (by omega)
    rw[this]
   ·by_cases hki:k=i
    ·subst hki;rw[he,hti]
    ·exact h k h1 h2 (by omega)
  ·rw[aB (by simp only[aQ,bg,bM,bZ,aT,aU,bV,cu,bJ,dh,aZ,bC,cZ,dm];exact he),ah]
   refine⟨fun hh=>he ?_,rfl⟩
   rw[<-hti]
   simp only[hh]
 ·rintro x ⟨rfl,h⟩
  simp only
  unfold jQ
  rw[dH (qm (by omega)),ah]
  exact⟨List.ext_getElem (by rw[htl];rfl) fun k h1 h2=>h k h1 h2 (by omega),rfl⟩
theorem auJ:inI 0:=by decide
theorem arz (a b:Int):Wq (iQ a b) fun r=>inI r.1:=by
 unfold iQ
 rw[gq]
 exact⟨fun _=>(ah _).2 (by decide),fun _=>(ah _).2 (ai5 _)⟩
theorem asL {o:aJ} (h:lX o):Tot (l9 o):=by
 unfold l9
 rw[Gn,ak]
 refine adQ (fun _=>TK _) fun _=>adQ (fun _=>TK _) fun _=> ?_
 refine aqB (aol (ai5 _) h.price).tot fun y1 _=>adQ (fun _=>TK _) fun _=>adQ (fun _=> ?_) fun _=>TK _
 exact aqB (aol (ai5 _) h.newPrice).tot fun y2 _=>adQ (fun _=>TK _) fun _=>adQ (fun _=>TK _) fun _=>TK _
theorem aqy (o:aJ):Tot (kW o):=by
 unfold kW
 rw[Gn,ak]
 exact adQ (fun _=>TK _) fun _=>adQ (fun _=>TK _) fun _=>TK _
theorem auM {s:ax} (ho:∀o∈s.orders,lX o) (hol:s.orders.length<999999) (i:Int) {c:aK} (hc:rW c) (a:Bool) (b:List aK):
 Wq (bD (fun v:Int×Bool×List aK×aK=>fQ i s v.fst v.snd.fst v.snd.snd.fst v.snd.snd.snd) LF (0,a,b,c)) fun w=>match w with
  |.inl w=>w.1=false/\w.2.1=[]
  |.inr w=>rW w.2.2:=by
 refine gX (n:=s.orders.length) hol (fun k x=>rW x.2.2) _ ?_ ?_ _ 0 (Nat.zero_le _) hc
 ·rintro k ⟨x1,x2,x3⟩ hk hx
  simp only at hx ⊢
  unfold fQ
  rw[Oy s.orders hk,bI _ k hk]
  have hor:=ho _ (List.getElem_mem hk)
  generalize s.orders[k]=o at hor
  rw[gq]
  refine⟨fun _=>(ah _).2 ⟨bG (by omega),hx⟩,fun _=> ?_⟩
  refine(asL hor).bind fun y0 _=> ?_
  refine(arz _ _).bind fun y1 h1=> ?_
  rw[gq]
  refine⟨fun _=> ?_,fun _=> ?_⟩
  ·refine(aqy o).bind fun y2 _=>(arz _ _).bind fun y3 h3=> ?_
   rw[gq]
   exact⟨fun _=>(ah _).2 ⟨rfl,rfl⟩,fun _=>(ah _).2 ⟨bG (by omega),⟨hx.pos,h3,hx.sell,h1⟩⟩⟩
  ·refine(aqy o).bind fun y2 _=>(arz _ _).bind fun y3 h3=> ?_
   rw[gq]
   exact⟨fun _=>(ah _).2 ⟨rfl,rfl⟩,fun _=>(ah _).2 ⟨bG (by omega),⟨hx.pos,hx.buy,h3,h1⟩⟩⟩
 ·rintro⟨x1,x2,x3⟩ hx
  simp only at hx ⊢
  unfold fQ
  rw[Hz,ah]
  exact hx
theorem ate {s:ax} (hs:BV s) (ho:∀o∈s.orders,lX o) (hc:∀c∈s.cells,rW c):Wq (jv s) fun r=>r.1.length<=64/\∀c∈r.1,rW c:=by
 obtain⟨hcl,_,_,hol⟩:=hs.lens
 unfold jv
 refine Wq.bind (Q:=fun w:(Bool×List aK) ⊕ (List aK×Bool×List aK)=>match w with
  |.inl w=>w.1=false/\w.2=[]
  |.inr w=>w.1.length=s.cells.length/\∀c∈w.1,okC c)
  (gX (n:=s.cells.length) (step:=fun v:Int×List aK×Bool×List aK=>iy s v.fst v.snd.fst v.snd.snd.fst v.snd.snd.snd) (by omega)
    (fun i x=>x.1.length=i/\∀c∈x.1,okC c) _ ?_ ?_ _ 0 (Nat.zero_le _) ⟨rfl,by simp⟩) ?_
 ·rintro i ⟨x1,x2,x3⟩ hi ⟨g1,g2⟩
  simp only at g1 g2 ⊢
  unfold iy
  rw[Oy s.cells hi,bI _ i hi]
  have hci:=hc _ (List.getElem_mem hi)
  refine(auM ho (by omega) (i:Int) (c:=aK.mk s.cells[i].pos 0 0 0) ⟨hci.pos,auJ,auJ,auJ⟩ x2 x3).bind fun w hw=> ?_
  cases w with
  |inl w=>
   obtain⟨h1,h2⟩:=hw
   simp only[gY,ah]
   exact⟨h1,h2⟩
  |inr w=>
   simp only[gY]
   rw[abK hw,ak,fB,JW]
   by_cases hok:okC w.2.2
   ·rw[if_pos hok,aB (vX (n:=1000) (by simp [dB];omega) (by decide)),ah]
    refine⟨bG (by omega),by simp [dB,g1],fun c hcm=> ?_⟩
    rcases List.mem_append.1 hcm with h | h
    ·exact g2 c h
    ·rw[List.mem_singleton]at h;rw[h];exact hok
   ·rw[if_neg hok,ah]
    exact⟨rfl,rfl⟩
 ·rintro⟨x1,x2,x3⟩ ⟨g1,g2⟩
  simp only at g1 g2 ⊢
  unfold iy
  rw[Hz,ah]
  exact⟨g1,g2⟩
 ·rintro w hw
  cases w with
  |inl w=>
   obtain⟨h1,h2⟩:=hw
   simp only[gY,ah,h2]
   exact⟨by simp,by simp⟩
  |inr w=>
   obtain⟨h1,h2⟩:=hw
   simp only[gY]
   have hlen:len w.1=s.accounts*s.symbols:=by unfold len;rw[h1];exact hs.2.2.1
   refine Wq.bind (Q:=fun w:(Bool×List aK) ⊕ (Bool×List aK)=>match w with | .inl w=>w.2=[] | .inr _=>True)
    (gX (n:=s.accounts.toNat) (step:=fun v:Int×Bool×List aK=>gK w.fst s v.fst v.snd.fst v.snd.snd) (by have:=hs.1.2;omega)
    (fun i x=>True) _ ?_ ?_ _ 0 (Nat.zero_le _) trivial) ?_
   ·rintro i q hi _
    have hia:(i:Int)<s.accounts:=by omega
    obtain⟨c1,c2⟩:=ap7 hs.1 hs.2.1 (cs:=w.1) hlen (a:=(i:Int)) (by omega) hia
    simp only
    unfold gK
    have hal:(UL s.symbols w.1 (i:Int)).length<999999:=by have:=acI (n:=s.symbols) (cs:=w.1) (a:=(i:Int));omega
    rw[aB (nD hia),aB c1,c2,aof hal (fun c hcm=>by
     have:=h2 c (acJ hcm)
     exact⟨this.2.1.2.2,this.1.opn⟩),ak,gq]
    exact⟨fun _=>(ah _).2 rfl,fun _=>(ah _).2 ⟨bG (by have:=hs.1.2;omega),trivial⟩⟩
   ·rintro q _
    simp only
    unfold gK
    rw[dH (qm (by omega)),ah]
    trivial
   ·rintro v hv
    cases v with
    |inl v=>
     simp only[gY,ah]
     rw[show v.2=[]from hv]
     exact⟨by simp,by simp⟩
    |inr v=>
     simp only[gY,ah]
     exact⟨by omega,fun c hcm=>(h2 c hcm).1⟩
theorem avF {b:List Int} (hb:gm b) (hl:b.length<99999) (hf:xR b) {p5:List aK} {p6:List dL} {p7:List Int} {p8:Bool} {p9 p10 p11:Int}:
 Wq (bD (fun v:Int×Int×ax=>jc (nZ b 7:Int) b (at1 b 4) (at1 b 5) (Io b) p5 p6 p7 p8 p9 p10 p11 v.1 v.2.1 v.2.2) LF (0,0,zS)) fun w=>match w with
  |.inl w=>w=(2,zS)/\¬ZW b
  |.inr _=>∀(i:Nat),i<nZ b 7->¬1<at1 b (32+61*i+60)/\(XD b (32+61*i)).account<at1 b 4/\(XD b (32+61*i)).symbol<at1 b 5:=by
 have hn:=hf.nums
 have hj:=hf.just
 unfold Ls PO off2 at hj
 have hol:(Io b).length=nZ b 7:=by simp [Io]
 refine gX (n:=nZ b 7) (by omega) (fun i x=>x=(0,zS)/\∀(j:Nat),j<i->¬1<at1 b (32+61*j+60)/\(XD b (32+61*j)).account<at1 b 4/\(XD b (32+61*j)).symbol<at1 b 5) _ ?_ ?_ _ 0 (Nat.zero_le _) ⟨rfl,fun j h=>by omega⟩
 ·rintro i x hi ⟨rfl,h⟩
  simp only
  unfold jc
  have ho:ai (Io b) (itn (i:Int))=XD b (32+61*i):=by
   rw[bI _ i (by omega)]
   simp [Io]
  have hw:wr .i64 (aj (wr .i64 (aj 32 (wr .i64 (dY 61 (i:Int))))) 60)=((32+61*i+60:Nat):Int):=by
   unfold aj dY
   rw[bY (n:=61*(i:Int)) (by omega) (by omega),bY (n:=32+61*(i:Int)) (by omega) (by omega),bY (by omega) (by omega)]
   omega
  have hmem:XD b (32+61*i)∈(pZ b).orders:=by
   show _∈Io b
   exact List.mem_map.2 ⟨i,List.mem_range.2 hi,rfl⟩
  rw[aB (nD (by omega)),aB (inb (Io b) i (by omega)),ho,hw,inb b _ (by omega),sG,bK,lg1]
  by_cases hbad:(at1 b 4<=(XD b (32+61*i)).account\/at1 b 5<=(XD b (32+61*i)).symbol)\/1<at1 b (32+61*i+60)
  ·rw[aB (by simp only[aQ,bg,bM,bZ,aT,aU,bV,cu,bJ,dh,aZ,bC,cZ,dm];exact hbad),ah,noS]
   refine⟨rfl,fun hg=> ?_⟩
   rcases hbad with hx | hx
   ·have hin:=ug hg.2 _ hmem
    have h1:(XD b (32+61*i)).account<at1 b 4:=hin.2.2.1
    have h2:(XD b (32+61*i)).symbol<at1 b 5:=hin.2.2.2
    omega
   ·exact hg.1 (.inr ⟨i,hi,hx⟩)
  ·rw[dH (by simp only[aQ,bg,bM,bZ,aT,aU,bV,cu,bJ,dh,aZ,bC,cZ,dm];omega),ah]
   refine⟨bG (by omega),rfl,fun j hj2=> ?_⟩
   by_cases hji:j=i
   ·subst hji
    exact⟨fun h=>hbad (.inr h),by omega,by omega⟩
   ·exact h j (by omega)
 ·rintro x ⟨rfl,h⟩
  simp only
  unfold jc
  rw[dH (qm (by omega)),ah]
  exact h
theorem anM {b:List Int} (h:4<=b.length):b.take 4=magic↔(at1 b 0=115/\at1 b 1=110/\at1 b 2=97/\at1 b 3=102):=by
 match b,h with
 |p::q::r::s::t,_=>
  simp [magic,at1,ai]
theorem al5 {α:Type} {b:List Int} (hb:gm b) {k:Nat} (h:k+8<=b.length) (f:Int->Option α):af (dG (aA (aN b k) 8)) f=f (at8 b k):=by
 have e2:aA (aN b k) 8=(b.drop k).take 8:=rfl
 rw[e2,atF ((hb.drop _).take _) (by rw[List.length_take];omega),ak]
 rfl
theorem aq3 {b:List Int} (hb:gm b) (hl:b.length<99999):Wq (og b) (aeI b):=by
 have r4:=rU hb 4;have r5:=rU hb 5;have r7:=rU hb 7;have r6:=rU hb 6
 have e0:ai b 0=at1 b 0:=rfl
 have e1:ai b 1=at1 b 1:=rfl
 have e2:ai b 2=at1 b 2:=rfl
 have e3:ai b 3=at1 b 3:=rfl
 have e4:ai b 4=at1 b 4:=rfl
 have e5:ai b 5=at1 b 5:=rfl
 have e6:ai b 6=at1 b 6:=rfl
 have e7:ai b 7=at1 b 7:=rfl
 have notForm:¬xR b->Wq (some (zS,(2:Int))) (aeI b):=fun h=>(ah _).2 ⟨fun _=>rfl,fun h'=>absurd h' h,fun h'=>absurd h' h,fun h'=>absurd h' h⟩
 unfold og
 rw[noS,e0,e1,e2,e3,e4,e5,e6,e7,L6 r4,L6 r5,L6 r7]
 have c0:bor (ilt 0 (len b)) (ay (ay (ilt (len b) 36)))=true:=by simp only[aQ,bg,bM,bZ,aT,aU,bV,cu,bJ,dh,aZ,bC,cZ,dm];omega
 have c1:bor (ilt 1 (len b)) (ay (ay (bor (ilt (len b) 36) (ay (ieq (at1 b 0) 115)))))=true:=by simp only[aQ,bg,bM,bZ,aT,aU,bV,cu,bJ,dh,aZ,bC,cZ,dm];omega
 have c2:bor (ilt 2 (len b)) (ay (ay (bor (bor (ilt (len b) 36) (ay (ieq (at1 b 0) 115))) (ay (ieq (at1 b 1) 110)))))=true:=by simp only[aQ,bg,bM,bZ,aT,aU,bV,cu,bJ,dh,aZ,bC,cZ,dm];omega
 have c3:bor (ilt 3 (len b)) (ay (ay (bor (bor (bor (ilt (len b) 36) (ay (ieq (at1 b 0) 115))) (ay (ieq (at1 b 1) 110))) (ay (ieq (at1 b 2) 97)))))=true:=by simp only[aQ,bg,bM,bZ,aT,aU,bV,cu,bJ,dh,aZ,bC,cZ,dm];omega
 rw[aB c0,aB c1,aB c2,aB c3]
 by_cases h36:36<=b.length/\b.take 4=magic
 case neg=>
  rw[aB (b:=bor _ _) (by
   simp only[aQ,bg,bM,bZ,aT,aU,bV,cu,bJ,dh,aZ,bC,cZ,dm]
   unfold len
   by_cases hl36:36<=b.length
   ·have:¬(at1 b 0=115/\at1 b 1=110/\at1 b 2=97/\at1 b 3=102):=fun h=>h36 ⟨hl36,(anM (by omega)).2 h⟩
    omega
   ·omega)]
  exact notForm fun hf=>h36 ⟨hf.many,hf.mark⟩
 have hmk:=(anM (by omega)).1 h36.2
 rw[dH (b:=bor _ _) (by
  simp only[aQ,bg,bM,bZ,aT,aU,bV,cu,bJ,dh,aZ,bC,cZ,dm]
  unfold len
  omega),aB (nD (by unfold len;omega)),aB (nD (by unfold len;omega)),aB (nD (by unfold len;omega)),aB (nD (by unfold len;omega))]
 by_cases hdim:(1<=at1 b 4/\at1 b 4<=8)/\(1<=at1 b 5/\at1 b 5<=8)/\at1 b 7<=64
 case neg=>
  rw[aB (b:=bor _ _) (by simp only[aQ,bg,bM,bZ,aT,aU,bV,cu,bJ,dh,aZ,bC,cZ,dm];omega)]
  exact notForm fun hf=>hdim ⟨hf.acc,hf.sym,hf.ords⟩
 rw[dH (b:=bor _ _) (by simp only[aQ,bg,bM,bZ,aT,aU,bV,cu,bJ,dh,aZ,bC,cZ,dm];omega)]
 have hcN:((cN b:Nat):Int)=at1 b 4*at1 b 5:=by
  unfold cN
  rw[Int.natCast_mul,XQ hb,XQ hb]
 have n4:=XQ hb 4;have n7:=XQ hb 7
 have m:=vJ (a:=at1 b 4) (b:=at1 b 5) r4.1 (by omega) r5.1 (by omega)
 have hm:wr .i64 (dY (at1 b 4) (at1 b 5))=(cN b:Int):=by
  unfold dY
  rw[bY m.1 (by omega),hcN]
 have hsz:wr .i64 (aj (wr .i64 (aj (wr .i64 (aj 36 (wr .i64 (dY 61 (at1 b 7))))) (wr .i64 (dY 32 (wr .i64 (dY (at1 b 4) (at1 b 5))))))) (wr .i64 (dY 8 (at1 b 4))))=((Ls b+8*nZ b 4+4:Nat):Int):=by
  rw[hm]
  unfold aj dY
  rw[bY (n:=61*at1 b 7) (by omega) (by omega),bY (n:=36+61*at1 b 7) (by omega) (by omega),bY (n:=32*(cN b:Int)) (by omega) (by omega),bY (n:=36+61*at1 b 7+32*(cN b:Int)) (by omega) (by omega),bY (n:=8*at1 b 4) (by omega) (by omega),bY (by omega) (by omega)]
  unfold Ls PO off2
  omega
 rw[hsz]
 by_cases hj:b.length=Ls b+8*nZ b 4+4
 case neg=>
  rw[aB (b:=ay _) (by
   simp only[aQ,bg,bM,bZ,aT,aU,bV,cu,bJ,dh,aZ,bC,cZ,dm]
   unfold len
   omega)]
  exact notForm fun hf=>hj hf.just
 have hf:xR b:=⟨h36.1,h36.2,hdim.1,hdim.2.1,hdim.2.2,hj⟩
 rw[dH (b:=ay _) (by
  simp only[aQ,bg,bM,bZ,aT,aU,bV,cu,bJ,dh,aZ,bC,cZ,dm]
  unfold len
  omega)]
 have hsub:wr .i64 (aI (len b) 4)=((b.length - 4:Nat):Int):=by
  unfold aI len
  rw[bY (by omega) (by omega)];omega
 rw[hsub,aB (Fb (jd (by omega)) (jd (by unfold len;omega))),qh]
 have el:aA b (b.length - 4)=b.take (b.length - 4):=rfl
 rw[el,Zn (by rw[List.length_take];omega) (hb.take _),ak]
 refine(atI hl (by omega) (abv _)).bind fun w hw=> ?_
 match w,hw with
 |.inl w,hw=>
  obtain⟨h1,rfl⟩:=hw
  show Wq (some (zS,(10:Int))) (aeI b)
  exact(ah _).2 ⟨fun h=>absurd hf h,fun _ _=>rfl,fun _ h=>absurd h h1,fun _ h=>absurd h h1⟩
 |.inr w,hw=>
  obtain⟨hsum,rfl⟩:=hw
  have hsum:sumP b:=hsum
  simp only[gY]
  have hnn:=hf.nums
  have hlen:36<=b.length:=h36.1
  rw[aB (jd (by unfold len;omega)),al5 hb (by omega),aB (jd (by unfold len;omega)),al5 hb (by omega),aB (jd (by unfold len;omega)),al5 hb (by omega),hm,<-n7]
  refine(aoo hb hl hf).bind fun y6 h6=> ?_
  subst h6
  try simp only
  refine(arH hb hl hf).bind fun y7 h7=> ?_
  subst h7
  try simp only
  refine(arT hb hl hf).bind fun y8 h8=> ?_
  subst h8
  try simp only
  have hcaps:=as3 hb hl hf (y:=at1 b 5) (os:=Io b) (cs:=Fz b) (ls:=U4 b) (kl:=ieq (at1 b 6) 1) (l1:=at8 b 8) (l2:=at8 b 16) (l3:=at8 b 24)
  rw[n4]at hcaps
  refine hcaps.bind fun y9 h9=> ?_
  obtain⟨k9,rfl⟩:=h9
  try simp only
  have bad2:¬ZW b->Wq (some (zS,(2:Int))) (aeI b):=fun h=>(ah _).2 ⟨fun h'=>absurd hf h',fun _ h'=>absurd hsum h',fun _ _ _=>rfl,fun _ _ h'=>absurd h' h⟩
  refine(avF hb hl hf).bind fun w hw=> ?_
  match w,hw with
  |.inl w,hw=>
   obtain⟨rfl,h2⟩:=hw
   exact bad2 h2
  |.inr w,hin=>
   have hin:∀(i:Nat),i<nZ b 7->¬1<at1 b (32+61*i+60)/\(XD b (32+61*i)).account<at1 b 4/\(XD b (32+61*i)).symbol<at1 b 5:=hin
   simp only[gY]
   have hp:ax.mk (at1 b 4) (at1 b 5) (Io b) (Fz b) (U4 b) (Xe b) (ieq (at1 b 6) 1) (at8 b 8) (at8 b 16) (at8 b 24)=pZ b:=rfl
   rw[hp]
   have hsz:=ach hb hf
   have hor:=anD hb
   have hcz:∀c∈(pZ b).cells,rW c:=fun c hc=>by
    obtain⟨q1,q2⟩:=akx c hc
    rw[q2]
    exact⟨q1,⟨by simp only;omega,by simp only;omega⟩,⟨by simp only;omega,by simp only;omega⟩,⟨by simp only;omega,by simp only;omega⟩⟩
   have hcs:Wq (jv (pZ b)) fun r=>(r.1.length<=64/\∀c∈r.1,rW c)/\((∀o∈(pZ b).orders,tV (pZ b) o)->(r.2=true↔avn (Q5 (pZ b)))/\(r.2=true->r.1=gJ (pZ b) (pZ b).orders)):=by
    obtain⟨r,er,h1⟩:=ate hsz (fun o h=>(hor o h).1) hcz
    refine⟨r,er,h1,fun hall=> ?_⟩
    obtain⟨r',er',h2⟩:=amZ hsz (fun o h=>⟨hall o h,(hor o h).1⟩) ⟨hcz,by have:=hsz.lens.1;omega⟩
    rw[er]at er';cases er'
    exact h2
   refine hcs.bind fun y12 ⟨⟨q1,q2⟩,q3⟩=> ?_
   rw[aB (b:=bor (ilt 6 _) _) (by
    have:ilt 6 (len b)=true:=nD (by unfold len;omega)
    rw[this];rfl)]
   have hin2:∀o∈(pZ b).orders,tV (pZ b) o->True:=fun _ _ _=>trivial
   by_cases hgo:y12.2=true/\¬1<at1 b 6
   case neg=>
    have hb1:bor (ay y12.2) (ilt 1 (at1 b 6))=true:=by
     simp only[aQ,bg,bM,bZ,aT,aU,bV,cu,bJ,dh,aZ,bC,cZ,dm]
     cases hy:y12.2 with
     |false=>exact .inl rfl
     |true=>exact .inr (Decidable.byContradiction fun h=>hgo ⟨hy,h⟩)
    rw[hb1,dD,bW,ak,sG,bK]
    refine bad2 fun hg=>hgo ⟨?_,fun h=>hg.1 (.inl h)⟩
    have hall:=ug hg.2
    exact(q3 hall).1.2 ⟨hg.2.ok,hg.2.acct⟩
   have hb1:bor (ay y12.2) (ilt 1 (at1 b 6))=false:=by
    rw[hgo.1]
    simp only[aQ,bg,bM,bZ,aT,aU,bV,cu,bJ,dh,aZ,bC,cZ,dm]
    exact⟨trivial,by omega⟩
   rw[hb1,dA,bK]
   have hno:¬asj b:=by
    rintro(h | ⟨i,hi,h⟩)
    ·exact hgo.2 h
    ·exact(hin i hi).1 h
   obtain⟨t,ht⟩:∃t,t=ax.mk (at1 b 4) (at1 b 5) (Io b) y12.1 (U4 b) (Xe b) (ieq (at1 b 6) 1) (at8 b 8) (at8 b 16) (at8 b 24):=⟨_,rfl⟩
   rw[<-ht]
   have hl2:=hsz.lens
   have htk:yK t:=by
    have hc8:=LZ b
    rw[ht]
    refine⟨Nl r4,Nl r5,⟨fun o ho=>(hor o ho).1,by have:(Io b).length<=64:=hl2.2.2.2;simp only;omega⟩,⟨q2,by simp only;omega⟩,⟨fun x hx=> ?_,by have:(U4 b).length=(Fz b).length:=hl2.2.1;have:(Fz b).length<=64:=hl2.1;simp only;omega⟩,⟨fun x hx=> ?_,by have:(Xe b).length=(at1 b 4).toNat:=hl2.2.2.1;simp only;omega⟩,hc8 _,hc8 _,hc8 _⟩
    ·obtain⟨i,_,rfl⟩:=List.mem_map.1 (show x∈U4 b from hx)
     exact⟨hc8 _,hc8 _,hc8 _⟩
    ·obtain⟨i,_,rfl⟩:=List.mem_map.1 (show x∈Xe b from hx)
     exact hc8 _
   have hts:BU t:=by
    rw[ht]
    refine⟨?_,?_,?_,?_⟩
    ·have:(Io b).length<=64:=hl2.2.2.2
     show(Io b).length<_;omega
    ·show y12.1.length<_;omega
    ·have:(U4 b).length=(Fz b).length:=hl2.2.1
     have:(Fz b).length<=64:=hl2.1
     show(U4 b).length<_;omega
    ·have:(Xe b).length=(at1 b 4).toNat:=hl2.2.2.1
     show(Xe b).length<_;omega
   refine(anN htk hts).bind fun y13 h13=> ?_
   have hst:ZW b↔zY t:=by
    constructor
    ·intro hg
     have hall:=ug hg.2
     have e:=(q3 hall).2 hgo.1
     have:t=Q5 (pZ b):=by rw[ht,e];rfl
     rw[this];exact hg.2
    ·intro hR
     have hall:∀o∈(pZ b).orders,tV (pZ b) o:=fun o ho=>by
      have:=hR.fine.ords o (by rw[ht];exact ho)
      rw[ht]at this
      exact this
     have e:=(q3 hall).2 hgo.1
     have:t=Q5 (pZ b):=by rw[ht,e];rfl
     rw[this]at hR
     exact⟨hno,hR⟩
   cases y13 with
   |false=>
    rw[iM,dA,bK]
    exact bad2 fun hg=>by have:=h13.2 (hst.1 hg);cases this
   |true=>
    rw[iM,dD,bW,ah]
    have hg:=hst.2 (h13.1 rfl)
    have hall:=ug hg.2
    have e:=(q3 hall).2 hgo.1
    have:t=Q5 (pZ b):=by rw[ht,e];rfl
    rw[this]
    exact⟨fun h=>absurd hf h,fun _ h=>absurd hsum h,fun _ _ h=>absurd hg h,fun _ _ _=>rfl⟩
def UO (c:UInt8):Prop:=(97<=c.toNat/\c.toNat<=122)\/(48<=c.toNat/\c.toNat<=57)\/c.toNat=46
instance (c:UInt8):Decidable (UO c):=by unfold UO;infer_instance
def nJ (s:List UInt8):Prop:=(∀c∈s,UO c)/\1<=s.length/\s.length<=16
instance (s:List UInt8):Decidable (nJ s):=by unfold nJ;infer_instance
theorem Zq:∀(x y:List UInt8),slt x y=decide (x<y)
 |[],[]=>by simp [slt,Op.bytesLess]
 |_::_,[]=>by simp [slt,Op.bytesLess]
 |[],_::_=>by simp [slt,Op.bytesLess]
 |a::x,b::y=>by
  have ih:=Zq x y
  unfold slt at*
  rw[Op.bytesLess,ih]
  simp only[List.cons_lt_cons_iff]
  by_cases h1:a<b<;>by_cases h2:a=b<;>by_cases h3:x<y<;>simp [h1,h2,h3]
theorem WE (a:List UInt8):¬a<a:=List.lt_irrefl a
theorem P8 {a b c:List UInt8} (h:a<b) (k:b<c):a<c:=List.lt_trans h k
theorem aoe (a b:List UInt8):a<b\/a=b\/b<a:=by
 by_cases h:a<b
 ·exact .inl h
 ·by_cases k:b<a
  ·exact .inr (.inr k)
  ·exact .inr (.inl (List.le_antisymm (List.not_lt.1 k) (List.not_lt.1 h)))
theorem aqs {n:Nat} (hn:n<999999) {step:Int×Bool->Option ((Int×Bool) ⊕ (Bool ⊕ Bool))} (P:Nat->Prop)
 (h:∀(i:Nat) (q:Bool),i<n->(∀j,j<i->P j)->Wq (step ((i:Int),q)) fun r=>match r with | .inl (k,_)=>k=((i+1:Nat):Int)/\P i | .inr (.inl b)=>b=false/\¬P i | .inr (.inr _)=>False)
 (he:∀q:Bool,Wq (step ((n:Int),q)) fun r=>match r with | .inr (.inr _)=>True | _=>False) (q0:Bool):
 Wq (bD step LF ((0:Int),q0)) fun w=>match w with | .inl b=>b=false/\¬∀i,i<n->P i | .inr _=>∀i,i<n->P i:=by
 refine gX (n:=n) hn (fun i _=>∀j,j<i->P j) _ (fun i q hi hj=>(h i q hi hj).mono fun r hr=> ?_) (fun q hj=>(he q).mono fun r hr=> ?_) q0 0 (Nat.zero_le _) (fun j hj=>by omega)
 ·match r,hr with
  |.inl (k,_),hr=>
   refine⟨hr.1,fun j hj2=> ?_⟩
   by_cases e:j=i
   ·subst e;exact hr.2
   ·exact hj j (by omega)
  |.inr (.inl b),hr=>exact⟨hr.1,fun g=>hr.2 (g i hi)⟩
  |.inr (.inr _),hr=>exact hr.elim
 ·match r,hr with
  |.inl _,hr=>exact hr.elim
  |.inr (.inl b),hr=>exact hr.elim
  |.inr (.inr _),_=>exact hj
theorem agF (l:List UInt8) (i:Nat) (h:i<l.length):ZM l (itn (i:Int))=(l[i].toNat:Int):=by
 simp [ZM,itn,h]
theorem ZJ {α:Type} (l:List α):ilt ((l.length:Nat):Int) (len l)=false:=by
 rw[show((l.length:Nat):Int)=len l from rfl];simp [ilt]
theorem auh (c:UInt8):Nc (c.toNat:Int)=some (decide (UO c)):=by
 refine Wq.dec ?_
 unfold Nc UO
 rw[ah]
 simp only[aQ,bg,bM,bZ,aT,aU,bV,cu,bJ,dh,aZ,bC,cZ,dm]
 omega
theorem Y3 {s:List UInt8}:(∀i,i<s.length->∀h:i<s.length,UO s[i])↔∀c∈s,UO c:=by
 constructor
 ·intro h c hc
  obtain⟨i,hi,rfl⟩:=List.mem_iff_getElem.1 hc
  exact h i hi hi
 ·intro h i hi h2
  exact h _ (List.getElem_mem h2)
end Go.Av
