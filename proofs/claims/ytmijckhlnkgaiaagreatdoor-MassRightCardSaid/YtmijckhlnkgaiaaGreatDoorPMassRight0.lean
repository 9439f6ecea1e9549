/- The plain law, part 0. No condition. -/
import Derived.Test.YtmijckhlnkgaiaaGreatDoorDMassRight
import Derived.KernelRfl
set_option linter.unusedVariables false
set_option linter.unusedSimpArgs false
set_option linter.unnecessarySimpa false
namespace Go.Av
open Go
theorem aee {V W:Type} {step:V->Option (V ⊕ W)} (μ:V->Nat) (I:V->Prop) (R:W->Prop)
 (h:∀v,I v->(∃v',step v=some (.inl v')/\I v'/\μ v'<μ v)\/∃w,step v=some (.inr w)/\R w):∀(n:Nat) (v:V),μ v<n->I v->∃w,bZ step n v=some w/\R w
 |0,v,hn,_=>by omega
 |n+1,v,hn,hI=>by
  rcases h v hI with ⟨v',h1,h2,h3⟩ | ⟨w,h1,h2⟩
  ·obtain⟨w,g1,g2⟩:=aee μ I R h n v' (by omega) h2
   exact⟨w,by rw[bZ,h1];exact g1,g2⟩
  ·exact⟨w,by rw[bZ,h1];rfl,h2⟩
theorem aaw {n:Nat} (h:n<1000000):n<LF:=Nat.lt_trans h (by decide)
theorem ng {n:Int} (h:inI n):wr .i64 n=n:=by
 unfold inI at h;unfold wr IntKind.wrap;simp [IntKind.bits,IntKind.signed];omega
theorem afN {n:Int} (h1: -18446744073709551616<=n) (h2:n<=18446744073709551616):
 (inI n/\wr .i64 n=n)\/(9223372036854775807<n/\wr .i64 n=n - 18446744073709551616)\/(n< -9223372036854775808/\wr .i64 n=n+18446744073709551616):=by
 unfold inI wr IntKind.wrap
 simp [IntKind.bits,IntKind.signed]
 omega
theorem rX (n:Int):wr .u64 n=n%18446744073709551616:=by
 unfold wr IntKind.wrap;simp [IntKind.bits,IntKind.signed]
theorem bV {n:Int} (h1:0<=n) (h2:n<1000000000000):wr .i64 n=n:=ng ⟨by omega,by omega⟩
theorem au {α:Type} {b:Bool} {x y:α} (h:b=true):cnd b x y=x:=by subst h;rfl
theorem bW {α:Type} {b:Bool} {x y:α} (h:b=false):cnd b x y=y:=by subst h;rfl
theorem AB {α:Type} (b:Bool) (x y:α):cnd b x y=if b=true then x else y:=by cases b<;>rfl
theorem dQ {α:Type} (a b:Int) (x y:α):cnd (ieq a b) x y=if a=b then x else y:=by
 by_cases h:a=b
 ·rw[if_pos h,show ieq a b=true by simp [ieq,h]];rfl
 ·rw[if_neg h,show ieq a b=false by simp [ieq,h]];rfl
theorem Ea {α:Type} (a b:Int) (x y:α):cnd (ilt a b) x y=if a<b then x else y:=by
 by_cases h:a<b
 ·rw[if_pos h,show ilt a b=true by simp [ilt,h]];rfl
 ·rw[if_neg h,show ilt a b=false by simp [ilt,h]];rfl
theorem ajZ {α:Type} (a b:Int) (x y:α):cnd (ile a b) x y=if a<=b then x else y:=by
 by_cases h:a<=b
 ·rw[if_pos h,show ile a b=true by simp [ile,h]];rfl
 ·rw[if_neg h,show ile a b=false by simp [ile,h]];rfl
theorem dP {α:Type} (b:Bool) (x y:α):cnd (ak b) x y=cnd b y x:=by cases b<;>rfl
theorem uH {α:Type} (P:Prop) [Decidable P] (x y:α):cnd (decide P) x y=if P then x else y:=by
 by_cases h:P
 ·rw[if_pos h,decide_eq_true h];rfl
 ·rw[if_neg h,decide_eq_false h];rfl
instance (n:Int):Decidable (inI n):=by unfold inI;infer_instance
theorem ai {α β:Type} (a:α) (f:α->Option β):af (some a) f=f a:=rfl
theorem arR {α β:Type} (p:Prop) [Decidable p] (x y:Option α) (f:α->Option β):af (if p then x else y) f=if p then af x f else af y f:=by split<;>rfl
theorem DL {a b:Int} (h:a<b):ilt a b=true:=decide_eq_true h
theorem zQ {a b:Int} (h:¬a<b):ilt a b=false:=decide_eq_false h
theorem gV {a b:Int} (h:a<=b):ile a b=true:=decide_eq_true h
theorem MX {a b:Int} (h:¬a<=b):ile a b=false:=decide_eq_false h
theorem abd (a:Int):ieq a a=true:=by simp [ieq]
theorem alg (a:Bool):beq a a=true:=by cases a<;>rfl
theorem LD {a b:Bool} (h1:a=true) (h2:b=true):band a b=true:=by subst h1;subst h2;rfl
theorem aS {α:Type} [Inhabited α] (l:List α) (i:Nat) (h:i<l.length):aj l (itn (i:Int))=l[i]:=by
 simp [aj,itn,h]
theorem inb {α:Type} (l:List α) (i:Nat) (h:i<l.length):band (ile 0 (i:Int)) (ilt (i:Int) (len l))=true:=LD (gV (by omega)) (DL (by simp only[len];omega))
theorem aH (a b:Bool):(band a b=true)=(a=true/\b=true):=by cases a<;>cases b<;>simp [band]
theorem aJ (a b:Bool):(band a b=false)=(a=false\/b=false):=by cases a<;>cases b<;>simp [band]
theorem aW (a b:Bool):(bor a b=true)=(a=true\/b=true):=by cases a<;>cases b<;>simp [bor]
theorem bf (a b:Bool):(bor a b=false)=(a=false/\b=false):=by cases a<;>cases b<;>simp [bor]
theorem aG (a:Bool):(ak a=true)=(a=false):=by cases a<;>simp [ak]
theorem aF (a:Bool):(ak a=false)=(a=true):=by cases a<;>simp [ak]
theorem aZ (a b:Int):(ilt a b=true)=(a<b):=by simp [ilt]
theorem bg (a b:Int):(ilt a b=false)=(b<=a):=by simp [ilt]
theorem aX (a b:Int):(ile a b=true)=(a<=b):=by simp [ile]
theorem bF (a b:Int):(ile a b=false)=(b<a):=by simp [ile]
theorem aK (a b:Int):(ieq a b=true)=(a=b):=by simp [ieq]
theorem aN (a b:Int):(ieq a b=false)=(a≠b):=by simp [ieq]
theorem bD (a b:Bool):(beq a b=true)=(a=b):=by simp [beq]
theorem bH (a b:Bool):(beq a b=false)=(a≠b):=by simp [beq]
theorem agN (a b:List UInt8):(seq a b=true)=(a=b):=by simp [seq]
theorem ad4 (a b:List UInt8):(seq a b=false)=(a≠b):=by simp [seq]
def Wq {α:Type} (o:Option α) (Q:α->Prop):Prop:=∃a,o=some a/\Q a
theorem ah {α:Type} {Q:α->Prop} (a:α):Wq (some a) Q↔Q a:=⟨fun⟨_,h,q⟩=>by cases h;exact q,fun h=>⟨a,rfl,h⟩⟩
theorem dH {α:Type} {Q:α->Prop} (c:Bool) (x y:Option α):Wq (cnd c x y) Q↔(c=true->Wq x Q)/\(c=false->Wq y Q):=by
 cases c<;>simp [cnd]
theorem iQ {α β:Type} {Q:β->Prop} (o:Option α) (f:α->Option β):Wq (af o f) Q↔Wq o fun a=>Wq (f a) Q:=by
 cases o with
 |none=>simp [af,Wq]
 |some a=>simp [af,ah]
theorem Wq.mono {α:Type} {Q R:α->Prop} {o:Option α} (h:Wq o Q) (hq:∀a,Q a->R a):Wq o R:=by
 obtain⟨a,e,q⟩:=h;exact⟨a,e,hq a q⟩
theorem Wq.bind {α β:Type} {Q:α->Prop} {R:β->Prop} {o:Option α} {f:α->Option β} (h:Wq o Q) (hq:∀a,Q a->Wq (f a) R):Wq (af o f) R:=(iQ o f).2 (h.mono hq)
theorem Wq.eq {α:Type} {o:Option α} {a:α} (h:Wq o fun x=>x=a):o=some a:=by obtain⟨x,e,rfl⟩:=h;exact e
theorem Wq.dec {o:Option Bool} {P:Prop} [Decidable P] (h:Wq o fun b=>b=true↔P):o=some (decide P):=by
 obtain⟨b,e,q⟩:=h;rw[e];congr 1;cases b<;>simp_all
theorem Uf {V W:Type} {step:V->Option (V ⊕ W)} (μ:V->Nat) (I:V->Prop) (R:W->Prop)
 (h:∀v,I v->Wq (step v) fun r=>match r with | .inl v'=>I v'/\μ v'<μ v | .inr w=>R w) (n:Nat) (v:V) (hn:μ v<n) (hi:I v):Wq (bZ step n v) R:=
 aee μ I R (fun v hv=>by
  obtain⟨r,e,q⟩:=h v hv
  match r,e,q with
  |.inl v',e,q=>exact .inl ⟨v',e,q.1,q.2⟩
  |.inr w,e,q=>exact .inr ⟨w,e,q⟩) n v hn hi
theorem bQ {i:Nat} (h:i<1000000):wr .i64 (aB (i:Int) 1)=((i+1:Nat):Int):=by
 unfold aB;rw[bV (by omega) (by omega)];omega
theorem cu {α:Type} (l:List α) (i:Nat):ilt (i:Int) (len l)=decide (i<l.length):=by
 simp [ilt,len]
theorem gu {W X:Type} {step:Int×X->Option ((Int×X) ⊕ W)} {n:Nat} (hn:n<999999) (J:Nat->X->Prop) (R:W->Prop)
 (h:∀i x,i<n->J i x->Wq (step ((i:Int),x)) fun r=>match r with | .inl (k,x')=>k=((i+1:Nat):Int)/\J (i+1) x' | .inr w=>R w)
 (he:∀x,J n x->Wq (step ((n:Int),x)) fun r=>match r with | .inl _=>False | .inr w=>R w)
 (x:X) (i0:Nat) (hi0:i0<=n) (hx:J i0 x):Wq (bZ step LF ((i0:Int),x)) R:=by
 refine Uf (fun v:Int×X=>n - v.1.toNat) (fun v:Int×X=>∃i:Nat,v.1=(i:Int)/\i<=n/\J i v.2) R ?_ LF _ (aaw (by simp only;omega)) ⟨i0,rfl,hi0,hx⟩
 rintro⟨k,y⟩ ⟨i,rfl,hi,hj⟩
 by_cases hlt:i<n
 ·refine(h i y hlt hj).mono fun r hr=> ?_
  match r,hr with
  |.inl (k,x'),hr=>
   obtain⟨rfl,h2⟩:=hr
   exact⟨⟨i+1,rfl,hlt,h2⟩,by simp only[Int.toNat_natCast];omega⟩
  |.inr w,hr=>exact hr
 ·obtain rfl:i=n:=by omega
  refine(he y hj).mono fun r hr=> ?_
  match r,hr with
  |.inl _,hr=>exact hr.elim
  |.inr w,hr=>exact hr
theorem AQ {α:Type} {l:List α} (h:l.length<1000000):GY l=some l:=by
 unfold GY;rw[Nat.ble_eq_true_of_le (by omega)];rfl
theorem aP {α:Type} (x y:α):cnd true x y=x:=rfl
theorem aO {α:Type} (x y:α):cnd false x y=y:=rfl
theorem aI:ak true=false:=rfl
theorem aU:ak false=true:=rfl
theorem oQ (b:Bool):band true b=b:=rfl
theorem yK (b:Bool):band false b=false:=rfl
theorem ja (b:Bool):bor true b=true:=rfl
theorem dD (b:Bool):bor false b=b:=rfl
theorem aax (b:Bool):band b false=false:=by cases b<;>rfl
theorem aeH (b:Bool):bor b true=true:=by cases b<;>rfl
theorem aiI (b:Bool):bor b false=b:=by cases b<;>rfl
theorem kD:ieq 0 0=true:=rfl
theorem FD:ieq 3 0=false:=rfl
theorem Ci {α:Type} (l:List α) (i:Nat) (x:α):(dN l i x).length=l.length:=by simp [dN]
theorem J3 (i:Nat):itn (i:Int)=i:=by simp [itn]
theorem qw {a b:Int} (ha:inI a) (hb:inI b):tZ a b=some (if inI (a+b)then (a+b,0)else (0,3)):=by
 unfold inI at ha hb;unfold tZ aB;rcases afN (n:=a+b) (by omega) (by omega)with ⟨h,e⟩ | ⟨h,e⟩ | ⟨h,e⟩<;>rw[e,AB]<;>simp only[aH,aJ,aW,bf,aG,aF,aZ,bg,aX,bF,aK,aN,bD,bH]
 ·rw[if_pos h,if_neg];rintro⟨h1,h2⟩;unfold inI at h;exact h1 (decide_eq_decide.2 (by omega))
 ·rw[if_pos,if_neg (by unfold inI;omega)];exact⟨fun h1=>by have:=decide_eq_decide.1 h1;omega,by omega⟩
 ·rw[if_pos,if_neg (by unfold inI;omega)];exact⟨fun h1=>by have:=decide_eq_decide.1 h1;omega,by omega⟩
theorem J6 {a b:Int} (ha:inI a) (hb:inI b):Bq a b=some (if inI (a - b)then (a - b,0)else (0,3)):=by
 unfold inI at ha hb;unfold Bq aV;rcases afN (n:=a - b) (by omega) (by omega)with ⟨h,e⟩ | ⟨h,e⟩ | ⟨h,e⟩<;>rw[e,AB]<;>simp only[aH,aJ,aW,bf,aG,aF,aZ,bg,aX,bF,aK,aN,bD,bH]
 ·rw[if_pos h,if_neg];rintro⟨h1,h2⟩;unfold inI at h;exact h1 (decide_eq_decide.2 (by omega))
 ·rw[if_pos,if_neg (by unfold inI;omega)];exact⟨fun h1=>by have:=decide_eq_decide.1 h1;omega,by omega⟩
 ·rw[if_pos,if_neg (by unfold inI;omega)];exact⟨fun h1=>by have:=decide_eq_decide.1 h1;omega,by omega⟩
theorem aeu (a b:Int):OM a b=some (max a b):=by
 unfold OM imax;congr 1;by_cases h:b>a
 ·rw[if_pos h];omega
 ·rw[if_neg h];omega
theorem half (n:Int) (h1:0<=n) (h2:n<18446744073709551616):∃a b:Int,n=a*4294967296+b/\0<=a/\a<4294967296/\0<=b/\b<4294967296/\dn .u64 n 32=a/\wr .u64 (jl .u64 n 4294967295)=b:=by
 refine⟨n / 4294967296,n%4294967296,by omega,by omega,by omega,by omega,by omega,?_,?_⟩
 ·unfold dn;have:min (Int.toNat 32) (IntKind.bits .u64)=32:=by decide
  rw[this,Int.fdiv_eq_ediv_of_nonneg _ (by decide)]
  rfl
 ·unfold jl;rw[rX];have e:(BitVec.ofInt (IntKind.bits .u64) n &&& BitVec.ofInt (IntKind.bits .u64) 4294967295).toNat=n.toNat%4294967296:=by
   rw[BitVec.toNat_and];have:(BitVec.ofInt (IntKind.bits .u64) 4294967295).toNat=2^32 - 1:=by decide
   rw[this,Nat.and_two_pow_sub_one_eq_mod];rw[BitVec.toNat_ofInt];congr 1;have:(n%(2^(IntKind.bits .u64):Nat))=n:=Int.emod_eq_of_lt h1 (by simpa [IntKind.bits] using h2);rw[this]
  rw[e];omega
theorem aoS {x y:Int} (hx:0<=x) (hx2:x<18446744073709551616) (hy:0<=y) (hy2:y<18446744073709551616):
 uw x y=some (x*y / 18446744073709551616,x*y%18446744073709551616):=by
 obtain⟨a,b,e1,a1,a2,b1,b2,s1,s2⟩:=half x hx hx2
 obtain⟨c,d,e2,c1,c2,d1,d2,t1,t2⟩:=half y hy hy2
 unfold uw
 rw[s1,s2,t1,t2]
 unfold cO aB
 have m1:0<=a*c/\a*c<=4294967295*4294967295:=⟨Int.mul_nonneg a1 c1,Int.mul_le_mul (by omega) (by omega) c1 (by omega)⟩
 have m2:0<=a*d/\a*d<=4294967295*4294967295:=⟨Int.mul_nonneg a1 d1,Int.mul_le_mul (by omega) (by omega) d1 (by omega)⟩
 have m3:0<=b*c/\b*c<=4294967295*4294967295:=⟨Int.mul_nonneg b1 c1,Int.mul_le_mul (by omega) (by omega) c1 (by omega)⟩
 have m4:0<=b*d/\b*d<=4294967295*4294967295:=⟨Int.mul_nonneg b1 d1,Int.mul_le_mul (by omega) (by omega) d1 (by omega)⟩
 have mm:x*y=a*c*18446744073709551616+(a*d+b*c)*4294967296+b*d:=by
  subst e1 e2
  simp only[Int.add_mul,Int.mul_add]
  have q1:a*4294967296*(c*4294967296)=a*c*18446744073709551616:=by
   rw[Int.mul_assoc,Int.mul_left_comm 4294967296,<-Int.mul_assoc,<-Int.mul_assoc];omega
  have q2:a*4294967296*d=a*d*4294967296:=by rw[Int.mul_assoc,Int.mul_comm 4294967296,<-Int.mul_assoc]
  have q3:b*(c*4294967296)=b*c*4294967296:=by rw[<-Int.mul_assoc]
  rw[q1,q2,q3];omega
 rw[mm]
 generalize a*c=p at*
 generalize a*d=q at*
 generalize b*c=r at*
 generalize b*d=t at*
 have sh:∀n:Int,0<=n->n<18446744073709551616->dn .u64 n 32=n / 4294967296:=fun n h1 h2=>by
  obtain⟨u,v,h3,h4,h5,h6,h7,h8,_⟩:=half n h1 h2
  rw[h8];omega
 have la:∀n:Int,0<=n->n<18446744073709551616->wr .u64 (jl .u64 n 4294967295)=n%4294967296:=fun n h1 h2=>by
  obtain⟨u,v,h3,h4,h5,h6,h7,_,h8⟩:=half n h1 h2
  rw[h8];omega
 simp only[rX p,rX q,rX r,rX t]
 rw[Int.emod_eq_of_lt (a:=p) m1.1 (by omega),Int.emod_eq_of_lt (a:=q) m2.1 (by omega),Int.emod_eq_of_lt (a:=r) m3.1 (by omega),Int.emod_eq_of_lt (a:=t) m4.1 (by omega)]
 rw[sh t m4.1 (by omega)]
 rw[rX (q+t / 4294967296),Int.emod_eq_of_lt (a:=q+t / 4294967296) (by omega) (by omega)]
 rw[sh (q+t / 4294967296) (by omega) (by omega),la (q+t / 4294967296) (by omega) (by omega)]
 rw[rX (p+_),Int.emod_eq_of_lt (a:=p+(q+t / 4294967296) / 4294967296) (by omega) (by omega)]
 rw[rX ((q+t / 4294967296)%4294967296+r),Int.emod_eq_of_lt (a:=(q+t / 4294967296)%4294967296+r) (by omega) (by omega)]
 rw[sh _ (by omega) (by omega)]
 rw[rX,rX]
 congr 2<;>omega
theorem abx {a:Int} (ha:inI a):LJ a=some (a.natAbs:Int):=by
 unfold inI at ha;unfold LJ aV;rw[AB];simp only[aZ,rX];split
 ·congr 1;omega
 ·congr 1;omega
theorem aeK {a b:Int} (ha:inI a) (hb:inI b):OU a b=some (if inI (a*b)then (a*b,0)else (0,3)):=by
 unfold OU;rw[abx ha,abx hb,ai,ai,aoS (by omega) (by unfold inI at ha;omega) (by omega) (by unfold inI at hb;omega),ai];have hm:(a.natAbs:Int)*(b.natAbs:Int)=((a*b).natAbs:Int):=by rw[Int.natAbs_mul];rfl
 have hn:(a.natAbs:Int)*(b.natAbs:Int)<=9223372036854775808*9223372036854775808:=Int.mul_le_mul (by unfold inI at ha;omega) (by unfold inI at hb;omega) (by omega) (by omega);rw[hm]at hn ⊢;have hs:(decide (a<0)=decide (b<0)->0<=a*b)/\(decide (a<0)≠decide (b<0)->a*b<=0):=by
  constructor
  ·intro h;by_cases h1:a<0
   ·have h2:b<0:=by simpa [h1] using h
    exact Int.mul_nonneg_of_nonpos_of_nonpos (by omega) (by omega)
   ·have h2:¬b<0:=by simpa [h1] using h
    exact Int.mul_nonneg (by omega) (by omega)
  ·intro h;by_cases h1:a<0
   ·have h2:¬b<0:=by simpa [h1] using h
    exact Int.mul_nonpos_of_nonpos_of_nonneg (by omega) (by omega)
   ·have h2:b<0:=by simpa [h1] using h
    exact Int.mul_nonpos_of_nonneg_of_nonpos (by omega) (by omega)
 generalize a*b=p at*;simp only[AB,aH,aJ,aW,bf,aG,aF,aZ,bg,aX,bF,aK,aN,bD,bH,aV,rX,ne_eq];unfold ilt at*;by_cases hd:decide (a<0)=decide (b<0)
 ·have hp:=hs.1 hd;rw[if_neg (fun h=>h.1.2 hd)];by_cases hr:p<=9223372036854775807
  ·rw[if_pos (by omega),if_pos ⟨by omega,by omega⟩,ng ⟨by omega,by omega⟩];congr 2;omega
  ·rw[if_neg (by omega),if_neg (by unfold inI;omega)]
 ·have hp:=hs.2 hd;by_cases hr: -9223372036854775808<=p
  ·rw[if_pos ⟨⟨by omega,hd⟩,by omega⟩,if_pos ⟨by omega,by omega⟩];congr 2;rcases afN (n:=(0 - ((p.natAbs:Int)%18446744073709551616))%18446744073709551616) (by omega) (by omega)with ⟨h,e⟩ | ⟨h,e⟩ | ⟨h,e⟩<;>rw[e]<;>unfold inI at* <;>omega
  ·rw[if_neg (by omega),if_neg (by omega),if_neg (by unfold inI;omega)]
def kF (n:Int):Prop:=1<=n/\n<=1000000000000
def nI (r:dB):Prop:=
 (r.kind=1/\kF r.order/\(0<=r.account/\r.account<8)/\(0<=r.symbol/\r.symbol<8)/\(r.side=1\/r.side=2)/\1<=r.qty/\1<=r.price/\r.long=0/\r.short=0/\r.opn=0/\r.on=false/\r.seq=0/\r.what=0)\/
 (r.kind=2/\kF r.order/\r.account=0/\r.symbol=0/\r.side=0/\1<=r.qty/\1<=r.price/\r.long=0/\r.short=0/\r.opn=0/\r.on=false/\r.seq=0/\r.what=0)\/
 (r.kind=3/\kF r.order/\r.account=0/\r.symbol=0/\r.side=0/\r.qty=0/\r.price=0/\r.long=0/\r.short=0/\r.opn=0/\r.on=false/\r.seq=0/\r.what=0)\/
 (r.kind=4/\r.order=0/\(0<=r.account/\r.account<8)/\((r.symbol= -1/\r.long=0/\r.short=0)\/(0<=r.symbol/\r.symbol<8))/\r.side=0/\r.qty=0/\r.price=0/\0<=r.long/\0<=r.short/\0<=r.opn/\r.on=false/\r.seq=0/\r.what=0)\/
 (r.kind=5/\r.order=0/\r.account=0/\r.symbol=0/\r.side=0/\r.qty=0/\r.price=0/\r.long=0/\r.short=0/\r.opn=0/\r.seq=0/\r.what=0)\/
 (r.kind=6/\kF r.order/\r.account=0/\r.symbol=0/\r.side=0/\r.long=0/\r.short=0/\r.opn=0/\r.on=false/\(1<=r.seq/\r.seq<=1000000000)/\
   ((r.what=3/\1<=r.qty/\r.price=0)\/(r.what=5/\1<=r.qty/\1<=r.price)\/((r.what=1\/r.what=2\/r.what=4\/r.what=6)/\r.qty=0/\r.price=0)))
theorem amK (a b c:Int):(0<=ji (ji a b) c)↔0<=a/\0<=b/\0<=c:=by
 unfold ji;split<;>split<;>omega
theorem agT (r:dB):Wq (Ny r) fun b=>b=true↔kF r.order/\(1<=r.seq/\r.seq<=1000000000)/\
 ((r.what=3/\1<=r.qty/\r.price=0)\/(r.what=5/\1<=r.qty/\1<=r.price)\/((r.what=1\/r.what=2\/r.what=4\/r.what=6)/\r.qty=0/\r.price=0)):=by
 unfold Ny qg rE
 by_cases h1:1<=r.seq/\r.seq<=1000000000
 ·rw[au (b:=ak (bor (ilt r.seq 1) (ilt 1000000000 r.seq))) (by simp only[aH,aJ,aW,bf,aG,aF,aZ,bg,aX,bF,aK,aN,bD,bH];omega),ai]
  by_cases h2:kF r.order
  ·rw[show band (ile 1 r.order) (ile r.order 1000000000000)=true by simp only[aH,aJ,aW,bf,aG,aF,aZ,bg,aX,bF,aK,aN,bD,bH];exact h2,bW (by simp only[aH,aJ,aW,bf,aG,aF,aZ,bg,aX,bF,aK,aN,bD,bH];exact⟨by omega,trivial⟩)]
   by_cases k3:r.what=3
   ·rw[au (by rw[aK];exact k3),ah];simp only[h1,h2,true_and,aH,aJ,aW,bf,aG,aF,aZ,bg,aX,bF,aK,aN,bD,bH];omega
   rw[bW (by rw[aN];exact k3)]
   by_cases k5:r.what=5
   ·rw[au (by rw[aK];exact k5),ai,ah];simp only[h1,h2,true_and,aH,aJ,aW,bf,aG,aF,aZ,bg,aX,bF,aK,aN,bD,bH];omega
   rw[bW (by rw[aN];exact k5)]
   by_cases k1:r.what=1
   ·rw[au (by rw[aK];exact k1),au (by rw[aK];exact k1),ah];simp only[h1,h2,true_and,aH,aJ,aW,bf,aG,aF,aZ,bg,aX,bF,aK,aN,bD,bH];omega
   rw[bW (by rw[aN];exact k1)]
   by_cases k2:r.what=2
   ·rw[au (by rw[aK];exact k2),au (by rw[aK];exact k2),ah];simp only[h1,h2,true_and,aH,aJ,aW,bf,aG,aF,aZ,bg,aX,bF,aK,aN,bD,bH];omega
   rw[bW (by rw[aN];exact k2)]
   by_cases k4:r.what=4
   ·rw[au (by rw[aK];exact k4),au (by rw[aK];exact k4),ah];simp only[h1,h2,true_and,aH,aJ,aW,bf,aG,aF,aZ,bg,aX,bF,aK,aN,bD,bH];omega
   rw[bW (by rw[aN];exact k4)]
   by_cases k6:r.what=6
   ·rw[au (by rw[aK];exact k6),ah];simp only[h1,h2,true_and,aH,aJ,aW,bf,aG,aF,aZ,bg,aX,bF,aK,aN,bD,bH];omega
   rw[bW (by rw[aN];exact k6),ah]
   simp only[h1,h2,true_and,Bool.false_eq_true,false_iff];omega
  ·rw[show band (ile 1 r.order) (ile r.order 1000000000000)=false by simp only[aH,aJ,aW,bf,aG,aF,aZ,bg,aX,bF,aK,aN,bD,bH];unfold kF at h2;omega,au (by simp only[aH,aJ,aW,bf,aG,aF,aZ,bg,aX,bF,aK,aN,bD,bH,or_true]),ah]
   simp [h2]
 ·rw[bW (b:=ak (bor (ilt r.seq 1) (ilt 1000000000 r.seq))) (by simp only[aH,aJ,aW,bf,aG,aF,aZ,bg,aX,bF,aK,aN,bD,bH];omega),ai,au (by simp only[aH,aJ,aW,bf,aG,aF,aZ,bg,aX,bF,aK,aN,bD,bH,or_true]),ah]
  simp [h1]
theorem DF (r:dB):Wq (uJ r) fun b=>b=true↔nI r:=by
 unfold uJ QM;obtain⟨ev,he,hq⟩:=agT r;by_cases k1:r.kind=1
 ·have e1:ieq r.kind 1=true:=by rw[aK];exact k1
  simp only[e1,aP,ai];simp only[iQ,dH,ah,aH,aJ,aW,bf,aG,aF,aZ,bg,aX,bF,aK,aN,bD,bH,true_implies,ne_eq,not_true_eq_false,false_implies,and_true,true_and,or_self,reduceCtorEq,qg,rC,rE,nI,kF];grind
 have e1:ieq r.kind 1=false:=by rw[aN];exact k1
 by_cases k2:r.kind=2
 ·have e2:ieq r.kind 2=true:=by rw[aK];exact k2
  simp only[e1,e2,aP,aO,ai];simp only[iQ,dH,ah,aH,aJ,aW,bf,aG,aF,aZ,bg,aX,bF,aK,aN,bD,bH,true_implies,ne_eq,not_true_eq_false,false_implies,and_true,true_and,or_self,reduceCtorEq,qg,rC,rE,nI,kF];grind
 have e2:ieq r.kind 2=false:=by rw[aN];exact k2
 by_cases k3:r.kind=3
 ·have e3:ieq r.kind 3=true:=by rw[aK];exact k3
  simp only[e1,e2,e3,aP,aO,ai];simp only[iQ,dH,ah,aH,aJ,aW,bf,aG,aF,aZ,bg,aX,bF,aK,aN,bD,bH,true_implies,ne_eq,not_true_eq_false,false_implies,and_true,true_and,or_self,reduceCtorEq,qg,rC,rE,nI,kF];grind
 have e3:ieq r.kind 3=false:=by rw[aN];exact k3
 by_cases k4:r.kind=4
 ·have e4:ieq r.kind 4=true:=by rw[aK];exact k4
  simp only[e1,e2,e3,e4,aP,aO,ai];simp only[iQ,dH,ah,aH,aJ,aW,bf,aG,aF,aZ,bg,aX,bF,aK,aN,bD,bH,true_implies,ne_eq,not_true_eq_false,false_implies,and_true,true_and,or_self,reduceCtorEq,qg,rC,rE,nI,kF,amK];grind
 have e4:ieq r.kind 4=false:=by rw[aN];exact k4
 by_cases k5:r.kind=5
 ·have e5:ieq r.kind 5=true:=by rw[aK];exact k5
  simp only[e1,e2,e3,e4,e5,aP,aO,ai];simp only[iQ,dH,ah,aH,aJ,aW,bf,aG,aF,aZ,bg,aX,bF,aK,aN,bD,bH,true_implies,ne_eq,not_true_eq_false,false_implies,and_true,true_and,or_self,reduceCtorEq,qg,rC,rE,nI,kF];grind
 have e5:ieq r.kind 5=false:=by rw[aN];exact k5
 by_cases k6:r.kind=6
 ·have e6:ieq r.kind 6=true:=by rw[aK];exact k6
  simp only[e1,e2,e3,e4,e5,e6,aP,aO,ai,he];simp only[iQ,dH,ah,aH,aJ,aW,bf,aG,aF,aZ,bg,aX,bF,aK,aN,bD,bH,true_implies,ne_eq,not_true_eq_false,false_implies,and_true,true_and,or_self,reduceCtorEq,nI,hq];grind
 have e6:ieq r.kind 6=false:=by rw[aN];exact k6
 simp only[e1,e2,e3,e4,e5,e6,aP,aO,ai];simp only[iQ,dH,ah,aH,aJ,aW,bf,aG,aF,aZ,bg,aX,bF,aK,aN,bD,bH,true_implies,ne_eq,not_true_eq_false,false_implies,and_true,true_and,or_self,reduceCtorEq,nI];grind
def Qb (o:ax):Prop:=(1<=o.id/\o.id<=1000000000000)/\(0<=o.account/\o.account<8)/\(0<=o.symbol/\o.symbol<8)/\(o.side=1\/o.side=2)/\1<=o.qty/\1<=o.price
theorem adO (o:ax):Wq (H6 o) fun b=>b=true↔Qb o:=by
 unfold H6;rw[iQ];refine(DF _).mono fun b hb=> ?_;rw[ah,hb];simp [nI,Qb,kF]
def rO (o:ax):Prop:=o.newQty≠0\/o.newPrice≠0
instance (o:ax):Decidable (rO o):=by unfold rO;infer_instance
instance (o:ax):Decidable (Qb o):=by unfold Qb;infer_instance
theorem Rz (o:ax):Wq (iV o) fun b=>b=true↔rO o:=by
 unfold iV;simp only[ah,aW,aG,aN,rO]
theorem Jh (o:ax):iV o=some (decide (rO o)):=(Rz o).dec
def sO (o:ax):Prop:=Qb o/\0<=o.filled/\o.filled<=o.qty/\0<=o.version/\(rO o->1<=o.newQty/\1<=o.newPrice)/\
 ((o.phase=1/\o.filled=0/\o.version=0/\¬rO o)\/(o.phase=2/\o.filled<o.qty)\/(o.phase=3/\¬rO o))
instance (o:ax):Decidable (sO o):=by unfold sO;infer_instance
theorem adn (o:ax):Wq (gZ o) fun b=>b=true↔sO o:=by
 unfold gZ;rw[iQ];refine(Rz o).mono fun p hp=> ?_;rw[iQ];refine(adO o).mono fun b hb=> ?_;unfold sO;rw[<-hp,<-hb];have hm:(ji o.newQty o.newPrice<1)↔¬(1<=o.newQty/\1<=o.newPrice):=by unfold ji;split<;>omega
 simp only[iQ,dH,ah,aH,aJ,aW,bf,aG,aF,aZ,bg,aX,bF,aK,aN,bD,bH,hm];cases p<;>cases b<;>simp<;>omega
theorem kZ (o:ax):gZ o=some (decide (sO o)):=(adn o).dec
def jX (o:ax):Int:=if o.phase=3 then 0 else max o.qty o.newQty - o.filled
def fB (o:ax):Int:=if o.phase=3 then 0 else if o.newQty<=o.filled then (o.qty - o.filled)*o.price else max ((o.qty - o.filled)*o.price) ((o.newQty - o.filled)*o.newPrice)
theorem D6 {o:ax} (h:sO o) (hr:dU o):0<=jX o/\jX o<=9223372036854775807:=by
 obtain⟨_,h1,h2,_⟩:=h;have:=hr.qty.2;have:=hr.newQty.2;unfold jX;split<;>omega
theorem afq {o:ax} (h:sO o) (hn:o.filled<o.newQty):1<=o.newPrice:=by
 obtain⟨_,h1,h2,_,h4,_⟩:=h;exact(h4 (.inl (by omega))).2
theorem Hq {o:ax} (h:sO o):0<=fB o:=by
 have hp:=h.1.2.2.2.2.2;have hf:=h.2.2.1;unfold fB;split
 ·omega
 ·have m:0<=(o.qty - o.filled)*o.price:=Int.mul_nonneg (by omega) (by omega);split<;>omega
theorem YT {o:ax} (h:sO o) (hr:dU o):yj o=some (jX o):=by
 have hb:=D6 h hr;unfold yj;rw[kZ,ai,decide_eq_true h,aeu,ai];unfold jX at*;rw[aI,dD,dQ];split
 ·rfl
 ·rename_i hp;rw[if_neg hp]at hb;unfold aV;rw[ng ⟨by omega,by omega⟩]
theorem VX {o:ax} (h:sO o) (hr:dU o):Dc o=some (if fB o<=9223372036854775807 then (fB o,0)else (0,3)):=by
 have hp:=h.1.2.2.2.2.2;have hf:=h.2.2.1;have hf0:=h.2.1;have rq:=hr.qty;have rp:=hr.price;have rf:=hr.filled;have rn:=hr.newQty;have rnp:=hr.newPrice;unfold inI at rq rf rn;unfold Dc;rw[kZ,ai,decide_eq_true h,aI,aO,dQ];unfold fB;split
 ·rw[if_pos (by omega)]
 ·unfold aV;rw[ng ⟨by omega,by omega⟩,aeK ⟨by omega,by omega⟩ rp,ai];have m:0<=(o.qty - o.filled)*o.price:=Int.mul_nonneg (by omega) (by omega);generalize (o.qty - o.filled)*o.price=a at*;rw[AB];simp only[aH,aJ,aW,bf,aG,aF,aZ,bg,aX,bF,aK,aN,bD,bH];by_cases hn:o.newQty<=o.filled
  ·rw[if_pos (.inr hn),if_pos hn];by_cases ha:a<=9223372036854775807
   ·rw[if_pos (c:=inI a) ⟨by omega,ha⟩,if_pos ha]
   ·rw[if_neg (c:=inI a) (by unfold inI;omega),if_neg ha]
  ·rw[if_neg hn];have hnp:=afq h (by omega);rw[ng ⟨by omega,by omega⟩,aeK ⟨by omega,by omega⟩ rnp,ai];have m2:0<=(o.newQty - o.filled)*o.newPrice:=Int.mul_nonneg (by omega) (by omega);generalize (o.newQty - o.filled)*o.newPrice=b at*;by_cases ha:a<=9223372036854775807
   ·rw[if_pos (c:=inI a) ⟨by omega,ha⟩,if_neg (by simp only[ne_eq,not_true_eq_false,false_or];exact hn)];by_cases hb:b<=9223372036854775807
    ·rw[if_pos (c:=inI b) ⟨by omega,hb⟩];rw[bW (by simp [ak,ieq]),aeu,ai,if_pos (by omega)]
    ·rw[if_neg (c:=inI b) (by unfold inI;omega)];rw[au (by simp [ak,ieq]),if_neg (by omega)]
   ·rw[if_neg (c:=inI a) (by unfold inI;omega),if_pos (.inl (by decide)),if_neg (by omega)]
def okC (c:aT):Prop:=Dh c/\(0<=c.buy/\0<=c.sell/\0<=c.opn)/\inI (c.pos+c.buy)/\inI (c.sell - c.pos)
theorem Nc (c:aT):okC c↔(inI c.pos/\inI c.buy/\inI c.sell/\inI c.opn)/\(0<=c.buy/\0<=c.sell/\0<=c.opn)/\inI (c.pos+c.buy)/\inI (c.sell - c.pos):=
 ⟨fun⟨⟨a,b,c,d⟩,h⟩=>⟨⟨a,b,c,d⟩,h⟩,fun⟨⟨a,b,c,d⟩,h⟩=>⟨⟨a,b,c,d⟩,h⟩⟩
instance (c:aT):Decidable (okC c):=decidable_of_iff _ (Nc c).symm
theorem Z7 {c:aT} (h:Dh c):Iz c=some (⟨if inI (c.pos+c.buy)then c.pos+c.buy else 0,if inI (c.sell - c.pos)then c.sell - c.pos else 0,c.opn⟩,decide (inI (c.pos+c.buy)/\inI (c.sell - c.pos))):=by
 unfold Iz;rw[qw h.pos h.buy,ai,J6 h.sell h.pos,ai];by_cases h1:inI (c.pos+c.buy)
 ·by_cases h2:inI (c.sell - c.pos)
  ·simp only[if_pos h1,if_pos h2,kD,oQ,decide_eq_true (show _/\_ from⟨h1,h2⟩)]
  ·simp only[if_pos h1,if_neg h2,FD,kD,oQ,decide_eq_false (fun h:_/\_=>h2 h.2)]
 ·simp only[if_neg h1,FD,yK,decide_eq_false (fun h:_/\_=>h1 h.1)];by_cases h2:inI (c.sell - c.pos)
  ·simp only[if_pos h2]
  ·simp only[if_neg h2]
theorem afm {c:aT} (h:Dh c):Wq (iT c) fun b=>b=true↔okC c:=by
 unfold iT;rw[Z7 h,ai,ah];simp only[aH,aX,decide_eq_true_eq,okC];rw[amK];constructor
 ·rintro⟨a,b⟩;exact⟨h,b,a⟩
 ·rintro⟨_,b,a⟩;exact⟨a,b⟩
theorem nO {c:aT} (h:Dh c):iT c=some (decide (okC c)):=(afm h).dec
def ofC (c:aT):fA:=⟨c.pos+c.buy,c.sell - c.pos,c.opn⟩
theorem aeX {c:aT} (h:okC c):OL c=some (ofC c,0):=by
 unfold OL;rw[nO h.1,ai,decide_eq_true h,aI,aO,Z7 h.1,ai,if_pos h.2.2.1,if_pos h.2.2.2]
 rfl
def tH (c:aT) (o:ax):aT:=if o.side=2 then ⟨c.pos,c.buy,c.sell+jX o,c.opn+fB o⟩else ⟨c.pos,c.buy+jX o,c.sell,c.opn+fB o⟩
def wH (c:aT) (o:ax):aT:=if o.side=2 then ⟨c.pos,c.buy,c.sell - jX o,c.opn - fB o⟩else ⟨c.pos,c.buy - jX o,c.sell,c.opn - fB o⟩
theorem Nw {c:aT} {o:ax} (hc:okC c) (ho:sO o) (hr:dU o):rF c o=some (if okC (tH c o)then (tH c o,0)else (c,3)):=by
 have hO:=D6 ho hr;have hW:=Hq ho;obtain⟨hk,⟨n1,n2,n3⟩,r1,r2⟩:=id hc;have ib:=hk.buy;have is':=hk.sell;have io:=hk.opn;have ip:=hk.pos;unfold rF;rw[nO hk,ai,decide_eq_true hc,kZ,decide_eq_true ho,aI,aU,aP,ai,aI,dD,aO,VX ho hr,YT ho hr,ai];simp only[ai];have oO:inI (jX o):=⟨by omega,by omega⟩;by_cases hw:fB o<=9223372036854775807
 ·have oW:inI (fB o):=⟨by omega,hw⟩;rw[if_pos hw];simp only[kD,aI,dD];by_cases hs:o.side=2
  ·rw[au (by rw[aK];exact hs),qw is' oO,ai,qw io oW,ai];unfold tH;rw[if_pos hs];by_cases h1:c.sell+jX o<=9223372036854775807
   ·by_cases h2:c.opn+fB o<=9223372036854775807
    ·rw[if_pos ⟨by omega,h1⟩,if_pos ⟨by omega,h2⟩];simp only[kD,aI,dD,aU,aP];rw[nO (c:=⟨c.pos,c.buy,c.sell+jX o,c.opn+fB o⟩) ⟨ip,ib,⟨by simp only;omega,h1⟩,⟨by simp only;omega,h2⟩⟩,ai,dP,uH];split<;>rfl
    ·rw[if_pos ⟨by omega,h1⟩,if_neg (by unfold inI;omega)];simp only[kD,FD,aI,dD,aU,aP,ja,aO,ai];rw[if_neg fun h=>h2 h.1.opn.2]
   ·rw[if_neg (by unfold inI;omega)];simp only[FD,aU,ja,aI,aP,aO,ai];rw[if_neg fun h=>h1 h.1.sell.2]
  ·rw[bW (by rw[aN];exact hs),qw ib oO,ai,qw io oW,ai];unfold tH;rw[if_neg hs];by_cases h1:c.buy+jX o<=9223372036854775807
   ·by_cases h2:c.opn+fB o<=9223372036854775807
    ·rw[if_pos ⟨by omega,h1⟩,if_pos ⟨by omega,h2⟩];simp only[kD,aI,dD,aU,aP];rw[nO (c:=⟨c.pos,c.buy+jX o,c.sell,c.opn+fB o⟩) ⟨ip,⟨by simp only;omega,h1⟩,is',⟨by simp only;omega,h2⟩⟩,ai,dP,uH];split<;>rfl
    ·rw[if_pos ⟨by omega,h1⟩,if_neg (by unfold inI;omega)];simp only[kD,FD,aI,dD,aU,aP,ja,aO,ai];rw[if_neg fun h=>h2 h.1.opn.2]
   ·rw[if_neg (by unfold inI;omega)];simp only[FD,aU,ja,aI,aP,aO,ai];rw[if_neg fun h=>h1 h.1.buy.2]
 ·have hno:¬okC (tH c o):=fun h=>by
   have:=h.1.opn.2;unfold tH at this;split at this<;>simp only at this<;>omega
  rw[if_neg hw,if_neg hno];simp only[FD,aU,ja,aI,aO,ai,aP];by_cases hs:o.side=2
  ·rw[au (by rw[aK];exact hs),qw is' oO,ai,qw io (by decide),ai]
  ·rw[bW (by rw[aN];exact hs),qw ib oO,ai,qw io (by decide),ai]
theorem aeb {c:aT} {o:ax} (hc:okC c) (ho:sO o) (hr:dU o) (hs:okC (wH c o)):PE c o=some (wH c o,0):=by
 have hO:=D6 ho hr;have hW:=Hq ho;obtain⟨hk,⟨n1,n2,n3⟩,r1,r2⟩:=id hc;have ib:=hk.buy;have is':=hk.sell;have io:=hk.opn;have ip:=hk.pos;have oO:inI (jX o):=⟨by omega,by omega⟩;have hw:fB o<=9223372036854775807:=by
  have h1:=hs.2.1.2.2;have h2:=io.2;have h3:(wH c o).opn=c.opn - fB o:=by unfold wH;split<;>rfl
  omega
 have oW:inI (fB o):=⟨by omega,hw⟩;unfold PE;rw[nO hk,ai,decide_eq_true hc,kZ,decide_eq_true ho,aI,aU,aP,ai,aI,dD,aO,VX ho hr,YT ho hr,ai];simp only[ai];rw[if_pos hw];simp only[kD,aI,dD];unfold inI at ib is' io;by_cases hd:o.side=2
 ·rw[au (by rw[aK];exact hd),J6 is' oO,ai,J6 io oW,ai];unfold wH at hs ⊢; rw[if_pos hd]at hs ⊢;rw[if_pos ⟨by omega,by omega⟩,if_pos ⟨by omega,by omega⟩];simp only[kD,aI,dD,aU,aP];rw[nO hs.1,decide_eq_true hs,ai,aI,aO]
 ·rw[bW (by rw[aN];exact hd),J6 ib oO,ai,J6 io oW,ai];unfold wH at hs ⊢; rw[if_neg hd]at hs ⊢;rw[if_pos ⟨by omega,by omega⟩,if_pos ⟨by omega,by omega⟩];simp only[kD,aI,dD,aU,aP];rw[nO hs.1,decide_eq_true hs,ai,aI,aO]
theorem ajd {c:aT} {d q:Int} (hc:okC c) (hd:d=1\/d=2) (hq:0<=q) (rq:inI q) (hn:okC ⟨if d=1 then c.pos+q else c.pos - q,c.buy,c.sell,c.opn⟩):
 P9 c d q=some (⟨if d=1 then c.pos+q else c.pos - q,c.buy,c.sell,c.opn⟩,0):=by
 unfold P9
 rw[nO hc.1,ai,decide_eq_true hc,aI,dD,bW (by simp only[aH,aJ,aW,bf,aG,aF,aZ,bg,aX,bF,aK,aN,bD,bH];omega)]
 have ip:=hc.1.pos
 have hp:=hn.1.pos
 simp only at hp
 by_cases h:d=1
 ·rw[au (by rw[aK];exact h),qw ip rq,ai]
  simp only[if_pos h]at hn hp ⊢
  rw[if_pos hp]
  simp only[kD,aI,dD,aU,aP]
  rw[nO hn.1,decide_eq_true hn,ai,aI,aO]
 ·rw[bW (by rw[aN];exact h),J6 ip rq,ai]
  simp only[if_neg h]at hn hp ⊢
  rw[if_pos hp]
  simp only[kD,aI,dD,aU,aP]
  rw[nO hn.1,decide_eq_true hn,ai,aI,aO]
def WM (x:fA):Prop:=0<=x.long/\0<=x.short/\0<=x.opn
instance (x:fA):Decidable (WM x):=by unfold WM;infer_instance
theorem adG (x:fA):Ic x=some (decide (WM x)):=by
 refine Wq.dec ?_;unfold Ic WM;rw[ah,aX,amK]
def Xh (was now cap:Int):Prop:=max was cap<now
instance (a b c:Int):Decidable (Xh a b c):=by unfold Xh;infer_instance
def AA (a b l:fA):Prop:=Xh a.long b.long l.long\/Xh a.short b.short l.short\/Xh a.opn b.opn l.opn
instance (a b l:fA):Decidable (AA a b l):=by unfold AA;infer_instance
theorem KF (a b c:Int):lC a b c=some (decide (Xh a b c)):=by
 refine Wq.dec ?_;unfold lC imax Xh;rw[ah,aZ];split<;>omega
theorem aaJ (a b l:fA):Dl a b l=some (decide (AA a b l)):=by
 refine Wq.dec ?_;unfold Dl CG;simp only[ai,KF,dH,ah,decide_eq_true_eq,decide_eq_false_iff_not,AA]
 grind
theorem VT (l:List Int) (i:Nat) (h:i<l.length):(l.take (i+1)).sum=(l.take i).sum+l[i]:=by
 rw[List.take_succ_eq_append_getElem h,List.sum_append];simp
theorem ac4:∀ {l:List Int},(∀x∈l,0<=x)->0<=l.sum
 |[],_=>by simp
 |a::l,h=>by
  have:=ac4 (l:=l) fun x hx=>h x (by simp [hx])
  have:=h a (by simp)
  simp only[List.sum_cons];omega
theorem Z4 {l:List Int} (h:∀x∈l,0<=x) (i:Nat):(l.take i).sum<=l.sum:=by
 have e:l.sum=(l.take i).sum+(l.drop i).sum:=by rw[<-List.sum_append,List.take_append_drop]
 have:=ac4 (l:=l.drop i) fun x hx=>h x (List.mem_of_mem_drop hx);omega
def arO (l:List Int):Int×Int:=if l.sum<=9223372036854775807 then (l.sum,0)else (0,3)
theorem agV {l:List Int} (hl:l.length<999999) (h:∀x∈l,0<=x/\inI x):NE l=some (arO l):=by
 refine Wq.eq ?_;have hn:∀x∈l,0<=x:=fun x hx=>(h x hx).1;unfold NE;refine Wq.bind (Q:=fun w:(Int×Int) ⊕ (Int×Int×Int)=>match w with | .inl w=>w=(3,0)/\¬l.sum<=9223372036854775807 | .inr w=>w.1=l.sum/\l.sum<=9223372036854775807)
  (gu (n:=l.length) (step:=fun v:Int×Int×Int×Int=>AL (len l) l v.1 v.2.1 v.2.2.1 v.2.2.2) (by omega)
    (fun i x=>x.1=(l.take i).sum/\x.1<=9223372036854775807) _ ?_ ?_ _ 0 (Nat.zero_le _) (by simp)) ?_
 ·rintro i ⟨a,b,c⟩ hi ⟨rfl,ha⟩;simp only[AL];simp only at ha;have ht:=ac4 (l:=l.take i) fun x hx=>hn x (List.mem_of_mem_take hx);have hx:=h l[i] (List.getElem_mem _);rw[au (by rw[cu];simpa using hi),au (inb l i hi),aS l i hi,qw ⟨by omega,ha⟩ hx.2,ai,<-VT l i hi];have:=Z4 hn (i+1);have h2:=ac4 (l:=l.take (i+1)) fun x hx=>hn x (List.mem_of_mem_take hx);by_cases hr:(l.take (i+1)).sum<=9223372036854775807
  ·rw[if_pos ⟨by omega,hr⟩];simp only[kD,aI,aO,ah];exact⟨bQ (by omega),trivial,hr⟩
  ·rw[if_neg (by unfold inI;omega)];simp only[FD,aU,aP,ah];exact⟨trivial,by omega⟩
 ·rintro⟨a,b,c⟩ ⟨rfl,ha⟩;simp only[AL];simp only at ha;rw[bW (by rw[cu];simp),ah];rw[List.take_length]at*;exact⟨rfl,ha⟩
 ·rintro w hw;unfold arO;cases w with
  |inl w=>obtain⟨rfl,h2⟩:=hw;simp only[dJ,ah];rw[if_neg h2]
  |inr w=>obtain⟨h1,h2⟩:=hw;simp only[dJ,ah];rw[if_pos h2,h1]
def iq (l:List aT):Int:=(l.map aT.opn).sum
theorem OA {l:List aT} (hl:l.length<999999) (h:∀c∈l,0<=c.opn/\inI c.opn):zl l=some (if iq l<=9223372036854775807 then (iq l,0)else (0,3)):=by
 refine Wq.eq ?_;unfold zl;refine Wq.bind (Q:=fun w:List Int=>w=l.map aT.opn)
  (gu (n:=l.length) (step:=fun v:Int×List Int=>wZ (len l) l v.1 v.2) (by omega) (fun i x=>x=(l.take i).map aT.opn) _ ?_ ?_ _ 0 (Nat.zero_le _) (by simp)) ?_
 ·rintro i x hi rfl;simp only[wZ];rw[au (by rw[cu];simpa using hi),au (inb l i hi),au (gV (by simp [aQ,len];omega)),ah,aS l i hi];exact⟨bQ (by omega),by rw[List.take_succ_eq_append_getElem hi,List.map_append];rfl⟩
 ·rintro x rfl;simp only[wZ];rw[bW (by rw[cu];simp),ah,List.take_length]
 ·rintro w rfl
  rw[agV (by simpa using hl) (fun x hx=>by
   obtain⟨c,hc,rfl⟩:=List.mem_map.1 hx
   exact h c hc),ai,ah]
  rfl
theorem Xd {l:List Int} (hl:l.length<999999) (h0:l≠[]):Wq (o7 l) fun m=>0<=m↔∀x∈l,0<=x:=by
 have hp:0<l.length:=List.length_pos_iff.2 h0;unfold o7;rw[bW (zQ (by simp only[len];omega)),au (DL (by simp only[len];omega))];refine Wq.bind (Q:=fun m=>0<=m↔∀x∈l,0<=x) (gu (n:=l.length) (step:=fun v:Int×Int=>ny l v.1 v.2) (by omega) (fun i x=>0<=x↔∀y∈l.take i,0<=y) _ ?_ ?_ _ 1 hp ?_) ?_
 ·rintro i x hi hx;simp only[ny];rw[au (by rw[cu];simpa using hi),au (inb l i hi),ah,aS l i hi];refine⟨bQ (by omega),?_⟩;rw[List.take_succ_eq_append_getElem hi];simp only[List.mem_append,List.mem_singleton];unfold ji;constructor
  ·intro h y hy;rcases hy with hy | rfl
   ·exact hx.1 (by split at h<;>omega) y hy
   ·split at h<;>omega
  ·intro h;have h1:=hx.2 fun y hy=>h y (.inl hy);have h2:=h _ (.inr rfl);split<;>omega
 ·rintro x hx;simp only[ny];rw[bW (by rw[cu];simp),ah];rwa[List.take_length]at hx
 ·cases l with
  |nil=>exact absurd rfl h0
  |cons a r=>simp [aj]
 ·exact fun w hw=>(ah _).2 hw
def wE (l:List ax) (n:Int):Option Nat:=l.findIdx? fun o=>o.id == n
def PU (l:List ax) (n:Int):Int:=match wE l n with | some k=>k | none=> -1
theorem MQ (s:ay) (n:Int) (hl:s.orders.length<999999):Ak s n=some (PU s.orders n):=by
 refine Wq.eq ?_;unfold Ak
 refine Wq.bind (Q:=fun w:Int ⊕ Int=>match w with
  |.inl k=>∃i:Nat,k=i/\∃h:i<s.orders.length,s.orders[i].id=n/\∀j,(h:j<s.orders.length)->j<i->s.orders[j].id≠n
  |.inr _=>∀j,(h:j<s.orders.length)->s.orders[j].id≠n)
  (gu (n:=s.orders.length) (step:=fun v:Int×Int=>dX (len s.orders) s.orders n v.1 v.2) (by omega) (fun i x=>∀j,(h:j<s.orders.length)->j<i->s.orders[j].id≠n) _ ?_ ?_ _ 0 (Nat.zero_le _) (fun j _ h=>by omega)) ?_
 ·rintro i x hi hx;simp only[dX];rw[au (by rw[cu];simpa using hi),au (inb _ i hi),aS _ i hi,dH];refine⟨fun he=>(ah _).2 ⟨i,rfl,hi,by simpa [ieq] using he,hx⟩,fun he=>(ah _).2 ⟨bQ (by omega),fun j hj hji=> ?_⟩⟩;by_cases e:j=i
  ·subst e;simpa [ieq] using he
  ·exact hx j hj (by omega)
 ·rintro x hx;simp only[dX];rw[bW (by rw[cu];simp),ah];exact fun j hj=>hx j hj hj
 ·rintro w hw;cases w with
  |inl k=>
   obtain⟨i,rfl,hi,h1,h2⟩:=hw;have:wE s.orders n=some i:=by
    unfold wE;rw[List.findIdx?_eq_some_iff_getElem];exact⟨hi,by simpa using h1,fun j hj=>by simpa using h2 j (by omega) hj⟩
   simp only[dJ,ah,PU,this]
  |inr k=>
   have:wE s.orders n=none:=by
    unfold wE;rw[List.findIdx?_eq_none_iff];intro o ho;obtain⟨j,hj,rfl⟩:=List.getElem_of_mem ho;simpa using hw j hj
   simp only[dJ,ah,PU,this]
theorem lu {l:List ax} {n:Int} {k:Nat} (h:wE l n=some k):∃hk:k<l.length,l[k].id=n:=by
 unfold wE at h;rw[List.findIdx?_eq_some_iff_getElem]at h;obtain⟨hk,h1,_⟩:=h;exact⟨hk,by simpa using h1⟩
theorem aiX {l:List ax} {n:Int} (h:wE l n=none):∀o∈l,o.id≠n:=by
 unfold wE at h;rw[List.findIdx?_eq_none_iff]at h;intro o ho;simpa using h o ho
theorem Dw {l:List ax} {n:Int} {k:Nat} (h:wE l n=some k):PU l n=k:=by unfold PU;rw[h]
theorem GL {l:List ax} {n:Int} (h:wE l n=none):PU l n= -1:=by unfold PU;rw[h]
def mZ (s:ay):Prop:=(1<=s.accounts/\s.accounts<=8)/\(1<=s.symbols/\s.symbols<=8)/\len s.cells=s.accounts*s.symbols/\len s.limits=len s.cells/\len s.caps=s.accounts/\s.orders.length<=64
instance (s:ay):Decidable (mZ s):=by unfold mZ;infer_instance
theorem CV {a b:Int} (h1:0<=a) (h2:a<=9) (h3:0<=b) (h4:b<=9):0<=a*b/\a*b<=81:=
 ⟨Int.mul_nonneg h1 h3,by have:=Int.mul_le_mul h2 h4 h3 (by omega);omega⟩
theorem Vh (s:ay):Wq (wO s) fun b=>b=true↔mZ s:=by
 unfold wO;simp only[ah,aH,aX,aK,mZ];constructor
 ·rintro⟨⟨⟨⟨⟨⟨⟨a,b⟩,c⟩,d⟩,e⟩,f⟩,g⟩,h⟩;have:=CV (a:=s.accounts) (b:=s.symbols) (by omega) (by omega) (by omega) (by omega);rw[show cO s.accounts s.symbols=s.accounts*s.symbols from rfl,bV this.1 (by omega)]at e;exact⟨⟨a,b⟩,⟨c,d⟩,e,f,g,by simp only[len]at h;omega⟩
 ·rintro⟨⟨a,b⟩,⟨c,d⟩,e,f,g,h⟩;have:=CV (a:=s.accounts) (b:=s.symbols) (by omega) (by omega) (by omega) (by omega);rw[show cO s.accounts s.symbols=s.accounts*s.symbols from rfl,bV this.1 (by omega)];exact⟨⟨⟨⟨⟨⟨⟨a,b⟩,c⟩,d⟩,e⟩,f⟩,g⟩,by simp only[len];omega⟩
theorem mZ.lens {s:ay} (hs:mZ s):s.cells.length<=64/\s.limits.length=s.cells.length/\s.caps.length=s.accounts.toNat/\s.orders.length<=64:=by
 obtain⟨⟨h1,h2⟩,⟨h3,h4⟩,h5,h6,h7,h8⟩:=hs;have m:s.accounts*s.symbols<=8*8:=Int.mul_le_mul h2 h4 (by omega) (by omega);simp only[len]at h5 h6 h7;exact⟨by omega,by omega,by omega,h8⟩
def atZ (n:Int) (o:ax):Int:=o.account*n+o.symbol
theorem KI {s:ay} (hs:mZ s) (a y:Int) (ha:0<=a) (ha2:a<s.accounts) (hy:0<=y) (hy2:y<s.symbols):
 ∃k:Nat,dw s a y=some (k:Int)/\(k:Int)=a*s.symbols+y/\k<s.cells.length:=by
 obtain⟨⟨h1,h2⟩,⟨h3,h4⟩,h5,_⟩:=hs
 have m:=CV (a:=a) (b:=s.symbols) (by omega) (by omega) (by omega) (by omega)
 have l:(a+1)*s.symbols<=s.accounts*s.symbols:=Int.mul_le_mul_of_nonneg_right (by omega) (by omega)
 have e:(a+1)*s.symbols=a*s.symbols+s.symbols:=by rw[Int.add_mul,Int.one_mul]
 refine⟨(a*s.symbols+y).toNat,?_,by omega,by simp only[len]at h5;omega⟩
 unfold dw
 rw[show cO a s.symbols=a*s.symbols from rfl,bV m.1 (by omega),show aB (a*s.symbols) y=a*s.symbols+y from rfl,bV (by omega) (by omega)]
 congr 1;omega
def rD (n:Int) (cs:List aT) (a:Int):List aT:=(cs.drop (a*n).toNat).take n.toNat
theorem Y0 {s:ay} (hs:mZ s) (a:Int) (ha:0<=a) (ha2:a<s.accounts):
 kN s a=some (rD s.symbols s.cells a):=by
 obtain⟨⟨h1,h2⟩,⟨h3,h4⟩,h5,_⟩:=hs
 have m:=CV (a:=a) (b:=s.symbols) (by omega) (by omega) (by omega) (by omega)
 have m2:=CV (a:=a+1) (b:=s.symbols) (by omega) (by omega) (by omega) (by omega)
 have l:(a+1)*s.symbols<=s.accounts*s.symbols:=Int.mul_le_mul_of_nonneg_right (by omega) (by omega)
 have e:(a+1)*s.symbols=a*s.symbols+s.symbols:=by rw[Int.add_mul,Int.one_mul]
 unfold kN
 rw[show cO a s.symbols=a*s.symbols from rfl,bV m.1 (by omega),show aB a 1=a+1 from rfl,bV (n:=a+1) (by omega) (by omega),
  show cO (a+1) s.symbols=(a+1)*s.symbols from rfl,bV m2.1 (by omega)]
 rw[au (by simp only[aH,aX];omega)]
 rw[show aV ((a+1)*s.symbols) (a*s.symbols)=s.symbols from by unfold aV;omega]
 rfl
theorem ae0 {n:Int} {cs:List aT} {a:Int} {c:aT} (h:c∈rD n cs a):c∈cs:=List.mem_of_mem_drop (List.mem_of_mem_take h)
theorem J8 {n:Int} {cs:List aT} {a:Int}:(rD n cs a).length<=cs.length:=by
 unfold rD;rw[List.length_take,List.length_drop];omega
def lm (s:ay) (o:ax):Prop:=sO o/\o.phase≠3/\o.account<s.accounts/\o.symbol<s.symbols
def LY (l:List ax):Prop:=l.Pairwise fun a b=>a.id<b.id
structure ahV (s:ay):Prop where
 ords:∀o∈s.orders,lm s o
 asc:LY s.orders
 ids:∀o∈s.orders,o.id<=s.last
 last:0<=s.last/\s.last<=1000000000000
 seq:0<=s.seq/\s.seq<=1000000000
 lsn:0<=s.lsn/\s.lsn<=1000000000
 lims:∀x∈s.limits,WM x
 caps:∀x∈s.caps,0<=x
theorem pR {α:Type} {l:List α} {i:Nat} (h:i<l.length) {x:α}:x∈l.take (i+1)↔x∈l.take i\/x=l[i]:=by
 rw[List.take_succ_eq_append_getElem h,List.mem_append,List.mem_singleton]
theorem aqe (s:ay) (hl:s.orders.length<999999) (h2:s.limits.length<999999) (h3:s.caps.length<999999) (h0:s.caps≠[]):
 Wq (yh s) fun b=>b=true↔ahV s:=by
 unfold yh
 refine Wq.bind (Q:=fun w:Bool ⊕ (Int×Bool)=>match w with
  |.inl b=>b=false/\¬((∀o∈s.orders,lm s o)/\LY s.orders)
  |.inr v=>(∀o∈s.orders,lm s o/\o.id<=v.1)/\LY s.orders/\(v.1=0\/∃o∈s.orders,o.id=v.1))
  (gu (n:=s.orders.length) (step:=fun v:Int×Int×Bool=>oK (len s.orders) s.orders s v.1 v.2.1 v.2.2) (by omega)
    (fun i v=>(∀o∈s.orders.take i,lm s o/\o.id<=v.1)/\LY (s.orders.take i)/\(v.1=0\/∃o∈s.orders.take i,o.id=v.1)) _ ?_ ?_ _ 0 (Nat.zero_le _) (by simp [LY])) ?_
 ·rintro i ⟨x,q⟩ hi ⟨g1,g2,g3⟩
  simp only at g1 g2 g3
  simp only[oK]
  rw[au (by rw[cu];simpa using hi),au (inb _ i hi),aS _ i hi,kZ,ai]
  simp only[dH,ah,aW,bf,aG,aF,aK,aN,aX,bF,decide_eq_true_eq,decide_eq_false_iff_not]
  refine⟨fun hb=>⟨trivial,fun⟨a1,a2⟩=> ?_⟩,fun hc=>⟨bQ (by omega),fun o ho=> ?_,?_,.inr ⟨_,(pR hi).2 (.inr rfl),rfl⟩⟩⟩
  ·obtain⟨b1,b2,b3,b4⟩:=a1 s.orders[i] (List.getElem_mem _)
   have hle:s.orders[i].id<=x:=by
    rcases hb with (((hb | hb) | hb) | hb) | hb
    ·exact absurd b1 hb
    ·exact absurd hb b2
    ·omega
    ·omega
    ·exact hb
   rcases g3 with g3 | ⟨o,ho,g3⟩
   ·have:=b1.1.1.1;omega
   ·obtain⟨j,hj,rfl⟩:=List.getElem_of_mem ho
    rw[List.length_take]at hj
    have:=List.pairwise_iff_getElem.1 a2 j i (by omega) hi (by omega)
    rw[List.getElem_take]at g3
    omega
  ·rcases(pR hi).1 ho with ho | rfl
   ·have:=g1 o ho
    exact⟨this.1,by have:=this.2;omega⟩
   ·exact⟨⟨hc.1.1.1.1,hc.1.1.1.2,by omega,by omega⟩,Int.le_refl _⟩
  ·rw[List.take_succ_eq_append_getElem hi]
   unfold LY
   rw[List.pairwise_append]
   refine⟨g2,by simp,fun a ha b hb=> ?_⟩
   rw[List.mem_singleton]at hb
   subst hb
   have:=(g1 a ha).2
   omega
 ·rintro⟨x,q⟩ hx
  simp only[oK]
  rw[bW (by rw[cu];simp),ah]
  simp only[List.take_length]at hx
  exact hx
 ·rintro w hw
  cases w with
  |inl b=>
   obtain⟨rfl,hn⟩:=hw
   simp only[dJ,ah]
   exact⟨fun h=>(by cases h),fun h=>absurd ⟨h.ords,h.asc⟩ hn⟩
  |inr v=>
   obtain⟨g1,g2,g3⟩:=hw
   have gl:v.1<=s.last/\0<=s.last↔(∀o∈s.orders,o.id<=s.last)/\0<=s.last:=by
    constructor
    ·rintro⟨a,b⟩;exact⟨fun o ho=>by have:=(g1 o ho).2;omega,b⟩
    ·rintro⟨a,b⟩
     refine⟨?_,b⟩
     rcases g3 with g3 | ⟨o,ho,g3⟩
     ·omega
     ·have:=a o ho;omega
   have hF:ahV s↔(v.1<=s.last/\s.last<=1000000000000/\0<=s.seq/\s.seq<=1000000000/\0<=s.lsn/\s.lsn<=1000000000)/\(∀x∈s.limits,WM x)/\(∀x∈s.caps,0<=x)/\0<=s.last:=by
    constructor
    ·intro h
     have:=gl.2 ⟨h.ids,h.last.1⟩
     exact⟨⟨this.1,h.last.2,h.seq.1,h.seq.2,h.lsn.1,h.lsn.2⟩,h.lims,h.caps,h.last.1⟩
    ·rintro⟨⟨a1,a2,a3,a4,a5,a6⟩,b,c,d⟩
     exact⟨fun o ho=>(g1 o ho).1,g2,(gl.1 ⟨a1,d⟩).1,⟨d,a2⟩,⟨a3,a4⟩,⟨a5,a6⟩,b,c⟩
   rw[hF]
   obtain⟨m,hm,hmq⟩:=Xd h3 h0
   simp only[dJ,hm,AB,arR,ai]
   simp only[aH,aJ,aW,bf,aG,aF,aZ,bg,aX,bF,aK,aN,bD,bH]
   by_cases hA:v.1<=s.last/\s.last<=1000000000000/\0<=s.seq/\s.seq<=1000000000/\0<=s.lsn/\s.lsn<=1000000000
   ·have hA':((((v.1<=s.last/\s.last<=1000000000000)/\0<=s.seq)/\s.seq<=1000000000)/\0<=s.lsn)/\s.lsn<=1000000000:=⟨⟨⟨⟨⟨hA.1,hA.2.1⟩,hA.2.2.1⟩,hA.2.2.2.1⟩,hA.2.2.2.2.1⟩,hA.2.2.2.2.2⟩
    rw[if_pos hA']
    refine Wq.bind (Q:=fun w:Int ⊕ Int=>match w with | .inl k=>0<=k/\¬∀x∈s.limits,WM x | .inr _=>∀x∈s.limits,WM x)
     (gu (n:=s.limits.length) (step:=fun v:Int×Int=>dF (len s.limits) s.limits v.1 v.2) (by omega) (fun i _=>∀x∈s.limits.take i,WM x) _ ?_ ?_ _ 0 (Nat.zero_le _) (by simp)) ?_
    ·rintro i x hi hx
     simp only[dF]
     rw[au (by rw[cu];simpa using hi),au (inb _ i hi),aS _ i hi,adG,ai]
     simp only[dH,ah,aG,aF,decide_eq_true_eq,decide_eq_false_iff_not]
     refine⟨fun h=>⟨by omega,fun h2=>h (h2 _ (List.getElem_mem _))⟩,fun h=>⟨bQ (by omega),fun x hx'=> ?_⟩⟩
     rcases(pR hi).1 hx' with h5 | rfl
     ·exact hx x h5
     ·exact h
    ·rintro x hx
     simp only[dF]
     rw[bW (by rw[cu];simp),ah]
     rwa[List.take_length]at hx
    ·rintro w hw
     cases w with
     |inl k=>
      obtain⟨hk,hn⟩:=hw
      simp only
      rw[if_neg (fun h=>by omega),ah]
      simp only[aH,aJ,aW,bf,aG,aF,aZ,bg,aX,bF,aK,aN,bD,bH]
      constructor
      ·rintro⟨⟨⟨_,h⟩,_⟩,_⟩;omega
      ·rintro⟨_,h,_⟩;exact absurd h hn
     |inr k=>
      simp only
      rw[if_pos (.inl hA'),ah]
      simp only[aH,aJ,aW,bf,aG,aF,aZ,bg,aX,bF,aK,aN,bD,bH]
      constructor
      ·rintro⟨⟨_,h1⟩,h2⟩;exact⟨hA,hw,hmq.1 h1,h2⟩
      ·rintro⟨_,_,h1,h2⟩;exact⟨⟨.inl hA',hmq.2 h1⟩,h2⟩
   ·have hA':¬(((((v.1<=s.last/\s.last<=1000000000000)/\0<=s.seq)/\s.seq<=1000000000)/\0<=s.lsn)/\s.lsn<=1000000000):=by omega
    rw[if_neg hA',if_neg (by simpa using hA'),ah]
    simp only[aH,aJ,aW,bf,aG,aF,aZ,bg,aX,bF,aK,aN,bD,bH]
    constructor
    ·rintro⟨⟨h | h,_⟩,_⟩
     ·exact absurd h hA'
     ·cases h
    ·rintro⟨h,_⟩;exact absurd h hA
def kK (a b:aT):aT:=⟨a.pos+b.pos,a.buy+b.buy,a.sell+b.sell,a.opn+b.opn⟩
def zC:aT:=⟨0,0,0,0⟩
def wC (o:ax):aT:=if o.side=2 then ⟨0,0,jX o,fB o⟩else ⟨0,jX o,0,fB o⟩
def inC (n i:Int) (o:ax):aT:=if atZ n o=i then wC o else zC
def jo (n i:Int):List ax->aT
 |[]=>zC
 |o::r=>kK (inC n i o) (jo n i r)
theorem zh {a b:aT} (h1:a.pos=b.pos) (h2:a.buy=b.buy) (h3:a.sell=b.sell) (h4:a.opn=b.opn):a=b:=by
 cases a;cases b;simp_all
theorem NQ (a:aT):kK a zC=a:=by apply zh<;>simp [kK,zC]
theorem ara (a:aT):kK zC a=a:=by apply zh<;>simp [kK,zC]
theorem alD (a b:aT):kK a b=kK b a:=by apply zh<;>simp only[kK]<;>omega
theorem Lr (a b c:aT):kK (kK a b) c=kK a (kK b c):=by apply zh<;>simp only[kK]<;>omega
theorem XI (c:aT) (o:ax):tH c o=kK c (wC o):=by unfold tH wC;split<;>simp [kK]
theorem uY (n i:Int):∀(l m:List ax),jo n i (l++m)=kK (jo n i l) (jo n i m)
 |[],m=>(ara _).symm
 |o::l,m=>by
  rw[List.cons_append,jo,jo,uY n i l m,Lr]
theorem X8 (n i:Int) (o:ax):jo n i [o]=inC n i o:=NQ _
theorem La (n i:Int) (l:List ax) (k:Nat) (h:k<l.length):jo n i l=kK (kK (jo n i (l.take k)) (jo n i (l.drop (k+1)))) (inC n i l[k]):=by
 have e:l=l.take k++(l[k]::l.drop (k+1)):=by rw[<-List.drop_eq_getElem_cons h,List.take_append_drop]
 have:jo n i l=jo n i (l.take k++(l[k]::l.drop (k+1))):=by rw[<-e]
 rw[this,uY,jo,Lr,alD (inC n i l[k])]
theorem abh (n i:Int) (l:List ax) (k:Nat) (h:k<l.length) (p:ax):jo n i (l.set k p)=kK (kK (jo n i (l.take k)) (jo n i (l.drop (k+1)))) (inC n i p):=by
 have h1:(l.set k p).take k=l.take k:=List.take_set_of_le (Nat.le_refl _);have h2:(l.set k p).drop (k+1)=l.drop (k+1):=List.drop_set_of_lt (by omega);have h3:(l.set k p)[k]'(by simpa using h)=p:=List.getElem_set_self _;rw[La n i (l.set k p) k (by simpa using h),h1,h2,h3]
theorem abM (n i:Int) (l:List ax) (k:Nat) (h:k<l.length):jo n i (l.eraseIdx k)=kK (jo n i (l.take k)) (jo n i (l.drop (k+1))):=by
 rw[List.eraseIdx_eq_take_drop_succ,uY]
def nnC (c:aT):Prop:=c.pos=0/\0<=c.buy/\0<=c.sell/\0<=c.opn
theorem am4 {o:ax} (h:sO o) (hr:dU o):nnC (wC o):=by
 have:=D6 h hr;have:=Hq h;unfold wC nnC;split<;>simp<;>omega
theorem arh (n i:Int) {o:ax} (h:sO o) (hr:dU o):nnC (inC n i o):=by
 unfold inC;split
 ·exact am4 h hr
 ·simp [nnC,zC]
theorem afC {a b:aT} (h1:nnC a) (h2:nnC b):nnC (kK a b):=by
 unfold nnC kK at *; simp only;omega
theorem JZ (n i:Int):∀ {l:List ax},(∀o∈l,sO o/\dU o)->nnC (jo n i l)
 |[],_=>by simp [jo,nnC,zC]
 |o::l,h=>afC (arh n i (h o (by simp)).1 (h o (by simp)).2) (JZ n i fun x hx=>h x (by simp [hx]))
def IU (c:aT):Prop:=c.buy<=9223372036854775807/\c.sell<=9223372036854775807/\c.opn<=9223372036854775807
theorem acX {c:aT} (h:nnC c) (hf:IU c):okC c:=by
 obtain⟨h0,h1,h2,h3⟩:=h;obtain⟨f1,f2,f3⟩:=hf;rw[Nc,h0];unfold inI;omega
theorem Zh {c:aT} (h:okC c):IU c:=⟨h.1.buy.2,h.1.sell.2,h.1.opn.2⟩
theorem ahT {a b:aT} (hb:nnC b) (h:IU (kK a b)):IU a:=by
 unfold IU kK nnC at *; simp only at *; omega
def fitAll (s:ay):Prop:=∀j:Nat,j<s.cells.length->IU (jo s.symbols j s.orders)
theorem aeJ {α:Type} (l:List α) (k:Nat) (x:α) (j:Nat) (h:j<(dN l (itn (k:Int)) x).length):(dN l (itn (k:Int)) x)[j]=if k=j then x else l[j]'(by simpa [dN] using h):=by
 simp [dN,itn,List.getElem_set]
theorem alZ {s:ay} (hs:mZ s) (hk:∀o∈s.orders,lm s o/\dU o):
 Wq (um s) fun r=>(r.2=true↔fitAll s)/\(r.2=true->r.1.length=s.cells.length/\∀(j:Nat) (h:j<r.1.length),r.1[j]=jo s.symbols j s.orders):=by
 obtain⟨hc,_,_,hol⟩:=hs.lens
 unfold um
 rw[au (by simp only[aH,aX,len];omega)]
 refine Wq.bind (Q:=fun w:(Bool×List aT×List aT) ⊕ (Bool×List aT×List aT)=>match w with
  |.inl b=>b.1=false/\¬fitAll s
  |.inr b=>b.2.2.length=s.cells.length/\∀(j:Nat) (h:j<b.2.2.length),b.2.2[j]=jo s.symbols j s.orders/\IU b.2.2[j])
  (gu (n:=s.orders.length) (step:=fun v:Int×Bool×List aT×List aT=>lT (len s.orders) s.orders s v.1 v.2.1 v.2.2.1 v.2.2.2) (by omega)
    (fun i x=>x.2.2.length=s.cells.length/\∀(j:Nat) (h:j<x.2.2.length),x.2.2[j]=jo s.symbols j (s.orders.take i)/\IU x.2.2[j]) _ ?_ ?_ _ 0 (Nat.zero_le _) ?_) ?_
 ·rintro i ⟨q,x,y⟩ hi ⟨hx,hy⟩
  simp only at hx hy
  simp only[lT]
  have hmem:=hk s.orders[i] (List.getElem_mem _)
  obtain⟨⟨ho,ho3,g1,g2⟩,hor⟩:=id hmem
  obtain⟨⟨_,hb1,hb2,_⟩,_⟩:=id ho
  obtain⟨k,k1,k2,k3⟩:=KI hs s.orders[i].account s.orders[i].symbol hb1.1 g1 hb2.1 g2
  have hky:k<y.length:=by omega
  have hnn:nnC y[k]:=by
   rw[(hy k hky).1]
   exact JZ _ _ fun o h=>⟨(hk o (List.mem_of_mem_take h)).1.1,(hk o (List.mem_of_mem_take h)).2⟩
  have hok:okC y[k]:=acX hnn (hy k hky).2
  have hnew:nnC (tH y[k] s.orders[i]):=by rw[XI];exact afC hnn (am4 ho hor)
  have hsum:∀j:Nat,jo s.symbols j (s.orders.take (i+1))=kK (jo s.symbols j (s.orders.take i)) (inC s.symbols j s.orders[i]):=fun j=>by
   rw[List.take_succ_eq_append_getElem hi,uY,X8]
  have hat:atZ s.symbols s.orders[i]=(k:Int):=k2.symm
  have hkk:tH y[k] s.orders[i]=jo s.symbols k (s.orders.take (i+1)):=by
   rw[hsum,XI,(hy k hky).1]
   unfold inC;rw[if_pos hat]
  rw[au (by rw[cu];simpa using hi),au (inb _ i hi),aS _ i hi,k1,ai,au (inb y k hky),aS y k hky,Nw hok ho hor,ai]
  by_cases hf:okC (tH y[k] s.orders[i])
  ·rw[if_pos hf]
   simp only[kD,aI,aO]
   rw[au (inb y k hky),ah]
   refine⟨bQ (by omega),(Ci _ _ _).trans hx,fun j hj=> ?_⟩
   have hj':j<y.length:=by simpa [dN] using hj
   show(dN y (itn (k:Int)) (tH y[k] s.orders[i]))[j]'hj=_/\IU ((dN y (itn (k:Int)) (tH y[k] s.orders[i]))[j]'hj)
   rw[aeJ]
   split
   ·rename_i e;subst e
    exact⟨hkk,Zh hf⟩
   ·rename_i e
    rw[hsum j]
    unfold inC
    rw[if_neg (by omega),NQ]
    exact hy j hj'
  ·rw[if_neg hf]
   simp only[FD,aU,aP]
   rw[ah]
   refine⟨rfl,fun hall=>hf (acX hnew ?_)⟩
   rw[hkk]
   have e:jo s.symbols k s.orders=kK (jo s.symbols k (s.orders.take (i+1))) (jo s.symbols k (s.orders.drop (i+1))):=by
    rw[<-uY,List.take_append_drop]
   have:=hall k k3
   rw[e]at this
   exact ahT (JZ _ _ fun o h=>⟨(hk o (List.mem_of_mem_drop h)).1.1,(hk o (List.mem_of_mem_drop h)).2⟩) this
 ·rintro⟨q,x,y⟩ hx
  simp only[lT]
  rw[bW (by rw[cu];simp),ah]
  simp only[List.take_length]at hx
  exact hx
 ·simp only[List.take_zero,jo]
  refine⟨by simp [yO,itn,len],fun j hj=> ?_⟩
  simp only[yO,List.getElem_replicate]
  exact⟨rfl,by simp only[IU];decide⟩
 ·rintro w hw
  cases w with
  |inl b=>
   obtain⟨h1,h2⟩:=hw
   simp only[dJ,ah,h1]
   exact⟨⟨fun h=>(by cases h),fun h=>absurd h h2⟩,fun h=>by cases h⟩
  |inr b=>
   obtain⟨h1,h2⟩:=hw
   simp only[dJ,ah]
   refine⟨⟨fun _ j hj=> ?_,fun _=>trivial⟩,fun _=>⟨h1,fun j hj=>(h2 j hj).1⟩⟩
   have:=h2 j (by omega)
   rw[<-this.1];exact this.2
def dh (s:ay) (l:List ax):List aT:=s.cells.mapIdx fun i c=>kK ⟨c.pos,0,0,0⟩ (jo s.symbols i l)
theorem fG (s:ay) (l:List ax):(dh s l).length=s.cells.length:=by simp [dh]
theorem rG (s:ay) (l:List ax) (i:Nat) (h:i<(dh s l).length):(dh s l)[i]=kK ⟨(s.cells[i]'(by simpa [dh] using h)).pos,0,0,0⟩ (jo s.symbols i l):=by
 simp [dh]
def Oi (n m:Int) (cs:List aT):Prop:=∀a:Int,0<=a->a<n->iq (rD m cs a)<=9223372036854775807
structure iZ (s:ay):Prop where
 sized:mZ s
 fine:ahV s
 cells:s.cells=dh s s.orders
 ok:∀c∈s.cells,okC c
 acct:Oi s.accounts s.symbols s.cells
theorem Qo (s:ay) (hr:iW s) (hl:s.orders.length<999999) (h2:s.limits.length<999999) (h3:s.caps.length<999999):
 Wq (jU s) fun b=>b=true↔iZ s:=by
 unfold jU BL
 rw[iQ]
 refine Wq.bind (Vh s) fun z hz=> ?_
 refine Wq.bind (Q:=fun b=>b=true↔(z=true/\ahV s)) ?_ ?_
 ·rw[dH]
  refine⟨fun h=> ?_,fun h=>(ah _).2 ?_⟩
  ·simp only[aG,aF]at h
   have hs:mZ s:=hz.1 h
   refine(aqe s hl h2 h3 ?_).mono fun b hb=>by rw[hb];simp [h]
   intro e
   have:=hs.2.2.2.2.1
   have:=hs.1.1
   simp [e,len]at*
   omega
  ·simp only[aG,aF]at h
   simp [h]
 ·intro f hf
  rw[dH]
  refine⟨fun h=>(ah _).2 ((ah _).2 ?_),fun h=> ?_⟩
  ·simp only[aW,aG]at h
   refine⟨fun h=>(by cases h),fun hr=> ?_⟩
   have e1:=hz.2 hr.sized
   have e2:=hf.2 ⟨e1,hr.fine⟩
   rw[e1,e2]at h
   simp at h
  ·simp only[bf,aF]at h
   have hs:=hz.1 h.1
   have hfn:=(hf.1 h.2).2
   obtain⟨hc,hlim,hcap,hol⟩:=hs.lens
   have hall:∀o∈s.orders,lm s o/\dU o:=fun o ho=>⟨hfn.ords o ho,hr.orders.1 o ho⟩
   have hokc:∀c∈s.cells,Dh c:=hr.cells.1
   refine Wq.bind (alZ hs hall) fun y hy=> ?_
   obtain⟨hy1,hy2⟩:=hy
   rw[dH]
   refine⟨fun h5=>(ah _).2 ((ah _).2 ?_),fun h5=> ?_⟩
   ·rw[aG]at h5
    refine⟨fun h=>(by cases h),fun hR=> ?_⟩
    have:y.2=true:=hy1.2 fun j hj=>by
     have e:=hR.ok s.cells[j] (List.getElem_mem _)
     have e2:s.cells[j]=kK ⟨s.cells[j].pos,0,0,0⟩ (jo s.symbols j s.orders):=by
      have:=rG s s.orders j (by rw[fG];exact hj)
      rw[<-this]
      congr 1
      exact hR.cells
     have e3:=Zh e
     rw[e2]at e3
     unfold IU kK at e3
     simpa [IU] using e3
    rw[this]at h5;cases h5
   ·rw[aF]at h5
    obtain⟨hyl,hyg⟩:=hy2 h5
    refine Wq.bind (Q:=fun w:(Bool×List aT) ⊕ (Bool×List aT)=>match w with
     |.inl b=>b.1=false/\¬((∀c∈s.cells,okC c)/\s.cells=dh s s.orders)
     |.inr _=>(∀c∈s.cells,okC c)/\s.cells=dh s s.orders)
     (gu (n:=s.cells.length) (step:=fun v:Int×Bool×List aT=>lH (len s.cells) s.cells v.1 v.2.1 v.2.2) (by omega)
     (fun i x=>x.2.length=s.cells.length/\(∀(j:Nat) (h:j<x.2.length),i<=j->x.2[j]=jo s.symbols j s.orders)/\∀(j:Nat) (h:j<s.cells.length),j<i->okC s.cells[j]/\s.cells[j]=kK ⟨s.cells[j].pos,0,0,0⟩ (jo s.symbols j s.orders)) _ ?_ ?_ _ 0 (Nat.zero_le _)
     ⟨hyl,fun j hj _=>hyg j hj,fun j _ h=>by omega⟩) ?_
    ·rintro i ⟨q,x⟩ hi ⟨hx,hxj,hxd⟩
     simp only at hx hxj hxd
     simp only[lH]
     have hix:i<x.length:=by omega
     rw[au (by rw[cu];simpa using hi),au (inb _ i hi),au (inb x i hix),aS _ i hi,aS x i hix,nO (hokc _ (List.getElem_mem _)),ai]
     have hil:i<(dN x (itn (i:Int)) (aT.mk s.cells[i].pos x[i].buy x[i].sell x[i].opn)).length:=by rw[Ci];exact hix
     rw[au (by rw[aW];exact .inl (inb _ i hil)),aS _ i hil]
     have hg:(dN x (itn (i:Int)) (aT.mk s.cells[i].pos x[i].buy x[i].sell x[i].opn))[i]=aT.mk s.cells[i].pos x[i].buy x[i].sell x[i].opn:=by
      simp [dN,itn]
     rw[hg]
     have hxi:=hxj i hix (Nat.le_refl _)
     have hq:kK ⟨s.cells[i].pos,0,0,0⟩ (jo s.symbols i s.orders)=aT.mk s.cells[i].pos x[i].buy x[i].sell x[i].opn:=by
      rw[<-hxi]
      have hp:x[i].pos=0:=by rw[hxi];exact(JZ _ _ fun o h=>⟨(hall o h).1.1,(hall o h).2⟩).1
      apply zh<;>simp only[kK]<;>omega
     simp only[dH,ah,aH,aJ,aW,bf,aG,aF,aZ,bg,aX,bF,aK,aN,bD,bH]
     constructor
     ·intro hb
      refine⟨trivial,fun⟨a1,a2⟩=> ?_⟩
      have b1:=a1 s.cells[i] (List.getElem_mem _)
      have b2:s.cells[i]=kK ⟨s.cells[i].pos,0,0,0⟩ (jo s.symbols i s.orders):=by
       have:=rG s s.orders i (by rw[fG];exact hi)
       rw[<-this];congr 1
      rw[hq]at b2
      rcases hb with hb | hb
      ·exact absurd b1 (by simpa using hb)
      ·have c2:=congrArg aT.buy b2;have c3:=congrArg aT.sell b2;have c4:=congrArg aT.opn b2
       simp only at c2 c3 c4
       rcases hb with hb | hb | hb | hb
       ·exact hb rfl
       ·exact hb c2.symm
       ·exact hb c3.symm
       ·exact hb c4.symm
     ·intro hb
      obtain⟨b1,_,b2,b3,b4⟩:=hb
      refine⟨bQ (by omega),(Ci _ _ _).trans hx,fun j hj hij=> ?_,fun j hj hji=> ?_⟩
      ·rw[aeJ,if_neg (by omega)]
       exact hxj j (by simpa [dN] using hj) (by omega)
      ·by_cases e:j=i
       ·subst e
        refine⟨by simpa using b1,?_⟩
        rw[hq]
        exact zh rfl b2.symm b3.symm b4.symm
       ·exact hxd j hj (by omega)
    ·rintro⟨q,x⟩ ⟨hx,_,hxd⟩
     simp only[lH]
     rw[bW (by rw[cu];simp),ah]
     refine⟨fun c hc=> ?_,?_⟩
     ·obtain⟨j,hj,rfl⟩:=List.getElem_of_mem hc
      exact(hxd j hj hj).1
     ·refine List.ext_getElem (fG _ _).symm fun j h1 h2=> ?_
      rw[rG]
      exact(hxd j h1 h1).2
    ·rintro w hw
     cases w with
     |inl b=>
      obtain⟨h1,h2⟩:=hw
      simp only[dJ,ah,h1]
      exact⟨fun h=>(by cases h),fun hR=>absurd ⟨hR.ok,hR.cells⟩ h2⟩
     |inr b=>
      obtain⟨hok,hcs⟩:=hw
      simp only[dJ]
      rw[iQ]
      have hacc:∀a:Int,∀c∈rD s.symbols s.cells a,0<=c.opn/\inI c.opn:=fun a c hc=>by
       have:=hok c (ae0 hc)
       exact⟨this.2.1.2.2,this.1.opn⟩
      refine Wq.mono (Q:=fun w:Bool ⊕ Bool=>match w with | .inl b=>b=false/\¬Oi s.accounts s.symbols s.cells | .inr _=>Oi s.accounts s.symbols s.cells)
       (gu (n:=s.accounts.toNat) (step:=fun v:Int×Bool=>l9 s.accounts s v.1 v.2) (by have:=hs.1.2;omega)
       (fun i x=>∀a:Int,0<=a->a<i->iq (rD s.symbols s.cells a)<=9223372036854775807) _ ?_ ?_ _ 0 (Nat.zero_le _) (fun a h1 h2=>by omega)) ?_
      ·rintro i q hi hx
       have hia:(i:Int)<s.accounts:=by omega
       simp only[l9]
       rw[au (DL hia),Y0 hs i (by omega) hia,ai,OA (by have:=J8 (n:=s.symbols) (cs:=s.cells) (a:=(i:Int));omega) (hacc i),ai]
       by_cases hw:iq (rD s.symbols s.cells i)<=9223372036854775807
       ·rw[if_pos hw]
        simp only[kD,aI,aO,ah]
        refine⟨bQ (by omega),fun a h1 h2=> ?_⟩
        by_cases e:a=i
        ·subst e;exact hw
        ·exact hx a h1 (by omega)
       ·rw[if_neg hw]
        simp only[FD,aU,aP,ah]
        exact⟨trivial,fun h=>hw (h i (by omega) hia)⟩
      ·rintro q hx
       simp only[l9]
       rw[bW (zQ (by omega)),ah]
       exact fun a h1 h2=>hx a h1 (by omega)
      ·rintro w hw
       cases w with
       |inl b=>
        obtain⟨rfl,h2⟩:=hw
        simp only[ah]
        exact⟨fun h=>(by cases h),fun hR=>absurd hR.acct h2⟩
       |inr b=>
        simp only[ah]
        exact⟨fun _=>⟨hs,hfn,hcs,hok,hw⟩,fun _=>trivial⟩
def KU (o:ax):ax:=⟨o.id,o.account,o.symbol,o.side,o.qty,o.price,o.filled,3,0,0,o.version,o.asked⟩
def Pz (o:ax):ax:=⟨o.id,o.account,o.symbol,o.side,o.qty,o.price,o.filled,o.phase,0,0,o.version,o.asked⟩
def fK (r:dB):ax:=⟨r.order,r.account,r.symbol,r.side,r.qty,r.price,0,1,0,0,0,false⟩
def sW (o:ax):Prop:=o.phase=2/\¬rO o/\o.asked=false/\o.version<9223372036854775807
instance (o:ax):Decidable (sW o):=by unfold sW;infer_instance
def oI (o:ax) (q p:Int):ax:=⟨o.id,o.account,o.symbol,o.side,o.qty,o.price,o.filled,o.phase,q,p,o.version+1,o.asked⟩
def ak0 (o:ax):ax:=⟨o.id,o.account,o.symbol,o.side,o.qty,o.price,o.filled,o.phase,o.newQty,o.newPrice,o.version,true⟩
def ZT (o:ax) (f:Int):ax:=⟨o.id,o.account,o.symbol,o.side,o.qty,o.price,f,o.phase,o.newQty,o.newPrice,o.version,o.asked⟩
def ZP (o:ax) (f:Int):ax:=⟨o.id,o.account,o.symbol,o.side,o.qty,o.price,o.filled,f,o.newQty,o.newPrice,o.version,o.asked⟩
def aen (o:ax) (q p:Int):ax:=⟨o.id,o.account,o.symbol,o.side,q,p,o.filled,o.phase,0,0,o.version,o.asked⟩
def PZ (o:ax) (what q p:Int):Option ax:=
 if o.phase=1 then (if what=1 then some (ZP o 2)else if what=2 then some (KU o)else none)
 else if o.phase=2 then
  if what=3 then (if o.qty - o.filled<q then none else if o.filled+q<o.qty then some (ZT o (o.filled+q))else some (KU (ZT o (o.filled+q))))
  else if what=4 then some (KU o)
  else if what=5 then (if rO o/\q=o.newQty/\p=o.newPrice/\o.filled<q then some (aen o q p)else none)
  else if what=6 then (if rO o then some (Pz o)else none)
  else none
 else none
theorem adk {r:dB} (h:nI r) (hk:r.kind=1):H9 r=some (fK r,0):=by
 unfold H9;obtain⟨b,e,q⟩:=DF r;rw[e,q.2 h,hk]
 rfl
theorem abZ {o:ax} {q p:Int} (h:sO o) (hr:dU o) (hq:1<=q) (hp:1<=p):
 Wq (EK o q p) fun r=>(sW o->r=(oI o q p,0))/\(¬sW o->r.2≠0):=by
 have hv:=hr.version
 unfold EK
 rw[qw hv (by decide),ai,kZ,ai,decide_eq_true h,aI,aO,bW (zQ (by omega)),bW (zQ (by omega))]
 unfold inI at hv
 by_cases hm:o.version+1<=9223372036854775807
 ·rw[if_pos ⟨by omega,hm⟩]
  simp only[kD,aI,aO]
  unfold aB
  rw[ng ⟨by omega,hm⟩,Jh,ai]
  simp only[iQ,dH,ah,aH,aJ,aW,bf,aG,aF,aZ,bg,aX,bF,aK,aN,bD,bH,true_implies,ne_eq,not_true_eq_false,false_implies,and_true,true_and,or_self,reduceCtorEq]
  unfold sW
  refine⟨fun h1=>⟨fun _=>⟨fun h2=>absurd h2.1 h1,fun _=>by decide⟩,fun h2=>absurd h2 h1⟩,fun h1=>⟨fun h2=>⟨fun _=>⟨fun h3=>absurd (by simpa using h2) h3.2.1,fun _=>by decide⟩,fun h3=>by rw[h2]at h3;cases h3⟩,fun h2=> ?_⟩⟩
  have h2:¬rO o:=by simpa using h2
  refine⟨fun h3=>⟨fun h4=>(by rw[h4.2.2.1]at h3;cases h3),fun _=>by decide⟩,fun h3=>⟨fun _=>rfl,fun h4=>absurd ⟨h1,h2,h3,by omega⟩ h4⟩⟩
 ·rw[if_neg (by unfold inI;omega)]
  simp only[FD,aU,aP,ah]
  exact⟨fun h2=>(by have:=h2.2.2.2;omega),fun _=>by decide⟩
theorem ah1 {o:ax} (h:sO o) (h3:o.phase≠3):ND o=some (if o.asked=true then (o,8)else (ak0 o,0)):=by
 unfold ND;rw[kZ,ai,decide_eq_true h,aI,aO,bW (by rw[aN];exact h3),AB];split<;>rfl
def DX (n:uX):dB:=⟨6,n.order,0,0,0,n.qty,n.price,0,0,0,false,n.seq,n.what⟩
theorem Qs (o:ax):FO o=some (KU o):=rfl
theorem ae5 (o:ax) (n:uX):JK o n=some (if n.what=1 then (ZP o 2,true)else if n.what=2 then (KU o,true)else (o,false)):=by
 unfold JK;rw[Qs,ai,dQ,dQ];split
 ·rfl
 ·split<;>rfl
theorem afH {o:ax} {n:uX} (h:sO o) (hr:dU o) (hp:o.phase=2) (hn:n.what=3->1<=n.qty/\inI n.qty):
 Wq (JJ o n) fun r=>match PZ o n.what n.qty n.price with | some p=>r=(p,true) | none=>r.2=false:=by
 have hq:=hr.qty;have hf:=hr.filled
 have h1:=h.2.1;have h2:=h.2.2.1
 unfold inI at hq hf
 unfold JJ PZ
 rw[if_neg (by omega),if_pos hp]
 unfold aV aB
 rw[ng (n:=o.qty - o.filled) ⟨by omega,by omega⟩]
 by_cases k3:n.what=3
 ·obtain⟨g1,g2⟩:=hn k3
  unfold inI at g2
  rw[if_pos k3,au (by rw[aK];exact k3),dH]
  refine⟨fun h4=> ?_,fun h4=> ?_⟩
  ·rw[aZ]at h4
   rw[if_pos h4,ah]
  ·rw[bg]at h4
   rw[if_neg (by omega),ng ⟨by omega,by omega⟩,dH]
   refine⟨fun h5=> ?_,fun h5=> ?_⟩
   ·rw[aZ]at h5
    rw[if_pos h5,ah];rfl
   ·rw[bg]at h5
    rw[if_neg (by omega),Qs,ai,ah];rfl
 rw[if_neg k3,bW (by rw[aN];exact k3)]
 by_cases k4:n.what=4
 ·rw[if_pos k4,au (by rw[aK];exact k4),Qs,ai,ah]
 rw[if_neg k4,bW (by rw[aN];exact k4)]
 by_cases k5:n.what=5
 ·rw[if_pos k5,au (by rw[aK];exact k5),Jh,ai,dH]
  refine⟨fun hb=> ?_,fun hb=> ?_⟩
  ·simp only[aH,aJ,aW,bf,aG,aF,aZ,bg,aX,bF,aK,aN,bD,bH,decide_eq_false_iff_not]at hb
   rw[if_neg (by rintro⟨a1,a2,a3,a4⟩;rcases hb with ((hb | hb) | hb) | hb;exact hb a1;exact hb a2;exact hb a3;omega),ah]
  ·simp only[aH,aJ,aW,bf,aG,aF,aZ,bg,aX,bF,aK,aN,bD,bH,decide_eq_true_eq]at hb
   rw[if_pos ⟨hb.1.1.1,hb.1.1.2,hb.1.2,by omega⟩]
   exact(ah _).2 rfl
 rw[if_neg k5,bW (by rw[aN];exact k5)]
 by_cases k6:n.what=6
 ·rw[if_pos k6,au (by rw[aK];exact k6),Jh]
  by_cases hb:rO o
  ·rw[if_pos hb,decide_eq_true hb];exact(ah _).2 rfl
  ·rw[if_neg hb,decide_eq_false hb];exact(ah _).2 rfl
 rw[if_neg k6,bW (by rw[aN];exact k6),ah]
theorem afp {o:ax} {n:uX} (h:sO o) (hr:dU o) (hn:nI (DX n)) (hi:n.order=o.id) (hq:inI n.qty):
 JC o n=some (match PZ o n.what n.qty n.price with | some p=>(p,0) | none=>(o,8)):=by
 refine Wq.eq ?_
 unfold JC
 obtain⟨b,e,q⟩:=DF (DX n)
 rw[kZ,ai,decide_eq_true h,aI,aU,aP,show EN n=some (DX n)from rfl,ai,aP,e,q.2 hn,ai,aI,dD,dD,bW (by rw[aF,aK];exact hi),dH]
 refine⟨fun h1=> ?_,fun h1=> ?_⟩
 ·rw[aK]at h1
  rw[ae5,ai]
  unfold PZ
  rw[if_pos h1]
  by_cases k1:n.what=1
  ·simp only[if_pos k1];exact(ah _).2 rfl
  ·by_cases k2:n.what=2
   ·simp only[if_neg k1,if_pos k2];exact(ah _).2 rfl
   ·simp only[if_neg k1,if_neg k2];exact(ah _).2 rfl
 ·rw[aN]at h1
  rw[dH]
  refine⟨fun h2=> ?_,fun h2=> ?_⟩
  ·rw[aK]at h2
   refine Wq.bind (afH h hr h2 fun k3=> ?_) fun y hy=> ?_
   ·unfold nI DX at hn
    simp only at hn
    refine⟨?_,hq⟩
    omega
   ·rw[dH]
    cases ht:PZ o n.what n.qty n.price with
    |none=>
     simp only[ht]at hy
     rw[hy]
     exact⟨fun _=>(ah _).2 rfl,fun h=>(by cases h)⟩
    |some p=>
     simp only[ht]at hy
     rw[hy]
     exact⟨fun h=>(by cases h),fun _=>(ah _).2 rfl⟩
  ·rw[aN]at h2
   rw[ah]
   unfold PZ
   rw[if_neg h1,if_neg h2]
def BG (s:ay) (l:List ax):ay:=⟨s.accounts,s.symbols,l,dh s l,s.limits,s.caps,s.kill,s.last,s.seq,s.lsn⟩
def WA (s:ay):Prop:=(∀c∈s.cells,okC c)/\Oi s.accounts s.symbols s.cells
def KQ (was now:ay) (a y:Int):Prop:=
 AA (ofC (aj was.cells (itn (a*was.symbols+y)))) (ofC (aj now.cells (itn (a*was.symbols+y)))) (aj was.limits (itn (a*was.symbols+y)))\/
 Xh (iq (rD was.symbols was.cells a)) (iq (rD was.symbols now.cells a)) (aj was.caps (itn a))
instance (s t:ay) (a y:Int):Decidable (KQ s t a y):=by unfold KQ;infer_instance
open Classical in
noncomputable def SI (s t:ay) (a y:Int):ay×Int:=
 if ¬WA t then (s,3)else if KQ s t a y then (s,4)else (⟨t.accounts,t.symbols,t.orders,t.cells,t.limits,t.caps,t.kill,t.last,t.seq,t.lsn+1⟩,0)
def ae8 (s:ay) (o:ax) (q:Int):List aT:=
 dN s.cells (itn (atZ s.symbols o)) ⟨if o.side=1 then (aj s.cells (itn (atZ s.symbols o))).pos+q else (aj s.cells (itn (atZ s.symbols o))).pos - q,(aj s.cells (itn (atZ s.symbols o))).buy,(aj s.cells (itn (atZ s.symbols o))).sell,(aj s.cells (itn (atZ s.symbols o))).opn⟩
def evS (s:ay) (r:dB) (k:Nat) (p:ax):ay:=
 let o:=aj s.orders k
 let s':ay:=⟨s.accounts,s.symbols,s.orders,if r.what=3 then ae8 s o r.qty else s.cells,s.limits,s.caps,s.kill,s.last,r.seq,s.lsn+1⟩
 BG s' (if p.phase=3 then s.orders.eraseIdx k else dN s.orders k p)
def I8 (s:ay) (r:dB):Prop:=iZ s/\nI r/\s.lsn<1000000000/\r.account<s.accounts/\r.symbol<s.symbols/\(r.kind=1->s.last<r.order)
open Classical in
noncomputable def doS (s:ay) (r:dB):ay×Int:=
 if ¬I8 s r then (s,1)
 else if r.kind=1 then
  if s.kill=true then (s,5)else if s.orders.length=64 then (s,6)
  else SI s ⟨s.accounts,s.symbols,aQ s.orders [fK r],dh s (aQ s.orders [fK r]),s.limits,s.caps,s.kill,r.order,s.seq,s.lsn⟩ r.account r.symbol
 else if r.kind=2 then
  match wE s.orders r.order with
  |none=>(s,7)
  |some k=>
   if ¬sW (aj s.orders k)then (s,8)else if s.kill=true then (s,5)
   else SI s (BG s (dN s.orders k (oI (aj s.orders k) r.qty r.price))) (aj s.orders k).account (aj s.orders k).symbol
 else if r.kind=3 then
  match wE s.orders r.order with
  |none=>(s,7)
  |some k=>if (aj s.orders k).asked=true then (s,8)else (⟨s.accounts,s.symbols,dN s.orders k (ak0 (aj s.orders k)),s.cells,s.limits,s.caps,s.kill,s.last,s.seq,s.lsn+1⟩,0)
 else if r.kind=4 then
  if r.symbol= -1 then (⟨s.accounts,s.symbols,s.orders,s.cells,s.limits,dN s.caps (itn r.account) r.opn,s.kill,s.last,s.seq,s.lsn+1⟩,0)
  else (⟨s.accounts,s.symbols,s.orders,s.cells,dN s.limits (itn (r.account*s.symbols+r.symbol)) ⟨r.long,r.short,r.opn⟩,s.caps,s.kill,s.last,s.seq,s.lsn+1⟩,0)
 else if r.kind=5 then (⟨s.accounts,s.symbols,s.orders,s.cells,s.limits,s.caps,r.on,s.last,s.seq,s.lsn+1⟩,0)
 else if r.seq≠s.seq+1 then (s,11)
 else match wE s.orders r.order with
  |none=>(⟨s.accounts,s.symbols,s.orders,s.cells,s.limits,s.caps,s.kill,s.last,r.seq,s.lsn+1⟩,0)
  |some k=>match PZ (aj s.orders k) r.what r.qty r.price with
   |none=>(⟨s.accounts,s.symbols,s.orders,s.cells,s.limits,s.caps,s.kill,s.last,r.seq,s.lsn+1⟩,0)
   |some p=>(evS s r k p,0)
theorem afs {n:Int} (h1:0<=n) (h2:n<1000000000):wr .i64 (aB n 1)=n+1:=by unfold aB;exact bV (by omega) (by omega)
theorem abt {s:ay} (hs:mZ s) {o:ax} (h:lm s o):∃k:Nat,dw s o.account o.symbol=some (k:Int)/\atZ s.symbols o=(k:Int)/\k<s.cells.length:=by
 obtain⟨ho,_,g1,g2⟩:=h;obtain⟨⟨_,hb1,hb2,_⟩,_⟩:=id ho;obtain⟨k,k1,k2,k3⟩:=KI hs o.account o.symbol hb1.1 g1 hb2.1 g2;exact⟨k,k1,k2.symm,k3⟩
theorem aiA {s:ay} (hR:iZ s) (l:List ax) (k:Nat) (hk:k<s.cells.length) (c:aT) (hc:c=kK ⟨s.cells[k].pos,0,0,0⟩ (jo s.symbols k l))
 (ho:∀j:Nat,j≠k->jo s.symbols j l=jo s.symbols j s.orders):dh s l=s.cells.set k c:=by
 refine List.ext_getElem (by rw[fG,List.length_set]) fun j h1 h2=> ?_
 rw[rG,List.getElem_set]
 have hj:j<s.cells.length:=by simpa [dh] using h1
 split
 ·rename_i e;subst e;exact hc.symm
 ·rename_i e
  rw[ho j (by omega),<-rG s s.orders j (by rw[fG];exact hj)]
  congr 1
  exact hR.cells.symm
theorem cell_of {s:ay} (hR:iZ s) (k:Nat) (hk:k<s.cells.length):s.cells[k]=kK ⟨s.cells[k].pos,0,0,0⟩ (jo s.symbols k s.orders):=by
 have:=rG s s.orders k (by rw[fG];exact hk);rw[<-this];congr 1;exact hR.cells
theorem afW {n:Int} {o:ax} {k:Nat} (h:atZ n o=(k:Int)):inC n k o=wC o:=by unfold inC;rw[if_pos h]
theorem aa3 {n:Int} {o:ax} {k j:Nat} (h:atZ n o=(k:Int)) (hj:j≠k):inC n j o=zC:=by unfold inC;rw[if_neg (by omega)]
theorem aq7 {s:ay} (hR:iZ s) (o:ax) (k:Nat) (hk:k<s.cells.length) (ha:atZ s.symbols o=(k:Int)):dh s (s.orders++[o])=s.cells.set k (tH s.cells[k] o):=by
 refine aiA hR _ k hk _ ?_ fun j hj=> ?_
 ·rw[uY,X8,afW ha,<-Lr,<-cell_of hR k hk,XI]
 ·rw[uY,X8,aa3 ha hj,NQ]
theorem LY.find {l:List ax} (h:LY l) {i j:Nat} (hi:i<l.length) (hj:j<l.length) (e:l[i].id=l[j].id):i=j:=by
 rcases Nat.lt_trichotomy i j with h1 | h1 | h1
 ·have:=List.pairwise_iff_getElem.1 h i j hi hj h1;omega
 ·exact h1
 ·have:=List.pairwise_iff_getElem.1 h j i hj hi h1;omega
theorem aoZ {c:aT} {o:ax} {d:aT} (h:c=kK d (wC o)):wH c o=d:=by
 subst h;unfold wH wC kK;split<;>apply zh<;>simp only<;>omega
def acz (s:ay) (m k:Nat):aT:=kK (kK (jo s.symbols k (s.orders.take m)) (jo s.symbols k (s.orders.drop (m+1)))) zC
theorem U5 {s:ay} (hR:iZ s) (m:Nat) (hm:m<s.orders.length) (k:Nat) (hk:k<s.cells.length) (ha:atZ s.symbols s.orders[m]=(k:Int)):
 wH s.cells[k] s.orders[m]=kK ⟨s.cells[k].pos,0,0,0⟩ (acz s m k):=by
 refine aoZ ?_
 have h:=cell_of hR k hk
 rw[La s.symbols k s.orders m hm,afW ha]at h
 unfold acz
 rw[NQ,Lr]
 exact h
theorem apH {s:ay} (hk:∀o∈s.orders,sO o/\dU o) (m k:Nat):nnC (acz s m k):=by
 unfold acz;rw[NQ];exact afC (JZ _ _ fun o h=>hk o (List.mem_of_mem_take h)) (JZ _ _ fun o h=>hk o (List.mem_of_mem_drop h))
theorem al9 {s:ay} (hR:iZ s) (m:Nat) (hm:m<s.orders.length) (p:ax) (k:Nat) (hk:k<s.cells.length) (ha:atZ s.symbols s.orders[m]=(k:Int)) (hp:atZ s.symbols p=(k:Int)):
 dh s (s.orders.set m p)=s.cells.set k (tH (wH s.cells[k] s.orders[m]) p):=by
 refine aiA hR _ k hk _ ?_ fun j hj=> ?_
 ·rw[U5 hR m hm k hk ha,abh s.symbols k s.orders m hm,afW hp,XI]
  unfold acz
  rw[NQ,Lr]
 ·rw[abh s.symbols j s.orders m hm,La s.symbols j s.orders m hm,aa3 hp hj,aa3 ha hj]
theorem aqA {s:ay} (hR:iZ s) (m:Nat) (hm:m<s.orders.length) (k:Nat) (hk:k<s.cells.length) (ha:atZ s.symbols s.orders[m]=(k:Int)):
 dh s (s.orders.eraseIdx m)=s.cells.set k (wH s.cells[k] s.orders[m]):=by
 refine aiA hR _ k hk _ ?_ fun j hj=> ?_
 ·rw[U5 hR m hm k hk ha,abM s.symbols k s.orders m hm]
  unfold acz
  rw[NQ]
 ·rw[abM s.symbols j s.orders m hm,La s.symbols j s.orders m hm,aa3 ha hj,NQ]
theorem aid {s:ay} (hR:iZ s) (hr:iW s) (m:Nat) (hm:m<s.orders.length) (k:Nat) (hk:k<s.cells.length) (ha:atZ s.symbols s.orders[m]=(k:Int)):okC (wH s.cells[k] s.orders[m]):=by
 have hall:∀o∈s.orders,sO o/\dU o:=fun o h=>⟨(hR.fine.ords o h).1,hr.orders.1 o h⟩;have hm':=hall s.orders[m] (List.getElem_mem _);have h1:=hR.ok s.cells[k] (List.getElem_mem _);rw[U5 hR m hm k hk ha];have h2:=apH hall m k;have h3:=am4 hm'.1 hm'.2;have h4:s.cells[k]=kK (kK ⟨s.cells[k].pos,0,0,0⟩ (acz s m k)) (wC s.orders[m]):=by
  have:=U5 hR m hm k hk ha;rw[<-this];unfold wH wC kK;split<;>apply zh<;>simp only<;>omega
 rw[Nc]at h1 ⊢;have b1:=congrArg aT.buy h4;have b2:=congrArg aT.sell h4;have b3:=congrArg aT.opn h4;unfold nnC at h2 h3;unfold inI at*;simp only[kK]at*;omega
theorem YL {n:Int} {cs:List aT} (h:∀c∈cs,okC c) (a:Int):∀c∈rD n cs a,0<=c.opn/\inI c.opn:=fun c hc=>by
 have:=h c (ae0 hc);exact⟨this.2.1.2.2,this.1.opn⟩
theorem al5 {n:Int} (hn:0<=n) {cs:List aT} {k:Nat} {c:aT} {a y b:Int} (ha:0<=a) (hy:0<=y) (hy2:y<n) (hk:(k:Int)=a*n+y) (hb:0<=b) (hab:b≠a):rD n (cs.set k c) b=rD n cs b:=by
 unfold rD;rcases Int.lt_or_gt_of_ne hab with h | h
 ·have h1:(b+1)*n<=a*n:=Int.mul_le_mul_of_nonneg_right (by omega) hn;have h2:(b+1)*n=b*n+n:=by rw[Int.add_mul,Int.one_mul]
  have h3:0<=b*n:=Int.mul_nonneg hb hn;rw[List.drop_set];rw[if_neg (by omega),List.take_set_of_le (by omega)]
 ·have h1:(a+1)*n<=b*n:=Int.mul_le_mul_of_nonneg_right (by omega) hn;have h2:(a+1)*n=a*n+n:=by rw[Int.add_mul,Int.one_mul]
  rw[List.drop_set_of_lt (by omega)]
theorem ajN {s t:ay} (hR:iZ s) (hn1:t.accounts=s.accounts) (hn2:t.symbols=s.symbols) {k:Nat} {c:aT} {a y:Int} (ha:0<=a) (ha2:a<s.accounts) (hy:0<=y) (hy2:y<s.symbols) (hk:(k:Int)=a*s.symbols+y) (hkl:k<s.cells.length)
 (hc:t.cells=s.cells.set k c):WA t↔okC c/\iq (rD s.symbols t.cells a)<=9223372036854775807:=by
 unfold WA Oi
 rw[hn1,hn2]
 constructor
 ·rintro⟨h1,h2⟩
  refine⟨h1 c ?_,h2 a ha ha2⟩
  rw[hc];exact List.mem_set hkl _
 ·rintro⟨h1,h2⟩
  refine⟨fun d hd=> ?_,fun b hb hb2=> ?_⟩
  ·rw[hc]at hd
   rcases List.mem_or_eq_of_mem_set hd with hd | rfl
   ·exact hR.ok d hd
   ·exact h1
  ·by_cases e:b=a
   ·subst e;exact h2
   ·rw[hc,al5 (by omega) ha hy hy2 hk hb e]
    exact hR.acct b hb hb2
theorem aoW {s t:ay} (hR:iZ s) (ht:mZ t) (hn1:t.accounts=s.accounts) (hn2:t.symbols=s.symbols) (hl:t.limits=s.limits) (hcp:t.caps=s.caps) (hok:∀c∈t.cells,okC c) {k:Nat} {a y:Int} (ha:0<=a) (ha2:a<s.accounts) (hy:0<=y) (hy2:y<s.symbols) (hk:(k:Int)=a*s.symbols+y) (hkl:k<s.cells.length):
 gm t s a y=some (if ¬iq (rD s.symbols t.cells a)<=9223372036854775807 then 3 else if KQ s t a y then 4 else 0):=by
 have hs:=hR.sized
 obtain⟨l1,l2,l3,l4⟩:=hs.lens
 obtain⟨m1,m2,m3,m4⟩:=ht.lens
 have hcl:t.cells.length=s.cells.length:=by
  have:=ht.2.2.1;have:=hs.2.2.1
  rw[hn1,hn2]at*
  simp only[len]at *; omega
 obtain⟨k',e1,e2,e3⟩:=KI ht a y ha (by omega) hy (by omega)
 have hkk:k'=k:=by rw[hn2]at e2;omega
 subst hkk
 have hkt:k'<t.cells.length:=by omega
 have hkm:k'<t.limits.length:=by omega
 have ln1:=J8 (n:=s.symbols) (cs:=s.cells) (a:=a)
 have ln2:=J8 (n:=s.symbols) (cs:=t.cells) (a:=a)
 unfold gm
 rw[e1,ai,Y0 ht a ha (by omega),ai,hn2,OA (by omega) (YL hok a),ai]
 by_cases hw:iq (rD s.symbols t.cells a)<=9223372036854775807
 ·rw[if_pos hw,if_neg (by simpa using hw)]
  simp only[kD,aI,aO]
  rw[Y0 hs a ha ha2,ai,OA (by omega) (YL hR.ok a),ai,if_pos (hR.acct a ha ha2),au (inb _ k' hkl),aS _ k' hkl,aeX (hR.ok _ (List.getElem_mem _)),ai,
   au (inb _ k' hkt),aS _ k' hkt,aeX (hok _ (List.getElem_mem _)),ai,au (inb _ k' hkm),aS _ k' hkm,aaJ,ai]
  have hac:band (ile 0 a) (ilt a (len t.caps))=true:=LD (gV ha) (DL (by simp only[len];omega))
  rw[au (by rw[aW];exact .inl hac),dP,uH,KF]
  have hst:KQ s t a y↔AA (ofC s.cells[k']) (ofC t.cells[k']) t.limits[k']\/Xh (iq (rD s.symbols s.cells a)) (iq (rD s.symbols t.cells a)) (aj t.caps (itn a)):=by
   unfold KQ
   rw[<-hk,aS _ k' hkl,aS _ k' hkt,aS _ k' (by omega),hcp]
   simp only[hl]
  by_cases hx:AA (ofC s.cells[k']) (ofC t.cells[k']) t.limits[k']
  ·rw[if_pos hx,ai,decide_eq_true hx,ja,aP,if_pos (hst.2 (.inl hx))]
  ·rw[if_neg hx,ai,decide_eq_false hx,dD,uH]
   by_cases hz:Xh (iq (rD s.symbols s.cells a)) (iq (rD s.symbols t.cells a)) (aj t.caps (itn a))
   ·rw[if_pos hz,if_pos (hst.2 (.inr hz))]
   ·rw[if_neg hz,if_neg fun h=>(hst.1 h).elim hx hz]
 ·rw[if_neg hw,if_pos hw]
  simp only[FD,aU,aP]
theorem anB {l:List ax} {i:Nat} (hi:i<l.length) (hl:l.length<1000):jY l i (wr .i64 (aB i 1))=some (l.eraseIdx i):=by
 rw[bQ (by omega)];unfold jY;have e1:cZ (dR l (itn ((i+1:Nat):Int))) (itn (aV (len l) ((i+1:Nat):Int)))=l.drop (i+1):=by
  simp only[cZ,dR,itn,aV,len,Int.toNat_natCast];rw[List.take_of_length_le (by simp;omega)]
 rw[e1];have e2:nad (itn (i:Int)) (itn (len (l.drop (i+1))))=l.length - 1:=by simp [nad,itn,len];omega
 simp only[e2];have e3:(sQ l (itn (i:Int)) (l.drop (i+1))).length=l.length:=by simp [sQ,itn];omega
 rw[au (by simp only[aH,aX,len];omega),bW (by rw[aN];omega),au (by simp only[aH,aX,len];omega),au (by simp only[aH,aX,len];omega),
  au (by simp only[aX,len,nti,itn,aB,List.length_drop,Int.toNat_natCast];omega),au (by simp only[aH,aX,len,nti,aV,e3];omega)]
 congr 1;simp only[cZ,dR,sQ,itn,nad,nti,len,aV,Int.toNat_natCast,List.drop_zero,Nat.zero_add];rw[List.eraseIdx_eq_take_drop_succ];have e4:(l.take i++(l.drop (i+1)++l.drop (i+(l.drop (i+1)).length))).take (l.length - 1)=l.take i++l.drop (i+1):=by
  rw[<-List.append_assoc,List.take_append_of_le_length (by simp;omega),List.take_of_length_le (by simp;omega)]
 rw[e4,List.take_append_of_le_length (by simp;omega),List.take_of_length_le (by simp;omega)]
structure amH (o p:ax) (what q:Int):Prop where
 ord:sO p
 rng:dU p
 id:p.id=o.id
 account:p.account=o.account
 symbol:p.symbol=o.symbol
 side:p.side=o.side
 opn:jX p+(if what=3 then q else 0)<=jX o
 worth:fB p<=fB o
 phase:p.phase=2\/p.phase=3
theorem alT {o:ax} (h:sO o):sO (KU o):=by
 obtain⟨h1,h2,h3,h4,h5,h6⟩:=h;exact⟨h1,h2,h3,h4,fun h=>by simp [rO,KU]at h,.inr (.inr ⟨rfl,by simp [rO,KU]⟩)⟩
theorem amf {o:ax} (h:dU o):dU (KU o):=⟨h.id,h.account,h.symbol,h.side,h.qty,h.price,h.filled,(by decide:inI 3),(by decide:inI 0),(by decide:inI 0),h.version⟩
theorem Vd (o:ax):jX (KU o)=0/\fB (KU o)=0:=⟨rfl,rfl⟩
theorem aem {o:ax} {what q:Int} (h:sO o) (hr:dU o) (hq:what=3->q<=jX o):amH o (KU o) what q:=by
 have:=D6 h hr;have:=Hq h;refine⟨alT h,amf hr,rfl,rfl,rfl,rfl,?_,by rw[(Vd o).2];omega,.inr rfl⟩;rw[(Vd o).1];split
 ·rename_i h3;have:=hq h3;omega
 ·omega
theorem Ua {o:ax} (h:o.phase≠3):jX o=max o.qty o.newQty - o.filled:=by unfold jX;rw[if_neg h]
theorem BF {o:ax} (h:o.phase≠3):fB o=if o.newQty<=o.filled then (o.qty - o.filled)*o.price else max ((o.qty - o.filled)*o.price) ((o.newQty - o.filled)*o.newPrice):=by unfold fB;rw[if_neg h]
theorem agD {a b c:Int} (h:a<=b) (hc:0<=c):a*c<=b*c:=Int.mul_le_mul_of_nonneg_right h hc
theorem agl {o p:ax} {what q pr:Int} (h:sO o) (hr:dU o) (ht:PZ o what q pr=some p) (h3:what=3->1<=q) (h5:what=5->1<=q/\1<=pr) (rq:inI q) (rp:inI pr):amH o p what q:=by
 obtain⟨g1,g2,g3,g4,g5,g6⟩:=id h;have hb1:=g1.2.2.2.2.1;have hb2:=g1.2.2.2.2.2;have r1:=hr.qty;have r2:=hr.filled;have r3:=hr.newQty;have r4:=hr.newPrice;unfold inI at r1 r2 r3;unfold PZ at ht;by_cases p1:o.phase=1
 ·rw[if_pos p1]at ht;have hp:o.filled=0/\o.version=0/\¬rO o:=by
   rcases g6 with g | g | g
   ·exact g.2
   ·omega
   ·omega
  by_cases k1:what=1
  ·rw[if_pos k1]at ht;cases ht;refine⟨⟨g1,g2,g3,g4,g5,.inr (.inl ⟨rfl,by show o.filled<o.qty;omega⟩)⟩,⟨hr.id,hr.account,hr.symbol,hr.side,hr.qty,hr.price,hr.filled,(by decide:inI 2),hr.newQty,hr.newPrice,hr.version⟩,rfl,rfl,rfl,rfl,?_,?_,.inl rfl⟩
   ·have e1:jX (ZP o 2)=max o.qty o.newQty - o.filled:=Ua (o:=ZP o 2) (by show(2:Int)≠3;decide);rw[if_neg (by omega),e1,Ua (o:=o) (by omega)];omega
   ·have e1:fB (ZP o 2)=if o.newQty<=o.filled then (o.qty - o.filled)*o.price else max ((o.qty - o.filled)*o.price) ((o.newQty - o.filled)*o.newPrice):=BF (o:=ZP o 2) (by show(2:Int)≠3;decide)
    rw[e1,BF (o:=o) (by omega)];exact Int.le_refl _
  ·rw[if_neg k1]at ht;by_cases k2:what=2
   ·rw[if_pos k2]at ht;cases ht;exact aem h hr fun h=>by omega
   ·rw[if_neg k2]at ht;cases ht
 ·rw[if_neg p1]at ht;by_cases p2:o.phase=2
  ·rw[if_pos p2]at ht;have hlt:o.filled<o.qty:=by rcases g6 with g | g | g<;>omega
   by_cases k3:what=3
   ·rw[if_pos k3]at ht;have hq1:=h3 k3;by_cases c1:o.qty - o.filled<q
    ·rw[if_pos c1]at ht;cases ht
    ·rw[if_neg c1]at ht;have hoo:jX o=max o.qty o.newQty - o.filled:=by unfold jX;rw[if_neg (by omega)]
     have hfl:sO (ZT o (o.filled+q))\/¬(o.filled+q<o.qty):=by
      by_cases c2:o.filled+q<o.qty
      ·exact .inl ⟨g1,by show 0<=o.filled+q;omega,by show o.filled+q<=o.qty;omega,g4,g5,.inr (.inl ⟨p2,c2⟩)⟩
      ·exact .inr c2
     by_cases c2:o.filled+q<o.qty
     ·rw[if_pos c2]at ht;cases ht;refine⟨hfl.resolve_right (by omega),⟨hr.id,hr.account,hr.symbol,hr.side,hr.qty,hr.price,⟨by show _<=o.filled+q;omega,by show o.filled+q<=_;omega⟩,hr.phase,hr.newQty,hr.newPrice,hr.version⟩,rfl,rfl,rfl,rfl,?_,?_,.inl p2⟩
      ·have e1:jX (ZT o (o.filled+q))=max o.qty o.newQty - (o.filled+q):=Ua (o:=ZT o (o.filled+q)) (by show o.phase≠3;omega);rw[if_pos k3,hoo,e1];omega
      ·have e1:fB (ZT o (o.filled+q))=if o.newQty<=o.filled+q then (o.qty - (o.filled+q))*o.price else max ((o.qty - (o.filled+q))*o.price) ((o.newQty - (o.filled+q))*o.newPrice):=BF (o:=ZT o (o.filled+q)) (by show o.phase≠3;omega)
       rw[e1,BF (o:=o) (by omega)];have m1:(o.qty - (o.filled+q))*o.price<=(o.qty - o.filled)*o.price:=agD (by omega) (by omega);by_cases n1:o.newQty<=o.filled
       ·rw[if_pos n1,if_pos (by omega)];exact m1
       ·have hnp:=afq h (by omega);have m2:(o.newQty - (o.filled+q))*o.newPrice<=(o.newQty - o.filled)*o.newPrice:=agD (by omega) (by omega);rw[if_neg n1];split<;>omega
     ·rw[if_neg c2]at ht;cases ht;have hod:sO (KU (ZT o (o.filled+q))):=by
       refine⟨g1,by show 0<=o.filled+q;omega,by show o.filled+q<=o.qty;omega,g4,fun h=>by simp [rO,KU]at h,.inr (.inr ⟨rfl,by simp [rO,KU]⟩)⟩
      refine⟨hod,⟨hr.id,hr.account,hr.symbol,hr.side,hr.qty,hr.price,⟨by show _<=o.filled+q;omega,by show o.filled+q<=_;omega⟩,(by decide:inI 3),(by decide:inI 0),(by decide:inI 0),hr.version⟩,rfl,rfl,rfl,rfl,?_,by rw[(Vd _).2];exact Hq h,.inr rfl⟩;rw[(Vd _).1,if_pos k3,hoo];omega
   ·rw[if_neg k3]at ht;by_cases k4:what=4
    ·rw[if_pos k4]at ht;cases ht;exact aem h hr fun h=>by omega
    ·rw[if_neg k4]at ht;have hoo:jX o=max o.qty o.newQty - o.filled:=by unfold jX;rw[if_neg (by omega)]
     by_cases k5:what=5
     ·rw[if_pos k5]at ht;by_cases c1:rO o/\q=o.newQty/\pr=o.newPrice/\o.filled<q
      ·rw[if_pos c1]at ht;cases ht;obtain⟨c1,c2,c3,c4⟩:=c1;obtain⟨h51,h52⟩:=h5 k5;refine⟨⟨⟨g1.1,g1.2.1,g1.2.2.1,g1.2.2.2.1,h51,h52⟩,g2,by show o.filled<=q;omega,g4,fun h=>by simp [rO,aen]at h,.inr (.inl ⟨p2,c4⟩)⟩,⟨hr.id,hr.account,hr.symbol,hr.side,rq,rp,hr.filled,hr.phase,(by decide:inI 0),(by decide:inI 0),hr.version⟩,rfl,rfl,rfl,rfl,?_,?_,.inl p2⟩
       ·have e1:jX (aen o q pr)=max q 0 - o.filled:=Ua (o:=aen o q pr) (by show o.phase≠3;omega);rw[if_neg k3,hoo,e1];omega
       ·have e1:fB (aen o q pr)=if 0<=o.filled then (q - o.filled)*pr else max ((q - o.filled)*pr) ((0 - o.filled)*0):=BF (o:=aen o q pr) (by show o.phase≠3;omega)
        rw[e1,BF (o:=o) (by omega),if_pos g2,if_neg (by omega),c2,c3];exact Int.le_max_right _ _
      ·rw[if_neg c1]at ht;cases ht
     ·rw[if_neg k5]at ht;by_cases k6:what=6
      ·rw[if_pos k6]at ht;by_cases c1:rO o
       ·rw[if_pos c1]at ht;cases ht;refine⟨⟨g1,g2,g3,g4,fun h=>by simp [rO,Pz]at h,.inr (.inl ⟨p2,hlt⟩)⟩,⟨hr.id,hr.account,hr.symbol,hr.side,hr.qty,hr.price,hr.filled,hr.phase,(by decide:inI 0),(by decide:inI 0),hr.version⟩,rfl,rfl,rfl,rfl,?_,?_,.inl p2⟩
        ·have e1:jX (Pz o)=max o.qty 0 - o.filled:=Ua (o:=Pz o) (by show o.phase≠3;omega);rw[if_neg k3,hoo,e1];omega
        ·have e1:fB (Pz o)=if 0<=o.filled then (o.qty - o.filled)*o.price else max ((o.qty - o.filled)*o.price) ((0 - o.filled)*0):=BF (o:=Pz o) (by show o.phase≠3;omega)
         rw[e1,BF (o:=o) (by omega),if_pos g2];split
         ·exact Int.le_refl _
         ·exact Int.le_max_left _ _
       ·rw[if_neg c1]at ht;cases ht
      ·rw[if_neg k6]at ht;cases ht
  ·rw[if_neg p2]at ht;cases ht
theorem ZG {r:dB} (h:nI r) (hk:r.kind=1):sO (fK r)/\lm ⟨8,8,[],[],[],[],false,0,0,0⟩ (fK r):=by
 unfold nI kF at h;have h1:Qb (fK r):=by unfold Qb fK;simp only;omega
 have h2:¬rO (fK r):=by simp [rO,fK]
 have h3:sO (fK r):=⟨h1,Int.le_refl _,by have:=h1.2.2.2.2.1;show 0<=(fK r).qty;omega,Int.le_refl _,fun h=>absurd h h2,.inl ⟨rfl,rfl,rfl,h2⟩⟩;exact⟨h3,h3,by simp [fK],h1.2.1.2,h1.2.2.1.2⟩
theorem ZB {r:dB} (h:iF r):dU (fK r):=⟨h.order,h.account,h.symbol,h.side,h.qty,h.price,(by decide:inI 0),(by decide:inI 1),(by decide:inI 0),(by decide:inI 0),(by decide:inI 0)⟩
theorem WO {o:ax} {q p:Int} (h:sO o) (hc:sW o) (hq:1<=q) (hp:1<=p):sO (oI o q p):=by
 obtain⟨g1,g2,g3,g4,g5,g6⟩:=id h;obtain⟨c1,c2,c3,c4⟩:=hc;exact⟨g1,g2,g3,by show 0<=o.version+1;omega,fun _=>⟨hq,hp⟩,.inr (.inl ⟨c1,by rcases g6 with g | g | g<;>(show o.filled<o.qty)<;>omega⟩)⟩
theorem Xf {o:ax} {q p:Int} (h:dU o) (hc:sW o) (hq:inI q) (hp:inI p):dU (oI o q p):=by
 have:=h.version;obtain⟨c1,c2,c3,c4⟩:=hc;unfold inI at this;exact⟨h.id,h.account,h.symbol,h.side,h.qty,h.price,h.filled,h.phase,hq,hp,⟨by show _<=o.version+1;omega,by show o.version+1<=_;omega⟩⟩
theorem aon {o:ax} (h:dU o):dU (ak0 o):=⟨h.id,h.account,h.symbol,h.side,h.qty,h.price,h.filled,h.phase,h.newQty,h.newPrice,h.version⟩
theorem ahS {l:List ax} (h:l.length<1000000):gY l=some l:=AQ h
theorem aiZ {l:List aT} (h:l.length<1000000):iG l=some l:=AQ h
theorem ai2 {l:List fA} (h:l.length<1000000):iH l=some l:=AQ h
theorem ahA {l:List Int} (h:l.length<1000000):jK l=some l:=AQ h
theorem uQ {s t:ay} (hs:mZ s) (h1:t.accounts=s.accounts) (h2:t.symbols=s.symbols) (h3:t.cells.length=s.cells.length) (h4:t.limits.length=s.limits.length) (h5:t.caps.length=s.caps.length) (h6:t.orders.length<=64):mZ t:=by
 obtain⟨a1,a2,a3,a4,a5,a6⟩:=hs;unfold mZ;simp only[len]at*;rw[h1,h2,h3,h4,h5];exact⟨a1,a2,a3,a4,a5,h6⟩
theorem ap3 {s t:ay} (hR:iZ s) (ht:mZ t) (hn1:t.accounts=s.accounts) (hn2:t.symbols=s.symbols) (hl:t.limits=s.limits) (hcp:t.caps=s.caps) {k:Nat} {c:aT} {a y:Int} (ha:0<=a) (ha2:a<s.accounts) (hy:0<=y) (hy2:y<s.symbols) (hk:(k:Int)=a*s.symbols+y) (hkl:k<s.cells.length)
 (hc:t.cells=s.cells.set k c) (hc2:okC c):
 Wq (gm t s a y) fun e=>cnd (ak (ieq e 0)) (some (s,e)) (some (⟨t.accounts,t.symbols,t.orders,t.cells,t.limits,t.caps,t.kill,t.last,t.seq,t.lsn+1⟩,0))=some (SI s t a y):=by
 have hok:∀d∈t.cells,okC d:=fun d hd=>by
  rw[hc]at hd
  rcases List.mem_or_eq_of_mem_set hd with hd | rfl
  ·exact hR.ok d hd
  ·exact hc2
 rw[aoW hR ht hn1 hn2 hl hcp hok ha ha2 hy hy2 hk hkl,ah]
 have hf:=ajN hR hn1 hn2 ha ha2 hy hy2 hk hkl hc
 unfold SI
 by_cases hw:iq (rD s.symbols t.cells a)<=9223372036854775807
 ·rw[if_neg (c:=¬WA t) (fun h=>h (hf.2 ⟨hc2,hw⟩)),if_neg (c:=¬iq (rD s.symbols t.cells a)<=9223372036854775807) (fun h=>h hw)]
  by_cases hst:KQ s t a y
  ·rw[if_pos hst,if_pos hst];rfl
  ·rw[if_neg hst,if_neg hst];rfl
 ·rw[if_pos (c:=¬WA t) (fun h=>hw (hf.1 h).2),if_pos (c:=¬iq (rD s.symbols t.cells a)<=9223372036854775807) hw];rfl
theorem ajL {s t:ay} (hR:iZ s) (hn1:t.accounts=s.accounts) (hn2:t.symbols=s.symbols) {k:Nat} {c:aT} {a y:Int} (ha:0<=a) (ha2:a<s.accounts) (hy:0<=y) (hy2:y<s.symbols) (hk:(k:Int)=a*s.symbols+y) (hkl:k<s.cells.length)
 (hc:t.cells=s.cells.set k c) (hc2:¬okC c):SI s t a y=(s,3):=by
 unfold SI
 rw[if_pos fun h=>hc2 ((ajN hR hn1 hn2 ha ha2 hy hy2 hk hkl hc).1 h).1]
theorem aby (n i:Int):∀(l:List ax),(jo n i l).pos=0
 |[]=>rfl
 |o::l=>by
  have h:=aby n i l
  have:(inC n i o).pos=0:=by unfold inC wC;split<;>(try split)<;>rfl
  simp only[jo,kK,h,this];rfl
theorem agP {s s':ay} (hsym:s'.symbols=s.symbols) {k:Nat} (hk:k<s.cells.length) {c d:aT} (hc:s'.cells=s.cells.set k d) {l:List ax} (hE:dh s l=s.cells.set k c):
 dh s' l=s.cells.set k ⟨d.pos,c.buy,c.sell,c.opn⟩:=by
 have e0:dh s' l=(s.cells.set k d).mapIdx fun i c=>kK ⟨c.pos,0,0,0⟩ (jo s.symbols i l):=by unfold dh;rw[hsym,hc]
 rw[e0]
 refine List.ext_getElem (by simp) fun j h1 h2=> ?_
 have hj:j<s.cells.length:=by simpa using h1
 rw[List.getElem_mapIdx,List.getElem_set,List.getElem_set]
 have hj2:(dh s l)[j]'(by rw[fG];exact hj)=(s.cells.set k c)[j]'(by simpa using hj):=by simp only[hE]
 rw[rG,List.getElem_set]at hj2
 by_cases e:k=j
 ·subst e
  rw[if_pos rfl,if_pos rfl]
  rw[if_pos rfl]at hj2
  rw[<-hj2]
  have:=aby s.symbols k l
  apply zh<;>simp only[kK]<;>omega
 ·rw[if_neg e,if_neg e]
  rw[if_neg e]at hj2
  exact hj2
theorem al0 {α:Type} (l:List α) (k:Nat) (a b:α):(l.set k a).set k b=l.set k b:=by simp
theorem JE {α:Type} (l:List α) (k:Nat) (x:α):dN l (itn (k:Int)) x=l.set k x:=by simp [dN,itn]
theorem OT {α:Type} (l:List α) (k:Nat) (x:α):dN l k x=l.set k x:=rfl
theorem sS {α:Type} [Inhabited α] (l:List α) (k:Nat) (h:k<l.length):aj l k=l[k]:=by simp [aj,h]
theorem ak3 (l:List ax) (k:Nat) (p:ax):(l.set k p).eraseIdx k=l.eraseIdx k:=by
 simp [List.eraseIdx_set_eq]
theorem anh {c:aT} {p:ax} (h:p.phase=3):tH c p=c:=by
 have h1:jX p=0:=by unfold jX;rw[if_pos h]
 have h2:fB p=0:=by unfold fB;rw[if_pos h]
 unfold tH;rw[h1,h2];split<;>simp
theorem amG (c:aT) (o:ax):(tH c o).pos=c.pos:=by unfold tH;split<;>rfl
theorem anG (c:aT) (o:ax):(wH c o).pos=c.pos:=by unfold wH;split<;>rfl
theorem aaU {s:ay} (hR:iZ s) (hr:iW s) (m:Nat) (hm:m<s.orders.length) (k:Nat) (hk:k<s.cells.length) (ha:atZ s.symbols s.orders[m]=(k:Int)) {p:ax} {what q:Int} (hp:amH s.orders[m] p what q) (hq:what=3->1<=q):
 okC (tH (wH s.cells[k] s.orders[m]) p)/\(what=3->okC ⟨if s.orders[m].side=1 then s.cells[k].pos+q else s.cells[k].pos - q,(tH (wH s.cells[k] s.orders[m]) p).buy,(tH (wH s.cells[k] s.orders[m]) p).sell,(tH (wH s.cells[k] s.orders[m]) p).opn⟩):=by
 have h0:=aid hR hr m hm k hk ha
 have h1:=hR.ok s.cells[k] (List.getElem_mem _)
 have ho:=(hR.fine.ords _ (List.getElem_mem hm)).1
 have hs:=ho.1.2.2.2.1
 have hro:=hr.orders.1 _ (List.getElem_mem hm)
 have b1:=D6 hp.ord hp.rng
 have b2:=Hq hp.ord
 have b3:=hp.opn
 have b4:=hp.worth
 have b5:=hp.side
 rw[Nc]at h0 h1
 by_cases e:s.orders[m].side=2
 ·have ea:tH (wH s.cells[k] s.orders[m]) p=⟨s.cells[k].pos,s.cells[k].buy,s.cells[k].sell - jX s.orders[m]+jX p,s.cells[k].opn - fB s.orders[m]+fB p⟩:=by
   unfold tH wH;rw[b5,if_pos e,if_pos e]
  have es:wH s.cells[k] s.orders[m]=⟨s.cells[k].pos,s.cells[k].buy,s.cells[k].sell - jX s.orders[m],s.cells[k].opn - fB s.orders[m]⟩:=by unfold wH;rw[if_pos e]
  rw[ea,if_neg (by omega)]
  rw[es]at h0
  refine⟨?_,fun h3=> ?_⟩
  ·rw[Nc];unfold inI at *; simp only at *; split at b3<;>omega
  ·rw[if_pos h3]at b3
   have:=hq h3
   rw[Nc];unfold inI at *; simp only at *; omega
 ·have ea:tH (wH s.cells[k] s.orders[m]) p=⟨s.cells[k].pos,s.cells[k].buy - jX s.orders[m]+jX p,s.cells[k].sell,s.cells[k].opn - fB s.orders[m]+fB p⟩:=by
   unfold tH wH;rw[b5,if_neg e,if_neg e]
  have es:wH s.cells[k] s.orders[m]=⟨s.cells[k].pos,s.cells[k].buy - jX s.orders[m],s.cells[k].sell,s.cells[k].opn - fB s.orders[m]⟩:=by unfold wH;rw[if_neg e]
  rw[ea,if_pos (by omega)]
  rw[es]at h0
  refine⟨?_,fun h3=> ?_⟩
  ·rw[Nc];unfold inI at *; simp only at *; split at b3<;>omega
  ·rw[if_pos h3]at b3
   have:=hq h3
   rw[Nc];unfold inI at *; simp only at *; omega
theorem aht {s:ay} (hR:iZ s) (m:Nat) (hm:m<s.orders.length) (k:Nat) (hk:k<s.cells.length) (ha:atZ s.symbols s.orders[m]=(k:Int)) {p:ax} (hp:atZ s.symbols p=(k:Int)):
 dh s (if p.phase=3 then s.orders.eraseIdx m else s.orders.set m p)=s.cells.set k (tH (wH s.cells[k] s.orders[m]) p):=by
 split
 ·rename_i h;rw[aqA hR m hm k hk ha,anh h]
 ·exact al9 hR m hm p k hk ha hp
theorem abB {s:ay} (hR:iZ s) (r:dB) (m:Nat) (hm:m<s.orders.length) (k:Nat) (hk:k<s.cells.length) (ha:atZ s.symbols s.orders[m]=(k:Int)) {p:ax} (hp:atZ s.symbols p=(k:Int)):
 evS s r m p=⟨s.accounts,s.symbols,if p.phase=3 then s.orders.eraseIdx m else s.orders.set m p,
  s.cells.set k (if r.what=3 then ⟨if s.orders[m].side=1 then s.cells[k].pos+r.qty else s.cells[k].pos - r.qty,(tH (wH s.cells[k] s.orders[m]) p).buy,(tH (wH s.cells[k] s.orders[m]) p).sell,(tH (wH s.cells[k] s.orders[m]) p).opn⟩else tH (wH s.cells[k] s.orders[m]) p),
  s.limits,s.caps,s.kill,s.last,r.seq,s.lsn+1⟩:=by
 unfold evS
 rw[sS _ m hm,OT]
 have hmk:∀s':ay,s'.symbols=s.symbols->s'.cells=(if r.what=3 then ae8 s s.orders[m] r.qty else s.cells)->dh s' (if p.phase=3 then s.orders.eraseIdx m else s.orders.set m p)=
  s.cells.set k (if r.what=3 then ⟨if s.orders[m].side=1 then s.cells[k].pos+r.qty else s.cells[k].pos - r.qty,(tH (wH s.cells[k] s.orders[m]) p).buy,(tH (wH s.cells[k] s.orders[m]) p).sell,(tH (wH s.cells[k] s.orders[m]) p).opn⟩else tH (wH s.cells[k] s.orders[m]) p):=by
  intro s' h1 h2
  by_cases h3:r.what=3
  ·rw[if_pos h3]at h2 ⊢
   unfold ae8 at h2
   rw[ha,aS _ k hk,JE]at h2
   exact agP h1 hk h2 (aht hR m hm k hk ha hp)
  ·rw[if_neg h3]at h2 ⊢
   have:dh s' (if p.phase=3 then s.orders.eraseIdx m else s.orders.set m p)=dh s (if p.phase=3 then s.orders.eraseIdx m else s.orders.set m p):=by
    unfold dh;rw[h1,h2]
   rw[this,aht hR m hm k hk ha hp]
 exact congrArg (fun c=>ay.mk s.accounts s.symbols (if p.phase=3 then s.orders.eraseIdx m else s.orders.set m p) c s.limits s.caps s.kill s.last r.seq (s.lsn+1)) (hmk ⟨s.accounts,s.symbols,s.orders,if r.what=3 then ae8 s s.orders[m] r.qty else s.cells,s.limits,s.caps,s.kill,s.last,r.seq,s.lsn+1⟩ rfl rfl)
theorem aep {s:ay} {r:dB} (hr:iW s) (hrr:iF r) (hl:s.orders.length<999999) (hl2:s.limits.length<999999) (hl3:s.caps.length<999999):Hf s r=some (doS s r):=by
 obtain⟨b1,e1,q1⟩:=DF r;obtain⟨b2,e2,q2⟩:=Qo s hr hl hl2 hl3;have bad:¬I8 s r->doS s r=(s,1):=fun h=>by unfold doS;rw[if_pos h]
 by_cases hA:s.lsn<1000000000/\nI r/\iZ s
 case neg=>
  have hno:¬I8 s r:=fun h=>hA ⟨h.2.2.1,h.2.1,h.1⟩;rw[bad hno];refine Wq.eq ?_;unfold Hf;rw[qw hr.lsn (by decide),ai,iQ];refine Wq.mono (Q:=fun y1=>y1=true->(inI (s.lsn+1)/\s.lsn<1000000000/\nI r)) ?_ fun y1 h1=> ?_
  ·rw[dH];refine⟨fun h=> ?_,fun h=>(ah _).2 (by simp)⟩;rw[e1,ah];intro hb;simp only[aH,aJ,aW,bf,aG,aF,aZ,bg,aX,bF,aK,aN,bD,bH]at h;by_cases hin:inI (s.lsn+1)
   ·exact⟨hin,by omega,q1.1 hb⟩
   ·rw[if_neg hin]at h;simp at h
  rw[iQ];refine Wq.mono (Q:=fun y2=>y2=true->(y1=true/\iZ s)) ?_ fun y2 h2=> ?_
  ·rw[dH];refine⟨fun h=> ?_,fun h=>(ah _).2 (by simp)⟩;rw[e2,ah];intro hb;simp only[aH,aJ,aW,bf,aG,aF,aZ,bg,aX,bF,aK,aN,bD,bH]at h;exact⟨by simpa using h.2,q2.1 hb⟩
  rw[dH];refine⟨fun _=>(ah _).2 rfl,fun h=> ?_⟩;simp only[aH,aJ,aW,bf,aG,aF,aZ,bg,aX,bF,aK,aN,bD,bH]at h;have g2:=h2 h.2;have g1:=h1 g2.1;exact absurd ⟨g1.2.1,g1.2.2,g2.2⟩ hA
 obtain⟨hlsn,hrec,hR⟩:=hA;obtain rfl:=q1.2 hrec;obtain rfl:=q2.2 hR;have hs:=hR.sized;obtain⟨lc,ll,lcp,lo⟩:=hs.lens;have hl0:=hR.fine.lsn;have hq0:=hR.fine.seq;have h1a:=hs.1;have h1b:=hs.2.1;have good:r.account<s.accounts->r.symbol<s.symbols->(r.kind=1->s.last<r.order)->I8 s r:=fun a b c=>⟨hR,hrec,hlsn,a,b,c⟩;have hwr:wr .i64 (aB s.lsn 1)=s.lsn+1:=afs hl0.1 hlsn;have hall:∀o∈s.orders,sO o/\dU o:=fun o h=>⟨(hR.fine.ords o h).1,hr.orders.1 o h⟩;unfold Hf;rw[qw hr.lsn (by decide),ai,if_pos (c:=inI (s.lsn+1)) ⟨by omega,by omega⟩];simp only[kD,aI,dD,MX (show ¬(1000000000:Int)<=s.lsn by omega),aU,aP,aO,e1,e2,ai,ahS (l:=s.orders) (by omega),aiZ (l:=s.cells) (by omega),ai2 (l:=s.limits) (by omega),ahA (l:=s.caps) (by omega),hwr];have eta:(ay.mk s.accounts s.symbols s.orders s.cells s.limits s.caps s.kill s.last s.seq s.lsn)=s:=rfl;simp only[eta];by_cases k1:r.kind=1
 ·rw[au (by rw[aK];exact k1),adk hrec k1,ai];by_cases c1:r.order<=s.last
  ·rw[bad fun h=>by have:=h.2.2.2.2.2 k1;omega];simp only[gV c1,aP]
  by_cases c2:s.accounts<=r.account
  ·rw[bad fun h=>by have:=h.2.2.2.1;omega];simp only[MX c1,gV c2,aP,aO]
  by_cases c3:s.symbols<=r.symbol
  ·rw[bad fun h=>by have:=h.2.2.2.2.1;omega];simp only[MX c1,MX c2,gV c3,aP,aO]
  simp only[MX c1,MX c2,MX c3,aO];have hm:=good (by omega) (by omega) fun _=>by omega
  unfold doS;rw[if_neg (fun h:¬I8 s r=>h hm),if_pos k1];by_cases hk:s.kill=true
  ·rw[if_pos hk,au hk]
  rw[if_neg hk,bW (by simpa using hk),dQ];by_cases h64:s.orders.length=64
  ·rw[if_pos (show len s.orders=64 by simp only[len];omega),if_pos h64]
  rw[if_neg (show ¬len s.orders=64 by simp only[len];omega),if_neg h64];obtain⟨ho,ho2⟩:=ZG hrec k1;have hro:=ZB hrr;have hrec':=hrec;unfold nI at hrec';have hra:0<=r.account/\0<=r.symbol:=by omega
  obtain⟨k,g1,g2,g3⟩:=KI hs r.account r.symbol hra.1 (by omega) hra.2 (by omega);have hat:atZ s.symbols (fK r)=(k:Int):=g2.symm;have hmk:=aq7 hR (fK r) k g3 hat;rw[show dw s (fK r).account (fK r).symbol=some (k:Int)from g1,ai,au (inb _ k g3),aS _ k g3,Nw (hR.ok _ (List.getElem_mem _)) ho hro,ai];have hcells:dh s (aQ s.orders [fK r])=s.cells.set k (tH s.cells[k] (fK r)):=hmk;by_cases hok:okC (tH s.cells[k] (fK r))
  ·rw[if_pos hok];simp only[kD,aI,aO];rw[au (gV (by simp [len,aQ];omega)),JE,<-hcells];have ht:mZ ⟨s.accounts,s.symbols,aQ s.orders [fK r],dh s (aQ s.orders [fK r]),s.limits,s.caps,s.kill,(fK r).id,s.seq,s.lsn⟩:=uQ hs rfl rfl (fG _ _) rfl rfl (by simp [aQ];omega);obtain⟨e,he,hq⟩:=ap3 (a:=r.account) (y:=r.symbol) hR ht rfl rfl rfl rfl hra.1 (by omega) hra.2 (by omega) g2 g3 hcells hok;rw[show gm _ s (fK r).account (fK r).symbol=some e from he,ai];exact hq
  ·rw[if_neg hok];simp only[FD,aU,aP];rw[ajL (t:=⟨s.accounts,s.symbols,aQ s.orders [fK r],dh s (aQ s.orders [fK r]),s.limits,s.caps,s.kill,r.order,s.seq,s.lsn⟩) hR rfl rfl hra.1 (by omega) hra.2 (by omega) g2 g3 hcells hok]
 rw[bW (by rw[aN];exact k1)];by_cases k2:r.kind=2
 ·rw[au (by rw[aK];exact k2),MQ s r.order (by omega),ai];have hrec':=hrec;unfold nI at hrec';have hra:r.account=0/\r.symbol=0/\1<=r.qty/\1<=r.price:=by omega
  have hm:=good (by omega) (by omega) fun h=>absurd h k1;unfold doS;rw[if_neg (fun h:¬I8 s r=>h hm),if_neg k1,if_pos k2];cases hf:wE s.orders r.order with
  |none=>
   rw[GL hf,au (by decide)]
  |some m=>
   rw[Dw hf,bW (by rw[aN];omega)];obtain⟨hm1,hm2⟩:=lu hf;simp only[au (inb _ m hm1),aS _ m hm1,sS _ m hm1];obtain⟨ho,hro⟩:=hall s.orders[m] (List.getElem_mem _);obtain⟨ch,ce,cq1,cq2⟩:=abZ ho hro hra.2.2.1 hra.2.2.2;rw[ce,ai];by_cases hch:sW s.orders[m]
   case neg=>
    rw[if_pos hch,au (by rw[aG,aN];exact cq2 hch)]
   rw[if_neg (fun h:¬sW s.orders[m]=>h hch)];obtain rfl:=cq1 hch;simp only[kD,aI,aO];by_cases hk:s.kill=true
   ·rw[if_pos hk,au hk]
   rw[if_neg hk,bW (by simpa using hk)];obtain⟨k,g1,g2,g3⟩:=abt hs (hR.fine.ords _ (List.getElem_mem hm1));have hpo:=WO ho hch hra.2.2.1 hra.2.2.2;have hpr:=Xf hro hch hrr.qty hrr.price;have hat:atZ s.symbols (oI s.orders[m] r.qty r.price)=(k:Int):=g2;have hsub:=aid hR hr m hm1 k g3 g2;have hcells:dh s (dN s.orders m (oI s.orders[m] r.qty r.price))=s.cells.set k (tH (wH s.cells[k] s.orders[m]) (oI s.orders[m] r.qty r.price)):=al9 hR m hm1 _ k g3 g2 hat;rw[g1,ai,au (inb _ k g3),aS _ k g3,aeb (hR.ok _ (List.getElem_mem _)) ho hro hsub,ai,Nw hsub hpo hpr,ai];have hoa:=(hR.fine.ords _ (List.getElem_mem hm1));have hob:=ho.1;by_cases hok:okC (tH (wH s.cells[k] s.orders[m]) (oI s.orders[m] r.qty r.price))
   ·rw[if_pos hok];simp only[kD,aI,aO];rw[JE s.cells,JE s.orders,<-OT s.orders,<-hcells];have ht:mZ (BG s (dN s.orders m (oI s.orders[m] r.qty r.price))):=uQ hs rfl rfl (fG _ _) rfl rfl (by show(dN _ _ _).length<=64;rw[Ci];omega);obtain⟨e,he,hq⟩:=ap3 (a:=s.orders[m].account) (y:=s.orders[m].symbol) hR ht rfl rfl rfl rfl hob.2.1.1 hoa.2.2.1 hob.2.2.1.1 hoa.2.2.2 g2.symm g3 hcells hok;have he':gm ⟨s.accounts,s.symbols,dN s.orders m (oI s.orders[m] r.qty r.price),dh s (dN s.orders m (oI s.orders[m] r.qty r.price)),s.limits,s.caps,s.kill,s.last,s.seq,s.lsn⟩ s s.orders[m].account s.orders[m].symbol=some e:=he;rw[he',ai];exact hq
   ·rw[if_neg hok];simp only[FD,aU,aP];rw[ajL (t:=BG s (dN s.orders m (oI s.orders[m] r.qty r.price))) hR rfl rfl hob.2.1.1 hoa.2.2.1 hob.2.2.1.1 hoa.2.2.2 g2.symm g3 hcells hok]
 rw[bW (by rw[aN];exact k2)];by_cases k3:r.kind=3
 ·rw[au (by rw[aK];exact k3),MQ s r.order (by omega),ai];have hrec':=hrec;unfold nI at hrec';have hra:r.account=0/\r.symbol=0:=by omega
  have hm:=good (by omega) (by omega) fun h=>absurd h k1;unfold doS;rw[if_neg (fun h:¬I8 s r=>h hm),if_neg k1,if_neg k2,if_pos k3];cases hf:wE s.orders r.order with
  |none=>
   rw[GL hf,au (by decide)]
  |some m=>
   rw[Dw hf,bW (by rw[aN];omega)];obtain⟨hm1,hm2⟩:=lu hf;have hoi:=hR.fine.ords _ (List.getElem_mem hm1);simp only[au (inb _ m hm1),aS _ m hm1,sS _ m hm1];rw[ah1 hoi.1 hoi.2.1,ai];by_cases ha:s.orders[m].asked=true
   ·rw[if_pos ha,if_pos ha];rfl
   ·rw[if_neg ha,if_neg ha,JE];rfl
 rw[bW (by rw[aN];exact k3)];by_cases k4:r.kind=4
 ·rw[au (by rw[aK];exact k4)];have hrec':=hrec;unfold nI at hrec';by_cases c2:s.accounts<=r.account
  ·rw[bad fun h=>by have:=h.2.2.2.1;omega];simp only[gV c2,aP]
  by_cases c3:s.symbols<=r.symbol
  ·rw[bad fun h=>by have:=h.2.2.2.2.1;omega];simp only[MX c2,gV c3,aP,aO]
  simp only[MX c2,MX c3,aO];have hm:=good (by omega) (by omega) fun h=>absurd h k1;unfold doS;rw[if_neg (fun h:¬I8 s r=>h hm),if_neg k1,if_neg k2,if_neg k3,if_pos k4,dQ];by_cases hy:r.symbol= -1
  ·rw[if_pos hy,if_pos hy,au (LD (gV (by omega)) (DL (by simp only[len];omega)))]
  ·rw[if_neg hy,if_neg hy];obtain⟨k,g1,g2,g3⟩:=KI hs r.account r.symbol (by omega) (by omega) (by omega) (by omega);have g4:k<s.limits.length:=by omega
   rw[g1,ai,au (inb _ k g4),g2]
 rw[bW (by rw[aN];exact k4)];by_cases k5:r.kind=5
 ·rw[au (by rw[aK];exact k5)];have hrec':=hrec;unfold nI at hrec';have hra:r.account=0/\r.symbol=0:=by omega
  have hm:=good (by omega) (by omega) fun h=>absurd h k1;unfold doS;rw[if_neg (fun h:¬I8 s r=>h hm),if_neg k1,if_neg k2,if_neg k3,if_neg k4,if_pos k5]
 rw[bW (by rw[aN];exact k5)];have hrec':=hrec;unfold nI at hrec';have hra:r.account=0/\r.symbol=0:=by omega
 have hm:=good (by omega) (by omega) fun h=>absurd h k1;unfold doS;rw[if_neg (fun h:¬I8 s r=>h hm),if_neg k1,if_neg k2,if_neg k3,if_neg k4,if_neg k5];have hws:wr .i64 (aB s.seq 1)=s.seq+1:=by unfold aB;exact bV (by omega) (by omega)
 rw[hws,dP,dQ];by_cases c1:r.seq=s.seq+1
 case neg=>
  rw[if_neg c1,if_pos c1]
 rw[if_pos c1,if_neg (fun h:r.seq≠s.seq+1=>h c1),MQ _ r.order (by show s.orders.length<_;omega),ai];show cnd (ieq (PU s.orders r.order) (-1)) _ _=_;cases hf:wE s.orders r.order with
 |none=>
  rw[GL hf,au (by decide)]
 |some m=>
  rw[Dw hf,bW (by rw[aN];omega)];obtain⟨hm1,hm2⟩:=lu hf;simp only[au (inb _ m hm1),aS _ m hm1,sS _ m hm1];obtain⟨ho,hro⟩:=hall s.orders[m] (List.getElem_mem _);have hnote:nI (DX ⟨r.seq,r.what,r.order,r.qty,r.price⟩):=by
   have k6:r.kind=6:=by omega
   refine .inr (.inr (.inr (.inr (.inr ⟨rfl,?_⟩))));rcases hrec with h | h | h | h | h | h
   ·omega
   ·omega
   ·omega
   ·omega
   ·omega
   ·exact⟨h.2.1,rfl,rfl,rfl,rfl,rfl,rfl,rfl,h.2.2.2.2.2.2.2.2.2⟩
  rw[afp ho hro hnote hm2.symm hrr.qty];cases ht:PZ s.orders[m] r.what r.qty r.price with
  |none=>
   simp only[ai];rw[au (by decide)]
  |some p=>
   simp only[ai,kD,aI,aO];have hq3:r.what=3->1<=r.qty:=fun h=>by omega
   have hp:=agl ho hro ht hq3 (fun h=>by omega) hrr.qty hrr.price;obtain⟨k,g1,g2,g3⟩:=abt hs (hR.fine.ords _ (List.getElem_mem hm1));have hat:atZ s.symbols p=(k:Int):=by unfold atZ;rw[hp.account,hp.symbol];exact g2
   have hsub:=aid hR hr m hm1 k g3 g2;obtain⟨hev1,hev2⟩:=aaU hR hr m hm1 k g3 g2 hp hq3
   rw[show dw (ay.mk s.accounts s.symbols s.orders s.cells s.limits s.caps s.kill s.last r.seq s.lsn) s.orders[m].account s.orders[m].symbol=some (k:Int)from g1,ai,au (inb _ k g3),aS _ k g3,
    aeb (hR.ok _ (List.getElem_mem _)) ho hro hsub,ai]
   simp only[JE,al0];have gk:∀c:aT,aj (s.cells.set k c) (itn (k:Int))=c:=fun c=>by rw[aS _ k (by simpa using g3),List.getElem_set_self]
   rw[gk,Nw hsub hp.ord hp.rng,if_pos hev1,ai,gk,abB hR r m hm1 k g3 g2 hat];have hdel:=anB (l:=s.orders.set m p) (i:=m) (by simpa using hm1) (by simp;omega);rw[ak3]at hdel;simp only[hdel,ai,dQ];by_cases h3:r.what=3
   ·rw[if_pos h3,if_pos h3];have hside:=ho.1.2.2.2.1;have e1:(tH (wH s.cells[k] s.orders[m]) p).pos=s.cells[k].pos:=by rw[amG,anG]
    have hn:=hev2 h3;rw[<-e1]at hn;rw[ajd hev1 hside (by have:=hq3 h3;omega) hrr.qty hn,ai,e1];split<;>rfl
   ·rw[if_neg h3,if_neg h3];split<;>rfl
theorem mk_pos (s:ay) (l:List ax) (j:Nat) (h:j<(dh s l).length):(dh s l)[j].pos=(s.cells[j]'(by simpa [dh] using h)).pos:=by
 rw[rG];have:=aby s.symbols j l;simp only[kK];omega
theorem ajM {s t:ay} (h1:t.symbols=s.symbols) {l:List ax} (h2:t.cells=dh s l):t.cells=dh t l:=by
 have e0:dh t l=(dh s l).mapIdx fun i c=>kK ⟨c.pos,0,0,0⟩ (jo s.symbols i l):=by unfold dh;rw[h1,h2];rfl
 rw[e0,h2];refine List.ext_getElem (by simp) fun j g1 g2=> ?_;rw[List.getElem_mapIdx,mk_pos,rG]
theorem aoj {l:List ax} {o:ax} (h:LY l) (ho:∀x∈l,x.id<o.id):LY (l++[o]):=by
 unfold LY at*;rw[List.pairwise_append];refine⟨h,by simp,fun a ha b hb=> ?_⟩;rw[List.mem_singleton]at hb;subst hb;exact ho a ha
theorem afE {l:List ax} {m:Nat} (hm:m<l.length) {p:ax} (h:LY l) (hp:p.id=l[m].id):LY (l.set m p):=by
 unfold LY at*;rw[List.pairwise_iff_getElem]at*;intro i j hi hj hij;have hi':i<l.length:=by simpa using hi
 have hj':j<l.length:=by simpa using hj
 have h0:=h i j hi' hj' hij;rw[List.getElem_set,List.getElem_set];split
 ·rename_i e;subst e;rw[if_neg (by omega),hp];exact h0
 ·split
  ·rename_i e;subst e;rw[hp];exact h0
  ·exact h0
theorem ak9 {l:List ax} (m:Nat) (h:LY l):LY (l.eraseIdx m):=List.Pairwise.sublist (List.eraseIdx_sublist _ _) h
theorem anF {l m:List aT} (hl:l.length=m.length) (h:∀(i:Nat) (h1:i<l.length) (h2:i<m.length),l[i].opn<=m[i].opn):iq l<=iq m:=by
 induction l generalizing m with
 |nil=>cases m with
  |nil=>exact Int.le_refl _
  |cons a r=>simp at hl
 |cons a l ih=>cases m with
  |nil=>simp at hl
  |cons b m=>
   have h0:=h 0 (by simp) (by simp);have:=ih (m:=m) (by simpa using hl) fun i h1 h2=>by
    have:=h (i+1) (by simp;omega) (by simp;omega);simpa using this
   unfold iq at*;simp only[List.map_cons,List.sum_cons,List.getElem_cons_zero]at*;omega
theorem apc {n:Int} {cs ds:List aT} (hl:cs.length=ds.length) (h:∀(i:Nat) (h1:i<cs.length) (h2:i<ds.length),cs[i].opn<=ds[i].opn) (a:Int):iq (rD n cs a)<=iq (rD n ds a):=by
 unfold rD;refine anF (by simp [hl]) fun i h1 h2=> ?_;rw[List.getElem_take,List.getElem_take,List.getElem_drop,List.getElem_drop];exact h _ _ _
theorem aqn {cs:List aT} {k:Nat} {c:aT} (hk:k<cs.length) (hc:c.opn<=cs[k].opn) (i:Nat) (h1:i<(cs.set k c).length) (h2:i<cs.length):(cs.set k c)[i].opn<=cs[i].opn:=by
 rw[List.getElem_set];split
 ·rename_i e;subst e;exact hc
 ·exact Int.le_refl _
theorem al2 {s:ay} (hR:iZ s) {r:dB} (h:s.last<r.order):∀x∈s.orders,x.id<(fK r).id:=fun x hx=>by
 have:=hR.fine.ids x hx;show x.id<r.order;omega
theorem jR {α:Type} {l:List α} {m:Nat} {p x:α} (h:x∈l.set m p):x∈l\/x=p:=List.mem_or_eq_of_mem_set h
theorem ae2 {s t:ay} (hR:iZ s) (h1:t.accounts=s.accounts) (h2:t.symbols=s.symbols) (hl:t.limits=s.limits) (hc:t.caps=s.caps) (hq:t.seq=s.seq) (hls:t.lsn=s.lsn) (hlsn:s.lsn<1000000000)
 (ht:t.cells=dh s t.orders) (ho:∀o∈t.orders,lm s o) (has:LY t.orders) (hid:∀o∈t.orders,o.id<=t.last) (hla:0<=t.last/\t.last<=1000000000000) (hlen:t.orders.length<=64) (a y:Int):
 iZ (SI s t a y).1:=by
 unfold SI
 split
 ·exact hR
 ·rename_i hf
  have hf:WA t:=Classical.not_not.1 hf
  split
  ·exact hR
  ·have hcl:t.cells.length=s.cells.length:=by rw[ht,fG]
   have hz:=hR.fine
   refine⟨uQ hR.sized h1 h2 hcl (by rw[hl]) (by rw[hc]) hlen,⟨fun o h=> ?_,has,hid,hla,by rw[hq];exact hz.seq,?_,by rw[hl];exact hz.lims,by rw[hc];exact hz.caps⟩,?_,hf.1,hf.2⟩
   ·obtain⟨g1,g2,g3,g4⟩:=ho o h
    exact⟨g1,g2,by show o.account<t.accounts;omega,by show o.symbol<t.symbols;omega⟩
   ·have:=hz.lsn
    show 0<=t.lsn+1/\t.lsn+1<=1000000000
    omega
   ·have:=ajM h2 ht
    exact this
theorem aeS {s:ay} {r:dB} (hR:iZ s) (hr:iW s) (hrr:iF r):iZ (doS s r).1:=by
 unfold doS;split
 ·exact hR
 rename_i hm;have hm:I8 s r:=Classical.not_not.1 hm;obtain⟨_,hrec,hlsn,hacc,hsym,hord⟩:=hm;have hz:=hR.fine;have hs:=hR.sized;obtain⟨lc,ll,lcp,lo⟩:=hs.lens;have hl0:=hz.lsn;have hrec':=hrec;unfold nI kF at hrec';split
 ·rename_i k1;split
  ·exact hR
  split
  ·exact hR
  ·rename_i h64;obtain⟨g1,g2⟩:=ZG hrec k1;refine ae2 (t:=⟨s.accounts,s.symbols,aQ s.orders [fK r],dh s (aQ s.orders [fK r]),s.limits,s.caps,s.kill,r.order,s.seq,s.lsn⟩) hR rfl rfl rfl rfl rfl rfl hlsn rfl (fun o h=> ?_) (aoj hz.asc (al2 hR (hord k1))) (fun o h=> ?_) (by show 0<=r.order/\r.order<=_;omega) (by show(s.orders++[_]).length<=64;simp;omega) _ _
   ·rcases List.mem_append.1 h with h | h
    ·exact hz.ords o h
    ·rw[List.mem_singleton]at h;subst h;exact⟨g1,by simp [fK],hacc,hsym⟩
   ·rcases List.mem_append.1 h with h | h
    ·have:=al2 hR (hord k1) o h;show o.id<=r.order;exact Int.le_of_lt this
    ·rw[List.mem_singleton]at h;subst h;exact Int.le_refl _
 split
 ·rename_i k1 k2;split
  ·exact hR
  rename_i m hf;obtain⟨hm1,hm2⟩:=lu hf;simp only[sS _ m hm1];split
  ·exact hR
  rename_i hch;have hch:sW s.orders[m]:=Classical.not_not.1 hch;split
  ·exact hR
  have hoi:=hz.ords _ (List.getElem_mem hm1);have hpo:=WO (q:=r.qty) (p:=r.price) hoi.1 hch (by omega) (by omega);refine ae2 (t:=BG s (dN s.orders m (oI s.orders[m] r.qty r.price))) hR rfl rfl rfl rfl rfl rfl hlsn rfl (fun o h=> ?_) (afE hm1 hz.asc rfl) (fun o h=> ?_) hz.last (by show(s.orders.set _ _).length<=64;simp;omega) _ _
  ·rcases jR h with h | rfl
   ·exact hz.ords o h
   ·exact⟨hpo,by show s.orders[m].phase≠3;exact hoi.2.1,hoi.2.2.1,hoi.2.2.2⟩
  ·rcases jR h with h | rfl
   ·exact hz.ids o h
   ·exact hz.ids s.orders[m] (List.getElem_mem hm1)
 split
 ·rename_i k1 k2 k3;split
  ·exact hR
  rename_i m hf;obtain⟨hm1,hm2⟩:=lu hf;simp only[sS _ m hm1];split
  ·exact hR
  have hoi:=hz.ords _ (List.getElem_mem hm1);refine⟨uQ hs rfl rfl rfl rfl rfl (by show(s.orders.set _ _).length<=64;simp;omega),⟨fun o h=> ?_,afE hm1 hz.asc rfl,fun o h=> ?_,hz.last,hz.seq,⟨by show 0<=s.lsn+1;omega,by show s.lsn+1<=_;omega⟩,hz.lims,hz.caps⟩,?_,hR.ok,hR.acct⟩
  ·rcases jR h with h | rfl
   ·exact hz.ords o h
   ·exact⟨hoi.1,hoi.2.1,hoi.2.2.1,hoi.2.2.2⟩
  ·rcases jR h with h | rfl
   ·exact hz.ids o h
   ·exact hz.ids s.orders[m] (List.getElem_mem hm1)
  ·have e:∀j:Nat,jo s.symbols j (s.orders.set m (ak0 s.orders[m]))=jo s.symbols j s.orders:=fun j=>by
    rw[abh _ _ _ _ hm1,La _ _ _ _ hm1];rfl
   refine hR.cells.trans ?_;unfold dh;simp only[OT,e]
 split
 ·rename_i k1 k2 k3 k4;split
  ·rename_i hy;refine⟨uQ hs rfl rfl rfl rfl (Ci _ _ _) lo,⟨hz.ords,hz.asc,hz.ids,hz.last,hz.seq,⟨by show 0<=s.lsn+1;omega,by show s.lsn+1<=_;omega⟩,hz.lims,fun x hx=> ?_⟩,hR.cells,hR.ok,hR.acct⟩;rcases jR hx with h | rfl
   ·exact hz.caps x h
   ·omega
  ·rename_i hy;refine⟨uQ hs rfl rfl rfl (Ci _ _ _) rfl lo,⟨hz.ords,hz.asc,hz.ids,hz.last,hz.seq,⟨by show 0<=s.lsn+1;omega,by show s.lsn+1<=_;omega⟩,fun x hx=> ?_,hz.caps⟩,hR.cells,hR.ok,hR.acct⟩;rcases jR hx with h | rfl
   ·exact hz.lims x h
   ·unfold WM;simp only;omega
 split
 ·exact⟨uQ hs rfl rfl rfl rfl rfl lo,⟨hz.ords,hz.asc,hz.ids,hz.last,hz.seq,⟨by show 0<=s.lsn+1;omega,by show s.lsn+1<=_;omega⟩,hz.lims,hz.caps⟩,hR.cells,hR.ok,hR.acct⟩
 split
 ·exact hR
 rename_i k1 k2 k3 k4 k5 hseq;have hseq:r.seq=s.seq+1:=Classical.not_not.1 hseq;have hrs:0<=r.seq/\r.seq<=1000000000:=by omega
 split
 ·exact⟨uQ hs rfl rfl rfl rfl rfl lo,⟨hz.ords,hz.asc,hz.ids,hz.last,hrs,⟨by show 0<=s.lsn+1;omega,by show s.lsn+1<=_;omega⟩,hz.lims,hz.caps⟩,hR.cells,hR.ok,hR.acct⟩
 rename_i m hf;obtain⟨hm1,hm2⟩:=lu hf;simp only[sS _ m hm1];split
 ·exact⟨uQ hs rfl rfl rfl rfl rfl lo,⟨hz.ords,hz.asc,hz.ids,hz.last,hrs,⟨by show 0<=s.lsn+1;omega,by show s.lsn+1<=_;omega⟩,hz.lims,hz.caps⟩,hR.cells,hR.ok,hR.acct⟩
 rename_i p ht;have hoi:=hz.ords _ (List.getElem_mem hm1);have hro:=hr.orders.1 _ (List.getElem_mem hm1);have hq3:r.what=3->1<=r.qty:=fun h=>by omega
 have hp:=agl hoi.1 hro ht hq3 (fun h=>by omega) hrr.qty hrr.price;obtain⟨k,g1,g2,g3⟩:=abt hs hoi;have hat:atZ s.symbols p=(k:Int):=by unfold atZ;rw[hp.account,hp.symbol];exact g2
 obtain⟨hev1,hev2⟩:=aaU hR hr m hm1 k g3 g2 hp hq3;have hcells:(evS s r m p).cells=dh (evS s r m p) (evS s r m p).orders:=ajM (s:=⟨s.accounts,s.symbols,s.orders,if r.what=3 then ae8 s (aj s.orders m) r.qty else s.cells,s.limits,s.caps,s.kill,s.last,r.seq,s.lsn+1⟩) (t:=evS s r m p) rfl (l:=(evS s r m p).orders) rfl
 have hst:=abB hR r m hm1 k g3 g2 hat;refine⟨?_,?_,hcells,?_,?_⟩
 ·rw[hst];refine uQ hs rfl rfl (by simp) rfl rfl ?_;show(if p.phase=3 then s.orders.eraseIdx m else s.orders.set m p).length<=64
  split
  ·have:=List.length_eraseIdx_le s.orders m;omega
  ·simp;omega
 ·rw[hst];have hmem:∀o∈(if p.phase=3 then s.orders.eraseIdx m else s.orders.set m p),o∈s.orders\/(o=p/\p.phase≠3):=fun o ho=>by
   split at ho
   ·exact .inl (List.mem_of_mem_eraseIdx ho)
   ·rename_i h3;rcases jR ho with h | rfl
    ·exact .inl h
    ·exact .inr ⟨rfl,h3⟩
  refine⟨fun o ho=> ?_,?_,fun o ho=> ?_,hz.last,hrs,⟨by show 0<=s.lsn+1;omega,by show s.lsn+1<=_;omega⟩,hz.lims,hz.caps⟩
  ·rcases hmem o ho with h | ⟨rfl,h3⟩
   ·exact hz.ords o h
   ·exact⟨hp.ord,h3,by show o.account<s.accounts;rw[hp.account];exact hoi.2.2.1,by show o.symbol<s.symbols;rw[hp.symbol];exact hoi.2.2.2⟩
  ·show LY (if p.phase=3 then s.orders.eraseIdx m else s.orders.set m p)
   split
   ·exact ak9 m hz.asc
   ·exact afE hm1 hz.asc hp.id
  ·rcases hmem o ho with h | ⟨rfl,_⟩
   ·exact hz.ids o h
   ·show o.id<=s.last;rw[hp.id];exact hz.ids _ (List.getElem_mem hm1)
 ·rw[hst];intro c hc;rcases jR hc with h | rfl
  ·exact hR.ok c h
  ·split
   ·rename_i h3;exact hev2 h3
   ·exact hev1
 ·rw[hst];intro a h1 h2;refine Int.le_trans (apc (by simp) (fun i g4 g5=>aqn g3 ?_ i g4 g5) a) (hR.acct a h1 h2);have hw:=hp.worth;have e:(tH (wH s.cells[k] s.orders[m]) p).opn<=s.cells[k].opn:=by
   have e1:(tH (wH s.cells[k] s.orders[m]) p).opn=s.cells[k].opn - fB s.orders[m]+fB p:=by unfold tH wH;split<;>split<;>rfl
   omega
  split
  ·exact e
  ·exact e
theorem UU {α:Type} {p:α->Prop} {l:List α} (h:okL p l) {k:Nat} {x:α} (hx:p x):okL p (l.set k x):=⟨fun y hy=>by
 rcases List.mem_or_eq_of_mem_set hy with h1 | rfl
 ·exact h.1 y h1
 ·exact hx,by have:=h.2;simpa using this⟩
structure DoQ (s:ay) (r:dB) (t:ay) (e:Int):Prop where
 bad:e≠0->t=s
 good:e=0->I8 s r/\t.lsn=s.lsn+1/\(t.seq=if r.kind=6 then s.seq+1 else s.seq)/\(t.last=if r.kind=1 then r.order else s.last)/\t.accounts=s.accounts/\t.symbols=s.symbols/\t.cells.length=s.cells.length/\t.limits.length=s.limits.length/\t.caps.length=s.caps.length/\t.orders.length<=64/\
  (r.kind≠4->t.limits=s.limits/\t.caps=s.caps)/\(r.kind≠5->t.kill=s.kill)/\(r.kind=6->r.seq=s.seq+1)
 rng:iW s->iF r->iW t
theorem FP {s:ay} {r:dB} {e:Int} (he:e≠0):DoQ s r s e:=⟨fun _=>rfl,fun h=>absurd h he,fun h _=>h⟩
theorem apU {s t:ay} {r:dB} {a y:Int} (hm:I8 s r) (h6:r.kind≠6) (h1:t.accounts=s.accounts) (h2:t.symbols=s.symbols) (h3:t.limits=s.limits) (h4:t.caps=s.caps) (h5:t.seq=s.seq) (h7:t.lsn=s.lsn) (h8:t.last=if r.kind=1 then r.order else s.last) (h9:t.cells.length=s.cells.length) (h10:t.orders.length<=64) (h11:t.kill=s.kill)
 (hr:iW s->iF r->∀o∈t.orders,dU o):DoQ s r (SI s t a y).1 (SI s t a y).2:=by
 unfold SI
 split
 ·exact FP (by simp)
 ·rename_i hf
  have hf:WA t:=Classical.not_not.1 hf
  split
  ·exact FP (by simp)
  ·refine⟨fun h=>absurd rfl h,fun _=>⟨hm,by show t.lsn+1=_;rw[h7],by rw[if_neg h6];exact h5,h8,h1,h2,h9,by rw[h3],by rw[h4],h10,fun _=>⟨h3,h4⟩,fun _=>h11,fun h=>absurd h h6⟩,fun hs hrr=> ?_⟩
   have hR:=hm.1
   have hz:=hR.fine
   have hlsn:=hm.2.2.1
   obtain⟨lc,ll,lcp,lo⟩:=hR.sized.lens
   have b3:=hz.lsn
   refine⟨by rw[h1];exact hs.accounts,by rw[h2];exact hs.symbols,⟨hr hs hrr,by show t.orders.length<=_;omega⟩,⟨fun c hc=>(hf.1 c hc).1,by show t.cells.length<=_;omega⟩,by rw[h3];exact hs.limits,by rw[h4];exact hs.caps,?_,by rw[h5];exact hs.seq,⟨by show _<=t.lsn+1;omega,by show t.lsn+1<=_;omega⟩⟩
   show inI t.last
   rw[h8];split
   ·exact hrr.order
   ·exact hs.last
theorem ZX (s:ay) (r:dB):DoQ s r (doS s r).1 (doS s r).2:=by
 unfold doS;split
 ·exact FP (by simp)
 rename_i hm;have hm:I8 s r:=Classical.not_not.1 hm;obtain⟨hR,hrec,hlsn,hacc,hsym,hord⟩:=id hm;have hz:=hR.fine;have hs:=hR.sized;obtain⟨lc,ll,lcp,lo⟩:=hs.lens;have hl0:=hz.lsn;have hls:iW s->inI (s.lsn+1):=fun _=>⟨by omega,by omega⟩;have hrec':=hrec;unfold nI kF at hrec';split
 ·rename_i k1;split
  ·exact FP (by simp)
  split
  ·exact FP (by simp)
  ·rename_i h64;refine apU (t:=⟨s.accounts,s.symbols,aQ s.orders [fK r],dh s (aQ s.orders [fK r]),s.limits,s.caps,s.kill,r.order,s.seq,s.lsn⟩) hm (by omega) rfl rfl rfl rfl rfl rfl (by rw[if_pos k1]) (fG _ _) (by show(s.orders++[_]).length<=64;simp;omega) rfl fun hs hrr o h=> ?_;rcases List.mem_append.1 h with h | h
   ·exact hs.orders.1 o h
   ·rw[List.mem_singleton]at h;subst h;exact ZB hrr
 split
 ·rename_i k1 k2;split
  ·exact FP (by simp)
  rename_i m hf;obtain⟨hm1,hm2⟩:=lu hf;simp only[sS _ m hm1];split
  ·exact FP (by simp)
  rename_i hch;have hch:sW s.orders[m]:=Classical.not_not.1 hch;split
  ·exact FP (by simp)
  refine apU (t:=BG s (dN s.orders m (oI s.orders[m] r.qty r.price))) hm (by omega) rfl rfl rfl rfl rfl rfl (by rw[if_neg k1];rfl) (fG _ _) (by show(s.orders.set _ _).length<=64;simp;omega) rfl fun hs hrr o h=> ?_;rcases jR h with h | rfl
  ·exact hs.orders.1 o h
  ·exact Xf (hs.orders.1 _ (List.getElem_mem hm1)) hch hrr.qty hrr.price
 split
 ·rename_i k1 k2 k3;split
  ·exact FP (by simp)
  rename_i m hf;obtain⟨hm1,hm2⟩:=lu hf;simp only[sS _ m hm1];split
  ·exact FP (by simp)
  exact⟨fun h=>absurd rfl h,fun _=>⟨hm,rfl,by rw[if_neg (by omega)],by rw[if_neg k1],rfl,rfl,rfl,rfl,rfl,by show(s.orders.set _ _).length<=64;simp;omega,fun _=>⟨rfl,rfl⟩,fun _=>rfl,fun h=>by omega⟩,
   fun h hrr=>⟨h.accounts,h.symbols,UU h.orders (aon (h.orders.1 _ (List.getElem_mem hm1))),h.cells,h.limits,h.caps,h.last,h.seq,hls h⟩⟩
 split
 ·rename_i k1 k2 k3 k4;split
  ·exact⟨fun h=>absurd rfl h,fun _=>⟨hm,rfl,by rw[if_neg (by omega)],by rw[if_neg k1],rfl,rfl,rfl,rfl,Ci _ _ _,lo,fun h=>absurd k4 h,fun _=>rfl,fun h=>by omega⟩,
    fun h hrr=>⟨h.accounts,h.symbols,h.orders,h.cells,h.limits,UU h.caps hrr.opn,h.last,h.seq,hls h⟩⟩
  ·exact⟨fun h=>absurd rfl h,fun _=>⟨hm,rfl,by rw[if_neg (by omega)],by rw[if_neg k1],rfl,rfl,rfl,Ci _ _ _,rfl,lo,fun h=>absurd k4 h,fun _=>rfl,fun h=>by omega⟩,
    fun h hrr=>⟨h.accounts,h.symbols,h.orders,h.cells,UU h.limits ⟨hrr.long,hrr.short,hrr.opn⟩,h.caps,h.last,h.seq,hls h⟩⟩
 split
 ·rename_i k1 k2 k3 k4 k5
  exact⟨fun h=>absurd rfl h,fun _=>⟨hm,rfl,by rw[if_neg (by omega)],by rw[if_neg k1],rfl,rfl,rfl,rfl,rfl,lo,fun _=>⟨rfl,rfl⟩,fun h=>absurd k5 h,fun h=>by omega⟩,
   fun h hrr=>⟨h.accounts,h.symbols,h.orders,h.cells,h.limits,h.caps,h.last,h.seq,hls h⟩⟩
 split
 ·exact FP (by simp)
 rename_i k1 k2 k3 k4 k5 hseq;have hseq:r.seq=s.seq+1:=Classical.not_not.1 hseq;have k6:r.kind=6:=by omega
 have ev:DoQ s r ⟨s.accounts,s.symbols,s.orders,s.cells,s.limits,s.caps,s.kill,s.last,r.seq,s.lsn+1⟩ 0:=
  ⟨fun h=>absurd rfl h,fun _=>⟨hm,rfl,by rw[if_pos k6];exact hseq,by rw[if_neg k1],rfl,rfl,rfl,rfl,rfl,lo,fun _=>⟨rfl,rfl⟩,fun _=>rfl,fun _=>hseq⟩,
   fun h hrr=>⟨h.accounts,h.symbols,h.orders,h.cells,h.limits,h.caps,h.last,hrr.seq,hls h⟩⟩
 split
 ·exact ev
 rename_i m hf;obtain⟨hm1,hm2⟩:=lu hf;simp only[sS _ m hm1];split
 ·exact ev
 rename_i p ht;have hoi:=hz.ords _ (List.getElem_mem hm1);have hlen:(if p.phase=3 then s.orders.eraseIdx m else dN s.orders m p).length<=64:=by
  split
  ·have:=List.length_eraseIdx_le s.orders m;omega
  ·rw[Ci];omega
 refine⟨fun h=>absurd rfl h,fun _=>⟨hm,rfl,by rw[if_pos k6];exact hseq,by rw[if_neg k1];rfl,rfl,rfl,?_,rfl,rfl,hlen,fun _=>⟨rfl,rfl⟩,fun _=>rfl,fun _=>hseq⟩,fun h hrr=> ?_⟩
 ·show(dh _ _).length=_;rw[fG];show(if r.what=3 then ae8 s (aj s.orders m) r.qty else s.cells).length=_
  split
  ·exact Ci _ _ _
  ·rfl
 ·have hro:=h.orders.1 _ (List.getElem_mem hm1);have hq3:r.what=3->1<=r.qty:=fun h=>by omega
  have hp:=agl hoi.1 hro ht hq3 (fun h=>by omega) hrr.qty hrr.price;obtain⟨k,g1,g2,g3⟩:=abt hs hoi;have hat:atZ s.symbols p=(k:Int):=by unfold atZ;rw[hp.account,hp.symbol];exact g2
  obtain⟨hev1,hev2⟩:=aaU hR h m hm1 k g3 g2 hp hq3;rw[abB hR r m hm1 k g3 g2 hat];refine⟨h.accounts,h.symbols,⟨fun o ho=> ?_,?_⟩,UU h.cells ?_,h.limits,h.caps,h.last,hrr.seq,hls h⟩
  ·show O3 o;have ho:o∈(if p.phase=3 then s.orders.eraseIdx m else s.orders.set m p):=ho
   split at ho
   ·exact h.orders.1 o (List.mem_of_mem_eraseIdx ho)
   ·rcases jR ho with h1 | rfl
    ·exact h.orders.1 o h1
    ·exact hp.rng
  ·show(if p.phase=3 then s.orders.eraseIdx m else s.orders.set m p).length<=_
   rw[OT]at hlen;omega
  ·show Dh _;split
   ·rename_i h3;exact(hev2 h3).1
   ·exact hev1.1
theorem WY {α:Type} {l m:List α} (hlen:l.length=m.length) (hn:l.length<999999) {step:Int×Bool->Option ((Int×Bool) ⊕ (Bool ⊕ Bool))}
 (hstep:∀(i:Nat) (h:i<l.length) (h2:i<m.length) (q:Bool),Wq (step ((i:Int),q)) fun r=>(l[i]=m[i]->r= .inl (((i+1:Nat):Int),q))/\(l[i]≠m[i]->r= .inr (.inl false)))
 (hend:∀q,step ((l.length:Int),q)=some (.inr (.inr q))) (q:Bool):Wq (bZ step LF (0,q)) fun w=>match w with | .inl b=>b=false/\l≠m | .inr b=>l=m:=by
 refine gu (n:=l.length) hn (fun i _=>∀(j:Nat) (h:j<l.length) (h2:j<m.length),j<i->l[j]=m[j]) _ (fun i x hi hx=> ?_) (fun x hx=> ?_) _ 0 (Nat.zero_le _) (fun j _ _ h=>by omega)
 ·have hi2:i<m.length:=by omega
  refine(hstep i hi hi2 x).mono fun r hr=> ?_
  by_cases e:l[i]=m[i]
  ·rw[hr.1 e]
   refine⟨rfl,fun j h h2 hj=> ?_⟩
   by_cases ej:j=i
   ·subst ej;exact e
   ·exact hx j h h2 (by omega)
  ·rw[hr.2 e]
   refine⟨rfl,fun h=>e ?_⟩
   subst h;rfl
 ·rw[hend x]
  exact(ah _).2 (List.ext_getElem hlen fun j h h2=>hx j h h2 h)
theorem apj {α β:Type} (l:List α) (m:List β):(len l=len m)↔l.length=m.length:=by unfold len;omega
theorem alf (a b:ax):(a.id=b.id/\a.account=b.account/\a.symbol=b.symbol/\a.side=b.side/\a.qty=b.qty/\a.price=b.price/\a.filled=b.filled/\a.phase=b.phase/\a.newQty=b.newQty/\a.newPrice=b.newPrice/\a.version=b.version/\a.asked=b.asked)↔a=b:=by
 cases a;cases b;simp
theorem aeR (a b:aT):(a.pos=b.pos/\a.buy=b.buy/\a.sell=b.sell/\a.opn=b.opn)↔a=b:=by
 cases a;cases b;simp
theorem anM (a b:fA):(a.long=b.long/\a.short=b.short/\a.opn=b.opn)↔a=b:=by
 cases a;cases b;simp
theorem ale (a b:ay):(a.accounts=b.accounts/\a.symbols=b.symbols/\a.kill=b.kill/\a.last=b.last/\a.seq=b.seq/\a.lsn=b.lsn/\a.orders=b.orders/\a.cells=b.cells/\a.limits=b.limits/\a.caps=b.caps)↔a=b:=by
 cases a;cases b;simp;grind
def rW (s:ay):Prop:=s.orders.length<999999/\s.cells.length<999999/\s.limits.length<999999/\s.caps.length<999999
theorem aqw {a b:ay} (ha:rW a):Wq (qQ a b) fun r=>r=true↔a=b:=by
 obtain⟨h1,h2,h3,h4⟩:=ha;unfold qQ;rw[dH];have hx:=ale a b;refine⟨fun h=>(ah _).2 ⟨fun h=>(by cases h),fun h2=> ?_⟩,fun h=> ?_⟩
 ·subst h2;simp only[aH,aJ,aW,bf,aG,aF,aZ,bg,aX,bF,aK,aN,bD,bH]at h;simp at h
 ·simp only[aH,aJ,aW,bf,aG,aF,aZ,bg,aX,bF,aK,aN,bD,bH,apj]at h;obtain⟨⟨⟨⟨⟨⟨⟨⟨⟨a1,a2⟩,a3⟩,a4⟩,a5⟩,a6⟩,a7⟩,a8⟩,a9⟩,a10⟩:=h;have e1:a=b↔a.orders=b.orders/\a.cells=b.cells/\a.limits=b.limits/\a.caps=b.caps:=by
   rw[<-hx];exact⟨fun h=>⟨h.2.2.2.2.2.2.1,h.2.2.2.2.2.2.2.1,h.2.2.2.2.2.2.2.2.1,h.2.2.2.2.2.2.2.2.2⟩,fun h=>⟨a1,a2,a3,a4,a5,a6,h⟩⟩
  rw[e1];refine Wq.bind (WY (l:=a.orders) (m:=b.orders) a7 h1 (step:=fun v:Int×Bool=>nC b a v.1 v.2) (fun i h hh q=> ?_) (fun q=> ?_) _) fun w hw=> ?_
  ·simp only[nC];rw[au (by rw[cu];simpa using h),au (inb _ i h),au (inb _ i hh),aS _ i h,aS _ i hh,dH,ah,ah,aG,aF,bQ (by omega)];have:=alf a.orders[i] b.orders[i];simp only[aH,aJ,aW,bf,aG,aF,aZ,bg,aX,bF,aK,aN,bD,bH]at*;exact⟨fun h=>⟨fun e=>(by have:=this.2 e;grind),fun _=>trivial⟩,fun h=>⟨fun _=>trivial,fun e=>absurd (this.1 h) e⟩⟩
  ·simp only[nC];rw[bW (by rw[show((a.orders.length:Nat):Int)=len a.orders from rfl];simp [ilt])]
  cases w with
  |inl w=>obtain⟨rfl,h⟩:=hw;simp only[dJ,ah];simp [h]
  |inr w=>
  simp only[dJ,hw,true_and];refine Wq.bind (WY (l:=a.cells) (m:=b.cells) a8 h2 (step:=fun v:Int×Bool=>mD b a v.1 v.2) (fun i h hh q=> ?_) (fun q=> ?_) _) fun w hw=> ?_
  ·simp only[mD];rw[au (by rw[cu];simpa using h),au (inb _ i h),au (inb _ i hh),aS _ i h,aS _ i hh,dH,ah,ah,aG,aF,bQ (by omega)];have:=aeR a.cells[i] b.cells[i];simp only[aH,aJ,aW,bf,aG,aF,aZ,bg,aX,bF,aK,aN,bD,bH]at*;exact⟨fun h=>⟨fun e=>(by have:=this.2 e;grind),fun _=>trivial⟩,fun h=>⟨fun _=>trivial,fun e=>absurd (this.1 h) e⟩⟩
  ·simp only[mD];rw[bW (by rw[show((a.cells.length:Nat):Int)=len a.cells from rfl];simp [ilt])]
  cases w with
  |inl w=>obtain⟨rfl,h⟩:=hw;simp only[dJ,ah];simp [h]
  |inr w=>
  simp only[dJ,hw,true_and];refine Wq.bind (WY (l:=a.limits) (m:=b.limits) a9 h3 (step:=fun v:Int×Bool=>mV b a v.1 v.2) (fun i h hh q=> ?_) (fun q=> ?_) _) fun w hw=> ?_
  ·simp only[mV];rw[au (by rw[cu];simpa using h),au (inb _ i h),au (inb _ i hh),aS _ i h,aS _ i hh,dH,ah,ah,aG,aF,bQ (by omega)];have:=anM a.limits[i] b.limits[i];simp only[aH,aJ,aW,bf,aG,aF,aZ,bg,aX,bF,aK,aN,bD,bH]at*;exact⟨fun h=>⟨fun e=>(by have:=this.2 e;grind),fun _=>trivial⟩,fun h=>⟨fun _=>trivial,fun e=>absurd (this.1 h) e⟩⟩
  ·simp only[mV];rw[bW (by rw[show((a.limits.length:Nat):Int)=len a.limits from rfl];simp [ilt])]
  cases w with
  |inl w=>obtain⟨rfl,h⟩:=hw;simp only[dJ,ah];simp [h]
  |inr w=>
  simp only[dJ,hw,true_and];refine Wq.bind (WY (l:=a.caps) (m:=b.caps) a10 h4 (step:=fun v:Int×Bool=>mM b a v.1 v.2) (fun i h hh q=> ?_) (fun q=> ?_) _) fun w hw=> ?_
  ·simp only[mM];rw[au (by rw[cu];simpa using h),au (inb _ i h),au (inb _ i hh),aS _ i h,aS _ i hh,dH,ah,ah,aG,aF,bQ (by omega)];simp only[aH,aJ,aW,bf,aG,aF,aZ,bg,aX,bF,aK,aN,bD,bH]at*;exact⟨fun h=>⟨fun e=>absurd e h,fun _=>trivial⟩,fun h=>⟨fun _=>trivial,fun e=>absurd h e⟩⟩
  ·simp only[mM];rw[bW (by rw[show((a.caps.length:Nat):Int)=len a.caps from rfl];simp [ilt])]
  cases w with
  |inl w=>obtain⟨rfl,h⟩:=hw;simp only[dJ,ah];simp [h]
  |inr w=>simp only[dJ,hw,ah]
theorem alk {a:ay} (ha:rW a):qQ a a=some true:=by
 obtain⟨b,e,q⟩:=aqw (b:=a) ha;rw[e,q.2 rfl]
theorem aoX (s:ay):Wq (uo s) fun b=>b=true->rW s:=by
 unfold uo rW;simp only[ah,aH,aJ,aW,bf,aG,aF,aZ,bg,aX,bF,aK,aN,bD,bH,len];omega
theorem ak8 {s:ay} (h:rW s) (r:dB):rW (doS s r).1:=by
 have q:=ZX s r;by_cases e:(doS s r).2=0
 ·obtain⟨_,_,_,_,_,_,h1,h2,h3,h4,_⟩:=q.good e;unfold rW at *; omega
 ·rw[q.bad e];exact h
theorem ao2 {l:List ax} (h:LY l) {o:ax} (ho:o∈l):∃k:Nat,∃hk:k<l.length,wE l o.id=some k/\l[k]=o:=by
 cases hf:wE l o.id with
 |none=>exact absurd rfl (aiX hf o ho)
 |some k=>
  obtain⟨hk,h1⟩:=lu hf;obtain⟨j,hj,rfl⟩:=List.getElem_of_mem ho;have:k=j:=h.find hk hj h1;subst this;exact⟨k,hk,rfl,rfl⟩
theorem ZR {a b:Int} (ha:inI a) (hb:inI b):jE a b=some (if inI (a+b)then (a+b,true)else (0,false)):=by
 unfold inI at ha hb;unfold jE aV aB;rw[AB];simp only[aH,aJ,aW,bf,aG,aF,aZ,bg,aX,bF,aK,aN,bD,bH];by_cases h:inI (a+b)
 ·rw[if_pos h,ng h];unfold inI at h;rw[if_neg];rintro(⟨h1,h2⟩ | ⟨h1,h2⟩)
  ·rw[ng ⟨by omega,by omega⟩]at h2;omega
  ·rw[ng ⟨by omega,by omega⟩]at h2;omega
 ·rw[if_neg h];unfold inI at h;rw[if_pos];by_cases hp:0<b
  ·exact .inl ⟨hp,by rw[ng ⟨by omega,by omega⟩];omega⟩
  ·exact .inr ⟨by omega,by rw[ng ⟨by omega,by omega⟩];omega⟩
theorem arM {a b:Int} (ha:inI a) (hb:inI b):yc a b=some (if inI (a - b)then (a - b,true)else (0,false)):=by
 unfold inI at ha hb;unfold yc aV aB;rw[AB];simp only[aH,aJ,aW,bf,aG,aF,aZ,bg,aX,bF,aK,aN,bD,bH];by_cases h:inI (a - b)
 ·rw[if_pos h,ng h];unfold inI at h;rw[if_neg];rintro(⟨h1,h2⟩ | ⟨h1,h2⟩)
  ·rw[ng ⟨by omega,by omega⟩]at h2;omega
  ·rw[ng ⟨by omega,by omega⟩]at h2;omega
 ·rw[if_neg h];unfold inI at h;rw[if_pos];by_cases hp:0<b
  ·exact .inr ⟨hp,by rw[ng ⟨by omega,by omega⟩];omega⟩
  ·exact .inl ⟨by omega,by rw[ng ⟨by omega,by omega⟩];omega⟩
theorem aj1 {a:Int} (ha:inI a):qh a=some (a.natAbs:Int):=by
 unfold inI at ha;unfold qh aV aB;rw[Ea];split
 ·rw[ng (n:=a+1) ⟨by omega,by omega⟩,ng (n:=0 - (a+1)) ⟨by omega,by omega⟩,rX,rX];congr 1;omega
 ·rw[rX];congr 1;omega
theorem apY {a b:Int} (ha:inI a) (hb:inI b):Wq (rP a b) fun r=>(r.2=true↔inI (a*b))/\(r.2=true->r.1=a*b):=by
 unfold rP;rw[aj1 ha,aj1 hb,ai,ai];have hm:(a.natAbs:Int)*(b.natAbs:Int)=((a*b).natAbs:Int):=by rw[Int.natAbs_mul];rfl
 have hs:((a<0↔b<0)->0<=a*b)/\(¬(a<0↔b<0)->a*b<=0):=by
  constructor
  ·intro h;by_cases h1:a<0
   ·exact Int.mul_nonneg_of_nonpos_of_nonpos (by omega) (by have:=h.1 h1;omega)
   ·exact Int.mul_nonneg (by omega) (by have:¬b<0:=fun h2=>h1 (h.2 h2);omega)
  ·intro h;by_cases h1:a<0
   ·exact Int.mul_nonpos_of_nonpos_of_nonneg (by omega) (by have:¬b<0:=fun h2=>h ⟨fun _=>h2,fun _=>h1⟩;omega)
   ·exact Int.mul_nonpos_of_nonneg_of_nonpos (by omega) (by have:b<0:=by { by_cases h2:b<0;exact h2;exact absurd ⟨fun h=>absurd h h1,fun h=>absurd h h2⟩ h };omega)
 unfold inI at ha hb;obtain⟨A,B,e1,A1,A2,B1,B2,s1,s2⟩:=half (a.natAbs:Int) (by omega) (by omega);obtain⟨C,D,e2,C1,C2,D1,D2,t1,t2⟩:=half (b.natAbs:Int) (by omega) (by omega);rw[s1,s2,t1,t2];have m2:0<=A*D/\A*D<=4294967295*4294967295:=⟨Int.mul_nonneg A1 D1,Int.mul_le_mul (by omega) (by omega) D1 (by omega)⟩;have m3:0<=B*C/\B*C<=4294967295*4294967295:=⟨Int.mul_nonneg B1 C1,Int.mul_le_mul (by omega) (by omega) C1 (by omega)⟩;have m4:0<=B*D/\B*D<=4294967295*4294967295:=⟨Int.mul_nonneg B1 D1,Int.mul_le_mul (by omega) (by omega) D1 (by omega)⟩;have mm:((a*b).natAbs:Int)=A*C*18446744073709551616+(A*D+B*C)*4294967296+B*D:=by
  rw[<-hm,e1,e2];simp only[Int.add_mul,Int.mul_add];have q1:A*4294967296*(C*4294967296)=A*C*18446744073709551616:=by
   rw[Int.mul_assoc,Int.mul_left_comm 4294967296,<-Int.mul_assoc,<-Int.mul_assoc];omega
  have q2:A*4294967296*D=A*D*4294967296:=by rw[Int.mul_assoc,Int.mul_comm 4294967296,<-Int.mul_assoc]
  have q3:B*(C*4294967296)=B*C*4294967296:=by rw[<-Int.mul_assoc]
  rw[q1,q2,q3];omega
 have mac:0<=A*C/\(0<A->0<C->1<=A*C):=⟨Int.mul_nonneg A1 C1,fun h1 h2=>Int.mul_pos h1 h2⟩;have mz:(A=0->A*C=0/\A*D=0)/\(C=0->A*C=0/\B*C=0):=⟨fun h=>by subst h;simp,fun h=>by subst h;simp⟩;unfold cO aB aV qc;have e32:min (Int.toNat 32) (IntKind.bits .u64)=32:=by decide
 simp only[e32];generalize A*C=p at*;generalize A*D=q at*;generalize B*C=r at*;generalize B*D=t at*;generalize a*b=w at*;simp only[rX];by_cases c1:0<A/\0<C
 ·rw[au (by simp only[aH,aJ,aW,bf,aG,aF,aZ,bg,aX,bF,aK,aN,bD,bH];exact c1),ah];have:=mac.2 c1.1 c1.2;unfold inI;simp only[Bool.false_eq_true,false_iff,false_implies,and_true];omega
 ·rw[bW (by simp only[aH,aJ,aW,bf,aG,aF,aZ,bg,aX,bF,aK,aN,bD,bH];omega)];have hac:p=0/\(q=0\/r=0):=by
   by_cases h:A=0
   ·exact⟨(mz.1 h).1,.inl (mz.1 h).2⟩
   ·have hC:C=0:=by omega
    exact⟨(mz.2 hC).1,.inr (mz.2 hC).2⟩
  rw[Int.emod_eq_of_lt (a:=q) m2.1 (by omega),Int.emod_eq_of_lt (a:=r) m3.1 (by omega),Int.emod_eq_of_lt (a:=t) m4.1 (by omega),Int.emod_eq_of_lt (a:=q+r) (by omega) (by omega)];rw[ajZ];by_cases c2:4294967296<=q+r
  ·rw[if_pos c2,ah];unfold inI;simp only[Bool.false_eq_true,false_iff,false_implies,and_true];omega
  ·rw[if_neg c2,dH];have hw:((w.natAbs:Nat):Int)=(q+r)*4294967296+t:=by omega
   have hsh:((q+r)*2^32)%18446744073709551616=(q+r)*4294967296:=by
    rw[show(2:Int)^32=4294967296 by decide];exact Int.emod_eq_of_lt (by omega) (by omega)
   rw[hsh];refine⟨fun h=>(ah _).2 ?_,fun h=> ?_⟩
   ·simp only[aH,aJ,aW,bf,aG,aF,aZ,bg,aX,bF,aK,aN,bD,bH]at h;unfold inI;simp only[Bool.false_eq_true,false_iff,false_implies,and_true];omega
   ·simp only[aH,aJ,aW,bf,aG,aF,aZ,bg,aX,bF,aK,aN,bD,bH]at h;have hlt:(q+r)*4294967296+t<18446744073709551616:=by omega
    rw[Int.emod_eq_of_lt (a:=(q+r)*4294967296+t) (by omega) hlt]at h ⊢;rw[<-hw]at h ⊢;rw[dH];refine⟨fun h5=>(ah _).2 ?_,fun h5=>(ah _).2 ?_⟩
    ·have h6:¬(a<0↔b<0):=fun h7=>by
      rw[aG,bH]at h5;exact h5 (decide_eq_decide.2 h7)
     have:=hs.2 h6;have e:wr .i64 ((0 - ((w.natAbs:Nat):Int))%18446744073709551616)=w:=by
      rcases afN (n:=(0 - ((w.natAbs:Nat):Int))%18446744073709551616) (by omega) (by omega)with ⟨g,e⟩ | ⟨g,e⟩ | ⟨g,e⟩<;>rw[e]<;>(try unfold inI at g)<;>omega
     simp only[e,true_iff,implies_true,and_true];unfold inI;omega
    ·have h6:(a<0↔b<0):=by
      rw[aF,bD]at h5;exact decide_eq_decide.1 h5
     have:=hs.1 h6;simp only[aZ];unfold inI;refine⟨by omega,fun h7=> ?_⟩;rw[ng ⟨by omega,by omega⟩];omega
theorem IG (r:dB):Wq (iO r) fun b=>b=true↔nI r:=by
 unfold iO qE;by_cases k1:r.kind=1
 ·have e1:ieq r.kind 1=true:=by rw[aK];exact k1
  simp only[e1,aP,ai];simp only[iQ,dH,ah,aH,aJ,aW,bf,aG,aF,aZ,bg,aX,bF,aK,aN,bD,bH,true_implies,ne_eq,not_true_eq_false,false_implies,and_true,true_and,or_self,reduceCtorEq,nI,kF];grind
 have e1:ieq r.kind 1=false:=by rw[aN];exact k1
 by_cases k2:r.kind=2
 ·have e2:ieq r.kind 2=true:=by rw[aK];exact k2
  simp only[e1,e2,aP,aO,ai];simp only[iQ,dH,ah,aH,aJ,aW,bf,aG,aF,aZ,bg,aX,bF,aK,aN,bD,bH,true_implies,ne_eq,not_true_eq_false,false_implies,and_true,true_and,or_self,reduceCtorEq,nI,kF];grind
 have e2:ieq r.kind 2=false:=by rw[aN];exact k2
 by_cases k3:r.kind=3
 ·have e3:ieq r.kind 3=true:=by rw[aK];exact k3
  simp only[e1,e2,e3,aP,aO,ai];have hrec:nI r↔(kF r.order/\r.account=0/\r.symbol=0/\r.side=0/\r.qty=0/\r.price=0/\r.long=0/\r.short=0/\r.opn=0/\r.on=false/\r.seq=0/\r.what=0):=by
   unfold nI;constructor
   ·rintro(h | h | h | h | h | h)
    ·omega
    ·omega
    ·exact h.2
    ·omega
    ·omega
    ·omega
   ·exact fun h=> .inr (.inr (.inl ⟨k3,h⟩))
  rw[hrec];simp only[iQ,dH,ah,aH,aJ,aW,bf,aG,aF,aZ,bg,aX,bF,aK,aN,bD,bH,true_implies,ne_eq,not_true_eq_false,false_implies,and_true,true_and,or_self,reduceCtorEq,kF];grind
 have e3:ieq r.kind 3=false:=by rw[aN];exact k3
 by_cases k4:r.kind=4
 ·have e4:ieq r.kind 4=true:=by rw[aK];exact k4
  simp only[e1,e2,e3,e4,aP,aO,ai];simp only[iQ,dH,ah,aH,aJ,aW,bf,aG,aF,aZ,bg,aX,bF,aK,aN,bD,bH,true_implies,ne_eq,not_true_eq_false,false_implies,and_true,true_and,or_self,reduceCtorEq,nI,kF];grind
 have e4:ieq r.kind 4=false:=by rw[aN];exact k4
 by_cases k5:r.kind=5
 ·have e5:ieq r.kind 5=true:=by rw[aK];exact k5
  simp only[e1,e2,e3,e4,e5,aP,aO,ai];have hrec:nI r↔(r.order=0/\r.account=0/\r.symbol=0/\r.side=0/\r.qty=0/\r.price=0/\r.long=0/\r.short=0/\r.opn=0/\r.seq=0/\r.what=0):=by
   unfold nI;constructor
   ·rintro(h | h | h | h | h | h)
    ·omega
    ·omega
    ·omega
    ·omega
    ·exact h.2
    ·omega
   ·exact fun h=> .inr (.inr (.inr (.inr (.inl ⟨k5,h⟩))))
  rw[hrec];simp only[iQ,dH,ah,aH,aJ,aW,bf,aG,aF,aZ,bg,aX,bF,aK,aN,bD,bH,true_implies,ne_eq,not_true_eq_false,false_implies,and_true,true_and,or_self,reduceCtorEq,kF]
 have e5:ieq r.kind 5=false:=by rw[aN];exact k5
 by_cases k6:r.kind=6
 ·have e6:ieq r.kind 6=true:=by rw[aK];exact k6
  simp only[e1,e2,e3,e4,e5,e6,aP,aO]
  have hrec:nI r↔(kF r.order/\r.account=0/\r.symbol=0/\r.side=0/\r.long=0/\r.short=0/\r.opn=0/\r.on=false/\(1<=r.seq/\r.seq<=1000000000)/\
   ((r.what=3/\1<=r.qty/\r.price=0)\/(r.what=5/\1<=r.qty/\1<=r.price)\/((r.what=1\/r.what=2\/r.what=4\/r.what=6)/\r.qty=0/\r.price=0))):=by
   unfold nI;constructor
   ·rintro(h | h | h | h | h | h)
    ·omega
    ·omega
    ·omega
    ·omega
    ·omega
    ·exact h.2
   ·exact fun h=> .inr (.inr (.inr (.inr (.inr ⟨k6,h⟩))))
  rw[hrec,iQ];refine Wq.mono (Q:=fun y=>(1<=r.seq/\r.seq<=1000000000)->(1<=r.what/\r.what<=6)->(y=true↔kF r.order)) ?_ fun y hy=> ?_
  ·rw[dH];refine⟨fun h=>(ah _).2 fun _ _=>by simp only[aH,aJ,aW,bf,aG,aF,aZ,bg,aX,bF,aK,aN,bD,bH,kF];omega,fun h=>(ah _).2 fun g1 g2=> ?_⟩;simp only[aH,aJ,aW,bf,aG,aF,aZ,bg,aX,bF,aK,aN,bD,bH]at h;omega
  by_cases w3:r.what=3
  ·rw[au (by simp only[aH,aJ,aW,bf,aG,aF,aZ,bg,aX,bF,aK,aN,bD,bH];exact .inl w3),bW (by rw[aN];omega),ah];simp only[aH,aJ,aW,bf,aG,aF,aZ,bg,aX,bF,aK,aN,bD,bH,true_and];rw[w3]at hy ⊢;constructor
   ·rintro⟨⟨⟨⟨⟨⟨a1,a2⟩,_⟩,_⟩,a3⟩,a4⟩,b1,b2,b3,b4,b5,b6,b7,b8,_⟩;exact⟨(hy ⟨by omega,a2⟩ (by omega)).1 a3,b1,b2,b3,b5,b6,b7,b8,⟨by omega,a2⟩,.inl ⟨rfl,by omega,b4⟩⟩
   ·rintro⟨c1,b1,b2,b3,b5,b6,b7,b8,c2,c3⟩;have c4:1<=r.qty/\r.price=0:=by omega
    exact⟨⟨⟨⟨⟨⟨by omega,c2.2⟩,by omega⟩,by omega⟩,(hy c2 (by omega)).2 c1⟩,by omega⟩,b1,b2,b3,c4.2,b5,b6,b7,b8,trivial⟩
  by_cases w5:r.what=5
  ·rw[au (by simp only[aH,aJ,aW,bf,aG,aF,aZ,bg,aX,bF,aK,aN,bD,bH];exact .inr w5),au (by rw[aK];exact w5),ah];simp only[aH,aJ,aW,bf,aG,aF,aZ,bg,aX,bF,aK,aN,bD,bH,true_and];rw[w5]at hy ⊢;constructor
   ·rintro⟨⟨⟨⟨⟨⟨⟨a1,a2⟩,_⟩,_⟩,a3⟩,a4⟩,a5⟩,b1,b2,b3,b5,b6,b7,b8,_⟩;exact⟨(hy ⟨by omega,a2⟩ (by omega)).1 a3,b1,b2,b3,b5,b6,b7,b8,⟨by omega,a2⟩,.inr (.inl ⟨rfl,by omega,by omega⟩)⟩
   ·rintro⟨c1,b1,b2,b3,b5,b6,b7,b8,c2,c3⟩;have c4:1<=r.qty/\1<=r.price:=by omega
    exact⟨⟨⟨⟨⟨⟨⟨by omega,c2.2⟩,by omega⟩,by omega⟩,(hy c2 (by omega)).2 c1⟩,by omega⟩,by omega⟩,b1,b2,b3,b5,b6,b7,b8,trivial⟩
  rw[bW (by simp only[aH,aJ,aW,bf,aG,aF,aZ,bg,aX,bF,aK,aN,bD,bH];exact⟨w3,w5⟩),bW (by rw[aN];exact w5),ah];simp only[aH,aJ,aW,bf,aG,aF,aZ,bg,aX,bF,aK,aN,bD,bH,true_and];constructor
  ·rintro⟨⟨⟨⟨⟨a1,a2⟩,a6⟩,a7⟩,a3⟩,b1,b2,b3,b9,b4,b5,b6,b7,b8,_⟩;exact⟨(hy ⟨by omega,a2⟩ (by omega)).1 a3,b1,b2,b3,b5,b6,b7,b8,⟨by omega,a2⟩,.inr (.inr ⟨by omega,b9,b4⟩)⟩
  ·rintro⟨c1,b1,b2,b3,b5,b6,b7,b8,c2,c3⟩;have c4:r.qty=0/\r.price=0/\1<=r.what/\r.what<=6:=by omega
   exact⟨⟨⟨⟨⟨by omega,c2.2⟩,by omega⟩,by omega⟩,(hy c2 (by omega)).2 c1⟩,b1,b2,b3,c4.1,c4.2.1,b5,b6,b7,b8,trivial⟩
 have e6:ieq r.kind 6=false:=by rw[aN];exact k6
 simp only[e1,e2,e3,e4,e5,e6,aP,aO,ai];simp only[iQ,dH,ah,aH,aJ,aW,bf,aG,aF,aZ,bg,aX,bF,aK,aN,bD,bH,true_implies,ne_eq,not_true_eq_false,false_implies,and_true,true_and,or_self,reduceCtorEq,nI];grind
theorem vT (o:ax):dZ o=some (decide (sO o)):=by
 refine Wq.dec ?_;unfold dZ;refine(IG _).bind fun b hb=> ?_;have hb':b=true↔Qb o:=by rw[hb];simp [nI,Qb,kF]
 unfold sO rO;rw[<-hb'];simp only[iQ,dH,ah,aH,aJ,aW,bf,aG,aF,aZ,bg,aX,bF,aK,aN,bD,bH,true_implies,ne_eq,not_true_eq_false,false_implies,and_true,true_and,or_self,reduceCtorEq];cases b<;>grind
theorem afv {o:ax} (h:sO o) (hr:dU o):qO o=some (jX o):=by
 have hb:=D6 h hr;have hf:=h.2.1;have hq:=h.2.2.1;have r1:=hr.qty;have r2:=hr.newQty;unfold inI at r1 r2;unfold qO aV;rw[vT,ai,decide_eq_true h];unfold jX at*;rw[aI,dD,dQ];split
 ·rfl
 ·rename_i hp;rw[if_neg hp]at hb;rw[Ea];split
  ·rw[ng ⟨by omega,by omega⟩];congr 1;omega
  ·rw[ng ⟨by omega,by omega⟩];congr 1;omega
theorem adB {o:ax} (h:sO o) (hr:dU o):vM o=some (if fB o<=9223372036854775807 then (fB o,0)else (0,3)):=by
 refine Wq.eq ?_;have hp:=h.1.2.2.2.2.2;have hf:=h.2.2.1;have hf0:=h.2.1;have rq:=hr.qty;have rp:=hr.price;have rf:=hr.filled;have rn:=hr.newQty;have rnp:=hr.newPrice;unfold inI at rq rf rn;unfold vM aV;rw[vT,ai,decide_eq_true h,aI,aO,dQ];by_cases h3:o.phase=3
 ·rw[if_pos h3,ah];have:fB o=0:=by unfold fB;rw[if_pos h3]
  rw[this];rfl
 ·rw[if_neg h3,ng ⟨by omega,by omega⟩];refine(apY ⟨by omega,by omega⟩ rp).bind fun y hy=> ?_;have m:0<=(o.qty - o.filled)*o.price:=Int.mul_nonneg (by omega) (by omega);rw[BF h3];generalize (o.qty - o.filled)*o.price=a at*;have hia:inI a↔a<=9223372036854775807:=by unfold inI;omega
  rw[hia]at hy;rw[dH];refine⟨fun hb=>(ah _).2 ?_,fun hb=> ?_⟩
  ·have hn:¬a<=9223372036854775807:=fun h=>by rw[hy.1.2 h]at hb;cases hb
   rw[if_neg];split<;>omega
  ·have hyt:y.2=true:=by simpa [ak] using hb
   have hale:=hy.1.1 hyt;have hya:=hy.2 hyt;rw[Ea];by_cases hn:o.filled<o.newQty
   ·rw[if_pos hn,if_neg (by omega:¬o.newQty<=o.filled)];have hnp:=afq h hn;rw[ng ⟨by omega,by omega⟩];refine(apY ⟨by omega,by omega⟩ rnp).bind fun z hz=> ?_;have m2:0<=(o.newQty - o.filled)*o.newPrice:=Int.mul_nonneg (by omega) (by omega);generalize (o.newQty - o.filled)*o.newPrice=b at*;have hib:inI b↔b<=9223372036854775807:=by unfold inI;omega
    rw[hib]at hz;rw[dH];refine⟨fun hb=>(ah _).2 ?_,fun hb=> ?_⟩
    ·have hn:¬b<=9223372036854775807:=fun h=>by rw[hz.1.2 h]at hb;cases hb
     rw[if_neg (by omega)]
    ·have hzt:z.2=true:=by simpa [ak] using hb
     have hble:=hz.1.1 hzt;have hzb:=hz.2 hzt;rw[hya,hzb,Ea,if_pos (c:=max a b<=9223372036854775807) (by omega)];by_cases hab:a<b
     ·rw[if_pos hab,ah,Int.max_eq_right (by omega)]
     ·rw[if_neg hab,ah,Int.max_eq_left (by omega)]
   ·rw[if_neg hn,if_pos (by omega:o.newQty<=o.filled),if_pos hale,ah,hya]
theorem afB {c:aT} (h:Dh c):uU c=some (decide (okC c)):=by
 refine Wq.dec ?_;unfold uU;rw[ZR h.pos h.buy,ai,arM h.sell h.pos,ai,ah];simp only[aH,aJ,aW,bf,aG,aF,aZ,bg,aX,bF,aK,aN,bD,bH,okC];by_cases h1:inI (c.pos+c.buy)
 ·by_cases h2:inI (c.sell - c.pos)
  ·simp only[if_pos h1,if_pos h2];constructor
   ·rintro⟨⟨⟨_,a⟩,b⟩,d⟩;exact⟨h,⟨a,b,d⟩,h1,h2⟩
   ·rintro⟨_,⟨a,b,d⟩,_,_⟩;exact⟨⟨⟨⟨trivial,trivial⟩,a⟩,b⟩,d⟩
  ·simp only[if_neg h2];constructor
   ·rintro⟨⟨⟨⟨_,a⟩,_⟩,_⟩,_⟩;cases a
   ·rintro⟨_,_,_,a⟩;exact absurd a h2
 ·simp only[if_neg h1];constructor
  ·rintro⟨⟨⟨⟨a,_⟩,_⟩,_⟩,_⟩;cases a
  ·rintro⟨_,_,a,_⟩;exact absurd a h1
theorem aeL {c:aT} (h:okC c):uP c=some (ofC c):=by
 unfold uP aB aV;rw[ng h.2.2.1,ng h.2.2.2];rfl
theorem adw (x:fA):vG x=some (decide (WM x)):=by
 refine Wq.dec ?_;unfold vG WM;simp only[ah,aH,aJ,aW,bf,aG,aF,aZ,bg,aX,bF,aK,aN,bD,bH]
 grind
theorem ap6 (a b c:Int):lD a b c=some (decide (Xh a b c)):=by
 refine Wq.dec ?_;unfold lD Xh;simp only[ah,aH,aJ,aW,bf,aG,aF,aZ,bg,aX,bF,aK,aN,bD,bH];omega
theorem alM (a b l:fA):qY a b l=some (decide (AA a b l)):=by
 refine Wq.dec ?_;unfold qY AA;simp only[ap6,ai];by_cases h1:Xh a.long b.long l.long
 ·simp only[decide_eq_true h1,aI,aO,ai,ja,ah];simp [h1]
 ·simp only[decide_eq_false h1,aU,aP,ai,dD];by_cases h2:Xh a.short b.short l.short
  ·simp only[decide_eq_true h2,aI,aO,ai,ja,ah];simp [h1,h2]
  ·simp only[decide_eq_false h2,aU,aP,ai,dD,ah];simp [h1,h2]
theorem agd {l:List aT} (hl:l.length<999999) (h:∀c∈l,0<=c.opn/\inI c.opn):lS l=some (if iq l<=9223372036854775807 then (iq l,true)else (0,false)):=by
 refine Wq.eq ?_;have hn:∀x∈l.map aT.opn,0<=x:=fun x hx=>by
  obtain⟨c,hc,rfl⟩:=List.mem_map.1 hx;exact(h c hc).1
 have htk:∀i,(l.take i).map aT.opn=(l.map aT.opn).take i:=fun i=>by rw[List.map_take]
 unfold lS;refine Wq.bind (Q:=fun w:(Bool×Int) ⊕ (Int×Bool×Int)=>match w with | .inl w=>w=(false,0)/\¬iq l<=9223372036854775807 | .inr w=>w.1=iq l/\iq l<=9223372036854775807)
  (gu (n:=l.length) (step:=fun v:Int×Int×Bool×Int=>mJ l v.1 v.2.1 v.2.2.1 v.2.2.2) (by omega)
    (fun i x=>x.1=iq (l.take i)/\x.1<=9223372036854775807) _ ?_ ?_ _ 0 (Nat.zero_le _) (by simp [iq])) ?_
 ·rintro i ⟨a,b,c⟩ hi ⟨rfl,ha⟩;simp only[mJ];simp only at ha;have hx:=h l[i] (List.getElem_mem _);have hs:iq (l.take (i+1))=iq (l.take i)+l[i].opn:=by
   unfold iq;rw[htk,htk,VT _ i (by simpa using hi),List.getElem_map]
  have ht:0<=iq (l.take i):=by unfold iq;rw[htk];exact ac4 fun x hx=>hn x (List.mem_of_mem_take hx)
  have htl:iq (l.take (i+1))<=iq l:=by unfold iq;rw[htk];exact Z4 hn _
  rw[au (by rw[cu];simpa using hi),au (inb l i hi),aS l i hi,ZR ⟨by omega,ha⟩ hx.2,ai,<-hs];by_cases hr:iq (l.take (i+1))<=9223372036854775807
  ·rw[if_pos ⟨by omega,hr⟩];simp only[aI,aO,ah];exact⟨bQ (by omega),trivial,hr⟩
  ·rw[if_neg (by unfold inI;omega)];simp only[aU,aP,ah];exact⟨trivial,by omega⟩
 ·rintro⟨a,b,c⟩ ⟨rfl,ha⟩;simp only[mJ];rw[bW (by rw[cu];simp),ah];rw[List.take_length]at*;exact⟨rfl,ha⟩
 ·rintro w hw;cases w with
  |inl w=>obtain⟨rfl,h2⟩:=hw;simp only[dJ,ah];rw[if_neg h2]
  |inr w=>obtain⟨h1,h2⟩:=hw;simp only[dJ,ah];rw[if_pos h2,h1]
theorem afG (s:ay) (n:Int) (hl:s.orders.length<999999):jh s n=some (PU s.orders n):=by
 refine Wq.eq ?_;unfold jh
 refine Wq.bind (Q:=fun w:Int ⊕ Int=>match w with
  |.inl k=>∃i:Nat,k=i/\∃h:i<s.orders.length,s.orders[i].id=n/\∀j,(h:j<s.orders.length)->j<i->s.orders[j].id≠n
  |.inr _=>∀j,(h:j<s.orders.length)->s.orders[j].id≠n)
  (gu (n:=s.orders.length) (step:=fun v:Int×Int=>nN n s v.1 v.2) (by omega) (fun i x=>∀j,(h:j<s.orders.length)->j<i->s.orders[j].id≠n) _ ?_ ?_ _ 0 (Nat.zero_le _) (fun j _ h=>by omega)) ?_
 ·rintro i x hi hx;simp only[nN];rw[au (by rw[cu];simpa using hi),au (inb _ i hi),aS _ i hi,dH];refine⟨fun he=>(ah _).2 ⟨i,rfl,hi,by simpa [ieq] using he,hx⟩,fun he=>(ah _).2 ⟨bQ (by omega),fun j hj hji=> ?_⟩⟩;by_cases e:j=i
  ·subst e;simpa [ieq] using he
  ·exact hx j hj (by omega)
 ·rintro x hx;simp only[nN];rw[bW (by rw[cu];simp),ah];exact fun j hj=>hx j hj hj
 ·rintro w hw;cases w with
  |inl k=>
   obtain⟨i,rfl,hi,h1,h2⟩:=hw;have:wE s.orders n=some i:=by
    unfold wE;rw[List.findIdx?_eq_some_iff_getElem];exact⟨hi,by simpa using h1,fun j hj=>by simpa using h2 j (by omega) hj⟩
   simp only[dJ,ah,PU,this]
  |inr k=>
   have:wE s.orders n=none:=by
    unfold wE;rw[List.findIdx?_eq_none_iff];intro o ho;obtain⟨j,hj,rfl⟩:=List.getElem_of_mem ho;simpa using hw j hj
   simp only[dJ,ah,PU,this]
theorem amO (c:aT) {o:ax} (h:o.side=1\/o.side=2):tH c o=if o.side=1 then ⟨c.pos,c.buy+jX o,c.sell,c.opn+fB o⟩else ⟨c.pos,c.buy,c.sell+jX o,c.opn+fB o⟩:=by
 unfold tH;by_cases e:o.side=1
 ·rw[if_pos e,if_neg (by omega)]
 ·rw[if_neg e,if_pos (by omega)]
theorem aqi {s:ay} (hk:∀o∈s.orders,lm s o/\dU o) (hs:mZ s) (hol:s.orders.length<999999) (i:Nat) (pos:Int) (a:Bool) (b:List aT):
 Wq (bZ (fun v:Int×Bool×List aT×aT=>jQ (i:Int) s v.1 v.2.1 v.2.2.1 v.2.2.2) LF (0,a,b,aT.mk pos 0 0 0)) fun w=>match w with
  |.inl w=>w.1=false/\w.2.1=[]/\¬IU (jo s.symbols i s.orders)
  |.inr w=>w.1=a/\w.2.1=b/\w.2.2=kK ⟨pos,0,0,0⟩ (jo s.symbols i s.orders)/\IU (jo s.symbols i s.orders):=by
 have hz:kK ⟨pos,0,0,0⟩ zC=aT.mk pos 0 0 0:=by apply zh<;>simp [kK,zC]
 refine gu (n:=s.orders.length) hol (fun k x=>x.1=a/\x.2.1=b/\x.2.2=kK ⟨pos,0,0,0⟩ (jo s.symbols i (s.orders.take k))/\IU (jo s.symbols i (s.orders.take k))) _ ?_ ?_ _ 0 (Nat.zero_le _) ⟨rfl,rfl,by simp only[List.take_zero,jo];exact hz.symm,by simp only[List.take_zero,jo,IU,zC];decide⟩
 ·rintro k ⟨x1,x2,x3⟩ hkl ⟨rfl,rfl,g3,g4⟩
  simp only at g3 g4
  obtain⟨hoi,hor⟩:=hk s.orders[k] (List.getElem_mem _)
  obtain⟨ho,_,ha,hy⟩:=id hoi
  have hside:=ho.1.2.2.2.1
  have hacc:=ho.1.2.1;have hsym:=ho.1.2.2.1
  have m:=CV (a:=s.orders[k].account) (b:=s.symbols) (by omega) (by have:=hs.1.2;omega) (by have:=hs.2.1.1;omega) (by have:=hs.2.1.2;omega)
  have hwr:wr .i64 (aB (wr .i64 (cO s.orders[k].account s.symbols)) s.orders[k].symbol)=atZ s.symbols s.orders[k]:=by
   unfold aB cO atZ
   rw[bV (n:=s.orders[k].account*s.symbols) m.1 (by omega),bV (by omega) (by omega)]
  have hstep:jo s.symbols i (s.orders.take (k+1))=kK (jo s.symbols i (s.orders.take k)) (inC s.symbols i s.orders[k]):=by
   rw[List.take_succ_eq_append_getElem hkl,uY,X8]
  have hnn:=JZ s.symbols i (l:=s.orders.take k) fun o h=>⟨(hk o (List.mem_of_mem_take h)).1.1,(hk o (List.mem_of_mem_take h)).2⟩
  have hO:=D6 ho hor
  have hW:=Hq ho
  have hfull:IU (jo s.symbols i s.orders)->IU (jo s.symbols i (s.orders.take (k+1))):=fun h=>by
   have e:jo s.symbols i s.orders=kK (jo s.symbols i (s.orders.take (k+1))) (jo s.symbols i (s.orders.drop (k+1))):=by
    rw[<-uY,List.take_append_drop]
   rw[e]at h
   exact ahT (JZ _ _ fun o h=>⟨(hk o (List.mem_of_mem_drop h)).1.1,(hk o (List.mem_of_mem_drop h)).2⟩) h
  simp only[jQ]
  rw[au (by rw[cu];simpa using hkl),au (inb _ k hkl),aS _ k hkl,hwr,dP,dQ]
  by_cases hat:atZ s.symbols s.orders[k]=(i:Int)
  case neg=>
   rw[if_neg hat,ah]
   refine⟨bQ (by omega),rfl,rfl,?_,?_⟩
   ·rw[hstep];unfold inC;rw[if_neg hat,NQ];exact g3
   ·rw[hstep];unfold inC;rw[if_neg hat,NQ];exact g4
  rw[if_pos hat,adB ho hor,ai,afv ho hor]
  have hin:inC s.symbols i s.orders[k]=wC s.orders[k]:=afW hat
  rw[hin]at hstep
  generalize jo s.symbols i (s.orders.take k)=c at*
  obtain⟨n0,n1,n2,n3⟩:=hnn
  obtain⟨f1,f2,f3⟩:=id g4
  have e1:x3.opn=c.opn:=by rw[g3];simp [kK]
  have e2:x3.buy=c.buy:=by rw[g3];simp [kK]
  have e3:x3.sell=c.sell:=by rw[g3];simp [kK]
  have e4:x3.pos=pos:=by rw[g3];simp [kK,n0]
  have iw:∀w:Int,0<=w->w<=9223372036854775807->inI w:=fun w h1 h2=>⟨by omega,h2⟩
  by_cases hw:fB s.orders[k]<=9223372036854775807
  case neg=>
   have hno:¬IU (jo s.symbols i s.orders):=fun h=>by
    have h:=hfull h
    rw[hstep]at h
    have:=h.2.2
    have e:(wC s.orders[k]).opn=fB s.orders[k]:=by unfold wC;split<;>rfl
    simp only[kK,e]at this;omega
   rw[if_neg hw]
   simp only[ai]
   rw[e1,ZR (iw _ n3 f3) (by decide),ai,dQ]
   split
   ·rw[e2,ZR (iw _ n1 f1) (iw _ hO.1 hO.2),ai,au (by simp only[aH,aJ,aW,bf,aG,aF,aZ,bg,aX,bF,aK,aN,bD,bH];left;left;decide),ah];exact⟨rfl,rfl,hno⟩
   ·rw[e3,ZR (iw _ n2 f2) (iw _ hO.1 hO.2),ai,au (by simp only[aH,aJ,aW,bf,aG,aF,aZ,bg,aX,bF,aK,aN,bD,bH];left;left;decide),ah];exact⟨rfl,rfl,hno⟩
  rw[if_pos hw]
  simp only[ai]
  have hao:=amO c hside
  rw[XI]at hao
  rw[e1,ZR (iw _ n3 f3) (iw _ hW hw),ai,dQ]
  by_cases hsd:s.orders[k].side=1
  ·rw[if_pos hsd]at hao ⊢
   rw[e2,ZR (iw _ n1 f1) (iw _ hO.1 hO.2),ai]
   rw[hao]at hstep
   by_cases h1:c.opn+fB s.orders[k]<=9223372036854775807
   ·by_cases h2:c.buy+jX s.orders[k]<=9223372036854775807
    ·rw[if_pos (iw _ (by omega) h1),if_pos (iw _ (by omega) h2)]
     simp only[kD,aI,dD,aO]
     rw[ah]
     refine⟨bQ (by omega),rfl,rfl,?_,?_⟩
     ·rw[hstep];apply zh<;>simp only[kK]<;>omega
     ·rw[hstep];exact⟨h2,f2,h1⟩
    ·have hno:¬IU (jo s.symbols i s.orders):=fun h=>by
      have h:=(hfull h).1;rw[hstep]at h;exact h2 h
     rw[if_pos (iw _ (by omega) h1),if_neg (fun h=>h2 h.2)]
     simp only[kD,aI,dD,aU,aP]
     exact(ah _).2 ⟨rfl,rfl,hno⟩
   ·have hno:¬IU (jo s.symbols i s.orders):=fun h=>by
     have h:=(hfull h).2.2;rw[hstep]at h;exact h1 h
    rw[if_neg (c:=inI (c.opn+fB s.orders[k])) (fun h=>h1 h.2)]
    simp only[kD,aI,dD,aU,ja,aP]
    exact(ah _).2 ⟨rfl,rfl,hno⟩
  ·rw[if_neg hsd]at hao ⊢
   rw[e3,ZR (iw _ n2 f2) (iw _ hO.1 hO.2),ai]
   rw[hao]at hstep
   by_cases h1:c.opn+fB s.orders[k]<=9223372036854775807
   ·by_cases h2:c.sell+jX s.orders[k]<=9223372036854775807
    ·rw[if_pos (iw _ (by omega) h1),if_pos (iw _ (by omega) h2)]
     simp only[kD,aI,dD,aO]
     rw[ah]
     refine⟨bQ (by omega),rfl,rfl,?_,?_⟩
     ·rw[hstep];apply zh<;>simp only[kK]<;>omega
     ·rw[hstep];exact⟨f1,h2,h1⟩
    ·have hno:¬IU (jo s.symbols i s.orders):=fun h=>by
      have h:=(hfull h).2.1;rw[hstep]at h;exact h2 h
     rw[if_pos (iw _ (by omega) h1),if_neg (fun h=>h2 h.2)]
     simp only[kD,aI,dD,aU,aP]
     exact(ah _).2 ⟨rfl,rfl,hno⟩
   ·have hno:¬IU (jo s.symbols i s.orders):=fun h=>by
     have h:=(hfull h).2.2;rw[hstep]at h;exact h1 h
    rw[if_neg (c:=inI (c.opn+fB s.orders[k])) (fun h=>h1 h.2)]
    simp only[kD,aI,dD,aU,ja,aP]
    exact(ah _).2 ⟨rfl,rfl,hno⟩
 ·rintro⟨x1,x2,x3⟩ ⟨g1,g2,g3,g4⟩
  simp only[jQ]
  rw[bW (by rw[cu];simp),ah]
  rw[List.take_length]at g3 g4
  exact⟨g1,g2,g3,g4⟩
theorem aiM {n m:Int} (hn:1<=n/\n<=8) (hm:1<=m/\m<=8) {cs:List aT} (hc:len cs=n*m) {a:Int} (ha:0<=a) (ha2:a<n):
 band (band (ile 0 (wr .i64 (cO a m))) (ile (wr .i64 (cO a m)) (wr .i64 (cO (wr .i64 (aB a 1)) m)))) (ile (wr .i64 (cO (wr .i64 (aB a 1)) m)) (len cs))=true/\
 cZ (dR cs (itn (wr .i64 (cO a m)))) (itn (aV (wr .i64 (cO (wr .i64 (aB a 1)) m)) (wr .i64 (cO a m))))=rD m cs a:=by
 have q:=CV (a:=a) (b:=m) (by omega) (by omega) (by omega) (by omega)
 have q2:=CV (a:=a+1) (b:=m) (by omega) (by omega) (by omega) (by omega)
 have l:(a+1)*m<=n*m:=Int.mul_le_mul_of_nonneg_right (by omega) (by omega)
 have e:(a+1)*m=a*m+m:=by rw[Int.add_mul,Int.one_mul]
 rw[show cO a m=a*m from rfl,bV q.1 (by omega),show aB a 1=a+1 from rfl,bV (n:=a+1) (by omega) (by omega),
  show cO (a+1) m=(a+1)*m from rfl,bV q2.1 (by omega)]
 refine⟨by simp only[aH,aX];omega,?_⟩
 rw[show aV ((a+1)*m) (a*m)=m from by unfold aV;omega]
 rfl
theorem ajr {s:ay} (hs:mZ s) (hk:∀o∈s.orders,lm s o/\dU o) (hcl:okL NH s.cells):
 Wq (pU s) fun r=>(r.2=true↔WA (BG s s.orders))/\(r.2=true->r.1=dh s s.orders):=by
 obtain⟨hc,_,_,hol⟩:=hs.lens
 have hnn:∀i:Nat,nnC (jo s.symbols i s.orders):=fun i=>JZ _ _ fun o h=>⟨(hk o h).1.1,(hk o h).2⟩
 unfold pU
 refine Wq.bind (Q:=fun w:(Bool×List aT) ⊕ (List aT×Bool×List aT)=>match w with
  |.inl w=>w.1=false/\¬∀c∈dh s s.orders,okC c
  |.inr w=>w.1=dh s s.orders/\∀c∈dh s s.orders,okC c)
  (gu (n:=s.cells.length) (step:=fun v:Int×List aT×Bool×List aT=>lX s v.1 v.2.1 v.2.2.1 v.2.2.2) (by omega)
    (fun i x=>x.1=(dh s s.orders).take i/\∀c∈x.1,okC c) _ ?_ ?_ _ 0 (Nat.zero_le _) ⟨by simp,by simp⟩) ?_
 ·rintro i ⟨x1,x2,x3⟩ hi ⟨g1,g2⟩
  simp only at g1 g2
  have him:i<(dh s s.orders).length:=by rw[fG];exact hi
  have hci:Dh s.cells[i]:=hcl.1 _ (List.getElem_mem hi)
  simp only[lX]
  rw[au (by rw[cu];simpa using hi),au (inb _ i hi),aS _ i hi]
  refine Wq.bind (aqi hk hs (by omega) i s.cells[i].pos x2 x3) fun w hw=> ?_
  have hmk:=rG s s.orders i him
  have hokfit:okC (dh s s.orders)[i]->IU (jo s.symbols i s.orders):=fun h=>by
   have:=Zh h
   rw[hmk]at this
   unfold IU kK at this
   simpa [IU] using this
  cases w with
  |inl w=>
   obtain⟨h1,h2,h3⟩:=hw
   simp only[dJ,ah]
   exact⟨h1,fun h=>h3 (hokfit (h _ (List.getElem_mem him)))⟩
  |inr w=>
   obtain⟨h1,h2,h3,h4⟩:=hw
   simp only[dJ]
   have hokc:Dh w.2.2:=by
    rw[h3]
    have n:=hnn i
    obtain⟨n0,n1,n2,n3⟩:=n
    obtain⟨f1,f2,f3⟩:=h4
    have hp:=hci.pos
    refine⟨?_,?_,?_,?_⟩<;>simp only[kK]<;>unfold inI at* <;>omega
   rw[afB hokc,ai,dP,uH,h3,<-hmk]
   by_cases hok:okC (dh s s.orders)[i]
   ·rw[if_pos hok,au (gV (by rw[g1];simp [aQ,len];omega)),ah]
    refine⟨bQ (by omega),?_,fun c hc=> ?_⟩
    ·rw[List.take_succ_eq_append_getElem him,<-g1];rfl
    ·rcases List.mem_append.1 hc with hc | hc
     ·exact g2 c hc
     ·rw[List.mem_singleton]at hc;subst hc;exact hok
   ·rw[if_neg hok,ah]
    exact⟨rfl,fun h=>hok (h _ (List.getElem_mem him))⟩
 ·rintro⟨x1,x2,x3⟩ ⟨g1,g2⟩
  simp only[lX]
  rw[bW (by rw[cu];simp),ah]
  have e:(dh s s.orders).take s.cells.length=dh s s.orders:=List.take_of_length_le (by rw[fG];exact Nat.le_refl _)
  rw[e]at g1
  simp only at g1 g2
  exact⟨g1,by rw[<-g1];exact g2⟩
 ·rintro w hw
  cases w with
  |inl w=>
   obtain⟨h1,h2⟩:=hw
   simp only[dJ,ah,h1]
   exact⟨⟨fun h=>(by cases h),fun h=>absurd h.1 h2⟩,fun h=>(by cases h)⟩
  |inr w=>
   obtain⟨h1,h2⟩:=hw
   simp only[dJ]
   have hlen:len (dh s s.orders)=s.accounts*s.symbols:=by simp only[len,fG];exact hs.2.2.1
   refine Wq.bind (Q:=fun w:(Bool×List aT) ⊕ (Bool×List aT)=>match w with | .inl w=>w.1=false/\¬Oi s.accounts s.symbols (dh s s.orders) | .inr _=>Oi s.accounts s.symbols (dh s s.orders))
    (gu (n:=s.accounts.toNat) (step:=fun v:Int×Bool×List aT=>kX w.1 s v.1 v.2.1 v.2.2) (by have:=hs.1.2;omega)
    (fun i x=>∀a:Int,0<=a->a<i->iq (rD s.symbols (dh s s.orders) a)<=9223372036854775807) _ ?_ ?_ _ 0 (Nat.zero_le _) (fun a h1 h2=>by omega)) ?_
   ·rintro i q hi hx
    have hia:(i:Int)<s.accounts:=by omega
    obtain⟨c1,c2⟩:=aiM hs.1 hs.2.1 (cs:=dh s s.orders) hlen (a:=(i:Int)) (by omega) hia
    simp only[kX,h1]
    rw[au (DL hia),au c1,c2,agd (by have:=J8 (n:=s.symbols) (cs:=dh s s.orders) (a:=(i:Int));rw[fG]at this;omega) (YL h2 i),ai]
    by_cases hw:iq (rD s.symbols (dh s s.orders) i)<=9223372036854775807
    ·rw[if_pos hw]
     simp only[aI,aO,ah]
     refine⟨bQ (by have:=hs.1.2;omega),fun a h1 h2=> ?_⟩
     by_cases e:a=i
     ·subst e;exact hw
     ·exact hx a h1 (by omega)
    ·rw[if_neg hw]
     simp only[aU,aP,ah]
     exact⟨trivial,fun h=>hw (h i (by omega) hia)⟩
   ·rintro q hx
    simp only[kX]
    rw[bW (zQ (by omega)),ah]
    exact fun a h1 h2=>hx a h1 (by omega)
   ·rintro v hv
    cases v with
    |inl v=>
     obtain⟨g1,g2⟩:=hv
     simp only[dJ,ah,g1]
     exact⟨⟨fun h=>(by cases h),fun h=>absurd h.2 g2⟩,fun h=>(by cases h)⟩
    |inr v=>
     simp only[dJ,ah]
     exact⟨⟨fun _=>⟨h2,hv⟩,fun _=>trivial⟩,fun _=>h1⟩
theorem aiD {s:ay} {l:List ax} (hs:mZ s) (hl:l.length<=64) (hk:∀o∈l,lm s o/\dU o) (hcl:okL NH s.cells):
 Wq (iE s l) fun r=>(r.2=true↔WA (BG s l))/\(r.2=true->r.1=BG s l):=by
 unfold iE
 have hs':mZ ⟨s.accounts,s.symbols,l,s.cells,s.limits,s.caps,s.kill,s.last,s.seq,s.lsn⟩:=uQ hs rfl rfl rfl rfl rfl hl
 refine Wq.bind (ajr hs' hk hcl) fun r hr=>(ah _).2 ⟨hr.1,fun h=> ?_⟩
 have:=hr.2 h
 simp only[this];rfl
theorem agy {s t:ay} (hR:iZ s) (ht:mZ t) (hn1:t.accounts=s.accounts) (hn2:t.symbols=s.symbols) (hok:∀c∈t.cells,okC c) (hac:Oi s.accounts s.symbols t.cells) {a y:Int} (ha:0<=a) (ha2:a<s.accounts) (hy:0<=y) (hy2:y<s.symbols):
 kM s t a y=some (decide (KQ s t a y)):=by
 have hs:=hR.sized
 obtain⟨l1,l2,l3,l4⟩:=hs.lens
 obtain⟨m1,m2,m3,m4⟩:=ht.lens
 have hcl:t.cells.length=s.cells.length:=by
  have:=ht.2.2.1;have:=hs.2.2.1
  rw[hn1,hn2]at*
  simp only[len]at *; omega
 obtain⟨k,e1,e2,e3⟩:=KI hs a y ha ha2 hy hy2
 unfold dw at e1
 have e1:=Option.some.inj e1
 obtain⟨c1,c2⟩:=aiM hs.1 hs.2.1 (cs:=s.cells) hs.2.2.1 ha ha2
 obtain⟨d1,d2⟩:=aiM hs.1 hs.2.1 (cs:=t.cells) (by rw[<-hs.2.2.1];simp only[len];omega) ha ha2
 have ln1:=J8 (n:=s.symbols) (cs:=s.cells) (a:=a)
 have ln2:=J8 (n:=s.symbols) (cs:=t.cells) (a:=a)
 have hac':band (ile 0 a) (ilt a (len s.caps))=true:=LD (gV ha) (DL (by simp only[len];omega))
 unfold kM
 rw[au c1,c2,agd (by omega) (YL hR.ok a),ai,if_pos (hR.acct a ha ha2),au d1,d2,agd (by omega) (YL hok a),ai,if_pos (hac a ha ha2)]
 rw[e1,au (inb _ k e3),aS _ k e3,aeL (hR.ok _ (List.getElem_mem e3)),ai,au (inb _ k (by omega)),aS _ k (by omega),aeL (hok _ (List.getElem_mem _)),ai,au (inb _ k (by omega)),aS _ k (by omega),alM,ai,
  au (by rw[aW];exact .inl hac'),dP,uH,ap6]
 have hst:KQ s t a y↔AA (ofC s.cells[k]) (ofC (t.cells[k]'(by omega))) (s.limits[k]'(by omega))\/Xh (iq (rD s.symbols s.cells a)) (iq (rD s.symbols t.cells a)) (aj s.caps (itn a)):=by
  unfold KQ
  rw[<-e2,aS _ k e3,aS _ k (by omega),aS _ k (by omega)]
 by_cases hx:AA (ofC s.cells[k]) (ofC (t.cells[k]'(by omega))) (s.limits[k]'(by omega))
 ·rw[if_pos hx,ai,decide_eq_true hx,ja,decide_eq_true (hst.2 (.inl hx))]
 ·rw[if_neg hx,ai,decide_eq_false hx,dD]
  congr 1
  rw[decide_eq_decide,hst]
  exact⟨fun h=> .inr h,fun h=>h.resolve_left hx⟩
theorem apS {l:List ax} {m:Nat} (hm:m<l.length) (hl:l.length<999999) (p:ax):oV l m p=some (l.set m p):=by
 unfold oV;rw[au (gV (by simp only[len];omega)),au (inb _ m hm),JE]
theorem ahC (l:List ax):LY l↔∀i:Nat,(h:i+1<l.length)->l[i].id<l[i+1].id:=by
 constructor
 ·exact fun h i hi=>List.pairwise_iff_getElem.1 h i (i+1) (by omega) hi (by omega)
 ·intro h;refine List.pairwise_iff_getElem.2 fun i j hi hj hij=> ?_;have key:∀d:Nat,(hd:i+d+1<l.length)->l[i].id<l[i+d+1].id:=fun d=>by
   induction d with
   |zero=>exact fun hd=>h i hd
   |succ d ih=>exact fun hd=>Int.lt_trans (ih (by omega)) (h (i+d+1) (by omega))
  have e:j=i+(j - i - 1)+1:=by omega
  have:=key (j - i - 1) (by omega);simp only[<-e]at this;exact this
theorem af9 {s:ay} (hr:iW s) (hsh:rW s):Wq (lJ s) fun b=>b=true↔iZ s:=by
 obtain⟨l1,l2,l3,l4⟩:=hsh;unfold lJ;rw[dH];refine⟨fun h=>(ah _).2 ⟨fun h=>(by cases h),fun hR=> ?_⟩,fun h=> ?_⟩
 ·obtain⟨a1,a2,a3,a4,a5,a6⟩:=hR.sized;have m:=CV (a:=s.accounts) (b:=s.symbols) (by omega) (by omega) (by omega) (by omega);simp only[aH,aJ,aW,bf,aG,aF,aZ,bg,aX,bF,aK,aN,bD,bH,show cO s.accounts s.symbols=s.accounts*s.symbols from rfl,bV m.1 (show s.accounts*s.symbols<1000000000000 by omega),len]at h;simp only[len]at a3 a4 a5;omega
 have hs:mZ s:=by
  simp only[aH,aJ,aW,bf,aG,aF,aZ,bg,aX,bF,aK,aN,bD,bH,len]at h;have m:=CV (a:=s.accounts) (b:=s.symbols) (by omega) (by omega) (by omega) (by omega);rw[show cO s.accounts s.symbols=s.accounts*s.symbols from rfl,bV m.1 (by omega)]at h;unfold mZ;simp only[len];omega
 rw[dH];refine⟨fun h=>(ah _).2 ⟨fun h=>(by cases h),fun hR=> ?_⟩,fun h=> ?_⟩
 ·have b1:=hR.fine.last;have b2:=hR.fine.seq;have b3:=hR.fine.lsn;simp only[aH,aJ,aW,bf,aG,aF,aZ,bg,aX,bF,aK,aN,bD,bH]at h;omega
 simp only[aH,aJ,aW,bf,aG,aF,aZ,bg,aX,bF,aK,aN,bD,bH]at h
 refine Wq.bind (Q:=fun w:Bool ⊕ Bool=>match w with
  |.inl b=>b=false/\¬((∀o∈s.orders,lm s o/\o.id<=s.last)/\LY s.orders)
  |.inr _=>(∀o∈s.orders,lm s o/\o.id<=s.last)/\LY s.orders)
  (gu (n:=s.orders.length) (step:=fun v:Int×Bool=>kV s v.1 v.2) l1
    (fun i _=>(∀o∈s.orders.take i,lm s o/\o.id<=s.last)/\∀k:Nat,(h:k+1<s.orders.length)->k+1<i->s.orders[k].id<s.orders[k+1].id) _ ?_ ?_ _ 0 (Nat.zero_le _) (by simp)) ?_
 ·rintro i q hi ⟨g1,g2⟩;simp only[kV];rw[au (by rw[cu];simpa using hi),au (inb _ i hi),aS _ i hi,vT,ai];have hbad:∀b:Bool,(b=true↔¬(lm s s.orders[i]/\s.orders[i].id<=s.last))->b=bor (bor (bor (bor (ak (decide (sO s.orders[i]))) (ieq s.orders[i].phase 3)) (ile s.accounts s.orders[i].account)) (ile s.symbols s.orders[i].symbol)) (ilt s.last s.orders[i].id):=fun b hb=>by
   rw[Bool.eq_iff_iff,hb];unfold lm;simp only[aH,aJ,aW,bf,aG,aF,aZ,bg,aX,bF,aK,aN,bD,bH,decide_eq_false_iff_not];constructor
   ·intro h;by_cases a:sO s.orders[i]
    ·by_cases b:s.orders[i].phase=3
     ·exact .inl (.inl (.inl (.inr b)))
     ·by_cases c:s.accounts<=s.orders[i].account
      ·exact .inl (.inl (.inr c))
      ·by_cases d:s.symbols<=s.orders[i].symbol
       ·exact .inl (.inr d)
       ·exact .inr (by by_cases e:s.orders[i].id<=s.last;exact absurd ⟨⟨a,b,by omega,by omega⟩,e⟩ h;omega)
    ·exact .inl (.inl (.inl (.inl a)))
   ·rintro((((a | a) | a) | a) | a) ⟨⟨b1,b2,b3,b4⟩,b5⟩
    ·exact a b1
    ·exact b2 a
    ·omega
    ·omega
    ·omega
  by_cases hok:lm s s.orders[i]/\s.orders[i].id<=s.last
  ·rw[<-hbad false (by simp [hok])];simp only[aU,oQ,dD];by_cases h0:i=0
   ·subst h0;rw[au (by simp only[aH,aJ,aW,bf,aG,aF,aZ,bg,aX,bF,aK,aN,bD,bH];right;decide),bW (by simp only[aH,aJ,aW,bf,aG,aF,aZ,bg,aX,bF,aK,aN,bD,bH];left;decide),ah];refine⟨bQ (by omega),fun o ho=> ?_,fun k hk1 hk2=>by omega⟩;rcases(pR hi).1 ho with ho | rfl
    ·exact g1 o ho
    ·exact hok
   ·have hw:wr .i64 (aV (i:Int) 1)=((i - 1:Nat):Int):=by unfold aV;rw[bV (by omega) (by omega)];omega
    have hi1:i - 1<s.orders.length:=by omega
    rw[hw,au (by rw[aW];exact .inl (inb _ _ hi1)),aS _ _ hi1,DL (show(0:Int)<(i:Int) by omega),oQ,ajZ];have hii:s.orders[i - 1+1]'(by omega)=s.orders[i]:=by congr 1;omega
    by_cases hle:s.orders[i].id<=s.orders[i - 1].id
    ·rw[if_pos hle,ah];refine⟨rfl,fun⟨_,h2⟩=> ?_⟩;have:=(ahC _).1 h2 (i - 1) (by omega);rw[hii]at this;omega
    ·rw[if_neg hle,ah];refine⟨bQ (by omega),fun o ho=> ?_,fun k hk1 hk2=> ?_⟩
     ·rcases(pR hi).1 ho with ho | rfl
      ·exact g1 o ho
      ·exact hok
     ·by_cases e:k+1=i
      ·have e2:k=i - 1:=by omega
       subst e2;rw[hii];omega
      ·exact g2 k hk1 (by omega)
  ·rw[<-hbad true (by simp [hok])];simp only[aI,yK,aU,ja,aeH,aP];rw[ah];exact⟨rfl,fun h2=>hok (h2.1 _ (List.getElem_mem _))⟩
 ·rintro q ⟨g1,g2⟩;simp only[kV];rw[bW (by rw[cu];simp),ah];rw[List.take_length]at g1;exact⟨g1,(ahC _).2 fun k hk=>g2 k hk hk⟩
 rintro w hw;cases w with
 |inl b=>
  obtain⟨rfl,hn⟩:=hw;simp only[dJ,ah];exact⟨fun h=>(by cases h),fun hR=>absurd ⟨fun o ho=>⟨hR.fine.ords o ho,hR.fine.ids o ho⟩,hR.fine.asc⟩ hn⟩
 |inr b=>
 obtain⟨ho,has⟩:=hw;simp only[dJ];refine Wq.bind (Q:=fun w:Bool ⊕ Bool=>match w with | .inl b=>b=false/\¬∀x∈s.limits,WM x | .inr _=>∀x∈s.limits,WM x)
  (gu (n:=s.limits.length) (step:=fun v:Int×Bool=>kW s v.1 v.2) l3 (fun i _=>∀x∈s.limits.take i,WM x) _ ?_ ?_ _ 0 (Nat.zero_le _) (by simp)) ?_
 ·rintro i q hi hx;simp only[kW];rw[au (by rw[cu];simpa using hi),au (inb _ i hi),aS _ i hi,adw,ai,dP,uH];split
  ·rename_i h5;rw[ah];refine⟨bQ (by omega),fun x hx'=> ?_⟩;rcases(pR hi).1 hx' with h6 | rfl
   ·exact hx x h6
   ·exact h5
  ·rename_i h5;rw[ah];exact⟨rfl,fun h2=>h5 (h2 _ (List.getElem_mem _))⟩
 ·rintro x hx;simp only[kW];rw[bW (by rw[cu];simp),ah];rwa[List.take_length]at hx
 rintro w hw;cases w with
 |inl b=>
  obtain⟨rfl,hn⟩:=hw;simp only[dJ,ah];exact⟨fun h=>(by cases h),fun hR=>absurd hR.fine.lims hn⟩
 |inr b=>
 simp only[dJ];refine Wq.bind (Q:=fun w:Bool ⊕ Bool=>match w with | .inl b=>b=false/\¬∀x∈s.caps,0<=x | .inr _=>∀x∈s.caps,0<=x)
  (gu (n:=s.caps.length) (step:=fun v:Int×Bool=>kS s v.1 v.2) l4 (fun i _=>∀x∈s.caps.take i,0<=x) _ ?_ ?_ _ 0 (Nat.zero_le _) (by simp)) ?_
 ·rintro i q hi hx;simp only[kS];rw[au (by rw[cu];simpa using hi),au (inb _ i hi),aS _ i hi,Ea];split
  ·rename_i h5;rw[ah];exact⟨rfl,fun h2=>by have:=h2 _ (List.getElem_mem hi);omega⟩
  ·rename_i h5;rw[ah];refine⟨bQ (by omega),fun x hx'=> ?_⟩;rcases(pR hi).1 hx' with h6 | rfl
   ·exact hx x h6
   ·omega
 ·rintro x hx;simp only[kS];rw[bW (by rw[cu];simp),ah];rwa[List.take_length]at hx
 rintro v hv;cases v with
 |inl b=>
  obtain⟨rfl,hn⟩:=hv;simp only[dJ,ah];exact⟨fun h=>(by cases h),fun hR=>absurd hR.fine.caps hn⟩
 |inr b=>
 simp only[dJ];have hfine:ahV s:=⟨fun o h=>(ho o h).1,has,fun o h=>(ho o h).2,by omega,by omega,by omega,hw,hv⟩;have hall:∀o∈s.orders,lm s o/\dU o:=fun o h=>⟨(ho o h).1,hr.orders.1 o h⟩;refine Wq.bind (ajr hs hall hr.cells) fun y hy=> ?_;rw[dH];refine⟨fun h=>(ah _).2 ⟨fun h=>(by cases h),fun hR=> ?_⟩,fun h=> ?_⟩
 ·rw[aG]at h;have:y.2=true:=hy.1.2 ⟨by show ∀c∈dh s s.orders,okC c;rw[<-hR.cells];exact hR.ok,by show Oi s.accounts s.symbols (dh s s.orders);rw[<-hR.cells];exact hR.acct⟩;rw[this]at h;cases h
 rw[aF]at h;have hfit:=hy.1.1 h;have hc:=hy.2 h;rw[hc];refine Wq.bind (WY (l:=dh s s.orders) (m:=s.cells) (fG _ _) (by rw[fG];exact l2) (step:=fun v:Int×Bool=>ku (dh s s.orders) s v.1 v.2) (fun i h hh q=> ?_) (fun q=> ?_) _) fun w hw=> ?_
 ·simp only[ku];rw[au (by rw[cu];simpa using h),au (inb _ i h),au (inb _ i hh),aS _ i h,aS _ i hh,dH,ah,ah,aG,aF,bQ (by omega)];have:=aeR (dh s s.orders)[i] s.cells[i];simp only[aH,aJ,aW,bf,aG,aF,aZ,bg,aX,bF,aK,aN,bD,bH]at*;exact⟨fun h=>⟨fun e=>(by have:=this.2 e;grind),fun _=>trivial⟩,fun h=>⟨fun _=>trivial,fun e=>absurd (this.1 h) e⟩⟩
 ·simp only[ku];rw[bW (by rw[show(((dh s s.orders).length:Nat):Int)=len (dh s s.orders)from rfl];simp [ilt])]
 cases w with
 |inl w=>
  obtain⟨rfl,h⟩:=hw;simp only[dJ,ah];exact⟨fun h=>(by cases h),fun hR=>absurd hR.cells.symm h⟩
 |inr w=>
  simp only[dJ,ah];have e:s.cells=dh s s.orders:=Eq.symm hw;exact⟨fun _=>⟨hs,hfine,e,by rw[e];exact hfit.1,by rw[e];exact hfit.2⟩,fun _=>trivial⟩
theorem adL {r:dB} (h:nI r) (hk:r.kind=1):uG r=some (fK r,true):=by
 unfold uG;obtain⟨b,e,q⟩:=IG r;rw[e,q.2 h,hk]
 rfl
theorem aa9 {o:ax} {q p:Int} (h:sO o) (hr:dU o) (hq:1<=q) (hp:1<=p):
 Wq (tC o q p) fun r=>(sW o->r=(oI o q p,0))/\(¬sW o->r.2≠0):=by
 have hv:=hr.version
 unfold inI at hv
 have hpe:rO o↔o.newQty≠0:=by
  have:=h.2.2.2.2.1
  unfold rO at*
  constructor
  ·intro h1;have:=this h1;omega
  ·exact .inl
 unfold tC aB
 rw[vT,ai,decide_eq_true h,aI,dD,zQ (by omega),zQ (by omega)]
 simp only[dD]
 unfold sW
 rw[hpe,dQ]
 by_cases h1:o.version=9223372036854775807
 ·rw[if_pos h1,ah]
  exact⟨fun h=>by omega,fun _=>by simp⟩
 ·rw[if_neg h1,dH]
  refine⟨fun h2=>(ah _).2 ⟨fun h3=> ?_,fun _=>by simp⟩,fun h2=>(ah _).2 ⟨fun _=> ?_,fun h3=> ?_⟩⟩
  ·simp only[aH,aJ,aW,bf,aG,aF,aZ,bg,aX,bF,aK,aN,bD,bH]at h2
   rcases h2 with (h2 | h2) | h2
   ·omega
   ·exact absurd h2 h3.2.1
   ·rw[h3.2.2.1]at h2;cases h2
  ·rw[ng ⟨by omega,by omega⟩];rfl
  ·simp only[aH,aJ,aW,bf,aG,aF,aZ,bg,aX,bF,aK,aN,bD,bH]at h2
   exact absurd ⟨h2.1.1,by simpa using h2.1.2,h2.2,by omega⟩ h3
theorem agF {o:ax} (h:sO o) (h3:o.phase≠3):su o=some (if o.asked=true then (o,8)else (ak0 o,0)):=by
 unfold su;rw[vT,ai,decide_eq_true h,aI,aO,AB];by_cases ha:o.asked=true
 ·rw[if_pos (by simp only[aH,aJ,aW,bf,aG,aF,aZ,bg,aX,bF,aK,aN,bD,bH];exact .inl ha),if_pos ha]
 ·rw[if_neg (by simp only[aH,aJ,aW,bf,aG,aF,aZ,bg,aX,bF,aK,aN,bD,bH];rintro(h | h);exact ha h;exact h3 h),if_neg ha];rfl
theorem af4 {o:ax} {n:uX} (h:sO o) (hr:dU o) (hn:nI (DX n)) (hi:n.order=o.id) (hq:inI n.qty):
 wQ o n=some (match PZ o n.what n.qty n.price with | some p=>(p,0) | none=>(o,8)):=by
 have hq1:=hr.qty;have hf:=hr.filled
 have h1:=h.2.1;have h2:=h.2.2.1
 unfold inI at hq1 hf hq
 have hpe:rO o↔0<o.newQty:=by
  have:=h.2.2.2.2.1
  unfold rO at*
  constructor
  ·intro h1;have:=this h1;omega
  ·exact fun h=> .inl (by omega)
 unfold wQ aV aB
 obtain⟨b,e,q⟩:=IG (DX n)
 rw[vT,ai,decide_eq_true h,aI,aU,aP,show zq n=some (DX n)from rfl,ai,aP,e,q.2 hn,ai,aI,dD,dD,bW (by rw[aF,aK];exact hi)]
 rw[ng (n:=o.qty - o.filled) ⟨by omega,by omega⟩]
 simp only[AB,aH,aJ,aW,bf,aG,aF,aZ,bg,aX,bF,aK,aN,bD,bH]
 unfold PZ
 by_cases p1:o.phase=1
 ·rw[if_pos p1]
  by_cases k1:n.what=1
  ·rw[if_pos k1,if_pos ⟨p1,k1⟩];rfl
  ·rw[if_neg k1,if_neg (fun h=>k1 h.2)]
   by_cases k2:n.what=2
   ·rw[if_pos k2,if_pos (.inl ⟨p1,k2⟩),if_neg (by omega)];rfl
   ·rw[if_neg k2,if_neg (by omega),if_neg (by omega),if_neg (by omega),if_neg (by omega)]
 ·rw[if_neg p1,if_neg (by omega)]
  by_cases p2:o.phase=2
  ·rw[if_pos p2]
   by_cases k3:n.what=3
   ·rw[if_pos k3,if_neg (by omega)]
    have hn1:1<=n.qty:=by unfold nI DX at hn;simp only at hn;omega
    by_cases c1:o.qty - o.filled<n.qty
    ·rw[if_pos c1,if_neg (by omega),if_neg (by omega),if_neg (by omega)]
    ·rw[if_neg c1,if_pos ⟨⟨p2,k3⟩,by omega⟩]
     rw[ng ⟨by omega,by omega⟩]
     by_cases c2:o.filled+n.qty<o.qty
     ·rw[if_pos c2,if_pos (by omega)];rfl
     ·rw[if_neg c2,if_neg (by omega)];rfl
   ·rw[if_neg k3]
    by_cases k4:n.what=4
    ·rw[if_pos k4,if_pos (.inr ⟨p2,k4⟩),if_neg (by omega)];rfl
    ·rw[if_neg k4,if_neg (by omega),if_neg (by omega)]
     by_cases k5:n.what=5
     ·rw[if_pos k5,if_neg (by omega)]
      by_cases c1:rO o/\n.qty=o.newQty/\n.price=o.newPrice/\o.filled<n.qty
      ·rw[if_pos c1,if_pos ⟨⟨⟨⟨⟨p2,hpe.1 c1.1⟩,k5⟩,c1.2.1⟩,c1.2.2.1⟩,c1.2.2.2⟩];rfl
      ·rw[if_neg c1,if_neg fun h=>c1 ⟨hpe.2 h.1.1.1.1.2,h.1.1.2,h.1.2,h.2⟩]
     ·rw[if_neg k5]
      by_cases k6:n.what=6
      ·rw[if_pos k6]
       by_cases c1:rO o
       ·rw[if_pos c1,if_pos ⟨⟨p2,hpe.1 c1⟩,k6⟩];rfl
       ·rw[if_neg c1,if_neg (fun h=>c1 (hpe.2 h.1.2)),if_neg (by omega)]
      ·rw[if_neg k6,if_neg (by omega),if_neg (by omega)]
  ·rw[if_neg p2,if_neg (by omega),if_neg (by omega),if_neg (by omega),if_neg (by omega)]
theorem apf {s:ay} {r:dB} (hm:I8 s r) (hr:iW s) (hrr:iF r) (hk:r.kind=1\/r.kind=2):
 Wq (mG s r) fun y=>cnd (ak (ieq y.2 0)) (some (s,y.2)) (some (⟨y.1.accounts,y.1.symbols,y.1.orders,y.1.cells,y.1.limits,y.1.caps,y.1.kill,y.1.last,y.1.seq,wr .i64 (aB s.lsn 1)⟩,0))=some (doS s r):=by
 obtain⟨hR,hrec,hlsn,hacc,hsym,hord⟩:=id hm
 have hs:=hR.sized
 obtain⟨lc,ll,lcp,lo⟩:=hs.lens
 have hz:=hR.fine
 have hl0:=hz.lsn
 have hwr:wr .i64 (aB s.lsn 1)=s.lsn+1:=afs hl0.1 hlsn
 have hall:∀o∈s.orders,lm s o/\dU o:=fun o h=>⟨hz.ords o h,hr.orders.1 o h⟩
 have hrec':=hrec
 unfold nI kF at hrec'
 have bad:∀e:Int,e≠0->cnd (ak (ieq e 0)) (some (s,e)) (some ((⟨s.accounts,s.symbols,s.orders,s.cells,s.limits,s.caps,s.kill,s.last,s.seq,wr .i64 (aB s.lsn 1)⟩:ay),(0:Int)))=some (s,e):=fun e he=>by
  rw[au (by rw[aG,aN];exact he)]
 rw[hwr]
 rw[hwr]at bad
 unfold mG
 unfold doS
 rw[if_neg (fun h:¬I8 s r=>h hm)]
 by_cases k1:r.kind=1
 ·rw[if_pos k1,au (by rw[aK];exact k1),adL hrec k1,ai]
  by_cases hkill:s.kill=true
  ·rw[au hkill,ah,if_pos hkill]
   exact bad 5 (by decide)
  rw[bW (by simpa using hkill),if_neg hkill,ajZ]
  by_cases h64:s.orders.length=64
  ·rw[if_pos (by simp only[len];omega),if_pos h64,ah]
   exact bad 6 (by decide)
  rw[if_neg (by simp only[len];omega),if_neg h64,au (gV (by simp only[len];omega)),au (gV (by simp [len,aQ];omega))]
  obtain⟨ho,ho2⟩:=ZG hrec k1
  have hro:=ZB hrr
  have hmem:∀o∈aQ s.orders [fK r],lm s o/\dU o:=fun o h=>by
   rcases List.mem_append.1 h with h | h
   ·exact hall o h
   ·rw[List.mem_singleton]at h
    subst h
    exact⟨⟨ho,by simp [fK],hacc,hsym⟩,hro⟩
  have hlen:(aQ s.orders [fK r]).length<=64:=by simp [aQ];omega
  refine Wq.bind (aiD hs hlen hmem hr.cells) fun y hy=> ?_
  rw[dH]
  unfold SI
  have hfe:WA (BG s (aQ s.orders [fK r]))↔WA (⟨s.accounts,s.symbols,aQ s.orders [fK r],dh s (aQ s.orders [fK r]),s.limits,s.caps,s.kill,r.order,s.seq,s.lsn⟩:ay):=Iff.rfl
  refine⟨fun h=>(ah _).2 ?_,fun h=> ?_⟩
  ·rw[aG]at h
   have hn:¬WA (BG s (aQ s.orders [fK r])):=fun hf=>by rw[hy.1.2 hf]at h;cases h
   rw[if_pos (fun hf=>hn (hfe.2 hf))]
   exact bad 3 (by decide)
  ·rw[aF]at h
   have hfit:=hy.1.1 h
   rw[hy.2 h,if_neg (fun hf=>hf (hfe.1 hfit))]
   have ht:mZ (BG s (aQ s.orders [fK r])):=uQ hs rfl rfl (fG _ _) rfl rfl hlen
   rw[agy (t:=BG s (aQ s.orders [fK r])) hR ht rfl rfl hfit.1 hfit.2 (by omega) hacc (by omega) hsym,ai,uH]
   have hse:KQ s (BG s (aQ s.orders [fK r])) r.account r.symbol↔KQ s (⟨s.accounts,s.symbols,aQ s.orders [fK r],dh s (aQ s.orders [fK r]),s.limits,s.caps,s.kill,r.order,s.seq,s.lsn⟩:ay) r.account r.symbol:=Iff.rfl
   by_cases hst:KQ s (BG s (aQ s.orders [fK r])) r.account r.symbol
   ·rw[if_pos hst,if_pos (hse.1 hst),ah]
    exact bad 4 (by decide)
   ·rw[if_neg hst,if_neg (fun h=>hst (hse.2 h)),au (by rw[aK];exact k1),ah]
    rfl
 ·have k2:r.kind=2:=hk.resolve_left k1
  rw[if_neg k1,if_pos k2,bW (by rw[aN];exact k1),afG s r.order (by omega),ai]
  cases hf:wE s.orders r.order with
  |none=>
   rw[GL hf,au (by decide),ah]
   exact bad 7 (by decide)
  |some m=>
   obtain⟨hm1,hm2⟩:=lu hf
   have hra:1<=r.qty/\1<=r.price:=by omega
   rw[Dw hf,bW (zQ (by omega)),au (inb _ m hm1),aS _ m hm1]
   simp only[sS _ m hm1]
   have hoi:=hz.ords _ (List.getElem_mem hm1)
   have hro:=hr.orders.1 _ (List.getElem_mem hm1)
   refine Wq.bind (aa9 hoi.1 hro hra.1 hra.2) fun y hy=> ?_
   by_cases hch:sW s.orders[m]
   case neg=>
    rw[if_pos hch,au (by rw[aG,aN];exact hy.2 hch),ah]
    exact bad 8 (by decide)
   rw[if_neg (fun h:¬sW s.orders[m]=>h hch),hy.1 hch]
   simp only[kD,aI,aO]
   by_cases hkill:s.kill=true
   ·rw[au hkill,ah,if_pos hkill]
    exact bad 5 (by decide)
   rw[bW (by simpa using hkill),if_neg hkill,apS hm1 (by omega),ai]
   have hpo:=WO hoi.1 hch hra.1 hra.2
   have hpr:=Xf hro hch hrr.qty hrr.price
   have hmem:∀o∈s.orders.set m (oI s.orders[m] r.qty r.price),lm s o/\dU o:=fun o h=>by
    rcases jR h with h | rfl
    ·exact hall o h
    ·exact⟨⟨hpo,hoi.2.1,hoi.2.2.1,hoi.2.2.2⟩,hpr⟩
   have hlen:(s.orders.set m (oI s.orders[m] r.qty r.price)).length<=64:=by simp;omega
   refine Wq.bind (aiD hs hlen hmem hr.cells) fun z hz'=> ?_
   rw[dH,OT]
   unfold SI
   refine⟨fun h=>(ah _).2 ?_,fun h=> ?_⟩
   ·rw[aG]at h
    have hn:¬WA (BG s (s.orders.set m (oI s.orders[m] r.qty r.price))):=fun hf=>by rw[hz'.1.2 hf]at h;cases h
    rw[if_pos hn]
    exact bad 3 (by decide)
   ·rw[aF]at h
    have hfit:=hz'.1.1 h
    rw[hz'.2 h,if_neg (fun hf=>hf hfit)]
    have ht:mZ (BG s (s.orders.set m (oI s.orders[m] r.qty r.price))):=uQ hs rfl rfl (fG _ _) rfl rfl hlen
    show Wq (af (kM s (BG s (s.orders.set m (oI s.orders[m] r.qty r.price))) s.orders[m].account s.orders[m].symbol) _) _
    rw[agy hR ht rfl rfl hfit.1 hfit.2 hoi.1.1.2.1.1 hoi.2.2.1 hoi.1.1.2.2.1.1 hoi.2.2.2,ai,uH]
    by_cases hst:KQ s (BG s (s.orders.set m (oI s.orders[m] r.qty r.price))) s.orders[m].account s.orders[m].symbol
    ·rw[if_pos hst,if_pos hst,ah]
     exact bad 4 (by decide)
    ·rw[if_neg hst,if_neg hst,bW (by rw[aN];exact k1),ah]
     rfl
theorem alQ (l:List ax) (m:Nat) (p x:ax) (a:List ax) (c:Prop) [Decidable c] (ha:a=if c then l.eraseIdx m else l.set m p):
 (l.length≠m->(if c then (l++[x]).eraseIdx m else (l++[x]).set m p)=a++[x])/\(l.length=m->(if c then (l++[x]).eraseIdx m else (l++[x]).set m p)=if c then a else a++[p]):=by
 subst ha
 constructor
 ·intro h
  split
  ·by_cases hlt:m<l.length
   ·rw[List.eraseIdx_append_of_lt_length hlt]
   ·rw[List.eraseIdx_of_length_le (l:=l++[x]) (by simp;omega),List.eraseIdx_of_length_le (l:=l) (by omega)]
  ·by_cases hlt:m<l.length
   ·rw[List.set_append_left _ _ hlt]
   ·rw[List.set_eq_of_length_le (l:=l++[x]) (by simp;omega),List.set_eq_of_length_le (l:=l) (by omega)]
 ·intro h
  split
  ·rw[List.eraseIdx_append_of_length_le (by omega),List.eraseIdx_of_length_le (l:=l) (by omega),show m - l.length=0 by omega];simp
  ·rw[List.set_append_right _ _ (by omega),List.set_eq_of_length_le (l:=l) (by omega),show m - l.length=0 by omega];simp
theorem aoy {s:ay} {r:dB} (hm:I8 s r) (hr:iW s) (hrr:iF r) (hk:r.kind=6):
 Wq (qj s r) fun y=>cnd (ak (ieq y.2 0)) (some (s,y.2)) (some (⟨y.1.accounts,y.1.symbols,y.1.orders,y.1.cells,y.1.limits,y.1.caps,y.1.kill,y.1.last,y.1.seq,wr .i64 (aB s.lsn 1)⟩,0))=some (doS s r):=by
 have hright0:=aeS hm.1 hr hrr
 obtain⟨hR,hrec,hlsn,hacc,hsym,hord⟩:=id hm
 have hs:=hR.sized
 obtain⟨lc,ll,lcp,lo⟩:=hs.lens
 have hz:=hR.fine
 have hl0:=hz.lsn
 have hq0:=hz.seq
 have hwr:wr .i64 (aB s.lsn 1)=s.lsn+1:=afs hl0.1 hlsn
 have hall:∀o∈s.orders,lm s o/\dU o:=fun o h=>⟨hz.ords o h,hr.orders.1 o h⟩
 have hrec':=hrec
 unfold nI kF at hrec'
 rw[hwr]
 unfold qj
 unfold doS
 rw[if_neg (fun h:¬I8 s r=>h hm),if_neg (by omega),if_neg (by omega),if_neg (by omega),if_neg (by omega),if_neg (by omega)]
 have hws:wr .i64 (aV r.seq 1)=r.seq - 1:=by unfold aV;exact bV (by omega) (by omega)
 rw[hws,dP,dQ]
 by_cases c1:r.seq=s.seq+1
 case neg=>
  rw[if_neg (by omega),if_pos c1,ah];rfl
 rw[if_pos (by omega),if_neg (fun h:r.seq≠s.seq+1=>h c1),afG s r.order (by omega),ai]
 cases hf:wE s.orders r.order with
 |none=>
  rw[GL hf,au (by decide),ah];rfl
 |some m=>
  obtain⟨hm1,hm2⟩:=lu hf
  rw[Dw hf,bW (zQ (by omega)),au (inb _ m hm1),aS _ m hm1]
  simp only[sS _ m hm1]
  have hoi:=hz.ords _ (List.getElem_mem hm1)
  have hro:=hr.orders.1 _ (List.getElem_mem hm1)
  have hnote:nI (DX ⟨r.seq,r.what,r.order,r.qty,r.price⟩):=by
   refine .inr (.inr (.inr (.inr (.inr ⟨rfl,?_⟩))))
   rcases hrec with h | h | h | h | h | h
   ·omega
   ·omega
   ·omega
   ·omega
   ·omega
   ·exact⟨h.2.1,rfl,rfl,rfl,rfl,rfl,rfl,rfl,h.2.2.2.2.2.2.2.2.2⟩
  rw[af4 hoi.1 hro hnote hm2.symm hrr.qty]
  cases ht:PZ s.orders[m] r.what r.qty r.price with
  |none=>
   simp only[ai]
   rw[au (by decide),ah];rfl
  |some p=>
   simp only[ai,kD,aI,aO]
   have hd:(doS s r).1=evS s r m p:=by
    unfold doS
    rw[if_neg (fun h:¬I8 s r=>h hm),if_neg (by omega),if_neg (by omega),if_neg (by omega),if_neg (by omega),if_neg (by omega),if_neg (fun h:r.seq≠s.seq+1=>h c1)]
    simp only[hf,sS _ m hm1,ht]
   have hright:iZ (evS s r m p):=by rw[<-hd];exact hright0
   have hq3:r.what=3->1<=r.qty:=fun h=>by omega
   have hp:=agl hoi.1 hro ht hq3 (fun h=>by omega) hrr.qty hrr.price
   obtain⟨k,g1,g2,g3⟩:=abt hs hoi
   have hat:atZ s.symbols p=(k:Int):=by unfold atZ;rw[hp.account,hp.symbol];exact g2
   unfold dw at g1
   have g1:=Option.some.inj g1
   refine Wq.bind (Q:=fun l=>l=if p.phase=3 then s.orders.eraseIdx m else s.orders.set m p)
    (gu (n:=s.orders.length) (step:=fun v:Int×List ax=>jm (m:Int) p s v.1 v.2) (by omega)
      (fun i x=>x=if p.phase=3 then (s.orders.take i).eraseIdx m else (s.orders.take i).set m p) _ ?_ ?_ _ 0 (Nat.zero_le _) (by simp)) ?_
   ·rintro i x hi hx
    have hst:=alQ (s.orders.take i) m p s.orders[i] x (p.phase=3) hx
    have hlt:(s.orders.take i).length=i:=by simp;omega
    rw[hlt]at hst
    rw[<-List.take_succ_eq_append_getElem hi]at hst
    have hxl:x.length<=64:=by
     rw[hx]
     split
     ·have:=List.length_eraseIdx_le (s.orders.take i) m;omega
     ·simp;omega
    simp only[jm]
    rw[au (by rw[cu];simpa using hi),dP,dQ]
    by_cases e:i=m
    ·rw[if_pos (by omega),dP,dQ]
     rw[hst.2 e]
     by_cases h3:p.phase=3
     ·rw[if_pos h3,if_pos h3,ah]
      exact⟨bQ (by omega),rfl⟩
     ·rw[if_neg h3,if_neg h3,au (gV (by simp [aQ,len];omega)),ah]
      exact⟨bQ (by omega),rfl⟩
    ·rw[if_neg (by omega),au (inb _ i hi),aS _ i hi,au (gV (by simp [aQ,len];omega)),ah]
     exact⟨bQ (by omega),by rw[hst.1 (by omega)];rfl⟩
   ·rintro x hx
    simp only[jm]
    rw[bW (by rw[cu];simp),ah]
    simp only[List.take_length]at hx
    exact hx
   ·rintro l rfl
    have hacc':wr .i64 (aB (wr .i64 (cO p.account s.symbols)) p.symbol)=(k:Int):=by rw[hp.account,hp.symbol];exact g1
    have hmem:∀o∈(if p.phase=3 then s.orders.eraseIdx m else s.orders.set m p),lm s o/\dU o:=fun o ho=>by
     split at ho
     ·exact hall o (List.mem_of_mem_eraseIdx ho)
     ·rename_i h3
      rcases jR ho with h | rfl
      ·exact hall o h
      ·exact⟨⟨hp.ord,h3,by rw[hp.account];exact hoi.2.2.1,by rw[hp.symbol];exact hoi.2.2.2⟩,hp.rng⟩
    have hlen:(if p.phase=3 then s.orders.eraseIdx m else s.orders.set m p).length<=64:=by
     split
     ·have:=List.length_eraseIdx_le s.orders m;omega
     ·simp;omega
    have fin:∀s':ay,s'.accounts=s.accounts->s'.symbols=s.symbols->s'.limits=s.limits->s'.caps=s.caps->s'.kill=s.kill->s'.last=s.last->s'.seq=r.seq->s'.cells.length=s.cells.length->s'.orders.length<=64->okL NH s'.cells->s'.cells=(if r.what=3 then ae8 s s.orders[m] r.qty else s.cells)->
     Wq (iE s' (if p.phase=3 then s.orders.eraseIdx m else s.orders.set m p)) fun y=>cnd (ak (ieq ((y.1,(0:Int)).2) 0)) (some (s,(y.1,(0:Int)).2)) (some ((⟨y.1.accounts,y.1.symbols,y.1.orders,y.1.cells,y.1.limits,y.1.caps,y.1.kill,y.1.last,y.1.seq,s.lsn+1⟩:ay),(0:Int)))=some (evS s r m p,0):=by
     intro s' h1 h2 h3 h4 h5 h6 h7 h8 h9 h10 h11
     have hs':mZ s':=uQ hs h1 h2 h8 (by rw[h3]) (by rw[h4]) h9
     have hmem':∀o∈(if p.phase=3 then s.orders.eraseIdx m else s.orders.set m p),lm s' o/\dU o:=fun o ho=>by
      obtain⟨⟨a1,a2,a3,a4⟩,a5⟩:=hmem o ho
      exact⟨⟨a1,a2,by omega,by omega⟩,a5⟩
     refine(aiD hs' hlen hmem' h10).mono fun y hy=> ?_
     have hev:evS s r m p=⟨s.accounts,s.symbols,(if p.phase=3 then s.orders.eraseIdx m else s.orders.set m p),dh s' (if p.phase=3 then s.orders.eraseIdx m else s.orders.set m p),s.limits,s.caps,s.kill,s.last,r.seq,s.lsn+1⟩:=by
      unfold evS BG
      simp only[sS _ m hm1,OT]
      congr 1
      unfold dh
      simp only[h2,h11]
     have hfit:WA (BG s' (if p.phase=3 then s.orders.eraseIdx m else s.orders.set m p)):=by
      have a1:=hright.ok;have a2:=hright.acct
      simp only[hev]at a1 a2
      refine⟨a1,?_⟩
      show Oi s'.accounts s'.symbols _
      rw[h1,h2];exact a2
     have hy2:=hy.2 (hy.1.2 hfit)
     rw[hy2,hev]
     simp only[kD,aI,aO,BG,h1,h2,h3,h4,h5,h6,h7]
    have hck:Dh s.cells[k]:=hr.cells.1 _ (List.getElem_mem g3)
    rw[dQ]
    by_cases h3:r.what=3
    ·rw[if_pos h3,au (gV (by simp only[len];omega)),hacc']
     have hside:=hoi.1.1.2.2.2.1
     have hpk:=(hR.ok _ (List.getElem_mem g3))
     rw[hp.side,dQ]
     obtain⟨hev1,hev2⟩:=aaU hR hr m hm1 k g3 g2 hp hq3
     have hev3:=hev2 h3
     have hpos:=hev3.1.pos
     simp only at hpos
     have hmov:ae8 s s.orders[m] r.qty=s.cells.set k ⟨if s.orders[m].side=1 then s.cells[k].pos+r.qty else s.cells[k].pos - r.qty,s.cells[k].buy,s.cells[k].sell,s.cells[k].opn⟩:=by
      unfold ae8
      rw[g2,aS _ k g3,JE]
     simp only[au (inb _ k g3),aS _ k g3,JE]
     by_cases hsd:s.orders[m].side=1
     ·rw[if_pos hsd]
      rw[if_pos hsd]at hpos hmov
      have hwp:wr .i64 (aB s.cells[k].pos r.qty)=s.cells[k].pos+r.qty:=ng hpos
      rw[hwp,iQ]
      refine(fin ⟨s.accounts,s.symbols,s.orders,s.cells.set k ⟨s.cells[k].pos+r.qty,s.cells[k].buy,s.cells[k].sell,s.cells[k].opn⟩,s.limits,s.caps,s.kill,s.last,r.seq,s.lsn⟩ rfl rfl rfl rfl rfl rfl rfl (by simp) lo (UU hr.cells ⟨hpos,hck.buy,hck.sell,hck.opn⟩) (by rw[if_pos h3,hmov])).mono fun y hy=>(ah _).2 hy
     ·rw[if_neg hsd]
      rw[if_neg hsd]at hpos hmov
      have hwp:wr .i64 (aV s.cells[k].pos r.qty)=s.cells[k].pos - r.qty:=ng hpos
      rw[hwp,iQ]
      refine(fin ⟨s.accounts,s.symbols,s.orders,s.cells.set k ⟨s.cells[k].pos - r.qty,s.cells[k].buy,s.cells[k].sell,s.cells[k].opn⟩,s.limits,s.caps,s.kill,s.last,r.seq,s.lsn⟩ rfl rfl rfl rfl rfl rfl rfl (by simp) lo (UU hr.cells ⟨hpos,hck.buy,hck.sell,hck.opn⟩) (by rw[if_pos h3,hmov])).mono fun y hy=>(ah _).2 hy
    ·rw[if_neg h3,iQ]
     refine(fin ⟨s.accounts,s.symbols,s.orders,s.cells,s.limits,s.caps,s.kill,s.last,r.seq,s.lsn⟩ rfl rfl rfl rfl rfl rfl rfl rfl lo hr.cells (by rw[if_neg h3])).mono fun y hy=>(ah _).2 hy
theorem arL {s:ay} {r:dB} (hr:iW s) (hrr:iF r) (hsh:rW s):vI s r=some (doS s r):=by
 refine Wq.eq ?_;unfold vI;refine(af9 hr hsh).bind fun b0 h0=> ?_;refine Wq.bind (Q:=fun b=>b=true↔(b0=true/\nI r)) ?_ fun b1 h1=> ?_
 ·rw[dH];refine⟨fun h=>(IG r).mono fun b hb=> ?_,fun h=>(ah _).2 ?_⟩
  ·simp only[aH,aJ,aW,bf,aG,aF,aZ,bg,aX,bF,aK,aN,bD,bH]at h;rw[hb];simp [h]
  ·simp only[aH,aJ,aW,bf,aG,aF,aZ,bg,aX,bF,aK,aN,bD,bH]at h;simp [h]
 have hmay:(bor (bor (bor (bor (bor (ak b0) (ak b1)) (ile 1000000000 s.lsn)) (ile s.accounts r.account)) (ile s.symbols r.symbol)) (band (ieq r.kind 1) (ile r.order s.last))=true)↔¬I8 s r:=by
  unfold I8;simp only[aH,aJ,aW,bf,aG,aF,aZ,bg,aX,bF,aK,aN,bD,bH];rw[<-h0];constructor
  ·rintro(((((h | h) | h) | h) | h) | ⟨h,h'⟩) ⟨a1,a2,a3,a4,a5,a6⟩
   ·rw[a1]at h;cases h
   ·rw[h1.2 ⟨a1,a2⟩]at h;cases h
   ·omega
   ·omega
   ·omega
   ·have:=a6 h;omega
  ·intro h;by_cases a1:b0=true
   case neg=>exact .inl (.inl (.inl (.inl (.inl (by simpa using a1)))))
   by_cases a2:nI r
   case neg=>exact .inl (.inl (.inl (.inl (.inr (by cases e:b1 with | true=>exact absurd (h1.1 e).2 a2 | false=>rfl)))))
   by_cases a3:s.lsn<1000000000
   case neg=>exact .inl (.inl (.inl (.inr (by omega))))
   by_cases a4:r.account<s.accounts
   case neg=>exact .inl (.inl (.inr (by omega)))
   by_cases a5:r.symbol<s.symbols
   case neg=>exact .inl (.inr (by omega))
   refine .inr ?_;by_cases a6:r.kind=1
   ·exact⟨a6,by by_cases a7:s.last<r.order;exact absurd ⟨a1,a2,a3,a4,a5,fun _=>a7⟩ h;omega⟩
   ·exact absurd ⟨a1,a2,a3,a4,a5,fun h=>absurd h a6⟩ h
 rw[AB];by_cases hm:I8 s r
 case neg=>
  rw[if_pos (hmay.2 hm),ah];unfold doS;rw[if_pos hm]
 rw[if_neg (fun h=>hmay.1 h hm)];obtain⟨hR,hrec,hlsn,hacc,hsym,hord⟩:=id hm;have hs:=hR.sized;obtain⟨lc,ll,lcp,lo⟩:=hs.lens;have h1a:=hs.1;have h1b:=hs.2.1;have hz:=hR.fine;have hl0:=hz.lsn;have hwr:wr .i64 (aB s.lsn 1)=s.lsn+1:=afs hl0.1 hlsn;have hrec':=hrec;unfold nI kF at hrec';have ask:r.kind=1\/r.kind=2->Wq (af (mG s r) fun y2=>cnd (ak (ieq y2.2 0)) (some (s,y2.2)) (some (ay.mk y2.1.accounts y2.1.symbols y2.1.orders y2.1.cells y2.1.limits y2.1.caps y2.1.kill y2.1.last y2.1.seq (wr .i64 (aB s.lsn 1)),0))) fun x=>x=doS s r:=fun hk=>
  Wq.bind (apf hm hr hrr hk) fun y hy=>by rw[hy];exact(ah _).2 rfl
 rw[dQ];by_cases k1:r.kind=1
 ·rw[if_pos k1,au (by rw[aK];exact k1)];exact ask (.inl k1)
 rw[if_neg k1,dQ];by_cases k2:r.kind=2
 ·rw[if_pos k2];exact ask (.inr k2)
 rw[if_neg k2,dQ];by_cases k3:r.kind=3
 ·rw[if_pos k3,afG s r.order (by omega),ai];unfold doS;rw[if_neg (fun h:¬I8 s r=>h hm),if_neg k1,if_neg k2,if_pos k3];cases hf:wE s.orders r.order with
  |none=>rw[GL hf,au (by decide),ah]
  |some m=>
   obtain⟨hm1,hm2⟩:=lu hf;rw[Dw hf,bW (zQ (by omega)),au (inb _ m hm1),aS _ m hm1];simp only[sS _ m hm1];have hoi:=hz.ords _ (List.getElem_mem hm1);rw[agF hoi.1 hoi.2.1,ai];by_cases ha:s.orders[m].asked=true
   ·rw[if_pos ha,if_pos ha];exact(ah _).2 rfl
   ·rw[if_neg ha,if_neg ha];simp only[kD,aI,aO];rw[apS hm1 (by omega),ai,ah,hwr];rfl
 rw[if_neg k3,dQ];by_cases k4:r.kind=4
 ·rw[if_pos k4,dQ];unfold doS;rw[if_neg (fun h:¬I8 s r=>h hm),if_neg k1,if_neg k2,if_neg k3,if_pos k4];by_cases hy:r.symbol= -1
  ·rw[if_pos hy,if_pos hy,au (gV (by simp only[len];omega)),au (LD (gV (by omega)) (DL (by simp only[len];omega))),ah,hwr]
  ·rw[if_neg hy,if_neg hy,au (gV (by simp only[len];omega))];obtain⟨k,g1,g2,g3⟩:=KI hs r.account r.symbol (by omega) hacc (by omega) hsym;unfold dw at g1;have g1:=Option.some.inj g1;rw[g1,au (inb _ k (by omega)),ah,hwr,g2]
 rw[if_neg k4,dQ];by_cases k5:r.kind=5
 ·rw[if_pos k5,ah,hwr];unfold doS;rw[if_neg (fun h:¬I8 s r=>h hm),if_neg k1,if_neg k2,if_neg k3,if_neg k4,if_pos k5]
 rw[if_neg k5];exact Wq.bind (aoy hm hr hrr (by omega)) fun y hy=>by rw[hy];exact(ah _).2 rfl
theorem apW {α β:Type} (l:List α) {i:Nat} (h:i<l.length) (x y z:β):cnd (ilt (i:Int) (len l)) (cnd (band (ile 0 (i:Int)) (ilt (i:Int) (len l))) x y) z=x:=by
 rw[au (b:=ilt _ _) (DL (by unfold len;omega)),au (inb l i h)]
theorem ams {α β:Type} (l:List α) (x y:β):cnd (ilt (l.length:Int) (len l)) x y=y:=bW (zQ (by unfold len;omega))
def rH (n:Int):Nat->List Int
 |0=>[]
 |k+1=>(n / 256^k%256)::rH n k
theorem kU (n:Int):∀k,(rH n k).length=k
 |0=>rfl
 |k+1=>by rw[rH,List.length_cons,kU n k]
def CZ (l:List Int):Prop:=∀x∈l,0<=x/\x<=255
theorem xK (n:Int):∀k,CZ (rH n k)
 |0=>by intro x hx;cases hx
 |k+1=>by
  intro x hx
  rcases List.mem_cons.1 hx with rfl | hx
  ·have h1:=Int.emod_nonneg (n / 256^k) (b:=256) (by decide)
   have h2:=Int.emod_lt_of_pos (n / 256^k) (b:=256) (by decide)
   omega
  ·exact xK n k x hx
theorem CZ.app {a b:List Int} (h:CZ a) (k:CZ b):CZ (a++b):=fun x hx=>by
 rcases List.mem_append.1 hx with h1 | h1
 ·exact h x h1
 ·exact k x h1
theorem CZ.get {l:List Int} (h:CZ l) {i:Nat} (hi:i<l.length):0<=l[i]/\l[i]<=255:=h _ (List.getElem_mem hi)
theorem ai9 {α:Type} {f:α->List Int} {l:List α} (h:∀x∈l,CZ (f x)):CZ (l.flatMap f):=fun x hx=>by
 obtain⟨y,h1,h2⟩:=List.mem_flatMap.1 hx;exact h y h1 x h2
theorem MV (n:Int):wr .u8 n=n%256:=by
 unfold wr IntKind.wrap;simp [IntKind.bits,IntKind.signed]
theorem afD (n:Int):wr .u32 n=n%4294967296:=by
 unfold wr IntKind.wrap;simp [IntKind.bits,IntKind.signed]
theorem aqX {W X:Type} {step:Int×X->Option ((Int×X) ⊕ W)} {n:Nat} (hn:n<999999) (J:Nat->X->Prop) (R:W->Prop)
 (h:∀i x,i<n->J (i+1) x->Wq (step ((i:Int),x)) fun r=>match r with | .inl (k,x')=>k=(i:Int) - 1/\J i x' | .inr w=>R w)
 (he:∀x,J 0 x->Wq (step (-1,x)) fun r=>match r with | .inl _=>False | .inr w=>R w)
 (x:X) (hx:J n x):Wq (bZ step LF ((n:Int) - 1,x)) R:=by
 refine Uf (fun v:Int×X=>(v.1+1).toNat) (fun v:Int×X=>∃i:Nat,v.1=(i:Int) - 1/\i<=n/\J i v.2) R ?_ LF _ (aaw (by simp only;omega)) ⟨n,rfl,Nat.le_refl _,hx⟩
 rintro⟨k,y⟩ ⟨i,rfl,hi,hj⟩
 cases i with
 |zero=>
  refine(he y hj).mono fun r hr=> ?_
  match r,hr with
  |.inl _,hr=>exact hr.elim
  |.inr w,hr=>exact hr
 |succ i=>
  have e:((i+1:Nat):Int) - 1=(i:Int):=by omega
  rw[e]
  refine(h i y (by omega) hj).mono fun r hr=> ?_
  match r,hr with
  |.inl (k,x'),hr=>
   obtain⟨rfl,h2⟩:=hr
   exact⟨⟨i,rfl,by omega,h2⟩,by simp only;omega⟩
  |.inr w,hr=>exact hr
theorem ape {i:Nat} (h:i<1000000):wr .i64 (aV (i:Int) 1)=(i:Int) - 1:=by
 unfold aV;exact ng ⟨by omega,by omega⟩
theorem yI {α:Type} {l:List α} {n:Nat} (h:l.length<=n) (hn:n<68719476736):ile (len l) 68719476736=true:=gV (by unfold len;omega)
abbrev B32:=BitVec 32
def hB (x:B32):B32:=(x >>> 1) ^^^ (if x.getLsbD 0 then 0xedb88320#32 else 0#32)
def hN:Nat->B32->B32
 |0,x=>x
 |n+1,x=>hN n (hB x)
theorem aq3 (x y:B32):hB (x ^^^ y)=hB x ^^^ hB y:=by
 unfold hB;rw[BitVec.ushiftRight_xor_distrib,BitVec.getLsbD_xor];cases x.getLsbD 0<;>cases y.getLsbD 0<;>simp [BitVec.xor_assoc]
 ·rw[BitVec.xor_comm (y >>> 1)]
 ·rw[<-BitVec.xor_assoc (3988292384#32),BitVec.xor_comm (3988292384#32) (y >>> 1),BitVec.xor_assoc];simp
theorem am7:∀(n:Nat) (x y:B32),hN n (x ^^^ y)=hN n x ^^^ hN n y
 |0,_,_=>rfl
 |n+1,x,y=>by rw[hN,hN,hN,aq3,am7 n]
theorem aqx {y:B32} (h:y.getLsbD 31=false):hB (y <<< 1)=y:=by
 unfold hB;have h0:(y <<< 1).getLsbD 0=false:=by simp
 rw[h0];refine BitVec.eq_of_getLsbD_eq fun i hi=> ?_;simp only[BitVec.getLsbD_xor,BitVec.getLsbD_ushiftRight,BitVec.getLsbD_shiftLeft];by_cases h31:i=31
 ·subst h31;have:y[31]=false:=by simpa using h
  simp [this]
 ·have:1+i<32:=by omega
  simp [this]
theorem anl:∀(k:Nat) (y:B32),k<=32->(∀j,32 - k<=j->y.getLsbD j=false)->hN k (y <<< k)=y
 |0,y,_,_=>by simp [hN]
 |k+1,y,hk,h=>by
  have e:y <<< (k+1)=(y <<< k) <<< 1:=by rw[BitVec.shiftLeft_add]
  rw[hN,e,aqx,anl k y (by omega) fun j hj=>h j (by omega)]
  rw[BitVec.getLsbD_shiftLeft,h (31 - k) (by omega)]
  simp
theorem af6:∀(a b:Nat) (x:B32),hN (a+b) x=hN b (hN a x)
 |0,b,x=>by rw[Nat.zero_add];rfl
 |a+1,b,x=>by rw[Nat.add_right_comm,hN,hN,af6 a]
end Go.Av
