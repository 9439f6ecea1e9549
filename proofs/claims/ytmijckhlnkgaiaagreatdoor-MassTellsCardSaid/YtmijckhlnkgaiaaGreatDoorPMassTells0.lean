/- The plain law, part 0. No condition. -/
import Derived.Test.YtmijckhlnkgaiaaGreatDoorDMassTells
import Derived.KernelRfl
set_option linter.unusedVariables false
set_option linter.unusedSimpArgs false
set_option linter.unnecessarySimpa false
namespace Go.Av
open Go
theorem XF {V W:Type} {step:V->Option (V ⊕ W)} (μ:V->Nat) (I:V->Prop) (R:W->Prop)
 (h:∀v,I v->(∃v',step v=some (.inl v')/\I v'/\μ v'<μ v)\/∃w,step v=some (.inr w)/\R w):∀(n:Nat) (v:V),μ v<n->I v->∃w,bZ step n v=some w/\R w
 |0,v,hn,_=>by omega
 |n+1,v,hn,hI=>by
  rcases h v hI with ⟨v',h1,h2,h3⟩ | ⟨w,h1,h2⟩
  ·obtain⟨w,g1,g2⟩:=XF μ I R h n v' (by omega) h2
   exact⟨w,by rw[bZ,h1];exact g1,g2⟩
  ·exact⟨w,by rw[bZ,h1];rfl,h2⟩
theorem adK {n:Nat} (h:n<1000000):n<LF:=Nat.lt_trans h (by decide)
theorem Gf {n:Int} (h:inI n):wr .i64 n=n:=by
 unfold inI at h;unfold wr IntKind.wrap;simp [IntKind.bits,IntKind.signed];omega
theorem acG {n:Int} (h1: -18446744073709551616<=n) (h2:n<=18446744073709551616):
 (inI n/\wr .i64 n=n)\/(9223372036854775807<n/\wr .i64 n=n - 18446744073709551616)\/(n< -9223372036854775808/\wr .i64 n=n+18446744073709551616):=by
 unfold inI wr IntKind.wrap
 simp [IntKind.bits,IntKind.signed]
 omega
theorem zx (n:Int):wr .u64 n=n%18446744073709551616:=by
 unfold wr IntKind.wrap;simp [IntKind.bits,IntKind.signed]
theorem dL {n:Int} (h1:0<=n) (h2:n<1000000000000):wr .i64 n=n:=Gf ⟨by omega,by omega⟩
theorem aB {α:Type} {b:Bool} {x y:α} (h:b=true):cnd b x y=x:=by subst h;rfl
theorem cu {α:Type} {b:Bool} {x y:α} (h:b=false):cnd b x y=y:=by subst h;rfl
theorem J5 {α:Type} (b:Bool) (x y:α):cnd b x y=if b=true then x else y:=by cases b<;>rfl
theorem ja {α:Type} (a b:Int) (x y:α):cnd (ieq a b) x y=if a=b then x else y:=by
 by_cases h:a=b
 ·rw[if_pos h,show ieq a b=true by simp [ieq,h]];rfl
 ·rw[if_neg h,show ieq a b=false by simp [ieq,h]];rfl
theorem O7 {α:Type} (a b:Int) (x y:α):cnd (ilt a b) x y=if a<b then x else y:=by
 by_cases h:a<b
 ·rw[if_pos h,show ilt a b=true by simp [ilt,h]];rfl
 ·rw[if_neg h,show ilt a b=false by simp [ilt,h]];rfl
theorem kD {α:Type} (b:Bool) (x y:α):cnd (ak b) x y=cnd b y x:=by cases b<;>rfl
theorem CB {α:Type} (P:Prop) [Decidable P] (x y:α):cnd (decide P) x y=if P then x else y:=by
 by_cases h:P
 ·rw[if_pos h,decide_eq_true h];rfl
 ·rw[if_neg h,decide_eq_false h];rfl
instance (n:Int):Decidable (inI n):=by unfold inI;infer_instance
theorem aj {α β:Type} (a:α) (f:α->Option β):af (some a) f=f a:=rfl
theorem alh {α β:Type} (p:Prop) [Decidable p] (x y:Option α) (f:α->Option β):af (if p then x else y) f=if p then af x f else af y f:=by split<;>rfl
theorem PI {a b:Int} (h:a<b):ilt a b=true:=decide_eq_true h
theorem I9 {a b:Int} (h:¬a<b):ilt a b=false:=decide_eq_false h
theorem nC {a b:Int} (h:a<=b):ile a b=true:=decide_eq_true h
theorem Js {a b:Int} (h:¬a<=b):ile a b=false:=decide_eq_false h
theorem Kt (a:Int):ieq a a=true:=by simp [ieq]
theorem aff (a:Bool):beq a a=true:=by cases a<;>rfl
theorem ND {a b:Bool} (h1:a=true) (h2:b=true):band a b=true:=by subst h1;subst h2;rfl
theorem aZ {α:Type} [Inhabited α] (l:List α) (i:Nat) (h:i<l.length):ai l (itn (i:Int))=l[i]:=by
 simp [ai,itn,h]
theorem inb {α:Type} (l:List α) (i:Nat) (h:i<l.length):band (ile 0 (i:Int)) (ilt (i:Int) (len l))=true:=ND (nC (by omega)) (PI (by simp only[len];omega))
theorem aW (a b:Bool):(band a b=true)=(a=true/\b=true):=by cases a<;>cases b<;>simp [band]
theorem bG (a b:Bool):(band a b=false)=(a=false\/b=false):=by cases a<;>cases b<;>simp [band]
theorem bU (a b:Bool):(bor a b=true)=(a=true\/b=true):=by cases a<;>cases b<;>simp [bor]
theorem dw (a b:Bool):(bor a b=false)=(a=false/\b=false):=by cases a<;>cases b<;>simp [bor]
theorem aX (a:Bool):(ak a=true)=(a=false):=by cases a<;>simp [ak]
theorem aU (a:Bool):(ak a=false)=(a=true):=by cases a<;>simp [ak]
theorem cZ (a b:Int):(ilt a b=true)=(a<b):=by simp [ilt]
theorem dn (a b:Int):(ilt a b=false)=(b<=a):=by simp [ilt]
theorem bJ (a b:Int):(ile a b=true)=(a<=b):=by simp [ile]
theorem dA (a b:Int):(ile a b=false)=(b<a):=by simp [ile]
theorem bf (a b:Int):(ieq a b=true)=(a=b):=by simp [ieq]
theorem bn (a b:Int):(ieq a b=false)=(a≠b):=by simp [ieq]
theorem dG (a b:Bool):(beq a b=true)=(a=b):=by simp [beq]
theorem dK (a b:Bool):(beq a b=false)=(a≠b):=by simp [beq]
theorem ajI (a b:List UInt8):(seq a b=true)=(a=b):=by simp [seq]
theorem alz (a b:List UInt8):(seq a b=false)=(a≠b):=by simp [seq]
def Wq {α:Type} (o:Option α) (Q:α->Prop):Prop:=∃a,o=some a/\Q a
theorem ah {α:Type} {Q:α->Prop} (a:α):Wq (some a) Q↔Q a:=⟨fun⟨_,h,q⟩=>by cases h;exact q,fun h=>⟨a,rfl,h⟩⟩
theorem gy {α:Type} {Q:α->Prop} (c:Bool) (x y:Option α):Wq (cnd c x y) Q↔(c=true->Wq x Q)/\(c=false->Wq y Q):=by
 cases c<;>simp [cnd]
theorem qB {α β:Type} {Q:β->Prop} (o:Option α) (f:α->Option β):Wq (af o f) Q↔Wq o fun a=>Wq (f a) Q:=by
 cases o with
 |none=>simp [af,Wq]
 |some a=>simp [af,ah]
theorem Wq.mono {α:Type} {Q R:α->Prop} {o:Option α} (h:Wq o Q) (hq:∀a,Q a->R a):Wq o R:=by
 obtain⟨a,e,q⟩:=h;exact⟨a,e,hq a q⟩
theorem Wq.bind {α β:Type} {Q:α->Prop} {R:β->Prop} {o:Option α} {f:α->Option β} (h:Wq o Q) (hq:∀a,Q a->Wq (f a) R):Wq (af o f) R:=(qB o f).2 (h.mono hq)
theorem Wq.eq {α:Type} {o:Option α} {a:α} (h:Wq o fun x=>x=a):o=some a:=by obtain⟨x,e,rfl⟩:=h;exact e
theorem Wq.dec {o:Option Bool} {P:Prop} [Decidable P] (h:Wq o fun b=>b=true↔P):o=some (decide P):=by
 obtain⟨b,e,q⟩:=h;rw[e];congr 1;cases b<;>simp_all
theorem YR {V W:Type} {step:V->Option (V ⊕ W)} (μ:V->Nat) (I:V->Prop) (R:W->Prop)
 (h:∀v,I v->Wq (step v) fun r=>match r with | .inl v'=>I v'/\μ v'<μ v | .inr w=>R w) (n:Nat) (v:V) (hn:μ v<n) (hi:I v):Wq (bZ step n v) R:=
 XF μ I R (fun v hv=>by
  obtain⟨r,e,q⟩:=h v hv
  match r,e,q with
  |.inl v',e,q=>exact .inl ⟨v',e,q.1,q.2⟩
  |.inr w,e,q=>exact .inr ⟨w,e,q⟩) n v hn hi
theorem dH {i:Nat} (h:i<1000000):wr .i64 (aF (i:Int) 1)=((i+1:Nat):Int):=by
 unfold aF;rw[dL (by omega) (by omega)];omega
theorem dS {α:Type} (l:List α) (i:Nat):ilt (i:Int) (len l)=decide (i<l.length):=by
 simp [ilt,len]
theorem lH {W X:Type} {step:Int×X->Option ((Int×X) ⊕ W)} {n:Nat} (hn:n<999999) (J:Nat->X->Prop) (R:W->Prop)
 (h:∀i x,i<n->J i x->Wq (step ((i:Int),x)) fun r=>match r with | .inl (k,x')=>k=((i+1:Nat):Int)/\J (i+1) x' | .inr w=>R w)
 (he:∀x,J n x->Wq (step ((n:Int),x)) fun r=>match r with | .inl _=>False | .inr w=>R w)
 (x:X) (i0:Nat) (hi0:i0<=n) (hx:J i0 x):Wq (bZ step LF ((i0:Int),x)) R:=by
 refine YR (fun v:Int×X=>n - v.1.toNat) (fun v:Int×X=>∃i:Nat,v.1=(i:Int)/\i<=n/\J i v.2) R ?_ LF _ (adK (by simp only;omega)) ⟨i0,rfl,hi0,hx⟩
 rintro⟨k,y⟩ ⟨i,rfl,hi,hj⟩
 by_cases hlt:i<n
 ·refine(h i y hlt hj).mono fun r hr=> ?_
  match r,hr with
  |.inl (k,x'),hr=>
   obtain⟨rfl,h2⟩:=hr
   exact⟨⟨i+1,rfl,hlt,h2⟩,by simp only[Int.toNat_natCast];omega⟩
  |.inr w,hr=>exact hr
 ·obtain rfl:i=n:=by omega
  refine(he y hj).mono fun r hr=> ?_
  match r,hr with
  |.inl _,hr=>exact hr.elim
  |.inr w,hr=>exact hr
theorem uO {α:Type} {l:List α} (h:l.length<1000000):zM l=some l:=by
 unfold zM;rw[Nat.ble_eq_true_of_le (by omega)];rfl
theorem aV {α:Type} (x y:α):cnd true x y=x:=rfl
theorem aQ {α:Type} (x y:α):cnd false x y=y:=rfl
theorem aJ:ak true=false:=rfl
theorem aY:ak false=true:=rfl
theorem zO (b:Bool):band true b=b:=rfl
theorem U4 (b:Bool):band false b=false:=rfl
theorem ql (b:Bool):bor true b=true:=rfl
theorem dW (b:Bool):bor false b=b:=rfl
theorem mM:ieq 0 0=true:=rfl
theorem yE:ieq 3 0=false:=rfl
theorem wG {α:Type} (l:List α) (i:Nat) (x:α):(cO l i x).length=l.length:=by simp [cO]
theorem EK (i:Nat):itn (i:Int)=i:=by simp [itn]
theorem lJ {a b:Int} (ha:inI a) (hb:inI b):nM a b=some (if inI (a+b)then (a+b,0)else (0,3)):=by
 unfold inI at ha hb;unfold nM aF;rcases acG (n:=a+b) (by omega) (by omega)with ⟨h,e⟩ | ⟨h,e⟩ | ⟨h,e⟩<;>rw[e,J5]<;>simp only[aW,bG,bU,dw,aX,aU,cZ,dn,bJ,dA,bf,bn,dG,dK]
 ·rw[if_pos h,if_neg];rintro⟨h1,h2⟩;unfold inI at h;exact h1 (decide_eq_decide.2 (by omega))
 ·rw[if_pos,if_neg (by unfold inI;omega)];exact⟨fun h1=>by have:=decide_eq_decide.1 h1;omega,by omega⟩
 ·rw[if_pos,if_neg (by unfold inI;omega)];exact⟨fun h1=>by have:=decide_eq_decide.1 h1;omega,by omega⟩
theorem Dv {a b:Int} (ha:inI a) (hb:inI b):vz a b=some (if inI (a - b)then (a - b,0)else (0,3)):=by
 unfold inI at ha hb;unfold vz aS;rcases acG (n:=a - b) (by omega) (by omega)with ⟨h,e⟩ | ⟨h,e⟩ | ⟨h,e⟩<;>rw[e,J5]<;>simp only[aW,bG,bU,dw,aX,aU,cZ,dn,bJ,dA,bf,bn,dG,dK]
 ·rw[if_pos h,if_neg];rintro⟨h1,h2⟩;unfold inI at h;exact h1 (decide_eq_decide.2 (by omega))
 ·rw[if_pos,if_neg (by unfold inI;omega)];exact⟨fun h1=>by have:=decide_eq_decide.1 h1;omega,by omega⟩
 ·rw[if_pos,if_neg (by unfold inI;omega)];exact⟨fun h1=>by have:=decide_eq_decide.1 h1;omega,by omega⟩
theorem XT (a b:Int):GY a b=some (max a b):=by
 unfold GY imax;congr 1;by_cases h:b>a
 ·rw[if_pos h];omega
 ·rw[if_neg h];omega
theorem half (n:Int) (h1:0<=n) (h2:n<18446744073709551616):∃a b:Int,n=a*4294967296+b/\0<=a/\a<4294967296/\0<=b/\b<4294967296/\bI .u64 n 32=a/\wr .u64 (lK .u64 n 4294967295)=b:=by
 refine⟨n / 4294967296,n%4294967296,by omega,by omega,by omega,by omega,by omega,?_,?_⟩
 ·unfold bI;have:min (Int.toNat 32) (IntKind.bits .u64)=32:=by decide
  rw[this,Int.fdiv_eq_ediv_of_nonneg _ (by decide)]
  rfl
 ·unfold lK;rw[zx];have e:(BitVec.ofInt (IntKind.bits .u64) n &&& BitVec.ofInt (IntKind.bits .u64) 4294967295).toNat=n.toNat%4294967296:=by
   rw[BitVec.toNat_and];have:(BitVec.ofInt (IntKind.bits .u64) 4294967295).toNat=2^32 - 1:=by decide
   rw[this,Nat.and_two_pow_sub_one_eq_mod];rw[BitVec.toNat_ofInt];congr 1;have:(n%(2^(IntKind.bits .u64):Nat))=n:=Int.emod_eq_of_lt h1 (by simpa [IntKind.bits] using h2);rw[this]
  rw[e];omega
theorem ahR {x y:Int} (hx:0<=x) (hx2:x<18446744073709551616) (hy:0<=y) (hy2:y<18446744073709551616):
 og x y=some (x*y / 18446744073709551616,x*y%18446744073709551616):=by
 obtain⟨a,b,e1,a1,a2,b1,b2,s1,s2⟩:=half x hx hx2
 obtain⟨c,d,e2,c1,c2,d1,d2,t1,t2⟩:=half y hy hy2
 unfold og
 rw[s1,s2,t1,t2]
 unfold eF aF
 have m1:0<=a*c/\a*c<=4294967295*4294967295:=⟨Int.mul_nonneg a1 c1,Int.mul_le_mul (by omega) (by omega) c1 (by omega)⟩
 have m2:0<=a*d/\a*d<=4294967295*4294967295:=⟨Int.mul_nonneg a1 d1,Int.mul_le_mul (by omega) (by omega) d1 (by omega)⟩
 have m3:0<=b*c/\b*c<=4294967295*4294967295:=⟨Int.mul_nonneg b1 c1,Int.mul_le_mul (by omega) (by omega) c1 (by omega)⟩
 have m4:0<=b*d/\b*d<=4294967295*4294967295:=⟨Int.mul_nonneg b1 d1,Int.mul_le_mul (by omega) (by omega) d1 (by omega)⟩
 have mm:x*y=a*c*18446744073709551616+(a*d+b*c)*4294967296+b*d:=by
  subst e1 e2
  simp only[Int.add_mul,Int.mul_add]
  have q1:a*4294967296*(c*4294967296)=a*c*18446744073709551616:=by
   rw[Int.mul_assoc,Int.mul_left_comm 4294967296,<-Int.mul_assoc,<-Int.mul_assoc];omega
  have q2:a*4294967296*d=a*d*4294967296:=by rw[Int.mul_assoc,Int.mul_comm 4294967296,<-Int.mul_assoc]
  have q3:b*(c*4294967296)=b*c*4294967296:=by rw[<-Int.mul_assoc]
  rw[q1,q2,q3];omega
 rw[mm]
 generalize a*c=p at*
 generalize a*d=q at*
 generalize b*c=r at*
 generalize b*d=t at*
 have sh:∀n:Int,0<=n->n<18446744073709551616->bI .u64 n 32=n / 4294967296:=fun n h1 h2=>by
  obtain⟨u,v,h3,h4,h5,h6,h7,h8,_⟩:=half n h1 h2
  rw[h8];omega
 have la:∀n:Int,0<=n->n<18446744073709551616->wr .u64 (lK .u64 n 4294967295)=n%4294967296:=fun n h1 h2=>by
  obtain⟨u,v,h3,h4,h5,h6,h7,_,h8⟩:=half n h1 h2
  rw[h8];omega
 simp only[zx p,zx q,zx r,zx t]
 rw[Int.emod_eq_of_lt (a:=p) m1.1 (by omega),Int.emod_eq_of_lt (a:=q) m2.1 (by omega),Int.emod_eq_of_lt (a:=r) m3.1 (by omega),Int.emod_eq_of_lt (a:=t) m4.1 (by omega)]
 rw[sh t m4.1 (by omega)]
 rw[zx (q+t / 4294967296),Int.emod_eq_of_lt (a:=q+t / 4294967296) (by omega) (by omega)]
 rw[sh (q+t / 4294967296) (by omega) (by omega),la (q+t / 4294967296) (by omega) (by omega)]
 rw[zx (p+_),Int.emod_eq_of_lt (a:=p+(q+t / 4294967296) / 4294967296) (by omega) (by omega)]
 rw[zx ((q+t / 4294967296)%4294967296+r),Int.emod_eq_of_lt (a:=(q+t / 4294967296)%4294967296+r) (by omega) (by omega)]
 rw[sh _ (by omega) (by omega)]
 rw[zx,zx]
 congr 2<;>omega
theorem VI {a:Int} (ha:inI a):DI a=some (a.natAbs:Int):=by
 unfold inI at ha;unfold DI aS;rw[J5];simp only[cZ,zx];split
 ·congr 1;omega
 ·congr 1;omega
theorem XM {a b:Int} (ha:inI a) (hb:inI b):G7 a b=some (if inI (a*b)then (a*b,0)else (0,3)):=by
 unfold G7;rw[VI ha,VI hb,aj,aj,ahR (by omega) (by unfold inI at ha;omega) (by omega) (by unfold inI at hb;omega),aj];have hm:(a.natAbs:Int)*(b.natAbs:Int)=((a*b).natAbs:Int):=by rw[Int.natAbs_mul];rfl
 have hn:(a.natAbs:Int)*(b.natAbs:Int)<=9223372036854775808*9223372036854775808:=Int.mul_le_mul (by unfold inI at ha;omega) (by unfold inI at hb;omega) (by omega) (by omega);rw[hm]at hn ⊢;have hs:(decide (a<0)=decide (b<0)->0<=a*b)/\(decide (a<0)≠decide (b<0)->a*b<=0):=by
  constructor
  ·intro h;by_cases h1:a<0
   ·have h2:b<0:=by simpa [h1] using h
    exact Int.mul_nonneg_of_nonpos_of_nonpos (by omega) (by omega)
   ·have h2:¬b<0:=by simpa [h1] using h
    exact Int.mul_nonneg (by omega) (by omega)
  ·intro h;by_cases h1:a<0
   ·have h2:¬b<0:=by simpa [h1] using h
    exact Int.mul_nonpos_of_nonpos_of_nonneg (by omega) (by omega)
   ·have h2:b<0:=by simpa [h1] using h
    exact Int.mul_nonpos_of_nonneg_of_nonpos (by omega) (by omega)
 generalize a*b=p at*;simp only[J5,aW,bG,bU,dw,aX,aU,cZ,dn,bJ,dA,bf,bn,dG,dK,aS,zx,ne_eq];unfold ilt at*;by_cases hd:decide (a<0)=decide (b<0)
 ·have hp:=hs.1 hd;rw[if_neg (fun h=>h.1.2 hd)];by_cases hr:p<=9223372036854775807
  ·rw[if_pos (by omega),if_pos ⟨by omega,by omega⟩,Gf ⟨by omega,by omega⟩];congr 2;omega
  ·rw[if_neg (by omega),if_neg (by unfold inI;omega)]
 ·have hp:=hs.2 hd;by_cases hr: -9223372036854775808<=p
  ·rw[if_pos ⟨⟨by omega,hd⟩,by omega⟩,if_pos ⟨by omega,by omega⟩];congr 2;rcases acG (n:=(0 - ((p.natAbs:Int)%18446744073709551616))%18446744073709551616) (by omega) (by omega)with ⟨h,e⟩ | ⟨h,e⟩ | ⟨h,e⟩<;>rw[e]<;>unfold inI at* <;>omega
  ·rw[if_neg (by omega),if_neg (by omega),if_neg (by unfold inI;omega)]
def qI (n:Int):Prop:=1<=n/\n<=1000000000000
def vZ (r:bV):Prop:=
 (r.kind=1/\qI r.order/\(0<=r.account/\r.account<8)/\(0<=r.symbol/\r.symbol<8)/\(r.side=1\/r.side=2)/\1<=r.qty/\1<=r.price/\r.long=0/\r.short=0/\r.opn=0/\r.on=false/\r.seq=0/\r.what=0)\/
 (r.kind=2/\qI r.order/\r.account=0/\r.symbol=0/\r.side=0/\1<=r.qty/\1<=r.price/\r.long=0/\r.short=0/\r.opn=0/\r.on=false/\r.seq=0/\r.what=0)\/
 (r.kind=3/\qI r.order/\r.account=0/\r.symbol=0/\r.side=0/\r.qty=0/\r.price=0/\r.long=0/\r.short=0/\r.opn=0/\r.on=false/\r.seq=0/\r.what=0)\/
 (r.kind=4/\r.order=0/\(0<=r.account/\r.account<8)/\((r.symbol= -1/\r.long=0/\r.short=0)\/(0<=r.symbol/\r.symbol<8))/\r.side=0/\r.qty=0/\r.price=0/\0<=r.long/\0<=r.short/\0<=r.opn/\r.on=false/\r.seq=0/\r.what=0)\/
 (r.kind=5/\r.order=0/\r.account=0/\r.symbol=0/\r.side=0/\r.qty=0/\r.price=0/\r.long=0/\r.short=0/\r.opn=0/\r.seq=0/\r.what=0)\/
 (r.kind=6/\qI r.order/\r.account=0/\r.symbol=0/\r.side=0/\r.long=0/\r.short=0/\r.opn=0/\r.on=false/\(1<=r.seq/\r.seq<=1000000000)/\
   ((r.what=3/\1<=r.qty/\r.price=0)\/(r.what=5/\1<=r.qty/\1<=r.price)\/((r.what=1\/r.what=2\/r.what=4\/r.what=6)/\r.qty=0/\r.price=0)))
theorem ahB (a b c:Int):(0<=iq (iq a b) c)↔0<=a/\0<=b/\0<=c:=by
 unfold iq;split<;>split<;>omega
theorem abr (r:bV):Wq (EQ r) fun b=>b=true↔qI r.order/\(1<=r.seq/\r.seq<=1000000000)/\
 ((r.what=3/\1<=r.qty/\r.price=0)\/(r.what=5/\1<=r.qty/\1<=r.price)\/((r.what=1\/r.what=2\/r.what=4\/r.what=6)/\r.qty=0/\r.price=0)):=by
 unfold EQ lF l7
 by_cases h1:1<=r.seq/\r.seq<=1000000000
 ·rw[aB (b:=ak (bor (ilt r.seq 1) (ilt 1000000000 r.seq))) (by simp only[aW,bG,bU,dw,aX,aU,cZ,dn,bJ,dA,bf,bn,dG,dK];omega),aj]
  by_cases h2:qI r.order
  ·rw[show band (ile 1 r.order) (ile r.order 1000000000000)=true by simp only[aW,bG,bU,dw,aX,aU,cZ,dn,bJ,dA,bf,bn,dG,dK];exact h2,cu (by simp only[aW,bG,bU,dw,aX,aU,cZ,dn,bJ,dA,bf,bn,dG,dK];exact⟨by omega,trivial⟩)]
   by_cases k3:r.what=3
   ·rw[aB (by rw[bf];exact k3),ah];simp only[h1,h2,true_and,aW,bG,bU,dw,aX,aU,cZ,dn,bJ,dA,bf,bn,dG,dK];omega
   rw[cu (by rw[bn];exact k3)]
   by_cases k5:r.what=5
   ·rw[aB (by rw[bf];exact k5),aj,ah];simp only[h1,h2,true_and,aW,bG,bU,dw,aX,aU,cZ,dn,bJ,dA,bf,bn,dG,dK];omega
   rw[cu (by rw[bn];exact k5)]
   by_cases k1:r.what=1
   ·rw[aB (by rw[bf];exact k1),aB (by rw[bf];exact k1),ah];simp only[h1,h2,true_and,aW,bG,bU,dw,aX,aU,cZ,dn,bJ,dA,bf,bn,dG,dK];omega
   rw[cu (by rw[bn];exact k1)]
   by_cases k2:r.what=2
   ·rw[aB (by rw[bf];exact k2),aB (by rw[bf];exact k2),ah];simp only[h1,h2,true_and,aW,bG,bU,dw,aX,aU,cZ,dn,bJ,dA,bf,bn,dG,dK];omega
   rw[cu (by rw[bn];exact k2)]
   by_cases k4:r.what=4
   ·rw[aB (by rw[bf];exact k4),aB (by rw[bf];exact k4),ah];simp only[h1,h2,true_and,aW,bG,bU,dw,aX,aU,cZ,dn,bJ,dA,bf,bn,dG,dK];omega
   rw[cu (by rw[bn];exact k4)]
   by_cases k6:r.what=6
   ·rw[aB (by rw[bf];exact k6),ah];simp only[h1,h2,true_and,aW,bG,bU,dw,aX,aU,cZ,dn,bJ,dA,bf,bn,dG,dK];omega
   rw[cu (by rw[bn];exact k6),ah]
   simp only[h1,h2,true_and,Bool.false_eq_true,false_iff];omega
  ·rw[show band (ile 1 r.order) (ile r.order 1000000000000)=false by simp only[aW,bG,bU,dw,aX,aU,cZ,dn,bJ,dA,bf,bn,dG,dK];unfold qI at h2;omega,aB (by simp only[aW,bG,bU,dw,aX,aU,cZ,dn,bJ,dA,bf,bn,dG,dK,or_true]),ah]
   simp [h2]
 ·rw[cu (b:=ak (bor (ilt r.seq 1) (ilt 1000000000 r.seq))) (by simp only[aW,bG,bU,dw,aX,aU,cZ,dn,bJ,dA,bf,bn,dG,dK];omega),aj,aB (by simp only[aW,bG,bU,dw,aX,aU,cZ,dn,bJ,dA,bf,bn,dG,dK,or_true]),ah]
  simp [h1]
theorem xG (r:bV):Wq (oK r) fun b=>b=true↔vZ r:=by
 unfold oK Il;obtain⟨ev,he,hq⟩:=abr r;by_cases k1:r.kind=1
 ·have e1:ieq r.kind 1=true:=by rw[bf];exact k1
  simp only[e1,aV,aj];simp only[qB,gy,ah,aW,bG,bU,dw,aX,aU,cZ,dn,bJ,dA,bf,bn,dG,dK,true_implies,ne_eq,not_true_eq_false,false_implies,and_true,true_and,or_self,reduceCtorEq,lF,l9,l7,vZ,qI];grind
 have e1:ieq r.kind 1=false:=by rw[bn];exact k1
 by_cases k2:r.kind=2
 ·have e2:ieq r.kind 2=true:=by rw[bf];exact k2
  simp only[e1,e2,aV,aQ,aj];simp only[qB,gy,ah,aW,bG,bU,dw,aX,aU,cZ,dn,bJ,dA,bf,bn,dG,dK,true_implies,ne_eq,not_true_eq_false,false_implies,and_true,true_and,or_self,reduceCtorEq,lF,l9,l7,vZ,qI];grind
 have e2:ieq r.kind 2=false:=by rw[bn];exact k2
 by_cases k3:r.kind=3
 ·have e3:ieq r.kind 3=true:=by rw[bf];exact k3
  simp only[e1,e2,e3,aV,aQ,aj];simp only[qB,gy,ah,aW,bG,bU,dw,aX,aU,cZ,dn,bJ,dA,bf,bn,dG,dK,true_implies,ne_eq,not_true_eq_false,false_implies,and_true,true_and,or_self,reduceCtorEq,lF,l9,l7,vZ,qI];grind
 have e3:ieq r.kind 3=false:=by rw[bn];exact k3
 by_cases k4:r.kind=4
 ·have e4:ieq r.kind 4=true:=by rw[bf];exact k4
  simp only[e1,e2,e3,e4,aV,aQ,aj];simp only[qB,gy,ah,aW,bG,bU,dw,aX,aU,cZ,dn,bJ,dA,bf,bn,dG,dK,true_implies,ne_eq,not_true_eq_false,false_implies,and_true,true_and,or_self,reduceCtorEq,lF,l9,l7,vZ,qI,ahB];grind
 have e4:ieq r.kind 4=false:=by rw[bn];exact k4
 by_cases k5:r.kind=5
 ·have e5:ieq r.kind 5=true:=by rw[bf];exact k5
  simp only[e1,e2,e3,e4,e5,aV,aQ,aj];simp only[qB,gy,ah,aW,bG,bU,dw,aX,aU,cZ,dn,bJ,dA,bf,bn,dG,dK,true_implies,ne_eq,not_true_eq_false,false_implies,and_true,true_and,or_self,reduceCtorEq,lF,l9,l7,vZ,qI];grind
 have e5:ieq r.kind 5=false:=by rw[bn];exact k5
 by_cases k6:r.kind=6
 ·have e6:ieq r.kind 6=true:=by rw[bf];exact k6
  simp only[e1,e2,e3,e4,e5,e6,aV,aQ,aj,he];simp only[qB,gy,ah,aW,bG,bU,dw,aX,aU,cZ,dn,bJ,dA,bf,bn,dG,dK,true_implies,ne_eq,not_true_eq_false,false_implies,and_true,true_and,or_self,reduceCtorEq,vZ,hq];grind
 have e6:ieq r.kind 6=false:=by rw[bn];exact k6
 simp only[e1,e2,e3,e4,e5,e6,aV,aQ,aj];simp only[qB,gy,ah,aW,bG,bU,dw,aX,aU,cZ,dn,bJ,dA,bf,bn,dG,dK,true_implies,ne_eq,not_true_eq_false,false_implies,and_true,true_and,or_self,reduceCtorEq,vZ];grind
def NR (o:au):Prop:=(1<=o.id/\o.id<=1000000000000)/\(0<=o.account/\o.account<8)/\(0<=o.symbol/\o.symbol<8)/\(o.side=1\/o.side=2)/\1<=o.qty/\1<=o.price
theorem Xc (o:au):Wq (AQ o) fun b=>b=true↔NR o:=by
 unfold AQ;rw[qB];refine(xG _).mono fun b hb=> ?_;rw[ah,hb];simp [vZ,NR,qI]
def rZ (o:au):Prop:=o.newQty≠0\/o.newPrice≠0
instance (o:au):Decidable (rZ o):=by unfold rZ;infer_instance
instance (o:au):Decidable (NR o):=by unfold NR;infer_instance
theorem I5 (o:au):Wq (gV o) fun b=>b=true↔rZ o:=by
 unfold gV;simp only[ah,bU,aX,bn,rZ]
theorem BF (o:au):gV o=some (decide (rZ o)):=(I5 o).dec
def rG (o:au):Prop:=NR o/\0<=o.filled/\o.filled<=o.qty/\0<=o.version/\(rZ o->1<=o.newQty/\1<=o.newPrice)/\
 ((o.phase=1/\o.filled=0/\o.version=0/\¬rZ o)\/(o.phase=2/\o.filled<o.qty)\/(o.phase=3/\¬rZ o))
instance (o:au):Decidable (rG o):=by unfold rG;infer_instance
theorem WY (o:au):Wq (fM o) fun b=>b=true↔rG o:=by
 unfold fM;rw[qB];refine(I5 o).mono fun p hp=> ?_;rw[qB];refine(Xc o).mono fun b hb=> ?_;unfold rG;rw[<-hp,<-hb];have hm:(iq o.newQty o.newPrice<1)↔¬(1<=o.newQty/\1<=o.newPrice):=by unfold iq;split<;>omega
 simp only[qB,gy,ah,aW,bG,bU,dw,aX,aU,cZ,dn,bJ,dA,bf,bn,dG,dK,hm];cases p<;>cases b<;>simp<;>omega
theorem jo (o:au):fM o=some (decide (rG o)):=(WY o).dec
def jV (o:au):Int:=if o.phase=3 then 0 else max o.qty o.newQty - o.filled
def gG (o:au):Int:=if o.phase=3 then 0 else if o.newQty<=o.filled then (o.qty - o.filled)*o.price else max ((o.qty - o.filled)*o.price) ((o.newQty - o.filled)*o.newPrice)
theorem Dl {o:au} (h:rG o) (hr:fA o):0<=jV o/\jV o<=9223372036854775807:=by
 obtain⟨_,h1,h2,_⟩:=h;have:=hr.qty.2;have:=hr.newQty.2;unfold jV;split<;>omega
theorem ada {o:au} (h:rG o) (hn:o.filled<o.newQty):1<=o.newPrice:=by
 obtain⟨_,h1,h2,_,h4,_⟩:=h;exact(h4 (.inl (by omega))).2
theorem Dq {o:au} (h:rG o):0<=gG o:=by
 have hp:=h.1.2.2.2.2.2;have hf:=h.2.2.1;unfold gG;split
 ·omega
 ·have m:0<=(o.qty - o.filled)*o.price:=Int.mul_nonneg (by omega) (by omega);split<;>omega
theorem P5 {o:au} (h:rG o) (hr:fA o):qO o=some (jV o):=by
 have hb:=Dl h hr;unfold qO;rw[jo,aj,decide_eq_true h,XT,aj];unfold jV at*;rw[aJ,dW,ja];split
 ·rfl
 ·rename_i hp;rw[if_neg hp]at hb;unfold aS;rw[Gf ⟨by omega,by omega⟩]
theorem Nc {o:au} (h:rG o) (hr:fA o):wI o=some (if gG o<=9223372036854775807 then (gG o,0)else (0,3)):=by
 have hp:=h.1.2.2.2.2.2;have hf:=h.2.2.1;have hf0:=h.2.1;have rq:=hr.qty;have rp:=hr.price;have rf:=hr.filled;have rn:=hr.newQty;have rnp:=hr.newPrice;unfold inI at rq rf rn;unfold wI;rw[jo,aj,decide_eq_true h,aJ,aQ,ja];unfold gG;split
 ·rw[if_pos (by omega)]
 ·unfold aS;rw[Gf ⟨by omega,by omega⟩,XM ⟨by omega,by omega⟩ rp,aj];have m:0<=(o.qty - o.filled)*o.price:=Int.mul_nonneg (by omega) (by omega);generalize (o.qty - o.filled)*o.price=a at*;rw[J5];simp only[aW,bG,bU,dw,aX,aU,cZ,dn,bJ,dA,bf,bn,dG,dK];by_cases hn:o.newQty<=o.filled
  ·rw[if_pos (.inr hn),if_pos hn];by_cases ha:a<=9223372036854775807
   ·rw[if_pos (c:=inI a) ⟨by omega,ha⟩,if_pos ha]
   ·rw[if_neg (c:=inI a) (by unfold inI;omega),if_neg ha]
  ·rw[if_neg hn];have hnp:=ada h (by omega);rw[Gf ⟨by omega,by omega⟩,XM ⟨by omega,by omega⟩ rnp,aj];have m2:0<=(o.newQty - o.filled)*o.newPrice:=Int.mul_nonneg (by omega) (by omega);generalize (o.newQty - o.filled)*o.newPrice=b at*;by_cases ha:a<=9223372036854775807
   ·rw[if_pos (c:=inI a) ⟨by omega,ha⟩,if_neg (by simp only[ne_eq,not_true_eq_false,false_or];exact hn)];by_cases hb:b<=9223372036854775807
    ·rw[if_pos (c:=inI b) ⟨by omega,hb⟩];rw[cu (by simp [ak,ieq]),XT,aj,if_pos (by omega)]
    ·rw[if_neg (c:=inI b) (by unfold inI;omega)];rw[aB (by simp [ak,ieq]),if_neg (by omega)]
   ·rw[if_neg (c:=inI a) (by unfold inI;omega),if_pos (.inl (by decide)),if_neg (by omega)]
def okC (c:aN):Prop:=EM c/\(0<=c.buy/\0<=c.sell/\0<=c.opn)/\inI (c.pos+c.buy)/\inI (c.sell - c.pos)
theorem ET (c:aN):okC c↔(inI c.pos/\inI c.buy/\inI c.sell/\inI c.opn)/\(0<=c.buy/\0<=c.sell/\0<=c.opn)/\inI (c.pos+c.buy)/\inI (c.sell - c.pos):=
 ⟨fun⟨⟨a,b,c,d⟩,h⟩=>⟨⟨a,b,c,d⟩,h⟩,fun⟨⟨a,b,c,d⟩,h⟩=>⟨⟨a,b,c,d⟩,h⟩⟩
instance (c:aN):Decidable (okC c):=decidable_of_iff _ (ET c).symm
theorem RV {c:aN} (h:EM c):AZ c=some (⟨if inI (c.pos+c.buy)then c.pos+c.buy else 0,if inI (c.sell - c.pos)then c.sell - c.pos else 0,c.opn⟩,decide (inI (c.pos+c.buy)/\inI (c.sell - c.pos))):=by
 unfold AZ;rw[lJ h.pos h.buy,aj,Dv h.sell h.pos,aj];by_cases h1:inI (c.pos+c.buy)
 ·by_cases h2:inI (c.sell - c.pos)
  ·simp only[if_pos h1,if_pos h2,mM,zO,decide_eq_true (show _/\_ from⟨h1,h2⟩)]
  ·simp only[if_pos h1,if_neg h2,yE,mM,zO,decide_eq_false (fun h:_/\_=>h2 h.2)]
 ·simp only[if_neg h1,yE,U4,decide_eq_false (fun h:_/\_=>h1 h.1)];by_cases h2:inI (c.sell - c.pos)
  ·simp only[if_pos h2]
  ·simp only[if_neg h2]
theorem Y7 {c:aN} (h:EM c):Wq (gJ c) fun b=>b=true↔okC c:=by
 unfold gJ;rw[RV h,aj,ah];simp only[aW,bJ,decide_eq_true_eq,okC];rw[ahB];constructor
 ·rintro⟨a,b⟩;exact⟨h,b,a⟩
 ·rintro⟨_,b,a⟩;exact⟨a,b⟩
theorem jX {c:aN} (h:EM c):gJ c=some (decide (okC c)):=(Y7 h).dec
def ofC (c:aN):fB:=⟨c.pos+c.buy,c.sell - c.pos,c.opn⟩
theorem XC {c:aN} (h:okC c):Gn c=some (ofC c,0):=by
 unfold Gn;rw[jX h.1,aj,decide_eq_true h,aJ,aQ,RV h.1,aj,if_pos h.2.2.1,if_pos h.2.2.2]
 rfl
def oC (c:aN) (o:au):aN:=if o.side=2 then ⟨c.pos,c.buy,c.sell+jV o,c.opn+gG o⟩else ⟨c.pos,c.buy+jV o,c.sell,c.opn+gG o⟩
def pJ (c:aN) (o:au):aN:=if o.side=2 then ⟨c.pos,c.buy,c.sell - jV o,c.opn - gG o⟩else ⟨c.pos,c.buy - jV o,c.sell,c.opn - gG o⟩
theorem ES {c:aN} {o:au} (hc:okC c) (ho:rG o) (hr:fA o):lZ c o=some (if okC (oC c o)then (oC c o,0)else (c,3)):=by
 have hO:=Dl ho hr;have hW:=Dq ho;obtain⟨hk,⟨n1,n2,n3⟩,r1,r2⟩:=id hc;have ib:=hk.buy;have is':=hk.sell;have io:=hk.opn;have ip:=hk.pos;unfold lZ;rw[jX hk,aj,decide_eq_true hc,jo,decide_eq_true ho,aJ,aY,aV,aj,aJ,dW,aQ,Nc ho hr,P5 ho hr,aj];simp only[aj];have oO:inI (jV o):=⟨by omega,by omega⟩;by_cases hw:gG o<=9223372036854775807
 ·have oW:inI (gG o):=⟨by omega,hw⟩;rw[if_pos hw];simp only[mM,aJ,dW];by_cases hs:o.side=2
  ·rw[aB (by rw[bf];exact hs),lJ is' oO,aj,lJ io oW,aj];unfold oC;rw[if_pos hs];by_cases h1:c.sell+jV o<=9223372036854775807
   ·by_cases h2:c.opn+gG o<=9223372036854775807
    ·rw[if_pos ⟨by omega,h1⟩,if_pos ⟨by omega,h2⟩];simp only[mM,aJ,dW,aY,aV];rw[jX (c:=⟨c.pos,c.buy,c.sell+jV o,c.opn+gG o⟩) ⟨ip,ib,⟨by simp only;omega,h1⟩,⟨by simp only;omega,h2⟩⟩,aj,kD,CB];split<;>rfl
    ·rw[if_pos ⟨by omega,h1⟩,if_neg (by unfold inI;omega)];simp only[mM,yE,aJ,dW,aY,aV,ql,aQ,aj];rw[if_neg fun h=>h2 h.1.opn.2]
   ·rw[if_neg (by unfold inI;omega)];simp only[yE,aY,ql,aJ,aV,aQ,aj];rw[if_neg fun h=>h1 h.1.sell.2]
  ·rw[cu (by rw[bn];exact hs),lJ ib oO,aj,lJ io oW,aj];unfold oC;rw[if_neg hs];by_cases h1:c.buy+jV o<=9223372036854775807
   ·by_cases h2:c.opn+gG o<=9223372036854775807
    ·rw[if_pos ⟨by omega,h1⟩,if_pos ⟨by omega,h2⟩];simp only[mM,aJ,dW,aY,aV];rw[jX (c:=⟨c.pos,c.buy+jV o,c.sell,c.opn+gG o⟩) ⟨ip,⟨by simp only;omega,h1⟩,is',⟨by simp only;omega,h2⟩⟩,aj,kD,CB];split<;>rfl
    ·rw[if_pos ⟨by omega,h1⟩,if_neg (by unfold inI;omega)];simp only[mM,yE,aJ,dW,aY,aV,ql,aQ,aj];rw[if_neg fun h=>h2 h.1.opn.2]
   ·rw[if_neg (by unfold inI;omega)];simp only[yE,aY,ql,aJ,aV,aQ,aj];rw[if_neg fun h=>h1 h.1.buy.2]
 ·have hno:¬okC (oC c o):=fun h=>by
   have:=h.1.opn.2;unfold oC at this;split at this<;>simp only at this<;>omega
  rw[if_neg hw,if_neg hno];simp only[yE,aY,ql,aJ,aQ,aj,aV];by_cases hs:o.side=2
  ·rw[aB (by rw[bf];exact hs),lJ is' oO,aj,lJ io (by decide),aj]
  ·rw[cu (by rw[bn];exact hs),lJ ib oO,aj,lJ io (by decide),aj]
theorem X0 {c:aN} {o:au} (hc:okC c) (ho:rG o) (hr:fA o) (hs:okC (pJ c o)):Gg c o=some (pJ c o,0):=by
 have hO:=Dl ho hr;have hW:=Dq ho;obtain⟨hk,⟨n1,n2,n3⟩,r1,r2⟩:=id hc;have ib:=hk.buy;have is':=hk.sell;have io:=hk.opn;have ip:=hk.pos;have oO:inI (jV o):=⟨by omega,by omega⟩;have hw:gG o<=9223372036854775807:=by
  have h1:=hs.2.1.2.2;have h2:=io.2;have h3:(pJ c o).opn=c.opn - gG o:=by unfold pJ;split<;>rfl
  omega
 have oW:inI (gG o):=⟨by omega,hw⟩;unfold Gg;rw[jX hk,aj,decide_eq_true hc,jo,decide_eq_true ho,aJ,aY,aV,aj,aJ,dW,aQ,Nc ho hr,P5 ho hr,aj];simp only[aj];rw[if_pos hw];simp only[mM,aJ,dW];unfold inI at ib is' io;by_cases hd:o.side=2
 ·rw[aB (by rw[bf];exact hd),Dv is' oO,aj,Dv io oW,aj];unfold pJ at hs ⊢; rw[if_pos hd]at hs ⊢;rw[if_pos ⟨by omega,by omega⟩,if_pos ⟨by omega,by omega⟩];simp only[mM,aJ,dW,aY,aV];rw[jX hs.1,decide_eq_true hs,aj,aJ,aQ]
 ·rw[cu (by rw[bn];exact hd),Dv ib oO,aj,Dv io oW,aj];unfold pJ at hs ⊢; rw[if_neg hd]at hs ⊢;rw[if_pos ⟨by omega,by omega⟩,if_pos ⟨by omega,by omega⟩];simp only[mM,aJ,dW,aY,aV];rw[jX hs.1,decide_eq_true hs,aj,aJ,aQ]
theorem acZ {c:aN} {d q:Int} (hc:okC c) (hd:d=1\/d=2) (hq:0<=q) (rq:inI q) (hn:okC ⟨if d=1 then c.pos+q else c.pos - q,c.buy,c.sell,c.opn⟩):
 Hg c d q=some (⟨if d=1 then c.pos+q else c.pos - q,c.buy,c.sell,c.opn⟩,0):=by
 unfold Hg
 rw[jX hc.1,aj,decide_eq_true hc,aJ,dW,cu (by simp only[aW,bG,bU,dw,aX,aU,cZ,dn,bJ,dA,bf,bn,dG,dK];omega)]
 have ip:=hc.1.pos
 have hp:=hn.1.pos
 simp only at hp
 by_cases h:d=1
 ·rw[aB (by rw[bf];exact h),lJ ip rq,aj]
  simp only[if_pos h]at hn hp ⊢
  rw[if_pos hp]
  simp only[mM,aJ,dW,aY,aV]
  rw[jX hn.1,decide_eq_true hn,aj,aJ,aQ]
 ·rw[cu (by rw[bn];exact h),Dv ip rq,aj]
  simp only[if_neg h]at hn hp ⊢
  rw[if_pos hp]
  simp only[mM,aJ,dW,aY,aV]
  rw[jX hn.1,decide_eq_true hn,aj,aJ,aQ]
def Xl (x:fB):Prop:=0<=x.long/\0<=x.short/\0<=x.opn
instance (x:fB):Decidable (Xl x):=by unfold Xl;infer_instance
theorem Xq (x:fB):Az x=some (decide (Xl x)):=by
 refine Wq.dec ?_;unfold Az Xl;rw[ah,bJ,ahB]
def Xh (was now cap:Int):Prop:=max was cap<now
instance (a b c:Int):Decidable (Xh a b c):=by unfold Xh;infer_instance
def Ef (a b l:fB):Prop:=Xh a.long b.long l.long\/Xh a.short b.short l.short\/Xh a.opn b.opn l.opn
instance (a b l:fB):Decidable (Ef a b l):=by unfold Ef;infer_instance
theorem Dx (a b c:Int):jy a b c=some (decide (Xh a b c)):=by
 refine Wq.dec ?_;unfold jy imax Xh;rw[ah,cZ];split<;>omega
theorem TL (a b l:fB):wP a b l=some (decide (Ef a b l)):=by
 refine Wq.dec ?_;unfold wP wz;simp only[aj,Dx,gy,ah,decide_eq_true_eq,decide_eq_false_iff_not,Ef]
 grind
theorem Xn (l:List Int) (i:Nat) (h:i<l.length):(l.take (i+1)).sum=(l.take i).sum+l[i]:=by
 rw[List.take_succ_eq_append_getElem h,List.sum_append];simp
theorem Zb:∀ {l:List Int},(∀x∈l,0<=x)->0<=l.sum
 |[],_=>by simp
 |a::l,h=>by
  have:=Zb (l:=l) fun x hx=>h x (by simp [hx])
  have:=h a (by simp)
  simp only[List.sum_cons];omega
theorem aa3 {l:List Int} (h:∀x∈l,0<=x) (i:Nat):(l.take i).sum<=l.sum:=by
 have e:l.sum=(l.take i).sum+(l.drop i).sum:=by rw[<-List.sum_append,List.take_append_drop]
 have:=Zb (l:=l.drop i) fun x hx=>h x (List.mem_of_mem_drop hx);omega
def alf (l:List Int):Int×Int:=if l.sum<=9223372036854775807 then (l.sum,0)else (0,3)
theorem aa0 {l:List Int} (hl:l.length<999999) (h:∀x∈l,0<=x/\inI x):E5 l=some (alf l):=by
 refine Wq.eq ?_;have hn:∀x∈l,0<=x:=fun x hx=>(h x hx).1;unfold E5;refine Wq.bind (Q:=fun w:(Int×Int) ⊕ (Int×Int×Int)=>match w with | .inl w=>w=(3,0)/\¬l.sum<=9223372036854775807 | .inr w=>w.1=l.sum/\l.sum<=9223372036854775807)
  (lH (n:=l.length) (step:=fun v:Int×Int×Int×Int=>uM (len l) l v.1 v.2.1 v.2.2.1 v.2.2.2) (by omega)
    (fun i x=>x.1=(l.take i).sum/\x.1<=9223372036854775807) _ ?_ ?_ _ 0 (Nat.zero_le _) (by simp)) ?_
 ·rintro i ⟨a,b,c⟩ hi ⟨rfl,ha⟩;simp only[uM];simp only at ha;have ht:=Zb (l:=l.take i) fun x hx=>hn x (List.mem_of_mem_take hx);have hx:=h l[i] (List.getElem_mem _);rw[aB (by rw[dS];simpa using hi),aB (inb l i hi),aZ l i hi,lJ ⟨by omega,ha⟩ hx.2,aj,<-Xn l i hi];have:=aa3 hn (i+1);have h2:=Zb (l:=l.take (i+1)) fun x hx=>hn x (List.mem_of_mem_take hx);by_cases hr:(l.take (i+1)).sum<=9223372036854775807
  ·rw[if_pos ⟨by omega,hr⟩];simp only[mM,aJ,aQ,ah];exact⟨dH (by omega),trivial,hr⟩
  ·rw[if_neg (by unfold inI;omega)];simp only[yE,aY,aV,ah];exact⟨trivial,by omega⟩
 ·rintro⟨a,b,c⟩ ⟨rfl,ha⟩;simp only[uM];simp only at ha;rw[cu (by rw[dS];simp),ah];rw[List.take_length]at*;exact⟨rfl,ha⟩
 ·rintro w hw;unfold alf;cases w with
  |inl w=>obtain⟨rfl,h2⟩:=hw;simp only[fO,ah];rw[if_neg h2]
  |inr w=>obtain⟨h1,h2⟩:=hw;simp only[fO,ah];rw[if_pos h2,h1]
def nJ (l:List aN):Int:=(l.map aN.opn).sum
theorem Fp {l:List aN} (hl:l.length<999999) (h:∀c∈l,0<=c.opn/\inI c.opn):rJ l=some (if nJ l<=9223372036854775807 then (nJ l,0)else (0,3)):=by
 refine Wq.eq ?_;unfold rJ;refine Wq.bind (Q:=fun w:List Int=>w=l.map aN.opn)
  (lH (n:=l.length) (step:=fun v:Int×List Int=>qo (len l) l v.1 v.2) (by omega) (fun i x=>x=(l.take i).map aN.opn) _ ?_ ?_ _ 0 (Nat.zero_le _) (by simp)) ?_
 ·rintro i x hi rfl;simp only[qo];rw[aB (by rw[dS];simpa using hi),aB (inb l i hi),aB (nC (by simp [bP,len];omega)),ah,aZ l i hi];exact⟨dH (by omega),by rw[List.take_succ_eq_append_getElem hi,List.map_append];rfl⟩
 ·rintro x rfl;simp only[qo];rw[cu (by rw[dS];simp),ah,List.take_length]
 ·rintro w rfl
  rw[aa0 (by simpa using hl) (fun x hx=>by
   obtain⟨c,hc,rfl⟩:=List.mem_map.1 hx
   exact h c hc),aj,ah]
  rfl
theorem Og {l:List Int} (hl:l.length<999999) (h0:l≠[]):Wq (kV l) fun m=>0<=m↔∀x∈l,0<=x:=by
 have hp:0<l.length:=List.length_pos_iff.2 h0;unfold kV;rw[cu (I9 (by simp only[len];omega)),aB (PI (by simp only[len];omega))];refine Wq.bind (Q:=fun m=>0<=m↔∀x∈l,0<=x) (lH (n:=l.length) (step:=fun v:Int×Int=>kG l v.1 v.2) (by omega) (fun i x=>0<=x↔∀y∈l.take i,0<=y) _ ?_ ?_ _ 1 hp ?_) ?_
 ·rintro i x hi hx;simp only[kG];rw[aB (by rw[dS];simpa using hi),aB (inb l i hi),ah,aZ l i hi];refine⟨dH (by omega),?_⟩;rw[List.take_succ_eq_append_getElem hi];simp only[List.mem_append,List.mem_singleton];unfold iq;constructor
  ·intro h y hy;rcases hy with hy | rfl
   ·exact hx.1 (by split at h<;>omega) y hy
   ·split at h<;>omega
  ·intro h;have h1:=hx.2 fun y hy=>h y (.inl hy);have h2:=h _ (.inr rfl);split<;>omega
 ·rintro x hx;simp only[kG];rw[cu (by rw[dS];simp),ah];rwa[List.take_length]at hx
 ·cases l with
  |nil=>exact absurd rfl h0
  |cons a r=>simp [ai]
 ·exact fun w hw=>(ah _).2 hw
def sO (l:List au) (n:Int):Option Nat:=l.findIdx? fun o=>o.id == n
def JE (l:List au) (n:Int):Int:=match sO l n with | some k=>k | none=> -1
theorem Fb (s:ax) (n:Int) (hl:s.orders.length<999999):um s n=some (JE s.orders n):=by
 refine Wq.eq ?_;unfold um
 refine Wq.bind (Q:=fun w:Int ⊕ Int=>match w with
  |.inl k=>∃i:Nat,k=i/\∃h:i<s.orders.length,s.orders[i].id=n/\∀j,(h:j<s.orders.length)->j<i->s.orders[j].id≠n
  |.inr _=>∀j,(h:j<s.orders.length)->s.orders[j].id≠n)
  (lH (n:=s.orders.length) (step:=fun v:Int×Int=>dD (len s.orders) s.orders n v.1 v.2) (by omega) (fun i x=>∀j,(h:j<s.orders.length)->j<i->s.orders[j].id≠n) _ ?_ ?_ _ 0 (Nat.zero_le _) (fun j _ h=>by omega)) ?_
 ·rintro i x hi hx;simp only[dD];rw[aB (by rw[dS];simpa using hi),aB (inb _ i hi),aZ _ i hi,gy];refine⟨fun he=>(ah _).2 ⟨i,rfl,hi,by simpa [ieq] using he,hx⟩,fun he=>(ah _).2 ⟨dH (by omega),fun j hj hji=> ?_⟩⟩;by_cases e:j=i
  ·subst e;simpa [ieq] using he
  ·exact hx j hj (by omega)
 ·rintro x hx;simp only[dD];rw[cu (by rw[dS];simp),ah];exact fun j hj=>hx j hj hj
 ·rintro w hw;cases w with
  |inl k=>
   obtain⟨i,rfl,hi,h1,h2⟩:=hw;have:sO s.orders n=some i:=by
    unfold sO;rw[List.findIdx?_eq_some_iff_getElem];exact⟨hi,by simpa using h1,fun j hj=>by simpa using h2 j (by omega) hj⟩
   simp only[fO,ah,JE,this]
  |inr k=>
   have:sO s.orders n=none:=by
    unfold sO;rw[List.findIdx?_eq_none_iff];intro o ho;obtain⟨j,hj,rfl⟩:=List.getElem_of_mem ho;simpa using hw j hj
   simp only[fO,ah,JE,this]
theorem kJ {l:List au} {n:Int} {k:Nat} (h:sO l n=some k):∃hk:k<l.length,l[k].id=n:=by
 unfold sO at h;rw[List.findIdx?_eq_some_iff_getElem]at h;obtain⟨hk,h1,_⟩:=h;exact⟨hk,by simpa using h1⟩
theorem acs {l:List au} {n:Int} (h:sO l n=none):∀o∈l,o.id≠n:=by
 unfold sO at h;rw[List.findIdx?_eq_none_iff]at h;intro o ho;simpa using h o ho
theorem DU {l:List au} {n:Int} {k:Nat} (h:sO l n=some k):JE l n=k:=by unfold JE;rw[h]
theorem H7 {l:List au} {n:Int} (h:sO l n=none):JE l n= -1:=by unfold JE;rw[h]
def qA (s:ax):Prop:=(1<=s.accounts/\s.accounts<=8)/\(1<=s.symbols/\s.symbols<=8)/\len s.cells=s.accounts*s.symbols/\len s.limits=len s.cells/\len s.caps=s.accounts/\s.orders.length<=64
instance (s:ax):Decidable (qA s):=by unfold qA;infer_instance
theorem JB {a b:Int} (h1:0<=a) (h2:a<=9) (h3:0<=b) (h4:b<=9):0<=a*b/\a*b<=81:=
 ⟨Int.mul_nonneg h1 h3,by have:=Int.mul_le_mul h2 h4 h3 (by omega);omega⟩
theorem MF (s:ax):Wq (qf s) fun b=>b=true↔qA s:=by
 unfold qf;simp only[ah,aW,bJ,bf,qA];constructor
 ·rintro⟨⟨⟨⟨⟨⟨⟨a,b⟩,c⟩,d⟩,e⟩,f⟩,g⟩,h⟩;have:=JB (a:=s.accounts) (b:=s.symbols) (by omega) (by omega) (by omega) (by omega);rw[show eF s.accounts s.symbols=s.accounts*s.symbols from rfl,dL this.1 (by omega)]at e;exact⟨⟨a,b⟩,⟨c,d⟩,e,f,g,by simp only[len]at h;omega⟩
 ·rintro⟨⟨a,b⟩,⟨c,d⟩,e,f,g,h⟩;have:=JB (a:=s.accounts) (b:=s.symbols) (by omega) (by omega) (by omega) (by omega);rw[show eF s.accounts s.symbols=s.accounts*s.symbols from rfl,dL this.1 (by omega)];exact⟨⟨⟨⟨⟨⟨⟨a,b⟩,c⟩,d⟩,e⟩,f⟩,g⟩,by simp only[len];omega⟩
theorem qA.lens {s:ax} (hs:qA s):s.cells.length<=64/\s.limits.length=s.cells.length/\s.caps.length=s.accounts.toNat/\s.orders.length<=64:=by
 obtain⟨⟨h1,h2⟩,⟨h3,h4⟩,h5,h6,h7,h8⟩:=hs;have m:s.accounts*s.symbols<=8*8:=Int.mul_le_mul h2 h4 (by omega) (by omega);simp only[len]at h5 h6 h7;exact⟨by omega,by omega,by omega,h8⟩
def atZ (n:Int) (o:au):Int:=o.account*n+o.symbol
theorem KD {s:ax} (hs:qA s) (a y:Int) (ha:0<=a) (ha2:a<s.accounts) (hy:0<=y) (hy2:y<s.symbols):
 ∃k:Nat,bK s a y=some (k:Int)/\(k:Int)=a*s.symbols+y/\k<s.cells.length:=by
 obtain⟨⟨h1,h2⟩,⟨h3,h4⟩,h5,_⟩:=hs
 have m:=JB (a:=a) (b:=s.symbols) (by omega) (by omega) (by omega) (by omega)
 have l:(a+1)*s.symbols<=s.accounts*s.symbols:=Int.mul_le_mul_of_nonneg_right (by omega) (by omega)
 have e:(a+1)*s.symbols=a*s.symbols+s.symbols:=by rw[Int.add_mul,Int.one_mul]
 refine⟨(a*s.symbols+y).toNat,?_,by omega,by simp only[len]at h5;omega⟩
 unfold bK
 rw[show eF a s.symbols=a*s.symbols from rfl,dL m.1 (by omega),show aF (a*s.symbols) y=a*s.symbols+y from rfl,dL (by omega) (by omega)]
 congr 1;omega
def qy (n:Int) (cs:List aN) (a:Int):List aN:=(cs.drop (a*n).toNat).take n.toNat
theorem QT {s:ax} (hs:qA s) (a:Int) (ha:0<=a) (ha2:a<s.accounts):
 ji s a=some (qy s.symbols s.cells a):=by
 obtain⟨⟨h1,h2⟩,⟨h3,h4⟩,h5,_⟩:=hs
 have m:=JB (a:=a) (b:=s.symbols) (by omega) (by omega) (by omega) (by omega)
 have m2:=JB (a:=a+1) (b:=s.symbols) (by omega) (by omega) (by omega) (by omega)
 have l:(a+1)*s.symbols<=s.accounts*s.symbols:=Int.mul_le_mul_of_nonneg_right (by omega) (by omega)
 have e:(a+1)*s.symbols=a*s.symbols+s.symbols:=by rw[Int.add_mul,Int.one_mul]
 unfold ji
 rw[show eF a s.symbols=a*s.symbols from rfl,dL m.1 (by omega),show aF a 1=a+1 from rfl,dL (n:=a+1) (by omega) (by omega),
  show eF (a+1) s.symbols=(a+1)*s.symbols from rfl,dL m2.1 (by omega)]
 rw[aB (by simp only[aW,bJ];omega)]
 rw[show aS ((a+1)*s.symbols) (a*s.symbols)=s.symbols from by unfold aS;omega]
 rfl
theorem YC {n:Int} {cs:List aN} {a:Int} {c:aN} (h:c∈qy n cs a):c∈cs:=List.mem_of_mem_drop (List.mem_of_mem_take h)
theorem QD {n:Int} {cs:List aN} {a:Int}:(qy n cs a).length<=cs.length:=by
 unfold qy;rw[List.length_take,List.length_drop];omega
def Di (s:ax) (o:au):Prop:=rG o/\o.phase≠3/\o.account<s.accounts/\o.symbol<s.symbols
def FK (l:List au):Prop:=l.Pairwise fun a b=>a.id<b.id
structure ade (s:ax):Prop where
 ords:∀o∈s.orders,Di s o
 asc:FK s.orders
 ids:∀o∈s.orders,o.id<=s.last
 last:0<=s.last/\s.last<=1000000000000
 seq:0<=s.seq/\s.seq<=1000000000
 lsn:0<=s.lsn/\s.lsn<=1000000000
 lims:∀x∈s.limits,Xl x
 caps:∀x∈s.caps,0<=x
theorem AX {α:Type} {l:List α} {i:Nat} (h:i<l.length) {x:α}:x∈l.take (i+1)↔x∈l.take i\/x=l[i]:=by
 rw[List.take_succ_eq_append_getElem h,List.mem_append,List.mem_singleton]
theorem aj1 (s:ax) (hl:s.orders.length<999999) (h2:s.limits.length<999999) (h3:s.caps.length<999999) (h0:s.caps≠[]):
 Wq (qX s) fun b=>b=true↔ade s:=by
 unfold qX
 refine Wq.bind (Q:=fun w:Bool ⊕ (Int×Bool)=>match w with
  |.inl b=>b=false/\¬((∀o∈s.orders,Di s o)/\FK s.orders)
  |.inr v=>(∀o∈s.orders,Di s o/\o.id<=v.1)/\FK s.orders/\(v.1=0\/∃o∈s.orders,o.id=v.1))
  (lH (n:=s.orders.length) (step:=fun v:Int×Int×Bool=>kS (len s.orders) s.orders s v.1 v.2.1 v.2.2) (by omega)
    (fun i v=>(∀o∈s.orders.take i,Di s o/\o.id<=v.1)/\FK (s.orders.take i)/\(v.1=0\/∃o∈s.orders.take i,o.id=v.1)) _ ?_ ?_ _ 0 (Nat.zero_le _) (by simp [FK])) ?_
 ·rintro i ⟨x,q⟩ hi ⟨g1,g2,g3⟩
  simp only at g1 g2 g3
  simp only[kS]
  rw[aB (by rw[dS];simpa using hi),aB (inb _ i hi),aZ _ i hi,jo,aj]
  simp only[gy,ah,bU,dw,aX,aU,bf,bn,bJ,dA,decide_eq_true_eq,decide_eq_false_iff_not]
  refine⟨fun hb=>⟨trivial,fun⟨a1,a2⟩=> ?_⟩,fun hc=>⟨dH (by omega),fun o ho=> ?_,?_,.inr ⟨_,(AX hi).2 (.inr rfl),rfl⟩⟩⟩
  ·obtain⟨b1,b2,b3,b4⟩:=a1 s.orders[i] (List.getElem_mem _)
   have hle:s.orders[i].id<=x:=by
    rcases hb with (((hb | hb) | hb) | hb) | hb
    ·exact absurd b1 hb
    ·exact absurd hb b2
    ·omega
    ·omega
    ·exact hb
   rcases g3 with g3 | ⟨o,ho,g3⟩
   ·have:=b1.1.1.1;omega
   ·obtain⟨j,hj,rfl⟩:=List.getElem_of_mem ho
    rw[List.length_take]at hj
    have:=List.pairwise_iff_getElem.1 a2 j i (by omega) hi (by omega)
    rw[List.getElem_take]at g3
    omega
  ·rcases(AX hi).1 ho with ho | rfl
   ·have:=g1 o ho
    exact⟨this.1,by have:=this.2;omega⟩
   ·exact⟨⟨hc.1.1.1.1,hc.1.1.1.2,by omega,by omega⟩,Int.le_refl _⟩
  ·rw[List.take_succ_eq_append_getElem hi]
   unfold FK
   rw[List.pairwise_append]
   refine⟨g2,by simp,fun a ha b hb=> ?_⟩
   rw[List.mem_singleton]at hb
   subst hb
   have:=(g1 a ha).2
   omega
 ·rintro⟨x,q⟩ hx
  simp only[kS]
  rw[cu (by rw[dS];simp),ah]
  simp only[List.take_length]at hx
  exact hx
 ·rintro w hw
  cases w with
  |inl b=>
   obtain⟨rfl,hn⟩:=hw
   simp only[fO,ah]
   exact⟨fun h=>(by cases h),fun h=>absurd ⟨h.ords,h.asc⟩ hn⟩
  |inr v=>
   obtain⟨g1,g2,g3⟩:=hw
   have gl:v.1<=s.last/\0<=s.last↔(∀o∈s.orders,o.id<=s.last)/\0<=s.last:=by
    constructor
    ·rintro⟨a,b⟩;exact⟨fun o ho=>by have:=(g1 o ho).2;omega,b⟩
    ·rintro⟨a,b⟩
     refine⟨?_,b⟩
     rcases g3 with g3 | ⟨o,ho,g3⟩
     ·omega
     ·have:=a o ho;omega
   have hF:ade s↔(v.1<=s.last/\s.last<=1000000000000/\0<=s.seq/\s.seq<=1000000000/\0<=s.lsn/\s.lsn<=1000000000)/\(∀x∈s.limits,Xl x)/\(∀x∈s.caps,0<=x)/\0<=s.last:=by
    constructor
    ·intro h
     have:=gl.2 ⟨h.ids,h.last.1⟩
     exact⟨⟨this.1,h.last.2,h.seq.1,h.seq.2,h.lsn.1,h.lsn.2⟩,h.lims,h.caps,h.last.1⟩
    ·rintro⟨⟨a1,a2,a3,a4,a5,a6⟩,b,c,d⟩
     exact⟨fun o ho=>(g1 o ho).1,g2,(gl.1 ⟨a1,d⟩).1,⟨d,a2⟩,⟨a3,a4⟩,⟨a5,a6⟩,b,c⟩
   rw[hF]
   obtain⟨m,hm,hmq⟩:=Og h3 h0
   simp only[fO,hm,J5,alh,aj]
   simp only[aW,bG,bU,dw,aX,aU,cZ,dn,bJ,dA,bf,bn,dG,dK]
   by_cases hA:v.1<=s.last/\s.last<=1000000000000/\0<=s.seq/\s.seq<=1000000000/\0<=s.lsn/\s.lsn<=1000000000
   ·have hA':((((v.1<=s.last/\s.last<=1000000000000)/\0<=s.seq)/\s.seq<=1000000000)/\0<=s.lsn)/\s.lsn<=1000000000:=⟨⟨⟨⟨⟨hA.1,hA.2.1⟩,hA.2.2.1⟩,hA.2.2.2.1⟩,hA.2.2.2.2.1⟩,hA.2.2.2.2.2⟩
    rw[if_pos hA']
    refine Wq.bind (Q:=fun w:Int ⊕ Int=>match w with | .inl k=>0<=k/\¬∀x∈s.limits,Xl x | .inr _=>∀x∈s.limits,Xl x)
     (lH (n:=s.limits.length) (step:=fun v:Int×Int=>bH (len s.limits) s.limits v.1 v.2) (by omega) (fun i _=>∀x∈s.limits.take i,Xl x) _ ?_ ?_ _ 0 (Nat.zero_le _) (by simp)) ?_
    ·rintro i x hi hx
     simp only[bH]
     rw[aB (by rw[dS];simpa using hi),aB (inb _ i hi),aZ _ i hi,Xq,aj]
     simp only[gy,ah,aX,aU,decide_eq_true_eq,decide_eq_false_iff_not]
     refine⟨fun h=>⟨by omega,fun h2=>h (h2 _ (List.getElem_mem _))⟩,fun h=>⟨dH (by omega),fun x hx'=> ?_⟩⟩
     rcases(AX hi).1 hx' with h5 | rfl
     ·exact hx x h5
     ·exact h
    ·rintro x hx
     simp only[bH]
     rw[cu (by rw[dS];simp),ah]
     rwa[List.take_length]at hx
    ·rintro w hw
     cases w with
     |inl k=>
      obtain⟨hk,hn⟩:=hw
      simp only
      rw[if_neg (fun h=>by omega),ah]
      simp only[aW,bG,bU,dw,aX,aU,cZ,dn,bJ,dA,bf,bn,dG,dK]
      constructor
      ·rintro⟨⟨⟨_,h⟩,_⟩,_⟩;omega
      ·rintro⟨_,h,_⟩;exact absurd h hn
     |inr k=>
      simp only
      rw[if_pos (.inl hA'),ah]
      simp only[aW,bG,bU,dw,aX,aU,cZ,dn,bJ,dA,bf,bn,dG,dK]
      constructor
      ·rintro⟨⟨_,h1⟩,h2⟩;exact⟨hA,hw,hmq.1 h1,h2⟩
      ·rintro⟨_,_,h1,h2⟩;exact⟨⟨.inl hA',hmq.2 h1⟩,h2⟩
   ·have hA':¬(((((v.1<=s.last/\s.last<=1000000000000)/\0<=s.seq)/\s.seq<=1000000000)/\0<=s.lsn)/\s.lsn<=1000000000):=by omega
    rw[if_neg hA',if_neg (by simpa using hA'),ah]
    simp only[aW,bG,bU,dw,aX,aU,cZ,dn,bJ,dA,bf,bn,dG,dK]
    constructor
    ·rintro⟨⟨h | h,_⟩,_⟩
     ·exact absurd h hA'
     ·cases h
    ·rintro⟨h,_⟩;exact absurd h hA
def lN (a b:aN):aN:=⟨a.pos+b.pos,a.buy+b.buy,a.sell+b.sell,a.opn+b.opn⟩
def zC:aN:=⟨0,0,0,0⟩
def wC (o:au):aN:=if o.side=2 then ⟨0,0,jV o,gG o⟩else ⟨0,jV o,0,gG o⟩
def inC (n i:Int) (o:au):aN:=if atZ n o=i then wC o else zC
def lQ (n i:Int):List au->aN
 |[]=>zC
 |o::r=>lN (inC n i o) (lQ n i r)
theorem yR {a b:aN} (h1:a.pos=b.pos) (h2:a.buy=b.buy) (h3:a.sell=b.sell) (h4:a.opn=b.opn):a=b:=by
 cases a;cases b;simp_all
theorem Kz (a:aN):lN a zC=a:=by apply yR<;>simp [lN,zC]
theorem akI (a:aN):lN zC a=a:=by apply yR<;>simp [lN,zC]
theorem afq (a b:aN):lN a b=lN b a:=by apply yR<;>simp only[lN]<;>omega
theorem DN (a b c:aN):lN (lN a b) c=lN a (lN b c):=by apply yR<;>simp only[lN]<;>omega
theorem Uc (c:aN) (o:au):oC c o=lN c (wC o):=by unfold oC wC;split<;>simp [lN]
theorem uI (n i:Int):∀(l m:List au),lQ n i (l++m)=lN (lQ n i l) (lQ n i m)
 |[],m=>(akI _).symm
 |o::l,m=>by
  rw[List.cons_append,lQ,lQ,uI n i l m,DN]
theorem V5 (n i:Int) (o:au):lQ n i [o]=inC n i o:=Kz _
theorem DX (n i:Int) (l:List au) (k:Nat) (h:k<l.length):lQ n i l=lN (lN (lQ n i (l.take k)) (lQ n i (l.drop (k+1)))) (inC n i l[k]):=by
 have e:l=l.take k++(l[k]::l.drop (k+1)):=by rw[<-List.drop_eq_getElem_cons h,List.take_append_drop]
 have:lQ n i l=lQ n i (l.take k++(l[k]::l.drop (k+1))):=by rw[<-e]
 rw[this,uI,lQ,DN,afq (inC n i l[k])]
theorem U8 (n i:Int) (l:List au) (k:Nat) (h:k<l.length) (p:au):lQ n i (l.set k p)=lN (lN (lQ n i (l.take k)) (lQ n i (l.drop (k+1)))) (inC n i p):=by
 have h1:(l.set k p).take k=l.take k:=List.take_set_of_le (Nat.le_refl _);have h2:(l.set k p).drop (k+1)=l.drop (k+1):=List.drop_set_of_lt (by omega);have h3:(l.set k p)[k]'(by simpa using h)=p:=List.getElem_set_self _;rw[DX n i (l.set k p) k (by simpa using h),h1,h2,h3]
theorem U0 (n i:Int) (l:List au) (k:Nat) (h:k<l.length):lQ n i (l.eraseIdx k)=lN (lQ n i (l.take k)) (lQ n i (l.drop (k+1))):=by
 rw[List.eraseIdx_eq_take_drop_succ,uI]
def nnC (c:aN):Prop:=c.pos=0/\0<=c.buy/\0<=c.sell/\0<=c.opn
theorem ahj {o:au} (h:rG o) (hr:fA o):nnC (wC o):=by
 have:=Dl h hr;have:=Dq h;unfold wC nnC;split<;>simp<;>omega
theorem aj0 (n i:Int) {o:au} (h:rG o) (hr:fA o):nnC (inC n i o):=by
 unfold inC;split
 ·exact ahj h hr
 ·simp [nnC,zC]
theorem Zj {a b:aN} (h1:nnC a) (h2:nnC b):nnC (lN a b):=by
 unfold nnC lN at *; simp only;omega
theorem LQ (n i:Int):∀ {l:List au},(∀o∈l,rG o/\fA o)->nnC (lQ n i l)
 |[],_=>by simp [lQ,nnC,zC]
 |o::l,h=>Zj (aj0 n i (h o (by simp)).1 (h o (by simp)).2) (LQ n i fun x hx=>h x (by simp [hx]))
def TM (c:aN):Prop:=c.buy<=9223372036854775807/\c.sell<=9223372036854775807/\c.opn<=9223372036854775807
theorem Uu {c:aN} (h:nnC c) (hf:TM c):okC c:=by
 obtain⟨h0,h1,h2,h3⟩:=h;obtain⟨f1,f2,f3⟩:=hf;rw[ET,h0];unfold inI;omega
theorem YI {c:aN} (h:okC c):TM c:=⟨h.1.buy.2,h.1.sell.2,h.1.opn.2⟩
theorem ahq {a b:aN} (hb:nnC b) (h:TM (lN a b)):TM a:=by
 unfold TM lN nnC at *; simp only at *; omega
def fitAll (s:ax):Prop:=∀j:Nat,j<s.cells.length->TM (lQ s.symbols j s.orders)
theorem Yd {α:Type} (l:List α) (k:Nat) (x:α) (j:Nat) (h:j<(cO l (itn (k:Int)) x).length):(cO l (itn (k:Int)) x)[j]=if k=j then x else l[j]'(by simpa [cO] using h):=by
 simp [cO,itn,List.getElem_set]
theorem agq {s:ax} (hs:qA s) (hk:∀o∈s.orders,Di s o/\fA o):
 Wq (oH s) fun r=>(r.2=true↔fitAll s)/\(r.2=true->r.1.length=s.cells.length/\∀(j:Nat) (h:j<r.1.length),r.1[j]=lQ s.symbols j s.orders):=by
 obtain⟨hc,_,_,hol⟩:=hs.lens
 unfold oH
 rw[aB (by simp only[aW,bJ,len];omega)]
 refine Wq.bind (Q:=fun w:(Bool×List aN×List aN) ⊕ (Bool×List aN×List aN)=>match w with
  |.inl b=>b.1=false/\¬fitAll s
  |.inr b=>b.2.2.length=s.cells.length/\∀(j:Nat) (h:j<b.2.2.length),b.2.2[j]=lQ s.symbols j s.orders/\TM b.2.2[j])
  (lH (n:=s.orders.length) (step:=fun v:Int×Bool×List aN×List aN=>jK (len s.orders) s.orders s v.1 v.2.1 v.2.2.1 v.2.2.2) (by omega)
    (fun i x=>x.2.2.length=s.cells.length/\∀(j:Nat) (h:j<x.2.2.length),x.2.2[j]=lQ s.symbols j (s.orders.take i)/\TM x.2.2[j]) _ ?_ ?_ _ 0 (Nat.zero_le _) ?_) ?_
 ·rintro i ⟨q,x,y⟩ hi ⟨hx,hy⟩
  simp only at hx hy
  simp only[jK]
  have hmem:=hk s.orders[i] (List.getElem_mem _)
  obtain⟨⟨ho,ho3,g1,g2⟩,hor⟩:=id hmem
  obtain⟨⟨_,hb1,hb2,_⟩,_⟩:=id ho
  obtain⟨k,k1,k2,k3⟩:=KD hs s.orders[i].account s.orders[i].symbol hb1.1 g1 hb2.1 g2
  have hky:k<y.length:=by omega
  have hnn:nnC y[k]:=by
   rw[(hy k hky).1]
   exact LQ _ _ fun o h=>⟨(hk o (List.mem_of_mem_take h)).1.1,(hk o (List.mem_of_mem_take h)).2⟩
  have hok:okC y[k]:=Uu hnn (hy k hky).2
  have hnew:nnC (oC y[k] s.orders[i]):=by rw[Uc];exact Zj hnn (ahj ho hor)
  have hsum:∀j:Nat,lQ s.symbols j (s.orders.take (i+1))=lN (lQ s.symbols j (s.orders.take i)) (inC s.symbols j s.orders[i]):=fun j=>by
   rw[List.take_succ_eq_append_getElem hi,uI,V5]
  have hat:atZ s.symbols s.orders[i]=(k:Int):=k2.symm
  have hkk:oC y[k] s.orders[i]=lQ s.symbols k (s.orders.take (i+1)):=by
   rw[hsum,Uc,(hy k hky).1]
   unfold inC;rw[if_pos hat]
  rw[aB (by rw[dS];simpa using hi),aB (inb _ i hi),aZ _ i hi,k1,aj,aB (inb y k hky),aZ y k hky,ES hok ho hor,aj]
  by_cases hf:okC (oC y[k] s.orders[i])
  ·rw[if_pos hf]
   simp only[mM,aJ,aQ]
   rw[aB (inb y k hky),ah]
   refine⟨dH (by omega),(wG _ _ _).trans hx,fun j hj=> ?_⟩
   have hj':j<y.length:=by simpa [cO] using hj
   show(cO y (itn (k:Int)) (oC y[k] s.orders[i]))[j]'hj=_/\TM ((cO y (itn (k:Int)) (oC y[k] s.orders[i]))[j]'hj)
   rw[Yd]
   split
   ·rename_i e;subst e
    exact⟨hkk,YI hf⟩
   ·rename_i e
    rw[hsum j]
    unfold inC
    rw[if_neg (by omega),Kz]
    exact hy j hj'
  ·rw[if_neg hf]
   simp only[yE,aY,aV]
   rw[ah]
   refine⟨rfl,fun hall=>hf (Uu hnew ?_)⟩
   rw[hkk]
   have e:lQ s.symbols k s.orders=lN (lQ s.symbols k (s.orders.take (i+1))) (lQ s.symbols k (s.orders.drop (i+1))):=by
    rw[<-uI,List.take_append_drop]
   have:=hall k k3
   rw[e]at this
   exact ahq (LQ _ _ fun o h=>⟨(hk o (List.mem_of_mem_drop h)).1.1,(hk o (List.mem_of_mem_drop h)).2⟩) this
 ·rintro⟨q,x,y⟩ hx
  simp only[jK]
  rw[cu (by rw[dS];simp),ah]
  simp only[List.take_length]at hx
  exact hx
 ·simp only[List.take_zero,lQ]
  refine⟨by simp [qQ,itn,len],fun j hj=> ?_⟩
  simp only[qQ,List.getElem_replicate]
  exact⟨rfl,by simp only[TM];decide⟩
 ·rintro w hw
  cases w with
  |inl b=>
   obtain⟨h1,h2⟩:=hw
   simp only[fO,ah,h1]
   exact⟨⟨fun h=>(by cases h),fun h=>absurd h h2⟩,fun h=>by cases h⟩
  |inr b=>
   obtain⟨h1,h2⟩:=hw
   simp only[fO,ah]
   refine⟨⟨fun _ j hj=> ?_,fun _=>trivial⟩,fun _=>⟨h1,fun j hj=>(h2 j hj).1⟩⟩
   have:=h2 j (by omega)
   rw[<-this.1];exact this.2
def dR (s:ax) (l:List au):List aN:=s.cells.mapIdx fun i c=>lN ⟨c.pos,0,0,0⟩ (lQ s.symbols i l)
theorem jL (s:ax) (l:List au):(dR s l).length=s.cells.length:=by simp [dR]
theorem nV (s:ax) (l:List au) (i:Nat) (h:i<(dR s l).length):(dR s l)[i]=lN ⟨(s.cells[i]'(by simpa [dR] using h)).pos,0,0,0⟩ (lQ s.symbols i l):=by
 simp [dR]
def Wu (n m:Int) (cs:List aN):Prop:=∀a:Int,0<=a->a<n->nJ (qy m cs a)<=9223372036854775807
structure jw (s:ax):Prop where
 sized:qA s
 fine:ade s
 cells:s.cells=dR s s.orders
 ok:∀c∈s.cells,okC c
 acct:Wu s.accounts s.symbols s.cells
theorem Iy (s:ax) (hr:kT s) (hl:s.orders.length<999999) (h2:s.limits.length<999999) (h3:s.caps.length<999999):
 Wq (iZ s) fun b=>b=true↔jw s:=by
 unfold iZ vT
 rw[qB]
 refine Wq.bind (MF s) fun z hz=> ?_
 refine Wq.bind (Q:=fun b=>b=true↔(z=true/\ade s)) ?_ ?_
 ·rw[gy]
  refine⟨fun h=> ?_,fun h=>(ah _).2 ?_⟩
  ·simp only[aX,aU]at h
   have hs:qA s:=hz.1 h
   refine(aj1 s hl h2 h3 ?_).mono fun b hb=>by rw[hb];simp [h]
   intro e
   have:=hs.2.2.2.2.1
   have:=hs.1.1
   simp [e,len]at*
   omega
  ·simp only[aX,aU]at h
   simp [h]
 ·intro f hf
  rw[gy]
  refine⟨fun h=>(ah _).2 ((ah _).2 ?_),fun h=> ?_⟩
  ·simp only[bU,aX]at h
   refine⟨fun h=>(by cases h),fun hr=> ?_⟩
   have e1:=hz.2 hr.sized
   have e2:=hf.2 ⟨e1,hr.fine⟩
   rw[e1,e2]at h
   simp at h
  ·simp only[dw,aU]at h
   have hs:=hz.1 h.1
   have hfn:=(hf.1 h.2).2
   obtain⟨hc,hlim,hcap,hol⟩:=hs.lens
   have hall:∀o∈s.orders,Di s o/\fA o:=fun o ho=>⟨hfn.ords o ho,hr.orders.1 o ho⟩
   have hokc:∀c∈s.cells,EM c:=hr.cells.1
   refine Wq.bind (agq hs hall) fun y hy=> ?_
   obtain⟨hy1,hy2⟩:=hy
   rw[gy]
   refine⟨fun h5=>(ah _).2 ((ah _).2 ?_),fun h5=> ?_⟩
   ·rw[aX]at h5
    refine⟨fun h=>(by cases h),fun hR=> ?_⟩
    have:y.2=true:=hy1.2 fun j hj=>by
     have e:=hR.ok s.cells[j] (List.getElem_mem _)
     have e2:s.cells[j]=lN ⟨s.cells[j].pos,0,0,0⟩ (lQ s.symbols j s.orders):=by
      have:=nV s s.orders j (by rw[jL];exact hj)
      rw[<-this]
      congr 1
      exact hR.cells
     have e3:=YI e
     rw[e2]at e3
     unfold TM lN at e3
     simpa [TM] using e3
    rw[this]at h5;cases h5
   ·rw[aU]at h5
    obtain⟨hyl,hyg⟩:=hy2 h5
    refine Wq.bind (Q:=fun w:(Bool×List aN) ⊕ (Bool×List aN)=>match w with
     |.inl b=>b.1=false/\¬((∀c∈s.cells,okC c)/\s.cells=dR s s.orders)
     |.inr _=>(∀c∈s.cells,okC c)/\s.cells=dR s s.orders)
     (lH (n:=s.cells.length) (step:=fun v:Int×Bool×List aN=>jB (len s.cells) s.cells v.1 v.2.1 v.2.2) (by omega)
     (fun i x=>x.2.length=s.cells.length/\(∀(j:Nat) (h:j<x.2.length),i<=j->x.2[j]=lQ s.symbols j s.orders)/\∀(j:Nat) (h:j<s.cells.length),j<i->okC s.cells[j]/\s.cells[j]=lN ⟨s.cells[j].pos,0,0,0⟩ (lQ s.symbols j s.orders)) _ ?_ ?_ _ 0 (Nat.zero_le _)
     ⟨hyl,fun j hj _=>hyg j hj,fun j _ h=>by omega⟩) ?_
    ·rintro i ⟨q,x⟩ hi ⟨hx,hxj,hxd⟩
     simp only at hx hxj hxd
     simp only[jB]
     have hix:i<x.length:=by omega
     rw[aB (by rw[dS];simpa using hi),aB (inb _ i hi),aB (inb x i hix),aZ _ i hi,aZ x i hix,jX (hokc _ (List.getElem_mem _)),aj]
     have hil:i<(cO x (itn (i:Int)) (aN.mk s.cells[i].pos x[i].buy x[i].sell x[i].opn)).length:=by rw[wG];exact hix
     rw[aB (by rw[bU];exact .inl (inb _ i hil)),aZ _ i hil]
     have hg:(cO x (itn (i:Int)) (aN.mk s.cells[i].pos x[i].buy x[i].sell x[i].opn))[i]=aN.mk s.cells[i].pos x[i].buy x[i].sell x[i].opn:=by
      simp [cO,itn]
     rw[hg]
     have hxi:=hxj i hix (Nat.le_refl _)
     have hq:lN ⟨s.cells[i].pos,0,0,0⟩ (lQ s.symbols i s.orders)=aN.mk s.cells[i].pos x[i].buy x[i].sell x[i].opn:=by
      rw[<-hxi]
      have hp:x[i].pos=0:=by rw[hxi];exact(LQ _ _ fun o h=>⟨(hall o h).1.1,(hall o h).2⟩).1
      apply yR<;>simp only[lN]<;>omega
     simp only[gy,ah,aW,bG,bU,dw,aX,aU,cZ,dn,bJ,dA,bf,bn,dG,dK]
     constructor
     ·intro hb
      refine⟨trivial,fun⟨a1,a2⟩=> ?_⟩
      have b1:=a1 s.cells[i] (List.getElem_mem _)
      have b2:s.cells[i]=lN ⟨s.cells[i].pos,0,0,0⟩ (lQ s.symbols i s.orders):=by
       have:=nV s s.orders i (by rw[jL];exact hi)
       rw[<-this];congr 1
      rw[hq]at b2
      rcases hb with hb | hb
      ·exact absurd b1 (by simpa using hb)
      ·have c2:=congrArg aN.buy b2;have c3:=congrArg aN.sell b2;have c4:=congrArg aN.opn b2
       simp only at c2 c3 c4
       rcases hb with hb | hb | hb | hb
       ·exact hb rfl
       ·exact hb c2.symm
       ·exact hb c3.symm
       ·exact hb c4.symm
     ·intro hb
      obtain⟨b1,_,b2,b3,b4⟩:=hb
      refine⟨dH (by omega),(wG _ _ _).trans hx,fun j hj hij=> ?_,fun j hj hji=> ?_⟩
      ·rw[Yd,if_neg (by omega)]
       exact hxj j (by simpa [cO] using hj) (by omega)
      ·by_cases e:j=i
       ·subst e
        refine⟨by simpa using b1,?_⟩
        rw[hq]
        exact yR rfl b2.symm b3.symm b4.symm
       ·exact hxd j hj (by omega)
    ·rintro⟨q,x⟩ ⟨hx,_,hxd⟩
     simp only[jB]
     rw[cu (by rw[dS];simp),ah]
     refine⟨fun c hc=> ?_,?_⟩
     ·obtain⟨j,hj,rfl⟩:=List.getElem_of_mem hc
      exact(hxd j hj hj).1
     ·refine List.ext_getElem (jL _ _).symm fun j h1 h2=> ?_
      rw[nV]
      exact(hxd j h1 h1).2
    ·rintro w hw
     cases w with
     |inl b=>
      obtain⟨h1,h2⟩:=hw
      simp only[fO,ah,h1]
      exact⟨fun h=>(by cases h),fun hR=>absurd ⟨hR.ok,hR.cells⟩ h2⟩
     |inr b=>
      obtain⟨hok,hcs⟩:=hw
      simp only[fO]
      rw[qB]
      have hacc:∀a:Int,∀c∈qy s.symbols s.cells a,0<=c.opn/\inI c.opn:=fun a c hc=>by
       have:=hok c (YC hc)
       exact⟨this.2.1.2.2,this.1.opn⟩
      refine Wq.mono (Q:=fun w:Bool ⊕ Bool=>match w with | .inl b=>b=false/\¬Wu s.accounts s.symbols s.cells | .inr _=>Wu s.accounts s.symbols s.cells)
       (lH (n:=s.accounts.toNat) (step:=fun v:Int×Bool=>jG s.accounts s v.1 v.2) (by have:=hs.1.2;omega)
       (fun i x=>∀a:Int,0<=a->a<i->nJ (qy s.symbols s.cells a)<=9223372036854775807) _ ?_ ?_ _ 0 (Nat.zero_le _) (fun a h1 h2=>by omega)) ?_
      ·rintro i q hi hx
       have hia:(i:Int)<s.accounts:=by omega
       simp only[jG]
       rw[aB (PI hia),QT hs i (by omega) hia,aj,Fp (by have:=QD (n:=s.symbols) (cs:=s.cells) (a:=(i:Int));omega) (hacc i),aj]
       by_cases hw:nJ (qy s.symbols s.cells i)<=9223372036854775807
       ·rw[if_pos hw]
        simp only[mM,aJ,aQ,ah]
        refine⟨dH (by omega),fun a h1 h2=> ?_⟩
        by_cases e:a=i
        ·subst e;exact hw
        ·exact hx a h1 (by omega)
       ·rw[if_neg hw]
        simp only[yE,aY,aV,ah]
        exact⟨trivial,fun h=>hw (h i (by omega) hia)⟩
      ·rintro q hx
       simp only[jG]
       rw[cu (I9 (by omega)),ah]
       exact fun a h1 h2=>hx a h1 (by omega)
      ·rintro w hw
       cases w with
       |inl b=>
        obtain⟨rfl,h2⟩:=hw
        simp only[ah]
        exact⟨fun h=>(by cases h),fun hR=>absurd hR.acct h2⟩
       |inr b=>
        simp only[ah]
        exact⟨fun _=>⟨hs,hfn,hcs,hok,hw⟩,fun _=>trivial⟩
def Ei (o:au):au:=⟨o.id,o.account,o.symbol,o.side,o.qty,o.price,o.filled,3,0,0,o.version,o.asked⟩
def GR (o:au):au:=⟨o.id,o.account,o.symbol,o.side,o.qty,o.price,o.filled,o.phase,0,0,o.version,o.asked⟩
def iW (r:bV):au:=⟨r.order,r.account,r.symbol,r.side,r.qty,r.price,0,1,0,0,0,false⟩
def vg (o:au):Prop:=o.phase=2/\¬rZ o/\o.asked=false/\o.version<9223372036854775807
instance (o:au):Decidable (vg o):=by unfold vg;infer_instance
def qY (o:au) (q p:Int):au:=⟨o.id,o.account,o.symbol,o.side,o.qty,o.price,o.filled,o.phase,q,p,o.version+1,o.asked⟩
def VP (o:au):au:=⟨o.id,o.account,o.symbol,o.side,o.qty,o.price,o.filled,o.phase,o.newQty,o.newPrice,o.version,true⟩
def Sm (o:au) (f:Int):au:=⟨o.id,o.account,o.symbol,o.side,o.qty,o.price,f,o.phase,o.newQty,o.newPrice,o.version,o.asked⟩
def QJ (o:au) (f:Int):au:=⟨o.id,o.account,o.symbol,o.side,o.qty,o.price,o.filled,f,o.newQty,o.newPrice,o.version,o.asked⟩
def Xy (o:au) (q p:Int):au:=⟨o.id,o.account,o.symbol,o.side,q,p,o.filled,o.phase,0,0,o.version,o.asked⟩
def MK (o:au) (what q p:Int):Option au:=
 if o.phase=1 then (if what=1 then some (QJ o 2)else if what=2 then some (Ei o)else none)
 else if o.phase=2 then
  if what=3 then (if o.qty - o.filled<q then none else if o.filled+q<o.qty then some (Sm o (o.filled+q))else some (Ei (Sm o (o.filled+q))))
  else if what=4 then some (Ei o)
  else if what=5 then (if rZ o/\q=o.newQty/\p=o.newPrice/\o.filled<q then some (Xy o q p)else none)
  else if what=6 then (if rZ o then some (GR o)else none)
  else none
 else none
theorem W9 {r:bV} (h:vZ r) (hk:r.kind=1):AU r=some (iW r,0):=by
 unfold AU;obtain⟨b,e,q⟩:=xG r;rw[e,q.2 h,hk]
 rfl
theorem WE {o:au} {q p:Int} (h:rG o) (hr:fA o) (hq:1<=q) (hp:1<=p):
 Wq (yc o q p) fun r=>(vg o->r=(qY o q p,0))/\(¬vg o->r.2≠0):=by
 have hv:=hr.version
 unfold yc
 rw[lJ hv (by decide),aj,jo,aj,decide_eq_true h,aJ,aQ,cu (I9 (by omega)),cu (I9 (by omega))]
 unfold inI at hv
 by_cases hm:o.version+1<=9223372036854775807
 ·rw[if_pos ⟨by omega,hm⟩]
  simp only[mM,aJ,aQ]
  unfold aF
  rw[Gf ⟨by omega,hm⟩,BF,aj]
  simp only[qB,gy,ah,aW,bG,bU,dw,aX,aU,cZ,dn,bJ,dA,bf,bn,dG,dK,true_implies,ne_eq,not_true_eq_false,false_implies,and_true,true_and,or_self,reduceCtorEq]
  unfold vg
  refine⟨fun h1=>⟨fun _=>⟨fun h2=>absurd h2.1 h1,fun _=>by decide⟩,fun h2=>absurd h2 h1⟩,fun h1=>⟨fun h2=>⟨fun _=>⟨fun h3=>absurd (by simpa using h2) h3.2.1,fun _=>by decide⟩,fun h3=>by rw[h2]at h3;cases h3⟩,fun h2=> ?_⟩⟩
  have h2:¬rZ o:=by simpa using h2
  refine⟨fun h3=>⟨fun h4=>(by rw[h4.2.2.1]at h3;cases h3),fun _=>by decide⟩,fun h3=>⟨fun _=>rfl,fun h4=>absurd ⟨h1,h2,h3,by omega⟩ h4⟩⟩
 ·rw[if_neg (by unfold inI;omega)]
  simp only[yE,aY,aV,ah]
  exact⟨fun h2=>(by have:=h2.2.2.2;omega),fun _=>by decide⟩
theorem aau {o:au} (h:rG o) (h3:o.phase≠3):ER o=some (if o.asked=true then (o,8)else (VP o,0)):=by
 unfold ER;rw[jo,aj,decide_eq_true h,aJ,aQ,cu (by rw[bn];exact h3),J5];split<;>rfl
def MZ (n:uy):bV:=⟨6,n.order,0,0,0,n.qty,n.price,0,0,0,false,n.seq,n.what⟩
theorem Ik (o:au):yN o=some (Ei o):=rfl
theorem Zh (o:au) (n:uy):Df o n=some (if n.what=1 then (QJ o 2,true)else if n.what=2 then (Ei o,true)else (o,false)):=by
 unfold Df;rw[Ik,aj,ja,ja];split
 ·rfl
 ·split<;>rfl
theorem YW {o:au} {n:uy} (h:rG o) (hr:fA o) (hp:o.phase=2) (hn:n.what=3->1<=n.qty/\inI n.qty):
 Wq (C9 o n) fun r=>match MK o n.what n.qty n.price with | some p=>r=(p,true) | none=>r.2=false:=by
 have hq:=hr.qty;have hf:=hr.filled
 have h1:=h.2.1;have h2:=h.2.2.1
 unfold inI at hq hf
 unfold C9 MK
 rw[if_neg (by omega),if_pos hp]
 unfold aS aF
 rw[Gf (n:=o.qty - o.filled) ⟨by omega,by omega⟩]
 by_cases k3:n.what=3
 ·obtain⟨g1,g2⟩:=hn k3
  unfold inI at g2
  rw[if_pos k3,aB (by rw[bf];exact k3),gy]
  refine⟨fun h4=> ?_,fun h4=> ?_⟩
  ·rw[cZ]at h4
   rw[if_pos h4,ah]
  ·rw[dn]at h4
   rw[if_neg (by omega),Gf ⟨by omega,by omega⟩,gy]
   refine⟨fun h5=> ?_,fun h5=> ?_⟩
   ·rw[cZ]at h5
    rw[if_pos h5,ah];rfl
   ·rw[dn]at h5
    rw[if_neg (by omega),Ik,aj,ah];rfl
 rw[if_neg k3,cu (by rw[bn];exact k3)]
 by_cases k4:n.what=4
 ·rw[if_pos k4,aB (by rw[bf];exact k4),Ik,aj,ah]
 rw[if_neg k4,cu (by rw[bn];exact k4)]
 by_cases k5:n.what=5
 ·rw[if_pos k5,aB (by rw[bf];exact k5),BF,aj,gy]
  refine⟨fun hb=> ?_,fun hb=> ?_⟩
  ·simp only[aW,bG,bU,dw,aX,aU,cZ,dn,bJ,dA,bf,bn,dG,dK,decide_eq_false_iff_not]at hb
   rw[if_neg (by rintro⟨a1,a2,a3,a4⟩;rcases hb with ((hb | hb) | hb) | hb;exact hb a1;exact hb a2;exact hb a3;omega),ah]
  ·simp only[aW,bG,bU,dw,aX,aU,cZ,dn,bJ,dA,bf,bn,dG,dK,decide_eq_true_eq]at hb
   rw[if_pos ⟨hb.1.1.1,hb.1.1.2,hb.1.2,by omega⟩]
   exact(ah _).2 rfl
 rw[if_neg k5,cu (by rw[bn];exact k5)]
 by_cases k6:n.what=6
 ·rw[if_pos k6,aB (by rw[bf];exact k6),BF]
  by_cases hb:rZ o
  ·rw[if_pos hb,decide_eq_true hb];exact(ah _).2 rfl
  ·rw[if_neg hb,decide_eq_false hb];exact(ah _).2 rfl
 rw[if_neg k6,cu (by rw[bn];exact k6),ah]
theorem YN {o:au} {n:uy} (h:rG o) (hr:fA o) (hn:vZ (MZ n)) (hi:n.order=o.id) (hq:inI n.qty):
 CW o n=some (match MK o n.what n.qty n.price with | some p=>(p,0) | none=>(o,8)):=by
 refine Wq.eq ?_
 unfold CW
 obtain⟨b,e,q⟩:=xG (MZ n)
 rw[jo,aj,decide_eq_true h,aJ,aY,aV,show yL n=some (MZ n)from rfl,aj,aV,e,q.2 hn,aj,aJ,dW,dW,cu (by rw[aU,bf];exact hi),gy]
 refine⟨fun h1=> ?_,fun h1=> ?_⟩
 ·rw[bf]at h1
  rw[Zh,aj]
  unfold MK
  rw[if_pos h1]
  by_cases k1:n.what=1
  ·simp only[if_pos k1];exact(ah _).2 rfl
  ·by_cases k2:n.what=2
   ·simp only[if_neg k1,if_pos k2];exact(ah _).2 rfl
   ·simp only[if_neg k1,if_neg k2];exact(ah _).2 rfl
 ·rw[bn]at h1
  rw[gy]
  refine⟨fun h2=> ?_,fun h2=> ?_⟩
  ·rw[bf]at h2
   refine Wq.bind (YW h hr h2 fun k3=> ?_) fun y hy=> ?_
   ·unfold vZ MZ at hn
    simp only at hn
    refine⟨?_,hq⟩
    omega
   ·rw[gy]
    cases ht:MK o n.what n.qty n.price with
    |none=>
     simp only[ht]at hy
     rw[hy]
     exact⟨fun _=>(ah _).2 rfl,fun h=>(by cases h)⟩
    |some p=>
     simp only[ht]at hy
     rw[hy]
     exact⟨fun h=>(by cases h),fun _=>(ah _).2 rfl⟩
  ·rw[bn]at h2
   rw[ah]
   unfold MK
   rw[if_neg h1,if_neg h2]
def YD (s:ax) (l:List au):ax:=⟨s.accounts,s.symbols,l,dR s l,s.limits,s.caps,s.kill,s.last,s.seq,s.lsn⟩
def aah (s:ax):Prop:=(∀c∈s.cells,okC c)/\Wu s.accounts s.symbols s.cells
def RJ (was now:ax) (a y:Int):Prop:=
 Ef (ofC (ai was.cells (itn (a*was.symbols+y)))) (ofC (ai now.cells (itn (a*was.symbols+y)))) (ai was.limits (itn (a*was.symbols+y)))\/
 Xh (nJ (qy was.symbols was.cells a)) (nJ (qy was.symbols now.cells a)) (ai was.caps (itn a))
instance (s t:ax) (a y:Int):Decidable (RJ s t a y):=by unfold RJ;infer_instance
open Classical in
noncomputable def LY (s t:ax) (a y:Int):ax×Int:=
 if ¬aah t then (s,3)else if RJ s t a y then (s,4)else (⟨t.accounts,t.symbols,t.orders,t.cells,t.limits,t.caps,t.kill,t.last,t.seq,t.lsn+1⟩,0)
def afc (s:ax) (o:au) (q:Int):List aN:=
 cO s.cells (itn (atZ s.symbols o)) ⟨if o.side=1 then (ai s.cells (itn (atZ s.symbols o))).pos+q else (ai s.cells (itn (atZ s.symbols o))).pos - q,(ai s.cells (itn (atZ s.symbols o))).buy,(ai s.cells (itn (atZ s.symbols o))).sell,(ai s.cells (itn (atZ s.symbols o))).opn⟩
def evS (s:ax) (r:bV) (k:Nat) (p:au):ax:=
 let o:=ai s.orders k
 let s':ax:=⟨s.accounts,s.symbols,s.orders,if r.what=3 then afc s o r.qty else s.cells,s.limits,s.caps,s.kill,s.last,r.seq,s.lsn+1⟩
 YD s' (if p.phase=3 then s.orders.eraseIdx k else cO s.orders k p)
def Px (s:ax) (r:bV):Prop:=jw s/\vZ r/\s.lsn<1000000000/\r.account<s.accounts/\r.symbol<s.symbols/\(r.kind=1->s.last<r.order)
open Classical in
noncomputable def doS (s:ax) (r:bV):ax×Int:=
 if ¬Px s r then (s,1)
 else if r.kind=1 then
  if s.kill=true then (s,5)else if s.orders.length=64 then (s,6)
  else LY s ⟨s.accounts,s.symbols,bP s.orders [iW r],dR s (bP s.orders [iW r]),s.limits,s.caps,s.kill,r.order,s.seq,s.lsn⟩ r.account r.symbol
 else if r.kind=2 then
  match sO s.orders r.order with
  |none=>(s,7)
  |some k=>
   if ¬vg (ai s.orders k)then (s,8)else if s.kill=true then (s,5)
   else LY s (YD s (cO s.orders k (qY (ai s.orders k) r.qty r.price))) (ai s.orders k).account (ai s.orders k).symbol
 else if r.kind=3 then
  match sO s.orders r.order with
  |none=>(s,7)
  |some k=>if (ai s.orders k).asked=true then (s,8)else (⟨s.accounts,s.symbols,cO s.orders k (VP (ai s.orders k)),s.cells,s.limits,s.caps,s.kill,s.last,s.seq,s.lsn+1⟩,0)
 else if r.kind=4 then
  if r.symbol= -1 then (⟨s.accounts,s.symbols,s.orders,s.cells,s.limits,cO s.caps (itn r.account) r.opn,s.kill,s.last,s.seq,s.lsn+1⟩,0)
  else (⟨s.accounts,s.symbols,s.orders,s.cells,cO s.limits (itn (r.account*s.symbols+r.symbol)) ⟨r.long,r.short,r.opn⟩,s.caps,s.kill,s.last,s.seq,s.lsn+1⟩,0)
 else if r.kind=5 then (⟨s.accounts,s.symbols,s.orders,s.cells,s.limits,s.caps,r.on,s.last,s.seq,s.lsn+1⟩,0)
 else if r.seq≠s.seq+1 then (s,11)
 else match sO s.orders r.order with
  |none=>(⟨s.accounts,s.symbols,s.orders,s.cells,s.limits,s.caps,s.kill,s.last,r.seq,s.lsn+1⟩,0)
  |some k=>match MK (ai s.orders k) r.what r.qty r.price with
   |none=>(⟨s.accounts,s.symbols,s.orders,s.cells,s.limits,s.caps,s.kill,s.last,r.seq,s.lsn+1⟩,0)
   |some p=>(evS s r k p,0)
theorem akU {n:Int} (h1:0<=n) (h2:n<1000000000):wr .i64 (aF n 1)=n+1:=by unfold aF;exact dL (by omega) (by omega)
theorem Y5 {s:ax} (hs:qA s) {o:au} (h:Di s o):∃k:Nat,bK s o.account o.symbol=some (k:Int)/\atZ s.symbols o=(k:Int)/\k<s.cells.length:=by
 obtain⟨ho,_,g1,g2⟩:=h;obtain⟨⟨_,hb1,hb2,_⟩,_⟩:=id ho;obtain⟨k,k1,k2,k3⟩:=KD hs o.account o.symbol hb1.1 g1 hb2.1 g2;exact⟨k,k1,k2.symm,k3⟩
theorem acV {s:ax} (hR:jw s) (l:List au) (k:Nat) (hk:k<s.cells.length) (c:aN) (hc:c=lN ⟨s.cells[k].pos,0,0,0⟩ (lQ s.symbols k l))
 (ho:∀j:Nat,j≠k->lQ s.symbols j l=lQ s.symbols j s.orders):dR s l=s.cells.set k c:=by
 refine List.ext_getElem (by rw[jL,List.length_set]) fun j h1 h2=> ?_
 rw[nV,List.getElem_set]
 have hj:j<s.cells.length:=by simpa [dR] using h1
 split
 ·rename_i e;subst e;exact hc.symm
 ·rename_i e
  rw[ho j (by omega),<-nV s s.orders j (by rw[jL];exact hj)]
  congr 1
  exact hR.cells.symm
theorem cell_of {s:ax} (hR:jw s) (k:Nat) (hk:k<s.cells.length):s.cells[k]=lN ⟨s.cells[k].pos,0,0,0⟩ (lQ s.symbols k s.orders):=by
 have:=nV s s.orders k (by rw[jL];exact hk);rw[<-this];congr 1;exact hR.cells
theorem acu {n:Int} {o:au} {k:Nat} (h:atZ n o=(k:Int)):inC n k o=wC o:=by unfold inC;rw[if_pos h]
theorem TR {n:Int} {o:au} {k j:Nat} (h:atZ n o=(k:Int)) (hj:j≠k):inC n j o=zC:=by unfold inC;rw[if_neg (by omega)]
theorem akP {s:ax} (hR:jw s) (o:au) (k:Nat) (hk:k<s.cells.length) (ha:atZ s.symbols o=(k:Int)):dR s (s.orders++[o])=s.cells.set k (oC s.cells[k] o):=by
 refine acV hR _ k hk _ ?_ fun j hj=> ?_
 ·rw[uI,V5,acu ha,<-DN,<-cell_of hR k hk,Uc]
 ·rw[uI,V5,TR ha hj,Kz]
theorem FK.find {l:List au} (h:FK l) {i j:Nat} (hi:i<l.length) (hj:j<l.length) (e:l[i].id=l[j].id):i=j:=by
 rcases Nat.lt_trichotomy i j with h1 | h1 | h1
 ·have:=List.pairwise_iff_getElem.1 h i j hi hj h1;omega
 ·exact h1
 ·have:=List.pairwise_iff_getElem.1 h j i hj hi h1;omega
theorem ah2 {c:aN} {o:au} {d:aN} (h:c=lN d (wC o)):pJ c o=d:=by
 subst h;unfold pJ wC lN;split<;>apply yR<;>simp only<;>omega
def UY (s:ax) (m k:Nat):aN:=lN (lN (lQ s.symbols k (s.orders.take m)) (lQ s.symbols k (s.orders.drop (m+1)))) zC
theorem LD {s:ax} (hR:jw s) (m:Nat) (hm:m<s.orders.length) (k:Nat) (hk:k<s.cells.length) (ha:atZ s.symbols s.orders[m]=(k:Int)):
 pJ s.cells[k] s.orders[m]=lN ⟨s.cells[k].pos,0,0,0⟩ (UY s m k):=by
 refine ah2 ?_
 have h:=cell_of hR k hk
 rw[DX s.symbols k s.orders m hm,acu ha]at h
 unfold UY
 rw[Kz,DN]
 exact h
theorem aiG {s:ax} (hk:∀o∈s.orders,rG o/\fA o) (m k:Nat):nnC (UY s m k):=by
 unfold UY;rw[Kz];exact Zj (LQ _ _ fun o h=>hk o (List.mem_of_mem_take h)) (LQ _ _ fun o h=>hk o (List.mem_of_mem_drop h))
theorem agE {s:ax} (hR:jw s) (m:Nat) (hm:m<s.orders.length) (p:au) (k:Nat) (hk:k<s.cells.length) (ha:atZ s.symbols s.orders[m]=(k:Int)) (hp:atZ s.symbols p=(k:Int)):
 dR s (s.orders.set m p)=s.cells.set k (oC (pJ s.cells[k] s.orders[m]) p):=by
 refine acV hR _ k hk _ ?_ fun j hj=> ?_
 ·rw[LD hR m hm k hk ha,U8 s.symbols k s.orders m hm,acu hp,Uc]
  unfold UY
  rw[Kz,DN]
 ·rw[U8 s.symbols j s.orders m hm,DX s.symbols j s.orders m hm,TR hp hj,TR ha hj]
theorem akV {s:ax} (hR:jw s) (m:Nat) (hm:m<s.orders.length) (k:Nat) (hk:k<s.cells.length) (ha:atZ s.symbols s.orders[m]=(k:Int)):
 dR s (s.orders.eraseIdx m)=s.cells.set k (pJ s.cells[k] s.orders[m]):=by
 refine acV hR _ k hk _ ?_ fun j hj=> ?_
 ·rw[LD hR m hm k hk ha,U0 s.symbols k s.orders m hm]
  unfold UY
  rw[Kz]
 ·rw[U0 s.symbols j s.orders m hm,DX s.symbols j s.orders m hm,TR ha hj,Kz]
theorem abQ {s:ax} (hR:jw s) (hr:kT s) (m:Nat) (hm:m<s.orders.length) (k:Nat) (hk:k<s.cells.length) (ha:atZ s.symbols s.orders[m]=(k:Int)):okC (pJ s.cells[k] s.orders[m]):=by
 have hall:∀o∈s.orders,rG o/\fA o:=fun o h=>⟨(hR.fine.ords o h).1,hr.orders.1 o h⟩;have hm':=hall s.orders[m] (List.getElem_mem _);have h1:=hR.ok s.cells[k] (List.getElem_mem _);rw[LD hR m hm k hk ha];have h2:=aiG hall m k;have h3:=ahj hm'.1 hm'.2;have h4:s.cells[k]=lN (lN ⟨s.cells[k].pos,0,0,0⟩ (UY s m k)) (wC s.orders[m]):=by
  have:=LD hR m hm k hk ha;rw[<-this];unfold pJ wC lN;split<;>apply yR<;>simp only<;>omega
 rw[ET]at h1 ⊢;have b1:=congrArg aN.buy h4;have b2:=congrArg aN.sell h4;have b3:=congrArg aN.opn h4;unfold nnC at h2 h3;unfold inI at*;simp only[lN]at*;omega
theorem adJ {n:Int} {cs:List aN} (h:∀c∈cs,okC c) (a:Int):∀c∈qy n cs a,0<=c.opn/\inI c.opn:=fun c hc=>by
 have:=h c (YC hc);exact⟨this.2.1.2.2,this.1.opn⟩
theorem ag8 {n:Int} (hn:0<=n) {cs:List aN} {k:Nat} {c:aN} {a y b:Int} (ha:0<=a) (hy:0<=y) (hy2:y<n) (hk:(k:Int)=a*n+y) (hb:0<=b) (hab:b≠a):qy n (cs.set k c) b=qy n cs b:=by
 unfold qy;rcases Int.lt_or_gt_of_ne hab with h | h
 ·have h1:(b+1)*n<=a*n:=Int.mul_le_mul_of_nonneg_right (by omega) hn;have h2:(b+1)*n=b*n+n:=by rw[Int.add_mul,Int.one_mul]
  have h3:0<=b*n:=Int.mul_nonneg hb hn;rw[List.drop_set];rw[if_neg (by omega),List.take_set_of_le (by omega)]
 ·have h1:(a+1)*n<=b*n:=Int.mul_le_mul_of_nonneg_right (by omega) hn;have h2:(a+1)*n=a*n+n:=by rw[Int.add_mul,Int.one_mul]
  rw[List.drop_set_of_lt (by omega)]
theorem ads {s t:ax} (hR:jw s) (hn1:t.accounts=s.accounts) (hn2:t.symbols=s.symbols) {k:Nat} {c:aN} {a y:Int} (ha:0<=a) (ha2:a<s.accounts) (hy:0<=y) (hy2:y<s.symbols) (hk:(k:Int)=a*s.symbols+y) (hkl:k<s.cells.length)
 (hc:t.cells=s.cells.set k c):aah t↔okC c/\nJ (qy s.symbols t.cells a)<=9223372036854775807:=by
 unfold aah Wu
 rw[hn1,hn2]
 constructor
 ·rintro⟨h1,h2⟩
  refine⟨h1 c ?_,h2 a ha ha2⟩
  rw[hc];exact List.mem_set hkl _
 ·rintro⟨h1,h2⟩
  refine⟨fun d hd=> ?_,fun b hb hb2=> ?_⟩
  ·rw[hc]at hd
   rcases List.mem_or_eq_of_mem_set hd with hd | rfl
   ·exact hR.ok d hd
   ·exact h1
  ·by_cases e:b=a
   ·subst e;exact h2
   ·rw[hc,ag8 (by omega) ha hy hy2 hk hb e]
    exact hR.acct b hb hb2
theorem aiq {s t:ax} (hR:jw s) (ht:qA t) (hn1:t.accounts=s.accounts) (hn2:t.symbols=s.symbols) (hl:t.limits=s.limits) (hcp:t.caps=s.caps) (hok:∀c∈t.cells,okC c) {k:Nat} {a y:Int} (ha:0<=a) (ha2:a<s.accounts) (hy:0<=y) (hy2:y<s.symbols) (hk:(k:Int)=a*s.symbols+y) (hkl:k<s.cells.length):
 eY t s a y=some (if ¬nJ (qy s.symbols t.cells a)<=9223372036854775807 then 3 else if RJ s t a y then 4 else 0):=by
 have hs:=hR.sized
 obtain⟨l1,l2,l3,l4⟩:=hs.lens
 obtain⟨m1,m2,m3,m4⟩:=ht.lens
 have hcl:t.cells.length=s.cells.length:=by
  have:=ht.2.2.1;have:=hs.2.2.1
  rw[hn1,hn2]at*
  simp only[len]at *; omega
 obtain⟨k',e1,e2,e3⟩:=KD ht a y ha (by omega) hy (by omega)
 have hkk:k'=k:=by rw[hn2]at e2;omega
 subst hkk
 have hkt:k'<t.cells.length:=by omega
 have hkm:k'<t.limits.length:=by omega
 have ln1:=QD (n:=s.symbols) (cs:=s.cells) (a:=a)
 have ln2:=QD (n:=s.symbols) (cs:=t.cells) (a:=a)
 unfold eY
 rw[e1,aj,QT ht a ha (by omega),aj,hn2,Fp (by omega) (adJ hok a),aj]
 by_cases hw:nJ (qy s.symbols t.cells a)<=9223372036854775807
 ·rw[if_pos hw,if_neg (by simpa using hw)]
  simp only[mM,aJ,aQ]
  rw[QT hs a ha ha2,aj,Fp (by omega) (adJ hR.ok a),aj,if_pos (hR.acct a ha ha2),aB (inb _ k' hkl),aZ _ k' hkl,XC (hR.ok _ (List.getElem_mem _)),aj,
   aB (inb _ k' hkt),aZ _ k' hkt,XC (hok _ (List.getElem_mem _)),aj,aB (inb _ k' hkm),aZ _ k' hkm,TL,aj]
  have hac:band (ile 0 a) (ilt a (len t.caps))=true:=ND (nC ha) (PI (by simp only[len];omega))
  rw[aB (by rw[bU];exact .inl hac),kD,CB,Dx]
  have hst:RJ s t a y↔Ef (ofC s.cells[k']) (ofC t.cells[k']) t.limits[k']\/Xh (nJ (qy s.symbols s.cells a)) (nJ (qy s.symbols t.cells a)) (ai t.caps (itn a)):=by
   unfold RJ
   rw[<-hk,aZ _ k' hkl,aZ _ k' hkt,aZ _ k' (by omega),hcp]
   simp only[hl]
  by_cases hx:Ef (ofC s.cells[k']) (ofC t.cells[k']) t.limits[k']
  ·rw[if_pos hx,aj,decide_eq_true hx,ql,aV,if_pos (hst.2 (.inl hx))]
  ·rw[if_neg hx,aj,decide_eq_false hx,dW,CB]
   by_cases hz:Xh (nJ (qy s.symbols s.cells a)) (nJ (qy s.symbols t.cells a)) (ai t.caps (itn a))
   ·rw[if_pos hz,if_pos (hst.2 (.inr hz))]
   ·rw[if_neg hz,if_neg fun h=>(hst.1 h).elim hx hz]
 ·rw[if_neg hw,if_pos hw]
  simp only[yE,aY,aV]
theorem agD {l:List au} {i:Nat} (hi:i<l.length) (hl:l.length<1000):jb l i (wr .i64 (aF i 1))=some (l.eraseIdx i):=by
 rw[dH (by omega)];unfold jb;have e1:bF (dF l (itn ((i+1:Nat):Int))) (itn (aS (len l) ((i+1:Nat):Int)))=l.drop (i+1):=by
  simp only[bF,dF,itn,aS,len,Int.toNat_natCast];rw[List.take_of_length_le (by simp;omega)]
 rw[e1];have e2:nad (itn (i:Int)) (itn (len (l.drop (i+1))))=l.length - 1:=by simp [nad,itn,len];omega
 simp only[e2];have e3:(mY l (itn (i:Int)) (l.drop (i+1))).length=l.length:=by simp [mY,itn];omega
 rw[aB (by simp only[aW,bJ,len];omega),cu (by rw[bn];omega),aB (by simp only[aW,bJ,len];omega),aB (by simp only[aW,bJ,len];omega),
  aB (by simp only[bJ,len,nti,itn,aF,List.length_drop,Int.toNat_natCast];omega),aB (by simp only[aW,bJ,len,nti,aS,e3];omega)]
 congr 1;simp only[bF,dF,mY,itn,nad,nti,len,aS,Int.toNat_natCast,List.drop_zero,Nat.zero_add];rw[List.eraseIdx_eq_take_drop_succ];have e4:(l.take i++(l.drop (i+1)++l.drop (i+(l.drop (i+1)).length))).take (l.length - 1)=l.take i++l.drop (i+1):=by
  rw[<-List.append_assoc,List.take_append_of_le_length (by simp;omega),List.take_of_length_le (by simp;omega)]
 rw[e4,List.take_append_of_le_length (by simp;omega),List.take_of_length_le (by simp;omega)]
structure agI (o p:au) (what q:Int):Prop where
 ord:rG p
 rng:fA p
 id:p.id=o.id
 account:p.account=o.account
 symbol:p.symbol=o.symbol
 side:p.side=o.side
 opn:jV p+(if what=3 then q else 0)<=jV o
 worth:gG p<=gG o
 phase:p.phase=2\/p.phase=3
theorem afU {o:au} (h:rG o):rG (Ei o):=by
 obtain⟨h1,h2,h3,h4,h5,h6⟩:=h;exact⟨h1,h2,h3,h4,fun h=>by simp [rZ,Ei]at h,.inr (.inr ⟨rfl,by simp [rZ,Ei]⟩)⟩
theorem afV {o:au} (h:fA o):fA (Ei o):=⟨h.id,h.account,h.symbol,h.side,h.qty,h.price,h.filled,(by decide:inI 3),(by decide:inI 0),(by decide:inI 0),h.version⟩
theorem LP (o:au):jV (Ei o)=0/\gG (Ei o)=0:=⟨rfl,rfl⟩
theorem XG {o:au} {what q:Int} (h:rG o) (hr:fA o) (hq:what=3->q<=jV o):agI o (Ei o) what q:=by
 have:=Dl h hr;have:=Dq h;refine⟨afU h,afV hr,rfl,rfl,rfl,rfl,?_,by rw[(LP o).2];omega,.inr rfl⟩;rw[(LP o).1];split
 ·rename_i h3;have:=hq h3;omega
 ·omega
theorem KH {o:au} (h:o.phase≠3):jV o=max o.qty o.newQty - o.filled:=by unfold jV;rw[if_neg h]
theorem xg {o:au} (h:o.phase≠3):gG o=if o.newQty<=o.filled then (o.qty - o.filled)*o.price else max ((o.qty - o.filled)*o.price) ((o.newQty - o.filled)*o.newPrice):=by unfold gG;rw[if_neg h]
theorem aaS {a b c:Int} (h:a<=b) (hc:0<=c):a*c<=b*c:=Int.mul_le_mul_of_nonneg_right h hc
theorem abY {o p:au} {what q pr:Int} (h:rG o) (hr:fA o) (ht:MK o what q pr=some p) (h3:what=3->1<=q) (h5:what=5->1<=q/\1<=pr) (rq:inI q) (rp:inI pr):agI o p what q:=by
 obtain⟨g1,g2,g3,g4,g5,g6⟩:=id h;have hb1:=g1.2.2.2.2.1;have hb2:=g1.2.2.2.2.2;have r1:=hr.qty;have r2:=hr.filled;have r3:=hr.newQty;have r4:=hr.newPrice;unfold inI at r1 r2 r3;unfold MK at ht;by_cases p1:o.phase=1
 ·rw[if_pos p1]at ht;have hp:o.filled=0/\o.version=0/\¬rZ o:=by
   rcases g6 with g | g | g
   ·exact g.2
   ·omega
   ·omega
  by_cases k1:what=1
  ·rw[if_pos k1]at ht;cases ht;refine⟨⟨g1,g2,g3,g4,g5,.inr (.inl ⟨rfl,by show o.filled<o.qty;omega⟩)⟩,⟨hr.id,hr.account,hr.symbol,hr.side,hr.qty,hr.price,hr.filled,(by decide:inI 2),hr.newQty,hr.newPrice,hr.version⟩,rfl,rfl,rfl,rfl,?_,?_,.inl rfl⟩
   ·have e1:jV (QJ o 2)=max o.qty o.newQty - o.filled:=KH (o:=QJ o 2) (by show(2:Int)≠3;decide);rw[if_neg (by omega),e1,KH (o:=o) (by omega)];omega
   ·have e1:gG (QJ o 2)=if o.newQty<=o.filled then (o.qty - o.filled)*o.price else max ((o.qty - o.filled)*o.price) ((o.newQty - o.filled)*o.newPrice):=xg (o:=QJ o 2) (by show(2:Int)≠3;decide)
    rw[e1,xg (o:=o) (by omega)];exact Int.le_refl _
  ·rw[if_neg k1]at ht;by_cases k2:what=2
   ·rw[if_pos k2]at ht;cases ht;exact XG h hr fun h=>by omega
   ·rw[if_neg k2]at ht;cases ht
 ·rw[if_neg p1]at ht;by_cases p2:o.phase=2
  ·rw[if_pos p2]at ht;have hlt:o.filled<o.qty:=by rcases g6 with g | g | g<;>omega
   by_cases k3:what=3
   ·rw[if_pos k3]at ht;have hq1:=h3 k3;by_cases c1:o.qty - o.filled<q
    ·rw[if_pos c1]at ht;cases ht
    ·rw[if_neg c1]at ht;have hoo:jV o=max o.qty o.newQty - o.filled:=by unfold jV;rw[if_neg (by omega)]
     have hfl:rG (Sm o (o.filled+q))\/¬(o.filled+q<o.qty):=by
      by_cases c2:o.filled+q<o.qty
      ·exact .inl ⟨g1,by show 0<=o.filled+q;omega,by show o.filled+q<=o.qty;omega,g4,g5,.inr (.inl ⟨p2,c2⟩)⟩
      ·exact .inr c2
     by_cases c2:o.filled+q<o.qty
     ·rw[if_pos c2]at ht;cases ht;refine⟨hfl.resolve_right (by omega),⟨hr.id,hr.account,hr.symbol,hr.side,hr.qty,hr.price,⟨by show _<=o.filled+q;omega,by show o.filled+q<=_;omega⟩,hr.phase,hr.newQty,hr.newPrice,hr.version⟩,rfl,rfl,rfl,rfl,?_,?_,.inl p2⟩
      ·have e1:jV (Sm o (o.filled+q))=max o.qty o.newQty - (o.filled+q):=KH (o:=Sm o (o.filled+q)) (by show o.phase≠3;omega);rw[if_pos k3,hoo,e1];omega
      ·have e1:gG (Sm o (o.filled+q))=if o.newQty<=o.filled+q then (o.qty - (o.filled+q))*o.price else max ((o.qty - (o.filled+q))*o.price) ((o.newQty - (o.filled+q))*o.newPrice):=xg (o:=Sm o (o.filled+q)) (by show o.phase≠3;omega)
       rw[e1,xg (o:=o) (by omega)];have m1:(o.qty - (o.filled+q))*o.price<=(o.qty - o.filled)*o.price:=aaS (by omega) (by omega);by_cases n1:o.newQty<=o.filled
       ·rw[if_pos n1,if_pos (by omega)];exact m1
       ·have hnp:=ada h (by omega);have m2:(o.newQty - (o.filled+q))*o.newPrice<=(o.newQty - o.filled)*o.newPrice:=aaS (by omega) (by omega);rw[if_neg n1];split<;>omega
     ·rw[if_neg c2]at ht;cases ht;have hod:rG (Ei (Sm o (o.filled+q))):=by
       refine⟨g1,by show 0<=o.filled+q;omega,by show o.filled+q<=o.qty;omega,g4,fun h=>by simp [rZ,Ei]at h,.inr (.inr ⟨rfl,by simp [rZ,Ei]⟩)⟩
      refine⟨hod,⟨hr.id,hr.account,hr.symbol,hr.side,hr.qty,hr.price,⟨by show _<=o.filled+q;omega,by show o.filled+q<=_;omega⟩,(by decide:inI 3),(by decide:inI 0),(by decide:inI 0),hr.version⟩,rfl,rfl,rfl,rfl,?_,by rw[(LP _).2];exact Dq h,.inr rfl⟩;rw[(LP _).1,if_pos k3,hoo];omega
   ·rw[if_neg k3]at ht;by_cases k4:what=4
    ·rw[if_pos k4]at ht;cases ht;exact XG h hr fun h=>by omega
    ·rw[if_neg k4]at ht;have hoo:jV o=max o.qty o.newQty - o.filled:=by unfold jV;rw[if_neg (by omega)]
     by_cases k5:what=5
     ·rw[if_pos k5]at ht;by_cases c1:rZ o/\q=o.newQty/\pr=o.newPrice/\o.filled<q
      ·rw[if_pos c1]at ht;cases ht;obtain⟨c1,c2,c3,c4⟩:=c1;obtain⟨h51,h52⟩:=h5 k5;refine⟨⟨⟨g1.1,g1.2.1,g1.2.2.1,g1.2.2.2.1,h51,h52⟩,g2,by show o.filled<=q;omega,g4,fun h=>by simp [rZ,Xy]at h,.inr (.inl ⟨p2,c4⟩)⟩,⟨hr.id,hr.account,hr.symbol,hr.side,rq,rp,hr.filled,hr.phase,(by decide:inI 0),(by decide:inI 0),hr.version⟩,rfl,rfl,rfl,rfl,?_,?_,.inl p2⟩
       ·have e1:jV (Xy o q pr)=max q 0 - o.filled:=KH (o:=Xy o q pr) (by show o.phase≠3;omega);rw[if_neg k3,hoo,e1];omega
       ·have e1:gG (Xy o q pr)=if 0<=o.filled then (q - o.filled)*pr else max ((q - o.filled)*pr) ((0 - o.filled)*0):=xg (o:=Xy o q pr) (by show o.phase≠3;omega)
        rw[e1,xg (o:=o) (by omega),if_pos g2,if_neg (by omega),c2,c3];exact Int.le_max_right _ _
      ·rw[if_neg c1]at ht;cases ht
     ·rw[if_neg k5]at ht;by_cases k6:what=6
      ·rw[if_pos k6]at ht;by_cases c1:rZ o
       ·rw[if_pos c1]at ht;cases ht;refine⟨⟨g1,g2,g3,g4,fun h=>by simp [rZ,GR]at h,.inr (.inl ⟨p2,hlt⟩)⟩,⟨hr.id,hr.account,hr.symbol,hr.side,hr.qty,hr.price,hr.filled,hr.phase,(by decide:inI 0),(by decide:inI 0),hr.version⟩,rfl,rfl,rfl,rfl,?_,?_,.inl p2⟩
        ·have e1:jV (GR o)=max o.qty 0 - o.filled:=KH (o:=GR o) (by show o.phase≠3;omega);rw[if_neg k3,hoo,e1];omega
        ·have e1:gG (GR o)=if 0<=o.filled then (o.qty - o.filled)*o.price else max ((o.qty - o.filled)*o.price) ((0 - o.filled)*0):=xg (o:=GR o) (by show o.phase≠3;omega)
         rw[e1,xg (o:=o) (by omega),if_pos g2];split
         ·exact Int.le_refl _
         ·exact Int.le_max_left _ _
       ·rw[if_neg c1]at ht;cases ht
      ·rw[if_neg k6]at ht;cases ht
  ·rw[if_neg p2]at ht;cases ht
theorem X3 {r:bV} (h:vZ r) (hk:r.kind=1):rG (iW r)/\Di ⟨8,8,[],[],[],[],false,0,0,0⟩ (iW r):=by
 unfold vZ qI at h;have h1:NR (iW r):=by unfold NR iW;simp only;omega
 have h2:¬rZ (iW r):=by simp [rZ,iW]
 have h3:rG (iW r):=⟨h1,Int.le_refl _,by have:=h1.2.2.2.2.1;show 0<=(iW r).qty;omega,Int.le_refl _,fun h=>absurd h h2,.inl ⟨rfl,rfl,rfl,h2⟩⟩;exact⟨h3,h3,by simp [iW],h1.2.1.2,h1.2.2.1.2⟩
theorem Yp {r:bV} (h:kz r):fA (iW r):=⟨h.order,h.account,h.symbol,h.side,h.qty,h.price,(by decide:inI 0),(by decide:inI 1),(by decide:inI 0),(by decide:inI 0),(by decide:inI 0)⟩
theorem VT {o:au} {q p:Int} (h:rG o) (hc:vg o) (hq:1<=q) (hp:1<=p):rG (qY o q p):=by
 obtain⟨g1,g2,g3,g4,g5,g6⟩:=id h;obtain⟨c1,c2,c3,c4⟩:=hc;exact⟨g1,g2,g3,by show 0<=o.version+1;omega,fun _=>⟨hq,hp⟩,.inr (.inl ⟨c1,by rcases g6 with g | g | g<;>(show o.filled<o.qty)<;>omega⟩)⟩
theorem UR {o:au} {q p:Int} (h:fA o) (hc:vg o) (hq:inI q) (hp:inI p):fA (qY o q p):=by
 have:=h.version;obtain⟨c1,c2,c3,c4⟩:=hc;unfold inI at this;exact⟨h.id,h.account,h.symbol,h.side,h.qty,h.price,h.filled,h.phase,hq,hp,⟨by show _<=o.version+1;omega,by show o.version+1<=_;omega⟩⟩
theorem ai6 {o:au} (h:fA o):fA (VP o):=⟨h.id,h.account,h.symbol,h.side,h.qty,h.price,h.filled,h.phase,h.newQty,h.newPrice,h.version⟩
theorem aaT {l:List au} (h:l.length<1000000):fJ l=some l:=uO h
theorem acM {l:List aN} (h:l.length<1000000):gq l=some l:=uO h
theorem abO {l:List fB} (h:l.length<1000000):gm l=some l:=uO h
theorem abD {l:List Int} (h:l.length<1000000):iF l=some l:=uO h
theorem wE {s t:ax} (hs:qA s) (h1:t.accounts=s.accounts) (h2:t.symbols=s.symbols) (h3:t.cells.length=s.cells.length) (h4:t.limits.length=s.limits.length) (h5:t.caps.length=s.caps.length) (h6:t.orders.length<=64):qA t:=by
 obtain⟨a1,a2,a3,a4,a5,a6⟩:=hs;unfold qA;simp only[len]at*;rw[h1,h2,h3,h4,h5];exact⟨a1,a2,a3,a4,a5,h6⟩
theorem ajy {s t:ax} (hR:jw s) (ht:qA t) (hn1:t.accounts=s.accounts) (hn2:t.symbols=s.symbols) (hl:t.limits=s.limits) (hcp:t.caps=s.caps) {k:Nat} {c:aN} {a y:Int} (ha:0<=a) (ha2:a<s.accounts) (hy:0<=y) (hy2:y<s.symbols) (hk:(k:Int)=a*s.symbols+y) (hkl:k<s.cells.length)
 (hc:t.cells=s.cells.set k c) (hc2:okC c):
 Wq (eY t s a y) fun e=>cnd (ak (ieq e 0)) (some (s,e)) (some (⟨t.accounts,t.symbols,t.orders,t.cells,t.limits,t.caps,t.kill,t.last,t.seq,t.lsn+1⟩,0))=some (LY s t a y):=by
 have hok:∀d∈t.cells,okC d:=fun d hd=>by
  rw[hc]at hd
  rcases List.mem_or_eq_of_mem_set hd with hd | rfl
  ·exact hR.ok d hd
  ·exact hc2
 rw[aiq hR ht hn1 hn2 hl hcp hok ha ha2 hy hy2 hk hkl,ah]
 have hf:=ads hR hn1 hn2 ha ha2 hy hy2 hk hkl hc
 unfold LY
 by_cases hw:nJ (qy s.symbols t.cells a)<=9223372036854775807
 ·rw[if_neg (c:=¬aah t) (fun h=>h (hf.2 ⟨hc2,hw⟩)),if_neg (c:=¬nJ (qy s.symbols t.cells a)<=9223372036854775807) (fun h=>h hw)]
  by_cases hst:RJ s t a y
  ·rw[if_pos hst,if_pos hst];rfl
  ·rw[if_neg hst,if_neg hst];rfl
 ·rw[if_pos (c:=¬aah t) (fun h=>hw (hf.1 h).2),if_pos (c:=¬nJ (qy s.symbols t.cells a)<=9223372036854775807) hw];rfl
theorem adQ {s t:ax} (hR:jw s) (hn1:t.accounts=s.accounts) (hn2:t.symbols=s.symbols) {k:Nat} {c:aN} {a y:Int} (ha:0<=a) (ha2:a<s.accounts) (hy:0<=y) (hy2:y<s.symbols) (hk:(k:Int)=a*s.symbols+y) (hkl:k<s.cells.length)
 (hc:t.cells=s.cells.set k c) (hc2:¬okC c):LY s t a y=(s,3):=by
 unfold LY
 rw[if_pos fun h=>hc2 ((ads hR hn1 hn2 ha ha2 hy hy2 hk hkl hc).1 h).1]
theorem Vf (n i:Int):∀(l:List au),(lQ n i l).pos=0
 |[]=>rfl
 |o::l=>by
  have h:=Vf n i l
  have:(inC n i o).pos=0:=by unfold inC wC;split<;>(try split)<;>rfl
  simp only[lQ,lN,h,this];rfl
theorem abx {s s':ax} (hsym:s'.symbols=s.symbols) {k:Nat} (hk:k<s.cells.length) {c d:aN} (hc:s'.cells=s.cells.set k d) {l:List au} (hE:dR s l=s.cells.set k c):
 dR s' l=s.cells.set k ⟨d.pos,c.buy,c.sell,c.opn⟩:=by
 have e0:dR s' l=(s.cells.set k d).mapIdx fun i c=>lN ⟨c.pos,0,0,0⟩ (lQ s.symbols i l):=by unfold dR;rw[hsym,hc]
 rw[e0]
 refine List.ext_getElem (by simp) fun j h1 h2=> ?_
 have hj:j<s.cells.length:=by simpa using h1
 rw[List.getElem_mapIdx,List.getElem_set,List.getElem_set]
 have hj2:(dR s l)[j]'(by rw[jL];exact hj)=(s.cells.set k c)[j]'(by simpa using hj):=by simp only[hE]
 rw[nV,List.getElem_set]at hj2
 by_cases e:k=j
 ·subst e
  rw[if_pos rfl,if_pos rfl]
  rw[if_pos rfl]at hj2
  rw[<-hj2]
  have:=Vf s.symbols k l
  apply yR<;>simp only[lN]<;>omega
 ·rw[if_neg e,if_neg e]
  rw[if_neg e]at hj2
  exact hj2
theorem afX {α:Type} (l:List α) (k:Nat) (a b:α):(l.set k a).set k b=l.set k b:=by simp
theorem Lp {α:Type} (l:List α) (k:Nat) (x:α):cO l (itn (k:Int)) x=l.set k x:=by simp [cO,itn]
theorem Pv {α:Type} (l:List α) (k:Nat) (x:α):cO l k x=l.set k x:=rfl
theorem vX {α:Type} [Inhabited α] (l:List α) (k:Nat) (h:k<l.length):ai l k=l[k]:=by simp [ai,h]
theorem afx (l:List au) (k:Nat) (p:au):(l.set k p).eraseIdx k=l.eraseIdx k:=by
 simp [List.eraseIdx_set_eq]
theorem ahs {c:aN} {p:au} (h:p.phase=3):oC c p=c:=by
 have h1:jV p=0:=by unfold jV;rw[if_pos h]
 have h2:gG p=0:=by unfold gG;rw[if_pos h]
 unfold oC;rw[h1,h2];split<;>simp
theorem afY (c:aN) (o:au):(oC c o).pos=c.pos:=by unfold oC;split<;>rfl
theorem ahc (c:aN) (o:au):(pJ c o).pos=c.pos:=by unfold pJ;split<;>rfl
theorem YQ {s:ax} (hR:jw s) (hr:kT s) (m:Nat) (hm:m<s.orders.length) (k:Nat) (hk:k<s.cells.length) (ha:atZ s.symbols s.orders[m]=(k:Int)) {p:au} {what q:Int} (hp:agI s.orders[m] p what q) (hq:what=3->1<=q):
 okC (oC (pJ s.cells[k] s.orders[m]) p)/\(what=3->okC ⟨if s.orders[m].side=1 then s.cells[k].pos+q else s.cells[k].pos - q,(oC (pJ s.cells[k] s.orders[m]) p).buy,(oC (pJ s.cells[k] s.orders[m]) p).sell,(oC (pJ s.cells[k] s.orders[m]) p).opn⟩):=by
 have h0:=abQ hR hr m hm k hk ha
 have h1:=hR.ok s.cells[k] (List.getElem_mem _)
 have ho:=(hR.fine.ords _ (List.getElem_mem hm)).1
 have hs:=ho.1.2.2.2.1
 have hro:=hr.orders.1 _ (List.getElem_mem hm)
 have b1:=Dl hp.ord hp.rng
 have b2:=Dq hp.ord
 have b3:=hp.opn
 have b4:=hp.worth
 have b5:=hp.side
 rw[ET]at h0 h1
 by_cases e:s.orders[m].side=2
 ·have ea:oC (pJ s.cells[k] s.orders[m]) p=⟨s.cells[k].pos,s.cells[k].buy,s.cells[k].sell - jV s.orders[m]+jV p,s.cells[k].opn - gG s.orders[m]+gG p⟩:=by
   unfold oC pJ;rw[b5,if_pos e,if_pos e]
  have es:pJ s.cells[k] s.orders[m]=⟨s.cells[k].pos,s.cells[k].buy,s.cells[k].sell - jV s.orders[m],s.cells[k].opn - gG s.orders[m]⟩:=by unfold pJ;rw[if_pos e]
  rw[ea,if_neg (by omega)]
  rw[es]at h0
  refine⟨?_,fun h3=> ?_⟩
  ·rw[ET];unfold inI at *; simp only at *; split at b3<;>omega
  ·rw[if_pos h3]at b3
   have:=hq h3
   rw[ET];unfold inI at *; simp only at *; omega
 ·have ea:oC (pJ s.cells[k] s.orders[m]) p=⟨s.cells[k].pos,s.cells[k].buy - jV s.orders[m]+jV p,s.cells[k].sell,s.cells[k].opn - gG s.orders[m]+gG p⟩:=by
   unfold oC pJ;rw[b5,if_neg e,if_neg e]
  have es:pJ s.cells[k] s.orders[m]=⟨s.cells[k].pos,s.cells[k].buy - jV s.orders[m],s.cells[k].sell,s.cells[k].opn - gG s.orders[m]⟩:=by unfold pJ;rw[if_neg e]
  rw[ea,if_pos (by omega)]
  rw[es]at h0
  refine⟨?_,fun h3=> ?_⟩
  ·rw[ET];unfold inI at *; simp only at *; split at b3<;>omega
  ·rw[if_pos h3]at b3
   have:=hq h3
   rw[ET];unfold inI at *; simp only at *; omega
theorem abo {s:ax} (hR:jw s) (m:Nat) (hm:m<s.orders.length) (k:Nat) (hk:k<s.cells.length) (ha:atZ s.symbols s.orders[m]=(k:Int)) {p:au} (hp:atZ s.symbols p=(k:Int)):
 dR s (if p.phase=3 then s.orders.eraseIdx m else s.orders.set m p)=s.cells.set k (oC (pJ s.cells[k] s.orders[m]) p):=by
 split
 ·rename_i h;rw[akV hR m hm k hk ha,ahs h]
 ·exact agE hR m hm p k hk ha hp
theorem Ur {s:ax} (hR:jw s) (r:bV) (m:Nat) (hm:m<s.orders.length) (k:Nat) (hk:k<s.cells.length) (ha:atZ s.symbols s.orders[m]=(k:Int)) {p:au} (hp:atZ s.symbols p=(k:Int)):
 evS s r m p=⟨s.accounts,s.symbols,if p.phase=3 then s.orders.eraseIdx m else s.orders.set m p,
  s.cells.set k (if r.what=3 then ⟨if s.orders[m].side=1 then s.cells[k].pos+r.qty else s.cells[k].pos - r.qty,(oC (pJ s.cells[k] s.orders[m]) p).buy,(oC (pJ s.cells[k] s.orders[m]) p).sell,(oC (pJ s.cells[k] s.orders[m]) p).opn⟩else oC (pJ s.cells[k] s.orders[m]) p),
  s.limits,s.caps,s.kill,s.last,r.seq,s.lsn+1⟩:=by
 unfold evS
 rw[vX _ m hm,Pv]
 have hmk:∀s':ax,s'.symbols=s.symbols->s'.cells=(if r.what=3 then afc s s.orders[m] r.qty else s.cells)->dR s' (if p.phase=3 then s.orders.eraseIdx m else s.orders.set m p)=
  s.cells.set k (if r.what=3 then ⟨if s.orders[m].side=1 then s.cells[k].pos+r.qty else s.cells[k].pos - r.qty,(oC (pJ s.cells[k] s.orders[m]) p).buy,(oC (pJ s.cells[k] s.orders[m]) p).sell,(oC (pJ s.cells[k] s.orders[m]) p).opn⟩else oC (pJ s.cells[k] s.orders[m]) p):=by
  intro s' h1 h2
  by_cases h3:r.what=3
  ·rw[if_pos h3]at h2 ⊢
   unfold afc at h2
   rw[ha,aZ _ k hk,Lp]at h2
   exact abx h1 hk h2 (abo hR m hm k hk ha hp)
  ·rw[if_neg h3]at h2 ⊢
   have:dR s' (if p.phase=3 then s.orders.eraseIdx m else s.orders.set m p)=dR s (if p.phase=3 then s.orders.eraseIdx m else s.orders.set m p):=by
    unfold dR;rw[h1,h2]
   rw[this,abo hR m hm k hk ha hp]
 exact congrArg (fun c=>ax.mk s.accounts s.symbols (if p.phase=3 then s.orders.eraseIdx m else s.orders.set m p) c s.limits s.caps s.kill s.last r.seq (s.lsn+1)) (hmk ⟨s.accounts,s.symbols,s.orders,if r.what=3 then afc s s.orders[m] r.qty else s.cells,s.limits,s.caps,s.kill,s.last,r.seq,s.lsn+1⟩ rfl rfl)
theorem aeC {s:ax} {r:bV} (hr:kT s) (hrr:kz r) (hl:s.orders.length<999999) (hl2:s.limits.length<999999) (hl3:s.caps.length<999999):Ad s r=some (doS s r):=by
 obtain⟨b1,e1,q1⟩:=xG r;obtain⟨b2,e2,q2⟩:=Iy s hr hl hl2 hl3;have bad:¬Px s r->doS s r=(s,1):=fun h=>by unfold doS;rw[if_pos h]
 by_cases hA:s.lsn<1000000000/\vZ r/\jw s
 case neg=>
  have hno:¬Px s r:=fun h=>hA ⟨h.2.2.1,h.2.1,h.1⟩;rw[bad hno];refine Wq.eq ?_;unfold Ad;rw[lJ hr.lsn (by decide),aj,qB];refine Wq.mono (Q:=fun y1=>y1=true->(inI (s.lsn+1)/\s.lsn<1000000000/\vZ r)) ?_ fun y1 h1=> ?_
  ·rw[gy];refine⟨fun h=> ?_,fun h=>(ah _).2 (by simp)⟩;rw[e1,ah];intro hb;simp only[aW,bG,bU,dw,aX,aU,cZ,dn,bJ,dA,bf,bn,dG,dK]at h;by_cases hin:inI (s.lsn+1)
   ·exact⟨hin,by omega,q1.1 hb⟩
   ·rw[if_neg hin]at h;simp at h
  rw[qB];refine Wq.mono (Q:=fun y2=>y2=true->(y1=true/\jw s)) ?_ fun y2 h2=> ?_
  ·rw[gy];refine⟨fun h=> ?_,fun h=>(ah _).2 (by simp)⟩;rw[e2,ah];intro hb;simp only[aW,bG,bU,dw,aX,aU,cZ,dn,bJ,dA,bf,bn,dG,dK]at h;exact⟨by simpa using h.2,q2.1 hb⟩
  rw[gy];refine⟨fun _=>(ah _).2 rfl,fun h=> ?_⟩;simp only[aW,bG,bU,dw,aX,aU,cZ,dn,bJ,dA,bf,bn,dG,dK]at h;have g2:=h2 h.2;have g1:=h1 g2.1;exact absurd ⟨g1.2.1,g1.2.2,g2.2⟩ hA
 obtain⟨hlsn,hrec,hR⟩:=hA;obtain rfl:=q1.2 hrec;obtain rfl:=q2.2 hR;have hs:=hR.sized;obtain⟨lc,ll,lcp,lo⟩:=hs.lens;have hl0:=hR.fine.lsn;have hq0:=hR.fine.seq;have h1a:=hs.1;have h1b:=hs.2.1;have good:r.account<s.accounts->r.symbol<s.symbols->(r.kind=1->s.last<r.order)->Px s r:=fun a b c=>⟨hR,hrec,hlsn,a,b,c⟩;have hwr:wr .i64 (aF s.lsn 1)=s.lsn+1:=akU hl0.1 hlsn;have hall:∀o∈s.orders,rG o/\fA o:=fun o h=>⟨(hR.fine.ords o h).1,hr.orders.1 o h⟩;unfold Ad;rw[lJ hr.lsn (by decide),aj,if_pos (c:=inI (s.lsn+1)) ⟨by omega,by omega⟩];simp only[mM,aJ,dW,Js (show ¬(1000000000:Int)<=s.lsn by omega),aY,aV,aQ,e1,e2,aj,aaT (l:=s.orders) (by omega),acM (l:=s.cells) (by omega),abO (l:=s.limits) (by omega),abD (l:=s.caps) (by omega),hwr];have eta:(ax.mk s.accounts s.symbols s.orders s.cells s.limits s.caps s.kill s.last s.seq s.lsn)=s:=rfl;simp only[eta];by_cases k1:r.kind=1
 ·rw[aB (by rw[bf];exact k1),W9 hrec k1,aj];by_cases c1:r.order<=s.last
  ·rw[bad fun h=>by have:=h.2.2.2.2.2 k1;omega];simp only[nC c1,aV]
  by_cases c2:s.accounts<=r.account
  ·rw[bad fun h=>by have:=h.2.2.2.1;omega];simp only[Js c1,nC c2,aV,aQ]
  by_cases c3:s.symbols<=r.symbol
  ·rw[bad fun h=>by have:=h.2.2.2.2.1;omega];simp only[Js c1,Js c2,nC c3,aV,aQ]
  simp only[Js c1,Js c2,Js c3,aQ];have hm:=good (by omega) (by omega) fun _=>by omega
  unfold doS;rw[if_neg (fun h:¬Px s r=>h hm),if_pos k1];by_cases hk:s.kill=true
  ·rw[if_pos hk,aB hk]
  rw[if_neg hk,cu (by simpa using hk),ja];by_cases h64:s.orders.length=64
  ·rw[if_pos (show len s.orders=64 by simp only[len];omega),if_pos h64]
  rw[if_neg (show ¬len s.orders=64 by simp only[len];omega),if_neg h64];obtain⟨ho,ho2⟩:=X3 hrec k1;have hro:=Yp hrr;have hrec':=hrec;unfold vZ at hrec';have hra:0<=r.account/\0<=r.symbol:=by omega
  obtain⟨k,g1,g2,g3⟩:=KD hs r.account r.symbol hra.1 (by omega) hra.2 (by omega);have hat:atZ s.symbols (iW r)=(k:Int):=g2.symm;have hmk:=akP hR (iW r) k g3 hat;rw[show bK s (iW r).account (iW r).symbol=some (k:Int)from g1,aj,aB (inb _ k g3),aZ _ k g3,ES (hR.ok _ (List.getElem_mem _)) ho hro,aj];have hcells:dR s (bP s.orders [iW r])=s.cells.set k (oC s.cells[k] (iW r)):=hmk;by_cases hok:okC (oC s.cells[k] (iW r))
  ·rw[if_pos hok];simp only[mM,aJ,aQ];rw[aB (nC (by simp [len,bP];omega)),Lp,<-hcells];have ht:qA ⟨s.accounts,s.symbols,bP s.orders [iW r],dR s (bP s.orders [iW r]),s.limits,s.caps,s.kill,(iW r).id,s.seq,s.lsn⟩:=wE hs rfl rfl (jL _ _) rfl rfl (by simp [bP];omega);obtain⟨e,he,hq⟩:=ajy (a:=r.account) (y:=r.symbol) hR ht rfl rfl rfl rfl hra.1 (by omega) hra.2 (by omega) g2 g3 hcells hok;rw[show eY _ s (iW r).account (iW r).symbol=some e from he,aj];exact hq
  ·rw[if_neg hok];simp only[yE,aY,aV];rw[adQ (t:=⟨s.accounts,s.symbols,bP s.orders [iW r],dR s (bP s.orders [iW r]),s.limits,s.caps,s.kill,r.order,s.seq,s.lsn⟩) hR rfl rfl hra.1 (by omega) hra.2 (by omega) g2 g3 hcells hok]
 rw[cu (by rw[bn];exact k1)];by_cases k2:r.kind=2
 ·rw[aB (by rw[bf];exact k2),Fb s r.order (by omega),aj];have hrec':=hrec;unfold vZ at hrec';have hra:r.account=0/\r.symbol=0/\1<=r.qty/\1<=r.price:=by omega
  have hm:=good (by omega) (by omega) fun h=>absurd h k1;unfold doS;rw[if_neg (fun h:¬Px s r=>h hm),if_neg k1,if_pos k2];cases hf:sO s.orders r.order with
  |none=>
   rw[H7 hf,aB (by decide)]
  |some m=>
   rw[DU hf,cu (by rw[bn];omega)];obtain⟨hm1,hm2⟩:=kJ hf;simp only[aB (inb _ m hm1),aZ _ m hm1,vX _ m hm1];obtain⟨ho,hro⟩:=hall s.orders[m] (List.getElem_mem _);obtain⟨ch,ce,cq1,cq2⟩:=WE ho hro hra.2.2.1 hra.2.2.2;rw[ce,aj];by_cases hch:vg s.orders[m]
   case neg=>
    rw[if_pos hch,aB (by rw[aX,bn];exact cq2 hch)]
   rw[if_neg (fun h:¬vg s.orders[m]=>h hch)];obtain rfl:=cq1 hch;simp only[mM,aJ,aQ];by_cases hk:s.kill=true
   ·rw[if_pos hk,aB hk]
   rw[if_neg hk,cu (by simpa using hk)];obtain⟨k,g1,g2,g3⟩:=Y5 hs (hR.fine.ords _ (List.getElem_mem hm1));have hpo:=VT ho hch hra.2.2.1 hra.2.2.2;have hpr:=UR hro hch hrr.qty hrr.price;have hat:atZ s.symbols (qY s.orders[m] r.qty r.price)=(k:Int):=g2;have hsub:=abQ hR hr m hm1 k g3 g2;have hcells:dR s (cO s.orders m (qY s.orders[m] r.qty r.price))=s.cells.set k (oC (pJ s.cells[k] s.orders[m]) (qY s.orders[m] r.qty r.price)):=agE hR m hm1 _ k g3 g2 hat;rw[g1,aj,aB (inb _ k g3),aZ _ k g3,X0 (hR.ok _ (List.getElem_mem _)) ho hro hsub,aj,ES hsub hpo hpr,aj];have hoa:=(hR.fine.ords _ (List.getElem_mem hm1));have hob:=ho.1;by_cases hok:okC (oC (pJ s.cells[k] s.orders[m]) (qY s.orders[m] r.qty r.price))
   ·rw[if_pos hok];simp only[mM,aJ,aQ];rw[Lp s.cells,Lp s.orders,<-Pv s.orders,<-hcells];have ht:qA (YD s (cO s.orders m (qY s.orders[m] r.qty r.price))):=wE hs rfl rfl (jL _ _) rfl rfl (by show(cO _ _ _).length<=64;rw[wG];omega);obtain⟨e,he,hq⟩:=ajy (a:=s.orders[m].account) (y:=s.orders[m].symbol) hR ht rfl rfl rfl rfl hob.2.1.1 hoa.2.2.1 hob.2.2.1.1 hoa.2.2.2 g2.symm g3 hcells hok;have he':eY ⟨s.accounts,s.symbols,cO s.orders m (qY s.orders[m] r.qty r.price),dR s (cO s.orders m (qY s.orders[m] r.qty r.price)),s.limits,s.caps,s.kill,s.last,s.seq,s.lsn⟩ s s.orders[m].account s.orders[m].symbol=some e:=he;rw[he',aj];exact hq
   ·rw[if_neg hok];simp only[yE,aY,aV];rw[adQ (t:=YD s (cO s.orders m (qY s.orders[m] r.qty r.price))) hR rfl rfl hob.2.1.1 hoa.2.2.1 hob.2.2.1.1 hoa.2.2.2 g2.symm g3 hcells hok]
 rw[cu (by rw[bn];exact k2)];by_cases k3:r.kind=3
 ·rw[aB (by rw[bf];exact k3),Fb s r.order (by omega),aj];have hrec':=hrec;unfold vZ at hrec';have hra:r.account=0/\r.symbol=0:=by omega
  have hm:=good (by omega) (by omega) fun h=>absurd h k1;unfold doS;rw[if_neg (fun h:¬Px s r=>h hm),if_neg k1,if_neg k2,if_pos k3];cases hf:sO s.orders r.order with
  |none=>
   rw[H7 hf,aB (by decide)]
  |some m=>
   rw[DU hf,cu (by rw[bn];omega)];obtain⟨hm1,hm2⟩:=kJ hf;have hoi:=hR.fine.ords _ (List.getElem_mem hm1);simp only[aB (inb _ m hm1),aZ _ m hm1,vX _ m hm1];rw[aau hoi.1 hoi.2.1,aj];by_cases ha:s.orders[m].asked=true
   ·rw[if_pos ha,if_pos ha];rfl
   ·rw[if_neg ha,if_neg ha,Lp];rfl
 rw[cu (by rw[bn];exact k3)];by_cases k4:r.kind=4
 ·rw[aB (by rw[bf];exact k4)];have hrec':=hrec;unfold vZ at hrec';by_cases c2:s.accounts<=r.account
  ·rw[bad fun h=>by have:=h.2.2.2.1;omega];simp only[nC c2,aV]
  by_cases c3:s.symbols<=r.symbol
  ·rw[bad fun h=>by have:=h.2.2.2.2.1;omega];simp only[Js c2,nC c3,aV,aQ]
  simp only[Js c2,Js c3,aQ];have hm:=good (by omega) (by omega) fun h=>absurd h k1;unfold doS;rw[if_neg (fun h:¬Px s r=>h hm),if_neg k1,if_neg k2,if_neg k3,if_pos k4,ja];by_cases hy:r.symbol= -1
  ·rw[if_pos hy,if_pos hy,aB (ND (nC (by omega)) (PI (by simp only[len];omega)))]
  ·rw[if_neg hy,if_neg hy];obtain⟨k,g1,g2,g3⟩:=KD hs r.account r.symbol (by omega) (by omega) (by omega) (by omega);have g4:k<s.limits.length:=by omega
   rw[g1,aj,aB (inb _ k g4),g2]
 rw[cu (by rw[bn];exact k4)];by_cases k5:r.kind=5
 ·rw[aB (by rw[bf];exact k5)];have hrec':=hrec;unfold vZ at hrec';have hra:r.account=0/\r.symbol=0:=by omega
  have hm:=good (by omega) (by omega) fun h=>absurd h k1;unfold doS;rw[if_neg (fun h:¬Px s r=>h hm),if_neg k1,if_neg k2,if_neg k3,if_neg k4,if_pos k5]
 rw[cu (by rw[bn];exact k5)];have hrec':=hrec;unfold vZ at hrec';have hra:r.account=0/\r.symbol=0:=by omega
 have hm:=good (by omega) (by omega) fun h=>absurd h k1;unfold doS;rw[if_neg (fun h:¬Px s r=>h hm),if_neg k1,if_neg k2,if_neg k3,if_neg k4,if_neg k5];have hws:wr .i64 (aF s.seq 1)=s.seq+1:=by unfold aF;exact dL (by omega) (by omega)
 rw[hws,kD,ja];by_cases c1:r.seq=s.seq+1
 case neg=>
  rw[if_neg c1,if_pos c1]
 rw[if_pos c1,if_neg (fun h:r.seq≠s.seq+1=>h c1),Fb _ r.order (by show s.orders.length<_;omega),aj];show cnd (ieq (JE s.orders r.order) (-1)) _ _=_;cases hf:sO s.orders r.order with
 |none=>
  rw[H7 hf,aB (by decide)]
 |some m=>
  rw[DU hf,cu (by rw[bn];omega)];obtain⟨hm1,hm2⟩:=kJ hf;simp only[aB (inb _ m hm1),aZ _ m hm1,vX _ m hm1];obtain⟨ho,hro⟩:=hall s.orders[m] (List.getElem_mem _);have hnote:vZ (MZ ⟨r.seq,r.what,r.order,r.qty,r.price⟩):=by
   have k6:r.kind=6:=by omega
   refine .inr (.inr (.inr (.inr (.inr ⟨rfl,?_⟩))));rcases hrec with h | h | h | h | h | h
   ·omega
   ·omega
   ·omega
   ·omega
   ·omega
   ·exact⟨h.2.1,rfl,rfl,rfl,rfl,rfl,rfl,rfl,h.2.2.2.2.2.2.2.2.2⟩
  rw[YN ho hro hnote hm2.symm hrr.qty];cases ht:MK s.orders[m] r.what r.qty r.price with
  |none=>
   simp only[aj];rw[aB (by decide)]
  |some p=>
   simp only[aj,mM,aJ,aQ];have hq3:r.what=3->1<=r.qty:=fun h=>by omega
   have hp:=abY ho hro ht hq3 (fun h=>by omega) hrr.qty hrr.price;obtain⟨k,g1,g2,g3⟩:=Y5 hs (hR.fine.ords _ (List.getElem_mem hm1));have hat:atZ s.symbols p=(k:Int):=by unfold atZ;rw[hp.account,hp.symbol];exact g2
   have hsub:=abQ hR hr m hm1 k g3 g2;obtain⟨hev1,hev2⟩:=YQ hR hr m hm1 k g3 g2 hp hq3
   rw[show bK (ax.mk s.accounts s.symbols s.orders s.cells s.limits s.caps s.kill s.last r.seq s.lsn) s.orders[m].account s.orders[m].symbol=some (k:Int)from g1,aj,aB (inb _ k g3),aZ _ k g3,
    X0 (hR.ok _ (List.getElem_mem _)) ho hro hsub,aj]
   simp only[Lp,afX];have gk:∀c:aN,ai (s.cells.set k c) (itn (k:Int))=c:=fun c=>by rw[aZ _ k (by simpa using g3),List.getElem_set_self]
   rw[gk,ES hsub hp.ord hp.rng,if_pos hev1,aj,gk,Ur hR r m hm1 k g3 g2 hat];have hdel:=agD (l:=s.orders.set m p) (i:=m) (by simpa using hm1) (by simp;omega);rw[afx]at hdel;simp only[hdel,aj,ja];by_cases h3:r.what=3
   ·rw[if_pos h3,if_pos h3];have hside:=ho.1.2.2.2.1;have e1:(oC (pJ s.cells[k] s.orders[m]) p).pos=s.cells[k].pos:=by rw[afY,ahc]
    have hn:=hev2 h3;rw[<-e1]at hn;rw[acZ hev1 hside (by have:=hq3 h3;omega) hrr.qty hn,aj,e1];split<;>rfl
   ·rw[if_neg h3,if_neg h3];split<;>rfl
theorem mk_pos (s:ax) (l:List au) (j:Nat) (h:j<(dR s l).length):(dR s l)[j].pos=(s.cells[j]'(by simpa [dR] using h)).pos:=by
 rw[nV];have:=Vf s.symbols j l;simp only[lN];omega
theorem ad9 {s t:ax} (h1:t.symbols=s.symbols) {l:List au} (h2:t.cells=dR s l):t.cells=dR t l:=by
 have e0:dR t l=(dR s l).mapIdx fun i c=>lN ⟨c.pos,0,0,0⟩ (lQ s.symbols i l):=by unfold dR;rw[h1,h2];rfl
 rw[e0,h2];refine List.ext_getElem (by simp) fun j g1 g2=> ?_;rw[List.getElem_mapIdx,mk_pos,nV]
theorem ai1 {l:List au} {o:au} (h:FK l) (ho:∀x∈l,x.id<o.id):FK (l++[o]):=by
 unfold FK at*;rw[List.pairwise_append];refine⟨h,by simp,fun a ha b hb=> ?_⟩;rw[List.mem_singleton]at hb;subst hb;exact ho a ha
theorem ZB {l:List au} {m:Nat} (hm:m<l.length) {p:au} (h:FK l) (hp:p.id=l[m].id):FK (l.set m p):=by
 unfold FK at*;rw[List.pairwise_iff_getElem]at*;intro i j hi hj hij;have hi':i<l.length:=by simpa using hi
 have hj':j<l.length:=by simpa using hj
 have h0:=h i j hi' hj' hij;rw[List.getElem_set,List.getElem_set];split
 ·rename_i e;subst e;rw[if_neg (by omega),hp];exact h0
 ·split
  ·rename_i e;subst e;rw[hp];exact h0
  ·exact h0
theorem aeE {l:List au} (m:Nat) (h:FK l):FK (l.eraseIdx m):=List.Pairwise.sublist (List.eraseIdx_sublist _ _) h
theorem ahM {l m:List aN} (hl:l.length=m.length) (h:∀(i:Nat) (h1:i<l.length) (h2:i<m.length),l[i].opn<=m[i].opn):nJ l<=nJ m:=by
 induction l generalizing m with
 |nil=>cases m with
  |nil=>exact Int.le_refl _
  |cons a r=>simp at hl
 |cons a l ih=>cases m with
  |nil=>simp at hl
  |cons b m=>
   have h0:=h 0 (by simp) (by simp);have:=ih (m:=m) (by simpa using hl) fun i h1 h2=>by
    have:=h (i+1) (by simp;omega) (by simp;omega);simpa using this
   unfold nJ at*;simp only[List.map_cons,List.sum_cons,List.getElem_cons_zero]at*;omega
theorem ai0 {n:Int} {cs ds:List aN} (hl:cs.length=ds.length) (h:∀(i:Nat) (h1:i<cs.length) (h2:i<ds.length),cs[i].opn<=ds[i].opn) (a:Int):nJ (qy n cs a)<=nJ (qy n ds a):=by
 unfold qy;refine ahM (by simp [hl]) fun i h1 h2=> ?_;rw[List.getElem_take,List.getElem_take,List.getElem_drop,List.getElem_drop];exact h _ _ _
theorem akF {cs:List aN} {k:Nat} {c:aN} (hk:k<cs.length) (hc:c.opn<=cs[k].opn) (i:Nat) (h1:i<(cs.set k c).length) (h2:i<cs.length):(cs.set k c)[i].opn<=cs[i].opn:=by
 rw[List.getElem_set];split
 ·rename_i e;subst e;exact hc
 ·exact Int.le_refl _
theorem agA {s:ax} (hR:jw s) {r:bV} (h:s.last<r.order):∀x∈s.orders,x.id<(iW r).id:=fun x hx=>by
 have:=hR.fine.ids x hx;show x.id<r.order;omega
theorem jU {α:Type} {l:List α} {m:Nat} {p x:α} (h:x∈l.set m p):x∈l\/x=p:=List.mem_or_eq_of_mem_set h
theorem X5 {s t:ax} (hR:jw s) (h1:t.accounts=s.accounts) (h2:t.symbols=s.symbols) (hl:t.limits=s.limits) (hc:t.caps=s.caps) (hq:t.seq=s.seq) (hls:t.lsn=s.lsn) (hlsn:s.lsn<1000000000)
 (ht:t.cells=dR s t.orders) (ho:∀o∈t.orders,Di s o) (has:FK t.orders) (hid:∀o∈t.orders,o.id<=t.last) (hla:0<=t.last/\t.last<=1000000000000) (hlen:t.orders.length<=64) (a y:Int):
 jw (LY s t a y).1:=by
 unfold LY
 split
 ·exact hR
 ·rename_i hf
  have hf:aah t:=Classical.not_not.1 hf
  split
  ·exact hR
  ·have hcl:t.cells.length=s.cells.length:=by rw[ht,jL]
   have hz:=hR.fine
   refine⟨wE hR.sized h1 h2 hcl (by rw[hl]) (by rw[hc]) hlen,⟨fun o h=> ?_,has,hid,hla,by rw[hq];exact hz.seq,?_,by rw[hl];exact hz.lims,by rw[hc];exact hz.caps⟩,?_,hf.1,hf.2⟩
   ·obtain⟨g1,g2,g3,g4⟩:=ho o h
    exact⟨g1,g2,by show o.account<t.accounts;omega,by show o.symbol<t.symbols;omega⟩
   ·have:=hz.lsn
    show 0<=t.lsn+1/\t.lsn+1<=1000000000
    omega
   ·have:=ad9 h2 ht
    exact this
theorem afB {s:ax} {r:bV} (hR:jw s) (hr:kT s) (hrr:kz r):jw (doS s r).1:=by
 unfold doS;split
 ·exact hR
 rename_i hm;have hm:Px s r:=Classical.not_not.1 hm;obtain⟨_,hrec,hlsn,hacc,hsym,hord⟩:=hm;have hz:=hR.fine;have hs:=hR.sized;obtain⟨lc,ll,lcp,lo⟩:=hs.lens;have hl0:=hz.lsn;have hrec':=hrec;unfold vZ qI at hrec';split
 ·rename_i k1;split
  ·exact hR
  split
  ·exact hR
  ·rename_i h64;obtain⟨g1,g2⟩:=X3 hrec k1;refine X5 (t:=⟨s.accounts,s.symbols,bP s.orders [iW r],dR s (bP s.orders [iW r]),s.limits,s.caps,s.kill,r.order,s.seq,s.lsn⟩) hR rfl rfl rfl rfl rfl rfl hlsn rfl (fun o h=> ?_) (ai1 hz.asc (agA hR (hord k1))) (fun o h=> ?_) (by show 0<=r.order/\r.order<=_;omega) (by show(s.orders++[_]).length<=64;simp;omega) _ _
   ·rcases List.mem_append.1 h with h | h
    ·exact hz.ords o h
    ·rw[List.mem_singleton]at h;subst h;exact⟨g1,by simp [iW],hacc,hsym⟩
   ·rcases List.mem_append.1 h with h | h
    ·have:=agA hR (hord k1) o h;show o.id<=r.order;exact Int.le_of_lt this
    ·rw[List.mem_singleton]at h;subst h;exact Int.le_refl _
 split
 ·rename_i k1 k2;split
  ·exact hR
  rename_i m hf;obtain⟨hm1,hm2⟩:=kJ hf;simp only[vX _ m hm1];split
  ·exact hR
  rename_i hch;have hch:vg s.orders[m]:=Classical.not_not.1 hch;split
  ·exact hR
  have hoi:=hz.ords _ (List.getElem_mem hm1);have hpo:=VT (q:=r.qty) (p:=r.price) hoi.1 hch (by omega) (by omega);refine X5 (t:=YD s (cO s.orders m (qY s.orders[m] r.qty r.price))) hR rfl rfl rfl rfl rfl rfl hlsn rfl (fun o h=> ?_) (ZB hm1 hz.asc rfl) (fun o h=> ?_) hz.last (by show(s.orders.set _ _).length<=64;simp;omega) _ _
  ·rcases jU h with h | rfl
   ·exact hz.ords o h
   ·exact⟨hpo,by show s.orders[m].phase≠3;exact hoi.2.1,hoi.2.2.1,hoi.2.2.2⟩
  ·rcases jU h with h | rfl
   ·exact hz.ids o h
   ·exact hz.ids s.orders[m] (List.getElem_mem hm1)
 split
 ·rename_i k1 k2 k3;split
  ·exact hR
  rename_i m hf;obtain⟨hm1,hm2⟩:=kJ hf;simp only[vX _ m hm1];split
  ·exact hR
  have hoi:=hz.ords _ (List.getElem_mem hm1);refine⟨wE hs rfl rfl rfl rfl rfl (by show(s.orders.set _ _).length<=64;simp;omega),⟨fun o h=> ?_,ZB hm1 hz.asc rfl,fun o h=> ?_,hz.last,hz.seq,⟨by show 0<=s.lsn+1;omega,by show s.lsn+1<=_;omega⟩,hz.lims,hz.caps⟩,?_,hR.ok,hR.acct⟩
  ·rcases jU h with h | rfl
   ·exact hz.ords o h
   ·exact⟨hoi.1,hoi.2.1,hoi.2.2.1,hoi.2.2.2⟩
  ·rcases jU h with h | rfl
   ·exact hz.ids o h
   ·exact hz.ids s.orders[m] (List.getElem_mem hm1)
  ·have e:∀j:Nat,lQ s.symbols j (s.orders.set m (VP s.orders[m]))=lQ s.symbols j s.orders:=fun j=>by
    rw[U8 _ _ _ _ hm1,DX _ _ _ _ hm1];rfl
   refine hR.cells.trans ?_;unfold dR;simp only[Pv,e]
 split
 ·rename_i k1 k2 k3 k4;split
  ·rename_i hy;refine⟨wE hs rfl rfl rfl rfl (wG _ _ _) lo,⟨hz.ords,hz.asc,hz.ids,hz.last,hz.seq,⟨by show 0<=s.lsn+1;omega,by show s.lsn+1<=_;omega⟩,hz.lims,fun x hx=> ?_⟩,hR.cells,hR.ok,hR.acct⟩;rcases jU hx with h | rfl
   ·exact hz.caps x h
   ·omega
  ·rename_i hy;refine⟨wE hs rfl rfl rfl (wG _ _ _) rfl lo,⟨hz.ords,hz.asc,hz.ids,hz.last,hz.seq,⟨by show 0<=s.lsn+1;omega,by show s.lsn+1<=_;omega⟩,fun x hx=> ?_,hz.caps⟩,hR.cells,hR.ok,hR.acct⟩;rcases jU hx with h | rfl
   ·exact hz.lims x h
   ·unfold Xl;simp only;omega
 split
 ·exact⟨wE hs rfl rfl rfl rfl rfl lo,⟨hz.ords,hz.asc,hz.ids,hz.last,hz.seq,⟨by show 0<=s.lsn+1;omega,by show s.lsn+1<=_;omega⟩,hz.lims,hz.caps⟩,hR.cells,hR.ok,hR.acct⟩
 split
 ·exact hR
 rename_i k1 k2 k3 k4 k5 hseq;have hseq:r.seq=s.seq+1:=Classical.not_not.1 hseq;have hrs:0<=r.seq/\r.seq<=1000000000:=by omega
 split
 ·exact⟨wE hs rfl rfl rfl rfl rfl lo,⟨hz.ords,hz.asc,hz.ids,hz.last,hrs,⟨by show 0<=s.lsn+1;omega,by show s.lsn+1<=_;omega⟩,hz.lims,hz.caps⟩,hR.cells,hR.ok,hR.acct⟩
 rename_i m hf;obtain⟨hm1,hm2⟩:=kJ hf;simp only[vX _ m hm1];split
 ·exact⟨wE hs rfl rfl rfl rfl rfl lo,⟨hz.ords,hz.asc,hz.ids,hz.last,hrs,⟨by show 0<=s.lsn+1;omega,by show s.lsn+1<=_;omega⟩,hz.lims,hz.caps⟩,hR.cells,hR.ok,hR.acct⟩
 rename_i p ht;have hoi:=hz.ords _ (List.getElem_mem hm1);have hro:=hr.orders.1 _ (List.getElem_mem hm1);have hq3:r.what=3->1<=r.qty:=fun h=>by omega
 have hp:=abY hoi.1 hro ht hq3 (fun h=>by omega) hrr.qty hrr.price;obtain⟨k,g1,g2,g3⟩:=Y5 hs hoi;have hat:atZ s.symbols p=(k:Int):=by unfold atZ;rw[hp.account,hp.symbol];exact g2
 obtain⟨hev1,hev2⟩:=YQ hR hr m hm1 k g3 g2 hp hq3;have hcells:(evS s r m p).cells=dR (evS s r m p) (evS s r m p).orders:=ad9 (s:=⟨s.accounts,s.symbols,s.orders,if r.what=3 then afc s (ai s.orders m) r.qty else s.cells,s.limits,s.caps,s.kill,s.last,r.seq,s.lsn+1⟩) (t:=evS s r m p) rfl (l:=(evS s r m p).orders) rfl
 have hst:=Ur hR r m hm1 k g3 g2 hat;refine⟨?_,?_,hcells,?_,?_⟩
 ·rw[hst];refine wE hs rfl rfl (by simp) rfl rfl ?_;show(if p.phase=3 then s.orders.eraseIdx m else s.orders.set m p).length<=64
  split
  ·have:=List.length_eraseIdx_le s.orders m;omega
  ·simp;omega
 ·rw[hst];have hmem:∀o∈(if p.phase=3 then s.orders.eraseIdx m else s.orders.set m p),o∈s.orders\/(o=p/\p.phase≠3):=fun o ho=>by
   split at ho
   ·exact .inl (List.mem_of_mem_eraseIdx ho)
   ·rename_i h3;rcases jU ho with h | rfl
    ·exact .inl h
    ·exact .inr ⟨rfl,h3⟩
  refine⟨fun o ho=> ?_,?_,fun o ho=> ?_,hz.last,hrs,⟨by show 0<=s.lsn+1;omega,by show s.lsn+1<=_;omega⟩,hz.lims,hz.caps⟩
  ·rcases hmem o ho with h | ⟨rfl,h3⟩
   ·exact hz.ords o h
   ·exact⟨hp.ord,h3,by show o.account<s.accounts;rw[hp.account];exact hoi.2.2.1,by show o.symbol<s.symbols;rw[hp.symbol];exact hoi.2.2.2⟩
  ·show FK (if p.phase=3 then s.orders.eraseIdx m else s.orders.set m p)
   split
   ·exact aeE m hz.asc
   ·exact ZB hm1 hz.asc hp.id
  ·rcases hmem o ho with h | ⟨rfl,_⟩
   ·exact hz.ids o h
   ·show o.id<=s.last;rw[hp.id];exact hz.ids _ (List.getElem_mem hm1)
 ·rw[hst];intro c hc;rcases jU hc with h | rfl
  ·exact hR.ok c h
  ·split
   ·rename_i h3;exact hev2 h3
   ·exact hev1
 ·rw[hst];intro a h1 h2;refine Int.le_trans (ai0 (by simp) (fun i g4 g5=>akF g3 ?_ i g4 g5) a) (hR.acct a h1 h2);have hw:=hp.worth;have e:(oC (pJ s.cells[k] s.orders[m]) p).opn<=s.cells[k].opn:=by
   have e1:(oC (pJ s.cells[k] s.orders[m]) p).opn=s.cells[k].opn - gG s.orders[m]+gG p:=by unfold oC pJ;split<;>split<;>rfl
   omega
  split
  ·exact e
  ·exact e
theorem TV {α:Type} {p:α->Prop} {l:List α} (h:okL p l) {k:Nat} {x:α} (hx:p x):okL p (l.set k x):=⟨fun y hy=>by
 rcases List.mem_or_eq_of_mem_set hy with h1 | rfl
 ·exact h.1 y h1
 ·exact hx,by have:=h.2;simpa using this⟩
structure DoQ (s:ax) (r:bV) (t:ax) (e:Int):Prop where
 bad:e≠0->t=s
 good:e=0->Px s r/\t.lsn=s.lsn+1/\(t.seq=if r.kind=6 then s.seq+1 else s.seq)/\(t.last=if r.kind=1 then r.order else s.last)/\t.accounts=s.accounts/\t.symbols=s.symbols/\t.cells.length=s.cells.length/\t.limits.length=s.limits.length/\t.caps.length=s.caps.length/\t.orders.length<=64/\
  (r.kind≠4->t.limits=s.limits/\t.caps=s.caps)/\(r.kind≠5->t.kill=s.kill)/\(r.kind=6->r.seq=s.seq+1)
 rng:kT s->kz r->kT t
theorem zf {s:ax} {r:bV} {e:Int} (he:e≠0):DoQ s r s e:=⟨fun _=>rfl,fun h=>absurd h he,fun h _=>h⟩
theorem ajx {s t:ax} {r:bV} {a y:Int} (hm:Px s r) (h6:r.kind≠6) (h1:t.accounts=s.accounts) (h2:t.symbols=s.symbols) (h3:t.limits=s.limits) (h4:t.caps=s.caps) (h5:t.seq=s.seq) (h7:t.lsn=s.lsn) (h8:t.last=if r.kind=1 then r.order else s.last) (h9:t.cells.length=s.cells.length) (h10:t.orders.length<=64) (h11:t.kill=s.kill)
 (hr:kT s->kz r->∀o∈t.orders,fA o):DoQ s r (LY s t a y).1 (LY s t a y).2:=by
 unfold LY
 split
 ·exact zf (by simp)
 ·rename_i hf
  have hf:aah t:=Classical.not_not.1 hf
  split
  ·exact zf (by simp)
  ·refine⟨fun h=>absurd rfl h,fun _=>⟨hm,by show t.lsn+1=_;rw[h7],by rw[if_neg h6];exact h5,h8,h1,h2,h9,by rw[h3],by rw[h4],h10,fun _=>⟨h3,h4⟩,fun _=>h11,fun h=>absurd h h6⟩,fun hs hrr=> ?_⟩
   have hR:=hm.1
   have hz:=hR.fine
   have hlsn:=hm.2.2.1
   obtain⟨lc,ll,lcp,lo⟩:=hR.sized.lens
   have b3:=hz.lsn
   refine⟨by rw[h1];exact hs.accounts,by rw[h2];exact hs.symbols,⟨hr hs hrr,by show t.orders.length<=_;omega⟩,⟨fun c hc=>(hf.1 c hc).1,by show t.cells.length<=_;omega⟩,by rw[h3];exact hs.limits,by rw[h4];exact hs.caps,?_,by rw[h5];exact hs.seq,⟨by show _<=t.lsn+1;omega,by show t.lsn+1<=_;omega⟩⟩
   show inI t.last
   rw[h8];split
   ·exact hrr.order
   ·exact hs.last
theorem Wi (s:ax) (r:bV):DoQ s r (doS s r).1 (doS s r).2:=by
 unfold doS;split
 ·exact zf (by simp)
 rename_i hm;have hm:Px s r:=Classical.not_not.1 hm;obtain⟨hR,hrec,hlsn,hacc,hsym,hord⟩:=id hm;have hz:=hR.fine;have hs:=hR.sized;obtain⟨lc,ll,lcp,lo⟩:=hs.lens;have hl0:=hz.lsn;have hls:kT s->inI (s.lsn+1):=fun _=>⟨by omega,by omega⟩;have hrec':=hrec;unfold vZ qI at hrec';split
 ·rename_i k1;split
  ·exact zf (by simp)
  split
  ·exact zf (by simp)
  ·rename_i h64;refine ajx (t:=⟨s.accounts,s.symbols,bP s.orders [iW r],dR s (bP s.orders [iW r]),s.limits,s.caps,s.kill,r.order,s.seq,s.lsn⟩) hm (by omega) rfl rfl rfl rfl rfl rfl (by rw[if_pos k1]) (jL _ _) (by show(s.orders++[_]).length<=64;simp;omega) rfl fun hs hrr o h=> ?_;rcases List.mem_append.1 h with h | h
   ·exact hs.orders.1 o h
   ·rw[List.mem_singleton]at h;subst h;exact Yp hrr
 split
 ·rename_i k1 k2;split
  ·exact zf (by simp)
  rename_i m hf;obtain⟨hm1,hm2⟩:=kJ hf;simp only[vX _ m hm1];split
  ·exact zf (by simp)
  rename_i hch;have hch:vg s.orders[m]:=Classical.not_not.1 hch;split
  ·exact zf (by simp)
  refine ajx (t:=YD s (cO s.orders m (qY s.orders[m] r.qty r.price))) hm (by omega) rfl rfl rfl rfl rfl rfl (by rw[if_neg k1];rfl) (jL _ _) (by show(s.orders.set _ _).length<=64;simp;omega) rfl fun hs hrr o h=> ?_;rcases jU h with h | rfl
  ·exact hs.orders.1 o h
  ·exact UR (hs.orders.1 _ (List.getElem_mem hm1)) hch hrr.qty hrr.price
 split
 ·rename_i k1 k2 k3;split
  ·exact zf (by simp)
  rename_i m hf;obtain⟨hm1,hm2⟩:=kJ hf;simp only[vX _ m hm1];split
  ·exact zf (by simp)
  exact⟨fun h=>absurd rfl h,fun _=>⟨hm,rfl,by rw[if_neg (by omega)],by rw[if_neg k1],rfl,rfl,rfl,rfl,rfl,by show(s.orders.set _ _).length<=64;simp;omega,fun _=>⟨rfl,rfl⟩,fun _=>rfl,fun h=>by omega⟩,
   fun h hrr=>⟨h.accounts,h.symbols,TV h.orders (ai6 (h.orders.1 _ (List.getElem_mem hm1))),h.cells,h.limits,h.caps,h.last,h.seq,hls h⟩⟩
 split
 ·rename_i k1 k2 k3 k4;split
  ·exact⟨fun h=>absurd rfl h,fun _=>⟨hm,rfl,by rw[if_neg (by omega)],by rw[if_neg k1],rfl,rfl,rfl,rfl,wG _ _ _,lo,fun h=>absurd k4 h,fun _=>rfl,fun h=>by omega⟩,
    fun h hrr=>⟨h.accounts,h.symbols,h.orders,h.cells,h.limits,TV h.caps hrr.opn,h.last,h.seq,hls h⟩⟩
  ·exact⟨fun h=>absurd rfl h,fun _=>⟨hm,rfl,by rw[if_neg (by omega)],by rw[if_neg k1],rfl,rfl,rfl,wG _ _ _,rfl,lo,fun h=>absurd k4 h,fun _=>rfl,fun h=>by omega⟩,
    fun h hrr=>⟨h.accounts,h.symbols,h.orders,h.cells,TV h.limits ⟨hrr.long,hrr.short,hrr.opn⟩,h.caps,h.last,h.seq,hls h⟩⟩
 split
 ·rename_i k1 k2 k3 k4 k5
  exact⟨fun h=>absurd rfl h,fun _=>⟨hm,rfl,by rw[if_neg (by omega)],by rw[if_neg k1],rfl,rfl,rfl,rfl,rfl,lo,fun _=>⟨rfl,rfl⟩,fun h=>absurd k5 h,fun h=>by omega⟩,
   fun h hrr=>⟨h.accounts,h.symbols,h.orders,h.cells,h.limits,h.caps,h.last,h.seq,hls h⟩⟩
 split
 ·exact zf (by simp)
 rename_i k1 k2 k3 k4 k5 hseq;have hseq:r.seq=s.seq+1:=Classical.not_not.1 hseq;have k6:r.kind=6:=by omega
 have ev:DoQ s r ⟨s.accounts,s.symbols,s.orders,s.cells,s.limits,s.caps,s.kill,s.last,r.seq,s.lsn+1⟩ 0:=
  ⟨fun h=>absurd rfl h,fun _=>⟨hm,rfl,by rw[if_pos k6];exact hseq,by rw[if_neg k1],rfl,rfl,rfl,rfl,rfl,lo,fun _=>⟨rfl,rfl⟩,fun _=>rfl,fun _=>hseq⟩,
   fun h hrr=>⟨h.accounts,h.symbols,h.orders,h.cells,h.limits,h.caps,h.last,hrr.seq,hls h⟩⟩
 split
 ·exact ev
 rename_i m hf;obtain⟨hm1,hm2⟩:=kJ hf;simp only[vX _ m hm1];split
 ·exact ev
 rename_i p ht;have hoi:=hz.ords _ (List.getElem_mem hm1);have hlen:(if p.phase=3 then s.orders.eraseIdx m else cO s.orders m p).length<=64:=by
  split
  ·have:=List.length_eraseIdx_le s.orders m;omega
  ·rw[wG];omega
 refine⟨fun h=>absurd rfl h,fun _=>⟨hm,rfl,by rw[if_pos k6];exact hseq,by rw[if_neg k1];rfl,rfl,rfl,?_,rfl,rfl,hlen,fun _=>⟨rfl,rfl⟩,fun _=>rfl,fun _=>hseq⟩,fun h hrr=> ?_⟩
 ·show(dR _ _).length=_;rw[jL];show(if r.what=3 then afc s (ai s.orders m) r.qty else s.cells).length=_
  split
  ·exact wG _ _ _
  ·rfl
 ·have hro:=h.orders.1 _ (List.getElem_mem hm1);have hq3:r.what=3->1<=r.qty:=fun h=>by omega
  have hp:=abY hoi.1 hro ht hq3 (fun h=>by omega) hrr.qty hrr.price;obtain⟨k,g1,g2,g3⟩:=Y5 hs hoi;have hat:atZ s.symbols p=(k:Int):=by unfold atZ;rw[hp.account,hp.symbol];exact g2
  obtain⟨hev1,hev2⟩:=YQ hR h m hm1 k g3 g2 hp hq3;rw[Ur hR r m hm1 k g3 g2 hat];refine⟨h.accounts,h.symbols,⟨fun o ho=> ?_,?_⟩,TV h.cells ?_,h.limits,h.caps,h.last,hrr.seq,hls h⟩
  ·show JJ o;have ho:o∈(if p.phase=3 then s.orders.eraseIdx m else s.orders.set m p):=ho
   split at ho
   ·exact h.orders.1 o (List.mem_of_mem_eraseIdx ho)
   ·rcases jU ho with h1 | rfl
    ·exact h.orders.1 o h1
    ·exact hp.rng
  ·show(if p.phase=3 then s.orders.eraseIdx m else s.orders.set m p).length<=_
   rw[Pv]at hlen;omega
  ·show EM _;split
   ·rename_i h3;exact(hev2 h3).1
   ·exact hev1.1
theorem QL {α:Type} {l m:List α} (hlen:l.length=m.length) (hn:l.length<999999) {step:Int×Bool->Option ((Int×Bool) ⊕ (Bool ⊕ Bool))}
 (hstep:∀(i:Nat) (h:i<l.length) (h2:i<m.length) (q:Bool),Wq (step ((i:Int),q)) fun r=>(l[i]=m[i]->r= .inl (((i+1:Nat):Int),q))/\(l[i]≠m[i]->r= .inr (.inl false)))
 (hend:∀q,step ((l.length:Int),q)=some (.inr (.inr q))) (q:Bool):Wq (bZ step LF (0,q)) fun w=>match w with | .inl b=>b=false/\l≠m | .inr b=>l=m:=by
 refine lH (n:=l.length) hn (fun i _=>∀(j:Nat) (h:j<l.length) (h2:j<m.length),j<i->l[j]=m[j]) _ (fun i x hi hx=> ?_) (fun x hx=> ?_) _ 0 (Nat.zero_le _) (fun j _ _ h=>by omega)
 ·have hi2:i<m.length:=by omega
  refine(hstep i hi hi2 x).mono fun r hr=> ?_
  by_cases e:l[i]=m[i]
  ·rw[hr.1 e]
   refine⟨rfl,fun j h h2 hj=> ?_⟩
   by_cases ej:j=i
   ·subst ej;exact e
   ·exact hx j h h2 (by omega)
  ·rw[hr.2 e]
   refine⟨rfl,fun h=>e ?_⟩
   subst h;rfl
 ·rw[hend x]
  exact(ah _).2 (List.ext_getElem hlen fun j h h2=>hx j h h2 h)
theorem aji {α β:Type} (l:List α) (m:List β):(len l=len m)↔l.length=m.length:=by unfold len;omega
theorem aeZ (a b:au):(a.id=b.id/\a.account=b.account/\a.symbol=b.symbol/\a.side=b.side/\a.qty=b.qty/\a.price=b.price/\a.filled=b.filled/\a.phase=b.phase/\a.newQty=b.newQty/\a.newPrice=b.newPrice/\a.version=b.version/\a.asked=b.asked)↔a=b:=by
 cases a;cases b;simp
theorem afz (a b:aN):(a.pos=b.pos/\a.buy=b.buy/\a.sell=b.sell/\a.opn=b.opn)↔a=b:=by
 cases a;cases b;simp
theorem agb (a b:fB):(a.long=b.long/\a.short=b.short/\a.opn=b.opn)↔a=b:=by
 cases a;cases b;simp
theorem aem (a b:ax):(a.accounts=b.accounts/\a.symbols=b.symbols/\a.kill=b.kill/\a.last=b.last/\a.seq=b.seq/\a.lsn=b.lsn/\a.orders=b.orders/\a.cells=b.cells/\a.limits=b.limits/\a.caps=b.caps)↔a=b:=by
 cases a;cases b;simp;grind
def rO (s:ax):Prop:=s.orders.length<999999/\s.cells.length<999999/\s.limits.length<999999/\s.caps.length<999999
theorem ajY {a b:ax} (ha:rO a):Wq (lU a b) fun r=>r=true↔a=b:=by
 obtain⟨h1,h2,h3,h4⟩:=ha;unfold lU;rw[gy];have hx:=aem a b;refine⟨fun h=>(ah _).2 ⟨fun h=>(by cases h),fun h2=> ?_⟩,fun h=> ?_⟩
 ·subst h2;simp only[aW,bG,bU,dw,aX,aU,cZ,dn,bJ,dA,bf,bn,dG,dK]at h;simp at h
 ·simp only[aW,bG,bU,dw,aX,aU,cZ,dn,bJ,dA,bf,bn,dG,dK,aji]at h;obtain⟨⟨⟨⟨⟨⟨⟨⟨⟨a1,a2⟩,a3⟩,a4⟩,a5⟩,a6⟩,a7⟩,a8⟩,a9⟩,a10⟩:=h;have e1:a=b↔a.orders=b.orders/\a.cells=b.cells/\a.limits=b.limits/\a.caps=b.caps:=by
   rw[<-hx];exact⟨fun h=>⟨h.2.2.2.2.2.2.1,h.2.2.2.2.2.2.2.1,h.2.2.2.2.2.2.2.2.1,h.2.2.2.2.2.2.2.2.2⟩,fun h=>⟨a1,a2,a3,a4,a5,a6,h⟩⟩
  rw[e1];refine Wq.bind (QL (l:=a.orders) (m:=b.orders) a7 h1 (step:=fun v:Int×Bool=>kH b a v.1 v.2) (fun i h hh q=> ?_) (fun q=> ?_) _) fun w hw=> ?_
  ·simp only[kH];rw[aB (by rw[dS];simpa using h),aB (inb _ i h),aB (inb _ i hh),aZ _ i h,aZ _ i hh,gy,ah,ah,aX,aU,dH (by omega)];have:=aeZ a.orders[i] b.orders[i];simp only[aW,bG,bU,dw,aX,aU,cZ,dn,bJ,dA,bf,bn,dG,dK]at*;exact⟨fun h=>⟨fun e=>(by have:=this.2 e;grind),fun _=>trivial⟩,fun h=>⟨fun _=>trivial,fun e=>absurd (this.1 h) e⟩⟩
  ·simp only[kH];rw[cu (by rw[show((a.orders.length:Nat):Int)=len a.orders from rfl];simp [ilt])]
  cases w with
  |inl w=>obtain⟨rfl,h⟩:=hw;simp only[fO,ah];simp [h]
  |inr w=>
  simp only[fO,hw,true_and];refine Wq.bind (QL (l:=a.cells) (m:=b.cells) a8 h2 (step:=fun v:Int×Bool=>jO b a v.1 v.2) (fun i h hh q=> ?_) (fun q=> ?_) _) fun w hw=> ?_
  ·simp only[jO];rw[aB (by rw[dS];simpa using h),aB (inb _ i h),aB (inb _ i hh),aZ _ i h,aZ _ i hh,gy,ah,ah,aX,aU,dH (by omega)];have:=afz a.cells[i] b.cells[i];simp only[aW,bG,bU,dw,aX,aU,cZ,dn,bJ,dA,bf,bn,dG,dK]at*;exact⟨fun h=>⟨fun e=>(by have:=this.2 e;grind),fun _=>trivial⟩,fun h=>⟨fun _=>trivial,fun e=>absurd (this.1 h) e⟩⟩
  ·simp only[jO];rw[cu (by rw[show((a.cells.length:Nat):Int)=len a.cells from rfl];simp [ilt])]
  cases w with
  |inl w=>obtain⟨rfl,h⟩:=hw;simp only[fO,ah];simp [h]
  |inr w=>
  simp only[fO,hw,true_and];refine Wq.bind (QL (l:=a.limits) (m:=b.limits) a9 h3 (step:=fun v:Int×Bool=>jJ b a v.1 v.2) (fun i h hh q=> ?_) (fun q=> ?_) _) fun w hw=> ?_
  ·simp only[jJ];rw[aB (by rw[dS];simpa using h),aB (inb _ i h),aB (inb _ i hh),aZ _ i h,aZ _ i hh,gy,ah,ah,aX,aU,dH (by omega)];have:=agb a.limits[i] b.limits[i];simp only[aW,bG,bU,dw,aX,aU,cZ,dn,bJ,dA,bf,bn,dG,dK]at*;exact⟨fun h=>⟨fun e=>(by have:=this.2 e;grind),fun _=>trivial⟩,fun h=>⟨fun _=>trivial,fun e=>absurd (this.1 h) e⟩⟩
  ·simp only[jJ];rw[cu (by rw[show((a.limits.length:Nat):Int)=len a.limits from rfl];simp [ilt])]
  cases w with
  |inl w=>obtain⟨rfl,h⟩:=hw;simp only[fO,ah];simp [h]
  |inr w=>
  simp only[fO,hw,true_and];refine Wq.bind (QL (l:=a.caps) (m:=b.caps) a10 h4 (step:=fun v:Int×Bool=>jC b a v.1 v.2) (fun i h hh q=> ?_) (fun q=> ?_) _) fun w hw=> ?_
  ·simp only[jC];rw[aB (by rw[dS];simpa using h),aB (inb _ i h),aB (inb _ i hh),aZ _ i h,aZ _ i hh,gy,ah,ah,aX,aU,dH (by omega)];simp only[aW,bG,bU,dw,aX,aU,cZ,dn,bJ,dA,bf,bn,dG,dK]at*;exact⟨fun h=>⟨fun e=>absurd e h,fun _=>trivial⟩,fun h=>⟨fun _=>trivial,fun e=>absurd h e⟩⟩
  ·simp only[jC];rw[cu (by rw[show((a.caps.length:Nat):Int)=len a.caps from rfl];simp [ilt])]
  cases w with
  |inl w=>obtain⟨rfl,h⟩:=hw;simp only[fO,ah];simp [h]
  |inr w=>simp only[fO,hw,ah]
theorem aeF {a:ax} (ha:rO a):lU a a=some true:=by
 obtain⟨b,e,q⟩:=ajY (b:=a) ha;rw[e,q.2 rfl]
theorem aio (s:ax):Wq (oz s) fun b=>b=true->rO s:=by
 unfold oz rO;simp only[ah,aW,bG,bU,dw,aX,aU,cZ,dn,bJ,dA,bf,bn,dG,dK,len];omega
theorem ae8 {s:ax} (h:rO s) (r:bV):rO (doS s r).1:=by
 have q:=Wi s r;by_cases e:(doS s r).2=0
 ·obtain⟨_,_,_,_,_,_,h1,h2,h3,h4,_⟩:=q.good e;unfold rO at *; omega
 ·rw[q.bad e];exact h
theorem ajo {l:List au} (h:FK l) {o:au} (ho:o∈l):∃k:Nat,∃hk:k<l.length,sO l o.id=some k/\l[k]=o:=by
 cases hf:sO l o.id with
 |none=>exact absurd rfl (acs hf o ho)
 |some k=>
  obtain⟨hk,h1⟩:=kJ hf;obtain⟨j,hj,rfl⟩:=List.getElem_of_mem ho;have:k=j:=h.find hk hj h1;subst this;exact⟨k,hk,rfl,rfl⟩
theorem alv {α β:Type} (l:List α) {i:Nat} (h:i<l.length) (x y z:β):cnd (ilt (i:Int) (len l)) (cnd (band (ile 0 (i:Int)) (ilt (i:Int) (len l))) x y) z=x:=by
 rw[aB (b:=ilt _ _) (PI (by unfold len;omega)),aB (inb l i h)]
theorem akW {α β:Type} (l:List α) (x y:β):cnd (ilt (l.length:Int) (len l)) x y=y:=cu (I9 (by unfold len;omega))
def wK (n:Int):Nat->List Int
 |0=>[]
 |k+1=>(n / 256^k%256)::wK n k
theorem ug (n:Int):∀k,(wK n k).length=k
 |0=>rfl
 |k+1=>by rw[wK,List.length_cons,ug n k]
def xR (l:List Int):Prop:=∀x∈l,0<=x/\x<=255
theorem qg (n:Int):∀k,xR (wK n k)
 |0=>by intro x hx;cases hx
 |k+1=>by
  intro x hx
  rcases List.mem_cons.1 hx with rfl | hx
  ·have h1:=Int.emod_nonneg (n / 256^k) (b:=256) (by decide)
   have h2:=Int.emod_lt_of_pos (n / 256^k) (b:=256) (by decide)
   omega
  ·exact qg n k x hx
theorem xR.app {a b:List Int} (h:xR a) (k:xR b):xR (a++b):=fun x hx=>by
 rcases List.mem_append.1 hx with h1 | h1
 ·exact h x h1
 ·exact k x h1
theorem xR.get {l:List Int} (h:xR l) {i:Nat} (hi:i<l.length):0<=l[i]/\l[i]<=255:=h _ (List.getElem_mem hi)
theorem acB {α:Type} {f:α->List Int} {l:List α} (h:∀x∈l,xR (f x)):xR (l.flatMap f):=fun x hx=>by
 obtain⟨y,h1,h2⟩:=List.mem_flatMap.1 hx;exact h y h1 x h2
theorem af5 (n:Int):wr .u8 n=n%256:=by
 unfold wr IntKind.wrap;simp [IntKind.bits,IntKind.signed]
theorem ahN (n:Int):wr .u32 n=n%4294967296:=by
 unfold wr IntKind.wrap;simp [IntKind.bits,IntKind.signed]
theorem akc {W X:Type} {step:Int×X->Option ((Int×X) ⊕ W)} {n:Nat} (hn:n<999999) (J:Nat->X->Prop) (R:W->Prop)
 (h:∀i x,i<n->J (i+1) x->Wq (step ((i:Int),x)) fun r=>match r with | .inl (k,x')=>k=(i:Int) - 1/\J i x' | .inr w=>R w)
 (he:∀x,J 0 x->Wq (step (-1,x)) fun r=>match r with | .inl _=>False | .inr w=>R w)
 (x:X) (hx:J n x):Wq (bZ step LF ((n:Int) - 1,x)) R:=by
 refine YR (fun v:Int×X=>(v.1+1).toNat) (fun v:Int×X=>∃i:Nat,v.1=(i:Int) - 1/\i<=n/\J i v.2) R ?_ LF _ (adK (by simp only;omega)) ⟨n,rfl,Nat.le_refl _,hx⟩
 rintro⟨k,y⟩ ⟨i,rfl,hi,hj⟩
 cases i with
 |zero=>
  refine(he y hj).mono fun r hr=> ?_
  match r,hr with
  |.inl _,hr=>exact hr.elim
  |.inr w,hr=>exact hr
 |succ i=>
  have e:((i+1:Nat):Int) - 1=(i:Int):=by omega
  rw[e]
  refine(h i y (by omega) hj).mono fun r hr=> ?_
  match r,hr with
  |.inl (k,x'),hr=>
   obtain⟨rfl,h2⟩:=hr
   exact⟨⟨i,rfl,by omega,h2⟩,by simp only;omega⟩
  |.inr w,hr=>exact hr
theorem ajd {i:Nat} (h:i<1000000):wr .i64 (aS (i:Int) 1)=(i:Int) - 1:=by
 unfold aS;exact Gf ⟨by omega,by omega⟩
theorem Ob {α:Type} {l:List α} {n:Nat} (h:l.length<=n) (hn:n<68719476736):ile (len l) 68719476736=true:=nC (by unfold len;omega)
abbrev B32:=BitVec 32
def hB (x:B32):B32:=(x >>> 1) ^^^ (if x.getLsbD 0 then 0xedb88320#32 else 0#32)
def hN:Nat->B32->B32
 |0,x=>x
 |n+1,x=>hN n (hB x)
theorem ajM (x y:B32):hB (x ^^^ y)=hB x ^^^ hB y:=by
 unfold hB;rw[BitVec.ushiftRight_xor_distrib,BitVec.getLsbD_xor];cases x.getLsbD 0<;>cases y.getLsbD 0<;>simp [BitVec.xor_assoc]
 ·rw[BitVec.xor_comm (y >>> 1)]
 ·rw[<-BitVec.xor_assoc (3988292384#32),BitVec.xor_comm (3988292384#32) (y >>> 1),BitVec.xor_assoc];simp
theorem agw:∀(n:Nat) (x y:B32),hN n (x ^^^ y)=hN n x ^^^ hN n y
 |0,_,_=>rfl
 |n+1,x,y=>by rw[hN,hN,hN,ajM,agw n]
theorem akt {y:B32} (h:y.getLsbD 31=false):hB (y <<< 1)=y:=by
 unfold hB;have h0:(y <<< 1).getLsbD 0=false:=by simp
 rw[h0];refine BitVec.eq_of_getLsbD_eq fun i hi=> ?_;simp only[BitVec.getLsbD_xor,BitVec.getLsbD_ushiftRight,BitVec.getLsbD_shiftLeft];by_cases h31:i=31
 ·subst h31;have:y[31]=false:=by simpa using h
  simp [this]
 ·have:1+i<32:=by omega
  simp [this]
theorem agZ:∀(k:Nat) (y:B32),k<=32->(∀j,32 - k<=j->y.getLsbD j=false)->hN k (y <<< k)=y
 |0,y,_,_=>by simp [hN]
 |k+1,y,hk,h=>by
  have e:y <<< (k+1)=(y <<< k) <<< 1:=by rw[BitVec.shiftLeft_add]
  rw[hN,e,akt,agZ k y (by omega) fun j hj=>h j (by omega)]
  rw[BitVec.getLsbD_shiftLeft,h (31 - k) (by omega)]
  simp
theorem acr:∀(a b:Nat) (x:B32),hN (a+b) x=hN b (hN a x)
 |0,b,x=>by rw[Nat.zero_add];rfl
 |a+1,b,x=>by rw[Nat.add_right_comm,hN,hN,acr a]
theorem ali (x:B32):hN 4 (x &&& 15#32) ^^^ (x >>> 4)=hN 4 x:=by
 have hs:=agZ 4 (x >>> 4) (by decide) fun j hj=>by
  rw[BitVec.getLsbD_ushiftRight];exact BitVec.getLsbD_of_ge _ _ (by omega)
 have e:x=(x &&& 15#32) ^^^ ((x >>> 4) <<< 4):=by
  refine BitVec.eq_of_getLsbD_eq fun i hi=> ?_;simp only[BitVec.getLsbD_xor,BitVec.getLsbD_and,BitVec.getLsbD_shiftLeft,BitVec.getLsbD_ushiftRight];by_cases h4:i<4
  ·have h15:(15#32).getLsbD i=true:=by
    have:i=0\/i=1\/i=2\/i=3:=by omega
    rcases this with rfl | rfl | rfl | rfl<;>rfl
   rw[h15];simp [h4]
  ·have h15:(15#32).getLsbD i=false:=by
    have:(15#32)=BitVec.ofNat 32 15:=rfl;rw[this,BitVec.getLsbD_ofNat];have:Nat.testBit 15 i=false:=Nat.testBit_lt_two_pow (Nat.lt_of_lt_of_le (by decide:15<2^4) (Nat.pow_le_pow_right (by decide) (by omega)));simp [this]
   have:4+(i - 4)=i:=by omega
   rw[h15,this];simp [h4,hi]
 conv=>rhs;rw[e,agw,hs]
def ofB (b:Int):B32:=BitVec.ofInt 32 b
def toI (x:B32):Int:=(x.toNat:Int)
theorem aiM (x:B32):0<=toI x/\toI x<4294967296:=by
 have:=x.isLt;unfold toI;omega
theorem Ua (x:B32):ofB (toI x)=x:=by
 apply BitVec.eq_of_toNat_eq;unfold ofB toI;rw[BitVec.toNat_ofInt];have:=x.isLt;omega
theorem ai8 {b:Int} (h1:0<=b) (h2:b<4294967296):toI (ofB b)=b:=by
 unfold ofB toI;rw[BitVec.toNat_ofInt];omega
theorem ahb (x:B32):wr .u32 (toI x)=toI x:=by
 have:=aiM x;rw[ahN];omega
theorem XQ (x y:B32):wr .u32 (fV .u32 (toI x) (toI y))=toI (x ^^^ y):=by
 have:fV .u32 (toI x) (toI y)=toI (x ^^^ y):=by
  show((BitVec.ofInt 32 (toI x) ^^^ BitVec.ofInt 32 (toI y)).toNat:Int)=_;have h1:=Ua x;have h2:=Ua y;unfold ofB at h1 h2;rw[h1,h2];rfl
 rw[this,ahb]
theorem agO (x y:B32):wr .u32 (lK .u32 (toI x) (toI y))=toI (x &&& y):=by
 have:lK .u32 (toI x) (toI y)=toI (x &&& y):=by
  show((BitVec.ofInt 32 (toI x) &&& BitVec.ofInt 32 (toI y)).toNat:Int)=_;have h1:=Ua x;have h2:=Ua y;unfold ofB at h1 h2;rw[h1,h2];rfl
 rw[this,ahb]
theorem ajB (x:B32) (k:Nat) (hk:k<=32):bI .u32 (toI x) (k:Int)=toI (x >>> k):=by
 unfold bI toI;have:min ((k:Int).toNat) (IntKind.bits .u32)=k:=by simp only[IntKind.bits,Int.toNat_natCast];omega
 rw[this,Int.fdiv_eq_ediv_of_nonneg _ (Int.le_of_lt (Int.pow_pos (by decide))),BitVec.toNat_ushiftRight,Nat.shiftRight_eq_div_pow];simp
theorem agV {b:Int} (h1:0<=b) (h2:b<=255):wr .u32 b=toI (ofB b):=by
 rw[ai8 h1 (by omega),ahN];omega
theorem alD (x:B32):(toI x%2=1)↔x.getLsbD 0=true:=by
 unfold toI;rw[BitVec.getLsbD,Nat.testBit_zero];simp only[decide_eq_true_eq];omega
theorem Vm (x:B32):bM (toI x)=some (toI (hN 4 x)):=by
 refine Wq.eq ?_;unfold bM;refine Wq.bind (Q:=fun y=>y=toI (hN 4 x)) ?_ fun y hy=>(ah _).2 hy;refine lH (n:=4) (by decide) (fun i v=>v=toI (hN i x)) _ (fun i v hi hj=> ?_) (fun v hj=> ?_) _ 0 (by decide) rfl
 ·subst hj;simp only;unfold AO;rw[aB (PI (by omega))];have e1:(1:Int)=toI 1#32:=rfl;have e15:(3988292384:Int)=toI 3988292384#32:=rfl;have e2:bI .u32 (toI (hN i x)) 1=toI (hN i x >>> 1):=ajB _ 1 (by decide);rw[e2,e15,XQ];have hb:wr .u32 (lK .u32 (toI (hN i x)) 1)=toI (hN i x &&& 1#32):=by conv=>lhs;rw[e1,agO]
  rw[hb,acr i 1];have hl:(ieq (toI (hN i x &&& 1#32)) 1=true)↔(hN i x).getLsbD 0=true:=by
   rw[bf,<-alD];unfold toI;have:(hN i x &&& 1#32).toNat=(hN i x).toNat%2:=by
    rw[BitVec.toNat_and];exact Nat.and_two_pow_sub_one_eq_mod _ 1
   rw[this];omega
  cases hc:ieq (toI (hN i x &&& 1#32)) 1 with
  |true=>
   rw[aV,ah];refine⟨dH (by omega),?_⟩;show _=toI (hB (hN i x));unfold hB;rw[if_pos (hl.1 hc)]
  |false=>
   rw[aQ,ah];refine⟨dH (by omega),?_⟩;show _=toI (hB (hN i x));unfold hB;rw[if_neg (fun h=>by rw[hl.2 h]at hc;cases hc),BitVec.xor_zero]
 ·subst hj;simp only;unfold AO;rw[cu (I9 (by omega)),ah]
def ones:B32:=BitVec.allOnes 32
def aeV (n:B32) (l:List Int):B32:=l.foldl (fun n b=>hN 8 (n ^^^ ofB b)) n
def akz (l:List Int):Int:=toI (ones ^^^ aeV ones l)
theorem afZ (n:B32) (a b:List Int):aeV n (a++b)=aeV (aeV n a) b:=List.foldl_append
theorem aeT {l:List Int} (hl:l.length<999999) (hb:xR l):Du l=some (akz l):=by
 refine Wq.eq ?_;unfold Du NI;have e0:(4294967295:Int)=toI ones:=rfl;have e00:(0:Int)=toI 0#32:=rfl;have e15:(15:Int)=toI 15#32:=rfl;refine Wq.bind (Q:=fun y=>y=akz l) (Wq.bind (Q:=fun y=>y=toI (aeV ones l)) ?_ fun y hy=> ?_) fun y hy=>(ah _).2 hy
 ·have hi0:wr .u32 (fV .u32 4294967295 0)=toI ones:=by
   conv=>lhs;rw[e0,e00,XQ]
   simp
  rw[hi0];refine lH hl (fun i v=>v=toI (aeV ones (l.take i))) _ (fun i v hi hj=> ?_) (fun v hj=> ?_) _ 0 (Nat.zero_le _) rfl
  ·subst hj;simp only;unfold AA;obtain⟨b1,b2⟩:=hb.get hi;have e4:∀x:B32,bI .u32 (toI x) 4=toI (x >>> 4):=fun x=>ajB x 4 (by decide);rw[alv l hi,aZ l i hi,agV b1 b2,XQ,e15,agO,Vm,aj,e4,XQ,ali,agO,Vm,aj,e4,XQ,ali,ah];refine⟨dH (by omega),?_⟩;rw[List.take_succ_eq_append_getElem hi,afZ,<-acr]
   rfl
  ·subst hj;simp only;unfold AA;rw[akW,ah,List.take_length]
 ·subst hy;rw[ah]
  conv=>lhs;rw[e0,XQ]
  rfl
def XH (n:Int):List Int:=[n%256,n / 256%256,n / 65536%256,n / 16777216%256]
theorem ac2 (n:Int):xR (XH n):=fun x hx=>by
 unfold XH at hx;simp only[List.mem_cons,List.not_mem_nil,or_false]at hx;rcases hx with rfl | rfl | rfl | rfl<;>omega
def p8 (l:List Int):List Int:=l.flatMap fun n=>wK n 8
theorem flat_length {α β:Type} {f:α->List β} {m:Nat} (h:∀x,(f x).length=m):∀l:List α,(l.flatMap f).length=m*l.length
 |[]=>rfl
 |x::l=>by rw[List.flatMap_cons,List.length_append,h,flat_length h l,List.length_cons,Nat.mul_add,Nat.mul_one,Nat.add_comm]
theorem ac7 {n:Int} {i:Nat} (hi:i<4):ile 0 (wr .i64 (eF 8 (i:Int)))=true/\wr .u8 (bI .u32 n (wr .i64 (eF 8 (i:Int))))=n / 256^i%256:=by
 have h1:wr .i64 (eF 8 (i:Int))=((8*i:Nat):Int):=by
  unfold eF;rw[dL (by omega) (by omega)];omega
 have h2:min (((8*i:Nat):Int).toNat) (IntKind.bits .u32)=8*i:=by
  simp only[IntKind.bits,Int.toNat_natCast];omega
 rw[h1];refine⟨nC (by omega),?_⟩;unfold bI;rw[h2,Int.pow_mul,af5,Int.fdiv_eq_ediv_of_nonneg _ (Int.le_of_lt (Int.pow_pos (by decide)))]
 rfl
theorem af6 (n:Int) {j:Nat} (hj:j<8):n%18446744073709551616 / 256^j%256=n / 256^j%256:=by
 have:j=0\/j=1\/j=2\/j=3\/j=4\/j=5\/j=6\/j=7:=by omega
 rcases this with rfl | rfl | rfl | rfl | rfl | rfl | rfl | rfl
 ·rw[show(256:Int)^0=1 by decide];omega
 ·rw[show(256:Int)^1=256 by decide];omega
 ·rw[show(256:Int)^2=65536 by decide];omega
 ·rw[show(256:Int)^3=16777216 by decide];omega
 ·rw[show(256:Int)^4=4294967296 by decide];omega
 ·rw[show(256:Int)^5=1099511627776 by decide];omega
 ·rw[show(256:Int)^6=281474976710656 by decide];omega
 ·rw[show(256:Int)^7=72057594037927936 by decide];omega
def b1 (n:Int):Prop:=0<=n/\n<=255
theorem aht {l:List Int} (h:okL aam l):xR l:=fun x hx=>h.1 x hx
def msgP (m:eu):Prop:=qI m.order/\(0<=m.account/\m.account<8)/\(0<=m.symbol/\m.symbol<8)/\(m.side=1\/m.side=2)/\(0<=m.lsn/\m.lsn<=1000000000)/\
 ((m.kind=1/\1<=m.qty/\1<=m.price/\m.version=0)\/(m.kind=2/\1<=m.qty/\1<=m.price/\1<=m.version)\/(m.kind=3/\m.qty=0/\m.price=0/\m.version=0))
instance (m:eu):Decidable (msgP m):=by unfold msgP qI;infer_instance
theorem alB (m:eu):Wq (jP m) fun b=>b=true↔msgP m:=by
 unfold jP msgP qI;simp only[qB,gy,ah,aW,bG,bU,dw,aX,aU,cZ,dn,bJ,dA,bf,bn,dG,dK,true_implies,ne_eq,not_true_eq_false,false_implies,and_true,true_and,or_self,reduceCtorEq]
 grind
theorem ac9 (m:eu):jP m=some (decide (msgP m)):=(alB m).dec
def Jg:List eu->Int->Int->Prop
 |[],_,_=>True
 |m::r,a,z=>msgP m/\a<m.lsn/\m.lsn<=z/\Jg r m.lsn z
theorem aev {l:List eu} {i:Nat} (hi:i<l.length) {a z:Int}:Jg (l.drop i) a z↔msgP l[i]/\a<l[i].lsn/\l[i].lsn<=z/\Jg (l.drop (i+1)) l[i].lsn z:=by
 rw[List.drop_eq_getElem_cons hi];rfl
theorem ahf (l:List eu) (a z:Int) (hl:l.length<999999):Wq (yQ l a z) fun b=>b=true↔Jg l a z:=by
 unfold yQ;refine Wq.bind (Q:=fun w:Bool ⊕ Bool=>match w with | .inl b=>b=false/\¬Jg l a z | .inr _=>Jg l a z)
  (lH (n:=l.length) (step:=fun v:Int×Bool×Int=>oD (len l) l z v.1 v.2.1 v.2.2) hl (fun i x=>Jg l a z↔Jg (l.drop i) x.2 z) _ ?_ ?_ _ 0 (Nat.zero_le _) (by simp)) ?_
 ·rintro i ⟨q,x⟩ hi hj;simp only at hj;simp only[oD];rw[aB (by rw[dS];simpa using hi),aB (inb l i hi),aZ l i hi,ac9,aj,hj,aev hi];simp only[qB,gy,ah,aW,bG,bU,dw,aX,aU,cZ,dn,bJ,dA,bf,bn,dG,dK,true_implies,ne_eq,not_true_eq_false,false_implies,and_true,true_and,or_self,reduceCtorEq];refine⟨fun h=> ?_,fun h=> ?_⟩
  ·rintro⟨h1,h2,h3,_⟩;rcases h with (h | h) | h
   ·simp [h1]at h
   ·omega
   ·omega
  ·refine⟨dH (by omega),?_⟩;have h1:msgP l[i]:=by simpa using h.1.1
   exact⟨fun h=>h.2.2.2,fun g=>⟨h1,by omega,by omega,g⟩⟩
 ·rintro⟨q,x⟩ hj;simp only at hj;simp only[oD];rw[cu (by rw[show((l.length:Nat):Int)=len l from rfl];simp [ilt]),ah];show Jg l a z;rw[hj,List.drop_length];trivial
 ·intro w hw
  match w,hw with
  |.inl b,h=>simp only[fO,ah];simp [h.1,h.2]
  |.inr _,h=>simp only[fO,ah];simpa using h
def Qm:List uy->Int->Int->Prop
 |[],_,_=>True
 |n::r,a,x=>a<n.seq/\n.seq<=x+8/\Qm r n.seq x
theorem abT {l:List uy} {i:Nat} (hi:i<l.length) {a z:Int}:Qm (l.drop i) a z↔a<l[i].seq/\l[i].seq<=z+8/\Qm (l.drop (i+1)) l[i].seq z:=by
 rw[List.drop_eq_getElem_cons hi];rfl
def adF (f:vG) (x:Int):Prop:=1<=x/\x<=1000000001/\f.held.length<=8/\Qm f.held x x
theorem Ze (f:vG) (x:Int):Wq (CP f x) fun b=>b=true↔adF f x:=by
 unfold CP adF;rw[gy];refine⟨fun h=>(ah _).2 ?_,fun h=> ?_⟩
 ·simp only[aW,bG,bU,dw,aX,aU,cZ,dn,bJ,dA,bf,bn,dG,dK,len]at h;constructor
  ·intro g;cases g
  ·intro g;omega
 simp only[aW,bG,bU,dw,aX,aU,cZ,dn,bJ,dA,bf,bn,dG,dK,len]at h;have hl:f.held.length<=8:=by omega
 have hwr:wr .i64 (aF x 8)=x+8:=dL (by simp only[aF];omega) (by simp only[aF];omega);refine Wq.bind (Q:=fun w:Bool ⊕ Bool=>match w with | .inl b=>b=false/\¬Qm f.held x x | .inr _=>Qm f.held x x)
  (lH (n:=f.held.length) (step:=fun v:Int×Int×Bool=>qh (len f.held) f.held x v.1 v.2.1 v.2.2) (by omega) (fun i y=>Qm f.held x x↔Qm (f.held.drop i) y.1 x) _ ?_ ?_ _ 0 (Nat.zero_le _) (by simp)) ?_
 ·rintro i ⟨y,q⟩ hi hj;simp only at hj;simp only[qh];rw[aB (by rw[dS];simpa using hi),aB (inb f.held i hi),aZ f.held i hi,hj,abT hi,hwr];simp only[qB,gy,ah,aW,bG,bU,dw,aX,aU,cZ,dn,bJ,dA,bf,bn,dG,dK,true_implies,ne_eq,not_true_eq_false,false_implies,and_true,true_and,or_self,reduceCtorEq];refine⟨fun h=> ?_,fun h=> ?_⟩
  ·rintro⟨h1,h2,_⟩;omega
  ·exact⟨dH (by omega),fun h=>h.2.2,fun g=>⟨by omega,by omega,g⟩⟩
 ·rintro⟨y,q⟩ hj;simp only at hj;simp only[qh];rw[cu (by rw[show((f.held.length:Nat):Int)=len f.held from rfl];simp [ilt]),ah];show Qm f.held x x;rw[hj,List.drop_length];trivial
 ·intro w hw
  match w,hw with
  |.inl b,h=>simp only[fO,ah];simp [h.1,h.2]
  |.inr _,h=>
   simp only[fO,ah];simp only[true_iff];exact⟨by omega,by omega,hl,h⟩
theorem Wn {s t:ax} {a y:Int} (h:(LY s t a y).2=0):(LY s t a y).1.orders=t.orders:=by
 unfold LY at h ⊢;by_cases h1:aah t
 ·rw[if_neg (fun g=>g h1)]at h ⊢;by_cases h2:RJ s t a y
  ·rw[if_pos h2]at h;simp at h
  ·rw[if_neg h2]
 ·rw[if_pos h1]at h;simp at h
theorem agG {s:ax} {r:bV} (h0:(doS s r).2=0) (hk:r.kind=1\/r.kind=2\/r.kind=3):
 ∃o∈(doS s r).1.orders,o.id=r.order/\(r.kind=2->1<=o.newQty/\1<=o.newPrice/\1<=o.version):=by
 have hm:=((Wi s r).good h0).1
 have hrec:=hm.2.1
 have hords:=hm.1.fine.ords
 unfold doS at h0 ⊢
 rw[if_neg (fun g=>g hm)]at h0 ⊢
 rcases hk with hk | hk | hk
 ·rw[if_pos hk]at h0 ⊢
  by_cases h1:s.kill=true
  ·rw[if_pos h1]at h0;simp at h0
  rw[if_neg h1]at h0 ⊢
  by_cases h2:s.orders.length=64
  ·rw[if_pos h2]at h0;simp at h0
  rw[if_neg h2]at h0 ⊢
  rw[Wn h0]
  exact⟨iW r,by simp [bP],rfl,fun h=>by omega⟩
 ·rw[if_neg (by omega),if_pos hk]at h0 ⊢
  cases hf:sO s.orders r.order with
  |none=>rw[hf]at h0;simp at h0
  |some k=>
   rw[hf]at h0
   simp only at h0 ⊢
   obtain⟨hkl,hid⟩:=kJ hf
   have hg:ai s.orders k=s.orders[k]:=by simp [ai,hkl]
   by_cases h1:vg (ai s.orders k)
   ·rw[if_neg (fun g=>g h1)]at h0 ⊢
    by_cases h2:s.kill=true
    ·rw[if_pos h2]at h0;simp at h0
    rw[if_neg h2]at h0 ⊢
    rw[Wn h0]
    refine⟨qY (ai s.orders k) r.qty r.price,?_,?_,fun _=> ?_⟩
    ·show _∈cO s.orders k _
     exact List.mem_set hkl _
    ·rw[hg];exact hid
    ·have hv:=(hords s.orders[k] (List.getElem_mem hkl)).1.2.2.2.1
     rw[hg]
     unfold vZ at hrec
     refine⟨?_,?_,?_⟩
     ·show 1<=r.qty;omega
     ·show 1<=r.price;omega
     ·show 1<=s.orders[k].version+1;omega
   ·rw[if_pos h1]at h0;simp at h0
 ·rw[if_neg (by omega),if_neg (by omega),if_pos hk]at h0 ⊢
  cases hf:sO s.orders r.order with
  |none=>rw[hf]at h0;simp at h0
  |some k=>
   rw[hf]at h0
   simp only at h0 ⊢
   obtain⟨hkl,hid⟩:=kJ hf
   have hg:ai s.orders k=s.orders[k]:=by simp [ai,hkl]
   by_cases h1:(ai s.orders k).asked=true
   ·rw[if_pos h1]at h0;simp at h0
   rw[if_neg h1]
   refine⟨VP (ai s.orders k),?_,?_,fun h=>by omega⟩
   ·show _∈cO s.orders k _
    exact List.mem_set hkl _
   ·rw[hg];exact hid
theorem ald {o:au} (ho:rG o) {k z:Int} (hk:k=1\/k=2\/k=3) (h2:k=2->1<=o.newQty/\1<=o.newPrice/\1<=o.version) (hz:0<=z/\z<=1000000000):Wq (gu k o z) fun m=>msgP m/\m.lsn=z:=by
 obtain⟨b1,b2,b3,b4,b5,b6⟩:=ho.1;unfold gu;rw[ja,ja,jo,decide_eq_true ho];simp only[aj,aJ,aY,aV,ac9];rcases hk with rfl | rfl | rfl
 ·have hm:msgP (eu.mk 1 o.id o.account o.symbol o.side o.qty o.price 0 z):=⟨b1,b2,b3,b4,hz,.inl ⟨rfl,b5,b6,rfl⟩⟩;rw[if_pos rfl,decide_eq_true hm];exact(ah _).2 ⟨hm,rfl⟩
 ·obtain⟨c1,c2,c3⟩:=h2 rfl;have hm:msgP (eu.mk 2 o.id o.account o.symbol o.side o.newQty o.newPrice o.version z):=⟨b1,b2,b3,b4,hz,.inr (.inl ⟨rfl,c1,c2,c3⟩)⟩;rw[if_neg (by decide),if_pos rfl,decide_eq_true hm];exact(ah _).2 ⟨hm,rfl⟩
 ·have hm:msgP (eu.mk 3 o.id o.account o.symbol o.side 0 0 0 z):=⟨b1,b2,b3,b4,hz,.inr (.inr ⟨rfl,rfl,rfl,rfl⟩)⟩;rw[if_neg (by decide),if_neg (by decide),decide_eq_true hm];exact(ah _).2 ⟨hm,rfl⟩
theorem aa9:∀ {l:List eu} {a z y:Int} {m:eu},Jg l a z->a<=z->msgP m->z<m.lsn->m.lsn<=y->Jg (l++[m]) a y
 |[],a,z,y,m,_,ha,hm,h1,h2=>⟨hm,by omega,h2,trivial⟩
 |n::r,a,z,y,m,h,_,hm,h1,h2=>⟨h.1,h.2.1,by have:=h.2.2.1;omega,aa9 h.2.2.2 h.2.2.1 hm h1 h2⟩
theorem Ye (l:List eu) (hl:l.length<999999):jQ l l=some true:=by
 refine Wq.eq ?_;unfold jQ;rw[cu (by rw[aU,bf])];refine Wq.bind (QL (l:=l) (m:=l) rfl hl (step:=fun v:Int×Bool=>iM l l v.1 v.2) (fun i h hh q=> ?_) (fun q=> ?_) _) fun w hw=> ?_
 ·simp only[iM];rw[aB (by rw[dS];simpa using h),aB (inb _ i h),aB (inb _ i hh),aZ _ i h,cu (by simp [ak,band,ieq]),ah,dH (by omega)];exact⟨fun _=>rfl,fun g=>absurd rfl g⟩
 ·simp only[iM];rw[cu (by rw[show((l.length:Nat):Int)=len l from rfl];simp [ilt])]
 ·match w,hw with
  |.inl b,h=>exact absurd rfl h.2
  |.inr _,_=>simp only[fO,ah]
theorem afl (f:vG) (hl:f.held.length<999999):pK f f=some true:=by
 refine Wq.eq ?_;unfold pK;rw[cu (by rw[dw,aU,aU,bf,dG];exact⟨rfl,rfl⟩)];refine Wq.bind (QL (l:=f.held) (m:=f.held) rfl hl (step:=fun v:Int×Bool=>jY f f v.1 v.2) (fun i h hh q=> ?_) (fun q=> ?_) _) fun w hw=> ?_
 ·simp only[jY];rw[aB (by rw[dS];simpa using h),aB (inb _ i h),aB (inb _ i hh),aZ _ i h,cu (by simp [ak,band,ieq]),ah,dH (by omega)];exact⟨fun _=>rfl,fun g=>absurd rfl g⟩
 ·simp only[jY];rw[cu (by rw[show((f.held.length:Nat):Int)=len f.held from rfl];simp [ilt])]
 ·match w,hw with
  |.inl b,h=>exact absurd rfl h.2
  |.inr _,_=>simp only[fO,ah]
theorem akR (k:Int) (o:au) (z:Int):∃m,gu k o z=some m:=by
 unfold gu;simp only[ja,jo,aj,ac9];by_cases h1:k=1<;>by_cases h2:k=2<;>simp only[h1,h2,if_true,if_false]<;>
  by_cases h3:rG o<;>simp [h3,cnd,ak,band,bor,aj]<;>split<;>exact⟨_,rfl⟩
def MV (c:UInt8):Prop:=(97<=c.toNat/\c.toNat<=122)\/(48<=c.toNat/\c.toNat<=57)\/c.toNat=46
instance (c:UInt8):Decidable (MV c):=by unfold MV;infer_instance
def rP (s:List UInt8):Prop:=(∀c∈s,MV c)/\1<=s.length/\s.length<=16
instance (s:List UInt8):Decidable (rP s):=by unfold rP;infer_instance
theorem TW:∀(x y:List UInt8),slt x y=decide (x<y)
 |[],[]=>by simp [slt,Op.bytesLess]
 |_::_,[]=>by simp [slt,Op.bytesLess]
 |[],_::_=>by simp [slt,Op.bytesLess]
 |a::x,b::y=>by
  have ih:=TW x y
  unfold slt at*
  rw[Op.bytesLess,ih]
  simp only[List.cons_lt_cons_iff]
  by_cases h1:a<b<;>by_cases h2:a=b<;>by_cases h3:x<y<;>simp [h1,h2,h3]
theorem Uk (a:List UInt8):¬a<a:=List.lt_irrefl a
theorem VO {a b c:List UInt8} (h:a<b) (k:b<c):a<c:=List.lt_trans h k
theorem aiB (a b:List UInt8):a<b\/a=b\/b<a:=by
 by_cases h:a<b
 ·exact .inl h
 ·by_cases k:b<a
  ·exact .inr (.inr k)
  ·exact .inr (.inl (List.le_antisymm (List.not_lt.1 k) (List.not_lt.1 h)))
theorem akX {n:Nat} (hn:n<999999) {step:Int×Bool->Option ((Int×Bool) ⊕ (Bool ⊕ Bool))} (P:Nat->Prop)
 (h:∀(i:Nat) (q:Bool),i<n->(∀j,j<i->P j)->Wq (step ((i:Int),q)) fun r=>match r with | .inl (k,_)=>k=((i+1:Nat):Int)/\P i | .inr (.inl b)=>b=false/\¬P i | .inr (.inr _)=>False)
 (he:∀q:Bool,Wq (step ((n:Int),q)) fun r=>match r with | .inr (.inr _)=>True | _=>False) (q0:Bool):
 Wq (bZ step LF ((0:Int),q0)) fun w=>match w with | .inl b=>b=false/\¬∀i,i<n->P i | .inr _=>∀i,i<n->P i:=by
 refine lH (n:=n) hn (fun i _=>∀j,j<i->P j) _ (fun i q hi hj=>(h i q hi hj).mono fun r hr=> ?_) (fun q hj=>(he q).mono fun r hr=> ?_) q0 0 (Nat.zero_le _) (fun j hj=>by omega)
 ·match r,hr with
  |.inl (k,_),hr=>
   refine⟨hr.1,fun j hj2=> ?_⟩
   by_cases e:j=i
   ·subst e;exact hr.2
   ·exact hj j (by omega)
  |.inr (.inl b),hr=>exact⟨hr.1,fun g=>hr.2 (g i hi)⟩
  |.inr (.inr _),hr=>exact hr.elim
 ·match r,hr with
  |.inl _,hr=>exact hr.elim
  |.inr (.inl b),hr=>exact hr.elim
  |.inr (.inr _),_=>exact hj
theorem ag3 (l:List UInt8) (i:Nat) (h:i<l.length):ab3 l (itn (i:Int))=(l[i].toNat:Int):=by
 simp [ab3,itn,h]
theorem Ie {α:Type} (l:List α):ilt ((l.length:Nat):Int) (len l)=false:=by
 rw[show((l.length:Nat):Int)=len l from rfl];simp [ilt]
theorem aky (c:UInt8):EI (c.toNat:Int)=some (decide (MV c)):=by
 refine Wq.dec ?_;unfold EI MV;rw[ah];simp only[aW,bG,bU,dw,aX,aU,cZ,dn,bJ,dA,bf,bn,dG,dK];omega
theorem Yg {s:List UInt8}:(∀i,i<s.length->∀h:i<s.length,MV s[i])↔∀c∈s,MV c:=by
 constructor
 ·intro h c hc;obtain⟨i,hi,rfl⟩:=List.mem_iff_getElem.1 hc;exact h i hi hi
 ·intro h i hi h2;exact h _ (List.getElem_mem h2)
theorem adV {s:List UInt8} (hs:s.length<999999):yw s=some (decide (rP s)):=by
 refine Wq.dec ?_;unfold yw;refine Wq.bind (akX (n:=s.length) (step:=fun v:Int×Bool=>rC (len s) s v.1 v.2) hs (fun i=>∀h:i<s.length,MV s[i]) (fun i q hi hj=> ?_) (fun q=> ?_) false) fun w hw=> ?_
 ·simp only[rC];rw[aB (by rw[dS];simpa using hi),aB (inb s i hi),ag3 s i hi,aky,aj,kD,CB];split
  ·rename_i h;rw[ah];exact⟨dH (by omega),fun _=>h⟩
  ·rename_i h;rw[ah];exact⟨rfl,fun g=>h (g hi)⟩
 ·simp only[rC];rw[cu (Ie s),ah];trivial
 ·unfold rP
  match w,hw with
  |.inl b,hw=>
   simp only[fO,ah];rw[hw.1];constructor
   ·intro g;cases g
   ·intro g;exact absurd (Yg.2 g.1) hw.2
  |.inr q,hw=>
   simp only[fO,ah,aW,bG,bU,dw,aX,aU,cZ,dn,bJ,dA,bf,bn,dG,dK,len];have:=Yg.1 hw;constructor
   ·intro g;exact⟨this,by omega,by omega⟩
   ·intro g;omega
def okF (f:aI):Prop:=rP f.name/\0<=f.sure/\f.sure<=len f.data
instance (f:aI):Decidable (okF f):=by unfold okF;infer_instance
def jd (l:List aI):Nat:=(l.map (·.data.length)).sum
def Jc (l:List aI):Prop:=l.Pairwise fun f g=>f.name<g.name
instance (l:List aI):Decidable (Jc l):=by unfold Jc;infer_instance
def vV (l:List aI):Prop:=(∀f∈l,okF f)/\Jc l
instance (l:List aI):Decidable (vV l):=by unfold vV;infer_instance
def jk (d:ay):Prop:=(0<=d.room/\d.room<=65536/\ -1<=d.fuse/\d.files.length<=64)/\vV d.files/\(jd d.files:Int)<=d.room
instance (d:ay):Decidable (jk d):=by unfold jk;infer_instance
def nameB (d:ay):Prop:=∀f∈d.files,f.name.length<999999
theorem lT {α:Type} {l:List α} {i:Nat} (h:i<l.length):l.take (i+1)=l.take i++[l[i]]:=by simp
theorem ou (a b:List aI):jd (a++b)=jd a+jd b:=by simp [jd]
theorem Hw (f:aI) (l:List aI):jd (f::l)=f.data.length+jd l:=by simp [jd]
theorem Ho {l:List aI} {i:Nat} (h:i<l.length):jd (l.take (i+1))=jd (l.take i)+l[i].data.length:=by
 rw[lT h,ou];simp [jd]
theorem Oz (l:List aI) (i:Nat):jd (l.take i)<=jd l:=by
 have:=ou (l.take i) (l.drop i);rw[List.take_append_drop]at this;omega
theorem qK (a b:List aI):vV (a++b)↔vV a/\vV b/\∀f∈a,∀g∈b,f.name<g.name:=by
 unfold vV Jc;rw[List.pairwise_append];constructor
 ·rintro⟨h1,h2,h3,h4⟩;exact⟨⟨fun f hf=>h1 f (List.mem_append_left _ hf),h2⟩,⟨fun f hf=>h1 f (List.mem_append_right _ hf),h3⟩,h4⟩
 ·rintro⟨⟨h1,h2⟩,⟨h3,h4⟩,h5⟩;exact⟨fun f hf=>(List.mem_append.1 hf).elim (h1 f) (h3 f),h2,h4,h5⟩
theorem Yw (f:aI):vV [f]↔okF f:=by simp [vV,Jc]
theorem acK {l:List aI} {i:Nat} (h:i<l.length):vV (l.take (i+1))↔vV (l.take i)/\okF l[i]/\(0<i->∀g:i - 1<l.length,l[i - 1].name<l[i].name):=by
 rw[lT h,qK,Yw];constructor
 ·rintro⟨h1,h2,h3⟩;exact⟨h1,h2,fun hi g=>h3 _ (by rw[List.mem_iff_getElem];exact⟨i - 1,by rw[List.length_take];omega,by simp⟩) _ (List.mem_singleton.2 rfl)⟩
 ·rintro⟨h1,h2,h3⟩;refine⟨h1,h2,fun f hf g hg=> ?_⟩;rw[List.mem_singleton.1 hg];obtain⟨j,hj,rfl⟩:=List.mem_iff_getElem.1 hf;rw[List.length_take]at hj;rw[List.getElem_take];have h4:=h3 (by omega) (by omega);by_cases e:j=i - 1
  ·subst e;exact h4
  ·have:=List.pairwise_iff_getElem.1 h1.2 j (i - 1) (by rw[List.length_take];omega) (by rw[List.length_take];omega) (by omega);rw[List.getElem_take,List.getElem_take]at this;exact VO this h4
theorem aeA {l:List aI} (h:vV l) (i:Nat):vV (l.take i):=by
 have:=(qK (l.take i) (l.drop i)).1 (by rw[List.take_append_drop];exact h);exact this.1
theorem Dh {d:ay} (hn:nameB d):lm d=some (decide (jk d)):=by
 refine Wq.dec ?_;unfold lm;rw[gy];refine⟨fun h=>(ah _).2 ?_,fun h=> ?_⟩
 ·simp only[aW,bG,bU,dw,aX,aU,cZ,dn,bJ,dA,bf,bn,dG,dK,len]at h;unfold jk;constructor
  ·intro g;cases g
  ·rintro⟨g, -⟩;omega
 simp only[aW,bG,bU,dw,aX,aU,cZ,dn,bJ,dA,bf,bn,dG,dK,len]at h;have hl:d.files.length<=64:=by omega
 refine Wq.bind (Q:=fun w=>match w with
  |.inl b=>b=false/\¬jk d
  |.inr _=>jk d)
  (lH (n:=d.files.length) (step:=fun v:Int×Int×Bool=>qw (len d.files) d.files d v.1 v.2.1 v.2.2) (by omega)
    (fun i x=>vV (d.files.take i)/\x.1=d.room - (jd (d.files.take i):Int)/\0<=x.1) _ ?_ ?_ _ 0 (Nat.zero_le _) ⟨by simp [vV,Jc],by simp [jd],by simp only;omega⟩) ?_
 ·rintro i ⟨room,q⟩ hi ⟨h1,h2,h3⟩;simp only at h2 h3;simp only[qw];rw[aB (by rw[dS];simpa using hi),aB (inb _ i hi),aZ _ i hi,adV (hn _ (List.getElem_mem hi)),aj];have hu:=Ho hi;have hg:=acK hi;have e1:0<i->wr .i64 (aS (i:Int) 1)=((i - 1:Nat):Int):=fun h0=>by
   rw[aS,dL (by omega) (by omega)];omega
  have hgd:bor (band (ile 0 (wr .i64 (aS (i:Int) 1))) (ilt (wr .i64 (aS (i:Int) 1)) (len d.files))) (ak (band (ak (ak (decide (rP d.files[i].name)))) (ilt 0 (i:Int))))=true:=by
   rw[bU];by_cases h0:0<i
   ·left;rw[e1 h0];exact inb _ _ (by omega)
   ·right;rw[aX,bG];right;exact I9 (by omega)
  rw[aB hgd,gy];have prev:(0<i->∀g:i - 1<d.files.length,d.files[i - 1].name<d.files[i].name)↔band (ilt 0 (i:Int)) (ak (slt (ai d.files (itn (wr .i64 (aS (i:Int) 1)))).name d.files[i].name))=false:=by
   by_cases h0:0<i
   ·rw[e1 h0,aZ _ _ (by omega:i - 1<d.files.length),TW,PI (by omega),zO,aU,decide_eq_true_iff];exact⟨fun g=>g h0 (by omega),fun g _ _=>g⟩
   ·rw[I9 (by omega),U4];simp [h0]
  refine⟨fun hb=>(ah _).2 ⟨rfl,fun hd=> ?_⟩,fun hb=>(ah _).2 ?_⟩
  ·have g1:=(hg.1 (aeA hd.2.1 (i+1)));have g2:=prev.1 g1.2.2;have g3:=Oz d.files (i+1);have g4:=hd.2.2;obtain⟨k1,k2,k3⟩:=g1.2.1;rw[g2]at hb;simp only[aW,bG,bU,dw,aX,aU,cZ,dn,bJ,dA,bf,bn,dG,dK,decide_eq_false_iff_not,len]at hb k3;rcases hb with (((hb | hb) | hb) | hb) | hb
   ·exact hb k1
   ·cases hb
   ·omega
   ·omega
   ·omega
  ·simp only[dw,aU,decide_eq_true_iff]at hb;obtain⟨⟨⟨⟨b1,b2⟩,b3⟩,b4⟩,b5⟩:=hb;have b6:=prev.2 b2;simp only[dn,len]at b3 b4 b5;have e2:wr .i64 (aS room (len d.files[i].data))=room - (d.files[i].data.length:Int):=by
    rw[aS,dL (by simp only[len];omega) (by simp only[len];omega)];rfl
   refine⟨dH (by omega),hg.2 ⟨h1,⟨b1,b3,b4⟩,b6⟩,?_,?_⟩
   ·simp only;rw[e2,hu];omega
   ·simp only;rw[e2];omega
 ·rintro⟨room,q⟩ ⟨h1,h2,h3⟩;simp only[qw];rw[cu (Ie _),ah];rw[List.take_length]at h1 h2;simp only at h2 h3;exact⟨by omega,h1,by omega⟩
 ·rintro(b | q) hw
  ·simp only[fO,ah];simp [hw.1,hw.2]
  ·simp only[fO,ah];simp [hw]
abbrev Nm:=List UInt8
def kM (l:List aI) (n:Nm):Option aI:=l.find? fun f=>decide (f.name=n)
def G9 (n:Nm) (l:List aI):List aI:=l.filter fun f=>decide (f.name≠n)
def qC (f:aI):List aI->List aI
 |[]=>[f]
 |g::r=>if g.name<f.name then g::qC f r else f::G9 f.name (g::r)
theorem zS {n:Nm} {l:List aI} (h:∀f∈l,f.name≠n):G9 n l=l:=by
 unfold G9;rw[List.filter_eq_self];intro f hf;simpa using h f hf
theorem RX (n:Nm) (a b:List aI):G9 n (a++b)=G9 n a++G9 n b:=by simp [G9]
theorem LC (n:Nm) (f:aI) (b:List aI):G9 n (f::b)=if f.name=n then G9 n b else f::G9 n b:=by
 unfold G9;rw[List.filter_cons];by_cases h:f.name=n<;>simp [h]
theorem Yx {n:Nm} {l:List aI} (h:∀f∈l,f.name≠n):kM l n=none:=by
 unfold kM;rw[List.find?_eq_none];intro f hf;simpa using h f hf
theorem aaD {n:Nm} {a:List aI} (h:∀f∈a,f.name≠n) (b:List aI):kM (a++b) n=kM b n:=by
 unfold kM;rw[List.find?_append];have:=Yx h;unfold kM at this;rw[this];rfl
theorem uT (n:Nm) (f:aI) (b:List aI):kM (f::b) n=if f.name=n then some f else kM b n:=by
 unfold kM;rw[List.find?_cons];by_cases h:f.name=n<;>simp [h]
theorem Ap {n:Nm} {l:List aI} {f:aI} (h:kM l n=some f):f∈l/\f.name=n:=
 ⟨List.mem_of_find?_eq_some h,by simpa using List.find?_some h⟩
theorem QE {a b:Nm} (h:a<b):a≠b:=fun e=>Uk _ (e▸h)
inductive kR (n:Nm):List aI->Nat->Option aI->Prop
 |no (a b:List aI) (ha:∀f∈a,f.name<n) (hb:∀f∈b,n<f.name):kR n (a++b) a.length none
 |yes (a:List aI) (f:aI) (b:List aI) (e:f.name=n) (ha:∀f∈a,f.name<n) (hb:∀f∈b,n<f.name):kR n (a++f::b) a.length (some f)
theorem kR.get {n:Nm} {l:List aI} {i:Nat} {o:Option aI} (h:kR n l i o):kM l n=o:=by
 cases h with
 |no a b ha hb=>exact Yx fun f hf=>(List.mem_append.1 hf).elim (fun h=>QE (ha f h)) (fun h=>(QE (hb f h)).symm)
 |yes a f b e ha hb=>rw[aaD fun f h=>QE (ha f h),uT,if_pos e]
theorem kR.le {n:Nm} {l:List aI} {i:Nat} {o:Option aI} (h:kR n l i o):i<=l.length:=by
 cases h<;>simp
theorem kR.lt {n:Nm} {l:List aI} {i:Nat} {f:aI} (h:kR n l i (some f)):∃g:i<l.length,l[i]=f/\f.name=n:=by
 cases h with
 |yes a f b e ha hb=>exact⟨by simp,by simp,e⟩
theorem uK {f:aI} {a:List aI} (ha:∀g∈a,g.name<f.name) (b:List aI):qC f (a++b)=a++qC f b:=by
 induction a with
 |nil=>rfl
 |cons g a ih=>
  rw[List.cons_append,qC,if_pos (ha g (List.mem_cons_self ..)),ih fun g hg=>ha g (List.mem_cons_of_mem _ hg)];rfl
theorem EN {f:aI} {b:List aI} (hb:∀g∈b,f.name<g.name):qC f b=f::b:=by
 cases b with
 |nil=>rfl
 |cons g b=>rw[qC,if_neg fun h=>Uk _ (VO h (hb g (List.mem_cons_self ..))),zS fun g hg=>(QE (hb g hg)).symm]
theorem TT {f g:aI} {b:List aI} (e:g.name=f.name) (hb:∀g∈b,f.name<g.name):qC f (g::b)=f::b:=by
 rw[qC,if_neg (e▸Uk _),LC,if_pos e,zS fun g hg=>(QE (hb g hg)).symm]
theorem kR.ins {n:Nm} {l:List aI} {i:Nat} {f:aI} (h:kR n l i none) (e:f.name=n):l.take i++f::l.drop i=qC f l:=by
 subst e;cases h with
 |no a b ha hb=>rw[uK ha,EN hb];simp
theorem kR.set {n:Nm} {l:List aI} {i:Nat} {f g:aI} (h:kR n l i (some g)) (e:f.name=n):l.set i f=qC f l:=by
 subst e;cases h with
 |yes a g b e ha hb=>rw[uK ha,TT e hb];simp
theorem kR.del {n:Nm} {l:List aI} {i:Nat} {g:aI} (h:kR n l i (some g)):l.eraseIdx i=G9 n l:=by
 cases h with
 |yes a g b e ha hb=>
  rw[RX,LC,if_pos e,zS fun g hg=>QE (ha g hg),zS fun g hg=>(QE (hb g hg)).symm,List.eraseIdx_append_of_length_le (Nat.le_refl _)];simp
theorem Zz {l:List aI} (h:Jc l) {i j:Nat} (hij:i<j) (hj:j<l.length):l[i].name<l[j].name:=
 List.pairwise_iff_getElem.1 h i j (by omega) hj hij
theorem aex {l:List aI} (h:Jc l) {n:Nm} {i:Nat} (hi:i<=l.length) (h1:∀(j:Nat) (h:j<l.length),j<i->l[j].name<n) (h2:∀(j:Nat) (h:j<l.length),i<=j->¬l[j].name<n):
 kR n l i (if g:i<l.length then if l[i].name=n then some l[i]else none else none):=by
 have ha:∀f∈l.take i,f.name<n:=fun f hf=>by
  obtain⟨j,hj,rfl⟩:=List.mem_iff_getElem.1 hf
  rw[List.length_take]at hj
  rw[List.getElem_take]
  exact h1 j (by omega) (by omega)
 have hle:(l.take i).length=i:=by rw[List.length_take];omega
 by_cases g:i<l.length
 ·rw[dif_pos g]
  have hb:∀f∈l.drop (i+1),l[i].name<f.name:=fun f hf=>by
   obtain⟨j,hj,rfl⟩:=List.mem_iff_getElem.1 hf
   rw[List.length_drop]at hj
   rw[List.getElem_drop]
   exact Zz h (by omega) (by omega)
  have e:l.take i++l[i]::l.drop (i+1)=l:=by rw[<-List.drop_eq_getElem_cons g,List.take_append_drop]
  by_cases k:l[i].name=n
  ·rw[if_pos k]
   have:=kR.yes (l.take i) l[i] (l.drop (i+1)) k ha (k▸hb)
   rwa[e,hle]at this
  ·rw[if_neg k]
   have hlt:n<l[i].name:=by
    rcases aiB n l[i].name with c | c | c
    ·exact c
    ·exact absurd c.symm k
    ·exact absurd c (h2 i g (Nat.le_refl _))
   have:=kR.no (l.take i) (l[i]::l.drop (i+1)) ha (fun f hf=>by
    rcases List.mem_cons.1 hf with c | c
    ·subst c;exact hlt
    ·exact VO hlt (hb f c))
   rwa[e,hle]at this
 ·rw[dif_neg g]
  have:=kR.no (l.take i) [] ha (by simp)
  rw[List.append_nil,hle,List.take_of_length_le (by omega)]at this
  exact this
theorem afC (n:Nat) (h:n<1000000000):wr .i64 (bI .u64 (wr .u64 (wr .i64 (n:Int))) 1)=((n / 2:Nat):Int):=by
 have e1:wr .i64 (n:Int)=n:=dL (by omega) (by omega);have e2:wr .u64 (n:Int)=n:=by rw[zx];omega
 have e3:bI .u64 (n:Int) 1=((n / 2:Nat):Int):=by
  unfold bI;simp [Int.shiftRight_eq_div_pow,IntKind.bits,IntKind.signed];exact Int.fdiv_eq_ediv_of_nonneg _ (by decide)
 rw[e1,e2,e3,dL (by omega) (by omega)]
theorem adq (a b:Nm):Zl a b<0↔a<b:=by
 unfold Zl;rw[TW,CB];by_cases h:a<b
 ·simp [h]
 ·rw[if_neg h];cases seq a b<;>simp [cnd,h]
theorem ado (a b:Nm):Zl a b=0↔a=b:=by
 unfold Zl;rw[TW,CB];by_cases h:a<b
 ·simp [h,QE h]
 ·rw[if_neg h];by_cases k:a=b
  ·rw[aB (by rw[ajI];exact k)];simp [k]
  ·rw[cu (by rw[alz];exact k)];simp [k]
theorem YV {d:ay} {n:Nm} (ha:Jc d.files) (hl:d.files.length<=100000):
 Wq (qE d n) fun r=>∃(i:Nat) (o:Option aI),r.1=(i:Int)/\kR n d.files i o/\r.2=o.isSome:=by
 unfold qE
 refine Wq.bind (Q:=fun w:Int=>∃i:Nat,w=(i:Int)/\i<=d.files.length/\(∀(j:Nat) (h:j<d.files.length),j<i->d.files[j].name<n)/\(∀(j:Nat) (h:j<d.files.length),i<=j->¬d.files[j].name<n))
  (YR (step:=fun x:Int×Int=>dP d.files n x.1 x.2) (fun v=>(v.1 - v.2).toNat)
    (fun x=>∃lo hi:Nat,x=((hi:Int),(lo:Int))/\lo<=hi/\hi<=d.files.length/\(∀(j:Nat) (h:j<d.files.length),j<lo->d.files[j].name<n)/\(∀(j:Nat) (h:j<d.files.length),hi<=j->¬d.files[j].name<n)) _ ?_ LF _ (adK (by simp only[len];omega)) ⟨0,d.files.length,rfl,Nat.zero_le _,Nat.le_refl _,fun j _ h=>by omega,fun j h1 h2=>by omega⟩) ?_
 ·rintro _ ⟨lo,hi,rfl,g1,g2,g3,g4⟩
  simp only[dP]
  rw[gy]
  refine⟨fun h=> ?_,fun h=>(ah _).2 ?_⟩
  ·rw[cZ]at h
   have e1:wr .i64 (bI .u64 (wr .u64 (wr .i64 (aF (lo:Int) (hi:Int)))) 1)=(((lo+hi) / 2:Nat):Int):=by
    rw[<-afC (lo+hi) (by omega)];unfold aF;rw[Int.natCast_add]
   have hm:(lo+hi) / 2<d.files.length:=by omega
   rw[e1,aB (inb _ _ hm),aZ _ _ hm,oN,aj,gy,ah,ah]
   refine⟨fun h2=> ?_,fun h2=> ?_⟩
   ·rw[cZ,adq]at h2
    refine⟨⟨(lo+hi) / 2+1,hi,by rw[dH (by omega)],by omega,g2,fun j hj h3=> ?_,g4⟩,?_⟩
    ·rcases Nat.lt_or_ge j ((lo+hi) / 2)with h4 | h4
     ·exact VO (Zz ha h4 hm) h2
     ·have:j=(lo+hi) / 2:=by omega
      subst this;exact h2
    ·simp only;rw[dH (by omega)];omega
   ·rw[dn]at h2
    have h2':¬d.files[(lo+hi) / 2].name<n:=by rw[<-adq];omega
    refine⟨⟨lo,(lo+hi) / 2,rfl,by omega,by omega,g3,fun j hj h3=> ?_⟩,?_⟩
    ·rcases Nat.lt_or_ge ((lo+hi) / 2) j with h4 | h4
     ·exact fun g=>h2' (VO (Zz ha h4 hj) g)
     ·have:j=(lo+hi) / 2:=by omega
      subst this;exact h2'
    ·simp only;omega
  ·rw[dn]at h
   have:lo=hi:=by omega
   subst this
   exact⟨lo,rfl,g2,g3,g4⟩
 rintro _ ⟨i,rfl,hi,g1,g2⟩
 have hs:=aex ha hi g1 g2
 by_cases hil:i<d.files.length
 ·have h1:ilt (i:Int) (len d.files)=true:=PI (by simp only[len];omega)
  rw[aB (by rw[bU];exact .inl (inb _ i hil)),aB h1,aZ _ i hil,oN,aj,ah]
  refine⟨i,_,rfl,hs,?_⟩
  rw[dif_pos hil,h1,zO]
  by_cases k:d.files[i].name=n
  ·rw[if_pos k];show ieq _ 0=true;rw[bf,ado];exact k
  ·rw[if_neg k];show ieq _ 0=false;rw[bn,ne_eq,ado];exact k
 ·have h1:ilt (i:Int) (len d.files)=false:=I9 (by simp only[len];omega)
  rw[aB (by rw[bU,aX];exact .inr h1),cu h1,ah]
  refine⟨i,_,rfl,hs,?_⟩
  rw[dif_neg hil,h1];rfl
def rY (d:ay) (ns:List Nm):Int:=if ¬jk d then 1 else if d.down=true then 9 else if ∀n∈ns,rP n then 0 else 1
def dX (d:ay):ay×Bool:=if d.fuse=0 then (⟨d.files,d.room,d.fuse,true⟩,false)else if d.fuse= -1 then (d,true)else (⟨d.files,d.room,d.fuse - 1,d.down⟩,true)
def GL (d:ay) (f:aI):ay:=⟨qC f d.files,d.room,d.fuse,d.down⟩
def akp (d:ay) (n:Nm):ay:=⟨G9 n d.files,d.room,d.fuse,d.down⟩
theorem Ar {d:ay} {ns:List Nm}:rY d ns=0↔jk d/\d.down=false/\∀n∈ns,rP n:=by
 unfold rY;by_cases h1:jk d
 ·cases h2:d.down
  ·by_cases h3:∀n∈ns,rP n
   ·simp [h1,h3]
   ·simp [h1,h3]
  ·simp [h1]
 ·simp [h1]
theorem YP {d:ay} {ns:List Nm} (hn:nameB d) (hs:∀n∈ns,n.length<999999) (hl:ns.length<1000):nT d ns=some (rY d ns):=by
 refine Wq.eq ?_;unfold nT rY;rw[Dh hn,aj,kD,CB];by_cases hd:jk d
 case neg=>rw[if_neg hd,ah];simp [hd]
 rw[if_pos hd];cases hw:d.down
 case true=>rw[aV,ah];simp [hd]
 rw[aQ]
 refine Wq.bind (Q:=fun w:Int ⊕ Int=>match w with
  |.inl k=>0<=k/\¬∀n∈ns,rP n
  |.inr _=>∀n∈ns,rP n)
  (lH (n:=ns.length) (step:=fun v:Int×Int=>dm (len ns) ns v.1 v.2) (by omega) (fun i x=>∀n∈ns.take i,rP n) _ ?_ ?_ _ 0 (Nat.zero_le _) (by simp)) ?_
 ·rintro i x hi hx;simp only[dm];rw[aB (by rw[dS];simpa using hi),aB (inb _ i hi),aZ _ i hi,adV (hs _ (List.getElem_mem hi)),aj,kD,CB];split
  ·rename_i g;refine(ah _).2 ⟨dH (by omega),?_⟩;rw[lT hi];intro f hf;rcases List.mem_append.1 hf with c | c
   ·exact hx f c
   ·rw[List.mem_singleton.1 c];exact g
  ·rename_i g;exact(ah _).2 ⟨by omega,fun h=>g (h _ (List.getElem_mem hi))⟩
 ·rintro x hx;simp only[dm];rw[cu (Ie _),ah];rwa[List.take_length]at hx
 ·rintro(w | w) hw2
  ·simp only[fO];rw[aB (nC hw2.1),ah,if_neg (fun h=>h hd),if_neg (by simp),if_neg hw2.2]
  ·simp only[fO];rw[ah,if_neg (fun h=>h hd),if_neg (by simp),if_pos hw2]
theorem ajO {d:ay} (hl:d.files.length<999999) (hu:jd d.files<=10000000):EX d=some (jd d.files:Int):=by
 refine Wq.eq ?_;unfold EX;refine Wq.bind (lH (n:=d.files.length) (step:=fun v:Int×Int=>uF (len d.files) d.files v.1 v.2) hl (fun i x=>x=(jd (d.files.take i):Int)) (fun w=>w=(jd d.files:Int)) ?_ ?_ 0 0 (Nat.zero_le _) (by simp [jd])) ?_
 ·rintro i x hi rfl;simp only[uF];rw[aB (by rw[dS];simpa using hi),aB (inb _ i hi),aZ _ i hi,ah];have h1:=Ho hi;have h2:=Oz d.files (i+1);refine⟨dH (by omega),?_⟩;rw[aF,dL (by simp only[len];omega) (by simp only[len];omega)];simp only[len];omega
 ·rintro x rfl;simp only[uF];rw[cu (Ie _),ah,List.take_length]
 ·rintro w rfl;exact(ah _).2 rfl
theorem afQ (n:Nm) (l:List aI):(G9 n l).length<=l.length:=List.length_filter_le ..
theorem UX {l:List aI} (h:l.length<1000000):aP l=some l:=by unfold aP;exact uO h
def afw (p:ay×Bool):ay×Int:=(p.1,if p.2=true then 0 else 9)
def oq (d:ay) (n:Nm) (b:List Int):ay×Int:=
 if rY d [n]≠0 then (d,rY d [n])else
 if d.room<(jd d.files:Int)+(b.length:Int)\/(kM d.files n=none/\64<=d.files.length)then (d,6)else
 afw (dX (GL d ⟨n,((kM d.files n).getD ⟨n,[],0⟩).data++b,((kM d.files n).getD ⟨n,[],0⟩).sure⟩))
def A7 (d:ay) (n:Nm):ay×Int:=
 if rY d [n]≠0 then (d,rY d [n])else
 match kM d.files n with
 |none=>(d,7)
 |some f=>if (dX d).2=true then (GL (dX d).1 ⟨n,f.data,len f.data⟩,0)else ((dX d).1,9)
def AP (d:ay) (n:Nm):ay×Int:=
 if rY d [n]≠0 then (d,rY d [n])else
 match kM d.files n with
 |none=>(d,7)
 |some f=>if (dX d).2=true then (akp (dX d).1 n,0)else ((dX d).1,9)
structure Tv (d:ay):Prop where
 nm:nameB d
 fu:inI d.fuse
theorem jk.fl {d:ay} (h:jk d):d.files.length<=64:=h.1.2.2.2
theorem jk.us {d:ay} (h:jk d):jd d.files<=65536:=by have:=h.2.2;have:=h.1;omega
theorem jk.asc {d:ay} (h:jk d):Jc d.files:=h.2.1.2
theorem iC (d:ay):(dX d).1.files=d.files:=by unfold dX;split<;>(try split)<;>rfl
theorem D7 (d:ay):(dX d).1.room=d.room:=by unfold dX;split<;>(try split)<;>rfl
theorem Ug {α:Type} (d:ay) (hf: -1<=d.fuse) (hf2:inI d.fuse) (x:α) (y:Int->Bool->α):
 cnd (ieq d.fuse 0) x (cnd (ieq d.fuse (-1)) (y d.fuse d.down) (y (wr .i64 (aS d.fuse 1)) d.down))=if (dX d).2=true then y (dX d).1.fuse (dX d).1.down else x:=by
 rw[ja,ja]
 unfold dX
 unfold inI at hf2
 by_cases h0:d.fuse=0
 ·simp [h0]
 by_cases h1:d.fuse= -1
 ·simp [h1]
 ·rw[if_neg h0,if_neg h1,if_neg h0,if_neg h1,if_pos rfl,Gf ⟨by simp only[aS];omega,by simp only[aS];omega⟩];rfl
theorem TY {d:ay} (h:¬(dX d).2=true):(dX d).1=⟨d.files,d.room,d.fuse,true⟩:=by
 unfold dX at h ⊢;split
 ·rfl
 ·rename_i h0;rw[if_neg h0]at h;split at h<;>simp at h
theorem cut_out {α:Type} (l r:List α) (i:Nat) (h:i<l.length):
 (mY (mY l i (l.drop (i+1))) (i+(l.drop (i+1)).length) r).take (i+(l.drop (i+1)).length)=l.eraseIdx i:=by
 unfold mY
 have h1:(l.take i).length=i:=by rw[List.length_take];omega
 have e:(l.take i++(l.drop (i+1)++l.drop (i+(l.drop (i+1)).length))).take (i+(l.drop (i+1)).length)=l.take i++l.drop (i+1):=by
  rw[<-List.append_assoc,List.take_append_of_le_length (by rw[List.length_append,h1];exact Nat.le_refl _),List.take_of_length_le (by rw[List.length_append,h1];exact Nat.le_refl _)]
 rw[e,List.take_append_of_le_length (by rw[List.length_append,h1];exact Nat.le_refl _),List.take_of_length_le (by rw[List.length_append,h1];exact Nat.le_refl _),List.eraseIdx_eq_take_drop_succ]
theorem ahr {α:Type} (l:List α) (i:Nat) (h:i<l.length):bF (dF l (itn ((i+1:Nat):Int))) (itn (aS (len l) ((i+1:Nat):Int)))=l.drop (i+1):=by
 unfold bF dF aS;rw[EK];apply List.take_of_length_le;rw[List.length_drop];simp only[itn,len];omega
theorem afL {α:Type} (l:List α) (i:Nat) (h:i<l.length):nad i (itn (len (l.drop (i+1))))=i+(l.drop (i+1)).length:=by simp [nad,itn,len]
theorem aft {α:Type} (l:List α) (i:Nat) (ys:List α) (h:i+ys.length<=l.length):(mY l i ys).length=l.length:=by
 unfold mY;simp only[List.length_append,List.length_take,List.length_drop];omega
theorem ahO (n:Nat):nad 0 n=n:=by simp [nad]
theorem ajg (n:Nat):itn (nti n)=n:=by simp [itn,nti]
theorem afE {l:List aI} {i:Nat} (h:i<l.length) (hl:l.length<999999):fK l (i:Int) ((i+1:Nat):Int)=some (l.eraseIdx i):=by
 unfold fK;have hdl:(l.drop (i+1)).length=l.length - (i+1):=List.length_drop ..;rw[ahr l i h,EK,afL l i h,ahO,ajg];have hlc:=aft l i (l.drop (i+1)) (by omega)
 rw[aB (by simp only[aW,bJ,len];omega),ja,if_neg (by omega),aB (by simp only[aW,bJ,len];omega),aB (by simp only[aW,bJ,len];omega),aB (by simp only[aF,nti,bJ,len];omega),
  aB (by simp only[aW,bJ,len,aS,nti,hlc];omega)]
 congr 1;exact cut_out l _ i h
theorem abC {l:List MB} (hl:l.length<1000) (hs:(l.flatMap (·.all)).length<1000000):lC l=some (l.flatMap (·.all)):=by
 have tk:∀ {i:Nat} (h:i<l.length),((l.take (i+1)).flatMap (·.all))=((l.take i).flatMap (·.all))++l[i].all:=fun h=>by
  rw[lT h,List.flatMap_append];simp
 have le:∀i:Nat,((l.take i).flatMap (·.all)).length<=(l.flatMap (·.all)).length:=fun i=>by
  have:(l.flatMap (·.all))=((l.take i).flatMap (·.all))++((l.drop i).flatMap (·.all)):=by rw[<-List.flatMap_append,List.take_append_drop]
  rw[this,List.length_append];omega
 have loop2:∀x:List Int,x=[]->Wq (bZ (fun v:Int×List Int=>gY (len l) l v.1 v.2) LF (0,x)) fun w=>w=l.flatMap (·.all):=by
  rintro _ rfl;refine lH (n:=l.length) (by omega) (fun i x=>x=(l.take i).flatMap (·.all)) _ ?_ ?_ [] 0 (Nat.zero_le _) (by simp)
  ·rintro i x hi rfl;simp only[gY];have:=le (i+1);rw[tk hi]at this;rw[aB (by rw[dS];simpa using hi),aB (inb _ i hi),aZ _ i hi,aB (nC (by simp only[len,bP];omega)),ah];exact⟨dH (by omega),(tk hi).symm⟩
  ·rintro x rfl;simp only[gY];rw[cu (Ie _),ah,List.take_length]
 refine Wq.eq ?_;unfold lC;refine Wq.bind (lH (n:=l.length) (step:=fun v:Int×Int=>jM (len l) l v.1 v.2) (by omega) (fun i x=>x=(((l.take i).flatMap (·.all)).length:Int)) (fun w=>w=((l.flatMap (·.all)).length:Int)) ?_ ?_ 0 0 (Nat.zero_le _) (by simp)) ?_
 ·rintro i x hi rfl;simp only[jM];have h1:=le (i+1);rw[tk hi,List.length_append]at h1;have e:wr .i64 (aF (((l.take i).flatMap (·.all)).length:Int) (len l[i].all))=(((l.take (i+1)).flatMap (·.all)).length:Int):=by
   rw[tk hi,List.length_append,aF,dL (by simp only[len];omega) (by simp only[len];omega)];simp only[len];omega
  rw[aB (by rw[dS];simpa using hi),aB (inb _ i hi),aZ _ i hi,e,cu (I9 (by omega)),ah];exact⟨dH (by omega),rfl⟩
 ·rintro x rfl;simp only[jM];rw[cu (Ie _),ah,List.take_length]
 ·rintro w rfl;have e:wr .i64 (aS ((l.flatMap (·.all)).length:Int) 0)=((l.flatMap (·.all)).length:Int):=by rw[aS,dL (by omega) (by omega)];omega
  rw[cu (I9 (by omega)),e,gy];constructor
  ·intro h;rw[cZ]at h;rw[aB (by simp only[aW,cZ,bJ];omega),aB (nC (by simp only[len];omega))];exact(loop2 _ (by simp [bF])).bind fun a h=>(ah _).2 h
  ·intro h;exact(loop2 _ rfl).bind fun a h=>(ah _).2 h
theorem agC {l:List aI} {i:Nat} {f:aI} (h:i<=l.length) (hl:l.length<999999):lu l (i:Int) [f]=some (l.take i++f::l.drop i):=by
 unfold lu;simp only[];rw[aB (by simp only[aW,bJ,len,aF];omega),EK];rfl
theorem ale {i:Nat} (h:i<1000000):wr .i64 (aF (i:Int) 1)=((i+1:Nat):Int):=dH h
theorem ahv {α:Type} [Inhabited α] (l:List α) (i:Nat) (h:i<l.length):ai l i=l[i]:=by simp [ai,h]
theorem Vb {P:Nm->Prop} {n:Nm} (h:P n):∀m∈[n],P m:=fun m hm=>by rw[List.mem_singleton.1 hm];exact h
theorem ahn {d:ay} {n:Nm} (h:Tv d) (hn:n.length<999999):pq d n=some (AP d n):=by
 refine Wq.eq ?_;unfold pq AP;rw[YP h.nm (Vb hn) (by simp),aj,kD,ja,kD,ja];by_cases h0:rY d [n]=0
 case neg=>rw[if_neg h0,if_neg h0,ah,if_pos h0]
 rw[if_pos h0,if_neg (fun g=>g h0)];obtain⟨hd,hw, -⟩:=Ar.1 h0;refine(YV hd.asc (by have:=hd.fl;omega)).bind ?_;rintro⟨k,b⟩ ⟨i,o,e1,e2,e3⟩;simp only at e1 e3;subst e1 e3;have hg:=e2.get;rw[hg];cases o with
 |none=>simp only[Option.isSome_none];rw[aY,aV,ah]
 |some f=>
  obtain⟨hi,-, -⟩:=e2.lt;have hl:=hd.fl;simp only[Option.isSome_some];rw[aJ,aQ,ale (by omega)];simp only[UX (show d.files.length<1000000 by omega),aj,afE hi (by omega)];rw[Ug d hd.1.2.2.1 h.fu (some (ay.mk d.files d.room d.fuse true,(9:Int))) (fun a b=>some (ay.mk (d.files.eraseIdx i) d.room a b,(0:Int))),e2.del];by_cases hs:(dX d).2=true
  ·rw[if_pos hs,ah,if_pos hs];unfold akp;rw[iC,D7]
  ·rw[if_neg hs,ah,if_neg hs,TY hs]
theorem aj6 {d:ay} {n:Nm} (h:Tv d) (hn:n.length<999999):wZ d n=some (A7 d n):=by
 refine Wq.eq ?_;unfold wZ A7;rw[YP h.nm (Vb hn) (by simp),aj,kD,ja,kD,ja];by_cases h0:rY d [n]=0
 case neg=>rw[if_neg h0,if_neg h0,ah,if_pos h0]
 rw[if_pos h0,if_neg (fun g=>g h0)];obtain⟨hd,hw, -⟩:=Ar.1 h0;refine(YV hd.asc (by have:=hd.fl;omega)).bind ?_;rintro⟨k,b⟩ ⟨i,o,e1,e2,e3⟩;simp only at e1 e3;subst e1 e3;have hg:=e2.get;rw[hg];cases o with
 |none=>simp only[Option.isSome_none];rw[aY,aV,ah]
 |some f=>
  obtain⟨hi,hf,hfn⟩:=e2.lt;have hl:=hd.fl;simp only[Option.isSome_some];rw[aJ,aQ];simp only[UX (show d.files.length<1000000 by omega),aj,aB (inb d.files i hi),EK,ahv d.files i hi];rw[Ug d hd.1.2.2.1 h.fu (some (ay.mk d.files d.room d.fuse true,(9:Int))) (fun a b=>some (ay.mk (cO d.files i (aI.mk d.files[i].name d.files[i].data (len d.files[i].data))) d.room a b,(0:Int))),hf];have e:=e2.set (f:=⟨n,f.data,len f.data⟩) rfl;by_cases hs:(dX d).2=true
  ·rw[if_pos hs,ah,if_pos hs];unfold GL cO;rw[iC,D7,hfn,e]
  ·rw[if_neg hs,ah,if_neg hs,TY hs]
theorem agN {d:ay} {n:Nm} {b:List Int} (h:Tv d) (hn:n.length<999999) (hb:b.length<900000):rM d n b=some (oq d n b):=by
 refine Wq.eq ?_;unfold rM oq;rw[YP h.nm (Vb hn) (by simp),aj,kD,ja];by_cases h0:rY d [n]=0
 case neg=>rw[if_neg h0,ah,if_pos h0]
 rw[if_pos h0,if_neg (fun g=>g h0)];obtain⟨hd,hw, -⟩:=Ar.1 h0;have hl:=hd.fl;have hu:=hd.us;have hr:=hd.1;refine(YV hd.asc (by omega)).bind ?_;rintro⟨k,q⟩ ⟨i,o,e1,e2,e3⟩;simp only at e1 e3;subst e1 e3;have hg:=e2.get;rw[hg,ajO (by omega) (by omega),aj];have e4:wr .i64 (aS d.room (jd d.files:Int))=d.room - (jd d.files:Int):=by rw[aS,Gf ⟨by omega,by omega⟩]
 have hcond:(bor (ilt (wr .i64 (aS d.room (jd d.files:Int))) (len b)) (band (ak o.isSome) (ieq (len d.files) 64))=true)↔(d.room<(jd d.files:Int)+(b.length:Int)\/(o=none/\64<=d.files.length)):=by
  rw[e4];simp only[aW,bG,bU,dw,aX,aU,cZ,dn,bJ,dA,bf,bn,dG,dK,len];cases o<;>simp<;>omega
 rw[gy];refine⟨fun hc=>(ah _).2 ?_,fun hc=> ?_⟩
 ·rw[if_pos (hcond.1 hc)]
 rw[if_neg (fun g=>by rw[hcond.2 g]at hc;cases hc),UX (by omega),aj];have hnot:¬(d.room<(jd d.files:Int)+(b.length:Int)\/(o=none/\64<=d.files.length)):=fun g=>by rw[hcond.2 g]at hc;cases hc
 cases o with
 |none=>
  simp only[Option.isSome_none,Option.getD_none,List.nil_append];have hil:=e2.le;rw[aY,aV,agC hil (by omega),aj,e2.ins rfl];have e5:qC ⟨n,[],0⟩ d.files=d.files.take i++⟨n,[],0⟩::d.files.drop i:=(e2.ins (f:=⟨n,[],0⟩) rfl).symm;have hlen:(d.files.take i).length=i:=by rw[List.length_take];omega
  have hi:i<(qC ⟨n,[],0⟩ d.files).length:=by rw[e5];simp;omega
  have hgt:(qC ⟨n,[],0⟩ d.files)[i]=⟨n,[],0⟩:=by
   simp only[e5];rw[List.getElem_append_right (by omega)];simp [hlen]
  have hst:cO (qC ⟨n,[],0⟩ d.files) i ⟨n,b,0⟩=qC ⟨n,b,0⟩ d.files:=by
   rw[<-e2.ins (f:=⟨n,b,0⟩) rfl,e5];unfold cO;rw[List.set_append_right _ _ (by omega)];simp [hlen]
  rw[aB (inb _ i hi),aZ _ i hi,hgt,abC (by simp) (by simp only[List.flatMap_cons,List.flatMap_nil,List.append_nil,List.nil_append];omega),aj,aB (inb _ i hi),EK];simp only[List.flatMap_cons,List.flatMap_nil,List.nil_append,List.append_nil];have e6:ai (qC ⟨n,[],0⟩ d.files) i=⟨n,[],0⟩:=by rw[ahv _ i hi,hgt]
  rw[hst,Ug d hd.1.2.2.1 h.fu (some (ay.mk (qC ⟨n,b,0⟩ d.files) d.room d.fuse true,(9:Int))) (fun x y=>some (ay.mk (qC ⟨n,b,0⟩ d.files) d.room x y,(0:Int)))];have sw:dX (GL d ⟨n,b,0⟩)=(⟨qC ⟨n,b,0⟩ d.files,d.room,(dX d).1.fuse,(dX d).1.down⟩,(dX d).2):=by
   unfold dX GL;split<;>(try split)<;>rfl
  rw[sw];unfold afw;simp only[];by_cases hs:(dX d).2=true
  ·rw[if_pos hs,ah,if_pos hs]
  ·rw[if_neg hs,ah,if_neg hs,TY hs]
 |some f=>
  simp only[Option.isSome_some,Option.getD_some];obtain⟨hi,hf,hfn⟩:=e2.lt;have hus:=Ho hi;have hus2:=Oz d.files (i+1);rw[aJ,aQ,aB (inb _ i hi),aZ _ i hi,hf,abC (by simp) (by simp only[List.flatMap_cons,List.flatMap_nil,List.append_nil,List.length_append];rw[hf]at hus;omega),aj,aB (inb _ i hi),EK];simp only[List.flatMap_cons,List.flatMap_nil,List.append_nil];have e6:ai d.files i=f:=by rw[ahv _ i hi,hf]
  have hst:cO d.files i ⟨f.name,f.data++b,f.sure⟩=qC ⟨n,f.data++b,f.sure⟩ d.files:=by rw[hfn];exact e2.set rfl
  rw[hst,Ug d hd.1.2.2.1 h.fu (some (ay.mk (qC ⟨n,f.data++b,f.sure⟩ d.files) d.room d.fuse true,(9:Int))) (fun x y=>some (ay.mk (qC ⟨n,f.data++b,f.sure⟩ d.files) d.room x y,(0:Int)))];have sw:dX (GL d ⟨n,f.data++b,f.sure⟩)=(⟨qC ⟨n,f.data++b,f.sure⟩ d.files,d.room,(dX d).1.fuse,(dX d).1.down⟩,(dX d).2):=by
   unfold dX GL;split<;>(try split)<;>rfl
  rw[sw];unfold afw;simp only[];by_cases hs:(dX d).2=true
  ·rw[if_pos hs,ah,if_pos hs]
  ·rw[if_neg hs,ah,if_neg hs,TY hs]
theorem ahT (a b:Int):iq a b=if b<a then b else a:=by
 unfold iq;rfl
theorem ah0 {n:Nm} {l:List aI} (h:Jc l):Jc (G9 n l):=by
 unfold Jc G9;exact List.Pairwise.sublist List.filter_sublist h
theorem aeR (d:ay) (hl:okL LU d.files):Wq (oP d) fun b=>b=true->d.files.length<=70/\∀f∈d.files,f.name.length<=100/\f.data.length<=70000:=by
 unfold oP;rw[gy];refine⟨fun h=>(ah _).2 (by intro g;cases g),fun h=> ?_⟩;simp only[aW,bG,bU,dw,aX,aU,cZ,dn,bJ,dA,bf,bn,dG,dK,len]at h
 refine Wq.bind (Q:=fun w=>match w with
  |.inl b=>b=false
  |.inr _=>∀f∈d.files,f.name.length<=100/\f.data.length<=70000)
  (lH (n:=d.files.length) (step:=fun v:Int×Int×Bool=>jm d v.1 v.2.1 v.2.2) (by omega) (fun i x=>∀f∈d.files.take i,f.name.length<=100/\f.data.length<=70000) _ ?_ ?_ _ 0 (Nat.zero_le _) (by simp)) ?_
 ·rintro i ⟨n,q⟩ hi hx;simp only[jm];rw[aB (by rw[dS];simpa using hi),aB (inb _ i hi),aB (by rw[bU];exact .inl (inb _ i hi)),aZ _ i hi,aB (inb _ i hi),gy,ah,ah];refine⟨fun _=>rfl,fun hb=>⟨dH (by omega),?_⟩⟩;simp only[aW,bG,bU,dw,aX,aU,cZ,dn,bJ,dA,bf,bn,dG,dK,len]at hb;rw[lT hi];intro f hf;rcases List.mem_append.1 hf with c | c
  ·exact hx f c
  ·rw[List.mem_singleton.1 c];omega
 ·rintro⟨n,q⟩ hx;simp only[jm];rw[cu (Ie _),ah];rwa[List.take_length]at hx
 ·rintro(w | w) hw
  ·simp only[fO,ah];simp only at hw;rw[hw];intro g;cases g
  ·simp only[fO,ah];exact fun _=>⟨by omega,hw⟩
theorem agc (d:ay) (hl:d.files.length<999999):pX d d=some true:=by
 refine Wq.eq ?_;unfold pX;rw[cu (by simp only[dw,aU,bf,dG,and_self])]
 refine Wq.bind (Q:=fun w:Bool ⊕ Bool=>match w with
  |.inl b=>False
  |.inr _=>True)
  (lH (n:=d.files.length) (step:=fun v:Int×Bool=>ku d d v.1 v.2) (by omega) (fun i x=>True) _ ?_ ?_ _ 0 (Nat.zero_le _) trivial) ?_
 ·rintro i q hi -;simp only[ku];rw[aB (by rw[dS];simpa using hi),aB (inb _ i hi),aB (inb _ i hi),cu (by simp only[dw,aU,bf,ajI,and_self]),ah];exact⟨dH (by omega),trivial⟩
 ·rintro q -;simp only[ku];rw[cu (Ie _),ah];trivial
 ·rintro(w | w) hw
  ·exact hw.elim
  ·simp only[fO,ah]
theorem rP.len {n:Nm} (h:rP n):n.length<999999:=by have:=h.2.2;omega
def vM (d:ay):Prop:=∀f∈d.files,xR f.data
theorem CU {l:List aI} (h:Jc l) (hl:l.length<=100000) (n:Nm):∃i o,kR n l i o:=by
 obtain⟨_,_,i,o,_,h2,_⟩:=YV (d:=⟨l,0,0,false⟩) (n:=n) h hl;exact⟨i,o,h2⟩
theorem get_put (f:aI) (m:Nm):∀l:List aI,kM (qC f l) m=if m=f.name then some f else kM l m
 |[]=>by
  rw[qC,uT]
  by_cases h:m=f.name
  ·rw[if_pos h.symm,if_pos h]
  ·rw[if_neg (fun e=>h e.symm),if_neg h]
 |g::r=>by
  rw[qC]
  by_cases hlt:g.name<f.name
  ·rw[if_pos hlt,uT,uT,get_put f m r]
   by_cases h:m=f.name
   ·rw[if_neg (fun e=>Uk f.name (by rw[e,h]at hlt;exact hlt)),if_pos h,if_pos h]
   ·rw[if_neg h,if_neg h]
  ·rw[if_neg hlt,uT]
   by_cases h:m=f.name
   ·rw[if_pos h.symm,if_pos h]
   ·rw[if_neg (fun e=>h e.symm),if_neg h]
    exact gd m h (g::r)
where
 gd (m:Nm) (h:m≠f.name):∀l:List aI,kM (G9 f.name l) m=kM l m
 |[]=>rfl
 |g::r=>by
  rw[LC]
  by_cases e:g.name=f.name
  ·rw[if_pos e,gd m h r,uT,if_neg (fun k=>h (by rw[<-k,e]))]
  ·rw[if_neg e,uT,uT,gd m h r]
theorem Qs (f:aI) (l:List aI):vV (f::l)↔okF f/\vV l/\∀g∈l,f.name<g.name:=by
 have:=qK [f] l;rw[List.singleton_append,Yw]at this;rw[this];simp
def Tt (o:Option aI):Nat:=match o with | some f=>f.data.length | none=>0
theorem kR.used {n:Nm} {l:List aI} {i:Nat} {o:Option aI} (h:kR n l i o) (f:aI) (e:f.name=n):jd (qC f l)+Tt o=jd l+f.data.length:=by
 subst e;cases h with
 |no a b ha hb=>rw[uK ha,EN hb,ou,ou,Hw];simp only[Tt];omega
 |yes a g b e ha hb=>rw[uK ha,TT e hb,ou,ou,Hw,Hw];simp only[Tt];omega
theorem kR.long {n:Nm} {l:List aI} {i:Nat} {o:Option aI} (h:kR n l i o) (f:aI) (e:f.name=n):(qC f l).length=l.length+if o=none then 1 else 0:=by
 subst e;cases h with
 |no a b ha hb=>rw[uK ha,EN hb];simp;omega
 |yes a g b e ha hb=>rw[uK ha,TT e hb];simp
theorem kR.good {n:Nm} {l:List aI} {i:Nat} {o:Option aI} (h:kR n l i o) {f:aI} (e:f.name=n) (hf:okF f) (hl:vV l):vV (qC f l):=by
 subst e;cases h with
 |no a b ha hb=>
  rw[uK ha,EN hb];obtain⟨h1,h2,h3⟩:=(qK _ _).1 hl;refine(qK _ _).2 ⟨h1,(Qs _ _).2 ⟨hf,h2,hb⟩,fun g hg k hk=> ?_⟩;rcases List.mem_cons.1 hk with rfl | hk
  ·exact ha g hg
  ·exact h3 g hg k hk
 |yes a g b e ha hb=>
  rw[uK ha,TT e hb];obtain⟨h1,h2,h3⟩:=(qK _ _).1 hl;refine(qK _ _).2 ⟨h1,(Qs _ _).2 ⟨hf,((Qs _ _).1 h2).2.1,hb⟩,fun g hg k hk=> ?_⟩;rcases List.mem_cons.1 hk with rfl | hk
  ·exact ha g hg
  ·exact h3 g hg k (List.mem_cons_of_mem _ hk)
theorem kR.usedD {n:Nm} {l:List aI} {i:Nat} {o:Option aI} (h:kR n l i o):jd (G9 n l)+Tt o=jd l:=by
 cases h with
 |no a b ha hb=>rw[zS (fun f hf=>(List.mem_append.1 hf).elim (fun g=>QE (ha f g)) (fun g=>(QE (hb f g)).symm))];rfl
 |yes a g b e ha hb=>
  rw[RX,LC,if_pos e,zS fun g hg=>QE (ha g hg),zS fun g hg=>(QE (hb g hg)).symm,ou,ou,Hw];simp only[Tt];omega
theorem ag4 {n:Nm} {l:List aI} (h:vV l):vV (G9 n l):=⟨fun f hf=>h.1 f (List.mem_filter.1 hf).1,ah0 h.2⟩
structure Keep (d e:ay):Prop where
 right:jk e
 fz:e.fuse<=d.fuse
 room:e.room=d.room
theorem Keep.refl {d:ay} (h:jk d):Keep d d:=⟨h,Int.le_refl _,rfl⟩
theorem Keep.trans {a b c:ay} (h:Keep a b) (k:Keep b c):Keep a c:=⟨k.right,Int.le_trans k.fz h.fz,k.room.trans h.room⟩
theorem jk.bnd {d:ay} (h:jk d) (hf:inI d.fuse):Tv d:=
 ⟨fun f hf=>by have:=(h.2.1.1 f hf).1.2.2;omega,hf⟩
theorem Keep.bnd {d e:ay} (h:Keep d e) (hf:inI d.fuse):Tv e:=by
 refine h.right.bnd ?_;have:=h.fz;have:=h.right.1.2.2.1;unfold inI at*;omega
theorem NG (d:ay):(d.fuse=0/\(dX d).1.fuse=0/\(dX d).1.down=true/\(dX d).2=false)\/((dX d).1.fuse<=d.fuse/\(-1<=d.fuse-> -1<=(dX d).1.fuse)/\(dX d).1.down=d.down/\(dX d).2=true):=by
 unfold dX;by_cases h0:d.fuse=0
 ·simp [h0]
 by_cases h1:d.fuse= -1
 ·simp [h1]
 ·rw[if_neg h0,if_neg h1];right;simp only;exact⟨by omega,fun _=>by omega,trivial,trivial⟩
theorem NT {d:ay} (h:jk d):Keep d (dX d).1:=by
 have hf:=NG d;have h1:=h.1;refine⟨⟨⟨?_,?_,?_,?_⟩,?_,?_⟩,?_,D7 d⟩<;>(try rw[D7])<;>(try rw[iC])
 ·omega
 ·omega
 ·rcases hf with hf | hf
  ·omega
  ·exact hf.2.1 h1.2.2.1
 ·omega
 ·exact h.2.1
 ·exact h.2.2
 ·rcases hf with hf | hf<;>omega
theorem XB {d:ay} {f:aI} (h:jk d) (hf:okF f) (hu:(jd d.files:Int)+f.data.length<=d.room+Tt (kM d.files f.name)) (hl:kM d.files f.name≠none\/d.files.length<64):Keep d (GL d f):=by
 obtain⟨i,o,hs⟩:=CU h.asc (by have:=h.fl;omega) f.name;have g1:=hs.used f rfl;have g2:=hs.long f rfl;rw[hs.get]at hu hl;have h1:=h.1;refine⟨⟨⟨h1.1,h1.2.1,h1.2.2.1,?_⟩,hs.good rfl hf h.2.1,?_⟩,Int.le_refl _,rfl⟩
 ·show(qC f d.files).length<=64;rw[g2];split
  ·rename_i e;rcases hl with c | c
   ·exact absurd e c
   ·omega
  ·omega
 ·show(jd (qC f d.files):Int)<=d.room;omega
theorem afO {d:ay} {n:Nm} (h:jk d):Keep d (akp d n):=by
 obtain⟨i,o,hs⟩:=CU h.asc (by have:=h.fl;omega) n;have g1:=hs.usedD;have h1:=h.1;have h2:=h.2.2;have:=afQ n d.files;exact⟨⟨⟨h1.1,h1.2.1,h1.2.2.1,Nat.le_trans this h1.2.2.2⟩,ag4 h.2.1,by show(jd (G9 n d.files):Int)<=d.room;omega⟩,Int.le_refl _,rfl⟩
theorem aku {d:ay} {n:Nm} {f:aI} (h:jk d) (hg:kM d.files n=some f):okF f/\f.name=n:=⟨h.2.1.1 f (Ap hg).1,(Ap hg).2⟩
theorem Hf (p:ay×Bool):(afw p).1=p.1:=rfl
theorem Ju {d:ay} {n:Nm} {b:List Int} (h:jk d):Keep d (oq d n b).1:=by
 unfold oq;by_cases h0:rY d [n]=0
 case neg=>rw[if_pos h0];exact Keep.refl h
 rw[if_neg (fun g=>g h0)];have hn:=(Ar.1 h0).2.2 n (List.mem_singleton.2 rfl);by_cases hc:d.room<(jd d.files:Int)+(b.length:Int)\/(kM d.files n=none/\64<=d.files.length)
 ·rw[if_pos hc];exact Keep.refl h
 rw[if_neg hc,Hf];have hw:Keep d (GL d ⟨n,((kM d.files n).getD ⟨n,[],0⟩).data++b,((kM d.files n).getD ⟨n,[],0⟩).sure⟩):=by
  have hc1:¬d.room<(jd d.files:Int)+(b.length:Int):=fun g=>hc (.inl g);refine XB h ?_ ?_ ?_
  ·cases hg:kM d.files n with
   |none=>exact⟨hn,Int.le_refl _,by simp only[len,Option.getD_none];omega⟩
   |some f=>
    have hf:=(aku h hg).1;exact⟨hn,hf.2.1,by have:=hf.2.2;simp only[Option.getD_some,len,List.length_append]at this ⊢; omega⟩
  ·cases hg:kM d.files n with
   |none=>simp only[Tt,Option.getD_none,List.nil_append];omega
   |some f=>simp only[Tt,Option.getD_some,List.length_append];omega
  ·cases hg:kM d.files n with
   |none=>right;have:¬64<=d.files.length:=fun g=>hc (.inr ⟨hg,g⟩);omega
   |some f=>left;intro e;cases e
 exact hw.trans (NT hw.right)
theorem XU {d:ay} {n:Nm} (h:jk d):Keep d (A7 d n).1:=by
 unfold A7;by_cases h0:rY d [n]=0
 case neg=>rw[if_pos h0];exact Keep.refl h
 rw[if_neg (fun g=>g h0)];have hn:=(Ar.1 h0).2.2 n (List.mem_singleton.2 rfl);have hk:=NT h;cases hg:kM d.files n with
 |none=>exact Keep.refl h
 |some f=>
  simp only;split
  ·refine hk.trans (XB hk.right ⟨hn,by simp only[len];omega,Int.le_refl _⟩ ?_ ?_)
   ·simp only;rw[iC,D7,hg];simp only[Tt];have:=h.2.2;omega
   ·left;simp only;rw[iC,hg];intro e;cases e
  ·exact hk
theorem Sr {d:ay} {n:Nm} (h:jk d):Keep d (AP d n).1:=by
 unfold AP;by_cases h0:rY d [n]=0
 case neg=>rw[if_pos h0];exact Keep.refl h
 rw[if_neg (fun g=>g h0)];have hk:=NT h;cases hg:kM d.files n with
 |none=>exact Keep.refl h
 |some f=>
  simp only;split
  ·exact hk.trans (afO hk.right)
  ·exact hk
theorem adE {f g:aI}:∀ {l:List aI},g∈qC f l->g=f\/g∈l
 |[],h=> .inl (List.mem_singleton.1 h)
 |k::r,h=>by
  rw[qC]at h
  split at h
  ·rcases List.mem_cons.1 h with rfl | h
   ·exact .inr (List.mem_cons_self ..)
   ·rcases adE h with e | e
    ·exact .inl e
    ·exact .inr (List.mem_cons_of_mem _ e)
  ·rcases List.mem_cons.1 h with rfl | h
   ·exact .inl rfl
   ·exact .inr (List.mem_filter.1 h).1
theorem YA {d:ay} {f:aI} (h:vM d) (hf:xR f.data):vM (GL d f):=fun g hg=>by
 rcases adE hg with rfl | hg
 ·exact hf
 ·exact h g hg
theorem N8 {d:ay} (h:vM d):vM (dX d).1:=fun g hg=>by rw[iC]at hg;exact h g hg
theorem aax {d:ay} {n:Nm} {f:aI} (h:vM d) (hg:kM d.files n=some f):xR f.data:=h f (Ap hg).1
theorem aaH {d:ay} {n:Nm} {b:List Int} (h:vM d) (hb:xR b):vM (oq d n b).1:=by
 unfold oq;split
 ·exact h
 ·split
  ·exact h
  ·rw[Hf];refine N8 (YA h ?_);cases hg:kM d.files n with
   |none=>exact hb
   |some f=>exact(aax h hg).app hb
theorem aef {d:ay} {n:Nm} (h:vM d):vM (A7 d n).1:=by
 unfold A7;split
 ·exact h
 ·cases hg:kM d.files n with
  |none=>exact h
  |some f=>simp only;split;exact YA (N8 h) (show xR f.data from aax h hg);exact N8 h
def Ws (p:ay×Int) (f:ay->ay×Int):ay×Int:=if p.2≠0 then p else f p.1
theorem Wl {p:ay×Int} {f:ay->ay×Int} (h:p.2≠0):Ws p f=p:=if_pos h
theorem then_ok {p:ay×Int} {f:ay->ay×Int} (h:p.2=0):Ws p f=f p.1:=if_neg (fun g=>g h)
theorem afe {d:ay} {p:ay×Int} {f:ay->ay×Int} (h:Keep d p.1) (hf:∀e,jk e->Keep e (f e).1):Keep d (Ws p f).1:=by
 unfold Ws;split
 ·exact h
 ·exact h.trans (hf _ h.right)
theorem ae2 {p:ay×Int} {f:ay->ay×Int} (h:vM p.1) (hf:∀e,vM e->vM (f e).1):vM (Ws p f).1:=by
 unfold Ws;split
 ·exact h
 ·exact hf _ h
def ZE (v:Nat):Nm:=List.replicate (10 - (F6 20 v).length) 48++F6 20 v
def zA (g:Int):Prop:=1<=g/\g<=1000000000
theorem aak {v:Nat} (h:v<=1000000000):(ZE v).length=10:=by
 have:=G5 20 v 10 (by omega) (by decide);unfold ZE;rw[List.length_append,List.length_replicate];omega
theorem aan (v:Nat):∀c∈ZE v,WG c:=by
 intro c hc;rcases List.mem_append.1 hc with h | h
 ·rw[List.mem_replicate]at h;rw[h.2,wJ];decide
 ·exact OE _ _ c h
theorem abG {v:Nat} (h:v<=1000000000):xX (ZE v)=v:=by
 unfold ZE;rw[N7,Vs 20 v (by omega)]
theorem agQ {c:UInt8} (h:WG c):MV c:=by rw[wJ]at h;exact .inr (.inl h)
theorem ah6 {g:Int} (h:zA g):(fmt10 g).length<=10:=by
 have:fmt10 g=F6 20 g.toNat:=by unfold fmt10;rw[if_neg (by have:=h.1;omega)]
 rw[this];exact G5 20 _ 10 (by unfold zA at h;omega) (by decide)
theorem ah3 {d:ay} (h:PE d):vM d:=fun f hf=>aht (h.files.1 f hf).data
theorem aee {d:ay} (h:PE d) (hs:d.files.length<=70/\∀f∈d.files,f.name.length<=100/\f.data.length<=70000):Tv d:=
 ⟨fun f hf=>by have:=(hs.2 f hf).1;omega,h.fuse⟩
structure UpD (d:ay):Prop where
 right:jk d
 up:d.down=false
structure aeS (d e:ay) (c:Int):Prop where
 code:(c=0/\e.down=false)\/(c=9/\e.down=true/\d.fuse≠ -1)
 fuse:d.fuse= -1->e.fuse= -1
 keep:Keep d e
theorem aeS.up {d e:ay} {c:Int} (h:aeS d e c) (hc:c=0):UpD e:=⟨h.keep.right,by rcases h.code with g | g;exact g.2;rw[hc]at g;exact absurd g.1 (by decide)⟩
theorem aeS.cases {d e:ay} {c:Int} (h:aeS d e c):c=0\/(c=9/\e.down=true/\d.fuse≠ -1):=h.code.imp (·.1) id
theorem UpD.first {d:ay} (h:UpD d) {ns:List Nm} (hn:∀n∈ns,rP n):rY d ns=0:=Ar.2 ⟨h.right,h.up,hn⟩
theorem aeY {d:ay} (h:UpD d):((dX d).2=true/\(dX d).1.down=false)\/((dX d).2=false/\(dX d).1.down=true/\d.fuse≠ -1):=by
 have:=NG d;have hu:=h.up;rcases this with ⟨h0,h1,h2,h3⟩ | ⟨h1,h2,h3,h4⟩
 ·exact .inr ⟨h3,h2,by omega⟩
 ·exact .inl ⟨h4,by rw[h3,hu]⟩
theorem UB {d:ay} (h:d.fuse= -1):dX d=(d,true):=by unfold dX;rw[if_neg (by omega),if_pos h]
theorem YK {d:ay} {n:Nm} {b:List Int} (h:UpD d) (hn:rP n):
 ((oq d n b).2=6/\(oq d n b).1=d/\(d.room<(jd d.files:Int)+(b.length:Int)\/(kM d.files n=none/\64<=d.files.length)))\/
 (aeS d (oq d n b).1 (oq d n b).2/\(∀m,kM (oq d n b).1.files m=if m=n then some ⟨n,((kM d.files n).getD ⟨n,[],0⟩).data++b,((kM d.files n).getD ⟨n,[],0⟩).sure⟩else kM d.files m)/\
   jd (oq d n b).1.files=jd d.files+b.length/\(oq d n b).1.files.length<=d.files.length+1):=by
 have hk:=Ju (n:=n) (b:=b) h.right
 have h0:=h.first (Vb hn)
 unfold oq at hk ⊢
 rw[if_neg (fun g=>g h0)]at hk ⊢
 by_cases hc:d.room<(jd d.files:Int)+(b.length:Int)\/(kM d.files n=none/\64<=d.files.length)
 ·rw[if_pos hc];exact .inl ⟨rfl,rfl,hc⟩
 rw[if_neg hc]at hk ⊢
 right
 obtain⟨i,o,hs⟩:=CU h.right.asc (by have:=h.right.fl;omega) n
 generalize hF:(⟨n,((kM d.files n).getD ⟨n,[],0⟩).data++b,((kM d.files n).getD ⟨n,[],0⟩).sure⟩:aI)=F at hk ⊢
 have hFn:F.name=n:=by rw[<-hF]
 have g1:=hs.used F hFn
 have g2:=hs.long F hFn
 have hup:(GL d F).down=false:=h.up
 have hold:F.data.length=Tt o+b.length:=by
  rw[<-hF,<-hs.get]
  cases kM d.files n<;>simp [Tt]
 refine⟨⟨?_,?_,hk⟩,fun m=> ?_,?_,?_⟩
 ·have hsf:=NG (GL d F)
  rcases hsf with ⟨q0,q1,q2,q3⟩ | ⟨q1,q2,q3,q4⟩
  ·right;unfold afw;rw[q3];exact⟨rfl,q2,by have:d.fuse=0:=q0;omega⟩
  ·left;unfold afw;rw[q4];exact⟨rfl,by rw[q3];exact hup⟩
 ·intro hf
  rw[Hf,UB (show(GL d F).fuse= -1 from hf)];exact hf
 ·rw[Hf,iC]
  show kM (qC F d.files) m=_
  rw[get_put,hFn]
 ·rw[Hf,iC]
  show jd (qC F d.files)=_
  omega
 ·rw[Hf,iC]
  show(qC F d.files).length<=_
  rw[g2];split<;>omega
end Go.Av
