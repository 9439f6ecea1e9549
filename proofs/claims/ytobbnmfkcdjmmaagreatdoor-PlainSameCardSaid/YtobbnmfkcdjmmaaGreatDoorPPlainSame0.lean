/- The plain law, part 0. No condition. -/
import Derived.Test.YtobbnmfkcdjmmaaGreatDoorDPlainSame
import Derived.KernelRfl
set_option linter.unusedVariables false
set_option linter.unusedSimpArgs false
set_option linter.unnecessarySimpa false
namespace Go.Av
open Go
theorem aan {V W:Type} {step:V->Option (V ⊕ W)} (μ:V->Nat) (I:V->Prop) (R:W->Prop)
 (h:∀v,I v->(∃v',step v=some (.inl v')/\I v'/\μ v'<μ v)\/∃w,step v=some (.inr w)/\R w):∀(n:Nat) (v:V),μ v<n->I v->∃w,bV step n v=some w/\R w
 |0,v,hn,_=>by omega
 |n+1,v,hn,hI=>by
  rcases h v hI with ⟨v',h1,h2,h3⟩ | ⟨w,h1,h2⟩
  ·obtain⟨w,g1,g2⟩:=aan μ I R h n v' (by omega) h2
   exact⟨w,by rw[bV,h1];exact g1,g2⟩
  ·exact⟨w,by rw[bV,h1];rfl,h2⟩
theorem acL {n:Nat} (h:n<1000000):n<LF:=Nat.lt_trans h (by decide)
theorem KP {n:Int} (h:inI n):wr .i64 n=n:=by
 unfold inI at h
 unfold wr IntKind.wrap
 simp [IntKind.bits,IntKind.signed]
 omega
theorem aeD {n:Int} (h1: -18446744073709551616<=n) (h2:n<=18446744073709551616):
 (inI n/\wr .i64 n=n)\/(9223372036854775807<n/\wr .i64 n=n - 18446744073709551616)\/(n< -9223372036854775808/\wr .i64 n=n+18446744073709551616):=by
 unfold inI wr IntKind.wrap
 simp [IntKind.bits,IntKind.signed]
 omega
theorem Ak (n:Int):wr .u64 n=n%18446744073709551616:=by
 unfold wr IntKind.wrap
 simp [IntKind.bits,IntKind.signed]
theorem bM {n:Int} (h1:0<=n) (h2:n<1000000000000):wr .i64 n=n:=KP ⟨by omega,by omega⟩
theorem aA {α:Type} {b:Bool} {x y:α} (h:b=true):cnd b x y=x:=by subst h;rfl
theorem cZ {α:Type} {b:Bool} {x y:α} (h:b=false):cnd b x y=y:=by subst h;rfl
theorem Ig {α:Type} (b:Bool) (x y:α):cnd b x y=if b=true then x else y:=by cases b<;>rfl
theorem fA {α:Type} (a b:Int) (x y:α):cnd (ieq a b) x y=if a=b then x else y:=by
 by_cases h:a=b
 ·rw[if_pos h,show ieq a b=true by simp [ieq,h]];rfl
 ·rw[if_neg h,show ieq a b=false by simp [ieq,h]];rfl
theorem ES {α:Type} (a b:Int) (x y:α):cnd (ilt a b) x y=if a<b then x else y:=by
 by_cases h:a<b
 ·rw[if_pos h,show ilt a b=true by simp [ilt,h]];rfl
 ·rw[if_neg h,show ilt a b=false by simp [ilt,h]];rfl
theorem anS {α:Type} (a b:Int) (x y:α):cnd (ile a b) x y=if a<=b then x else y:=by
 by_cases h:a<=b
 ·rw[if_pos h,show ile a b=true by simp [ile,h]];rfl
 ·rw[if_neg h,show ile a b=false by simp [ile,h]];rfl
theorem fD {α:Type} (b:Bool) (x y:α):cnd (au b) x y=cnd b y x:=by cases b<;>rfl
theorem zx {α:Type} (P:Prop) [Decidable P] (x y:α):cnd (decide P) x y=if P then x else y:=by
 by_cases h:P
 ·rw[if_pos h,decide_eq_true h];rfl
 ·rw[if_neg h,decide_eq_false h];rfl
instance (n:Int):Decidable (inI n):=by unfold inI;infer_instance
theorem ah {α β:Type} (a:α) (f:α->Option β):af (some a) f=f a:=rfl
theorem ant {α β:Type} (p:Prop) [Decidable p] (x y:Option α) (f:α->Option β):af (if p then x else y) f=if p then af x f else af y f:=by split<;>rfl
theorem Dn {a b:Int} (h:a<b):ilt a b=true:=decide_eq_true h
theorem Bz {a b:Int} (h:¬a<b):ilt a b=false:=decide_eq_false h
theorem jo {a b:Int} (h:a<=b):ile a b=true:=decide_eq_true h
theorem KO {a b:Int} (h:¬a<=b):ile a b=false:=decide_eq_false h
theorem X7 (a:Int):ieq a a=true:=by simp [ieq]
theorem DW {a b:Bool} (h1:a=true) (h2:b=true):band a b=true:=by subst h1;subst h2;rfl
theorem bC {α:Type} [Inhabited α] (l:List α) (i:Nat) (h:i<l.length):aj l (itn (i:Int))=l[i]:=by
 simp [aj,itn,h]
theorem inb {α:Type} (l:List α) (i:Nat) (h:i<l.length):band (ile 0 (i:Int)) (ilt (i:Int) (len l))=true:=DW (jo (by omega)) (Dn (by simp only[len];omega))
theorem aW (a b:Bool):(band a b=true)=(a=true/\b=true):=by cases a<;>cases b<;>simp [band]
theorem bK (a b:Bool):(band a b=false)=(a=false\/b=false):=by cases a<;>cases b<;>simp [band]
theorem dn (a b:Bool):(bor a b=true)=(a=true\/b=true):=by cases a<;>cases b<;>simp [bor]
theorem dF (a b:Bool):(bor a b=false)=(a=false/\b=false):=by cases a<;>cases b<;>simp [bor]
theorem aY (a:Bool):(au a=true)=(a=false):=by cases a<;>simp [au]
theorem aZ (a:Bool):(au a=false)=(a=true):=by cases a<;>simp [au]
theorem dA (a b:Int):(ilt a b=true)=(a<b):=by simp [ilt]
theorem dB (a b:Int):(ilt a b=false)=(b<=a):=by simp [ilt]
theorem bP (a b:Int):(ile a b=true)=(a<=b):=by simp [ile]
theorem dJ (a b:Int):(ile a b=false)=(b<a):=by simp [ile]
theorem bn (a b:Int):(ieq a b=true)=(a=b):=by simp [ieq]
theorem bg (a b:Int):(ieq a b=false)=(a≠b):=by simp [ieq]
theorem dM (a b:Bool):(beq a b=true)=(a=b):=by simp [beq]
theorem dN (a b:Bool):(beq a b=false)=(a≠b):=by simp [beq]
theorem alQ (a b:List UInt8):(seq a b=true)=(a=b):=by simp [seq]
theorem alY (a b:List UInt8):(seq a b=false)=(a≠b):=by simp [seq]
def Wq {α:Type} (o:Option α) (Q:α->Prop):Prop:=∃a,o=some a/\Q a
theorem ai {α:Type} {Q:α->Prop} (a:α):Wq (some a) Q↔Q a:=⟨fun⟨_,h,q⟩=>by cases h;exact q,fun h=>⟨a,rfl,h⟩⟩
theorem fP {α:Type} {Q:α->Prop} (c:Bool) (x y:Option α):Wq (cnd c x y) Q↔(c=true->Wq x Q)/\(c=false->Wq y Q):=by
 cases c<;>simp [cnd]
theorem pV {α β:Type} {Q:β->Prop} (o:Option α) (f:α->Option β):Wq (af o f) Q↔Wq o fun a=>Wq (f a) Q:=by
 cases o with
 |none=>simp [af,Wq]
 |some a=>simp [af,ai]
theorem Wq.mono {α:Type} {Q R:α->Prop} {o:Option α} (h:Wq o Q) (hq:∀a,Q a->R a):Wq o R:=by
 obtain⟨a,e,q⟩:=h
 exact⟨a,e,hq a q⟩
theorem Wq.bind {α β:Type} {Q:α->Prop} {R:β->Prop} {o:Option α} {f:α->Option β} (h:Wq o Q) (hq:∀a,Q a->Wq (f a) R):Wq (af o f) R:=(pV o f).2 (h.mono hq)
theorem Wq.eq {α:Type} {o:Option α} {a:α} (h:Wq o fun x=>x=a):o=some a:=by obtain⟨x,e,rfl⟩:=h;exact e
theorem Wq.dec {o:Option Bool} {P:Prop} [Decidable P] (h:Wq o fun b=>b=true↔P):o=some (decide P):=by
 obtain⟨b,e,q⟩:=h
 rw[e];congr 1
 cases b<;>simp_all
theorem Xt {V W:Type} {step:V->Option (V ⊕ W)} (μ:V->Nat) (I:V->Prop) (R:W->Prop)
 (h:∀v,I v->Wq (step v) fun r=>match r with | .inl v'=>I v'/\μ v'<μ v | .inr w=>R w) (n:Nat) (v:V) (hn:μ v<n) (hi:I v):Wq (bV step n v) R:=
 aan μ I R (fun v hv=>by
  obtain⟨r,e,q⟩:=h v hv
  match r,e,q with
  |.inl v',e,q=>exact .inl ⟨v',e,q.1,q.2⟩
  |.inr w,e,q=>exact .inr ⟨w,e,q⟩) n v hn hi
theorem dG {i:Nat} (h:i<1000000):wr .i64 (ax (i:Int) 1)=((i+1:Nat):Int):=by
 unfold ax
 rw[bM (by omega) (by omega)];omega
theorem eX {α:Type} (l:List α) (i:Nat):ilt (i:Int) (len l)=decide (i<l.length):=by
 simp [ilt,len]
theorem lD {W X:Type} {step:Int×X->Option ((Int×X) ⊕ W)} {n:Nat} (hn:n<999999) (J:Nat->X->Prop) (R:W->Prop)
 (h:∀i x,i<n->J i x->Wq (step ((i:Int),x)) fun r=>match r with | .inl (k,x')=>k=((i+1:Nat):Int)/\J (i+1) x' | .inr w=>R w)
 (he:∀x,J n x->Wq (step ((n:Int),x)) fun r=>match r with | .inl _=>False | .inr w=>R w)
 (x:X) (i0:Nat) (hi0:i0<=n) (hx:J i0 x):Wq (bV step LF ((i0:Int),x)) R:=by
 refine Xt (fun v:Int×X=>n - v.1.toNat) (fun v:Int×X=>∃i:Nat,v.1=(i:Int)/\i<=n/\J i v.2) R ?_ LF _ (acL (by simp only;omega)) ⟨i0,rfl,hi0,hx⟩
 rintro⟨k,y⟩ ⟨i,rfl,hi,hj⟩
 by_cases hlt:i<n
 ·refine(h i y hlt hj).mono fun r hr=> ?_
  match r,hr with
  |.inl (k,x'),hr=>
   obtain⟨rfl,h2⟩:=hr
   exact⟨⟨i+1,rfl,hlt,h2⟩,by simp only[Int.toNat_natCast];omega⟩
  |.inr w,hr=>exact hr
 ·obtain rfl:i=n:=by omega
  refine(he y hj).mono fun r hr=> ?_
  match r,hr with
  |.inl _,hr=>exact hr.elim
  |.inr w,hr=>exact hr
theorem lW {α:Type} {l:List α} (h:l.length<1000000):NU (len l) (fun y0=>cnd (beq y0 true) (some []) (cnd (ile (len l) 68719476736) (some l) none))=some l:=by
 unfold NU
 have hc:ile (len l) 68719476736=true:=jo (by simp only[len];omega)
 simp only[aA hc]
 by_cases h0:len l=0
 ·have:l=[]:=List.eq_nil_of_length_eq_zero (by simp only[len]at h0;omega)
  subst this
  simp [len,cnd,beq,ile]
 ·rw[if_neg h0]
  simp [cnd,beq]
theorem aX {α:Type} (x y:α):cnd true x y=x:=rfl
theorem aU {α:Type} (x y:α):cnd false x y=y:=rfl
theorem aJ:au true=false:=rfl
theorem bf:au false=true:=rfl
theorem EP (b:Bool):band true b=b:=rfl
theorem QH (b:Bool):band false b=false:=rfl
theorem vO (b:Bool):bor true b=true:=rfl
theorem iw (b:Bool):bor false b=b:=rfl
theorem o7:ieq 0 0=true:=rfl
theorem Ar:ieq 3 0=false:=rfl
theorem xY {α:Type} (l:List α) (i:Nat) (x:α):(bT l i x).length=l.length:=by simp [bT]
theorem uP (i:Nat):itn (i:Int)=i:=by simp [itn]
theorem nG {a b:Int} (ha:inI a) (hb:inI b):oM a b=some (if inI (a+b)then (a+b,0)else (0,3)):=by
 unfold inI at ha hb
 unfold oM ax
 rcases aeD (n:=a+b) (by omega) (by omega)with ⟨h,e⟩ | ⟨h,e⟩ | ⟨h,e⟩<;>rw[e,Ig]<;>simp only[aW,bK,dn,dF,aY,aZ,dA,dB,bP,dJ,bn,bg,dM,dN]
 ·rw[if_pos h,if_neg]
  rintro⟨h1,h2⟩;unfold inI at h;exact h1 (decide_eq_decide.2 (by omega))
 ·rw[if_pos,if_neg (by unfold inI;omega)]
  exact⟨fun h1=>by have:=decide_eq_decide.1 h1;omega,by omega⟩
 ·rw[if_pos,if_neg (by unfold inI;omega)]
  exact⟨fun h1=>by have:=decide_eq_decide.1 h1;omega,by omega⟩
theorem EL {a b:Int} (ha:inI a) (hb:inI b):xE a b=some (if inI (a - b)then (a - b,0)else (0,3)):=by
 unfold inI at ha hb
 unfold xE aI
 rcases aeD (n:=a - b) (by omega) (by omega)with ⟨h,e⟩ | ⟨h,e⟩ | ⟨h,e⟩<;>rw[e,Ig]<;>simp only[aW,bK,dn,dF,aY,aZ,dA,dB,bP,dJ,bn,bg,dM,dN]
 ·rw[if_pos h,if_neg]
  rintro⟨h1,h2⟩;unfold inI at h;exact h1 (decide_eq_decide.2 (by omega))
 ·rw[if_pos,if_neg (by unfold inI;omega)]
  exact⟨fun h1=>by have:=decide_eq_decide.1 h1;omega,by omega⟩
 ·rw[if_pos,if_neg (by unfold inI;omega)]
  exact⟨fun h1=>by have:=decide_eq_decide.1 h1;omega,by omega⟩
theorem aah (a b:Int):II a b=some (max a b):=by
 unfold II imax
 congr 1
 by_cases h:b>a
 ·rw[if_pos h];omega
 ·rw[if_neg h];omega
theorem half (n:Int) (h1:0<=n) (h2:n<18446744073709551616):∃a b:Int,n=a*4294967296+b/\0<=a/\a<4294967296/\0<=b/\b<4294967296/\bJ .u64 n 32=a/\wr .u64 (ng .u64 n 4294967295)=b:=by
 refine⟨n / 4294967296,n%4294967296,by omega,by omega,by omega,by omega,by omega,?_,?_⟩
 ·unfold bJ
  have:min (Int.toNat 32) (IntKind.bits .u64)=32:=by decide
  rw[this,Int.fdiv_eq_ediv_of_nonneg _ (by decide)]
  rfl
 ·unfold ng
  rw[Ak]
  have e:(BitVec.ofInt (IntKind.bits .u64) n &&& BitVec.ofInt (IntKind.bits .u64) 4294967295).toNat=n.toNat%4294967296:=by
   rw[BitVec.toNat_and]
   have:(BitVec.ofInt (IntKind.bits .u64) 4294967295).toNat=2^32 - 1:=by decide
   rw[this,Nat.and_two_pow_sub_one_eq_mod]
   rw[BitVec.toNat_ofInt]
   congr 1
   have:(n%(2^(IntKind.bits .u64):Nat))=n:=Int.emod_eq_of_lt h1 (by simpa [IntKind.bits] using h2)
   rw[this]
  rw[e];omega
theorem akp {x y:Int} (hx:0<=x) (hx2:x<18446744073709551616) (hy:0<=y) (hy2:y<18446744073709551616):
 qy x y=some (x*y / 18446744073709551616,x*y%18446744073709551616):=by
 obtain⟨a,b,e1,a1,a2,b1,b2,s1,s2⟩:=half x hx hx2
 obtain⟨c,d,e2,c1,c2,d1,d2,t1,t2⟩:=half y hy hy2
 unfold qy
 rw[s1,s2,t1,t2]
 unfold fK ax
 have m1:0<=a*c/\a*c<=4294967295*4294967295:=⟨Int.mul_nonneg a1 c1,Int.mul_le_mul (by omega) (by omega) c1 (by omega)⟩
 have m2:0<=a*d/\a*d<=4294967295*4294967295:=⟨Int.mul_nonneg a1 d1,Int.mul_le_mul (by omega) (by omega) d1 (by omega)⟩
 have m3:0<=b*c/\b*c<=4294967295*4294967295:=⟨Int.mul_nonneg b1 c1,Int.mul_le_mul (by omega) (by omega) c1 (by omega)⟩
 have m4:0<=b*d/\b*d<=4294967295*4294967295:=⟨Int.mul_nonneg b1 d1,Int.mul_le_mul (by omega) (by omega) d1 (by omega)⟩
 have mm:x*y=a*c*18446744073709551616+(a*d+b*c)*4294967296+b*d:=by
  subst e1 e2
  simp only[Int.add_mul,Int.mul_add]
  have q1:a*4294967296*(c*4294967296)=a*c*18446744073709551616:=by
   rw[Int.mul_assoc,Int.mul_left_comm 4294967296,<-Int.mul_assoc,<-Int.mul_assoc];omega
  have q2:a*4294967296*d=a*d*4294967296:=by rw[Int.mul_assoc,Int.mul_comm 4294967296,<-Int.mul_assoc]
  have q3:b*(c*4294967296)=b*c*4294967296:=by rw[<-Int.mul_assoc]
  rw[q1,q2,q3];omega
 rw[mm]
 generalize a*c=p at*
 generalize a*d=q at*
 generalize b*c=r at*
 generalize b*d=t at*
 have sh:∀n:Int,0<=n->n<18446744073709551616->bJ .u64 n 32=n / 4294967296:=fun n h1 h2=>by
  obtain⟨u,v,h3,h4,h5,h6,h7,h8,_⟩:=half n h1 h2
  rw[h8];omega
 have la:∀n:Int,0<=n->n<18446744073709551616->wr .u64 (ng .u64 n 4294967295)=n%4294967296:=fun n h1 h2=>by
  obtain⟨u,v,h3,h4,h5,h6,h7,_,h8⟩:=half n h1 h2
  rw[h8];omega
 simp only[Ak p,Ak q,Ak r,Ak t]
 rw[Int.emod_eq_of_lt (a:=p) m1.1 (by omega),Int.emod_eq_of_lt (a:=q) m2.1 (by omega),Int.emod_eq_of_lt (a:=r) m3.1 (by omega),Int.emod_eq_of_lt (a:=t) m4.1 (by omega)]
 rw[sh t m4.1 (by omega)]
 rw[Ak (q+t / 4294967296),Int.emod_eq_of_lt (a:=q+t / 4294967296) (by omega) (by omega)]
 rw[sh (q+t / 4294967296) (by omega) (by omega),la (q+t / 4294967296) (by omega) (by omega)]
 rw[Ak (p+_),Int.emod_eq_of_lt (a:=p+(q+t / 4294967296) / 4294967296) (by omega) (by omega)]
 rw[Ak ((q+t / 4294967296)%4294967296+r),Int.emod_eq_of_lt (a:=(q+t / 4294967296)%4294967296+r) (by omega) (by omega)]
 rw[sh _ (by omega) (by omega)]
 rw[Ak,Ak]
 congr 2<;>omega
theorem YW {a:Int} (ha:inI a):FV a=some (a.natAbs:Int):=by
 unfold inI at ha
 unfold FV aI
 rw[Ig];simp only[dA,Ak]
 split
 ·congr 1;omega
 ·congr 1;omega
theorem aaS {a b:Int} (ha:inI a) (hb:inI b):I4 a b=some (if inI (a*b)then (a*b,0)else (0,3)):=by
 unfold I4
 rw[YW ha,YW hb,ah,ah,akp (by omega) (by unfold inI at ha;omega) (by omega) (by unfold inI at hb;omega),ah]
 have hm:(a.natAbs:Int)*(b.natAbs:Int)=((a*b).natAbs:Int):=by rw[Int.natAbs_mul];rfl
 have hn:(a.natAbs:Int)*(b.natAbs:Int)<=9223372036854775808*9223372036854775808:=Int.mul_le_mul (by unfold inI at ha;omega) (by unfold inI at hb;omega) (by omega) (by omega)
 rw[hm]at hn ⊢
 have hs:(decide (a<0)=decide (b<0)->0<=a*b)/\(decide (a<0)≠decide (b<0)->a*b<=0):=by
  constructor
  ·intro h
   by_cases h1:a<0
   ·have h2:b<0:=by simpa [h1] using h
    exact Int.mul_nonneg_of_nonpos_of_nonpos (by omega) (by omega)
   ·have h2:¬b<0:=by simpa [h1] using h
    exact Int.mul_nonneg (by omega) (by omega)
  ·intro h
   by_cases h1:a<0
   ·have h2:¬b<0:=by simpa [h1] using h
    exact Int.mul_nonpos_of_nonpos_of_nonneg (by omega) (by omega)
   ·have h2:b<0:=by simpa [h1] using h
    exact Int.mul_nonpos_of_nonneg_of_nonpos (by omega) (by omega)
 generalize a*b=p at*
 simp only[Ig,aW,bK,dn,dF,aY,aZ,dA,dB,bP,dJ,bn,bg,dM,dN,aI,Ak,ne_eq]
 unfold ilt at*
 by_cases hd:decide (a<0)=decide (b<0)
 ·have hp:=hs.1 hd
  rw[if_neg (fun h=>h.1.2 hd)]
  by_cases hr:p<=9223372036854775807
  ·rw[if_pos (by omega),if_pos ⟨by omega,by omega⟩,KP ⟨by omega,by omega⟩]
   congr 2;omega
  ·rw[if_neg (by omega),if_neg (by unfold inI;omega)]
 ·have hp:=hs.2 hd
  by_cases hr: -9223372036854775808<=p
  ·rw[if_pos ⟨⟨by omega,hd⟩,by omega⟩,if_pos ⟨by omega,by omega⟩]
   congr 2
   rcases aeD (n:=(0 - ((p.natAbs:Int)%18446744073709551616))%18446744073709551616) (by omega) (by omega)with ⟨h,e⟩ | ⟨h,e⟩ | ⟨h,e⟩<;>rw[e]<;>unfold inI at* <;>omega
  ·rw[if_neg (by omega),if_neg (by omega),if_neg (by unfold inI;omega)]
def sS (n:Int):Prop:=1<=n/\n<=1000000000000
def qQ (r:iq):Prop:=
 (r.kind=1/\sS r.order/\(0<=r.account/\r.account<8)/\(0<=r.symbol/\r.symbol<8)/\(r.side=1\/r.side=2)/\1<=r.qty/\1<=r.price/\r.long=0/\r.short=0/\r.opn=0/\r.on=false/\r.seq=0/\r.what=0)\/
 (r.kind=2/\sS r.order/\r.account=0/\r.symbol=0/\r.side=0/\1<=r.qty/\1<=r.price/\r.long=0/\r.short=0/\r.opn=0/\r.on=false/\r.seq=0/\r.what=0)\/
 (r.kind=3/\sS r.order/\r.account=0/\r.symbol=0/\r.side=0/\r.qty=0/\r.price=0/\r.long=0/\r.short=0/\r.opn=0/\r.on=false/\r.seq=0/\r.what=0)\/
 (r.kind=4/\r.order=0/\(0<=r.account/\r.account<8)/\((r.symbol= -1/\r.long=0/\r.short=0)\/(0<=r.symbol/\r.symbol<8))/\r.side=0/\r.qty=0/\r.price=0/\0<=r.long/\0<=r.short/\0<=r.opn/\r.on=false/\r.seq=0/\r.what=0)\/
 (r.kind=5/\r.order=0/\r.account=0/\r.symbol=0/\r.side=0/\r.qty=0/\r.price=0/\r.long=0/\r.short=0/\r.opn=0/\r.seq=0/\r.what=0)\/
 (r.kind=6/\sS r.order/\r.account=0/\r.symbol=0/\r.side=0/\r.long=0/\r.short=0/\r.opn=0/\r.on=false/\(1<=r.seq/\r.seq<=1000000000)/\
   ((r.what=3/\1<=r.qty/\r.price=0)\/(r.what=5/\1<=r.qty/\1<=r.price)\/((r.what=1\/r.what=2\/r.what=4\/r.what=6)/\r.qty=0/\r.price=0)))
theorem aju (a b c:Int):(0<=jm (jm a b) c)↔0<=a/\0<=b/\0<=c:=by
 unfold jm;split<;>split<;>omega
theorem adH (r:iq):Wq (GR r) fun b=>b=true↔sS r.order/\(1<=r.seq/\r.seq<=1000000000)/\
 ((r.what=3/\1<=r.qty/\r.price=0)\/(r.what=5/\1<=r.qty/\1<=r.price)\/((r.what=1\/r.what=2\/r.what=4\/r.what=6)/\r.qty=0/\r.price=0)):=by
 unfold GR nD oJ
 by_cases h1:1<=r.seq/\r.seq<=1000000000
 ·rw[aA (b:=au (bor (ilt r.seq 1) (ilt 1000000000 r.seq))) (by simp only[aW,bK,dn,dF,aY,aZ,dA,dB,bP,dJ,bn,bg,dM,dN];omega),ah]
  by_cases h2:sS r.order
  ·rw[show band (ile 1 r.order) (ile r.order 1000000000000)=true by simp only[aW,bK,dn,dF,aY,aZ,dA,dB,bP,dJ,bn,bg,dM,dN];exact h2,cZ (by simp only[aW,bK,dn,dF,aY,aZ,dA,dB,bP,dJ,bn,bg,dM,dN];exact⟨by omega,trivial⟩)]
   by_cases k3:r.what=3
   ·rw[aA (by rw[bn];exact k3),ai];simp only[h1,h2,true_and,aW,bK,dn,dF,aY,aZ,dA,dB,bP,dJ,bn,bg,dM,dN];omega
   rw[cZ (by rw[bg];exact k3)]
   by_cases k5:r.what=5
   ·rw[aA (by rw[bn];exact k5),ah,ai];simp only[h1,h2,true_and,aW,bK,dn,dF,aY,aZ,dA,dB,bP,dJ,bn,bg,dM,dN];omega
   rw[cZ (by rw[bg];exact k5)]
   by_cases k1:r.what=1
   ·rw[aA (by rw[bn];exact k1),aA (by rw[bn];exact k1),ai];simp only[h1,h2,true_and,aW,bK,dn,dF,aY,aZ,dA,dB,bP,dJ,bn,bg,dM,dN];omega
   rw[cZ (by rw[bg];exact k1)]
   by_cases k2:r.what=2
   ·rw[aA (by rw[bn];exact k2),aA (by rw[bn];exact k2),ai];simp only[h1,h2,true_and,aW,bK,dn,dF,aY,aZ,dA,dB,bP,dJ,bn,bg,dM,dN];omega
   rw[cZ (by rw[bg];exact k2)]
   by_cases k4:r.what=4
   ·rw[aA (by rw[bn];exact k4),aA (by rw[bn];exact k4),ai];simp only[h1,h2,true_and,aW,bK,dn,dF,aY,aZ,dA,dB,bP,dJ,bn,bg,dM,dN];omega
   rw[cZ (by rw[bg];exact k4)]
   by_cases k6:r.what=6
   ·rw[aA (by rw[bn];exact k6),ai];simp only[h1,h2,true_and,aW,bK,dn,dF,aY,aZ,dA,dB,bP,dJ,bn,bg,dM,dN];omega
   rw[cZ (by rw[bg];exact k6),ai]
   simp only[h1,h2,true_and,Bool.false_eq_true,false_iff];omega
  ·rw[show band (ile 1 r.order) (ile r.order 1000000000000)=false by simp only[aW,bK,dn,dF,aY,aZ,dA,dB,bP,dJ,bn,bg,dM,dN];unfold sS at h2;omega,aA (by simp only[aW,bK,dn,dF,aY,aZ,dA,dB,bP,dJ,bn,bg,dM,dN,or_true]),ai]
   simp [h2]
 ·rw[cZ (b:=au (bor (ilt r.seq 1) (ilt 1000000000 r.seq))) (by simp only[aW,bK,dn,dF,aY,aZ,dA,dB,bP,dJ,bn,bg,dM,dN];omega),ah,aA (by simp only[aW,bK,dn,dF,aY,aZ,dA,dB,bP,dJ,bn,bg,dM,dN,or_true]),ai]
  simp [h1]
theorem qJ (r:iq):Wq (jY r) fun b=>b=true↔qQ r:=by
 unfold jY Kw
 obtain⟨ev,he,hq⟩:=adH r
 by_cases k1:r.kind=1
 ·have e1:ieq r.kind 1=true:=by rw[bn];exact k1
  simp only[e1,aX,ah]
  simp only[pV,fP,ai,aW,bK,dn,dF,aY,aZ,dA,dB,bP,dJ,bn,bg,dM,dN,true_implies,ne_eq,not_true_eq_false,false_implies,and_true,true_and,or_self,reduceCtorEq,nD,oG,oJ,qQ,sS];grind
 have e1:ieq r.kind 1=false:=by rw[bg];exact k1
 by_cases k2:r.kind=2
 ·have e2:ieq r.kind 2=true:=by rw[bn];exact k2
  simp only[e1,e2,aX,aU,ah]
  simp only[pV,fP,ai,aW,bK,dn,dF,aY,aZ,dA,dB,bP,dJ,bn,bg,dM,dN,true_implies,ne_eq,not_true_eq_false,false_implies,and_true,true_and,or_self,reduceCtorEq,nD,oG,oJ,qQ,sS];grind
 have e2:ieq r.kind 2=false:=by rw[bg];exact k2
 by_cases k3:r.kind=3
 ·have e3:ieq r.kind 3=true:=by rw[bn];exact k3
  simp only[e1,e2,e3,aX,aU,ah]
  simp only[pV,fP,ai,aW,bK,dn,dF,aY,aZ,dA,dB,bP,dJ,bn,bg,dM,dN,true_implies,ne_eq,not_true_eq_false,false_implies,and_true,true_and,or_self,reduceCtorEq,nD,oG,oJ,qQ,sS];grind
 have e3:ieq r.kind 3=false:=by rw[bg];exact k3
 by_cases k4:r.kind=4
 ·have e4:ieq r.kind 4=true:=by rw[bn];exact k4
  simp only[e1,e2,e3,e4,aX,aU,ah]
  simp only[pV,fP,ai,aW,bK,dn,dF,aY,aZ,dA,dB,bP,dJ,bn,bg,dM,dN,true_implies,ne_eq,not_true_eq_false,false_implies,and_true,true_and,or_self,reduceCtorEq,nD,oG,oJ,qQ,sS,aju];grind
 have e4:ieq r.kind 4=false:=by rw[bg];exact k4
 by_cases k5:r.kind=5
 ·have e5:ieq r.kind 5=true:=by rw[bn];exact k5
  simp only[e1,e2,e3,e4,e5,aX,aU,ah]
  simp only[pV,fP,ai,aW,bK,dn,dF,aY,aZ,dA,dB,bP,dJ,bn,bg,dM,dN,true_implies,ne_eq,not_true_eq_false,false_implies,and_true,true_and,or_self,reduceCtorEq,nD,oG,oJ,qQ,sS];grind
 have e5:ieq r.kind 5=false:=by rw[bg];exact k5
 by_cases k6:r.kind=6
 ·have e6:ieq r.kind 6=true:=by rw[bn];exact k6
  simp only[e1,e2,e3,e4,e5,e6,aX,aU,ah,he]
  simp only[pV,fP,ai,aW,bK,dn,dF,aY,aZ,dA,dB,bP,dJ,bn,bg,dM,dN,true_implies,ne_eq,not_true_eq_false,false_implies,and_true,true_and,or_self,reduceCtorEq,qQ,hq];grind
 have e6:ieq r.kind 6=false:=by rw[bg];exact k6
 simp only[e1,e2,e3,e4,e5,e6,aX,aU,ah]
 simp only[pV,fP,ai,aW,bK,dn,dF,aY,aZ,dA,dB,bP,dJ,bn,bg,dM,dN,true_implies,ne_eq,not_true_eq_false,false_implies,and_true,true_and,or_self,reduceCtorEq,qQ];grind
def P6 (o:aB):Prop:=(1<=o.id/\o.id<=1000000000000)/\(0<=o.account/\o.account<8)/\(0<=o.symbol/\o.symbol<8)/\(o.side=1\/o.side=2)/\1<=o.qty/\1<=o.price
theorem Zf (o:aB):Wq (CV o) fun b=>b=true↔P6 o:=by
 unfold CV
 rw[pV]
 refine(qJ _).mono fun b hb=> ?_
 rw[ai,hb]
 simp [qQ,P6,sS]
def uY (o:aB):Prop:=o.newQty≠0\/o.newPrice≠0
instance (o:aB):Decidable (uY o):=by unfold uY;infer_instance
instance (o:aB):Decidable (P6 o):=by unfold P6;infer_instance
theorem KX (o:aB):Wq (ja o) fun b=>b=true↔uY o:=by
 unfold ja
 simp only[ai,dn,aY,bg,uY]
theorem D9 (o:aB):ja o=some (decide (uY o)):=(KX o).dec
def uy (o:aB):Prop:=P6 o/\0<=o.filled/\o.filled<=o.qty/\0<=o.version/\(uY o->1<=o.newQty/\1<=o.newPrice)/\
 ((o.phase=1/\o.filled=0/\o.version=0/\¬uY o)\/(o.phase=2/\o.filled<o.qty)\/(o.phase=3/\¬uY o))
instance (o:aB):Decidable (uy o):=by unfold uy;infer_instance
theorem Y2 (o:aB):Wq (iJ o) fun b=>b=true↔uy o:=by
 unfold iJ
 rw[pV]
 refine(KX o).mono fun p hp=> ?_
 rw[pV]
 refine(Zf o).mono fun b hb=> ?_
 unfold uy
 rw[<-hp,<-hb]
 have hm:(jm o.newQty o.newPrice<1)↔¬(1<=o.newQty/\1<=o.newPrice):=by unfold jm;split<;>omega
 simp only[pV,fP,ai,aW,bK,dn,dF,aY,aZ,dA,dB,bP,dJ,bn,bg,dM,dN,hm]
 cases p<;>cases b<;>simp<;>omega
theorem lF (o:aB):iJ o=some (decide (uy o)):=(Y2 o).dec
def lX (o:aB):Int:=if o.phase=3 then 0 else max o.qty o.newQty - o.filled
def iW (o:aB):Int:=if o.phase=3 then 0 else if o.newQty<=o.filled then (o.qty - o.filled)*o.price else max ((o.qty - o.filled)*o.price) ((o.newQty - o.filled)*o.newPrice)
theorem EK {o:aB} (h:uy o) (hr:iC o):0<=lX o/\lX o<=9223372036854775807:=by
 obtain⟨_,h1,h2,_⟩:=h
 have:=hr.qty.2;have:=hr.newQty.2
 unfold lX;split<;>omega
theorem afQ {o:aB} (h:uy o) (hn:o.filled<o.newQty):1<=o.newPrice:=by
 obtain⟨_,h1,h2,_,h4,_⟩:=h
 exact(h4 (.inl (by omega))).2
theorem EN {o:aB} (h:uy o):0<=iW o:=by
 have hp:=h.1.2.2.2.2.2
 have hf:=h.2.2.1
 unfold iW;split
 ·omega
 ·have m:0<=(o.qty - o.filled)*o.price:=Int.mul_nonneg (by omega) (by omega)
  split<;>omega
theorem RN {o:aB} (h:uy o) (hr:iC o):sG o=some (lX o):=by
 have hb:=EK h hr
 unfold sG
 rw[lF,ah,decide_eq_true h,aah,ah]
 unfold lX at*
 rw[aJ,iw,fA]
 split
 ·rfl
 ·rename_i hp
  rw[if_neg hp]at hb
  unfold aI
  rw[KP ⟨by omega,by omega⟩]
theorem PX {o:aB} (h:uy o) (hr:iC o):yJ o=some (if iW o<=9223372036854775807 then (iW o,0)else (0,3)):=by
 have hp:=h.1.2.2.2.2.2
 have hf:=h.2.2.1
 have hf0:=h.2.1
 have rq:=hr.qty;have rp:=hr.price;have rf:=hr.filled;have rn:=hr.newQty;have rnp:=hr.newPrice
 unfold inI at rq rf rn
 unfold yJ
 rw[lF,ah,decide_eq_true h,aJ,aU,fA]
 unfold iW
 split
 ·rw[if_pos (by omega)]
 ·unfold aI
  rw[KP ⟨by omega,by omega⟩,aaS ⟨by omega,by omega⟩ rp,ah]
  have m:0<=(o.qty - o.filled)*o.price:=Int.mul_nonneg (by omega) (by omega)
  generalize (o.qty - o.filled)*o.price=a at*
  rw[Ig]
  simp only[aW,bK,dn,dF,aY,aZ,dA,dB,bP,dJ,bn,bg,dM,dN]
  by_cases hn:o.newQty<=o.filled
  ·rw[if_pos (.inr hn),if_pos hn]
   by_cases ha:a<=9223372036854775807
   ·rw[if_pos (c:=inI a) ⟨by omega,ha⟩,if_pos ha]
   ·rw[if_neg (c:=inI a) (by unfold inI;omega),if_neg ha]
  ·rw[if_neg hn]
   have hnp:=afQ h (by omega)
   rw[KP ⟨by omega,by omega⟩,aaS ⟨by omega,by omega⟩ rnp,ah]
   have m2:0<=(o.newQty - o.filled)*o.newPrice:=Int.mul_nonneg (by omega) (by omega)
   generalize (o.newQty - o.filled)*o.newPrice=b at*
   by_cases ha:a<=9223372036854775807
   ·rw[if_pos (c:=inI a) ⟨by omega,ha⟩,if_neg (by simp only[ne_eq,not_true_eq_false,false_or];exact hn)]
    by_cases hb:b<=9223372036854775807
    ·rw[if_pos (c:=inI b) ⟨by omega,hb⟩]
     rw[cZ (by simp [au,ieq]),aah,ah,if_pos (by omega)]
    ·rw[if_neg (c:=inI b) (by unfold inI;omega)]
     rw[aA (by simp [au,ieq]),if_neg (by omega)]
   ·rw[if_neg (c:=inI a) (by unfold inI;omega),if_pos (.inl (by decide)),if_neg (by omega)]
def okC (c:bF):Prop:=G6 c/\(0<=c.buy/\0<=c.sell/\0<=c.opn)/\inI (c.pos+c.buy)/\inI (c.sell - c.pos)
theorem Hg (c:bF):okC c↔(inI c.pos/\inI c.buy/\inI c.sell/\inI c.opn)/\(0<=c.buy/\0<=c.sell/\0<=c.opn)/\inI (c.pos+c.buy)/\inI (c.sell - c.pos):=
 ⟨fun⟨⟨a,b,c,d⟩,h⟩=>⟨⟨a,b,c,d⟩,h⟩,fun⟨⟨a,b,c,d⟩,h⟩=>⟨⟨a,b,c,d⟩,h⟩⟩
instance (c:bF):Decidable (okC c):=decidable_of_iff _ (Hg c).symm
theorem Vk {c:bF} (h:G6 c):Dz c=some (⟨if inI (c.pos+c.buy)then c.pos+c.buy else 0,if inI (c.sell - c.pos)then c.sell - c.pos else 0,c.opn⟩,decide (inI (c.pos+c.buy)/\inI (c.sell - c.pos))):=by
 unfold Dz
 rw[nG h.pos h.buy,ah,EL h.sell h.pos,ah]
 by_cases h1:inI (c.pos+c.buy)
 ·by_cases h2:inI (c.sell - c.pos)
  ·simp only[if_pos h1,if_pos h2,o7,EP,decide_eq_true (show _/\_ from⟨h1,h2⟩)]
  ·simp only[if_pos h1,if_neg h2,Ar,o7,EP,decide_eq_false (fun h:_/\_=>h2 h.2)]
 ·simp only[if_neg h1,Ar,QH,decide_eq_false (fun h:_/\_=>h1 h.1)]
  by_cases h2:inI (c.sell - c.pos)
  ·simp only[if_pos h2]
  ·simp only[if_neg h2]
theorem acg {c:bF} (h:G6 c):Wq (iY c) fun b=>b=true↔okC c:=by
 unfold iY
 rw[Vk h,ah,ai]
 simp only[aW,bP,decide_eq_true_eq,okC]
 rw[aju]
 constructor
 ·rintro⟨a,b⟩;exact⟨h,b,a⟩
 ·rintro⟨_,b,a⟩;exact⟨a,b⟩
theorem lI {c:bF} (h:G6 c):iY c=some (decide (okC c)):=(acg h).dec
def ofC (c:bF):jK:=⟨c.pos+c.buy,c.sell - c.pos,c.opn⟩
theorem aaK {c:bF} (h:okC c):IY c=some (ofC c,0):=by
 unfold IY
 rw[lI h.1,ah,decide_eq_true h,aJ,aU,Vk h.1,ah,if_pos h.2.2.1,if_pos h.2.2.2]
 rfl
def qK (c:bF) (o:aB):bF:=if o.side=2 then ⟨c.pos,c.buy,c.sell+lX o,c.opn+iW o⟩else ⟨c.pos,c.buy+lX o,c.sell,c.opn+iW o⟩
def qW (c:bF) (o:aB):bF:=if o.side=2 then ⟨c.pos,c.buy,c.sell - lX o,c.opn - iW o⟩else ⟨c.pos,c.buy - lX o,c.sell,c.opn - iW o⟩
theorem Ho {c:bF} {o:aB} (hc:okC c) (ho:uy o) (hr:iC o):jX c o=some (if okC (qK c o)then (qK c o,0)else (c,3)):=by
 have hO:=EK ho hr
 have hW:=EN ho
 obtain⟨hk,⟨n1,n2,n3⟩,r1,r2⟩:=id hc
 have ib:=hk.buy;have is':=hk.sell;have io:=hk.opn;have ip:=hk.pos
 unfold jX
 rw[lI hk,ah,decide_eq_true hc,lF,decide_eq_true ho,aJ,bf,aX,ah,aJ,iw,aU,PX ho hr,RN ho hr,ah]
 simp only[ah]
 have oO:inI (lX o):=⟨by omega,by omega⟩
 by_cases hw:iW o<=9223372036854775807
 ·have oW:inI (iW o):=⟨by omega,hw⟩
  rw[if_pos hw]
  simp only[o7,aJ,iw]
  by_cases hs:o.side=2
  ·rw[aA (by rw[bn];exact hs),nG is' oO,ah,nG io oW,ah]
   unfold qK;rw[if_pos hs]
   by_cases h1:c.sell+lX o<=9223372036854775807
   ·by_cases h2:c.opn+iW o<=9223372036854775807
    ·rw[if_pos ⟨by omega,h1⟩,if_pos ⟨by omega,h2⟩]
     simp only[o7,aJ,iw,bf,aX]
     rw[lI (c:=⟨c.pos,c.buy,c.sell+lX o,c.opn+iW o⟩) ⟨ip,ib,⟨by simp only;omega,h1⟩,⟨by simp only;omega,h2⟩⟩,ah,fD,zx]
     split<;>rfl
    ·rw[if_pos ⟨by omega,h1⟩,if_neg (by unfold inI;omega)]
     simp only[o7,Ar,aJ,iw,bf,aX,vO,aU,ah]
     rw[if_neg fun h=>h2 h.1.opn.2]
   ·rw[if_neg (by unfold inI;omega)]
    simp only[Ar,bf,vO,aJ,aX,aU,ah]
    rw[if_neg fun h=>h1 h.1.sell.2]
  ·rw[cZ (by rw[bg];exact hs),nG ib oO,ah,nG io oW,ah]
   unfold qK;rw[if_neg hs]
   by_cases h1:c.buy+lX o<=9223372036854775807
   ·by_cases h2:c.opn+iW o<=9223372036854775807
    ·rw[if_pos ⟨by omega,h1⟩,if_pos ⟨by omega,h2⟩]
     simp only[o7,aJ,iw,bf,aX]
     rw[lI (c:=⟨c.pos,c.buy+lX o,c.sell,c.opn+iW o⟩) ⟨ip,⟨by simp only;omega,h1⟩,is',⟨by simp only;omega,h2⟩⟩,ah,fD,zx]
     split<;>rfl
    ·rw[if_pos ⟨by omega,h1⟩,if_neg (by unfold inI;omega)]
     simp only[o7,Ar,aJ,iw,bf,aX,vO,aU,ah]
     rw[if_neg fun h=>h2 h.1.opn.2]
   ·rw[if_neg (by unfold inI;omega)]
    simp only[Ar,bf,vO,aJ,aX,aU,ah]
    rw[if_neg fun h=>h1 h.1.buy.2]
 ·have hno:¬okC (qK c o):=fun h=>by
   have:=h.1.opn.2
   unfold qK at this
   split at this<;>simp only at this<;>omega
  rw[if_neg hw,if_neg hno]
  simp only[Ar,bf,vO,aJ,aU,ah,aX]
  by_cases hs:o.side=2
  ·rw[aA (by rw[bn];exact hs),nG is' oO,ah,nG io (by decide),ah]
  ·rw[cZ (by rw[bg];exact hs),nG ib oO,ah,nG io (by decide),ah]
theorem ZJ {c:bF} {o:aB} (hc:okC c) (ho:uy o) (hr:iC o) (hs:okC (qW c o)):BD c o=some (qW c o,0):=by
 have hO:=EK ho hr
 have hW:=EN ho
 obtain⟨hk,⟨n1,n2,n3⟩,r1,r2⟩:=id hc
 have ib:=hk.buy;have is':=hk.sell;have io:=hk.opn;have ip:=hk.pos
 have oO:inI (lX o):=⟨by omega,by omega⟩
 have hw:iW o<=9223372036854775807:=by
  have h1:=hs.2.1.2.2
  have h2:=io.2
  have h3:(qW c o).opn=c.opn - iW o:=by unfold qW;split<;>rfl
  omega
 have oW:inI (iW o):=⟨by omega,hw⟩
 unfold BD
 rw[lI hk,ah,decide_eq_true hc,lF,decide_eq_true ho,aJ,bf,aX,ah,aJ,iw,aU,PX ho hr,RN ho hr,ah]
 simp only[ah]
 rw[if_pos hw]
 simp only[o7,aJ,iw]
 unfold inI at ib is' io
 by_cases hd:o.side=2
 ·rw[aA (by rw[bn];exact hd),EL is' oO,ah,EL io oW,ah]
  unfold qW at hs ⊢; rw[if_pos hd]at hs ⊢
  rw[if_pos ⟨by omega,by omega⟩,if_pos ⟨by omega,by omega⟩]
  simp only[o7,aJ,iw,bf,aX]
  rw[lI hs.1,decide_eq_true hs,ah,aJ,aU]
 ·rw[cZ (by rw[bg];exact hd),EL ib oO,ah,EL io oW,ah]
  unfold qW at hs ⊢; rw[if_neg hd]at hs ⊢
  rw[if_pos ⟨by omega,by omega⟩,if_pos ⟨by omega,by omega⟩]
  simp only[o7,aJ,iw,bf,aX]
  rw[lI hs.1,decide_eq_true hs,ah,aJ,aU]
theorem afa {c:bF} {d q:Int} (hc:okC c) (hd:d=1\/d=2) (hq:0<=q) (rq:inI q) (hn:okC ⟨if d=1 then c.pos+q else c.pos - q,c.buy,c.sell,c.opn⟩):
 Gj c d q=some (⟨if d=1 then c.pos+q else c.pos - q,c.buy,c.sell,c.opn⟩,0):=by
 unfold Gj
 rw[lI hc.1,ah,decide_eq_true hc,aJ,iw,cZ (by simp only[aW,bK,dn,dF,aY,aZ,dA,dB,bP,dJ,bn,bg,dM,dN];omega)]
 have ip:=hc.1.pos
 have hp:=hn.1.pos
 simp only at hp
 by_cases h:d=1
 ·rw[aA (by rw[bn];exact h),nG ip rq,ah]
  simp only[if_pos h]at hn hp ⊢
  rw[if_pos hp]
  simp only[o7,aJ,iw,bf,aX]
  rw[lI hn.1,decide_eq_true hn,ah,aJ,aU]
 ·rw[cZ (by rw[bg];exact h),EL ip rq,ah]
  simp only[if_neg h]at hn hp ⊢
  rw[if_pos hp]
  simp only[o7,aJ,iw,bf,aX]
  rw[lI hn.1,decide_eq_true hn,ah,aJ,aU]
def Zu (x:jK):Prop:=0<=x.long/\0<=x.short/\0<=x.opn
instance (x:jK):Decidable (Zu x):=by unfold Zu;infer_instance
theorem Zc (x:jK):CQ x=some (decide (Zu x)):=by
 refine Wq.dec ?_
 unfold CQ Zu
 rw[ai,bP,aju]
def Zd (was now cap:Int):Prop:=max was cap<now
instance (a b c:Int):Decidable (Zd a b c):=by unfold Zd;infer_instance
def Fv (a b l:jK):Prop:=Zd a.long b.long l.long\/Zd a.short b.short l.short\/Zd a.opn b.opn l.opn
instance (a b l:jK):Decidable (Fv a b l):=by unfold Fv;infer_instance
theorem Fj (a b c:Int):kM a b c=some (decide (Zd a b c)):=by
 refine Wq.dec ?_
 unfold kM imax Zd
 rw[ai,dA]
 split<;>omega
theorem VI (a b l:jK):yN a b l=some (decide (Fv a b l)):=by
 refine Wq.dec ?_
 unfold yN yw
 simp only[ah,Fj,fP,ai,decide_eq_true_eq,decide_eq_false_iff_not,Fv]
 grind
theorem Zk (l:List Int) (i:Nat) (h:i<l.length):(l.take (i+1)).sum=(l.take i).sum+l[i]:=by
 rw[List.take_succ_eq_append_getElem h,List.sum_append];simp
theorem abK:∀ {l:List Int},(∀x∈l,0<=x)->0<=l.sum
 |[],_=>by simp
 |a::l,h=>by
  have:=abK (l:=l) fun x hx=>h x (by simp [hx])
  have:=h a (by simp)
  simp only[List.sum_cons];omega
theorem adt {l:List Int} (h:∀x∈l,0<=x) (i:Nat):(l.take i).sum<=l.sum:=by
 have e:l.sum=(l.take i).sum+(l.drop i).sum:=by rw[<-List.sum_append,List.take_append_drop]
 have:=abK (l:=l.drop i) fun x hx=>h x (List.mem_of_mem_drop hx)
 omega
def anq (l:List Int):Int×Int:=if l.sum<=9223372036854775807 then (l.sum,0)else (0,3)
theorem ade {l:List Int} (hl:l.length<999999) (h:∀x∈l,0<=x/\inI x):GU l=some (anq l):=by
 refine Wq.eq ?_
 have hn:∀x∈l,0<=x:=fun x hx=>(h x hx).1
 unfold GU
 refine Wq.bind (Q:=fun w:(Int×Int) ⊕ (Int×Int×Int)=>match w with | .inl w=>w=(3,0)/\¬l.sum<=9223372036854775807 | .inr w=>w.1=l.sum/\l.sum<=9223372036854775807)
  (lD (n:=l.length) (step:=fun v:Int×Int×Int×Int=>vX (len l) l v.1 v.2.1 v.2.2.1 v.2.2.2) (by omega)
    (fun i x=>x.1=(l.take i).sum/\x.1<=9223372036854775807) _ ?_ ?_ _ 0 (Nat.zero_le _) (by simp)) ?_
 ·rintro i ⟨a,b,c⟩ hi ⟨rfl,ha⟩
  simp only[vX]
  simp only at ha
  have ht:=abK (l:=l.take i) fun x hx=>hn x (List.mem_of_mem_take hx)
  have hx:=h l[i] (List.getElem_mem _)
  rw[aA (by rw[eX];simpa using hi),aA (inb l i hi),bC l i hi,nG ⟨by omega,ha⟩ hx.2,ah,<-Zk l i hi]
  have:=adt hn (i+1)
  have h2:=abK (l:=l.take (i+1)) fun x hx=>hn x (List.mem_of_mem_take hx)
  by_cases hr:(l.take (i+1)).sum<=9223372036854775807
  ·rw[if_pos ⟨by omega,hr⟩]
   simp only[o7,aJ,aU,ai]
   exact⟨dG (by omega),trivial,hr⟩
  ·rw[if_neg (by unfold inI;omega)]
   simp only[Ar,bf,aX,ai]
   exact⟨trivial,by omega⟩
 ·rintro⟨a,b,c⟩ ⟨rfl,ha⟩
  simp only[vX]
  simp only at ha
  rw[cZ (by rw[eX];simp),ai]
  rw[List.take_length]at*
  exact⟨rfl,ha⟩
 ·rintro w hw
  unfold anq
  cases w with
  |inl w=>obtain⟨rfl,h2⟩:=hw;simp only[gX,ai];rw[if_neg h2]
  |inr w=>obtain⟨h1,h2⟩:=hw;simp only[gX,ai];rw[if_pos h2,h1]
def pW (l:List bF):Int:=(l.map bF.opn).sum
theorem Io {l:List bF} (hl:l.length<999999) (h:∀c∈l,0<=c.opn/\inI c.opn):uo l=some (if pW l<=9223372036854775807 then (pW l,0)else (0,3)):=by
 refine Wq.eq ?_
 unfold uo
 refine Wq.bind (Q:=fun w:List Int=>w=l.map bF.opn)
  (lD (n:=l.length) (step:=fun v:Int×List Int=>rD (len l) l v.1 v.2) (by omega) (fun i x=>x=(l.take i).map bF.opn) _ ?_ ?_ _ 0 (Nat.zero_le _) (by simp)) ?_
 ·rintro i x hi rfl
  simp only[rD]
  rw[aA (by rw[eX];simpa using hi),aA (inb l i hi),aA (jo (by simp [cu,len];omega)),ai,bC l i hi]
  exact⟨dG (by omega),by rw[List.take_succ_eq_append_getElem hi,List.map_append];rfl⟩
 ·rintro x rfl
  simp only[rD]
  rw[cZ (by rw[eX];simp),ai,List.take_length]
 ·rintro w rfl
  rw[ade (by simpa using hl) (fun x hx=>by
   obtain⟨c,hc,rfl⟩:=List.mem_map.1 hx
   exact h c hc),ah,ai]
  rfl
theorem Qq {l:List Int} (hl:l.length<999999) (h0:l≠[]):Wq (mQ l) fun m=>0<=m↔∀x∈l,0<=x:=by
 have hp:0<l.length:=List.length_pos_iff.2 h0
 unfold mQ
 rw[cZ (Bz (by simp only[len];omega)),aA (Dn (by simp only[len];omega))]
 refine Wq.bind (Q:=fun m=>0<=m↔∀x∈l,0<=x) (lD (n:=l.length) (step:=fun v:Int×Int=>lK l v.1 v.2) (by omega) (fun i x=>0<=x↔∀y∈l.take i,0<=y) _ ?_ ?_ _ 1 hp ?_) ?_
 ·rintro i x hi hx
  simp only[lK]
  rw[aA (by rw[eX];simpa using hi),aA (inb l i hi),ai,bC l i hi]
  refine⟨dG (by omega),?_⟩
  rw[List.take_succ_eq_append_getElem hi]
  simp only[List.mem_append,List.mem_singleton]
  unfold jm
  constructor
  ·intro h y hy
   rcases hy with hy | rfl
   ·exact hx.1 (by split at h<;>omega) y hy
   ·split at h<;>omega
  ·intro h
   have h1:=hx.2 fun y hy=>h y (.inl hy)
   have h2:=h _ (.inr rfl)
   split<;>omega
 ·rintro x hx
  simp only[lK]
  rw[cZ (by rw[eX];simp),ai]
  rwa[List.take_length]at hx
 ·cases l with
  |nil=>exact absurd rfl h0
  |cons a r=>simp [aj]
 ·exact fun w hw=>(ai _).2 hw
def yg (l:List aB) (n:Int):Option Nat:=l.findIdx? fun o=>o.id == n
def LZ (l:List aB) (n:Int):Int:=match yg l n with | some k=>k | none=> -1
theorem Dp (s:ay) (n:Int) (hl:s.orders.length<999999):lZ s n=some (LZ s.orders n):=by
 refine Wq.eq ?_
 unfold lZ
 refine Wq.bind (Q:=fun w:Int ⊕ Int=>match w with
  |.inl k=>∃i:Nat,k=i/\∃h:i<s.orders.length,s.orders[i].id=n/\∀j,(h:j<s.orders.length)->j<i->s.orders[j].id≠n
  |.inr _=>∀j,(h:j<s.orders.length)->s.orders[j].id≠n)
  (lD (n:=s.orders.length) (step:=fun v:Int×Int=>dS (len s.orders) s.orders n v.1 v.2) (by omega) (fun i x=>∀j,(h:j<s.orders.length)->j<i->s.orders[j].id≠n) _ ?_ ?_ _ 0 (Nat.zero_le _) (fun j _ h=>by omega)) ?_
 ·rintro i x hi hx
  simp only[dS]
  rw[aA (by rw[eX];simpa using hi),aA (inb _ i hi),bC _ i hi,fP]
  refine⟨fun he=>(ai _).2 ⟨i,rfl,hi,by simpa [ieq] using he,hx⟩,fun he=>(ai _).2 ⟨dG (by omega),fun j hj hji=> ?_⟩⟩
  by_cases e:j=i
  ·subst e;simpa [ieq] using he
  ·exact hx j hj (by omega)
 ·rintro x hx
  simp only[dS]
  rw[cZ (by rw[eX];simp),ai]
  exact fun j hj=>hx j hj hj
 ·rintro w hw
  cases w with
  |inl k=>
   obtain⟨i,rfl,hi,h1,h2⟩:=hw
   have:yg s.orders n=some i:=by
    unfold yg
    rw[List.findIdx?_eq_some_iff_getElem]
    exact⟨hi,by simpa using h1,fun j hj=>by simpa using h2 j (by omega) hj⟩
   simp only[gX,ai,LZ,this]
  |inr k=>
   have:yg s.orders n=none:=by
    unfold yg
    rw[List.findIdx?_eq_none_iff]
    intro o ho
    obtain⟨j,hj,rfl⟩:=List.getElem_of_mem ho
    simpa using hw j hj
   simp only[gX,ai,LZ,this]
theorem nO {l:List aB} {n:Int} {k:Nat} (h:yg l n=some k):∃hk:k<l.length,l[k].id=n:=by
 unfold yg at h
 rw[List.findIdx?_eq_some_iff_getElem]at h
 obtain⟨hk,h1,_⟩:=h
 exact⟨hk,by simpa using h1⟩
theorem afx {l:List aB} {n:Int} (h:yg l n=none):∀o∈l,o.id≠n:=by
 unfold yg at h
 rw[List.findIdx?_eq_none_iff]at h
 intro o ho
 simpa using h o ho
theorem F6 {l:List aB} {n:Int} {k:Nat} (h:yg l n=some k):LZ l n=k:=by unfold LZ;rw[h]
theorem QA {l:List aB} {n:Int} (h:yg l n=none):LZ l n= -1:=by unfold LZ;rw[h]
def sW (s:ay):Prop:=(1<=s.accounts/\s.accounts<=8)/\(1<=s.symbols/\s.symbols<=8)/\len s.cells=s.accounts*s.symbols/\len s.limits=len s.cells/\len s.caps=s.accounts/\s.orders.length<=64
instance (s:ay):Decidable (sW s):=by unfold sW;infer_instance
theorem IV {a b:Int} (h1:0<=a) (h2:a<=9) (h3:0<=b) (h4:b<=9):0<=a*b/\a*b<=81:=
 ⟨Int.mul_nonneg h1 h3,by have:=Int.mul_le_mul h2 h4 h3 (by omega);omega⟩
theorem OX (s:ay):Wq (ru s) fun b=>b=true↔sW s:=by
 unfold ru
 simp only[ai,aW,bP,bn,sW]
 constructor
 ·rintro⟨⟨⟨⟨⟨⟨⟨a,b⟩,c⟩,d⟩,e⟩,f⟩,g⟩,h⟩
  have:=IV (a:=s.accounts) (b:=s.symbols) (by omega) (by omega) (by omega) (by omega)
  rw[show fK s.accounts s.symbols=s.accounts*s.symbols from rfl,bM this.1 (by omega)]at e
  exact⟨⟨a,b⟩,⟨c,d⟩,e,f,g,by simp only[len]at h;omega⟩
 ·rintro⟨⟨a,b⟩,⟨c,d⟩,e,f,g,h⟩
  have:=IV (a:=s.accounts) (b:=s.symbols) (by omega) (by omega) (by omega) (by omega)
  rw[show fK s.accounts s.symbols=s.accounts*s.symbols from rfl,bM this.1 (by omega)]
  exact⟨⟨⟨⟨⟨⟨⟨a,b⟩,c⟩,d⟩,e⟩,f⟩,g⟩,by simp only[len];omega⟩
theorem sW.lens {s:ay} (hs:sW s):s.cells.length<=64/\s.limits.length=s.cells.length/\s.caps.length=s.accounts.toNat/\s.orders.length<=64:=by
 obtain⟨⟨h1,h2⟩,⟨h3,h4⟩,h5,h6,h7,h8⟩:=hs
 have m:s.accounts*s.symbols<=8*8:=Int.mul_le_mul h2 h4 (by omega) (by omega)
 simp only[len]at h5 h6 h7
 exact⟨by omega,by omega,by omega,h8⟩
def atZ (n:Int) (o:aB):Int:=o.account*n+o.symbol
theorem LW {s:ay} (hs:sW s) (a y:Int) (ha:0<=a) (ha2:a<s.accounts) (hy:0<=y) (hy2:y<s.symbols):
 ∃k:Nat,bG s a y=some (k:Int)/\(k:Int)=a*s.symbols+y/\k<s.cells.length:=by
 obtain⟨⟨h1,h2⟩,⟨h3,h4⟩,h5,_⟩:=hs
 have m:=IV (a:=a) (b:=s.symbols) (by omega) (by omega) (by omega) (by omega)
 have l:(a+1)*s.symbols<=s.accounts*s.symbols:=Int.mul_le_mul_of_nonneg_right (by omega) (by omega)
 have e:(a+1)*s.symbols=a*s.symbols+s.symbols:=by rw[Int.add_mul,Int.one_mul]
 refine⟨(a*s.symbols+y).toNat,?_,by omega,by simp only[len]at h5;omega⟩
 unfold bG
 rw[show fK a s.symbols=a*s.symbols from rfl,bM m.1 (by omega),show ax (a*s.symbols) y=a*s.symbols+y from rfl,bM (by omega) (by omega)]
 congr 1;omega
def rG (n:Int) (cs:List bF) (a:Int):List bF:=(cs.drop (a*n).toNat).take n.toNat
theorem UH {s:ay} (hs:sW s) (a:Int) (ha:0<=a) (ha2:a<s.accounts):
 ku s a=some (rG s.symbols s.cells a):=by
 obtain⟨⟨h1,h2⟩,⟨h3,h4⟩,h5,_⟩:=hs
 have m:=IV (a:=a) (b:=s.symbols) (by omega) (by omega) (by omega) (by omega)
 have m2:=IV (a:=a+1) (b:=s.symbols) (by omega) (by omega) (by omega) (by omega)
 have l:(a+1)*s.symbols<=s.accounts*s.symbols:=Int.mul_le_mul_of_nonneg_right (by omega) (by omega)
 have e:(a+1)*s.symbols=a*s.symbols+s.symbols:=by rw[Int.add_mul,Int.one_mul]
 unfold ku
 rw[show fK a s.symbols=a*s.symbols from rfl,bM m.1 (by omega),show ax a 1=a+1 from rfl,bM (n:=a+1) (by omega) (by omega),
  show fK (a+1) s.symbols=(a+1)*s.symbols from rfl,bM m2.1 (by omega)]
 rw[aA (by simp only[aW,bP];omega)]
 rw[show aI ((a+1)*s.symbols) (a*s.symbols)=s.symbols from by unfold aI;omega]
 rfl
theorem Z7 {n:Int} {cs:List bF} {a:Int} {c:bF} (h:c∈rG n cs a):c∈cs:=List.mem_of_mem_drop (List.mem_of_mem_take h)
theorem Ue {n:Int} {cs:List bF} {a:Int}:(rG n cs a).length<=cs.length:=by
 unfold rG;rw[List.length_take,List.length_drop];omega
def ED (s:ay) (o:aB):Prop:=uy o/\o.phase≠3/\o.account<s.accounts/\o.symbol<s.symbols
def JC (l:List aB):Prop:=l.Pairwise fun a b=>a.id<b.id
structure afU (s:ay):Prop where
 ords:∀o∈s.orders,ED s o
 asc:JC s.orders
 ids:∀o∈s.orders,o.id<=s.last
 last:0<=s.last/\s.last<=1000000000000
 seq:0<=s.seq/\s.seq<=1000000000
 lsn:0<=s.lsn/\s.lsn<=1000000000
 lims:∀x∈s.limits,Zu x
 caps:∀x∈s.caps,0<=x
theorem uh {α:Type} {l:List α} {i:Nat} (h:i<l.length) {x:α}:x∈l.take (i+1)↔x∈l.take i\/x=l[i]:=by
 rw[List.take_succ_eq_append_getElem h,List.mem_append,List.mem_singleton]
theorem amG (s:ay) (hl:s.orders.length<999999) (h2:s.limits.length<999999) (h3:s.caps.length<999999) (h0:s.caps≠[]):
 Wq (rZ s) fun b=>b=true↔afU s:=by
 unfold rZ
 refine Wq.bind (Q:=fun w:Bool ⊕ (Int×Bool)=>match w with
  |.inl b=>b=false/\¬((∀o∈s.orders,ED s o)/\JC s.orders)
  |.inr v=>(∀o∈s.orders,ED s o/\o.id<=v.1)/\JC s.orders/\(v.1=0\/∃o∈s.orders,o.id=v.1))
  (lD (n:=s.orders.length) (step:=fun v:Int×Int×Bool=>mD (len s.orders) s.orders s v.1 v.2.1 v.2.2) (by omega)
    (fun i v=>(∀o∈s.orders.take i,ED s o/\o.id<=v.1)/\JC (s.orders.take i)/\(v.1=0\/∃o∈s.orders.take i,o.id=v.1)) _ ?_ ?_ _ 0 (Nat.zero_le _) (by simp [JC])) ?_
 ·rintro i ⟨x,q⟩ hi ⟨g1,g2,g3⟩
  simp only at g1 g2 g3
  simp only[mD]
  rw[aA (by rw[eX];simpa using hi),aA (inb _ i hi),bC _ i hi,lF,ah]
  simp only[fP,ai,dn,dF,aY,aZ,bn,bg,bP,dJ,decide_eq_true_eq,decide_eq_false_iff_not]
  refine⟨fun hb=>⟨trivial,fun⟨a1,a2⟩=> ?_⟩,fun hc=>⟨dG (by omega),fun o ho=> ?_,?_,.inr ⟨_,(uh hi).2 (.inr rfl),rfl⟩⟩⟩
  ·obtain⟨b1,b2,b3,b4⟩:=a1 s.orders[i] (List.getElem_mem _)
   have hle:s.orders[i].id<=x:=by
    rcases hb with (((hb | hb) | hb) | hb) | hb
    ·exact absurd b1 hb
    ·exact absurd hb b2
    ·omega
    ·omega
    ·exact hb
   rcases g3 with g3 | ⟨o,ho,g3⟩
   ·have:=b1.1.1.1;omega
   ·obtain⟨j,hj,rfl⟩:=List.getElem_of_mem ho
    rw[List.length_take]at hj
    have:=List.pairwise_iff_getElem.1 a2 j i (by omega) hi (by omega)
    rw[List.getElem_take]at g3
    omega
  ·rcases(uh hi).1 ho with ho | rfl
   ·have:=g1 o ho
    exact⟨this.1,by have:=this.2;omega⟩
   ·exact⟨⟨hc.1.1.1.1,hc.1.1.1.2,by omega,by omega⟩,Int.le_refl _⟩
  ·rw[List.take_succ_eq_append_getElem hi]
   unfold JC
   rw[List.pairwise_append]
   refine⟨g2,by simp,fun a ha b hb=> ?_⟩
   rw[List.mem_singleton]at hb
   subst hb
   have:=(g1 a ha).2
   omega
 ·rintro⟨x,q⟩ hx
  simp only[mD]
  rw[cZ (by rw[eX];simp),ai]
  simp only[List.take_length]at hx
  exact hx
 ·rintro w hw
  cases w with
  |inl b=>
   obtain⟨rfl,hn⟩:=hw
   simp only[gX,ai]
   exact⟨fun h=>(by cases h),fun h=>absurd ⟨h.ords,h.asc⟩ hn⟩
  |inr v=>
   obtain⟨g1,g2,g3⟩:=hw
   have gl:v.1<=s.last/\0<=s.last↔(∀o∈s.orders,o.id<=s.last)/\0<=s.last:=by
    constructor
    ·rintro⟨a,b⟩;exact⟨fun o ho=>by have:=(g1 o ho).2;omega,b⟩
    ·rintro⟨a,b⟩
     refine⟨?_,b⟩
     rcases g3 with g3 | ⟨o,ho,g3⟩
     ·omega
     ·have:=a o ho;omega
   have hF:afU s↔(v.1<=s.last/\s.last<=1000000000000/\0<=s.seq/\s.seq<=1000000000/\0<=s.lsn/\s.lsn<=1000000000)/\(∀x∈s.limits,Zu x)/\(∀x∈s.caps,0<=x)/\0<=s.last:=by
    constructor
    ·intro h
     have:=gl.2 ⟨h.ids,h.last.1⟩
     exact⟨⟨this.1,h.last.2,h.seq.1,h.seq.2,h.lsn.1,h.lsn.2⟩,h.lims,h.caps,h.last.1⟩
    ·rintro⟨⟨a1,a2,a3,a4,a5,a6⟩,b,c,d⟩
     exact⟨fun o ho=>(g1 o ho).1,g2,(gl.1 ⟨a1,d⟩).1,⟨d,a2⟩,⟨a3,a4⟩,⟨a5,a6⟩,b,c⟩
   rw[hF]
   obtain⟨m,hm,hmq⟩:=Qq h3 h0
   simp only[gX,hm,Ig,ant,ah]
   simp only[aW,bK,dn,dF,aY,aZ,dA,dB,bP,dJ,bn,bg,dM,dN]
   by_cases hA:v.1<=s.last/\s.last<=1000000000000/\0<=s.seq/\s.seq<=1000000000/\0<=s.lsn/\s.lsn<=1000000000
   ·have hA':((((v.1<=s.last/\s.last<=1000000000000)/\0<=s.seq)/\s.seq<=1000000000)/\0<=s.lsn)/\s.lsn<=1000000000:=⟨⟨⟨⟨⟨hA.1,hA.2.1⟩,hA.2.2.1⟩,hA.2.2.2.1⟩,hA.2.2.2.2.1⟩,hA.2.2.2.2.2⟩
    rw[if_pos hA']
    refine Wq.bind (Q:=fun w:Int ⊕ Int=>match w with | .inl k=>0<=k/\¬∀x∈s.limits,Zu x | .inr _=>∀x∈s.limits,Zu x)
     (lD (n:=s.limits.length) (step:=fun v:Int×Int=>bZ (len s.limits) s.limits v.1 v.2) (by omega) (fun i _=>∀x∈s.limits.take i,Zu x) _ ?_ ?_ _ 0 (Nat.zero_le _) (by simp)) ?_
    ·rintro i x hi hx
     simp only[bZ]
     rw[aA (by rw[eX];simpa using hi),aA (inb _ i hi),bC _ i hi,Zc,ah]
     simp only[fP,ai,aY,aZ,decide_eq_true_eq,decide_eq_false_iff_not]
     refine⟨fun h=>⟨by omega,fun h2=>h (h2 _ (List.getElem_mem _))⟩,fun h=>⟨dG (by omega),fun x hx'=> ?_⟩⟩
     rcases(uh hi).1 hx' with h5 | rfl
     ·exact hx x h5
     ·exact h
    ·rintro x hx
     simp only[bZ]
     rw[cZ (by rw[eX];simp),ai]
     rwa[List.take_length]at hx
    ·rintro w hw
     cases w with
     |inl k=>
      obtain⟨hk,hn⟩:=hw
      simp only
      rw[if_neg (fun h=>by omega),ai]
      simp only[aW,bK,dn,dF,aY,aZ,dA,dB,bP,dJ,bn,bg,dM,dN]
      constructor
      ·rintro⟨⟨⟨_,h⟩,_⟩,_⟩;omega
      ·rintro⟨_,h,_⟩;exact absurd h hn
     |inr k=>
      simp only
      rw[if_pos (.inl hA'),ai]
      simp only[aW,bK,dn,dF,aY,aZ,dA,dB,bP,dJ,bn,bg,dM,dN]
      constructor
      ·rintro⟨⟨_,h1⟩,h2⟩;exact⟨hA,hw,hmq.1 h1,h2⟩
      ·rintro⟨_,_,h1,h2⟩;exact⟨⟨.inl hA',hmq.2 h1⟩,h2⟩
   ·have hA':¬(((((v.1<=s.last/\s.last<=1000000000000)/\0<=s.seq)/\s.seq<=1000000000)/\0<=s.lsn)/\s.lsn<=1000000000):=by omega
    rw[if_neg hA',if_neg (by simpa using hA'),ai]
    simp only[aW,bK,dn,dF,aY,aZ,dA,dB,bP,dJ,bn,bg,dM,dN]
    constructor
    ·rintro⟨⟨h | h,_⟩,_⟩
     ·exact absurd h hA'
     ·cases h
    ·rintro⟨h,_⟩;exact absurd h hA
def nS (a b:bF):bF:=⟨a.pos+b.pos,a.buy+b.buy,a.sell+b.sell,a.opn+b.opn⟩
def zC:bF:=⟨0,0,0,0⟩
def wC (o:aB):bF:=if o.side=2 then ⟨0,0,lX o,iW o⟩else ⟨0,lX o,0,iW o⟩
def inC (n i:Int) (o:aB):bF:=if atZ n o=i then wC o else zC
def nP (n i:Int):List aB->bF
 |[]=>zC
 |o::r=>nS (inC n i o) (nP n i r)
theorem Af {a b:bF} (h1:a.pos=b.pos) (h2:a.buy=b.buy) (h3:a.sell=b.sell) (h4:a.opn=b.opn):a=b:=by
 cases a;cases b;simp_all
theorem MS (a:bF):nS a zC=a:=by apply Af<;>simp [nS,zC]
theorem am2 (a:bF):nS zC a=a:=by apply Af<;>simp [nS,zC]
theorem agV (a b:bF):nS a b=nS b a:=by apply Af<;>simp only[nS]<;>omega
theorem FZ (a b c:bF):nS (nS a b) c=nS a (nS b c):=by apply Af<;>simp only[nS]<;>omega
theorem V9 (c:bF) (o:aB):qK c o=nS c (wC o):=by unfold qK wC;split<;>simp [nS]
theorem vY (n i:Int):∀(l m:List aB),nP n i (l++m)=nS (nP n i l) (nP n i m)
 |[],m=>(am2 _).symm
 |o::l,m=>by
  rw[List.cons_append,nP,nP,vY n i l m,FZ]
theorem Xf (n i:Int) (o:aB):nP n i [o]=inC n i o:=MS _
theorem Gf (n i:Int) (l:List aB) (k:Nat) (h:k<l.length):nP n i l=nS (nS (nP n i (l.take k)) (nP n i (l.drop (k+1)))) (inC n i l[k]):=by
 have e:l=l.take k++(l[k]::l.drop (k+1)):=by rw[<-List.drop_eq_getElem_cons h,List.take_append_drop]
 have:nP n i l=nP n i (l.take k++(l[k]::l.drop (k+1))):=by rw[<-e]
 rw[this,vY,nP,FZ,agV (inC n i l[k])]
theorem YJ (n i:Int) (l:List aB) (k:Nat) (h:k<l.length) (p:aB):nP n i (l.set k p)=nS (nS (nP n i (l.take k)) (nP n i (l.drop (k+1)))) (inC n i p):=by
 have h1:(l.set k p).take k=l.take k:=List.take_set_of_le (Nat.le_refl _)
 have h2:(l.set k p).drop (k+1)=l.drop (k+1):=List.drop_set_of_lt (by omega)
 have h3:(l.set k p)[k]'(by simpa using h)=p:=List.getElem_set_self _
 rw[Gf n i (l.set k p) k (by simpa using h),h1,h2,h3]
theorem Yg (n i:Int) (l:List aB) (k:Nat) (h:k<l.length):nP n i (l.eraseIdx k)=nS (nP n i (l.take k)) (nP n i (l.drop (k+1))):=by
 rw[List.eraseIdx_eq_take_drop_succ,vY]
def nnC (c:bF):Prop:=c.pos=0/\0<=c.buy/\0<=c.sell/\0<=c.opn
theorem ai0 {o:aB} (h:uy o) (hr:iC o):nnC (wC o):=by
 have:=EK h hr
 have:=EN h
 unfold wC nnC;split<;>simp<;>omega
theorem ang (n i:Int) {o:aB} (h:uy o) (hr:iC o):nnC (inC n i o):=by
 unfold inC;split
 ·exact ai0 h hr
 ·simp [nnC,zC]
theorem abd {a b:bF} (h1:nnC a) (h2:nnC b):nnC (nS a b):=by
 unfold nnC nS at *; simp only;omega
theorem Oe (n i:Int):∀ {l:List aB},(∀o∈l,uy o/\iC o)->nnC (nP n i l)
 |[],_=>by simp [nP,nnC,zC]
 |o::l,h=>abd (ang n i (h o (by simp)).1 (h o (by simp)).2) (Oe n i fun x hx=>h x (by simp [hx]))
def VW (c:bF):Prop:=c.buy<=9223372036854775807/\c.sell<=9223372036854775807/\c.opn<=9223372036854775807
theorem WT {c:bF} (h:nnC c) (hf:VW c):okC c:=by
 obtain⟨h0,h1,h2,h3⟩:=h
 obtain⟨f1,f2,f3⟩:=hf
 rw[Hg,h0]
 unfold inI
 omega
theorem aaf {c:bF} (h:okC c):VW c:=⟨h.1.buy.2,h.1.sell.2,h.1.opn.2⟩
theorem aiS {a b:bF} (hb:nnC b) (h:VW (nS a b)):VW a:=by
 unfold VW nS nnC at *; simp only at *; omega
def fitAll (s:ay):Prop:=∀j:Nat,j<s.cells.length->VW (nP s.symbols j s.orders)
theorem aaP {α:Type} (l:List α) (k:Nat) (x:α) (j:Nat) (h:j<(bT l (itn (k:Int)) x).length):(bT l (itn (k:Int)) x)[j]=if k=j then x else l[j]'(by simpa [bT] using h):=by
 simp [bT,itn,List.getElem_set]
theorem ajs {s:ay} (hs:sW s) (hk:∀o∈s.orders,ED s o/\iC o):
 Wq (qE s) fun r=>(r.2=true↔fitAll s)/\(r.2=true->r.1.length=s.cells.length/\∀(j:Nat) (h:j<r.1.length),r.1[j]=nP s.symbols j s.orders):=by
 obtain⟨hc,_,_,hol⟩:=hs.lens
 unfold qE
 rw[aA (by simp only[aW,bP,len];omega)]
 refine Wq.bind (Q:=fun w:(Bool×List bF×List bF) ⊕ (Bool×List bF×List bF)=>match w with
  |.inl b=>b.1=false/\¬fitAll s
  |.inr b=>b.2.2.length=s.cells.length/\∀(j:Nat) (h:j<b.2.2.length),b.2.2[j]=nP s.symbols j s.orders/\VW b.2.2[j])
  (lD (n:=s.orders.length) (step:=fun v:Int×Bool×List bF×List bF=>kS (len s.orders) s.orders s v.1 v.2.1 v.2.2.1 v.2.2.2) (by omega)
    (fun i x=>x.2.2.length=s.cells.length/\∀(j:Nat) (h:j<x.2.2.length),x.2.2[j]=nP s.symbols j (s.orders.take i)/\VW x.2.2[j]) _ ?_ ?_ _ 0 (Nat.zero_le _) ?_) ?_
 ·rintro i ⟨q,x,y⟩ hi ⟨hx,hy⟩
  simp only at hx hy
  simp only[kS]
  have hmem:=hk s.orders[i] (List.getElem_mem _)
  obtain⟨⟨ho,ho3,g1,g2⟩,hor⟩:=id hmem
  obtain⟨⟨_,hb1,hb2,_⟩,_⟩:=id ho
  obtain⟨k,k1,k2,k3⟩:=LW hs s.orders[i].account s.orders[i].symbol hb1.1 g1 hb2.1 g2
  have hky:k<y.length:=by omega
  have hnn:nnC y[k]:=by
   rw[(hy k hky).1]
   exact Oe _ _ fun o h=>⟨(hk o (List.mem_of_mem_take h)).1.1,(hk o (List.mem_of_mem_take h)).2⟩
  have hok:okC y[k]:=WT hnn (hy k hky).2
  have hnew:nnC (qK y[k] s.orders[i]):=by rw[V9];exact abd hnn (ai0 ho hor)
  have hsum:∀j:Nat,nP s.symbols j (s.orders.take (i+1))=nS (nP s.symbols j (s.orders.take i)) (inC s.symbols j s.orders[i]):=fun j=>by
   rw[List.take_succ_eq_append_getElem hi,vY,Xf]
  have hat:atZ s.symbols s.orders[i]=(k:Int):=k2.symm
  have hkk:qK y[k] s.orders[i]=nP s.symbols k (s.orders.take (i+1)):=by
   rw[hsum,V9,(hy k hky).1]
   unfold inC;rw[if_pos hat]
  rw[aA (by rw[eX];simpa using hi),aA (inb _ i hi),bC _ i hi,k1,ah,aA (inb y k hky),bC y k hky,Ho hok ho hor,ah]
  by_cases hf:okC (qK y[k] s.orders[i])
  ·rw[if_pos hf]
   simp only[o7,aJ,aU]
   rw[aA (inb y k hky),ai]
   refine⟨dG (by omega),(xY _ _ _).trans hx,fun j hj=> ?_⟩
   have hj':j<y.length:=by simpa [bT] using hj
   show(bT y (itn (k:Int)) (qK y[k] s.orders[i]))[j]'hj=_/\VW ((bT y (itn (k:Int)) (qK y[k] s.orders[i]))[j]'hj)
   rw[aaP]
   split
   ·rename_i e;subst e
    exact⟨hkk,aaf hf⟩
   ·rename_i e
    rw[hsum j]
    unfold inC
    rw[if_neg (by omega),MS]
    exact hy j hj'
  ·rw[if_neg hf]
   simp only[Ar,bf,aX]
   rw[ai]
   refine⟨rfl,fun hall=>hf (WT hnew ?_)⟩
   rw[hkk]
   have e:nP s.symbols k s.orders=nS (nP s.symbols k (s.orders.take (i+1))) (nP s.symbols k (s.orders.drop (i+1))):=by
    rw[<-vY,List.take_append_drop]
   have:=hall k k3
   rw[e]at this
   exact aiS (Oe _ _ fun o h=>⟨(hk o (List.mem_of_mem_drop h)).1.1,(hk o (List.mem_of_mem_drop h)).2⟩) this
 ·rintro⟨q,x,y⟩ hx
  simp only[kS]
  rw[cZ (by rw[eX];simp),ai]
  simp only[List.take_length]at hx
  exact hx
 ·simp only[List.take_zero,nP]
  refine⟨by simp [nN,itn,len],fun j hj=> ?_⟩
  simp only[nN,List.getElem_replicate]
  exact⟨rfl,by simp only[VW];decide⟩
 ·rintro w hw
  cases w with
  |inl b=>
   obtain⟨h1,h2⟩:=hw
   simp only[gX,ai,h1]
   exact⟨⟨fun h=>(by cases h),fun h=>absurd h h2⟩,fun h=>by cases h⟩
  |inr b=>
   obtain⟨h1,h2⟩:=hw
   simp only[gX,ai]
   refine⟨⟨fun _ j hj=> ?_,fun _=>trivial⟩,fun _=>⟨h1,fun j hj=>(h2 j hj).1⟩⟩
   have:=h2 j (by omega)
   rw[<-this.1];exact this.2
def eY (s:ay) (l:List aB):List bF:=s.cells.mapIdx fun i c=>nS ⟨c.pos,0,0,0⟩ (nP s.symbols i l)
theorem kX (s:ay) (l:List aB):(eY s l).length=s.cells.length:=by simp [eY]
theorem qB (s:ay) (l:List aB) (i:Nat) (h:i<(eY s l).length):(eY s l)[i]=nS ⟨(s.cells[i]'(by simpa [eY] using h)).pos,0,0,0⟩ (nP s.symbols i l):=by
 simp [eY]
def YT (n m:Int) (cs:List bF):Prop:=∀a:Int,0<=a->a<n->pW (rG m cs a)<=9223372036854775807
structure iL (s:ay):Prop where
 sized:sW s
 fine:afU s
 cells:s.cells=eY s s.orders
 ok:∀c∈s.cells,okC c
 acct:YT s.accounts s.symbols s.cells
theorem AU (s:ay) (hr:gG s) (hl:s.orders.length<999999) (h2:s.limits.length<999999) (h3:s.caps.length<999999):
 Wq (oC s) fun b=>b=true↔iL s:=by
 unfold oC xO
 rw[pV]
 refine Wq.bind (OX s) fun z hz=> ?_
 refine Wq.bind (Q:=fun b=>b=true↔(z=true/\afU s)) ?_ ?_
 ·rw[fP]
  refine⟨fun h=> ?_,fun h=>(ai _).2 ?_⟩
  ·simp only[aY,aZ]at h
   have hs:sW s:=hz.1 h
   refine(amG s hl h2 h3 ?_).mono fun b hb=>by rw[hb];simp [h]
   intro e
   have:=hs.2.2.2.2.1
   have:=hs.1.1
   simp [e,len]at*
   omega
  ·simp only[aY,aZ]at h
   simp [h]
 ·intro f hf
  rw[fP]
  refine⟨fun h=>(ai _).2 ((ai _).2 ?_),fun h=> ?_⟩
  ·simp only[dn,aY]at h
   refine⟨fun h=>(by cases h),fun hr=> ?_⟩
   have e1:=hz.2 hr.sized
   have e2:=hf.2 ⟨e1,hr.fine⟩
   rw[e1,e2]at h
   simp at h
  ·simp only[dF,aZ]at h
   have hs:=hz.1 h.1
   have hfn:=(hf.1 h.2).2
   obtain⟨hc,hlim,hcap,hol⟩:=hs.lens
   have hall:∀o∈s.orders,ED s o/\iC o:=fun o ho=>⟨hfn.ords o ho,hr.orders.1 o ho⟩
   have hokc:∀c∈s.cells,G6 c:=hr.cells.1
   refine Wq.bind (ajs hs hall) fun y hy=> ?_
   obtain⟨hy1,hy2⟩:=hy
   rw[fP]
   refine⟨fun h5=>(ai _).2 ((ai _).2 ?_),fun h5=> ?_⟩
   ·rw[aY]at h5
    refine⟨fun h=>(by cases h),fun hR=> ?_⟩
    have:y.2=true:=hy1.2 fun j hj=>by
     have e:=hR.ok s.cells[j] (List.getElem_mem _)
     have e2:s.cells[j]=nS ⟨s.cells[j].pos,0,0,0⟩ (nP s.symbols j s.orders):=by
      have:=qB s s.orders j (by rw[kX];exact hj)
      rw[<-this]
      congr 1
      exact hR.cells
     have e3:=aaf e
     rw[e2]at e3
     unfold VW nS at e3
     simpa [VW] using e3
    rw[this]at h5;cases h5
   ·rw[aZ]at h5
    obtain⟨hyl,hyg⟩:=hy2 h5
    refine Wq.bind (Q:=fun w:(Bool×List bF) ⊕ (Bool×List bF)=>match w with
     |.inl b=>b.1=false/\¬((∀c∈s.cells,okC c)/\s.cells=eY s s.orders)
     |.inr _=>(∀c∈s.cells,okC c)/\s.cells=eY s s.orders)
     (lD (n:=s.cells.length) (step:=fun v:Int×Bool×List bF=>kW (len s.cells) s.cells v.1 v.2.1 v.2.2) (by omega)
     (fun i x=>x.2.length=s.cells.length/\(∀(j:Nat) (h:j<x.2.length),i<=j->x.2[j]=nP s.symbols j s.orders)/\∀(j:Nat) (h:j<s.cells.length),j<i->okC s.cells[j]/\s.cells[j]=nS ⟨s.cells[j].pos,0,0,0⟩ (nP s.symbols j s.orders)) _ ?_ ?_ _ 0 (Nat.zero_le _)
     ⟨hyl,fun j hj _=>hyg j hj,fun j _ h=>by omega⟩) ?_
    ·rintro i ⟨q,x⟩ hi ⟨hx,hxj,hxd⟩
     simp only at hx hxj hxd
     simp only[kW]
     have hix:i<x.length:=by omega
     rw[aA (by rw[eX];simpa using hi),aA (inb _ i hi),aA (inb x i hix),bC _ i hi,bC x i hix,lI (hokc _ (List.getElem_mem _)),ah]
     have hil:i<(bT x (itn (i:Int)) (bF.mk s.cells[i].pos x[i].buy x[i].sell x[i].opn)).length:=by rw[xY];exact hix
     rw[aA (by rw[dn];exact .inl (inb _ i hil)),bC _ i hil]
     have hg:(bT x (itn (i:Int)) (bF.mk s.cells[i].pos x[i].buy x[i].sell x[i].opn))[i]=bF.mk s.cells[i].pos x[i].buy x[i].sell x[i].opn:=by
      simp [bT,itn]
     rw[hg]
     have hxi:=hxj i hix (Nat.le_refl _)
     have hq:nS ⟨s.cells[i].pos,0,0,0⟩ (nP s.symbols i s.orders)=bF.mk s.cells[i].pos x[i].buy x[i].sell x[i].opn:=by
      rw[<-hxi]
      have hp:x[i].pos=0:=by rw[hxi];exact(Oe _ _ fun o h=>⟨(hall o h).1.1,(hall o h).2⟩).1
      apply Af<;>simp only[nS]<;>omega
     simp only[fP,ai,aW,bK,dn,dF,aY,aZ,dA,dB,bP,dJ,bn,bg,dM,dN]
     constructor
     ·intro hb
      refine⟨trivial,fun⟨a1,a2⟩=> ?_⟩
      have b1:=a1 s.cells[i] (List.getElem_mem _)
      have b2:s.cells[i]=nS ⟨s.cells[i].pos,0,0,0⟩ (nP s.symbols i s.orders):=by
       have:=qB s s.orders i (by rw[kX];exact hi)
       rw[<-this];congr 1
      rw[hq]at b2
      rcases hb with hb | hb
      ·exact absurd b1 (by simpa using hb)
      ·have c2:=congrArg bF.buy b2;have c3:=congrArg bF.sell b2;have c4:=congrArg bF.opn b2
       simp only at c2 c3 c4
       rcases hb with hb | hb | hb | hb
       ·exact hb rfl
       ·exact hb c2.symm
       ·exact hb c3.symm
       ·exact hb c4.symm
     ·intro hb
      obtain⟨b1,_,b2,b3,b4⟩:=hb
      refine⟨dG (by omega),(xY _ _ _).trans hx,fun j hj hij=> ?_,fun j hj hji=> ?_⟩
      ·rw[aaP,if_neg (by omega)]
       exact hxj j (by simpa [bT] using hj) (by omega)
      ·by_cases e:j=i
       ·subst e
        refine⟨by simpa using b1,?_⟩
        rw[hq]
        exact Af rfl b2.symm b3.symm b4.symm
       ·exact hxd j hj (by omega)
    ·rintro⟨q,x⟩ ⟨hx,_,hxd⟩
     simp only[kW]
     rw[cZ (by rw[eX];simp),ai]
     refine⟨fun c hc=> ?_,?_⟩
     ·obtain⟨j,hj,rfl⟩:=List.getElem_of_mem hc
      exact(hxd j hj hj).1
     ·refine List.ext_getElem (kX _ _).symm fun j h1 h2=> ?_
      rw[qB]
      exact(hxd j h1 h1).2
    ·rintro w hw
     cases w with
     |inl b=>
      obtain⟨h1,h2⟩:=hw
      simp only[gX,ai,h1]
      exact⟨fun h=>(by cases h),fun hR=>absurd ⟨hR.ok,hR.cells⟩ h2⟩
     |inr b=>
      obtain⟨hok,hcs⟩:=hw
      simp only[gX]
      rw[pV]
      have hacc:∀a:Int,∀c∈rG s.symbols s.cells a,0<=c.opn/\inI c.opn:=fun a c hc=>by
       have:=hok c (Z7 hc)
       exact⟨this.2.1.2.2,this.1.opn⟩
      refine Wq.mono (Q:=fun w:Bool ⊕ Bool=>match w with | .inl b=>b=false/\¬YT s.accounts s.symbols s.cells | .inr _=>YT s.accounts s.symbols s.cells)
       (lD (n:=s.accounts.toNat) (step:=fun v:Int×Bool=>kQ s.accounts s v.1 v.2) (by have:=hs.1.2;omega)
       (fun i x=>∀a:Int,0<=a->a<i->pW (rG s.symbols s.cells a)<=9223372036854775807) _ ?_ ?_ _ 0 (Nat.zero_le _) (fun a h1 h2=>by omega)) ?_
      ·rintro i q hi hx
       have hia:(i:Int)<s.accounts:=by omega
       simp only[kQ]
       rw[aA (Dn hia),UH hs i (by omega) hia,ah,Io (by have:=Ue (n:=s.symbols) (cs:=s.cells) (a:=(i:Int));omega) (hacc i),ah]
       by_cases hw:pW (rG s.symbols s.cells i)<=9223372036854775807
       ·rw[if_pos hw]
        simp only[o7,aJ,aU,ai]
        refine⟨dG (by omega),fun a h1 h2=> ?_⟩
        by_cases e:a=i
        ·subst e;exact hw
        ·exact hx a h1 (by omega)
       ·rw[if_neg hw]
        simp only[Ar,bf,aX,ai]
        exact⟨trivial,fun h=>hw (h i (by omega) hia)⟩
      ·rintro q hx
       simp only[kQ]
       rw[cZ (Bz (by omega)),ai]
       exact fun a h1 h2=>hx a h1 (by omega)
      ·rintro w hw
       cases w with
       |inl b=>
        obtain⟨rfl,h2⟩:=hw
        simp only[ai]
        exact⟨fun h=>(by cases h),fun hR=>absurd hR.acct h2⟩
       |inr b=>
        simp only[ai]
        exact⟨fun _=>⟨hs,hfn,hcs,hok,hw⟩,fun _=>trivial⟩
def FI (o:aB):aB:=⟨o.id,o.account,o.symbol,o.side,o.qty,o.price,o.filled,3,0,0,o.version,o.asked⟩
def Jj (o:aB):aB:=⟨o.id,o.account,o.symbol,o.side,o.qty,o.price,o.filled,o.phase,0,0,o.version,o.asked⟩
def jT (r:iq):aB:=⟨r.order,r.account,r.symbol,r.side,r.qty,r.price,0,1,0,0,0,false⟩
def xA (o:aB):Prop:=o.phase=2/\¬uY o/\o.asked=false/\o.version<9223372036854775807
instance (o:aB):Decidable (xA o):=by unfold xA;infer_instance
def sN (o:aB) (q p:Int):aB:=⟨o.id,o.account,o.symbol,o.side,o.qty,o.price,o.filled,o.phase,q,p,o.version+1,o.asked⟩
def akh (o:aB):aB:=⟨o.id,o.account,o.symbol,o.side,o.qty,o.price,o.filled,o.phase,o.newQty,o.newPrice,o.version,true⟩
def Vl (o:aB) (f:Int):aB:=⟨o.id,o.account,o.symbol,o.side,o.qty,o.price,f,o.phase,o.newQty,o.newPrice,o.version,o.asked⟩
def TQ (o:aB) (f:Int):aB:=⟨o.id,o.account,o.symbol,o.side,o.qty,o.price,o.filled,f,o.newQty,o.newPrice,o.version,o.asked⟩
def ZC (o:aB) (q p:Int):aB:=⟨o.id,o.account,o.symbol,o.side,q,p,o.filled,o.phase,0,0,o.version,o.asked⟩
def PU (o:aB) (what q p:Int):Option aB:=
 if o.phase=1 then (if what=1 then some (TQ o 2)else if what=2 then some (FI o)else none)
 else if o.phase=2 then
  if what=3 then (if o.qty - o.filled<q then none else if o.filled+q<o.qty then some (Vl o (o.filled+q))else some (FI (Vl o (o.filled+q))))
  else if what=4 then some (FI o)
  else if what=5 then (if uY o/\q=o.newQty/\p=o.newPrice/\o.filled<q then some (ZC o q p)else none)
  else if what=6 then (if uY o then some (Jj o)else none)
  else none
 else none
theorem Ze {r:iq} (h:qQ r) (hk:r.kind=1):yu r=some (jT r,0):=by
 unfold yu
 obtain⟨b,e,q⟩:=qJ r
 rw[e,q.2 h,hk]
 rfl
theorem XI {o:aB} {q p:Int} (h:uy o) (hr:iC o) (hq:1<=q) (hp:1<=p):
 Wq (vS o q p) fun r=>(xA o->r=(sN o q p,0))/\(¬xA o->r.2≠0):=by
 have hv:=hr.version
 unfold vS
 rw[nG hv (by decide),ah,lF,ah,decide_eq_true h,aJ,aU,cZ (Bz (by omega)),cZ (Bz (by omega))]
 unfold inI at hv
 by_cases hm:o.version+1<=9223372036854775807
 ·rw[if_pos ⟨by omega,hm⟩]
  simp only[o7,aJ,aU]
  unfold ax
  rw[KP ⟨by omega,hm⟩,D9,ah]
  simp only[pV,fP,ai,aW,bK,dn,dF,aY,aZ,dA,dB,bP,dJ,bn,bg,dM,dN,true_implies,ne_eq,not_true_eq_false,false_implies,and_true,true_and,or_self,reduceCtorEq]
  unfold xA
  refine⟨fun h1=>⟨fun _=>⟨fun h2=>absurd h2.1 h1,fun _=>by decide⟩,fun h2=>absurd h2 h1⟩,fun h1=>⟨fun h2=>⟨fun _=>⟨fun h3=>absurd (by simpa using h2) h3.2.1,fun _=>by decide⟩,fun h3=>by rw[h2]at h3;cases h3⟩,fun h2=> ?_⟩⟩
  have h2:¬uY o:=by simpa using h2
  refine⟨fun h3=>⟨fun h4=>(by rw[h4.2.2.1]at h3;cases h3),fun _=>by decide⟩,fun h3=>⟨fun _=>rfl,fun h4=>absurd ⟨h1,h2,h3,by omega⟩ h4⟩⟩
 ·rw[if_neg (by unfold inI;omega)]
  simp only[Ar,bf,aX,ai]
  exact⟨fun h2=>(by have:=h2.2.2.2;omega),fun _=>by decide⟩
theorem adR {o:aB} (h:uy o) (h3:o.phase≠3):Dc o=some (if o.asked=true then (o,8)else (akh o,0)):=by
 unfold Dc
 rw[lF,ah,decide_eq_true h,aJ,aU,cZ (by rw[bg];exact h3),Ig]
 split<;>rfl
def jk (n:dQ):iq:=⟨6,n.order,0,0,0,n.qty,n.price,0,0,0,false,n.seq,n.what⟩
theorem Ky (o:aB):Bc o=some (FI o):=rfl
theorem ach (o:aB) (n:dQ):EG o n=some (if n.what=1 then (TQ o 2,true)else if n.what=2 then (FI o,true)else (o,false)):=by
 unfold EG
 rw[Ky,ah,fA,fA]
 split
 ·rfl
 ·split<;>rfl
theorem abD {o:aB} {n:dQ} (h:uy o) (hr:iC o) (hp:o.phase=2) (hn:n.what=3->1<=n.qty/\inI n.qty):
 Wq (Eu o n) fun r=>match PU o n.what n.qty n.price with | some p=>r=(p,true) | none=>r.2=false:=by
 have hq:=hr.qty;have hf:=hr.filled
 have h1:=h.2.1;have h2:=h.2.2.1
 unfold inI at hq hf
 unfold Eu PU
 rw[if_neg (by omega),if_pos hp]
 unfold aI ax
 rw[KP (n:=o.qty - o.filled) ⟨by omega,by omega⟩]
 by_cases k3:n.what=3
 ·obtain⟨g1,g2⟩:=hn k3
  unfold inI at g2
  rw[if_pos k3,aA (by rw[bn];exact k3),fP]
  refine⟨fun h4=> ?_,fun h4=> ?_⟩
  ·rw[dA]at h4
   rw[if_pos h4,ai]
  ·rw[dB]at h4
   rw[if_neg (by omega),KP ⟨by omega,by omega⟩,fP]
   refine⟨fun h5=> ?_,fun h5=> ?_⟩
   ·rw[dA]at h5
    rw[if_pos h5,ai];rfl
   ·rw[dB]at h5
    rw[if_neg (by omega),Ky,ah,ai];rfl
 rw[if_neg k3,cZ (by rw[bg];exact k3)]
 by_cases k4:n.what=4
 ·rw[if_pos k4,aA (by rw[bn];exact k4),Ky,ah,ai]
 rw[if_neg k4,cZ (by rw[bg];exact k4)]
 by_cases k5:n.what=5
 ·rw[if_pos k5,aA (by rw[bn];exact k5),D9,ah,fP]
  refine⟨fun hb=> ?_,fun hb=> ?_⟩
  ·simp only[aW,bK,dn,dF,aY,aZ,dA,dB,bP,dJ,bn,bg,dM,dN,decide_eq_false_iff_not]at hb
   rw[if_neg (by rintro⟨a1,a2,a3,a4⟩;rcases hb with ((hb | hb) | hb) | hb;exact hb a1;exact hb a2;exact hb a3;omega),ai]
  ·simp only[aW,bK,dn,dF,aY,aZ,dA,dB,bP,dJ,bn,bg,dM,dN,decide_eq_true_eq]at hb
   rw[if_pos ⟨hb.1.1.1,hb.1.1.2,hb.1.2,by omega⟩]
   exact(ai _).2 rfl
 rw[if_neg k5,cZ (by rw[bg];exact k5)]
 by_cases k6:n.what=6
 ·rw[if_pos k6,aA (by rw[bn];exact k6),D9]
  by_cases hb:uY o
  ·rw[if_pos hb,decide_eq_true hb];exact(ai _).2 rfl
  ·rw[if_neg hb,decide_eq_false hb];exact(ai _).2 rfl
 rw[if_neg k6,cZ (by rw[bg];exact k6),ai]
theorem abH {o:aB} {n:dQ} (h:uy o) (hr:iC o) (hn:qQ (jk n)) (hi:n.order=o.id) (hq:inI n.qty):
 zL o n=some (match PU o n.what n.qty n.price with | some p=>(p,0) | none=>(o,8)):=by
 refine Wq.eq ?_
 unfold zL
 obtain⟨b,e,q⟩:=qJ (jk n)
 rw[lF,ah,decide_eq_true h,aJ,bf,aX,show iD n=some (jk n)from rfl,ah,aX,e,q.2 hn,ah,aJ,iw,iw,cZ (by rw[aZ,bn];exact hi),fP]
 refine⟨fun h1=> ?_,fun h1=> ?_⟩
 ·rw[bn]at h1
  rw[ach,ah]
  unfold PU
  rw[if_pos h1]
  by_cases k1:n.what=1
  ·simp only[if_pos k1];exact(ai _).2 rfl
  ·by_cases k2:n.what=2
   ·simp only[if_neg k1,if_pos k2];exact(ai _).2 rfl
   ·simp only[if_neg k1,if_neg k2];exact(ai _).2 rfl
 ·rw[bg]at h1
  rw[fP]
  refine⟨fun h2=> ?_,fun h2=> ?_⟩
  ·rw[bn]at h2
   refine Wq.bind (abD h hr h2 fun k3=> ?_) fun y hy=> ?_
   ·unfold qQ jk at hn
    simp only at hn
    refine⟨?_,hq⟩
    omega
   ·rw[fP]
    cases ht:PU o n.what n.qty n.price with
    |none=>
     simp only[ht]at hy
     rw[hy]
     exact⟨fun _=>(ai _).2 rfl,fun h=>(by cases h)⟩
    |some p=>
     simp only[ht]at hy
     rw[hy]
     exact⟨fun h=>(by cases h),fun _=>(ai _).2 rfl⟩
  ·rw[bg]at h2
   rw[ai]
   unfold PU
   rw[if_neg h1,if_neg h2]
def aad (s:ay) (l:List aB):ay:=⟨s.accounts,s.symbols,l,eY s l,s.limits,s.caps,s.kill,s.last,s.seq,s.lsn⟩
def acR (s:ay):Prop:=(∀c∈s.cells,okC c)/\YT s.accounts s.symbols s.cells
def VB (was now:ay) (a y:Int):Prop:=
 Fv (ofC (aj was.cells (itn (a*was.symbols+y)))) (ofC (aj now.cells (itn (a*was.symbols+y)))) (aj was.limits (itn (a*was.symbols+y)))\/
 Zd (pW (rG was.symbols was.cells a)) (pW (rG was.symbols now.cells a)) (aj was.caps (itn a))
instance (s t:ay) (a y:Int):Decidable (VB s t a y):=by unfold VB;infer_instance
open Classical in
noncomputable def OL (s t:ay) (a y:Int):ay×Int:=
 if ¬acR t then (s,3)else if VB s t a y then (s,4)else (⟨t.accounts,t.symbols,t.orders,t.cells,t.limits,t.caps,t.kill,t.last,t.seq,t.lsn+1⟩,0)
def ahS (s:ay) (o:aB) (q:Int):List bF:=
 bT s.cells (itn (atZ s.symbols o)) ⟨if o.side=1 then (aj s.cells (itn (atZ s.symbols o))).pos+q else (aj s.cells (itn (atZ s.symbols o))).pos - q,(aj s.cells (itn (atZ s.symbols o))).buy,(aj s.cells (itn (atZ s.symbols o))).sell,(aj s.cells (itn (atZ s.symbols o))).opn⟩
def evS (s:ay) (r:iq) (k:Nat) (p:aB):ay:=
 let o:=aj s.orders k
 let s':ay:=⟨s.accounts,s.symbols,s.orders,if r.what=3 then ahS s o r.qty else s.cells,s.limits,s.caps,s.kill,s.last,r.seq,s.lsn+1⟩
 aad s' (if p.phase=3 then s.orders.eraseIdx k else bT s.orders k p)
def SV (s:ay) (r:iq):Prop:=iL s/\qQ r/\s.lsn<1000000000/\r.account<s.accounts/\r.symbol<s.symbols/\(r.kind=1->s.last<r.order)
open Classical in
noncomputable def doS (s:ay) (r:iq):ay×Int:=
 if ¬SV s r then (s,1)
 else if r.kind=1 then
  if s.kill=true then (s,5)else if s.orders.length=64 then (s,6)
  else OL s ⟨s.accounts,s.symbols,cu s.orders [jT r],eY s (cu s.orders [jT r]),s.limits,s.caps,s.kill,r.order,s.seq,s.lsn⟩ r.account r.symbol
 else if r.kind=2 then
  match yg s.orders r.order with
  |none=>(s,7)
  |some k=>
   if ¬xA (aj s.orders k)then (s,8)else if s.kill=true then (s,5)
   else OL s (aad s (bT s.orders k (sN (aj s.orders k) r.qty r.price))) (aj s.orders k).account (aj s.orders k).symbol
 else if r.kind=3 then
  match yg s.orders r.order with
  |none=>(s,7)
  |some k=>if (aj s.orders k).asked=true then (s,8)else (⟨s.accounts,s.symbols,bT s.orders k (akh (aj s.orders k)),s.cells,s.limits,s.caps,s.kill,s.last,s.seq,s.lsn+1⟩,0)
 else if r.kind=4 then
  if r.symbol= -1 then (⟨s.accounts,s.symbols,s.orders,s.cells,s.limits,bT s.caps (itn r.account) r.opn,s.kill,s.last,s.seq,s.lsn+1⟩,0)
  else (⟨s.accounts,s.symbols,s.orders,s.cells,bT s.limits (itn (r.account*s.symbols+r.symbol)) ⟨r.long,r.short,r.opn⟩,s.caps,s.kill,s.last,s.seq,s.lsn+1⟩,0)
 else if r.kind=5 then (⟨s.accounts,s.symbols,s.orders,s.cells,s.limits,s.caps,r.on,s.last,s.seq,s.lsn+1⟩,0)
 else if r.seq≠s.seq+1 then (s,11)
 else match yg s.orders r.order with
  |none=>(⟨s.accounts,s.symbols,s.orders,s.cells,s.limits,s.caps,s.kill,s.last,r.seq,s.lsn+1⟩,0)
  |some k=>match PU (aj s.orders k) r.what r.qty r.price with
   |none=>(⟨s.accounts,s.symbols,s.orders,s.cells,s.limits,s.caps,s.kill,s.last,r.seq,s.lsn+1⟩,0)
   |some p=>(evS s r k p,0)
theorem amx {n:Int} (h1:0<=n) (h2:n<1000000000):wr .i64 (ax n 1)=n+1:=by unfold ax;exact bM (by omega) (by omega)
theorem abe {s:ay} (hs:sW s) {o:aB} (h:ED s o):∃k:Nat,bG s o.account o.symbol=some (k:Int)/\atZ s.symbols o=(k:Int)/\k<s.cells.length:=by
 obtain⟨ho,_,g1,g2⟩:=h
 obtain⟨⟨_,hb1,hb2,_⟩,_⟩:=id ho
 obtain⟨k,k1,k2,k3⟩:=LW hs o.account o.symbol hb1.1 g1 hb2.1 g2
 exact⟨k,k1,k2.symm,k3⟩
theorem aex {s:ay} (hR:iL s) (l:List aB) (k:Nat) (hk:k<s.cells.length) (c:bF) (hc:c=nS ⟨s.cells[k].pos,0,0,0⟩ (nP s.symbols k l))
 (ho:∀j:Nat,j≠k->nP s.symbols j l=nP s.symbols j s.orders):eY s l=s.cells.set k c:=by
 refine List.ext_getElem (by rw[kX,List.length_set]) fun j h1 h2=> ?_
 rw[qB,List.getElem_set]
 have hj:j<s.cells.length:=by simpa [eY] using h1
 split
 ·rename_i e;subst e;exact hc.symm
 ·rename_i e
  rw[ho j (by omega),<-qB s s.orders j (by rw[kX];exact hj)]
  congr 1
  exact hR.cells.symm
theorem cell_of {s:ay} (hR:iL s) (k:Nat) (hk:k<s.cells.length):s.cells[k]=nS ⟨s.cells[k].pos,0,0,0⟩ (nP s.symbols k s.orders):=by
 have:=qB s s.orders k (by rw[kX];exact hk)
 rw[<-this];congr 1;exact hR.cells
theorem afE {n:Int} {o:aB} {k:Nat} (h:atZ n o=(k:Int)):inC n k o=wC o:=by unfold inC;rw[if_pos h]
theorem Wn {n:Int} {o:aB} {k j:Nat} (h:atZ n o=(k:Int)) (hj:j≠k):inC n j o=zC:=by unfold inC;rw[if_neg (by omega)]
theorem amD {s:ay} (hR:iL s) (o:aB) (k:Nat) (hk:k<s.cells.length) (ha:atZ s.symbols o=(k:Int)):eY s (s.orders++[o])=s.cells.set k (qK s.cells[k] o):=by
 refine aex hR _ k hk _ ?_ fun j hj=> ?_
 ·rw[vY,Xf,afE ha,<-FZ,<-cell_of hR k hk,V9]
 ·rw[vY,Xf,Wn ha hj,MS]
theorem JC.find {l:List aB} (h:JC l) {i j:Nat} (hi:i<l.length) (hj:j<l.length) (e:l[i].id=l[j].id):i=j:=by
 rcases Nat.lt_trichotomy i j with h1 | h1 | h1
 ·have:=List.pairwise_iff_getElem.1 h i j hi hj h1;omega
 ·exact h1
 ·have:=List.pairwise_iff_getElem.1 h j i hj hi h1;omega
theorem akT {c:bF} {o:aB} {d:bF} (h:c=nS d (wC o)):qW c o=d:=by
 subst h
 unfold qW wC nS
 split<;>apply Af<;>simp only<;>omega
def Yu (s:ay) (m k:Nat):bF:=nS (nS (nP s.symbols k (s.orders.take m)) (nP s.symbols k (s.orders.drop (m+1)))) zC
theorem Ot {s:ay} (hR:iL s) (m:Nat) (hm:m<s.orders.length) (k:Nat) (hk:k<s.cells.length) (ha:atZ s.symbols s.orders[m]=(k:Int)):
 qW s.cells[k] s.orders[m]=nS ⟨s.cells[k].pos,0,0,0⟩ (Yu s m k):=by
 refine akT ?_
 have h:=cell_of hR k hk
 rw[Gf s.symbols k s.orders m hm,afE ha]at h
 unfold Yu
 rw[MS,FZ]
 exact h
theorem alb {s:ay} (hk:∀o∈s.orders,uy o/\iC o) (m k:Nat):nnC (Yu s m k):=by
 unfold Yu
 rw[MS]
 exact abd (Oe _ _ fun o h=>hk o (List.mem_of_mem_take h)) (Oe _ _ fun o h=>hk o (List.mem_of_mem_drop h))
theorem aj8 {s:ay} (hR:iL s) (m:Nat) (hm:m<s.orders.length) (p:aB) (k:Nat) (hk:k<s.cells.length) (ha:atZ s.symbols s.orders[m]=(k:Int)) (hp:atZ s.symbols p=(k:Int)):
 eY s (s.orders.set m p)=s.cells.set k (qK (qW s.cells[k] s.orders[m]) p):=by
 refine aex hR _ k hk _ ?_ fun j hj=> ?_
 ·rw[Ot hR m hm k hk ha,YJ s.symbols k s.orders m hm,afE hp,V9]
  unfold Yu
  rw[MS,FZ]
 ·rw[YJ s.symbols j s.orders m hm,Gf s.symbols j s.orders m hm,Wn hp hj,Wn ha hj]
theorem am4 {s:ay} (hR:iL s) (m:Nat) (hm:m<s.orders.length) (k:Nat) (hk:k<s.cells.length) (ha:atZ s.symbols s.orders[m]=(k:Int)):
 eY s (s.orders.eraseIdx m)=s.cells.set k (qW s.cells[k] s.orders[m]):=by
 refine aex hR _ k hk _ ?_ fun j hj=> ?_
 ·rw[Ot hR m hm k hk ha,Yg s.symbols k s.orders m hm]
  unfold Yu
  rw[MS]
 ·rw[Yg s.symbols j s.orders m hm,Gf s.symbols j s.orders m hm,Wn ha hj,MS]
theorem aff {s:ay} (hR:iL s) (hr:gG s) (m:Nat) (hm:m<s.orders.length) (k:Nat) (hk:k<s.cells.length) (ha:atZ s.symbols s.orders[m]=(k:Int)):okC (qW s.cells[k] s.orders[m]):=by
 have hall:∀o∈s.orders,uy o/\iC o:=fun o h=>⟨(hR.fine.ords o h).1,hr.orders.1 o h⟩
 have hm':=hall s.orders[m] (List.getElem_mem _)
 have h1:=hR.ok s.cells[k] (List.getElem_mem _)
 rw[Ot hR m hm k hk ha]
 have h2:=alb hall m k
 have h3:=ai0 hm'.1 hm'.2
 have h4:s.cells[k]=nS (nS ⟨s.cells[k].pos,0,0,0⟩ (Yu s m k)) (wC s.orders[m]):=by
  have:=Ot hR m hm k hk ha
  rw[<-this]
  unfold qW wC nS
  split<;>apply Af<;>simp only<;>omega
 rw[Hg]at h1 ⊢
 have b1:=congrArg bF.buy h4;have b2:=congrArg bF.sell h4;have b3:=congrArg bF.opn h4
 unfold nnC at h2 h3
 unfold inI at*
 simp only[nS]at*
 omega
theorem af5 {n:Int} {cs:List bF} (h:∀c∈cs,okC c) (a:Int):∀c∈rG n cs a,0<=c.opn/\inI c.opn:=fun c hc=>by
 have:=h c (Z7 hc)
 exact⟨this.2.1.2.2,this.1.opn⟩
theorem aio {n:Int} (hn:0<=n) {cs:List bF} {k:Nat} {c:bF} {a y b:Int} (ha:0<=a) (hy:0<=y) (hy2:y<n) (hk:(k:Int)=a*n+y) (hb:0<=b) (hab:b≠a):rG n (cs.set k c) b=rG n cs b:=by
 unfold rG
 rcases Int.lt_or_gt_of_ne hab with h | h
 ·have h1:(b+1)*n<=a*n:=Int.mul_le_mul_of_nonneg_right (by omega) hn
  have h2:(b+1)*n=b*n+n:=by rw[Int.add_mul,Int.one_mul]
  have h3:0<=b*n:=Int.mul_nonneg hb hn
  rw[List.drop_set]
  rw[if_neg (by omega),List.take_set_of_le (by omega)]
 ·have h1:(a+1)*n<=b*n:=Int.mul_le_mul_of_nonneg_right (by omega) hn
  have h2:(a+1)*n=a*n+n:=by rw[Int.add_mul,Int.one_mul]
  rw[List.drop_set_of_lt (by omega)]
theorem agk {s t:ay} (hR:iL s) (hn1:t.accounts=s.accounts) (hn2:t.symbols=s.symbols) {k:Nat} {c:bF} {a y:Int} (ha:0<=a) (ha2:a<s.accounts) (hy:0<=y) (hy2:y<s.symbols) (hk:(k:Int)=a*s.symbols+y) (hkl:k<s.cells.length)
 (hc:t.cells=s.cells.set k c):acR t↔okC c/\pW (rG s.symbols t.cells a)<=9223372036854775807:=by
 unfold acR YT
 rw[hn1,hn2]
 constructor
 ·rintro⟨h1,h2⟩
  refine⟨h1 c ?_,h2 a ha ha2⟩
  rw[hc];exact List.mem_set hkl _
 ·rintro⟨h1,h2⟩
  refine⟨fun d hd=> ?_,fun b hb hb2=> ?_⟩
  ·rw[hc]at hd
   rcases List.mem_or_eq_of_mem_set hd with hd | rfl
   ·exact hR.ok d hd
   ·exact h1
  ·by_cases e:b=a
   ·subst e;exact h2
   ·rw[hc,aio (by omega) ha hy hy2 hk hb e]
    exact hR.acct b hb hb2
theorem alG {s t:ay} (hR:iL s) (ht:sW t) (hn1:t.accounts=s.accounts) (hn2:t.symbols=s.symbols) (hl:t.limits=s.limits) (hcp:t.caps=s.caps) (hok:∀c∈t.cells,okC c) {k:Nat} {a y:Int} (ha:0<=a) (ha2:a<s.accounts) (hy:0<=y) (hy2:y<s.symbols) (hk:(k:Int)=a*s.symbols+y) (hkl:k<s.cells.length):
 dU t s a y=some (if ¬pW (rG s.symbols t.cells a)<=9223372036854775807 then 3 else if VB s t a y then 4 else 0):=by
 have hs:=hR.sized
 obtain⟨l1,l2,l3,l4⟩:=hs.lens
 obtain⟨m1,m2,m3,m4⟩:=ht.lens
 have hcl:t.cells.length=s.cells.length:=by
  have:=ht.2.2.1;have:=hs.2.2.1
  rw[hn1,hn2]at*
  simp only[len]at *; omega
 obtain⟨k',e1,e2,e3⟩:=LW ht a y ha (by omega) hy (by omega)
 have hkk:k'=k:=by rw[hn2]at e2;omega
 subst hkk
 have hkt:k'<t.cells.length:=by omega
 have hkm:k'<t.limits.length:=by omega
 have ln1:=Ue (n:=s.symbols) (cs:=s.cells) (a:=a)
 have ln2:=Ue (n:=s.symbols) (cs:=t.cells) (a:=a)
 unfold dU
 rw[e1,ah,UH ht a ha (by omega),ah,hn2,Io (by omega) (af5 hok a),ah]
 by_cases hw:pW (rG s.symbols t.cells a)<=9223372036854775807
 ·rw[if_pos hw,if_neg (by simpa using hw)]
  simp only[o7,aJ,aU]
  rw[UH hs a ha ha2,ah,Io (by omega) (af5 hR.ok a),ah,if_pos (hR.acct a ha ha2),aA (inb _ k' hkl),bC _ k' hkl,aaK (hR.ok _ (List.getElem_mem _)),ah,
   aA (inb _ k' hkt),bC _ k' hkt,aaK (hok _ (List.getElem_mem _)),ah,aA (inb _ k' hkm),bC _ k' hkm,VI,ah]
  have hac:band (ile 0 a) (ilt a (len t.caps))=true:=DW (jo ha) (Dn (by simp only[len];omega))
  rw[aA (by rw[dn];exact .inl hac),fD,zx,Fj]
  have hst:VB s t a y↔Fv (ofC s.cells[k']) (ofC t.cells[k']) t.limits[k']\/Zd (pW (rG s.symbols s.cells a)) (pW (rG s.symbols t.cells a)) (aj t.caps (itn a)):=by
   unfold VB
   rw[<-hk,bC _ k' hkl,bC _ k' hkt,bC _ k' (by omega),hcp]
   simp only[hl]
  by_cases hx:Fv (ofC s.cells[k']) (ofC t.cells[k']) t.limits[k']
  ·rw[if_pos hx,ah,decide_eq_true hx,vO,aX,if_pos (hst.2 (.inl hx))]
  ·rw[if_neg hx,ah,decide_eq_false hx,iw,zx]
   by_cases hz:Zd (pW (rG s.symbols s.cells a)) (pW (rG s.symbols t.cells a)) (aj t.caps (itn a))
   ·rw[if_pos hz,if_pos (hst.2 (.inr hz))]
   ·rw[if_neg hz,if_neg fun h=>(hst.1 h).elim hx hz]
 ·rw[if_neg hw,if_pos hw]
  simp only[Ar,bf,aX]
theorem ajA {l:List aB} {i:Nat} (hi:i<l.length) (hl:l.length<1000):gZ l i (wr .i64 (ax i 1))=some (l.eraseIdx i):=by
 rw[dG (by omega)]
 unfold gZ
 have e1:aG (aV l (itn ((i+1:Nat):Int))) (itn (aI (len l) ((i+1:Nat):Int)))=l.drop (i+1):=by
  simp only[aG,aV,itn,aI,len,Int.toNat_natCast]
  rw[List.take_of_length_le (by simp;omega)]
 rw[e1]
 have e2:nad (itn (i:Int)) (itn (len (l.drop (i+1))))=l.length - 1:=by simp [nad,itn,len];omega
 simp only[e2]
 have e3:(iO l (itn (i:Int)) (l.drop (i+1))).length=l.length:=by simp [iO,itn];omega
 rw[aA (by simp only[aW,bP,len];omega),cZ (by rw[bg];omega),aA (by simp only[aW,bP,len];omega),aA (by simp only[aW,bP,len];omega),
  aA (by simp only[bP,len,nti,itn,ax,List.length_drop,Int.toNat_natCast];omega),aA (by simp only[aW,bP,len,nti,aI,e3];omega)]
 congr 1
 simp only[aG,aV,iO,itn,nad,nti,len,aI,Int.toNat_natCast,List.drop_zero,Nat.zero_add]
 rw[List.eraseIdx_eq_take_drop_succ]
 have e4:(l.take i++(l.drop (i+1)++l.drop (i+(l.drop (i+1)).length))).take (l.length - 1)=l.take i++l.drop (i+1):=by
  rw[<-List.append_assoc,List.take_append_of_le_length (by simp;omega),List.take_of_length_le (by simp;omega)]
 rw[e4,List.take_append_of_le_length (by simp;omega),List.take_of_length_le (by simp;omega)]
structure aiV (o p:aB) (what q:Int):Prop where
 ord:uy p
 rng:iC p
 id:p.id=o.id
 account:p.account=o.account
 symbol:p.symbol=o.symbol
 side:p.side=o.side
 opn:lX p+(if what=3 then q else 0)<=lX o
 worth:iW p<=iW o
 phase:p.phase=2\/p.phase=3
theorem ajg {o:aB} (h:uy o):uy (FI o):=by
 obtain⟨h1,h2,h3,h4,h5,h6⟩:=h
 exact⟨h1,h2,h3,h4,fun h=>by simp [uY,FI]at h,.inr (.inr ⟨rfl,by simp [uY,FI]⟩)⟩
theorem aiF {o:aB} (h:iC o):iC (FI o):=⟨h.id,h.account,h.symbol,h.side,h.qty,h.price,h.filled,(by decide:inI 3),(by decide:inI 0),(by decide:inI 0),h.version⟩
theorem Om (o:aB):lX (FI o)=0/\iW (FI o)=0:=⟨rfl,rfl⟩
theorem aaE {o:aB} {what q:Int} (h:uy o) (hr:iC o) (hq:what=3->q<=lX o):aiV o (FI o) what q:=by
 have:=EK h hr
 have:=EN h
 refine⟨ajg h,aiF hr,rfl,rfl,rfl,rfl,?_,by rw[(Om o).2];omega,.inr rfl⟩
 rw[(Om o).1]
 split
 ·rename_i h3;have:=hq h3;omega
 ·omega
theorem NE {o:aB} (h:o.phase≠3):lX o=max o.qty o.newQty - o.filled:=by unfold lX;rw[if_neg h]
theorem zA {o:aB} (h:o.phase≠3):iW o=if o.newQty<=o.filled then (o.qty - o.filled)*o.price else max ((o.qty - o.filled)*o.price) ((o.newQty - o.filled)*o.newPrice):=by unfold iW;rw[if_neg h]
theorem aeh {a b c:Int} (h:a<=b) (hc:0<=c):a*c<=b*c:=Int.mul_le_mul_of_nonneg_right h hc
theorem afq {o p:aB} {what q pr:Int} (h:uy o) (hr:iC o) (ht:PU o what q pr=some p) (h3:what=3->1<=q) (h5:what=5->1<=q/\1<=pr) (rq:inI q) (rp:inI pr):aiV o p what q:=by
 obtain⟨g1,g2,g3,g4,g5,g6⟩:=id h
 have hb1:=g1.2.2.2.2.1
 have hb2:=g1.2.2.2.2.2
 have r1:=hr.qty;have r2:=hr.filled;have r3:=hr.newQty;have r4:=hr.newPrice
 unfold inI at r1 r2 r3
 unfold PU at ht
 by_cases p1:o.phase=1
 ·rw[if_pos p1]at ht
  have hp:o.filled=0/\o.version=0/\¬uY o:=by
   rcases g6 with g | g | g
   ·exact g.2
   ·omega
   ·omega
  by_cases k1:what=1
  ·rw[if_pos k1]at ht
   cases ht
   refine⟨⟨g1,g2,g3,g4,g5,.inr (.inl ⟨rfl,by show o.filled<o.qty;omega⟩)⟩,⟨hr.id,hr.account,hr.symbol,hr.side,hr.qty,hr.price,hr.filled,(by decide:inI 2),hr.newQty,hr.newPrice,hr.version⟩,rfl,rfl,rfl,rfl,?_,?_,.inl rfl⟩
   ·have e1:lX (TQ o 2)=max o.qty o.newQty - o.filled:=NE (o:=TQ o 2) (by show(2:Int)≠3;decide)
    rw[if_neg (by omega),e1,NE (o:=o) (by omega)];omega
   ·have e1:iW (TQ o 2)=if o.newQty<=o.filled then (o.qty - o.filled)*o.price else max ((o.qty - o.filled)*o.price) ((o.newQty - o.filled)*o.newPrice):=zA (o:=TQ o 2) (by show(2:Int)≠3;decide)
    rw[e1,zA (o:=o) (by omega)];exact Int.le_refl _
  ·rw[if_neg k1]at ht
   by_cases k2:what=2
   ·rw[if_pos k2]at ht
    cases ht
    exact aaE h hr fun h=>by omega
   ·rw[if_neg k2]at ht;cases ht
 ·rw[if_neg p1]at ht
  by_cases p2:o.phase=2
  ·rw[if_pos p2]at ht
   have hlt:o.filled<o.qty:=by rcases g6 with g | g | g<;>omega
   by_cases k3:what=3
   ·rw[if_pos k3]at ht
    have hq1:=h3 k3
    by_cases c1:o.qty - o.filled<q
    ·rw[if_pos c1]at ht;cases ht
    ·rw[if_neg c1]at ht
     have hoo:lX o=max o.qty o.newQty - o.filled:=by unfold lX;rw[if_neg (by omega)]
     have hfl:uy (Vl o (o.filled+q))\/¬(o.filled+q<o.qty):=by
      by_cases c2:o.filled+q<o.qty
      ·exact .inl ⟨g1,by show 0<=o.filled+q;omega,by show o.filled+q<=o.qty;omega,g4,g5,.inr (.inl ⟨p2,c2⟩)⟩
      ·exact .inr c2
     by_cases c2:o.filled+q<o.qty
     ·rw[if_pos c2]at ht
      cases ht
      refine⟨hfl.resolve_right (by omega),⟨hr.id,hr.account,hr.symbol,hr.side,hr.qty,hr.price,⟨by show _<=o.filled+q;omega,by show o.filled+q<=_;omega⟩,hr.phase,hr.newQty,hr.newPrice,hr.version⟩,rfl,rfl,rfl,rfl,?_,?_,.inl p2⟩
      ·have e1:lX (Vl o (o.filled+q))=max o.qty o.newQty - (o.filled+q):=NE (o:=Vl o (o.filled+q)) (by show o.phase≠3;omega)
       rw[if_pos k3,hoo,e1];omega
      ·have e1:iW (Vl o (o.filled+q))=if o.newQty<=o.filled+q then (o.qty - (o.filled+q))*o.price else max ((o.qty - (o.filled+q))*o.price) ((o.newQty - (o.filled+q))*o.newPrice):=zA (o:=Vl o (o.filled+q)) (by show o.phase≠3;omega)
       rw[e1,zA (o:=o) (by omega)]
       have m1:(o.qty - (o.filled+q))*o.price<=(o.qty - o.filled)*o.price:=aeh (by omega) (by omega)
       by_cases n1:o.newQty<=o.filled
       ·rw[if_pos n1,if_pos (by omega)];exact m1
       ·have hnp:=afQ h (by omega)
        have m2:(o.newQty - (o.filled+q))*o.newPrice<=(o.newQty - o.filled)*o.newPrice:=aeh (by omega) (by omega)
        rw[if_neg n1]
        split<;>omega
     ·rw[if_neg c2]at ht
      cases ht
      have hod:uy (FI (Vl o (o.filled+q))):=by
       refine⟨g1,by show 0<=o.filled+q;omega,by show o.filled+q<=o.qty;omega,g4,fun h=>by simp [uY,FI]at h,.inr (.inr ⟨rfl,by simp [uY,FI]⟩)⟩
      refine⟨hod,⟨hr.id,hr.account,hr.symbol,hr.side,hr.qty,hr.price,⟨by show _<=o.filled+q;omega,by show o.filled+q<=_;omega⟩,(by decide:inI 3),(by decide:inI 0),(by decide:inI 0),hr.version⟩,rfl,rfl,rfl,rfl,?_,by rw[(Om _).2];exact EN h,.inr rfl⟩
      rw[(Om _).1,if_pos k3,hoo];omega
   ·rw[if_neg k3]at ht
    by_cases k4:what=4
    ·rw[if_pos k4]at ht
     cases ht
     exact aaE h hr fun h=>by omega
    ·rw[if_neg k4]at ht
     have hoo:lX o=max o.qty o.newQty - o.filled:=by unfold lX;rw[if_neg (by omega)]
     by_cases k5:what=5
     ·rw[if_pos k5]at ht
      by_cases c1:uY o/\q=o.newQty/\pr=o.newPrice/\o.filled<q
      ·rw[if_pos c1]at ht
       cases ht
       obtain⟨c1,c2,c3,c4⟩:=c1
       obtain⟨h51,h52⟩:=h5 k5
       refine⟨⟨⟨g1.1,g1.2.1,g1.2.2.1,g1.2.2.2.1,h51,h52⟩,g2,by show o.filled<=q;omega,g4,fun h=>by simp [uY,ZC]at h,.inr (.inl ⟨p2,c4⟩)⟩,⟨hr.id,hr.account,hr.symbol,hr.side,rq,rp,hr.filled,hr.phase,(by decide:inI 0),(by decide:inI 0),hr.version⟩,rfl,rfl,rfl,rfl,?_,?_,.inl p2⟩
       ·have e1:lX (ZC o q pr)=max q 0 - o.filled:=NE (o:=ZC o q pr) (by show o.phase≠3;omega)
        rw[if_neg k3,hoo,e1];omega
       ·have e1:iW (ZC o q pr)=if 0<=o.filled then (q - o.filled)*pr else max ((q - o.filled)*pr) ((0 - o.filled)*0):=zA (o:=ZC o q pr) (by show o.phase≠3;omega)
        rw[e1,zA (o:=o) (by omega),if_pos g2,if_neg (by omega),c2,c3];exact Int.le_max_right _ _
      ·rw[if_neg c1]at ht;cases ht
     ·rw[if_neg k5]at ht
      by_cases k6:what=6
      ·rw[if_pos k6]at ht
       by_cases c1:uY o
       ·rw[if_pos c1]at ht
        cases ht
        refine⟨⟨g1,g2,g3,g4,fun h=>by simp [uY,Jj]at h,.inr (.inl ⟨p2,hlt⟩)⟩,⟨hr.id,hr.account,hr.symbol,hr.side,hr.qty,hr.price,hr.filled,hr.phase,(by decide:inI 0),(by decide:inI 0),hr.version⟩,rfl,rfl,rfl,rfl,?_,?_,.inl p2⟩
        ·have e1:lX (Jj o)=max o.qty 0 - o.filled:=NE (o:=Jj o) (by show o.phase≠3;omega)
         rw[if_neg k3,hoo,e1];omega
        ·have e1:iW (Jj o)=if 0<=o.filled then (o.qty - o.filled)*o.price else max ((o.qty - o.filled)*o.price) ((0 - o.filled)*0):=zA (o:=Jj o) (by show o.phase≠3;omega)
         rw[e1,zA (o:=o) (by omega),if_pos g2]
         split
         ·exact Int.le_refl _
         ·exact Int.le_max_left _ _
       ·rw[if_neg c1]at ht;cases ht
      ·rw[if_neg k6]at ht;cases ht
  ·rw[if_neg p2]at ht;cases ht
theorem ZQ {r:iq} (h:qQ r) (hk:r.kind=1):uy (jT r)/\ED ⟨8,8,[],[],[],[],false,0,0,0⟩ (jT r):=by
 unfold qQ sS at h
 have h1:P6 (jT r):=by unfold P6 jT;simp only;omega
 have h2:¬uY (jT r):=by simp [uY,jT]
 have h3:uy (jT r):=⟨h1,Int.le_refl _,by have:=h1.2.2.2.2.1;show 0<=(jT r).qty;omega,Int.le_refl _,fun h=>absurd h h2,.inl ⟨rfl,rfl,rfl,h2⟩⟩
 exact⟨h3,h3,by simp [jT],h1.2.1.2,h1.2.2.1.2⟩
theorem ZK {r:iq} (h:lm r):iC (jT r):=⟨h.order,h.account,h.symbol,h.side,h.qty,h.price,(by decide:inI 0),(by decide:inI 1),(by decide:inI 0),(by decide:inI 0),(by decide:inI 0)⟩
theorem Xp {o:aB} {q p:Int} (h:uy o) (hc:xA o) (hq:1<=q) (hp:1<=p):uy (sN o q p):=by
 obtain⟨g1,g2,g3,g4,g5,g6⟩:=id h
 obtain⟨c1,c2,c3,c4⟩:=hc
 exact⟨g1,g2,g3,by show 0<=o.version+1;omega,fun _=>⟨hq,hp⟩,.inr (.inl ⟨c1,by rcases g6 with g | g | g<;>(show o.filled<o.qty)<;>omega⟩)⟩
theorem Yf {o:aB} {q p:Int} (h:iC o) (hc:xA o) (hq:inI q) (hp:inI p):iC (sN o q p):=by
 have:=h.version
 obtain⟨c1,c2,c3,c4⟩:=hc
 unfold inI at this
 exact⟨h.id,h.account,h.symbol,h.side,h.qty,h.price,h.filled,h.phase,hq,hp,⟨by show _<=o.version+1;omega,by show o.version+1<=_;omega⟩⟩
theorem als {o:aB} (h:iC o):iC (akh o):=⟨h.id,h.account,h.symbol,h.side,h.qty,h.price,h.filled,h.phase,h.newQty,h.newPrice,h.version⟩
theorem acu {l:List aB} (h:l.length<1000000):fC l=some l:=lW h
theorem afc {l:List bF} (h:l.length<1000000):fG l=some l:=lW h
theorem aez {l:List jK} (h:l.length<1000000):fE l=some l:=lW h
theorem adn {l:List Int} (h:l.length<1000000):iy l=some l:=lW h
theorem yh {s t:ay} (hs:sW s) (h1:t.accounts=s.accounts) (h2:t.symbols=s.symbols) (h3:t.cells.length=s.cells.length) (h4:t.limits.length=s.limits.length) (h5:t.caps.length=s.caps.length) (h6:t.orders.length<=64):sW t:=by
 obtain⟨a1,a2,a3,a4,a5,a6⟩:=hs
 unfold sW
 simp only[len]at*
 rw[h1,h2,h3,h4,h5]
 exact⟨a1,a2,a3,a4,a5,h6⟩
theorem alZ {s t:ay} (hR:iL s) (ht:sW t) (hn1:t.accounts=s.accounts) (hn2:t.symbols=s.symbols) (hl:t.limits=s.limits) (hcp:t.caps=s.caps) {k:Nat} {c:bF} {a y:Int} (ha:0<=a) (ha2:a<s.accounts) (hy:0<=y) (hy2:y<s.symbols) (hk:(k:Int)=a*s.symbols+y) (hkl:k<s.cells.length)
 (hc:t.cells=s.cells.set k c) (hc2:okC c):
 Wq (dU t s a y) fun e=>cnd (au (ieq e 0)) (some (s,e)) (some (⟨t.accounts,t.symbols,t.orders,t.cells,t.limits,t.caps,t.kill,t.last,t.seq,t.lsn+1⟩,0))=some (OL s t a y):=by
 have hok:∀d∈t.cells,okC d:=fun d hd=>by
  rw[hc]at hd
  rcases List.mem_or_eq_of_mem_set hd with hd | rfl
  ·exact hR.ok d hd
  ·exact hc2
 rw[alG hR ht hn1 hn2 hl hcp hok ha ha2 hy hy2 hk hkl,ai]
 have hf:=agk hR hn1 hn2 ha ha2 hy hy2 hk hkl hc
 unfold OL
 by_cases hw:pW (rG s.symbols t.cells a)<=9223372036854775807
 ·rw[if_neg (c:=¬acR t) (fun h=>h (hf.2 ⟨hc2,hw⟩)),if_neg (c:=¬pW (rG s.symbols t.cells a)<=9223372036854775807) (fun h=>h hw)]
  by_cases hst:VB s t a y
  ·rw[if_pos hst,if_pos hst];rfl
  ·rw[if_neg hst,if_neg hst];rfl
 ·rw[if_pos (c:=¬acR t) (fun h=>hw (hf.1 h).2),if_pos (c:=¬pW (rG s.symbols t.cells a)<=9223372036854775807) hw];rfl
theorem agx {s t:ay} (hR:iL s) (hn1:t.accounts=s.accounts) (hn2:t.symbols=s.symbols) {k:Nat} {c:bF} {a y:Int} (ha:0<=a) (ha2:a<s.accounts) (hy:0<=y) (hy2:y<s.symbols) (hk:(k:Int)=a*s.symbols+y) (hkl:k<s.cells.length)
 (hc:t.cells=s.cells.set k c) (hc2:¬okC c):OL s t a y=(s,3):=by
 unfold OL
 rw[if_pos fun h=>hc2 ((agk hR hn1 hn2 ha ha2 hy hy2 hk hkl hc).1 h).1]
theorem Y1 (n i:Int):∀(l:List aB),(nP n i l).pos=0
 |[]=>rfl
 |o::l=>by
  have h:=Y1 n i l
  have:(inC n i o).pos=0:=by unfold inC wC;split<;>(try split)<;>rfl
  simp only[nP,nS,h,this];rfl
theorem adB {s s':ay} (hsym:s'.symbols=s.symbols) {k:Nat} (hk:k<s.cells.length) {c d:bF} (hc:s'.cells=s.cells.set k d) {l:List aB} (hE:eY s l=s.cells.set k c):
 eY s' l=s.cells.set k ⟨d.pos,c.buy,c.sell,c.opn⟩:=by
 have e0:eY s' l=(s.cells.set k d).mapIdx fun i c=>nS ⟨c.pos,0,0,0⟩ (nP s.symbols i l):=by unfold eY;rw[hsym,hc]
 rw[e0]
 refine List.ext_getElem (by simp) fun j h1 h2=> ?_
 have hj:j<s.cells.length:=by simpa using h1
 rw[List.getElem_mapIdx,List.getElem_set,List.getElem_set]
 have hj2:(eY s l)[j]'(by rw[kX];exact hj)=(s.cells.set k c)[j]'(by simpa using hj):=by simp only[hE]
 rw[qB,List.getElem_set]at hj2
 by_cases e:k=j
 ·subst e
  rw[if_pos rfl,if_pos rfl]
  rw[if_pos rfl]at hj2
  rw[<-hj2]
  have:=Y1 s.symbols k l
  apply Af<;>simp only[nS]<;>omega
 ·rw[if_neg e,if_neg e]
  rw[if_neg e]at hj2
  exact hj2
theorem aiC {α:Type} (l:List α) (k:Nat) (a b:α):(l.set k a).set k b=l.set k b:=by simp
theorem Og {α:Type} (l:List α) (k:Nat) (x:α):bT l (itn (k:Int)) x=l.set k x:=by simp [bT,itn]
theorem TP {α:Type} (l:List α) (k:Nat) (x:α):bT l k x=l.set k x:=rfl
theorem yx {α:Type} [Inhabited α] (l:List α) (k:Nat) (h:k<l.length):aj l k=l[k]:=by simp [aj,h]
theorem ahj (l:List aB) (k:Nat) (p:aB):(l.set k p).eraseIdx k=l.eraseIdx k:=by
 simp [List.eraseIdx_set_eq]
theorem ajK {c:bF} {p:aB} (h:p.phase=3):qK c p=c:=by
 have h1:lX p=0:=by unfold lX;rw[if_pos h]
 have h2:iW p=0:=by unfold iW;rw[if_pos h]
 unfold qK;rw[h1,h2];split<;>simp
theorem aiQ (c:bF) (o:aB):(qK c o).pos=c.pos:=by unfold qK;split<;>rfl
theorem akd (c:bF) (o:aB):(qW c o).pos=c.pos:=by unfold qW;split<;>rfl
theorem abS {s:ay} (hR:iL s) (hr:gG s) (m:Nat) (hm:m<s.orders.length) (k:Nat) (hk:k<s.cells.length) (ha:atZ s.symbols s.orders[m]=(k:Int)) {p:aB} {what q:Int} (hp:aiV s.orders[m] p what q) (hq:what=3->1<=q):
 okC (qK (qW s.cells[k] s.orders[m]) p)/\(what=3->okC ⟨if s.orders[m].side=1 then s.cells[k].pos+q else s.cells[k].pos - q,(qK (qW s.cells[k] s.orders[m]) p).buy,(qK (qW s.cells[k] s.orders[m]) p).sell,(qK (qW s.cells[k] s.orders[m]) p).opn⟩):=by
 have h0:=aff hR hr m hm k hk ha
 have h1:=hR.ok s.cells[k] (List.getElem_mem _)
 have ho:=(hR.fine.ords _ (List.getElem_mem hm)).1
 have hs:=ho.1.2.2.2.1
 have hro:=hr.orders.1 _ (List.getElem_mem hm)
 have b1:=EK hp.ord hp.rng
 have b2:=EN hp.ord
 have b3:=hp.opn
 have b4:=hp.worth
 have b5:=hp.side
 rw[Hg]at h0 h1
 by_cases e:s.orders[m].side=2
 ·have ea:qK (qW s.cells[k] s.orders[m]) p=⟨s.cells[k].pos,s.cells[k].buy,s.cells[k].sell - lX s.orders[m]+lX p,s.cells[k].opn - iW s.orders[m]+iW p⟩:=by
   unfold qK qW;rw[b5,if_pos e,if_pos e]
  have es:qW s.cells[k] s.orders[m]=⟨s.cells[k].pos,s.cells[k].buy,s.cells[k].sell - lX s.orders[m],s.cells[k].opn - iW s.orders[m]⟩:=by unfold qW;rw[if_pos e]
  rw[ea,if_neg (by omega)]
  rw[es]at h0
  refine⟨?_,fun h3=> ?_⟩
  ·rw[Hg];unfold inI at *; simp only at *; split at b3<;>omega
  ·rw[if_pos h3]at b3
   have:=hq h3
   rw[Hg];unfold inI at *; simp only at *; omega
 ·have ea:qK (qW s.cells[k] s.orders[m]) p=⟨s.cells[k].pos,s.cells[k].buy - lX s.orders[m]+lX p,s.cells[k].sell,s.cells[k].opn - iW s.orders[m]+iW p⟩:=by
   unfold qK qW;rw[b5,if_neg e,if_neg e]
  have es:qW s.cells[k] s.orders[m]=⟨s.cells[k].pos,s.cells[k].buy - lX s.orders[m],s.cells[k].sell,s.cells[k].opn - iW s.orders[m]⟩:=by unfold qW;rw[if_neg e]
  rw[ea,if_pos (by omega)]
  rw[es]at h0
  refine⟨?_,fun h3=> ?_⟩
  ·rw[Hg];unfold inI at *; simp only at *; split at b3<;>omega
  ·rw[if_pos h3]at b3
   have:=hq h3
   rw[Hg];unfold inI at *; simp only at *; omega
theorem ac4 {s:ay} (hR:iL s) (m:Nat) (hm:m<s.orders.length) (k:Nat) (hk:k<s.cells.length) (ha:atZ s.symbols s.orders[m]=(k:Int)) {p:aB} (hp:atZ s.symbols p=(k:Int)):
 eY s (if p.phase=3 then s.orders.eraseIdx m else s.orders.set m p)=s.cells.set k (qK (qW s.cells[k] s.orders[m]) p):=by
 split
 ·rename_i h;rw[am4 hR m hm k hk ha,ajK h]
 ·exact aj8 hR m hm p k hk ha hp
theorem Xe {s:ay} (hR:iL s) (r:iq) (m:Nat) (hm:m<s.orders.length) (k:Nat) (hk:k<s.cells.length) (ha:atZ s.symbols s.orders[m]=(k:Int)) {p:aB} (hp:atZ s.symbols p=(k:Int)):
 evS s r m p=⟨s.accounts,s.symbols,if p.phase=3 then s.orders.eraseIdx m else s.orders.set m p,
  s.cells.set k (if r.what=3 then ⟨if s.orders[m].side=1 then s.cells[k].pos+r.qty else s.cells[k].pos - r.qty,(qK (qW s.cells[k] s.orders[m]) p).buy,(qK (qW s.cells[k] s.orders[m]) p).sell,(qK (qW s.cells[k] s.orders[m]) p).opn⟩else qK (qW s.cells[k] s.orders[m]) p),
  s.limits,s.caps,s.kill,s.last,r.seq,s.lsn+1⟩:=by
 unfold evS
 rw[yx _ m hm,TP]
 have hmk:∀s':ay,s'.symbols=s.symbols->s'.cells=(if r.what=3 then ahS s s.orders[m] r.qty else s.cells)->eY s' (if p.phase=3 then s.orders.eraseIdx m else s.orders.set m p)=
  s.cells.set k (if r.what=3 then ⟨if s.orders[m].side=1 then s.cells[k].pos+r.qty else s.cells[k].pos - r.qty,(qK (qW s.cells[k] s.orders[m]) p).buy,(qK (qW s.cells[k] s.orders[m]) p).sell,(qK (qW s.cells[k] s.orders[m]) p).opn⟩else qK (qW s.cells[k] s.orders[m]) p):=by
  intro s' h1 h2
  by_cases h3:r.what=3
  ·rw[if_pos h3]at h2 ⊢
   unfold ahS at h2
   rw[ha,bC _ k hk,Og]at h2
   exact adB h1 hk h2 (ac4 hR m hm k hk ha hp)
  ·rw[if_neg h3]at h2 ⊢
   have:eY s' (if p.phase=3 then s.orders.eraseIdx m else s.orders.set m p)=eY s (if p.phase=3 then s.orders.eraseIdx m else s.orders.set m p):=by
    unfold eY;rw[h1,h2]
   rw[this,ac4 hR m hm k hk ha hp]
 exact congrArg (fun c=>ay.mk s.accounts s.symbols (if p.phase=3 then s.orders.eraseIdx m else s.orders.set m p) c s.limits s.caps s.kill s.last r.seq (s.lsn+1)) (hmk ⟨s.accounts,s.symbols,s.orders,if r.what=3 then ahS s s.orders[m] r.qty else s.cells,s.limits,s.caps,s.kill,s.last,r.seq,s.lsn+1⟩ rfl rfl)
theorem NW {s:ay} {r:iq} (hr:gG s) (hrr:lm r) (hl:s.orders.length<999999) (hl2:s.limits.length<999999) (hl3:s.caps.length<999999):um s r=some (doS s r):=by
 obtain⟨b1,e1,q1⟩:=qJ r
 obtain⟨b2,e2,q2⟩:=AU s hr hl hl2 hl3
 have bad:¬SV s r->doS s r=(s,1):=fun h=>by unfold doS;rw[if_pos h]
 by_cases hA:s.lsn<1000000000/\qQ r/\iL s
 case neg=>
  have hno:¬SV s r:=fun h=>hA ⟨h.2.2.1,h.2.1,h.1⟩
  rw[bad hno]
  refine Wq.eq ?_
  unfold um
  rw[nG hr.lsn (by decide),ah,pV]
  refine Wq.mono (Q:=fun y1=>y1=true->(inI (s.lsn+1)/\s.lsn<1000000000/\qQ r)) ?_ fun y1 h1=> ?_
  ·rw[fP]
   refine⟨fun h=> ?_,fun h=>(ai _).2 (by simp)⟩
   rw[e1,ai]
   intro hb
   simp only[aW,bK,dn,dF,aY,aZ,dA,dB,bP,dJ,bn,bg,dM,dN]at h
   by_cases hin:inI (s.lsn+1)
   ·exact⟨hin,by omega,q1.1 hb⟩
   ·rw[if_neg hin]at h;simp at h
  rw[pV]
  refine Wq.mono (Q:=fun y2=>y2=true->(y1=true/\iL s)) ?_ fun y2 h2=> ?_
  ·rw[fP]
   refine⟨fun h=> ?_,fun h=>(ai _).2 (by simp)⟩
   rw[e2,ai]
   intro hb
   simp only[aW,bK,dn,dF,aY,aZ,dA,dB,bP,dJ,bn,bg,dM,dN]at h
   exact⟨by simpa using h.2,q2.1 hb⟩
  rw[fP]
  refine⟨fun _=>(ai _).2 rfl,fun h=> ?_⟩
  simp only[aW,bK,dn,dF,aY,aZ,dA,dB,bP,dJ,bn,bg,dM,dN]at h
  have g2:=h2 h.2
  have g1:=h1 g2.1
  exact absurd ⟨g1.2.1,g1.2.2,g2.2⟩ hA
 obtain⟨hlsn,hrec,hR⟩:=hA
 obtain rfl:=q1.2 hrec
 obtain rfl:=q2.2 hR
 have hs:=hR.sized
 obtain⟨lc,ll,lcp,lo⟩:=hs.lens
 have hl0:=hR.fine.lsn
 have hq0:=hR.fine.seq
 have h1a:=hs.1;have h1b:=hs.2.1
 have good:r.account<s.accounts->r.symbol<s.symbols->(r.kind=1->s.last<r.order)->SV s r:=fun a b c=>⟨hR,hrec,hlsn,a,b,c⟩
 have hwr:wr .i64 (ax s.lsn 1)=s.lsn+1:=amx hl0.1 hlsn
 have hall:∀o∈s.orders,uy o/\iC o:=fun o h=>⟨(hR.fine.ords o h).1,hr.orders.1 o h⟩
 unfold um
 rw[nG hr.lsn (by decide),ah,if_pos (c:=inI (s.lsn+1)) ⟨by omega,by omega⟩]
 simp only[o7,aJ,iw,KO (show ¬(1000000000:Int)<=s.lsn by omega),bf,aX,aU,e1,e2,ah,acu (l:=s.orders) (by omega),afc (l:=s.cells) (by omega),aez (l:=s.limits) (by omega),adn (l:=s.caps) (by omega),hwr]
 have eta:(ay.mk s.accounts s.symbols s.orders s.cells s.limits s.caps s.kill s.last s.seq s.lsn)=s:=rfl
 simp only[eta]
 by_cases k1:r.kind=1
 ·rw[aA (by rw[bn];exact k1),Ze hrec k1,ah]
  by_cases c1:r.order<=s.last
  ·rw[bad fun h=>by have:=h.2.2.2.2.2 k1;omega]
   simp only[jo c1,aX]
  by_cases c2:s.accounts<=r.account
  ·rw[bad fun h=>by have:=h.2.2.2.1;omega]
   simp only[KO c1,jo c2,aX,aU]
  by_cases c3:s.symbols<=r.symbol
  ·rw[bad fun h=>by have:=h.2.2.2.2.1;omega]
   simp only[KO c1,KO c2,jo c3,aX,aU]
  simp only[KO c1,KO c2,KO c3,aU]
  have hm:=good (by omega) (by omega) fun _=>by omega
  unfold doS
  rw[if_neg (fun h:¬SV s r=>h hm),if_pos k1]
  by_cases hk:s.kill=true
  ·rw[if_pos hk,aA hk]
  rw[if_neg hk,cZ (by simpa using hk),fA]
  by_cases h64:s.orders.length=64
  ·rw[if_pos (show len s.orders=64 by simp only[len];omega),if_pos h64]
  rw[if_neg (show ¬len s.orders=64 by simp only[len];omega),if_neg h64]
  obtain⟨ho,ho2⟩:=ZQ hrec k1
  have hro:=ZK hrr
  have hrec':=hrec
  unfold qQ at hrec'
  have hra:0<=r.account/\0<=r.symbol:=by omega
  obtain⟨k,g1,g2,g3⟩:=LW hs r.account r.symbol hra.1 (by omega) hra.2 (by omega)
  have hat:atZ s.symbols (jT r)=(k:Int):=g2.symm
  have hmk:=amD hR (jT r) k g3 hat
  rw[show bG s (jT r).account (jT r).symbol=some (k:Int)from g1,ah,aA (inb _ k g3),bC _ k g3,Ho (hR.ok _ (List.getElem_mem _)) ho hro,ah]
  have hcells:eY s (cu s.orders [jT r])=s.cells.set k (qK s.cells[k] (jT r)):=hmk
  by_cases hok:okC (qK s.cells[k] (jT r))
  ·rw[if_pos hok]
   simp only[o7,aJ,aU]
   rw[aA (jo (by simp [len,cu];omega)),Og,<-hcells]
   have ht:sW ⟨s.accounts,s.symbols,cu s.orders [jT r],eY s (cu s.orders [jT r]),s.limits,s.caps,s.kill,(jT r).id,s.seq,s.lsn⟩:=yh hs rfl rfl (kX _ _) rfl rfl (by simp [cu];omega)
   obtain⟨e,he,hq⟩:=alZ (a:=r.account) (y:=r.symbol) hR ht rfl rfl rfl rfl hra.1 (by omega) hra.2 (by omega) g2 g3 hcells hok
   rw[show dU _ s (jT r).account (jT r).symbol=some e from he,ah]
   exact hq
  ·rw[if_neg hok]
   simp only[Ar,bf,aX]
   rw[agx (t:=⟨s.accounts,s.symbols,cu s.orders [jT r],eY s (cu s.orders [jT r]),s.limits,s.caps,s.kill,r.order,s.seq,s.lsn⟩) hR rfl rfl hra.1 (by omega) hra.2 (by omega) g2 g3 hcells hok]
 rw[cZ (by rw[bg];exact k1)]
 by_cases k2:r.kind=2
 ·rw[aA (by rw[bn];exact k2),Dp s r.order (by omega),ah]
  have hrec':=hrec
  unfold qQ at hrec'
  have hra:r.account=0/\r.symbol=0/\1<=r.qty/\1<=r.price:=by omega
  have hm:=good (by omega) (by omega) fun h=>absurd h k1
  unfold doS
  rw[if_neg (fun h:¬SV s r=>h hm),if_neg k1,if_pos k2]
  cases hf:yg s.orders r.order with
  |none=>
   rw[QA hf,aA (by decide)]
  |some m=>
   rw[F6 hf,cZ (by rw[bg];omega)]
   obtain⟨hm1,hm2⟩:=nO hf
   simp only[aA (inb _ m hm1),bC _ m hm1,yx _ m hm1]
   obtain⟨ho,hro⟩:=hall s.orders[m] (List.getElem_mem _)
   obtain⟨ch,ce,cq1,cq2⟩:=XI ho hro hra.2.2.1 hra.2.2.2
   rw[ce,ah]
   by_cases hch:xA s.orders[m]
   case neg=>
    rw[if_pos hch,aA (by rw[aY,bg];exact cq2 hch)]
   rw[if_neg (fun h:¬xA s.orders[m]=>h hch)]
   obtain rfl:=cq1 hch
   simp only[o7,aJ,aU]
   by_cases hk:s.kill=true
   ·rw[if_pos hk,aA hk]
   rw[if_neg hk,cZ (by simpa using hk)]
   obtain⟨k,g1,g2,g3⟩:=abe hs (hR.fine.ords _ (List.getElem_mem hm1))
   have hpo:=Xp ho hch hra.2.2.1 hra.2.2.2
   have hpr:=Yf hro hch hrr.qty hrr.price
   have hat:atZ s.symbols (sN s.orders[m] r.qty r.price)=(k:Int):=g2
   have hsub:=aff hR hr m hm1 k g3 g2
   have hcells:eY s (bT s.orders m (sN s.orders[m] r.qty r.price))=s.cells.set k (qK (qW s.cells[k] s.orders[m]) (sN s.orders[m] r.qty r.price)):=aj8 hR m hm1 _ k g3 g2 hat
   rw[g1,ah,aA (inb _ k g3),bC _ k g3,ZJ (hR.ok _ (List.getElem_mem _)) ho hro hsub,ah,Ho hsub hpo hpr,ah]
   have hoa:=(hR.fine.ords _ (List.getElem_mem hm1))
   have hob:=ho.1
   by_cases hok:okC (qK (qW s.cells[k] s.orders[m]) (sN s.orders[m] r.qty r.price))
   ·rw[if_pos hok]
    simp only[o7,aJ,aU]
    rw[Og s.cells,Og s.orders,<-TP s.orders,<-hcells]
    have ht:sW (aad s (bT s.orders m (sN s.orders[m] r.qty r.price))):=yh hs rfl rfl (kX _ _) rfl rfl (by show(bT _ _ _).length<=64;rw[xY];omega)
    obtain⟨e,he,hq⟩:=alZ (a:=s.orders[m].account) (y:=s.orders[m].symbol) hR ht rfl rfl rfl rfl hob.2.1.1 hoa.2.2.1 hob.2.2.1.1 hoa.2.2.2 g2.symm g3 hcells hok
    have he':dU ⟨s.accounts,s.symbols,bT s.orders m (sN s.orders[m] r.qty r.price),eY s (bT s.orders m (sN s.orders[m] r.qty r.price)),s.limits,s.caps,s.kill,s.last,s.seq,s.lsn⟩ s s.orders[m].account s.orders[m].symbol=some e:=he
    rw[he',ah]
    exact hq
   ·rw[if_neg hok]
    simp only[Ar,bf,aX]
    rw[agx (t:=aad s (bT s.orders m (sN s.orders[m] r.qty r.price))) hR rfl rfl hob.2.1.1 hoa.2.2.1 hob.2.2.1.1 hoa.2.2.2 g2.symm g3 hcells hok]
 rw[cZ (by rw[bg];exact k2)]
 by_cases k3:r.kind=3
 ·rw[aA (by rw[bn];exact k3),Dp s r.order (by omega),ah]
  have hrec':=hrec
  unfold qQ at hrec'
  have hra:r.account=0/\r.symbol=0:=by omega
  have hm:=good (by omega) (by omega) fun h=>absurd h k1
  unfold doS
  rw[if_neg (fun h:¬SV s r=>h hm),if_neg k1,if_neg k2,if_pos k3]
  cases hf:yg s.orders r.order with
  |none=>
   rw[QA hf,aA (by decide)]
  |some m=>
   rw[F6 hf,cZ (by rw[bg];omega)]
   obtain⟨hm1,hm2⟩:=nO hf
   have hoi:=hR.fine.ords _ (List.getElem_mem hm1)
   simp only[aA (inb _ m hm1),bC _ m hm1,yx _ m hm1]
   rw[adR hoi.1 hoi.2.1,ah]
   by_cases ha:s.orders[m].asked=true
   ·rw[if_pos ha,if_pos ha];rfl
   ·rw[if_neg ha,if_neg ha,Og];rfl
 rw[cZ (by rw[bg];exact k3)]
 by_cases k4:r.kind=4
 ·rw[aA (by rw[bn];exact k4)]
  have hrec':=hrec
  unfold qQ at hrec'
  by_cases c2:s.accounts<=r.account
  ·rw[bad fun h=>by have:=h.2.2.2.1;omega]
   simp only[jo c2,aX]
  by_cases c3:s.symbols<=r.symbol
  ·rw[bad fun h=>by have:=h.2.2.2.2.1;omega]
   simp only[KO c2,jo c3,aX,aU]
  simp only[KO c2,KO c3,aU]
  have hm:=good (by omega) (by omega) fun h=>absurd h k1
  unfold doS
  rw[if_neg (fun h:¬SV s r=>h hm),if_neg k1,if_neg k2,if_neg k3,if_pos k4,fA]
  by_cases hy:r.symbol= -1
  ·rw[if_pos hy,if_pos hy,aA (DW (jo (by omega)) (Dn (by simp only[len];omega)))]
  ·rw[if_neg hy,if_neg hy]
   obtain⟨k,g1,g2,g3⟩:=LW hs r.account r.symbol (by omega) (by omega) (by omega) (by omega)
   have g4:k<s.limits.length:=by omega
   rw[g1,ah,aA (inb _ k g4),g2]
 rw[cZ (by rw[bg];exact k4)]
 by_cases k5:r.kind=5
 ·rw[aA (by rw[bn];exact k5)]
  have hrec':=hrec
  unfold qQ at hrec'
  have hra:r.account=0/\r.symbol=0:=by omega
  have hm:=good (by omega) (by omega) fun h=>absurd h k1
  unfold doS
  rw[if_neg (fun h:¬SV s r=>h hm),if_neg k1,if_neg k2,if_neg k3,if_neg k4,if_pos k5]
 rw[cZ (by rw[bg];exact k5)]
 have hrec':=hrec
 unfold qQ at hrec'
 have hra:r.account=0/\r.symbol=0:=by omega
 have hm:=good (by omega) (by omega) fun h=>absurd h k1
 unfold doS
 rw[if_neg (fun h:¬SV s r=>h hm),if_neg k1,if_neg k2,if_neg k3,if_neg k4,if_neg k5]
 have hws:wr .i64 (ax s.seq 1)=s.seq+1:=by unfold ax;exact bM (by omega) (by omega)
 rw[hws,fD,fA]
 by_cases c1:r.seq=s.seq+1
 case neg=>
  rw[if_neg c1,if_pos c1]
 rw[if_pos c1,if_neg (fun h:r.seq≠s.seq+1=>h c1),Dp _ r.order (by show s.orders.length<_;omega),ah]
 show cnd (ieq (LZ s.orders r.order) (-1)) _ _=_
 cases hf:yg s.orders r.order with
 |none=>
  rw[QA hf,aA (by decide)]
 |some m=>
  rw[F6 hf,cZ (by rw[bg];omega)]
  obtain⟨hm1,hm2⟩:=nO hf
  simp only[aA (inb _ m hm1),bC _ m hm1,yx _ m hm1]
  obtain⟨ho,hro⟩:=hall s.orders[m] (List.getElem_mem _)
  have hnote:qQ (jk ⟨r.seq,r.what,r.order,r.qty,r.price⟩):=by
   have k6:r.kind=6:=by omega
   refine .inr (.inr (.inr (.inr (.inr ⟨rfl,?_⟩))))
   rcases hrec with h | h | h | h | h | h
   ·omega
   ·omega
   ·omega
   ·omega
   ·omega
   ·exact⟨h.2.1,rfl,rfl,rfl,rfl,rfl,rfl,rfl,h.2.2.2.2.2.2.2.2.2⟩
  rw[abH ho hro hnote hm2.symm hrr.qty]
  cases ht:PU s.orders[m] r.what r.qty r.price with
  |none=>
   simp only[ah]
   rw[aA (by decide)]
  |some p=>
   simp only[ah,o7,aJ,aU]
   have hq3:r.what=3->1<=r.qty:=fun h=>by omega
   have hp:=afq ho hro ht hq3 (fun h=>by omega) hrr.qty hrr.price
   obtain⟨k,g1,g2,g3⟩:=abe hs (hR.fine.ords _ (List.getElem_mem hm1))
   have hat:atZ s.symbols p=(k:Int):=by unfold atZ;rw[hp.account,hp.symbol];exact g2
   have hsub:=aff hR hr m hm1 k g3 g2
   obtain⟨hev1,hev2⟩:=abS hR hr m hm1 k g3 g2 hp hq3
   rw[show bG (ay.mk s.accounts s.symbols s.orders s.cells s.limits s.caps s.kill s.last r.seq s.lsn) s.orders[m].account s.orders[m].symbol=some (k:Int)from g1,ah,aA (inb _ k g3),bC _ k g3,
    ZJ (hR.ok _ (List.getElem_mem _)) ho hro hsub,ah]
   simp only[Og,aiC]
   have gk:∀c:bF,aj (s.cells.set k c) (itn (k:Int))=c:=fun c=>by rw[bC _ k (by simpa using g3),List.getElem_set_self]
   rw[gk,Ho hsub hp.ord hp.rng,if_pos hev1,ah,gk,Xe hR r m hm1 k g3 g2 hat]
   have hdel:=ajA (l:=s.orders.set m p) (i:=m) (by simpa using hm1) (by simp;omega)
   rw[ahj]at hdel
   simp only[hdel,ah,fA]
   by_cases h3:r.what=3
   ·rw[if_pos h3,if_pos h3]
    have hside:=ho.1.2.2.2.1
    have e1:(qK (qW s.cells[k] s.orders[m]) p).pos=s.cells[k].pos:=by rw[aiQ,akd]
    have hn:=hev2 h3
    rw[<-e1]at hn
    rw[afa hev1 hside (by have:=hq3 h3;omega) hrr.qty hn,ah,e1]
    split<;>rfl
   ·rw[if_neg h3,if_neg h3]
    split<;>rfl
theorem mk_pos (s:ay) (l:List aB) (j:Nat) (h:j<(eY s l).length):(eY s l)[j].pos=(s.cells[j]'(by simpa [eY] using h)).pos:=by
 rw[qB]
 have:=Y1 s.symbols j l
 simp only[nS];omega
theorem agd {s t:ay} (h1:t.symbols=s.symbols) {l:List aB} (h2:t.cells=eY s l):t.cells=eY t l:=by
 have e0:eY t l=(eY s l).mapIdx fun i c=>nS ⟨c.pos,0,0,0⟩ (nP s.symbols i l):=by unfold eY;rw[h1,h2];rfl
 rw[e0,h2]
 refine List.ext_getElem (by simp) fun j g1 g2=> ?_
 rw[List.getElem_mapIdx,mk_pos,qB]
theorem alD {l:List aB} {o:aB} (h:JC l) (ho:∀x∈l,x.id<o.id):JC (l++[o]):=by
 unfold JC at*
 rw[List.pairwise_append]
 refine⟨h,by simp,fun a ha b hb=> ?_⟩
 rw[List.mem_singleton]at hb
 subst hb
 exact ho a ha
theorem abY {l:List aB} {m:Nat} (hm:m<l.length) {p:aB} (h:JC l) (hp:p.id=l[m].id):JC (l.set m p):=by
 unfold JC at*
 rw[List.pairwise_iff_getElem]at*
 intro i j hi hj hij
 have hi':i<l.length:=by simpa using hi
 have hj':j<l.length:=by simpa using hj
 have h0:=h i j hi' hj' hij
 rw[List.getElem_set,List.getElem_set]
 split
 ·rename_i e;subst e
  rw[if_neg (by omega),hp];exact h0
 ·split
  ·rename_i e;subst e
   rw[hp];exact h0
  ·exact h0
theorem agY {l:List aB} (m:Nat) (h:JC l):JC (l.eraseIdx m):=List.Pairwise.sublist (List.eraseIdx_sublist _ _) h
theorem aiI {l m:List bF} (hl:l.length=m.length) (h:∀(i:Nat) (h1:i<l.length) (h2:i<m.length),l[i].opn<=m[i].opn):pW l<=pW m:=by
 induction l generalizing m with
 |nil=>cases m with
  |nil=>exact Int.le_refl _
  |cons a r=>simp at hl
 |cons a l ih=>cases m with
  |nil=>simp at hl
  |cons b m=>
   have h0:=h 0 (by simp) (by simp)
   have:=ih (m:=m) (by simpa using hl) fun i h1 h2=>by
    have:=h (i+1) (by simp;omega) (by simp;omega)
    simpa using this
   unfold pW at*
   simp only[List.map_cons,List.sum_cons,List.getElem_cons_zero]at*
   omega
theorem ak9 {n:Int} {cs ds:List bF} (hl:cs.length=ds.length) (h:∀(i:Nat) (h1:i<cs.length) (h2:i<ds.length),cs[i].opn<=ds[i].opn) (a:Int):pW (rG n cs a)<=pW (rG n ds a):=by
 unfold rG
 refine aiI (by simp [hl]) fun i h1 h2=> ?_
 rw[List.getElem_take,List.getElem_take,List.getElem_drop,List.getElem_drop]
 exact h _ _ _
theorem amE {cs:List bF} {k:Nat} {c:bF} (hk:k<cs.length) (hc:c.opn<=cs[k].opn) (i:Nat) (h1:i<(cs.set k c).length) (h2:i<cs.length):(cs.set k c)[i].opn<=cs[i].opn:=by
 rw[List.getElem_set]
 split
 ·rename_i e;subst e;exact hc
 ·exact Int.le_refl _
theorem ajb {s:ay} (hR:iL s) {r:iq} (h:s.last<r.order):∀x∈s.orders,x.id<(jT r).id:=fun x hx=>by
 have:=hR.fine.ids x hx
 show x.id<r.order;omega
theorem lG {α:Type} {l:List α} {m:Nat} {p x:α} (h:x∈l.set m p):x∈l\/x=p:=List.mem_or_eq_of_mem_set h
theorem ZP {s t:ay} (hR:iL s) (h1:t.accounts=s.accounts) (h2:t.symbols=s.symbols) (hl:t.limits=s.limits) (hc:t.caps=s.caps) (hq:t.seq=s.seq) (hls:t.lsn=s.lsn) (hlsn:s.lsn<1000000000)
 (ht:t.cells=eY s t.orders) (ho:∀o∈t.orders,ED s o) (has:JC t.orders) (hid:∀o∈t.orders,o.id<=t.last) (hla:0<=t.last/\t.last<=1000000000000) (hlen:t.orders.length<=64) (a y:Int):
 iL (OL s t a y).1:=by
 unfold OL
 split
 ·exact hR
 ·rename_i hf
  have hf:acR t:=Classical.not_not.1 hf
  split
  ·exact hR
  ·have hcl:t.cells.length=s.cells.length:=by rw[ht,kX]
   have hz:=hR.fine
   refine⟨yh hR.sized h1 h2 hcl (by rw[hl]) (by rw[hc]) hlen,⟨fun o h=> ?_,has,hid,hla,by rw[hq];exact hz.seq,?_,by rw[hl];exact hz.lims,by rw[hc];exact hz.caps⟩,?_,hf.1,hf.2⟩
   ·obtain⟨g1,g2,g3,g4⟩:=ho o h
    exact⟨g1,g2,by show o.account<t.accounts;omega,by show o.symbol<t.symbols;omega⟩
   ·have:=hz.lsn
    show 0<=t.lsn+1/\t.lsn+1<=1000000000
    omega
   ·have:=agd h2 ht
    exact this
theorem aae {s:ay} {r:iq} (hR:iL s) (hr:gG s) (hrr:lm r):iL (doS s r).1:=by
 unfold doS
 split
 ·exact hR
 rename_i hm
 have hm:SV s r:=Classical.not_not.1 hm
 obtain⟨_,hrec,hlsn,hacc,hsym,hord⟩:=hm
 have hz:=hR.fine
 have hs:=hR.sized
 obtain⟨lc,ll,lcp,lo⟩:=hs.lens
 have hl0:=hz.lsn
 have hrec':=hrec
 unfold qQ sS at hrec'
 split
 ·rename_i k1
  split
  ·exact hR
  split
  ·exact hR
  ·rename_i h64
   obtain⟨g1,g2⟩:=ZQ hrec k1
   refine ZP (t:=⟨s.accounts,s.symbols,cu s.orders [jT r],eY s (cu s.orders [jT r]),s.limits,s.caps,s.kill,r.order,s.seq,s.lsn⟩) hR rfl rfl rfl rfl rfl rfl hlsn rfl (fun o h=> ?_) (alD hz.asc (ajb hR (hord k1))) (fun o h=> ?_) (by show 0<=r.order/\r.order<=_;omega) (by show(s.orders++[_]).length<=64;simp;omega) _ _
   ·rcases List.mem_append.1 h with h | h
    ·exact hz.ords o h
    ·rw[List.mem_singleton]at h
     subst h
     exact⟨g1,by simp [jT],hacc,hsym⟩
   ·rcases List.mem_append.1 h with h | h
    ·have:=ajb hR (hord k1) o h
     show o.id<=r.order
     exact Int.le_of_lt this
    ·rw[List.mem_singleton]at h
     subst h;exact Int.le_refl _
 split
 ·rename_i k1 k2
  split
  ·exact hR
  rename_i m hf
  obtain⟨hm1,hm2⟩:=nO hf
  simp only[yx _ m hm1]
  split
  ·exact hR
  rename_i hch
  have hch:xA s.orders[m]:=Classical.not_not.1 hch
  split
  ·exact hR
  have hoi:=hz.ords _ (List.getElem_mem hm1)
  have hpo:=Xp (q:=r.qty) (p:=r.price) hoi.1 hch (by omega) (by omega)
  refine ZP (t:=aad s (bT s.orders m (sN s.orders[m] r.qty r.price))) hR rfl rfl rfl rfl rfl rfl hlsn rfl (fun o h=> ?_) (abY hm1 hz.asc rfl) (fun o h=> ?_) hz.last (by show(s.orders.set _ _).length<=64;simp;omega) _ _
  ·rcases lG h with h | rfl
   ·exact hz.ords o h
   ·exact⟨hpo,by show s.orders[m].phase≠3;exact hoi.2.1,hoi.2.2.1,hoi.2.2.2⟩
  ·rcases lG h with h | rfl
   ·exact hz.ids o h
   ·exact hz.ids s.orders[m] (List.getElem_mem hm1)
 split
 ·rename_i k1 k2 k3
  split
  ·exact hR
  rename_i m hf
  obtain⟨hm1,hm2⟩:=nO hf
  simp only[yx _ m hm1]
  split
  ·exact hR
  have hoi:=hz.ords _ (List.getElem_mem hm1)
  refine⟨yh hs rfl rfl rfl rfl rfl (by show(s.orders.set _ _).length<=64;simp;omega),⟨fun o h=> ?_,abY hm1 hz.asc rfl,fun o h=> ?_,hz.last,hz.seq,⟨by show 0<=s.lsn+1;omega,by show s.lsn+1<=_;omega⟩,hz.lims,hz.caps⟩,?_,hR.ok,hR.acct⟩
  ·rcases lG h with h | rfl
   ·exact hz.ords o h
   ·exact⟨hoi.1,hoi.2.1,hoi.2.2.1,hoi.2.2.2⟩
  ·rcases lG h with h | rfl
   ·exact hz.ids o h
   ·exact hz.ids s.orders[m] (List.getElem_mem hm1)
  ·have e:∀j:Nat,nP s.symbols j (s.orders.set m (akh s.orders[m]))=nP s.symbols j s.orders:=fun j=>by
    rw[YJ _ _ _ _ hm1,Gf _ _ _ _ hm1];rfl
   refine hR.cells.trans ?_
   unfold eY
   simp only[TP,e]
 split
 ·rename_i k1 k2 k3 k4
  split
  ·rename_i hy
   refine⟨yh hs rfl rfl rfl rfl (xY _ _ _) lo,⟨hz.ords,hz.asc,hz.ids,hz.last,hz.seq,⟨by show 0<=s.lsn+1;omega,by show s.lsn+1<=_;omega⟩,hz.lims,fun x hx=> ?_⟩,hR.cells,hR.ok,hR.acct⟩
   rcases lG hx with h | rfl
   ·exact hz.caps x h
   ·omega
  ·rename_i hy
   refine⟨yh hs rfl rfl rfl (xY _ _ _) rfl lo,⟨hz.ords,hz.asc,hz.ids,hz.last,hz.seq,⟨by show 0<=s.lsn+1;omega,by show s.lsn+1<=_;omega⟩,fun x hx=> ?_,hz.caps⟩,hR.cells,hR.ok,hR.acct⟩
   rcases lG hx with h | rfl
   ·exact hz.lims x h
   ·unfold Zu;simp only;omega
 split
 ·exact⟨yh hs rfl rfl rfl rfl rfl lo,⟨hz.ords,hz.asc,hz.ids,hz.last,hz.seq,⟨by show 0<=s.lsn+1;omega,by show s.lsn+1<=_;omega⟩,hz.lims,hz.caps⟩,hR.cells,hR.ok,hR.acct⟩
 split
 ·exact hR
 rename_i k1 k2 k3 k4 k5 hseq
 have hseq:r.seq=s.seq+1:=Classical.not_not.1 hseq
 have hrs:0<=r.seq/\r.seq<=1000000000:=by omega
 split
 ·exact⟨yh hs rfl rfl rfl rfl rfl lo,⟨hz.ords,hz.asc,hz.ids,hz.last,hrs,⟨by show 0<=s.lsn+1;omega,by show s.lsn+1<=_;omega⟩,hz.lims,hz.caps⟩,hR.cells,hR.ok,hR.acct⟩
 rename_i m hf
 obtain⟨hm1,hm2⟩:=nO hf
 simp only[yx _ m hm1]
 split
 ·exact⟨yh hs rfl rfl rfl rfl rfl lo,⟨hz.ords,hz.asc,hz.ids,hz.last,hrs,⟨by show 0<=s.lsn+1;omega,by show s.lsn+1<=_;omega⟩,hz.lims,hz.caps⟩,hR.cells,hR.ok,hR.acct⟩
 rename_i p ht
 have hoi:=hz.ords _ (List.getElem_mem hm1)
 have hro:=hr.orders.1 _ (List.getElem_mem hm1)
 have hq3:r.what=3->1<=r.qty:=fun h=>by omega
 have hp:=afq hoi.1 hro ht hq3 (fun h=>by omega) hrr.qty hrr.price
 obtain⟨k,g1,g2,g3⟩:=abe hs hoi
 have hat:atZ s.symbols p=(k:Int):=by unfold atZ;rw[hp.account,hp.symbol];exact g2
 obtain⟨hev1,hev2⟩:=abS hR hr m hm1 k g3 g2 hp hq3
 have hcells:(evS s r m p).cells=eY (evS s r m p) (evS s r m p).orders:=agd (s:=⟨s.accounts,s.symbols,s.orders,if r.what=3 then ahS s (aj s.orders m) r.qty else s.cells,s.limits,s.caps,s.kill,s.last,r.seq,s.lsn+1⟩) (t:=evS s r m p) rfl (l:=(evS s r m p).orders) rfl
 have hst:=Xe hR r m hm1 k g3 g2 hat
 refine⟨?_,?_,hcells,?_,?_⟩
 ·rw[hst]
  refine yh hs rfl rfl (by simp) rfl rfl ?_
  show(if p.phase=3 then s.orders.eraseIdx m else s.orders.set m p).length<=64
  split
  ·have:=List.length_eraseIdx_le s.orders m;omega
  ·simp;omega
 ·rw[hst]
  have hmem:∀o∈(if p.phase=3 then s.orders.eraseIdx m else s.orders.set m p),o∈s.orders\/(o=p/\p.phase≠3):=fun o ho=>by
   split at ho
   ·exact .inl (List.mem_of_mem_eraseIdx ho)
   ·rename_i h3
    rcases lG ho with h | rfl
    ·exact .inl h
    ·exact .inr ⟨rfl,h3⟩
  refine⟨fun o ho=> ?_,?_,fun o ho=> ?_,hz.last,hrs,⟨by show 0<=s.lsn+1;omega,by show s.lsn+1<=_;omega⟩,hz.lims,hz.caps⟩
  ·rcases hmem o ho with h | ⟨rfl,h3⟩
   ·exact hz.ords o h
   ·exact⟨hp.ord,h3,by show o.account<s.accounts;rw[hp.account];exact hoi.2.2.1,by show o.symbol<s.symbols;rw[hp.symbol];exact hoi.2.2.2⟩
  ·show JC (if p.phase=3 then s.orders.eraseIdx m else s.orders.set m p)
   split
   ·exact agY m hz.asc
   ·exact abY hm1 hz.asc hp.id
  ·rcases hmem o ho with h | ⟨rfl,_⟩
   ·exact hz.ids o h
   ·show o.id<=s.last
    rw[hp.id];exact hz.ids _ (List.getElem_mem hm1)
 ·rw[hst]
  intro c hc
  rcases lG hc with h | rfl
  ·exact hR.ok c h
  ·split
   ·rename_i h3;exact hev2 h3
   ·exact hev1
 ·rw[hst]
  intro a h1 h2
  refine Int.le_trans (ak9 (by simp) (fun i g4 g5=>amE g3 ?_ i g4 g5) a) (hR.acct a h1 h2)
  have hw:=hp.worth
  have e:(qK (qW s.cells[k] s.orders[m]) p).opn<=s.cells[k].opn:=by
   have e1:(qK (qW s.cells[k] s.orders[m]) p).opn=s.cells[k].opn - iW s.orders[m]+iW p:=by unfold qK qW;split<;>split<;>rfl
   omega
  split
  ·exact e
  ·exact e
theorem Ws {α:Type} {p:α->Prop} {l:List α} (h:okL p l) {k:Nat} {x:α} (hx:p x):okL p (l.set k x):=⟨fun y hy=>by
 rcases List.mem_or_eq_of_mem_set hy with h1 | rfl
 ·exact h.1 y h1
 ·exact hx,by have:=h.2;simpa using this⟩
structure DoQ (s:ay) (r:iq) (t:ay) (e:Int):Prop where
 bad:e≠0->t=s
 good:e=0->SV s r/\t.lsn=s.lsn+1/\(t.seq=if r.kind=6 then s.seq+1 else s.seq)/\(t.last=if r.kind=1 then r.order else s.last)/\t.accounts=s.accounts/\t.symbols=s.symbols/\t.cells.length=s.cells.length/\t.limits.length=s.limits.length/\t.caps.length=s.caps.length/\t.orders.length<=64/\
  (r.kind≠4->t.limits=s.limits/\t.caps=s.caps)/\(r.kind≠5->t.kill=s.kill)/\(r.kind=6->r.seq=s.seq+1)
 rng:gG s->lm r->gG t
theorem Ac {s:ay} {r:iq} {e:Int} (he:e≠0):DoQ s r s e:=⟨fun _=>rfl,fun h=>absurd h he,fun h _=>h⟩
theorem alS {s t:ay} {r:iq} {a y:Int} (hm:SV s r) (h6:r.kind≠6) (h1:t.accounts=s.accounts) (h2:t.symbols=s.symbols) (h3:t.limits=s.limits) (h4:t.caps=s.caps) (h5:t.seq=s.seq) (h7:t.lsn=s.lsn) (h8:t.last=if r.kind=1 then r.order else s.last) (h9:t.cells.length=s.cells.length) (h10:t.orders.length<=64) (h11:t.kill=s.kill)
 (hr:gG s->lm r->∀o∈t.orders,iC o):DoQ s r (OL s t a y).1 (OL s t a y).2:=by
 unfold OL
 split
 ·exact Ac (by simp)
 ·rename_i hf
  have hf:acR t:=Classical.not_not.1 hf
  split
  ·exact Ac (by simp)
  ·refine⟨fun h=>absurd rfl h,fun _=>⟨hm,by show t.lsn+1=_;rw[h7],by rw[if_neg h6];exact h5,h8,h1,h2,h9,by rw[h3],by rw[h4],h10,fun _=>⟨h3,h4⟩,fun _=>h11,fun h=>absurd h h6⟩,fun hs hrr=> ?_⟩
   have hR:=hm.1
   have hz:=hR.fine
   have hlsn:=hm.2.2.1
   obtain⟨lc,ll,lcp,lo⟩:=hR.sized.lens
   have b3:=hz.lsn
   refine⟨by rw[h1];exact hs.accounts,by rw[h2];exact hs.symbols,⟨hr hs hrr,by show t.orders.length<=_;omega⟩,⟨fun c hc=>(hf.1 c hc).1,by show t.cells.length<=_;omega⟩,by rw[h3];exact hs.limits,by rw[h4];exact hs.caps,?_,by rw[h5];exact hs.seq,⟨by show _<=t.lsn+1;omega,by show t.lsn+1<=_;omega⟩⟩
   show inI t.last
   rw[h8];split
   ·exact hrr.order
   ·exact hs.last
theorem O5 (s:ay) (r:iq):DoQ s r (doS s r).1 (doS s r).2:=by
 unfold doS
 split
 ·exact Ac (by simp)
 rename_i hm
 have hm:SV s r:=Classical.not_not.1 hm
 obtain⟨hR,hrec,hlsn,hacc,hsym,hord⟩:=id hm
 have hz:=hR.fine
 have hs:=hR.sized
 obtain⟨lc,ll,lcp,lo⟩:=hs.lens
 have hl0:=hz.lsn
 have hls:gG s->inI (s.lsn+1):=fun _=>⟨by omega,by omega⟩
 have hrec':=hrec
 unfold qQ sS at hrec'
 split
 ·rename_i k1
  split
  ·exact Ac (by simp)
  split
  ·exact Ac (by simp)
  ·rename_i h64
   refine alS (t:=⟨s.accounts,s.symbols,cu s.orders [jT r],eY s (cu s.orders [jT r]),s.limits,s.caps,s.kill,r.order,s.seq,s.lsn⟩) hm (by omega) rfl rfl rfl rfl rfl rfl (by rw[if_pos k1]) (kX _ _) (by show(s.orders++[_]).length<=64;simp;omega) rfl fun hs hrr o h=> ?_
   rcases List.mem_append.1 h with h | h
   ·exact hs.orders.1 o h
   ·rw[List.mem_singleton]at h
    subst h
    exact ZK hrr
 split
 ·rename_i k1 k2
  split
  ·exact Ac (by simp)
  rename_i m hf
  obtain⟨hm1,hm2⟩:=nO hf
  simp only[yx _ m hm1]
  split
  ·exact Ac (by simp)
  rename_i hch
  have hch:xA s.orders[m]:=Classical.not_not.1 hch
  split
  ·exact Ac (by simp)
  refine alS (t:=aad s (bT s.orders m (sN s.orders[m] r.qty r.price))) hm (by omega) rfl rfl rfl rfl rfl rfl (by rw[if_neg k1];rfl) (kX _ _) (by show(s.orders.set _ _).length<=64;simp;omega) rfl fun hs hrr o h=> ?_
  rcases lG h with h | rfl
  ·exact hs.orders.1 o h
  ·exact Yf (hs.orders.1 _ (List.getElem_mem hm1)) hch hrr.qty hrr.price
 split
 ·rename_i k1 k2 k3
  split
  ·exact Ac (by simp)
  rename_i m hf
  obtain⟨hm1,hm2⟩:=nO hf
  simp only[yx _ m hm1]
  split
  ·exact Ac (by simp)
  exact⟨fun h=>absurd rfl h,fun _=>⟨hm,rfl,by rw[if_neg (by omega)],by rw[if_neg k1],rfl,rfl,rfl,rfl,rfl,by show(s.orders.set _ _).length<=64;simp;omega,fun _=>⟨rfl,rfl⟩,fun _=>rfl,fun h=>by omega⟩,
   fun h hrr=>⟨h.accounts,h.symbols,Ws h.orders (als (h.orders.1 _ (List.getElem_mem hm1))),h.cells,h.limits,h.caps,h.last,h.seq,hls h⟩⟩
 split
 ·rename_i k1 k2 k3 k4
  split
  ·exact⟨fun h=>absurd rfl h,fun _=>⟨hm,rfl,by rw[if_neg (by omega)],by rw[if_neg k1],rfl,rfl,rfl,rfl,xY _ _ _,lo,fun h=>absurd k4 h,fun _=>rfl,fun h=>by omega⟩,
    fun h hrr=>⟨h.accounts,h.symbols,h.orders,h.cells,h.limits,Ws h.caps hrr.opn,h.last,h.seq,hls h⟩⟩
  ·exact⟨fun h=>absurd rfl h,fun _=>⟨hm,rfl,by rw[if_neg (by omega)],by rw[if_neg k1],rfl,rfl,rfl,xY _ _ _,rfl,lo,fun h=>absurd k4 h,fun _=>rfl,fun h=>by omega⟩,
    fun h hrr=>⟨h.accounts,h.symbols,h.orders,h.cells,Ws h.limits ⟨hrr.long,hrr.short,hrr.opn⟩,h.caps,h.last,h.seq,hls h⟩⟩
 split
 ·rename_i k1 k2 k3 k4 k5
  exact⟨fun h=>absurd rfl h,fun _=>⟨hm,rfl,by rw[if_neg (by omega)],by rw[if_neg k1],rfl,rfl,rfl,rfl,rfl,lo,fun _=>⟨rfl,rfl⟩,fun h=>absurd k5 h,fun h=>by omega⟩,
   fun h hrr=>⟨h.accounts,h.symbols,h.orders,h.cells,h.limits,h.caps,h.last,h.seq,hls h⟩⟩
 split
 ·exact Ac (by simp)
 rename_i k1 k2 k3 k4 k5 hseq
 have hseq:r.seq=s.seq+1:=Classical.not_not.1 hseq
 have k6:r.kind=6:=by omega
 have ev:DoQ s r ⟨s.accounts,s.symbols,s.orders,s.cells,s.limits,s.caps,s.kill,s.last,r.seq,s.lsn+1⟩ 0:=
  ⟨fun h=>absurd rfl h,fun _=>⟨hm,rfl,by rw[if_pos k6];exact hseq,by rw[if_neg k1],rfl,rfl,rfl,rfl,rfl,lo,fun _=>⟨rfl,rfl⟩,fun _=>rfl,fun _=>hseq⟩,
   fun h hrr=>⟨h.accounts,h.symbols,h.orders,h.cells,h.limits,h.caps,h.last,hrr.seq,hls h⟩⟩
 split
 ·exact ev
 rename_i m hf
 obtain⟨hm1,hm2⟩:=nO hf
 simp only[yx _ m hm1]
 split
 ·exact ev
 rename_i p ht
 have hoi:=hz.ords _ (List.getElem_mem hm1)
 have hlen:(if p.phase=3 then s.orders.eraseIdx m else bT s.orders m p).length<=64:=by
  split
  ·have:=List.length_eraseIdx_le s.orders m;omega
  ·rw[xY];omega
 refine⟨fun h=>absurd rfl h,fun _=>⟨hm,rfl,by rw[if_pos k6];exact hseq,by rw[if_neg k1];rfl,rfl,rfl,?_,rfl,rfl,hlen,fun _=>⟨rfl,rfl⟩,fun _=>rfl,fun _=>hseq⟩,fun h hrr=> ?_⟩
 ·show(eY _ _).length=_
  rw[kX]
  show(if r.what=3 then ahS s (aj s.orders m) r.qty else s.cells).length=_
  split
  ·exact xY _ _ _
  ·rfl
 ·have hro:=h.orders.1 _ (List.getElem_mem hm1)
  have hq3:r.what=3->1<=r.qty:=fun h=>by omega
  have hp:=afq hoi.1 hro ht hq3 (fun h=>by omega) hrr.qty hrr.price
  obtain⟨k,g1,g2,g3⟩:=abe hs hoi
  have hat:atZ s.symbols p=(k:Int):=by unfold atZ;rw[hp.account,hp.symbol];exact g2
  obtain⟨hev1,hev2⟩:=abS hR h m hm1 k g3 g2 hp hq3
  rw[Xe hR r m hm1 k g3 g2 hat]
  refine⟨h.accounts,h.symbols,⟨fun o ho=> ?_,?_⟩,Ws h.cells ?_,h.limits,h.caps,h.last,hrr.seq,hls h⟩
  ·show Nv o
   have ho:o∈(if p.phase=3 then s.orders.eraseIdx m else s.orders.set m p):=ho
   split at ho
   ·exact h.orders.1 o (List.mem_of_mem_eraseIdx ho)
   ·rcases lG ho with h1 | rfl
    ·exact h.orders.1 o h1
    ·exact hp.rng
  ·show(if p.phase=3 then s.orders.eraseIdx m else s.orders.set m p).length<=_
   rw[TP]at hlen
   omega
  ·show G6 _
   split
   ·rename_i h3;exact(hev2 h3).1
   ·exact hev1.1
theorem U4 {α:Type} {l m:List α} (hlen:l.length=m.length) (hn:l.length<999999) {step:Int×Bool->Option ((Int×Bool) ⊕ (Bool ⊕ Bool))}
 (hstep:∀(i:Nat) (h:i<l.length) (h2:i<m.length) (q:Bool),Wq (step ((i:Int),q)) fun r=>(l[i]=m[i]->r= .inl (((i+1:Nat):Int),q))/\(l[i]≠m[i]->r= .inr (.inl false)))
 (hend:∀q,step ((l.length:Int),q)=some (.inr (.inr q))) (q:Bool):Wq (bV step LF (0,q)) fun w=>match w with | .inl b=>b=false/\l≠m | .inr b=>l=m:=by
 refine lD (n:=l.length) hn (fun i _=>∀(j:Nat) (h:j<l.length) (h2:j<m.length),j<i->l[j]=m[j]) _ (fun i x hi hx=> ?_) (fun x hx=> ?_) _ 0 (Nat.zero_le _) (fun j _ _ h=>by omega)
 ·have hi2:i<m.length:=by omega
  refine(hstep i hi hi2 x).mono fun r hr=> ?_
  by_cases e:l[i]=m[i]
  ·rw[hr.1 e]
   refine⟨rfl,fun j h h2 hj=> ?_⟩
   by_cases ej:j=i
   ·subst ej;exact e
   ·exact hx j h h2 (by omega)
  ·rw[hr.2 e]
   refine⟨rfl,fun h=>e ?_⟩
   subst h;rfl
 ·rw[hend x]
  exact(ai _).2 (List.ext_getElem hlen fun j h h2=>hx j h h2 h)
theorem alJ {α β:Type} (l:List α) (m:List β):(len l=len m)↔l.length=m.length:=by unfold len;omega
theorem ahR (a b:aB):(a.id=b.id/\a.account=b.account/\a.symbol=b.symbol/\a.side=b.side/\a.qty=b.qty/\a.price=b.price/\a.filled=b.filled/\a.phase=b.phase/\a.newQty=b.newQty/\a.newPrice=b.newPrice/\a.version=b.version/\a.asked=b.asked)↔a=b:=by
 cases a;cases b;simp
theorem ah7 (a b:bF):(a.pos=b.pos/\a.buy=b.buy/\a.sell=b.sell/\a.opn=b.opn)↔a=b:=by
 cases a;cases b;simp
theorem ajz (a b:jK):(a.long=b.long/\a.short=b.short/\a.opn=b.opn)↔a=b:=by
 cases a;cases b;simp
theorem ahE (a b:ay):(a.accounts=b.accounts/\a.symbols=b.symbols/\a.kill=b.kill/\a.last=b.last/\a.seq=b.seq/\a.lsn=b.lsn/\a.orders=b.orders/\a.cells=b.cells/\a.limits=b.limits/\a.caps=b.caps)↔a=b:=by
 cases a;cases b;simp;grind
def l9 (s:ay):Prop:=s.orders.length<999999/\s.cells.length<999999/\s.limits.length<999999/\s.caps.length<999999
theorem ani {a b:ay} (ha:l9 a):Wq (qZ a b) fun r=>r=true↔a=b:=by
 obtain⟨h1,h2,h3,h4⟩:=ha
 unfold qZ
 rw[fP]
 have hx:=ahE a b
 refine⟨fun h=>(ai _).2 ⟨fun h=>(by cases h),fun h2=> ?_⟩,fun h=> ?_⟩
 ·subst h2
  simp only[aW,bK,dn,dF,aY,aZ,dA,dB,bP,dJ,bn,bg,dM,dN]at h
  simp at h
 ·simp only[aW,bK,dn,dF,aY,aZ,dA,dB,bP,dJ,bn,bg,dM,dN,alJ]at h
  obtain⟨⟨⟨⟨⟨⟨⟨⟨⟨a1,a2⟩,a3⟩,a4⟩,a5⟩,a6⟩,a7⟩,a8⟩,a9⟩,a10⟩:=h
  have e1:a=b↔a.orders=b.orders/\a.cells=b.cells/\a.limits=b.limits/\a.caps=b.caps:=by
   rw[<-hx];exact⟨fun h=>⟨h.2.2.2.2.2.2.1,h.2.2.2.2.2.2.2.1,h.2.2.2.2.2.2.2.2.1,h.2.2.2.2.2.2.2.2.2⟩,fun h=>⟨a1,a2,a3,a4,a5,a6,h⟩⟩
  rw[e1]
  refine Wq.bind (U4 (l:=a.orders) (m:=b.orders) a7 h1 (step:=fun v:Int×Bool=>lH b a v.1 v.2) (fun i h hh q=> ?_) (fun q=> ?_) _) fun w hw=> ?_
  ·simp only[lH]
   rw[aA (by rw[eX];simpa using h),aA (inb _ i h),aA (inb _ i hh),bC _ i h,bC _ i hh,fP,ai,ai,aY,aZ,dG (by omega)]
   have:=ahR a.orders[i] b.orders[i]
   simp only[aW,bK,dn,dF,aY,aZ,dA,dB,bP,dJ,bn,bg,dM,dN]at*
   exact⟨fun h=>⟨fun e=>(by have:=this.2 e;grind),fun _=>trivial⟩,fun h=>⟨fun _=>trivial,fun e=>absurd (this.1 h) e⟩⟩
  ·simp only[lH]
   rw[cZ (by rw[show((a.orders.length:Nat):Int)=len a.orders from rfl];simp [ilt])]
  cases w with
  |inl w=>obtain⟨rfl,h⟩:=hw;simp only[gX,ai];simp [h]
  |inr w=>
  simp only[gX,hw,true_and]
  refine Wq.bind (U4 (l:=a.cells) (m:=b.cells) a8 h2 (step:=fun v:Int×Bool=>kV b a v.1 v.2) (fun i h hh q=> ?_) (fun q=> ?_) _) fun w hw=> ?_
  ·simp only[kV]
   rw[aA (by rw[eX];simpa using h),aA (inb _ i h),aA (inb _ i hh),bC _ i h,bC _ i hh,fP,ai,ai,aY,aZ,dG (by omega)]
   have:=ah7 a.cells[i] b.cells[i]
   simp only[aW,bK,dn,dF,aY,aZ,dA,dB,bP,dJ,bn,bg,dM,dN]at*
   exact⟨fun h=>⟨fun e=>(by have:=this.2 e;grind),fun _=>trivial⟩,fun h=>⟨fun _=>trivial,fun e=>absurd (this.1 h) e⟩⟩
  ·simp only[kV]
   rw[cZ (by rw[show((a.cells.length:Nat):Int)=len a.cells from rfl];simp [ilt])]
  cases w with
  |inl w=>obtain⟨rfl,h⟩:=hw;simp only[gX,ai];simp [h]
  |inr w=>
  simp only[gX,hw,true_and]
  refine Wq.bind (U4 (l:=a.limits) (m:=b.limits) a9 h3 (step:=fun v:Int×Bool=>kP b a v.1 v.2) (fun i h hh q=> ?_) (fun q=> ?_) _) fun w hw=> ?_
  ·simp only[kP]
   rw[aA (by rw[eX];simpa using h),aA (inb _ i h),aA (inb _ i hh),bC _ i h,bC _ i hh,fP,ai,ai,aY,aZ,dG (by omega)]
   have:=ajz a.limits[i] b.limits[i]
   simp only[aW,bK,dn,dF,aY,aZ,dA,dB,bP,dJ,bn,bg,dM,dN]at*
   exact⟨fun h=>⟨fun e=>(by have:=this.2 e;grind),fun _=>trivial⟩,fun h=>⟨fun _=>trivial,fun e=>absurd (this.1 h) e⟩⟩
  ·simp only[kP]
   rw[cZ (by rw[show((a.limits.length:Nat):Int)=len a.limits from rfl];simp [ilt])]
  cases w with
  |inl w=>obtain⟨rfl,h⟩:=hw;simp only[gX,ai];simp [h]
  |inr w=>
  simp only[gX,hw,true_and]
  refine Wq.bind (U4 (l:=a.caps) (m:=b.caps) a10 h4 (step:=fun v:Int×Bool=>kZ b a v.1 v.2) (fun i h hh q=> ?_) (fun q=> ?_) _) fun w hw=> ?_
  ·simp only[kZ]
   rw[aA (by rw[eX];simpa using h),aA (inb _ i h),aA (inb _ i hh),bC _ i h,bC _ i hh,fP,ai,ai,aY,aZ,dG (by omega)]
   simp only[aW,bK,dn,dF,aY,aZ,dA,dB,bP,dJ,bn,bg,dM,dN]at*
   exact⟨fun h=>⟨fun e=>absurd e h,fun _=>trivial⟩,fun h=>⟨fun _=>trivial,fun e=>absurd h e⟩⟩
  ·simp only[kZ]
   rw[cZ (by rw[show((a.caps.length:Nat):Int)=len a.caps from rfl];simp [ilt])]
  cases w with
  |inl w=>obtain⟨rfl,h⟩:=hw;simp only[gX,ai];simp [h]
  |inr w=>simp only[gX,hw,ai]
theorem akC (s:ay):Wq (qH s) fun b=>b=true->l9 s:=by
 unfold qH l9
 simp only[ai,aW,bK,dn,dF,aY,aZ,dA,dB,bP,dJ,bn,bg,dM,dN,len]
 omega
theorem UL {s:ay} (h:l9 s) (r:iq):l9 (doS s r).1:=by
 have q:=O5 s r
 by_cases e:(doS s r).2=0
 ·obtain⟨_,_,_,_,_,_,h1,h2,h3,h4,_⟩:=q.good e
  unfold l9 at *; omega
 ·rw[q.bad e];exact h
theorem agO {l:List aB} (h:JC l) {o:aB} (ho:o∈l):∃k:Nat,∃hk:k<l.length,yg l o.id=some k/\l[k]=o:=by
 cases hf:yg l o.id with
 |none=>exact absurd rfl (afx hf o ho)
 |some k=>
  obtain⟨hk,h1⟩:=nO hf
  obtain⟨j,hj,rfl⟩:=List.getElem_of_mem ho
  have:k=j:=h.find hk hj h1
  subst this
  exact⟨k,hk,rfl,rfl⟩
theorem adv {α β:Type} (l:List α) {i:Nat} (h:i<l.length) (x y z:β):cnd (ilt (i:Int) (len l)) (cnd (band (ile 0 (i:Int)) (ilt (i:Int) (len l))) x y) z=x:=by
 rw[aA (b:=ilt _ _) (Dn (by unfold len;omega)),aA (inb l i h)]
theorem XK {α β:Type} (l:List α) (x y:β):cnd (ilt (l.length:Int) (len l)) x y=y:=cZ (Bz (by unfold len;omega))
def mG (n:Int):Nat->List Int
 |0=>[]
 |k+1=>(n / 256^k%256)::mG n k
theorem pq (n:Int):∀k,(mG n k).length=k
 |0=>rfl
 |k+1=>by rw[mG,List.length_cons,pq n k]
def jq (l:List Int):Prop:=∀x∈l,0<=x/\x<=255
theorem mO (n:Int):∀k,jq (mG n k)
 |0=>by intro x hx;cases hx
 |k+1=>by
  intro x hx
  rcases List.mem_cons.1 hx with rfl | hx
  ·have h1:=Int.emod_nonneg (n / 256^k) (b:=256) (by decide)
   have h2:=Int.emod_lt_of_pos (n / 256^k) (b:=256) (by decide)
   omega
  ·exact mO n k x hx
theorem jq.app {a b:List Int} (h:jq a) (k:jq b):jq (a++b):=fun x hx=>by
 rcases List.mem_append.1 hx with h1 | h1
 ·exact h x h1
 ·exact k x h1
theorem jq.drop {l:List Int} (h:jq l) (n:Nat):jq (l.drop n):=fun x hx=>h x (List.mem_of_mem_drop hx)
theorem jq.take {l:List Int} (h:jq l) (n:Nat):jq (l.take n):=fun x hx=>h x (List.mem_of_mem_take hx)
theorem jq.get {l:List Int} (h:jq l) {i:Nat} (hi:i<l.length):0<=l[i]/\l[i]<=255:=h _ (List.getElem_mem hi)
theorem CB {α:Type} {f:α->List Int} {l:List α} (h:∀x∈l,jq (f x)):jq (l.flatMap f):=fun x hx=>by
 obtain⟨y,h1,h2⟩:=List.mem_flatMap.1 hx
 exact h y h1 x h2
theorem agq (n:Int):wr .u8 n=n%256:=by
 unfold wr IntKind.wrap
 simp [IntKind.bits,IntKind.signed]
theorem ajD (n:Int):wr .u32 n=n%4294967296:=by
 unfold wr IntKind.wrap
 simp [IntKind.bits,IntKind.signed]
theorem aj7 {W X:Type} {step:Int×X->Option ((Int×X) ⊕ W)} {n:Nat} (hn:n<999999) (J:Nat->X->Prop) (R:W->Prop)
 (h:∀i x,i<n->J (i+1) x->Wq (step ((i:Int),x)) fun r=>match r with | .inl (k,x')=>k=(i:Int) - 1/\J i x' | .inr w=>R w)
 (he:∀x,J 0 x->Wq (step (-1,x)) fun r=>match r with | .inl _=>False | .inr w=>R w)
 (x:X) (hx:J n x):Wq (bV step LF ((n:Int) - 1,x)) R:=by
 refine Xt (fun v:Int×X=>(v.1+1).toNat) (fun v:Int×X=>∃i:Nat,v.1=(i:Int) - 1/\i<=n/\J i v.2) R ?_ LF _ (acL (by simp only;omega)) ⟨n,rfl,Nat.le_refl _,hx⟩
 rintro⟨k,y⟩ ⟨i,rfl,hi,hj⟩
 cases i with
 |zero=>
  refine(he y hj).mono fun r hr=> ?_
  match r,hr with
  |.inl _,hr=>exact hr.elim
  |.inr w,hr=>exact hr
 |succ i=>
  have e:((i+1:Nat):Int) - 1=(i:Int):=by omega
  rw[e]
  refine(h i y (by omega) hj).mono fun r hr=> ?_
  match r,hr with
  |.inl (k,x'),hr=>
   obtain⟨rfl,h2⟩:=hr
   exact⟨⟨i,rfl,by omega,h2⟩,by simp only;omega⟩
  |.inr w,hr=>exact hr
theorem abN {i:Nat} (h:i<1000000):wr .i64 (aI (i:Int) 1)=(i:Int) - 1:=by
 unfold aI
 exact KP ⟨by omega,by omega⟩
theorem byte_of {n:Int} {i:Nat} (hi:i<8):ile 0 (wr .i64 (fK 8 (i:Int)))=true/\wr .u8 (bJ .i64 n (wr .i64 (fK 8 (i:Int))))=n / 256^i%256:=by
 have h1:wr .i64 (fK 8 (i:Int))=((8*i:Nat):Int):=by
  unfold fK
  rw[bM (by omega) (by omega)];omega
 have h2:min (((8*i:Nat):Int).toNat) (IntKind.bits .i64)=8*i:=by
  simp only[IntKind.bits,Int.toNat_natCast];omega
 rw[h1]
 refine⟨jo (by omega),?_⟩
 unfold bJ
 rw[h2,Int.pow_mul,agq,Int.fdiv_eq_ediv_of_nonneg _ (Int.le_of_lt (Int.pow_pos (by decide)))]
 rfl
theorem TR {α:Type} {l:List α} {n:Nat} (h:l.length<=n) (hn:n<68719476736):ile (len l) 68719476736=true:=jo (by unfold len;omega)
theorem abP (n:Int) (k:Nat) (a:List Int):(a++mG n k).length=a.length+k:=by rw[List.length_append,pq]
theorem s_put {n:Int} {acc:List Int} (k:Nat) (hk:k<=8) (hl:acc.length<1000000):bV (fun v:Int×List Int=>pF n v.1 v.2) LF ((k:Int) - 1,acc)=some (acc++mG n k):=by
 refine Wq.eq (aj7 (n:=k) (by omega) (fun i x=>x++mG n i=acc++mG n k/\x.length+i=acc.length+k) _ (fun i x hi hj=> ?_) (fun x hj=> ?_) acc ⟨rfl,rfl⟩)
 ·obtain⟨h1,h2⟩:=byte_of (n:=n) (i:=i) (by omega)
  simp only
  unfold pF
  rw[h2,aA (jo (by omega)),aA h1,aA (TR (n:=1000100) (by simp only[cu,List.length_append,List.length_cons,List.length_nil];omega) (by decide)),ai]
  refine⟨abN (by omega),?_,?_⟩
  ·rw[<-hj.1]
   show(x++[_])++mG n i=x++(_::mG n i)
   rw[List.append_assoc];rfl
  ·simp only[cu,List.length_append,List.length_cons,List.length_nil];omega
 ·simp only
  unfold pF
  rw[cZ (KO (by omega)),ai]
  have:=hj.1
  simpa [mG] using this
theorem ZM {acc:List Int} (k:Nat) (h0:0<k) (hk:k<=8) {l:List Int} (hl:acc.length+8*l.length<1000000):qO acc (k:Int) l=some (acc++l.flatMap fun n=>mG n k):=by
 have hn:l.length<999999:=by omega
 refine Wq.eq ?_
 unfold qO
 refine Wq.bind (Q:=fun y=>y=acc++l.flatMap fun n=>mG n k) ?_ fun y hy=>(ai _).2 hy
 refine lD hn (fun i x=>x=acc++(l.take i).flatMap (fun n=>mG n k)/\x.length=acc.length+k*i) _ (fun i x hi hj=> ?_) (fun x hj=> ?_) acc 0 (Nat.zero_le _) ⟨by simp,by simp⟩
 ·simp only
  unfold xH
  have hki:k*i<=8*i:=Nat.mul_le_mul_right _ hk
  rw[adv l hi,bC l i hi]
  have e:wr .i64 (aI (k:Int) 1)=(k:Int) - 1:=abN (by omega)
  rw[e,s_put k hk (by omega),ah,ai]
  refine⟨dG (by omega),?_,?_⟩
  ·rw[List.take_succ_eq_append_getElem hi,List.flatMap_append,hj.1]
   simp
  ·rw[abP,hj.2,Nat.mul_add];omega
 ·simp only
  unfold xH
  rw[XK,ai,hj.1,List.take_length]
theorem aem {acc:List Int} (k:Nat) (h0:0<k) (hk:k<=8) {l:List Int} (hl:acc.length+8*l.length<1000000):kJ acc (k:Int) l=some (acc++l.flatMap fun n=>mG n k):=ZM k h0 hk hl
def unZ (l:List Int):Int:=l.foldl (fun n b=>n*256+b) 0
theorem am5 (n c:Int):wr .i64 (wr .i64 n*256+c)=wr .i64 (n*256+c):=by
 unfold wr IntKind.wrap
 simp [IntKind.bits,IntKind.signed]
 omega
theorem aiY (n:Int):wr .i64 (n%18446744073709551616)=wr .i64 n:=by
 unfold wr IntKind.wrap
 simp [IntKind.bits,IntKind.signed]
theorem ags (a c:Int) (h1:0<=c) (h2:c<=255):wr .i64 (ior .i64 (wr .i64 (oN .i64 a 8)) (wr .i64 c))=wr .i64 (a*256+c):=by
 have e1:oN .i64 a 8=a*256:=rfl
 have e2:wr .i64 c=c:=bM h1 (by omega)
 rw[e1,e2,<-aiY (a*256+c)]
 congr 1
 unfold ior
 rw[BitVec.toNat_or,BitVec.toNat_ofInt,BitVec.toNat_ofInt]
 have e3:((2^IntKind.bits .i64:Nat):Int)=18446744073709551616:=by decide
 rw[e3]
 have e4:wr .i64 (a*256)%18446744073709551616=((a%72057594037927936).toNat*256:Nat):=by
  have:wr .i64 (a*256)%18446744073709551616=a*256%18446744073709551616:=by
   unfold wr IntKind.wrap
   simp [IntKind.bits,IntKind.signed]
   omega
  rw[this];omega
 have e5:c%18446744073709551616=(c.toNat:Int):=by omega
 rw[e4,e5,Int.toNat_natCast,Int.toNat_natCast]
 have e6:=Nat.shiftLeft_add_eq_or_of_lt (i:=8) (b:=c.toNat) (by omega) (a%72057594037927936).toNat
 rw[Nat.shiftLeft_eq]at e6
 rw[show(a%72057594037927936).toNat*256=(a%72057594037927936).toNat*2^8 from rfl,<-e6]
 omega
theorem ahT (l:List Int) (a:Int):l.foldl (fun n b=>n*256+b) a=a*256^l.length+unZ l:=by
 induction l generalizing a with
 |nil=>simp [unZ]
 |cons b l ih=>
  unfold unZ
  rw[List.foldl_cons,List.foldl_cons,ih,ih (0*256+b),List.length_cons,Int.pow_succ]
  simp only[Int.zero_mul,Int.zero_add,Int.add_mul]
  rw[Int.mul_assoc,Int.mul_comm 256];omega
theorem Y0 (b:Int) (l:List Int):unZ (b::l)=b*256^l.length+unZ l:=by
 have:=ahT l (0*256+b)
 unfold unZ at*
 rw[List.foldl_cons,this];simp
theorem af6:∀ {l:List Int},jq l->0<=unZ l/\unZ l<256^l.length
 |[],_=>by simp [unZ]
 |b::l,h=>by
  obtain⟨h1,h2⟩:=af6 (l:=l) fun x hx=>h x (by simp [hx])
  obtain⟨b1,b2⟩:=h b (by simp)
  rw[Y0,List.length_cons,Int.pow_succ]
  have hp:(0:Int)<256^l.length:=Int.pow_pos (by decide)
  have q1:0<=b*256^l.length:=Int.mul_nonneg b1 (by omega)
  have q2:b*256^l.length<=255*256^l.length:=Int.mul_le_mul_of_nonneg_right b2 (by omega)
  exact⟨by omega,by omega⟩
theorem Yh {m:Int}:∀(k:Nat) (n q:Int),m=n+q*256^k->mG m k=mG n k
 |0,_,_,_=>rfl
 |k+1,n,q,h=>by
  rw[Int.pow_succ]at h
  have hp:(256:Int)^k≠0:=by have:(0:Int)<256^k:=Int.pow_pos (by decide);omega
  have e:m=n+q*256*256^k:=by
   rw[h,<-Int.mul_assoc,Int.mul_assoc q,Int.mul_comm _ 256,<-Int.mul_assoc]
  rw[mG,mG,Yh k n (q*256) e,e,Int.add_mul_ediv_right _ _ hp,Int.mul_comm q 256,Int.add_mul_emod_self_left]
theorem agv:∀ {l:List Int},jq l->mG (unZ l) l.length=l
 |[],_=>rfl
 |b::l,h=>by
  have hl:jq l:=fun x hx=>h x (by simp [hx])
  obtain⟨h1,h2⟩:=af6 hl
  obtain⟨b1,b2⟩:=h b (by simp)
  have hp:(256:Int)^l.length≠0:=by have:(0:Int)<256^l.length:=Int.pow_pos (by decide);omega
  rw[List.length_cons,mG,Yh l.length (unZ l) b (by rw[Y0,Int.add_comm]),agv hl,Y0,Int.add_comm,Int.add_mul_ediv_right _ _ hp,Int.ediv_eq_zero_of_lt h1 h2]
  congr 1
  omega
theorem amr (n:Int):∃q,wr .i64 n=n+q*256^8:=by
 have:(256:Int)^8=18446744073709551616:=by decide
 rw[this]
 unfold wr IntKind.wrap
 simp [IntKind.bits,IntKind.signed]
 exact⟨-((n+9223372036854775808) / 18446744073709551616),by omega⟩
theorem amW (n:Int):mG (wr .i64 n) 8=mG n 8:=by
 obtain⟨q,h⟩:=amr n
 exact Yh 8 n q h
theorem aiZ {l:List Int} (h:jq l) (hl:l.length=8):mG (wr .i64 (unZ l)) 8=l:=by
 rw[amW,<-hl,agv h]
abbrev B32:=BitVec 32
def hB (x:B32):B32:=(x >>> 1) ^^^ (if x.getLsbD 0 then 0xedb88320#32 else 0#32)
def hN:Nat->B32->B32
 |0,x=>x
 |n+1,x=>hN n (hB x)
theorem amn (x y:B32):hB (x ^^^ y)=hB x ^^^ hB y:=by
 unfold hB
 rw[BitVec.ushiftRight_xor_distrib,BitVec.getLsbD_xor]
 cases x.getLsbD 0<;>cases y.getLsbD 0<;>simp [BitVec.xor_assoc]
 ·rw[BitVec.xor_comm (y >>> 1)]
 ·rw[<-BitVec.xor_assoc (3988292384#32),BitVec.xor_comm (3988292384#32) (y >>> 1),BitVec.xor_assoc];simp
theorem ai9:∀(n:Nat) (x y:B32),hN n (x ^^^ y)=hN n x ^^^ hN n y
 |0,_,_=>rfl
 |n+1,x,y=>by rw[hN,hN,hN,amn,ai9 n]
theorem amZ {y:B32} (h:y.getLsbD 31=false):hB (y <<< 1)=y:=by
 unfold hB
 have h0:(y <<< 1).getLsbD 0=false:=by simp
 rw[h0]
 refine BitVec.eq_of_getLsbD_eq fun i hi=> ?_
 simp only[BitVec.getLsbD_xor,BitVec.getLsbD_ushiftRight,BitVec.getLsbD_shiftLeft]
 by_cases h31:i=31
 ·subst h31
  have:y[31]=false:=by simpa using h
  simp [this]
 ·have:1+i<32:=by omega
  simp [this]
theorem ajq:∀(k:Nat) (y:B32),k<=32->(∀j,32 - k<=j->y.getLsbD j=false)->hN k (y <<< k)=y
 |0,y,_,_=>by simp [hN]
 |k+1,y,hk,h=>by
  have e:y <<< (k+1)=(y <<< k) <<< 1:=by rw[BitVec.shiftLeft_add]
  rw[hN,e,amZ,ajq k y (by omega) fun j hj=>h j (by omega)]
  rw[BitVec.getLsbD_shiftLeft,h (31 - k) (by omega)]
  simp
theorem aa1:∀(a b:Nat) (x:B32),hN (a+b) x=hN b (hN a x)
 |0,b,x=>by rw[Nat.zero_add];rfl
 |a+1,b,x=>by rw[Nat.add_right_comm,hN,hN,aa1 a]
theorem ak6 (x:B32):hN 4 (x &&& 15#32) ^^^ (x >>> 4)=hN 4 x:=by
 have hs:=ajq 4 (x >>> 4) (by decide) fun j hj=>by
  rw[BitVec.getLsbD_ushiftRight];exact BitVec.getLsbD_of_ge _ _ (by omega)
 have e:x=(x &&& 15#32) ^^^ ((x >>> 4) <<< 4):=by
  refine BitVec.eq_of_getLsbD_eq fun i hi=> ?_
  simp only[BitVec.getLsbD_xor,BitVec.getLsbD_and,BitVec.getLsbD_shiftLeft,BitVec.getLsbD_ushiftRight]
  by_cases h4:i<4
  ·have h15:(15#32).getLsbD i=true:=by
    have:i=0\/i=1\/i=2\/i=3:=by omega
    rcases this with rfl | rfl | rfl | rfl<;>rfl
   rw[h15]
   simp [h4]
  ·have h15:(15#32).getLsbD i=false:=by
    have:(15#32)=BitVec.ofNat 32 15:=rfl
    rw[this,BitVec.getLsbD_ofNat]
    have:Nat.testBit 15 i=false:=Nat.testBit_lt_two_pow (Nat.lt_of_lt_of_le (by decide:15<2^4) (Nat.pow_le_pow_right (by decide) (by omega)))
    simp [this]
   have:4+(i - 4)=i:=by omega
   rw[h15,this]
   simp [h4,hi]
 conv=>rhs;rw[e,ai9,hs]
def ofB (b:Int):B32:=BitVec.ofInt 32 b
def toI (x:B32):Int:=(x.toNat:Int)
theorem akR (x:B32):0<=toI x/\toI x<4294967296:=by
 have:=x.isLt
 unfold toI
 omega
theorem Wl (x:B32):ofB (toI x)=x:=by
 apply BitVec.eq_of_toNat_eq
 unfold ofB toI
 rw[BitVec.toNat_ofInt]
 have:=x.isLt
 omega
theorem alm {b:Int} (h1:0<=b) (h2:b<4294967296):toI (ofB b)=b:=by
 unfold ofB toI
 rw[BitVec.toNat_ofInt]
 omega
theorem aje (x:B32):wr .u32 (toI x)=toI x:=by
 have:=akR x
 rw[ajD];omega
theorem PV (x y:B32):wr .u32 (gy .u32 (toI x) (toI y))=toI (x ^^^ y):=by
 have:gy .u32 (toI x) (toI y)=toI (x ^^^ y):=by
  show((BitVec.ofInt 32 (toI x) ^^^ BitVec.ofInt 32 (toI y)).toNat:Int)=_
  have h1:=Wl x
  have h2:=Wl y
  unfold ofB at h1 h2
  rw[h1,h2];rfl
 rw[this,aje]
theorem acZ (x y:B32):wr .u32 (ng .u32 (toI x) (toI y))=toI (x &&& y):=by
 have:ng .u32 (toI x) (toI y)=toI (x &&& y):=by
  show((BitVec.ofInt 32 (toI x) &&& BitVec.ofInt 32 (toI y)).toNat:Int)=_
  have h1:=Wl x
  have h2:=Wl y
  unfold ofB at h1 h2
  rw[h1,h2];rfl
 rw[this,aje]
theorem ajl (x:B32) (k:Nat) (hk:k<=32):bJ .u32 (toI x) (k:Int)=toI (x >>> k):=by
 unfold bJ toI
 have:min ((k:Int).toNat) (IntKind.bits .u32)=k:=by simp only[IntKind.bits,Int.toNat_natCast];omega
 rw[this,Int.fdiv_eq_ediv_of_nonneg _ (Int.le_of_lt (Int.pow_pos (by decide))),BitVec.toNat_ushiftRight,Nat.shiftRight_eq_div_pow]
 simp
theorem acY {b:Int} (h1:0<=b) (h2:b<=255):wr .u32 b=toI (ofB b):=by
 rw[alm h1 (by omega),ajD];omega
theorem aon (x:B32):(toI x%2=1)↔x.getLsbD 0=true:=by
 unfold toI
 rw[BitVec.getLsbD,Nat.testBit_zero]
 simp only[decide_eq_true_eq]
 omega
theorem Jv (x:B32):dh (toI x)=some (toI (hN 4 x)):=by
 refine Wq.eq ?_
 unfold dh
 refine Wq.bind (Q:=fun y=>y=toI (hN 4 x)) ?_ fun y hy=>(ai _).2 hy
 refine lD (n:=4) (by decide) (fun i v=>v=toI (hN i x)) _ (fun i v hi hj=> ?_) (fun v hj=> ?_) _ 0 (by decide) rfl
 ·subst hj
  simp only
  unfold CS
  rw[aA (Dn (by omega))]
  have e1:(1:Int)=toI 1#32:=rfl
  have e15:(3988292384:Int)=toI 3988292384#32:=rfl
  have e2:bJ .u32 (toI (hN i x)) 1=toI (hN i x >>> 1):=ajl _ 1 (by decide)
  rw[e2,e15,PV]
  have hb:wr .u32 (ng .u32 (toI (hN i x)) 1)=toI (hN i x &&& 1#32):=by conv=>lhs;rw[e1,acZ]
  rw[hb,aa1 i 1]
  have hl:(ieq (toI (hN i x &&& 1#32)) 1=true)↔(hN i x).getLsbD 0=true:=by
   rw[bn,<-aon]
   unfold toI
   have:(hN i x &&& 1#32).toNat=(hN i x).toNat%2:=by
    rw[BitVec.toNat_and]
    exact Nat.and_two_pow_sub_one_eq_mod _ 1
   rw[this];omega
  cases hc:ieq (toI (hN i x &&& 1#32)) 1 with
  |true=>
   rw[aX,ai]
   refine⟨dG (by omega),?_⟩
   show _=toI (hB (hN i x))
   unfold hB
   rw[if_pos (hl.1 hc)]
  |false=>
   rw[aU,ai]
   refine⟨dG (by omega),?_⟩
   show _=toI (hB (hN i x))
   unfold hB
   rw[if_neg (fun h=>by rw[hl.2 h]at hc;cases hc),BitVec.xor_zero]
 ·subst hj
  simp only
  unfold CS
  rw[cZ (Bz (by omega)),ai]
def ones:B32:=BitVec.allOnes 32
def Zh (n:B32) (l:List Int):B32:=l.foldl (fun n b=>hN 8 (n ^^^ ofB b)) n
def zI (l:List Int):Int:=toI (ones ^^^ Zh ones l)
theorem aiB (n:B32) (a b:List Int):Zh n (a++b)=Zh (Zh n a) b:=List.foldl_append
theorem ZL {l:List Int} (hl:l.length<999999) (hb:jq l):Iz l=some (zI l):=by
 refine Wq.eq ?_
 unfold Iz P5
 have e0:(4294967295:Int)=toI ones:=rfl
 have e00:(0:Int)=toI 0#32:=rfl
 have e15:(15:Int)=toI 15#32:=rfl
 refine Wq.bind (Q:=fun y=>y=zI l) (Wq.bind (Q:=fun y=>y=toI (Zh ones l)) ?_ fun y hy=> ?_) fun y hy=>(ai _).2 hy
 ·have hi0:wr .u32 (gy .u32 4294967295 0)=toI ones:=by
   conv=>lhs;rw[e0,e00,PV]
   simp
  rw[hi0]
  refine lD hl (fun i v=>v=toI (Zh ones (l.take i))) _ (fun i v hi hj=> ?_) (fun v hj=> ?_) _ 0 (Nat.zero_le _) rfl
  ·subst hj
   simp only
   unfold CX
   obtain⟨b1,b2⟩:=hb.get hi
   have e4:∀x:B32,bJ .u32 (toI x) 4=toI (x >>> 4):=fun x=>ajl x 4 (by decide)
   rw[adv l hi,bC l i hi,acY b1 b2,PV,e15,acZ,Jv,ah,e4,PV,ak6,acZ,Jv,ah,e4,PV,ak6,ai]
   refine⟨dG (by omega),?_⟩
   rw[List.take_succ_eq_append_getElem hi,aiB,<-aa1]
   rfl
  ·subst hj
   simp only
   unfold CX
   rw[XK,ai,List.take_length]
 ·subst hy
  rw[ai]
  conv=>lhs;rw[e0,PV]
  rfl
def vW (n:Int):List Int:=[n%256,n / 256%256,n / 65536%256,n / 16777216%256]
theorem Qd (n:Int):jq (vW n):=fun x hx=>by
 unfold vW at hx
 simp only[List.mem_cons,List.not_mem_nil,or_false]at hx
 rcases hx with rfl | rfl | rfl | rfl<;>omega
def alK (b:Bool):Int:=if b then 1 else 0
theorem ZH (b:Bool):Oj b=some (alK b):=by cases b<;>rfl
def p8 (l:List Int):List Int:=l.flatMap fun n=>mG n 8
def p1 (l:List Int):List Int:=l.flatMap fun n=>mG n 1
theorem flat_length {α β:Type} {f:α->List β} {m:Nat} (h:∀x,(f x).length=m):∀l:List α,(l.flatMap f).length=m*l.length
 |[]=>rfl
 |x::l=>by rw[List.flatMap_cons,List.length_append,h,flat_length h l,List.length_cons,Nat.mul_add,Nat.mul_one,Nat.add_comm]
theorem Ku (l:List Int):(p8 l).length=8*l.length:=flat_length (fun x=>pq x 8) l
theorem X3 (l:List Int):(p1 l).length=1*l.length:=flat_length (fun x=>pq x 1) l
theorem Oo (l:List Int):jq (p8 l):=CB fun x _=>mO x 8
theorem aa9 (l:List Int):jq (p1 l):=CB fun x _=>mO x 1
def D8 (o:aB):List Int:=p8 [o.id]++(p1 [o.account,o.symbol,o.side,o.phase]++(p8 [o.qty,o.price,o.filled,o.newQty,o.newPrice,o.version]++p1 [alK o.asked]))
def QW (c:bF):List Int:=p8 [c.pos]
def aeU (l:jK):List Int:=p8 [l.long,l.short,l.opn]
def magic:List Int:=[115,110,97,102]
def headB (s:ay):List Int:=magic++(p1 [s.accounts,s.symbols,alK s.kill,len s.orders]++p8 [s.last,s.seq,s.lsn])
def LY (s:ay):List Int:=headB s++(s.orders.flatMap D8++(s.cells.flatMap QW++(s.limits.flatMap aeU++p8 s.caps)))
def encZ (s:ay):List Int:=LY s++vW (zI (LY s))
theorem Kz (o:aB):(D8 o).length=61:=by simp [D8,Ku,X3]
theorem Uf (c:bF):(QW c).length=8:=by simp [QW,Ku]
theorem adI (c:jK):(aeU c).length=24:=by simp [aeU,Ku]
theorem aaL (s:ay):(headB s).length=32:=by simp [headB,magic,Ku,X3]
theorem aaM (s:ay):(LY s).length=32+61*s.orders.length+8*s.cells.length+24*s.limits.length+8*s.caps.length:=by
 simp only[LY,List.length_append,aaL,flat_length Kz,flat_length Uf,flat_length adI,Ku]
 omega
theorem Yx (s:ay):(encZ s).length=36+61*s.orders.length+8*s.cells.length+24*s.limits.length+8*s.caps.length:=by
 simp only[encZ,List.length_append,aaM,vW,List.length_cons,List.length_nil]
 omega
theorem aeX:jq magic:=fun x hx=>by
 simp only[magic,List.mem_cons,List.not_mem_nil,or_false]at hx
 rcases hx with rfl | rfl | rfl | rfl<;>decide
theorem adq (o:aB):jq (D8 o):=(Oo _).app ((aa9 _).app ((Oo _).app (aa9 _)))
theorem XZ (s:ay):jq (LY s):=
 (aeX.app ((aa9 _).app (Oo _))).app ((CB fun o _=>adq o).app ((CB fun c _=>Oo _).app ((CB fun c _=>Oo _).app (Oo _))))
theorem U2 (s:ay):jq (encZ s):=(XZ s).app (Qd _)
theorem ahQ {acc l:List Int} (h:acc.length+8*l.length<1000000):kJ acc 8 l=some (acc++p8 l):=aem 8 (by decide) (by decide) h
theorem amw {acc l:List Int} (h:acc.length+8*l.length<1000000):qO acc 1 l=some (acc++p1 l):=ZM 1 (by decide) (by decide) h
theorem iL.few {s:ay} (h:iL s):s.orders.length<=64/\s.cells.length<=64/\s.limits.length=s.cells.length/\s.caps.length=s.accounts.toNat/\s.accounts.toNat<=8/\(s.cells.length:Int)=s.accounts*s.symbols/\(1<=s.accounts/\s.accounts<=8)/\(1<=s.symbols/\s.symbols<=8):=by
 obtain⟨h1,h2,h3,h4⟩:=h.sized.lens
 have:=h.sized.1
 exact⟨h4,h1,h2,h3,by omega,h.sized.2.2.1,this,h.sized.2.1⟩
theorem afs {a b n:Int} (ha:1<=a/\a<=8) (hb:1<=b/\b<=8) (hn:0<=n/\n<=255):Ko a b n=some (36+n*61+a*b*32+a*8):=by
 unfold Ko ax fK
 have m:=IV (a:=a) (b:=b) (by omega) (by omega) (by omega) (by omega)
 rw[bM (n:=n*61) (by omega) (by omega),bM (n:=32+n*61) (by omega) (by omega),bM (n:=a*b) (by omega) (by omega),bM (n:=a*b*32) (by omega) (by omega),bM (n:=32+n*61+a*b*32) (by omega) (by omega),bM (n:=a*8) (by omega) (by omega),bM (n:=32+n*61+a*b*32+a*8) (by omega) (by omega),bM (by omega) (by omega)]
 congr 1;omega
theorem ae0 {s:ay} (hr:gG s) (hsh:l9 s) (h:iL s):CJ s=some (len (encZ s)):=by
 refine Wq.eq ?_
 unfold CJ
 refine(AU s hr hsh.1 hsh.2.2.1 hsh.2.2.2).bind fun b hb=> ?_
 obtain⟨f1,f2,f3,f4,f5,f6,f7,f8⟩:=h.few
 rw[hb.2 h,aJ,aU,afs f7 f8 (by unfold len;omega),ah,ai]
 unfold len
 rw[Yx,<-f6]
 omega
theorem YN {s:ay} (hr:gG s) (hsh:l9 s) (h:¬iL s):CJ s=some 0:=by
 refine Wq.eq ?_
 unfold CJ
 refine(AU s hr hsh.1 hsh.2.2.1 hsh.2.2.2).bind fun b hb=> ?_
 have:b=false:=by cases b with
  |false=>rfl
  |true=>exact absurd (hb.1 rfl) h
 subst this
 rw[bf,aX,ai]
theorem LD {n:Int} {i:Nat} (hi:i<4):ile 0 (wr .i64 (fK 8 (i:Int)))=true/\wr .u8 (bJ .u32 n (wr .i64 (fK 8 (i:Int))))=n / 256^i%256:=by
 have h1:wr .i64 (fK 8 (i:Int))=((8*i:Nat):Int):=by
  unfold fK
  rw[bM (by omega) (by omega)];omega
 have h2:min (((8*i:Nat):Int).toNat) (IntKind.bits .u32)=8*i:=by
  simp only[IntKind.bits,Int.toNat_natCast];omega
 rw[h1]
 refine⟨jo (by omega),?_⟩
 unfold bJ
 rw[h2,Int.pow_mul,agq,Int.fdiv_eq_ediv_of_nonneg _ (Int.le_of_lt (Int.pow_pos (by decide)))]
 rfl
theorem ajR (n:Int) {i:Nat} (hi:i<4):(vW n)[i]'(by simpa [vW] using hi)=n / 256^i%256:=by
 have:i=0\/i=1\/i=2\/i=3:=by omega
 rcases this with rfl | rfl | rfl | rfl
 ·have:(256:Int)^0=1:=rfl
  simp only[vW,this,List.getElem_cons_zero];omega
 ·rfl
 ·rfl
 ·rfl
theorem ag7 (n:Int) {i:Nat} (hi:i<4) (acc:List Int):acc++(vW n).take i++[n / 256^i%256]=acc++(vW n).take (i+1):=by
 rw[List.take_succ_eq_append_getElem (by simpa [vW] using hi),ajR n hi,List.append_assoc]
theorem abI {s:ay} (hr:gG s) (hsh:l9 s) (h:iL s):xw s=some (encZ s,0):=by
 refine Wq.eq ?_
 obtain⟨f1,f2,f3,f4,f5,f6,f7,f8⟩:=h.few
 have hel:=Yx s
 unfold xw
 have hz:ieq (len (encZ s)) 0=false:=by rw[bg];unfold len;omega
 have hm:cu (nN Int 0) (s2u [UInt8.ofNat 115,UInt8.ofNat 110,UInt8.ofNat 97,UInt8.ofNat 102])=magic:=by decide
 rw[ae0 hr hsh h,ah,hz,aU,aA (DW (jo (by unfold len;omega)) (jo (by unfold len;omega))),ZH,ah,hm,amw (by simp [magic]),ah,
  ahQ (by simp [magic,X3]),ah]
 have hhead:magic++p1 [s.accounts,s.symbols,alK s.kill,len s.orders]++p8 [s.last,s.seq,s.lsn]=headB s:=by rw[headB,List.append_assoc]
 rw[hhead]
 have hl0:=aaL s
 refine Wq.bind (Q:=fun y=>y=headB s++s.orders.flatMap D8) ?_ fun y hy=> ?_
 ·refine lD (n:=s.orders.length) (by omega) (fun i x=>x=headB s++(s.orders.take i).flatMap D8) _ (fun i x hi hj=> ?_) (fun x hj=> ?_) _ 0 (Nat.zero_le _) (by simp)
  ·simp only
   unfold uK
   have hx:x.length=32+61*i:=by
    rw[hj,List.length_append,hl0,flat_length Kz,List.length_take];omega
   rw[adv s.orders hi,bC _ i hi,ahQ (by simp;omega),ah,amw (by simp [Ku];omega),ah,ahQ (by simp [Ku,X3];omega),ah,ZH,ah,amw (by simp [Ku,X3];omega),ah,ai]
   refine⟨dG (by omega),?_⟩
   rw[List.take_succ_eq_append_getElem hi,List.flatMap_append,hj]
   simp [D8]
  ·simp only
   unfold uK
   rw[XK,ai,hj,List.take_length]
 subst hy
 refine Wq.bind (Q:=fun y=>y=headB s++s.orders.flatMap D8++s.cells.flatMap QW) ?_ fun y hy=> ?_
 ·refine lD (n:=s.cells.length) (by omega) (fun i x=>x=headB s++s.orders.flatMap D8++(s.cells.take i).flatMap QW) _ (fun i x hi hj=> ?_) (fun x hj=> ?_) _ 0 (Nat.zero_le _) (by simp)
  ·simp only
   unfold ve
   have hx:x.length=32+61*s.orders.length+8*i:=by
    rw[hj,List.length_append,List.length_append,hl0,flat_length Kz,flat_length Uf,List.length_take];omega
   rw[adv s.cells hi,bC _ i hi,ahQ (by simp;omega),ah,ai]
   refine⟨dG (by omega),?_⟩
   rw[List.take_succ_eq_append_getElem hi,List.flatMap_append,hj]
   simp [QW]
  ·simp only
   unfold ve
   rw[XK,ai,hj,List.take_length]
 subst hy
 refine Wq.bind (Q:=fun y=>y=headB s++s.orders.flatMap D8++s.cells.flatMap QW++s.limits.flatMap aeU) ?_ fun y hy=> ?_
 ·refine lD (n:=s.limits.length) (by omega) (fun i x=>x=headB s++s.orders.flatMap D8++s.cells.flatMap QW++(s.limits.take i).flatMap aeU) _ (fun i x hi hj=> ?_) (fun x hj=> ?_) _ 0 (Nat.zero_le _) (by simp)
  ·simp only
   unfold uG
   have hx:x.length=32+61*s.orders.length+8*s.cells.length+24*i:=by
    rw[hj,List.length_append,List.length_append,List.length_append,hl0,flat_length Kz,flat_length Uf,flat_length adI,List.length_take];omega
   rw[adv s.limits hi,bC _ i hi,ahQ (by simp;omega),ah,ai]
   refine⟨dG (by omega),?_⟩
   rw[List.take_succ_eq_append_getElem hi,List.flatMap_append,hj]
   simp [aeU]
  ·simp only
   unfold uG
   rw[XK,ai,hj,List.take_length]
 subst hy
 have hbl:=aaM s
 have hb:headB s++s.orders.flatMap D8++s.cells.flatMap QW++s.limits.flatMap aeU++p8 s.caps=LY s:=by simp [LY]
 rw[ahQ (by
  have:=congrArg List.length hb
  rw[List.length_append,Ku]at this
  omega),ah,hb,ZL (by omega) (XZ s),ah]
 refine Wq.bind (Q:=fun y=>y=encZ s) ?_ fun y hy=>by rw[ai,hy]
 refine lD (n:=4) (by decide) (fun i x=>x=LY s++(vW (zI (LY s))).take i) _ (fun i x hi hj=> ?_) (fun x hj=> ?_) _ 0 (by decide) (by simp)
 ·simp only
  unfold sO
  obtain⟨q1,q2⟩:=LD (n:=zI (LY s)) hi
  have hx:x.length<=(LY s).length+4:=by
   rw[hj,List.length_append,List.length_take];omega
  rw[aA (Dn (by omega)),aA q1,q2,aA (TR (n:=1000000) (by simp [cu];omega) (by decide)),ai]
  refine⟨dG (by omega),?_⟩
  rw[hj]
  exact ag7 _ hi _
 ·simp only
  unfold sO
  rw[cZ (Bz (by omega)),ai,hj]
  rfl
theorem UM {s:ay} (hr:gG s) (hsh:l9 s) (h:¬iL s):xw s=some ([],1):=by
 unfold xw
 rw[YN hr hsh h,ah]
 rfl
theorem ai4 (n:Int) {j:Nat} (hj:j<8):n%18446744073709551616 / 256^j%256=n / 256^j%256:=by
 have:j=0\/j=1\/j=2\/j=3\/j=4\/j=5\/j=6\/j=7:=by omega
 rcases this with rfl | rfl | rfl | rfl | rfl | rfl | rfl | rfl
 ·rw[show(256:Int)^0=1 by decide];omega
 ·rw[show(256:Int)^1=256 by decide];omega
 ·rw[show(256:Int)^2=65536 by decide];omega
 ·rw[show(256:Int)^3=16777216 by decide];omega
 ·rw[show(256:Int)^4=4294967296 by decide];omega
 ·rw[show(256:Int)^5=1099511627776 by decide];omega
 ·rw[show(256:Int)^6=281474976710656 by decide];omega
 ·rw[show(256:Int)^7=72057594037927936 by decide];omega
def at8 (b:List Int) (i:Nat):Int:=wr .i64 (unZ ((b.drop i).take 8))
def b1 (n:Int):Prop:=0<=n/\n<=255
theorem akc {l:List Int} (h:okL af0 l):jq l:=fun x hx=>h.1 x hx
def msgP (m:jQ):Prop:=sS m.order/\(0<=m.account/\m.account<8)/\(0<=m.symbol/\m.symbol<8)/\(m.side=1\/m.side=2)/\(0<=m.lsn/\m.lsn<=1000000000)/\
 ((m.kind=1/\1<=m.qty/\1<=m.price/\m.version=0)\/(m.kind=2/\1<=m.qty/\1<=m.price/\1<=m.version)\/(m.kind=3/\m.qty=0/\m.price=0/\m.version=0))
instance (m:jQ):Decidable (msgP m):=by unfold msgP sS;infer_instance
theorem aoc (m:jQ):Wq (lg m) fun b=>b=true↔msgP m:=by
 unfold lg msgP sS
 simp only[pV,fP,ai,aW,bK,dn,dF,aY,aZ,dA,dB,bP,dJ,bn,bg,dM,dN,true_implies,ne_eq,not_true_eq_false,false_implies,and_true,true_and,or_self,reduceCtorEq]
 grind
theorem aiw (m:jQ):lg m=some (decide (msgP m)):=(aoc m).dec
def DC:List jQ->Int->Int->Prop
 |[],_,_=>True
 |m::r,a,z=>msgP m/\a<m.lsn/\m.lsn<=z/\DC r m.lsn z
theorem ag6 {l:List jQ} {i:Nat} (hi:i<l.length) {a z:Int}:DC (l.drop i) a z↔msgP l[i]/\a<l[i].lsn/\l[i].lsn<=z/\DC (l.drop (i+1)) l[i].lsn z:=by
 rw[List.drop_eq_getElem_cons hi];rfl
theorem ac0 (l:List jQ) (a z:Int) (hl:l.length<999999):Wq (wP l a z) fun b=>b=true↔DC l a z:=by
 unfold wP
 refine Wq.bind (Q:=fun w:Bool ⊕ Bool=>match w with | .inl b=>b=false/\¬DC l a z | .inr _=>DC l a z)
  (lD (n:=l.length) (step:=fun v:Int×Bool×Int=>qG (len l) l z v.1 v.2.1 v.2.2) hl (fun i x=>DC l a z↔DC (l.drop i) x.2 z) _ ?_ ?_ _ 0 (Nat.zero_le _) (by simp)) ?_
 ·rintro i ⟨q,x⟩ hi hj
  simp only at hj
  simp only[qG]
  rw[aA (by rw[eX];simpa using hi),aA (inb l i hi),bC l i hi,aiw,ah,hj,ag6 hi]
  simp only[pV,fP,ai,aW,bK,dn,dF,aY,aZ,dA,dB,bP,dJ,bn,bg,dM,dN,true_implies,ne_eq,not_true_eq_false,false_implies,and_true,true_and,or_self,reduceCtorEq]
  refine⟨fun h=> ?_,fun h=> ?_⟩
  ·rintro⟨h1,h2,h3,_⟩
   rcases h with (h | h) | h
   ·simp [h1]at h
   ·omega
   ·omega
  ·refine⟨dG (by omega),?_⟩
   have h1:msgP l[i]:=by simpa using h.1.1
   exact⟨fun h=>h.2.2.2,fun g=>⟨h1,by omega,by omega,g⟩⟩
 ·rintro⟨q,x⟩ hj
  simp only at hj
  simp only[qG]
  rw[cZ (by rw[show((l.length:Nat):Int)=len l from rfl];simp [ilt]),ai]
  show DC l a z
  rw[hj,List.drop_length];trivial
 ·intro w hw
  match w,hw with
  |.inl b,h=>simp only[gX,ai];simp [h.1,h.2]
  |.inr _,h=>simp only[gX,ai];simpa using h
def uJ:List dQ->Int->Int->Prop
 |[],_,_=>True
 |n::r,a,x=>a<n.seq/\n.seq<=x+8/\uJ r n.seq x
theorem afe {l:List dQ} {i:Nat} (hi:i<l.length) {a z:Int}:uJ (l.drop i) a z↔a<l[i].seq/\l[i].seq<=z+8/\uJ (l.drop (i+1)) l[i].seq z:=by
 rw[List.drop_eq_getElem_cons hi];rfl
def Vp (f:gJ) (x:Int):Prop:=1<=x/\x<=1000000001/\f.held.length<=8/\uJ f.held x x
theorem JE (f:gJ) (x:Int):Wq (tu f x) fun b=>b=true↔Vp f x:=by
 unfold tu Vp
 rw[fP]
 refine⟨fun h=>(ai _).2 ?_,fun h=> ?_⟩
 ·simp only[aW,bK,dn,dF,aY,aZ,dA,dB,bP,dJ,bn,bg,dM,dN,len]at h
  constructor
  ·intro g;cases g
  ·intro g;omega
 simp only[aW,bK,dn,dF,aY,aZ,dA,dB,bP,dJ,bn,bg,dM,dN,len]at h
 have hl:f.held.length<=8:=by omega
 have hwr:wr .i64 (ax x 8)=x+8:=bM (by simp only[ax];omega) (by simp only[ax];omega)
 refine Wq.bind (Q:=fun w:Bool ⊕ Bool=>match w with | .inl b=>b=false/\¬uJ f.held x x | .inr _=>uJ f.held x x)
  (lD (n:=f.held.length) (step:=fun v:Int×Int×Bool=>rP (len f.held) f.held x v.1 v.2.1 v.2.2) (by omega) (fun i y=>uJ f.held x x↔uJ (f.held.drop i) y.1 x) _ ?_ ?_ _ 0 (Nat.zero_le _) (by simp)) ?_
 ·rintro i ⟨y,q⟩ hi hj
  simp only at hj
  simp only[rP]
  rw[aA (by rw[eX];simpa using hi),aA (inb f.held i hi),bC f.held i hi,hj,afe hi,hwr]
  simp only[pV,fP,ai,aW,bK,dn,dF,aY,aZ,dA,dB,bP,dJ,bn,bg,dM,dN,true_implies,ne_eq,not_true_eq_false,false_implies,and_true,true_and,or_self,reduceCtorEq]
  refine⟨fun h=> ?_,fun h=> ?_⟩
  ·rintro⟨h1,h2,_⟩;omega
  ·exact⟨dG (by omega),fun h=>h.2.2,fun g=>⟨by omega,by omega,g⟩⟩
 ·rintro⟨y,q⟩ hj
  simp only at hj
  simp only[rP]
  rw[cZ (by rw[show((f.held.length:Nat):Int)=len f.held from rfl];simp [ilt]),ai]
  show uJ f.held x x
  rw[hj,List.drop_length];trivial
 ·intro w hw
  match w,hw with
  |.inl b,h=>simp only[gX,ai];simp [h.1,h.2]
  |.inr _,h=>
   simp only[gX,ai]
   simp only[true_iff]
   exact⟨by omega,by omega,hl,h⟩
def Fz (p:bH):Prop:=(∀n∈p.feed.held,qQ (jk n))/\iL p.state/\DC p.outbox 0 p.state.lsn/\Vp p.feed (p.state.seq+1)
theorem ag0 (n:Nat) (h:n<=200):wr .i64 (bJ .u64 (wr .u64 (wr .i64 (n:Int))) 1)=((n / 2:Nat):Int):=by
 have:∀k:Fin 201,wr .i64 (bJ .u64 (wr .u64 (wr .i64 ((k:Nat):Int))) 1)=(((k:Nat) / 2:Nat):Int):=by decide+kernel
 exact this ⟨n,by omega⟩
theorem IA:∀ {l:List dQ} {a x:Int},uJ l a x->∀n∈l,a<n.seq/\n.seq<=x+8
 |[],_,_,_,n,hn=>by cases hn
 |m::r,a,x,h,n,hn=>by
  obtain⟨h1,h2,h3⟩:=h
  rcases List.mem_cons.1 hn with rfl | hn
  ·exact⟨h1,h2⟩
  ·have:=IA h3 n hn;exact⟨by omega,this.2⟩
theorem SN:∀ {l:List dQ} {a x:Int},uJ l a x->∀ {i j:Nat} (hij:i<j) (hj:j<l.length),(l[i]'(by omega)).seq<l[j].seq
 |m::r,a,x,h,0,j+1,hij,hj=>by
  have hj':j<r.length:=by simpa using hj
  exact(IA h.2.2 r[j] (List.getElem_mem hj')).1
 |m::r,a,x,h,i+1,j+1,hij,hj=>SN h.2.2 (i:=i) (j:=j) (by omega) (by simpa using hj)
 |[],_,_,_,_,_,_,hj=>by simp at hj
theorem Z5:∀ {l:List dQ} {a x:Int},uJ l a x->a<=x+8->(l.length:Int)<=x+8 - a
 |[],_,_,_,h=>by simp;omega
 |m::r,a,x,h,_=>by
  have:=Z5 h.2.2 h.2.1
  have:=h.1
  simp only[List.length_cons];omega
theorem aek:∀ {l:List dQ} {a x y:Int},uJ l a x->x<=y->uJ l a y
 |[],_,_,_,_,_=>trivial
 |m::r,a,x,y,h,hy=>⟨h.1,by have:=h.2.1;omega,aek h.2.2 hy⟩
def Ew:List dQ->Int->Nat
 |[],_=>0
 |n::r,x=>if n.seq=x then Ew r (x+1)+1 else 0
theorem abM:∀(l:List dQ) (x:Int),Ew l x<=l.length
 |[],_=>Nat.le_refl _
 |n::r,x=>by
  unfold Ew
  have:=abM r (x+1)
  split<;>simp<;>omega
theorem anK (l:List dQ) (x:Int) (hl:l.length<=8) (h0:0<=x) (h1:x<=2000000000):sF l x=some (Ew l x:Int):=by
 refine Wq.eq ?_
 unfold sF
 refine Wq.bind (Q:=fun w:Int ⊕ Int=>match w with | .inl b=>b=(Ew l x:Int) | .inr _=>Ew l x=l.length)
  (lD (n:=l.length) (step:=fun v:Int×Int=>yH (len l) l x v.1 v.2) (by omega) (fun i _=>Ew l x=i+Ew (l.drop i) (x+i)) _ ?_ ?_ _ 0 (Nat.zero_le _) (by simp)) ?_
 ·rintro i q hi hj
  simp only[yH]
  have hw:wr .i64 (ax x (i:Int))=x+i:=bM (by simp only[ax];omega) (by simp only[ax];omega)
  rw[aA (by rw[eX];simpa using hi),aA (inb l i hi),bC l i hi,hw]
  rw[List.drop_eq_getElem_cons hi,Ew]at hj
  simp only[pV,fP,ai,aW,bK,dn,dF,aY,aZ,dA,dB,bP,dJ,bn,bg,dM,dN,true_implies,ne_eq,not_true_eq_false,false_implies,and_true,true_and,or_self,reduceCtorEq]
  refine⟨fun h=> ?_,fun h=> ?_⟩
  ·rw[if_neg h]at hj;omega
  ·rw[if_pos h]at hj
   refine⟨dG (by omega),?_⟩
   rw[hj,show x+((i+1:Nat):Int)=x+i+1 by omega];omega
 ·rintro q hj
  simp only[yH]
  rw[cZ (by rw[show((l.length:Nat):Int)=len l from rfl];simp [ilt]),ai]
  simpa [Ew] using hj
 ·intro w hw
  match w,hw with
  |.inl b,h=>simp only[gX,ai];exact h
  |.inr _,h=>simp only[gX,ai,len];rw[h]
theorem ak3 {l:List dQ} {x s:Int} (hl:l.length<=8) (hh:uJ l x x) (hx:0<=x) (hx2:x<=2000000000) (hs:0<=s) (hs2:s<=2000000000):
 Wq (og l s) fun r=>∃i:Nat,r.1=(i:Int)/\i<=l.length/\(∀(j:Nat) (h:j<l.length),j<i->l[j].seq<s)/\(∀(j:Nat) (h:j<l.length),i<=j->s<=l[j].seq)/\(r.2=true↔∃h:i<l.length,l[i].seq=s):=by
 have sub:∀(i:Nat) (h:i<l.length),wr .i64 (aI l[i].seq s)=l[i].seq - s:=fun i h=>by
  have:=IA hh l[i] (List.getElem_mem h)
  exact KP ⟨by simp only[aI];omega,by simp only[aI];omega⟩
 unfold og
 refine Wq.bind (Q:=fun w:Int=>∃i:Nat,w=(i:Int)/\i<=l.length/\(∀(j:Nat) (h:j<l.length),j<i->l[j].seq<s)/\(∀(j:Nat) (h:j<l.length),i<=j->s<=l[j].seq))
  (Xt (step:=fun v:Int×Int=>cO l s v.1 v.2) (fun v=>(v.1 - v.2).toNat)
    (fun v=>∃lo hi:Nat,v=((hi:Int),(lo:Int))/\lo<=hi/\hi<=l.length/\(∀(j:Nat) (h:j<l.length),j<lo->l[j].seq<s)/\(∀(j:Nat) (h:j<l.length),hi<=j->s<=l[j].seq)) _ ?_ LF _ (acL (by simp only[len];omega)) ⟨0,l.length,rfl,Nat.zero_le _,Nat.le_refl _,fun j _ h=>by omega,fun j h1 h2=>by omega⟩) ?_
 ·rintro _ ⟨lo,hi,rfl,g1,g2,g3,g4⟩
  simp only[cO]
  rw[fP]
  refine⟨fun h=> ?_,fun h=>(ai _).2 ?_⟩
  ·rw[dA]at h
   have e1:wr .i64 (bJ .u64 (wr .u64 (wr .i64 (ax (lo:Int) (hi:Int)))) 1)=(((lo+hi) / 2:Nat):Int):=by
    rw[<-ag0 (lo+hi) (by omega)];unfold ax;rw[Int.natCast_add]
   have hm:(lo+hi) / 2<l.length:=by omega
   rw[e1,aA (inb _ _ hm),bC _ _ hm,fP,ai,ai,sub _ hm]
   refine⟨fun h2=> ?_,fun h2=> ?_⟩
   ·simp only[aW,bK,dn,dF,aY,aZ,dA,dB,bP,dJ,bn,bg,dM,dN]at h2
    refine⟨⟨(lo+hi) / 2+1,hi,by rw[dG (by omega)],by omega,g2,fun j hj h3=> ?_,g4⟩,?_⟩
    ·rcases Nat.lt_or_ge j ((lo+hi) / 2)with h4 | h4
     ·have:=SN hh h4 hm;omega
     ·have:j=(lo+hi) / 2:=by omega
      subst this;omega
    ·simp only;rw[dG (by omega)];omega
   ·simp only[aW,bK,dn,dF,aY,aZ,dA,dB,bP,dJ,bn,bg,dM,dN]at h2
    refine⟨⟨lo,(lo+hi) / 2,rfl,by omega,by omega,g3,fun j hj h3=> ?_⟩,?_⟩
    ·rcases Nat.lt_or_ge ((lo+hi) / 2) j with h4 | h4
     ·have:=SN hh h4 hj;omega
     ·have:j=(lo+hi) / 2:=by omega
      subst this;omega
    ·simp only;omega
  ·rw[dB]at h
   have:lo=hi:=by omega
   subst this
   exact⟨lo,rfl,g2,g3,g4⟩
 rintro _ ⟨i,rfl,hi,g1,g2⟩
 by_cases hil:i<l.length
 ·have h1:ilt (i:Int) (len l)=true:=Dn (by simp only[len];omega)
  rw[aA (by rw[dn];exact .inl (inb l i hil)),aA h1,ai,bC l i hil,sub _ hil]
  refine⟨i,rfl,hi,g1,g2,?_⟩
  simp only[aW,bK,dn,dF,aY,aZ,dA,dB,bP,dJ,bn,bg,dM,dN]
  constructor
  ·intro h;exact⟨hil,by omega⟩
  ·rintro⟨_,h⟩;exact⟨by simp only[len];omega,by omega⟩
 ·have h1:ilt (i:Int) (len l)=false:=Bz (by simp only[len];omega)
  rw[aA (by rw[dn,aY];exact .inr h1),cZ h1,ai]
  refine⟨i,rfl,hi,g1,g2,?_⟩
  rw[h1]
  constructor
  ·intro h;simp [bor]at h
  ·rintro⟨h,_⟩;exact absurd h hil
theorem ali {α:Type} (l:List α):nol l=[]:=by simp [nol]
open Classical in
noncomputable def kz (f:gJ) (n:dQ) (x:Int):gJ×List dQ×Int:=
 if ¬(Vp f x/\1<=n.seq/\n.seq<=1000000000)then (f,[],1)
 else if n.seq<x then (f,[],0)
 else if x+8<n.seq then (⟨f.held,true⟩,[],0)
 else if n.seq=x then (⟨f.held.drop (Ew f.held (x+1)),f.gap⟩,n::f.held.take (Ew f.held (x+1)),0)
 else if ∃m∈f.held,m.seq=n.seq then (f,[],0)
 else (⟨(f.held.filter fun m=>m.seq<n.seq)++n::(f.held.filter fun m=>n.seq<m.seq),f.gap⟩,[],0)
theorem ajE {l:List dQ} {s:Int} {i:Nat} (hi:i<=l.length) (h1:∀(j:Nat) (h:j<l.length),j<i->l[j].seq<s) (h2:∀(j:Nat) (h:j<l.length),i<=j->s<=l[j].seq) (hn:¬∃m∈l,m.seq=s):
 l.take i=(l.filter fun m=>m.seq<s)/\l.drop i=(l.filter fun m=>s<m.seq):=by
 have a1:∀m∈l.take i,m.seq<s:=fun m hm=>by
  obtain⟨j,hj,rfl⟩:=List.getElem_of_mem hm
  rw[List.getElem_take]
  have hj':j<i/\j<l.length:=by simp at hj;omega
  exact h1 j hj'.2 hj'.1
 have a2:∀m∈l.drop i,s<m.seq:=fun m hm=>by
  have hml:m∈l:=List.mem_of_mem_drop hm
  obtain⟨j,hj,rfl⟩:=List.getElem_of_mem hm
  rw[List.getElem_drop]at hml ⊢
  have hj':i+j<l.length:=by simp at hj;omega
  have:=h2 (i+j) hj' (by omega)
  have:l[i+j].seq≠s:=fun e=>hn ⟨_,hml,e⟩
  omega
 have hl:l=l.take i++l.drop i:=(List.take_append_drop i l).symm
 have e1:(l.take i).filter (fun m=>decide (m.seq<s))=l.take i:=List.filter_eq_self.2 (fun m hm=>by simpa using a1 m hm)
 have e2:(l.drop i).filter (fun m=>decide (m.seq<s))=[]:=List.filter_eq_nil_iff.2 (fun m hm=>by have:=a2 m hm;simp;omega)
 have e3:(l.drop i).filter (fun m=>decide (s<m.seq))=l.drop i:=List.filter_eq_self.2 (fun m hm=>by simpa using a2 m hm)
 have e4:(l.take i).filter (fun m=>decide (s<m.seq))=[]:=List.filter_eq_nil_iff.2 (fun m hm=>by have:=a1 m hm;simp;omega)
 constructor
 ·conv=>rhs;rw[hl]
  rw[List.filter_append,e1,e2,List.append_nil]
 ·conv=>rhs;rw[hl]
  rw[List.filter_append,e3,e4,List.nil_append]
theorem Vb (f:gJ) (n:dQ) (x:Int):wH f n x=some (kz f n x):=by
 refine Wq.eq ?_
 unfold wH kz
 refine(JE f x).bind fun b hb=> ?_
 by_cases hf:Vp f x
 case neg=>
  have:b=false:=by cases b with
   |false=>rfl
   |true=>exact absurd (hb.1 rfl) hf
  subst this
  rw[bf,aX,aX,ai,if_pos (fun h=>hf h.1)]
 obtain rfl:=hb.2 hf
 rw[aJ,aU]
 by_cases h1:n.seq<1
 ·rw[aA (Dn h1),aA (Dn h1),ai,if_pos (fun h=>by omega)]
 rw[cZ (Bz h1)]
 by_cases h2:1000000000<n.seq
 ·rw[aA (Dn h2),ai,if_pos (fun h=>by omega)]
 rw[cZ (Bz h2),if_neg (fun h=>h ⟨hf,by omega,by omega⟩)]
 by_cases h3:n.seq<x
 ·rw[aA (Dn h3),ai,if_pos h3]
 rw[cZ (Bz h3),if_neg h3]
 have hx:=hf.1
 have hx2:=hf.2.1
 have hl:=hf.2.2.1
 have hwr:wr .i64 (ax x 8)=x+8:=bM (by simp only[ax];omega) (by simp only[ax];omega)
 have hwr1:wr .i64 (ax x 1)=x+1:=bM (by simp only[ax];omega) (by simp only[ax];omega)
 rw[hwr]
 by_cases h4:x+8<n.seq
 ·rw[aA (Dn h4),ai,if_pos h4]
 rw[cZ (Bz h4),if_neg h4]
 by_cases h5:n.seq=x
 ·rw[aA (by rw[bn];exact h5),if_pos h5,hwr1,anK f.held (x+1) hl (by omega) (by omega),ah]
  have hk:=abM f.held (x+1)
  generalize Ew f.held (x+1)=k at hk ⊢
  have c0:band (ile 0 (len f.held)) (ile 0 (len f.held))=true:=DW (jo (by simp only[len];omega)) (jo (by simp only[len];omega))
  have c1:band (ile 0 (k:Int)) (ile (k:Int) (len f.held))=true:=DW (jo (by omega)) (jo (by simp only[len];omega))
  simp only[ali]
  rw[aA c0,aA (by simp [cu,len,ile,bor,band,ieq]),aA c1,aA (by simp only[cu,len,aG,itn,List.nil_append];exact jo (by simp;omega)),aA c1]
  rw[show dD (aV f.held (itn (k:Int)))=some (aV f.held (itn (k:Int)))from lW (by simp [aV,itn];omega),ah,ai]
  simp [aV,aG,cu,itn]
 ·rw[cZ (by rw[bg];exact h5),if_neg h5]
  refine Wq.bind (ak3 (s:=n.seq) hl hf.2.2.2 (by omega) (by omega) (by omega) (by omega)) ?_
  rintro⟨r1,r2⟩ ⟨i,rfl,hi,g1,g2,g3⟩
  simp only at g3
  by_cases h6:∃m∈f.held,m.seq=n.seq
  ·rw[if_pos h6]
   obtain⟨m,hm,hme⟩:=h6
   obtain⟨j,hj,rfl⟩:=List.getElem_of_mem hm
   have hij:i=j:=by
    rcases Nat.lt_trichotomy i j with h | h | h
    ·have:=SN hf.2.2.2 h hj
     have:=g2 i (by omega) (Nat.le_refl _)
     omega
    ·exact h
    ·have:=g1 j hj h;omega
   subst hij
   rw[cZ (by rw[aZ];exact g3.2 ⟨hj,hme⟩),ai]
  ·rw[if_neg h6]
   have:r2=false:=by cases h:r2 with
    |false=>rfl
    |true=>obtain⟨h7,h8⟩:=g3.1 h;exact absurd ⟨_,List.getElem_mem h7,h8⟩ h6
   subst this
   rw[bf,aX,show dD f.held=some f.held from lW (by omega),ah]
   obtain⟨e1,e2⟩:=ajE hi g1 g2 h6
   unfold gm
   simp only
   rw[aA (DW (jo (by omega)) (DW (jo (by simp only[len];omega)) (jo (by simp only[len,ax];omega)))),ah,ai,<-e1,<-e2]
   simp [cu,aG,aV,itn]
theorem aav:∀(l:List dQ) (a x y:Int),uJ l a x->x<=y - 1->(∀m∈l,y<=m.seq)->uJ (l.drop (Ew l y)) (y+Ew l y) (y+Ew l y)
 |[],_,_,_,_,_,_=>by simp [Ew,uJ]
 |m::r,a,x,y,h,hx,hall=>by
  unfold Ew
  by_cases he:m.seq=y
  ·rw[if_pos he]
   have h2:=aav r m.seq x (y+1) h.2.2 (by omega) (fun q hq=>by have:=(IA h.2.2 q hq).1;omega)
   rw[List.drop_succ_cons,show y+((Ew r (y+1)+1:Nat):Int)=y+1+(Ew r (y+1):Int) by omega]
   exact h2
  ·rw[if_neg he]
   simp only[List.drop_zero]
   have h1:=hall m (by simp)
   have h3:=h.2.1
   exact⟨by omega,by omega,aek h.2.2 (by omega)⟩
theorem ZR:∀(l:List dQ) (a x:Int) (n:dQ),uJ l a x->a<n.seq->n.seq<=x+8->(∀m∈l,m.seq≠n.seq)->uJ ((l.filter fun m=>m.seq<n.seq)++n::(l.filter fun m=>n.seq<m.seq)) a x
 |[],_,_,_,_,h1,h2,_=>by simpa [uJ] using ⟨h1,h2⟩
 |m::r,a,x,n,h,h1,h2,hn=>by
  have hm:=hn m (by simp)
  by_cases hlt:m.seq<n.seq
  ·rw[List.filter_cons_of_pos (by simpa using hlt),List.filter_cons_of_neg (by simp;omega),List.cons_append]
   exact⟨h.1,h.2.1,ZR r m.seq x n h.2.2 hlt h2 (fun q hq=>hn q (by simp [hq]))⟩
  ·have hall:∀q∈m::r,n.seq<q.seq:=fun q hq=>by
    rcases List.mem_cons.1 hq with rfl | hq
    ·omega
    ·have:=(IA h.2.2 q hq).1;omega
   have e1:(m::r).filter (fun q=>decide (q.seq<n.seq))=[]:=List.filter_eq_nil_iff.2 (fun q hq=>by have:=hall q hq;simp;omega)
   have e2:(m::r).filter (fun q=>decide (n.seq<q.seq))=m::r:=List.filter_eq_self.2 (fun q hq=>by have:=hall q hq;simpa using this)
   rw[e1,e2,List.nil_append]
   exact⟨h1,h2,hall m (by simp),h.2.1,h.2.2⟩
structure al0 (f:gJ) (n:dQ) (x:Int) (r:gJ×List dQ×Int):Prop where
 held:uJ r.1.held (x+r.2.1.length) (x+r.2.1.length)
 len:r.1.held.length<=8
 lo:1<=x
 hi:x<=1000000001
 mem:∀m∈r.1.held,m∈f.held\/m=n
 mem2:∀m∈r.2.1,m∈f.held\/m=n
 len2:r.2.1.length<=9
theorem afZ {f:gJ} {n:dQ} {x:Int} (h0:(kz f n x).2.2=0):al0 f n x (kz f n x):=by
 unfold kz at h0 ⊢
 split at h0
 ·cases h0
 rename_i hf
 have hf:=Classical.not_not.1 hf
 rw[if_neg (fun h=>h hf)]
 obtain⟨⟨f1,f2,f3,f4⟩,k1,k2⟩:=hf
 have same:∀g:Bool,al0 f n x (⟨f.held,g⟩,[],0):=fun g=>⟨by simpa using f4,f3,f1,f2,fun m hm=> .inl hm,fun m hm=>(by simp at hm),by simp⟩
 by_cases h3:n.seq<x
 ·rw[if_pos h3];exact same f.gap
 rw[if_neg h3]
 by_cases h4:x+8<n.seq
 ·rw[if_pos h4];exact same true
 rw[if_neg h4]
 by_cases h5:n.seq=x
 ·rw[if_pos h5]
  have hk:=abM f.held (x+1)
  have h2:=aav f.held x x (x+1) f4 (by omega) (fun m hm=>by have:=(IA f4 m hm).1;omega)
  have hl:(n::f.held.take (Ew f.held (x+1))).length=Ew f.held (x+1)+1:=by simp;omega
  refine⟨?_,?_,f1,f2,fun m hm=> .inl (List.mem_of_mem_drop hm),fun m hm=> ?_,?_⟩
  ·show uJ (f.held.drop _) _ _
   simp only[hl]
   rw[show x+((Ew f.held (x+1)+1:Nat):Int)=x+1+(Ew f.held (x+1):Int) by omega]
   exact h2
  ·show(f.held.drop _).length<=8
   simp;omega
  ·rcases List.mem_cons.1 hm with rfl | hm
   ·exact .inr rfl
   ·exact .inl (List.mem_of_mem_take hm)
  ·show(n::f.held.take _).length<=9
   rw[hl];omega
 rw[if_neg h5]
 split
 ·exact same f.gap
 ·rename_i h6
  have h7:=ZR f.held x x n f4 (by omega) (by omega) (fun m hm e=>h6 ⟨m,hm,e⟩)
  refine⟨by simpa using h7,?_,f1,f2,fun m hm=> ?_,fun m hm=>(by simp at hm),by simp⟩
  ·have:=Z5 h7 (by omega)
   show((f.held.filter fun m=>m.seq<n.seq)++n::(f.held.filter fun m=>n.seq<m.seq)).length<=8
   omega
  ·rcases List.mem_append.1 hm with hm | hm
   ·exact .inl (List.mem_filter.1 hm).1
   ·rcases List.mem_cons.1 hm with rfl | hm
    ·exact .inr rfl
    ·exact .inl (List.mem_filter.1 hm).1
theorem amu (p:bH) (hl:p.feed.held.length<999999):Wq (bV (fun v:Int×Bool=>rF (len p.feed.held) p.feed.held v.1 v.2) LF (0,false)) fun w=>match w with
 |.inl b=>b=false/\¬∀n∈p.feed.held,qQ (jk n)
 |.inr _=>∀n∈p.feed.held,qQ (jk n):=by
 refine lD (n:=p.feed.held.length) hl (fun i _=>∀n∈p.feed.held.take i,qQ (jk n)) _ (fun i q hi hj=> ?_) (fun q hj=> ?_) _ 0 (Nat.zero_le _) (fun n hn=>by simp at hn)
 ·simp only[rF]
  rw[aA (by rw[eX];simpa using hi),aA (inb p.feed.held i hi),bC _ i hi,show iD p.feed.held[i]=some (jk p.feed.held[i])from rfl,ah]
  refine(qJ _).bind fun b hb=> ?_
  rw[fP,ai,ai]
  refine⟨fun h=>⟨rfl,fun g=> ?_⟩,fun h=>⟨dG (by omega),fun n hn=> ?_⟩⟩
  ·rw[aY]at h;subst h
   have:=hb.2 (g _ (List.getElem_mem hi));cases this
  ·rw[aZ]at h
   rcases(uh hi).1 hn with h1 | rfl
   ·exact hj n h1
   ·exact hb.1 h
 ·simp only[rF]
  rw[cZ (by rw[show((p.feed.held.length:Nat):Int)=len p.feed.held from rfl];simp [ilt]),ai]
  rw[List.take_length]at hj
  exact hj
theorem Zo (p:bH) (hr:gG p.state) (hs:l9 p.state) (h1:p.feed.held.length<999999) (h2:p.outbox.length<999999):Wq (jI p) fun b=>b=true↔Fz p:=by
 unfold jI Fz
 refine Wq.bind (amu p h1) fun w hw=> ?_
 match w,hw with
 |.inl b,h=>simp only[gX,ai];simp [h.1];intro g;exact absurd g h.2
 |.inr _,hh=>
 simp only[gX]
 refine(AU p.state hr hs.1 hs.2.2.1 hs.2.2.2).bind fun b hb=> ?_
 cases hbb:b with
 |false=>
  have:¬iL p.state:=fun h=>by rw[hb.2 h]at hbb;cases hbb
  refine(ai false).2 ?_
  simp [this]
 |true=>
  have hR:=hb.1 hbb
  rw[aX]
  refine(ac0 p.outbox 0 p.state.lsn h2).bind fun c hc=> ?_
  cases hcc:c with
  |false=>
   have:¬DC p.outbox 0 p.state.lsn:=fun h=>by rw[hc.2 h]at hcc;cases hcc
   refine(ai false).2 ?_
   simp [this]
  |true=>
   have hO:=hc.1 hcc
   have hq:=hR.fine.seq
   have hw:wr .i64 (ax p.state.seq 1)=p.state.seq+1:=bM (by simp only[ax];omega) (by simp only[ax];omega)
   rw[aA (by rfl),hw]
   refine(JE p.feed _).bind fun d hd=> ?_
   rw[ai]
   simp only[aW,true_and]
   rw[hd]
   exact⟨fun h=>⟨hh,hR,hO,h⟩,fun h=>h.2.2.2⟩
theorem IB {n:dQ} (h:mr n):lm (jk n):=by
 obtain⟨h1,h2,h3,h4,h5⟩:=h
 constructor<;>first | assumption | (show inI _;unfold inI;simp [jk])
theorem ahN {l:List jQ} {a b z:Int} (h:DC l a z) (hb:b<=a):DC l b z:=by
 cases l with
 |nil=>trivial
 |cons m r=>exact⟨h.1,by have:=h.2.1;omega,h.2.2⟩
theorem af9:∀ {l:List jQ} {a z y:Int},DC l a z->z<=y->DC l a y
 |[],_,_,_,_,_=>trivial
 |m::r,a,z,y,h,hy=>⟨h.1,h.2.1,by have:=h.2.2.1;omega,af9 h.2.2.2 hy⟩
theorem aev (l:List Int) (x:Int) (hl:l.length<999999):mF l x=some (decide (x∈l)):=by
 refine Wq.dec ?_
 unfold mF yY
 refine Wq.bind (Q:=fun w:Int=>(0<=w)↔x∈l) (Wq.bind (Q:=fun w:Int ⊕ Int=>match w with | .inl b=>0<=b/\x∈l | .inr _=>x∉l)
  (lD (n:=l.length) (step:=fun v:Int×Int=>mM (len l) l x v.1 v.2) hl (fun i _=>x∉l.take i) _ ?_ ?_ _ 0 (Nat.zero_le _) (by simp)) ?_) ?_
 ·rintro i q hi hj
  simp only[mM]
  rw[aA (by rw[eX];simpa using hi),aA (inb l i hi),bC l i hi]
  simp only[pV,fP,ai,aW,bK,dn,dF,aY,aZ,dA,dB,bP,dJ,bn,bg,dM,dN,true_implies,ne_eq,not_true_eq_false,false_implies,and_true,true_and,or_self,reduceCtorEq]
  refine⟨fun h=>⟨by omega,h▸List.getElem_mem hi⟩,fun h=>⟨dG (by omega),fun g=> ?_⟩⟩
  rcases(uh hi).1 g with g | g
  ·exact hj g
  ·exact h g
 ·rintro q hj
  simp only[mM]
  rw[cZ (by rw[show((l.length:Nat):Int)=len l from rfl];simp [ilt]),ai]
  rw[List.take_length]at hj
  exact hj
 ·intro w hw
  match w,hw with
  |.inl b,h=>simp only[gX,ai];exact⟨fun _=>h.2,fun _=>h.1⟩
  |.inr _,h=>simp only[gX,ai];exact⟨fun g=>by omega,fun g=>absurd g h⟩
 ·intro w hw
  rw[ai,bP];exact hw
theorem W9 {s t:ay} {a y:Int} (h:(OL s t a y).2=0):(OL s t a y).1.orders=t.orders:=by
 unfold OL at h ⊢
 by_cases h1:acR t
 ·rw[if_neg (fun g=>g h1)]at h ⊢
  by_cases h2:VB s t a y
  ·rw[if_pos h2]at h;simp at h
  ·rw[if_neg h2]
 ·rw[if_pos h1]at h;simp at h
theorem aeo {s:ay} {r:iq} (h0:(doS s r).2=0) (hk:r.kind=1\/r.kind=2\/r.kind=3):
 ∃o∈(doS s r).1.orders,o.id=r.order/\(r.kind=2->1<=o.newQty/\1<=o.newPrice/\1<=o.version):=by
 have hm:=((O5 s r).good h0).1
 have hrec:=hm.2.1
 have hords:=hm.1.fine.ords
 unfold doS at h0 ⊢
 rw[if_neg (fun g=>g hm)]at h0 ⊢
 rcases hk with hk | hk | hk
 ·rw[if_pos hk]at h0 ⊢
  by_cases h1:s.kill=true
  ·rw[if_pos h1]at h0;simp at h0
  rw[if_neg h1]at h0 ⊢
  by_cases h2:s.orders.length=64
  ·rw[if_pos h2]at h0;simp at h0
  rw[if_neg h2]at h0 ⊢
  rw[W9 h0]
  exact⟨jT r,by simp [cu],rfl,fun h=>by omega⟩
 ·rw[if_neg (by omega),if_pos hk]at h0 ⊢
  cases hf:yg s.orders r.order with
  |none=>rw[hf]at h0;simp at h0
  |some k=>
   rw[hf]at h0
   simp only at h0 ⊢
   obtain⟨hkl,hid⟩:=nO hf
   have hg:aj s.orders k=s.orders[k]:=by simp [aj,hkl]
   by_cases h1:xA (aj s.orders k)
   ·rw[if_neg (fun g=>g h1)]at h0 ⊢
    by_cases h2:s.kill=true
    ·rw[if_pos h2]at h0;simp at h0
    rw[if_neg h2]at h0 ⊢
    rw[W9 h0]
    refine⟨sN (aj s.orders k) r.qty r.price,?_,?_,fun _=> ?_⟩
    ·show _∈bT s.orders k _
     exact List.mem_set hkl _
    ·rw[hg];exact hid
    ·have hv:=(hords s.orders[k] (List.getElem_mem hkl)).1.2.2.2.1
     rw[hg]
     unfold qQ at hrec
     refine⟨?_,?_,?_⟩
     ·show 1<=r.qty;omega
     ·show 1<=r.price;omega
     ·show 1<=s.orders[k].version+1;omega
   ·rw[if_pos h1]at h0;simp at h0
 ·rw[if_neg (by omega),if_neg (by omega),if_pos hk]at h0 ⊢
  cases hf:yg s.orders r.order with
  |none=>rw[hf]at h0;simp at h0
  |some k=>
   rw[hf]at h0
   simp only at h0 ⊢
   obtain⟨hkl,hid⟩:=nO hf
   have hg:aj s.orders k=s.orders[k]:=by simp [aj,hkl]
   by_cases h1:(aj s.orders k).asked=true
   ·rw[if_pos h1]at h0;simp at h0
   rw[if_neg h1]
   refine⟨akh (aj s.orders k),?_,?_,fun h=>by omega⟩
   ·show _∈bT s.orders k _
    exact List.mem_set hkl _
   ·rw[hg];exact hid
theorem aor {o:aB} (ho:uy o) {k z:Int} (hk:k=1\/k=2\/k=3) (h2:k=2->1<=o.newQty/\1<=o.newPrice/\1<=o.version) (hz:0<=z/\z<=1000000000):Wq (oK k o z) fun m=>msgP m/\m.lsn=z:=by
 obtain⟨b1,b2,b3,b4,b5,b6⟩:=ho.1
 unfold oK
 rw[fA,fA,lF,decide_eq_true ho]
 simp only[ah,aJ,bf,aX,aiw]
 rcases hk with rfl | rfl | rfl
 ·have hm:msgP (jQ.mk 1 o.id o.account o.symbol o.side o.qty o.price 0 z):=⟨b1,b2,b3,b4,hz,.inl ⟨rfl,b5,b6,rfl⟩⟩
  rw[if_pos rfl,decide_eq_true hm]
  exact(ai _).2 ⟨hm,rfl⟩
 ·obtain⟨c1,c2,c3⟩:=h2 rfl
  have hm:msgP (jQ.mk 2 o.id o.account o.symbol o.side o.newQty o.newPrice o.version z):=⟨b1,b2,b3,b4,hz,.inr (.inl ⟨rfl,c1,c2,c3⟩)⟩
  rw[if_neg (by decide),if_pos rfl,decide_eq_true hm]
  exact(ai _).2 ⟨hm,rfl⟩
 ·have hm:msgP (jQ.mk 3 o.id o.account o.symbol o.side 0 0 0 z):=⟨b1,b2,b3,b4,hz,.inr (.inr ⟨rfl,rfl,rfl,rfl⟩)⟩
  rw[if_neg (by decide),if_neg (by decide),decide_eq_true hm]
  exact(ai _).2 ⟨hm,rfl⟩
theorem acp:∀ {l:List jQ} {a z y:Int} {m:jQ},DC l a z->a<=z->msgP m->z<m.lsn->m.lsn<=y->DC (l++[m]) a y
 |[],a,z,y,m,_,ha,hm,h1,h2=>⟨hm,by omega,h2,trivial⟩
 |n::r,a,z,y,m,h,_,hm,h1,h2=>⟨h.1,h.2.1,by have:=h.2.2.1;omega,acp h.2.2.2 h.2.2.1 hm h1 h2⟩
theorem Ov (l:List jQ) (hl:l.length<999999):eU l l=some true:=by
 refine Wq.eq ?_
 unfold eU
 rw[cZ (by rw[aZ,bn])]
 refine Wq.bind (U4 (l:=l) (m:=l) rfl hl (step:=fun v:Int×Bool=>jA l l v.1 v.2) (fun i h hh q=> ?_) (fun q=> ?_) _) fun w hw=> ?_
 ·simp only[jA]
  rw[aA (by rw[eX];simpa using h),aA (inb _ i h),aA (inb _ i hh),bC _ i h,cZ (by simp [au,band,ieq]),ai,dG (by omega)]
  exact⟨fun _=>rfl,fun g=>absurd rfl g⟩
 ·simp only[jA]
  rw[cZ (by rw[show((l.length:Nat):Int)=len l from rfl];simp [ilt])]
 ·match w,hw with
  |.inl b,h=>exact absurd rfl h.2
  |.inr _,_=>simp only[gX,ai]
theorem ahV (f:gJ) (hl:f.held.length<999999):rC f f=some true:=by
 refine Wq.eq ?_
 unfold rC
 rw[cZ (by rw[dF,aZ,aZ,bn,dM];exact⟨rfl,rfl⟩)]
 refine Wq.bind (U4 (l:=f.held) (m:=f.held) rfl hl (step:=fun v:Int×Bool=>lM f f v.1 v.2) (fun i h hh q=> ?_) (fun q=> ?_) _) fun w hw=> ?_
 ·simp only[lM]
  rw[aA (by rw[eX];simpa using h),aA (inb _ i h),aA (inb _ i hh),bC _ i h,cZ (by simp [au,band,ieq]),ai,dG (by omega)]
  exact⟨fun _=>rfl,fun g=>absurd rfl g⟩
 ·simp only[lM]
  rw[cZ (by rw[show((f.held.length:Nat):Int)=len f.held from rfl];simp [ilt])]
 ·match w,hw with
  |.inl b,h=>exact absurd rfl h.2
  |.inr _,_=>simp only[gX,ai]
theorem afy (p:bH) (h1:l9 p.state) (h2:p.outbox.length<999999) (h3:p.feed.held.length<999999):eF p p=some true:=by
 unfold eF
 obtain⟨b,hb,hq⟩:=ani (a:=p.state) (b:=p.state) h1
 obtain rfl:=hq.2 rfl
 rw[hb,ah,aX,Ov _ h2,ah]
 rw[aA (by rfl),ahV _ h3]
 rfl
noncomputable instance (p:bH):Decidable (Fz p):=Classical.propDecidable _
structure SP (p:bH):Prop where
 st:gG p.state
 sh:l9 p.state
 ol:p.outbox.length<=200
 hl:p.feed.held.length<=200
 ok:∀n∈p.feed.held,mr n
theorem CZ {p:bH} (h:SP p):jI p=some (decide (Fz p)):=
 (Zo p h.st h.sh (by have:=h.hl;omega) (by have:=h.ol;omega)).dec
theorem air {p:bH} {r:iq} (h:SP p) (hr:lm r) (ks:List Int) (hks:ks.length<999999):sZ p r ks=some (if Fz p/\r.kind∈ks then doS p.state r else (p.state,1)):=by
 unfold sZ
 rw[CZ h,ah,aev ks _ hks]
 by_cases hp:Fz p
 ·rw[decide_eq_true hp,aJ,bf,aX,ah]
  by_cases hk:r.kind∈ks
  ·rw[decide_eq_true hk,cZ (by rfl),NW h.st hr h.sh.1 h.sh.2.2.1 h.sh.2.2.2,ah,if_pos ⟨hp,hk⟩]
  ·rw[decide_eq_false hk,aA (by rfl),if_neg (fun g=>hk g.2)]
 ·rw[decide_eq_false hp,bf,aJ,aU,ah,aA (by rfl),if_neg (fun g=>hp g.1)]
theorem anc (k:Int) (o:aB) (z:Int):∃m,oK k o z=some m:=by
 unfold oK
 simp only[fA,lF,ah,aiw]
 by_cases h1:k=1<;>by_cases h2:k=2<;>simp only[h1,h2,if_true,if_false]<;>
  by_cases h3:uy o<;>simp [h3,cnd,au,band,bor,ah]<;>split<;>exact⟨_,rfl⟩
noncomputable def FP:ay->List dQ->ay×Int
 |s,[]=>(s,0)
 |s,n::r=>if (doS s (jk n)).2=0 then FP (doS s (jk n)).1 r else (s,(doS s (jk n)).2)
theorem ac7 {f:gJ} {n:dQ} {x:Int}:(kz f n x).1.held.length<=f.held.length+1/\(kz f n x).2.1.length<=f.held.length+1/\(∀m∈(kz f n x).1.held,m∈f.held\/m=n)/\(∀m∈(kz f n x).2.1,m∈f.held\/m=n):=by
 by_cases h0:(kz f n x).2.2=0
 ·have q:=afZ h0
  refine⟨?_,?_,q.mem,q.mem2⟩
  ·unfold kz
   split
   ·simp
   split
   ·simp
   split
   ·simp
   split
   ·simp;omega
   split
   ·simp
   ·have h1:=List.length_filter_le (fun m:dQ=>decide (m.seq<n.seq)) f.held
    simp only[List.length_append,List.length_cons]
    have:∀l:List dQ,(l.filter fun m=>m.seq<n.seq).length+(l.filter fun m=>n.seq<m.seq).length<=l.length:=fun l=>by
     induction l with
     |nil=>simp
     |cons a r ih=>
      by_cases g1:a.seq<n.seq
      ·rw[List.filter_cons_of_pos (by simpa using g1),List.filter_cons_of_neg (by simp;omega)];simp;omega
      ·by_cases g2:n.seq<a.seq
       ·rw[List.filter_cons_of_neg (by simpa using g1),List.filter_cons_of_pos (by simpa using g2)];simp;omega
       ·rw[List.filter_cons_of_neg (by simpa using g1),List.filter_cons_of_neg (by simpa using g2)];simp;omega
    have:=this f.held
    omega
  ·unfold kz
   split
   ·simp
   split
   ·simp
   split
   ·simp
   split
   ·simp;omega
   split<;>simp
 ·have:(kz f n x)=(f,[],1):=by
   unfold kz at h0 ⊢
   split
   ·rfl
   ·rename_i g
    rw[if_neg g]at h0
    exfalso;apply h0
    split
    ·rfl
    split
    ·rfl
    split
    ·rfl
    split<;>rfl
  rw[this]
  exact⟨by simp,by simp,fun m hm=> .inl hm,fun m hm=>(by simp at hm)⟩
def Na (c:UInt8):Prop:=(97<=c.toNat/\c.toNat<=122)\/(48<=c.toNat/\c.toNat<=57)\/c.toNat=46
instance (c:UInt8):Decidable (Na c):=by unfold Na;infer_instance
def jy (s:List UInt8):Prop:=(∀c∈s,Na c)/\1<=s.length/\s.length<=16
instance (s:List UInt8):Decidable (jy s):=by unfold jy;infer_instance
theorem Wi:∀(x y:List UInt8),slt x y=decide (x<y)
 |[],[]=>by simp [slt,Op.bytesLess]
 |_::_,[]=>by simp [slt,Op.bytesLess]
 |[],_::_=>by simp [slt,Op.bytesLess]
 |a::x,b::y=>by
  have ih:=Wi x y
  unfold slt at*
  rw[Op.bytesLess,ih]
  simp only[List.cons_lt_cons_iff]
  by_cases h1:a<b<;>by_cases h2:a=b<;>by_cases h3:x<y<;>simp [h1,h2,h3]
theorem V8 (a:List UInt8):¬a<a:=List.lt_irrefl a
theorem Ym {a b c:List UInt8} (h:a<b) (k:b<c):a<c:=List.lt_trans h k
theorem ak5 (a b:List UInt8):a<b\/a=b\/b<a:=by
 by_cases h:a<b
 ·exact .inl h
 ·by_cases k:b<a
  ·exact .inr (.inr k)
  ·exact .inr (.inl (List.le_antisymm (List.not_lt.1 k) (List.not_lt.1 h)))
theorem am3 {n:Nat} (hn:n<999999) {step:Int×Bool->Option ((Int×Bool) ⊕ (Bool ⊕ Bool))} (P:Nat->Prop)
 (h:∀(i:Nat) (q:Bool),i<n->(∀j,j<i->P j)->Wq (step ((i:Int),q)) fun r=>match r with | .inl (k,_)=>k=((i+1:Nat):Int)/\P i | .inr (.inl b)=>b=false/\¬P i | .inr (.inr _)=>False)
 (he:∀q:Bool,Wq (step ((n:Int),q)) fun r=>match r with | .inr (.inr _)=>True | _=>False) (q0:Bool):
 Wq (bV step LF ((0:Int),q0)) fun w=>match w with | .inl b=>b=false/\¬∀i,i<n->P i | .inr _=>∀i,i<n->P i:=by
 refine lD (n:=n) hn (fun i _=>∀j,j<i->P j) _ (fun i q hi hj=>(h i q hi hj).mono fun r hr=> ?_) (fun q hj=>(he q).mono fun r hr=> ?_) q0 0 (Nat.zero_le _) (fun j hj=>by omega)
 ·match r,hr with
  |.inl (k,_),hr=>
   refine⟨hr.1,fun j hj2=> ?_⟩
   by_cases e:j=i
   ·subst e;exact hr.2
   ·exact hj j (by omega)
  |.inr (.inl b),hr=>exact⟨hr.1,fun g=>hr.2 (g i hi)⟩
  |.inr (.inr _),hr=>exact hr.elim
 ·match r,hr with
  |.inl _,hr=>exact hr.elim
  |.inr (.inl b),hr=>exact hr.elim
  |.inr (.inr _),_=>exact hj
theorem ajk (l:List UInt8) (i:Nat) (h:i<l.length):aeT l (itn (i:Int))=(l[i].toNat:Int):=by
 simp [aeT,itn,h]
theorem Nk {α:Type} (l:List α):ilt ((l.length:Nat):Int) (len l)=false:=by
 rw[show((l.length:Nat):Int)=len l from rfl];simp [ilt]
theorem amF (c:UInt8):Hq (c.toNat:Int)=some (decide (Na c)):=by
 refine Wq.dec ?_
 unfold Hq Na
 rw[ai]
 simp only[aW,bK,dn,dF,aY,aZ,dA,dB,bP,dJ,bn,bg,dM,dN]
 omega
theorem ZN {s:List UInt8}:(∀i,i<s.length->∀h:i<s.length,Na s[i])↔∀c∈s,Na c:=by
 constructor
 ·intro h c hc
  obtain⟨i,hi,rfl⟩:=List.mem_iff_getElem.1 hc
  exact h i hi hi
 ·intro h i hi h2
  exact h _ (List.getElem_mem h2)
theorem afG {s:List UInt8} (hs:s.length<999999):AZ s=some (decide (jy s)):=by
 refine Wq.dec ?_
 unfold AZ
 refine Wq.bind (am3 (n:=s.length) (step:=fun v:Int×Bool=>tN (len s) s v.1 v.2) hs (fun i=>∀h:i<s.length,Na s[i]) (fun i q hi hj=> ?_) (fun q=> ?_) false) fun w hw=> ?_
 ·simp only[tN]
  rw[aA (by rw[eX];simpa using hi),aA (inb s i hi),ajk s i hi,amF,ah,fD,zx]
  split
  ·rename_i h;rw[ai];exact⟨dG (by omega),fun _=>h⟩
  ·rename_i h;rw[ai];exact⟨rfl,fun g=>h (g hi)⟩
 ·simp only[tN]
  rw[cZ (Nk s),ai];trivial
 ·unfold jy
  match w,hw with
  |.inl b,hw=>
   simp only[gX,ai]
   rw[hw.1]
   constructor
   ·intro g;cases g
   ·intro g;exact absurd (ZN.2 g.1) hw.2
  |.inr q,hw=>
   simp only[gX,ai,aW,bK,dn,dF,aY,aZ,dA,dB,bP,dJ,bn,bg,dM,dN,len]
   have:=ZN.1 hw
   constructor
   ·intro g;exact⟨this,by omega,by omega⟩
   ·intro g;omega
def okF (f:aC):Prop:=jy f.name/\0<=f.sure/\f.sure<=len f.data
instance (f:aC):Decidable (okF f):=by unfold okF;infer_instance
def ig (l:List aC):Nat:=(l.map (·.data.length)).sum
def Jp (l:List aC):Prop:=l.Pairwise fun f g=>f.name<g.name
instance (l:List aC):Decidable (Jp l):=by unfold Jp;infer_instance
def xZ (l:List aC):Prop:=(∀f∈l,okF f)/\Jp l
instance (l:List aC):Decidable (xZ l):=by unfold xZ;infer_instance
def gq (d:ak):Prop:=(0<=d.room/\d.room<=65536/\ -1<=d.fuse/\d.files.length<=64)/\xZ d.files/\(ig d.files:Int)<=d.room
instance (d:ak):Decidable (gq d):=by unfold gq;infer_instance
def nameB (d:ak):Prop:=∀f∈d.files,f.name.length<999999
theorem kN {α:Type} {l:List α} {i:Nat} (h:i<l.length):l.take (i+1)=l.take i++[l[i]]:=by simp
theorem qx (a b:List aC):ig (a++b)=ig a+ig b:=by simp [ig]
theorem Jz (f:aC) (l:List aC):ig (f::l)=f.data.length+ig l:=by simp [ig]
theorem yX {l:List aC} {i:Nat} (h:i<l.length):ig (l.take (i+1))=ig (l.take i)+l[i].data.length:=by
 rw[kN h,qx];simp [ig]
theorem Gl (l:List aC) (i:Nat):ig (l.take i)<=ig l:=by
 have:=qx (l.take i) (l.drop i)
 rw[List.take_append_drop]at this;omega
theorem tJ (a b:List aC):xZ (a++b)↔xZ a/\xZ b/\∀f∈a,∀g∈b,f.name<g.name:=by
 unfold xZ Jp
 rw[List.pairwise_append]
 constructor
 ·rintro⟨h1,h2,h3,h4⟩
  exact⟨⟨fun f hf=>h1 f (List.mem_append_left _ hf),h2⟩,⟨fun f hf=>h1 f (List.mem_append_right _ hf),h3⟩,h4⟩
 ·rintro⟨⟨h1,h2⟩,⟨h3,h4⟩,h5⟩
  exact⟨fun f hf=>(List.mem_append.1 hf).elim (h1 f) (h3 f),h2,h4,h5⟩
theorem ZA (f:aC):xZ [f]↔okF f:=by simp [xZ,Jp]
theorem aeW {l:List aC} {i:Nat} (h:i<l.length):xZ (l.take (i+1))↔xZ (l.take i)/\okF l[i]/\(0<i->∀g:i - 1<l.length,l[i - 1].name<l[i].name):=by
 rw[kN h,tJ,ZA]
 constructor
 ·rintro⟨h1,h2,h3⟩
  exact⟨h1,h2,fun hi g=>h3 _ (by rw[List.mem_iff_getElem];exact⟨i - 1,by rw[List.length_take];omega,by simp⟩) _ (List.mem_singleton.2 rfl)⟩
 ·rintro⟨h1,h2,h3⟩
  refine⟨h1,h2,fun f hf g hg=> ?_⟩
  rw[List.mem_singleton.1 hg]
  obtain⟨j,hj,rfl⟩:=List.mem_iff_getElem.1 hf
  rw[List.length_take]at hj
  rw[List.getElem_take]
  have h4:=h3 (by omega) (by omega)
  by_cases e:j=i - 1
  ·subst e;exact h4
  ·have:=List.pairwise_iff_getElem.1 h1.2 j (i - 1) (by rw[List.length_take];omega) (by rw[List.length_take];omega) (by omega)
   rw[List.getElem_take,List.getElem_take]at this
   exact Ym this h4
theorem ahz {l:List aC} (h:xZ l) (i:Nat):xZ (l.take i):=by
 have:=(tJ (l.take i) (l.drop i)).1 (by rw[List.take_append_drop];exact h)
 exact this.1
theorem Aj {d:ak} (hn:nameB d):qw d=some (decide (gq d)):=by
 refine Wq.dec ?_
 unfold qw
 rw[fP]
 refine⟨fun h=>(ai _).2 ?_,fun h=> ?_⟩
 ·simp only[aW,bK,dn,dF,aY,aZ,dA,dB,bP,dJ,bn,bg,dM,dN,len]at h
  unfold gq
  constructor
  ·intro g;cases g
  ·rintro⟨g, -⟩;omega
 simp only[aW,bK,dn,dF,aY,aZ,dA,dB,bP,dJ,bn,bg,dM,dN,len]at h
 have hl:d.files.length<=64:=by omega
 refine Wq.bind (Q:=fun w=>match w with
  |.inl b=>b=false/\¬gq d
  |.inr _=>gq d)
  (lD (n:=d.files.length) (step:=fun v:Int×Int×Bool=>rQ (len d.files) d.files d v.1 v.2.1 v.2.2) (by omega)
    (fun i x=>xZ (d.files.take i)/\x.1=d.room - (ig (d.files.take i):Int)/\0<=x.1) _ ?_ ?_ _ 0 (Nat.zero_le _) ⟨by simp [xZ,Jp],by simp [ig],by simp only;omega⟩) ?_
 ·rintro i ⟨room,q⟩ hi ⟨h1,h2,h3⟩
  simp only at h2 h3
  simp only[rQ]
  rw[aA (by rw[eX];simpa using hi),aA (inb _ i hi),bC _ i hi,afG (hn _ (List.getElem_mem hi)),ah]
  have hu:=yX hi
  have hg:=aeW hi
  have e1:0<i->wr .i64 (aI (i:Int) 1)=((i - 1:Nat):Int):=fun h0=>by
   rw[aI,bM (by omega) (by omega)];omega
  have hgd:bor (band (ile 0 (wr .i64 (aI (i:Int) 1))) (ilt (wr .i64 (aI (i:Int) 1)) (len d.files))) (au (band (au (au (decide (jy d.files[i].name)))) (ilt 0 (i:Int))))=true:=by
   rw[dn]
   by_cases h0:0<i
   ·left;rw[e1 h0];exact inb _ _ (by omega)
   ·right;rw[aY,bK];right;exact Bz (by omega)
  rw[aA hgd,fP]
  have prev:(0<i->∀g:i - 1<d.files.length,d.files[i - 1].name<d.files[i].name)↔band (ilt 0 (i:Int)) (au (slt (aj d.files (itn (wr .i64 (aI (i:Int) 1)))).name d.files[i].name))=false:=by
   by_cases h0:0<i
   ·rw[e1 h0,bC _ _ (by omega:i - 1<d.files.length),Wi,Dn (by omega),EP,aZ,decide_eq_true_iff]
    exact⟨fun g=>g h0 (by omega),fun g _ _=>g⟩
   ·rw[Bz (by omega),QH];simp [h0]
  refine⟨fun hb=>(ai _).2 ⟨rfl,fun hd=> ?_⟩,fun hb=>(ai _).2 ?_⟩
  ·have g1:=(hg.1 (ahz hd.2.1 (i+1)))
   have g2:=prev.1 g1.2.2
   have g3:=Gl d.files (i+1)
   have g4:=hd.2.2
   obtain⟨k1,k2,k3⟩:=g1.2.1
   rw[g2]at hb
   simp only[aW,bK,dn,dF,aY,aZ,dA,dB,bP,dJ,bn,bg,dM,dN,decide_eq_false_iff_not,len]at hb k3
   rcases hb with (((hb | hb) | hb) | hb) | hb
   ·exact hb k1
   ·cases hb
   ·omega
   ·omega
   ·omega
  ·simp only[dF,aZ,decide_eq_true_iff]at hb
   obtain⟨⟨⟨⟨b1,b2⟩,b3⟩,b4⟩,b5⟩:=hb
   have b6:=prev.2 b2
   simp only[dB,len]at b3 b4 b5
   have e2:wr .i64 (aI room (len d.files[i].data))=room - (d.files[i].data.length:Int):=by
    rw[aI,bM (by simp only[len];omega) (by simp only[len];omega)];rfl
   refine⟨dG (by omega),hg.2 ⟨h1,⟨b1,b3,b4⟩,b6⟩,?_,?_⟩
   ·simp only;rw[e2,hu];omega
   ·simp only;rw[e2];omega
 ·rintro⟨room,q⟩ ⟨h1,h2,h3⟩
  simp only[rQ]
  rw[cZ (Nk _),ai]
  rw[List.take_length]at h1 h2
  simp only at h2 h3
  exact⟨by omega,h1,by omega⟩
 ·rintro(b | q) hw
  ·simp only[gX,ai];simp [hw.1,hw.2]
  ·simp only[gX,ai];simp [hw]
abbrev Nm:=List UInt8
def dm (l:List aC) (n:Nm):Option aC:=l.find? fun f=>decide (f.name=n)
def wW (n:Nm) (l:List aC):List aC:=l.filter fun f=>decide (f.name≠n)
def oV (f:aC):List aC->List aC
 |[]=>[f]
 |g::r=>if g.name<f.name then g::oV f r else f::wW f.name (g::r)
theorem BI {n:Nm} {l:List aC} (h:∀f∈l,f.name≠n):wW n l=l:=by
 unfold wW;rw[List.filter_eq_self];intro f hf;simpa using h f hf
theorem Vm (n:Nm) (a b:List aC):wW n (a++b)=wW n a++wW n b:=by simp [wW]
theorem I7 (n:Nm) (f:aC) (b:List aC):wW n (f::b)=if f.name=n then wW n b else f::wW n b:=by
 unfold wW;rw[List.filter_cons];by_cases h:f.name=n<;>simp [h]
theorem aay {n:Nm} {l:List aC} (h:∀f∈l,f.name≠n):dm l n=none:=by
 unfold dm;rw[List.find?_eq_none];intro f hf;simpa using h f hf
theorem acM {n:Nm} {a:List aC} (h:∀f∈a,f.name≠n) (b:List aC):dm (a++b) n=dm b n:=by
 unfold dm;rw[List.find?_append]
 have:=aay h
 unfold dm at this
 rw[this];rfl
theorem qg (n:Nm) (f:aC) (b:List aC):dm (f::b) n=if f.name=n then some f else dm b n:=by
 unfold dm;rw[List.find?_cons];by_cases h:f.name=n<;>simp [h]
theorem wZ {n:Nm} {l:List aC} {f:aC} (h:dm l n=some f):f∈l/\f.name=n:=
 ⟨List.mem_of_find?_eq_some h,by simpa using List.find?_some h⟩
theorem Ua {a b:Nm} (h:a<b):a≠b:=fun e=>V8 _ (e▸h)
inductive mg (n:Nm):List aC->Nat->Option aC->Prop
 |no (a b:List aC) (ha:∀f∈a,f.name<n) (hb:∀f∈b,n<f.name):mg n (a++b) a.length none
 |yes (a:List aC) (f:aC) (b:List aC) (e:f.name=n) (ha:∀f∈a,f.name<n) (hb:∀f∈b,n<f.name):mg n (a++f::b) a.length (some f)
theorem mg.get {n:Nm} {l:List aC} {i:Nat} {o:Option aC} (h:mg n l i o):dm l n=o:=by
 cases h with
 |no a b ha hb=>exact aay fun f hf=>(List.mem_append.1 hf).elim (fun h=>Ua (ha f h)) (fun h=>(Ua (hb f h)).symm)
 |yes a f b e ha hb=>rw[acM fun f h=>Ua (ha f h),qg,if_pos e]
theorem mg.le {n:Nm} {l:List aC} {i:Nat} {o:Option aC} (h:mg n l i o):i<=l.length:=by
 cases h<;>simp
theorem mg.lt {n:Nm} {l:List aC} {i:Nat} {f:aC} (h:mg n l i (some f)):∃g:i<l.length,l[i]=f/\f.name=n:=by
 cases h with
 |yes a f b e ha hb=>exact⟨by simp,by simp,e⟩
theorem vN {f:aC} {a:List aC} (ha:∀g∈a,g.name<f.name) (b:List aC):oV f (a++b)=a++oV f b:=by
 induction a with
 |nil=>rfl
 |cons g a ih=>
  rw[List.cons_append,oV,if_pos (ha g (List.mem_cons_self ..)),ih fun g hg=>ha g (List.mem_cons_of_mem _ hg)];rfl
theorem GX {f:aC} {b:List aC} (hb:∀g∈b,f.name<g.name):oV f b=f::b:=by
 cases b with
 |nil=>rfl
 |cons g b=>rw[oV,if_neg fun h=>V8 _ (Ym h (hb g (List.mem_cons_self ..))),BI fun g hg=>(Ua (hb g hg)).symm]
theorem V7 {f g:aC} {b:List aC} (e:g.name=f.name) (hb:∀g∈b,f.name<g.name):oV f (g::b)=f::b:=by
 rw[oV,if_neg (e▸V8 _),I7,if_pos e,BI fun g hg=>(Ua (hb g hg)).symm]
theorem mg.ins {n:Nm} {l:List aC} {i:Nat} {f:aC} (h:mg n l i none) (e:f.name=n):l.take i++f::l.drop i=oV f l:=by
 subst e
 cases h with
 |no a b ha hb=>rw[vN ha,GX hb];simp
theorem mg.set {n:Nm} {l:List aC} {i:Nat} {f g:aC} (h:mg n l i (some g)) (e:f.name=n):l.set i f=oV f l:=by
 subst e
 cases h with
 |yes a g b e ha hb=>rw[vN ha,V7 e hb];simp
theorem mg.del {n:Nm} {l:List aC} {i:Nat} {g:aC} (h:mg n l i (some g)):l.eraseIdx i=wW n l:=by
 cases h with
 |yes a g b e ha hb=>
  rw[Vm,I7,if_pos e,BI fun g hg=>Ua (ha g hg),BI fun g hg=>(Ua (hb g hg)).symm,List.eraseIdx_append_of_length_le (Nat.le_refl _)];simp
theorem abp {l:List aC} (h:Jp l) {i j:Nat} (hij:i<j) (hj:j<l.length):l[i].name<l[j].name:=
 List.pairwise_iff_getElem.1 h i j (by omega) hj hij
end Go.Av
