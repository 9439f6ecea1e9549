/- The plain law, part 0. No condition. -/
import Derived.Test.YtcodkbclgbcehaaGreatDoorDGateDisk
import Derived.KernelRfl
set_option linter.unusedVariables false
set_option linter.unusedSimpArgs false
set_option linter.unnecessarySimpa false
namespace Go.Av
open Go
theorem WH {V W:Type} {step:V->Option (V ⊕ W)} (μ:V->Nat) (I:V->Prop) (R:W->Prop)
 (h:∀v,I v->(∃v',step v=some (.inl v')/\I v'/\μ v'<μ v)\/∃w,step v=some (.inr w)/\R w):∀(n:Nat) (v:V),μ v<n->I v->∃w,bD step n v=some w/\R w
 |0,v,hn,_=>by omega
 |n+1,v,hn,hI=>by
  rcases h v hI with ⟨v',h1,h2,h3⟩ | ⟨w,h1,h2⟩
  ·obtain⟨w,g1,g2⟩:=WH μ I R h n v' (by omega) h2
   exact⟨w,by rw[bD,h1];exact g1,g2⟩
  ·exact⟨w,by rw[bD,h1];rfl,h2⟩
theorem ZH {n:Nat} (h:n<1000000):n<LF:=Nat.lt_trans h (by decide)
theorem Jo {n:Int} (h:inI n):wr .i64 n=n:=by
 unfold inI at h
 unfold wr IntKind.wrap
 simp [IntKind.bits,IntKind.signed]
 omega
theorem abw {n:Int} (h1: -18446744073709551616<=n) (h2:n<=18446744073709551616):
 (inI n/\wr .i64 n=n)\/(9223372036854775807<n/\wr .i64 n=n - 18446744073709551616)\/(n< -9223372036854775808/\wr .i64 n=n+18446744073709551616):=by
 unfold inI wr IntKind.wrap
 simp [IntKind.bits,IntKind.signed]
 omega
theorem zo (n:Int):wr .u64 n=n%18446744073709551616:=by
 unfold wr IntKind.wrap
 simp [IntKind.bits,IntKind.signed]
theorem dA {n:Int} (h1:0<=n) (h2:n<1000000000000):wr .i64 n=n:=Jo ⟨by omega,by omega⟩
theorem aI {α:Type} {b:Bool} {x y:α} (h:b=true):cnd b x y=x:=by subst h;rfl
theorem dD {α:Type} {b:Bool} {x y:α} (h:b=false):cnd b x y=y:=by subst h;rfl
theorem KA {α:Type} (b:Bool) (x y:α):cnd b x y=if b=true then x else y:=by cases b<;>rfl
theorem kM {α:Type} (a b:Int) (x y:α):cnd (ieq a b) x y=if a=b then x else y:=by
 by_cases h:a=b
 ·rw[if_pos h,show ieq a b=true by simp [ieq,h]];rfl
 ·rw[if_neg h,show ieq a b=false by simp [ieq,h]];rfl
theorem Kt {α:Type} (a b:Int) (x y:α):cnd (ilt a b) x y=if a<b then x else y:=by
 by_cases h:a<b
 ·rw[if_pos h,show ilt a b=true by simp [ilt,h]];rfl
 ·rw[if_neg h,show ilt a b=false by simp [ilt,h]];rfl
theorem jZ {α:Type} (b:Bool) (x y:α):cnd (aj b) x y=cnd b y x:=by cases b<;>rfl
theorem CS {α:Type} (P:Prop) [Decidable P] (x y:α):cnd (decide P) x y=if P then x else y:=by
 by_cases h:P
 ·rw[if_pos h,decide_eq_true h];rfl
 ·rw[if_neg h,decide_eq_false h];rfl
instance (n:Int):Decidable (inI n):=by unfold inI;infer_instance
theorem au {α β:Type} (a:α) (f:α->Option β):af (some a) f=f a:=rfl
theorem akb {α β:Type} (p:Prop) [Decidable p] (x y:Option α) (f:α->Option β):af (if p then x else y) f=if p then af x f else af y f:=by split<;>rfl
theorem DZ {a b:Int} (h:a<b):ilt a b=true:=decide_eq_true h
theorem BI {a b:Int} (h:¬a<b):ilt a b=false:=decide_eq_false h
theorem lm {a b:Int} (h:a<=b):ile a b=true:=decide_eq_true h
theorem JX {a b:Int} (h:¬a<=b):ile a b=false:=decide_eq_false h
theorem KF (a:Int):ieq a a=true:=by simp [ieq]
theorem Gu {a b:Bool} (h1:a=true) (h2:b=true):band a b=true:=by subst h1;subst h2;rfl
theorem bJ {α:Type} [Inhabited α] (l:List α) (i:Nat) (h:i<l.length):ah l (itn (i:Int))=l[i]:=by
 simp [ah,itn,h]
theorem inb {α:Type} (l:List α) (i:Nat) (h:i<l.length):band (ile 0 (i:Int)) (ilt (i:Int) (len l))=true:=Gu (lm (by omega)) (DZ (by simp only[len];omega))
theorem bg (a b:Bool):(band a b=true)=(a=true/\b=true):=by cases a<;>cases b<;>simp [band]
theorem bP (a b:Bool):(band a b=false)=(a=false\/b=false):=by cases a<;>cases b<;>simp [band]
theorem dh (a b:Bool):(bor a b=true)=(a=true\/b=true):=by cases a<;>cases b<;>simp [bor]
theorem dB (a b:Bool):(bor a b=false)=(a=false/\b=false):=by cases a<;>cases b<;>simp [bor]
theorem bn (a:Bool):(aj a=true)=(a=false):=by cases a<;>simp [aj]
theorem aY (a:Bool):(aj a=false)=(a=true):=by cases a<;>simp [aj]
theorem dn (a b:Int):(ilt a b=true)=(a<b):=by simp [ilt]
theorem dG (a b:Int):(ilt a b=false)=(b<=a):=by simp [ilt]
theorem bZ (a b:Int):(ile a b=true)=(a<=b):=by simp [ile]
theorem dL (a b:Int):(ile a b=false)=(b<a):=by simp [ile]
theorem bF (a b:Int):(ieq a b=true)=(a=b):=by simp [ieq]
theorem bH (a b:Int):(ieq a b=false)=(a≠b):=by simp [ieq]
theorem dJ (a b:Bool):(beq a b=true)=(a=b):=by simp [beq]
theorem dO (a b:Bool):(beq a b=false)=(a≠b):=by simp [beq]
theorem aic (a b:List UInt8):(seq a b=true)=(a=b):=by simp [seq]
theorem ajG (a b:List UInt8):(seq a b=false)=(a≠b):=by simp [seq]
def Wq {α:Type} (o:Option α) (Q:α->Prop):Prop:=∃a,o=some a/\Q a
theorem ak {α:Type} {Q:α->Prop} (a:α):Wq (some a) Q↔Q a:=⟨fun⟨_,h,q⟩=>by cases h;exact q,fun h=>⟨a,rfl,h⟩⟩
theorem gJ {α:Type} {Q:α->Prop} (c:Bool) (x y:Option α):Wq (cnd c x y) Q↔(c=true->Wq x Q)/\(c=false->Wq y Q):=by
 cases c<;>simp [cnd]
theorem pW {α β:Type} {Q:β->Prop} (o:Option α) (f:α->Option β):Wq (af o f) Q↔Wq o fun a=>Wq (f a) Q:=by
 cases o with
 |none=>simp [af,Wq]
 |some a=>simp [af,ak]
theorem Wq.mono {α:Type} {Q R:α->Prop} {o:Option α} (h:Wq o Q) (hq:∀a,Q a->R a):Wq o R:=by
 obtain⟨a,e,q⟩:=h
 exact⟨a,e,hq a q⟩
theorem Wq.bind {α β:Type} {Q:α->Prop} {R:β->Prop} {o:Option α} {f:α->Option β} (h:Wq o Q) (hq:∀a,Q a->Wq (f a) R):Wq (af o f) R:=(pW o f).2 (h.mono hq)
theorem Wq.eq {α:Type} {o:Option α} {a:α} (h:Wq o fun x=>x=a):o=some a:=by obtain⟨x,e,rfl⟩:=h;exact e
theorem Wq.dec {o:Option Bool} {P:Prop} [Decidable P] (h:Wq o fun b=>b=true↔P):o=some (decide P):=by
 obtain⟨b,e,q⟩:=h
 rw[e];congr 1
 cases b<;>simp_all
theorem Vo {V W:Type} {step:V->Option (V ⊕ W)} (μ:V->Nat) (I:V->Prop) (R:W->Prop)
 (h:∀v,I v->Wq (step v) fun r=>match r with | .inl v'=>I v'/\μ v'<μ v | .inr w=>R w) (n:Nat) (v:V) (hn:μ v<n) (hi:I v):Wq (bD step n v) R:=
 WH μ I R (fun v hv=>by
  obtain⟨r,e,q⟩:=h v hv
  match r,e,q with
  |.inl v',e,q=>exact .inl ⟨v',e,q.1,q.2⟩
  |.inr w,e,q=>exact .inr ⟨w,e,q⟩) n v hn hi
theorem dZ {i:Nat} (h:i<1000000):wr .i64 (ai (i:Int) 1)=((i+1:Nat):Int):=by
 unfold ai
 rw[dA (by omega) (by omega)];omega
theorem eP {α:Type} (l:List α) (i:Nat):ilt (i:Int) (len l)=decide (i<l.length):=by
 simp [ilt,len]
theorem nD {W X:Type} {step:Int×X->Option ((Int×X) ⊕ W)} {n:Nat} (hn:n<999999) (J:Nat->X->Prop) (R:W->Prop)
 (h:∀i x,i<n->J i x->Wq (step ((i:Int),x)) fun r=>match r with | .inl (k,x')=>k=((i+1:Nat):Int)/\J (i+1) x' | .inr w=>R w)
 (he:∀x,J n x->Wq (step ((n:Int),x)) fun r=>match r with | .inl _=>False | .inr w=>R w)
 (x:X) (i0:Nat) (hi0:i0<=n) (hx:J i0 x):Wq (bD step LF ((i0:Int),x)) R:=by
 refine Vo (fun v:Int×X=>n - v.1.toNat) (fun v:Int×X=>∃i:Nat,v.1=(i:Int)/\i<=n/\J i v.2) R ?_ LF _ (ZH (by simp only;omega)) ⟨i0,rfl,hi0,hx⟩
 rintro⟨k,y⟩ ⟨i,rfl,hi,hj⟩
 by_cases hlt:i<n
 ·refine(h i y hlt hj).mono fun r hr=> ?_
  match r,hr with
  |.inl (k,x'),hr=>
   obtain⟨rfl,h2⟩:=hr
   exact⟨⟨i+1,rfl,hlt,h2⟩,by simp only[Int.toNat_natCast];omega⟩
  |.inr w,hr=>exact hr
 ·obtain rfl:i=n:=by omega
  refine(he y hj).mono fun r hr=> ?_
  match r,hr with
  |.inl _,hr=>exact hr.elim
  |.inr w,hr=>exact hr
theorem pV {α:Type} {l:List α} (h:l.length<1000000):JH (len l) (fun y0=>cnd (beq y0 true) (some []) (cnd (ile (len l) 68719476736) (some l) none))=some l:=by
 unfold JH
 have hc:ile (len l) 68719476736=true:=lm (by simp only[len];omega)
 simp only[aI hc]
 by_cases h0:len l=0
 ·have:l=[]:=List.eq_nil_of_length_eq_zero (by simp only[len]at h0;omega)
  subst this
  simp [len,cnd,beq,ile]
 ·rw[if_neg h0]
  simp [cnd,beq]
theorem bI {α:Type} (x y:α):cnd true x y=x:=rfl
theorem aU {α:Type} (x y:α):cnd false x y=y:=rfl
theorem aS:aj true=false:=rfl
theorem bC:aj false=true:=rfl
theorem Ib (b:Bool):band true b=b:=rfl
theorem VF (b:Bool):band false b=false:=rfl
theorem um (b:Bool):bor true b=true:=rfl
theorem fP (b:Bool):bor false b=b:=rfl
theorem nM:ieq 0 0=true:=rfl
theorem zy:ieq 3 0=false:=rfl
theorem wP {α:Type} (l:List α) (i:Nat) (x:α):(aZ l i x).length=l.length:=by simp [aZ]
theorem Fb (i:Nat):itn (i:Int)=i:=by simp [itn]
theorem lV {a b:Int} (ha:inI a) (hb:inI b):nI a b=some (if inI (a+b)then (a+b,0)else (0,3)):=by
 unfold inI at ha hb
 unfold nI ai
 rcases abw (n:=a+b) (by omega) (by omega)with ⟨h,e⟩ | ⟨h,e⟩ | ⟨h,e⟩<;>rw[e,KA]<;>simp only[bg,bP,dh,dB,bn,aY,dn,dG,bZ,dL,bF,bH,dJ,dO]
 ·rw[if_pos h,if_neg]
  rintro⟨h1,h2⟩;unfold inI at h;exact h1 (decide_eq_decide.2 (by omega))
 ·rw[if_pos,if_neg (by unfold inI;omega)]
  exact⟨fun h1=>by have:=decide_eq_decide.1 h1;omega,by omega⟩
 ·rw[if_pos,if_neg (by unfold inI;omega)]
  exact⟨fun h1=>by have:=decide_eq_decide.1 h1;omega,by omega⟩
theorem Dv {a b:Int} (ha:inI a) (hb:inI b):vV a b=some (if inI (a - b)then (a - b,0)else (0,3)):=by
 unfold inI at ha hb
 unfold vV aA
 rcases abw (n:=a - b) (by omega) (by omega)with ⟨h,e⟩ | ⟨h,e⟩ | ⟨h,e⟩<;>rw[e,KA]<;>simp only[bg,bP,dh,dB,bn,aY,dn,dG,bZ,dL,bF,bH,dJ,dO]
 ·rw[if_pos h,if_neg]
  rintro⟨h1,h2⟩;unfold inI at h;exact h1 (decide_eq_decide.2 (by omega))
 ·rw[if_pos,if_neg (by unfold inI;omega)]
  exact⟨fun h1=>by have:=decide_eq_decide.1 h1;omega,by omega⟩
 ·rw[if_pos,if_neg (by unfold inI;omega)]
  exact⟨fun h1=>by have:=decide_eq_decide.1 h1;omega,by omega⟩
theorem X6 (a b:Int):H7 a b=some (max a b):=by
 unfold H7 imax
 congr 1
 by_cases h:b>a
 ·rw[if_pos h];omega
 ·rw[if_neg h];omega
theorem half (n:Int) (h1:0<=n) (h2:n<18446744073709551616):∃a b:Int,n=a*4294967296+b/\0<=a/\a<4294967296/\0<=b/\b<4294967296/\bQ .u64 n 32=a/\wr .u64 (mr .u64 n 4294967295)=b:=by
 refine⟨n / 4294967296,n%4294967296,by omega,by omega,by omega,by omega,by omega,?_,?_⟩
 ·unfold bQ
  have:min (Int.toNat 32) (IntKind.bits .u64)=32:=by decide
  rw[this,Int.fdiv_eq_ediv_of_nonneg _ (by decide)]
  rfl
 ·unfold mr
  rw[zo]
  have e:(BitVec.ofInt (IntKind.bits .u64) n &&& BitVec.ofInt (IntKind.bits .u64) 4294967295).toNat=n.toNat%4294967296:=by
   rw[BitVec.toNat_and]
   have:(BitVec.ofInt (IntKind.bits .u64) 4294967295).toNat=2^32 - 1:=by decide
   rw[this,Nat.and_two_pow_sub_one_eq_mod]
   rw[BitVec.toNat_ofInt]
   congr 1
   have:(n%(2^(IntKind.bits .u64):Nat))=n:=Int.emod_eq_of_lt h1 (by simpa [IntKind.bits] using h2)
   rw[this]
  rw[e];omega
theorem ahH {x y:Int} (hx:0<=x) (hx2:x<18446744073709551616) (hy:0<=y) (hy2:y<18446744073709551616):
 oQ x y=some (x*y / 18446744073709551616,x*y%18446744073709551616):=by
 obtain⟨a,b,e1,a1,a2,b1,b2,s1,s2⟩:=half x hx hx2
 obtain⟨c,d,e2,c1,c2,d1,d2,t1,t2⟩:=half y hy hy2
 unfold oQ
 rw[s1,s2,t1,t2]
 unfold fQ ai
 have m1:0<=a*c/\a*c<=4294967295*4294967295:=⟨Int.mul_nonneg a1 c1,Int.mul_le_mul (by omega) (by omega) c1 (by omega)⟩
 have m2:0<=a*d/\a*d<=4294967295*4294967295:=⟨Int.mul_nonneg a1 d1,Int.mul_le_mul (by omega) (by omega) d1 (by omega)⟩
 have m3:0<=b*c/\b*c<=4294967295*4294967295:=⟨Int.mul_nonneg b1 c1,Int.mul_le_mul (by omega) (by omega) c1 (by omega)⟩
 have m4:0<=b*d/\b*d<=4294967295*4294967295:=⟨Int.mul_nonneg b1 d1,Int.mul_le_mul (by omega) (by omega) d1 (by omega)⟩
 have mm:x*y=a*c*18446744073709551616+(a*d+b*c)*4294967296+b*d:=by
  subst e1 e2
  simp only[Int.add_mul,Int.mul_add]
  have q1:a*4294967296*(c*4294967296)=a*c*18446744073709551616:=by
   rw[Int.mul_assoc,Int.mul_left_comm 4294967296,<-Int.mul_assoc,<-Int.mul_assoc];omega
  have q2:a*4294967296*d=a*d*4294967296:=by rw[Int.mul_assoc,Int.mul_comm 4294967296,<-Int.mul_assoc]
  have q3:b*(c*4294967296)=b*c*4294967296:=by rw[<-Int.mul_assoc]
  rw[q1,q2,q3];omega
 rw[mm]
 generalize a*c=p at*
 generalize a*d=q at*
 generalize b*c=r at*
 generalize b*d=t at*
 have sh:∀n:Int,0<=n->n<18446744073709551616->bQ .u64 n 32=n / 4294967296:=fun n h1 h2=>by
  obtain⟨u,v,h3,h4,h5,h6,h7,h8,_⟩:=half n h1 h2
  rw[h8];omega
 have la:∀n:Int,0<=n->n<18446744073709551616->wr .u64 (mr .u64 n 4294967295)=n%4294967296:=fun n h1 h2=>by
  obtain⟨u,v,h3,h4,h5,h6,h7,_,h8⟩:=half n h1 h2
  rw[h8];omega
 simp only[zo p,zo q,zo r,zo t]
 rw[Int.emod_eq_of_lt (a:=p) m1.1 (by omega),Int.emod_eq_of_lt (a:=q) m2.1 (by omega),Int.emod_eq_of_lt (a:=r) m3.1 (by omega),Int.emod_eq_of_lt (a:=t) m4.1 (by omega)]
 rw[sh t m4.1 (by omega)]
 rw[zo (q+t / 4294967296),Int.emod_eq_of_lt (a:=q+t / 4294967296) (by omega) (by omega)]
 rw[sh (q+t / 4294967296) (by omega) (by omega),la (q+t / 4294967296) (by omega) (by omega)]
 rw[zo (p+_),Int.emod_eq_of_lt (a:=p+(q+t / 4294967296) / 4294967296) (by omega) (by omega)]
 rw[zo ((q+t / 4294967296)%4294967296+r),Int.emod_eq_of_lt (a:=(q+t / 4294967296)%4294967296+r) (by omega) (by omega)]
 rw[sh _ (by omega) (by omega)]
 rw[zo,zo]
 congr 2<;>omega
theorem VQ {a:Int} (ha:inI a):Ea a=some (a.natAbs:Int):=by
 unfold inI at ha
 unfold Ea aA
 rw[KA];simp only[dn,zo]
 split
 ·congr 1;omega
 ·congr 1;omega
theorem WE {a b:Int} (ha:inI a) (hb:inI b):G6 a b=some (if inI (a*b)then (a*b,0)else (0,3)):=by
 unfold G6
 rw[VQ ha,VQ hb,au,au,ahH (by omega) (by unfold inI at ha;omega) (by omega) (by unfold inI at hb;omega),au]
 have hm:(a.natAbs:Int)*(b.natAbs:Int)=((a*b).natAbs:Int):=by rw[Int.natAbs_mul];rfl
 have hn:(a.natAbs:Int)*(b.natAbs:Int)<=9223372036854775808*9223372036854775808:=Int.mul_le_mul (by unfold inI at ha;omega) (by unfold inI at hb;omega) (by omega) (by omega)
 rw[hm]at hn ⊢
 have hs:(decide (a<0)=decide (b<0)->0<=a*b)/\(decide (a<0)≠decide (b<0)->a*b<=0):=by
  constructor
  ·intro h
   by_cases h1:a<0
   ·have h2:b<0:=by simpa [h1] using h
    exact Int.mul_nonneg_of_nonpos_of_nonpos (by omega) (by omega)
   ·have h2:¬b<0:=by simpa [h1] using h
    exact Int.mul_nonneg (by omega) (by omega)
  ·intro h
   by_cases h1:a<0
   ·have h2:¬b<0:=by simpa [h1] using h
    exact Int.mul_nonpos_of_nonpos_of_nonneg (by omega) (by omega)
   ·have h2:b<0:=by simpa [h1] using h
    exact Int.mul_nonpos_of_nonneg_of_nonpos (by omega) (by omega)
 generalize a*b=p at*
 simp only[KA,bg,bP,dh,dB,bn,aY,dn,dG,bZ,dL,bF,bH,dJ,dO,aA,zo,ne_eq]
 unfold ilt at*
 by_cases hd:decide (a<0)=decide (b<0)
 ·have hp:=hs.1 hd
  rw[if_neg (fun h=>h.1.2 hd)]
  by_cases hr:p<=9223372036854775807
  ·rw[if_pos (by omega),if_pos ⟨by omega,by omega⟩,Jo ⟨by omega,by omega⟩]
   congr 2;omega
  ·rw[if_neg (by omega),if_neg (by unfold inI;omega)]
 ·have hp:=hs.2 hd
  by_cases hr: -9223372036854775808<=p
  ·rw[if_pos ⟨⟨by omega,hd⟩,by omega⟩,if_pos ⟨by omega,by omega⟩]
   congr 2
   rcases abw (n:=(0 - ((p.natAbs:Int)%18446744073709551616))%18446744073709551616) (by omega) (by omega)with ⟨h,e⟩ | ⟨h,e⟩ | ⟨h,e⟩<;>rw[e]<;>unfold inI at* <;>omega
  ·rw[if_neg (by omega),if_neg (by omega),if_neg (by unfold inI;omega)]
def qL (n:Int):Prop:=1<=n/\n<=1000000000000
def vN (r:iT):Prop:=
 (r.kind=1/\qL r.order/\(0<=r.account/\r.account<8)/\(0<=r.symbol/\r.symbol<8)/\(r.side=1\/r.side=2)/\1<=r.qty/\1<=r.price/\r.long=0/\r.short=0/\r.opn=0/\r.on=false/\r.seq=0/\r.what=0)\/
 (r.kind=2/\qL r.order/\r.account=0/\r.symbol=0/\r.side=0/\1<=r.qty/\1<=r.price/\r.long=0/\r.short=0/\r.opn=0/\r.on=false/\r.seq=0/\r.what=0)\/
 (r.kind=3/\qL r.order/\r.account=0/\r.symbol=0/\r.side=0/\r.qty=0/\r.price=0/\r.long=0/\r.short=0/\r.opn=0/\r.on=false/\r.seq=0/\r.what=0)\/
 (r.kind=4/\r.order=0/\(0<=r.account/\r.account<8)/\((r.symbol= -1/\r.long=0/\r.short=0)\/(0<=r.symbol/\r.symbol<8))/\r.side=0/\r.qty=0/\r.price=0/\0<=r.long/\0<=r.short/\0<=r.opn/\r.on=false/\r.seq=0/\r.what=0)\/
 (r.kind=5/\r.order=0/\r.account=0/\r.symbol=0/\r.side=0/\r.qty=0/\r.price=0/\r.long=0/\r.short=0/\r.opn=0/\r.seq=0/\r.what=0)\/
 (r.kind=6/\qL r.order/\r.account=0/\r.symbol=0/\r.side=0/\r.long=0/\r.short=0/\r.opn=0/\r.on=false/\(1<=r.seq/\r.seq<=1000000000)/\
   ((r.what=3/\1<=r.qty/\r.price=0)\/(r.what=5/\1<=r.qty/\1<=r.price)\/((r.what=1\/r.what=2\/r.what=4\/r.what=6)/\r.qty=0/\r.price=0)))
theorem agy (a b c:Int):(0<=eU (eU a b) c)↔0<=a/\0<=b/\0<=c:=by
 unfold eU;split<;>split<;>omega
theorem aaw (r:iT):Wq (EM r) fun b=>b=true↔qL r.order/\(1<=r.seq/\r.seq<=1000000000)/\
 ((r.what=3/\1<=r.qty/\r.price=0)\/(r.what=5/\1<=r.qty/\1<=r.price)\/((r.what=1\/r.what=2\/r.what=4\/r.what=6)/\r.qty=0/\r.price=0)):=by
 unfold EM lM ny
 by_cases h1:1<=r.seq/\r.seq<=1000000000
 ·rw[aI (b:=aj (bor (ilt r.seq 1) (ilt 1000000000 r.seq))) (by simp only[bg,bP,dh,dB,bn,aY,dn,dG,bZ,dL,bF,bH,dJ,dO];omega),au]
  by_cases h2:qL r.order
  ·rw[show band (ile 1 r.order) (ile r.order 1000000000000)=true by simp only[bg,bP,dh,dB,bn,aY,dn,dG,bZ,dL,bF,bH,dJ,dO];exact h2,dD (by simp only[bg,bP,dh,dB,bn,aY,dn,dG,bZ,dL,bF,bH,dJ,dO];exact⟨by omega,trivial⟩)]
   by_cases k3:r.what=3
   ·rw[aI (by rw[bF];exact k3),ak];simp only[h1,h2,true_and,bg,bP,dh,dB,bn,aY,dn,dG,bZ,dL,bF,bH,dJ,dO];omega
   rw[dD (by rw[bH];exact k3)]
   by_cases k5:r.what=5
   ·rw[aI (by rw[bF];exact k5),au,ak];simp only[h1,h2,true_and,bg,bP,dh,dB,bn,aY,dn,dG,bZ,dL,bF,bH,dJ,dO];omega
   rw[dD (by rw[bH];exact k5)]
   by_cases k1:r.what=1
   ·rw[aI (by rw[bF];exact k1),aI (by rw[bF];exact k1),ak];simp only[h1,h2,true_and,bg,bP,dh,dB,bn,aY,dn,dG,bZ,dL,bF,bH,dJ,dO];omega
   rw[dD (by rw[bH];exact k1)]
   by_cases k2:r.what=2
   ·rw[aI (by rw[bF];exact k2),aI (by rw[bF];exact k2),ak];simp only[h1,h2,true_and,bg,bP,dh,dB,bn,aY,dn,dG,bZ,dL,bF,bH,dJ,dO];omega
   rw[dD (by rw[bH];exact k2)]
   by_cases k4:r.what=4
   ·rw[aI (by rw[bF];exact k4),aI (by rw[bF];exact k4),ak];simp only[h1,h2,true_and,bg,bP,dh,dB,bn,aY,dn,dG,bZ,dL,bF,bH,dJ,dO];omega
   rw[dD (by rw[bH];exact k4)]
   by_cases k6:r.what=6
   ·rw[aI (by rw[bF];exact k6),ak];simp only[h1,h2,true_and,bg,bP,dh,dB,bn,aY,dn,dG,bZ,dL,bF,bH,dJ,dO];omega
   rw[dD (by rw[bH];exact k6),ak]
   simp only[h1,h2,true_and,Bool.false_eq_true,false_iff];omega
  ·rw[show band (ile 1 r.order) (ile r.order 1000000000000)=false by simp only[bg,bP,dh,dB,bn,aY,dn,dG,bZ,dL,bF,bH,dJ,dO];unfold qL at h2;omega,aI (by simp only[bg,bP,dh,dB,bn,aY,dn,dG,bZ,dL,bF,bH,dJ,dO,or_true]),ak]
   simp [h2]
 ·rw[dD (b:=aj (bor (ilt r.seq 1) (ilt 1000000000 r.seq))) (by simp only[bg,bP,dh,dB,bn,aY,dn,dG,bZ,dL,bF,bH,dJ,dO];omega),au,aI (by simp only[bg,bP,dh,dB,bn,aY,dn,dG,bZ,dL,bF,bH,dJ,dO,or_true]),ak]
  simp [h1]
theorem uJ (r:iT):Wq (lQ r) fun b=>b=true↔vN r:=by
 unfold lQ IB
 obtain⟨ev,he,hq⟩:=aaw r
 by_cases k1:r.kind=1
 ·have e1:ieq r.kind 1=true:=by rw[bF];exact k1
  simp only[e1,bI,au]
  simp only[pW,gJ,ak,bg,bP,dh,dB,bn,aY,dn,dG,bZ,dL,bF,bH,dJ,dO,true_implies,ne_eq,not_true_eq_false,false_implies,and_true,true_and,or_self,reduceCtorEq,lM,nC,ny,vN,qL];grind
 have e1:ieq r.kind 1=false:=by rw[bH];exact k1
 by_cases k2:r.kind=2
 ·have e2:ieq r.kind 2=true:=by rw[bF];exact k2
  simp only[e1,e2,bI,aU,au]
  simp only[pW,gJ,ak,bg,bP,dh,dB,bn,aY,dn,dG,bZ,dL,bF,bH,dJ,dO,true_implies,ne_eq,not_true_eq_false,false_implies,and_true,true_and,or_self,reduceCtorEq,lM,nC,ny,vN,qL];grind
 have e2:ieq r.kind 2=false:=by rw[bH];exact k2
 by_cases k3:r.kind=3
 ·have e3:ieq r.kind 3=true:=by rw[bF];exact k3
  simp only[e1,e2,e3,bI,aU,au]
  simp only[pW,gJ,ak,bg,bP,dh,dB,bn,aY,dn,dG,bZ,dL,bF,bH,dJ,dO,true_implies,ne_eq,not_true_eq_false,false_implies,and_true,true_and,or_self,reduceCtorEq,lM,nC,ny,vN,qL];grind
 have e3:ieq r.kind 3=false:=by rw[bH];exact k3
 by_cases k4:r.kind=4
 ·have e4:ieq r.kind 4=true:=by rw[bF];exact k4
  simp only[e1,e2,e3,e4,bI,aU,au]
  simp only[pW,gJ,ak,bg,bP,dh,dB,bn,aY,dn,dG,bZ,dL,bF,bH,dJ,dO,true_implies,ne_eq,not_true_eq_false,false_implies,and_true,true_and,or_self,reduceCtorEq,lM,nC,ny,vN,qL,agy];grind
 have e4:ieq r.kind 4=false:=by rw[bH];exact k4
 by_cases k5:r.kind=5
 ·have e5:ieq r.kind 5=true:=by rw[bF];exact k5
  simp only[e1,e2,e3,e4,e5,bI,aU,au]
  simp only[pW,gJ,ak,bg,bP,dh,dB,bn,aY,dn,dG,bZ,dL,bF,bH,dJ,dO,true_implies,ne_eq,not_true_eq_false,false_implies,and_true,true_and,or_self,reduceCtorEq,lM,nC,ny,vN,qL];grind
 have e5:ieq r.kind 5=false:=by rw[bH];exact k5
 by_cases k6:r.kind=6
 ·have e6:ieq r.kind 6=true:=by rw[bF];exact k6
  simp only[e1,e2,e3,e4,e5,e6,bI,aU,au,he]
  simp only[pW,gJ,ak,bg,bP,dh,dB,bn,aY,dn,dG,bZ,dL,bF,bH,dJ,dO,true_implies,ne_eq,not_true_eq_false,false_implies,and_true,true_and,or_self,reduceCtorEq,vN,hq];grind
 have e6:ieq r.kind 6=false:=by rw[bH];exact k6
 simp only[e1,e2,e3,e4,e5,e6,bI,aU,au]
 simp only[pW,gJ,ak,bg,bP,dh,dB,bn,aY,dn,dG,bZ,dL,bF,bH,dJ,dO,true_implies,ne_eq,not_true_eq_false,false_implies,and_true,true_and,or_self,reduceCtorEq,vN];grind
def NQ (o:aG):Prop:=(1<=o.id/\o.id<=1000000000000)/\(0<=o.account/\o.account<8)/\(0<=o.symbol/\o.symbol<8)/\(o.side=1\/o.side=2)/\1<=o.qty/\1<=o.price
theorem V8 (o:aG):Wq (Bd o) fun b=>b=true↔NQ o:=by
 unfold Bd
 rw[pW]
 refine(uJ _).mono fun b hb=> ?_
 rw[ak,hb]
 simp [vN,NQ,qL]
def tC (o:aG):Prop:=o.newQty≠0\/o.newPrice≠0
instance (o:aG):Decidable (tC o):=by unfold tC;infer_instance
instance (o:aG):Decidable (NQ o):=by unfold NQ;infer_instance
theorem Jg (o:aG):Wq (iK o) fun b=>b=true↔tC o:=by
 unfold iK
 simp only[ak,dh,bn,bH,tC]
theorem BV (o:aG):iK o=some (decide (tC o)):=(Jg o).dec
def sF (o:aG):Prop:=NQ o/\0<=o.filled/\o.filled<=o.qty/\0<=o.version/\(tC o->1<=o.newQty/\1<=o.newPrice)/\
 ((o.phase=1/\o.filled=0/\o.version=0/\¬tC o)\/(o.phase=2/\o.filled<o.qty)\/(o.phase=3/\¬tC o))
instance (o:aG):Decidable (sF o):=by unfold sF;infer_instance
theorem VZ (o:aG):Wq (gQ o) fun b=>b=true↔sF o:=by
 unfold gQ
 rw[pW]
 refine(Jg o).mono fun p hp=> ?_
 rw[pW]
 refine(V8 o).mono fun b hb=> ?_
 unfold sF
 rw[<-hp,<-hb]
 have hm:(eU o.newQty o.newPrice<1)↔¬(1<=o.newQty/\1<=o.newPrice):=by unfold eU;split<;>omega
 simp only[pW,gJ,ak,bg,bP,dh,dB,bn,aY,dn,dG,bZ,dL,bF,bH,dJ,dO,hm]
 cases p<;>cases b<;>simp<;>omega
theorem kF (o:aG):gQ o=some (decide (sF o)):=(VZ o).dec
def kJ (o:aG):Int:=if o.phase=3 then 0 else max o.qty o.newQty - o.filled
def iH (o:aG):Int:=if o.phase=3 then 0 else if o.newQty<=o.filled then (o.qty - o.filled)*o.price else max ((o.qty - o.filled)*o.price) ((o.newQty - o.filled)*o.newPrice)
theorem Dq {o:aG} (h:sF o) (hr:gy o):0<=kJ o/\kJ o<=9223372036854775807:=by
 obtain⟨_,h1,h2,_⟩:=h
 have:=hr.qty.2;have:=hr.newQty.2
 unfold kJ;split<;>omega
theorem acv {o:aG} (h:sF o) (hn:o.filled<o.newQty):1<=o.newPrice:=by
 obtain⟨_,h1,h2,_,h4,_⟩:=h
 exact(h4 (.inl (by omega))).2
theorem Dx {o:aG} (h:sF o):0<=iH o:=by
 have hp:=h.1.2.2.2.2.2
 have hf:=h.2.2.1
 unfold iH;split
 ·omega
 ·have m:0<=(o.qty - o.filled)*o.price:=Int.mul_nonneg (by omega) (by omega)
  split<;>omega
theorem Pj {o:aG} (h:sF o) (hr:gy o):qV o=some (kJ o):=by
 have hb:=Dq h hr
 unfold qV
 rw[kF,au,decide_eq_true h,X6,au]
 unfold kJ at*
 rw[aS,fP,kM]
 split
 ·rfl
 ·rename_i hp
  rw[if_neg hp]at hb
  unfold aA
  rw[Jo ⟨by omega,by omega⟩]
theorem MR {o:aG} (h:sF o) (hr:gy o):wR o=some (if iH o<=9223372036854775807 then (iH o,0)else (0,3)):=by
 have hp:=h.1.2.2.2.2.2
 have hf:=h.2.2.1
 have hf0:=h.2.1
 have rq:=hr.qty;have rp:=hr.price;have rf:=hr.filled;have rn:=hr.newQty;have rnp:=hr.newPrice
 unfold inI at rq rf rn
 unfold wR
 rw[kF,au,decide_eq_true h,aS,aU,kM]
 unfold iH
 split
 ·rw[if_pos (by omega)]
 ·unfold aA
  rw[Jo ⟨by omega,by omega⟩,WE ⟨by omega,by omega⟩ rp,au]
  have m:0<=(o.qty - o.filled)*o.price:=Int.mul_nonneg (by omega) (by omega)
  generalize (o.qty - o.filled)*o.price=a at*
  rw[KA]
  simp only[bg,bP,dh,dB,bn,aY,dn,dG,bZ,dL,bF,bH,dJ,dO]
  by_cases hn:o.newQty<=o.filled
  ·rw[if_pos (.inr hn),if_pos hn]
   by_cases ha:a<=9223372036854775807
   ·rw[if_pos (c:=inI a) ⟨by omega,ha⟩,if_pos ha]
   ·rw[if_neg (c:=inI a) (by unfold inI;omega),if_neg ha]
  ·rw[if_neg hn]
   have hnp:=acv h (by omega)
   rw[Jo ⟨by omega,by omega⟩,WE ⟨by omega,by omega⟩ rnp,au]
   have m2:0<=(o.newQty - o.filled)*o.newPrice:=Int.mul_nonneg (by omega) (by omega)
   generalize (o.newQty - o.filled)*o.newPrice=b at*
   by_cases ha:a<=9223372036854775807
   ·rw[if_pos (c:=inI a) ⟨by omega,ha⟩,if_neg (by simp only[ne_eq,not_true_eq_false,false_or];exact hn)]
    by_cases hb:b<=9223372036854775807
    ·rw[if_pos (c:=inI b) ⟨by omega,hb⟩]
     rw[dD (by simp [aj,ieq]),X6,au,if_pos (by omega)]
    ·rw[if_neg (c:=inI b) (by unfold inI;omega)]
     rw[aI (by simp [aj,ieq]),if_neg (by omega)]
   ·rw[if_neg (c:=inI a) (by unfold inI;omega),if_pos (.inl (by decide)),if_neg (by omega)]
def okC (c:aX):Prop:=ET c/\(0<=c.buy/\0<=c.sell/\0<=c.opn)/\inI (c.pos+c.buy)/\inI (c.sell - c.pos)
theorem EP (c:aX):okC c↔(inI c.pos/\inI c.buy/\inI c.sell/\inI c.opn)/\(0<=c.buy/\0<=c.sell/\0<=c.opn)/\inI (c.pos+c.buy)/\inI (c.sell - c.pos):=
 ⟨fun⟨⟨a,b,c,d⟩,h⟩=>⟨⟨a,b,c,d⟩,h⟩,fun⟨⟨a,b,c,d⟩,h⟩=>⟨⟨a,b,c,d⟩,h⟩⟩
instance (c:aX):Decidable (okC c):=decidable_of_iff _ (EP c).symm
theorem Sr {c:aX} (h:ET c):BM c=some (⟨if inI (c.pos+c.buy)then c.pos+c.buy else 0,if inI (c.sell - c.pos)then c.sell - c.pos else 0,c.opn⟩,decide (inI (c.pos+c.buy)/\inI (c.sell - c.pos))):=by
 unfold BM
 rw[lV h.pos h.buy,au,Dv h.sell h.pos,au]
 by_cases h1:inI (c.pos+c.buy)
 ·by_cases h2:inI (c.sell - c.pos)
  ·simp only[if_pos h1,if_pos h2,nM,Ib,decide_eq_true (show _/\_ from⟨h1,h2⟩)]
  ·simp only[if_pos h1,if_neg h2,zy,nM,Ib,decide_eq_false (fun h:_/\_=>h2 h.2)]
 ·simp only[if_neg h1,zy,VF,decide_eq_false (fun h:_/\_=>h1 h.1)]
  by_cases h2:inI (c.sell - c.pos)
  ·simp only[if_pos h2]
  ·simp only[if_neg h2]
theorem YX {c:aX} (h:ET c):Wq (iF c) fun b=>b=true↔okC c:=by
 unfold iF
 rw[Sr h,au,ak]
 simp only[bg,bZ,decide_eq_true_eq,okC]
 rw[agy]
 constructor
 ·rintro⟨a,b⟩;exact⟨h,b,a⟩
 ·rintro⟨_,b,a⟩;exact⟨a,b⟩
theorem kR {c:aX} (h:ET c):iF c=some (decide (okC c)):=(YX h).dec
def ofC (c:aX):jm:=⟨c.pos+c.buy,c.sell - c.pos,c.opn⟩
theorem Xa {c:aX} (h:okC c):GI c=some (ofC c,0):=by
 unfold GI
 rw[kR h.1,au,decide_eq_true h,aS,aU,Sr h.1,au,if_pos h.2.2.1,if_pos h.2.2.2]
 rfl
def pz (c:aX) (o:aG):aX:=if o.side=2 then ⟨c.pos,c.buy,c.sell+kJ o,c.opn+iH o⟩else ⟨c.pos,c.buy+kJ o,c.sell,c.opn+iH o⟩
def qf (c:aX) (o:aG):aX:=if o.side=2 then ⟨c.pos,c.buy,c.sell - kJ o,c.opn - iH o⟩else ⟨c.pos,c.buy - kJ o,c.sell,c.opn - iH o⟩
theorem Fq {c:aX} {o:aG} (hc:okC c) (ho:sF o) (hr:gy o):jC c o=some (if okC (pz c o)then (pz c o,0)else (c,3)):=by
 have hO:=Dq ho hr
 have hW:=Dx ho
 obtain⟨hk,⟨n1,n2,n3⟩,r1,r2⟩:=id hc
 have ib:=hk.buy;have is':=hk.sell;have io:=hk.opn;have ip:=hk.pos
 unfold jC
 rw[kR hk,au,decide_eq_true hc,kF,decide_eq_true ho,aS,bC,bI,au,aS,fP,aU,MR ho hr,Pj ho hr,au]
 simp only[au]
 have oO:inI (kJ o):=⟨by omega,by omega⟩
 by_cases hw:iH o<=9223372036854775807
 ·have oW:inI (iH o):=⟨by omega,hw⟩
  rw[if_pos hw]
  simp only[nM,aS,fP]
  by_cases hs:o.side=2
  ·rw[aI (by rw[bF];exact hs),lV is' oO,au,lV io oW,au]
   unfold pz;rw[if_pos hs]
   by_cases h1:c.sell+kJ o<=9223372036854775807
   ·by_cases h2:c.opn+iH o<=9223372036854775807
    ·rw[if_pos ⟨by omega,h1⟩,if_pos ⟨by omega,h2⟩]
     simp only[nM,aS,fP,bC,bI]
     rw[kR (c:=⟨c.pos,c.buy,c.sell+kJ o,c.opn+iH o⟩) ⟨ip,ib,⟨by simp only;omega,h1⟩,⟨by simp only;omega,h2⟩⟩,au,jZ,CS]
     split<;>rfl
    ·rw[if_pos ⟨by omega,h1⟩,if_neg (by unfold inI;omega)]
     simp only[nM,zy,aS,fP,bC,bI,um,aU,au]
     rw[if_neg fun h=>h2 h.1.opn.2]
   ·rw[if_neg (by unfold inI;omega)]
    simp only[zy,bC,um,aS,bI,aU,au]
    rw[if_neg fun h=>h1 h.1.sell.2]
  ·rw[dD (by rw[bH];exact hs),lV ib oO,au,lV io oW,au]
   unfold pz;rw[if_neg hs]
   by_cases h1:c.buy+kJ o<=9223372036854775807
   ·by_cases h2:c.opn+iH o<=9223372036854775807
    ·rw[if_pos ⟨by omega,h1⟩,if_pos ⟨by omega,h2⟩]
     simp only[nM,aS,fP,bC,bI]
     rw[kR (c:=⟨c.pos,c.buy+kJ o,c.sell,c.opn+iH o⟩) ⟨ip,⟨by simp only;omega,h1⟩,is',⟨by simp only;omega,h2⟩⟩,au,jZ,CS]
     split<;>rfl
    ·rw[if_pos ⟨by omega,h1⟩,if_neg (by unfold inI;omega)]
     simp only[nM,zy,aS,fP,bC,bI,um,aU,au]
     rw[if_neg fun h=>h2 h.1.opn.2]
   ·rw[if_neg (by unfold inI;omega)]
    simp only[zy,bC,um,aS,bI,aU,au]
    rw[if_neg fun h=>h1 h.1.buy.2]
 ·have hno:¬okC (pz c o):=fun h=>by
   have:=h.1.opn.2
   unfold pz at this
   split at this<;>simp only at this<;>omega
  rw[if_neg hw,if_neg hno]
  simp only[zy,bC,um,aS,aU,au,bI]
  by_cases hs:o.side=2
  ·rw[aI (by rw[bF];exact hs),lV is' oO,au,lV io (by decide),au]
  ·rw[dD (by rw[bH];exact hs),lV ib oO,au,lV io (by decide),au]
theorem Xf {c:aX} {o:aG} (hc:okC c) (ho:sF o) (hr:gy o) (hs:okC (qf c o)):AB c o=some (qf c o,0):=by
 have hO:=Dq ho hr
 have hW:=Dx ho
 obtain⟨hk,⟨n1,n2,n3⟩,r1,r2⟩:=id hc
 have ib:=hk.buy;have is':=hk.sell;have io:=hk.opn;have ip:=hk.pos
 have oO:inI (kJ o):=⟨by omega,by omega⟩
 have hw:iH o<=9223372036854775807:=by
  have h1:=hs.2.1.2.2
  have h2:=io.2
  have h3:(qf c o).opn=c.opn - iH o:=by unfold qf;split<;>rfl
  omega
 have oW:inI (iH o):=⟨by omega,hw⟩
 unfold AB
 rw[kR hk,au,decide_eq_true hc,kF,decide_eq_true ho,aS,bC,bI,au,aS,fP,aU,MR ho hr,Pj ho hr,au]
 simp only[au]
 rw[if_pos hw]
 simp only[nM,aS,fP]
 unfold inI at ib is' io
 by_cases hd:o.side=2
 ·rw[aI (by rw[bF];exact hd),Dv is' oO,au,Dv io oW,au]
  unfold qf at hs ⊢; rw[if_pos hd]at hs ⊢
  rw[if_pos ⟨by omega,by omega⟩,if_pos ⟨by omega,by omega⟩]
  simp only[nM,aS,fP,bC,bI]
  rw[kR hs.1,decide_eq_true hs,au,aS,aU]
 ·rw[dD (by rw[bH];exact hd),Dv ib oO,au,Dv io oW,au]
  unfold qf at hs ⊢; rw[if_neg hd]at hs ⊢
  rw[if_pos ⟨by omega,by omega⟩,if_pos ⟨by omega,by omega⟩]
  simp only[nM,aS,fP,bC,bI]
  rw[kR hs.1,decide_eq_true hs,au,aS,aU]
theorem aa0 {c:aX} {d q:Int} (hc:okC c) (hd:d=1\/d=2) (hq:0<=q) (rq:inI q) (hn:okC ⟨if d=1 then c.pos+q else c.pos - q,c.buy,c.sell,c.opn⟩):
 Ef c d q=some (⟨if d=1 then c.pos+q else c.pos - q,c.buy,c.sell,c.opn⟩,0):=by
 unfold Ef
 rw[kR hc.1,au,decide_eq_true hc,aS,fP,dD (by simp only[bg,bP,dh,dB,bn,aY,dn,dG,bZ,dL,bF,bH,dJ,dO];omega)]
 have ip:=hc.1.pos
 have hp:=hn.1.pos
 simp only at hp
 by_cases h:d=1
 ·rw[aI (by rw[bF];exact h),lV ip rq,au]
  simp only[if_pos h]at hn hp ⊢
  rw[if_pos hp]
  simp only[nM,aS,fP,bC,bI]
  rw[kR hn.1,decide_eq_true hn,au,aS,aU]
 ·rw[dD (by rw[bH];exact h),Dv ip rq,au]
  simp only[if_neg h]at hn hp ⊢
  rw[if_pos hp]
  simp only[nM,aS,fP,bC,bI]
  rw[kR hn.1,decide_eq_true hn,au,aS,aU]
def V3 (x:jm):Prop:=0<=x.long/\0<=x.short/\0<=x.opn
instance (x:jm):Decidable (V3 x):=by unfold V3;infer_instance
theorem WA (x:jm):AX x=some (decide (V3 x)):=by
 refine Wq.dec ?_
 unfold AX V3
 rw[ak,bZ,agy]
def VT (was now cap:Int):Prop:=max was cap<now
instance (a b c:Int):Decidable (VT a b c):=by unfold VT;infer_instance
def Ed (a b l:jm):Prop:=VT a.long b.long l.long\/VT a.short b.short l.short\/VT a.opn b.opn l.opn
instance (a b l:jm):Decidable (Ed a b l):=by unfold Ed;infer_instance
theorem DL (a b c:Int):jK a b c=some (decide (VT a b c)):=by
 refine Wq.dec ?_
 unfold jK imax VT
 rw[ak,dn]
 split<;>omega
theorem SI (a b l:jm):xA a b l=some (decide (Ed a b l)):=by
 refine Wq.dec ?_
 unfold xA wU
 simp only[au,DL,gJ,ak,decide_eq_true_eq,decide_eq_false_iff_not,Ed]
 grind
theorem Wn (l:List Int) (i:Nat) (h:i<l.length):(l.take (i+1)).sum=(l.take i).sum+l[i]:=by
 rw[List.take_succ_eq_append_getElem h,List.sum_append];simp
theorem YD:∀ {l:List Int},(∀x∈l,0<=x)->0<=l.sum
 |[],_=>by simp
 |a::l,h=>by
  have:=YD (l:=l) fun x hx=>h x (by simp [hx])
  have:=h a (by simp)
  simp only[List.sum_cons];omega
theorem ZN {l:List Int} (h:∀x∈l,0<=x) (i:Nat):(l.take i).sum<=l.sum:=by
 have e:l.sum=(l.take i).sum+(l.drop i).sum:=by rw[<-List.sum_append,List.take_append_drop]
 have:=YD (l:=l.drop i) fun x hx=>h x (List.mem_of_mem_drop hx)
 omega
def aj2 (l:List Int):Int×Int:=if l.sum<=9223372036854775807 then (l.sum,0)else (0,3)
theorem aam {l:List Int} (hl:l.length<999999) (h:∀x∈l,0<=x/\inI x):EQ l=some (aj2 l):=by
 refine Wq.eq ?_
 have hn:∀x∈l,0<=x:=fun x hx=>(h x hx).1
 unfold EQ
 refine Wq.bind (Q:=fun w:(Int×Int) ⊕ (Int×Int×Int)=>match w with | .inl w=>w=(3,0)/\¬l.sum<=9223372036854775807 | .inr w=>w.1=l.sum/\l.sum<=9223372036854775807)
  (nD (n:=l.length) (step:=fun v:Int×Int×Int×Int=>uN (len l) l v.1 v.2.1 v.2.2.1 v.2.2.2) (by omega)
    (fun i x=>x.1=(l.take i).sum/\x.1<=9223372036854775807) _ ?_ ?_ _ 0 (Nat.zero_le _) (by simp)) ?_
 ·rintro i ⟨a,b,c⟩ hi ⟨rfl,ha⟩
  simp only[uN]
  simp only at ha
  have ht:=YD (l:=l.take i) fun x hx=>hn x (List.mem_of_mem_take hx)
  have hx:=h l[i] (List.getElem_mem _)
  rw[aI (by rw[eP];simpa using hi),aI (inb l i hi),bJ l i hi,lV ⟨by omega,ha⟩ hx.2,au,<-Wn l i hi]
  have:=ZN hn (i+1)
  have h2:=YD (l:=l.take (i+1)) fun x hx=>hn x (List.mem_of_mem_take hx)
  by_cases hr:(l.take (i+1)).sum<=9223372036854775807
  ·rw[if_pos ⟨by omega,hr⟩]
   simp only[nM,aS,aU,ak]
   exact⟨dZ (by omega),trivial,hr⟩
  ·rw[if_neg (by unfold inI;omega)]
   simp only[zy,bC,bI,ak]
   exact⟨trivial,by omega⟩
 ·rintro⟨a,b,c⟩ ⟨rfl,ha⟩
  simp only[uN]
  simp only at ha
  rw[dD (by rw[eP];simp),ak]
  rw[List.take_length]at*
  exact⟨rfl,ha⟩
 ·rintro w hw
  unfold aj2
  cases w with
  |inl w=>obtain⟨rfl,h2⟩:=hw;simp only[gK,ak];rw[if_neg h2]
  |inr w=>obtain⟨h1,h2⟩:=hw;simp only[gK,ak];rw[if_pos h2,h1]
def ou (l:List aX):Int:=(l.map aX.opn).sum
theorem FU {l:List aX} (hl:l.length<999999) (h:∀c∈l,0<=c.opn/\inI c.opn):rW l=some (if ou l<=9223372036854775807 then (ou l,0)else (0,3)):=by
 refine Wq.eq ?_
 unfold rW
 refine Wq.bind (Q:=fun w:List Int=>w=l.map aX.opn)
  (nD (n:=l.length) (step:=fun v:Int×List Int=>qy (len l) l v.1 v.2) (by omega) (fun i x=>x=(l.take i).map aX.opn) _ ?_ ?_ _ 0 (Nat.zero_le _) (by simp)) ?_
 ·rintro i x hi rfl
  simp only[qy]
  rw[aI (by rw[eP];simpa using hi),aI (inb l i hi),aI (lm (by simp [dm,len];omega)),ak,bJ l i hi]
  exact⟨dZ (by omega),by rw[List.take_succ_eq_append_getElem hi,List.map_append];rfl⟩
 ·rintro x rfl
  simp only[qy]
  rw[dD (by rw[eP];simp),ak,List.take_length]
 ·rintro w rfl
  rw[aam (by simpa using hl) (fun x hx=>by
   obtain⟨c,hc,rfl⟩:=List.mem_map.1 hx
   exact h c hc),au,ak]
  rfl
theorem NS {l:List Int} (hl:l.length<999999) (h0:l≠[]):Wq (lC l) fun m=>0<=m↔∀x∈l,0<=x:=by
 have hp:0<l.length:=List.length_pos_iff.2 h0
 unfold lC
 rw[dD (BI (by simp only[len];omega)),aI (DZ (by simp only[len];omega))]
 refine Wq.bind (Q:=fun m=>0<=m↔∀x∈l,0<=x) (nD (n:=l.length) (step:=fun v:Int×Int=>kU l v.1 v.2) (by omega) (fun i x=>0<=x↔∀y∈l.take i,0<=y) _ ?_ ?_ _ 1 hp ?_) ?_
 ·rintro i x hi hx
  simp only[kU]
  rw[aI (by rw[eP];simpa using hi),aI (inb l i hi),ak,bJ l i hi]
  refine⟨dZ (by omega),?_⟩
  rw[List.take_succ_eq_append_getElem hi]
  simp only[List.mem_append,List.mem_singleton]
  unfold eU
  constructor
  ·intro h y hy
   rcases hy with hy | rfl
   ·exact hx.1 (by split at h<;>omega) y hy
   ·split at h<;>omega
  ·intro h
   have h1:=hx.2 fun y hy=>h y (.inl hy)
   have h2:=h _ (.inr rfl)
   split<;>omega
 ·rintro x hx
  simp only[kU]
  rw[dD (by rw[eP];simp),ak]
  rwa[List.take_length]at hx
 ·cases l with
  |nil=>exact absurd rfl h0
  |cons a r=>simp [ah]
 ·exact fun w hw=>(ak _).2 hw
def wQ (l:List aG) (n:Int):Option Nat:=l.findIdx? fun o=>o.id == n
def Nw (l:List aG) (n:Int):Int:=match wQ l n with | some k=>k | none=> -1
theorem Fe (s:aC) (n:Int) (hl:s.orders.length<999999):lN s n=some (Nw s.orders n):=by
 refine Wq.eq ?_
 unfold lN
 refine Wq.bind (Q:=fun w:Int ⊕ Int=>match w with
  |.inl k=>∃i:Nat,k=i/\∃h:i<s.orders.length,s.orders[i].id=n/\∀j,(h:j<s.orders.length)->j<i->s.orders[j].id≠n
  |.inr _=>∀j,(h:j<s.orders.length)->s.orders[j].id≠n)
  (nD (n:=s.orders.length) (step:=fun v:Int×Int=>dP (len s.orders) s.orders n v.1 v.2) (by omega) (fun i x=>∀j,(h:j<s.orders.length)->j<i->s.orders[j].id≠n) _ ?_ ?_ _ 0 (Nat.zero_le _) (fun j _ h=>by omega)) ?_
 ·rintro i x hi hx
  simp only[dP]
  rw[aI (by rw[eP];simpa using hi),aI (inb _ i hi),bJ _ i hi,gJ]
  refine⟨fun he=>(ak _).2 ⟨i,rfl,hi,by simpa [ieq] using he,hx⟩,fun he=>(ak _).2 ⟨dZ (by omega),fun j hj hji=> ?_⟩⟩
  by_cases e:j=i
  ·subst e;simpa [ieq] using he
  ·exact hx j hj (by omega)
 ·rintro x hx
  simp only[dP]
  rw[dD (by rw[eP];simp),ak]
  exact fun j hj=>hx j hj hj
 ·rintro w hw
  cases w with
  |inl k=>
   obtain⟨i,rfl,hi,h1,h2⟩:=hw
   have:wQ s.orders n=some i:=by
    unfold wQ
    rw[List.findIdx?_eq_some_iff_getElem]
    exact⟨hi,by simpa using h1,fun j hj=>by simpa using h2 j (by omega) hj⟩
   simp only[gK,ak,Nw,this]
  |inr k=>
   have:wQ s.orders n=none:=by
    unfold wQ
    rw[List.findIdx?_eq_none_iff]
    intro o ho
    obtain⟨j,hj,rfl⟩:=List.getElem_of_mem ho
    simpa using hw j hj
   simp only[gK,ak,Nw,this]
theorem l9 {l:List aG} {n:Int} {k:Nat} (h:wQ l n=some k):∃hk:k<l.length,l[k].id=n:=by
 unfold wQ at h
 rw[List.findIdx?_eq_some_iff_getElem]at h
 obtain⟨hk,h1,_⟩:=h
 exact⟨hk,by simpa using h1⟩
theorem abD {l:List aG} {n:Int} (h:wQ l n=none):∀o∈l,o.id≠n:=by
 unfold wQ at h
 rw[List.findIdx?_eq_none_iff]at h
 intro o ho
 simpa using h o ho
theorem IC {l:List aG} {n:Int} {k:Nat} (h:wQ l n=some k):Nw l n=k:=by unfold Nw;rw[h]
theorem NT {l:List aG} {n:Int} (h:wQ l n=none):Nw l n= -1:=by unfold Nw;rw[h]
def qR (s:aC):Prop:=(1<=s.accounts/\s.accounts<=8)/\(1<=s.symbols/\s.symbols<=8)/\len s.cells=s.accounts*s.symbols/\len s.limits=len s.cells/\len s.caps=s.accounts/\s.orders.length<=64
instance (s:aC):Decidable (qR s):=by unfold qR;infer_instance
theorem KL {a b:Int} (h1:0<=a) (h2:a<=9) (h3:0<=b) (h4:b<=9):0<=a*b/\a*b<=81:=
 ⟨Int.mul_nonneg h1 h3,by have:=Int.mul_le_mul h2 h4 h3 (by omega);omega⟩
theorem MI (s:aC):Wq (qj s) fun b=>b=true↔qR s:=by
 unfold qj
 simp only[ak,bg,bZ,bF,qR]
 constructor
 ·rintro⟨⟨⟨⟨⟨⟨⟨a,b⟩,c⟩,d⟩,e⟩,f⟩,g⟩,h⟩
  have:=KL (a:=s.accounts) (b:=s.symbols) (by omega) (by omega) (by omega) (by omega)
  rw[show fQ s.accounts s.symbols=s.accounts*s.symbols from rfl,dA this.1 (by omega)]at e
  exact⟨⟨a,b⟩,⟨c,d⟩,e,f,g,by simp only[len]at h;omega⟩
 ·rintro⟨⟨a,b⟩,⟨c,d⟩,e,f,g,h⟩
  have:=KL (a:=s.accounts) (b:=s.symbols) (by omega) (by omega) (by omega) (by omega)
  rw[show fQ s.accounts s.symbols=s.accounts*s.symbols from rfl,dA this.1 (by omega)]
  exact⟨⟨⟨⟨⟨⟨⟨a,b⟩,c⟩,d⟩,e⟩,f⟩,g⟩,by simp only[len];omega⟩
theorem qR.lens {s:aC} (hs:qR s):s.cells.length<=64/\s.limits.length=s.cells.length/\s.caps.length=s.accounts.toNat/\s.orders.length<=64:=by
 obtain⟨⟨h1,h2⟩,⟨h3,h4⟩,h5,h6,h7,h8⟩:=hs
 have m:s.accounts*s.symbols<=8*8:=Int.mul_le_mul h2 h4 (by omega) (by omega)
 simp only[len]at h5 h6 h7
 exact⟨by omega,by omega,by omega,h8⟩
def atZ (n:Int) (o:aG):Int:=o.account*n+o.symbol
theorem KU {s:aC} (hs:qR s) (a y:Int) (ha:0<=a) (ha2:a<s.accounts) (hy:0<=y) (hy2:y<s.symbols):
 ∃k:Nat,bf s a y=some (k:Int)/\(k:Int)=a*s.symbols+y/\k<s.cells.length:=by
 obtain⟨⟨h1,h2⟩,⟨h3,h4⟩,h5,_⟩:=hs
 have m:=KL (a:=a) (b:=s.symbols) (by omega) (by omega) (by omega) (by omega)
 have l:(a+1)*s.symbols<=s.accounts*s.symbols:=Int.mul_le_mul_of_nonneg_right (by omega) (by omega)
 have e:(a+1)*s.symbols=a*s.symbols+s.symbols:=by rw[Int.add_mul,Int.one_mul]
 refine⟨(a*s.symbols+y).toNat,?_,by omega,by simp only[len]at h5;omega⟩
 unfold bf
 rw[show fQ a s.symbols=a*s.symbols from rfl,dA m.1 (by omega),show ai (a*s.symbols) y=a*s.symbols+y from rfl,dA (by omega) (by omega)]
 congr 1;omega
def qw (n:Int) (cs:List aX) (a:Int):List aX:=(cs.drop (a*n).toNat).take n.toNat
theorem Q8 {s:aC} (hs:qR s) (a:Int) (ha:0<=a) (ha2:a<s.accounts):
 jE s a=some (qw s.symbols s.cells a):=by
 obtain⟨⟨h1,h2⟩,⟨h3,h4⟩,h5,_⟩:=hs
 have m:=KL (a:=a) (b:=s.symbols) (by omega) (by omega) (by omega) (by omega)
 have m2:=KL (a:=a+1) (b:=s.symbols) (by omega) (by omega) (by omega) (by omega)
 have l:(a+1)*s.symbols<=s.accounts*s.symbols:=Int.mul_le_mul_of_nonneg_right (by omega) (by omega)
 have e:(a+1)*s.symbols=a*s.symbols+s.symbols:=by rw[Int.add_mul,Int.one_mul]
 unfold jE
 rw[show fQ a s.symbols=a*s.symbols from rfl,dA m.1 (by omega),show ai a 1=a+1 from rfl,dA (n:=a+1) (by omega) (by omega),
  show fQ (a+1) s.symbols=(a+1)*s.symbols from rfl,dA m2.1 (by omega)]
 rw[aI (by simp only[bg,bZ];omega)]
 rw[show aA ((a+1)*s.symbols) (a*s.symbols)=s.symbols from by unfold aA;omega]
 rfl
theorem WO {n:Int} {cs:List aX} {a:Int} {c:aX} (h:c∈qw n cs a):c∈cs:=List.mem_of_mem_drop (List.mem_of_mem_take h)
theorem Ro {n:Int} {cs:List aX} {a:Int}:(qw n cs a).length<=cs.length:=by
 unfold qw;rw[List.length_take,List.length_drop];omega
def CY (s:aC) (o:aG):Prop:=sF o/\o.phase≠3/\o.account<s.accounts/\o.symbol<s.symbols
def IZ (l:List aG):Prop:=l.Pairwise fun a b=>a.id<b.id
structure acG (s:aC):Prop where
 ords:∀o∈s.orders,CY s o
 asc:IZ s.orders
 ids:∀o∈s.orders,o.id<=s.last
 last:0<=s.last/\s.last<=1000000000000
 seq:0<=s.seq/\s.seq<=1000000000
 lsn:0<=s.lsn/\s.lsn<=1000000000
 lims:∀x∈s.limits,V3 x
 caps:∀x∈s.caps,0<=x
theorem A7 {α:Type} {l:List α} {i:Nat} (h:i<l.length) {x:α}:x∈l.take (i+1)↔x∈l.take i\/x=l[i]:=by
 rw[List.take_succ_eq_append_getElem h,List.mem_append,List.mem_singleton]
theorem aiy (s:aC) (hl:s.orders.length<999999) (h2:s.limits.length<999999) (h3:s.caps.length<999999) (h0:s.caps≠[]):
 Wq (ru s) fun b=>b=true↔acG s:=by
 unfold ru
 refine Wq.bind (Q:=fun w:Bool ⊕ (Int×Bool)=>match w with
  |.inl b=>b=false/\¬((∀o∈s.orders,CY s o)/\IZ s.orders)
  |.inr v=>(∀o∈s.orders,CY s o/\o.id<=v.1)/\IZ s.orders/\(v.1=0\/∃o∈s.orders,o.id=v.1))
  (nD (n:=s.orders.length) (step:=fun v:Int×Int×Bool=>lq (len s.orders) s.orders s v.1 v.2.1 v.2.2) (by omega)
    (fun i v=>(∀o∈s.orders.take i,CY s o/\o.id<=v.1)/\IZ (s.orders.take i)/\(v.1=0\/∃o∈s.orders.take i,o.id=v.1)) _ ?_ ?_ _ 0 (Nat.zero_le _) (by simp [IZ])) ?_
 ·rintro i ⟨x,q⟩ hi ⟨g1,g2,g3⟩
  simp only at g1 g2 g3
  simp only[lq]
  rw[aI (by rw[eP];simpa using hi),aI (inb _ i hi),bJ _ i hi,kF,au]
  simp only[gJ,ak,dh,dB,bn,aY,bF,bH,bZ,dL,decide_eq_true_eq,decide_eq_false_iff_not]
  refine⟨fun hb=>⟨trivial,fun⟨a1,a2⟩=> ?_⟩,fun hc=>⟨dZ (by omega),fun o ho=> ?_,?_,.inr ⟨_,(A7 hi).2 (.inr rfl),rfl⟩⟩⟩
  ·obtain⟨b1,b2,b3,b4⟩:=a1 s.orders[i] (List.getElem_mem _)
   have hle:s.orders[i].id<=x:=by
    rcases hb with (((hb | hb) | hb) | hb) | hb
    ·exact absurd b1 hb
    ·exact absurd hb b2
    ·omega
    ·omega
    ·exact hb
   rcases g3 with g3 | ⟨o,ho,g3⟩
   ·have:=b1.1.1.1;omega
   ·obtain⟨j,hj,rfl⟩:=List.getElem_of_mem ho
    rw[List.length_take]at hj
    have:=List.pairwise_iff_getElem.1 a2 j i (by omega) hi (by omega)
    rw[List.getElem_take]at g3
    omega
  ·rcases(A7 hi).1 ho with ho | rfl
   ·have:=g1 o ho
    exact⟨this.1,by have:=this.2;omega⟩
   ·exact⟨⟨hc.1.1.1.1,hc.1.1.1.2,by omega,by omega⟩,Int.le_refl _⟩
  ·rw[List.take_succ_eq_append_getElem hi]
   unfold IZ
   rw[List.pairwise_append]
   refine⟨g2,by simp,fun a ha b hb=> ?_⟩
   rw[List.mem_singleton]at hb
   subst hb
   have:=(g1 a ha).2
   omega
 ·rintro⟨x,q⟩ hx
  simp only[lq]
  rw[dD (by rw[eP];simp),ak]
  simp only[List.take_length]at hx
  exact hx
 ·rintro w hw
  cases w with
  |inl b=>
   obtain⟨rfl,hn⟩:=hw
   simp only[gK,ak]
   exact⟨fun h=>(by cases h),fun h=>absurd ⟨h.ords,h.asc⟩ hn⟩
  |inr v=>
   obtain⟨g1,g2,g3⟩:=hw
   have gl:v.1<=s.last/\0<=s.last↔(∀o∈s.orders,o.id<=s.last)/\0<=s.last:=by
    constructor
    ·rintro⟨a,b⟩;exact⟨fun o ho=>by have:=(g1 o ho).2;omega,b⟩
    ·rintro⟨a,b⟩
     refine⟨?_,b⟩
     rcases g3 with g3 | ⟨o,ho,g3⟩
     ·omega
     ·have:=a o ho;omega
   have hF:acG s↔(v.1<=s.last/\s.last<=1000000000000/\0<=s.seq/\s.seq<=1000000000/\0<=s.lsn/\s.lsn<=1000000000)/\(∀x∈s.limits,V3 x)/\(∀x∈s.caps,0<=x)/\0<=s.last:=by
    constructor
    ·intro h
     have:=gl.2 ⟨h.ids,h.last.1⟩
     exact⟨⟨this.1,h.last.2,h.seq.1,h.seq.2,h.lsn.1,h.lsn.2⟩,h.lims,h.caps,h.last.1⟩
    ·rintro⟨⟨a1,a2,a3,a4,a5,a6⟩,b,c,d⟩
     exact⟨fun o ho=>(g1 o ho).1,g2,(gl.1 ⟨a1,d⟩).1,⟨d,a2⟩,⟨a3,a4⟩,⟨a5,a6⟩,b,c⟩
   rw[hF]
   obtain⟨m,hm,hmq⟩:=NS h3 h0
   simp only[gK,hm,KA,akb,au]
   simp only[bg,bP,dh,dB,bn,aY,dn,dG,bZ,dL,bF,bH,dJ,dO]
   by_cases hA:v.1<=s.last/\s.last<=1000000000000/\0<=s.seq/\s.seq<=1000000000/\0<=s.lsn/\s.lsn<=1000000000
   ·have hA':((((v.1<=s.last/\s.last<=1000000000000)/\0<=s.seq)/\s.seq<=1000000000)/\0<=s.lsn)/\s.lsn<=1000000000:=⟨⟨⟨⟨⟨hA.1,hA.2.1⟩,hA.2.2.1⟩,hA.2.2.2.1⟩,hA.2.2.2.2.1⟩,hA.2.2.2.2.2⟩
    rw[if_pos hA']
    refine Wq.bind (Q:=fun w:Int ⊕ Int=>match w with | .inl k=>0<=k/\¬∀x∈s.limits,V3 x | .inr _=>∀x∈s.limits,V3 x)
     (nD (n:=s.limits.length) (step:=fun v:Int×Int=>bT (len s.limits) s.limits v.1 v.2) (by omega) (fun i _=>∀x∈s.limits.take i,V3 x) _ ?_ ?_ _ 0 (Nat.zero_le _) (by simp)) ?_
    ·rintro i x hi hx
     simp only[bT]
     rw[aI (by rw[eP];simpa using hi),aI (inb _ i hi),bJ _ i hi,WA,au]
     simp only[gJ,ak,bn,aY,decide_eq_true_eq,decide_eq_false_iff_not]
     refine⟨fun h=>⟨by omega,fun h2=>h (h2 _ (List.getElem_mem _))⟩,fun h=>⟨dZ (by omega),fun x hx'=> ?_⟩⟩
     rcases(A7 hi).1 hx' with h5 | rfl
     ·exact hx x h5
     ·exact h
    ·rintro x hx
     simp only[bT]
     rw[dD (by rw[eP];simp),ak]
     rwa[List.take_length]at hx
    ·rintro w hw
     cases w with
     |inl k=>
      obtain⟨hk,hn⟩:=hw
      simp only
      rw[if_neg (fun h=>by omega),ak]
      simp only[bg,bP,dh,dB,bn,aY,dn,dG,bZ,dL,bF,bH,dJ,dO]
      constructor
      ·rintro⟨⟨⟨_,h⟩,_⟩,_⟩;omega
      ·rintro⟨_,h,_⟩;exact absurd h hn
     |inr k=>
      simp only
      rw[if_pos (.inl hA'),ak]
      simp only[bg,bP,dh,dB,bn,aY,dn,dG,bZ,dL,bF,bH,dJ,dO]
      constructor
      ·rintro⟨⟨_,h1⟩,h2⟩;exact⟨hA,hw,hmq.1 h1,h2⟩
      ·rintro⟨_,_,h1,h2⟩;exact⟨⟨.inl hA',hmq.2 h1⟩,h2⟩
   ·have hA':¬(((((v.1<=s.last/\s.last<=1000000000000)/\0<=s.seq)/\s.seq<=1000000000)/\0<=s.lsn)/\s.lsn<=1000000000):=by omega
    rw[if_neg hA',if_neg (by simpa using hA'),ak]
    simp only[bg,bP,dh,dB,bn,aY,dn,dG,bZ,dL,bF,bH,dJ,dO]
    constructor
    ·rintro⟨⟨h | h,_⟩,_⟩
     ·exact absurd h hA'
     ·cases h
    ·rintro⟨h,_⟩;exact absurd h hA
def mF (a b:aX):aX:=⟨a.pos+b.pos,a.buy+b.buy,a.sell+b.sell,a.opn+b.opn⟩
def zC:aX:=⟨0,0,0,0⟩
def wC (o:aG):aX:=if o.side=2 then ⟨0,0,kJ o,iH o⟩else ⟨0,kJ o,0,iH o⟩
def inC (n i:Int) (o:aG):aX:=if atZ n o=i then wC o else zC
def l7 (n i:Int):List aG->aX
 |[]=>zC
 |o::r=>mF (inC n i o) (l7 n i r)
theorem yY {a b:aX} (h1:a.pos=b.pos) (h2:a.buy=b.buy) (h3:a.sell=b.sell) (h4:a.opn=b.opn):a=b:=by
 cases a;cases b;simp_all
theorem KO (a:aX):mF a zC=a:=by apply yY<;>simp [mF,zC]
theorem ajv (a:aX):mF zC a=a:=by apply yY<;>simp [mF,zC]
theorem ade (a b:aX):mF a b=mF b a:=by apply yY<;>simp only[mF]<;>omega
theorem Ee (a b c:aX):mF (mF a b) c=mF a (mF b c):=by apply yY<;>simp only[mF]<;>omega
theorem Tt (c:aX) (o:aG):pz c o=mF c (wC o):=by unfold pz wC;split<;>simp [mF]
theorem uH (n i:Int):∀(l m:List aG),l7 n i (l++m)=mF (l7 n i l) (l7 n i m)
 |[],m=>(ajv _).symm
 |o::l,m=>by
  rw[List.cons_append,l7,l7,uH n i l m,Ee]
theorem VE (n i:Int) (o:aG):l7 n i [o]=inC n i o:=KO _
theorem D6 (n i:Int) (l:List aG) (k:Nat) (h:k<l.length):l7 n i l=mF (mF (l7 n i (l.take k)) (l7 n i (l.drop (k+1)))) (inC n i l[k]):=by
 have e:l=l.take k++(l[k]::l.drop (k+1)):=by rw[<-List.drop_eq_getElem_cons h,List.take_append_drop]
 have:l7 n i l=l7 n i (l.take k++(l[k]::l.drop (k+1))):=by rw[<-e]
 rw[this,uH,l7,Ee,ade (inC n i l[k])]
theorem Uu (n i:Int) (l:List aG) (k:Nat) (h:k<l.length) (p:aG):l7 n i (l.set k p)=mF (mF (l7 n i (l.take k)) (l7 n i (l.drop (k+1)))) (inC n i p):=by
 have h1:(l.set k p).take k=l.take k:=List.take_set_of_le (Nat.le_refl _)
 have h2:(l.set k p).drop (k+1)=l.drop (k+1):=List.drop_set_of_lt (by omega)
 have h3:(l.set k p)[k]'(by simpa using h)=p:=List.getElem_set_self _
 rw[D6 n i (l.set k p) k (by simpa using h),h1,h2,h3]
theorem Ua (n i:Int) (l:List aG) (k:Nat) (h:k<l.length):l7 n i (l.eraseIdx k)=mF (l7 n i (l.take k)) (l7 n i (l.drop (k+1))):=by
 rw[List.eraseIdx_eq_take_drop_succ,uH]
def nnC (c:aX):Prop:=c.pos=0/\0<=c.buy/\0<=c.sell/\0<=c.opn
theorem agv {o:aG} (h:sF o) (hr:gy o):nnC (wC o):=by
 have:=Dq h hr
 have:=Dx h
 unfold wC nnC;split<;>simp<;>omega
theorem ai6 (n i:Int) {o:aG} (h:sF o) (hr:gy o):nnC (inC n i o):=by
 unfold inC;split
 ·exact agv h hr
 ·simp [nnC,zC]
theorem YH {a b:aX} (h1:nnC a) (h2:nnC b):nnC (mF a b):=by
 unfold nnC mF at *; simp only;omega
theorem LH (n i:Int):∀ {l:List aG},(∀o∈l,sF o/\gy o)->nnC (l7 n i l)
 |[],_=>by simp [l7,nnC,zC]
 |o::l,h=>YH (ai6 n i (h o (by simp)).1 (h o (by simp)).2) (LH n i fun x hx=>h x (by simp [hx]))
def SN (c:aX):Prop:=c.buy<=9223372036854775807/\c.sell<=9223372036854775807/\c.opn<=9223372036854775807
theorem Vt {c:aX} (h:nnC c) (hf:SN c):okC c:=by
 obtain⟨h0,h1,h2,h3⟩:=h
 obtain⟨f1,f2,f3⟩:=hf
 rw[EP,h0]
 unfold inI
 omega
theorem XQ {c:aX} (h:okC c):SN c:=⟨h.1.buy.2,h.1.sell.2,h.1.opn.2⟩
theorem afr {a b:aX} (hb:nnC b) (h:SN (mF a b)):SN a:=by
 unfold SN mF nnC at *; simp only at *; omega
def fitAll (s:aC):Prop:=∀j:Nat,j<s.cells.length->SN (l7 s.symbols j s.orders)
theorem Xj {α:Type} (l:List α) (k:Nat) (x:α) (j:Nat) (h:j<(aZ l (itn (k:Int)) x).length):(aZ l (itn (k:Int)) x)[j]=if k=j then x else l[j]'(by simpa [aZ] using h):=by
 simp [aZ,itn,List.getElem_set]
theorem agG {s:aC} (hs:qR s) (hk:∀o∈s.orders,CY s o/\gy o):
 Wq (oK s) fun r=>(r.2=true↔fitAll s)/\(r.2=true->r.1.length=s.cells.length/\∀(j:Nat) (h:j<r.1.length),r.1[j]=l7 s.symbols j s.orders):=by
 obtain⟨hc,_,_,hol⟩:=hs.lens
 unfold oK
 rw[aI (by simp only[bg,bZ,len];omega)]
 refine Wq.bind (Q:=fun w:(Bool×List aX×List aX) ⊕ (Bool×List aX×List aX)=>match w with
  |.inl b=>b.1=false/\¬fitAll s
  |.inr b=>b.2.2.length=s.cells.length/\∀(j:Nat) (h:j<b.2.2.length),b.2.2[j]=l7 s.symbols j s.orders/\SN b.2.2[j])
  (nD (n:=s.orders.length) (step:=fun v:Int×Bool×List aX×List aX=>jU (len s.orders) s.orders s v.1 v.2.1 v.2.2.1 v.2.2.2) (by omega)
    (fun i x=>x.2.2.length=s.cells.length/\∀(j:Nat) (h:j<x.2.2.length),x.2.2[j]=l7 s.symbols j (s.orders.take i)/\SN x.2.2[j]) _ ?_ ?_ _ 0 (Nat.zero_le _) ?_) ?_
 ·rintro i ⟨q,x,y⟩ hi ⟨hx,hy⟩
  simp only at hx hy
  simp only[jU]
  have hmem:=hk s.orders[i] (List.getElem_mem _)
  obtain⟨⟨ho,ho3,g1,g2⟩,hor⟩:=id hmem
  obtain⟨⟨_,hb1,hb2,_⟩,_⟩:=id ho
  obtain⟨k,k1,k2,k3⟩:=KU hs s.orders[i].account s.orders[i].symbol hb1.1 g1 hb2.1 g2
  have hky:k<y.length:=by omega
  have hnn:nnC y[k]:=by
   rw[(hy k hky).1]
   exact LH _ _ fun o h=>⟨(hk o (List.mem_of_mem_take h)).1.1,(hk o (List.mem_of_mem_take h)).2⟩
  have hok:okC y[k]:=Vt hnn (hy k hky).2
  have hnew:nnC (pz y[k] s.orders[i]):=by rw[Tt];exact YH hnn (agv ho hor)
  have hsum:∀j:Nat,l7 s.symbols j (s.orders.take (i+1))=mF (l7 s.symbols j (s.orders.take i)) (inC s.symbols j s.orders[i]):=fun j=>by
   rw[List.take_succ_eq_append_getElem hi,uH,VE]
  have hat:atZ s.symbols s.orders[i]=(k:Int):=k2.symm
  have hkk:pz y[k] s.orders[i]=l7 s.symbols k (s.orders.take (i+1)):=by
   rw[hsum,Tt,(hy k hky).1]
   unfold inC;rw[if_pos hat]
  rw[aI (by rw[eP];simpa using hi),aI (inb _ i hi),bJ _ i hi,k1,au,aI (inb y k hky),bJ y k hky,Fq hok ho hor,au]
  by_cases hf:okC (pz y[k] s.orders[i])
  ·rw[if_pos hf]
   simp only[nM,aS,aU]
   rw[aI (inb y k hky),ak]
   refine⟨dZ (by omega),(wP _ _ _).trans hx,fun j hj=> ?_⟩
   have hj':j<y.length:=by simpa [aZ] using hj
   show(aZ y (itn (k:Int)) (pz y[k] s.orders[i]))[j]'hj=_/\SN ((aZ y (itn (k:Int)) (pz y[k] s.orders[i]))[j]'hj)
   rw[Xj]
   split
   ·rename_i e;subst e
    exact⟨hkk,XQ hf⟩
   ·rename_i e
    rw[hsum j]
    unfold inC
    rw[if_neg (by omega),KO]
    exact hy j hj'
  ·rw[if_neg hf]
   simp only[zy,bC,bI]
   rw[ak]
   refine⟨rfl,fun hall=>hf (Vt hnew ?_)⟩
   rw[hkk]
   have e:l7 s.symbols k s.orders=mF (l7 s.symbols k (s.orders.take (i+1))) (l7 s.symbols k (s.orders.drop (i+1))):=by
    rw[<-uH,List.take_append_drop]
   have:=hall k k3
   rw[e]at this
   exact afr (LH _ _ fun o h=>⟨(hk o (List.mem_of_mem_drop h)).1.1,(hk o (List.mem_of_mem_drop h)).2⟩) this
 ·rintro⟨q,x,y⟩ hx
  simp only[jU]
  rw[dD (by rw[eP];simp),ak]
  simp only[List.take_length]at hx
  exact hx
 ·simp only[List.take_zero,l7]
  refine⟨by simp [jJ,itn,len],fun j hj=> ?_⟩
  simp only[jJ,List.getElem_replicate]
  exact⟨rfl,by simp only[SN];decide⟩
 ·rintro w hw
  cases w with
  |inl b=>
   obtain⟨h1,h2⟩:=hw
   simp only[gK,ak,h1]
   exact⟨⟨fun h=>(by cases h),fun h=>absurd h h2⟩,fun h=>by cases h⟩
  |inr b=>
   obtain⟨h1,h2⟩:=hw
   simp only[gK,ak]
   refine⟨⟨fun _ j hj=> ?_,fun _=>trivial⟩,fun _=>⟨h1,fun j hj=>(h2 j hj).1⟩⟩
   have:=h2 j (by omega)
   rw[<-this.1];exact this.2
def eF (s:aC) (l:List aG):List aX:=s.cells.mapIdx fun i c=>mF ⟨c.pos,0,0,0⟩ (l7 s.symbols i l)
theorem jY (s:aC) (l:List aG):(eF s l).length=s.cells.length:=by simp [eF]
theorem o8 (s:aC) (l:List aG) (i:Nat) (h:i<(eF s l).length):(eF s l)[i]=mF ⟨(s.cells[i]'(by simpa [eF] using h)).pos,0,0,0⟩ (l7 s.symbols i l):=by
 simp [eF]
def Vx (n m:Int) (cs:List aX):Prop:=∀a:Int,0<=a->a<n->ou (qw m cs a)<=9223372036854775807
structure kN (s:aC):Prop where
 sized:qR s
 fine:acG s
 cells:s.cells=eF s s.orders
 ok:∀c∈s.cells,okC c
 acct:Vx s.accounts s.symbols s.cells
theorem Qp (s:aC) (hr:jS s) (hl:s.orders.length<999999) (h2:s.limits.length<999999) (h3:s.caps.length<999999):
 Wq (mQ s) fun b=>b=true↔kN s:=by
 unfold mQ wE
 rw[pW]
 refine Wq.bind (MI s) fun z hz=> ?_
 refine Wq.bind (Q:=fun b=>b=true↔(z=true/\acG s)) ?_ ?_
 ·rw[gJ]
  refine⟨fun h=> ?_,fun h=>(ak _).2 ?_⟩
  ·simp only[bn,aY]at h
   have hs:qR s:=hz.1 h
   refine(aiy s hl h2 h3 ?_).mono fun b hb=>by rw[hb];simp [h]
   intro e
   have:=hs.2.2.2.2.1
   have:=hs.1.1
   simp [e,len]at*
   omega
  ·simp only[bn,aY]at h
   simp [h]
 ·intro f hf
  rw[gJ]
  refine⟨fun h=>(ak _).2 ((ak _).2 ?_),fun h=> ?_⟩
  ·simp only[dh,bn]at h
   refine⟨fun h=>(by cases h),fun hr=> ?_⟩
   have e1:=hz.2 hr.sized
   have e2:=hf.2 ⟨e1,hr.fine⟩
   rw[e1,e2]at h
   simp at h
  ·simp only[dB,aY]at h
   have hs:=hz.1 h.1
   have hfn:=(hf.1 h.2).2
   obtain⟨hc,hlim,hcap,hol⟩:=hs.lens
   have hall:∀o∈s.orders,CY s o/\gy o:=fun o ho=>⟨hfn.ords o ho,hr.orders.1 o ho⟩
   have hokc:∀c∈s.cells,ET c:=hr.cells.1
   refine Wq.bind (agG hs hall) fun y hy=> ?_
   obtain⟨hy1,hy2⟩:=hy
   rw[gJ]
   refine⟨fun h5=>(ak _).2 ((ak _).2 ?_),fun h5=> ?_⟩
   ·rw[bn]at h5
    refine⟨fun h=>(by cases h),fun hR=> ?_⟩
    have:y.2=true:=hy1.2 fun j hj=>by
     have e:=hR.ok s.cells[j] (List.getElem_mem _)
     have e2:s.cells[j]=mF ⟨s.cells[j].pos,0,0,0⟩ (l7 s.symbols j s.orders):=by
      have:=o8 s s.orders j (by rw[jY];exact hj)
      rw[<-this]
      congr 1
      exact hR.cells
     have e3:=XQ e
     rw[e2]at e3
     unfold SN mF at e3
     simpa [SN] using e3
    rw[this]at h5;cases h5
   ·rw[aY]at h5
    obtain⟨hyl,hyg⟩:=hy2 h5
    refine Wq.bind (Q:=fun w:(Bool×List aX) ⊕ (Bool×List aX)=>match w with
     |.inl b=>b.1=false/\¬((∀c∈s.cells,okC c)/\s.cells=eF s s.orders)
     |.inr _=>(∀c∈s.cells,okC c)/\s.cells=eF s s.orders)
     (nD (n:=s.cells.length) (step:=fun v:Int×Bool×List aX=>jQ (len s.cells) s.cells v.1 v.2.1 v.2.2) (by omega)
     (fun i x=>x.2.length=s.cells.length/\(∀(j:Nat) (h:j<x.2.length),i<=j->x.2[j]=l7 s.symbols j s.orders)/\∀(j:Nat) (h:j<s.cells.length),j<i->okC s.cells[j]/\s.cells[j]=mF ⟨s.cells[j].pos,0,0,0⟩ (l7 s.symbols j s.orders)) _ ?_ ?_ _ 0 (Nat.zero_le _)
     ⟨hyl,fun j hj _=>hyg j hj,fun j _ h=>by omega⟩) ?_
    ·rintro i ⟨q,x⟩ hi ⟨hx,hxj,hxd⟩
     simp only at hx hxj hxd
     simp only[jQ]
     have hix:i<x.length:=by omega
     rw[aI (by rw[eP];simpa using hi),aI (inb _ i hi),aI (inb x i hix),bJ _ i hi,bJ x i hix,kR (hokc _ (List.getElem_mem _)),au]
     have hil:i<(aZ x (itn (i:Int)) (aX.mk s.cells[i].pos x[i].buy x[i].sell x[i].opn)).length:=by rw[wP];exact hix
     rw[aI (by rw[dh];exact .inl (inb _ i hil)),bJ _ i hil]
     have hg:(aZ x (itn (i:Int)) (aX.mk s.cells[i].pos x[i].buy x[i].sell x[i].opn))[i]=aX.mk s.cells[i].pos x[i].buy x[i].sell x[i].opn:=by
      simp [aZ,itn]
     rw[hg]
     have hxi:=hxj i hix (Nat.le_refl _)
     have hq:mF ⟨s.cells[i].pos,0,0,0⟩ (l7 s.symbols i s.orders)=aX.mk s.cells[i].pos x[i].buy x[i].sell x[i].opn:=by
      rw[<-hxi]
      have hp:x[i].pos=0:=by rw[hxi];exact(LH _ _ fun o h=>⟨(hall o h).1.1,(hall o h).2⟩).1
      apply yY<;>simp only[mF]<;>omega
     simp only[gJ,ak,bg,bP,dh,dB,bn,aY,dn,dG,bZ,dL,bF,bH,dJ,dO]
     constructor
     ·intro hb
      refine⟨trivial,fun⟨a1,a2⟩=> ?_⟩
      have b1:=a1 s.cells[i] (List.getElem_mem _)
      have b2:s.cells[i]=mF ⟨s.cells[i].pos,0,0,0⟩ (l7 s.symbols i s.orders):=by
       have:=o8 s s.orders i (by rw[jY];exact hi)
       rw[<-this];congr 1
      rw[hq]at b2
      rcases hb with hb | hb
      ·exact absurd b1 (by simpa using hb)
      ·have c2:=congrArg aX.buy b2;have c3:=congrArg aX.sell b2;have c4:=congrArg aX.opn b2
       simp only at c2 c3 c4
       rcases hb with hb | hb | hb | hb
       ·exact hb rfl
       ·exact hb c2.symm
       ·exact hb c3.symm
       ·exact hb c4.symm
     ·intro hb
      obtain⟨b1,_,b2,b3,b4⟩:=hb
      refine⟨dZ (by omega),(wP _ _ _).trans hx,fun j hj hij=> ?_,fun j hj hji=> ?_⟩
      ·rw[Xj,if_neg (by omega)]
       exact hxj j (by simpa [aZ] using hj) (by omega)
      ·by_cases e:j=i
       ·subst e
        refine⟨by simpa using b1,?_⟩
        rw[hq]
        exact yY rfl b2.symm b3.symm b4.symm
       ·exact hxd j hj (by omega)
    ·rintro⟨q,x⟩ ⟨hx,_,hxd⟩
     simp only[jQ]
     rw[dD (by rw[eP];simp),ak]
     refine⟨fun c hc=> ?_,?_⟩
     ·obtain⟨j,hj,rfl⟩:=List.getElem_of_mem hc
      exact(hxd j hj hj).1
     ·refine List.ext_getElem (jY _ _).symm fun j h1 h2=> ?_
      rw[o8]
      exact(hxd j h1 h1).2
    ·rintro w hw
     cases w with
     |inl b=>
      obtain⟨h1,h2⟩:=hw
      simp only[gK,ak,h1]
      exact⟨fun h=>(by cases h),fun hR=>absurd ⟨hR.ok,hR.cells⟩ h2⟩
     |inr b=>
      obtain⟨hok,hcs⟩:=hw
      simp only[gK]
      rw[pW]
      have hacc:∀a:Int,∀c∈qw s.symbols s.cells a,0<=c.opn/\inI c.opn:=fun a c hc=>by
       have:=hok c (WO hc)
       exact⟨this.2.1.2.2,this.1.opn⟩
      refine Wq.mono (Q:=fun w:Bool ⊕ Bool=>match w with | .inl b=>b=false/\¬Vx s.accounts s.symbols s.cells | .inr _=>Vx s.accounts s.symbols s.cells)
       (nD (n:=s.accounts.toNat) (step:=fun v:Int×Bool=>jL s.accounts s v.1 v.2) (by have:=hs.1.2;omega)
       (fun i x=>∀a:Int,0<=a->a<i->ou (qw s.symbols s.cells a)<=9223372036854775807) _ ?_ ?_ _ 0 (Nat.zero_le _) (fun a h1 h2=>by omega)) ?_
      ·rintro i q hi hx
       have hia:(i:Int)<s.accounts:=by omega
       simp only[jL]
       rw[aI (DZ hia),Q8 hs i (by omega) hia,au,FU (by have:=Ro (n:=s.symbols) (cs:=s.cells) (a:=(i:Int));omega) (hacc i),au]
       by_cases hw:ou (qw s.symbols s.cells i)<=9223372036854775807
       ·rw[if_pos hw]
        simp only[nM,aS,aU,ak]
        refine⟨dZ (by omega),fun a h1 h2=> ?_⟩
        by_cases e:a=i
        ·subst e;exact hw
        ·exact hx a h1 (by omega)
       ·rw[if_neg hw]
        simp only[zy,bC,bI,ak]
        exact⟨trivial,fun h=>hw (h i (by omega) hia)⟩
      ·rintro q hx
       simp only[jL]
       rw[dD (BI (by omega)),ak]
       exact fun a h1 h2=>hx a h1 (by omega)
      ·rintro w hw
       cases w with
       |inl b=>
        obtain⟨rfl,h2⟩:=hw
        simp only[ak]
        exact⟨fun h=>(by cases h),fun hR=>absurd hR.acct h2⟩
       |inr b=>
        simp only[ak]
        exact⟨fun _=>⟨hs,hfn,hcs,hok,hw⟩,fun _=>trivial⟩
def Ep (o:aG):aG:=⟨o.id,o.account,o.symbol,o.side,o.qty,o.price,o.filled,3,0,0,o.version,o.asked⟩
def GU (o:aG):aG:=⟨o.id,o.account,o.symbol,o.side,o.qty,o.price,o.filled,o.phase,0,0,o.version,o.asked⟩
def jo (r:iT):aG:=⟨r.order,r.account,r.symbol,r.side,r.qty,r.price,0,1,0,0,0,false⟩
def vP (o:aG):Prop:=o.phase=2/\¬tC o/\o.asked=false/\o.version<9223372036854775807
instance (o:aG):Decidable (vP o):=by unfold vP;infer_instance
def qM (o:aG) (q p:Int):aG:=⟨o.id,o.account,o.symbol,o.side,o.qty,o.price,o.filled,o.phase,q,p,o.version+1,o.asked⟩
def agt (o:aG):aG:=⟨o.id,o.account,o.symbol,o.side,o.qty,o.price,o.filled,o.phase,o.newQty,o.newPrice,o.version,true⟩
def SA (o:aG) (f:Int):aG:=⟨o.id,o.account,o.symbol,o.side,o.qty,o.price,f,o.phase,o.newQty,o.newPrice,o.version,o.asked⟩
def QT (o:aG) (f:Int):aG:=⟨o.id,o.account,o.symbol,o.side,o.qty,o.price,o.filled,f,o.newQty,o.newPrice,o.version,o.asked⟩
def Xt (o:aG) (q p:Int):aG:=⟨o.id,o.account,o.symbol,o.side,q,p,o.filled,o.phase,0,0,o.version,o.asked⟩
def Na (o:aG) (what q p:Int):Option aG:=
 if o.phase=1 then (if what=1 then some (QT o 2)else if what=2 then some (Ep o)else none)
 else if o.phase=2 then
  if what=3 then (if o.qty - o.filled<q then none else if o.filled+q<o.qty then some (SA o (o.filled+q))else some (Ep (SA o (o.filled+q))))
  else if what=4 then some (Ep o)
  else if what=5 then (if tC o/\q=o.newQty/\p=o.newPrice/\o.filled<q then some (Xt o q p)else none)
  else if what=6 then (if tC o then some (GU o)else none)
  else none
 else none
theorem Wi {r:iT} (h:vN r) (hk:r.kind=1):wW r=some (jo r,0):=by
 unfold wW
 obtain⟨b,e,q⟩:=uJ r
 rw[e,q.2 h,hk]
 rfl
theorem Vw {o:aG} {q p:Int} (h:sF o) (hr:gy o) (hq:1<=q) (hp:1<=p):
 Wq (uM o q p) fun r=>(vP o->r=(qM o q p,0))/\(¬vP o->r.2≠0):=by
 have hv:=hr.version
 unfold uM
 rw[lV hv (by decide),au,kF,au,decide_eq_true h,aS,aU,dD (BI (by omega)),dD (BI (by omega))]
 unfold inI at hv
 by_cases hm:o.version+1<=9223372036854775807
 ·rw[if_pos ⟨by omega,hm⟩]
  simp only[nM,aS,aU]
  unfold ai
  rw[Jo ⟨by omega,hm⟩,BV,au]
  simp only[pW,gJ,ak,bg,bP,dh,dB,bn,aY,dn,dG,bZ,dL,bF,bH,dJ,dO,true_implies,ne_eq,not_true_eq_false,false_implies,and_true,true_and,or_self,reduceCtorEq]
  unfold vP
  refine⟨fun h1=>⟨fun _=>⟨fun h2=>absurd h2.1 h1,fun _=>by decide⟩,fun h2=>absurd h2 h1⟩,fun h1=>⟨fun h2=>⟨fun _=>⟨fun h3=>absurd (by simpa using h2) h3.2.1,fun _=>by decide⟩,fun h3=>by rw[h2]at h3;cases h3⟩,fun h2=> ?_⟩⟩
  have h2:¬tC o:=by simpa using h2
  refine⟨fun h3=>⟨fun h4=>(by rw[h4.2.2.1]at h3;cases h3),fun _=>by decide⟩,fun h3=>⟨fun _=>rfl,fun h4=>absurd ⟨h1,h2,h3,by omega⟩ h4⟩⟩
 ·rw[if_neg (by unfold inI;omega)]
  simp only[zy,bC,bI,ak]
  exact⟨fun h2=>(by have:=h2.2.2.2;omega),fun _=>by decide⟩
theorem aac {o:aG} (h:sF o) (h3:o.phase≠3):BF o=some (if o.asked=true then (o,8)else (agt o,0)):=by
 unfold BF
 rw[kF,au,decide_eq_true h,aS,aU,dD (by rw[bH];exact h3),KA]
 split<;>rfl
def pI (n:fE):iT:=⟨6,n.order,0,0,0,n.qty,n.price,0,0,0,false,n.seq,n.what⟩
theorem Ii (o:aG):yU o=some (Ep o):=rfl
theorem Yq (o:aG) (n:fE):CX o n=some (if n.what=1 then (QT o 2,true)else if n.what=2 then (Ep o,true)else (o,false)):=by
 unfold CX
 rw[Ii,au,kM,kM]
 split
 ·rfl
 ·split<;>rfl
theorem Yr {o:aG} {n:fE} (h:sF o) (hr:gy o) (hp:o.phase=2) (hn:n.what=3->1<=n.qty/\inI n.qty):
 Wq (Dn o n) fun r=>match Na o n.what n.qty n.price with | some p=>r=(p,true) | none=>r.2=false:=by
 have hq:=hr.qty;have hf:=hr.filled
 have h1:=h.2.1;have h2:=h.2.2.1
 unfold inI at hq hf
 unfold Dn Na
 rw[if_neg (by omega),if_pos hp]
 unfold aA ai
 rw[Jo (n:=o.qty - o.filled) ⟨by omega,by omega⟩]
 by_cases k3:n.what=3
 ·obtain⟨g1,g2⟩:=hn k3
  unfold inI at g2
  rw[if_pos k3,aI (by rw[bF];exact k3),gJ]
  refine⟨fun h4=> ?_,fun h4=> ?_⟩
  ·rw[dn]at h4
   rw[if_pos h4,ak]
  ·rw[dG]at h4
   rw[if_neg (by omega),Jo ⟨by omega,by omega⟩,gJ]
   refine⟨fun h5=> ?_,fun h5=> ?_⟩
   ·rw[dn]at h5
    rw[if_pos h5,ak];rfl
   ·rw[dG]at h5
    rw[if_neg (by omega),Ii,au,ak];rfl
 rw[if_neg k3,dD (by rw[bH];exact k3)]
 by_cases k4:n.what=4
 ·rw[if_pos k4,aI (by rw[bF];exact k4),Ii,au,ak]
 rw[if_neg k4,dD (by rw[bH];exact k4)]
 by_cases k5:n.what=5
 ·rw[if_pos k5,aI (by rw[bF];exact k5),BV,au,gJ]
  refine⟨fun hb=> ?_,fun hb=> ?_⟩
  ·simp only[bg,bP,dh,dB,bn,aY,dn,dG,bZ,dL,bF,bH,dJ,dO,decide_eq_false_iff_not]at hb
   rw[if_neg (by rintro⟨a1,a2,a3,a4⟩;rcases hb with ((hb | hb) | hb) | hb;exact hb a1;exact hb a2;exact hb a3;omega),ak]
  ·simp only[bg,bP,dh,dB,bn,aY,dn,dG,bZ,dL,bF,bH,dJ,dO,decide_eq_true_eq]at hb
   rw[if_pos ⟨hb.1.1.1,hb.1.1.2,hb.1.2,by omega⟩]
   exact(ak _).2 rfl
 rw[if_neg k5,dD (by rw[bH];exact k5)]
 by_cases k6:n.what=6
 ·rw[if_pos k6,aI (by rw[bF];exact k6),BV]
  by_cases hb:tC o
  ·rw[if_pos hb,decide_eq_true hb];exact(ak _).2 rfl
  ·rw[if_neg hb,decide_eq_false hb];exact(ak _).2 rfl
 rw[if_neg k6,dD (by rw[bH];exact k6),ak]
theorem Ym {o:aG} {n:fE} (h:sF o) (hr:gy o) (hn:vN (pI n)) (hi:n.order=o.id) (hq:inI n.qty):
 zA o n=some (match Na o n.what n.qty n.price with | some p=>(p,0) | none=>(o,8)):=by
 refine Wq.eq ?_
 unfold zA
 obtain⟨b,e,q⟩:=uJ (pI n)
 rw[kF,au,decide_eq_true h,aS,bC,bI,show mP n=some (pI n)from rfl,au,bI,e,q.2 hn,au,aS,fP,fP,dD (by rw[aY,bF];exact hi),gJ]
 refine⟨fun h1=> ?_,fun h1=> ?_⟩
 ·rw[bF]at h1
  rw[Yq,au]
  unfold Na
  rw[if_pos h1]
  by_cases k1:n.what=1
  ·simp only[if_pos k1];exact(ak _).2 rfl
  ·by_cases k2:n.what=2
   ·simp only[if_neg k1,if_pos k2];exact(ak _).2 rfl
   ·simp only[if_neg k1,if_neg k2];exact(ak _).2 rfl
 ·rw[bH]at h1
  rw[gJ]
  refine⟨fun h2=> ?_,fun h2=> ?_⟩
  ·rw[bF]at h2
   refine Wq.bind (Yr h hr h2 fun k3=> ?_) fun y hy=> ?_
   ·unfold vN pI at hn
    simp only at hn
    refine⟨?_,hq⟩
    omega
   ·rw[gJ]
    cases ht:Na o n.what n.qty n.price with
    |none=>
     simp only[ht]at hy
     rw[hy]
     exact⟨fun _=>(ak _).2 rfl,fun h=>(by cases h)⟩
    |some p=>
     simp only[ht]at hy
     rw[hy]
     exact⟨fun h=>(by cases h),fun _=>(ak _).2 rfl⟩
  ·rw[bH]at h2
   rw[ak]
   unfold Na
   rw[if_neg h1,if_neg h2]
def WN (s:aC) (l:List aG):aC:=⟨s.accounts,s.symbols,l,eF s l,s.limits,s.caps,s.kill,s.last,s.seq,s.lsn⟩
def ZB (s:aC):Prop:=(∀c∈s.cells,okC c)/\Vx s.accounts s.symbols s.cells
def RH (was now:aC) (a y:Int):Prop:=
 Ed (ofC (ah was.cells (itn (a*was.symbols+y)))) (ofC (ah now.cells (itn (a*was.symbols+y)))) (ah was.limits (itn (a*was.symbols+y)))\/
 VT (ou (qw was.symbols was.cells a)) (ou (qw was.symbols now.cells a)) (ah was.caps (itn a))
instance (s t:aC) (a y:Int):Decidable (RH s t a y):=by unfold RH;infer_instance
open Classical in
noncomputable def MJ (s t:aC) (a y:Int):aC×Int:=
 if ¬ZB t then (s,3)else if RH s t a y then (s,4)else (⟨t.accounts,t.symbols,t.orders,t.cells,t.limits,t.caps,t.kill,t.last,t.seq,t.lsn+1⟩,0)
def aef (s:aC) (o:aG) (q:Int):List aX:=
 aZ s.cells (itn (atZ s.symbols o)) ⟨if o.side=1 then (ah s.cells (itn (atZ s.symbols o))).pos+q else (ah s.cells (itn (atZ s.symbols o))).pos - q,(ah s.cells (itn (atZ s.symbols o))).buy,(ah s.cells (itn (atZ s.symbols o))).sell,(ah s.cells (itn (atZ s.symbols o))).opn⟩
def evS (s:aC) (r:iT) (k:Nat) (p:aG):aC:=
 let o:=ah s.orders k
 let s':aC:=⟨s.accounts,s.symbols,s.orders,if r.what=3 then aef s o r.qty else s.cells,s.limits,s.caps,s.kill,s.last,r.seq,s.lsn+1⟩
 WN s' (if p.phase=3 then s.orders.eraseIdx k else aZ s.orders k p)
def OL (s:aC) (r:iT):Prop:=kN s/\vN r/\s.lsn<1000000000/\r.account<s.accounts/\r.symbol<s.symbols/\(r.kind=1->s.last<r.order)
open Classical in
noncomputable def doS (s:aC) (r:iT):aC×Int:=
 if ¬OL s r then (s,1)
 else if r.kind=1 then
  if s.kill=true then (s,5)else if s.orders.length=64 then (s,6)
  else MJ s ⟨s.accounts,s.symbols,dm s.orders [jo r],eF s (dm s.orders [jo r]),s.limits,s.caps,s.kill,r.order,s.seq,s.lsn⟩ r.account r.symbol
 else if r.kind=2 then
  match wQ s.orders r.order with
  |none=>(s,7)
  |some k=>
   if ¬vP (ah s.orders k)then (s,8)else if s.kill=true then (s,5)
   else MJ s (WN s (aZ s.orders k (qM (ah s.orders k) r.qty r.price))) (ah s.orders k).account (ah s.orders k).symbol
 else if r.kind=3 then
  match wQ s.orders r.order with
  |none=>(s,7)
  |some k=>if (ah s.orders k).asked=true then (s,8)else (⟨s.accounts,s.symbols,aZ s.orders k (agt (ah s.orders k)),s.cells,s.limits,s.caps,s.kill,s.last,s.seq,s.lsn+1⟩,0)
 else if r.kind=4 then
  if r.symbol= -1 then (⟨s.accounts,s.symbols,s.orders,s.cells,s.limits,aZ s.caps (itn r.account) r.opn,s.kill,s.last,s.seq,s.lsn+1⟩,0)
  else (⟨s.accounts,s.symbols,s.orders,s.cells,aZ s.limits (itn (r.account*s.symbols+r.symbol)) ⟨r.long,r.short,r.opn⟩,s.caps,s.kill,s.last,s.seq,s.lsn+1⟩,0)
 else if r.kind=5 then (⟨s.accounts,s.symbols,s.orders,s.cells,s.limits,s.caps,r.on,s.last,s.seq,s.lsn+1⟩,0)
 else if r.seq≠s.seq+1 then (s,11)
 else match wQ s.orders r.order with
  |none=>(⟨s.accounts,s.symbols,s.orders,s.cells,s.limits,s.caps,s.kill,s.last,r.seq,s.lsn+1⟩,0)
  |some k=>match Na (ah s.orders k) r.what r.qty r.price with
   |none=>(⟨s.accounts,s.symbols,s.orders,s.cells,s.limits,s.caps,s.kill,s.last,r.seq,s.lsn+1⟩,0)
   |some p=>(evS s r k p,0)
theorem ai8 {n:Int} (h1:0<=n) (h2:n<1000000000):wr .i64 (ai n 1)=n+1:=by unfold ai;exact dA (by omega) (by omega)
theorem YU {s:aC} (hs:qR s) {o:aG} (h:CY s o):∃k:Nat,bf s o.account o.symbol=some (k:Int)/\atZ s.symbols o=(k:Int)/\k<s.cells.length:=by
 obtain⟨ho,_,g1,g2⟩:=h
 obtain⟨⟨_,hb1,hb2,_⟩,_⟩:=id ho
 obtain⟨k,k1,k2,k3⟩:=KU hs o.account o.symbol hb1.1 g1 hb2.1 g2
 exact⟨k,k1,k2.symm,k3⟩
theorem abC {s:aC} (hR:kN s) (l:List aG) (k:Nat) (hk:k<s.cells.length) (c:aX) (hc:c=mF ⟨s.cells[k].pos,0,0,0⟩ (l7 s.symbols k l))
 (ho:∀j:Nat,j≠k->l7 s.symbols j l=l7 s.symbols j s.orders):eF s l=s.cells.set k c:=by
 refine List.ext_getElem (by rw[jY,List.length_set]) fun j h1 h2=> ?_
 rw[o8,List.getElem_set]
 have hj:j<s.cells.length:=by simpa [eF] using h1
 split
 ·rename_i e;subst e;exact hc.symm
 ·rename_i e
  rw[ho j (by omega),<-o8 s s.orders j (by rw[jY];exact hj)]
  congr 1
  exact hR.cells.symm
theorem cell_of {s:aC} (hR:kN s) (k:Nat) (hk:k<s.cells.length):s.cells[k]=mF ⟨s.cells[k].pos,0,0,0⟩ (l7 s.symbols k s.orders):=by
 have:=o8 s s.orders k (by rw[jY];exact hk)
 rw[<-this];congr 1;exact hR.cells
theorem ab7 {n:Int} {o:aG} {k:Nat} (h:atZ n o=(k:Int)):inC n k o=wC o:=by unfold inC;rw[if_pos h]
theorem TG {n:Int} {o:aG} {k j:Nat} (h:atZ n o=(k:Int)) (hj:j≠k):inC n j o=zC:=by unfold inC;rw[if_neg (by omega)]
theorem ai5 {s:aC} (hR:kN s) (o:aG) (k:Nat) (hk:k<s.cells.length) (ha:atZ s.symbols o=(k:Int)):eF s (s.orders++[o])=s.cells.set k (pz s.cells[k] o):=by
 refine abC hR _ k hk _ ?_ fun j hj=> ?_
 ·rw[uH,VE,ab7 ha,<-Ee,<-cell_of hR k hk,Tt]
 ·rw[uH,VE,TG ha hj,KO]
theorem IZ.find {l:List aG} (h:IZ l) {i j:Nat} (hi:i<l.length) (hj:j<l.length) (e:l[i].id=l[j].id):i=j:=by
 rcases Nat.lt_trichotomy i j with h1 | h1 | h1
 ·have:=List.pairwise_iff_getElem.1 h i j hi hj h1;omega
 ·exact h1
 ·have:=List.pairwise_iff_getElem.1 h j i hj hi h1;omega
theorem ahj {c:aX} {o:aG} {d:aX} (h:c=mF d (wC o)):qf c o=d:=by
 subst h
 unfold qf wC mF
 split<;>apply yY<;>simp only<;>omega
def Vj (s:aC) (m k:Nat):aX:=mF (mF (l7 s.symbols k (s.orders.take m)) (l7 s.symbols k (s.orders.drop (m+1)))) zC
theorem LK {s:aC} (hR:kN s) (m:Nat) (hm:m<s.orders.length) (k:Nat) (hk:k<s.cells.length) (ha:atZ s.symbols s.orders[m]=(k:Int)):
 qf s.cells[k] s.orders[m]=mF ⟨s.cells[k].pos,0,0,0⟩ (Vj s m k):=by
 refine ahj ?_
 have h:=cell_of hR k hk
 rw[D6 s.symbols k s.orders m hm,ab7 ha]at h
 unfold Vj
 rw[KO,Ee]
 exact h
theorem ag3 {s:aC} (hk:∀o∈s.orders,sF o/\gy o) (m k:Nat):nnC (Vj s m k):=by
 unfold Vj
 rw[KO]
 exact YH (LH _ _ fun o h=>hk o (List.mem_of_mem_take h)) (LH _ _ fun o h=>hk o (List.mem_of_mem_drop h))
theorem ae1 {s:aC} (hR:kN s) (m:Nat) (hm:m<s.orders.length) (p:aG) (k:Nat) (hk:k<s.cells.length) (ha:atZ s.symbols s.orders[m]=(k:Int)) (hp:atZ s.symbols p=(k:Int)):
 eF s (s.orders.set m p)=s.cells.set k (pz (qf s.cells[k] s.orders[m]) p):=by
 refine abC hR _ k hk _ ?_ fun j hj=> ?_
 ·rw[LK hR m hm k hk ha,Uu s.symbols k s.orders m hm,ab7 hp,Tt]
  unfold Vj
  rw[KO,Ee]
 ·rw[Uu s.symbols j s.orders m hm,D6 s.symbols j s.orders m hm,TG hp hj,TG ha hj]
theorem ajg {s:aC} (hR:kN s) (m:Nat) (hm:m<s.orders.length) (k:Nat) (hk:k<s.cells.length) (ha:atZ s.symbols s.orders[m]=(k:Int)):
 eF s (s.orders.eraseIdx m)=s.cells.set k (qf s.cells[k] s.orders[m]):=by
 refine abC hR _ k hk _ ?_ fun j hj=> ?_
 ·rw[LK hR m hm k hk ha,Ua s.symbols k s.orders m hm]
  unfold Vj
  rw[KO]
 ·rw[Ua s.symbols j s.orders m hm,D6 s.symbols j s.orders m hm,TG ha hj,KO]
theorem abt {s:aC} (hR:kN s) (hr:jS s) (m:Nat) (hm:m<s.orders.length) (k:Nat) (hk:k<s.cells.length) (ha:atZ s.symbols s.orders[m]=(k:Int)):okC (qf s.cells[k] s.orders[m]):=by
 have hall:∀o∈s.orders,sF o/\gy o:=fun o h=>⟨(hR.fine.ords o h).1,hr.orders.1 o h⟩
 have hm':=hall s.orders[m] (List.getElem_mem _)
 have h1:=hR.ok s.cells[k] (List.getElem_mem _)
 rw[LK hR m hm k hk ha]
 have h2:=ag3 hall m k
 have h3:=agv hm'.1 hm'.2
 have h4:s.cells[k]=mF (mF ⟨s.cells[k].pos,0,0,0⟩ (Vj s m k)) (wC s.orders[m]):=by
  have:=LK hR m hm k hk ha
  rw[<-this]
  unfold qf wC mF
  split<;>apply yY<;>simp only<;>omega
 rw[EP]at h1 ⊢
 have b1:=congrArg aX.buy h4;have b2:=congrArg aX.sell h4;have b3:=congrArg aX.opn h4
 unfold nnC at h2 h3
 unfold inI at*
 simp only[mF]at*
 omega
theorem ac9 {n:Int} {cs:List aX} (h:∀c∈cs,okC c) (a:Int):∀c∈qw n cs a,0<=c.opn/\inI c.opn:=fun c hc=>by
 have:=h c (WO hc)
 exact⟨this.2.1.2.2,this.1.opn⟩
theorem aeB {n:Int} (hn:0<=n) {cs:List aX} {k:Nat} {c:aX} {a y b:Int} (ha:0<=a) (hy:0<=y) (hy2:y<n) (hk:(k:Int)=a*n+y) (hb:0<=b) (hab:b≠a):qw n (cs.set k c) b=qw n cs b:=by
 unfold qw
 rcases Int.lt_or_gt_of_ne hab with h | h
 ·have h1:(b+1)*n<=a*n:=Int.mul_le_mul_of_nonneg_right (by omega) hn
  have h2:(b+1)*n=b*n+n:=by rw[Int.add_mul,Int.one_mul]
  have h3:0<=b*n:=Int.mul_nonneg hb hn
  rw[List.drop_set]
  rw[if_neg (by omega),List.take_set_of_le (by omega)]
 ·have h1:(a+1)*n<=b*n:=Int.mul_le_mul_of_nonneg_right (by omega) hn
  have h2:(a+1)*n=a*n+n:=by rw[Int.add_mul,Int.one_mul]
  rw[List.drop_set_of_lt (by omega)]
theorem acZ {s t:aC} (hR:kN s) (hn1:t.accounts=s.accounts) (hn2:t.symbols=s.symbols) {k:Nat} {c:aX} {a y:Int} (ha:0<=a) (ha2:a<s.accounts) (hy:0<=y) (hy2:y<s.symbols) (hk:(k:Int)=a*s.symbols+y) (hkl:k<s.cells.length)
 (hc:t.cells=s.cells.set k c):ZB t↔okC c/\ou (qw s.symbols t.cells a)<=9223372036854775807:=by
 unfold ZB Vx
 rw[hn1,hn2]
 constructor
 ·rintro⟨h1,h2⟩
  refine⟨h1 c ?_,h2 a ha ha2⟩
  rw[hc];exact List.mem_set hkl _
 ·rintro⟨h1,h2⟩
  refine⟨fun d hd=> ?_,fun b hb hb2=> ?_⟩
  ·rw[hc]at hd
   rcases List.mem_or_eq_of_mem_set hd with hd | rfl
   ·exact hR.ok d hd
   ·exact h1
  ·by_cases e:b=a
   ·subst e;exact h2
   ·rw[hc,aeB (by omega) ha hy hy2 hk hb e]
    exact hR.acct b hb hb2
theorem ah2 {s t:aC} (hR:kN s) (ht:qR t) (hn1:t.accounts=s.accounts) (hn2:t.symbols=s.symbols) (hl:t.limits=s.limits) (hcp:t.caps=s.caps) (hok:∀c∈t.cells,okC c) {k:Nat} {a y:Int} (ha:0<=a) (ha2:a<s.accounts) (hy:0<=y) (hy2:y<s.symbols) (hk:(k:Int)=a*s.symbols+y) (hkl:k<s.cells.length):
 dQ t s a y=some (if ¬ou (qw s.symbols t.cells a)<=9223372036854775807 then 3 else if RH s t a y then 4 else 0):=by
 have hs:=hR.sized
 obtain⟨l1,l2,l3,l4⟩:=hs.lens
 obtain⟨m1,m2,m3,m4⟩:=ht.lens
 have hcl:t.cells.length=s.cells.length:=by
  have:=ht.2.2.1;have:=hs.2.2.1
  rw[hn1,hn2]at*
  simp only[len]at *; omega
 obtain⟨k',e1,e2,e3⟩:=KU ht a y ha (by omega) hy (by omega)
 have hkk:k'=k:=by rw[hn2]at e2;omega
 subst hkk
 have hkt:k'<t.cells.length:=by omega
 have hkm:k'<t.limits.length:=by omega
 have ln1:=Ro (n:=s.symbols) (cs:=s.cells) (a:=a)
 have ln2:=Ro (n:=s.symbols) (cs:=t.cells) (a:=a)
 unfold dQ
 rw[e1,au,Q8 ht a ha (by omega),au,hn2,FU (by omega) (ac9 hok a),au]
 by_cases hw:ou (qw s.symbols t.cells a)<=9223372036854775807
 ·rw[if_pos hw,if_neg (by simpa using hw)]
  simp only[nM,aS,aU]
  rw[Q8 hs a ha ha2,au,FU (by omega) (ac9 hR.ok a),au,if_pos (hR.acct a ha ha2),aI (inb _ k' hkl),bJ _ k' hkl,Xa (hR.ok _ (List.getElem_mem _)),au,
   aI (inb _ k' hkt),bJ _ k' hkt,Xa (hok _ (List.getElem_mem _)),au,aI (inb _ k' hkm),bJ _ k' hkm,SI,au]
  have hac:band (ile 0 a) (ilt a (len t.caps))=true:=Gu (lm ha) (DZ (by simp only[len];omega))
  rw[aI (by rw[dh];exact .inl hac),jZ,CS,DL]
  have hst:RH s t a y↔Ed (ofC s.cells[k']) (ofC t.cells[k']) t.limits[k']\/VT (ou (qw s.symbols s.cells a)) (ou (qw s.symbols t.cells a)) (ah t.caps (itn a)):=by
   unfold RH
   rw[<-hk,bJ _ k' hkl,bJ _ k' hkt,bJ _ k' (by omega),hcp]
   simp only[hl]
  by_cases hx:Ed (ofC s.cells[k']) (ofC t.cells[k']) t.limits[k']
  ·rw[if_pos hx,au,decide_eq_true hx,um,bI,if_pos (hst.2 (.inl hx))]
  ·rw[if_neg hx,au,decide_eq_false hx,fP,CS]
   by_cases hz:VT (ou (qw s.symbols s.cells a)) (ou (qw s.symbols t.cells a)) (ah t.caps (itn a))
   ·rw[if_pos hz,if_pos (hst.2 (.inr hz))]
   ·rw[if_neg hz,if_neg fun h=>(hst.1 h).elim hx hz]
 ·rw[if_neg hw,if_pos hw]
  simp only[zy,bC,bI]
theorem aeY {l:List aG} {i:Nat} (hi:i<l.length) (hl:l.length<1000):gm l i (wr .i64 (ai i 1))=some (l.eraseIdx i):=by
 rw[dZ (by omega)]
 unfold gm
 have e1:ay (aF l (itn ((i+1:Nat):Int))) (itn (aA (len l) ((i+1:Nat):Int)))=l.drop (i+1):=by
  simp only[ay,aF,itn,aA,len,Int.toNat_natCast]
  rw[List.take_of_length_le (by simp;omega)]
 rw[e1]
 have e2:nad (itn (i:Int)) (itn (len (l.drop (i+1))))=l.length - 1:=by simp [nad,itn,len];omega
 simp only[e2]
 have e3:(dY l (itn (i:Int)) (l.drop (i+1))).length=l.length:=by simp [dY,itn];omega
 rw[aI (by simp only[bg,bZ,len];omega),dD (by rw[bH];omega),aI (by simp only[bg,bZ,len];omega),aI (by simp only[bg,bZ,len];omega),
  aI (by simp only[bZ,len,nti,itn,ai,List.length_drop,Int.toNat_natCast];omega),aI (by simp only[bg,bZ,len,nti,aA,e3];omega)]
 congr 1
 simp only[ay,aF,dY,itn,nad,nti,len,aA,Int.toNat_natCast,List.drop_zero,Nat.zero_add]
 rw[List.eraseIdx_eq_take_drop_succ]
 have e4:(l.take i++(l.drop (i+1)++l.drop (i+(l.drop (i+1)).length))).take (l.length - 1)=l.take i++l.drop (i+1):=by
  rw[<-List.append_assoc,List.take_append_of_le_length (by simp;omega),List.take_of_length_le (by simp;omega)]
 rw[e4,List.take_append_of_le_length (by simp;omega),List.take_of_length_le (by simp;omega)]
structure agx (o p:aG) (what q:Int):Prop where
 ord:sF p
 rng:gy p
 id:p.id=o.id
 account:p.account=o.account
 symbol:p.symbol=o.symbol
 side:p.side=o.side
 opn:kJ p+(if what=3 then q else 0)<=kJ o
 worth:iH p<=iH o
 phase:p.phase=2\/p.phase=3
theorem aeG {o:aG} (h:sF o):sF (Ep o):=by
 obtain⟨h1,h2,h3,h4,h5,h6⟩:=h
 exact⟨h1,h2,h3,h4,fun h=>by simp [tC,Ep]at h,.inr (.inr ⟨rfl,by simp [tC,Ep]⟩)⟩
theorem agk {o:aG} (h:gy o):gy (Ep o):=⟨h.id,h.account,h.symbol,h.side,h.qty,h.price,h.filled,(by decide:inI 3),(by decide:inI 0),(by decide:inI 0),h.version⟩
theorem LP (o:aG):kJ (Ep o)=0/\iH (Ep o)=0:=⟨rfl,rfl⟩
theorem XH {o:aG} {what q:Int} (h:sF o) (hr:gy o) (hq:what=3->q<=kJ o):agx o (Ep o) what q:=by
 have:=Dq h hr
 have:=Dx h
 refine⟨aeG h,agk hr,rfl,rfl,rfl,rfl,?_,by rw[(LP o).2];omega,.inr rfl⟩
 rw[(LP o).1]
 split
 ·rename_i h3;have:=hq h3;omega
 ·omega
theorem JI {o:aG} (h:o.phase≠3):kJ o=max o.qty o.newQty - o.filled:=by unfold kJ;rw[if_neg h]
theorem yA {o:aG} (h:o.phase≠3):iH o=if o.newQty<=o.filled then (o.qty - o.filled)*o.price else max ((o.qty - o.filled)*o.price) ((o.newQty - o.filled)*o.newPrice):=by unfold iH;rw[if_neg h]
theorem Zz {a b c:Int} (h:a<=b) (hc:0<=c):a*c<=b*c:=Int.mul_le_mul_of_nonneg_right h hc
theorem abW {o p:aG} {what q pr:Int} (h:sF o) (hr:gy o) (ht:Na o what q pr=some p) (h3:what=3->1<=q) (h5:what=5->1<=q/\1<=pr) (rq:inI q) (rp:inI pr):agx o p what q:=by
 obtain⟨g1,g2,g3,g4,g5,g6⟩:=id h
 have hb1:=g1.2.2.2.2.1
 have hb2:=g1.2.2.2.2.2
 have r1:=hr.qty;have r2:=hr.filled;have r3:=hr.newQty;have r4:=hr.newPrice
 unfold inI at r1 r2 r3
 unfold Na at ht
 by_cases p1:o.phase=1
 ·rw[if_pos p1]at ht
  have hp:o.filled=0/\o.version=0/\¬tC o:=by
   rcases g6 with g | g | g
   ·exact g.2
   ·omega
   ·omega
  by_cases k1:what=1
  ·rw[if_pos k1]at ht
   cases ht
   refine⟨⟨g1,g2,g3,g4,g5,.inr (.inl ⟨rfl,by show o.filled<o.qty;omega⟩)⟩,⟨hr.id,hr.account,hr.symbol,hr.side,hr.qty,hr.price,hr.filled,(by decide:inI 2),hr.newQty,hr.newPrice,hr.version⟩,rfl,rfl,rfl,rfl,?_,?_,.inl rfl⟩
   ·have e1:kJ (QT o 2)=max o.qty o.newQty - o.filled:=JI (o:=QT o 2) (by show(2:Int)≠3;decide)
    rw[if_neg (by omega),e1,JI (o:=o) (by omega)];omega
   ·have e1:iH (QT o 2)=if o.newQty<=o.filled then (o.qty - o.filled)*o.price else max ((o.qty - o.filled)*o.price) ((o.newQty - o.filled)*o.newPrice):=yA (o:=QT o 2) (by show(2:Int)≠3;decide)
    rw[e1,yA (o:=o) (by omega)];exact Int.le_refl _
  ·rw[if_neg k1]at ht
   by_cases k2:what=2
   ·rw[if_pos k2]at ht
    cases ht
    exact XH h hr fun h=>by omega
   ·rw[if_neg k2]at ht;cases ht
 ·rw[if_neg p1]at ht
  by_cases p2:o.phase=2
  ·rw[if_pos p2]at ht
   have hlt:o.filled<o.qty:=by rcases g6 with g | g | g<;>omega
   by_cases k3:what=3
   ·rw[if_pos k3]at ht
    have hq1:=h3 k3
    by_cases c1:o.qty - o.filled<q
    ·rw[if_pos c1]at ht;cases ht
    ·rw[if_neg c1]at ht
     have hoo:kJ o=max o.qty o.newQty - o.filled:=by unfold kJ;rw[if_neg (by omega)]
     have hfl:sF (SA o (o.filled+q))\/¬(o.filled+q<o.qty):=by
      by_cases c2:o.filled+q<o.qty
      ·exact .inl ⟨g1,by show 0<=o.filled+q;omega,by show o.filled+q<=o.qty;omega,g4,g5,.inr (.inl ⟨p2,c2⟩)⟩
      ·exact .inr c2
     by_cases c2:o.filled+q<o.qty
     ·rw[if_pos c2]at ht
      cases ht
      refine⟨hfl.resolve_right (by omega),⟨hr.id,hr.account,hr.symbol,hr.side,hr.qty,hr.price,⟨by show _<=o.filled+q;omega,by show o.filled+q<=_;omega⟩,hr.phase,hr.newQty,hr.newPrice,hr.version⟩,rfl,rfl,rfl,rfl,?_,?_,.inl p2⟩
      ·have e1:kJ (SA o (o.filled+q))=max o.qty o.newQty - (o.filled+q):=JI (o:=SA o (o.filled+q)) (by show o.phase≠3;omega)
       rw[if_pos k3,hoo,e1];omega
      ·have e1:iH (SA o (o.filled+q))=if o.newQty<=o.filled+q then (o.qty - (o.filled+q))*o.price else max ((o.qty - (o.filled+q))*o.price) ((o.newQty - (o.filled+q))*o.newPrice):=yA (o:=SA o (o.filled+q)) (by show o.phase≠3;omega)
       rw[e1,yA (o:=o) (by omega)]
       have m1:(o.qty - (o.filled+q))*o.price<=(o.qty - o.filled)*o.price:=Zz (by omega) (by omega)
       by_cases n1:o.newQty<=o.filled
       ·rw[if_pos n1,if_pos (by omega)];exact m1
       ·have hnp:=acv h (by omega)
        have m2:(o.newQty - (o.filled+q))*o.newPrice<=(o.newQty - o.filled)*o.newPrice:=Zz (by omega) (by omega)
        rw[if_neg n1]
        split<;>omega
     ·rw[if_neg c2]at ht
      cases ht
      have hod:sF (Ep (SA o (o.filled+q))):=by
       refine⟨g1,by show 0<=o.filled+q;omega,by show o.filled+q<=o.qty;omega,g4,fun h=>by simp [tC,Ep]at h,.inr (.inr ⟨rfl,by simp [tC,Ep]⟩)⟩
      refine⟨hod,⟨hr.id,hr.account,hr.symbol,hr.side,hr.qty,hr.price,⟨by show _<=o.filled+q;omega,by show o.filled+q<=_;omega⟩,(by decide:inI 3),(by decide:inI 0),(by decide:inI 0),hr.version⟩,rfl,rfl,rfl,rfl,?_,by rw[(LP _).2];exact Dx h,.inr rfl⟩
      rw[(LP _).1,if_pos k3,hoo];omega
   ·rw[if_neg k3]at ht
    by_cases k4:what=4
    ·rw[if_pos k4]at ht
     cases ht
     exact XH h hr fun h=>by omega
    ·rw[if_neg k4]at ht
     have hoo:kJ o=max o.qty o.newQty - o.filled:=by unfold kJ;rw[if_neg (by omega)]
     by_cases k5:what=5
     ·rw[if_pos k5]at ht
      by_cases c1:tC o/\q=o.newQty/\pr=o.newPrice/\o.filled<q
      ·rw[if_pos c1]at ht
       cases ht
       obtain⟨c1,c2,c3,c4⟩:=c1
       obtain⟨h51,h52⟩:=h5 k5
       refine⟨⟨⟨g1.1,g1.2.1,g1.2.2.1,g1.2.2.2.1,h51,h52⟩,g2,by show o.filled<=q;omega,g4,fun h=>by simp [tC,Xt]at h,.inr (.inl ⟨p2,c4⟩)⟩,⟨hr.id,hr.account,hr.symbol,hr.side,rq,rp,hr.filled,hr.phase,(by decide:inI 0),(by decide:inI 0),hr.version⟩,rfl,rfl,rfl,rfl,?_,?_,.inl p2⟩
       ·have e1:kJ (Xt o q pr)=max q 0 - o.filled:=JI (o:=Xt o q pr) (by show o.phase≠3;omega)
        rw[if_neg k3,hoo,e1];omega
       ·have e1:iH (Xt o q pr)=if 0<=o.filled then (q - o.filled)*pr else max ((q - o.filled)*pr) ((0 - o.filled)*0):=yA (o:=Xt o q pr) (by show o.phase≠3;omega)
        rw[e1,yA (o:=o) (by omega),if_pos g2,if_neg (by omega),c2,c3];exact Int.le_max_right _ _
      ·rw[if_neg c1]at ht;cases ht
     ·rw[if_neg k5]at ht
      by_cases k6:what=6
      ·rw[if_pos k6]at ht
       by_cases c1:tC o
       ·rw[if_pos c1]at ht
        cases ht
        refine⟨⟨g1,g2,g3,g4,fun h=>by simp [tC,GU]at h,.inr (.inl ⟨p2,hlt⟩)⟩,⟨hr.id,hr.account,hr.symbol,hr.side,hr.qty,hr.price,hr.filled,hr.phase,(by decide:inI 0),(by decide:inI 0),hr.version⟩,rfl,rfl,rfl,rfl,?_,?_,.inl p2⟩
        ·have e1:kJ (GU o)=max o.qty 0 - o.filled:=JI (o:=GU o) (by show o.phase≠3;omega)
         rw[if_neg k3,hoo,e1];omega
        ·have e1:iH (GU o)=if 0<=o.filled then (o.qty - o.filled)*o.price else max ((o.qty - o.filled)*o.price) ((0 - o.filled)*0):=yA (o:=GU o) (by show o.phase≠3;omega)
         rw[e1,yA (o:=o) (by omega),if_pos g2]
         split
         ·exact Int.le_refl _
         ·exact Int.le_max_left _ _
       ·rw[if_neg c1]at ht;cases ht
      ·rw[if_neg k6]at ht;cases ht
  ·rw[if_neg p2]at ht;cases ht
theorem XA {r:iT} (h:vN r) (hk:r.kind=1):sF (jo r)/\CY ⟨8,8,[],[],[],[],false,0,0,0⟩ (jo r):=by
 unfold vN qL at h
 have h1:NQ (jo r):=by unfold NQ jo;simp only;omega
 have h2:¬tC (jo r):=by simp [tC,jo]
 have h3:sF (jo r):=⟨h1,Int.le_refl _,by have:=h1.2.2.2.2.1;show 0<=(jo r).qty;omega,Int.le_refl _,fun h=>absurd h h2,.inl ⟨rfl,rfl,rfl,h2⟩⟩
 exact⟨h3,h3,by simp [jo],h1.2.1.2,h1.2.2.1.2⟩
theorem Xp {r:iT} (h:sS r):gy (jo r):=⟨h.order,h.account,h.symbol,h.side,h.qty,h.price,(by decide:inI 0),(by decide:inI 1),(by decide:inI 0),(by decide:inI 0),(by decide:inI 0)⟩
theorem VL {o:aG} {q p:Int} (h:sF o) (hc:vP o) (hq:1<=q) (hp:1<=p):sF (qM o q p):=by
 obtain⟨g1,g2,g3,g4,g5,g6⟩:=id h
 obtain⟨c1,c2,c3,c4⟩:=hc
 exact⟨g1,g2,g3,by show 0<=o.version+1;omega,fun _=>⟨hq,hp⟩,.inr (.inl ⟨c1,by rcases g6 with g | g | g<;>(show o.filled<o.qty)<;>omega⟩)⟩
theorem Ug {o:aG} {q p:Int} (h:gy o) (hc:vP o) (hq:inI q) (hp:inI p):gy (qM o q p):=by
 have:=h.version
 obtain⟨c1,c2,c3,c4⟩:=hc
 unfold inI at this
 exact⟨h.id,h.account,h.symbol,h.side,h.qty,h.price,h.filled,h.phase,hq,hp,⟨by show _<=o.version+1;omega,by show o.version+1<=_;omega⟩⟩
theorem ah3 {o:aG} (h:gy o):gy (agt o):=⟨h.id,h.account,h.symbol,h.side,h.qty,h.price,h.filled,h.phase,h.newQty,h.newPrice,h.version⟩
theorem ZY {l:List aG} (h:l.length<1000000):eG l=some l:=pV h
theorem aa3 {l:List aX} (h:l.length<1000000):fB l=some l:=pV h
theorem aa8 {l:List jm} (h:l.length<1000000):fA l=some l:=pV h
theorem Zu {l:List Int} (h:l.length<1000000):gG l=some l:=pV h
theorem xg {s t:aC} (hs:qR s) (h1:t.accounts=s.accounts) (h2:t.symbols=s.symbols) (h3:t.cells.length=s.cells.length) (h4:t.limits.length=s.limits.length) (h5:t.caps.length=s.caps.length) (h6:t.orders.length<=64):qR t:=by
 obtain⟨a1,a2,a3,a4,a5,a6⟩:=hs
 unfold qR
 simp only[len]at*
 rw[h1,h2,h3,h4,h5]
 exact⟨a1,a2,a3,a4,a5,h6⟩
theorem aiu {s t:aC} (hR:kN s) (ht:qR t) (hn1:t.accounts=s.accounts) (hn2:t.symbols=s.symbols) (hl:t.limits=s.limits) (hcp:t.caps=s.caps) {k:Nat} {c:aX} {a y:Int} (ha:0<=a) (ha2:a<s.accounts) (hy:0<=y) (hy2:y<s.symbols) (hk:(k:Int)=a*s.symbols+y) (hkl:k<s.cells.length)
 (hc:t.cells=s.cells.set k c) (hc2:okC c):
 Wq (dQ t s a y) fun e=>cnd (aj (ieq e 0)) (some (s,e)) (some (⟨t.accounts,t.symbols,t.orders,t.cells,t.limits,t.caps,t.kill,t.last,t.seq,t.lsn+1⟩,0))=some (MJ s t a y):=by
 have hok:∀d∈t.cells,okC d:=fun d hd=>by
  rw[hc]at hd
  rcases List.mem_or_eq_of_mem_set hd with hd | rfl
  ·exact hR.ok d hd
  ·exact hc2
 rw[ah2 hR ht hn1 hn2 hl hcp hok ha ha2 hy hy2 hk hkl,ak]
 have hf:=acZ hR hn1 hn2 ha ha2 hy hy2 hk hkl hc
 unfold MJ
 by_cases hw:ou (qw s.symbols t.cells a)<=9223372036854775807
 ·rw[if_neg (c:=¬ZB t) (fun h=>h (hf.2 ⟨hc2,hw⟩)),if_neg (c:=¬ou (qw s.symbols t.cells a)<=9223372036854775807) (fun h=>h hw)]
  by_cases hst:RH s t a y
  ·rw[if_pos hst,if_pos hst];rfl
  ·rw[if_neg hst,if_neg hst];rfl
 ·rw[if_pos (c:=¬ZB t) (fun h=>hw (hf.1 h).2),if_pos (c:=¬ou (qw s.symbols t.cells a)<=9223372036854775807) hw];rfl
theorem aco {s t:aC} (hR:kN s) (hn1:t.accounts=s.accounts) (hn2:t.symbols=s.symbols) {k:Nat} {c:aX} {a y:Int} (ha:0<=a) (ha2:a<s.accounts) (hy:0<=y) (hy2:y<s.symbols) (hk:(k:Int)=a*s.symbols+y) (hkl:k<s.cells.length)
 (hc:t.cells=s.cells.set k c) (hc2:¬okC c):MJ s t a y=(s,3):=by
 unfold MJ
 rw[if_pos fun h=>hc2 ((acZ hR hn1 hn2 ha ha2 hy hy2 hk hkl hc).1 h).1]
theorem Ul (n i:Int):∀(l:List aG),(l7 n i l).pos=0
 |[]=>rfl
 |o::l=>by
  have h:=Ul n i l
  have:(inC n i o).pos=0:=by unfold inC wC;split<;>(try split)<;>rfl
  simp only[l7,mF,h,this];rfl
theorem aaH {s s':aC} (hsym:s'.symbols=s.symbols) {k:Nat} (hk:k<s.cells.length) {c d:aX} (hc:s'.cells=s.cells.set k d) {l:List aG} (hE:eF s l=s.cells.set k c):
 eF s' l=s.cells.set k ⟨d.pos,c.buy,c.sell,c.opn⟩:=by
 have e0:eF s' l=(s.cells.set k d).mapIdx fun i c=>mF ⟨c.pos,0,0,0⟩ (l7 s.symbols i l):=by unfold eF;rw[hsym,hc]
 rw[e0]
 refine List.ext_getElem (by simp) fun j h1 h2=> ?_
 have hj:j<s.cells.length:=by simpa using h1
 rw[List.getElem_mapIdx,List.getElem_set,List.getElem_set]
 have hj2:(eF s l)[j]'(by rw[jY];exact hj)=(s.cells.set k c)[j]'(by simpa using hj):=by simp only[hE]
 rw[o8,List.getElem_set]at hj2
 by_cases e:k=j
 ·subst e
  rw[if_pos rfl,if_pos rfl]
  rw[if_pos rfl]at hj2
  rw[<-hj2]
  have:=Ul s.symbols k l
  apply yY<;>simp only[mF]<;>omega
 ·rw[if_neg e,if_neg e]
  rw[if_neg e]at hj2
  exact hj2
theorem aeQ {α:Type} (l:List α) (k:Nat) (a b:α):(l.set k a).set k b=l.set k b:=by simp
theorem Ll {α:Type} (l:List α) (k:Nat) (x:α):aZ l (itn (k:Int)) x=l.set k x:=by simp [aZ,itn]
theorem Pq {α:Type} (l:List α) (k:Nat) (x:α):aZ l k x=l.set k x:=rfl
theorem xq {α:Type} [Inhabited α] (l:List α) (k:Nat) (h:k<l.length):ah l k=l[k]:=by simp [ah,h]
theorem adh (l:List aG) (k:Nat) (p:aG):(l.set k p).eraseIdx k=l.eraseIdx k:=by
 simp [List.eraseIdx_set_eq]
theorem aeW {c:aX} {p:aG} (h:p.phase=3):pz c p=c:=by
 have h1:kJ p=0:=by unfold kJ;rw[if_pos h]
 have h2:iH p=0:=by unfold iH;rw[if_pos h]
 unfold pz;rw[h1,h2];split<;>simp
theorem afF (c:aX) (o:aG):(pz c o).pos=c.pos:=by unfold pz;split<;>rfl
theorem af0 (c:aX) (o:aG):(qf c o).pos=c.pos:=by unfold qf;split<;>rfl
theorem Yz {s:aC} (hR:kN s) (hr:jS s) (m:Nat) (hm:m<s.orders.length) (k:Nat) (hk:k<s.cells.length) (ha:atZ s.symbols s.orders[m]=(k:Int)) {p:aG} {what q:Int} (hp:agx s.orders[m] p what q) (hq:what=3->1<=q):
 okC (pz (qf s.cells[k] s.orders[m]) p)/\(what=3->okC ⟨if s.orders[m].side=1 then s.cells[k].pos+q else s.cells[k].pos - q,(pz (qf s.cells[k] s.orders[m]) p).buy,(pz (qf s.cells[k] s.orders[m]) p).sell,(pz (qf s.cells[k] s.orders[m]) p).opn⟩):=by
 have h0:=abt hR hr m hm k hk ha
 have h1:=hR.ok s.cells[k] (List.getElem_mem _)
 have ho:=(hR.fine.ords _ (List.getElem_mem hm)).1
 have hs:=ho.1.2.2.2.1
 have hro:=hr.orders.1 _ (List.getElem_mem hm)
 have b1:=Dq hp.ord hp.rng
 have b2:=Dx hp.ord
 have b3:=hp.opn
 have b4:=hp.worth
 have b5:=hp.side
 rw[EP]at h0 h1
 by_cases e:s.orders[m].side=2
 ·have ea:pz (qf s.cells[k] s.orders[m]) p=⟨s.cells[k].pos,s.cells[k].buy,s.cells[k].sell - kJ s.orders[m]+kJ p,s.cells[k].opn - iH s.orders[m]+iH p⟩:=by
   unfold pz qf;rw[b5,if_pos e,if_pos e]
  have es:qf s.cells[k] s.orders[m]=⟨s.cells[k].pos,s.cells[k].buy,s.cells[k].sell - kJ s.orders[m],s.cells[k].opn - iH s.orders[m]⟩:=by unfold qf;rw[if_pos e]
  rw[ea,if_neg (by omega)]
  rw[es]at h0
  refine⟨?_,fun h3=> ?_⟩
  ·rw[EP];unfold inI at *; simp only at *; split at b3<;>omega
  ·rw[if_pos h3]at b3
   have:=hq h3
   rw[EP];unfold inI at *; simp only at *; omega
 ·have ea:pz (qf s.cells[k] s.orders[m]) p=⟨s.cells[k].pos,s.cells[k].buy - kJ s.orders[m]+kJ p,s.cells[k].sell,s.cells[k].opn - iH s.orders[m]+iH p⟩:=by
   unfold pz qf;rw[b5,if_neg e,if_neg e]
  have es:qf s.cells[k] s.orders[m]=⟨s.cells[k].pos,s.cells[k].buy - kJ s.orders[m],s.cells[k].sell,s.cells[k].opn - iH s.orders[m]⟩:=by unfold qf;rw[if_neg e]
  rw[ea,if_pos (by omega)]
  rw[es]at h0
  refine⟨?_,fun h3=> ?_⟩
  ·rw[EP];unfold inI at *; simp only at *; split at b3<;>omega
  ·rw[if_pos h3]at b3
   have:=hq h3
   rw[EP];unfold inI at *; simp only at *; omega
theorem Z9 {s:aC} (hR:kN s) (m:Nat) (hm:m<s.orders.length) (k:Nat) (hk:k<s.cells.length) (ha:atZ s.symbols s.orders[m]=(k:Int)) {p:aG} (hp:atZ s.symbols p=(k:Int)):
 eF s (if p.phase=3 then s.orders.eraseIdx m else s.orders.set m p)=s.cells.set k (pz (qf s.cells[k] s.orders[m]) p):=by
 split
 ·rename_i h;rw[ajg hR m hm k hk ha,aeW h]
 ·exact ae1 hR m hm p k hk ha hp
theorem UU {s:aC} (hR:kN s) (r:iT) (m:Nat) (hm:m<s.orders.length) (k:Nat) (hk:k<s.cells.length) (ha:atZ s.symbols s.orders[m]=(k:Int)) {p:aG} (hp:atZ s.symbols p=(k:Int)):
 evS s r m p=⟨s.accounts,s.symbols,if p.phase=3 then s.orders.eraseIdx m else s.orders.set m p,
  s.cells.set k (if r.what=3 then ⟨if s.orders[m].side=1 then s.cells[k].pos+r.qty else s.cells[k].pos - r.qty,(pz (qf s.cells[k] s.orders[m]) p).buy,(pz (qf s.cells[k] s.orders[m]) p).sell,(pz (qf s.cells[k] s.orders[m]) p).opn⟩else pz (qf s.cells[k] s.orders[m]) p),
  s.limits,s.caps,s.kill,s.last,r.seq,s.lsn+1⟩:=by
 unfold evS
 rw[xq _ m hm,Pq]
 have hmk:∀s':aC,s'.symbols=s.symbols->s'.cells=(if r.what=3 then aef s s.orders[m] r.qty else s.cells)->eF s' (if p.phase=3 then s.orders.eraseIdx m else s.orders.set m p)=
  s.cells.set k (if r.what=3 then ⟨if s.orders[m].side=1 then s.cells[k].pos+r.qty else s.cells[k].pos - r.qty,(pz (qf s.cells[k] s.orders[m]) p).buy,(pz (qf s.cells[k] s.orders[m]) p).sell,(pz (qf s.cells[k] s.orders[m]) p).opn⟩else pz (qf s.cells[k] s.orders[m]) p):=by
  intro s' h1 h2
  by_cases h3:r.what=3
  ·rw[if_pos h3]at h2 ⊢
   unfold aef at h2
   rw[ha,bJ _ k hk,Ll]at h2
   exact aaH h1 hk h2 (Z9 hR m hm k hk ha hp)
  ·rw[if_neg h3]at h2 ⊢
   have:eF s' (if p.phase=3 then s.orders.eraseIdx m else s.orders.set m p)=eF s (if p.phase=3 then s.orders.eraseIdx m else s.orders.set m p):=by
    unfold eF;rw[h1,h2]
   rw[this,Z9 hR m hm k hk ha hp]
 exact congrArg (fun c=>aC.mk s.accounts s.symbols (if p.phase=3 then s.orders.eraseIdx m else s.orders.set m p) c s.limits s.caps s.kill s.last r.seq (s.lsn+1)) (hmk ⟨s.accounts,s.symbols,s.orders,if r.what=3 then aef s s.orders[m] r.qty else s.cells,s.limits,s.caps,s.kill,s.last,r.seq,s.lsn+1⟩ rfl rfl)
theorem ad2 {s:aC} {r:iT} (hr:jS s) (hrr:sS r) (hl:s.orders.length<999999) (hl2:s.limits.length<999999) (hl3:s.caps.length<999999):xY s r=some (doS s r):=by
 obtain⟨b1,e1,q1⟩:=uJ r
 obtain⟨b2,e2,q2⟩:=Qp s hr hl hl2 hl3
 have bad:¬OL s r->doS s r=(s,1):=fun h=>by unfold doS;rw[if_pos h]
 by_cases hA:s.lsn<1000000000/\vN r/\kN s
 case neg=>
  have hno:¬OL s r:=fun h=>hA ⟨h.2.2.1,h.2.1,h.1⟩
  rw[bad hno]
  refine Wq.eq ?_
  unfold xY
  rw[lV hr.lsn (by decide),au,pW]
  refine Wq.mono (Q:=fun y1=>y1=true->(inI (s.lsn+1)/\s.lsn<1000000000/\vN r)) ?_ fun y1 h1=> ?_
  ·rw[gJ]
   refine⟨fun h=> ?_,fun h=>(ak _).2 (by simp)⟩
   rw[e1,ak]
   intro hb
   simp only[bg,bP,dh,dB,bn,aY,dn,dG,bZ,dL,bF,bH,dJ,dO]at h
   by_cases hin:inI (s.lsn+1)
   ·exact⟨hin,by omega,q1.1 hb⟩
   ·rw[if_neg hin]at h;simp at h
  rw[pW]
  refine Wq.mono (Q:=fun y2=>y2=true->(y1=true/\kN s)) ?_ fun y2 h2=> ?_
  ·rw[gJ]
   refine⟨fun h=> ?_,fun h=>(ak _).2 (by simp)⟩
   rw[e2,ak]
   intro hb
   simp only[bg,bP,dh,dB,bn,aY,dn,dG,bZ,dL,bF,bH,dJ,dO]at h
   exact⟨by simpa using h.2,q2.1 hb⟩
  rw[gJ]
  refine⟨fun _=>(ak _).2 rfl,fun h=> ?_⟩
  simp only[bg,bP,dh,dB,bn,aY,dn,dG,bZ,dL,bF,bH,dJ,dO]at h
  have g2:=h2 h.2
  have g1:=h1 g2.1
  exact absurd ⟨g1.2.1,g1.2.2,g2.2⟩ hA
 obtain⟨hlsn,hrec,hR⟩:=hA
 obtain rfl:=q1.2 hrec
 obtain rfl:=q2.2 hR
 have hs:=hR.sized
 obtain⟨lc,ll,lcp,lo⟩:=hs.lens
 have hl0:=hR.fine.lsn
 have hq0:=hR.fine.seq
 have h1a:=hs.1;have h1b:=hs.2.1
 have good:r.account<s.accounts->r.symbol<s.symbols->(r.kind=1->s.last<r.order)->OL s r:=fun a b c=>⟨hR,hrec,hlsn,a,b,c⟩
 have hwr:wr .i64 (ai s.lsn 1)=s.lsn+1:=ai8 hl0.1 hlsn
 have hall:∀o∈s.orders,sF o/\gy o:=fun o h=>⟨(hR.fine.ords o h).1,hr.orders.1 o h⟩
 unfold xY
 rw[lV hr.lsn (by decide),au,if_pos (c:=inI (s.lsn+1)) ⟨by omega,by omega⟩]
 simp only[nM,aS,fP,JX (show ¬(1000000000:Int)<=s.lsn by omega),bC,bI,aU,e1,e2,au,ZY (l:=s.orders) (by omega),aa3 (l:=s.cells) (by omega),aa8 (l:=s.limits) (by omega),Zu (l:=s.caps) (by omega),hwr]
 have eta:(aC.mk s.accounts s.symbols s.orders s.cells s.limits s.caps s.kill s.last s.seq s.lsn)=s:=rfl
 simp only[eta]
 by_cases k1:r.kind=1
 ·rw[aI (by rw[bF];exact k1),Wi hrec k1,au]
  by_cases c1:r.order<=s.last
  ·rw[bad fun h=>by have:=h.2.2.2.2.2 k1;omega]
   simp only[lm c1,bI]
  by_cases c2:s.accounts<=r.account
  ·rw[bad fun h=>by have:=h.2.2.2.1;omega]
   simp only[JX c1,lm c2,bI,aU]
  by_cases c3:s.symbols<=r.symbol
  ·rw[bad fun h=>by have:=h.2.2.2.2.1;omega]
   simp only[JX c1,JX c2,lm c3,bI,aU]
  simp only[JX c1,JX c2,JX c3,aU]
  have hm:=good (by omega) (by omega) fun _=>by omega
  unfold doS
  rw[if_neg (fun h:¬OL s r=>h hm),if_pos k1]
  by_cases hk:s.kill=true
  ·rw[if_pos hk,aI hk]
  rw[if_neg hk,dD (by simpa using hk),kM]
  by_cases h64:s.orders.length=64
  ·rw[if_pos (show len s.orders=64 by simp only[len];omega),if_pos h64]
  rw[if_neg (show ¬len s.orders=64 by simp only[len];omega),if_neg h64]
  obtain⟨ho,ho2⟩:=XA hrec k1
  have hro:=Xp hrr
  have hrec':=hrec
  unfold vN at hrec'
  have hra:0<=r.account/\0<=r.symbol:=by omega
  obtain⟨k,g1,g2,g3⟩:=KU hs r.account r.symbol hra.1 (by omega) hra.2 (by omega)
  have hat:atZ s.symbols (jo r)=(k:Int):=g2.symm
  have hmk:=ai5 hR (jo r) k g3 hat
  rw[show bf s (jo r).account (jo r).symbol=some (k:Int)from g1,au,aI (inb _ k g3),bJ _ k g3,Fq (hR.ok _ (List.getElem_mem _)) ho hro,au]
  have hcells:eF s (dm s.orders [jo r])=s.cells.set k (pz s.cells[k] (jo r)):=hmk
  by_cases hok:okC (pz s.cells[k] (jo r))
  ·rw[if_pos hok]
   simp only[nM,aS,aU]
   rw[aI (lm (by simp [len,dm];omega)),Ll,<-hcells]
   have ht:qR ⟨s.accounts,s.symbols,dm s.orders [jo r],eF s (dm s.orders [jo r]),s.limits,s.caps,s.kill,(jo r).id,s.seq,s.lsn⟩:=xg hs rfl rfl (jY _ _) rfl rfl (by simp [dm];omega)
   obtain⟨e,he,hq⟩:=aiu (a:=r.account) (y:=r.symbol) hR ht rfl rfl rfl rfl hra.1 (by omega) hra.2 (by omega) g2 g3 hcells hok
   rw[show dQ _ s (jo r).account (jo r).symbol=some e from he,au]
   exact hq
  ·rw[if_neg hok]
   simp only[zy,bC,bI]
   rw[aco (t:=⟨s.accounts,s.symbols,dm s.orders [jo r],eF s (dm s.orders [jo r]),s.limits,s.caps,s.kill,r.order,s.seq,s.lsn⟩) hR rfl rfl hra.1 (by omega) hra.2 (by omega) g2 g3 hcells hok]
 rw[dD (by rw[bH];exact k1)]
 by_cases k2:r.kind=2
 ·rw[aI (by rw[bF];exact k2),Fe s r.order (by omega),au]
  have hrec':=hrec
  unfold vN at hrec'
  have hra:r.account=0/\r.symbol=0/\1<=r.qty/\1<=r.price:=by omega
  have hm:=good (by omega) (by omega) fun h=>absurd h k1
  unfold doS
  rw[if_neg (fun h:¬OL s r=>h hm),if_neg k1,if_pos k2]
  cases hf:wQ s.orders r.order with
  |none=>
   rw[NT hf,aI (by decide)]
  |some m=>
   rw[IC hf,dD (by rw[bH];omega)]
   obtain⟨hm1,hm2⟩:=l9 hf
   simp only[aI (inb _ m hm1),bJ _ m hm1,xq _ m hm1]
   obtain⟨ho,hro⟩:=hall s.orders[m] (List.getElem_mem _)
   obtain⟨ch,ce,cq1,cq2⟩:=Vw ho hro hra.2.2.1 hra.2.2.2
   rw[ce,au]
   by_cases hch:vP s.orders[m]
   case neg=>
    rw[if_pos hch,aI (by rw[bn,bH];exact cq2 hch)]
   rw[if_neg (fun h:¬vP s.orders[m]=>h hch)]
   obtain rfl:=cq1 hch
   simp only[nM,aS,aU]
   by_cases hk:s.kill=true
   ·rw[if_pos hk,aI hk]
   rw[if_neg hk,dD (by simpa using hk)]
   obtain⟨k,g1,g2,g3⟩:=YU hs (hR.fine.ords _ (List.getElem_mem hm1))
   have hpo:=VL ho hch hra.2.2.1 hra.2.2.2
   have hpr:=Ug hro hch hrr.qty hrr.price
   have hat:atZ s.symbols (qM s.orders[m] r.qty r.price)=(k:Int):=g2
   have hsub:=abt hR hr m hm1 k g3 g2
   have hcells:eF s (aZ s.orders m (qM s.orders[m] r.qty r.price))=s.cells.set k (pz (qf s.cells[k] s.orders[m]) (qM s.orders[m] r.qty r.price)):=ae1 hR m hm1 _ k g3 g2 hat
   rw[g1,au,aI (inb _ k g3),bJ _ k g3,Xf (hR.ok _ (List.getElem_mem _)) ho hro hsub,au,Fq hsub hpo hpr,au]
   have hoa:=(hR.fine.ords _ (List.getElem_mem hm1))
   have hob:=ho.1
   by_cases hok:okC (pz (qf s.cells[k] s.orders[m]) (qM s.orders[m] r.qty r.price))
   ·rw[if_pos hok]
    simp only[nM,aS,aU]
    rw[Ll s.cells,Ll s.orders,<-Pq s.orders,<-hcells]
    have ht:qR (WN s (aZ s.orders m (qM s.orders[m] r.qty r.price))):=xg hs rfl rfl (jY _ _) rfl rfl (by show(aZ _ _ _).length<=64;rw[wP];omega)
    obtain⟨e,he,hq⟩:=aiu (a:=s.orders[m].account) (y:=s.orders[m].symbol) hR ht rfl rfl rfl rfl hob.2.1.1 hoa.2.2.1 hob.2.2.1.1 hoa.2.2.2 g2.symm g3 hcells hok
    have he':dQ ⟨s.accounts,s.symbols,aZ s.orders m (qM s.orders[m] r.qty r.price),eF s (aZ s.orders m (qM s.orders[m] r.qty r.price)),s.limits,s.caps,s.kill,s.last,s.seq,s.lsn⟩ s s.orders[m].account s.orders[m].symbol=some e:=he
    rw[he',au]
    exact hq
   ·rw[if_neg hok]
    simp only[zy,bC,bI]
    rw[aco (t:=WN s (aZ s.orders m (qM s.orders[m] r.qty r.price))) hR rfl rfl hob.2.1.1 hoa.2.2.1 hob.2.2.1.1 hoa.2.2.2 g2.symm g3 hcells hok]
 rw[dD (by rw[bH];exact k2)]
 by_cases k3:r.kind=3
 ·rw[aI (by rw[bF];exact k3),Fe s r.order (by omega),au]
  have hrec':=hrec
  unfold vN at hrec'
  have hra:r.account=0/\r.symbol=0:=by omega
  have hm:=good (by omega) (by omega) fun h=>absurd h k1
  unfold doS
  rw[if_neg (fun h:¬OL s r=>h hm),if_neg k1,if_neg k2,if_pos k3]
  cases hf:wQ s.orders r.order with
  |none=>
   rw[NT hf,aI (by decide)]
  |some m=>
   rw[IC hf,dD (by rw[bH];omega)]
   obtain⟨hm1,hm2⟩:=l9 hf
   have hoi:=hR.fine.ords _ (List.getElem_mem hm1)
   simp only[aI (inb _ m hm1),bJ _ m hm1,xq _ m hm1]
   rw[aac hoi.1 hoi.2.1,au]
   by_cases ha:s.orders[m].asked=true
   ·rw[if_pos ha,if_pos ha];rfl
   ·rw[if_neg ha,if_neg ha,Ll];rfl
 rw[dD (by rw[bH];exact k3)]
 by_cases k4:r.kind=4
 ·rw[aI (by rw[bF];exact k4)]
  have hrec':=hrec
  unfold vN at hrec'
  by_cases c2:s.accounts<=r.account
  ·rw[bad fun h=>by have:=h.2.2.2.1;omega]
   simp only[lm c2,bI]
  by_cases c3:s.symbols<=r.symbol
  ·rw[bad fun h=>by have:=h.2.2.2.2.1;omega]
   simp only[JX c2,lm c3,bI,aU]
  simp only[JX c2,JX c3,aU]
  have hm:=good (by omega) (by omega) fun h=>absurd h k1
  unfold doS
  rw[if_neg (fun h:¬OL s r=>h hm),if_neg k1,if_neg k2,if_neg k3,if_pos k4,kM]
  by_cases hy:r.symbol= -1
  ·rw[if_pos hy,if_pos hy,aI (Gu (lm (by omega)) (DZ (by simp only[len];omega)))]
  ·rw[if_neg hy,if_neg hy]
   obtain⟨k,g1,g2,g3⟩:=KU hs r.account r.symbol (by omega) (by omega) (by omega) (by omega)
   have g4:k<s.limits.length:=by omega
   rw[g1,au,aI (inb _ k g4),g2]
 rw[dD (by rw[bH];exact k4)]
 by_cases k5:r.kind=5
 ·rw[aI (by rw[bF];exact k5)]
  have hrec':=hrec
  unfold vN at hrec'
  have hra:r.account=0/\r.symbol=0:=by omega
  have hm:=good (by omega) (by omega) fun h=>absurd h k1
  unfold doS
  rw[if_neg (fun h:¬OL s r=>h hm),if_neg k1,if_neg k2,if_neg k3,if_neg k4,if_pos k5]
 rw[dD (by rw[bH];exact k5)]
 have hrec':=hrec
 unfold vN at hrec'
 have hra:r.account=0/\r.symbol=0:=by omega
 have hm:=good (by omega) (by omega) fun h=>absurd h k1
 unfold doS
 rw[if_neg (fun h:¬OL s r=>h hm),if_neg k1,if_neg k2,if_neg k3,if_neg k4,if_neg k5]
 have hws:wr .i64 (ai s.seq 1)=s.seq+1:=by unfold ai;exact dA (by omega) (by omega)
 rw[hws,jZ,kM]
 by_cases c1:r.seq=s.seq+1
 case neg=>
  rw[if_neg c1,if_pos c1]
 rw[if_pos c1,if_neg (fun h:r.seq≠s.seq+1=>h c1),Fe _ r.order (by show s.orders.length<_;omega),au]
 show cnd (ieq (Nw s.orders r.order) (-1)) _ _=_
 cases hf:wQ s.orders r.order with
 |none=>
  rw[NT hf,aI (by decide)]
 |some m=>
  rw[IC hf,dD (by rw[bH];omega)]
  obtain⟨hm1,hm2⟩:=l9 hf
  simp only[aI (inb _ m hm1),bJ _ m hm1,xq _ m hm1]
  obtain⟨ho,hro⟩:=hall s.orders[m] (List.getElem_mem _)
  have hnote:vN (pI ⟨r.seq,r.what,r.order,r.qty,r.price⟩):=by
   have k6:r.kind=6:=by omega
   refine .inr (.inr (.inr (.inr (.inr ⟨rfl,?_⟩))))
   rcases hrec with h | h | h | h | h | h
   ·omega
   ·omega
   ·omega
   ·omega
   ·omega
   ·exact⟨h.2.1,rfl,rfl,rfl,rfl,rfl,rfl,rfl,h.2.2.2.2.2.2.2.2.2⟩
  rw[Ym ho hro hnote hm2.symm hrr.qty]
  cases ht:Na s.orders[m] r.what r.qty r.price with
  |none=>
   simp only[au]
   rw[aI (by decide)]
  |some p=>
   simp only[au,nM,aS,aU]
   have hq3:r.what=3->1<=r.qty:=fun h=>by omega
   have hp:=abW ho hro ht hq3 (fun h=>by omega) hrr.qty hrr.price
   obtain⟨k,g1,g2,g3⟩:=YU hs (hR.fine.ords _ (List.getElem_mem hm1))
   have hat:atZ s.symbols p=(k:Int):=by unfold atZ;rw[hp.account,hp.symbol];exact g2
   have hsub:=abt hR hr m hm1 k g3 g2
   obtain⟨hev1,hev2⟩:=Yz hR hr m hm1 k g3 g2 hp hq3
   rw[show bf (aC.mk s.accounts s.symbols s.orders s.cells s.limits s.caps s.kill s.last r.seq s.lsn) s.orders[m].account s.orders[m].symbol=some (k:Int)from g1,au,aI (inb _ k g3),bJ _ k g3,
    Xf (hR.ok _ (List.getElem_mem _)) ho hro hsub,au]
   simp only[Ll,aeQ]
   have gk:∀c:aX,ah (s.cells.set k c) (itn (k:Int))=c:=fun c=>by rw[bJ _ k (by simpa using g3),List.getElem_set_self]
   rw[gk,Fq hsub hp.ord hp.rng,if_pos hev1,au,gk,UU hR r m hm1 k g3 g2 hat]
   have hdel:=aeY (l:=s.orders.set m p) (i:=m) (by simpa using hm1) (by simp;omega)
   rw[adh]at hdel
   simp only[hdel,au,kM]
   by_cases h3:r.what=3
   ·rw[if_pos h3,if_pos h3]
    have hside:=ho.1.2.2.2.1
    have e1:(pz (qf s.cells[k] s.orders[m]) p).pos=s.cells[k].pos:=by rw[afF,af0]
    have hn:=hev2 h3
    rw[<-e1]at hn
    rw[aa0 hev1 hside (by have:=hq3 h3;omega) hrr.qty hn,au,e1]
    split<;>rfl
   ·rw[if_neg h3,if_neg h3]
    split<;>rfl
theorem mk_pos (s:aC) (l:List aG) (j:Nat) (h:j<(eF s l).length):(eF s l)[j].pos=(s.cells[j]'(by simpa [eF] using h)).pos:=by
 rw[o8]
 have:=Ul s.symbols j l
 simp only[mF];omega
theorem acJ {s t:aC} (h1:t.symbols=s.symbols) {l:List aG} (h2:t.cells=eF s l):t.cells=eF t l:=by
 have e0:eF t l=(eF s l).mapIdx fun i c=>mF ⟨c.pos,0,0,0⟩ (l7 s.symbols i l):=by unfold eF;rw[h1,h2];rfl
 rw[e0,h2]
 refine List.ext_getElem (by simp) fun j g1 g2=> ?_
 rw[List.getElem_mapIdx,mk_pos,o8]
theorem ahq {l:List aG} {o:aG} (h:IZ l) (ho:∀x∈l,x.id<o.id):IZ (l++[o]):=by
 unfold IZ at*
 rw[List.pairwise_append]
 refine⟨h,by simp,fun a ha b hb=> ?_⟩
 rw[List.mem_singleton]at hb
 subst hb
 exact ho a ha
theorem Y8 {l:List aG} {m:Nat} (hm:m<l.length) {p:aG} (h:IZ l) (hp:p.id=l[m].id):IZ (l.set m p):=by
 unfold IZ at*
 rw[List.pairwise_iff_getElem]at*
 intro i j hi hj hij
 have hi':i<l.length:=by simpa using hi
 have hj':j<l.length:=by simpa using hj
 have h0:=h i j hi' hj' hij
 rw[List.getElem_set,List.getElem_set]
 split
 ·rename_i e;subst e
  rw[if_neg (by omega),hp];exact h0
 ·split
  ·rename_i e;subst e
   rw[hp];exact h0
  ·exact h0
theorem adz {l:List aG} (m:Nat) (h:IZ l):IZ (l.eraseIdx m):=List.Pairwise.sublist (List.eraseIdx_sublist _ _) h
theorem agD {l m:List aX} (hl:l.length=m.length) (h:∀(i:Nat) (h1:i<l.length) (h2:i<m.length),l[i].opn<=m[i].opn):ou l<=ou m:=by
 induction l generalizing m with
 |nil=>cases m with
  |nil=>exact Int.le_refl _
  |cons a r=>simp at hl
 |cons a l ih=>cases m with
  |nil=>simp at hl
  |cons b m=>
   have h0:=h 0 (by simp) (by simp)
   have:=ih (m:=m) (by simpa using hl) fun i h1 h2=>by
    have:=h (i+1) (by simp;omega) (by simp;omega)
    simpa using this
   unfold ou at*
   simp only[List.map_cons,List.sum_cons,List.getElem_cons_zero]at*
   omega
theorem ahG {n:Int} {cs ds:List aX} (hl:cs.length=ds.length) (h:∀(i:Nat) (h1:i<cs.length) (h2:i<ds.length),cs[i].opn<=ds[i].opn) (a:Int):ou (qw n cs a)<=ou (qw n ds a):=by
 unfold qw
 refine agD (by simp [hl]) fun i h1 h2=> ?_
 rw[List.getElem_take,List.getElem_take,List.getElem_drop,List.getElem_drop]
 exact h _ _ _
theorem aiP {cs:List aX} {k:Nat} {c:aX} (hk:k<cs.length) (hc:c.opn<=cs[k].opn) (i:Nat) (h1:i<(cs.set k c).length) (h2:i<cs.length):(cs.set k c)[i].opn<=cs[i].opn:=by
 rw[List.getElem_set]
 split
 ·rename_i e;subst e;exact hc
 ·exact Int.le_refl _
theorem agl {s:aC} (hR:kN s) {r:iT} (h:s.last<r.order):∀x∈s.orders,x.id<(jo r).id:=fun x hx=>by
 have:=hR.fine.ids x hx
 show x.id<r.order;omega
theorem kG {α:Type} {l:List α} {m:Nat} {p x:α} (h:x∈l.set m p):x∈l\/x=p:=List.mem_or_eq_of_mem_set h
theorem Xx {s t:aC} (hR:kN s) (h1:t.accounts=s.accounts) (h2:t.symbols=s.symbols) (hl:t.limits=s.limits) (hc:t.caps=s.caps) (hq:t.seq=s.seq) (hls:t.lsn=s.lsn) (hlsn:s.lsn<1000000000)
 (ht:t.cells=eF s t.orders) (ho:∀o∈t.orders,CY s o) (has:IZ t.orders) (hid:∀o∈t.orders,o.id<=t.last) (hla:0<=t.last/\t.last<=1000000000000) (hlen:t.orders.length<=64) (a y:Int):
 kN (MJ s t a y).1:=by
 unfold MJ
 split
 ·exact hR
 ·rename_i hf
  have hf:ZB t:=Classical.not_not.1 hf
  split
  ·exact hR
  ·have hcl:t.cells.length=s.cells.length:=by rw[ht,jY]
   have hz:=hR.fine
   refine⟨xg hR.sized h1 h2 hcl (by rw[hl]) (by rw[hc]) hlen,⟨fun o h=> ?_,has,hid,hla,by rw[hq];exact hz.seq,?_,by rw[hl];exact hz.lims,by rw[hc];exact hz.caps⟩,?_,hf.1,hf.2⟩
   ·obtain⟨g1,g2,g3,g4⟩:=ho o h
    exact⟨g1,g2,by show o.account<t.accounts;omega,by show o.symbol<t.symbols;omega⟩
   ·have:=hz.lsn
    show 0<=t.lsn+1/\t.lsn+1<=1000000000
    omega
   ·have:=acJ h2 ht
    exact this
theorem aev {s:aC} {r:iT} (hR:kN s) (hr:jS s) (hrr:sS r):kN (doS s r).1:=by
 unfold doS
 split
 ·exact hR
 rename_i hm
 have hm:OL s r:=Classical.not_not.1 hm
 obtain⟨_,hrec,hlsn,hacc,hsym,hord⟩:=hm
 have hz:=hR.fine
 have hs:=hR.sized
 obtain⟨lc,ll,lcp,lo⟩:=hs.lens
 have hl0:=hz.lsn
 have hrec':=hrec
 unfold vN qL at hrec'
 split
 ·rename_i k1
  split
  ·exact hR
  split
  ·exact hR
  ·rename_i h64
   obtain⟨g1,g2⟩:=XA hrec k1
   refine Xx (t:=⟨s.accounts,s.symbols,dm s.orders [jo r],eF s (dm s.orders [jo r]),s.limits,s.caps,s.kill,r.order,s.seq,s.lsn⟩) hR rfl rfl rfl rfl rfl rfl hlsn rfl (fun o h=> ?_) (ahq hz.asc (agl hR (hord k1))) (fun o h=> ?_) (by show 0<=r.order/\r.order<=_;omega) (by show(s.orders++[_]).length<=64;simp;omega) _ _
   ·rcases List.mem_append.1 h with h | h
    ·exact hz.ords o h
    ·rw[List.mem_singleton]at h
     subst h
     exact⟨g1,by simp [jo],hacc,hsym⟩
   ·rcases List.mem_append.1 h with h | h
    ·have:=agl hR (hord k1) o h
     show o.id<=r.order
     exact Int.le_of_lt this
    ·rw[List.mem_singleton]at h
     subst h;exact Int.le_refl _
 split
 ·rename_i k1 k2
  split
  ·exact hR
  rename_i m hf
  obtain⟨hm1,hm2⟩:=l9 hf
  simp only[xq _ m hm1]
  split
  ·exact hR
  rename_i hch
  have hch:vP s.orders[m]:=Classical.not_not.1 hch
  split
  ·exact hR
  have hoi:=hz.ords _ (List.getElem_mem hm1)
  have hpo:=VL (q:=r.qty) (p:=r.price) hoi.1 hch (by omega) (by omega)
  refine Xx (t:=WN s (aZ s.orders m (qM s.orders[m] r.qty r.price))) hR rfl rfl rfl rfl rfl rfl hlsn rfl (fun o h=> ?_) (Y8 hm1 hz.asc rfl) (fun o h=> ?_) hz.last (by show(s.orders.set _ _).length<=64;simp;omega) _ _
  ·rcases kG h with h | rfl
   ·exact hz.ords o h
   ·exact⟨hpo,by show s.orders[m].phase≠3;exact hoi.2.1,hoi.2.2.1,hoi.2.2.2⟩
  ·rcases kG h with h | rfl
   ·exact hz.ids o h
   ·exact hz.ids s.orders[m] (List.getElem_mem hm1)
 split
 ·rename_i k1 k2 k3
  split
  ·exact hR
  rename_i m hf
  obtain⟨hm1,hm2⟩:=l9 hf
  simp only[xq _ m hm1]
  split
  ·exact hR
  have hoi:=hz.ords _ (List.getElem_mem hm1)
  refine⟨xg hs rfl rfl rfl rfl rfl (by show(s.orders.set _ _).length<=64;simp;omega),⟨fun o h=> ?_,Y8 hm1 hz.asc rfl,fun o h=> ?_,hz.last,hz.seq,⟨by show 0<=s.lsn+1;omega,by show s.lsn+1<=_;omega⟩,hz.lims,hz.caps⟩,?_,hR.ok,hR.acct⟩
  ·rcases kG h with h | rfl
   ·exact hz.ords o h
   ·exact⟨hoi.1,hoi.2.1,hoi.2.2.1,hoi.2.2.2⟩
  ·rcases kG h with h | rfl
   ·exact hz.ids o h
   ·exact hz.ids s.orders[m] (List.getElem_mem hm1)
  ·have e:∀j:Nat,l7 s.symbols j (s.orders.set m (agt s.orders[m]))=l7 s.symbols j s.orders:=fun j=>by
    rw[Uu _ _ _ _ hm1,D6 _ _ _ _ hm1];rfl
   refine hR.cells.trans ?_
   unfold eF
   simp only[Pq,e]
 split
 ·rename_i k1 k2 k3 k4
  split
  ·rename_i hy
   refine⟨xg hs rfl rfl rfl rfl (wP _ _ _) lo,⟨hz.ords,hz.asc,hz.ids,hz.last,hz.seq,⟨by show 0<=s.lsn+1;omega,by show s.lsn+1<=_;omega⟩,hz.lims,fun x hx=> ?_⟩,hR.cells,hR.ok,hR.acct⟩
   rcases kG hx with h | rfl
   ·exact hz.caps x h
   ·omega
  ·rename_i hy
   refine⟨xg hs rfl rfl rfl (wP _ _ _) rfl lo,⟨hz.ords,hz.asc,hz.ids,hz.last,hz.seq,⟨by show 0<=s.lsn+1;omega,by show s.lsn+1<=_;omega⟩,fun x hx=> ?_,hz.caps⟩,hR.cells,hR.ok,hR.acct⟩
   rcases kG hx with h | rfl
   ·exact hz.lims x h
   ·unfold V3;simp only;omega
 split
 ·exact⟨xg hs rfl rfl rfl rfl rfl lo,⟨hz.ords,hz.asc,hz.ids,hz.last,hz.seq,⟨by show 0<=s.lsn+1;omega,by show s.lsn+1<=_;omega⟩,hz.lims,hz.caps⟩,hR.cells,hR.ok,hR.acct⟩
 split
 ·exact hR
 rename_i k1 k2 k3 k4 k5 hseq
 have hseq:r.seq=s.seq+1:=Classical.not_not.1 hseq
 have hrs:0<=r.seq/\r.seq<=1000000000:=by omega
 split
 ·exact⟨xg hs rfl rfl rfl rfl rfl lo,⟨hz.ords,hz.asc,hz.ids,hz.last,hrs,⟨by show 0<=s.lsn+1;omega,by show s.lsn+1<=_;omega⟩,hz.lims,hz.caps⟩,hR.cells,hR.ok,hR.acct⟩
 rename_i m hf
 obtain⟨hm1,hm2⟩:=l9 hf
 simp only[xq _ m hm1]
 split
 ·exact⟨xg hs rfl rfl rfl rfl rfl lo,⟨hz.ords,hz.asc,hz.ids,hz.last,hrs,⟨by show 0<=s.lsn+1;omega,by show s.lsn+1<=_;omega⟩,hz.lims,hz.caps⟩,hR.cells,hR.ok,hR.acct⟩
 rename_i p ht
 have hoi:=hz.ords _ (List.getElem_mem hm1)
 have hro:=hr.orders.1 _ (List.getElem_mem hm1)
 have hq3:r.what=3->1<=r.qty:=fun h=>by omega
 have hp:=abW hoi.1 hro ht hq3 (fun h=>by omega) hrr.qty hrr.price
 obtain⟨k,g1,g2,g3⟩:=YU hs hoi
 have hat:atZ s.symbols p=(k:Int):=by unfold atZ;rw[hp.account,hp.symbol];exact g2
 obtain⟨hev1,hev2⟩:=Yz hR hr m hm1 k g3 g2 hp hq3
 have hcells:(evS s r m p).cells=eF (evS s r m p) (evS s r m p).orders:=acJ (s:=⟨s.accounts,s.symbols,s.orders,if r.what=3 then aef s (ah s.orders m) r.qty else s.cells,s.limits,s.caps,s.kill,s.last,r.seq,s.lsn+1⟩) (t:=evS s r m p) rfl (l:=(evS s r m p).orders) rfl
 have hst:=UU hR r m hm1 k g3 g2 hat
 refine⟨?_,?_,hcells,?_,?_⟩
 ·rw[hst]
  refine xg hs rfl rfl (by simp) rfl rfl ?_
  show(if p.phase=3 then s.orders.eraseIdx m else s.orders.set m p).length<=64
  split
  ·have:=List.length_eraseIdx_le s.orders m;omega
  ·simp;omega
 ·rw[hst]
  have hmem:∀o∈(if p.phase=3 then s.orders.eraseIdx m else s.orders.set m p),o∈s.orders\/(o=p/\p.phase≠3):=fun o ho=>by
   split at ho
   ·exact .inl (List.mem_of_mem_eraseIdx ho)
   ·rename_i h3
    rcases kG ho with h | rfl
    ·exact .inl h
    ·exact .inr ⟨rfl,h3⟩
  refine⟨fun o ho=> ?_,?_,fun o ho=> ?_,hz.last,hrs,⟨by show 0<=s.lsn+1;omega,by show s.lsn+1<=_;omega⟩,hz.lims,hz.caps⟩
  ·rcases hmem o ho with h | ⟨rfl,h3⟩
   ·exact hz.ords o h
   ·exact⟨hp.ord,h3,by show o.account<s.accounts;rw[hp.account];exact hoi.2.2.1,by show o.symbol<s.symbols;rw[hp.symbol];exact hoi.2.2.2⟩
  ·show IZ (if p.phase=3 then s.orders.eraseIdx m else s.orders.set m p)
   split
   ·exact adz m hz.asc
   ·exact Y8 hm1 hz.asc hp.id
  ·rcases hmem o ho with h | ⟨rfl,_⟩
   ·exact hz.ids o h
   ·show o.id<=s.last
    rw[hp.id];exact hz.ids _ (List.getElem_mem hm1)
 ·rw[hst]
  intro c hc
  rcases kG hc with h | rfl
  ·exact hR.ok c h
  ·split
   ·rename_i h3;exact hev2 h3
   ·exact hev1
 ·rw[hst]
  intro a h1 h2
  refine Int.le_trans (ahG (by simp) (fun i g4 g5=>aiP g3 ?_ i g4 g5) a) (hR.acct a h1 h2)
  have hw:=hp.worth
  have e:(pz (qf s.cells[k] s.orders[m]) p).opn<=s.cells[k].opn:=by
   have e1:(pz (qf s.cells[k] s.orders[m]) p).opn=s.cells[k].opn - iH s.orders[m]+iH p:=by unfold pz qf;split<;>split<;>rfl
   omega
  split
  ·exact e
  ·exact e
theorem TD {α:Type} {p:α->Prop} {l:List α} (h:okL p l) {k:Nat} {x:α} (hx:p x):okL p (l.set k x):=⟨fun y hy=>by
 rcases List.mem_or_eq_of_mem_set hy with h1 | rfl
 ·exact h.1 y h1
 ·exact hx,by have:=h.2;simpa using this⟩
structure DoQ (s:aC) (r:iT) (t:aC) (e:Int):Prop where
 bad:e≠0->t=s
 good:e=0->OL s r/\t.lsn=s.lsn+1/\(t.seq=if r.kind=6 then s.seq+1 else s.seq)/\(t.last=if r.kind=1 then r.order else s.last)/\t.accounts=s.accounts/\t.symbols=s.symbols/\t.cells.length=s.cells.length/\t.limits.length=s.limits.length/\t.caps.length=s.caps.length/\t.orders.length<=64/\
  (r.kind≠4->t.limits=s.limits/\t.caps=s.caps)/\(r.kind≠5->t.kill=s.kill)/\(r.kind=6->r.seq=s.seq+1)
 rng:jS s->sS r->jS t
theorem zh {s:aC} {r:iT} {e:Int} (he:e≠0):DoQ s r s e:=⟨fun _=>rfl,fun h=>absurd h he,fun h _=>h⟩
theorem aij {s t:aC} {r:iT} {a y:Int} (hm:OL s r) (h6:r.kind≠6) (h1:t.accounts=s.accounts) (h2:t.symbols=s.symbols) (h3:t.limits=s.limits) (h4:t.caps=s.caps) (h5:t.seq=s.seq) (h7:t.lsn=s.lsn) (h8:t.last=if r.kind=1 then r.order else s.last) (h9:t.cells.length=s.cells.length) (h10:t.orders.length<=64) (h11:t.kill=s.kill)
 (hr:jS s->sS r->∀o∈t.orders,gy o):DoQ s r (MJ s t a y).1 (MJ s t a y).2:=by
 unfold MJ
 split
 ·exact zh (by simp)
 ·rename_i hf
  have hf:ZB t:=Classical.not_not.1 hf
  split
  ·exact zh (by simp)
  ·refine⟨fun h=>absurd rfl h,fun _=>⟨hm,by show t.lsn+1=_;rw[h7],by rw[if_neg h6];exact h5,h8,h1,h2,h9,by rw[h3],by rw[h4],h10,fun _=>⟨h3,h4⟩,fun _=>h11,fun h=>absurd h h6⟩,fun hs hrr=> ?_⟩
   have hR:=hm.1
   have hz:=hR.fine
   have hlsn:=hm.2.2.1
   obtain⟨lc,ll,lcp,lo⟩:=hR.sized.lens
   have b3:=hz.lsn
   refine⟨by rw[h1];exact hs.accounts,by rw[h2];exact hs.symbols,⟨hr hs hrr,by show t.orders.length<=_;omega⟩,⟨fun c hc=>(hf.1 c hc).1,by show t.cells.length<=_;omega⟩,by rw[h3];exact hs.limits,by rw[h4];exact hs.caps,?_,by rw[h5];exact hs.seq,⟨by show _<=t.lsn+1;omega,by show t.lsn+1<=_;omega⟩⟩
   show inI t.last
   rw[h8];split
   ·exact hrr.order
   ·exact hs.last
theorem VG (s:aC) (r:iT):DoQ s r (doS s r).1 (doS s r).2:=by
 unfold doS
 split
 ·exact zh (by simp)
 rename_i hm
 have hm:OL s r:=Classical.not_not.1 hm
 obtain⟨hR,hrec,hlsn,hacc,hsym,hord⟩:=id hm
 have hz:=hR.fine
 have hs:=hR.sized
 obtain⟨lc,ll,lcp,lo⟩:=hs.lens
 have hl0:=hz.lsn
 have hls:jS s->inI (s.lsn+1):=fun _=>⟨by omega,by omega⟩
 have hrec':=hrec
 unfold vN qL at hrec'
 split
 ·rename_i k1
  split
  ·exact zh (by simp)
  split
  ·exact zh (by simp)
  ·rename_i h64
   refine aij (t:=⟨s.accounts,s.symbols,dm s.orders [jo r],eF s (dm s.orders [jo r]),s.limits,s.caps,s.kill,r.order,s.seq,s.lsn⟩) hm (by omega) rfl rfl rfl rfl rfl rfl (by rw[if_pos k1]) (jY _ _) (by show(s.orders++[_]).length<=64;simp;omega) rfl fun hs hrr o h=> ?_
   rcases List.mem_append.1 h with h | h
   ·exact hs.orders.1 o h
   ·rw[List.mem_singleton]at h
    subst h
    exact Xp hrr
 split
 ·rename_i k1 k2
  split
  ·exact zh (by simp)
  rename_i m hf
  obtain⟨hm1,hm2⟩:=l9 hf
  simp only[xq _ m hm1]
  split
  ·exact zh (by simp)
  rename_i hch
  have hch:vP s.orders[m]:=Classical.not_not.1 hch
  split
  ·exact zh (by simp)
  refine aij (t:=WN s (aZ s.orders m (qM s.orders[m] r.qty r.price))) hm (by omega) rfl rfl rfl rfl rfl rfl (by rw[if_neg k1];rfl) (jY _ _) (by show(s.orders.set _ _).length<=64;simp;omega) rfl fun hs hrr o h=> ?_
  rcases kG h with h | rfl
  ·exact hs.orders.1 o h
  ·exact Ug (hs.orders.1 _ (List.getElem_mem hm1)) hch hrr.qty hrr.price
 split
 ·rename_i k1 k2 k3
  split
  ·exact zh (by simp)
  rename_i m hf
  obtain⟨hm1,hm2⟩:=l9 hf
  simp only[xq _ m hm1]
  split
  ·exact zh (by simp)
  exact⟨fun h=>absurd rfl h,fun _=>⟨hm,rfl,by rw[if_neg (by omega)],by rw[if_neg k1],rfl,rfl,rfl,rfl,rfl,by show(s.orders.set _ _).length<=64;simp;omega,fun _=>⟨rfl,rfl⟩,fun _=>rfl,fun h=>by omega⟩,
   fun h hrr=>⟨h.accounts,h.symbols,TD h.orders (ah3 (h.orders.1 _ (List.getElem_mem hm1))),h.cells,h.limits,h.caps,h.last,h.seq,hls h⟩⟩
 split
 ·rename_i k1 k2 k3 k4
  split
  ·exact⟨fun h=>absurd rfl h,fun _=>⟨hm,rfl,by rw[if_neg (by omega)],by rw[if_neg k1],rfl,rfl,rfl,rfl,wP _ _ _,lo,fun h=>absurd k4 h,fun _=>rfl,fun h=>by omega⟩,
    fun h hrr=>⟨h.accounts,h.symbols,h.orders,h.cells,h.limits,TD h.caps hrr.opn,h.last,h.seq,hls h⟩⟩
  ·exact⟨fun h=>absurd rfl h,fun _=>⟨hm,rfl,by rw[if_neg (by omega)],by rw[if_neg k1],rfl,rfl,rfl,wP _ _ _,rfl,lo,fun h=>absurd k4 h,fun _=>rfl,fun h=>by omega⟩,
    fun h hrr=>⟨h.accounts,h.symbols,h.orders,h.cells,TD h.limits ⟨hrr.long,hrr.short,hrr.opn⟩,h.caps,h.last,h.seq,hls h⟩⟩
 split
 ·rename_i k1 k2 k3 k4 k5
  exact⟨fun h=>absurd rfl h,fun _=>⟨hm,rfl,by rw[if_neg (by omega)],by rw[if_neg k1],rfl,rfl,rfl,rfl,rfl,lo,fun _=>⟨rfl,rfl⟩,fun h=>absurd k5 h,fun h=>by omega⟩,
   fun h hrr=>⟨h.accounts,h.symbols,h.orders,h.cells,h.limits,h.caps,h.last,h.seq,hls h⟩⟩
 split
 ·exact zh (by simp)
 rename_i k1 k2 k3 k4 k5 hseq
 have hseq:r.seq=s.seq+1:=Classical.not_not.1 hseq
 have k6:r.kind=6:=by omega
 have ev:DoQ s r ⟨s.accounts,s.symbols,s.orders,s.cells,s.limits,s.caps,s.kill,s.last,r.seq,s.lsn+1⟩ 0:=
  ⟨fun h=>absurd rfl h,fun _=>⟨hm,rfl,by rw[if_pos k6];exact hseq,by rw[if_neg k1],rfl,rfl,rfl,rfl,rfl,lo,fun _=>⟨rfl,rfl⟩,fun _=>rfl,fun _=>hseq⟩,
   fun h hrr=>⟨h.accounts,h.symbols,h.orders,h.cells,h.limits,h.caps,h.last,hrr.seq,hls h⟩⟩
 split
 ·exact ev
 rename_i m hf
 obtain⟨hm1,hm2⟩:=l9 hf
 simp only[xq _ m hm1]
 split
 ·exact ev
 rename_i p ht
 have hoi:=hz.ords _ (List.getElem_mem hm1)
 have hlen:(if p.phase=3 then s.orders.eraseIdx m else aZ s.orders m p).length<=64:=by
  split
  ·have:=List.length_eraseIdx_le s.orders m;omega
  ·rw[wP];omega
 refine⟨fun h=>absurd rfl h,fun _=>⟨hm,rfl,by rw[if_pos k6];exact hseq,by rw[if_neg k1];rfl,rfl,rfl,?_,rfl,rfl,hlen,fun _=>⟨rfl,rfl⟩,fun _=>rfl,fun _=>hseq⟩,fun h hrr=> ?_⟩
 ·show(eF _ _).length=_
  rw[jY]
  show(if r.what=3 then aef s (ah s.orders m) r.qty else s.cells).length=_
  split
  ·exact wP _ _ _
  ·rfl
 ·have hro:=h.orders.1 _ (List.getElem_mem hm1)
  have hq3:r.what=3->1<=r.qty:=fun h=>by omega
  have hp:=abW hoi.1 hro ht hq3 (fun h=>by omega) hrr.qty hrr.price
  obtain⟨k,g1,g2,g3⟩:=YU hs hoi
  have hat:atZ s.symbols p=(k:Int):=by unfold atZ;rw[hp.account,hp.symbol];exact g2
  obtain⟨hev1,hev2⟩:=Yz hR h m hm1 k g3 g2 hp hq3
  rw[UU hR r m hm1 k g3 g2 hat]
  refine⟨h.accounts,h.symbols,⟨fun o ho=> ?_,?_⟩,TD h.cells ?_,h.limits,h.caps,h.last,hrr.seq,hls h⟩
  ·show OZ o
   have ho:o∈(if p.phase=3 then s.orders.eraseIdx m else s.orders.set m p):=ho
   split at ho
   ·exact h.orders.1 o (List.mem_of_mem_eraseIdx ho)
   ·rcases kG ho with h1 | rfl
    ·exact h.orders.1 o h1
    ·exact hp.rng
  ·show(if p.phase=3 then s.orders.eraseIdx m else s.orders.set m p).length<=_
   rw[Pq]at hlen
   omega
  ·show ET _
   split
   ·rename_i h3;exact(hev2 h3).1
   ·exact hev1.1
theorem QU {α:Type} {l m:List α} (hlen:l.length=m.length) (hn:l.length<999999) {step:Int×Bool->Option ((Int×Bool) ⊕ (Bool ⊕ Bool))}
 (hstep:∀(i:Nat) (h:i<l.length) (h2:i<m.length) (q:Bool),Wq (step ((i:Int),q)) fun r=>(l[i]=m[i]->r= .inl (((i+1:Nat):Int),q))/\(l[i]≠m[i]->r= .inr (.inl false)))
 (hend:∀q,step ((l.length:Int),q)=some (.inr (.inr q))) (q:Bool):Wq (bD step LF (0,q)) fun w=>match w with | .inl b=>b=false/\l≠m | .inr b=>l=m:=by
 refine nD (n:=l.length) hn (fun i _=>∀(j:Nat) (h:j<l.length) (h2:j<m.length),j<i->l[j]=m[j]) _ (fun i x hi hx=> ?_) (fun x hx=> ?_) _ 0 (Nat.zero_le _) (fun j _ _ h=>by omega)
 ·have hi2:i<m.length:=by omega
  refine(hstep i hi hi2 x).mono fun r hr=> ?_
  by_cases e:l[i]=m[i]
  ·rw[hr.1 e]
   refine⟨rfl,fun j h h2 hj=> ?_⟩
   by_cases ej:j=i
   ·subst ej;exact e
   ·exact hx j h h2 (by omega)
  ·rw[hr.2 e]
   refine⟨rfl,fun h=>e ?_⟩
   subst h;rfl
 ·rw[hend x]
  exact(ak _).2 (List.ext_getElem hlen fun j h h2=>hx j h h2 h)
theorem agY {α β:Type} (l:List α) (m:List β):(len l=len m)↔l.length=m.length:=by unfold len;omega
theorem adB (a b:aG):(a.id=b.id/\a.account=b.account/\a.symbol=b.symbol/\a.side=b.side/\a.qty=b.qty/\a.price=b.price/\a.filled=b.filled/\a.phase=b.phase/\a.newQty=b.newQty/\a.newPrice=b.newPrice/\a.version=b.version/\a.asked=b.asked)↔a=b:=by
 cases a;cases b;simp
theorem adL (a b:aX):(a.pos=b.pos/\a.buy=b.buy/\a.sell=b.sell/\a.opn=b.opn)↔a=b:=by
 cases a;cases b;simp
theorem afo (a b:jm):(a.long=b.long/\a.short=b.short/\a.opn=b.opn)↔a=b:=by
 cases a;cases b;simp
theorem aeu (a b:aC):(a.accounts=b.accounts/\a.symbols=b.symbols/\a.kill=b.kill/\a.last=b.last/\a.seq=b.seq/\a.lsn=b.lsn/\a.orders=b.orders/\a.cells=b.cells/\a.limits=b.limits/\a.caps=b.caps)↔a=b:=by
 cases a;cases b;simp;grind
def uz (s:aC):Prop:=s.orders.length<999999/\s.cells.length<999999/\s.limits.length<999999/\s.caps.length<999999
theorem aiX {a b:aC} (ha:uz a):Wq (mJ a b) fun r=>r=true↔a=b:=by
 obtain⟨h1,h2,h3,h4⟩:=ha
 unfold mJ
 rw[gJ]
 have hx:=aeu a b
 refine⟨fun h=>(ak _).2 ⟨fun h=>(by cases h),fun h2=> ?_⟩,fun h=> ?_⟩
 ·subst h2
  simp only[bg,bP,dh,dB,bn,aY,dn,dG,bZ,dL,bF,bH,dJ,dO]at h
  simp at h
 ·simp only[bg,bP,dh,dB,bn,aY,dn,dG,bZ,dL,bF,bH,dJ,dO,agY]at h
  obtain⟨⟨⟨⟨⟨⟨⟨⟨⟨a1,a2⟩,a3⟩,a4⟩,a5⟩,a6⟩,a7⟩,a8⟩,a9⟩,a10⟩:=h
  have e1:a=b↔a.orders=b.orders/\a.cells=b.cells/\a.limits=b.limits/\a.caps=b.caps:=by
   rw[<-hx];exact⟨fun h=>⟨h.2.2.2.2.2.2.1,h.2.2.2.2.2.2.2.1,h.2.2.2.2.2.2.2.2.1,h.2.2.2.2.2.2.2.2.2⟩,fun h=>⟨a1,a2,a3,a4,a5,a6,h⟩⟩
  rw[e1]
  refine Wq.bind (QU (l:=a.orders) (m:=b.orders) a7 h1 (step:=fun v:Int×Bool=>kL b a v.1 v.2) (fun i h hh q=> ?_) (fun q=> ?_) _) fun w hw=> ?_
  ·simp only[kL]
   rw[aI (by rw[eP];simpa using h),aI (inb _ i h),aI (inb _ i hh),bJ _ i h,bJ _ i hh,gJ,ak,ak,bn,aY,dZ (by omega)]
   have:=adB a.orders[i] b.orders[i]
   simp only[bg,bP,dh,dB,bn,aY,dn,dG,bZ,dL,bF,bH,dJ,dO]at*
   exact⟨fun h=>⟨fun e=>(by have:=this.2 e;grind),fun _=>trivial⟩,fun h=>⟨fun _=>trivial,fun e=>absurd (this.1 h) e⟩⟩
  ·simp only[kL]
   rw[dD (by rw[show((a.orders.length:Nat):Int)=len a.orders from rfl];simp [ilt])]
  cases w with
  |inl w=>obtain⟨rfl,h⟩:=hw;simp only[gK,ak];simp [h]
  |inr w=>
  simp only[gK,hw,true_and]
  refine Wq.bind (QU (l:=a.cells) (m:=b.cells) a8 h2 (step:=fun v:Int×Bool=>jR b a v.1 v.2) (fun i h hh q=> ?_) (fun q=> ?_) _) fun w hw=> ?_
  ·simp only[jR]
   rw[aI (by rw[eP];simpa using h),aI (inb _ i h),aI (inb _ i hh),bJ _ i h,bJ _ i hh,gJ,ak,ak,bn,aY,dZ (by omega)]
   have:=adL a.cells[i] b.cells[i]
   simp only[bg,bP,dh,dB,bn,aY,dn,dG,bZ,dL,bF,bH,dJ,dO]at*
   exact⟨fun h=>⟨fun e=>(by have:=this.2 e;grind),fun _=>trivial⟩,fun h=>⟨fun _=>trivial,fun e=>absurd (this.1 h) e⟩⟩
  ·simp only[jR]
   rw[dD (by rw[show((a.cells.length:Nat):Int)=len a.cells from rfl];simp [ilt])]
  cases w with
  |inl w=>obtain⟨rfl,h⟩:=hw;simp only[gK,ak];simp [h]
  |inr w=>
  simp only[gK,hw,true_and]
  refine Wq.bind (QU (l:=a.limits) (m:=b.limits) a9 h3 (step:=fun v:Int×Bool=>jO b a v.1 v.2) (fun i h hh q=> ?_) (fun q=> ?_) _) fun w hw=> ?_
  ·simp only[jO]
   rw[aI (by rw[eP];simpa using h),aI (inb _ i h),aI (inb _ i hh),bJ _ i h,bJ _ i hh,gJ,ak,ak,bn,aY,dZ (by omega)]
   have:=afo a.limits[i] b.limits[i]
   simp only[bg,bP,dh,dB,bn,aY,dn,dG,bZ,dL,bF,bH,dJ,dO]at*
   exact⟨fun h=>⟨fun e=>(by have:=this.2 e;grind),fun _=>trivial⟩,fun h=>⟨fun _=>trivial,fun e=>absurd (this.1 h) e⟩⟩
  ·simp only[jO]
   rw[dD (by rw[show((a.limits.length:Nat):Int)=len a.limits from rfl];simp [ilt])]
  cases w with
  |inl w=>obtain⟨rfl,h⟩:=hw;simp only[gK,ak];simp [h]
  |inr w=>
  simp only[gK,hw,true_and]
  refine Wq.bind (QU (l:=a.caps) (m:=b.caps) a10 h4 (step:=fun v:Int×Bool=>jV b a v.1 v.2) (fun i h hh q=> ?_) (fun q=> ?_) _) fun w hw=> ?_
  ·simp only[jV]
   rw[aI (by rw[eP];simpa using h),aI (inb _ i h),aI (inb _ i hh),bJ _ i h,bJ _ i hh,gJ,ak,ak,bn,aY,dZ (by omega)]
   simp only[bg,bP,dh,dB,bn,aY,dn,dG,bZ,dL,bF,bH,dJ,dO]at*
   exact⟨fun h=>⟨fun e=>absurd e h,fun _=>trivial⟩,fun h=>⟨fun _=>trivial,fun e=>absurd h e⟩⟩
  ·simp only[jV]
   rw[dD (by rw[show((a.caps.length:Nat):Int)=len a.caps from rfl];simp [ilt])]
  cases w with
  |inl w=>obtain⟨rfl,h⟩:=hw;simp only[gK,ak];simp [h]
  |inr w=>simp only[gK,hw,ak]
theorem adb {a:aC} (ha:uz a):mJ a a=some true:=by
 obtain⟨b,e,q⟩:=aiX (b:=a) ha
 rw[e,q.2 rfl]
theorem agM (s:aC):Wq (oN s) fun b=>b=true->uz s:=by
 unfold oN uz
 simp only[ak,bg,bP,dh,dB,bn,aY,dn,dG,bZ,dL,bF,bH,dJ,dO,len]
 omega
theorem ad4 {s:aC} (h:uz s) (r:iT):uz (doS s r).1:=by
 have q:=VG s r
 by_cases e:(doS s r).2=0
 ·obtain⟨_,_,_,_,_,_,h1,h2,h3,h4,_⟩:=q.good e
  unfold uz at *; omega
 ·rw[q.bad e];exact h
theorem ahL {l:List aG} (h:IZ l) {o:aG} (ho:o∈l):∃k:Nat,∃hk:k<l.length,wQ l o.id=some k/\l[k]=o:=by
 cases hf:wQ l o.id with
 |none=>exact absurd rfl (abD hf o ho)
 |some k=>
  obtain⟨hk,h1⟩:=l9 hf
  obtain⟨j,hj,rfl⟩:=List.getElem_of_mem ho
  have:k=j:=h.find hk hj h1
  subst this
  exact⟨k,hk,rfl,rfl⟩
theorem ajH {α β:Type} (l:List α) {i:Nat} (h:i<l.length) (x y z:β):cnd (ilt (i:Int) (len l)) (cnd (band (ile 0 (i:Int)) (ilt (i:Int) (len l))) x y) z=x:=by
 rw[aI (b:=ilt _ _) (DZ (by unfold len;omega)),aI (inb l i h)]
theorem aiJ {α β:Type} (l:List α) (x y:β):cnd (ilt (l.length:Int) (len l)) x y=y:=dD (BI (by unfold len;omega))
def wF (n:Int):Nat->List Int
 |0=>[]
 |k+1=>(n / 256^k%256)::wF n k
theorem uY (n:Int):∀k,(wF n k).length=k
 |0=>rfl
 |k+1=>by rw[wF,List.length_cons,uY n k]
def yg (l:List Int):Prop:=∀x∈l,0<=x/\x<=255
theorem qo (n:Int):∀k,yg (wF n k)
 |0=>by intro x hx;cases hx
 |k+1=>by
  intro x hx
  rcases List.mem_cons.1 hx with rfl | hx
  ·have h1:=Int.emod_nonneg (n / 256^k) (b:=256) (by decide)
   have h2:=Int.emod_lt_of_pos (n / 256^k) (b:=256) (by decide)
   omega
  ·exact qo n k x hx
theorem yg.app {a b:List Int} (h:yg a) (k:yg b):yg (a++b):=fun x hx=>by
 rcases List.mem_append.1 hx with h1 | h1
 ·exact h x h1
 ·exact k x h1
theorem yg.get {l:List Int} (h:yg l) {i:Nat} (hi:i<l.length):0<=l[i]/\l[i]<=255:=h _ (List.getElem_mem hi)
theorem abK {α:Type} {f:α->List Int} {l:List α} (h:∀x∈l,yg (f x)):yg (l.flatMap f):=fun x hx=>by
 obtain⟨y,h1,h2⟩:=List.mem_flatMap.1 hx
 exact h y h1 x h2
theorem afW (n:Int):wr .u8 n=n%256:=by
 unfold wr IntKind.wrap
 simp [IntKind.bits,IntKind.signed]
theorem agj (n:Int):wr .u32 n=n%4294967296:=by
 unfold wr IntKind.wrap
 simp [IntKind.bits,IntKind.signed]
theorem aiL {W X:Type} {step:Int×X->Option ((Int×X) ⊕ W)} {n:Nat} (hn:n<999999) (J:Nat->X->Prop) (R:W->Prop)
 (h:∀i x,i<n->J (i+1) x->Wq (step ((i:Int),x)) fun r=>match r with | .inl (k,x')=>k=(i:Int) - 1/\J i x' | .inr w=>R w)
 (he:∀x,J 0 x->Wq (step (-1,x)) fun r=>match r with | .inl _=>False | .inr w=>R w)
 (x:X) (hx:J n x):Wq (bD step LF ((n:Int) - 1,x)) R:=by
 refine Vo (fun v:Int×X=>(v.1+1).toNat) (fun v:Int×X=>∃i:Nat,v.1=(i:Int) - 1/\i<=n/\J i v.2) R ?_ LF _ (ZH (by simp only;omega)) ⟨n,rfl,Nat.le_refl _,hx⟩
 rintro⟨k,y⟩ ⟨i,rfl,hi,hj⟩
 cases i with
 |zero=>
  refine(he y hj).mono fun r hr=> ?_
  match r,hr with
  |.inl _,hr=>exact hr.elim
  |.inr w,hr=>exact hr
 |succ i=>
  have e:((i+1:Nat):Int) - 1=(i:Int):=by omega
  rw[e]
  refine(h i y (by omega) hj).mono fun r hr=> ?_
  match r,hr with
  |.inl (k,x'),hr=>
   obtain⟨rfl,h2⟩:=hr
   exact⟨⟨i,rfl,by omega,h2⟩,by simp only;omega⟩
  |.inr w,hr=>exact hr
theorem ahx {i:Nat} (h:i<1000000):wr .i64 (aA (i:Int) 1)=(i:Int) - 1:=by
 unfold aA
 exact Jo ⟨by omega,by omega⟩
theorem Yv {α:Type} {l:List α} {n:Nat} (h:l.length<=n) (hn:n<68719476736):ile (len l) 68719476736=true:=lm (by unfold len;omega)
abbrev B32:=BitVec 32
def hB (x:B32):B32:=(x >>> 1) ^^^ (if x.getLsbD 0 then 0xedb88320#32 else 0#32)
def hN:Nat->B32->B32
 |0,x=>x
 |n+1,x=>hN n (hB x)
theorem ajc (x y:B32):hB (x ^^^ y)=hB x ^^^ hB y:=by
 unfold hB
 rw[BitVec.ushiftRight_xor_distrib,BitVec.getLsbD_xor]
 cases x.getLsbD 0<;>cases y.getLsbD 0<;>simp [BitVec.xor_assoc]
 ·rw[BitVec.xor_comm (y >>> 1)]
 ·rw[<-BitVec.xor_assoc (3988292384#32),BitVec.xor_comm (3988292384#32) (y >>> 1),BitVec.xor_assoc];simp
theorem afk:∀(n:Nat) (x y:B32),hN n (x ^^^ y)=hN n x ^^^ hN n y
 |0,_,_=>rfl
 |n+1,x,y=>by rw[hN,hN,hN,ajc,afk n]
theorem aiZ {y:B32} (h:y.getLsbD 31=false):hB (y <<< 1)=y:=by
 unfold hB
 have h0:(y <<< 1).getLsbD 0=false:=by simp
 rw[h0]
 refine BitVec.eq_of_getLsbD_eq fun i hi=> ?_
 simp only[BitVec.getLsbD_xor,BitVec.getLsbD_ushiftRight,BitVec.getLsbD_shiftLeft]
 by_cases h31:i=31
 ·subst h31
  have:y[31]=false:=by simpa using h
  simp [this]
 ·have:1+i<32:=by omega
  simp [this]
theorem afB:∀(k:Nat) (y:B32),k<=32->(∀j,32 - k<=j->y.getLsbD j=false)->hN k (y <<< k)=y
 |0,y,_,_=>by simp [hN]
 |k+1,y,hk,h=>by
  have e:y <<< (k+1)=(y <<< k) <<< 1:=by rw[BitVec.shiftLeft_add]
  rw[hN,e,aiZ,afB k y (by omega) fun j hj=>h j (by omega)]
  rw[BitVec.getLsbD_shiftLeft,h (31 - k) (by omega)]
  simp
theorem abv:∀(a b:Nat) (x:B32),hN (a+b) x=hN b (hN a x)
 |0,b,x=>by rw[Nat.zero_add];rfl
 |a+1,b,x=>by rw[Nat.add_right_comm,hN,hN,abv a]
theorem ajY (x:B32):hN 4 (x &&& 15#32) ^^^ (x >>> 4)=hN 4 x:=by
 have hs:=afB 4 (x >>> 4) (by decide) fun j hj=>by
  rw[BitVec.getLsbD_ushiftRight];exact BitVec.getLsbD_of_ge _ _ (by omega)
 have e:x=(x &&& 15#32) ^^^ ((x >>> 4) <<< 4):=by
  refine BitVec.eq_of_getLsbD_eq fun i hi=> ?_
  simp only[BitVec.getLsbD_xor,BitVec.getLsbD_and,BitVec.getLsbD_shiftLeft,BitVec.getLsbD_ushiftRight]
  by_cases h4:i<4
  ·have h15:(15#32).getLsbD i=true:=by
    have:i=0\/i=1\/i=2\/i=3:=by omega
    rcases this with rfl | rfl | rfl | rfl<;>rfl
   rw[h15]
   simp [h4]
  ·have h15:(15#32).getLsbD i=false:=by
    have:(15#32)=BitVec.ofNat 32 15:=rfl
    rw[this,BitVec.getLsbD_ofNat]
    have:Nat.testBit 15 i=false:=Nat.testBit_lt_two_pow (Nat.lt_of_lt_of_le (by decide:15<2^4) (Nat.pow_le_pow_right (by decide) (by omega)))
    simp [this]
   have:4+(i - 4)=i:=by omega
   rw[h15,this]
   simp [h4,hi]
 conv=>rhs;rw[e,afk,hs]
def ofB (b:Int):B32:=BitVec.ofInt 32 b
def toI (x:B32):Int:=(x.toNat:Int)
theorem agN (x:B32):0<=toI x/\toI x<4294967296:=by
 have:=x.isLt
 unfold toI
 omega
theorem TJ (x:B32):ofB (toI x)=x:=by
 apply BitVec.eq_of_toNat_eq
 unfold ofB toI
 rw[BitVec.toNat_ofInt]
 have:=x.isLt
 omega
theorem ahR {b:Int} (h1:0<=b) (h2:b<4294967296):toI (ofB b)=b:=by
 unfold ofB toI
 rw[BitVec.toNat_ofInt]
 omega
theorem agw (x:B32):wr .u32 (toI x)=toI x:=by
 have:=agN x
 rw[agj];omega
theorem XT (x y:B32):wr .u32 (gY .u32 (toI x) (toI y))=toI (x ^^^ y):=by
 have:gY .u32 (toI x) (toI y)=toI (x ^^^ y):=by
  show((BitVec.ofInt 32 (toI x) ^^^ BitVec.ofInt 32 (toI y)).toNat:Int)=_
  have h1:=TJ x
  have h2:=TJ y
  unfold ofB at h1 h2
  rw[h1,h2];rfl
 rw[this,agw]
theorem agu (x y:B32):wr .u32 (mr .u32 (toI x) (toI y))=toI (x &&& y):=by
 have:mr .u32 (toI x) (toI y)=toI (x &&& y):=by
  show((BitVec.ofInt 32 (toI x) &&& BitVec.ofInt 32 (toI y)).toNat:Int)=_
  have h1:=TJ x
  have h2:=TJ y
  unfold ofB at h1 h2
  rw[h1,h2];rfl
 rw[this,agw]
theorem aio (x:B32) (k:Nat) (hk:k<=32):bQ .u32 (toI x) (k:Int)=toI (x >>> k):=by
 unfold bQ toI
 have:min ((k:Int).toNat) (IntKind.bits .u32)=k:=by simp only[IntKind.bits,Int.toNat_natCast];omega
 rw[this,Int.fdiv_eq_ediv_of_nonneg _ (Int.le_of_lt (Int.pow_pos (by decide))),BitVec.toNat_ushiftRight,Nat.shiftRight_eq_div_pow]
 simp
theorem afh {b:Int} (h1:0<=b) (h2:b<=255):wr .u32 b=toI (ofB b):=by
 rw[ahR h1 (by omega),agj];omega
theorem ajE (x:B32):(toI x%2=1)↔x.getLsbD 0=true:=by
 unfold toI
 rw[BitVec.getLsbD,Nat.testBit_zero]
 simp only[decide_eq_true_eq]
 omega
theorem Vl (x:B32):cO (toI x)=some (toI (hN 4 x)):=by
 refine Wq.eq ?_
 unfold cO
 refine Wq.bind (Q:=fun y=>y=toI (hN 4 x)) ?_ fun y hy=>(ak _).2 hy
 refine nD (n:=4) (by decide) (fun i v=>v=toI (hN i x)) _ (fun i v hi hj=> ?_) (fun v hj=> ?_) _ 0 (by decide) rfl
 ·subst hj
  simp only
  unfold A8
  rw[aI (DZ (by omega))]
  have e1:(1:Int)=toI 1#32:=rfl
  have e15:(3988292384:Int)=toI 3988292384#32:=rfl
  have e2:bQ .u32 (toI (hN i x)) 1=toI (hN i x >>> 1):=aio _ 1 (by decide)
  rw[e2,e15,XT]
  have hb:wr .u32 (mr .u32 (toI (hN i x)) 1)=toI (hN i x &&& 1#32):=by conv=>lhs;rw[e1,agu]
  rw[hb,abv i 1]
  have hl:(ieq (toI (hN i x &&& 1#32)) 1=true)↔(hN i x).getLsbD 0=true:=by
   rw[bF,<-ajE]
   unfold toI
   have:(hN i x &&& 1#32).toNat=(hN i x).toNat%2:=by
    rw[BitVec.toNat_and]
    exact Nat.and_two_pow_sub_one_eq_mod _ 1
   rw[this];omega
  cases hc:ieq (toI (hN i x &&& 1#32)) 1 with
  |true=>
   rw[bI,ak]
   refine⟨dZ (by omega),?_⟩
   show _=toI (hB (hN i x))
   unfold hB
   rw[if_pos (hl.1 hc)]
  |false=>
   rw[aU,ak]
   refine⟨dZ (by omega),?_⟩
   show _=toI (hB (hN i x))
   unfold hB
   rw[if_neg (fun h=>by rw[hl.2 h]at hc;cases hc),BitVec.xor_zero]
 ·subst hj
  simp only
  unfold A8
  rw[dD (BI (by omega)),ak]
def ones:B32:=BitVec.allOnes 32
def ael (n:B32) (l:List Int):B32:=l.foldl (fun n b=>hN 8 (n ^^^ ofB b)) n
def ai4 (l:List Int):Int:=toI (ones ^^^ ael ones l)
theorem afv (n:B32) (a b:List Int):ael n (a++b)=ael (ael n a) b:=List.foldl_append
theorem adp {l:List Int} (hl:l.length<999999) (hb:yg l):Hg l=some (ai4 l):=by
 refine Wq.eq ?_
 unfold Hg Oe
 have e0:(4294967295:Int)=toI ones:=rfl
 have e00:(0:Int)=toI 0#32:=rfl
 have e15:(15:Int)=toI 15#32:=rfl
 refine Wq.bind (Q:=fun y=>y=ai4 l) (Wq.bind (Q:=fun y=>y=toI (ael ones l)) ?_ fun y hy=> ?_) fun y hy=>(ak _).2 hy
 ·have hi0:wr .u32 (gY .u32 4294967295 0)=toI ones:=by
   conv=>lhs;rw[e0,e00,XT]
   simp
  rw[hi0]
  refine nD hl (fun i v=>v=toI (ael ones (l.take i))) _ (fun i v hi hj=> ?_) (fun v hj=> ?_) _ 0 (Nat.zero_le _) rfl
  ·subst hj
   simp only
   unfold Bf
   obtain⟨b1,b2⟩:=hb.get hi
   have e4:∀x:B32,bQ .u32 (toI x) 4=toI (x >>> 4):=fun x=>aio x 4 (by decide)
   rw[ajH l hi,bJ l i hi,afh b1 b2,XT,e15,agu,Vl,au,e4,XT,ajY,agu,Vl,au,e4,XT,ajY,ak]
   refine⟨dZ (by omega),?_⟩
   rw[List.take_succ_eq_append_getElem hi,afv,<-abv]
   rfl
  ·subst hj
   simp only
   unfold Bf
   rw[aiJ,ak,List.take_length]
 ·subst hy
  rw[ak]
  conv=>lhs;rw[e0,XT]
  rfl
def WV (n:Int):List Int:=[n%256,n / 256%256,n / 65536%256,n / 16777216%256]
theorem ab5 (n:Int):yg (WV n):=fun x hx=>by
 unfold WV at hx
 simp only[List.mem_cons,List.not_mem_nil,or_false]at hx
 rcases hx with rfl | rfl | rfl | rfl<;>omega
def p8 (l:List Int):List Int:=l.flatMap fun n=>wF n 8
def p1 (l:List Int):List Int:=l.flatMap fun n=>wF n 1
theorem flat_length {α β:Type} {f:α->List β} {m:Nat} (h:∀x,(f x).length=m):∀l:List α,(l.flatMap f).length=m*l.length
 |[]=>rfl
 |x::l=>by rw[List.flatMap_cons,List.length_append,h,flat_length h l,List.length_cons,Nat.mul_add,Nat.mul_one,Nat.add_comm]
theorem aa9 {n:Int} {i:Nat} (hi:i<4):ile 0 (wr .i64 (fQ 8 (i:Int)))=true/\wr .u8 (bQ .u32 n (wr .i64 (fQ 8 (i:Int))))=n / 256^i%256:=by
 have h1:wr .i64 (fQ 8 (i:Int))=((8*i:Nat):Int):=by
  unfold fQ
  rw[dA (by omega) (by omega)];omega
 have h2:min (((8*i:Nat):Int).toNat) (IntKind.bits .u32)=8*i:=by
  simp only[IntKind.bits,Int.toNat_natCast];omega
 rw[h1]
 refine⟨lm (by omega),?_⟩
 unfold bQ
 rw[h2,Int.pow_mul,afW,Int.fdiv_eq_ediv_of_nonneg _ (Int.le_of_lt (Int.pow_pos (by decide)))]
 rfl
theorem afU (n:Int) {j:Nat} (hj:j<8):n%18446744073709551616 / 256^j%256=n / 256^j%256:=by
 have:j=0\/j=1\/j=2\/j=3\/j=4\/j=5\/j=6\/j=7:=by omega
 rcases this with rfl | rfl | rfl | rfl | rfl | rfl | rfl | rfl
 ·rw[show(256:Int)^0=1 by decide];omega
 ·rw[show(256:Int)^1=256 by decide];omega
 ·rw[show(256:Int)^2=65536 by decide];omega
 ·rw[show(256:Int)^3=16777216 by decide];omega
 ·rw[show(256:Int)^4=4294967296 by decide];omega
 ·rw[show(256:Int)^5=1099511627776 by decide];omega
 ·rw[show(256:Int)^6=281474976710656 by decide];omega
 ·rw[show(256:Int)^7=72057594037927936 by decide];omega
def b1 (n:Int):Prop:=0<=n/\n<=255
theorem afY {l:List Int} (h:okL acB l):yg l:=fun x hx=>h.1 x hx
def msgP (m:jw):Prop:=qL m.order/\(0<=m.account/\m.account<8)/\(0<=m.symbol/\m.symbol<8)/\(m.side=1\/m.side=2)/\(0<=m.lsn/\m.lsn<=1000000000)/\
 ((m.kind=1/\1<=m.qty/\1<=m.price/\m.version=0)\/(m.kind=2/\1<=m.qty/\1<=m.price/\1<=m.version)\/(m.kind=3/\m.qty=0/\m.price=0/\m.version=0))
instance (m:jw):Decidable (msgP m):=by unfold msgP qL;infer_instance
theorem ajB (m:jw):Wq (jX m) fun b=>b=true↔msgP m:=by
 unfold jX msgP qL
 simp only[pW,gJ,ak,bg,bP,dh,dB,bn,aY,dn,dG,bZ,dL,bF,bH,dJ,dO,true_implies,ne_eq,not_true_eq_false,false_implies,and_true,true_and,or_self,reduceCtorEq]
 grind
theorem afT (m:jw):jX m=some (decide (msgP m)):=(ajB m).dec
def Gj:List jw->Int->Int->Prop
 |[],_,_=>True
 |m::r,a,z=>msgP m/\a<m.lsn/\m.lsn<=z/\Gj r m.lsn z
theorem adt {l:List jw} {i:Nat} (hi:i<l.length) {a z:Int}:Gj (l.drop i) a z↔msgP l[i]/\a<l[i].lsn/\l[i].lsn<=z/\Gj (l.drop (i+1)) l[i].lsn z:=by
 rw[List.drop_eq_getElem_cons hi];rfl
theorem aeF (l:List jw) (a z:Int) (hl:l.length<999999):Wq (uK l a z) fun b=>b=true↔Gj l a z:=by
 unfold uK
 refine Wq.bind (Q:=fun w:Bool ⊕ Bool=>match w with | .inl b=>b=false/\¬Gj l a z | .inr _=>Gj l a z)
  (nD (n:=l.length) (step:=fun v:Int×Bool×Int=>oZ (len l) l z v.1 v.2.1 v.2.2) hl (fun i x=>Gj l a z↔Gj (l.drop i) x.2 z) _ ?_ ?_ _ 0 (Nat.zero_le _) (by simp)) ?_
 ·rintro i ⟨q,x⟩ hi hj
  simp only at hj
  simp only[oZ]
  rw[aI (by rw[eP];simpa using hi),aI (inb l i hi),bJ l i hi,afT,au,hj,adt hi]
  simp only[pW,gJ,ak,bg,bP,dh,dB,bn,aY,dn,dG,bZ,dL,bF,bH,dJ,dO,true_implies,ne_eq,not_true_eq_false,false_implies,and_true,true_and,or_self,reduceCtorEq]
  refine⟨fun h=> ?_,fun h=> ?_⟩
  ·rintro⟨h1,h2,h3,_⟩
   rcases h with (h | h) | h
   ·simp [h1]at h
   ·omega
   ·omega
  ·refine⟨dZ (by omega),?_⟩
   have h1:msgP l[i]:=by simpa using h.1.1
   exact⟨fun h=>h.2.2.2,fun g=>⟨h1,by omega,by omega,g⟩⟩
 ·rintro⟨q,x⟩ hj
  simp only at hj
  simp only[oZ]
  rw[dD (by rw[show((l.length:Nat):Int)=len l from rfl];simp [ilt]),ak]
  show Gj l a z
  rw[hj,List.drop_length];trivial
 ·intro w hw
  match w,hw with
  |.inl b,h=>simp only[gK,ak];simp [h.1,h.2]
  |.inr _,h=>simp only[gK,ak];simpa using h
def tu:List fE->Int->Int->Prop
 |[],_,_=>True
 |n::r,a,x=>a<n.seq/\n.seq<=x+8/\tu r n.seq x
theorem abu {l:List fE} {i:Nat} (hi:i<l.length) {a z:Int}:tu (l.drop i) a z↔a<l[i].seq/\l[i].seq<=z+8/\tu (l.drop (i+1)) l[i].seq z:=by
 rw[List.drop_eq_getElem_cons hi];rfl
def XK (f:kD) (x:Int):Prop:=1<=x/\x<=1000000001/\f.held.length<=8/\tu f.held x x
theorem PV (f:kD) (x:Int):Wq (vO f x) fun b=>b=true↔XK f x:=by
 unfold vO XK
 rw[gJ]
 refine⟨fun h=>(ak _).2 ?_,fun h=> ?_⟩
 ·simp only[bg,bP,dh,dB,bn,aY,dn,dG,bZ,dL,bF,bH,dJ,dO,len]at h
  constructor
  ·intro g;cases g
  ·intro g;omega
 simp only[bg,bP,dh,dB,bn,aY,dn,dG,bZ,dL,bF,bH,dJ,dO,len]at h
 have hl:f.held.length<=8:=by omega
 have hwr:wr .i64 (ai x 8)=x+8:=dA (by simp only[ai];omega) (by simp only[ai];omega)
 refine Wq.bind (Q:=fun w:Bool ⊕ Bool=>match w with | .inl b=>b=false/\¬tu f.held x x | .inr _=>tu f.held x x)
  (nD (n:=f.held.length) (step:=fun v:Int×Int×Bool=>qH (len f.held) f.held x v.1 v.2.1 v.2.2) (by omega) (fun i y=>tu f.held x x↔tu (f.held.drop i) y.1 x) _ ?_ ?_ _ 0 (Nat.zero_le _) (by simp)) ?_
 ·rintro i ⟨y,q⟩ hi hj
  simp only at hj
  simp only[qH]
  rw[aI (by rw[eP];simpa using hi),aI (inb f.held i hi),bJ f.held i hi,hj,abu hi,hwr]
  simp only[pW,gJ,ak,bg,bP,dh,dB,bn,aY,dn,dG,bZ,dL,bF,bH,dJ,dO,true_implies,ne_eq,not_true_eq_false,false_implies,and_true,true_and,or_self,reduceCtorEq]
  refine⟨fun h=> ?_,fun h=> ?_⟩
  ·rintro⟨h1,h2,_⟩;omega
  ·exact⟨dZ (by omega),fun h=>h.2.2,fun g=>⟨by omega,by omega,g⟩⟩
 ·rintro⟨y,q⟩ hj
  simp only at hj
  simp only[qH]
  rw[dD (by rw[show((f.held.length:Nat):Int)=len f.held from rfl];simp [ilt]),ak]
  show tu f.held x x
  rw[hj,List.drop_length];trivial
 ·intro w hw
  match w,hw with
  |.inl b,h=>simp only[gK,ak];simp [h.1,h.2]
  |.inr _,h=>
   simp only[gK,ak]
   simp only[true_iff]
   exact⟨by omega,by omega,hl,h⟩
theorem ad9 (n:Nat) (h:n<=200):wr .i64 (bQ .u64 (wr .u64 (wr .i64 (n:Int))) 1)=((n / 2:Nat):Int):=by
 have:∀k:Fin 201,wr .i64 (bQ .u64 (wr .u64 (wr .i64 ((k:Nat):Int))) 1)=(((k:Nat) / 2:Nat):Int):=by decide+kernel
 exact this ⟨n,by omega⟩
theorem Gy:∀ {l:List fE} {a x:Int},tu l a x->∀n∈l,a<n.seq/\n.seq<=x+8
 |[],_,_,_,n,hn=>by cases hn
 |m::r,a,x,h,n,hn=>by
  obtain⟨h1,h2,h3⟩:=h
  rcases List.mem_cons.1 hn with rfl | hn
  ·exact⟨h1,h2⟩
  ·have:=Gy h3 n hn;exact⟨by omega,this.2⟩
theorem PW:∀ {l:List fE} {a x:Int},tu l a x->∀ {i j:Nat} (hij:i<j) (hj:j<l.length),(l[i]'(by omega)).seq<l[j].seq
 |m::r,a,x,h,0,j+1,hij,hj=>by
  have hj':j<r.length:=by simpa using hj
  exact(Gy h.2.2 r[j] (List.getElem_mem hj')).1
 |m::r,a,x,h,i+1,j+1,hij,hj=>PW h.2.2 (i:=i) (j:=j) (by omega) (by simpa using hj)
 |[],_,_,_,_,_,_,hj=>by simp at hj
theorem WT:∀ {l:List fE} {a x:Int},tu l a x->a<=x+8->(l.length:Int)<=x+8 - a
 |[],_,_,_,h=>by simp;omega
 |m::r,a,x,h,_=>by
  have:=WT h.2.2 h.2.1
  have:=h.1
  simp only[List.length_cons];omega
theorem Z5:∀ {l:List fE} {a x y:Int},tu l a x->x<=y->tu l a y
 |[],_,_,_,_,_=>trivial
 |m::r,a,x,y,h,hy=>⟨h.1,by have:=h.2.1;omega,Z5 h.2.2 hy⟩
def CZ:List fE->Int->Nat
 |[],_=>0
 |n::r,x=>if n.seq=x then CZ r (x+1)+1 else 0
theorem YQ:∀(l:List fE) (x:Int),CZ l x<=l.length
 |[],_=>Nat.le_refl _
 |n::r,x=>by
  unfold CZ
  have:=YQ r (x+1)
  split<;>simp<;>omega
theorem aj9 (l:List fE) (x:Int) (hl:l.length<=8) (h0:0<=x) (h1:x<=2000000000):Az l x=some (CZ l x:Int):=by
 refine Wq.eq ?_
 unfold Az
 refine Wq.bind (Q:=fun w:Int ⊕ Int=>match w with | .inl b=>b=(CZ l x:Int) | .inr _=>CZ l x=l.length)
  (nD (n:=l.length) (step:=fun v:Int×Int=>wM (len l) l x v.1 v.2) (by omega) (fun i _=>CZ l x=i+CZ (l.drop i) (x+i)) _ ?_ ?_ _ 0 (Nat.zero_le _) (by simp)) ?_
 ·rintro i q hi hj
  simp only[wM]
  have hw:wr .i64 (ai x (i:Int))=x+i:=dA (by simp only[ai];omega) (by simp only[ai];omega)
  rw[aI (by rw[eP];simpa using hi),aI (inb l i hi),bJ l i hi,hw]
  rw[List.drop_eq_getElem_cons hi,CZ]at hj
  simp only[pW,gJ,ak,bg,bP,dh,dB,bn,aY,dn,dG,bZ,dL,bF,bH,dJ,dO,true_implies,ne_eq,not_true_eq_false,false_implies,and_true,true_and,or_self,reduceCtorEq]
  refine⟨fun h=> ?_,fun h=> ?_⟩
  ·rw[if_neg h]at hj;omega
  ·rw[if_pos h]at hj
   refine⟨dZ (by omega),?_⟩
   rw[hj,show x+((i+1:Nat):Int)=x+i+1 by omega];omega
 ·rintro q hj
  simp only[wM]
  rw[dD (by rw[show((l.length:Nat):Int)=len l from rfl];simp [ilt]),ak]
  simpa [CZ] using hj
 ·intro w hw
  match w,hw with
  |.inl b,h=>simp only[gK,ak];exact h
  |.inr _,h=>simp only[gK,ak,len];rw[h]
theorem agO {l:List fE} {x s:Int} (hl:l.length<=8) (hh:tu l x x) (hx:0<=x) (hx2:x<=2000000000) (hs:0<=s) (hs2:s<=2000000000):
 Wq (vJ l s) fun r=>∃i:Nat,r.1=(i:Int)/\i<=l.length/\(∀(j:Nat) (h:j<l.length),j<i->l[j].seq<s)/\(∀(j:Nat) (h:j<l.length),i<=j->s<=l[j].seq)/\(r.2=true↔∃h:i<l.length,l[i].seq=s):=by
 have sub:∀(i:Nat) (h:i<l.length),wr .i64 (aA l[i].seq s)=l[i].seq - s:=fun i h=>by
  have:=Gy hh l[i] (List.getElem_mem h)
  exact Jo ⟨by simp only[aA];omega,by simp only[aA];omega⟩
 unfold vJ
 refine Wq.bind (Q:=fun w:Int=>∃i:Nat,w=(i:Int)/\i<=l.length/\(∀(j:Nat) (h:j<l.length),j<i->l[j].seq<s)/\(∀(j:Nat) (h:j<l.length),i<=j->s<=l[j].seq))
  (Vo (step:=fun v:Int×Int=>bY l s v.1 v.2) (fun v=>(v.1 - v.2).toNat)
    (fun v=>∃lo hi:Nat,v=((hi:Int),(lo:Int))/\lo<=hi/\hi<=l.length/\(∀(j:Nat) (h:j<l.length),j<lo->l[j].seq<s)/\(∀(j:Nat) (h:j<l.length),hi<=j->s<=l[j].seq)) _ ?_ LF _ (ZH (by simp only[len];omega)) ⟨0,l.length,rfl,Nat.zero_le _,Nat.le_refl _,fun j _ h=>by omega,fun j h1 h2=>by omega⟩) ?_
 ·rintro _ ⟨lo,hi,rfl,g1,g2,g3,g4⟩
  simp only[bY]
  rw[gJ]
  refine⟨fun h=> ?_,fun h=>(ak _).2 ?_⟩
  ·rw[dn]at h
   have e1:wr .i64 (bQ .u64 (wr .u64 (wr .i64 (ai (lo:Int) (hi:Int)))) 1)=(((lo+hi) / 2:Nat):Int):=by
    rw[<-ad9 (lo+hi) (by omega)];unfold ai;rw[Int.natCast_add]
   have hm:(lo+hi) / 2<l.length:=by omega
   rw[e1,aI (inb _ _ hm),bJ _ _ hm,gJ,ak,ak,sub _ hm]
   refine⟨fun h2=> ?_,fun h2=> ?_⟩
   ·simp only[bg,bP,dh,dB,bn,aY,dn,dG,bZ,dL,bF,bH,dJ,dO]at h2
    refine⟨⟨(lo+hi) / 2+1,hi,by rw[dZ (by omega)],by omega,g2,fun j hj h3=> ?_,g4⟩,?_⟩
    ·rcases Nat.lt_or_ge j ((lo+hi) / 2)with h4 | h4
     ·have:=PW hh h4 hm;omega
     ·have:j=(lo+hi) / 2:=by omega
      subst this;omega
    ·simp only;rw[dZ (by omega)];omega
   ·simp only[bg,bP,dh,dB,bn,aY,dn,dG,bZ,dL,bF,bH,dJ,dO]at h2
    refine⟨⟨lo,(lo+hi) / 2,rfl,by omega,by omega,g3,fun j hj h3=> ?_⟩,?_⟩
    ·rcases Nat.lt_or_ge ((lo+hi) / 2) j with h4 | h4
     ·have:=PW hh h4 hj;omega
     ·have:j=(lo+hi) / 2:=by omega
      subst this;omega
    ·simp only;omega
  ·rw[dG]at h
   have:lo=hi:=by omega
   subst this
   exact⟨lo,rfl,g2,g3,g4⟩
 rintro _ ⟨i,rfl,hi,g1,g2⟩
 by_cases hil:i<l.length
 ·have h1:ilt (i:Int) (len l)=true:=DZ (by simp only[len];omega)
  rw[aI (by rw[dh];exact .inl (inb l i hil)),aI h1,ak,bJ l i hil,sub _ hil]
  refine⟨i,rfl,hi,g1,g2,?_⟩
  simp only[bg,bP,dh,dB,bn,aY,dn,dG,bZ,dL,bF,bH,dJ,dO]
  constructor
  ·intro h;exact⟨hil,by omega⟩
  ·rintro⟨_,h⟩;exact⟨by simp only[len];omega,by omega⟩
 ·have h1:ilt (i:Int) (len l)=false:=BI (by simp only[len];omega)
  rw[aI (by rw[dh,bn];exact .inr h1),dD h1,ak]
  refine⟨i,rfl,hi,g1,g2,?_⟩
  rw[h1]
  constructor
  ·intro h;simp [bor]at h
  ·rintro⟨h,_⟩;exact absurd h hil
theorem ahM {α:Type} (l:List α):nol l=[]:=by simp [nol]
open Classical in
noncomputable def lW (f:kD) (n:fE) (x:Int):kD×List fE×Int:=
 if ¬(XK f x/\1<=n.seq/\n.seq<=1000000000)then (f,[],1)
 else if n.seq<x then (f,[],0)
 else if x+8<n.seq then (⟨f.held,true⟩,[],0)
 else if n.seq=x then (⟨f.held.drop (CZ f.held (x+1)),f.gap⟩,n::f.held.take (CZ f.held (x+1)),0)
 else if ∃m∈f.held,m.seq=n.seq then (f,[],0)
 else (⟨(f.held.filter fun m=>m.seq<n.seq)++n::(f.held.filter fun m=>n.seq<m.seq),f.gap⟩,[],0)
theorem agi {l:List fE} {s:Int} {i:Nat} (hi:i<=l.length) (h1:∀(j:Nat) (h:j<l.length),j<i->l[j].seq<s) (h2:∀(j:Nat) (h:j<l.length),i<=j->s<=l[j].seq) (hn:¬∃m∈l,m.seq=s):
 l.take i=(l.filter fun m=>m.seq<s)/\l.drop i=(l.filter fun m=>s<m.seq):=by
 have a1:∀m∈l.take i,m.seq<s:=fun m hm=>by
  obtain⟨j,hj,rfl⟩:=List.getElem_of_mem hm
  rw[List.getElem_take]
  have hj':j<i/\j<l.length:=by simp at hj;omega
  exact h1 j hj'.2 hj'.1
 have a2:∀m∈l.drop i,s<m.seq:=fun m hm=>by
  have hml:m∈l:=List.mem_of_mem_drop hm
  obtain⟨j,hj,rfl⟩:=List.getElem_of_mem hm
  rw[List.getElem_drop]at hml ⊢
  have hj':i+j<l.length:=by simp at hj;omega
  have:=h2 (i+j) hj' (by omega)
  have:l[i+j].seq≠s:=fun e=>hn ⟨_,hml,e⟩
  omega
 have hl:l=l.take i++l.drop i:=(List.take_append_drop i l).symm
 have e1:(l.take i).filter (fun m=>decide (m.seq<s))=l.take i:=List.filter_eq_self.2 (fun m hm=>by simpa using a1 m hm)
 have e2:(l.drop i).filter (fun m=>decide (m.seq<s))=[]:=List.filter_eq_nil_iff.2 (fun m hm=>by have:=a2 m hm;simp;omega)
 have e3:(l.drop i).filter (fun m=>decide (s<m.seq))=l.drop i:=List.filter_eq_self.2 (fun m hm=>by simpa using a2 m hm)
 have e4:(l.take i).filter (fun m=>decide (s<m.seq))=[]:=List.filter_eq_nil_iff.2 (fun m hm=>by have:=a1 m hm;simp;omega)
 constructor
 ·conv=>rhs;rw[hl]
  rw[List.filter_append,e1,e2,List.append_nil]
 ·conv=>rhs;rw[hl]
  rw[List.filter_append,e3,e4,List.nil_append]
theorem Zn (f:kD) (n:fE) (x:Int):E5 f n x=some (lW f n x):=by
 refine Wq.eq ?_
 unfold E5 lW
 refine(PV f x).bind fun b hb=> ?_
 by_cases hf:XK f x
 case neg=>
  have:b=false:=by cases b with
   |false=>rfl
   |true=>exact absurd (hb.1 rfl) hf
  subst this
  rw[bC,bI,bI,ak,if_pos (fun h=>hf h.1)]
 obtain rfl:=hb.2 hf
 rw[aS,aU]
 by_cases h1:n.seq<1
 ·rw[aI (DZ h1),aI (DZ h1),ak,if_pos (fun h=>by omega)]
 rw[dD (BI h1)]
 by_cases h2:1000000000<n.seq
 ·rw[aI (DZ h2),ak,if_pos (fun h=>by omega)]
 rw[dD (BI h2),if_neg (fun h=>h ⟨hf,by omega,by omega⟩)]
 by_cases h3:n.seq<x
 ·rw[aI (DZ h3),ak,if_pos h3]
 rw[dD (BI h3),if_neg h3]
 have hx:=hf.1
 have hx2:=hf.2.1
 have hl:=hf.2.2.1
 have hwr:wr .i64 (ai x 8)=x+8:=dA (by simp only[ai];omega) (by simp only[ai];omega)
 have hwr1:wr .i64 (ai x 1)=x+1:=dA (by simp only[ai];omega) (by simp only[ai];omega)
 rw[hwr]
 by_cases h4:x+8<n.seq
 ·rw[aI (DZ h4),ak,if_pos h4]
 rw[dD (BI h4),if_neg h4]
 by_cases h5:n.seq=x
 ·rw[aI (by rw[bF];exact h5),if_pos h5,hwr1,aj9 f.held (x+1) hl (by omega) (by omega),au]
  have hk:=YQ f.held (x+1)
  generalize CZ f.held (x+1)=k at hk ⊢
  have c0:band (ile 0 (len f.held)) (ile 0 (len f.held))=true:=Gu (lm (by simp only[len];omega)) (lm (by simp only[len];omega))
  have c1:band (ile 0 (k:Int)) (ile (k:Int) (len f.held))=true:=Gu (lm (by omega)) (lm (by simp only[len];omega))
  simp only[ahM]
  rw[aI c0,aI (by simp [dm,len,ile,bor,band,ieq]),aI c1,aI (by simp only[dm,len,ay,itn,List.nil_append];exact lm (by simp;omega)),aI c1]
  rw[show fD (aF f.held (itn (k:Int)))=some (aF f.held (itn (k:Int)))from pV (by simp [aF,itn];omega),au,ak]
  simp [aF,ay,dm,itn]
 ·rw[dD (by rw[bH];exact h5),if_neg h5]
  refine Wq.bind (agO (s:=n.seq) hl hf.2.2.2 (by omega) (by omega) (by omega) (by omega)) ?_
  rintro⟨r1,r2⟩ ⟨i,rfl,hi,g1,g2,g3⟩
  simp only at g3
  by_cases h6:∃m∈f.held,m.seq=n.seq
  ·rw[if_pos h6]
   obtain⟨m,hm,hme⟩:=h6
   obtain⟨j,hj,rfl⟩:=List.getElem_of_mem hm
   have hij:i=j:=by
    rcases Nat.lt_trichotomy i j with h | h | h
    ·have:=PW hf.2.2.2 h hj
     have:=g2 i (by omega) (Nat.le_refl _)
     omega
    ·exact h
    ·have:=g1 j hj h;omega
   subst hij
   rw[dD (by rw[aY];exact g3.2 ⟨hj,hme⟩),ak]
  ·rw[if_neg h6]
   have:r2=false:=by cases h:r2 with
    |false=>rfl
    |true=>obtain⟨h7,h8⟩:=g3.1 h;exact absurd ⟨_,List.getElem_mem h7,h8⟩ h6
   subst this
   rw[bC,bI,show fD f.held=some f.held from pV (by omega),au]
   obtain⟨e1,e2⟩:=agi hi g1 g2 h6
   unfold jH
   simp only
   rw[aI (Gu (lm (by omega)) (Gu (lm (by simp only[len];omega)) (lm (by simp only[len,ai];omega)))),au,ak,<-e1,<-e2]
   simp [dm,ay,aF,itn]
theorem WY:∀(l:List fE) (a x y:Int),tu l a x->x<=y - 1->(∀m∈l,y<=m.seq)->tu (l.drop (CZ l y)) (y+CZ l y) (y+CZ l y)
 |[],_,_,_,_,_,_=>by simp [CZ,tu]
 |m::r,a,x,y,h,hx,hall=>by
  unfold CZ
  by_cases he:m.seq=y
  ·rw[if_pos he]
   have h2:=WY r m.seq x (y+1) h.2.2 (by omega) (fun q hq=>by have:=(Gy h.2.2 q hq).1;omega)
   rw[List.drop_succ_cons,show y+((CZ r (y+1)+1:Nat):Int)=y+1+(CZ r (y+1):Int) by omega]
   exact h2
  ·rw[if_neg he]
   simp only[List.drop_zero]
   have h1:=hall m (by simp)
   have h3:=h.2.1
   exact⟨by omega,by omega,Z5 h.2.2 (by omega)⟩
theorem WM:∀(l:List fE) (a x:Int) (n:fE),tu l a x->a<n.seq->n.seq<=x+8->(∀m∈l,m.seq≠n.seq)->tu ((l.filter fun m=>m.seq<n.seq)++n::(l.filter fun m=>n.seq<m.seq)) a x
 |[],_,_,_,_,h1,h2,_=>by simpa [tu] using ⟨h1,h2⟩
 |m::r,a,x,n,h,h1,h2,hn=>by
  have hm:=hn m (by simp)
  by_cases hlt:m.seq<n.seq
  ·rw[List.filter_cons_of_pos (by simpa using hlt),List.filter_cons_of_neg (by simp;omega),List.cons_append]
   exact⟨h.1,h.2.1,WM r m.seq x n h.2.2 hlt h2 (fun q hq=>hn q (by simp [hq]))⟩
  ·have hall:∀q∈m::r,n.seq<q.seq:=fun q hq=>by
    rcases List.mem_cons.1 hq with rfl | hq
    ·omega
    ·have:=(Gy h.2.2 q hq).1;omega
   have e1:(m::r).filter (fun q=>decide (q.seq<n.seq))=[]:=List.filter_eq_nil_iff.2 (fun q hq=>by have:=hall q hq;simp;omega)
   have e2:(m::r).filter (fun q=>decide (n.seq<q.seq))=m::r:=List.filter_eq_self.2 (fun q hq=>by have:=hall q hq;simpa using this)
   rw[e1,e2,List.nil_append]
   exact⟨h1,h2,hall m (by simp),h.2.1,h.2.2⟩
structure aiq (f:kD) (n:fE) (x:Int) (r:kD×List fE×Int):Prop where
 held:tu r.1.held (x+r.2.1.length) (x+r.2.1.length)
 len:r.1.held.length<=8
 lo:1<=x
 hi:x<=1000000001
 mem:∀m∈r.1.held,m∈f.held\/m=n
 mem2:∀m∈r.2.1,m∈f.held\/m=n
 len2:r.2.1.length<=9
theorem ac5 {f:kD} {n:fE} {x:Int} (h0:(lW f n x).2.2=0):aiq f n x (lW f n x):=by
 unfold lW at h0 ⊢
 split at h0
 ·cases h0
 rename_i hf
 have hf:=Classical.not_not.1 hf
 rw[if_neg (fun h=>h hf)]
 obtain⟨⟨f1,f2,f3,f4⟩,k1,k2⟩:=hf
 have same:∀g:Bool,aiq f n x (⟨f.held,g⟩,[],0):=fun g=>⟨by simpa using f4,f3,f1,f2,fun m hm=> .inl hm,fun m hm=>(by simp at hm),by simp⟩
 by_cases h3:n.seq<x
 ·rw[if_pos h3];exact same f.gap
 rw[if_neg h3]
 by_cases h4:x+8<n.seq
 ·rw[if_pos h4];exact same true
 rw[if_neg h4]
 by_cases h5:n.seq=x
 ·rw[if_pos h5]
  have hk:=YQ f.held (x+1)
  have h2:=WY f.held x x (x+1) f4 (by omega) (fun m hm=>by have:=(Gy f4 m hm).1;omega)
  have hl:(n::f.held.take (CZ f.held (x+1))).length=CZ f.held (x+1)+1:=by simp;omega
  refine⟨?_,?_,f1,f2,fun m hm=> .inl (List.mem_of_mem_drop hm),fun m hm=> ?_,?_⟩
  ·show tu (f.held.drop _) _ _
   simp only[hl]
   rw[show x+((CZ f.held (x+1)+1:Nat):Int)=x+1+(CZ f.held (x+1):Int) by omega]
   exact h2
  ·show(f.held.drop _).length<=8
   simp;omega
  ·rcases List.mem_cons.1 hm with rfl | hm
   ·exact .inr rfl
   ·exact .inl (List.mem_of_mem_take hm)
  ·show(n::f.held.take _).length<=9
   rw[hl];omega
 rw[if_neg h5]
 split
 ·exact same f.gap
 ·rename_i h6
  have h7:=WM f.held x x n f4 (by omega) (by omega) (fun m hm e=>h6 ⟨m,hm,e⟩)
  refine⟨by simpa using h7,?_,f1,f2,fun m hm=> ?_,fun m hm=>(by simp at hm),by simp⟩
  ·have:=WT h7 (by omega)
   show((f.held.filter fun m=>m.seq<n.seq)++n::(f.held.filter fun m=>n.seq<m.seq)).length<=8
   omega
  ·rcases List.mem_append.1 hm with hm | hm
   ·exact .inl (List.mem_filter.1 hm).1
   ·rcases List.mem_cons.1 hm with rfl | hm
    ·exact .inr rfl
    ·exact .inl (List.mem_filter.1 hm).1
theorem OQ {n:fE} (h:ql n):sS (pI n):=by
 obtain⟨h1,h2,h3,h4,h5⟩:=h
 constructor<;>first | assumption | (show inI _;unfold inI;simp [pI])
theorem acL:∀ {l:List jw} {a z y:Int},Gj l a z->z<=y->Gj l a y
 |[],_,_,_,_,_=>trivial
 |m::r,a,z,y,h,hy=>⟨h.1,h.2.1,by have:=h.2.2.1;omega,acL h.2.2.2 hy⟩
theorem TN {s t:aC} {a y:Int} (h:(MJ s t a y).2=0):(MJ s t a y).1.orders=t.orders:=by
 unfold MJ at h ⊢
 by_cases h1:ZB t
 ·rw[if_neg (fun g=>g h1)]at h ⊢
  by_cases h2:RH s t a y
  ·rw[if_pos h2]at h;simp at h
  ·rw[if_neg h2]
 ·rw[if_pos h1]at h;simp at h
theorem agC {s:aC} {r:iT} (h0:(doS s r).2=0) (hk:r.kind=1\/r.kind=2\/r.kind=3):
 ∃o∈(doS s r).1.orders,o.id=r.order/\(r.kind=2->1<=o.newQty/\1<=o.newPrice/\1<=o.version):=by
 have hm:=((VG s r).good h0).1
 have hrec:=hm.2.1
 have hords:=hm.1.fine.ords
 unfold doS at h0 ⊢
 rw[if_neg (fun g=>g hm)]at h0 ⊢
 rcases hk with hk | hk | hk
 ·rw[if_pos hk]at h0 ⊢
  by_cases h1:s.kill=true
  ·rw[if_pos h1]at h0;simp at h0
  rw[if_neg h1]at h0 ⊢
  by_cases h2:s.orders.length=64
  ·rw[if_pos h2]at h0;simp at h0
  rw[if_neg h2]at h0 ⊢
  rw[TN h0]
  exact⟨jo r,by simp [dm],rfl,fun h=>by omega⟩
 ·rw[if_neg (by omega),if_pos hk]at h0 ⊢
  cases hf:wQ s.orders r.order with
  |none=>rw[hf]at h0;simp at h0
  |some k=>
   rw[hf]at h0
   simp only at h0 ⊢
   obtain⟨hkl,hid⟩:=l9 hf
   have hg:ah s.orders k=s.orders[k]:=by simp [ah,hkl]
   by_cases h1:vP (ah s.orders k)
   ·rw[if_neg (fun g=>g h1)]at h0 ⊢
    by_cases h2:s.kill=true
    ·rw[if_pos h2]at h0;simp at h0
    rw[if_neg h2]at h0 ⊢
    rw[TN h0]
    refine⟨qM (ah s.orders k) r.qty r.price,?_,?_,fun _=> ?_⟩
    ·show _∈aZ s.orders k _
     exact List.mem_set hkl _
    ·rw[hg];exact hid
    ·have hv:=(hords s.orders[k] (List.getElem_mem hkl)).1.2.2.2.1
     rw[hg]
     unfold vN at hrec
     refine⟨?_,?_,?_⟩
     ·show 1<=r.qty;omega
     ·show 1<=r.price;omega
     ·show 1<=s.orders[k].version+1;omega
   ·rw[if_pos h1]at h0;simp at h0
 ·rw[if_neg (by omega),if_neg (by omega),if_pos hk]at h0 ⊢
  cases hf:wQ s.orders r.order with
  |none=>rw[hf]at h0;simp at h0
  |some k=>
   rw[hf]at h0
   simp only at h0 ⊢
   obtain⟨hkl,hid⟩:=l9 hf
   have hg:ah s.orders k=s.orders[k]:=by simp [ah,hkl]
   by_cases h1:(ah s.orders k).asked=true
   ·rw[if_pos h1]at h0;simp at h0
   rw[if_neg h1]
   refine⟨agt (ah s.orders k),?_,?_,fun h=>by omega⟩
   ·show _∈aZ s.orders k _
    exact List.mem_set hkl _
   ·rw[hg];exact hid
theorem aj8 {o:aG} (ho:sF o) {k z:Int} (hk:k=1\/k=2\/k=3) (h2:k=2->1<=o.newQty/\1<=o.newPrice/\1<=o.version) (hz:0<=z/\z<=1000000000):Wq (o7 k o z) fun m=>msgP m/\m.lsn=z:=by
 obtain⟨b1,b2,b3,b4,b5,b6⟩:=ho.1
 unfold o7
 rw[kM,kM,kF,decide_eq_true ho]
 simp only[au,aS,bC,bI,afT]
 rcases hk with rfl | rfl | rfl
 ·have hm:msgP (jw.mk 1 o.id o.account o.symbol o.side o.qty o.price 0 z):=⟨b1,b2,b3,b4,hz,.inl ⟨rfl,b5,b6,rfl⟩⟩
  rw[if_pos rfl,decide_eq_true hm]
  exact(ak _).2 ⟨hm,rfl⟩
 ·obtain⟨c1,c2,c3⟩:=h2 rfl
  have hm:msgP (jw.mk 2 o.id o.account o.symbol o.side o.newQty o.newPrice o.version z):=⟨b1,b2,b3,b4,hz,.inr (.inl ⟨rfl,c1,c2,c3⟩)⟩
  rw[if_neg (by decide),if_pos rfl,decide_eq_true hm]
  exact(ak _).2 ⟨hm,rfl⟩
 ·have hm:msgP (jw.mk 3 o.id o.account o.symbol o.side 0 0 0 z):=⟨b1,b2,b3,b4,hz,.inr (.inr ⟨rfl,rfl,rfl,rfl⟩)⟩
  rw[if_neg (by decide),if_neg (by decide),decide_eq_true hm]
  exact(ak _).2 ⟨hm,rfl⟩
theorem ZI:∀ {l:List jw} {a z y:Int} {m:jw},Gj l a z->a<=z->msgP m->z<m.lsn->m.lsn<=y->Gj (l++[m]) a y
 |[],a,z,y,m,_,ha,hm,h1,h2=>⟨hm,by omega,h2,trivial⟩
 |n::r,a,z,y,m,h,_,hm,h1,h2=>⟨h.1,h.2.1,by have:=h.2.2.1;omega,ZI h.2.2.2 h.2.2.1 hm h1 h2⟩
theorem WR (l:List jw) (hl:l.length<999999):jM l l=some true:=by
 refine Wq.eq ?_
 unfold jM
 rw[dD (by rw[aY,bF])]
 refine Wq.bind (QU (l:=l) (m:=l) rfl hl (step:=fun v:Int×Bool=>iR l l v.1 v.2) (fun i h hh q=> ?_) (fun q=> ?_) _) fun w hw=> ?_
 ·simp only[iR]
  rw[aI (by rw[eP];simpa using h),aI (inb _ i h),aI (inb _ i hh),bJ _ i h,dD (by simp [aj,band,ieq]),ak,dZ (by omega)]
  exact⟨fun _=>rfl,fun g=>absurd rfl g⟩
 ·simp only[iR]
  rw[dD (by rw[show((l.length:Nat):Int)=len l from rfl];simp [ilt])]
 ·match w,hw with
  |.inl b,h=>exact absurd rfl h.2
  |.inr _,_=>simp only[gK,ak]
theorem ad7 (f:kD) (hl:f.held.length<999999):qm f f=some true:=by
 refine Wq.eq ?_
 unfold qm
 rw[dD (by rw[dB,aY,aY,bF,dJ];exact⟨rfl,rfl⟩)]
 refine Wq.bind (QU (l:=f.held) (m:=f.held) rfl hl (step:=fun v:Int×Bool=>kP f f v.1 v.2) (fun i h hh q=> ?_) (fun q=> ?_) _) fun w hw=> ?_
 ·simp only[kP]
  rw[aI (by rw[eP];simpa using h),aI (inb _ i h),aI (inb _ i hh),bJ _ i h,dD (by simp [aj,band,ieq]),ak,dZ (by omega)]
  exact⟨fun _=>rfl,fun g=>absurd rfl g⟩
 ·simp only[kP]
  rw[dD (by rw[show((f.held.length:Nat):Int)=len f.held from rfl];simp [ilt])]
 ·match w,hw with
  |.inl b,h=>exact absurd rfl h.2
  |.inr _,_=>simp only[gK,ak]
theorem ajh (k:Int) (o:aG) (z:Int):∃m,o7 k o z=some m:=by
 unfold o7
 simp only[kM,kF,au,afT]
 by_cases h1:k=1<;>by_cases h2:k=2<;>simp only[h1,h2,if_true,if_false]<;>
  by_cases h3:sF o<;>simp [h3,cnd,aj,band,bor,au]<;>split<;>exact⟨_,rfl⟩
theorem afR {f:kD} {n:fE} {x:Int}:(lW f n x).1.held.length<=f.held.length+1/\(lW f n x).2.1.length<=f.held.length+1/\(∀m∈(lW f n x).1.held,m∈f.held\/m=n)/\(∀m∈(lW f n x).2.1,m∈f.held\/m=n):=by
 by_cases h0:(lW f n x).2.2=0
 ·have q:=ac5 h0
  refine⟨?_,?_,q.mem,q.mem2⟩
  ·unfold lW
   split
   ·simp
   split
   ·simp
   split
   ·simp
   split
   ·simp;omega
   split
   ·simp
   ·have h1:=List.length_filter_le (fun m:fE=>decide (m.seq<n.seq)) f.held
    simp only[List.length_append,List.length_cons]
    have:∀l:List fE,(l.filter fun m=>m.seq<n.seq).length+(l.filter fun m=>n.seq<m.seq).length<=l.length:=fun l=>by
     induction l with
     |nil=>simp
     |cons a r ih=>
      by_cases g1:a.seq<n.seq
      ·rw[List.filter_cons_of_pos (by simpa using g1),List.filter_cons_of_neg (by simp;omega)];simp;omega
      ·by_cases g2:n.seq<a.seq
       ·rw[List.filter_cons_of_neg (by simpa using g1),List.filter_cons_of_pos (by simpa using g2)];simp;omega
       ·rw[List.filter_cons_of_neg (by simpa using g1),List.filter_cons_of_neg (by simpa using g2)];simp;omega
    have:=this f.held
    omega
  ·unfold lW
   split
   ·simp
   split
   ·simp
   split
   ·simp
   split
   ·simp;omega
   split<;>simp
 ·have:(lW f n x)=(f,[],1):=by
   unfold lW at h0 ⊢
   split
   ·rfl
   ·rename_i g
    rw[if_neg g]at h0
    exfalso;apply h0
    split
    ·rfl
    split
    ·rfl
    split
    ·rfl
    split<;>rfl
  rw[this]
  exact⟨by simp,by simp,fun m hm=> .inl hm,fun m hm=>(by simp at hm)⟩
def NC (c:UInt8):Prop:=(97<=c.toNat/\c.toNat<=122)\/(48<=c.toNat/\c.toNat<=57)\/c.toNat=46
instance (c:UInt8):Decidable (NC c):=by unfold NC;infer_instance
def rY (s:List UInt8):Prop:=(∀c∈s,NC c)/\1<=s.length/\s.length<=16
instance (s:List UInt8):Decidable (rY s):=by unfold rY;infer_instance
theorem TB:∀(x y:List UInt8),slt x y=decide (x<y)
 |[],[]=>by simp [slt,Op.bytesLess]
 |_::_,[]=>by simp [slt,Op.bytesLess]
 |[],_::_=>by simp [slt,Op.bytesLess]
 |a::x,b::y=>by
  have ih:=TB x y
  unfold slt at*
  rw[Op.bytesLess,ih]
  simp only[List.cons_lt_cons_iff]
  by_cases h1:a<b<;>by_cases h2:a=b<;>by_cases h3:x<y<;>simp [h1,h2,h3]
theorem Tz (a:List UInt8):¬a<a:=List.lt_irrefl a
theorem U0 {a b c:List UInt8} (h:a<b) (k:b<c):a<c:=List.lt_trans h k
theorem ahE (a b:List UInt8):a<b\/a=b\/b<a:=by
 by_cases h:a<b
 ·exact .inl h
 ·by_cases k:b<a
  ·exact .inr (.inr k)
  ·exact .inr (.inl (List.le_antisymm (List.not_lt.1 k) (List.not_lt.1 h)))
theorem aix {n:Nat} (hn:n<999999) {step:Int×Bool->Option ((Int×Bool) ⊕ (Bool ⊕ Bool))} (P:Nat->Prop)
 (h:∀(i:Nat) (q:Bool),i<n->(∀j,j<i->P j)->Wq (step ((i:Int),q)) fun r=>match r with | .inl (k,_)=>k=((i+1:Nat):Int)/\P i | .inr (.inl b)=>b=false/\¬P i | .inr (.inr _)=>False)
 (he:∀q:Bool,Wq (step ((n:Int),q)) fun r=>match r with | .inr (.inr _)=>True | _=>False) (q0:Bool):
 Wq (bD step LF ((0:Int),q0)) fun w=>match w with | .inl b=>b=false/\¬∀i,i<n->P i | .inr _=>∀i,i<n->P i:=by
 refine nD (n:=n) hn (fun i _=>∀j,j<i->P j) _ (fun i q hi hj=>(h i q hi hj).mono fun r hr=> ?_) (fun q hj=>(he q).mono fun r hr=> ?_) q0 0 (Nat.zero_le _) (fun j hj=>by omega)
 ·match r,hr with
  |.inl (k,_),hr=>
   refine⟨hr.1,fun j hj2=> ?_⟩
   by_cases e:j=i
   ·subst e;exact hr.2
   ·exact hj j (by omega)
  |.inr (.inl b),hr=>exact⟨hr.1,fun g=>hr.2 (g i hi)⟩
  |.inr (.inr _),hr=>exact hr.elim
 ·match r,hr with
  |.inl _,hr=>exact hr.elim
  |.inr (.inl b),hr=>exact hr.elim
  |.inr (.inr _),_=>exact hj
theorem ae7 (l:List UInt8) (i:Nat) (h:i<l.length):abm l (itn (i:Int))=(l[i].toNat:Int):=by
 simp [abm,itn,h]
theorem MK {α:Type} (l:List α):ilt ((l.length:Nat):Int) (len l)=false:=by
 rw[show((l.length:Nat):Int)=len l from rfl];simp [ilt]
theorem aiG (c:UInt8):FD (c.toNat:Int)=some (decide (NC c)):=by
 refine Wq.dec ?_
 unfold FD NC
 rw[ak]
 simp only[bg,bP,dh,dB,bn,aY,dn,dG,bZ,dL,bF,bH,dJ,dO]
 omega
theorem Xz {s:List UInt8}:(∀i,i<s.length->∀h:i<s.length,NC s[i])↔∀c∈s,NC c:=by
 constructor
 ·intro h c hc
  obtain⟨i,hi,rfl⟩:=List.mem_iff_getElem.1 hc
  exact h i hi hi
 ·intro h i hi h2
  exact h _ (List.getElem_mem h2)
theorem acX {s:List UInt8} (hs:s.length<999999):yS s=some (decide (rY s)):=by
 refine Wq.dec ?_
 unfold yS
 refine Wq.bind (aix (n:=s.length) (step:=fun v:Int×Bool=>rM (len s) s v.1 v.2) hs (fun i=>∀h:i<s.length,NC s[i]) (fun i q hi hj=> ?_) (fun q=> ?_) false) fun w hw=> ?_
 ·simp only[rM]
  rw[aI (by rw[eP];simpa using hi),aI (inb s i hi),ae7 s i hi,aiG,au,jZ,CS]
  split
  ·rename_i h;rw[ak];exact⟨dZ (by omega),fun _=>h⟩
  ·rename_i h;rw[ak];exact⟨rfl,fun g=>h (g hi)⟩
 ·simp only[rM]
  rw[dD (MK s),ak];trivial
 ·unfold rY
  match w,hw with
  |.inl b,hw=>
   simp only[gK,ak]
   rw[hw.1]
   constructor
   ·intro g;cases g
   ·intro g;exact absurd (Xz.2 g.1) hw.2
  |.inr q,hw=>
   simp only[gK,ak,bg,bP,dh,dB,bn,aY,dn,dG,bZ,dL,bF,bH,dJ,dO,len]
   have:=Xz.1 hw
   constructor
   ·intro g;exact⟨this,by omega,by omega⟩
   ·intro g;omega
def okF (f:aB):Prop:=rY f.name/\0<=f.sure/\f.sure<=len f.data
instance (f:aB):Decidable (okF f):=by unfold okF;infer_instance
def jA (l:List aB):Nat:=(l.map (·.data.length)).sum
def Jy (l:List aB):Prop:=l.Pairwise fun f g=>f.name<g.name
instance (l:List aB):Decidable (Jy l):=by unfold Jy;infer_instance
def wJ (l:List aB):Prop:=(∀f∈l,okF f)/\Jy l
instance (l:List aB):Decidable (wJ l):=by unfold wJ;infer_instance
def jB (d:ax):Prop:=(0<=d.room/\d.room<=65536/\ -1<=d.fuse/\d.files.length<=64)/\wJ d.files/\(jA d.files:Int)<=d.room
instance (d:ax):Decidable (jB d):=by unfold jB;infer_instance
def nameB (d:ax):Prop:=∀f∈d.files,f.name.length<999999
theorem lZ {α:Type} {l:List α} {i:Nat} (h:i<l.length):l.take (i+1)=l.take i++[l[i]]:=by simp
theorem pq (a b:List aB):jA (a++b)=jA a+jA b:=by simp [jA]
theorem Ig (f:aB) (l:List aB):jA (f::l)=f.data.length+jA l:=by simp [jA]
theorem Il {l:List aB} {i:Nat} (h:i<l.length):jA (l.take (i+1))=jA (l.take i)+l[i].data.length:=by
 rw[lZ h,pq];simp [jA]
theorem O3 (l:List aB) (i:Nat):jA (l.take i)<=jA l:=by
 have:=pq (l.take i) (l.drop i)
 rw[List.take_append_drop]at this;omega
theorem qY (a b:List aB):wJ (a++b)↔wJ a/\wJ b/\∀f∈a,∀g∈b,f.name<g.name:=by
 unfold wJ Jy
 rw[List.pairwise_append]
 constructor
 ·rintro⟨h1,h2,h3,h4⟩
  exact⟨⟨fun f hf=>h1 f (List.mem_append_left _ hf),h2⟩,⟨fun f hf=>h1 f (List.mem_append_right _ hf),h3⟩,h4⟩
 ·rintro⟨⟨h1,h2⟩,⟨h3,h4⟩,h5⟩
  exact⟨fun f hf=>(List.mem_append.1 hf).elim (h1 f) (h3 f),h2,h4,h5⟩
theorem XR (f:aB):wJ [f]↔okF f:=by simp [wJ,Jy]
theorem abn {l:List aB} {i:Nat} (h:i<l.length):wJ (l.take (i+1))↔wJ (l.take i)/\okF l[i]/\(0<i->∀g:i - 1<l.length,l[i - 1].name<l[i].name):=by
 rw[lZ h,qY,XR]
 constructor
 ·rintro⟨h1,h2,h3⟩
  exact⟨h1,h2,fun hi g=>h3 _ (by rw[List.mem_iff_getElem];exact⟨i - 1,by rw[List.length_take];omega,by simp⟩) _ (List.mem_singleton.2 rfl)⟩
 ·rintro⟨h1,h2,h3⟩
  refine⟨h1,h2,fun f hf g hg=> ?_⟩
  rw[List.mem_singleton.1 hg]
  obtain⟨j,hj,rfl⟩:=List.mem_iff_getElem.1 hf
  rw[List.length_take]at hj
  rw[List.getElem_take]
  have h4:=h3 (by omega) (by omega)
  by_cases e:j=i - 1
  ·subst e;exact h4
  ·have:=List.pairwise_iff_getElem.1 h1.2 j (i - 1) (by rw[List.length_take];omega) (by rw[List.length_take];omega) (by omega)
   rw[List.getElem_take,List.getElem_take]at this
   exact U0 this h4
theorem ads {l:List aB} (h:wJ l) (i:Nat):wJ (l.take i):=by
 have:=(qY (l.take i) (l.drop i)).1 (by rw[List.take_append_drop];exact h)
 exact this.1
theorem Dl {d:ax} (hn:nameB d):lI d=some (decide (jB d)):=by
 refine Wq.dec ?_
 unfold lI
 rw[gJ]
 refine⟨fun h=>(ak _).2 ?_,fun h=> ?_⟩
 ·simp only[bg,bP,dh,dB,bn,aY,dn,dG,bZ,dL,bF,bH,dJ,dO,len]at h
  unfold jB
  constructor
  ·intro g;cases g
  ·rintro⟨g, -⟩;omega
 simp only[bg,bP,dh,dB,bn,aY,dn,dG,bZ,dL,bF,bH,dJ,dO,len]at h
 have hl:d.files.length<=64:=by omega
 refine Wq.bind (Q:=fun w=>match w with
  |.inl b=>b=false/\¬jB d
  |.inr _=>jB d)
  (nD (n:=d.files.length) (step:=fun v:Int×Int×Bool=>qp (len d.files) d.files d v.1 v.2.1 v.2.2) (by omega)
    (fun i x=>wJ (d.files.take i)/\x.1=d.room - (jA (d.files.take i):Int)/\0<=x.1) _ ?_ ?_ _ 0 (Nat.zero_le _) ⟨by simp [wJ,Jy],by simp [jA],by simp only;omega⟩) ?_
 ·rintro i ⟨room,q⟩ hi ⟨h1,h2,h3⟩
  simp only at h2 h3
  simp only[qp]
  rw[aI (by rw[eP];simpa using hi),aI (inb _ i hi),bJ _ i hi,acX (hn _ (List.getElem_mem hi)),au]
  have hu:=Il hi
  have hg:=abn hi
  have e1:0<i->wr .i64 (aA (i:Int) 1)=((i - 1:Nat):Int):=fun h0=>by
   rw[aA,dA (by omega) (by omega)];omega
  have hgd:bor (band (ile 0 (wr .i64 (aA (i:Int) 1))) (ilt (wr .i64 (aA (i:Int) 1)) (len d.files))) (aj (band (aj (aj (decide (rY d.files[i].name)))) (ilt 0 (i:Int))))=true:=by
   rw[dh]
   by_cases h0:0<i
   ·left;rw[e1 h0];exact inb _ _ (by omega)
   ·right;rw[bn,bP];right;exact BI (by omega)
  rw[aI hgd,gJ]
  have prev:(0<i->∀g:i - 1<d.files.length,d.files[i - 1].name<d.files[i].name)↔band (ilt 0 (i:Int)) (aj (slt (ah d.files (itn (wr .i64 (aA (i:Int) 1)))).name d.files[i].name))=false:=by
   by_cases h0:0<i
   ·rw[e1 h0,bJ _ _ (by omega:i - 1<d.files.length),TB,DZ (by omega),Ib,aY,decide_eq_true_iff]
    exact⟨fun g=>g h0 (by omega),fun g _ _=>g⟩
   ·rw[BI (by omega),VF];simp [h0]
  refine⟨fun hb=>(ak _).2 ⟨rfl,fun hd=> ?_⟩,fun hb=>(ak _).2 ?_⟩
  ·have g1:=(hg.1 (ads hd.2.1 (i+1)))
   have g2:=prev.1 g1.2.2
   have g3:=O3 d.files (i+1)
   have g4:=hd.2.2
   obtain⟨k1,k2,k3⟩:=g1.2.1
   rw[g2]at hb
   simp only[bg,bP,dh,dB,bn,aY,dn,dG,bZ,dL,bF,bH,dJ,dO,decide_eq_false_iff_not,len]at hb k3
   rcases hb with (((hb | hb) | hb) | hb) | hb
   ·exact hb k1
   ·cases hb
   ·omega
   ·omega
   ·omega
  ·simp only[dB,aY,decide_eq_true_iff]at hb
   obtain⟨⟨⟨⟨b1,b2⟩,b3⟩,b4⟩,b5⟩:=hb
   have b6:=prev.2 b2
   simp only[dG,len]at b3 b4 b5
   have e2:wr .i64 (aA room (len d.files[i].data))=room - (d.files[i].data.length:Int):=by
    rw[aA,dA (by simp only[len];omega) (by simp only[len];omega)];rfl
   refine⟨dZ (by omega),hg.2 ⟨h1,⟨b1,b3,b4⟩,b6⟩,?_,?_⟩
   ·simp only;rw[e2,hu];omega
   ·simp only;rw[e2];omega
 ·rintro⟨room,q⟩ ⟨h1,h2,h3⟩
  simp only[qp]
  rw[dD (MK _),ak]
  rw[List.take_length]at h1 h2
  simp only at h2 h3
  exact⟨by omega,h1,by omega⟩
 ·rintro(b | q) hw
  ·simp only[gK,ak];simp [hw.1,hw.2]
  ·simp only[gK,ak];simp [hw]
abbrev Nm:=List UInt8
def kV (l:List aB) (n:Nm):Option aB:=l.find? fun f=>decide (f.name=n)
def Gz (n:Nm) (l:List aB):List aB:=l.filter fun f=>decide (f.name≠n)
def qI (f:aB):List aB->List aB
 |[]=>[f]
 |g::r=>if g.name<f.name then g::qI f r else f::Gz f.name (g::r)
theorem AO {n:Nm} {l:List aB} (h:∀f∈l,f.name≠n):Gz n l=l:=by
 unfold Gz;rw[List.filter_eq_self];intro f hf;simpa using h f hf
theorem RI (n:Nm) (a b:List aB):Gz n (a++b)=Gz n a++Gz n b:=by simp [Gz]
theorem Lu (n:Nm) (f:aB) (b:List aB):Gz n (f::b)=if f.name=n then Gz n b else f::Gz n b:=by
 unfold Gz;rw[List.filter_cons];by_cases h:f.name=n<;>simp [h]
theorem XV {n:Nm} {l:List aB} (h:∀f∈l,f.name≠n):kV l n=none:=by
 unfold kV;rw[List.find?_eq_none];intro f hf;simpa using h f hf
theorem aay {n:Nm} {a:List aB} (h:∀f∈a,f.name≠n) (b:List aB):kV (a++b) n=kV b n:=by
 unfold kV;rw[List.find?_append]
 have:=XV h
 unfold kV at this
 rw[this];rfl
theorem vS (n:Nm) (f:aB) (b:List aB):kV (f::b) n=if f.name=n then some f else kV b n:=by
 unfold kV;rw[List.find?_cons];by_cases h:f.name=n<;>simp [h]
theorem Aa {n:Nm} {l:List aB} {f:aB} (h:kV l n=some f):f∈l/\f.name=n:=
 ⟨List.mem_of_find?_eq_some h,by simpa using List.find?_some h⟩
theorem Rj {a b:Nm} (h:a<b):a≠b:=fun e=>Tz _ (e▸h)
inductive kZ (n:Nm):List aB->Nat->Option aB->Prop
 |no (a b:List aB) (ha:∀f∈a,f.name<n) (hb:∀f∈b,n<f.name):kZ n (a++b) a.length none
 |yes (a:List aB) (f:aB) (b:List aB) (e:f.name=n) (ha:∀f∈a,f.name<n) (hb:∀f∈b,n<f.name):kZ n (a++f::b) a.length (some f)
theorem kZ.get {n:Nm} {l:List aB} {i:Nat} {o:Option aB} (h:kZ n l i o):kV l n=o:=by
 cases h with
 |no a b ha hb=>exact XV fun f hf=>(List.mem_append.1 hf).elim (fun h=>Rj (ha f h)) (fun h=>(Rj (hb f h)).symm)
 |yes a f b e ha hb=>rw[aay fun f h=>Rj (ha f h),vS,if_pos e]
theorem kZ.le {n:Nm} {l:List aB} {i:Nat} {o:Option aB} (h:kZ n l i o):i<=l.length:=by
 cases h<;>simp
theorem kZ.lt {n:Nm} {l:List aB} {i:Nat} {f:aB} (h:kZ n l i (some f)):∃g:i<l.length,l[i]=f/\f.name=n:=by
 cases h with
 |yes a f b e ha hb=>exact⟨by simp,by simp,e⟩
theorem uo {f:aB} {a:List aB} (ha:∀g∈a,g.name<f.name) (b:List aB):qI f (a++b)=a++qI f b:=by
 induction a with
 |nil=>rfl
 |cons g a ih=>
  rw[List.cons_append,qI,if_pos (ha g (List.mem_cons_self ..)),ih fun g hg=>ha g (List.mem_cons_of_mem _ hg)];rfl
theorem EL {f:aB} {b:List aB} (hb:∀g∈b,f.name<g.name):qI f b=f::b:=by
 cases b with
 |nil=>rfl
 |cons g b=>rw[qI,if_neg fun h=>Tz _ (U0 h (hb g (List.mem_cons_self ..))),AO fun g hg=>(Rj (hb g hg)).symm]
theorem TI {f g:aB} {b:List aB} (e:g.name=f.name) (hb:∀g∈b,f.name<g.name):qI f (g::b)=f::b:=by
 rw[qI,if_neg (e▸Tz _),Lu,if_pos e,AO fun g hg=>(Rj (hb g hg)).symm]
theorem kZ.ins {n:Nm} {l:List aB} {i:Nat} {f:aB} (h:kZ n l i none) (e:f.name=n):l.take i++f::l.drop i=qI f l:=by
 subst e
 cases h with
 |no a b ha hb=>rw[uo ha,EL hb];simp
theorem kZ.set {n:Nm} {l:List aB} {i:Nat} {f g:aB} (h:kZ n l i (some g)) (e:f.name=n):l.set i f=qI f l:=by
 subst e
 cases h with
 |yes a g b e ha hb=>rw[uo ha,TI e hb];simp
theorem kZ.del {n:Nm} {l:List aB} {i:Nat} {g:aB} (h:kZ n l i (some g)):l.eraseIdx i=Gz n l:=by
 cases h with
 |yes a g b e ha hb=>
  rw[RI,Lu,if_pos e,AO fun g hg=>Rj (ha g hg),AO fun g hg=>(Rj (hb g hg)).symm,List.eraseIdx_append_of_length_le (Nat.le_refl _)];simp
theorem YG {l:List aB} (h:Jy l) {i j:Nat} (hij:i<j) (hj:j<l.length):l[i].name<l[j].name:=
 List.pairwise_iff_getElem.1 h i j (by omega) hj hij
theorem adN {l:List aB} (h:Jy l) {n:Nm} {i:Nat} (hi:i<=l.length) (h1:∀(j:Nat) (h:j<l.length),j<i->l[j].name<n) (h2:∀(j:Nat) (h:j<l.length),i<=j->¬l[j].name<n):
 kZ n l i (if g:i<l.length then if l[i].name=n then some l[i]else none else none):=by
 have ha:∀f∈l.take i,f.name<n:=fun f hf=>by
  obtain⟨j,hj,rfl⟩:=List.mem_iff_getElem.1 hf
  rw[List.length_take]at hj
  rw[List.getElem_take]
  exact h1 j (by omega) (by omega)
 have hle:(l.take i).length=i:=by rw[List.length_take];omega
 by_cases g:i<l.length
 ·rw[dif_pos g]
  have hb:∀f∈l.drop (i+1),l[i].name<f.name:=fun f hf=>by
   obtain⟨j,hj,rfl⟩:=List.mem_iff_getElem.1 hf
   rw[List.length_drop]at hj
   rw[List.getElem_drop]
   exact YG h (by omega) (by omega)
  have e:l.take i++l[i]::l.drop (i+1)=l:=by rw[<-List.drop_eq_getElem_cons g,List.take_append_drop]
  by_cases k:l[i].name=n
  ·rw[if_pos k]
   have:=kZ.yes (l.take i) l[i] (l.drop (i+1)) k ha (k▸hb)
   rwa[e,hle]at this
  ·rw[if_neg k]
   have hlt:n<l[i].name:=by
    rcases ahE n l[i].name with c | c | c
    ·exact c
    ·exact absurd c.symm k
    ·exact absurd c (h2 i g (Nat.le_refl _))
   have:=kZ.no (l.take i) (l[i]::l.drop (i+1)) ha (fun f hf=>by
    rcases List.mem_cons.1 hf with c | c
    ·subst c;exact hlt
    ·exact U0 hlt (hb f c))
   rwa[e,hle]at this
 ·rw[dif_neg g]
  have:=kZ.no (l.take i) [] ha (by simp)
  rw[List.append_nil,hle,List.take_of_length_le (by omega)]at this
  exact this
theorem ado (n:Nat) (h:n<1000000000):wr .i64 (bQ .u64 (wr .u64 (wr .i64 (n:Int))) 1)=((n / 2:Nat):Int):=by
 have e1:wr .i64 (n:Int)=n:=dA (by omega) (by omega)
 have e2:wr .u64 (n:Int)=n:=by rw[zo];omega
 have e3:bQ .u64 (n:Int) 1=((n / 2:Nat):Int):=by
  unfold bQ
  simp [Int.shiftRight_eq_div_pow,IntKind.bits,IntKind.signed]
  exact Int.fdiv_eq_ediv_of_nonneg _ (by decide)
 rw[e1,e2,e3,dA (by omega) (by omega)]
theorem acy (a b:Nm):YR a b<0↔a<b:=by
 unfold YR
 rw[TB,CS]
 by_cases h:a<b
 ·simp [h]
 ·rw[if_neg h]
  cases seq a b<;>simp [cnd,h]
theorem acC (a b:Nm):YR a b=0↔a=b:=by
 unfold YR
 rw[TB,CS]
 by_cases h:a<b
 ·simp [h,Rj h]
 ·rw[if_neg h]
  by_cases k:a=b
  ·rw[aI (by rw[aic];exact k)];simp [k]
  ·rw[dD (by rw[ajG];exact k)];simp [k]
theorem Za {d:ax} {n:Nm} (ha:Jy d.files) (hl:d.files.length<=100000):
 Wq (dR d n) fun r=>∃(i:Nat) (o:Option aB),r.1=(i:Int)/\kZ n d.files i o/\r.2=o.isSome:=by
 unfold dR
 refine Wq.bind (Q:=fun w:Int=>∃i:Nat,w=(i:Int)/\i<=d.files.length/\(∀(j:Nat) (h:j<d.files.length),j<i->d.files[j].name<n)/\(∀(j:Nat) (h:j<d.files.length),i<=j->¬d.files[j].name<n))
  (Vo (step:=fun x:Int×Int=>eu d.files n x.1 x.2) (fun v=>(v.1 - v.2).toNat)
    (fun x=>∃lo hi:Nat,x=((hi:Int),(lo:Int))/\lo<=hi/\hi<=d.files.length/\(∀(j:Nat) (h:j<d.files.length),j<lo->d.files[j].name<n)/\(∀(j:Nat) (h:j<d.files.length),hi<=j->¬d.files[j].name<n)) _ ?_ LF _ (ZH (by simp only[len];omega)) ⟨0,d.files.length,rfl,Nat.zero_le _,Nat.le_refl _,fun j _ h=>by omega,fun j h1 h2=>by omega⟩) ?_
 ·rintro _ ⟨lo,hi,rfl,g1,g2,g3,g4⟩
  simp only[eu]
  rw[gJ]
  refine⟨fun h=> ?_,fun h=>(ak _).2 ?_⟩
  ·rw[dn]at h
   have e1:wr .i64 (bQ .u64 (wr .u64 (wr .i64 (ai (lo:Int) (hi:Int)))) 1)=(((lo+hi) / 2:Nat):Int):=by
    rw[<-ado (lo+hi) (by omega)];unfold ai;rw[Int.natCast_add]
   have hm:(lo+hi) / 2<d.files.length:=by omega
   rw[e1,aI (inb _ _ hm),bJ _ _ hm,oP,au,gJ,ak,ak]
   refine⟨fun h2=> ?_,fun h2=> ?_⟩
   ·rw[dn,acy]at h2
    refine⟨⟨(lo+hi) / 2+1,hi,by rw[dZ (by omega)],by omega,g2,fun j hj h3=> ?_,g4⟩,?_⟩
    ·rcases Nat.lt_or_ge j ((lo+hi) / 2)with h4 | h4
     ·exact U0 (YG ha h4 hm) h2
     ·have:j=(lo+hi) / 2:=by omega
      subst this;exact h2
    ·simp only;rw[dZ (by omega)];omega
   ·rw[dG]at h2
    have h2':¬d.files[(lo+hi) / 2].name<n:=by rw[<-acy];omega
    refine⟨⟨lo,(lo+hi) / 2,rfl,by omega,by omega,g3,fun j hj h3=> ?_⟩,?_⟩
    ·rcases Nat.lt_or_ge ((lo+hi) / 2) j with h4 | h4
     ·exact fun g=>h2' (U0 (YG ha h4 hj) g)
     ·have:j=(lo+hi) / 2:=by omega
      subst this;exact h2'
    ·simp only;omega
  ·rw[dG]at h
   have:lo=hi:=by omega
   subst this
   exact⟨lo,rfl,g2,g3,g4⟩
 rintro _ ⟨i,rfl,hi,g1,g2⟩
 have hs:=adN ha hi g1 g2
 by_cases hil:i<d.files.length
 ·have h1:ilt (i:Int) (len d.files)=true:=DZ (by simp only[len];omega)
  rw[aI (by rw[dh];exact .inl (inb _ i hil)),aI h1,bJ _ i hil,oP,au,ak]
  refine⟨i,_,rfl,hs,?_⟩
  rw[dif_pos hil,h1,Ib]
  by_cases k:d.files[i].name=n
  ·rw[if_pos k];show ieq _ 0=true;rw[bF,acC];exact k
  ·rw[if_neg k];show ieq _ 0=false;rw[bH,ne_eq,acC];exact k
 ·have h1:ilt (i:Int) (len d.files)=false:=BI (by simp only[len];omega)
  rw[aI (by rw[dh,bn];exact .inr h1),dD h1,ak]
  refine⟨i,_,rfl,hs,?_⟩
  rw[dif_neg hil,h1];rfl
def sD (d:ax) (ns:List Nm):Int:=if ¬jB d then 1 else if d.down=true then 9 else if ∀n∈ns,rY n then 0 else 1
def fJ (d:ax):ax×Bool:=if d.fuse=0 then (⟨d.files,d.room,d.fuse,true⟩,false)else if d.fuse= -1 then (d,true)else (⟨d.files,d.room,d.fuse - 1,d.down⟩,true)
def G7 (d:ax) (f:aB):ax:=⟨qI f d.files,d.room,d.fuse,d.down⟩
def aiH (d:ax) (n:Nm):ax:=⟨Gz n d.files,d.room,d.fuse,d.down⟩
theorem Ag {d:ax} {ns:List Nm}:sD d ns=0↔jB d/\d.down=false/\∀n∈ns,rY n:=by
 unfold sD
 by_cases h1:jB d
 ·cases h2:d.down
  ·by_cases h3:∀n∈ns,rY n
   ·simp [h1,h3]
   ·simp [h1,h3]
  ·simp [h1]
 ·simp [h1]
theorem Yx {d:ax} {ns:List Nm} (hn:nameB d) (hs:∀n∈ns,n.length<999999) (hl:ns.length<1000):iI d ns=some (sD d ns):=by
 refine Wq.eq ?_
 unfold iI sD
 rw[Dl hn,au,jZ,CS]
 by_cases hd:jB d
 case neg=>rw[if_neg hd,ak];simp [hd]
 rw[if_pos hd]
 cases hw:d.down
 case true=>rw[bI,ak];simp [hd]
 rw[aU]
 refine Wq.bind (Q:=fun w:Int ⊕ Int=>match w with
  |.inl k=>0<=k/\¬∀n∈ns,rY n
  |.inr _=>∀n∈ns,rY n)
  (nD (n:=ns.length) (step:=fun v:Int×Int=>dI (len ns) ns v.1 v.2) (by omega) (fun i x=>∀n∈ns.take i,rY n) _ ?_ ?_ _ 0 (Nat.zero_le _) (by simp)) ?_
 ·rintro i x hi hx
  simp only[dI]
  rw[aI (by rw[eP];simpa using hi),aI (inb _ i hi),bJ _ i hi,acX (hs _ (List.getElem_mem hi)),au,jZ,CS]
  split
  ·rename_i g
   refine(ak _).2 ⟨dZ (by omega),?_⟩
   rw[lZ hi]
   intro f hf
   rcases List.mem_append.1 hf with c | c
   ·exact hx f c
   ·rw[List.mem_singleton.1 c];exact g
  ·rename_i g
   exact(ak _).2 ⟨by omega,fun h=>g (h _ (List.getElem_mem hi))⟩
 ·rintro x hx
  simp only[dI]
  rw[dD (MK _),ak]
  rwa[List.take_length]at hx
 ·rintro(w | w) hw2
  ·simp only[gK]
   rw[aI (lm hw2.1),ak,if_neg (fun h=>h hd),if_neg (by simp),if_neg hw2.2]
  ·simp only[gK]
   rw[ak,if_neg (fun h=>h hd),if_neg (by simp),if_pos hw2]
theorem aiY {d:ax} (hl:d.files.length<999999) (hu:jA d.files<=10000000):BK d=some (jA d.files:Int):=by
 refine Wq.eq ?_
 unfold BK
 refine Wq.bind (nD (n:=d.files.length) (step:=fun v:Int×Int=>uQ (len d.files) d.files v.1 v.2) hl (fun i x=>x=(jA (d.files.take i):Int)) (fun w=>w=(jA d.files:Int)) ?_ ?_ 0 0 (Nat.zero_le _) (by simp [jA])) ?_
 ·rintro i x hi rfl
  simp only[uQ]
  rw[aI (by rw[eP];simpa using hi),aI (inb _ i hi),bJ _ i hi,ak]
  have h1:=Il hi
  have h2:=O3 d.files (i+1)
  refine⟨dZ (by omega),?_⟩
  rw[ai,dA (by simp only[len];omega) (by simp only[len];omega)]
  simp only[len];omega
 ·rintro x rfl
  simp only[uQ]
  rw[dD (MK _),ak,List.take_length]
 ·rintro w rfl
  exact(ak _).2 rfl
theorem afb (n:Nm) (l:List aB):(Gz n l).length<=l.length:=List.length_filter_le ..
theorem UZ {l:List aB} (h:l.length<1000000):aK l=some l:=by unfold aK;exact pV h
def adZ (p:ax×Bool):ax×Int:=(p.1,if p.2=true then 0 else 9)
def o9 (d:ax) (n:Nm) (b:List Int):ax×Int:=
 if sD d [n]≠0 then (d,sD d [n])else
 if d.room<(jA d.files:Int)+(b.length:Int)\/(kV d.files n=none/\64<=d.files.length)then (d,6)else
 adZ (fJ (G7 d ⟨n,((kV d.files n).getD ⟨n,[],0⟩).data++b,((kV d.files n).getD ⟨n,[],0⟩).sure⟩))
def BA (d:ax) (n:Nm):ax×Int:=
 if sD d [n]≠0 then (d,sD d [n])else
 match kV d.files n with
 |none=>(d,7)
 |some f=>if (fJ d).2=true then (G7 (fJ d).1 ⟨n,f.data,len f.data⟩,0)else ((fJ d).1,9)
def Ba (d:ax) (n:Nm):ax×Int:=
 if sD d [n]≠0 then (d,sD d [n])else
 match kV d.files n with
 |none=>(d,7)
 |some f=>if (fJ d).2=true then (aiH (fJ d).1 n,0)else ((fJ d).1,9)
structure SK (d:ax):Prop where
 nm:nameB d
 fu:inI d.fuse
theorem jB.fl {d:ax} (h:jB d):d.files.length<=64:=h.1.2.2.2
theorem jB.us {d:ax} (h:jB d):jA d.files<=65536:=by have:=h.2.2;have:=h.1;omega
theorem jB.asc {d:ax} (h:jB d):Jy d.files:=h.2.1.2
theorem jg (d:ax):(fJ d).1.files=d.files:=by unfold fJ;split<;>(try split)<;>rfl
theorem DJ (d:ax):(fJ d).1.room=d.room:=by unfold fJ;split<;>(try split)<;>rfl
theorem Tv {α:Type} (d:ax) (hf: -1<=d.fuse) (hf2:inI d.fuse) (x:α) (y:Int->Bool->α):
 cnd (ieq d.fuse 0) x (cnd (ieq d.fuse (-1)) (y d.fuse d.down) (y (wr .i64 (aA d.fuse 1)) d.down))=if (fJ d).2=true then y (fJ d).1.fuse (fJ d).1.down else x:=by
 rw[kM,kM]
 unfold fJ
 unfold inI at hf2
 by_cases h0:d.fuse=0
 ·simp [h0]
 by_cases h1:d.fuse= -1
 ·simp [h1]
 ·rw[if_neg h0,if_neg h1,if_neg h0,if_neg h1,if_pos rfl,Jo ⟨by simp only[aA];omega,by simp only[aA];omega⟩];rfl
theorem Tj {d:ax} (h:¬(fJ d).2=true):(fJ d).1=⟨d.files,d.room,d.fuse,true⟩:=by
 unfold fJ at h ⊢
 split
 ·rfl
 ·rename_i h0
  rw[if_neg h0]at h
  split at h<;>simp at h
theorem cut_out {α:Type} (l r:List α) (i:Nat) (h:i<l.length):
 (dY (dY l i (l.drop (i+1))) (i+(l.drop (i+1)).length) r).take (i+(l.drop (i+1)).length)=l.eraseIdx i:=by
 unfold dY
 have h1:(l.take i).length=i:=by rw[List.length_take];omega
 have e:(l.take i++(l.drop (i+1)++l.drop (i+(l.drop (i+1)).length))).take (i+(l.drop (i+1)).length)=l.take i++l.drop (i+1):=by
  rw[<-List.append_assoc,List.take_append_of_le_length (by rw[List.length_append,h1];exact Nat.le_refl _),List.take_of_length_le (by rw[List.length_append,h1];exact Nat.le_refl _)]
 rw[e,List.take_append_of_le_length (by rw[List.length_append,h1];exact Nat.le_refl _),List.take_of_length_le (by rw[List.length_append,h1];exact Nat.le_refl _),List.eraseIdx_eq_take_drop_succ]
theorem aeD {α:Type} (l:List α) (i:Nat) (h:i<l.length):ay (aF l (itn ((i+1:Nat):Int))) (itn (aA (len l) ((i+1:Nat):Int)))=l.drop (i+1):=by
 unfold ay aF aA
 rw[Fb]
 apply List.take_of_length_le
 rw[List.length_drop]
 simp only[itn,len];omega
theorem aga {α:Type} (l:List α) (i:Nat) (h:i<l.length):nad i (itn (len (l.drop (i+1))))=i+(l.drop (i+1)).length:=by simp [nad,itn,len]
theorem ad3 {α:Type} (l:List α) (i:Nat) (ys:List α) (h:i+ys.length<=l.length):(dY l i ys).length=l.length:=by
 unfold dY;simp only[List.length_append,List.length_take,List.length_drop];omega
theorem aeH (n:Nat):nad 0 n=n:=by simp [nad]
theorem ahs (n:Nat):itn (nti n)=n:=by simp [itn,nti]
theorem ae2 {l:List aB} {i:Nat} (h:i<l.length) (hl:l.length<999999):dK l (i:Int) ((i+1:Nat):Int)=some (l.eraseIdx i):=by
 unfold dK
 have hdl:(l.drop (i+1)).length=l.length - (i+1):=List.length_drop ..
 rw[aeD l i h,Fb,aga l i h,aeH,ahs]
 have hlc:=ad3 l i (l.drop (i+1)) (by omega)
 rw[aI (by simp only[bg,bZ,len];omega),kM,if_neg (by omega),aI (by simp only[bg,bZ,len];omega),aI (by simp only[bg,bZ,len];omega),aI (by simp only[ai,nti,bZ,len];omega),
  aI (by simp only[bg,bZ,len,aA,nti,hlc];omega)]
 congr 1
 exact cut_out l _ i h
theorem aav {l:List Md} (hl:l.length<1000) (hs:(l.flatMap (·.all)).length<1000000):jc l=some (l.flatMap (·.all)):=by
 have tk:∀ {i:Nat} (h:i<l.length),((l.take (i+1)).flatMap (·.all))=((l.take i).flatMap (·.all))++l[i].all:=fun h=>by
  rw[lZ h,List.flatMap_append];simp
 have le:∀i:Nat,((l.take i).flatMap (·.all)).length<=(l.flatMap (·.all)).length:=fun i=>by
  have:(l.flatMap (·.all))=((l.take i).flatMap (·.all))++((l.drop i).flatMap (·.all)):=by rw[<-List.flatMap_append,List.take_append_drop]
  rw[this,List.length_append];omega
 have loop2:∀x:List Int,x=[]->Wq (bD (fun v:Int×List Int=>iM (len l) l v.1 v.2) LF (0,x)) fun w=>w=l.flatMap (·.all):=by
  rintro _ rfl
  refine nD (n:=l.length) (by omega) (fun i x=>x=(l.take i).flatMap (·.all)) _ ?_ ?_ [] 0 (Nat.zero_le _) (by simp)
  ·rintro i x hi rfl
   simp only[iM]
   have:=le (i+1)
   rw[tk hi]at this
   rw[aI (by rw[eP];simpa using hi),aI (inb _ i hi),bJ _ i hi,aI (lm (by simp only[len,dm];omega)),ak]
   exact⟨dZ (by omega),(tk hi).symm⟩
  ·rintro x rfl
   simp only[iM]
   rw[dD (MK _),ak,List.take_length]
 refine Wq.eq ?_
 unfold jc
 refine Wq.bind (nD (n:=l.length) (step:=fun v:Int×Int=>jW (len l) l v.1 v.2) (by omega) (fun i x=>x=(((l.take i).flatMap (·.all)).length:Int)) (fun w=>w=((l.flatMap (·.all)).length:Int)) ?_ ?_ 0 0 (Nat.zero_le _) (by simp)) ?_
 ·rintro i x hi rfl
  simp only[jW]
  have h1:=le (i+1)
  rw[tk hi,List.length_append]at h1
  have e:wr .i64 (ai (((l.take i).flatMap (·.all)).length:Int) (len l[i].all))=(((l.take (i+1)).flatMap (·.all)).length:Int):=by
   rw[tk hi,List.length_append,ai,dA (by simp only[len];omega) (by simp only[len];omega)];simp only[len];omega
  rw[aI (by rw[eP];simpa using hi),aI (inb _ i hi),bJ _ i hi,e,dD (BI (by omega)),ak]
  exact⟨dZ (by omega),rfl⟩
 ·rintro x rfl
  simp only[jW]
  rw[dD (MK _),ak,List.take_length]
 ·rintro w rfl
  have e:wr .i64 (aA ((l.flatMap (·.all)).length:Int) 0)=((l.flatMap (·.all)).length:Int):=by rw[aA,dA (by omega) (by omega)];omega
  rw[dD (BI (by omega)),e,gJ]
  constructor
  ·intro h
   rw[dn]at h
   rw[aI (by simp only[bg,dn,bZ];omega),aI (lm (by simp only[len];omega))]
   exact(loop2 _ (by simp [ay])).bind fun a h=>(ak _).2 h
  ·intro h
   exact(loop2 _ rfl).bind fun a h=>(ak _).2 h
theorem aft {l:List aB} {i:Nat} {f:aB} (h:i<=l.length) (hl:l.length<999999):bG l (i:Int) [f]=some (l.take i++f::l.drop i):=by
 unfold bG
 simp only[]
 rw[aI (by simp only[bg,bZ,len,ai];omega),Fb];rfl
theorem ajP {i:Nat} (h:i<1000000):wr .i64 (ai (i:Int) 1)=((i+1:Nat):Int):=dZ h
theorem agh {α:Type} [Inhabited α] (l:List α) (i:Nat) (h:i<l.length):ah l i=l[i]:=by simp [ah,h]
theorem Un {P:Nm->Prop} {n:Nm} (h:P n):∀m∈[n],P m:=fun m hm=>by rw[List.mem_singleton.1 hm];exact h
theorem aeS {d:ax} {n:Nm} (h:SK d) (hn:n.length<999999):kE d n=some (Ba d n):=by
 refine Wq.eq ?_
 unfold kE Ba
 rw[Yx h.nm (Un hn) (by simp),au,jZ,kM,jZ,kM]
 by_cases h0:sD d [n]=0
 case neg=>rw[if_neg h0,if_neg h0,ak,if_pos h0]
 rw[if_pos h0,if_neg (fun g=>g h0)]
 obtain⟨hd,hw, -⟩:=Ag.1 h0
 refine(Za hd.asc (by have:=hd.fl;omega)).bind ?_
 rintro⟨k,b⟩ ⟨i,o,e1,e2,e3⟩
 simp only at e1 e3
 subst e1 e3
 have hg:=e2.get
 rw[hg]
 cases o with
 |none=>simp only[Option.isSome_none];rw[bC,bI,ak]
 |some f=>
  obtain⟨hi,-, -⟩:=e2.lt
  have hl:=hd.fl
  simp only[Option.isSome_some]
  rw[aS,aU,ajP (by omega)]
  simp only[UZ (show d.files.length<1000000 by omega),au,ae2 hi (by omega)]
  rw[Tv d hd.1.2.2.1 h.fu (some (ax.mk d.files d.room d.fuse true,(9:Int))) (fun a b=>some (ax.mk (d.files.eraseIdx i) d.room a b,(0:Int))),e2.del]
  by_cases hs:(fJ d).2=true
  ·rw[if_pos hs,ak,if_pos hs];unfold aiH;rw[jg,DJ]
  ·rw[if_neg hs,ak,if_neg hs,Tj hs]
theorem aiU {d:ax} {n:Nm} (h:SK d) (hn:n.length<999999):iU d n=some (BA d n):=by
 refine Wq.eq ?_
 unfold iU BA
 rw[Yx h.nm (Un hn) (by simp),au,jZ,kM,jZ,kM]
 by_cases h0:sD d [n]=0
 case neg=>rw[if_neg h0,if_neg h0,ak,if_pos h0]
 rw[if_pos h0,if_neg (fun g=>g h0)]
 obtain⟨hd,hw, -⟩:=Ag.1 h0
 refine(Za hd.asc (by have:=hd.fl;omega)).bind ?_
 rintro⟨k,b⟩ ⟨i,o,e1,e2,e3⟩
 simp only at e1 e3
 subst e1 e3
 have hg:=e2.get
 rw[hg]
 cases o with
 |none=>simp only[Option.isSome_none];rw[bC,bI,ak]
 |some f=>
  obtain⟨hi,hf,hfn⟩:=e2.lt
  have hl:=hd.fl
  simp only[Option.isSome_some]
  rw[aS,aU]
  simp only[UZ (show d.files.length<1000000 by omega),au,aI (inb d.files i hi),Fb,agh d.files i hi]
  rw[Tv d hd.1.2.2.1 h.fu (some (ax.mk d.files d.room d.fuse true,(9:Int))) (fun a b=>some (ax.mk (aZ d.files i (aB.mk d.files[i].name d.files[i].data (len d.files[i].data))) d.room a b,(0:Int))),hf]
  have e:=e2.set (f:=⟨n,f.data,len f.data⟩) rfl
  by_cases hs:(fJ d).2=true
  ·rw[if_pos hs,ak,if_pos hs];unfold G7 aZ;rw[jg,DJ,hfn,e]
  ·rw[if_neg hs,ak,if_neg hs,Tj hs]
theorem afz {d:ax} {n:Nm} {b:List Int} (h:SK d) (hn:n.length<999999) (hb:b.length<900000):iD d n b=some (o9 d n b):=by
 refine Wq.eq ?_
 unfold iD o9
 rw[Yx h.nm (Un hn) (by simp),au,jZ,kM]
 by_cases h0:sD d [n]=0
 case neg=>rw[if_neg h0,ak,if_pos h0]
 rw[if_pos h0,if_neg (fun g=>g h0)]
 obtain⟨hd,hw, -⟩:=Ag.1 h0
 have hl:=hd.fl
 have hu:=hd.us
 have hr:=hd.1
 refine(Za hd.asc (by omega)).bind ?_
 rintro⟨k,q⟩ ⟨i,o,e1,e2,e3⟩
 simp only at e1 e3
 subst e1 e3
 have hg:=e2.get
 rw[hg,aiY (by omega) (by omega),au]
 have e4:wr .i64 (aA d.room (jA d.files:Int))=d.room - (jA d.files:Int):=by rw[aA,Jo ⟨by omega,by omega⟩]
 have hcond:(bor (ilt (wr .i64 (aA d.room (jA d.files:Int))) (len b)) (band (aj o.isSome) (ieq (len d.files) 64))=true)↔(d.room<(jA d.files:Int)+(b.length:Int)\/(o=none/\64<=d.files.length)):=by
  rw[e4]
  simp only[bg,bP,dh,dB,bn,aY,dn,dG,bZ,dL,bF,bH,dJ,dO,len]
  cases o<;>simp<;>omega
 rw[gJ]
 refine⟨fun hc=>(ak _).2 ?_,fun hc=> ?_⟩
 ·rw[if_pos (hcond.1 hc)]
 rw[if_neg (fun g=>by rw[hcond.2 g]at hc;cases hc),UZ (by omega),au]
 have hnot:¬(d.room<(jA d.files:Int)+(b.length:Int)\/(o=none/\64<=d.files.length)):=fun g=>by rw[hcond.2 g]at hc;cases hc
 cases o with
 |none=>
  simp only[Option.isSome_none,Option.getD_none,List.nil_append]
  have hil:=e2.le
  rw[bC,bI,aft hil (by omega),au,e2.ins rfl]
  have e5:qI ⟨n,[],0⟩ d.files=d.files.take i++⟨n,[],0⟩::d.files.drop i:=(e2.ins (f:=⟨n,[],0⟩) rfl).symm
  have hlen:(d.files.take i).length=i:=by rw[List.length_take];omega
  have hi:i<(qI ⟨n,[],0⟩ d.files).length:=by rw[e5];simp;omega
  have hgt:(qI ⟨n,[],0⟩ d.files)[i]=⟨n,[],0⟩:=by
   simp only[e5]
   rw[List.getElem_append_right (by omega)]
   simp [hlen]
  have hst:aZ (qI ⟨n,[],0⟩ d.files) i ⟨n,b,0⟩=qI ⟨n,b,0⟩ d.files:=by
   rw[<-e2.ins (f:=⟨n,b,0⟩) rfl,e5]
   unfold aZ
   rw[List.set_append_right _ _ (by omega)]
   simp [hlen]
  rw[aI (inb _ i hi),bJ _ i hi,hgt,aav (by simp) (by simp only[List.flatMap_cons,List.flatMap_nil,List.append_nil,List.nil_append];omega),au,aI (inb _ i hi),Fb]
  simp only[List.flatMap_cons,List.flatMap_nil,List.nil_append,List.append_nil]
  have e6:ah (qI ⟨n,[],0⟩ d.files) i=⟨n,[],0⟩:=by rw[agh _ i hi,hgt]
  rw[hst,Tv d hd.1.2.2.1 h.fu (some (ax.mk (qI ⟨n,b,0⟩ d.files) d.room d.fuse true,(9:Int))) (fun x y=>some (ax.mk (qI ⟨n,b,0⟩ d.files) d.room x y,(0:Int)))]
  have sw:fJ (G7 d ⟨n,b,0⟩)=(⟨qI ⟨n,b,0⟩ d.files,d.room,(fJ d).1.fuse,(fJ d).1.down⟩,(fJ d).2):=by
   unfold fJ G7;split<;>(try split)<;>rfl
  rw[sw]
  unfold adZ
  simp only[]
  by_cases hs:(fJ d).2=true
  ·rw[if_pos hs,ak,if_pos hs]
  ·rw[if_neg hs,ak,if_neg hs,Tj hs]
 |some f=>
  simp only[Option.isSome_some,Option.getD_some]
  obtain⟨hi,hf,hfn⟩:=e2.lt
  have hus:=Il hi
  have hus2:=O3 d.files (i+1)
  rw[aS,aU,aI (inb _ i hi),bJ _ i hi,hf,aav (by simp) (by simp only[List.flatMap_cons,List.flatMap_nil,List.append_nil,List.length_append];rw[hf]at hus;omega),au,aI (inb _ i hi),Fb]
  simp only[List.flatMap_cons,List.flatMap_nil,List.append_nil]
  have e6:ah d.files i=f:=by rw[agh _ i hi,hf]
  have hst:aZ d.files i ⟨f.name,f.data++b,f.sure⟩=qI ⟨n,f.data++b,f.sure⟩ d.files:=by rw[hfn];exact e2.set rfl
  rw[hst,Tv d hd.1.2.2.1 h.fu (some (ax.mk (qI ⟨n,f.data++b,f.sure⟩ d.files) d.room d.fuse true,(9:Int))) (fun x y=>some (ax.mk (qI ⟨n,f.data++b,f.sure⟩ d.files) d.room x y,(0:Int)))]
  have sw:fJ (G7 d ⟨n,f.data++b,f.sure⟩)=(⟨qI ⟨n,f.data++b,f.sure⟩ d.files,d.room,(fJ d).1.fuse,(fJ d).1.down⟩,(fJ d).2):=by
   unfold fJ G7;split<;>(try split)<;>rfl
  rw[sw]
  unfold adZ
  simp only[]
  by_cases hs:(fJ d).2=true
  ·rw[if_pos hs,ak,if_pos hs]
  ·rw[if_neg hs,ak,if_neg hs,Tj hs]
theorem agS (a b:Int):eU a b=if b<a then b else a:=by
 unfold eU;rfl
end Go.Av
