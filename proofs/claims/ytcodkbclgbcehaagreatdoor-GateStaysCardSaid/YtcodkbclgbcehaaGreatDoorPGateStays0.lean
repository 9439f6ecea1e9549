/- The plain law, part 0. No condition. -/
import Derived.Test.YtcodkbclgbcehaaGreatDoorDGateStays
import Derived.KernelRfl
set_option linter.unusedVariables false
set_option linter.unusedSimpArgs false
set_option linter.unnecessarySimpa false
namespace Go.Av
open Go
theorem Zh {V W:Type} {step:V->Option (V ⊕ W)} (μ:V->Nat) (I:V->Prop) (R:W->Prop)
 (h:∀v,I v->(∃v',step v=some (.inl v')/\I v'/\μ v'<μ v)\/∃w,step v=some (.inr w)/\R w):∀(n:Nat) (v:V),μ v<n->I v->∃w,bM step n v=some w/\R w
 |0,v,hn,_=>by omega
 |n+1,v,hn,hI=>by
  rcases h v hI with ⟨v',h1,h2,h3⟩ | ⟨w,h1,h2⟩
  ·obtain⟨w,g1,g2⟩:=Zh μ I R h n v' (by omega) h2
   exact⟨w,by rw[bM,h1];exact g1,g2⟩
  ·exact⟨w,by rw[bM,h1];rfl,h2⟩
theorem adM {n:Nat} (h:n<1000000):n<LF:=Nat.lt_trans h (by decide)
theorem I9 {n:Int} (h:inI n):wr .i64 n=n:=by
 unfold inI at h
 unfold wr IntKind.wrap
 simp [IntKind.bits,IntKind.signed]
 omega
theorem al9 (n:Int):inI (wr .i64 n):=by
 unfold inI wr IntKind.wrap
 simp [IntKind.bits,IntKind.signed]
 omega
theorem aed {n:Int} (h1: -18446744073709551616<=n) (h2:n<=18446744073709551616):
 (inI n/\wr .i64 n=n)\/(9223372036854775807<n/\wr .i64 n=n - 18446744073709551616)\/(n< -9223372036854775808/\wr .i64 n=n+18446744073709551616):=by
 unfold inI wr IntKind.wrap
 simp [IntKind.bits,IntKind.signed]
 omega
theorem Ac (n:Int):wr .u64 n=n%18446744073709551616:=by
 unfold wr IntKind.wrap
 simp [IntKind.bits,IntKind.signed]
theorem bU {n:Int} (h1:0<=n) (h2:n<1000000000000):wr .i64 n=n:=I9 ⟨by omega,by omega⟩
theorem aH {α:Type} {b:Bool} {x y:α} (h:b=true):cnd b x y=x:=by subst h;rfl
theorem dH {α:Type} {b:Bool} {x y:α} (h:b=false):cnd b x y=y:=by subst h;rfl
theorem H9 {α:Type} (b:Bool) (x y:α):cnd b x y=if b=true then x else y:=by cases b<;>rfl
theorem fC {α:Type} (a b:Int) (x y:α):cnd (ieq a b) x y=if a=b then x else y:=by
 by_cases h:a=b
 ·rw[if_pos h,show ieq a b=true by simp [ieq,h]];rfl
 ·rw[if_neg h,show ieq a b=false by simp [ieq,h]];rfl
theorem G5 {α:Type} (a b:Int) (x y:α):cnd (ilt a b) x y=if a<b then x else y:=by
 by_cases h:a<b
 ·rw[if_pos h,show ilt a b=true by simp [ilt,h]];rfl
 ·rw[if_neg h,show ilt a b=false by simp [ilt,h]];rfl
theorem amW {α:Type} (a b:Int) (x y:α):cnd (ile a b) x y=if a<=b then x else y:=by
 by_cases h:a<=b
 ·rw[if_pos h,show ile a b=true by simp [ile,h]];rfl
 ·rw[if_neg h,show ile a b=false by simp [ile,h]];rfl
theorem gm {α:Type} (b:Bool) (x y:α):cnd (ax b) x y=cnd b y x:=by cases b<;>rfl
theorem zD {α:Type} (P:Prop) [Decidable P] (x y:α):cnd (decide P) x y=if P then x else y:=by
 by_cases h:P
 ·rw[if_pos h,decide_eq_true h];rfl
 ·rw[if_neg h,decide_eq_false h];rfl
instance (n:Int):Decidable (inI n):=by unfold inI;infer_instance
theorem ai {α β:Type} (a:α) (f:α->Option β):af (some a) f=f a:=rfl
theorem anl {α β:Type} (p:Prop) [Decidable p] (x y:Option α) (f:α->Option β):af (if p then x else y) f=if p then af x f else af y f:=by split<;>rfl
theorem Di {a b:Int} (h:a<b):ilt a b=true:=decide_eq_true h
theorem Bv {a b:Int} (h:¬a<b):ilt a b=false:=decide_eq_false h
theorem jG {a b:Int} (h:a<=b):ile a b=true:=decide_eq_true h
theorem KE {a b:Int} (h:¬a<=b):ile a b=false:=decide_eq_false h
theorem DV {a b:Bool} (h1:a=true) (h2:b=true):band a b=true:=by subst h1;subst h2;rfl
theorem bQ {α:Type} [Inhabited α] (l:List α) (i:Nat) (h:i<l.length):aj l (itn (i:Int))=l[i]:=by
 simp [aj,itn,h]
theorem inb {α:Type} (l:List α) (i:Nat) (h:i<l.length):band (ile 0 (i:Int)) (ilt (i:Int) (len l))=true:=DV (jG (by omega)) (Di (by simp only[len];omega))
theorem aZ (a b:Bool):(band a b=true)=(a=true/\b=true):=by cases a<;>cases b<;>simp [band]
theorem bV (a b:Bool):(band a b=false)=(a=false\/b=false):=by cases a<;>cases b<;>simp [band]
theorem dF (a b:Bool):(bor a b=true)=(a=true\/b=true):=by cases a<;>cases b<;>simp [bor]
theorem dL (a b:Bool):(bor a b=false)=(a=false/\b=false):=by cases a<;>cases b<;>simp [bor]
theorem bI (a:Bool):(ax a=true)=(a=false):=by cases a<;>simp [ax]
theorem bK (a:Bool):(ax a=false)=(a=true):=by cases a<;>simp [ax]
theorem dG (a b:Int):(ilt a b=true)=(a<b):=by simp [ilt]
theorem dK (a b:Int):(ilt a b=false)=(b<=a):=by simp [ilt]
theorem bY (a b:Int):(ile a b=true)=(a<=b):=by simp [ile]
theorem dQ (a b:Int):(ile a b=false)=(b<a):=by simp [ile]
theorem bD (a b:Int):(ieq a b=true)=(a=b):=by simp [ieq]
theorem bG (a b:Int):(ieq a b=false)=(a≠b):=by simp [ieq]
theorem dV (a b:Bool):(beq a b=true)=(a=b):=by simp [beq]
theorem dW (a b:Bool):(beq a b=false)=(a≠b):=by simp [beq]
theorem alb (a b:List UInt8):(seq a b=true)=(a=b):=by simp [seq]
theorem ali (a b:List UInt8):(seq a b=false)=(a≠b):=by simp [seq]
def Wq {α:Type} (o:Option α) (Q:α->Prop):Prop:=∃a,o=some a/\Q a
theorem ak {α:Type} {Q:α->Prop} (a:α):Wq (some a) Q↔Q a:=⟨fun⟨_,h,q⟩=>by cases h;exact q,fun h=>⟨a,rfl,h⟩⟩
theorem iH {α:Type} {Q:α->Prop} (c:Bool) (x y:Option α):Wq (cnd c x y) Q↔(c=true->Wq x Q)/\(c=false->Wq y Q):=by
 cases c<;>simp [cnd]
theorem qH {α β:Type} {Q:β->Prop} (o:Option α) (f:α->Option β):Wq (af o f) Q↔Wq o fun a=>Wq (f a) Q:=by
 cases o with
 |none=>simp [af,Wq]
 |some a=>simp [af,ak]
theorem Wq.mono {α:Type} {Q R:α->Prop} {o:Option α} (h:Wq o Q) (hq:∀a,Q a->R a):Wq o R:=by
 obtain⟨a,e,q⟩:=h
 exact⟨a,e,hq a q⟩
theorem Wq.bind {α β:Type} {Q:α->Prop} {R:β->Prop} {o:Option α} {f:α->Option β} (h:Wq o Q) (hq:∀a,Q a->Wq (f a) R):Wq (af o f) R:=(qH o f).2 (h.mono hq)
theorem Wq.eq {α:Type} {o:Option α} {a:α} (h:Wq o fun x=>x=a):o=some a:=by obtain⟨x,e,rfl⟩:=h;exact e
theorem Wq.dec {o:Option Bool} {P:Prop} [Decidable P] (h:Wq o fun b=>b=true↔P):o=some (decide P):=by
 obtain⟨b,e,q⟩:=h
 rw[e];congr 1
 cases b<;>simp_all
theorem WR {V W:Type} {step:V->Option (V ⊕ W)} (μ:V->Nat) (I:V->Prop) (R:W->Prop)
 (h:∀v,I v->Wq (step v) fun r=>match r with | .inl v'=>I v'/\μ v'<μ v | .inr w=>R w) (n:Nat) (v:V) (hn:μ v<n) (hi:I v):Wq (bM step n v) R:=
 Zh μ I R (fun v hv=>by
  obtain⟨r,e,q⟩:=h v hv
  match r,e,q with
  |.inl v',e,q=>exact .inl ⟨v',e,q.1,q.2⟩
  |.inr w,e,q=>exact .inr ⟨w,e,q⟩) n v hn hi
theorem eu {i:Nat} (h:i<1000000):wr .i64 (au (i:Int) 1)=((i+1:Nat):Int):=by
 unfold au
 rw[bU (by omega) (by omega)];omega
theorem ig {α:Type} (l:List α) (i:Nat):ilt (i:Int) (len l)=decide (i<l.length):=by
 simp [ilt,len]
theorem lZ {W X:Type} {step:Int×X->Option ((Int×X) ⊕ W)} {n:Nat} (hn:n<999999) (J:Nat->X->Prop) (R:W->Prop)
 (h:∀i x,i<n->J i x->Wq (step ((i:Int),x)) fun r=>match r with | .inl (k,x')=>k=((i+1:Nat):Int)/\J (i+1) x' | .inr w=>R w)
 (he:∀x,J n x->Wq (step ((n:Int),x)) fun r=>match r with | .inl _=>False | .inr w=>R w)
 (x:X) (i0:Nat) (hi0:i0<=n) (hx:J i0 x):Wq (bM step LF ((i0:Int),x)) R:=by
 refine WR (fun v:Int×X=>n - v.1.toNat) (fun v:Int×X=>∃i:Nat,v.1=(i:Int)/\i<=n/\J i v.2) R ?_ LF _ (adM (by simp only;omega)) ⟨i0,rfl,hi0,hx⟩
 rintro⟨k,y⟩ ⟨i,rfl,hi,hj⟩
 by_cases hlt:i<n
 ·refine(h i y hlt hj).mono fun r hr=> ?_
  match r,hr with
  |.inl (k,x'),hr=>
   obtain⟨rfl,h2⟩:=hr
   exact⟨⟨i+1,rfl,hlt,h2⟩,by simp only[Int.toNat_natCast];omega⟩
  |.inr w,hr=>exact hr
 ·obtain rfl:i=n:=by omega
  refine(he y hj).mono fun r hr=> ?_
  match r,hr with
  |.inl _,hr=>exact hr.elim
  |.inr w,hr=>exact hr
theorem oV {α:Type} {l:List α} (h:l.length<1000000):MG (len l) (fun y0=>cnd (beq y0 true) (some []) (cnd (ile (len l) 68719476736) (some l) none))=some l:=by
 unfold MG
 have hc:ile (len l) 68719476736=true:=jG (by simp only[len];omega)
 simp only[aH hc]
 by_cases h0:len l=0
 ·have:l=[]:=List.eq_nil_of_length_eq_zero (by simp only[len]at h0;omega)
  subst this
  simp [len,cnd,beq,ile]
 ·rw[if_neg h0]
  simp [cnd,beq]
theorem bH {α:Type} (x y:α):cnd true x y=x:=rfl
theorem aX {α:Type} (x y:α):cnd false x y=y:=rfl
theorem aU:ax true=false:=rfl
theorem bJ:ax false=true:=rfl
theorem IA (b:Bool):band true b=b:=rfl
theorem Po (b:Bool):band false b=false:=rfl
theorem vT (b:Bool):bor true b=true:=rfl
theorem iD (b:Bool):bor false b=b:=rfl
theorem oN:ieq 0 0=true:=rfl
theorem Aw:ieq 3 0=false:=rfl
theorem yx {α:Type} (l:List α) (i:Nat) (x:α):(aY l i x).length=l.length:=by simp [aY]
theorem uY (i:Nat):itn (i:Int)=i:=by simp [itn]
theorem nG {a b:Int} (ha:inI a) (hb:inI b):oL a b=some (if inI (a+b)then (a+b,0)else (0,3)):=by
 unfold inI at ha hb
 unfold oL au
 rcases aed (n:=a+b) (by omega) (by omega)with ⟨h,e⟩ | ⟨h,e⟩ | ⟨h,e⟩<;>rw[e,H9]<;>simp only[aZ,bV,dF,dL,bI,bK,dG,dK,bY,dQ,bD,bG,dV,dW]
 ·rw[if_pos h,if_neg]
  rintro⟨h1,h2⟩;unfold inI at h;exact h1 (decide_eq_decide.2 (by omega))
 ·rw[if_pos,if_neg (by unfold inI;omega)]
  exact⟨fun h1=>by have:=decide_eq_decide.1 h1;omega,by omega⟩
 ·rw[if_pos,if_neg (by unfold inI;omega)]
  exact⟨fun h1=>by have:=decide_eq_decide.1 h1;omega,by omega⟩
theorem EK {a b:Int} (ha:inI a) (hb:inI b):wY a b=some (if inI (a - b)then (a - b,0)else (0,3)):=by
 unfold inI at ha hb
 unfold wY aB
 rcases aed (n:=a - b) (by omega) (by omega)with ⟨h,e⟩ | ⟨h,e⟩ | ⟨h,e⟩<;>rw[e,H9]<;>simp only[aZ,bV,dF,dL,bI,bK,dG,dK,bY,dQ,bD,bG,dV,dW]
 ·rw[if_pos h,if_neg]
  rintro⟨h1,h2⟩;unfold inI at h;exact h1 (decide_eq_decide.2 (by omega))
 ·rw[if_pos,if_neg (by unfold inI;omega)]
  exact⟨fun h1=>by have:=decide_eq_decide.1 h1;omega,by omega⟩
 ·rw[if_pos,if_neg (by unfold inI;omega)]
  exact⟨fun h1=>by have:=decide_eq_decide.1 h1;omega,by omega⟩
theorem aao (a b:Int):IB a b=some (max a b):=by
 unfold IB imax
 congr 1
 by_cases h:b>a
 ·rw[if_pos h];omega
 ·rw[if_neg h];omega
theorem half (n:Int) (h1:0<=n) (h2:n<18446744073709551616):∃a b:Int,n=a*4294967296+b/\0<=a/\a<4294967296/\0<=b/\b<4294967296/\bP .u64 n 32=a/\wr .u64 (mW .u64 n 4294967295)=b:=by
 refine⟨n / 4294967296,n%4294967296,by omega,by omega,by omega,by omega,by omega,?_,?_⟩
 ·unfold bP
  have:min (Int.toNat 32) (IntKind.bits .u64)=32:=by decide
  rw[this,Int.fdiv_eq_ediv_of_nonneg _ (by decide)]
  rfl
 ·unfold mW
  rw[Ac]
  have e:(BitVec.ofInt (IntKind.bits .u64) n &&& BitVec.ofInt (IntKind.bits .u64) 4294967295).toNat=n.toNat%4294967296:=by
   rw[BitVec.toNat_and]
   have:(BitVec.ofInt (IntKind.bits .u64) 4294967295).toNat=2^32 - 1:=by decide
   rw[this,Nat.and_two_pow_sub_one_eq_mod]
   rw[BitVec.toNat_ofInt]
   congr 1
   have:(n%(2^(IntKind.bits .u64):Nat))=n:=Int.emod_eq_of_lt h1 (by simpa [IntKind.bits] using h2)
   rw[this]
  rw[e];omega
theorem ak5 {x y:Int} (hx:0<=x) (hx2:x<18446744073709551616) (hy:0<=y) (hy2:y<18446744073709551616):
 qo x y=some (x*y / 18446744073709551616,x*y%18446744073709551616):=by
 obtain⟨a,b,e1,a1,a2,b1,b2,s1,s2⟩:=half x hx hx2
 obtain⟨c,d,e2,c1,c2,d1,d2,t1,t2⟩:=half y hy hy2
 unfold qo
 rw[s1,s2,t1,t2]
 unfold gu au
 have m1:0<=a*c/\a*c<=4294967295*4294967295:=⟨Int.mul_nonneg a1 c1,Int.mul_le_mul (by omega) (by omega) c1 (by omega)⟩
 have m2:0<=a*d/\a*d<=4294967295*4294967295:=⟨Int.mul_nonneg a1 d1,Int.mul_le_mul (by omega) (by omega) d1 (by omega)⟩
 have m3:0<=b*c/\b*c<=4294967295*4294967295:=⟨Int.mul_nonneg b1 c1,Int.mul_le_mul (by omega) (by omega) c1 (by omega)⟩
 have m4:0<=b*d/\b*d<=4294967295*4294967295:=⟨Int.mul_nonneg b1 d1,Int.mul_le_mul (by omega) (by omega) d1 (by omega)⟩
 have mm:x*y=a*c*18446744073709551616+(a*d+b*c)*4294967296+b*d:=by
  subst e1 e2
  simp only[Int.add_mul,Int.mul_add]
  have q1:a*4294967296*(c*4294967296)=a*c*18446744073709551616:=by
   rw[Int.mul_assoc,Int.mul_left_comm 4294967296,<-Int.mul_assoc,<-Int.mul_assoc];omega
  have q2:a*4294967296*d=a*d*4294967296:=by rw[Int.mul_assoc,Int.mul_comm 4294967296,<-Int.mul_assoc]
  have q3:b*(c*4294967296)=b*c*4294967296:=by rw[<-Int.mul_assoc]
  rw[q1,q2,q3];omega
 rw[mm]
 generalize a*c=p at*
 generalize a*d=q at*
 generalize b*c=r at*
 generalize b*d=t at*
 have sh:∀n:Int,0<=n->n<18446744073709551616->bP .u64 n 32=n / 4294967296:=fun n h1 h2=>by
  obtain⟨u,v,h3,h4,h5,h6,h7,h8,_⟩:=half n h1 h2
  rw[h8];omega
 have la:∀n:Int,0<=n->n<18446744073709551616->wr .u64 (mW .u64 n 4294967295)=n%4294967296:=fun n h1 h2=>by
  obtain⟨u,v,h3,h4,h5,h6,h7,_,h8⟩:=half n h1 h2
  rw[h8];omega
 simp only[Ac p,Ac q,Ac r,Ac t]
 rw[Int.emod_eq_of_lt (a:=p) m1.1 (by omega),Int.emod_eq_of_lt (a:=q) m2.1 (by omega),Int.emod_eq_of_lt (a:=r) m3.1 (by omega),Int.emod_eq_of_lt (a:=t) m4.1 (by omega)]
 rw[sh t m4.1 (by omega)]
 rw[Ac (q+t / 4294967296),Int.emod_eq_of_lt (a:=q+t / 4294967296) (by omega) (by omega)]
 rw[sh (q+t / 4294967296) (by omega) (by omega),la (q+t / 4294967296) (by omega) (by omega)]
 rw[Ac (p+_),Int.emod_eq_of_lt (a:=p+(q+t / 4294967296) / 4294967296) (by omega) (by omega)]
 rw[Ac ((q+t / 4294967296)%4294967296+r),Int.emod_eq_of_lt (a:=(q+t / 4294967296)%4294967296+r) (by omega) (by omega)]
 rw[sh _ (by omega) (by omega)]
 rw[Ac,Ac]
 congr 2<;>omega
theorem Yw {a:Int} (ha:inI a):FT a=some (a.natAbs:Int):=by
 unfold inI at ha
 unfold FT aB
 rw[H9];simp only[dG,Ac]
 split
 ·congr 1;omega
 ·congr 1;omega
theorem ZK {a b:Int} (ha:inI a) (hb:inI b):Jg a b=some (if inI (a*b)then (a*b,0)else (0,3)):=by
 unfold Jg
 rw[Yw ha,Yw hb,ai,ai,ak5 (by omega) (by unfold inI at ha;omega) (by omega) (by unfold inI at hb;omega),ai]
 have hm:(a.natAbs:Int)*(b.natAbs:Int)=((a*b).natAbs:Int):=by rw[Int.natAbs_mul];rfl
 have hn:(a.natAbs:Int)*(b.natAbs:Int)<=9223372036854775808*9223372036854775808:=Int.mul_le_mul (by unfold inI at ha;omega) (by unfold inI at hb;omega) (by omega) (by omega)
 rw[hm]at hn ⊢
 have hs:(decide (a<0)=decide (b<0)->0<=a*b)/\(decide (a<0)≠decide (b<0)->a*b<=0):=by
  constructor
  ·intro h
   by_cases h1:a<0
   ·have h2:b<0:=by simpa [h1] using h
    exact Int.mul_nonneg_of_nonpos_of_nonpos (by omega) (by omega)
   ·have h2:¬b<0:=by simpa [h1] using h
    exact Int.mul_nonneg (by omega) (by omega)
  ·intro h
   by_cases h1:a<0
   ·have h2:¬b<0:=by simpa [h1] using h
    exact Int.mul_nonpos_of_nonpos_of_nonneg (by omega) (by omega)
   ·have h2:b<0:=by simpa [h1] using h
    exact Int.mul_nonpos_of_nonneg_of_nonpos (by omega) (by omega)
 generalize a*b=p at*
 simp only[H9,aZ,bV,dF,dL,bI,bK,dG,dK,bY,dQ,bD,bG,dV,dW,aB,Ac,ne_eq]
 unfold ilt at*
 by_cases hd:decide (a<0)=decide (b<0)
 ·have hp:=hs.1 hd
  rw[if_neg (fun h=>h.1.2 hd)]
  by_cases hr:p<=9223372036854775807
  ·rw[if_pos (by omega),if_pos ⟨by omega,by omega⟩,I9 ⟨by omega,by omega⟩]
   congr 2;omega
  ·rw[if_neg (by omega),if_neg (by unfold inI;omega)]
 ·have hp:=hs.2 hd
  by_cases hr: -9223372036854775808<=p
  ·rw[if_pos ⟨⟨by omega,hd⟩,by omega⟩,if_pos ⟨by omega,by omega⟩]
   congr 2
   rcases aed (n:=(0 - ((p.natAbs:Int)%18446744073709551616))%18446744073709551616) (by omega) (by omega)with ⟨h,e⟩ | ⟨h,e⟩ | ⟨h,e⟩<;>rw[e]<;>unfold inI at* <;>omega
  ·rw[if_neg (by omega),if_neg (by omega),if_neg (by unfold inI;omega)]
def sO (n:Int):Prop:=1<=n/\n<=1000000000000
def xH (r:jm):Prop:=
 (r.kind=1/\sO r.order/\(0<=r.account/\r.account<8)/\(0<=r.symbol/\r.symbol<8)/\(r.side=1\/r.side=2)/\1<=r.qty/\1<=r.price/\r.long=0/\r.short=0/\r.opn=0/\r.on=false/\r.seq=0/\r.what=0)\/
 (r.kind=2/\sO r.order/\r.account=0/\r.symbol=0/\r.side=0/\1<=r.qty/\1<=r.price/\r.long=0/\r.short=0/\r.opn=0/\r.on=false/\r.seq=0/\r.what=0)\/
 (r.kind=3/\sO r.order/\r.account=0/\r.symbol=0/\r.side=0/\r.qty=0/\r.price=0/\r.long=0/\r.short=0/\r.opn=0/\r.on=false/\r.seq=0/\r.what=0)\/
 (r.kind=4/\r.order=0/\(0<=r.account/\r.account<8)/\((r.symbol= -1/\r.long=0/\r.short=0)\/(0<=r.symbol/\r.symbol<8))/\r.side=0/\r.qty=0/\r.price=0/\0<=r.long/\0<=r.short/\0<=r.opn/\r.on=false/\r.seq=0/\r.what=0)\/
 (r.kind=5/\r.order=0/\r.account=0/\r.symbol=0/\r.side=0/\r.qty=0/\r.price=0/\r.long=0/\r.short=0/\r.opn=0/\r.seq=0/\r.what=0)\/
 (r.kind=6/\sO r.order/\r.account=0/\r.symbol=0/\r.side=0/\r.long=0/\r.short=0/\r.opn=0/\r.on=false/\(1<=r.seq/\r.seq<=1000000000)/\
   ((r.what=3/\1<=r.qty/\r.price=0)\/(r.what=5/\1<=r.qty/\1<=r.price)\/((r.what=1\/r.what=2\/r.what=4\/r.what=6)/\r.qty=0/\r.price=0)))
theorem aim (a b c:Int):(0<=fJ (fJ a b) c)↔0<=a/\0<=b/\0<=c:=by
 unfold fJ;split<;>split<;>omega
theorem abW (r:jm):Wq (GR r) fun b=>b=true↔sO r.order/\(1<=r.seq/\r.seq<=1000000000)/\
 ((r.what=3/\1<=r.qty/\r.price=0)\/(r.what=5/\1<=r.qty/\1<=r.price)\/((r.what=1\/r.what=2\/r.what=4\/r.what=6)/\r.qty=0/\r.price=0)):=by
 unfold GR mV oD
 by_cases h1:1<=r.seq/\r.seq<=1000000000
 ·rw[aH (b:=ax (bor (ilt r.seq 1) (ilt 1000000000 r.seq))) (by simp only[aZ,bV,dF,dL,bI,bK,dG,dK,bY,dQ,bD,bG,dV,dW];omega),ai]
  by_cases h2:sO r.order
  ·rw[show band (ile 1 r.order) (ile r.order 1000000000000)=true by simp only[aZ,bV,dF,dL,bI,bK,dG,dK,bY,dQ,bD,bG,dV,dW];exact h2,dH (by simp only[aZ,bV,dF,dL,bI,bK,dG,dK,bY,dQ,bD,bG,dV,dW];exact⟨by omega,trivial⟩)]
   by_cases k3:r.what=3
   ·rw[aH (by rw[bD];exact k3),ak];simp only[h1,h2,true_and,aZ,bV,dF,dL,bI,bK,dG,dK,bY,dQ,bD,bG,dV,dW];omega
   rw[dH (by rw[bG];exact k3)]
   by_cases k5:r.what=5
   ·rw[aH (by rw[bD];exact k5),ai,ak];simp only[h1,h2,true_and,aZ,bV,dF,dL,bI,bK,dG,dK,bY,dQ,bD,bG,dV,dW];omega
   rw[dH (by rw[bG];exact k5)]
   by_cases k1:r.what=1
   ·rw[aH (by rw[bD];exact k1),aH (by rw[bD];exact k1),ak];simp only[h1,h2,true_and,aZ,bV,dF,dL,bI,bK,dG,dK,bY,dQ,bD,bG,dV,dW];omega
   rw[dH (by rw[bG];exact k1)]
   by_cases k2:r.what=2
   ·rw[aH (by rw[bD];exact k2),aH (by rw[bD];exact k2),ak];simp only[h1,h2,true_and,aZ,bV,dF,dL,bI,bK,dG,dK,bY,dQ,bD,bG,dV,dW];omega
   rw[dH (by rw[bG];exact k2)]
   by_cases k4:r.what=4
   ·rw[aH (by rw[bD];exact k4),aH (by rw[bD];exact k4),ak];simp only[h1,h2,true_and,aZ,bV,dF,dL,bI,bK,dG,dK,bY,dQ,bD,bG,dV,dW];omega
   rw[dH (by rw[bG];exact k4)]
   by_cases k6:r.what=6
   ·rw[aH (by rw[bD];exact k6),ak];simp only[h1,h2,true_and,aZ,bV,dF,dL,bI,bK,dG,dK,bY,dQ,bD,bG,dV,dW];omega
   rw[dH (by rw[bG];exact k6),ak]
   simp only[h1,h2,true_and,Bool.false_eq_true,false_iff];omega
  ·rw[show band (ile 1 r.order) (ile r.order 1000000000000)=false by simp only[aZ,bV,dF,dL,bI,bK,dG,dK,bY,dQ,bD,bG,dV,dW];unfold sO at h2;omega,aH (by simp only[aZ,bV,dF,dL,bI,bK,dG,dK,bY,dQ,bD,bG,dV,dW,or_true]),ak]
   simp [h2]
 ·rw[dH (b:=ax (bor (ilt r.seq 1) (ilt 1000000000 r.seq))) (by simp only[aZ,bV,dF,dL,bI,bK,dG,dK,bY,dQ,bD,bG,dV,dW];omega),ai,aH (by simp only[aZ,bV,dF,dL,bI,bK,dG,dK,bY,dQ,bD,bG,dV,dW,or_true]),ak]
  simp [h1]
theorem vK (r:jm):Wq (ng r) fun b=>b=true↔xH r:=by
 unfold ng JS
 obtain⟨ev,he,hq⟩:=abW r
 by_cases k1:r.kind=1
 ·have e1:ieq r.kind 1=true:=by rw[bD];exact k1
  simp only[e1,bH,ai]
  simp only[qH,iH,ak,aZ,bV,dF,dL,bI,bK,dG,dK,bY,dQ,bD,bG,dV,dW,true_implies,ne_eq,not_true_eq_false,false_implies,and_true,true_and,or_self,reduceCtorEq,mV,oH,oD,xH,sO];grind
 have e1:ieq r.kind 1=false:=by rw[bG];exact k1
 by_cases k2:r.kind=2
 ·have e2:ieq r.kind 2=true:=by rw[bD];exact k2
  simp only[e1,e2,bH,aX,ai]
  simp only[qH,iH,ak,aZ,bV,dF,dL,bI,bK,dG,dK,bY,dQ,bD,bG,dV,dW,true_implies,ne_eq,not_true_eq_false,false_implies,and_true,true_and,or_self,reduceCtorEq,mV,oH,oD,xH,sO];grind
 have e2:ieq r.kind 2=false:=by rw[bG];exact k2
 by_cases k3:r.kind=3
 ·have e3:ieq r.kind 3=true:=by rw[bD];exact k3
  simp only[e1,e2,e3,bH,aX,ai]
  simp only[qH,iH,ak,aZ,bV,dF,dL,bI,bK,dG,dK,bY,dQ,bD,bG,dV,dW,true_implies,ne_eq,not_true_eq_false,false_implies,and_true,true_and,or_self,reduceCtorEq,mV,oH,oD,xH,sO];grind
 have e3:ieq r.kind 3=false:=by rw[bG];exact k3
 by_cases k4:r.kind=4
 ·have e4:ieq r.kind 4=true:=by rw[bD];exact k4
  simp only[e1,e2,e3,e4,bH,aX,ai]
  simp only[qH,iH,ak,aZ,bV,dF,dL,bI,bK,dG,dK,bY,dQ,bD,bG,dV,dW,true_implies,ne_eq,not_true_eq_false,false_implies,and_true,true_and,or_self,reduceCtorEq,mV,oH,oD,xH,sO,aim];grind
 have e4:ieq r.kind 4=false:=by rw[bG];exact k4
 by_cases k5:r.kind=5
 ·have e5:ieq r.kind 5=true:=by rw[bD];exact k5
  simp only[e1,e2,e3,e4,e5,bH,aX,ai]
  simp only[qH,iH,ak,aZ,bV,dF,dL,bI,bK,dG,dK,bY,dQ,bD,bG,dV,dW,true_implies,ne_eq,not_true_eq_false,false_implies,and_true,true_and,or_self,reduceCtorEq,mV,oH,oD,xH,sO];grind
 have e5:ieq r.kind 5=false:=by rw[bG];exact k5
 by_cases k6:r.kind=6
 ·have e6:ieq r.kind 6=true:=by rw[bD];exact k6
  simp only[e1,e2,e3,e4,e5,e6,bH,aX,ai,he]
  simp only[qH,iH,ak,aZ,bV,dF,dL,bI,bK,dG,dK,bY,dQ,bD,bG,dV,dW,true_implies,ne_eq,not_true_eq_false,false_implies,and_true,true_and,or_self,reduceCtorEq,xH,hq];grind
 have e6:ieq r.kind 6=false:=by rw[bG];exact k6
 simp only[e1,e2,e3,e4,e5,e6,bH,aX,ai]
 simp only[qH,iH,ak,aZ,bV,dF,dL,bI,bK,dG,dK,bY,dQ,bD,bG,dV,dW,true_implies,ne_eq,not_true_eq_false,false_implies,and_true,true_and,or_self,reduceCtorEq,xH];grind
def Qp (o:aG):Prop:=(1<=o.id/\o.id<=1000000000000)/\(0<=o.account/\o.account<8)/\(0<=o.symbol/\o.symbol<8)/\(o.side=1\/o.side=2)/\1<=o.qty/\1<=o.price
theorem YC (o:aG):Wq (CX o) fun b=>b=true↔Qp o:=by
 unfold CX
 rw[qH]
 refine(vK _).mono fun b hb=> ?_
 rw[ak,hb]
 simp [xH,Qp,sO]
def uQ (o:aG):Prop:=o.newQty≠0\/o.newPrice≠0
instance (o:aG):Decidable (uQ o):=by unfold uQ;infer_instance
instance (o:aG):Decidable (Qp o):=by unfold Qp;infer_instance
theorem KF (o:aG):Wq (je o) fun b=>b=true↔uQ o:=by
 unfold je
 simp only[ak,dF,bI,bG,uQ]
theorem Eb (o:aG):je o=some (decide (uQ o)):=(KF o).dec
def uy (o:aG):Prop:=Qp o/\0<=o.filled/\o.filled<=o.qty/\0<=o.version/\(uQ o->1<=o.newQty/\1<=o.newPrice)/\
 ((o.phase=1/\o.filled=0/\o.version=0/\¬uQ o)\/(o.phase=2/\o.filled<o.qty)\/(o.phase=3/\¬uQ o))
instance (o:aG):Decidable (uy o):=by unfold uy;infer_instance
theorem YW (o:aG):Wq (iJ o) fun b=>b=true↔uy o:=by
 unfold iJ
 rw[qH]
 refine(KF o).mono fun p hp=> ?_
 rw[qH]
 refine(YC o).mono fun b hb=> ?_
 unfold uy
 rw[<-hp,<-hb]
 have hm:(fJ o.newQty o.newPrice<1)↔¬(1<=o.newQty/\1<=o.newPrice):=by unfold fJ;split<;>omega
 simp only[qH,iH,ak,aZ,bV,dF,dL,bI,bK,dG,dK,bY,dQ,bD,bG,dV,dW,hm]
 cases p<;>cases b<;>simp<;>omega
theorem lu (o:aG):iJ o=some (decide (uy o)):=(YW o).dec
def lG (o:aG):Int:=if o.phase=3 then 0 else max o.qty o.newQty - o.filled
def jc (o:aG):Int:=if o.phase=3 then 0 else if o.newQty<=o.filled then (o.qty - o.filled)*o.price else max ((o.qty - o.filled)*o.price) ((o.newQty - o.filled)*o.newPrice)
theorem EI {o:aG} (h:uy o) (hr:iF o):0<=lG o/\lG o<=9223372036854775807:=by
 obtain⟨_,h1,h2,_⟩:=h
 have:=hr.qty.2;have:=hr.newQty.2
 unfold lG;split<;>omega
theorem afZ {o:aG} (h:uy o) (hn:o.filled<o.newQty):1<=o.newPrice:=by
 obtain⟨_,h1,h2,_,h4,_⟩:=h
 exact(h4 (.inl (by omega))).2
theorem EO {o:aG} (h:uy o):0<=jc o:=by
 have hp:=h.1.2.2.2.2.2
 have hf:=h.2.2.1
 unfold jc;split
 ·omega
 ·have m:0<=(o.qty - o.filled)*o.price:=Int.mul_nonneg (by omega) (by omega)
  split<;>omega
theorem RP {o:aG} (h:uy o) (hr:iF o):sG o=some (lG o):=by
 have hb:=EI h hr
 unfold sG
 rw[lu,ai,decide_eq_true h,aao,ai]
 unfold lG at*
 rw[aU,iD,fC]
 split
 ·rfl
 ·rename_i hp
  rw[if_neg hp]at hb
  unfold aB
  rw[I9 ⟨by omega,by omega⟩]
theorem OT {o:aG} (h:uy o) (hr:iF o):yA o=some (if jc o<=9223372036854775807 then (jc o,0)else (0,3)):=by
 have hp:=h.1.2.2.2.2.2
 have hf:=h.2.2.1
 have hf0:=h.2.1
 have rq:=hr.qty;have rp:=hr.price;have rf:=hr.filled;have rn:=hr.newQty;have rnp:=hr.newPrice
 unfold inI at rq rf rn
 unfold yA
 rw[lu,ai,decide_eq_true h,aU,aX,fC]
 unfold jc
 split
 ·rw[if_pos (by omega)]
 ·unfold aB
  rw[I9 ⟨by omega,by omega⟩,ZK ⟨by omega,by omega⟩ rp,ai]
  have m:0<=(o.qty - o.filled)*o.price:=Int.mul_nonneg (by omega) (by omega)
  generalize (o.qty - o.filled)*o.price=a at*
  rw[H9]
  simp only[aZ,bV,dF,dL,bI,bK,dG,dK,bY,dQ,bD,bG,dV,dW]
  by_cases hn:o.newQty<=o.filled
  ·rw[if_pos (.inr hn),if_pos hn]
   by_cases ha:a<=9223372036854775807
   ·rw[if_pos (c:=inI a) ⟨by omega,ha⟩,if_pos ha]
   ·rw[if_neg (c:=inI a) (by unfold inI;omega),if_neg ha]
  ·rw[if_neg hn]
   have hnp:=afZ h (by omega)
   rw[I9 ⟨by omega,by omega⟩,ZK ⟨by omega,by omega⟩ rnp,ai]
   have m2:0<=(o.newQty - o.filled)*o.newPrice:=Int.mul_nonneg (by omega) (by omega)
   generalize (o.newQty - o.filled)*o.newPrice=b at*
   by_cases ha:a<=9223372036854775807
   ·rw[if_pos (c:=inI a) ⟨by omega,ha⟩,if_neg (by simp only[ne_eq,not_true_eq_false,false_or];exact hn)]
    by_cases hb:b<=9223372036854775807
    ·rw[if_pos (c:=inI b) ⟨by omega,hb⟩]
     rw[dH (by simp [ax,ieq]),aao,ai,if_pos (by omega)]
    ·rw[if_neg (c:=inI b) (by unfold inI;omega)]
     rw[aH (by simp [ax,ieq]),if_neg (by omega)]
   ·rw[if_neg (c:=inI a) (by unfold inI;omega),if_pos (.inl (by decide)),if_neg (by omega)]
def okC (c:bC):Prop:=Gu c/\(0<=c.buy/\0<=c.sell/\0<=c.opn)/\inI (c.pos+c.buy)/\inI (c.sell - c.pos)
theorem Ho (c:bC):okC c↔(inI c.pos/\inI c.buy/\inI c.sell/\inI c.opn)/\(0<=c.buy/\0<=c.sell/\0<=c.opn)/\inI (c.pos+c.buy)/\inI (c.sell - c.pos):=
 ⟨fun⟨⟨a,b,c,d⟩,h⟩=>⟨⟨a,b,c,d⟩,h⟩,fun⟨⟨a,b,c,d⟩,h⟩=>⟨⟨a,b,c,d⟩,h⟩⟩
instance (c:bC):Decidable (okC c):=decidable_of_iff _ (Ho c).symm
theorem U8 {c:bC} (h:Gu c):Dk c=some (⟨if inI (c.pos+c.buy)then c.pos+c.buy else 0,if inI (c.sell - c.pos)then c.sell - c.pos else 0,c.opn⟩,decide (inI (c.pos+c.buy)/\inI (c.sell - c.pos))):=by
 unfold Dk
 rw[nG h.pos h.buy,ai,EK h.sell h.pos,ai]
 by_cases h1:inI (c.pos+c.buy)
 ·by_cases h2:inI (c.sell - c.pos)
  ·simp only[if_pos h1,if_pos h2,oN,IA,decide_eq_true (show _/\_ from⟨h1,h2⟩)]
  ·simp only[if_pos h1,if_neg h2,Aw,oN,IA,decide_eq_false (fun h:_/\_=>h2 h.2)]
 ·simp only[if_neg h1,Aw,Po,decide_eq_false (fun h:_/\_=>h1 h.1)]
  by_cases h2:inI (c.sell - c.pos)
  ·simp only[if_pos h2]
  ·simp only[if_neg h2]
theorem aa4 {c:bC} (h:Gu c):Wq (jd c) fun b=>b=true↔okC c:=by
 unfold jd
 rw[U8 h,ai,ak]
 simp only[aZ,bY,decide_eq_true_eq,okC]
 rw[aim]
 constructor
 ·rintro⟨a,b⟩;exact⟨h,b,a⟩
 ·rintro⟨_,b,a⟩;exact⟨a,b⟩
theorem lH {c:bC} (h:Gu c):jd c=some (decide (okC c)):=(aa4 h).dec
def ofC (c:bC):jL:=⟨c.pos+c.buy,c.sell - c.pos,c.opn⟩
theorem ZB {c:bC} (h:okC c):II c=some (ofC c,0):=by
 unfold II
 rw[lH h.1,ai,decide_eq_true h,aU,aX,U8 h.1,ai,if_pos h.2.2.1,if_pos h.2.2.2]
 rfl
def qE (c:bC) (o:aG):bC:=if o.side=2 then ⟨c.pos,c.buy,c.sell+lG o,c.opn+jc o⟩else ⟨c.pos,c.buy+lG o,c.sell,c.opn+jc o⟩
def qV (c:bC) (o:aG):bC:=if o.side=2 then ⟨c.pos,c.buy,c.sell - lG o,c.opn - jc o⟩else ⟨c.pos,c.buy - lG o,c.sell,c.opn - jc o⟩
theorem G7 {c:bC} {o:aG} (hc:okC c) (ho:uy o) (hr:iF o):kz c o=some (if okC (qE c o)then (qE c o,0)else (c,3)):=by
 have hO:=EI ho hr
 have hW:=EO ho
 obtain⟨hk,⟨n1,n2,n3⟩,r1,r2⟩:=id hc
 have ib:=hk.buy;have is':=hk.sell;have io:=hk.opn;have ip:=hk.pos
 unfold kz
 rw[lH hk,ai,decide_eq_true hc,lu,decide_eq_true ho,aU,bJ,bH,ai,aU,iD,aX,OT ho hr,RP ho hr,ai]
 simp only[ai]
 have oO:inI (lG o):=⟨by omega,by omega⟩
 by_cases hw:jc o<=9223372036854775807
 ·have oW:inI (jc o):=⟨by omega,hw⟩
  rw[if_pos hw]
  simp only[oN,aU,iD]
  by_cases hs:o.side=2
  ·rw[aH (by rw[bD];exact hs),nG is' oO,ai,nG io oW,ai]
   unfold qE;rw[if_pos hs]
   by_cases h1:c.sell+lG o<=9223372036854775807
   ·by_cases h2:c.opn+jc o<=9223372036854775807
    ·rw[if_pos ⟨by omega,h1⟩,if_pos ⟨by omega,h2⟩]
     simp only[oN,aU,iD,bJ,bH]
     rw[lH (c:=⟨c.pos,c.buy,c.sell+lG o,c.opn+jc o⟩) ⟨ip,ib,⟨by simp only;omega,h1⟩,⟨by simp only;omega,h2⟩⟩,ai,gm,zD]
     split<;>rfl
    ·rw[if_pos ⟨by omega,h1⟩,if_neg (by unfold inI;omega)]
     simp only[oN,Aw,aU,iD,bJ,bH,vT,aX,ai]
     rw[if_neg fun h=>h2 h.1.opn.2]
   ·rw[if_neg (by unfold inI;omega)]
    simp only[Aw,bJ,vT,aU,bH,aX,ai]
    rw[if_neg fun h=>h1 h.1.sell.2]
  ·rw[dH (by rw[bG];exact hs),nG ib oO,ai,nG io oW,ai]
   unfold qE;rw[if_neg hs]
   by_cases h1:c.buy+lG o<=9223372036854775807
   ·by_cases h2:c.opn+jc o<=9223372036854775807
    ·rw[if_pos ⟨by omega,h1⟩,if_pos ⟨by omega,h2⟩]
     simp only[oN,aU,iD,bJ,bH]
     rw[lH (c:=⟨c.pos,c.buy+lG o,c.sell,c.opn+jc o⟩) ⟨ip,⟨by simp only;omega,h1⟩,is',⟨by simp only;omega,h2⟩⟩,ai,gm,zD]
     split<;>rfl
    ·rw[if_pos ⟨by omega,h1⟩,if_neg (by unfold inI;omega)]
     simp only[oN,Aw,aU,iD,bJ,bH,vT,aX,ai]
     rw[if_neg fun h=>h2 h.1.opn.2]
   ·rw[if_neg (by unfold inI;omega)]
    simp only[Aw,bJ,vT,aU,bH,aX,ai]
    rw[if_neg fun h=>h1 h.1.buy.2]
 ·have hno:¬okC (qE c o):=fun h=>by
   have:=h.1.opn.2
   unfold qE at this
   split at this<;>simp only at this<;>omega
  rw[if_neg hw,if_neg hno]
  simp only[Aw,bJ,vT,aU,aX,ai,bH]
  by_cases hs:o.side=2
  ·rw[aH (by rw[bD];exact hs),nG is' oO,ai,nG io (by decide),ai]
  ·rw[dH (by rw[bG];exact hs),nG ib oO,ai,nG io (by decide),ai]
theorem Zx {c:bC} {o:aG} (hc:okC c) (ho:uy o) (hr:iF o) (hs:okC (qV c o)):Cb c o=some (qV c o,0):=by
 have hO:=EI ho hr
 have hW:=EO ho
 obtain⟨hk,⟨n1,n2,n3⟩,r1,r2⟩:=id hc
 have ib:=hk.buy;have is':=hk.sell;have io:=hk.opn;have ip:=hk.pos
 have oO:inI (lG o):=⟨by omega,by omega⟩
 have hw:jc o<=9223372036854775807:=by
  have h1:=hs.2.1.2.2
  have h2:=io.2
  have h3:(qV c o).opn=c.opn - jc o:=by unfold qV;split<;>rfl
  omega
 have oW:inI (jc o):=⟨by omega,hw⟩
 unfold Cb
 rw[lH hk,ai,decide_eq_true hc,lu,decide_eq_true ho,aU,bJ,bH,ai,aU,iD,aX,OT ho hr,RP ho hr,ai]
 simp only[ai]
 rw[if_pos hw]
 simp only[oN,aU,iD]
 unfold inI at ib is' io
 by_cases hd:o.side=2
 ·rw[aH (by rw[bD];exact hd),EK is' oO,ai,EK io oW,ai]
  unfold qV at hs ⊢; rw[if_pos hd]at hs ⊢
  rw[if_pos ⟨by omega,by omega⟩,if_pos ⟨by omega,by omega⟩]
  simp only[oN,aU,iD,bJ,bH]
  rw[lH hs.1,decide_eq_true hs,ai,aU,aX]
 ·rw[dH (by rw[bG];exact hd),EK ib oO,ai,EK io oW,ai]
  unfold qV at hs ⊢; rw[if_neg hd]at hs ⊢
  rw[if_pos ⟨by omega,by omega⟩,if_pos ⟨by omega,by omega⟩]
  simp only[oN,aU,iD,bJ,bH]
  rw[lH hs.1,decide_eq_true hs,ai,aU,aX]
theorem aeh {c:bC} {d q:Int} (hc:okC c) (hd:d=1\/d=2) (hq:0<=q) (rq:inI q) (hn:okC ⟨if d=1 then c.pos+q else c.pos - q,c.buy,c.sell,c.opn⟩):
 FI c d q=some (⟨if d=1 then c.pos+q else c.pos - q,c.buy,c.sell,c.opn⟩,0):=by
 unfold FI
 rw[lH hc.1,ai,decide_eq_true hc,aU,iD,dH (by simp only[aZ,bV,dF,dL,bI,bK,dG,dK,bY,dQ,bD,bG,dV,dW];omega)]
 have ip:=hc.1.pos
 have hp:=hn.1.pos
 simp only at hp
 by_cases h:d=1
 ·rw[aH (by rw[bD];exact h),nG ip rq,ai]
  simp only[if_pos h]at hn hp ⊢
  rw[if_pos hp]
  simp only[oN,aU,iD,bJ,bH]
  rw[lH hn.1,decide_eq_true hn,ai,aU,aX]
 ·rw[dH (by rw[bG];exact h),EK ip rq,ai]
  simp only[if_neg h]at hn hp ⊢
  rw[if_pos hp]
  simp only[oN,aU,iD,bJ,bH]
  rw[lH hn.1,decide_eq_true hn,ai,aU,aX]
def YJ (x:jL):Prop:=0<=x.long/\0<=x.short/\0<=x.opn
instance (x:jL):Decidable (YJ x):=by unfold YJ;infer_instance
theorem YN (x:jL):CY x=some (decide (YJ x)):=by
 refine Wq.dec ?_
 unfold CY YJ
 rw[ak,bY,aim]
def YO (was now cap:Int):Prop:=max was cap<now
instance (a b c:Int):Decidable (YO a b c):=by unfold YO;infer_instance
def FO (a b l:jL):Prop:=YO a.long b.long l.long\/YO a.short b.short l.short\/YO a.opn b.opn l.opn
instance (a b l:jL):Decidable (FO a b l):=by unfold FO;infer_instance
theorem Fq (a b c:Int):kP a b c=some (decide (YO a b c)):=by
 refine Wq.dec ?_
 unfold kP imax YO
 rw[ak,dG]
 split<;>omega
theorem Vp (a b l:jL):yS a b l=some (decide (FO a b l)):=by
 refine Wq.dec ?_
 unfold yS yu
 simp only[ai,Fq,iH,ak,decide_eq_true_eq,decide_eq_false_iff_not,FO]
 grind
theorem YQ (l:List Int) (i:Nat) (h:i<l.length):(l.take (i+1)).sum=(l.take i).sum+l[i]:=by
 rw[List.take_succ_eq_append_getElem h,List.sum_append];simp
theorem abC:∀ {l:List Int},(∀x∈l,0<=x)->0<=l.sum
 |[],_=>by simp
 |a::l,h=>by
  have:=abC (l:=l) fun x hx=>h x (by simp [hx])
  have:=h a (by simp)
  simp only[List.sum_cons];omega
theorem ab7 {l:List Int} (h:∀x∈l,0<=x) (i:Nat):(l.take i).sum<=l.sum:=by
 have e:l.sum=(l.take i).sum+(l.drop i).sum:=by rw[<-List.sum_append,List.take_append_drop]
 have:=abC (l:=l.drop i) fun x hx=>h x (List.mem_of_mem_drop hx)
 omega
def amM (l:List Int):Int×Int:=if l.sum<=9223372036854775807 then (l.sum,0)else (0,3)
theorem adP {l:List Int} (hl:l.length<999999) (h:∀x∈l,0<=x/\inI x):G8 l=some (amM l):=by
 refine Wq.eq ?_
 have hn:∀x∈l,0<=x:=fun x hx=>(h x hx).1
 unfold G8
 refine Wq.bind (Q:=fun w:(Int×Int) ⊕ (Int×Int×Int)=>match w with | .inl w=>w=(3,0)/\¬l.sum<=9223372036854775807 | .inr w=>w.1=l.sum/\l.sum<=9223372036854775807)
  (lZ (n:=l.length) (step:=fun v:Int×Int×Int×Int=>wo (len l) l v.1 v.2.1 v.2.2.1 v.2.2.2) (by omega)
    (fun i x=>x.1=(l.take i).sum/\x.1<=9223372036854775807) _ ?_ ?_ _ 0 (Nat.zero_le _) (by simp)) ?_
 ·rintro i ⟨a,b,c⟩ hi ⟨rfl,ha⟩
  simp only[wo]
  simp only at ha
  have ht:=abC (l:=l.take i) fun x hx=>hn x (List.mem_of_mem_take hx)
  have hx:=h l[i] (List.getElem_mem _)
  rw[aH (by rw[ig];simpa using hi),aH (inb l i hi),bQ l i hi,nG ⟨by omega,ha⟩ hx.2,ai,<-YQ l i hi]
  have:=ab7 hn (i+1)
  have h2:=abC (l:=l.take (i+1)) fun x hx=>hn x (List.mem_of_mem_take hx)
  by_cases hr:(l.take (i+1)).sum<=9223372036854775807
  ·rw[if_pos ⟨by omega,hr⟩]
   simp only[oN,aU,aX,ak]
   exact⟨eu (by omega),trivial,hr⟩
  ·rw[if_neg (by unfold inI;omega)]
   simp only[Aw,bJ,bH,ak]
   exact⟨trivial,by omega⟩
 ·rintro⟨a,b,c⟩ ⟨rfl,ha⟩
  simp only[wo]
  simp only at ha
  rw[dH (by rw[ig];simp),ak]
  rw[List.take_length]at*
  exact⟨rfl,ha⟩
 ·rintro w hw
  unfold amM
  cases w with
  |inl w=>obtain⟨rfl,h2⟩:=hw;simp only[jB,ak];rw[if_neg h2]
  |inr w=>obtain⟨h1,h2⟩:=hw;simp only[jB,ak];rw[if_pos h2,h1]
def pI (l:List bC):Int:=(l.map bC.opn).sum
theorem Ia {l:List bC} (hl:l.length<999999) (h:∀c∈l,0<=c.opn/\inI c.opn):um l=some (if pI l<=9223372036854775807 then (pI l,0)else (0,3)):=by
 refine Wq.eq ?_
 unfold um
 refine Wq.bind (Q:=fun w:List Int=>w=l.map bC.opn)
  (lZ (n:=l.length) (step:=fun v:Int×List Int=>rM (len l) l v.1 v.2) (by omega) (fun i x=>x=(l.take i).map bC.opn) _ ?_ ?_ _ 0 (Nat.zero_le _) (by simp)) ?_
 ·rintro i x hi rfl
  simp only[rM]
  rw[aH (by rw[ig];simpa using hi),aH (inb l i hi),aH (jG (by simp [dB,len];omega)),ak,bQ l i hi]
  exact⟨eu (by omega),by rw[List.take_succ_eq_append_getElem hi,List.map_append];rfl⟩
 ·rintro x rfl
  simp only[rM]
  rw[dH (by rw[ig];simp),ak,List.take_length]
 ·rintro w rfl
  rw[adP (by simpa using hl) (fun x hx=>by
   obtain⟨c,hc,rfl⟩:=List.mem_map.1 hx
   exact h c hc),ai,ak]
  rfl
theorem Qn {l:List Int} (hl:l.length<999999) (h0:l≠[]):Wq (l9 l) fun m=>0<=m↔∀x∈l,0<=x:=by
 have hp:0<l.length:=List.length_pos_iff.2 h0
 unfold l9
 rw[dH (Bv (by simp only[len];omega)),aH (Di (by simp only[len];omega))]
 refine Wq.bind (Q:=fun m=>0<=m↔∀x∈l,0<=x) (lZ (n:=l.length) (step:=fun v:Int×Int=>lI l v.1 v.2) (by omega) (fun i x=>0<=x↔∀y∈l.take i,0<=y) _ ?_ ?_ _ 1 hp ?_) ?_
 ·rintro i x hi hx
  simp only[lI]
  rw[aH (by rw[ig];simpa using hi),aH (inb l i hi),ak,bQ l i hi]
  refine⟨eu (by omega),?_⟩
  rw[List.take_succ_eq_append_getElem hi]
  simp only[List.mem_append,List.mem_singleton]
  unfold fJ
  constructor
  ·intro h y hy
   rcases hy with hy | rfl
   ·exact hx.1 (by split at h<;>omega) y hy
   ·split at h<;>omega
  ·intro h
   have h1:=hx.2 fun y hy=>h y (.inl hy)
   have h2:=h _ (.inr rfl)
   split<;>omega
 ·rintro x hx
  simp only[lI]
  rw[dH (by rw[ig];simp),ak]
  rwa[List.take_length]at hx
 ·cases l with
  |nil=>exact absurd rfl h0
  |cons a r=>simp [aj]
 ·exact fun w hw=>(ak _).2 hw
def yK (l:List aG) (n:Int):Option Nat:=l.findIdx? fun o=>o.id == n
def Pe (l:List aG) (n:Int):Int:=match yK l n with | some k=>k | none=> -1
theorem Hg (s:aC) (n:Int) (hl:s.orders.length<999999):mP s n=some (Pe s.orders n):=by
 refine Wq.eq ?_
 unfold mP
 refine Wq.bind (Q:=fun w:Int ⊕ Int=>match w with
  |.inl k=>∃i:Nat,k=i/\∃h:i<s.orders.length,s.orders[i].id=n/\∀j,(h:j<s.orders.length)->j<i->s.orders[j].id≠n
  |.inr _=>∀j,(h:j<s.orders.length)->s.orders[j].id≠n)
  (lZ (n:=s.orders.length) (step:=fun v:Int×Int=>dX (len s.orders) s.orders n v.1 v.2) (by omega) (fun i x=>∀j,(h:j<s.orders.length)->j<i->s.orders[j].id≠n) _ ?_ ?_ _ 0 (Nat.zero_le _) (fun j _ h=>by omega)) ?_
 ·rintro i x hi hx
  simp only[dX]
  rw[aH (by rw[ig];simpa using hi),aH (inb _ i hi),bQ _ i hi,iH]
  refine⟨fun he=>(ak _).2 ⟨i,rfl,hi,by simpa [ieq] using he,hx⟩,fun he=>(ak _).2 ⟨eu (by omega),fun j hj hji=> ?_⟩⟩
  by_cases e:j=i
  ·subst e;simpa [ieq] using he
  ·exact hx j hj (by omega)
 ·rintro x hx
  simp only[dX]
  rw[dH (by rw[ig];simp),ak]
  exact fun j hj=>hx j hj hj
 ·rintro w hw
  cases w with
  |inl k=>
   obtain⟨i,rfl,hi,h1,h2⟩:=hw
   have:yK s.orders n=some i:=by
    unfold yK
    rw[List.findIdx?_eq_some_iff_getElem]
    exact⟨hi,by simpa using h1,fun j hj=>by simpa using h2 j (by omega) hj⟩
   simp only[jB,ak,Pe,this]
  |inr k=>
   have:yK s.orders n=none:=by
    unfold yK
    rw[List.findIdx?_eq_none_iff]
    intro o ho
    obtain⟨j,hj,rfl⟩:=List.getElem_of_mem ho
    simpa using hw j hj
   simp only[jB,ak,Pe,this]
theorem nO {l:List aG} {n:Int} {k:Nat} (h:yK l n=some k):∃hk:k<l.length,l[k].id=n:=by
 unfold yK at h
 rw[List.findIdx?_eq_some_iff_getElem]at h
 obtain⟨hk,h1,_⟩:=h
 exact⟨hk,by simpa using h1⟩
theorem aeQ {l:List aG} {n:Int} (h:yK l n=none):∀o∈l,o.id≠n:=by
 unfold yK at h
 rw[List.findIdx?_eq_none_iff]at h
 intro o ho
 simpa using h o ho
theorem JJ {l:List aG} {n:Int} {k:Nat} (h:yK l n=some k):Pe l n=k:=by unfold Pe;rw[h]
theorem Qx {l:List aG} {n:Int} (h:yK l n=none):Pe l n= -1:=by unfold Pe;rw[h]
def sF (s:aC):Prop:=(1<=s.accounts/\s.accounts<=8)/\(1<=s.symbols/\s.symbols<=8)/\len s.cells=s.accounts*s.symbols/\len s.limits=len s.cells/\len s.caps=s.accounts/\s.orders.length<=64
instance (s:aC):Decidable (sF s):=by unfold sF;infer_instance
theorem IV {a b:Int} (h1:0<=a) (h2:a<=9) (h3:0<=b) (h4:b<=9):0<=a*b/\a*b<=81:=
 ⟨Int.mul_nonneg h1 h3,by have:=Int.mul_le_mul h2 h4 h3 (by omega);omega⟩
theorem OA (s:aC):Wq (qY s) fun b=>b=true↔sF s:=by
 unfold qY
 simp only[ak,aZ,bY,bD,sF]
 constructor
 ·rintro⟨⟨⟨⟨⟨⟨⟨a,b⟩,c⟩,d⟩,e⟩,f⟩,g⟩,h⟩
  have:=IV (a:=s.accounts) (b:=s.symbols) (by omega) (by omega) (by omega) (by omega)
  rw[show gu s.accounts s.symbols=s.accounts*s.symbols from rfl,bU this.1 (by omega)]at e
  exact⟨⟨a,b⟩,⟨c,d⟩,e,f,g,by simp only[len]at h;omega⟩
 ·rintro⟨⟨a,b⟩,⟨c,d⟩,e,f,g,h⟩
  have:=IV (a:=s.accounts) (b:=s.symbols) (by omega) (by omega) (by omega) (by omega)
  rw[show gu s.accounts s.symbols=s.accounts*s.symbols from rfl,bU this.1 (by omega)]
  exact⟨⟨⟨⟨⟨⟨⟨a,b⟩,c⟩,d⟩,e⟩,f⟩,g⟩,by simp only[len];omega⟩
theorem sF.lens {s:aC} (hs:sF s):s.cells.length<=64/\s.limits.length=s.cells.length/\s.caps.length=s.accounts.toNat/\s.orders.length<=64:=by
 obtain⟨⟨h1,h2⟩,⟨h3,h4⟩,h5,h6,h7,h8⟩:=hs
 have m:s.accounts*s.symbols<=8*8:=Int.mul_le_mul h2 h4 (by omega) (by omega)
 simp only[len]at h5 h6 h7
 exact⟨by omega,by omega,by omega,h8⟩
def atZ (n:Int) (o:aG):Int:=o.account*n+o.symbol
theorem LD {s:aC} (hs:sF s) (a y:Int) (ha:0<=a) (ha2:a<s.accounts) (hy:0<=y) (hy2:y<s.symbols):
 ∃k:Nat,bF s a y=some (k:Int)/\(k:Int)=a*s.symbols+y/\k<s.cells.length:=by
 obtain⟨⟨h1,h2⟩,⟨h3,h4⟩,h5,_⟩:=hs
 have m:=IV (a:=a) (b:=s.symbols) (by omega) (by omega) (by omega) (by omega)
 have l:(a+1)*s.symbols<=s.accounts*s.symbols:=Int.mul_le_mul_of_nonneg_right (by omega) (by omega)
 have e:(a+1)*s.symbols=a*s.symbols+s.symbols:=by rw[Int.add_mul,Int.one_mul]
 refine⟨(a*s.symbols+y).toNat,?_,by omega,by simp only[len]at h5;omega⟩
 unfold bF
 rw[show gu a s.symbols=a*s.symbols from rfl,bU m.1 (by omega),show au (a*s.symbols) y=a*s.symbols+y from rfl,bU (by omega) (by omega)]
 congr 1;omega
def rV (n:Int) (cs:List bC) (a:Int):List bC:=(cs.drop (a*n).toNat).take n.toNat
theorem Ug {s:aC} (hs:sF s) (a:Int) (ha:0<=a) (ha2:a<s.accounts):
 kD s a=some (rV s.symbols s.cells a):=by
 obtain⟨⟨h1,h2⟩,⟨h3,h4⟩,h5,_⟩:=hs
 have m:=IV (a:=a) (b:=s.symbols) (by omega) (by omega) (by omega) (by omega)
 have m2:=IV (a:=a+1) (b:=s.symbols) (by omega) (by omega) (by omega) (by omega)
 have l:(a+1)*s.symbols<=s.accounts*s.symbols:=Int.mul_le_mul_of_nonneg_right (by omega) (by omega)
 have e:(a+1)*s.symbols=a*s.symbols+s.symbols:=by rw[Int.add_mul,Int.one_mul]
 unfold kD
 rw[show gu a s.symbols=a*s.symbols from rfl,bU m.1 (by omega),show au a 1=a+1 from rfl,bU (n:=a+1) (by omega) (by omega),
  show gu (a+1) s.symbols=(a+1)*s.symbols from rfl,bU m2.1 (by omega)]
 rw[aH (by simp only[aZ,bY];omega)]
 rw[show aB ((a+1)*s.symbols) (a*s.symbols)=s.symbols from by unfold aB;omega]
 rfl
theorem Za {n:Int} {cs:List bC} {a:Int} {c:bC} (h:c∈rV n cs a):c∈cs:=List.mem_of_mem_drop (List.mem_of_mem_take h)
theorem UN {n:Int} {cs:List bC} {a:Int}:(rV n cs a).length<=cs.length:=by
 unfold rV;rw[List.length_take,List.length_drop];omega
def Es (s:aC) (o:aG):Prop:=uy o/\o.phase≠3/\o.account<s.accounts/\o.symbol<s.symbols
def JD (l:List aG):Prop:=l.Pairwise fun a b=>a.id<b.id
structure af8 (s:aC):Prop where
 ords:∀o∈s.orders,Es s o
 asc:JD s.orders
 ids:∀o∈s.orders,o.id<=s.last
 last:0<=s.last/\s.last<=1000000000000
 seq:0<=s.seq/\s.seq<=1000000000
 lsn:0<=s.lsn/\s.lsn<=1000000000
 lims:∀x∈s.limits,YJ x
 caps:∀x∈s.caps,0<=x
theorem Dc {α:Type} {l:List α} {i:Nat} (h:i<l.length) {x:α}:x∈l.take (i+1)↔x∈l.take i\/x=l[i]:=by
 rw[List.take_succ_eq_append_getElem h,List.mem_append,List.mem_singleton]
theorem al7 (s:aC) (hl:s.orders.length<999999) (h2:s.limits.length<999999) (h3:s.caps.length<999999) (h0:s.caps≠[]):
 Wq (tq s) fun b=>b=true↔af8 s:=by
 unfold tq
 refine Wq.bind (Q:=fun w:Bool ⊕ (Int×Bool)=>match w with
  |.inl b=>b=false/\¬((∀o∈s.orders,Es s o)/\JD s.orders)
  |.inr v=>(∀o∈s.orders,Es s o/\o.id<=v.1)/\JD s.orders/\(v.1=0\/∃o∈s.orders,o.id=v.1))
  (lZ (n:=s.orders.length) (step:=fun v:Int×Int×Bool=>lX (len s.orders) s.orders s v.1 v.2.1 v.2.2) (by omega)
    (fun i v=>(∀o∈s.orders.take i,Es s o/\o.id<=v.1)/\JD (s.orders.take i)/\(v.1=0\/∃o∈s.orders.take i,o.id=v.1)) _ ?_ ?_ _ 0 (Nat.zero_le _) (by simp [JD])) ?_
 ·rintro i ⟨x,q⟩ hi ⟨g1,g2,g3⟩
  simp only at g1 g2 g3
  simp only[lX]
  rw[aH (by rw[ig];simpa using hi),aH (inb _ i hi),bQ _ i hi,lu,ai]
  simp only[iH,ak,dF,dL,bI,bK,bD,bG,bY,dQ,decide_eq_true_eq,decide_eq_false_iff_not]
  refine⟨fun hb=>⟨trivial,fun⟨a1,a2⟩=> ?_⟩,fun hc=>⟨eu (by omega),fun o ho=> ?_,?_,.inr ⟨_,(Dc hi).2 (.inr rfl),rfl⟩⟩⟩
  ·obtain⟨b1,b2,b3,b4⟩:=a1 s.orders[i] (List.getElem_mem _)
   have hle:s.orders[i].id<=x:=by
    rcases hb with (((hb | hb) | hb) | hb) | hb
    ·exact absurd b1 hb
    ·exact absurd hb b2
    ·omega
    ·omega
    ·exact hb
   rcases g3 with g3 | ⟨o,ho,g3⟩
   ·have:=b1.1.1.1;omega
   ·obtain⟨j,hj,rfl⟩:=List.getElem_of_mem ho
    rw[List.length_take]at hj
    have:=List.pairwise_iff_getElem.1 a2 j i (by omega) hi (by omega)
    rw[List.getElem_take]at g3
    omega
  ·rcases(Dc hi).1 ho with ho | rfl
   ·have:=g1 o ho
    exact⟨this.1,by have:=this.2;omega⟩
   ·exact⟨⟨hc.1.1.1.1,hc.1.1.1.2,by omega,by omega⟩,Int.le_refl _⟩
  ·rw[List.take_succ_eq_append_getElem hi]
   unfold JD
   rw[List.pairwise_append]
   refine⟨g2,by simp,fun a ha b hb=> ?_⟩
   rw[List.mem_singleton]at hb
   subst hb
   have:=(g1 a ha).2
   omega
 ·rintro⟨x,q⟩ hx
  simp only[lX]
  rw[dH (by rw[ig];simp),ak]
  simp only[List.take_length]at hx
  exact hx
 ·rintro w hw
  cases w with
  |inl b=>
   obtain⟨rfl,hn⟩:=hw
   simp only[jB,ak]
   exact⟨fun h=>(by cases h),fun h=>absurd ⟨h.ords,h.asc⟩ hn⟩
  |inr v=>
   obtain⟨g1,g2,g3⟩:=hw
   have gl:v.1<=s.last/\0<=s.last↔(∀o∈s.orders,o.id<=s.last)/\0<=s.last:=by
    constructor
    ·rintro⟨a,b⟩;exact⟨fun o ho=>by have:=(g1 o ho).2;omega,b⟩
    ·rintro⟨a,b⟩
     refine⟨?_,b⟩
     rcases g3 with g3 | ⟨o,ho,g3⟩
     ·omega
     ·have:=a o ho;omega
   have hF:af8 s↔(v.1<=s.last/\s.last<=1000000000000/\0<=s.seq/\s.seq<=1000000000/\0<=s.lsn/\s.lsn<=1000000000)/\(∀x∈s.limits,YJ x)/\(∀x∈s.caps,0<=x)/\0<=s.last:=by
    constructor
    ·intro h
     have:=gl.2 ⟨h.ids,h.last.1⟩
     exact⟨⟨this.1,h.last.2,h.seq.1,h.seq.2,h.lsn.1,h.lsn.2⟩,h.lims,h.caps,h.last.1⟩
    ·rintro⟨⟨a1,a2,a3,a4,a5,a6⟩,b,c,d⟩
     exact⟨fun o ho=>(g1 o ho).1,g2,(gl.1 ⟨a1,d⟩).1,⟨d,a2⟩,⟨a3,a4⟩,⟨a5,a6⟩,b,c⟩
   rw[hF]
   obtain⟨m,hm,hmq⟩:=Qn h3 h0
   simp only[jB,hm,H9,anl,ai]
   simp only[aZ,bV,dF,dL,bI,bK,dG,dK,bY,dQ,bD,bG,dV,dW]
   by_cases hA:v.1<=s.last/\s.last<=1000000000000/\0<=s.seq/\s.seq<=1000000000/\0<=s.lsn/\s.lsn<=1000000000
   ·have hA':((((v.1<=s.last/\s.last<=1000000000000)/\0<=s.seq)/\s.seq<=1000000000)/\0<=s.lsn)/\s.lsn<=1000000000:=⟨⟨⟨⟨⟨hA.1,hA.2.1⟩,hA.2.2.1⟩,hA.2.2.2.1⟩,hA.2.2.2.2.1⟩,hA.2.2.2.2.2⟩
    rw[if_pos hA']
    refine Wq.bind (Q:=fun w:Int ⊕ Int=>match w with | .inl k=>0<=k/\¬∀x∈s.limits,YJ x | .inr _=>∀x∈s.limits,YJ x)
     (lZ (n:=s.limits.length) (step:=fun v:Int×Int=>cu (len s.limits) s.limits v.1 v.2) (by omega) (fun i _=>∀x∈s.limits.take i,YJ x) _ ?_ ?_ _ 0 (Nat.zero_le _) (by simp)) ?_
    ·rintro i x hi hx
     simp only[cu]
     rw[aH (by rw[ig];simpa using hi),aH (inb _ i hi),bQ _ i hi,YN,ai]
     simp only[iH,ak,bI,bK,decide_eq_true_eq,decide_eq_false_iff_not]
     refine⟨fun h=>⟨by omega,fun h2=>h (h2 _ (List.getElem_mem _))⟩,fun h=>⟨eu (by omega),fun x hx'=> ?_⟩⟩
     rcases(Dc hi).1 hx' with h5 | rfl
     ·exact hx x h5
     ·exact h
    ·rintro x hx
     simp only[cu]
     rw[dH (by rw[ig];simp),ak]
     rwa[List.take_length]at hx
    ·rintro w hw
     cases w with
     |inl k=>
      obtain⟨hk,hn⟩:=hw
      simp only
      rw[if_neg (fun h=>by omega),ak]
      simp only[aZ,bV,dF,dL,bI,bK,dG,dK,bY,dQ,bD,bG,dV,dW]
      constructor
      ·rintro⟨⟨⟨_,h⟩,_⟩,_⟩;omega
      ·rintro⟨_,h,_⟩;exact absurd h hn
     |inr k=>
      simp only
      rw[if_pos (.inl hA'),ak]
      simp only[aZ,bV,dF,dL,bI,bK,dG,dK,bY,dQ,bD,bG,dV,dW]
      constructor
      ·rintro⟨⟨_,h1⟩,h2⟩;exact⟨hA,hw,hmq.1 h1,h2⟩
      ·rintro⟨_,_,h1,h2⟩;exact⟨⟨.inl hA',hmq.2 h1⟩,h2⟩
   ·have hA':¬(((((v.1<=s.last/\s.last<=1000000000000)/\0<=s.seq)/\s.seq<=1000000000)/\0<=s.lsn)/\s.lsn<=1000000000):=by omega
    rw[if_neg hA',if_neg (by simpa using hA'),ak]
    simp only[aZ,bV,dF,dL,bI,bK,dG,dK,bY,dQ,bD,bG,dV,dW]
    constructor
    ·rintro⟨⟨h | h,_⟩,_⟩
     ·exact absurd h hA'
     ·cases h
    ·rintro⟨h,_⟩;exact absurd h hA
def nN (a b:bC):bC:=⟨a.pos+b.pos,a.buy+b.buy,a.sell+b.sell,a.opn+b.opn⟩
def zC:bC:=⟨0,0,0,0⟩
def wC (o:aG):bC:=if o.side=2 then ⟨0,0,lG o,jc o⟩else ⟨0,lG o,0,jc o⟩
def inC (n i:Int) (o:aG):bC:=if atZ n o=i then wC o else zC
def nM (n i:Int):List aG->bC
 |[]=>zC
 |o::r=>nN (inC n i o) (nM n i r)
theorem AP {a b:bC} (h1:a.pos=b.pos) (h2:a.buy=b.buy) (h3:a.sell=b.sell) (h4:a.opn=b.opn):a=b:=by
 cases a;cases b;simp_all
theorem LP (a:bC):nN a zC=a:=by apply AP<;>simp [nN,zC]
theorem amx (a:bC):nN zC a=a:=by apply AP<;>simp [nN,zC]
theorem ahu (a b:bC):nN a b=nN b a:=by apply AP<;>simp only[nN]<;>omega
theorem FP (a b c:bC):nN (nN a b) c=nN a (nN b c):=by apply AP<;>simp only[nN]<;>omega
theorem VF (c:bC) (o:aG):qE c o=nN c (wC o):=by unfold qE wC;split<;>simp [nN]
theorem wQ (n i:Int):∀(l m:List aG),nM n i (l++m)=nN (nM n i l) (nM n i m)
 |[],m=>(amx _).symm
 |o::l,m=>by
  rw[List.cons_append,nM,nM,wQ n i l m,FP]
theorem Yz (n i:Int) (o:aG):nM n i [o]=inC n i o:=LP _
theorem FX (n i:Int) (l:List aG) (k:Nat) (h:k<l.length):nM n i l=nN (nN (nM n i (l.take k)) (nM n i (l.drop (k+1)))) (inC n i l[k]):=by
 have e:l=l.take k++(l[k]::l.drop (k+1)):=by rw[<-List.drop_eq_getElem_cons h,List.take_append_drop]
 have:nM n i l=nM n i (l.take k++(l[k]::l.drop (k+1))):=by rw[<-e]
 rw[this,wQ,nM,FP,ahu (inC n i l[k])]
theorem Xe (n i:Int) (l:List aG) (k:Nat) (h:k<l.length) (p:aG):nM n i (l.set k p)=nN (nN (nM n i (l.take k)) (nM n i (l.drop (k+1)))) (inC n i p):=by
 have h1:(l.set k p).take k=l.take k:=List.take_set_of_le (Nat.le_refl _)
 have h2:(l.set k p).drop (k+1)=l.drop (k+1):=List.drop_set_of_lt (by omega)
 have h3:(l.set k p)[k]'(by simpa using h)=p:=List.getElem_set_self _
 rw[FX n i (l.set k p) k (by simpa using h),h1,h2,h3]
theorem Xu (n i:Int) (l:List aG) (k:Nat) (h:k<l.length):nM n i (l.eraseIdx k)=nN (nM n i (l.take k)) (nM n i (l.drop (k+1))):=by
 rw[List.eraseIdx_eq_take_drop_succ,wQ]
def nnC (c:bC):Prop:=c.pos=0/\0<=c.buy/\0<=c.sell/\0<=c.opn
theorem aiX {o:aG} (h:uy o) (hr:iF o):nnC (wC o):=by
 have:=EI h hr
 have:=EO h
 unfold wC nnC;split<;>simp<;>omega
theorem amy (n i:Int) {o:aG} (h:uy o) (hr:iF o):nnC (inC n i o):=by
 unfold inC;split
 ·exact aiX h hr
 ·simp [nnC,zC]
theorem abg {a b:bC} (h1:nnC a) (h2:nnC b):nnC (nN a b):=by
 unfold nnC nN at *; simp only;omega
theorem NJ (n i:Int):∀ {l:List aG},(∀o∈l,uy o/\iF o)->nnC (nM n i l)
 |[],_=>by simp [nM,nnC,zC]
 |o::l,h=>abg (amy n i (h o (by simp)).1 (h o (by simp)).2) (NJ n i fun x hx=>h x (by simp [hx]))
def Vu (c:bC):Prop:=c.buy<=9223372036854775807/\c.sell<=9223372036854775807/\c.opn<=9223372036854775807
theorem Wx {c:bC} (h:nnC c) (hf:Vu c):okC c:=by
 obtain⟨h0,h1,h2,h3⟩:=h
 obtain⟨f1,f2,f3⟩:=hf
 rw[Ho,h0]
 unfold inI
 omega
theorem aaj {c:bC} (h:okC c):Vu c:=⟨h.1.buy.2,h.1.sell.2,h.1.opn.2⟩
theorem aib {a b:bC} (hb:nnC b) (h:Vu (nN a b)):Vu a:=by
 unfold Vu nN nnC at *; simp only at *; omega
def fitAll (s:aC):Prop:=∀j:Nat,j<s.cells.length->Vu (nM s.symbols j s.orders)
theorem Y4 {α:Type} (l:List α) (k:Nat) (x:α) (j:Nat) (h:j<(aY l (itn (k:Int)) x).length):(aY l (itn (k:Int)) x)[j]=if k=j then x else l[j]'(by simpa [aY] using h):=by
 simp [aY,itn,List.getElem_set]
theorem ajj {s:aC} (hs:sF s) (hk:∀o∈s.orders,Es s o/\iF o):
 Wq (qA s) fun r=>(r.2=true↔fitAll s)/\(r.2=true->r.1.length=s.cells.length/\∀(j:Nat) (h:j<r.1.length),r.1[j]=nM s.symbols j s.orders):=by
 obtain⟨hc,_,_,hol⟩:=hs.lens
 unfold qA
 rw[aH (by simp only[aZ,bY,len];omega)]
 refine Wq.bind (Q:=fun w:(Bool×List bC×List bC) ⊕ (Bool×List bC×List bC)=>match w with
  |.inl b=>b.1=false/\¬fitAll s
  |.inr b=>b.2.2.length=s.cells.length/\∀(j:Nat) (h:j<b.2.2.length),b.2.2[j]=nM s.symbols j s.orders/\Vu b.2.2[j])
  (lZ (n:=s.orders.length) (step:=fun v:Int×Bool×List bC×List bC=>kY (len s.orders) s.orders s v.1 v.2.1 v.2.2.1 v.2.2.2) (by omega)
    (fun i x=>x.2.2.length=s.cells.length/\∀(j:Nat) (h:j<x.2.2.length),x.2.2[j]=nM s.symbols j (s.orders.take i)/\Vu x.2.2[j]) _ ?_ ?_ _ 0 (Nat.zero_le _) ?_) ?_
 ·rintro i ⟨q,x,y⟩ hi ⟨hx,hy⟩
  simp only at hx hy
  simp only[kY]
  have hmem:=hk s.orders[i] (List.getElem_mem _)
  obtain⟨⟨ho,ho3,g1,g2⟩,hor⟩:=id hmem
  obtain⟨⟨_,hb1,hb2,_⟩,_⟩:=id ho
  obtain⟨k,k1,k2,k3⟩:=LD hs s.orders[i].account s.orders[i].symbol hb1.1 g1 hb2.1 g2
  have hky:k<y.length:=by omega
  have hnn:nnC y[k]:=by
   rw[(hy k hky).1]
   exact NJ _ _ fun o h=>⟨(hk o (List.mem_of_mem_take h)).1.1,(hk o (List.mem_of_mem_take h)).2⟩
  have hok:okC y[k]:=Wx hnn (hy k hky).2
  have hnew:nnC (qE y[k] s.orders[i]):=by rw[VF];exact abg hnn (aiX ho hor)
  have hsum:∀j:Nat,nM s.symbols j (s.orders.take (i+1))=nN (nM s.symbols j (s.orders.take i)) (inC s.symbols j s.orders[i]):=fun j=>by
   rw[List.take_succ_eq_append_getElem hi,wQ,Yz]
  have hat:atZ s.symbols s.orders[i]=(k:Int):=k2.symm
  have hkk:qE y[k] s.orders[i]=nM s.symbols k (s.orders.take (i+1)):=by
   rw[hsum,VF,(hy k hky).1]
   unfold inC;rw[if_pos hat]
  rw[aH (by rw[ig];simpa using hi),aH (inb _ i hi),bQ _ i hi,k1,ai,aH (inb y k hky),bQ y k hky,G7 hok ho hor,ai]
  by_cases hf:okC (qE y[k] s.orders[i])
  ·rw[if_pos hf]
   simp only[oN,aU,aX]
   rw[aH (inb y k hky),ak]
   refine⟨eu (by omega),(yx _ _ _).trans hx,fun j hj=> ?_⟩
   have hj':j<y.length:=by simpa [aY] using hj
   show(aY y (itn (k:Int)) (qE y[k] s.orders[i]))[j]'hj=_/\Vu ((aY y (itn (k:Int)) (qE y[k] s.orders[i]))[j]'hj)
   rw[Y4]
   split
   ·rename_i e;subst e
    exact⟨hkk,aaj hf⟩
   ·rename_i e
    rw[hsum j]
    unfold inC
    rw[if_neg (by omega),LP]
    exact hy j hj'
  ·rw[if_neg hf]
   simp only[Aw,bJ,bH]
   rw[ak]
   refine⟨rfl,fun hall=>hf (Wx hnew ?_)⟩
   rw[hkk]
   have e:nM s.symbols k s.orders=nN (nM s.symbols k (s.orders.take (i+1))) (nM s.symbols k (s.orders.drop (i+1))):=by
    rw[<-wQ,List.take_append_drop]
   have:=hall k k3
   rw[e]at this
   exact aib (NJ _ _ fun o h=>⟨(hk o (List.mem_of_mem_drop h)).1.1,(hk o (List.mem_of_mem_drop h)).2⟩) this
 ·rintro⟨q,x,y⟩ hx
  simp only[kY]
  rw[dH (by rw[ig];simp),ak]
  simp only[List.take_length]at hx
  exact hx
 ·simp only[List.take_zero,nM]
  refine⟨by simp [jY,itn,len],fun j hj=> ?_⟩
  simp only[jY,List.getElem_replicate]
  exact⟨rfl,by simp only[Vu];decide⟩
 ·rintro w hw
  cases w with
  |inl b=>
   obtain⟨h1,h2⟩:=hw
   simp only[jB,ak,h1]
   exact⟨⟨fun h=>(by cases h),fun h=>absurd h h2⟩,fun h=>by cases h⟩
  |inr b=>
   obtain⟨h1,h2⟩:=hw
   simp only[jB,ak]
   refine⟨⟨fun _ j hj=> ?_,fun _=>trivial⟩,fun _=>⟨h1,fun j hj=>(h2 j hj).1⟩⟩
   have:=h2 j (by omega)
   rw[<-this.1];exact this.2
def fD (s:aC) (l:List aG):List bC:=s.cells.mapIdx fun i c=>nN ⟨c.pos,0,0,0⟩ (nM s.symbols i l)
theorem kU (s:aC) (l:List aG):(fD s l).length=s.cells.length:=by simp [fD]
theorem qC (s:aC) (l:List aG) (i:Nat) (h:i<(fD s l).length):(fD s l)[i]=nN ⟨(s.cells[i]'(by simpa [fD] using h)).pos,0,0,0⟩ (nM s.symbols i l):=by
 simp [fD]
def Wj (n m:Int) (cs:List bC):Prop:=∀a:Int,0<=a->a<n->pI (rV m cs a)<=9223372036854775807
structure iY (s:aC):Prop where
 sized:sF s
 fine:af8 s
 cells:s.cells=fD s s.orders
 ok:∀c∈s.cells,okC c
 acct:Wj s.accounts s.symbols s.cells
theorem EC (s:aC) (hr:ja s) (hl:s.orders.length<999999) (h2:s.limits.length<999999) (h3:s.caps.length<999999):
 Wq (nT s) fun b=>b=true↔iY s:=by
 unfold nT yc
 rw[qH]
 refine Wq.bind (OA s) fun z hz=> ?_
 refine Wq.bind (Q:=fun b=>b=true↔(z=true/\af8 s)) ?_ ?_
 ·rw[iH]
  refine⟨fun h=> ?_,fun h=>(ak _).2 ?_⟩
  ·simp only[bI,bK]at h
   have hs:sF s:=hz.1 h
   refine(al7 s hl h2 h3 ?_).mono fun b hb=>by rw[hb];simp [h]
   intro e
   have:=hs.2.2.2.2.1
   have:=hs.1.1
   simp [e,len]at*
   omega
  ·simp only[bI,bK]at h
   simp [h]
 ·intro f hf
  rw[iH]
  refine⟨fun h=>(ak _).2 ((ak _).2 ?_),fun h=> ?_⟩
  ·simp only[dF,bI]at h
   refine⟨fun h=>(by cases h),fun hr=> ?_⟩
   have e1:=hz.2 hr.sized
   have e2:=hf.2 ⟨e1,hr.fine⟩
   rw[e1,e2]at h
   simp at h
  ·simp only[dL,bK]at h
   have hs:=hz.1 h.1
   have hfn:=(hf.1 h.2).2
   obtain⟨hc,hlim,hcap,hol⟩:=hs.lens
   have hall:∀o∈s.orders,Es s o/\iF o:=fun o ho=>⟨hfn.ords o ho,hr.orders.1 o ho⟩
   have hokc:∀c∈s.cells,Gu c:=hr.cells.1
   refine Wq.bind (ajj hs hall) fun y hy=> ?_
   obtain⟨hy1,hy2⟩:=hy
   rw[iH]
   refine⟨fun h5=>(ak _).2 ((ak _).2 ?_),fun h5=> ?_⟩
   ·rw[bI]at h5
    refine⟨fun h=>(by cases h),fun hR=> ?_⟩
    have:y.2=true:=hy1.2 fun j hj=>by
     have e:=hR.ok s.cells[j] (List.getElem_mem _)
     have e2:s.cells[j]=nN ⟨s.cells[j].pos,0,0,0⟩ (nM s.symbols j s.orders):=by
      have:=qC s s.orders j (by rw[kU];exact hj)
      rw[<-this]
      congr 1
      exact hR.cells
     have e3:=aaj e
     rw[e2]at e3
     unfold Vu nN at e3
     simpa [Vu] using e3
    rw[this]at h5;cases h5
   ·rw[bK]at h5
    obtain⟨hyl,hyg⟩:=hy2 h5
    refine Wq.bind (Q:=fun w:(Bool×List bC) ⊕ (Bool×List bC)=>match w with
     |.inl b=>b.1=false/\¬((∀c∈s.cells,okC c)/\s.cells=fD s s.orders)
     |.inr _=>(∀c∈s.cells,okC c)/\s.cells=fD s s.orders)
     (lZ (n:=s.cells.length) (step:=fun v:Int×Bool×List bC=>kS (len s.cells) s.cells v.1 v.2.1 v.2.2) (by omega)
     (fun i x=>x.2.length=s.cells.length/\(∀(j:Nat) (h:j<x.2.length),i<=j->x.2[j]=nM s.symbols j s.orders)/\∀(j:Nat) (h:j<s.cells.length),j<i->okC s.cells[j]/\s.cells[j]=nN ⟨s.cells[j].pos,0,0,0⟩ (nM s.symbols j s.orders)) _ ?_ ?_ _ 0 (Nat.zero_le _)
     ⟨hyl,fun j hj _=>hyg j hj,fun j _ h=>by omega⟩) ?_
    ·rintro i ⟨q,x⟩ hi ⟨hx,hxj,hxd⟩
     simp only at hx hxj hxd
     simp only[kS]
     have hix:i<x.length:=by omega
     rw[aH (by rw[ig];simpa using hi),aH (inb _ i hi),aH (inb x i hix),bQ _ i hi,bQ x i hix,lH (hokc _ (List.getElem_mem _)),ai]
     have hil:i<(aY x (itn (i:Int)) (bC.mk s.cells[i].pos x[i].buy x[i].sell x[i].opn)).length:=by rw[yx];exact hix
     rw[aH (by rw[dF];exact .inl (inb _ i hil)),bQ _ i hil]
     have hg:(aY x (itn (i:Int)) (bC.mk s.cells[i].pos x[i].buy x[i].sell x[i].opn))[i]=bC.mk s.cells[i].pos x[i].buy x[i].sell x[i].opn:=by
      simp [aY,itn]
     rw[hg]
     have hxi:=hxj i hix (Nat.le_refl _)
     have hq:nN ⟨s.cells[i].pos,0,0,0⟩ (nM s.symbols i s.orders)=bC.mk s.cells[i].pos x[i].buy x[i].sell x[i].opn:=by
      rw[<-hxi]
      have hp:x[i].pos=0:=by rw[hxi];exact(NJ _ _ fun o h=>⟨(hall o h).1.1,(hall o h).2⟩).1
      apply AP<;>simp only[nN]<;>omega
     simp only[iH,ak,aZ,bV,dF,dL,bI,bK,dG,dK,bY,dQ,bD,bG,dV,dW]
     constructor
     ·intro hb
      refine⟨trivial,fun⟨a1,a2⟩=> ?_⟩
      have b1:=a1 s.cells[i] (List.getElem_mem _)
      have b2:s.cells[i]=nN ⟨s.cells[i].pos,0,0,0⟩ (nM s.symbols i s.orders):=by
       have:=qC s s.orders i (by rw[kU];exact hi)
       rw[<-this];congr 1
      rw[hq]at b2
      rcases hb with hb | hb
      ·exact absurd b1 (by simpa using hb)
      ·have c2:=congrArg bC.buy b2;have c3:=congrArg bC.sell b2;have c4:=congrArg bC.opn b2
       simp only at c2 c3 c4
       rcases hb with hb | hb | hb | hb
       ·exact hb rfl
       ·exact hb c2.symm
       ·exact hb c3.symm
       ·exact hb c4.symm
     ·intro hb
      obtain⟨b1,_,b2,b3,b4⟩:=hb
      refine⟨eu (by omega),(yx _ _ _).trans hx,fun j hj hij=> ?_,fun j hj hji=> ?_⟩
      ·rw[Y4,if_neg (by omega)]
       exact hxj j (by simpa [aY] using hj) (by omega)
      ·by_cases e:j=i
       ·subst e
        refine⟨by simpa using b1,?_⟩
        rw[hq]
        exact AP rfl b2.symm b3.symm b4.symm
       ·exact hxd j hj (by omega)
    ·rintro⟨q,x⟩ ⟨hx,_,hxd⟩
     simp only[kS]
     rw[dH (by rw[ig];simp),ak]
     refine⟨fun c hc=> ?_,?_⟩
     ·obtain⟨j,hj,rfl⟩:=List.getElem_of_mem hc
      exact(hxd j hj hj).1
     ·refine List.ext_getElem (kU _ _).symm fun j h1 h2=> ?_
      rw[qC]
      exact(hxd j h1 h1).2
    ·rintro w hw
     cases w with
     |inl b=>
      obtain⟨h1,h2⟩:=hw
      simp only[jB,ak,h1]
      exact⟨fun h=>(by cases h),fun hR=>absurd ⟨hR.ok,hR.cells⟩ h2⟩
     |inr b=>
      obtain⟨hok,hcs⟩:=hw
      simp only[jB]
      rw[qH]
      have hacc:∀a:Int,∀c∈rV s.symbols s.cells a,0<=c.opn/\inI c.opn:=fun a c hc=>by
       have:=hok c (Za hc)
       exact⟨this.2.1.2.2,this.1.opn⟩
      refine Wq.mono (Q:=fun w:Bool ⊕ Bool=>match w with | .inl b=>b=false/\¬Wj s.accounts s.symbols s.cells | .inr _=>Wj s.accounts s.symbols s.cells)
       (lZ (n:=s.accounts.toNat) (step:=fun v:Int×Bool=>kR s.accounts s v.1 v.2) (by have:=hs.1.2;omega)
       (fun i x=>∀a:Int,0<=a->a<i->pI (rV s.symbols s.cells a)<=9223372036854775807) _ ?_ ?_ _ 0 (Nat.zero_le _) (fun a h1 h2=>by omega)) ?_
      ·rintro i q hi hx
       have hia:(i:Int)<s.accounts:=by omega
       simp only[kR]
       rw[aH (Di hia),Ug hs i (by omega) hia,ai,Ia (by have:=UN (n:=s.symbols) (cs:=s.cells) (a:=(i:Int));omega) (hacc i),ai]
       by_cases hw:pI (rV s.symbols s.cells i)<=9223372036854775807
       ·rw[if_pos hw]
        simp only[oN,aU,aX,ak]
        refine⟨eu (by omega),fun a h1 h2=> ?_⟩
        by_cases e:a=i
        ·subst e;exact hw
        ·exact hx a h1 (by omega)
       ·rw[if_neg hw]
        simp only[Aw,bJ,bH,ak]
        exact⟨trivial,fun h=>hw (h i (by omega) hia)⟩
      ·rintro q hx
       simp only[kR]
       rw[dH (Bv (by omega)),ak]
       exact fun a h1 h2=>hx a h1 (by omega)
      ·rintro w hw
       cases w with
       |inl b=>
        obtain⟨rfl,h2⟩:=hw
        simp only[ak]
        exact⟨fun h=>(by cases h),fun hR=>absurd hR.acct h2⟩
       |inr b=>
        simp only[ak]
        exact⟨fun _=>⟨hs,hfn,hcs,hok,hw⟩,fun _=>trivial⟩
def Fj (o:aG):aG:=⟨o.id,o.account,o.symbol,o.side,o.qty,o.price,o.filled,3,0,0,o.version,o.asked⟩
def Iu (o:aG):aG:=⟨o.id,o.account,o.symbol,o.side,o.qty,o.price,o.filled,o.phase,0,0,o.version,o.asked⟩
def jU (r:jm):aG:=⟨r.order,r.account,r.symbol,r.side,r.qty,r.price,0,1,0,0,0,false⟩
def xG (o:aG):Prop:=o.phase=2/\¬uQ o/\o.asked=false/\o.version<9223372036854775807
instance (o:aG):Decidable (xG o):=by unfold xG;infer_instance
def sW (o:aG) (q p:Int):aG:=⟨o.id,o.account,o.symbol,o.side,o.qty,o.price,o.filled,o.phase,q,p,o.version+1,o.asked⟩
def ajb (o:aG):aG:=⟨o.id,o.account,o.symbol,o.side,o.qty,o.price,o.filled,o.phase,o.newQty,o.newPrice,o.version,true⟩
def Vk (o:aG) (f:Int):aG:=⟨o.id,o.account,o.symbol,o.side,o.qty,o.price,f,o.phase,o.newQty,o.newPrice,o.version,o.asked⟩
def UE (o:aG) (f:Int):aG:=⟨o.id,o.account,o.symbol,o.side,o.qty,o.price,o.filled,f,o.newQty,o.newPrice,o.version,o.asked⟩
def Z7 (o:aG) (q p:Int):aG:=⟨o.id,o.account,o.symbol,o.side,q,p,o.filled,o.phase,0,0,o.version,o.asked⟩
def O7 (o:aG) (what q p:Int):Option aG:=
 if o.phase=1 then (if what=1 then some (UE o 2)else if what=2 then some (Fj o)else none)
 else if o.phase=2 then
  if what=3 then (if o.qty - o.filled<q then none else if o.filled+q<o.qty then some (Vk o (o.filled+q))else some (Fj (Vk o (o.filled+q))))
  else if what=4 then some (Fj o)
  else if what=5 then (if uQ o/\q=o.newQty/\p=o.newPrice/\o.filled<q then some (Z7 o q p)else none)
  else if what=6 then (if uQ o then some (Iu o)else none)
  else none
 else none
theorem YV {r:jm} (h:xH r) (hk:r.kind=1):yE r=some (jU r,0):=by
 unfold yE
 obtain⟨b,e,q⟩:=vK r
 rw[e,q.2 h,hk]
 rfl
theorem X4 {o:aG} {q p:Int} (h:uy o) (hr:iF o) (hq:1<=q) (hp:1<=p):
 Wq (wI o q p) fun r=>(xG o->r=(sW o q p,0))/\(¬xG o->r.2≠0):=by
 have hv:=hr.version
 unfold wI
 rw[nG hv (by decide),ai,lu,ai,decide_eq_true h,aU,aX,dH (Bv (by omega)),dH (Bv (by omega))]
 unfold inI at hv
 by_cases hm:o.version+1<=9223372036854775807
 ·rw[if_pos ⟨by omega,hm⟩]
  simp only[oN,aU,aX]
  unfold au
  rw[I9 ⟨by omega,hm⟩,Eb,ai]
  simp only[qH,iH,ak,aZ,bV,dF,dL,bI,bK,dG,dK,bY,dQ,bD,bG,dV,dW,true_implies,ne_eq,not_true_eq_false,false_implies,and_true,true_and,or_self,reduceCtorEq]
  unfold xG
  refine⟨fun h1=>⟨fun _=>⟨fun h2=>absurd h2.1 h1,fun _=>by decide⟩,fun h2=>absurd h2 h1⟩,fun h1=>⟨fun h2=>⟨fun _=>⟨fun h3=>absurd (by simpa using h2) h3.2.1,fun _=>by decide⟩,fun h3=>by rw[h2]at h3;cases h3⟩,fun h2=> ?_⟩⟩
  have h2:¬uQ o:=by simpa using h2
  refine⟨fun h3=>⟨fun h4=>(by rw[h4.2.2.1]at h3;cases h3),fun _=>by decide⟩,fun h3=>⟨fun _=>rfl,fun h4=>absurd ⟨h1,h2,h3,by omega⟩ h4⟩⟩
 ·rw[if_neg (by unfold inI;omega)]
  simp only[Aw,bJ,bH,ak]
  exact⟨fun h2=>(by have:=h2.2.2.2;omega),fun _=>by decide⟩
theorem ab9 {o:aG} (h:uy o) (h3:o.phase≠3):Df o=some (if o.asked=true then (o,8)else (ajb o,0)):=by
 unfold Df
 rw[lu,ai,decide_eq_true h,aU,aX,dH (by rw[bG];exact h3),H9]
 split<;>rfl
def qy (n:gq):jm:=⟨6,n.order,0,0,0,n.qty,n.price,0,0,0,false,n.seq,n.what⟩
theorem Jy (o:aG):Am o=some (Fj o):=rfl
theorem aaG (o:aG) (n:gq):Ey o n=some (if n.what=1 then (UE o 2,true)else if n.what=2 then (Fj o,true)else (o,false)):=by
 unfold Ey
 rw[Jy,ai,fC,fC]
 split
 ·rfl
 ·split<;>rfl
theorem abx {o:aG} {n:gq} (h:uy o) (hr:iF o) (hp:o.phase=2) (hn:n.what=3->1<=n.qty/\inI n.qty):
 Wq (EG o n) fun r=>match O7 o n.what n.qty n.price with | some p=>r=(p,true) | none=>r.2=false:=by
 have hq:=hr.qty;have hf:=hr.filled
 have h1:=h.2.1;have h2:=h.2.2.1
 unfold inI at hq hf
 unfold EG O7
 rw[if_neg (by omega),if_pos hp]
 unfold aB au
 rw[I9 (n:=o.qty - o.filled) ⟨by omega,by omega⟩]
 by_cases k3:n.what=3
 ·obtain⟨g1,g2⟩:=hn k3
  unfold inI at g2
  rw[if_pos k3,aH (by rw[bD];exact k3),iH]
  refine⟨fun h4=> ?_,fun h4=> ?_⟩
  ·rw[dG]at h4
   rw[if_pos h4,ak]
  ·rw[dK]at h4
   rw[if_neg (by omega),I9 ⟨by omega,by omega⟩,iH]
   refine⟨fun h5=> ?_,fun h5=> ?_⟩
   ·rw[dG]at h5
    rw[if_pos h5,ak];rfl
   ·rw[dK]at h5
    rw[if_neg (by omega),Jy,ai,ak];rfl
 rw[if_neg k3,dH (by rw[bG];exact k3)]
 by_cases k4:n.what=4
 ·rw[if_pos k4,aH (by rw[bD];exact k4),Jy,ai,ak]
 rw[if_neg k4,dH (by rw[bG];exact k4)]
 by_cases k5:n.what=5
 ·rw[if_pos k5,aH (by rw[bD];exact k5),Eb,ai,iH]
  refine⟨fun hb=> ?_,fun hb=> ?_⟩
  ·simp only[aZ,bV,dF,dL,bI,bK,dG,dK,bY,dQ,bD,bG,dV,dW,decide_eq_false_iff_not]at hb
   rw[if_neg (by rintro⟨a1,a2,a3,a4⟩;rcases hb with ((hb | hb) | hb) | hb;exact hb a1;exact hb a2;exact hb a3;omega),ak]
  ·simp only[aZ,bV,dF,dL,bI,bK,dG,dK,bY,dQ,bD,bG,dV,dW,decide_eq_true_eq]at hb
   rw[if_pos ⟨hb.1.1.1,hb.1.1.2,hb.1.2,by omega⟩]
   exact(ak _).2 rfl
 rw[if_neg k5,dH (by rw[bG];exact k5)]
 by_cases k6:n.what=6
 ·rw[if_pos k6,aH (by rw[bD];exact k6),Eb]
  by_cases hb:uQ o
  ·rw[if_pos hb,decide_eq_true hb];exact(ak _).2 rfl
  ·rw[if_neg hb,decide_eq_false hb];exact(ak _).2 rfl
 rw[if_neg k6,dH (by rw[bG];exact k6),ak]
theorem abz {o:aG} {n:gq} (h:uy o) (hr:iF o) (hn:xH (qy n)) (hi:n.order=o.id) (hq:inI n.qty):
 AX o n=some (match O7 o n.what n.qty n.price with | some p=>(p,0) | none=>(o,8)):=by
 refine Wq.eq ?_
 unfold AX
 obtain⟨b,e,q⟩:=vK (qy n)
 rw[lu,ai,decide_eq_true h,aU,bJ,bH,show og n=some (qy n)from rfl,ai,bH,e,q.2 hn,ai,aU,iD,iD,dH (by rw[bK,bD];exact hi),iH]
 refine⟨fun h1=> ?_,fun h1=> ?_⟩
 ·rw[bD]at h1
  rw[aaG,ai]
  unfold O7
  rw[if_pos h1]
  by_cases k1:n.what=1
  ·simp only[if_pos k1];exact(ak _).2 rfl
  ·by_cases k2:n.what=2
   ·simp only[if_neg k1,if_pos k2];exact(ak _).2 rfl
   ·simp only[if_neg k1,if_neg k2];exact(ak _).2 rfl
 ·rw[bG]at h1
  rw[iH]
  refine⟨fun h2=> ?_,fun h2=> ?_⟩
  ·rw[bD]at h2
   refine Wq.bind (abx h hr h2 fun k3=> ?_) fun y hy=> ?_
   ·unfold xH qy at hn
    simp only at hn
    refine⟨?_,hq⟩
    omega
   ·rw[iH]
    cases ht:O7 o n.what n.qty n.price with
    |none=>
     simp only[ht]at hy
     rw[hy]
     exact⟨fun _=>(ak _).2 rfl,fun h=>(by cases h)⟩
    |some p=>
     simp only[ht]at hy
     rw[hy]
     exact⟨fun h=>(by cases h),fun _=>(ak _).2 rfl⟩
  ·rw[bG]at h2
   rw[ak]
   unfold O7
   rw[if_neg h1,if_neg h2]
def aai (s:aC) (l:List aG):aC:=⟨s.accounts,s.symbols,l,fD s l,s.limits,s.caps,s.kill,s.last,s.seq,s.lsn⟩
def ac7 (s:aC):Prop:=(∀c∈s.cells,okC c)/\Wj s.accounts s.symbols s.cells
def U0 (was now:aC) (a y:Int):Prop:=
 FO (ofC (aj was.cells (itn (a*was.symbols+y)))) (ofC (aj now.cells (itn (a*was.symbols+y)))) (aj was.limits (itn (a*was.symbols+y)))\/
 YO (pI (rV was.symbols was.cells a)) (pI (rV was.symbols now.cells a)) (aj was.caps (itn a))
instance (s t:aC) (a y:Int):Decidable (U0 s t a y):=by unfold U0;infer_instance
open Classical in
noncomputable def Ou (s t:aC) (a y:Int):aC×Int:=
 if ¬ac7 t then (s,3)else if U0 s t a y then (s,4)else (⟨t.accounts,t.symbols,t.orders,t.cells,t.limits,t.caps,t.kill,t.last,t.seq,t.lsn+1⟩,0)
def agK (s:aC) (o:aG) (q:Int):List bC:=
 aY s.cells (itn (atZ s.symbols o)) ⟨if o.side=1 then (aj s.cells (itn (atZ s.symbols o))).pos+q else (aj s.cells (itn (atZ s.symbols o))).pos - q,(aj s.cells (itn (atZ s.symbols o))).buy,(aj s.cells (itn (atZ s.symbols o))).sell,(aj s.cells (itn (atZ s.symbols o))).opn⟩
def evS (s:aC) (r:jm) (k:Nat) (p:aG):aC:=
 let o:=aj s.orders k
 let s':aC:=⟨s.accounts,s.symbols,s.orders,if r.what=3 then agK s o r.qty else s.cells,s.limits,s.caps,s.kill,s.last,r.seq,s.lsn+1⟩
 aai s' (if p.phase=3 then s.orders.eraseIdx k else aY s.orders k p)
def Tj (s:aC) (r:jm):Prop:=iY s/\xH r/\s.lsn<1000000000/\r.account<s.accounts/\r.symbol<s.symbols/\(r.kind=1->s.last<r.order)
open Classical in
noncomputable def doS (s:aC) (r:jm):aC×Int:=
 if ¬Tj s r then (s,1)
 else if r.kind=1 then
  if s.kill=true then (s,5)else if s.orders.length=64 then (s,6)
  else Ou s ⟨s.accounts,s.symbols,dB s.orders [jU r],fD s (dB s.orders [jU r]),s.limits,s.caps,s.kill,r.order,s.seq,s.lsn⟩ r.account r.symbol
 else if r.kind=2 then
  match yK s.orders r.order with
  |none=>(s,7)
  |some k=>
   if ¬xG (aj s.orders k)then (s,8)else if s.kill=true then (s,5)
   else Ou s (aai s (aY s.orders k (sW (aj s.orders k) r.qty r.price))) (aj s.orders k).account (aj s.orders k).symbol
 else if r.kind=3 then
  match yK s.orders r.order with
  |none=>(s,7)
  |some k=>if (aj s.orders k).asked=true then (s,8)else (⟨s.accounts,s.symbols,aY s.orders k (ajb (aj s.orders k)),s.cells,s.limits,s.caps,s.kill,s.last,s.seq,s.lsn+1⟩,0)
 else if r.kind=4 then
  if r.symbol= -1 then (⟨s.accounts,s.symbols,s.orders,s.cells,s.limits,aY s.caps (itn r.account) r.opn,s.kill,s.last,s.seq,s.lsn+1⟩,0)
  else (⟨s.accounts,s.symbols,s.orders,s.cells,aY s.limits (itn (r.account*s.symbols+r.symbol)) ⟨r.long,r.short,r.opn⟩,s.caps,s.kill,s.last,s.seq,s.lsn+1⟩,0)
 else if r.kind=5 then (⟨s.accounts,s.symbols,s.orders,s.cells,s.limits,s.caps,r.on,s.last,s.seq,s.lsn+1⟩,0)
 else if r.seq≠s.seq+1 then (s,11)
 else match yK s.orders r.order with
  |none=>(⟨s.accounts,s.symbols,s.orders,s.cells,s.limits,s.caps,s.kill,s.last,r.seq,s.lsn+1⟩,0)
  |some k=>match O7 (aj s.orders k) r.what r.qty r.price with
   |none=>(⟨s.accounts,s.symbols,s.orders,s.cells,s.limits,s.caps,s.kill,s.last,r.seq,s.lsn+1⟩,0)
   |some p=>(evS s r k p,0)
theorem alR {n:Int} (h1:0<=n) (h2:n<1000000000):wr .i64 (au n 1)=n+1:=by unfold au;exact bU (by omega) (by omega)
theorem aa1 {s:aC} (hs:sF s) {o:aG} (h:Es s o):∃k:Nat,bF s o.account o.symbol=some (k:Int)/\atZ s.symbols o=(k:Int)/\k<s.cells.length:=by
 obtain⟨ho,_,g1,g2⟩:=h
 obtain⟨⟨_,hb1,hb2,_⟩,_⟩:=id ho
 obtain⟨k,k1,k2,k3⟩:=LD hs o.account o.symbol hb1.1 g1 hb2.1 g2
 exact⟨k,k1,k2.symm,k3⟩
theorem aeB {s:aC} (hR:iY s) (l:List aG) (k:Nat) (hk:k<s.cells.length) (c:bC) (hc:c=nN ⟨s.cells[k].pos,0,0,0⟩ (nM s.symbols k l))
 (ho:∀j:Nat,j≠k->nM s.symbols j l=nM s.symbols j s.orders):fD s l=s.cells.set k c:=by
 refine List.ext_getElem (by rw[kU,List.length_set]) fun j h1 h2=> ?_
 rw[qC,List.getElem_set]
 have hj:j<s.cells.length:=by simpa [fD] using h1
 split
 ·rename_i e;subst e;exact hc.symm
 ·rename_i e
  rw[ho j (by omega),<-qC s s.orders j (by rw[kU];exact hj)]
  congr 1
  exact hR.cells.symm
theorem cell_of {s:aC} (hR:iY s) (k:Nat) (hk:k<s.cells.length):s.cells[k]=nN ⟨s.cells[k].pos,0,0,0⟩ (nM s.symbols k s.orders):=by
 have:=qC s s.orders k (by rw[kU];exact hk)
 rw[<-this];congr 1;exact hR.cells
theorem adW {n:Int} {o:aG} {k:Nat} (h:atZ n o=(k:Int)):inC n k o=wC o:=by unfold inC;rw[if_pos h]
theorem VO {n:Int} {o:aG} {k j:Nat} (h:atZ n o=(k:Int)) (hj:j≠k):inC n j o=zC:=by unfold inC;rw[if_neg (by omega)]
theorem alL {s:aC} (hR:iY s) (o:aG) (k:Nat) (hk:k<s.cells.length) (ha:atZ s.symbols o=(k:Int)):fD s (s.orders++[o])=s.cells.set k (qE s.cells[k] o):=by
 refine aeB hR _ k hk _ ?_ fun j hj=> ?_
 ·rw[wQ,Yz,adW ha,<-FP,<-cell_of hR k hk,VF]
 ·rw[wQ,Yz,VO ha hj,LP]
theorem JD.find {l:List aG} (h:JD l) {i j:Nat} (hi:i<l.length) (hj:j<l.length) (e:l[i].id=l[j].id):i=j:=by
 rcases Nat.lt_trichotomy i j with h1 | h1 | h1
 ·have:=List.pairwise_iff_getElem.1 h i j hi hj h1;omega
 ·exact h1
 ·have:=List.pairwise_iff_getElem.1 h j i hj hi h1;omega
theorem akB {c:bC} {o:aG} {d:bC} (h:c=nN d (wC o)):qV c o=d:=by
 subst h
 unfold qV wC nN
 split<;>apply AP<;>simp only<;>omega
def WC (s:aC) (m k:Nat):bC:=nN (nN (nM s.symbols k (s.orders.take m)) (nM s.symbols k (s.orders.drop (m+1)))) zC
theorem Oe {s:aC} (hR:iY s) (m:Nat) (hm:m<s.orders.length) (k:Nat) (hk:k<s.cells.length) (ha:atZ s.symbols s.orders[m]=(k:Int)):
 qV s.cells[k] s.orders[m]=nN ⟨s.cells[k].pos,0,0,0⟩ (WC s m k):=by
 refine akB ?_
 have h:=cell_of hR k hk
 rw[FX s.symbols k s.orders m hm,adW ha]at h
 unfold WC
 rw[LP,FP]
 exact h
theorem akz {s:aC} (hk:∀o∈s.orders,uy o/\iF o) (m k:Nat):nnC (WC s m k):=by
 unfold WC
 rw[LP]
 exact abg (NJ _ _ fun o h=>hk o (List.mem_of_mem_take h)) (NJ _ _ fun o h=>hk o (List.mem_of_mem_drop h))
theorem ajD {s:aC} (hR:iY s) (m:Nat) (hm:m<s.orders.length) (p:aG) (k:Nat) (hk:k<s.cells.length) (ha:atZ s.symbols s.orders[m]=(k:Int)) (hp:atZ s.symbols p=(k:Int)):
 fD s (s.orders.set m p)=s.cells.set k (qE (qV s.cells[k] s.orders[m]) p):=by
 refine aeB hR _ k hk _ ?_ fun j hj=> ?_
 ·rw[Oe hR m hm k hk ha,Xe s.symbols k s.orders m hm,adW hp,VF]
  unfold WC
  rw[LP,FP]
 ·rw[Xe s.symbols j s.orders m hm,FX s.symbols j s.orders m hm,VO hp hj,VO ha hj]
theorem amc {s:aC} (hR:iY s) (m:Nat) (hm:m<s.orders.length) (k:Nat) (hk:k<s.cells.length) (ha:atZ s.symbols s.orders[m]=(k:Int)):
 fD s (s.orders.eraseIdx m)=s.cells.set k (qV s.cells[k] s.orders[m]):=by
 refine aeB hR _ k hk _ ?_ fun j hj=> ?_
 ·rw[Oe hR m hm k hk ha,Xu s.symbols k s.orders m hm]
  unfold WC
  rw[LP]
 ·rw[Xu s.symbols j s.orders m hm,FX s.symbols j s.orders m hm,VO ha hj,LP]
theorem aek {s:aC} (hR:iY s) (hr:ja s) (m:Nat) (hm:m<s.orders.length) (k:Nat) (hk:k<s.cells.length) (ha:atZ s.symbols s.orders[m]=(k:Int)):okC (qV s.cells[k] s.orders[m]):=by
 have hall:∀o∈s.orders,uy o/\iF o:=fun o h=>⟨(hR.fine.ords o h).1,hr.orders.1 o h⟩
 have hm':=hall s.orders[m] (List.getElem_mem _)
 have h1:=hR.ok s.cells[k] (List.getElem_mem _)
 rw[Oe hR m hm k hk ha]
 have h2:=akz hall m k
 have h3:=aiX hm'.1 hm'.2
 have h4:s.cells[k]=nN (nN ⟨s.cells[k].pos,0,0,0⟩ (WC s m k)) (wC s.orders[m]):=by
  have:=Oe hR m hm k hk ha
  rw[<-this]
  unfold qV wC nN
  split<;>apply AP<;>simp only<;>omega
 rw[Ho]at h1 ⊢
 have b1:=congrArg bC.buy h4;have b2:=congrArg bC.sell h4;have b3:=congrArg bC.opn h4
 unfold nnC at h2 h3
 unfold inI at*
 simp only[nN]at*
 omega
theorem ae9 {n:Int} {cs:List bC} (h:∀c∈cs,okC c) (a:Int):∀c∈rV n cs a,0<=c.opn/\inI c.opn:=fun c hc=>by
 have:=h c (Za hc)
 exact⟨this.2.1.2.2,this.1.opn⟩
theorem aiz {n:Int} (hn:0<=n) {cs:List bC} {k:Nat} {c:bC} {a y b:Int} (ha:0<=a) (hy:0<=y) (hy2:y<n) (hk:(k:Int)=a*n+y) (hb:0<=b) (hab:b≠a):rV n (cs.set k c) b=rV n cs b:=by
 unfold rV
 rcases Int.lt_or_gt_of_ne hab with h | h
 ·have h1:(b+1)*n<=a*n:=Int.mul_le_mul_of_nonneg_right (by omega) hn
  have h2:(b+1)*n=b*n+n:=by rw[Int.add_mul,Int.one_mul]
  have h3:0<=b*n:=Int.mul_nonneg hb hn
  rw[List.drop_set]
  rw[if_neg (by omega),List.take_set_of_le (by omega)]
 ·have h1:(a+1)*n<=b*n:=Int.mul_le_mul_of_nonneg_right (by omega) hn
  have h2:(a+1)*n=a*n+n:=by rw[Int.add_mul,Int.one_mul]
  rw[List.drop_set_of_lt (by omega)]
theorem afN {s t:aC} (hR:iY s) (hn1:t.accounts=s.accounts) (hn2:t.symbols=s.symbols) {k:Nat} {c:bC} {a y:Int} (ha:0<=a) (ha2:a<s.accounts) (hy:0<=y) (hy2:y<s.symbols) (hk:(k:Int)=a*s.symbols+y) (hkl:k<s.cells.length)
 (hc:t.cells=s.cells.set k c):ac7 t↔okC c/\pI (rV s.symbols t.cells a)<=9223372036854775807:=by
 unfold ac7 Wj
 rw[hn1,hn2]
 constructor
 ·rintro⟨h1,h2⟩
  refine⟨h1 c ?_,h2 a ha ha2⟩
  rw[hc];exact List.mem_set hkl _
 ·rintro⟨h1,h2⟩
  refine⟨fun d hd=> ?_,fun b hb hb2=> ?_⟩
  ·rw[hc]at hd
   rcases List.mem_or_eq_of_mem_set hd with hd | rfl
   ·exact hR.ok d hd
   ·exact h1
  ·by_cases e:b=a
   ·subst e;exact h2
   ·rw[hc,aiz (by omega) ha hy hy2 hk hb e]
    exact hR.acct b hb hb2
theorem ajH {s t:aC} (hR:iY s) (ht:sF t) (hn1:t.accounts=s.accounts) (hn2:t.symbols=s.symbols) (hl:t.limits=s.limits) (hcp:t.caps=s.caps) (hok:∀c∈t.cells,okC c) {k:Nat} {a y:Int} (ha:0<=a) (ha2:a<s.accounts) (hy:0<=y) (hy2:y<s.symbols) (hk:(k:Int)=a*s.symbols+y) (hkl:k<s.cells.length):
 dY t s a y=some (if ¬pI (rV s.symbols t.cells a)<=9223372036854775807 then 3 else if U0 s t a y then 4 else 0):=by
 have hs:=hR.sized
 obtain⟨l1,l2,l3,l4⟩:=hs.lens
 obtain⟨m1,m2,m3,m4⟩:=ht.lens
 have hcl:t.cells.length=s.cells.length:=by
  have:=ht.2.2.1;have:=hs.2.2.1
  rw[hn1,hn2]at*
  simp only[len]at *; omega
 obtain⟨k',e1,e2,e3⟩:=LD ht a y ha (by omega) hy (by omega)
 have hkk:k'=k:=by rw[hn2]at e2;omega
 subst hkk
 have hkt:k'<t.cells.length:=by omega
 have hkm:k'<t.limits.length:=by omega
 have ln1:=UN (n:=s.symbols) (cs:=s.cells) (a:=a)
 have ln2:=UN (n:=s.symbols) (cs:=t.cells) (a:=a)
 unfold dY
 rw[e1,ai,Ug ht a ha (by omega),ai,hn2,Ia (by omega) (ae9 hok a),ai]
 by_cases hw:pI (rV s.symbols t.cells a)<=9223372036854775807
 ·rw[if_pos hw,if_neg (by simpa using hw)]
  simp only[oN,aU,aX]
  rw[Ug hs a ha ha2,ai,Ia (by omega) (ae9 hR.ok a),ai,if_pos (hR.acct a ha ha2),aH (inb _ k' hkl),bQ _ k' hkl,ZB (hR.ok _ (List.getElem_mem _)),ai,
   aH (inb _ k' hkt),bQ _ k' hkt,ZB (hok _ (List.getElem_mem _)),ai,aH (inb _ k' hkm),bQ _ k' hkm,Vp,ai]
  have hac:band (ile 0 a) (ilt a (len t.caps))=true:=DV (jG ha) (Di (by simp only[len];omega))
  rw[aH (by rw[dF];exact .inl hac),gm,zD,Fq]
  have hst:U0 s t a y↔FO (ofC s.cells[k']) (ofC t.cells[k']) t.limits[k']\/YO (pI (rV s.symbols s.cells a)) (pI (rV s.symbols t.cells a)) (aj t.caps (itn a)):=by
   unfold U0
   rw[<-hk,bQ _ k' hkl,bQ _ k' hkt,bQ _ k' (by omega),hcp]
   simp only[hl]
  by_cases hx:FO (ofC s.cells[k']) (ofC t.cells[k']) t.limits[k']
  ·rw[if_pos hx,ai,decide_eq_true hx,vT,bH,if_pos (hst.2 (.inl hx))]
  ·rw[if_neg hx,ai,decide_eq_false hx,iD,zD]
   by_cases hz:YO (pI (rV s.symbols s.cells a)) (pI (rV s.symbols t.cells a)) (aj t.caps (itn a))
   ·rw[if_pos hz,if_pos (hst.2 (.inr hz))]
   ·rw[if_neg hz,if_neg fun h=>(hst.1 h).elim hx hz]
 ·rw[if_neg hw,if_pos hw]
  simp only[Aw,bJ,bH]
theorem aiL {l:List aG} {i:Nat} (hi:i<l.length) (hl:l.length<1000):iy l i (wr .i64 (au i 1))=some (l.eraseIdx i):=by
 rw[eu (by omega)]
 unfold iy
 have e1:ay (aF l (itn ((i+1:Nat):Int))) (itn (aB (len l) ((i+1:Nat):Int)))=l.drop (i+1):=by
  simp only[ay,aF,itn,aB,len,Int.toNat_natCast]
  rw[List.take_of_length_le (by simp;omega)]
 rw[e1]
 have e2:nad (itn (i:Int)) (itn (len (l.drop (i+1))))=l.length - 1:=by simp [nad,itn,len];omega
 simp only[e2]
 have e3:(eU l (itn (i:Int)) (l.drop (i+1))).length=l.length:=by simp [eU,itn];omega
 rw[aH (by simp only[aZ,bY,len];omega),dH (by rw[bG];omega),aH (by simp only[aZ,bY,len];omega),aH (by simp only[aZ,bY,len];omega),
  aH (by simp only[bY,len,nti,itn,au,List.length_drop,Int.toNat_natCast];omega),aH (by simp only[aZ,bY,len,nti,aB,e3];omega)]
 congr 1
 simp only[ay,aF,eU,itn,nad,nti,len,aB,Int.toNat_natCast,List.drop_zero,Nat.zero_add]
 rw[List.eraseIdx_eq_take_drop_succ]
 have e4:(l.take i++(l.drop (i+1)++l.drop (i+(l.drop (i+1)).length))).take (l.length - 1)=l.take i++l.drop (i+1):=by
  rw[<-List.append_assoc,List.take_append_of_le_length (by simp;omega),List.take_of_length_le (by simp;omega)]
 rw[e4,List.take_append_of_le_length (by simp;omega),List.take_of_length_le (by simp;omega)]
structure ajr (o p:aG) (what q:Int):Prop where
 ord:uy p
 rng:iF p
 id:p.id=o.id
 account:p.account=o.account
 symbol:p.symbol=o.symbol
 side:p.side=o.side
 opn:lG p+(if what=3 then q else 0)<=lG o
 worth:jc p<=jc o
 phase:p.phase=2\/p.phase=3
theorem ajc {o:aG} (h:uy o):uy (Fj o):=by
 obtain⟨h1,h2,h3,h4,h5,h6⟩:=h
 exact⟨h1,h2,h3,h4,fun h=>by simp [uQ,Fj]at h,.inr (.inr ⟨rfl,by simp [uQ,Fj]⟩)⟩
theorem ait {o:aG} (h:iF o):iF (Fj o):=⟨h.id,h.account,h.symbol,h.side,h.qty,h.price,h.filled,(by decide:inI 3),(by decide:inI 0),(by decide:inI 0),h.version⟩
theorem Oj (o:aG):lG (Fj o)=0/\jc (Fj o)=0:=⟨rfl,rfl⟩
theorem ZH {o:aG} {what q:Int} (h:uy o) (hr:iF o) (hq:what=3->q<=lG o):ajr o (Fj o) what q:=by
 have:=EI h hr
 have:=EO h
 refine⟨ajc h,ait hr,rfl,rfl,rfl,rfl,?_,by rw[(Oj o).2];omega,.inr rfl⟩
 rw[(Oj o).1]
 split
 ·rename_i h3;have:=hq h3;omega
 ·omega
theorem MP {o:aG} (h:o.phase≠3):lG o=max o.qty o.newQty - o.filled:=by unfold lG;rw[if_neg h]
theorem zQ {o:aG} (h:o.phase≠3):jc o=if o.newQty<=o.filled then (o.qty - o.filled)*o.price else max ((o.qty - o.filled)*o.price) ((o.newQty - o.filled)*o.newPrice):=by unfold jc;rw[if_neg h]
theorem acs {a b c:Int} (h:a<=b) (hc:0<=c):a*c<=b*c:=Int.mul_le_mul_of_nonneg_right h hc
theorem aee {o p:aG} {what q pr:Int} (h:uy o) (hr:iF o) (ht:O7 o what q pr=some p) (h3:what=3->1<=q) (h5:what=5->1<=q/\1<=pr) (rq:inI q) (rp:inI pr):ajr o p what q:=by
 obtain⟨g1,g2,g3,g4,g5,g6⟩:=id h
 have hb1:=g1.2.2.2.2.1
 have hb2:=g1.2.2.2.2.2
 have r1:=hr.qty;have r2:=hr.filled;have r3:=hr.newQty;have r4:=hr.newPrice
 unfold inI at r1 r2 r3
 unfold O7 at ht
 by_cases p1:o.phase=1
 ·rw[if_pos p1]at ht
  have hp:o.filled=0/\o.version=0/\¬uQ o:=by
   rcases g6 with g | g | g
   ·exact g.2
   ·omega
   ·omega
  by_cases k1:what=1
  ·rw[if_pos k1]at ht
   cases ht
   refine⟨⟨g1,g2,g3,g4,g5,.inr (.inl ⟨rfl,by show o.filled<o.qty;omega⟩)⟩,⟨hr.id,hr.account,hr.symbol,hr.side,hr.qty,hr.price,hr.filled,(by decide:inI 2),hr.newQty,hr.newPrice,hr.version⟩,rfl,rfl,rfl,rfl,?_,?_,.inl rfl⟩
   ·have e1:lG (UE o 2)=max o.qty o.newQty - o.filled:=MP (o:=UE o 2) (by show(2:Int)≠3;decide)
    rw[if_neg (by omega),e1,MP (o:=o) (by omega)];omega
   ·have e1:jc (UE o 2)=if o.newQty<=o.filled then (o.qty - o.filled)*o.price else max ((o.qty - o.filled)*o.price) ((o.newQty - o.filled)*o.newPrice):=zQ (o:=UE o 2) (by show(2:Int)≠3;decide)
    rw[e1,zQ (o:=o) (by omega)];exact Int.le_refl _
  ·rw[if_neg k1]at ht
   by_cases k2:what=2
   ·rw[if_pos k2]at ht
    cases ht
    exact ZH h hr fun h=>by omega
   ·rw[if_neg k2]at ht;cases ht
 ·rw[if_neg p1]at ht
  by_cases p2:o.phase=2
  ·rw[if_pos p2]at ht
   have hlt:o.filled<o.qty:=by rcases g6 with g | g | g<;>omega
   by_cases k3:what=3
   ·rw[if_pos k3]at ht
    have hq1:=h3 k3
    by_cases c1:o.qty - o.filled<q
    ·rw[if_pos c1]at ht;cases ht
    ·rw[if_neg c1]at ht
     have hoo:lG o=max o.qty o.newQty - o.filled:=by unfold lG;rw[if_neg (by omega)]
     have hfl:uy (Vk o (o.filled+q))\/¬(o.filled+q<o.qty):=by
      by_cases c2:o.filled+q<o.qty
      ·exact .inl ⟨g1,by show 0<=o.filled+q;omega,by show o.filled+q<=o.qty;omega,g4,g5,.inr (.inl ⟨p2,c2⟩)⟩
      ·exact .inr c2
     by_cases c2:o.filled+q<o.qty
     ·rw[if_pos c2]at ht
      cases ht
      refine⟨hfl.resolve_right (by omega),⟨hr.id,hr.account,hr.symbol,hr.side,hr.qty,hr.price,⟨by show _<=o.filled+q;omega,by show o.filled+q<=_;omega⟩,hr.phase,hr.newQty,hr.newPrice,hr.version⟩,rfl,rfl,rfl,rfl,?_,?_,.inl p2⟩
      ·have e1:lG (Vk o (o.filled+q))=max o.qty o.newQty - (o.filled+q):=MP (o:=Vk o (o.filled+q)) (by show o.phase≠3;omega)
       rw[if_pos k3,hoo,e1];omega
      ·have e1:jc (Vk o (o.filled+q))=if o.newQty<=o.filled+q then (o.qty - (o.filled+q))*o.price else max ((o.qty - (o.filled+q))*o.price) ((o.newQty - (o.filled+q))*o.newPrice):=zQ (o:=Vk o (o.filled+q)) (by show o.phase≠3;omega)
       rw[e1,zQ (o:=o) (by omega)]
       have m1:(o.qty - (o.filled+q))*o.price<=(o.qty - o.filled)*o.price:=acs (by omega) (by omega)
       by_cases n1:o.newQty<=o.filled
       ·rw[if_pos n1,if_pos (by omega)];exact m1
       ·have hnp:=afZ h (by omega)
        have m2:(o.newQty - (o.filled+q))*o.newPrice<=(o.newQty - o.filled)*o.newPrice:=acs (by omega) (by omega)
        rw[if_neg n1]
        split<;>omega
     ·rw[if_neg c2]at ht
      cases ht
      have hod:uy (Fj (Vk o (o.filled+q))):=by
       refine⟨g1,by show 0<=o.filled+q;omega,by show o.filled+q<=o.qty;omega,g4,fun h=>by simp [uQ,Fj]at h,.inr (.inr ⟨rfl,by simp [uQ,Fj]⟩)⟩
      refine⟨hod,⟨hr.id,hr.account,hr.symbol,hr.side,hr.qty,hr.price,⟨by show _<=o.filled+q;omega,by show o.filled+q<=_;omega⟩,(by decide:inI 3),(by decide:inI 0),(by decide:inI 0),hr.version⟩,rfl,rfl,rfl,rfl,?_,by rw[(Oj _).2];exact EO h,.inr rfl⟩
      rw[(Oj _).1,if_pos k3,hoo];omega
   ·rw[if_neg k3]at ht
    by_cases k4:what=4
    ·rw[if_pos k4]at ht
     cases ht
     exact ZH h hr fun h=>by omega
    ·rw[if_neg k4]at ht
     have hoo:lG o=max o.qty o.newQty - o.filled:=by unfold lG;rw[if_neg (by omega)]
     by_cases k5:what=5
     ·rw[if_pos k5]at ht
      by_cases c1:uQ o/\q=o.newQty/\pr=o.newPrice/\o.filled<q
      ·rw[if_pos c1]at ht
       cases ht
       obtain⟨c1,c2,c3,c4⟩:=c1
       obtain⟨h51,h52⟩:=h5 k5
       refine⟨⟨⟨g1.1,g1.2.1,g1.2.2.1,g1.2.2.2.1,h51,h52⟩,g2,by show o.filled<=q;omega,g4,fun h=>by simp [uQ,Z7]at h,.inr (.inl ⟨p2,c4⟩)⟩,⟨hr.id,hr.account,hr.symbol,hr.side,rq,rp,hr.filled,hr.phase,(by decide:inI 0),(by decide:inI 0),hr.version⟩,rfl,rfl,rfl,rfl,?_,?_,.inl p2⟩
       ·have e1:lG (Z7 o q pr)=max q 0 - o.filled:=MP (o:=Z7 o q pr) (by show o.phase≠3;omega)
        rw[if_neg k3,hoo,e1];omega
       ·have e1:jc (Z7 o q pr)=if 0<=o.filled then (q - o.filled)*pr else max ((q - o.filled)*pr) ((0 - o.filled)*0):=zQ (o:=Z7 o q pr) (by show o.phase≠3;omega)
        rw[e1,zQ (o:=o) (by omega),if_pos g2,if_neg (by omega),c2,c3];exact Int.le_max_right _ _
      ·rw[if_neg c1]at ht;cases ht
     ·rw[if_neg k5]at ht
      by_cases k6:what=6
      ·rw[if_pos k6]at ht
       by_cases c1:uQ o
       ·rw[if_pos c1]at ht
        cases ht
        refine⟨⟨g1,g2,g3,g4,fun h=>by simp [uQ,Iu]at h,.inr (.inl ⟨p2,hlt⟩)⟩,⟨hr.id,hr.account,hr.symbol,hr.side,hr.qty,hr.price,hr.filled,hr.phase,(by decide:inI 0),(by decide:inI 0),hr.version⟩,rfl,rfl,rfl,rfl,?_,?_,.inl p2⟩
        ·have e1:lG (Iu o)=max o.qty 0 - o.filled:=MP (o:=Iu o) (by show o.phase≠3;omega)
         rw[if_neg k3,hoo,e1];omega
        ·have e1:jc (Iu o)=if 0<=o.filled then (o.qty - o.filled)*o.price else max ((o.qty - o.filled)*o.price) ((0 - o.filled)*0):=zQ (o:=Iu o) (by show o.phase≠3;omega)
         rw[e1,zQ (o:=o) (by omega),if_pos g2]
         split
         ·exact Int.le_refl _
         ·exact Int.le_max_left _ _
       ·rw[if_neg c1]at ht;cases ht
      ·rw[if_neg k6]at ht;cases ht
  ·rw[if_neg p2]at ht;cases ht
theorem aaq {r:jm} (h:xH r) (hk:r.kind=1):uy (jU r)/\Es ⟨8,8,[],[],[],[],false,0,0,0⟩ (jU r):=by
 unfold xH sO at h
 have h1:Qp (jU r):=by unfold Qp jU;simp only;omega
 have h2:¬uQ (jU r):=by simp [uQ,jU]
 have h3:uy (jU r):=⟨h1,Int.le_refl _,by have:=h1.2.2.2.2.1;show 0<=(jU r).qty;omega,Int.le_refl _,fun h=>absurd h h2,.inl ⟨rfl,rfl,rfl,h2⟩⟩
 exact⟨h3,h3,by simp [jU],h1.2.1.2,h1.2.2.1.2⟩
theorem Zj {r:jm} (h:nV r):iF (jU r):=⟨h.order,h.account,h.symbol,h.side,h.qty,h.price,(by decide:inI 0),(by decide:inI 1),(by decide:inI 0),(by decide:inI 0),(by decide:inI 0)⟩
theorem Yt {o:aG} {q p:Int} (h:uy o) (hc:xG o) (hq:1<=q) (hp:1<=p):uy (sW o q p):=by
 obtain⟨g1,g2,g3,g4,g5,g6⟩:=id h
 obtain⟨c1,c2,c3,c4⟩:=hc
 exact⟨g1,g2,g3,by show 0<=o.version+1;omega,fun _=>⟨hq,hp⟩,.inr (.inl ⟨c1,by rcases g6 with g | g | g<;>(show o.filled<o.qty)<;>omega⟩)⟩
theorem X7 {o:aG} {q p:Int} (h:iF o) (hc:xG o) (hq:inI q) (hp:inI p):iF (sW o q p):=by
 have:=h.version
 obtain⟨c1,c2,c3,c4⟩:=hc
 unfold inI at this
 exact⟨h.id,h.account,h.symbol,h.side,h.qty,h.price,h.filled,h.phase,hq,hp,⟨by show _<=o.version+1;omega,by show o.version+1<=_;omega⟩⟩
theorem ak2 {o:aG} (h:iF o):iF (ajb o):=⟨h.id,h.account,h.symbol,h.side,h.qty,h.price,h.filled,h.phase,h.newQty,h.newPrice,h.version⟩
theorem acB {l:List aG} (h:l.length<1000000):fG l=some l:=oV h
theorem aew {l:List bC} (h:l.length<1000000):fO l=some l:=oV h
theorem aen {l:List jL} (h:l.length<1000000):fP l=some l:=oV h
theorem adC {l:List Int} (h:l.length<1000000):iE l=some l:=oV h
theorem yw {s t:aC} (hs:sF s) (h1:t.accounts=s.accounts) (h2:t.symbols=s.symbols) (h3:t.cells.length=s.cells.length) (h4:t.limits.length=s.limits.length) (h5:t.caps.length=s.caps.length) (h6:t.orders.length<=64):sF t:=by
 obtain⟨a1,a2,a3,a4,a5,a6⟩:=hs
 unfold sF
 simp only[len]at*
 rw[h1,h2,h3,h4,h5]
 exact⟨a1,a2,a3,a4,a5,h6⟩
theorem ale {s t:aC} (hR:iY s) (ht:sF t) (hn1:t.accounts=s.accounts) (hn2:t.symbols=s.symbols) (hl:t.limits=s.limits) (hcp:t.caps=s.caps) {k:Nat} {c:bC} {a y:Int} (ha:0<=a) (ha2:a<s.accounts) (hy:0<=y) (hy2:y<s.symbols) (hk:(k:Int)=a*s.symbols+y) (hkl:k<s.cells.length)
 (hc:t.cells=s.cells.set k c) (hc2:okC c):
 Wq (dY t s a y) fun e=>cnd (ax (ieq e 0)) (some (s,e)) (some (⟨t.accounts,t.symbols,t.orders,t.cells,t.limits,t.caps,t.kill,t.last,t.seq,t.lsn+1⟩,0))=some (Ou s t a y):=by
 have hok:∀d∈t.cells,okC d:=fun d hd=>by
  rw[hc]at hd
  rcases List.mem_or_eq_of_mem_set hd with hd | rfl
  ·exact hR.ok d hd
  ·exact hc2
 rw[ajH hR ht hn1 hn2 hl hcp hok ha ha2 hy hy2 hk hkl,ak]
 have hf:=afN hR hn1 hn2 ha ha2 hy hy2 hk hkl hc
 unfold Ou
 by_cases hw:pI (rV s.symbols t.cells a)<=9223372036854775807
 ·rw[if_neg (c:=¬ac7 t) (fun h=>h (hf.2 ⟨hc2,hw⟩)),if_neg (c:=¬pI (rV s.symbols t.cells a)<=9223372036854775807) (fun h=>h hw)]
  by_cases hst:U0 s t a y
  ·rw[if_pos hst,if_pos hst];rfl
  ·rw[if_neg hst,if_neg hst];rfl
 ·rw[if_pos (c:=¬ac7 t) (fun h=>hw (hf.1 h).2),if_pos (c:=¬pI (rV s.symbols t.cells a)<=9223372036854775807) hw];rfl
theorem afl {s t:aC} (hR:iY s) (hn1:t.accounts=s.accounts) (hn2:t.symbols=s.symbols) {k:Nat} {c:bC} {a y:Int} (ha:0<=a) (ha2:a<s.accounts) (hy:0<=y) (hy2:y<s.symbols) (hk:(k:Int)=a*s.symbols+y) (hkl:k<s.cells.length)
 (hc:t.cells=s.cells.set k c) (hc2:¬okC c):Ou s t a y=(s,3):=by
 unfold Ou
 rw[if_pos fun h=>hc2 ((afN hR hn1 hn2 ha ha2 hy hy2 hk hkl hc).1 h).1]
theorem Xn (n i:Int):∀(l:List aG),(nM n i l).pos=0
 |[]=>rfl
 |o::l=>by
  have h:=Xn n i l
  have:(inC n i o).pos=0:=by unfold inC wC;split<;>(try split)<;>rfl
  simp only[nM,nN,h,this];rfl
theorem adK {s s':aC} (hsym:s'.symbols=s.symbols) {k:Nat} (hk:k<s.cells.length) {c d:bC} (hc:s'.cells=s.cells.set k d) {l:List aG} (hE:fD s l=s.cells.set k c):
 fD s' l=s.cells.set k ⟨d.pos,c.buy,c.sell,c.opn⟩:=by
 have e0:fD s' l=(s.cells.set k d).mapIdx fun i c=>nN ⟨c.pos,0,0,0⟩ (nM s.symbols i l):=by unfold fD;rw[hsym,hc]
 rw[e0]
 refine List.ext_getElem (by simp) fun j h1 h2=> ?_
 have hj:j<s.cells.length:=by simpa using h1
 rw[List.getElem_mapIdx,List.getElem_set,List.getElem_set]
 have hj2:(fD s l)[j]'(by rw[kU];exact hj)=(s.cells.set k c)[j]'(by simpa using hj):=by simp only[hE]
 rw[qC,List.getElem_set]at hj2
 by_cases e:k=j
 ·subst e
  rw[if_pos rfl,if_pos rfl]
  rw[if_pos rfl]at hj2
  rw[<-hj2]
  have:=Xn s.symbols k l
  apply AP<;>simp only[nN]<;>omega
 ·rw[if_neg e,if_neg e]
  rw[if_neg e]at hj2
  exact hj2
theorem aiu {α:Type} (l:List α) (k:Nat) (a b:α):(l.set k a).set k b=l.set k b:=by simp
theorem Oc {α:Type} (l:List α) (k:Nat) (x:α):aY l (itn (k:Int)) x=l.set k x:=by simp [aY,itn]
theorem SA {α:Type} (l:List α) (k:Nat) (x:α):aY l k x=l.set k x:=rfl
theorem yP {α:Type} [Inhabited α] (l:List α) (k:Nat) (h:k<l.length):aj l k=l[k]:=by simp [aj,h]
theorem ag6 (l:List aG) (k:Nat) (p:aG):(l.set k p).eraseIdx k=l.eraseIdx k:=by
 simp [List.eraseIdx_set_eq]
theorem aiH {c:bC} {p:aG} (h:p.phase=3):qE c p=c:=by
 have h1:lG p=0:=by unfold lG;rw[if_pos h]
 have h2:jc p=0:=by unfold jc;rw[if_pos h]
 unfold qE;rw[h1,h2];split<;>simp
theorem ah7 (c:bC) (o:aG):(qE c o).pos=c.pos:=by unfold qE;split<;>rfl
theorem ajz (c:bC) (o:aG):(qV c o).pos=c.pos:=by unfold qV;split<;>rfl
theorem aaJ {s:aC} (hR:iY s) (hr:ja s) (m:Nat) (hm:m<s.orders.length) (k:Nat) (hk:k<s.cells.length) (ha:atZ s.symbols s.orders[m]=(k:Int)) {p:aG} {what q:Int} (hp:ajr s.orders[m] p what q) (hq:what=3->1<=q):
 okC (qE (qV s.cells[k] s.orders[m]) p)/\(what=3->okC ⟨if s.orders[m].side=1 then s.cells[k].pos+q else s.cells[k].pos - q,(qE (qV s.cells[k] s.orders[m]) p).buy,(qE (qV s.cells[k] s.orders[m]) p).sell,(qE (qV s.cells[k] s.orders[m]) p).opn⟩):=by
 have h0:=aek hR hr m hm k hk ha
 have h1:=hR.ok s.cells[k] (List.getElem_mem _)
 have ho:=(hR.fine.ords _ (List.getElem_mem hm)).1
 have hs:=ho.1.2.2.2.1
 have hro:=hr.orders.1 _ (List.getElem_mem hm)
 have b1:=EI hp.ord hp.rng
 have b2:=EO hp.ord
 have b3:=hp.opn
 have b4:=hp.worth
 have b5:=hp.side
 rw[Ho]at h0 h1
 by_cases e:s.orders[m].side=2
 ·have ea:qE (qV s.cells[k] s.orders[m]) p=⟨s.cells[k].pos,s.cells[k].buy,s.cells[k].sell - lG s.orders[m]+lG p,s.cells[k].opn - jc s.orders[m]+jc p⟩:=by
   unfold qE qV;rw[b5,if_pos e,if_pos e]
  have es:qV s.cells[k] s.orders[m]=⟨s.cells[k].pos,s.cells[k].buy,s.cells[k].sell - lG s.orders[m],s.cells[k].opn - jc s.orders[m]⟩:=by unfold qV;rw[if_pos e]
  rw[ea,if_neg (by omega)]
  rw[es]at h0
  refine⟨?_,fun h3=> ?_⟩
  ·rw[Ho];unfold inI at *; simp only at *; split at b3<;>omega
  ·rw[if_pos h3]at b3
   have:=hq h3
   rw[Ho];unfold inI at *; simp only at *; omega
 ·have ea:qE (qV s.cells[k] s.orders[m]) p=⟨s.cells[k].pos,s.cells[k].buy - lG s.orders[m]+lG p,s.cells[k].sell,s.cells[k].opn - jc s.orders[m]+jc p⟩:=by
   unfold qE qV;rw[b5,if_neg e,if_neg e]
  have es:qV s.cells[k] s.orders[m]=⟨s.cells[k].pos,s.cells[k].buy - lG s.orders[m],s.cells[k].sell,s.cells[k].opn - jc s.orders[m]⟩:=by unfold qV;rw[if_neg e]
  rw[ea,if_pos (by omega)]
  rw[es]at h0
  refine⟨?_,fun h3=> ?_⟩
  ·rw[Ho];unfold inI at *; simp only at *; split at b3<;>omega
  ·rw[if_pos h3]at b3
   have:=hq h3
   rw[Ho];unfold inI at *; simp only at *; omega
theorem ab1 {s:aC} (hR:iY s) (m:Nat) (hm:m<s.orders.length) (k:Nat) (hk:k<s.cells.length) (ha:atZ s.symbols s.orders[m]=(k:Int)) {p:aG} (hp:atZ s.symbols p=(k:Int)):
 fD s (if p.phase=3 then s.orders.eraseIdx m else s.orders.set m p)=s.cells.set k (qE (qV s.cells[k] s.orders[m]) p):=by
 split
 ·rename_i h;rw[amc hR m hm k hk ha,aiH h]
 ·exact ajD hR m hm p k hk ha hp
theorem WO {s:aC} (hR:iY s) (r:jm) (m:Nat) (hm:m<s.orders.length) (k:Nat) (hk:k<s.cells.length) (ha:atZ s.symbols s.orders[m]=(k:Int)) {p:aG} (hp:atZ s.symbols p=(k:Int)):
 evS s r m p=⟨s.accounts,s.symbols,if p.phase=3 then s.orders.eraseIdx m else s.orders.set m p,
  s.cells.set k (if r.what=3 then ⟨if s.orders[m].side=1 then s.cells[k].pos+r.qty else s.cells[k].pos - r.qty,(qE (qV s.cells[k] s.orders[m]) p).buy,(qE (qV s.cells[k] s.orders[m]) p).sell,(qE (qV s.cells[k] s.orders[m]) p).opn⟩else qE (qV s.cells[k] s.orders[m]) p),
  s.limits,s.caps,s.kill,s.last,r.seq,s.lsn+1⟩:=by
 unfold evS
 rw[yP _ m hm,SA]
 have hmk:∀s':aC,s'.symbols=s.symbols->s'.cells=(if r.what=3 then agK s s.orders[m] r.qty else s.cells)->fD s' (if p.phase=3 then s.orders.eraseIdx m else s.orders.set m p)=
  s.cells.set k (if r.what=3 then ⟨if s.orders[m].side=1 then s.cells[k].pos+r.qty else s.cells[k].pos - r.qty,(qE (qV s.cells[k] s.orders[m]) p).buy,(qE (qV s.cells[k] s.orders[m]) p).sell,(qE (qV s.cells[k] s.orders[m]) p).opn⟩else qE (qV s.cells[k] s.orders[m]) p):=by
  intro s' h1 h2
  by_cases h3:r.what=3
  ·rw[if_pos h3]at h2 ⊢
   unfold agK at h2
   rw[ha,bQ _ k hk,Oc]at h2
   exact adK h1 hk h2 (ab1 hR m hm k hk ha hp)
  ·rw[if_neg h3]at h2 ⊢
   have:fD s' (if p.phase=3 then s.orders.eraseIdx m else s.orders.set m p)=fD s (if p.phase=3 then s.orders.eraseIdx m else s.orders.set m p):=by
    unfold fD;rw[h1,h2]
   rw[this,ab1 hR m hm k hk ha hp]
 exact congrArg (fun c=>aC.mk s.accounts s.symbols (if p.phase=3 then s.orders.eraseIdx m else s.orders.set m p) c s.limits s.caps s.kill s.last r.seq (s.lsn+1)) (hmk ⟨s.accounts,s.symbols,s.orders,if r.what=3 then agK s s.orders[m] r.qty else s.cells,s.limits,s.caps,s.kill,s.last,r.seq,s.lsn+1⟩ rfl rfl)
theorem aaf {s:aC} {r:jm} (hr:ja s) (hrr:nV r) (hl:s.orders.length<999999) (hl2:s.limits.length<999999) (hl3:s.caps.length<999999):zH s r=some (doS s r):=by
 obtain⟨b1,e1,q1⟩:=vK r
 obtain⟨b2,e2,q2⟩:=EC s hr hl hl2 hl3
 have bad:¬Tj s r->doS s r=(s,1):=fun h=>by unfold doS;rw[if_pos h]
 by_cases hA:s.lsn<1000000000/\xH r/\iY s
 case neg=>
  have hno:¬Tj s r:=fun h=>hA ⟨h.2.2.1,h.2.1,h.1⟩
  rw[bad hno]
  refine Wq.eq ?_
  unfold zH
  rw[nG hr.lsn (by decide),ai,qH]
  refine Wq.mono (Q:=fun y1=>y1=true->(inI (s.lsn+1)/\s.lsn<1000000000/\xH r)) ?_ fun y1 h1=> ?_
  ·rw[iH]
   refine⟨fun h=> ?_,fun h=>(ak _).2 (by simp)⟩
   rw[e1,ak]
   intro hb
   simp only[aZ,bV,dF,dL,bI,bK,dG,dK,bY,dQ,bD,bG,dV,dW]at h
   by_cases hin:inI (s.lsn+1)
   ·exact⟨hin,by omega,q1.1 hb⟩
   ·rw[if_neg hin]at h;simp at h
  rw[qH]
  refine Wq.mono (Q:=fun y2=>y2=true->(y1=true/\iY s)) ?_ fun y2 h2=> ?_
  ·rw[iH]
   refine⟨fun h=> ?_,fun h=>(ak _).2 (by simp)⟩
   rw[e2,ak]
   intro hb
   simp only[aZ,bV,dF,dL,bI,bK,dG,dK,bY,dQ,bD,bG,dV,dW]at h
   exact⟨by simpa using h.2,q2.1 hb⟩
  rw[iH]
  refine⟨fun _=>(ak _).2 rfl,fun h=> ?_⟩
  simp only[aZ,bV,dF,dL,bI,bK,dG,dK,bY,dQ,bD,bG,dV,dW]at h
  have g2:=h2 h.2
  have g1:=h1 g2.1
  exact absurd ⟨g1.2.1,g1.2.2,g2.2⟩ hA
 obtain⟨hlsn,hrec,hR⟩:=hA
 obtain rfl:=q1.2 hrec
 obtain rfl:=q2.2 hR
 have hs:=hR.sized
 obtain⟨lc,ll,lcp,lo⟩:=hs.lens
 have hl0:=hR.fine.lsn
 have hq0:=hR.fine.seq
 have h1a:=hs.1;have h1b:=hs.2.1
 have good:r.account<s.accounts->r.symbol<s.symbols->(r.kind=1->s.last<r.order)->Tj s r:=fun a b c=>⟨hR,hrec,hlsn,a,b,c⟩
 have hwr:wr .i64 (au s.lsn 1)=s.lsn+1:=alR hl0.1 hlsn
 have hall:∀o∈s.orders,uy o/\iF o:=fun o h=>⟨(hR.fine.ords o h).1,hr.orders.1 o h⟩
 unfold zH
 rw[nG hr.lsn (by decide),ai,if_pos (c:=inI (s.lsn+1)) ⟨by omega,by omega⟩]
 simp only[oN,aU,iD,KE (show ¬(1000000000:Int)<=s.lsn by omega),bJ,bH,aX,e1,e2,ai,acB (l:=s.orders) (by omega),aew (l:=s.cells) (by omega),aen (l:=s.limits) (by omega),adC (l:=s.caps) (by omega),hwr]
 have eta:(aC.mk s.accounts s.symbols s.orders s.cells s.limits s.caps s.kill s.last s.seq s.lsn)=s:=rfl
 simp only[eta]
 by_cases k1:r.kind=1
 ·rw[aH (by rw[bD];exact k1),YV hrec k1,ai]
  by_cases c1:r.order<=s.last
  ·rw[bad fun h=>by have:=h.2.2.2.2.2 k1;omega]
   simp only[jG c1,bH]
  by_cases c2:s.accounts<=r.account
  ·rw[bad fun h=>by have:=h.2.2.2.1;omega]
   simp only[KE c1,jG c2,bH,aX]
  by_cases c3:s.symbols<=r.symbol
  ·rw[bad fun h=>by have:=h.2.2.2.2.1;omega]
   simp only[KE c1,KE c2,jG c3,bH,aX]
  simp only[KE c1,KE c2,KE c3,aX]
  have hm:=good (by omega) (by omega) fun _=>by omega
  unfold doS
  rw[if_neg (fun h:¬Tj s r=>h hm),if_pos k1]
  by_cases hk:s.kill=true
  ·rw[if_pos hk,aH hk]
  rw[if_neg hk,dH (by simpa using hk),fC]
  by_cases h64:s.orders.length=64
  ·rw[if_pos (show len s.orders=64 by simp only[len];omega),if_pos h64]
  rw[if_neg (show ¬len s.orders=64 by simp only[len];omega),if_neg h64]
  obtain⟨ho,ho2⟩:=aaq hrec k1
  have hro:=Zj hrr
  have hrec':=hrec
  unfold xH at hrec'
  have hra:0<=r.account/\0<=r.symbol:=by omega
  obtain⟨k,g1,g2,g3⟩:=LD hs r.account r.symbol hra.1 (by omega) hra.2 (by omega)
  have hat:atZ s.symbols (jU r)=(k:Int):=g2.symm
  have hmk:=alL hR (jU r) k g3 hat
  rw[show bF s (jU r).account (jU r).symbol=some (k:Int)from g1,ai,aH (inb _ k g3),bQ _ k g3,G7 (hR.ok _ (List.getElem_mem _)) ho hro,ai]
  have hcells:fD s (dB s.orders [jU r])=s.cells.set k (qE s.cells[k] (jU r)):=hmk
  by_cases hok:okC (qE s.cells[k] (jU r))
  ·rw[if_pos hok]
   simp only[oN,aU,aX]
   rw[aH (jG (by simp [len,dB];omega)),Oc,<-hcells]
   have ht:sF ⟨s.accounts,s.symbols,dB s.orders [jU r],fD s (dB s.orders [jU r]),s.limits,s.caps,s.kill,(jU r).id,s.seq,s.lsn⟩:=yw hs rfl rfl (kU _ _) rfl rfl (by simp [dB];omega)
   obtain⟨e,he,hq⟩:=ale (a:=r.account) (y:=r.symbol) hR ht rfl rfl rfl rfl hra.1 (by omega) hra.2 (by omega) g2 g3 hcells hok
   rw[show dY _ s (jU r).account (jU r).symbol=some e from he,ai]
   exact hq
  ·rw[if_neg hok]
   simp only[Aw,bJ,bH]
   rw[afl (t:=⟨s.accounts,s.symbols,dB s.orders [jU r],fD s (dB s.orders [jU r]),s.limits,s.caps,s.kill,r.order,s.seq,s.lsn⟩) hR rfl rfl hra.1 (by omega) hra.2 (by omega) g2 g3 hcells hok]
 rw[dH (by rw[bG];exact k1)]
 by_cases k2:r.kind=2
 ·rw[aH (by rw[bD];exact k2),Hg s r.order (by omega),ai]
  have hrec':=hrec
  unfold xH at hrec'
  have hra:r.account=0/\r.symbol=0/\1<=r.qty/\1<=r.price:=by omega
  have hm:=good (by omega) (by omega) fun h=>absurd h k1
  unfold doS
  rw[if_neg (fun h:¬Tj s r=>h hm),if_neg k1,if_pos k2]
  cases hf:yK s.orders r.order with
  |none=>
   rw[Qx hf,aH (by decide)]
  |some m=>
   rw[JJ hf,dH (by rw[bG];omega)]
   obtain⟨hm1,hm2⟩:=nO hf
   simp only[aH (inb _ m hm1),bQ _ m hm1,yP _ m hm1]
   obtain⟨ho,hro⟩:=hall s.orders[m] (List.getElem_mem _)
   obtain⟨ch,ce,cq1,cq2⟩:=X4 ho hro hra.2.2.1 hra.2.2.2
   rw[ce,ai]
   by_cases hch:xG s.orders[m]
   case neg=>
    rw[if_pos hch,aH (by rw[bI,bG];exact cq2 hch)]
   rw[if_neg (fun h:¬xG s.orders[m]=>h hch)]
   obtain rfl:=cq1 hch
   simp only[oN,aU,aX]
   by_cases hk:s.kill=true
   ·rw[if_pos hk,aH hk]
   rw[if_neg hk,dH (by simpa using hk)]
   obtain⟨k,g1,g2,g3⟩:=aa1 hs (hR.fine.ords _ (List.getElem_mem hm1))
   have hpo:=Yt ho hch hra.2.2.1 hra.2.2.2
   have hpr:=X7 hro hch hrr.qty hrr.price
   have hat:atZ s.symbols (sW s.orders[m] r.qty r.price)=(k:Int):=g2
   have hsub:=aek hR hr m hm1 k g3 g2
   have hcells:fD s (aY s.orders m (sW s.orders[m] r.qty r.price))=s.cells.set k (qE (qV s.cells[k] s.orders[m]) (sW s.orders[m] r.qty r.price)):=ajD hR m hm1 _ k g3 g2 hat
   rw[g1,ai,aH (inb _ k g3),bQ _ k g3,Zx (hR.ok _ (List.getElem_mem _)) ho hro hsub,ai,G7 hsub hpo hpr,ai]
   have hoa:=(hR.fine.ords _ (List.getElem_mem hm1))
   have hob:=ho.1
   by_cases hok:okC (qE (qV s.cells[k] s.orders[m]) (sW s.orders[m] r.qty r.price))
   ·rw[if_pos hok]
    simp only[oN,aU,aX]
    rw[Oc s.cells,Oc s.orders,<-SA s.orders,<-hcells]
    have ht:sF (aai s (aY s.orders m (sW s.orders[m] r.qty r.price))):=yw hs rfl rfl (kU _ _) rfl rfl (by show(aY _ _ _).length<=64;rw[yx];omega)
    obtain⟨e,he,hq⟩:=ale (a:=s.orders[m].account) (y:=s.orders[m].symbol) hR ht rfl rfl rfl rfl hob.2.1.1 hoa.2.2.1 hob.2.2.1.1 hoa.2.2.2 g2.symm g3 hcells hok
    have he':dY ⟨s.accounts,s.symbols,aY s.orders m (sW s.orders[m] r.qty r.price),fD s (aY s.orders m (sW s.orders[m] r.qty r.price)),s.limits,s.caps,s.kill,s.last,s.seq,s.lsn⟩ s s.orders[m].account s.orders[m].symbol=some e:=he
    rw[he',ai]
    exact hq
   ·rw[if_neg hok]
    simp only[Aw,bJ,bH]
    rw[afl (t:=aai s (aY s.orders m (sW s.orders[m] r.qty r.price))) hR rfl rfl hob.2.1.1 hoa.2.2.1 hob.2.2.1.1 hoa.2.2.2 g2.symm g3 hcells hok]
 rw[dH (by rw[bG];exact k2)]
 by_cases k3:r.kind=3
 ·rw[aH (by rw[bD];exact k3),Hg s r.order (by omega),ai]
  have hrec':=hrec
  unfold xH at hrec'
  have hra:r.account=0/\r.symbol=0:=by omega
  have hm:=good (by omega) (by omega) fun h=>absurd h k1
  unfold doS
  rw[if_neg (fun h:¬Tj s r=>h hm),if_neg k1,if_neg k2,if_pos k3]
  cases hf:yK s.orders r.order with
  |none=>
   rw[Qx hf,aH (by decide)]
  |some m=>
   rw[JJ hf,dH (by rw[bG];omega)]
   obtain⟨hm1,hm2⟩:=nO hf
   have hoi:=hR.fine.ords _ (List.getElem_mem hm1)
   simp only[aH (inb _ m hm1),bQ _ m hm1,yP _ m hm1]
   rw[ab9 hoi.1 hoi.2.1,ai]
   by_cases ha:s.orders[m].asked=true
   ·rw[if_pos ha,if_pos ha];rfl
   ·rw[if_neg ha,if_neg ha,Oc];rfl
 rw[dH (by rw[bG];exact k3)]
 by_cases k4:r.kind=4
 ·rw[aH (by rw[bD];exact k4)]
  have hrec':=hrec
  unfold xH at hrec'
  by_cases c2:s.accounts<=r.account
  ·rw[bad fun h=>by have:=h.2.2.2.1;omega]
   simp only[jG c2,bH]
  by_cases c3:s.symbols<=r.symbol
  ·rw[bad fun h=>by have:=h.2.2.2.2.1;omega]
   simp only[KE c2,jG c3,bH,aX]
  simp only[KE c2,KE c3,aX]
  have hm:=good (by omega) (by omega) fun h=>absurd h k1
  unfold doS
  rw[if_neg (fun h:¬Tj s r=>h hm),if_neg k1,if_neg k2,if_neg k3,if_pos k4,fC]
  by_cases hy:r.symbol= -1
  ·rw[if_pos hy,if_pos hy,aH (DV (jG (by omega)) (Di (by simp only[len];omega)))]
  ·rw[if_neg hy,if_neg hy]
   obtain⟨k,g1,g2,g3⟩:=LD hs r.account r.symbol (by omega) (by omega) (by omega) (by omega)
   have g4:k<s.limits.length:=by omega
   rw[g1,ai,aH (inb _ k g4),g2]
 rw[dH (by rw[bG];exact k4)]
 by_cases k5:r.kind=5
 ·rw[aH (by rw[bD];exact k5)]
  have hrec':=hrec
  unfold xH at hrec'
  have hra:r.account=0/\r.symbol=0:=by omega
  have hm:=good (by omega) (by omega) fun h=>absurd h k1
  unfold doS
  rw[if_neg (fun h:¬Tj s r=>h hm),if_neg k1,if_neg k2,if_neg k3,if_neg k4,if_pos k5]
 rw[dH (by rw[bG];exact k5)]
 have hrec':=hrec
 unfold xH at hrec'
 have hra:r.account=0/\r.symbol=0:=by omega
 have hm:=good (by omega) (by omega) fun h=>absurd h k1
 unfold doS
 rw[if_neg (fun h:¬Tj s r=>h hm),if_neg k1,if_neg k2,if_neg k3,if_neg k4,if_neg k5]
 have hws:wr .i64 (au s.seq 1)=s.seq+1:=by unfold au;exact bU (by omega) (by omega)
 rw[hws,gm,fC]
 by_cases c1:r.seq=s.seq+1
 case neg=>
  rw[if_neg c1,if_pos c1]
 rw[if_pos c1,if_neg (fun h:r.seq≠s.seq+1=>h c1),Hg _ r.order (by show s.orders.length<_;omega),ai]
 show cnd (ieq (Pe s.orders r.order) (-1)) _ _=_
 cases hf:yK s.orders r.order with
 |none=>
  rw[Qx hf,aH (by decide)]
 |some m=>
  rw[JJ hf,dH (by rw[bG];omega)]
  obtain⟨hm1,hm2⟩:=nO hf
  simp only[aH (inb _ m hm1),bQ _ m hm1,yP _ m hm1]
  obtain⟨ho,hro⟩:=hall s.orders[m] (List.getElem_mem _)
  have hnote:xH (qy ⟨r.seq,r.what,r.order,r.qty,r.price⟩):=by
   have k6:r.kind=6:=by omega
   refine .inr (.inr (.inr (.inr (.inr ⟨rfl,?_⟩))))
   rcases hrec with h | h | h | h | h | h
   ·omega
   ·omega
   ·omega
   ·omega
   ·omega
   ·exact⟨h.2.1,rfl,rfl,rfl,rfl,rfl,rfl,rfl,h.2.2.2.2.2.2.2.2.2⟩
  rw[abz ho hro hnote hm2.symm hrr.qty]
  cases ht:O7 s.orders[m] r.what r.qty r.price with
  |none=>
   simp only[ai]
   rw[aH (by decide)]
  |some p=>
   simp only[ai,oN,aU,aX]
   have hq3:r.what=3->1<=r.qty:=fun h=>by omega
   have hp:=aee ho hro ht hq3 (fun h=>by omega) hrr.qty hrr.price
   obtain⟨k,g1,g2,g3⟩:=aa1 hs (hR.fine.ords _ (List.getElem_mem hm1))
   have hat:atZ s.symbols p=(k:Int):=by unfold atZ;rw[hp.account,hp.symbol];exact g2
   have hsub:=aek hR hr m hm1 k g3 g2
   obtain⟨hev1,hev2⟩:=aaJ hR hr m hm1 k g3 g2 hp hq3
   rw[show bF (aC.mk s.accounts s.symbols s.orders s.cells s.limits s.caps s.kill s.last r.seq s.lsn) s.orders[m].account s.orders[m].symbol=some (k:Int)from g1,ai,aH (inb _ k g3),bQ _ k g3,
    Zx (hR.ok _ (List.getElem_mem _)) ho hro hsub,ai]
   simp only[Oc,aiu]
   have gk:∀c:bC,aj (s.cells.set k c) (itn (k:Int))=c:=fun c=>by rw[bQ _ k (by simpa using g3),List.getElem_set_self]
   rw[gk,G7 hsub hp.ord hp.rng,if_pos hev1,ai,gk,WO hR r m hm1 k g3 g2 hat]
   have hdel:=aiL (l:=s.orders.set m p) (i:=m) (by simpa using hm1) (by simp;omega)
   rw[ag6]at hdel
   simp only[hdel,ai,fC]
   by_cases h3:r.what=3
   ·rw[if_pos h3,if_pos h3]
    have hside:=ho.1.2.2.2.1
    have e1:(qE (qV s.cells[k] s.orders[m]) p).pos=s.cells[k].pos:=by rw[ah7,ajz]
    have hn:=hev2 h3
    rw[<-e1]at hn
    rw[aeh hev1 hside (by have:=hq3 h3;omega) hrr.qty hn,ai,e1]
    split<;>rfl
   ·rw[if_neg h3,if_neg h3]
    split<;>rfl
theorem mk_pos (s:aC) (l:List aG) (j:Nat) (h:j<(fD s l).length):(fD s l)[j].pos=(s.cells[j]'(by simpa [fD] using h)).pos:=by
 rw[qC]
 have:=Xn s.symbols j l
 simp only[nN];omega
theorem aff {s t:aC} (h1:t.symbols=s.symbols) {l:List aG} (h2:t.cells=fD s l):t.cells=fD t l:=by
 have e0:fD t l=(fD s l).mapIdx fun i c=>nN ⟨c.pos,0,0,0⟩ (nM s.symbols i l):=by unfold fD;rw[h1,h2];rfl
 rw[e0,h2]
 refine List.ext_getElem (by simp) fun j g1 g2=> ?_
 rw[List.getElem_mapIdx,mk_pos,qC]
theorem akH {l:List aG} {o:aG} (h:JD l) (ho:∀x∈l,x.id<o.id):JD (l++[o]):=by
 unfold JD at*
 rw[List.pairwise_append]
 refine⟨h,by simp,fun a ha b hb=> ?_⟩
 rw[List.mem_singleton]at hb
 subst hb
 exact ho a ha
theorem aa0 {l:List aG} {m:Nat} (hm:m<l.length) {p:aG} (h:JD l) (hp:p.id=l[m].id):JD (l.set m p):=by
 unfold JD at*
 rw[List.pairwise_iff_getElem]at*
 intro i j hi hj hij
 have hi':i<l.length:=by simpa using hi
 have hj':j<l.length:=by simpa using hj
 have h0:=h i j hi' hj' hij
 rw[List.getElem_set,List.getElem_set]
 split
 ·rename_i e;subst e
  rw[if_neg (by omega),hp];exact h0
 ·split
  ·rename_i e;subst e
   rw[hp];exact h0
  ·exact h0
theorem aha {l:List aG} (m:Nat) (h:JD l):JD (l.eraseIdx m):=List.Pairwise.sublist (List.eraseIdx_sublist _ _) h
theorem aiC {l m:List bC} (hl:l.length=m.length) (h:∀(i:Nat) (h1:i<l.length) (h2:i<m.length),l[i].opn<=m[i].opn):pI l<=pI m:=by
 induction l generalizing m with
 |nil=>cases m with
  |nil=>exact Int.le_refl _
  |cons a r=>simp at hl
 |cons a l ih=>cases m with
  |nil=>simp at hl
  |cons b m=>
   have h0:=h 0 (by simp) (by simp)
   have:=ih (m:=m) (by simpa using hl) fun i h1 h2=>by
    have:=h (i+1) (by simp;omega) (by simp;omega)
    simpa using this
   unfold pI at*
   simp only[List.map_cons,List.sum_cons,List.getElem_cons_zero]at*
   omega
theorem ak0 {n:Int} {cs ds:List bC} (hl:cs.length=ds.length) (h:∀(i:Nat) (h1:i<cs.length) (h2:i<ds.length),cs[i].opn<=ds[i].opn) (a:Int):pI (rV n cs a)<=pI (rV n ds a):=by
 unfold rV
 refine aiC (by simp [hl]) fun i h1 h2=> ?_
 rw[List.getElem_take,List.getElem_take,List.getElem_drop,List.getElem_drop]
 exact h _ _ _
theorem alO {cs:List bC} {k:Nat} {c:bC} (hk:k<cs.length) (hc:c.opn<=cs[k].opn) (i:Nat) (h1:i<(cs.set k c).length) (h2:i<cs.length):(cs.set k c)[i].opn<=cs[i].opn:=by
 rw[List.getElem_set]
 split
 ·rename_i e;subst e;exact hc
 ·exact Int.le_refl _
theorem ahH {s:aC} (hR:iY s) {r:jm} (h:s.last<r.order):∀x∈s.orders,x.id<(jU r).id:=fun x hx=>by
 have:=hR.fine.ids x hx
 show x.id<r.order;omega
theorem lq {α:Type} {l:List α} {m:Nat} {p x:α} (h:x∈l.set m p):x∈l\/x=p:=List.mem_or_eq_of_mem_set h
theorem ZJ {s t:aC} (hR:iY s) (h1:t.accounts=s.accounts) (h2:t.symbols=s.symbols) (hl:t.limits=s.limits) (hc:t.caps=s.caps) (hq:t.seq=s.seq) (hls:t.lsn=s.lsn) (hlsn:s.lsn<1000000000)
 (ht:t.cells=fD s t.orders) (ho:∀o∈t.orders,Es s o) (has:JD t.orders) (hid:∀o∈t.orders,o.id<=t.last) (hla:0<=t.last/\t.last<=1000000000000) (hlen:t.orders.length<=64) (a y:Int):
 iY (Ou s t a y).1:=by
 unfold Ou
 split
 ·exact hR
 ·rename_i hf
  have hf:ac7 t:=Classical.not_not.1 hf
  split
  ·exact hR
  ·have hcl:t.cells.length=s.cells.length:=by rw[ht,kU]
   have hz:=hR.fine
   refine⟨yw hR.sized h1 h2 hcl (by rw[hl]) (by rw[hc]) hlen,⟨fun o h=> ?_,has,hid,hla,by rw[hq];exact hz.seq,?_,by rw[hl];exact hz.lims,by rw[hc];exact hz.caps⟩,?_,hf.1,hf.2⟩
   ·obtain⟨g1,g2,g3,g4⟩:=ho o h
    exact⟨g1,g2,by show o.account<t.accounts;omega,by show o.symbol<t.symbols;omega⟩
   ·have:=hz.lsn
    show 0<=t.lsn+1/\t.lsn+1<=1000000000
    omega
   ·have:=aff h2 ht
    exact this
theorem ag8 {s:aC} {r:jm} (hR:iY s) (hr:ja s) (hrr:nV r):iY (doS s r).1:=by
 unfold doS
 split
 ·exact hR
 rename_i hm
 have hm:Tj s r:=Classical.not_not.1 hm
 obtain⟨_,hrec,hlsn,hacc,hsym,hord⟩:=hm
 have hz:=hR.fine
 have hs:=hR.sized
 obtain⟨lc,ll,lcp,lo⟩:=hs.lens
 have hl0:=hz.lsn
 have hrec':=hrec
 unfold xH sO at hrec'
 split
 ·rename_i k1
  split
  ·exact hR
  split
  ·exact hR
  ·rename_i h64
   obtain⟨g1,g2⟩:=aaq hrec k1
   refine ZJ (t:=⟨s.accounts,s.symbols,dB s.orders [jU r],fD s (dB s.orders [jU r]),s.limits,s.caps,s.kill,r.order,s.seq,s.lsn⟩) hR rfl rfl rfl rfl rfl rfl hlsn rfl (fun o h=> ?_) (akH hz.asc (ahH hR (hord k1))) (fun o h=> ?_) (by show 0<=r.order/\r.order<=_;omega) (by show(s.orders++[_]).length<=64;simp;omega) _ _
   ·rcases List.mem_append.1 h with h | h
    ·exact hz.ords o h
    ·rw[List.mem_singleton]at h
     subst h
     exact⟨g1,by simp [jU],hacc,hsym⟩
   ·rcases List.mem_append.1 h with h | h
    ·have:=ahH hR (hord k1) o h
     show o.id<=r.order
     exact Int.le_of_lt this
    ·rw[List.mem_singleton]at h
     subst h;exact Int.le_refl _
 split
 ·rename_i k1 k2
  split
  ·exact hR
  rename_i m hf
  obtain⟨hm1,hm2⟩:=nO hf
  simp only[yP _ m hm1]
  split
  ·exact hR
  rename_i hch
  have hch:xG s.orders[m]:=Classical.not_not.1 hch
  split
  ·exact hR
  have hoi:=hz.ords _ (List.getElem_mem hm1)
  have hpo:=Yt (q:=r.qty) (p:=r.price) hoi.1 hch (by omega) (by omega)
  refine ZJ (t:=aai s (aY s.orders m (sW s.orders[m] r.qty r.price))) hR rfl rfl rfl rfl rfl rfl hlsn rfl (fun o h=> ?_) (aa0 hm1 hz.asc rfl) (fun o h=> ?_) hz.last (by show(s.orders.set _ _).length<=64;simp;omega) _ _
  ·rcases lq h with h | rfl
   ·exact hz.ords o h
   ·exact⟨hpo,by show s.orders[m].phase≠3;exact hoi.2.1,hoi.2.2.1,hoi.2.2.2⟩
  ·rcases lq h with h | rfl
   ·exact hz.ids o h
   ·exact hz.ids s.orders[m] (List.getElem_mem hm1)
 split
 ·rename_i k1 k2 k3
  split
  ·exact hR
  rename_i m hf
  obtain⟨hm1,hm2⟩:=nO hf
  simp only[yP _ m hm1]
  split
  ·exact hR
  have hoi:=hz.ords _ (List.getElem_mem hm1)
  refine⟨yw hs rfl rfl rfl rfl rfl (by show(s.orders.set _ _).length<=64;simp;omega),⟨fun o h=> ?_,aa0 hm1 hz.asc rfl,fun o h=> ?_,hz.last,hz.seq,⟨by show 0<=s.lsn+1;omega,by show s.lsn+1<=_;omega⟩,hz.lims,hz.caps⟩,?_,hR.ok,hR.acct⟩
  ·rcases lq h with h | rfl
   ·exact hz.ords o h
   ·exact⟨hoi.1,hoi.2.1,hoi.2.2.1,hoi.2.2.2⟩
  ·rcases lq h with h | rfl
   ·exact hz.ids o h
   ·exact hz.ids s.orders[m] (List.getElem_mem hm1)
  ·have e:∀j:Nat,nM s.symbols j (s.orders.set m (ajb s.orders[m]))=nM s.symbols j s.orders:=fun j=>by
    rw[Xe _ _ _ _ hm1,FX _ _ _ _ hm1];rfl
   refine hR.cells.trans ?_
   unfold fD
   simp only[SA,e]
 split
 ·rename_i k1 k2 k3 k4
  split
  ·rename_i hy
   refine⟨yw hs rfl rfl rfl rfl (yx _ _ _) lo,⟨hz.ords,hz.asc,hz.ids,hz.last,hz.seq,⟨by show 0<=s.lsn+1;omega,by show s.lsn+1<=_;omega⟩,hz.lims,fun x hx=> ?_⟩,hR.cells,hR.ok,hR.acct⟩
   rcases lq hx with h | rfl
   ·exact hz.caps x h
   ·omega
  ·rename_i hy
   refine⟨yw hs rfl rfl rfl (yx _ _ _) rfl lo,⟨hz.ords,hz.asc,hz.ids,hz.last,hz.seq,⟨by show 0<=s.lsn+1;omega,by show s.lsn+1<=_;omega⟩,fun x hx=> ?_,hz.caps⟩,hR.cells,hR.ok,hR.acct⟩
   rcases lq hx with h | rfl
   ·exact hz.lims x h
   ·unfold YJ;simp only;omega
 split
 ·exact⟨yw hs rfl rfl rfl rfl rfl lo,⟨hz.ords,hz.asc,hz.ids,hz.last,hz.seq,⟨by show 0<=s.lsn+1;omega,by show s.lsn+1<=_;omega⟩,hz.lims,hz.caps⟩,hR.cells,hR.ok,hR.acct⟩
 split
 ·exact hR
 rename_i k1 k2 k3 k4 k5 hseq
 have hseq:r.seq=s.seq+1:=Classical.not_not.1 hseq
 have hrs:0<=r.seq/\r.seq<=1000000000:=by omega
 split
 ·exact⟨yw hs rfl rfl rfl rfl rfl lo,⟨hz.ords,hz.asc,hz.ids,hz.last,hrs,⟨by show 0<=s.lsn+1;omega,by show s.lsn+1<=_;omega⟩,hz.lims,hz.caps⟩,hR.cells,hR.ok,hR.acct⟩
 rename_i m hf
 obtain⟨hm1,hm2⟩:=nO hf
 simp only[yP _ m hm1]
 split
 ·exact⟨yw hs rfl rfl rfl rfl rfl lo,⟨hz.ords,hz.asc,hz.ids,hz.last,hrs,⟨by show 0<=s.lsn+1;omega,by show s.lsn+1<=_;omega⟩,hz.lims,hz.caps⟩,hR.cells,hR.ok,hR.acct⟩
 rename_i p ht
 have hoi:=hz.ords _ (List.getElem_mem hm1)
 have hro:=hr.orders.1 _ (List.getElem_mem hm1)
 have hq3:r.what=3->1<=r.qty:=fun h=>by omega
 have hp:=aee hoi.1 hro ht hq3 (fun h=>by omega) hrr.qty hrr.price
 obtain⟨k,g1,g2,g3⟩:=aa1 hs hoi
 have hat:atZ s.symbols p=(k:Int):=by unfold atZ;rw[hp.account,hp.symbol];exact g2
 obtain⟨hev1,hev2⟩:=aaJ hR hr m hm1 k g3 g2 hp hq3
 have hcells:(evS s r m p).cells=fD (evS s r m p) (evS s r m p).orders:=aff (s:=⟨s.accounts,s.symbols,s.orders,if r.what=3 then agK s (aj s.orders m) r.qty else s.cells,s.limits,s.caps,s.kill,s.last,r.seq,s.lsn+1⟩) (t:=evS s r m p) rfl (l:=(evS s r m p).orders) rfl
 have hst:=WO hR r m hm1 k g3 g2 hat
 refine⟨?_,?_,hcells,?_,?_⟩
 ·rw[hst]
  refine yw hs rfl rfl (by simp) rfl rfl ?_
  show(if p.phase=3 then s.orders.eraseIdx m else s.orders.set m p).length<=64
  split
  ·have:=List.length_eraseIdx_le s.orders m;omega
  ·simp;omega
 ·rw[hst]
  have hmem:∀o∈(if p.phase=3 then s.orders.eraseIdx m else s.orders.set m p),o∈s.orders\/(o=p/\p.phase≠3):=fun o ho=>by
   split at ho
   ·exact .inl (List.mem_of_mem_eraseIdx ho)
   ·rename_i h3
    rcases lq ho with h | rfl
    ·exact .inl h
    ·exact .inr ⟨rfl,h3⟩
  refine⟨fun o ho=> ?_,?_,fun o ho=> ?_,hz.last,hrs,⟨by show 0<=s.lsn+1;omega,by show s.lsn+1<=_;omega⟩,hz.lims,hz.caps⟩
  ·rcases hmem o ho with h | ⟨rfl,h3⟩
   ·exact hz.ords o h
   ·exact⟨hp.ord,h3,by show o.account<s.accounts;rw[hp.account];exact hoi.2.2.1,by show o.symbol<s.symbols;rw[hp.symbol];exact hoi.2.2.2⟩
  ·show JD (if p.phase=3 then s.orders.eraseIdx m else s.orders.set m p)
   split
   ·exact aha m hz.asc
   ·exact aa0 hm1 hz.asc hp.id
  ·rcases hmem o ho with h | ⟨rfl,_⟩
   ·exact hz.ids o h
   ·show o.id<=s.last
    rw[hp.id];exact hz.ids _ (List.getElem_mem hm1)
 ·rw[hst]
  intro c hc
  rcases lq hc with h | rfl
  ·exact hR.ok c h
  ·split
   ·rename_i h3;exact hev2 h3
   ·exact hev1
 ·rw[hst]
  intro a h1 h2
  refine Int.le_trans (ak0 (by simp) (fun i g4 g5=>alO g3 ?_ i g4 g5) a) (hR.acct a h1 h2)
  have hw:=hp.worth
  have e:(qE (qV s.cells[k] s.orders[m]) p).opn<=s.cells[k].opn:=by
   have e1:(qE (qV s.cells[k] s.orders[m]) p).opn=s.cells[k].opn - jc s.orders[m]+jc p:=by unfold qE qV;split<;>split<;>rfl
   omega
  split
  ·exact e
  ·exact e
theorem VS {α:Type} {p:α->Prop} {l:List α} (h:okL p l) {k:Nat} {x:α} (hx:p x):okL p (l.set k x):=⟨fun y hy=>by
 rcases List.mem_or_eq_of_mem_set hy with h1 | rfl
 ·exact h.1 y h1
 ·exact hx,by have:=h.2;simpa using this⟩
structure DoQ (s:aC) (r:jm) (t:aC) (e:Int):Prop where
 bad:e≠0->t=s
 good:e=0->Tj s r/\t.lsn=s.lsn+1/\(t.seq=if r.kind=6 then s.seq+1 else s.seq)/\(t.last=if r.kind=1 then r.order else s.last)/\t.accounts=s.accounts/\t.symbols=s.symbols/\t.cells.length=s.cells.length/\t.limits.length=s.limits.length/\t.caps.length=s.caps.length/\t.orders.length<=64/\
  (r.kind≠4->t.limits=s.limits/\t.caps=s.caps)/\(r.kind≠5->t.kill=s.kill)/\(r.kind=6->r.seq=s.seq+1)
 rng:ja s->nV r->ja t
theorem Ak {s:aC} {r:jm} {e:Int} (he:e≠0):DoQ s r s e:=⟨fun _=>rfl,fun h=>absurd h he,fun h _=>h⟩
theorem alq {s t:aC} {r:jm} {a y:Int} (hm:Tj s r) (h6:r.kind≠6) (h1:t.accounts=s.accounts) (h2:t.symbols=s.symbols) (h3:t.limits=s.limits) (h4:t.caps=s.caps) (h5:t.seq=s.seq) (h7:t.lsn=s.lsn) (h8:t.last=if r.kind=1 then r.order else s.last) (h9:t.cells.length=s.cells.length) (h10:t.orders.length<=64) (h11:t.kill=s.kill)
 (hr:ja s->nV r->∀o∈t.orders,iF o):DoQ s r (Ou s t a y).1 (Ou s t a y).2:=by
 unfold Ou
 split
 ·exact Ak (by simp)
 ·rename_i hf
  have hf:ac7 t:=Classical.not_not.1 hf
  split
  ·exact Ak (by simp)
  ·refine⟨fun h=>absurd rfl h,fun _=>⟨hm,by show t.lsn+1=_;rw[h7],by rw[if_neg h6];exact h5,h8,h1,h2,h9,by rw[h3],by rw[h4],h10,fun _=>⟨h3,h4⟩,fun _=>h11,fun h=>absurd h h6⟩,fun hs hrr=> ?_⟩
   have hR:=hm.1
   have hz:=hR.fine
   have hlsn:=hm.2.2.1
   obtain⟨lc,ll,lcp,lo⟩:=hR.sized.lens
   have b3:=hz.lsn
   refine⟨by rw[h1];exact hs.accounts,by rw[h2];exact hs.symbols,⟨hr hs hrr,by show t.orders.length<=_;omega⟩,⟨fun c hc=>(hf.1 c hc).1,by show t.cells.length<=_;omega⟩,by rw[h3];exact hs.limits,by rw[h4];exact hs.caps,?_,by rw[h5];exact hs.seq,⟨by show _<=t.lsn+1;omega,by show t.lsn+1<=_;omega⟩⟩
   show inI t.last
   rw[h8];split
   ·exact hrr.order
   ·exact hs.last
theorem Vg (s:aC) (r:jm):DoQ s r (doS s r).1 (doS s r).2:=by
 unfold doS
 split
 ·exact Ak (by simp)
 rename_i hm
 have hm:Tj s r:=Classical.not_not.1 hm
 obtain⟨hR,hrec,hlsn,hacc,hsym,hord⟩:=id hm
 have hz:=hR.fine
 have hs:=hR.sized
 obtain⟨lc,ll,lcp,lo⟩:=hs.lens
 have hl0:=hz.lsn
 have hls:ja s->inI (s.lsn+1):=fun _=>⟨by omega,by omega⟩
 have hrec':=hrec
 unfold xH sO at hrec'
 split
 ·rename_i k1
  split
  ·exact Ak (by simp)
  split
  ·exact Ak (by simp)
  ·rename_i h64
   refine alq (t:=⟨s.accounts,s.symbols,dB s.orders [jU r],fD s (dB s.orders [jU r]),s.limits,s.caps,s.kill,r.order,s.seq,s.lsn⟩) hm (by omega) rfl rfl rfl rfl rfl rfl (by rw[if_pos k1]) (kU _ _) (by show(s.orders++[_]).length<=64;simp;omega) rfl fun hs hrr o h=> ?_
   rcases List.mem_append.1 h with h | h
   ·exact hs.orders.1 o h
   ·rw[List.mem_singleton]at h
    subst h
    exact Zj hrr
 split
 ·rename_i k1 k2
  split
  ·exact Ak (by simp)
  rename_i m hf
  obtain⟨hm1,hm2⟩:=nO hf
  simp only[yP _ m hm1]
  split
  ·exact Ak (by simp)
  rename_i hch
  have hch:xG s.orders[m]:=Classical.not_not.1 hch
  split
  ·exact Ak (by simp)
  refine alq (t:=aai s (aY s.orders m (sW s.orders[m] r.qty r.price))) hm (by omega) rfl rfl rfl rfl rfl rfl (by rw[if_neg k1];rfl) (kU _ _) (by show(s.orders.set _ _).length<=64;simp;omega) rfl fun hs hrr o h=> ?_
  rcases lq h with h | rfl
  ·exact hs.orders.1 o h
  ·exact X7 (hs.orders.1 _ (List.getElem_mem hm1)) hch hrr.qty hrr.price
 split
 ·rename_i k1 k2 k3
  split
  ·exact Ak (by simp)
  rename_i m hf
  obtain⟨hm1,hm2⟩:=nO hf
  simp only[yP _ m hm1]
  split
  ·exact Ak (by simp)
  exact⟨fun h=>absurd rfl h,fun _=>⟨hm,rfl,by rw[if_neg (by omega)],by rw[if_neg k1],rfl,rfl,rfl,rfl,rfl,by show(s.orders.set _ _).length<=64;simp;omega,fun _=>⟨rfl,rfl⟩,fun _=>rfl,fun h=>by omega⟩,
   fun h hrr=>⟨h.accounts,h.symbols,VS h.orders (ak2 (h.orders.1 _ (List.getElem_mem hm1))),h.cells,h.limits,h.caps,h.last,h.seq,hls h⟩⟩
 split
 ·rename_i k1 k2 k3 k4
  split
  ·exact⟨fun h=>absurd rfl h,fun _=>⟨hm,rfl,by rw[if_neg (by omega)],by rw[if_neg k1],rfl,rfl,rfl,rfl,yx _ _ _,lo,fun h=>absurd k4 h,fun _=>rfl,fun h=>by omega⟩,
    fun h hrr=>⟨h.accounts,h.symbols,h.orders,h.cells,h.limits,VS h.caps hrr.opn,h.last,h.seq,hls h⟩⟩
  ·exact⟨fun h=>absurd rfl h,fun _=>⟨hm,rfl,by rw[if_neg (by omega)],by rw[if_neg k1],rfl,rfl,rfl,yx _ _ _,rfl,lo,fun h=>absurd k4 h,fun _=>rfl,fun h=>by omega⟩,
    fun h hrr=>⟨h.accounts,h.symbols,h.orders,h.cells,VS h.limits ⟨hrr.long,hrr.short,hrr.opn⟩,h.caps,h.last,h.seq,hls h⟩⟩
 split
 ·rename_i k1 k2 k3 k4 k5
  exact⟨fun h=>absurd rfl h,fun _=>⟨hm,rfl,by rw[if_neg (by omega)],by rw[if_neg k1],rfl,rfl,rfl,rfl,rfl,lo,fun _=>⟨rfl,rfl⟩,fun h=>absurd k5 h,fun h=>by omega⟩,
   fun h hrr=>⟨h.accounts,h.symbols,h.orders,h.cells,h.limits,h.caps,h.last,h.seq,hls h⟩⟩
 split
 ·exact Ak (by simp)
 rename_i k1 k2 k3 k4 k5 hseq
 have hseq:r.seq=s.seq+1:=Classical.not_not.1 hseq
 have k6:r.kind=6:=by omega
 have ev:DoQ s r ⟨s.accounts,s.symbols,s.orders,s.cells,s.limits,s.caps,s.kill,s.last,r.seq,s.lsn+1⟩ 0:=
  ⟨fun h=>absurd rfl h,fun _=>⟨hm,rfl,by rw[if_pos k6];exact hseq,by rw[if_neg k1],rfl,rfl,rfl,rfl,rfl,lo,fun _=>⟨rfl,rfl⟩,fun _=>rfl,fun _=>hseq⟩,
   fun h hrr=>⟨h.accounts,h.symbols,h.orders,h.cells,h.limits,h.caps,h.last,hrr.seq,hls h⟩⟩
 split
 ·exact ev
 rename_i m hf
 obtain⟨hm1,hm2⟩:=nO hf
 simp only[yP _ m hm1]
 split
 ·exact ev
 rename_i p ht
 have hoi:=hz.ords _ (List.getElem_mem hm1)
 have hlen:(if p.phase=3 then s.orders.eraseIdx m else aY s.orders m p).length<=64:=by
  split
  ·have:=List.length_eraseIdx_le s.orders m;omega
  ·rw[yx];omega
 refine⟨fun h=>absurd rfl h,fun _=>⟨hm,rfl,by rw[if_pos k6];exact hseq,by rw[if_neg k1];rfl,rfl,rfl,?_,rfl,rfl,hlen,fun _=>⟨rfl,rfl⟩,fun _=>rfl,fun _=>hseq⟩,fun h hrr=> ?_⟩
 ·show(fD _ _).length=_
  rw[kU]
  show(if r.what=3 then agK s (aj s.orders m) r.qty else s.cells).length=_
  split
  ·exact yx _ _ _
  ·rfl
 ·have hro:=h.orders.1 _ (List.getElem_mem hm1)
  have hq3:r.what=3->1<=r.qty:=fun h=>by omega
  have hp:=aee hoi.1 hro ht hq3 (fun h=>by omega) hrr.qty hrr.price
  obtain⟨k,g1,g2,g3⟩:=aa1 hs hoi
  have hat:atZ s.symbols p=(k:Int):=by unfold atZ;rw[hp.account,hp.symbol];exact g2
  obtain⟨hev1,hev2⟩:=aaJ hR h m hm1 k g3 g2 hp hq3
  rw[WO hR r m hm1 k g3 g2 hat]
  refine⟨h.accounts,h.symbols,⟨fun o ho=> ?_,?_⟩,VS h.cells ?_,h.limits,h.caps,h.last,hrr.seq,hls h⟩
  ·show SN o
   have ho:o∈(if p.phase=3 then s.orders.eraseIdx m else s.orders.set m p):=ho
   split at ho
   ·exact h.orders.1 o (List.mem_of_mem_eraseIdx ho)
   ·rcases lq ho with h1 | rfl
    ·exact h.orders.1 o h1
    ·exact hp.rng
  ·show(if p.phase=3 then s.orders.eraseIdx m else s.orders.set m p).length<=_
   rw[SA]at hlen
   omega
  ·show Gu _
   split
   ·rename_i h3;exact(hev2 h3).1
   ·exact hev1.1
def qI (s:aC):Prop:=s.orders.length<999999/\s.cells.length<999999/\s.limits.length<999999/\s.caps.length<999999
theorem ajM (s:aC):Wq (qi s) fun b=>b=true->qI s:=by
 unfold qi qI
 simp only[ak,aZ,bV,dF,dL,bI,bK,dG,dK,bY,dQ,bD,bG,dV,dW,len]
 omega
theorem ag9 {s:aC} (h:qI s) (r:jm):qI (doS s r).1:=by
 have q:=Vg s r
 by_cases e:(doS s r).2=0
 ·obtain⟨_,_,_,_,_,_,h1,h2,h3,h4,_⟩:=q.good e
  unfold qI at *; omega
 ·rw[q.bad e];exact h
theorem akE {l:List aG} (h:JD l) {o:aG} (ho:o∈l):∃k:Nat,∃hk:k<l.length,yK l o.id=some k/\l[k]=o:=by
 cases hf:yK l o.id with
 |none=>exact absurd rfl (aeQ hf o ho)
 |some k=>
  obtain⟨hk,h1⟩:=nO hf
  obtain⟨j,hj,rfl⟩:=List.getElem_of_mem ho
  have:k=j:=h.find hk hj h1
  subst this
  exact⟨k,hk,rfl,rfl⟩
theorem ab4 {α β:Type} (l:List α) {i:Nat} (h:i<l.length) (x y z:β):cnd (ilt (i:Int) (len l)) (cnd (band (ile 0 (i:Int)) (ilt (i:Int) (len l))) x y) z=x:=by
 rw[aH (b:=ilt _ _) (Di (by unfold len;omega)),aH (inb l i h)]
theorem WH {α β:Type} (l:List α) (x y:β):cnd (ilt (l.length:Int) (len l)) x y=y:=dH (Bv (by unfold len;omega))
def lY (n:Int):Nat->List Int
 |0=>[]
 |k+1=>(n / 256^k%256)::lY n k
theorem pq (n:Int):∀k,(lY n k).length=k
 |0=>rfl
 |k+1=>by rw[lY,List.length_cons,pq n k]
def jw (l:List Int):Prop:=∀x∈l,0<=x/\x<=255
theorem mF (n:Int):∀k,jw (lY n k)
 |0=>by intro x hx;cases hx
 |k+1=>by
  intro x hx
  rcases List.mem_cons.1 hx with rfl | hx
  ·have h1:=Int.emod_nonneg (n / 256^k) (b:=256) (by decide)
   have h2:=Int.emod_lt_of_pos (n / 256^k) (b:=256) (by decide)
   omega
  ·exact mF n k x hx
theorem jw.app {a b:List Int} (h:jw a) (k:jw b):jw (a++b):=fun x hx=>by
 rcases List.mem_append.1 hx with h1 | h1
 ·exact h x h1
 ·exact k x h1
theorem jw.drop {l:List Int} (h:jw l) (n:Nat):jw (l.drop n):=fun x hx=>h x (List.mem_of_mem_drop hx)
theorem jw.take {l:List Int} (h:jw l) (n:Nat):jw (l.take n):=fun x hx=>h x (List.mem_of_mem_take hx)
theorem jw.get {l:List Int} (h:jw l) {i:Nat} (hi:i<l.length):0<=l[i]/\l[i]<=255:=h _ (List.getElem_mem hi)
theorem BV {α:Type} {f:α->List Int} {l:List α} (h:∀x∈l,jw (f x)):jw (l.flatMap f):=fun x hx=>by
 obtain⟨y,h1,h2⟩:=List.mem_flatMap.1 hx
 exact h y h1 x h2
theorem afB (n:Int):wr .u8 n=n%256:=by
 unfold wr IntKind.wrap
 simp [IntKind.bits,IntKind.signed]
theorem ajl (n:Int):wr .u32 n=n%4294967296:=by
 unfold wr IntKind.wrap
 simp [IntKind.bits,IntKind.signed]
theorem aiW {W X:Type} {step:Int×X->Option ((Int×X) ⊕ W)} {n:Nat} (hn:n<999999) (J:Nat->X->Prop) (R:W->Prop)
 (h:∀i x,i<n->J (i+1) x->Wq (step ((i:Int),x)) fun r=>match r with | .inl (k,x')=>k=(i:Int) - 1/\J i x' | .inr w=>R w)
 (he:∀x,J 0 x->Wq (step (-1,x)) fun r=>match r with | .inl _=>False | .inr w=>R w)
 (x:X) (hx:J n x):Wq (bM step LF ((n:Int) - 1,x)) R:=by
 refine WR (fun v:Int×X=>(v.1+1).toNat) (fun v:Int×X=>∃i:Nat,v.1=(i:Int) - 1/\i<=n/\J i v.2) R ?_ LF _ (adM (by simp only;omega)) ⟨n,rfl,Nat.le_refl _,hx⟩
 rintro⟨k,y⟩ ⟨i,rfl,hi,hj⟩
 cases i with
 |zero=>
  refine(he y hj).mono fun r hr=> ?_
  match r,hr with
  |.inl _,hr=>exact hr.elim
  |.inr w,hr=>exact hr
 |succ i=>
  have e:((i+1:Nat):Int) - 1=(i:Int):=by omega
  rw[e]
  refine(h i y (by omega) hj).mono fun r hr=> ?_
  match r,hr with
  |.inl (k,x'),hr=>
   obtain⟨rfl,h2⟩:=hr
   exact⟨⟨i,rfl,by omega,h2⟩,by simp only;omega⟩
  |.inr w,hr=>exact hr
theorem abd {i:Nat} (h:i<1000000):wr .i64 (aB (i:Int) 1)=(i:Int) - 1:=by
 unfold aB
 exact I9 ⟨by omega,by omega⟩
theorem byte_of {n:Int} {i:Nat} (hi:i<8):ile 0 (wr .i64 (gu 8 (i:Int)))=true/\wr .u8 (bP .i64 n (wr .i64 (gu 8 (i:Int))))=n / 256^i%256:=by
 have h1:wr .i64 (gu 8 (i:Int))=((8*i:Nat):Int):=by
  unfold gu
  rw[bU (by omega) (by omega)];omega
 have h2:min (((8*i:Nat):Int).toNat) (IntKind.bits .i64)=8*i:=by
  simp only[IntKind.bits,Int.toNat_natCast];omega
 rw[h1]
 refine⟨jG (by omega),?_⟩
 unfold bP
 rw[h2,Int.pow_mul,afB,Int.fdiv_eq_ediv_of_nonneg _ (Int.le_of_lt (Int.pow_pos (by decide)))]
 rfl
theorem UF {α:Type} {l:List α} {n:Nat} (h:l.length<=n) (hn:n<68719476736):ile (len l) 68719476736=true:=jG (by unfold len;omega)
theorem abb (n:Int) (k:Nat) (a:List Int):(a++lY n k).length=a.length+k:=by rw[List.length_append,pq]
theorem s_put {n:Int} {acc:List Int} (k:Nat) (hk:k<=8) (hl:acc.length<1000000):bM (fun v:Int×List Int=>o9 n v.1 v.2) LF ((k:Int) - 1,acc)=some (acc++lY n k):=by
 refine Wq.eq (aiW (n:=k) (by omega) (fun i x=>x++lY n i=acc++lY n k/\x.length+i=acc.length+k) _ (fun i x hi hj=> ?_) (fun x hj=> ?_) acc ⟨rfl,rfl⟩)
 ·obtain⟨h1,h2⟩:=byte_of (n:=n) (i:=i) (by omega)
  simp only
  unfold o9
  rw[h2,aH (jG (by omega)),aH h1,aH (UF (n:=1000100) (by simp only[dB,List.length_append,List.length_cons,List.length_nil];omega) (by decide)),ak]
  refine⟨abd (by omega),?_,?_⟩
  ·rw[<-hj.1]
   show(x++[_])++lY n i=x++(_::lY n i)
   rw[List.append_assoc];rfl
  ·simp only[dB,List.length_append,List.length_cons,List.length_nil];omega
 ·simp only
  unfold o9
  rw[dH (KE (by omega)),ak]
  have:=hj.1
  simpa [lY] using this
theorem Zd {acc:List Int} (k:Nat) (h0:0<k) (hk:k<=8) {l:List Int} (hl:acc.length+8*l.length<1000000):qL acc (k:Int) l=some (acc++l.flatMap fun n=>lY n k):=by
 have hn:l.length<999999:=by omega
 refine Wq.eq ?_
 unfold qL
 refine Wq.bind (Q:=fun y=>y=acc++l.flatMap fun n=>lY n k) ?_ fun y hy=>(ak _).2 hy
 refine lZ hn (fun i x=>x=acc++(l.take i).flatMap (fun n=>lY n k)/\x.length=acc.length+k*i) _ (fun i x hi hj=> ?_) (fun x hj=> ?_) acc 0 (Nat.zero_le _) ⟨by simp,by simp⟩
 ·simp only
  unfold xq
  have hki:k*i<=8*i:=Nat.mul_le_mul_right _ hk
  rw[ab4 l hi,bQ l i hi]
  have e:wr .i64 (aB (k:Int) 1)=(k:Int) - 1:=abd (by omega)
  rw[e,s_put k hk (by omega),ai,ak]
  refine⟨eu (by omega),?_,?_⟩
  ·rw[List.take_succ_eq_append_getElem hi,List.flatMap_append,hj.1]
   simp
  ·rw[abb,hj.2,Nat.mul_add];omega
 ·simp only
  unfold xq
  rw[WH,ak,hj.1,List.take_length]
theorem adg {acc:List Int} (k:Nat) (h0:0<k) (hk:k<=8) {l:List Int} (hl:acc.length+8*l.length<1000000):kL acc (k:Int) l=some (acc++l.flatMap fun n=>lY n k):=Zd k h0 hk hl
def unZ (l:List Int):Int:=l.foldl (fun n b=>n*256+b) 0
theorem alz (n c:Int):wr .i64 (wr .i64 n*256+c)=wr .i64 (n*256+c):=by
 unfold wr IntKind.wrap
 simp [IntKind.bits,IntKind.signed]
 omega
theorem ahN (n:Int):wr .i64 (n%18446744073709551616)=wr .i64 n:=by
 unfold wr IntKind.wrap
 simp [IntKind.bits,IntKind.signed]
theorem afF (a c:Int) (h1:0<=c) (h2:c<=255):wr .i64 (ior .i64 (wr .i64 (oJ .i64 a 8)) (wr .i64 c))=wr .i64 (a*256+c):=by
 have e1:oJ .i64 a 8=a*256:=rfl
 have e2:wr .i64 c=c:=bU h1 (by omega)
 rw[e1,e2,<-ahN (a*256+c)]
 congr 1
 unfold ior
 rw[BitVec.toNat_or,BitVec.toNat_ofInt,BitVec.toNat_ofInt]
 have e3:((2^IntKind.bits .i64:Nat):Int)=18446744073709551616:=by decide
 rw[e3]
 have e4:wr .i64 (a*256)%18446744073709551616=((a%72057594037927936).toNat*256:Nat):=by
  have:wr .i64 (a*256)%18446744073709551616=a*256%18446744073709551616:=by
   unfold wr IntKind.wrap
   simp [IntKind.bits,IntKind.signed]
   omega
  rw[this];omega
 have e5:c%18446744073709551616=(c.toNat:Int):=by omega
 rw[e4,e5,Int.toNat_natCast,Int.toNat_natCast]
 have e6:=Nat.shiftLeft_add_eq_or_of_lt (i:=8) (b:=c.toNat) (by omega) (a%72057594037927936).toNat
 rw[Nat.shiftLeft_eq]at e6
 rw[show(a%72057594037927936).toNat*256=(a%72057594037927936).toNat*2^8 from rfl,<-e6]
 omega
theorem agY (l:List Int) (a:Int):l.foldl (fun n b=>n*256+b) a=a*256^l.length+unZ l:=by
 induction l generalizing a with
 |nil=>simp [unZ]
 |cons b l ih=>
  unfold unZ
  rw[List.foldl_cons,List.foldl_cons,ih,ih (0*256+b),List.length_cons,Int.pow_succ]
  simp only[Int.zero_mul,Int.zero_add,Int.add_mul]
  rw[Int.mul_assoc,Int.mul_comm 256];omega
theorem XI (b:Int) (l:List Int):unZ (b::l)=b*256^l.length+unZ l:=by
 have:=agY l (0*256+b)
 unfold unZ at*
 rw[List.foldl_cons,this];simp
theorem af9:∀ {l:List Int},jw l->0<=unZ l/\unZ l<256^l.length
 |[],_=>by simp [unZ]
 |b::l,h=>by
  obtain⟨h1,h2⟩:=af9 (l:=l) fun x hx=>h x (by simp [hx])
  obtain⟨b1,b2⟩:=h b (by simp)
  rw[XI,List.length_cons,Int.pow_succ]
  have hp:(0:Int)<256^l.length:=Int.pow_pos (by decide)
  have q1:0<=b*256^l.length:=Int.mul_nonneg b1 (by omega)
  have q2:b*256^l.length<=255*256^l.length:=Int.mul_le_mul_of_nonneg_right b2 (by omega)
  exact⟨by omega,by omega⟩
theorem XA {m:Int}:∀(k:Nat) (n q:Int),m=n+q*256^k->lY m k=lY n k
 |0,_,_,_=>rfl
 |k+1,n,q,h=>by
  rw[Int.pow_succ]at h
  have hp:(256:Int)^k≠0:=by have:(0:Int)<256^k:=Int.pow_pos (by decide);omega
  have e:m=n+q*256*256^k:=by
   rw[h,<-Int.mul_assoc,Int.mul_assoc q,Int.mul_comm _ 256,<-Int.mul_assoc]
  rw[lY,lY,XA k n (q*256) e,e,Int.add_mul_ediv_right _ _ hp,Int.mul_comm q 256,Int.add_mul_emod_self_left]
theorem afA:∀ {l:List Int},jw l->lY (unZ l) l.length=l
 |[],_=>rfl
 |b::l,h=>by
  have hl:jw l:=fun x hx=>h x (by simp [hx])
  obtain⟨h1,h2⟩:=af9 hl
  obtain⟨b1,b2⟩:=h b (by simp)
  have hp:(256:Int)^l.length≠0:=by have:(0:Int)<256^l.length:=Int.pow_pos (by decide);omega
  rw[List.length_cons,lY,XA l.length (unZ l) b (by rw[XI,Int.add_comm]),afA hl,XI,Int.add_comm,Int.add_mul_ediv_right _ _ hp,Int.ediv_eq_zero_of_lt h1 h2]
  congr 1
  omega
theorem al8 (n:Int):∃q,wr .i64 n=n+q*256^8:=by
 have:(256:Int)^8=18446744073709551616:=by decide
 rw[this]
 unfold wr IntKind.wrap
 simp [IntKind.bits,IntKind.signed]
 exact⟨-((n+9223372036854775808) / 18446744073709551616),by omega⟩
theorem al4 (n:Int):lY (wr .i64 n) 8=lY n 8:=by
 obtain⟨q,h⟩:=al8 n
 exact XA 8 n q h
theorem ah8 {l:List Int} (h:jw l) (hl:l.length=8):lY (wr .i64 (unZ l)) 8=l:=by
 rw[al4,<-hl,afA h]
abbrev B32:=BitVec 32
def hB (x:B32):B32:=(x >>> 1) ^^^ (if x.getLsbD 0 then 0xedb88320#32 else 0#32)
def hN:Nat->B32->B32
 |0,x=>x
 |n+1,x=>hN n (hB x)
theorem amr (x y:B32):hB (x ^^^ y)=hB x ^^^ hB y:=by
 unfold hB
 rw[BitVec.ushiftRight_xor_distrib,BitVec.getLsbD_xor]
 cases x.getLsbD 0<;>cases y.getLsbD 0<;>simp [BitVec.xor_assoc]
 ·rw[BitVec.xor_comm (y >>> 1)]
 ·rw[<-BitVec.xor_assoc (3988292384#32),BitVec.xor_comm (3988292384#32) (y >>> 1),BitVec.xor_assoc];simp
theorem ah1:∀(n:Nat) (x y:B32),hN n (x ^^^ y)=hN n x ^^^ hN n y
 |0,_,_=>rfl
 |n+1,x,y=>by rw[hN,hN,hN,amr,ah1 n]
theorem al6 {y:B32} (h:y.getLsbD 31=false):hB (y <<< 1)=y:=by
 unfold hB
 have h0:(y <<< 1).getLsbD 0=false:=by simp
 rw[h0]
 refine BitVec.eq_of_getLsbD_eq fun i hi=> ?_
 simp only[BitVec.getLsbD_xor,BitVec.getLsbD_ushiftRight,BitVec.getLsbD_shiftLeft]
 by_cases h31:i=31
 ·subst h31
  have:y[31]=false:=by simpa using h
  simp [this]
 ·have:1+i<32:=by omega
  simp [this]
theorem ajp:∀(k:Nat) (y:B32),k<=32->(∀j,32 - k<=j->y.getLsbD j=false)->hN k (y <<< k)=y
 |0,y,_,_=>by simp [hN]
 |k+1,y,hk,h=>by
  have e:y <<< (k+1)=(y <<< k) <<< 1:=by rw[BitVec.shiftLeft_add]
  rw[hN,e,al6,ajp k y (by omega) fun j hj=>h j (by omega)]
  rw[BitVec.getLsbD_shiftLeft,h (31 - k) (by omega)]
  simp
theorem aa7:∀(a b:Nat) (x:B32),hN (a+b) x=hN b (hN a x)
 |0,b,x=>by rw[Nat.zero_add];rfl
 |a+1,b,x=>by rw[Nat.add_right_comm,hN,hN,aa7 a]
theorem aj8 (x:B32):hN 4 (x &&& 15#32) ^^^ (x >>> 4)=hN 4 x:=by
 have hs:=ajp 4 (x >>> 4) (by decide) fun j hj=>by
  rw[BitVec.getLsbD_ushiftRight];exact BitVec.getLsbD_of_ge _ _ (by omega)
 have e:x=(x &&& 15#32) ^^^ ((x >>> 4) <<< 4):=by
  refine BitVec.eq_of_getLsbD_eq fun i hi=> ?_
  simp only[BitVec.getLsbD_xor,BitVec.getLsbD_and,BitVec.getLsbD_shiftLeft,BitVec.getLsbD_ushiftRight]
  by_cases h4:i<4
  ·have h15:(15#32).getLsbD i=true:=by
    have:i=0\/i=1\/i=2\/i=3:=by omega
    rcases this with rfl | rfl | rfl | rfl<;>rfl
   rw[h15]
   simp [h4]
  ·have h15:(15#32).getLsbD i=false:=by
    have:(15#32)=BitVec.ofNat 32 15:=rfl
    rw[this,BitVec.getLsbD_ofNat]
    have:Nat.testBit 15 i=false:=Nat.testBit_lt_two_pow (Nat.lt_of_lt_of_le (by decide:15<2^4) (Nat.pow_le_pow_right (by decide) (by omega)))
    simp [this]
   have:4+(i - 4)=i:=by omega
   rw[h15,this]
   simp [h4,hi]
 conv=>rhs;rw[e,ah1,hs]
def ofB (b:Int):B32:=BitVec.ofInt 32 b
def toI (x:B32):Int:=(x.toNat:Int)
theorem akt (x:B32):0<=toI x/\toI x<4294967296:=by
 have:=x.isLt
 unfold toI
 omega
theorem VK (x:B32):ofB (toI x)=x:=by
 apply BitVec.eq_of_toNat_eq
 unfold ofB toI
 rw[BitVec.toNat_ofInt]
 have:=x.isLt
 omega
theorem akK {b:Int} (h1:0<=b) (h2:b<4294967296):toI (ofB b)=b:=by
 unfold ofB toI
 rw[BitVec.toNat_ofInt]
 omega
theorem ahI (x:B32):wr .u32 (toI x)=toI x:=by
 have:=akt x
 rw[ajl];omega
theorem OY (x y:B32):wr .u32 (gY .u32 (toI x) (toI y))=toI (x ^^^ y):=by
 have:gY .u32 (toI x) (toI y)=toI (x ^^^ y):=by
  show((BitVec.ofInt 32 (toI x) ^^^ BitVec.ofInt 32 (toI y)).toNat:Int)=_
  have h1:=VK x
  have h2:=VK y
  unfold ofB at h1 h2
  rw[h1,h2];rfl
 rw[this,ahI]
theorem acz (x y:B32):wr .u32 (mW .u32 (toI x) (toI y))=toI (x &&& y):=by
 have:mW .u32 (toI x) (toI y)=toI (x &&& y):=by
  show((BitVec.ofInt 32 (toI x) &&& BitVec.ofInt 32 (toI y)).toNat:Int)=_
  have h1:=VK x
  have h2:=VK y
  unfold ofB at h1 h2
  rw[h1,h2];rfl
 rw[this,ahI]
theorem ahO (x:B32) (k:Nat) (hk:k<=32):bP .u32 (toI x) (k:Int)=toI (x >>> k):=by
 unfold bP toI
 have:min ((k:Int).toNat) (IntKind.bits .u32)=k:=by simp only[IntKind.bits,Int.toNat_natCast];omega
 rw[this,Int.fdiv_eq_ediv_of_nonneg _ (Int.le_of_lt (Int.pow_pos (by decide))),BitVec.toNat_ushiftRight,Nat.shiftRight_eq_div_pow]
 simp
theorem ada {b:Int} (h1:0<=b) (h2:b<=255):wr .u32 b=toI (ofB b):=by
 rw[akK h1 (by omega),ajl];omega
theorem ana (x:B32):(toI x%2=1)↔x.getLsbD 0=true:=by
 unfold toI
 rw[BitVec.getLsbD,Nat.testBit_zero]
 simp only[decide_eq_true_eq]
 omega
theorem JI (x:B32):dn (toI x)=some (toI (hN 4 x)):=by
 refine Wq.eq ?_
 unfold dn
 refine Wq.bind (Q:=fun y=>y=toI (hN 4 x)) ?_ fun y hy=>(ak _).2 hy
 refine lZ (n:=4) (by decide) (fun i v=>v=toI (hN i x)) _ (fun i v hi hj=> ?_) (fun v hj=> ?_) _ 0 (by decide) rfl
 ·subst hj
  simp only
  unfold CZ
  rw[aH (Di (by omega))]
  have e1:(1:Int)=toI 1#32:=rfl
  have e15:(3988292384:Int)=toI 3988292384#32:=rfl
  have e2:bP .u32 (toI (hN i x)) 1=toI (hN i x >>> 1):=ahO _ 1 (by decide)
  rw[e2,e15,OY]
  have hb:wr .u32 (mW .u32 (toI (hN i x)) 1)=toI (hN i x &&& 1#32):=by conv=>lhs;rw[e1,acz]
  rw[hb,aa7 i 1]
  have hl:(ieq (toI (hN i x &&& 1#32)) 1=true)↔(hN i x).getLsbD 0=true:=by
   rw[bD,<-ana]
   unfold toI
   have:(hN i x &&& 1#32).toNat=(hN i x).toNat%2:=by
    rw[BitVec.toNat_and]
    exact Nat.and_two_pow_sub_one_eq_mod _ 1
   rw[this];omega
  cases hc:ieq (toI (hN i x &&& 1#32)) 1 with
  |true=>
   rw[bH,ak]
   refine⟨eu (by omega),?_⟩
   show _=toI (hB (hN i x))
   unfold hB
   rw[if_pos (hl.1 hc)]
  |false=>
   rw[aX,ak]
   refine⟨eu (by omega),?_⟩
   show _=toI (hB (hN i x))
   unfold hB
   rw[if_neg (fun h=>by rw[hl.2 h]at hc;cases hc),BitVec.xor_zero]
 ·subst hj
  simp only
  unfold CZ
  rw[dH (Bv (by omega)),ak]
def ones:B32:=BitVec.allOnes 32
def YX (n:B32) (l:List Int):B32:=l.foldl (fun n b=>hN 8 (n ^^^ ofB b)) n
def zW (l:List Int):Int:=toI (ones ^^^ YX ones l)
theorem ajm (n:B32) (a b:List Int):YX n (a++b)=YX (YX n a) b:=List.foldl_append
theorem Y8 {l:List Int} (hl:l.length<999999) (hb:jw l):Je l=some (zW l):=by
 refine Wq.eq ?_
 unfold Je Qa
 have e0:(4294967295:Int)=toI ones:=rfl
 have e00:(0:Int)=toI 0#32:=rfl
 have e15:(15:Int)=toI 15#32:=rfl
 refine Wq.bind (Q:=fun y=>y=zW l) (Wq.bind (Q:=fun y=>y=toI (YX ones l)) ?_ fun y hy=> ?_) fun y hy=>(ak _).2 hy
 ·have hi0:wr .u32 (gY .u32 4294967295 0)=toI ones:=by
   conv=>lhs;rw[e0,e00,OY]
   simp
  rw[hi0]
  refine lZ hl (fun i v=>v=toI (YX ones (l.take i))) _ (fun i v hi hj=> ?_) (fun v hj=> ?_) _ 0 (Nat.zero_le _) rfl
  ·subst hj
   simp only
   unfold CS
   obtain⟨b1,b2⟩:=hb.get hi
   have e4:∀x:B32,bP .u32 (toI x) 4=toI (x >>> 4):=fun x=>ahO x 4 (by decide)
   rw[ab4 l hi,bQ l i hi,ada b1 b2,OY,e15,acz,JI,ai,e4,OY,aj8,acz,JI,ai,e4,OY,aj8,ak]
   refine⟨eu (by omega),?_⟩
   rw[List.take_succ_eq_append_getElem hi,ajm,<-aa7]
   rfl
  ·subst hj
   simp only
   unfold CS
   rw[WH,ak,List.take_length]
 ·subst hy
  rw[ak]
  conv=>lhs;rw[e0,OY]
  rfl
def wF (n:Int):List Int:=[n%256,n / 256%256,n / 65536%256,n / 16777216%256]
theorem Qh (n:Int):jw (wF n):=fun x hx=>by
 unfold wF at hx
 simp only[List.mem_cons,List.not_mem_nil,or_false]at hx
 rcases hx with rfl | rfl | rfl | rfl<;>omega
def ajW (b:Bool):Int:=if b then 1 else 0
theorem Zb (b:Bool):Ob b=some (ajW b):=by cases b<;>rfl
def p8 (l:List Int):List Int:=l.flatMap fun n=>lY n 8
def p1 (l:List Int):List Int:=l.flatMap fun n=>lY n 1
theorem flat_length {α β:Type} {f:α->List β} {m:Nat} (h:∀x,(f x).length=m):∀l:List α,(l.flatMap f).length=m*l.length
 |[]=>rfl
 |x::l=>by rw[List.flatMap_cons,List.length_append,h,flat_length h l,List.length_cons,Nat.mul_add,Nat.mul_one,Nat.add_comm]
theorem JX (l:List Int):(p8 l).length=8*l.length:=flat_length (fun x=>pq x 8) l
theorem XG (l:List Int):(p1 l).length=1*l.length:=flat_length (fun x=>pq x 1) l
theorem NU (l:List Int):jw (p8 l):=BV fun x _=>mF x 8
theorem abH (l:List Int):jw (p1 l):=BV fun x _=>mF x 1
def Ee (o:aG):List Int:=p8 [o.id]++(p1 [o.account,o.symbol,o.side,o.phase]++(p8 [o.qty,o.price,o.filled,o.newQty,o.newPrice,o.version]++p1 [ajW o.asked]))
def Rn (c:bC):List Int:=p8 [c.pos]
def aeW (l:jL):List Int:=p8 [l.long,l.short,l.opn]
def magic:List Int:=[115,110,97,102]
def headB (s:aC):List Int:=magic++(p1 [s.accounts,s.symbols,ajW s.kill,len s.orders]++p8 [s.last,s.seq,s.lsn])
def Nz (s:aC):List Int:=headB s++(s.orders.flatMap Ee++(s.cells.flatMap Rn++(s.limits.flatMap aeW++p8 s.caps)))
def encZ (s:aC):List Int:=Nz s++wF (zW (Nz s))
theorem Ju (o:aG):(Ee o).length=61:=by simp [Ee,JX,XG]
theorem TF (c:bC):(Rn c).length=8:=by simp [Rn,JX]
theorem abS (c:jL):(aeW c).length=24:=by simp [aeW,JX]
theorem ZI (s:aC):(headB s).length=32:=by simp [headB,magic,JX,XG]
theorem aam (s:aC):(Nz s).length=32+61*s.orders.length+8*s.cells.length+24*s.limits.length+8*s.caps.length:=by
 simp only[Nz,List.length_append,ZI,flat_length Ju,flat_length TF,flat_length abS,JX]
 omega
theorem WE (s:aC):(encZ s).length=36+61*s.orders.length+8*s.cells.length+24*s.limits.length+8*s.caps.length:=by
 simp only[encZ,List.length_append,aam,wF,List.length_cons,List.length_nil]
 omega
theorem aeN:jw magic:=fun x hx=>by
 simp only[magic,List.mem_cons,List.not_mem_nil,or_false]at hx
 rcases hx with rfl | rfl | rfl | rfl<;>decide
theorem acn (o:aG):jw (Ee o):=(NU _).app ((abH _).app ((NU _).app (abH _)))
theorem VU (s:aC):jw (Nz s):=
 (aeN.app ((abH _).app (NU _))).app ((BV fun o _=>acn o).app ((BV fun c _=>NU _).app ((BV fun c _=>NU _).app (NU _))))
theorem TL (s:aC):jw (encZ s):=(VU s).app (Qh _)
theorem agx {acc l:List Int} (h:acc.length+8*l.length<1000000):kL acc 8 l=some (acc++p8 l):=adg 8 (by decide) (by decide) h
theorem amC {acc l:List Int} (h:acc.length+8*l.length<1000000):qL acc 1 l=some (acc++p1 l):=Zd 1 (by decide) (by decide) h
theorem iY.few {s:aC} (h:iY s):s.orders.length<=64/\s.cells.length<=64/\s.limits.length=s.cells.length/\s.caps.length=s.accounts.toNat/\s.accounts.toNat<=8/\(s.cells.length:Int)=s.accounts*s.symbols/\(1<=s.accounts/\s.accounts<=8)/\(1<=s.symbols/\s.symbols<=8):=by
 obtain⟨h1,h2,h3,h4⟩:=h.sized.lens
 have:=h.sized.1
 exact⟨h4,h1,h2,h3,by omega,h.sized.2.2.1,this,h.sized.2.1⟩
theorem aea {a b n:Int} (ha:1<=a/\a<=8) (hb:1<=b/\b<=8) (hn:0<=n/\n<=255):JO a b n=some (36+n*61+a*b*32+a*8):=by
 unfold JO au gu
 have m:=IV (a:=a) (b:=b) (by omega) (by omega) (by omega) (by omega)
 rw[bU (n:=n*61) (by omega) (by omega),bU (n:=32+n*61) (by omega) (by omega),bU (n:=a*b) (by omega) (by omega),bU (n:=a*b*32) (by omega) (by omega),bU (n:=32+n*61+a*b*32) (by omega) (by omega),bU (n:=a*8) (by omega) (by omega),bU (n:=32+n*61+a*b*32+a*8) (by omega) (by omega),bU (by omega) (by omega)]
 congr 1;omega
theorem aeZ {s:aC} (hr:ja s) (hsh:qI s) (h:iY s):BK s=some (len (encZ s)):=by
 refine Wq.eq ?_
 unfold BK
 refine(EC s hr hsh.1 hsh.2.2.1 hsh.2.2.2).bind fun b hb=> ?_
 obtain⟨f1,f2,f3,f4,f5,f6,f7,f8⟩:=h.few
 rw[hb.2 h,aU,aX,aea f7 f8 (by unfold len;omega),ai,ak]
 unfold len
 rw[WE,<-f6]
 omega
theorem Yg {s:aC} (hr:ja s) (hsh:qI s) (h:¬iY s):BK s=some 0:=by
 refine Wq.eq ?_
 unfold BK
 refine(EC s hr hsh.1 hsh.2.2.1 hsh.2.2.2).bind fun b hb=> ?_
 have:b=false:=by cases b with
  |false=>rfl
  |true=>exact absurd (hb.1 rfl) h
 subst this
 rw[bJ,bH,ak]
theorem MF {n:Int} {i:Nat} (hi:i<4):ile 0 (wr .i64 (gu 8 (i:Int)))=true/\wr .u8 (bP .u32 n (wr .i64 (gu 8 (i:Int))))=n / 256^i%256:=by
 have h1:wr .i64 (gu 8 (i:Int))=((8*i:Nat):Int):=by
  unfold gu
  rw[bU (by omega) (by omega)];omega
 have h2:min (((8*i:Nat):Int).toNat) (IntKind.bits .u32)=8*i:=by
  simp only[IntKind.bits,Int.toNat_natCast];omega
 rw[h1]
 refine⟨jG (by omega),?_⟩
 unfold bP
 rw[h2,Int.pow_mul,afB,Int.fdiv_eq_ediv_of_nonneg _ (Int.le_of_lt (Int.pow_pos (by decide)))]
 rfl
theorem ai1 (n:Int) {i:Nat} (hi:i<4):(wF n)[i]'(by simpa [wF] using hi)=n / 256^i%256:=by
 have:i=0\/i=1\/i=2\/i=3:=by omega
 rcases this with rfl | rfl | rfl | rfl
 ·have:(256:Int)^0=1:=rfl
  simp only[wF,this,List.getElem_cons_zero];omega
 ·rfl
 ·rfl
 ·rfl
theorem ahj (n:Int) {i:Nat} (hi:i<4) (acc:List Int):acc++(wF n).take i++[n / 256^i%256]=acc++(wF n).take (i+1):=by
 rw[List.take_succ_eq_append_getElem (by simpa [wF] using hi),ai1 n hi,List.append_assoc]
theorem aaZ {s:aC} (hr:ja s) (hsh:qI s) (h:iY s):sU s=some (encZ s,0):=by
 refine Wq.eq ?_
 obtain⟨f1,f2,f3,f4,f5,f6,f7,f8⟩:=h.few
 have hel:=WE s
 unfold sU
 have hz:ieq (len (encZ s)) 0=false:=by rw[bG];unfold len;omega
 have hm:dB (jY Int 0) (s2u [UInt8.ofNat 115,UInt8.ofNat 110,UInt8.ofNat 97,UInt8.ofNat 102])=magic:=by decide
 rw[aeZ hr hsh h,ai,hz,aX,aH (DV (jG (by unfold len;omega)) (jG (by unfold len;omega))),Zb,ai,hm,amC (by simp [magic]),ai,
  agx (by simp [magic,XG]),ai]
 have hhead:magic++p1 [s.accounts,s.symbols,ajW s.kill,len s.orders]++p8 [s.last,s.seq,s.lsn]=headB s:=by rw[headB,List.append_assoc]
 rw[hhead]
 have hl0:=ZI s
 refine Wq.bind (Q:=fun y=>y=headB s++s.orders.flatMap Ee) ?_ fun y hy=> ?_
 ·refine lZ (n:=s.orders.length) (by omega) (fun i x=>x=headB s++(s.orders.take i).flatMap Ee) _ (fun i x hi hj=> ?_) (fun x hj=> ?_) _ 0 (Nat.zero_le _) (by simp)
  ·simp only
   unfold uF
   have hx:x.length=32+61*i:=by
    rw[hj,List.length_append,hl0,flat_length Ju,List.length_take];omega
   rw[ab4 s.orders hi,bQ _ i hi,agx (by simp;omega),ai,amC (by simp [JX];omega),ai,agx (by simp [JX,XG];omega),ai,Zb,ai,amC (by simp [JX,XG];omega),ai,ak]
   refine⟨eu (by omega),?_⟩
   rw[List.take_succ_eq_append_getElem hi,List.flatMap_append,hj]
   simp [Ee]
  ·simp only
   unfold uF
   rw[WH,ak,hj,List.take_length]
 subst hy
 refine Wq.bind (Q:=fun y=>y=headB s++s.orders.flatMap Ee++s.cells.flatMap Rn) ?_ fun y hy=> ?_
 ·refine lZ (n:=s.cells.length) (by omega) (fun i x=>x=headB s++s.orders.flatMap Ee++(s.cells.take i).flatMap Rn) _ (fun i x hi hj=> ?_) (fun x hj=> ?_) _ 0 (Nat.zero_le _) (by simp)
  ·simp only
   unfold uG
   have hx:x.length=32+61*s.orders.length+8*i:=by
    rw[hj,List.length_append,List.length_append,hl0,flat_length Ju,flat_length TF,List.length_take];omega
   rw[ab4 s.cells hi,bQ _ i hi,agx (by simp;omega),ai,ak]
   refine⟨eu (by omega),?_⟩
   rw[List.take_succ_eq_append_getElem hi,List.flatMap_append,hj]
   simp [Rn]
  ·simp only
   unfold uG
   rw[WH,ak,hj,List.take_length]
 subst hy
 refine Wq.bind (Q:=fun y=>y=headB s++s.orders.flatMap Ee++s.cells.flatMap Rn++s.limits.flatMap aeW) ?_ fun y hy=> ?_
 ·refine lZ (n:=s.limits.length) (by omega) (fun i x=>x=headB s++s.orders.flatMap Ee++s.cells.flatMap Rn++(s.limits.take i).flatMap aeW) _ (fun i x hi hj=> ?_) (fun x hj=> ?_) _ 0 (Nat.zero_le _) (by simp)
  ·simp only
   unfold uX
   have hx:x.length=32+61*s.orders.length+8*s.cells.length+24*i:=by
    rw[hj,List.length_append,List.length_append,List.length_append,hl0,flat_length Ju,flat_length TF,flat_length abS,List.length_take];omega
   rw[ab4 s.limits hi,bQ _ i hi,agx (by simp;omega),ai,ak]
   refine⟨eu (by omega),?_⟩
   rw[List.take_succ_eq_append_getElem hi,List.flatMap_append,hj]
   simp [aeW]
  ·simp only
   unfold uX
   rw[WH,ak,hj,List.take_length]
 subst hy
 have hbl:=aam s
 have hb:headB s++s.orders.flatMap Ee++s.cells.flatMap Rn++s.limits.flatMap aeW++p8 s.caps=Nz s:=by simp [Nz]
 rw[agx (by
  have:=congrArg List.length hb
  rw[List.length_append,JX]at this
  omega),ai,hb,Y8 (by omega) (VU s),ai]
 refine Wq.bind (Q:=fun y=>y=encZ s) ?_ fun y hy=>by rw[ak,hy]
 refine lZ (n:=4) (by decide) (fun i x=>x=Nz s++(wF (zW (Nz s))).take i) _ (fun i x hi hj=> ?_) (fun x hj=> ?_) _ 0 (by decide) (by simp)
 ·simp only
  unfold tC
  obtain⟨q1,q2⟩:=MF (n:=zW (Nz s)) hi
  have hx:x.length<=(Nz s).length+4:=by
   rw[hj,List.length_append,List.length_take];omega
  rw[aH (Di (by omega)),aH q1,q2,aH (UF (n:=1000000) (by simp [dB];omega) (by decide)),ak]
  refine⟨eu (by omega),?_⟩
  rw[hj]
  exact ahj _ hi _
 ·simp only
  unfold tC
  rw[dH (Bv (by omega)),ak,hj]
  rfl
theorem Tt {s:aC} (hr:ja s) (hsh:qI s) (h:¬iY s):sU s=some ([],1):=by
 unfold sU
 rw[Yg hr hsh h,ai]
 rfl
theorem aiP (n:Int) {j:Nat} (hj:j<8):n%18446744073709551616 / 256^j%256=n / 256^j%256:=by
 have:j=0\/j=1\/j=2\/j=3\/j=4\/j=5\/j=6\/j=7:=by omega
 rcases this with rfl | rfl | rfl | rfl | rfl | rfl | rfl | rfl
 ·rw[show(256:Int)^0=1 by decide];omega
 ·rw[show(256:Int)^1=256 by decide];omega
 ·rw[show(256:Int)^2=65536 by decide];omega
 ·rw[show(256:Int)^3=16777216 by decide];omega
 ·rw[show(256:Int)^4=4294967296 by decide];omega
 ·rw[show(256:Int)^5=1099511627776 by decide];omega
 ·rw[show(256:Int)^6=281474976710656 by decide];omega
 ·rw[show(256:Int)^7=72057594037927936 by decide];omega
def at8 (b:List Int) (i:Nat):Int:=wr .i64 (unZ ((b.drop i).take 8))
def b1 (n:Int):Prop:=0<=n/\n<=255
theorem ah6 {l:List Int} (h:okL af0 l):jw l:=fun x hx=>h.1 x hx
def msgP (m:kM):Prop:=sO m.order/\(0<=m.account/\m.account<8)/\(0<=m.symbol/\m.symbol<8)/\(m.side=1\/m.side=2)/\(0<=m.lsn/\m.lsn<=1000000000)/\
 ((m.kind=1/\1<=m.qty/\1<=m.price/\m.version=0)\/(m.kind=2/\1<=m.qty/\1<=m.price/\1<=m.version)\/(m.kind=3/\m.qty=0/\m.price=0/\m.version=0))
instance (m:kM):Decidable (msgP m):=by unfold msgP sO;infer_instance
theorem amN (m:kM):Wq (kV m) fun b=>b=true↔msgP m:=by
 unfold kV msgP sO
 simp only[qH,iH,ak,aZ,bV,dF,dL,bI,bK,dG,dK,bY,dQ,bD,bG,dV,dW,true_implies,ne_eq,not_true_eq_false,false_implies,and_true,true_and,or_self,reduceCtorEq]
 grind
theorem ai0 (m:kM):kV m=some (decide (msgP m)):=(amN m).dec
def Ik:List kM->Int->Int->Prop
 |[],_,_=>True
 |m::r,a,z=>msgP m/\a<m.lsn/\m.lsn<=z/\Ik r m.lsn z
theorem agN {l:List kM} {i:Nat} (hi:i<l.length) {a z:Int}:Ik (l.drop i) a z↔msgP l[i]/\a<l[i].lsn/\l[i].lsn<=z/\Ik (l.drop (i+1)) l[i].lsn z:=by
 rw[List.drop_eq_getElem_cons hi];rfl
theorem ahK (l:List kM) (a z:Int) (hl:l.length<999999):Wq (wK l a z) fun b=>b=true↔Ik l a z:=by
 unfold wK
 refine Wq.bind (Q:=fun w:Bool ⊕ Bool=>match w with | .inl b=>b=false/\¬Ik l a z | .inr _=>Ik l a z)
  (lZ (n:=l.length) (step:=fun v:Int×Bool×Int=>qg (len l) l z v.1 v.2.1 v.2.2) hl (fun i x=>Ik l a z↔Ik (l.drop i) x.2 z) _ ?_ ?_ _ 0 (Nat.zero_le _) (by simp)) ?_
 ·rintro i ⟨q,x⟩ hi hj
  simp only at hj
  simp only[qg]
  rw[aH (by rw[ig];simpa using hi),aH (inb l i hi),bQ l i hi,ai0,ai,hj,agN hi]
  simp only[qH,iH,ak,aZ,bV,dF,dL,bI,bK,dG,dK,bY,dQ,bD,bG,dV,dW,true_implies,ne_eq,not_true_eq_false,false_implies,and_true,true_and,or_self,reduceCtorEq]
  refine⟨fun h=> ?_,fun h=> ?_⟩
  ·rintro⟨h1,h2,h3,_⟩
   rcases h with (h | h) | h
   ·simp [h1]at h
   ·omega
   ·omega
  ·refine⟨eu (by omega),?_⟩
   have h1:msgP l[i]:=by simpa using h.1.1
   exact⟨fun h=>h.2.2.2,fun g=>⟨h1,by omega,by omega,g⟩⟩
 ·rintro⟨q,x⟩ hj
  simp only at hj
  simp only[qg]
  rw[dH (by rw[show((l.length:Nat):Int)=len l from rfl];simp [ilt]),ak]
  show Ik l a z
  rw[hj,List.drop_length];trivial
 ·intro w hw
  match w,hw with
  |.inl b,h=>simp only[jB,ak];simp [h.1,h.2]
  |.inr _,h=>simp only[jB,ak];simpa using h
def uV:List gq->Int->Int->Prop
 |[],_,_=>True
 |n::r,a,x=>a<n.seq/\n.seq<=x+8/\uV r n.seq x
theorem ae3 {l:List gq} {i:Nat} (hi:i<l.length) {a z:Int}:uV (l.drop i) a z↔a<l[i].seq/\l[i].seq<=z+8/\uV (l.drop (i+1)) l[i].seq z:=by
 rw[List.drop_eq_getElem_cons hi];rfl
def Yf (f:mY) (x:Int):Prop:=1<=x/\x<=1000000001/\f.held.length<=8/\uV f.held x x
theorem Rq (f:mY) (x:Int):Wq (xI f x) fun b=>b=true↔Yf f x:=by
 unfold xI Yf
 rw[iH]
 refine⟨fun h=>(ak _).2 ?_,fun h=> ?_⟩
 ·simp only[aZ,bV,dF,dL,bI,bK,dG,dK,bY,dQ,bD,bG,dV,dW,len]at h
  constructor
  ·intro g;cases g
  ·intro g;omega
 simp only[aZ,bV,dF,dL,bI,bK,dG,dK,bY,dQ,bD,bG,dV,dW,len]at h
 have hl:f.held.length<=8:=by omega
 have hwr:wr .i64 (au x 8)=x+8:=bU (by simp only[au];omega) (by simp only[au];omega)
 refine Wq.bind (Q:=fun w:Bool ⊕ Bool=>match w with | .inl b=>b=false/\¬uV f.held x x | .inr _=>uV f.held x x)
  (lZ (n:=f.held.length) (step:=fun v:Int×Int×Bool=>rU (len f.held) f.held x v.1 v.2.1 v.2.2) (by omega) (fun i y=>uV f.held x x↔uV (f.held.drop i) y.1 x) _ ?_ ?_ _ 0 (Nat.zero_le _) (by simp)) ?_
 ·rintro i ⟨y,q⟩ hi hj
  simp only at hj
  simp only[rU]
  rw[aH (by rw[ig];simpa using hi),aH (inb f.held i hi),bQ f.held i hi,hj,ae3 hi,hwr]
  simp only[qH,iH,ak,aZ,bV,dF,dL,bI,bK,dG,dK,bY,dQ,bD,bG,dV,dW,true_implies,ne_eq,not_true_eq_false,false_implies,and_true,true_and,or_self,reduceCtorEq]
  refine⟨fun h=> ?_,fun h=> ?_⟩
  ·rintro⟨h1,h2,_⟩;omega
  ·exact⟨eu (by omega),fun h=>h.2.2,fun g=>⟨by omega,by omega,g⟩⟩
 ·rintro⟨y,q⟩ hj
  simp only at hj
  simp only[rU]
  rw[dH (by rw[show((f.held.length:Nat):Int)=len f.held from rfl];simp [ilt]),ak]
  show uV f.held x x
  rw[hj,List.drop_length];trivial
 ·intro w hw
  match w,hw with
  |.inl b,h=>simp only[jB,ak];simp [h.1,h.2]
  |.inr _,h=>
   simp only[jB,ak]
   simp only[true_iff]
   exact⟨by omega,by omega,hl,h⟩
theorem agG (n:Nat) (h:n<=200):wr .i64 (bP .u64 (wr .u64 (wr .i64 (n:Int))) 1)=((n / 2:Nat):Int):=by
 have:∀k:Fin 201,wr .i64 (bP .u64 (wr .u64 (wr .i64 ((k:Nat):Int))) 1)=(((k:Nat) / 2:Nat):Int):=by decide+kernel
 exact this ⟨n,by omega⟩
theorem IK:∀ {l:List gq} {a x:Int},uV l a x->∀n∈l,a<n.seq/\n.seq<=x+8
 |[],_,_,_,n,hn=>by cases hn
 |m::r,a,x,h,n,hn=>by
  obtain⟨h1,h2,h3⟩:=h
  rcases List.mem_cons.1 hn with rfl | hn
  ·exact⟨h1,h2⟩
  ·have:=IK h3 n hn;exact⟨by omega,this.2⟩
theorem Si:∀ {l:List gq} {a x:Int},uV l a x->∀ {i j:Nat} (hij:i<j) (hj:j<l.length),(l[i]'(by omega)).seq<l[j].seq
 |m::r,a,x,h,0,j+1,hij,hj=>by
  have hj':j<r.length:=by simpa using hj
  exact(IK h.2.2 r[j] (List.getElem_mem hj')).1
 |m::r,a,x,h,i+1,j+1,hij,hj=>Si h.2.2 (i:=i) (j:=j) (by omega) (by simpa using hj)
 |[],_,_,_,_,_,_,hj=>by simp at hj
theorem ZE:∀ {l:List gq} {a x:Int},uV l a x->a<=x+8->(l.length:Int)<=x+8 - a
 |[],_,_,_,h=>by simp;omega
 |m::r,a,x,h,_=>by
  have:=ZE h.2.2 h.2.1
  have:=h.1
  simp only[List.length_cons];omega
theorem abQ:∀ {l:List gq} {a x y:Int},uV l a x->x<=y->uV l a y
 |[],_,_,_,_,_=>trivial
 |m::r,a,x,y,h,hy=>⟨h.1,by have:=h.2.1;omega,abQ h.2.2 hy⟩
def Ep:List gq->Int->Nat
 |[],_=>0
 |n::r,x=>if n.seq=x then Ep r (x+1)+1 else 0
theorem abl:∀(l:List gq) (x:Int),Ep l x<=l.length
 |[],_=>Nat.le_refl _
 |n::r,x=>by
  unfold Ep
  have:=abl r (x+1)
  split<;>simp<;>omega
theorem anv (l:List gq) (x:Int) (hl:l.length<=8) (h0:0<=x) (h1:x<=2000000000):CP l x=some (Ep l x:Int):=by
 refine Wq.eq ?_
 unfold CP
 refine Wq.bind (Q:=fun w:Int ⊕ Int=>match w with | .inl b=>b=(Ep l x:Int) | .inr _=>Ep l x=l.length)
  (lZ (n:=l.length) (step:=fun v:Int×Int=>yL (len l) l x v.1 v.2) (by omega) (fun i _=>Ep l x=i+Ep (l.drop i) (x+i)) _ ?_ ?_ _ 0 (Nat.zero_le _) (by simp)) ?_
 ·rintro i q hi hj
  simp only[yL]
  have hw:wr .i64 (au x (i:Int))=x+i:=bU (by simp only[au];omega) (by simp only[au];omega)
  rw[aH (by rw[ig];simpa using hi),aH (inb l i hi),bQ l i hi,hw]
  rw[List.drop_eq_getElem_cons hi,Ep]at hj
  simp only[qH,iH,ak,aZ,bV,dF,dL,bI,bK,dG,dK,bY,dQ,bD,bG,dV,dW,true_implies,ne_eq,not_true_eq_false,false_implies,and_true,true_and,or_self,reduceCtorEq]
  refine⟨fun h=> ?_,fun h=> ?_⟩
  ·rw[if_neg h]at hj;omega
  ·rw[if_pos h]at hj
   refine⟨eu (by omega),?_⟩
   rw[hj,show x+((i+1:Nat):Int)=x+i+1 by omega];omega
 ·rintro q hj
  simp only[yL]
  rw[dH (by rw[show((l.length:Nat):Int)=len l from rfl];simp [ilt]),ak]
  simpa [Ep] using hj
 ·intro w hw
  match w,hw with
  |.inl b,h=>simp only[jB,ak];exact h
  |.inr _,h=>simp only[jB,ak,len];rw[h]
theorem ajJ {l:List gq} {x s:Int} (hl:l.length<=8) (hh:uV l x x) (hx:0<=x) (hx2:x<=2000000000) (hs:0<=s) (hs2:s<=2000000000):
 Wq (xJ l s) fun r=>∃i:Nat,r.1=(i:Int)/\i<=l.length/\(∀(j:Nat) (h:j<l.length),j<i->l[j].seq<s)/\(∀(j:Nat) (h:j<l.length),i<=j->s<=l[j].seq)/\(r.2=true↔∃h:i<l.length,l[i].seq=s):=by
 have sub:∀(i:Nat) (h:i<l.length),wr .i64 (aB l[i].seq s)=l[i].seq - s:=fun i h=>by
  have:=IK hh l[i] (List.getElem_mem h)
  exact I9 ⟨by simp only[aB];omega,by simp only[aB];omega⟩
 unfold xJ
 refine Wq.bind (Q:=fun w:Int=>∃i:Nat,w=(i:Int)/\i<=l.length/\(∀(j:Nat) (h:j<l.length),j<i->l[j].seq<s)/\(∀(j:Nat) (h:j<l.length),i<=j->s<=l[j].seq))
  (WR (step:=fun v:Int×Int=>dh l s v.1 v.2) (fun v=>(v.1 - v.2).toNat)
    (fun v=>∃lo hi:Nat,v=((hi:Int),(lo:Int))/\lo<=hi/\hi<=l.length/\(∀(j:Nat) (h:j<l.length),j<lo->l[j].seq<s)/\(∀(j:Nat) (h:j<l.length),hi<=j->s<=l[j].seq)) _ ?_ LF _ (adM (by simp only[len];omega)) ⟨0,l.length,rfl,Nat.zero_le _,Nat.le_refl _,fun j _ h=>by omega,fun j h1 h2=>by omega⟩) ?_
 ·rintro _ ⟨lo,hi,rfl,g1,g2,g3,g4⟩
  simp only[dh]
  rw[iH]
  refine⟨fun h=> ?_,fun h=>(ak _).2 ?_⟩
  ·rw[dG]at h
   have e1:wr .i64 (bP .u64 (wr .u64 (wr .i64 (au (lo:Int) (hi:Int)))) 1)=(((lo+hi) / 2:Nat):Int):=by
    rw[<-agG (lo+hi) (by omega)];unfold au;rw[Int.natCast_add]
   have hm:(lo+hi) / 2<l.length:=by omega
   rw[e1,aH (inb _ _ hm),bQ _ _ hm,iH,ak,ak,sub _ hm]
   refine⟨fun h2=> ?_,fun h2=> ?_⟩
   ·simp only[aZ,bV,dF,dL,bI,bK,dG,dK,bY,dQ,bD,bG,dV,dW]at h2
    refine⟨⟨(lo+hi) / 2+1,hi,by rw[eu (by omega)],by omega,g2,fun j hj h3=> ?_,g4⟩,?_⟩
    ·rcases Nat.lt_or_ge j ((lo+hi) / 2)with h4 | h4
     ·have:=Si hh h4 hm;omega
     ·have:j=(lo+hi) / 2:=by omega
      subst this;omega
    ·simp only;rw[eu (by omega)];omega
   ·simp only[aZ,bV,dF,dL,bI,bK,dG,dK,bY,dQ,bD,bG,dV,dW]at h2
    refine⟨⟨lo,(lo+hi) / 2,rfl,by omega,by omega,g3,fun j hj h3=> ?_⟩,?_⟩
    ·rcases Nat.lt_or_ge ((lo+hi) / 2) j with h4 | h4
     ·have:=Si hh h4 hj;omega
     ·have:j=(lo+hi) / 2:=by omega
      subst this;omega
    ·simp only;omega
  ·rw[dK]at h
   have:lo=hi:=by omega
   subst this
   exact⟨lo,rfl,g2,g3,g4⟩
 rintro _ ⟨i,rfl,hi,g1,g2⟩
 by_cases hil:i<l.length
 ·have h1:ilt (i:Int) (len l)=true:=Di (by simp only[len];omega)
  rw[aH (by rw[dF];exact .inl (inb l i hil)),aH h1,ak,bQ l i hil,sub _ hil]
  refine⟨i,rfl,hi,g1,g2,?_⟩
  simp only[aZ,bV,dF,dL,bI,bK,dG,dK,bY,dQ,bD,bG,dV,dW]
  constructor
  ·intro h;exact⟨hil,by omega⟩
  ·rintro⟨_,h⟩;exact⟨by simp only[len];omega,by omega⟩
 ·have h1:ilt (i:Int) (len l)=false:=Bv (by simp only[len];omega)
  rw[aH (by rw[dF,bI];exact .inr h1),dH h1,ak]
  refine⟨i,rfl,hi,g1,g2,?_⟩
  rw[h1]
  constructor
  ·intro h;simp [bor]at h
  ·rintro⟨h,_⟩;exact absurd h hil
theorem aj6 {α:Type} (l:List α):nol l=[]:=by simp [nol]
open Classical in
noncomputable def nC (f:mY) (n:gq) (x:Int):mY×List gq×Int:=
 if ¬(Yf f x/\1<=n.seq/\n.seq<=1000000000)then (f,[],1)
 else if n.seq<x then (f,[],0)
 else if x+8<n.seq then (⟨f.held,true⟩,[],0)
 else if n.seq=x then (⟨f.held.drop (Ep f.held (x+1)),f.gap⟩,n::f.held.take (Ep f.held (x+1)),0)
 else if ∃m∈f.held,m.seq=n.seq then (f,[],0)
 else (⟨(f.held.filter fun m=>m.seq<n.seq)++n::(f.held.filter fun m=>n.seq<m.seq),f.gap⟩,[],0)
theorem aiD {l:List gq} {s:Int} {i:Nat} (hi:i<=l.length) (h1:∀(j:Nat) (h:j<l.length),j<i->l[j].seq<s) (h2:∀(j:Nat) (h:j<l.length),i<=j->s<=l[j].seq) (hn:¬∃m∈l,m.seq=s):
 l.take i=(l.filter fun m=>m.seq<s)/\l.drop i=(l.filter fun m=>s<m.seq):=by
 have a1:∀m∈l.take i,m.seq<s:=fun m hm=>by
  obtain⟨j,hj,rfl⟩:=List.getElem_of_mem hm
  rw[List.getElem_take]
  have hj':j<i/\j<l.length:=by simp at hj;omega
  exact h1 j hj'.2 hj'.1
 have a2:∀m∈l.drop i,s<m.seq:=fun m hm=>by
  have hml:m∈l:=List.mem_of_mem_drop hm
  obtain⟨j,hj,rfl⟩:=List.getElem_of_mem hm
  rw[List.getElem_drop]at hml ⊢
  have hj':i+j<l.length:=by simp at hj;omega
  have:=h2 (i+j) hj' (by omega)
  have:l[i+j].seq≠s:=fun e=>hn ⟨_,hml,e⟩
  omega
 have hl:l=l.take i++l.drop i:=(List.take_append_drop i l).symm
 have e1:(l.take i).filter (fun m=>decide (m.seq<s))=l.take i:=List.filter_eq_self.2 (fun m hm=>by simpa using a1 m hm)
 have e2:(l.drop i).filter (fun m=>decide (m.seq<s))=[]:=List.filter_eq_nil_iff.2 (fun m hm=>by have:=a2 m hm;simp;omega)
 have e3:(l.drop i).filter (fun m=>decide (s<m.seq))=l.drop i:=List.filter_eq_self.2 (fun m hm=>by simpa using a2 m hm)
 have e4:(l.take i).filter (fun m=>decide (s<m.seq))=[]:=List.filter_eq_nil_iff.2 (fun m hm=>by have:=a1 m hm;simp;omega)
 constructor
 ·conv=>rhs;rw[hl]
  rw[List.filter_append,e1,e2,List.append_nil]
 ·conv=>rhs;rw[hl]
  rw[List.filter_append,e3,e4,List.nil_append]
theorem adp (f:mY) (n:gq) (x:Int):GK f n x=some (nC f n x):=by
 refine Wq.eq ?_
 unfold GK nC
 refine(Rq f x).bind fun b hb=> ?_
 by_cases hf:Yf f x
 case neg=>
  have:b=false:=by cases b with
   |false=>rfl
   |true=>exact absurd (hb.1 rfl) hf
  subst this
  rw[bJ,bH,bH,ak,if_pos (fun h=>hf h.1)]
 obtain rfl:=hb.2 hf
 rw[aU,aX]
 by_cases h1:n.seq<1
 ·rw[aH (Di h1),aH (Di h1),ak,if_pos (fun h=>by omega)]
 rw[dH (Bv h1)]
 by_cases h2:1000000000<n.seq
 ·rw[aH (Di h2),ak,if_pos (fun h=>by omega)]
 rw[dH (Bv h2),if_neg (fun h=>h ⟨hf,by omega,by omega⟩)]
 by_cases h3:n.seq<x
 ·rw[aH (Di h3),ak,if_pos h3]
 rw[dH (Bv h3),if_neg h3]
 have hx:=hf.1
 have hx2:=hf.2.1
 have hl:=hf.2.2.1
 have hwr:wr .i64 (au x 8)=x+8:=bU (by simp only[au];omega) (by simp only[au];omega)
 have hwr1:wr .i64 (au x 1)=x+1:=bU (by simp only[au];omega) (by simp only[au];omega)
 rw[hwr]
 by_cases h4:x+8<n.seq
 ·rw[aH (Di h4),ak,if_pos h4]
 rw[dH (Bv h4),if_neg h4]
 by_cases h5:n.seq=x
 ·rw[aH (by rw[bD];exact h5),if_pos h5,hwr1,anv f.held (x+1) hl (by omega) (by omega),ai]
  have hk:=abl f.held (x+1)
  generalize Ep f.held (x+1)=k at hk ⊢
  have c0:band (ile 0 (len f.held)) (ile 0 (len f.held))=true:=DV (jG (by simp only[len];omega)) (jG (by simp only[len];omega))
  have c1:band (ile 0 (k:Int)) (ile (k:Int) (len f.held))=true:=DV (jG (by omega)) (jG (by simp only[len];omega))
  simp only[aj6]
  rw[aH c0,aH (by simp [dB,len,ile,bor,band,ieq]),aH c1,aH (by simp only[dB,len,ay,itn,List.nil_append];exact jG (by simp;omega)),aH c1]
  rw[show fQ (aF f.held (itn (k:Int)))=some (aF f.held (itn (k:Int)))from oV (by simp [aF,itn];omega),ai,ak]
  simp [aF,ay,dB,itn]
 ·rw[dH (by rw[bG];exact h5),if_neg h5]
  refine Wq.bind (ajJ (s:=n.seq) hl hf.2.2.2 (by omega) (by omega) (by omega) (by omega)) ?_
  rintro⟨r1,r2⟩ ⟨i,rfl,hi,g1,g2,g3⟩
  simp only at g3
  by_cases h6:∃m∈f.held,m.seq=n.seq
  ·rw[if_pos h6]
   obtain⟨m,hm,hme⟩:=h6
   obtain⟨j,hj,rfl⟩:=List.getElem_of_mem hm
   have hij:i=j:=by
    rcases Nat.lt_trichotomy i j with h | h | h
    ·have:=Si hf.2.2.2 h hj
     have:=g2 i (by omega) (Nat.le_refl _)
     omega
    ·exact h
    ·have:=g1 j hj h;omega
   subst hij
   rw[dH (by rw[bK];exact g3.2 ⟨hj,hme⟩),ak]
  ·rw[if_neg h6]
   have:r2=false:=by cases h:r2 with
    |false=>rfl
    |true=>obtain⟨h7,h8⟩:=g3.1 h;exact absurd ⟨_,List.getElem_mem h7,h8⟩ h6
   subst this
   rw[bJ,bH,show fQ f.held=some f.held from oV (by omega),ai]
   obtain⟨e1,e2⟩:=aiD hi g1 g2 h6
   unfold kF
   simp only
   rw[aH (DV (jG (by omega)) (DV (jG (by simp only[len];omega)) (jG (by simp only[len,au];omega)))),ai,ak,<-e1,<-e2]
   simp [dB,ay,aF,itn]
theorem Y7:∀(l:List gq) (a x y:Int),uV l a x->x<=y - 1->(∀m∈l,y<=m.seq)->uV (l.drop (Ep l y)) (y+Ep l y) (y+Ep l y)
 |[],_,_,_,_,_,_=>by simp [Ep,uV]
 |m::r,a,x,y,h,hx,hall=>by
  unfold Ep
  by_cases he:m.seq=y
  ·rw[if_pos he]
   have h2:=Y7 r m.seq x (y+1) h.2.2 (by omega) (fun q hq=>by have:=(IK h.2.2 q hq).1;omega)
   rw[List.drop_succ_cons,show y+((Ep r (y+1)+1:Nat):Int)=y+1+(Ep r (y+1):Int) by omega]
   exact h2
  ·rw[if_neg he]
   simp only[List.drop_zero]
   have h1:=hall m (by simp)
   have h3:=h.2.1
   exact⟨by omega,by omega,abQ h.2.2 (by omega)⟩
theorem ZR:∀(l:List gq) (a x:Int) (n:gq),uV l a x->a<n.seq->n.seq<=x+8->(∀m∈l,m.seq≠n.seq)->uV ((l.filter fun m=>m.seq<n.seq)++n::(l.filter fun m=>n.seq<m.seq)) a x
 |[],_,_,_,_,h1,h2,_=>by simpa [uV] using ⟨h1,h2⟩
 |m::r,a,x,n,h,h1,h2,hn=>by
  have hm:=hn m (by simp)
  by_cases hlt:m.seq<n.seq
  ·rw[List.filter_cons_of_pos (by simpa using hlt),List.filter_cons_of_neg (by simp;omega),List.cons_append]
   exact⟨h.1,h.2.1,ZR r m.seq x n h.2.2 hlt h2 (fun q hq=>hn q (by simp [hq]))⟩
  ·have hall:∀q∈m::r,n.seq<q.seq:=fun q hq=>by
    rcases List.mem_cons.1 hq with rfl | hq
    ·omega
    ·have:=(IK h.2.2 q hq).1;omega
   have e1:(m::r).filter (fun q=>decide (q.seq<n.seq))=[]:=List.filter_eq_nil_iff.2 (fun q hq=>by have:=hall q hq;simp;omega)
   have e2:(m::r).filter (fun q=>decide (n.seq<q.seq))=m::r:=List.filter_eq_self.2 (fun q hq=>by have:=hall q hq;simpa using this)
   rw[e1,e2,List.nil_append]
   exact⟨h1,h2,hall m (by simp),h.2.1,h.2.2⟩
structure alc (f:mY) (n:gq) (x:Int) (r:mY×List gq×Int):Prop where
 held:uV r.1.held (x+r.2.1.length) (x+r.2.1.length)
 len:r.1.held.length<=8
 lo:1<=x
 hi:x<=1000000001
 mem:∀m∈r.1.held,m∈f.held\/m=n
 mem2:∀m∈r.2.1,m∈f.held\/m=n
 len2:r.2.1.length<=9
theorem afS {f:mY} {n:gq} {x:Int} (h0:(nC f n x).2.2=0):alc f n x (nC f n x):=by
 unfold nC at h0 ⊢
 split at h0
 ·cases h0
 rename_i hf
 have hf:=Classical.not_not.1 hf
 rw[if_neg (fun h=>h hf)]
 obtain⟨⟨f1,f2,f3,f4⟩,k1,k2⟩:=hf
 have same:∀g:Bool,alc f n x (⟨f.held,g⟩,[],0):=fun g=>⟨by simpa using f4,f3,f1,f2,fun m hm=> .inl hm,fun m hm=>(by simp at hm),by simp⟩
 by_cases h3:n.seq<x
 ·rw[if_pos h3];exact same f.gap
 rw[if_neg h3]
 by_cases h4:x+8<n.seq
 ·rw[if_pos h4];exact same true
 rw[if_neg h4]
 by_cases h5:n.seq=x
 ·rw[if_pos h5]
  have hk:=abl f.held (x+1)
  have h2:=Y7 f.held x x (x+1) f4 (by omega) (fun m hm=>by have:=(IK f4 m hm).1;omega)
  have hl:(n::f.held.take (Ep f.held (x+1))).length=Ep f.held (x+1)+1:=by simp;omega
  refine⟨?_,?_,f1,f2,fun m hm=> .inl (List.mem_of_mem_drop hm),fun m hm=> ?_,?_⟩
  ·show uV (f.held.drop _) _ _
   simp only[hl]
   rw[show x+((Ep f.held (x+1)+1:Nat):Int)=x+1+(Ep f.held (x+1):Int) by omega]
   exact h2
  ·show(f.held.drop _).length<=8
   simp;omega
  ·rcases List.mem_cons.1 hm with rfl | hm
   ·exact .inr rfl
   ·exact .inl (List.mem_of_mem_take hm)
  ·show(n::f.held.take _).length<=9
   rw[hl];omega
 rw[if_neg h5]
 split
 ·exact same f.gap
 ·rename_i h6
  have h7:=ZR f.held x x n f4 (by omega) (by omega) (fun m hm e=>h6 ⟨m,hm,e⟩)
  refine⟨by simpa using h7,?_,f1,f2,fun m hm=> ?_,fun m hm=>(by simp at hm),by simp⟩
  ·have:=ZE h7 (by omega)
   show((f.held.filter fun m=>m.seq<n.seq)++n::(f.held.filter fun m=>n.seq<m.seq)).length<=8
   omega
  ·rcases List.mem_append.1 hm with hm | hm
   ·exact .inl (List.mem_filter.1 hm).1
   ·rcases List.mem_cons.1 hm with rfl | hm
    ·exact .inr rfl
    ·exact .inl (List.mem_filter.1 hm).1
theorem QK {n:gq} (h:qZ n):nV (qy n):=by
 obtain⟨h1,h2,h3,h4,h5⟩:=h
 constructor<;>first | assumption | (show inI _;unfold inI;simp [qy])
theorem afz:∀ {l:List kM} {a z y:Int},Ik l a z->z<=y->Ik l a y
 |[],_,_,_,_,_=>trivial
 |m::r,a,z,y,h,hy=>⟨h.1,h.2.1,by have:=h.2.2.1;omega,afz h.2.2.2 hy⟩
theorem X0 {s t:aC} {a y:Int} (h:(Ou s t a y).2=0):(Ou s t a y).1.orders=t.orders:=by
 unfold Ou at h ⊢
 by_cases h1:ac7 t
 ·rw[if_neg (fun g=>g h1)]at h ⊢
  by_cases h2:U0 s t a y
  ·rw[if_pos h2]at h;simp at h
  ·rw[if_neg h2]
 ·rw[if_pos h1]at h;simp at h
theorem ai8 {s:aC} {r:jm} (h0:(doS s r).2=0) (hk:r.kind=1\/r.kind=2\/r.kind=3):
 ∃o∈(doS s r).1.orders,o.id=r.order/\(r.kind=2->1<=o.newQty/\1<=o.newPrice/\1<=o.version):=by
 have hm:=((Vg s r).good h0).1
 have hrec:=hm.2.1
 have hords:=hm.1.fine.ords
 unfold doS at h0 ⊢
 rw[if_neg (fun g=>g hm)]at h0 ⊢
 rcases hk with hk | hk | hk
 ·rw[if_pos hk]at h0 ⊢
  by_cases h1:s.kill=true
  ·rw[if_pos h1]at h0;simp at h0
  rw[if_neg h1]at h0 ⊢
  by_cases h2:s.orders.length=64
  ·rw[if_pos h2]at h0;simp at h0
  rw[if_neg h2]at h0 ⊢
  rw[X0 h0]
  exact⟨jU r,by simp [dB],rfl,fun h=>by omega⟩
 ·rw[if_neg (by omega),if_pos hk]at h0 ⊢
  cases hf:yK s.orders r.order with
  |none=>rw[hf]at h0;simp at h0
  |some k=>
   rw[hf]at h0
   simp only at h0 ⊢
   obtain⟨hkl,hid⟩:=nO hf
   have hg:aj s.orders k=s.orders[k]:=by simp [aj,hkl]
   by_cases h1:xG (aj s.orders k)
   ·rw[if_neg (fun g=>g h1)]at h0 ⊢
    by_cases h2:s.kill=true
    ·rw[if_pos h2]at h0;simp at h0
    rw[if_neg h2]at h0 ⊢
    rw[X0 h0]
    refine⟨sW (aj s.orders k) r.qty r.price,?_,?_,fun _=> ?_⟩
    ·show _∈aY s.orders k _
     exact List.mem_set hkl _
    ·rw[hg];exact hid
    ·have hv:=(hords s.orders[k] (List.getElem_mem hkl)).1.2.2.2.1
     rw[hg]
     unfold xH at hrec
     refine⟨?_,?_,?_⟩
     ·show 1<=r.qty;omega
     ·show 1<=r.price;omega
     ·show 1<=s.orders[k].version+1;omega
   ·rw[if_pos h1]at h0;simp at h0
 ·rw[if_neg (by omega),if_neg (by omega),if_pos hk]at h0 ⊢
  cases hf:yK s.orders r.order with
  |none=>rw[hf]at h0;simp at h0
  |some k=>
   rw[hf]at h0
   simp only at h0 ⊢
   obtain⟨hkl,hid⟩:=nO hf
   have hg:aj s.orders k=s.orders[k]:=by simp [aj,hkl]
   by_cases h1:(aj s.orders k).asked=true
   ·rw[if_pos h1]at h0;simp at h0
   rw[if_neg h1]
   refine⟨ajb (aj s.orders k),?_,?_,fun h=>by omega⟩
   ·show _∈aY s.orders k _
    exact List.mem_set hkl _
   ·rw[hg];exact hid
theorem anA {o:aG} (ho:uy o) {k z:Int} (hk:k=1\/k=2\/k=3) (h2:k=2->1<=o.newQty/\1<=o.newPrice/\1<=o.version) (hz:0<=z/\z<=1000000000):Wq (qp k o z) fun m=>msgP m/\m.lsn=z:=by
 obtain⟨b1,b2,b3,b4,b5,b6⟩:=ho.1
 unfold qp
 rw[fC,fC,lu,decide_eq_true ho]
 simp only[ai,aU,bJ,bH,ai0]
 rcases hk with rfl | rfl | rfl
 ·have hm:msgP (kM.mk 1 o.id o.account o.symbol o.side o.qty o.price 0 z):=⟨b1,b2,b3,b4,hz,.inl ⟨rfl,b5,b6,rfl⟩⟩
  rw[if_pos rfl,decide_eq_true hm]
  exact(ak _).2 ⟨hm,rfl⟩
 ·obtain⟨c1,c2,c3⟩:=h2 rfl
  have hm:msgP (kM.mk 2 o.id o.account o.symbol o.side o.newQty o.newPrice o.version z):=⟨b1,b2,b3,b4,hz,.inr (.inl ⟨rfl,c1,c2,c3⟩)⟩
  rw[if_neg (by decide),if_pos rfl,decide_eq_true hm]
  exact(ak _).2 ⟨hm,rfl⟩
 ·have hm:msgP (kM.mk 3 o.id o.account o.symbol o.side 0 0 0 z):=⟨b1,b2,b3,b4,hz,.inr (.inr ⟨rfl,rfl,rfl,rfl⟩)⟩
  rw[if_neg (by decide),if_neg (by decide),decide_eq_true hm]
  exact(ak _).2 ⟨hm,rfl⟩
theorem abL:∀ {l:List kM} {a z y:Int} {m:kM},Ik l a z->a<=z->msgP m->z<m.lsn->m.lsn<=y->Ik (l++[m]) a y
 |[],a,z,y,m,_,ha,hm,h1,h2=>⟨hm,by omega,h2,trivial⟩
 |n::r,a,z,y,m,h,_,hm,h1,h2=>⟨h.1,h.2.1,by have:=h.2.2.1;omega,abL h.2.2.2 h.2.2.1 hm h1 h2⟩
theorem amn (k:Int) (o:aG) (z:Int):∃m,qp k o z=some m:=by
 unfold qp
 simp only[fC,lu,ai,ai0]
 by_cases h1:k=1<;>by_cases h2:k=2<;>simp only[h1,h2,if_true,if_false]<;>
  by_cases h3:uy o<;>simp [h3,cnd,ax,band,bor,ai]<;>split<;>exact⟨_,rfl⟩
theorem aia {f:mY} {n:gq} {x:Int}:(nC f n x).1.held.length<=f.held.length+1/\(nC f n x).2.1.length<=f.held.length+1/\(∀m∈(nC f n x).1.held,m∈f.held\/m=n)/\(∀m∈(nC f n x).2.1,m∈f.held\/m=n):=by
 by_cases h0:(nC f n x).2.2=0
 ·have q:=afS h0
  refine⟨?_,?_,q.mem,q.mem2⟩
  ·unfold nC
   split
   ·simp
   split
   ·simp
   split
   ·simp
   split
   ·simp;omega
   split
   ·simp
   ·have h1:=List.length_filter_le (fun m:gq=>decide (m.seq<n.seq)) f.held
    simp only[List.length_append,List.length_cons]
    have:∀l:List gq,(l.filter fun m=>m.seq<n.seq).length+(l.filter fun m=>n.seq<m.seq).length<=l.length:=fun l=>by
     induction l with
     |nil=>simp
     |cons a r ih=>
      by_cases g1:a.seq<n.seq
      ·rw[List.filter_cons_of_pos (by simpa using g1),List.filter_cons_of_neg (by simp;omega)];simp;omega
      ·by_cases g2:n.seq<a.seq
       ·rw[List.filter_cons_of_neg (by simpa using g1),List.filter_cons_of_pos (by simpa using g2)];simp;omega
       ·rw[List.filter_cons_of_neg (by simpa using g1),List.filter_cons_of_neg (by simpa using g2)];simp;omega
    have:=this f.held
    omega
  ·unfold nC
   split
   ·simp
   split
   ·simp
   split
   ·simp
   split
   ·simp;omega
   split<;>simp
 ·have:(nC f n x)=(f,[],1):=by
   unfold nC at h0 ⊢
   split
   ·rfl
   ·rename_i g
    rw[if_neg g]at h0
    exfalso;apply h0
    split
    ·rfl
    split
    ·rfl
    split
    ·rfl
    split<;>rfl
  rw[this]
  exact⟨by simp,by simp,fun m hm=> .inl hm,fun m hm=>(by simp at hm)⟩
def Me (c:UInt8):Prop:=(97<=c.toNat/\c.toNat<=122)\/(48<=c.toNat/\c.toNat<=57)\/c.toNat=46
instance (c:UInt8):Decidable (Me c):=by unfold Me;infer_instance
def jK (s:List UInt8):Prop:=(∀c∈s,Me c)/\1<=s.length/\s.length<=16
instance (s:List UInt8):Decidable (jK s):=by unfold jK;infer_instance
theorem VR:∀(x y:List UInt8),slt x y=decide (x<y)
 |[],[]=>by simp [slt,Op.bytesLess]
 |_::_,[]=>by simp [slt,Op.bytesLess]
 |[],_::_=>by simp [slt,Op.bytesLess]
 |a::x,b::y=>by
  have ih:=VR x y
  unfold slt at*
  rw[Op.bytesLess,ih]
  simp only[List.cons_lt_cons_iff]
  by_cases h1:a<b<;>by_cases h2:a=b<;>by_cases h3:x<y<;>simp [h1,h2,h3]
theorem VQ (a:List UInt8):¬a<a:=List.lt_irrefl a
theorem WA {a b c:List UInt8} (h:a<b) (k:b<c):a<c:=List.lt_trans h k
theorem aj3 (a b:List UInt8):a<b\/a=b\/b<a:=by
 by_cases h:a<b
 ·exact .inl h
 ·by_cases k:b<a
  ·exact .inr (.inr k)
  ·exact .inr (.inl (List.le_antisymm (List.not_lt.1 k) (List.not_lt.1 h)))
theorem alW {n:Nat} (hn:n<999999) {step:Int×Bool->Option ((Int×Bool) ⊕ (Bool ⊕ Bool))} (P:Nat->Prop)
 (h:∀(i:Nat) (q:Bool),i<n->(∀j,j<i->P j)->Wq (step ((i:Int),q)) fun r=>match r with | .inl (k,_)=>k=((i+1:Nat):Int)/\P i | .inr (.inl b)=>b=false/\¬P i | .inr (.inr _)=>False)
 (he:∀q:Bool,Wq (step ((n:Int),q)) fun r=>match r with | .inr (.inr _)=>True | _=>False) (q0:Bool):
 Wq (bM step LF ((0:Int),q0)) fun w=>match w with | .inl b=>b=false/\¬∀i,i<n->P i | .inr _=>∀i,i<n->P i:=by
 refine lZ (n:=n) hn (fun i _=>∀j,j<i->P j) _ (fun i q hi hj=>(h i q hi hj).mono fun r hr=> ?_) (fun q hj=>(he q).mono fun r hr=> ?_) q0 0 (Nat.zero_le _) (fun j hj=>by omega)
 ·match r,hr with
  |.inl (k,_),hr=>
   refine⟨hr.1,fun j hj2=> ?_⟩
   by_cases e:j=i
   ·subst e;exact hr.2
   ·exact hj j (by omega)
  |.inr (.inl b),hr=>exact⟨hr.1,fun g=>hr.2 (g i hi)⟩
  |.inr (.inr _),hr=>exact hr.elim
 ·match r,hr with
  |.inl _,hr=>exact hr.elim
  |.inr (.inl b),hr=>exact hr.elim
  |.inr (.inr _),_=>exact hj
theorem ahD (l:List UInt8) (i:Nat) (h:i<l.length):aez l (itn (i:Int))=(l[i].toNat:Int):=by
 simp [aez,itn,h]
theorem Nb {α:Type} (l:List α):ilt ((l.length:Nat):Int) (len l)=false:=by
 rw[show((l.length:Nat):Int)=len l from rfl];simp [ilt]
theorem ams (c:UInt8):Gx (c.toNat:Int)=some (decide (Me c)):=by
 refine Wq.dec ?_
 unfold Gx Me
 rw[ak]
 simp only[aZ,bV,dF,dL,bI,bK,dG,dK,bY,dQ,bD,bG,dV,dW]
 omega
theorem ZQ {s:List UInt8}:(∀i,i<s.length->∀h:i<s.length,Me s[i])↔∀c∈s,Me c:=by
 constructor
 ·intro h c hc
  obtain⟨i,hi,rfl⟩:=List.mem_iff_getElem.1 hc
  exact h i hi hi
 ·intro h i hi h2
  exact h _ (List.getElem_mem h2)
theorem afy {s:List UInt8} (hs:s.length<999999):AA s=some (decide (jK s)):=by
 refine Wq.dec ?_
 unfold AA
 refine Wq.bind (alW (n:=s.length) (step:=fun v:Int×Bool=>tZ (len s) s v.1 v.2) hs (fun i=>∀h:i<s.length,Me s[i]) (fun i q hi hj=> ?_) (fun q=> ?_) false) fun w hw=> ?_
 ·simp only[tZ]
  rw[aH (by rw[ig];simpa using hi),aH (inb s i hi),ahD s i hi,ams,ai,gm,zD]
  split
  ·rename_i h;rw[ak];exact⟨eu (by omega),fun _=>h⟩
  ·rename_i h;rw[ak];exact⟨rfl,fun g=>h (g hi)⟩
 ·simp only[tZ]
  rw[dH (Nb s),ak];trivial
 ·unfold jK
  match w,hw with
  |.inl b,hw=>
   simp only[jB,ak]
   rw[hw.1]
   constructor
   ·intro g;cases g
   ·intro g;exact absurd (ZQ.2 g.1) hw.2
  |.inr q,hw=>
   simp only[jB,ak,aZ,bV,dF,dL,bI,bK,dG,dK,bY,dQ,bD,bG,dV,dW,len]
   have:=ZQ.1 hw
   constructor
   ·intro g;exact⟨this,by omega,by omega⟩
   ·intro g;omega
def okF (f:aA):Prop:=jK f.name/\0<=f.sure/\f.sure<=len f.data
instance (f:aA):Decidable (okF f):=by unfold okF;infer_instance
def iC (l:List aA):Nat:=(l.map (·.data.length)).sum
def Ji (l:List aA):Prop:=l.Pairwise fun f g=>f.name<g.name
instance (l:List aA):Decidable (Ji l):=by unfold Ji;infer_instance
def yF (l:List aA):Prop:=(∀f∈l,okF f)/\Ji l
instance (l:List aA):Decidable (yF l):=by unfold yF;infer_instance
def gG (d:ah):Prop:=(0<=d.room/\d.room<=65536/\ -1<=d.fuse/\d.files.length<=64)/\yF d.files/\(iC d.files:Int)<=d.room
instance (d:ah):Decidable (gG d):=by unfold gG;infer_instance
def nameB (d:ah):Prop:=∀f∈d.files,f.name.length<999999
theorem kQ {α:Type} {l:List α} {i:Nat} (h:i<l.length):l.take (i+1)=l.take i++[l[i]]:=by simp
theorem ql (a b:List aA):iC (a++b)=iC a+iC b:=by simp [iC]
theorem Jv (f:aA) (l:List aA):iC (f::l)=f.data.length+iC l:=by simp [iC]
theorem zn {l:List aA} {i:Nat} (h:i<l.length):iC (l.take (i+1))=iC (l.take i)+l[i].data.length:=by
 rw[kQ h,ql];simp [iC]
theorem FK (l:List aA) (i:Nat):iC (l.take i)<=iC l:=by
 have:=ql (l.take i) (l.drop i)
 rw[List.take_append_drop]at this;omega
theorem tJ (a b:List aA):yF (a++b)↔yF a/\yF b/\∀f∈a,∀g∈b,f.name<g.name:=by
 unfold yF Ji
 rw[List.pairwise_append]
 constructor
 ·rintro⟨h1,h2,h3,h4⟩
  exact⟨⟨fun f hf=>h1 f (List.mem_append_left _ hf),h2⟩,⟨fun f hf=>h1 f (List.mem_append_right _ hf),h3⟩,h4⟩
 ·rintro⟨⟨h1,h2⟩,⟨h3,h4⟩,h5⟩
  exact⟨fun f hf=>(List.mem_append.1 hf).elim (h1 f) (h3 f),h2,h4,h5⟩
theorem ZW (f:aA):yF [f]↔okF f:=by simp [yF,Ji]
theorem aep {l:List aA} {i:Nat} (h:i<l.length):yF (l.take (i+1))↔yF (l.take i)/\okF l[i]/\(0<i->∀g:i - 1<l.length,l[i - 1].name<l[i].name):=by
 rw[kQ h,tJ,ZW]
 constructor
 ·rintro⟨h1,h2,h3⟩
  exact⟨h1,h2,fun hi g=>h3 _ (by rw[List.mem_iff_getElem];exact⟨i - 1,by rw[List.length_take];omega,by simp⟩) _ (List.mem_singleton.2 rfl)⟩
 ·rintro⟨h1,h2,h3⟩
  refine⟨h1,h2,fun f hf g hg=> ?_⟩
  rw[List.mem_singleton.1 hg]
  obtain⟨j,hj,rfl⟩:=List.mem_iff_getElem.1 hf
  rw[List.length_take]at hj
  rw[List.getElem_take]
  have h4:=h3 (by omega) (by omega)
  by_cases e:j=i - 1
  ·subst e;exact h4
  ·have:=List.pairwise_iff_getElem.1 h1.2 j (i - 1) (by rw[List.length_take];omega) (by rw[List.length_take];omega) (by omega)
   rw[List.getElem_take,List.getElem_take]at this
   exact WA this h4
theorem ahv {l:List aA} (h:yF l) (i:Nat):yF (l.take i):=by
 have:=(tJ (l.take i) (l.drop i)).1 (by rw[List.take_append_drop];exact h)
 exact this.1
theorem A7 {d:ah} (hn:nameB d):mJ d=some (decide (gG d)):=by
 refine Wq.dec ?_
 unfold mJ
 rw[iH]
 refine⟨fun h=>(ak _).2 ?_,fun h=> ?_⟩
 ·simp only[aZ,bV,dF,dL,bI,bK,dG,dK,bY,dQ,bD,bG,dV,dW,len]at h
  unfold gG
  constructor
  ·intro g;cases g
  ·rintro⟨g, -⟩;omega
 simp only[aZ,bV,dF,dL,bI,bK,dG,dK,bY,dQ,bD,bG,dV,dW,len]at h
 have hl:d.files.length<=64:=by omega
 refine Wq.bind (Q:=fun w=>match w with
  |.inl b=>b=false/\¬gG d
  |.inr _=>gG d)
  (lZ (n:=d.files.length) (step:=fun v:Int×Int×Bool=>rJ (len d.files) d.files d v.1 v.2.1 v.2.2) (by omega)
    (fun i x=>yF (d.files.take i)/\x.1=d.room - (iC (d.files.take i):Int)/\0<=x.1) _ ?_ ?_ _ 0 (Nat.zero_le _) ⟨by simp [yF,Ji],by simp [iC],by simp only;omega⟩) ?_
 ·rintro i ⟨room,q⟩ hi ⟨h1,h2,h3⟩
  simp only at h2 h3
  simp only[rJ]
  rw[aH (by rw[ig];simpa using hi),aH (inb _ i hi),bQ _ i hi,afy (hn _ (List.getElem_mem hi)),ai]
  have hu:=zn hi
  have hg:=aep hi
  have e1:0<i->wr .i64 (aB (i:Int) 1)=((i - 1:Nat):Int):=fun h0=>by
   rw[aB,bU (by omega) (by omega)];omega
  have hgd:bor (band (ile 0 (wr .i64 (aB (i:Int) 1))) (ilt (wr .i64 (aB (i:Int) 1)) (len d.files))) (ax (band (ax (ax (decide (jK d.files[i].name)))) (ilt 0 (i:Int))))=true:=by
   rw[dF]
   by_cases h0:0<i
   ·left;rw[e1 h0];exact inb _ _ (by omega)
   ·right;rw[bI,bV];right;exact Bv (by omega)
  rw[aH hgd,iH]
  have prev:(0<i->∀g:i - 1<d.files.length,d.files[i - 1].name<d.files[i].name)↔band (ilt 0 (i:Int)) (ax (slt (aj d.files (itn (wr .i64 (aB (i:Int) 1)))).name d.files[i].name))=false:=by
   by_cases h0:0<i
   ·rw[e1 h0,bQ _ _ (by omega:i - 1<d.files.length),VR,Di (by omega),IA,bK,decide_eq_true_iff]
    exact⟨fun g=>g h0 (by omega),fun g _ _=>g⟩
   ·rw[Bv (by omega),Po];simp [h0]
  refine⟨fun hb=>(ak _).2 ⟨rfl,fun hd=> ?_⟩,fun hb=>(ak _).2 ?_⟩
  ·have g1:=(hg.1 (ahv hd.2.1 (i+1)))
   have g2:=prev.1 g1.2.2
   have g3:=FK d.files (i+1)
   have g4:=hd.2.2
   obtain⟨k1,k2,k3⟩:=g1.2.1
   rw[g2]at hb
   simp only[aZ,bV,dF,dL,bI,bK,dG,dK,bY,dQ,bD,bG,dV,dW,decide_eq_false_iff_not,len]at hb k3
   rcases hb with (((hb | hb) | hb) | hb) | hb
   ·exact hb k1
   ·cases hb
   ·omega
   ·omega
   ·omega
  ·simp only[dL,bK,decide_eq_true_iff]at hb
   obtain⟨⟨⟨⟨b1,b2⟩,b3⟩,b4⟩,b5⟩:=hb
   have b6:=prev.2 b2
   simp only[dK,len]at b3 b4 b5
   have e2:wr .i64 (aB room (len d.files[i].data))=room - (d.files[i].data.length:Int):=by
    rw[aB,bU (by simp only[len];omega) (by simp only[len];omega)];rfl
   refine⟨eu (by omega),hg.2 ⟨h1,⟨b1,b3,b4⟩,b6⟩,?_,?_⟩
   ·simp only;rw[e2,hu];omega
   ·simp only;rw[e2];omega
 ·rintro⟨room,q⟩ ⟨h1,h2,h3⟩
  simp only[rJ]
  rw[dH (Nb _),ak]
  rw[List.take_length]at h1 h2
  simp only at h2 h3
  exact⟨by omega,h1,by omega⟩
 ·rintro(b | q) hw
  ·simp only[jB,ak];simp [hw.1,hw.2]
  ·simp only[jB,ak];simp [hw]
abbrev Nm:=List UInt8
def dw (l:List aA) (n:Nm):Option aA:=l.find? fun f=>decide (f.name=n)
def xK (n:Nm) (l:List aA):List aA:=l.filter fun f=>decide (f.name≠n)
def oM (f:aA):List aA->List aA
 |[]=>[f]
 |g::r=>if g.name<f.name then g::oM f r else f::xK f.name (g::r)
theorem BX {n:Nm} {l:List aA} (h:∀f∈l,f.name≠n):xK n l=l:=by
 unfold xK;rw[List.filter_eq_self];intro f hf;simpa using h f hf
theorem U1 (n:Nm) (a b:List aA):xK n (a++b)=xK n a++xK n b:=by simp [xK]
theorem Jf (n:Nm) (f:aA) (b:List aA):xK n (f::b)=if f.name=n then xK n b else f::xK n b:=by
 unfold xK;rw[List.filter_cons];by_cases h:f.name=n<;>simp [h]
theorem Zf {n:Nm} {l:List aA} (h:∀f∈l,f.name≠n):dw l n=none:=by
 unfold dw;rw[List.find?_eq_none];intro f hf;simpa using h f hf
theorem ads {n:Nm} {a:List aA} (h:∀f∈a,f.name≠n) (b:List aA):dw (a++b) n=dw b n:=by
 unfold dw;rw[List.find?_append]
 have:=Zf h
 unfold dw at this
 rw[this];rfl
theorem pU (n:Nm) (f:aA) (b:List aA):dw (f::b) n=if f.name=n then some f else dw b n:=by
 unfold dw;rw[List.find?_cons];by_cases h:f.name=n<;>simp [h]
theorem xB {n:Nm} {l:List aA} {f:aA} (h:dw l n=some f):f∈l/\f.name=n:=
 ⟨List.mem_of_find?_eq_some h,by simpa using List.find?_some h⟩
theorem Uy {a b:Nm} (h:a<b):a≠b:=fun e=>VQ _ (e▸h)
inductive lW (n:Nm):List aA->Nat->Option aA->Prop
 |no (a b:List aA) (ha:∀f∈a,f.name<n) (hb:∀f∈b,n<f.name):lW n (a++b) a.length none
 |yes (a:List aA) (f:aA) (b:List aA) (e:f.name=n) (ha:∀f∈a,f.name<n) (hb:∀f∈b,n<f.name):lW n (a++f::b) a.length (some f)
theorem lW.get {n:Nm} {l:List aA} {i:Nat} {o:Option aA} (h:lW n l i o):dw l n=o:=by
 cases h with
 |no a b ha hb=>exact Zf fun f hf=>(List.mem_append.1 hf).elim (fun h=>Uy (ha f h)) (fun h=>(Uy (hb f h)).symm)
 |yes a f b e ha hb=>rw[ads fun f h=>Uy (ha f h),pU,if_pos e]
theorem lW.le {n:Nm} {l:List aA} {i:Nat} {o:Option aA} (h:lW n l i o):i<=l.length:=by
 cases h<;>simp
theorem lW.lt {n:Nm} {l:List aA} {i:Nat} {f:aA} (h:lW n l i (some f)):∃g:i<l.length,l[i]=f/\f.name=n:=by
 cases h with
 |yes a f b e ha hb=>exact⟨by simp,by simp,e⟩
theorem wH {f:aA} {a:List aA} (ha:∀g∈a,g.name<f.name) (b:List aA):oM f (a++b)=a++oM f b:=by
 induction a with
 |nil=>rfl
 |cons g a ih=>
  rw[List.cons_append,oM,if_pos (ha g (List.mem_cons_self ..)),ih fun g hg=>ha g (List.mem_cons_of_mem _ hg)];rfl
theorem Hf {f:aA} {b:List aA} (hb:∀g∈b,f.name<g.name):oM f b=f::b:=by
 cases b with
 |nil=>rfl
 |cons g b=>rw[oM,if_neg fun h=>VQ _ (WA h (hb g (List.mem_cons_self ..))),BX fun g hg=>(Uy (hb g hg)).symm]
theorem VP {f g:aA} {b:List aA} (e:g.name=f.name) (hb:∀g∈b,f.name<g.name):oM f (g::b)=f::b:=by
 rw[oM,if_neg (e▸VQ _),Jf,if_pos e,BX fun g hg=>(Uy (hb g hg)).symm]
theorem lW.ins {n:Nm} {l:List aA} {i:Nat} {f:aA} (h:lW n l i none) (e:f.name=n):l.take i++f::l.drop i=oM f l:=by
 subst e
 cases h with
 |no a b ha hb=>rw[wH ha,Hf hb];simp
theorem lW.set {n:Nm} {l:List aA} {i:Nat} {f g:aA} (h:lW n l i (some g)) (e:f.name=n):l.set i f=oM f l:=by
 subst e
 cases h with
 |yes a g b e ha hb=>rw[wH ha,VP e hb];simp
theorem lW.del {n:Nm} {l:List aA} {i:Nat} {g:aA} (h:lW n l i (some g)):l.eraseIdx i=xK n l:=by
 cases h with
 |yes a g b e ha hb=>
  rw[U1,Jf,if_pos e,BX fun g hg=>Uy (ha g hg),BX fun g hg=>(Uy (hb g hg)).symm,List.eraseIdx_append_of_length_le (Nat.le_refl _)];simp
theorem aaH {l:List aA} (h:Ji l) {i j:Nat} (hij:i<j) (hj:j<l.length):l[i].name<l[j].name:=
 List.pairwise_iff_getElem.1 h i j (by omega) hj hij
theorem ahy {l:List aA} (h:Ji l) {n:Nm} {i:Nat} (hi:i<=l.length) (h1:∀(j:Nat) (h:j<l.length),j<i->l[j].name<n) (h2:∀(j:Nat) (h:j<l.length),i<=j->¬l[j].name<n):
 lW n l i (if g:i<l.length then if l[i].name=n then some l[i]else none else none):=by
 have ha:∀f∈l.take i,f.name<n:=fun f hf=>by
  obtain⟨j,hj,rfl⟩:=List.mem_iff_getElem.1 hf
  rw[List.length_take]at hj
  rw[List.getElem_take]
  exact h1 j (by omega) (by omega)
 have hle:(l.take i).length=i:=by rw[List.length_take];omega
 by_cases g:i<l.length
 ·rw[dif_pos g]
  have hb:∀f∈l.drop (i+1),l[i].name<f.name:=fun f hf=>by
   obtain⟨j,hj,rfl⟩:=List.mem_iff_getElem.1 hf
   rw[List.length_drop]at hj
   rw[List.getElem_drop]
   exact aaH h (by omega) (by omega)
  have e:l.take i++l[i]::l.drop (i+1)=l:=by rw[<-List.drop_eq_getElem_cons g,List.take_append_drop]
  by_cases k:l[i].name=n
  ·rw[if_pos k]
   have:=lW.yes (l.take i) l[i] (l.drop (i+1)) k ha (k▸hb)
   rwa[e,hle]at this
  ·rw[if_neg k]
   have hlt:n<l[i].name:=by
    rcases aj3 n l[i].name with c | c | c
    ·exact c
    ·exact absurd c.symm k
    ·exact absurd c (h2 i g (Nat.le_refl _))
   have:=lW.no (l.take i) (l[i]::l.drop (i+1)) ha (fun f hf=>by
    rcases List.mem_cons.1 hf with c | c
    ·subst c;exact hlt
    ·exact WA hlt (hb f c))
   rwa[e,hle]at this
 ·rw[dif_neg g]
  have:=lW.no (l.take i) [] ha (by simp)
  rw[List.append_nil,hle,List.take_of_length_le (by omega)]at this
  exact this
theorem ahB (n:Nat) (h:n<1000000000):wr .i64 (bP .u64 (wr .u64 (wr .i64 (n:Int))) 1)=((n / 2:Nat):Int):=by
 have e1:wr .i64 (n:Int)=n:=bU (by omega) (by omega)
 have e2:wr .u64 (n:Int)=n:=by rw[Ac];omega
 have e3:bP .u64 (n:Int) 1=((n / 2:Nat):Int):=by
  unfold bP
  simp [Int.shiftRight_eq_div_pow,IntKind.bits,IntKind.signed]
  exact Int.fdiv_eq_ediv_of_nonneg _ (by decide)
 rw[e1,e2,e3,bU (by omega) (by omega)]
theorem afa (a b:Nm):aa8 a b<0↔a<b:=by
 unfold aa8
 rw[VR,zD]
 by_cases h:a<b
 ·simp [h]
 ·rw[if_neg h]
  cases seq a b<;>simp [cnd,h]
theorem af6 (a b:Nm):aa8 a b=0↔a=b:=by
 unfold aa8
 rw[VR,zD]
 by_cases h:a<b
 ·simp [h,Uy h]
 ·rw[if_neg h]
  by_cases k:a=b
  ·rw[aH (by rw[alb];exact k)];simp [k]
  ·rw[dH (by rw[ali];exact k)];simp [k]
theorem Np {d:ah} {n:Nm} (ha:Ji d.files) (hl:d.files.length<=100000):
 Wq (dP d n) fun r=>∃(i:Nat) (o:Option aA),r.1=(i:Int)/\lW n d.files i o/\r.2=o.isSome:=by
 unfold dP
 refine Wq.bind (Q:=fun w:Int=>∃i:Nat,w=(i:Int)/\i<=d.files.length/\(∀(j:Nat) (h:j<d.files.length),j<i->d.files[j].name<n)/\(∀(j:Nat) (h:j<d.files.length),i<=j->¬d.files[j].name<n))
  (WR (step:=fun x:Int×Int=>fB d.files n x.1 x.2) (fun v=>(v.1 - v.2).toNat)
    (fun x=>∃lo hi:Nat,x=((hi:Int),(lo:Int))/\lo<=hi/\hi<=d.files.length/\(∀(j:Nat) (h:j<d.files.length),j<lo->d.files[j].name<n)/\(∀(j:Nat) (h:j<d.files.length),hi<=j->¬d.files[j].name<n)) _ ?_ LF _ (adM (by simp only[len];omega)) ⟨0,d.files.length,rfl,Nat.zero_le _,Nat.le_refl _,fun j _ h=>by omega,fun j h1 h2=>by omega⟩) ?_
 ·rintro _ ⟨lo,hi,rfl,g1,g2,g3,g4⟩
  simp only[fB]
  rw[iH]
  refine⟨fun h=> ?_,fun h=>(ak _).2 ?_⟩
  ·rw[dG]at h
   have e1:wr .i64 (bP .u64 (wr .u64 (wr .i64 (au (lo:Int) (hi:Int)))) 1)=(((lo+hi) / 2:Nat):Int):=by
    rw[<-ahB (lo+hi) (by omega)];unfold au;rw[Int.natCast_add]
   have hm:(lo+hi) / 2<d.files.length:=by omega
   rw[e1,aH (inb _ _ hm),bQ _ _ hm,qw,ai,iH,ak,ak]
   refine⟨fun h2=> ?_,fun h2=> ?_⟩
   ·rw[dG,afa]at h2
    refine⟨⟨(lo+hi) / 2+1,hi,by rw[eu (by omega)],by omega,g2,fun j hj h3=> ?_,g4⟩,?_⟩
    ·rcases Nat.lt_or_ge j ((lo+hi) / 2)with h4 | h4
     ·exact WA (aaH ha h4 hm) h2
     ·have:j=(lo+hi) / 2:=by omega
      subst this;exact h2
    ·simp only;rw[eu (by omega)];omega
   ·rw[dK]at h2
    have h2':¬d.files[(lo+hi) / 2].name<n:=by rw[<-afa];omega
    refine⟨⟨lo,(lo+hi) / 2,rfl,by omega,by omega,g3,fun j hj h3=> ?_⟩,?_⟩
    ·rcases Nat.lt_or_ge ((lo+hi) / 2) j with h4 | h4
     ·exact fun g=>h2' (WA (aaH ha h4 hj) g)
     ·have:j=(lo+hi) / 2:=by omega
      subst this;exact h2'
    ·simp only;omega
  ·rw[dK]at h
   have:lo=hi:=by omega
   subst this
   exact⟨lo,rfl,g2,g3,g4⟩
 rintro _ ⟨i,rfl,hi,g1,g2⟩
 have hs:=ahy ha hi g1 g2
 by_cases hil:i<d.files.length
 ·have h1:ilt (i:Int) (len d.files)=true:=Di (by simp only[len];omega)
  rw[aH (by rw[dF];exact .inl (inb _ i hil)),aH h1,bQ _ i hil,qw,ai,ak]
  refine⟨i,_,rfl,hs,?_⟩
  rw[dif_pos hil,h1,IA]
  by_cases k:d.files[i].name=n
  ·rw[if_pos k];show ieq _ 0=true;rw[bD,af6];exact k
  ·rw[if_neg k];show ieq _ 0=false;rw[bG,ne_eq,af6];exact k
 ·have h1:ilt (i:Int) (len d.files)=false:=Bv (by simp only[len];omega)
  rw[aH (by rw[dF,bI];exact .inr h1),dH h1,ak]
  refine⟨i,_,rfl,hs,?_⟩
  rw[dif_neg hil,h1];rfl
def iZ (d:ah) (ns:List Nm):Int:=if ¬gG d then 1 else if d.down=true then 9 else if ∀n∈ns,jK n then 0 else 1
def dA (d:ah):ah×Bool:=if d.fuse=0 then (⟨d.files,d.room,d.fuse,true⟩,false)else if d.fuse= -1 then (d,true)else (⟨d.files,d.room,d.fuse - 1,d.down⟩,true)
def yj (d:ah) (f:aA):ah:=⟨oM f d.files,d.room,d.fuse,d.down⟩
def YI (d:ah) (n:Nm):ah:=⟨xK n d.files,d.room,d.fuse,d.down⟩
theorem amq {α:Type} (a b:Nm) (x y:α):cnd (seq a b) x y=if a=b then x else y:=by
 by_cases h:a=b
 ·rw[if_pos h,aH (by rw[alb];exact h)]
 ·rw[if_neg h,dH (by rw[ali];exact h)]
theorem kN {d:ah} {ns:List Nm}:iZ d ns=0↔gG d/\d.down=false/\∀n∈ns,jK n:=by
 unfold iZ
 by_cases h1:gG d
 ·cases h2:d.down
  ·by_cases h3:∀n∈ns,jK n
   ·simp [h1,h3]
   ·simp [h1,h3]
  ·simp [h1]
 ·simp [h1]
theorem aeI (d:ah) (a b:Nm):iZ d [a,b]=iZ d [b,a]:=by
 unfold iZ
 have:(∀n∈[a,b],jK n)↔∀n∈[b,a],jK n:=by simp [and_comm]
 by_cases h:∀n∈[a,b],jK n
 ·simp only[if_pos h,if_pos (this.1 h)]
 ·simp only[if_neg h,if_neg (fun g=>h (this.2 g))]
theorem NW {d:ah} {ns:List Nm} (hn:nameB d) (hs:∀n∈ns,n.length<999999) (hl:ns.length<1000):jb d ns=some (iZ d ns):=by
 refine Wq.eq ?_
 unfold jb iZ
 rw[A7 hn,ai,gm,zD]
 by_cases hd:gG d
 case neg=>rw[if_neg hd,ak];simp [hd]
 rw[if_pos hd]
 cases hw:d.down
 case true=>rw[bH,ak];simp [hd]
 rw[aX]
 refine Wq.bind (Q:=fun w:Int ⊕ Int=>match w with
  |.inl k=>0<=k/\¬∀n∈ns,jK n
  |.inr _=>∀n∈ns,jK n)
  (lZ (n:=ns.length) (step:=fun v:Int×Int=>dO (len ns) ns v.1 v.2) (by omega) (fun i x=>∀n∈ns.take i,jK n) _ ?_ ?_ _ 0 (Nat.zero_le _) (by simp)) ?_
 ·rintro i x hi hx
  simp only[dO]
  rw[aH (by rw[ig];simpa using hi),aH (inb _ i hi),bQ _ i hi,afy (hs _ (List.getElem_mem hi)),ai,gm,zD]
  split
  ·rename_i g
   refine(ak _).2 ⟨eu (by omega),?_⟩
   rw[kQ hi]
   intro f hf
   rcases List.mem_append.1 hf with c | c
   ·exact hx f c
   ·rw[List.mem_singleton.1 c];exact g
  ·rename_i g
   exact(ak _).2 ⟨by omega,fun h=>g (h _ (List.getElem_mem hi))⟩
 ·rintro x hx
  simp only[dO]
  rw[dH (Nb _),ak]
  rwa[List.take_length]at hx
 ·rintro(w | w) hw2
  ·simp only[jB]
   rw[aH (jG hw2.1),ak,if_neg (fun h=>h hd),if_neg (by simp),if_neg hw2.2]
  ·simp only[jB]
   rw[ak,if_neg (fun h=>h hd),if_neg (by simp),if_pos hw2]
theorem aeK {l:List aA} (h:iC l<=10000000) {f:aA} (hf:f∈l):f.data.length<=10000000:=by
 obtain⟨i,hi,rfl⟩:=List.mem_iff_getElem.1 hf
 have:=zn hi
 have:=FK l (i+1)
 omega
theorem al2 {d:ah} (hl:d.files.length<999999) (hu:iC d.files<=10000000):Dh d=some (iC d.files:Int):=by
 refine Wq.eq ?_
 unfold Dh
 refine Wq.bind (lZ (n:=d.files.length) (step:=fun v:Int×Int=>wU (len d.files) d.files v.1 v.2) hl (fun i x=>x=(iC (d.files.take i):Int)) (fun w=>w=(iC d.files:Int)) ?_ ?_ 0 0 (Nat.zero_le _) (by simp [iC])) ?_
 ·rintro i x hi rfl
  simp only[wU]
  rw[aH (by rw[ig];simpa using hi),aH (inb _ i hi),bQ _ i hi,ak]
  have h1:=zn hi
  have h2:=FK d.files (i+1)
  refine⟨eu (by omega),?_⟩
  rw[au,bU (by simp only[len];omega) (by simp only[len];omega)]
  simp only[len];omega
 ·rintro x rfl
  simp only[wU]
  rw[dH (Nb _),ak,List.take_length]
 ·rintro w rfl
  exact(ak _).2 rfl
theorem XW (n:Nm) (l:List aA):(xK n l).length<=l.length:=List.length_filter_le ..
theorem Lr {l:List aA} (h:l.length<1000000):aK l=some l:=by unfold aK;exact oV h
theorem acA {l:List Int} (h:l.length<1000000):dN l=some l:=by unfold dN;exact oV h
def adT (p:ah×Bool):ah×Int:=(p.1,if p.2=true then 0 else 9)
def eY (d:ah) (n:Nm) (b:List Int):ah×Int:=
 if iZ d [n]≠0 then (d,iZ d [n])else
 if d.room<(iC d.files:Int)+(b.length:Int)\/(dw d.files n=none/\64<=d.files.length)then (d,6)else
 adT (dA (yj d ⟨n,((dw d.files n).getD ⟨n,[],0⟩).data++b,((dw d.files n).getD ⟨n,[],0⟩).sure⟩))
def nJ (d:ah) (n:Nm):ah×Int:=
 if iZ d [n]≠0 then (d,iZ d [n])else
 match dw d.files n with
 |none=>(d,7)
 |some f=>if (dA d).2=true then (yj (dA d).1 ⟨n,f.data,len f.data⟩,0)else ((dA d).1,9)
def jW (d:ah) (a b:Nm):ah×Int:=
 if iZ d [a,b]≠0 then (d,iZ d [a,b])else
 match dw d.files a with
 |none=>(d,7)
 |some f=>if (dA d).2=true then (yj (YI (dA d).1 a) ⟨b,f.data,f.sure⟩,0)else ((dA d).1,9)
def gX (d:ah) (n:Nm):ah×Int:=
 if iZ d [n]≠0 then (d,iZ d [n])else
 match dw d.files n with
 |none=>(d,7)
 |some f=>if (dA d).2=true then (YI (dA d).1 n,0)else ((dA d).1,9)
def Aj (d:ah) (n:Nm) (k:Int):ah×Int:=
 if iZ d [n]≠0 then (d,iZ d [n])else
 match dw d.files n with
 |none=>(d,7)
 |some f=>if k<0\/len f.data<k then (d,1)else
  if (dA d).2=true then (yj (dA d).1 ⟨n,f.data.take k.toNat,if k<f.sure then k else f.sure⟩,0)else ((dA d).1,9)
def RH (d:ah) (n:Nm):List Int×Int:=
 if iZ d [n]≠0 then ([],iZ d [n])else
 match dw d.files n with
 |none=>([],7)
 |some f=>(f.data,0)
structure Gf (d:ah):Prop where
 nm:nameB d
 fu:inI d.fuse
theorem gG.fl {d:ah} (h:gG d):d.files.length<=64:=h.1.2.2.2
theorem gG.us {d:ah} (h:gG d):iC d.files<=65536:=by have:=h.2.2;have:=h.1;omega
theorem gG.asc {d:ah} (h:gG d):Ji d.files:=h.2.1.2
theorem bT (d:ah):(dA d).1.files=d.files:=by unfold dA;split<;>(try split)<;>rfl
theorem sS (d:ah):(dA d).1.room=d.room:=by unfold dA;split<;>(try split)<;>rfl
theorem N9 {α:Type} (d:ah) (hf: -1<=d.fuse) (hf2:inI d.fuse) (x:α) (y:Int->Bool->α):
 cnd (ieq d.fuse 0) x (cnd (ieq d.fuse (-1)) (y d.fuse d.down) (y (wr .i64 (aB d.fuse 1)) d.down))=if (dA d).2=true then y (dA d).1.fuse (dA d).1.down else x:=by
 rw[fC,fC]
 unfold dA
 unfold inI at hf2
 by_cases h0:d.fuse=0
 ·simp [h0]
 by_cases h1:d.fuse= -1
 ·simp [h1]
 ·rw[if_neg h0,if_neg h1,if_neg h0,if_neg h1,if_pos rfl,I9 ⟨by simp only[aB];omega,by simp only[aB];omega⟩];rfl
theorem Oi {d:ah} (h:¬(dA d).2=true):(dA d).1=⟨d.files,d.room,d.fuse,true⟩:=by
 unfold dA at h ⊢
 split
 ·rfl
 ·rename_i h0
  rw[if_neg h0]at h
  split at h<;>simp at h
theorem cut_out {α:Type} (l r:List α) (i:Nat) (h:i<l.length):
 (eU (eU l i (l.drop (i+1))) (i+(l.drop (i+1)).length) r).take (i+(l.drop (i+1)).length)=l.eraseIdx i:=by
 unfold eU
 have h1:(l.take i).length=i:=by rw[List.length_take];omega
 have e:(l.take i++(l.drop (i+1)++l.drop (i+(l.drop (i+1)).length))).take (i+(l.drop (i+1)).length)=l.take i++l.drop (i+1):=by
  rw[<-List.append_assoc,List.take_append_of_le_length (by rw[List.length_append,h1];exact Nat.le_refl _),List.take_of_length_le (by rw[List.length_append,h1];exact Nat.le_refl _)]
 rw[e,List.take_append_of_le_length (by rw[List.length_append,h1];exact Nat.le_refl _),List.take_of_length_le (by rw[List.length_append,h1];exact Nat.le_refl _),List.eraseIdx_eq_take_drop_succ]
theorem adh {α:Type} (l:List α) (i:Nat) (h:i<l.length):ay (aF l (itn ((i+1:Nat):Int))) (itn (aB (len l) ((i+1:Nat):Int)))=l.drop (i+1):=by
 unfold ay aF aB
 rw[uY]
 apply List.take_of_length_le
 rw[List.length_drop]
 simp only[itn,len];omega
theorem adS {α:Type} (l:List α) (i:Nat) (h:i<l.length):nad i (itn (len (l.drop (i+1))))=i+(l.drop (i+1)).length:=by simp [nad,itn,len]
theorem ZY {α:Type} (l:List α) (i:Nat) (ys:List α) (h:i+ys.length<=l.length):(eU l i ys).length=l.length:=by
 unfold eU;simp only[List.length_append,List.length_take,List.length_drop];omega
theorem acY (n:Nat):nad 0 n=n:=by simp [nad]
theorem afI (n:Nat):itn (nti n)=n:=by simp [itn,nti]
end Go.Av
