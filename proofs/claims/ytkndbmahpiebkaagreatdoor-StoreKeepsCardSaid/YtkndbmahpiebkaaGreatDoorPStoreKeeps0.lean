/- The plain law, part 0. No condition. -/
import Derived.Test.YtkndbmahpiebkaaGreatDoorDStoreKeeps
import Derived.KernelRfl
set_option linter.unusedVariables false
set_option linter.unusedSimpArgs false
set_option linter.unnecessarySimpa false
namespace Go.Av
open Go
theorem aau {V W:Type} {step:V->Option (V ⊕ W)} (μ:V->Nat) (I:V->Prop) (R:W->Prop)
 (h:∀v,I v->(∃v',step v=some (.inl v')/\I v'/\μ v'<μ v)\/∃w,step v=some (.inr w)/\R w):∀(n:Nat) (v:V),μ v<n->I v->∃w,bF step n v=some w/\R w
 |0,v,hn,_=>by omega
 |n+1,v,hn,hI=>by
  rcases h v hI with ⟨v',h1,h2,h3⟩ | ⟨w,h1,h2⟩
  ·obtain⟨w,g1,g2⟩:=aau μ I R h n v' (by omega) h2
   exact⟨w,by rw[bF,h1];exact g1,g2⟩
  ·exact⟨w,by rw[bF,h1];rfl,h2⟩
theorem akv {n:Nat} (h:n<1000000):n<LF:=Nat.lt_trans h (by decide)
theorem S9 {n:Int} (h:inI n):wr .i64 n=n:=by
 unfold inI at h
 unfold wr IntKind.wrap
 simp [IntKind.bits,IntKind.signed]
 omega
theorem am3 (n:Int):inI (wr .i64 n):=by
 unfold inI wr IntKind.wrap
 simp [IntKind.bits,IntKind.signed]
 omega
theorem afO {n:Int} (h1: -18446744073709551616<=n) (h2:n<=18446744073709551616):
 (inI n/\wr .i64 n=n)\/(9223372036854775807<n/\wr .i64 n=n - 18446744073709551616)\/(n< -9223372036854775808/\wr .i64 n=n+18446744073709551616):=by
 unfold inI wr IntKind.wrap
 simp [IntKind.bits,IntKind.signed]
 omega
theorem Ce (n:Int):wr .u64 n=n%18446744073709551616:=by
 unfold wr IntKind.wrap
 simp [IntKind.bits,IntKind.signed]
theorem dX {n:Int} (h1:0<=n) (h2:n<1000000000000):wr .i64 n=n:=S9 ⟨by omega,by omega⟩
theorem aT {α:Type} {b:Bool} {x y:α} (h:b=true):cnd b x y=x:=by subst h;rfl
theorem gQ {α:Type} {b:Bool} {x y:α} (h:b=false):cnd b x y=y:=by subst h;rfl
theorem Vk {α:Type} (b:Bool) (x y:α):cnd b x y=if b=true then x else y:=by cases b<;>rfl
theorem lU {α:Type} (a b:Int) (x y:α):cnd (ieq a b) x y=if a=b then x else y:=by
 by_cases h:a=b
 ·rw[if_pos h,show ieq a b=true by simp [ieq,h]];rfl
 ·rw[if_neg h,show ieq a b=false by simp [ieq,h]];rfl
theorem agB {α:Type} (a b:Int) (x y:α):cnd (ilt a b) x y=if a<b then x else y:=by
 by_cases h:a<b
 ·rw[if_pos h,show ilt a b=true by simp [ilt,h]];rfl
 ·rw[if_neg h,show ilt a b=false by simp [ilt,h]];rfl
theorem aoC {α:Type} (a b:Int) (x y:α):cnd (ile a b) x y=if a<=b then x else y:=by
 by_cases h:a<=b
 ·rw[if_pos h,show ile a b=true by simp [ile,h]];rfl
 ·rw[if_neg h,show ile a b=false by simp [ile,h]];rfl
theorem lH {α:Type} (b:Bool) (x y:α):cnd (aC b) x y=cnd b y x:=by cases b<;>rfl
theorem Oo {α:Type} (P:Prop) [Decidable P] (x y:α):cnd (decide P) x y=if P then x else y:=by
 by_cases h:P
 ·rw[if_pos h,decide_eq_true h];rfl
 ·rw[if_neg h,decide_eq_false h];rfl
instance (n:Int):Decidable (inI n):=by unfold inI;infer_instance
theorem aA {α β:Type} (a:α) (f:α->Option β):af (some a) f=f a:=rfl
theorem aoS {α β:Type} (p:Prop) [Decidable p] (x y:Option α) (f:α->Option β):af (if p then x else y) f=if p then af x f else af y f:=by split<;>rfl
theorem EP {a b:Int} (h:a<b):ilt a b=true:=decide_eq_true h
theorem Gs {a b:Int} (h:¬a<b):ilt a b=false:=decide_eq_false h
theorem oU {a b:Int} (h:a<=b):ile a b=true:=decide_eq_true h
theorem aoD {a b:Int} (h:¬a<=b):ile a b=false:=decide_eq_false h
theorem adl (a:Int):ieq a a=true:=by simp [ieq]
theorem GU {a b:Bool} (h1:a=true) (h2:b=true):band a b=true:=by subst h1;subst h2;rfl
theorem dI {α:Type} [Inhabited α] (l:List α) (i:Nat) (h:i<l.length):ah l (itn (i:Int))=l[i]:=by
 simp [ah,itn,h]
theorem inb {α:Type} (l:List α) (i:Nat) (h:i<l.length):band (ile 0 (i:Int)) (ilt (i:Int) (len l))=true:=GU (oU (by omega)) (EP (by simp only[len];omega))
theorem bH (a b:Bool):(band a b=true)=(a=true/\b=true):=by cases a<;>cases b<;>simp [band]
theorem dH (a b:Bool):(band a b=false)=(a=false\/b=false):=by cases a<;>cases b<;>simp [band]
theorem dZ (a b:Bool):(bor a b=true)=(a=true\/b=true):=by cases a<;>cases b<;>simp [bor]
theorem fE (a b:Bool):(bor a b=false)=(a=false/\b=false):=by cases a<;>cases b<;>simp [bor]
theorem bM (a:Bool):(aC a=true)=(a=false):=by cases a<;>simp [aC]
theorem bQ (a:Bool):(aC a=false)=(a=true):=by cases a<;>simp [aC]
theorem eH (a b:Int):(ilt a b=true)=(a<b):=by simp [ilt]
theorem fG (a b:Int):(ilt a b=false)=(b<=a):=by simp [ilt]
theorem dO (a b:Int):(ile a b=true)=(a<=b):=by simp [ile]
theorem fK (a b:Int):(ile a b=false)=(b<a):=by simp [ile]
theorem bZ (a b:Int):(ieq a b=true)=(a=b):=by simp [ieq]
theorem dw (a b:Int):(ieq a b=false)=(a≠b):=by simp [ieq]
theorem fO (a b:Bool):(beq a b=true)=(a=b):=by simp [beq]
theorem fQ (a b:Bool):(beq a b=false)=(a≠b):=by simp [beq]
theorem aiZ (a b:List UInt8):(seq a b=true)=(a=b):=by simp [seq]
theorem ai9 (a b:List UInt8):(seq a b=false)=(a≠b):=by simp [seq]
def Wq {α:Type} (o:Option α) (Q:α->Prop):Prop:=∃a,o=some a/\Q a
theorem au {α:Type} {Q:α->Prop} (a:α):Wq (some a) Q↔Q a:=⟨fun⟨_,h,q⟩=>by cases h;exact q,fun h=>⟨a,rfl,h⟩⟩
theorem lq {α:Type} {Q:α->Prop} (c:Bool) (x y:Option α):Wq (cnd c x y) Q↔(c=true->Wq x Q)/\(c=false->Wq y Q):=by
 cases c<;>simp [cnd]
theorem Bl {α β:Type} {Q:β->Prop} (o:Option α) (f:α->Option β):Wq (af o f) Q↔Wq o fun a=>Wq (f a) Q:=by
 cases o with
 |none=>simp [af,Wq]
 |some a=>simp [af,au]
theorem Wq.mono {α:Type} {Q R:α->Prop} {o:Option α} (h:Wq o Q) (hq:∀a,Q a->R a):Wq o R:=by
 obtain⟨a,e,q⟩:=h
 exact⟨a,e,hq a q⟩
theorem Wq.bind {α β:Type} {Q:α->Prop} {R:β->Prop} {o:Option α} {f:α->Option β} (h:Wq o Q) (hq:∀a,Q a->Wq (f a) R):Wq (af o f) R:=(Bl o f).2 (h.mono hq)
theorem Wq.eq {α:Type} {o:Option α} {a:α} (h:Wq o fun x=>x=a):o=some a:=by obtain⟨x,e,rfl⟩:=h;exact e
theorem Wq.dec {o:Option Bool} {P:Prop} [Decidable P] (h:Wq o fun b=>b=true↔P):o=some (decide P):=by
 obtain⟨b,e,q⟩:=h
 rw[e];congr 1
 cases b<;>simp_all
theorem afM {V W:Type} {step:V->Option (V ⊕ W)} (μ:V->Nat) (I:V->Prop) (R:W->Prop)
 (h:∀v,I v->Wq (step v) fun r=>match r with | .inl v'=>I v'/\μ v'<μ v | .inr w=>R w) (n:Nat) (v:V) (hn:μ v<n) (hi:I v):Wq (bF step n v) R:=
 aau μ I R (fun v hv=>by
  obtain⟨r,e,q⟩:=h v hv
  match r,e,q with
  |.inl v',e,q=>exact .inl ⟨v',e,q.1,q.2⟩
  |.inr w,e,q=>exact .inr ⟨w,e,q⟩) n v hn hi
theorem eF {i:Nat} (h:i<1000000):wr .i64 (ak (i:Int) 1)=((i+1:Nat):Int):=by
 unfold ak
 rw[dX (by omega) (by omega)];omega
theorem jq {α:Type} (l:List α) (i:Nat):ilt (i:Int) (len l)=decide (i<l.length):=by
 simp [ilt,len]
theorem oP {W X:Type} {step:Int×X->Option ((Int×X) ⊕ W)} {n:Nat} (hn:n<999999) (J:Nat->X->Prop) (R:W->Prop)
 (h:∀i x,i<n->J i x->Wq (step ((i:Int),x)) fun r=>match r with | .inl (k,x')=>k=((i+1:Nat):Int)/\J (i+1) x' | .inr w=>R w)
 (he:∀x,J n x->Wq (step ((n:Int),x)) fun r=>match r with | .inl _=>False | .inr w=>R w)
 (x:X) (i0:Nat) (hi0:i0<=n) (hx:J i0 x):Wq (bF step LF ((i0:Int),x)) R:=by
 refine afM (fun v:Int×X=>n - v.1.toNat) (fun v:Int×X=>∃i:Nat,v.1=(i:Int)/\i<=n/\J i v.2) R ?_ LF _ (akv (by simp only;omega)) ⟨i0,rfl,hi0,hx⟩
 rintro⟨k,y⟩ ⟨i,rfl,hi,hj⟩
 by_cases hlt:i<n
 ·refine(h i y hlt hj).mono fun r hr=> ?_
  match r,hr with
  |.inl (k,x'),hr=>
   obtain⟨rfl,h2⟩:=hr
   exact⟨⟨i+1,rfl,hlt,h2⟩,by simp only[Int.toNat_natCast];omega⟩
  |.inr w,hr=>exact hr
 ·obtain rfl:i=n:=by omega
  refine(he y hj).mono fun r hr=> ?_
  match r,hr with
  |.inl _,hr=>exact hr.elim
  |.inr w,hr=>exact hr
theorem Zo {α:Type} {l:List α} (h:l.length<1000000):TL (len l) (fun y0 => cnd (beq y0 true) (some []) (cnd (ile (len l) 68719476736) (some l) none))=some l:=by
 unfold TL
 have hc:ile (len l) 68719476736=true:=oU (by simp only[len];omega)
 simp only[aT hc]
 by_cases h0:len l=0
 ·have:l=[]:=List.eq_nil_of_length_eq_zero (by simp only[len]at h0;omega)
  subst this
  simp [len,cnd,beq,ile]
 ·rw[if_neg h0]
  simp [cnd,beq]
theorem cu {α:Type} (x y:α):cnd true x y=x:=rfl
theorem bU {α:Type} (x y:α):cnd false x y=y:=rfl
theorem dF:aC true=false:=rfl
theorem dG:aC false=true:=rfl
theorem qH (b:Bool):band true b=b:=rfl
theorem wQ (b:Bool):band false b=false:=rfl
theorem uX (b:Bool):bor true b=true:=rfl
theorem lS (b:Bool):bor false b=b:=rfl
theorem VS (b:Bool):band b false=false:=by cases b<;>rfl
theorem aaL (b:Bool):bor b true=true:=by cases b<;>rfl
theorem Ap:ieq 0 0=true:=rfl
theorem FW:ieq 3 0=false:=rfl
theorem FN {α:Type} (l:List α) (i:Nat) (x:α):(bf l i x).length=l.length:=by simp [bf]
theorem qA (i:Nat):itn (i:Int)=i:=by simp [itn]
theorem vC {a b:Int} (ha:inI a) (hb:inI b):oz a b=some (if inI (a+b)then (a+b,0)else (0,3)):=by
 unfold inI at ha hb
 unfold oz ak
 rcases afO (n:=a+b) (by omega) (by omega)with ⟨h,e⟩ | ⟨h,e⟩ | ⟨h,e⟩<;>rw[e,Vk]<;>simp only[bH,dH,dZ,fE,bM,bQ,eH,fG,dO,fK,bZ,dw,fO,fQ]
 ·rw[if_pos h,if_neg]
  rintro⟨h1,h2⟩;unfold inI at h;exact h1 (decide_eq_decide.2 (by omega))
 ·rw[if_pos,if_neg (by unfold inI;omega)]
  exact⟨fun h1=>by have:=decide_eq_decide.1 h1;omega,by omega⟩
 ·rw[if_pos,if_neg (by unfold inI;omega)]
  exact⟨fun h1=>by have:=decide_eq_decide.1 h1;omega,by omega⟩
theorem ahW {a b:Int} (ha:inI a) (hb:inI b):vI a b=some (if inI (a - b)then (a - b,0)else (0,3)):=by
 unfold inI at ha hb
 unfold vI aF
 rcases afO (n:=a - b) (by omega) (by omega)with ⟨h,e⟩ | ⟨h,e⟩ | ⟨h,e⟩<;>rw[e,Vk]<;>simp only[bH,dH,dZ,fE,bM,bQ,eH,fG,dO,fK,bZ,dw,fO,fQ]
 ·rw[if_pos h,if_neg]
  rintro⟨h1,h2⟩;unfold inI at h;exact h1 (decide_eq_decide.2 (by omega))
 ·rw[if_pos,if_neg (by unfold inI;omega)]
  exact⟨fun h1=>by have:=decide_eq_decide.1 h1;omega,by omega⟩
 ·rw[if_pos,if_neg (by unfold inI;omega)]
  exact⟨fun h1=>by have:=decide_eq_decide.1 h1;omega,by omega⟩
theorem aa9 (a b:Int):Fj a b=some (max a b):=by
 unfold Fj imax
 congr 1
 by_cases h:b>a
 ·rw[if_pos h];omega
 ·rw[if_neg h];omega
theorem half (n:Int) (h1:0<=n) (h2:n<18446744073709551616):∃a b:Int,n=a*4294967296+b/\0<=a/\a<4294967296/\0<=b/\b<4294967296/\cZ .u64 n 32=a/\wr .u64 (nO .u64 n 4294967295)=b:=by
 refine⟨n / 4294967296,n%4294967296,by omega,by omega,by omega,by omega,by omega,?_,?_⟩
 ·unfold cZ
  have:min (Int.toNat 32) (IntKind.bits .u64)=32:=by decide
  rw[this,Int.fdiv_eq_ediv_of_nonneg _ (by decide)]
  rfl
 ·unfold nO
  rw[Ce]
  have e:(BitVec.ofInt (IntKind.bits .u64) n &&& BitVec.ofInt (IntKind.bits .u64) 4294967295).toNat=n.toNat%4294967296:=by
   rw[BitVec.toNat_and]
   have:(BitVec.ofInt (IntKind.bits .u64) 4294967295).toNat=2^32 - 1:=by decide
   rw[this,Nat.and_two_pow_sub_one_eq_mod]
   rw[BitVec.toNat_ofInt]
   congr 1
   have:(n%(2^(IntKind.bits .u64):Nat))=n:=Int.emod_eq_of_lt h1 (by simpa [IntKind.bits] using h2)
   rw[this]
  rw[e];omega
theorem alW {x y:Int} (hx:0<=x) (hx2:x<18446744073709551616) (hy:0<=y) (hy2:y<18446744073709551616):
 oH x y=some (x*y / 18446744073709551616,x*y%18446744073709551616):=by
 obtain⟨a,b,e1,a1,a2,b1,b2,s1,s2⟩:=half x hx hx2
 obtain⟨c,d,e2,c1,c2,d1,d2,t1,t2⟩:=half y hy hy2
 unfold oH
 rw[s1,s2,t1,t2]
 unfold jr ak
 have m1:0<=a*c/\a*c<=4294967295*4294967295:=⟨Int.mul_nonneg a1 c1,Int.mul_le_mul (by omega) (by omega) c1 (by omega)⟩
 have m2:0<=a*d/\a*d<=4294967295*4294967295:=⟨Int.mul_nonneg a1 d1,Int.mul_le_mul (by omega) (by omega) d1 (by omega)⟩
 have m3:0<=b*c/\b*c<=4294967295*4294967295:=⟨Int.mul_nonneg b1 c1,Int.mul_le_mul (by omega) (by omega) c1 (by omega)⟩
 have m4:0<=b*d/\b*d<=4294967295*4294967295:=⟨Int.mul_nonneg b1 d1,Int.mul_le_mul (by omega) (by omega) d1 (by omega)⟩
 have mm:x*y=a*c*18446744073709551616+(a*d+b*c)*4294967296+b*d:=by
  subst e1 e2
  simp only[Int.add_mul,Int.mul_add]
  have q1:a*4294967296*(c*4294967296)=a*c*18446744073709551616:=by
   rw[Int.mul_assoc,Int.mul_left_comm 4294967296,<-Int.mul_assoc,<-Int.mul_assoc];omega
  have q2:a*4294967296*d=a*d*4294967296:=by rw[Int.mul_assoc,Int.mul_comm 4294967296,<-Int.mul_assoc]
  have q3:b*(c*4294967296)=b*c*4294967296:=by rw[<-Int.mul_assoc]
  rw[q1,q2,q3];omega
 rw[mm]
 generalize a*c=p at*
 generalize a*d=q at*
 generalize b*c=r at*
 generalize b*d=t at*
 have sh:∀n:Int,0<=n->n<18446744073709551616->cZ .u64 n 32=n / 4294967296:=fun n h1 h2=>by
  obtain⟨u,v,h3,h4,h5,h6,h7,h8,_⟩:=half n h1 h2
  rw[h8];omega
 have la:∀n:Int,0<=n->n<18446744073709551616->wr .u64 (nO .u64 n 4294967295)=n%4294967296:=fun n h1 h2=>by
  obtain⟨u,v,h3,h4,h5,h6,h7,_,h8⟩:=half n h1 h2
  rw[h8];omega
 simp only[Ce p,Ce q,Ce r,Ce t]
 rw[Int.emod_eq_of_lt (a:=p) m1.1 (by omega),Int.emod_eq_of_lt (a:=q) m2.1 (by omega),Int.emod_eq_of_lt (a:=r) m3.1 (by omega),Int.emod_eq_of_lt (a:=t) m4.1 (by omega)]
 rw[sh t m4.1 (by omega)]
 rw[Ce (q+t / 4294967296),Int.emod_eq_of_lt (a:=q+t / 4294967296) (by omega) (by omega)]
 rw[sh (q+t / 4294967296) (by omega) (by omega),la (q+t / 4294967296) (by omega) (by omega)]
 rw[Ce (p+_),Int.emod_eq_of_lt (a:=p+(q+t / 4294967296) / 4294967296) (by omega) (by omega)]
 rw[Ce ((q+t / 4294967296)%4294967296+r),Int.emod_eq_of_lt (a:=(q+t / 4294967296)%4294967296+r) (by omega) (by omega)]
 rw[sh _ (by omega) (by omega)]
 rw[Ce,Ce]
 congr 2<;>omega
theorem Xx {a:Int} (ha:inI a):Dc a=some (a.natAbs:Int):=by
 unfold inI at ha
 unfold Dc aF
 rw[Vk];simp only[eH,Ce]
 split
 ·congr 1;omega
 ·congr 1;omega
theorem aa3 {a b:Int} (ha:inI a) (hb:inI b):Fz a b=some (if inI (a*b)then (a*b,0)else (0,3)):=by
 unfold Fz
 rw[Xx ha,Xx hb,aA,aA,alW (by omega) (by unfold inI at ha;omega) (by omega) (by unfold inI at hb;omega),aA]
 have hm:(a.natAbs:Int)*(b.natAbs:Int)=((a*b).natAbs:Int):=by rw[Int.natAbs_mul];rfl
 have hn:(a.natAbs:Int)*(b.natAbs:Int)<=9223372036854775808*9223372036854775808:=Int.mul_le_mul (by unfold inI at ha;omega) (by unfold inI at hb;omega) (by omega) (by omega)
 rw[hm]at hn ⊢
 have hs:(decide (a<0)=decide (b<0)->0<=a*b)/\(decide (a<0)≠decide (b<0)->a*b<=0):=by
  constructor
  ·intro h
   by_cases h1:a<0
   ·have h2:b<0:=by simpa [h1] using h
    exact Int.mul_nonneg_of_nonpos_of_nonpos (by omega) (by omega)
   ·have h2:¬b<0:=by simpa [h1] using h
    exact Int.mul_nonneg (by omega) (by omega)
  ·intro h
   by_cases h1:a<0
   ·have h2:¬b<0:=by simpa [h1] using h
    exact Int.mul_nonpos_of_nonpos_of_nonneg (by omega) (by omega)
   ·have h2:b<0:=by simpa [h1] using h
    exact Int.mul_nonpos_of_nonneg_of_nonpos (by omega) (by omega)
 generalize a*b=p at*
 simp only[Vk,bH,dH,dZ,fE,bM,bQ,eH,fG,dO,fK,bZ,dw,fO,fQ,aF,Ce,ne_eq]
 unfold ilt at*
 by_cases hd:decide (a<0)=decide (b<0)
 ·have hp:=hs.1 hd
  rw[if_neg (fun h=>h.1.2 hd)]
  by_cases hr:p<=9223372036854775807
  ·rw[if_pos (by omega),if_pos ⟨by omega,by omega⟩,S9 ⟨by omega,by omega⟩]
   congr 2;omega
  ·rw[if_neg (by omega),if_neg (by unfold inI;omega)]
 ·have hp:=hs.2 hd
  by_cases hr: -9223372036854775808<=p
  ·rw[if_pos ⟨⟨by omega,hd⟩,by omega⟩,if_pos ⟨by omega,by omega⟩]
   congr 2
   rcases afO (n:=(0 - ((p.natAbs:Int)%18446744073709551616))%18446744073709551616) (by omega) (by omega)with ⟨h,e⟩ | ⟨h,e⟩ | ⟨h,e⟩<;>rw[e]<;>unfold inI at* <;>omega
  ·rw[if_neg (by omega),if_neg (by omega),if_neg (by unfold inI;omega)]
def Cc (n:Int):Prop:=1<=n/\n<=1000000000000
def acp (r:vT):Prop:=
 (r.kind=1/\Cc r.order/\(0<=r.account/\r.account<8)/\(0<=r.symbol/\r.symbol<8)/\(r.side=1\/r.side=2)/\1<=r.qty/\1<=r.price/\r.long=0/\r.short=0/\r.opn=0/\r.on=false/\r.seq=0/\r.what=0)\/
 (r.kind=2/\Cc r.order/\r.account=0/\r.symbol=0/\r.side=0/\1<=r.qty/\1<=r.price/\r.long=0/\r.short=0/\r.opn=0/\r.on=false/\r.seq=0/\r.what=0)\/
 (r.kind=3/\Cc r.order/\r.account=0/\r.symbol=0/\r.side=0/\r.qty=0/\r.price=0/\r.long=0/\r.short=0/\r.opn=0/\r.on=false/\r.seq=0/\r.what=0)\/
 (r.kind=4/\r.order=0/\(0<=r.account/\r.account<8)/\((r.symbol= -1/\r.long=0/\r.short=0)\/(0<=r.symbol/\r.symbol<8))/\r.side=0/\r.qty=0/\r.price=0/\0<=r.long/\0<=r.short/\0<=r.opn/\r.on=false/\r.seq=0/\r.what=0)\/
 (r.kind=5/\r.order=0/\r.account=0/\r.symbol=0/\r.side=0/\r.qty=0/\r.price=0/\r.long=0/\r.short=0/\r.opn=0/\r.seq=0/\r.what=0)\/
 (r.kind=6/\Cc r.order/\r.account=0/\r.symbol=0/\r.side=0/\r.long=0/\r.short=0/\r.opn=0/\r.on=false/\(1<=r.seq/\r.seq<=1000000000)/\
   ((r.what=3/\1<=r.qty/\r.price=0)\/(r.what=5/\1<=r.qty/\1<=r.price)\/((r.what=1\/r.what=2\/r.what=4\/r.what=6)/\r.qty=0/\r.price=0)))
theorem aky (a b c:Int):(0<=kH (kH a b) c)↔0<=a/\0<=b/\0<=c:=by
 unfold kH;split<;>split<;>omega
theorem aeb (r:vT):Wq (DW r) fun b=>b=true↔Cc r.order/\(1<=r.seq/\r.seq<=1000000000)/\
 ((r.what=3/\1<=r.qty/\r.price=0)\/(r.what=5/\1<=r.qty/\1<=r.price)\/((r.what=1\/r.what=2\/r.what=4\/r.what=6)/\r.qty=0/\r.price=0)):=by
 unfold DW lV nM
 by_cases h1:1<=r.seq/\r.seq<=1000000000
 ·rw[aT (b:=aC (bor (ilt r.seq 1) (ilt 1000000000 r.seq))) (by simp only[bH,dH,dZ,fE,bM,bQ,eH,fG,dO,fK,bZ,dw,fO,fQ];omega),aA]
  by_cases h2:Cc r.order
  ·rw[show band (ile 1 r.order) (ile r.order 1000000000000)=true by simp only[bH,dH,dZ,fE,bM,bQ,eH,fG,dO,fK,bZ,dw,fO,fQ];exact h2,gQ (by simp only[bH,dH,dZ,fE,bM,bQ,eH,fG,dO,fK,bZ,dw,fO,fQ];exact⟨by omega,trivial⟩)]
   by_cases k3:r.what=3
   ·rw[aT (by rw[bZ];exact k3),au];simp only[h1,h2,true_and,bH,dH,dZ,fE,bM,bQ,eH,fG,dO,fK,bZ,dw,fO,fQ];omega
   rw[gQ (by rw[dw];exact k3)]
   by_cases k5:r.what=5
   ·rw[aT (by rw[bZ];exact k5),aA,au];simp only[h1,h2,true_and,bH,dH,dZ,fE,bM,bQ,eH,fG,dO,fK,bZ,dw,fO,fQ];omega
   rw[gQ (by rw[dw];exact k5)]
   by_cases k1:r.what=1
   ·rw[aT (by rw[bZ];exact k1),aT (by rw[bZ];exact k1),au];simp only[h1,h2,true_and,bH,dH,dZ,fE,bM,bQ,eH,fG,dO,fK,bZ,dw,fO,fQ];omega
   rw[gQ (by rw[dw];exact k1)]
   by_cases k2:r.what=2
   ·rw[aT (by rw[bZ];exact k2),aT (by rw[bZ];exact k2),au];simp only[h1,h2,true_and,bH,dH,dZ,fE,bM,bQ,eH,fG,dO,fK,bZ,dw,fO,fQ];omega
   rw[gQ (by rw[dw];exact k2)]
   by_cases k4:r.what=4
   ·rw[aT (by rw[bZ];exact k4),aT (by rw[bZ];exact k4),au];simp only[h1,h2,true_and,bH,dH,dZ,fE,bM,bQ,eH,fG,dO,fK,bZ,dw,fO,fQ];omega
   rw[gQ (by rw[dw];exact k4)]
   by_cases k6:r.what=6
   ·rw[aT (by rw[bZ];exact k6),au];simp only[h1,h2,true_and,bH,dH,dZ,fE,bM,bQ,eH,fG,dO,fK,bZ,dw,fO,fQ];omega
   rw[gQ (by rw[dw];exact k6),au]
   simp only[h1,h2,true_and,Bool.false_eq_true,false_iff];omega
  ·rw[show band (ile 1 r.order) (ile r.order 1000000000000)=false by simp only[bH,dH,dZ,fE,bM,bQ,eH,fG,dO,fK,bZ,dw,fO,fQ];unfold Cc at h2;omega,aT (by simp only[bH,dH,dZ,fE,bM,bQ,eH,fG,dO,fK,bZ,dw,fO,fQ,or_true]),au]
   simp [h2]
 ·rw[gQ (b:=aC (bor (ilt r.seq 1) (ilt 1000000000 r.seq))) (by simp only[bH,dH,dZ,fE,bM,bQ,eH,fG,dO,fK,bZ,dw,fO,fQ];omega),aA,aT (by simp only[bH,dH,dZ,fE,bM,bQ,eH,fG,dO,fK,bZ,dw,fO,fQ,or_true]),au]
  simp [h1]
theorem adB (r:vT):Wq (rC r) fun b=>b=true↔acp r:=by
 unfold rC ES
 obtain⟨ev,he,hq⟩:=aeb r
 by_cases k1:r.kind=1
 ·have e1:ieq r.kind 1=true:=by rw[bZ];exact k1
  simp only[e1,cu,aA]
  simp only[Bl,lq,au,bH,dH,dZ,fE,bM,bQ,eH,fG,dO,fK,bZ,dw,fO,fQ,true_implies,ne_eq,not_true_eq_false,false_implies,and_true,true_and,or_self,reduceCtorEq,lV,oq,nM,acp,Cc];grind
 have e1:ieq r.kind 1=false:=by rw[dw];exact k1
 by_cases k2:r.kind=2
 ·have e2:ieq r.kind 2=true:=by rw[bZ];exact k2
  simp only[e1,e2,cu,bU,aA]
  simp only[Bl,lq,au,bH,dH,dZ,fE,bM,bQ,eH,fG,dO,fK,bZ,dw,fO,fQ,true_implies,ne_eq,not_true_eq_false,false_implies,and_true,true_and,or_self,reduceCtorEq,lV,oq,nM,acp,Cc];grind
 have e2:ieq r.kind 2=false:=by rw[dw];exact k2
 by_cases k3:r.kind=3
 ·have e3:ieq r.kind 3=true:=by rw[bZ];exact k3
  simp only[e1,e2,e3,cu,bU,aA]
  simp only[Bl,lq,au,bH,dH,dZ,fE,bM,bQ,eH,fG,dO,fK,bZ,dw,fO,fQ,true_implies,ne_eq,not_true_eq_false,false_implies,and_true,true_and,or_self,reduceCtorEq,lV,oq,nM,acp,Cc];grind
 have e3:ieq r.kind 3=false:=by rw[dw];exact k3
 by_cases k4:r.kind=4
 ·have e4:ieq r.kind 4=true:=by rw[bZ];exact k4
  simp only[e1,e2,e3,e4,cu,bU,aA]
  simp only[Bl,lq,au,bH,dH,dZ,fE,bM,bQ,eH,fG,dO,fK,bZ,dw,fO,fQ,true_implies,ne_eq,not_true_eq_false,false_implies,and_true,true_and,or_self,reduceCtorEq,lV,oq,nM,acp,Cc,aky];grind
 have e4:ieq r.kind 4=false:=by rw[dw];exact k4
 by_cases k5:r.kind=5
 ·have e5:ieq r.kind 5=true:=by rw[bZ];exact k5
  simp only[e1,e2,e3,e4,e5,cu,bU,aA]
  simp only[Bl,lq,au,bH,dH,dZ,fE,bM,bQ,eH,fG,dO,fK,bZ,dw,fO,fQ,true_implies,ne_eq,not_true_eq_false,false_implies,and_true,true_and,or_self,reduceCtorEq,lV,oq,nM,acp,Cc];grind
 have e5:ieq r.kind 5=false:=by rw[dw];exact k5
 by_cases k6:r.kind=6
 ·have e6:ieq r.kind 6=true:=by rw[bZ];exact k6
  simp only[e1,e2,e3,e4,e5,e6,cu,bU,aA,he]
  simp only[Bl,lq,au,bH,dH,dZ,fE,bM,bQ,eH,fG,dO,fK,bZ,dw,fO,fQ,true_implies,ne_eq,not_true_eq_false,false_implies,and_true,true_and,or_self,reduceCtorEq,acp,hq];grind
 have e6:ieq r.kind 6=false:=by rw[dw];exact k6
 simp only[e1,e2,e3,e4,e5,e6,cu,bU,aA]
 simp only[Bl,lq,au,bH,dH,dZ,fE,bM,bQ,eH,fG,dO,fK,bZ,dw,fO,fQ,true_implies,ne_eq,not_true_eq_false,false_implies,and_true,true_and,or_self,reduceCtorEq,acp];grind
def UA (o:aG):Prop:=(1<=o.id/\o.id<=1000000000000)/\(0<=o.account/\o.account<8)/\(0<=o.symbol/\o.symbol<8)/\(o.side=1\/o.side=2)/\1<=o.qty/\1<=o.price
theorem ZI (o:aG):Wq (yu o) fun b=>b=true↔UA o:=by
 unfold yu
 rw[Bl]
 refine(adB _).mono fun b hb=> ?_
 rw[au,hb]
 simp [acp,UA,Cc]
def Y8 (o:aG):Prop:=o.newQty≠0\/o.newPrice≠0
instance (o:aG):Decidable (Y8 o):=by unfold Y8;infer_instance
instance (o:aG):Decidable (UA o):=by unfold UA;infer_instance
theorem Ws (o:aG):Wq (je o) fun b=>b=true↔Y8 o:=by
 unfold je
 simp only[au,dZ,bM,dw,Y8]
def KI (o:aG):Prop:=UA o/\0<=o.filled/\o.filled<=o.qty/\0<=o.version/\(Y8 o->1<=o.newQty/\1<=o.newPrice)/\
 ((o.phase=1/\o.filled=0/\o.version=0/\¬Y8 o)\/(o.phase=2/\o.filled<o.qty)\/(o.phase=3/\¬Y8 o))
instance (o:aG):Decidable (KI o):=by unfold KI;infer_instance
theorem aaj (o:aG):Wq (jh o) fun b=>b=true↔KI o:=by
 unfold jh
 rw[Bl]
 refine(Ws o).mono fun p hp=> ?_
 rw[Bl]
 refine(ZI o).mono fun b hb=> ?_
 unfold KI
 rw[<-hp,<-hb]
 have hm:(kH o.newQty o.newPrice<1)↔¬(1<=o.newQty/\1<=o.newPrice):=by unfold kH;split<;>omega
 simp only[Bl,lq,au,bH,dH,dZ,fE,bM,bQ,eH,fG,dO,fK,bZ,dw,fO,fQ,hm]
 cases p<;>cases b<;>simp<;>omega
theorem yN (o:aG):jh o=some (decide (KI o)):=(aaj o).dec
def IG (o:aG):Int:=if o.phase=3 then 0 else max o.qty o.newQty - o.filled
def zq (o:aG):Int:=if o.phase=3 then 0 else if o.newQty<=o.filled then (o.qty - o.filled)*o.price else max ((o.qty - o.filled)*o.price) ((o.newQty - o.filled)*o.newPrice)
theorem U3 {o:aG} (h:KI o) (hr:oQ o):0<=IG o/\IG o<=9223372036854775807:=by
 obtain⟨_,h1,h2,_⟩:=h
 have:=hr.qty.2;have:=hr.newQty.2
 unfold IG;split<;>omega
theorem aly {o:aG} (h:KI o) (hn:o.filled<o.newQty):1<=o.newPrice:=by
 obtain⟨_,h1,h2,_,h4,_⟩:=h
 exact(h4 (.inl (by omega))).2
theorem abb {o:aG} (h:KI o):0<=zq o:=by
 have hp:=h.1.2.2.2.2.2
 have hf:=h.2.2.1
 unfold zq;split
 ·omega
 ·have m:0<=(o.qty - o.filled)*o.price:=Int.mul_nonneg (by omega) (by omega)
  split<;>omega
theorem abN {o:aG} (h:KI o) (hr:oQ o):qN o=some (IG o):=by
 have hb:=U3 h hr
 unfold qN
 rw[yN,aA,decide_eq_true h,aa9,aA]
 unfold IG at*
 rw[dF,lS,lU]
 split
 ·rfl
 ·rename_i hp
  rw[if_neg hp]at hb
  unfold aF
  rw[S9 ⟨by omega,by omega⟩]
theorem ZJ {o:aG} (h:KI o) (hr:oQ o):vJ o=some (if zq o<=9223372036854775807 then (zq o,0)else (0,3)):=by
 have hp:=h.1.2.2.2.2.2
 have hf:=h.2.2.1
 have hf0:=h.2.1
 have rq:=hr.qty;have rp:=hr.price;have rf:=hr.filled;have rn:=hr.newQty;have rnp:=hr.newPrice
 unfold inI at rq rf rn
 unfold vJ
 rw[yN,aA,decide_eq_true h,dF,bU,lU]
 unfold zq
 split
 ·rw[if_pos (by omega)]
 ·unfold aF
  rw[S9 ⟨by omega,by omega⟩,aa3 ⟨by omega,by omega⟩ rp,aA]
  have m:0<=(o.qty - o.filled)*o.price:=Int.mul_nonneg (by omega) (by omega)
  generalize (o.qty - o.filled)*o.price=a at*
  rw[Vk]
  simp only[bH,dH,dZ,fE,bM,bQ,eH,fG,dO,fK,bZ,dw,fO,fQ]
  by_cases hn:o.newQty<=o.filled
  ·rw[if_pos (.inr hn),if_pos hn]
   by_cases ha:a<=9223372036854775807
   ·rw[if_pos (c:=inI a) ⟨by omega,ha⟩,if_pos ha]
   ·rw[if_neg (c:=inI a) (by unfold inI;omega),if_neg ha]
  ·rw[if_neg hn]
   have hnp:=aly h (by omega)
   rw[S9 ⟨by omega,by omega⟩,aa3 ⟨by omega,by omega⟩ rnp,aA]
   have m2:0<=(o.newQty - o.filled)*o.newPrice:=Int.mul_nonneg (by omega) (by omega)
   generalize (o.newQty - o.filled)*o.newPrice=b at*
   by_cases ha:a<=9223372036854775807
   ·rw[if_pos (c:=inI a) ⟨by omega,ha⟩,if_neg (by simp only[ne_eq,not_true_eq_false,false_or];exact hn)]
    by_cases hb:b<=9223372036854775807
    ·rw[if_pos (c:=inI b) ⟨by omega,hb⟩]
     rw[gQ (by simp [aC,ieq]),aa9,aA,if_pos (by omega)]
    ·rw[if_neg (c:=inI b) (by unfold inI;omega)]
     rw[aT (by simp [aC,ieq]),if_neg (by omega)]
   ·rw[if_neg (c:=inI a) (by unfold inI;omega),if_pos (.inl (by decide)),if_neg (by omega)]
def okC (c:aS):Prop:=Bf c/\(0<=c.buy/\0<=c.sell/\0<=c.opn)/\inI (c.pos+c.buy)/\inI (c.sell - c.pos)
theorem agq (c:aS):okC c↔(inI c.pos/\inI c.buy/\inI c.sell/\inI c.opn)/\(0<=c.buy/\0<=c.sell/\0<=c.opn)/\inI (c.pos+c.buy)/\inI (c.sell - c.pos):=
 ⟨fun⟨⟨a,b,c,d⟩,h⟩=>⟨⟨a,b,c,d⟩,h⟩,fun⟨⟨a,b,c,d⟩,h⟩=>⟨⟨a,b,c,d⟩,h⟩⟩
instance (c:aS):Decidable (okC c):=decidable_of_iff _ (agq c).symm
theorem aeJ {c:aS} (h:Bf c):zJ c=some (⟨if inI (c.pos+c.buy)then c.pos+c.buy else 0,if inI (c.sell - c.pos)then c.sell - c.pos else 0,c.opn⟩,decide (inI (c.pos+c.buy)/\inI (c.sell - c.pos))):=by
 unfold zJ
 rw[vC h.pos h.buy,aA,ahW h.sell h.pos,aA]
 by_cases h1:inI (c.pos+c.buy)
 ·by_cases h2:inI (c.sell - c.pos)
  ·simp only[if_pos h1,if_pos h2,Ap,qH,decide_eq_true (show _/\_ from⟨h1,h2⟩)]
  ·simp only[if_pos h1,if_neg h2,FW,Ap,qH,decide_eq_false (fun h:_/\_=>h2 h.2)]
 ·simp only[if_neg h1,FW,wQ,decide_eq_false (fun h:_/\_=>h1 h.1)]
  by_cases h2:inI (c.sell - c.pos)
  ·simp only[if_pos h2]
  ·simp only[if_neg h2]
theorem abS {c:aS} (h:Bf c):Wq (iJ c) fun b=>b=true↔okC c:=by
 unfold iJ
 rw[aeJ h,aA,au]
 simp only[bH,dO,decide_eq_true_eq,okC]
 rw[aky]
 constructor
 ·rintro⟨a,b⟩;exact⟨h,b,a⟩
 ·rintro⟨_,b,a⟩;exact⟨a,b⟩
theorem AO {c:aS} (h:Bf c):iJ c=some (decide (okC c)):=(abS h).dec
def Rh (c:aS) (o:aG):aS:=if o.side=2 then ⟨c.pos,c.buy,c.sell+IG o,c.opn+zq o⟩else ⟨c.pos,c.buy+IG o,c.sell,c.opn+zq o⟩
theorem VW {c:aS} {o:aG} (hc:okC c) (ho:KI o) (hr:oQ o):iI c o=some (if okC (Rh c o)then (Rh c o,0)else (c,3)):=by
 have hO:=U3 ho hr
 have hW:=abb ho
 obtain⟨hk,⟨n1,n2,n3⟩,r1,r2⟩:=id hc
 have ib:=hk.buy;have is':=hk.sell;have io:=hk.opn;have ip:=hk.pos
 unfold iI
 rw[AO hk,aA,decide_eq_true hc,yN,decide_eq_true ho,dF,dG,cu,aA,dF,lS,bU,ZJ ho hr,abN ho hr,aA]
 simp only[aA]
 have oO:inI (IG o):=⟨by omega,by omega⟩
 by_cases hw:zq o<=9223372036854775807
 ·have oW:inI (zq o):=⟨by omega,hw⟩
  rw[if_pos hw]
  simp only[Ap,dF,lS]
  by_cases hs:o.side=2
  ·rw[aT (by rw[bZ];exact hs),vC is' oO,aA,vC io oW,aA]
   unfold Rh;rw[if_pos hs]
   by_cases h1:c.sell+IG o<=9223372036854775807
   ·by_cases h2:c.opn+zq o<=9223372036854775807
    ·rw[if_pos ⟨by omega,h1⟩,if_pos ⟨by omega,h2⟩]
     simp only[Ap,dF,lS,dG,cu]
     rw[AO (c:=⟨c.pos,c.buy,c.sell+IG o,c.opn+zq o⟩) ⟨ip,ib,⟨by simp only;omega,h1⟩,⟨by simp only;omega,h2⟩⟩,aA,lH,Oo]
     split<;>rfl
    ·rw[if_pos ⟨by omega,h1⟩,if_neg (by unfold inI;omega)]
     simp only[Ap,FW,dF,lS,dG,cu,uX,bU,aA]
     rw[if_neg fun h=>h2 h.1.opn.2]
   ·rw[if_neg (by unfold inI;omega)]
    simp only[FW,dG,uX,dF,cu,bU,aA]
    rw[if_neg fun h=>h1 h.1.sell.2]
  ·rw[gQ (by rw[dw];exact hs),vC ib oO,aA,vC io oW,aA]
   unfold Rh;rw[if_neg hs]
   by_cases h1:c.buy+IG o<=9223372036854775807
   ·by_cases h2:c.opn+zq o<=9223372036854775807
    ·rw[if_pos ⟨by omega,h1⟩,if_pos ⟨by omega,h2⟩]
     simp only[Ap,dF,lS,dG,cu]
     rw[AO (c:=⟨c.pos,c.buy+IG o,c.sell,c.opn+zq o⟩) ⟨ip,⟨by simp only;omega,h1⟩,is',⟨by simp only;omega,h2⟩⟩,aA,lH,Oo]
     split<;>rfl
    ·rw[if_pos ⟨by omega,h1⟩,if_neg (by unfold inI;omega)]
     simp only[Ap,FW,dF,lS,dG,cu,uX,bU,aA]
     rw[if_neg fun h=>h2 h.1.opn.2]
   ·rw[if_neg (by unfold inI;omega)]
    simp only[FW,dG,uX,dF,cu,bU,aA]
    rw[if_neg fun h=>h1 h.1.buy.2]
 ·have hno:¬okC (Rh c o):=fun h=>by
   have:=h.1.opn.2
   unfold Rh at this
   split at this<;>simp only at this<;>omega
  rw[if_neg hw,if_neg hno]
  simp only[FW,dG,uX,dF,bU,aA,cu]
  by_cases hs:o.side=2
  ·rw[aT (by rw[bZ];exact hs),vC is' oO,aA,vC io (by decide),aA]
  ·rw[gQ (by rw[dw];exact hs),vC ib oO,aA,vC io (by decide),aA]
def abD (x:dP):Prop:=0<=x.long/\0<=x.short/\0<=x.opn
instance (x:dP):Decidable (abD x):=by unfold abD;infer_instance
theorem ZM (x:dP):yw x=some (decide (abD x)):=by
 refine Wq.dec ?_
 unfold yw abD
 rw[au,dO,aky]
theorem ZU (l:List Int) (i:Nat) (h:i<l.length):(l.take (i+1)).sum=(l.take i).sum+l[i]:=by
 rw[List.take_succ_eq_append_getElem h,List.sum_append];simp
theorem acE:∀ {l:List Int},(∀x∈l,0<=x)->0<=l.sum
 |[],_=>by simp
 |a::l,h=>by
  have:=acE (l:=l) fun x hx=>h x (by simp [hx])
  have:=h a (by simp)
  simp only[List.sum_cons];omega
theorem adI {l:List Int} (h:∀x∈l,0<=x) (i:Nat):(l.take i).sum<=l.sum:=by
 have e:l.sum=(l.take i).sum+(l.drop i).sum:=by rw[<-List.sum_append,List.take_append_drop]
 have:=acE (l:=l.drop i) fun x hx=>h x (List.mem_of_mem_drop hx)
 omega
def anZ (l:List Int):Int×Int:=if l.sum<=9223372036854775807 then (l.sum,0)else (0,3)
theorem aeU {l:List Int} (hl:l.length<999999) (h:∀x∈l,0<=x/\inI x):DU l=some (anZ l):=by
 refine Wq.eq ?_
 have hn:∀x∈l,0<=x:=fun x hx=>(h x hx).1
 unfold DU
 refine Wq.bind (Q:=fun w:(Int×Int) ⊕ (Int×Int×Int)=>match w with | .inl w=>w=(3,0)/\¬l.sum<=9223372036854775807 | .inr w=>w.1=l.sum/\l.sum<=9223372036854775807)
  (oP (n:=l.length) (step:=fun v:Int×Int×Int×Int=>sN (len l) l v.fst v.snd.fst v.snd.snd.fst v.snd.snd.snd) (by omega)
    (fun i x=>x.1=(l.take i).sum/\x.1<=9223372036854775807) _ ?_ ?_ _ 0 (Nat.zero_le _) (by simp)) ?_
 ·rintro i ⟨a,b,c⟩ hi ⟨rfl,ha⟩
  simp only[sN]
  simp only at ha
  have ht:=acE (l:=l.take i) fun x hx=>hn x (List.mem_of_mem_take hx)
  have hx:=h l[i] (List.getElem_mem _)
  rw[aT (by rw[jq];simpa using hi),aT (inb l i hi),dI l i hi,vC ⟨by omega,ha⟩ hx.2,aA,<-ZU l i hi]
  have:=adI hn (i+1)
  have h2:=acE (l:=l.take (i+1)) fun x hx=>hn x (List.mem_of_mem_take hx)
  by_cases hr:(l.take (i+1)).sum<=9223372036854775807
  ·rw[if_pos ⟨by omega,hr⟩]
   simp only[Ap,dF,bU,au]
   exact⟨eF (by omega),trivial,hr⟩
  ·rw[if_neg (by unfold inI;omega)]
   simp only[FW,dG,cu,au]
   exact⟨trivial,by omega⟩
 ·rintro⟨a,b,c⟩ ⟨rfl,ha⟩
  simp only[sN]
  simp only at ha
  rw[gQ (by rw[jq];simp),au]
  rw[List.take_length]at*
  exact⟨rfl,ha⟩
 ·rintro w hw
  unfold anZ
  cases w with
  |inl w=>obtain⟨rfl,h2⟩:=hw;simp only[qf,au];rw[if_neg h2]
  |inr w=>obtain⟨h1,h2⟩:=hw;simp only[qf,au];rw[if_pos h2,h1]
def Zl (l:List aS):Int:=(l.map aS.opn).sum
theorem ZW {l:List aS} (hl:l.length<999999) (h:∀c∈l,0<=c.opn/\inI c.opn):rF l=some (if Zl l<=9223372036854775807 then (Zl l,0)else (0,3)):=by
 refine Wq.eq ?_
 unfold rF
 refine Wq.bind (Q:=fun w:List Int=>w=l.map aS.opn)
  (oP (n:=l.length) (step:=fun v:Int×List Int=>pO (len l) l v.fst v.snd) (by omega) (fun i x=>x=(l.take i).map aS.opn) _ ?_ ?_ _ 0 (Nat.zero_le _) (by simp)) ?_
 ·rintro i x hi rfl
  simp only[pO]
  rw[aT (by rw[jq];simpa using hi),aT (inb l i hi),aT (oU (by simp [jQ,len];omega)),au,dI l i hi]
  exact⟨eF (by omega),by rw[List.take_succ_eq_append_getElem hi,List.map_append];rfl⟩
 ·rintro x rfl
  simp only[pO]
  rw[gQ (by rw[jq];simp),au,List.take_length]
 ·rintro w rfl
  rw[aeU (by simpa using hl) (fun x hx=>by
   obtain⟨c,hc,rfl⟩:=List.mem_map.1 hx
   exact h c hc),aA,au]
  rfl
theorem Qy {l:List Int} (hl:l.length<999999) (h0:l≠[]):Wq (kV l) fun m=>0<=m↔∀x∈l,0<=x:=by
 have hp:0<l.length:=List.length_pos_iff.2 h0
 unfold kV
 rw[gQ (Gs (by simp only[len];omega)),aT (EP (by simp only[len];omega))]
 refine Wq.bind (Q:=fun m=>0<=m↔∀x∈l,0<=x) (oP (n:=l.length) (step:=fun v:Int×Int=>jV l v.fst v.snd) (by omega) (fun i x=>0<=x↔∀y∈l.take i,0<=y) _ ?_ ?_ _ 1 hp ?_) ?_
 ·rintro i x hi hx
  simp only[jV]
  rw[aT (by rw[jq];simpa using hi),aT (inb l i hi),au,dI l i hi]
  refine⟨eF (by omega),?_⟩
  rw[List.take_succ_eq_append_getElem hi]
  simp only[List.mem_append,List.mem_singleton]
  unfold kH
  constructor
  ·intro h y hy
   rcases hy with hy | rfl
   ·exact hx.1 (by split at h<;>omega) y hy
   ·split at h<;>omega
  ·intro h
   have h1:=hx.2 fun y hy=>h y (.inl hy)
   have h2:=h _ (.inr rfl)
   split<;>omega
 ·rintro x hx
  simp only[jV]
  rw[gQ (by rw[jq];simp),au]
  rwa[List.take_length]at hx
 ·cases l with
  |nil=>exact absurd rfl h0
  |cons a r=>simp [ah]
 ·exact fun w hw=>(au _).2 hw
def adp (l:List aG) (n:Int):Option Nat:=l.findIdx? fun o=>o.id == n
def ai5 (l:List aG) (n:Int):Int:=match adp l n with | some k=>k | none=> -1
theorem amv (s:aj) (n:Int) (hl:s.orders.length<999999):pJ s n=some (ai5 s.orders n):=by
 refine Wq.eq ?_
 unfold pJ
 refine Wq.bind (Q:=fun w:Int ⊕ Int=>match w with
  |.inl k=>∃i:Nat,k=i/\∃h:i<s.orders.length,s.orders[i].id=n/\∀j,(h:j<s.orders.length)->j<i->s.orders[j].id≠n
  |.inr _=>∀j,(h:j<s.orders.length)->s.orders[j].id≠n)
  (oP (n:=s.orders.length) (step:=fun v:Int×Int=>bY (len s.orders) s.orders n v.fst v.snd) (by omega) (fun i x=>∀j,(h:j<s.orders.length)->j<i->s.orders[j].id≠n) _ ?_ ?_ _ 0 (Nat.zero_le _) (fun j _ h=>by omega)) ?_
 ·rintro i x hi hx
  simp only[bY]
  rw[aT (by rw[jq];simpa using hi),aT (inb _ i hi),dI _ i hi,lq]
  refine⟨fun he=>(au _).2 ⟨i,rfl,hi,by simpa [ieq] using he,hx⟩,fun he=>(au _).2 ⟨eF (by omega),fun j hj hji=> ?_⟩⟩
  by_cases e:j=i
  ·subst e;simpa [ieq] using he
  ·exact hx j hj (by omega)
 ·rintro x hx
  simp only[bY]
  rw[gQ (by rw[jq];simp),au]
  exact fun j hj=>hx j hj hj
 ·rintro w hw
  cases w with
  |inl k=>
   obtain⟨i,rfl,hi,h1,h2⟩:=hw
   have:adp s.orders n=some i:=by
    unfold adp
    rw[List.findIdx?_eq_some_iff_getElem]
    exact⟨hi,by simpa using h1,fun j hj=>by simpa using h2 j (by omega) hj⟩
   simp only[qf,au,ai5,this]
  |inr k=>
   have:adp s.orders n=none:=by
    unfold adp
    rw[List.findIdx?_eq_none_iff]
    intro o ho
    obtain⟨j,hj,rfl⟩:=List.getElem_of_mem ho
    simpa using hw j hj
   simp only[qf,au,ai5,this]
def CB (s:aj):Prop:=(1<=s.accounts/\s.accounts<=8)/\(1<=s.symbols/\s.symbols<=8)/\len s.cells=s.accounts*s.symbols/\len s.limits=len s.cells/\len s.caps=s.accounts/\s.orders.length<=64
instance (s:aj):Decidable (CB s):=by unfold CB;infer_instance
theorem A7 {a b:Int} (h1:0<=a) (h2:a<=9) (h3:0<=b) (h4:b<=9):0<=a*b/\a*b<=81:=
 ⟨Int.mul_nonneg h1 h3,by have:=Int.mul_le_mul h2 h4 h3 (by omega);omega⟩
theorem Pq (s:aj):Wq (oN s) fun b=>b=true↔CB s:=by
 unfold oN
 simp only[au,bH,dO,bZ,CB]
 constructor
 ·rintro⟨⟨⟨⟨⟨⟨⟨a,b⟩,c⟩,d⟩,e⟩,f⟩,g⟩,h⟩
  have:=A7 (a:=s.accounts) (b:=s.symbols) (by omega) (by omega) (by omega) (by omega)
  rw[show jr s.accounts s.symbols=s.accounts*s.symbols from rfl,dX this.1 (by omega)]at e
  exact⟨⟨a,b⟩,⟨c,d⟩,e,f,g,by simp only[len]at h;omega⟩
 ·rintro⟨⟨a,b⟩,⟨c,d⟩,e,f,g,h⟩
  have:=A7 (a:=s.accounts) (b:=s.symbols) (by omega) (by omega) (by omega) (by omega)
  rw[show jr s.accounts s.symbols=s.accounts*s.symbols from rfl,dX this.1 (by omega)]
  exact⟨⟨⟨⟨⟨⟨⟨a,b⟩,c⟩,d⟩,e⟩,f⟩,g⟩,by simp only[len];omega⟩
theorem CB.lens {s:aj} (hs:CB s):s.cells.length<=64/\s.limits.length=s.cells.length/\s.caps.length=s.accounts.toNat/\s.orders.length<=64:=by
 obtain⟨⟨h1,h2⟩,⟨h3,h4⟩,h5,h6,h7,h8⟩:=hs
 have m:s.accounts*s.symbols<=8*8:=Int.mul_le_mul h2 h4 (by omega) (by omega)
 simp only[len]at h5 h6 h7
 exact⟨by omega,by omega,by omega,h8⟩
def atZ (n:Int) (o:aG):Int:=o.account*n+o.symbol
theorem aeN {s:aj} (hs:CB s) (a y:Int) (ha:0<=a) (ha2:a<s.accounts) (hy:0<=y) (hy2:y<s.symbols):
 ∃k:Nat,bg s a y=some (k:Int)/\(k:Int)=a*s.symbols+y/\k<s.cells.length:=by
 obtain⟨⟨h1,h2⟩,⟨h3,h4⟩,h5,_⟩:=hs
 have m:=A7 (a:=a) (b:=s.symbols) (by omega) (by omega) (by omega) (by omega)
 have l:(a+1)*s.symbols<=s.accounts*s.symbols:=Int.mul_le_mul_of_nonneg_right (by omega) (by omega)
 have e:(a+1)*s.symbols=a*s.symbols+s.symbols:=by rw[Int.add_mul,Int.one_mul]
 refine⟨(a*s.symbols+y).toNat,?_,by omega,by simp only[len]at h5;omega⟩
 unfold bg
 rw[show jr a s.symbols=a*s.symbols from rfl,dX m.1 (by omega),show ak (a*s.symbols) y=a*s.symbols+y from rfl,dX (by omega) (by omega)]
 congr 1;omega
def V5 (n:Int) (cs:List aS) (a:Int):List aS:=(cs.drop (a*n).toNat).take n.toNat
theorem ahK {s:aj} (hs:CB s) (a:Int) (ha:0<=a) (ha2:a<s.accounts):
 jk s a=some (V5 s.symbols s.cells a):=by
 obtain⟨⟨h1,h2⟩,⟨h3,h4⟩,h5,_⟩:=hs
 have m:=A7 (a:=a) (b:=s.symbols) (by omega) (by omega) (by omega) (by omega)
 have m2:=A7 (a:=a+1) (b:=s.symbols) (by omega) (by omega) (by omega) (by omega)
 have l:(a+1)*s.symbols<=s.accounts*s.symbols:=Int.mul_le_mul_of_nonneg_right (by omega) (by omega)
 have e:(a+1)*s.symbols=a*s.symbols+s.symbols:=by rw[Int.add_mul,Int.one_mul]
 unfold jk
 rw[show jr a s.symbols=a*s.symbols from rfl,dX m.1 (by omega),show ak a 1=a+1 from rfl,dX (n:=a+1) (by omega) (by omega),
  show jr (a+1) s.symbols=(a+1)*s.symbols from rfl,dX m2.1 (by omega)]
 rw[aT (by simp only[bH,dO];omega)]
 rw[show aF ((a+1)*s.symbols) (a*s.symbols)=s.symbols from by unfold aF;omega]
 rfl
theorem ahZ {n:Int} {cs:List aS} {a:Int} {c:aS} (h:c∈V5 n cs a):c∈cs:=List.mem_of_mem_drop (List.mem_of_mem_take h)
theorem ait {n:Int} {cs:List aS} {a:Int}:(V5 n cs a).length<=cs.length:=by
 unfold V5;rw[List.length_take,List.length_drop];omega
def H9 (s:aj) (o:aG):Prop:=KI o/\o.phase≠3/\o.account<s.accounts/\o.symbol<s.symbols
def ahU (l:List aG):Prop:=l.Pairwise fun a b=>a.id<b.id
structure agh (s:aj):Prop where
 ords:∀o∈s.orders,H9 s o
 asc:ahU s.orders
 ids:∀o∈s.orders,o.id<=s.last
 last:0<=s.last/\s.last<=1000000000000
 seq:0<=s.seq/\s.seq<=1000000000
 lsn:0<=s.lsn/\s.lsn<=1000000000
 lims:∀x∈s.limits,abD x
 caps:∀x∈s.caps,0<=x
theorem Dl {α:Type} {l:List α} {i:Nat} (h:i<l.length) {x:α}:x∈l.take (i+1)↔x∈l.take i\/x=l[i]:=by
 rw[List.take_succ_eq_append_getElem h,List.mem_append,List.mem_singleton]
theorem anr (s:aj) (hl:s.orders.length<999999) (h2:s.limits.length<999999) (h3:s.caps.length<999999) (h0:s.caps≠[]):
 Wq (pX s) fun b=>b=true↔agh s:=by
 unfold pX
 refine Wq.bind (Q:=fun w:Bool ⊕ (Int×Bool)=>match w with
  |.inl b=>b=false/\¬((∀o∈s.orders,H9 s o)/\ahU s.orders)
  |.inr v=>(∀o∈s.orders,H9 s o/\o.id<=v.1)/\ahU s.orders/\(v.1=0\/∃o∈s.orders,o.id=v.1))
  (oP (n:=s.orders.length) (step:=fun v:Int×Int×Bool=>kJ (len s.orders) s.orders s v.fst v.snd.fst v.snd.snd) (by omega)
    (fun i v=>(∀o∈s.orders.take i,H9 s o/\o.id<=v.1)/\ahU (s.orders.take i)/\(v.1=0\/∃o∈s.orders.take i,o.id=v.1)) _ ?_ ?_ _ 0 (Nat.zero_le _) (by simp [ahU])) ?_
 ·rintro i ⟨x,q⟩ hi ⟨g1,g2,g3⟩
  simp only at g1 g2 g3
  simp only[kJ]
  rw[aT (by rw[jq];simpa using hi),aT (inb _ i hi),dI _ i hi,yN,aA]
  simp only[lq,au,dZ,fE,bM,bQ,bZ,dw,dO,fK,decide_eq_true_eq,decide_eq_false_iff_not]
  refine⟨fun hb=>⟨trivial,fun⟨a1,a2⟩=> ?_⟩,fun hc=>⟨eF (by omega),fun o ho=> ?_,?_,.inr ⟨_,(Dl hi).2 (.inr rfl),rfl⟩⟩⟩
  ·obtain⟨b1,b2,b3,b4⟩:=a1 s.orders[i] (List.getElem_mem _)
   have hle:s.orders[i].id<=x:=by
    rcases hb with (((hb | hb) | hb) | hb) | hb
    ·exact absurd b1 hb
    ·exact absurd hb b2
    ·omega
    ·omega
    ·exact hb
   rcases g3 with g3 | ⟨o,ho,g3⟩
   ·have:=b1.1.1.1;omega
   ·obtain⟨j,hj,rfl⟩:=List.getElem_of_mem ho
    rw[List.length_take]at hj
    have:=List.pairwise_iff_getElem.1 a2 j i (by omega) hi (by omega)
    rw[List.getElem_take]at g3
    omega
  ·rcases(Dl hi).1 ho with ho | rfl
   ·have:=g1 o ho
    exact⟨this.1,by have:=this.2;omega⟩
   ·exact⟨⟨hc.1.1.1.1,hc.1.1.1.2,by omega,by omega⟩,Int.le_refl _⟩
  ·rw[List.take_succ_eq_append_getElem hi]
   unfold ahU
   rw[List.pairwise_append]
   refine⟨g2,by simp,fun a ha b hb=> ?_⟩
   rw[List.mem_singleton]at hb
   subst hb
   have:=(g1 a ha).2
   omega
 ·rintro⟨x,q⟩ hx
  simp only[kJ]
  rw[gQ (by rw[jq];simp),au]
  simp only[List.take_length]at hx
  exact hx
 ·rintro w hw
  cases w with
  |inl b=>
   obtain⟨rfl,hn⟩:=hw
   simp only[qf,au]
   exact⟨fun h=>(by cases h),fun h=>absurd ⟨h.ords,h.asc⟩ hn⟩
  |inr v=>
   obtain⟨g1,g2,g3⟩:=hw
   have gl:v.1<=s.last/\0<=s.last↔(∀o∈s.orders,o.id<=s.last)/\0<=s.last:=by
    constructor
    ·rintro⟨a,b⟩;exact⟨fun o ho=>by have:=(g1 o ho).2;omega,b⟩
    ·rintro⟨a,b⟩
     refine⟨?_,b⟩
     rcases g3 with g3 | ⟨o,ho,g3⟩
     ·omega
     ·have:=a o ho;omega
   have hF:agh s↔(v.1<=s.last/\s.last<=1000000000000/\0<=s.seq/\s.seq<=1000000000/\0<=s.lsn/\s.lsn<=1000000000)/\(∀x∈s.limits,abD x)/\(∀x∈s.caps,0<=x)/\0<=s.last:=by
    constructor
    ·intro h
     have:=gl.2 ⟨h.ids,h.last.1⟩
     exact⟨⟨this.1,h.last.2,h.seq.1,h.seq.2,h.lsn.1,h.lsn.2⟩,h.lims,h.caps,h.last.1⟩
    ·rintro⟨⟨a1,a2,a3,a4,a5,a6⟩,b,c,d⟩
     exact⟨fun o ho=>(g1 o ho).1,g2,(gl.1 ⟨a1,d⟩).1,⟨d,a2⟩,⟨a3,a4⟩,⟨a5,a6⟩,b,c⟩
   rw[hF]
   obtain⟨m,hm,hmq⟩:=Qy h3 h0
   simp only[qf,hm,Vk,aoS,aA]
   simp only[bH,dH,dZ,fE,bM,bQ,eH,fG,dO,fK,bZ,dw,fO,fQ]
   by_cases hA:v.1<=s.last/\s.last<=1000000000000/\0<=s.seq/\s.seq<=1000000000/\0<=s.lsn/\s.lsn<=1000000000
   ·have hA':((((v.fst<=s.last/\s.last<=1000000000000)/\0<=s.seq)/\s.seq<=1000000000)/\0<=s.lsn)/\s.lsn<=1000000000:=⟨⟨⟨⟨⟨hA.1,hA.2.1⟩,hA.2.2.1⟩,hA.2.2.2.1⟩,hA.2.2.2.2.1⟩,hA.2.2.2.2.2⟩
    rw[if_pos hA']
    refine Wq.bind (Q:=fun w:Int ⊕ Int=>match w with | .inl k=>0<=k/\¬∀x∈s.limits,abD x | .inr _=>∀x∈s.limits,abD x)
     (oP (n:=s.limits.length) (step:=fun v:Int×Int=>bC (len s.limits) s.limits v.fst v.snd) (by omega) (fun i _=>∀x∈s.limits.take i,abD x) _ ?_ ?_ _ 0 (Nat.zero_le _) (by simp)) ?_
    ·rintro i x hi hx
     simp only[bC]
     rw[aT (by rw[jq];simpa using hi),aT (inb _ i hi),dI _ i hi,ZM,aA]
     simp only[lq,au,bM,bQ,decide_eq_true_eq,decide_eq_false_iff_not]
     refine⟨fun h=>⟨by omega,fun h2=>h (h2 _ (List.getElem_mem _))⟩,fun h=>⟨eF (by omega),fun x hx'=> ?_⟩⟩
     rcases(Dl hi).1 hx' with h5 | rfl
     ·exact hx x h5
     ·exact h
    ·rintro x hx
     simp only[bC]
     rw[gQ (by rw[jq];simp),au]
     rwa[List.take_length]at hx
    ·rintro w hw
     cases w with
     |inl k=>
      obtain⟨hk,hn⟩:=hw
      simp only
      rw[if_neg (fun h=>by omega),au]
      simp only[bH,dH,dZ,fE,bM,bQ,eH,fG,dO,fK,bZ,dw,fO,fQ]
      constructor
      ·rintro⟨⟨⟨_,h⟩,_⟩,_⟩;omega
      ·rintro⟨_,h,_⟩;exact absurd h hn
     |inr k=>
      simp only
      rw[if_pos (.inl hA'),au]
      simp only[bH,dH,dZ,fE,bM,bQ,eH,fG,dO,fK,bZ,dw,fO,fQ]
      constructor
      ·rintro⟨⟨_,h1⟩,h2⟩;exact⟨hA,hw,hmq.1 h1,h2⟩
      ·rintro⟨_,_,h1,h2⟩;exact⟨⟨.inl hA',hmq.2 h1⟩,h2⟩
   ·have hA':¬(((((v.fst<=s.last/\s.last<=1000000000000)/\0<=s.seq)/\s.seq<=1000000000)/\0<=s.lsn)/\s.lsn<=1000000000):=by omega
    rw[if_neg hA',if_neg (by simpa using hA'),au]
    simp only[bH,dH,dZ,fE,bM,bQ,eH,fG,dO,fK,bZ,dw,fO,fQ]
    constructor
    ·rintro⟨⟨h | h,_⟩,_⟩
     ·exact absurd h hA'
     ·cases h
    ·rintro⟨h,_⟩;exact absurd h hA
def tq (a b:aS):aS:=⟨a.pos+b.pos,a.buy+b.buy,a.sell+b.sell,a.opn+b.opn⟩
def zC:aS:=⟨0,0,0,0⟩
def wC (o:aG):aS:=if o.side=2 then ⟨0,0,IG o,zq o⟩else ⟨0,IG o,0,zq o⟩
def inC (n i:Int) (o:aG):aS:=if atZ n o=i then wC o else zC
def wz (n i:Int):List aG->aS
 |[]=>zC
 |o::r=>tq (inC n i o) (wz n i r)
theorem Oz {a b:aS} (h1:a.pos=b.pos) (h2:a.buy=b.buy) (h3:a.sell=b.sell) (h4:a.opn=b.opn):a=b:=by
 cases a;cases b;simp_all
theorem ac0 (a:aS):tq a zC=a:=by apply Oz<;>simp [tq,zC]
theorem amP (a:aS):tq zC a=a:=by apply Oz<;>simp [tq,zC]
theorem YB (a b c:aS):tq (tq a b) c=tq a (tq b c):=by apply Oz<;>simp only[tq]<;>omega
theorem ab2 (c:aS) (o:aG):Rh c o=tq c (wC o):=by unfold Rh wC;split<;>simp [tq]
theorem zG (n i:Int):∀(l m:List aG),wz n i (l++m)=tq (wz n i l) (wz n i m)
 |[],m=>(amP _).symm
 |o::l,m=>by
  rw[List.cons_append,wz,wz,zG n i l m,YB]
theorem X9 (n i:Int) (o:aG):wz n i [o]=inC n i o:=ac0 _
def nnC (c:aS):Prop:=c.pos=0/\0<=c.buy/\0<=c.sell/\0<=c.opn
theorem amB {o:aG} (h:KI o) (hr:oQ o):nnC (wC o):=by
 have:=U3 h hr
 have:=abb h
 unfold wC nnC;split<;>simp<;>omega
theorem anN (n i:Int) {o:aG} (h:KI o) (hr:oQ o):nnC (inC n i o):=by
 unfold inC;split
 ·exact amB h hr
 ·simp [nnC,zC]
theorem ahb {a b:aS} (h1:nnC a) (h2:nnC b):nnC (tq a b):=by
 unfold nnC tq at *; simp only;omega
theorem OT (n i:Int):∀ {l:List aG},(∀o∈l,KI o/\oQ o)->nnC (wz n i l)
 |[],_=>by simp [wz,nnC,zC]
 |o::l,h=>ahb (anN n i (h o (by simp)).1 (h o (by simp)).2) (OT n i fun x hx=>h x (by simp [hx]))
def WG (c:aS):Prop:=c.buy<=9223372036854775807/\c.sell<=9223372036854775807/\c.opn<=9223372036854775807
theorem Zw {c:aS} (h:nnC c) (hf:WG c):okC c:=by
 obtain⟨h0,h1,h2,h3⟩:=h
 obtain⟨f1,f2,f3⟩:=hf
 rw[agq,h0]
 unfold inI
 omega
theorem aaO {c:aS} (h:okC c):WG c:=⟨h.1.buy.2,h.1.sell.2,h.1.opn.2⟩
theorem akY {a b:aS} (hb:nnC b) (h:WG (tq a b)):WG a:=by
 unfold WG tq nnC at *; simp only at *; omega
def fitAll (s:aj):Prop:=∀j:Nat,j<s.cells.length->WG (wz s.symbols j s.orders)
theorem Vq {α:Type} (l:List α) (k:Nat) (x:α) (j:Nat) (h:j<(bf l (itn (k:Int)) x).length):(bf l (itn (k:Int)) x)[j]=if k=j then x else l[j]'(by simpa [bf] using h):=by
 simp [bf,itn,List.getElem_set]
theorem ajK {s:aj} (hs:CB s) (hk:∀o∈s.orders,H9 s o/\oQ o):
 Wq (og s) fun r=>(r.2=true↔fitAll s)/\(r.2=true->r.1.length=s.cells.length/\∀(j:Nat) (h:j<r.1.length),r.1[j]=wz s.symbols j s.orders):=by
 obtain⟨hc,_,_,hol⟩:=hs.lens
 unfold og
 rw[aT (by simp only[bH,dO,len];omega)]
 refine Wq.bind (Q:=fun w:(Bool×List aS×List aS) ⊕ (Bool×List aS×List aS)=>match w with
  |.inl b=>b.1=false/\¬fitAll s
  |.inr b=>b.2.2.length=s.cells.length/\∀(j:Nat) (h:j<b.2.2.length),b.2.2[j]=wz s.symbols j s.orders/\WG b.2.2[j])
  (oP (n:=s.orders.length) (step:=fun v:Int×Bool×List aS×List aS=>jC (len s.orders) s.orders s v.fst v.snd.fst v.snd.snd.fst v.snd.snd.snd) (by omega)
    (fun i x=>x.2.2.length=s.cells.length/\∀(j:Nat) (h:j<x.2.2.length),x.2.2[j]=wz s.symbols j (s.orders.take i)/\WG x.2.2[j]) _ ?_ ?_ _ 0 (Nat.zero_le _) ?_) ?_
 ·rintro i ⟨q,x,y⟩ hi ⟨hx,hy⟩
  simp only at hx hy
  simp only[jC]
  have hmem:=hk s.orders[i] (List.getElem_mem _)
  obtain⟨⟨ho,ho3,g1,g2⟩,hor⟩:=id hmem
  obtain⟨⟨_,hb1,hb2,_⟩,_⟩:=id ho
  obtain⟨k,k1,k2,k3⟩:=aeN hs s.orders[i].account s.orders[i].symbol hb1.1 g1 hb2.1 g2
  have hky:k<y.length:=by omega
  have hnn:nnC y[k]:=by
   rw[(hy k hky).1]
   exact OT _ _ fun o h=>⟨(hk o (List.mem_of_mem_take h)).1.1,(hk o (List.mem_of_mem_take h)).2⟩
  have hok:okC y[k]:=Zw hnn (hy k hky).2
  have hnew:nnC (Rh y[k] s.orders[i]):=by rw[ab2];exact ahb hnn (amB ho hor)
  have hsum:∀j:Nat,wz s.symbols j (s.orders.take (i+1))=tq (wz s.symbols j (s.orders.take i)) (inC s.symbols j s.orders[i]):=fun j=>by
   rw[List.take_succ_eq_append_getElem hi,zG,X9]
  have hat:atZ s.symbols s.orders[i]=(k:Int):=k2.symm
  have hkk:Rh y[k] s.orders[i]=wz s.symbols k (s.orders.take (i+1)):=by
   rw[hsum,ab2,(hy k hky).1]
   unfold inC;rw[if_pos hat]
  rw[aT (by rw[jq];simpa using hi),aT (inb _ i hi),dI _ i hi,k1,aA,aT (inb y k hky),dI y k hky,VW hok ho hor,aA]
  by_cases hf:okC (Rh y[k] s.orders[i])
  ·rw[if_pos hf]
   simp only[Ap,dF,bU]
   rw[aT (inb y k hky),au]
   refine⟨eF (by omega),(FN _ _ _).trans hx,fun j hj=> ?_⟩
   have hj':j<y.length:=by simpa [bf] using hj
   show(bf y (itn (k:Int)) (Rh y[k] s.orders[i]))[j]'hj=_/\WG ((bf y (itn (k:Int)) (Rh y[k] s.orders[i]))[j]'hj)
   rw[Vq]
   split
   ·rename_i e;subst e
    exact⟨hkk,aaO hf⟩
   ·rename_i e
    rw[hsum j]
    unfold inC
    rw[if_neg (by omega),ac0]
    exact hy j hj'
  ·rw[if_neg hf]
   simp only[FW,dG,cu]
   rw[au]
   refine⟨rfl,fun hall=>hf (Zw hnew ?_)⟩
   rw[hkk]
   have e:wz s.symbols k s.orders=tq (wz s.symbols k (s.orders.take (i+1))) (wz s.symbols k (s.orders.drop (i+1))):=by
    rw[<-zG,List.take_append_drop]
   have:=hall k k3
   rw[e]at this
   exact akY (OT _ _ fun o h=>⟨(hk o (List.mem_of_mem_drop h)).1.1,(hk o (List.mem_of_mem_drop h)).2⟩) this
 ·rintro⟨q,x,y⟩ hx
  simp only[jC]
  rw[gQ (by rw[jq];simp),au]
  simp only[List.take_length]at hx
  exact hx
 ·simp only[List.take_zero,wz]
  refine⟨by simp [ja,itn,len],fun j hj=> ?_⟩
  simp only[ja,List.getElem_replicate]
  exact⟨rfl,by simp only[WG];decide⟩
 ·rintro w hw
  cases w with
  |inl b=>
   obtain⟨h1,h2⟩:=hw
   simp only[qf,au,h1]
   exact⟨⟨fun h=>(by cases h),fun h=>absurd h h2⟩,fun h=>by cases h⟩
  |inr b=>
   obtain⟨h1,h2⟩:=hw
   simp only[qf,au]
   refine⟨⟨fun _ j hj=> ?_,fun _=>trivial⟩,fun _=>⟨h1,fun j hj=>(h2 j hj).1⟩⟩
   have:=h2 j (by omega)
   rw[<-this.1];exact this.2
def jE (s:aj) (l:List aG):List aS:=s.cells.mapIdx fun i c=>tq ⟨c.pos,0,0,0⟩ (wz s.symbols i l)
theorem nX (s:aj) (l:List aG):(jE s l).length=s.cells.length:=by simp [jE]
theorem tu (s:aj) (l:List aG) (i:Nat) (h:i<(jE s l).length):(jE s l)[i]=tq ⟨(s.cells[i]'(by simpa [jE] using h)).pos,0,0,0⟩ (wz s.symbols i l):=by
 simp [jE]
def afl (n m:Int) (cs:List aS):Prop:=∀a:Int,0<=a->a<n->Zl (V5 m cs a)<=9223372036854775807
structure lZ (s:aj):Prop where
 sized:CB s
 fine:agh s
 cells:s.cells=jE s s.orders
 ok:∀c∈s.cells,okC c
 acct:afl s.accounts s.symbols s.cells
theorem ET (s:aj) (hr:jX s) (hl:s.orders.length<999999) (h2:s.limits.length<999999) (h3:s.caps.length<999999):
 Wq (jT s) fun b=>b=true↔lZ s:=by
 unfold jT rP
 rw[Bl]
 refine Wq.bind (Pq s) fun z hz=> ?_
 refine Wq.bind (Q:=fun b=>b=true↔(z=true/\agh s)) ?_ ?_
 ·rw[lq]
  refine⟨fun h=> ?_,fun h=>(au _).2 ?_⟩
  ·simp only[bM,bQ]at h
   have hs:CB s:=hz.1 h
   refine(anr s hl h2 h3 ?_).mono fun b hb=>by rw[hb];simp [h]
   intro e
   have:=hs.2.2.2.2.1
   have:=hs.1.1
   simp [e,len]at*
   omega
  ·simp only[bM,bQ]at h
   simp [h]
 ·intro f hf
  rw[lq]
  refine⟨fun h=>(au _).2 ((au _).2 ?_),fun h=> ?_⟩
  ·simp only[dZ,bM]at h
   refine⟨fun h=>(by cases h),fun hr=> ?_⟩
   have e1:=hz.2 hr.sized
   have e2:=hf.2 ⟨e1,hr.fine⟩
   rw[e1,e2]at h
   simp at h
  ·simp only[fE,bQ]at h
   have hs:=hz.1 h.1
   have hfn:=(hf.1 h.2).2
   obtain⟨hc,hlim,hcap,hol⟩:=hs.lens
   have hall:∀o∈s.orders,H9 s o/\oQ o:=fun o ho=>⟨hfn.ords o ho,hr.orders.1 o ho⟩
   have hokc:∀c∈s.cells,Bf c:=hr.cells.1
   refine Wq.bind (ajK hs hall) fun y hy=> ?_
   obtain⟨hy1,hy2⟩:=hy
   rw[lq]
   refine⟨fun h5=>(au _).2 ((au _).2 ?_),fun h5=> ?_⟩
   ·rw[bM]at h5
    refine⟨fun h=>(by cases h),fun hR=> ?_⟩
    have:y.2=true:=hy1.2 fun j hj=>by
     have e:=hR.ok s.cells[j] (List.getElem_mem _)
     have e2:s.cells[j]=tq ⟨s.cells[j].pos,0,0,0⟩ (wz s.symbols j s.orders):=by
      have:=tu s s.orders j (by rw[nX];exact hj)
      rw[<-this]
      congr 1
      exact hR.cells
     have e3:=aaO e
     rw[e2]at e3
     unfold WG tq at e3
     simpa [WG] using e3
    rw[this]at h5;cases h5
   ·rw[bQ]at h5
    obtain⟨hyl,hyg⟩:=hy2 h5
    refine Wq.bind (Q:=fun w:(Bool×List aS) ⊕ (Bool×List aS)=>match w with
     |.inl b=>b.1=false/\¬((∀c∈s.cells,okC c)/\s.cells=jE s s.orders)
     |.inr _=>(∀c∈s.cells,okC c)/\s.cells=jE s s.orders)
     (oP (n:=s.cells.length) (step:=fun v:Int×Bool×List aS=>jD (len s.cells) s.cells v.fst v.snd.fst v.snd.snd) (by omega)
     (fun i x=>x.2.length=s.cells.length/\(∀(j:Nat) (h:j<x.2.length),i<=j->x.2[j]=wz s.symbols j s.orders)/\∀(j:Nat) (h:j<s.cells.length),j<i->okC s.cells[j]/\s.cells[j]=tq ⟨s.cells[j].pos,0,0,0⟩ (wz s.symbols j s.orders)) _ ?_ ?_ _ 0 (Nat.zero_le _)
     ⟨hyl,fun j hj _=>hyg j hj,fun j _ h=>by omega⟩) ?_
    ·rintro i ⟨q,x⟩ hi ⟨hx,hxj,hxd⟩
     simp only at hx hxj hxd
     simp only[jD]
     have hix:i<x.length:=by omega
     rw[aT (by rw[jq];simpa using hi),aT (inb _ i hi),aT (inb x i hix),dI _ i hi,dI x i hix,AO (hokc _ (List.getElem_mem _)),aA]
     have hil:i<(bf x (itn (i:Int)) (aS.mk s.cells[i].pos x[i].buy x[i].sell x[i].opn)).length:=by rw[FN];exact hix
     rw[aT (by rw[dZ];exact .inl (inb _ i hil)),dI _ i hil]
     have hg:(bf x (itn (i:Int)) (aS.mk s.cells[i].pos x[i].buy x[i].sell x[i].opn))[i]=aS.mk s.cells[i].pos x[i].buy x[i].sell x[i].opn:=by
      simp [bf,itn]
     rw[hg]
     have hxi:=hxj i hix (Nat.le_refl _)
     have hq:tq ⟨s.cells[i].pos,0,0,0⟩ (wz s.symbols i s.orders)=aS.mk s.cells[i].pos x[i].buy x[i].sell x[i].opn:=by
      rw[<-hxi]
      have hp:x[i].pos=0:=by rw[hxi];exact(OT _ _ fun o h=>⟨(hall o h).1.1,(hall o h).2⟩).1
      apply Oz<;>simp only[tq]<;>omega
     simp only[lq,au,bH,dH,dZ,fE,bM,bQ,eH,fG,dO,fK,bZ,dw,fO,fQ]
     constructor
     ·intro hb
      refine⟨trivial,fun⟨a1,a2⟩=> ?_⟩
      have b1:=a1 s.cells[i] (List.getElem_mem _)
      have b2:s.cells[i]=tq ⟨s.cells[i].pos,0,0,0⟩ (wz s.symbols i s.orders):=by
       have:=tu s s.orders i (by rw[nX];exact hi)
       rw[<-this];congr 1
      rw[hq]at b2
      rcases hb with hb | hb
      ·exact absurd b1 (by simpa using hb)
      ·have c2:=congrArg aS.buy b2;have c3:=congrArg aS.sell b2;have c4:=congrArg aS.opn b2
       simp only at c2 c3 c4
       rcases hb with hb | hb | hb | hb
       ·exact hb rfl
       ·exact hb c2.symm
       ·exact hb c3.symm
       ·exact hb c4.symm
     ·intro hb
      obtain⟨b1,_,b2,b3,b4⟩:=hb
      refine⟨eF (by omega),(FN _ _ _).trans hx,fun j hj hij=> ?_,fun j hj hji=> ?_⟩
      ·rw[Vq,if_neg (by omega)]
       exact hxj j (by simpa [bf] using hj) (by omega)
      ·by_cases e:j=i
       ·subst e
        refine⟨by simpa using b1,?_⟩
        rw[hq]
        exact Oz rfl b2.symm b3.symm b4.symm
       ·exact hxd j hj (by omega)
    ·rintro⟨q,x⟩ ⟨hx,_,hxd⟩
     simp only[jD]
     rw[gQ (by rw[jq];simp),au]
     refine⟨fun c hc=> ?_,?_⟩
     ·obtain⟨j,hj,rfl⟩:=List.getElem_of_mem hc
      exact(hxd j hj hj).1
     ·refine List.ext_getElem (nX _ _).symm fun j h1 h2=> ?_
      rw[tu]
      exact(hxd j h1 h1).2
    ·rintro w hw
     cases w with
     |inl b=>
      obtain⟨h1,h2⟩:=hw
      simp only[qf,au,h1]
      exact⟨fun h=>(by cases h),fun hR=>absurd ⟨hR.ok,hR.cells⟩ h2⟩
     |inr b=>
      obtain⟨hok,hcs⟩:=hw
      simp only[qf]
      rw[Bl]
      have hacc:∀a:Int,∀c∈V5 s.symbols s.cells a,0<=c.opn/\inI c.opn:=fun a c hc=>by
       have:=hok c (ahZ hc)
       exact⟨this.2.1.2.2,this.1.opn⟩
      refine Wq.mono (Q:=fun w:Bool ⊕ Bool=>match w with | .inl b=>b=false/\¬afl s.accounts s.symbols s.cells | .inr _=>afl s.accounts s.symbols s.cells)
       (oP (n:=s.accounts.toNat) (step:=fun v:Int×Bool=>jA s.accounts s v.fst v.snd) (by have:=hs.1.2;omega)
       (fun i x=>∀a:Int,0<=a->a<i->Zl (V5 s.symbols s.cells a)<=9223372036854775807) _ ?_ ?_ _ 0 (Nat.zero_le _) (fun a h1 h2=>by omega)) ?_
      ·rintro i q hi hx
       have hia:(i:Int)<s.accounts:=by omega
       simp only[jA]
       rw[aT (EP hia),ahK hs i (by omega) hia,aA,ZW (by have:=ait (n:=s.symbols) (cs:=s.cells) (a:=(i:Int));omega) (hacc i),aA]
       by_cases hw:Zl (V5 s.symbols s.cells i)<=9223372036854775807
       ·rw[if_pos hw]
        simp only[Ap,dF,bU,au]
        refine⟨eF (by omega),fun a h1 h2=> ?_⟩
        by_cases e:a=i
        ·subst e;exact hw
        ·exact hx a h1 (by omega)
       ·rw[if_neg hw]
        simp only[FW,dG,cu,au]
        exact⟨trivial,fun h=>hw (h i (by omega) hia)⟩
      ·rintro q hx
       simp only[jA]
       rw[gQ (Gs (by omega)),au]
       exact fun a h1 h2=>hx a h1 (by omega)
      ·rintro w hw
       cases w with
       |inl b=>
        obtain⟨rfl,h2⟩:=hw
        simp only[au]
        exact⟨fun h=>(by cases h),fun hR=>absurd hR.acct h2⟩
       |inr b=>
        simp only[au]
        exact⟨fun _=>⟨hs,hfn,hcs,hok,hw⟩,fun _=>trivial⟩
def aod (s:aj) (l:List aG):aj:=⟨s.accounts,s.symbols,l,jE s l,s.limits,s.caps,s.kill,s.last,s.seq,s.lsn⟩
theorem adz (n i:Int):∀(l:List aG),(wz n i l).pos=0
 |[]=>rfl
 |o::l=>by
  have h:=adz n i l
  have:(inC n i o).pos=0:=by unfold inC wC;split<;>(try split)<;>rfl
  simp only[wz,tq,h,this];rfl
theorem mk_pos (s:aj) (l:List aG) (j:Nat) (h:j<(jE s l).length):(jE s l)[j].pos=(s.cells[j]'(by simpa [jE] using h)).pos:=by
 rw[tu]
 have:=adz s.symbols j l
 simp only[tq];omega
theorem acj {α:Type} {l m:List α} (hlen:l.length=m.length) (hn:l.length<999999) {step:Int×Bool->Option ((Int×Bool) ⊕ (Bool ⊕ Bool))}
 (hstep:∀(i:Nat) (h:i<l.length) (h2:i<m.length) (q:Bool),Wq (step ((i:Int),q)) fun r=>(l[i]=m[i]->r= .inl (((i+1:Nat):Int),q))/\(l[i]≠m[i]->r= .inr (.inl false)))
 (hend:∀q,step ((l.length:Int),q)=some (.inr (.inr q))) (q:Bool):Wq (bF step LF (0,q)) fun w=>match w with | .inl b=>b=false/\l≠m | .inr b=>l=m:=by
 refine oP (n:=l.length) hn (fun i _=>∀(j:Nat) (h:j<l.length) (h2:j<m.length),j<i->l[j]=m[j]) _ (fun i x hi hx=> ?_) (fun x hx=> ?_) _ 0 (Nat.zero_le _) (fun j _ _ h=>by omega)
 ·have hi2:i<m.length:=by omega
  refine(hstep i hi hi2 x).mono fun r hr=> ?_
  by_cases e:l[i]=m[i]
  ·rw[hr.1 e]
   refine⟨rfl,fun j h h2 hj=> ?_⟩
   by_cases ej:j=i
   ·subst ej;exact e
   ·exact hx j h h2 (by omega)
  ·rw[hr.2 e]
   refine⟨rfl,fun h=>e ?_⟩
   subst h;rfl
 ·rw[hend x]
  exact(au _).2 (List.ext_getElem hlen fun j h h2=>hx j h h2 h)
theorem alu {α β:Type} (l:List α) (m:List β):(len l=len m)↔l.length=m.length:=by unfold len;omega
theorem aa4 (a b:aG):(a.id=b.id/\a.account=b.account/\a.symbol=b.symbol/\a.side=b.side/\a.qty=b.qty/\a.price=b.price/\a.filled=b.filled/\a.phase=b.phase/\a.newQty=b.newQty/\a.newPrice=b.newPrice/\a.version=b.version/\a.asked=b.asked)↔a=b:=by
 cases a;cases b;simp
theorem ahs (a b:aS):(a.pos=b.pos/\a.buy=b.buy/\a.sell=b.sell/\a.opn=b.opn)↔a=b:=by
 cases a;cases b;simp
theorem aee (a b:dP):(a.long=b.long/\a.short=b.short/\a.opn=b.opn)↔a=b:=by
 cases a;cases b;simp
theorem aaI (a b:aj):(a.accounts=b.accounts/\a.symbols=b.symbols/\a.kill=b.kill/\a.last=b.last/\a.seq=b.seq/\a.lsn=b.lsn/\a.orders=b.orders/\a.cells=b.cells/\a.limits=b.limits/\a.caps=b.caps)↔a=b:=by
 cases a;cases b;simp;grind
def uF (s:aj):Prop:=s.orders.length<999999/\s.cells.length<999999/\s.limits.length<999999/\s.caps.length<999999
theorem ae6 {a b:aj} (ha:uF a):Wq (fJ a b) fun r=>r=true↔a=b:=by
 obtain⟨h1,h2,h3,h4⟩:=ha
 unfold fJ
 rw[lq]
 have hx:=aaI a b
 refine⟨fun h=>(au _).2 ⟨fun h=>(by cases h),fun h2=> ?_⟩,fun h=> ?_⟩
 ·subst h2
  simp only[bH,dH,dZ,fE,bM,bQ,eH,fG,dO,fK,bZ,dw,fO,fQ]at h
  simp at h
 ·simp only[bH,dH,dZ,fE,bM,bQ,eH,fG,dO,fK,bZ,dw,fO,fQ,alu]at h
  obtain⟨⟨⟨⟨⟨⟨⟨⟨⟨a1,a2⟩,a3⟩,a4⟩,a5⟩,a6⟩,a7⟩,a8⟩,a9⟩,a10⟩:=h
  have e1:a=b↔a.orders=b.orders/\a.cells=b.cells/\a.limits=b.limits/\a.caps=b.caps:=by
   rw[<-hx];exact⟨fun h=>⟨h.2.2.2.2.2.2.1,h.2.2.2.2.2.2.2.1,h.2.2.2.2.2.2.2.2.1,h.2.2.2.2.2.2.2.2.2⟩,fun h=>⟨a1,a2,a3,a4,a5,a6,h⟩⟩
  rw[e1]
  refine Wq.bind (acj (l:=a.orders) (m:=b.orders) a7 h1 (step:=fun v:Int×Bool=>jR b a v.fst v.snd) (fun i h hh q=> ?_) (fun q=> ?_) _) fun w hw=> ?_
  ·simp only[jR]
   rw[aT (by rw[jq];simpa using h),aT (inb _ i h),aT (inb _ i hh),dI _ i h,dI _ i hh,lq,au,au,bM,bQ,eF (by omega)]
   have:=aa4 a.orders[i] b.orders[i]
   simp only[bH,dH,dZ,fE,bM,bQ,eH,fG,dO,fK,bZ,dw,fO,fQ]at*
   exact⟨fun h=>⟨fun e=>(by have:=this.2 e;grind),fun _=>trivial⟩,fun h=>⟨fun _=>trivial,fun e=>absurd (this.1 h) e⟩⟩
  ·simp only[jR]
   rw[gQ (by rw[show((a.orders.length:Nat):Int)=len a.orders from rfl];simp [ilt])]
  cases w with
  |inl w=>obtain⟨rfl,h⟩:=hw;simp only[qf,au];simp [h]
  |inr w=>
  simp only[qf,hw,true_and]
  refine Wq.bind (acj (l:=a.cells) (m:=b.cells) a8 h2 (step:=fun v:Int×Bool=>jB b a v.fst v.snd) (fun i h hh q=> ?_) (fun q=> ?_) _) fun w hw=> ?_
  ·simp only[jB]
   rw[aT (by rw[jq];simpa using h),aT (inb _ i h),aT (inb _ i hh),dI _ i h,dI _ i hh,lq,au,au,bM,bQ,eF (by omega)]
   have:=ahs a.cells[i] b.cells[i]
   simp only[bH,dH,dZ,fE,bM,bQ,eH,fG,dO,fK,bZ,dw,fO,fQ]at*
   exact⟨fun h=>⟨fun e=>(by have:=this.2 e;grind),fun _=>trivial⟩,fun h=>⟨fun _=>trivial,fun e=>absurd (this.1 h) e⟩⟩
  ·simp only[jB]
   rw[gQ (by rw[show((a.cells.length:Nat):Int)=len a.cells from rfl];simp [ilt])]
  cases w with
  |inl w=>obtain⟨rfl,h⟩:=hw;simp only[qf,au];simp [h]
  |inr w=>
  simp only[qf,hw,true_and]
  refine Wq.bind (acj (l:=a.limits) (m:=b.limits) a9 h3 (step:=fun v:Int×Bool=>jv b a v.fst v.snd) (fun i h hh q=> ?_) (fun q=> ?_) _) fun w hw=> ?_
  ·simp only[jv]
   rw[aT (by rw[jq];simpa using h),aT (inb _ i h),aT (inb _ i hh),dI _ i h,dI _ i hh,lq,au,au,bM,bQ,eF (by omega)]
   have:=aee a.limits[i] b.limits[i]
   simp only[bH,dH,dZ,fE,bM,bQ,eH,fG,dO,fK,bZ,dw,fO,fQ]at*
   exact⟨fun h=>⟨fun e=>(by have:=this.2 e;grind),fun _=>trivial⟩,fun h=>⟨fun _=>trivial,fun e=>absurd (this.1 h) e⟩⟩
  ·simp only[jv]
   rw[gQ (by rw[show((a.limits.length:Nat):Int)=len a.limits from rfl];simp [ilt])]
  cases w with
  |inl w=>obtain⟨rfl,h⟩:=hw;simp only[qf,au];simp [h]
  |inr w=>
  simp only[qf,hw,true_and]
  refine Wq.bind (acj (l:=a.caps) (m:=b.caps) a10 h4 (step:=fun v:Int×Bool=>jw b a v.fst v.snd) (fun i h hh q=> ?_) (fun q=> ?_) _) fun w hw=> ?_
  ·simp only[jw]
   rw[aT (by rw[jq];simpa using h),aT (inb _ i h),aT (inb _ i hh),dI _ i h,dI _ i hh,lq,au,au,bM,bQ,eF (by omega)]
   simp only[bH,dH,dZ,fE,bM,bQ,eH,fG,dO,fK,bZ,dw,fO,fQ]at*
   exact⟨fun h=>⟨fun e=>absurd e h,fun _=>trivial⟩,fun h=>⟨fun _=>trivial,fun e=>absurd h e⟩⟩
  ·simp only[jw]
   rw[gQ (by rw[show((a.caps.length:Nat):Int)=len a.caps from rfl];simp [ilt])]
  cases w with
  |inl w=>obtain⟨rfl,h⟩:=hw;simp only[qf,au];simp [h]
  |inr w=>simp only[qf,hw,au]
theorem UX {a:aj} (ha:uF a):fJ a a=some true:=by
 obtain⟨b,e,q⟩:=ae6 (b:=a) ha
 rw[e,q.2 rfl]
theorem als (s:aj):Wq (nI s) fun b=>b=true->uF s:=by
 unfold nI uF
 simp only[au,bH,dH,dZ,fE,bM,bQ,eH,fG,dO,fK,bZ,dw,fO,fQ,len]
 omega
def zS:aj:=⟨0,0,[],[],[],[],false,0,0,0⟩
theorem Vs {α β:Type} (l:List α) {i:Nat} (h:i<l.length) (x y z:β):cnd (ilt (i:Int) (len l)) (cnd (band (ile 0 (i:Int)) (ilt (i:Int) (len l))) x y) z=x:=by
 rw[aT (b:=ilt _ _) (EP (by unfold len;omega)),aT (inb l i h)]
theorem Ri {α β:Type} (l:List α) (x y:β):cnd (ilt (l.length:Int) (len l)) x y=y:=gQ (Gs (by unfold len;omega))
def rU (n:Int):Nat->List Int
 |0=>[]
 |k+1=>(n / 256^k%256)::rU n k
theorem ru (n:Int):∀k,(rU n k).length=k
 |0=>rfl
 |k+1=>by rw[rU,List.length_cons,ru n k]
def eP (l:List Int):Prop:=∀x∈l,0<=x/\x<=255
theorem Jq (n:Int):∀k,eP (rU n k)
 |0=>by intro x hx;cases hx
 |k+1=>by
  intro x hx
  rcases List.mem_cons.1 hx with rfl | hx
  ·have h1:=Int.emod_nonneg (n / 256^k) (b:=256) (by decide)
   have h2:=Int.emod_lt_of_pos (n / 256^k) (b:=256) (by decide)
   omega
  ·exact Jq n k x hx
theorem eP.app {a b:List Int} (h:eP a) (k:eP b):eP (a++b):=fun x hx=>by
 rcases List.mem_append.1 hx with h1 | h1
 ·exact h x h1
 ·exact k x h1
theorem eP.drop {l:List Int} (h:eP l) (n:Nat):eP (l.drop n):=fun x hx=>h x (List.mem_of_mem_drop hx)
theorem eP.take {l:List Int} (h:eP l) (n:Nat):eP (l.take n):=fun x hx=>h x (List.mem_of_mem_take hx)
theorem eP.get {l:List Int} (h:eP l) {i:Nat} (hi:i<l.length):0<=l[i]/\l[i]<=255:=h _ (List.getElem_mem hi)
theorem Gf {α:Type} {f:α->List Int} {l:List α} (h:∀x∈l,eP (f x)):eP (l.flatMap f):=fun x hx=>by
 obtain⟨y,h1,h2⟩:=List.mem_flatMap.1 hx
 exact h y h1 x h2
theorem aeO (n:Int):wr .u8 n=n%256:=by
 unfold wr IntKind.wrap
 simp [IntKind.bits,IntKind.signed]
theorem aiU (n:Int):wr .u32 n=n%4294967296:=by
 unfold wr IntKind.wrap
 simp [IntKind.bits,IntKind.signed]
theorem anF {W X:Type} {step:Int×X->Option ((Int×X) ⊕ W)} {n:Nat} (hn:n<999999) (J:Nat->X->Prop) (R:W->Prop)
 (h:∀i x,i<n->J (i+1) x->Wq (step ((i:Int),x)) fun r=>match r with | .inl (k,x')=>k=(i:Int) - 1/\J i x' | .inr w=>R w)
 (he:∀x,J 0 x->Wq (step (-1,x)) fun r=>match r with | .inl _=>False | .inr w=>R w)
 (x:X) (hx:J n x):Wq (bF step LF ((n:Int) - 1,x)) R:=by
 refine afM (fun v:Int×X=>(v.1+1).toNat) (fun v:Int×X=>∃i:Nat,v.1=(i:Int) - 1/\i<=n/\J i v.2) R ?_ LF _ (akv (by simp only;omega)) ⟨n,rfl,Nat.le_refl _,hx⟩
 rintro⟨k,y⟩ ⟨i,rfl,hi,hj⟩
 cases i with
 |zero=>
  refine(he y hj).mono fun r hr=> ?_
  match r,hr with
  |.inl _,hr=>exact hr.elim
  |.inr w,hr=>exact hr
 |succ i=>
  have e:((i+1:Nat):Int) - 1=(i:Int):=by omega
  rw[e]
  refine(h i y (by omega) hj).mono fun r hr=> ?_
  match r,hr with
  |.inl (k,x'),hr=>
   obtain⟨rfl,h2⟩:=hr
   exact⟨⟨i,rfl,by omega,h2⟩,by simp only;omega⟩
  |.inr w,hr=>exact hr
theorem agJ {i:Nat} (h:i<1000000):wr .i64 (aF (i:Int) 1)=(i:Int) - 1:=by
 unfold aF
 exact S9 ⟨by omega,by omega⟩
theorem byte_of {n:Int} {i:Nat} (hi:i<8):ile 0 (wr .i64 (jr 8 (i:Int)))=true/\wr .u8 (cZ .i64 n (wr .i64 (jr 8 (i:Int))))=n / 256^i%256:=by
 have h1:wr .i64 (jr 8 (i:Int))=((8*i:Nat):Int):=by
  unfold jr
  rw[dX (by omega) (by omega)];omega
 have h2:min (((8*i:Nat):Int).toNat) (IntKind.bits .i64)=8*i:=by
  simp only[IntKind.bits,Int.toNat_natCast];omega
 rw[h1]
 refine⟨oU (by omega),?_⟩
 unfold cZ
 rw[h2,Int.pow_mul,aeO,Int.fdiv_eq_ediv_of_nonneg _ (Int.le_of_lt (Int.pow_pos (by decide)))]
 rfl
theorem acT {α:Type} {l:List α} {n:Nat} (h:l.length<=n) (hn:n<68719476736):ile (len l) 68719476736=true:=oU (by unfold len;omega)
theorem ach (n:Int) (k:Nat) (a:List Int):(a++rU n k).length=a.length+k:=by rw[List.length_append,ru]
theorem s_put {n:Int} {acc:List Int} (k:Nat) (hk:k<=8) (hl:acc.length<1000000):bF (fun v:Int×List Int=>mP n v.1 v.2) LF ((k:Int) - 1,acc)=some (acc++rU n k):=by
 refine Wq.eq (anF (n:=k) (by omega) (fun i x=>x++rU n i=acc++rU n k/\x.length+i=acc.length+k) _ (fun i x hi hj=> ?_) (fun x hj=> ?_) acc ⟨rfl,rfl⟩)
 ·obtain⟨h1,h2⟩:=byte_of (n:=n) (i:=i) (by omega)
  simp only
  unfold mP
  rw[h2,aT (oU (by omega)),aT h1,aT (acT (n:=1000100) (by simp only[jQ,List.length_append,List.length_cons,List.length_nil];omega) (by decide)),au]
  refine⟨agJ (by omega),?_,?_⟩
  ·rw[<-hj.1]
   show(x++[_])++rU n i=x++(_::rU n i)
   rw[List.append_assoc];rfl
  ·simp only[jQ,List.length_append,List.length_cons,List.length_nil];omega
 ·simp only
  unfold mP
  rw[gQ (aoD (by omega)),au]
  have:=hj.1
  simpa [rU] using this
theorem aaR {acc:List Int} (k:Nat) (h0:0<k) (hk:k<=8) {l:List Int} (hl:acc.length+8*l.length<1000000):pF acc (k:Int) l=some (acc++l.flatMap fun n=>rU n k):=by
 have hn:l.length<999999:=by omega
 refine Wq.eq ?_
 unfold pF
 refine Wq.bind (Q:=fun y=>y=acc++l.flatMap fun n=>rU n k) ?_ fun y hy=>(au _).2 hy
 refine oP hn (fun i x=>x=acc++(l.take i).flatMap (fun n=>rU n k)/\x.length=acc.length+k*i) _ (fun i x hi hj=> ?_) (fun x hj=> ?_) acc 0 (Nat.zero_le _) ⟨by simp,by simp⟩
 ·simp only
  unfold sF
  have hki:k*i<=8*i:=Nat.mul_le_mul_right _ hk
  rw[Vs l hi,dI l i hi]
  have e:wr .i64 (aF (k:Int) 1)=(k:Int) - 1:=agJ (by omega)
  rw[e,s_put k hk (by omega),aA,au]
  refine⟨eF (by omega),?_,?_⟩
  ·rw[List.take_succ_eq_append_getElem hi,List.flatMap_append,hj.1]
   simp
  ·rw[ach,hj.2,Nat.mul_add];omega
 ·simp only
  unfold sF
  rw[Ri,au,hj.1,List.take_length]
theorem adF {acc:List Int} (k:Nat) (h0:0<k) (hk:k<=8) {l:List Int} (hl:acc.length+8*l.length<1000000):jI acc (k:Int) l=some (acc++l.flatMap fun n=>rU n k):=aaR k h0 hk hl
def unZ (l:List Int):Int:=l.foldl (fun n b=>n*256+b) 0
theorem aji (l:List Int) (b:Int):unZ (l++[b])=unZ l*256+b:=by unfold unZ;rw[List.foldl_append];rfl
theorem aj9 (n c:Int):wr .i64 (wr .i64 n*256+c)=wr .i64 (n*256+c):=by
 unfold wr IntKind.wrap
 simp [IntKind.bits,IntKind.signed]
 omega
theorem adY (n:Int):wr .i64 (n%18446744073709551616)=wr .i64 n:=by
 unfold wr IntKind.wrap
 simp [IntKind.bits,IntKind.signed]
theorem abU (a c:Int) (h1:0<=c) (h2:c<=255):wr .i64 (ior .i64 (wr .i64 (o7 .i64 a 8)) (wr .i64 c))=wr .i64 (a*256+c):=by
 have e1:o7 .i64 a 8=a*256:=rfl
 have e2:wr .i64 c=c:=dX h1 (by omega)
 rw[e1,e2,<-adY (a*256+c)]
 congr 1
 unfold ior
 rw[BitVec.toNat_or,BitVec.toNat_ofInt,BitVec.toNat_ofInt]
 have e3:((2^IntKind.bits .i64:Nat):Int)=18446744073709551616:=by decide
 rw[e3]
 have e4:wr .i64 (a*256)%18446744073709551616=((a%72057594037927936).toNat*256:Nat):=by
  have:wr .i64 (a*256)%18446744073709551616=a*256%18446744073709551616:=by
   unfold wr IntKind.wrap
   simp [IntKind.bits,IntKind.signed]
   omega
  rw[this];omega
 have e5:c%18446744073709551616=(c.toNat:Int):=by omega
 rw[e4,e5,Int.toNat_natCast,Int.toNat_natCast]
 have e6:=Nat.shiftLeft_add_eq_or_of_lt (i:=8) (b:=c.toNat) (by omega) (a%72057594037927936).toNat
 rw[Nat.shiftLeft_eq]at e6
 rw[show(a%72057594037927936).toNat*256=(a%72057594037927936).toNat*2^8 from rfl,<-e6]
 omega
theorem amw {r:eY} {k:Nat} (hk:k<=r.rest.length) (hn:k<999999) (hb:eP r.rest):bV r (k:Int)=some (⟨r.rest.drop k,r.odd⟩,wr .i64 (unZ (r.rest.take k))):=by
 refine Wq.eq ?_
 unfold bV
 have h1:band (ile 0 (k:Int)) (ile (k:Int) (len r.rest))=true:=GU (oU (by omega)) (oU (by unfold len;omega))
 have e:aB r.rest (itn (k:Int))=r.rest.take k:=by simp [aB,itn]
 rw[h1,cu,e]
 have hlen:(r.rest.take k).length=k:=by rw[List.length_take];omega
 refine Wq.bind (Q:=fun y=>y=wr .i64 (unZ (r.rest.take k))) ?_ fun y hy=> ?_
 ·have hn':(r.rest.take k).length<999999:=by omega
  refine oP hn' (fun i x=>x=wr .i64 (unZ ((r.rest.take k).take i))) _ (fun i x hi hj=> ?_) (fun x hj=> ?_) 0 0 (Nat.zero_le _) (by simp [unZ];rfl)
  ·simp only
   unfold oM
   obtain⟨b1,b2⟩:=(hb.take k).get hi
   rw[Vs _ hi,dI _ i hi,au,abU _ _ b1 b2,hj,aj9]
   refine⟨eF (by omega),?_⟩
   rw[List.take_succ_eq_append_getElem hi,aji]
  ·simp only
   unfold oM
   rw[Ri,au,hj,List.take_length]
 ·subst hy
  rw[cu,au]
  simp [aH,itn]
theorem ah4 (l:List Int) (a:Int):l.foldl (fun n b=>n*256+b) a=a*256^l.length+unZ l:=by
 induction l generalizing a with
 |nil=>simp [unZ]
 |cons b l ih=>
  unfold unZ
  rw[List.foldl_cons,List.foldl_cons,ih,ih (0*256+b),List.length_cons,Int.pow_succ]
  simp only[Int.zero_mul,Int.zero_add,Int.add_mul]
  rw[Int.mul_assoc,Int.mul_comm 256];omega
theorem TG (b:Int) (l:List Int):unZ (b::l)=b*256^l.length+unZ l:=by
 have:=ah4 l (0*256+b)
 unfold unZ at*
 rw[List.foldl_cons,this];simp
theorem aha:∀ {l:List Int},eP l->0<=unZ l/\unZ l<256^l.length
 |[],_=>by simp [unZ]
 |b::l,h=>by
  obtain⟨h1,h2⟩:=aha (l:=l) fun x hx=>h x (by simp [hx])
  obtain⟨b1,b2⟩:=h b (by simp)
  rw[TG,List.length_cons,Int.pow_succ]
  have hp:(0:Int)<256^l.length:=Int.pow_pos (by decide)
  have q1:0<=b*256^l.length:=Int.mul_nonneg b1 (by omega)
  have q2:b*256^l.length<=255*256^l.length:=Int.mul_le_mul_of_nonneg_right b2 (by omega)
  exact⟨by omega,by omega⟩
theorem acC (n:Int):∀k,unZ (rU n k)=n%256^k
 |0=>by simp [rU,unZ,Int.emod_one]
 |k+1=>by
  rw[rU,TG,ru,acC n k,Int.pow_succ]
  have hp:(0:Int)<256^k:=Int.pow_pos (by decide)
  have h1:n / 256^k%256=n / 256^k - 256*(n / 256^k / 256):=Int.emod_def _ _
  have h2:n / 256^k / 256=n / (256^k*256):=Int.ediv_ediv_of_nonneg (by omega)
  rw[h1,h2,Int.emod_def n (256^k),Int.emod_def n (256^k*256),Int.sub_mul]
  have h3:n / 256^k*256^k=256^k*(n / 256^k):=Int.mul_comm _ _
  have h4:256*(n / (256^k*256))*256^k=256^k*256*(n / (256^k*256)):=by
   rw[Int.mul_comm (256*_),<-Int.mul_assoc]
  rw[h3,h4];omega
theorem XQ {m:Int}:∀(k:Nat) (n q:Int),m=n+q*256^k->rU m k=rU n k
 |0,_,_,_=>rfl
 |k+1,n,q,h=>by
  rw[Int.pow_succ]at h
  have hp:(256:Int)^k≠0:=by have:(0:Int)<256^k:=Int.pow_pos (by decide);omega
  have e:m=n+q*256*256^k:=by
   rw[h,<-Int.mul_assoc,Int.mul_assoc q,Int.mul_comm _ 256,<-Int.mul_assoc]
  rw[rU,rU,XQ k n (q*256) e,e,Int.add_mul_ediv_right _ _ hp,Int.mul_comm q 256,Int.add_mul_emod_self_left]
theorem agV:∀ {l:List Int},eP l->rU (unZ l) l.length=l
 |[],_=>rfl
 |b::l,h=>by
  have hl:eP l:=fun x hx=>h x (by simp [hx])
  obtain⟨h1,h2⟩:=aha hl
  obtain⟨b1,b2⟩:=h b (by simp)
  have hp:(256:Int)^l.length≠0:=by have:(0:Int)<256^l.length:=Int.pow_pos (by decide);omega
  rw[List.length_cons,rU,XQ l.length (unZ l) b (by rw[TG,Int.add_comm]),agV hl,TG,Int.add_comm,Int.add_mul_ediv_right _ _ hp,Int.ediv_eq_zero_of_lt h1 h2]
  congr 1
  omega
theorem amU (n:Int):∃q,wr .i64 n=n+q*256^8:=by
 have:(256:Int)^8=18446744073709551616:=by decide
 rw[this]
 unfold wr IntKind.wrap
 simp [IntKind.bits,IntKind.signed]
 exact⟨-((n+9223372036854775808) / 18446744073709551616),by omega⟩
theorem anU (n:Int):rU (wr .i64 n) 8=rU n 8:=by
 obtain⟨q,h⟩:=amU n
 exact XQ 8 n q h
theorem agp {n:Int} (h:inI n):wr .i64 (unZ (rU n 8))=n:=by
 rw[acC]
 have:(256:Int)^8=18446744073709551616:=by decide
 rw[this,adY,S9 h]
theorem amJ {n:Int} (h1:0<=n) (h2:n<256):wr .i64 (unZ (rU n 1))=n:=by
 rw[acC]
 have:(256:Int)^1=256:=by decide
 rw[this,Int.emod_eq_of_lt h1 h2,dX h1 (by omega)]
theorem afm {l:List Int} (h:eP l) (hl:l.length=8):rU (wr .i64 (unZ l)) 8=l:=by
 rw[anU,<-hl,agV h]
abbrev B32:=BitVec 32
def hB (x:B32):B32:=(x >>> 1) ^^^ (if x.getLsbD 0 then 0xedb88320#32 else 0#32)
def hN:Nat->B32->B32
 |0,x=>x
 |n+1,x=>hN n (hB x)
theorem anI (x y:B32):hB (x ^^^ y)=hB x ^^^ hB y:=by
 unfold hB
 rw[BitVec.ushiftRight_xor_distrib,BitVec.getLsbD_xor]
 cases x.getLsbD 0<;>cases y.getLsbD 0<;>simp [BitVec.xor_assoc]
 ·rw[BitVec.xor_comm (y >>> 1)]
 ·rw[<-BitVec.xor_assoc (3988292384#32),BitVec.xor_comm (3988292384#32) (y >>> 1),BitVec.xor_assoc];simp
theorem akr:∀(n:Nat) (x y:B32),hN n (x ^^^ y)=hN n x ^^^ hN n y
 |0,_,_=>rfl
 |n+1,x,y=>by rw[hN,hN,hN,anI,akr n]
theorem anQ {y:B32} (h:y.getLsbD 31=false):hB (y <<< 1)=y:=by
 unfold hB
 have h0:(y <<< 1).getLsbD 0=false:=by simp
 rw[h0]
 refine BitVec.eq_of_getLsbD_eq fun i hi=> ?_
 simp only[BitVec.getLsbD_xor,BitVec.getLsbD_ushiftRight,BitVec.getLsbD_shiftLeft]
 by_cases h31:i=31
 ·subst h31
  have:y[31]=false:=by simpa using h
  simp [this]
 ·have:1+i<32:=by omega
  simp [this]
theorem aju:∀(k:Nat) (y:B32),k<=32->(∀j,32 - k<=j->y.getLsbD j=false)->hN k (y <<< k)=y
 |0,y,_,_=>by simp [hN]
 |k+1,y,hk,h=>by
  have e:y <<< (k+1)=(y <<< k) <<< 1:=by rw[BitVec.shiftLeft_add]
  rw[hN,e,anQ,aju k y (by omega) fun j hj=>h j (by omega)]
  rw[BitVec.getLsbD_shiftLeft,h (31 - k) (by omega)]
  simp
theorem acf:∀(a b:Nat) (x:B32),hN (a+b) x=hN b (hN a x)
 |0,b,x=>by rw[Nat.zero_add];rfl
 |a+1,b,x=>by rw[Nat.add_right_comm,hN,hN,acf a]
theorem alX (x:B32):hN 4 (x &&& 15#32) ^^^ (x >>> 4)=hN 4 x:=by
 have hs:=aju 4 (x >>> 4) (by decide) fun j hj=>by
  rw[BitVec.getLsbD_ushiftRight];exact BitVec.getLsbD_of_ge _ _ (by omega)
 have e:x=(x &&& 15#32) ^^^ ((x >>> 4) <<< 4):=by
  refine BitVec.eq_of_getLsbD_eq fun i hi=> ?_
  simp only[BitVec.getLsbD_xor,BitVec.getLsbD_and,BitVec.getLsbD_shiftLeft,BitVec.getLsbD_ushiftRight]
  by_cases h4:i<4
  ·have h15:(15#32).getLsbD i=true:=by
    have:i=0\/i=1\/i=2\/i=3:=by omega
    rcases this with rfl | rfl | rfl | rfl<;>rfl
   rw[h15]
   simp [h4]
  ·have h15:(15#32).getLsbD i=false:=by
    have:(15#32)=BitVec.ofNat 32 15:=rfl
    rw[this,BitVec.getLsbD_ofNat]
    have:Nat.testBit 15 i=false:=Nat.testBit_lt_two_pow (Nat.lt_of_lt_of_le (by decide:15<2^4) (Nat.pow_le_pow_right (by decide) (by omega)))
    simp [this]
   have:4+(i - 4)=i:=by omega
   rw[h15,this]
   simp [h4,hi]
 conv=>rhs;rw[e,akr,hs]
def ofB (b:Int):B32:=BitVec.ofInt 32 b
def toI (x:B32):Int:=(x.toNat:Int)
theorem al8 (x:B32):0<=toI x/\toI x<4294967296:=by
 have:=x.isLt
 unfold toI
 omega
theorem Xp (x:B32):ofB (toI x)=x:=by
 apply BitVec.eq_of_toNat_eq
 unfold ofB toI
 rw[BitVec.toNat_ofInt]
 have:=x.isLt
 omega
theorem alZ {b:Int} (h1:0<=b) (h2:b<4294967296):toI (ofB b)=b:=by
 unfold ofB toI
 rw[BitVec.toNat_ofInt]
 omega
theorem ajI (x:B32):wr .u32 (toI x)=toI x:=by
 have:=al8 x
 rw[aiU];omega
theorem PU (x y:B32):wr .u32 (fV .u32 (toI x) (toI y))=toI (x ^^^ y):=by
 have:fV .u32 (toI x) (toI y)=toI (x ^^^ y):=by
  show((BitVec.ofInt 32 (toI x) ^^^ BitVec.ofInt 32 (toI y)).toNat:Int)=_
  have h1:=Xp x
  have h2:=Xp y
  unfold ofB at h1 h2
  rw[h1,h2];rfl
 rw[this,ajI]
theorem adw (x y:B32):wr .u32 (nO .u32 (toI x) (toI y))=toI (x &&& y):=by
 have:nO .u32 (toI x) (toI y)=toI (x &&& y):=by
  show((BitVec.ofInt 32 (toI x) &&& BitVec.ofInt 32 (toI y)).toNat:Int)=_
  have h1:=Xp x
  have h2:=Xp y
  unfold ofB at h1 h2
  rw[h1,h2];rfl
 rw[this,ajI]
theorem akn (x:B32) (k:Nat) (hk:k<=32):cZ .u32 (toI x) (k:Int)=toI (x >>> k):=by
 unfold cZ toI
 have:min ((k:Int).toNat) (IntKind.bits .u32)=k:=by simp only[IntKind.bits,Int.toNat_natCast];omega
 rw[this,Int.fdiv_eq_ediv_of_nonneg _ (Int.le_of_lt (Int.pow_pos (by decide))),BitVec.toNat_ushiftRight,Nat.shiftRight_eq_div_pow]
 simp
theorem ad4 {b:Int} (h1:0<=b) (h2:b<=255):wr .u32 b=toI (ofB b):=by
 rw[alZ h1 (by omega),aiU];omega
theorem aoI (x:B32):(toI x%2=1)↔x.getLsbD 0=true:=by
 unfold toI
 rw[BitVec.getLsbD,Nat.testBit_zero]
 simp only[decide_eq_true_eq]
 omega
theorem KT (x:B32):bK (toI x)=some (toI (hN 4 x)):=by
 refine Wq.eq ?_
 unfold bK
 refine Wq.bind (Q:=fun y=>y=toI (hN 4 x)) ?_ fun y hy=>(au _).2 hy
 refine oP (n:=4) (by decide) (fun i v=>v=toI (hN i x)) _ (fun i v hi hj=> ?_) (fun v hj=> ?_) _ 0 (by decide) rfl
 ·subst hj
  simp only
  unfold yc
  rw[aT (EP (by omega))]
  have e1:(1:Int)=toI 1#32:=rfl
  have e15:(3988292384:Int)=toI 3988292384#32:=rfl
  have e2:cZ .u32 (toI (hN i x)) 1=toI (hN i x >>> 1):=akn _ 1 (by decide)
  rw[e2,e15,PU]
  have hb:wr .u32 (nO .u32 (toI (hN i x)) 1)=toI (hN i x &&& 1#32):=by conv=>lhs;rw[e1,adw]
  rw[hb,acf i 1]
  have hl:(ieq (toI (hN i x &&& 1#32)) 1=true)↔(hN i x).getLsbD 0=true:=by
   rw[bZ,<-aoI]
   unfold toI
   have:(hN i x &&& 1#32).toNat=(hN i x).toNat%2:=by
    rw[BitVec.toNat_and]
    exact Nat.and_two_pow_sub_one_eq_mod _ 1
   rw[this];omega
  cases hc:ieq (toI (hN i x &&& 1#32)) 1 with
  |true=>
   rw[cu,au]
   refine⟨eF (by omega),?_⟩
   show _=toI (hB (hN i x))
   unfold hB
   rw[if_pos (hl.1 hc)]
  |false=>
   rw[bU,au]
   refine⟨eF (by omega),?_⟩
   show _=toI (hB (hN i x))
   unfold hB
   rw[if_neg (fun h=>by rw[hl.2 h]at hc;cases hc),BitVec.xor_zero]
 ·subst hj
  simp only
  unfold yc
  rw[gQ (Gs (by omega)),au]
def ones:B32:=BitVec.allOnes 32
def aag (n:B32) (l:List Int):B32:=l.foldl (fun n b=>hN 8 (n ^^^ ofB b)) n
def wY (l:List Int):Int:=toI (ones ^^^ aag ones l)
theorem ajc (n:B32) (a b:List Int):aag n (a++b)=aag (aag n a) b:=List.foldl_append
theorem aaw {l:List Int} (hl:l.length<999999) (hb:eP l):Fq l=some (wY l):=by
 refine Wq.eq ?_
 unfold Fq Lr
 have e0:(4294967295:Int)=toI ones:=rfl
 have e00:(0:Int)=toI 0#32:=rfl
 have e15:(15:Int)=toI 15#32:=rfl
 refine Wq.bind (Q:=fun y=>y=wY l) (Wq.bind (Q:=fun y=>y=toI (aag ones l)) ?_ fun y hy=> ?_) fun y hy=>(au _).2 hy
 ·have hi0:wr .u32 (fV .u32 4294967295 0)=toI ones:=by
   conv=>lhs;rw[e0,e00,PU]
   simp
  rw[hi0]
  refine oP hl (fun i v=>v=toI (aag ones (l.take i))) _ (fun i v hi hj=> ?_) (fun v hj=> ?_) _ 0 (Nat.zero_le _) rfl
  ·subst hj
   simp only
   unfold yD
   obtain⟨b1,b2⟩:=hb.get hi
   have e4:∀x:B32,cZ .u32 (toI x) 4=toI (x >>> 4):=fun x=>akn x 4 (by decide)
   rw[Vs l hi,dI l i hi,ad4 b1 b2,PU,e15,adw,KT,aA,e4,PU,alX,adw,KT,aA,e4,PU,alX,au]
   refine⟨eF (by omega),?_⟩
   rw[List.take_succ_eq_append_getElem hi,ajc,<-acf]
   rfl
  ·subst hj
   simp only
   unfold yD
   rw[Ri,au,List.take_length]
 ·subst hy
  rw[au]
  conv=>lhs;rw[e0,PU]
  rfl
def qB (n:Int):List Int:=[n%256,n / 256%256,n / 65536%256,n / 16777216%256]
theorem Yn (n:Int):eP (qB n):=fun x hx=>by
 unfold qB at hx
 simp only[List.mem_cons,List.not_mem_nil,or_false]at hx
 rcases hx with rfl | rfl | rfl | rfl<;>omega
def MN (b:Bool):Int:=if b then 1 else 0
theorem ad9 (b:Bool):0<=MN b/\MN b<=1:=by cases b<;>decide
theorem aa0 (b:Bool):JE b=some (MN b):=by cases b<;>rfl
def p8 (l:List Int):List Int:=l.flatMap fun n=>rU n 8
def p1 (l:List Int):List Int:=l.flatMap fun n=>rU n 1
theorem flat_length {α β:Type} {f:α->List β} {m:Nat} (h:∀x,(f x).length=m):∀l:List α,(l.flatMap f).length=m*l.length
 |[]=>rfl
 |x::l=>by rw[List.flatMap_cons,List.length_append,h,flat_length h l,List.length_cons,Nat.mul_add,Nat.mul_one,Nat.add_comm]
theorem zx (l:List Int):(p8 l).length=8*l.length:=flat_length (fun x=>ru x 8) l
theorem GX (l:List Int):(p1 l).length=1*l.length:=flat_length (fun x=>ru x 1) l
theorem OQ (l:List Int):eP (p8 l):=Gf fun x _=>Jq x 8
theorem ac4 (l:List Int):eP (p1 l):=Gf fun x _=>Jq x 1
def jS (o:aG):List Int:=p8 [o.id]++(p1 [o.account,o.symbol,o.side,o.phase]++(p8 [o.qty,o.price,o.filled,o.newQty,o.newPrice,o.version]++p1 [MN o.asked]))
def DN (c:aS):List Int:=p8 [c.pos]
def UH (l:dP):List Int:=p8 [l.long,l.short,l.opn]
def magic:List Int:=[115,110,97,102]
def headB (s:aj):List Int:=magic++(p1 [s.accounts,s.symbols,MN s.kill,len s.orders]++p8 [s.last,s.seq,s.lsn])
def tH (s:aj):List Int:=headB s++(s.orders.flatMap jS++(s.cells.flatMap DN++(s.limits.flatMap UH++p8 s.caps)))
def encZ (s:aj):List Int:=tH s++qB (wY (tH s))
theorem mO (o:aG):(jS o).length=61:=by simp [jS,zx,GX]
theorem JF (c:aS):(DN c).length=8:=by simp [DN,zx]
theorem Nr (c:dP):(UH c).length=24:=by simp [UH,zx]
theorem FB (s:aj):(headB s).length=32:=by simp [headB,magic,zx,GX]
theorem J6 (s:aj):(tH s).length=32+61*s.orders.length+8*s.cells.length+24*s.limits.length+8*s.caps.length:=by
 simp only[tH,List.length_append,FB,flat_length mO,flat_length JF,flat_length Nr,zx]
 omega
theorem JO (s:aj):(encZ s).length=36+61*s.orders.length+8*s.cells.length+24*s.limits.length+8*s.caps.length:=by
 simp only[encZ,List.length_append,J6,qB,List.length_cons,List.length_nil]
 omega
theorem Qv:eP magic:=fun x hx=>by
 simp only[magic,List.mem_cons,List.not_mem_nil,or_false]at hx
 rcases hx with rfl | rfl | rfl | rfl<;>decide
theorem adD (o:aG):eP (jS o):=(OQ _).app ((ac4 _).app ((OQ _).app (ac4 _)))
theorem Yj (s:aj):eP (tH s):=
 (Qv.app ((ac4 _).app (OQ _))).app ((Gf fun o _=>adD o).app ((Gf fun c _=>OQ _).app ((Gf fun c _=>OQ _).app (OQ _))))
theorem zT (s:aj):eP (encZ s):=(Yj s).app (Yn _)
theorem aia {acc l:List Int} (h:acc.length+8*l.length<1000000):jI acc 8 l=some (acc++p8 l):=adF 8 (by decide) (by decide) h
theorem anL {acc l:List Int} (h:acc.length+8*l.length<1000000):pF acc 1 l=some (acc++p1 l):=aaR 1 (by decide) (by decide) h
theorem lZ.few {s:aj} (h:lZ s):s.orders.length<=64/\s.cells.length<=64/\s.limits.length=s.cells.length/\s.caps.length=s.accounts.toNat/\s.accounts.toNat<=8/\(s.cells.length:Int)=s.accounts*s.symbols/\(1<=s.accounts/\s.accounts<=8)/\(1<=s.symbols/\s.symbols<=8):=by
 obtain⟨h1,h2,h3,h4⟩:=h.sized.lens
 have:=h.sized.1
 exact⟨h4,h1,h2,h3,by omega,h.sized.2.2.1,this,h.sized.2.1⟩
theorem Zt {a b n:Int} (ha:1<=a/\a<=8) (hb:1<=b/\b<=8) (hn:0<=n/\n<=255):BV a b n=some (36+n*61+a*b*32+a*8):=by
 unfold BV ak jr
 have m:=A7 (a:=a) (b:=b) (by omega) (by omega) (by omega) (by omega)
 rw[dX (n:=n*61) (by omega) (by omega),dX (n:=32+n*61) (by omega) (by omega),dX (n:=a*b) (by omega) (by omega),dX (n:=a*b*32) (by omega) (by omega),dX (n:=32+n*61+a*b*32) (by omega) (by omega),dX (n:=a*8) (by omega) (by omega),dX (n:=32+n*61+a*b*32+a*8) (by omega) (by omega),dX (by omega) (by omega)]
 congr 1;omega
theorem afb {s:aj} (hr:jX s) (hsh:uF s) (h:lZ s):zn s=some (len (encZ s)):=by
 refine Wq.eq ?_
 unfold zn
 refine(ET s hr hsh.1 hsh.2.2.1 hsh.2.2.2).bind fun b hb=> ?_
 obtain⟨f1,f2,f3,f4,f5,f6,f7,f8⟩:=h.few
 rw[hb.2 h,dF,bU,Zt f7 f8 (by unfold len;omega),aA,au]
 unfold len
 rw[JO,<-f6]
 omega
theorem Zi {s:aj} (hr:jX s) (hsh:uF s) (h:¬lZ s):zn s=some 0:=by
 refine Wq.eq ?_
 unfold zn
 refine(ET s hr hsh.1 hsh.2.2.1 hsh.2.2.2).bind fun b hb=> ?_
 have:b=false:=by cases b with
  |false=>rfl
  |true=>exact absurd (hb.1 rfl) h
 subst this
 rw[dG,cu,au]
theorem Ue {n:Int} {i:Nat} (hi:i<4):ile 0 (wr .i64 (jr 8 (i:Int)))=true/\wr .u8 (cZ .u32 n (wr .i64 (jr 8 (i:Int))))=n / 256^i%256:=by
 have h1:wr .i64 (jr 8 (i:Int))=((8*i:Nat):Int):=by
  unfold jr
  rw[dX (by omega) (by omega)];omega
 have h2:min (((8*i:Nat):Int).toNat) (IntKind.bits .u32)=8*i:=by
  simp only[IntKind.bits,Int.toNat_natCast];omega
 rw[h1]
 refine⟨oU (by omega),?_⟩
 unfold cZ
 rw[h2,Int.pow_mul,aeO,Int.fdiv_eq_ediv_of_nonneg _ (Int.le_of_lt (Int.pow_pos (by decide)))]
 rfl
theorem aem (n:Int) {i:Nat} (hi:i<4):(qB n)[i]'(by simpa [qB] using hi)=n / 256^i%256:=by
 have:i=0\/i=1\/i=2\/i=3:=by omega
 rcases this with rfl | rfl | rfl | rfl
 ·have:(256:Int)^0=1:=rfl
  simp only[qB,this,List.getElem_cons_zero];omega
 ·rfl
 ·rfl
 ·rfl
theorem aix (n:Int) {i:Nat} (hi:i<4) (acc:List Int):acc++(qB n).take i++[n / 256^i%256]=acc++(qB n).take (i+1):=by
 rw[List.take_succ_eq_append_getElem (by simpa [qB] using hi),aem n hi,List.append_assoc]
theorem acs {s:aj} (hr:jX s) (hsh:uF s) (h:lZ s):qP s=some (encZ s,0):=by
 refine Wq.eq ?_
 obtain⟨f1,f2,f3,f4,f5,f6,f7,f8⟩:=h.few
 have hel:=JO s
 unfold qP
 have hz:ieq (len (encZ s)) 0=false:=by rw[dw];unfold len;omega
 have hm:jQ (ja Int 0) (s2u [UInt8.ofNat 115,UInt8.ofNat 110,UInt8.ofNat 97,UInt8.ofNat 102])=magic:=by decide
 rw[afb hr hsh h,aA,hz,bU,aT (GU (oU (by unfold len;omega)) (oU (by unfold len;omega))),aa0,aA,hm,anL (by simp [magic]),aA,
  aia (by simp [magic,GX]),aA]
 have hhead:magic++p1 [s.accounts,s.symbols,MN s.kill,len s.orders]++p8 [s.last,s.seq,s.lsn]=headB s:=by rw[headB,List.append_assoc]
 rw[hhead]
 have hl0:=FB s
 refine Wq.bind (Q:=fun y=>y=headB s++s.orders.flatMap jS) ?_ fun y hy=> ?_
 ·refine oP (n:=s.orders.length) (by omega) (fun i x=>x=headB s++(s.orders.take i).flatMap jS) _ (fun i x hi hj=> ?_) (fun x hj=> ?_) _ 0 (Nat.zero_le _) (by simp)
  ·simp only
   unfold qO
   have hx:x.length=32+61*i:=by
    rw[hj,List.length_append,hl0,flat_length mO,List.length_take];omega
   rw[Vs s.orders hi,dI _ i hi,aia (by simp;omega),aA,anL (by simp [zx];omega),aA,aia (by simp [zx,GX];omega),aA,aa0,aA,anL (by simp [zx,GX];omega),aA,au]
   refine⟨eF (by omega),?_⟩
   rw[List.take_succ_eq_append_getElem hi,List.flatMap_append,hj]
   simp [jS]
  ·simp only
   unfold qO
   rw[Ri,au,hj,List.take_length]
 subst hy
 refine Wq.bind (Q:=fun y=>y=headB s++s.orders.flatMap jS++s.cells.flatMap DN) ?_ fun y hy=> ?_
 ·refine oP (n:=s.cells.length) (by omega) (fun i x=>x=headB s++s.orders.flatMap jS++(s.cells.take i).flatMap DN) _ (fun i x hi hj=> ?_) (fun x hj=> ?_) _ 0 (Nat.zero_le _) (by simp)
  ·simp only
   unfold qX
   have hx:x.length=32+61*s.orders.length+8*i:=by
    rw[hj,List.length_append,List.length_append,hl0,flat_length mO,flat_length JF,List.length_take];omega
   rw[Vs s.cells hi,dI _ i hi,aia (by simp;omega),aA,au]
   refine⟨eF (by omega),?_⟩
   rw[List.take_succ_eq_append_getElem hi,List.flatMap_append,hj]
   simp [DN]
  ·simp only
   unfold qX
   rw[Ri,au,hj,List.take_length]
 subst hy
 refine Wq.bind (Q:=fun y=>y=headB s++s.orders.flatMap jS++s.cells.flatMap DN++s.limits.flatMap UH) ?_ fun y hy=> ?_
 ·refine oP (n:=s.limits.length) (by omega) (fun i x=>x=headB s++s.orders.flatMap jS++s.cells.flatMap DN++(s.limits.take i).flatMap UH) _ (fun i x hi hj=> ?_) (fun x hj=> ?_) _ 0 (Nat.zero_le _) (by simp)
  ·simp only
   unfold qR
   have hx:x.length=32+61*s.orders.length+8*s.cells.length+24*i:=by
    rw[hj,List.length_append,List.length_append,List.length_append,hl0,flat_length mO,flat_length JF,flat_length Nr,List.length_take];omega
   rw[Vs s.limits hi,dI _ i hi,aia (by simp;omega),aA,au]
   refine⟨eF (by omega),?_⟩
   rw[List.take_succ_eq_append_getElem hi,List.flatMap_append,hj]
   simp [UH]
  ·simp only
   unfold qR
   rw[Ri,au,hj,List.take_length]
 subst hy
 have hbl:=J6 s
 have hb:headB s++s.orders.flatMap jS++s.cells.flatMap DN++s.limits.flatMap UH++p8 s.caps=tH s:=by simp [tH]
 rw[aia (by
  have:=congrArg List.length hb
  rw[List.length_append,zx]at this
  omega),aA,hb,aaw (by omega) (Yj s),aA]
 refine Wq.bind (Q:=fun y=>y=encZ s) ?_ fun y hy=>by rw[au,hy]
 refine oP (n:=4) (by decide) (fun i x=>x=tH s++(qB (wY (tH s))).take i) _ (fun i x hi hj=> ?_) (fun x hj=> ?_) _ 0 (by decide) (by simp)
 ·simp only
  unfold qm
  obtain⟨q1,q2⟩:=Ue (n:=wY (tH s)) hi
  have hx:x.length<=(tH s).length+4:=by
   rw[hj,List.length_append,List.length_take];omega
  rw[aT (EP (by omega)),aT q1,q2,aT (acT (n:=1000000) (by simp [jQ];omega) (by decide)),au]
  refine⟨eF (by omega),?_⟩
  rw[hj]
  exact aix _ hi _
 ·simp only
  unfold qm
  rw[gQ (Gs (by omega)),au,hj]
  rfl
theorem U9 {s:aj} (hr:jX s) (hsh:uF s) (h:¬lZ s):qP s=some ([],1):=by
 unfold qP
 rw[Zi hr hsh h,aA]
 rfl
theorem Ie (n:Int) (l:List Int):p8 (n::l)=p8 [n]++p8 l:=by simp [p8]
theorem OG (n:Int) (l:List Int):p1 (n::l)=p1 [n]++p1 l:=by simp [p1]
theorem Uk (n:Int):p1 [n]=[wr .u8 n]:=by
 rw[aeO]
 show [n / 256^0%256]=_
 have:(256:Int)^0=1:=rfl
 rw[this]
 congr 1
 omega
theorem aoo (a b c:Int):p8 [a,b,c]=p8 [a]++(p8 [b]++p8 [c]):=by rw[Ie,Ie b]
theorem ao0 (a b c d:Int):p1 [a,b,c,d]=[wr .u8 a,wr .u8 b,wr .u8 c,wr .u8 d]:=by
 rw[OG,OG b,OG c,Uk,Uk,Uk,Uk];rfl
def at8 (b:List Int) (i:Nat):Int:=wr .i64 (unZ ((b.drop i).take 8))
def at1 (b:List Int) (i:Nat):Int:=ah b i
theorem acX {b:List Int} {i:Nat} (h:i<b.length):at1 b i=b[i]:=by unfold at1 ah;rw[List.getD_eq_getElem?_getD,List.getElem?_eq_getElem h];rfl
theorem kz {b:List Int} (hb:eP b) (i:Nat):0<=at1 b i/\at1 b i<=255:=by
 by_cases h:i<b.length
 ·rw[acX h];exact hb.get h
 ·unfold at1 ah
  rw[List.getD_eq_getElem?_getD,List.getElem?_eq_none (by omega)]
  decide
theorem Dp (b:List Int) (i:Nat):inI (at8 b i):=am3 _
def rdr (b:List Int) (k:Nat) (od:Bool):eY:=⟨(b.take (b.length - 4)).drop k,od⟩
theorem ajE {b:List Int} {n k m:Nat} (h:k+m<=n):((b.take n).drop k).take m=(b.drop k).take m:=by
 rw[List.drop_take,List.take_take,Nat.min_eq_left (by omega)]
theorem take_one {b:List Int} {k:Nat} (h:k<b.length):(b.drop k).take 1=[at1 b k]:=by
 rw[acX h,List.drop_eq_getElem_cons h];rfl
theorem rd8 {b:List Int} (hb:eP b) {k:Nat} {od:Bool} (h:k+8<=b.length - 4):bV (rdr b k od) 8=some (rdr b (k+8) od,at8 b k):=by
 have:=amw (r:=rdr b k od) (k:=8) (by simp only[rdr,List.length_drop,List.length_take];omega) (by decide) ((hb.take _).drop _)
 rw[show(8:Int)=((8:Nat):Int)from rfl,this]
 simp only[rdr,List.drop_drop,ajE h]
 rfl
theorem rd1 {b:List Int} (hb:eP b) {k:Nat} {od:Bool} (h:k+1<=b.length - 4):gY (rdr b k od)=some (rdr b (k+1) od,at1 b k):=by
 have:=amw (r:=rdr b k od) (k:=1) (by simp only[rdr,List.length_drop,List.length_take];omega) (by decide) ((hb.take _).drop _)
 unfold gY
 rw[show(1:Int)=((1:Nat):Int)from rfl,this,aA]
 simp only[rdr,List.drop_drop,ajE h]
 rw[take_one (by omega)]
 have h1:=kz hb k
 have:wr .i64 (unZ [at1 b k])=at1 b k:=by
  show wr .i64 (0*256+at1 b k)=_
  rw[Int.zero_mul,Int.zero_add,dX h1.1 (by omega)]
 rw[this]
theorem rdf {b:List Int} (hb:eP b) {k:Nat} {od:Bool} (h:k+1<=b.length - 4):ou (rdr b k od)=some (rdr b (k+1) (bor od (ilt 1 (at1 b k))),ieq (at1 b k) 1):=by
 unfold ou
 rw[rd1 hb h,aA]
 rfl
def agc (b:List Int) (k:Nat):aG:=⟨at8 b k,at1 b (k+8),at1 b (k+9),at1 b (k+10),at8 b (k+12),at8 b (k+20),at8 b (k+28),at1 b (k+11),at8 b (k+36),at8 b (k+44),at8 b (k+52),ieq (at1 b (k+60)) 1⟩
theorem rdo {b:List Int} (hb:eP b) {k:Nat} {od:Bool} (h:k+61<=b.length - 4):qj (rdr b k od)=some (rdr b (k+61) (bor od (ilt 1 (at1 b (k+60)))),agc b k):=by
 unfold qj
 rw[rd8 hb (by omega),aA,rd1 hb (by omega),aA,rd1 hb (by omega),aA,rd1 hb (by omega),aA,rd1 hb (by omega),aA,rd8 hb (by omega),aA,rd8 hb (by omega),aA,rd8 hb (by omega),aA,rd8 hb (by omega),aA,rd8 hb (by omega),aA,rd8 hb (by omega),aA,rdf hb (by omega),aA]
 rfl
def Vm {α:Type} [Inhabited α] (f:Nat->α) (i n:Nat):List α:=(List.range i).map f++List.replicate (n - i) default
theorem adG {α:Type} [Inhabited α] (f:Nat->α) {i n:Nat} (h:i<=n):(Vm f i n).length=n:=by
 simp only[Vm,List.length_append,List.length_map,List.length_range,List.length_replicate];omega
theorem adi {α:Type} [Inhabited α] (f:Nat->α) {i n:Nat} (h:i<n):bf (Vm f i n) (itn (i:Int)) (f i)=Vm f (i+1) n:=by
 unfold bf Vm
 rw[qA,List.set_append,if_neg (by simp),List.range_succ,List.map_append]
 have:n - i=(n - (i+1))+1:=by omega
 rw[this,List.replicate_succ]
 simp
theorem akQ {α:Type} [Inhabited α] (f:Nat->α) {i n:Nat} (h:i<n):ah (Vm f i n) (itn (i:Int))=default:=by
 unfold ah Vm
 rw[qA,List.getD_eq_getElem?_getD,List.getElem?_append_right (by simp)]
 have h2:0<n - i:=by omega
 simp [List.getElem?_replicate,h2]
theorem abz {α:Type} [Inhabited α] (f:Nat->α) (n:Nat):Vm f 0 n=ja α n:=by simp [Vm,ja]
theorem aaE {α:Type} [Inhabited α] (f:Nat->α) (n:Nat):Vm f n n=(List.range n).map f:=by simp [Vm]
def nZ (b:List Int) (k:Nat):Nat:=(at1 b k).toNat
theorem LP {b:List Int} (hb:eP b) (k:Nat):(nZ b k:Int)=at1 b k:=by
 have:=kz hb k
 unfold nZ;omega
def agO (b:List Int) (k:Nat):aS:=⟨at8 b k,0,0,0⟩
def ame (b:List Int) (k:Nat):dP:=⟨at8 b k,at8 b (k+8),at8 b (k+16)⟩
def cN (b:List Int):Nat:=nZ b 4*nZ b 5
def off2 (b:List Int):Nat:=32+61*nZ b 7
def PN (b:List Int):Nat:=off2 b+8*cN b
def MX (b:List Int):Nat:=PN b+24*cN b
def EL (b:List Int):List aG:=(List.range (nZ b 7)).map fun i=>agc b (32+61*i)
def CO (b:List Int):List aS:=(List.range (cN b)).map fun i=>agO b (off2 b+8*i)
def Qa (b:List Int):List dP:=(List.range (cN b)).map fun i=>ame b (PN b+24*i)
def Qi (b:List Int):List Int:=(List.range (nZ b 4)).map fun i=>at8 b (MX b+8*i)
def pZ (b:List Int):aj:=⟨at1 b 4,at1 b 5,EL b,CO b,Qa b,Qi b,ieq (at1 b 6) 1,at8 b 8,at8 b 16,at8 b 24⟩
def qW (s:aj):aj:=aod s s.orders
structure wL (b:List Int):Prop where
 many:36<=b.length
 mark:b.take 4=magic
 acc:1<=at1 b 4/\at1 b 4<=8
 sym:1<=at1 b 5/\at1 b 5<=8
 ords:at1 b 7<=64
 just:b.length=MX b+8*nZ b 4+4
def sumP (b:List Int):Prop:=b.drop (b.length - 4)=qB (wY (b.take (b.length - 4)))
def aj7 (b:List Int):Prop:=1<at1 b 6\/∃i,i<nZ b 7/\1<at1 b (32+61*i+60)
def VL (b:List Int):Prop:=¬aj7 b/\lZ (qW (pZ b))
structure aek (b:List Int) (r:aj×Int):Prop where
 form:¬wL b->r=(zS,2)
 sum:wL b->¬sumP b->r=(zS,10)
 bad:wL b->sumP b->¬VL b->r=(zS,2)
 good:wL b->sumP b->VL b->r=(qW (pZ b),0)
theorem aek.uniq {b:List Int} {r r':aj×Int} (h:aek b r) (k:aek b r'):r=r':=by
 by_cases h1:wL b
 ·by_cases h2:sumP b
  ·by_cases h3:VL b
   ·rw[h.good h1 h2 h3,k.good h1 h2 h3]
   ·rw[h.bad h1 h2 h3,k.bad h1 h2 h3]
  ·rw[h.sum h1 h2,k.sum h1 h2]
 ·rw[h.form h1,k.form h1]
theorem wL.nums {b:List Int} (h:wL b):(1<=nZ b 4/\nZ b 4<=8)/\(1<=nZ b 5/\nZ b 5<=8)/\nZ b 7<=64/\cN b<=64:=by
 obtain⟨_,_,h1,h2,h3,_⟩:=h
 have hm:nZ b 4*nZ b 5<=8*8:=Nat.mul_le_mul (by unfold nZ;omega) (by unfold nZ;omega)
 unfold cN
 unfold nZ at hm ⊢
 refine⟨⟨by omega,by omega⟩,⟨by omega,by omega⟩,by omega,hm⟩
theorem wL.cN {b:List Int} (hb:eP b) (h:wL b):(cN b:Int)=at1 b 4*at1 b 5:=by
 unfold Go.Av.cN
 rw[Int.natCast_mul,LP hb,LP hb]
theorem ZB {b:List Int} (hb:eP b) (h:wL b):CB (pZ b):=by
 have hn:=h.nums
 have hc:=h.cN hb
 refine⟨h.acc,h.sym,?_,?_,?_,?_⟩
 ·show((CO b).length:Int)=_
  simp only[CO,List.length_map,List.length_range]
  exact hc
 ·show((Qa b).length:Int)=((CO b).length:Int)
  simp only[CO,Qa,List.length_map,List.length_range]
 ·show((Qi b).length:Int)=at1 b 4
  simp only[Qi,List.length_map,List.length_range,LP hb]
 ·show(EL b).length<=64
  simp only[EL,List.length_map,List.length_range];omega
theorem DX {n:Int} (h:0<=n/\n<=255):inI n:=⟨by omega,by omega⟩
theorem ab7 {b:List Int} (hb:eP b) (k:Nat):oQ (agc b k):=
 ⟨Dp b _,DX (kz hb _),DX (kz hb _),DX (kz hb _),Dp b _,Dp b _,Dp b _,DX (kz hb _),Dp b _,Dp b _,Dp b _⟩
theorem aiv {b:List Int} (hb:eP b) (hf:wL b) {kl:Bool} {l1 l2 l3:Int} {od:Bool} (hod:od=true↔1<at1 b 6):
 Wq (bF (fun v:Int×Int×Int×List aG×List aS×List dP×List Int×Bool×Int×Int×Int×eY=>dR (nZ b 7:Int) v.1 v.2.1 v.2.2.1 v.2.2.2.1 v.2.2.2.2.1 v.2.2.2.2.2.1 v.2.2.2.2.2.2.1 v.2.2.2.2.2.2.2.1 v.2.2.2.2.2.2.2.2.1 v.2.2.2.2.2.2.2.2.2.1 v.2.2.2.2.2.2.2.2.2.2.1 v.2.2.2.2.2.2.2.2.2.2.2) LF
  (0,at1 b 4,at1 b 5,ja aG (nZ b 7),[],[],[],kl,l1,l2,l3,rdr b 32 od)) fun w=>∃od',(od'=true↔aj7 b)/\w=(at1 b 4,at1 b 5,EL b,[],[],[],kl,l1,l2,l3,rdr b (off2 b) od'):=by
 have hn:=hf.nums
 have hj:=hf.just
 unfold MX PN off2 at hj
 refine oP (n:=nZ b 7) (by omega) (fun i x=>∃od',(od'=true↔(1<at1 b 6\/∃j,j<i/\1<at1 b (32+61*j+60)))/\x=(at1 b 4,at1 b 5,Vm (fun i=>agc b (32+61*i)) i (nZ b 7),[],[],[],kl,l1,l2,l3,rdr b (32+61*i) od')) _ ?_ ?_ _ 0 (Nat.zero_le _) ⟨od,?_,?_⟩
 ·rintro i x hi ⟨od',h1,rfl⟩
  simp only
  unfold dR
  rw[aT (EP (by omega)),rdo hb (by omega),aA,aT (inb _ i (by rw[adG _ (by omega)];exact hi)),au]
  refine⟨eF (by omega),bor od' (ilt 1 (at1 b (32+61*i+60))),?_,?_⟩
  ·rw[dZ,h1,eH]
   constructor
   ·rintro((h | ⟨j,h2,h3⟩) | h)
    ·exact .inl h
    ·exact .inr ⟨j,by omega,h3⟩
    ·exact .inr ⟨i,by omega,h⟩
   ·rintro(h | ⟨j,h2,h3⟩)
    ·exact .inl (.inl h)
    ·by_cases hji:j=i
     ·subst hji;exact .inr h3
     ·exact .inl (.inr ⟨j,by omega,h3⟩)
  ·simp only
   rw[adi (fun i=>agc b (32+61*i)) hi]
   rfl
 ·rintro x ⟨od',h1,rfl⟩
  simp only
  unfold dR
  rw[gQ (Gs (by omega)),au,aaE]
  exact⟨od',h1,rfl⟩
 ·rw[hod]
  exact⟨.inl,fun h=>by
   rcases h with h | ⟨j,hj,_⟩
   ·exact h
   ·omega⟩
 ·rw[abz]
theorem akL {b:List Int} (hb:eP b) (hf:wL b) {a y:Int} {os:List aG} {kl:Bool} {l1 l2 l3:Int} {od:Bool}:
 Wq (bF (fun v:Int×Int×Int×List aG×List aS×List dP×List Int×Bool×Int×Int×Int×eY=>dL (cN b:Int) v.1 v.2.1 v.2.2.1 v.2.2.2.1 v.2.2.2.2.1 v.2.2.2.2.2.1 v.2.2.2.2.2.2.1 v.2.2.2.2.2.2.2.1 v.2.2.2.2.2.2.2.2.1 v.2.2.2.2.2.2.2.2.2.1 v.2.2.2.2.2.2.2.2.2.2.1 v.2.2.2.2.2.2.2.2.2.2.2) LF
  (0,a,y,os,ja aS (cN b),[],[],kl,l1,l2,l3,rdr b (off2 b) od)) fun w=>w=(a,y,os,CO b,[],[],kl,l1,l2,l3,rdr b (PN b) od):=by
 have hn:=hf.nums
 have hj:=hf.just
 unfold MX at hj
 refine oP (n:=cN b) (by omega) (fun i x=>x=(a,y,os,Vm (fun i=>agO b (off2 b+8*i)) i (cN b),[],[],kl,l1,l2,l3,rdr b (off2 b+8*i) od)) _ ?_ ?_ _ 0 (Nat.zero_le _) ?_
 ·rintro i x hi rfl
  simp only
  unfold dL
  have:PN b=off2 b+8*cN b:=rfl
  rw[aT (EP (by omega)),rd8 hb (by omega),aA,aT (inb _ i (by rw[adG _ (by omega)];exact hi)),au,akQ _ hi]
  refine⟨eF (by omega),?_⟩
  simp only
  rw[show aS.mk (at8 b (off2 b+8*i)) (default:aS).buy (default:aS).sell (default:aS).opn=(fun i=>agO b (off2 b+8*i)) i from rfl,adi (fun i=>agO b (off2 b+8*i)) hi]
  rfl
 ·rintro x rfl
  simp only
  unfold dL
  rw[gQ (Gs (by omega)),au,aaE]
  rfl
 ·rw[abz];rfl
theorem amk {b:List Int} (hb:eP b) (hf:wL b) {a y:Int} {os:List aG} {cs:List aS} {kl:Bool} {l1 l2 l3:Int} {od:Bool}:
 Wq (bF (fun v:Int×Int×Int×List aG×List aS×List dP×List Int×Bool×Int×Int×Int×eY=>dK (cN b:Int) v.1 v.2.1 v.2.2.1 v.2.2.2.1 v.2.2.2.2.1 v.2.2.2.2.2.1 v.2.2.2.2.2.2.1 v.2.2.2.2.2.2.2.1 v.2.2.2.2.2.2.2.2.1 v.2.2.2.2.2.2.2.2.2.1 v.2.2.2.2.2.2.2.2.2.2.1 v.2.2.2.2.2.2.2.2.2.2.2) LF
  (0,a,y,os,cs,[],[],kl,l1,l2,l3,rdr b (PN b) od)) fun w=>w=(a,y,os,cs,Qa b,[],kl,l1,l2,l3,rdr b (MX b) od):=by
 have hn:=hf.nums
 have hj:=hf.just
 refine oP (n:=cN b) (by omega) (fun i x=>x=(a,y,os,cs,(List.range i).map (fun i=>ame b (PN b+24*i)),[],kl,l1,l2,l3,rdr b (PN b+24*i) od)) _ ?_ ?_ _ 0 (Nat.zero_le _) rfl
 ·rintro i x hi rfl
  simp only
  unfold dK
  have:MX b=PN b+24*cN b:=rfl
  rw[aT (EP (by omega)),rd8 hb (by omega),aA,rd8 hb (by omega),aA,rd8 hb (by omega),aA,aT (acT (n:=1000) (by simp [jQ];omega) (by decide)),au]
  refine⟨eF (by omega),?_⟩
  simp only
  rw[List.range_succ,List.map_append]
  rfl
 ·rintro x rfl
  simp only
  unfold dK
  rw[gQ (Gs (by omega)),au]
  rfl
theorem alN {b:List Int} (hb:eP b) (hf:wL b) {y:Int} {os:List aG} {cs:List aS} {ls:List dP} {kl:Bool} {l1 l2 l3:Int} {od:Bool} (a:Int):
 Wq (bF (fun v:Int×Int×Int×List aG×List aS×List dP×List Int×Bool×Int×Int×Int×eY=>dM (nZ b 4:Int) v.1 v.2.1 v.2.2.1 v.2.2.2.1 v.2.2.2.2.1 v.2.2.2.2.2.1 v.2.2.2.2.2.2.1 v.2.2.2.2.2.2.2.1 v.2.2.2.2.2.2.2.2.1 v.2.2.2.2.2.2.2.2.2.1 v.2.2.2.2.2.2.2.2.2.2.1 v.2.2.2.2.2.2.2.2.2.2.2) LF
  (0,a,y,os,cs,ls,[],kl,l1,l2,l3,rdr b (MX b) od)) fun w=>w=(a,y,os,cs,ls,Qi b,kl,l1,l2,l3,rdr b (MX b+8*nZ b 4) od):=by
 have hn:=hf.nums
 have hj:=hf.just
 refine oP (n:=nZ b 4) (by omega) (fun i x=>x=(a,y,os,cs,ls,(List.range i).map (fun i=>at8 b (MX b+8*i)),kl,l1,l2,l3,rdr b (MX b+8*i) od)) _ ?_ ?_ _ 0 (Nat.zero_le _) rfl
 ·rintro i x hi rfl
  simp only
  unfold dM
  rw[aT (EP (by omega)),rd8 hb (by omega),aA,aT (acT (n:=1000) (by simp [jQ];omega) (by decide)),au]
  refine⟨eF (by omega),?_⟩
  simp only
  rw[List.range_succ,List.map_append]
  rfl
 ·rintro x rfl
  simp only
  unfold dM
  rw[gQ (Gs (by omega)),au]
  rfl
theorem WO {c:aS} {o:aG} (hk:Bf c) (h:¬(okC c/\KI o)):iI c o=some (c,1):=by
 unfold iI
 rw[AO hk,aA]
 by_cases h1:okC c
 ·have h2:¬KI o:=fun h2=>h ⟨h1,h2⟩
  rw[decide_eq_true h1,yN,decide_eq_false h2,dF,dG,cu,aA,dG,aaL,cu]
 ·rw[decide_eq_false h1,dG,dF,bU,aA,dG,uX,cu]
theorem ajz {p:Int} {a b:aS} (hp:inI p) (ha:nnC a) (hb:nnC b) (h:okC (tq ⟨p,0,0,0⟩ (tq a b))):okC (tq ⟨p,0,0,0⟩ a):=by
 obtain⟨hk,_,r1,r2⟩:=h
 have h1:=hk.buy;have h2:=hk.sell;have h3:=hk.opn
 unfold nnC at ha hb
 simp only[tq]at h1 h2 h3 r1 r2
 unfold inI at*
 refine⟨⟨?_,?_,?_,?_⟩,⟨?_,?_,?_⟩,?_,?_⟩<;>simp only[tq,inI]<;>omega
theorem Em {p:aj} (h:lZ (qW p)):∀o∈p.orders,H9 p o:=fun o ho=>by
 have:=h.fine.ords o ho
 exact this
theorem aao {p:aj} (hc:∀c∈p.cells,inI c.pos) (ho:∀o∈p.orders,oQ o) (h:lZ (qW p)) {k:Nat} (hk:k<p.cells.length) (i:Nat):okC (tq ⟨p.cells[k].pos,0,0,0⟩ (wz p.symbols k (p.orders.take i))):=by
 have hin:=Em h
 have hm:(jE p p.orders)[k]'(by rw[nX];exact hk)∈(qW p).cells:=List.getElem_mem _
 have:=h.ok _ hm
 rw[tu]at this
 have e:wz p.symbols k p.orders=tq (wz p.symbols k (p.orders.take i)) (wz p.symbols k (p.orders.drop i)):=by
  rw[<-zG,List.take_append_drop]
 rw[e]at this
 exact ajz (hc _ (List.getElem_mem _)) (OT _ _ fun o h=>⟨(hin o (List.mem_of_mem_take h)).1,ho o (List.mem_of_mem_take h)⟩) (OT _ _ fun o h=>⟨(hin o (List.mem_of_mem_drop h)).1,ho o (List.mem_of_mem_drop h)⟩) this
theorem anh {p:aj} (hs:CB p) (ho:∀o∈p.orders,oQ o/\0<=o.account/\0<=o.symbol) (hc:∀c∈p.cells,inI c.pos/\c=⟨c.pos,0,0,0⟩):
 Wq (bF (fun v:Int×Bool×Int×Int×Unit×Unit×Unit×Unit×Bool×Int×Int×Int×List aG×List aS×List dP×List Int=>gy (len p.orders) v.1 v.2.1 v.2.2.1 v.2.2.2.1 v.2.2.2.2.1 v.2.2.2.2.2.1 v.2.2.2.2.2.2.1 v.2.2.2.2.2.2.2.1 v.2.2.2.2.2.2.2.2.1 v.2.2.2.2.2.2.2.2.2.1 v.2.2.2.2.2.2.2.2.2.2.1 v.2.2.2.2.2.2.2.2.2.2.2.1 v.2.2.2.2.2.2.2.2.2.2.2.2.1 v.2.2.2.2.2.2.2.2.2.2.2.2.2.1 v.2.2.2.2.2.2.2.2.2.2.2.2.2.2.1 v.2.2.2.2.2.2.2.2.2.2.2.2.2.2.2) LF
  (0,false,p.accounts,p.symbols,PUnit.unit,PUnit.unit,PUnit.unit,PUnit.unit,p.kill,p.last,p.seq,p.lsn,p.orders,p.cells,p.limits,p.caps)) fun w=>match w with
  |.inl w=>w.1=false/\¬lZ (qW p)
  |.inr w=>(∀c∈jE p p.orders,Bf c)/\∃f,w=(f,p.accounts,p.symbols,PUnit.unit,PUnit.unit,PUnit.unit,PUnit.unit,p.kill,p.last,p.seq,p.lsn,p.orders,jE p p.orders,p.limits,p.caps):=by
 obtain⟨hcl,_,_,hol⟩:=hs.lens
 refine oP (n:=p.orders.length) (by omega) (fun i x=>∃cs:List aS,x=(false,p.accounts,p.symbols,PUnit.unit,PUnit.unit,PUnit.unit,PUnit.unit,p.kill,p.last,p.seq,p.lsn,p.orders,cs,p.limits,p.caps)/\
  cs.length=p.cells.length/\(∀(j:Nat) (h:j<cs.length) (h':j<p.cells.length),cs[j]=tq ⟨p.cells[j].pos,0,0,0⟩ (wz p.symbols j (p.orders.take i)))/\(∀c∈cs,Bf c)/\∀o∈p.orders.take i,H9 p o\/(KI o/\o.account<p.accounts/\o.symbol<p.symbols)) _ ?_ ?_ _ 0 (Nat.zero_le _) ?_
 ·rintro i x hi ⟨cs,rfl,h1,h2,h3,h4⟩
  simp only
  unfold gy
  rw[Vs p.orders hi,dI _ i hi]
  obtain⟨hor,ha0,hy0⟩:=ho _ (List.getElem_mem hi)
  obtain⟨o,hoe⟩:∃o,o=p.orders[i]:=⟨_,rfl⟩
  have hom:o∈p.orders:=hoe▸List.getElem_mem hi
  rw[<-hoe]at hor ha0 hy0 ⊢
  unfold EY
  simp only
  by_cases hin:o.account<p.accounts/\o.symbol<p.symbols
  ·have hplc:bor (bor (bor (ilt o.account 0) (ile p.accounts o.account)) (ilt o.symbol 0)) (ile p.symbols o.symbol)=false:=by
    simp only[bH,dH,dZ,fE,bM,bQ,eH,fG,dO,fK,bZ,dw,fO,fQ];omega
   have hco:=aeN hs o.account o.symbol ha0 hin.1 hy0 hin.2
   obtain⟨k,hk,hkn⟩:∃k:Nat,(k:Int)=o.account*p.symbols+o.symbol/\k<p.cells.length:=by
    have m:=A7 (a:=o.account) (b:=p.symbols) ha0 (by have:=hs.1.2;omega) (by have:=hs.2.1.1;omega) (by have:=hs.2.1.2;omega)
    have hcc:(p.cells.length:Int)=p.accounts*p.symbols:=hs.2.2.1
    have:o.account*p.symbols+p.symbols<=p.accounts*p.symbols:=by
     have:=Int.mul_le_mul_of_nonneg_right (show o.account+1<=p.accounts by omega) (show 0<=p.symbols by have:=hs.2.1.1;omega)
     rw[Int.add_mul,Int.one_mul]at this
     exact this
    exact⟨(o.account*p.symbols+o.symbol).toNat,by omega,by omega⟩
   have hcell:bg (aj.mk p.accounts p.symbols p.orders cs p.limits p.caps p.kill p.last p.seq p.lsn) o.account o.symbol=some (k:Int):=by
    unfold bg
    simp only
    unfold ak jr
    have m:=A7 (a:=o.account) (b:=p.symbols) ha0 (by have:=hs.1.2;omega) (by have:=hs.2.1.1;omega) (by have:=hs.2.1.2;omega)
    have:=hs.2.1.2
    rw[dX m.1 (by omega),dX (by omega) (by omega),hk]
   have hkc:k<cs.length:=by omega
   rw[hplc,bU,hcell,aA,aA,gQ (by rw[dw];omega),aT (inb cs k hkc),dI _ k hkc]
   have hck:=h2 k hkc hkn
   have hokc:=h3 _ (List.getElem_mem hkc)
   by_cases hbad:okC cs[k]/\KI o
   ·have hcadd:Rh cs[k] o=tq ⟨p.cells[k].pos,0,0,0⟩ (wz p.symbols k (p.orders.take (i+1))):=by
     rw[ab2,hck,List.take_succ_eq_append_getElem hi,zG,X9,YB,<-hoe]
     unfold inC
     rw[if_pos (by unfold atZ;omega)]
    rw[VW hbad.1 hbad.2 hor,aA]
    by_cases hnew:okC (Rh cs[k] o)
    ·rw[if_pos hnew]
     simp only[Ap,dF,bU]
     rw[aT (inb cs k hkc),au]
     refine⟨eF (by omega),_,rfl,by rw[FN];exact h1,fun j hj hj'=> ?_,fun c hcm=> ?_,fun o' ho'=> ?_⟩
     ·rw[Vq]
      split
      ·rename_i e;subst e
       exact hcadd
      ·rename_i e
       rw[h2 j (by rw[FN]at hj;exact hj) hj',List.take_succ_eq_append_getElem hi,zG,X9,<-hoe]
       unfold inC
       rw[if_neg (by unfold atZ;omega),ac0]
     ·unfold bf at hcm
      rcases List.mem_or_eq_of_mem_set hcm with h | h
      ·exact h3 c h
      ·rw[h];exact hnew.1
     ·rcases(Dl hi).1 ho' with h | h
      ·exact h4 o' h
      ·rw[h,<-hoe];exact .inr ⟨hbad.2,hin⟩
    ·rw[if_neg hnew]
     simp only[FW,dG,cu]
     rw[au]
     exact⟨rfl,fun hR=>hnew (by rw[hcadd];exact aao (fun c h=>(hc c h).1) (fun o h=>(ho o h).1) hR hkn (i+1))⟩
   ·rw[WO hokc hbad,aA]
    have:ieq 1 0=false:=rfl
    simp only[this,dG,cu]
    rw[au]
    refine⟨rfl,fun hR=>hbad ⟨?_,(Em hR o hom).1⟩⟩
    rw[hck]
    exact aao (fun c h=>(hc c h).1) (fun o h=>(ho o h).1) hR hkn i
  ·have hplc:bor (bor (bor (ilt o.account 0) (ile p.accounts o.account)) (ilt o.symbol 0)) (ile p.symbols o.symbol)=true:=by
    simp only[bH,dH,dZ,fE,bM,bQ,eH,fG,dO,fK,bZ,dw,fO,fQ];omega
   rw[hplc,cu,aA]
   have:ieq (-1) (-1)=true:=rfl
   rw[this,cu,au]
   exact⟨rfl,fun hR=>hin (Em hR o hom).2.2⟩
 ·rintro x ⟨cs,rfl,h1,h2,h3,h4⟩
  simp only
  unfold gy
  have e:cs=jE p p.orders:=by
   refine List.ext_getElem (by rw[h1,nX]) fun j hj hj'=> ?_
   rw[h2 j hj (by omega),tu,List.take_length]
  rw[Ri,au,<-e]
  exact⟨h3,false,rfl⟩
 ·refine⟨p.cells,rfl,rfl,fun j h h'=> ?_,fun c h=> ?_,fun o h=>by simp at h⟩
  ·have:=(hc _ (List.getElem_mem h)).2
   rw[List.take_zero]
   show _=tq _ zC
   rw[ac0];exact this
  ·obtain⟨h1,h2⟩:=hc c h
   rw[h2]
   exact⟨h1,⟨by simp only;omega,by simp only;omega⟩,⟨by simp only;omega,by simp only;omega⟩,⟨by simp only;omega,by simp only;omega⟩⟩
theorem agS {a b:List Int} (ha:eP a) (hb:eP b):u2s a=u2s b↔a=b:=by
 refine⟨fun h=> ?_,fun h=>by rw[h]⟩
 unfold u2s at h
 have hl:a.length=b.length:=by simpa using congrArg List.length h
 refine List.ext_getElem hl fun i h1 h2=> ?_
 have hi:(a.map fun n=>UInt8.ofNat n.toNat)[i]'(by simpa using h1)=(b.map fun n=>UInt8.ofNat n.toNat)[i]'(by simpa using h2):=by simp only[h]
 simp only[List.getElem_map]at hi
 have b1:=ha.get h1
 have b2:=hb.get h2
 have:=congrArg UInt8.toNat hi
 simp only[UInt8.toNat_ofNat']at this
 omega
theorem akX {t:List Int} (ht:t.length=4) {n:Int}:Wq (bF (fun v:Int×Int×aj=>oC (len t) t n v.1 v.2.1 v.2.2) LF (0,0,zS)) fun w=>match w with
 |.inl w=>t≠qB n/\w=(10,zS)
 |.inr w=>t=qB n:=by
 refine oP (n:=4) (by decide) (fun i x=>x=(0,zS)/\∀(k:Nat) (h:k<t.length) (h':k<(qB n).length),k<i->t[k]=(qB n)[k]) _ ?_ ?_ _ 0 (by decide) ⟨rfl,fun k _ _ h=>by omega⟩
 ·rintro i x hi ⟨rfl,h⟩
  simp only
  unfold oC
  have hit:i<t.length:=by omega
  obtain⟨q1,q2⟩:=Ue (n:=n) hi
  rw[Vs t hit,dI t i hit,aT q1,q2]
  have hti:(qB n)[i]'(by simp [qB];omega)=n / 256^i%256:=aem n hi
  by_cases he:t[i]=n / 256^i%256
  ·rw[gQ (by simp only[bH,dH,dZ,fE,bM,bQ,eH,fG,dO,fK,bZ,dw,fO,fQ];exact he),au]
   refine⟨eF (by omega),rfl,fun k h1 h2 hk=> ?_⟩
   by_cases hki:k=i
   ·subst hki;rw[he,hti]
   ·exact h k h1 h2 (by omega)
  ·rw[aT (by simp only[bH,dH,dZ,fE,bM,bQ,eH,fG,dO,fK,bZ,dw,fO,fQ];exact he),au]
   refine⟨fun hh=>he ?_,rfl⟩
   rw[<-hti]
   simp only[hh]
 ·rintro x ⟨rfl,h⟩
  simp only
  unfold oC
  rw[gQ (Gs (by unfold len;omega)),au]
  exact List.ext_getElem (by rw[ht];rfl) fun k h1 h2=>h k h1 h2 (by omega)
theorem noS:aj.mk 0 0 [] [] [] [] false 0 0 0=zS:=rfl
theorem amd {b:List Int} (hb:eP b) (hf:wL b) (hc:∀c∈jE (pZ b) (pZ b).orders,Bf c):jX (qW (pZ b)):=by
 have hs:=ZB hb hf
 obtain⟨l1,l2,l3,l4⟩:=hs.lens
 have hc8:=Dp b
 refine⟨DX (kz hb _),DX (kz hb _),⟨fun o ho=> ?_,by show(pZ b).orders.length<=_;omega⟩,⟨hc,by show(jE _ _).length<=_;rw[nX];omega⟩,⟨fun x hx=> ?_,by show(pZ b).limits.length<=_;omega⟩,⟨fun x hx=> ?_,?_⟩,hc8 _,hc8 _,hc8 _⟩
 ·obtain⟨i,_,rfl⟩:=List.mem_map.1 (show o∈EL b from ho)
  exact ab7 hb _
 ·obtain⟨i,_,rfl⟩:=List.mem_map.1 (show x∈Qa b from hx)
  exact⟨hc8 _,hc8 _,hc8 _⟩
 ·obtain⟨i,_,rfl⟩:=List.mem_map.1 (show x∈Qi b from hx)
  exact hc8 _
 ·have:=hf.nums
  show(pZ b).caps.length<=_
  rw[l3]
  have:=hf.acc
  have e:(pZ b).accounts=at1 b 4:=rfl
  omega
theorem Xu {b:List Int} (hb:eP b) (hf:wL b):uF (qW (pZ b)):=by
 have hs:=ZB hb hf
 obtain⟨l1,l2,l3,l4⟩:=hs.lens
 have:=hf.acc
 have e:(pZ b).accounts=at1 b 4:=rfl
 refine⟨?_,?_,?_,?_⟩
 ·show(pZ b).orders.length<_;omega
 ·show(jE _ _).length<_;rw[nX];omega
 ·show(pZ b).limits.length<_;omega
 ·show(pZ b).caps.length<_;omega
theorem ahe {b:List Int} (hb:eP b):∀o∈(pZ b).orders,oQ o/\0<=o.account/\0<=o.symbol:=fun o ho=>by
 obtain⟨i,_,rfl⟩:=List.mem_map.1 (show o∈EL b from ho)
 exact⟨ab7 hb _,(kz hb _).1,(kz hb _).1⟩
theorem ad6 {b:List Int}:∀c∈(pZ b).cells,inI c.pos/\c=⟨c.pos,0,0,0⟩:=fun c hc=>by
 obtain⟨i,_,rfl⟩:=List.mem_map.1 (show c∈CO b from hc)
 exact⟨Dp b _,rfl⟩
theorem ace {n:Int} (h:0<=n/\n<=255):wr .i64 n=n:=dX h.1 (by omega)
theorem Sl {b:List Int} (hb:eP b) (hl:b.length<99999):Wq (qM b) (aek b):=by
 have r4:=kz hb 4;have r5:=kz hb 5;have r7:=kz hb 7
 have e4:ah b 4=at1 b 4:=rfl
 have e5:ah b 5=at1 b 5:=rfl
 have e7:ah b 7=at1 b 7:=rfl
 have et:aB b 4=b.take 4:=rfl
 have em:[UInt8.ofNat 115,UInt8.ofNat 110,UInt8.ofNat 97,UInt8.ofNat 102]=u2s magic:=by decide
 have notForm:¬wL b->Wq (some (zS,(2:Int))) (aek b):=fun h=>(au _).2 ⟨fun _=>rfl,fun h'=>absurd h' h,fun h'=>absurd h' h,fun h'=>absurd h' h⟩
 unfold qM
 rw[noS,e4,e5,e7,et,em,ace r4,ace r5,ace r7]
 have c0:bor (ile 4 (len b)) (aC (aC (ilt (len b) 36)))=true:=by
  simp only[bH,dH,dZ,fE,bM,bQ,eH,fG,dO,fK,bZ,dw,fO,fQ];omega
 rw[aT c0]
 by_cases h36:b.length<36\/b.take 4≠magic
 ·rw[aT (b:=bor _ _) (by
   simp only[bH,dH,dZ,fE,bM,bQ,eH,fG,dO,fK,bZ,dw,fO,fQ,ai9,ne_eq,agS (hb.take 4) Qv]
   unfold len
   rcases h36 with h | h
   ·exact .inl (by omega)
   ·exact .inr h)]
  exact notForm fun hf=>by
   rcases h36 with h | h
   ·have:=hf.many;omega
   ·exact h hf.mark
 have h36':36<=b.length/\b.take 4=magic:=⟨by omega,by simpa using fun h=>h36 (.inr h)⟩
 rw[gQ (b:=bor _ _) (by
  simp only[bH,dH,dZ,fE,bM,bQ,eH,fG,dO,fK,bZ,dw,fO,fQ,aiZ,agS (hb.take 4) Qv]
  unfold len
  exact⟨by omega,h36'.2⟩),aT (EP (by unfold len;omega)),aT (EP (by unfold len;omega)),aT (EP (by unfold len;omega))]
 by_cases hdim:(1<=at1 b 4/\at1 b 4<=8)/\(1<=at1 b 5/\at1 b 5<=8)/\at1 b 7<=64
 case neg=>
  have hd:bor (bor (bor (bor (ilt (at1 b 4) 1) (ilt 8 (at1 b 4))) (ilt (at1 b 5) 1)) (ilt 8 (at1 b 5))) (ilt 64 (at1 b 7))=true:=by
   simp only[bH,dH,dZ,fE,bM,bQ,eH,fG,dO,fK,bZ,dw,fO,fQ];omega
  rw[hd,dF,bU,aA,uX,cu]
  exact notForm fun hf=>hdim ⟨hf.acc,hf.sym,hf.ords⟩
 have hd:bor (bor (bor (bor (ilt (at1 b 4) 1) (ilt 8 (at1 b 4))) (ilt (at1 b 5) 1)) (ilt 8 (at1 b 5))) (ilt 64 (at1 b 7))=false:=by
  simp only[bH,dH,dZ,fE,bM,bQ,eH,fG,dO,fK,bZ,dw,fO,fQ];omega
 rw[hd,dG,cu,Zt hdim.1 hdim.2.1 ⟨r7.1,r7.2⟩,aA,lS]
 have hcN:((cN b:Nat):Int)=at1 b 4*at1 b 5:=by
  unfold cN
  rw[Int.natCast_mul,LP hb,LP hb]
 have n4:=LP hb 4;have n7:=LP hb 7
 by_cases hj:b.length=MX b+8*nZ b 4+4
 case neg=>
  rw[aT (b:=aC _) (by
   simp only[bH,dH,dZ,fE,bM,bQ,eH,fG,dO,fK,bZ,dw,fO,fQ]
   unfold len
   unfold MX PN off2 at hj
   omega)]
  exact notForm fun hf=>hj hf.just
 have hf:wL b:=⟨h36'.1,h36'.2,hdim.1,hdim.2.1,hdim.2.2,hj⟩
 rw[gQ (b:=aC _) (by
  simp only[bH,dH,dZ,fE,bM,bQ,eH,fG,dO,fK,bZ,dw,fO,fQ]
  unfold len
  unfold MX PN off2 at hj
  omega)]
 have hsub:wr .i64 (aF (len b) 4)=((b.length - 4:Nat):Int):=by
  unfold aF len
  rw[dX (by omega) (by omega)];omega
 rw[hsub,aT (GU (oU (by omega)) (oU (by unfold len;omega))),aT (GU (oU (by omega)) (oU (by unfold len;omega))),qA]
 have el:aB b (b.length - 4)=b.take (b.length - 4):=rfl
 have ed:aH b (b.length - 4)=b.drop (b.length - 4):=rfl
 rw[el,ed,aaw (by rw[List.length_take];omega) (hb.take _),aA]
 refine(akX (t:=b.drop (b.length - 4)) (n:=wY (b.take (b.length - 4))) (by rw[List.length_drop];omega)).bind fun w hw=> ?_
 match w,hw with
 |.inl w,hw=>
  obtain⟨h1,rfl⟩:=hw
  show Wq (some (zS,(10:Int))) (aek b)
  exact(au _).2 ⟨fun h=>absurd hf h,fun _ _=>rfl,fun _ h=>absurd h h1,fun _ h=>absurd h h1⟩
 |.inr w,hw=>
  have hsum:sumP b:=hw
  simp only[qf]
  have hrd:eY.mk (aH (b.take (b.length - 4)) 4) false=rdr b 4 false:=rfl
  have hnn:=hf.nums
  have hlen:32<=b.length - 4:=by
   unfold MX PN off2 at hj;omega
  rw[aT (oU (by unfold len;rw[List.length_take];omega)),hrd,rd1 hb (by omega),aA,rd1 hb (by omega),aA,rdf hb (by omega),aA,rd1 hb (by omega),aA]
  simp only
  have e71:at1 b (4+1+1+1)=at1 b 7:=rfl
  rw[e71]
  rw[aT (GU (GU (oU r7.1) (oU (Int.le_refl _))) (oU (by omega))),rd8 hb (by omega),aA,rd8 hb (by omega),aA,rd8 hb (by omega),aA]
  simp only
  have e8:itn (at1 b 7)=nZ b 7:=rfl
  have e9:len (ja aG (nZ b 7))=(nZ b 7:Int):=by simp [len,ja]
  rw[e8,e9]
  refine(aiv hb hf (od:=bor false (ilt 1 (at1 b 6))) (by rw[lS,eH])).bind fun y11 h11=> ?_
  obtain⟨od,hod,rfl⟩:=h11
  simp only
  have m:=A7 (a:=at1 b 4) (b:=at1 b 5) r4.1 (by omega) r5.1 (by omega)
  have hm:wr .i64 (jr (at1 b 4) (at1 b 5))=(cN b:Int):=by
   unfold jr
   rw[dX m.1 (by omega),hcN]
  rw[hm,aT (GU (GU (oU (by omega)) (oU (Int.le_refl _))) (oU (by omega))),qA]
  have e10:len (ja aS (cN b))=(cN b:Int):=by simp [len,ja]
  rw[e10]
  refine(akL hb hf).bind fun y12 h12=> ?_
  subst h12
  simp only
  have e11:len (CO b)=(cN b:Int):=by simp [len,CO]
  rw[e11]
  refine(amk hb hf).bind fun y13 h13=> ?_
  subst h13
  simp only
  rw[<-n4]
  refine(alN hb hf (nZ b 4:Int)).bind fun y14 h14=> ?_
  subst h14
  simp only[rdr]
  rw[n4]
  have bad2:¬VL b->Wq (some (zS,(2:Int))) (aek b):=fun h=>(au _).2 ⟨fun h'=>absurd hf h',fun _ h'=>absurd hsum h',fun _ _ _=>rfl,fun _ _ h'=>absurd h' h⟩
  cases od with
  |true=>
   rw[dF,bU,uX,dF,bU,aA,uX,cu]
   exact bad2 fun hg=>hg.1 (hod.1 rfl)
  |false=>
   rw[dG,cu]
   have hno:¬aj7 b:=fun h=>by have:=hod.2 h;cases this
   refine(anh (p:=pZ b) (ZB hb hf) (ahe hb) ad6).bind fun w hw=> ?_
   match w,hw with
   |.inl w,hw=>
    obtain⟨h1,h2⟩:=hw
    simp only[qf]
    rw[h1,dG,lS,dF,bU,aA,uX,cu]
    exact bad2 fun hg=>h2 hg.2
   |.inr w,hw=>
    obtain⟨h1,f,rfl⟩:=hw
    simp only[qf]
    rw[lS,dG,cu]
    have hsh:=Xu hb hf
    refine(ET (qW (pZ b)) (amd hb hf h1) hsh.1 hsh.2.2.1 hsh.2.2.2).bind fun y hy=> ?_
    cases y with
    |false=>
     rw[lS,dG,cu]
     exact bad2 fun hg=>by have:=hy.2 hg.2;cases this
    |true=>
     rw[lS,dF,bU,au]
     exact⟨fun h=>absurd hf h,fun _ h=>absurd hsum h,fun _ _ h=>absurd ⟨hno,hy.1 rfl⟩ h,fun _ _ _=>rfl⟩
def sl (b:List Int) (k m:Nat):List Int:=(b.drop k).take m
theorem Yh (b:List Int) (k m n:Nat):sl b k (m+n)=sl b k m++sl b (k+m) n:=by
 unfold sl
 rw[List.take_add,List.drop_drop]
theorem anJ {b:List Int} {k m:Nat} (h:k+m<=b.length):(sl b k m).length=m:=by
 unfold sl;rw[List.length_take,List.length_drop];omega
theorem GY {b:List Int} (hb:eP b) {k:Nat} (h:k+8<=b.length):p8 [at8 b k]=sl b k 8:=by
 have h8:=afm (l:=sl b k 8) ((hb.drop k).take 8) (anJ h)
 have e:p8 [at8 b k]=rU (at8 b k) 8:=by simp [p8]
 rw[e];exact h8
theorem RJ {b:List Int} (hb:eP b) {k:Nat} (h:k+1<=b.length):p1 [at1 b k]=sl b k 1:=by
 have r:=kz hb k
 unfold sl
 rw[Uk,take_one (by omega),aeO,Int.emod_eq_of_lt r.1 (by omega)]
theorem aoZ (a b c d e f:Int):p8 [a,b,c,d,e,f]=p8 [a]++(p8 [b]++(p8 [c]++(p8 [d]++(p8 [e]++p8 [f])))):=by
 rw[Ie,Ie b,Ie c,Ie d,Ie e]
theorem amu (a b c d:Int):p1 [a,b,c,d]=p1 [a]++(p1 [b]++(p1 [c]++p1 [d])):=by
 rw[OG,OG b,OG c]
theorem akc {n:Int} (h:0<=n) (h2:¬1<n):MN (ieq n 1)=n:=by
 by_cases h1:n=1
 ·subst h1;rfl
 ·have:n=0:=by omega
  subst this;rfl
theorem ahS {b:List Int} (hb:eP b) {k:Nat} (h:k+61<=b.length) (ho:¬1<at1 b (k+60)):jS (agc b k)=sl b k 61:=by
 unfold jS agc
 simp only
 rw[aoZ,amu,akc (kz hb _).1 ho,GY hb (by omega),RJ hb (by omega),RJ hb (by omega),RJ hb (by omega),RJ hb (by omega),GY hb (by omega),GY hb (by omega),GY hb (by omega),GY hb (by omega),GY hb (by omega),GY hb (by omega),RJ hb (by omega)]
 rw[show 61=8+((1+(1+(1+1)))+((8+(8+(8+(8+(8+8)))))+1))from rfl]
 simp only[Yh,Nat.add_assoc]
 simp only[List.append_assoc,Nat.reduceAdd]
theorem alQ {b:List Int} (hb:eP b) {k:Nat} (h:k+24<=b.length):UH (ame b k)=sl b k 24:=by
 unfold UH ame
 simp only
 rw[aoo,GY hb (by omega),GY hb (by omega),GY hb (by omega),show 24=8+(8+8)from rfl]
 simp only[Yh,Nat.add_assoc]
theorem TM {b:List Int} {g:Nat->List Int} {o m:Nat}:∀(n:Nat),(∀i,i<n->g i=sl b (o+m*i) m)->(List.range n).flatMap g=sl b o (m*n)
 |0,_=>by simp [sl]
 |n+1,h=>by
  rw[List.range_succ,List.flatMap_append,TM n fun i hi=>h i (by omega),Nat.mul_add,Nat.mul_one,Yh]
  simp only[List.flatMap_cons,List.flatMap_nil,List.append_nil]
  rw[h n (by omega)]
theorem FD (l:List aS):l.flatMap DN=p8 (l.map (·.pos)):=by
 induction l with
 |nil=>rfl
 |cons c l ih=>rw[List.flatMap_cons,List.map_cons,Ie,ih];rfl
theorem abK (s:aj) (l:List aG):(jE s l).map (·.pos)=s.cells.map (·.pos):=by
 refine List.ext_getElem (by simp [jE]) fun i h1 h2=> ?_
 rw[List.getElem_map,List.getElem_map]
 exact mk_pos s l i (by simpa using h1)
theorem ahF {b:List Int} (hb:eP b) (hf:wL b) (hs:sumP b) (ho:¬aj7 b):encZ (qW (pZ b))=b:=by
 have hn:=hf.nums
 have hj:=hf.just
 have n4:=LP hb 4;have n7:=LP hb 7
 have ho6:¬1<at1 b 6:=fun h=>ho (.inl h)
 have hoi:∀i,i<nZ b 7->¬1<at1 b (32+61*i+60):=fun i hi h=>ho (.inr ⟨i,hi,h⟩)
 have h2:off2 b=32+61*nZ b 7:=rfl
 have h3:PN b=off2 b+8*cN b:=rfl
 have h4:MX b=PN b+24*cN b:=rfl
 have hhead:headB (qW (pZ b))=sl b 0 32:=by
  unfold headB
  show magic++(p1 [at1 b 4,at1 b 5,MN (ieq (at1 b 6) 1),len (EL b)]++p8 [at8 b 8,at8 b 16,at8 b 24])=_
  have hlen:len (EL b)=at1 b 7:=by
   unfold len EL
   rw[List.length_map,List.length_range,n7]
  rw[hlen,akc (kz hb _).1 ho6,amu,aoo,RJ hb (by omega),RJ hb (by omega),RJ hb (by omega),RJ hb (by omega),GY hb (by omega),GY hb (by omega),GY hb (by omega)]
  rw[show 32=4+((1+(1+(1+1)))+(8+(8+8)))from rfl]
  simp only[Yh,Nat.add_assoc,Nat.zero_add]
  have:sl b 0 4=magic:=by unfold sl;rw[List.drop_zero];exact hf.mark
  rw[this]
  simp only[List.append_assoc,Nat.reduceAdd]
 have ho2:(qW (pZ b)).orders.flatMap jS=sl b 32 (61*nZ b 7):=by
  show(EL b).flatMap jS=_
  unfold EL
  rw[List.flatMap_map]
  exact TM _ fun i hi=>ahS hb (by omega) (hoi i hi)
 have hc2:(qW (pZ b)).cells.flatMap DN=sl b (off2 b) (8*cN b):=by
  show(jE (pZ b) (pZ b).orders).flatMap DN=_
  rw[FD,abK,<-FD]
  show(CO b).flatMap DN=_
  unfold CO
  rw[List.flatMap_map]
  exact TM _ fun i hi=>GY hb (by omega)
 have hl2:(qW (pZ b)).limits.flatMap UH=sl b (PN b) (24*cN b):=by
  show(Qa b).flatMap UH=_
  unfold Qa
  rw[List.flatMap_map]
  exact TM _ fun i hi=>alQ hb (by omega)
 have hk2:p8 (qW (pZ b)).caps=sl b (MX b) (8*nZ b 4):=by
  show p8 (Qi b)=_
  unfold Qi p8
  rw[List.flatMap_map]
  refine TM _ fun i hi=> ?_
  have:=GY hb (k:=MX b+8*i) (by omega)
  rw[<-this];simp [p8]
 have hbody:tH (qW (pZ b))=b.take (b.length - 4):=by
  unfold tH
  rw[hhead,ho2,hc2,hl2,hk2]
  have e:b.length - 4=32+(61*nZ b 7+(8*cN b+(24*cN b+8*nZ b 4))):=by omega
  have:sl b 0 (b.length - 4)=b.take (b.length - 4):=by unfold sl;rw[List.drop_zero]
  rw[<-this,e]
  simp only[Yh,Nat.zero_add]
  rw[<-h2,<-h3,<-h4]
 unfold encZ
 rw[hbody,<-hs,List.take_append_drop]
theorem ahx {a b:Int} (ha:inI a) (hb:inI b) (h:rU a 8=rU b 8):a=b:=by rw[<-agp ha,h,agp hb]
def b1 (n:Int):Prop:=0<=n/\n<=255
theorem aht {a b:Int} (ha:b1 a) (hb:b1 b) (h:rU a 1=rU b 1):a=b:=by
 unfold b1 at ha hb
 rw[<-amJ ha.1 (by omega),h,amJ hb.1 (by omega)]
theorem NC {α:Type} {f:α->List Int} {m:Nat} (hm:∀x,(f x).length=m) {P:α->Prop} (hi:∀x y,P x->P y->f x=f y->x=y):∀ {l k:List α},l.length=k.length->(∀x∈l,P x)->(∀x∈k,P x)->l.flatMap f=k.flatMap f->l=k
 |[],[],_,_,_,_=>rfl
 |[],_::_,h,_,_,_=>by cases h
 |_::_,[],h,_,_,_=>by cases h
 |x::l,y::k,h,h1,h2,he=>by
  rw[List.flatMap_cons,List.flatMap_cons]at he
  obtain⟨e1,e2⟩:=List.append_inj he (by rw[hm,hm])
  rw[hi x y (h1 x (by simp)) (h2 y (by simp)) e1,NC hm hi (by simpa using h) (fun z hz=>h1 z (by simp [hz])) (fun z hz=>h2 z (by simp [hz])) e2]
theorem UZ {l k:List Int} (h:l.length=k.length) (h1:∀x∈l,inI x) (h2:∀x∈k,inI x) (he:p8 l=p8 k):l=k:=
 NC (P:=inI) (fun x=>ru x 8) (fun x y hx hy h=>ahx hx hy h) h h1 h2 he
theorem afv {l k:List Int} (h:l.length=k.length) (h1:∀x∈l,b1 x) (h2:∀x∈k,b1 x) (he:p1 l=p1 k):l=k:=
 NC (P:=b1) (fun x=>ru x 1) (fun x y hx hy h=>aht hx hy h) h h1 h2 he
def b1O (o:aG):Prop:=oQ o/\b1 o.account/\b1 o.symbol/\b1 o.side/\b1 o.phase
theorem aez {a b:Bool} (h:MN a=MN b):a=b:=by cases a<;>cases b<;>first | rfl | (exact absurd h (by decide))
theorem Pj (a:Bool):b1 (MN a):=by cases a<;>(unfold b1 MN;decide)
theorem alF {P:Int->Prop} {a b c d:Int} (h1:P a) (h2:P b) (h3:P c) (h4:P d):∀x∈[a,b,c,d],P x:=fun x hx=>by
 simp only[List.mem_cons,List.not_mem_nil,or_false]at hx
 rcases hx with rfl | rfl | rfl | rfl<;>assumption
theorem aoV {P:Int->Prop} {a b c d e f:Int} (h1:P a) (h2:P b) (h3:P c) (h4:P d) (h5:P e) (h6:P f):∀x∈[a,b,c,d,e,f],P x:=fun x hx=>by
 simp only[List.mem_cons,List.not_mem_nil,or_false]at hx
 rcases hx with rfl | rfl | rfl | rfl | rfl | rfl<;>assumption
theorem ak4 {P:Int->Prop} {a b c:Int} (h1:P a) (h2:P b) (h3:P c):∀x∈[a,b,c],P x:=fun x hx=>by
 simp only[List.mem_cons,List.not_mem_nil,or_false]at hx
 rcases hx with rfl | rfl | rfl<;>assumption
theorem all1 {P:Int->Prop} {a:Int} (h1:P a):∀x∈[a],P x:=fun x hx=>by
 simp only[List.mem_cons,List.not_mem_nil,or_false]at hx
 rw[hx];exact h1
theorem af7 {o p:aG} (ho:b1O o) (hp:b1O p) (h:jS o=jS p):o=p:=by
 unfold jS at h
 obtain⟨⟨a1,_,_,_,a2,a3,a4,_,a5,a6,a7⟩,a8,a9,a10,a11⟩:=ho
 obtain⟨⟨c1,_,_,_,c2,c3,c4,_,c5,c6,c7⟩,c8,c9,c10,c11⟩:=hp
 obtain⟨e1,h⟩:=List.append_inj h (by rw[zx,zx];rfl)
 obtain⟨e2,h⟩:=List.append_inj h (by rw[GX,GX];rfl)
 obtain⟨e3,h⟩:=List.append_inj h (by rw[zx,zx];rfl)
 have e1:=UZ (by rfl) (all1 a1) (all1 c1) e1
 have e2:=afv (by rfl) (alF a8 a9 a10 a11) (alF c8 c9 c10 c11) e2
 have e3:=UZ (by rfl) (aoV a2 a3 a4 a5 a6 a7) (aoV c2 c3 c4 c5 c6 c7) e3
 have e4:=afv (by rfl) (all1 (Pj _)) (all1 (Pj _)) h
 simp only[List.cons.injEq,and_true]at e1 e2 e3 e4
 exact(aa4 o p).1 ⟨e1,e2.1,e2.2.1,e2.2.2.1,e3.1,e3.2.1,e3.2.2.1,e2.2.2.2,e3.2.2.2.1,e3.2.2.2.2.1,e3.2.2.2.2.2,aez e4⟩
structure B1S (s:aj):Prop where
 ok:jX s
 acc:b1 s.accounts
 sym:b1 s.symbols
 many:b1 (len s.orders)
 ords:∀o∈s.orders,b1O o
structure agy (s t:aj):Prop where
 acc:s.accounts=t.accounts
 sym:s.symbols=t.symbols
 ords:s.orders=t.orders
 pos:s.cells.map (·.pos)=t.cells.map (·.pos)
 lims:s.limits=t.limits
 caps:s.caps=t.caps
 kill:s.kill=t.kill
 last:s.last=t.last
 seq:s.seq=t.seq
 lsn:s.lsn=t.lsn
theorem ak9 {s t:aj} (hs:B1S s) (ht:B1S t) (h1:s.orders.length=t.orders.length) (h2:s.cells.length=t.cells.length) (h3:s.limits.length=t.limits.length) (h4:s.caps.length=t.caps.length) (h:encZ s=encZ t):agy s t:=by
 unfold encZ at h
 have hb:=(List.append_inj h (by rw[J6,J6,h1,h2,h3,h4])).1
 unfold tH at hb
 obtain⟨hh,hb⟩:=List.append_inj hb (by rw[FB,FB])
 obtain⟨ho,hb⟩:=List.append_inj hb (by rw[flat_length mO,flat_length mO,h1])
 obtain⟨hc,hb⟩:=List.append_inj hb (by rw[flat_length JF,flat_length JF,h2])
 obtain⟨hl,hk⟩:=List.append_inj hb (by rw[flat_length Nr,flat_length Nr,h3])
 unfold headB at hh
 obtain⟨hp,hq⟩:=List.append_inj (List.append_cancel_left hh) (by rw[GX,GX];rfl)
 have e1:=afv (by rfl) (alF hs.acc hs.sym (Pj _) hs.many) (alF ht.acc ht.sym (Pj _) ht.many) hp
 have e2:=UZ (by rfl) (ak4 hs.ok.last hs.ok.seq hs.ok.lsn) (ak4 ht.ok.last ht.ok.seq ht.ok.lsn) hq
 simp only[List.cons.injEq,and_true]at e1 e2
 rw[FD,FD]at hc
 refine⟨e1.1,e1.2.1,NC mO (fun x y hx hy h=>af7 hx hy h) h1 hs.ords ht.ords ho,UZ (by simp [h2]) (fun x hx=> ?_) (fun x hx=> ?_) hc,?_,UZ h4 hs.ok.caps.1 ht.ok.caps.1 hk,aez e1.2.2.1,e2.1,e2.2.1,e2.2.2⟩
 ·obtain⟨c,h5,rfl⟩:=List.mem_map.1 hx
  exact(hs.ok.cells.1 c h5).pos
 ·obtain⟨c,h5,rfl⟩:=List.mem_map.1 hx
  exact(ht.ok.cells.1 c h5).pos
 ·refine NC (P:=acw) Nr (fun x y hx hy h=> ?_) h3 hs.ok.limits.1 ht.ok.limits.1 hl
  have:=UZ (by rfl) (ak4 hx.long hx.short hx.opn) (ak4 hy.long hy.short hy.opn) h
  simp only[List.cons.injEq,and_true]at this
  exact(aee x y).1 this
theorem flat_get {α:Type} {f:α->List Int} {m:Nat} (hm:∀x,(f x).length=m):∀(l:List α) (i:Nat) (h:i<l.length),((l.flatMap f).drop (m*i)).take m=f l[i]
 |[],i,h=>by simp at h
 |x::l,0,h=>by
  rw[List.flatMap_cons,Nat.mul_zero,List.drop_zero,List.take_append_of_le_length (by rw[hm];exact Nat.le_refl _),List.take_of_length_le (by rw[hm];exact Nat.le_refl _)]
  rfl
 |x::l,i+1,h=>by
  have e:(f x++l.flatMap f).drop (m*(i+1))=(l.flatMap f).drop (m*i):=by
   rw[List.drop_append,List.drop_of_length_le (by rw[hm,Nat.mul_succ];omega),List.nil_append,hm]
   congr 1
   rw[Nat.mul_succ];omega
  rw[List.flatMap_cons,e]
  exact flat_get hm l i (by simpa using h)
theorem akP (s:aj):∃r,encZ s=[115,110,97,102,wr .u8 s.accounts,wr .u8 s.symbols,wr .u8 (MN s.kill),wr .u8 (len s.orders)]++r:=by
 refine⟨p8 [s.last,s.seq,s.lsn]++(s.orders.flatMap jS++(s.cells.flatMap DN++(s.limits.flatMap UH++p8 s.caps)))++qB (wY (tH s)),?_⟩
 unfold encZ
 conv=>lhs;arg 1;rw[tH,headB,ao0,magic]
 simp
theorem aew {n:Int} (h:b1 n):wr .u8 n=n:=by
 unfold b1 at h
 rw[aeO,Int.emod_eq_of_lt h.1 (by omega)]
theorem aeY {s:aj} (hr:jX s) (h:lZ s):B1S s:=by
 obtain⟨f1,f2,f3,f4,f5,f6,f7,f8⟩:=h.few
 refine⟨hr,⟨by omega,by omega⟩,⟨by omega,by omega⟩,⟨by unfold len;omega,by unfold len;omega⟩,fun o ho=> ?_⟩
 obtain⟨hp,_,_,_⟩:=h.fine.ords o ho
 have hb:=hp.1
 unfold UA at hb
 have hph:o.phase=1\/o.phase=2\/o.phase=3:=by
  have:=hp.2.2.2.2.2
  revert this
  by_cases q1:o.phase=1
  ·exact fun _=> .inl q1
  ·by_cases q2:o.phase=2
   ·exact fun _=> .inr (.inl q2)
   ·intro this
    have:o.phase=3:=by
     simp_all
    exact .inr (.inr this)
 exact⟨hr.orders.1 o ho,⟨by omega,by omega⟩,⟨by omega,by omega⟩,⟨by omega,by omega⟩,⟨by omega,by omega⟩⟩
theorem Yk {s:aj} (hr:jX s) (h:lZ s):wL (encZ s)/\sumP (encZ s)/\¬aj7 (encZ s)/\at1 (encZ s) 4=s.accounts/\at1 (encZ s) 5=s.symbols/\nZ (encZ s) 7=s.orders.length/\cN (encZ s)=s.cells.length/\nZ (encZ s) 4=s.caps.length:=by
 obtain⟨f1,f2,f3,f4,f5,f6,f7,f8⟩:=h.few
 have hb:=aeY hr h
 obtain⟨r,he⟩:=akP s
 rw[aew hb.acc,aew hb.sym,aew (Pj _),aew hb.many]at he
 have a4:at1 (encZ s) 4=s.accounts:=by rw[he];rfl
 have a5:at1 (encZ s) 5=s.symbols:=by rw[he];rfl
 have a6:at1 (encZ s) 6=MN s.kill:=by rw[he];rfl
 have a7:at1 (encZ s) 7=len s.orders:=by rw[he];rfl
 have n4:nZ (encZ s) 4=s.caps.length:=by unfold nZ;rw[a4,f4]
 have n7:nZ (encZ s) 7=s.orders.length:=by unfold nZ;rw[a7];unfold len;omega
 have hc:cN (encZ s)=s.cells.length:=by
  have:((cN (encZ s):Nat):Int)=s.accounts*s.symbols:=by
   unfold cN
   rw[Int.natCast_mul,LP (zT s),LP (zT s),a4,a5]
  omega
 have hlen:=JO s
 have hbl:=J6 s
 refine⟨⟨by omega,?_,by omega,by omega,by rw[a7];unfold len;omega,?_⟩,?_,?_,a4,a5,n7,hc,n4⟩
 ·rw[he];rfl
 ·unfold MX PN off2
  rw[n4,n7,hc];omega
 ·unfold sumP
  have e:(encZ s).length - 4=(tH s).length:=by omega
  rw[e]
  have d:(encZ s).drop (tH s).length=qB (wY (tH s)):=by
   unfold encZ
   rw[List.drop_append_of_le_length (Nat.le_refl _),List.drop_of_length_le (Nat.le_refl _),List.nil_append]
  have t:(encZ s).take (tH s).length=tH s:=by
   unfold encZ
   rw[List.take_append_of_le_length (Nat.le_refl _),List.take_of_length_le (Nat.le_refl _)]
  rw[d,t]
 ·rintro(h1 | ⟨i,hi,h1⟩)
  ·rw[a6]at h1
   have:=ad9 s.kill
   omega
  ·rw[n7]at hi
   have hlt:32+61*i+60<(encZ s).length:=by omega
   have hg:((s.orders.flatMap jS).drop (61*i)).take 61=jS s.orders[i]:=flat_get mO s.orders i hi
   have hsp:encZ s=headB s++(s.orders.flatMap jS++((s.cells.flatMap DN++(s.limits.flatMap UH++p8 s.caps))++qB (wY (tH s)))):=by
    unfold encZ
    conv=>lhs;arg 1;rw[tH]
    simp only[List.append_assoc]
   have hol:(s.orders.flatMap jS).length=61*s.orders.length:=flat_length mO _
   have hbyte:(encZ s)[32+61*i+60]=(jS s.orders[i])[60]'(by rw[mO];decide):=by
    have h60:(jS s.orders[i])[60]? =some ((jS s.orders[i])[60]'(by rw[mO];decide)):=List.getElem?_eq_getElem _
    have h61:(encZ s)[32+61*i+60]? =(jS s.orders[i])[60]? :=by
     rw[<-hg,List.getElem?_take,if_pos (by decide),List.getElem?_drop,hsp,List.getElem?_append_right (by rw[FB];omega),FB,List.getElem?_append_left (by omega)]
     congr 1;omega
    rw[h60,List.getElem?_eq_getElem hlt]at h61
    exact Option.some.inj h61
   have hlast:(jS s.orders[i])[60]'(by rw[mO];decide)=MN s.orders[i].asked:=by
    have e1:jS s.orders[i]=(p8 [s.orders[i].id]++(p1 [s.orders[i].account,s.orders[i].symbol,s.orders[i].side,s.orders[i].phase]++p8 [s.orders[i].qty,s.orders[i].price,s.orders[i].filled,s.orders[i].newQty,s.orders[i].newPrice,s.orders[i].version]))++[MN s.orders[i].asked]:=by
     unfold jS
     rw[Uk (MN _),aew (Pj _)]
     simp only[List.append_assoc]
    have h60:(jS s.orders[i])[60]? =some ((jS s.orders[i])[60]'(by rw[mO];decide)):=List.getElem?_eq_getElem _
    have:(jS s.orders[i])[60]? =some (MN s.orders[i].asked):=by
     rw[e1,List.getElem?_append_right (by simp [zx,GX])]
     simp [zx,GX]
    rw[this]at h60
    exact(Option.some.inj h60).symm
   rw[acX hlt,hbyte,hlast]at h1
   have:=ad9 s.orders[i].asked
   omega
theorem ajv {s t:aj} (h:agy s t) (hc:s.cells=t.cells):s=t:=
 (aaI s t).1 ⟨h.acc,h.sym,h.kill,h.last,h.seq,h.lsn,h.ords,hc,h.lims,h.caps⟩
theorem alI {s t:aj} (h:s.cells.map (·.pos)=t.cells.map (·.pos)) (hy:s.symbols=t.symbols) (l:List aG):jE s l=jE t l:=by
 have hl:s.cells.length=t.cells.length:=by simpa using congrArg List.length h
 refine List.ext_getElem (by rw[nX,nX,hl]) fun i h1 h2=> ?_
 rw[tu,tu]
 have hi:(s.cells.map (·.pos))[i]'(by rw[nX]at h1;simpa using h1)=(t.cells.map (·.pos))[i]'(by rw[nX]at h2;simpa using h2):=by simp only[h]
 simp only[List.getElem_map]at hi
 exact congr (congrArg tq (congrArg (fun n=>aS.mk n 0 0 0) hi)) (congrArg (fun n=>wz n (i:Int) l) hy)
theorem abo {s:aj} (hr:jX s) (h:lZ s):qW (pZ (encZ s))=s:=by
 obtain⟨hf,hs,ho,a4,a5,n7,hc,n4⟩:=Yk hr h
 have hb:=zT s
 have he:=ahF hb hf hs ho
 have hB:=aeY hr h
 obtain⟨f1,f2,f3,f4,f5,f6,f7,f8⟩:=h.few
 obtain⟨b,hbe⟩:∃b,b=encZ s:=⟨_,rfl⟩
 rw[<-hbe]at hf hs ho a4 a5 n7 hc n4 hb he ⊢
 have l1:(qW (pZ b)).orders.length=s.orders.length:=by
  show(EL b).length=_
  simp only[EL,List.length_map,List.length_range,n7]
 have l2:(pZ b).cells.length=s.cells.length:=by
  show(CO b).length=_
  simp only[CO,List.length_map,List.length_range,hc]
 have l3:(qW (pZ b)).limits.length=s.limits.length:=by
  show(Qa b).length=_
  simp only[Qa,List.length_map,List.length_range,hc,f3]
 have l4:(qW (pZ b)).caps.length=s.caps.length:=by
  show(Qi b).length=_
  simp only[Qi,List.length_map,List.length_range,n4]
 obtain⟨t,ht⟩:∃t:aj,t=pZ b:=⟨_,rfl⟩
 have henc:encZ t=encZ (qW (pZ b)):=by
  have hcb:t.cells.flatMap DN=(qW (pZ b)).cells.flatMap DN:=by
   rw[FD,FD,ht]
   show _=p8 ((jE (pZ b) (pZ b).orders).map _)
   rw[abK]
  have:tH t=tH (qW (pZ b)):=by
   unfold tH
   rw[hcb,ht];rfl
  unfold encZ
  rw[this]
 have htB:B1S t:=by
  have hc8:=Dp b
  refine⟨⟨DX ?_,DX ?_,⟨fun o ho=> ?_,?_⟩,⟨fun c hcm=> ?_,?_⟩,⟨fun x hx=> ?_,?_⟩,⟨fun x hx=> ?_,?_⟩,?_,?_,?_⟩,?_,?_,?_,fun o ho=> ?_⟩
  ·rw[ht];exact kz hb 4
  ·rw[ht];exact kz hb 5
  ·rw[ht]at ho;exact(ahe hb o ho).1
  ·rw[ht];show(qW (pZ b)).orders.length<=_;omega
  ·rw[ht]at hcm
   obtain⟨q1,q2⟩:=ad6 c hcm
   rw[q2]
   exact⟨q1,⟨by simp only;omega,by simp only;omega⟩,⟨by simp only;omega,by simp only;omega⟩,⟨by simp only;omega,by simp only;omega⟩⟩
  ·rw[ht];omega
  ·rw[ht]at hx
   obtain⟨i,_,rfl⟩:=List.mem_map.1 (show x∈Qa b from hx)
   exact⟨hc8 _,hc8 _,hc8 _⟩
  ·rw[ht];show(qW (pZ b)).limits.length<=_;omega
  ·rw[ht]at hx
   obtain⟨i,_,rfl⟩:=List.mem_map.1 (show x∈Qi b from hx)
   exact hc8 _
  ·rw[ht];show(qW (pZ b)).caps.length<=_;omega
  ·rw[ht];exact hc8 _
  ·rw[ht];exact hc8 _
  ·rw[ht];exact hc8 _
  ·rw[ht];exact kz hb 4
  ·rw[ht];exact kz hb 5
  ·rw[ht]
   have:=kz hb 7
   have:len (pZ b).orders=at1 b 7:=by
    show((EL b).length:Int)=_
    simp only[EL,List.length_map,List.length_range]
    exact LP hb 7
   rw[this];exact kz hb 7
  ·rw[ht]at ho
   obtain⟨i,_,rfl⟩:=List.mem_map.1 (show o∈EL b from ho)
   exact⟨ab7 hb _,kz hb _,kz hb _,kz hb _,kz hb _⟩
 have hsame:agy t s:=ak9 htB hB (by rw[ht];exact l1) (by rw[ht];exact l2) (by rw[ht];exact l3) (by rw[ht];exact l4) (by rw[henc,he,hbe])
 have hfs:agy (qW (pZ b)) s:=by
  obtain⟨q1,q2,q3,q4,q5,q6,q7,q8,q9,q10⟩:=hsame
  rw[ht]at q1 q2 q3 q4 q5 q6 q7 q8 q9 q10
  refine⟨q1,q2,q3,?_,q5,q6,q7,q8,q9,q10⟩
  show(jE (pZ b) (pZ b).orders).map _=_
  rw[abK,q4]
 refine ajv hfs ?_
 rw[h.cells]
 show jE (pZ b) (pZ b).orders=_
 have q3:(pZ b).orders=s.orders:=by rw[<-ht];exact hsame.ords
 rw[q3]
 exact alI (by rw[<-ht];exact hsame.pos) (by rw[<-ht];exact hsame.sym) _
theorem aj3 {s:aj} (hr:jX s) (h:lZ s):VL (encZ s):=by
 obtain⟨_,_,ho,_⟩:=Yk hr h
 exact⟨ho,by rw[abo hr h];exact h⟩
theorem acG {s:aj} (hr:jX s) (h:lZ s):qM (encZ s)=some (s,0):=by
 have hl:=JO s
 obtain⟨f1,f2,f3,f4,f5,f6,f7,f8⟩:=h.few
 obtain⟨r,e,q⟩:=Sl (zT s) (by omega)
 obtain⟨hf,hs,ho,_⟩:=Yk hr h
 rw[e,q.good hf hs (aj3 hr h),abo hr h]
theorem aei:uF zS:=by unfold uF zS;decide
theorem ajh {l:List Int} (h:okL adk l):eP l:=fun x hx=>h.1 x hx
def Qj (c:UInt8):Prop:=(97<=c.toNat/\c.toNat<=122)\/(48<=c.toNat/\c.toNat<=57)\/c.toNat=46
instance (c:UInt8):Decidable (Qj c):=by unfold Qj;infer_instance
def jU (s:List UInt8):Prop:=(∀c∈s,Qj c)/\1<=s.length/\s.length<=16
instance (s:List UInt8):Decidable (jU s):=by unfold jU;infer_instance
theorem Xd:∀(x y:List UInt8),slt x y=decide (x<y)
 |[],[]=>by simp [slt,Op.bytesLess]
 |_::_,[]=>by simp [slt,Op.bytesLess]
 |[],_::_=>by simp [slt,Op.bytesLess]
 |a::x,b::y=>by
  have ih:=Xd x y
  unfold slt at*
  rw[Op.bytesLess,ih]
  simp only[List.cons_lt_cons_iff]
  by_cases h1:a<b<;>by_cases h2:a=b<;>by_cases h3:x<y<;>simp [h1,h2,h3]
theorem Xk (a:List UInt8):¬a<a:=List.lt_irrefl a
theorem Zn {a b c:List UInt8} (h:a<b) (k:b<c):a<c:=List.lt_trans h k
theorem ak0 (a b:List UInt8):a<b\/a=b\/b<a:=by
 by_cases h:a<b
 ·exact .inl h
 ·by_cases k:b<a
  ·exact .inr (.inr k)
  ·exact .inr (.inl (List.le_antisymm (List.not_lt.1 k) (List.not_lt.1 h)))
theorem anG {n:Nat} (hn:n<999999) {step:Int×Bool->Option ((Int×Bool) ⊕ (Bool ⊕ Bool))} (P:Nat->Prop)
 (h:∀(i:Nat) (q:Bool),i<n->(∀j,j<i->P j)->Wq (step ((i:Int),q)) fun r=>match r with | .inl (k,_)=>k=((i+1:Nat):Int)/\P i | .inr (.inl b)=>b=false/\¬P i | .inr (.inr _)=>False)
 (he:∀q:Bool,Wq (step ((n:Int),q)) fun r=>match r with | .inr (.inr _)=>True | _=>False) (q0:Bool):
 Wq (bF step LF ((0:Int),q0)) fun w=>match w with | .inl b=>b=false/\¬∀i,i<n->P i | .inr _=>∀i,i<n->P i:=by
 refine oP (n:=n) hn (fun i _=>∀j,j<i->P j) _ (fun i q hi hj=>(h i q hi hj).mono fun r hr=> ?_) (fun q hj=>(he q).mono fun r hr=> ?_) q0 0 (Nat.zero_le _) (fun j hj=>by omega)
 ·match r,hr with
  |.inl (k,_),hr=>
   refine⟨hr.1,fun j hj2=> ?_⟩
   by_cases e:j=i
   ·subst e;exact hr.2
   ·exact hj j (by omega)
  |.inr (.inl b),hr=>exact⟨hr.1,fun g=>hr.2 (g i hi)⟩
  |.inr (.inr _),hr=>exact hr.elim
 ·match r,hr with
  |.inl _,hr=>exact hr.elim
  |.inr (.inl b),hr=>exact hr.elim
  |.inr (.inr _),_=>exact hj
theorem akI (l:List UInt8) (i:Nat) (h:i<l.length):afF l (itn (i:Int))=(l[i].toNat:Int):=by
 simp [afF,itn,h]
theorem abJ {α:Type} (l:List α):ilt ((l.length:Nat):Int) (len l)=false:=by
 rw[show((l.length:Nat):Int)=len l from rfl];simp [ilt]
theorem anw (c:UInt8):DC (c.toNat:Int)=some (decide (Qj c)):=by
 refine Wq.dec ?_
 unfold DC Qj
 rw[au]
 simp only[bH,dH,dZ,fE,bM,bQ,eH,fG,dO,fK,bZ,dw,fO,fQ]
 omega
theorem aaM {s:List UInt8}:(∀i,i<s.length->∀h:i<s.length,Qj s[i])↔∀c∈s,Qj c:=by
 constructor
 ·intro h c hc
  obtain⟨i,hi,rfl⟩:=List.mem_iff_getElem.1 hc
  exact h i hi hi
 ·intro h i hi h2
  exact h _ (List.getElem_mem h2)
theorem ag6 {s:List UInt8} (hs:s.length<999999):xJ s=some (decide (jU s)):=by
 refine Wq.dec ?_
 unfold xJ
 refine Wq.bind (anG (n:=s.length) (step:=fun v:Int×Bool=>qG (len s) s v.fst v.snd) hs (fun i=>∀h:i<s.length,Qj s[i]) (fun i q hi hj=> ?_) (fun q=> ?_) false) fun w hw=> ?_
 ·simp only[qG]
  rw[aT (by rw[jq];simpa using hi),aT (inb s i hi),akI s i hi,anw,aA,lH,Oo]
  split
  ·rename_i h;rw[au];exact⟨eF (by omega),fun _=>h⟩
  ·rename_i h;rw[au];exact⟨rfl,fun g=>h (g hi)⟩
 ·simp only[qG]
  rw[gQ (abJ s),au];trivial
 ·unfold jU
  match w,hw with
  |.inl b,hw=>
   simp only[qf,au]
   rw[hw.1]
   constructor
   ·intro g;cases g
   ·intro g;exact absurd (aaM.2 g.1) hw.2
  |.inr q,hw=>
   simp only[qf,au,bH,dH,dZ,fE,bM,bQ,eH,fG,dO,fK,bZ,dw,fO,fQ,len]
   have:=aaM.1 hw
   constructor
   ·intro g;exact⟨this,by omega,by omega⟩
   ·intro g;omega
def okF (f:ax):Prop:=jU f.name/\0<=f.sure/\f.sure<=len f.data
instance (f:ax):Decidable (okF f):=by unfold okF;infer_instance
def fP (l:List ax):Nat:=(l.map (·.data.length)).sum
def Je (l:List ax):Prop:=l.Pairwise fun f g=>f.name<g.name
instance (l:List ax):Decidable (Je l):=by unfold Je;infer_instance
def yE (l:List ax):Prop:=(∀f∈l,okF f)/\Je l
instance (l:List ax):Decidable (yE l):=by unfold yE;infer_instance
def iU (d:ai):Prop:=(0<=d.room/\d.room<=65536/\ -1<=d.fuse/\d.files.length<=64)/\yE d.files/\(fP d.files:Int)<=d.room
instance (d:ai):Decidable (iU d):=by unfold iU;infer_instance
def nameB (d:ai):Prop:=∀f∈d.files,f.name.length<999999
theorem wR {α:Type} {l:List α} {i:Nat} (h:i<l.length):l.take (i+1)=l.take i++[l[i]]:=by simp
theorem qY (a b:List ax):fP (a++b)=fP a+fP b:=by simp [fP]
theorem CJ (f:ax) (l:List ax):fP (f::l)=f.data.length+fP l:=by simp [fP]
theorem zu {l:List ax} {i:Nat} (h:i<l.length):fP (l.take (i+1))=fP (l.take i)+l[i].data.length:=by
 rw[wR h,qY];simp [fP]
theorem FK (l:List ax) (i:Nat):fP (l.take i)<=fP l:=by
 have:=qY (l.take i) (l.drop i)
 rw[List.take_append_drop]at this;omega
theorem uy (a b:List ax):yE (a++b)↔yE a/\yE b/\∀f∈a,∀g∈b,f.name<g.name:=by
 unfold yE Je
 rw[List.pairwise_append]
 constructor
 ·rintro⟨h1,h2,h3,h4⟩
  exact⟨⟨fun f hf=>h1 f (List.mem_append_left _ hf),h2⟩,⟨fun f hf=>h1 f (List.mem_append_right _ hf),h3⟩,h4⟩
 ·rintro⟨⟨h1,h2⟩,⟨h3,h4⟩,h5⟩
  exact⟨fun f hf=>(List.mem_append.1 hf).elim (h1 f) (h3 f),h2,h4,h5⟩
theorem abu (f:ax):yE [f]↔okF f:=by simp [yE,Je]
theorem afy {l:List ax} {i:Nat} (h:i<l.length):yE (l.take (i+1))↔yE (l.take i)/\okF l[i]/\(0<i->∀g:i - 1<l.length,l[i - 1].name<l[i].name):=by
 rw[wR h,uy,abu]
 constructor
 ·rintro⟨h1,h2,h3⟩
  exact⟨h1,h2,fun hi g=>h3 _ (by rw[List.mem_iff_getElem];exact⟨i - 1,by rw[List.length_take];omega,by simp⟩) _ (List.mem_singleton.2 rfl)⟩
 ·rintro⟨h1,h2,h3⟩
  refine⟨h1,h2,fun f hf g hg=> ?_⟩
  rw[List.mem_singleton.1 hg]
  obtain⟨j,hj,rfl⟩:=List.mem_iff_getElem.1 hf
  rw[List.length_take]at hj
  rw[List.getElem_take]
  have h4:=h3 (by omega) (by omega)
  by_cases e:j=i - 1
  ·subst e;exact h4
  ·have:=List.pairwise_iff_getElem.1 h1.2 j (i - 1) (by rw[List.length_take];omega) (by rw[List.length_take];omega) (by omega)
   rw[List.getElem_take,List.getElem_take]at this
   exact Zn this h4
theorem ahE {l:List ax} (h:yE l) (i:Nat):yE (l.take i):=by
 have:=(uy (l.take i) (l.drop i)).1 (by rw[List.take_append_drop];exact h)
 exact this.1
theorem KD {d:ai} (hn:nameB d):qU d=some (decide (iU d)):=by
 refine Wq.dec ?_
 unfold qU
 rw[lq]
 refine⟨fun h=>(au _).2 ?_,fun h=> ?_⟩
 ·simp only[bH,dH,dZ,fE,bM,bQ,eH,fG,dO,fK,bZ,dw,fO,fQ,len]at h
  unfold iU
  constructor
  ·intro g;cases g
  ·rintro⟨g, -⟩;omega
 simp only[bH,dH,dZ,fE,bM,bQ,eH,fG,dO,fK,bZ,dw,fO,fQ,len]at h
 have hl:d.files.length<=64:=by omega
 refine Wq.bind (Q:=fun w=>match w with
  |.inl b=>b=false/\¬iU d
  |.inr _=>iU d)
  (oP (n:=d.files.length) (step:=fun v:Int×Int×Bool=>pV (len d.files) d.files d v.fst v.snd.fst v.snd.snd) (by omega)
    (fun i x=>yE (d.files.take i)/\x.1=d.room - (fP (d.files.take i):Int)/\0<=x.1) _ ?_ ?_ _ 0 (Nat.zero_le _) ⟨by simp [yE,Je],by simp [fP],by simp only;omega⟩) ?_
 ·rintro i ⟨room,q⟩ hi ⟨h1,h2,h3⟩
  simp only at h2 h3
  simp only[pV]
  rw[aT (by rw[jq];simpa using hi),aT (inb _ i hi),dI _ i hi,ag6 (hn _ (List.getElem_mem hi)),aA]
  have hu:=zu hi
  have hg:=afy hi
  have e1:0<i->wr .i64 (aF (i:Int) 1)=((i - 1:Nat):Int):=fun h0=>by
   rw[aF,dX (by omega) (by omega)];omega
  have hgd:bor (band (ile 0 (wr .i64 (aF (i:Int) 1))) (ilt (wr .i64 (aF (i:Int) 1)) (len d.files))) (aC (band (aC (aC (decide (jU d.files[i].name)))) (ilt 0 (i:Int))))=true:=by
   rw[dZ]
   by_cases h0:0<i
   ·left;rw[e1 h0];exact inb _ _ (by omega)
   ·right;rw[bM,dH];right;exact Gs (by omega)
  rw[aT hgd,lq]
  have prev:(0<i->∀g:i - 1<d.files.length,d.files[i - 1].name<d.files[i].name)↔band (ilt 0 (i:Int)) (aC (slt (ah d.files (itn (wr .i64 (aF (i:Int) 1)))).name d.files[i].name))=false:=by
   by_cases h0:0<i
   ·rw[e1 h0,dI _ _ (by omega:i - 1<d.files.length),Xd,EP (by omega),qH,bQ,decide_eq_true_iff]
    exact⟨fun g=>g h0 (by omega),fun g _ _=>g⟩
   ·rw[Gs (by omega),wQ];simp [h0]
  refine⟨fun hb=>(au _).2 ⟨rfl,fun hd=> ?_⟩,fun hb=>(au _).2 ?_⟩
  ·have g1:=(hg.1 (ahE hd.2.1 (i+1)))
   have g2:=prev.1 g1.2.2
   have g3:=FK d.files (i+1)
   have g4:=hd.2.2
   obtain⟨k1,k2,k3⟩:=g1.2.1
   rw[g2]at hb
   simp only[bH,dH,dZ,fE,bM,bQ,eH,fG,dO,fK,bZ,dw,fO,fQ,decide_eq_false_iff_not,len]at hb k3
   rcases hb with (((hb | hb) | hb) | hb) | hb
   ·exact hb k1
   ·cases hb
   ·omega
   ·omega
   ·omega
  ·simp only[fE,bQ,decide_eq_true_iff]at hb
   obtain⟨⟨⟨⟨b1,b2⟩,b3⟩,b4⟩,b5⟩:=hb
   have b6:=prev.2 b2
   simp only[fG,len]at b3 b4 b5
   have e2:wr .i64 (aF room (len d.files[i].data))=room - (d.files[i].data.length:Int):=by
    rw[aF,dX (by simp only[len];omega) (by simp only[len];omega)];rfl
   refine⟨eF (by omega),hg.2 ⟨h1,⟨b1,b3,b4⟩,b6⟩,?_,?_⟩
   ·simp only;rw[e2,hu];omega
   ·simp only;rw[e2];omega
 ·rintro⟨room,q⟩ ⟨h1,h2,h3⟩
  simp only[pV]
  rw[gQ (abJ _),au]
  rw[List.take_length]at h1 h2
  simp only at h2 h3
  exact⟨by omega,h1,by omega⟩
 ·rintro(b | q) hw
  ·simp only[qf,au];simp [hw.1,hw.2]
  ·simp only[qf,au];simp [hw]
abbrev Nm:=List UInt8
def bJ (l:List ax) (n:Nm):Option ax:=l.find? fun f=>decide (f.name=n)
def xE (n:Nm) (l:List ax):List ax:=l.filter fun f=>decide (f.name≠n)
def qi (f:ax):List ax->List ax
 |[]=>[f]
 |g::r=>if g.name<f.name then g::qi f r else f::xE f.name (g::r)
theorem Cb {n:Nm} {l:List ax} (h:∀f∈l,f.name≠n):xE n l=l:=by
 unfold xE;rw[List.filter_eq_self];intro f hf;simpa using h f hf
theorem Vw (n:Nm) (a b:List ax):xE n (a++b)=xE n a++xE n b:=by simp [xE]
theorem JR (n:Nm) (f:ax) (b:List ax):xE n (f::b)=if f.name=n then xE n b else f::xE n b:=by
 unfold xE;rw[List.filter_cons];by_cases h:f.name=n<;>simp [h]
theorem aa8 {n:Nm} {l:List ax} (h:∀f∈l,f.name≠n):bJ l n=none:=by
 unfold bJ;rw[List.find?_eq_none];intro f hf;simpa using h f hf
theorem aep {n:Nm} {a:List ax} (h:∀f∈a,f.name≠n) (b:List ax):bJ (a++b) n=bJ b n:=by
 unfold bJ;rw[List.find?_append]
 have:=aa8 h
 unfold bJ at this
 rw[this];rfl
theorem oD (n:Nm) (f:ax) (b:List ax):bJ (f::b) n=if f.name=n then some f else bJ b n:=by
 unfold bJ;rw[List.find?_cons];by_cases h:f.name=n<;>simp [h]
theorem J5 {n:Nm} {l:List ax} {f:ax} (h:bJ l n=some f):f∈l/\f.name=n:=
 ⟨List.mem_of_find?_eq_some h,by simpa using List.find?_some h⟩
theorem NY {a b:Nm} (h:a<b):a≠b:=fun e=>Xk _ (e▸h)
inductive lX (n:Nm):List ax->Nat->Option ax->Prop
 |no (a b:List ax) (ha:∀f∈a,f.name<n) (hb:∀f∈b,n<f.name):lX n (a++b) a.length none
 |yes (a:List ax) (f:ax) (b:List ax) (e:f.name=n) (ha:∀f∈a,f.name<n) (hb:∀f∈b,n<f.name):lX n (a++f::b) a.length (some f)
theorem lX.get {n:Nm} {l:List ax} {i:Nat} {o:Option ax} (h:lX n l i o):bJ l n=o:=by
 cases h with
 |no a b ha hb=>exact aa8 fun f hf=>(List.mem_append.1 hf).elim (fun h=>NY (ha f h)) (fun h=>(NY (hb f h)).symm)
 |yes a f b e ha hb=>rw[aep fun f h=>NY (ha f h),oD,if_pos e]
theorem lX.le {n:Nm} {l:List ax} {i:Nat} {o:Option ax} (h:lX n l i o):i<=l.length:=by
 cases h<;>simp
theorem lX.lt {n:Nm} {l:List ax} {i:Nat} {f:ax} (h:lX n l i (some f)):∃g:i<l.length,l[i]=f/\f.name=n:=by
 cases h with
 |yes a f b e ha hb=>exact⟨by simp,by simp,e⟩
theorem wK {f:ax} {a:List ax} (ha:∀g∈a,g.name<f.name) (b:List ax):qi f (a++b)=a++qi f b:=by
 induction a with
 |nil=>rfl
 |cons g a ih=>
  rw[List.cons_append,qi,if_pos (ha g (List.mem_cons_self ..)),ih fun g hg=>ha g (List.mem_cons_of_mem _ hg)];rfl
theorem IB {f:ax} {b:List ax} (hb:∀g∈b,f.name<g.name):qi f b=f::b:=by
 cases b with
 |nil=>rfl
 |cons g b=>rw[qi,if_neg fun h=>Xk _ (Zn h (hb g (List.mem_cons_self ..))),Cb fun g hg=>(NY (hb g hg)).symm]
theorem Xo {f g:ax} {b:List ax} (e:g.name=f.name) (hb:∀g∈b,f.name<g.name):qi f (g::b)=f::b:=by
 rw[qi,if_neg (e▸Xk _),JR,if_pos e,Cb fun g hg=>(NY (hb g hg)).symm]
theorem lX.ins {n:Nm} {l:List ax} {i:Nat} {f:ax} (h:lX n l i none) (e:f.name=n):l.take i++f::l.drop i=qi f l:=by
 subst e
 cases h with
 |no a b ha hb=>rw[wK ha,IB hb];simp
theorem lX.set {n:Nm} {l:List ax} {i:Nat} {f g:ax} (h:lX n l i (some g)) (e:f.name=n):l.set i f=qi f l:=by
 subst e
 cases h with
 |yes a g b e ha hb=>rw[wK ha,Xo e hb];simp
theorem lX.del {n:Nm} {l:List ax} {i:Nat} {g:ax} (h:lX n l i (some g)):l.eraseIdx i=xE n l:=by
 cases h with
 |yes a g b e ha hb=>
  rw[Vw,JR,if_pos e,Cb fun g hg=>NY (ha g hg),Cb fun g hg=>(NY (hb g hg)).symm,List.eraseIdx_append_of_length_le (Nat.le_refl _)];simp
theorem abX {l:List ax} (h:Je l) {i j:Nat} (hij:i<j) (hj:j<l.length):l[i].name<l[j].name:=
 List.pairwise_iff_getElem.1 h i j (by omega) hj hij
theorem aib {l:List ax} (h:Je l) {n:Nm} {i:Nat} (hi:i<=l.length) (h1:∀(j:Nat) (h:j<l.length),j<i->l[j].name<n) (h2:∀(j:Nat) (h:j<l.length),i<=j->¬l[j].name<n):
 lX n l i (if g:i<l.length then if l[i].name=n then some l[i]else none else none):=by
 have ha:∀f∈l.take i,f.name<n:=fun f hf=>by
  obtain⟨j,hj,rfl⟩:=List.mem_iff_getElem.1 hf
  rw[List.length_take]at hj
  rw[List.getElem_take]
  exact h1 j (by omega) (by omega)
 have hle:(l.take i).length=i:=by rw[List.length_take];omega
 by_cases g:i<l.length
 ·rw[dif_pos g]
  have hb:∀f∈l.drop (i+1),l[i].name<f.name:=fun f hf=>by
   obtain⟨j,hj,rfl⟩:=List.mem_iff_getElem.1 hf
   rw[List.length_drop]at hj
   rw[List.getElem_drop]
   exact abX h (by omega) (by omega)
  have e:l.take i++l[i]::l.drop (i+1)=l:=by rw[<-List.drop_eq_getElem_cons g,List.take_append_drop]
  by_cases k:l[i].name=n
  ·rw[if_pos k]
   have:=lX.yes (l.take i) l[i] (l.drop (i+1)) k ha (k▸hb)
   rwa[e,hle]at this
  ·rw[if_neg k]
   have hlt:n<l[i].name:=by
    rcases ak0 n l[i].name with c | c | c
    ·exact c
    ·exact absurd c.symm k
    ·exact absurd c (h2 i g (Nat.le_refl _))
   have:=lX.no (l.take i) (l[i]::l.drop (i+1)) ha (fun f hf=>by
    rcases List.mem_cons.1 hf with c | c
    ·subst c;exact hlt
    ·exact Zn hlt (hb f c))
   rwa[e,hle]at this
 ·rw[dif_neg g]
  have:=lX.no (l.take i) [] ha (by simp)
  rw[List.append_nil,hle,List.take_of_length_le (by omega)]at this
  exact this
theorem aiu (n:Nat) (h:n<1000000000):wr .i64 (cZ .u64 (wr .u64 (wr .i64 (n:Int))) 1)=((n / 2:Nat):Int):=by
 have e1:wr .i64 (n:Int)=n:=dX (by omega) (by omega)
 have e2:wr .u64 (n:Int)=n:=by rw[Ce];omega
 have e3:cZ .u64 (n:Int) 1=((n / 2:Nat):Int):=by
  unfold cZ
  simp [Int.shiftRight_eq_div_pow,IntKind.bits,IntKind.signed]
  exact Int.fdiv_eq_ediv_of_nonneg _ (by decide)
 rw[e1,e2,e3,dX (by omega) (by omega)]
theorem agW (a b:Nm):acD a b<0↔a<b:=by
 unfold acD
 rw[Xd,Oo]
 by_cases h:a<b
 ·simp [h]
 ·rw[if_neg h]
  cases seq a b<;>simp [cnd,h]
theorem ahd (a b:Nm):acD a b=0↔a=b:=by
 unfold acD
 rw[Xd,Oo]
 by_cases h:a<b
 ·simp [h,NY h]
 ·rw[if_neg h]
  by_cases k:a=b
  ·rw[aT (by rw[aiZ];exact k)];simp [k]
  ·rw[gQ (by rw[ai9];exact k)];simp [k]
theorem Nu {d:ai} {n:Nm} (ha:Je d.files) (hl:d.files.length<=100000):
 Wq (dB d n) fun r=>∃(i:Nat) (o:Option ax),r.1=(i:Int)/\lX n d.files i o/\r.2=o.isSome:=by
 unfold dB
 refine Wq.bind (Q:=fun w:Int=>∃i:Nat,w=(i:Int)/\i<=d.files.length/\(∀(j:Nat) (h:j<d.files.length),j<i->d.files[j].name<n)/\(∀(j:Nat) (h:j<d.files.length),i<=j->¬d.files[j].name<n))
  (afM (step:=fun x:Int×Int=>dA d.files n x.fst x.snd) (fun v=>(v.1 - v.2).toNat)
    (fun x=>∃lo hi:Nat,x=((hi:Int),(lo:Int))/\lo<=hi/\hi<=d.files.length/\(∀(j:Nat) (h:j<d.files.length),j<lo->d.files[j].name<n)/\(∀(j:Nat) (h:j<d.files.length),hi<=j->¬d.files[j].name<n)) _ ?_ LF _ (akv (by simp only[len];omega)) ⟨0,d.files.length,rfl,Nat.zero_le _,Nat.le_refl _,fun j _ h=>by omega,fun j h1 h2=>by omega⟩) ?_
 ·rintro _ ⟨lo,hi,rfl,g1,g2,g3,g4⟩
  simp only[dA]
  rw[lq]
  refine⟨fun h=> ?_,fun h=>(au _).2 ?_⟩
  ·rw[eH]at h
   have e1:wr .i64 (cZ .u64 (wr .u64 (wr .i64 (ak (lo:Int) (hi:Int)))) 1)=(((lo+hi) / 2:Nat):Int):=by
    rw[<-aiu (lo+hi) (by omega)];unfold ak;rw[Int.natCast_add]
   have hm:(lo+hi) / 2<d.files.length:=by omega
   rw[e1,aT (inb _ _ hm),dI _ _ hm,qZ,aA,lq,au,au]
   refine⟨fun h2=> ?_,fun h2=> ?_⟩
   ·rw[eH,agW]at h2
    refine⟨⟨(lo+hi) / 2+1,hi,by rw[eF (by omega)],by omega,g2,fun j hj h3=> ?_,g4⟩,?_⟩
    ·rcases Nat.lt_or_ge j ((lo+hi) / 2)with h4 | h4
     ·exact Zn (abX ha h4 hm) h2
     ·have:j=(lo+hi) / 2:=by omega
      subst this;exact h2
    ·simp only;rw[eF (by omega)];omega
   ·rw[fG]at h2
    have h2':¬d.files[(lo+hi) / 2].name<n:=by rw[<-agW];omega
    refine⟨⟨lo,(lo+hi) / 2,rfl,by omega,by omega,g3,fun j hj h3=> ?_⟩,?_⟩
    ·rcases Nat.lt_or_ge ((lo+hi) / 2) j with h4 | h4
     ·exact fun g=>h2' (Zn (abX ha h4 hj) g)
     ·have:j=(lo+hi) / 2:=by omega
      subst this;exact h2'
    ·simp only;omega
  ·rw[fG]at h
   have:lo=hi:=by omega
   subst this
   exact⟨lo,rfl,g2,g3,g4⟩
 rintro _ ⟨i,rfl,hi,g1,g2⟩
 have hs:=aib ha hi g1 g2
 by_cases hil:i<d.files.length
 ·have h1:ilt (i:Int) (len d.files)=true:=EP (by simp only[len];omega)
  rw[aT (by rw[dZ];exact .inl (inb _ i hil)),aT h1,dI _ i hil,qZ,aA,au]
  refine⟨i,_,rfl,hs,?_⟩
  rw[dif_pos hil,h1,qH]
  by_cases k:d.files[i].name=n
  ·rw[if_pos k];show ieq _ 0=true;rw[bZ,ahd];exact k
  ·rw[if_neg k];show ieq _ 0=false;rw[dw,ne_eq,ahd];exact k
 ·have h1:ilt (i:Int) (len d.files)=false:=Gs (by simp only[len];omega)
  rw[aT (by rw[dZ,bM];exact .inr h1),gQ h1,au]
  refine⟨i,_,rfl,hs,?_⟩
  rw[dif_neg hil,h1];rfl
def jl (d:ai) (ns:List Nm):Int:=if ¬iU d then 1 else if d.down=true then 9 else if ∀n∈ns,jU n then 0 else 1
def cO (d:ai):ai×Bool:=if d.fuse=0 then (⟨d.files,d.room,d.fuse,true⟩,false)else if d.fuse= -1 then (d,true)else (⟨d.files,d.room,d.fuse - 1,d.down⟩,true)
def DJ (d:ai) (f:ax):ai:=⟨qi f d.files,d.room,d.fuse,d.down⟩
def aex (d:ai) (n:Nm):ai:=⟨xE n d.files,d.room,d.fuse,d.down⟩
theorem am5 {α:Type} (a b:Nm) (x y:α):cnd (seq a b) x y=if a=b then x else y:=by
 by_cases h:a=b
 ·rw[if_pos h,aT (by rw[aiZ];exact h)]
 ·rw[if_neg h,gQ (by rw[ai9];exact h)]
theorem kX {d:ai} {ns:List Nm}:jl d ns=0↔iU d/\d.down=false/\∀n∈ns,jU n:=by
 unfold jl
 by_cases h1:iU d
 ·cases h2:d.down
  ·by_cases h3:∀n∈ns,jU n
   ·simp [h1,h3]
   ·simp [h1,h3]
  ·simp [h1]
 ·simp [h1]
theorem af9 (d:ai) (a b:Nm):jl d [a,b]=jl d [b,a]:=by
 unfold jl
 have:(∀n∈[a,b],jU n)↔∀n∈[b,a],jU n:=by simp [and_comm]
 by_cases h:∀n∈[a,b],jU n
 ·simp only[if_pos h,if_pos (this.1 h)]
 ·simp only[if_neg h,if_neg (fun g=>h (this.2 g))]
theorem OM {d:ai} {ns:List Nm} (hn:nameB d) (hs:∀n∈ns,n.length<999999) (hl:ns.length<1000):iK d ns=some (jl d ns):=by
 refine Wq.eq ?_
 unfold iK jl
 rw[KD hn,aA,lH,Oo]
 by_cases hd:iU d
 case neg=>rw[if_neg hd,au];simp [hd]
 rw[if_pos hd]
 cases hw:d.down
 case true=>rw[cu,au];simp [hd]
 rw[bU]
 refine Wq.bind (Q:=fun w:Int ⊕ Int=>match w with
  |.inl k=>0<=k/\¬∀n∈ns,jU n
  |.inr _=>∀n∈ns,jU n)
  (oP (n:=ns.length) (step:=fun v:Int×Int=>bT (len ns) ns v.fst v.snd) (by omega) (fun i x=>∀n∈ns.take i,jU n) _ ?_ ?_ _ 0 (Nat.zero_le _) (by simp)) ?_
 ·rintro i x hi hx
  simp only[bT]
  rw[aT (by rw[jq];simpa using hi),aT (inb _ i hi),dI _ i hi,ag6 (hs _ (List.getElem_mem hi)),aA,lH,Oo]
  split
  ·rename_i g
   refine(au _).2 ⟨eF (by omega),?_⟩
   rw[wR hi]
   intro f hf
   rcases List.mem_append.1 hf with c | c
   ·exact hx f c
   ·rw[List.mem_singleton.1 c];exact g
  ·rename_i g
   exact(au _).2 ⟨by omega,fun h=>g (h _ (List.getElem_mem hi))⟩
 ·rintro x hx
  simp only[bT]
  rw[gQ (abJ _),au]
  rwa[List.take_length]at hx
 ·rintro(w | w) hw2
  ·simp only[qf]
   rw[aT (oU hw2.1),au,if_neg (fun h=>h hd),if_neg (by simp),if_neg hw2.2]
  ·simp only[qf]
   rw[au,if_neg (fun h=>h hd),if_neg (by simp),if_pos hw2]
theorem af2 {l:List ax} (h:fP l<=10000000) {f:ax} (hf:f∈l):f.data.length<=10000000:=by
 obtain⟨i,hi,rfl⟩:=List.mem_iff_getElem.1 hf
 have:=zu hi
 have:=FK l (i+1)
 omega
theorem amW {d:ai} (hl:d.files.length<999999) (hu:fP d.files<=10000000):Aj d=some (fP d.files:Int):=by
 refine Wq.eq ?_
 unfold Aj
 refine Wq.bind (oP (n:=d.files.length) (step:=fun v:Int×Int=>rW (len d.files) d.files v.fst v.snd) hl (fun i x=>x=(fP (d.files.take i):Int)) (fun w=>w=(fP d.files:Int)) ?_ ?_ 0 0 (Nat.zero_le _) (by simp [fP])) ?_
 ·rintro i x hi rfl
  simp only[rW]
  rw[aT (by rw[jq];simpa using hi),aT (inb _ i hi),dI _ i hi,au]
  have h1:=zu hi
  have h2:=FK d.files (i+1)
  refine⟨eF (by omega),?_⟩
  rw[ak,dX (by simp only[len];omega) (by simp only[len];omega)]
  simp only[len];omega
 ·rintro x rfl
  simp only[rW]
  rw[gQ (abJ _),au,List.take_length]
 ·rintro w rfl
  exact(au _).2 rfl
theorem XC (n:Nm) (l:List ax):(xE n l).length<=l.length:=List.length_filter_le ..
theorem J7 {l:List ax} (h:l.length<1000000):aK l=some l:=by unfold aK;exact Zo h
theorem YF {l:List Int} (h:l.length<1000000):bW l=some l:=by unfold bW;exact Zo h
def ain (p:ai×Bool):ai×Int:=(p.1,if p.2=true then 0 else 9)
def eX (d:ai) (n:Nm) (b:List Int):ai×Int:=
 if jl d [n]≠0 then (d,jl d [n])else
 if d.room<(fP d.files:Int)+(b.length:Int)\/(bJ d.files n=none/\64<=d.files.length)then (d,6)else
 ain (cO (DJ d ⟨n,((bJ d.files n).getD ⟨n,[],0⟩).data++b,((bJ d.files n).getD ⟨n,[],0⟩).sure⟩))
def qC (d:ai) (n:Nm):ai×Int:=
 if jl d [n]≠0 then (d,jl d [n])else
 match bJ d.files n with
 |none=>(d,7)
 |some f=>if (cO d).2=true then (DJ (cO d).1 ⟨n,f.data,len f.data⟩,0)else ((cO d).1,9)
def kR (d:ai) (a b:Nm):ai×Int:=
 if jl d [a,b]≠0 then (d,jl d [a,b])else
 match bJ d.files a with
 |none=>(d,7)
 |some f=>if (cO d).2=true then (DJ (aex (cO d).1 a) ⟨b,f.data,f.sure⟩,0)else ((cO d).1,9)
def kC (d:ai) (n:Nm):ai×Int:=
 if jl d [n]≠0 then (d,jl d [n])else
 match bJ d.files n with
 |none=>(d,7)
 |some f=>if (cO d).2=true then (aex (cO d).1 n,0)else ((cO d).1,9)
def CU (d:ai) (n:Nm) (k:Int):ai×Int:=
 if jl d [n]≠0 then (d,jl d [n])else
 match bJ d.files n with
 |none=>(d,7)
 |some f=>if k<0\/len f.data<k then (d,1)else
  if (cO d).2=true then (DJ (cO d).1 ⟨n,f.data.take k.toNat,if k<f.sure then k else f.sure⟩,0)else ((cO d).1,9)
def NP (d:ai) (n:Nm):List Int×Int:=
 if jl d [n]≠0 then ([],jl d [n])else
 match bJ d.files n with
 |none=>([],7)
 |some f=>(f.data,0)
structure Ll (d:ai):Prop where
 nm:nameB d
 fu:inI d.fuse
theorem iU.fl {d:ai} (h:iU d):d.files.length<=64:=h.1.2.2.2
theorem iU.us {d:ai} (h:iU d):fP d.files<=65536:=by have:=h.2.2;have:=h.1;omega
theorem iU.asc {d:ai} (h:iU d):Je d.files:=h.2.1.2
theorem bD (d:ai):(cO d).1.files=d.files:=by unfold cO;split<;>(try split)<;>rfl
theorem uo (d:ai):(cO d).1.room=d.room:=by unfold cO;split<;>(try split)<;>rfl
theorem O8 {α:Type} (d:ai) (hf: -1<=d.fuse) (hf2:inI d.fuse) (x:α) (y:Int->Bool->α):
 cnd (ieq d.fuse 0) x (cnd (ieq d.fuse (-1)) (y d.fuse d.down) (y (wr .i64 (aF d.fuse 1)) d.down))=if (cO d).2=true then y (cO d).1.fuse (cO d).1.down else x:=by
 rw[lU,lU]
 unfold cO
 unfold inI at hf2
 by_cases h0:d.fuse=0
 ·simp [h0]
 by_cases h1:d.fuse= -1
 ·simp [h1]
 ·rw[if_neg h0,if_neg h1,if_neg h0,if_neg h1,if_pos rfl,S9 ⟨by simp only[aF];omega,by simp only[aF];omega⟩];rfl
theorem OO {d:ai} (h:¬(cO d).2=true):(cO d).1=⟨d.files,d.room,d.fuse,true⟩:=by
 unfold cO at h ⊢
 split
 ·rfl
 ·rename_i h0
  rw[if_neg h0]at h
  split at h<;>simp at h
theorem cut_out {α:Type} (l r:List α) (i:Nat) (h:i<l.length):
 (dY (dY l i (l.drop (i+1))) (i+(l.drop (i+1)).length) r).take (i+(l.drop (i+1)).length)=l.eraseIdx i:=by
 unfold dY
 have h1:(l.take i).length=i:=by rw[List.length_take];omega
 have e:(l.take i++(l.drop (i+1)++l.drop (i+(l.drop (i+1)).length))).take (i+(l.drop (i+1)).length)=l.take i++l.drop (i+1):=by
  rw[<-List.append_assoc,List.take_append_of_le_length (by rw[List.length_append,h1];exact Nat.le_refl _),List.take_of_length_le (by rw[List.length_append,h1];exact Nat.le_refl _)]
 rw[e,List.take_append_of_le_length (by rw[List.length_append,h1];exact Nat.le_refl _),List.take_of_length_le (by rw[List.length_append,h1];exact Nat.le_refl _),List.eraseIdx_eq_take_drop_succ]
theorem aeE {α:Type} (l:List α) (i:Nat) (h:i<l.length):aB (aH l (itn ((i+1:Nat):Int))) (itn (aF (len l) ((i+1:Nat):Int)))=l.drop (i+1):=by
 unfold aB aH aF
 rw[qA]
 apply List.take_of_length_le
 rw[List.length_drop]
 simp only[itn,len];omega
theorem aeD {α:Type} (l:List α) (i:Nat) (h:i<l.length):nad i (itn (len (l.drop (i+1))))=i+(l.drop (i+1)).length:=by simp [nad,itn,len]
theorem aal {α:Type} (l:List α) (i:Nat) (ys:List α) (h:i+ys.length<=l.length):(dY l i ys).length=l.length:=by
 unfold dY;simp only[List.length_append,List.length_take,List.length_drop];omega
theorem adv (n:Nat):nad 0 n=n:=by simp [nad]
theorem agG (n:Nat):itn (nti n)=n:=by simp [itn,nti]
theorem akg {l:List ax} {i:Nat} (h:i<l.length) (hl:l.length<999999):dm l (i:Int) ((i+1:Nat):Int)=some (l.eraseIdx i):=by
 unfold dm
 have hdl:(l.drop (i+1)).length=l.length - (i+1):=List.length_drop ..
 rw[aeE l i h,qA,aeD l i h,adv,agG]
 have hlc:=aal l i (l.drop (i+1)) (by omega)
 rw[aT (by simp only[bH,dO,len];omega),lU,if_neg (by omega),aT (by simp only[bH,dO,len];omega),aT (by simp only[bH,dO,len];omega),aT (by simp only[ak,nti,dO,len];omega),
  aT (by simp only[bH,dO,len,aF,nti,hlc];omega)]
 congr 1
 exact cut_out l _ i h
theorem adV {l:List J9} (hl:l.length<1000) (hs:(l.flatMap (·.all)).length<1000000):iV l=some (l.flatMap (·.all)):=by
 have tk:∀ {i:Nat} (h:i<l.length),((l.take (i+1)).flatMap (·.all))=((l.take i).flatMap (·.all))++l[i].all:=fun h=>by
  rw[wR h,List.flatMap_append];simp
 have le:∀i:Nat,((l.take i).flatMap (·.all)).length<=(l.flatMap (·.all)).length:=fun i=>by
  have:(l.flatMap (·.all))=((l.take i).flatMap (·.all))++((l.drop i).flatMap (·.all)):=by rw[<-List.flatMap_append,List.take_append_drop]
  rw[this,List.length_append];omega
 have loop2:∀x:List Int,x=[]->Wq (bF (fun v:Int×List Int=>iy (len l) l v.fst v.snd) LF (0,x)) fun w=>w=l.flatMap (·.all):=by
  rintro _ rfl
  refine oP (n:=l.length) (by omega) (fun i x=>x=(l.take i).flatMap (·.all)) _ ?_ ?_ [] 0 (Nat.zero_le _) (by simp)
  ·rintro i x hi rfl
   simp only[iy]
   have:=le (i+1)
   rw[tk hi]at this
   rw[aT (by rw[jq];simpa using hi),aT (inb _ i hi),dI _ i hi,aT (oU (by simp only[len,jQ];omega)),au]
   exact⟨eF (by omega),(tk hi).symm⟩
  ·rintro x rfl
   simp only[iy]
   rw[gQ (abJ _),au,List.take_length]
 refine Wq.eq ?_
 unfold iV
 refine Wq.bind (oP (n:=l.length) (step:=fun v:Int×Int=>jy (len l) l v.fst v.snd) (by omega) (fun i x=>x=(((l.take i).flatMap (·.all)).length:Int)) (fun w=>w=((l.flatMap (·.all)).length:Int)) ?_ ?_ 0 0 (Nat.zero_le _) (by simp)) ?_
 ·rintro i x hi rfl
  simp only[jy]
  have h1:=le (i+1)
  rw[tk hi,List.length_append]at h1
  have e:wr .i64 (ak (((l.take i).flatMap (·.all)).length:Int) (len l[i].all))=(((l.take (i+1)).flatMap (·.all)).length:Int):=by
   rw[tk hi,List.length_append,ak,dX (by simp only[len];omega) (by simp only[len];omega)];simp only[len];omega
  rw[aT (by rw[jq];simpa using hi),aT (inb _ i hi),dI _ i hi,e,gQ (Gs (by omega)),au]
  exact⟨eF (by omega),rfl⟩
 ·rintro x rfl
  simp only[jy]
  rw[gQ (abJ _),au,List.take_length]
 ·rintro w rfl
  have e:wr .i64 (aF ((l.flatMap (·.all)).length:Int) 0)=((l.flatMap (·.all)).length:Int):=by rw[aF,dX (by omega) (by omega)];omega
  rw[gQ (Gs (by omega)),e,lq]
  constructor
  ·intro h
   rw[eH]at h
   rw[aT (by simp only[bH,eH,dO];omega),aT (oU (by simp only[len];omega))]
   exact(loop2 _ (by simp [aB])).bind fun a h=>(au _).2 h
  ·intro h
   exact(loop2 _ rfl).bind fun a h=>(au _).2 h
theorem aeu {l:List ax} {i:Nat} {f:ax} (h:i<=l.length) (hl:l.length<999999):aZ l (i:Int) [f]=some (l.take i++f::l.drop i):=by
 unfold aZ
 simp only[]
 rw[aT (by simp only[bH,dO,len,ak];omega),qA];rfl
theorem amE {i:Nat} (h:i<1000000):wr .i64 (ak (i:Int) 1)=((i+1:Nat):Int):=eF h
theorem XG {α:Type} [Inhabited α] (l:List α) (i:Nat) (h:i<l.length):ah l i=l[i]:=by simp [ah,h]
theorem Cm {P:Nm->Prop} {n:Nm} (h:P n):∀m∈[n],P m:=fun m hm=>by rw[List.mem_singleton.1 hm];exact h
theorem aeQ {d:ai} {n:Nm} (h:Ll d) (hn:n.length<999999):pI d n=some (kC d n):=by
 refine Wq.eq ?_
 unfold pI kC
 rw[OM h.nm (Cm hn) (by simp),aA,lH,lU,lH,lU]
 by_cases h0:jl d [n]=0
 case neg=>rw[if_neg h0,if_neg h0,au,if_pos h0]
 rw[if_pos h0,if_neg (fun g=>g h0)]
 obtain⟨hd,hw, -⟩:=kX.1 h0
 refine(Nu hd.asc (by have:=hd.fl;omega)).bind ?_
 rintro⟨k,b⟩ ⟨i,o,e1,e2,e3⟩
 simp only at e1 e3
 subst e1 e3
 have hg:=e2.get
 rw[hg]
 cases o with
 |none=>simp only[Option.isSome_none];rw[dG,cu,au]
 |some f=>
  obtain⟨hi,-, -⟩:=e2.lt
  have hl:=hd.fl
  simp only[Option.isSome_some]
  rw[dF,bU,amE (by omega)]
  simp only[J7 (show d.files.length<1000000 by omega),aA,akg hi (by omega)]
  rw[O8 d hd.1.2.2.1 h.fu (some (ai.mk d.files d.room d.fuse true,(9:Int))) (fun a b=>some (ai.mk (d.files.eraseIdx i) d.room a b,(0:Int))),e2.del]
  by_cases hs:(cO d).2=true
  ·rw[if_pos hs,au,if_pos hs];unfold aex;rw[bD,uo]
  ·rw[if_neg hs,au,if_neg hs,OO hs]
theorem ae9 {d:ai} {n:Nm} (h:Ll d) (hn:n.length<999999):ji d n=some (qC d n):=by
 refine Wq.eq ?_
 unfold ji qC
 rw[OM h.nm (Cm hn) (by simp),aA,lH,lU,lH,lU]
 by_cases h0:jl d [n]=0
 case neg=>rw[if_neg h0,if_neg h0,au,if_pos h0]
 rw[if_pos h0,if_neg (fun g=>g h0)]
 obtain⟨hd,hw, -⟩:=kX.1 h0
 refine(Nu hd.asc (by have:=hd.fl;omega)).bind ?_
 rintro⟨k,b⟩ ⟨i,o,e1,e2,e3⟩
 simp only at e1 e3
 subst e1 e3
 have hg:=e2.get
 rw[hg]
 cases o with
 |none=>simp only[Option.isSome_none];rw[dG,cu,au]
 |some f=>
  obtain⟨hi,hf,hfn⟩:=e2.lt
  have hl:=hd.fl
  simp only[Option.isSome_some]
  rw[dF,bU]
  simp only[J7 (show d.files.length<1000000 by omega),aA,aT (inb d.files i hi),qA,XG d.files i hi]
  rw[O8 d hd.1.2.2.1 h.fu (some (ai.mk d.files d.room d.fuse true,(9:Int))) (fun a b=>some (ai.mk (bf d.files i (ax.mk d.files[i].name d.files[i].data (len d.files[i].data))) d.room a b,(0:Int))),hf]
  have e:=e2.set (f:=⟨n,f.data,len f.data⟩) rfl
  by_cases hs:(cO d).2=true
  ·rw[if_pos hs,au,if_pos hs];unfold DJ bf;rw[bD,uo,hfn,e]
  ·rw[if_neg hs,au,if_neg hs,OO hs]
theorem XK {d:ai} {n:Nm} (h:Ll d) (hn:n.length<999999):kE d n=some (NP d n):=by
 refine Wq.eq ?_
 unfold kE NP
 rw[OM h.nm (Cm hn) (by simp),aA,lH,lU,lH,lU]
 by_cases h0:jl d [n]=0
 case neg=>rw[if_neg h0,if_neg h0,au,if_pos h0]
 rw[if_pos h0,if_neg (fun g=>g h0)]
 obtain⟨hd,hw, -⟩:=kX.1 h0
 refine(Nu hd.asc (by have:=hd.fl;omega)).bind ?_
 rintro⟨k,b⟩ ⟨i,o,e1,e2,e3⟩
 simp only at e1 e3
 subst e1 e3
 have hg:=e2.get
 rw[hg]
 cases o with
 |none=>simp only[Option.isSome_none];rw[dG,cu,au]
 |some f=>
  obtain⟨hi,hf,hfn⟩:=e2.lt
  have hb:=af2 (by have:=hd.us;omega:fP d.files<=10000000) (List.getElem_mem hi)
  have hus:=zu hi
  have hus2:=FK d.files (i+1)
  have:=hd.us
  simp only[Option.isSome_some]
  rw[dF,bU,aT (inb d.files i hi),dI d.files i hi,YF (by omega),aA,au,hf]
theorem YP {d:ai} {n:Nm} {b:List Int} (h:Ll d) (hn:n.length<999999) (hb:b.length<900000):iD d n b=some (eX d n b):=by
 refine Wq.eq ?_
 unfold iD eX
 rw[OM h.nm (Cm hn) (by simp),aA,lH,lU]
 by_cases h0:jl d [n]=0
 case neg=>rw[if_neg h0,au,if_pos h0]
 rw[if_pos h0,if_neg (fun g=>g h0)]
 obtain⟨hd,hw, -⟩:=kX.1 h0
 have hl:=hd.fl
 have hu:=hd.us
 have hr:=hd.1
 refine(Nu hd.asc (by omega)).bind ?_
 rintro⟨k,q⟩ ⟨i,o,e1,e2,e3⟩
 simp only at e1 e3
 subst e1 e3
 have hg:=e2.get
 rw[hg,amW (by omega) (by omega),aA]
 have e4:wr .i64 (aF d.room (fP d.files:Int))=d.room - (fP d.files:Int):=by rw[aF,S9 ⟨by omega,by omega⟩]
 have hcond:(bor (ilt (wr .i64 (aF d.room (fP d.files:Int))) (len b)) (band (aC o.isSome) (ieq (len d.files) 64))=true)↔(d.room<(fP d.files:Int)+(b.length:Int)\/(o=none/\64<=d.files.length)):=by
  rw[e4]
  simp only[bH,dH,dZ,fE,bM,bQ,eH,fG,dO,fK,bZ,dw,fO,fQ,len]
  cases o<;>simp<;>omega
 rw[lq]
 refine⟨fun hc=>(au _).2 ?_,fun hc=> ?_⟩
 ·rw[if_pos (hcond.1 hc)]
 rw[if_neg (fun g=>by rw[hcond.2 g]at hc;cases hc),J7 (by omega),aA]
 have hnot:¬(d.room<(fP d.files:Int)+(b.length:Int)\/(o=none/\64<=d.files.length)):=fun g=>by rw[hcond.2 g]at hc;cases hc
 cases o with
 |none=>
  simp only[Option.isSome_none,Option.getD_none,List.nil_append]
  have hil:=e2.le
  rw[dG,cu,aeu hil (by omega),aA,e2.ins rfl]
  have e5:qi ⟨n,[],0⟩ d.files=d.files.take i++⟨n,[],0⟩::d.files.drop i:=(e2.ins (f:=⟨n,[],0⟩) rfl).symm
  have hlen:(d.files.take i).length=i:=by rw[List.length_take];omega
  have hi:i<(qi ⟨n,[],0⟩ d.files).length:=by rw[e5];simp;omega
  have hgt:(qi ⟨n,[],0⟩ d.files)[i]=⟨n,[],0⟩:=by
   simp only[e5]
   rw[List.getElem_append_right (by omega)]
   simp [hlen]
  have hst:bf (qi ⟨n,[],0⟩ d.files) i ⟨n,b,0⟩=qi ⟨n,b,0⟩ d.files:=by
   rw[<-e2.ins (f:=⟨n,b,0⟩) rfl,e5]
   unfold bf
   rw[List.set_append_right _ _ (by omega)]
   simp [hlen]
  rw[aT (inb _ i hi),dI _ i hi,hgt,adV (by simp) (by simp only[List.flatMap_cons,List.flatMap_nil,List.append_nil,List.nil_append];omega),aA,aT (inb _ i hi),qA]
  simp only[List.flatMap_cons,List.flatMap_nil,List.nil_append,List.append_nil]
  have e6:ah (qi ⟨n,[],0⟩ d.files) i=⟨n,[],0⟩:=by rw[XG _ i hi,hgt]
  rw[hst,O8 d hd.1.2.2.1 h.fu (some (ai.mk (qi ⟨n,b,0⟩ d.files) d.room d.fuse true,(9:Int))) (fun x y=>some (ai.mk (qi ⟨n,b,0⟩ d.files) d.room x y,(0:Int)))]
  have sw:cO (DJ d ⟨n,b,0⟩)=(⟨qi ⟨n,b,0⟩ d.files,d.room,(cO d).1.fuse,(cO d).1.down⟩,(cO d).2):=by
   unfold cO DJ;split<;>(try split)<;>rfl
  rw[sw]
  unfold ain
  simp only[]
  by_cases hs:(cO d).2=true
  ·rw[if_pos hs,au,if_pos hs]
  ·rw[if_neg hs,au,if_neg hs,OO hs]
 |some f=>
  simp only[Option.isSome_some,Option.getD_some]
  obtain⟨hi,hf,hfn⟩:=e2.lt
  have hus:=zu hi
  have hus2:=FK d.files (i+1)
  rw[dF,bU,aT (inb _ i hi),dI _ i hi,hf,adV (by simp) (by simp only[List.flatMap_cons,List.flatMap_nil,List.append_nil,List.length_append];rw[hf]at hus;omega),aA,aT (inb _ i hi),qA]
  simp only[List.flatMap_cons,List.flatMap_nil,List.append_nil]
  have e6:ah d.files i=f:=by rw[XG _ i hi,hf]
  have hst:bf d.files i ⟨f.name,f.data++b,f.sure⟩=qi ⟨n,f.data++b,f.sure⟩ d.files:=by rw[hfn];exact e2.set rfl
  rw[hst,O8 d hd.1.2.2.1 h.fu (some (ai.mk (qi ⟨n,f.data++b,f.sure⟩ d.files) d.room d.fuse true,(9:Int))) (fun x y=>some (ai.mk (qi ⟨n,f.data++b,f.sure⟩ d.files) d.room x y,(0:Int)))]
  have sw:cO (DJ d ⟨n,f.data++b,f.sure⟩)=(⟨qi ⟨n,f.data++b,f.sure⟩ d.files,d.room,(cO d).1.fuse,(cO d).1.down⟩,(cO d).2):=by
   unfold cO DJ;split<;>(try split)<;>rfl
  rw[sw]
  unfold ain
  simp only[]
  by_cases hs:(cO d).2=true
  ·rw[if_pos hs,au,if_pos hs]
  ·rw[if_neg hs,au,if_neg hs,OO hs]
theorem aiy {α:Type} (l:List α) (i:Nat) (x y:α):bf (bf l i x) i y=bf l i y:=by simp [bf]
theorem ah1 {α:Type} [Inhabited α] (l:List α) (i:Nat) (x:α) (h:i<l.length):ah (bf l i x) i=x:=by simp [ah,bf,h]
theorem alA (a b:Int):kH a b=if b<a then b else a:=by
 unfold kH;rfl
theorem aor {d:ai} {n:Nm} {k:Int} (h:Ll d) (hn:n.length<999999):uf d n k=some (CU d n k):=by
 refine Wq.eq ?_
 unfold uf CU
 rw[OM h.nm (Cm hn) (by simp),aA,lH,lU,lH,lU]
 by_cases h0:jl d [n]=0
 case neg=>rw[if_neg h0,if_neg h0,au,if_pos h0]
 rw[if_pos h0,if_neg (fun g=>g h0)]
 obtain⟨hd,hw, -⟩:=kX.1 h0
 refine(Nu hd.asc (by have:=hd.fl;omega)).bind ?_
 rintro⟨k0,q⟩ ⟨i,o,e1,e2,e3⟩
 simp only at e1 e3
 subst e1 e3
 have hg:=e2.get
 rw[hg]
 cases o with
 |none=>simp only[Option.isSome_none];rw[dG,cu,au]
 |some f=>
  obtain⟨hi,hf,hfn⟩:=e2.lt
  have hl:=hd.fl
  have hus:=zu hi
  have hus2:=FK d.files (i+1)
  have:=hd.us
  rw[hf]at hus
  simp only[Option.isSome_some]
  rw[dF,bU,agB,agB]
  by_cases hk:k<0
  ·rw[if_pos hk,if_pos hk,au,if_pos (.inl hk)]
  rw[if_neg hk,aT (inb _ i hi),dI _ i hi,hf,agB]
  by_cases hk2:len f.data<k
  ·rw[if_pos hk2,au,if_pos (.inr hk2)]
  rw[if_neg hk2,if_neg (fun g=>g.elim hk hk2)]
  have hkk:band (ile 0 k) (ile k (len f.data))=true:=GU (oU (by omega)) (oU (by omega))
  have htl:(aB f.data (itn k)).length<1000000:=by unfold aB;rw[List.length_take];omega
  simp only[J7 (show d.files.length<1000000 by omega),aA,aT (inb d.files i hi),qA,XG d.files i hi,hf,aT hkk,YF htl,aiy,ah1 d.files i _ hi]
  rw[O8 d hd.1.2.2.1 h.fu (some (ai.mk d.files d.room d.fuse true,(9:Int))) (fun a b=>some (ai.mk (bf d.files i (ax.mk f.name (aB f.data (itn k)) (kH f.sure k))) d.room a b,(0:Int))),alA]
  have e:=e2.set (f:=⟨n,f.data.take k.toNat,if k<f.sure then k else f.sure⟩) rfl
  by_cases hs:(cO d).2=true
  ·rw[if_pos hs,au,if_pos hs];unfold DJ bf aB itn;rw[bD,uo,hfn,e]
  ·rw[if_neg hs,au,if_neg hs,OO hs]
theorem amT {d:ai} {x:ax} (ha:Je d.files) (hl:d.files.length<=100000) {α:Type} (R:List ax->Option α) (Q:α->Prop) (h:Wq (R (qi x d.files)) Q):
 Wq (af (dB d x.name) fun y9 => cnd y9.snd (cnd (band (ile 0 y9.fst) (ilt y9.fst (len d.files))) (R (bf d.files (itn y9.fst) x)) none) (af (aZ d.files y9.fst [x]) fun y10 => R y10)) Q:=by
 refine(Nu ha hl).bind ?_
 rintro⟨k0,q⟩ ⟨i,o,e1,e2,e3⟩
 simp only at e1 e3
 subst e1 e3
 cases o with
 |none=>
  have:=e2.le
  simp only[Option.isSome_none]
  rw[bU,aeu this (by omega),aA,e2.ins rfl]
  exact h
 |some f=>
  obtain⟨hi,hf,hfn⟩:=e2.lt
  simp only[Option.isSome_some]
  rw[cu,aT (inb _ i hi),qA]
  unfold bf
  rw[e2.set rfl]
  exact h
theorem acJ {n:Nm} {l:List ax} (h:Je l):Je (xE n l):=by
 unfold Je xE;exact List.Pairwise.sublist List.filter_sublist h
theorem aeG {l:List ax} {i:Nat} (h:i<l.length):
 aB (dY (dY l i (l.drop (i+1))) (i+(l.drop (i+1)).length) (ja ax (itn (aF (len l) (nti (i+(l.drop (i+1)).length)))))) (i+(l.drop (i+1)).length)=l.eraseIdx i:=cut_out l _ i h
theorem aes {d:ai} {a b:Nm} (h:Ll d) (hna:a.length<999999) (hnb:b.length<999999):jJ d a b=some (kR d a b):=by
 refine Wq.eq ?_
 unfold jJ kR
 have hns:∀m∈jQ [b] [a],m.length<999999:=by intro m hm;simp [jQ]at hm;rcases hm with rfl | rfl<;>assumption
 rw[aT (oU (by simp [len,jQ])),OM h.nm hns (by simp [jQ]),aA,lH,lU,lH,lU,show jl d (jQ [b] [a])=jl d [a,b]from af9 d b a]
 by_cases h0:jl d [a,b]=0
 case neg=>rw[if_neg h0,if_neg h0,au,if_pos h0]
 rw[if_pos h0,if_neg (fun g=>g h0)]
 obtain⟨hd,hw, -⟩:=kX.1 h0
 refine(Nu hd.asc (by have:=hd.fl;omega)).bind ?_
 rintro⟨k0,q⟩ ⟨i,o,e1,e2,e3⟩
 simp only at e1 e3
 subst e1 e3
 have hg:=e2.get
 rw[hg]
 cases o with
 |none=>simp only[Option.isSome_none];rw[dG,cu,au]
 |some f=>
  obtain⟨hi,hf,hfn⟩:=e2.lt
  have hl:=hd.fl
  have hdl:(d.files.drop (i+1)).length=d.files.length - (i+1):=List.length_drop ..
  have hlc:=aal d.files i (d.files.drop (i+1)) (by omega)
  simp only[Option.isSome_some]
  rw[dF,bU]
  have tl:=aeE d.files i hi
  rw[qA]at tl
  simp only[J7 (show d.files.length<1000000 by omega),aA,amE (show i<1000000 by omega),qA,tl,XG d.files i hi,hf]
  have hf':ah d.files (itn (i:Int))=f:=by rw[qA,XG _ _ hi,hf]
  have c1:band (ile 0 (i:Int)) (ilt (i:Int) (len d.files))=true:=inb _ i hi
  have c2:band (band (band (ile 0 (i:Int)) (ile (i:Int) ((i+1:Nat):Int))) (ile ((i+1:Nat):Int) (len d.files))) (band (ile ((i+1:Nat):Int) (len d.files)) (ile (len d.files) (len d.files)))=true:=by
   simp only[bH,dO,len];omega
  have c3:ieq (i:Int) ((i+1:Nat):Int)=false:=by rw[dw];omega
  have c4:band (ile 0 (i:Int)) (ile (i:Int) (len d.files))=true:=by simp only[bH,dO,len];omega
  have c5:band (ile 0 ((i+1:Nat):Int)) (ile ((i+1:Nat):Int) (len d.files))=true:=by simp only[bH,dO,len];omega
  have c6:ile (ak (nti i) (len (d.files.drop (i+1)))) (len d.files)=true:=by simp only[ak,nti,dO,len];omega
  have c7:band (band (ile 0 (nti (i+(d.files.drop (i+1)).length))) (ile (nti (i+(d.files.drop (i+1)).length)) (len d.files))) (ile (len d.files) (aF (len (dY d.files i (d.files.drop (i+1)))) 0))=true:=by
   simp only[bH,dO,len,aF,nti,hlc];omega
  simp only[aeD d.files i hi,adv,agG,aT c1,aT c2,gQ c3,aT c4,aT c5,aT c6,aT c7,aeG hi,e2.del]
  have key:=O8 d hd.1.2.2.1 h.fu (some (ai.mk d.files d.room d.fuse true,(9:Int))) (fun x y=>af (dB (ai.mk (xE a d.files) d.room x y) b) fun y9 => cnd y9.snd (cnd (band (ile 0 y9.fst) (ilt y9.fst (len (xE a d.files)))) (some (ai.mk (bf (xE a d.files) (itn y9.fst) (ax.mk b f.data f.sure)) d.room x y,(0:Int))) none) (af (aZ (xE a d.files) y9.fst [ax.mk b f.data f.sure]) fun y10 => some (ai.mk y10 d.room x y,(0:Int))))
  rw[key]
  by_cases hs:(cO d).2=true
  ·rw[if_pos hs,if_pos hs]
   have hdl2:=XC a d.files
   refine amT (d:=ai.mk (xE a d.files) d.room (cO d).1.fuse (cO d).1.down) (x:=⟨b,f.data,f.sure⟩) (acJ hd.asc) (by simp only;omega) (fun l=>some (ai.mk l d.room (cO d).1.fuse (cO d).1.down,(0:Int))) _ ?_
   rw[au];unfold DJ aex;simp only;rw[bD,uo]
  ·rw[if_neg hs,au,if_neg hs,OO hs]
def DR (f:ax) (k:Int):ax:=⟨f.name,f.data.take (f.sure+kH (imax k 0) (len f.data - f.sure)).toNat,f.sure+kH (imax k 0) (len f.data - f.sure)⟩
def BI (keep:List Int) (i:Nat):Int:=if keep=[]then 0 else ah keep (i%keep.length)
def LQ (d:ai) (keep:List Int) (fuse:Int):ai×Int:=
 if iU d/\ -1<=fuse then (⟨d.files.mapIdx fun i f=>DR f (BI keep i),d.room,fuse,false⟩,0)else (d,1)
theorem agH {f:ax} (h1:0<=f.sure) (h2:f.sure<=len f.data) (k:Int):f.sure<=f.sure+kH (imax k 0) (len f.data - f.sure)/\f.sure+kH (imax k 0) (len f.data - f.sure)<=len f.data:=by
 unfold kH imax;split<;>split<;>omega
theorem ajw {f:ax} {k:Int} (h1:0<=f.sure) (h2:f.sure<=len f.data) (h3:f.data.length<900000):zZ f k=some (DR f k):=by
 unfold zZ DR
 have e1:wr .i64 (aF (len f.data) f.sure)=len f.data - f.sure:=by rw[aF,dX (by omega) (by simp only[len];omega)]
 have g:=agH h1 h2 k
 have e2:wr .i64 (ak f.sure (kH (imax k 0) (len f.data - f.sure)))=f.sure+kH (imax k 0) (len f.data - f.sure):=by rw[ak,dX (by omega) (by simp only[len]at g ⊢; omega)]
 rw[e1,e2,aT (GU (oU (by omega)) (oU (by omega))),YF (by unfold aB;rw[List.length_take];omega),aA];rfl
theorem ajs {d:ai} {keep:List Int} {fuse:Int} (h:Ll d) (hk:keep.length<1000000):Ac d keep fuse=some (LQ d keep fuse):=by
 refine Wq.eq ?_
 unfold Ac LQ
 rw[KD h.nm,aA,lq]
 refine⟨fun hc=> ?_,fun hc=> ?_⟩
 ·simp only[bH,dH,dZ,fE,bM,bQ,eH,fG,dO,fK,bZ,dw,fO,fQ,decide_eq_false_iff_not]at hc
  rw[au,if_neg]
  rintro⟨g1,g2⟩
  rcases hc with c | c
  ·exact c g1
  ·omega
 simp only[bH,dH,dZ,fE,bM,bQ,eH,fG,dO,fK,bZ,dw,fO,fQ,decide_eq_true_iff]at hc
 obtain⟨hd,hf⟩:=hc
 have hl:=hd.fl
 rw[if_pos ⟨hd,hf⟩,J7 (by omega),aA]
 refine Wq.bind (Q:=fun w:Unit×Int×Int×Bool×List ax=>w.2.1=d.room/\w.2.2.2.2=d.files.mapIdx fun i f=>DR f (BI keep i))
  (oP (n:=d.files.length) (step:=fun v:Int×Unit×Int×Int×Bool×List ax=>qJ (len d.files) keep v.fst v.snd.fst v.snd.snd.fst v.snd.snd.snd.fst v.snd.snd.snd.snd.fst v.snd.snd.snd.snd.snd) (by omega)
    (fun i x=>x.2.1=d.room/\x.2.2.2.2.length=d.files.length/\(∀(j:Nat) (g:j<x.2.2.2.2.length) (g2:j<d.files.length),x.2.2.2.2[j]=if j<i then DR d.files[j] (BI keep j)else d.files[j])) _ ?_ ?_ _ 0 (Nat.zero_le _) ⟨rfl,rfl,fun j g g2=>by simp⟩) ?_
 ·rintro i ⟨u,r,fz,dn,l⟩ hi ⟨h1,h2,h3⟩
  simp only at h1 h2 h3
  simp only[qJ]
  have hil:i<l.length:=by omega
  have hg:=h3 i hil hi
  rw[if_neg (by omega)]at hg
  have hok:=hd.2.1.1 _ (List.getElem_mem hi)
  have hus:=zu hi
  have hus2:=FK d.files (i+1)
  have hu:=hd.us
  rw[aT (by rw[jq];simpa using hi),aT (inb _ i hil),dI _ i hil,hg,qA]
  have next:∀k:Int,k=BI keep i->(match (Sum.inl (wr .i64 (ak (i:Int) 1),u,r,fz,dn,bf l i (DR d.files[i] k)):(Int×Unit×Int×Int×Bool×List ax) ⊕ (Unit×Int×Int×Bool×List ax))with
   |.inl (k,x')=>k=((i+1:Nat):Int)/\x'.2.1=d.room/\x'.2.2.2.2.length=d.files.length/\(∀(j:Nat) (g:j<x'.2.2.2.2.length) (g2:j<d.files.length),x'.2.2.2.2[j]=if j<i+1 then DR d.files[j] (BI keep j)else d.files[j])
   |.inr w=>w.2.1=d.room/\w.2.2.2.2=d.files.mapIdx fun i f=>DR f (BI keep i)):=by
   rintro _ rfl
   refine⟨eF (by omega),h1,by rw[FN];exact h2,fun j g g2=> ?_⟩
   have gl:j<l.length:=by simp only[FN]at g;exact g
   simp only[bf]
   rw[List.getElem_set]
   by_cases e:i=j
   ·subst e;rw[if_pos rfl,if_pos (by omega)]
   ·rw[if_neg e,h3 j gl g2]
    by_cases c:j<i
    ·rw[if_pos c,if_pos (by omega)]
    ·rw[if_neg c,if_neg (by omega)]
  rw[agB]
  by_cases hk0:0<len keep
  ·rw[if_pos hk0]
   have hkl:0<keep.length:=by simp only[len]at hk0;omega
   have em:I4 (i:Int) (len keep)=((i%keep.length:Nat):Int):=by unfold I4 len;rw[Int.tmod_eq_emod_of_nonneg (by omega)];rfl
   have hm:i%keep.length<keep.length:=Nat.mod_lt _ hkl
   rw[lH,lU,if_neg (by omega),em,aT (inb _ _ hm),qA,ajw hok.2.1 hok.2.2 (by omega),aA,aT (inb _ i hil),au]
   exact next _ (by unfold BI;rw[if_neg (by intro e;rw[e]at hkl;simp at hkl)])
  ·rw[if_neg hk0,ajw hok.2.1 hok.2.2 (by omega),aA,aT (inb _ i hil),au]
   exact next _ (by unfold BI;rw[if_pos (List.eq_nil_of_length_eq_zero (by simp only[len]at hk0;omega))])
 ·rintro⟨u,r,fz,dn,l⟩ ⟨h1,h2,h3⟩
  simp only at h1 h2 h3
  simp only[qJ]
  rw[gQ (abJ _),au]
  refine⟨h1,?_⟩
  refine List.ext_getElem (by rw[List.length_mapIdx];exact h2) fun j g1 g2=> ?_
  have g1':j<l.length:=g1
  rw[List.getElem_mapIdx,h3 j g1 (by omega),if_pos (by omega)]
 ·rintro⟨u,r,fz,dn,l⟩ ⟨h1,h2⟩
  rw[au]
  simp only at h1 h2
  simp only[h1,h2]
theorem ahu (d:ai) (hl:okL zf d.files):Wq (nN d) fun b=>b=true->d.files.length<=70/\∀f∈d.files,f.name.length<=100/\f.data.length<=70000:=by
 unfold nN
 rw[lq]
 refine⟨fun h=>(au _).2 (by intro g;cases g),fun h=> ?_⟩
 simp only[bH,dH,dZ,fE,bM,bQ,eH,fG,dO,fK,bZ,dw,fO,fQ,len]at h
 refine Wq.bind (Q:=fun w=>match w with
  |.inl b=>b=false
  |.inr _=>∀f∈d.files,f.name.length<=100/\f.data.length<=70000)
  (oP (n:=d.files.length) (step:=fun v:Int×Int×Bool=>jf d v.fst v.snd.fst v.snd.snd) (by omega) (fun i x=>∀f∈d.files.take i,f.name.length<=100/\f.data.length<=70000) _ ?_ ?_ _ 0 (Nat.zero_le _) (by simp)) ?_
 ·rintro i ⟨n,q⟩ hi hx
  simp only[jf]
  rw[aT (by rw[jq];simpa using hi),aT (inb _ i hi),aT (by rw[dZ];exact .inl (inb _ i hi)),dI _ i hi,aT (inb _ i hi),lq,au,au]
  refine⟨fun _=>rfl,fun hb=>⟨eF (by omega),?_⟩⟩
  simp only[bH,dH,dZ,fE,bM,bQ,eH,fG,dO,fK,bZ,dw,fO,fQ,len]at hb
  rw[wR hi]
  intro f hf
  rcases List.mem_append.1 hf with c | c
  ·exact hx f c
  ·rw[List.mem_singleton.1 c];omega
 ·rintro⟨n,q⟩ hx
  simp only[jf]
  rw[gQ (abJ _),au]
  rwa[List.take_length]at hx
 ·rintro(w | w) hw
  ·simp only[qf,au];simp only at hw;rw[hw];intro g;cases g
  ·simp only[qf,au];exact fun _=>⟨by omega,hw⟩
def ams {α:Type}:List Int->Int->(Int->Option α)->Option α
 |[],n,k=>k n
 |b::l,n,k=>af (bK (wr .u32 (nO .u32 (wr .u32 (fV .u32 n (wr .u32 b))) 15))) fun y0=>af (bK (wr .u32 (nO .u32 (wr .u32 (fV .u32 y0 (cZ .u32 (wr .u32 (fV .u32 n (wr .u32 b))) 4))) 15))) fun y1=>
  ams l (wr .u32 (fV .u32 y1 (cZ .u32 (wr .u32 (fV .u32 y0 (cZ .u32 (wr .u32 (fV .u32 n (wr .u32 b))) 4))) 4))) k
theorem adK {α:Type} (k:Int->Option α):∀(l:List Int) (n:B32),eP l->ams l (toI n) k=k (toI (aag n l))
 |[],n,_=>rfl
 |b::l,n,hb=>by
  have e15:(15:Int)=toI 15#32:=rfl
  obtain⟨b1,b2⟩:=hb b (List.mem_cons_self ..)
  have e4:∀x:B32,cZ .u32 (toI x) 4=toI (x >>> 4):=fun x=>akn x 4 (by decide)
  have ih:=adK k l (hN 8 (n ^^^ ofB b)) fun x hx=>hb x (List.mem_cons_of_mem _ hx)
  rw[ams,ad4 b1 b2,PU,e15,adw,KT,aA,e4,PU,alX,adw,KT,aA,e4,PU,alX,<-acf]
  exact ih
def sh8 (n k:Int):Int:=wr .u8 (cZ .i64 n k)
def adf (s:dD):List Int:=[sh8 s.gen 56,sh8 s.gen 48,sh8 s.gen 40,sh8 s.gen 32,sh8 s.gen 24,sh8 s.gen 16,sh8 s.gen 8,sh8 s.gen 0,sh8 s.lsn 56,sh8 s.lsn 48,sh8 s.lsn 40,sh8 s.lsn 32,sh8 s.lsn 24,sh8 s.lsn 16,sh8 s.lsn 8,sh8 s.lsn 0]
def anz (s:dD) (n:Int):aeK:=⟨sh8 s.gen 56,sh8 s.gen 48,sh8 s.gen 40,sh8 s.gen 32,sh8 s.gen 24,sh8 s.gen 16,sh8 s.gen 8,sh8 s.gen 0,sh8 s.lsn 56,sh8 s.lsn 48,sh8 s.lsn 40,sh8 s.lsn 32,sh8 s.lsn 24,sh8 s.lsn 16,sh8 s.lsn 8,sh8 s.lsn 0,
 wr .u8 (cZ .u32 (wr .u32 (fV .u32 4294967295 n)) 0),wr .u8 (cZ .u32 (wr .u32 (fV .u32 4294967295 n)) 8),wr .u8 (cZ .u32 (wr .u32 (fV .u32 4294967295 n)) 16),wr .u8 (cZ .u32 (wr .u32 (fV .u32 4294967295 n)) 24)⟩
theorem amQ (s:dD):nC s=ams (adf s) 4294967295 fun n=>some (anz s n):=rfl
def oG (s:dD):List Int:=rU s.gen 8++rU s.lsn 8
def mD (s:dD):List Int:=oG s++qB (wY (oG s))
def toL (a:aeK):List Int:=[a.a0,a.a1,a.a2,a.a3,a.a4,a.a5,a.a6,a.a7,a.a8,a.a9,a.a10,a.a11,a.a12,a.a13,a.a14,a.a15,a.a16,a.a17,a.a18,a.a19]
def yR (s:dD):Prop:=1<=s.gen/\s.gen<=1000000000/\0<=s.lsn/\s.lsn<=1000000000
instance (s:dD):Decidable (yR s):=by unfold yR;infer_instance
theorem JV (s:dD):(oG s).length=16:=by simp [oG,ru]
theorem Fh (s:dD):(mD s).length=20:=by simp [mD,JV,qB]
theorem YG (s:dD):eP (oG s):=(Jq _ _).app (Jq _ _)
theorem afo (s:dD):eP (mD s):=(YG s).app (Yn _)
theorem Og (n:Int) {i:Nat} (hi:i<8):sh8 n (wr .i64 (jr 8 (i:Int)))=n / 256^i%256:=(byte_of hi).2
theorem aoL (n:Int):sh8 n 0=n / 256^0%256:=Og n (i:=0) (by decide)
theorem aos (n:Int):sh8 n 8=n / 256^1%256:=Og n (i:=1) (by decide)
theorem aon (n:Int):sh8 n 16=n / 256^2%256:=Og n (i:=2) (by decide)
theorem aoO (n:Int):sh8 n 24=n / 256^3%256:=Og n (i:=3) (by decide)
theorem aoK (n:Int):sh8 n 32=n / 256^4%256:=Og n (i:=4) (by decide)
theorem aoM (n:Int):sh8 n 40=n / 256^5%256:=Og n (i:=5) (by decide)
theorem aok (n:Int):sh8 n 48=n / 256^6%256:=Og n (i:=6) (by decide)
theorem aou (n:Int):sh8 n 56=n / 256^7%256:=Og n (i:=7) (by decide)
theorem ael (s:dD):adf s=oG s:=by
 unfold adf oG
 simp only[aoL,aos,aon,aoO,aoK,aoM,aok,aou,rU,List.cons_append,List.nil_append]
theorem RG (s:dD):Wq (nC s) fun a=>toL a=mD s:=by
 rw[amQ,ael,show(4294967295:Int)=toI ones from rfl,adK _ _ _ (YG s),au]
 have e:wr .u32 (fV .u32 (toI ones) (toI (aag ones (oG s))))=wY (oG s):=PU _ _
 have t0:wr .u8 (cZ .u32 (wY (oG s)) 0)=wY (oG s) / 256^0%256:=(Ue (n:=wY (oG s)) (i:=0) (by decide)).2
 have t1:wr .u8 (cZ .u32 (wY (oG s)) 8)=wY (oG s) / 256^1%256:=(Ue (n:=wY (oG s)) (i:=1) (by decide)).2
 have t2:wr .u8 (cZ .u32 (wY (oG s)) 16)=wY (oG s) / 256^2%256:=(Ue (n:=wY (oG s)) (i:=2) (by decide)).2
 have t3:wr .u8 (cZ .u32 (wY (oG s)) 24)=wY (oG s) / 256^3%256:=(Ue (n:=wY (oG s)) (i:=3) (by decide)).2
 have e':wr .u32 (fV .u32 4294967295 (toI (aag ones (oG s))))=wY (oG s):=e
 have key:toL (anz s (toI (aag ones (oG s))))=adf s++[wY (oG s) / 256^0%256,wY (oG s) / 256^1%256,wY (oG s) / 256^2%256,wY (oG s) / 256^3%256]:=by
  unfold toL anz adf
  simp only[e',t0,t1,t2,t3,List.cons_append,List.nil_append]
 rw[key,ael]
 unfold mD qB
 simp
theorem anX {b:List Int} {i:Nat} (h:i+8<=b.length):(b.drop i).take 8=[ah b i,ah b (i+1),ah b (i+2),ah b (i+3),ah b (i+4),ah b (i+5),ah b (i+6),ah b (i+7)]:=by
 refine List.ext_getElem (by simp;omega) fun j h1 h2=> ?_
 simp only[List.length_cons,List.length_nil]at h2
 rw[List.getElem_take,List.getElem_drop]
 match j,h2 with
 |0,_=>simp [ah,show i<b.length by omega]
 |1,_=>simp [ah,show i+1<b.length by omega]
 |2,_=>simp [ah,show i+2<b.length by omega]
 |3,_=>simp [ah,show i+3<b.length by omega]
 |4,_=>simp [ah,show i+4<b.length by omega]
 |5,_=>simp [ah,show i+5<b.length by omega]
 |6,_=>simp [ah,show i+6<b.length by omega]
 |7,_=>simp [ah,show i+7<b.length by omega]
 |j+8,h=>omega
def or8 (a c:Int):Int:=wr .i64 (ior .i64 (wr .i64 (o7 .i64 a 8)) (wr .i64 c))
theorem QB {n c:Int} (h:0<=c/\c<=255):or8 (wr .i64 n) c=wr .i64 (n*256+c):=by
 unfold or8;rw[abU _ _ h.1 h.2,aj9]
theorem aoH {b:List Int} (hb:eP b) {i:Nat} (h:i+8<=b.length):
 or8 (or8 (or8 (or8 (or8 (or8 (or8 (wr .i64 (ior .i64 0 (wr .i64 (ah b i)))) (ah b (i+1))) (ah b (i+2))) (ah b (i+3))) (ah b (i+4))) (ah b (i+5))) (ah b (i+6))) (ah b (i+7))=at8 b i:=by
 have rng:∀j,j<b.length->0<=ah b j/\ah b j<=255:=fun j hj=>by
  have:=hb.get hj
  rw[XG b j hj];exact this
 have e0:wr .i64 (ior .i64 0 (wr .i64 (ah b i)))=wr .i64 (0*256+ah b i):=abU 0 _ (rng i (by omega)).1 (rng i (by omega)).2
 rw[e0,QB (rng _ (by omega)),QB (rng _ (by omega)),QB (rng _ (by omega)),QB (rng _ (by omega)),QB (rng _ (by omega)),QB (rng _ (by omega)),QB (rng _ (by omega))]
 unfold at8
 rw[anX h]
 rfl
def atS (b:List Int):dD:=⟨at8 b 0,at8 b 8⟩
def slD (b:List Int):dD×Int:=if b.length≠20 then (⟨0,0⟩,2)else if b.drop 16≠qB (wY (b.take 16))then (⟨0,0⟩,10)else if yR (atS b)then (atS b,0)else (⟨0,0⟩,2)
theorem ajZ {b:List Int} (hb:eP b) (h:b.length=20):oG (atS b)=b.take 16:=by
 unfold oG atS at8
 simp only
 rw[afm ((hb.drop 0).take 8) (by simp;omega),afm ((hb.drop 8).take 8) (by simp;omega)]
 rw[show(16:Nat)=8+8 from rfl,List.take_add,List.drop_zero]
theorem ajY {b:List Int} (hb:eP b) (h:b.length=20):mD (atS b)=b↔b.drop 16=qB (wY (b.take 16)):=by
 unfold mD
 rw[ajZ hb h]
 constructor
 ·intro e
  have:=congrArg (List.drop 16) e
  rw[List.drop_append_of_le_length (by rw[List.length_take];omega),List.drop_eq_nil_of_le (by rw[List.length_take];omega),List.nil_append]at this
  exact this.symm
 ·intro e;rw[<-e,List.take_append_drop]
theorem Ru (s:dD):tY s=some (decide (yR s)):=by
 refine Wq.dec ?_
 unfold tY yR
 rw[au]
 simp only[bH,dH,dZ,fE,bM,bQ,eH,fG,dO,fK,bZ,dw,fO,fQ]
 omega
theorem ajC {b:List Int} (h:b.length=20):b=[ah b 0,ah b 1,ah b 2,ah b 3,ah b 4,ah b 5,ah b 6,ah b 7,ah b 8,ah b 9,ah b 10,ah b 11,ah b 12,ah b 13,ah b 14,ah b 15,ah b 16,ah b 17,ah b 18,ah b 19]:=by
 match b,h with
 |[_,_,_,_,_,_,_,_,_,_,_,_,_,_,_,_,_,_,_,_],_=>rfl
theorem Ql {b:List Int} (hb:eP b):lu b=some (slD b):=by
 refine Wq.eq ?_
 unfold lu slD
 rw[lH,lU]
 by_cases h:b.length=20
 case neg=>rw[if_neg (by simp only[len];omega),au,if_pos h]
 rw[if_pos (by simp only[len];omega),if_neg (fun g=>g h)]
 have hg:=aoH hb (i:=0) (by omega)
 have hl:=aoH hb (i:=8) (by omega)
 unfold or8 at hg hl
 simp only[Nat.zero_add,Nat.reduceAdd]at hg hl
 have lt:∀k:Int,k<20->ilt k (len b)=true:=fun k hk=>EP (by simp only[len];omega)
 simp only[hg,hl]
 rw[aT (lt 0 (by decide)),aT (lt 8 (by decide)),aT (lt 1 (by decide)),aT (lt 9 (by decide)),aT (lt 2 (by decide)),aT (lt 10 (by decide)),aT (lt 3 (by decide)),aT (lt 11 (by decide)),aT (lt 4 (by decide)),aT (lt 12 (by decide)),aT (lt 5 (by decide)),aT (lt 13 (by decide)),aT (lt 6 (by decide)),aT (lt 14 (by decide)),aT (lt 7 (by decide)),aT (lt 15 (by decide))]
 refine(RG (atS b)).bind fun a ha=> ?_
 rw[aT (oU (by simp only[len];omega)),lq]
 have hcmp:toL a=b↔b.drop 16=qB (wY (b.take 16)):=by rw[ha];exact ajY hb h
 have hcmp2:toL a=b↔(a.a0=ah b 0/\a.a1=ah b 1/\a.a2=ah b 2/\a.a3=ah b 3/\a.a4=ah b 4/\a.a5=ah b 5/\a.a6=ah b 6/\a.a7=ah b 7/\a.a8=ah b 8/\a.a9=ah b 9/\a.a10=ah b 10/\a.a11=ah b 11/\a.a12=ah b 12/\a.a13=ah b 13/\a.a14=ah b 14/\a.a15=ah b 15/\a.a16=ah b 16/\a.a17=ah b 17/\a.a18=ah b 18/\a.a19=ah b 19):=by
  have:=ajC h
  generalize ah b 0=b0,ah b 1=b1,ah b 2=b2,ah b 3=b3,ah b 4=b4,ah b 5=b5,ah b 6=b6,ah b 7=b7,ah b 8=b8,ah b 9=b9,ah b 10=b10,ah b 11=b11,ah b 12=b12,ah b 13=b13,ah b 14=b14,ah b 15=b15,ah b 16=b16,ah b 17=b17,ah b 18=b18,ah b 19=b19 at this ⊢
  subst this
  simp only[toL,List.cons.injEq,and_true]
 refine⟨fun hc=>(au _).2 ?_,fun hc=> ?_⟩
 ·rw[if_pos]
  rw[bM]at hc
  intro e
  have e2:=hcmp2.1 (hcmp.2 e)
  rw[<-Bool.not_eq_true]at hc
  apply hc
  simp only[bH,bZ,and_true]
  exact e2
 ·rw[bQ]at hc
  simp only[bH,bZ,and_true]at hc
  have e:=hcmp.1 (hcmp2.2 hc)
  rw[if_neg (fun g=>g e),Ru,aA,lH,Oo]
  have ea:dD.mk (at8 b 0) (at8 b 8)=atS b:=rfl
  rw[ea]
  by_cases hp:yR (atS b)
  ·rw[if_pos hp,if_pos hp,au]
  ·rw[if_neg hp,if_neg hp,au]
def n0:Nm:=[115,108,111,116,46,48]
def n1:Nm:=[115,108,111,116,46,49]
def nmS (g:Int):Nm:=if g%2=0 then n0 else n1
theorem n01:n0<n1:=by decide
theorem YK:jU n0:=by decide
theorem Ze:jU n1:=by decide
theorem aaP (g:Int):jU (nmS g):=by unfold nmS;split;exact YK;exact Ze
theorem jU.len {n:Nm} (h:jU n):n.length<999999:=by have:=h.2.2;omega
theorem Nj {g:Int} (h:0<=g):jH g=some (nmS g):=by
 unfold jH nmS I4
 rw[lU,Int.tmod_eq_emod_of_nonneg h];split<;>rfl
def ctF (l:List ax) (n:Nm):List Int:=match bJ l n with | some f=>f.data | none=>[]
def jG (d:ai):Prop:=∀f∈d.files,eP f.data
theorem RI {d:ai} (h:jG d) (n:Nm):eP (ctF d.files n):=by
 unfold ctF
 cases hg:bJ d.files n with
 |none=>intro x hx;cases hx
 |some f=>exact h f (J5 hg).1
def pz (best:dD) (par:Int) (b:List Int):dD:=if (slD b).2=0/\(slD b).1.gen%2=par/\best.gen<(slD b).1.gen then (slD b).1 else best
def rM (c0 c1:List Int):dD:=pz (pz ⟨0,0⟩ 0 c0) 1 c1
def jO (l:List ax):dD:=rM (ctF l n0) (ctF l n1)
def dU (d:ai):dD×Int:=if ¬iU d then (⟨0,0⟩,1)else if d.down=true then (⟨0,0⟩,9)else if (jO d.files).gen=0 then (⟨0,0⟩,7)else (jO d.files,0)
theorem ahn {b:List Int} (h:(slD b).2=0):yR (slD b).1/\slD b=(atS b,0)/\b.length=20/\b.drop 16=qB (wY (b.take 16)):=by
 unfold slD at h ⊢
 by_cases h1:b.length≠20
 ·simp [h1]at h
 rw[if_neg h1]at h ⊢
 by_cases h2:b.drop 16≠qB (wY (b.take 16))
 ·simp [h2]at h
 rw[if_neg h2]at h ⊢
 by_cases h3:yR (atS b)
 ·rw[if_pos h3];exact⟨h3,rfl,Classical.not_not.1 h1,Classical.not_not.1 h2⟩
 ·simp [h3]at h
theorem aaB (s:dD) (p:Int) (b:List Int):pz s p b=s\/yR (pz s p b):=by
 unfold pz;split
 ·rename_i h;exact .inr (ahn h.1).1
 ·exact .inl rfl
theorem Xy (a b:List Int):rM a b=⟨0,0⟩\/yR (rM a b):=by
 unfold rM
 rcases aaB (pz ⟨0,0⟩ 0 a) 1 b with h | h
 ·rw[h];exact aaB _ _ _
 ·exact .inr h
theorem O4 (a b:List Int):0<=(rM a b).gen/\(rM a b).gen<=1000000000:=by
 rcases Xy a b with h | h
 ·rw[h];simp
 ·exact⟨by have:=h.1;omega,h.2.1⟩
theorem ae4 {a b:List Int} (h:(rM a b).gen=0):rM a b=⟨0,0⟩:=by
 rcases Xy a b with g | g
 ·exact g
 ·have:=g.1;omega
theorem acM {d:ai} {n:Nm} (hd:iU d) (hw:d.down=false) (hn:jU n):(NP d n).1=ctF d.files n:=by
 unfold NP ctF
 rw[if_neg (fun g=>g (kX.2 ⟨hd,hw,Cm hn⟩))]
 cases bJ d.files n<;>rfl
theorem NE {d:ai} (h:Ll d) (hb:jG d):qL d=some (dU d):=by
 refine Wq.eq ?_
 unfold qL dU
 rw[KD h.nm,aA,lH,Oo]
 by_cases hd:iU d
 case neg=>rw[if_neg hd,au,if_pos hd]
 rw[if_pos hd,if_neg (fun g=>g hd)]
 cases hw:d.down
 case true=>rw[cu,au];simp
 rw[bU,if_neg (by simp),Nj (by decide),aA,show nmS 0=n0 from rfl,XK h YK.len,aA,acM hd hw YK,Ql (RI hb _),aA]
 simp only[Nj (show(0:Int)<=1 by decide),aA,show nmS 1=n1 from rfl,XK h Ze.len,acM hd hw Ze,Ql (RI hb _)]
 have pos:∀b:List Int,(slD b).2=0->I4 (slD b).1.gen 2=(slD b).1.gen%2:=fun b hb=>by
  have:=(ahn hb).1.1
  unfold I4;exact Int.tmod_eq_emod_of_nonneg (by omega)
 have iff2:∀(b:List Int) (s:dD) (p:Int),(band (band (ieq (slD b).2 0) (ieq (I4 (slD b).1.gen 2) p)) (ilt s.gen (slD b).1.gen)=true)↔((slD b).2=0/\(slD b).1.gen%2=p/\s.gen<(slD b).1.gen):=fun b s p=>by
  simp only[bH,bZ,eH]
  constructor
  ·rintro⟨⟨h1,h2⟩,h3⟩;exact⟨h1,by rw[<-pos b h1];exact h2,h3⟩
  ·rintro⟨h1,h2,h3⟩;exact⟨⟨h1,by rw[pos b h1];exact h2⟩,h3⟩
 have i0:=iff2 (ctF d.files n0) ⟨0,0⟩ 0
 rw[lq]
 refine⟨fun hc=> ?_,fun hc=> ?_⟩
 ·have e0:pz ⟨0,0⟩ 0 (ctF d.files n0)=(slD (ctF d.files n0)).1:=by unfold pz;rw[if_pos (i0.1 hc)]
  rw[lq]
  refine⟨fun hc2=> ?_,fun hc2=> ?_⟩
  ·have e1:jO d.files=(slD (ctF d.files n1)).1:=by unfold jO rM;rw[e0];unfold pz;rw[if_pos ((iff2 _ _ 1).1 hc2)]
   rw[<-e1,lU]
   split<;>rw[au]
  ·have e1:jO d.files=(slD (ctF d.files n0)).1:=by unfold jO rM;rw[e0];unfold pz;rw[if_neg fun g=>by rw[(iff2 _ _ 1).2 g]at hc2;cases hc2]
   rw[<-e1,lU]
   split<;>rw[au]
 ·have e0:pz ⟨0,0⟩ 0 (ctF d.files n0)=⟨0,0⟩:=by unfold pz;rw[if_neg fun g=>by rw[i0.2 g]at hc;cases hc]
  rw[lq]
  refine⟨fun hc2=> ?_,fun hc2=> ?_⟩
  ·have e1:jO d.files=(slD (ctF d.files n1)).1:=by unfold jO rM;rw[e0];unfold pz;rw[if_pos ((iff2 _ ⟨0,0⟩ 1).1 hc2)]
   rw[<-e1,lU]
   split<;>rw[au]
  ·have e1:jO d.files=⟨0,0⟩:=by unfold jO rM;rw[e0];unfold pz;rw[if_neg fun g=>by rw[(iff2 _ ⟨0,0⟩ 1).2 g]at hc2;cases hc2]
   rw[e1,au,if_pos rfl]
theorem lJ {l:List ax} (h:Je l) (hl:l.length<=100000) (n:Nm):∃i o,lX n l i o:=by
 obtain⟨_,_,i,o,_,h2,_⟩:=Nu (d:=⟨l,0,0,false⟩) (n:=n) h hl
 exact⟨i,o,h2⟩
theorem get_put (f:ax) (m:Nm):∀l:List ax,bJ (qi f l) m=if m=f.name then some f else bJ l m
 |[]=>by
  rw[qi,oD]
  by_cases h:m=f.name
  ·rw[if_pos h.symm,if_pos h]
  ·rw[if_neg (fun e=>h e.symm),if_neg h]
 |g::r=>by
  rw[qi]
  by_cases hlt:g.name<f.name
  ·rw[if_pos hlt,oD,oD,get_put f m r]
   by_cases h:m=f.name
   ·rw[if_neg (fun e=>Xk f.name (by rw[e,h]at hlt;exact hlt)),if_pos h,if_pos h]
   ·rw[if_neg h,if_neg h]
  ·rw[if_neg hlt,oD]
   by_cases h:m=f.name
   ·rw[if_pos h.symm,if_pos h]
   ·rw[if_neg (fun e=>h e.symm),if_neg h]
    exact gd m h (g::r)
where
 gd (m:Nm) (h:m≠f.name):∀l:List ax,bJ (xE f.name l) m=bJ l m
 |[]=>rfl
 |g::r=>by
  rw[JR]
  by_cases e:g.name=f.name
  ·rw[if_pos e,gd m h r,oD,if_neg (fun k=>h (by rw[<-k,e]))]
  ·rw[if_neg e,oD,oD,gd m h r]
theorem Xm (n m:Nm):∀l:List ax,bJ (xE n l) m=if m=n then none else bJ l m
 |[]=>by simp [xE,bJ]
 |g::r=>by
  rw[JR]
  by_cases e:g.name=n
  ·rw[if_pos e,Xm n m r]
   by_cases h:m=n
   ·rw[if_pos h,if_pos h]
   ·rw[if_neg h,if_neg h,oD,if_neg (fun k=>h (by rw[<-k,e]))]
  ·rw[if_neg e,oD,Xm n m r]
   by_cases h:m=n
   ·rw[if_pos h,if_pos h,if_neg (fun k=>e (by rw[k,h]))]
   ·rw[if_neg h,if_neg h,oD]
theorem Uw (f:ax) (l:List ax):yE (f::l)↔okF f/\yE l/\∀g∈l,f.name<g.name:=by
 have:=uy [f] l
 rw[List.singleton_append,abu]at this
 rw[this]
 simp
def OB (o:Option ax):Nat:=match o with | some f=>f.data.length | none=>0
theorem lX.used {n:Nm} {l:List ax} {i:Nat} {o:Option ax} (h:lX n l i o) (f:ax) (e:f.name=n):fP (qi f l)+OB o=fP l+f.data.length:=by
 subst e
 cases h with
 |no a b ha hb=>rw[wK ha,IB hb,qY,qY,CJ];simp only[OB];omega
 |yes a g b e ha hb=>rw[wK ha,Xo e hb,qY,qY,CJ,CJ];simp only[OB];omega
theorem lX.long {n:Nm} {l:List ax} {i:Nat} {o:Option ax} (h:lX n l i o) (f:ax) (e:f.name=n):(qi f l).length=l.length+if o=none then 1 else 0:=by
 subst e
 cases h with
 |no a b ha hb=>rw[wK ha,IB hb];simp;omega
 |yes a g b e ha hb=>rw[wK ha,Xo e hb];simp
end Go.Av
