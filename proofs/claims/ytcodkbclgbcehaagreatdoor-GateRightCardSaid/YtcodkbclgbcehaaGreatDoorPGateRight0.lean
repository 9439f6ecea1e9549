/- The plain law, part 0. No condition. -/
import Derived.Test.YtcodkbclgbcehaaGreatDoorDGateRight
import Derived.KernelRfl
set_option linter.unusedVariables false
set_option linter.unusedSimpArgs false
set_option linter.unnecessarySimpa false
namespace Go.Av
open Go
theorem ahG {V W:Type} {step:V->Option (V ⊕ W)} (μ:V->Nat) (I:V->Prop) (R:W->Prop)
 (h:∀v,I v->(∃v',step v=some (.inl v')/\I v'/\μ v'<μ v)\/∃w,step v=some (.inr w)/\R w):∀(n:Nat) (v:V),μ v<n->I v->∃w,bU step n v=some w/\R w
 |0,v,hn,_=>by omega
 |n+1,v,hn,hI=>by
  rcases h v hI with ⟨v',h1,h2,h3⟩ | ⟨w,h1,h2⟩
  ·obtain⟨w,g1,g2⟩:=ahG μ I R h n v' (by omega) h2
   exact⟨w,by rw[bU,h1];exact g1,g2⟩
  ·exact⟨w,by rw[bU,h1];rfl,h2⟩
theorem Zb {n:Nat} (h:n<1000000):n<LF:=Nat.lt_trans h (by decide)
theorem nY {n:Int} (h:inI n):wr .i64 n=n:=by
 unfold inI at h;unfold wr IntKind.wrap;simp [IntKind.bits,IntKind.signed];omega
theorem aiL {n:Int} (h1: -18446744073709551616<=n) (h2:n<=18446744073709551616):
 (inI n/\wr .i64 n=n)\/(9223372036854775807<n/\wr .i64 n=n - 18446744073709551616)\/(n< -9223372036854775808/\wr .i64 n=n+18446744073709551616):=by
 unfold inI wr IntKind.wrap
 simp [IntKind.bits,IntKind.signed]
 omega
theorem rE (n:Int):wr .u64 n=n%18446744073709551616:=by
 unfold wr IntKind.wrap;simp [IntKind.bits,IntKind.signed]
theorem bf {n:Int} (h1:0<=n) (h2:n<1000000000000):wr .i64 n=n:=nY ⟨by omega,by omega⟩
theorem au {α:Type} {b:Bool} {x y:α} (h:b=true):cnd b x y=x:=by subst h;rfl
theorem bK {α:Type} {b:Bool} {x y:α} (h:b=false):cnd b x y=y:=by subst h;rfl
theorem tH {α:Type} (b:Bool) (x y:α):cnd b x y=if b=true then x else y:=by cases b<;>rfl
theorem dn {α:Type} (a b:Int) (x y:α):cnd (ieq a b) x y=if a=b then x else y:=by
 by_cases h:a=b
 ·rw[awh h,show ieq a b=true by simp [ieq,h]];rfl
 ·rw[awg h,show ieq a b=false by simp [ieq,h]];rfl
theorem xB {α:Type} (a b:Int) (x y:α):cnd (ilt a b) x y=if a<b then x else y:=by
 by_cases h:a<b
 ·rw[awh h,show ilt a b=true by simp [ilt,h]];rfl
 ·rw[awg h,show ilt a b=false by simp [ilt,h]];rfl
theorem akH {α:Type} (a b:Int) (x y:α):cnd (ile a b) x y=if a<=b then x else y:=by
 by_cases h:a<=b
 ·rw[awh h,show ile a b=true by simp [ile,h]];rfl
 ·rw[awg h,show ile a b=false by simp [ile,h]];rfl
theorem cO {α:Type} (b:Bool) (x y:α):cnd (ax b) x y=cnd b y x:=by cases b<;>rfl
theorem sN {α:Type} (P:Prop) [Decidable P] (x y:α):cnd (decide P) x y=if P then x else y:=by
 by_cases h:P
 ·rw[awh h,awv h];rfl
 ·rw[awg h,awR h];rfl
instance (n:Int):Decidable (inI n):=by unfold inI;infer_instance
theorem ai {α β:Type} (a:α) (f:α->Option β):ah (some a) f=f a:=rfl
theorem avV {α β:Type} (p:Prop) [Decidable p] (x y:Option α) (f:α->Option β):ah (if p then x else y) f=if p then ah x f else ah y f:=by split<;>rfl
theorem pO {a b:Int} (h:a<b):ilt a b=true:=awv h
theorem nP {a b:Int} (h:¬a<b):ilt a b=false:=awR h
theorem dW {a b:Int} (h:a<=b):ile a b=true:=awv h
theorem JA {a b:Int} (h:¬a<=b):ile a b=false:=awR h
theorem ad6 (a:Int):ieq a a=true:=by simp [ieq]
theorem agF (a:Bool):beq a a=true:=by cases a<;>rfl
theorem Ae {a b:Bool} (h1:a=true) (h2:b=true):band a b=true:=by subst h1;subst h2;rfl
theorem aN {α:Type} [Inhabited α] (l:List α) (i:Nat) (h:i<l.length):aj l (itn (i:Int))=l[i]:=by
 simp [aj,itn,h]
theorem inb {α:Type} (l:List α) (i:Nat) (h:i<l.length):band (ile 0 (i:Int)) (ilt (i:Int) (len l))=true:=Ae (dW (by omega)) (pO (by simp only[len];omega))
theorem aH (a b:Bool):(band a b=true)=(a=true/\b=true):=by cases a<;>cases b<;>simp [band]
theorem aQ (a b:Bool):(band a b=false)=(a=false\/b=false):=by cases a<;>cases b<;>simp [band]
theorem aX (a b:Bool):(bor a b=true)=(a=true\/b=true):=by cases a<;>cases b<;>simp [bor]
theorem bn (a b:Bool):(bor a b=false)=(a=false/\b=false):=by cases a<;>cases b<;>simp [bor]
theorem aG (a:Bool):(ax a=true)=(a=false):=by cases a<;>simp [ax]
theorem aF (a:Bool):(ax a=false)=(a=true):=by cases a<;>simp [ax]
theorem bg (a b:Int):(ilt a b=true)=(a<b):=by simp [ilt]
theorem bC (a b:Int):(ilt a b=false)=(b<=a):=by simp [ilt]
theorem aY (a b:Int):(ile a b=true)=(a<=b):=by simp [ile]
theorem bI (a b:Int):(ile a b=false)=(b<a):=by simp [ile]
theorem aI (a b:Int):(ieq a b=true)=(a=b):=by simp [ieq]
theorem aP (a b:Int):(ieq a b=false)=(a≠b):=by simp [ieq]
theorem bG (a b:Bool):(beq a b=true)=(a=b):=by simp [beq]
theorem bJ (a b:Bool):(beq a b=false)=(a≠b):=by simp [beq]
theorem adn (a b:List UInt8):(seq a b=true)=(a=b):=by simp [seq]
theorem afq (a b:List UInt8):(seq a b=false)=(a≠b):=by simp [seq]
def Wq {α:Type} (o:Option α) (Q:α->Prop):Prop:=∃a,o=some a/\Q a
theorem af {α:Type} {Q:α->Prop} (a:α):Wq (some a) Q↔Q a:=⟨fun⟨_,h,q⟩=>by cases h;exact q,fun h=>⟨a,rfl,h⟩⟩
theorem dF {α:Type} {Q:α->Prop} (c:Bool) (x y:Option α):Wq (cnd c x y) Q↔(c=true->Wq x Q)/\(c=false->Wq y Q):=by
 cases c<;>simp [cnd]
theorem jI {α β:Type} {Q:β->Prop} (o:Option α) (f:α->Option β):Wq (ah o f) Q↔Wq o fun a=>Wq (f a) Q:=by
 cases o with
 |none=>simp [ah,Wq]
 |some a=>simp [ah,af]
theorem Wq.mono {α:Type} {Q R:α->Prop} {o:Option α} (h:Wq o Q) (hq:∀a,Q a->R a):Wq o R:=by
 obtain⟨a,e,q⟩:=h;exact⟨a,e,hq a q⟩
theorem Wq.bind {α β:Type} {Q:α->Prop} {R:β->Prop} {o:Option α} {f:α->Option β} (h:Wq o Q) (hq:∀a,Q a->Wq (f a) R):Wq (ah o f) R:=(jI o f).2 (h.mono hq)
theorem Wq.eq {α:Type} {o:Option α} {a:α} (h:Wq o fun x=>x=a):o=some a:=by obtain⟨x,e,rfl⟩:=h;exact e
theorem Wq.dec {o:Option Bool} {P:Prop} [Decidable P] (h:Wq o fun b=>b=true↔P):o=some (decide P):=by
 obtain⟨b,e,q⟩:=h;rw[e];congr 1;cases b<;>simp_all
theorem Qs {V W:Type} {step:V->Option (V ⊕ W)} (μ:V->Nat) (I:V->Prop) (R:W->Prop)
 (h:∀v,I v->Wq (step v) fun r=>match r with | .inl v'=>I v'/\μ v'<μ v | .inr w=>R w) (n:Nat) (v:V) (hn:μ v<n) (hi:I v):Wq (bU step n v) R:=
 ahG μ I R (fun v hv=>by
  obtain⟨r,e,q⟩:=h v hv
  match r,e,q with
  |.inl v',e,q=>exact .inl ⟨v',e,q.1,q.2⟩
  |.inr w,e,q=>exact .inr ⟨w,e,q⟩) n v hn hi
theorem aZ {i:Nat} (h:i<1000000):wr .i64 (ay (i:Int) 1)=((i+1:Nat):Int):=by
 unfold ay;rw[bf (by omega) (by omega)];omega
theorem dm {α:Type} (l:List α) (i:Nat):ilt (i:Int) (len l)=decide (i<l.length):=by
 simp [ilt,len]
theorem fG {W X:Type} {step:Int×X->Option ((Int×X) ⊕ W)} {n:Nat} (hn:n<999999) (J:Nat->X->Prop) (R:W->Prop)
 (h:∀i x,i<n->J i x->Wq (step ((i:Int),x)) fun r=>match r with | .inl (k,x')=>k=((i+1:Nat):Int)/\J (i+1) x' | .inr w=>R w)
 (he:∀x,J n x->Wq (step ((n:Int),x)) fun r=>match r with | .inl _=>False | .inr w=>R w)
 (x:X) (i0:Nat) (hi0:i0<=n) (hx:J i0 x):Wq (bU step LF ((i0:Int),x)) R:=by
 refine Qs (fun v:Int×X=>n - v.1.toNat) (fun v:Int×X=>∃i:Nat,v.1=(i:Int)/\i<=n/\J i v.2) R ?_ LF _ (Zb (by simp only;omega)) ⟨i0,rfl,hi0,hx⟩
 rintro⟨k,y⟩ ⟨i,rfl,hi,hj⟩
 by_cases hlt:i<n
 ·refine(h i y hlt hj).mono fun r hr=> ?_
  match r,hr with
  |.inl (k,x'),hr=>
   obtain⟨rfl,h2⟩:=hr
   exact⟨⟨i+1,rfl,hlt,h2⟩,by simp only[axh];omega⟩
  |.inr w,hr=>exact hr
 ·obtain rfl:i=n:=by omega
  refine(he y hj).mono fun r hr=> ?_
  match r,hr with
  |.inl _,hr=>exact hr.elim
  |.inr w,hr=>exact hr
theorem wH {α:Type} {l:List α} (h:l.length<1000000):Je l=some l:=by
 unfold Je;rw[Nat.ble_eq_true_of_le (by omega)];rfl
theorem aU {α:Type} (x y:α):cnd true x y=x:=rfl
theorem aT {α:Type} (x y:α):cnd false x y=y:=rfl
theorem aK:ax true=false:=rfl
theorem aW:ax false=true:=rfl
theorem qU (b:Bool):band true b=b:=rfl
theorem yU (b:Bool):band false b=false:=rfl
theorem kH (b:Bool):bor true b=true:=rfl
theorem dI (b:Bool):bor false b=b:=rfl
theorem ac8 (b:Bool):band b false=false:=by cases b<;>rfl
theorem ahQ (b:Bool):bor b true=true:=by cases b<;>rfl
theorem alM (b:Bool):bor b false=b:=by cases b<;>rfl
theorem mD:ieq 0 0=true:=rfl
theorem IE:ieq 3 0=false:=rfl
theorem DX {α:Type} (l:List α) (i:Nat) (x:α):(dP l i x).length=l.length:=by simp [dP]
theorem vK (i:Nat):itn (i:Int)=i:=by simp [itn]
theorem uw {a b:Int} (ha:inI a) (hb:inI b):xK a b=some (if inI (a+b)then (a+b,0)else (0,3)):=by
 unfold inI at ha hb;unfold xK ay;rcases aiL (n:=a+b) (by omega) (by omega)with ⟨h,e⟩ | ⟨h,e⟩ | ⟨h,e⟩<;>rw[e,tH]<;>simp only[aH,aQ,aX,bn,aG,aF,bg,bC,aY,bI,aI,aP,bG,bJ]
 ·rw[awh h,awg];rintro⟨h1,h2⟩;unfold inI at h;exact h1 (axS.2 (by omega))
 ·rw[awh,awg (by unfold inI;omega)];exact⟨fun h1=>by have:=axS.1 h1;omega,by omega⟩
 ·rw[awh,awg (by unfold inI;omega)];exact⟨fun h1=>by have:=axS.1 h1;omega,by omega⟩
theorem NC {a b:Int} (ha:inI a) (hb:inI b):Ep a b=some (if inI (a - b)then (a - b,0)else (0,3)):=by
 unfold inI at ha hb;unfold Ep aO;rcases aiL (n:=a - b) (by omega) (by omega)with ⟨h,e⟩ | ⟨h,e⟩ | ⟨h,e⟩<;>rw[e,tH]<;>simp only[aH,aQ,aX,bn,aG,aF,bg,bC,aY,bI,aI,aP,bG,bJ]
 ·rw[awh h,awg];rintro⟨h1,h2⟩;unfold inI at h;exact h1 (axS.2 (by omega))
 ·rw[awh,awg (by unfold inI;omega)];exact⟨fun h1=>by have:=axS.1 h1;omega,by omega⟩
 ·rw[awh,awg (by unfold inI;omega)];exact⟨fun h1=>by have:=axS.1 h1;omega,by omega⟩
theorem ag8 (a b:Int):TI a b=some (max a b):=by
 unfold TI imax;congr 1;by_cases h:b>a
 ·rw[awh h];omega
 ·rw[awg h];omega
theorem half (n:Int) (h1:0<=n) (h2:n<18446744073709551616):∃a b:Int,n=a*4294967296+b/\0<=a/\a<4294967296/\0<=b/\b<4294967296/\dw .u64 n 32=a/\wr .u64 (jT .u64 n 4294967295)=b:=by
 refine⟨n / 4294967296,n%4294967296,by omega,by omega,by omega,by omega,by omega,?_,?_⟩
 ·unfold dw;have:min (Int.toNat 32) (IntKind.bits .u64)=32:=by decide
  rw[this,ayj _ (by decide)]
  rfl
 ·unfold jT;rw[rE];have e:(BitVec.ofInt (IntKind.bits .u64) n &&& BitVec.ofInt (IntKind.bits .u64) 4294967295).toNat=n.toNat%4294967296:=by
   rw[BitVec.toNat_and];have:(BitVec.ofInt (IntKind.bits .u64) 4294967295).toNat=2^32 - 1:=by decide
   rw[this,Nat.and_two_pow_sub_one_eq_mod];rw[ayP];congr 1;have:(n%(2^(IntKind.bits .u64):Nat))=n:=awZ h1 (by simpa [IntKind.bits] using h2);rw[this]
  rw[e];omega
theorem asM {x y:Int} (hx:0<=x) (hx2:x<18446744073709551616) (hy:0<=y) (hy2:y<18446744073709551616):
 xZ x y=some (x*y / 18446744073709551616,x*y%18446744073709551616):=by
 obtain⟨a,b,e1,a1,a2,b1,b2,s1,s2⟩:=half x hx hx2
 obtain⟨c,d,e2,c1,c2,d1,d2,t1,t2⟩:=half y hy hy2
 unfold xZ
 rw[s1,s2,t1,t2]
 unfold dA ay
 have m1:0<=a*c/\a*c<=4294967295*4294967295:=⟨aw2 a1 c1,axL (by omega) (by omega) c1 (by omega)⟩
 have m2:0<=a*d/\a*d<=4294967295*4294967295:=⟨aw2 a1 d1,axL (by omega) (by omega) d1 (by omega)⟩
 have m3:0<=b*c/\b*c<=4294967295*4294967295:=⟨aw2 b1 c1,axL (by omega) (by omega) c1 (by omega)⟩
 have m4:0<=b*d/\b*d<=4294967295*4294967295:=⟨aw2 b1 d1,axL (by omega) (by omega) d1 (by omega)⟩
 have mm:x*y=a*c*18446744073709551616+(a*d+b*c)*4294967296+b*d:=by
  subst e1 e2
  simp only[ax6,Int.mul_add]
  have q1:a*4294967296*(c*4294967296)=a*c*18446744073709551616:=by
   rw[axd,Int.mul_left_comm 4294967296,<-axd,<-axd];omega
  have q2:a*4294967296*d=a*d*4294967296:=by rw[axd,ayQ 4294967296,<-axd]
  have q3:b*(c*4294967296)=b*c*4294967296:=by rw[<-axd]
  rw[q1,q2,q3];omega
 rw[mm]
 generalize a*c=p at*
 generalize a*d=q at*
 generalize b*c=r at*
 generalize b*d=t at*
 have sh:∀n:Int,0<=n->n<18446744073709551616->dw .u64 n 32=n / 4294967296:=fun n h1 h2=>by
  obtain⟨u,v,h3,h4,h5,h6,h7,h8,_⟩:=half n h1 h2
  rw[h8];omega
 have la:∀n:Int,0<=n->n<18446744073709551616->wr .u64 (jT .u64 n 4294967295)=n%4294967296:=fun n h1 h2=>by
  obtain⟨u,v,h3,h4,h5,h6,h7,_,h8⟩:=half n h1 h2
  rw[h8];omega
 simp only[rE p,rE q,rE r,rE t]
 rw[awZ (a:=p) m1.1 (by omega),awZ (a:=q) m2.1 (by omega),awZ (a:=r) m3.1 (by omega),awZ (a:=t) m4.1 (by omega)]
 rw[sh t m4.1 (by omega)]
 rw[rE (q+t / 4294967296),awZ (a:=q+t / 4294967296) (by omega) (by omega)]
 rw[sh (q+t / 4294967296) (by omega) (by omega),la (q+t / 4294967296) (by omega) (by omega)]
 rw[rE (p+_),awZ (a:=p+(q+t / 4294967296) / 4294967296) (by omega) (by omega)]
 rw[rE ((q+t / 4294967296)%4294967296+r),awZ (a:=(q+t / 4294967296)%4294967296+r) (by omega) (by omega)]
 rw[sh _ (by omega) (by omega)]
 rw[rE,rE]
 congr 2<;>omega
theorem afG {a:Int} (ha:inI a):OB a=some (a.natAbs:Int):=by
 unfold inI at ha;unfold OB aO;rw[tH];simp only[bg,rE];split
 ·congr 1;omega
 ·congr 1;omega
theorem agI {a b:Int} (ha:inI a) (hb:inI b):Rq a b=some (if inI (a*b)then (a*b,0)else (0,3)):=by
 unfold Rq;rw[afG ha,afG hb,ai,ai,asM (by omega) (by unfold inI at ha;omega) (by omega) (by unfold inI at hb;omega),ai];have hm:(a.natAbs:Int)*(b.natAbs:Int)=((a*b).natAbs:Int):=by rw[Int.natAbs_mul];rfl
 have hn:(a.natAbs:Int)*(b.natAbs:Int)<=9223372036854775808*9223372036854775808:=axL (by unfold inI at ha;omega) (by unfold inI at hb;omega) (by omega) (by omega);rw[hm]at hn ⊢;have hs:(decide (a<0)=decide (b<0)->0<=a*b)/\(decide (a<0)≠decide (b<0)->a*b<=0):=by
  constructor
  ·intro h;by_cases h1:a<0
   ·have h2:b<0:=by simpa [h1] using h
    exact azr (by omega) (by omega)
   ·have h2:¬b<0:=by simpa [h1] using h
    exact aw2 (by omega) (by omega)
  ·intro h;by_cases h1:a<0
   ·have h2:¬b<0:=by simpa [h1] using h
    exact azs (by omega) (by omega)
   ·have h2:b<0:=by simpa [h1] using h
    exact azt (by omega) (by omega)
 generalize a*b=p at*;simp only[tH,aH,aQ,aX,bn,aG,aF,bg,bC,aY,bI,aI,aP,bG,bJ,aO,rE,ne_eq];unfold ilt at*;by_cases hd:decide (a<0)=decide (b<0)
 ·have hp:=hs.1 hd;rw[awg (fun h=>h.1.2 hd)];by_cases hr:p<=9223372036854775807
  ·rw[awh (by omega),awh ⟨by omega,by omega⟩,nY ⟨by omega,by omega⟩];congr 2;omega
  ·rw[awg (by omega),awg (by unfold inI;omega)]
 ·have hp:=hs.2 hd;by_cases hr: -9223372036854775808<=p
  ·rw[awh ⟨⟨by omega,hd⟩,by omega⟩,awh ⟨by omega,by omega⟩];congr 2;rcases aiL (n:=(0 - ((p.natAbs:Int)%18446744073709551616))%18446744073709551616) (by omega) (by omega)with ⟨h,e⟩ | ⟨h,e⟩ | ⟨h,e⟩<;>rw[e]<;>unfold inI at* <;>omega
  ·rw[awg (by omega),awg (by omega),awg (by unfold inI;omega)]
def mg (n:Int):Prop:=1<=n/\n<=1000000000000
def qf (r:iJ):Prop:=
 (r.L=1/\mg r.order/\(0<=r.y/\r.y<8)/\(0<=r.z/\r.z<8)/\(r.X=1\/r.X=2)/\1<=r.N/\1<=r.I/\r.long=0/\r.qX=0/\r.opn=0/\r.on=false/\r.A=0/\r.Z=0)\/
 (r.L=2/\mg r.order/\r.y=0/\r.z=0/\r.X=0/\1<=r.N/\1<=r.I/\r.long=0/\r.qX=0/\r.opn=0/\r.on=false/\r.A=0/\r.Z=0)\/
 (r.L=3/\mg r.order/\r.y=0/\r.z=0/\r.X=0/\r.N=0/\r.I=0/\r.long=0/\r.qX=0/\r.opn=0/\r.on=false/\r.A=0/\r.Z=0)\/
 (r.L=4/\r.order=0/\(0<=r.y/\r.y<8)/\((r.z= -1/\r.long=0/\r.qX=0)\/(0<=r.z/\r.z<8))/\r.X=0/\r.N=0/\r.I=0/\0<=r.long/\0<=r.qX/\0<=r.opn/\r.on=false/\r.A=0/\r.Z=0)\/
 (r.L=5/\r.order=0/\r.y=0/\r.z=0/\r.X=0/\r.N=0/\r.I=0/\r.long=0/\r.qX=0/\r.opn=0/\r.A=0/\r.Z=0)\/
 (r.L=6/\mg r.order/\r.y=0/\r.z=0/\r.X=0/\r.long=0/\r.qX=0/\r.opn=0/\r.on=false/\(1<=r.A/\r.A<=1000000000)/\
   ((r.Z=3/\1<=r.N/\r.I=0)\/(r.Z=5/\1<=r.N/\1<=r.I)\/((r.Z=1\/r.Z=2\/r.Z=4\/r.Z=6)/\r.N=0/\r.I=0)))
theorem apZ (a b c:Int):(0<=kP (kP a b) c)↔0<=a/\0<=b/\0<=c:=by
 unfold kP;split<;>split<;>omega
theorem akb (r:iJ):Wq (PZ r) fun b=>b=true↔mg r.order/\(1<=r.A/\r.A<=1000000000)/\
 ((r.Z=3/\1<=r.N/\r.I=0)\/(r.Z=5/\1<=r.N/\1<=r.I)\/((r.Z=1\/r.Z=2\/r.Z=4\/r.Z=6)/\r.N=0/\r.I=0)):=by
 unfold PZ tV wo
 by_cases h1:1<=r.A/\r.A<=1000000000
 ·rw[au (b:=ax (bor (ilt r.A 1) (ilt 1000000000 r.A))) (by simp only[aH,aQ,aX,bn,aG,aF,bg,bC,aY,bI,aI,aP,bG,bJ];omega),ai]
  by_cases h2:mg r.order
  ·rw[show band (ile 1 r.order) (ile r.order 1000000000000)=true by simp only[aH,aQ,aX,bn,aG,aF,bg,bC,aY,bI,aI,aP,bG,bJ];exact h2,bK (by simp only[aH,aQ,aX,bn,aG,aF,bg,bC,aY,bI,aI,aP,bG,bJ];exact⟨by omega,azv⟩)]
   by_cases k3:r.Z=3
   ·rw[au (by rw[aI];exact k3),af];simp only[h1,h2,awx,aH,aQ,aX,bn,aG,aF,bg,bC,aY,bI,aI,aP,bG,bJ];omega
   rw[bK (by rw[aP];exact k3)]
   by_cases k5:r.Z=5
   ·rw[au (by rw[aI];exact k5),ai,af];simp only[h1,h2,awx,aH,aQ,aX,bn,aG,aF,bg,bC,aY,bI,aI,aP,bG,bJ];omega
   rw[bK (by rw[aP];exact k5)]
   by_cases k1:r.Z=1
   ·rw[au (by rw[aI];exact k1),au (by rw[aI];exact k1),af];simp only[h1,h2,awx,aH,aQ,aX,bn,aG,aF,bg,bC,aY,bI,aI,aP,bG,bJ];omega
   rw[bK (by rw[aP];exact k1)]
   by_cases k2:r.Z=2
   ·rw[au (by rw[aI];exact k2),au (by rw[aI];exact k2),af];simp only[h1,h2,awx,aH,aQ,aX,bn,aG,aF,bg,bC,aY,bI,aI,aP,bG,bJ];omega
   rw[bK (by rw[aP];exact k2)]
   by_cases k4:r.Z=4
   ·rw[au (by rw[aI];exact k4),au (by rw[aI];exact k4),af];simp only[h1,h2,awx,aH,aQ,aX,bn,aG,aF,bg,bC,aY,bI,aI,aP,bG,bJ];omega
   rw[bK (by rw[aP];exact k4)]
   by_cases k6:r.Z=6
   ·rw[au (by rw[aI];exact k6),af];simp only[h1,h2,awx,aH,aQ,aX,bn,aG,aF,bg,bC,aY,bI,aI,aP,bG,bJ];omega
   rw[bK (by rw[aP];exact k6),af]
   simp only[h1,h2,awx,axA,false_iff];omega
  ·rw[show band (ile 1 r.order) (ile r.order 1000000000000)=false by simp only[aH,aQ,aX,bn,aG,aF,bg,bC,aY,bI,aI,aP,bG,bJ];unfold mg at h2;omega,au (by simp only[aH,aQ,aX,bn,aG,aF,bg,bC,aY,bI,aI,aP,bG,bJ,or_true]),af]
   simp [h2]
 ·rw[bK (b:=ax (bor (ilt r.A 1) (ilt 1000000000 r.A))) (by simp only[aH,aQ,aX,bn,aG,aF,bg,bC,aY,bI,aI,aP,bG,bJ];omega),ai,au (by simp only[aH,aQ,aX,bn,aG,aF,bg,bC,aY,bI,aI,aP,bG,bJ,or_true]),af]
  simp [h1]
theorem DW (r:iJ):Wq (vS r) fun b=>b=true↔qf r:=by
 unfold vS TU;obtain⟨ev,he,hq⟩:=akb r;by_cases k1:r.L=1
 ·have e1:ieq r.L 1=true:=by rw[aI];exact k1
  simp only[e1,aU,ai];simp only[jI,dF,af,aH,aQ,aX,bn,aG,aF,bg,bC,aY,bI,aI,aP,bG,bJ,awN,ne_eq,awK,awI,awy,awx,awO,reduceCtorEq,tV,vV,wo,qf,mg];grind
 have e1:ieq r.L 1=false:=by rw[aP];exact k1
 by_cases k2:r.L=2
 ·have e2:ieq r.L 2=true:=by rw[aI];exact k2
  simp only[e1,e2,aU,aT,ai];simp only[jI,dF,af,aH,aQ,aX,bn,aG,aF,bg,bC,aY,bI,aI,aP,bG,bJ,awN,ne_eq,awK,awI,awy,awx,awO,reduceCtorEq,tV,vV,wo,qf,mg];grind
 have e2:ieq r.L 2=false:=by rw[aP];exact k2
 by_cases k3:r.L=3
 ·have e3:ieq r.L 3=true:=by rw[aI];exact k3
  simp only[e1,e2,e3,aU,aT,ai];simp only[jI,dF,af,aH,aQ,aX,bn,aG,aF,bg,bC,aY,bI,aI,aP,bG,bJ,awN,ne_eq,awK,awI,awy,awx,awO,reduceCtorEq,tV,vV,wo,qf,mg];grind
 have e3:ieq r.L 3=false:=by rw[aP];exact k3
 by_cases k4:r.L=4
 ·have e4:ieq r.L 4=true:=by rw[aI];exact k4
  simp only[e1,e2,e3,e4,aU,aT,ai];simp only[jI,dF,af,aH,aQ,aX,bn,aG,aF,bg,bC,aY,bI,aI,aP,bG,bJ,awN,ne_eq,awK,awI,awy,awx,awO,reduceCtorEq,tV,vV,wo,qf,mg,apZ];grind
 have e4:ieq r.L 4=false:=by rw[aP];exact k4
 by_cases k5:r.L=5
 ·have e5:ieq r.L 5=true:=by rw[aI];exact k5
  simp only[e1,e2,e3,e4,e5,aU,aT,ai];simp only[jI,dF,af,aH,aQ,aX,bn,aG,aF,bg,bC,aY,bI,aI,aP,bG,bJ,awN,ne_eq,awK,awI,awy,awx,awO,reduceCtorEq,tV,vV,wo,qf,mg];grind
 have e5:ieq r.L 5=false:=by rw[aP];exact k5
 by_cases k6:r.L=6
 ·have e6:ieq r.L 6=true:=by rw[aI];exact k6
  simp only[e1,e2,e3,e4,e5,e6,aU,aT,ai,he];simp only[jI,dF,af,aH,aQ,aX,bn,aG,aF,bg,bC,aY,bI,aI,aP,bG,bJ,awN,ne_eq,awK,awI,awy,awx,awO,reduceCtorEq,qf,hq];grind
 have e6:ieq r.L 6=false:=by rw[aP];exact k6
 simp only[e1,e2,e3,e4,e5,e6,aU,aT,ai];simp only[jI,dF,af,aH,aQ,aX,bn,aG,aF,bg,bC,aY,bI,aI,aP,bG,bJ,awN,ne_eq,awK,awI,awy,awx,awO,reduceCtorEq,qf];grind
def TK (o:aC):Prop:=(1<=o.id/\o.id<=1000000000000)/\(0<=o.y/\o.y<8)/\(0<=o.z/\o.z<8)/\(o.X=1\/o.X=2)/\1<=o.N/\1<=o.I
theorem agr (o:aC):Wq (KD o) fun b=>b=true↔TK o:=by
 unfold KD;rw[jI];refine(DW _).mono fun b hb=> ?_;rw[af,hb];simp [qf,TK,mg]
def wJ (o:aC):Prop:=o.V≠0\/o.U≠0
instance (o:aC):Decidable (wJ o):=by unfold wJ;infer_instance
instance (o:aC):Decidable (TK o):=by unfold TK;infer_instance
theorem U3 (o:aC):Wq (jR o) fun b=>b=true↔wJ o:=by
 unfold jR;simp only[af,aX,aG,aP,wJ]
theorem LU (o:aC):jR o=some (decide (wJ o)):=(U3 o).dec
def wE (o:aC):Prop:=TK o/\0<=o.H/\o.H<=o.N/\0<=o.O/\(wJ o->1<=o.V/\1<=o.U)/\
 ((o.P=1/\o.H=0/\o.O=0/\¬wJ o)\/(o.P=2/\o.H<o.N)\/(o.P=3/\¬wJ o))
instance (o:aC):Decidable (wE o):=by unfold wE;infer_instance
theorem agw (o:aC):Wq (jd o) fun b=>b=true↔wE o:=by
 unfold jd;rw[jI];refine(U3 o).mono fun p hp=> ?_;rw[jI];refine(agr o).mono fun b hb=> ?_;unfold wE;rw[<-hp,<-hb];have hm:(kP o.V o.U<1)↔¬(1<=o.V/\1<=o.U):=by unfold kP;split<;>omega
 simp only[jI,dF,af,aH,aQ,aX,bn,aG,aF,bg,bC,aY,bI,aI,aP,bG,bJ,hm];cases p<;>cases b<;>simp<;>omega
theorem nO (o:aC):jd o=some (decide (wE o)):=(agw o).dec
def l7 (o:aC):Int:=if o.P=3 then 0 else max o.N o.V - o.H
def gV (o:aC):Int:=if o.P=3 then 0 else if o.V<=o.H then (o.N - o.H)*o.I else max ((o.N - o.H)*o.I) ((o.V - o.H)*o.U)
theorem GI {o:aC} (h:wE o) (hr:eY o):0<=l7 o/\l7 o<=9223372036854775807:=by
 obtain⟨_,h1,h2,_⟩:=h;have:=hr.N.2;have:=hr.V.2;unfold l7;split<;>omega
theorem aiP {o:aC} (h:wE o) (hn:o.H<o.V):1<=o.U:=by
 obtain⟨_,h1,h2,_,h4,_⟩:=h;exact(h4 (.inl (by omega))).2
theorem JK {o:aC} (h:wE o):0<=gV o:=by
 have hp:=h.1.2.2.2.2.2;have hf:=h.2.2.1;unfold gV;split
 ·omega
 ·have m:0<=(o.N - o.H)*o.I:=aw2 (by omega) (by omega);split<;>omega
theorem aaw {o:aC} (h:wE o) (hr:eY o):AU o=some (l7 o):=by
 have hb:=GI h hr;unfold AU;rw[nO,ai,awv h,ag8,ai];unfold l7 at*;rw[aK,dI,dn];split
 ·rfl
 ·rename_i hp;rw[awg hp]at hb;unfold aO;rw[nY ⟨by omega,by omega⟩]
theorem YK {o:aC} (h:wE o) (hr:eY o):Fj o=some (if gV o<=9223372036854775807 then (gV o,0)else (0,3)):=by
 have hp:=h.1.2.2.2.2.2;have hf:=h.2.2.1;have hf0:=h.2.1;have rq:=hr.N;have rp:=hr.I;have rf:=hr.H;have rn:=hr.V;have rnp:=hr.U;unfold inI at rq rf rn;unfold Fj;rw[nO,ai,awv h,aK,aT,dn];unfold gV;split
 ·rw[awh (by omega)]
 ·unfold aO;rw[nY ⟨by omega,by omega⟩,agI ⟨by omega,by omega⟩ rp,ai];have m:0<=(o.N - o.H)*o.I:=aw2 (by omega) (by omega);generalize (o.N - o.H)*o.I=a at*;rw[tH];simp only[aH,aQ,aX,bn,aG,aF,bg,bC,aY,bI,aI,aP,bG,bJ];by_cases hn:o.V<=o.H
  ·rw[awh (.inr hn),awh hn];by_cases ha:a<=9223372036854775807
   ·rw[awh (c:=inI a) ⟨by omega,ha⟩,awh ha]
   ·rw[awg (c:=inI a) (by unfold inI;omega),awg ha]
  ·rw[awg hn];have hnp:=aiP h (by omega);rw[nY ⟨by omega,by omega⟩,agI ⟨by omega,by omega⟩ rnp,ai];have m2:0<=(o.V - o.H)*o.U:=aw2 (by omega) (by omega);generalize (o.V - o.H)*o.U=b at*;by_cases ha:a<=9223372036854775807
   ·rw[awh (c:=inI a) ⟨by omega,ha⟩,awg (by simp only[ne_eq,awK,false_or];exact hn)];by_cases hb:b<=9223372036854775807
    ·rw[awh (c:=inI b) ⟨by omega,hb⟩];rw[bK (by simp [ax,ieq]),ag8,ai,awh (by omega)]
    ·rw[awg (c:=inI b) (by unfold inI;omega)];rw[au (by simp [ax,ieq]),awg (by omega)]
   ·rw[awg (c:=inI a) (by unfold inI;omega),awh (.inl (by decide)),awg (by omega)]
def okC (c:bF):Prop:=F5 c/\(0<=c.buy/\0<=c.qK/\0<=c.opn)/\inI (c.pos+c.buy)/\inI (c.qK - c.pos)
theorem P8 (c:bF):okC c↔(inI c.pos/\inI c.buy/\inI c.qK/\inI c.opn)/\(0<=c.buy/\0<=c.qK/\0<=c.opn)/\inI (c.pos+c.buy)/\inI (c.qK - c.pos):=
 ⟨fun⟨⟨a,b,c,d⟩,h⟩=>⟨⟨a,b,c,d⟩,h⟩,fun⟨⟨a,b,c,d⟩,h⟩=>⟨⟨a,b,c,d⟩,h⟩⟩
instance (c:bF):Decidable (okC c):=decidable_of_iff _ (P8 c).symm
theorem ac7 {c:bF} (h:F5 c):KJ c=some (⟨if inI (c.pos+c.buy)then c.pos+c.buy else 0,if inI (c.qK - c.pos)then c.qK - c.pos else 0,c.opn⟩,decide (inI (c.pos+c.buy)/\inI (c.qK - c.pos))):=by
 unfold KJ;rw[uw h.pos h.buy,ai,NC h.qK h.pos,ai];by_cases h1:inI (c.pos+c.buy)
 ·by_cases h2:inI (c.qK - c.pos)
  ·simp only[awh h1,awh h2,mD,qU,awv (show _/\_ from⟨h1,h2⟩)]
  ·simp only[awh h1,awg h2,IE,mD,qU,awR (fun h:_/\_=>h2 h.2)]
 ·simp only[awg h1,IE,yU,awR (fun h:_/\_=>h1 h.1)];by_cases h2:inI (c.qK - c.pos)
  ·simp only[awh h2]
  ·simp only[awg h2]
theorem ai1 {c:bF} (h:F5 c):Wq (jP c) fun b=>b=true↔okC c:=by
 unfold jP;rw[ac7 h,ai,af];simp only[aH,aY,aw9,okC];rw[apZ];constructor
 ·rintro⟨a,b⟩;exact⟨h,b,a⟩
 ·rintro⟨_,b,a⟩;exact⟨a,b⟩
theorem qi {c:bF} (h:F5 c):jP c=some (decide (okC c)):=(ai1 h).dec
def ofC (c:bF):jQ:=⟨c.pos+c.buy,c.qK - c.pos,c.opn⟩
theorem agZ {c:bF} (h:okC c):RX c=some (ofC c,0):=by
 unfold RX;rw[qi h.1,ai,awv h,aK,aT,ac7 h.1,ai,awh h.2.2.1,awh h.2.2.2]
 rfl
def xA (c:bF) (o:aC):bF:=if o.X=2 then ⟨c.pos,c.buy,c.qK+l7 o,c.opn+gV o⟩else ⟨c.pos,c.buy+l7 o,c.qK,c.opn+gV o⟩
def zy (c:bF) (o:aC):bF:=if o.X=2 then ⟨c.pos,c.buy,c.qK - l7 o,c.opn - gV o⟩else ⟨c.pos,c.buy - l7 o,c.qK,c.opn - gV o⟩
theorem Qk {c:bF} {o:aC} (hc:okC c) (ho:wE o) (hr:eY o):yK c o=some (if okC (xA c o)then (xA c o,0)else (c,3)):=by
 have hO:=GI ho hr;have hW:=JK ho;obtain⟨hk,⟨n1,n2,n3⟩,r1,r2⟩:=id hc;have ib:=hk.buy;have is':=hk.qK;have io:=hk.opn;have ip:=hk.pos;unfold yK;rw[qi hk,ai,awv hc,nO,awv ho,aK,aW,aU,ai,aK,dI,aT,YK ho hr,aaw ho hr,ai];simp only[ai];have oO:inI (l7 o):=⟨by omega,by omega⟩;by_cases hw:gV o<=9223372036854775807
 ·have oW:inI (gV o):=⟨by omega,hw⟩;rw[awh hw];simp only[mD,aK,dI];by_cases hs:o.X=2
  ·rw[au (by rw[aI];exact hs),uw is' oO,ai,uw io oW,ai];unfold xA;rw[awh hs];by_cases h1:c.qK+l7 o<=9223372036854775807
   ·by_cases h2:c.opn+gV o<=9223372036854775807
    ·rw[awh ⟨by omega,h1⟩,awh ⟨by omega,h2⟩];simp only[mD,aK,dI,aW,aU];rw[qi (c:=⟨c.pos,c.buy,c.qK+l7 o,c.opn+gV o⟩) ⟨ip,ib,⟨by simp only;omega,h1⟩,⟨by simp only;omega,h2⟩⟩,ai,cO,sN];split<;>rfl
    ·rw[awh ⟨by omega,h1⟩,awg (by unfold inI;omega)];simp only[mD,IE,aK,dI,aW,aU,kH,aT,ai];rw[awg fun h=>h2 h.1.opn.2]
   ·rw[awg (by unfold inI;omega)];simp only[IE,aW,kH,aK,aU,aT,ai];rw[awg fun h=>h1 h.1.qK.2]
  ·rw[bK (by rw[aP];exact hs),uw ib oO,ai,uw io oW,ai];unfold xA;rw[awg hs];by_cases h1:c.buy+l7 o<=9223372036854775807
   ·by_cases h2:c.opn+gV o<=9223372036854775807
    ·rw[awh ⟨by omega,h1⟩,awh ⟨by omega,h2⟩];simp only[mD,aK,dI,aW,aU];rw[qi (c:=⟨c.pos,c.buy+l7 o,c.qK,c.opn+gV o⟩) ⟨ip,⟨by simp only;omega,h1⟩,is',⟨by simp only;omega,h2⟩⟩,ai,cO,sN];split<;>rfl
    ·rw[awh ⟨by omega,h1⟩,awg (by unfold inI;omega)];simp only[mD,IE,aK,dI,aW,aU,kH,aT,ai];rw[awg fun h=>h2 h.1.opn.2]
   ·rw[awg (by unfold inI;omega)];simp only[IE,aW,kH,aK,aU,aT,ai];rw[awg fun h=>h1 h.1.buy.2]
 ·have hno:¬okC (xA c o):=fun h=>by
   have:=h.1.opn.2;unfold xA at this;split at this<;>simp only at this<;>omega
  rw[awg hw,awg hno];simp only[IE,aW,kH,aK,aT,ai,aU];by_cases hs:o.X=2
  ·rw[au (by rw[aI];exact hs),uw is' oO,ai,uw io (by decide),ai]
  ·rw[bK (by rw[aP];exact hs),uw ib oO,ai,uw io (by decide),ai]
theorem agM {c:bF} {o:aC} (hc:okC c) (ho:wE o) (hr:eY o) (hs:okC (zy c o)):Rz c o=some (zy c o,0):=by
 have hO:=GI ho hr;have hW:=JK ho;obtain⟨hk,⟨n1,n2,n3⟩,r1,r2⟩:=id hc;have ib:=hk.buy;have is':=hk.qK;have io:=hk.opn;have ip:=hk.pos;have oO:inI (l7 o):=⟨by omega,by omega⟩;have hw:gV o<=9223372036854775807:=by
  have h1:=hs.2.1.2.2;have h2:=io.2;have h3:(zy c o).opn=c.opn - gV o:=by unfold zy;split<;>rfl
  omega
 have oW:inI (gV o):=⟨by omega,hw⟩;unfold Rz;rw[qi hk,ai,awv hc,nO,awv ho,aK,aW,aU,ai,aK,dI,aT,YK ho hr,aaw ho hr,ai];simp only[ai];rw[awh hw];simp only[mD,aK,dI];unfold inI at ib is' io;by_cases hd:o.X=2
 ·rw[au (by rw[aI];exact hd),NC is' oO,ai,NC io oW,ai];unfold zy at hs ⊢; rw[awh hd]at hs ⊢;rw[awh ⟨by omega,by omega⟩,awh ⟨by omega,by omega⟩];simp only[mD,aK,dI,aW,aU];rw[qi hs.1,awv hs,ai,aK,aT]
 ·rw[bK (by rw[aP];exact hd),NC ib oO,ai,NC io oW,ai];unfold zy at hs ⊢; rw[awg hd]at hs ⊢;rw[awh ⟨by omega,by omega⟩,awh ⟨by omega,by omega⟩];simp only[mD,aK,dI,aW,aU];rw[qi hs.1,awv hs,ai,aK,aT]
theorem amL {c:bF} {d q:Int} (hc:okC c) (hd:d=1\/d=2) (hq:0<=q) (rq:inI q) (hn:okC ⟨if d=1 then c.pos+q else c.pos - q,c.buy,c.qK,c.opn⟩):
 Ur c d q=some (⟨if d=1 then c.pos+q else c.pos - q,c.buy,c.qK,c.opn⟩,0):=by
 unfold Ur
 rw[qi hc.1,ai,awv hc,aK,dI,bK (by simp only[aH,aQ,aX,bn,aG,aF,bg,bC,aY,bI,aI,aP,bG,bJ];omega)]
 have ip:=hc.1.pos
 have hp:=hn.1.pos
 simp only at hp
 by_cases h:d=1
 ·rw[au (by rw[aI];exact h),uw ip rq,ai]
  simp only[awh h]at hn hp ⊢
  rw[awh hp]
  simp only[mD,aK,dI,aW,aU]
  rw[qi hn.1,awv hn,ai,aK,aT]
 ·rw[bK (by rw[aP];exact h),NC ip rq,ai]
  simp only[awg h]at hn hp ⊢
  rw[awh hp]
  simp only[mD,aK,dI,aW,aU]
  rw[qi hn.1,awv hn,ai,aK,aT]
def Zx (x:jQ):Prop:=0<=x.long/\0<=x.qX/\0<=x.opn
instance (x:jQ):Decidable (Zx x):=by unfold Zx;infer_instance
theorem agx (x:jQ):Kz x=some (decide (Zx x)):=by
 refine Wq.dec ?_;unfold Kz Zx;rw[af,aY,apZ]
def ZA (was now cap:Int):Prop:=max was cap<now
instance (a b c:Int):Decidable (ZA a b c):=by unfold ZA;infer_instance
def Em (a b l:jQ):Prop:=ZA a.long b.long l.long\/ZA a.qX b.qX l.qX\/ZA a.opn b.opn l.opn
instance (a b l:jQ):Decidable (Em a b l):=by unfold Em;infer_instance
theorem Oq (a b c:Int):oz a b c=some (decide (ZA a b c)):=by
 refine Wq.dec ?_;unfold oz imax ZA;rw[af,bg];split<;>omega
theorem adI (a b l:jQ):F7 a b l=some (decide (Em a b l)):=by
 refine Wq.dec ?_;unfold F7 Fh;simp only[ai,Oq,dF,af,aw9,axD,Em]
 grind
theorem YS (l:List Int) (i:Nat) (h:i<l.length):(l.take (i+1)).sum=(l.take i).sum+l[i]:=by
 rw[awQ h,List.sum_append];simp
theorem ae6:∀ {l:List Int},(∀x∈l,0<=x)->0<=l.sum
 |[],_=>by simp
 |a::l,h=>by
  have:=ae6 (l:=l) fun x hx=>h x (by simp [hx])
  have:=h a (by simp)
  simp only[List.sum_cons];omega
theorem ac0 {l:List Int} (h:∀x∈l,0<=x) (i:Nat):(l.take i).sum<=l.sum:=by
 have e:l.sum=(l.take i).sum+(l.drop i).sum:=by rw[<-List.sum_append,aw7]
 have:=ae6 (l:=l.drop i) fun x hx=>h x (axE hx);omega
def avO (l:List Int):Int×Int:=if l.sum<=9223372036854775807 then (l.sum,0)else (0,3)
theorem ajI {l:List Int} (hl:l.length<999999) (h:∀x∈l,0<=x/\inI x):PX l=some (avO l):=by
 refine Wq.eq ?_;have hn:∀x∈l,0<=x:=fun x hx=>(h x hx).1;unfold PX;refine Wq.bind (Q:=fun w:(Int×Int) ⊕ (Int×Int×Int)=>match w with | .inl w=>w=(3,0)/\¬l.sum<=9223372036854775807 | .inr w=>w.1=l.sum/\l.sum<=9223372036854775807)
  (fG (n:=l.length) (step:=fun v:Int×Int×Int×Int=>DJ (len l) l v.1 v.2.1 v.2.2.1 v.2.2.2) (by omega)
    (fun i x=>x.1=(l.take i).sum/\x.1<=9223372036854775807) _ ?_ ?_ _ 0 (awm _) (by simp)) ?_
 ·rintro i ⟨a,b,c⟩ hi ⟨rfl,ha⟩;simp only[DJ];simp only at ha;have ht:=ae6 (l:=l.take i) fun x hx=>hn x (axo hx);have hx:=h l[i] (awl _);rw[au (by rw[dm];simpa using hi),au (inb l i hi),aN l i hi,uw ⟨by omega,ha⟩ hx.2,ai,<-YS l i hi];have:=ac0 hn (i+1);have h2:=ae6 (l:=l.take (i+1)) fun x hx=>hn x (axo hx);by_cases hr:(l.take (i+1)).sum<=9223372036854775807
  ·rw[awh ⟨by omega,hr⟩];simp only[mD,aK,aT,af];exact⟨aZ (by omega),trivial,hr⟩
  ·rw[awg (by unfold inI;omega)];simp only[IE,aW,aU,af];exact⟨trivial,by omega⟩
 ·rintro⟨a,b,c⟩ ⟨rfl,ha⟩;simp only[DJ];simp only at ha;rw[bK (by rw[dm];simp),af];rw[awq]at*;exact⟨rfl,ha⟩
 ·rintro w hw;unfold avO;cases w with
  |inl w=>obtain⟨rfl,h2⟩:=hw;simp only[dK,af];rw[awg h2]
  |inr w=>obtain⟨h1,h2⟩:=hw;simp only[dK,af];rw[awh h2,h1]
def jk (l:List bF):Int:=(l.map bF.opn).sum
theorem QA {l:List bF} (hl:l.length<999999) (h:∀c∈l,0<=c.opn/\inI c.opn):BV l=some (if jk l<=9223372036854775807 then (jk l,0)else (0,3)):=by
 refine Wq.eq ?_;unfold BV;refine Wq.bind (Q:=fun w:List Int=>w=l.map bF.opn)
  (fG (n:=l.length) (step:=fun v:Int×List Int=>Af (len l) l v.1 v.2) (by omega) (fun i x=>x=(l.take i).map bF.opn) _ ?_ ?_ _ 0 (awm _) (by simp)) ?_
 ·rintro i x hi rfl;simp only[Af];rw[au (by rw[dm];simpa using hi),au (inb l i hi),au (dW (by simp [aJ,len];omega)),af,aN l i hi];exact⟨aZ (by omega),by rw[awQ hi,List.map_append];rfl⟩
 ·rintro x rfl;simp only[Af];rw[bK (by rw[dm];simp),af,awq]
 ·rintro w rfl
  rw[ajI (by simpa using hl) (fun x hx=>by
   obtain⟨c,hc,rfl⟩:=axG.1 hx
   exact h c hc),ai,af]
  rfl
theorem Zl {l:List Int} (hl:l.length<999999) (h0:l≠[]):Wq (sF l) fun m=>0<=m↔∀x∈l,0<=x:=by
 have hp:0<l.length:=ax1.2 h0;unfold sF;rw[bK (nP (by simp only[len];omega)),au (pO (by simp only[len];omega))];refine Wq.bind (Q:=fun m=>0<=m↔∀x∈l,0<=x) (fG (n:=l.length) (step:=fun v:Int×Int=>qh l v.1 v.2) (by omega) (fun i x=>0<=x↔∀y∈l.take i,0<=y) _ ?_ ?_ _ 1 hp ?_) ?_
 ·rintro i x hi hx;simp only[qh];rw[au (by rw[dm];simpa using hi),au (inb l i hi),af,aN l i hi];refine⟨aZ (by omega),?_⟩;rw[awQ hi];simp only[awt,awC];unfold kP;constructor
  ·intro h y hy;rcases hy with hy | rfl
   ·exact hx.1 (by split at h<;>omega) y hy
   ·split at h<;>omega
  ·intro h;have h1:=hx.2 fun y hy=>h y (.inl hy);have h2:=h _ (.inr rfl);split<;>omega
 ·rintro x hx;simp only[qh];rw[bK (by rw[dm];simp),af];rwa[awq]at hx
 ·cases l with
  |nil=>exact absurd rfl h0
  |cons a r=>simp [aj]
 ·exact fun w hw=>(af _).2 hw
def zu (l:List aC) (n:Int):Option Nat:=l.findIdx? fun o=>o.id == n
def Rw (l:List aC) (n:Int):Int:=match zu l n with | some k=>k | none=> -1
theorem PU (s:aB) (n:Int) (hl:s.a.length<999999):DV s n=some (Rw s.a n):=by
 refine Wq.eq ?_;unfold DV
 refine Wq.bind (Q:=fun w:Int ⊕ Int=>match w with
  |.inl k=>∃i:Nat,k=i/\∃h:i<s.a.length,s.a[i].id=n/\∀j,(h:j<s.a.length)->j<i->s.a[j].id≠n
  |.inr _=>∀j,(h:j<s.a.length)->s.a[j].id≠n)
  (fG (n:=s.a.length) (step:=fun v:Int×Int=>fC (len s.a) s.a n v.1 v.2) (by omega) (fun i x=>∀j,(h:j<s.a.length)->j<i->s.a[j].id≠n) _ ?_ ?_ _ 0 (awm _) (fun j _ h=>by omega)) ?_
 ·rintro i x hi hx;simp only[fC];rw[au (by rw[dm];simpa using hi),au (inb _ i hi),aN _ i hi,dF];refine⟨fun he=>(af _).2 ⟨i,rfl,hi,by simpa [ieq] using he,hx⟩,fun he=>(af _).2 ⟨aZ (by omega),fun j hj hji=> ?_⟩⟩;by_cases e:j=i
  ·subst e;simpa [ieq] using he
  ·exact hx j hj (by omega)
 ·rintro x hx;simp only[fC];rw[bK (by rw[dm];simp),af];exact fun j hj=>hx j hj hj
 ·rintro w hw;cases w with
  |inl k=>
   obtain⟨i,rfl,hi,h1,h2⟩:=hw;have:zu s.a n=some i:=by
    unfold zu;rw[azd];exact⟨hi,by simpa using h1,fun j hj=>by simpa using h2 j (by omega) hj⟩
   simp only[dK,af,Rw,this]
  |inr k=>
   have:zu s.a n=none:=by
    unfold zu;rw[aze];intro o ho;obtain⟨j,hj,rfl⟩:=axu ho;simpa using hw j hj
   simp only[dK,af,Rw,this]
theorem ou {l:List aC} {n:Int} {k:Nat} (h:zu l n=some k):∃hk:k<l.length,l[k].id=n:=by
 unfold zu at h;rw[azd]at h;obtain⟨hk,h1,_⟩:=h;exact⟨hk,by simpa using h1⟩
theorem alZ {l:List aC} {n:Int} (h:zu l n=none):∀o∈l,o.id≠n:=by
 unfold zu at h;rw[aze]at h;intro o ho;simpa using h o ho
theorem Gg {l:List aC} {n:Int} {k:Nat} (h:zu l n=some k):Rw l n=k:=by unfold Rw;rw[h]
theorem Kr {l:List aC} {n:Int} (h:zu l n=none):Rw l n= -1:=by unfold Rw;rw[h]
def qO (s:aB):Prop:=(1<=s.t/\s.t<=8)/\(1<=s.i/\s.i<=8)/\len s.cells=s.t*s.i/\len s.G=len s.cells/\len s.W=s.t/\s.a.length<=64
instance (s:aB):Decidable (qO s):=by unfold qO;infer_instance
theorem Dz {a b:Int} (h1:0<=a) (h2:a<=9) (h3:0<=b) (h4:b<=9):0<=a*b/\a*b<=81:=
 ⟨aw2 h1 h3,by have:=axL h2 h4 h3 (by omega);omega⟩
theorem YA (s:aB):Wq (zS s) fun b=>b=true↔qO s:=by
 unfold zS;simp only[af,aH,aY,aI,qO];constructor
 ·rintro⟨⟨⟨⟨⟨⟨⟨a,b⟩,c⟩,d⟩,e⟩,f⟩,g⟩,h⟩;have:=Dz (a:=s.t) (b:=s.i) (by omega) (by omega) (by omega) (by omega);rw[show dA s.t s.i=s.t*s.i from rfl,bf this.1 (by omega)]at e;exact⟨⟨a,b⟩,⟨c,d⟩,e,f,g,by simp only[len]at h;omega⟩
 ·rintro⟨⟨a,b⟩,⟨c,d⟩,e,f,g,h⟩;have:=Dz (a:=s.t) (b:=s.i) (by omega) (by omega) (by omega) (by omega);rw[show dA s.t s.i=s.t*s.i from rfl,bf this.1 (by omega)];exact⟨⟨⟨⟨⟨⟨⟨a,b⟩,c⟩,d⟩,e⟩,f⟩,g⟩,by simp only[len];omega⟩
theorem qO.lens {s:aB} (hs:qO s):s.cells.length<=64/\s.G.length=s.cells.length/\s.W.length=s.t.toNat/\s.a.length<=64:=by
 obtain⟨⟨h1,h2⟩,⟨h3,h4⟩,h5,h6,h7,h8⟩:=hs;have m:s.t*s.i<=8*8:=axL h2 h4 (by omega) (by omega);simp only[len]at h5 h6 h7;exact⟨by omega,by omega,by omega,h8⟩
def atZ (n:Int) (o:aC):Int:=o.y*n+o.z
theorem OW {s:aB} (hs:qO s) (a y:Int) (ha:0<=a) (ha2:a<s.t) (hy:0<=y) (hy2:y<s.i):
 ∃k:Nat,dJ s a y=some (k:Int)/\(k:Int)=a*s.i+y/\k<s.cells.length:=by
 obtain⟨⟨h1,h2⟩,⟨h3,h4⟩,h5,_⟩:=hs
 have m:=Dz (a:=a) (b:=s.i) (by omega) (by omega) (by omega) (by omega)
 have l:(a+1)*s.i<=s.t*s.i:=axZ (by omega) (by omega)
 have e:(a+1)*s.i=a*s.i+s.i:=by rw[ax6,ayk]
 refine⟨(a*s.i+y).toNat,?_,by omega,by simp only[len]at h5;omega⟩
 unfold dJ
 rw[show dA a s.i=a*s.i from rfl,bf m.1 (by omega),show ay (a*s.i) y=a*s.i+y from rfl,bf (by omega) (by omega)]
 congr 1;omega
def vY (n:Int) (cs:List bF) (a:Int):List bF:=(cs.drop (a*n).toNat).take n.toNat
theorem ab7 {s:aB} (hs:qO s) (a:Int) (ha:0<=a) (ha2:a<s.t):
 mQ s a=some (vY s.i s.cells a):=by
 obtain⟨⟨h1,h2⟩,⟨h3,h4⟩,h5,_⟩:=hs
 have m:=Dz (a:=a) (b:=s.i) (by omega) (by omega) (by omega) (by omega)
 have m2:=Dz (a:=a+1) (b:=s.i) (by omega) (by omega) (by omega) (by omega)
 have l:(a+1)*s.i<=s.t*s.i:=axZ (by omega) (by omega)
 have e:(a+1)*s.i=a*s.i+s.i:=by rw[ax6,ayk]
 unfold mQ
 rw[show dA a s.i=a*s.i from rfl,bf m.1 (by omega),show ay a 1=a+1 from rfl,bf (n:=a+1) (by omega) (by omega),
  show dA (a+1) s.i=(a+1)*s.i from rfl,bf m2.1 (by omega)]
 rw[au (by simp only[aH,aY];omega)]
 rw[show aO ((a+1)*s.i) (a*s.i)=s.i from by unfold aO;omega]
 rfl
theorem ahy {n:Int} {cs:List bF} {a:Int} {c:bF} (h:c∈vY n cs a):c∈cs:=axE (axo h)
theorem NE {n:Int} {cs:List bF} {a:Int}:(vY n cs a).length<=cs.length:=by
 unfold vY;rw[awu,awP];omega
def nV (s:aB) (o:aC):Prop:=wE o/\o.P≠3/\o.y<s.t/\o.z<s.i
def Px (l:List aC):Prop:=l.Pairwise fun a b=>a.id<b.id
structure ajK (s:aB):Prop where
 ords:∀o∈s.a,nV s o
 asc:Px s.a
 ids:∀o∈s.a,o.id<=s.S
 S:0<=s.S/\s.S<=1000000000000
 A:0<=s.A/\s.A<=1000000000
 B:0<=s.B/\s.B<=1000000000
 lims:∀x∈s.G,Zx x
 W:∀x∈s.W,0<=x
theorem sQ {α:Type} {l:List α} {i:Nat} (h:i<l.length) {x:α}:x∈l.take (i+1)↔x∈l.take i\/x=l[i]:=by
 rw[awQ h,awt,awC]
theorem at1 (s:aB) (hl:s.a.length<999999) (h2:s.G.length<999999) (h3:s.W.length<999999) (h0:s.W≠[]):
 Wq (Bv s) fun b=>b=true↔ajK s:=by
 unfold Bv
 refine Wq.bind (Q:=fun w:Bool ⊕ (Int×Bool)=>match w with
  |.inl b=>b=false/\¬((∀o∈s.a,nV s o)/\Px s.a)
  |.inr v=>(∀o∈s.a,nV s o/\o.id<=v.1)/\Px s.a/\(v.1=0\/∃o∈s.a,o.id=v.1))
  (fG (n:=s.a.length) (step:=fun v:Int×Int×Bool=>rU (len s.a) s.a s v.1 v.2.1 v.2.2) (by omega)
    (fun i v=>(∀o∈s.a.take i,nV s o/\o.id<=v.1)/\Px (s.a.take i)/\(v.1=0\/∃o∈s.a.take i,o.id=v.1)) _ ?_ ?_ _ 0 (awm _) (by simp [Px])) ?_
 ·rintro i ⟨x,q⟩ hi ⟨g1,g2,g3⟩
  simp only at g1 g2 g3
  simp only[rU]
  rw[au (by rw[dm];simpa using hi),au (inb _ i hi),aN _ i hi,nO,ai]
  simp only[dF,af,aX,bn,aG,aF,aI,aP,aY,bI,aw9,axD]
  refine⟨fun hb=>⟨trivial,fun⟨a1,a2⟩=> ?_⟩,fun hc=>⟨aZ (by omega),fun o ho=> ?_,?_,.inr ⟨_,(sQ hi).2 (.inr rfl),rfl⟩⟩⟩
  ·obtain⟨b1,b2,b3,b4⟩:=a1 s.a[i] (awl _)
   have hle:s.a[i].id<=x:=by
    rcases hb with (((hb | hb) | hb) | hb) | hb
    ·exact absurd b1 hb
    ·exact absurd hb b2
    ·omega
    ·omega
    ·exact hb
   rcases g3 with g3 | ⟨o,ho,g3⟩
   ·have:=b1.1.1.1;omega
   ·obtain⟨j,hj,rfl⟩:=axu ho
    rw[awu]at hj
    have:=ax7.1 a2 j i (by omega) hi (by omega)
    rw[axI]at g3
    omega
  ·rcases(sQ hi).1 ho with ho | rfl
   ·have:=g1 o ho
    exact⟨this.1,by have:=this.2;omega⟩
   ·exact⟨⟨hc.1.1.1.1,hc.1.1.1.2,by omega,by omega⟩,aw3 _⟩
  ·rw[awQ hi]
   unfold Px
   rw[ayR]
   refine⟨g2,by simp,fun a ha b hb=> ?_⟩
   rw[awC]at hb
   subst hb
   have:=(g1 a ha).2
   omega
 ·rintro⟨x,q⟩ hx
  simp only[rU]
  rw[bK (by rw[dm];simp),af]
  simp only[awq]at hx
  exact hx
 ·rintro w hw
  cases w with
  |inl b=>
   obtain⟨rfl,hn⟩:=hw
   simp only[dK,af]
   exact⟨fun h=>(by cases h),fun h=>absurd ⟨h.ords,h.asc⟩ hn⟩
  |inr v=>
   obtain⟨g1,g2,g3⟩:=hw
   have gl:v.1<=s.S/\0<=s.S↔(∀o∈s.a,o.id<=s.S)/\0<=s.S:=by
    constructor
    ·rintro⟨a,b⟩;exact⟨fun o ho=>by have:=(g1 o ho).2;omega,b⟩
    ·rintro⟨a,b⟩
     refine⟨?_,b⟩
     rcases g3 with g3 | ⟨o,ho,g3⟩
     ·omega
     ·have:=a o ho;omega
   have hF:ajK s↔(v.1<=s.S/\s.S<=1000000000000/\0<=s.A/\s.A<=1000000000/\0<=s.B/\s.B<=1000000000)/\(∀x∈s.G,Zx x)/\(∀x∈s.W,0<=x)/\0<=s.S:=by
    constructor
    ·intro h
     have:=gl.2 ⟨h.ids,h.S.1⟩
     exact⟨⟨this.1,h.S.2,h.A.1,h.A.2,h.B.1,h.B.2⟩,h.lims,h.W,h.S.1⟩
    ·rintro⟨⟨a1,a2,a3,a4,a5,a6⟩,b,c,d⟩
     exact⟨fun o ho=>(g1 o ho).1,g2,(gl.1 ⟨a1,d⟩).1,⟨d,a2⟩,⟨a3,a4⟩,⟨a5,a6⟩,b,c⟩
   rw[hF]
   obtain⟨m,hm,hmq⟩:=Zl h3 h0
   simp only[dK,hm,tH,avV,ai]
   simp only[aH,aQ,aX,bn,aG,aF,bg,bC,aY,bI,aI,aP,bG,bJ]
   by_cases hA:v.1<=s.S/\s.S<=1000000000000/\0<=s.A/\s.A<=1000000000/\0<=s.B/\s.B<=1000000000
   ·have hA':((((v.1<=s.S/\s.S<=1000000000000)/\0<=s.A)/\s.A<=1000000000)/\0<=s.B)/\s.B<=1000000000:=⟨⟨⟨⟨⟨hA.1,hA.2.1⟩,hA.2.2.1⟩,hA.2.2.2.1⟩,hA.2.2.2.2.1⟩,hA.2.2.2.2.2⟩
    rw[awh hA']
    refine Wq.bind (Q:=fun w:Int ⊕ Int=>match w with | .inl k=>0<=k/\¬∀x∈s.G,Zx x | .inr _=>∀x∈s.G,Zx x)
     (fG (n:=s.G.length) (step:=fun v:Int×Int=>dL (len s.G) s.G v.1 v.2) (by omega) (fun i _=>∀x∈s.G.take i,Zx x) _ ?_ ?_ _ 0 (awm _) (by simp)) ?_
    ·rintro i x hi hx
     simp only[dL]
     rw[au (by rw[dm];simpa using hi),au (inb _ i hi),aN _ i hi,agx,ai]
     simp only[dF,af,aG,aF,aw9,axD]
     refine⟨fun h=>⟨by omega,fun h2=>h (h2 _ (awl _))⟩,fun h=>⟨aZ (by omega),fun x hx'=> ?_⟩⟩
     rcases(sQ hi).1 hx' with h5 | rfl
     ·exact hx x h5
     ·exact h
    ·rintro x hx
     simp only[dL]
     rw[bK (by rw[dm];simp),af]
     rwa[awq]at hx
    ·rintro w hw
     cases w with
     |inl k=>
      obtain⟨hk,hn⟩:=hw
      simp only
      rw[awg (fun h=>by omega),af]
      simp only[aH,aQ,aX,bn,aG,aF,bg,bC,aY,bI,aI,aP,bG,bJ]
      constructor
      ·rintro⟨⟨⟨_,h⟩,_⟩,_⟩;omega
      ·rintro⟨_,h,_⟩;exact absurd h hn
     |inr k=>
      simp only
      rw[awh (.inl hA'),af]
      simp only[aH,aQ,aX,bn,aG,aF,bg,bC,aY,bI,aI,aP,bG,bJ]
      constructor
      ·rintro⟨⟨_,h1⟩,h2⟩;exact⟨hA,hw,hmq.1 h1,h2⟩
      ·rintro⟨_,_,h1,h2⟩;exact⟨⟨.inl hA',hmq.2 h1⟩,h2⟩
   ·have hA':¬(((((v.1<=s.S/\s.S<=1000000000000)/\0<=s.A)/\s.A<=1000000000)/\0<=s.B)/\s.B<=1000000000):=by omega
    rw[awg hA',awg (by simpa using hA'),af]
    simp only[aH,aQ,aX,bn,aG,aF,bg,bC,aY,bI,aI,aP,bG,bJ]
    constructor
    ·rintro⟨⟨h | h,_⟩,_⟩
     ·exact absurd h hA'
     ·cases h
    ·rintro⟨h,_⟩;exact absurd h hA
def mM (a b:bF):bF:=⟨a.pos+b.pos,a.buy+b.buy,a.qK+b.qK,a.opn+b.opn⟩
def zC:bF:=⟨0,0,0,0⟩
def wC (o:aC):bF:=if o.X=2 then ⟨0,0,l7 o,gV o⟩else ⟨0,l7 o,0,gV o⟩
def inC (n i:Int) (o:aC):bF:=if atZ n o=i then wC o else zC
def kL (n i:Int):List aC->bF
 |[]=>zC
 |o::r=>mM (inC n i o) (kL n i r)
theorem BJ {a b:bF} (h1:a.pos=b.pos) (h2:a.buy=b.buy) (h3:a.qK=b.qK) (h4:a.opn=b.opn):a=b:=by
 cases a;cases b;simp_all
theorem QS (a:bF):mM a zC=a:=by apply BJ<;>simp [mM,zC]
theorem atT (a:bF):mM zC a=a:=by apply BJ<;>simp [mM,zC]
theorem ao6 (a b:bF):mM a b=mM b a:=by apply BJ<;>simp only[mM]<;>omega
theorem NJ (a b c:bF):mM (mM a b) c=mM a (mM b c):=by apply BJ<;>simp only[mM]<;>omega
theorem abm (c:bF) (o:aC):xA c o=mM c (wC o):=by unfold xA wC;split<;>simp [mM]
theorem yM (n i:Int):∀(l m:List aC),kL n i (l++m)=mM (kL n i l) (kL n i m)
 |[],m=>(atT _).symm
 |o::l,m=>by
  rw[axa,kL,kL,yM n i l m,NJ]
theorem aaE (n i:Int) (o:aC):kL n i [o]=inC n i o:=QS _
theorem NI (n i:Int) (l:List aC) (k:Nat) (h:k<l.length):kL n i l=mM (mM (kL n i (l.take k)) (kL n i (l.drop (k+1)))) (inC n i l[k]):=by
 have e:l=l.take k++(l[k]::l.drop (k+1)):=by rw[<-axe h,aw7]
 have:kL n i l=kL n i (l.take k++(l[k]::l.drop (k+1))):=by rw[<-e]
 rw[this,yM,kL,NJ,ao6 (inC n i l[k])]
theorem aeG (n i:Int) (l:List aC) (k:Nat) (h:k<l.length) (p:aC):kL n i (l.set k p)=mM (mM (kL n i (l.take k)) (kL n i (l.drop (k+1)))) (inC n i p):=by
 have h1:(l.set k p).take k=l.take k:=List.take_set_of_le (awk _);have h2:(l.set k p).drop (k+1)=l.drop (k+1):=List.drop_set_of_lt (by omega);have h3:(l.set k p)[k]'(by simpa using h)=p:=ay8 _;rw[NI n i (l.set k p) k (by simpa using h),h1,h2,h3]
theorem aef (n i:Int) (l:List aC) (k:Nat) (h:k<l.length):kL n i (l.eraseIdx k)=mM (kL n i (l.take k)) (kL n i (l.drop (k+1))):=by
 rw[ay3,yM]
def nnC (c:bF):Prop:=c.pos=0/\0<=c.buy/\0<=c.qK/\0<=c.opn
theorem aq1 {o:aC} (h:wE o) (hr:eY o):nnC (wC o):=by
 have:=GI h hr;have:=JK h;unfold wC nnC;split<;>simp<;>omega
theorem atO (n i:Int) {o:aC} (h:wE o) (hr:eY o):nnC (inC n i o):=by
 unfold inC;split
 ·exact aq1 h hr
 ·simp [nnC,zC]
theorem aip {a b:bF} (h1:nnC a) (h2:nnC b):nnC (mM a b):=by
 unfold nnC mM at *; simp only;omega
theorem Na (n i:Int):∀ {l:List aC},(∀o∈l,wE o/\eY o)->nnC (kL n i l)
 |[],_=>by simp [kL,nnC,zC]
 |o::l,h=>aip (atO n i (h o (by simp)).1 (h o (by simp)).2) (Na n i fun x hx=>h x (by simp [hx]))
def KT (c:bF):Prop:=c.buy<=9223372036854775807/\c.qK<=9223372036854775807/\c.opn<=9223372036854775807
theorem afs {c:bF} (h:nnC c) (hf:KT c):okC c:=by
 obtain⟨h0,h1,h2,h3⟩:=h;obtain⟨f1,f2,f3⟩:=hf;rw[P8,h0];unfold inI;omega
theorem acE {c:bF} (h:okC c):KT c:=⟨h.1.buy.2,h.1.qK.2,h.1.opn.2⟩
theorem ak4 {a b:bF} (hb:nnC b) (h:KT (mM a b)):KT a:=by
 unfold KT mM nnC at *; simp only at *; omega
def fitAll (s:aB):Prop:=∀j:Nat,j<s.cells.length->KT (kL s.i j s.a)
theorem ahb {α:Type} (l:List α) (k:Nat) (x:α) (j:Nat) (h:j<(dP l (itn (k:Int)) x).length):(dP l (itn (k:Int)) x)[j]=if k=j then x else l[j]'(by simpa [dP] using h):=by
 simp [dP,itn,ax8]
theorem aq4 {s:aB} (hs:qO s) (hk:∀o∈s.a,nV s o/\eY o):
 Wq (xY s) fun r=>(r.2=true↔fitAll s)/\(r.2=true->r.1.length=s.cells.length/\∀(j:Nat) (h:j<r.1.length),r.1[j]=kL s.i j s.a):=by
 obtain⟨hc,_,_,hol⟩:=hs.lens
 unfold xY
 rw[au (by simp only[aH,aY,len];omega)]
 refine Wq.bind (Q:=fun w:(Bool×List bF×List bF) ⊕ (Bool×List bF×List bF)=>match w with
  |.inl b=>b.1=false/\¬fitAll s
  |.inr b=>b.2.2.length=s.cells.length/\∀(j:Nat) (h:j<b.2.2.length),b.2.2[j]=kL s.i j s.a/\KT b.2.2[j])
  (fG (n:=s.a.length) (step:=fun v:Int×Bool×List bF×List bF=>oU (len s.a) s.a s v.1 v.2.1 v.2.2.1 v.2.2.2) (by omega)
    (fun i x=>x.2.2.length=s.cells.length/\∀(j:Nat) (h:j<x.2.2.length),x.2.2[j]=kL s.i j (s.a.take i)/\KT x.2.2[j]) _ ?_ ?_ _ 0 (awm _) ?_) ?_
 ·rintro i ⟨q,x,y⟩ hi ⟨hx,hy⟩
  simp only at hx hy
  simp only[oU]
  have hmem:=hk s.a[i] (awl _)
  obtain⟨⟨ho,ho3,g1,g2⟩,hor⟩:=id hmem
  obtain⟨⟨_,hb1,hb2,_⟩,_⟩:=id ho
  obtain⟨k,k1,k2,k3⟩:=OW hs s.a[i].y s.a[i].z hb1.1 g1 hb2.1 g2
  have hky:k<y.length:=by omega
  have hnn:nnC y[k]:=by
   rw[(hy k hky).1]
   exact Na _ _ fun o h=>⟨(hk o (axo h)).1.1,(hk o (axo h)).2⟩
  have hok:okC y[k]:=afs hnn (hy k hky).2
  have hnew:nnC (xA y[k] s.a[i]):=by rw[abm];exact aip hnn (aq1 ho hor)
  have hsum:∀j:Nat,kL s.i j (s.a.take (i+1))=mM (kL s.i j (s.a.take i)) (inC s.i j s.a[i]):=fun j=>by
   rw[awQ hi,yM,aaE]
  have hat:atZ s.i s.a[i]=(k:Int):=k2.symm
  have hkk:xA y[k] s.a[i]=kL s.i k (s.a.take (i+1)):=by
   rw[hsum,abm,(hy k hky).1]
   unfold inC;rw[awh hat]
  rw[au (by rw[dm];simpa using hi),au (inb _ i hi),aN _ i hi,k1,ai,au (inb y k hky),aN y k hky,Qk hok ho hor,ai]
  by_cases hf:okC (xA y[k] s.a[i])
  ·rw[awh hf]
   simp only[mD,aK,aT]
   rw[au (inb y k hky),af]
   refine⟨aZ (by omega),(DX _ _ _).trans hx,fun j hj=> ?_⟩
   have hj':j<y.length:=by simpa [dP] using hj
   show(dP y (itn (k:Int)) (xA y[k] s.a[i]))[j]'hj=_/\KT ((dP y (itn (k:Int)) (xA y[k] s.a[i]))[j]'hj)
   rw[ahb]
   split
   ·rename_i e;subst e
    exact⟨hkk,acE hf⟩
   ·rename_i e
    rw[hsum j]
    unfold inC
    rw[awg (by omega),QS]
    exact hy j hj'
  ·rw[awg hf]
   simp only[IE,aW,aU]
   rw[af]
   refine⟨rfl,fun hall=>hf (afs hnew ?_)⟩
   rw[hkk]
   have e:kL s.i k s.a=mM (kL s.i k (s.a.take (i+1))) (kL s.i k (s.a.drop (i+1))):=by
    rw[<-yM,aw7]
   have:=hall k k3
   rw[e]at this
   exact ak4 (Na _ _ fun o h=>⟨(hk o (axE h)).1.1,(hk o (axE h)).2⟩) this
 ·rintro⟨q,x,y⟩ hx
  simp only[oU]
  rw[bK (by rw[dm];simp),af]
  simp only[awq]at hx
  exact hx
 ·simp only[ays,kL]
  refine⟨by simp [sK,itn,len],fun j hj=> ?_⟩
  simp only[sK,List.getElem_replicate]
  exact⟨rfl,by simp only[KT];decide⟩
 ·rintro w hw
  cases w with
  |inl b=>
   obtain⟨h1,h2⟩:=hw
   simp only[dK,af,h1]
   exact⟨⟨fun h=>(by cases h),fun h=>absurd h h2⟩,fun h=>by cases h⟩
  |inr b=>
   obtain⟨h1,h2⟩:=hw
   simp only[dK,af]
   refine⟨⟨fun _ j hj=> ?_,fun _=>trivial⟩,fun _=>⟨h1,fun j hj=>(h2 j hj).1⟩⟩
   have:=h2 j (by omega)
   rw[<-this.1];exact this.2
def dD (s:aB) (l:List aC):List bF:=s.cells.mapIdx fun i c=>mM ⟨c.pos,0,0,0⟩ (kL s.i i l)
theorem iF (s:aB) (l:List aC):(dD s l).length=s.cells.length:=by simp [dD]
theorem vZ (s:aB) (l:List aC) (i:Nat) (h:i<(dD s l).length):(dD s l)[i]=mM ⟨(s.cells[i]'(by simpa [dD] using h)).pos,0,0,0⟩ (kL s.i i l):=by
 simp [dD]
def QT (n m:Int) (cs:List bF):Prop:=∀a:Int,0<=a->a<n->jk (vY m cs a)<=9223372036854775807
structure iH (s:aB):Prop where
 sized:qO s
 fine:ajK s
 cells:s.cells=dD s s.a
 ok:∀c∈s.cells,okC c
 acct:QT s.t s.i s.cells
theorem MW (s:aB) (hr:iD s) (hl:s.a.length<999999) (h2:s.G.length<999999) (h3:s.W.length<999999):
 Wq (Bh s) fun b=>b=true↔iH s:=by
 unfold Bh EU
 rw[jI]
 refine Wq.bind (YA s) fun z hz=> ?_
 refine Wq.bind (Q:=fun b=>b=true↔(z=true/\ajK s)) ?_ ?_
 ·rw[dF]
  refine⟨fun h=> ?_,fun h=>(af _).2 ?_⟩
  ·simp only[aG,aF]at h
   have hs:qO s:=hz.1 h
   refine(at1 s hl h2 h3 ?_).mono fun b hb=>by rw[hb];simp [h]
   intro e
   have:=hs.2.2.2.2.1
   have:=hs.1.1
   simp [e,len]at*
   omega
  ·simp only[aG,aF]at h
   simp [h]
 ·intro f hf
  rw[dF]
  refine⟨fun h=>(af _).2 ((af _).2 ?_),fun h=> ?_⟩
  ·simp only[aX,aG]at h
   refine⟨fun h=>(by cases h),fun hr=> ?_⟩
   have e1:=hz.2 hr.sized
   have e2:=hf.2 ⟨e1,hr.fine⟩
   rw[e1,e2]at h
   simp at h
  ·simp only[bn,aF]at h
   have hs:=hz.1 h.1
   have hfn:=(hf.1 h.2).2
   obtain⟨hc,hlim,hcap,hol⟩:=hs.lens
   have hall:∀o∈s.a,nV s o/\eY o:=fun o ho=>⟨hfn.ords o ho,hr.a.1 o ho⟩
   have hokc:∀c∈s.cells,F5 c:=hr.cells.1
   refine Wq.bind (aq4 hs hall) fun y hy=> ?_
   obtain⟨hy1,hy2⟩:=hy
   rw[dF]
   refine⟨fun h5=>(af _).2 ((af _).2 ?_),fun h5=> ?_⟩
   ·rw[aG]at h5
    refine⟨fun h=>(by cases h),fun hR=> ?_⟩
    have:y.2=true:=hy1.2 fun j hj=>by
     have e:=hR.ok s.cells[j] (awl _)
     have e2:s.cells[j]=mM ⟨s.cells[j].pos,0,0,0⟩ (kL s.i j s.a):=by
      have:=vZ s s.a j (by rw[iF];exact hj)
      rw[<-this]
      congr 1
      exact hR.cells
     have e3:=acE e
     rw[e2]at e3
     unfold KT mM at e3
     simpa [KT] using e3
    rw[this]at h5;cases h5
   ·rw[aF]at h5
    obtain⟨hyl,hyg⟩:=hy2 h5
    refine Wq.bind (Q:=fun w:(Bool×List bF) ⊕ (Bool×List bF)=>match w with
     |.inl b=>b.1=false/\¬((∀c∈s.cells,okC c)/\s.cells=dD s s.a)
     |.inr _=>(∀c∈s.cells,okC c)/\s.cells=dD s s.a)
     (fG (n:=s.cells.length) (step:=fun v:Int×Bool×List bF=>oJ (len s.cells) s.cells v.1 v.2.1 v.2.2) (by omega)
     (fun i x=>x.2.length=s.cells.length/\(∀(j:Nat) (h:j<x.2.length),i<=j->x.2[j]=kL s.i j s.a)/\∀(j:Nat) (h:j<s.cells.length),j<i->okC s.cells[j]/\s.cells[j]=mM ⟨s.cells[j].pos,0,0,0⟩ (kL s.i j s.a)) _ ?_ ?_ _ 0 (awm _)
     ⟨hyl,fun j hj _=>hyg j hj,fun j _ h=>by omega⟩) ?_
    ·rintro i ⟨q,x⟩ hi ⟨hx,hxj,hxd⟩
     simp only at hx hxj hxd
     simp only[oJ]
     have hix:i<x.length:=by omega
     rw[au (by rw[dm];simpa using hi),au (inb _ i hi),au (inb x i hix),aN _ i hi,aN x i hix,qi (hokc _ (awl _)),ai]
     have hil:i<(dP x (itn (i:Int)) (bF.mk s.cells[i].pos x[i].buy x[i].qK x[i].opn)).length:=by rw[DX];exact hix
     rw[au (by rw[aX];exact .inl (inb _ i hil)),aN _ i hil]
     have hg:(dP x (itn (i:Int)) (bF.mk s.cells[i].pos x[i].buy x[i].qK x[i].opn))[i]=bF.mk s.cells[i].pos x[i].buy x[i].qK x[i].opn:=by
      simp [dP,itn]
     rw[hg]
     have hxi:=hxj i hix (awk _)
     have hq:mM ⟨s.cells[i].pos,0,0,0⟩ (kL s.i i s.a)=bF.mk s.cells[i].pos x[i].buy x[i].qK x[i].opn:=by
      rw[<-hxi]
      have hp:x[i].pos=0:=by rw[hxi];exact(Na _ _ fun o h=>⟨(hall o h).1.1,(hall o h).2⟩).1
      apply BJ<;>simp only[mM]<;>omega
     simp only[dF,af,aH,aQ,aX,bn,aG,aF,bg,bC,aY,bI,aI,aP,bG,bJ]
     constructor
     ·intro hb
      refine⟨trivial,fun⟨a1,a2⟩=> ?_⟩
      have b1:=a1 s.cells[i] (awl _)
      have b2:s.cells[i]=mM ⟨s.cells[i].pos,0,0,0⟩ (kL s.i i s.a):=by
       have:=vZ s s.a i (by rw[iF];exact hi)
       rw[<-this];congr 1
      rw[hq]at b2
      rcases hb with hb | hb
      ·exact absurd b1 (by simpa using hb)
      ·have c2:=axg bF.buy b2;have c3:=axg bF.qK b2;have c4:=axg bF.opn b2
       simp only at c2 c3 c4
       rcases hb with hb | hb | hb | hb
       ·exact hb rfl
       ·exact hb c2.symm
       ·exact hb c3.symm
       ·exact hb c4.symm
     ·intro hb
      obtain⟨b1,_,b2,b3,b4⟩:=hb
      refine⟨aZ (by omega),(DX _ _ _).trans hx,fun j hj hij=> ?_,fun j hj hji=> ?_⟩
      ·rw[ahb,awg (by omega)]
       exact hxj j (by simpa [dP] using hj) (by omega)
      ·by_cases e:j=i
       ·subst e
        refine⟨by simpa using b1,?_⟩
        rw[hq]
        exact BJ rfl b2.symm b3.symm b4.symm
       ·exact hxd j hj (by omega)
    ·rintro⟨q,x⟩ ⟨hx,_,hxd⟩
     simp only[oJ]
     rw[bK (by rw[dm];simp),af]
     refine⟨fun c hc=> ?_,?_⟩
     ·obtain⟨j,hj,rfl⟩:=axu hc
      exact(hxd j hj hj).1
     ·refine ayl (iF _ _).symm fun j h1 h2=> ?_
      rw[vZ]
      exact(hxd j h1 h1).2
    ·rintro w hw
     cases w with
     |inl b=>
      obtain⟨h1,h2⟩:=hw
      simp only[dK,af,h1]
      exact⟨fun h=>(by cases h),fun hR=>absurd ⟨hR.ok,hR.cells⟩ h2⟩
     |inr b=>
      obtain⟨hok,hcs⟩:=hw
      simp only[dK]
      rw[jI]
      have hacc:∀a:Int,∀c∈vY s.i s.cells a,0<=c.opn/\inI c.opn:=fun a c hc=>by
       have:=hok c (ahy hc)
       exact⟨this.2.1.2.2,this.1.opn⟩
      refine Wq.mono (Q:=fun w:Bool ⊕ Bool=>match w with | .inl b=>b=false/\¬QT s.t s.i s.cells | .inr _=>QT s.t s.i s.cells)
       (fG (n:=s.t.toNat) (step:=fun v:Int×Bool=>o7 s.t s v.1 v.2) (by have:=hs.1.2;omega)
       (fun i x=>∀a:Int,0<=a->a<i->jk (vY s.i s.cells a)<=9223372036854775807) _ ?_ ?_ _ 0 (awm _) (fun a h1 h2=>by omega)) ?_
      ·rintro i q hi hx
       have hia:(i:Int)<s.t:=by omega
       simp only[o7]
       rw[au (pO hia),ab7 hs i (by omega) hia,ai,QA (by have:=NE (n:=s.i) (cs:=s.cells) (a:=(i:Int));omega) (hacc i),ai]
       by_cases hw:jk (vY s.i s.cells i)<=9223372036854775807
       ·rw[awh hw]
        simp only[mD,aK,aT,af]
        refine⟨aZ (by omega),fun a h1 h2=> ?_⟩
        by_cases e:a=i
        ·subst e;exact hw
        ·exact hx a h1 (by omega)
       ·rw[awg hw]
        simp only[IE,aW,aU,af]
        exact⟨trivial,fun h=>hw (h i (by omega) hia)⟩
      ·rintro q hx
       simp only[o7]
       rw[bK (nP (by omega)),af]
       exact fun a h1 h2=>hx a h1 (by omega)
      ·rintro w hw
       cases w with
       |inl b=>
        obtain⟨rfl,h2⟩:=hw
        simp only[af]
        exact⟨fun h=>(by cases h),fun hR=>absurd hR.acct h2⟩
       |inr b=>
        simp only[af]
        exact⟨fun _=>⟨hs,hfn,hcs,hok,hw⟩,fun _=>trivial⟩
def NH (o:aC):aC:=⟨o.id,o.y,o.z,o.X,o.N,o.I,o.H,3,0,0,o.O,o.z6⟩
def RU (o:aC):aC:=⟨o.id,o.y,o.z,o.X,o.N,o.I,o.H,o.P,0,0,o.O,o.z6⟩
def iG (r:iJ):aC:=⟨r.order,r.y,r.z,r.X,r.N,r.I,0,1,0,0,0,false⟩
def wZ (o:aC):Prop:=o.P=2/\¬wJ o/\o.z6=false/\o.O<9223372036854775807
instance (o:aC):Decidable (wZ o):=by unfold wZ;infer_instance
def rH (o:aC) (q p:Int):aC:=⟨o.id,o.y,o.z,o.X,o.N,o.I,o.H,o.P,q,p,o.O+1,o.z6⟩
def ape (o:aC):aC:=⟨o.id,o.y,o.z,o.X,o.N,o.I,o.H,o.P,o.V,o.U,o.O,true⟩
def ac1 (o:aC) (f:Int):aC:=⟨o.id,o.y,o.z,o.X,o.N,o.I,f,o.P,o.V,o.U,o.O,o.z6⟩
def ab2 (o:aC) (f:Int):aC:=⟨o.id,o.y,o.z,o.X,o.N,o.I,o.H,f,o.V,o.U,o.O,o.z6⟩
def agK (o:aC) (q p:Int):aC:=⟨o.id,o.y,o.z,o.X,q,p,o.H,o.P,0,0,o.O,o.z6⟩
def RI (o:aC) (what q p:Int):Option aC:=
 if o.P=1 then (if what=1 then some (ab2 o 2)else if what=2 then some (NH o)else none)
 else if o.P=2 then
  if what=3 then (if o.N - o.H<q then none else if o.H+q<o.N then some (ac1 o (o.H+q))else some (NH (ac1 o (o.H+q))))
  else if what=4 then some (NH o)
  else if what=5 then (if wJ o/\q=o.V/\p=o.U/\o.H<q then some (agK o q p)else none)
  else if what=6 then (if wJ o then some (RU o)else none)
  else none
 else none
theorem ags {r:iJ} (h:qf r) (hk:r.L=1):Ky r=some (iG r,0):=by
 unfold Ky;obtain⟨b,e,q⟩:=DW r;rw[e,q.2 h,hk]
 rfl
theorem afu {o:aC} {q p:Int} (h:wE o) (hr:eY o) (hq:1<=q) (hp:1<=p):
 Wq (IY o q p) fun r=>(wZ o->r=(rH o q p,0))/\(¬wZ o->r.2≠0):=by
 have hv:=hr.O
 unfold IY
 rw[uw hv (by decide),ai,nO,ai,awv h,aK,aT,bK (nP (by omega)),bK (nP (by omega))]
 unfold inI at hv
 by_cases hm:o.O+1<=9223372036854775807
 ·rw[awh ⟨by omega,hm⟩]
  simp only[mD,aK,aT]
  unfold ay
  rw[nY ⟨by omega,hm⟩,LU,ai]
  simp only[jI,dF,af,aH,aQ,aX,bn,aG,aF,bg,bC,aY,bI,aI,aP,bG,bJ,awN,ne_eq,awK,awI,awy,awx,awO,reduceCtorEq]
  unfold wZ
  refine⟨fun h1=>⟨fun _=>⟨fun h2=>absurd h2.1 h1,fun _=>by decide⟩,fun h2=>absurd h2 h1⟩,fun h1=>⟨fun h2=>⟨fun _=>⟨fun h3=>absurd (by simpa using h2) h3.2.1,fun _=>by decide⟩,fun h3=>by rw[h2]at h3;cases h3⟩,fun h2=> ?_⟩⟩
  have h2:¬wJ o:=by simpa using h2
  refine⟨fun h3=>⟨fun h4=>(by rw[h4.2.2.1]at h3;cases h3),fun _=>by decide⟩,fun h3=>⟨fun _=>rfl,fun h4=>absurd ⟨h1,h2,h3,by omega⟩ h4⟩⟩
 ·rw[awg (by unfold inI;omega)]
  simp only[IE,aW,aU,af]
  exact⟨fun h2=>(by have:=h2.2.2.2;omega),fun _=>by decide⟩
theorem ak2 {o:aC} (h:wE o) (h3:o.P≠3):Qq o=some (if o.z6=true then (o,8)else (ape o,0)):=by
 unfold Qq;rw[nO,ai,awv h,aK,aT,bK (by rw[aP];exact h3),tH];split<;>rfl
def nZ (n:dV):iJ:=⟨6,n.order,0,0,0,n.N,n.I,0,0,0,false,n.A,n.Z⟩
theorem Uo (o:aC):IA o=some (NH o):=rfl
theorem aiX (o:aC) (n:dV):MV o n=some (if n.Z=1 then (ab2 o 2,true)else if n.Z=2 then (NH o,true)else (o,false)):=by
 unfold MV;rw[Uo,ai,dn,dn];split
 ·rfl
 ·split<;>rfl
theorem aiY {o:aC} {n:dV} (h:wE o) (hr:eY o) (hp:o.P=2) (hn:n.Z=3->1<=n.N/\inI n.N):
 Wq (MZ o n) fun r=>match RI o n.Z n.N n.I with | some p=>r=(p,true) | none=>r.2=false:=by
 have hq:=hr.N;have hf:=hr.H
 have h1:=h.2.1;have h2:=h.2.2.1
 unfold inI at hq hf
 unfold MZ RI
 rw[awg (by omega),awh hp]
 unfold aO ay
 rw[nY (n:=o.N - o.H) ⟨by omega,by omega⟩]
 by_cases k3:n.Z=3
 ·obtain⟨g1,g2⟩:=hn k3
  unfold inI at g2
  rw[awh k3,au (by rw[aI];exact k3),dF]
  refine⟨fun h4=> ?_,fun h4=> ?_⟩
  ·rw[bg]at h4
   rw[awh h4,af]
  ·rw[bC]at h4
   rw[awg (by omega),nY ⟨by omega,by omega⟩,dF]
   refine⟨fun h5=> ?_,fun h5=> ?_⟩
   ·rw[bg]at h5
    rw[awh h5,af];rfl
   ·rw[bC]at h5
    rw[awg (by omega),Uo,ai,af];rfl
 rw[awg k3,bK (by rw[aP];exact k3)]
 by_cases k4:n.Z=4
 ·rw[awh k4,au (by rw[aI];exact k4),Uo,ai,af]
 rw[awg k4,bK (by rw[aP];exact k4)]
 by_cases k5:n.Z=5
 ·rw[awh k5,au (by rw[aI];exact k5),LU,ai,dF]
  refine⟨fun hb=> ?_,fun hb=> ?_⟩
  ·simp only[aH,aQ,aX,bn,aG,aF,bg,bC,aY,bI,aI,aP,bG,bJ,axD]at hb
   rw[awg (by rintro⟨a1,a2,a3,a4⟩;rcases hb with ((hb | hb) | hb) | hb;exact hb a1;exact hb a2;exact hb a3;omega),af]
  ·simp only[aH,aQ,aX,bn,aG,aF,bg,bC,aY,bI,aI,aP,bG,bJ,aw9]at hb
   rw[awh ⟨hb.1.1.1,hb.1.1.2,hb.1.2,by omega⟩]
   exact(af _).2 rfl
 rw[awg k5,bK (by rw[aP];exact k5)]
 by_cases k6:n.Z=6
 ·rw[awh k6,au (by rw[aI];exact k6),LU]
  by_cases hb:wJ o
  ·rw[awh hb,awv hb];exact(af _).2 rfl
  ·rw[awg hb,awR hb];exact(af _).2 rfl
 rw[awg k6,bK (by rw[aP];exact k6),af]
theorem ai8 {o:aC} {n:dV} (h:wE o) (hr:eY o) (hn:qf (nZ n)) (hi:n.order=o.id) (hq:inI n.N):
 MR o n=some (match RI o n.Z n.N n.I with | some p=>(p,0) | none=>(o,8)):=by
 refine Wq.eq ?_
 unfold MR
 obtain⟨b,e,q⟩:=DW (nZ n)
 rw[nO,ai,awv h,aK,aW,aU,show uV n=some (nZ n)from rfl,ai,aU,e,q.2 hn,ai,aK,dI,dI,bK (by rw[aF,aI];exact hi),dF]
 refine⟨fun h1=> ?_,fun h1=> ?_⟩
 ·rw[aI]at h1
  rw[aiX,ai]
  unfold RI
  rw[awh h1]
  by_cases k1:n.Z=1
  ·simp only[awh k1];exact(af _).2 rfl
  ·by_cases k2:n.Z=2
   ·simp only[awg k1,awh k2];exact(af _).2 rfl
   ·simp only[awg k1,awg k2];exact(af _).2 rfl
 ·rw[aP]at h1
  rw[dF]
  refine⟨fun h2=> ?_,fun h2=> ?_⟩
  ·rw[aI]at h2
   refine Wq.bind (aiY h hr h2 fun k3=> ?_) fun y hy=> ?_
   ·unfold qf nZ at hn
    simp only at hn
    refine⟨?_,hq⟩
    omega
   ·rw[dF]
    cases ht:RI o n.Z n.N n.I with
    |none=>
     simp only[ht]at hy
     rw[hy]
     exact⟨fun _=>(af _).2 rfl,fun h=>(by cases h)⟩
    |some p=>
     simp only[ht]at hy
     rw[hy]
     exact⟨fun h=>(by cases h),fun _=>(af _).2 rfl⟩
  ·rw[aP]at h2
   rw[af]
   unfold RI
   rw[awg h1,awg h2]
def EJ (s:aB) (l:List aC):aB:=⟨s.t,s.i,l,dD s l,s.G,s.W,s.qJ,s.S,s.A,s.B⟩
def Zy (s:aB):Prop:=(∀c∈s.cells,okC c)/\QT s.t s.i s.cells
def Oy (was now:aB) (a y:Int):Prop:=
 Em (ofC (aj was.cells (itn (a*was.i+y)))) (ofC (aj now.cells (itn (a*was.i+y)))) (aj was.G (itn (a*was.i+y)))\/
 ZA (jk (vY was.i was.cells a)) (jk (vY was.i now.cells a)) (aj was.W (itn a))
instance (s t:aB) (a y:Int):Decidable (Oy s t a y):=by unfold Oy;infer_instance
open Classical in
noncomputable def Vs (s t:aB) (a y:Int):aB×Int:=
 if ¬Zy t then (s,3)else if Oy s t a y then (s,4)else (⟨t.t,t.i,t.a,t.cells,t.G,t.W,t.qJ,t.S,t.A,t.B+1⟩,0)
def aii (s:aB) (o:aC) (q:Int):List bF:=
 dP s.cells (itn (atZ s.i o)) ⟨if o.X=1 then (aj s.cells (itn (atZ s.i o))).pos+q else (aj s.cells (itn (atZ s.i o))).pos - q,(aj s.cells (itn (atZ s.i o))).buy,(aj s.cells (itn (atZ s.i o))).qK,(aj s.cells (itn (atZ s.i o))).opn⟩
def evS (s:aB) (r:iJ) (k:Nat) (p:aC):aB:=
 let o:=aj s.a k
 let s':aB:=⟨s.t,s.i,s.a,if r.Z=3 then aii s o r.N else s.cells,s.G,s.W,s.qJ,s.S,r.A,s.B+1⟩
 EJ s' (if p.P=3 then s.a.eraseIdx k else dP s.a k p)
def Mc (s:aB) (r:iJ):Prop:=iH s/\qf r/\s.B<1000000000/\r.y<s.t/\r.z<s.i/\(r.L=1->s.S<r.order)
open Classical in
noncomputable def doS (s:aB) (r:iJ):aB×Int:=
 if ¬Mc s r then (s,1)
 else if r.L=1 then
  if s.qJ=true then (s,5)else if s.a.length=64 then (s,6)
  else Vs s ⟨s.t,s.i,aJ s.a [iG r],dD s (aJ s.a [iG r]),s.G,s.W,s.qJ,r.order,s.A,s.B⟩ r.y r.z
 else if r.L=2 then
  match zu s.a r.order with
  |none=>(s,7)
  |some k=>
   if ¬wZ (aj s.a k)then (s,8)else if s.qJ=true then (s,5)
   else Vs s (EJ s (dP s.a k (rH (aj s.a k) r.N r.I))) (aj s.a k).y (aj s.a k).z
 else if r.L=3 then
  match zu s.a r.order with
  |none=>(s,7)
  |some k=>if (aj s.a k).z6=true then (s,8)else (⟨s.t,s.i,dP s.a k (ape (aj s.a k)),s.cells,s.G,s.W,s.qJ,s.S,s.A,s.B+1⟩,0)
 else if r.L=4 then
  if r.z= -1 then (⟨s.t,s.i,s.a,s.cells,s.G,dP s.W (itn r.y) r.opn,s.qJ,s.S,s.A,s.B+1⟩,0)
  else (⟨s.t,s.i,s.a,s.cells,dP s.G (itn (r.y*s.i+r.z)) ⟨r.long,r.qX,r.opn⟩,s.W,s.qJ,s.S,s.A,s.B+1⟩,0)
 else if r.L=5 then (⟨s.t,s.i,s.a,s.cells,s.G,s.W,r.on,s.S,s.A,s.B+1⟩,0)
 else if r.A≠s.A+1 then (s,11)
 else match zu s.a r.order with
  |none=>(⟨s.t,s.i,s.a,s.cells,s.G,s.W,s.qJ,s.S,r.A,s.B+1⟩,0)
  |some k=>match RI (aj s.a k) r.Z r.N r.I with
   |none=>(⟨s.t,s.i,s.a,s.cells,s.G,s.W,s.qJ,s.S,r.A,s.B+1⟩,0)
   |some p=>(evS s r k p,0)
theorem aij {n:Int} (h1:0<=n) (h2:n<1000000000):wr .i64 (ay n 1)=n+1:=by unfold ay;exact bf (by omega) (by omega)
theorem ad8 {s:aB} (hs:qO s) {o:aC} (h:nV s o):∃k:Nat,dJ s o.y o.z=some (k:Int)/\atZ s.i o=(k:Int)/\k<s.cells.length:=by
 obtain⟨ho,_,g1,g2⟩:=h;obtain⟨⟨_,hb1,hb2,_⟩,_⟩:=id ho;obtain⟨k,k1,k2,k3⟩:=OW hs o.y o.z hb1.1 g1 hb2.1 g2;exact⟨k,k1,k2.symm,k3⟩
theorem amB {s:aB} (hR:iH s) (l:List aC) (k:Nat) (hk:k<s.cells.length) (c:bF) (hc:c=mM ⟨s.cells[k].pos,0,0,0⟩ (kL s.i k l))
 (ho:∀j:Nat,j≠k->kL s.i j l=kL s.i j s.a):dD s l=s.cells.set k c:=by
 refine ayl (by rw[iF,List.length_set]) fun j h1 h2=> ?_
 rw[vZ,ax8]
 have hj:j<s.cells.length:=by simpa [dD] using h1
 split
 ·rename_i e;subst e;exact hc.symm
 ·rename_i e
  rw[ho j (by omega),<-vZ s s.a j (by rw[iF];exact hj)]
  congr 1
  exact hR.cells.symm
theorem cell_of {s:aB} (hR:iH s) (k:Nat) (hk:k<s.cells.length):s.cells[k]=mM ⟨s.cells[k].pos,0,0,0⟩ (kL s.i k s.a):=by
 have:=vZ s s.a k (by rw[iF];exact hk);rw[<-this];congr 1;exact hR.cells
theorem ah3 {n:Int} {o:aC} {k:Nat} (h:atZ n o=(k:Int)):inC n k o=wC o:=by unfold inC;rw[awh h]
theorem adY {n:Int} {o:aC} {k j:Nat} (h:atZ n o=(k:Int)) (hj:j≠k):inC n j o=zC:=by unfold inC;rw[awg (by omega)]
theorem au8 {s:aB} (hR:iH s) (o:aC) (k:Nat) (hk:k<s.cells.length) (ha:atZ s.i o=(k:Int)):dD s (s.a++[o])=s.cells.set k (xA s.cells[k] o):=by
 refine amB hR _ k hk _ ?_ fun j hj=> ?_
 ·rw[yM,aaE,ah3 ha,<-NJ,<-cell_of hR k hk,abm]
 ·rw[yM,aaE,adY ha hj,QS]
theorem Px.find {l:List aC} (h:Px l) {i j:Nat} (hi:i<l.length) (hj:j<l.length) (e:l[i].id=l[j].id):i=j:=by
 rcases ayf i j with h1 | h1 | h1
 ·have:=ax7.1 h i j hi hj h1;omega
 ·exact h1
 ·have:=ax7.1 h j i hj hi h1;omega
theorem asV {c:bF} {o:aC} {d:bF} (h:c=mM d (wC o)):zy c o=d:=by
 subst h;unfold zy wC mM;split<;>apply BJ<;>simp only<;>omega
def aev (s:aB) (m k:Nat):bF:=mM (mM (kL s.i k (s.a.take m)) (kL s.i k (s.a.drop (m+1)))) zC
theorem XV {s:aB} (hR:iH s) (m:Nat) (hm:m<s.a.length) (k:Nat) (hk:k<s.cells.length) (ha:atZ s.i s.a[m]=(k:Int)):
 zy s.cells[k] s.a[m]=mM ⟨s.cells[k].pos,0,0,0⟩ (aev s m k):=by
 refine asV ?_
 have h:=cell_of hR k hk
 rw[NI s.i k s.a m hm,ah3 ha]at h
 unfold aev
 rw[QS,NJ]
 exact h
theorem as5 {s:aB} (hk:∀o∈s.a,wE o/\eY o) (m k:Nat):nnC (aev s m k):=by
 unfold aev;rw[QS];exact aip (Na _ _ fun o h=>hk o (axo h)) (Na _ _ fun o h=>hk o (axE h))
theorem apA {s:aB} (hR:iH s) (m:Nat) (hm:m<s.a.length) (p:aC) (k:Nat) (hk:k<s.cells.length) (ha:atZ s.i s.a[m]=(k:Int)) (hp:atZ s.i p=(k:Int)):
 dD s (s.a.set m p)=s.cells.set k (xA (zy s.cells[k] s.a[m]) p):=by
 refine amB hR _ k hk _ ?_ fun j hj=> ?_
 ·rw[XV hR m hm k hk ha,aeG s.i k s.a m hm,ah3 hp,abm]
  unfold aev
  rw[QS,NJ]
 ·rw[aeG s.i j s.a m hm,NI s.i j s.a m hm,adY hp hj,adY ha hj]
theorem atK {s:aB} (hR:iH s) (m:Nat) (hm:m<s.a.length) (k:Nat) (hk:k<s.cells.length) (ha:atZ s.i s.a[m]=(k:Int)):
 dD s (s.a.eraseIdx m)=s.cells.set k (zy s.cells[k] s.a[m]):=by
 refine amB hR _ k hk _ ?_ fun j hj=> ?_
 ·rw[XV hR m hm k hk ha,aef s.i k s.a m hm]
  unfold aev
  rw[QS]
 ·rw[aef s.i j s.a m hm,NI s.i j s.a m hm,adY ha hj,QS]
theorem amo {s:aB} (hR:iH s) (hr:iD s) (m:Nat) (hm:m<s.a.length) (k:Nat) (hk:k<s.cells.length) (ha:atZ s.i s.a[m]=(k:Int)):okC (zy s.cells[k] s.a[m]):=by
 have hall:∀o∈s.a,wE o/\eY o:=fun o h=>⟨(hR.fine.ords o h).1,hr.a.1 o h⟩;have hm':=hall s.a[m] (awl _);have h1:=hR.ok s.cells[k] (awl _);rw[XV hR m hm k hk ha];have h2:=as5 hall m k;have h3:=aq1 hm'.1 hm'.2;have h4:s.cells[k]=mM (mM ⟨s.cells[k].pos,0,0,0⟩ (aev s m k)) (wC s.a[m]):=by
  have:=XV hR m hm k hk ha;rw[<-this];unfold zy wC mM;split<;>apply BJ<;>simp only<;>omega
 rw[P8]at h1 ⊢;have b1:=axg bF.buy h4;have b2:=axg bF.qK h4;have b3:=axg bF.opn h4;unfold nnC at h2 h3;unfold inI at*;simp only[mM]at*;omega
theorem aa1 {n:Int} {cs:List bF} (h:∀c∈cs,okC c) (a:Int):∀c∈vY n cs a,0<=c.opn/\inI c.opn:=fun c hc=>by
 have:=h c (ahy hc);exact⟨this.2.1.2.2,this.1.opn⟩
theorem ari {n:Int} (hn:0<=n) {cs:List bF} {k:Nat} {c:bF} {a y b:Int} (ha:0<=a) (hy:0<=y) (hy2:y<n) (hk:(k:Int)=a*n+y) (hb:0<=b) (hab:b≠a):vY n (cs.set k c) b=vY n cs b:=by
 unfold vY;rcases Int.lt_or_gt_of_ne hab with h | h
 ·have h1:(b+1)*n<=a*n:=axZ (by omega) hn;have h2:(b+1)*n=b*n+n:=by rw[ax6,ayk]
  have h3:0<=b*n:=aw2 hb hn;rw[List.drop_set];rw[awg (by omega),List.take_set_of_le (by omega)]
 ·have h1:(a+1)*n<=b*n:=axZ (by omega) hn;have h2:(a+1)*n=a*n+n:=by rw[ax6,ayk]
  rw[List.drop_set_of_lt (by omega)]
theorem anW {s t:aB} (hR:iH s) (hn1:t.t=s.t) (hn2:t.i=s.i) {k:Nat} {c:bF} {a y:Int} (ha:0<=a) (ha2:a<s.t) (hy:0<=y) (hy2:y<s.i) (hk:(k:Int)=a*s.i+y) (hkl:k<s.cells.length)
 (hc:t.cells=s.cells.set k c):Zy t↔okC c/\jk (vY s.i t.cells a)<=9223372036854775807:=by
 unfold Zy QT
 rw[hn1,hn2]
 constructor
 ·rintro⟨h1,h2⟩
  refine⟨h1 c ?_,h2 a ha ha2⟩
  rw[hc];exact List.mem_set hkl _
 ·rintro⟨h1,h2⟩
  refine⟨fun d hd=> ?_,fun b hb hb2=> ?_⟩
  ·rw[hc]at hd
   rcases ay4 hd with hd | rfl
   ·exact hR.ok d hd
   ·exact h1
  ·by_cases e:b=a
   ·subst e;exact h2
   ·rw[hc,ari (by omega) ha hy hy2 hk hb e]
    exact hR.acct b hb hb2
theorem arW {s t:aB} (hR:iH s) (ht:qO t) (hn1:t.t=s.t) (hn2:t.i=s.i) (hl:t.G=s.G) (hcp:t.W=s.W) (hok:∀c∈t.cells,okC c) {k:Nat} {a y:Int} (ha:0<=a) (ha2:a<s.t) (hy:0<=y) (hy2:y<s.i) (hk:(k:Int)=a*s.i+y) (hkl:k<s.cells.length):
 iP t s a y=some (if ¬jk (vY s.i t.cells a)<=9223372036854775807 then 3 else if Oy s t a y then 4 else 0):=by
 have hs:=hR.sized
 obtain⟨l1,l2,l3,l4⟩:=hs.lens
 obtain⟨m1,m2,m3,m4⟩:=ht.lens
 have hcl:t.cells.length=s.cells.length:=by
  have:=ht.2.2.1;have:=hs.2.2.1
  rw[hn1,hn2]at*
  simp only[len]at *; omega
 obtain⟨k',e1,e2,e3⟩:=OW ht a y ha (by omega) hy (by omega)
 have hkk:k'=k:=by rw[hn2]at e2;omega
 subst hkk
 have hkt:k'<t.cells.length:=by omega
 have hkm:k'<t.G.length:=by omega
 have ln1:=NE (n:=s.i) (cs:=s.cells) (a:=a)
 have ln2:=NE (n:=s.i) (cs:=t.cells) (a:=a)
 unfold iP
 rw[e1,ai,ab7 ht a ha (by omega),ai,hn2,QA (by omega) (aa1 hok a),ai]
 by_cases hw:jk (vY s.i t.cells a)<=9223372036854775807
 ·rw[awh hw,awg (by simpa using hw)]
  simp only[mD,aK,aT]
  rw[ab7 hs a ha ha2,ai,QA (by omega) (aa1 hR.ok a),ai,awh (hR.acct a ha ha2),au (inb _ k' hkl),aN _ k' hkl,agZ (hR.ok _ (awl _)),ai,
   au (inb _ k' hkt),aN _ k' hkt,agZ (hok _ (awl _)),ai,au (inb _ k' hkm),aN _ k' hkm,adI,ai]
  have hac:band (ile 0 a) (ilt a (len t.W))=true:=Ae (dW ha) (pO (by simp only[len];omega))
  rw[au (by rw[aX];exact .inl hac),cO,sN,Oq]
  have hst:Oy s t a y↔Em (ofC s.cells[k']) (ofC t.cells[k']) t.G[k']\/ZA (jk (vY s.i s.cells a)) (jk (vY s.i t.cells a)) (aj t.W (itn a)):=by
   unfold Oy
   rw[<-hk,aN _ k' hkl,aN _ k' hkt,aN _ k' (by omega),hcp]
   simp only[hl]
  by_cases hx:Em (ofC s.cells[k']) (ofC t.cells[k']) t.G[k']
  ·rw[awh hx,ai,awv hx,kH,aU,awh (hst.2 (.inl hx))]
  ·rw[awg hx,ai,awR hx,dI,sN]
   by_cases hz:ZA (jk (vY s.i s.cells a)) (jk (vY s.i t.cells a)) (aj t.W (itn a))
   ·rw[awh hz,awh (hst.2 (.inr hz))]
   ·rw[awg hz,awg fun h=>(hst.1 h).elim hx hz]
 ·rw[awg hw,awh hw]
  simp only[IE,aW,aU]
theorem aqE {l:List aC} {i:Nat} (hi:i<l.length) (hl:l.length<1000):lU l i (wr .i64 (ay i 1))=some (l.eraseIdx i):=by
 rw[aZ (by omega)];unfold lU;have e1:aV (bZ l (itn ((i+1:Nat):Int))) (itn (aO (len l) ((i+1:Nat):Int)))=l.drop (i+1):=by
  simp only[aV,bZ,itn,aO,len,axh];rw[aw5 (by simp;omega)]
 rw[e1];have e2:nad (itn (i:Int)) (itn (len (l.drop (i+1))))=l.length - 1:=by simp [nad,itn,len];omega
 simp only[e2];have e3:(jq l (itn (i:Int)) (l.drop (i+1))).length=l.length:=by simp [jq,itn];omega
 rw[au (by simp only[aH,aY,len];omega),bK (by rw[aP];omega),au (by simp only[aH,aY,len];omega),au (by simp only[aH,aY,len];omega),
  au (by simp only[aY,len,nti,itn,ay,awP,axh];omega),au (by simp only[aH,aY,len,nti,aO,e3];omega)]
 congr 1;simp only[aV,bZ,jq,itn,nad,nti,len,aO,axh,axP,axc];rw[ay3];have e4:(l.take i++(l.drop (i+1)++l.drop (i+(l.drop (i+1)).length))).take (l.length - 1)=l.take i++l.drop (i+1):=by
  rw[<-awT,ayg (by simp;omega),aw5 (by simp;omega)]
 rw[e4,ayg (by simp;omega),aw5 (by simp;omega)]
structure aqo (o p:aC) (what q:Int):Prop where
 ord:wE p
 rng:eY p
 id:p.id=o.id
 y:p.y=o.y
 z:p.z=o.z
 X:p.X=o.X
 opn:l7 p+(if what=3 then q else 0)<=l7 o
 worth:gV p<=gV o
 P:p.P=2\/p.P=3
theorem apL {o:aC} (h:wE o):wE (NH o):=by
 obtain⟨h1,h2,h3,h4,h5,h6⟩:=h;exact⟨h1,h2,h3,h4,fun h=>by simp [wJ,NH]at h,.inr (.inr ⟨rfl,by simp [wJ,NH]⟩)⟩
theorem arj {o:aC} (h:eY o):eY (NH o):=⟨h.id,h.y,h.z,h.X,h.N,h.I,h.H,(by decide:inI 3),(by decide:inI 0),(by decide:inI 0),h.O⟩
theorem Yd (o:aC):l7 (NH o)=0/\gV (NH o)=0:=⟨rfl,rfl⟩
theorem agQ {o:aC} {what q:Int} (h:wE o) (hr:eY o) (hq:what=3->q<=l7 o):aqo o (NH o) what q:=by
 have:=GI h hr;have:=JK h;refine⟨apL h,arj hr,rfl,rfl,rfl,rfl,?_,by rw[(Yd o).2];omega,.inr rfl⟩;rw[(Yd o).1];split
 ·rename_i h3;have:=hq h3;omega
 ·omega
theorem VZ {o:aC} (h:o.P≠3):l7 o=max o.N o.V - o.H:=by unfold l7;rw[awg h]
theorem Es {o:aC} (h:o.P≠3):gV o=if o.V<=o.H then (o.N - o.H)*o.I else max ((o.N - o.H)*o.I) ((o.V - o.H)*o.U):=by unfold gV;rw[awg h]
theorem ajL {a b c:Int} (h:a<=b) (hc:0<=c):a*c<=b*c:=axZ h hc
theorem aiz {o p:aC} {what q pr:Int} (h:wE o) (hr:eY o) (ht:RI o what q pr=some p) (h3:what=3->1<=q) (h5:what=5->1<=q/\1<=pr) (rq:inI q) (rp:inI pr):aqo o p what q:=by
 obtain⟨g1,g2,g3,g4,g5,g6⟩:=id h;have hb1:=g1.2.2.2.2.1;have hb2:=g1.2.2.2.2.2;have r1:=hr.N;have r2:=hr.H;have r3:=hr.V;have r4:=hr.U;unfold inI at r1 r2 r3;unfold RI at ht;by_cases p1:o.P=1
 ·rw[awh p1]at ht;have hp:o.H=0/\o.O=0/\¬wJ o:=by
   rcases g6 with g | g | g
   ·exact g.2
   ·omega
   ·omega
  by_cases k1:what=1
  ·rw[awh k1]at ht;cases ht;refine⟨⟨g1,g2,g3,g4,g5,.inr (.inl ⟨rfl,by show o.H<o.N;omega⟩)⟩,⟨hr.id,hr.y,hr.z,hr.X,hr.N,hr.I,hr.H,(by decide:inI 2),hr.V,hr.U,hr.O⟩,rfl,rfl,rfl,rfl,?_,?_,.inl rfl⟩
   ·have e1:l7 (ab2 o 2)=max o.N o.V - o.H:=VZ (o:=ab2 o 2) (by show(2:Int)≠3;decide);rw[awg (by omega),e1,VZ (o:=o) (by omega)];omega
   ·have e1:gV (ab2 o 2)=if o.V<=o.H then (o.N - o.H)*o.I else max ((o.N - o.H)*o.I) ((o.V - o.H)*o.U):=Es (o:=ab2 o 2) (by show(2:Int)≠3;decide)
    rw[e1,Es (o:=o) (by omega)];exact aw3 _
  ·rw[awg k1]at ht;by_cases k2:what=2
   ·rw[awh k2]at ht;cases ht;exact agQ h hr fun h=>by omega
   ·rw[awg k2]at ht;cases ht
 ·rw[awg p1]at ht;by_cases p2:o.P=2
  ·rw[awh p2]at ht;have hlt:o.H<o.N:=by rcases g6 with g | g | g<;>omega
   by_cases k3:what=3
   ·rw[awh k3]at ht;have hq1:=h3 k3;by_cases c1:o.N - o.H<q
    ·rw[awh c1]at ht;cases ht
    ·rw[awg c1]at ht;have hoo:l7 o=max o.N o.V - o.H:=by unfold l7;rw[awg (by omega)]
     have hfl:wE (ac1 o (o.H+q))\/¬(o.H+q<o.N):=by
      by_cases c2:o.H+q<o.N
      ·exact .inl ⟨g1,by show 0<=o.H+q;omega,by show o.H+q<=o.N;omega,g4,g5,.inr (.inl ⟨p2,c2⟩)⟩
      ·exact .inr c2
     by_cases c2:o.H+q<o.N
     ·rw[awh c2]at ht;cases ht;refine⟨hfl.resolve_right (by omega),⟨hr.id,hr.y,hr.z,hr.X,hr.N,hr.I,⟨by show _<=o.H+q;omega,by show o.H+q<=_;omega⟩,hr.P,hr.V,hr.U,hr.O⟩,rfl,rfl,rfl,rfl,?_,?_,.inl p2⟩
      ·have e1:l7 (ac1 o (o.H+q))=max o.N o.V - (o.H+q):=VZ (o:=ac1 o (o.H+q)) (by show o.P≠3;omega);rw[awh k3,hoo,e1];omega
      ·have e1:gV (ac1 o (o.H+q))=if o.V<=o.H+q then (o.N - (o.H+q))*o.I else max ((o.N - (o.H+q))*o.I) ((o.V - (o.H+q))*o.U):=Es (o:=ac1 o (o.H+q)) (by show o.P≠3;omega)
       rw[e1,Es (o:=o) (by omega)];have m1:(o.N - (o.H+q))*o.I<=(o.N - o.H)*o.I:=ajL (by omega) (by omega);by_cases n1:o.V<=o.H
       ·rw[awh n1,awh (by omega)];exact m1
       ·have hnp:=aiP h (by omega);have m2:(o.V - (o.H+q))*o.U<=(o.V - o.H)*o.U:=ajL (by omega) (by omega);rw[awg n1];split<;>omega
     ·rw[awg c2]at ht;cases ht;have hod:wE (NH (ac1 o (o.H+q))):=by
       refine⟨g1,by show 0<=o.H+q;omega,by show o.H+q<=o.N;omega,g4,fun h=>by simp [wJ,NH]at h,.inr (.inr ⟨rfl,by simp [wJ,NH]⟩)⟩
      refine⟨hod,⟨hr.id,hr.y,hr.z,hr.X,hr.N,hr.I,⟨by show _<=o.H+q;omega,by show o.H+q<=_;omega⟩,(by decide:inI 3),(by decide:inI 0),(by decide:inI 0),hr.O⟩,rfl,rfl,rfl,rfl,?_,by rw[(Yd _).2];exact JK h,.inr rfl⟩;rw[(Yd _).1,awh k3,hoo];omega
   ·rw[awg k3]at ht;by_cases k4:what=4
    ·rw[awh k4]at ht;cases ht;exact agQ h hr fun h=>by omega
    ·rw[awg k4]at ht;have hoo:l7 o=max o.N o.V - o.H:=by unfold l7;rw[awg (by omega)]
     by_cases k5:what=5
     ·rw[awh k5]at ht;by_cases c1:wJ o/\q=o.V/\pr=o.U/\o.H<q
      ·rw[awh c1]at ht;cases ht;obtain⟨c1,c2,c3,c4⟩:=c1;obtain⟨h51,h52⟩:=h5 k5;refine⟨⟨⟨g1.1,g1.2.1,g1.2.2.1,g1.2.2.2.1,h51,h52⟩,g2,by show o.H<=q;omega,g4,fun h=>by simp [wJ,agK]at h,.inr (.inl ⟨p2,c4⟩)⟩,⟨hr.id,hr.y,hr.z,hr.X,rq,rp,hr.H,hr.P,(by decide:inI 0),(by decide:inI 0),hr.O⟩,rfl,rfl,rfl,rfl,?_,?_,.inl p2⟩
       ·have e1:l7 (agK o q pr)=max q 0 - o.H:=VZ (o:=agK o q pr) (by show o.P≠3;omega);rw[awg k3,hoo,e1];omega
       ·have e1:gV (agK o q pr)=if 0<=o.H then (q - o.H)*pr else max ((q - o.H)*pr) ((0 - o.H)*0):=Es (o:=agK o q pr) (by show o.P≠3;omega)
        rw[e1,Es (o:=o) (by omega),awh g2,awg (by omega),c2,c3];exact Int.le_max_right _ _
      ·rw[awg c1]at ht;cases ht
     ·rw[awg k5]at ht;by_cases k6:what=6
      ·rw[awh k6]at ht;by_cases c1:wJ o
       ·rw[awh c1]at ht;cases ht;refine⟨⟨g1,g2,g3,g4,fun h=>by simp [wJ,RU]at h,.inr (.inl ⟨p2,hlt⟩)⟩,⟨hr.id,hr.y,hr.z,hr.X,hr.N,hr.I,hr.H,hr.P,(by decide:inI 0),(by decide:inI 0),hr.O⟩,rfl,rfl,rfl,rfl,?_,?_,.inl p2⟩
        ·have e1:l7 (RU o)=max o.N 0 - o.H:=VZ (o:=RU o) (by show o.P≠3;omega);rw[awg k3,hoo,e1];omega
        ·have e1:gV (RU o)=if 0<=o.H then (o.N - o.H)*o.I else max ((o.N - o.H)*o.I) ((0 - o.H)*0):=Es (o:=RU o) (by show o.P≠3;omega)
         rw[e1,Es (o:=o) (by omega),awh g2];split
         ·exact aw3 _
         ·exact Int.le_max_left _ _
       ·rw[awg c1]at ht;cases ht
      ·rw[awg k6]at ht;cases ht
  ·rw[awg p2]at ht;cases ht
theorem acC {r:iJ} (h:qf r) (hk:r.L=1):wE (iG r)/\nV ⟨8,8,[],[],[],[],false,0,0,0⟩ (iG r):=by
 unfold qf mg at h;have h1:TK (iG r):=by unfold TK iG;simp only;omega
 have h2:¬wJ (iG r):=by simp [wJ,iG]
 have h3:wE (iG r):=⟨h1,aw3 _,by have:=h1.2.2.2.2.1;show 0<=(iG r).N;omega,aw3 _,fun h=>absurd h h2,.inl ⟨rfl,rfl,rfl,h2⟩⟩;exact⟨h3,h3,by simp [iG],h1.2.1.2,h1.2.2.1.2⟩
theorem ack {r:iJ} (h:mG r):eY (iG r):=⟨h.order,h.y,h.z,h.X,h.N,h.I,(by decide:inI 0),(by decide:inI 1),(by decide:inI 0),(by decide:inI 0),(by decide:inI 0)⟩
theorem Zv {o:aC} {q p:Int} (h:wE o) (hc:wZ o) (hq:1<=q) (hp:1<=p):wE (rH o q p):=by
 obtain⟨g1,g2,g3,g4,g5,g6⟩:=id h;obtain⟨c1,c2,c3,c4⟩:=hc;exact⟨g1,g2,g3,by show 0<=o.O+1;omega,fun _=>⟨hq,hp⟩,.inr (.inl ⟨c1,by rcases g6 with g | g | g<;>(show o.H<o.N)<;>omega⟩)⟩
theorem Zh {o:aC} {q p:Int} (h:eY o) (hc:wZ o) (hq:inI q) (hp:inI p):eY (rH o q p):=by
 have:=h.O;obtain⟨c1,c2,c3,c4⟩:=hc;unfold inI at this;exact⟨h.id,h.y,h.z,h.X,h.N,h.I,h.H,h.P,hq,hp,⟨by show _<=o.O+1;omega,by show o.O+1<=_;omega⟩⟩
theorem arQ {o:aC} (h:eY o):eY (ape o):=⟨h.id,h.y,h.z,h.X,h.N,h.I,h.H,h.P,h.V,h.U,h.O⟩
theorem akc {l:List aC} (h:l.length<1000000):jg l=some l:=wH h
theorem amr {l:List bF} (h:l.length<1000000):jA l=some l:=wH h
theorem amC {l:List jQ} (h:l.length<1000000):jB l=some l:=wH h
theorem akM {l:List Int} (h:l.length<1000000):lC l=some l:=wH h
theorem yc {s t:aB} (hs:qO s) (h1:t.t=s.t) (h2:t.i=s.i) (h3:t.cells.length=s.cells.length) (h4:t.G.length=s.G.length) (h5:t.W.length=s.W.length) (h6:t.a.length<=64):qO t:=by
 obtain⟨a1,a2,a3,a4,a5,a6⟩:=hs;unfold qO;simp only[len]at*;rw[h1,h2,h3,h4,h5];exact⟨a1,a2,a3,a4,a5,h6⟩
theorem atm {s t:aB} (hR:iH s) (ht:qO t) (hn1:t.t=s.t) (hn2:t.i=s.i) (hl:t.G=s.G) (hcp:t.W=s.W) {k:Nat} {c:bF} {a y:Int} (ha:0<=a) (ha2:a<s.t) (hy:0<=y) (hy2:y<s.i) (hk:(k:Int)=a*s.i+y) (hkl:k<s.cells.length)
 (hc:t.cells=s.cells.set k c) (hc2:okC c):
 Wq (iP t s a y) fun e=>cnd (ax (ieq e 0)) (some (s,e)) (some (⟨t.t,t.i,t.a,t.cells,t.G,t.W,t.qJ,t.S,t.A,t.B+1⟩,0))=some (Vs s t a y):=by
 have hok:∀d∈t.cells,okC d:=fun d hd=>by
  rw[hc]at hd
  rcases ay4 hd with hd | rfl
  ·exact hR.ok d hd
  ·exact hc2
 rw[arW hR ht hn1 hn2 hl hcp hok ha ha2 hy hy2 hk hkl,af]
 have hf:=anW hR hn1 hn2 ha ha2 hy hy2 hk hkl hc
 unfold Vs
 by_cases hw:jk (vY s.i t.cells a)<=9223372036854775807
 ·rw[awg (c:=¬Zy t) (fun h=>h (hf.2 ⟨hc2,hw⟩)),awg (c:=¬jk (vY s.i t.cells a)<=9223372036854775807) (fun h=>h hw)]
  by_cases hst:Oy s t a y
  ·rw[awh hst,awh hst];rfl
  ·rw[awg hst,awg hst];rfl
 ·rw[awh (c:=¬Zy t) (fun h=>hw (hf.1 h).2),awh (c:=¬jk (vY s.i t.cells a)<=9223372036854775807) hw];rfl
theorem ant {s t:aB} (hR:iH s) (hn1:t.t=s.t) (hn2:t.i=s.i) {k:Nat} {c:bF} {a y:Int} (ha:0<=a) (ha2:a<s.t) (hy:0<=y) (hy2:y<s.i) (hk:(k:Int)=a*s.i+y) (hkl:k<s.cells.length)
 (hc:t.cells=s.cells.set k c) (hc2:¬okC c):Vs s t a y=(s,3):=by
 unfold Vs
 rw[awh fun h=>hc2 ((anW hR hn1 hn2 ha ha2 hy hy2 hk hkl hc).1 h).1]
theorem afg (n i:Int):∀(l:List aC),(kL n i l).pos=0
 |[]=>rfl
 |o::l=>by
  have h:=afg n i l
  have:(inC n i o).pos=0:=by unfold inC wC;split<;>(try split)<;>rfl
  simp only[kL,mM,h,this];rfl
theorem akX {s s':aB} (hsym:s'.i=s.i) {k:Nat} (hk:k<s.cells.length) {c d:bF} (hc:s'.cells=s.cells.set k d) {l:List aC} (hE:dD s l=s.cells.set k c):
 dD s' l=s.cells.set k ⟨d.pos,c.buy,c.qK,c.opn⟩:=by
 have e0:dD s' l=(s.cells.set k d).mapIdx fun i c=>mM ⟨c.pos,0,0,0⟩ (kL s.i i l):=by unfold dD;rw[hsym,hc]
 rw[e0]
 refine ayl (by simp) fun j h1 h2=> ?_
 have hj:j<s.cells.length:=by simpa using h1
 rw[List.getElem_mapIdx,ax8,ax8]
 have hj2:(dD s l)[j]'(by rw[iF];exact hj)=(s.cells.set k c)[j]'(by simpa using hj):=by simp only[hE]
 rw[vZ,ax8]at hj2
 by_cases e:k=j
 ·subst e
  rw[awh rfl,awh rfl]
  rw[awh rfl]at hj2
  rw[<-hj2]
  have:=afg s.i k l
  apply BJ<;>simp only[mM]<;>omega
 ·rw[awg e,awg e]
  rw[awg e]at hj2
  exact hj2
theorem ark {α:Type} (l:List α) (k:Nat) (a b:α):(l.set k a).set k b=l.set k b:=by simp
theorem MK {α:Type} (l:List α) (k:Nat) (x:α):dP l (itn (k:Int)) x=l.set k x:=by simp [dP,itn]
theorem Si {α:Type} (l:List α) (k:Nat) (x:α):dP l k x=l.set k x:=rfl
theorem wI {α:Type} [Inhabited α] (l:List α) (k:Nat) (h:k<l.length):aj l k=l[k]:=by simp [aj,h]
theorem aoZ (l:List aC) (k:Nat) (p:aC):(l.set k p).eraseIdx k=l.eraseIdx k:=by
 simp [List.eraseIdx_set_eq]
theorem apM {c:bF} {p:aC} (h:p.P=3):xA c p=c:=by
 have h1:l7 p=0:=by unfold l7;rw[awh h]
 have h2:gV p=0:=by unfold gV;rw[awh h]
 unfold xA;rw[h1,h2];split<;>simp
theorem aqN (c:bF) (o:aC):(xA c o).pos=c.pos:=by unfold xA;split<;>rfl
theorem aq8 (c:bF) (o:aC):(zy c o).pos=c.pos:=by unfold zy;split<;>rfl
theorem adL {s:aB} (hR:iH s) (hr:iD s) (m:Nat) (hm:m<s.a.length) (k:Nat) (hk:k<s.cells.length) (ha:atZ s.i s.a[m]=(k:Int)) {p:aC} {what q:Int} (hp:aqo s.a[m] p what q) (hq:what=3->1<=q):
 okC (xA (zy s.cells[k] s.a[m]) p)/\(what=3->okC ⟨if s.a[m].X=1 then s.cells[k].pos+q else s.cells[k].pos - q,(xA (zy s.cells[k] s.a[m]) p).buy,(xA (zy s.cells[k] s.a[m]) p).qK,(xA (zy s.cells[k] s.a[m]) p).opn⟩):=by
 have h0:=amo hR hr m hm k hk ha
 have h1:=hR.ok s.cells[k] (awl _)
 have ho:=(hR.fine.ords _ (awl hm)).1
 have hs:=ho.1.2.2.2.1
 have hro:=hr.a.1 _ (awl hm)
 have b1:=GI hp.ord hp.rng
 have b2:=JK hp.ord
 have b3:=hp.opn
 have b4:=hp.worth
 have b5:=hp.X
 rw[P8]at h0 h1
 by_cases e:s.a[m].X=2
 ·have ea:xA (zy s.cells[k] s.a[m]) p=⟨s.cells[k].pos,s.cells[k].buy,s.cells[k].qK - l7 s.a[m]+l7 p,s.cells[k].opn - gV s.a[m]+gV p⟩:=by
   unfold xA zy;rw[b5,awh e,awh e]
  have es:zy s.cells[k] s.a[m]=⟨s.cells[k].pos,s.cells[k].buy,s.cells[k].qK - l7 s.a[m],s.cells[k].opn - gV s.a[m]⟩:=by unfold zy;rw[awh e]
  rw[ea,awg (by omega)]
  rw[es]at h0
  refine⟨?_,fun h3=> ?_⟩
  ·rw[P8];unfold inI at *; simp only at *; split at b3<;>omega
  ·rw[awh h3]at b3
   have:=hq h3
   rw[P8];unfold inI at *; simp only at *; omega
 ·have ea:xA (zy s.cells[k] s.a[m]) p=⟨s.cells[k].pos,s.cells[k].buy - l7 s.a[m]+l7 p,s.cells[k].qK,s.cells[k].opn - gV s.a[m]+gV p⟩:=by
   unfold xA zy;rw[b5,awg e,awg e]
  have es:zy s.cells[k] s.a[m]=⟨s.cells[k].pos,s.cells[k].buy - l7 s.a[m],s.cells[k].qK,s.cells[k].opn - gV s.a[m]⟩:=by unfold zy;rw[awg e]
  rw[ea,awh (by omega)]
  rw[es]at h0
  refine⟨?_,fun h3=> ?_⟩
  ·rw[P8];unfold inI at *; simp only at *; split at b3<;>omega
  ·rw[awh h3]at b3
   have:=hq h3
   rw[P8];unfold inI at *; simp only at *; omega
theorem akk {s:aB} (hR:iH s) (m:Nat) (hm:m<s.a.length) (k:Nat) (hk:k<s.cells.length) (ha:atZ s.i s.a[m]=(k:Int)) {p:aC} (hp:atZ s.i p=(k:Int)):
 dD s (if p.P=3 then s.a.eraseIdx m else s.a.set m p)=s.cells.set k (xA (zy s.cells[k] s.a[m]) p):=by
 split
 ·rename_i h;rw[atK hR m hm k hk ha,apM h]
 ·exact apA hR m hm p k hk ha hp
theorem afk {s:aB} (hR:iH s) (r:iJ) (m:Nat) (hm:m<s.a.length) (k:Nat) (hk:k<s.cells.length) (ha:atZ s.i s.a[m]=(k:Int)) {p:aC} (hp:atZ s.i p=(k:Int)):
 evS s r m p=⟨s.t,s.i,if p.P=3 then s.a.eraseIdx m else s.a.set m p,
  s.cells.set k (if r.Z=3 then ⟨if s.a[m].X=1 then s.cells[k].pos+r.N else s.cells[k].pos - r.N,(xA (zy s.cells[k] s.a[m]) p).buy,(xA (zy s.cells[k] s.a[m]) p).qK,(xA (zy s.cells[k] s.a[m]) p).opn⟩else xA (zy s.cells[k] s.a[m]) p),
  s.G,s.W,s.qJ,s.S,r.A,s.B+1⟩:=by
 unfold evS
 rw[wI _ m hm,Si]
 have hmk:∀s':aB,s'.i=s.i->s'.cells=(if r.Z=3 then aii s s.a[m] r.N else s.cells)->dD s' (if p.P=3 then s.a.eraseIdx m else s.a.set m p)=
  s.cells.set k (if r.Z=3 then ⟨if s.a[m].X=1 then s.cells[k].pos+r.N else s.cells[k].pos - r.N,(xA (zy s.cells[k] s.a[m]) p).buy,(xA (zy s.cells[k] s.a[m]) p).qK,(xA (zy s.cells[k] s.a[m]) p).opn⟩else xA (zy s.cells[k] s.a[m]) p):=by
  intro s' h1 h2
  by_cases h3:r.Z=3
  ·rw[awh h3]at h2 ⊢
   unfold aii at h2
   rw[ha,aN _ k hk,MK]at h2
   exact akX h1 hk h2 (akk hR m hm k hk ha hp)
  ·rw[awg h3]at h2 ⊢
   have:dD s' (if p.P=3 then s.a.eraseIdx m else s.a.set m p)=dD s (if p.P=3 then s.a.eraseIdx m else s.a.set m p):=by
    unfold dD;rw[h1,h2]
   rw[this,akk hR m hm k hk ha hp]
 exact axg (fun c=>aB.mk s.t s.i (if p.P=3 then s.a.eraseIdx m else s.a.set m p) c s.G s.W s.qJ s.S r.A (s.B+1)) (hmk ⟨s.t,s.i,s.a,if r.Z=3 then aii s s.a[m] r.N else s.cells,s.G,s.W,s.qJ,s.S,r.A,s.B+1⟩ rfl rfl)
theorem ahq {s:aB} {r:iJ} (hr:iD s) (hrr:mG r) (hl:s.a.length<999999) (hl2:s.G.length<999999) (hl3:s.W.length<999999):ND s r=some (doS s r):=by
 obtain⟨b1,e1,q1⟩:=DW r;obtain⟨b2,e2,q2⟩:=MW s hr hl hl2 hl3;have bad:¬Mc s r->doS s r=(s,1):=fun h=>by unfold doS;rw[awh h]
 by_cases hA:s.B<1000000000/\qf r/\iH s
 case neg=>
  have hno:¬Mc s r:=fun h=>hA ⟨h.2.2.1,h.2.1,h.1⟩;rw[bad hno];refine Wq.eq ?_;unfold ND;rw[uw hr.B (by decide),ai,jI];refine Wq.mono (Q:=fun y1=>y1=true->(inI (s.B+1)/\s.B<1000000000/\qf r)) ?_ fun y1 h1=> ?_
  ·rw[dF];refine⟨fun h=> ?_,fun h=>(af _).2 (by simp)⟩;rw[e1,af];intro hb;simp only[aH,aQ,aX,bn,aG,aF,bg,bC,aY,bI,aI,aP,bG,bJ]at h;by_cases hin:inI (s.B+1)
   ·exact⟨hin,by omega,q1.1 hb⟩
   ·rw[awg hin]at h;simp at h
  rw[jI];refine Wq.mono (Q:=fun y2=>y2=true->(y1=true/\iH s)) ?_ fun y2 h2=> ?_
  ·rw[dF];refine⟨fun h=> ?_,fun h=>(af _).2 (by simp)⟩;rw[e2,af];intro hb;simp only[aH,aQ,aX,bn,aG,aF,bg,bC,aY,bI,aI,aP,bG,bJ]at h;exact⟨by simpa using h.2,q2.1 hb⟩
  rw[dF];refine⟨fun _=>(af _).2 rfl,fun h=> ?_⟩;simp only[aH,aQ,aX,bn,aG,aF,bg,bC,aY,bI,aI,aP,bG,bJ]at h;have g2:=h2 h.2;have g1:=h1 g2.1;exact absurd ⟨g1.2.1,g1.2.2,g2.2⟩ hA
 obtain⟨hlsn,hrec,hR⟩:=hA;obtain rfl:=q1.2 hrec;obtain rfl:=q2.2 hR;have hs:=hR.sized;obtain⟨lc,ll,lcp,lo⟩:=hs.lens;have hl0:=hR.fine.B;have hq0:=hR.fine.A;have h1a:=hs.1;have h1b:=hs.2.1;have good:r.y<s.t->r.z<s.i->(r.L=1->s.S<r.order)->Mc s r:=fun a b c=>⟨hR,hrec,hlsn,a,b,c⟩;have hwr:wr .i64 (ay s.B 1)=s.B+1:=aij hl0.1 hlsn;have hall:∀o∈s.a,wE o/\eY o:=fun o h=>⟨(hR.fine.ords o h).1,hr.a.1 o h⟩;unfold ND;rw[uw hr.B (by decide),ai,awh (c:=inI (s.B+1)) ⟨by omega,by omega⟩];simp only[mD,aK,dI,JA (show ¬(1000000000:Int)<=s.B by omega),aW,aU,aT,e1,e2,ai,akc (l:=s.a) (by omega),amr (l:=s.cells) (by omega),amC (l:=s.G) (by omega),akM (l:=s.W) (by omega),hwr];have eta:(aB.mk s.t s.i s.a s.cells s.G s.W s.qJ s.S s.A s.B)=s:=rfl;simp only[eta];by_cases k1:r.L=1
 ·rw[au (by rw[aI];exact k1),ags hrec k1,ai];by_cases c1:r.order<=s.S
  ·rw[bad fun h=>by have:=h.2.2.2.2.2 k1;omega];simp only[dW c1,aU]
  by_cases c2:s.t<=r.y
  ·rw[bad fun h=>by have:=h.2.2.2.1;omega];simp only[JA c1,dW c2,aU,aT]
  by_cases c3:s.i<=r.z
  ·rw[bad fun h=>by have:=h.2.2.2.2.1;omega];simp only[JA c1,JA c2,dW c3,aU,aT]
  simp only[JA c1,JA c2,JA c3,aT];have hm:=good (by omega) (by omega) fun _=>by omega
  unfold doS;rw[awg (fun h:¬Mc s r=>h hm),awh k1];by_cases hk:s.qJ=true
  ·rw[awh hk,au hk]
  rw[awg hk,bK (by simpa using hk),dn];by_cases h64:s.a.length=64
  ·rw[awh (show len s.a=64 by simp only[len];omega),awh h64]
  rw[awg (show ¬len s.a=64 by simp only[len];omega),awg h64];obtain⟨ho,ho2⟩:=acC hrec k1;have hro:=ack hrr;have hrec':=hrec;unfold qf at hrec';have hra:0<=r.y/\0<=r.z:=by omega
  obtain⟨k,g1,g2,g3⟩:=OW hs r.y r.z hra.1 (by omega) hra.2 (by omega);have hat:atZ s.i (iG r)=(k:Int):=g2.symm;have hmk:=au8 hR (iG r) k g3 hat;rw[show dJ s (iG r).y (iG r).z=some (k:Int)from g1,ai,au (inb _ k g3),aN _ k g3,Qk (hR.ok _ (awl _)) ho hro,ai];have hcells:dD s (aJ s.a [iG r])=s.cells.set k (xA s.cells[k] (iG r)):=hmk;by_cases hok:okC (xA s.cells[k] (iG r))
  ·rw[awh hok];simp only[mD,aK,aT];rw[au (dW (by simp [len,aJ];omega)),MK,<-hcells];have ht:qO ⟨s.t,s.i,aJ s.a [iG r],dD s (aJ s.a [iG r]),s.G,s.W,s.qJ,(iG r).id,s.A,s.B⟩:=yc hs rfl rfl (iF _ _) rfl rfl (by simp [aJ];omega);obtain⟨e,he,hq⟩:=atm (a:=r.y) (y:=r.z) hR ht rfl rfl rfl rfl hra.1 (by omega) hra.2 (by omega) g2 g3 hcells hok;rw[show iP _ s (iG r).y (iG r).z=some e from he,ai];exact hq
  ·rw[awg hok];simp only[IE,aW,aU];rw[ant (t:=⟨s.t,s.i,aJ s.a [iG r],dD s (aJ s.a [iG r]),s.G,s.W,s.qJ,r.order,s.A,s.B⟩) hR rfl rfl hra.1 (by omega) hra.2 (by omega) g2 g3 hcells hok]
 rw[bK (by rw[aP];exact k1)];by_cases k2:r.L=2
 ·rw[au (by rw[aI];exact k2),PU s r.order (by omega),ai];have hrec':=hrec;unfold qf at hrec';have hra:r.y=0/\r.z=0/\1<=r.N/\1<=r.I:=by omega
  have hm:=good (by omega) (by omega) fun h=>absurd h k1;unfold doS;rw[awg (fun h:¬Mc s r=>h hm),awg k1,awh k2];cases hf:zu s.a r.order with
  |none=>
   rw[Kr hf,au (by decide)]
  |some m=>
   rw[Gg hf,bK (by rw[aP];omega)];obtain⟨hm1,hm2⟩:=ou hf;simp only[au (inb _ m hm1),aN _ m hm1,wI _ m hm1];obtain⟨ho,hro⟩:=hall s.a[m] (awl _);obtain⟨ch,ce,cq1,cq2⟩:=afu ho hro hra.2.2.1 hra.2.2.2;rw[ce,ai];by_cases hch:wZ s.a[m]
   case neg=>
    rw[awh hch,au (by rw[aG,aP];exact cq2 hch)]
   rw[awg (fun h:¬wZ s.a[m]=>h hch)];obtain rfl:=cq1 hch;simp only[mD,aK,aT];by_cases hk:s.qJ=true
   ·rw[awh hk,au hk]
   rw[awg hk,bK (by simpa using hk)];obtain⟨k,g1,g2,g3⟩:=ad8 hs (hR.fine.ords _ (awl hm1));have hpo:=Zv ho hch hra.2.2.1 hra.2.2.2;have hpr:=Zh hro hch hrr.N hrr.I;have hat:atZ s.i (rH s.a[m] r.N r.I)=(k:Int):=g2;have hsub:=amo hR hr m hm1 k g3 g2;have hcells:dD s (dP s.a m (rH s.a[m] r.N r.I))=s.cells.set k (xA (zy s.cells[k] s.a[m]) (rH s.a[m] r.N r.I)):=apA hR m hm1 _ k g3 g2 hat;rw[g1,ai,au (inb _ k g3),aN _ k g3,agM (hR.ok _ (awl _)) ho hro hsub,ai,Qk hsub hpo hpr,ai];have hoa:=(hR.fine.ords _ (awl hm1));have hob:=ho.1;by_cases hok:okC (xA (zy s.cells[k] s.a[m]) (rH s.a[m] r.N r.I))
   ·rw[awh hok];simp only[mD,aK,aT];rw[MK s.cells,MK s.a,<-Si s.a,<-hcells];have ht:qO (EJ s (dP s.a m (rH s.a[m] r.N r.I))):=yc hs rfl rfl (iF _ _) rfl rfl (by show(dP _ _ _).length<=64;rw[DX];omega);obtain⟨e,he,hq⟩:=atm (a:=s.a[m].y) (y:=s.a[m].z) hR ht rfl rfl rfl rfl hob.2.1.1 hoa.2.2.1 hob.2.2.1.1 hoa.2.2.2 g2.symm g3 hcells hok;have he':iP ⟨s.t,s.i,dP s.a m (rH s.a[m] r.N r.I),dD s (dP s.a m (rH s.a[m] r.N r.I)),s.G,s.W,s.qJ,s.S,s.A,s.B⟩ s s.a[m].y s.a[m].z=some e:=he;rw[he',ai];exact hq
   ·rw[awg hok];simp only[IE,aW,aU];rw[ant (t:=EJ s (dP s.a m (rH s.a[m] r.N r.I))) hR rfl rfl hob.2.1.1 hoa.2.2.1 hob.2.2.1.1 hoa.2.2.2 g2.symm g3 hcells hok]
 rw[bK (by rw[aP];exact k2)];by_cases k3:r.L=3
 ·rw[au (by rw[aI];exact k3),PU s r.order (by omega),ai];have hrec':=hrec;unfold qf at hrec';have hra:r.y=0/\r.z=0:=by omega
  have hm:=good (by omega) (by omega) fun h=>absurd h k1;unfold doS;rw[awg (fun h:¬Mc s r=>h hm),awg k1,awg k2,awh k3];cases hf:zu s.a r.order with
  |none=>
   rw[Kr hf,au (by decide)]
  |some m=>
   rw[Gg hf,bK (by rw[aP];omega)];obtain⟨hm1,hm2⟩:=ou hf;have hoi:=hR.fine.ords _ (awl hm1);simp only[au (inb _ m hm1),aN _ m hm1,wI _ m hm1];rw[ak2 hoi.1 hoi.2.1,ai];by_cases ha:s.a[m].z6=true
   ·rw[awh ha,awh ha];rfl
   ·rw[awg ha,awg ha,MK];rfl
 rw[bK (by rw[aP];exact k3)];by_cases k4:r.L=4
 ·rw[au (by rw[aI];exact k4)];have hrec':=hrec;unfold qf at hrec';by_cases c2:s.t<=r.y
  ·rw[bad fun h=>by have:=h.2.2.2.1;omega];simp only[dW c2,aU]
  by_cases c3:s.i<=r.z
  ·rw[bad fun h=>by have:=h.2.2.2.2.1;omega];simp only[JA c2,dW c3,aU,aT]
  simp only[JA c2,JA c3,aT];have hm:=good (by omega) (by omega) fun h=>absurd h k1;unfold doS;rw[awg (fun h:¬Mc s r=>h hm),awg k1,awg k2,awg k3,awh k4,dn];by_cases hy:r.z= -1
  ·rw[awh hy,awh hy,au (Ae (dW (by omega)) (pO (by simp only[len];omega)))]
  ·rw[awg hy,awg hy];obtain⟨k,g1,g2,g3⟩:=OW hs r.y r.z (by omega) (by omega) (by omega) (by omega);have g4:k<s.G.length:=by omega
   rw[g1,ai,au (inb _ k g4),g2]
 rw[bK (by rw[aP];exact k4)];by_cases k5:r.L=5
 ·rw[au (by rw[aI];exact k5)];have hrec':=hrec;unfold qf at hrec';have hra:r.y=0/\r.z=0:=by omega
  have hm:=good (by omega) (by omega) fun h=>absurd h k1;unfold doS;rw[awg (fun h:¬Mc s r=>h hm),awg k1,awg k2,awg k3,awg k4,awh k5]
 rw[bK (by rw[aP];exact k5)];have hrec':=hrec;unfold qf at hrec';have hra:r.y=0/\r.z=0:=by omega
 have hm:=good (by omega) (by omega) fun h=>absurd h k1;unfold doS;rw[awg (fun h:¬Mc s r=>h hm),awg k1,awg k2,awg k3,awg k4,awg k5];have hws:wr .i64 (ay s.A 1)=s.A+1:=by unfold ay;exact bf (by omega) (by omega)
 rw[hws,cO,dn];by_cases c1:r.A=s.A+1
 case neg=>
  rw[awg c1,awh c1]
 rw[awh c1,awg (fun h:r.A≠s.A+1=>h c1),PU _ r.order (by show s.a.length<_;omega),ai];show cnd (ieq (Rw s.a r.order) (-1)) _ _=_;cases hf:zu s.a r.order with
 |none=>
  rw[Kr hf,au (by decide)]
 |some m=>
  rw[Gg hf,bK (by rw[aP];omega)];obtain⟨hm1,hm2⟩:=ou hf;simp only[au (inb _ m hm1),aN _ m hm1,wI _ m hm1];obtain⟨ho,hro⟩:=hall s.a[m] (awl _);have hnote:qf (nZ ⟨r.A,r.Z,r.order,r.N,r.I⟩):=by
   have k6:r.L=6:=by omega
   refine .inr (.inr (.inr (.inr (.inr ⟨rfl,?_⟩))));rcases hrec with h | h | h | h | h | h
   ·omega
   ·omega
   ·omega
   ·omega
   ·omega
   ·exact⟨h.2.1,rfl,rfl,rfl,rfl,rfl,rfl,rfl,h.2.2.2.2.2.2.2.2.2⟩
  rw[ai8 ho hro hnote hm2.symm hrr.N];cases ht:RI s.a[m] r.Z r.N r.I with
  |none=>
   simp only[ai];rw[au (by decide)]
  |some p=>
   simp only[ai,mD,aK,aT];have hq3:r.Z=3->1<=r.N:=fun h=>by omega
   have hp:=aiz ho hro ht hq3 (fun h=>by omega) hrr.N hrr.I;obtain⟨k,g1,g2,g3⟩:=ad8 hs (hR.fine.ords _ (awl hm1));have hat:atZ s.i p=(k:Int):=by unfold atZ;rw[hp.y,hp.z];exact g2
   have hsub:=amo hR hr m hm1 k g3 g2;obtain⟨hev1,hev2⟩:=adL hR hr m hm1 k g3 g2 hp hq3
   rw[show dJ (aB.mk s.t s.i s.a s.cells s.G s.W s.qJ s.S r.A s.B) s.a[m].y s.a[m].z=some (k:Int)from g1,ai,au (inb _ k g3),aN _ k g3,
    agM (hR.ok _ (awl _)) ho hro hsub,ai]
   simp only[MK,ark];have gk:∀c:bF,aj (s.cells.set k c) (itn (k:Int))=c:=fun c=>by rw[aN _ k (by simpa using g3),ay8]
   rw[gk,Qk hsub hp.ord hp.rng,awh hev1,ai,gk,afk hR r m hm1 k g3 g2 hat];have hdel:=aqE (l:=s.a.set m p) (i:=m) (by simpa using hm1) (by simp;omega);rw[aoZ]at hdel;simp only[hdel,ai,dn];by_cases h3:r.Z=3
   ·rw[awh h3,awh h3];have hside:=ho.1.2.2.2.1;have e1:(xA (zy s.cells[k] s.a[m]) p).pos=s.cells[k].pos:=by rw[aqN,aq8]
    have hn:=hev2 h3;rw[<-e1]at hn;rw[amL hev1 hside (by have:=hq3 h3;omega) hrr.N hn,ai,e1];split<;>rfl
   ·rw[awg h3,awg h3];split<;>rfl
theorem mk_pos (s:aB) (l:List aC) (j:Nat) (h:j<(dD s l).length):(dD s l)[j].pos=(s.cells[j]'(by simpa [dD] using h)).pos:=by
 rw[vZ];have:=afg s.i j l;simp only[mM];omega
theorem anT {s t:aB} (h1:t.i=s.i) {l:List aC} (h2:t.cells=dD s l):t.cells=dD t l:=by
 have e0:dD t l=(dD s l).mapIdx fun i c=>mM ⟨c.pos,0,0,0⟩ (kL s.i i l):=by unfold dD;rw[h1,h2];rfl
 rw[e0,h2];refine ayl (by simp) fun j g1 g2=> ?_;rw[List.getElem_mapIdx,mk_pos,vZ]
theorem arL {l:List aC} {o:aC} (h:Px l) (ho:∀x∈l,x.id<o.id):Px (l++[o]):=by
 unfold Px at*;rw[ayR];refine⟨h,by simp,fun a ha b hb=> ?_⟩;rw[awC]at hb;subst hb;exact ho a ha
theorem aiK {l:List aC} {m:Nat} (hm:m<l.length) {p:aC} (h:Px l) (hp:p.id=l[m].id):Px (l.set m p):=by
 unfold Px at*;rw[ax7]at*;intro i j hi hj hij;have hi':i<l.length:=by simpa using hi
 have hj':j<l.length:=by simpa using hj
 have h0:=h i j hi' hj' hij;rw[ax8,ax8];split
 ·rename_i e;subst e;rw[awg (by omega),hp];exact h0
 ·split
  ·rename_i e;subst e;rw[hp];exact h0
  ·exact h0
theorem ao8 {l:List aC} (m:Nat) (h:Px l):Px (l.eraseIdx m):=List.Pairwise.sublist (List.eraseIdx_sublist _ _) h
theorem ard {l m:List bF} (hl:l.length=m.length) (h:∀(i:Nat) (h1:i<l.length) (h2:i<m.length),l[i].opn<=m[i].opn):jk l<=jk m:=by
 induction l generalizing m with
 |nil=>cases m with
  |nil=>exact aw3 _
  |cons a r=>simp at hl
 |cons a l ih=>cases m with
  |nil=>simp at hl
  |cons b m=>
   have h0:=h 0 (by simp) (by simp);have:=ih (m:=m) (by simpa using hl) fun i h1 h2=>by
    have:=h (i+1) (by simp;omega) (by simp;omega);simpa using this
   unfold jk at*;simp only[awS,List.sum_cons,ayW]at*;omega
theorem ate {n:Int} {cs ds:List bF} (hl:cs.length=ds.length) (h:∀(i:Nat) (h1:i<cs.length) (h2:i<ds.length),cs[i].opn<=ds[i].opn) (a:Int):jk (vY n cs a)<=jk (vY n ds a):=by
 unfold vY;refine ard (by simp [hl]) fun i h1 h2=> ?_;rw[axI,axI,axH,axH];exact h _ _ _
theorem auR {cs:List bF} {k:Nat} {c:bF} (hk:k<cs.length) (hc:c.opn<=cs[k].opn) (i:Nat) (h1:i<(cs.set k c).length) (h2:i<cs.length):(cs.set k c)[i].opn<=cs[i].opn:=by
 rw[ax8];split
 ·rename_i e;subst e;exact hc
 ·exact aw3 _
theorem arn {s:aB} (hR:iH s) {r:iJ} (h:s.S<r.order):∀x∈s.a,x.id<(iG r).id:=fun x hx=>by
 have:=hR.fine.ids x hx;show x.id<r.order;omega
theorem lI {α:Type} {l:List α} {m:Nat} {p x:α} (h:x∈l.set m p):x∈l\/x=p:=ay4 h
theorem ahd {s t:aB} (hR:iH s) (h1:t.t=s.t) (h2:t.i=s.i) (hl:t.G=s.G) (hc:t.W=s.W) (hq:t.A=s.A) (hls:t.B=s.B) (hlsn:s.B<1000000000)
 (ht:t.cells=dD s t.a) (ho:∀o∈t.a,nV s o) (has:Px t.a) (hid:∀o∈t.a,o.id<=t.S) (hla:0<=t.S/\t.S<=1000000000000) (hlen:t.a.length<=64) (a y:Int):
 iH (Vs s t a y).1:=by
 unfold Vs
 split
 ·exact hR
 ·rename_i hf
  have hf:Zy t:=axj.1 hf
  split
  ·exact hR
  ·have hcl:t.cells.length=s.cells.length:=by rw[ht,iF]
   have hz:=hR.fine
   refine⟨yc hR.sized h1 h2 hcl (by rw[hl]) (by rw[hc]) hlen,⟨fun o h=> ?_,has,hid,hla,by rw[hq];exact hz.A,?_,by rw[hl];exact hz.lims,by rw[hc];exact hz.W⟩,?_,hf.1,hf.2⟩
   ·obtain⟨g1,g2,g3,g4⟩:=ho o h
    exact⟨g1,g2,by show o.y<t.t;omega,by show o.z<t.i;omega⟩
   ·have:=hz.B
    show 0<=t.B+1/\t.B+1<=1000000000
    omega
   ·have:=anT h2 ht
    exact this
theorem agT {s:aB} {r:iJ} (hR:iH s) (hr:iD s) (hrr:mG r):iH (doS s r).1:=by
 unfold doS;split
 ·exact hR
 rename_i hm;have hm:Mc s r:=axj.1 hm;obtain⟨_,hrec,hlsn,hacc,hsym,hord⟩:=hm;have hz:=hR.fine;have hs:=hR.sized;obtain⟨lc,ll,lcp,lo⟩:=hs.lens;have hl0:=hz.B;have hrec':=hrec;unfold qf mg at hrec';split
 ·rename_i k1;split
  ·exact hR
  split
  ·exact hR
  ·rename_i h64;obtain⟨g1,g2⟩:=acC hrec k1;refine ahd (t:=⟨s.t,s.i,aJ s.a [iG r],dD s (aJ s.a [iG r]),s.G,s.W,s.qJ,r.order,s.A,s.B⟩) hR rfl rfl rfl rfl rfl rfl hlsn rfl (fun o h=> ?_) (arL hz.asc (arn hR (hord k1))) (fun o h=> ?_) (by show 0<=r.order/\r.order<=_;omega) (by show(s.a++[_]).length<=64;simp;omega) _ _
   ·rcases awt.1 h with h | h
    ·exact hz.ords o h
    ·rw[awC]at h;subst h;exact⟨g1,by simp [iG],hacc,hsym⟩
   ·rcases awt.1 h with h | h
    ·have:=arn hR (hord k1) o h;show o.id<=r.order;exact ayS this
    ·rw[awC]at h;subst h;exact aw3 _
 split
 ·rename_i k1 k2;split
  ·exact hR
  rename_i m hf;obtain⟨hm1,hm2⟩:=ou hf;simp only[wI _ m hm1];split
  ·exact hR
  rename_i hch;have hch:wZ s.a[m]:=axj.1 hch;split
  ·exact hR
  have hoi:=hz.ords _ (awl hm1);have hpo:=Zv (q:=r.N) (p:=r.I) hoi.1 hch (by omega) (by omega);refine ahd (t:=EJ s (dP s.a m (rH s.a[m] r.N r.I))) hR rfl rfl rfl rfl rfl rfl hlsn rfl (fun o h=> ?_) (aiK hm1 hz.asc rfl) (fun o h=> ?_) hz.S (by show(s.a.set _ _).length<=64;simp;omega) _ _
  ·rcases lI h with h | rfl
   ·exact hz.ords o h
   ·exact⟨hpo,by show s.a[m].P≠3;exact hoi.2.1,hoi.2.2.1,hoi.2.2.2⟩
  ·rcases lI h with h | rfl
   ·exact hz.ids o h
   ·exact hz.ids s.a[m] (awl hm1)
 split
 ·rename_i k1 k2 k3;split
  ·exact hR
  rename_i m hf;obtain⟨hm1,hm2⟩:=ou hf;simp only[wI _ m hm1];split
  ·exact hR
  have hoi:=hz.ords _ (awl hm1);refine⟨yc hs rfl rfl rfl rfl rfl (by show(s.a.set _ _).length<=64;simp;omega),⟨fun o h=> ?_,aiK hm1 hz.asc rfl,fun o h=> ?_,hz.S,hz.A,⟨by show 0<=s.B+1;omega,by show s.B+1<=_;omega⟩,hz.lims,hz.W⟩,?_,hR.ok,hR.acct⟩
  ·rcases lI h with h | rfl
   ·exact hz.ords o h
   ·exact⟨hoi.1,hoi.2.1,hoi.2.2.1,hoi.2.2.2⟩
  ·rcases lI h with h | rfl
   ·exact hz.ids o h
   ·exact hz.ids s.a[m] (awl hm1)
  ·have e:∀j:Nat,kL s.i j (s.a.set m (ape s.a[m]))=kL s.i j s.a:=fun j=>by
    rw[aeG _ _ _ _ hm1,NI _ _ _ _ hm1];rfl
   refine hR.cells.trans ?_;unfold dD;simp only[Si,e]
 split
 ·rename_i k1 k2 k3 k4;split
  ·rename_i hy;refine⟨yc hs rfl rfl rfl rfl (DX _ _ _) lo,⟨hz.ords,hz.asc,hz.ids,hz.S,hz.A,⟨by show 0<=s.B+1;omega,by show s.B+1<=_;omega⟩,hz.lims,fun x hx=> ?_⟩,hR.cells,hR.ok,hR.acct⟩;rcases lI hx with h | rfl
   ·exact hz.W x h
   ·omega
  ·rename_i hy;refine⟨yc hs rfl rfl rfl (DX _ _ _) rfl lo,⟨hz.ords,hz.asc,hz.ids,hz.S,hz.A,⟨by show 0<=s.B+1;omega,by show s.B+1<=_;omega⟩,fun x hx=> ?_,hz.W⟩,hR.cells,hR.ok,hR.acct⟩;rcases lI hx with h | rfl
   ·exact hz.lims x h
   ·unfold Zx;simp only;omega
 split
 ·exact⟨yc hs rfl rfl rfl rfl rfl lo,⟨hz.ords,hz.asc,hz.ids,hz.S,hz.A,⟨by show 0<=s.B+1;omega,by show s.B+1<=_;omega⟩,hz.lims,hz.W⟩,hR.cells,hR.ok,hR.acct⟩
 split
 ·exact hR
 rename_i k1 k2 k3 k4 k5 hseq;have hseq:r.A=s.A+1:=axj.1 hseq;have hrs:0<=r.A/\r.A<=1000000000:=by omega
 split
 ·exact⟨yc hs rfl rfl rfl rfl rfl lo,⟨hz.ords,hz.asc,hz.ids,hz.S,hrs,⟨by show 0<=s.B+1;omega,by show s.B+1<=_;omega⟩,hz.lims,hz.W⟩,hR.cells,hR.ok,hR.acct⟩
 rename_i m hf;obtain⟨hm1,hm2⟩:=ou hf;simp only[wI _ m hm1];split
 ·exact⟨yc hs rfl rfl rfl rfl rfl lo,⟨hz.ords,hz.asc,hz.ids,hz.S,hrs,⟨by show 0<=s.B+1;omega,by show s.B+1<=_;omega⟩,hz.lims,hz.W⟩,hR.cells,hR.ok,hR.acct⟩
 rename_i p ht;have hoi:=hz.ords _ (awl hm1);have hro:=hr.a.1 _ (awl hm1);have hq3:r.Z=3->1<=r.N:=fun h=>by omega
 have hp:=aiz hoi.1 hro ht hq3 (fun h=>by omega) hrr.N hrr.I;obtain⟨k,g1,g2,g3⟩:=ad8 hs hoi;have hat:atZ s.i p=(k:Int):=by unfold atZ;rw[hp.y,hp.z];exact g2
 obtain⟨hev1,hev2⟩:=adL hR hr m hm1 k g3 g2 hp hq3;have hcells:(evS s r m p).cells=dD (evS s r m p) (evS s r m p).a:=anT (s:=⟨s.t,s.i,s.a,if r.Z=3 then aii s (aj s.a m) r.N else s.cells,s.G,s.W,s.qJ,s.S,r.A,s.B+1⟩) (t:=evS s r m p) rfl (l:=(evS s r m p).a) rfl
 have hst:=afk hR r m hm1 k g3 g2 hat;refine⟨?_,?_,hcells,?_,?_⟩
 ·rw[hst];refine yc hs rfl rfl (by simp) rfl rfl ?_;show(if p.P=3 then s.a.eraseIdx m else s.a.set m p).length<=64
  split
  ·have:=ay5 s.a m;omega
  ·simp;omega
 ·rw[hst];have hmem:∀o∈(if p.P=3 then s.a.eraseIdx m else s.a.set m p),o∈s.a\/(o=p/\p.P≠3):=fun o ho=>by
   split at ho
   ·exact .inl (azf ho)
   ·rename_i h3;rcases lI ho with h | rfl
    ·exact .inl h
    ·exact .inr ⟨rfl,h3⟩
  refine⟨fun o ho=> ?_,?_,fun o ho=> ?_,hz.S,hrs,⟨by show 0<=s.B+1;omega,by show s.B+1<=_;omega⟩,hz.lims,hz.W⟩
  ·rcases hmem o ho with h | ⟨rfl,h3⟩
   ·exact hz.ords o h
   ·exact⟨hp.ord,h3,by show o.y<s.t;rw[hp.y];exact hoi.2.2.1,by show o.z<s.i;rw[hp.z];exact hoi.2.2.2⟩
  ·show Px (if p.P=3 then s.a.eraseIdx m else s.a.set m p)
   split
   ·exact ao8 m hz.asc
   ·exact aiK hm1 hz.asc hp.id
  ·rcases hmem o ho with h | ⟨rfl,_⟩
   ·exact hz.ids o h
   ·show o.id<=s.S;rw[hp.id];exact hz.ids _ (awl hm1)
 ·rw[hst];intro c hc;rcases lI hc with h | rfl
  ·exact hR.ok c h
  ·split
   ·rename_i h3;exact hev2 h3
   ·exact hev1
 ·rw[hst];intro a h1 h2;refine Int.le_trans (ate (by simp) (fun i g4 g5=>auR g3 ?_ i g4 g5) a) (hR.acct a h1 h2);have hw:=hp.worth;have e:(xA (zy s.cells[k] s.a[m]) p).opn<=s.cells[k].opn:=by
   have e1:(xA (zy s.cells[k] s.a[m]) p).opn=s.cells[k].opn - gV s.a[m]+gV p:=by unfold xA zy;split<;>split<;>rfl
   omega
  split
  ·exact e
  ·exact e
theorem Yf {α:Type} {p:α->Prop} {l:List α} (h:okL p l) {k:Nat} {x:α} (hx:p x):okL p (l.set k x):=⟨fun y hy=>by
 rcases ay4 hy with h1 | rfl
 ·exact h.1 y h1
 ·exact hx,by have:=h.2;simpa using this⟩
structure DoQ (s:aB) (r:iJ) (t:aB) (e:Int):Prop where
 bad:e≠0->t=s
 good:e=0->Mc s r/\t.B=s.B+1/\(t.A=if r.L=6 then s.A+1 else s.A)/\(t.S=if r.L=1 then r.order else s.S)/\t.t=s.t/\t.i=s.i/\t.cells.length=s.cells.length/\t.G.length=s.G.length/\t.W.length=s.W.length/\t.a.length<=64/\
  (r.L≠4->t.G=s.G/\t.W=s.W)/\(r.L≠5->t.qJ=s.qJ)/\(r.L=6->r.A=s.A+1)
 rng:iD s->mG r->iD t
theorem H6 {s:aB} {r:iJ} {e:Int} (he:e≠0):DoQ s r s e:=⟨fun _=>rfl,fun h=>absurd h he,fun h _=>h⟩
theorem atE {s t:aB} {r:iJ} {a y:Int} (hm:Mc s r) (h6:r.L≠6) (h1:t.t=s.t) (h2:t.i=s.i) (h3:t.G=s.G) (h4:t.W=s.W) (h5:t.A=s.A) (h7:t.B=s.B) (h8:t.S=if r.L=1 then r.order else s.S) (h9:t.cells.length=s.cells.length) (h10:t.a.length<=64) (h11:t.qJ=s.qJ)
 (hr:iD s->mG r->∀o∈t.a,eY o):DoQ s r (Vs s t a y).1 (Vs s t a y).2:=by
 unfold Vs
 split
 ·exact H6 (by simp)
 ·rename_i hf
  have hf:Zy t:=axj.1 hf
  split
  ·exact H6 (by simp)
  ·refine⟨fun h=>absurd rfl h,fun _=>⟨hm,by show t.B+1=_;rw[h7],by rw[awg h6];exact h5,h8,h1,h2,h9,by rw[h3],by rw[h4],h10,fun _=>⟨h3,h4⟩,fun _=>h11,fun h=>absurd h h6⟩,fun hs hrr=> ?_⟩
   have hR:=hm.1
   have hz:=hR.fine
   have hlsn:=hm.2.2.1
   obtain⟨lc,ll,lcp,lo⟩:=hR.sized.lens
   have b3:=hz.B
   refine⟨by rw[h1];exact hs.t,by rw[h2];exact hs.i,⟨hr hs hrr,by show t.a.length<=_;omega⟩,⟨fun c hc=>(hf.1 c hc).1,by show t.cells.length<=_;omega⟩,by rw[h3];exact hs.G,by rw[h4];exact hs.W,?_,by rw[h5];exact hs.A,⟨by show _<=t.B+1;omega,by show t.B+1<=_;omega⟩⟩
   show inI t.S
   rw[h8];split
   ·exact hrr.order
   ·exact hs.S
theorem abj (s:aB) (r:iJ):DoQ s r (doS s r).1 (doS s r).2:=by
 unfold doS;split
 ·exact H6 (by simp)
 rename_i hm;have hm:Mc s r:=axj.1 hm;obtain⟨hR,hrec,hlsn,hacc,hsym,hord⟩:=id hm;have hz:=hR.fine;have hs:=hR.sized;obtain⟨lc,ll,lcp,lo⟩:=hs.lens;have hl0:=hz.B;have hls:iD s->inI (s.B+1):=fun _=>⟨by omega,by omega⟩;have hrec':=hrec;unfold qf mg at hrec';split
 ·rename_i k1;split
  ·exact H6 (by simp)
  split
  ·exact H6 (by simp)
  ·rename_i h64;refine atE (t:=⟨s.t,s.i,aJ s.a [iG r],dD s (aJ s.a [iG r]),s.G,s.W,s.qJ,r.order,s.A,s.B⟩) hm (by omega) rfl rfl rfl rfl rfl rfl (by rw[awh k1]) (iF _ _) (by show(s.a++[_]).length<=64;simp;omega) rfl fun hs hrr o h=> ?_;rcases awt.1 h with h | h
   ·exact hs.a.1 o h
   ·rw[awC]at h;subst h;exact ack hrr
 split
 ·rename_i k1 k2;split
  ·exact H6 (by simp)
  rename_i m hf;obtain⟨hm1,hm2⟩:=ou hf;simp only[wI _ m hm1];split
  ·exact H6 (by simp)
  rename_i hch;have hch:wZ s.a[m]:=axj.1 hch;split
  ·exact H6 (by simp)
  refine atE (t:=EJ s (dP s.a m (rH s.a[m] r.N r.I))) hm (by omega) rfl rfl rfl rfl rfl rfl (by rw[awg k1];rfl) (iF _ _) (by show(s.a.set _ _).length<=64;simp;omega) rfl fun hs hrr o h=> ?_;rcases lI h with h | rfl
  ·exact hs.a.1 o h
  ·exact Zh (hs.a.1 _ (awl hm1)) hch hrr.N hrr.I
 split
 ·rename_i k1 k2 k3;split
  ·exact H6 (by simp)
  rename_i m hf;obtain⟨hm1,hm2⟩:=ou hf;simp only[wI _ m hm1];split
  ·exact H6 (by simp)
  exact⟨fun h=>absurd rfl h,fun _=>⟨hm,rfl,by rw[awg (by omega)],by rw[awg k1],rfl,rfl,rfl,rfl,rfl,by show(s.a.set _ _).length<=64;simp;omega,fun _=>⟨rfl,rfl⟩,fun _=>rfl,fun h=>by omega⟩,
   fun h hrr=>⟨h.t,h.i,Yf h.a (arQ (h.a.1 _ (awl hm1))),h.cells,h.G,h.W,h.S,h.A,hls h⟩⟩
 split
 ·rename_i k1 k2 k3 k4;split
  ·exact⟨fun h=>absurd rfl h,fun _=>⟨hm,rfl,by rw[awg (by omega)],by rw[awg k1],rfl,rfl,rfl,rfl,DX _ _ _,lo,fun h=>absurd k4 h,fun _=>rfl,fun h=>by omega⟩,
    fun h hrr=>⟨h.t,h.i,h.a,h.cells,h.G,Yf h.W hrr.opn,h.S,h.A,hls h⟩⟩
  ·exact⟨fun h=>absurd rfl h,fun _=>⟨hm,rfl,by rw[awg (by omega)],by rw[awg k1],rfl,rfl,rfl,DX _ _ _,rfl,lo,fun h=>absurd k4 h,fun _=>rfl,fun h=>by omega⟩,
    fun h hrr=>⟨h.t,h.i,h.a,h.cells,Yf h.G ⟨hrr.long,hrr.qX,hrr.opn⟩,h.W,h.S,h.A,hls h⟩⟩
 split
 ·rename_i k1 k2 k3 k4 k5
  exact⟨fun h=>absurd rfl h,fun _=>⟨hm,rfl,by rw[awg (by omega)],by rw[awg k1],rfl,rfl,rfl,rfl,rfl,lo,fun _=>⟨rfl,rfl⟩,fun h=>absurd k5 h,fun h=>by omega⟩,
   fun h hrr=>⟨h.t,h.i,h.a,h.cells,h.G,h.W,h.S,h.A,hls h⟩⟩
 split
 ·exact H6 (by simp)
 rename_i k1 k2 k3 k4 k5 hseq;have hseq:r.A=s.A+1:=axj.1 hseq;have k6:r.L=6:=by omega
 have ev:DoQ s r ⟨s.t,s.i,s.a,s.cells,s.G,s.W,s.qJ,s.S,r.A,s.B+1⟩ 0:=
  ⟨fun h=>absurd rfl h,fun _=>⟨hm,rfl,by rw[awh k6];exact hseq,by rw[awg k1],rfl,rfl,rfl,rfl,rfl,lo,fun _=>⟨rfl,rfl⟩,fun _=>rfl,fun _=>hseq⟩,
   fun h hrr=>⟨h.t,h.i,h.a,h.cells,h.G,h.W,h.S,hrr.A,hls h⟩⟩
 split
 ·exact ev
 rename_i m hf;obtain⟨hm1,hm2⟩:=ou hf;simp only[wI _ m hm1];split
 ·exact ev
 rename_i p ht;have hoi:=hz.ords _ (awl hm1);have hlen:(if p.P=3 then s.a.eraseIdx m else dP s.a m p).length<=64:=by
  split
  ·have:=ay5 s.a m;omega
  ·rw[DX];omega
 refine⟨fun h=>absurd rfl h,fun _=>⟨hm,rfl,by rw[awh k6];exact hseq,by rw[awg k1];rfl,rfl,rfl,?_,rfl,rfl,hlen,fun _=>⟨rfl,rfl⟩,fun _=>rfl,fun _=>hseq⟩,fun h hrr=> ?_⟩
 ·show(dD _ _).length=_;rw[iF];show(if r.Z=3 then aii s (aj s.a m) r.N else s.cells).length=_
  split
  ·exact DX _ _ _
  ·rfl
 ·have hro:=h.a.1 _ (awl hm1);have hq3:r.Z=3->1<=r.N:=fun h=>by omega
  have hp:=aiz hoi.1 hro ht hq3 (fun h=>by omega) hrr.N hrr.I;obtain⟨k,g1,g2,g3⟩:=ad8 hs hoi;have hat:atZ s.i p=(k:Int):=by unfold atZ;rw[hp.y,hp.z];exact g2
  obtain⟨hev1,hev2⟩:=adL hR h m hm1 k g3 g2 hp hq3;rw[afk hR r m hm1 k g3 g2 hat];refine⟨h.t,h.i,⟨fun o ho=> ?_,?_⟩,Yf h.cells ?_,h.G,h.W,h.S,hrr.A,hls h⟩
  ·show Xz o;have ho:o∈(if p.P=3 then s.a.eraseIdx m else s.a.set m p):=ho
   split at ho
   ·exact h.a.1 o (azf ho)
   ·rcases lI ho with h1 | rfl
    ·exact h.a.1 o h1
    ·exact hp.rng
  ·show(if p.P=3 then s.a.eraseIdx m else s.a.set m p).length<=_
   rw[Si]at hlen;omega
  ·show F5 _;split
   ·rename_i h3;exact(hev2 h3).1
   ·exact hev1.1
theorem ZB {α:Type} {l m:List α} (hlen:l.length=m.length) (hn:l.length<999999) {step:Int×Bool->Option ((Int×Bool) ⊕ (Bool ⊕ Bool))}
 (hstep:∀(i:Nat) (h:i<l.length) (h2:i<m.length) (q:Bool),Wq (step ((i:Int),q)) fun r=>(l[i]=m[i]->r= .inl (((i+1:Nat):Int),q))/\(l[i]≠m[i]->r= .inr (.inl false)))
 (hend:∀q,step ((l.length:Int),q)=some (.inr (.inr q))) (q:Bool):Wq (bU step LF (0,q)) fun w=>match w with | .inl b=>b=false/\l≠m | .inr b=>l=m:=by
 refine fG (n:=l.length) hn (fun i _=>∀(j:Nat) (h:j<l.length) (h2:j<m.length),j<i->l[j]=m[j]) _ (fun i x hi hx=> ?_) (fun x hx=> ?_) _ 0 (awm _) (fun j _ _ h=>by omega)
 ·have hi2:i<m.length:=by omega
  refine(hstep i hi hi2 x).mono fun r hr=> ?_
  by_cases e:l[i]=m[i]
  ·rw[hr.1 e]
   refine⟨rfl,fun j h h2 hj=> ?_⟩
   by_cases ej:j=i
   ·subst ej;exact e
   ·exact hx j h h2 (by omega)
  ·rw[hr.2 e]
   refine⟨rfl,fun h=>e ?_⟩
   subst h;rfl
 ·rw[hend x]
  exact(af _).2 (ayl hlen fun j h h2=>hx j h h2 h)
theorem asn {α β:Type} (l:List α) (m:List β):(len l=len m)↔l.length=m.length:=by unfold len;omega
theorem apg (a b:aC):(a.id=b.id/\a.y=b.y/\a.z=b.z/\a.X=b.X/\a.N=b.N/\a.I=b.I/\a.H=b.H/\a.P=b.P/\a.V=b.V/\a.U=b.U/\a.O=b.O/\a.z6=b.z6)↔a=b:=by
 cases a;cases b;simp
theorem agN (a b:bF):(a.pos=b.pos/\a.buy=b.buy/\a.qK=b.qK/\a.opn=b.opn)↔a=b:=by
 cases a;cases b;simp
theorem aqa (a b:jQ):(a.long=b.long/\a.qX=b.qX/\a.opn=b.opn)↔a=b:=by
 cases a;cases b;simp
theorem aog (a b:aB):(a.t=b.t/\a.i=b.i/\a.qJ=b.qJ/\a.S=b.S/\a.A=b.A/\a.B=b.B/\a.a=b.a/\a.cells=b.cells/\a.G=b.G/\a.W=b.W)↔a=b:=by
 cases a;cases b;simp;grind
def sG (s:aB):Prop:=s.a.length<999999/\s.cells.length<999999/\s.G.length<999999/\s.W.length<999999
theorem auO {a b:aB} (ha:sG a):Wq (uU a b) fun r=>r=true↔a=b:=by
 obtain⟨h1,h2,h3,h4⟩:=ha;unfold uU;rw[dF];have hx:=aog a b;refine⟨fun h=>(af _).2 ⟨fun h=>(by cases h),fun h2=> ?_⟩,fun h=> ?_⟩
 ·subst h2;simp only[aH,aQ,aX,bn,aG,aF,bg,bC,aY,bI,aI,aP,bG,bJ]at h;simp at h
 ·simp only[aH,aQ,aX,bn,aG,aF,bg,bC,aY,bI,aI,aP,bG,bJ,asn]at h;obtain⟨⟨⟨⟨⟨⟨⟨⟨⟨a1,a2⟩,a3⟩,a4⟩,a5⟩,a6⟩,a7⟩,a8⟩,a9⟩,a10⟩:=h;have e1:a=b↔a.a=b.a/\a.cells=b.cells/\a.G=b.G/\a.W=b.W:=by
   rw[<-hx];exact⟨fun h=>⟨h.2.2.2.2.2.2.1,h.2.2.2.2.2.2.2.1,h.2.2.2.2.2.2.2.2.1,h.2.2.2.2.2.2.2.2.2⟩,fun h=>⟨a1,a2,a3,a4,a5,a6,h⟩⟩
  rw[e1];refine Wq.bind (ZB (l:=a.a) (m:=b.a) a7 h1 (step:=fun v:Int×Bool=>qj b a v.1 v.2) (fun i h hh q=> ?_) (fun q=> ?_) _) fun w hw=> ?_
  ·simp only[qj];rw[au (by rw[dm];simpa using h),au (inb _ i h),au (inb _ i hh),aN _ i h,aN _ i hh,dF,af,af,aG,aF,aZ (by omega)];have:=apg a.a[i] b.a[i];simp only[aH,aQ,aX,bn,aG,aF,bg,bC,aY,bI,aI,aP,bG,bJ]at*;exact⟨fun h=>⟨fun e=>(by have:=this.2 e;grind),fun _=>trivial⟩,fun h=>⟨fun _=>trivial,fun e=>absurd (this.1 h) e⟩⟩
  ·simp only[qj];rw[bK (by rw[show((a.a.length:Nat):Int)=len a.a from rfl];simp [ilt])]
  cases w with
  |inl w=>obtain⟨rfl,h⟩:=hw;simp only[dK,af];simp [h]
  |inr w=>
  simp only[dK,hw,awx];refine Wq.bind (ZB (l:=a.cells) (m:=b.cells) a8 h2 (step:=fun v:Int×Bool=>oG b a v.1 v.2) (fun i h hh q=> ?_) (fun q=> ?_) _) fun w hw=> ?_
  ·simp only[oG];rw[au (by rw[dm];simpa using h),au (inb _ i h),au (inb _ i hh),aN _ i h,aN _ i hh,dF,af,af,aG,aF,aZ (by omega)];have:=agN a.cells[i] b.cells[i];simp only[aH,aQ,aX,bn,aG,aF,bg,bC,aY,bI,aI,aP,bG,bJ]at*;exact⟨fun h=>⟨fun e=>(by have:=this.2 e;grind),fun _=>trivial⟩,fun h=>⟨fun _=>trivial,fun e=>absurd (this.1 h) e⟩⟩
  ·simp only[oG];rw[bK (by rw[show((a.cells.length:Nat):Int)=len a.cells from rfl];simp [ilt])]
  cases w with
  |inl w=>obtain⟨rfl,h⟩:=hw;simp only[dK,af];simp [h]
  |inr w=>
  simp only[dK,hw,awx];refine Wq.bind (ZB (l:=a.G) (m:=b.G) a9 h3 (step:=fun v:Int×Bool=>pK b a v.1 v.2) (fun i h hh q=> ?_) (fun q=> ?_) _) fun w hw=> ?_
  ·simp only[pK];rw[au (by rw[dm];simpa using h),au (inb _ i h),au (inb _ i hh),aN _ i h,aN _ i hh,dF,af,af,aG,aF,aZ (by omega)];have:=aqa a.G[i] b.G[i];simp only[aH,aQ,aX,bn,aG,aF,bg,bC,aY,bI,aI,aP,bG,bJ]at*;exact⟨fun h=>⟨fun e=>(by have:=this.2 e;grind),fun _=>trivial⟩,fun h=>⟨fun _=>trivial,fun e=>absurd (this.1 h) e⟩⟩
  ·simp only[pK];rw[bK (by rw[show((a.G.length:Nat):Int)=len a.G from rfl];simp [ilt])]
  cases w with
  |inl w=>obtain⟨rfl,h⟩:=hw;simp only[dK,af];simp [h]
  |inr w=>
  simp only[dK,hw,awx];refine Wq.bind (ZB (l:=a.W) (m:=b.W) a10 h4 (step:=fun v:Int×Bool=>pV b a v.1 v.2) (fun i h hh q=> ?_) (fun q=> ?_) _) fun w hw=> ?_
  ·simp only[pV];rw[au (by rw[dm];simpa using h),au (inb _ i h),au (inb _ i hh),aN _ i h,aN _ i hh,dF,af,af,aG,aF,aZ (by omega)];simp only[aH,aQ,aX,bn,aG,aF,bg,bC,aY,bI,aI,aP,bG,bJ]at*;exact⟨fun h=>⟨fun e=>absurd e h,fun _=>trivial⟩,fun h=>⟨fun _=>trivial,fun e=>absurd h e⟩⟩
  ·simp only[pV];rw[bK (by rw[show((a.W.length:Nat):Int)=len a.W from rfl];simp [ilt])]
  cases w with
  |inl w=>obtain⟨rfl,h⟩:=hw;simp only[dK,af];simp [h]
  |inr w=>simp only[dK,hw,af]
theorem ao3 {a:aB} (ha:sG a):uU a a=some true:=by
 obtain⟨b,e,q⟩:=auO (b:=a) ha;rw[e,q.2 rfl]
theorem asw (s:aB):Wq (xU s) fun b=>b=true->sG s:=by
 unfold xU sG;simp only[af,aH,aQ,aX,bn,aG,aF,bg,bC,aY,bI,aI,aP,bG,bJ,len];omega
theorem aoB {s:aB} (h:sG s) (r:iJ):sG (doS s r).1:=by
 have q:=abj s r;by_cases e:(doS s r).2=0
 ·obtain⟨_,_,_,_,_,_,h1,h2,h3,h4,_⟩:=q.good e;unfold sG at *; omega
 ·rw[q.bad e];exact h
theorem ar6 {l:List aC} (h:Px l) {o:aC} (ho:o∈l):∃k:Nat,∃hk:k<l.length,zu l o.id=some k/\l[k]=o:=by
 cases hf:zu l o.id with
 |none=>exact absurd rfl (alZ hf o ho)
 |some k=>
  obtain⟨hk,h1⟩:=ou hf;obtain⟨j,hj,rfl⟩:=axu ho;have:k=j:=h.find hk hj h1;subst this;exact⟨k,hk,rfl,rfl⟩
theorem ac3 {a b:Int} (ha:inI a) (hb:inI b):lH a b=some (if inI (a+b)then (a+b,true)else (0,false)):=by
 unfold inI at ha hb;unfold lH aO ay;rw[tH];simp only[aH,aQ,aX,bn,aG,aF,bg,bC,aY,bI,aI,aP,bG,bJ];by_cases h:inI (a+b)
 ·rw[awh h,nY h];unfold inI at h;rw[awg];rintro(⟨h1,h2⟩ | ⟨h1,h2⟩)
  ·rw[nY ⟨by omega,by omega⟩]at h2;omega
  ·rw[nY ⟨by omega,by omega⟩]at h2;omega
 ·rw[awg h];unfold inI at h;rw[awh];by_cases hp:0<b
  ·exact .inl ⟨hp,by rw[nY ⟨by omega,by omega⟩];omega⟩
  ·exact .inr ⟨by omega,by rw[nY ⟨by omega,by omega⟩];omega⟩
theorem avt {a b:Int} (ha:inI a) (hb:inI b):Bo a b=some (if inI (a - b)then (a - b,true)else (0,false)):=by
 unfold inI at ha hb;unfold Bo aO ay;rw[tH];simp only[aH,aQ,aX,bn,aG,aF,bg,bC,aY,bI,aI,aP,bG,bJ];by_cases h:inI (a - b)
 ·rw[awh h,nY h];unfold inI at h;rw[awg];rintro(⟨h1,h2⟩ | ⟨h1,h2⟩)
  ·rw[nY ⟨by omega,by omega⟩]at h2;omega
  ·rw[nY ⟨by omega,by omega⟩]at h2;omega
 ·rw[awg h];unfold inI at h;rw[awh];by_cases hp:0<b
  ·exact .inr ⟨hp,by rw[nY ⟨by omega,by omega⟩];omega⟩
  ·exact .inl ⟨by omega,by rw[nY ⟨by omega,by omega⟩];omega⟩
theorem anp {a:Int} (ha:inI a):tJ a=some (a.natAbs:Int):=by
 unfold inI at ha;unfold tJ aO ay;rw[xB];split
 ·rw[nY (n:=a+1) ⟨by omega,by omega⟩,nY (n:=0 - (a+1)) ⟨by omega,by omega⟩,rE,rE];congr 1;omega
 ·rw[rE];congr 1;omega
theorem ato {a b:Int} (ha:inI a) (hb:inI b):Wq (wV a b) fun r=>(r.2=true↔inI (a*b))/\(r.2=true->r.1=a*b):=by
 unfold wV;rw[anp ha,anp hb,ai,ai];have hm:(a.natAbs:Int)*(b.natAbs:Int)=((a*b).natAbs:Int):=by rw[Int.natAbs_mul];rfl
 have hs:((a<0↔b<0)->0<=a*b)/\(¬(a<0↔b<0)->a*b<=0):=by
  constructor
  ·intro h;by_cases h1:a<0
   ·exact azr (by omega) (by have:=h.1 h1;omega)
   ·exact aw2 (by omega) (by have:¬b<0:=fun h2=>h1 (h.2 h2);omega)
  ·intro h;by_cases h1:a<0
   ·exact azs (by omega) (by have:¬b<0:=fun h2=>h ⟨fun _=>h2,fun _=>h1⟩;omega)
   ·exact azt (by omega) (by have:b<0:=by { by_cases h2:b<0;exact h2;exact absurd ⟨fun h=>absurd h h1,fun h=>absurd h h2⟩ h };omega)
 unfold inI at ha hb;obtain⟨A,B,e1,A1,A2,B1,B2,s1,s2⟩:=half (a.natAbs:Int) (by omega) (by omega);obtain⟨C,D,e2,C1,C2,D1,D2,t1,t2⟩:=half (b.natAbs:Int) (by omega) (by omega);rw[s1,s2,t1,t2];have m2:0<=A*D/\A*D<=4294967295*4294967295:=⟨aw2 A1 D1,axL (by omega) (by omega) D1 (by omega)⟩;have m3:0<=B*C/\B*C<=4294967295*4294967295:=⟨aw2 B1 C1,axL (by omega) (by omega) C1 (by omega)⟩;have m4:0<=B*D/\B*D<=4294967295*4294967295:=⟨aw2 B1 D1,axL (by omega) (by omega) D1 (by omega)⟩;have mm:((a*b).natAbs:Int)=A*C*18446744073709551616+(A*D+B*C)*4294967296+B*D:=by
  rw[<-hm,e1,e2];simp only[ax6,Int.mul_add];have q1:A*4294967296*(C*4294967296)=A*C*18446744073709551616:=by
   rw[axd,Int.mul_left_comm 4294967296,<-axd,<-axd];omega
  have q2:A*4294967296*D=A*D*4294967296:=by rw[axd,ayQ 4294967296,<-axd]
  have q3:B*(C*4294967296)=B*C*4294967296:=by rw[<-axd]
  rw[q1,q2,q3];omega
 have mac:0<=A*C/\(0<A->0<C->1<=A*C):=⟨aw2 A1 C1,fun h1 h2=>Int.mul_pos h1 h2⟩;have mz:(A=0->A*C=0/\A*D=0)/\(C=0->A*C=0/\B*C=0):=⟨fun h=>by subst h;simp,fun h=>by subst h;simp⟩;unfold dA ay aO sV;have e32:min (Int.toNat 32) (IntKind.bits .u64)=32:=by decide
 simp only[e32];generalize A*C=p at*;generalize A*D=q at*;generalize B*C=r at*;generalize B*D=t at*;generalize a*b=w at*;simp only[rE];by_cases c1:0<A/\0<C
 ·rw[au (by simp only[aH,aQ,aX,bn,aG,aF,bg,bC,aY,bI,aI,aP,bG,bJ];exact c1),af];have:=mac.2 c1.1 c1.2;unfold inI;simp only[axA,false_iff,awI,awy];omega
 ·rw[bK (by simp only[aH,aQ,aX,bn,aG,aF,bg,bC,aY,bI,aI,aP,bG,bJ];omega)];have hac:p=0/\(q=0\/r=0):=by
   by_cases h:A=0
   ·exact⟨(mz.1 h).1,.inl (mz.1 h).2⟩
   ·have hC:C=0:=by omega
    exact⟨(mz.2 hC).1,.inr (mz.2 hC).2⟩
  rw[awZ (a:=q) m2.1 (by omega),awZ (a:=r) m3.1 (by omega),awZ (a:=t) m4.1 (by omega),awZ (a:=q+r) (by omega) (by omega)];rw[akH];by_cases c2:4294967296<=q+r
  ·rw[awh c2,af];unfold inI;simp only[axA,false_iff,awI,awy];omega
  ·rw[awg c2,dF];have hw:((w.natAbs:Nat):Int)=(q+r)*4294967296+t:=by omega
   have hsh:((q+r)*2^32)%18446744073709551616=(q+r)*4294967296:=by
    rw[show(2:Int)^32=4294967296 by decide];exact awZ (by omega) (by omega)
   rw[hsh];refine⟨fun h=>(af _).2 ?_,fun h=> ?_⟩
   ·simp only[aH,aQ,aX,bn,aG,aF,bg,bC,aY,bI,aI,aP,bG,bJ]at h;unfold inI;simp only[axA,false_iff,awI,awy];omega
   ·simp only[aH,aQ,aX,bn,aG,aF,bg,bC,aY,bI,aI,aP,bG,bJ]at h;have hlt:(q+r)*4294967296+t<18446744073709551616:=by omega
    rw[awZ (a:=(q+r)*4294967296+t) (by omega) hlt]at h ⊢;rw[<-hw]at h ⊢;rw[dF];refine⟨fun h5=>(af _).2 ?_,fun h5=>(af _).2 ?_⟩
    ·have h6:¬(a<0↔b<0):=fun h7=>by
      rw[aG,bJ]at h5;exact h5 (axS.2 h7)
     have:=hs.2 h6;have e:wr .i64 ((0 - ((w.natAbs:Nat):Int))%18446744073709551616)=w:=by
      rcases aiL (n:=(0 - ((w.natAbs:Nat):Int))%18446744073709551616) (by omega) (by omega)with ⟨g,e⟩ | ⟨g,e⟩ | ⟨g,e⟩<;>rw[e]<;>(try unfold inI at g)<;>omega
     simp only[e,true_iff,implies_true,awy];unfold inI;omega
    ·have h6:(a<0↔b<0):=by
      rw[aF,bG]at h5;exact axS.1 h5
     have:=hs.1 h6;simp only[bg];unfold inI;refine⟨by omega,fun h7=> ?_⟩;rw[nY ⟨by omega,by omega⟩];omega
theorem G5 (r:iJ):Wq (iU r) fun b=>b=true↔qf r:=by
 unfold iU uI;by_cases k1:r.L=1
 ·have e1:ieq r.L 1=true:=by rw[aI];exact k1
  simp only[e1,aU,ai];simp only[jI,dF,af,aH,aQ,aX,bn,aG,aF,bg,bC,aY,bI,aI,aP,bG,bJ,awN,ne_eq,awK,awI,awy,awx,awO,reduceCtorEq,qf,mg];grind
 have e1:ieq r.L 1=false:=by rw[aP];exact k1
 by_cases k2:r.L=2
 ·have e2:ieq r.L 2=true:=by rw[aI];exact k2
  simp only[e1,e2,aU,aT,ai];simp only[jI,dF,af,aH,aQ,aX,bn,aG,aF,bg,bC,aY,bI,aI,aP,bG,bJ,awN,ne_eq,awK,awI,awy,awx,awO,reduceCtorEq,qf,mg];grind
 have e2:ieq r.L 2=false:=by rw[aP];exact k2
 by_cases k3:r.L=3
 ·have e3:ieq r.L 3=true:=by rw[aI];exact k3
  simp only[e1,e2,e3,aU,aT,ai];have hrec:qf r↔(mg r.order/\r.y=0/\r.z=0/\r.X=0/\r.N=0/\r.I=0/\r.long=0/\r.qX=0/\r.opn=0/\r.on=false/\r.A=0/\r.Z=0):=by
   unfold qf;constructor
   ·rintro(h | h | h | h | h | h)
    ·omega
    ·omega
    ·exact h.2
    ·omega
    ·omega
    ·omega
   ·exact fun h=> .inr (.inr (.inl ⟨k3,h⟩))
  rw[hrec];simp only[jI,dF,af,aH,aQ,aX,bn,aG,aF,bg,bC,aY,bI,aI,aP,bG,bJ,awN,ne_eq,awK,awI,awy,awx,awO,reduceCtorEq,mg];grind
 have e3:ieq r.L 3=false:=by rw[aP];exact k3
 by_cases k4:r.L=4
 ·have e4:ieq r.L 4=true:=by rw[aI];exact k4
  simp only[e1,e2,e3,e4,aU,aT,ai];simp only[jI,dF,af,aH,aQ,aX,bn,aG,aF,bg,bC,aY,bI,aI,aP,bG,bJ,awN,ne_eq,awK,awI,awy,awx,awO,reduceCtorEq,qf,mg];grind
 have e4:ieq r.L 4=false:=by rw[aP];exact k4
 by_cases k5:r.L=5
 ·have e5:ieq r.L 5=true:=by rw[aI];exact k5
  simp only[e1,e2,e3,e4,e5,aU,aT,ai];have hrec:qf r↔(r.order=0/\r.y=0/\r.z=0/\r.X=0/\r.N=0/\r.I=0/\r.long=0/\r.qX=0/\r.opn=0/\r.A=0/\r.Z=0):=by
   unfold qf;constructor
   ·rintro(h | h | h | h | h | h)
    ·omega
    ·omega
    ·omega
    ·omega
    ·exact h.2
    ·omega
   ·exact fun h=> .inr (.inr (.inr (.inr (.inl ⟨k5,h⟩))))
  rw[hrec];simp only[jI,dF,af,aH,aQ,aX,bn,aG,aF,bg,bC,aY,bI,aI,aP,bG,bJ,awN,ne_eq,awK,awI,awy,awx,awO,reduceCtorEq,mg]
 have e5:ieq r.L 5=false:=by rw[aP];exact k5
 by_cases k6:r.L=6
 ·have e6:ieq r.L 6=true:=by rw[aI];exact k6
  simp only[e1,e2,e3,e4,e5,e6,aU,aT]
  have hrec:qf r↔(mg r.order/\r.y=0/\r.z=0/\r.X=0/\r.long=0/\r.qX=0/\r.opn=0/\r.on=false/\(1<=r.A/\r.A<=1000000000)/\
   ((r.Z=3/\1<=r.N/\r.I=0)\/(r.Z=5/\1<=r.N/\1<=r.I)\/((r.Z=1\/r.Z=2\/r.Z=4\/r.Z=6)/\r.N=0/\r.I=0))):=by
   unfold qf;constructor
   ·rintro(h | h | h | h | h | h)
    ·omega
    ·omega
    ·omega
    ·omega
    ·omega
    ·exact h.2
   ·exact fun h=> .inr (.inr (.inr (.inr (.inr ⟨k6,h⟩))))
  rw[hrec,jI];refine Wq.mono (Q:=fun y=>(1<=r.A/\r.A<=1000000000)->(1<=r.Z/\r.Z<=6)->(y=true↔mg r.order)) ?_ fun y hy=> ?_
  ·rw[dF];refine⟨fun h=>(af _).2 fun _ _=>by simp only[aH,aQ,aX,bn,aG,aF,bg,bC,aY,bI,aI,aP,bG,bJ,mg];omega,fun h=>(af _).2 fun g1 g2=> ?_⟩;simp only[aH,aQ,aX,bn,aG,aF,bg,bC,aY,bI,aI,aP,bG,bJ]at h;omega
  by_cases w3:r.Z=3
  ·rw[au (by simp only[aH,aQ,aX,bn,aG,aF,bg,bC,aY,bI,aI,aP,bG,bJ];exact .inl w3),bK (by rw[aP];omega),af];simp only[aH,aQ,aX,bn,aG,aF,bg,bC,aY,bI,aI,aP,bG,bJ,awx];rw[w3]at hy ⊢;constructor
   ·rintro⟨⟨⟨⟨⟨⟨a1,a2⟩,_⟩,_⟩,a3⟩,a4⟩,b1,b2,b3,b4,b5,b6,b7,b8,_⟩;exact⟨(hy ⟨by omega,a2⟩ (by omega)).1 a3,b1,b2,b3,b5,b6,b7,b8,⟨by omega,a2⟩,.inl ⟨rfl,by omega,b4⟩⟩
   ·rintro⟨c1,b1,b2,b3,b5,b6,b7,b8,c2,c3⟩;have c4:1<=r.N/\r.I=0:=by omega
    exact⟨⟨⟨⟨⟨⟨by omega,c2.2⟩,by omega⟩,by omega⟩,(hy c2 (by omega)).2 c1⟩,by omega⟩,b1,b2,b3,c4.2,b5,b6,b7,b8,azv⟩
  by_cases w5:r.Z=5
  ·rw[au (by simp only[aH,aQ,aX,bn,aG,aF,bg,bC,aY,bI,aI,aP,bG,bJ];exact .inr w5),au (by rw[aI];exact w5),af];simp only[aH,aQ,aX,bn,aG,aF,bg,bC,aY,bI,aI,aP,bG,bJ,awx];rw[w5]at hy ⊢;constructor
   ·rintro⟨⟨⟨⟨⟨⟨⟨a1,a2⟩,_⟩,_⟩,a3⟩,a4⟩,a5⟩,b1,b2,b3,b5,b6,b7,b8,_⟩;exact⟨(hy ⟨by omega,a2⟩ (by omega)).1 a3,b1,b2,b3,b5,b6,b7,b8,⟨by omega,a2⟩,.inr (.inl ⟨rfl,by omega,by omega⟩)⟩
   ·rintro⟨c1,b1,b2,b3,b5,b6,b7,b8,c2,c3⟩;have c4:1<=r.N/\1<=r.I:=by omega
    exact⟨⟨⟨⟨⟨⟨⟨by omega,c2.2⟩,by omega⟩,by omega⟩,(hy c2 (by omega)).2 c1⟩,by omega⟩,by omega⟩,b1,b2,b3,b5,b6,b7,b8,azv⟩
  rw[bK (by simp only[aH,aQ,aX,bn,aG,aF,bg,bC,aY,bI,aI,aP,bG,bJ];exact⟨w3,w5⟩),bK (by rw[aP];exact w5),af];simp only[aH,aQ,aX,bn,aG,aF,bg,bC,aY,bI,aI,aP,bG,bJ,awx];constructor
  ·rintro⟨⟨⟨⟨⟨a1,a2⟩,a6⟩,a7⟩,a3⟩,b1,b2,b3,b9,b4,b5,b6,b7,b8,_⟩;exact⟨(hy ⟨by omega,a2⟩ (by omega)).1 a3,b1,b2,b3,b5,b6,b7,b8,⟨by omega,a2⟩,.inr (.inr ⟨by omega,b9,b4⟩)⟩
  ·rintro⟨c1,b1,b2,b3,b5,b6,b7,b8,c2,c3⟩;have c4:r.N=0/\r.I=0/\1<=r.Z/\r.Z<=6:=by omega
   exact⟨⟨⟨⟨⟨by omega,c2.2⟩,by omega⟩,by omega⟩,(hy c2 (by omega)).2 c1⟩,b1,b2,b3,c4.1,c4.2.1,b5,b6,b7,b8,azv⟩
 have e6:ieq r.L 6=false:=by rw[aP];exact k6
 simp only[e1,e2,e3,e4,e5,e6,aU,aT,ai];simp only[jI,dF,af,aH,aQ,aX,bn,aG,aF,bg,bC,aY,bI,aI,aP,bG,bJ,awN,ne_eq,awK,awI,awy,awx,awO,reduceCtorEq,qf];grind
theorem zn (o:aC):fJ o=some (decide (wE o)):=by
 refine Wq.dec ?_;unfold fJ;refine(G5 _).bind fun b hb=> ?_;have hb':b=true↔TK o:=by rw[hb];simp [qf,TK,mg]
 unfold wE wJ;rw[<-hb'];simp only[jI,dF,af,aH,aQ,aX,bn,aG,aF,bg,bC,aY,bI,aI,aP,bG,bJ,awN,ne_eq,awK,awI,awy,awx,awO,reduceCtorEq];cases b<;>grind
theorem ahX {o:aC} (h:wE o) (hr:eY o):uP o=some (l7 o):=by
 have hb:=GI h hr;have hf:=h.2.1;have hq:=h.2.2.1;have r1:=hr.N;have r2:=hr.V;unfold inI at r1 r2;unfold uP aO;rw[zn,ai,awv h];unfold l7 at*;rw[aK,dI,dn];split
 ·rfl
 ·rename_i hp;rw[awg hp]at hb;rw[xB];split
  ·rw[nY ⟨by omega,by omega⟩];congr 1;omega
  ·rw[nY ⟨by omega,by omega⟩];congr 1;omega
theorem agC {o:aC} (h:wE o) (hr:eY o):yE o=some (if gV o<=9223372036854775807 then (gV o,0)else (0,3)):=by
 refine Wq.eq ?_;have hp:=h.1.2.2.2.2.2;have hf:=h.2.2.1;have hf0:=h.2.1;have rq:=hr.N;have rp:=hr.I;have rf:=hr.H;have rn:=hr.V;have rnp:=hr.U;unfold inI at rq rf rn;unfold yE aO;rw[zn,ai,awv h,aK,aT,dn];by_cases h3:o.P=3
 ·rw[awh h3,af];have:gV o=0:=by unfold gV;rw[awh h3]
  rw[this];rfl
 ·rw[awg h3,nY ⟨by omega,by omega⟩];refine(ato ⟨by omega,by omega⟩ rp).bind fun y hy=> ?_;have m:0<=(o.N - o.H)*o.I:=aw2 (by omega) (by omega);rw[Es h3];generalize (o.N - o.H)*o.I=a at*;have hia:inI a↔a<=9223372036854775807:=by unfold inI;omega
  rw[hia]at hy;rw[dF];refine⟨fun hb=>(af _).2 ?_,fun hb=> ?_⟩
  ·have hn:¬a<=9223372036854775807:=fun h=>by rw[hy.1.2 h]at hb;cases hb
   rw[awg];split<;>omega
  ·have hyt:y.2=true:=by simpa [ax] using hb
   have hale:=hy.1.1 hyt;have hya:=hy.2 hyt;rw[xB];by_cases hn:o.H<o.V
   ·rw[awh hn,awg (by omega:¬o.V<=o.H)];have hnp:=aiP h hn;rw[nY ⟨by omega,by omega⟩];refine(ato ⟨by omega,by omega⟩ rnp).bind fun z hz=> ?_;have m2:0<=(o.V - o.H)*o.U:=aw2 (by omega) (by omega);generalize (o.V - o.H)*o.U=b at*;have hib:inI b↔b<=9223372036854775807:=by unfold inI;omega
    rw[hib]at hz;rw[dF];refine⟨fun hb=>(af _).2 ?_,fun hb=> ?_⟩
    ·have hn:¬b<=9223372036854775807:=fun h=>by rw[hz.1.2 h]at hb;cases hb
     rw[awg (by omega)]
    ·have hzt:z.2=true:=by simpa [ax] using hb
     have hble:=hz.1.1 hzt;have hzb:=hz.2 hzt;rw[hya,hzb,xB,awh (c:=max a b<=9223372036854775807) (by omega)];by_cases hab:a<b
     ·rw[awh hab,af,Int.max_eq_right (by omega)]
     ·rw[awg hab,af,Int.max_eq_left (by omega)]
   ·rw[awg hn,awh (by omega:o.V<=o.H),awh hale,af,hya]
theorem ajb {c:bF} (h:F5 c):yD c=some (decide (okC c)):=by
 refine Wq.dec ?_;unfold yD;rw[ac3 h.pos h.buy,ai,avt h.qK h.pos,ai,af];simp only[aH,aQ,aX,bn,aG,aF,bg,bC,aY,bI,aI,aP,bG,bJ,okC];by_cases h1:inI (c.pos+c.buy)
 ·by_cases h2:inI (c.qK - c.pos)
  ·simp only[awh h1,awh h2];constructor
   ·rintro⟨⟨⟨_,a⟩,b⟩,d⟩;exact⟨h,⟨a,b,d⟩,h1,h2⟩
   ·rintro⟨_,⟨a,b,d⟩,_,_⟩;exact⟨⟨⟨⟨trivial,azv⟩,a⟩,b⟩,d⟩
  ·simp only[awg h2];constructor
   ·rintro⟨⟨⟨⟨_,a⟩,_⟩,_⟩,_⟩;cases a
   ·rintro⟨_,_,_,a⟩;exact absurd a h2
 ·simp only[awg h1];constructor
  ·rintro⟨⟨⟨⟨a,_⟩,_⟩,_⟩,_⟩;cases a
  ·rintro⟨_,_,a,_⟩;exact absurd a h1
theorem ahI {c:bF} (h:okC c):yx c=some (ofC c):=by
 unfold yx ay aO;rw[nY h.2.2.1,nY h.2.2.2];rfl
theorem agD (x:jQ):yO x=some (decide (Zx x)):=by
 refine Wq.dec ?_;unfold yO Zx;simp only[af,aH,aQ,aX,bn,aG,aF,bg,bC,aY,bI,aI,aP,bG,bJ]
 grind
theorem aty (a b c:Int):og a b c=some (decide (ZA a b c)):=by
 refine Wq.dec ?_;unfold og ZA;simp only[af,aH,aQ,aX,bn,aG,aF,bg,bC,aY,bI,aI,aP,bG,bJ];omega
theorem aoW (a b l:jQ):vg a b l=some (decide (Em a b l)):=by
 refine Wq.dec ?_;unfold vg Em;simp only[aty,ai];by_cases h1:ZA a.long b.long l.long
 ·simp only[awv h1,aK,aT,ai,kH,af];simp [h1]
 ·simp only[awR h1,aW,aU,ai,dI];by_cases h2:ZA a.qX b.qX l.qX
  ·simp only[awv h2,aK,aT,ai,kH,af];simp [h1,h2]
  ·simp only[awR h2,aW,aU,ai,dI,af];simp [h1,h2]
theorem ahT {l:List bF} (hl:l.length<999999) (h:∀c∈l,0<=c.opn/\inI c.opn):pz l=some (if jk l<=9223372036854775807 then (jk l,true)else (0,false)):=by
 refine Wq.eq ?_;have hn:∀x∈l.map bF.opn,0<=x:=fun x hx=>by
  obtain⟨c,hc,rfl⟩:=axG.1 hx;exact(h c hc).1
 have htk:∀i,(l.take i).map bF.opn=(l.map bF.opn).take i:=fun i=>by rw[List.map_take]
 unfold pz;refine Wq.bind (Q:=fun w:(Bool×Int) ⊕ (Int×Bool×Int)=>match w with | .inl w=>w=(false,0)/\¬jk l<=9223372036854775807 | .inr w=>w.1=jk l/\jk l<=9223372036854775807)
  (fG (n:=l.length) (step:=fun v:Int×Int×Bool×Int=>pI l v.1 v.2.1 v.2.2.1 v.2.2.2) (by omega)
    (fun i x=>x.1=jk (l.take i)/\x.1<=9223372036854775807) _ ?_ ?_ _ 0 (awm _) (by simp [jk])) ?_
 ·rintro i ⟨a,b,c⟩ hi ⟨rfl,ha⟩;simp only[pI];simp only at ha;have hx:=h l[i] (awl _);have hs:jk (l.take (i+1))=jk (l.take i)+l[i].opn:=by
   unfold jk;rw[htk,htk,YS _ i (by simpa using hi),ayG]
  have ht:0<=jk (l.take i):=by unfold jk;rw[htk];exact ae6 fun x hx=>hn x (axo hx)
  have htl:jk (l.take (i+1))<=jk l:=by unfold jk;rw[htk];exact ac0 hn _
  rw[au (by rw[dm];simpa using hi),au (inb l i hi),aN l i hi,ac3 ⟨by omega,ha⟩ hx.2,ai,<-hs];by_cases hr:jk (l.take (i+1))<=9223372036854775807
  ·rw[awh ⟨by omega,hr⟩];simp only[aK,aT,af];exact⟨aZ (by omega),trivial,hr⟩
  ·rw[awg (by unfold inI;omega)];simp only[aW,aU,af];exact⟨trivial,by omega⟩
 ·rintro⟨a,b,c⟩ ⟨rfl,ha⟩;simp only[pI];rw[bK (by rw[dm];simp),af];rw[awq]at*;exact⟨rfl,ha⟩
 ·rintro w hw;cases w with
  |inl w=>obtain⟨rfl,h2⟩:=hw;simp only[dK,af];rw[awg h2]
  |inr w=>obtain⟨h1,h2⟩:=hw;simp only[dK,af];rw[awh h2,h1]
theorem aio (s:aB) (n:Int) (hl:s.a.length<999999):kD s n=some (Rw s.a n):=by
 refine Wq.eq ?_;unfold kD
 refine Wq.bind (Q:=fun w:Int ⊕ Int=>match w with
  |.inl k=>∃i:Nat,k=i/\∃h:i<s.a.length,s.a[i].id=n/\∀j,(h:j<s.a.length)->j<i->s.a[j].id≠n
  |.inr _=>∀j,(h:j<s.a.length)->s.a[j].id≠n)
  (fG (n:=s.a.length) (step:=fun v:Int×Int=>qF n s v.1 v.2) (by omega) (fun i x=>∀j,(h:j<s.a.length)->j<i->s.a[j].id≠n) _ ?_ ?_ _ 0 (awm _) (fun j _ h=>by omega)) ?_
 ·rintro i x hi hx;simp only[qF];rw[au (by rw[dm];simpa using hi),au (inb _ i hi),aN _ i hi,dF];refine⟨fun he=>(af _).2 ⟨i,rfl,hi,by simpa [ieq] using he,hx⟩,fun he=>(af _).2 ⟨aZ (by omega),fun j hj hji=> ?_⟩⟩;by_cases e:j=i
  ·subst e;simpa [ieq] using he
  ·exact hx j hj (by omega)
 ·rintro x hx;simp only[qF];rw[bK (by rw[dm];simp),af];exact fun j hj=>hx j hj hj
 ·rintro w hw;cases w with
  |inl k=>
   obtain⟨i,rfl,hi,h1,h2⟩:=hw;have:zu s.a n=some i:=by
    unfold zu;rw[azd];exact⟨hi,by simpa using h1,fun j hj=>by simpa using h2 j (by omega) hj⟩
   simp only[dK,af,Rw,this]
  |inr k=>
   have:zu s.a n=none:=by
    unfold zu;rw[aze];intro o ho;obtain⟨j,hj,rfl⟩:=axu ho;simpa using hw j hj
   simp only[dK,af,Rw,this]
theorem aqT (c:bF) {o:aC} (h:o.X=1\/o.X=2):xA c o=if o.X=1 then ⟨c.pos,c.buy+l7 o,c.qK,c.opn+gV o⟩else ⟨c.pos,c.buy,c.qK+l7 o,c.opn+gV o⟩:=by
 unfold xA;by_cases e:o.X=1
 ·rw[awh e,awg (by omega)]
 ·rw[awg e,awh (by omega)]
theorem auJ {s:aB} (hk:∀o∈s.a,nV s o/\eY o) (hs:qO s) (hol:s.a.length<999999) (i:Nat) (pos:Int) (a:Bool) (b:List bF):
 Wq (bU (fun v:Int×Bool×List bF×bF=>kW (i:Int) s v.1 v.2.1 v.2.2.1 v.2.2.2) LF (0,a,b,bF.mk pos 0 0 0)) fun w=>match w with
  |.inl w=>w.1=false/\w.2.1=[]/\¬KT (kL s.i i s.a)
  |.inr w=>w.1=a/\w.2.1=b/\w.2.2=mM ⟨pos,0,0,0⟩ (kL s.i i s.a)/\KT (kL s.i i s.a):=by
 have hz:mM ⟨pos,0,0,0⟩ zC=bF.mk pos 0 0 0:=by apply BJ<;>simp [mM,zC]
 refine fG (n:=s.a.length) hol (fun k x=>x.1=a/\x.2.1=b/\x.2.2=mM ⟨pos,0,0,0⟩ (kL s.i i (s.a.take k))/\KT (kL s.i i (s.a.take k))) _ ?_ ?_ _ 0 (awm _) ⟨rfl,rfl,by simp only[ays,kL];exact hz.symm,by simp only[ays,kL,KT,zC];decide⟩
 ·rintro k ⟨x1,x2,x3⟩ hkl ⟨rfl,rfl,g3,g4⟩
  simp only at g3 g4
  obtain⟨hoi,hor⟩:=hk s.a[k] (awl _)
  obtain⟨ho,_,ha,hy⟩:=id hoi
  have hside:=ho.1.2.2.2.1
  have hacc:=ho.1.2.1;have hsym:=ho.1.2.2.1
  have m:=Dz (a:=s.a[k].y) (b:=s.i) (by omega) (by have:=hs.1.2;omega) (by have:=hs.2.1.1;omega) (by have:=hs.2.1.2;omega)
  have hwr:wr .i64 (ay (wr .i64 (dA s.a[k].y s.i)) s.a[k].z)=atZ s.i s.a[k]:=by
   unfold ay dA atZ
   rw[bf (n:=s.a[k].y*s.i) m.1 (by omega),bf (by omega) (by omega)]
  have hstep:kL s.i i (s.a.take (k+1))=mM (kL s.i i (s.a.take k)) (inC s.i i s.a[k]):=by
   rw[awQ hkl,yM,aaE]
  have hnn:=Na s.i i (l:=s.a.take k) fun o h=>⟨(hk o (axo h)).1.1,(hk o (axo h)).2⟩
  have hO:=GI ho hor
  have hW:=JK ho
  have hfull:KT (kL s.i i s.a)->KT (kL s.i i (s.a.take (k+1))):=fun h=>by
   have e:kL s.i i s.a=mM (kL s.i i (s.a.take (k+1))) (kL s.i i (s.a.drop (k+1))):=by
    rw[<-yM,aw7]
   rw[e]at h
   exact ak4 (Na _ _ fun o h=>⟨(hk o (axE h)).1.1,(hk o (axE h)).2⟩) h
  simp only[kW]
  rw[au (by rw[dm];simpa using hkl),au (inb _ k hkl),aN _ k hkl,hwr,cO,dn]
  by_cases hat:atZ s.i s.a[k]=(i:Int)
  case neg=>
   rw[awg hat,af]
   refine⟨aZ (by omega),rfl,rfl,?_,?_⟩
   ·rw[hstep];unfold inC;rw[awg hat,QS];exact g3
   ·rw[hstep];unfold inC;rw[awg hat,QS];exact g4
  rw[awh hat,agC ho hor,ai,ahX ho hor]
  have hin:inC s.i i s.a[k]=wC s.a[k]:=ah3 hat
  rw[hin]at hstep
  generalize kL s.i i (s.a.take k)=c at*
  obtain⟨n0,n1,n2,n3⟩:=hnn
  obtain⟨f1,f2,f3⟩:=id g4
  have e1:x3.opn=c.opn:=by rw[g3];simp [mM]
  have e2:x3.buy=c.buy:=by rw[g3];simp [mM]
  have e3:x3.qK=c.qK:=by rw[g3];simp [mM]
  have e4:x3.pos=pos:=by rw[g3];simp [mM,n0]
  have iw:∀w:Int,0<=w->w<=9223372036854775807->inI w:=fun w h1 h2=>⟨by omega,h2⟩
  by_cases hw:gV s.a[k]<=9223372036854775807
  case neg=>
   have hno:¬KT (kL s.i i s.a):=fun h=>by
    have h:=hfull h
    rw[hstep]at h
    have:=h.2.2
    have e:(wC s.a[k]).opn=gV s.a[k]:=by unfold wC;split<;>rfl
    simp only[mM,e]at this;omega
   rw[awg hw]
   simp only[ai]
   rw[e1,ac3 (iw _ n3 f3) (by decide),ai,dn]
   split
   ·rw[e2,ac3 (iw _ n1 f1) (iw _ hO.1 hO.2),ai,au (by simp only[aH,aQ,aX,bn,aG,aF,bg,bC,aY,bI,aI,aP,bG,bJ];left;left;decide),af];exact⟨rfl,rfl,hno⟩
   ·rw[e3,ac3 (iw _ n2 f2) (iw _ hO.1 hO.2),ai,au (by simp only[aH,aQ,aX,bn,aG,aF,bg,bC,aY,bI,aI,aP,bG,bJ];left;left;decide),af];exact⟨rfl,rfl,hno⟩
  rw[awh hw]
  simp only[ai]
  have hao:=aqT c hside
  rw[abm]at hao
  rw[e1,ac3 (iw _ n3 f3) (iw _ hW hw),ai,dn]
  by_cases hsd:s.a[k].X=1
  ·rw[awh hsd]at hao ⊢
   rw[e2,ac3 (iw _ n1 f1) (iw _ hO.1 hO.2),ai]
   rw[hao]at hstep
   by_cases h1:c.opn+gV s.a[k]<=9223372036854775807
   ·by_cases h2:c.buy+l7 s.a[k]<=9223372036854775807
    ·rw[awh (iw _ (by omega) h1),awh (iw _ (by omega) h2)]
     simp only[mD,aK,dI,aT]
     rw[af]
     refine⟨aZ (by omega),rfl,rfl,?_,?_⟩
     ·rw[hstep];apply BJ<;>simp only[mM]<;>omega
     ·rw[hstep];exact⟨h2,f2,h1⟩
    ·have hno:¬KT (kL s.i i s.a):=fun h=>by
      have h:=(hfull h).1;rw[hstep]at h;exact h2 h
     rw[awh (iw _ (by omega) h1),awg (fun h=>h2 h.2)]
     simp only[mD,aK,dI,aW,aU]
     exact(af _).2 ⟨rfl,rfl,hno⟩
   ·have hno:¬KT (kL s.i i s.a):=fun h=>by
     have h:=(hfull h).2.2;rw[hstep]at h;exact h1 h
    rw[awg (c:=inI (c.opn+gV s.a[k])) (fun h=>h1 h.2)]
    simp only[mD,aK,dI,aW,kH,aU]
    exact(af _).2 ⟨rfl,rfl,hno⟩
  ·rw[awg hsd]at hao ⊢
   rw[e3,ac3 (iw _ n2 f2) (iw _ hO.1 hO.2),ai]
   rw[hao]at hstep
   by_cases h1:c.opn+gV s.a[k]<=9223372036854775807
   ·by_cases h2:c.qK+l7 s.a[k]<=9223372036854775807
    ·rw[awh (iw _ (by omega) h1),awh (iw _ (by omega) h2)]
     simp only[mD,aK,dI,aT]
     rw[af]
     refine⟨aZ (by omega),rfl,rfl,?_,?_⟩
     ·rw[hstep];apply BJ<;>simp only[mM]<;>omega
     ·rw[hstep];exact⟨f1,h2,h1⟩
    ·have hno:¬KT (kL s.i i s.a):=fun h=>by
      have h:=(hfull h).2.1;rw[hstep]at h;exact h2 h
     rw[awh (iw _ (by omega) h1),awg (fun h=>h2 h.2)]
     simp only[mD,aK,dI,aW,aU]
     exact(af _).2 ⟨rfl,rfl,hno⟩
   ·have hno:¬KT (kL s.i i s.a):=fun h=>by
     have h:=(hfull h).2.2;rw[hstep]at h;exact h1 h
    rw[awg (c:=inI (c.opn+gV s.a[k])) (fun h=>h1 h.2)]
    simp only[mD,aK,dI,aW,kH,aU]
    exact(af _).2 ⟨rfl,rfl,hno⟩
 ·rintro⟨x1,x2,x3⟩ ⟨g1,g2,g3,g4⟩
  simp only[kW]
  rw[bK (by rw[dm];simp),af]
  rw[awq]at g3 g4
  exact⟨g1,g2,g3,g4⟩
theorem amF {n m:Int} (hn:1<=n/\n<=8) (hm:1<=m/\m<=8) {cs:List bF} (hc:len cs=n*m) {a:Int} (ha:0<=a) (ha2:a<n):
 band (band (ile 0 (wr .i64 (dA a m))) (ile (wr .i64 (dA a m)) (wr .i64 (dA (wr .i64 (ay a 1)) m)))) (ile (wr .i64 (dA (wr .i64 (ay a 1)) m)) (len cs))=true/\
 aV (bZ cs (itn (wr .i64 (dA a m)))) (itn (aO (wr .i64 (dA (wr .i64 (ay a 1)) m)) (wr .i64 (dA a m))))=vY m cs a:=by
 have q:=Dz (a:=a) (b:=m) (by omega) (by omega) (by omega) (by omega)
 have q2:=Dz (a:=a+1) (b:=m) (by omega) (by omega) (by omega) (by omega)
 have l:(a+1)*m<=n*m:=axZ (by omega) (by omega)
 have e:(a+1)*m=a*m+m:=by rw[ax6,ayk]
 rw[show dA a m=a*m from rfl,bf q.1 (by omega),show ay a 1=a+1 from rfl,bf (n:=a+1) (by omega) (by omega),
  show dA (a+1) m=(a+1)*m from rfl,bf q2.1 (by omega)]
 refine⟨by simp only[aH,aY];omega,?_⟩
 rw[show aO ((a+1)*m) (a*m)=m from by unfold aO;omega]
 rfl
theorem anu {s:aB} (hs:qO s) (hk:∀o∈s.a,nV s o/\eY o) (hcl:okL TY s.cells):
 Wq (tK s) fun r=>(r.2=true↔Zy (EJ s s.a))/\(r.2=true->r.1=dD s s.a):=by
 obtain⟨hc,_,_,hol⟩:=hs.lens
 have hnn:∀i:Nat,nnC (kL s.i i s.a):=fun i=>Na _ _ fun o h=>⟨(hk o h).1.1,(hk o h).2⟩
 unfold tK
 refine Wq.bind (Q:=fun w:(Bool×List bF) ⊕ (List bF×Bool×List bF)=>match w with
  |.inl w=>w.1=false/\¬∀c∈dD s s.a,okC c
  |.inr w=>w.1=dD s s.a/\∀c∈dD s s.a,okC c)
  (fG (n:=s.cells.length) (step:=fun v:Int×List bF×Bool×List bF=>pW s v.1 v.2.1 v.2.2.1 v.2.2.2) (by omega)
    (fun i x=>x.1=(dD s s.a).take i/\∀c∈x.1,okC c) _ ?_ ?_ _ 0 (awm _) ⟨by simp,by simp⟩) ?_
 ·rintro i ⟨x1,x2,x3⟩ hi ⟨g1,g2⟩
  simp only at g1 g2
  have him:i<(dD s s.a).length:=by rw[iF];exact hi
  have hci:F5 s.cells[i]:=hcl.1 _ (awl hi)
  simp only[pW]
  rw[au (by rw[dm];simpa using hi),au (inb _ i hi),aN _ i hi]
  refine Wq.bind (auJ hk hs (by omega) i s.cells[i].pos x2 x3) fun w hw=> ?_
  have hmk:=vZ s s.a i him
  have hokfit:okC (dD s s.a)[i]->KT (kL s.i i s.a):=fun h=>by
   have:=acE h
   rw[hmk]at this
   unfold KT mM at this
   simpa [KT] using this
  cases w with
  |inl w=>
   obtain⟨h1,h2,h3⟩:=hw
   simp only[dK,af]
   exact⟨h1,fun h=>h3 (hokfit (h _ (awl him)))⟩
  |inr w=>
   obtain⟨h1,h2,h3,h4⟩:=hw
   simp only[dK]
   have hokc:F5 w.2.2:=by
    rw[h3]
    have n:=hnn i
    obtain⟨n0,n1,n2,n3⟩:=n
    obtain⟨f1,f2,f3⟩:=h4
    have hp:=hci.pos
    refine⟨?_,?_,?_,?_⟩<;>simp only[mM]<;>unfold inI at* <;>omega
   rw[ajb hokc,ai,cO,sN,h3,<-hmk]
   by_cases hok:okC (dD s s.a)[i]
   ·rw[awh hok,au (dW (by rw[g1];simp [aJ,len];omega)),af]
    refine⟨aZ (by omega),?_,fun c hc=> ?_⟩
    ·rw[awQ him,<-g1];rfl
    ·rcases awt.1 hc with hc | hc
     ·exact g2 c hc
     ·rw[awC]at hc;subst hc;exact hok
   ·rw[awg hok,af]
    exact⟨rfl,fun h=>hok (h _ (awl him))⟩
 ·rintro⟨x1,x2,x3⟩ ⟨g1,g2⟩
  simp only[pW]
  rw[bK (by rw[dm];simp),af]
  have e:(dD s s.a).take s.cells.length=dD s s.a:=aw5 (by rw[iF];exact awk _)
  rw[e]at g1
  simp only at g1 g2
  exact⟨g1,by rw[<-g1];exact g2⟩
 ·rintro w hw
  cases w with
  |inl w=>
   obtain⟨h1,h2⟩:=hw
   simp only[dK,af,h1]
   exact⟨⟨fun h=>(by cases h),fun h=>absurd h.1 h2⟩,fun h=>(by cases h)⟩
  |inr w=>
   obtain⟨h1,h2⟩:=hw
   simp only[dK]
   have hlen:len (dD s s.a)=s.t*s.i:=by simp only[len,iF];exact hs.2.2.1
   refine Wq.bind (Q:=fun w:(Bool×List bF) ⊕ (Bool×List bF)=>match w with | .inl w=>w.1=false/\¬QT s.t s.i (dD s s.a) | .inr _=>QT s.t s.i (dD s s.a))
    (fG (n:=s.t.toNat) (step:=fun v:Int×Bool×List bF=>ny w.1 s v.1 v.2.1 v.2.2) (by have:=hs.1.2;omega)
    (fun i x=>∀a:Int,0<=a->a<i->jk (vY s.i (dD s s.a) a)<=9223372036854775807) _ ?_ ?_ _ 0 (awm _) (fun a h1 h2=>by omega)) ?_
   ·rintro i q hi hx
    have hia:(i:Int)<s.t:=by omega
    obtain⟨c1,c2⟩:=amF hs.1 hs.2.1 (cs:=dD s s.a) hlen (a:=(i:Int)) (by omega) hia
    simp only[ny,h1]
    rw[au (pO hia),au c1,c2,ahT (by have:=NE (n:=s.i) (cs:=dD s s.a) (a:=(i:Int));rw[iF]at this;omega) (aa1 h2 i),ai]
    by_cases hw:jk (vY s.i (dD s s.a) i)<=9223372036854775807
    ·rw[awh hw]
     simp only[aK,aT,af]
     refine⟨aZ (by have:=hs.1.2;omega),fun a h1 h2=> ?_⟩
     by_cases e:a=i
     ·subst e;exact hw
     ·exact hx a h1 (by omega)
    ·rw[awg hw]
     simp only[aW,aU,af]
     exact⟨trivial,fun h=>hw (h i (by omega) hia)⟩
   ·rintro q hx
    simp only[ny]
    rw[bK (nP (by omega)),af]
    exact fun a h1 h2=>hx a h1 (by omega)
   ·rintro v hv
    cases v with
    |inl v=>
     obtain⟨g1,g2⟩:=hv
     simp only[dK,af,g1]
     exact⟨⟨fun h=>(by cases h),fun h=>absurd h.2 g2⟩,fun h=>(by cases h)⟩
    |inr v=>
     simp only[dK,af]
     exact⟨⟨fun _=>⟨h2,hv⟩,fun _=>trivial⟩,fun _=>h1⟩
theorem amP {s:aB} {l:List aC} (hs:qO s) (hl:l.length<=64) (hk:∀o∈l,nV s o/\eY o) (hcl:okL TY s.cells):
 Wq (jr s l) fun r=>(r.2=true↔Zy (EJ s l))/\(r.2=true->r.1=EJ s l):=by
 unfold jr
 have hs':qO ⟨s.t,s.i,l,s.cells,s.G,s.W,s.qJ,s.S,s.A,s.B⟩:=yc hs rfl rfl rfl rfl rfl hl
 refine Wq.bind (anu hs' hk hcl) fun r hr=>(af _).2 ⟨hr.1,fun h=> ?_⟩
 have:=hr.2 h
 simp only[this];rfl
theorem ajX {s t:aB} (hR:iH s) (ht:qO t) (hn1:t.t=s.t) (hn2:t.i=s.i) (hok:∀c∈t.cells,okC c) (hac:QT s.t s.i t.cells) {a y:Int} (ha:0<=a) (ha2:a<s.t) (hy:0<=y) (hy2:y<s.i):
 mP s t a y=some (decide (Oy s t a y)):=by
 have hs:=hR.sized
 obtain⟨l1,l2,l3,l4⟩:=hs.lens
 obtain⟨m1,m2,m3,m4⟩:=ht.lens
 have hcl:t.cells.length=s.cells.length:=by
  have:=ht.2.2.1;have:=hs.2.2.1
  rw[hn1,hn2]at*
  simp only[len]at *; omega
 obtain⟨k,e1,e2,e3⟩:=OW hs a y ha ha2 hy hy2
 unfold dJ at e1
 have e1:=awr e1
 obtain⟨c1,c2⟩:=amF hs.1 hs.2.1 (cs:=s.cells) hs.2.2.1 ha ha2
 obtain⟨d1,d2⟩:=amF hs.1 hs.2.1 (cs:=t.cells) (by rw[<-hs.2.2.1];simp only[len];omega) ha ha2
 have ln1:=NE (n:=s.i) (cs:=s.cells) (a:=a)
 have ln2:=NE (n:=s.i) (cs:=t.cells) (a:=a)
 have hac':band (ile 0 a) (ilt a (len s.W))=true:=Ae (dW ha) (pO (by simp only[len];omega))
 unfold mP
 rw[au c1,c2,ahT (by omega) (aa1 hR.ok a),ai,awh (hR.acct a ha ha2),au d1,d2,ahT (by omega) (aa1 hok a),ai,awh (hac a ha ha2)]
 rw[e1,au (inb _ k e3),aN _ k e3,ahI (hR.ok _ (awl e3)),ai,au (inb _ k (by omega)),aN _ k (by omega),ahI (hok _ (awl _)),ai,au (inb _ k (by omega)),aN _ k (by omega),aoW,ai,
  au (by rw[aX];exact .inl hac'),cO,sN,aty]
 have hst:Oy s t a y↔Em (ofC s.cells[k]) (ofC (t.cells[k]'(by omega))) (s.G[k]'(by omega))\/ZA (jk (vY s.i s.cells a)) (jk (vY s.i t.cells a)) (aj s.W (itn a)):=by
  unfold Oy
  rw[<-e2,aN _ k e3,aN _ k (by omega),aN _ k (by omega)]
 by_cases hx:Em (ofC s.cells[k]) (ofC (t.cells[k]'(by omega))) (s.G[k]'(by omega))
 ·rw[awh hx,ai,awv hx,kH,awv (hst.2 (.inl hx))]
 ·rw[awg hx,ai,awR hx,dI]
  congr 1
  rw[axS,hst]
  exact⟨fun h=> .inr h,fun h=>h.resolve_left hx⟩
theorem atx {l:List aC} {m:Nat} (hm:m<l.length) (hl:l.length<999999) (p:aC):sJ l m p=some (l.set m p):=by
 unfold sJ;rw[au (dW (by simp only[len];omega)),au (inb _ m hm),MK]
theorem aj2 (l:List aC):Px l↔∀i:Nat,(h:i+1<l.length)->l[i].id<l[i+1].id:=by
 constructor
 ·exact fun h i hi=>ax7.1 h i (i+1) (by omega) hi (by omega)
 ·intro h;refine ax7.2 fun i j hi hj hij=> ?_;have key:∀d:Nat,(hd:i+d+1<l.length)->l[i].id<l[i+d+1].id:=fun d=>by
   induction d with
   |zero=>exact fun hd=>h i hd
   |succ d ih=>exact fun hd=>Int.lt_trans (ih (by omega)) (h (i+d+1) (by omega))
  have e:j=i+(j - i - 1)+1:=by omega
  have:=key (j - i - 1) (by omega);simp only[<-e]at this;exact this
theorem ajj {s:aB} (hr:iD s) (hsh:sG s):Wq (oL s) fun b=>b=true↔iH s:=by
 obtain⟨l1,l2,l3,l4⟩:=hsh;unfold oL;rw[dF];refine⟨fun h=>(af _).2 ⟨fun h=>(by cases h),fun hR=> ?_⟩,fun h=> ?_⟩
 ·obtain⟨a1,a2,a3,a4,a5,a6⟩:=hR.sized;have m:=Dz (a:=s.t) (b:=s.i) (by omega) (by omega) (by omega) (by omega);simp only[aH,aQ,aX,bn,aG,aF,bg,bC,aY,bI,aI,aP,bG,bJ,show dA s.t s.i=s.t*s.i from rfl,bf m.1 (show s.t*s.i<1000000000000 by omega),len]at h;simp only[len]at a3 a4 a5;omega
 have hs:qO s:=by
  simp only[aH,aQ,aX,bn,aG,aF,bg,bC,aY,bI,aI,aP,bG,bJ,len]at h;have m:=Dz (a:=s.t) (b:=s.i) (by omega) (by omega) (by omega) (by omega);rw[show dA s.t s.i=s.t*s.i from rfl,bf m.1 (by omega)]at h;unfold qO;simp only[len];omega
 rw[dF];refine⟨fun h=>(af _).2 ⟨fun h=>(by cases h),fun hR=> ?_⟩,fun h=> ?_⟩
 ·have b1:=hR.fine.S;have b2:=hR.fine.A;have b3:=hR.fine.B;simp only[aH,aQ,aX,bn,aG,aF,bg,bC,aY,bI,aI,aP,bG,bJ]at h;omega
 simp only[aH,aQ,aX,bn,aG,aF,bg,bC,aY,bI,aI,aP,bG,bJ]at h
 refine Wq.bind (Q:=fun w:Bool ⊕ Bool=>match w with
  |.inl b=>b=false/\¬((∀o∈s.a,nV s o/\o.id<=s.S)/\Px s.a)
  |.inr _=>(∀o∈s.a,nV s o/\o.id<=s.S)/\Px s.a)
  (fG (n:=s.a.length) (step:=fun v:Int×Bool=>nG s v.1 v.2) l1
    (fun i _=>(∀o∈s.a.take i,nV s o/\o.id<=s.S)/\∀k:Nat,(h:k+1<s.a.length)->k+1<i->s.a[k].id<s.a[k+1].id) _ ?_ ?_ _ 0 (awm _) (by simp)) ?_
 ·rintro i q hi ⟨g1,g2⟩;simp only[nG];rw[au (by rw[dm];simpa using hi),au (inb _ i hi),aN _ i hi,zn,ai];have hbad:∀b:Bool,(b=true↔¬(nV s s.a[i]/\s.a[i].id<=s.S))->b=bor (bor (bor (bor (ax (decide (wE s.a[i]))) (ieq s.a[i].P 3)) (ile s.t s.a[i].y)) (ile s.i s.a[i].z)) (ilt s.S s.a[i].id):=fun b hb=>by
   rw[ax5,hb];unfold nV;simp only[aH,aQ,aX,bn,aG,aF,bg,bC,aY,bI,aI,aP,bG,bJ,axD];constructor
   ·intro h;by_cases a:wE s.a[i]
    ·by_cases b:s.a[i].P=3
     ·exact .inl (.inl (.inl (.inr b)))
     ·by_cases c:s.t<=s.a[i].y
      ·exact .inl (.inl (.inr c))
      ·by_cases d:s.i<=s.a[i].z
       ·exact .inl (.inr d)
       ·exact .inr (by by_cases e:s.a[i].id<=s.S;exact absurd ⟨⟨a,b,by omega,by omega⟩,e⟩ h;omega)
    ·exact .inl (.inl (.inl (.inl a)))
   ·rintro((((a | a) | a) | a) | a) ⟨⟨b1,b2,b3,b4⟩,b5⟩
    ·exact a b1
    ·exact b2 a
    ·omega
    ·omega
    ·omega
  by_cases hok:nV s s.a[i]/\s.a[i].id<=s.S
  ·rw[<-hbad false (by simp [hok])];simp only[aW,qU,dI];by_cases h0:i=0
   ·subst h0;rw[au (by simp only[aH,aQ,aX,bn,aG,aF,bg,bC,aY,bI,aI,aP,bG,bJ];right;decide),bK (by simp only[aH,aQ,aX,bn,aG,aF,bg,bC,aY,bI,aI,aP,bG,bJ];left;decide),af];refine⟨aZ (by omega),fun o ho=> ?_,fun k hk1 hk2=>by omega⟩;rcases(sQ hi).1 ho with ho | rfl
    ·exact g1 o ho
    ·exact hok
   ·have hw:wr .i64 (aO (i:Int) 1)=((i - 1:Nat):Int):=by unfold aO;rw[bf (by omega) (by omega)];omega
    have hi1:i - 1<s.a.length:=by omega
    rw[hw,au (by rw[aX];exact .inl (inb _ _ hi1)),aN _ _ hi1,pO (show(0:Int)<(i:Int) by omega),qU,akH];have hii:s.a[i - 1+1]'(by omega)=s.a[i]:=by congr 1;omega
    by_cases hle:s.a[i].id<=s.a[i - 1].id
    ·rw[awh hle,af];refine⟨rfl,fun⟨_,h2⟩=> ?_⟩;have:=(aj2 _).1 h2 (i - 1) (by omega);rw[hii]at this;omega
    ·rw[awg hle,af];refine⟨aZ (by omega),fun o ho=> ?_,fun k hk1 hk2=> ?_⟩
     ·rcases(sQ hi).1 ho with ho | rfl
      ·exact g1 o ho
      ·exact hok
     ·by_cases e:k+1=i
      ·have e2:k=i - 1:=by omega
       subst e2;rw[hii];omega
      ·exact g2 k hk1 (by omega)
  ·rw[<-hbad true (by simp [hok])];simp only[aK,yU,aW,kH,ahQ,aU];rw[af];exact⟨rfl,fun h2=>hok (h2.1 _ (awl _))⟩
 ·rintro q ⟨g1,g2⟩;simp only[nG];rw[bK (by rw[dm];simp),af];rw[awq]at g1;exact⟨g1,(aj2 _).2 fun k hk=>g2 k hk hk⟩
 rintro w hw;cases w with
 |inl b=>
  obtain⟨rfl,hn⟩:=hw;simp only[dK,af];exact⟨fun h=>(by cases h),fun hR=>absurd ⟨fun o ho=>⟨hR.fine.ords o ho,hR.fine.ids o ho⟩,hR.fine.asc⟩ hn⟩
 |inr b=>
 obtain⟨ho,has⟩:=hw;simp only[dK];refine Wq.bind (Q:=fun w:Bool ⊕ Bool=>match w with | .inl b=>b=false/\¬∀x∈s.G,Zx x | .inr _=>∀x∈s.G,Zx x)
  (fG (n:=s.G.length) (step:=fun v:Int×Bool=>nI s v.1 v.2) l3 (fun i _=>∀x∈s.G.take i,Zx x) _ ?_ ?_ _ 0 (awm _) (by simp)) ?_
 ·rintro i q hi hx;simp only[nI];rw[au (by rw[dm];simpa using hi),au (inb _ i hi),aN _ i hi,agD,ai,cO,sN];split
  ·rename_i h5;rw[af];refine⟨aZ (by omega),fun x hx'=> ?_⟩;rcases(sQ hi).1 hx' with h6 | rfl
   ·exact hx x h6
   ·exact h5
  ·rename_i h5;rw[af];exact⟨rfl,fun h2=>h5 (h2 _ (awl _))⟩
 ·rintro x hx;simp only[nI];rw[bK (by rw[dm];simp),af];rwa[awq]at hx
 rintro w hw;cases w with
 |inl b=>
  obtain⟨rfl,hn⟩:=hw;simp only[dK,af];exact⟨fun h=>(by cases h),fun hR=>absurd hR.fine.lims hn⟩
 |inr b=>
 simp only[dK];refine Wq.bind (Q:=fun w:Bool ⊕ Bool=>match w with | .inl b=>b=false/\¬∀x∈s.W,0<=x | .inr _=>∀x∈s.W,0<=x)
  (fG (n:=s.W.length) (step:=fun v:Int×Bool=>nN s v.1 v.2) l4 (fun i _=>∀x∈s.W.take i,0<=x) _ ?_ ?_ _ 0 (awm _) (by simp)) ?_
 ·rintro i q hi hx;simp only[nN];rw[au (by rw[dm];simpa using hi),au (inb _ i hi),aN _ i hi,xB];split
  ·rename_i h5;rw[af];exact⟨rfl,fun h2=>by have:=h2 _ (awl hi);omega⟩
  ·rename_i h5;rw[af];refine⟨aZ (by omega),fun x hx'=> ?_⟩;rcases(sQ hi).1 hx' with h6 | rfl
   ·exact hx x h6
   ·omega
 ·rintro x hx;simp only[nN];rw[bK (by rw[dm];simp),af];rwa[awq]at hx
 rintro v hv;cases v with
 |inl b=>
  obtain⟨rfl,hn⟩:=hv;simp only[dK,af];exact⟨fun h=>(by cases h),fun hR=>absurd hR.fine.W hn⟩
 |inr b=>
 simp only[dK];have hfine:ajK s:=⟨fun o h=>(ho o h).1,has,fun o h=>(ho o h).2,by omega,by omega,by omega,hw,hv⟩;have hall:∀o∈s.a,nV s o/\eY o:=fun o h=>⟨(ho o h).1,hr.a.1 o h⟩;refine Wq.bind (anu hs hall hr.cells) fun y hy=> ?_;rw[dF];refine⟨fun h=>(af _).2 ⟨fun h=>(by cases h),fun hR=> ?_⟩,fun h=> ?_⟩
 ·rw[aG]at h;have:y.2=true:=hy.1.2 ⟨by show ∀c∈dD s s.a,okC c;rw[<-hR.cells];exact hR.ok,by show QT s.t s.i (dD s s.a);rw[<-hR.cells];exact hR.acct⟩;rw[this]at h;cases h
 rw[aF]at h;have hfit:=hy.1.1 h;have hc:=hy.2 h;rw[hc];refine Wq.bind (ZB (l:=dD s s.a) (m:=s.cells) (iF _ _) (by rw[iF];exact l2) (step:=fun v:Int×Bool=>lZ (dD s s.a) s v.1 v.2) (fun i h hh q=> ?_) (fun q=> ?_) _) fun w hw=> ?_
 ·simp only[lZ];rw[au (by rw[dm];simpa using h),au (inb _ i h),au (inb _ i hh),aN _ i h,aN _ i hh,dF,af,af,aG,aF,aZ (by omega)];have:=agN (dD s s.a)[i] s.cells[i];simp only[aH,aQ,aX,bn,aG,aF,bg,bC,aY,bI,aI,aP,bG,bJ]at*;exact⟨fun h=>⟨fun e=>(by have:=this.2 e;grind),fun _=>trivial⟩,fun h=>⟨fun _=>trivial,fun e=>absurd (this.1 h) e⟩⟩
 ·simp only[lZ];rw[bK (by rw[show(((dD s s.a).length:Nat):Int)=len (dD s s.a)from rfl];simp [ilt])]
 cases w with
 |inl w=>
  obtain⟨rfl,h⟩:=hw;simp only[dK,af];exact⟨fun h=>(by cases h),fun hR=>absurd hR.cells.symm h⟩
 |inr w=>
  simp only[dK,af];have e:s.cells=dD s s.a:=Eq.symm hw;exact⟨fun _=>⟨hs,hfine,e,by rw[e];exact hfit.1,by rw[e];exact hfit.2⟩,fun _=>trivial⟩
theorem agk {r:iJ} (h:qf r) (hk:r.L=1):yJ r=some (iG r,true):=by
 unfold yJ;obtain⟨b,e,q⟩:=G5 r;rw[e,q.2 h,hk]
 rfl
theorem aeP {o:aC} {q p:Int} (h:wE o) (hr:eY o) (hq:1<=q) (hp:1<=p):
 Wq (wX o q p) fun r=>(wZ o->r=(rH o q p,0))/\(¬wZ o->r.2≠0):=by
 have hv:=hr.O
 unfold inI at hv
 have hpe:wJ o↔o.V≠0:=by
  have:=h.2.2.2.2.1
  unfold wJ at*
  constructor
  ·intro h1;have:=this h1;omega
  ·exact .inl
 unfold wX ay
 rw[zn,ai,awv h,aK,dI,nP (by omega),nP (by omega)]
 simp only[dI]
 unfold wZ
 rw[hpe,dn]
 by_cases h1:o.O=9223372036854775807
 ·rw[awh h1,af]
  exact⟨fun h=>by omega,fun _=>by simp⟩
 ·rw[awg h1,dF]
  refine⟨fun h2=>(af _).2 ⟨fun h3=> ?_,fun _=>by simp⟩,fun h2=>(af _).2 ⟨fun _=> ?_,fun h3=> ?_⟩⟩
  ·simp only[aH,aQ,aX,bn,aG,aF,bg,bC,aY,bI,aI,aP,bG,bJ]at h2
   rcases h2 with (h2 | h2) | h2
   ·omega
   ·exact absurd h2 h3.2.1
   ·rw[h3.2.2.1]at h2;cases h2
  ·rw[nY ⟨by omega,by omega⟩];rfl
  ·simp only[aH,aQ,aX,bn,aG,aF,bg,bC,aY,bI,aI,aP,bG,bJ]at h2
   exact absurd ⟨h2.1.1,by simpa using h2.1.2,h2.2,by omega⟩ h3
theorem akA {o:aC} (h:wE o) (h3:o.P≠3):wM o=some (if o.z6=true then (o,8)else (ape o,0)):=by
 unfold wM;rw[zn,ai,awv h,aK,aT,tH];by_cases ha:o.z6=true
 ·rw[awh (by simp only[aH,aQ,aX,bn,aG,aF,bg,bC,aY,bI,aI,aP,bG,bJ];exact .inl ha),awh ha]
 ·rw[awg (by simp only[aH,aQ,aX,bn,aG,aF,bg,bC,aY,bI,aI,aP,bG,bJ];rintro(h | h);exact ha h;exact h3 h),awg ha];rfl
theorem aim {o:aC} {n:dV} (h:wE o) (hr:eY o) (hn:qf (nZ n)) (hi:n.order=o.id) (hq:inI n.N):
 zF o n=some (match RI o n.Z n.N n.I with | some p=>(p,0) | none=>(o,8)):=by
 have hq1:=hr.N;have hf:=hr.H
 have h1:=h.2.1;have h2:=h.2.2.1
 unfold inI at hq1 hf hq
 have hpe:wJ o↔0<o.V:=by
  have:=h.2.2.2.2.1
  unfold wJ at*
  constructor
  ·intro h1;have:=this h1;omega
  ·exact fun h=> .inl (by omega)
 unfold zF aO ay
 obtain⟨b,e,q⟩:=G5 (nZ n)
 rw[zn,ai,awv h,aK,aW,aU,show Ci n=some (nZ n)from rfl,ai,aU,e,q.2 hn,ai,aK,dI,dI,bK (by rw[aF,aI];exact hi)]
 rw[nY (n:=o.N - o.H) ⟨by omega,by omega⟩]
 simp only[tH,aH,aQ,aX,bn,aG,aF,bg,bC,aY,bI,aI,aP,bG,bJ]
 unfold RI
 by_cases p1:o.P=1
 ·rw[awh p1]
  by_cases k1:n.Z=1
  ·rw[awh k1,awh ⟨p1,k1⟩];rfl
  ·rw[awg k1,awg (fun h=>k1 h.2)]
   by_cases k2:n.Z=2
   ·rw[awh k2,awh (.inl ⟨p1,k2⟩),awg (by omega)];rfl
   ·rw[awg k2,awg (by omega),awg (by omega),awg (by omega),awg (by omega)]
 ·rw[awg p1,awg (by omega)]
  by_cases p2:o.P=2
  ·rw[awh p2]
   by_cases k3:n.Z=3
   ·rw[awh k3,awg (by omega)]
    have hn1:1<=n.N:=by unfold qf nZ at hn;simp only at hn;omega
    by_cases c1:o.N - o.H<n.N
    ·rw[awh c1,awg (by omega),awg (by omega),awg (by omega)]
    ·rw[awg c1,awh ⟨⟨p2,k3⟩,by omega⟩]
     rw[nY ⟨by omega,by omega⟩]
     by_cases c2:o.H+n.N<o.N
     ·rw[awh c2,awh (by omega)];rfl
     ·rw[awg c2,awg (by omega)];rfl
   ·rw[awg k3]
    by_cases k4:n.Z=4
    ·rw[awh k4,awh (.inr ⟨p2,k4⟩),awg (by omega)];rfl
    ·rw[awg k4,awg (by omega),awg (by omega)]
     by_cases k5:n.Z=5
     ·rw[awh k5,awg (by omega)]
      by_cases c1:wJ o/\n.N=o.V/\n.I=o.U/\o.H<n.N
      ·rw[awh c1,awh ⟨⟨⟨⟨⟨p2,hpe.1 c1.1⟩,k5⟩,c1.2.1⟩,c1.2.2.1⟩,c1.2.2.2⟩];rfl
      ·rw[awg c1,awg fun h=>c1 ⟨hpe.2 h.1.1.1.1.2,h.1.1.2,h.1.2,h.2⟩]
     ·rw[awg k5]
      by_cases k6:n.Z=6
      ·rw[awh k6]
       by_cases c1:wJ o
       ·rw[awh c1,awh ⟨⟨p2,hpe.1 c1⟩,k6⟩];rfl
       ·rw[awg c1,awg (fun h=>c1 (hpe.2 h.1.2)),awg (by omega)]
      ·rw[awg k6,awg (by omega),awg (by omega)]
  ·rw[awg p2,awg (by omega),awg (by omega),awg (by omega),awg (by omega)]
theorem arU {s:aB} {r:iJ} (hm:Mc s r) (hr:iD s) (hrr:mG r) (hk:r.L=1\/r.L=2):
 Wq (pJ s r) fun y=>cnd (ax (ieq y.2 0)) (some (s,y.2)) (some (⟨y.1.t,y.1.i,y.1.a,y.1.cells,y.1.G,y.1.W,y.1.qJ,y.1.S,y.1.A,wr .i64 (ay s.B 1)⟩,0))=some (doS s r):=by
 obtain⟨hR,hrec,hlsn,hacc,hsym,hord⟩:=id hm
 have hs:=hR.sized
 obtain⟨lc,ll,lcp,lo⟩:=hs.lens
 have hz:=hR.fine
 have hl0:=hz.B
 have hwr:wr .i64 (ay s.B 1)=s.B+1:=aij hl0.1 hlsn
 have hall:∀o∈s.a,nV s o/\eY o:=fun o h=>⟨hz.ords o h,hr.a.1 o h⟩
 have hrec':=hrec
 unfold qf mg at hrec'
 have bad:∀e:Int,e≠0->cnd (ax (ieq e 0)) (some (s,e)) (some ((⟨s.t,s.i,s.a,s.cells,s.G,s.W,s.qJ,s.S,s.A,wr .i64 (ay s.B 1)⟩:aB),(0:Int)))=some (s,e):=fun e he=>by
  rw[au (by rw[aG,aP];exact he)]
 rw[hwr]
 rw[hwr]at bad
 unfold pJ
 unfold doS
 rw[awg (fun h:¬Mc s r=>h hm)]
 by_cases k1:r.L=1
 ·rw[awh k1,au (by rw[aI];exact k1),agk hrec k1,ai]
  by_cases hkill:s.qJ=true
  ·rw[au hkill,af,awh hkill]
   exact bad 5 (by decide)
  rw[bK (by simpa using hkill),awg hkill,akH]
  by_cases h64:s.a.length=64
  ·rw[awh (by simp only[len];omega),awh h64,af]
   exact bad 6 (by decide)
  rw[awg (by simp only[len];omega),awg h64,au (dW (by simp only[len];omega)),au (dW (by simp [len,aJ];omega))]
  obtain⟨ho,ho2⟩:=acC hrec k1
  have hro:=ack hrr
  have hmem:∀o∈aJ s.a [iG r],nV s o/\eY o:=fun o h=>by
   rcases awt.1 h with h | h
   ·exact hall o h
   ·rw[awC]at h
    subst h
    exact⟨⟨ho,by simp [iG],hacc,hsym⟩,hro⟩
  have hlen:(aJ s.a [iG r]).length<=64:=by simp [aJ];omega
  refine Wq.bind (amP hs hlen hmem hr.cells) fun y hy=> ?_
  rw[dF]
  unfold Vs
  have hfe:Zy (EJ s (aJ s.a [iG r]))↔Zy (⟨s.t,s.i,aJ s.a [iG r],dD s (aJ s.a [iG r]),s.G,s.W,s.qJ,r.order,s.A,s.B⟩:aB):=Iff.rfl
  refine⟨fun h=>(af _).2 ?_,fun h=> ?_⟩
  ·rw[aG]at h
   have hn:¬Zy (EJ s (aJ s.a [iG r])):=fun hf=>by rw[hy.1.2 hf]at h;cases h
   rw[awh (fun hf=>hn (hfe.2 hf))]
   exact bad 3 (by decide)
  ·rw[aF]at h
   have hfit:=hy.1.1 h
   rw[hy.2 h,awg (fun hf=>hf (hfe.1 hfit))]
   have ht:qO (EJ s (aJ s.a [iG r])):=yc hs rfl rfl (iF _ _) rfl rfl hlen
   rw[ajX (t:=EJ s (aJ s.a [iG r])) hR ht rfl rfl hfit.1 hfit.2 (by omega) hacc (by omega) hsym,ai,sN]
   have hse:Oy s (EJ s (aJ s.a [iG r])) r.y r.z↔Oy s (⟨s.t,s.i,aJ s.a [iG r],dD s (aJ s.a [iG r]),s.G,s.W,s.qJ,r.order,s.A,s.B⟩:aB) r.y r.z:=Iff.rfl
   by_cases hst:Oy s (EJ s (aJ s.a [iG r])) r.y r.z
   ·rw[awh hst,awh (hse.1 hst),af]
    exact bad 4 (by decide)
   ·rw[awg hst,awg (fun h=>hst (hse.2 h)),au (by rw[aI];exact k1),af]
    rfl
 ·have k2:r.L=2:=hk.resolve_left k1
  rw[awg k1,awh k2,bK (by rw[aP];exact k1),aio s r.order (by omega),ai]
  cases hf:zu s.a r.order with
  |none=>
   rw[Kr hf,au (by decide),af]
   exact bad 7 (by decide)
  |some m=>
   obtain⟨hm1,hm2⟩:=ou hf
   have hra:1<=r.N/\1<=r.I:=by omega
   rw[Gg hf,bK (nP (by omega)),au (inb _ m hm1),aN _ m hm1]
   simp only[wI _ m hm1]
   have hoi:=hz.ords _ (awl hm1)
   have hro:=hr.a.1 _ (awl hm1)
   refine Wq.bind (aeP hoi.1 hro hra.1 hra.2) fun y hy=> ?_
   by_cases hch:wZ s.a[m]
   case neg=>
    rw[awh hch,au (by rw[aG,aP];exact hy.2 hch),af]
    exact bad 8 (by decide)
   rw[awg (fun h:¬wZ s.a[m]=>h hch),hy.1 hch]
   simp only[mD,aK,aT]
   by_cases hkill:s.qJ=true
   ·rw[au hkill,af,awh hkill]
    exact bad 5 (by decide)
   rw[bK (by simpa using hkill),awg hkill,atx hm1 (by omega),ai]
   have hpo:=Zv hoi.1 hch hra.1 hra.2
   have hpr:=Zh hro hch hrr.N hrr.I
   have hmem:∀o∈s.a.set m (rH s.a[m] r.N r.I),nV s o/\eY o:=fun o h=>by
    rcases lI h with h | rfl
    ·exact hall o h
    ·exact⟨⟨hpo,hoi.2.1,hoi.2.2.1,hoi.2.2.2⟩,hpr⟩
   have hlen:(s.a.set m (rH s.a[m] r.N r.I)).length<=64:=by simp;omega
   refine Wq.bind (amP hs hlen hmem hr.cells) fun z hz'=> ?_
   rw[dF,Si]
   unfold Vs
   refine⟨fun h=>(af _).2 ?_,fun h=> ?_⟩
   ·rw[aG]at h
    have hn:¬Zy (EJ s (s.a.set m (rH s.a[m] r.N r.I))):=fun hf=>by rw[hz'.1.2 hf]at h;cases h
    rw[awh hn]
    exact bad 3 (by decide)
   ·rw[aF]at h
    have hfit:=hz'.1.1 h
    rw[hz'.2 h,awg (fun hf=>hf hfit)]
    have ht:qO (EJ s (s.a.set m (rH s.a[m] r.N r.I))):=yc hs rfl rfl (iF _ _) rfl rfl hlen
    show Wq (ah (mP s (EJ s (s.a.set m (rH s.a[m] r.N r.I))) s.a[m].y s.a[m].z) _) _
    rw[ajX hR ht rfl rfl hfit.1 hfit.2 hoi.1.1.2.1.1 hoi.2.2.1 hoi.1.1.2.2.1.1 hoi.2.2.2,ai,sN]
    by_cases hst:Oy s (EJ s (s.a.set m (rH s.a[m] r.N r.I))) s.a[m].y s.a[m].z
    ·rw[awh hst,awh hst,af]
     exact bad 4 (by decide)
    ·rw[awg hst,awg hst,bK (by rw[aP];exact k1),af]
     rfl
theorem arx (l:List aC) (m:Nat) (p x:aC) (a:List aC) (c:Prop) [Decidable c] (ha:a=if c then l.eraseIdx m else l.set m p):
 (l.length≠m->(if c then (l++[x]).eraseIdx m else (l++[x]).set m p)=a++[x])/\(l.length=m->(if c then (l++[x]).eraseIdx m else (l++[x]).set m p)=if c then a else a++[p]):=by
 subst ha
 constructor
 ·intro h
  split
  ·by_cases hlt:m<l.length
   ·rw[List.eraseIdx_append_of_lt_length hlt]
   ·rw[azg (l:=l++[x]) (by simp;omega),azg (l:=l) (by omega)]
  ·by_cases hlt:m<l.length
   ·rw[List.set_append_left _ _ hlt]
   ·rw[azh (l:=l++[x]) (by simp;omega),azh (l:=l) (by omega)]
 ·intro h
  split
  ·rw[azu (by omega),azg (l:=l) (by omega),show m - l.length=0 by omega];simp
  ·rw[List.set_append_right _ _ (by omega),azh (l:=l) (by omega),show m - l.length=0 by omega];simp
theorem arV {s:aB} {r:iJ} (hm:Mc s r) (hr:iD s) (hrr:mG r) (hk:r.L=6):
 Wq (tq s r) fun y=>cnd (ax (ieq y.2 0)) (some (s,y.2)) (some (⟨y.1.t,y.1.i,y.1.a,y.1.cells,y.1.G,y.1.W,y.1.qJ,y.1.S,y.1.A,wr .i64 (ay s.B 1)⟩,0))=some (doS s r):=by
 have hright0:=agT hm.1 hr hrr
 obtain⟨hR,hrec,hlsn,hacc,hsym,hord⟩:=id hm
 have hs:=hR.sized
 obtain⟨lc,ll,lcp,lo⟩:=hs.lens
 have hz:=hR.fine
 have hl0:=hz.B
 have hq0:=hz.A
 have hwr:wr .i64 (ay s.B 1)=s.B+1:=aij hl0.1 hlsn
 have hall:∀o∈s.a,nV s o/\eY o:=fun o h=>⟨hz.ords o h,hr.a.1 o h⟩
 have hrec':=hrec
 unfold qf mg at hrec'
 rw[hwr]
 unfold tq
 unfold doS
 rw[awg (fun h:¬Mc s r=>h hm),awg (by omega),awg (by omega),awg (by omega),awg (by omega),awg (by omega)]
 have hws:wr .i64 (aO r.A 1)=r.A - 1:=by unfold aO;exact bf (by omega) (by omega)
 rw[hws,cO,dn]
 by_cases c1:r.A=s.A+1
 case neg=>
  rw[awg (by omega),awh c1,af];rfl
 rw[awh (by omega),awg (fun h:r.A≠s.A+1=>h c1),aio s r.order (by omega),ai]
 cases hf:zu s.a r.order with
 |none=>
  rw[Kr hf,au (by decide),af];rfl
 |some m=>
  obtain⟨hm1,hm2⟩:=ou hf
  rw[Gg hf,bK (nP (by omega)),au (inb _ m hm1),aN _ m hm1]
  simp only[wI _ m hm1]
  have hoi:=hz.ords _ (awl hm1)
  have hro:=hr.a.1 _ (awl hm1)
  have hnote:qf (nZ ⟨r.A,r.Z,r.order,r.N,r.I⟩):=by
   refine .inr (.inr (.inr (.inr (.inr ⟨rfl,?_⟩))))
   rcases hrec with h | h | h | h | h | h
   ·omega
   ·omega
   ·omega
   ·omega
   ·omega
   ·exact⟨h.2.1,rfl,rfl,rfl,rfl,rfl,rfl,rfl,h.2.2.2.2.2.2.2.2.2⟩
  rw[aim hoi.1 hro hnote hm2.symm hrr.N]
  cases ht:RI s.a[m] r.Z r.N r.I with
  |none=>
   simp only[ai]
   rw[au (by decide),af];rfl
  |some p=>
   simp only[ai,mD,aK,aT]
   have hd:(doS s r).1=evS s r m p:=by
    unfold doS
    rw[awg (fun h:¬Mc s r=>h hm),awg (by omega),awg (by omega),awg (by omega),awg (by omega),awg (by omega),awg (fun h:r.A≠s.A+1=>h c1)]
    simp only[hf,wI _ m hm1,ht]
   have hright:iH (evS s r m p):=by rw[<-hd];exact hright0
   have hq3:r.Z=3->1<=r.N:=fun h=>by omega
   have hp:=aiz hoi.1 hro ht hq3 (fun h=>by omega) hrr.N hrr.I
   obtain⟨k,g1,g2,g3⟩:=ad8 hs hoi
   have hat:atZ s.i p=(k:Int):=by unfold atZ;rw[hp.y,hp.z];exact g2
   unfold dJ at g1
   have g1:=awr g1
   refine Wq.bind (Q:=fun l=>l=if p.P=3 then s.a.eraseIdx m else s.a.set m p)
    (fG (n:=s.a.length) (step:=fun v:Int×List aC=>kK (m:Int) p s v.1 v.2) (by omega)
      (fun i x=>x=if p.P=3 then (s.a.take i).eraseIdx m else (s.a.take i).set m p) _ ?_ ?_ _ 0 (awm _) (by simp)) ?_
   ·rintro i x hi hx
    have hst:=arx (s.a.take i) m p s.a[i] x (p.P=3) hx
    have hlt:(s.a.take i).length=i:=by simp;omega
    rw[hlt]at hst
    rw[<-awQ hi]at hst
    have hxl:x.length<=64:=by
     rw[hx]
     split
     ·have:=ay5 (s.a.take i) m;omega
     ·simp;omega
    simp only[kK]
    rw[au (by rw[dm];simpa using hi),cO,dn]
    by_cases e:i=m
    ·rw[awh (by omega),cO,dn]
     rw[hst.2 e]
     by_cases h3:p.P=3
     ·rw[awh h3,awh h3,af]
      exact⟨aZ (by omega),rfl⟩
     ·rw[awg h3,awg h3,au (dW (by simp [aJ,len];omega)),af]
      exact⟨aZ (by omega),rfl⟩
    ·rw[awg (by omega),au (inb _ i hi),aN _ i hi,au (dW (by simp [aJ,len];omega)),af]
     exact⟨aZ (by omega),by rw[hst.1 (by omega)];rfl⟩
   ·rintro x hx
    simp only[kK]
    rw[bK (by rw[dm];simp),af]
    simp only[awq]at hx
    exact hx
   ·rintro l rfl
    have hacc':wr .i64 (ay (wr .i64 (dA p.y s.i)) p.z)=(k:Int):=by rw[hp.y,hp.z];exact g1
    have hmem:∀o∈(if p.P=3 then s.a.eraseIdx m else s.a.set m p),nV s o/\eY o:=fun o ho=>by
     split at ho
     ·exact hall o (azf ho)
     ·rename_i h3
      rcases lI ho with h | rfl
      ·exact hall o h
      ·exact⟨⟨hp.ord,h3,by rw[hp.y];exact hoi.2.2.1,by rw[hp.z];exact hoi.2.2.2⟩,hp.rng⟩
    have hlen:(if p.P=3 then s.a.eraseIdx m else s.a.set m p).length<=64:=by
     split
     ·have:=ay5 s.a m;omega
     ·simp;omega
    have fin:∀s':aB,s'.t=s.t->s'.i=s.i->s'.G=s.G->s'.W=s.W->s'.qJ=s.qJ->s'.S=s.S->s'.A=r.A->s'.cells.length=s.cells.length->s'.a.length<=64->okL TY s'.cells->s'.cells=(if r.Z=3 then aii s s.a[m] r.N else s.cells)->
     Wq (jr s' (if p.P=3 then s.a.eraseIdx m else s.a.set m p)) fun y=>cnd (ax (ieq ((y.1,(0:Int)).2) 0)) (some (s,(y.1,(0:Int)).2)) (some ((⟨y.1.t,y.1.i,y.1.a,y.1.cells,y.1.G,y.1.W,y.1.qJ,y.1.S,y.1.A,s.B+1⟩:aB),(0:Int)))=some (evS s r m p,0):=by
     intro s' h1 h2 h3 h4 h5 h6 h7 h8 h9 h10 h11
     have hs':qO s':=yc hs h1 h2 h8 (by rw[h3]) (by rw[h4]) h9
     have hmem':∀o∈(if p.P=3 then s.a.eraseIdx m else s.a.set m p),nV s' o/\eY o:=fun o ho=>by
      obtain⟨⟨a1,a2,a3,a4⟩,a5⟩:=hmem o ho
      exact⟨⟨a1,a2,by omega,by omega⟩,a5⟩
     refine(amP hs' hlen hmem' h10).mono fun y hy=> ?_
     have hev:evS s r m p=⟨s.t,s.i,(if p.P=3 then s.a.eraseIdx m else s.a.set m p),dD s' (if p.P=3 then s.a.eraseIdx m else s.a.set m p),s.G,s.W,s.qJ,s.S,r.A,s.B+1⟩:=by
      unfold evS EJ
      simp only[wI _ m hm1,Si]
      congr 1
      unfold dD
      simp only[h2,h11]
     have hfit:Zy (EJ s' (if p.P=3 then s.a.eraseIdx m else s.a.set m p)):=by
      have a1:=hright.ok;have a2:=hright.acct
      simp only[hev]at a1 a2
      refine⟨a1,?_⟩
      show QT s'.t s'.i _
      rw[h1,h2];exact a2
     have hy2:=hy.2 (hy.1.2 hfit)
     rw[hy2,hev]
     simp only[mD,aK,aT,EJ,h1,h2,h3,h4,h5,h6,h7]
    have hck:F5 s.cells[k]:=hr.cells.1 _ (awl g3)
    rw[dn]
    by_cases h3:r.Z=3
    ·rw[awh h3,au (dW (by simp only[len];omega)),hacc']
     have hside:=hoi.1.1.2.2.2.1
     have hpk:=(hR.ok _ (awl g3))
     rw[hp.X,dn]
     obtain⟨hev1,hev2⟩:=adL hR hr m hm1 k g3 g2 hp hq3
     have hev3:=hev2 h3
     have hpos:=hev3.1.pos
     simp only at hpos
     have hmov:aii s s.a[m] r.N=s.cells.set k ⟨if s.a[m].X=1 then s.cells[k].pos+r.N else s.cells[k].pos - r.N,s.cells[k].buy,s.cells[k].qK,s.cells[k].opn⟩:=by
      unfold aii
      rw[g2,aN _ k g3,MK]
     simp only[au (inb _ k g3),aN _ k g3,MK]
     by_cases hsd:s.a[m].X=1
     ·rw[awh hsd]
      rw[awh hsd]at hpos hmov
      have hwp:wr .i64 (ay s.cells[k].pos r.N)=s.cells[k].pos+r.N:=nY hpos
      rw[hwp,jI]
      refine(fin ⟨s.t,s.i,s.a,s.cells.set k ⟨s.cells[k].pos+r.N,s.cells[k].buy,s.cells[k].qK,s.cells[k].opn⟩,s.G,s.W,s.qJ,s.S,r.A,s.B⟩ rfl rfl rfl rfl rfl rfl rfl (by simp) lo (Yf hr.cells ⟨hpos,hck.buy,hck.qK,hck.opn⟩) (by rw[awh h3,hmov])).mono fun y hy=>(af _).2 hy
     ·rw[awg hsd]
      rw[awg hsd]at hpos hmov
      have hwp:wr .i64 (aO s.cells[k].pos r.N)=s.cells[k].pos - r.N:=nY hpos
      rw[hwp,jI]
      refine(fin ⟨s.t,s.i,s.a,s.cells.set k ⟨s.cells[k].pos - r.N,s.cells[k].buy,s.cells[k].qK,s.cells[k].opn⟩,s.G,s.W,s.qJ,s.S,r.A,s.B⟩ rfl rfl rfl rfl rfl rfl rfl (by simp) lo (Yf hr.cells ⟨hpos,hck.buy,hck.qK,hck.opn⟩) (by rw[awh h3,hmov])).mono fun y hy=>(af _).2 hy
    ·rw[awg h3,jI]
     refine(fin ⟨s.t,s.i,s.a,s.cells,s.G,s.W,s.qJ,s.S,r.A,s.B⟩ rfl rfl rfl rfl rfl rfl rfl rfl lo hr.cells (by rw[awg h3])).mono fun y hy=>(af _).2 hy
theorem avo {s:aB} {r:iJ} (hr:iD s) (hrr:mG r) (hsh:sG s):yI s r=some (doS s r):=by
 refine Wq.eq ?_;unfold yI;refine(ajj hr hsh).bind fun b0 h0=> ?_;refine Wq.bind (Q:=fun b=>b=true↔(b0=true/\qf r)) ?_ fun b1 h1=> ?_
 ·rw[dF];refine⟨fun h=>(G5 r).mono fun b hb=> ?_,fun h=>(af _).2 ?_⟩
  ·simp only[aH,aQ,aX,bn,aG,aF,bg,bC,aY,bI,aI,aP,bG,bJ]at h;rw[hb];simp [h]
  ·simp only[aH,aQ,aX,bn,aG,aF,bg,bC,aY,bI,aI,aP,bG,bJ]at h;simp [h]
 have hmay:(bor (bor (bor (bor (bor (ax b0) (ax b1)) (ile 1000000000 s.B)) (ile s.t r.y)) (ile s.i r.z)) (band (ieq r.L 1) (ile r.order s.S))=true)↔¬Mc s r:=by
  unfold Mc;simp only[aH,aQ,aX,bn,aG,aF,bg,bC,aY,bI,aI,aP,bG,bJ];rw[<-h0];constructor
  ·rintro(((((h | h) | h) | h) | h) | ⟨h,h'⟩) ⟨a1,a2,a3,a4,a5,a6⟩
   ·rw[a1]at h;cases h
   ·rw[h1.2 ⟨a1,a2⟩]at h;cases h
   ·omega
   ·omega
   ·omega
   ·have:=a6 h;omega
  ·intro h;by_cases a1:b0=true
   case neg=>exact .inl (.inl (.inl (.inl (.inl (by simpa using a1)))))
   by_cases a2:qf r
   case neg=>exact .inl (.inl (.inl (.inl (.inr (by cases e:b1 with | true=>exact absurd (h1.1 e).2 a2 | false=>rfl)))))
   by_cases a3:s.B<1000000000
   case neg=>exact .inl (.inl (.inl (.inr (by omega))))
   by_cases a4:r.y<s.t
   case neg=>exact .inl (.inl (.inr (by omega)))
   by_cases a5:r.z<s.i
   case neg=>exact .inl (.inr (by omega))
   refine .inr ?_;by_cases a6:r.L=1
   ·exact⟨a6,by by_cases a7:s.S<r.order;exact absurd ⟨a1,a2,a3,a4,a5,fun _=>a7⟩ h;omega⟩
   ·exact absurd ⟨a1,a2,a3,a4,a5,fun h=>absurd h a6⟩ h
 rw[tH];by_cases hm:Mc s r
 case neg=>
  rw[awh (hmay.2 hm),af];unfold doS;rw[awh hm]
 rw[awg (fun h=>hmay.1 h hm)];obtain⟨hR,hrec,hlsn,hacc,hsym,hord⟩:=id hm;have hs:=hR.sized;obtain⟨lc,ll,lcp,lo⟩:=hs.lens;have h1a:=hs.1;have h1b:=hs.2.1;have hz:=hR.fine;have hl0:=hz.B;have hwr:wr .i64 (ay s.B 1)=s.B+1:=aij hl0.1 hlsn;have hrec':=hrec;unfold qf mg at hrec';have ask:r.L=1\/r.L=2->Wq (ah (pJ s r) fun y2=>cnd (ax (ieq y2.2 0)) (some (s,y2.2)) (some (aB.mk y2.1.t y2.1.i y2.1.a y2.1.cells y2.1.G y2.1.W y2.1.qJ y2.1.S y2.1.A (wr .i64 (ay s.B 1)),0))) fun x=>x=doS s r:=fun hk=>
  Wq.bind (arU hm hr hrr hk) fun y hy=>by rw[hy];exact(af _).2 rfl
 rw[dn];by_cases k1:r.L=1
 ·rw[awh k1,au (by rw[aI];exact k1)];exact ask (.inl k1)
 rw[awg k1,dn];by_cases k2:r.L=2
 ·rw[awh k2];exact ask (.inr k2)
 rw[awg k2,dn];by_cases k3:r.L=3
 ·rw[awh k3,aio s r.order (by omega),ai];unfold doS;rw[awg (fun h:¬Mc s r=>h hm),awg k1,awg k2,awh k3];cases hf:zu s.a r.order with
  |none=>rw[Kr hf,au (by decide),af]
  |some m=>
   obtain⟨hm1,hm2⟩:=ou hf;rw[Gg hf,bK (nP (by omega)),au (inb _ m hm1),aN _ m hm1];simp only[wI _ m hm1];have hoi:=hz.ords _ (awl hm1);rw[akA hoi.1 hoi.2.1,ai];by_cases ha:s.a[m].z6=true
   ·rw[awh ha,awh ha];exact(af _).2 rfl
   ·rw[awg ha,awg ha];simp only[mD,aK,aT];rw[atx hm1 (by omega),ai,af,hwr];rfl
 rw[awg k3,dn];by_cases k4:r.L=4
 ·rw[awh k4,dn];unfold doS;rw[awg (fun h:¬Mc s r=>h hm),awg k1,awg k2,awg k3,awh k4];by_cases hy:r.z= -1
  ·rw[awh hy,awh hy,au (dW (by simp only[len];omega)),au (Ae (dW (by omega)) (pO (by simp only[len];omega))),af,hwr]
  ·rw[awg hy,awg hy,au (dW (by simp only[len];omega))];obtain⟨k,g1,g2,g3⟩:=OW hs r.y r.z (by omega) hacc (by omega) hsym;unfold dJ at g1;have g1:=awr g1;rw[g1,au (inb _ k (by omega)),af,hwr,g2]
 rw[awg k4,dn];by_cases k5:r.L=5
 ·rw[awh k5,af,hwr];unfold doS;rw[awg (fun h:¬Mc s r=>h hm),awg k1,awg k2,awg k3,awg k4,awh k5]
 rw[awg k5];exact Wq.bind (arV hm hr hrr (by omega)) fun y hy=>by rw[hy];exact(af _).2 rfl
theorem Y8 {α β:Type} (l:List α) {i:Nat} (h:i<l.length) (x y z:β):cnd (ilt (i:Int) (len l)) (cnd (band (ile 0 (i:Int)) (ilt (i:Int) (len l))) x y) z=x:=by
 rw[au (b:=ilt _ _) (pO (by unfold len;omega)),au (inb l i h)]
theorem QK {α β:Type} (l:List α) (x y:β):cnd (ilt (l.length:Int) (len l)) x y=y:=bK (nP (by unfold len;omega))
def iY (n:Int):Nat->List Int
 |0=>[]
 |k+1=>(n / 256^k%256)::iY n k
theorem iT (n:Int):∀k,(iY n k).length=k
 |0=>rfl
 |k+1=>by rw[iY,awF,iT n k]
def jU (l:List Int):Prop:=∀x∈l,0<=x/\x<=255
theorem su (n:Int):∀k,jU (iY n k)
 |0=>by intro x hx;cases hx
 |k+1=>by
  intro x hx
  rcases aww.1 hx with rfl | hx
  ·have h1:=Int.emod_nonneg (n / 256^k) (b:=256) (by decide)
   have h2:=Int.emod_lt_of_pos (n / 256^k) (b:=256) (by decide)
   omega
  ·exact su n k x hx
theorem jU.app {a b:List Int} (h:jU a) (k:jU b):jU (a++b):=fun x hx=>by
 rcases awt.1 hx with h1 | h1
 ·exact h x h1
 ·exact k x h1
theorem jU.drop {l:List Int} (h:jU l) (n:Nat):jU (l.drop n):=fun x hx=>h x (axE hx)
theorem jU.take {l:List Int} (h:jU l) (n:Nat):jU (l.take n):=fun x hx=>h x (axo hx)
theorem jU.get {l:List Int} (h:jU l) {i:Nat} (hi:i<l.length):0<=l[i]/\l[i]<=255:=h _ (awl hi)
theorem JZ {α:Type} {f:α->List Int} {l:List α} (h:∀x∈l,jU (f x)):jU (l.flatMap f):=fun x hx=>by
 obtain⟨y,h1,h2⟩:=List.mem_flatMap.1 hx;exact h y h1 x h2
theorem Ef (n:Int):wr .u8 n=n%256:=by
 unfold wr IntKind.wrap;simp [IntKind.bits,IntKind.signed]
theorem ZO (n:Int):wr .u32 n=n%4294967296:=by
 unfold wr IntKind.wrap;simp [IntKind.bits,IntKind.signed]
theorem aiw {W X:Type} {step:Int×X->Option ((Int×X) ⊕ W)} {n:Nat} (hn:n<999999) (J:Nat->X->Prop) (R:W->Prop)
 (h:∀i x,i<n->J (i+1) x->Wq (step ((i:Int),x)) fun r=>match r with | .inl (k,x')=>k=(i:Int) - 1/\J i x' | .inr w=>R w)
 (he:∀x,J 0 x->Wq (step (-1,x)) fun r=>match r with | .inl _=>False | .inr w=>R w)
 (x:X) (hx:J n x):Wq (bU step LF ((n:Int) - 1,x)) R:=by
 refine Qs (fun v:Int×X=>(v.1+1).toNat) (fun v:Int×X=>∃i:Nat,v.1=(i:Int) - 1/\i<=n/\J i v.2) R ?_ LF _ (Zb (by simp only;omega)) ⟨n,rfl,awk _,hx⟩
 rintro⟨k,y⟩ ⟨i,rfl,hi,hj⟩
 cases i with
 |zero=>
  refine(he y hj).mono fun r hr=> ?_
  match r,hr with
  |.inl _,hr=>exact hr.elim
  |.inr w,hr=>exact hr
 |succ i=>
  have e:((i+1:Nat):Int) - 1=(i:Int):=by omega
  rw[e]
  refine(h i y (by omega) hj).mono fun r hr=> ?_
  match r,hr with
  |.inl (k,x'),hr=>
   obtain⟨rfl,h2⟩:=hr
   exact⟨⟨i,rfl,by omega,h2⟩,by simp only;omega⟩
  |.inr w,hr=>exact hr
theorem Yk {i:Nat} (h:i<1000000):wr .i64 (aO (i:Int) 1)=(i:Int) - 1:=by
 unfold aO;exact nY ⟨by omega,by omega⟩
theorem byte_of {n:Int} {i:Nat} (hi:i<8):ile 0 (wr .i64 (dA 8 (i:Int)))=true/\wr .u8 (dw .i64 n (wr .i64 (dA 8 (i:Int))))=n / 256^i%256:=by
 have h1:wr .i64 (dA 8 (i:Int))=((8*i:Nat):Int):=by
  unfold dA;rw[bf (by omega) (by omega)];omega
 have h2:min (((8*i:Nat):Int).toNat) (IntKind.bits .i64)=8*i:=by
  simp only[IntKind.bits,axh];omega
 rw[h1];refine⟨dW (by omega),?_⟩;unfold dw;rw[h2,Int.pow_mul,Ef,ayj _ (ayS (axy (by decide)))]
 rfl
theorem uo {α:Type} {l:List α} {n:Nat} (h:l.length<=n) (hn:n<68719476736):ile (len l) 68719476736=true:=dW (by unfold len;omega)
theorem ajm (n:Int) (k:Nat) (a:List Int):(a++iY n k).length=a.length+k:=by rw[awn,iT]
end Go.Av
