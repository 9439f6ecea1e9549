/- The plain law, part 1. No condition. -/
import Derived.Test.YtcodkbclgbcehaaGreatDoorPGateRight0
import Derived.KernelRfl
set_option linter.unusedVariables false
set_option linter.unusedSimpArgs false
set_option linter.unnecessarySimpa false
namespace Go.Av
open Go
theorem s_put {n:Int} {acc:List Int} (k:Nat) (hk:k<=8) (hl:acc.length<1000000):bU (fun v:Int×List Int=>wQ n v.1 v.2) LF ((k:Int) - 1,acc)=some (acc++iY n k):=by
 refine Wq.eq (aiw (n:=k) (by omega) (fun i x=>x++iY n i=acc++iY n k/\x.length+i=acc.length+k) _ (fun i x hi hj=> ?_) (fun x hj=> ?_) acc ⟨rfl,rfl⟩)
 ·obtain⟨h1,h2⟩:=byte_of (n:=n) (i:=i) (by omega);simp only;unfold wQ;rw[h2,au (dW (by omega)),au h1,au (uo (n:=1000100) (by simp only[aJ,awn,awF,axm];omega) (by decide)),af];refine⟨Yk (by omega),?_,?_⟩
  ·rw[<-hj.1];show(x++[_])++iY n i=x++(_::iY n i);rw[awT];rfl
  ·simp only[aJ,awn,awF,axm];omega
 ·simp only;unfold wQ;rw[bK (JA (by omega)),af];have:=hj.1;simpa [iY] using this
theorem ahe {acc:List Int} (k:Nat) (h0:0<k) (hk:k<=8) {l:List Int} (hl:acc.length+8*l.length<1000000):yY acc (k:Int) l=some (acc++l.flatMap fun n=>iY n k):=by
 have hn:l.length<999999:=by omega
 refine Wq.eq ?_;unfold yY;refine Wq.bind (Q:=fun y=>y=acc++l.flatMap fun n=>iY n k) ?_ fun y hy=>(af _).2 hy;refine fG hn (fun i x=>x=acc++(l.take i).flatMap (fun n=>iY n k)/\x.length=acc.length+k*i) _ (fun i x hi hj=> ?_) (fun x hj=> ?_) acc 0 (awm _) ⟨by simp,by simp⟩
 ·simp only;unfold EH;have hki:k*i<=8*i:=awH _ hk;rw[Y8 l hi,aN l i hi];have e:wr .i64 (aO (k:Int) 1)=(k:Int) - 1:=Yk (by omega);rw[e,s_put k hk (by omega),ai,af];refine⟨aZ (by omega),?_,?_⟩
  ·rw[awQ hi,axT,hj.1];simp
  ·rw[ajm,hj.2,Nat.mul_add];omega
 ·simp only;unfold EH;rw[QK,af,hj.1,awq]
theorem aly {acc:List Int} (k:Nat) (h0:0<k) (hk:k<=8) {l:List Int} (hl:acc.length+8*l.length<1000000):nT acc (k:Int) l=some (acc++l.flatMap fun n=>iY n k):=ahe k h0 hk hl
def unZ (l:List Int):Int:=l.foldl (fun n b=>n*256+b) 0
theorem apJ (l:List Int) (b:Int):unZ (l++[b])=unZ l*256+b:=by unfold unZ;rw[ayO];rfl
theorem auo (n c:Int):wr .i64 (wr .i64 n*256+c)=wr .i64 (n*256+c):=by
 unfold wr IntKind.wrap;simp [IntKind.bits,IntKind.signed];omega
theorem arl (n:Int):wr .i64 (n%18446744073709551616)=wr .i64 n:=by
 unfold wr IntKind.wrap;simp [IntKind.bits,IntKind.signed]
theorem ang (a c:Int) (h1:0<=c) (h2:c<=255):wr .i64 (ior .i64 (wr .i64 (sV .i64 a 8)) (wr .i64 c))=wr .i64 (a*256+c):=by
 have e1:sV .i64 a 8=a*256:=rfl;have e2:wr .i64 c=c:=bf h1 (by omega);rw[e1,e2,<-arl (a*256+c)];congr 1;unfold ior;rw[BitVec.toNat_or,ayP,ayP];have e3:((2^IntKind.bits .i64:Nat):Int)=18446744073709551616:=by decide
 rw[e3];have e4:wr .i64 (a*256)%18446744073709551616=((a%72057594037927936).toNat*256:Nat):=by
  have:wr .i64 (a*256)%18446744073709551616=a*256%18446744073709551616:=by
   unfold wr IntKind.wrap;simp [IntKind.bits,IntKind.signed];omega
  rw[this];omega
 have e5:c%18446744073709551616=(c.toNat:Int):=by omega
 rw[e4,e5,axh,axh];have e6:=Nat.shiftLeft_add_eq_or_of_lt (i:=8) (b:=c.toNat) (by omega) (a%72057594037927936).toNat;rw[Nat.shiftLeft_eq]at e6;rw[show(a%72057594037927936).toNat*256=(a%72057594037927936).toNat*2^8 from rfl,<-e6];omega
theorem aoi (l:List Int) (a:Int):l.foldl (fun n b=>n*256+b) a=a*256^l.length+unZ l:=by
 induction l generalizing a with
 |nil=>simp [unZ]
 |cons b l ih=>
  unfold unZ;rw[aw6,aw6,ih,ih (0*256+b),awF,axU];simp only[Int.zero_mul,Int.zero_add,ax6];rw[axd,ayQ 256];omega
theorem afY (b:Int) (l:List Int):unZ (b::l)=b*256^l.length+unZ l:=by
 have:=aoi l (0*256+b);unfold unZ at*;rw[aw6,this];simp
theorem adP:∀ {l:List Int},jU l->0<=unZ l/\unZ l<256^l.length
 |[],_=>by simp [unZ]
 |b::l,h=>by
  obtain⟨h1,h2⟩:=adP (l:=l) fun x hx=>h x (by simp [hx])
  obtain⟨b1,b2⟩:=h b (by simp)
  rw[afY,awF,axU]
  have hp:(0:Int)<256^l.length:=axy (by decide)
  have q1:0<=b*256^l.length:=aw2 b1 (by omega)
  have q2:b*256^l.length<=255*256^l.length:=axZ b2 (by omega)
  exact⟨by omega,by omega⟩
theorem aeO {m:Int}:∀(k:Nat) (n q:Int),m=n+q*256^k->iY m k=iY n k
 |0,_,_,_=>rfl
 |k+1,n,q,h=>by
  rw[axU]at h
  have hp:(256:Int)^k≠0:=by have:(0:Int)<256^k:=axy (by decide);omega
  have e:m=n+q*256*256^k:=by
   rw[h,<-axd,axd q,ayQ _ 256,<-axd]
  rw[iY,iY,aeO k n (q*256) e,e,Int.add_mul_ediv_right _ _ hp,ayQ q 256,Int.add_mul_emod_self_left]
theorem anx:∀ {l:List Int},jU l->iY (unZ l) l.length=l
 |[],_=>rfl
 |b::l,h=>by
  have hl:jU l:=fun x hx=>h x (by simp [hx])
  obtain⟨h1,h2⟩:=adP hl
  obtain⟨b1,b2⟩:=h b (by simp)
  have hp:(256:Int)^l.length≠0:=by have:(0:Int)<256^l.length:=axy (by decide);omega
  rw[awF,iY,aeO l.length (unZ l) b (by rw[afY,Int.add_comm]),anx hl,afY,Int.add_comm,Int.add_mul_ediv_right _ _ hp,Int.ediv_eq_zero_of_lt h1 h2]
  congr 1
  omega
theorem auG (n:Int):∃q,wr .i64 n=n+q*256^8:=by
 have:(256:Int)^8=18446744073709551616:=by decide
 rw[this];unfold wr IntKind.wrap;simp [IntKind.bits,IntKind.signed];exact⟨-((n+9223372036854775808) / 18446744073709551616),by omega⟩
theorem auz (n:Int):iY (wr .i64 n) 8=iY n 8:=by
 obtain⟨q,h⟩:=auG n;exact aeO 8 n q h
theorem aqW {l:List Int} (h:jU l) (hl:l.length=8):iY (wr .i64 (unZ l)) 8=l:=by
 rw[auz,<-hl,anx h]
abbrev B32:=BitVec 32
def hB (x:B32):B32:=(x >>> 1) ^^^ (if x.getLsbD 0 then 0xedb88320#32 else 0#32)
def hN:Nat->B32->B32
 |0,x=>x
 |n+1,x=>hN n (hB x)
theorem auY (x y:B32):hB (x ^^^ y)=hB x ^^^ hB y:=by
 unfold hB;rw[BitVec.ushiftRight_xor_distrib,azi];cases x.getLsbD 0<;>cases y.getLsbD 0<;>simp [BitVec.xor_assoc]
 ·rw[BitVec.xor_comm (y >>> 1)]
 ·rw[<-BitVec.xor_assoc (3988292384#32),BitVec.xor_comm (3988292384#32) (y >>> 1),BitVec.xor_assoc];simp
theorem ap6:∀(n:Nat) (x y:B32),hN n (x ^^^ y)=hN n x ^^^ hN n y
 |0,_,_=>rfl
 |n+1,x,y=>by rw[hN,hN,hN,auY,ap6 n]
theorem auC {y:B32} (h:y.getLsbD 31=false):hB (y <<< 1)=y:=by
 unfold hB;have h0:(y <<< 1).getLsbD 0=false:=by simp
 rw[h0];refine BitVec.eq_of_getLsbD_eq fun i hi=> ?_;simp only[azi,azj,azk];by_cases h31:i=31
 ·subst h31;have:y[31]=false:=by simpa using h
  simp [this]
 ·have:1+i<32:=by omega
  simp [this]
theorem ap4:∀(k:Nat) (y:B32),k<=32->(∀j,32 - k<=j->y.getLsbD j=false)->hN k (y <<< k)=y
 |0,y,_,_=>by simp [hN]
 |k+1,y,hk,h=>by
  have e:y <<< (k+1)=(y <<< k) <<< 1:=by rw[BitVec.shiftLeft_add]
  rw[hN,e,auC,ap4 k y (by omega) fun j hj=>h j (by omega)]
  rw[azk,h (31 - k) (by omega)]
  simp
theorem aeQ:∀(a b:Nat) (x:B32),hN (a+b) x=hN b (hN a x)
 |0,b,x=>by rw[axc];rfl
 |a+1,b,x=>by rw[Nat.add_right_comm,hN,hN,aeQ a]
theorem asJ (x:B32):hN 4 (x &&& 15#32) ^^^ (x >>> 4)=hN 4 x:=by
 have hs:=ap4 4 (x >>> 4) (by decide) fun j hj=>by
  rw[azj];exact BitVec.getLsbD_of_ge _ _ (by omega)
 have e:x=(x &&& 15#32) ^^^ ((x >>> 4) <<< 4):=by
  refine BitVec.eq_of_getLsbD_eq fun i hi=> ?_;simp only[azi,BitVec.getLsbD_and,azk,azj];by_cases h4:i<4
  ·have h15:(15#32).getLsbD i=true:=by
    have:i=0\/i=1\/i=2\/i=3:=by omega
    rcases this with rfl | rfl | rfl | rfl<;>rfl
   rw[h15];simp [h4]
  ·have h15:(15#32).getLsbD i=false:=by
    have:(15#32)=BitVec.ofNat 32 15:=rfl;rw[this,BitVec.getLsbD_ofNat];have:Nat.testBit 15 i=false:=Nat.testBit_lt_two_pow (axf (by decide:15<2^4) (ayD (by decide) (by omega)));simp [this]
   have:4+(i - 4)=i:=by omega
   rw[h15,this];simp [h4,hi]
 conv=>rhs;rw[e,ap6,hs]
def ofB (b:Int):B32:=BitVec.ofInt 32 b
def toI (x:B32):Int:=(x.toNat:Int)
theorem adU (x:B32):0<=toI x/\toI x<4294967296:=by
 have:=x.isLt;unfold toI;omega
theorem adV (x:B32):ofB (toI x)=x:=by
 apply BitVec.eq_of_toNat_eq;unfold ofB toI;rw[ayP];have:=x.isLt;omega
theorem atf {b:Int} (h1:0<=b) (h2:b<4294967296):toI (ofB b)=b:=by
 unfold ofB toI;rw[ayP];omega
theorem arb (x:B32):wr .u32 (toI x)=toI x:=by
 have:=adU x;rw[ZO];omega
theorem PV (x y:B32):wr .u32 (gX .u32 (toI x) (toI y))=toI (x ^^^ y):=by
 have:gX .u32 (toI x) (toI y)=toI (x ^^^ y):=by
  show((BitVec.ofInt 32 (toI x) ^^^ BitVec.ofInt 32 (toI y)).toNat:Int)=_;have h1:=adV x;have h2:=adV y;unfold ofB at h1 h2;rw[h1,h2];rfl
 rw[this,arb]
theorem ajw (x y:B32):wr .u32 (jT .u32 (toI x) (toI y))=toI (x &&& y):=by
 have:jT .u32 (toI x) (toI y)=toI (x &&& y):=by
  show((BitVec.ofInt 32 (toI x) &&& BitVec.ofInt 32 (toI y)).toNat:Int)=_;have h1:=adV x;have h2:=adV y;unfold ofB at h1 h2;rw[h1,h2];rfl
 rw[this,arb]
theorem anj (x:B32) (k:Nat) (hk:k<=32):dw .u32 (toI x) (k:Int)=toI (x >>> k):=by
 unfold dw toI;have:min ((k:Int).toNat) (IntKind.bits .u32)=k:=by simp only[IntKind.bits,axh];omega
 rw[this,ayj _ (ayS (axy (by decide))),BitVec.toNat_ushiftRight,Nat.shiftRight_eq_div_pow];simp
theorem afd {b:Int} (h1:0<=b) (h2:b<=255):wr .u32 b=toI (ofB b):=by
 rw[atf h1 (by omega),ZO];omega
theorem atw (x:B32):(toI x%2=1)↔x.getLsbD 0=true:=by
 unfold toI;rw[BitVec.getLsbD,Nat.testBit_zero];simp only[aw9];omega
theorem UD (x:B32):dQ (toI x)=some (toI (hN 4 x)):=by
 refine Wq.eq ?_;unfold dQ;refine Wq.bind (Q:=fun y=>y=toI (hN 4 x)) ?_ fun y hy=>(af _).2 hy;refine fG (n:=4) (by decide) (fun i v=>v=toI (hN i x)) _ (fun i v hi hj=> ?_) (fun v hj=> ?_) _ 0 (by decide) rfl
 ·subst hj;simp only;unfold KE;rw[au (pO (by omega))];have e1:(1:Int)=toI 1#32:=rfl;have e15:(3988292384:Int)=toI 3988292384#32:=rfl;have e2:dw .u32 (toI (hN i x)) 1=toI (hN i x >>> 1):=anj _ 1 (by decide);rw[e2,e15,PV];have hb:wr .u32 (jT .u32 (toI (hN i x)) 1)=toI (hN i x &&& 1#32):=by conv=>lhs;rw[e1,ajw]
  rw[hb,aeQ i 1];have hl:(ieq (toI (hN i x &&& 1#32)) 1=true)↔(hN i x).getLsbD 0=true:=by
   rw[aI,<-atw];unfold toI;have:(hN i x &&& 1#32).toNat=(hN i x).toNat%2:=by
    rw[BitVec.toNat_and];exact Nat.and_two_pow_sub_one_eq_mod _ 1
   rw[this];omega
  cases hc:ieq (toI (hN i x &&& 1#32)) 1 with
  |true=>
   rw[aU,af];refine⟨aZ (by omega),?_⟩;show _=toI (hB (hN i x));unfold hB;rw[awh (hl.1 hc)]
  |false=>
   rw[aT,af];refine⟨aZ (by omega),?_⟩;show _=toI (hB (hN i x));unfold hB;rw[awg (fun h=>by rw[hl.2 h]at hc;cases hc),BitVec.xor_zero]
 ·subst hj;simp only;unfold KE;rw[bK (nP (by omega)),af]
def ones:B32:=BitVec.allOnes 32
def acg (n:B32) (l:List Int):B32:=l.foldl (fun n b=>hN 8 (n ^^^ ofB b)) n
def zV (l:List Int):Int:=toI (ones ^^^ acg ones l)
theorem aj8 (n:B32) (a b:List Int):acg n (a++b)=acg (acg n a) b:=ayO
theorem agH {l:List Int} (hl:l.length<999999) (hb:jU l):Sr l=some (zV l):=by
 refine Wq.eq ?_;unfold Sr Zp;have e0:(4294967295:Int)=toI ones:=rfl;have e00:(0:Int)=toI 0#32:=rfl;have e15:(15:Int)=toI 15#32:=rfl;refine Wq.bind (Q:=fun y=>y=zV l) (Wq.bind (Q:=fun y=>y=toI (acg ones l)) ?_ fun y hy=> ?_) fun y hy=>(af _).2 hy
 ·have hi0:wr .u32 (gX .u32 4294967295 0)=toI ones:=by
   conv=>lhs;rw[e0,e00,PV]
   simp
  rw[hi0];refine fG hl (fun i v=>v=toI (acg ones (l.take i))) _ (fun i v hi hj=> ?_) (fun v hj=> ?_) _ 0 (awm _) rfl
  ·subst hj;simp only;unfold Kw;obtain⟨b1,b2⟩:=hb.get hi;have e4:∀x:B32,dw .u32 (toI x) 4=toI (x >>> 4):=fun x=>anj x 4 (by decide);rw[Y8 l hi,aN l i hi,afd b1 b2,PV,e15,ajw,UD,ai,e4,PV,asJ,ajw,UD,ai,e4,PV,asJ,af];refine⟨aZ (by omega),?_⟩;rw[awQ hi,aj8,<-aeQ]
   rfl
  ·subst hj;simp only;unfold Kw;rw[QK,af,awq]
 ·subst hy;rw[af]
  conv=>lhs;rw[e0,PV]
  rfl
theorem X5 {l:List Int} (hl:l.length<999999) (hb:jU l):oq l=some (zV l):=by
 refine Wq.eq ?_;unfold oq ES;have e0:(4294967295:Int)=toI ones:=rfl;have e00:(0:Int)=toI 0#32:=rfl;have e15:(3988292384:Int)=toI 3988292384#32:=rfl;refine Wq.bind (Q:=fun y=>y=zV l) (Wq.bind (Q:=fun y=>y=toI (acg ones l)) ?_ fun y hy=> ?_) fun y hy=>(af _).2 hy
 ·have hi0:wr .u32 (gX .u32 0 4294967295)=toI ones:=by
   conv=>lhs;rw[e0,e00,PV]
   simp
  rw[hi0];refine fG hl (fun i v=>v=toI (acg ones (l.take i))) _ (fun i v hi hj=> ?_) (fun v hj=> ?_) _ 0 (awm _) rfl
  ·subst hj;simp only;unfold vP;obtain⟨b1,b2⟩:=hb.get hi;rw[Y8 l hi,aN l i hi,afd b1 b2,PV];generalize hz:acg ones (l.take i) ^^^ ofB l[i]=z;refine Wq.bind (Q:=fun y=>y=toI (hN 8 z)) ?_ fun y hy=> ?_
   ·refine fG (n:=8) (by decide) (fun i v=>v=toI (hN i z)) _ (fun i v hi hj=> ?_) (fun v hj=> ?_) _ 0 (by decide) rfl
    ·subst hj;simp only;unfold sO;rw[au (pO (by omega)),aeQ i 1];have r0:=adU (hN i z);have q1:wr .u32 (AL (toI (hN i z)) 2)=toI (hN i z >>> 1):=by
      rw[<-anj _ 1 (by decide)];unfold AL dw;rw[axM r0.1,ZO,ayj _ (by decide)];show _=toI (hN i z) / 2^1;omega
     have hl:(ieq (ug (toI (hN i z)) 2) 1=true)↔(hN i z).getLsbD 0=true:=by
      rw[aI,<-atw];unfold ug;rw[axp r0.1]
     rw[q1,e15,PV];cases hc:ieq (ug (toI (hN i z)) 2) 1 with
     |true=>
      rw[aU,af];refine⟨aZ (by omega),?_⟩;show _=toI (hB (hN i z));unfold hB;rw[awh (hl.1 hc)]
     |false=>
      rw[aT,af];refine⟨aZ (by omega),?_⟩;show _=toI (hB (hN i z));unfold hB;rw[awg (fun h=>by rw[hl.2 h]at hc;cases hc),BitVec.xor_zero]
    ·subst hj;simp only;unfold sO;rw[bK (nP (by omega)),af]
   ·subst hy;rw[af];refine⟨aZ (by omega),?_⟩;rw[awQ hi,aj8,<-hz]
    rfl
  ·subst hj;simp only;unfold vP;rw[QK,af,awq]
 ·subst hy;rw[af]
  conv=>lhs;rw[e0,PV,BitVec.xor_comm]
  rfl
def tC (n:Int):List Int:=[n%256,n / 256%256,n / 65536%256,n / 16777216%256]
theorem ZX (n:Int):jU (tC n):=fun x hx=>by
 unfold tC at hx;simp only[aww,List.not_mem_nil,or_false]at hx;rcases hx with rfl | rfl | rfl | rfl<;>omega
def alv (b:Bool):Int:=if b then 1 else 0
theorem ahA (b:Bool):XT b=some (alv b):=by cases b<;>rfl
def p8 (l:List Int):List Int:=l.flatMap fun n=>iY n 8
def p1 (l:List Int):List Int:=l.flatMap fun n=>iY n 1
theorem flat_length {α β:Type} {f:α->List β} {m:Nat} (h:∀x,(f x).length=m):∀l:List α,(l.flatMap f).length=m*l.length
 |[]=>rfl
 |x::l=>by rw[aym,awn,h,flat_length h l,awF,Nat.mul_add,ayA,Nat.add_comm]
theorem uJ (l:List Int):(p8 l).length=8*l.length:=flat_length (fun x=>iT x 8) l
theorem OT (l:List Int):(p1 l).length=1*l.length:=flat_length (fun x=>iT x 1) l
theorem XQ (l:List Int):jU (p8 l):=JZ fun x _=>su x 8
theorem aiy (l:List Int):jU (p1 l):=JZ fun x _=>su x 1
def zl (o:aC):List Int:=p8 [o.id]++(p1 [o.y,o.z,o.X,o.P]++(p8 [o.N,o.I,o.H,o.V,o.U,o.O]++p1 [alv o.z6]))
def MF (c:bF):List Int:=p8 [c.pos]
def adB (l:jQ):List Int:=p8 [l.long,l.qX,l.opn]
def magic:List Int:=[115,110,97,102]
def headB (s:aB):List Int:=magic++(p1 [s.t,s.i,alv s.qJ,len s.a]++p8 [s.S,s.A,s.B])
def EL (s:aB):List Int:=headB s++(s.a.flatMap zl++(s.cells.flatMap MF++(s.G.flatMap adB++p8 s.W)))
def encZ (s:aB):List Int:=EL s++tC (zV (EL s))
theorem Gh (o:aC):(zl o).length=61:=by simp [zl,uJ,OT]
theorem SX (c:bF):(MF c).length=8:=by simp [MF,uJ]
theorem aei (c:jQ):(adB c).length=24:=by simp [adB,uJ]
theorem acj (s:aB):(headB s).length=32:=by simp [headB,magic,uJ,OT]
theorem aci (s:aB):(EL s).length=32+61*s.a.length+8*s.cells.length+24*s.G.length+8*s.W.length:=by
 simp only[EL,awn,acj,flat_length Gh,flat_length SX,flat_length aei,uJ];omega
theorem aaJ (s:aB):(encZ s).length=36+61*s.a.length+8*s.cells.length+24*s.G.length+8*s.W.length:=by
 simp only[encZ,awn,aci,tC,awF,axm];omega
theorem alW:jU magic:=fun x hx=>by
 simp only[magic,aww,List.not_mem_nil,or_false]at hx;rcases hx with rfl | rfl | rfl | rfl<;>decide
theorem aki (o:aC):jU (zl o):=(XQ _).app ((aiy _).app ((XQ _).app (aiy _)))
theorem aae (s:aB):jU (EL s):=
 (alW.app ((aiy _).app (XQ _))).app ((JZ fun o _=>aki o).app ((JZ fun c _=>XQ _).app ((JZ fun c _=>XQ _).app (XQ _))))
theorem Ru (s:aB):jU (encZ s):=(aae s).app (ZX _)
theorem aoL {acc l:List Int} (h:acc.length+8*l.length<1000000):nT acc 8 l=some (acc++p8 l):=aly 8 (by decide) (by decide) h
theorem atW {acc l:List Int} (h:acc.length+8*l.length<1000000):yY acc 1 l=some (acc++p1 l):=ahe 1 (by decide) (by decide) h
theorem iH.few {s:aB} (h:iH s):s.a.length<=64/\s.cells.length<=64/\s.G.length=s.cells.length/\s.W.length=s.t.toNat/\s.t.toNat<=8/\(s.cells.length:Int)=s.t*s.i/\(1<=s.t/\s.t<=8)/\(1<=s.i/\s.i<=8):=by
 obtain⟨h1,h2,h3,h4⟩:=h.sized.lens;have:=h.sized.1;exact⟨h4,h1,h2,h3,by omega,h.sized.2.2.1,this,h.sized.2.1⟩
theorem al0 {a b n:Int} (ha:1<=a/\a<=8) (hb:1<=b/\b<=8) (hn:0<=n/\n<=255):Ue a b n=some (36+n*61+a*b*32+a*8):=by
 unfold Ue ay dA;have m:=Dz (a:=a) (b:=b) (by omega) (by omega) (by omega) (by omega);rw[bf (n:=n*61) (by omega) (by omega),bf (n:=32+n*61) (by omega) (by omega),bf (n:=a*b) (by omega) (by omega),bf (n:=a*b*32) (by omega) (by omega),bf (n:=32+n*61+a*b*32) (by omega) (by omega),bf (n:=a*8) (by omega) (by omega),bf (n:=32+n*61+a*b*32+a*8) (by omega) (by omega),bf (by omega) (by omega)];congr 1;omega
theorem amG {s:aB} (hr:iD s) (hsh:sG s) (h:iH s):JW s=some (len (encZ s)):=by
 refine Wq.eq ?_;unfold JW;refine(MW s hr hsh.1 hsh.2.2.1 hsh.2.2.2).bind fun b hb=> ?_;obtain⟨f1,f2,f3,f4,f5,f6,f7,f8⟩:=h.few;rw[hb.2 h,aK,aT,al0 f7 f8 (by unfold len;omega),ai,af];unfold len;rw[aaJ,<-f6];omega
theorem ael {s:aB} (hr:iD s) (hsh:sG s) (h:¬iH s):JW s=some 0:=by
 refine Wq.eq ?_;unfold JW;refine(MW s hr hsh.1 hsh.2.2.1 hsh.2.2.2).bind fun b hb=> ?_;have:b=false:=by cases b with
  |false=>rfl
  |true=>exact absurd (hb.1 rfl) h
 subst this;rw[aW,aU,af]
theorem Xv {n:Int} {i:Nat} (hi:i<4):ile 0 (wr .i64 (dA 8 (i:Int)))=true/\wr .u8 (dw .u32 n (wr .i64 (dA 8 (i:Int))))=n / 256^i%256:=by
 have h1:wr .i64 (dA 8 (i:Int))=((8*i:Nat):Int):=by
  unfold dA;rw[bf (by omega) (by omega)];omega
 have h2:min (((8*i:Nat):Int).toNat) (IntKind.bits .u32)=8*i:=by
  simp only[IntKind.bits,axh];omega
 rw[h1];refine⟨dW (by omega),?_⟩;unfold dw;rw[h2,Int.pow_mul,Ef,ayj _ (ayS (axy (by decide)))]
 rfl
theorem ak9 (n:Int) {i:Nat} (hi:i<4):(tC n)[i]'(by simpa [tC] using hi)=n / 256^i%256:=by
 have:i=0\/i=1\/i=2\/i=3:=by omega
 rcases this with rfl | rfl | rfl | rfl
 ·have:(256:Int)^0=1:=rfl;simp only[tC,this,ayW];omega
 ·rfl
 ·rfl
 ·rfl
theorem abY (n:Int) {i:Nat} (hi:i<4) (acc:List Int):acc++(tC n).take i++[n / 256^i%256]=acc++(tC n).take (i+1):=by
 rw[awQ (by simpa [tC] using hi),ak9 n hi,awT]
theorem aiM {s:aB} (hr:iD s) (hsh:sG s) (h:iH s):ED s=some (encZ s,0):=by
 refine Wq.eq ?_;obtain⟨f1,f2,f3,f4,f5,f6,f7,f8⟩:=h.few;have hel:=aaJ s;unfold ED;have hz:ieq (len (encZ s)) 0=false:=by rw[aP];unfold len;omega
 have hm:aJ (sK Int 0) (s2u [UInt8.ofNat 115,UInt8.ofNat 110,UInt8.ofNat 97,UInt8.ofNat 102])=magic:=by decide
 rw[amG hr hsh h,ai,hz,aT,au (Ae (dW (by unfold len;omega)) (dW (by unfold len;omega))),ahA,ai,hm,atW (by simp [magic]),ai,
  aoL (by simp [magic,OT]),ai]
 have hhead:magic++p1 [s.t,s.i,alv s.qJ,len s.a]++p8 [s.S,s.A,s.B]=headB s:=by rw[headB,awT]
 rw[hhead];have hl0:=acj s;refine Wq.bind (Q:=fun y=>y=headB s++s.a.flatMap zl) ?_ fun y hy=> ?_
 ·refine fG (n:=s.a.length) (by omega) (fun i x=>x=headB s++(s.a.take i).flatMap zl) _ (fun i x hi hj=> ?_) (fun x hj=> ?_) _ 0 (awm _) (by simp)
  ·simp only;unfold Di;have hx:x.length=32+61*i:=by
    rw[hj,awn,hl0,flat_length Gh,awu];omega
   rw[Y8 s.a hi,aN _ i hi,aoL (by simp;omega),ai,atW (by simp [uJ];omega),ai,aoL (by simp [uJ,OT];omega),ai,ahA,ai,atW (by simp [uJ,OT];omega),ai,af];refine⟨aZ (by omega),?_⟩;rw[awQ hi,axT,hj];simp [zl]
  ·simp only;unfold Di;rw[QK,af,hj,awq]
 subst hy;refine Wq.bind (Q:=fun y=>y=headB s++s.a.flatMap zl++s.cells.flatMap MF) ?_ fun y hy=> ?_
 ·refine fG (n:=s.cells.length) (by omega) (fun i x=>x=headB s++s.a.flatMap zl++(s.cells.take i).flatMap MF) _ (fun i x hi hj=> ?_) (fun x hj=> ?_) _ 0 (awm _) (by simp)
  ·simp only;unfold C9;have hx:x.length=32+61*s.a.length+8*i:=by
    rw[hj,awn,awn,hl0,flat_length Gh,flat_length SX,awu];omega
   rw[Y8 s.cells hi,aN _ i hi,aoL (by simp;omega),ai,af];refine⟨aZ (by omega),?_⟩;rw[awQ hi,axT,hj];simp [MF]
  ·simp only;unfold C9;rw[QK,af,hj,awq]
 subst hy;refine Wq.bind (Q:=fun y=>y=headB s++s.a.flatMap zl++s.cells.flatMap MF++s.G.flatMap adB) ?_ fun y hy=> ?_
 ·refine fG (n:=s.G.length) (by omega) (fun i x=>x=headB s++s.a.flatMap zl++s.cells.flatMap MF++(s.G.take i).flatMap adB) _ (fun i x hi hj=> ?_) (fun x hj=> ?_) _ 0 (awm _) (by simp)
  ·simp only;unfold CZ;have hx:x.length=32+61*s.a.length+8*s.cells.length+24*i:=by
    rw[hj,awn,awn,awn,hl0,flat_length Gh,flat_length SX,flat_length aei,awu];omega
   rw[Y8 s.G hi,aN _ i hi,aoL (by simp;omega),ai,af];refine⟨aZ (by omega),?_⟩;rw[awQ hi,axT,hj];simp [adB]
  ·simp only;unfold CZ;rw[QK,af,hj,awq]
 subst hy;have hbl:=aci s;have hb:headB s++s.a.flatMap zl++s.cells.flatMap MF++s.G.flatMap adB++p8 s.W=EL s:=by simp [EL]
 rw[aoL (by
  have:=axg List.length hb;rw[awn,uJ]at this
  omega),ai,hb,agH (by omega) (aae s),ai]
 refine Wq.bind (Q:=fun y=>y=encZ s) ?_ fun y hy=>by rw[af,hy]
 refine fG (n:=4) (by decide) (fun i x=>x=EL s++(tC (zV (EL s))).take i) _ (fun i x hi hj=> ?_) (fun x hj=> ?_) _ 0 (by decide) (by simp)
 ·simp only;unfold AA;obtain⟨q1,q2⟩:=Xv (n:=zV (EL s)) hi;have hx:x.length<=(EL s).length+4:=by
   rw[hj,awn,awu];omega
  rw[au (pO (by omega)),au q1,q2,au (uo (n:=1000000) (by simp [aJ];omega) (by decide)),af];refine⟨aZ (by omega),?_⟩;rw[hj];exact abY _ hi _
 ·simp only;unfold AA;rw[bK (nP (by omega)),af,hj]
  rfl
theorem acp {s:aB} (hr:iD s) (hsh:sG s) (h:¬iH s):ED s=some ([],1):=by
 unfold ED;rw[ael hr hsh h,ai]
 rfl
theorem abD (n:Int) {j:Nat} (hj:j<8):n%18446744073709551616 / 256^j%256=n / 256^j%256:=by
 have:j=0\/j=1\/j=2\/j=3\/j=4\/j=5\/j=6\/j=7:=by omega
 rcases this with rfl | rfl | rfl | rfl | rfl | rfl | rfl | rfl
 ·rw[show(256:Int)^0=1 by decide];omega
 ·rw[show(256:Int)^1=256 by decide];omega
 ·rw[show(256:Int)^2=65536 by decide];omega
 ·rw[show(256:Int)^3=16777216 by decide];omega
 ·rw[show(256:Int)^4=4294967296 by decide];omega
 ·rw[show(256:Int)^5=1099511627776 by decide];omega
 ·rw[show(256:Int)^6=281474976710656 by decide];omega
 ·rw[show(256:Int)^7=72057594037927936 by decide];omega
theorem atz {n:Int} {k:Nat} (h0:0<k) (hk:k<=8):dX n (k:Int)=some (iY n k):=by
 refine Wq.eq ?_;unfold dX;rw[au (Ae (Ae (dW (by omega)) (dW (by omega))) (dW (by omega))),Yk (by omega),vK];refine Wq.bind (Q:=fun y=>y=iY n k) ?_ fun y hy=>(af _).2 hy;refine aiw (step:=fun v:Int×Int×List Int=>qo v.1 v.2.1 v.2.2) (n:=k) (by omega) (fun i x=>i<=k/\x.1=n%18446744073709551616 / 256^(k - i)/\x.2=List.replicate i 0++iY n (k - i)) _ (fun i x hi hj=> ?_) (fun x hj=> ?_) _ ⟨awk _,?_,?_⟩
 ·obtain⟨u,out⟩:=x;obtain⟨h1,h2,h3⟩:=hj;simp only at h2 h3 ⊢;unfold qo;have hol:out.length=k:=by rw[h3,awn,axv,iT];omega
  have hp:(0:Int)<256^(k - (i+1)):=axy (by decide);have hu:0<=u/\u<18446744073709551616:=by
   have q1:0<=n%18446744073709551616:=by omega
   rw[h2];refine⟨ax9 q1 (by omega),?_⟩;have:=ayn (256^(k - (i+1))) q1;omega
  rw[au (dW (by omega)),au (inb out i (by omega)),af];have e:k - i=(k - (i+1))+1:=by omega
  have e2:wr .u8 (ug u 256)=n / 256^(k - (i+1))%256:=by
   unfold ug;rw[axp hu.1,Ef,axV,h2];exact abD n (by omega)
  refine⟨Yk (by omega),by omega,?_,?_⟩
  ·show wr .u64 (AL u 256)=_;unfold AL;rw[axM hu.1,rE,awZ (by omega) (by omega),h2,e,axU];exact ayo (by omega)
  ·show dP out (itn (i:Int)) _=_;rw[e2,h3,e,vK];unfold dP;rw[aya,awh (by simp),azl,aya,awg (by simp)];simp [iY]
 ·obtain⟨u,out⟩:=x;obtain⟨h1,h2,h3⟩:=hj;simp only at h2 h3 ⊢;unfold qo;rw[bK (JA (by omega)),af,h3]
  rfl
 ·simp only[Nat.sub_self];rw[rE];have:(256:Int)^0=1:=rfl;rw[this];omega
 ·simp [sK,iY]
theorem QL (n:Int):dX n 8=some (p8 [n]):=by
 have:=atz (n:=n) (k:=8) (by decide) (by decide);rw[show(8:Int)=((8:Nat):Int)from rfl,this];simp [p8]
theorem apF (n:Int):dX n 1=some (p1 [n]):=by
 have:=atz (n:=n) (k:=1) (by decide) (by decide);rw[show(1:Int)=((1:Nat):Int)from rfl,this];simp [p1]
theorem apK (b:Bool):zK b=some (alv b):=by cases b<;>rfl
theorem anI (n:Int) (l:List Int):p8 (n::l)=p8 [n]++p8 l:=by simp [p8]
theorem ahW (n:Int) (l:List Int):p1 (n::l)=p1 [n]++p1 l:=by simp [p1]
theorem apV (a b:List Int):p8 (a++b)=p8 a++p8 b:=by simp [p8]
theorem au3 (a b:List Int):p1 (a++b)=p1 a++p1 b:=by simp [p1]
theorem aiB (n:Int):p1 [n]=[wr .u8 n]:=by
 rw[Ef];show [n / 256^0%256]=_;have:(256:Int)^0=1:=rfl;rw[this];congr 1;omega
theorem avk (a b c:Int):p8 [a,b,c]=p8 [a]++(p8 [b]++p8 [c]):=by rw[anI,anI b]
theorem av5 (a b c d:Int):p1 [a,b,c,d]=[wr .u8 a,wr .u8 b,wr .u8 c,wr .u8 d]:=by
 rw[ahW,ahW b,ahW c,aiB,aiB,aiB,aiB];rfl
theorem TW (a b:List Int):aJ a b=a++b:=rfl
theorem apX {s:aB} (h:iH s):rJ s=some (encZ s):=by
 refine Wq.eq ?_;obtain⟨f1,f2,f3,f4,f5,f6,f7,f8⟩:=h.few;unfold rJ;rw[apK,ai];refine Wq.bind (Q:=fun y=>y=magic++p1 [s.t,s.i,alv s.qJ,len s.a]) ?_ fun y hy=> ?_
 ·refine fG (n:=4) (by decide) (fun i x=>x=magic++p1 ([s.t,s.i,alv s.qJ,len s.a].take i)) _ (fun i x hi hj=> ?_) (fun x hj=> ?_) _ 0 (by decide) (by simp [p1,magic])
  ·simp only;unfold rG;have hx:x.length<=8:=by
    rw[hj,awn,OT,awu];simp only[magic,awF,axm];omega
   rw[au (pO (by omega)),au (inb _ i (by simpa using hi)),aN _ i (by simpa using hi),apF,ai,au (uo (n:=1000000) (by simp [aJ,OT];omega) (by decide)),af];refine⟨aZ (by omega),?_⟩;rw[awQ (by simpa using hi),au3,hj,TW,awT]
  ·simp only;unfold rG;rw[bK (nP (by omega)),af,hj]
   rfl
 subst hy;rw[QL,ai,au (uo (n:=1000000) (by simp [aJ,magic,uJ,OT]) (by decide)),QL,ai,au (uo (n:=1000000) (by simp [aJ,magic,uJ,OT]) (by decide)),QL,ai,au (uo (n:=1000000) (by simp [aJ,magic,uJ,OT]) (by decide))];have hhead:aJ (aJ (aJ (magic++p1 [s.t,s.i,alv s.qJ,len s.a]) (p8 [s.S])) (p8 [s.A])) (p8 [s.B])=headB s:=by
  simp only[TW,headB,avk,awT]
 rw[hhead];have hl0:=acj s;refine Wq.bind (Q:=fun y=>y.1=headB s++s.a.flatMap zl) ?_ fun y hy=> ?_
 ·refine fG (step:=fun v:Int×List Int×List Int=>kT s v.1 v.2.1 v.2.2) (n:=s.a.length) (by omega) (fun i x=>x.1=headB s++(s.a.take i).flatMap zl) _ (fun i x hi hj=> ?_) (fun x hj=> ?_) _ 0 (awm _) (by simp)
  ·obtain⟨x,w⟩:=x;simp only at hj ⊢;unfold kT;have hx:x.length=32+61*i:=by
    rw[hj,awn,hl0,flat_length Gh,awu];omega
   rw[Y8 s.a hi,aN _ i hi,QL,ai,au (uo (n:=1000000) (by simp [aJ,uJ];omega) (by decide)),au (uo (n:=1000000) (by simp [aJ,uJ];omega) (by decide))];obtain⟨acc,hacc⟩:∃acc,acc=aJ (aJ x (p8 [s.a[i].id])) [wr .u8 s.a[i].y,wr .u8 s.a[i].z,wr .u8 s.a[i].X,wr .u8 s.a[i].P]:=⟨_,rfl⟩;rw[<-hacc];have hal:acc.length=x.length+12:=by rw[hacc];simp [aJ,uJ]
   refine Wq.bind (Q:=fun y=>y=acc++p8 [s.a[i].N,s.a[i].I,s.a[i].H,s.a[i].V,s.a[i].U,s.a[i].O]) ?_ fun y hy=> ?_
   ·generalize hm:[s.a[i].N,s.a[i].I,s.a[i].H,s.a[i].V,s.a[i].U,s.a[i].O]=m;have hml:m.length=6:=by rw[<-hm];rfl
    refine fG (n:=6) (by decide) (fun k x=>x=acc++p8 (m.take k)) _ (fun k x hk hj=> ?_) (fun x hj=> ?_) _ 0 (by decide) (by simp [p8])
    ·simp only;unfold mF;have hx:x.length<=acc.length+48:=by
      rw[hj,awn,uJ,awu];omega
     rw[au (pO (by omega)),au (inb m k (by omega)),aN m k (by omega),QL,ai,au (uo (n:=1000000) (by simp [aJ,uJ];omega) (by decide)),af];refine⟨aZ (by omega),?_⟩;rw[awQ (by omega),apV,hj,TW,awT]
    ·simp only;unfold mF;rw[bK (nP (by omega)),af,hj,aw5 (by omega)]
   subst hy;rw[apK,ai,apF,ai,au (uo (n:=1000000) (by simp [aJ,uJ,OT];omega) (by decide)),af];refine⟨aZ (by omega),?_⟩;show aJ _ _=_;rw[awQ hi,axT,hacc,hj];simp only[TW,aym,ayE,axn,zl,awT,av5,axa,aw1]
  ·obtain⟨x,w⟩:=x;simp only at hj ⊢;unfold kT;rw[QK,af,hj,awq]
 rw[hy];refine Wq.bind (Q:=fun y=>y=headB s++s.a.flatMap zl++s.cells.flatMap MF) ?_ fun y hy=> ?_
 ·refine fG (n:=s.cells.length) (by omega) (fun i x=>x=headB s++s.a.flatMap zl++(s.cells.take i).flatMap MF) _ (fun i x hi hj=> ?_) (fun x hj=> ?_) _ 0 (awm _) (by simp)
  ·simp only;unfold qB;have hx:x.length=32+61*s.a.length+8*i:=by
    rw[hj,awn,awn,hl0,flat_length Gh,flat_length SX,awu];omega
   rw[Y8 s.cells hi,aN _ i hi,QL,ai,au (uo (n:=1000000) (by simp [aJ,uJ];omega) (by decide)),af];refine⟨aZ (by omega),?_⟩;rw[awQ hi,axT,hj];simp [MF,TW]
  ·simp only;unfold qB;rw[QK,af,hj,awq]
 subst hy;refine Wq.bind (Q:=fun y=>y=headB s++s.a.flatMap zl++s.cells.flatMap MF++s.G.flatMap adB) ?_ fun y hy=> ?_
 ·refine fG (n:=s.G.length) (by omega) (fun i x=>x=headB s++s.a.flatMap zl++s.cells.flatMap MF++(s.G.take i).flatMap adB) _ (fun i x hi hj=> ?_) (fun x hj=> ?_) _ 0 (awm _) (by simp)
  ·simp only;unfold ql;have hx:x.length=32+61*s.a.length+8*s.cells.length+24*i:=by
    rw[hj,awn,awn,awn,hl0,flat_length Gh,flat_length SX,flat_length aei,awu];omega
   have hib:=inb s.G i hi;rw[Y8 s.G hi,aN _ i hi,QL,ai,au (uo (n:=1000000) (by simp [aJ,uJ];omega) (by decide)),au hib,QL,ai,au (uo (n:=1000000) (by simp [aJ,uJ];omega) (by decide)),au hib,QL,ai,au (uo (n:=1000000) (by simp [aJ,uJ];omega) (by decide)),af];refine⟨aZ (by omega),?_⟩;rw[awQ hi,axT,hj];simp only[TW,aym,ayE,axn,adB,avk,awT]
  ·simp only;unfold ql;rw[QK,af,hj,awq]
 subst hy;have hbl:=aci s;have hb:headB s++s.a.flatMap zl++s.cells.flatMap MF++s.G.flatMap adB++p8 s.W=EL s:=by simp [EL]
 have hbl2:=axg List.length hb;rw[awn,uJ]at hbl2;refine Wq.bind (Q:=fun y=>y=EL s) ?_ fun y hy=> ?_
 ·rw[<-hb];refine fG (n:=s.W.length) (by omega) (fun i x=>x=headB s++s.a.flatMap zl++s.cells.flatMap MF++s.G.flatMap adB++p8 (s.W.take i)) _ (fun i x hi hj=> ?_) (fun x hj=> ?_) _ 0 (awm _) (by simp [p8])
  ·simp only;unfold pY;have hx:x.length<=(EL s).length:=by
    rw[hj,awn,uJ,awu];omega
   rw[Y8 s.W hi,aN _ i hi,QL,ai,au (uo (n:=1000000) (by simp [aJ,uJ];omega) (by decide)),af];refine⟨aZ (by omega),?_⟩;rw[awQ hi,apV,hj,TW];simp only[awT]
  ·simp only;unfold pY;rw[QK,af,hj,awq]
 subst hy;rw[X5 (by omega) (aae s),ai];refine Wq.bind (Q:=fun y=>y=encZ s) ?_ fun y hy=>by rw[af,hy]
 have hcr:0<=zV (EL s)/\zV (EL s)<4294967296:=adU _;refine fG (step:=fun v:Int×Int×List Int=>kJ v.1 v.2.1 v.2.2) (n:=4) (by decide) (fun i x=>x.1=zV (EL s) / 256^i/\x.2=EL s++(tC (zV (EL s))).take i) _ (fun i x hi hj=> ?_) (fun x hj=> ?_) _ 0 (by decide) ⟨by simp,by simp⟩
 ·obtain⟨u,x⟩:=x;obtain⟨h1,h2⟩:=hj;simp only at h1 h2 ⊢;unfold kJ;have hp:(0:Int)<256^i:=axy (by decide);have hu:0<=u/\u<4294967296:=by
   rw[h1];exact⟨ax9 hcr.1 (by omega),by have:=ayn (256^i) hcr.1;omega⟩
  have hx:x.length<=(EL s).length+4:=by
   rw[h2,awn,awu];omega
  have e2:wr .u8 (ug u 256)=zV (EL s) / 256^i%256:=by
   unfold ug;rw[axp hu.1,Ef,axV,h1]
  rw[au (pO (by omega)),e2,au (uo (n:=1000000) (by simp [aJ];omega) (by decide)),af];refine⟨aZ (by omega),?_,?_⟩
  ·show wr .u32 (AL u 256)=_;unfold AL;rw[axM hu.1,ZO,awZ (by omega) (by omega),h1,axU];exact ayo (by omega)
  ·show aJ _ _=_;rw[h2];exact abY _ hi _
 ·obtain⟨u,x⟩:=x;obtain⟨h1,h2⟩:=hj;simp only at h1 h2 ⊢;unfold kJ;rw[bK (nP (by omega)),af,h2]
  rfl
def at8 (b:List Int) (i:Nat):Int:=wr .i64 (unZ ((b.drop i).take 8))
def b1 (n:Int):Prop:=0<=n/\n<=255
theorem aqM {l:List Int} (h:okL anP l):jU l:=fun x hx=>h.1 x hx
def msgP (m:jh):Prop:=mg m.order/\(0<=m.y/\m.y<8)/\(0<=m.z/\m.z<8)/\(m.X=1\/m.X=2)/\(0<=m.B/\m.B<=1000000000)/\
 ((m.L=1/\1<=m.N/\1<=m.I/\m.O=0)\/(m.L=2/\1<=m.N/\1<=m.I/\1<=m.O)\/(m.L=3/\m.N=0/\m.I=0/\m.O=0))
instance (m:jh):Decidable (msgP m):=by unfold msgP mg;infer_instance
theorem avh (m:jh):Wq (o6 m) fun b=>b=true↔msgP m:=by
 unfold o6 msgP mg;simp only[jI,dF,af,aH,aQ,aX,bn,aG,aF,bg,bC,aY,bI,aI,aP,bG,bJ,awN,ne_eq,awK,awI,awy,awx,awO,reduceCtorEq]
 grind
theorem anw (m:jh):o6 m=some (decide (msgP m)):=(avh m).dec
theorem ati (m:jh):iO m=some (decide (msgP m)):=by
 refine Wq.dec ?_;unfold iO msgP mg;simp only[jI,dF,af,aH,aQ,aX,bn,aG,aF,bg,bC,aY,bI,aI,aP,bG,bJ,awN,ne_eq,awK,awI,awy,awx,awO,reduceCtorEq]
 grind
def Ht:List jh->Int->Int->Prop
 |[],_,_=>True
 |m::r,a,z=>msgP m/\a<m.B/\m.B<=z/\Ht r m.B z
theorem aoP {l:List jh} {i:Nat} (hi:i<l.length) {a z:Int}:Ht (l.drop i) a z↔msgP l[i]/\a<l[i].B/\l[i].B<=z/\Ht (l.drop (i+1)) l[i].B z:=by
 rw[axe hi];rfl
theorem aqr (l:List jh) (a z:Int) (hl:l.length<999999):Wq (Ir l a z) fun b=>b=true↔Ht l a z:=by
 unfold Ir;refine Wq.bind (Q:=fun w:Bool ⊕ Bool=>match w with | .inl b=>b=false/\¬Ht l a z | .inr _=>Ht l a z)
  (fG (n:=l.length) (step:=fun v:Int×Bool×Int=>yF (len l) l z v.1 v.2.1 v.2.2) hl (fun i x=>Ht l a z↔Ht (l.drop i) x.2 z) _ ?_ ?_ _ 0 (awm _) (by simp)) ?_
 ·rintro i ⟨q,x⟩ hi hj;simp only at hj;simp only[yF];rw[au (by rw[dm];simpa using hi),au (inb l i hi),aN l i hi,anw,ai,hj,aoP hi];simp only[jI,dF,af,aH,aQ,aX,bn,aG,aF,bg,bC,aY,bI,aI,aP,bG,bJ,awN,ne_eq,awK,awI,awy,awx,awO,reduceCtorEq];refine⟨fun h=> ?_,fun h=> ?_⟩
  ·rintro⟨h1,h2,h3,_⟩;rcases h with (h | h) | h
   ·simp [h1]at h
   ·omega
   ·omega
  ·refine⟨aZ (by omega),?_⟩;have h1:msgP l[i]:=by simpa using h.1.1
   exact⟨fun h=>h.2.2.2,fun g=>⟨h1,by omega,by omega,g⟩⟩
 ·rintro⟨q,x⟩ hj;simp only at hj;simp only[yF];rw[bK (by rw[show((l.length:Nat):Int)=len l from rfl];simp [ilt]),af];show Ht l a z;rw[hj,axs];trivial
 ·intro w hw
  match w,hw with
  |.inl b,h=>simp only[dK,af];simp [h.1,h.2]
  |.inr _,h=>simp only[dK,af];simpa using h
def zq:List dV->Int->Int->Prop
 |[],_,_=>True
 |n::r,a,x=>a<n.A/\n.A<=x+8/\zq r n.A x
theorem afm {l:List dV} {i:Nat} (hi:i<l.length) {a z:Int}:zq (l.drop i) a z↔a<l[i].A/\l[i].A<=z+8/\zq (l.drop (i+1)) l[i].A z:=by
 rw[axe hi];rfl
def WC (f:jl) (x:Int):Prop:=1<=x/\x<=1000000001/\f.F.length<=8/\zq f.F x x
theorem aaB (f:jl) (x:Int):Wq (Ih f x) fun b=>b=true↔WC f x:=by
 unfold Ih WC;rw[dF];refine⟨fun h=>(af _).2 ?_,fun h=> ?_⟩
 ·simp only[aH,aQ,aX,bn,aG,aF,bg,bC,aY,bI,aI,aP,bG,bJ,len]at h;constructor
  ·intro g;cases g
  ·intro g;omega
 simp only[aH,aQ,aX,bn,aG,aF,bg,bC,aY,bI,aI,aP,bG,bJ,len]at h;have hl:f.F.length<=8:=by omega
 have hwr:wr .i64 (ay x 8)=x+8:=bf (by simp only[ay];omega) (by simp only[ay];omega);refine Wq.bind (Q:=fun w:Bool ⊕ Bool=>match w with | .inl b=>b=false/\¬zq f.F x x | .inr _=>zq f.F x x)
  (fG (n:=f.F.length) (step:=fun v:Int×Int×Bool=>zW (len f.F) f.F x v.1 v.2.1 v.2.2) (by omega) (fun i y=>zq f.F x x↔zq (f.F.drop i) y.1 x) _ ?_ ?_ _ 0 (awm _) (by simp)) ?_
 ·rintro i ⟨y,q⟩ hi hj;simp only at hj;simp only[zW];rw[au (by rw[dm];simpa using hi),au (inb f.F i hi),aN f.F i hi,hj,afm hi,hwr];simp only[jI,dF,af,aH,aQ,aX,bn,aG,aF,bg,bC,aY,bI,aI,aP,bG,bJ,awN,ne_eq,awK,awI,awy,awx,awO,reduceCtorEq];refine⟨fun h=> ?_,fun h=> ?_⟩
  ·rintro⟨h1,h2,_⟩;omega
  ·exact⟨aZ (by omega),fun h=>h.2.2,fun g=>⟨by omega,by omega,g⟩⟩
 ·rintro⟨y,q⟩ hj;simp only at hj;simp only[zW];rw[bK (by rw[show((f.F.length:Nat):Int)=len f.F from rfl];simp [ilt]),af];show zq f.F x x;rw[hj,axs];trivial
 ·intro w hw
  match w,hw with
  |.inl b,h=>simp only[dK,af];simp [h.1,h.2]
  |.inr _,h=>
   simp only[dK,af];simp only[true_iff];exact⟨by omega,by omega,hl,h⟩
theorem aoH (n:Nat) (h:n<=200):wr .i64 (dw .u64 (wr .u64 (wr .i64 (n:Int))) 1)=((n / 2:Nat):Int):=by
 have:∀k:Fin 201,wr .i64 (dw .u64 (wr .u64 (wr .i64 ((k:Nat):Int))) 1)=(((k:Nat) / 2:Nat):Int):=by decide+kernel
 exact this ⟨n,by omega⟩
theorem Tn:∀ {l:List dV} {a x:Int},zq l a x->∀n∈l,a<n.A/\n.A<=x+8
 |[],_,_,_,n,hn=>by cases hn
 |m::r,a,x,h,n,hn=>by
  obtain⟨h1,h2,h3⟩:=h
  rcases aww.1 hn with rfl | hn
  ·exact⟨h1,h2⟩
  ·have:=Tn h3 n hn;exact⟨by omega,this.2⟩
theorem Rt:∀ {l:List dV} {a x:Int},zq l a x->∀ {i j:Nat} (hij:i<j) (hj:j<l.length),(l[i]'(by omega)).A<l[j].A
 |m::r,a,x,h,0,j+1,hij,hj=>by
  have hj':j<r.length:=by simpa using hj
  exact(Tn h.2.2 r[j] (awl hj')).1
 |m::r,a,x,h,i+1,j+1,hij,hj=>Rt h.2.2 (i:=i) (j:=j) (by omega) (by simpa using hj)
 |[],_,_,_,_,_,_,hj=>by simp at hj
theorem ahB:∀ {l:List dV} {a x:Int},zq l a x->a<=x+8->(l.length:Int)<=x+8 - a
 |[],_,_,_,h=>by simp;omega
 |m::r,a,x,h,_=>by
  have:=ahB h.2.2 h.2.1
  have:=h.1
  simp only[awF];omega
theorem alo:∀ {l:List dV} {a x y:Int},zq l a x->x<=y->zq l a y
 |[],_,_,_,_,_=>trivial
 |m::r,a,x,y,h,hy=>⟨h.1,by have:=h.2.1;omega,alo h.2.2 hy⟩
def Dj:List dV->Int->Nat
 |[],_=>0
 |n::r,x=>if n.A=x then Dj r (x+1)+1 else 0
theorem adM:∀(l:List dV) (x:Int),Dj l x<=l.length
 |[],_=>awk _
 |n::r,x=>by
  unfold Dj
  have:=adM r (x+1)
  split<;>simp<;>omega
theorem avE (l:List dV) (x:Int) (hl:l.length<=8) (h0:0<=x) (h1:x<=2000000000):JQ l x=some (Dj l x:Int):=by
 refine Wq.eq ?_;unfold JQ;refine Wq.bind (Q:=fun w:Int ⊕ Int=>match w with | .inl b=>b=(Dj l x:Int) | .inr _=>Dj l x=l.length)
  (fG (n:=l.length) (step:=fun v:Int×Int=>Fb (len l) l x v.1 v.2) (by omega) (fun i _=>Dj l x=i+Dj (l.drop i) (x+i)) _ ?_ ?_ _ 0 (awm _) (by simp)) ?_
 ·rintro i q hi hj;simp only[Fb];have hw:wr .i64 (ay x (i:Int))=x+i:=bf (by simp only[ay];omega) (by simp only[ay];omega);rw[au (by rw[dm];simpa using hi),au (inb l i hi),aN l i hi,hw];rw[axe hi,Dj]at hj;simp only[jI,dF,af,aH,aQ,aX,bn,aG,aF,bg,bC,aY,bI,aI,aP,bG,bJ,awN,ne_eq,awK,awI,awy,awx,awO,reduceCtorEq];refine⟨fun h=> ?_,fun h=> ?_⟩
  ·rw[awg h]at hj;omega
  ·rw[awh h]at hj;refine⟨aZ (by omega),?_⟩;rw[hj,show x+((i+1:Nat):Int)=x+i+1 by omega];omega
 ·rintro q hj;simp only[Fb];rw[bK (by rw[show((l.length:Nat):Int)=len l from rfl];simp [ilt]),af];simpa [Dj] using hj
 ·intro w hw
  match w,hw with
  |.inl b,h=>simp only[dK,af];exact h
  |.inr _,h=>simp only[dK,af,len];rw[h]
theorem ank {l:List dV} {x s:Int} (hl:l.length<=8) (hh:zq l x x) (hx:0<=x) (hx2:x<=2000000000) (hs:0<=s) (hs2:s<=2000000000):
 Wq (EC l s) fun r=>∃i:Nat,r.1=(i:Int)/\i<=l.length/\(∀(j:Nat) (h:j<l.length),j<i->l[j].A<s)/\(∀(j:Nat) (h:j<l.length),i<=j->s<=l[j].A)/\(r.2=true↔∃h:i<l.length,l[i].A=s):=by
 have sub:∀(i:Nat) (h:i<l.length),wr .i64 (aO l[i].A s)=l[i].A - s:=fun i h=>by
  have:=Tn hh l[i] (awl h)
  exact nY ⟨by simp only[aO];omega,by simp only[aO];omega⟩
 unfold EC
 refine Wq.bind (Q:=fun w:Int=>∃i:Nat,w=(i:Int)/\i<=l.length/\(∀(j:Nat) (h:j<l.length),j<i->l[j].A<s)/\(∀(j:Nat) (h:j<l.length),i<=j->s<=l[j].A))
  (Qs (step:=fun v:Int×Int=>dO l s v.1 v.2) (fun v=>(v.1 - v.2).toNat)
    (fun v=>∃lo hi:Nat,v=((hi:Int),(lo:Int))/\lo<=hi/\hi<=l.length/\(∀(j:Nat) (h:j<l.length),j<lo->l[j].A<s)/\(∀(j:Nat) (h:j<l.length),hi<=j->s<=l[j].A)) _ ?_ LF _ (Zb (by simp only[len];omega)) ⟨0,l.length,rfl,awm _,awk _,fun j _ h=>by omega,fun j h1 h2=>by omega⟩) ?_
 ·rintro _ ⟨lo,hi,rfl,g1,g2,g3,g4⟩
  simp only[dO]
  rw[dF]
  refine⟨fun h=> ?_,fun h=>(af _).2 ?_⟩
  ·rw[bg]at h
   have e1:wr .i64 (dw .u64 (wr .u64 (wr .i64 (ay (lo:Int) (hi:Int)))) 1)=(((lo+hi) / 2:Nat):Int):=by
    rw[<-aoH (lo+hi) (by omega)];unfold ay;rw[Int.natCast_add]
   have hm:(lo+hi) / 2<l.length:=by omega
   rw[e1,au (inb _ _ hm),aN _ _ hm,dF,af,af,sub _ hm]
   refine⟨fun h2=> ?_,fun h2=> ?_⟩
   ·simp only[aH,aQ,aX,bn,aG,aF,bg,bC,aY,bI,aI,aP,bG,bJ]at h2
    refine⟨⟨(lo+hi) / 2+1,hi,by rw[aZ (by omega)],by omega,g2,fun j hj h3=> ?_,g4⟩,?_⟩
    ·rcases ayh j ((lo+hi) / 2)with h4 | h4
     ·have:=Rt hh h4 hm;omega
     ·have:j=(lo+hi) / 2:=by omega
      subst this;omega
    ·simp only;rw[aZ (by omega)];omega
   ·simp only[aH,aQ,aX,bn,aG,aF,bg,bC,aY,bI,aI,aP,bG,bJ]at h2
    refine⟨⟨lo,(lo+hi) / 2,rfl,by omega,by omega,g3,fun j hj h3=> ?_⟩,?_⟩
    ·rcases ayh ((lo+hi) / 2) j with h4 | h4
     ·have:=Rt hh h4 hj;omega
     ·have:j=(lo+hi) / 2:=by omega
      subst this;omega
    ·simp only;omega
  ·rw[bC]at h
   have:lo=hi:=by omega
   subst this
   exact⟨lo,rfl,g2,g3,g4⟩
 rintro _ ⟨i,rfl,hi,g1,g2⟩
 by_cases hil:i<l.length
 ·have h1:ilt (i:Int) (len l)=true:=pO (by simp only[len];omega)
  rw[au (by rw[aX];exact .inl (inb l i hil)),au h1,af,aN l i hil,sub _ hil]
  refine⟨i,rfl,hi,g1,g2,?_⟩
  simp only[aH,aQ,aX,bn,aG,aF,bg,bC,aY,bI,aI,aP,bG,bJ]
  constructor
  ·intro h;exact⟨hil,by omega⟩
  ·rintro⟨_,h⟩;exact⟨by simp only[len];omega,by omega⟩
 ·have h1:ilt (i:Int) (len l)=false:=nP (by simp only[len];omega)
  rw[au (by rw[aX,aG];exact .inr h1),bK h1,af]
  refine⟨i,rfl,hi,g1,g2,?_⟩
  rw[h1]
  constructor
  ·intro h;simp [bor]at h
  ·rintro⟨h,_⟩;exact absurd h hil
theorem arR {α:Type} (l:List α):nol l=[]:=by simp [nol]
open Classical in
noncomputable def rD (f:jl) (n:dV) (x:Int):jl×List dV×Int:=
 if ¬(WC f x/\1<=n.A/\n.A<=1000000000)then (f,[],1)
 else if n.A<x then (f,[],0)
 else if x+8<n.A then (⟨f.F,true⟩,[],0)
 else if n.A=x then (⟨f.F.drop (Dj f.F (x+1)),f.gap⟩,n::f.F.take (Dj f.F (x+1)),0)
 else if ∃m∈f.F,m.A=n.A then (f,[],0)
 else (⟨(f.F.filter fun m=>m.A<n.A)++n::(f.F.filter fun m=>n.A<m.A),f.gap⟩,[],0)
theorem ajN {l:List dV} {s:Int} {i:Nat} (hi:i<=l.length) (h1:∀(j:Nat) (h:j<l.length),j<i->l[j].A<s) (h2:∀(j:Nat) (h:j<l.length),i<=j->s<=l[j].A) (hn:¬∃m∈l,m.A=s):
 l.take i=(l.filter fun m=>m.A<s)/\l.drop i=(l.filter fun m=>s<m.A):=by
 have a1:∀m∈l.take i,m.A<s:=fun m hm=>by
  obtain⟨j,hj,rfl⟩:=axu hm
  rw[axI]
  have hj':j<i/\j<l.length:=by simp at hj;omega
  exact h1 j hj'.2 hj'.1
 have a2:∀m∈l.drop i,s<m.A:=fun m hm=>by
  have hml:m∈l:=axE hm
  obtain⟨j,hj,rfl⟩:=axu hm
  rw[axH]at hml ⊢
  have hj':i+j<l.length:=by simp at hj;omega
  have:=h2 (i+j) hj' (by omega)
  have:l[i+j].A≠s:=fun e=>hn ⟨_,hml,e⟩
  omega
 have hl:l=l.take i++l.drop i:=(aw7 i l).symm
 have e1:(l.take i).filter (fun m=>decide (m.A<s))=l.take i:=ay6.2 (fun m hm=>by simpa using a1 m hm)
 have e2:(l.drop i).filter (fun m=>decide (m.A<s))=[]:=azm.2 (fun m hm=>by have:=a2 m hm;simp;omega)
 have e3:(l.drop i).filter (fun m=>decide (s<m.A))=l.drop i:=ay6.2 (fun m hm=>by simpa using a2 m hm)
 have e4:(l.take i).filter (fun m=>decide (s<m.A))=[]:=azm.2 (fun m hm=>by have:=a1 m hm;simp;omega)
 constructor
 ·conv=>rhs;rw[hl]
  rw[List.filter_append,e1,e2,axn]
 ·conv=>rhs;rw[hl]
  rw[List.filter_append,e3,e4,aw1]
theorem ajS (f:jl) (n:dV) (x:Int):PN f n x=some (rD f n x):=by
 refine Wq.eq ?_;unfold PN rD;refine(aaB f x).bind fun b hb=> ?_;by_cases hf:WC f x
 case neg=>
  have:b=false:=by cases b with
   |false=>rfl
   |true=>exact absurd (hb.1 rfl) hf
  subst this;rw[aW,aU,aU,af,awh (fun h=>hf h.1)]
 obtain rfl:=hb.2 hf;rw[aK,aT];by_cases h1:n.A<1
 ·rw[au (pO h1),au (pO h1),af,awh (fun h=>by omega)]
 rw[bK (nP h1)];by_cases h2:1000000000<n.A
 ·rw[au (pO h2),af,awh (fun h=>by omega)]
 rw[bK (nP h2),awg (fun h=>h ⟨hf,by omega,by omega⟩)];by_cases h3:n.A<x
 ·rw[au (pO h3),af,awh h3]
 rw[bK (nP h3),awg h3];have hx:=hf.1;have hx2:=hf.2.1;have hl:=hf.2.2.1;have hwr:wr .i64 (ay x 8)=x+8:=bf (by simp only[ay];omega) (by simp only[ay];omega);have hwr1:wr .i64 (ay x 1)=x+1:=bf (by simp only[ay];omega) (by simp only[ay];omega);rw[hwr];by_cases h4:x+8<n.A
 ·rw[au (pO h4),af,awh h4]
 rw[bK (nP h4),awg h4];by_cases h5:n.A=x
 ·rw[au (by rw[aI];exact h5),awh h5,hwr1,avE f.F (x+1) hl (by omega) (by omega),ai];have hk:=adM f.F (x+1);generalize Dj f.F (x+1)=k at hk ⊢;have c0:band (ile 0 (len f.F)) (ile 0 (len f.F))=true:=Ae (dW (by simp only[len];omega)) (dW (by simp only[len];omega));have c1:band (ile 0 (k:Int)) (ile (k:Int) (len f.F))=true:=Ae (dW (by omega)) (dW (by simp only[len];omega));simp only[arR];rw[au c0,au (by simp [aJ,len,ile,bor,band,ieq]),au c1,au (by simp only[aJ,len,aV,itn,aw1];exact dW (by simp;omega)),au c1];rw[show gQ (bZ f.F (itn (k:Int)))=some (bZ f.F (itn (k:Int)))from wH (by simp [bZ,itn];omega),ai,af];simp [bZ,aV,aJ,itn]
 ·rw[bK (by rw[aP];exact h5),awg h5];refine Wq.bind (ank (s:=n.A) hl hf.2.2.2 (by omega) (by omega) (by omega) (by omega)) ?_;rintro⟨r1,r2⟩ ⟨i,rfl,hi,g1,g2,g3⟩;simp only at g3;by_cases h6:∃m∈f.F,m.A=n.A
  ·rw[awh h6];obtain⟨m,hm,hme⟩:=h6;obtain⟨j,hj,rfl⟩:=axu hm;have hij:i=j:=by
    rcases ayf i j with h | h | h
    ·have:=Rt hf.2.2.2 h hj;have:=g2 i (by omega) (awk _);omega
    ·exact h
    ·have:=g1 j hj h;omega
   subst hij;rw[bK (by rw[aF];exact g3.2 ⟨hj,hme⟩),af]
  ·rw[awg h6];have:r2=false:=by cases h:r2 with
    |false=>rfl
    |true=>obtain⟨h7,h8⟩:=g3.1 h;exact absurd ⟨_,awl h7,h8⟩ h6
   subst this;rw[aW,aU,show gQ f.F=some f.F from wH (by omega),ai];obtain⟨e1,e2⟩:=ajN hi g1 g2 h6;unfold nM;simp only;rw[au (Ae (dW (by omega)) (Ae (dW (by simp only[len];omega)) (dW (by simp only[len,ay];omega)))),ai,af,<-e1,<-e2];simp [aJ,aV,bZ,itn]
theorem ahv:∀(l:List dV) (a x y:Int),zq l a x->x<=y - 1->(∀m∈l,y<=m.A)->zq (l.drop (Dj l y)) (y+Dj l y) (y+Dj l y)
 |[],_,_,_,_,_,_=>by simp [Dj,zq]
 |m::r,a,x,y,h,hx,hall=>by
  unfold Dj
  by_cases he:m.A=y
  ·rw[awh he]
   have h2:=ahv r m.A x (y+1) h.2.2 (by omega) (fun q hq=>by have:=(Tn h.2.2 q hq).1;omega)
   rw[List.drop_succ_cons,show y+((Dj r (y+1)+1:Nat):Int)=y+1+(Dj r (y+1):Int) by omega]
   exact h2
  ·rw[awg he]
   simp only[axP]
   have h1:=hall m (by simp)
   have h3:=h.2.1
   exact⟨by omega,by omega,alo h.2.2 (by omega)⟩
theorem aha:∀(l:List dV) (a x:Int) (n:dV),zq l a x->a<n.A->n.A<=x+8->(∀m∈l,m.A≠n.A)->zq ((l.filter fun m=>m.A<n.A)++n::(l.filter fun m=>n.A<m.A)) a x
 |[],_,_,_,_,h1,h2,_=>by simpa [zq] using ⟨h1,h2⟩
 |m::r,a,x,n,h,h1,h2,hn=>by
  have hm:=hn m (by simp)
  by_cases hlt:m.A<n.A
  ·rw[azn (by simpa using hlt),ayT (by simp;omega),axa]
   exact⟨h.1,h.2.1,aha r m.A x n h.2.2 hlt h2 (fun q hq=>hn q (by simp [hq]))⟩
  ·have hall:∀q∈m::r,n.A<q.A:=fun q hq=>by
    rcases aww.1 hq with rfl | hq
    ·omega
    ·have:=(Tn h.2.2 q hq).1;omega
   have e1:(m::r).filter (fun q=>decide (q.A<n.A))=[]:=azm.2 (fun q hq=>by have:=hall q hq;simp;omega)
   have e2:(m::r).filter (fun q=>decide (n.A<q.A))=m::r:=ay6.2 (fun q hq=>by have:=hall q hq;simpa using this)
   rw[e1,e2,aw1]
   exact⟨h1,h2,hall m (by simp),h.2.1,h.2.2⟩
structure atv (f:jl) (n:dV) (x:Int) (r:jl×List dV×Int):Prop where
 F:zq r.1.F (x+r.2.1.length) (x+r.2.1.length)
 len:r.1.F.length<=8
 lo:1<=x
 hi:x<=1000000001
 mem:∀m∈r.1.F,m∈f.F\/m=n
 mem2:∀m∈r.2.1,m∈f.F\/m=n
 len2:r.2.1.length<=9
theorem anH {f:jl} {n:dV} {x:Int} (h0:(rD f n x).2.2=0):atv f n x (rD f n x):=by
 unfold rD at h0 ⊢;split at h0
 ·cases h0
 rename_i hf;have hf:=axj.1 hf;rw[awg (fun h=>h hf)];obtain⟨⟨f1,f2,f3,f4⟩,k1,k2⟩:=hf;have same:∀g:Bool,atv f n x (⟨f.F,g⟩,[],0):=fun g=>⟨by simpa using f4,f3,f1,f2,fun m hm=> .inl hm,fun m hm=>(by simp at hm),by simp⟩;by_cases h3:n.A<x
 ·rw[awh h3];exact same f.gap
 rw[awg h3];by_cases h4:x+8<n.A
 ·rw[awh h4];exact same true
 rw[awg h4];by_cases h5:n.A=x
 ·rw[awh h5];have hk:=adM f.F (x+1);have h2:=ahv f.F x x (x+1) f4 (by omega) (fun m hm=>by have:=(Tn f4 m hm).1;omega);have hl:(n::f.F.take (Dj f.F (x+1))).length=Dj f.F (x+1)+1:=by simp;omega
  refine⟨?_,?_,f1,f2,fun m hm=> .inl (axE hm),fun m hm=> ?_,?_⟩
  ·show zq (f.F.drop _) _ _;simp only[hl];rw[show x+((Dj f.F (x+1)+1:Nat):Int)=x+1+(Dj f.F (x+1):Int) by omega];exact h2
  ·show(f.F.drop _).length<=8;simp;omega
  ·rcases aww.1 hm with rfl | hm
   ·exact .inr rfl
   ·exact .inl (axo hm)
  ·show(n::f.F.take _).length<=9;rw[hl];omega
 rw[awg h5];split
 ·exact same f.gap
 ·rename_i h6;have h7:=aha f.F x x n f4 (by omega) (by omega) (fun m hm e=>h6 ⟨m,hm,e⟩);refine⟨by simpa using h7,?_,f1,f2,fun m hm=> ?_,fun m hm=>(by simp at hm),by simp⟩
  ·have:=ahB h7 (by omega);show((f.F.filter fun m=>m.A<n.A)++n::(f.F.filter fun m=>n.A<m.A)).length<=8;omega
  ·rcases awt.1 hm with hm | hm
   ·exact .inl (axK.1 hm).1
   ·rcases aww.1 hm with rfl | hm
    ·exact .inr rfl
    ·exact .inl (axK.1 hm).1
theorem Xx {n:dV} (h:xu n):mG (nZ n):=by
 obtain⟨h1,h2,h3,h4,h5⟩:=h;constructor<;>first | assumption | (show inI _;unfold inI;simp [nZ])
theorem anv:∀ {l:List jh} {a z y:Int},Ht l a z->z<=y->Ht l a y
 |[],_,_,_,_,_=>trivial
 |m::r,a,z,y,h,hy=>⟨h.1,h.2.1,by have:=h.2.2.1;omega,anv h.2.2.2 hy⟩
theorem aed {s t:aB} {a y:Int} (h:(Vs s t a y).2=0):(Vs s t a y).1.a=t.a:=by
 unfold Vs at h ⊢;by_cases h1:Zy t
 ·rw[awg (fun g=>g h1)]at h ⊢;by_cases h2:Oy s t a y
  ·rw[awh h2]at h;simp at h
  ·rw[awg h2]
 ·rw[awh h1]at h;simp at h
theorem aqg {s:aB} {r:iJ} (h0:(doS s r).2=0) (hk:r.L=1\/r.L=2\/r.L=3):
 ∃o∈(doS s r).1.a,o.id=r.order/\(r.L=2->1<=o.V/\1<=o.U/\1<=o.O):=by
 have hm:=((abj s r).good h0).1
 have hrec:=hm.2.1
 have hords:=hm.1.fine.ords
 unfold doS at h0 ⊢
 rw[awg (fun g=>g hm)]at h0 ⊢
 rcases hk with hk | hk | hk
 ·rw[awh hk]at h0 ⊢
  by_cases h1:s.qJ=true
  ·rw[awh h1]at h0;simp at h0
  rw[awg h1]at h0 ⊢
  by_cases h2:s.a.length=64
  ·rw[awh h2]at h0;simp at h0
  rw[awg h2]at h0 ⊢
  rw[aed h0]
  exact⟨iG r,by simp [aJ],rfl,fun h=>by omega⟩
 ·rw[awg (by omega),awh hk]at h0 ⊢
  cases hf:zu s.a r.order with
  |none=>rw[hf]at h0;simp at h0
  |some k=>
   rw[hf]at h0
   simp only at h0 ⊢
   obtain⟨hkl,hid⟩:=ou hf
   have hg:aj s.a k=s.a[k]:=by simp [aj,hkl]
   by_cases h1:wZ (aj s.a k)
   ·rw[awg (fun g=>g h1)]at h0 ⊢
    by_cases h2:s.qJ=true
    ·rw[awh h2]at h0;simp at h0
    rw[awg h2]at h0 ⊢
    rw[aed h0]
    refine⟨rH (aj s.a k) r.N r.I,?_,?_,fun _=> ?_⟩
    ·show _∈dP s.a k _
     exact List.mem_set hkl _
    ·rw[hg];exact hid
    ·have hv:=(hords s.a[k] (awl hkl)).1.2.2.2.1
     rw[hg]
     unfold qf at hrec
     refine⟨?_,?_,?_⟩
     ·show 1<=r.N;omega
     ·show 1<=r.I;omega
     ·show 1<=s.a[k].O+1;omega
   ·rw[awh h1]at h0;simp at h0
 ·rw[awg (by omega),awg (by omega),awh hk]at h0 ⊢
  cases hf:zu s.a r.order with
  |none=>rw[hf]at h0;simp at h0
  |some k=>
   rw[hf]at h0
   simp only at h0 ⊢
   obtain⟨hkl,hid⟩:=ou hf
   have hg:aj s.a k=s.a[k]:=by simp [aj,hkl]
   by_cases h1:(aj s.a k).z6=true
   ·rw[awh h1]at h0;simp at h0
   rw[awg h1]
   refine⟨ape (aj s.a k),?_,?_,fun h=>by omega⟩
   ·show _∈dP s.a k _
    exact List.mem_set hkl _
   ·rw[hg];exact hid
theorem ava {o:aC} (ho:wE o) {k z:Int} (hk:k=1\/k=2\/k=3) (h2:k=2->1<=o.V/\1<=o.U/\1<=o.O) (hz:0<=z/\z<=1000000000):Wq (vW k o z) fun m=>msgP m/\m.B=z:=by
 obtain⟨b1,b2,b3,b4,b5,b6⟩:=ho.1;unfold vW;rw[dn,dn,nO,awv ho];simp only[ai,aK,aW,aU,anw];rcases hk with rfl | rfl | rfl
 ·have hm:msgP (jh.mk 1 o.id o.y o.z o.X o.N o.I 0 z):=⟨b1,b2,b3,b4,hz,.inl ⟨rfl,b5,b6,rfl⟩⟩;rw[awh rfl,awv hm];exact(af _).2 ⟨hm,rfl⟩
 ·obtain⟨c1,c2,c3⟩:=h2 rfl;have hm:msgP (jh.mk 2 o.id o.y o.z o.X o.V o.U o.O z):=⟨b1,b2,b3,b4,hz,.inr (.inl ⟨rfl,c1,c2,c3⟩)⟩;rw[awg (by decide),awh rfl,awv hm];exact(af _).2 ⟨hm,rfl⟩
 ·have hm:msgP (jh.mk 3 o.id o.y o.z o.X 0 0 0 z):=⟨b1,b2,b3,b4,hz,.inr (.inr ⟨rfl,rfl,rfl,rfl⟩)⟩;rw[awg (by decide),awg (by decide),awv hm];exact(af _).2 ⟨hm,rfl⟩
theorem aj7:∀ {l:List jh} {a z y:Int} {m:jh},Ht l a z->a<=z->msgP m->z<m.B->m.B<=y->Ht (l++[m]) a y
 |[],a,z,y,m,_,ha,hm,h1,h2=>⟨hm,by omega,h2,azv⟩
 |n::r,a,z,y,m,h,_,hm,h1,h2=>⟨h.1,h.2.1,by have:=h.2.2.1;omega,aj7 h.2.2.2 h.2.2.1 hm h1 h2⟩
def chn:List jh->Option Int->Prop
 |[],_=>True
 |m::r,o=>msgP m/\(∀q,o=some q->q<m.B)/\chn r (some m.B)
theorem aiQ:∀(l:List jh) (a z:Int),Ht l a z↔chn l (some a)/\(∀m,l.getLast?=some m->m.B<=z)
 |[],a,z=>by simp [Ht,chn]
 |[m],a,z=>by simp [Ht,chn];grind
 |m::n::r,a,z=>by
  have ih:=aiQ (n::r) m.B z
  rw[show Ht (m::n::r) a z↔msgP m/\a<m.B/\m.B<=z/\Ht (n::r) m.B z from Iff.rfl,ih,
   show chn (m::n::r) (some a)↔msgP m/\(∀q,some a=some q->q<m.B)/\chn (n::r) (some m.B)from Iff.rfl,List.getLast?_cons_cons]
  constructor
  ·rintro⟨h1,h2,h3,h4,h5⟩
   exact⟨⟨h1,fun q hq=>by cases hq;exact h2,h4⟩,h5⟩
  ·rintro⟨⟨h1,h2,h4⟩,h5⟩
   have ho:=ih.2 ⟨h4,h5⟩
   have:m.B<n.B/\n.B<=z:=⟨ho.2.1,ho.2.2.1⟩
   exact⟨h1,h2 a rfl,by omega,h4,h5⟩
theorem ak0 {l:List jh} {a:Int}:chn l (some a)↔chn l none/\(∀h:0<l.length,a<l[0].B):=by
 cases l with
 |nil=>simp [chn]
 |cons m r=>
  simp only[chn];constructor
  ·rintro⟨h1,h2,h3⟩;exact⟨⟨h1,(fun q hq=>(by cases hq)),h3⟩,fun _=>h2 a rfl⟩
  ·rintro⟨⟨h1,_,h3⟩,h2⟩;exact⟨h1,(fun q hq=>(by cases hq;exact h2 (by simp))),h3⟩
def pv (l:List jh):Nat->Option Int
 |0=>none
 |j+1=>(l[j]?).map (·.B)
theorem apH (l:List jh) (a z:Int) (hl:l.length<999999):Wq (yP l a z) fun b=>b=true↔Ht l a z:=by
 unfold yP;refine Wq.bind (Q:=fun w:Bool ⊕ Bool=>match w with | .inl b=>b=false/\¬chn l none | .inr _=>chn l none)
  (fG (n:=l.length) (step:=fun v:Int×Bool=>oZ l v.1 v.2) hl (fun i x=>chn l none↔chn (l.drop i) (pv l i)) _ ?_ ?_ _ 0 (awm _) (by simp [pv])) ?_
 ·rintro i q hi hj;have hj2:chn l none↔msgP l[i]/\(∀q,pv l i=some q->q<l[i].B)/\chn (l.drop (i+1)) (pv l (i+1)):=by
   rw[hj,axe hi];simp only[chn,pv,awL hi,axX]
  have hw:0<i->wr .i64 (aO (i:Int) 1)=((i - 1:Nat):Int):=fun h=>by
   rw[bf (by simp only[aO];omega) (by simp only[aO];omega)];simp only[aO];omega
  have hp:0<i->pv l i=some (l[i - 1]'(by omega)).B:=fun h=>by
   obtain⟨j,rfl⟩:∃j,i=j+1:=⟨i - 1,by omega⟩;simp [pv,awL (show j<l.length by omega)]
  simp only[oZ];have c1:band (ile 0 (i:Int)) (ilt (i:Int) (len l))=true:=inb l i hi;rw[au (by rw[dm];simpa using hi),au c1,aN l i hi,ati,ai,au (by rw[aX];exact .inl c1)];by_cases h0:0<i
  ·have c2:band (ile 0 ((i - 1:Nat):Int)) (ilt ((i - 1:Nat):Int) (len l))=true:=inb l (i - 1) (by omega);rw[hw h0,au (by rw[aX];exact .inl c2),aN l (i - 1) (by omega)];simp only[jI,dF,af,aH,aQ,aX,bn,aG,aF,bg,bC,aY,bI,aI,aP,bG,bJ,awN,ne_eq,awK,awI,awy,awx,awO,reduceCtorEq];rw[hj2,hp h0];refine⟨fun h=> ?_,fun h=>⟨aZ (by omega),?_⟩⟩
   ·rintro⟨g1,g2,_⟩;have:=g2 _ rfl;rcases h with h | h
    ·simp [g1]at h
    ·omega
   ·have g1:msgP l[i]:=by simpa using h.1
    refine⟨fun g=>g.2.2,fun g=>⟨g1,fun q hq=> ?_,g⟩⟩;cases hq;rcases h.2 with h2 | h2<;>omega
  ·have hz:i=0:=by omega
   subst hz;rw[au (by simp [bor,band,ax,ilt])];simp only[jI,dF,af,aH,aQ,aX,bn,aG,aF,bg,bC,aY,bI,aI,aP,bG,bJ,awN,ne_eq,awK,awI,awy,awx,awO,reduceCtorEq];rw[hj2];refine⟨fun h=> ?_,fun h=>⟨aZ (by omega),?_⟩⟩
   ·rintro⟨g1,_,_⟩;rcases h with h | h
    ·simp [g1]at h
    ·omega
   ·have g1:msgP l[0]:=by simpa using h.1
    exact⟨fun g=>g.2.2,fun g=>⟨g1,fun q hq=>by simp [pv]at hq,g⟩⟩
 ·rintro q hj;simp only[oZ];rw[bK (by rw[show((l.length:Nat):Int)=len l from rfl];simp [ilt]),af];rw[axs]at hj;exact hj.2 trivial
 ·intro w hw
  match w,hw with
  |.inl b,h=>
   simp only[dK,af];rw[h.1,aiQ,ak0];simp [h.2]
  |.inr _,h=>
   simp only[dK];cases l with
   |nil=>exact(af _).2 (by simp [Ht,bor,ieq,len])
   |cons m r=>
    have hlen:(wr .i64 (aO (len (m::r)) 1))=((r.length:Nat):Int):=by
     rw[bf (by simp only[aO,len,awF];omega) (by simp only[aO,len];omega)];simp [aO,len]
    have c2:band (ile 0 ((r.length:Nat):Int)) (ilt ((r.length:Nat):Int) (len (m::r)))=true:=inb (m::r) r.length (by simp);rw[au (by rw[aX,bg];left;simp only[len,awF];omega),hlen,au (by rw[aX];exact .inl c2),af,aiQ,ak0,aN (m::r) r.length (by simp)];have hg:(m::r).getLast?=some ((m::r)[r.length]'(by simp)):=by rw[List.getLast?_eq_getElem?];simp
    rw[hg];have hm0:aj (m::r) 0=m:=by simp [aj]
    rw[hm0];simp only[aH,aQ,aX,bn,aG,aF,bg,bC,aY,bI,aI,aP,bG,bJ,len];constructor
    ·rintro(g | ⟨g1,g2⟩)
     ·simp at g;omega
     ·exact⟨⟨h,fun _=>g1⟩,fun x hx=>by cases hx;exact g2⟩
    ·rintro⟨⟨_,g1⟩,g2⟩;exact .inr ⟨g1 (by simp),g2 _ rfl⟩
def pvs (l:List dV) (x:Int):Nat->Int
 |0=>x
 |j+1=>match l[j]? with | some n=>n.A | none=>x
theorem abn (f:jl) (x:Int) (hok:∀n∈f.F,inI n.A):Wq (uj f x) fun b=>b=true↔WC f x:=by
 unfold uj WC;rw[dF];refine⟨fun h=>(af _).2 ?_,fun h=> ?_⟩
 ·simp only[aH,aQ,aX,bn,aG,aF,bg,bC,aY,bI,aI,aP,bG,bJ,len]at h;constructor
  ·intro g;cases g
  ·intro g;omega
 simp only[aH,aQ,aX,bn,aG,aF,bg,bC,aY,bI,aI,aP,bG,bJ,len]at h;have hl:f.F.length<=8:=by omega
 refine Wq.bind (Q:=fun w:Bool ⊕ Bool=>match w with | .inl b=>b=false/\¬zq f.F x x | .inr _=>zq f.F x x)
  (fG (n:=f.F.length) (step:=fun v:Int×Bool=>oV x f v.1 v.2) (by omega) (fun i y=>(zq f.F x x↔zq (f.F.drop i) (pvs f.F x i) x)/\x<=pvs f.F x i) _ ?_ ?_ _ 0 (awm _) (by simp [pvs])) ?_
 ·rintro i q hi ⟨hj,hx⟩;have hs:=hok _ (awl hi);rw[afm hi]at hj;have hnext:pvs f.F x (i+1)=f.F[i].A:=by simp [pvs,awL hi]
  have hp:0<i->∃h:i - 1<f.F.length,pvs f.F x i=f.F[i - 1].A:=fun h=>by
   obtain⟨j,rfl⟩:∃j,i=j+1:=⟨i - 1,by omega⟩;exact⟨by omega,by simp [pvs,awL (show j<f.F.length by omega)]⟩
  have hw:0<i->wr .i64 (aO (i:Int) 1)=((i - 1:Nat):Int):=fun h=>by
   rw[bf (by simp only[aO];omega) (by simp only[aO];omega)];simp only[aO];omega
  have hw8:x<f.F[i].A->wr .i64 (aO f.F[i].A 8)=f.F[i].A - 8:=fun h=>nY ⟨by simp only[aO];have:=hs.1;omega,by simp only[aO];have:=hs.2;omega⟩;have c1:=inb f.F i hi;simp only[oV];rw[au (by rw[dm];simpa using hi),au c1,aN f.F i hi];by_cases h0:0<i
  ·obtain⟨h1,h2⟩:=hp h0;rw[hw h0,au (by rw[aX];exact .inl (inb f.F (i - 1) h1)),aN f.F (i - 1) h1,hj,hnext,h2];rw[h2]at hx;by_cases hxs:x<f.F[i].A
   ·rw[hw8 hxs];simp only[jI,dF,af,aH,aQ,aX,bn,aG,aF,bg,bC,aY,bI,aI,aP,bG,bJ,awN,ne_eq,awK,awI,awy,awx,awO,reduceCtorEq];refine⟨fun h=> ?_,fun h=>⟨aZ (by omega),⟨fun g=>g.2.2,fun g=>⟨by omega,by omega,g⟩⟩,by omega⟩⟩;rintro⟨g1,g2,_⟩;omega
   ·simp only[jI,dF,af,aH,aQ,aX,bn,aG,aF,bg,bC,aY,bI,aI,aP,bG,bJ,awN,ne_eq,awK,awI,awy,awx,awO,reduceCtorEq];refine⟨fun h=> ?_,fun h=>by omega⟩;rintro⟨g1,g2,_⟩;omega
  ·have hz:i=0:=by omega
   subst hz;rw[au (by simp [bor,band,ax,ilt]),hj,hnext];by_cases hxs:x<f.F[0].A
   ·rw[hw8 hxs];simp only[jI,dF,af,aH,aQ,aX,bn,aG,aF,bg,bC,aY,bI,aI,aP,bG,bJ,awN,ne_eq,awK,awI,awy,awx,awO,reduceCtorEq];refine⟨fun h=> ?_,fun h=>⟨aZ (by omega),⟨fun g=>g.2.2,fun g=>⟨hxs,by omega,g⟩⟩,by omega⟩⟩;rintro⟨g1,g2,_⟩;omega
   ·simp only[jI,dF,af,aH,aQ,aX,bn,aG,aF,bg,bC,aY,bI,aI,aP,bG,bJ,awN,ne_eq,awK,awI,awy,awx,awO,reduceCtorEq];refine⟨fun h=> ?_,fun h=>by omega⟩;rintro⟨g1,g2,_⟩;have:pvs f.F x 0=x:=rfl;omega
 ·rintro q ⟨hj,_⟩;simp only[oV];rw[bK (by rw[show((f.F.length:Nat):Int)=len f.F from rfl];simp [ilt]),af];rw[axs]at hj;exact hj.2 trivial
 ·intro w hw
  match w,hw with
  |.inl b,h=>simp only[dK,af];simp [h.1,h.2]
  |.inr _,h=>
   simp only[dK,af];simp only[true_iff];exact⟨by omega,by omega,hl,h⟩
theorem av8 (k:Int) (o:aC) (z:Int):Dc k o z=vW k o z:=by
 unfold Dc vW;simp only[dn,zn,nO,ai,ati,anw];by_cases h1:k=1<;>by_cases h2:k=2<;>simp only[h1,h2,if_true,if_false]<;>(try omega)<;>
  by_cases h3:wE o<;>simp [h3,cnd,ax,band,bor,ai]<;>split<;>simp_all
theorem ahC:∀(l:List dV) (y:Int),(∀(j:Nat) (h:j<l.length),j<Dj l y->l[j].A=y+j)/\(∀h:Dj l y<l.length,l[Dj l y].A≠y+Dj l y)
 |[],y=>⟨fun j h=>by simp at h,fun h=>by simp at h⟩
 |n::r,y=>by
  obtain⟨h1,h2⟩:=ahC r (y+1)
  by_cases he:n.A=y
  ·have hr:Dj (n::r) y=Dj r (y+1)+1:=by simp [Dj,he]
   rw[hr]
   refine⟨fun j h hj=> ?_,fun h=> ?_⟩
   ·cases j with
    |zero=>simp [he]
    |succ j=>simp only[ayc];rw[h1 j (by simpa using h) (by omega)];omega
   ·have:=h2 (by simpa using h)
    simp only[ayc];omega
  ·have hr:Dj (n::r) y=0:=by simp [Dj,he]
   refine⟨fun j h hj=>by omega,fun h=> ?_⟩
   simp only[hr];simpa using he
theorem take_snoc {α:Type} {l:List α} {i:Nat} (h:i<l.length):l.take (i+1)=l.take i++[l[i]]:=by rw[awQ h]
theorem asU (f:jl) (n:dV) (x:Int) (hl:f.F.length<=8) (hx:1<=x/\x<=1000000001):
 bU (fun v:Int×List dV×List dV=>nR x f v.1 v.2.1 v.2.2) LF (0,[n],[])=some (n::f.F.take (Dj f.F (x+1)),f.F.drop (Dj f.F (x+1))):=by
 obtain⟨s1,s2⟩:=ahC f.F (x+1)
 have hk:=adM f.F (x+1)
 generalize Dj f.F (x+1)=k at s1 s2 hk ⊢
 refine Wq.eq (fG (n:=f.F.length) (by omega) (fun i v=>v.1=n::f.F.take (min i k)/\v.2=(f.F.take i).drop k) _ (fun i v hi hj=> ?_) (fun v hj=> ?_) _ 0 (awm _) ⟨by simp,by simp⟩)
 ·obtain⟨v1,v2⟩:=v
  obtain⟨rfl,rfl⟩:=hj
  have c1:=inb f.F i hi
  simp only[nR]
  rw[au (by rw[dm];simpa using hi),au (by rw[aX];exact .inl c1),aN f.F i hi]
  have hlen:len (n::f.F.take (min i k))=((min i k+1:Nat):Int):=by simp [len];omega
  have hw:wr .i64 (ay x (len (n::f.F.take (min i k))))=x+((min i k+1:Nat):Int):=by
   rw[hlen];exact bf (by simp only[ay];omega) (by simp only[ay];omega)
  have hl2:len ((f.F.take i).drop k)=((i - k:Nat):Int):=by simp [len];omega
  rw[hw]
  by_cases hik:i<k
  ·have hs:=s1 i hi hik
   rw[au (by rw[aH,aI,aI,hl2,hs];omega),au c1,au (by simp only[aJ,len];exact dW (by simp;omega)),af]
   refine⟨aZ (by omega),?_,?_⟩
   ·show aJ _ _=_
    simp only[aJ]
    rw[show min i k=i by omega,show min (i+1) k=i+1 by omega,take_snoc hi,axa]
   ·show(f.F.take i).drop k=_
    rw[axR (by simp;omega),axR (by simp;omega)]
  ·have hc:band (ieq (len ((f.F.take i).drop k)) 0) (ieq f.F[i].A (x+((min i k+1:Nat):Int)))=false:=by
    rw[aQ,aP,aP,hl2]
    by_cases hek:i=k
    ·subst hek
     right
     have:=s2 hi
     rw[Nat.min_self];omega
    ·left;omega
   rw[bK hc,au c1,au (by simp only[aJ,len];exact dW (by simp;omega)),af]
   refine⟨aZ (by omega),?_,?_⟩
   ·show n::f.F.take (min i k)=_
    rw[show min i k=k by omega,show min (i+1) k=k by omega]
   ·show aJ _ _=_
    simp only[aJ]
    rw[take_snoc hi,ax4 (by simp;omega)]
 ·obtain⟨v1,v2⟩:=v
  obtain⟨rfl,rfl⟩:=hj
  simp only[nR]
  rw[bK (by rw[show((f.F.length:Nat):Int)=len f.F from rfl];simp [ilt]),af]
  rw[Nat.min_eq_right hk,awq]
theorem au7 (f:jl) (n:dV) (hl:f.F.length<=8) {c:Nat} (hc:c<=f.F.length) (g1:∀(j:Nat) (h:j<f.F.length),j<c->f.F[j].A<n.A) (g2:∀(j:Nat) (h:j<f.F.length),c<=j->n.A<f.F[j].A):
 bU (fun v:Int×Bool×List dV=>iC n f v.1 v.2.1 v.2.2) LF (0,false,[])=some (decide (c<f.F.length),if c<f.F.length then f.F.take c++n::f.F.drop c else f.F):=by
 refine Wq.eq (fG (n:=f.F.length) (by omega) (fun i v=>v.1=decide (c<i)/\v.2=if c<i then f.F.take c++n::(f.F.take i).drop c else f.F.take i) _ (fun i v hi hj=> ?_) (fun v hj=> ?_) _ 0 (awm _) ⟨by simp,by simp⟩)
 ·obtain⟨v1,v2⟩:=v
  obtain⟨rfl,rfl⟩:=hj
  have c1:=inb f.F i hi
  simp only[iC]
  rw[au (by rw[dm];simpa using hi),au c1,aN f.F i hi]
  by_cases hic:i<c
  ·have hs:=g1 i hi hic
   rw[bK (by rw[aP];omega),au c1,bK (by rw[aQ,bC];left;omega),au c1,awg (by omega),au (by simp only[aJ,len];exact dW (by simp;omega)),af]
   refine⟨aZ (by omega),?_,?_⟩
   ·rw[ax5];simp;omega
   ·rw[awg (by omega),take_snoc hi];rfl
  ·have hs:=g2 i hi (by omega)
   rw[bK (by rw[aP];omega),au c1]
   by_cases hec:i=c
   ·subst hec
    rw[au (by rw[aH,bg,aG];exact⟨hs,by simp⟩),awg (by omega),au (by simp only[aJ,len];exact dW (by simp;omega)),au c1,au (by simp only[aJ,len];exact dW (by simp;omega)),af]
    refine⟨aZ (by omega),?_,?_⟩
    ·simp
    ·rw[awh (by omega),take_snoc hi,ax4 (by simp;omega)]
     simp [aJ,axR]
   ·rw[bK (by rw[aQ,aF];right;simp;omega),au c1,awh (by omega),au (by simp only[aJ,len];exact dW (by simp;omega)),af]
    refine⟨aZ (by omega),?_,?_⟩
    ·rw[ax5];simp;omega
    ·rw[awh (by omega),take_snoc hi,ax4 (by simp;omega)]
     simp [aJ]
 ·obtain⟨v1,v2⟩:=v
  obtain⟨rfl,rfl⟩:=hj
  simp only[iC]
  rw[bK (by rw[show((f.F.length:Nat):Int)=len f.F from rfl];simp [ilt]),af]
  rw[awq]
theorem auU (f:jl) (n:dV) (hl:f.F.length<=8) {c:Nat} (hc:c<f.F.length) (g0:f.F[c].A=n.A) (g1:∀(j:Nat) (h:j<f.F.length),j<c->f.F[j].A<n.A) (g2:∀(j:Nat) (h:j<f.F.length),c<j->n.A<f.F[j].A):
 bU (fun v:Int×Bool×List dV=>iC n f v.1 v.2.1 v.2.2) LF (0,false,[])=some (true,f.F):=by
 refine Wq.eq (fG (n:=f.F.length) (by omega) (fun i v=>v.1=decide (c<i)/\v.2=f.F.take i) _ (fun i v hi hj=> ?_) (fun v hj=> ?_) _ 0 (awm _) ⟨by simp,by simp⟩)
 ·obtain⟨v1,v2⟩:=v
  obtain⟨rfl,rfl⟩:=hj
  have c1:=inb f.F i hi
  simp only[iC]
  rw[au (by rw[dm];simpa using hi),au c1,aN f.F i hi]
  have hcap:ile (len (aJ (f.F.take i) [f.F[i]])) 68719476736=true:=by simp only[aJ,len];exact dW (by simp;omega)
  rcases ayf i c with h | h | h
  ·have hs:=g1 i hi h
   rw[bK (by rw[aP];omega),au c1,bK (by rw[aQ,bC];left;omega),au c1,au hcap,af]
   exact⟨aZ (by omega),by rw[ax5];simp;omega,by rw[take_snoc hi];rfl⟩
  ·subst h
   rw[au (by rw[aI];exact g0),au c1,bK (by rw[aQ];right;rfl),au c1,au hcap,af]
   exact⟨aZ (by omega),by simp,by rw[take_snoc hi];rfl⟩
  ·have hs:=g2 i hi h
   rw[bK (by rw[aP];omega),au c1,bK (by rw[aQ,aF];right;simpa using h),au c1,au hcap,af]
   exact⟨aZ (by omega),by rw[ax5];simp;omega,by rw[take_snoc hi];rfl⟩
 ·obtain⟨v1,v2⟩:=v
  obtain⟨rfl,rfl⟩:=hj
  simp only[iC]
  rw[bK (by rw[show((f.F.length:Nat):Int)=len f.F from rfl];simp [ilt]),af]
  rw[awq];simpa using hc
theorem ajz (f:jl) (n:dV) (x:Int) (hok:∀m∈f.F,inI m.A) (hn:inI n.A):zT f n x=some (rD f n x):=by
 refine Wq.eq ?_;unfold zT;refine(abn f x hok).bind fun b hb=> ?_;rw[dF];refine⟨fun h=>(af _).2 ?_,fun h=> ?_⟩
 ·simp only[aH,aQ,aX,bn,aG,aF,bg,bC,aY,bI,aI,aP,bG,bJ]at h;unfold rD;rw[awh];rintro⟨h1,h2,h3⟩;have:=hb.2 h1;rcases h with (h | h) | h
  ·rw[this]at h;cases h
  ·omega
  ·omega
 simp only[aH,aQ,aX,bn,aG,aF,bg,bC,aY,bI,aI,aP,bG,bJ]at h;have hf:=hb.1 h.1.1;unfold rD;rw[awg (fun g=>g ⟨hf,by omega,by omega⟩)];by_cases h3:n.A<x
 ·rw[au (pO h3),af,awh h3]
 rw[bK (nP h3),awg h3];have hx:=hf.1;have hx2:=hf.2.1;have hl:=hf.2.2.1;have hwr:wr .i64 (aO n.A x)=n.A - x:=nY ⟨by simp only[aO];omega,by simp only[aO];omega⟩;rw[hwr];by_cases h4:x+8<n.A
 ·rw[au (pO (by omega)),af,awh h4]
 rw[bK (nP (by omega)),awg h4];by_cases h5:n.A=x
 ·rw[au (by rw[aI];exact h5),awh h5,asU f n x hl ⟨hx,hx2⟩,ai,af]
 rw[bK (by rw[aP];exact h5),awg h5];obtain⟨⟨r1,r2⟩,_,c,_,hc,g1,g2,g3⟩:=ank (s:=n.A) hl hf.2.2.2 (by omega) (by omega) (by omega) (by omega);by_cases h6:∃m∈f.F,m.A=n.A
 ·rw[awh h6];obtain⟨m,hm,hme⟩:=h6;obtain⟨j,hj,rfl⟩:=axu hm;rw[auU f n hl hj hme (fun q hq hqj=>by have:=Rt hf.2.2.2 hqj hj;omega) (fun q hq hqj=>by have:=Rt hf.2.2.2 hqj hq;omega),ai,aK,aT,af]
 ·rw[awg h6];obtain⟨e1,e2⟩:=ajN hc g1 g2 h6;rw[au7 f n hl hc g1 (fun j hj hcj=>by have:=g2 j hj hcj;have:f.F[j].A≠n.A:=fun e=>h6 ⟨_,awl hj,e⟩;omega),ai];rw[<-e1,<-e2];by_cases hcl:c<f.F.length
  ·rw[awh hcl,awv hcl,aK,aT,af]
  ·have hce:c=f.F.length:=by omega
   rw[awg hcl,awR hcl,aW,aU,au (by simp only[aJ,len];exact dW (by simp;omega)),af];subst hce;simp [aJ]
theorem Ym (l:List jh) (hl:l.length<999999):jD l l=some true:=by
 refine Wq.eq ?_;unfold jD;rw[bK (by rw[aF,aI])];refine Wq.bind (ZB (l:=l) (m:=l) rfl hl (step:=fun v:Int×Bool=>lG l l v.1 v.2) (fun i h hh q=> ?_) (fun q=> ?_) _) fun w hw=> ?_
 ·simp only[lG];rw[au (by rw[dm];simpa using h),au (inb _ i h),au (inb _ i hh),aN _ i h,bK (by simp [ax,band,ieq]),af,aZ (by omega)];exact⟨fun _=>rfl,fun g=>absurd rfl g⟩
 ·simp only[lG];rw[bK (by rw[show((l.length:Nat):Int)=len l from rfl];simp [ilt])]
 ·match w,hw with
  |.inl b,h=>exact absurd rfl h.2
  |.inr _,_=>simp only[dK,af]
theorem apj (f:jl) (hl:f.F.length<999999):zN f f=some true:=by
 refine Wq.eq ?_;unfold zN;rw[bK (by rw[bn,aF,aF,aI,bG];exact⟨rfl,rfl⟩)];refine Wq.bind (ZB (l:=f.F) (m:=f.F) rfl hl (step:=fun v:Int×Bool=>qM f f v.1 v.2) (fun i h hh q=> ?_) (fun q=> ?_) _) fun w hw=> ?_
 ·simp only[qM];rw[au (by rw[dm];simpa using h),au (inb _ i h),au (inb _ i hh),aN _ i h,bK (by simp [ax,band,ieq]),af,aZ (by omega)];exact⟨fun _=>rfl,fun g=>absurd rfl g⟩
 ·simp only[qM];rw[bK (by rw[show((f.F.length:Nat):Int)=len f.F from rfl];simp [ilt])]
 ·match w,hw with
  |.inl b,h=>exact absurd rfl h.2
  |.inr _,_=>simp only[dK,af]
theorem aug (k:Int) (o:aC) (z:Int):∃m,vW k o z=some m:=by
 unfold vW;simp only[dn,nO,ai,anw];by_cases h1:k=1<;>by_cases h2:k=2<;>simp only[h1,h2,if_true,if_false]<;>
  by_cases h3:wE o<;>simp [h3,cnd,ax,band,bor,ai]<;>split<;>exact⟨_,rfl⟩
theorem aql {f:jl} {n:dV} {x:Int}:(rD f n x).1.F.length<=f.F.length+1/\(rD f n x).2.1.length<=f.F.length+1/\(∀m∈(rD f n x).1.F,m∈f.F\/m=n)/\(∀m∈(rD f n x).2.1,m∈f.F\/m=n):=by
 by_cases h0:(rD f n x).2.2=0
 ·have q:=anH h0;refine⟨?_,?_,q.mem,q.mem2⟩
  ·unfold rD;split
   ·simp
   split
   ·simp
   split
   ·simp
   split
   ·simp;omega
   split
   ·simp
   ·have h1:=azo (fun m:dV=>decide (m.A<n.A)) f.F;simp only[awn,awF];have:∀l:List dV,(l.filter fun m=>m.A<n.A).length+(l.filter fun m=>n.A<m.A).length<=l.length:=fun l=>by
     induction l with
     |nil=>simp
     |cons a r ih=>
      by_cases g1:a.A<n.A
      ·rw[azn (by simpa using g1),ayT (by simp;omega)];simp;omega
      ·by_cases g2:n.A<a.A
       ·rw[ayT (by simpa using g1),azn (by simpa using g2)];simp;omega
       ·rw[ayT (by simpa using g1),ayT (by simpa using g2)];simp;omega
    have:=this f.F;omega
  ·unfold rD;split
   ·simp
   split
   ·simp
   split
   ·simp
   split
   ·simp;omega
   split<;>simp
 ·have:(rD f n x)=(f,[],1):=by
   unfold rD at h0 ⊢;split
   ·rfl
   ·rename_i g;rw[awg g]at h0;exfalso;apply h0;split
    ·rfl
    split
    ·rfl
    split
    ·rfl
    split<;>rfl
  rw[this];exact⟨by simp,by simp,fun m hm=> .inl hm,fun m hm=>(by simp at hm)⟩
def P9 (c:UInt8):Prop:=(97<=c.toNat/\c.toNat<=122)\/(48<=c.toNat/\c.toNat<=57)\/c.toNat=46
instance (c:UInt8):Decidable (P9 c):=by unfold P9;infer_instance
def iZ (s:List UInt8):Prop:=(∀c∈s,P9 c)/\1<=s.length/\s.length<=16
instance (s:List UInt8):Decidable (iZ s):=by unfold iZ;infer_instance
theorem Ya:∀(x y:List UInt8),slt x y=decide (x<y)
 |[],[]=>by simp [slt,Op.bytesLess]
 |_::_,[]=>by simp [slt,Op.bytesLess]
 |[],_::_=>by simp [slt,Op.bytesLess]
 |a::x,b::y=>by
  have ih:=Ya x y
  unfold slt at*
  rw[Op.bytesLess,ih]
  simp only[List.cons_lt_cons_iff]
  by_cases h1:a<b<;>by_cases h2:a=b<;>by_cases h3:x<y<;>simp [h1,h2,h3]
theorem Qi (a:List UInt8):¬a<a:=List.lt_irrefl a
theorem OE {a b c:List UInt8} (h:a<b) (k:b<c):a<c:=List.lt_trans h k
theorem anC (a b:List UInt8):a<b\/a=b\/b<a:=by
 by_cases h:a<b
 ·exact .inl h
 ·by_cases k:b<a
  ·exact .inr (.inr k)
  ·exact .inr (.inl (List.le_antisymm (List.not_lt.1 k) (List.not_lt.1 h)))
theorem arw {n:Nat} (hn:n<999999) {step:Int×Bool->Option ((Int×Bool) ⊕ (Bool ⊕ Bool))} (P:Nat->Prop)
 (h:∀(i:Nat) (q:Bool),i<n->(∀j,j<i->P j)->Wq (step ((i:Int),q)) fun r=>match r with | .inl (k,_)=>k=((i+1:Nat):Int)/\P i | .inr (.inl b)=>b=false/\¬P i | .inr (.inr _)=>False)
 (he:∀q:Bool,Wq (step ((n:Int),q)) fun r=>match r with | .inr (.inr _)=>True | _=>False) (q0:Bool):
 Wq (bU step LF ((0:Int),q0)) fun w=>match w with | .inl b=>b=false/\¬∀i,i<n->P i | .inr _=>∀i,i<n->P i:=by
 refine fG (n:=n) hn (fun i _=>∀j,j<i->P j) _ (fun i q hi hj=>(h i q hi hj).mono fun r hr=> ?_) (fun q hj=>(he q).mono fun r hr=> ?_) q0 0 (awm _) (fun j hj=>by omega)
 ·match r,hr with
  |.inl (k,_),hr=>
   refine⟨hr.1,fun j hj2=> ?_⟩
   by_cases e:j=i
   ·subst e;exact hr.2
   ·exact hj j (by omega)
  |.inr (.inl b),hr=>exact⟨hr.1,fun g=>hr.2 (g i hi)⟩
  |.inr (.inr _),hr=>exact hr.elim
 ·match r,hr with
  |.inl _,hr=>exact hr.elim
  |.inr (.inl b),hr=>exact hr.elim
  |.inr (.inr _),_=>exact hj
theorem abb (l:List UInt8) (i:Nat) (h:i<l.length):SI l (itn (i:Int))=(l[i].toNat:Int):=by
 simp [SI,itn,h]
theorem En {α:Type} (l:List α):ilt ((l.length:Nat):Int) (len l)=false:=by
 rw[show((l.length:Nat):Int)=len l from rfl];simp [ilt]
theorem auS (c:UInt8):Qh (c.toNat:Int)=some (decide (P9 c)):=by
 refine Wq.dec ?_;unfold Qh P9;rw[af];simp only[aH,aQ,aX,bn,aG,aF,bg,bC,aY,bI,aI,aP,bG,bJ];omega
theorem Yh {s:List UInt8}:(∀i,i<s.length->∀h:i<s.length,P9 s[i])↔∀c∈s,P9 c:=by
 constructor
 ·intro h c hc;obtain⟨i,hi,rfl⟩:=ayp.1 hc;exact h i hi hi
 ·intro h i hi h2;exact h _ (awl h2)
theorem anY {s:List UInt8} (hs:s.length<999999):I4 s=some (decide (iZ s)):=by
 refine Wq.dec ?_;unfold I4;refine Wq.bind (arw (n:=s.length) (step:=fun v:Int×Bool=>BK (len s) s v.1 v.2) hs (fun i=>∀h:i<s.length,P9 s[i]) (fun i q hi hj=> ?_) (fun q=> ?_) false) fun w hw=> ?_
 ·simp only[BK];rw[au (by rw[dm];simpa using hi),au (inb s i hi),abb s i hi,auS,ai,cO,sN];split
  ·rename_i h;rw[af];exact⟨aZ (by omega),fun _=>h⟩
  ·rename_i h;rw[af];exact⟨rfl,fun g=>h (g hi)⟩
 ·simp only[BK];rw[bK (En s),af];trivial
 ·unfold iZ
  match w,hw with
  |.inl b,hw=>
   simp only[dK,af];rw[hw.1];constructor
   ·intro g;cases g
   ·intro g;exact absurd (Yh.2 g.1) hw.2
  |.inr q,hw=>
   simp only[dK,af,aH,aQ,aX,bn,aG,aF,bg,bC,aY,bI,aI,aP,bG,bJ,len];have:=Yh.1 hw;constructor
   ·intro g;exact⟨this,by omega,by omega⟩
   ·intro g;omega
theorem ai5 {s:List UInt8} (hs:s.length<999999):pX s=some (decide (iZ s)):=by
 refine Wq.dec ?_;unfold pX;refine Wq.bind (arw (n:=s.length) (step:=fun v:Int×Bool=>oC s v.1 v.2) hs (fun i=>∀h:i<s.length,P9 s[i]) (fun i q hi hj=> ?_) (fun q=> ?_) false) fun w hw=> ?_
 ·simp only[oC];rw[au (by rw[dm];simpa using hi),au (inb s i hi),abb s i hi,aZ (by omega)];simp only[jI,dF,af,aH,aQ,aX,bn,aG,aF,bg,bC,aY,bI,aI,aP,bG,bJ,awN,ne_eq,awK,awI,awy,awx,awO,reduceCtorEq];refine⟨fun h=>fun g=> ?_,fun h=>fun _=> ?_⟩
  ·have:=g hi;unfold P9 at this;omega
  ·unfold P9;omega
 ·simp only[oC];rw[bK (En s),af];trivial
 ·unfold iZ
  match w,hw with
  |.inl b,hw=>
   simp only[dK,af];rw[hw.1];constructor
   ·intro g;cases g
   ·intro g;exact absurd (Yh.2 g.1) hw.2
  |.inr q,hw=>
   simp only[dK,af,aH,aQ,aX,bn,aG,aF,bg,bC,aY,bI,aI,aP,bG,bJ,len];have:=Yh.1 hw;constructor
   ·intro g;exact⟨this,by omega,by omega⟩
   ·intro g;omega
def okF (f:aS):Prop:=iZ f.name/\0<=f.J/\f.J<=len f.data
instance (f:aS):Decidable (okF f):=by unfold okF;infer_instance
def gK (l:List aS):Nat:=(l.map (·.data.length)).sum
def J3 (l:List aS):Prop:=l.Pairwise fun f g=>f.name<g.name
instance (l:List aS):Decidable (J3 l):=by unfold J3;infer_instance
def BM (l:List aS):Prop:=(∀f∈l,okF f)/\J3 l
instance (l:List aS):Decidable (BM l):=by unfold BM;infer_instance
def fD (d:ak):Prop:=(0<=d.qZ/\d.qZ<=65536/\ -1<=d.T/\d.b.length<=64)/\BM d.b/\(gK d.b:Int)<=d.qZ
instance (d:ak):Decidable (fD d):=by unfold fD;infer_instance
def nameB (d:ak):Prop:=∀f∈d.b,f.name.length<999999
theorem gm {α:Type} {l:List α} {i:Nat} (h:i<l.length):l.take (i+1)=l.take i++[l[i]]:=by simp
theorem xX (a b:List aS):gK (a++b)=gK a+gK b:=by simp [gK]
theorem Uz (f:aS) (l:List aS):gK (f::l)=f.data.length+gK l:=by simp [gK]
theorem zi {l:List aS} {i:Nat} (h:i<l.length):gK (l.take (i+1))=gK (l.take i)+l[i].data.length:=by
 rw[gm h,xX];simp [gK]
theorem Fz (l:List aS) (i:Nat):gK (l.take i)<=gK l:=by
 have:=xX (l.take i) (l.drop i);rw[aw7]at this;omega
theorem A8 (a b:List aS):BM (a++b)↔BM a/\BM b/\∀f∈a,∀g∈b,f.name<g.name:=by
 unfold BM J3;rw[ayR];constructor
 ·rintro⟨h1,h2,h3,h4⟩;exact⟨⟨fun f hf=>h1 f (awM _ hf),h2⟩,⟨fun f hf=>h1 f (awD _ hf),h3⟩,h4⟩
 ·rintro⟨⟨h1,h2⟩,⟨h3,h4⟩,h5⟩;exact⟨fun f hf=>(awt.1 hf).elim (h1 f) (h3 f),h2,h4,h5⟩
theorem ahi (f:aS):BM [f]↔okF f:=by simp [BM,J3]
theorem aeS {l:List aS} {i:Nat} (h:i<l.length):BM (l.take (i+1))↔BM (l.take i)/\okF l[i]/\(0<i->∀g:i - 1<l.length,l[i - 1].name<l[i].name):=by
 rw[gm h,A8,ahi];constructor
 ·rintro⟨h1,h2,h3⟩;exact⟨h1,h2,fun hi g=>h3 _ (by rw[ayp];exact⟨i - 1,by rw[awu];omega,by simp⟩) _ (awC.2 rfl)⟩
 ·rintro⟨h1,h2,h3⟩;refine⟨h1,h2,fun f hf g hg=> ?_⟩;rw[awC.1 hg];obtain⟨j,hj,rfl⟩:=ayp.1 hf;rw[awu]at hj;rw[axI];have h4:=h3 (by omega) (by omega);by_cases e:j=i - 1
  ·subst e;exact h4
  ·have:=ax7.1 h1.2 j (i - 1) (by rw[awu];omega) (by rw[awu];omega) (by omega);rw[axI,axI]at this;exact OE this h4
theorem ahf {l:List aS} (h:BM l) (i:Nat):BM (l.take i):=by
 have:=(A8 (l.take i) (l.drop i)).1 (by rw[aw7];exact h);exact this.1
theorem I7 {d:ak} (hn:nameB d):xR d=some (decide (fD d)):=by
 refine Wq.dec ?_;unfold xR;rw[dF];refine⟨fun h=>(af _).2 ?_,fun h=> ?_⟩
 ·simp only[aH,aQ,aX,bn,aG,aF,bg,bC,aY,bI,aI,aP,bG,bJ,len]at h;unfold fD;constructor
  ·intro g;cases g
  ·rintro⟨g, -⟩;omega
 simp only[aH,aQ,aX,bn,aG,aF,bg,bC,aY,bI,aI,aP,bG,bJ,len]at h;have hl:d.b.length<=64:=by omega
 refine Wq.bind (Q:=fun w=>match w with
  |.inl b=>b=false/\¬fD d
  |.inr _=>fD d)
  (fG (n:=d.b.length) (step:=fun v:Int×Int×Bool=>Ai (len d.b) d.b d v.1 v.2.1 v.2.2) (by omega)
    (fun i x=>BM (d.b.take i)/\x.1=d.qZ - (gK (d.b.take i):Int)/\0<=x.1) _ ?_ ?_ _ 0 (awm _) ⟨by simp [BM,J3],by simp [gK],by simp only;omega⟩) ?_
 ·rintro i ⟨room,q⟩ hi ⟨h1,h2,h3⟩;simp only at h2 h3;simp only[Ai];rw[au (by rw[dm];simpa using hi),au (inb _ i hi),aN _ i hi,anY (hn _ (awl hi)),ai];have hu:=zi hi;have hg:=aeS hi;have e1:0<i->wr .i64 (aO (i:Int) 1)=((i - 1:Nat):Int):=fun h0=>by
   rw[aO,bf (by omega) (by omega)];omega
  have hgd:bor (band (ile 0 (wr .i64 (aO (i:Int) 1))) (ilt (wr .i64 (aO (i:Int) 1)) (len d.b))) (ax (band (ax (ax (decide (iZ d.b[i].name)))) (ilt 0 (i:Int))))=true:=by
   rw[aX];by_cases h0:0<i
   ·left;rw[e1 h0];exact inb _ _ (by omega)
   ·right;rw[aG,aQ];right;exact nP (by omega)
  rw[au hgd,dF];have prev:(0<i->∀g:i - 1<d.b.length,d.b[i - 1].name<d.b[i].name)↔band (ilt 0 (i:Int)) (ax (slt (aj d.b (itn (wr .i64 (aO (i:Int) 1)))).name d.b[i].name))=false:=by
   by_cases h0:0<i
   ·rw[e1 h0,aN _ _ (by omega:i - 1<d.b.length),Ya,pO (by omega),qU,aF,axW];exact⟨fun g=>g h0 (by omega),fun g _ _=>g⟩
   ·rw[nP (by omega),yU];simp [h0]
  refine⟨fun hb=>(af _).2 ⟨rfl,fun hd=> ?_⟩,fun hb=>(af _).2 ?_⟩
  ·have g1:=(hg.1 (ahf hd.2.1 (i+1)));have g2:=prev.1 g1.2.2;have g3:=Fz d.b (i+1);have g4:=hd.2.2;obtain⟨k1,k2,k3⟩:=g1.2.1;rw[g2]at hb;simp only[aH,aQ,aX,bn,aG,aF,bg,bC,aY,bI,aI,aP,bG,bJ,axD,len]at hb k3;rcases hb with (((hb | hb) | hb) | hb) | hb
   ·exact hb k1
   ·cases hb
   ·omega
   ·omega
   ·omega
  ·simp only[bn,aF,axW]at hb;obtain⟨⟨⟨⟨b1,b2⟩,b3⟩,b4⟩,b5⟩:=hb;have b6:=prev.2 b2;simp only[bC,len]at b3 b4 b5;have e2:wr .i64 (aO room (len d.b[i].data))=room - (d.b[i].data.length:Int):=by
    rw[aO,bf (by simp only[len];omega) (by simp only[len];omega)];rfl
   refine⟨aZ (by omega),hg.2 ⟨h1,⟨b1,b3,b4⟩,b6⟩,?_,?_⟩
   ·simp only;rw[e2,hu];omega
   ·simp only;rw[e2];omega
 ·rintro⟨room,q⟩ ⟨h1,h2,h3⟩;simp only[Ai];rw[bK (En _),af];rw[awq]at h1 h2;simp only at h2 h3;exact⟨by omega,h1,by omega⟩
 ·rintro(b | q) hw
  ·simp only[dK,af];simp [hw.1,hw.2]
  ·simp only[dK,af];simp [hw]
theorem Au {d:ak} (hn:nameB d):iV d=some (decide (fD d)):=by
 refine Wq.dec ?_;unfold iV;rw[dF];refine⟨fun h=>(af _).2 ?_,fun h=> ?_⟩
 ·simp only[aH,aQ,aX,bn,aG,aF,bg,bC,aY,bI,aI,aP,bG,bJ,len]at h;unfold fD;constructor
  ·intro g;cases g
  ·rintro⟨g, -⟩;omega
 simp only[aH,aQ,aX,bn,aG,aF,bg,bC,aY,bI,aI,aP,bG,bJ,len]at h;have hl:d.b.length<=64:=by omega
 refine Wq.bind (Q:=fun w=>match w with
  |.inl b=>b=false/\¬fD d
  |.inr x=>BM d.b/\x.1=(gK d.b:Int))
  (fG (n:=d.b.length) (step:=fun v:Int×Int×Bool=>nS d v.1 v.2.1 v.2.2) (by omega)
    (fun i x=>BM (d.b.take i)/\x.1=(gK (d.b.take i):Int)/\x.1<=65536*i) _ ?_ ?_ _ 0 (awm _) ⟨by simp [BM,J3],by simp [gK],by simp⟩) ?_
 ·rintro i ⟨n,q⟩ hi ⟨h1,h2,h3⟩;simp only at h2 h3;simp only[nS];rw[au (by rw[dm];simpa using hi),au (inb _ i hi),aN _ i hi,ai5 (hn _ (awl hi)),ai];have hu:=zi hi;have hg:=aeS hi;have e1:0<i->wr .i64 (aO (i:Int) 1)=((i - 1:Nat):Int):=fun h0=>by
   rw[aO,bf (by omega) (by omega)];omega
  have prev:(0<i->∀g:i - 1<d.b.length,d.b[i - 1].name<d.b[i].name)↔band (ilt 0 (i:Int)) (bor (slt d.b[i].name (aj d.b (itn (wr .i64 (aO (i:Int) 1)))).name) (seq d.b[i].name (aj d.b (itn (wr .i64 (aO (i:Int) 1)))).name))=false:=by
   by_cases h0:0<i
   ·rw[e1 h0,aN _ _ (by omega:i - 1<d.b.length),Ya,pO (by omega),qU,bn,afq,axD];constructor
    ·intro g;have g1:=g h0 (by omega);exact⟨fun g2=>Qi _ (OE g1 g2),fun g2=>Qi _ (g2▸g1)⟩
    ·rintro⟨g1,g2⟩ _ _;rcases anC d.b[i - 1].name d.b[i].name with g | g | g
     ·exact g
     ·exact absurd g.symm g2
     ·exact absurd g g1
   ·rw[nP (by omega),yU];simp [h0]
  have hgd:bor (band (ile 0 (wr .i64 (aO (i:Int) 1))) (ilt (wr .i64 (aO (i:Int) 1)) (len d.b))) (ax (ilt 0 (i:Int)))=true:=by
   rw[aX];by_cases h0:0<i
   ·left;rw[e1 h0];exact inb _ _ (by omega)
   ·right;rw[aG];exact nP (by omega)
  rw[dF];have hall:fD d->BM (d.b.take i)/\okF d.b[i]/\(0<i->∀g:i - 1<d.b.length,d.b[i - 1].name<d.b[i].name)/\d.b[i].data.length<=65536:=fun hd=>by
   have g1:=(hg.1 (ahf hd.2.1 (i+1)));have g3:=Fz d.b (i+1);have g4:=hd.2.2;exact⟨g1.1,g1.2.1,g1.2.2,by omega⟩
  refine⟨fun hb=>(af _).2 ⟨rfl,fun hd=> ?_⟩,fun hb=> ?_⟩
  ·obtain⟨g1,⟨k1,k2,k3⟩,g3,g4⟩:=hall hd;simp only[aH,aQ,aX,bn,aG,aF,bg,bC,aY,bI,aI,aP,bG,bJ,axD,len]at hb k3;rcases hb with ((hb | hb) | hb) | hb
   ·exact hb k1
   ·omega
   ·omega
   ·omega
  rw[au hgd,dF];refine⟨fun hb2=>(af _).2 ⟨rfl,fun hd=> ?_⟩,fun hb2=>(af _).2 ?_⟩
  ·rw[prev.1 (hall hd).2.2.1]at hb2;cases hb2
  ·simp only[bn,aF,axW]at hb;obtain⟨⟨⟨b1,b3⟩,b4⟩,b5⟩:=hb;have b6:=prev.2 hb2;simp only[bC,len]at b3 b4 b5;have e2:wr .i64 (ay n (len d.b[i].data))=n+(d.b[i].data.length:Int):=by
    rw[ay,bf (by simp only[len];omega) (by simp only[len];omega)];rfl
   refine⟨aZ (by omega),hg.2 ⟨h1,⟨b1,b3,b4⟩,b6⟩,?_,?_⟩
   ·simp only;rw[e2,hu];omega
   ·simp only;rw[e2];omega
 ·rintro⟨n,q⟩ ⟨h1,h2,h3⟩;simp only[nS];rw[bK (En _),af];rw[awq]at h1 h2;exact⟨h1,h2⟩
 ·rintro(b | q) hw
  ·simp only[dK,af];simp [hw.1,hw.2]
  ·simp only[dK,af,hw.2];unfold fD;simp only[aH,aQ,aX,bn,aG,aF,bg,bC,aY,bI,aI,aP,bG,bJ];constructor
   ·intro g;exact⟨⟨by omega,by omega,by omega,hl⟩,hw.1,g⟩
   ·intro g;exact g.2.2
abbrev Nm:=List UInt8
def dN (l:List aS) (n:Nm):Option aS:=l.find? fun f=>decide (f.name=n)
def zA (n:Nm) (l:List aS):List aS:=l.filter fun f=>decide (f.name≠n)
def uq (f:aS):List aS->List aS
 |[]=>[f]
 |g::r=>if g.name<f.name then g::uq f r else f::zA f.name (g::r)
theorem Kt {n:Nm} {l:List aS} (h:∀f∈l,f.name≠n):zA n l=l:=by
 unfold zA;rw[ay6];intro f hf;simpa using h f hf
theorem WQ (n:Nm) (a b:List aS):zA n (a++b)=zA n a++zA n b:=by simp [zA]
theorem Gu (n:Nm) (f:aS) (b:List aS):zA n (f::b)=if f.name=n then zA n b else f::zA n b:=by
 unfold zA;rw[List.filter_cons];by_cases h:f.name=n<;>simp [h]
theorem acL {n:Nm} {l:List aS} (h:∀f∈l,f.name≠n):dN l n=none:=by
 unfold dN;rw[List.find?_eq_none];intro f hf;simpa using h f hf
theorem P5 {n:Nm} {a:List aS} (h:∀f∈a,f.name≠n) (b:List aS):dN (a++b) n=dN b n:=by
 unfold dN;rw[List.find?_append];have:=acL h;unfold dN at this;rw[this];rfl
theorem uy (n:Nm) (f:aS) (b:List aS):dN (f::b) n=if f.name=n then some f else dN b n:=by
 unfold dN;rw[List.find?_cons];by_cases h:f.name=n<;>simp [h]
theorem BQ {n:Nm} {l:List aS} {f:aS} (h:dN l n=some f):f∈l/\f.name=n:=
 ⟨List.mem_of_find?_eq_some h,by simpa using List.find?_some h⟩
theorem Hu {a b:Nm} (h:a<b):a≠b:=fun e=>Qi _ (e▸h)
inductive rF (n:Nm):List aS->Nat->Option aS->Prop
 |no (a b:List aS) (ha:∀f∈a,f.name<n) (hb:∀f∈b,n<f.name):rF n (a++b) a.length none
 |yes (a:List aS) (f:aS) (b:List aS) (e:f.name=n) (ha:∀f∈a,f.name<n) (hb:∀f∈b,n<f.name):rF n (a++f::b) a.length (some f)
theorem rF.get {n:Nm} {l:List aS} {i:Nat} {o:Option aS} (h:rF n l i o):dN l n=o:=by
 cases h with
 |no a b ha hb=>exact acL fun f hf=>(awt.1 hf).elim (fun h=>Hu (ha f h)) (fun h=>(Hu (hb f h)).symm)
 |yes a f b e ha hb=>rw[P5 fun f h=>Hu (ha f h),uy,awh e]
theorem rF.le {n:Nm} {l:List aS} {i:Nat} {o:Option aS} (h:rF n l i o):i<=l.length:=by
 cases h<;>simp
theorem rF.lt {n:Nm} {l:List aS} {i:Nat} {f:aS} (h:rF n l i (some f)):∃g:i<l.length,l[i]=f/\f.name=n:=by
 cases h with
 |yes a f b e ha hb=>exact⟨by simp,by simp,e⟩
theorem DT {f:aS} {a:List aS} (ha:∀g∈a,g.name<f.name) (b:List aS):uq f (a++b)=a++uq f b:=by
 induction a with
 |nil=>rfl
 |cons g a ih=>
  rw[axa,uq,awh (ha g (aw0 ..)),ih fun g hg=>ha g (awX _ hg)];rfl
theorem PE {f:aS} {b:List aS} (hb:∀g∈b,f.name<g.name):uq f b=f::b:=by
 cases b with
 |nil=>rfl
 |cons g b=>rw[uq,awg fun h=>Qi _ (OE h (hb g (aw0 ..))),Kt fun g hg=>(Hu (hb g hg)).symm]
theorem adT {f g:aS} {b:List aS} (e:g.name=f.name) (hb:∀g∈b,f.name<g.name):uq f (g::b)=f::b:=by
 rw[uq,awg (e▸Qi _),Gu,awh e,Kt fun g hg=>(Hu (hb g hg)).symm]
theorem rF.ins {n:Nm} {l:List aS} {i:Nat} {f:aS} (h:rF n l i none) (e:f.name=n):l.take i++f::l.drop i=uq f l:=by
 subst e;cases h with
 |no a b ha hb=>rw[DT ha,PE hb];simp
theorem rF.set {n:Nm} {l:List aS} {i:Nat} {f g:aS} (h:rF n l i (some g)) (e:f.name=n):l.set i f=uq f l:=by
 subst e;cases h with
 |yes a g b e ha hb=>rw[DT ha,adT e hb];simp
theorem rF.del {n:Nm} {l:List aS} {i:Nat} {g:aS} (h:rF n l i (some g)):l.eraseIdx i=zA n l:=by
 cases h with
 |yes a g b e ha hb=>
  rw[WQ,Gu,awh e,Kt fun g hg=>Hu (ha g hg),Kt fun g hg=>(Hu (hb g hg)).symm,azu (awk _)];simp
theorem aaD {l:List aS} (h:J3 l) {i j:Nat} (hij:i<j) (hj:j<l.length):l[i].name<l[j].name:=
 ax7.1 h i j (by omega) hj hij
theorem ao9 {l:List aS} (h:J3 l) {n:Nm} {i:Nat} (hi:i<=l.length) (h1:∀(j:Nat) (h:j<l.length),j<i->l[j].name<n) (h2:∀(j:Nat) (h:j<l.length),i<=j->¬l[j].name<n):
 rF n l i (if g:i<l.length then if l[i].name=n then some l[i]else none else none):=by
 have ha:∀f∈l.take i,f.name<n:=fun f hf=>by
  obtain⟨j,hj,rfl⟩:=ayp.1 hf
  rw[awu]at hj
  rw[axI]
  exact h1 j (by omega) (by omega)
 have hle:(l.take i).length=i:=by rw[awu];omega
 by_cases g:i<l.length
 ·rw[awJ g]
  have hb:∀f∈l.drop (i+1),l[i].name<f.name:=fun f hf=>by
   obtain⟨j,hj,rfl⟩:=ayp.1 hf
   rw[awP]at hj
   rw[axH]
   exact aaD h (by omega) (by omega)
  have e:l.take i++l[i]::l.drop (i+1)=l:=by rw[<-axe g,aw7]
  by_cases k:l[i].name=n
  ·rw[awh k]
   have:=rF.yes (l.take i) l[i] (l.drop (i+1)) k ha (k▸hb)
   rwa[e,hle]at this
  ·rw[awg k]
   have hlt:n<l[i].name:=by
    rcases anC n l[i].name with c | c | c
    ·exact c
    ·exact absurd c.symm k
    ·exact absurd c (h2 i g (awk _))
   have:=rF.no (l.take i) (l[i]::l.drop (i+1)) ha (fun f hf=>by
    rcases aww.1 hf with c | c
    ·subst c;exact hlt
    ·exact OE hlt (hb f c))
   rwa[e,hle]at this
 ·rw[awU g]
  have:=rF.no (l.take i) [] ha (by simp)
  rw[axn,hle,aw5 (by omega)]at this
  exact this
theorem aoE (n:Nat) (h:n<1000000000):wr .i64 (dw .u64 (wr .u64 (wr .i64 (n:Int))) 1)=((n / 2:Nat):Int):=by
 have e1:wr .i64 (n:Int)=n:=bf (by omega) (by omega);have e2:wr .u64 (n:Int)=n:=by rw[rE];omega
 have e3:dw .u64 (n:Int) 1=((n / 2:Nat):Int):=by
  unfold dw;simp [Int.shiftRight_eq_div_pow,IntKind.bits,IntKind.signed];exact ayj _ (by decide)
 rw[e1,e2,e3,bf (by omega) (by omega)]
theorem anz (a b:Nm):ail a b<0↔a<b:=by
 unfold ail;rw[Ya,sN];by_cases h:a<b
 ·simp [h]
 ·rw[awg h];cases seq a b<;>simp [cnd,h]
theorem anE (a b:Nm):ail a b=0↔a=b:=by
 unfold ail;rw[Ya,sN];by_cases h:a<b
 ·simp [h,Hu h]
 ·rw[awg h];by_cases k:a=b
  ·rw[au (by rw[adn];exact k)];simp [k]
  ·rw[bK (by rw[afq];exact k)];simp [k]
theorem WA {d:ak} {n:Nm} (ha:J3 d.b) (hl:d.b.length<=100000):
 Wq (jL d n) fun r=>∃(i:Nat) (o:Option aS),r.1=(i:Int)/\rF n d.b i o/\r.2=o.isSome:=by
 unfold jL
 refine Wq.bind (Q:=fun w:Int=>∃i:Nat,w=(i:Int)/\i<=d.b.length/\(∀(j:Nat) (h:j<d.b.length),j<i->d.b[j].name<n)/\(∀(j:Nat) (h:j<d.b.length),i<=j->¬d.b[j].name<n))
  (Qs (step:=fun x:Int×Int=>fV d.b n x.1 x.2) (fun v=>(v.1 - v.2).toNat)
    (fun x=>∃lo hi:Nat,x=((hi:Int),(lo:Int))/\lo<=hi/\hi<=d.b.length/\(∀(j:Nat) (h:j<d.b.length),j<lo->d.b[j].name<n)/\(∀(j:Nat) (h:j<d.b.length),hi<=j->¬d.b[j].name<n)) _ ?_ LF _ (Zb (by simp only[len];omega)) ⟨0,d.b.length,rfl,awm _,awk _,fun j _ h=>by omega,fun j h1 h2=>by omega⟩) ?_
 ·rintro _ ⟨lo,hi,rfl,g1,g2,g3,g4⟩
  simp only[fV]
  rw[dF]
  refine⟨fun h=> ?_,fun h=>(af _).2 ?_⟩
  ·rw[bg]at h
   have e1:wr .i64 (dw .u64 (wr .u64 (wr .i64 (ay (lo:Int) (hi:Int)))) 1)=(((lo+hi) / 2:Nat):Int):=by
    rw[<-aoE (lo+hi) (by omega)];unfold ay;rw[Int.natCast_add]
   have hm:(lo+hi) / 2<d.b.length:=by omega
   rw[e1,au (inb _ _ hm),aN _ _ hm,yu,ai,dF,af,af]
   refine⟨fun h2=> ?_,fun h2=> ?_⟩
   ·rw[bg,anz]at h2
    refine⟨⟨(lo+hi) / 2+1,hi,by rw[aZ (by omega)],by omega,g2,fun j hj h3=> ?_,g4⟩,?_⟩
    ·rcases ayh j ((lo+hi) / 2)with h4 | h4
     ·exact OE (aaD ha h4 hm) h2
     ·have:j=(lo+hi) / 2:=by omega
      subst this;exact h2
    ·simp only;rw[aZ (by omega)];omega
   ·rw[bC]at h2
    have h2':¬d.b[(lo+hi) / 2].name<n:=by rw[<-anz];omega
    refine⟨⟨lo,(lo+hi) / 2,rfl,by omega,by omega,g3,fun j hj h3=> ?_⟩,?_⟩
    ·rcases ayh ((lo+hi) / 2) j with h4 | h4
     ·exact fun g=>h2' (OE (aaD ha h4 hj) g)
     ·have:j=(lo+hi) / 2:=by omega
      subst this;exact h2'
    ·simp only;omega
  ·rw[bC]at h
   have:lo=hi:=by omega
   subst this
   exact⟨lo,rfl,g2,g3,g4⟩
 rintro _ ⟨i,rfl,hi,g1,g2⟩
 have hs:=ao9 ha hi g1 g2
 by_cases hil:i<d.b.length
 ·have h1:ilt (i:Int) (len d.b)=true:=pO (by simp only[len];omega)
  rw[au (by rw[aX];exact .inl (inb _ i hil)),au h1,aN _ i hil,yu,ai,af]
  refine⟨i,_,rfl,hs,?_⟩
  rw[awJ hil,h1,qU]
  by_cases k:d.b[i].name=n
  ·rw[awh k];show ieq _ 0=true;rw[aI,anE];exact k
  ·rw[awg k];show ieq _ 0=false;rw[aP,ne_eq,anE];exact k
 ·have h1:ilt (i:Int) (len d.b)=false:=nP (by simp only[len];omega)
  rw[au (by rw[aX,aG];exact .inr h1),bK h1,af]
  refine⟨i,_,rfl,hs,?_⟩
  rw[awU hil,h1];rfl
theorem WX {d:ak} {n:Nm} (ha:J3 d.b) (hl:d.b.length<=100000):
 Wq (gY d n) fun r=>(r= -1/\dN d.b n=none)\/∃(i:Nat) (h:i<d.b.length),r=(i:Int)/\dN d.b n=some d.b[i]:=by
 unfold gY
 refine Wq.bind (Q:=fun w:Int ⊕ Int=>match w with
  |.inl k=>∃(i:Nat) (h:i<d.b.length),k=(i:Int)/\dN d.b n=some d.b[i]
  |.inr _=>∀f∈d.b,f.name≠n)
  (fG (n:=d.b.length) (step:=fun v:Int×Int=>qI n d v.1 v.2) (by omega) (fun i x=>∀f∈d.b.take i,f.name≠n) _ ?_ ?_ _ 0 (awm _) (by simp)) ?_
 ·rintro i x hi hx
  simp only[qI]
  rw[au (by rw[dm];simpa using hi),au (inb _ i hi),aN _ i hi,dF]
  refine⟨fun he=>(af _).2 ⟨i,hi,rfl,?_⟩,fun he=>(af _).2 ⟨aZ (by omega),?_⟩⟩
  ·rw[adn]at he
   have:dN (d.b.take i++d.b.drop i) n=some d.b[i]:=by rw[P5 hx,axe hi,uy,awh he]
   rwa[aw7]at this
  ·rw[afq]at he
   rw[gm hi]
   intro f hf
   rcases awt.1 hf with c | c
   ·exact hx f c
   ·rw[awC.1 c];exact he
 ·rintro x hx
  simp only[qI]
  rw[bK (En _),af]
  rwa[awq]at hx
 ·rintro(w | w) hw
  ·simp only[dK,af];obtain⟨i,h,e,g⟩:=hw;exact .inr ⟨i,h,e,g⟩
  ·simp only[dK,af];exact .inl ⟨trivial,acL hw⟩
def gG (d:ak) (ns:List Nm):Int:=if ¬fD d then 1 else if d.Q=true then 9 else if ∀n∈ns,iZ n then 0 else 1
def dG (d:ak):ak×Bool:=if d.T=0 then (⟨d.b,d.qZ,d.T,true⟩,false)else if d.T= -1 then (d,true)else (⟨d.b,d.qZ,d.T - 1,d.Q⟩,true)
def Ad (d:ak) (f:aS):ak:=⟨uq f d.b,d.qZ,d.T,d.Q⟩
def acB (d:ak) (n:Nm):ak:=⟨zA n d.b,d.qZ,d.T,d.Q⟩
theorem aiV {α:Type} (a b:Nm) (x y:α):cnd (seq a b) x y=if a=b then x else y:=by
 by_cases h:a=b
 ·rw[awh h,au (by rw[adn];exact h)]
 ·rw[awg h,bK (by rw[afq];exact h)]
theorem jc {d:ak} {ns:List Nm}:gG d ns=0↔fD d/\d.Q=false/\∀n∈ns,iZ n:=by
 unfold gG;by_cases h1:fD d
 ·cases h2:d.Q
  ·by_cases h3:∀n∈ns,iZ n
   ·simp [h1,h3]
   ·simp [h1,h3]
  ·simp [h1]
 ·simp [h1]
theorem alO (d:ak) (a b:Nm):gG d [a,b]=gG d [b,a]:=by
 unfold gG;have:(∀n∈[a,b],iZ n)↔∀n∈[b,a],iZ n:=by simp [and_comm]
 by_cases h:∀n∈[a,b],iZ n
 ·simp only[awh h,awh (this.1 h)]
 ·simp only[awg h,awg (fun g=>h (this.2 g))]
theorem Qo (d:ak) (a:Nm):gG d [a,a]=gG d [a]:=by
 unfold gG;have:(∀n∈[a,a],iZ n)↔∀n∈[a],iZ n:=by simp
 by_cases h:∀n∈[a],iZ n
 ·simp only[awh h,awh (this.2 h)]
 ·simp only[awg h,awg (fun g=>h (this.1 g))]
theorem Yi {d:ak} {ns:List Nm} (hn:nameB d) (hs:∀n∈ns,n.length<999999) (hl:ns.length<1000):vI d ns=some (gG d ns):=by
 refine Wq.eq ?_;unfold vI gG;rw[I7 hn,ai,cO,sN];by_cases hd:fD d
 case neg=>rw[awg hd,af];simp [hd]
 rw[awh hd];cases hw:d.Q
 case true=>rw[aU,af];simp [hd]
 rw[aT]
 refine Wq.bind (Q:=fun w:Int ⊕ Int=>match w with
  |.inl k=>0<=k/\¬∀n∈ns,iZ n
  |.inr _=>∀n∈ns,iZ n)
  (fG (n:=ns.length) (step:=fun v:Int×Int=>eX (len ns) ns v.1 v.2) (by omega) (fun i x=>∀n∈ns.take i,iZ n) _ ?_ ?_ _ 0 (awm _) (by simp)) ?_
 ·rintro i x hi hx;simp only[eX];rw[au (by rw[dm];simpa using hi),au (inb _ i hi),aN _ i hi,anY (hs _ (awl hi)),ai,cO,sN];split
  ·rename_i g;refine(af _).2 ⟨aZ (by omega),?_⟩;rw[gm hi];intro f hf;rcases awt.1 hf with c | c
   ·exact hx f c
   ·rw[awC.1 c];exact g
  ·rename_i g;exact(af _).2 ⟨by omega,fun h=>g (h _ (awl hi))⟩
 ·rintro x hx;simp only[eX];rw[bK (En _),af];rwa[awq]at hx
 ·rintro(w | w) hw2
  ·simp only[dK];rw[au (dW hw2.1),af,awg (fun h=>h hd),awg (by simp),awg hw2.2]
  ·simp only[dK];rw[af,awg (fun h=>h hd),awg (by simp),awh hw2]
theorem S9 {d:ak} {a b:Nm} (hn:nameB d) (ha:a.length<999999) (hb:b.length<999999):jK d a b=some (gG d [a,b]):=by
 refine Wq.eq ?_;unfold jK gG;rw[Au hn,ai,cO,sN];by_cases hd:fD d
 case neg=>rw[awg hd,af];simp [hd]
 rw[awh hd];cases hw:d.Q
 case true=>rw[aU,af];simp [hd]
 rw[aT,ai5 ha,ai,ai5 hb,awg (show ¬¬fD d from fun h=>h hd),awg (show ¬(false=true) by simp)];by_cases h1:iZ a
 ·rw[awv h1,aK,aW,aU,ai,dI,cO,sN];by_cases h2:iZ b
  ·rw[awh h2,af,awh (by simp [h1,h2])]
  ·rw[awg h2,af,awg (by simp [h1,h2])]
 ·rw[awR h1,aW,aK,aT,ai,kH,aU,af,awg (by simp [h1])]
theorem abl {d:ak} (hf: -1<=d.T) (hf2:inI d.T):iE d=some (dG d):=by
 unfold iE dG;rw[dn,xB];unfold inI at hf2;by_cases h0:d.T=0
 ·rw[awh h0,awh h0]
 rw[awg h0,awg h0];by_cases h1:d.T= -1
 ·rw[awg (by omega),awh h1]
 ·rw[awh (by omega),awg h1,nY ⟨by simp only[aO];omega,by simp only[aO];omega⟩];rfl
theorem al8 {l:List aS} (h:gK l<=10000000) {f:aS} (hf:f∈l):f.data.length<=10000000:=by
 obtain⟨i,hi,rfl⟩:=ayp.1 hf;have:=zi hi;have:=Fz l (i+1);omega
theorem aud {d:ak} (hl:d.b.length<999999) (hu:gK d.b<=10000000):PI d=some (gK d.b:Int):=by
 refine Wq.eq ?_;unfold PI;refine Wq.bind (fG (n:=d.b.length) (step:=fun v:Int×Int=>Ee (len d.b) d.b v.1 v.2) hl (fun i x=>x=(gK (d.b.take i):Int)) (fun w=>w=(gK d.b:Int)) ?_ ?_ 0 0 (awm _) (by simp [gK])) ?_
 ·rintro i x hi rfl;simp only[Ee];rw[au (by rw[dm];simpa using hi),au (inb _ i hi),aN _ i hi,af];have h1:=zi hi;have h2:=Fz d.b (i+1);refine⟨aZ (by omega),?_⟩;rw[ay,bf (by simp only[len];omega) (by simp only[len];omega)];simp only[len];omega
 ·rintro x rfl;simp only[Ee];rw[bK (En _),af,awq]
 ·rintro w rfl;exact(af _).2 rfl
theorem arA {d:ak} (hl:d.b.length<999999) (hu:gK d.b<=10000000):uO d=some (gK d.b:Int):=by
 refine Wq.eq ?_;unfold uO;refine Wq.bind (fG (n:=d.b.length) (step:=fun v:Int×Int=>qy d v.1 v.2) hl (fun i x=>x=(gK (d.b.take i):Int)) (fun w=>w=(gK d.b:Int)) ?_ ?_ 0 0 (awm _) (by simp [gK])) ?_
 ·rintro i x hi rfl;simp only[qy];rw[au (by rw[dm];simpa using hi),au (inb _ i hi),aN _ i hi,af];have h1:=zi hi;have h2:=Fz d.b (i+1);refine⟨aZ (by omega),?_⟩;rw[ay,bf (by simp only[len];omega) (by simp only[len];omega)];simp only[len];omega
 ·rintro x rfl;simp only[qy];rw[bK (En _),af,awq]
 ·rintro w rfl;exact(af _).2 rfl
theorem XA (n:Nm) (l:List aS):(zA n l).length<=l.length:=azo ..
theorem afa {d:ak} {n:Nm} (hl:d.b.length<99999):qw d n=some (acB d n):=by
 refine Wq.eq ?_;unfold qw;refine Wq.bind (fG (n:=d.b.length) (step:=fun v:Int×List aS=>lT n d v.1 v.2) (by omega) (fun i x=>x=zA n (d.b.take i)) (fun w=>w=zA n d.b) ?_ ?_ [] 0 (awm _) (by simp [zA])) ?_
 ·rintro i x hi rfl;simp only[lT];have h1:=XA n (d.b.take i);rw[awu]at h1;rw[au (by rw[dm];simpa using hi),au (inb _ i hi),au (inb _ i hi),aN _ i hi,cO,aiV,au (dW (by simp only[len,aJ,awn,awY];omega)),gm hi,WQ,Gu];split
  ·rw[af];exact⟨aZ (by omega),by simp [zA]⟩
  ·rw[af];exact⟨aZ (by omega),rfl⟩
 ·rintro x rfl;simp only[lT];rw[bK (En _),af,awq]
 ·rintro w rfl;exact(af _).2 rfl
theorem adR {d:ak} {f:aS} (hl:d.b.length<99999):iQ d f=some (Ad d f):=by
 refine Wq.eq ?_;unfold iQ
 refine Wq.bind (fG (n:=d.b.length) (step:=fun v:Int×Bool×List aS=>o9 f d v.1 v.2.1 v.2.2) (by omega)
  (fun i x=>(x.2++if x.1=true then zA f.name (d.b.drop i)else uq f (d.b.drop i))=uq f d.b/\x.2.length<=i+if x.1=true then 1 else 0) (fun w=>(w.2++if w.1=true then []else [f])=uq f d.b/\w.2.length<=d.b.length+1) ?_ ?_ (false,[]) 0 (awm _) (by simp)) ?_
 ·rintro i ⟨q,x⟩ hi ⟨h1,h2⟩;simp only at h1 h2;have h2':x.length<=i+1:=by split at h2<;>omega
  simp only[o9];have g1:ile (len (aJ x [f])) 68719476736=true:=dW (by simp only[len,aJ,awn,awY];omega);have g2:ile (len (aJ (aJ x [f]) [d.b[i]])) 68719476736=true:=dW (by simp only[len,aJ,awn,awY];omega);have g3:ile (len (aJ x [d.b[i]])) 68719476736=true:=dW (by simp only[len,aJ,awn,awY];omega);rw[au (by rw[dm];simpa using hi),au (by rw[aX];exact .inl (inb _ i hi))];simp only[au (inb d.b i hi),aN _ i hi,au g1,au g2,au g3,cO];rw[axe hi]at h1;cases q
  ·simp only[axA,if_false,uq]at h1 h2;rw[aW,qU,cO,Ya,sN];by_cases hlt:d.b[i].name<f.name
   ·rw[awh hlt]at h1 ⊢;rw[bK (by rw[afq];exact Hu hlt),af];exact⟨aZ (by omega),by simpa [aJ] using h1,by simp [aJ];omega⟩
   ·rw[awg hlt,Gu]at h1;rw[awg hlt,aiV];by_cases e:d.b[i].name=f.name
    ·rw[awh e]at h1 ⊢;rw[af];exact⟨aZ (by omega),by simpa [aJ] using h1,by simp [aJ];omega⟩
    ·rw[awg e]at h1 ⊢;rw[af];exact⟨aZ (by omega),by simpa [aJ] using h1,by simp [aJ];omega⟩
  ·simp only[if_true,Gu]at h1 h2;rw[aK,yU,aT,aiV];by_cases e:d.b[i].name=f.name
   ·rw[awh e]at h1 ⊢;rw[af];exact⟨aZ (by omega),by simpa [aJ] using h1,by simp;omega⟩
   ·rw[awg e]at h1 ⊢;rw[af];exact⟨aZ (by omega),by simpa [aJ] using h1,by simp [aJ];omega⟩
 ·rintro⟨q,x⟩ ⟨h1,h2⟩;simp only[o9];rw[bK (En _),af];refine⟨?_,by split at h2<;>simp only at h2 ⊢ <;>omega⟩
  simp only[axs]at h1;simpa [zA,uq] using h1
 ·rintro⟨q,x⟩ ⟨h1,h2⟩;simp only at h1 h2;rw[au (x:=some _) (dW (by simp only[len,aJ,awn,awY];omega))];cases q
  ·rw[aW,aU,af];unfold Ad;rw[<-h1];rfl
  ·rw[aK,aT,af];unfold Ad;rw[<-h1];simp
theorem Ws {l:List aS} (h:l.length<1000000):bP l=some l:=by unfold bP;exact wH h
theorem als {l:List Int} (h:l.length<1000000):fP l=some l:=by unfold fP;exact wH h
def aik (p:ak×Bool):ak×Int:=(p.1,if p.2=true then 0 else 9)
def dM (d:ak) (n:Nm) (b:List Int):ak×Int:=
 if gG d [n]≠0 then (d,gG d [n])else
 if d.qZ<(gK d.b:Int)+(b.length:Int)\/(dN d.b n=none/\64<=d.b.length)then (d,6)else
 aik (dG (Ad d ⟨n,((dN d.b n).getD ⟨n,[],0⟩).data++b,((dN d.b n).getD ⟨n,[],0⟩).J⟩))
def pq (d:ak) (n:Nm):ak×Int:=
 if gG d [n]≠0 then (d,gG d [n])else
 match dN d.b n with
 |none=>(d,7)
 |some f=>if (dG d).2=true then (Ad (dG d).1 ⟨n,f.data,len f.data⟩,0)else ((dG d).1,9)
def jH (d:ak) (a b:Nm):ak×Int:=
 if gG d [a,b]≠0 then (d,gG d [a,b])else
 match dN d.b a with
 |none=>(d,7)
 |some f=>if (dG d).2=true then (Ad (acB (dG d).1 a) ⟨b,f.data,f.J⟩,0)else ((dG d).1,9)
def fK (d:ak) (n:Nm):ak×Int:=
 if gG d [n]≠0 then (d,gG d [n])else
 match dN d.b n with
 |none=>(d,7)
 |some f=>if (dG d).2=true then (acB (dG d).1 n,0)else ((dG d).1,9)
def Ce (d:ak) (n:Nm) (k:Int):ak×Int:=
 if gG d [n]≠0 then (d,gG d [n])else
 match dN d.b n with
 |none=>(d,7)
 |some f=>if k<0\/len f.data<k then (d,1)else
  if (dG d).2=true then (Ad (dG d).1 ⟨n,f.data.take k.toNat,if k<f.J then k else f.J⟩,0)else ((dG d).1,9)
def aa7 (d:ak) (n:Nm):List Int×Int:=
 if gG d [n]≠0 then ([],gG d [n])else
 match dN d.b n with
 |none=>([],7)
 |some f=>(f.data,0)
structure Ez (d:ak):Prop where
 nm:nameB d
 fu:inI d.T
theorem fD.fl {d:ak} (h:fD d):d.b.length<=64:=h.1.2.2.2
theorem fD.us {d:ak} (h:fD d):gK d.b<=65536:=by have:=h.2.2;have:=h.1;omega
theorem fD.asc {d:ak} (h:fD d):J3 d.b:=h.2.1.2
theorem cZ (d:ak):(dG d).1.b=d.b:=by unfold dG;split<;>(try split)<;>rfl
theorem Bg (d:ak):(dG d).1.qZ=d.qZ:=by unfold dG;split<;>(try split)<;>rfl
theorem X6 {α:Type} (d:ak) (hf: -1<=d.T) (hf2:inI d.T) (x:α) (y:Int->Bool->α):
 cnd (ieq d.T 0) x (cnd (ieq d.T (-1)) (y d.T d.Q) (y (wr .i64 (aO d.T 1)) d.Q))=if (dG d).2=true then y (dG d).1.T (dG d).1.Q else x:=by
 rw[dn,dn]
 unfold dG
 unfold inI at hf2
 by_cases h0:d.T=0
 ·simp [h0]
 by_cases h1:d.T= -1
 ·simp [h1]
 ·rw[awg h0,awg h1,awg h0,awg h1,awh rfl,nY ⟨by simp only[aO];omega,by simp only[aO];omega⟩];rfl
theorem Yg {d:ak} (h:¬(dG d).2=true):(dG d).1=⟨d.b,d.qZ,d.T,true⟩:=by
 unfold dG at h ⊢;split
 ·rfl
 ·rename_i h0;rw[awg h0]at h;split at h<;>simp at h
theorem cut_out {α:Type} (l r:List α) (i:Nat) (h:i<l.length):
 (jq (jq l i (l.drop (i+1))) (i+(l.drop (i+1)).length) r).take (i+(l.drop (i+1)).length)=l.eraseIdx i:=by
 unfold jq
 have h1:(l.take i).length=i:=by rw[awu];omega
 have e:(l.take i++(l.drop (i+1)++l.drop (i+(l.drop (i+1)).length))).take (i+(l.drop (i+1)).length)=l.take i++l.drop (i+1):=by
  rw[<-awT,ayg (by rw[awn,h1];exact awk _),aw5 (by rw[awn,h1];exact awk _)]
 rw[e,ayg (by rw[awn,h1];exact awk _),aw5 (by rw[awn,h1];exact awk _),ay3]
theorem ajP {α:Type} (l:List α) (i:Nat) (h:i<l.length):aV (bZ l (itn ((i+1:Nat):Int))) (itn (aO (len l) ((i+1:Nat):Int)))=l.drop (i+1):=by
 unfold aV bZ aO;rw[vK];apply aw5;rw[awP];simp only[itn,len];omega
theorem aj6 {α:Type} (l:List α) (i:Nat) (h:i<l.length):nad i (itn (len (l.drop (i+1))))=i+(l.drop (i+1)).length:=by simp [nad,itn,len]
theorem ahk {α:Type} (l:List α) (i:Nat) (ys:List α) (h:i+ys.length<=l.length):(jq l i ys).length=l.length:=by
 unfold jq;simp only[awn,awu,awP];omega
theorem ajC (n:Nat):nad 0 n=n:=by simp [nad]
theorem am0 (n:Nat):itn (nti n)=n:=by simp [itn,nti]
theorem arh {l:List aS} {i:Nat} (h:i<l.length) (hl:l.length<999999):ja l (i:Int) ((i+1:Nat):Int)=some (l.eraseIdx i):=by
 unfold ja;have hdl:(l.drop (i+1)).length=l.length - (i+1):=awP ..;rw[ajP l i h,vK,aj6 l i h,ajC,am0];have hlc:=ahk l i (l.drop (i+1)) (by omega)
 rw[au (by simp only[aH,aY,len];omega),dn,awg (by omega),au (by simp only[aH,aY,len];omega),au (by simp only[aH,aY,len];omega),au (by simp only[ay,nti,aY,len];omega),
  au (by simp only[aH,aY,len,aO,nti,hlc];omega)]
 congr 1;exact cut_out l _ i h
theorem ajt {l:List adF} (hl:l.length<1000) (hs:(l.flatMap (·.all)).length<1000000):uh l=some (l.flatMap (·.all)):=by
 have tk:∀ {i:Nat} (h:i<l.length),((l.take (i+1)).flatMap (·.all))=((l.take i).flatMap (·.all))++l[i].all:=fun h=>by
  rw[gm h,axT];simp
 have le:∀i:Nat,((l.take i).flatMap (·.all)).length<=(l.flatMap (·.all)).length:=fun i=>by
  have:(l.flatMap (·.all))=((l.take i).flatMap (·.all))++((l.drop i).flatMap (·.all)):=by rw[<-axT,aw7]
  rw[this,awn];omega
 have loop2:∀x:List Int,x=[]->Wq (bU (fun v:Int×List Int=>jW (len l) l v.1 v.2) LF (0,x)) fun w=>w=l.flatMap (·.all):=by
  rintro _ rfl;refine fG (n:=l.length) (by omega) (fun i x=>x=(l.take i).flatMap (·.all)) _ ?_ ?_ [] 0 (awm _) (by simp)
  ·rintro i x hi rfl;simp only[jW];have:=le (i+1);rw[tk hi]at this;rw[au (by rw[dm];simpa using hi),au (inb _ i hi),aN _ i hi,au (dW (by simp only[len,aJ];omega)),af];exact⟨aZ (by omega),(tk hi).symm⟩
  ·rintro x rfl;simp only[jW];rw[bK (En _),af,awq]
 refine Wq.eq ?_;unfold uh;refine Wq.bind (fG (n:=l.length) (step:=fun v:Int×Int=>o8 (len l) l v.1 v.2) (by omega) (fun i x=>x=(((l.take i).flatMap (·.all)).length:Int)) (fun w=>w=((l.flatMap (·.all)).length:Int)) ?_ ?_ 0 0 (awm _) (by simp)) ?_
 ·rintro i x hi rfl;simp only[o8];have h1:=le (i+1);rw[tk hi,awn]at h1;have e:wr .i64 (ay (((l.take i).flatMap (·.all)).length:Int) (len l[i].all))=(((l.take (i+1)).flatMap (·.all)).length:Int):=by
   rw[tk hi,awn,ay,bf (by simp only[len];omega) (by simp only[len];omega)];simp only[len];omega
  rw[au (by rw[dm];simpa using hi),au (inb _ i hi),aN _ i hi,e,bK (nP (by omega)),af];exact⟨aZ (by omega),rfl⟩
 ·rintro x rfl;simp only[o8];rw[bK (En _),af,awq]
 ·rintro w rfl;have e:wr .i64 (aO ((l.flatMap (·.all)).length:Int) 0)=((l.flatMap (·.all)).length:Int):=by rw[aO,bf (by omega) (by omega)];omega
  rw[bK (nP (by omega)),e,dF];constructor
  ·intro h;rw[bg]at h;rw[au (by simp only[aH,bg,aY];omega),au (dW (by simp only[len];omega))];exact(loop2 _ (by simp [aV])).bind fun a h=>(af _).2 h
  ·intro h;exact(loop2 _ rfl).bind fun a h=>(af _).2 h
theorem ajs {l:List aS} {i:Nat} {f:aS} (h:i<=l.length) (hl:l.length<999999):eF l (i:Int) [f]=some (l.take i++f::l.drop i):=by
 unfold eF;simp only[];rw[au (by simp only[aH,aY,len,ay];omega),vK];rfl
theorem atA {i:Nat} (h:i<1000000):wr .i64 (ay (i:Int) 1)=((i+1:Nat):Int):=aZ h
theorem ae1 {α:Type} [Inhabited α] (l:List α) (i:Nat) (h:i<l.length):aj l i=l[i]:=by simp [aj,h]
theorem LC {P:Nm->Prop} {n:Nm} (h:P n):∀m∈[n],P m:=fun m hm=>by rw[awC.1 hm];exact h
theorem afC {d:ak} {n:Nm} (h:Ez d) (hn:n.length<999999):vX d n=some (fK d n):=by
 refine Wq.eq ?_;unfold vX fK;rw[Yi h.nm (LC hn) (by simp),ai,cO,dn,cO,dn];by_cases h0:gG d [n]=0
 case neg=>rw[awg h0,awg h0,af,awh h0]
 rw[awh h0,awg (fun g=>g h0)];obtain⟨hd,hw, -⟩:=jc.1 h0;refine(WA hd.asc (by have:=hd.fl;omega)).bind ?_;rintro⟨k,b⟩ ⟨i,o,e1,e2,e3⟩;simp only at e1 e3;subst e1 e3;have hg:=e2.get;rw[hg];cases o with
 |none=>simp only[ayq];rw[aW,aU,af]
 |some f=>
  obtain⟨hi,-, -⟩:=e2.lt;have hl:=hd.fl;simp only[ayr];rw[aK,aT,atA (by omega)];simp only[Ws (show d.b.length<1000000 by omega),ai,arh hi (by omega)];rw[X6 d hd.1.2.2.1 h.fu (some (ak.mk d.b d.qZ d.T true,(9:Int))) (fun a b=>some (ak.mk (d.b.eraseIdx i) d.qZ a b,(0:Int))),e2.del];by_cases hs:(dG d).2=true
  ·rw[awh hs,af,awh hs];unfold acB;rw[cZ,Bg]
  ·rw[awg hs,af,awg hs,Yg hs]
theorem aiN {d:ak} {n:Nm} (h:Ez d) (hn:n.length<999999):jZ d n=some (pq d n):=by
 refine Wq.eq ?_;unfold jZ pq;rw[Yi h.nm (LC hn) (by simp),ai,cO,dn,cO,dn];by_cases h0:gG d [n]=0
 case neg=>rw[awg h0,awg h0,af,awh h0]
 rw[awh h0,awg (fun g=>g h0)];obtain⟨hd,hw, -⟩:=jc.1 h0;refine(WA hd.asc (by have:=hd.fl;omega)).bind ?_;rintro⟨k,b⟩ ⟨i,o,e1,e2,e3⟩;simp only at e1 e3;subst e1 e3;have hg:=e2.get;rw[hg];cases o with
 |none=>simp only[ayq];rw[aW,aU,af]
 |some f=>
  obtain⟨hi,hf,hfn⟩:=e2.lt;have hl:=hd.fl;simp only[ayr];rw[aK,aT];simp only[Ws (show d.b.length<1000000 by omega),ai,au (inb d.b i hi),vK,ae1 d.b i hi];rw[X6 d hd.1.2.2.1 h.fu (some (ak.mk d.b d.qZ d.T true,(9:Int))) (fun a b=>some (ak.mk (dP d.b i (aS.mk d.b[i].name d.b[i].data (len d.b[i].data))) d.qZ a b,(0:Int))),hf];have e:=e2.set (f:=⟨n,f.data,len f.data⟩) rfl;by_cases hs:(dG d).2=true
  ·rw[awh hs,af,awh hs];unfold Ad dP;rw[cZ,Bg,hfn,e]
  ·rw[awg hs,af,awg hs,Yg hs]
theorem aix {d:ak} {n:Nm} (h:Ez d) (hn:n.length<999999):vT d n=some (aa7 d n):=by
 refine Wq.eq ?_;unfold vT aa7;rw[Yi h.nm (LC hn) (by simp),ai,cO,dn,cO,dn];by_cases h0:gG d [n]=0
 case neg=>rw[awg h0,awg h0,af,awh h0]
 rw[awh h0,awg (fun g=>g h0)];obtain⟨hd,hw, -⟩:=jc.1 h0;refine(WA hd.asc (by have:=hd.fl;omega)).bind ?_;rintro⟨k,b⟩ ⟨i,o,e1,e2,e3⟩;simp only at e1 e3;subst e1 e3;have hg:=e2.get;rw[hg];cases o with
 |none=>simp only[ayq];rw[aW,aU,af]
 |some f=>
  obtain⟨hi,hf,hfn⟩:=e2.lt;have hb:=al8 (by have:=hd.us;omega:gK d.b<=10000000) (awl hi);have hus:=zi hi;have hus2:=Fz d.b (i+1);have:=hd.us;simp only[ayr];rw[aK,aT,au (inb d.b i hi),aN d.b i hi,als (by omega),ai,af,hf]
theorem abJ {d:ak} {n:Nm} {b:List Int} (h:Ez d) (hn:n.length<999999) (hb:b.length<900000):je d n b=some (dM d n b):=by
 refine Wq.eq ?_;unfold je dM;rw[Yi h.nm (LC hn) (by simp),ai,cO,dn];by_cases h0:gG d [n]=0
 case neg=>rw[awg h0,af,awh h0]
 rw[awh h0,awg (fun g=>g h0)];obtain⟨hd,hw, -⟩:=jc.1 h0;have hl:=hd.fl;have hu:=hd.us;have hr:=hd.1;refine(WA hd.asc (by omega)).bind ?_;rintro⟨k,q⟩ ⟨i,o,e1,e2,e3⟩;simp only at e1 e3;subst e1 e3;have hg:=e2.get;rw[hg,aud (by omega) (by omega),ai];have e4:wr .i64 (aO d.qZ (gK d.b:Int))=d.qZ - (gK d.b:Int):=by rw[aO,nY ⟨by omega,by omega⟩]
 have hcond:(bor (ilt (wr .i64 (aO d.qZ (gK d.b:Int))) (len b)) (band (ax o.isSome) (ieq (len d.b) 64))=true)↔(d.qZ<(gK d.b:Int)+(b.length:Int)\/(o=none/\64<=d.b.length)):=by
  rw[e4];simp only[aH,aQ,aX,bn,aG,aF,bg,bC,aY,bI,aI,aP,bG,bJ,len];cases o<;>simp<;>omega
 rw[dF];refine⟨fun hc=>(af _).2 ?_,fun hc=> ?_⟩
 ·rw[awh (hcond.1 hc)]
 rw[awg (fun g=>by rw[hcond.2 g]at hc;cases hc),Ws (by omega),ai];have hnot:¬(d.qZ<(gK d.b:Int)+(b.length:Int)\/(o=none/\64<=d.b.length)):=fun g=>by rw[hcond.2 g]at hc;cases hc
 cases o with
 |none=>
  simp only[ayq,Option.getD_none,aw1];have hil:=e2.le;rw[aW,aU,ajs hil (by omega),ai,e2.ins rfl];have e5:uq ⟨n,[],0⟩ d.b=d.b.take i++⟨n,[],0⟩::d.b.drop i:=(e2.ins (f:=⟨n,[],0⟩) rfl).symm;have hlen:(d.b.take i).length=i:=by rw[awu];omega
  have hi:i<(uq ⟨n,[],0⟩ d.b).length:=by rw[e5];simp;omega
  have hgt:(uq ⟨n,[],0⟩ d.b)[i]=⟨n,[],0⟩:=by
   simp only[e5];rw[axl (by omega)];simp [hlen]
  have hst:dP (uq ⟨n,[],0⟩ d.b) i ⟨n,b,0⟩=uq ⟨n,b,0⟩ d.b:=by
   rw[<-e2.ins (f:=⟨n,b,0⟩) rfl,e5];unfold dP;rw[List.set_append_right _ _ (by omega)];simp [hlen]
  rw[au (inb _ i hi),aN _ i hi,hgt,ajt (by simp) (by simp only[aym,ayE,axn,aw1];omega),ai,au (inb _ i hi),vK];simp only[aym,ayE,aw1,axn];have e6:aj (uq ⟨n,[],0⟩ d.b) i=⟨n,[],0⟩:=by rw[ae1 _ i hi,hgt]
  rw[hst,X6 d hd.1.2.2.1 h.fu (some (ak.mk (uq ⟨n,b,0⟩ d.b) d.qZ d.T true,(9:Int))) (fun x y=>some (ak.mk (uq ⟨n,b,0⟩ d.b) d.qZ x y,(0:Int)))];have sw:dG (Ad d ⟨n,b,0⟩)=(⟨uq ⟨n,b,0⟩ d.b,d.qZ,(dG d).1.T,(dG d).1.Q⟩,(dG d).2):=by
   unfold dG Ad;split<;>(try split)<;>rfl
  rw[sw];unfold aik;simp only[];by_cases hs:(dG d).2=true
  ·rw[awh hs,af,awh hs]
  ·rw[awg hs,af,awg hs,Yg hs]
 |some f=>
  simp only[ayr,axO];obtain⟨hi,hf,hfn⟩:=e2.lt;have hus:=zi hi;have hus2:=Fz d.b (i+1);rw[aK,aT,au (inb _ i hi),aN _ i hi,hf,ajt (by simp) (by simp only[aym,ayE,axn,awn];rw[hf]at hus;omega),ai,au (inb _ i hi),vK];simp only[aym,ayE,axn];have e6:aj d.b i=f:=by rw[ae1 _ i hi,hf]
  have hst:dP d.b i ⟨f.name,f.data++b,f.J⟩=uq ⟨n,f.data++b,f.J⟩ d.b:=by rw[hfn];exact e2.set rfl
  rw[hst,X6 d hd.1.2.2.1 h.fu (some (ak.mk (uq ⟨n,f.data++b,f.J⟩ d.b) d.qZ d.T true,(9:Int))) (fun x y=>some (ak.mk (uq ⟨n,f.data++b,f.J⟩ d.b) d.qZ x y,(0:Int)))];have sw:dG (Ad d ⟨n,f.data++b,f.J⟩)=(⟨uq ⟨n,f.data++b,f.J⟩ d.b,d.qZ,(dG d).1.T,(dG d).1.Q⟩,(dG d).2):=by
   unfold dG Ad;split<;>(try split)<;>rfl
  rw[sw];unfold aik;simp only[];by_cases hs:(dG d).2=true
  ·rw[awh hs,af,awh hs]
  ·rw[awg hs,af,awg hs,Yg hs]
theorem aoD {α:Type} (l:List α) (i:Nat) (x y:α):dP (dP l i x) i y=dP l i y:=by simp [dP]
theorem aps {α:Type} [Inhabited α] (l:List α) (i:Nat) (x:α) (h:i<l.length):aj (dP l i x) i=x:=by simp [aj,dP,h]
theorem anK (a b:Int):kP a b=if b<a then b else a:=by
 unfold kP;rfl
theorem avF {d:ak} {n:Nm} {k:Int} (h:Ez d) (hn:n.length<999999):JY d n k=some (Ce d n k):=by
 refine Wq.eq ?_;unfold JY Ce;rw[Yi h.nm (LC hn) (by simp),ai,cO,dn,cO,dn];by_cases h0:gG d [n]=0
 case neg=>rw[awg h0,awg h0,af,awh h0]
 rw[awh h0,awg (fun g=>g h0)];obtain⟨hd,hw, -⟩:=jc.1 h0;refine(WA hd.asc (by have:=hd.fl;omega)).bind ?_;rintro⟨k0,q⟩ ⟨i,o,e1,e2,e3⟩;simp only at e1 e3;subst e1 e3;have hg:=e2.get;rw[hg];cases o with
 |none=>simp only[ayq];rw[aW,aU,af]
 |some f=>
  obtain⟨hi,hf,hfn⟩:=e2.lt;have hl:=hd.fl;have hus:=zi hi;have hus2:=Fz d.b (i+1);have:=hd.us;rw[hf]at hus;simp only[ayr];rw[aK,aT,xB,xB];by_cases hk:k<0
  ·rw[awh hk,awh hk,af,awh (.inl hk)]
  rw[awg hk,au (inb _ i hi),aN _ i hi,hf,xB];by_cases hk2:len f.data<k
  ·rw[awh hk2,af,awh (.inr hk2)]
  rw[awg hk2,awg (fun g=>g.elim hk hk2)];have hkk:band (ile 0 k) (ile k (len f.data))=true:=Ae (dW (by omega)) (dW (by omega));have htl:(aV f.data (itn k)).length<1000000:=by unfold aV;rw[awu];omega
  simp only[Ws (show d.b.length<1000000 by omega),ai,au (inb d.b i hi),vK,ae1 d.b i hi,hf,au hkk,als htl,aoD,aps d.b i _ hi];rw[X6 d hd.1.2.2.1 h.fu (some (ak.mk d.b d.qZ d.T true,(9:Int))) (fun a b=>some (ak.mk (dP d.b i (aS.mk f.name (aV f.data (itn k)) (kP f.J k))) d.qZ a b,(0:Int))),anK];have e:=e2.set (f:=⟨n,f.data.take k.toNat,if k<f.J then k else f.J⟩) rfl
  by_cases hs:(dG d).2=true
  ·rw[awh hs,af,awh hs];unfold Ad dP aV itn;rw[cZ,Bg,hfn,e]
  ·rw[awg hs,af,awg hs,Yg hs]
theorem aur {d:ak} {x:aS} (ha:J3 d.b) (hl:d.b.length<=100000) {α:Type} (R:List aS->Option α) (Q:α->Prop) (h:Wq (R (uq x d.b)) Q):
 Wq (ah (jL d x.name) fun y9=>cnd y9.2 (cnd (band (ile 0 y9.1) (ilt y9.1 (len d.b))) (R (dP d.b (itn y9.1) x)) none) (ah (eF d.b y9.1 [x]) fun y10=>R y10)) Q:=by
 refine(WA ha hl).bind ?_
 rintro⟨k0,q⟩ ⟨i,o,e1,e2,e3⟩
 simp only at e1 e3
 subst e1 e3
 cases o with
 |none=>
  have:=e2.le
  simp only[ayq]
  rw[aT,ajs this (by omega),ai,e2.ins rfl]
  exact h
 |some f=>
  obtain⟨hi,hf,hfn⟩:=e2.lt
  simp only[ayr]
  rw[aU,au (inb _ i hi),vK]
  unfold dP
  rw[e2.set rfl]
  exact h
theorem aiv {n:Nm} {l:List aS} (h:J3 l):J3 (zA n l):=by
 unfold J3 zA;exact List.Pairwise.sublist List.filter_sublist h
theorem akO {l:List aS} {i:Nat} (h:i<l.length):
 aV (jq (jq l i (l.drop (i+1))) (i+(l.drop (i+1)).length) (sK aS (itn (aO (len l) (nti (i+(l.drop (i+1)).length)))))) (i+(l.drop (i+1)).length)=l.eraseIdx i:=cut_out l _ i h
theorem alj {d:ak} {a b:Nm} (h:Ez d) (hna:a.length<999999) (hnb:b.length<999999):sU d a b=some (jH d a b):=by
 refine Wq.eq ?_;unfold sU jH;have hns:∀m∈aJ [b] [a],m.length<999999:=by intro m hm;simp [aJ]at hm;rcases hm with rfl | rfl<;>assumption
 rw[au (dW (by simp [len,aJ])),Yi h.nm hns (by simp [aJ]),ai,cO,dn,cO,dn,show gG d (aJ [b] [a])=gG d [a,b]from alO d b a];by_cases h0:gG d [a,b]=0
 case neg=>rw[awg h0,awg h0,af,awh h0]
 rw[awh h0,awg (fun g=>g h0)];obtain⟨hd,hw, -⟩:=jc.1 h0;refine(WA hd.asc (by have:=hd.fl;omega)).bind ?_;rintro⟨k0,q⟩ ⟨i,o,e1,e2,e3⟩;simp only at e1 e3;subst e1 e3;have hg:=e2.get;rw[hg];cases o with
 |none=>simp only[ayq];rw[aW,aU,af]
 |some f=>
  obtain⟨hi,hf,hfn⟩:=e2.lt;have hl:=hd.fl;have hdl:(d.b.drop (i+1)).length=d.b.length - (i+1):=awP ..;have hlc:=ahk d.b i (d.b.drop (i+1)) (by omega);simp only[ayr];rw[aK,aT];have tl:=ajP d.b i hi;rw[vK]at tl;simp only[Ws (show d.b.length<1000000 by omega),ai,atA (show i<1000000 by omega),vK,tl,ae1 d.b i hi,hf];have hf':aj d.b (itn (i:Int))=f:=by rw[vK,ae1 _ _ hi,hf]
  have c1:band (ile 0 (i:Int)) (ilt (i:Int) (len d.b))=true:=inb _ i hi;have c2:band (band (band (ile 0 (i:Int)) (ile (i:Int) ((i+1:Nat):Int))) (ile ((i+1:Nat):Int) (len d.b))) (band (ile ((i+1:Nat):Int) (len d.b)) (ile (len d.b) (len d.b)))=true:=by
   simp only[aH,aY,len];omega
  have c3:ieq (i:Int) ((i+1:Nat):Int)=false:=by rw[aP];omega
  have c4:band (ile 0 (i:Int)) (ile (i:Int) (len d.b))=true:=by simp only[aH,aY,len];omega
  have c5:band (ile 0 ((i+1:Nat):Int)) (ile ((i+1:Nat):Int) (len d.b))=true:=by simp only[aH,aY,len];omega
  have c6:ile (ay (nti i) (len (d.b.drop (i+1)))) (len d.b)=true:=by simp only[ay,nti,aY,len];omega
  have c7:band (band (ile 0 (nti (i+(d.b.drop (i+1)).length))) (ile (nti (i+(d.b.drop (i+1)).length)) (len d.b))) (ile (len d.b) (aO (len (jq d.b i (d.b.drop (i+1)))) 0))=true:=by
   simp only[aH,aY,len,aO,nti,hlc];omega
  simp only[aj6 d.b i hi,ajC,am0,au c1,au c2,bK c3,au c4,au c5,au c6,au c7,akO hi,e2.del];have key:=X6 d hd.1.2.2.1 h.fu (some (ak.mk d.b d.qZ d.T true,(9:Int))) (fun x y=>ah (jL (ak.mk (zA a d.b) d.qZ x y) b) fun y9=>cnd y9.2 (cnd (band (ile 0 y9.1) (ilt y9.1 (len (zA a d.b)))) (some (ak.mk (dP (zA a d.b) (itn y9.1) (aS.mk b f.data f.J)) d.qZ x y,(0:Int))) none) (ah (eF (zA a d.b) y9.1 [aS.mk b f.data f.J]) fun y10=>some (ak.mk y10 d.qZ x y,(0:Int))));rw[key];by_cases hs:(dG d).2=true
  ·rw[awh hs,awh hs];have hdl2:=XA a d.b;refine aur (d:=ak.mk (zA a d.b) d.qZ (dG d).1.T (dG d).1.Q) (x:=⟨b,f.data,f.J⟩) (aiv hd.asc) (by simp only;omega) (fun l=>some (ak.mk l d.qZ (dG d).1.T (dG d).1.Q,(0:Int))) _ ?_;rw[af];unfold Ad acB;simp only;rw[cZ,Bg]
  ·rw[awg hs,af,awg hs,Yg hs]
theorem acD {l:List aS} {n:Nm} {f:aS} (h:dN l n=some f):f.name=n:=(BQ h).2
theorem af5 {d:ak} {n:Nm} (h:Ez d) (hn:n.length<999999):mV d n=some (fK d n):=by
 refine Wq.eq ?_;unfold mV fK;rw[S9 h.nm hn hn,ai,cO,dn,Qo];by_cases h0:gG d [n]=0
 case neg=>rw[awg h0,af,awh h0]
 rw[awh h0,awg (fun g=>g h0)];obtain⟨hd,hw, -⟩:=jc.1 h0;have hl:=hd.fl;refine(WX hd.asc (by omega)).bind ?_;rintro k (⟨rfl,hg⟩ | ⟨i,hi,rfl,hg⟩)
 ·rw[au (pO (by omega)),af,hg]
 ·rw[bK (nP (by omega)),abl hd.1.2.2.1 h.fu,ai,cO,tH,hg];by_cases hs:(dG d).2=true
  ·rw[awh hs,afa (by rw[cZ];omega),ai,af];simp only[];rw[awh hs]
  ·rw[awg hs,af];simp only[];rw[awg hs]
theorem alB {d:ak} {n:Nm} (h:Ez d) (hn:n.length<999999):gq d n=some (pq d n):=by
 refine Wq.eq ?_;unfold gq pq;rw[S9 h.nm hn hn,ai,cO,dn,Qo];by_cases h0:gG d [n]=0
 case neg=>rw[awg h0,af,awh h0]
 rw[awh h0,awg (fun g=>g h0)];obtain⟨hd,hw, -⟩:=jc.1 h0;have hl:=hd.fl;refine(WX hd.asc (by omega)).bind ?_;rintro k (⟨rfl,hg⟩ | ⟨i,hi,rfl,hg⟩)
 ·rw[au (pO (by omega)),af,hg]
 ·rw[bK (nP (by omega)),abl hd.1.2.2.1 h.fu,ai,cO,tH,hg,cZ,acD hg |>.symm];by_cases hs:(dG d).2=true
  ·rw[awh hs,au (inb _ i hi),aN _ i hi,adR (by rw[cZ];omega),ai,af];simp only[];rw[awh hs]
  ·rw[awg hs,af];simp only[];rw[awg hs]
theorem apE {d:ak} {a b:Nm} (h:Ez d) (hna:a.length<999999) (hnb:b.length<999999):mW d a b=some (jH d a b):=by
 refine Wq.eq ?_;unfold mW jH;rw[S9 h.nm hna hnb,ai,cO,dn];by_cases h0:gG d [a,b]=0
 case neg=>rw[awg h0,af,awh h0]
 rw[awh h0,awg (fun g=>g h0)];obtain⟨hd,hw, -⟩:=jc.1 h0;have hl:=hd.fl;refine(WX hd.asc (by omega)).bind ?_;rintro k (⟨rfl,hg⟩ | ⟨i,hi,rfl,hg⟩)
 ·rw[au (pO (by omega)),af,hg]
 ·rw[bK (nP (by omega)),abl hd.1.2.2.1 h.fu,ai,cO,tH,hg,cZ];by_cases hs:(dG d).2=true
  ·rw[awh hs,au (inb _ i hi),aN _ i hi,afa (by rw[cZ];omega),ai,
    adR (by have:=XA a (dG d).1.b;rw[cZ]at this;unfold acB;simp only;rw[cZ];omega),ai,af]
   simp only[];rw[awh hs]
  ·rw[awg hs,af];simp only[];rw[awg hs]
theorem avH {d:ak} {n:Nm} {k:Int} (h:Ez d) (hn:n.length<999999):Bl d n k=some (Ce d n k):=by
 refine Wq.eq ?_;unfold Bl Ce;rw[S9 h.nm hn hn,ai,cO,dn,Qo];by_cases h0:gG d [n]=0
 case neg=>rw[awg h0,af,awh h0]
 rw[awh h0,awg (fun g=>g h0)];obtain⟨hd,hw, -⟩:=jc.1 h0;have hl:=hd.fl;refine(WX hd.asc (by omega)).bind ?_;rintro k0 (⟨rfl,hg⟩ | ⟨i,hi,rfl,hg⟩)
 ·rw[au (pO (by omega)),af,hg]
 ·rw[bK (nP (by omega)),au (inb _ i hi),aN _ i hi,hg,dF];simp only[];refine⟨fun hc=> ?_,fun hc=> ?_⟩
  ·simp only[aH,aQ,aX,bn,aG,aF,bg,bC,aY,bI,aI,aP,bG,bJ]at hc;rw[af,awh hc]
  ·simp only[aH,aQ,aX,bn,aG,aF,bg,bC,aY,bI,aI,aP,bG,bJ]at hc;rw[awg (by omega),abl hd.1.2.2.1 h.fu,ai,cO,tH,acD hg |>.symm];by_cases hs:(dG d).2=true
   ·rw[awh hs,au (Ae (dW (by omega)) (dW (by omega))),xB,awh hs];simp only[adR (show(dG d).1.b.length<99999 by rw[cZ];omega),ai];by_cases hk:k<d.b[i].J
    ·rw[awh hk,awh hk,af];rfl
    ·rw[awg hk,awg hk,af];rfl
   ·rw[awg hs,af,awg hs]
theorem aer {d:ak} {n:Nm} {b:List Int} (h:Ez d) (hn:n.length<999999) (hb:b.length<900000):fO d n b=some (dM d n b):=by
 refine Wq.eq ?_;unfold fO dM;rw[S9 h.nm hn hn,ai,cO,dn,Qo];by_cases h0:gG d [n]=0
 case neg=>rw[awg h0,af,awh h0]
 rw[awh h0,awg (fun g=>g h0)];obtain⟨hd,hw, -⟩:=jc.1 h0;have hl:=hd.fl;have hu:=hd.us;have hr:=hd.1;have e4:wr .i64 (ay (gK d.b:Int) (len b))=(gK d.b:Int)+(b.length:Int):=by rw[ay,nY ⟨by simp only[len];omega,by simp only[len];omega⟩];rfl
 have fin:∀f:aS,Wq (ah (iQ d f) fun y3=>ah (iE y3) fun y4=>cnd (ax y4.2) (some (y4.1,(9:Int))) (some (y4.1,0))) fun x=>x=aik (dG (Ad d f)):=fun f=>by
  rw[adR (by omega),ai,abl (d:=Ad d f) hd.1.2.2.1 h.fu,ai,cO,tH];unfold aik;by_cases hs:(dG (Ad d f)).2=true
  ·rw[awh hs,af,awh hs]
  ·rw[awg hs,af,awg hs]
 refine(WX hd.asc (by omega)).bind ?_;rintro k0 (⟨rfl,hg⟩ | ⟨i,hi,rfl,hg⟩)
 ·rw[bK (JA (by omega)),arA (by omega) (by omega),ai,e4,dF,hg];refine⟨fun hc=> ?_,fun hc=> ?_⟩
  ·simp only[aH,aQ,aX,bn,aG,aF,bg,bC,aY,bI,aI,aP,bG,bJ,len]at hc;rw[af,awh (by rcases hc with g | g;exact .inl (by omega);exact .inr ⟨rfl,by omega⟩)]
  ·simp only[aH,aQ,aX,bn,aG,aF,bg,bC,aY,bI,aI,aP,bG,bJ,len]at hc;have hn2:¬(d.qZ<(gK d.b:Int)+(b.length:Int)\/((none:Option aS)=none/\64<=d.b.length)):=by
    rintro(g | ⟨-, g⟩)<;>omega
   rw[awg hn2,au (dW (by simp only[len];omega))];exact fin _
 ·have hus:=zi hi;have hus2:=Fz d.b (i+1);rw[au (dW (by omega)),au (inb _ i hi),arA (by omega) (by omega),ai,e4,dF,hg];refine⟨fun hc=> ?_,fun hc=> ?_⟩
  ·simp only[aH,aQ,aX,bn,aG,aF,bg,bC,aY,bI,aI,aP,bG,bJ,len]at hc;rw[af,awh (.inl (by omega))]
  ·simp only[aH,aQ,aX,bn,aG,aF,bg,bC,aY,bI,aI,aP,bG,bJ,len]at hc;rw[awg (by simp;omega),aN _ i hi,au (dW (by simp only[len];omega)),au (dW (by simp only[len,aJ,awn];omega)),axO,acD hg];exact fin _
theorem aoo (d:ak) (hl:okL Yj d.b):Wq (yB d) fun b=>b=true->d.b.length<=70/\∀f∈d.b,f.name.length<=100/\f.data.length<=70000:=by
 unfold yB;rw[dF];refine⟨fun h=>(af _).2 (by intro g;cases g),fun h=> ?_⟩;simp only[aH,aQ,aX,bn,aG,aF,bg,bC,aY,bI,aI,aP,bG,bJ,len]at h
 refine Wq.bind (Q:=fun w=>match w with
  |.inl b=>b=false
  |.inr _=>∀f∈d.b,f.name.length<=100/\f.data.length<=70000)
  (fG (n:=d.b.length) (step:=fun v:Int×Int×Bool=>ng d v.1 v.2.1 v.2.2) (by omega) (fun i x=>∀f∈d.b.take i,f.name.length<=100/\f.data.length<=70000) _ ?_ ?_ _ 0 (awm _) (by simp)) ?_
 ·rintro i ⟨n,q⟩ hi hx;simp only[ng];rw[au (by rw[dm];simpa using hi),au (inb _ i hi),au (by rw[aX];exact .inl (inb _ i hi)),aN _ i hi,au (inb _ i hi),dF,af,af];refine⟨fun _=>rfl,fun hb=>⟨aZ (by omega),?_⟩⟩;simp only[aH,aQ,aX,bn,aG,aF,bg,bC,aY,bI,aI,aP,bG,bJ,len]at hb;rw[gm hi];intro f hf;rcases awt.1 hf with c | c
  ·exact hx f c
  ·rw[awC.1 c];omega
 ·rintro⟨n,q⟩ hx;simp only[ng];rw[bK (En _),af];rwa[awq]at hx
 ·rintro(w | w) hw
  ·simp only[dK,af];simp only at hw;rw[hw];intro g;cases g
  ·simp only[dK,af];exact fun _=>⟨by omega,hw⟩
theorem aqR (d:ak) (hl:d.b.length<999999):zH d d=some true:=by
 refine Wq.eq ?_;unfold zH;rw[bK (by simp only[bn,aF,aI,bG,and_self])]
 refine Wq.bind (Q:=fun w:Bool ⊕ Bool=>match w with
  |.inl b=>False
  |.inr _=>True)
  (fG (n:=d.b.length) (step:=fun v:Int×Bool=>qR d d v.1 v.2) (by omega) (fun i x=>True) _ ?_ ?_ _ 0 (awm _) trivial) ?_
 ·rintro i q hi -;simp only[qR];rw[au (by rw[dm];simpa using hi),au (inb _ i hi),au (inb _ i hi),bK (by simp only[bn,aF,aI,adn,and_self]),af];exact⟨aZ (by omega),azv⟩
 ·rintro q -;simp only[qR];rw[bK (En _),af];trivial
 ·rintro(w | w) hw
  ·exact hw.elim
  ·simp only[dK,af]
def aso {α:Type}:List Int->Int->(Int->Option α)->Option α
 |[],n,k=>k n
 |b::l,n,k=>ah (dQ (wr .u32 (jT .u32 (wr .u32 (gX .u32 n (wr .u32 b))) 15))) fun y0=>ah (dQ (wr .u32 (jT .u32 (wr .u32 (gX .u32 y0 (dw .u32 (wr .u32 (gX .u32 n (wr .u32 b))) 4))) 15))) fun y1=>
  aso l (wr .u32 (gX .u32 y1 (dw .u32 (wr .u32 (gX .u32 y0 (dw .u32 (wr .u32 (gX .u32 n (wr .u32 b))) 4))) 4))) k
theorem akt {α:Type} (k:Int->Option α):∀(l:List Int) (n:B32),jU l->aso l (toI n) k=k (toI (acg n l))
 |[],n,_=>rfl
 |b::l,n,hb=>by
  have e15:(15:Int)=toI 15#32:=rfl
  obtain⟨b1,b2⟩:=hb b (aw0 ..)
  have e4:∀x:B32,dw .u32 (toI x) 4=toI (x >>> 4):=fun x=>anj x 4 (by decide)
  have ih:=akt k l (hN 8 (n ^^^ ofB b)) fun x hx=>hb x (awX _ hx)
  rw[aso,afd b1 b2,PV,e15,ajw,UD,ai,e4,PV,asJ,ajw,UD,ai,e4,PV,asJ,<-aeQ]
  exact ih
def sh8 (n k:Int):Int:=wr .u8 (dw .i64 n k)
def ajM (s:dU):List Int:=[sh8 s.K 56,sh8 s.K 48,sh8 s.K 40,sh8 s.K 32,sh8 s.K 24,sh8 s.K 16,sh8 s.K 8,sh8 s.K 0,sh8 s.B 56,sh8 s.B 48,sh8 s.B 40,sh8 s.B 32,sh8 s.B 24,sh8 s.B 16,sh8 s.B 8,sh8 s.B 0]
def atP (s:dU) (n:Int):akv:=⟨sh8 s.K 56,sh8 s.K 48,sh8 s.K 40,sh8 s.K 32,sh8 s.K 24,sh8 s.K 16,sh8 s.K 8,sh8 s.K 0,sh8 s.B 56,sh8 s.B 48,sh8 s.B 40,sh8 s.B 32,sh8 s.B 24,sh8 s.B 16,sh8 s.B 8,sh8 s.B 0,
 wr .u8 (dw .u32 (wr .u32 (gX .u32 4294967295 n)) 0),wr .u8 (dw .u32 (wr .u32 (gX .u32 4294967295 n)) 8),wr .u8 (dw .u32 (wr .u32 (gX .u32 4294967295 n)) 16),wr .u8 (dw .u32 (wr .u32 (gX .u32 4294967295 n)) 24)⟩
theorem auW (s:dU):AY s=aso (ajM s) 4294967295 fun n=>some (atP s n):=rfl
def um (s:dU):List Int:=iY s.K 8++iY s.B 8
def yh (s:dU):List Int:=um s++tC (zV (um s))
def toL (a:akv):List Int:=[a.a0,a.a1,a.a2,a.a3,a.a4,a.a5,a.a6,a.a7,a.a8,a.a9,a.a10,a.a11,a.a12,a.a13,a.a14,a.a15,a.a16,a.a17,a.a18,a.a19]
def FK (s:dU):Prop:=1<=s.K/\s.K<=1000000000/\0<=s.B/\s.B<=1000000000
instance (s:dU):Decidable (FK s):=by unfold FK;infer_instance
theorem acA (s:dU):(um s).length=16:=by simp [um,iT]
theorem ab9 (s:dU):(yh s).length=20:=by simp [yh,acA,tC]
theorem Zm (s:dU):jU (um s):=(su _ _).app (su _ _)
theorem alQ (s:dU):jU (yh s):=(Zm s).app (ZX _)
theorem Wi (n:Int) {i:Nat} (hi:i<8):sh8 n (wr .i64 (dA 8 (i:Int)))=n / 256^i%256:=(byte_of hi).2
theorem avb (n:Int):sh8 n 0=n / 256^0%256:=Wi n (i:=0) (by decide)
theorem avx (n:Int):sh8 n 8=n / 256^1%256:=Wi n (i:=1) (by decide)
theorem avY (n:Int):sh8 n 16=n / 256^2%256:=Wi n (i:=2) (by decide)
theorem avs (n:Int):sh8 n 24=n / 256^3%256:=Wi n (i:=3) (by decide)
theorem avL (n:Int):sh8 n 32=n / 256^4%256:=Wi n (i:=4) (by decide)
theorem avi (n:Int):sh8 n 40=n / 256^5%256:=Wi n (i:=5) (by decide)
theorem avS (n:Int):sh8 n 48=n / 256^6%256:=Wi n (i:=6) (by decide)
theorem avn (n:Int):sh8 n 56=n / 256^7%256:=Wi n (i:=7) (by decide)
theorem akD (s:dU):ajM s=um s:=by
 unfold ajM um;simp only[avb,avx,avY,avs,avL,avi,avS,avn,iY,axa,aw1]
theorem aax (s:dU):Wq (AY s) fun a=>toL a=yh s:=by
 rw[auW,akD,show(4294967295:Int)=toI ones from rfl,akt _ _ _ (Zm s),af];have e:wr .u32 (gX .u32 (toI ones) (toI (acg ones (um s))))=zV (um s):=PV _ _;have t0:wr .u8 (dw .u32 (zV (um s)) 0)=zV (um s) / 256^0%256:=(Xv (n:=zV (um s)) (i:=0) (by decide)).2;have t1:wr .u8 (dw .u32 (zV (um s)) 8)=zV (um s) / 256^1%256:=(Xv (n:=zV (um s)) (i:=1) (by decide)).2;have t2:wr .u8 (dw .u32 (zV (um s)) 16)=zV (um s) / 256^2%256:=(Xv (n:=zV (um s)) (i:=2) (by decide)).2;have t3:wr .u8 (dw .u32 (zV (um s)) 24)=zV (um s) / 256^3%256:=(Xv (n:=zV (um s)) (i:=3) (by decide)).2;have e':wr .u32 (gX .u32 4294967295 (toI (acg ones (um s))))=zV (um s):=e;have key:toL (atP s (toI (acg ones (um s))))=ajM s++[zV (um s) / 256^0%256,zV (um s) / 256^1%256,zV (um s) / 256^2%256,zV (um s) / 256^3%256]:=by
  unfold toL atP ajM;simp only[e',t0,t1,t2,t3,axa,aw1]
 rw[key,akD];unfold yh tC;simp
theorem avR {b:List Int} {i:Nat} (h:i+8<=b.length):(b.drop i).take 8=[aj b i,aj b (i+1),aj b (i+2),aj b (i+3),aj b (i+4),aj b (i+5),aj b (i+6),aj b (i+7)]:=by
 refine ayl (by simp;omega) fun j h1 h2=> ?_;simp only[awF,axm]at h2;rw[axI,axH]
 match j,h2 with
 |0,_=>simp [aj,show i<b.length by omega]
 |1,_=>simp [aj,show i+1<b.length by omega]
 |2,_=>simp [aj,show i+2<b.length by omega]
 |3,_=>simp [aj,show i+3<b.length by omega]
 |4,_=>simp [aj,show i+4<b.length by omega]
 |5,_=>simp [aj,show i+5<b.length by omega]
 |6,_=>simp [aj,show i+6<b.length by omega]
 |7,_=>simp [aj,show i+7<b.length by omega]
 |j+8,h=>omega
def or8 (a c:Int):Int:=wr .i64 (ior .i64 (wr .i64 (sV .i64 a 8)) (wr .i64 c))
theorem Zz {n c:Int} (h:0<=c/\c<=255):or8 (wr .i64 n) c=wr .i64 (n*256+c):=by
 unfold or8;rw[ang _ _ h.1 h.2,auo]
theorem avK {b:List Int} (hb:jU b) {i:Nat} (h:i+8<=b.length):
 or8 (or8 (or8 (or8 (or8 (or8 (or8 (wr .i64 (ior .i64 0 (wr .i64 (aj b i)))) (aj b (i+1))) (aj b (i+2))) (aj b (i+3))) (aj b (i+4))) (aj b (i+5))) (aj b (i+6))) (aj b (i+7))=at8 b i:=by
 have rng:∀j,j<b.length->0<=aj b j/\aj b j<=255:=fun j hj=>by
  have:=hb.get hj
  rw[ae1 b j hj];exact this
 have e0:wr .i64 (ior .i64 0 (wr .i64 (aj b i)))=wr .i64 (0*256+aj b i):=ang 0 _ (rng i (by omega)).1 (rng i (by omega)).2
 rw[e0,Zz (rng _ (by omega)),Zz (rng _ (by omega)),Zz (rng _ (by omega)),Zz (rng _ (by omega)),Zz (rng _ (by omega)),Zz (rng _ (by omega)),Zz (rng _ (by omega))]
 unfold at8
 rw[avR h]
 rfl
def atS (b:List Int):dU:=⟨at8 b 0,at8 b 8⟩
def slD (b:List Int):dU×Int:=if b.length≠20 then (⟨0,0⟩,2)else if b.drop 16≠tC (zV (b.take 16))then (⟨0,0⟩,10)else if FK (atS b)then (atS b,0)else (⟨0,0⟩,2)
theorem aqv {b:List Int} (hb:jU b) (h:b.length=20):um (atS b)=b.take 16:=by
 unfold um atS at8;simp only;rw[aqW ((hb.drop 0).take 8) (by simp;omega),aqW ((hb.drop 8).take 8) (by simp;omega)];rw[show(16:Nat)=8+8 from rfl,List.take_add,axP]
theorem aqy {b:List Int} (hb:jU b) (h:b.length=20):yh (atS b)=b↔b.drop 16=tC (zV (b.take 16)):=by
 unfold yh;rw[aqv hb h];constructor
 ·intro e;have:=axg (List.drop 16) e;rw[ax4 (by rw[awu];omega),axR (by rw[awu];omega),aw1]at this;exact this.symm
 ·intro e;rw[<-e,aw7]
theorem aaQ (s:dU):IL s=some (decide (FK s)):=by
 refine Wq.dec ?_;unfold IL FK;rw[af];simp only[aH,aQ,aX,bn,aG,aF,bg,bC,aY,bI,aI,aP,bG,bJ];omega
theorem aqC {b:List Int} (h:b.length=20):b=[aj b 0,aj b 1,aj b 2,aj b 3,aj b 4,aj b 5,aj b 6,aj b 7,aj b 8,aj b 9,aj b 10,aj b 11,aj b 12,aj b 13,aj b 14,aj b 15,aj b 16,aj b 17,aj b 18,aj b 19]:=by
 match b,h with
 |[_,_,_,_,_,_,_,_,_,_,_,_,_,_,_,_,_,_,_,_],_=>rfl
theorem YX {b:List Int} (hb:jU b):BR b=some (slD b):=by
 refine Wq.eq ?_;unfold BR slD;rw[cO,dn];by_cases h:b.length=20
 case neg=>rw[awg (by simp only[len];omega),af,awh h]
 rw[awh (by simp only[len];omega),awg (fun g=>g h)];have hg:=avK hb (i:=0) (by omega);have hl:=avK hb (i:=8) (by omega);unfold or8 at hg hl;simp only[axc,Nat.reduceAdd]at hg hl;have lt:∀k:Int,k<20->ilt k (len b)=true:=fun k hk=>pO (by simp only[len];omega);simp only[hg,hl];rw[au (lt 0 (by decide)),au (lt 8 (by decide)),au (lt 1 (by decide)),au (lt 9 (by decide)),au (lt 2 (by decide)),au (lt 10 (by decide)),au (lt 3 (by decide)),au (lt 11 (by decide)),au (lt 4 (by decide)),au (lt 12 (by decide)),au (lt 5 (by decide)),au (lt 13 (by decide)),au (lt 6 (by decide)),au (lt 14 (by decide)),au (lt 7 (by decide)),au (lt 15 (by decide))];refine(aax (atS b)).bind fun a ha=> ?_;rw[au (dW (by simp only[len];omega)),dF];have hcmp:toL a=b↔b.drop 16=tC (zV (b.take 16)):=by rw[ha];exact aqy hb h
 have hcmp2:toL a=b↔(a.a0=aj b 0/\a.a1=aj b 1/\a.a2=aj b 2/\a.a3=aj b 3/\a.a4=aj b 4/\a.a5=aj b 5/\a.a6=aj b 6/\a.a7=aj b 7/\a.a8=aj b 8/\a.a9=aj b 9/\a.a10=aj b 10/\a.a11=aj b 11/\a.a12=aj b 12/\a.a13=aj b 13/\a.a14=aj b 14/\a.a15=aj b 15/\a.a16=aj b 16/\a.a17=aj b 17/\a.a18=aj b 18/\a.a19=aj b 19):=by
  have:=aqC h;generalize aj b 0=b0,aj b 1=b1,aj b 2=b2,aj b 3=b3,aj b 4=b4,aj b 5=b5,aj b 6=b6,aj b 7=b7,aj b 8=b8,aj b 9=b9,aj b 10=b10,aj b 11=b11,aj b 12=b12,aj b 13=b13,aj b 14=b14,aj b 15=b15,aj b 16=b16,aj b 17=b17,aj b 18=b18,aj b 19=b19 at this ⊢;subst this;simp only[toL,ax2,awy]
 refine⟨fun hc=>(af _).2 ?_,fun hc=> ?_⟩
 ·rw[awh];rw[aG]at hc;intro e;have e2:=hcmp2.1 (hcmp.2 e);rw[<-Bool.not_eq_true]at hc;apply hc;simp only[aH,aI,awy];exact e2
 ·rw[aF]at hc;simp only[aH,aI,awy]at hc;have e:=hcmp.1 (hcmp2.2 hc);rw[awg (fun g=>g e),aaQ,ai,cO,sN];have ea:dU.mk (at8 b 0) (at8 b 8)=atS b:=rfl;rw[ea];by_cases hp:FK (atS b)
  ·rw[awh hp,awh hp,af]
  ·rw[awg hp,awg hp,af]
theorem aaZ (s:dU):uf s=some (decide (FK s)):=by
 refine Wq.dec ?_;unfold uf FK;rw[af];simp only[aH,aQ,aX,bn,aG,aF,bg,bC,aY,bI,aI,aP,bG,bJ];omega
theorem aeg (l:List Int):0<=zV l/\zV l<4294967296:=adU _
theorem asa {i:Nat} (h:i<=8):(256:Int)^i<=18446744073709551616:=by
 have:i=0\/i=1\/i=2\/i=3\/i=4\/i=5\/i=6\/i=7\/i=8:=by omega
 rcases this with rfl | rfl | rfl | rfl | rfl | rfl | rfl | rfl | rfl<;>decide
theorem agh {b:List Int} (hb:jU b):xq b=some (slD b):=by
 refine Wq.eq ?_;unfold xq slD;rw[cO,dn];by_cases h:b.length=20
 case neg=>rw[awg (by simp only[len];omega),af,awh h]
 rw[awh (by simp only[len];omega),awg (fun g=>g h),au (dW (by simp only[len];omega))];have ht:(b.take 16).length=16:=by rw[awu];omega
 rw[show aV b 16=b.take 16 from rfl,X5 (by omega) (hb.take 16),ai];have hc:=aeg (b.take 16);generalize hcg:zV (b.take 16)=c at hc ⊢;have htl:(b.drop 16).length=4:=by rw[awP];omega
 refine Wq.bind (Q:=fun w=>match w with
  |.inl w=>w=(10,(⟨0,0⟩:dU))/\b.drop 16≠tC c
  |.inr w=>b.drop 16=tC c)
  (fG (n:=4) (step:=fun v:Int×Int×Int×dU=>lW b v.1 v.2.1 v.2.2.1 v.2.2.2) (by decide)
    (fun i x=>x.1=c / 256^i/\∀(k:Nat) (g:k<(b.drop 16).length) (g':k<(tC c).length),k<i->(b.drop 16)[k]=(tC c)[k]) _ ?_ ?_ _ 0 (by decide) ⟨by simp,fun k _ _ h=>by omega⟩) ?_
 ·rintro i ⟨u,v,s⟩ hi ⟨h1,h2⟩;simp only at h1;simp only[lW];have e1:wr .i64 (ay 16 (i:Int))=((16+i:Nat):Int):=by rw[ay,bf (by omega) (by omega)];omega
  have hi2:16+i<b.length:=by omega
  have hp:(0:Int)<256^i:=axy (by decide);have hu:0<=u/\u<4294967296:=by
   rw[h1];refine⟨ax9 hc.1 (by omega),?_⟩;have:=ayn (256^i) hc.1;omega
  have e2:wr .u8 (ug u 256)=c / 256^i%256:=by
   unfold ug;rw[axp hu.1,Ef,axV,h1]
  have hti:(tC c)[i]'(by simp [tC];omega)=c / 256^i%256:=ak9 c hi;rw[au (pO (by omega)),e1,au (inb _ _ hi2),aN _ _ hi2,e2,cO,dn];have hd:(b.drop 16)[i]'(by omega)=b[16+i]:=by rw[axH]
  by_cases he:b[16+i]=c / 256^i%256
  ·rw[awh he,af];refine⟨aZ (by omega),?_,fun k g g' hk=> ?_⟩
   ·show wr .u32 (AL u 256)=_;unfold AL;rw[axM hu.1,ZO,awZ (by omega) (by omega),h1,axU];exact ayo (by omega)
   ·by_cases e:k=i
    ·subst e;rw[hd,he,hti]
    ·exact h2 k g g' (by omega)
  ·rw[awg he,af];refine⟨rfl,fun e=>he ?_⟩;rw[<-hd,<-hti];simp only[e]
 ·rintro⟨u,v,s⟩ ⟨h1,h2⟩;simp only[lW];rw[bK (nP (by omega)),af];exact ayl (by rw[htl];rfl) fun k g g'=>h2 k g g' (by omega)
 ·rintro(w | w) hw
  ·simp only[dK,af];rw[awh hw.2,hw.1]
  ·simp only[dK];simp only at hw;rw[awg (fun g=>g hw)];refine Wq.bind (Q:=fun w:Int×Int=>w=(unZ ((b.drop 8).take 8),unZ ((b.drop 0).take 8)))
    (fG (n:=8) (step:=fun v:Int×Int×Int=>lX b v.1 v.2.1 v.2.2) (by decide)
      (fun i x=>x=(unZ ((b.drop 8).take i),unZ ((b.drop 0).take i))) _ ?_ ?_ _ 0 (by decide) (by simp [unZ])) ?_
   ·rintro i x hi rfl;simp only[lX];have e1:wr .i64 (ay 8 (i:Int))=((8+i:Nat):Int):=by rw[ay,bf (by omega) (by omega)];omega
    have hi1:i<b.length:=by omega
    have hi2:8+i<b.length:=by omega
    have snoc:∀(k:Nat) (hk:k+i<b.length),(b.drop k).take (i+1)=(b.drop k).take i++[b[k+i]'hk]:=fun k hk=>by
     rw[gm (by rw[awP];omega),axH]
    have rng:∀k:Nat,k+8<=b.length->0<=unZ ((b.drop k).take (i+1))/\unZ ((b.drop k).take (i+1))<18446744073709551616/\0<=unZ ((b.drop k).take i):=fun k hk=>by
     have g1:=adP ((hb.drop k).take (i+1));have g2:=adP ((hb.drop k).take i);refine⟨g1.1,?_,g2.1⟩;have g3:((b.drop k).take (i+1)).length=i+1:=by rw[awu,awP];omega
     rw[g3]at g1;have g4:=asa (show i+1<=8 by omega);omega
    have stp:∀(k:Nat) (hk:k+8<=b.length),wr .u64 (ay (wr .u64 (dA (unZ ((b.drop k).take i)) 256)) (wr .u64 (b[k+i]'(by omega))))=unZ ((b.drop k).take (i+1)):=fun k hk=>by
     have hbb:=hb.get (show k+i<b.length by omega);have g:=rng k hk;rw[snoc k (by omega),apJ]at g ⊢;rw[rE,rE,rE,ay,dA];omega
    rw[au (pO (by omega)),au (inb _ _ hi1),e1,au (inb _ _ hi2),aN _ _ hi2,aN _ _ hi1,af,stp 8 (by omega)];have:=stp 0 (by omega);simp only[axc]at this;rw[this];exact⟨aZ (by omega),rfl⟩
   ·rintro x rfl;simp only[lX];rw[bK (nP (by omega)),af]
   ·rintro w rfl;rw[aaZ,ai,cO,sN];have ea:dU.mk (wr .i64 (unZ ((b.drop 0).take 8))) (wr .i64 (unZ ((b.drop 8).take 8)))=atS b:=rfl;rw[ea];by_cases hp:FK (atS b)
    ·rw[awh hp,awh hp,af]
    ·rw[awg hp,awg hp,af]
theorem agu {s:dU} (h:FK s):rQ s=some (yh s):=by
 refine Wq.eq ?_;unfold rQ;obtain⟨p1,p2,p3,p4⟩:=h;refine Wq.bind (Q:=fun w=>w=um s)
  (aiw (n:=8) (step:=fun v:Int×Int×Int×List Int=>lV v.1 v.2.1 v.2.2.1 v.2.2.2) (by decide)
    (fun i x=>i<=8/\x.1=s.B / 256^(8 - i)/\x.2.1=s.K / 256^(8 - i)/\x.2.2=List.replicate i 0++iY s.K (8 - i)++(List.replicate i 0++iY s.B (8 - i))) _ ?_ ?_ _ ⟨awk _,by simp,by simp,by simp [iY,sK]⟩) ?_
 ·rintro i ⟨u,v,l⟩ hi ⟨-, h1,h2,h3⟩;simp only at h1 h2 h3;simp only[lV];have hp:(0:Int)<256^(8 - (i+1)):=axy (by decide);have hu:0<=u/\u<=1000000000:=by
   rw[h1];refine⟨ax9 p3 (by omega),?_⟩;have:=ayn (256^(8 - (i+1))) p3;omega
  have hv:0<=v/\v<=1000000000:=by
   rw[h2];refine⟨ax9 (by omega) (by omega),?_⟩;have:=ayn (256^(8 - (i+1))) (show 0<=s.K by omega);omega
  have hl:l.length=16:=by rw[h3];simp [iT];omega
  have e1:wr .i64 (ay 8 (i:Int))=((8+i:Nat):Int):=by rw[ay,bf (by omega) (by omega)];omega
  have e:8 - i=(8 - (i+1))+1:=by omega
  have eu:wr .u8 (ug u 256)=s.B / 256^(8 - (i+1))%256:=by unfold ug;rw[axp hu.1,Ef,axV,h1]
  have ev:wr .u8 (ug v 256)=s.K / 256^(8 - (i+1))%256:=by unfold ug;rw[axp hv.1,Ef,axV,h2]
  have qu:wr .i64 (AL u 256)=s.B / 256^(8 - i):=by
   unfold AL;rw[axM hu.1,bf (by omega) (by omega),h1,e,axU];exact ayo (by omega)
  have qv:wr .i64 (AL v 256)=s.K / 256^(8 - i):=by
   unfold AL;rw[axM hv.1,bf (by omega) (by omega),h2,e,axU];exact ayo (by omega)
  rw[au (dW (by omega)),au (inb _ _ (show i<l.length by omega)),e1,eu,ev,qu,qv,vK,vK];rw[au (inb _ _ (by rw[DX];omega)),af];refine⟨Yk (by omega),by omega,rfl,rfl,?_⟩;simp only;rw[h3,e];unfold dP;have a1:((List.replicate (i+1) (0:Int)++iY s.K (8 - (i+1))++(List.replicate (i+1) 0++iY s.B (8 - (i+1)))).set i (s.K / 256^(8 - (i+1))%256))=List.replicate i 0++iY s.K ((8 - (i+1))+1)++(List.replicate (i+1) 0++iY s.B (8 - (i+1))):=by
   rw[aya,awh (by simp [iT];omega),aya,awh (by simp),azl,aya,awg (by simp)];simp [iY]
  rw[a1];have a2:(List.replicate i (0:Int)++iY s.K ((8 - (i+1))+1)).length=8:=by simp [iT];omega
  rw[aya,awg (by omega),a2,show 8+i - 8=i by omega,aya,awh (by simp),azl,aya,awg (by simp)];simp [iY]
 ·rintro⟨u,v,l⟩ ⟨-, h1,h2,h3⟩;simp only[lV];rw[bK (JA (by omega)),af];simp only at h3;rw[h3];simp [um]
 ·rintro w rfl;rw[X5 (by rw[acA];decide) (Zm s),ai];have hc:=aeg (um s);generalize hcg:zV (um s)=c at hc ⊢;refine Wq.bind (Q:=fun w=>w=yh s)
   (fG (n:=4) (step:=fun v:Int×Int×List Int=>lS v.1 v.2.1 v.2.2) (by decide)
     (fun i x=>x.1=c / 256^i/\x.2=um s++(tC c).take i) _ ?_ ?_ _ 0 (by decide) ⟨by simp,by simp⟩) fun w hw=>(af _).2 hw
  ·rintro i ⟨u,l⟩ hi ⟨h1,h2⟩;simp only at h1 h2;simp only[lS];have hp:(0:Int)<256^i:=axy (by decide);have hu:0<=u/\u<4294967296:=by
    rw[h1];refine⟨ax9 hc.1 (by omega),?_⟩;have:=ayn (256^i) hc.1;omega
   have e2:wr .u8 (ug u 256)=c / 256^i%256:=by
    unfold ug;rw[axp hu.1,Ef,axV,h1]
   rw[au (pO (by omega)),e2,au (dW (by simp only[len,aJ,h2,awn,acA,awu,awY];omega)),af];refine⟨aZ (by omega),?_,?_⟩
   ·show wr .u32 (AL u 256)=_;unfold AL;rw[axM hu.1,ZO,awZ (by omega) (by omega),h1,axU];exact ayo (by omega)
   ·simp only[aJ];rw[h2];exact abY c hi _
  ·rintro⟨u,l⟩ ⟨h1,h2⟩;simp only[lS];rw[bK (nP (by omega)),af];simp only at h2;rw[h2,<-hcg];simp [yh,tC]
def n0:Nm:=[115,108,111,116,46,48]
def n1:Nm:=[115,108,111,116,46,49]
def nmS (g:Int):Nm:=if g%2=0 then n0 else n1
theorem n01:n0<n1:=by decide
theorem ad4:iZ n0:=by decide
theorem aew:iZ n1:=by decide
theorem acu (g:Int):iZ (nmS g):=by unfold nmS;split;exact ad4;exact aew
theorem iZ.len {n:Nm} (h:iZ n):n.length<999999:=by have:=h.2.2;omega
theorem Xu {g:Int} (h:0<=g):yj g=some (nmS g):=by
 unfold yj nmS ug;rw[dn,axp h];split<;>rfl
theorem ads {g:Int} (h:0<=g):uS g=some (nmS g):=by
 unfold uS nmS ug;rw[cO,dn,axp h];split<;>rfl
def ctF (l:List aS) (n:Nm):List Int:=match dN l n with | some f=>f.data | none=>[]
def iW (d:ak):Prop:=∀f∈d.b,jU f.data
theorem alc {d:ak} (h:iW d) (n:Nm):jU (ctF d.b n):=by
 unfold ctF;cases hg:dN d.b n with
 |none=>intro x hx;cases hx
 |some f=>exact h f (BQ hg).1
def FD (best:dU) (par:Int) (b:List Int):dU:=if (slD b).2=0/\(slD b).1.K%2=par/\best.K<(slD b).1.K then (slD b).1 else best
def SB (c0 c1:List Int):dU:=FD (FD ⟨0,0⟩ 0 c0) 1 c1
def DI (l:List aS):dU:=SB (ctF l n0) (ctF l n1)
def dS (d:ak):dU×Int:=if ¬fD d then (⟨0,0⟩,1)else if d.Q=true then (⟨0,0⟩,9)else if (DI d.b).K=0 then (⟨0,0⟩,7)else (DI d.b,0)
theorem aie {b:List Int} (h:(slD b).2=0):FK (slD b).1/\slD b=(atS b,0)/\b.length=20/\b.drop 16=tC (zV (b.take 16)):=by
 unfold slD at h ⊢;by_cases h1:b.length≠20
 ·simp [h1]at h
 rw[awg h1]at h ⊢;by_cases h2:b.drop 16≠tC (zV (b.take 16))
 ·simp [h2]at h
 rw[awg h2]at h ⊢;by_cases h3:FK (atS b)
 ·rw[awh h3];exact⟨h3,rfl,axj.1 h1,axj.1 h2⟩
 ·simp [h3]at h
theorem ahn (s:dU) (p:Int) (b:List Int):FD s p b=s\/FK (FD s p b):=by
 unfold FD;split
 ·rename_i h;exact .inr (aie h.1).1
 ·exact .inl rfl
theorem ajH (a b:List Int):SB a b=⟨0,0⟩\/FK (SB a b):=by
 unfold SB;rcases ahn (FD ⟨0,0⟩ 0 a) 1 b with h | h
 ·rw[h];exact ahn _ _ _
 ·exact .inr h
theorem ahR (a b:List Int):0<=(SB a b).K/\(SB a b).K<=1000000000:=by
 rcases ajH a b with h | h
 ·rw[h];simp
 ·exact⟨by have:=h.1;omega,h.2.1⟩
theorem aej {a b:List Int} (h:(SB a b).K=0):SB a b=⟨0,0⟩:=by
 rcases ajH a b with g | g
 ·exact g
 ·have:=g.1;omega
theorem anr {d:ak} {n:Nm} (hd:fD d) (hw:d.Q=false) (hn:iZ n):(aa7 d n).1=ctF d.b n:=by
 unfold aa7 ctF;rw[awg (fun g=>g (jc.2 ⟨hd,hw,LC hn⟩))];cases dN d.b n<;>rfl
theorem ac6 {d:ak} (h:Ez d) (hb:iW d):KR d=some (dS d):=by
 refine Wq.eq ?_;unfold KR dS;rw[I7 h.nm,ai,cO,sN];by_cases hd:fD d
 case neg=>rw[awg hd,af,awh hd]
 rw[awh hd,awg (fun g=>g hd)];cases hw:d.Q
 case true=>rw[aU,af];simp
 rw[aT,awg (by simp),Xu (by decide),ai,show nmS 0=n0 from rfl,aix h ad4.len,ai,anr hd hw ad4,YX (alc hb _),ai];simp only[Xu (show(0:Int)<=1 by decide),ai,show nmS 1=n1 from rfl,aix h aew.len,anr hd hw aew,YX (alc hb _)];have pos:∀b:List Int,(slD b).2=0->ug (slD b).1.K 2=(slD b).1.K%2:=fun b hb=>by
  have:=(aie hb).1.1;unfold ug;exact axp (by omega)
 have iff2:∀(b:List Int) (s:dU) (p:Int),(band (band (ieq (slD b).2 0) (ieq (ug (slD b).1.K 2) p)) (ilt s.K (slD b).1.K)=true)↔((slD b).2=0/\(slD b).1.K%2=p/\s.K<(slD b).1.K):=fun b s p=>by
  simp only[aH,aI,bg];constructor
  ·rintro⟨⟨h1,h2⟩,h3⟩;exact⟨h1,by rw[<-pos b h1];exact h2,h3⟩
  ·rintro⟨h1,h2,h3⟩;exact⟨⟨h1,by rw[pos b h1];exact h2⟩,h3⟩
 have i0:=iff2 (ctF d.b n0) ⟨0,0⟩ 0;rw[dF];refine⟨fun hc=> ?_,fun hc=> ?_⟩
 ·have e0:FD ⟨0,0⟩ 0 (ctF d.b n0)=(slD (ctF d.b n0)).1:=by unfold FD;rw[awh (i0.1 hc)]
  rw[dF];refine⟨fun hc2=> ?_,fun hc2=> ?_⟩
  ·have e1:DI d.b=(slD (ctF d.b n1)).1:=by unfold DI SB;rw[e0];unfold FD;rw[awh ((iff2 _ _ 1).1 hc2)]
   rw[<-e1,dn];split<;>rw[af]
  ·have e1:DI d.b=(slD (ctF d.b n0)).1:=by unfold DI SB;rw[e0];unfold FD;rw[awg fun g=>by rw[(iff2 _ _ 1).2 g]at hc2;cases hc2]
   rw[<-e1,dn];split<;>rw[af]
 ·have e0:FD ⟨0,0⟩ 0 (ctF d.b n0)=⟨0,0⟩:=by unfold FD;rw[awg fun g=>by rw[i0.2 g]at hc;cases hc]
  rw[dF];refine⟨fun hc2=> ?_,fun hc2=> ?_⟩
  ·have e1:DI d.b=(slD (ctF d.b n1)).1:=by unfold DI SB;rw[e0];unfold FD;rw[awh ((iff2 _ ⟨0,0⟩ 1).1 hc2)]
   rw[<-e1,dn];split<;>rw[af]
  ·have e1:DI d.b=⟨0,0⟩:=by unfold DI SB;rw[e0];unfold FD;rw[awg fun g=>by rw[(iff2 _ ⟨0,0⟩ 1).2 g]at hc2;cases hc2]
   rw[e1,af,awh rfl]
def Gx (best:dU) (l:List aS):dU:=l.foldl (fun best f=>if (slD f.data).2=0/\f.name=nmS (slD f.data).1.K/\best.K<(slD f.data).1.K then (slD f.data).1 else best) best
theorem SS {l:List aS} (h:∀f∈l,f.name≠n0/\f.name≠n1):∀best,Gx best l=best:=by
 induction l with
 |nil=>intro best;rfl
 |cons f l ih=>
  intro best;have hf:=h f (aw0 ..);unfold Gx;rw[aw6,awg]
  ·exact ih (fun g hg=>h g (awX _ hg)) best
  ·rintro⟨-, e, -⟩;unfold nmS at e;split at e
   ·exact hf.1 e
   ·exact hf.2 e
theorem Qm (b:dU) (l k:List aS):Gx b (l++k)=Gx (Gx b l) k:=by unfold Gx;rw[ayO]
theorem amK {b:dU} {f:aS} (h:f.name=n0) (k:List aS):Gx b (f::k)=Gx (FD b 0 f.data) k:=by
 unfold Gx FD;rw[aw6,h];congr 1;have:n0=nmS (slD f.data).1.K↔(slD f.data).1.K%2=0:=by
  unfold nmS;by_cases e:(slD f.data).1.K%2=0
  ·rw[awh e];simp [e]
  ·rw[awg e];simp only[e,iff_false];exact Hu n01
 simp only[this]
theorem amQ {b:dU} {f:aS} (h:f.name=n1) (k:List aS):Gx b (f::k)=Gx (FD b 1 f.data) k:=by
 unfold Gx FD;rw[aw6,h];congr 1;have:n1=nmS (slD f.data).1.K↔(slD f.data).1.K%2=1:=by
  unfold nmS;by_cases e:(slD f.data).1.K%2=0
  ·rw[awh e];simp only[e];constructor
   ·intro g;exact absurd g.symm (Hu n01)
   ·intro g;omega
  ·rw[awg e];simp only[true_iff];omega
 simp only[this]
theorem lN {l:List aS} (h:J3 l) (hl:l.length<=100000) (n:Nm):∃i o,rF n l i o:=by
 obtain⟨_,_,i,o,_,h2,_⟩:=WA (d:=⟨l,0,0,false⟩) (n:=n) h hl;exact⟨i,o,h2⟩
theorem ajo (b:dU) (p:Int):FD b p []=b:=by unfold FD slD;simp
theorem aoS {l:List aS} (h:J3 l) (hl:l.length<=100000):Gx ⟨0,0⟩ l=DI l:=by
 have tail:∀(b:List aS) (best:dU),J3 b->b.length<=100000->(∀f∈b,n0<f.name)->Gx best b=FD best 1 (ctF b n1):=fun b best hb hbl hn=>by
  obtain⟨j,o,hs⟩:=lN hb hbl n1;have hg:=hs.get;unfold ctF;cases hs with
  |no a c ha hc=>
   rw[hg,ajo];refine SS (fun f hf=>⟨(Hu (hn f hf)).symm,?_⟩) best;rcases awt.1 hf with g | g
   ·exact Hu (ha f g)
   ·exact(Hu (hc f g)).symm
  |yes a f c e ha hc=>
   rw[hg,Qm,SS (fun f hf=>⟨(Hu (hn f (awM _ hf))).symm,Hu (ha f hf)⟩),amQ e,SS (fun f hf=>⟨(Hu (OE n01 (hc f hf))).symm,(Hu (hc f hf)).symm⟩)]
 obtain⟨i,o,hs⟩:=lN h hl n0;have hg:=hs.get;unfold DI SB;cases hs with
 |no a c ha hc=>
  have h2:ctF (a++c) n1=ctF c n1:=by unfold ctF;rw[P5 fun f hf=>Hu (OE (ha f hf) n01)]
  have hac:J3 c:=(ayR.1 h).2.1;rw[h2,show ctF (a++c) n0=[] by unfold ctF;rw[hg],ajo,Qm,SS (fun f hf=>⟨Hu (ha f hf),Hu (OE (ha f hf) n01)⟩)];exact tail c _ hac (by rw[awn]at hl;omega) hc
 |yes a f c e ha hc=>
  have h2:ctF (a++f::c) n1=ctF c n1:=by
   unfold ctF;rw[P5 fun f hf=>Hu (OE (ha f hf) n01),uy,awg (by rw[e];exact Hu n01)]
  have hac:J3 c:=(ay7.1 (ayR.1 h).2.1).2;rw[h2,show ctF (a++f::c) n0=f.data by unfold ctF;rw[hg],Qm,SS (fun f hf=>⟨Hu (ha f hf),Hu (OE (ha f hf) n01)⟩),amK e];exact tail c _ hac (by rw[awn,awF]at hl;omega) hc
theorem adf {d:ak} (h:Ez d) (hb:iW d):uQ d=some (dS d):=by
 refine Wq.eq ?_;unfold uQ dS;rw[Au h.nm,ai,cO,sN];by_cases hd:fD d
 case neg=>rw[awg hd,af,awh hd]
 rw[awh hd,awg (fun g=>g hd)];cases hw:d.Q
 case true=>rw[aU,af];simp
 have hl:=hd.fl;rw[aT,awg (by simp)];refine Wq.bind (fG (n:=d.b.length) (step:=fun v:Int×dU=>pG d v.1 v.2) (by omega) (fun i x=>x=Gx ⟨0,0⟩ (d.b.take i)) (fun w=>w=Gx ⟨0,0⟩ d.b) ?_ ?_ _ 0 (awm _) (by simp [Gx])) ?_
 ·rintro i x hi rfl;simp only[pG];rw[au (by rw[dm];simpa using hi),au (inb _ i hi),aN _ i hi,agh (hb _ (awl hi)),ai,au (by rw[aX];exact .inl (inb _ i hi)),dn,gm hi,Qm];by_cases h0:(slD d.b[i].data).2=0
  ·have hp:=(aie h0).1;rw[awh h0,ads (by have:=hp.1;omega),ai,dF,af,af];constructor
   ·intro hc;simp only[aH,aI,bg,adn]at hc;refine⟨aZ (by omega),?_⟩
    conv=>rhs;unfold Gx
    rw[aw6,List.foldl_nil,awh ⟨hc.1.1,hc.1.2,hc.2⟩]
   ·intro hc;refine⟨aZ (by omega),?_⟩
    conv=>rhs;unfold Gx
    rw[aw6,List.foldl_nil,awg]
    ·rfl
    ·rintro⟨g1,g2,g3⟩;rw[<-Bool.not_eq_true]at hc;apply hc;simp only[aH,aI,bg,adn];exact⟨⟨g1,g2⟩,g3⟩
  ·rw[awg h0,ai,bK (by simp only[aQ,aP];exact .inl (.inl h0)),af];refine⟨aZ (by omega),?_⟩
   conv=>rhs;unfold Gx
   rw[aw6,List.foldl_nil,awg (fun g=>h0 g.1)]
   rfl
 ·rintro x rfl;simp only[pG];rw[bK (En _),af,awq]
 ·rintro w rfl;rw[aoS hd.asc (by omega),dn];by_cases h0:(DI d.b).K=0
  ·rw[awh h0,af,awh h0];unfold DI at h0 ⊢;rw[aej h0]
  ·rw[awg h0,af,awg h0]
theorem get_put (f:aS) (m:Nm):∀l:List aS,dN (uq f l) m=if m=f.name then some f else dN l m
 |[]=>by
  rw[uq,uy]
  by_cases h:m=f.name
  ·rw[awh h.symm,awh h]
  ·rw[awg (fun e=>h e.symm),awg h]
 |g::r=>by
  rw[uq]
  by_cases hlt:g.name<f.name
  ·rw[awh hlt,uy,uy,get_put f m r]
   by_cases h:m=f.name
   ·rw[awg (fun e=>Qi f.name (by rw[e,h]at hlt;exact hlt)),awh h,awh h]
   ·rw[awg h,awg h]
  ·rw[awg hlt,uy]
   by_cases h:m=f.name
   ·rw[awh h.symm,awh h]
   ·rw[awg (fun e=>h e.symm),awg h]
    exact gd m h (g::r)
where
 gd (m:Nm) (h:m≠f.name):∀l:List aS,dN (zA f.name l) m=dN l m
 |[]=>rfl
 |g::r=>by
  rw[Gu]
  by_cases e:g.name=f.name
  ·rw[awh e,gd m h r,uy,awg (fun k=>h (by rw[<-k,e]))]
  ·rw[awg e,uy,uy,gd m h r]
theorem adQ (n m:Nm):∀l:List aS,dN (zA n l) m=if m=n then none else dN l m
 |[]=>by simp [zA,dN]
 |g::r=>by
  rw[Gu]
  by_cases e:g.name=n
  ·rw[awh e,adQ n m r]
   by_cases h:m=n
   ·rw[awh h,awh h]
   ·rw[awg h,awg h,uy,awg (fun k=>h (by rw[<-k,e]))]
  ·rw[awg e,uy,adQ n m r]
   by_cases h:m=n
   ·rw[awh h,awh h,awg (fun k=>e (by rw[k,h]))]
   ·rw[awg h,awg h,uy]
theorem acG (f:aS) (l:List aS):BM (f::l)↔okF f/\BM l/\∀g∈l,f.name<g.name:=by
 have:=A8 [f] l;rw[ayU,ahi]at this;rw[this];simp
def YH (o:Option aS):Nat:=match o with | some f=>f.data.length | none=>0
theorem rF.used {n:Nm} {l:List aS} {i:Nat} {o:Option aS} (h:rF n l i o) (f:aS) (e:f.name=n):gK (uq f l)+YH o=gK l+f.data.length:=by
 subst e;cases h with
 |no a b ha hb=>rw[DT ha,PE hb,xX,xX,Uz];simp only[YH];omega
 |yes a g b e ha hb=>rw[DT ha,adT e hb,xX,xX,Uz,Uz];simp only[YH];omega
theorem rF.long {n:Nm} {l:List aS} {i:Nat} {o:Option aS} (h:rF n l i o) (f:aS) (e:f.name=n):(uq f l).length=l.length+if o=none then 1 else 0:=by
 subst e;cases h with
 |no a b ha hb=>rw[DT ha,PE hb];simp;omega
 |yes a g b e ha hb=>rw[DT ha,adT e hb];simp
theorem rF.good {n:Nm} {l:List aS} {i:Nat} {o:Option aS} (h:rF n l i o) {f:aS} (e:f.name=n) (hf:okF f) (hl:BM l):BM (uq f l):=by
 subst e;cases h with
 |no a b ha hb=>
  rw[DT ha,PE hb];obtain⟨h1,h2,h3⟩:=(A8 _ _).1 hl;refine(A8 _ _).2 ⟨h1,(acG _ _).2 ⟨hf,h2,hb⟩,fun g hg k hk=> ?_⟩;rcases aww.1 hk with rfl | hk
  ·exact ha g hg
  ·exact h3 g hg k hk
 |yes a g b e ha hb=>
  rw[DT ha,adT e hb];obtain⟨h1,h2,h3⟩:=(A8 _ _).1 hl;refine(A8 _ _).2 ⟨h1,(acG _ _).2 ⟨hf,((acG _ _).1 h2).2.1,hb⟩,fun g hg k hk=> ?_⟩;rcases aww.1 hk with rfl | hk
  ·exact ha g hg
  ·exact h3 g hg k (awX _ hk)
theorem rF.usedD {n:Nm} {l:List aS} {i:Nat} {o:Option aS} (h:rF n l i o):gK (zA n l)+YH o=gK l:=by
 cases h with
 |no a b ha hb=>rw[Kt (fun f hf=>(awt.1 hf).elim (fun g=>Hu (ha f g)) (fun g=>(Hu (hb f g)).symm))];rfl
 |yes a g b e ha hb=>
  rw[WQ,Gu,awh e,Kt fun g hg=>Hu (ha g hg),Kt fun g hg=>(Hu (hb g hg)).symm,xX,xX,Uz];simp only[YH];omega
theorem apT {n:Nm} {l:List aS} (h:BM l):BM (zA n l):=⟨fun f hf=>h.1 f (axK.1 hf).1,aiv h.2⟩
structure Keep (d e:ak):Prop where
 right:fD e
 fz:e.T<=d.T
 qZ:e.qZ=d.qZ
theorem Keep.refl {d:ak} (h:fD d):Keep d d:=⟨h,aw3 _,rfl⟩
theorem Keep.trans {a b c:ak} (h:Keep a b) (k:Keep b c):Keep a c:=⟨k.right,Int.le_trans k.fz h.fz,k.qZ.trans h.qZ⟩
theorem fD.bnd {d:ak} (h:fD d) (hf:inI d.T):Ez d:=
 ⟨fun f hf=>by have:=(h.2.1.1 f hf).1.2.2;omega,hf⟩
theorem Keep.bnd {d e:ak} (h:Keep d e) (hf:inI d.T):Ez e:=by
 refine h.right.bnd ?_;have:=h.fz;have:=h.right.1.2.2.1;unfold inI at*;omega
theorem aai (d:ak):(d.T=0/\(dG d).1.T=0/\(dG d).1.Q=true/\(dG d).2=false)\/((dG d).1.T<=d.T/\(-1<=d.T-> -1<=(dG d).1.T)/\(dG d).1.Q=d.Q/\(dG d).2=true):=by
 unfold dG;by_cases h0:d.T=0
 ·simp [h0]
 by_cases h1:d.T= -1
 ·simp [h1]
 ·rw[awg h0,awg h1];right;simp only;exact⟨by omega,fun _=>by omega,trivial,azv⟩
theorem NQ {d:ak} (h:fD d):Keep d (dG d).1:=by
 have hf:=aai d;have h1:=h.1;refine⟨⟨⟨?_,?_,?_,?_⟩,?_,?_⟩,?_,Bg d⟩<;>(try rw[Bg])<;>(try rw[cZ])
 ·omega
 ·omega
 ·rcases hf with hf | hf
  ·omega
  ·exact hf.2.1 h1.2.2.1
 ·omega
 ·exact h.2.1
 ·exact h.2.2
 ·rcases hf with hf | hf<;>omega
theorem Yn {d:ak} {f:aS} (h:fD d) (hf:okF f) (hu:(gK d.b:Int)+f.data.length<=d.qZ+YH (dN d.b f.name)) (hl:dN d.b f.name≠none\/d.b.length<64):Keep d (Ad d f):=by
 obtain⟨i,o,hs⟩:=lN h.asc (by have:=h.fl;omega) f.name;have g1:=hs.used f rfl;have g2:=hs.long f rfl;rw[hs.get]at hu hl;have h1:=h.1;refine⟨⟨⟨h1.1,h1.2.1,h1.2.2.1,?_⟩,hs.good rfl hf h.2.1,?_⟩,aw3 _,rfl⟩
 ·show(uq f d.b).length<=64;rw[g2];split
  ·rename_i e;rcases hl with c | c
   ·exact absurd e c
   ·omega
  ·omega
 ·show(gK (uq f d.b):Int)<=d.qZ;omega
theorem akL {d:ak} {n:Nm} (h:fD d):Keep d (acB d n):=by
 obtain⟨i,o,hs⟩:=lN h.asc (by have:=h.fl;omega) n;have g1:=hs.usedD;have h1:=h.1;have h2:=h.2.2;have:=XA n d.b;exact⟨⟨⟨h1.1,h1.2.1,h1.2.2.1,aw4 this h1.2.2.2⟩,apT h.2.1,by show(gK (zA n d.b):Int)<=d.qZ;omega⟩,aw3 _,rfl⟩
theorem ai3 {d:ak} {n:Nm} {f:aS} (h:fD d) (hg:dN d.b n=some f):okF f/\f.name=n:=⟨h.2.1.1 f (BQ hg).1,(BQ hg).2⟩
theorem SC (p:ak×Bool):(aik p).1=p.1:=rfl
theorem tu {d:ak} {n:Nm} {b:List Int} (h:fD d):Keep d (dM d n b).1:=by
 unfold dM;by_cases h0:gG d [n]=0
 case neg=>rw[awh h0];exact Keep.refl h
 rw[awg (fun g=>g h0)];have hn:=(jc.1 h0).2.2 n (awC.2 rfl);by_cases hc:d.qZ<(gK d.b:Int)+(b.length:Int)\/(dN d.b n=none/\64<=d.b.length)
 ·rw[awh hc];exact Keep.refl h
 rw[awg hc,SC];have hw:Keep d (Ad d ⟨n,((dN d.b n).getD ⟨n,[],0⟩).data++b,((dN d.b n).getD ⟨n,[],0⟩).J⟩):=by
  have hc1:¬d.qZ<(gK d.b:Int)+(b.length:Int):=fun g=>hc (.inl g);refine Yn h ?_ ?_ ?_
  ·cases hg:dN d.b n with
   |none=>exact⟨hn,aw3 _,by simp only[len,Option.getD_none];omega⟩
   |some f=>
    have hf:=(ai3 h hg).1;exact⟨hn,hf.2.1,by have:=hf.2.2;simp only[axO,len,awn]at this ⊢; omega⟩
  ·cases hg:dN d.b n with
   |none=>simp only[YH,Option.getD_none,aw1];omega
   |some f=>simp only[YH,axO,awn];omega
  ·cases hg:dN d.b n with
   |none=>right;have:¬64<=d.b.length:=fun g=>hc (.inr ⟨hg,g⟩);omega
   |some f=>left;intro e;cases e
 exact hw.trans (NQ hw.right)
theorem J8 {d:ak} {n:Nm} (h:fD d):Keep d (pq d n).1:=by
 unfold pq;by_cases h0:gG d [n]=0
 case neg=>rw[awh h0];exact Keep.refl h
 rw[awg (fun g=>g h0)];have hn:=(jc.1 h0).2.2 n (awC.2 rfl);have hk:=NQ h;cases hg:dN d.b n with
 |none=>exact Keep.refl h
 |some f=>
  simp only;split
  ·refine hk.trans (Yn hk.right ⟨hn,by simp only[len];omega,aw3 _⟩ ?_ ?_)
   ·simp only;rw[cZ,Bg,hg];simp only[YH];have:=h.2.2;omega
   ·left;simp only;rw[cZ,hg];intro e;cases e
  ·exact hk
theorem tN {d:ak} {n:Nm} (h:fD d):Keep d (fK d n).1:=by
 unfold fK;by_cases h0:gG d [n]=0
 case neg=>rw[awh h0];exact Keep.refl h
 rw[awg (fun g=>g h0)];have hk:=NQ h;cases hg:dN d.b n with
 |none=>exact Keep.refl h
 |some f=>
  simp only;split
  ·exact hk.trans (akL hk.right)
  ·exact hk
theorem ae9 {d:ak} {n:Nm} {k:Int} (h:fD d):Keep d (Ce d n k).1:=by
 unfold Ce;by_cases h0:gG d [n]=0
 case neg=>rw[awh h0];exact Keep.refl h
 rw[awg (fun g=>g h0)];have hn:=(jc.1 h0).2.2 n (awC.2 rfl);have hk:=NQ h;cases hg:dN d.b n with
 |none=>exact Keep.refl h
 |some f=>
  simp only;have hf:=(ai3 h hg).1;by_cases hc:k<0\/len f.data<k
  ·rw[awh hc];exact Keep.refl h
  rw[awg hc];have h1:¬k<0:=fun g=>hc (.inl g);have h2:¬len f.data<k:=fun g=>hc (.inr g);simp only[len]at h2;have hl:(f.data.take k.toNat).length=k.toNat:=by rw[awu];omega
  split
  ·refine hk.trans (Yn hk.right ⟨hn,?_,?_⟩ ?_ ?_)
   ·simp only;have:=hf.2.1;split<;>omega
   ·simp only[len,hl];split<;>omega
   ·simp only;rw[cZ,Bg,hg,hl];simp only[YH];have:=h.2.2;omega
   ·left;simp only;rw[cZ,hg];intro e;cases e
  ·exact hk
theorem Ld {d:ak} {a b:Nm} (h:fD d):Keep d (jH d a b).1:=by
 unfold jH;by_cases h0:gG d [a,b]=0
 case neg=>rw[awh h0];exact Keep.refl h
 rw[awg (fun g=>g h0)];have hn:=(jc.1 h0).2.2 b (by simp);have hk:=NQ h;cases hg:dN d.b a with
 |none=>exact Keep.refl h
 |some f=>
  simp only;have hf:=(ai3 h hg).1;split
  ·have hk2:=hk.trans (akL (n:=a) hk.right);refine hk2.trans (Yn hk2.right ⟨hn,hf.2.1,hf.2.2⟩ ?_ ?_)
   ·obtain⟨i,o,hs⟩:=lN h.asc (by have:=h.fl;omega) a;have hu:=hs.usedD;rw[<-hs.get,hg]at hu;have hd:=h.2.2;simp only[acB];rw[cZ,Bg];simp only[YH]at hu ⊢;omega
   ·right;obtain⟨i,o,hs⟩:=lN h.asc (by have:=h.fl;omega) a;have hi:=hs.get;rw[hg]at hi;subst hi;have hd:=hs.del;obtain⟨hil,-, -⟩:=hs.lt;have hfl:=h.fl;simp only[acB];rw[cZ,<-hd,azp hil];omega
  ·exact hk
theorem amW {f g:aS}:∀ {l:List aS},g∈uq f l->g=f\/g∈l
 |[],h=> .inl (awC.1 h)
 |k::r,h=>by
  rw[uq]at h
  split at h
  ·rcases aww.1 h with rfl | h
   ·exact .inr (aw0 ..)
   ·rcases amW h with e | e
    ·exact .inl e
    ·exact .inr (awX _ e)
  ·rcases aww.1 h with rfl | h
   ·exact .inl rfl
   ·exact .inr (axK.1 h).1
theorem XP {d:ak} {f:aS} (h:iW d) (hf:jU f.data):iW (Ad d f):=fun g hg=>by
 rcases amW hg with rfl | hg
 ·exact hf
 ·exact h g hg
theorem AO {d:ak} (h:iW d):iW (dG d).1:=fun g hg=>by rw[cZ]at hg;exact h g hg
theorem akQ {d:ak} {n:Nm} (h:iW d):iW (acB d n):=fun g hg=>h g (axK.1 hg).1
theorem abH {d:ak} {n:Nm} {f:aS} (h:iW d) (hg:dN d.b n=some f):jU f.data:=h f (BQ hg).1
theorem Hf {d:ak} {n:Nm} {b:List Int} (h:iW d) (hb:jU b):iW (dM d n b).1:=by
 unfold dM;split
 ·exact h
 ·split
  ·exact h
  ·rw[SC];refine AO (XP h ?_);cases hg:dN d.b n with
   |none=>exact hb
   |some f=>exact(abH h hg).app hb
theorem Nv {d:ak} {n:Nm} (h:iW d):iW (pq d n).1:=by
 unfold pq;split
 ·exact h
 ·cases hg:dN d.b n with
  |none=>exact h
  |some f=>simp only;split;exact XP (AO h) (show jU f.data from abH h hg);exact AO h
theorem Hg {d:ak} {n:Nm} (h:iW d):iW (fK d n).1:=by
 unfold fK;split
 ·exact h
 ·cases hg:dN d.b n with
  |none=>exact h
  |some f=>simp only;split;exact akQ (AO h);exact AO h
theorem aqH {d:ak} {n:Nm} {k:Int} (h:iW d):iW (Ce d n k).1:=by
 unfold Ce;split
 ·exact h
 ·cases hg:dN d.b n with
  |none=>exact h
  |some f=>simp only;split;exact h;split;exact XP (AO h) (show jU (f.data.take _)from(abH h hg).take _);exact AO h
theorem PD {d:ak} {a b:Nm} (h:iW d):iW (jH d a b).1:=by
 unfold jH;split
 ·exact h
 ·cases hg:dN d.b a with
  |none=>exact h
  |some f=>simp only;split;exact XP (akQ (AO h)) (show jU f.data from abH h hg);exact AO h
def jm (p:ak×Int) (f:ak->ak×Int):ak×Int:=if p.2≠0 then p else f p.1
def uN (d:ak) (n:Nm):ak×Int:=if dN d.b n=none then (d,0)else Ce d n 0
def ai6 (d:ak) (n:Nm) (b:List Int):ak×Int:=jm (jm (uN d n) fun d=>dM d n b) fun d=>pq d n
def xI (d:ak) (s:dU):ak×Int:=
 if ¬FK s\/(dS d).2=1 then (d,1)else if (dS d).2=9 then (d,9)else if s.K≠(dS d).1.K+1 then (d,8)else ai6 d (nmS s.K) (yh s)
theorem dY {p:ak×Int} {f:ak->ak×Int} (h:p.2≠0):jm p f=p:=awh h
theorem then_ok {p:ak×Int} {f:ak->ak×Int} (h:p.2=0):jm p f=f p.1:=awg (fun g=>g h)
theorem afI {d:ak} (h1:(dS d).2≠1) (h2:(dS d).2≠9):fD d/\d.Q=false:=by
 unfold dS at h1 h2;by_cases hd:fD d
 ·rw[awg (fun g=>g hd)]at h1 h2;cases hw:d.Q
  ·exact⟨hd,rfl⟩
  ·rw[hw]at h2;simp at h2
 ·rw[awh hd]at h1;simp at h1
theorem Nz (d:ak):0<=(dS d).1.K/\(dS d).1.K<=1000000000:=by
 unfold dS;split
 ·simp
 ·split
  ·simp
  ·split
   ·simp
   ·exact ahR _ _
theorem Ql {d:ak} (h:fD d) (hw:d.Q=false):(dS d).1=DI d.b/\((dS d).2=7/\(DI d.b).K=0\/(dS d).2=0/\1<=(DI d.b).K):=by
 unfold dS;rw[awg (fun g=>g h),hw,awg (by simp)];have:=ahR (ctF d.b n0) (ctF d.b n1);by_cases h0:(DI d.b).K=0
 ·rw[awh h0];exact⟨by unfold DI at h0 ⊢; rw[aej h0],.inl ⟨rfl,h0⟩⟩
 ·rw[awg h0];exact⟨rfl,.inr ⟨rfl,by unfold DI at h0 ⊢; omega⟩⟩
theorem afJ {d:ak} {n:Nm} (h:fD d) (hw:d.Q=false) (hn:iZ n):(aa7 d n).2=7↔dN d.b n=none:=by
 unfold aa7;rw[awg (fun g=>g (jc.2 ⟨h,hw,LC hn⟩))];cases dN d.b n<;>simp
theorem alV {d:ak} {n:Nm} (h:fD d):Keep d (uN d n).1:=by
 unfold uN;split
 ·exact Keep.refl h
 ·exact ae9 h
theorem alS {d:ak} {n:Nm} (h:iW d):iW (uN d n).1:=by
 unfold uN;split
 ·exact h
 ·exact aqH h
theorem GX {d:ak} {p:ak×Int} {f:ak->ak×Int} (h:Keep d p.1) (hf:∀e,fD e->Keep e (f e).1):Keep d (jm p f).1:=by
 unfold jm;split
 ·exact h
 ·exact h.trans (hf _ h.right)
theorem GH {p:ak×Int} {f:ak->ak×Int} (h:iW p.1) (hf:∀e,iW e->iW (f e).1):iW (jm p f).1:=by
 unfold jm;split
 ·exact h
 ·exact hf _ h
theorem aoO {d:ak} {n:Nm} {b:List Int} (h:fD d):Keep d (ai6 d n b).1:=GX (GX (alV h) fun e he=>tu he) fun e he=>J8 he
theorem aow {d:ak} {n:Nm} {b:List Int} (h:iW d) (hb:jU b):iW (ai6 d n b).1:=GH (GH (alS h) fun e he=>Hf he hb) fun e he=>Nv he
theorem Uw {d:ak} {s:dU} (h:fD d):Keep d (xI d s).1:=by
 unfold xI;split
 ·exact Keep.refl h
 ·split
  ·exact Keep.refl h
  ·split
   ·exact Keep.refl h
   ·exact aoO h
theorem amy {d:ak} {s:dU} (h:iW d):iW (xI d s).1:=by
 unfold xI;split
 ·exact h
 ·split
  ·exact h
  ·split
   ·exact h
   ·exact aow h (alQ s)
theorem anB {d:ak} {n:Nm} {b:List Int} (h:Ez d) (hn:iZ n) (hb:b.length<900000):
 Wq (ah (je d n b) fun y5=>cnd (ax (ieq y5.2 0)) (some y5) (ah (jZ y5.1 n) fun y6=>cnd (ax (ieq y6.2 0)) (some y6) (some (y6.1,0)))) fun x=>x=jm (dM d n b) fun d=>pq d n:=by
 rw[abJ h hn.len hb,ai,cO,dn]
 by_cases h0:(dM d n b).2=0
 case neg=>rw[awg h0,af,dY h0]
 rw[awh h0,then_ok h0]
 by_cases hd:fD d
 ·rw[aiN ((tu hd).bnd h.fu) hn.len,ai,cO,dn]
  split
  ·rename_i g;rw[af,<-g]
  ·rw[af]
 ·have:(dM d n b).2≠0:=by
   have hf:gG d [n]=1:=by unfold gG;rw[awh hd]
   unfold dM;rw[awh (by rw[hf];decide),hf];show(1:Int)≠0;decide
  exact absurd h0 this
theorem anf {d:ak} {n:Nm} {k:Int} (h:Ez d):Ez (Ce d n k).1:=by
 by_cases hd:fD d
 ·exact(ae9 hd).bnd h.fu
 ·have hf:gG d [n]=1:=by unfold gG;rw[awh hd]
  unfold Ce;rw[awh (by rw[hf];decide)];exact h
theorem aa2 {d:ak} {s:dU} (h:Ez d) (hb:iW d) (hs:inI s.K):jO d s=some (xI d s):=by
 refine Wq.eq ?_;unfold jO xI;rw[aaQ,ai,cO,sN];by_cases hp:FK s
 case neg=>rw[awg hp,af,awh (.inl hp)]
 rw[awh hp,ac6 h hb,ai];have hg:=Nz d;have eg:wr .i64 (ay (dS d).1.K 1)=(dS d).1.K+1:=by rw[ay,bf (by omega) (by omega)]
 rw[eg];have rest:(dS d).2≠1->(dS d).2≠9->Wq (cnd (ax (ieq s.K ((dS d).1.K+1))) (some (d,(8:Int))) (ah (yj s.K) fun y2=>ah (AY s) fun y3=>ah (vT d y2) fun y4=>cnd (ieq y4.2 7) (ah (je d y2 (toL y3)) fun y5=>cnd (ax (ieq y5.2 0)) (some y5) (ah (jZ y5.1 y2) fun y6=>cnd (ax (ieq y6.2 0)) (some y6) (some (y6.1,0)))) (ah (JY d y2 0) fun y7=>cnd (ax (ieq y7.2 0)) (some y7) (ah (je y7.1 y2 (toL y3)) fun y8=>cnd (ax (ieq y8.2 0)) (some y8) (ah (jZ y8.1 y2) fun y9=>cnd (ax (ieq y9.2 0)) (some y9) (some (y9.1,0))))))) fun x=>x=if s.K≠(dS d).1.K+1 then (d,8)else ai6 d (nmS s.K) (yh s):=by
  intro g1 g2;obtain⟨hd,hw⟩:=afI g1 g2;rw[cO,dn];by_cases he:s.K=(dS d).1.K+1
  case neg=>rw[awg he,af,awh he]
  rw[awh he,awg (fun g=>g he),Xu (by have:=hp.1;omega),ai];refine(aax s).bind fun a ha=> ?_;rw[ha];have hn:=acu s.K;have hbl:=ab9 s;rw[aix h hn.len,ai,dn];unfold ai6;by_cases h7:(aa7 d (nmS s.K)).2=7
  ·rw[awh h7];have hg:=(afJ hd hw hn).1 h7;have:uN d (nmS s.K)=(d,0):=by unfold uN;rw[awh hg]
   rw[this,show(jm (d,(0:Int)) fun d=>dM d (nmS s.K) (yh s))=dM d (nmS s.K) (yh s)from then_ok rfl];exact anB h hn (by omega)
  ·rw[awg h7];have hg:dN d.b (nmS s.K)≠none:=fun g=>h7 ((afJ hd hw hn).2 g);have:uN d (nmS s.K)=Ce d (nmS s.K) 0:=by unfold uN;rw[awg hg]
   rw[this,avF h hn.len,ai,cO,dn];by_cases h0:(Ce d (nmS s.K) 0).2=0
   ·rw[awh h0,show(jm (Ce d (nmS s.K) 0) fun d=>dM d (nmS s.K) (yh s))=dM (Ce d (nmS s.K) 0).1 (nmS s.K) (yh s)from then_ok h0];exact anB (anf h) hn (by omega)
   ·rw[awg h0,af,show(jm (Ce d (nmS s.K) 0) fun d=>dM d (nmS s.K) (yh s))=Ce d (nmS s.K) 0 from dY h0,dY h0]
 rw[dn,dn,dn];by_cases h1:(dS d).2=1
 ·rw[awh h1,awh h1,af,awh (.inr h1),h1]
 have hneg:¬(¬FK s\/(dS d).2=1):=fun g=>g.elim (fun g=>g hp) h1;rw[awg h1,awg hneg];by_cases h9:(dS d).2=9
 ·rw[awh h9,af,awh h9,h9]
 rw[awg h9,awg h9];exact rest h1 h9
theorem anO {d:ak} {n:Nm} {b:List Int} (h:Ez d) (hn:iZ n) (hb:b.length<900000):
 Wq (ah (fO d n b) fun y9=>cnd (ax (ieq y9.2 0)) (some y9) (ah (gq y9.1 n) fun y10=>some y10)) fun x=>x=jm (dM d n b) fun d=>pq d n:=by
 rw[aer h hn.len hb,ai,cO,dn]
 by_cases h0:(dM d n b).2=0
 case neg=>rw[awg h0,af,dY h0]
 rw[awh h0,then_ok h0]
 by_cases hd:fD d
 ·rw[alB ((tu hd).bnd h.fu) hn.len,ai,af]
 ·have:(dM d n b).2≠0:=by
   have hf:gG d [n]=1:=by unfold gG;rw[awh hd]
   unfold dM;rw[awh (by rw[hf];decide),hf];show(1:Int)≠0;decide
  exact absurd h0 this
theorem air {d:ak} {s:dU} (h:Ez d) (hb:iW d) (hs:inI s.K):oD d s=some (xI d s):=by
 refine Wq.eq ?_;unfold oD xI;have hg:=Nz d;have eg:wr .i64 (ay (dS d).1.K 1)=(dS d).1.K+1:=by rw[ay,bf (by omega) (by omega)]
 rw[adf h hb,ai,aaZ,eg,cO,dn,dn,cO,dn];by_cases h1:(dS d).2=1
 ·rw[awh h1,ai,au (by rw[h1];rfl),af,awh (.inr h1)]
 rw[awg h1,ai,dF];by_cases hp:FK s
 case neg=>
  rw[awR hp];refine⟨fun _=>(af _).2 (by rw[awh (.inl hp)]),fun hc=> ?_⟩;simp only[bn,aF]at hc;exact absurd hc.2 (by simp)
 rw[awv hp];refine⟨fun hc=> ?_,fun _=> ?_⟩
 ·simp only[aX,aI,aG]at hc;rcases hc with c | c
  ·exact absurd c h1
  ·cases c
 have hneg:¬(¬FK s\/(dS d).2=1):=fun g=>g.elim (fun g=>g hp) h1;rw[awg hneg];by_cases h9:(dS d).2=9
 ·rw[awh h9,af,awh h9]
 rw[awg h9,awg h9];obtain⟨hd,hw⟩:=afI h1 h9;by_cases he:s.K=(dS d).1.K+1
 case neg=>rw[awg (fun g=>he g.symm),af,awh he]
 have hn:=acu s.K;have hbl:=ab9 s;rw[awh he.symm,awg (fun g=>g he),ads (by have:=hp.1;omega),ai];simp only[agu hp,ai];unfold ai6;refine(WX hd.asc (by have:=hd.fl;omega)).bind ?_;rintro k (⟨rfl,hgn⟩ | ⟨i,hi,rfl,hgs⟩)
 ·have:uN d (nmS s.K)=(d,0):=by unfold uN;rw[awh hgn]
  rw[bK (JA (by omega)),this,show(jm (d,(0:Int)) fun d=>dM d (nmS s.K) (yh s))=dM d (nmS s.K) (yh s)from then_ok rfl];exact anO h hn (by omega)
 ·have:uN d (nmS s.K)=Ce d (nmS s.K) 0:=by unfold uN;rw[awg (by rw[hgs];intro e;cases e)]
  rw[au (dW (by omega)),this,avH h hn.len,ai,cO,dn];by_cases h0:(Ce d (nmS s.K) 0).2=0
  ·rw[awh h0,show(jm (Ce d (nmS s.K) 0) fun d=>dM d (nmS s.K) (yh s))=dM (Ce d (nmS s.K) 0).1 (nmS s.K) (yh s)from then_ok h0];exact anO (anf h) hn (by omega)
  ·rw[awg h0,af,show(jm (Ce d (nmS s.K) 0) fun d=>dM d (nmS s.K) (yh s))=Ce d (nmS s.K) 0 from dY h0,dY h0]
def mJ:Nm:=[115,110,97,112,46]
def jC (g:Int):Nm:=uT mJ g
def aah (v:Nat):Nm:=List.replicate (10 - (NS 20 v).length) 48++NS 20 v
def jJ (g:Int):Prop:=1<=g/\g<=1000000000
theorem SA {v:Nat} (h:v<=1000000000):(aah v).length=10:=by
 have:=OH 20 v 10 (by omega) (by decide);unfold aah;rw[awn,axv];omega
theorem TJ (v:Nat):∀c∈aah v,Nc c:=by
 intro c hc;rcases awt.1 hc with h | h
 ·rw[azc]at h;rw[h.2,rW];decide
 ·exact aao _ _ c h
theorem TF {v:Nat} (h:v<=1000000000):pU (aah v)=v:=by
 unfold aah;rw[Zw,afx 20 v (by omega)]
theorem Sj {g:Int} (h:jJ g):jC g=mJ++aah g.toNat:=by
 unfold jC uT aah;have:fmt10 g=NS 20 g.toNat:=by unfold fmt10;rw[awg (by have:=h.1;omega)]
 rw[awg (by unfold jJ at h;omega),this,awT]
theorem ao7 {g:Int} (h:¬jJ g):jC g=[]:=by
 unfold jC uT;rw[awh (by unfold jJ at h;omega)]
theorem Yo {g:Int} (h:jJ g):(jC g).length=15:=by
 rw[Sj h,awn,SA (by unfold jJ at h;omega)];rfl
theorem acw {g:Int} (h:jJ g):ji mJ (jC g)=g:=by
 have hv:g.toNat<=1000000000:=by unfold jJ at h;omega
 have e1:(jC g).take mJ.length=mJ:=by rw[Sj h,List.take_left]
 have e2:(jC g).drop mJ.length=aah g.toNat:=by rw[Sj h,List.drop_left]
 unfold ji;rw[e1,e2,awh ⟨rfl,SA hv,TJ _,by rw[TF hv];exact hv⟩,TF hv];unfold jJ at h;omega
theorem akz {s:Nm} (h:ji mJ s≠0):jJ (ji mJ s)/\s=jC (ji mJ s):=by
 have hc:s.take mJ.length=mJ/\(s.drop mJ.length).length=10/\(∀c∈s.drop mJ.length,48<=c/\c<=57)/\pU (s.drop mJ.length)<=1000000000:=by
  apply azq;intro g;exact h (awg g)
 have e:ji mJ s=((pU (s.drop mJ.length):Nat):Int):=awh hc;obtain⟨h1,h2,h3,h4⟩:=hc;have hg:jJ (ji mJ s):=by rw[e]at h ⊢; unfold jJ;omega
 refine⟨hg,?_⟩;rw[Sj hg,e,axh];have:=ajf h2 h3 (MP 10 _ h2 h3);unfold aah;rw[this]
 conv=>lhs;rw[<-aw7 mJ.length s,h1]
theorem ajy {c:UInt8} (h:Nc c):P9 c:=by rw[rW]at h;exact .inr (.inl h)
theorem Xo {g:Int} (h:jJ g):iZ (jC g):=by
 refine⟨?_,by rw[Yo h];decide,by rw[Yo h];decide⟩;rw[Sj h];intro c hc;rcases awt.1 hc with k | k
 ·have:∀c∈mJ,P9 c:=by decide
  exact this c k
 ·exact ajy (TJ _ c k)
theorem anR {g:Int} (h:jJ g):(fmt10 g).length<=10:=by
 have:fmt10 g=NS 20 g.toNat:=by unfold fmt10;rw[awg (by have:=h.1;omega)]
 rw[this];exact OH 20 _ 10 (by unfold jJ at h;omega) (by decide)
theorem U2 (g:Int):nX g=some (jC g):=by
 refine Wq.eq ?_;unfold nX;rw[dF];refine⟨fun h=> ?_,fun h=> ?_⟩
 ·simp only[aH,aQ,aX,bn,aG,aF,bg,bC,aY,bI,aI,aP,bG,bJ]at h;rw[af,ao7 (by unfold jJ;omega)]
 ·simp only[aH,aQ,aX,bn,aG,aF,bg,bC,aY,bI,aI,aP,bG,bJ]at h;have hg:jJ g:=⟨by omega,by omega⟩;have hl:=anR hg;have ef:jv g 10=some (fmt10 g):=by
   unfold jv ai2;rw[au (by rw[aH,aI,aH,aY,aY];unfold jJ at hg;exact⟨rfl,by omega,by omega⟩)]
  have ew:wr .i64 (aO 10 (len (fmt10 g)))=((10 - (fmt10 g).length:Nat):Int):=by
   rw[aO,bf (by simp only[len];omega) (by simp only[len];omega)];simp only[len];omega
  have er:lQ [(UInt8.ofNat 48)] ((10 - (fmt10 g).length:Nat):Int)=some (List.replicate (10 - (fmt10 g).length) 48):=by
   unfold lQ aiR;have e1:len [(UInt8.ofNat 48)]=1:=rfl;rw[e1,au (by simp only[aH,aY,dA,ayk];exact⟨by omega,by omega,by omega⟩),vK,Xq];rfl
  rw[ef,ai,ew,er,ai,au (dW (by simp only[len,ay,axv];omega)),au (dW (by simp only[len,ay,aJ,awn,axv,awF,axm];omega)),af];unfold jC uT;rw[awg (by unfold jJ at hg;omega)];rfl
theorem ZV:∀(l:List UInt8) (a:Nat),l.foldl (fun n c=>n*10+(c.toNat - 48)) a=a*10^l.length+pU l
 |[],a=>by simp [pU]
 |x::l,a=>by
  have h1:=ZV l (a*10+(x.toNat - 48))
  have h2:=ZV l (0*10+(x.toNat - 48))
  have e:pU (x::l)=l.foldl (fun n c=>n*10+(c.toNat - 48)) (0*10+(x.toNat - 48)):=rfl
  rw[aw6,h1,e,h2,awF,axx,awz,awz,Nat.mul_assoc,ayt 10 (10^l.length)];omega
theorem ahx (c:UInt8) (l:List UInt8):pU (c::l)=(c.toNat - 48)*10^l.length+pU l:=by
 have h2:=ZV l (0*10+(c.toNat - 48));have e:pU (c::l)=l.foldl (fun n c=>n*10+(c.toNat - 48)) (0*10+(c.toNat - 48)):=rfl;rw[e,h2,ax3,axc]
theorem ajG (g:Int) (h:0<=g):u2s [wr .u8 (ay 48 (wr .u8 (ug g 10)))]=[UInt8.ofNat (48+(g%10).toNat)]:=by
 unfold u2s ug;rw[axp h,Ef,Ef,ay];simp only[awS,axQ];congr 2;omega
theorem aiA {g:Int} (h:jJ g):qW g=some (jC g):=by
 refine Wq.eq ?_;unfold qW
 refine Wq.bind (fG (n:=10) (step:=fun v:Int×List UInt8×Int=>qm v.1 v.2.1 v.2.2) (by decide)
  (fun i x=>x.1.length=i/\(∀c∈x.1,Nc c)/\x.2=((g.toNat / 10^i:Nat):Int)/\pU x.1=g.toNat%10^i) (fun w=>w.length=10/\(∀c∈w,Nc c)/\pU w=g.toNat%10^10) ?_ ?_ _ 0 (by decide) ⟨rfl,by simp,?_,by simp [pU,Nat.mod_one]⟩) ?_
 ·rintro i ⟨out,n⟩ hi ⟨h1,h2,h3,h4⟩;simp only at h1 h2 h3 h4;simp only[qm];have hn:0<=n:=by rw[h3];exact Int.natCast_nonneg _
  have hm:=ayy (g.toNat / 10^i) (show 10>0 by decide);have em:(n%10).toNat=g.toNat / 10^i%10:=by rw[h3];omega
  have hle:g.toNat / 10^i<=1000000000:=aw4 (Nat.div_le_self _ _) (by unfold jJ at h;omega);rw[au (pO (by omega)),ajG n hn,em,au (dW (by simp only[ay,len,awY];omega)),af];refine⟨aZ (by omega),?_,?_,?_,?_⟩
  ·simp [aJ,h1]
  ·intro c hc;simp only[aJ,ayU,aww]at hc;rcases hc with rfl | hc
   ·rw[rW,Gn hm];omega
   ·exact h2 c hc
  ·simp only;unfold AL;rw[axM hn,h3,bf (by omega) (by omega),axx,<-Nat.div_div_eq_div_mul];rfl
  ·simp only[aJ,ayU];rw[ahx,Gn hm,h4,h1,axx,Nat.mod_mul];rw[show 48+g.toNat / 10^i%10 - 48=g.toNat / 10^i%10 by omega,ayt];omega
 ·rintro⟨out,n⟩ ⟨h1,h2,h3,h4⟩;simp only[qm];rw[bK (nP (by omega)),af];exact⟨h1,h2,h4⟩
 ·simp only[Nat.pow_zero,Nat.div_one];unfold jJ at h;omega
 ·rintro w ⟨h1,h2,h3⟩;rw[au (dW (by simp only[ay,len];omega)),af];have hv:g.toNat<=1000000000:=by unfold jJ at h;omega
  rw[Nat.mod_eq_of_lt (by omega)]at h3;have:w=aah g.toNat:=aaI 10 _ _ h1 (SA hv) h2 (TJ _) (by rw[h3,TF hv]);rw[this,Sj h];rfl
theorem ama (s:Nm):EG s=some (decide (ji mJ s≠0)):=by
 unfold EG;congr 1;rw[ax5,aG,aP,axW];exact Iff.rfl
theorem ale {s:Nm} (hs:s.length<999999):AQ s=some (ji mJ s):=by
 refine Wq.eq ?_;unfold AQ;have hg:bor (ile 5 (len s)) (ax (ax (ax (ieq (len s) 15))))=true:=by
  simp only[aH,aQ,aX,bn,aG,aF,bg,bC,aY,bI,aI,aP,bG,bJ,len];omega
 rw[au hg,dF];have ht:aV s 5=s.take mJ.length:=rfl;have hp:[(UInt8.ofNat 115),(UInt8.ofNat 110),(UInt8.ofNat 97),(UInt8.ofNat 112),(UInt8.ofNat 46)]=mJ:=rfl;refine⟨fun hc=>(af _).2 ?_,fun hc=> ?_⟩
 ·rw[ht,hp]at hc;simp only[aX,aG,aP,afq,len]at hc;unfold ji;rw[awg];rintro⟨g1,g2, -⟩;rcases hc with c | c
  ·rw[awP]at g2;have:mJ.length=5:=rfl;omega
  ·exact c g1
 ·rw[ht,hp]at hc;simp only[bn,aF,aI,adn,len]at hc;obtain⟨h15,h5⟩:=hc;have h15':s.length=15:=by omega
  have hdl:(s.drop 5).length=10:=by rw[awP];omega
  refine Wq.bind (Q:=fun w=>match w with
   |.inl k=>k=0/\¬∀c∈s.drop 5,Nc c
   |.inr x=>(∀c∈s.drop 5,Nc c)/\x.1=(pU (s.drop 5):Int))
   (fG (n:=15) (step:=fun v:Int×Int×Int=>qE s v.1 v.2.1 v.2.2) (by decide)
     (fun i x=>5<=i/\(∀c∈(s.drop 5).take (i - 5),Nc c)/\x.1=(pU ((s.drop 5).take (i - 5)):Int)) _ ?_ ?_ _ 5 (by decide) ⟨awk _,by simp,by simp [pU]⟩) ?_
  ·rintro i ⟨n,q⟩ hi ⟨h1,h2,h3⟩;simp only at h3;simp only[qE];have his:i<s.length:=by omega
   have hd:i - 5<(s.drop 5).length:=by omega
   have hel:(s.drop 5)[i - 5]=s[i]:=by rw[axH];congr 1;omega
   have hvl:=MP (i - 5) ((s.drop 5).take (i - 5)) (by rw[awu];omega) h2;have hpw:10^(i - 5)<=10^10:=ayD (by decide) (by omega);have h255:=s[i].toNat_lt;rw[au (pO (by omega)),au (inb _ _ his),au (by rw[aX];exact .inl (inb _ _ his)),abb _ _ his,dF];refine⟨fun hb=>(af _).2 ⟨rfl,fun g=> ?_⟩,fun hb=> ?_⟩
   ·have:=rW.1 (g s[i] (by rw[<-hel];exact awl hd));simp only[aH,aQ,aX,bn,aG,aF,bg,bC,aY,bI,aI,aP,bG,bJ]at hb;omega
   ·simp only[aH,aQ,aX,bn,aG,aF,bg,bC,aY,bI,aI,aP,bG,bJ]at hb;rw[au (inb _ _ his),af];have e1:wr .i64 (dA n 10)=n*10:=by rw[dA,bf (by omega) (by omega)]
    have e2:wr .i64 (wr .u8 (aO (s[i].toNat:Int) 48))=(s[i].toNat:Int) - 48:=by
     rw[aO,Ef,bf (by omega) (by omega)];omega
    have e3:i+1 - 5=(i - 5)+1:=by omega
    rw[e1,e2];refine⟨aZ (by omega),by omega,?_,?_⟩
    ·rw[e3,gm hd,hel];intro c hc;rcases awt.1 hc with k | k
     ·exact h2 c k
     ·rw[awC.1 k,rW];omega
    ·simp only;rw[e3,gm hd,hel,Oe,ay,bf (by omega) (by omega),h3];omega
  ·rintro⟨n,q⟩ ⟨h1,h2,h3⟩;simp only[qE];rw[bK (nP (by omega)),af];rw[show(15 - 5:Nat)=(s.drop 5).length by omega,awq]at h2 h3;exact⟨h2,h3⟩
  ·have hsn:mJ.length=5:=rfl;rintro(k | ⟨n,q⟩) hw
   ·simp only[dK,af];unfold ji;rw[hw.1,awg (fun g=>hw.2 g.2.2.1)]
   ·simp only at hw;simp only[dK];rw[xB,hw.2];unfold ji;rw[hsn];split
    ·rename_i hgt;rw[af,awg (fun g=>by have:=g.2.2.2;omega)]
    ·rename_i hgt;rw[af,awh ⟨h5,hdl,hw.1,by omega⟩]
def gy:Nm:=[116,109,112]
theorem oI:iZ gy:=by decide
def CJ (gen:Int) (p:ak×Int) (f:aS):ak×Int:=if ji mJ f.name≠0/\f.name≠jC gen then jm p fun d=>fK d f.name else p
def jS (gen:Int) (p:ak×Int) (l:List aS):ak×Int:=l.foldl (CJ gen) p
def RN (gen:Int) (p:ak×Int):ak×Int×Int:=if p.2≠0 then (p.1,0,p.2)else (p.1,gen,0)
def yX (d:ak):ak×Int:=if dN d.b gy=none then (d,0)else fK d gy
def yV (d:ak) (gen lsn:Int) (b:List Int):ak×Int:=
 jm (jm (jm (jm (yX d) fun d=>dM d gy b) fun d=>pq d gy) fun d=>jH d gy (jC gen)) fun d=>xI d ⟨gen,lsn⟩
open Classical in
noncomputable def mY (d:ak) (s:aB):ak×Int×Int:=
 if ¬iH s\/(dS d).2=1 then (d,0,1)else if (dS d).2=9 then (d,0,9)else if 1000000000<=(dS d).1.K then (d,0,3)else
 RN ((dS d).1.K+1) (jS ((dS d).1.K+1) (yV d ((dS d).1.K+1) s.B (encZ s)) (yV d ((dS d).1.K+1) s.B (encZ s)).1.b)
theorem Nw {gen:Int} {p:ak×Int} (h:p.2≠0):∀l,jS gen p l=p
 |[]=>rfl
 |f::l=>by
  unfold jS
  rw[aw6]
  have:CJ gen p f=p:=by unfold CJ;split;exact dY h;rfl
  rw[this];exact Nw h l
theorem apb (gen:Int) (p:ak×Int) (a b:List aS):jS gen p (a++b)=jS gen (jS gen p a) b:=by unfold jS;rw[ayO]
theorem aoF (gen:Int) (p:ak×Int) (f:aS):jS gen p [f]=CJ gen p f:=rfl
theorem ajU {gen:Int} {d:ak} {p:ak×Int} {f:aS} (h:Keep d p.1):Keep d (CJ gen p f).1:=by
 unfold CJ;split
 ·exact GX h fun e he=>tN he
 ·exact h
theorem alb {gen:Int} {p:ak×Int} {f:aS} (h:iW p.1):iW (CJ gen p f).1:=by
 unfold CJ;split
 ·exact GH h fun e he=>Hg he
 ·exact h
theorem aeA {gen:Int} {d:ak}:∀(l:List aS) {p:ak×Int},Keep d p.1->Keep d (jS gen p l).1
 |[],_,h=>h
 |f::l,p,h=>by unfold jS;rw[aw6];exact aeA l (ajU h)
theorem aeW {gen:Int}:∀(l:List aS) {p:ak×Int},iW p.1->iW (jS gen p l).1
 |[],_,h=>h
 |f::l,p,h=>by unfold jS;rw[aw6];exact aeW l (alb h)
theorem adg {d:ak} (h:fD d):Keep d (yX d).1:=by
 unfold yX;split
 ·exact Keep.refl h
 ·exact tN h
theorem acZ {d:ak} (h:iW d):iW (yX d).1:=by
 unfold yX;split
 ·exact h
 ·exact Hg h
theorem alR {d:ak} {gen lsn:Int} {b:List Int} (h:fD d):Keep d (yV d gen lsn b).1:=
 GX (GX (GX (GX (adg h) fun e he=>tu he) fun e he=>J8 he) fun e he=>Ld he) fun e he=>Uw he
theorem alC {d:ak} {gen lsn:Int} {b:List Int} (h:iW d) (hb:jU b):iW (yV d gen lsn b).1:=
 GH (GH (GH (GH (acZ h) fun e he=>Hf he hb) fun e he=>Nv he) fun e he=>PD he) fun e he=>amy he
theorem ata {d0 d:ak} {e:Int} {gen:Int} (hg:jJ gen) (hd0:fD d0) (hf:inI d0.T) (hk:Keep d0 d):
 Wq (ah (bU (fun v:Int×ig=>bV (len d.b) d.b gen v.1 v.2) LF (0,ig.mk d e)) fun y9=>cnd (ax (ieq y9.e 0)) (some (y9.d,(0:Int),y9.e)) (some (y9.d,gen,0))) fun x=>x=RN gen (jS gen (d,e) d.b):=by
 have hl:=hk.right.fl
 refine Wq.bind (fG (n:=d.b.length) (step:=fun v:Int×ig=>bV (len d.b) d.b gen v.1 v.2) (by omega)
  (fun i x=>(x.d,x.e)=jS gen (d,e) (d.b.take i)/\Keep d0 x.d) (fun w=>(w.d,w.e)=jS gen (d,e) d.b) ?_ ?_ _ 0 (awm _) ⟨rfl,hk⟩) ?_
 ·rintro i ⟨x,n⟩ hi ⟨h1,h2⟩
  simp only at h1 h2
  simp only[bV]
  have hnm:=(hk.right.2.1.1 _ (awl hi)).1
  have hnx:gm hi=gm hi:=rfl
  rw[au (by rw[dm];simpa using hi),au (inb _ i hi),aN _ i hi,ama,ai,gm hi,apb,<-h1,aoF,sN]
  have hx:Ez x:=h2.bnd hf
  by_cases hs:ji mJ d.b[i].name≠0
  ·rw[awh hs,U2,ai,awv hs,qU,cO,aiV]
   unfold CJ
   by_cases hq:d.b[i].name=jC gen
   ·rw[awh hq,af,awg (fun g=>g.2 hq)]
    exact⟨aZ (by omega),rfl,h2⟩
   ·rw[awg hq,awh ⟨hs,hq⟩,dn]
    by_cases h0:n=0
    ·rw[awh h0,afC hx hnm.len,ai,af,then_ok (by exact h0)]
     exact⟨aZ (by omega),rfl,h2.trans (tN h2.right)⟩
    ·rw[awg h0,af,dY (by exact h0)]
     exact⟨aZ (by omega),rfl,h2⟩
  ·rw[awg hs,ai,awR hs,yU,aT,af]
   unfold CJ
   rw[awg (fun g=>hs g.1)]
   exact⟨aZ (by omega),rfl,h2⟩
 ·rintro⟨x,n⟩ ⟨h1,h2⟩
  simp only[bV]
  rw[bK (En _),af]
  rw[awq]at h1
  exact h1
 ·rintro⟨x,n⟩ hw
  rw[<-hw,cO,dn]
  unfold RN
  simp only
  by_cases h0:n=0
  ·rw[awh h0,af,awg (fun g=>g h0)]
  ·rw[awg h0,af,awh h0]
theorem avC {d0:ak} {p:ak×Int} {gen:Int} (hg:jJ gen) (hd0:fD d0) (hf:inI d0.T) (hk:Keep d0 p.1) (l:List aS) (hl:l=p.1.b):
 Wq (ah (bU (fun v:Int×ig=>bV (len p.1.b) p.1.b gen v.1 v.2) LF (0,ig.mk p.1 p.2)) fun y9=>cnd (ax (ieq y9.e 0)) (some (y9.d,(0:Int),y9.e)) (some (y9.d,gen,0))) fun x=>x=RN gen (jS gen p l):=by
 rw[hl];exact ata (d:=p.1) (e:=p.2) hg hd0 hf hk
theorem Iq {d0:ak} {p q:ak×Int} {gen:Int} (hg:jJ gen) (hd0:fD d0) (hf:inI d0.T) (hk:Keep d0 p.1) (hq:q=p):
 Wq (ah (bU (fun v:Int×ig=>bV (len p.1.b) p.1.b gen v.1 v.2) LF (0,ig.mk p.1 p.2)) fun y9=>cnd (ax (ieq y9.e 0)) (some (y9.d,(0:Int),y9.e)) (some (y9.d,gen,0))) fun x=>x=RN gen (jS gen q q.1.b):=by
 rw[hq];exact avC hg hd0 hf hk _ rfl
end Go.Av
